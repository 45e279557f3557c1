/- Contracts of functions of the program, joined from TQa, TQb, TQc, TBf, TQd, TEe, TEg, TEf, TEh, TDa, TDb, TCa, TCb, TBg, TCd, THb, TDc, TEi, THc, THd, THe, THf, TVa: no condition. -/
import Derived.Test.YtblpjknmhajcgaaGreatDoorCM5
set_option linter.unusedSimpArgs false
set_option linter.unusedVariables false
set_option maxRecDepth 10000
set_option maxHeartbeats 8000000
namespace Go.Proofs.YtblpjknmhajcgaaGreatDoor
open Go Go.Sh
def zka (c : Codex) (f : Int) : Bool := match c.facts[f.toNat]? with | some d => decide (d.unit = tT) | none => false
def zfi (e : Ex) : Bool := decide (e.op = 1) || decide (e.op = 2) || (decide (e.op = 4) && (decide (1 <= e.n) && decide (e.n <= 4)))
def zhg (op : Int) : Bool := decide (op = 8) || decide (op = 9) || decide (op = 10)
def simpE (c : Codex) : Ex -> Bool
 | .mk op n u _ _ ks =>
  if op = 1 then decide (u = tT)
  else if op = 2 then zka c n
  else if op = 5 then match ks with | [k] => simpE c k | _ => false
  else if op = 6 \/ op = 7 then match ks with | [k, l] => simpE c k && simpE c l | _ => false
  else match ks with | [k, l] => zhg op && zfi k && zfi l && (decide (k.op = 1) || decide (l.op = 1)) | _ => false
def cP (c : Codex) (f x : Int) (a b : Ex) : Prop := a.op = 2 /\ a.n = f /\ b.op = 1 /\ zka c f = false /\ (x = b.n \/ x = b.n + 1)
def cE (c : Codex) (f x : Int) : Ex -> Prop
  | .mk op n _ _ _ ks => (op = 2 /\ n = f /\ (x = 0 \/ (zka c f = true /\ x = 1))) \/ (match ks with
    | [k] => cE c f x k
    | [k, l] => cE c f x k \/ cE c f x l \/ (zhg op = true /\ (cP c f x k l \/ cP c f x l k))
    | _ => False)
inductive Shape (c : Codex) (m : List (Int × Int)) (op n : Int) (u : ByteArray) (ks : List Ex) : Prop
 | const : op = 1 -> ks = [] -> u = tT -> Shape c m op n u ks
 | fact : op = 2 -> ks = [] -> 0 <= n /\ n < c.facts.length -> zka c n = true -> Shape c m op n u ks
 | neg (k : Ex) : op = 5 -> ks = [k] -> zen c m k -> k.unit = tT -> Shape c m op n u ks
 | conn (k l : Ex) : op = 6 \/ op = 7 -> ks = [k, l] -> zen c m k -> zen c m l -> k.unit = tT -> l.unit = tT -> Shape c m op n u ks
 | cmp (k l : Ex) : op = 8 \/ op = 9 \/ op = 10 -> ks = [k, l] -> zen c m k -> zen c m l -> Shape c m op n u ks
 | other : op ≠ 1 -> op ≠ 2 -> op ≠ 5 -> ¬(op = 6 \/ op = 7) -> ¬(op = 8 \/ op = 9 \/ op = 10) -> Shape c m op n u ks
theorem zzl {c : Codex} {m : List (Int × Int)} {op n : Int} {u : ByteArray} {den : Int} {ps : List Piece} {ks : List Ex} (h : qo c m op n u den ps ks = true) (h2 : op = 2) : zka c n = decide (u = tT) := by
 have hl := (zcz h (by omega)).2
 unfold zav at hl
 rw [if_neg (by omega), if_pos h2] at hl
 simp only [Bool.and_eq_true, decide_eq_true_eq] at hl
 have h3 := hl.2
 unfold zcs at h3
 unfold zka
 cases hg : c.facts[n.toNat]? with
 | none => rw [hg] at h3; cases h3
 | some d =>
  rw [hg] at h3
  have h3 := of_decide_eq_true h3
  rw [h3]
theorem ztz {c : Codex} {m : List (Int × Int)} {op n : Int} {u : ByteArray} {den : Int} {ps : List Piece} {ks : List Ex} (h : qo c m op n u den ps ks = true) (h2 : op = 1) : 0 <= n /\ n <= 999999999999 := by
 have hl := (zcz h (by omega)).2
 unfold zav at hl
 rw [if_pos h2] at hl
 simp only [Bool.and_eq_true, decide_eq_true_eq] at hl
 exact hl.1
theorem zjk {c : Codex} {m : List (Int × Int)} {op n : Int} {u : ByteArray} {den : Int} {ps : List Piece} {ks : List Ex} (h : zen c m (.mk op n u den ps ks)) (hu : u = tT) : Shape c m op n u ks := by
 unfold zen at h
 obtain ⟨hn, hk⟩ := h
 by_cases h1 : op = 1
 ·exact .const h1 (zcz hn (by omega)).1 hu
 by_cases h2 : op = 2
 ·exact .fact h2 (zcz hn (by omega)).1 (zda hn h2) (by rw [zzl hn h2]; simpa using hu)
 by_cases h5 : op = 5
 ·obtain ⟨k, rfl⟩ := zwf hn h5
  obtain ⟨_, f, l, hf, hl, g⟩ := zwe hn (by omega)
  simp only [List.head?_cons, Option.some.injEq] at hf
  subst hf
  unfold zak at g
  rw [if_pos h5] at g
  simp only [Bool.and_eq_true, decide_eq_true_eq] at g
  exact .neg k h5 rfl (wx hk k (by simp)) g.2
 by_cases h6 : op = 6 \/ op = 7
 ·obtain ⟨k, l, rfl⟩ := zjg hn (by omega)
  obtain ⟨_, f, l', hf, hl, g⟩ := zwe hn (by omega)
  simp only [List.head?_cons, Option.some.injEq] at hf
  subst hf
  unfold zak at g
  rw [if_neg h5, if_pos h6] at g
  simp only [Bool.and_eq_true, decide_eq_true_eq] at g
  have hs := g.1.2
  unfold zbp at hs
  simp only [List.all_cons, List.all_nil, Bool.and_eq_true, decide_eq_true_eq] at hs
  exact .conn k l h6 rfl (wx hk k (by simp)) (wx hk l (by simp)) g.2 (by rw [hs.2.1, g.2])
 by_cases h8 : op = 8 \/ op = 9 \/ op = 10
 ·obtain ⟨k, l, rfl⟩ := zjg hn (by omega)
  exact .cmp k l h8 rfl (wx hk k (by simp)) (wx hk l (by simp))
 exact .other h1 h2 h5 h6 h8
structure LeafE (c : Codex) (k : Ex) : Prop where
 no : k.kids = []
 k1 : k.op = 1 -> 0 <= k.n /\ k.n <= 999999999999
 k2 : k.op = 2 -> 0 <= k.n /\ k.n < c.facts.length /\ zka c k.n = decide (k.unit = tT)
 k4 : k.op = 4 -> 1 <= k.n /\ k.n <= 4
theorem zei {c : Codex} {m : List (Int × Int)} {k : Ex} (h : zen c m k) (hp : k.op = 1 \/ k.op = 2 \/ k.op = 4) : LeafE c k := by
 obtain ⟨op, n, u, den, ps, ks⟩ := k
 unfold zen at h
 change op = 1 \/ op = 2 \/ op = 4 at hp
 exact ⟨(zcz h.1 (by omega)).1, fun e => ztz h.1 e, fun e => ⟨(zda h.1 e).1, (zda h.1 e).2, zzl h.1 e⟩, fun e => zrh h.1 e⟩
theorem zfb {e : Ex} (h : zfi e = true) : e.op = 1 \/ e.op = 2 \/ e.op = 4 := by
 unfold zfi at h
 simp only [Bool.or_eq_true, Bool.and_eq_true, decide_eq_true_eq] at h
 omega
theorem part_of {c : Codex} {m : List (Int × Int)} {e : Ex} (ha : zen c m e) : zfi e = (decide (e.op = 1) || decide (e.op = 2) || decide (e.op = 4)) := by
 unfold zfi
 by_cases h4 : e.op = 4
 ·have := (zei ha (.inr (.inr h4))).k4 h4
  simp [h4, this]
 ·simp [h4]
theorem zwh {c : Codex} {f x : Int} {k : Ex} (h : LeafE c k) : cE c f x k ↔ (k.op = 2 /\ k.n = f /\ (x = 0 \/ (zka c f = true /\ x = 1))) := by
 obtain ⟨op, n, u, den, ps, ks⟩ := k
 have hk : ks = [] := h.no
 subst hk
 unfold cE
 simp [Ex.op, Ex.n]
def zdc (q : Sr) (f : Int) : List Int := (zt f q.cands).getD []
def zrn (q : Sr) : Prop := ∀ e ∈ q.cands, (0 : Int) ∈ e.2
theorem zkz {x : Int} : ∀ (vs l : List Int), x ∈ vs.foldl wz l ↔ x ∈ l \/ (x ∈ vs /\ x <= 1000000000000)
 | [], l => by simp
 | v :: vs, l => by
  rw [List.foldl_cons, zkz vs]
  unfold wz
  by_cases h : v <= 1000000000000
  ·rw [if_pos h]
   by_cases hm : v ∈ l
   ·rw [if_pos hm]
    constructor
    ·rintro (h1 | ⟨h1, h2⟩)
     ·exact .inl h1
     ·exact .inr ⟨by simp [h1], h2⟩
    ·rintro (h1 | ⟨h1, h2⟩)
     ·exact .inl h1
     ·rcases List.mem_cons.1 h1 with rfl | h1
      ·exact .inl hm
      ·exact .inr ⟨h1, h2⟩
   ·rw [if_neg hm]
    constructor
    ·rintro (h1 | ⟨h1, h2⟩)
     ·rcases List.mem_append.1 h1 with h1 | h1
      ·exact .inl h1
      ·simp at h1; subst h1; exact .inr ⟨by simp, h⟩
     ·exact .inr ⟨by simp [h1], h2⟩
    ·rintro (h1 | ⟨h1, h2⟩)
     ·exact .inl (by simp [h1])
     ·rcases List.mem_cons.1 h1 with rfl | h1
      ·exact .inl (by simp)
      ·exact .inr ⟨h1, h2⟩
  ·rw [if_neg h]
   constructor
   ·rintro (h1 | ⟨h1, h2⟩)
    ·exact .inl h1
    ·exact .inr ⟨by simp [h1], h2⟩
   ·rintro (h1 | ⟨h1, h2⟩)
    ·exact .inl h1
    ·rcases List.mem_cons.1 h1 with rfl | h1
     ·exact absurd h2 h
     ·exact .inr ⟨h1, h2⟩
theorem zwi {q : Sr} {f g x : Int} {vs : List Int} : x ∈ zdc (q.cand f vs) g ↔ x ∈ zdc q g \/ (g = f /\ x ∈ vs /\ x <= 1000000000000) := by
 have hlk : zt g (q.cand f vs).cands = if g == f then some (vs.foldl wz ((zt f q.cands).getD [])) else zt g q.cands := jm g f _ _
 unfold zdc
 rw [hlk]
 by_cases h : g = f
 ·subst h
  simp only [beq_self_eq_true, if_true, Option.getD_some]
  rw [zkz]
  simp
 ·rw [if_neg (by simpa using h)]
  simp [h]
theorem zro {q : Sr} (h : zrn q) (f : Int) {vs : List Int} (hv : (0 : Int) ∈ vs) : zrn (q.cand f vs) := fun e he => by
 rcases zjb he with rfl | he
 ·show (0 : Int) ∈ vs.foldl wz _
  rw [zkz]
  exact .inr ⟨hv, by omega⟩
 ·exact h e he
theorem zme (s : Sr) (a b : Ex) : (cmpCand s a b).dates = s.dates := by
 unfold cmpCand
 split
 ·rfl
 ·split <;> rfl
theorem zok {s : Sr} (h : zrn s) (a b : Ex) : zrn (cmpCand s a b) := by
 unfold cmpCand
 split
 ·exact h
 ·split
  ·exact zro h _ (by simp)
  ·exact zro h _ (by simp)
theorem zrp {c : Codex} {s : Sr} {a b : Ex} {f x : Int} (ha : LeafE c a) (hb : LeafE c b) (h1 : a.op = 1 \/ b.op = 1) : x ∈ zdc (cmpCand s a b) f ↔ x ∈ zdc s f \/ (cE c f x a \/ cP c f x a b) := by
 rw [zwh ha]
 unfold cmpCand cP
 by_cases h2 : a.op = 2
 ·rw [if_neg (by simp [h2])]
  have hb1 : b.op = 1 := by omega
  have hbn := hb.k1 hb1
  have hu := (ha.k2 h2).2.2
  split
  ·rename_i e
   rw [e] at hu
   simp only [decide_true] at hu
   rw [zwi]
   constructor
   ·rintro (h | ⟨h3, h4, h5⟩)
    ·exact .inl h
    ·subst h3
     simp at h4
     exact .inr (.inl ⟨h2, rfl, h4.imp id fun h => ⟨hu, h⟩⟩)
   ·rintro (h | ⟨_, h3, h4⟩ | ⟨_, h3, _, h4, h5⟩)
    ·exact .inl h
    ·refine .inr ⟨h3.symm, ?_, ?_⟩
     ·rcases h4 with h4 | h4 <;> simp [h4]
     ·omega
    ·subst h3; rw [hu] at h4; cases h4
  ·rename_i e
   have hu : zka c a.n = false := by rw [hu]; simpa using e
   rw [zwi]
   constructor
   ·rintro (h | ⟨h3, h4, h5⟩)
    ·exact .inl h
    ·subst h3
     simp at h4
     rcases h4 with h4 | h4
     ·exact .inr (.inl ⟨h2, rfl, .inl h4⟩)
     ·exact .inr (.inr ⟨h2, rfl, hb1, hu, h4⟩)
   ·rintro (h | ⟨_, h3, h4⟩ | ⟨_, h3, _, h4, h5⟩)
    ·exact .inl h
    ·subst h3
     rcases h4 with h4 | h4
     ·exact .inr ⟨rfl, by simp [h4], by omega⟩
     ·rw [hu] at h4; cases h4.1
    ·exact .inr ⟨h3.symm, by rcases h5 with h5 | h5 <;> simp [h5], by omega⟩
 ·rw [if_pos h2]
  constructor
  ·exact .inl
  ·rintro (h | ⟨h, _⟩ | ⟨h, _⟩)
   ·exact h
   ·exact absurd h h2
   ·exact absurd h h2
theorem zjl : ∀ (ks : List Ex) (q : Sr) (n : Int) (s1 : Sr) (k : Int), xt ks q n = (true, s1, k) -> q.dates.length = 5 -> (∀ e ∈ ks, e.op = 4 -> 1 <= e.n /\ e.n <= 4) ->
  s1.dates.length = 5 /\ (∀ j, q.dates.getD j false = true -> s1.dates.getD j false = true) /\ (∀ e ∈ ks, e.op = 4 -> s1.dates.getD e.n.toNat false = true) /\ s1.cands = q.cands
 | [], q, n, s1, k, h, h5, _ => by
  simp only [xt, Prod.mk.injEq] at h
  obtain ⟨_, rfl, _⟩ := h
  exact ⟨h5, fun _ h => h, fun _ h => (by cases h), rfl⟩
 | e :: r, q, n, s1, k, h, h5, hd => by
  simp only [xt] at h
  split at h
  ·rename_i h1
   obtain ⟨a1, a2, a3, a4⟩ := zjl r q _ s1 k h h5 fun x hx => hd x (by simp [hx])
   refine ⟨a1, a2, fun x hx h4 => ?_, a4⟩
   rcases List.mem_cons.1 hx with rfl | hx
   ·omega
   ·exact a3 x hx h4
  ·split at h
   ·rename_i h4
    have hr := hd e (by simp) h4
    obtain ⟨a1, a2, a3, a4⟩ := zjl r (q.date e.n) _ s1 k h (by simp [Sr.date, h5]) fun x hx => hd x (by simp [hx])
    have hset : ∀ j, (q.date e.n).dates.getD j false = if e.n.toNat = j /\ j < q.dates.length then true else q.dates.getD j false := fun j => zeu _ _ _ _ _
    refine ⟨a1, fun j hj => a2 j (by rw [hset]; split; rfl; exact hj), fun x hx h4 => ?_, a4⟩
    rcases List.mem_cons.1 hx with rfl | hx
    ·exact a2 _ (by rw [hset, if_pos ⟨rfl, by omega⟩])
    ·exact a3 x hx h4
   ·split at h
    ·rename_i h2
     obtain ⟨a1, a2, a3, a4⟩ := zjl r q _ s1 k h h5 fun x hx => hd x (by simp [hx])
     refine ⟨a1, a2, fun x hx h4 => ?_, a4⟩
     rcases List.mem_cons.1 hx with rfl | hx
     ·omega
     ·exact a3 x hx h4
    ·cases h
theorem yry (l r : Ex) (q : Sr) : ((xt [l, r] q 0).1 && !decide ((xt [l, r] q 0).2.2 = 0)) = ((decide (l.op = 1) || decide (l.op = 2) || decide (l.op = 4)) && (decide (r.op = 1) || decide (r.op = 2) || decide (r.op = 4)) && (decide (l.op = 1) || decide (r.op = 1))) := by
 simp only [xt]
 by_cases l1 : l.op = 1
 ·by_cases r1 : r.op = 1
  ·simp [l1, r1]
  ·by_cases r4 : r.op = 4
   ·simp [l1, r4]
   ·by_cases r2 : r.op = 2
    ·simp [l1, r2]
    ·simp [l1, r1, r2, r4]
 ·by_cases l4 : l.op = 4
  ·by_cases r1 : r.op = 1
   ·simp [l4, r1]
   ·by_cases r4 : r.op = 4
    ·simp [l4, r4]
    ·by_cases r2 : r.op = 2
     ·simp [l4, r2]
     ·simp [l4, r1, r2, r4]
  ·by_cases l2 : l.op = 2
   ·by_cases r1 : r.op = 1
    ·simp [l2, r1]
    ·by_cases r4 : r.op = 4
     ·simp [l2, r4]
     ·by_cases r2 : r.op = 2
      ·simp [l2, r2]
      ·simp [l2, r1, r2, r4]
   ·simp [l1, l2, l4]
structure SimpR (c : Codex) (q : Sr) (e : Ex) (x : Cond) (q' : Sr) : Prop where
 tru : ∀ p vs, x.tru p vs = holdsE p vs e
 mem : ∀ f x, x ∈ zdc q' f ↔ x ∈ zdc q f \/ cE c f x e
 zero : zrn q -> zrn q'
 len : q'.dates.length = 5
 dates : x.dateIn q'.dates
 dgrow : ∀ j, q.dates.getD j false = true -> q'.dates.getD j false = true
theorem Cond.dateIn_mono {d d' : List Bool} (h : ∀ j, d.getD j false = true -> d'.getD j false = true) : ∀ c : Cond, c.dateIn d -> c.dateIn d'
 | .none, _ => trivial
 | .plain _, hc => fun e => ⟨(hc e).1, (hc e).2.1, h _ (hc e).2.2⟩
 | .cmp _ _ _, hc => ⟨fun e => ⟨(hc.1 e).1, (hc.1 e).2.1, h _ (hc.1 e).2.2⟩, fun e => ⟨(hc.2 e).1, (hc.2 e).2.1, h _ (hc.2 e).2.2⟩⟩
 | .neg c, hc => Cond.dateIn_mono h c hc
 | .conn _ l r, hc => ⟨Cond.dateIn_mono h l hc.1, Cond.dateIn_mono h r hc.2⟩
theorem znm {op : Int} (h : op = 8 \/ op = 9 \/ op = 10) (n : Int) (u : ByteArray) (den : Int) (ps : List Piece) (k l : Ex) (p : zep) (vs : List Int) :
  holdsE p vs (.mk op n u den ps [k, l]) = zsf op (zdb p vs k) (zdb p vs l) := by
 unfold holdsE
 rw [if_neg (by omega), if_neg (by omega), if_neg (by omega), if_neg (by omega)]
theorem zfw {op : Int} (h : op = 8 \/ op = 9 \/ op = 10) (c : Codex) (n : Int) (u : ByteArray) (den : Int) (ps : List Piece) (k l : Ex) :
  simpE c (.mk op n u den ps [k, l]) = (zfi k && zfi l && (decide (k.op = 1) || decide (l.op = 1))) := by
 have hc : zhg op = true := by unfold zhg; rcases h with rfl | rfl | rfl <;> rfl
 unfold simpE
 rw [if_neg (by omega), if_neg (by omega), if_neg (by omega), if_neg (by omega)]
 simp only [hc, Bool.true_and]
theorem yrz {c : Codex} {m : List (Int × Int)} {op : Int} (hop : op = 8 \/ op = 9 \/ op = 10) (n : Int) (u : ByteArray) (den : Int) (ps : List Piece) {l r : Ex} (hl : zen c m l) (hr : zen c m r) (q : Sr) (h5 : q.dates.length = 5) :
  (cmpOf q op [l, r]).2.1 = simpE c (.mk op n u den ps [l, r]) /\ ((cmpOf q op [l, r]).2.1 = true -> SimpR c q (.mk op n u den ps [l, r]) (cmpOf q op [l, r]).1 (cmpOf q op [l, r]).2.2) := by
 have hok := yry l r q
 rw [zfw hop, part_of hl, part_of hr, <- hok]
 have hc : zhg op = true := by unfold zhg; rcases hop with rfl | rfl | rfl <;> rfl
 unfold cmpOf
 cases hz : xt [l, r] q 0 with
 | mk b z =>
  obtain ⟨s1, k⟩ := z
  cases b with
  | false => exact ⟨rfl, fun h => by cases h⟩
  | true =>
   simp only
   by_cases hn : k = 0
   ·rw [if_pos hn]; exact ⟨by simp [hn], fun h => by cases h⟩
   ·rw [if_neg hn]
    obtain ⟨t1, t2, t3⟩ := yer hz hn
    have hll := zei hl (by omega)
    have hlr := zei hr (by omega)
    obtain ⟨d1, d2, d3, d4⟩ := zjl _ _ _ _ _ hz h5 (fun e he h4 => by
     rcases List.mem_cons.1 he with rfl | he
     ·exact hll.k4 h4
     ·simp at he; subst he; exact hlr.k4 h4)
    have hcd : (cmpCand (cmpCand s1 l r) r l).dates = s1.dates := by rw [zme, zme]
    have hcl : ∀ f, zdc s1 f = zdc q f := fun f => by unfold zdc; rw [d4]
    have hmem : ∀ f x, x ∈ zdc (cmpCand (cmpCand s1 l r) r l) f ↔ x ∈ zdc q f \/ cE c f x (.mk op n u den ps [l, r]) := fun f x => by
     rw [zrp hlr hll (by omega), zrp hll hlr (by omega), hcl]
     rw [cE.eq_def c f x (.mk op n u den ps [l, r])]
     simp only [hc, true_and]
     constructor
     ·rintro ((h | h | h) | h | h)
      ·exact .inl h
      ·exact .inr (.inr (.inl h))
      ·exact .inr (.inr (.inr (.inr (.inl h))))
      ·exact .inr (.inr (.inr (.inl h)))
      ·exact .inr (.inr (.inr (.inr (.inr h))))
     ·rintro (h | h | h | h | h | h)
      ·exact .inl (.inl h)
      ·omega
      ·exact .inl (.inr (.inl h))
      ·exact .inr (.inl h)
      ·exact .inl (.inr (.inr h))
      ·exact .inr (.inr h)
    have hz1 : zrn q -> zrn (cmpCand (cmpCand s1 l r) r l) := fun h => zok (zok (by unfold zrn; rw [d4]; exact h) _ _) _ _
    have hdi : Cond.dateIn s1.dates (.cmp op ⟨l.op, l.n⟩ ⟨r.op, r.n⟩) := ⟨fun e => ⟨(hll.k4 e).1, (hll.k4 e).2, d3 l (by simp) e⟩, fun e => ⟨(hlr.k4 e).1, (hlr.k4 e).2, d3 r (by simp) e⟩⟩
    refine ⟨by simp [hn], fun _ => ?_⟩
    have htru : ∀ p vs, Cond.tru p vs (.cmp op ⟨l.op, l.n⟩ ⟨r.op, r.n⟩) = holdsE p vs (.mk op n u den ps [l, r]) := fun p vs => by rw [znm hop]; rfl
    split
    ·exact ⟨htru, hmem, hz1, by show (cmpCand (cmpCand s1 l r) r l).dates.length = 5; rw [hcd]; exact d1, by show Cond.dateIn (cmpCand (cmpCand s1 l r) r l).dates _; rw [hcd]; exact hdi, fun j hj => by show (cmpCand (cmpCand s1 l r) r l).dates.getD j false = true; rw [hcd]; exact d2 j hj⟩
    ·exact ⟨htru, hmem, hz1, by rw [hcd]; exact d1, by rw [hcd]; exact hdi, fun j hj => by rw [hcd]; exact d2 j hj⟩
theorem zjm {c : Codex} {m : List (Int × Int)} : ∀ (N : Nat) (e : Ex) (q : Sr), SizeOf.sizeOf e < N -> zen c m e -> e.unit = tT -> q.dates.length = 5 ->
  (simpleOf e q).2.1 = simpE c e /\ ((simpleOf e q).2.1 = true -> SimpR c q e (simpleOf e q).1 (simpleOf e q).2.2)
 | 0, _, _, h, _, _, _ => by omega
 | N + 1, .mk op n u den ps ks, q, hN, h, hu, h5 => by
  simp only [Ex.mk.sizeOf_spec] at hN
  have hu : u = tT := hu
  rw [zid]
  cases zjk h hu with
  | const h1 hk hu' =>
   subst h1 hk
   rw [if_pos rfl]
   refine ⟨by unfold simpE; rw [if_pos rfl]; exact (decide_eq_true hu').symm, fun _ => ⟨fun p vs => ?_, fun f x => ?_, fun h => h, h5, fun e => ?_, fun _ h => h⟩⟩
   ·unfold holdsE; rfl
   ·unfold cE; simp
   ·exact absurd e (show ¬ (1 : Int) = 4 by decide)
  | fact h1 hk hr ht =>
   subst h1 hk
   rw [if_neg (by decide), if_pos rfl]
   refine ⟨by unfold simpE; rw [if_neg (by decide), if_pos rfl]; exact ht.symm, fun _ => ⟨fun p vs => ?_, fun f x => ?_, fun h => zro h _ (by simp), h5, fun e => ?_, fun _ h => h⟩⟩
   ·unfold holdsE; rfl
   ·rw [zwi]
    unfold cE
    simp only [true_and, or_false]
    constructor
    ·rintro (h | ⟨h1, h2, h3⟩)
     ·exact .inl h
     ·subst h1
      simp at h2
      exact .inr ⟨rfl, h2.imp id fun h => ⟨ht, h⟩⟩
    ·rintro (h | ⟨h1, h2⟩)
     ·exact .inl h
     ·exact .inr ⟨h1.symm, by rcases h2 with h2 | h2 <;> simp [h2], by omega⟩
   ·exact absurd e (show ¬ (2 : Int) = 4 by decide)
  | neg k h1 hk hka hku =>
   subst h1 hk
   rw [if_neg (by decide), if_neg (by decide), if_neg (by decide), if_pos rfl]
   simp only [List.cons.sizeOf_spec] at hN
   obtain ⟨a, b⟩ := zjm N k q (by omega) hka hku h5
   refine ⟨by rw [simpE.eq_def]; simp only [show ¬ (5 : Int) = 1 by decide, show ¬ (5 : Int) = 2 by decide, if_false, if_true]; exact a, fun hs => ?_⟩
   have b := b hs
   refine ⟨fun p vs => ?_, fun f x => ?_, b.zero, b.len, b.dates, b.dgrow⟩
   ·rw [holdsE.eq_def]
    simp only [if_true, Cond.tru]
    rw [b.tru]
   ·rw [cE.eq_def]
    simp only [show ¬ (5 : Int) = 2 by decide, false_and, false_or]
    exact b.mem f x
  | conn k l h1 hk hka hla hku hlu =>
   subst hk
   rw [if_neg (by omega), if_neg (by omega), if_neg (by omega), if_neg (by omega), if_pos h1]
   simp only [List.cons.sizeOf_spec] at hN
   obtain ⟨a, b⟩ := zjm N k q (by omega) hka hku h5
   have hsE : simpE c (.mk op n u den ps [k, l]) = (simpE c k && simpE c l) := by
    rw [simpE.eq_def]
    simp only
    rw [if_neg (by omega), if_neg (by omega), if_neg (by omega), if_pos h1]
   simp only
   rw [hsE]
   by_cases hk : (simpleOf k q).2.1 = true
   ·have b := b hk
    obtain ⟨a', b'⟩ := zjm N l (simpleOf k q).2.2 (by omega) hla hlu b.len
    refine ⟨by rw [<- a, hk, a']; try rfl, fun hs => ?_⟩
    rw [hk, Bool.true_and] at hs
    have b' := b' hs
    refine ⟨fun p vs => ?_, fun f x => ?_, fun h => b'.zero (b.zero h), b'.len, ⟨Cond.dateIn_mono b'.dgrow _ b.dates, b'.dates⟩, fun j hj => b'.dgrow j (b.dgrow j hj)⟩
    ·rw [holdsE.eq_def]
     simp only [Cond.tru]
     rw [b.tru, b'.tru]
     rcases h1 with rfl | rfl
     ·rfl
     ·rfl
    ·have hc : zhg op = false := by unfold zhg; rcases h1 with rfl | rfl <;> rfl
     rw [b'.mem, b.mem, cE.eq_def c f x (.mk op n u den ps [k, l])]
     simp only [hc]
     constructor
     ·rintro ((h | h) | h)
      ·exact .inl h
      ·exact .inr (.inr (.inl h))
      ·exact .inr (.inr (.inr (.inl h)))
     ·rintro (h | h | h | h | h)
      ·exact .inl (.inl h)
      ·omega
      ·exact .inl (.inr h)
      ·exact .inr h
      ·cases h.1
   ·have hk : (simpleOf k q).2.1 = false := by simpa using hk
    rw [<- a, hk]
    exact ⟨by simp, fun h => by simp at h⟩
  | cmp k l h1 hk hka hla =>
   subst hk
   rw [if_neg (by omega), if_neg (by omega), if_pos h1]
   exact yrz h1 n u den ps hka hla q h5
  | other h1 h2 h3 h4 h5' =>
   rw [if_neg h1, if_neg h2, if_neg h5', if_neg h3, if_neg h4]
   refine ⟨?_, fun h => by cases h⟩
   unfold simpE
   rw [if_neg h1, if_neg h2, if_neg h3, if_neg h4]
   have hc : zhg op = false := by unfold zhg; simp; omega
   split
   ·simp [hc]
   ·rfl
structure RefOK (c : Codex) (q : Sr) (es : List Ex) : Prop where
 len : q.dates.length = 5
 zero : zrn q
 mem : ∀ f x, x ∈ zdc q f ↔ ∃ e ∈ es, cE c f x e
 sat : ∀ p vs, yon q.conds p vs ↔ ∀ e ∈ es, holdsE p vs e = true
 dates : ∀ x ∈ q.conds, x.dateIn q.dates
def zzm (c : Codex) (m : List (Int × Int)) (e : Ex) : Prop := zen c m e /\ e.unit = tT
theorem yes {c : Codex} {m : List (Int × Int)} (hm : zoh m) (hF : c.facts.length <= 12) : ∀ (es done : List Ex) (q : Sr), (∀ e ∈ es, zzm c m e) -> RefOK c q done ->
  (zdh es q).isSome = es.all (simpE c) /\ ∀ q', zdh es q = some q' -> RefOK c q' (done ++ es)
 | [], done, q, _, hq => ⟨rfl, fun q' h => by simp only [zdh, Option.some.injEq] at h; subst h; simpa using hq⟩
 | e :: r, done, q, he, hq => by
  obtain ⟨hea, heu⟩ := he e (by simp)
  have h1 := zjm _ e q (Nat.lt_succ_self _) hea heu hq.len
  have h4 := zay _ e q (Nat.lt_succ_self _) (znk hm (by omega) _ e (Nat.lt_succ_self _) hea)
  rw [zdh, List.all_cons]
  generalize simpleOf e q = z at h1 h4
  obtain ⟨cd, b, q1⟩ := z
  simp only at h1 h4 ⊢
  cases b with
  | false => rw [<- h1.1]; exact ⟨rfl, fun _ h => by cases h⟩
  | true =>
   obtain ⟨h1, h2⟩ := h1
   have h2 := h2 rfl
   have hn : RefOK c { q1 with conds := q1.conds ++ [cd] } (done ++ [e]) := by
    refine ⟨h2.len, h2.zero hq.zero, fun f x => ?_, fun p vs => ?_, fun x hx => ?_⟩
    ·show x ∈ zdc q1 f ↔ _
     rw [h2.mem, hq.mem]
     simp [or_and_right, exists_or]
    ·have := hq.sat p vs
     unfold yon at this ⊢
     simp only [h4, List.mem_append, List.mem_singleton, or_imp, forall_and, forall_eq]
     rw [this, h2.tru]
    ·show x.dateIn q1.dates
     simp only [h4, List.mem_append, List.mem_singleton] at hx
     rcases hx with hx | rfl
     ·exact Cond.dateIn_mono h2.dgrow _ (hq.dates x hx)
     ·exact h2.dates
   obtain ⟨g1, g2⟩ := yes hm hF r (done ++ [e]) _ (fun x hx => he x (by simp [hx])) hn
   rw [<- h1, Bool.true_and]
   exact ⟨g1, fun q' h => by have := g2 q' h; simpa using this⟩
theorem yet {c : Codex} {m : List (Int × Int)} (hm : zoh m) (hF : c.facts.length <= 12) (ha : ∀ a ∈ c.arts, ∀ e ∈ a.when_, zzm c m e) : ∀ (vs : List Int) (done : List Ex) (q : Sr), (∀ v ∈ vs, 0 <= v /\ v < c.arts.length) -> RefOK c q done ->
  (zal c vs q).isSome = (yl c vs).all (simpE c) /\ ∀ q', zal c vs q = some q' -> RefOK c q' (done ++ yl c vs)
 | [], done, q, _, hq => ⟨rfl, fun q' h => by simp only [zal, Option.some.injEq] at h; subst h; simpa [yl] using hq⟩
 | v :: r, done, q, hv, hq => by
  have hc : yl c (v :: r) = zjz c v ++ yl c r := rfl
  rw [zal, hc, List.all_append]
  have hvr := hv v (by simp)
  cases hav : wy c v with
  | none =>
   exfalso
   unfold wy at hav
   simp at hav
   omega
  | some a =>
   have hw : zjz c v = a.when_ := by unfold zjz; rw [hav]
   obtain ⟨g1, g2⟩ := yes hm hF a.when_ done q (ha a (zfs hav)) hq
   rw [hw]
   simp only
   cases hwn : zdh a.when_ q with
   | none =>
    rw [hwn] at g1
    simp only
    rw [<- g1]
    exact ⟨rfl, fun _ h => by cases h⟩
   | some q1 =>
    rw [hwn] at g1
    simp only
    rw [<- g1]
    obtain ⟨f1, f2⟩ := yet hm hF ha r (done ++ a.when_) q1 (fun x hx => hv x (by simp [hx])) (g2 q1 hwn)
    exact ⟨by simpa using f1, fun q' h => by have := f2 q' h; simpa using this⟩
theorem ywa (c : Codex) : RefOK c sr0 [] := ⟨rfl, fun e he => by simp [sr0] at he, fun f x => by simp [zdc, sr0, zt], fun p vs => by simp [yon, sr0], fun x hx => by simp [sr0] at hx⟩
def zmf (v : Int) (l : List Int) (r : Int) : Int := l.foldl (fun r x => if x <= v /\ r < x then x else r) r
theorem zej (v : Int) : ∀ (l : List Int) (r : Int), r <= v -> r <= zmf v l r /\ zmf v l r <= v /\ (zmf v l r = r \/ zmf v l r ∈ l) /\ ∀ x ∈ l, x <= v -> x <= zmf v l r
 | [], r, h => ⟨Int.le_refl _, h, .inl rfl, fun x hx => by cases hx⟩
 | y :: l, r, h => by
  have e : zmf v (y :: l) r = zmf v l (if y <= v /\ r < y then y else r) := rfl
  rw [e]
  by_cases hy : y <= v /\ r < y
  ·rw [if_pos hy]
   obtain ⟨a, b, d, g⟩ := zej v l y hy.1
   refine ⟨by omega, b, .inr ?_, fun x hx hv => ?_⟩
   ·rcases d with d | d
    ·rw [d]; simp
    ·simp [d]
   ·rcases List.mem_cons.1 hx with rfl | hx
    ·exact a
    ·exact g x hx hv
  ·rw [if_neg hy]
   obtain ⟨a, b, d, g⟩ := zej v l r h
   refine ⟨a, b, d.imp id fun d => by simp [d], fun x hx hv => ?_⟩
   rcases List.mem_cons.1 hx with rfl | hx
   ·omega
   ·exact g x hx hv
def ynh (nf : Nat) (q : Sr) (v : List Int) : List Int := (List.range nf).map fun (i : Nat) => zmf (v.getD i 0) (zdc q i) 0
theorem zpg (nf : Nat) (q : Sr) (v : List Int) (i : Nat) : (ynh nf q v).getD i 0 = if i < nf then zmf (v.getD i 0) (zdc q i) 0 else 0 := by
 unfold ynh
 rw [List.getD_eq_getElem?_getD, List.getElem?_map]
 by_cases h : i < nf
 ·rw [if_pos h, List.getElem?_range h]; rfl
 ·rw [if_neg h, List.getElem?_eq_none (by simp; omega)]; rfl
theorem ysa {op v v' n : Int} (h : v' <= v) (h1 : n <= v -> n <= v') (h2 : n + 1 <= v -> n + 1 <= v') : zsf op v' n = zsf op v n /\ zsf op n v' = zsf op n v := by
 unfold zsf
 constructor
 ·split
  ·rw [decide_eq_decide]; omega
  ·split
   ·rw [decide_eq_decide]; omega
   ·rw [decide_eq_decide]; omega
 ·split
  ·rw [decide_eq_decide]; omega
  ·split
   ·rw [decide_eq_decide]; omega
   ·rw [decide_eq_decide]; omega
theorem zua {p : zep} {vs : List Int} {e : Ex} (h : e.op = 2) : zdb p vs e = vs.getD e.n.toNat 0 := by unfold zdb; rw [if_pos h]
theorem zrq {p : zep} {vs : List Int} {e : Ex} (h : e.op = 1) : zdb p vs e = e.n := by unfold zdb; rw [if_neg (by omega), if_neg (by omega)]
theorem zub {p : zep} {vs vs' : List Int} {e : Ex} (h : e.op ≠ 2) : zdb p vs e = zdb p vs' e := by unfold zdb; rw [if_neg h, if_neg h]
theorem zgt {c : Codex} {m : List (Int × Int)} {p : zep} {vs vs' : List Int} (h0 : ∀ i : Nat, 0 <= vs'.getD i 0 /\ vs'.getD i 0 <= vs.getD i 0) (hT : ∀ i : Nat, zka c i = true -> vs.getD i 0 <= 1) :
  ∀ (N : Nat) (e : Ex), SizeOf.sizeOf e < N -> zen c m e -> e.unit = tT -> simpE c e = true -> (∀ (f : Nat) x, cE c f x e -> x <= vs.getD f 0 -> x <= vs'.getD f 0) -> holdsE p vs' e = holdsE p vs e
 | 0, _, h, _, _, _, _ => by omega
 | N + 1, .mk op n u den ps ks, hN, h, hu, hs, hc => by
  simp only [Ex.mk.sizeOf_spec] at hN
  have hu : u = tT := hu
  cases zjk h hu with
  | const h1 hk hu =>
   subst h1 hk
   unfold holdsE
   rfl
  | fact h1 hk hr ht =>
   subst h1 hk
   obtain ⟨i, rfl⟩ : ∃ i : Nat, n = i := ⟨n.toNat, by omega⟩
   have h3 := hc i 1 (by unfold cE; exact .inl ⟨rfl, rfl, .inr ⟨ht, rfl⟩⟩)
   have h4 := h0 i
   have e1 : ∀ w : List Int, holdsE p w (.mk 2 (i : Int) u den ps []) = !decide (w.getD i 0 = 0) := fun w => by unfold holdsE; rfl
   rw [e1, e1]
   congr 1
   rw [decide_eq_decide]
   omega
  | neg k h1 hk hka hku =>
   subst h1 hk
   simp only [List.cons.sizeOf_spec] at hN
   have hsk : simpE c k = true := by
    rw [simpE.eq_def] at hs
    simpa only [show ¬ (5 : Int) = 1 by decide, show ¬ (5 : Int) = 2 by decide, if_false, if_true] using hs
   have := zgt (p := p) h0 hT N k (by omega) hka hku hsk (fun f x hx => hc f x (by rw [cE.eq_def]; exact .inr hx))
   rw [holdsE.eq_def, holdsE.eq_def p vs]
   simp only [if_true]
   rw [this]
  | conn k l h1 hk hka hla hku hlu =>
   subst hk
   simp only [List.cons.sizeOf_spec] at hN
   have hsE : simpE c (.mk op n u den ps [k, l]) = (simpE c k && simpE c l) := by
    rw [simpE.eq_def]
    simp only
    rw [if_neg (by omega), if_neg (by omega), if_neg (by omega), if_pos h1]
   rw [hsE, Bool.and_eq_true] at hs
   have g1 := zgt (p := p) h0 hT N k (by omega) hka hku hs.1 (fun f x hx => hc f x (by rw [cE.eq_def]; exact .inr (.inl hx)))
   have g2 := zgt (p := p) h0 hT N l (by omega) hla hlu hs.2 (fun f x hx => hc f x (by rw [cE.eq_def]; exact .inr (.inr (.inl hx))))
   rw [holdsE.eq_def, holdsE.eq_def p vs]
   simp only
   rw [g1, g2]
   rcases h1 with rfl | rfl <;> rfl
  | cmp k l h1 hk hka hla =>
   subst hk
   rw [zfw h1] at hs
   simp only [Bool.and_eq_true, Bool.or_eq_true, decide_eq_true_eq] at hs
   have hlk := zei hka (zfb hs.1.1)
   have hll := zei hla (zfb hs.1.2)
   have hce : zhg op = true := by unfold zhg; rcases h1 with rfl | rfl | rfl <;> rfl
   rw [znm h1, znm h1]
   have key : ∀ a b : Ex, LeafE c a -> a.op = 2 -> b.op = 1 -> (∀ (f : Nat) x, cE c f x a -> x <= vs.getD f 0 -> x <= vs'.getD f 0) -> (∀ (f : Nat) x, cP c f x a b -> x <= vs.getD f 0 -> x <= vs'.getD f 0) ->
     zsf op (zdb p vs' a) (zdb p vs' b) = zsf op (zdb p vs a) (zdb p vs b) /\ zsf op (zdb p vs' b) (zdb p vs' a) = zsf op (zdb p vs b) (zdb p vs a) := by
    intro a b ha ha2 hb1 hx hy
    rw [zua ha2, zua ha2, zrq hb1, zrq hb1]
    obtain ⟨i, hi⟩ : ∃ i : Nat, a.n = i := ⟨a.n.toNat, by have := ha.k2 ha2; omega⟩
    rw [show a.n.toNat = i by omega]
    have h3 := h0 i
    cases ht : zka c i with
    | true =>
     have h4 := hT i ht
     have h5 := hx i 1 ((zwh ha).2 ⟨ha2, hi, .inr ⟨ht, rfl⟩⟩)
     rw [show vs'.getD i 0 = vs.getD i 0 by omega]
     exact ⟨rfl, rfl⟩
    | false =>
     exact ysa h3.2 (hy i _ ⟨ha2, hi, hb1, ht, .inl rfl⟩) (hy i _ ⟨ha2, hi, hb1, ht, .inr rfl⟩)
   by_cases hk2 : k.op = 2
   ·exact (key k l hlk hk2 (by omega) (fun f x hx => hc f x (by rw [cE.eq_def]; exact .inr (.inl hx))) (fun f x hx => hc f x (by rw [cE.eq_def]; exact .inr (.inr (.inr ⟨hce, .inl hx⟩))))).1
   ·by_cases hl2 : l.op = 2
    ·exact (key l k hll hl2 (by omega) (fun f x hx => hc f x (by rw [cE.eq_def]; exact .inr (.inr (.inl hx)))) (fun f x hx => hc f x (by rw [cE.eq_def]; exact .inr (.inr (.inr ⟨hce, .inr hx⟩))))).2
    ·rw [zub (vs' := vs) hk2, zub (vs' := vs) hl2]
  | other h1 h2 h3 h4 h5 =>
   exfalso
   unfold simpE at hs
   rw [if_neg h1, if_neg h2, if_neg h3, if_neg h4] at hs
   have hce : zhg op = false := by unfold zhg; simp; omega
   split at hs
   ·simp [hce] at hs
   ·cases hs
theorem zzn {v v' w : List Int} (h : ∀ i : Nat, v'.getD i 0 <= v.getD i 0) : ∀ fs : List Int, zqw fs v w = true -> zqw fs v' w = true
 | [], hl => by cases hl
 | f :: r, hl => by
  simp only [zqw] at hl ⊢
  have := h f.toNat
  by_cases e : v.getD f.toNat 0 = w.getD f.toNat 0
  ·rw [if_neg (by omega)] at hl
   by_cases e' : v'.getD f.toNat 0 = w.getD f.toNat 0
   ·rw [if_neg (by omega)]; exact zzn h r hl
   ·rw [if_pos e']; exact decide_eq_true (by omega)
  ·rw [if_pos e] at hl
   have := of_decide_eq_true hl
   rw [if_pos (by omega)]; exact decide_eq_true (by omega)
theorem zbn {c : Codex} (h : zw c = true) : ∃ m, zoh m /\ ∀ a ∈ c.arts, ∀ e ∈ a.when_, zzm c m e := by
 unfold zw at h
 simp only [Bool.and_eq_true, decide_eq_true_eq] at h
 obtain ⟨_, h6⟩ := h
 cases hl : ws c.lines.length c.arts [] with
 | none => rw [hl] at h6; cases h6
 | some m =>
  rw [hl] at h6
  simp only [List.all_eq_true] at h6
  refine ⟨m, zif _ _ _ _ hl (fun k v h => by cases h), fun a ha e he => ?_⟩
  have := h6 a ha
  unfold zkn at this
  simp only [Bool.and_eq_true, List.all_eq_true] at this
  have hw := this.1.2 e he
  refine ⟨(zrf hw).1, ?_⟩
  unfold qf at hw
  split at hw
  ·assumption
  ·cases hw
theorem zuc {vs : List Int} {v : Int} (h : v ∈ zy vs) : v ∈ vs := (List.mergeSort_perm vs fun x y => decide (x <= y)).mem_iff.1 (zgq h)
theorem znn (c : Codex) : ∀ (vs : List Int) (r : Int × Int), r.1 <= (vs.foldl (zev c) r).1 /\ (vs.foldl (zev c) r).2 <= r.2
 | [], r => ⟨Int.le_refl _, Int.le_refl _⟩
 | v :: vs, r => by
  rw [List.foldl_cons]
  have := znn c vs (zev c r v)
  have h2 : r.1 <= (zev c r v).1 /\ (zev c r v).2 <= r.2 := by
   unfold zev
   split
   ·constructor <;> simp only <;> omega
   ·exact ⟨Int.le_refl _, Int.le_refl _⟩
  omega
theorem zud {c : Codex} (h : zw c = true) (hF : c.facts.length <= 12) {vs : List Int} (hv : ∀ v ∈ vs, 0 <= v /\ v < c.arts.length) :
  (zal c (zy vs) sr0).isSome = (yl c (zy vs)).all (simpE c) /\ ∀ q, zal c (zy vs) sr0 = some q -> RefOK c q (yl c (zy vs)) := by
 obtain ⟨m, hm, hc⟩ := zbn h
 have := yet hm hF hc (zy vs) [] sr0 (fun v hvv => hv v (zuc hvv)) (ywa c)
 simpa using this
def ymk (c : Codex) (v : List Int) : Prop := ∀ i : Nat, 0 <= v.getD i 0 /\ (zka c i = true -> v.getD i 0 <= 1)
theorem yml {nf : Nat} {q : Sr} {k : Nat} (hq : CFull nf q k) (hz : zrn q) {v : List Int} (h0 : ∀ i : Nat, 0 <= v.getD i 0) : zgo q nf (ynh nf q v) := by
 refine ⟨by simp [ynh, st0], fun e he => ?_, fun i hi => ?_⟩
 ·obtain ⟨f, hf, rfl⟩ := List.mem_map.1 he
  obtain ⟨e, hee, rfl⟩ := List.mem_map.1 (zfv.1 hf)
  have hr := hq.inv.rng e hee
  have hl := zcw hq.inv.nd hee
  show (ynh nf q v).getD e.1.toNat 0 ∈ zed ((zt e.1 q.cands).getD [])
  rw [zfv, hl, zpg, if_pos (by omega)]
  have hc : zdc q (e.1.toNat : Int) = e.2 := by unfold zdc; rw [Int.toNat_of_nonneg hr.1, hl]; rfl
  rw [hc]
  obtain ⟨_, _, d, _⟩ := zej (v.getD e.1.toNat 0) e.2 0 (h0 _)
  rcases d with d | d
  ·rw [d]; exact hz e hee
  ·exact d
 ·have hz' : (st0 nf 0).vs.getD i 0 = 0 := by
   simp only [st0, List.getD_eq_getElem?_getD, List.getElem?_replicate]
   split <;> rfl
  rw [hz', zpg]
  split
  ·have hn : zt (i : Int) q.cands = none := by
    cases hl : zt (i : Int) q.cands with
    | none => rfl
    | some w =>
     exfalso
     have hm := zcd hl
     refine hi (_, _) (List.mem_map.2 ⟨(i : Int), zfv.2 (List.mem_map.2 ⟨_, hm, rfl⟩), rfl⟩) ?_
     simp
   unfold zdc
   rw [hn]
   rfl
  ·rfl
theorem ysb {c : Codex} (h : zw c = true) (hF : c.facts.length <= 12) (hw : ∀ a ∈ c.arts, a.when_.length <= 41) {vs : List Int} (hv : ∀ v ∈ vs, 0 <= v /\ v < c.arts.length) {q : Sr} (hq : xy c vs = some q) :
  (∀ w, qy c (zy vs) q = some w -> (ym c (zy vs)).1 <= w.day /\ w.day < (ym c (zy vs)).2 /\ w.value.length = c.facts.length /\ w.has = ((List.range c.facts.length).map fun (i : Nat) => (zt (i : Int) q.cands).isSome) /\ w.arts = zy vs /\
   (∀ e ∈ yl c (zy vs), holdsE (xe w.day) w.value e = true) /\ zgo q c.facts.length w.value /\
   ∀ d v, (ym c (zy vs)).1 <= d -> d < (ym c (zy vs)).2 -> ymk c v -> (∀ e ∈ yl c (zy vs), holdsE (xe d) v e = true) -> w.day <= d /\ (w.day = d -> zqw (zqx q) v w.value = false)) /\
  (qy c (zy vs) q = none -> ∀ d v, (ym c (zy vs)).1 <= d -> d < (ym c (zy vs)).2 -> ymk c v -> ¬ ∀ e ∈ yl c (zy vs), holdsE (xe d) v e = true) := by
 obtain ⟨hfull, hgo⟩ := zrk h hF hw hv hq
 obtain ⟨hs1, hs2⟩ := zud h hF hv
 have hR := hs2 q hgo
 rw [hgo] at hs1
 have hsimp : ∀ e ∈ yl c (zy vs), simpE c e = true := List.all_eq_true.1 hs1.symm
 obtain ⟨m, hm, hc⟩ := zbn h
 have hN : ∀ e ∈ yl c (zy vs), zzm c m e := fun e he => by
  unfold yl at he
  obtain ⟨v, hvv, he⟩ := List.mem_flatMap.1 he
  unfold zjz at he
  cases ha : wy c v with
  | none => rw [ha] at he; cases he
  | some a => rw [ha] at he; exact hc a (zfs ha) e he
 have hfw := znn c (zy vs) (0, 36525)
 have hfr : (zy vs).foldl (zev c) (0, 36525) = ym c (zy vs) := rfl
 rw [hfr] at hfw
 simp only at hfw
 obtain ⟨w1, w2⟩ := ylb (ymi hfull) hR.dates hfw.1 hfw.2
 have low : ∀ d v, ymk c v -> (∀ e ∈ yl c (zy vs), holdsE (xe d) v e = true) -> zgo q c.facts.length (ynh c.facts.length q v) /\ zwt q d (ynh c.facts.length q v) /\ ∀ i : Nat, (ynh c.facts.length q v).getD i 0 <= v.getD i 0 := by
  intro d v hg hh
  have hb : ∀ i : Nat, 0 <= (ynh c.facts.length q v).getD i 0 /\ (ynh c.facts.length q v).getD i 0 <= v.getD i 0 := fun i => by
   rw [zpg]
   have h0 := (hg i).1
   split
   ·obtain ⟨a, b, _, _⟩ := zej (v.getD i 0) (zdc q i) 0 h0
    exact ⟨a, b⟩
   ·exact ⟨Int.le_refl _, h0⟩
  refine ⟨yml hfull hR.zero fun i => (hg i).1, (hR.sat _ _).2 fun e he => ?_, fun i => (hb i).2⟩
  have := zgt (p := xe d) (m := m) hb (fun i => (hg i).2) _ e (Nat.lt_succ_self _) (hN e he).1 (hN e he).2 (hsimp e he) (fun f x hx hxv => by
   rw [zpg]
   by_cases hf : f < c.facts.length
   ·rw [if_pos hf]
    obtain ⟨_, _, _, g⟩ := zej (v.getD f 0) (zdc q f) 0 (hg f).1
    exact g x ((hR.mem _ _).2 ⟨e, he, hx⟩) hxv
   ·exfalso
    have hm := (hR.mem f x).2 ⟨e, he, hx⟩
    unfold zdc at hm
    cases hl : zt (f : Int) q.cands with
    | none => rw [hl] at hm; cases hm
    | some l => have := hfull.inv.rng _ (zcd hl); simp only at this; omega)
  rw [this]
  exact hh e he
 unfold qy
 simp only
 constructor
 ·intro w hw
  cases hg : zcc q c.facts.length (min (ym c (zy vs)).2 ((ym c (zy vs)).1 + yw q.dates) - (ym c (zy vs)).1).toNat (ym c (zy vs)).1 [] with
  | none => rw [hg] at hw; cases hw
  | some z =>
   obtain ⟨d, vals⟩ := z
   rw [hg] at hw
   simp only [Option.some.injEq] at hw
   subst hw
   obtain ⟨a1, a2, a3, a4, a5⟩ := w1 d vals hg
   refine ⟨a1, a2, by have := a3.len; simpa [st0] using this, rfl, rfl, (hR.sat _ _).1 a4, a3, fun d' v' b1 b2 b3 b4 => ?_⟩
   obtain ⟨l1, l2, l3⟩ := low d' v' b3 b4
   obtain ⟨g1, g2⟩ := a5 d' _ b1 b2 l1 l2
   refine ⟨g1, fun e => ?_⟩
   have := g2 e
   cases hless : zqw (zqx q) v' vals with
   | false => rfl
   | true => rw [zzn l3 _ hless] at this; cases this
 ·intro hw
  cases hg : zcc q c.facts.length (min (ym c (zy vs)).2 ((ym c (zy vs)).1 + yw q.dates) - (ym c (zy vs)).1).toNat (ym c (zy vs)).1 [] with
  | some z => obtain ⟨d, vals⟩ := z; rw [hg] at hw; cases hw
  | none =>
   intro d v b1 b2 b3 b4
   obtain ⟨l1, l2, _⟩ := low d v b3 b4
   exact w2 hg d _ b1 b2 l1 l2
def zue (n : Int) : List Int -> List Int
 | [] => [n]
 | x :: r => if n < x then n :: x :: r else x :: zue n r
def zmg (l : List Int) (n : Int) : List Int := if n < 0 \/ 1000000000000 < n \/ n ∈ l then l else zue n l
theorem zwj {x n : Int} : ∀ l : List Int, x ∈ zue n l ↔ x = n \/ x ∈ l
 | [] => by simp [zue]
 | y :: r => by
  unfold zue
  split
  ·simp
  ·simp only [List.mem_cons, zwj r]
   constructor
   ·rintro (h | h | h)
    ·exact .inr (.inl h)
    ·exact .inl h
    ·exact .inr (.inr h)
   ·rintro (h | h | h)
    ·exact .inr (.inl h)
    ·exact .inl h
    ·exact .inr (.inr h)
theorem yeu {n : Int} : ∀ l : List Int, l.Pairwise (· < ·) -> n ∉ l -> (zue n l).Pairwise (· < ·)
 | [], _, _ => by simp [zue]
 | y :: r, h, hn => by
  simp only [List.pairwise_cons] at h
  simp only [List.mem_cons, not_or] at hn
  unfold zue
  split
  ·rename_i hlt
   simp only [List.pairwise_cons, List.mem_cons]
   refine ⟨fun a ha => ?_, h.1, h.2⟩
   rcases ha with rfl | ha
   ·exact hlt
   ·have := h.1 a ha; omega
  ·simp only [List.pairwise_cons]
   refine ⟨fun a ha => ?_, yeu r h.2 hn.2⟩
   rcases (zwj r).1 ha with rfl | ha
   ·omega
   ·exact h.1 a ha
theorem yev (n : Int) : ∀ l : List Int, (zue n l).length = l.length + 1
 | [] => rfl
 | x :: r => by
  unfold zue
  split
  ·rfl
  ·simp [yev n r]
theorem zmh {x n : Int} {l : List Int} (h0 : 0 <= n) (h1 : n <= 1000000000000) : x ∈ zmg l n ↔ x ∈ l \/ x = n := by
 unfold zmg
 split
 ·rename_i h
  have h : n ∈ l := by
   rcases h with h | h | h
   ·omega
   ·omega
   ·exact h
  constructor
  ·exact .inl
  ·rintro (h2 | rfl)
   ·exact h2
   ·exact h
 ·rw [zwj]; exact Or.comm
theorem zmi {n : Int} {l : List Int} (h : l.Pairwise (· < ·)) : (zmg l n).Pairwise (· < ·) := by
 unfold zmg
 split
 ·exact h
 ·rename_i h1
  exact yeu l h fun h2 => h1 (.inr (.inr h2))
theorem zjn (l : List Int) (n : Int) : (zmg l n).length <= l.length + 1 := by
 unfold zmg
 split
 ·omega
 ·rw [yev]; omega
theorem ybx : ∀ l l' : List Int, l.Pairwise (· < ·) -> l'.Pairwise (· < ·) -> (∀ x, x ∈ l ↔ x ∈ l') -> l = l'
 | [], [], _, _, _ => rfl
 | [], b :: r', _, _, h => by have := (h b).2 (by simp); cases this
 | a :: r, [], _, _, h => by have := (h a).1 (by simp); cases this
 | a :: r, b :: r', h1, h2, h => by
  simp only [List.pairwise_cons] at h1 h2
  have e : a = b := by
   rcases List.mem_cons.1 ((h a).1 (by simp)) with e | ha
   ·exact e
   ·rcases List.mem_cons.1 ((h b).2 (by simp)) with e | hb
    ·exact e.symm
    ·have := h1.1 b hb; have := h2.1 a ha; omega
  subst e
  refine congrArg _ (ybx r r' h1.2 h2.2 fun x => ?_)
  constructor
  ·intro hx
   rcases List.mem_cons.1 ((h x).1 (by simp [hx])) with rfl | hx'
   ·have := h1.1 x hx; omega
   ·exact hx'
  ·intro hx
   rcases List.mem_cons.1 ((h x).2 (by simp [hx])) with rfl | hx'
   ·have := h2.1 x hx; omega
   ·exact hx'
def zeq (c : Codex) (f op : Int) (k o : Ex) (l : List Int) : List Int := if zhg op = true /\ k.op = 2 /\ k.n = f /\ o.op = 1 /\ zka c f = false then zmg (zmg l o.n) (o.n + 1) else l
def zbq (c : Codex) (f op n : Int) (l : List Int) : List Int := if op = 2 /\ n = f then (if zka c f = true then zmg (zmg l 0) 1 else zmg l 0) else l
def candE (c : Codex) (f : Int) : Ex -> List Int -> List Int
 | .mk op n _ _ _ ks, l => match ks with
  | [k] => candE c f k (zbq c f op n l)
  | [k, r] => zeq c f op r k (candE c f r (zeq c f op k r (candE c f k (zbq c f op n l))))
  | _ => zbq c f op n l
def yew (c : Codex) (f : Int) (es : List Ex) : List Int := es.foldl (fun l e => candE c f e l) []
theorem zek {c : Codex} {f op n x : Int} {l : List Int} : x ∈ zbq c f op n l ↔ x ∈ l \/ (op = 2 /\ n = f /\ (x = 0 \/ (zka c f = true /\ x = 1))) := by
 unfold zbq
 by_cases h : op = 2 /\ n = f
 ·rw [if_pos h]
  cases ht : zka c f with
  | true =>
   rw [if_pos rfl, zmh (by omega) (by omega), zmh (by omega) (by omega)]
   constructor
   ·rintro ((h1 | h1) | h1)
    ·exact .inl h1
    ·exact .inr ⟨h.1, h.2, .inl h1⟩
    ·exact .inr ⟨h.1, h.2, .inr ⟨rfl, h1⟩⟩
   ·rintro (h1 | ⟨_, _, h1 | ⟨_, h1⟩⟩)
    ·exact .inl (.inl h1)
    ·exact .inl (.inr h1)
    ·exact .inr h1
  | false =>
   rw [if_neg (by simp), zmh (by omega) (by omega)]
   constructor
   ·rintro (h1 | h1)
    ·exact .inl h1
    ·exact .inr ⟨h.1, h.2, .inl h1⟩
   ·rintro (h1 | ⟨_, _, h1 | ⟨h1, _⟩⟩)
    ·exact .inl h1
    ·exact .inr h1
    ·cases h1
 ·rw [if_neg h]
  constructor
  ·exact .inl
  ·rintro (h1 | ⟨h1, h2, _⟩)
   ·exact h1
   ·exact absurd ⟨h1, h2⟩ h
theorem zel {c : Codex} {f op n : Int} {l : List Int} (h : l.Pairwise (· < ·)) : (zbq c f op n l).Pairwise (· < ·) := by
 unfold zbq
 split
 ·split
  ·exact zmi (zmi h)
  ·exact zmi h
 ·exact h
theorem zzo {c : Codex} {f op x : Int} {k o : Ex} {l : List Int} (ho : LeafE c o) : x ∈ zeq c f op k o l ↔ x ∈ l \/ (zhg op = true /\ cP c f x k o) := by
 unfold zeq cP
 by_cases h : zhg op = true /\ k.op = 2 /\ k.n = f /\ o.op = 1 /\ zka c f = false
 ·rw [if_pos h]
  obtain ⟨h1, h2, h3, h4, h5⟩ := h
  have := ho.k1 h4
  rw [zmh (by omega) (by omega), zmh (by omega) (by omega)]
  constructor
  ·rintro ((h | h) | h)
   ·exact .inl h
   ·exact .inr ⟨h1, h2, h3, h4, h5, .inl h⟩
   ·exact .inr ⟨h1, h2, h3, h4, h5, .inr h⟩
  ·rintro (h | ⟨_, _, _, _, _, h | h⟩)
   ·exact .inl (.inl h)
   ·exact .inl (.inr h)
   ·exact .inr h
 ·rw [if_neg h]
  constructor
  ·exact .inl
  ·rintro (h1 | ⟨h1, h2, h3, h4, h5, _⟩)
   ·exact h1
   ·exact absurd ⟨h1, h2, h3, h4, h5⟩ h
theorem zzp {c : Codex} {f op : Int} {k o : Ex} {l : List Int} (h : l.Pairwise (· < ·)) : (zeq c f op k o l).Pairwise (· < ·) := by
 unfold zeq
 split
 ·exact zmi (zmi h)
 ·exact h
theorem zwk {c : Codex} {f op : Int} (h : zhg op = false) (k o : Ex) (l : List Int) : zeq c f op k o l = l := by
 unfold zeq
 rw [if_neg (fun h2 => by rw [h] at h2; cases h2.1)]
theorem zuf {c : Codex} {f : Int} {k : Ex} (h : LeafE c k) (l : List Int) : candE c f k l = zbq c f k.op k.n l := by
 obtain ⟨op, n, u, den, ps, ks⟩ := k
 have hk : ks = [] := h.no
 subst hk
 unfold candE
 rfl
theorem zjo {c : Codex} {m : List (Int × Int)} {f : Int} : ∀ (N : Nat) (e : Ex), SizeOf.sizeOf e < N -> zen c m e -> e.unit = tT -> simpE c e = true -> ∀ l : List Int, l.Pairwise (· < ·) -> (candE c f e l).Pairwise (· < ·) /\ ∀ x, x ∈ candE c f e l ↔ x ∈ l \/ cE c f x e
 | 0, _, h, _, _, _, _, _ => by omega
 | N + 1, .mk op n u den ps ks, hN, h, hu, hs, l, hl => by
  simp only [Ex.mk.sizeOf_spec] at hN
  have hu : u = tT := hu
  cases zjk h hu with
  | const h1 hk hu =>
   subst hk
   refine ⟨by unfold candE; exact zel hl, fun x => ?_⟩
   unfold candE
   rw [cE.eq_def]
   simp only [zek, or_false]
  | fact h1 hk hr ht =>
   subst hk
   refine ⟨by unfold candE; exact zel hl, fun x => ?_⟩
   unfold candE
   rw [cE.eq_def]
   simp only [zek, or_false]
  | neg k h1 hk hka hku =>
   subst h1 hk
   simp only [List.cons.sizeOf_spec] at hN
   have hsk : simpE c k = true := by
    rw [simpE.eq_def] at hs
    simpa only [show ¬ (5 : Int) = 1 by decide, show ¬ (5 : Int) = 2 by decide, if_false, if_true] using hs
   have := zjo (f := f) N k (by omega) hka hku hsk (zbq c f 5 n l) (zel hl)
   refine ⟨by rw [candE.eq_def]; exact this.1, fun x => ?_⟩
   rw [candE.eq_def, cE.eq_def]
   simp only
   rw [this.2, zek, or_assoc]
  | conn k r h1 hk hka hra hku hru =>
   subst hk
   simp only [List.cons.sizeOf_spec] at hN
   have hsE : simpE c (.mk op n u den ps [k, r]) = (simpE c k && simpE c r) := by
    rw [simpE.eq_def]
    simp only
    rw [if_neg (by omega), if_neg (by omega), if_neg (by omega), if_pos h1]
   rw [hsE, Bool.and_eq_true] at hs
   have hc : zhg op = false := by unfold zhg; rcases h1 with rfl | rfl <;> rfl
   have g1 := zjo (f := f) N k (by omega) hka hku hs.1 (zbq c f op n l) (zel hl)
   have g2 := zjo (f := f) N r (by omega) hra hru hs.2 _ g1.1
   have e : candE c f (.mk op n u den ps [k, r]) l = candE c f r (candE c f k (zbq c f op n l)) := by
    rw [candE.eq_def]
    simp only
    rw [zwk hc, zwk hc]
   rw [e]
   refine ⟨g2.1, fun x => ?_⟩
   rw [g2.2, g1.2, zek, cE.eq_def c f x (.mk op n u den ps [k, r])]
   simp only [hc]
   constructor
   ·rintro (((h | h) | h) | h)
    ·exact .inl h
    ·exact .inr (.inl h)
    ·exact .inr (.inr (.inl h))
    ·exact .inr (.inr (.inr (.inl h)))
   ·rintro (h | h | h | h | h)
    ·exact .inl (.inl (.inl h))
    ·exact .inl (.inl (.inr h))
    ·exact .inl (.inr h)
    ·exact .inr h
    ·cases h.1
  | cmp k r h1 hk hka hra =>
   subst hk
   rw [zfw h1] at hs
   simp only [Bool.and_eq_true, Bool.or_eq_true, decide_eq_true_eq] at hs
   have hlk := zei hka (zfb hs.1.1)
   have hlr := zei hra (zfb hs.1.2)
   have e : candE c f (.mk op n u den ps [k, r]) l = zeq c f op r k (zbq c f r.op r.n (zeq c f op k r (zbq c f k.op k.n (zbq c f op n l)))) := by
    rw [candE.eq_def]
    simp only
    rw [zuf hlk, zuf hlr]
   rw [e]
   refine ⟨zzp (zel (zzp (zel (zel hl)))), fun x => ?_⟩
   rw [zzo hlk, zek, zzo hlr, zek, zek, cE.eq_def, <- zwh hlk, <- zwh hlr]
   simp only
   constructor
   ·rintro (((((h | h) | h) | h) | h) | h)
    ·exact .inl h
    ·exact .inr (.inl h)
    ·exact .inr (.inr (.inl h))
    ·exact .inr (.inr (.inr (.inr ⟨h.1, .inl h.2⟩)))
    ·exact .inr (.inr (.inr (.inl h)))
    ·exact .inr (.inr (.inr (.inr ⟨h.1, .inr h.2⟩)))
   ·rintro (h | h | h | h | ⟨h, h' | h'⟩)
    ·exact .inl (.inl (.inl (.inl (.inl h))))
    ·exact .inl (.inl (.inl (.inl (.inr h))))
    ·exact .inl (.inl (.inl (.inr h)))
    ·exact .inl (.inr h)
    ·exact .inl (.inl (.inr ⟨h, h'⟩))
    ·exact .inr ⟨h, h'⟩
  | other h1 h2 h3 h4 h5 =>
   exfalso
   unfold simpE at hs
   rw [if_neg h1, if_neg h2, if_neg h3, if_neg h4] at hs
   have hce : zhg op = false := by unfold zhg; simp; omega
   split at hs
   ·simp [hce] at hs
   ·cases hs
theorem zug {c : Codex} {m : List (Int × Int)} {f : Int} : ∀ (es : List Ex), (∀ e ∈ es, zzm c m e /\ simpE c e = true) -> ∀ l : List Int, l.Pairwise (· < ·) -> (es.foldl (fun l e => candE c f e l) l).Pairwise (· < ·) /\ ∀ x, x ∈ es.foldl (fun l e => candE c f e l) l ↔ x ∈ l \/ ∃ e ∈ es, cE c f x e
 | [], _, l, hl => ⟨hl, fun x => by simp⟩
 | e :: r, h, l, hl => by
  obtain ⟨⟨h1, h2⟩, h3⟩ := h e (by simp)
  have g := zjo (f := f) _ e (Nat.lt_succ_self _) h1 h2 h3 l hl
  have g2 := zug (f := f) r (fun x hx => h x (by simp [hx])) _ g.1
  rw [List.foldl_cons]
  refine ⟨g2.1, fun x => ?_⟩
  rw [g2.2, g.2, or_assoc]
  simp
theorem ysc {c : Codex} {m : List (Int × Int)} {q : Sr} {nf k : Nat} {es : List Ex} (hf : CFull nf q k) (hR : RefOK c q es) (he : ∀ e ∈ es, zzm c m e /\ simpE c e = true) (f : Int) : yew c f es = zed (zdc q f) := by
 obtain ⟨g1, g2⟩ := zug (f := f) es he [] .nil
 refine ybx _ _ g1 (zzi ?_) fun x => ?_
 ·unfold zdc
  cases hl : zt f q.cands with
  | none => simp
  | some w => exact hf.inv.ndv _ (zcd hl)
 ·rw [zfv, hR.mem]
  have := g2 x
  simpa [yew] using this
def zem (ns : List Int) : Int := ns.foldr (· * ·) 1
def ymm (B : Int) (ns : List Int) (p : Int) : Int := ns.foldl (fun p n => min (p * n) B) p
theorem zno {B : Int} (hB : 1 <= B) : ∀ (ns : List Int) (p : Int), 1 <= p -> (∀ n ∈ ns, 1 <= n) -> ymm B ns (min p B) = min (p * zem ns) B
 | [], p, _, _ => by simp [ymm, zem]
 | n :: r, p, hp, h => by
  have h1 := h n (by simp)
  have hpn : p <= p * n := by
   have := Int.mul_le_mul_of_nonneg_left h1 (show 0 <= p by omega)
   omega
  have hBn : B <= B * n := by
   have := Int.mul_le_mul_of_nonneg_left h1 (show 0 <= B by omega)
   omega
  have e : min (min p B * n) B = min (p * n) B := by
   by_cases hb : p <= B
   ·rw [Int.min_eq_left hb]
   ·rw [Int.min_eq_right (by omega : B <= p), Int.min_eq_right hBn, Int.min_eq_right (by omega : B <= p * n)]
  show ymm B r (min (min p B * n) B) = _
  rw [e, zno hB r (p * n) (by omega) fun x hx => h x (by simp [hx])]
  show min (p * n * zem r) B = min (p * (n * zem r)) B
  rw [Int.mul_assoc]
theorem zfc : ∀ a b : List Int, zem (a ++ b) = zem a * zem b
 | [], b => by simp [zem]
 | n :: a, b => by
  show n * zem (a ++ b) = n * zem a * zem b
  rw [zfc a b, Int.mul_assoc]
theorem yex (g g' : Nat -> Int) (k : Nat) (h1 : g' k = 1) (h : ∀ i, i ≠ k -> g i = g' i) : ∀ n, zem ((List.range n).map g) = (if k < n then g k else 1) * zem ((List.range n).map g')
 | 0 => by simp [zem]
 | n + 1 => by
  rw [List.range_succ, List.map_append, List.map_append, zfc, zfc, yex g g' k h1 h n]
  show _ * zem [g n] = _ * (_ * zem [g' n])
  have e1 : ∀ y : Int, zem [y] = y := fun y => by simp [zem]
  rw [e1, e1]
  by_cases hk : k = n
  ·subst hk
   rw [if_neg (by omega), if_pos (by omega), h1, Int.one_mul, Int.mul_one, Int.mul_comm]
  ·rw [h n (by omega)]
   by_cases hn : k < n
   ·rw [if_pos hn, if_pos (by omega), Int.mul_assoc]
   ·rw [if_neg hn, if_neg (by omega), Int.one_mul, Int.one_mul]
theorem zuh (nf : Nat) : ∀ m : List (Int × List Int), (m.map (·.1)).Nodup -> (∀ e ∈ m, 0 <= e.1 /\ e.1 < nf) -> (∀ e ∈ m, 1 <= e.2.length) ->
  zem (m.map fun e => (e.2.length : Int)) = zem ((List.range nf).map fun (i : Nat) => max 1 ((((zt (i : Int) m).getD []).length : Nat) : Int))
 | [], _, _, _ => by
  have : ∀ n, zem ((List.range n).map fun (i : Nat) => max 1 ((((zt (i : Int) ([] : List (Int × List Int))).getD []).length : Nat) : Int)) = 1 := by
   intro n
   induction n with
   | zero => rfl
   | succ n ih => rw [List.range_succ, List.map_append, zfc, ih]; rfl
  rw [this]
  rfl
 | (k, l) :: r, hn, hr, hl => by
  simp only [List.map_cons, List.nodup_cons] at hn
  obtain ⟨j, hj⟩ : ∃ j : Nat, k = j := ⟨k.toNat, by have := hr (k, l) (by simp); simp only at this; omega⟩
  have hkr := hr (k, l) (by simp)
  simp only at hkr
  have hnone : zt k r = none := by
   have := zew (k := k) (l := r)
   rw [decide_eq_false hn.1] at this
   simpa using this
  rw [yex _ (fun (i : Nat) => max 1 ((((zt (i : Int) r).getD []).length : Nat) : Int)) j]
  ·rw [if_pos (by omega), <- zuh nf r hn.2 (fun e he => hr e (by simp [he])) fun e he => hl e (by simp [he])]
   have h1 := hl (k, l) (by simp)
   simp only at h1
   have e : (zt (j : Int) ((k, l) :: r)) = some l := by rw [<- hj]; simp [zt]
   rw [e]
   show (l.length : Int) * _ = max 1 (l.length : Int) * _
   rw [Int.max_eq_right (by omega)]
   rfl
  ·rw [<- hj, hnone]; rfl
  ·intro i hi
   have : zt (i : Int) ((k, l) :: r) = zt (i : Int) r := by
    simp only [zt]
    rw [if_neg]
    simp
    omega
   rw [this]
def zhj (ls : List (List Int)) : Int := ls.foldl (fun p l => min (p * max 1 (l.length : Int)) 1000000) 1
def yby (c : Codex) (es : List Ex) : List (List Int) := (List.range c.facts.length).map fun (i : Nat) => yew c i es
def zkb (c : Codex) (vs : List Int) : Bool := (yl c vs).all (simpE c) && decide (zhj (yby c (yl c vs)) <= 4096)
theorem zwl {α β γ : Type} (f : γ -> β -> γ) (g : α -> β) : ∀ (l : List α) (p : γ), l.foldl (fun p a => f p (g a)) p = (l.map g).foldl f p
 | [], _ => rfl
 | a :: l, p => zwl f g l _
theorem zgu {c : Codex} {P : Ex -> Prop} (h : ∀ a ∈ c.arts, ∀ e ∈ a.when_, P e) {vs : List Int} : ∀ e ∈ yl c vs, P e := fun e he => by
 unfold yl at he
 obtain ⟨v, hvv, he⟩ := List.mem_flatMap.1 he
 unfold zjz at he
 cases ha : wy c v with
 | none => rw [ha] at he; cases he
 | some a => rw [ha] at he; exact h a (zfs ha) e he
theorem ybz {c : Codex} (h : zw c = true) (hF : c.facts.length <= 12) (hw : ∀ a ∈ c.arts, a.when_.length <= 41) {vs : List Int} (hv : ∀ v ∈ vs, 0 <= v /\ v < c.arts.length) :
  (xy c vs).isSome = zkb c (zy vs) /\ ∀ q, xy c vs = some q -> ∀ f, yew c f (yl c (zy vs)) = zed (zdc q f) := by
 obtain ⟨m, hm, hc⟩ := zbn h
 have hN := zgu (c := c) hc (vs := zy vs)
 obtain ⟨hs1, hs2⟩ := zud h hF hv
 unfold zkb xy
 cases hg : zal c (zy vs) sr0 with
 | none =>
  rw [hg] at hs1
  rw [<- hs1]
  exact ⟨rfl, fun q hq => by cases hq⟩
 | some q =>
  rw [hg] at hs1
  rw [<- hs1]
  have hR := hs2 q hg
  have hsimp : ∀ e ∈ yl c (zy vs), simpE c e = true := List.all_eq_true.1 hs1.symm
  obtain ⟨_, h60, m', hm', h4⟩ := jh h
  have hl := zji hv
  have hfull := (zrj hm' rfl hF (fun a ha => ⟨hw a ha, (h4 a ha).2.2.1⟩) _ sr0 q 0 (ytr _) hg).up (k' := 2460) (by omega)
  have hLe := ysc hfull hR fun e he => ⟨hN e he, hsimp e he⟩
  have hone : ∀ e ∈ q.cands, 1 <= e.2.length := fun e he => by
   have := hR.zero e he
   cases hh : e.2 with
   | nil => rw [hh] at this; cases this
   | cons a l => simp
  have hp1 : zfp q.cands = min (zem (q.cands.map fun e => (e.2.length : Int))) 4097 := by
   have := zno (B := 4097) (by omega) (q.cands.map fun e => (e.2.length : Int)) 1 (by omega) (fun n hn => by
    obtain ⟨e, he, rfl⟩ := List.mem_map.1 hn
    have := hone e he
    omega)
   rw [Int.one_mul] at this
   rw [<- this]
   unfold zfp ymm
   exact zwl (fun p n => min (p * n) 4097) (fun e : Int × List Int => (e.2.length : Int)) q.cands 1
  have hp2 : zhj (yby c (yl c (zy vs))) = min (zem ((List.range c.facts.length).map fun (i : Nat) => max 1 ((((zt (i : Int) q.cands).getD []).length : Nat) : Int))) 1000000 := by
   have := zno (B := 1000000) (by omega) ((List.range c.facts.length).map fun (i : Nat) => max 1 ((((zt (i : Int) q.cands).getD []).length : Nat) : Int)) 1 (by omega) (fun n hn => by
    obtain ⟨e, he, rfl⟩ := List.mem_map.1 hn
    omega)
   rw [Int.one_mul] at this
   rw [<- this]
   unfold zhj yby ymm
   rw [zwl (fun p n => min (p * n) 1000000) (fun l : List Int => max 1 (l.length : Int)), List.map_map]
   show List.foldl _ 1 _ = _
   congr 1
   refine List.map_congr_left fun i hi => ?_
   show max 1 ((yew c i (yl c (zy vs))).length : Int) = _
   rw [hLe, (List.mergeSort_perm _ _).length_eq]
   rfl
  have hpe := zuh c.facts.length q.cands hfull.inv.nd hfull.inv.rng hone
  rw [<- hpe] at hp2
  simp only
  have hle : zfp q.cands <= 4096 ↔ zhj (yby c (yl c (zy vs))) <= 4096 := by
   rw [hp1, hp2]
   omega
  refine ⟨?_, fun q' hq' f => ?_⟩
  ·by_cases h0 : zfp q.cands <= 4096
   ·rw [if_pos h0, decide_eq_true (hle.1 h0)]; rfl
   ·rw [if_neg h0, decide_eq_false (fun h1 => h0 (hle.2 h1))]; rfl
  ·split at hq'
   ·cases hq'; exact hLe f
   ·cases hq'
def yca (c : Codex) : SObj := .cells [.imm (zk c.facts), .imm (zk c.lines), .imm (ys c.arts)]
def isDead (c : Codex) (i : Int) : Bool := (xy c [i]).isSome && (xf c [i]).isNone
theorem znp {c : Codex} (hok : zw c = true) {vs : List Int} (hv : ∀ v ∈ vs, 0 <= v /\ v < c.arts.length) : xf c vs = match xy c vs with | some s => qy c (zy vs) s | none => none := by
 have hall : vs.all (fun v => decide (0 <= v) && decide (v < c.arts.length)) = true := List.all_eq_true.2 fun v h => by
  have := hv v h
  simp only [Bool.and_eq_true, decide_eq_true_eq]
  exact this
 unfold xf
 rw [hok, hall, Bool.true_and, if_pos rfl]
 try rfl
theorem ymn {c : Codex} (hok : zw c = true) : zoc c = ((List.range c.arts.length).map fun (i : Nat) => (i : Int)).filter (isDead c) := by
 unfold zoc
 rw [if_pos hok]
 rfl
theorem yts (c : Codex) (hfit : Codex.fit c) (hS : zw c = true -> SearchC c) (hz : c.arts.length <= 1000000) :
  zx Tryz.prog G0 17 [c.sv] (if zw c = true then .imm (zl (zoc c)) else zdp) := by
 have hal : (c.arts.map Article.cells).length = c.arts.length := by simp
 have hV := jx G0 c hfit
 refine zd Tryz.func17 rfl (by rw [Tryz.ntmps17]; simp) rfl (by split <;> rfl) ?_
 intro E hH hK
 have hdo := @ymn c
 have hwi := @znp c
 generalize hz2 : zw c = z at hV hS hK hdo hwi
 rw [show c.sv = .agg [.imm (zk c.facts), .imm (zk c.lines), .imm (ys c.arts)] from rfl]
 (refine zf ?_; conv => whnf)
 refine ze rfl  hV ?_
 cases z <;> ((refine za ?_; conv => whnf))
 ·exact hK _
 have hS := hS rfl
 rw [if_pos rfl, hdo rfl] at hK
 refine zsy (n := 3) (kk := 1) rfl ?_
 refine zg [1, 3, 13, 14, 15] ?_
 change SW E _ [(1, .ptr 0 0), (3, .asl 1 1 []), (13, .imm (ys c.arts)), (14, sI (c.arts.map Article.cells).length), (15, sI 0)] [yca c, .tok 1 0]
 refine zq c.arts (fun i (l : List Int) => [(1, .ptr 0 0), (3, .asl 1 1 (l.map fun n => [dI n])), (13, .imm (ys c.arts)), (14, sI (c.arts.map Article.cells).length), (15, sI i)]) (fun _ l => [yca c, .tok 1 (l.map fun n => [dI n]).length])
  (fun done rest l => l = ((List.range done.length).map fun (i : Nat) => (i : Int)).filter (isDead c) /\ l.length <= done.length) [] ⟨rfl, by simp⟩ ?_ ?_
 ·rintro l ⟨h2, _⟩
  rw [<- h2] at hK
  refine zdl ?_
  change SW E _ [(1, .ptr 0 0), (3, .imm (zl l)), (13, .imm (ys c.arts)), (14, sI (c.arts.map Article.cells).length), (15, sI c.arts.length)] _
  (refine zf ?_; conv => whnf)
  repeat' ((with_reducible refine way ?_ ?_) <;> (intro h; conv => whnf))
  all_goals try (exfalso; omega)
  exact hK _
 ·rintro done x rest l hda hdl ⟨h2, h3⟩ ih
  have hw := zm (n := done.length) (by omega)
  have hi : ∀ v ∈ [(done.length : Int)], 0 <= v /\ v < c.arts.length := fun v hv => by simp at hv; subst hv; omega
  have hN := zie c hS [(done.length : Int)] hi (by simp) [yca c, .tok 1 (l.map fun n => [dI n]).length]
  have hwi2 := hwi rfl hi
  have hsn : ∀ b, isDead c (done.length : Int) = b -> ((List.range (done.length + 1)).map fun (i : Nat) => (i : Int)).filter (isDead c) = l ++ (if b = true then [(done.length : Int)] else []) := fun b hb => by
   rw [List.range_succ, List.map_append, List.filter_append, <- h2]
   simp only [List.map_cons, List.map_nil, List.filter_cons, hb, List.filter_nil]
  have hnx : ∀ b, isDead c (done.length : Int) = b -> b = false -> SW E _ _ _ := fun b hb hf => by
   subst hf
   have e := hsn _ hb
   simp only [Bool.false_eq_true, if_false, List.append_nil] at e
   exact ih l ⟨by rw [List.length_append]; exact e.symm, by simp only [List.length_append, List.length_cons, List.length_nil]; omega⟩
  (refine zf ?_; conv => whnf)
  repeat' ((with_reducible refine way ?_ ?_) <;> (intro h; conv => whnf))
  all_goals try (exfalso; omega)
  refine wh (argv := [c.sv, .imm (zl [(done.length : Int)])]) rfl rfl rfl rfl rfl rfl (hN.mono ?_)
  intro r H' hK1
  have hkc : ∀ m, ([yca c, SObj.tok 1 m]).all (SObj.under 2) = true := fun _ => rfl
  cases hq : xy c [(done.length : Int)] with
  | none =>
   rw [hq] at hK1
   have hdd : isDead c (done.length : Int) = false := by unfold isDead; rw [hq]; rfl
   obtain ⟨p, H1, hp, rfl, rfl⟩ := hK1
   refine ⟨Nat.le_add_left 2 _, ?_⟩
   refine Eq.mpr (congrArg (fun h => SWr E _ _ _ _ h) (show _ = yca c :: .tok 1 (l.map fun n => [dI n]).length :: H1 from rfl)) ?_
   rcases hp with rfl | rfl <;> ((refine za ?_; conv => whnf)) <;> rw [hw]
   all_goals exact yr [1, 3, 13, 14, 15] 2 (by rw [hH]; exact Nat.zero_le 2) (Nat.succ_le_succ (Nat.succ_le_succ (Nat.zero_le _))) rfl (hkc _) (hnx _ hdd rfl)
  | some q =>
   have hWt := znj c hS [(done.length : Int)] hi (by simp) q hq [yca c, .tok 1 (l.map fun n => [dI n]).length]
   rw [hq] at hK1 hwi2
   simp only at hwi2
   obtain ⟨rfl, rfl⟩ := hK1
   refine ⟨by rw [List.length_append]; exact Nat.le_add_right _ _, ?_⟩
   (refine za ?_; conv => whnf)
   refine wh rfl rfl rfl rfl rfl rfl (hWt.mono ?_)
   rintro r H' ⟨rfl, ⟨H1, rfl⟩, hl⟩
   refine ⟨hl, ?_⟩
   rw [<- hwi2]
   have hdd : isDead c (done.length : Int) = (xf c [(done.length : Int)]).isNone := by unfold isDead; rw [hq]; rfl
   refine jf (t' := [(1, .ptr 0 0), (3, .asl 1 1 (l.map fun n => [dI n])), (4, sI done.length), (13, .imm (ys c.arts)), (14, sI (c.arts.map Article.cells).length), (15, sI done.length), (29, zma (xf c [(done.length : Int)]))]) (H' := [yca c, .tok 1 (l.map fun n => [dI n]).length])
    (fun k h => zg [1, 3, 4, 13, 14, 15, 29] (yda 2 (by rw [hH]; exact Nat.zero_le 2) (Nat.succ_le_succ (Nat.succ_le_succ (Nat.zero_le _))) (by cases xf c [(done.length : Int)] <;> rfl) (hkc _) h)) ?_
   generalize xf c [(done.length : Int)] = o at hdd ⊢
   cases o with
   | none =>
    have e := hsn _ hdd
    simp only [Option.isNone_none, if_true] at e
    (refine za ?_; conv => whnf)
    refine wd (b := 1) (kk := 1) (rows := l.map fun n => [dI n]) (new := [[dI done.length]]) rfl ⟨by decide, rfl⟩ rfl (by rw [List.length_map]; simp only [List.length_cons, List.length_nil]; omega) ?_
    have e5 : (l.map fun n => [dI n]) ++ [[dI done.length]] = (l ++ [(done.length : Int)]).map fun n => [dI n] := by simp
    have e6 : (l.map fun n => [dI n]).length + [[dI done.length]].length = ((l ++ [(done.length : Int)]).map fun n => [dI n]).length := by simp
    refine Eq.mpr (congrArg (fun v => SWr E _ _ _ (wq _ _ (.asl 1 1 v)) _) e5) ?_
    refine Eq.mpr (congrArg (fun v => SWr E _ _ _ _ (List.set _ 1 (.tok 1 v))) e6) ?_
    (refine za ?_; conv => whnf)
    rw [hw]
    refine yr [1, 3, 13, 14, 15] 2 (by rw [hH]; exact Nat.zero_le 2) (Nat.succ_le_succ (Nat.succ_le_succ (Nat.zero_le _))) rfl (hkc _) ?_
    refine ih (l ++ [(done.length : Int)]) ⟨?_, ?_⟩
    ·rw [List.length_append]; exact e.symm
    ·simp only [List.length_append, List.length_cons, List.length_nil]; omega
   | some v =>
    (refine za ?_; conv => whnf)
    rw [hw]
    exact yr [1, 3, 13, 14, 15] 2 (by rw [hH]; exact Nat.zero_le 2) (Nat.succ_le_succ (Nat.succ_le_succ (Nat.zero_le _))) rfl (hkc _) (hnx _ hdd rfl)
theorem yho (c : Codex) (hfit : Codex.fit c) (hS : zw c = true -> SearchC c) (hz : c.arts.length <= 1000000) :
  zx Tryz.prog G0 17 [c.sv] (.imm (zl (zoc c))) := by
 have h := yts c hfit hS hz
 split at h
 ·exact h
 ·rename_i hn
  rw [show zoc c = [] by unfold zoc; rw [if_neg hn]]
  exact zcj h (SV.Is.nil 1)
theorem ycb {l : List Int} {v : Int} (h : v ∈ l) : v ∈ Go.Lib.compact l := by
 obtain ⟨j, hj, rfl⟩ := List.mem_iff_getElem.1 h
 have key : ∀ j, ∃ k, k <= j /\ Go.Lib.keeps l.toArray k = true /\ l.toArray[k]! = l.toArray[j]! := by
  intro j
  induction j with
  | zero => exact ⟨0, Nat.le_refl _, Go.Lib.keeps_lt_one _ 0 (by omega), rfl⟩
  | succ j ih =>
   by_cases e : l.toArray[j + 1]! = l.toArray[j + 1 - 1]!
   ·obtain ⟨k, h1, h2, h3⟩ := ih
    exact ⟨k, by omega, h2, by rw [h3, e, Nat.add_sub_cancel]⟩
   ·exact ⟨j + 1, Nat.le_refl _, Go.Lib.keeps_pos e, rfl⟩
 obtain ⟨k, h1, h2, h3⟩ := key j
 unfold Go.Lib.compact Go.Lib.compactUpTo
 refine List.mem_map.2 ⟨k, List.mem_filter.2 ⟨List.mem_range.2 (by omega), h2⟩, ?_⟩
 show l.toArray[k]! = _
 rw [h3]
 simp [hj]
theorem yhp {vs : List Int} {v : Int} : v ∈ zy vs ↔ v ∈ vs := ⟨zuc, fun h => ycb ((List.mergeSort_perm vs fun x y => decide (x <= y)).mem_iff.2 h)⟩
theorem ycc {l : List Int} (h : l.Pairwise (· < ·)) : zy l = l := ybx _ _ (ztx l) h fun _ => yhp
theorem yoz {c : Codex} (vs : List Int) : 0 <= (ym c vs).1 /\ (ym c vs).2 <= 36525 := by
 have := znn c vs (0, 36525)
 exact this
theorem zui {c : Codex} (h : zw c = true) (hF : c.facts.length <= 12) (hw : ∀ a ∈ c.arts, a.when_.length <= 41) {vs : List Int} (hv : ∀ v ∈ vs, 0 <= v /\ v < c.arts.length) :
  (zkb c (zy vs) = false -> xf c vs = none) /\
  (zkb c (zy vs) = true -> xf c vs = none -> ∀ d v, (ym c (zy vs)).1 <= d -> d < (ym c (zy vs)).2 -> ymk c v -> (yl c (zy vs)).all (holdsE (xe d) v) = false) /\
  (∀ w, xf c vs = some w -> zkb c (zy vs) = true /\ (ym c (zy vs)).1 <= w.day /\ w.day < (ym c (zy vs)).2 /\ w.value.length = c.facts.length /\ w.has.length = c.facts.length /\ w.arts = zy vs /\
   (yl c (zy vs)).all (holdsE (xe w.day) w.value) = true) := by
 have hsc := (ybz h hF hw hv).1
 rw [znp h hv]
 cases hq : xy c vs with
 | none =>
  rw [hq] at hsc
  refine ⟨fun _ => rfl, fun h1 => ?_, fun w hw => by cases hw⟩
  rw [<- hsc] at h1
  cases h1
 | some q =>
  rw [hq] at hsc
  obtain ⟨w1, w2⟩ := ysb h hF hw hv hq
  refine ⟨fun h1 => ?_, fun _ hn d v h1 h2 h3 => ?_, fun w hw => ?_⟩
  ·rw [<- hsc] at h1
   cases h1
  ·cases ha : (yl c (zy vs)).all (holdsE (xe d) v) with
   | false => rfl
   | true => exact absurd (List.all_eq_true.1 ha) (w2 hn d v h1 h2 h3)
  ·obtain ⟨a1, a2, a3, a4, a5, a6, _, _⟩ := w1 w hw
   exact ⟨hsc.symm, a1, a2, a3, by rw [a4]; simp, a5, List.all_eq_true.2 a6⟩
variable (G : List (Nat × D))
theorem zdg (op : Int) : zx Tryz.prog G 75 [sI op] (sB (zhg op)) := by
 by_cases h8 : op = 8
 ·subst h8
  refine zd Tryz.func75 rfl (by rw [Tryz.ntmps75]; simp) rfl rfl ?_; intro E hH hK
  (refine zi ?_; conv => whnf)
  exact hK _
 by_cases h9 : op = 9
 ·subst h9
  refine zd Tryz.func75 rfl (by rw [Tryz.ntmps75]; simp) rfl rfl ?_; intro E hH hK
  (refine zi ?_; conv => whnf)
  exact hK _
 by_cases h10 : op = 10
 ·subst h10
  refine zd Tryz.func75 rfl (by rw [Tryz.ntmps75]; simp) rfl rfl ?_; intro E hH hK
  (refine zi ?_; conv => whnf)
  exact hK _
 have hc : zhg op = decide (op = 10) := by unfold zhg; simp [h8, h9]
 rw [hc]
 refine zd Tryz.func75 rfl (by rw [Tryz.ntmps75]; simp) rfl rfl ?_; intro E hH hK
 (refine zi ?_; conv => whnf)
 repeat' ((with_reducible refine way ?_ ?_) <;> (intro h; conv => whnf))
 all_goals try (exfalso; omega)
 exact hK _
theorem zrr (e : Ex) : zx Tryz.prog G 85 [e.sv] (sB (zfi e)) := by
 obtain ⟨op, n, u, den, ps, ks⟩ := e
 by_cases h1 : op = 1
 ·subst h1
  rw [show zfi (.mk 1 n u den ps ks) = true from rfl]
  refine zd Tryz.func85 rfl (by rw [Tryz.ntmps85]; simp) rfl rfl ?_; intro E hH hK
  (refine zi ?_; conv => whnf)
  exact hK _
 by_cases h2 : op = 2
 ·subst h2
  rw [show zfi (.mk 2 n u den ps ks) = true from rfl]
  refine zd Tryz.func85 rfl (by rw [Tryz.ntmps85]; simp) rfl rfl ?_; intro E hH hK
  (refine zi ?_; conv => whnf)
  exact hK _
 by_cases h4 : op = 4
 ·subst h4
  by_cases hn : 1 <= n
  ·rw [show zfi (.mk 4 n u den ps ks) = decide (n <= 4) by unfold zfi; simp [Ex.op, Ex.n, hn]; try rfl]
   refine zd Tryz.func85 rfl (by rw [Tryz.ntmps85]; simp) rfl rfl ?_; intro E hH hK
   (refine zi ?_; conv => whnf)
   repeat' ((with_reducible refine way ?_ ?_) <;> (intro h; conv => whnf))
   all_goals try (exfalso; omega)
   exact hK _
  ·rw [show zfi (.mk 4 n u den ps ks) = false by unfold zfi; simp [Ex.op, Ex.n, hn]]
   refine zd Tryz.func85 rfl (by rw [Tryz.ntmps85]; simp) rfl rfl ?_; intro E hH hK
   (refine zi ?_; conv => whnf)
   repeat' ((with_reducible refine way ?_ ?_) <;> (intro h; conv => whnf))
   all_goals try (exfalso; omega)
   exact hK _
 rw [show zfi (.mk op n u den ps ks) = false by unfold zfi; simp [Ex.op, h1, h2, h4]]
 refine zd Tryz.func85 rfl (by rw [Tryz.ntmps85]; simp) rfl rfl ?_; intro E hH hK
 (refine zi ?_; conv => whnf)
 repeat' ((with_reducible refine way ?_ ?_) <;> (intro h; conv => whnf))
 all_goals try (exfalso; omega)
 exact hK _
theorem zjp (l : List Int) (n : Int) (hz : l.length <= 100000000) : zx Tryz.prog G 86 [.imm (zl l), sI n] (.imm (zl (zmg l n))) := by
 have hvl : (l.map fun n => [dI n]).length = l.length := by simp
 have hin := zrm G l n (by omega)
 by_cases h1 : n < 0
 ·rw [show zmg l n = l from if_pos (.inl h1)]
  refine zd Tryz.func86 rfl (by rw [Tryz.ntmps86]; simp) rfl rfl ?_; intro E hH hK
  (refine zf ?_; conv => whnf)
  repeat' ((with_reducible refine way ?_ ?_) <;> (intro h; conv => whnf))
  all_goals try (exfalso; omega)
  exact hK _
 by_cases h2 : 1000000000000 < n
 ·rw [show zmg l n = l from if_pos (.inr (.inl h2))]
  refine zd Tryz.func86 rfl (by rw [Tryz.ntmps86]; simp) rfl rfl ?_; intro E hH hK
  (refine zf ?_; conv => whnf)
  repeat' ((with_reducible refine way ?_ ?_) <;> (intro h; conv => whnf))
  all_goals try (exfalso; omega)
  exact hK _
 by_cases h3 : n ∈ l
 ·rw [show zmg l n = l from if_pos (.inr (.inr h3))]
  rw [decide_eq_true h3] at hin
  refine zd Tryz.func86 rfl (by rw [Tryz.ntmps86]; simp) rfl rfl ?_; intro E hH hK
  (refine zf ?_; conv => whnf)
  repeat' ((with_reducible refine way ?_ ?_) <;> (intro h; conv => whnf))
  all_goals try (exfalso; omega)
  refine ze rfl  hin ?_
  (refine za ?_; conv => whnf)
  exact hK _
 rw [show zmg l n = zue n l from if_neg (by rintro (h | h | h); exact h1 h; exact h2 h; exact h3 h)]
 rw [decide_eq_false h3] at hin
 refine zd Tryz.func86 rfl (by rw [Tryz.ntmps86]; simp) rfl rfl ?_; intro E hH hK
 (refine zf ?_; conv => whnf)
 repeat' ((with_reducible refine way ?_ ?_) <;> (intro h; conv => whnf))
 all_goals try (exfalso; omega)
 refine ze rfl  hin ?_
 (refine za ?_; conv => whnf)
 refine zsy (n := 5) (kk := 1) rfl ?_
 refine zg [0, 1, 5, 6, 7] ?_
 change SW E _ [(0, .imm (zl l)), (1, sI n), (5, .asl 0 1 []), (6, sB false), (7, sI 0)] [.tok 1 0]
 refine zq l (fun i (s : List Int × Bool) => [(0, .imm (zl l)), (1, sI n), (5, .asl 0 1 (s.1.map fun n => [dI n])), (6, sB s.2), (7, sI i)]) (fun _ s => [.tok 1 (s.1.map fun n => [dI n]).length])
  (fun done rest s => zue n l = s.1 ++ (if s.2 = true then rest else zue n rest) /\ s.1.length <= 2 * done.length + 1) ([], false) ⟨rfl, by simp⟩ ?_ ?_
 ·rintro ⟨out, dn⟩ ⟨h4, h5⟩
  change zue n l = out ++ _ at h4
  change out.length <= _ at h5
  change SW E _ [(0, .imm (zl l)), (1, sI n), (5, .asl 0 1 (out.map fun n => [dI n])), (6, sB dn), (7, sI l.length)] [.tok 1 (out.map fun n => [dI n]).length]
  cases dn with
  | true =>
   simp only [if_true, List.append_nil] at h4
   rw [h4] at hK
   refine zdl ?_
   change SW E _ [(0, .imm (zl l)), (1, sI n), (5, .imm (zl out)), (6, sB true), (7, sI l.length)] _
   (refine zf ?_; conv => whnf)
   repeat' ((with_reducible refine way ?_ ?_) <;> (intro h; conv => whnf))
   all_goals try (exfalso; omega)
   exact hK _
  | false =>
   simp only [Bool.false_eq_true, if_false, zue] at h4
   rw [h4] at hK
   (refine zf ?_; conv => whnf)
   repeat' ((with_reducible refine way ?_ ?_) <;> (intro h; conv => whnf))
   all_goals try (exfalso; omega)
   refine wd (b := 0) (kk := 1) (rows := out.map fun n => [dI n]) (new := [[dI n]]) rfl ⟨by decide, rfl⟩ rfl (by rw [List.length_map]; simp only [List.length_cons, List.length_nil]; omega) ?_
   have e5 : (out.map fun n => [dI n]) ++ [[dI n]] = (out ++ [n]).map fun n => [dI n] := by simp
   refine Eq.mpr (congrArg (fun v => SWr E _ _ _ (wq _ _ (.asl 0 1 v)) _) e5) ?_
   refine jf (fun k => zdl) ?_
   (refine za ?_; conv => whnf)
   exact hK _
 ·rintro done x rest ⟨out, dn⟩ hda hdl ⟨h4, h5⟩ ih
  change zue n l = out ++ _ at h4
  change out.length <= _ at h5
  have hw := zm (n := done.length) (by omega)
  have hrx : (l.map fun n => [dI n])[done.length]? = some [dI x] := by simp [hda]
  change SW E _ [(0, .imm (zl l)), (1, sI n), (5, .asl 0 1 (out.map fun n => [dI n])), (6, sB dn), (7, sI done.length)] [.tok 1 (out.map fun n => [dI n]).length]
  have fin : ∀ out' dn', zue n l = out' ++ (if dn' = true then rest else zue n rest) -> out'.length <= 2 * done.length + 3 -> SW E _ _ _ := fun out' dn' g1 g2 => ih (out', dn') ⟨g1, by simp only [List.length_append, List.length_cons, List.length_nil]; omega⟩
  cases dn with
  | true =>
   simp only [if_true] at h4
   (refine zf ?_; conv => whnf)
   repeat' ((with_reducible refine way ?_ ?_) <;> (intro h; conv => whnf))
   all_goals try (exfalso; omega)
   refine zh (i := done.length) (row := [dI x]) rfl rfl hrx ?_
   (refine za ?_; conv => whnf)
   refine wd (b := 0) (kk := 1) (rows := out.map fun n => [dI n]) (new := [[dI x]]) rfl ⟨by decide, rfl⟩ rfl (by rw [List.length_map]; simp only [List.length_cons, List.length_nil]; omega) ?_
   have e5 : (out.map fun n => [dI n]) ++ [[dI x]] = (out ++ [x]).map fun n => [dI n] := by simp
   have e6 : (out.map fun n => [dI n]).length + [[dI x]].length = ((out ++ [x]).map fun n => [dI n]).length := by simp
   refine Eq.mpr (congrArg (fun v => SWr E _ _ _ (wq _ _ (.asl 0 1 v)) _) e5) ?_
   refine Eq.mpr (congrArg (fun v => SWr E _ _ _ _ (List.set _ 0 (.tok 1 v))) e6) ?_
   (refine za ?_; conv => whnf)
   rw [hw]
   exact zg [0, 1, 5, 6, 7] (fin (out ++ [x]) true (by rw [h4]; simp) (by simp; omega))
  | false =>
   simp only [Bool.false_eq_true, if_false] at h4
   (refine zf ?_; conv => whnf)
   repeat' ((with_reducible refine way ?_ ?_) <;> (intro h; conv => whnf))
   all_goals try (exfalso; omega)
   refine zh (i := done.length) (row := [dI x]) rfl rfl hrx ?_
   (refine za ?_; conv => whnf)
   repeat' ((with_reducible refine way ?_ ?_) <;> (intro h; conv => whnf))
   ·refine wd (b := 0) (kk := 1) (rows := out.map fun n => [dI n]) (new := [[dI n]]) rfl ⟨by decide, rfl⟩ rfl (by rw [List.length_map]; simp only [List.length_cons, List.length_nil]; omega) ?_
    have e5 : (out.map fun n => [dI n]) ++ [[dI n]] = (out ++ [n]).map fun n => [dI n] := by simp
    have e6 : (out.map fun n => [dI n]).length + [[dI n]].length = ((out ++ [n]).map fun n => [dI n]).length := by simp
    refine Eq.mpr (congrArg (fun v => SWr E _ _ _ (wq _ _ (.asl 0 1 v)) _) e5) ?_
    refine Eq.mpr (congrArg (fun v => SWr E _ _ _ _ (List.set _ 0 (.tok 1 v))) e6) ?_
    (refine za ?_; conv => whnf)
    refine zh (i := done.length) (row := [dI x]) rfl rfl hrx ?_
    (refine za ?_; conv => whnf)
    refine wd (b := 0) (kk := 1) (rows := (out ++ [n]).map fun n => [dI n]) (new := [[dI x]]) rfl ⟨by decide, rfl⟩ rfl (by rw [List.length_map]; simp only [List.length_append, List.length_cons, List.length_nil]; omega) ?_
    have e7 : ((out ++ [n]).map fun n => [dI n]) ++ [[dI x]] = (out ++ [n] ++ [x]).map fun n => [dI n] := by simp
    have e8 : ((out ++ [n]).map fun n => [dI n]).length + [[dI x]].length = ((out ++ [n] ++ [x]).map fun n => [dI n]).length := by simp
    refine Eq.mpr (congrArg (fun v => SWr E _ _ _ (wq _ _ (.asl 0 1 v)) _) e7) ?_
    refine Eq.mpr (congrArg (fun v => SWr E _ _ _ _ (List.set _ 0 (.tok 1 v))) e8) ?_
    (refine za ?_; conv => whnf)
    rw [hw]
    exact zg [0, 1, 5, 6, 7] (fin (out ++ [n] ++ [x]) true (by rw [h4, zue, if_pos (by assumption)]; simp) (by simp; omega))
   ·refine zh (i := done.length) (row := [dI x]) rfl rfl hrx ?_
    (refine za ?_; conv => whnf)
    refine wd (b := 0) (kk := 1) (rows := out.map fun n => [dI n]) (new := [[dI x]]) rfl ⟨by decide, rfl⟩ rfl (by rw [List.length_map]; simp only [List.length_cons, List.length_nil]; omega) ?_
    have e5 : (out.map fun n => [dI n]) ++ [[dI x]] = (out ++ [x]).map fun n => [dI n] := by simp
    have e6 : (out.map fun n => [dI n]).length + [[dI x]].length = ((out ++ [x]).map fun n => [dI n]).length := by simp
    refine Eq.mpr (congrArg (fun v => SWr E _ _ _ (wq _ _ (.asl 0 1 v)) _) e5) ?_
    refine Eq.mpr (congrArg (fun v => SWr E _ _ _ _ (List.set _ 0 (.tok 1 v))) e6) ?_
    (refine za ?_; conv => whnf)
    rw [hw]
    exact zg [0, 1, 5, 6, 7] (fin (out ++ [x]) false (by rw [h4, zue, if_neg (by assumption)]; simp) (by simp; omega))
theorem yhq (c : Codex) (n : Int) (u : ByteArray) (den : Int) (ps : List Piece) (k : Ex) (b1 : Bool) (h1 : zx Tryz.prog G 54 [c.sv, k.sv] (sB b1)) :
  zx Tryz.prog G 54 [c.sv, (Ex.mk 5 n u den ps [k]).sv] (sB b1) := by
 obtain ⟨kop, kn, ku, kden, kps, kks⟩ := k
 rw [show c.sv = .agg [.imm (zk c.facts), .imm (zk c.lines), .imm (ys c.arts)] from rfl] at h1 ⊢
 refine zd Tryz.func54 rfl (by rw [Tryz.ntmps54]; simp) rfl rfl ?_; intro E hH hK
 (refine zf ?_; conv => whnf)
 refine zg [2, 3, 4, 5] ?_
 (refine zu 0 mixed rfl ?_; refine zb [777] (nx := 2) ?_; conv => whnf)
 refine zr (i := 0) (row := [dI kop, dI kn, dS ku, dI kden, .isl 3 (kps.map Piece.cells), .isl 6 (zc kks)]) rfl (show 2 <= 2 by decide) rfl rfl ?_
 (refine zb [777] (nx := 2) ?_; conv => whnf)
 refine yq rfl (show 2 <= 2 by decide) h1 ?_
 (refine zb [777, 4] (nx := 2) ?_; conv => whnf)
 refine qw ⟨sB b1, [], none⟩ rfl rfl (show 2 <= 2 by decide) (fun _ _ _ => rfl) ?_
 refine jn (by kernel_rfl) ?_
 (refine zf ?_; conv => whnf)
 exact hK _
theorem ycd (c : Codex) {op : Int} (hop : op = 6 \/ op = 7) (n : Int) (u : ByteArray) (den : Int) (ps : List Piece) (k l : Ex) (b1 b2 : Bool) (h1 : zx Tryz.prog G 54 [c.sv, k.sv] (sB b1))
  (h2 : zx Tryz.prog G 54 [c.sv, l.sv] (sB b2)) : zx Tryz.prog G 54 [c.sv, (Ex.mk op n u den ps [k, l]).sv] (sB (b1 && b2)) := by
 obtain ⟨kop, kn, ku, kden, kps, kks⟩ := k
 obtain ⟨lop, ln, lu, lden, lps, lks⟩ := l
 rw [show c.sv = .agg [.imm (zk c.facts), .imm (zk c.lines), .imm (ys c.arts)] from rfl] at h1 h2 ⊢
 refine zd Tryz.func54 rfl (by rw [Tryz.ntmps54]; simp) rfl rfl ?_; intro E hH hK
 rcases hop with rfl | rfl
 all_goals
  (refine zf ?_; conv => whnf)
  refine zg [2, 3, 4, 5] ?_
  (refine zu 0 mixed rfl ?_; refine zb [777] (nx := 2) ?_; conv => whnf)
  refine zr (i := 0) (row := [dI kop, dI kn, dS ku, dI kden, .isl 3 (kps.map Piece.cells), .isl 6 (zc kks)]) rfl (show 2 <= 2 by decide) rfl rfl ?_
  (refine zb [777] (nx := 2) ?_; conv => whnf)
  refine yq rfl (show 2 <= 2 by decide) h1 ?_
  cases b1 <;> (refine zb [777, 4] (nx := 2) ?_; conv => whnf)
  ·refine qw ⟨sB false, [], none⟩ rfl rfl (show 2 <= 2 by decide) (fun _ _ _ => rfl) ?_
   refine jn (by kernel_rfl) ?_
   (refine zf ?_; conv => whnf)
   exact hK _
  ·refine zr (i := 1) (row := [dI lop, dI ln, dS lu, dI lden, .isl 3 (lps.map Piece.cells), .isl 6 (zc lks)]) rfl (show 2 <= 2 by decide) rfl rfl ?_
   (refine zb [777] (nx := 2) ?_; conv => whnf)
   refine yq rfl (show 2 <= 2 by decide) h2 ?_
   (refine zb [777, 4] (nx := 2) ?_; conv => whnf)
   refine qw ⟨sB b2, [], none⟩ rfl rfl (show 2 <= 2 by decide) (fun _ _ _ => rfl) ?_
   refine jn (by kernel_rfl) ?_
   (refine zf ?_; conv => whnf)
   exact hK _
theorem yhr (c : Codex) {op : Int} (hop : op = 8 \/ op = 9 \/ op = 10) (n : Int) (u : ByteArray) (den : Int) (ps : List Piece) (k l : Ex) :
  zx Tryz.prog G 54 [c.sv, (Ex.mk op n u den ps [k, l]).sv] (sB (zfi k && zfi l && (decide (k.op = 1) || decide (l.op = 1)))) := by
 have hcmp := zdg G op
 rw [show zhg op = true by unfold zhg; rcases hop with rfl | rfl | rfl <;> rfl] at hcmp
 have hs1 := zrr G k
 have hs2 := zrr G l
 generalize zfi k = b1 at hs1
 generalize zfi l = b2 at hs2
 obtain ⟨kop, kn, ku, kden, kps, kks⟩ := k
 obtain ⟨lop, ln, lu, lden, lps, lks⟩ := l
 rw [show c.sv = .agg [.imm (zk c.facts), .imm (zk c.lines), .imm (ys c.arts)] from rfl]
 simp only [Ex.op]
 refine zd Tryz.func54 rfl (by rw [Tryz.ntmps54]; simp) rfl rfl ?_; intro E hH hK
 rcases hop with rfl | rfl | rfl
 all_goals
  (refine zf ?_; conv => whnf)
  refine ze rfl  hcmp ?_
  (refine za ?_; conv => whnf)
  refine zh (i := 0) (row := [dI kop, dI kn, dS ku, dI kden, .isl 3 (kps.map Piece.cells), .isl 6 (zc kks)]) rfl rfl rfl ?_
  (refine za ?_; conv => whnf)
  refine ze rfl  hs1 ?_
  cases b1 <;> ((refine za ?_; conv => whnf))
  ·exact hK _
  refine zh (i := 1) (row := [dI lop, dI ln, dS lu, dI lden, .isl 3 (lps.map Piece.cells), .isl 6 (zc lks)]) rfl rfl rfl ?_
  (refine za ?_; conv => whnf)
  refine ze rfl  hs2 ?_
  cases b2 <;> ((refine za ?_; conv => whnf))
  ·exact hK _
  refine zh (i := 0) (row := [dI kop, dI kn, dS ku, dI kden, .isl 3 (kps.map Piece.cells), .isl 6 (zc kks)]) rfl rfl rfl ?_
  (refine za ?_; conv => whnf)
  change ∀ H', E.K (sB (true && true && (decide (kop = 1) || decide (lop = 1)))) H' at hK
  cases h3 : decide (kop = 1) <;> (conv => whnf)
  case true =>
   rw [decide_eq_true (of_decide_eq_true h3)] at hK
   exact hK _
  ·rw [decide_eq_false (of_decide_eq_false h3)] at hK
   refine zh (i := 1) (row := [dI lop, dI ln, dS lu, dI lden, .isl 3 (lps.map Piece.cells), .isl 6 (zc lks)]) rfl rfl rfl ?_
   (refine za ?_; conv => whnf)
   exact hK _
theorem zbo (c : Codex) (m : List (Int × Int)) : ∀ (N : Nat) (e : Ex), SizeOf.sizeOf e < N -> zen c m e -> e.unit = tT -> zx Tryz.prog G 54 [c.sv, e.sv] (sB (simpE c e))
 | 0, _, h, _, _ => by omega
 | N + 1, .mk op n u den ps ks, hN, h, hu => by
  simp only [Ex.mk.sizeOf_spec] at hN
  have hu : u = tT := hu
  cases zjk h hu with
  | const h1 hk hu =>
   subst h1 hk
   rw [show simpE c (.mk 1 n u den ps []) = decide (u = tT) by unfold simpE; rfl]
   refine zd Tryz.func54 rfl (by rw [Tryz.ntmps54]; simp) rfl rfl ?_; intro E hH hK
   (refine zf ?_; conv => whnf)
   exact hK _
  | fact h1 hk hr ht =>
   subst h1 hk
   obtain ⟨d, hd⟩ : ∃ d, c.facts[n.toNat]? = some d := ⟨_, List.getElem?_eq_getElem (by omega)⟩
   have hrow : (c.facts.map Decl.cells)[n.toNat]? = some [dS d.name, dS d.unit, dI d.role] := by simp [hd, Decl.cells]
   rw [show simpE c (.mk 2 n u den ps []) = decide (d.unit = tT) by unfold simpE zka; rw [if_neg (by decide), if_pos rfl, hd]]
   refine zd Tryz.func54 rfl (by rw [Tryz.ntmps54]; simp) rfl rfl ?_; intro E hH hK
   rw [show c.sv = .agg [.imm (zk c.facts), .imm (zk c.lines), .imm (ys c.arts)] from rfl]
   (refine zf ?_; conv => whnf)
   refine zh (i := n.toNat) rfl (by omega) hrow ?_
   (refine za ?_; conv => whnf)
   exact hK _
  | neg k h1 hk hka hku =>
   subst h1 hk
   simp only [List.cons.sizeOf_spec] at hN
   have h1 := zbo c m N k (by omega) hka hku
   rw [show simpE c (.mk 5 n u den ps [k]) = simpE c k by rw [simpE.eq_def]; simp only [show ¬ (5 : Int) = 1 by decide, show ¬ (5 : Int) = 2 by decide, if_false, if_true]]
   exact yhq G c n u den ps k _ h1
  | conn k l h1 hk hka hla hku hlu =>
   subst hk
   simp only [List.cons.sizeOf_spec] at hN
   have hs1 := zbo c m N k (by omega) hka hku
   have hs2 := zbo c m N l (by omega) hla hlu
   rw [show simpE c (.mk op n u den ps [k, l]) = (simpE c k && simpE c l) by
    rw [simpE.eq_def]
    simp only
    rw [if_neg (by omega), if_neg (by omega), if_neg (by omega), if_pos h1]]
   exact ycd G c h1 n u den ps k l _ _ hs1 hs2
  | cmp k l h1 hk hka hla =>
   subst hk
   rw [zfw h1]
   exact yhr G c h1 n u den ps k l
  | other h1 h2 h3 h4 h5 =>
   have hc : zhg op = false := by unfold zhg; simp; omega
   have hs : simpE c (.mk op n u den ps ks) = false := by
    unfold simpE
    rw [if_neg h1, if_neg h2, if_neg h3, if_neg h4]
    split
    ·simp [hc]
    ·rfl
   rw [hs]
   have hcmp := zdg G op
   rw [hc] at hcmp
   refine zd Tryz.func54 rfl (by rw [Tryz.ntmps54]; simp) rfl rfl ?_; intro E hH hK
   rw [show c.sv = .agg [.imm (zk c.facts), .imm (zk c.lines), .imm (ys c.arts)] from rfl]
   (refine zf ?_; conv => whnf)
   repeat' ((with_reducible refine way ?_ ?_) <;> (intro h; conv => whnf))
   all_goals try (exfalso; omega)
   refine ze rfl  hcmp ?_
   (refine za ?_; conv => whnf)
   exact hK _
theorem ypa {P : Program} {G : List (Nat × D)} {fn : Func} {rd : Bool} {E : En P G fn rd} {α : Type} {T : α -> List (Nat × SV)} {H : List SObj} {x : α} {R : Prop} {k : List Item} (h1 : (∀ v, v = x -> SW E k (T v) H) -> R) (h2 : SW E k (T x) H) : R := h1 fun _ e => e ▸ h2
theorem zzq (c : Codex) (f op n : Int) (l : List Int) : (zbq c f op n l).length <= l.length + 2 := by
 unfold zbq
 have h1 := zjn l 0
 have h2 := zjn (zmg l 0) 1
 split
 ·split <;> omega
 ·omega
theorem zrs (c : Codex) (f op : Int) (k o : Ex) (l : List Int) : (zeq c f op k o l).length <= l.length + 2 := by
 unfold zeq
 have h1 := zjn l o.n
 have h2 := zjn (zmg l o.n) (o.n + 1)
 split <;> omega
theorem zil (c : Codex) (f : Int) : ∀ (N : Nat) (e : Ex), SizeOf.sizeOf e < N -> ∀ l : List Int, (candE c f e l).length <= l.length + 8 * xc e
 | 0, _, h, _ => by omega
 | N + 1, .mk op n u den ps ks, hN, l => by
  simp only [Ex.mk.sizeOf_spec] at hN
  have hf := zzq c f op n l
  rw [candE.eq_def, xc]
  match ks, hN with
  | [], _ => simp only; omega
  | [k], hN =>
   simp only [List.cons.sizeOf_spec] at hN
   have := zil c f N k (by omega) (zbq c f op n l)
   simp only [yf]
   omega
  | [k, r], hN =>
   simp only [List.cons.sizeOf_spec] at hN
   have h1 := zil c f N k (by omega) (zbq c f op n l)
   have h2 := zrs c f op k r (candE c f k (zbq c f op n l))
   have h3 := zil c f N r (by omega) (zeq c f op k r (candE c f k (zbq c f op n l)))
   have h4 := zrs c f op r k (candE c f r (zeq c f op k r (candE c f k (zbq c f op n l))))
   simp only [yf]
   omega
  | _ :: _ :: _ :: _, _ => simp only; omega
def zzr (c : Codex) (f op : Int) : List Ex -> List Ex -> List Int -> List Int
 | k :: r, o :: os, l => zzr c f op r os (zeq c f op k o (candE c f k l))
 | _, _, l => l
theorem zjq {c : Codex} {f op n : Int} {u : ByteArray} {den : Int} {ps : List Piece} {ks : List Ex} (h : ks = [] \/ (∃ k, ks = [k] /\ zhg op = false) \/ ∃ k r, ks = [k, r]) (l : List Int) :
  zzr c f op ks ks.reverse (zbq c f op n l) = candE c f (.mk op n u den ps ks) l := by
 rw [candE.eq_def]
 rcases h with rfl | ⟨k, rfl, hc⟩ | ⟨k, r, rfl⟩
 ·rfl
 ·show zeq c f op k k (candE c f k (zbq c f op n l)) = _
  rw [zwk hc]
 ·rfl
theorem ymo {c : Codex} {f op : Int} {k o : Ex} {l : List Int} (h : ¬ (zhg op = true /\ k.op = 2 /\ k.n = f /\ o.op = 1 /\ zka c f = false)) : zeq c f op k o l = l := by unfold zeq; rw [if_neg h]
theorem ypb {c : Codex} {f op : Int} {k o : Ex} {l : List Int} (h : zhg op = true /\ k.op = 2 /\ k.n = f /\ o.op = 1 /\ zka c f = false) : zeq c f op k o l = zmg (zmg l o.n) (o.n + 1) := by unfold zeq; rw [if_pos h]
theorem ymp (c : Codex) (f op : Int) (os : List Ex) (l : List Int) : zzr c f op [] os l = l := by cases os <;> rfl
theorem zcg (c : Codex) {m : List (Int × Int)} {f : Int} (hf : 0 <= f /\ f < c.facts.length) (op n : Int) (u : ByteArray) (den : Int) (ps : List Piece) (ks : List Ex) (l : List Int) (hz : l.length + 10 * xc (.mk op n u den ps ks) <= 100000000)
  (ha : ∀ k ∈ ks, zen c m k) (hk : ∀ k ∈ ks, ∀ l' : List Int, l'.length + 10 * xc k <= 100000000 -> zx Tryz.prog G 55 [c.sv, k.sv, sI f, .imm (zl l')] (.imm (zl (candE c f k l')))) :
  zx Tryz.prog G 55 [c.sv, (Ex.mk op n u den ps ks).sv, sI f, .imm (zl l)] (.imm (zl (zzr c f op ks ks.reverse (zbq c f op n l)))) := by
 have hlen : (zc ks).length = ks.length := by rw [zp]; simp
 rw [xc] at hz
 have hle := zeb ks
 obtain ⟨d, hd⟩ : ∃ d, c.facts[f.toNat]? = some d := ⟨_, List.getElem?_eq_getElem (by omega)⟩
 have hrow : (c.facts.map Decl.cells)[f.toNat]? = some [dS d.name, dS d.unit, dI d.role] := by simp [hd, Decl.cells]
 have hT : zka c f = decide (d.unit = tT) := by unfold zka; rw [hd]
 have hcmp := zdg G op
 have hfl := zzq c f op n l
 rw [show c.sv = .agg [.imm (zk c.facts), .imm (zk c.lines), .imm (ys c.arts)] from rfl] at hk ⊢
 obtain ⟨b, hb⟩ : ∃ b, b = zhg op := ⟨_, rfl⟩
 rw [<- hb] at hcmp
 obtain ⟨l1, hl1⟩ : ∃ l1, l1 = zbq c f op n l := ⟨_, rfl⟩
 rw [<- hl1] at hfl ⊢
 refine zd Tryz.func55 rfl (by rw [Tryz.ntmps55]; simp) rfl rfl ?_; intro E hH hK
 apply ypa (T := fun v : List Int => [(2, sI f), (3, .imm (zl v)), (4, .ptr 0 0), (5, .ptr 1 0), (9, sB b), (10, sI 0)]) (H := [.cells [.imm (zk c.facts), .imm (zk c.lines), .imm (ys c.arts)], .cells [sI op, sI n, sS u, sI den, .imm (.isl 3 (ps.map Piece.cells)), .imm (.isl 6 (zc ks))]]) (x := l1)
 case h1 =>
  intro key
  by_cases hA : op = 2 /\ n = f
  ·have hp0 := zjp G l 0 (by omega)
   have hp1 := zjp G (zmg l 0) 1 (by have := zjn l 0; omega)
   (refine zf ?_; conv => whnf)
   repeat' ((with_reducible refine way ?_ ?_) <;> (intro h; conv => whnf))
   all_goals try (exfalso; omega)
   refine ze rfl  hp0 ?_
   (refine za ?_; conv => whnf)
   refine zh (i := f.toNat) rfl (by omega) hrow ?_
   (refine za ?_; conv => whnf)
   repeat' ((with_reducible refine way ?_ ?_) <;> (intro h; conv => whnf))
   ·have ht := h
    have e0 : zmg (zmg l 0) 1 = l1 := by rw [hl1]; unfold zbq; rw [if_pos hA, if_pos (hT.trans (decide_eq_true (p := d.unit = tT) ht))]
    refine ze rfl  hp1 ?_
    (refine za ?_; conv => whnf)
    refine ze rfl  hcmp ?_
    (refine za ?_; conv => whnf)
    refine zg [2, 3, 4, 5, 9, 10] ?_
    exact key _ e0
   ·have ht := h
    have e0 : zmg l 0 = l1 := by rw [hl1]; unfold zbq; rw [if_pos hA, if_neg (by rw [hT, decide_eq_false (p := d.unit = tT) ht]; simp)]
    refine ze rfl  hcmp ?_
    (refine za ?_; conv => whnf)
    refine zg [2, 3, 4, 5, 9, 10] ?_
    exact key _ e0
  ·have e0 : l = l1 := by rw [hl1]; unfold zbq; rw [if_neg hA]
   (refine zf ?_; conv => whnf)
   repeat' ((with_reducible refine way ?_ ?_) <;> (intro h; conv => whnf))
   all_goals try (exfalso; omega)
   all_goals refine ze rfl  hcmp ?_
   all_goals (refine za ?_; conv => whnf)
   all_goals refine zg [2, 3, 4, 5, 9, 10] ?_
   all_goals exact key _ e0
 case h2 =>
  refine zq ks (fun i (v : List Int) => [(2, sI f), (3, .imm (zl v)), (4, .ptr 0 0), (5, .ptr 1 0), (9, sB b), (10, sI i)]) (fun _ _ => [.cells [.imm (zk c.facts), .imm (zk c.lines), .imm (ys c.arts)], .cells [sI op, sI n, sS u, sI den, .imm (.isl 3 (ps.map Piece.cells)), .imm (.isl 6 (zc ks))]])
   (fun done rest v => zzr c f op ks ks.reverse l1 = zzr c f op rest (ks.reverse.drop done.length) v /\ v.length + 10 * yf rest <= 100000000) l1 ⟨rfl, by omega⟩ ?_ ?_
  ·rintro v ⟨h1, _⟩
   rw [h1, ymp] at hK
   (refine zf ?_; conv => whnf)
   repeat' ((with_reducible refine way ?_ ?_) <;> (intro h; conv => whnf))
   all_goals try (exfalso; omega)
   exact hK _
  ·rintro done x rest v hda hdl ⟨h1, h2⟩ ih
   have hw := zm (n := done.length) (by omega)
   obtain ⟨o, ho⟩ : ∃ o, ks.reverse[done.length]? = some o := ⟨_, List.getElem?_eq_getElem (by simp; omega)⟩
   have hoi : ks[ks.length - 1 - done.length]? = some o := by rw [<- ho, List.getElem?_reverse (by omega)]
   have hstep : zzr c f op ks ks.reverse l1 = zzr c f op rest (ks.reverse.drop (done ++ [x]).length) (zeq c f op x o (candE c f x v)) := by
    obtain ⟨hlt, hoe⟩ := List.getElem?_eq_some_iff.1 ho
    rw [h1, List.drop_eq_getElem_cons hlt, hoe, List.length_append]
    rfl
   rw [yf] at h2
   have hx1 := zth x
   have hcl := zil c f _ x (Nat.lt_succ_self _) v
   have hsl := zrs c f op x o (candE c f x v)
   have hcall := hk x (by rw [hda]; simp) v (by omega)
   have hao := ha o (List.mem_of_getElem? hoi)
   have hrx : (zc ks)[done.length]? = some x.cells := by rw [zp]; simp [hda]
   have hro : (zc ks)[ks.length - 1 - done.length]? = some o.cells := by rw [zp]; simp [hoi]
   generalize hV : candE c f x v = v2 at hcall hcl hsl hstep
   have fin : ∀ v3, v3 = zeq c f op x o v2 -> SW E _ _ _ := fun v3 h3 => ih v3 ⟨by rw [h3]; exact hstep, by rw [h3]; omega⟩
   obtain ⟨xop, xn, xu, xden, xps, xks⟩ := x
   obtain ⟨oop, on, ou, oden, ops, oks⟩ := o
   have fin2 : ¬ (zhg op = true /\ xop = 2 /\ xn = f /\ oop = 1 /\ zka c f = false) -> SW E _ _ _ := fun hn => fin v2 (ymo hn).symm
   (refine zf ?_; conv => whnf)
   repeat' ((with_reducible refine way ?_ ?_) <;> (intro h; conv => whnf))
   all_goals try (exfalso; omega)
   (refine zu 0 mixed rfl ?_; refine zb [777] (nx := 2) ?_; conv => whnf)
   refine zr (i := done.length) (row := [dI xop, dI xn, dS xu, dI xden, .isl 3 (xps.map Piece.cells), .isl 6 (zc xks)]) rfl (show 2 <= 2 by decide) rfl hrx ?_
   (refine zb [777] (nx := 2) ?_; conv => whnf)
   refine yq rfl (show 2 <= 2 by decide) hcall ?_
   (refine zb [777, 3] (nx := 2) ?_; conv => whnf)
   refine qw ⟨.imm (zl v2), [], none⟩ rfl rfl (show 2 <= 2 by decide) (fun _ _ _ => rfl) ?_
   refine jn (by kernel_rfl) ?_
   (refine zf ?_; conv => whnf)
   refine zh (i := ks.length - 1 - done.length) (row := [dI oop, dI on, dS ou, dI oden, .isl 3 (ops.map Piece.cells), .isl 6 (zc oks)]) rfl (by rw [hlen, xh (c := (ks.length : Int) - 1) (by omega) (by omega), xh (c := (ks.length : Int) - 1 - (done.length : Int)) (by omega) (by omega)]; omega) hro ?_
   (refine za ?_; conv => whnf)
   cases b <;> (conv => whnf)
   ·rw [hw]
    exact yr [2, 3, 4, 5, 9, 10] 2 (by rw [hH]; exact Nat.zero_le 2) (Nat.succ_le_succ (Nat.succ_le_succ (Nat.zero_le _))) rfl rfl (fin2 fun hh => by rw [<- hb] at hh; cases hh.1)
   refine zh (i := done.length) (row := [dI xop, dI xn, dS xu, dI xden, .isl 3 (xps.map Piece.cells), .isl 6 (zc xks)]) rfl rfl hrx ?_
   (refine za ?_; conv => whnf)
   repeat' ((with_reducible refine way ?_ ?_) <;> (intro h; conv => whnf))
   ·have g2 := h
    refine zh (i := done.length) (row := [dI xop, dI xn, dS xu, dI xden, .isl 3 (xps.map Piece.cells), .isl 6 (zc xks)]) rfl rfl hrx ?_
    (refine za ?_; conv => whnf)
    repeat' ((with_reducible refine way ?_ ?_) <;> (intro h; conv => whnf))
    ·have g3 : xn = f := by assumption
     have g4 : oop = 1 := by assumption
     refine zh (i := f.toNat) rfl (by omega) hrow ?_
     (refine za ?_; conv => whnf)
     repeat' ((with_reducible refine way ?_ ?_) <;> (intro h; conv => whnf))
     ·have g5 : ¬ d.unit = tT := h
      have hon : 0 <= on /\ on <= 999999999999 := by
       unfold zen at hao
       exact ztz hao.1 g4
      have hwon : IntKind.i64.wrap (on + 1) = on + 1 := xh (by omega) (by omega)
      have hq1 := zjp G v2 on (by omega)
      have hq2 := zjp G (zmg v2 on) (on + 1) (by have := zjn v2 on; omega)
      rw [<- hwon] at hq2
      have fin3 := fin (zmg (zmg v2 on) (IntKind.i64.wrap (on + 1))) (by
       rw [hwon]
       exact (ypb (k := .mk xop xn xu xden xps xks) (o := .mk oop on ou oden ops oks) ⟨hb.symm, g2, g3, g4, by rw [hT]; exact decide_eq_false g5⟩).symm)
      (refine zu 0 mixed rfl ?_; refine zb [777] (nx := 3) ?_; conv => whnf)
      refine yq rfl (show 3 <= 3 by decide) hq1 ?_
      (refine zb [777] (nx := 3) ?_; conv => whnf)
      refine yq rfl (show 3 <= 3 by decide) hq2 ?_
      (refine zb [777, 3] (nx := 3) ?_; conv => whnf)
      refine qw ⟨.imm (zl (zmg (zmg v2 on) (IntKind.i64.wrap (on + 1)))), [], none⟩ rfl rfl (show 3 <= 3 by decide) (fun _ _ _ => rfl) ?_
      refine jn (by kernel_rfl) ?_
      (refine zf ?_; conv => whnf)
      rw [hw]
      exact yr [2, 3, 4, 5, 9, 10] 2 (by rw [hH]; exact Nat.zero_le 2) (Nat.succ_le_succ (Nat.succ_le_succ (Nat.zero_le _))) rfl rfl fin3
     ·have g5 : d.unit = tT := h
      rw [hw]
      exact yr [2, 3, 4, 5, 9, 10] 2 (by rw [hH]; exact Nat.zero_le 2) (Nat.succ_le_succ (Nat.succ_le_succ (Nat.zero_le _))) rfl rfl (fin2 fun hh => by have := hh.2.2.2.2; rw [hT, decide_eq_true g5] at this; cases this)
    ·rw [hw]
     exact yr [2, 3, 4, 5, 9, 10] 2 (by rw [hH]; exact Nat.zero_le 2) (Nat.succ_le_succ (Nat.succ_le_succ (Nat.zero_le _))) rfl rfl (fin2 fun hh => absurd hh.2.2.2.1 h)
    ·rw [hw]
     exact yr [2, 3, 4, 5, 9, 10] 2 (by rw [hH]; exact Nat.zero_le 2) (Nat.succ_le_succ (Nat.succ_le_succ (Nat.zero_le _))) rfl rfl (fin2 fun hh => absurd hh.2.2.1 h)
   ·rw [hw]
    exact yr [2, 3, 4, 5, 9, 10] 2 (by rw [hH]; exact Nat.zero_le 2) (Nat.succ_le_succ (Nat.succ_le_succ (Nat.zero_le _))) rfl rfl (fin2 fun hh => absurd hh.2.1 h)
theorem zrt (c : Codex) {m : List (Int × Int)} {f : Int} (hf : 0 <= f /\ f < c.facts.length) (k : Ex) (hk : LeafE c k) (l : List Int) (hz : l.length + 10 * xc k <= 100000000) :
  zx Tryz.prog G 55 [c.sv, k.sv, sI f, .imm (zl l)] (.imm (zl (candE c f k l))) := by
 obtain ⟨op, n, u, den, ps, ks⟩ := k
 have hks : ks = [] := hk.no
 subst hks
 rw [<- zjq (.inl rfl)]
 exact zcg G c (m := m) hf op n u den ps [] l hz (fun k h => by cases h) (fun k h => by cases h)
theorem zgv (c : Codex) {m : List (Int × Int)} {f : Int} (hf : 0 <= f /\ f < c.facts.length) : ∀ (N : Nat) (e : Ex), SizeOf.sizeOf e < N -> zen c m e -> e.unit = tT -> simpE c e = true -> ∀ l : List Int, l.length + 10 * xc e <= 100000000 ->
  zx Tryz.prog G 55 [c.sv, e.sv, sI f, .imm (zl l)] (.imm (zl (candE c f e l)))
 | 0, _, h, _, _, _, _, _ => by omega
 | N + 1, .mk op n u den ps ks, hN, h, hu, hs, l, hz => by
  simp only [Ex.mk.sizeOf_spec] at hN
  have hu : u = tT := hu
  have hks : ∀ k ∈ ks, zen c m k := by unfold zen at h; exact wx h.2
  cases zjk h hu with
  | const h1 hk hu' =>
   subst hk
   rw [<- zjq (.inl rfl)]
   exact zcg G c hf op n u den ps [] l hz hks (fun k h => by cases h)
  | fact h1 hk hr ht =>
   subst hk
   rw [<- zjq (.inl rfl)]
   exact zcg G c hf op n u den ps [] l hz hks (fun k h => by cases h)
  | neg k h1 hk hka hku =>
   subst h1 hk
   simp only [List.cons.sizeOf_spec] at hN
   have hsk : simpE c k = true := by
    rw [simpE.eq_def] at hs
    simpa only [show ¬ (5 : Int) = 1 by decide, show ¬ (5 : Int) = 2 by decide, if_false, if_true] using hs
   rw [<- zjq (.inr (.inl ⟨k, rfl, rfl⟩))]
   refine zcg G c hf 5 n u den ps [k] l hz hks fun x hx l' hl' => ?_
   simp only [List.mem_singleton] at hx
   subst hx
   exact zgv c hf N x (by omega) hka hku hsk l' hl'
  | conn k r h1 hk hka hra hku hru =>
   subst hk
   simp only [List.cons.sizeOf_spec] at hN
   have hsE : simpE c (.mk op n u den ps [k, r]) = (simpE c k && simpE c r) := by
    rw [simpE.eq_def]
    simp only
    rw [if_neg (by omega), if_neg (by omega), if_neg (by omega), if_pos h1]
   rw [hsE, Bool.and_eq_true] at hs
   rw [<- zjq (.inr (.inr ⟨k, r, rfl⟩))]
   refine zcg G c hf op n u den ps [k, r] l hz hks fun x hx l' hl' => ?_
   simp only [List.mem_cons, List.not_mem_nil, or_false] at hx
   rcases hx with rfl | rfl
   ·exact zgv c hf N x (by omega) hka hku hs.1 l' hl'
   ·exact zgv c hf N x (by omega) hra hru hs.2 l' hl'
  | cmp k r h1 hk hka hra =>
   subst hk
   rw [zfw h1] at hs
   simp only [Bool.and_eq_true, Bool.or_eq_true, decide_eq_true_eq] at hs
   have hlk := zei hka (zfb hs.1.1)
   have hlr := zei hra (zfb hs.1.2)
   rw [<- zjq (.inr (.inr ⟨k, r, rfl⟩))]
   refine zcg G c hf op n u den ps [k, r] l hz hks fun x hx l' hl' => ?_
   simp only [List.mem_cons, List.not_mem_nil, or_false] at hx
   rcases hx with rfl | rfl
   ·exact zrt G c (m := m) hf x hlk l' hl'
   ·exact zrt G c (m := m) hf x hlr l' hl'
  | other h1 h2 h3 h4 h5 =>
   exfalso
   unfold simpE at hs
   rw [if_neg h1, if_neg h2, if_neg h3, if_neg h4] at hs
   have hce : zhg op = false := by unfold zhg; simp; omega
   split at hs
   ·simp [hce] at hs
   ·cases hs
def ymq (ls : List (List Int)) : D := .isl 1 (ls.map fun l => [zl l])
theorem yhs (ls : List (List Int)) (l : List Int) : zhj (ls ++ [l]) = min (zhj ls * max 1 (l.length : Int)) 1000000 := by
 unfold zhj
 rw [List.foldl_append]
 rfl
theorem ymr (ls : List (List Int)) : 1 <= zhj ls /\ zhj ls <= 1000000 := by
 have : ∀ (ls : List (List Int)) (p : Int), 1 <= p /\ p <= 1000000 -> 1 <= ls.foldl (fun p l => min (p * max 1 (l.length : Int)) 1000000) p /\ ls.foldl (fun p l => min (p * max 1 (l.length : Int)) 1000000) p <= 1000000 := by
  intro ls
  induction ls with
  | nil => exact fun p h => h
  | cons l r ih =>
   intro p h
   refine ih _ ?_
   have h1 : p <= p * max 1 (l.length : Int) := by
    have := Int.mul_le_mul_of_nonneg_left (show (1 : Int) <= max 1 (l.length : Int) by omega) (show 0 <= p by omega)
    omega
   show 1 <= min (p * max 1 (l.length : Int)) 1000000 /\ min (p * max 1 (l.length : Int)) 1000000 <= 1000000
   omega
 exact this ls 1 (by omega)
theorem zru (c : Codex) (f : Int) : ∀ (es : List Ex), (∀ e ∈ es, xc e <= 400) -> ∀ l : List Int, (es.foldl (fun l e => candE c f e l) l).length <= l.length + 3200 * es.length
 | [], _, l => by simp
 | e :: r, h, l => by
  have h1 := zil c f _ e (Nat.lt_succ_self _) l
  have h2 := zru c f r (fun x hx => h x (by simp [hx])) (candE c f e l)
  have h3 := h e (by simp)
  rw [List.foldl_cons, List.length_cons]
  omega
theorem yms (c : Codex) (f : Int) (es : List Ex) (e : Ex) : yew c f (es ++ [e]) = candE c f e (yew c f es) := by
 unfold yew
 rw [List.foldl_append]
 rfl
theorem yht (c : Codex) {m : List (Int × Int)} (vs : List Int) (hz : vs.length <= 1000) (hv : ∀ v ∈ vs, 0 <= v /\ v < c.arts.length) (hwh : ∀ a ∈ c.arts, a.when_.length <= 100) (hc : ∀ e ∈ yl c vs, zzm c m e)
  (hb : (yl c vs).all (simpE c) = false) : zx Tryz.prog G 23 [c.sv, .imm (zl vs)] (.tup [zdp, sB false]) := by
 have h1 := zik G c vs (by omega) hv hwh
 have hl := zeh hwh vs
 generalize yl c vs = es at h1 hl hc hb
 have hel : (es.map Ex.cells).length = es.length := by simp
 have hS := fun e => zbo G c m _ e (Nat.lt_succ_self _)
 rw [show c.sv = .agg [.imm (zk c.facts), .imm (zk c.lines), .imm (ys c.arts)] from rfl] at h1 hS ⊢
 refine zd Tryz.func23 rfl (by rw [Tryz.ntmps23]; simp) rfl rfl ?_; intro E hH hK
 (refine zf ?_; conv => whnf)
 refine ze rfl  h1 ?_
 (refine za ?_; conv => whnf)
 refine zg [2, 6, 7, 8, 9] ?_
 change SW E _ [(2, .ptr 0 0), (6, .imm (ye es)), (7, zdp), (8, sI 1), (9, sI 0)] [.cells [.imm (zk c.facts), .imm (zk c.lines), .imm (ys c.arts)]]
 refine zq es (fun i (_ : Unit) => [(2, .ptr 0 0), (6, .imm (ye es)), (7, zdp), (8, sI 1), (9, sI i)]) (fun _ _ => [.cells [.imm (zk c.facts), .imm (zk c.lines), .imm (ys c.arts)]])
  (fun done _ _ => done.all (simpE c) = true) () rfl ?_ ?_
 ·rintro _ h2
  rw [h2] at hb
  cases hb
 ·rintro done x rest _ hda hdl h2 ih
  have hw := zm (n := done.length) (by omega)
  have hx := hS x (hc x (by rw [hda]; simp)).1 (hc x (by rw [hda]; simp)).2
  have hsn : (done ++ [x]).all (simpE c) = simpE c x := by rw [List.all_append, h2]; simp
  have hrow : (es.map Ex.cells)[done.length]? = some x.cells := by simp [hda]
  rw [hsn] at ih
  generalize simpE c x = b1 at hx ih
  obtain ⟨kop, kn, ku, kden, kps, kks⟩ := x
  (refine zf ?_; conv => whnf)
  repeat' ((with_reducible refine way ?_ ?_) <;> (intro h; conv => whnf))
  all_goals try (exfalso; omega)
  (refine zu 0 mixed rfl ?_; refine zb [777] (nx := 1) ?_; conv => whnf)
  refine zr (i := done.length) (row := [dI kop, dI kn, dS ku, dI kden, .isl 3 (kps.map Piece.cells), .isl 6 (zc kks)]) rfl (show 1 <= 1 by decide) rfl hrow ?_
  (refine zb [777] (nx := 1) ?_; conv => whnf)
  refine yq rfl (show 1 <= 1 by decide) hx ?_
  (refine zb [777, 10] (nx := 1) ?_; conv => whnf)
  refine qw ⟨sB b1, [], none⟩ rfl rfl (show 1 <= 1 by decide) (fun _ _ _ => rfl) ?_
  refine jn (by kernel_rfl) ?_
  (refine zf ?_; conv => whnf)
  cases b1 <;> (conv => whnf)
  ·exact hK _
  ·rw [hw]
   exact zg [2, 6, 7, 8, 9] (ih () rfl)
theorem yce (c : Codex) {m : List (Int × Int)} (vs : List Int) (hz : vs.length <= 100) (hv : ∀ v ∈ vs, 0 <= v /\ v < c.arts.length) (hwh : ∀ a ∈ c.arts, a.when_.length <= 100) (hc : ∀ e ∈ yl c vs, zzm c m e /\ xc e <= 400)
  (hF : c.facts.length <= 1000) (hb : (yl c vs).all (simpE c) = true) : zx Tryz.prog G 23 [c.sv, .imm (zl vs)] (.tup [.imm (ymq (yby c (yl c vs))), sB (decide (zhj (yby c (yl c vs)) <= 4096))]) := by
 have h1 := zik G c vs (by omega) hv hwh
 have hl := zeh hwh vs
 generalize yl c vs = es at h1 hl hc hb
 have hel : (es.map Ex.cells).length = es.length := by simp
 have hfl : (c.facts.map Decl.cells).length = c.facts.length := by simp
 have hse : ∀ e ∈ es, simpE c e = true := List.all_eq_true.1 hb
 have hS := fun e => zbo G c m _ e (Nat.lt_succ_self _)
 have hC := fun (f : Int) (hf : 0 <= f /\ f < c.facts.length) (e : Ex) => zgv G c (m := m) hf _ e (Nat.lt_succ_self _)
 rw [show c.sv = .agg [.imm (zk c.facts), .imm (zk c.lines), .imm (ys c.arts)] from rfl] at h1 hS hC ⊢
 refine zd Tryz.func23 rfl (by rw [Tryz.ntmps23]; simp) rfl rfl ?_; intro E hH hK
 (refine zf ?_; conv => whnf)
 refine ze rfl  h1 ?_
 (refine za ?_; conv => whnf)
 refine zg [2, 6, 7, 8, 9] ?_
 change SW E _ [(2, .ptr 0 0), (6, .imm (ye es)), (7, zdp), (8, sI 1), (9, sI 0)] [.cells [.imm (zk c.facts), .imm (zk c.lines), .imm (ys c.arts)]]
 refine zq es (fun i (_ : Unit) => [(2, .ptr 0 0), (6, .imm (ye es)), (7, zdp), (8, sI 1), (9, sI i)]) (fun _ _ => [.cells [.imm (zk c.facts), .imm (zk c.lines), .imm (ys c.arts)]])
  (fun done _ _ => True) () trivial ?_ ?_
 ·rintro _ _
  (refine zf ?_; conv => whnf)
  repeat' ((with_reducible refine way ?_ ?_) <;> (intro h; conv => whnf))
  all_goals try (exfalso; omega)
  refine zsy (n := 7) (kk := 1) rfl ?_
  refine zg [2, 6, 7, 8, 11] ?_
  change SW E _ [(2, .ptr 0 0), (6, .imm (ye es)), (7, .asl 1 1 []), (8, sI 1), (11, sI 0)] [.cells [.imm (zk c.facts), .imm (zk c.lines), .imm (ys c.arts)], .tok 1 0]
  refine zq c.facts (fun i (ls : List (List Int)) => [(2, .ptr 0 0), (6, .imm (ye es)), (7, .asl 1 1 (ls.map fun l => [zl l])), (8, sI (zhj ls)), (11, sI i)])
   (fun _ ls => [.cells [.imm (zk c.facts), .imm (zk c.lines), .imm (ys c.arts)], .tok 1 (ls.map fun l => [zl l]).length])
   (fun done _ ls => ls = (List.range done.length).map fun (i : Nat) => yew c i es) [] rfl ?_ ?_
  ·rintro ls h2
   have h3 : yby c es = ls := h2.symm
   rw [h3] at hK
   refine zdl ?_
   change SW E _ [(2, .ptr 0 0), (6, .imm (ye es)), (7, .imm (ymq ls)), (8, sI (zhj ls)), (11, sI c.facts.length)] _
   (refine zf ?_; conv => whnf)
   repeat' ((with_reducible refine way ?_ ?_) <;> (intro h; conv => whnf))
   all_goals try (exfalso; omega)
   all_goals exact hK _
  ·rintro done x rest ls hda hdl h2 ih
   have hw := zm (n := done.length) (by omega)
   have hfr : 0 <= (done.length : Int) /\ (done.length : Int) < c.facts.length := by omega
   have hsn : ∀ l, l = yew c done.length es -> ls ++ [l] = (List.range (done ++ [x]).length).map fun (i : Nat) => yew c i es := fun l h3 => by
    rw [List.length_append, List.length_cons, List.length_nil, List.range_succ, List.map_append, <- h2, h3]
    rfl
   have hlsl : ls.length = done.length := by rw [h2]; simp
   have hpr := ymr ls
   (refine zf ?_; conv => whnf)
   repeat' ((with_reducible refine way ?_ ?_) <;> (intro h; conv => whnf))
   all_goals try (exfalso; omega)
   refine yqo 12 (x := zdp) (y := .imm (zl [])) rfl (SV.Is.nil 1) ?_
   refine zg [2, 6, 7, 8, 11, 12, 13] ?_
   change SW E _ [(2, .ptr 0 0), (6, .imm (ye es)), (7, .asl 1 1 (ls.map fun l => [zl l])), (8, sI (zhj ls)), (11, sI done.length), (12, .imm (zl [])), (13, sI 0)] [.cells [.imm (zk c.facts), .imm (zk c.lines), .imm (ys c.arts)], .tok 1 (ls.map fun l => [zl l]).length]
   refine zq es (fun i (l : List Int) => [(2, .ptr 0 0), (6, .imm (ye es)), (7, .asl 1 1 (ls.map fun l => [zl l])), (8, sI (zhj ls)), (11, sI done.length), (12, .imm (zl l)), (13, sI i)])
    (fun _ _ => [.cells [.imm (zk c.facts), .imm (zk c.lines), .imm (ys c.arts)], .tok 1 (ls.map fun l => [zl l]).length])
    (fun dn _ l => l = yew c done.length dn) [] rfl ?_ ?_
   ·rintro l h3
    have hll := zru c done.length es (fun e he => (hc e he).2) []
    have hll : l.length <= 3200 * es.length := by rw [h3]; simpa [yew] using hll
    have hli : (l.map fun n => [dI n]).length = l.length := by simp
    have hm0 : 1 <= max 1 (l.length : Int) /\ max 1 (l.length : Int) <= 32000000 := by omega
    have e1 : (if 1000000 < IntKind.i64.wrap (zhj ls * (if 1 < (l.length : Int) then (l.length : Int) else 1)) then 1000000 else IntKind.i64.wrap (zhj ls * (if 1 < (l.length : Int) then (l.length : Int) else 1))) = zhj (ls ++ [l]) := by
     rw [yhs, show (if 1 < (l.length : Int) then (l.length : Int) else 1) = max 1 (l.length : Int) by omega]
     have hb1 := Int.mul_le_mul_of_nonneg_right hpr.2 (show 0 <= max 1 (l.length : Int) by omega)
     have hb2 := Int.mul_nonneg (show 0 <= zhj ls by omega) (show 0 <= max 1 (l.length : Int) by omega)
     rw [xh (by omega) (by omega)]
     omega
    have hsl := hsn l h3
    have hend := ih (ls ++ [l]) hsl
    rw [<- e1, <- hli] at hend
    (refine zf ?_; conv => whnf)
    repeat' ((with_reducible refine way ?_ ?_) <;> (intro h; conv => whnf))
    all_goals try (exfalso; omega)
    refine wd (b := 1) (kk := 1) (rows := ls.map fun l => [zl l]) (new := [[zl l]]) rfl ⟨by decide, rfl⟩ rfl (by rw [List.length_map]; simp only [List.length_cons, List.length_nil]; omega) ?_
    have e5 : (ls.map fun l => [zl l]) ++ [[zl l]] = (ls ++ [l]).map fun l => [zl l] := by simp
    have e6 : (ls.map fun l => [zl l]).length + [[zl l]].length = ((ls ++ [l]).map fun l => [zl l]).length := by simp
    refine Eq.mpr (congrArg (fun v => SWr E _ _ _ (wq _ _ (.asl 1 1 v)) _) e5) ?_
    refine Eq.mpr (congrArg (fun v => SWr E _ _ _ _ (List.set _ 1 (.tok 1 v))) e6) ?_
    (refine za ?_; conv => whnf)
    rw [hw]
    exact zg [2, 6, 7, 8, 11] hend
   ·rintro dn y rs l hdy hdly h3 ihy
    have hwy := zm (n := dn.length) (by omega)
    have hym : y ∈ es := by rw [hdy]; simp
    have hll := zru c done.length dn (fun e he => (hc e (by rw [hdy]; simp [he])).2) []
    have hll : l.length <= 3200 * dn.length := by rw [h3]; simpa [yew] using hll
    have hcall := hC done.length hfr y (hc y hym).1.1 (hc y hym).1.2 (hse y hym) l (by have := (hc y hym).2; omega)
    have hsy := yms c done.length dn y
    rw [<- h3] at hsy
    generalize candE c done.length y l = l2 at hcall hsy
    have hrow : (es.map Ex.cells)[dn.length]? = some y.cells := by simp [hdy]
    obtain ⟨kop, kn, ku, kden, kps, kks⟩ := y
    (refine zf ?_; conv => whnf)
    repeat' ((with_reducible refine way ?_ ?_) <;> (intro h; conv => whnf))
    all_goals try (exfalso; omega)
    (refine zu 0 mixed rfl ?_; refine zb [777] (nx := 2) ?_; conv => whnf)
    refine zr (i := dn.length) (row := [dI kop, dI kn, dS ku, dI kden, .isl 3 (kps.map Piece.cells), .isl 6 (zc kks)]) rfl (show 2 <= 2 by decide) rfl hrow ?_
    (refine zb [777] (nx := 2) ?_; conv => whnf)
    refine yq rfl (show 2 <= 2 by decide) hcall ?_
    (refine zb [777, 12] (nx := 2) ?_; conv => whnf)
    refine qw ⟨.imm (zl l2), [], none⟩ rfl rfl (show 2 <= 2 by decide) (fun _ _ _ => rfl) ?_
    refine jn (by kernel_rfl) ?_
    (refine zf ?_; conv => whnf)
    rw [hwy]
    exact zg [2, 6, 7, 8, 11, 12, 13] (ihy l2 hsy.symm)
 ·rintro done x rest _ hda hdl _ ih
  have hw := zm (n := done.length) (by omega)
  have hxm : x ∈ es := by rw [hda]; simp
  have hx := hS x (hc x hxm).1.1 (hc x hxm).1.2
  rw [hse x hxm] at hx
  have hrow : (es.map Ex.cells)[done.length]? = some x.cells := by simp [hda]
  obtain ⟨kop, kn, ku, kden, kps, kks⟩ := x
  (refine zf ?_; conv => whnf)
  repeat' ((with_reducible refine way ?_ ?_) <;> (intro h; conv => whnf))
  all_goals try (exfalso; omega)
  (refine zu 0 mixed rfl ?_; refine zb [777] (nx := 1) ?_; conv => whnf)
  refine zr (i := done.length) (row := [dI kop, dI kn, dS ku, dI kden, .isl 3 (kps.map Piece.cells), .isl 6 (zc kks)]) rfl (show 1 <= 1 by decide) rfl hrow ?_
  (refine zb [777] (nx := 1) ?_; conv => whnf)
  refine yq rfl (show 1 <= 1 by decide) hx ?_
  (refine zb [777, 10] (nx := 1) ?_; conv => whnf)
  refine qw ⟨sB true, [], none⟩ rfl rfl (show 1 <= 1 by decide) (fun _ _ _ => rfl) ?_
  refine jn (by kernel_rfl) ?_
  (refine zf ?_; conv => whnf)
  rw [hw]
  exact zg [2, 6, 7, 8, 9] (ih () trivial)
abbrev zat : D := .val (.slice none 0 0)
def znq : ByteArray := ⟨#[69, 85, 82]⟩
def yhu (op n : Int) (u : ByteArray) (ks : D) : SV := .agg [sI op, sI n, sS u, sI 0, .imm zat, .imm ks]
theorem ypc (op n : Int) (u : ByteArray) (ks : List Ex) : (yhu op n u (.isl 6 (ks.map Ex.cells))).Is (Ex.mk op n u 0 [] ks).sv := by
 rw [Ex.sv, Ex.cells, zp]
 exact SIs.agg (.cons (SV.Is.refl _) (.cons (SV.Is.refl _) (.cons (SV.Is.refl _) (.cons (SV.Is.refl _) (.cons (SV.Is.nil 3) (.cons (SV.Is.refl _) .nil))))))
theorem zrv (op n : Int) (u : ByteArray) : (yhu op n u zat).Is (Ex.mk op n u 0 [] []).sv := by
 rw [Ex.sv, Ex.cells, zp]
 exact SIs.agg (.cons (SV.Is.refl _) (.cons (SV.Is.refl _) (.cons (SV.Is.refl _) (.cons (SV.Is.refl _) (.cons (SV.Is.nil 3) (.cons (SV.Is.nil 6) .nil))))))
theorem znr (n : Int) (u : ByteArray) : zx Tryz.prog G 36 [sI n, sS u] (Ex.mk 1 n u 0 [] []).sv := by
 refine zcj (r := yhu 1 n u zat) ?_ (zrv _ _ _)
 refine zd Tryz.func36 rfl (by rw [Tryz.ntmps36]; simp) rfl rfl ?_; intro E hH hK
 (refine zf ?_; conv => whnf)
 exact hK _
theorem ymt (n : Int) (u : ByteArray) : zx Tryz.prog G 37 [sI n, sS u] (Ex.mk 2 n u 0 [] []).sv := by
 refine zcj (r := yhu 2 n u zat) ?_ (zrv _ _ _)
 refine zd Tryz.func37 rfl (by rw [Tryz.ntmps37]; simp) rfl rfl ?_; intro E hH hK
 (refine zf ?_; conv => whnf)
 exact hK _
theorem yhv (op : Int) (a b : Ex) : zx Tryz.prog G 35 [sI op, a.sv, b.sv] (Ex.mk op 0 tT 0 [] [a, b]).sv := by
 refine zcj (r := yhu op 0 tT (.isl 6 ([a, b].map Ex.cells))) ?_ (ypc _ _ _ _)
 obtain ⟨o1, n1, u1, d1, p1, k1⟩ := a
 obtain ⟨o2, n2, u2, d2, p2, k2⟩ := b
 refine zd Tryz.func35 rfl (by rw [Tryz.ntmps35]; simp) rfl rfl ?_; intro E hH hK
 (refine zf ?_; conv => whnf)
 exact hK _
def zbs : List Decl := [⟨⟨#[104, 111, 117, 114, 115]⟩, ⟨#[109, 105, 110, 117, 116, 101, 115]⟩, 0⟩, ⟨⟨#[109, 97, 114, 114, 105, 101, 100]⟩, ⟨#[116, 114, 117, 116, 104]⟩, 0⟩, ⟨⟨#[97, 103, 101]⟩, ⟨#[110, 117, 109, 98, 101, 114]⟩, 0⟩]
def zbt : List Decl := [⟨⟨#[98, 97, 115, 105, 99]⟩, znq, 1⟩]
def ypd (i : Nat) (es : List Ex) : Article := ⟨i + 1, 0, 1, 8766, 36525, 8766, es, [], .mk 1 100 znq 0 [] []⟩
def yhw (w : List (List Ex)) : Codex := ⟨zbs, zbt, w.mapIdx ypd⟩
def ycf (i : Nat) (es : List Ex) : List D := [dI ((i : Int) + 1), dI 0, dI 1, dI 8766, dI 36525, dI 8766, ye es, zat, dI 1, dI 100, dS znq, dI 0, .isl 3 [], .isl 6 []]
theorem zzs (w : List (List Ex)) (hw : w.length <= 1000) : zx Tryz.prog G 38 [.imm (.isl 1 (w.map fun es => [ye es]))] (yhw w).sv := by
 refine zcj (r := .agg [.imm (zk zbs), .imm (zk zbt), .imm (.isl 14 (w.mapIdx ycf))]) ?_ ?_
 rotate_left
 ·refine SIs.agg (.cons (SV.Is.refl _) (.cons (SV.Is.refl _) (.cons (D.Is.imm (DIss.isl (k := 14) ?_)) .nil)))
  show DIss (w.mapIdx ycf) ((w.mapIdx ypd).map Article.cells)
  have em : (w.mapIdx ypd).map Article.cells = w.mapIdx (fun i es => (ypd i es).cells) := by
   apply List.ext_getElem?
   intro i
   rw [List.getElem?_map, List.getElem?_mapIdx, List.getElem?_mapIdx, Option.map_map]
   rfl
  rw [em]
  have : ∀ (l : List (List Ex)) (f g : Nat -> List Ex -> List D), (∀ i e, DIs (f i e) (g i e)) -> DIss (l.mapIdx f) (l.mapIdx g) := by
   intro l
   induction l with
   | nil => intro f g _; exact .nil
   | cons e l ih =>
    intro f g h
    rw [List.mapIdx_cons, List.mapIdx_cons]
    exact .cons (h 0 e) (ih _ _ fun i e => h (i + 1) e)
  refine this w _ _ fun i e => ?_
  exact .cons (D.Is.refl _) (.cons (D.Is.refl _) (.cons (D.Is.refl _) (.cons (D.Is.refl _) (.cons (D.Is.refl _) (.cons (D.Is.refl _) (.cons (D.Is.refl _) (.cons (D.Is.nil 1) (.cons (D.Is.refl _) (.cons (D.Is.refl _) (.cons (D.Is.refl _) (.cons (D.Is.refl _) (.cons (D.Is.refl _) (.cons (D.Is.refl _) .nil)))))))))))))
 have hla : (w.map fun es => [ye es]).length = w.length := by simp
 have hk := znr G 100 znq
 refine zd Tryz.func38 rfl (by rw [Tryz.ntmps38]; simp) rfl rfl ?_; intro E hH hK
 (refine zf ?_; conv => whnf)
 refine zg [0, 2, 3, 4] ?_
 change SW E _ [(0, .imm (.isl 1 (w.map fun es => [ye es]))), (2, .ptr 0 0), (3, .ptr 1 0), (4, sI 0)] [.cells [.imm zat, .imm zat, .imm zat], .cells [.imm (zk zbs), .imm (zk zbt), .imm zat]]
 refine znb 1 2 14 (cs := [.imm (zk zbs), .imm (zk zbt), .imm zat]) rfl rfl ?_
 change SW E _ [(0, .imm (.isl 1 (w.map fun es => [ye es]))), (2, .ptr 0 0), (3, .ptr 1 0), (4, sI 0)] [.cells [.imm zat, .imm zat, .imm zat], .cells [.imm (zk zbs), .imm (zk zbt), .asl 2 14 []], .tok 14 0]
 refine zq w (fun i (_ : List (List D)) => [(0, .imm (.isl 1 (w.map fun es => [ye es]))), (2, .ptr 0 0), (3, .ptr 1 0), (4, sI i)]) (fun _ L => [.cells [.imm zat, .imm zat, .imm zat], .cells [.imm (zk zbs), .imm (zk zbt), .asl 2 14 L], .tok 14 L.length])
  (fun done _ L => L = done.mapIdx ycf) [] rfl ?_ ?_
 ·rintro L h1
  rw [<- h1] at hK
  refine zdl ?_
  change SW E _ [(0, .imm (.isl 1 (w.map fun es => [ye es]))), (2, .ptr 0 0), (3, .ptr 1 0), (4, sI w.length)] [.cells [.imm zat, .imm zat, .imm zat], .cells [.imm (zk zbs), .imm (zk zbt), .imm (.isl 14 L)], _]
  (refine zf ?_; conv => whnf)
  repeat' ((with_reducible refine way ?_ ?_) <;> (intro h; conv => whnf))
  all_goals try (exfalso; omega)
  exact hK _
 ·rintro done x rest L hda hdl h1 ih
  have hw2 := zm (n := done.length) (by omega)
  have hrx : (w.map fun es => [ye es])[done.length]? = some [ye x] := by simp [hda]
  have hLl : L.length = done.length := by rw [h1]; simp
  have hsn : (done ++ [x]).mapIdx ycf = L ++ [ycf done.length x] := by rw [List.mapIdx_concat, <- h1]
  (refine zf ?_; conv => whnf)
  repeat' ((with_reducible refine way ?_ ?_) <;> (intro h; conv => whnf))
  all_goals try (exfalso; omega)
  (refine zu 0 mixed rfl ?_; refine zb [777] (nx := 3) ?_; conv => whnf)
  refine zr (i := done.length) (row := [ye x]) rfl (show 3 <= 3 by decide) rfl hrx ?_
  (refine zb [777] (nx := 3) ?_; conv => whnf)
  refine yq rfl (show 3 <= 3 by decide) hk ?_
  (refine zb [777] (nx := 3) ?_; conv => whnf)
  rw [show IntKind.i64.wrap ((done.length : Int) + 1) = (done.length : Int) + 1 from xh (by omega) (by omega)]
  refine ziv (b := 2) (kk := 14) (rows := L) (new := [ycf done.length x]) rfl rfl rfl rfl rfl rfl rfl rfl rfl rfl ⟨by decide, rfl⟩ (show 3 <= 3 by decide) rfl (by simp only [List.length_cons, List.length_nil]; omega) ?_
  (refine zb [777] (nx := 3) ?_; conv => whnf)
  (refine zf ?_; conv => whnf)
  rw [hw2]
  refine zg [0, 2, 3, 4] ?_
  exact ih (L ++ [ycf done.length x]) hsn.symm
def zgw (i : Nat) (d : D) : List SV := [sI ((i : Int) + 1), sI 0, sI 1, sI 8766, sI 36525, sI 8766, .imm d, .imm zat, sI 1, sI 100, sS znq, sI 0, .imm (.isl 3 []), .imm (.isl 6 [])]
theorem zzt : ∀ (ds : List D) (f : Nat -> Nat), ((ds.mapIdx fun i d => zgw (f i) d).flatten).length = ds.length * 14
 | [], _ => rfl
 | d :: r, f => by
  rw [List.mapIdx_cons, List.flatten_cons, List.length_append, zzt r (fun i => f (i + 1))]
  simp only [List.length_cons, zgw, List.length_nil]
  omega
theorem ymu (ds : List D) (hw : ds.length <= 1000) (hds : ∀ d ∈ ds, d = zat) : SCall Tryz.prog G 38 [.imm (.isl 1 (ds.map fun d => [d]))] [] (fun r H' => r = .agg [.imm (zk zbs), .imm (zk zbt), .vec 2 ds.length] /\ ∃ x y, H' = [x, y, .vec 14 (ds.mapIdx zgw).flatten]) := by
 have hk := znr G 100 znq
 have hla : (ds.map fun d => [d]).length = ds.length := by simp
 refine xa Tryz.func38 rfl (by rw [Tryz.ntmps38]; simp) ?_
 intro E hH hK
 (refine zf ?_; conv => whnf)
 refine zg [0, 2, 3, 4] ?_
 change SW E _ [(0, .imm (.isl 1 (ds.map fun d => [d]))), (2, .ptr 0 0), (3, .ptr 1 0), (4, sI 0)] [.cells [.imm zat, .imm zat, .imm zat], .cells [.imm (zk zbs), .imm (zk zbt), .imm zat]]
 refine zmu 1 2 14 (cs := [.imm (zk zbs), .imm (zk zbt), .imm zat]) rfl rfl ?_
 change SW E _ [(0, .imm (.isl 1 (ds.map fun d => [d]))), (2, .ptr 0 0), (3, .ptr 1 0), (4, sI 0)] [.cells [.imm zat, .imm zat, .imm zat], .cells [.imm (zk zbs), .imm (zk zbt), .vec 2 0], .vec 14 []]
 refine zq ds (fun i (_ : List SV) => [(0, .imm (.isl 1 (ds.map fun d => [d]))), (2, .ptr 0 0), (3, .ptr 1 0), (4, sI i)]) (fun i L => [.cells [.imm zat, .imm zat, .imm zat], .cells [.imm (zk zbs), .imm (zk zbt), .vec 2 i], .vec 14 L])
  (fun done _ L => L = (done.mapIdx zgw).flatten) [] rfl ?_ ?_
 ·rintro L h1
  (refine zf ?_; conv => whnf)
  repeat' ((with_reducible refine way ?_ ?_) <;> (intro h; conv => whnf))
  all_goals try (exfalso; omega)
  rw [h1]
  exact hK _ _ ⟨rfl, _, _, rfl⟩
 ·rintro done x rest L hda hdl h1 ih
  have hw2 := zm (n := done.length) (by omega)
  have hrx : (ds.map fun d => [d])[done.length]? = some [x] := by simp [hda]
  have hLl : L.length = done.length * 14 := by rw [h1]; exact zzt done fun i => i
  have hx : x = zat := hds x (by rw [hda]; simp)
  subst hx
  have hsn : ((done ++ [zat]).mapIdx zgw).flatten = L ++ zgw done.length zat := by rw [List.mapIdx_concat, List.flatten_append, <- h1]; simp
  (refine zf ?_; conv => whnf)
  repeat' ((with_reducible refine way ?_ ?_) <;> (intro h; conv => whnf))
  all_goals try (exfalso; omega)
  (refine zu 0 mixed rfl ?_; refine zb [777] (nx := 3) ?_; conv => whnf)
  refine zr (i := done.length) (row := [zat]) rfl (show 3 <= 3 by decide) rfl hrx ?_
  (refine zb [777] (nx := 3) ?_; conv => whnf)
  refine yq rfl (show 3 <= 3 by decide) hk ?_
  (refine zb [777] (nx := 3) ?_; conv => whnf)
  rw [show IntKind.i64.wrap ((done.length : Int) + 1) = (done.length : Int) + 1 from xh (by omega) (by omega)]
  refine ybu (b := 2) (kk := 14) (n := done.length) (cs := L) (new := [[dI ((done.length : Int) + 1), dI 0, dI 1, dI 8766, dI 36525, dI 8766, zat, zat, dI 1, dI 100, dS znq, dI 0, .isl 3 [], .isl 6 []]]) rfl rfl rfl rfl rfl rfl rfl rfl rfl rfl ⟨by decide, rfl⟩ (show 3 <= 3 by decide) rfl hLl (by decide) (Nat.le_refl 1) (by simp only [List.length_cons, List.length_nil]; omega) ?_
  (refine zb [777] (nx := 3) ?_; conv => whnf)
  (refine zf ?_; conv => whnf)
  rw [hw2]
  refine zg [0, 2, 3, 4] ?_
  exact ih (L ++ zgw done.length zat) hsn.symm
def eK (n : Int) (u : ByteArray) : Ex := .mk 1 n u 0 [] []
def eF (n : Int) (u : ByteArray) : Ex := .mk 2 n u 0 [] []
def eT (op : Int) (a b : Ex) : Ex := .mk op 0 tT 0 [] [a, b]
def zwm : Ex := eT 9 (eK 480 tM) (eF 0 tM)
def zgx : Ex := eT 8 (.mk 4 1 tN 0 [] []) (eK 7 tN)
def zkc : Ex := eT 9 (eF 2 tN) (eK 18 tN)
def zkd : Ex := eT 10 (eK 18 tN) (eF 2 tN)
def yip : Ex := eT 9 (eK 30 tN) (eF 2 tN)
def xC : Codex := yhw [[zwm, zgx], [eT 6 zkc zkd], [eF 1 tT], [yip]]
def xD : Codex := yhw [[eF 1 tT], [yip]]
def xR : Codex := ⟨zbs, zbt, [⟨1, 0, 1, 8766, 36525, 8766, [], [], .mk 3 2 znq 0 [] []⟩, ⟨2, 0, 1, 8766, 36525, 8766, [], [], .mk 3 1 znq 0 [] []⟩]⟩
theorem ytt : zw xC = true := by kernel_rfl
theorem yvb : zw xD = true := by kernel_rfl
theorem ytu : zw xR = true := by kernel_rfl
def ycg (x : Int) : List Int -> List Int
 | [] => [x]
 | y :: l => if x <= y then x :: y :: l else y :: ycg x l
def zzu : List Int -> List Int
 | [] => []
 | x :: l => ycg x (zzu l)
theorem zns (x : Int) : ∀ l, (ycg x l).Perm (x :: l)
 | [] => .refl _
 | y :: l => by
  rw [ycg]
  split
  ·exact .refl _
  ·exact ((zns x l).cons y).trans (.swap x y l)
theorem zuj : ∀ l, (zzu l).Perm l
 | [] => .refl _
 | x :: l => (zns x _).trans ((zuj l).cons x)
theorem zol (x : Int) : ∀ l, l.Pairwise (· <= ·) -> (ycg x l).Pairwise (· <= ·)
 | [], _ => by simp [ycg]
 | y :: l, h => by
  rw [List.pairwise_cons] at h
  rw [ycg]
  split
  ·rename_i hxy
   rw [List.pairwise_cons]
   refine ⟨fun z hz => ?_, List.pairwise_cons.2 h⟩
   rcases List.mem_cons.1 hz with rfl | hz
   ·exact hxy
   ·have := h.1 z hz; omega
  ·rename_i hxy
   rw [List.pairwise_cons]
   refine ⟨fun z hz => ?_, zol x l h.2⟩
   rcases List.mem_cons.1 ((zns x l).mem_iff.1 hz) with rfl | hz
   ·omega
   ·exact h.1 z hz
theorem zom : ∀ l, (zzu l).Pairwise (· <= ·)
 | [] => .nil
 | x :: l => zol x _ (zom l)
theorem zmj : ∀ {a b : List Int}, a.Perm b -> a.Pairwise (· <= ·) -> b.Pairwise (· <= ·) -> a = b
 | [], b, h, _, _ => by rw [List.nil_perm.1 h]
 | x :: a, [], h, _, _ => by cases (List.perm_nil.1 h)
 | x :: a, y :: b, h, ha, hb => by
  rw [List.pairwise_cons] at ha hb
  have hxy : x = y := by
   have h1 : x ∈ y :: b := h.mem_iff.1 (by simp)
   have h2 : y ∈ x :: a := h.mem_iff.2 (by simp)
   rcases List.mem_cons.1 h1 with h1 | h1
   ·exact h1
   ·rcases List.mem_cons.1 h2 with h2 | h2
    ·exact h2.symm
    ·have := ha.1 y h2
     have := hb.1 x h1
     omega
  subst hxy
  rw [zmj h.cons_inv ha.2 hb.2]
theorem zla (l : List Int) : zed l = zzu l := by
 refine zmj ((List.mergeSort_perm l fun x y => decide (x <= y)).trans (zuj l).symm) ?_ (zom l)
 have := List.pairwise_mergeSort (le := fun x y : Int => decide (x <= y)) (fun a b c h1 h2 => by simp at *; omega) (fun a b => by simp; omega) l
 exact this.imp fun h => by simpa using h
def zmk (m : List (Int × List Int)) : List (Int × List Int) := (zzu (m.map (·.1))).map fun f => (f, zzu ((zt f m).getD []))
theorem ych (m : List (Int × List Int)) : yb m = zmk m := by
 unfold yb zmk
 rw [zla]
 congr 1
 funext f
 rw [zla]
def ype (vs : List Int) : List Int := Go.Lib.compact (zzu vs)
theorem yey (vs : List Int) : zy vs = ype vs := by
 unfold zy ype
 rw [show (vs.mergeSort fun x y => decide (x <= y)) = zzu vs from zla vs]
def yci (c : Codex) (vs : List Int) : Option Sr :=
 match zal c (ype vs) sr0 with
 | some s => if zfp s.cands <= 4096 then some s else none
 | none => none
theorem zuk (c : Codex) (vs : List Int) : xy c vs = yci c vs := by unfold xy yci; rw [yey]; try rfl
def zul (ch : List (Int × List Int)) (s : Sr) (nf : Nat) : Nat -> Int -> List ByteArray -> Option (Int × List Int)
 | 0, _, _ => none
 | n + 1, day, failed =>
  if zah s.conds (st0 nf day) = 0 then zul ch s nf n (day + 1) failed
  else if zna s.atoms (st0 nf day) ∈ failed then zul ch s nf n (day + 1) failed
  else match qa s.conds ch (st0 nf day) with
   | some vs => some (day, vs)
   | none => zul ch s nf n (day + 1) (failed ++ [zna s.atoms (st0 nf day)])
theorem zrw (s : Sr) (nf : Nat) : ∀ (n : Nat) (day : Int) (failed : List ByteArray), zcc s nf n day failed = zul (zmk s.cands) s nf n day failed
 | 0, _, _ => rfl
 | n + 1, day, failed => by
  rw [zcc, zul, zrw s nf n, ych]
  congr 2
  cases qa s.conds (zmk s.cands) (st0 nf day) with
  | some vs => rfl
  | none => simp only; exact zrw s nf n _ _
def znt (c : Codex) (vers : List Int) (s : Sr) : Option View :=
 let fr := ym c vers
 let to := min fr.2 (fr.1 + yw s.dates)
 match zul (zmk s.cands) s c.facts.length (to - fr.1).toNat fr.1 [] with
 | some (day, vs) => some ⟨day, (List.range c.facts.length).map fun (i : Nat) => (zt (i : Int) s.cands).isSome, vs, vers⟩
 | none => none
theorem zwn (c : Codex) (vers : List Int) (s : Sr) : qy c vers s = znt c vers s := by unfold qy znt; simp only [zrw]; try rfl
def yez (c : Codex) (vs : List Int) : Option View :=
 if zw c && vs.all (fun v => decide (0 <= v) && decide (v < c.arts.length)) then
  match yci c vs with
  | some s => znt c (ype vs) s
  | none => none
 else none
theorem zgy (c : Codex) (vs : List Int) : xf c vs = yez c vs := by
 unfold xf yez
 rw [zuk, yey]
 simp only [zwn]
 try rfl
theorem yvc : xf xC [0] = some ⟨8772, [true, false, false], [481, 0, 0], [0]⟩ := by rw [zgy]; kernel_rfl
theorem yvd : xf xC [1] = none := by rw [zgy]; kernel_rfl
theorem ypf : jo xD = some (0, 1, ⟨8766, [false, true, true], [0, 1, 31], [0, 1]⟩) := by
 unfold jo
 simp only [zgy]
 kernel_rfl
theorem ysd : zoc xC = [1] := by
 unfold zoc
 simp only [zgy, zuk]
 kernel_rfl
theorem yse : zmd (ya xR) = [0, 1] := by kernel_rfl
theorem ysf : zmd (ya xC) = [] := by kernel_rfl
def zon (c : Codex) (p : Int × Int) : Option (Int × Int × View) := if zad c p.1 p.2 then (xf c [p.1, p.2]).map fun v => (p.1, p.2, v) else none
def ypg (n i j : Nat) : List (Int × Int) := (List.range' j (n - j)).map fun (j : Nat) => ((i : Int), (j : Int))
def zrx (n i : Nat) : List (Int × Int) := (List.range' i (n - i)).flatMap fun i => ypg n i (i + 1)
theorem zml : ∀ (k s i : Nat), s <= i + 1 -> (List.range' s k).filter (fun j => decide (i < j)) = List.range' (i + 1) (s + k - (i + 1))
 | 0, s, i, h => by
  have : s + 0 - (i + 1) = 0 := by omega
  rw [this]; rfl
 | k + 1, s, i, h => by
  rw [List.range'_succ, List.filter_cons]
  by_cases hs : i < s
  ·rw [if_pos (by simpa using hs)]
   have e : s = i + 1 := by omega
   subst e
   have h2 : ∀ (k s : Nat), i < s -> (List.range' s k).filter (fun j => decide (i < j)) = List.range' s k := fun k s hs => List.filter_eq_self.2 fun j hj => by
    have := (List.mem_range'_1.1 hj).1
    simp; omega
   rw [h2 k _ (by omega), show i + 1 + (k + 1) - (i + 1) = k + 1 by omega, List.range'_succ]
  ·rw [if_neg (by simpa using hs), zml k (s + 1) i (by omega)]
   congr 1
   omega
theorem yhx (n : Nat) : zqs n = zrx n 0 := by
 unfold zqs zrx ypg
 rw [List.range_eq_range', Nat.sub_zero]
 congr 1
 funext i
 rw [zml n 0 i (by omega), Nat.zero_add]
theorem yhy {n i : Nat} (h : i < n) : zrx n i = ypg n i (i + 1) ++ zrx n (i + 1) := by
 unfold zrx
 rw [show n - i = (n - (i + 1)) + 1 by omega, List.range'_succ, List.flatMap_cons]
theorem ymv (n : Nat) : zrx n n = [] := by unfold zrx; simp
theorem ymw {n i j : Nat} (h : j < n) : ypg n i j = ((i : Int), (j : Int)) :: ypg n i (j + 1) := by
 unfold ypg
 rw [show n - j = (n - (j + 1)) + 1 by omega, List.range'_succ, List.map_cons]
theorem yph {n i j : Nat} (h : n <= j) : ypg n i j = [] := by
 unfold ypg
 rw [show n - j = 0 by omega]; rfl
theorem yhz {c : Codex} (hok : zw c = true) : jo c = (zrx c.arts.length 0).findSome? (zon c) := by
 unfold jo
 rw [if_pos hok, yhx]
 rfl
def ymx (o : Option (Int × Int × View)) : SV :=
 match o with
 | some (i, j, v) => .tup [sI i, sI j, .agg [sI v.day, .imm (qg v.has), .imm (zl v.value), .imm (zl v.arts)], sB true]
 | none => .tup [sI 0, sI 0, .agg zao, sB false]
def yfa (o : Option (Int × Int × View)) : SV := .tup [sI ((o.map (·.1)).getD 0), sI ((o.map (·.2.1)).getD 0), View.sv ((o.map (·.2.2)).getD ygk), sB o.isSome]
theorem yia (o : Option (Int × Int × View)) : (ymx o).Is (yfa o) := by
 cases o with
 | some v => exact SV.Is.refl _
 | none => exact SIs.tup (.cons (SV.Is.refl _) (.cons (SV.Is.refl _) (.cons (SIs.agg (.cons (SV.Is.refl _) (.cons (SV.Is.nil 1) (.cons (SV.Is.nil 1) (.cons (SV.Is.nil 1) .nil))))) (.cons (SV.Is.refl _) .nil))))
theorem ysg (c : Codex) (hfit : Codex.fit c) (hS : zw c = true -> SearchC c) (hz : c.arts.length <= 1000000) :
  zx Tryz.prog G0 13 [c.sv] (ymx (jo c)) := by
 have hal : (c.arts.map Article.cells).length = c.arts.length := by simp
 have hV := jx G0 c hfit
 refine zd Tryz.func13 rfl (by rw [Tryz.ntmps13]; simp) rfl (by cases jo c <;> rfl) ?_
 intro E hH hK
 have hdo := @yhz c
 have hwi := @znp c
 have hno : zw c = false -> jo c = none := fun h => by unfold jo; rw [if_neg (by simp [h])]
 generalize hz2 : zw c = z at hV hS hdo hwi hno
 rw [show c.sv = .agg [.imm (zk c.facts), .imm (zk c.lines), .imm (ys c.arts)] from rfl]
 (refine zf ?_; conv => whnf)
 refine ze rfl  hV ?_
 cases z <;> ((refine za ?_; conv => whnf))
 ·rw [hno rfl] at hK
  exact hK _
 have hS := hS rfl
 have hdo := hdo rfl
 refine zg [1, 2, 3, 4, 5, 17, 18, 19] ?_
 change SW E _ [(1, .ptr 0 0), (2, sI 0), (3, sI 0), (4, .ptr 1 0), (5, sB false), (17, .imm (ys c.arts)), (18, sI (c.arts.map Article.cells).length), (19, sI 0)] [yca c, .cells zao]
 refine zq c.arts (fun i (_ : Unit) => [(1, .ptr 0 0), (2, sI 0), (3, sI 0), (4, .ptr 1 0), (5, sB false), (17, .imm (ys c.arts)), (18, sI (c.arts.map Article.cells).length), (19, sI i)]) (fun _ _ => [yca c, .cells zao])
  (fun done _ _ => jo c = (zrx c.arts.length done.length).findSome? (zon c)) () hdo ?_ ?_
 ·rintro _ h1
  rw [ymv] at h1
  rw [h1] at hK
  (refine zf ?_; conv => whnf)
  repeat' ((with_reducible refine way ?_ ?_) <;> (intro h; conv => whnf))
  all_goals try (exfalso; omega)
  exact hK _
 ·rintro done x rest _ hda hdl h1 ih
  have hw := zm (n := done.length) (by omega)
  rw [yhy (by omega), List.findSome?_append] at h1
  have hnext : jo c = (zrx c.arts.length (done.length + 1)).findSome? (zon c) -> SW E _ _ _ := fun h => ih () (by rw [List.length_append]; exact h)
  (refine zf ?_; conv => whnf)
  repeat' ((with_reducible refine way ?_ ?_) <;> (intro h; conv => whnf))
  all_goals try (exfalso; omega)
  rw [hw]
  refine zg [1, 2, 3, 4, 5, 6, 7, 17, 18, 19] ?_
  refine xr (σ := Nat) (fun j => [(1, .ptr 0 0), (2, sI 0), (3, sI 0), (4, .ptr 1 0), (5, sB false), (6, sI done.length), (7, sI j), (17, .imm (ys c.arts)), (18, sI (c.arts.map Article.cells).length), (19, sI done.length)]) (fun _ => [yca c, .cells zao])
   (fun j => done.length + 1 <= j /\ j <= c.arts.length /\ jo c = ((ypg c.arts.length done.length j).findSome? (zon c)).or ((zrx c.arts.length (done.length + 1)).findSome? (zon c))) (fun j => c.arts.length - j) ?_ (done.length + 1) ⟨Nat.le_refl _, by omega, h1⟩
  rintro j ⟨j1, j2, j3⟩ ih2
  have hwj := zm (n := j) (by omega)
  by_cases hj : j < c.arts.length
  ·rw [ymw hj, List.findSome?_cons] at j3
   have hi : ∀ v ∈ [(done.length : Int), (j : Int)], 0 <= v /\ v < c.arts.length := fun v hv => by
    rcases List.mem_cons.1 hv with rfl | hv
    ·omega
    ·simp at hv; subst hv; omega
   have hcon := zre G0 c hS.need (done.length : Int) (j : Int) (by omega) (by omega) (by omega) (by omega)
   have hN := zie c hS [(done.length : Int), (j : Int)] hi (by simp) [yca c, .cells zao]
   have hwi2 := hwi rfl hi
   have hgo : zon c ((done.length : Int), (j : Int)) = none -> SW E _ _ _ := fun h => by
    rw [h] at j3
    exact ih2 (j + 1) ⟨by omega, by omega, j3⟩ (by omega)
   have hst : ∀ v, zon c ((done.length : Int), (j : Int)) = some v -> jo c = some v := fun v h => by
    rw [h] at j3
    exact j3
   have hcf : zon c ((done.length : Int), (j : Int)) = if zad c done.length j then (xf c [(done.length : Int), (j : Int)]).map fun v => ((done.length : Int), (j : Int), v) else none := rfl
   generalize zad c (done.length : Int) (j : Int) = b at hcon hcf
   (refine zf ?_; conv => whnf)
   repeat' ((with_reducible refine way ?_ ?_) <;> (intro h; conv => whnf))
   all_goals try (exfalso; omega)
   refine ze rfl  hcon ?_
   cases b <;> ((refine za ?_; conv => whnf))
   ·rw [hwj]
    refine zg [1, 2, 3, 4, 5, 6, 7, 17, 18, 19] ?_
    exact hgo hcf
   refine wh (argv := [c.sv, .imm (zl [(done.length : Int), (j : Int)])]) rfl rfl rfl rfl rfl rfl (hN.mono ?_)
   intro r H' hK1
   cases hq : xy c [(done.length : Int), (j : Int)] with
   | none =>
    rw [hq] at hK1 hwi2
    simp only at hwi2
    rw [hwi2] at hcf
    obtain ⟨p, H1, hp, rfl, rfl⟩ := hK1
    refine ⟨Nat.le_add_left 2 _, ?_⟩
    refine Eq.mpr (congrArg (fun h => SWr E _ _ _ _ h) (show _ = yca c :: .cells zao :: H1 from rfl)) ?_
    rcases hp with rfl | rfl <;> ((refine za ?_; conv => whnf)) <;> rw [hwj]
    all_goals exact yr [1, 2, 3, 4, 5, 6, 7, 17, 18, 19] 2 (by rw [hH]; exact Nat.zero_le 2) (Nat.succ_le_succ (Nat.succ_le_succ (Nat.zero_le _))) rfl rfl (hgo hcf)
   | some q =>
    have hWt := znj c hS [(done.length : Int), (j : Int)] hi (by simp) q hq [yca c, .cells zao]
    rw [hq] at hK1 hwi2
    simp only at hwi2
    obtain ⟨rfl, rfl⟩ := hK1
    refine ⟨by rw [List.length_append]; exact Nat.le_add_right _ _, ?_⟩
    (refine za ?_; conv => whnf)
    refine wh rfl rfl rfl rfl rfl rfl (hWt.mono ?_)
    rintro r H' ⟨rfl, ⟨H1, rfl⟩, hl⟩
    refine ⟨hl, ?_⟩
    rw [<- hwi2]
    refine jf (t' := [(1, .ptr 0 0), (2, sI 0), (3, sI 0), (4, .ptr 1 0), (5, sB false), (6, sI done.length), (7, sI j), (17, .imm (ys c.arts)), (18, sI (c.arts.map Article.cells).length), (19, sI done.length), (48, zma (xf c [(done.length : Int), (j : Int)]))]) (H' := [yca c, .cells zao])
     (fun k h => zg [1, 2, 3, 4, 5, 6, 7, 17, 18, 19, 48] (yda 2 (by rw [hH]; exact Nat.zero_le 2) (Nat.succ_le_succ (Nat.succ_le_succ (Nat.zero_le _))) (by cases xf c [(done.length : Int), (j : Int)] <;> rfl) rfl h)) ?_
    generalize xf c [(done.length : Int), (j : Int)] = o at hcf ⊢
    cases o with
    | none =>
     (refine za ?_; conv => whnf)
     rw [hwj]
     exact yr [1, 2, 3, 4, 5, 6, 7, 17, 18, 19] 2 (by rw [hH]; exact Nat.zero_le 2) (Nat.succ_le_succ (Nat.succ_le_succ (Nat.zero_le _))) rfl rfl (hgo hcf)
    | some v =>
     rw [hst _ hcf] at hK
     (refine za ?_; conv => whnf)
     refine zg [1, 2, 3, 4, 5, 6, 7, 10] ?_
     change SW E _ [(1, .ptr 0 0), (2, sI 0), (3, sI 0), (4, .ptr 1 0), (5, sB false), (6, sI done.length), (7, sI j), (10, .ptr 2 0)] [yca c, .cells zao, .cells [sI v.day, .imm (qg v.has), .imm (zl v.value), .imm (zl v.arts)]]
     (refine zu 0 mixed rfl ?_; refine zb [777] (nx := 3) ?_; conv => whnf)
     (refine zf ?_; conv => whnf)
     exact hK _
  ·rw [yph (by omega), List.findSome?_nil, Option.none_or] at j3
   have ej : j = c.arts.length := by omega
   (refine zf ?_; conv => whnf)
   repeat' ((with_reducible refine way ?_ ?_) <;> (intro h; conv => whnf))
   all_goals try (exfalso; omega)
   rw [hw]
   refine zg [1, 2, 3, 4, 5, 17, 18, 19] ?_
   exact hnext j3
theorem zry (c : Codex) (hfit : Codex.fit c) (hS : zw c = true -> SearchC c) (hz : c.arts.length <= 1000000) :
  zx Tryz.prog G0 13 [c.sv] (yfa (jo c)) := zcj (ysg c hfit hS hz) (yia _)
theorem ytv (w : List (List Ex)) (h : ∀ es ∈ w, es.length <= 41) : Codex.fit (yhw w) /\ ∀ a ∈ (yhw w).arts, a.when_.length <= 41 /\ a.unless_.length <= 80 := by
 have hm : ∀ a ∈ (yhw w).arts, a.when_.length <= 41 /\ a.unless_.length <= 80 := fun a ha => by
  obtain ⟨i, hi, rfl⟩ := List.mem_mapIdx.1 ha
  exact ⟨h _ (List.getElem_mem hi), Nat.zero_le _⟩
 exact ⟨fun a ha => by have := hm a ha; omega, hm⟩
theorem zim : Codex.fit xC /\ SearchC xC /\ xC.arts.length <= 1000000 := by
 obtain ⟨h1, h2⟩ := ytv [[zwm, zgx], [eT 6 zkc zkd], [eF 1 tT], [yip]] (by simp)
 exact ⟨h1, znl ytt (by decide) h2, by decide⟩
theorem ymy : Codex.fit xD /\ SearchC xD /\ xD.arts.length <= 1000000 := by
 obtain ⟨h1, h2⟩ := ytv [[eF 1 tT], [yip]] (by simp)
 exact ⟨h1, znl yvb (by decide) h2, by decide⟩
theorem yfb : Codex.fit xR /\ NeedC xR /\ xR.arts.length <= 60 := by
 have h : ∀ a ∈ xR.arts, a.when_.length <= 1000000 /\ a.unless_.length <= 1000000 := by simp [xR]
 exact ⟨fun a ha => by have := h a ha; omega, yen ytu h, by decide⟩
abbrev bx (x : Ex) : SObj := .cells (x.cells.map SV.imm)
abbrev bv (v : View) : SObj := .cells [sI v.day, .imm (qg v.has), .imm (zl v.value), .imm (zl v.arts)]
def yiq (i : Nat) (n : Int) : List D := [dI ((i : Int) + 1), dI 0, dI 1, dI 8766, dI 36525, dI 8766, zat, zat, dI 3, dI n, dS znq, dI 0, zat, zat]
abbrev yve (x y z : SObj) (cs : List SV) : List SObj := [bx zwm, bx zgx, bx zkc, bx zkd, bx yip, zdi xC, bv ⟨8772, [true, false, false], [481, 0, 0], [0]⟩, bv ygk, bv ⟨8766, [false, true, true], [0, 1, 31], [0, 1]⟩, x, y, z, .cells cs]
theorem yvf : (SV.agg [.imm (zk zbs), .imm (zk zbt), .imm (.isl 14 [yiq 0 2, yiq 1 1])]).Is xR.sv := by
 refine SIs.agg (.cons (SV.Is.refl _) (.cons (SV.Is.refl _) (.cons (D.Is.imm (DIss.isl (k := 14) (.cons ?_ (.cons ?_ .nil)))) .nil)))
 all_goals exact .cons (D.Is.refl _) (.cons (D.Is.refl _) (.cons (D.Is.refl _) (.cons (D.Is.refl _) (.cons (D.Is.refl _) (.cons (D.Is.refl _) (.cons (D.Is.nil 6) (.cons (D.Is.nil 1) (.cons (D.Is.refl _) (.cons (D.Is.refl _) (.cons (D.Is.refl _) (.cons (D.Is.refl _) (.cons (D.Is.nil 3) (.cons (D.Is.nil 6) .nil)))))))))))))
theorem yqc : zx Tryz.prog G0 9 [] (sB true) := by
  have k480 := znr G0 480 tM
  have f0 := ymt G0 0 tM
  have tLong := yhv G0 9 (eK 480 tM) (eF 0 tM)
  have k7 := znr G0 7 tN
  have tSun := yhv G0 8 (.mk 4 1 tN 0 [] []) (eK 7 tN)
  have f2 := ymt G0 2 tN
  have k18 := znr G0 18 tN
  have tYoung := yhv G0 9 (eF 2 tN) (eK 18 tN)
  have tAdult := yhv G0 10 (eK 18 tN) (eF 2 tN)
  have k30 := znr G0 30 tN
  have tOld := yhv G0 9 (eK 30 tN) (eF 2 tN)
  have tAnd := yhv G0 6 zkc zkd
  have f1 := ymt G0 1 tT
  have eC := zzs G0 [[zwm, zgx], [eT 6 zkc zkd], [eF 1 tT], [yip]] (by decide)
  have eD := zzs G0 [[eF 1 tT], [yip]] (by decide)
  have w0 := zmb xC zim.1 (fun _ => zim.2.1) zim.2.2 [0] (by decide)
  have w1 := zmb xC zim.1 (fun _ => zim.2.1) zim.2.2 [1] (by decide)
  rw [yvc] at w0
  rw [yvd] at w1
  have cl := zry xD ymy.1 (fun _ => ymy.2.1) ymy.2.2
  rw [ypf] at cl
  have s1 := zij G0 ⟨8772, [true, false, false], [481, 0, 0], [0]⟩ ⟨8772, [true, false, false], [481, 0, 0], [0]⟩ ⟨by decide, by decide, by decide⟩ ⟨by decide, by decide, by decide⟩ (by decide) (by decide)
  rw [show View.same' ⟨8772, [true, false, false], [481, 0, 0], [0]⟩ ⟨8772, [true, false, false], [481, 0, 0], [0]⟩ = true by decide] at s1
  have s2 := zij G0 ⟨8766, [false, true, true], [0, 1, 31], [0, 1]⟩ ⟨8766, [false, true, true], [0, 1, 31], [0, 1]⟩ ⟨by decide, by decide, by decide⟩ ⟨by decide, by decide, by decide⟩ (by decide) (by decide)
  rw [show View.same' ⟨8766, [false, true, true], [0, 1, 31], [0, 1]⟩ ⟨8766, [false, true, true], [0, 1, 31], [0, 1]⟩ = true by decide] at s2
  have dd := yho xC zim.1 (fun _ => zim.2.1) zim.2.2
  rw [ysd] at dd
  have s3 := zeg G0 [1] [1] (by decide) (by decide)
  rw [show decide (([1] : List Int) = [1]) = true by decide] at s3
  have rr := ztw G0 xR yfb.1 (fun _ => yfb.2.1) (fun _ => yfb.2.2) (fun _ => ymh yfb.2.2) (fun j => Nat.le_trans (zri _ _) (by decide)) (by decide)
  rw [if_pos ytu, yse] at rr
  have s4 := zeg G0 [0, 1] [0, 1] (by decide) (by decide)
  rw [show decide (([0, 1] : List Int) = [0, 1]) = true by decide] at s4
  have rc := ztw G0 xC zim.1 (fun _ => zim.2.1.need) (fun _ => by decide) (fun _ => ymh (by decide)) (fun j => Nat.le_trans (zri _ _) (by decide)) (by decide)
  rw [if_pos ytt, ysf] at rc
  refine zd Tryz.func9 rfl (by rw [Tryz.ntmps9]; simp) rfl rfl ?_; intro E hH hK
  (refine zf ?_; conv => whnf)
  refine ze rfl  k480 ?_
  (refine za ?_; conv => whnf)
  refine ze rfl  f0 ?_
  (refine za ?_; conv => whnf)
  refine ze rfl  tLong ?_
  (refine za ?_; conv => whnf)
  refine jf (fun k h => yqo 20 rfl (zrv 4 1 tN) h) ?_
  (refine za ?_; conv => whnf)
  refine ze rfl  k7 ?_
  (refine za ?_; conv => whnf)
  refine ze rfl  tSun ?_
  (refine za ?_; conv => whnf)
  refine ze rfl  f2 ?_
  (refine za ?_; conv => whnf)
  refine ze rfl  k18 ?_
  (refine za ?_; conv => whnf)
  refine ze rfl  tYoung ?_
  (refine za ?_; conv => whnf)
  refine ze rfl  k18 ?_
  (refine za ?_; conv => whnf)
  refine ze rfl  f2 ?_
  (refine za ?_; conv => whnf)
  refine ze rfl  tAdult ?_
  (refine za ?_; conv => whnf)
  refine ze rfl  k30 ?_
  (refine za ?_; conv => whnf)
  refine ze rfl  f2 ?_
  (refine za ?_; conv => whnf)
  refine ze rfl  tOld ?_
  (refine za ?_; conv => whnf)
  refine zg [1, 2, 3, 4, 5] ?_
  change SW E _ [(1, .ptr 0 0), (2, .ptr 1 0), (3, .ptr 2 0), (4, .ptr 3 0), (5, .ptr 4 0)] [bx zwm, bx zgx, bx zkc, bx zkd, bx yip]
  (refine zu 1 mixed rfl ?_; refine zb [777] (nx := 5) ?_; conv => whnf)
  refine yq rfl (show 5 <= 6 by decide) tAnd ?_
  (refine zb [777] (nx := 5) ?_; conv => whnf)
  refine yq rfl (show 5 <= 6 by decide) f1 ?_
  (refine zb [777] (nx := 5) ?_; conv => whnf)
  refine yq rfl (show 5 <= 6 by decide) eC ?_
  (refine zb [777] (nx := 5) ?_; conv => whnf)
  refine zg [5, 6] ?_
  change SW E _ [(5, .ptr 4 0), (6, .ptr 5 0)] [bx zwm, bx zgx, bx zkc, bx zkd, bx yip, zdi xC]
  (refine zf ?_; conv => whnf)
  refine ze rfl  w0 ?_
  (refine za ?_; conv => whnf)
  refine ze rfl  w1 ?_
  (refine za ?_; conv => whnf)
  refine zg [5, 6, 7, 8, 10] ?_
  change SW E _ [(5, .ptr 4 0), (6, .ptr 5 0), (7, .ptr 6 0), (8, sB true), (10, sB false)] [bx zwm, bx zgx, bx zkc, bx zkd, bx yip, zdi xC, bv ⟨8772, [true, false, false], [481, 0, 0], [0]⟩, bv ygk]
  (refine zu 1 mixed rfl ?_; refine zb [777] (nx := 8) ?_; conv => whnf)
  refine yq rfl (show 8 <= 9 by decide) f1 ?_
  (refine zb [777] (nx := 8) ?_; conv => whnf)
  refine yq rfl (show 8 <= 9 by decide) eD ?_
  (refine zb [777] (nx := 8) ?_; conv => whnf)
  refine yq rfl (show 8 <= 9 by decide) cl ?_
  (refine zb [777] (nx := 8) ?_; conv => whnf)
  refine zg [6, 7, 8, 10, 11, 12, 13, 14] ?_
  change SW E _ [(6, .ptr 5 0), (7, .ptr 6 0), (8, sB true), (10, sB false), (11, sI 0), (12, sI 1), (13, .ptr 8 0), (14, sB true)] [bx zwm, bx zgx, bx zkc, bx zkd, bx yip, zdi xC, bv ⟨8772, [true, false, false], [481, 0, 0], [0]⟩, bv ygk, bv ⟨8766, [false, true, true], [0, 1, 31], [0, 1]⟩]
  have hV := zkp (ymu G0 [zat, zat] (by decide) (by simp)) [bx zwm, bx zgx, bx zkc, bx zkd, bx yip, zdi xC, bv ⟨8772, [true, false, false], [481, 0, 0], [0]⟩, bv ygk, bv ⟨8766, [false, true, true], [0, 1, 31], [0, 1]⟩]
  (refine zf ?_; conv => whnf)
  refine wh (argv := [.imm (.isl 1 [[zat], [zat]])]) rfl rfl rfl rfl rfl rfl (hV.mono ?_)
  rintro r H' ⟨r1, H1, ⟨rfl, x, y, rfl⟩, rfl, rfl⟩
  refine ⟨by rw [List.length_append]; exact Nat.le_add_right _ _, ?_⟩
  (refine za ?_; conv => whnf)
  refine jf (t' := [(6, .ptr 5 0), (7, .ptr 6 0), (8, sB true), (10, sB false), (11, sI 0), (12, sI 1), (13, .ptr 8 0), (14, sB true), (15, .ptr 12 0), (72, .vec 11 2), (73, yhu 3 2 znq zat)]) (H' := yve (x.sh 9) (y.sh 9) (.vec 14 (zgw 0 zat ++ zgw 1 zat)) [.imm (zk zbs), .imm (zk zbt), .vec 11 2]) (fun k h => zg [6, 7, 8, 10, 11, 12, 13, 14, 15, 72, 73] h) ?_
  generalize x.sh 9 = x'
  generalize y.sh 9 = y'
  refine ydm (i := 0) (kk := 14) (n := 2) (b := 11) (cs := zgw 0 zat ++ zgw 1 zat) rfl rfl rfl rfl rfl rfl (by rfl) rfl rfl (by decide) rfl (by decide) ?_
  refine ztc (b := 11) (n := 2) (kk := 14) (cs := zgw 0 zat ++ zgw 1 zat) rfl rfl rfl rfl rfl rfl (sz := 5) (by rfl) rfl rfl (by decide) (by decide) ?_
  refine zrl (b := 11) (n := 2) (off := 8) (ns := 6) (vcs := [sI 3, sI 2, sS znq, sI 0, .imm zat, .imm zat]) (kk := 14) (cs := zgw 0 zat ++ zgw 1 zat) rfl rfl rfl rfl rfl rfl (by rfl) rfl rfl rfl (by decide) (by decide) (by decide) ?_
  refine jf (t' := [(6, .ptr 5 0), (7, .ptr 6 0), (8, sB true), (10, sB false), (11, sI 0), (12, sI 1), (13, .ptr 8 0), (14, sB true), (15, .ptr 12 0)]) (H' := yve x' y' (.vec 14 ((yiq 0 2).map SV.imm ++ zgw 1 zat)) [.imm (zk zbs), .imm (zk zbt), .vec 11 2]) (fun k h => zg [6, 7, 8, 10, 11, 12, 13, 14, 15] h) ?_
  (refine za ?_; conv => whnf)
  refine ydm (i := 1) (kk := 14) (n := 2) (b := 11) (cs := (yiq 0 2).map SV.imm ++ zgw 1 zat) rfl rfl rfl rfl rfl rfl (by rfl) rfl rfl (by decide) rfl (by decide) ?_
  refine ztc (b := 11) (n := 2) (kk := 14) (cs := (yiq 0 2).map SV.imm ++ zgw 1 zat) rfl rfl rfl rfl rfl rfl (sz := 5) (by rfl) rfl rfl (by decide) (by decide) ?_
  refine zrl (b := 11) (n := 2) (off := 22) (ns := 6) (vcs := [sI 3, sI 1, sS znq, sI 0, .imm zat, .imm zat]) (kk := 14) (cs := (yiq 0 2).map SV.imm ++ zgw 1 zat) rfl rfl rfl rfl rfl rfl (by rfl) rfl rfl rfl (by decide) (by decide) (by decide) ?_
  refine jf (t' := [(6, .ptr 5 0), (7, .ptr 6 0), (8, sB true), (10, sB false), (11, sI 0), (12, sI 1), (13, .ptr 8 0), (14, sB true), (15, .ptr 12 0)]) (H' := yve x' y' .dead [.imm (zk zbs), .imm (zk zbt), .imm (.isl 14 [yiq 0 2, yiq 1 1])]) (fun k h => zg [6, 7, 8, 10, 11, 12, 13, 14, 15]
    (zzj 12 2 11 2 14 (cs0 := [.imm (zk zbs), .imm (zk zbt), .vec 11 2]) (cs := (yiq 0 2 ++ yiq 1 1).map SV.imm) (ds := yiq 0 2 ++ yiq 1 1) rfl rfl rfl rfl rfl rfl (by decide) h)) ?_
  (refine za ?_; conv => whnf)
  refine ze rfl  s1 ?_
  (refine za ?_; conv => whnf)
  refine ze rfl  s2 ?_
  (refine za ?_; conv => whnf)
  refine ze rfl  dd ?_
  (refine za ?_; conv => whnf)
  refine ze rfl  s3 ?_
  (refine za ?_; conv => whnf)
  refine jf (fun k h => yqo 122 rfl yvf h) ?_
  refine ze rfl  rr ?_
  (refine za ?_; conv => whnf)
  refine ze rfl  s4 ?_
  (refine za ?_; conv => whnf)
  refine ze rfl  rc ?_
  (refine za ?_; conv => whnf)
  exact hK _
def jl (n : Int) : List Article -> Nat -> Int
 | [], _ => -1
 | d :: r, i => if d.number = n then i else jl n r (i + 1)
theorem zgz (c : Codex) (n : Int) (hsz : c.arts.length <= 9223372036854775807) : zx Tryz.prog G 52 [c.sv, sI n] (sI (jl n c.arts 0)) := by
 refine zd Tryz.func52 rfl (by rw [Tryz.ntmps52]; simp) rfl rfl ?_; intro E hH hK
 have hlen : (c.arts.map Article.cells).length = c.arts.length := by simp
 (refine zi ?_; conv => whnf)
 refine zg [1, 2, 5] ?_
 refine zq c.arts (fun i (_ : Unit) => [(1, sI n), (2, .ptr 0 0), (5, sI i)]) (fun _ _ => [.cells [.imm (zk c.facts), .imm (zk c.lines), .imm (ys c.arts)]])
  (fun done rest _ => jl n c.arts 0 = jl n rest done.length) () rfl ?_ ?_
 ·rintro _ h1
  (refine zi ?_; conv => whnf)
  repeat' ((with_reducible refine way ?_ ?_) <;> (intro h; conv => whnf))
  all_goals try (exfalso; omega)
  exact kI hK (by rw [h1]; rfl)
 ·rintro done d rest _ ha hl h1 ih
  have hw := zm (n := done.length) (by omega)
  simp only [jl] at h1
  (refine zi ?_; conv => whnf)
  repeat' ((with_reducible refine way ?_ ?_) <;> (intro h; conv => whnf))
  all_goals try (exfalso; omega)
  refine zh rfl rfl  (row := d.cells) (by simp [ha]) ?_
  (refine zj ?_; conv => whnf)
  repeat' ((with_reducible refine way ?_ ?_) <;> (intro h; conv => whnf))
  ·exact kI hK (by rw [h1, if_pos h])
  ·rw [hw]; exact yr [1, 2, 5] 1 (by simp [hH]) (by simp) rfl rfl (ih () (by rw [h1, if_neg h]; simp))
theorem zlb (n : Int) : ∀ (l : List Article) (i : Nat), jl n l i = -1 \/ ((i : Int) <= jl n l i /\ jl n l i < i + l.length /\ ∃ a, l[(jl n l i).toNat - i]? = some a /\ a.number = n)
 | [], i => .inl rfl
 | a :: r, i => by
  simp only [jl]
  split
  ·rename_i h
   right
   refine ⟨by omega, by simp; omega, a, by simp, h⟩
  ·rcases zlb n r (i + 1) with h | ⟨h1, h2, x, h3, h4⟩
   ·exact .inl h
   ·right
    refine ⟨by omega, by simp; omega, x, ?_, h4⟩
    rw [show (jl n r (i + 1)).toNat - i = ((jl n r (i + 1)).toNat - (i + 1)) + 1 by omega]
    simpa using h3
theorem znu (n : Int) : ∀ (l : List Article) (i : Nat), jl n l i = -1 ↔ ∀ a ∈ l, a.number ≠ n
 | [], i => by simp [jl]
 | a :: r, i => by
  simp only [jl]
  split
  ·rename_i h
   constructor
   ·intro h'; omega
   ·intro h'; exact absurd h (h' a (by simp))
  ·rename_i h
   rw [znu n r (i + 1)]
   simp [h]
def zin (L : Int) (a : Article) : Bool := decide (a.when_.length <= 40) && decide (a.unless_.length <= 80) && decide ((xc a.amount : Int) <= L) && a.when_.all (fun e => decide ((xc e : Int) <= L))
def zsr (c : Codex) (L : Int) : Bool := decide (c.facts.length <= 40) && decide (c.lines.length <= 40) && decide (c.arts.length <= 70) && c.arts.all (zin L)
theorem ypi (c : Codex) (L : Int) (h0 : 0 <= L) (h1 : L <= 999999) : zx Tryz.prog G 39 [c.sv, sI L] (sB (zsr c L)) := by
 refine zd Tryz.func39 rfl (by rw [Tryz.ntmps39]; simp) rfl rfl ?_; intro E hH hK
 have hlf : (c.facts.map Decl.cells).length = c.facts.length := by simp
 have hll : (c.lines.map Decl.cells).length = c.lines.length := by simp
 have hla : (c.arts.map Article.cells).length = c.arts.length := by simp
 (refine zi ?_; conv => whnf)
 repeat' ((with_reducible refine way ?_ ?_) <;> (intro h; conv => whnf))
 all_goals try exact kB hK (by simp [zsr]; intros; omega)
 have hsz : c.facts.length <= 40 /\ c.lines.length <= 40 /\ c.arts.length <= 70 := by omega
 have hok : zsr c L = c.arts.all (zin L) := by simp [zsr, hsz]
 refine zg [1, 2, 5] ?_
 refine zq c.arts (fun i (_ : Unit) => [(1, sI L), (2, .ptr 0 0), (5, sI i)]) (fun _ _ => [.cells [.imm (zk c.facts), .imm (zk c.lines), .imm (ys c.arts)]])
  (fun done rest _ => c.arts.all (zin L) = rest.all (zin L)) () rfl ?_ ?_
 ·rintro _ h1
  (refine zi ?_; conv => whnf)
  repeat' ((with_reducible refine way ?_ ?_) <;> (intro h; conv => whnf))
  all_goals try (exfalso; omega)
  exact kB hK (by rw [hok, h1]; rfl)
 ·rintro done a rest _ ha hl hinv ih
  have hw := zm (n := done.length) (by omega)
  simp only [List.all_cons] at hinv
  obtain ⟨op, n, u, den, ps, ks, ham⟩ : ∃ op n u den ps ks, a.amount = .mk op n u den ps ks := by cases h : a.amount; exact ⟨_, _, _, _, _, _, rfl⟩
  have hrow : (c.arts.map Article.cells)[((done.length : Nat) : Int).toNat]? = some [dI a.number, dI a.line, dI a.rank, dI a.lo, dI a.hi, dI a.known, ye a.when_, zl a.unless_, dI op, dI n, dS u, dI den, .isl 3 (ps.map Piece.cells), .isl 6 (zc ks)] := by
   simp [ha, Article.cells, ham, zp, Ex.op, Ex.n, Ex.unit, Ex.den, Ex.pieces, Ex.kids]
  have hwl : (a.when_.map Ex.cells).length = a.when_.length := by simp
  have hul : (a.unless_.map fun n => [dI n]).length = a.unless_.length := by simp
  have bad : zin L a = false -> zsr c L = false := fun h => by rw [hok, hinv, h]; rfl
  (refine zi ?_; conv => whnf)
  repeat' ((with_reducible refine way ?_ ?_) <;> (intro h; conv => whnf))
  all_goals try (exfalso; omega)
  refine zh rfl rfl  (row := [dI a.number, dI a.line, dI a.rank, dI a.lo, dI a.hi, dI a.known, ye a.when_, zl a.unless_, dI op, dI n, dS u, dI den, .isl 3 (ps.map Piece.cells), .isl 6 (zc ks)]) hrow ?_
  (refine zj ?_; conv => whnf)
  repeat' ((with_reducible refine way ?_ ?_) <;> (intro h; conv => whnf))
  all_goals try exact kB hK (bad (by simp [zin]; intros; omega))
  refine ze rfl  (zmy G (.mk op n u den ps ks) L h0 h1) ?_
  (refine zj ?_; conv => whnf)
  repeat' ((with_reducible refine way ?_ ?_) <;> (intro h; conv => whnf))
  ·exact kB hK (bad (by simp [zin, ham]; intros; omega))
  have hgood : zin L a = a.when_.all (fun e => decide ((xc e : Int) <= L)) := by
   simp only [zin, ham]
   rw [decide_eq_true (by omega), decide_eq_true (by omega), decide_eq_true h]; rfl
  refine zg [1, 2, 5, 6, 7] ?_
  refine zq a.when_ (fun i (_ : Unit) => [(1, sI L), (2, .ptr 0 0), (5, sI done.length), (6, .ptr 1 0), (7, sI i)])
   (fun _ _ => [.cells [.imm (zk c.facts), .imm (zk c.lines), .imm (ys c.arts)], .cells (zko a op n u den ps ks)])
   (fun done rest _ => a.when_.all (fun e => decide ((xc e : Int) <= L)) = rest.all (fun e => decide ((xc e : Int) <= L))) () rfl ?_ ?_
  ·rintro _ h2
   (refine zi ?_; conv => whnf)
   repeat' ((with_reducible refine way ?_ ?_) <;> (intro h; conv => whnf))
   all_goals try (exfalso; omega)
   rw [hw]
   exact yr [1, 2, 5] 1 (by simp [hH]) (by simp) rfl rfl (ih () (by rw [hinv, hgood, h2]; rfl))
  ·rintro d2 e r2 _ ha2 hl2 h2 ih2
   have hw2 := zm (n := d2.length) (by omega)
   simp only [List.all_cons] at h2
   obtain ⟨o1, n1, u1, d1, p1, q1⟩ := e
   (refine zi ?_; conv => whnf)
   repeat' ((with_reducible refine way ?_ ?_) <;> (intro h; conv => whnf))
   all_goals try (exfalso; omega)
   refine zh rfl rfl  (row := (Ex.mk o1 n1 u1 d1 p1 q1).cells) (by simp [ha2]) ?_
   (refine zj ?_; conv => whnf)
   refine ze rfl  (zmy G (.mk o1 n1 u1 d1 p1 q1) L h0 h1) ?_
   (refine zj ?_; conv => whnf)
   repeat' ((with_reducible refine way ?_ ?_) <;> (intro h; conv => whnf))
   ·exact kB hK (bad (by rw [hgood, h2, decide_eq_false h]; rfl))
   ·rw [hw2]
    exact yr [1, 2, 5, 6, 7] 2 (by simp [hH]) (by simp) rfl rfl (ih2 () (by rw [h2, decide_eq_true h]; rfl))
section
variable {P : Program} {G : List (Nat × D)} {fn : Func} {rd : Bool} {E : En P G fn rd} {t : List (Nat × SV)} {H : List SObj} {k : List Item} {all : Array Oper} {rest : List Oper} {o : Oper}
theorem ymz {ty ty' : Nat} {x y : Operand} {a b : Int} (hop : o.op = .binOp .rem ty x y ty') (hw : yg all t o.guard = some true) (hd : yi fn.ntmps o.dst = true) (hx : zo G t x = sI a) (hy : zo G t y = sI b) (hb : b ≠ 0)
  (h : SWr E all rest k (wq t o.dst (sI (a.tmod b))) H) : SWr E all (o :: rest) k t H := by
 refine zbe (r := sI (a.tmod b)) (H' := H) hw hd ?_ (Nat.le_refl _) h
 have hs : yni P .rem ty (.int .i64 a) (.int .i64 b) = some (.int .i64 (a.tmod b)) := by
  show (if b = 0 then none else some (Value.int .i64 (a.tmod b))) = _
  rw [if_neg hb]
 rw [hop]
 simp only [sop, hx, hy, hs, Option.map_some]
end
def ytw (c : Codex) : Bool := zsr c 400 && decide (c.arts.length <= 12) && decide (c.facts.length <= 12)
theorem yib (c : Codex) : zx Tryz.prog G0 10 [c.sv] (sB (ytw c)) := by
 have hal : (c.arts.map Article.cells).length = c.arts.length := by simp
 have hfl : (c.facts.map Decl.cells).length = c.facts.length := by simp
 have hfw := ypi G0 c 400 (by decide) (by decide)
 have hu : ytw c = (zsr c 400 && decide (c.arts.length <= 12) && decide (c.facts.length <= 12)) := rfl
 rw [hu]
 generalize zsr c 400 = b at hfw
 refine zd Tryz.func10 rfl (by rw [Tryz.ntmps10]; simp) rfl rfl ?_; intro E hH hK
 rw [show c.sv = .agg [.imm (zk c.facts), .imm (zk c.lines), .imm (ys c.arts)] from rfl]
 (refine zf ?_; conv => whnf)
 refine ze rfl  hfw ?_
 cases b <;> ((refine za ?_; conv => whnf))
 ·exact hK _
 ·repeat' ((with_reducible refine way ?_ ?_) <;> (intro h; conv => whnf))
  ·have h1 : c.arts.length <= 12 := by omega
   rw [decide_eq_true h1, Bool.true_and, Bool.true_and] at hK
   have : decide (((c.facts.map Decl.cells).length : Int) <= 12) = decide (c.facts.length <= 12) := by rw [hfl]; exact decide_eq_decide.2 (by omega)
   rw [<- this] at hK
   exact hK _
  ·have h1 : ¬ c.arts.length <= 12 := by omega
   rw [decide_eq_false h1, Bool.and_false, Bool.false_and] at hK
   exact hK _
theorem yna {c : Codex} (h : ytw c = true) : c.arts.length <= 12 /\ c.facts.length <= 12 /\ zsr c 420 = true /\ ∀ a ∈ c.arts, a.when_.length <= 41 /\ a.unless_.length <= 80 := by
 unfold ytw at h
 simp only [Bool.and_eq_true, decide_eq_true_eq] at h
 obtain ⟨⟨h1, h2⟩, h3⟩ := h
 unfold zsr at h1 ⊢
 simp only [Bool.and_eq_true, decide_eq_true_eq, List.all_eq_true] at h1 ⊢
 refine ⟨h2, h3, ⟨h1.1, fun a ha => ?_⟩, fun a ha => ?_⟩
 ·have := h1.2 a ha
  unfold zin at this ⊢
  simp only [Bool.and_eq_true, decide_eq_true_eq, List.all_eq_true] at this ⊢
  exact ⟨⟨this.1.1, by omega⟩, fun e he => by have := this.2 e he; omega⟩
 ·have := h1.2 a ha
  unfold zin at this
  simp only [Bool.and_eq_true, decide_eq_true_eq, List.all_eq_true] at this
  exact ⟨by have := this.1.1.1; omega, this.1.1.2⟩
def zrz (c n : Int) : Int := (if c < 0 then -(c + 1) else c) % n
theorem zzv {c n : Int} (h : 0 < n) : 0 <= zrz c n /\ zrz c n < n := ⟨Int.emod_nonneg _ (by omega), Int.emod_lt_of_pos _ h⟩
theorem zsa (c n : Int) (h0 : -9223372036854775808 <= c) (h1 : c <= 9223372036854775807) (hn : 0 < n) : zx Tryz.prog G 28 [sI c, sI n] (sI (zrz c n)) := by
 by_cases hc : c < 0
 ·have hw1 : IntKind.i64.wrap (c + 1) = c + 1 := xh (by omega) (by omega)
  have hw2 : IntKind.i64.wrap (0 - (c + 1)) = 0 - (c + 1) := xh (by omega) (by omega)
  have he : zrz c n = (IntKind.i64.wrap (0 - (IntKind.i64.wrap (c + 1)))).tmod n := by
   rw [hw1, hw2, Int.tmod_eq_emod_of_nonneg (by omega)]
   unfold zrz
   rw [if_pos hc, Int.zero_sub]
  refine zd Tryz.func28 rfl (by rw [Tryz.ntmps28]; simp) rfl rfl ?_; intro E hH hK
  (refine ww [777, 12] 1000 ?_; conv => whnf)
  repeat' ((with_reducible refine way ?_ ?_) <;> (intro h; conv => whnf))
  all_goals try (exfalso; omega)
  refine ymz (a := IntKind.i64.wrap (0 - (IntKind.i64.wrap (c + 1)))) (b := n) rfl rfl rfl rfl rfl (by omega) ?_
  (refine za ?_; conv => whnf)
  exact kI hK he
 ·have he : zrz c n = c.tmod n := by
   rw [Int.tmod_eq_emod_of_nonneg (by omega)]
   unfold zrz
   rw [if_neg hc]
  refine zd Tryz.func28 rfl (by rw [Tryz.ntmps28]; simp) rfl rfl ?_; intro E hH hK
  (refine ww [777, 12] 1000 ?_; conv => whnf)
  repeat' ((with_reducible refine way ?_ ?_) <;> (intro h; conv => whnf))
  all_goals try (exfalso; omega)
  refine ymz (a := c) (b := n) rfl rfl rfl rfl rfl (by omega) ?_
  (refine za ?_; conv => whnf)
  exact kI hK he
def yfc (numbers : List Int) (i : Nat) : Int := if i < numbers.length then zrz (numbers.getD i 0) 1000000000001 else 0
def ysh (c : Codex) (numbers : List Int) : List Int := (List.range c.facts.length).map fun (i : Nat) => if zka c i = true then yfc numbers i % 2 else yfc numbers i
theorem yfd (numbers : List Int) (i : Nat) : 0 <= yfc numbers i := by
 unfold yfc
 split
 ·exact (zzv (by omega)).1
 ·omega
theorem ypj (c : Codex) (numbers : List Int) : (ysh c numbers).length = c.facts.length := by simp [ysh]
theorem ynb (c : Codex) (numbers : List Int) : ymk c (ysh c numbers) := fun i => by
 have h := yfd numbers i
 unfold ysh
 rw [List.getD_eq_getElem?_getD, List.getElem?_map]
 by_cases hi : i < c.facts.length
 ·rw [List.getElem?_range hi]
  simp only [Option.map_some, Option.getD_some]
  cases ht : zka c (i : Int) with
  | true => rw [if_pos rfl]; omega
  | false => simp; exact h
 ·rw [List.getElem?_eq_none (by simp; omega)]
  simp
theorem zss (c : Codex) (hF : c.facts.length <= 1000) (numbers : List Int) (hn : ∀ n ∈ numbers, -9223372036854775808 <= n /\ n <= 9223372036854775807) : zx Tryz.prog G 27 [c.sv, .imm (zl numbers)] (.imm (zl (ysh c numbers))) := by
 have hfl : (c.facts.map Decl.cells).length = c.facts.length := by simp
 have hnl : (numbers.map fun n => [dI n]).length = numbers.length := by simp
 rw [show c.sv = .agg [.imm (zk c.facts), .imm (zk c.lines), .imm (ys c.arts)] from rfl]
 refine zd Tryz.func27 rfl (by rw [Tryz.ntmps27]; simp) rfl rfl ?_; intro E hH hK
 (refine zf ?_; conv => whnf)
 refine zsy (n := 5) (kk := 1) rfl ?_
 refine zg [1, 2, 5, 6] ?_
 change SW E _ [(1, .imm (zl numbers)), (2, .ptr 0 0), (5, .asl 1 1 []), (6, sI 0)] [.cells [.imm (zk c.facts), .imm (zk c.lines), .imm (ys c.arts)], .tok 1 0]
 refine zq c.facts (fun i (l : List Int) => [(1, .imm (zl numbers)), (2, .ptr 0 0), (5, .asl 1 1 (l.map fun n => [dI n])), (6, sI i)]) (fun _ l => [.cells [.imm (zk c.facts), .imm (zk c.lines), .imm (ys c.arts)], .tok 1 (l.map fun n => [dI n]).length])
  (fun done _ l => l = (List.range done.length).map fun (i : Nat) => if zka c i = true then yfc numbers i % 2 else yfc numbers i) [] rfl ?_ ?_
 ·rintro l h2
  have h3 : ysh c numbers = l := h2.symm
  rw [h3] at hK
  refine zdl ?_
  change SW E _ [(1, .imm (zl numbers)), (2, .ptr 0 0), (5, .imm (zl l)), (6, sI c.facts.length)] _
  (refine zf ?_; conv => whnf)
  repeat' ((with_reducible refine way ?_ ?_) <;> (intro h; conv => whnf))
  all_goals try (exfalso; omega)
  exact hK _
 ·rintro done x rest l hda hdl h2 ih
  have hw := zm (n := done.length) (by omega)
  have hll : l.length = done.length := by rw [h2]; simp
  have hrow : (c.facts.map Decl.cells)[done.length]? = some [dS x.name, dS x.unit, dI x.role] := by simp [hda, Decl.cells]
  have hT : zka c (done.length : Int) = decide (x.unit = tT) := by
   unfold zka
   rw [show ((done.length : Nat) : Int).toNat = done.length by omega, show c.facts[done.length]? = some x by simp [hda]]
  have hsn : ∀ n, n = (if zka c (done.length : Int) = true then yfc numbers done.length % 2 else yfc numbers done.length) -> l ++ [n] = (List.range (done ++ [x]).length).map fun (i : Nat) => if zka c i = true then yfc numbers i % 2 else yfc numbers i := fun n h3 => by
   rw [List.length_append, List.length_cons, List.length_nil, List.range_succ, List.map_append, <- h2, h3]
   rfl
  have hp := yfd numbers done.length
  by_cases hi : done.length < numbers.length
  ·obtain ⟨n0, hn0⟩ : ∃ n0, numbers[done.length]? = some n0 := ⟨_, List.getElem?_eq_getElem hi⟩
   have hrn : (numbers.map fun n => [dI n])[done.length]? = some [dI n0] := by simp [hn0]
   have hr := hn n0 (List.mem_of_getElem? hn0)
   have hpk := zsa G n0 1000000000001 hr.1 hr.2 (by omega)
   have hfn : yfc numbers done.length = zrz n0 1000000000001 := by unfold yfc; rw [if_pos hi, List.getD_eq_getElem?_getD, hn0]; rfl
   rw [hfn] at hsn hp
   generalize zrz n0 1000000000001 = p at hpk hsn hp
   (refine zf ?_; conv => whnf)
   repeat' ((with_reducible refine way ?_ ?_) <;> (intro h; conv => whnf))
   all_goals try (exfalso; omega)
   refine zh (i := done.length) (row := [dI n0]) rfl rfl hrn ?_
   (refine za ?_; conv => whnf)
   refine ze rfl  hpk ?_
   (refine za ?_; conv => whnf)
   refine zh (i := done.length) rfl rfl hrow ?_
   (refine za ?_; conv => whnf)
   repeat' ((with_reducible refine way ?_ ?_) <;> (intro h; conv => whnf))
   ·have ht : zka c (done.length : Int) = true := hT.trans (decide_eq_true (p := x.unit = tT) h)
    have hend := ih (l ++ [p.tmod 2]) (hsn _ (by rw [if_pos ht, Int.tmod_eq_emod_of_nonneg hp]))
    refine wd (b := 1) (kk := 1) (rows := l.map fun n => [dI n]) (new := [[dI (p.tmod 2)]]) rfl ⟨by decide, rfl⟩ rfl (by rw [List.length_map]; simp only [List.length_cons, List.length_nil]; omega) ?_
    have e5 : (l.map fun n => [dI n]) ++ [[dI (p.tmod 2)]] = (l ++ [p.tmod 2]).map fun n => [dI n] := by simp
    have e6 : (l.map fun n => [dI n]).length + [[dI (p.tmod 2)]].length = ((l ++ [p.tmod 2]).map fun n => [dI n]).length := by simp
    refine Eq.mpr (congrArg (fun v => SWr E _ _ _ (wq _ _ (.asl 1 1 v)) _) e5) ?_
    refine Eq.mpr (congrArg (fun v => SWr E _ _ _ _ (List.set _ 1 (.tok 1 v))) e6) ?_
    (refine za ?_; conv => whnf)
    rw [hw]
    exact zg [1, 2, 5, 6] hend
   ·have ht : zka c (done.length : Int) = false := hT.trans (decide_eq_false (p := x.unit = tT) h)
    have hend := ih (l ++ [p]) (hsn _ (by rw [if_neg (by rw [ht]; simp)]))
    refine wd (b := 1) (kk := 1) (rows := l.map fun n => [dI n]) (new := [[dI p]]) rfl ⟨by decide, rfl⟩ rfl (by rw [List.length_map]; simp only [List.length_cons, List.length_nil]; omega) ?_
    have e5 : (l.map fun n => [dI n]) ++ [[dI p]] = (l ++ [p]).map fun n => [dI n] := by simp
    have e6 : (l.map fun n => [dI n]).length + [[dI p]].length = ((l ++ [p]).map fun n => [dI n]).length := by simp
    refine Eq.mpr (congrArg (fun v => SWr E _ _ _ (wq _ _ (.asl 1 1 v)) _) e5) ?_
    refine Eq.mpr (congrArg (fun v => SWr E _ _ _ _ (List.set _ 1 (.tok 1 v))) e6) ?_
    (refine za ?_; conv => whnf)
    rw [hw]
    exact zg [1, 2, 5, 6] hend
  ·have hfn : yfc numbers done.length = 0 := by unfold yfc; rw [if_neg hi]
   have hend := ih (l ++ [0]) (hsn _ (by rw [hfn]; split <;> rfl))
   (refine zf ?_; conv => whnf)
   repeat' ((with_reducible refine way ?_ ?_) <;> (intro h; conv => whnf))
   all_goals try (exfalso; omega)
   refine zh (i := done.length) rfl rfl hrow ?_
   (refine za ?_; conv => whnf)
   repeat' ((with_reducible refine way ?_ ?_) <;> (intro h; conv => whnf))
   ·have hend := ih (l ++ [(0 : Int).tmod 2]) (hsn _ (by rw [hfn]; split <;> rfl))
    refine wd (b := 1) (kk := 1) (rows := l.map fun n => [dI n]) (new := [[dI ((0 : Int).tmod 2)]]) rfl ⟨by decide, rfl⟩ rfl (by rw [List.length_map]; simp only [List.length_cons, List.length_nil]; omega) ?_
    have e5 : (l.map fun n => [dI n]) ++ [[dI ((0 : Int).tmod 2)]] = (l ++ [(0 : Int).tmod 2]).map fun n => [dI n] := by simp
    have e6 : (l.map fun n => [dI n]).length + [[dI ((0 : Int).tmod 2)]].length = ((l ++ [(0 : Int).tmod 2]).map fun n => [dI n]).length := by simp
    refine Eq.mpr (congrArg (fun v => SWr E _ _ _ (wq _ _ (.asl 1 1 v)) _) e5) ?_
    refine Eq.mpr (congrArg (fun v => SWr E _ _ _ _ (List.set _ 1 (.tok 1 v))) e6) ?_
    (refine za ?_; conv => whnf)
    rw [hw]
    exact zg [1, 2, 5, 6] hend
   ·refine wd (b := 1) (kk := 1) (rows := l.map fun n => [dI n]) (new := [[dI 0]]) rfl ⟨by decide, rfl⟩ rfl (by rw [List.length_map]; simp only [List.length_cons, List.length_nil]; omega) ?_
    have e5 : (l.map fun n => [dI n]) ++ [[dI 0]] = (l ++ [0]).map fun n => [dI n] := by simp
    have e6 : (l.map fun n => [dI n]).length + [[dI 0]].length = ((l ++ [0]).map fun n => [dI n]).length := by simp
    refine Eq.mpr (congrArg (fun v => SWr E _ _ _ (wq _ _ (.asl 1 1 v)) _) e5) ?_
    refine Eq.mpr (congrArg (fun v => SWr E _ _ _ _ (List.set _ 1 (.tok 1 v))) e6) ?_
    (refine za ?_; conv => whnf)
    rw [hw]
    exact zg [1, 2, 5, 6] hend
theorem zwo (c : Codex) (vs : List Int) (hz : vs.length <= 1000000) (hv : ∀ v ∈ vs, 0 <= v /\ v < c.arts.length) (day : Int) :
  zx Tryz.prog G 24 [c.sv, .imm (zl vs), sI day] (sB (decide ((ym c vs).1 <= day) && decide (day < (ym c vs).2))) := by
 have h1 := zoj G c vs hz hv
 generalize ym c vs = fr at h1
 obtain ⟨lo, hi⟩ := fr
 rw [show c.sv = .agg [.imm (zk c.facts), .imm (zk c.lines), .imm (ys c.arts)] from rfl] at h1 ⊢
 by_cases hlo : lo <= day
 ·rw [decide_eq_true (show (lo, hi).1 <= day from hlo), Bool.true_and]
  refine zd Tryz.func24 rfl (by rw [Tryz.ntmps24]; simp) rfl rfl ?_; intro E hH hK
  (refine zf ?_; conv => whnf)
  refine ze rfl  h1 ?_
  (refine za ?_; conv => whnf)
  repeat' ((with_reducible refine way ?_ ?_) <;> (intro h; conv => whnf))
  all_goals try (exfalso; omega)
  exact hK _
 ·rw [decide_eq_false (show ¬ (lo, hi).1 <= day from hlo), Bool.false_and]
  refine zd Tryz.func24 rfl (by rw [Tryz.ntmps24]; simp) rfl rfl ?_; intro E hH hK
  (refine zf ?_; conv => whnf)
  refine ze rfl  h1 ?_
  (refine za ?_; conv => whnf)
  repeat' ((with_reducible refine way ?_ ?_) <;> (intro h; conv => whnf))
  all_goals try (exfalso; omega)
  exact hK _
def zai (c : Codex) (op n : Int) (u : ByteArray) : Bool :=
  if op = 1 then wt u && decide (0 <= n) && decide (n <= 999999999999) && (!decide (u = tT) || decide (n <= 1))
  else if op = 2 then decide (0 <= n) && decide (n < c.facts.length) && zcs c.facts n u
  else if op = 3 then (match c.arts[(jl n c.arts 0).toNat]? with
    | some a => decide (0 <= jl n c.arts 0) && decide (0 <= a.line) && decide (a.line < c.lines.length) && zcs c.lines a.line u
    | none => false)
  else if op = 4 then decide (1 <= n) && decide (n <= 4) && decide (u = tN)
  else false
theorem zzw (c : Codex) (op n : Int) (u : ByteArray) (den : Int) (ps : List Piece) (ks : List Ex) (hsz : c.arts.length <= 9223372036854775807) :
    zx Tryz.prog G 118 [c.sv, (Ex.mk op n u den ps ks).sv] (sB (zai c op n u)) := by
  refine zd Tryz.func118 rfl (by rw [Tryz.ntmps118]; simp) rfl rfl ?_; intro E hH hK
  have hf : (c.facts.map Decl.cells).length = c.facts.length := by simp
  have hl : (c.lines.map Decl.cells).length = c.lines.length := by simp
  by_cases h1 : op = 1
  · subst h1
    have hr : zai c 1 n u = (wt u && decide (0 <= n) && decide (n <= 999999999999) && (!decide (u = tT) || decide (n <= 1))) := rfl
    rw [hr] at hK
    (refine zi ?_; conv => whnf)
    refine ze rfl  (zxw G u) ?_
    (refine zj ?_; conv => whnf)
    repeat' ((with_reducible refine way ?_ ?_) <;> (intro h; conv => whnf))
    all_goals exact kB hK (by first | (rw [‹wt u = true›]; simp [*]; done) | (simp [*]; done))
  by_cases h2 : op = 2
  · subst h2
    have hr : zai c 2 n u = (decide (0 <= n) && decide (n < c.facts.length) && zcs c.facts n u) := rfl
    rw [hr] at hK
    (refine zi ?_; conv => whnf)
    (refine yy mixed rfl ?_; refine zn [] ?_; conv => whnf)
    repeat' ((with_reducible refine way ?_ ?_) <;> (intro h; conv => whnf))
    · have hlt : n.toNat < c.facts.length := by omega
      obtain ⟨d, hd⟩ : ∃ d, c.facts[n.toNat]? = some d := ⟨c.facts[n.toNat], List.getElem?_eq_getElem hlt⟩
      refine xw rfl (i := n.toNat) (by omega) (row := d.cells) (by simp [hd]) ?_
      (refine zn [] ?_; conv => whnf)
      (refine zi ?_; conv => whnf)
      refine kB hK ?_
      have hua : zcs c.facts n u = decide (u = d.unit) := by simp only [zcs, hd]
      rw [hua, decide_eq_true (by omega), decide_eq_true (by omega)]
      rfl
    all_goals (refine zi ?_; conv => whnf)
    · exact kB hK (by rw [decide_eq_false (p := n < c.facts.length) (by omega)]; simp)
    · exact kB hK (by rw [decide_eq_false (p := 0 <= n) (by omega)]; simp)
  by_cases h3 : op = 3
  · subst h3
    have hr : zai c 3 n u = (match c.arts[(jl n c.arts 0).toNat]? with
      | some a => decide (0 <= jl n c.arts 0) && decide (0 <= a.line) && decide (a.line < c.lines.length) && zcs c.lines a.line u
      | none => false) := rfl
    rw [hr] at hK
    (refine zi ?_; conv => whnf)
    refine ze rfl  (zgz G c n hsz) ?_
    (refine zj ?_; conv => whnf)
    rcases zlb n c.arts 0 with h | ⟨g1, g2, a, g3, g4⟩
    · rw [h] at hK ⊢
      (refine yy mixed rfl ?_; refine zn [] ?_; conv => whnf)
      (refine zi ?_; conv => whnf)
      refine kB hK ?_
      split <;> rfl
    · rw [Nat.sub_zero] at g3
      rw [g3] at hK
      simp only [decide_eq_true (show (0 : Int) <= jl n c.arts 0 from g1), Bool.true_and] at hK
      generalize jl n c.arts 0 = ix at hK g1 g2 g3 ⊢
      (refine yy mixed rfl ?_; refine zn [] ?_; conv => whnf)
      repeat' ((with_reducible refine way ?_ ?_) <;> (intro h; conv => whnf))
      all_goals try (exfalso; omega)
      refine xw rfl (i := ix.toNat) (by omega) (row := a.cells) (by simp [g3]) ?_
      (refine zn [] ?_; conv => whnf)
      repeat' ((with_reducible refine way ?_ ?_) <;> (intro h; conv => whnf))
      · refine xw rfl (i := ix.toNat) (by omega) (row := a.cells) (by simp [g3]) ?_
        (refine zn [] ?_; conv => whnf)
        repeat' ((with_reducible refine way ?_ ?_) <;> (intro h; conv => whnf))
        · refine xw rfl (i := ix.toNat) (by omega) (row := a.cells) (by simp [g3]) ?_
          (refine zn [] ?_; conv => whnf)
          obtain ⟨d, hd⟩ : ∃ d, c.lines[a.line.toNat]? = some d := ⟨c.lines[a.line.toNat]'(by omega), List.getElem?_eq_getElem _⟩
          refine xw rfl (i := a.line.toNat) (by omega) (row := d.cells) (by simp [hd]) ?_
          (refine zn [] ?_; conv => whnf)
          (refine zi ?_; conv => whnf)
          refine kB hK ?_
          have hua : zcs c.lines a.line u = decide (u = d.unit) := by simp only [zcs, hd]
          rw [hua, decide_eq_true (p := 0 <= a.line) (by omega), decide_eq_true (p := a.line < c.lines.length) (by omega)]
          rfl
        · (refine zi ?_; conv => whnf)
          exact kB hK (by rw [decide_eq_false (p := a.line < c.lines.length) (by omega)]; simp)
      · (refine zi ?_; conv => whnf)
        exact kB hK (by rw [decide_eq_false (p := 0 <= a.line) (by omega)]; simp)
  · (refine zi ?_; conv => whnf)
    repeat' ((with_reducible refine way ?_ ?_) <;> (intro h; conv => whnf))
    all_goals try (exfalso; omega)
    all_goals exact kB hK (by simp only [zai, if_neg h1, if_neg h2, if_neg h3]; simp [*])
theorem ytx (u : ByteArray) (f l : Ex) (len : Int) (h : 2 <= len) : zak 16 u f l len true = (!decide (f.unit = tT) && decide (u = f.unit)) := by simp [zak, h]
theorem yty (u : ByteArray) (f l : Ex) (len : Int) (h : 2 <= len) : zak 17 u f l len true = (!decide (f.unit = tT) && decide (u = f.unit)) := by simp [zak, h]
theorem yvg (u : ByteArray) (f l : Ex) : zak 6 u f l 2 (decide (l.unit = f.unit)) = (decide (u = tT) && decide (f.unit = tT) && decide (l.unit = tT)) := by
 by_cases e : f.unit = tT
 ·simp [zak, e]
 ·simp [zak, e]
theorem yvh (u : ByteArray) (f l : Ex) : zak 7 u f l 2 (decide (l.unit = f.unit)) = (decide (u = tT) && decide (f.unit = tT) && decide (l.unit = tT)) := by
 by_cases e : f.unit = tT
 ·simp [zak, e]
 ·simp [zak, e]
theorem yvi (u : ByteArray) (f l : Ex) : zak 8 u f l 2 (decide (l.unit = f.unit)) = (decide (u = tT) && decide (f.unit = l.unit)) := by
 simp [zak, eq_comm (a := l.unit)]
theorem yvj (u : ByteArray) (f l : Ex) : zak 9 u f l 2 (decide (l.unit = f.unit)) = (decide (u = tT) && decide (f.unit = l.unit) && !decide (f.unit = tT)) := by
 simp [zak, Bool.and_assoc, eq_comm (a := l.unit)]
theorem ytz (u : ByteArray) (f l : Ex) : zak 10 u f l 2 (decide (l.unit = f.unit)) = (decide (u = tT) && decide (f.unit = l.unit) && !decide (f.unit = tT)) := by
 simp [zak, Bool.and_assoc, eq_comm (a := l.unit)]
theorem yua (u : ByteArray) (f l : Ex) : zak 11 u f l 2 (decide (l.unit = f.unit)) = (decide (u = f.unit) && decide (f.unit = l.unit) && !decide (f.unit = tT)) := by
 by_cases e1 : u = f.unit <;> by_cases e2 : l.unit = f.unit <;> simp [zak, e1, e2, eq_comm (a := f.unit)]
theorem yub (u : ByteArray) (f l : Ex) : zak 12 u f l 2 (decide (l.unit = f.unit)) = (decide (u = f.unit) && decide (f.unit = l.unit) && !decide (f.unit = tT)) := by
 by_cases e1 : u = f.unit <;> by_cases e2 : l.unit = f.unit <;> simp [zak, e1, e2, eq_comm (a := f.unit)]
theorem yuc (u : ByteArray) (f l : Ex) (s : Bool) : zak 13 u f l 2 s = (!decide (f.unit = tT) && !decide (l.unit = tT) && ((decide (f.unit = tN) && decide (u = l.unit)) || (decide (l.unit = tN) && decide (u = f.unit)))) := by
 by_cases e1 : f.unit = tN
 ·by_cases e2 : l.unit = tN
  ·simp [zak, e1, e2]
  ·simp [zak, e1, e2]
 ·simp [zak, e1, Bool.and_assoc]
theorem yud (u : ByteArray) (f l : Ex) (s : Bool) : zak 14 u f l 2 s = (decide (u = f.unit) && !decide (f.unit = tT) && decide (l.op = 1) && decide (l.unit = tN) && decide (1 <= l.n) && decide (l.n <= 1000000)) := by
 have e1 : (!decide (l.n < 1)) = decide (1 <= l.n) := by rw [Bool.eq_iff_iff]; simp
 have e2 : (!decide (1000000 < l.n)) = decide (l.n <= 1000000) := by rw [Bool.eq_iff_iff]; simp
 simp only [zak]
 rw [e1, e2]
 by_cases f1 : u = f.unit <;> by_cases f2 : f.unit = tT <;> simp [f1, f2, Bool.and_assoc]
theorem yue (u : ByteArray) (f l : Ex) (s : Bool) : zak 15 u f l 2 s = (decide (f.unit = tM) && zeo l.unit && decide (u = l.unit)) := by simp [zak]
theorem ypk (op : Int) (u : ByteArray) (f l : Ex) (s : Bool) (h : op < 6 \/ 17 < op) : zak op u f l 2 s = false := by
 by_cases e5 : op = 5
 ·subst e5; simp [zak]
 ·simp only [zak]
  rw [if_neg e5, if_neg (by omega), if_neg (by omega), if_neg (by omega), if_neg (by omega), if_neg (by omega), if_neg (by omega), if_neg (by omega), if_neg (by omega)]
theorem yic (n : Int) (u : ByteArray) (den : Int) (ps : List Piece) (k0 k1 : Ex) : zx Tryz.prog G 120 [(Ex.mk 6 n u den ps [k0, k1]).sv] (sB (zak 6 u k0 k1 2 (decide (k1.unit = k0.unit)))) := by
 have hrows := zp [k0, k1]
 have hlen : (zc [k0, k1]).length = 2 := by rw [hrows]; rfl
 have h0 : (zc [k0, k1])[0]? = some k0.cells := by rw [hrows]; rfl
 have h1 : (zc [k0, k1])[1]? = some k1.cells := by rw [hrows]; rfl
 have hkl : [k0, k1].length = 2 := rfl
 generalize [k0, k1] = ks at hrows hlen h0 h1 hkl ⊢
 refine zd Tryz.func120 rfl (by rw [Tryz.ntmps120]; simp) rfl rfl ?_; intro E hH hK
 obtain ⟨o0, n0, u0, d0, p0, q0⟩ := k0
 obtain ⟨o1, n1, u1, d1, p1, q1⟩ := k1
 replace hK : ∀ H', E.K (sB (decide (u = tT) && decide (u0 = tT) && decide (u1 = tT))) H' := by
  intro H'
  have := hK H'
  rw [yvg] at this
  exact this
 (refine zi ?_; conv => whnf)
 refine zh rfl rfl  (row := (Ex.mk o0 n0 u0 d0 p0 q0).cells) h0 ?_
 (refine zj ?_; conv => whnf)
 refine zh rfl rfl  (row := (Ex.mk o1 n1 u1 d1 p1 q1).cells) h1 ?_
 (refine zj ?_; conv => whnf)
 refine zg [1, 3, 4, 5] ?_
 refine zq ks (fun i (_ : Unit) => [(1, .ptr 0 0), (3, sS u0), (4, sS u1), (5, sI i)]) (fun _ _ => [.cells [sI 6, sI n, sS u, sI den, .imm (.isl 3 (ps.map Piece.cells)), .imm (.isl 6 (zc ks))]])
  (fun _ _ _ => True) () trivial ?_ ?_
 ·as_aux_lemma =>
   rintro _ _
   (refine zi ?_; conv => whnf)
   repeat' ((with_reducible refine way ?_ ?_) <;> (intro h; conv => whnf))
   all_goals try (exfalso; omega)
   all_goals exact kB hK (by simp [tT, tN, *])
 ·as_aux_lemma =>
   rintro done k rest _ ha hl _ ih
   have hw := zm (n := done.length) (by omega)
   (refine zi ?_; conv => whnf)
   repeat' ((with_reducible refine way ?_ ?_) <;> (intro h; conv => whnf))
   all_goals try (exfalso; omega)
   all_goals (rw [hw]; exact yr [1, 3, 4, 5] 1 (by simp [hH]) (by simp) rfl rfl (ih () trivial))
theorem yid (n : Int) (u : ByteArray) (den : Int) (ps : List Piece) (k0 k1 : Ex) : zx Tryz.prog G 120 [(Ex.mk 7 n u den ps [k0, k1]).sv] (sB (zak 7 u k0 k1 2 (decide (k1.unit = k0.unit)))) := by
 have hrows := zp [k0, k1]
 have hlen : (zc [k0, k1]).length = 2 := by rw [hrows]; rfl
 have h0 : (zc [k0, k1])[0]? = some k0.cells := by rw [hrows]; rfl
 have h1 : (zc [k0, k1])[1]? = some k1.cells := by rw [hrows]; rfl
 have hkl : [k0, k1].length = 2 := rfl
 generalize [k0, k1] = ks at hrows hlen h0 h1 hkl ⊢
 refine zd Tryz.func120 rfl (by rw [Tryz.ntmps120]; simp) rfl rfl ?_; intro E hH hK
 obtain ⟨o0, n0, u0, d0, p0, q0⟩ := k0
 obtain ⟨o1, n1, u1, d1, p1, q1⟩ := k1
 replace hK : ∀ H', E.K (sB (decide (u = tT) && decide (u0 = tT) && decide (u1 = tT))) H' := by
  intro H'
  have := hK H'
  rw [yvh] at this
  exact this
 (refine zi ?_; conv => whnf)
 refine zh rfl rfl  (row := (Ex.mk o0 n0 u0 d0 p0 q0).cells) h0 ?_
 (refine zj ?_; conv => whnf)
 refine zh rfl rfl  (row := (Ex.mk o1 n1 u1 d1 p1 q1).cells) h1 ?_
 (refine zj ?_; conv => whnf)
 refine zg [1, 3, 4, 5] ?_
 refine zq ks (fun i (_ : Unit) => [(1, .ptr 0 0), (3, sS u0), (4, sS u1), (5, sI i)]) (fun _ _ => [.cells [sI 7, sI n, sS u, sI den, .imm (.isl 3 (ps.map Piece.cells)), .imm (.isl 6 (zc ks))]])
  (fun _ _ _ => True) () trivial ?_ ?_
 ·as_aux_lemma =>
   rintro _ _
   (refine zi ?_; conv => whnf)
   repeat' ((with_reducible refine way ?_ ?_) <;> (intro h; conv => whnf))
   all_goals try (exfalso; omega)
   all_goals exact kB hK (by simp [tT, tN, *])
 ·as_aux_lemma =>
   rintro done k rest _ ha hl _ ih
   have hw := zm (n := done.length) (by omega)
   (refine zi ?_; conv => whnf)
   repeat' ((with_reducible refine way ?_ ?_) <;> (intro h; conv => whnf))
   all_goals try (exfalso; omega)
   all_goals (rw [hw]; exact yr [1, 3, 4, 5] 1 (by simp [hH]) (by simp) rfl rfl (ih () trivial))
theorem yie (n : Int) (u : ByteArray) (den : Int) (ps : List Piece) (k0 k1 : Ex) : zx Tryz.prog G 120 [(Ex.mk 8 n u den ps [k0, k1]).sv] (sB (zak 8 u k0 k1 2 (decide (k1.unit = k0.unit)))) := by
 have hrows := zp [k0, k1]
 have hlen : (zc [k0, k1]).length = 2 := by rw [hrows]; rfl
 have h0 : (zc [k0, k1])[0]? = some k0.cells := by rw [hrows]; rfl
 have h1 : (zc [k0, k1])[1]? = some k1.cells := by rw [hrows]; rfl
 have hkl : [k0, k1].length = 2 := rfl
 generalize [k0, k1] = ks at hrows hlen h0 h1 hkl ⊢
 refine zd Tryz.func120 rfl (by rw [Tryz.ntmps120]; simp) rfl rfl ?_; intro E hH hK
 obtain ⟨o0, n0, u0, d0, p0, q0⟩ := k0
 obtain ⟨o1, n1, u1, d1, p1, q1⟩ := k1
 replace hK : ∀ H', E.K (sB (decide (u = tT) && decide (u0 = u1))) H' := by
  intro H'
  have := hK H'
  rw [yvi] at this
  exact this
 (refine zi ?_; conv => whnf)
 refine zh rfl rfl  (row := (Ex.mk o0 n0 u0 d0 p0 q0).cells) h0 ?_
 (refine zj ?_; conv => whnf)
 refine zh rfl rfl  (row := (Ex.mk o1 n1 u1 d1 p1 q1).cells) h1 ?_
 (refine zj ?_; conv => whnf)
 refine zg [1, 3, 4, 5] ?_
 refine zq ks (fun i (_ : Unit) => [(1, .ptr 0 0), (3, sS u0), (4, sS u1), (5, sI i)]) (fun _ _ => [.cells [sI 8, sI n, sS u, sI den, .imm (.isl 3 (ps.map Piece.cells)), .imm (.isl 6 (zc ks))]])
  (fun _ _ _ => True) () trivial ?_ ?_
 ·as_aux_lemma =>
   rintro _ _
   (refine zi ?_; conv => whnf)
   repeat' ((with_reducible refine way ?_ ?_) <;> (intro h; conv => whnf))
   all_goals try (exfalso; omega)
   all_goals exact kB hK (by simp [tT, tN, *])
 ·as_aux_lemma =>
   rintro done k rest _ ha hl _ ih
   have hw := zm (n := done.length) (by omega)
   (refine zi ?_; conv => whnf)
   repeat' ((with_reducible refine way ?_ ?_) <;> (intro h; conv => whnf))
   all_goals try (exfalso; omega)
   all_goals (rw [hw]; exact yr [1, 3, 4, 5] 1 (by simp [hH]) (by simp) rfl rfl (ih () trivial))
theorem yif (n : Int) (u : ByteArray) (den : Int) (ps : List Piece) (k0 k1 : Ex) : zx Tryz.prog G 120 [(Ex.mk 9 n u den ps [k0, k1]).sv] (sB (zak 9 u k0 k1 2 (decide (k1.unit = k0.unit)))) := by
 have hrows := zp [k0, k1]
 have hlen : (zc [k0, k1]).length = 2 := by rw [hrows]; rfl
 have h0 : (zc [k0, k1])[0]? = some k0.cells := by rw [hrows]; rfl
 have h1 : (zc [k0, k1])[1]? = some k1.cells := by rw [hrows]; rfl
 have hkl : [k0, k1].length = 2 := rfl
 generalize [k0, k1] = ks at hrows hlen h0 h1 hkl ⊢
 refine zd Tryz.func120 rfl (by rw [Tryz.ntmps120]; simp) rfl rfl ?_; intro E hH hK
 obtain ⟨o0, n0, u0, d0, p0, q0⟩ := k0
 obtain ⟨o1, n1, u1, d1, p1, q1⟩ := k1
 replace hK : ∀ H', E.K (sB (decide (u = tT) && decide (u0 = u1) && !decide (u0 = tT))) H' := by
  intro H'
  have := hK H'
  rw [yvj] at this
  exact this
 (refine zi ?_; conv => whnf)
 refine zh rfl rfl  (row := (Ex.mk o0 n0 u0 d0 p0 q0).cells) h0 ?_
 (refine zj ?_; conv => whnf)
 refine zh rfl rfl  (row := (Ex.mk o1 n1 u1 d1 p1 q1).cells) h1 ?_
 (refine zj ?_; conv => whnf)
 refine zg [1, 3, 4, 5] ?_
 refine zq ks (fun i (_ : Unit) => [(1, .ptr 0 0), (3, sS u0), (4, sS u1), (5, sI i)]) (fun _ _ => [.cells [sI 9, sI n, sS u, sI den, .imm (.isl 3 (ps.map Piece.cells)), .imm (.isl 6 (zc ks))]])
  (fun _ _ _ => True) () trivial ?_ ?_
 ·as_aux_lemma =>
   rintro _ _
   (refine zi ?_; conv => whnf)
   repeat' ((with_reducible refine way ?_ ?_) <;> (intro h; conv => whnf))
   all_goals try (exfalso; omega)
   all_goals exact kB hK (by simp [tT, tN, *])
 ·as_aux_lemma =>
   rintro done k rest _ ha hl _ ih
   have hw := zm (n := done.length) (by omega)
   (refine zi ?_; conv => whnf)
   repeat' ((with_reducible refine way ?_ ?_) <;> (intro h; conv => whnf))
   all_goals try (exfalso; omega)
   all_goals (rw [hw]; exact yr [1, 3, 4, 5] 1 (by simp [hH]) (by simp) rfl rfl (ih () trivial))
theorem ycj (n : Int) (u : ByteArray) (den : Int) (ps : List Piece) (k0 k1 : Ex) : zx Tryz.prog G 120 [(Ex.mk 10 n u den ps [k0, k1]).sv] (sB (zak 10 u k0 k1 2 (decide (k1.unit = k0.unit)))) := by
 have hrows := zp [k0, k1]
 have hlen : (zc [k0, k1]).length = 2 := by rw [hrows]; rfl
 have h0 : (zc [k0, k1])[0]? = some k0.cells := by rw [hrows]; rfl
 have h1 : (zc [k0, k1])[1]? = some k1.cells := by rw [hrows]; rfl
 have hkl : [k0, k1].length = 2 := rfl
 generalize [k0, k1] = ks at hrows hlen h0 h1 hkl ⊢
 refine zd Tryz.func120 rfl (by rw [Tryz.ntmps120]; simp) rfl rfl ?_; intro E hH hK
 obtain ⟨o0, n0, u0, d0, p0, q0⟩ := k0
 obtain ⟨o1, n1, u1, d1, p1, q1⟩ := k1
 replace hK : ∀ H', E.K (sB (decide (u = tT) && decide (u0 = u1) && !decide (u0 = tT))) H' := by
  intro H'
  have := hK H'
  rw [ytz] at this
  exact this
 (refine zi ?_; conv => whnf)
 refine zh rfl rfl  (row := (Ex.mk o0 n0 u0 d0 p0 q0).cells) h0 ?_
 (refine zj ?_; conv => whnf)
 refine zh rfl rfl  (row := (Ex.mk o1 n1 u1 d1 p1 q1).cells) h1 ?_
 (refine zj ?_; conv => whnf)
 refine zg [1, 3, 4, 5] ?_
 refine zq ks (fun i (_ : Unit) => [(1, .ptr 0 0), (3, sS u0), (4, sS u1), (5, sI i)]) (fun _ _ => [.cells [sI 10, sI n, sS u, sI den, .imm (.isl 3 (ps.map Piece.cells)), .imm (.isl 6 (zc ks))]])
  (fun _ _ _ => True) () trivial ?_ ?_
 ·as_aux_lemma =>
   rintro _ _
   (refine zi ?_; conv => whnf)
   repeat' ((with_reducible refine way ?_ ?_) <;> (intro h; conv => whnf))
   all_goals try (exfalso; omega)
   all_goals exact kB hK (by simp [tT, tN, *])
 ·as_aux_lemma =>
   rintro done k rest _ ha hl _ ih
   have hw := zm (n := done.length) (by omega)
   (refine zi ?_; conv => whnf)
   repeat' ((with_reducible refine way ?_ ?_) <;> (intro h; conv => whnf))
   all_goals try (exfalso; omega)
   all_goals (rw [hw]; exact yr [1, 3, 4, 5] 1 (by simp [hH]) (by simp) rfl rfl (ih () trivial))
theorem yck (n : Int) (u : ByteArray) (den : Int) (ps : List Piece) (k0 k1 : Ex) : zx Tryz.prog G 120 [(Ex.mk 11 n u den ps [k0, k1]).sv] (sB (zak 11 u k0 k1 2 (decide (k1.unit = k0.unit)))) := by
 have hrows := zp [k0, k1]
 have hlen : (zc [k0, k1]).length = 2 := by rw [hrows]; rfl
 have h0 : (zc [k0, k1])[0]? = some k0.cells := by rw [hrows]; rfl
 have h1 : (zc [k0, k1])[1]? = some k1.cells := by rw [hrows]; rfl
 have hkl : [k0, k1].length = 2 := rfl
 generalize [k0, k1] = ks at hrows hlen h0 h1 hkl ⊢
 refine zd Tryz.func120 rfl (by rw [Tryz.ntmps120]; simp) rfl rfl ?_; intro E hH hK
 obtain ⟨o0, n0, u0, d0, p0, q0⟩ := k0
 obtain ⟨o1, n1, u1, d1, p1, q1⟩ := k1
 replace hK : ∀ H', E.K (sB (decide (u = u0) && decide (u0 = u1) && !decide (u0 = tT))) H' := by
  intro H'
  have := hK H'
  rw [yua] at this
  exact this
 (refine zi ?_; conv => whnf)
 refine zh rfl rfl  (row := (Ex.mk o0 n0 u0 d0 p0 q0).cells) h0 ?_
 (refine zj ?_; conv => whnf)
 refine zh rfl rfl  (row := (Ex.mk o1 n1 u1 d1 p1 q1).cells) h1 ?_
 (refine zj ?_; conv => whnf)
 refine zg [1, 3, 4, 5] ?_
 refine zq ks (fun i (_ : Unit) => [(1, .ptr 0 0), (3, sS u0), (4, sS u1), (5, sI i)]) (fun _ _ => [.cells [sI 11, sI n, sS u, sI den, .imm (.isl 3 (ps.map Piece.cells)), .imm (.isl 6 (zc ks))]])
  (fun _ _ _ => True) () trivial ?_ ?_
 ·as_aux_lemma =>
   rintro _ _
   (refine zi ?_; conv => whnf)
   repeat' ((with_reducible refine way ?_ ?_) <;> (intro h; conv => whnf))
   all_goals try (exfalso; omega)
   all_goals exact kB hK (by simp [tT, tN, *])
 ·as_aux_lemma =>
   rintro done k rest _ ha hl _ ih
   have hw := zm (n := done.length) (by omega)
   (refine zi ?_; conv => whnf)
   repeat' ((with_reducible refine way ?_ ?_) <;> (intro h; conv => whnf))
   all_goals try (exfalso; omega)
   all_goals (rw [hw]; exact yr [1, 3, 4, 5] 1 (by simp [hH]) (by simp) rfl rfl (ih () trivial))
theorem ycl (n : Int) (u : ByteArray) (den : Int) (ps : List Piece) (k0 k1 : Ex) : zx Tryz.prog G 120 [(Ex.mk 12 n u den ps [k0, k1]).sv] (sB (zak 12 u k0 k1 2 (decide (k1.unit = k0.unit)))) := by
 have hrows := zp [k0, k1]
 have hlen : (zc [k0, k1]).length = 2 := by rw [hrows]; rfl
 have h0 : (zc [k0, k1])[0]? = some k0.cells := by rw [hrows]; rfl
 have h1 : (zc [k0, k1])[1]? = some k1.cells := by rw [hrows]; rfl
 have hkl : [k0, k1].length = 2 := rfl
 generalize [k0, k1] = ks at hrows hlen h0 h1 hkl ⊢
 refine zd Tryz.func120 rfl (by rw [Tryz.ntmps120]; simp) rfl rfl ?_; intro E hH hK
 obtain ⟨o0, n0, u0, d0, p0, q0⟩ := k0
 obtain ⟨o1, n1, u1, d1, p1, q1⟩ := k1
 replace hK : ∀ H', E.K (sB (decide (u = u0) && decide (u0 = u1) && !decide (u0 = tT))) H' := by
  intro H'
  have := hK H'
  rw [yub] at this
  exact this
 (refine zi ?_; conv => whnf)
 refine zh rfl rfl  (row := (Ex.mk o0 n0 u0 d0 p0 q0).cells) h0 ?_
 (refine zj ?_; conv => whnf)
 refine zh rfl rfl  (row := (Ex.mk o1 n1 u1 d1 p1 q1).cells) h1 ?_
 (refine zj ?_; conv => whnf)
 refine zg [1, 3, 4, 5] ?_
 refine zq ks (fun i (_ : Unit) => [(1, .ptr 0 0), (3, sS u0), (4, sS u1), (5, sI i)]) (fun _ _ => [.cells [sI 12, sI n, sS u, sI den, .imm (.isl 3 (ps.map Piece.cells)), .imm (.isl 6 (zc ks))]])
  (fun _ _ _ => True) () trivial ?_ ?_
 ·as_aux_lemma =>
   rintro _ _
   (refine zi ?_; conv => whnf)
   repeat' ((with_reducible refine way ?_ ?_) <;> (intro h; conv => whnf))
   all_goals try (exfalso; omega)
   all_goals exact kB hK (by simp [tT, tN, *])
 ·as_aux_lemma =>
   rintro done k rest _ ha hl _ ih
   have hw := zm (n := done.length) (by omega)
   (refine zi ?_; conv => whnf)
   repeat' ((with_reducible refine way ?_ ?_) <;> (intro h; conv => whnf))
   all_goals try (exfalso; omega)
   all_goals (rw [hw]; exact yr [1, 3, 4, 5] 1 (by simp [hH]) (by simp) rfl rfl (ih () trivial))
theorem ycm (n : Int) (u : ByteArray) (den : Int) (ps : List Piece) (k0 k1 : Ex) : zx Tryz.prog G 120 [(Ex.mk 13 n u den ps [k0, k1]).sv] (sB (zak 13 u k0 k1 2 (decide (k1.unit = k0.unit)))) := by
 have hrows := zp [k0, k1]
 have hlen : (zc [k0, k1]).length = 2 := by rw [hrows]; rfl
 have h0 : (zc [k0, k1])[0]? = some k0.cells := by rw [hrows]; rfl
 have h1 : (zc [k0, k1])[1]? = some k1.cells := by rw [hrows]; rfl
 have hkl : [k0, k1].length = 2 := rfl
 generalize [k0, k1] = ks at hrows hlen h0 h1 hkl ⊢
 refine zd Tryz.func120 rfl (by rw [Tryz.ntmps120]; simp) rfl rfl ?_; intro E hH hK
 obtain ⟨o0, n0, u0, d0, p0, q0⟩ := k0
 obtain ⟨o1, n1, u1, d1, p1, q1⟩ := k1
 replace hK : ∀ H', E.K (sB (!decide (u0 = tT) && !decide (u1 = tT) && ((decide (u0 = tN) && decide (u = u1)) || (decide (u1 = tN) && decide (u = u0))))) H' := by
  intro H'
  have := hK H'
  rw [yuc] at this
  exact this
 (refine zi ?_; conv => whnf)
 refine zh rfl rfl  (row := (Ex.mk o0 n0 u0 d0 p0 q0).cells) h0 ?_
 (refine zj ?_; conv => whnf)
 refine zh rfl rfl  (row := (Ex.mk o1 n1 u1 d1 p1 q1).cells) h1 ?_
 (refine zj ?_; conv => whnf)
 refine zg [1, 3, 4, 5] ?_
 refine zq ks (fun i (_ : Unit) => [(1, .ptr 0 0), (3, sS u0), (4, sS u1), (5, sI i)]) (fun _ _ => [.cells [sI 13, sI n, sS u, sI den, .imm (.isl 3 (ps.map Piece.cells)), .imm (.isl 6 (zc ks))]])
  (fun _ _ _ => True) () trivial ?_ ?_
 ·as_aux_lemma =>
   rintro _ _
   (refine zi ?_; conv => whnf)
   repeat' ((with_reducible refine way ?_ ?_) <;> (intro h; conv => whnf))
   all_goals try (exfalso; omega)
   all_goals exact kB hK (by simp [tT, tN, *])
 ·as_aux_lemma =>
   rintro done k rest _ ha hl _ ih
   have hw := zm (n := done.length) (by omega)
   (refine zi ?_; conv => whnf)
   repeat' ((with_reducible refine way ?_ ?_) <;> (intro h; conv => whnf))
   all_goals try (exfalso; omega)
   all_goals (rw [hw]; exact yr [1, 3, 4, 5] 1 (by simp [hH]) (by simp) rfl rfl (ih () trivial))
theorem ycn (n : Int) (u : ByteArray) (den : Int) (ps : List Piece) (k0 k1 : Ex) : zx Tryz.prog G 120 [(Ex.mk 14 n u den ps [k0, k1]).sv] (sB (zak 14 u k0 k1 2 (decide (k1.unit = k0.unit)))) := by
 have hrows := zp [k0, k1]
 have hlen : (zc [k0, k1]).length = 2 := by rw [hrows]; rfl
 have h0 : (zc [k0, k1])[0]? = some k0.cells := by rw [hrows]; rfl
 have h1 : (zc [k0, k1])[1]? = some k1.cells := by rw [hrows]; rfl
 have hkl : [k0, k1].length = 2 := rfl
 generalize [k0, k1] = ks at hrows hlen h0 h1 hkl ⊢
 refine zd Tryz.func120 rfl (by rw [Tryz.ntmps120]; simp) rfl rfl ?_; intro E hH hK
 obtain ⟨o0, n0, u0, d0, p0, q0⟩ := k0
 obtain ⟨o1, n1, u1, d1, p1, q1⟩ := k1
 replace hK : ∀ H', E.K (sB (decide (u = u0) && !decide (u0 = tT) && decide (o1 = 1) && decide (u1 = tN) && decide (1 <= n1) && decide (n1 <= 1000000))) H' := by
  intro H'
  have := hK H'
  rw [yud] at this
  exact this
 (refine zi ?_; conv => whnf)
 refine zh rfl rfl  (row := (Ex.mk o0 n0 u0 d0 p0 q0).cells) h0 ?_
 (refine zj ?_; conv => whnf)
 refine zh rfl rfl  (row := (Ex.mk o1 n1 u1 d1 p1 q1).cells) h1 ?_
 (refine zj ?_; conv => whnf)
 refine zg [1, 3, 4, 5] ?_
 refine zq ks (fun i (_ : Unit) => [(1, .ptr 0 0), (3, sS u0), (4, sS u1), (5, sI i)]) (fun _ _ => [.cells [sI 14, sI n, sS u, sI den, .imm (.isl 3 (ps.map Piece.cells)), .imm (.isl 6 (zc ks))]])
  (fun _ _ _ => True) () trivial ?_ ?_
 ·as_aux_lemma =>
   rintro _ _
   (refine zi ?_; conv => whnf)
   repeat' ((with_reducible refine way ?_ ?_) <;> (intro h; conv => whnf))
   all_goals try (exfalso; omega)
   all_goals try exact kB hK (by simp [tT, *]; done)
   refine zh rfl rfl  (row := (Ex.mk o1 n1 u1 d1 p1 q1).cells) h1 ?_
   (refine zj ?_; conv => whnf)
   repeat' ((with_reducible refine way ?_ ?_) <;> (intro h; conv => whnf))
   all_goals try exact kB hK (by simp [tT, *]; done)
   refine zh rfl rfl  (row := (Ex.mk o1 n1 u1 d1 p1 q1).cells) h1 ?_
   (refine zj ?_; conv => whnf)
   repeat' ((with_reducible refine way ?_ ?_) <;> (intro h; conv => whnf))
   all_goals try exact kB hK (by simp [tT, *]; done)
   refine zh rfl rfl  (row := (Ex.mk o1 n1 u1 d1 p1 q1).cells) h1 ?_
   (refine zj ?_; conv => whnf)
   repeat' ((with_reducible refine way ?_ ?_) <;> (intro h; conv => whnf))
   all_goals exact kB hK (by simp [tT, *])
 ·as_aux_lemma =>
   rintro done k rest _ ha hl _ ih
   have hw := zm (n := done.length) (by omega)
   (refine zi ?_; conv => whnf)
   repeat' ((with_reducible refine way ?_ ?_) <;> (intro h; conv => whnf))
   all_goals try (exfalso; omega)
   all_goals (rw [hw]; exact yr [1, 3, 4, 5] 1 (by simp [hH]) (by simp) rfl rfl (ih () trivial))
theorem yco (n : Int) (u : ByteArray) (den : Int) (ps : List Piece) (k0 k1 : Ex) : zx Tryz.prog G 120 [(Ex.mk 15 n u den ps [k0, k1]).sv] (sB (zak 15 u k0 k1 2 (decide (k1.unit = k0.unit)))) := by
 have hrows := zp [k0, k1]
 have hlen : (zc [k0, k1]).length = 2 := by rw [hrows]; rfl
 have h0 : (zc [k0, k1])[0]? = some k0.cells := by rw [hrows]; rfl
 have h1 : (zc [k0, k1])[1]? = some k1.cells := by rw [hrows]; rfl
 have hkl : [k0, k1].length = 2 := rfl
 generalize [k0, k1] = ks at hrows hlen h0 h1 hkl ⊢
 refine zd Tryz.func120 rfl (by rw [Tryz.ntmps120]; simp) rfl rfl ?_; intro E hH hK
 obtain ⟨o0, n0, u0, d0, p0, q0⟩ := k0
 obtain ⟨o1, n1, u1, d1, p1, q1⟩ := k1
 replace hK : ∀ H', E.K (sB (decide (u0 = tM) && zeo u1 && decide (u = u1))) H' := by
  intro H'
  have := hK H'
  rw [yue] at this
  exact this
 (refine zi ?_; conv => whnf)
 refine zh rfl rfl  (row := (Ex.mk o0 n0 u0 d0 p0 q0).cells) h0 ?_
 (refine zj ?_; conv => whnf)
 refine zh rfl rfl  (row := (Ex.mk o1 n1 u1 d1 p1 q1).cells) h1 ?_
 (refine zj ?_; conv => whnf)
 refine zg [1, 3, 4, 5] ?_
 refine zq ks (fun i (_ : Unit) => [(1, .ptr 0 0), (3, sS u0), (4, sS u1), (5, sI i)]) (fun _ _ => [.cells [sI 15, sI n, sS u, sI den, .imm (.isl 3 (ps.map Piece.cells)), .imm (.isl 6 (zc ks))]])
  (fun _ _ _ => True) () trivial ?_ ?_
 ·as_aux_lemma =>
   rintro _ _
   (refine zi ?_; conv => whnf)
   repeat' ((with_reducible refine way ?_ ?_) <;> (intro h; conv => whnf))
   all_goals try (exfalso; omega)
   all_goals try exact kB hK (by simp [tM, *]; done)
   refine ze rfl  (zvi G u1) ?_
   (refine zj ?_; conv => whnf)
   repeat' ((with_reducible refine way ?_ ?_) <;> (intro h; conv => whnf))
   all_goals exact kB hK (by simp [tM, *])
 ·as_aux_lemma =>
   rintro done k rest _ ha hl _ ih
   have hw := zm (n := done.length) (by omega)
   (refine zi ?_; conv => whnf)
   repeat' ((with_reducible refine way ?_ ?_) <;> (intro h; conv => whnf))
   all_goals try (exfalso; omega)
   all_goals (rw [hw]; exact yr [1, 3, 4, 5] 1 (by simp [hH]) (by simp) rfl rfl (ih () trivial))
theorem zwp (op n : Int) (u : ByteArray) (den : Int) (ps : List Piece) (k0 k1 : Ex) (hc : op < 6 \/ 17 < op) : zx Tryz.prog G 120 [(Ex.mk op n u den ps [k0, k1]).sv] (sB (zak op u k0 k1 2 (decide (k1.unit = k0.unit)))) := by
 have hrows := zp [k0, k1]
 have hlen : (zc [k0, k1]).length = 2 := by rw [hrows]; rfl
 have h0 : (zc [k0, k1])[0]? = some k0.cells := by rw [hrows]; rfl
 have h1 : (zc [k0, k1])[1]? = some k1.cells := by rw [hrows]; rfl
 have hkl : [k0, k1].length = 2 := rfl
 generalize [k0, k1] = ks at hrows hlen h0 h1 hkl ⊢
 refine zd Tryz.func120 rfl (by rw [Tryz.ntmps120]; simp) rfl rfl ?_; intro E hH hK
 obtain ⟨o0, n0, u0, d0, p0, q0⟩ := k0
 obtain ⟨o1, n1, u1, d1, p1, q1⟩ := k1
 rw [ypk _ _ _ _ _ hc] at hK
 (refine zi ?_; conv => whnf)
 refine zh rfl rfl  (row := (Ex.mk o0 n0 u0 d0 p0 q0).cells) h0 ?_
 (refine zj ?_; conv => whnf)
 refine zh rfl rfl  (row := (Ex.mk o1 n1 u1 d1 p1 q1).cells) h1 ?_
 (refine zj ?_; conv => whnf)
 refine zg [1, 3, 4, 5] ?_
 refine zq ks (fun i (_ : Unit) => [(1, .ptr 0 0), (3, sS u0), (4, sS u1), (5, sI i)]) (fun _ _ => [.cells [sI op, sI n, sS u, sI den, .imm (.isl 3 (ps.map Piece.cells)), .imm (.isl 6 (zc ks))]])
  (fun _ _ _ => True) () trivial ?_ ?_
 ·as_aux_lemma =>
   rintro _ _
   (refine zi ?_; conv => whnf)
   repeat' ((with_reducible refine way ?_ ?_) <;> (intro h; conv => whnf))
   all_goals try (exfalso; omega)
   all_goals exact hK _
 ·as_aux_lemma =>
   rintro done k rest _ ha hl _ ih
   have hw := zm (n := done.length) (by omega)
   (refine zi ?_; conv => whnf)
   repeat' ((with_reducible refine way ?_ ?_) <;> (intro h; conv => whnf))
   all_goals try (exfalso; omega)
   all_goals (rw [hw]; exact yr [1, 3, 4, 5] 1 (by simp [hH]) (by simp) rfl rfl (ih () trivial))
theorem zwq (op n : Int) (u : ByteArray) (den : Int) (ps : List Piece) (k0 k1 k2 : Ex) (kr : List Ex) (hsz : kr.length <= 100000) (hop : ¬ (op = 16 \/ op = 17)) :
  zx Tryz.prog G 120 [(Ex.mk op n u den ps (k0 :: k1 :: k2 :: kr)).sv] (sB false) := by
 have hrows := zp (k0 :: k1 :: k2 :: kr)
 have hlen : (zc (k0 :: k1 :: k2 :: kr)).length = kr.length + 3 := by rw [hrows]; simp
 have h0 : (zc (k0 :: k1 :: k2 :: kr))[0]? = some k0.cells := by rw [hrows]; rfl
 have h1 : (zc (k0 :: k1 :: k2 :: kr))[1]? = some k1.cells := by rw [hrows]; rfl
 have hkl : (k0 :: k1 :: k2 :: kr).length = kr.length + 3 := by simp
 generalize k0 :: k1 :: k2 :: kr = ks at hrows hlen h0 h1 hkl ⊢
 refine zd Tryz.func120 rfl (by rw [Tryz.ntmps120]; simp) rfl rfl ?_; intro E hH hK
 obtain ⟨o0, n0, u0, d0, p0, q0⟩ := k0
 obtain ⟨o1, n1, u1, d1, p1, q1⟩ := k1
 (refine zi ?_; conv => whnf)
 refine zh rfl rfl  (row := (Ex.mk o0 n0 u0 d0 p0 q0).cells) h0 ?_
 (refine zj ?_; conv => whnf)
 refine zh rfl rfl  (row := (Ex.mk o1 n1 u1 d1 p1 q1).cells) h1 ?_
 (refine zj ?_; conv => whnf)
 refine zg [1, 3, 4, 5] ?_
 refine zq ks (fun i (_ : Unit) => [(1, .ptr 0 0), (3, sS u0), (4, sS u1), (5, sI i)]) (fun _ _ => [.cells [sI op, sI n, sS u, sI den, .imm (.isl 3 (ps.map Piece.cells)), .imm (.isl 6 (zc ks))]])
  (fun _ _ _ => True) () trivial ?_ ?_
 ·as_aux_lemma =>
   rintro _ _
   (refine zi ?_; conv => whnf)
   repeat' ((with_reducible refine way ?_ ?_) <;> (intro h; conv => whnf))
   all_goals try (exfalso; omega)
   all_goals exact hK _
 ·as_aux_lemma =>
   rintro done k rest _ ha hl _ ih
   have hw := zm (n := done.length) (by omega)
   (refine zi ?_; conv => whnf)
   repeat' ((with_reducible refine way ?_ ?_) <;> (intro h; conv => whnf))
   all_goals try (exfalso; omega)
   all_goals (rw [hw]; exact yr [1, 3, 4, 5] 1 (by simp [hH]) (by simp) rfl rfl (ih () trivial))
theorem zwr (op n : Int) (u : ByteArray) (den : Int) (ps : List Piece) (k0 k1 : Ex) (kr : List Ex) (hsz : kr.length <= 100000) (hop : op = 16 \/ op = 17) :
  zx Tryz.prog G 120 [(Ex.mk op n u den ps (k0 :: k1 :: kr)).sv] (sB (zbp (k0 :: k1 :: kr) && (!decide (k0.unit = tT) && decide (u = k0.unit)))) := by
 have hrows := zp (k0 :: k1 :: kr)
 have hlen : (zc (k0 :: k1 :: kr)).length = kr.length + 2 := by rw [hrows]; simp
 have h0 : (zc (k0 :: k1 :: kr))[0]? = some k0.cells := by rw [hrows]; rfl
 have h1 : (zc (k0 :: k1 :: kr))[1]? = some k1.cells := by rw [hrows]; rfl
 have hkl : (k0 :: k1 :: kr).length = kr.length + 2 := by simp
 have hsm : zbp (k0 :: k1 :: kr) = (k0 :: k1 :: kr).all fun x => decide (x.unit = k0.unit) := rfl
 generalize k0 :: k1 :: kr = ks at hrows hlen h0 h1 hkl hsm ⊢
 refine zd Tryz.func120 rfl (by rw [Tryz.ntmps120]; simp) rfl rfl ?_; intro E hH hK
 obtain ⟨o0, n0, u0, d0, p0, q0⟩ := k0
 obtain ⟨o1, n1, u1, d1, p1, q1⟩ := k1
 replace hK : ∀ H', E.K (sB (zbp ks && (!decide (u0 = tT) && decide (u = u0)))) H' := hK
 (refine zi ?_; conv => whnf)
 refine zh rfl rfl  (row := (Ex.mk o0 n0 u0 d0 p0 q0).cells) h0 ?_
 (refine zj ?_; conv => whnf)
 refine zh rfl rfl  (row := (Ex.mk o1 n1 u1 d1 p1 q1).cells) h1 ?_
 (refine zj ?_; conv => whnf)
 refine zg [1, 3, 4, 5] ?_
 refine zq ks (fun i (_ : Unit) => [(1, .ptr 0 0), (3, sS u0), (4, sS u1), (5, sI i)]) (fun _ _ => [.cells [sI op, sI n, sS u, sI den, .imm (.isl 3 (ps.map Piece.cells)), .imm (.isl 6 (zc ks))]])
  (fun done rest _ => zbp ks = rest.all fun x => decide (x.unit = u0)) () hsm ?_ ?_
 ·as_aux_lemma =>
   rintro _ hs
   have hs' : zbp ks = true := by rw [hs]; rfl
   rw [hs', Bool.true_and] at hK
   (refine zi ?_; conv => whnf)
   repeat' ((with_reducible refine way ?_ ?_) <;> (intro h; conv => whnf))
   all_goals try (exfalso; omega)
   all_goals exact kB hK (by simp [tT, *])
 ·as_aux_lemma =>
   rintro done k rest _ ha hl hs ih
   have hw := zm (n := done.length) (by omega)
   have hrow : (zc ks)[((done.length : Nat) : Int).toNat]? = some k.cells := by rw [hrows]; simp [ha]
   obtain ⟨o2, n2, u2, d2, p2, q2⟩ := k
   have hs' : zbp ks = (decide (u2 = u0) && rest.all fun x => decide (x.unit = u0)) := hs
   have hbad : ¬ u2 = u0 -> (zbp ks && (!decide (u0 = tT) && decide (u = u0))) = false := fun h => by rw [hs', decide_eq_false h]; rfl
   (refine zi ?_; conv => whnf)
   repeat' ((with_reducible refine way ?_ ?_) <;> (intro h; conv => whnf))
   all_goals try (exfalso; omega)
   all_goals refine zh rfl rfl  (row := (Ex.mk o2 n2 u2 d2 p2 q2).cells) hrow ?_
   all_goals (refine zj ?_; conv => whnf)
   all_goals repeat' ((with_reducible refine way ?_ ?_) <;> (intro h; conv => whnf))
   all_goals first
    | exact kB hK (hbad (by assumption))
    | (rw [hw]; exact yr [1, 3, 4, 5] 1 (by simp [hH]) (by simp) rfl rfl (ih () (by rw [hs', decide_eq_true (by assumption)]; rfl)))
theorem ync (op n : Int) (u : ByteArray) (den : Int) (ps : List Piece) (k0 k1 : Ex) (kr : List Ex) (hsz : kr.length <= 100000) :
  zx Tryz.prog G 120 [(Ex.mk op n u den ps (k0 :: k1 :: kr)).sv] (sB (zak op u k0 (((k0 :: k1 :: kr).getLast?).getD k0) (k0 :: k1 :: kr).length (zbp (k0 :: k1 :: kr)))) := by
 by_cases hop : op = 16 \/ op = 17
 ·have := zwr G op n u den ps k0 k1 kr hsz hop
  cases hs : zbp (k0 :: k1 :: kr) with
  | true =>
   rw [hs, Bool.true_and] at this
   have h2 : (2 : Int) <= ((k0 :: k1 :: kr).length : Nat) := by simp; omega
   rcases hop with rfl | rfl
   ·rw [ytx _ _ _ _ h2]; exact this
   ·rw [yty _ _ _ _ h2]; exact this
  | false =>
   rw [hs, Bool.false_and] at this
   have e : zak op u k0 (((k0 :: k1 :: kr).getLast?).getD k0) (k0 :: k1 :: kr).length false = false := by
    rcases hop with rfl | rfl <;> simp [zak]
   rw [e]; exact this
 ·cases kr with
  | cons k2 kr =>
   have e : zak op u k0 (((k0 :: k1 :: k2 :: kr).getLast?).getD k0) (k0 :: k1 :: k2 :: kr).length (zbp (k0 :: k1 :: k2 :: kr)) = false := by
    simp only [zak, if_neg hop]
    rw [decide_eq_false (p := (((k0 :: k1 :: k2 :: kr).length : Nat) : Int) = 2) (by simp; omega), decide_eq_false (p := (((k0 :: k1 :: k2 :: kr).length : Nat) : Int) = 1) (by simp; omega)]
    simp
   rw [e]
   exact zwq G op n u den ps k0 k1 k2 kr (by simp at hsz; omega) hop
  | nil =>
   have e1 : ([k0, k1].getLast?).getD k0 = k1 := rfl
   have e2 : (([k0, k1].length : Nat) : Int) = 2 := rfl
   have e3 : zbp [k0, k1] = decide (k1.unit = k0.unit) := by simp [zbp]
   rw [e1, e2, e3]
   have hc : op = 6 \/ op = 7 \/ op = 8 \/ op = 9 \/ op = 10 \/ op = 11 \/ op = 12 \/ op = 13 \/ op = 14 \/ op = 15 \/ (op < 6 \/ 17 < op) := by omega
   rcases hc with rfl | rfl | rfl | rfl | rfl | rfl | rfl | rfl | rfl | rfl | hc
   ·exact yic G n u den ps k0 k1
   ·exact yid G n u den ps k0 k1
   ·exact yie G n u den ps k0 k1
   ·exact yif G n u den ps k0 k1
   ·exact ycj G n u den ps k0 k1
   ·exact yck G n u den ps k0 k1
   ·exact ycl G n u den ps k0 k1
   ·exact ycm G n u den ps k0 k1
   ·exact ycn G n u den ps k0 k1
   ·exact yco G n u den ps k0 k1
   ·exact zwp G op n u den ps k0 k1 hc
def zhk (c : Codex) (op n : Int) (u : ByteArray) (den : Int) (ps : List Piece) (ks : List Ex) : Bool :=
 if op = 18 then decide (n = 0) && decide (ks.length = 1) && zeo u && (match ks with | k :: _ => decide (u = k.unit) | [] => false) && jv den ps
 else if ¬ den = 0 \/ 0 < ps.length then false
 else if 1 <= op /\ op <= 4 then decide (ks.length = 0) && zai c op n u
 else decide (n = 0) && (match ks.head?, ks.getLast? with | some f, some l => zak op u f l ks.length (zbp ks) | _, _ => false)
mutual
def zfd (c : Codex) : Ex -> Bool
 | .mk op n u den ps ks => znv c ks && zhk c op n u den ps ks
def znv (c : Codex) : List Ex -> Bool
 | [] => true
 | k :: r => zfd c k && znv c r
end
theorem yig (c : Codex) (ks : List Ex) : znv c ks = ks.all (zfd c) := by
 induction ks with
 | nil => rfl
 | cons k r ih => simp [znv, ih]
theorem zoo (c : Codex) (op n : Int) (u : ByteArray) (h : ¬ (1 <= op /\ op <= 4)) : zai c op n u = false := by
 simp only [zai]
 rw [if_neg (by omega), if_neg (by omega), if_neg (by omega), if_neg (by omega)]
theorem zzx (c : Codex) (op n : Int) (u : ByteArray) (den : Int) (ps : List Piece) :
  zhk c op n u den ps [] = if (¬ (1 <= op /\ op <= 4) /\ ¬ n = 0) \/ (¬ op = 18 /\ (¬ den = 0 \/ 0 < ps.length)) then false else zai c op n u := by
 simp only [zhk]
 by_cases h18 : op = 18
 ·subst h18
  rw [if_pos rfl, zoo c 18 n u (by omega)]
  simp
 ·rw [if_neg h18]
  by_cases hd : ¬ den = 0 \/ 0 < ps.length
  ·rw [if_pos hd, if_pos (.inr ⟨h18, hd⟩)]
  ·rw [if_neg hd]
   by_cases h4 : 1 <= op /\ op <= 4
   ·rw [if_pos h4, if_neg (by simp [h4, hd])]
    simp
   ·rw [if_neg h4, zoo c op n u h4]
    simp
theorem zzy (c : Codex) (op n : Int) (u : ByteArray) (den : Int) (ps : List Piece) (k : Ex) :
  zhk c op n u den ps [k] = if (¬ (1 <= op /\ op <= 4) /\ ¬ n = 0) \/ (¬ op = 18 /\ (¬ den = 0 \/ 0 < ps.length)) then false
   else (decide (op = 5) && decide (u = tT) && decide (k.unit = tT)) || (decide (op = 18) && decide (u = k.unit) && zeo u && jv den ps) := by
 simp only [zhk]
 by_cases h18 : op = 18
 ·subst h18
  rw [if_pos rfl]
  by_cases hn : n = 0
  ·rw [if_neg (by simp [hn])]
   simp [hn]
   cases zeo u <;> simp
  ·rw [if_pos (by left; exact ⟨by omega, hn⟩)]
   simp [hn]
 ·rw [if_neg h18]
  by_cases hd : ¬ den = 0 \/ 0 < ps.length
  ·rw [if_pos hd, if_pos (.inr ⟨h18, hd⟩)]
  ·rw [if_neg hd]
   by_cases h4 : 1 <= op /\ op <= 4
   ·rw [if_pos h4, if_neg (by simp [h4, hd])]
    have h5 : ¬ op = 5 := by omega
    simp [h18, h5]
   ·rw [if_neg h4]
    by_cases hn : n = 0
    ·rw [if_neg (by simp [hn, hd])]
     by_cases h5 : op = 5
     ·subst h5; simp [zak, hn]
     ·simp [zak, hn, h5, h18]
    ·rw [if_pos (.inl ⟨h4, hn⟩)]
     simp [hn]
theorem zum (c : Codex) (op n : Int) (u : ByteArray) (den : Int) (ps : List Piece) (k0 k1 : Ex) (kr : List Ex) :
  zhk c op n u den ps (k0 :: k1 :: kr) = if (¬ (1 <= op /\ op <= 4) /\ ¬ n = 0) \/ (¬ op = 18 /\ (¬ den = 0 \/ 0 < ps.length)) then false
   else zak op u k0 (((k0 :: k1 :: kr).getLast?).getD k0) (k0 :: k1 :: kr).length (zbp (k0 :: k1 :: kr)) := by
 have hno : op = 18 \/ (1 <= op /\ op <= 4) -> zak op u k0 (((k0 :: k1 :: kr).getLast?).getD k0) (k0 :: k1 :: kr).length (zbp (k0 :: k1 :: kr)) = false := fun h => by
  simp only [zak]
  rw [if_neg (by omega), if_neg (by omega), if_neg (by omega), if_neg (by omega), if_neg (by omega), if_neg (by omega), if_neg (by omega), if_neg (by omega), if_neg (by omega)]
 have hlast : ∃ l, (k0 :: k1 :: kr).getLast? = some l := ⟨_, List.getLast?_eq_some_getLast (by simp)⟩
 obtain ⟨l, hl⟩ := hlast
 simp only [zhk]
 by_cases h18 : op = 18
 ·rw [if_pos h18, hno (.inl h18)]
  simp
 ·rw [if_neg h18]
  by_cases hd : ¬ den = 0 \/ 0 < ps.length
  ·rw [if_pos hd, if_pos (.inr ⟨h18, hd⟩)]
  ·rw [if_neg hd]
   by_cases h4 : 1 <= op /\ op <= 4
   ·rw [if_pos h4, if_neg (by simp [h4, hd]), hno (.inr h4)]
    simp
   ·rw [if_neg h4]
    by_cases hn : n = 0
    ·rw [if_neg (by simp [hn, hd]), hl]
     simp [hn]
    ·rw [if_pos (.inl ⟨h4, hn⟩)]
     simp [hn]
theorem zzz (c : Codex) (hsz : c.arts.length <= 9223372036854775807) (N : Nat) : ∀ (e : Ex), SizeOf.sizeOf e < N -> xc e <= 1000 -> zx Tryz.prog G 84 [c.sv, e.sv] (sB (zfd c e)) := by
 induction N with
 | zero => intro e h; omega
 | succ N IH =>
 intro e he hs
 obtain ⟨op, n, u, den, ps, ks⟩ := e
 simp only [Ex.mk.sizeOf_spec] at he
 simp only [xc] at hs
 have hrows := zp ks
 have hlen : (zc ks).length = ks.length := by rw [hrows]; simp
 have hkl := zeb ks
 have hpl : (ps.map Piece.cells).length = ps.length := by simp
 have hfit : zfd c (.mk op n u den ps ks) = (ks.all (zfd c) && zhk c op n u den ps ks) := by simp only [zfd, yig]
 rw [hfit]
 refine zd Tryz.func84 rfl (by rw [Tryz.ntmps84]; simp) rfl rfl ?_; intro E hH hK
 (refine zi ?_; conv => whnf)
 refine zg [2, 3, 5] ?_
 refine zq ks (fun i (_ : Unit) => [(2, .ptr 0 0), (3, .ptr 1 0), (5, sI i)])
  (fun _ _ => [.cells [.imm (zk c.facts), .imm (zk c.lines), .imm (ys c.arts)], .cells [sI op, sI n, sS u, sI den, .imm (.isl 3 (ps.map Piece.cells)), .imm (.isl 6 (zc ks))]])
  (fun done rest _ => ks.all (zfd c) = rest.all (zfd c)) () rfl ?_ ?_
 ·as_aux_lemma =>
   rintro _ h1
   have hall : ks.all (zfd c) = true := by rw [h1]; rfl
   rw [hall, Bool.true_and] at hK
   clear IH h1 hfit
   by_cases hbad : (¬ (1 <= op /\ op <= 4) /\ ¬ n = 0) \/ (¬ op = 18 /\ (¬ den = 0 \/ 0 < ps.length))
   ·have hr : zhk c op n u den ps ks = false := by
     match ks with
     | [] => rw [zzx, if_pos hbad]
     | [k] => rw [zzy, if_pos hbad]
     | k0 :: k1 :: kr => rw [zum, if_pos hbad]
    rw [hr] at hK
    as_aux_lemma =>
     (refine zi ?_; conv => whnf)
     repeat' ((with_reducible refine way ?_ ?_) <;> (intro h; first | (exfalso; omega) | (conv => whnf)))
     all_goals try (exfalso; omega)
     all_goals exact hK _
   ·match ks with
    | [] =>
     rw [zzx, if_neg hbad] at hK
     as_aux_lemma =>
      (refine zi ?_; conv => whnf)
      repeat' ((with_reducible refine way ?_ ?_) <;> (intro h; first | (exfalso; omega) | (conv => whnf)))
      all_goals try (exfalso; omega)
      all_goals refine ze rfl  (zzw G c op n u den ps [] hsz) ?_
      all_goals (refine zj ?_; conv => whnf)
      all_goals exact hK _
    | [k] =>
     rw [zzy, if_neg hbad] at hK
     obtain ⟨o0, n0, u0, d0, p0, q0⟩ := k
     replace hK : ∀ H', E.K (sB ((decide (op = 5) && decide (u = tT) && decide (u0 = tT)) || (decide (op = 18) && decide (u = u0) && zeo u && jv den ps))) H' := hK
     have h0 : (zc [Ex.mk o0 n0 u0 d0 p0 q0])[0]? = some (Ex.mk o0 n0 u0 d0 p0 q0).cells := by rw [zp]; rfl
     have hlen1 : (zc [Ex.mk o0 n0 u0 d0 p0 q0]).length = 1 := by rw [zp]; rfl
     generalize zc [Ex.mk o0 n0 u0 d0 p0 q0] = rows at h0 hlen hlen1 ⊢
     by_cases h5 : op = 5
     ·subst h5
      replace hK : ∀ H', E.K (sB (decide (u = tT) && decide (u0 = tT))) H' := by simpa using hK
      as_aux_lemma =>
       (refine zi ?_; conv => whnf)
       repeat' ((with_reducible refine way ?_ ?_) <;> (intro h; first | (exfalso; omega) | (conv => whnf)))
       all_goals try (exfalso; omega)
       all_goals (refine yy mixed rfl ?_; refine zn [] ?_; conv => whnf)
       all_goals repeat' ((with_reducible refine way ?_ ?_) <;> (intro h; first | (exfalso; omega) | (conv => whnf)))
       all_goals try refine xw rfl rfl  (row := (Ex.mk o0 n0 u0 d0 p0 q0).cells) h0 ?_
       all_goals try (refine zn [] ?_; conv => whnf)
       all_goals try repeat' ((with_reducible refine way ?_ ?_) <;> (intro h; first | (exfalso; omega) | (conv => whnf)))
       all_goals try (refine zi ?_; conv => whnf)
       all_goals exact kB hK (by simp [tT, *])
     by_cases h18 : op = 18
     ·subst h18
      replace hK : ∀ H', E.K (sB (decide (u = u0) && zeo u && jv den ps)) H' := by simpa using hK
      as_aux_lemma =>
       (refine zi ?_; conv => whnf)
       repeat' ((with_reducible refine way ?_ ?_) <;> (intro h; first | (exfalso; omega) | (conv => whnf)))
       all_goals try (exfalso; omega)
       (refine yy mixed rfl ?_; refine zn [] ?_; conv => whnf)
       refine xw rfl rfl  (row := (Ex.mk o0 n0 u0 d0 p0 q0).cells) h0 ?_
       (refine zn [] ?_; conv => whnf)
       repeat' ((with_reducible refine way ?_ ?_) <;> (intro h; first | (exfalso; omega) | (conv => whnf)))
       ·refine zaj rfl  (zvi G u) ?_
        cases hc : zeo u with
        | false =>
         (refine zn [] ?_; conv => whnf)
         (refine zi ?_; conv => whnf)
         exact kB hK (by simp [hc])
        | true =>
         (refine zn [] ?_; conv => whnf)
         refine zaj rfl  (zvj G den ps) ?_
         (refine zn [] ?_; conv => whnf)
         (refine zi ?_; conv => whnf)
         exact kB hK (by rw [hc, decide_eq_true h]; rfl)
       ·(refine zi ?_; conv => whnf)
        exact kB hK (by rw [decide_eq_false h]; rfl)
     ·replace hK : ∀ H', E.K (sB false) H' := by simpa [h5, h18] using hK
      as_aux_lemma =>
       (refine zi ?_; conv => whnf)
       repeat' ((with_reducible refine way ?_ ?_) <;> (intro h; first | (exfalso; omega) | (conv => whnf)))
       all_goals try (exfalso; omega)
       all_goals (refine yy mixed rfl ?_; refine zn [] ?_; conv => whnf)
       all_goals repeat' ((with_reducible refine way ?_ ?_) <;> (intro h; first | (exfalso; omega) | (conv => whnf)))
       all_goals try (exfalso; omega)
       all_goals (refine zi ?_; conv => whnf)
       all_goals exact hK _
    | k0 :: k1 :: kr =>
     rw [zum, if_neg hbad] at hK
     as_aux_lemma =>
      (refine zi ?_; conv => whnf)
      repeat' ((with_reducible refine way ?_ ?_) <;> (intro h; first | (exfalso; omega) | (conv => whnf)))
      all_goals try (exfalso; omega)
      all_goals refine ze rfl  (ync G op n u den ps k0 k1 kr (by simp at hkl; omega)) ?_
      all_goals (refine zj ?_; conv => whnf)
      all_goals exact hK _
 ·as_aux_lemma =>
   rintro done k rest _ ha hl h1 ih
   have hkm : SizeOf.sizeOf k < SizeOf.sizeOf ks := List.sizeOf_lt_of_mem (by rw [ha]; simp)
   have hks : xc k <= yf ks := zqr (by rw [ha]; simp)
   have hw := zm (n := done.length) (by omega)
   have hrow : (zc ks)[((done.length : Nat) : Int).toNat]? = some k.cells := by rw [hrows]; simp [ha]
   have hcall := IH k (by omega) (by omega)
   simp only [List.all_cons] at h1
   obtain ⟨o1, n1, u1, d1, p1, q1⟩ := k
   (refine zi ?_; conv => whnf)
   repeat' ((with_reducible refine way ?_ ?_) <;> (intro h; first | (exfalso; omega) | (conv => whnf)))
   all_goals try (exfalso; omega)
   (refine yy mixed rfl ?_; refine zn [] ?_; conv => whnf)
   refine xw rfl rfl  (row := (Ex.mk o1 n1 u1 d1 p1 q1).cells) hrow ?_
   (refine zn [] ?_; conv => whnf)
   refine zaj rfl  hcall ?_
   cases hb : zfd c (.mk o1 n1 u1 d1 p1 q1) with
   | false =>
    (refine zn [] ?_; conv => whnf)
    (refine zi ?_; conv => whnf)
    exact kB hK (by rw [h1, hb]; rfl)
   | true =>
    (refine zn [] ?_; conv => whnf)
    (refine zi ?_; conv => whnf)
    rw [hw]
    exact yr [2, 3, 5] 2 (by simp [hH]) (by simp) rfl rfl (ih () (by rw [h1, hb]; rfl))
def wn (c : Codex) (e : Ex) : Bool := zck e && zfd c e
theorem zke (c : Codex) (hsz : c.arts.length <= 9223372036854775807) (e : Ex) : zx Tryz.prog G 53 [c.sv, e.sv] (sB (wn c e)) := by
 have hw := zvn G e
 have hf := fun h => zzz G c hsz (SizeOf.sizeOf e + 1) e (by omega) h
 have he : wn c e = (zck e && zfd c e) := rfl
 rw [he]
 have hsmall : zck e = true -> xc e <= 1000 := fun h => by simp [zck] at h; omega
 obtain ⟨op, n, u, den, ps, ks⟩ := e
 refine zd Tryz.func53 rfl (by rw [Tryz.ntmps53]; simp) rfl rfl ?_; intro E hH hK
 (refine zi ?_; conv => whnf)
 refine ze rfl  hw ?_
 cases hwi : zck (.mk op n u den ps ks) with
 | false =>
  (refine zj ?_; conv => whnf)
  exact kB hK (by rw [hwi]; rfl)
 | true =>
  (refine zj ?_; conv => whnf)
  refine ze rfl  (hf (hsmall hwi)) ?_
  (refine zj ?_; conv => whnf)
  exact kB hK (by rw [hwi]; rfl)
def zdd (c : Codex) (n : Int) : Int := match c.arts[(jl n c.arts 0).toNat]? with | some a => a.line | none => 0
def ji (c : Codex) (a : Article) : Bool :=
 decide (1 <= a.number /\ a.number <= 1000000 /\ 0 <= a.line /\ a.line < c.lines.length /\ a.line = zdd c a.number) && zbz a && a.when_.all (fun e => wn c e && decide (e.unit = tT)) &&
 a.unless_.all (fun n => decide (0 <= jl n c.arts 0)) && (wn c a.amount && decide (a.amount.unit = zdm c a.line))
def zio (c : Codex) : Bool :=
 (qx 0 0 c.facts && decide (c.facts.length <= 32)) && (qx 1 4 c.lines && decide (c.lines.length <= 32)) && decide (c.arts.length <= 60) && c.arts.all (ji c)
theorem yaa (l : List Decl) (s : ByteArray) (hsz : l.length <= 9223372036854775807) : zx Tryz.prog G 82 [.imm (zk l), sS s] (sI (znz s l 0)) := by
 refine zd Tryz.func82 rfl (by rw [Tryz.ntmps82]; simp) rfl rfl ?_; intro E hH hK
 have hlen : (l.map Decl.cells).length = l.length := by simp
 (refine zi ?_; conv => whnf)
 refine zg [0, 1, 5] ?_
 refine zq l (fun i (_ : Unit) => [(0, .imm (zk l)), (1, sS s), (5, sI i)]) (fun _ _ => []) (fun done rest _ => znz s l 0 = znz s rest done.length) () rfl ?_ ?_
 ·rintro _ h1
  (refine zi ?_; conv => whnf)
  repeat' ((with_reducible refine way ?_ ?_) <;> (intro h; conv => whnf))
  all_goals try (exfalso; omega)
  exact kI hK (by rw [h1]; rfl)
 ·rintro done d rest _ ha hl h1 ih
  have hw := zm (n := done.length) (by omega)
  simp only [znz] at h1
  (refine zi ?_; conv => whnf)
  repeat' ((with_reducible refine way ?_ ?_) <;> (intro h; conv => whnf))
  all_goals try (exfalso; omega)
  refine zh rfl rfl  (row := d.cells) (by simp [ha]) ?_
  (refine zj ?_; conv => whnf)
  repeat' ((with_reducible refine way ?_ ?_) <;> (intro h; conv => whnf))
  ·exact kI hK (by rw [h1, if_pos h])
  ·rw [hw]; exact zg [0, 1, 5] (ih () (by rw [h1, if_neg h]; simp))
theorem zkf (l : List Decl) (lo hi : Int) (hsz : l.length <= 9223372036854775807) : zx Tryz.prog G 51 [.imm (zk l), sI lo, sI hi] (sB (qx lo hi l && decide (l.length <= 32))) := by
 refine zd Tryz.func51 rfl (by rw [Tryz.ntmps51]; simp) rfl rfl ?_; intro E hH hK
 have hlen : (l.map Decl.cells).length = l.length := by simp
 (refine zi ?_; conv => whnf)
 refine zg [0, 1, 2, 7] ?_
 refine zq l (fun i (_ : Unit) => [(0, .imm (zk l)), (1, sI lo), (2, sI hi), (7, sI i)]) (fun _ _ => [])
  (fun done _ _ => done.all (jw lo hi) = true /\ (done.map (·.name)).Nodup) () ⟨rfl, List.nodup_nil⟩ ?_ ?_
 ·rintro _ ⟨h1, h2⟩
  (refine zi ?_; conv => whnf)
  repeat' ((with_reducible refine way ?_ ?_) <;> (intro h; conv => whnf))
  all_goals try (exfalso; omega)
  exact kB hK (by simp only [qx, h1, h2]; simp; omega)
 ·rintro done d rest _ ha hl ⟨h1, h2⟩ ih
  have hw := zm (n := done.length) (by omega)
  have bad : jw lo hi d = false \/ d.name ∈ done.map (·.name) -> (qx lo hi l && decide (l.length <= 32)) = false := fun h => by rw [ha, zqp h]; rfl
  have next : jw lo hi d = true -> d.name ∉ done.map (·.name) -> _ := fun g1 g2 => ih () ⟨by simp [h1, g1], by
   rw [List.map_append, List.nodup_append]; exact ⟨h2, by simp, fun a ha b hb e => g2 (by simp at hb; rw [<- hb, <- e]; exact ha)⟩⟩
  have hix := zya d.name done d rest 0 rfl
  rw [<- ha] at hix
  have hg : (l.map Decl.cells)[((done.length : Nat) : Int).toNat]? = some d.cells := by simp [ha]
  (refine zi ?_; conv => whnf)
  repeat' ((with_reducible refine way ?_ ?_) <;> (intro h; conv => whnf))
  all_goals try (exfalso; omega)
  refine zh rfl rfl  (row := d.cells) (by simp [ha]) ?_
  (refine zj ?_; conv => whnf)
  refine ze rfl  (zxy G d.name) ?_
  (refine zj ?_; conv => whnf)
  repeat' ((with_reducible refine way ?_ ?_) <;> (intro h; conv => whnf))
  any_goals exact kB hK (bad (.inl (by simp [jw, *])))
  refine zh rfl rfl  (row := d.cells) (by simp [ha]) ?_
  (refine zj ?_; conv => whnf)
  refine ze rfl  (zxw G d.unit) ?_
  (refine zj ?_; conv => whnf)
  repeat' ((with_reducible refine way ?_ ?_) <;> (intro h; conv => whnf))
  any_goals exact kB hK (bad (.inl (by simp [jw, *])))
  refine zh rfl rfl  (row := d.cells) (by simp [ha]) ?_
  (refine zj ?_; conv => whnf)
  repeat' ((with_reducible refine way ?_ ?_) <;> (intro h; conv => whnf))
  any_goals exact kB hK (bad (.inl (by simp [jw, *]; try omega)))
  refine zh rfl rfl  (row := d.cells) (by simp [ha]) ?_
  (refine zj ?_; conv => whnf)
  repeat' ((with_reducible refine way ?_ ?_) <;> (intro h; conv => whnf))
  any_goals exact kB hK (bad (.inl (by simp [jw, *]; try omega)))
  refine zh rfl rfl  (row := d.cells) (by simp [ha]) ?_
  (refine zj ?_; conv => whnf)
  refine ze rfl  (yaa G l d.name hsz) ?_
  (refine zj ?_; conv => whnf)
  repeat' ((with_reducible refine way ?_ ?_) <;> (intro h; conv => whnf))
  ·exact kB hK (bad (.inr (by
    rcases Classical.em (d.name ∈ done.map (·.name)) with h' | h'
    ·exact h'
    ·exact absurd (hix.2 h') (by simpa using h))))
  ·rw [hw]
   exact zg [0, 1, 2, 7] (next (by simp [jw, *]; omega) (hix.1 (by simpa using h)))
theorem zst (c : Codex) (hsf : c.facts.length <= 9223372036854775807) (hsl : c.lines.length <= 9223372036854775807) (hsa : c.arts.length <= 9223372036854775807) (hart : Codex.fit c) : zx Tryz.prog G 21 [c.sv] (sB (zio c)) := by
 refine zd Tryz.func21 rfl (by rw [Tryz.ntmps21]; simp) rfl rfl ?_; intro E hH hK
 have hll : (c.lines.map Decl.cells).length = c.lines.length := by simp
 have hla : (c.arts.map Article.cells).length = c.arts.length := by simp
 (refine zi ?_; conv => whnf)
 refine ze rfl  (zkf G c.facts 0 0 (by omega)) ?_
 cases hd1 : (qx 0 0 c.facts && decide (c.facts.length <= 32)) with
 | false =>
  (refine zj ?_; conv => whnf)
  exact kB hK (by simp only [zio, hd1, Bool.false_and])
 | true =>
 (refine zj ?_; conv => whnf)
 refine ze rfl  (zkf G c.lines 1 4 (by omega)) ?_
 cases hd2 : (qx 1 4 c.lines && decide (c.lines.length <= 32)) with
 | false =>
  (refine zj ?_; conv => whnf)
  exact kB hK (by simp only [zio, hd1, hd2, Bool.and_false, Bool.false_and])
 | true =>
 (refine zj ?_; conv => whnf)
 repeat' ((with_reducible refine way ?_ ?_) <;> (intro h; first | (exfalso; omega) | (conv => whnf)))
 ·exact kB hK (by simp only [zio, hd1, hd2]; rw [decide_eq_false (by omega)]; rfl)
 have hok : zio c = c.arts.all (ji c) := by simp only [zio, hd1, hd2]; rw [decide_eq_true (by omega)]; rfl
 refine zg [1, 3] ?_
 refine zq c.arts (fun i (_ : Unit) => [(1, .ptr 0 0), (3, sI i)]) (fun _ _ => [.cells [.imm (zk c.facts), .imm (zk c.lines), .imm (ys c.arts)]])
  (fun done rest _ => c.arts.all (ji c) = rest.all (ji c)) () rfl ?_ ?_
 ·as_aux_lemma =>
   rintro _ h1
   (refine zi ?_; conv => whnf)
   repeat' ((with_reducible refine way ?_ ?_) <;> (intro h; first | (exfalso; omega) | (conv => whnf)))
   all_goals try (exfalso; omega)
   exact kB hK (by rw [hok, h1]; rfl)
 ·as_aux_lemma =>
   rintro done a rest _ ha hl hinv ih
   have hw := zm (n := done.length) (by omega)
   simp only [List.all_cons] at hinv
   obtain ⟨hun, hwn⟩ := hart a (by rw [ha]; simp)
   obtain ⟨op, n, u, den, ps, ks, ham⟩ : ∃ op n u den ps ks, a.amount = .mk op n u den ps ks := by cases h : a.amount; exact ⟨_, _, _, _, _, _, rfl⟩
   have hrow : (c.arts.map Article.cells)[((done.length : Nat) : Int).toNat]? = some [dI a.number, dI a.line, dI a.rank, dI a.lo, dI a.hi, dI a.known, ye a.when_, zl a.unless_, dI op, dI n, dS u, dI den, .isl 3 (ps.map Piece.cells), .isl 6 (zc ks)] := by
    simp [ha, Article.cells, ham, zp, Ex.op, Ex.n, Ex.unit, Ex.den, Ex.pieces, Ex.kids]
   have hwl : (a.when_.map Ex.cells).length = a.when_.length := by simp
   have hul : (a.unless_.map fun n => [dI n]).length = a.unless_.length := by simp
   have bad : ji c a = false -> zio c = false := fun h => by rw [hok, hinv, h]; rfl
   have bad1 : ¬ (1 <= a.number /\ a.number <= 1000000 /\ 0 <= a.line /\ a.line < c.lines.length /\ a.line = zdd c a.number) -> zio c = false := fun h => bad (by simp only [ji]; rw [decide_eq_false h]; rfl)
   have bad2 : zbz a = false -> zio c = false := fun h => bad (by simp only [ji, h, Bool.and_false, Bool.false_and])
   obtain ⟨b, hb1, hb2⟩ : ∃ b, c.arts[(jl a.number c.arts 0).toNat]? = some b /\ 0 <= jl a.number c.arts 0 := by
    rcases zlb a.number c.arts 0 with h | ⟨g1, g2, x, g3, g4⟩
    ·exact absurd rfl ((znu a.number c.arts 0).1 h a (by rw [ha]; simp))
    ·exact ⟨x, by simpa using g3, by simpa using g1⟩
   have hfl : zdd c a.number = b.line := by simp only [zdd, hb1]
   have hnum := zgz G c a.number (by omega)
   generalize hix : jl a.number c.arts 0 = ix at hb1 hb2 hnum
   (refine zi ?_; conv => whnf)
   repeat' ((with_reducible refine way ?_ ?_) <;> (intro h; first | (exfalso; omega) | (conv => whnf)))
   all_goals try (exfalso; omega)
   refine zh rfl rfl  (row := [dI a.number, dI a.line, dI a.rank, dI a.lo, dI a.hi, dI a.known, ye a.when_, zl a.unless_, dI op, dI n, dS u, dI den, .isl 3 (ps.map Piece.cells), .isl 6 (zc ks)]) hrow ?_
   (refine zj ?_; conv => whnf)
   by_cases hg1 : 1 <= a.number /\ a.number <= 1000000 /\ 0 <= a.line /\ a.line < c.lines.length
   ·(refine yy mixed rfl ?_; refine zn [] ?_; conv => whnf)
    repeat' ((with_reducible refine way ?_ ?_) <;> (intro h; first | (exfalso; omega) | (conv => whnf)))
    all_goals try (exfalso; omega)
    refine zaj rfl  hnum ?_
    (refine zn [] ?_; conv => whnf)
    refine xw rfl (i := ix.toNat) (by omega) (row := b.cells) (by simp [hb1]) ?_
    by_cases hline : a.line = b.line
    rotate_left
    ·(refine zn [] ?_; conv => whnf)
     repeat' ((with_reducible refine way ?_ ?_) <;> (intro h; first | (exfalso; omega) | (conv => whnf)))
     all_goals (refine zi ?_; conv => whnf)
     all_goals exact kB hK (bad1 (fun hc => hline (by rw [<- hfl]; exact hc.2.2.2.2)))
    (refine zn [] ?_; conv => whnf)
    repeat' ((with_reducible refine way ?_ ?_) <;> (intro h; first | (exfalso; omega) | (conv => whnf)))
    all_goals (refine zi ?_; conv => whnf)
    all_goals repeat' ((with_reducible refine way ?_ ?_) <;> (intro h; first | (exfalso; omega) | (conv => whnf)))
    all_goals try exact kB hK (bad2 (by simp [zbz]; intros; omega))
    have hhead : zbz a = true := by simp [zbz]; omega
    have hone : decide (1 <= a.number /\ a.number <= 1000000 /\ 0 <= a.line /\ a.line < c.lines.length /\ a.line = zdd c a.number) = true := decide_eq_true ⟨hg1.1, hg1.2.1, hg1.2.2.1, hg1.2.2.2, by rw [hfl]; exact hline⟩
    have hart2 : ji c a = (a.when_.all (fun e => wn c e && decide (e.unit = tT)) && a.unless_.all (fun n => decide (0 <= jl n c.arts 0)) && (wn c a.amount && decide (a.amount.unit = zdm c a.line))) := by
     simp only [ji, hone, hhead, Bool.true_and]
    clear hnum bad1 bad2 hone hhead
    refine zg [1, 3, 4, 5] ?_
    refine zq a.when_ (fun i (_ : Unit) => [(1, .ptr 0 0), (3, sI done.length), (4, .ptr 1 0), (5, sI i)])
     (fun _ _ => [.cells [.imm (zk c.facts), .imm (zk c.lines), .imm (ys c.arts)], .cells (zko a op n u den ps ks)])
     (fun done rest _ => a.when_.all (fun e => wn c e && decide (e.unit = tT)) = rest.all (fun e => wn c e && decide (e.unit = tT))) () rfl ?_ ?_
    ·as_aux_lemma =>
      rintro _ hwh
      have hwt : a.when_.all (fun e => wn c e && decide (e.unit = tT)) = true := by rw [hwh]; rfl
      rw [hwt, Bool.true_and] at hart2
      (refine zi ?_; conv => whnf)
      repeat' ((with_reducible refine way ?_ ?_) <;> (intro h; first | (exfalso; omega) | (conv => whnf)))
      all_goals try (exfalso; omega)
      refine zg [1, 3, 4, 6] ?_
      refine zq a.unless_ (fun i (_ : Unit) => [(1, .ptr 0 0), (3, sI done.length), (4, .ptr 1 0), (6, sI i)])
       (fun _ _ => [.cells [.imm (zk c.facts), .imm (zk c.lines), .imm (ys c.arts)], .cells (zko a op n u den ps ks)])
       (fun done rest _ => a.unless_.all (fun n => decide (0 <= jl n c.arts 0)) = rest.all (fun n => decide (0 <= jl n c.arts 0))) () rfl ?_ ?_
      ·as_aux_lemma =>
        rintro _ huh
        have hut : a.unless_.all (fun n => decide (0 <= jl n c.arts 0)) = true := by rw [huh]; rfl
        rw [hut, Bool.true_and, ham] at hart2
        obtain ⟨d, hd⟩ : ∃ d, c.lines[a.line.toNat]? = some d := ⟨c.lines[a.line.toNat]'(by omega), List.getElem?_eq_getElem _⟩
        have hlu : zdm c a.line = d.unit := by simp only [zdm, hd]
        rw [hlu] at hart2
        replace hart2 : ji c a = (wn c (.mk op n u den ps ks) && decide (u = d.unit)) := hart2
        have hfit := zke G c (by omega) (.mk op n u den ps ks)
        (refine zi ?_; conv => whnf)
        repeat' ((with_reducible refine way ?_ ?_) <;> (intro h; first | (exfalso; omega) | (conv => whnf)))
        all_goals try (exfalso; omega)
        (refine yy mixed rfl ?_; refine zn [] ?_; conv => whnf)
        refine zaj rfl  hfit ?_
        cases hf : wn c (.mk op n u den ps ks) with
        | false =>
         (refine zn [] ?_; conv => whnf)
         (refine zi ?_; conv => whnf)
         exact kB hK (bad (by rw [hart2, hf]; rfl))
        | true =>
         (refine zn [] ?_; conv => whnf)
         refine xw rfl (i := a.line.toNat) (by omega) (row := d.cells) (by simp [hd]) ?_
         (refine zn [] ?_; conv => whnf)
         (refine zi ?_; conv => whnf)
         repeat' ((with_reducible refine way ?_ ?_) <;> (intro h; first | (exfalso; omega) | (conv => whnf)))
         ·exact kB hK (bad (by rw [hart2, hf, decide_eq_false h]; rfl))
         ·rw [hw]
          exact yr [1, 3] 1 (by simp [hH]) (by simp) rfl rfl (ih () (by rw [hinv, hart2, hf, decide_eq_true h]; rfl))
      ·as_aux_lemma =>
        rintro d3 x r3 _ ha3 hl3 h3 ih3
        have hw3 := zm (n := d3.length) (by omega)
        simp only [List.all_cons] at h3
        (refine zi ?_; conv => whnf)
        repeat' ((with_reducible refine way ?_ ?_) <;> (intro h; first | (exfalso; omega) | (conv => whnf)))
        all_goals try (exfalso; omega)
        (refine yy mixed rfl ?_; refine zn [] ?_; conv => whnf)
        refine xw rfl rfl  (row := [dI x]) (by simp [ha3]) ?_
        (refine zn [] ?_; conv => whnf)
        refine zaj rfl  (zgz G c x (by omega)) ?_
        (refine zn [] ?_; conv => whnf)
        (refine zi ?_; conv => whnf)
        repeat' ((with_reducible refine way ?_ ?_) <;> (intro h; first | (exfalso; omega) | (conv => whnf)))
        ·exact kB hK (bad (by rw [hart2, h3, decide_eq_false (by omega)]; rfl))
        ·rw [hw3]
         exact yr [1, 3, 4, 6] 2 (by simp [hH]) (by simp) rfl rfl (ih3 () (by rw [h3, decide_eq_true (by omega)]; rfl))
    ·as_aux_lemma =>
      rintro d2 e r2 _ ha2 hl2 h2 ih2
      have hw2 := zm (n := d2.length) (by omega)
      simp only [List.all_cons] at h2
      have hfit := zke G c (by omega) e
      obtain ⟨o1, n1, u1, d1, p1, q1⟩ := e
      replace h2 : a.when_.all (fun e => wn c e && decide (e.unit = tT)) = ((wn c (.mk o1 n1 u1 d1 p1 q1) && decide (u1 = tT)) && r2.all (fun e => wn c e && decide (e.unit = tT))) := h2
      (refine zi ?_; conv => whnf)
      repeat' ((with_reducible refine way ?_ ?_) <;> (intro h; first | (exfalso; omega) | (conv => whnf)))
      all_goals try (exfalso; omega)
      (refine yy mixed rfl ?_; refine zn [] ?_; conv => whnf)
      refine xw rfl rfl  (row := (Ex.mk o1 n1 u1 d1 p1 q1).cells) (by simp [ha2]) ?_
      (refine zn [] ?_; conv => whnf)
      refine zaj rfl  hfit ?_
      cases hf : wn c (.mk o1 n1 u1 d1 p1 q1) with
      | false =>
       (refine zn [] ?_; conv => whnf)
       (refine zi ?_; conv => whnf)
       exact kB hK (bad (by rw [hart2, h2, hf]; rfl))
      | true =>
       (refine zn [] ?_; conv => whnf)
       refine xw rfl rfl  (row := (Ex.mk o1 n1 u1 d1 p1 q1).cells) (by simp [ha2]) ?_
       (refine zn [] ?_; conv => whnf)
       (refine zi ?_; conv => whnf)
       repeat' ((with_reducible refine way ?_ ?_) <;> (intro h; first | (exfalso; omega) | (conv => whnf)))
       ·exact kB hK (bad (by rw [hart2, h2, hf, decide_eq_false (by exact h)]; rfl))
       ·rw [hw2]
        exact yr [1, 3, 4, 5] 2 (by simp [hH]) (by simp) rfl rfl (ih2 () (by rw [h2, hf, decide_eq_true (by exact h)]; rfl))
   ·(refine yy mixed rfl ?_; refine zn [] ?_; conv => whnf)
    repeat' ((with_reducible refine way ?_ ?_) <;> (intro h; first | (exfalso; omega) | (conv => whnf)))
    all_goals try (exfalso; omega)
    all_goals try (refine zi ?_; conv => whnf)
    all_goals exact kB hK (bad1 (fun hc => hg1 ⟨hc.1, hc.2.1, hc.2.2.1, hc.2.2.2.1⟩))
end Go.Proofs.YtblpjknmhajcgaaGreatDoor