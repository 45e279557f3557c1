/- Contracts of functions of the program, joined from TQa, TQb, TQc, TBf, TQd, TEe, TEg, TEf, TEh, TDa, TDb, TCa, TCb, TBg, TCd, THb, TDc, TEi, THc, THd, THe, THf, TVa: no condition. -/
import Derived.Test.YtblpjknmhajcgaaGreatDoorCJ5
set_option linter.unusedSimpArgs false
set_option linter.unusedVariables false
set_option maxRecDepth 10000
set_option maxHeartbeats 8000000
namespace Go.Proofs.YtblpjknmhajcgaaGreatDoor
open Go Go.Sh
def zjy (c : Codex) (f : Int) : Bool := match c.facts[f.toNat]? with | some d => decide (d.unit = tT) | none => false
def zfg (e : Ex) : Bool := decide (e.op = 1) || decide (e.op = 2) || (decide (e.op = 4) && (decide (1 <= e.n) && decide (e.n <= 4)))
def zhf (op : Int) : Bool := decide (op = 8) || decide (op = 9) || decide (op = 10)
def simpE (c : Codex) : Ex -> Bool
 | .mk op n u _ _ ks =>
  if op = 1 then decide (u = tT)
  else if op = 2 then zjy c n
  else if op = 5 then match ks with | [k] => simpE c k | _ => false
  else if op = 6 \/ op = 7 then match ks with | [k, l] => simpE c k && simpE c l | _ => false
  else match ks with | [k, l] => zhf op && zfg k && zfg l && (decide (k.op = 1) || decide (l.op = 1)) | _ => false
def cP (c : Codex) (f x : Int) (a b : Ex) : Prop := a.op = 2 /\ a.n = f /\ b.op = 1 /\ zjy c f = false /\ (x = b.n \/ x = b.n + 1)
def cE (c : Codex) (f x : Int) : Ex -> Prop
  | .mk op n _ _ _ ks => (op = 2 /\ n = f /\ (x = 0 \/ (zjy c f = true /\ x = 1))) \/ (match ks with
    | [k] => cE c f x k
    | [k, l] => cE c f x k \/ cE c f x l \/ (zhf op = true /\ (cP c f x k l \/ cP c f x l k))
    | _ => False)
inductive Shape (c : Codex) (m : List (Int × Int)) (op n : Int) (u : ByteArray) (ks : List Ex) : Prop
 | const : op = 1 -> ks = [] -> u = tT -> Shape c m op n u ks
 | fact : op = 2 -> ks = [] -> 0 <= n /\ n < c.facts.length -> zjy c n = true -> Shape c m op n u ks
 | neg (k : Ex) : op = 5 -> ks = [k] -> zel c m k -> k.unit = tT -> Shape c m op n u ks
 | conn (k l : Ex) : op = 6 \/ op = 7 -> ks = [k, l] -> zel c m k -> zel c m l -> k.unit = tT -> l.unit = tT -> Shape c m op n u ks
 | cmp (k l : Ex) : op = 8 \/ op = 9 \/ op = 10 -> ks = [k, l] -> zel c m k -> zel c m l -> Shape c m op n u ks
 | other : op ≠ 1 -> op ≠ 2 -> op ≠ 5 -> ¬(op = 6 \/ op = 7) -> ¬(op = 8 \/ op = 9 \/ op = 10) -> Shape c m op n u ks
theorem zzc {c : Codex} {m : List (Int × Int)} {op n : Int} {u : ByteArray} {den : Int} {ps : List Piece} {ks : List Ex} (h : qm c m op n u den ps ks = true) (h2 : op = 2) : zjy c n = decide (u = tT) := by
 have hl := (zcx h (by omega)).2
 unfold zas at hl
 rw [if_neg (by omega), if_pos h2] at hl
 simp only [Bool.and_eq_true, decide_eq_true_eq] at hl
 have h3 := hl.2
 unfold zcq at h3
 unfold zjy
 cases hg : c.facts[n.toNat]? with
 | none => rw [hg] at h3; cases h3
 | some d =>
  rw [hg] at h3
  have h3 := of_decide_eq_true h3
  rw [h3]
theorem ztp {c : Codex} {m : List (Int × Int)} {op n : Int} {u : ByteArray} {den : Int} {ps : List Piece} {ks : List Ex} (h : qm c m op n u den ps ks = true) (h2 : op = 1) : 0 <= n /\ n <= 999999999999 := by
 have hl := (zcx h (by omega)).2
 unfold zas at hl
 rw [if_pos h2] at hl
 simp only [Bool.and_eq_true, decide_eq_true_eq] at hl
 exact hl.1
theorem zji {c : Codex} {m : List (Int × Int)} {op n : Int} {u : ByteArray} {den : Int} {ps : List Piece} {ks : List Ex} (h : zel c m (.mk op n u den ps ks)) (hu : u = tT) : Shape c m op n u ks := by
 unfold zel at h
 obtain ⟨hn, hk⟩ := h
 by_cases h1 : op = 1
 ·exact .const h1 (zcx hn (by omega)).1 hu
 by_cases h2 : op = 2
 ·exact .fact h2 (zcx hn (by omega)).1 (zcy hn h2) (by rw [zzc hn h2]; simpa using hu)
 by_cases h5 : op = 5
 ·obtain ⟨k, rfl⟩ := zvw hn h5
  obtain ⟨_, f, l, hf, hl, g⟩ := zvv hn (by omega)
  simp only [List.head?_cons, Option.some.injEq] at hf
  subst hf
  unfold zae at g
  rw [if_pos h5] at g
  simp only [Bool.and_eq_true, decide_eq_true_eq] at g
  exact .neg k h5 rfl (wx hk k (by simp)) g.2
 by_cases h6 : op = 6 \/ op = 7
 ·obtain ⟨k, l, rfl⟩ := zje hn (by omega)
  obtain ⟨_, f, l', hf, hl, g⟩ := zvv hn (by omega)
  simp only [List.head?_cons, Option.some.injEq] at hf
  subst hf
  unfold zae at g
  rw [if_neg h5, if_pos h6] at g
  simp only [Bool.and_eq_true, decide_eq_true_eq] at g
  have hs := g.1.2
  unfold zbn at hs
  simp only [List.all_cons, List.all_nil, Bool.and_eq_true, decide_eq_true_eq] at hs
  exact .conn k l h6 rfl (wx hk k (by simp)) (wx hk l (by simp)) g.2 (by rw [hs.2.1, g.2])
 by_cases h8 : op = 8 \/ op = 9 \/ op = 10
 ·obtain ⟨k, l, rfl⟩ := zje hn (by omega)
  exact .cmp k l h8 rfl (wx hk k (by simp)) (wx hk l (by simp))
 exact .other h1 h2 h5 h6 h8
structure LeafE (c : Codex) (k : Ex) : Prop where
 no : k.kids = []
 k1 : k.op = 1 -> 0 <= k.n /\ k.n <= 999999999999
 k2 : k.op = 2 -> 0 <= k.n /\ k.n < c.facts.length /\ zjy c k.n = decide (k.unit = tT)
 k4 : k.op = 4 -> 1 <= k.n /\ k.n <= 4
theorem zeg {c : Codex} {m : List (Int × Int)} {k : Ex} (h : zel c m k) (hp : k.op = 1 \/ k.op = 2 \/ k.op = 4) : LeafE c k := by
 obtain ⟨op, n, u, den, ps, ks⟩ := k
 unfold zel at h
 change op = 1 \/ op = 2 \/ op = 4 at hp
 exact ⟨(zcx h.1 (by omega)).1, fun e => ztp h.1 e, fun e => ⟨(zcy h.1 e).1, (zcy h.1 e).2, zzc h.1 e⟩, fun e => zqz h.1 e⟩
theorem zfa {e : Ex} (h : zfg e = true) : e.op = 1 \/ e.op = 2 \/ e.op = 4 := by
 unfold zfg at h
 simp only [Bool.or_eq_true, Bool.and_eq_true, decide_eq_true_eq] at h
 omega
theorem part_of {c : Codex} {m : List (Int × Int)} {e : Ex} (ha : zel c m e) : zfg e = (decide (e.op = 1) || decide (e.op = 2) || decide (e.op = 4)) := by
 unfold zfg
 by_cases h4 : e.op = 4
 ·have := (zeg ha (.inr (.inr h4))).k4 h4
  simp [h4, this]
 ·simp [h4]
theorem zvy {c : Codex} {f x : Int} {k : Ex} (h : LeafE c k) : cE c f x k ↔ (k.op = 2 /\ k.n = f /\ (x = 0 \/ (zjy c f = true /\ x = 1))) := by
 obtain ⟨op, n, u, den, ps, ks⟩ := k
 have hk : ks = [] := h.no
 subst hk
 unfold cE
 simp [Ex.op, Ex.n]
def zda (q : Sr) (f : Int) : List Int := (zr f q.cands).getD []
def zre (q : Sr) : Prop := ∀ e ∈ q.cands, (0 : Int) ∈ e.2
theorem zkx {x : Int} : ∀ (vs l : List Int), x ∈ vs.foldl wy l ↔ x ∈ l \/ (x ∈ vs /\ x <= 1000000000000)
 | [], l => by simp
 | v :: vs, l => by
  rw [List.foldl_cons, zkx vs]
  unfold wy
  by_cases h : v <= 1000000000000
  ·rw [if_pos h]
   by_cases hm : v ∈ l
   ·rw [if_pos hm]
    constructor
    ·rintro (h1 | ⟨h1, h2⟩)
     ·exact .inl h1
     ·exact .inr ⟨by simp [h1], h2⟩
    ·rintro (h1 | ⟨h1, h2⟩)
     ·exact .inl h1
     ·rcases List.mem_cons.1 h1 with rfl | h1
      ·exact .inl hm
      ·exact .inr ⟨h1, h2⟩
   ·rw [if_neg hm]
    constructor
    ·rintro (h1 | ⟨h1, h2⟩)
     ·rcases List.mem_append.1 h1 with h1 | h1
      ·exact .inl h1
      ·simp at h1; subst h1; exact .inr ⟨by simp, h⟩
     ·exact .inr ⟨by simp [h1], h2⟩
    ·rintro (h1 | ⟨h1, h2⟩)
     ·exact .inl (by simp [h1])
     ·rcases List.mem_cons.1 h1 with rfl | h1
      ·exact .inl (by simp)
      ·exact .inr ⟨h1, h2⟩
  ·rw [if_neg h]
   constructor
   ·rintro (h1 | ⟨h1, h2⟩)
    ·exact .inl h1
    ·exact .inr ⟨by simp [h1], h2⟩
   ·rintro (h1 | ⟨h1, h2⟩)
    ·exact .inl h1
    ·rcases List.mem_cons.1 h1 with rfl | h1
     ·exact absurd h2 h
     ·exact .inr ⟨h1, h2⟩
theorem zvz {q : Sr} {f g x : Int} {vs : List Int} : x ∈ zda (q.cand f vs) g ↔ x ∈ zda q g \/ (g = f /\ x ∈ vs /\ x <= 1000000000000) := by
 have hlk : zr g (q.cand f vs).cands = if g == f then some (vs.foldl wy ((zr f q.cands).getD [])) else zr g q.cands := jj g f _ _
 unfold zda
 rw [hlk]
 by_cases h : g = f
 ·subst h
  simp only [beq_self_eq_true, if_true, Option.getD_some]
  rw [zkx]
  simp
 ·rw [if_neg (by simpa using h)]
  simp [h]
theorem zrf {q : Sr} (h : zre q) (f : Int) {vs : List Int} (hv : (0 : Int) ∈ vs) : zre (q.cand f vs) := fun e he => by
 rcases ziz he with rfl | he
 ·show (0 : Int) ∈ vs.foldl wy _
  rw [zkx]
  exact .inr ⟨hv, by omega⟩
 ·exact h e he
theorem zma (s : Sr) (a b : Ex) : (cmpCand s a b).dates = s.dates := by
 unfold cmpCand
 split
 ·rfl
 ·split <;> rfl
theorem zod {s : Sr} (h : zre s) (a b : Ex) : zre (cmpCand s a b) := by
 unfold cmpCand
 split
 ·exact h
 ·split
  ·exact zrf h _ (by simp)
  ·exact zrf h _ (by simp)
theorem zrg {c : Codex} {s : Sr} {a b : Ex} {f x : Int} (ha : LeafE c a) (hb : LeafE c b) (h1 : a.op = 1 \/ b.op = 1) : x ∈ zda (cmpCand s a b) f ↔ x ∈ zda s f \/ (cE c f x a \/ cP c f x a b) := by
 rw [zvy ha]
 unfold cmpCand cP
 by_cases h2 : a.op = 2
 ·rw [if_neg (by simp [h2])]
  have hb1 : b.op = 1 := by omega
  have hbn := hb.k1 hb1
  have hu := (ha.k2 h2).2.2
  split
  ·rename_i e
   rw [e] at hu
   simp only [decide_true] at hu
   rw [zvz]
   constructor
   ·rintro (h | ⟨h3, h4, h5⟩)
    ·exact .inl h
    ·subst h3
     simp at h4
     exact .inr (.inl ⟨h2, rfl, h4.imp id fun h => ⟨hu, h⟩⟩)
   ·rintro (h | ⟨_, h3, h4⟩ | ⟨_, h3, _, h4, h5⟩)
    ·exact .inl h
    ·refine .inr ⟨h3.symm, ?_, ?_⟩
     ·rcases h4 with h4 | h4 <;> simp [h4]
     ·omega
    ·subst h3; rw [hu] at h4; cases h4
  ·rename_i e
   have hu : zjy c a.n = false := by rw [hu]; simpa using e
   rw [zvz]
   constructor
   ·rintro (h | ⟨h3, h4, h5⟩)
    ·exact .inl h
    ·subst h3
     simp at h4
     rcases h4 with h4 | h4
     ·exact .inr (.inl ⟨h2, rfl, .inl h4⟩)
     ·exact .inr (.inr ⟨h2, rfl, hb1, hu, h4⟩)
   ·rintro (h | ⟨_, h3, h4⟩ | ⟨_, h3, _, h4, h5⟩)
    ·exact .inl h
    ·subst h3
     rcases h4 with h4 | h4
     ·exact .inr ⟨rfl, by simp [h4], by omega⟩
     ·rw [hu] at h4; cases h4.1
    ·exact .inr ⟨h3.symm, by rcases h5 with h5 | h5 <;> simp [h5], by omega⟩
 ·rw [if_pos h2]
  constructor
  ·exact .inl
  ·rintro (h | ⟨h, _⟩ | ⟨h, _⟩)
   ·exact h
   ·exact absurd h h2
   ·exact absurd h h2
theorem zjj : ∀ (ks : List Ex) (q : Sr) (n : Int) (s1 : Sr) (k : Int), xr ks q n = (true, s1, k) -> q.dates.length = 5 -> (∀ e ∈ ks, e.op = 4 -> 1 <= e.n /\ e.n <= 4) ->
  s1.dates.length = 5 /\ (∀ j, q.dates.getD j false = true -> s1.dates.getD j false = true) /\ (∀ e ∈ ks, e.op = 4 -> s1.dates.getD e.n.toNat false = true) /\ s1.cands = q.cands
 | [], q, n, s1, k, h, h5, _ => by
  simp only [xr, Prod.mk.injEq] at h
  obtain ⟨_, rfl, _⟩ := h
  exact ⟨h5, fun _ h => h, fun _ h => (by cases h), rfl⟩
 | e :: r, q, n, s1, k, h, h5, hd => by
  simp only [xr] at h
  split at h
  ·rename_i h1
   obtain ⟨a1, a2, a3, a4⟩ := zjj r q _ s1 k h h5 fun x hx => hd x (by simp [hx])
   refine ⟨a1, a2, fun x hx h4 => ?_, a4⟩
   rcases List.mem_cons.1 hx with rfl | hx
   ·omega
   ·exact a3 x hx h4
  ·split at h
   ·rename_i h4
    have hr := hd e (by simp) h4
    obtain ⟨a1, a2, a3, a4⟩ := zjj r (q.date e.n) _ s1 k h (by simp [Sr.date, h5]) fun x hx => hd x (by simp [hx])
    have hset : ∀ j, (q.date e.n).dates.getD j false = if e.n.toNat = j /\ j < q.dates.length then true else q.dates.getD j false := fun j => zet _ _ _ _ _
    refine ⟨a1, fun j hj => a2 j (by rw [hset]; split; rfl; exact hj), fun x hx h4 => ?_, a4⟩
    rcases List.mem_cons.1 hx with rfl | hx
    ·exact a2 _ (by rw [hset, if_pos ⟨rfl, by omega⟩])
    ·exact a3 x hx h4
   ·split at h
    ·rename_i h2
     obtain ⟨a1, a2, a3, a4⟩ := zjj r q _ s1 k h h5 fun x hx => hd x (by simp [hx])
     refine ⟨a1, a2, fun x hx h4 => ?_, a4⟩
     rcases List.mem_cons.1 hx with rfl | hx
     ·omega
     ·exact a3 x hx h4
    ·cases h
theorem yrp (l r : Ex) (q : Sr) : ((xr [l, r] q 0).1 && !decide ((xr [l, r] q 0).2.2 = 0)) = ((decide (l.op = 1) || decide (l.op = 2) || decide (l.op = 4)) && (decide (r.op = 1) || decide (r.op = 2) || decide (r.op = 4)) && (decide (l.op = 1) || decide (r.op = 1))) := by
 simp only [xr]
 by_cases l1 : l.op = 1
 ·by_cases r1 : r.op = 1
  ·simp [l1, r1]
  ·by_cases r4 : r.op = 4
   ·simp [l1, r4]
   ·by_cases r2 : r.op = 2
    ·simp [l1, r2]
    ·simp [l1, r1, r2, r4]
 ·by_cases l4 : l.op = 4
  ·by_cases r1 : r.op = 1
   ·simp [l4, r1]
   ·by_cases r4 : r.op = 4
    ·simp [l4, r4]
    ·by_cases r2 : r.op = 2
     ·simp [l4, r2]
     ·simp [l4, r1, r2, r4]
  ·by_cases l2 : l.op = 2
   ·by_cases r1 : r.op = 1
    ·simp [l2, r1]
    ·by_cases r4 : r.op = 4
     ·simp [l2, r4]
     ·by_cases r2 : r.op = 2
      ·simp [l2, r2]
      ·simp [l2, r1, r2, r4]
   ·simp [l1, l2, l4]
structure SimpR (c : Codex) (q : Sr) (e : Ex) (x : Cond) (q' : Sr) : Prop where
 tru : ∀ p vs, x.tru p vs = holdsE p vs e
 mem : ∀ f x, x ∈ zda q' f ↔ x ∈ zda q f \/ cE c f x e
 zero : zre q -> zre q'
 len : q'.dates.length = 5
 dates : x.dateIn q'.dates
 dgrow : ∀ j, q.dates.getD j false = true -> q'.dates.getD j false = true
theorem Cond.dateIn_mono {d d' : List Bool} (h : ∀ j, d.getD j false = true -> d'.getD j false = true) : ∀ c : Cond, c.dateIn d -> c.dateIn d'
 | .none, _ => trivial
 | .plain _, hc => fun e => ⟨(hc e).1, (hc e).2.1, h _ (hc e).2.2⟩
 | .cmp _ _ _, hc => ⟨fun e => ⟨(hc.1 e).1, (hc.1 e).2.1, h _ (hc.1 e).2.2⟩, fun e => ⟨(hc.2 e).1, (hc.2 e).2.1, h _ (hc.2 e).2.2⟩⟩
 | .neg c, hc => Cond.dateIn_mono h c hc
 | .conn _ l r, hc => ⟨Cond.dateIn_mono h l hc.1, Cond.dateIn_mono h r hc.2⟩
theorem zni {op : Int} (h : op = 8 \/ op = 9 \/ op = 10) (n : Int) (u : ByteArray) (den : Int) (ps : List Piece) (k l : Ex) (p : zen) (vs : List Int) :
  holdsE p vs (.mk op n u den ps [k, l]) = zrv op (zcz p vs k) (zcz p vs l) := by
 unfold holdsE
 rw [if_neg (by omega), if_neg (by omega), if_neg (by omega), if_neg (by omega)]
theorem zfu {op : Int} (h : op = 8 \/ op = 9 \/ op = 10) (c : Codex) (n : Int) (u : ByteArray) (den : Int) (ps : List Piece) (k l : Ex) :
  simpE c (.mk op n u den ps [k, l]) = (zfg k && zfg l && (decide (k.op = 1) || decide (l.op = 1))) := by
 have hc : zhf op = true := by unfold zhf; rcases h with rfl | rfl | rfl <;> rfl
 unfold simpE
 rw [if_neg (by omega), if_neg (by omega), if_neg (by omega), if_neg (by omega)]
 simp only [hc, Bool.true_and]
theorem yrq {c : Codex} {m : List (Int × Int)} {op : Int} (hop : op = 8 \/ op = 9 \/ op = 10) (n : Int) (u : ByteArray) (den : Int) (ps : List Piece) {l r : Ex} (hl : zel c m l) (hr : zel c m r) (q : Sr) (h5 : q.dates.length = 5) :
  (cmpOf q op [l, r]).2.1 = simpE c (.mk op n u den ps [l, r]) /\ ((cmpOf q op [l, r]).2.1 = true -> SimpR c q (.mk op n u den ps [l, r]) (cmpOf q op [l, r]).1 (cmpOf q op [l, r]).2.2) := by
 have hok := yrp l r q
 rw [zfu hop, part_of hl, part_of hr, <- hok]
 have hc : zhf op = true := by unfold zhf; rcases hop with rfl | rfl | rfl <;> rfl
 unfold cmpOf
 cases hz : xr [l, r] q 0 with
 | mk b z =>
  obtain ⟨s1, k⟩ := z
  cases b with
  | false => exact ⟨rfl, fun h => by cases h⟩
  | true =>
   simp only
   by_cases hn : k = 0
   ·rw [if_pos hn]; exact ⟨by simp [hn], fun h => by cases h⟩
   ·rw [if_neg hn]
    obtain ⟨t1, t2, t3⟩ := yek hz hn
    have hll := zeg hl (by omega)
    have hlr := zeg hr (by omega)
    obtain ⟨d1, d2, d3, d4⟩ := zjj _ _ _ _ _ hz h5 (fun e he h4 => by
     rcases List.mem_cons.1 he with rfl | he
     ·exact hll.k4 h4
     ·simp at he; subst he; exact hlr.k4 h4)
    have hcd : (cmpCand (cmpCand s1 l r) r l).dates = s1.dates := by rw [zma, zma]
    have hcl : ∀ f, zda s1 f = zda q f := fun f => by unfold zda; rw [d4]
    have hmem : ∀ f x, x ∈ zda (cmpCand (cmpCand s1 l r) r l) f ↔ x ∈ zda q f \/ cE c f x (.mk op n u den ps [l, r]) := fun f x => by
     rw [zrg hlr hll (by omega), zrg hll hlr (by omega), hcl]
     rw [cE.eq_def c f x (.mk op n u den ps [l, r])]
     simp only [hc, true_and]
     constructor
     ·rintro ((h | h | h) | h | h)
      ·exact .inl h
      ·exact .inr (.inr (.inl h))
      ·exact .inr (.inr (.inr (.inr (.inl h))))
      ·exact .inr (.inr (.inr (.inl h)))
      ·exact .inr (.inr (.inr (.inr (.inr h))))
     ·rintro (h | h | h | h | h | h)
      ·exact .inl (.inl h)
      ·omega
      ·exact .inl (.inr (.inl h))
      ·exact .inr (.inl h)
      ·exact .inl (.inr (.inr h))
      ·exact .inr (.inr h)
    have hz1 : zre q -> zre (cmpCand (cmpCand s1 l r) r l) := fun h => zod (zod (by unfold zre; rw [d4]; exact h) _ _) _ _
    have hdi : Cond.dateIn s1.dates (.cmp op ⟨l.op, l.n⟩ ⟨r.op, r.n⟩) := ⟨fun e => ⟨(hll.k4 e).1, (hll.k4 e).2, d3 l (by simp) e⟩, fun e => ⟨(hlr.k4 e).1, (hlr.k4 e).2, d3 r (by simp) e⟩⟩
    refine ⟨by simp [hn], fun _ => ?_⟩
    have htru : ∀ p vs, Cond.tru p vs (.cmp op ⟨l.op, l.n⟩ ⟨r.op, r.n⟩) = holdsE p vs (.mk op n u den ps [l, r]) := fun p vs => by rw [zni hop]; rfl
    split
    ·exact ⟨htru, hmem, hz1, by show (cmpCand (cmpCand s1 l r) r l).dates.length = 5; rw [hcd]; exact d1, by show Cond.dateIn (cmpCand (cmpCand s1 l r) r l).dates _; rw [hcd]; exact hdi, fun j hj => by show (cmpCand (cmpCand s1 l r) r l).dates.getD j false = true; rw [hcd]; exact d2 j hj⟩
    ·exact ⟨htru, hmem, hz1, by rw [hcd]; exact d1, by rw [hcd]; exact hdi, fun j hj => by rw [hcd]; exact d2 j hj⟩
theorem zjk {c : Codex} {m : List (Int × Int)} : ∀ (N : Nat) (e : Ex) (q : Sr), SizeOf.sizeOf e < N -> zel c m e -> e.unit = tT -> q.dates.length = 5 ->
  (simpleOf e q).2.1 = simpE c e /\ ((simpleOf e q).2.1 = true -> SimpR c q e (simpleOf e q).1 (simpleOf e q).2.2)
 | 0, _, _, h, _, _, _ => by omega
 | N + 1, .mk op n u den ps ks, q, hN, h, hu, h5 => by
  simp only [Ex.mk.sizeOf_spec] at hN
  have hu : u = tT := hu
  rw [zic]
  cases zji h hu with
  | const h1 hk hu' =>
   subst h1 hk
   rw [if_pos rfl]
   refine ⟨by unfold simpE; rw [if_pos rfl]; exact (decide_eq_true hu').symm, fun _ => ⟨fun p vs => ?_, fun f x => ?_, fun h => h, h5, fun e => ?_, fun _ h => h⟩⟩
   ·unfold holdsE; rfl
   ·unfold cE; simp
   ·exact absurd e (show ¬ (1 : Int) = 4 by decide)
  | fact h1 hk hr ht =>
   subst h1 hk
   rw [if_neg (by decide), if_pos rfl]
   refine ⟨by unfold simpE; rw [if_neg (by decide), if_pos rfl]; exact ht.symm, fun _ => ⟨fun p vs => ?_, fun f x => ?_, fun h => zrf h _ (by simp), h5, fun e => ?_, fun _ h => h⟩⟩
   ·unfold holdsE; rfl
   ·rw [zvz]
    unfold cE
    simp only [true_and, or_false]
    constructor
    ·rintro (h | ⟨h1, h2, h3⟩)
     ·exact .inl h
     ·subst h1
      simp at h2
      exact .inr ⟨rfl, h2.imp id fun h => ⟨ht, h⟩⟩
    ·rintro (h | ⟨h1, h2⟩)
     ·exact .inl h
     ·exact .inr ⟨h1.symm, by rcases h2 with h2 | h2 <;> simp [h2], by omega⟩
   ·exact absurd e (show ¬ (2 : Int) = 4 by decide)
  | neg k h1 hk hka hku =>
   subst h1 hk
   rw [if_neg (by decide), if_neg (by decide), if_neg (by decide), if_pos rfl]
   simp only [List.cons.sizeOf_spec] at hN
   obtain ⟨a, b⟩ := zjk N k q (by omega) hka hku h5
   refine ⟨by rw [simpE.eq_def]; simp only [show ¬ (5 : Int) = 1 by decide, show ¬ (5 : Int) = 2 by decide, if_false, if_true]; exact a, fun hs => ?_⟩
   have b := b hs
   refine ⟨fun p vs => ?_, fun f x => ?_, b.zero, b.len, b.dates, b.dgrow⟩
   ·rw [holdsE.eq_def]
    simp only [if_true, Cond.tru]
    rw [b.tru]
   ·rw [cE.eq_def]
    simp only [show ¬ (5 : Int) = 2 by decide, false_and, false_or]
    exact b.mem f x
  | conn k l h1 hk hka hla hku hlu =>
   subst hk
   rw [if_neg (by omega), if_neg (by omega), if_neg (by omega), if_neg (by omega), if_pos h1]
   simp only [List.cons.sizeOf_spec] at hN
   obtain ⟨a, b⟩ := zjk N k q (by omega) hka hku h5
   have hsE : simpE c (.mk op n u den ps [k, l]) = (simpE c k && simpE c l) := by
    rw [simpE.eq_def]
    simp only
    rw [if_neg (by omega), if_neg (by omega), if_neg (by omega), if_pos h1]
   simp only
   rw [hsE]
   by_cases hk : (simpleOf k q).2.1 = true
   ·have b := b hk
    obtain ⟨a', b'⟩ := zjk N l (simpleOf k q).2.2 (by omega) hla hlu b.len
    refine ⟨by rw [<- a, hk, a']; try rfl, fun hs => ?_⟩
    rw [hk, Bool.true_and] at hs
    have b' := b' hs
    refine ⟨fun p vs => ?_, fun f x => ?_, fun h => b'.zero (b.zero h), b'.len, ⟨Cond.dateIn_mono b'.dgrow _ b.dates, b'.dates⟩, fun j hj => b'.dgrow j (b.dgrow j hj)⟩
    ·rw [holdsE.eq_def]
     simp only [Cond.tru]
     rw [b.tru, b'.tru]
     rcases h1 with rfl | rfl
     ·rfl
     ·rfl
    ·have hc : zhf op = false := by unfold zhf; rcases h1 with rfl | rfl <;> rfl
     rw [b'.mem, b.mem, cE.eq_def c f x (.mk op n u den ps [k, l])]
     simp only [hc]
     constructor
     ·rintro ((h | h) | h)
      ·exact .inl h
      ·exact .inr (.inr (.inl h))
      ·exact .inr (.inr (.inr (.inl h)))
     ·rintro (h | h | h | h | h)
      ·exact .inl (.inl h)
      ·omega
      ·exact .inl (.inr h)
      ·exact .inr h
      ·cases h.1
   ·have hk : (simpleOf k q).2.1 = false := by simpa using hk
    rw [<- a, hk]
    exact ⟨by simp, fun h => by simp at h⟩
  | cmp k l h1 hk hka hla =>
   subst hk
   rw [if_neg (by omega), if_neg (by omega), if_pos h1]
   exact yrq h1 n u den ps hka hla q h5
  | other h1 h2 h3 h4 h5' =>
   rw [if_neg h1, if_neg h2, if_neg h5', if_neg h3, if_neg h4]
   refine ⟨?_, fun h => by cases h⟩
   unfold simpE
   rw [if_neg h1, if_neg h2, if_neg h3, if_neg h4]
   have hc : zhf op = false := by unfold zhf; simp; omega
   split
   ·simp [hc]
   ·rfl
structure RefOK (c : Codex) (q : Sr) (es : List Ex) : Prop where
 len : q.dates.length = 5
 zero : zre q
 mem : ∀ f x, x ∈ zda q f ↔ ∃ e ∈ es, cE c f x e
 sat : ∀ p vs, yob q.conds p vs ↔ ∀ e ∈ es, holdsE p vs e = true
 dates : ∀ x ∈ q.conds, x.dateIn q.dates
def zzd (c : Codex) (m : List (Int × Int)) (e : Ex) : Prop := zel c m e /\ e.unit = tT
theorem yel {c : Codex} {m : List (Int × Int)} (hm : zob m) (hF : c.facts.length <= 12) : ∀ (es done : List Ex) (q : Sr), (∀ e ∈ es, zzd c m e) -> RefOK c q done ->
  (zdf es q).isSome = es.all (simpE c) /\ ∀ q', zdf es q = some q' -> RefOK c q' (done ++ es)
 | [], done, q, _, hq => ⟨rfl, fun q' h => by simp only [zdf, Option.some.injEq] at h; subst h; simpa using hq⟩
 | e :: r, done, q, he, hq => by
  obtain ⟨hea, heu⟩ := he e (by simp)
  have h1 := zjk _ e q (Nat.lt_succ_self _) hea heu hq.len
  have h4 := zaw _ e q (Nat.lt_succ_self _) (zng hm (by omega) _ e (Nat.lt_succ_self _) hea)
  rw [zdf, List.all_cons]
  generalize simpleOf e q = z at h1 h4
  obtain ⟨cd, b, q1⟩ := z
  simp only at h1 h4 ⊢
  cases b with
  | false => rw [<- h1.1]; exact ⟨rfl, fun _ h => by cases h⟩
  | true =>
   obtain ⟨h1, h2⟩ := h1
   have h2 := h2 rfl
   have hn : RefOK c { q1 with conds := q1.conds ++ [cd] } (done ++ [e]) := by
    refine ⟨h2.len, h2.zero hq.zero, fun f x => ?_, fun p vs => ?_, fun x hx => ?_⟩
    ·show x ∈ zda q1 f ↔ _
     rw [h2.mem, hq.mem]
     simp [or_and_right, exists_or]
    ·have := hq.sat p vs
     unfold yob at this ⊢
     simp only [h4, List.mem_append, List.mem_singleton, or_imp, forall_and, forall_eq]
     rw [this, h2.tru]
    ·show x.dateIn q1.dates
     simp only [h4, List.mem_append, List.mem_singleton] at hx
     rcases hx with hx | rfl
     ·exact Cond.dateIn_mono h2.dgrow _ (hq.dates x hx)
     ·exact h2.dates
   obtain ⟨g1, g2⟩ := yel hm hF r (done ++ [e]) _ (fun x hx => he x (by simp [hx])) hn
   rw [<- h1, Bool.true_and]
   exact ⟨g1, fun q' h => by have := g2 q' h; simpa using this⟩
theorem yem {c : Codex} {m : List (Int × Int)} (hm : zob m) (hF : c.facts.length <= 12) (ha : ∀ a ∈ c.arts, ∀ e ∈ a.when_, zzd c m e) : ∀ (vs : List Int) (done : List Ex) (q : Sr), (∀ v ∈ vs, 0 <= v /\ v < c.arts.length) -> RefOK c q done ->
  (zaf c vs q).isSome = (yg c vs).all (simpE c) /\ ∀ q', zaf c vs q = some q' -> RefOK c q' (done ++ yg c vs)
 | [], done, q, _, hq => ⟨rfl, fun q' h => by simp only [zaf, Option.some.injEq] at h; subst h; simpa [yg] using hq⟩
 | v :: r, done, q, hv, hq => by
  have hc : yg c (v :: r) = zjx c v ++ yg c r := rfl
  rw [zaf, hc, List.all_append]
  have hvr := hv v (by simp)
  cases hav : qr c v with
  | none =>
   exfalso
   unfold qr at hav
   simp at hav
   omega
  | some a =>
   have hw : zjx c v = a.when_ := by unfold zjx; rw [hav]
   obtain ⟨g1, g2⟩ := yel hm hF a.when_ done q (ha a (zfq hav)) hq
   rw [hw]
   simp only
   cases hwn : zdf a.when_ q with
   | none =>
    rw [hwn] at g1
    simp only
    rw [<- g1]
    exact ⟨rfl, fun _ h => by cases h⟩
   | some q1 =>
    rw [hwn] at g1
    simp only
    rw [<- g1]
    obtain ⟨f1, f2⟩ := yem hm hF ha r (done ++ a.when_) q1 (fun x hx => hv x (by simp [hx])) (g2 q1 hwn)
    exact ⟨by simpa using f1, fun q' h => by have := f2 q' h; simpa using this⟩
theorem yvq (c : Codex) : RefOK c sr0 [] := ⟨rfl, fun e he => by simp [sr0] at he, fun f x => by simp [zda, sr0, zr], fun p vs => by simp [yob, sr0], fun x hx => by simp [sr0] at hx⟩
def zmb (v : Int) (l : List Int) (r : Int) : Int := l.foldl (fun r x => if x <= v /\ r < x then x else r) r
theorem zeh (v : Int) : ∀ (l : List Int) (r : Int), r <= v -> r <= zmb v l r /\ zmb v l r <= v /\ (zmb v l r = r \/ zmb v l r ∈ l) /\ ∀ x ∈ l, x <= v -> x <= zmb v l r
 | [], r, h => ⟨Int.le_refl _, h, .inl rfl, fun x hx => by cases hx⟩
 | y :: l, r, h => by
  have e : zmb v (y :: l) r = zmb v l (if y <= v /\ r < y then y else r) := rfl
  rw [e]
  by_cases hy : y <= v /\ r < y
  ·rw [if_pos hy]
   obtain ⟨a, b, d, g⟩ := zeh v l y hy.1
   refine ⟨by omega, b, .inr ?_, fun x hx hv => ?_⟩
   ·rcases d with d | d
    ·rw [d]; simp
    ·simp [d]
   ·rcases List.mem_cons.1 hx with rfl | hx
    ·exact a
    ·exact g x hx hv
  ·rw [if_neg hy]
   obtain ⟨a, b, d, g⟩ := zeh v l r h
   refine ⟨a, b, d.imp id fun d => by simp [d], fun x hx hv => ?_⟩
   rcases List.mem_cons.1 hx with rfl | hx
   ·omega
   ·exact g x hx hv
def ymv (nf : Nat) (q : Sr) (v : List Int) : List Int := (List.range nf).map fun (i : Nat) => zmb (v.getD i 0) (zda q i) 0
theorem zpa (nf : Nat) (q : Sr) (v : List Int) (i : Nat) : (ymv nf q v).getD i 0 = if i < nf then zmb (v.getD i 0) (zda q i) 0 else 0 := by
 unfold ymv
 rw [List.getD_eq_getElem?_getD, List.getElem?_map]
 by_cases h : i < nf
 ·rw [if_pos h, List.getElem?_range h]; rfl
 ·rw [if_neg h, List.getElem?_eq_none (by simp; omega)]; rfl
theorem yrr {op v v' n : Int} (h : v' <= v) (h1 : n <= v -> n <= v') (h2 : n + 1 <= v -> n + 1 <= v') : zrv op v' n = zrv op v n /\ zrv op n v' = zrv op n v := by
 unfold zrv
 constructor
 ·split
  ·rw [decide_eq_decide]; omega
  ·split
   ·rw [decide_eq_decide]; omega
   ·rw [decide_eq_decide]; omega
 ·split
  ·rw [decide_eq_decide]; omega
  ·split
   ·rw [decide_eq_decide]; omega
   ·rw [decide_eq_decide]; omega
theorem ztq {p : zen} {vs : List Int} {e : Ex} (h : e.op = 2) : zcz p vs e = vs.getD e.n.toNat 0 := by unfold zcz; rw [if_pos h]
theorem zrh {p : zen} {vs : List Int} {e : Ex} (h : e.op = 1) : zcz p vs e = e.n := by unfold zcz; rw [if_neg (by omega), if_neg (by omega)]
theorem ztr {p : zen} {vs vs' : List Int} {e : Ex} (h : e.op ≠ 2) : zcz p vs e = zcz p vs' e := by unfold zcz; rw [if_neg h, if_neg h]
theorem zgu {c : Codex} {m : List (Int × Int)} {p : zen} {vs vs' : List Int} (h0 : ∀ i : Nat, 0 <= vs'.getD i 0 /\ vs'.getD i 0 <= vs.getD i 0) (hT : ∀ i : Nat, zjy c i = true -> vs.getD i 0 <= 1) :
  ∀ (N : Nat) (e : Ex), SizeOf.sizeOf e < N -> zel c m e -> e.unit = tT -> simpE c e = true -> (∀ (f : Nat) x, cE c f x e -> x <= vs.getD f 0 -> x <= vs'.getD f 0) -> holdsE p vs' e = holdsE p vs e
 | 0, _, h, _, _, _, _ => by omega
 | N + 1, .mk op n u den ps ks, hN, h, hu, hs, hc => by
  simp only [Ex.mk.sizeOf_spec] at hN
  have hu : u = tT := hu
  cases zji h hu with
  | const h1 hk hu =>
   subst h1 hk
   unfold holdsE
   rfl
  | fact h1 hk hr ht =>
   subst h1 hk
   obtain ⟨i, rfl⟩ : ∃ i : Nat, n = i := ⟨n.toNat, by omega⟩
   have h3 := hc i 1 (by unfold cE; exact .inl ⟨rfl, rfl, .inr ⟨ht, rfl⟩⟩)
   have h4 := h0 i
   have e1 : ∀ w : List Int, holdsE p w (.mk 2 (i : Int) u den ps []) = !decide (w.getD i 0 = 0) := fun w => by unfold holdsE; rfl
   rw [e1, e1]
   congr 1
   rw [decide_eq_decide]
   omega
  | neg k h1 hk hka hku =>
   subst h1 hk
   simp only [List.cons.sizeOf_spec] at hN
   have hsk : simpE c k = true := by
    rw [simpE.eq_def] at hs
    simpa only [show ¬ (5 : Int) = 1 by decide, show ¬ (5 : Int) = 2 by decide, if_false, if_true] using hs
   have := zgu (p := p) h0 hT N k (by omega) hka hku hsk (fun f x hx => hc f x (by rw [cE.eq_def]; exact .inr hx))
   rw [holdsE.eq_def, holdsE.eq_def p vs]
   simp only [if_true]
   rw [this]
  | conn k l h1 hk hka hla hku hlu =>
   subst hk
   simp only [List.cons.sizeOf_spec] at hN
   have hsE : simpE c (.mk op n u den ps [k, l]) = (simpE c k && simpE c l) := by
    rw [simpE.eq_def]
    simp only
    rw [if_neg (by omega), if_neg (by omega), if_neg (by omega), if_pos h1]
   rw [hsE, Bool.and_eq_true] at hs
   have g1 := zgu (p := p) h0 hT N k (by omega) hka hku hs.1 (fun f x hx => hc f x (by rw [cE.eq_def]; exact .inr (.inl hx)))
   have g2 := zgu (p := p) h0 hT N l (by omega) hla hlu hs.2 (fun f x hx => hc f x (by rw [cE.eq_def]; exact .inr (.inr (.inl hx))))
   rw [holdsE.eq_def, holdsE.eq_def p vs]
   simp only
   rw [g1, g2]
   rcases h1 with rfl | rfl <;> rfl
  | cmp k l h1 hk hka hla =>
   subst hk
   rw [zfu h1] at hs
   simp only [Bool.and_eq_true, Bool.or_eq_true, decide_eq_true_eq] at hs
   have hlk := zeg hka (zfa hs.1.1)
   have hll := zeg hla (zfa hs.1.2)
   have hce : zhf op = true := by unfold zhf; rcases h1 with rfl | rfl | rfl <;> rfl
   rw [zni h1, zni h1]
   have key : ∀ a b : Ex, LeafE c a -> a.op = 2 -> b.op = 1 -> (∀ (f : Nat) x, cE c f x a -> x <= vs.getD f 0 -> x <= vs'.getD f 0) -> (∀ (f : Nat) x, cP c f x a b -> x <= vs.getD f 0 -> x <= vs'.getD f 0) ->
     zrv op (zcz p vs' a) (zcz p vs' b) = zrv op (zcz p vs a) (zcz p vs b) /\ zrv op (zcz p vs' b) (zcz p vs' a) = zrv op (zcz p vs b) (zcz p vs a) := by
    intro a b ha ha2 hb1 hx hy
    rw [ztq ha2, ztq ha2, zrh hb1, zrh hb1]
    obtain ⟨i, hi⟩ : ∃ i : Nat, a.n = i := ⟨a.n.toNat, by have := ha.k2 ha2; omega⟩
    rw [show a.n.toNat = i by omega]
    have h3 := h0 i
    cases ht : zjy c i with
    | true =>
     have h4 := hT i ht
     have h5 := hx i 1 ((zvy ha).2 ⟨ha2, hi, .inr ⟨ht, rfl⟩⟩)
     rw [show vs'.getD i 0 = vs.getD i 0 by omega]
     exact ⟨rfl, rfl⟩
    | false =>
     exact yrr h3.2 (hy i _ ⟨ha2, hi, hb1, ht, .inl rfl⟩) (hy i _ ⟨ha2, hi, hb1, ht, .inr rfl⟩)
   by_cases hk2 : k.op = 2
   ·exact (key k l hlk hk2 (by omega) (fun f x hx => hc f x (by rw [cE.eq_def]; exact .inr (.inl hx))) (fun f x hx => hc f x (by rw [cE.eq_def]; exact .inr (.inr (.inr ⟨hce, .inl hx⟩))))).1
   ·by_cases hl2 : l.op = 2
    ·exact (key l k hll hl2 (by omega) (fun f x hx => hc f x (by rw [cE.eq_def]; exact .inr (.inr (.inl hx)))) (fun f x hx => hc f x (by rw [cE.eq_def]; exact .inr (.inr (.inr ⟨hce, .inr hx⟩))))).2
    ·rw [ztr (vs' := vs) hk2, ztr (vs' := vs) hl2]
  | other h1 h2 h3 h4 h5 =>
   exfalso
   unfold simpE at hs
   rw [if_neg h1, if_neg h2, if_neg h3, if_neg h4] at hs
   have hce : zhf op = false := by unfold zhf; simp; omega
   split at hs
   ·simp [hce] at hs
   ·cases hs
theorem zze {v v' w : List Int} (h : ∀ i : Nat, v'.getD i 0 <= v.getD i 0) : ∀ fs : List Int, zqo fs v w = true -> zqo fs v' w = true
 | [], hl => by cases hl
 | f :: r, hl => by
  simp only [zqo] at hl ⊢
  have := h f.toNat
  by_cases e : v.getD f.toNat 0 = w.getD f.toNat 0
  ·rw [if_neg (by omega)] at hl
   by_cases e' : v'.getD f.toNat 0 = w.getD f.toNat 0
   ·rw [if_neg (by omega)]; exact zze h r hl
   ·rw [if_pos e']; exact decide_eq_true (by omega)
  ·rw [if_pos e] at hl
   have := of_decide_eq_true hl
   rw [if_pos (by omega)]; exact decide_eq_true (by omega)
theorem zbl {c : Codex} (h : zu c = true) : ∃ m, zob m /\ ∀ a ∈ c.arts, ∀ e ∈ a.when_, zzd c m e := by
 unfold zu at h
 simp only [Bool.and_eq_true, decide_eq_true_eq] at h
 obtain ⟨_, h6⟩ := h
 cases hl : ws c.lines.length c.arts [] with
 | none => rw [hl] at h6; cases h6
 | some m =>
  rw [hl] at h6
  simp only [List.all_eq_true] at h6
  refine ⟨m, zie _ _ _ _ hl (fun k v h => by cases h), fun a ha e he => ?_⟩
  have := h6 a ha
  unfold zkk at this
  simp only [Bool.and_eq_true, List.all_eq_true] at this
  have hw := this.1.2 e he
  refine ⟨(zqx hw).1, ?_⟩
  unfold qe at hw
  split at hw
  ·assumption
  ·cases hw
theorem zts {vs : List Int} {v : Int} (h : v ∈ zy vs) : v ∈ vs := (List.mergeSort_perm vs fun x y => decide (x <= y)).mem_iff.1 (zgp h)
theorem ztt (c : Codex) : ∀ (vs : List Int) (r : Int × Int), r.1 <= (vs.foldl (zeu c) r).1 /\ (vs.foldl (zeu c) r).2 <= r.2
 | [], r => ⟨Int.le_refl _, Int.le_refl _⟩
 | v :: vs, r => by
  rw [List.foldl_cons]
  have := ztt c vs (zeu c r v)
  have h2 : r.1 <= (zeu c r v).1 /\ (zeu c r v).2 <= r.2 := by
   unfold zeu
   split
   ·constructor <;> simp only <;> omega
   ·exact ⟨Int.le_refl _, Int.le_refl _⟩
  omega
theorem ztu {c : Codex} (h : zu c = true) (hF : c.facts.length <= 12) {vs : List Int} (hv : ∀ v ∈ vs, 0 <= v /\ v < c.arts.length) :
  (zaf c (zy vs) sr0).isSome = (yg c (zy vs)).all (simpE c) /\ ∀ q, zaf c (zy vs) sr0 = some q -> RefOK c q (yg c (zy vs)) := by
 obtain ⟨m, hm, hc⟩ := zbl h
 have := yem hm hF hc (zy vs) [] sr0 (fun v hvv => hv v (zts hvv)) (yvq c)
 simpa using this
def yhf (c : Codex) (v : List Int) : Prop := ∀ i : Nat, 0 <= v.getD i 0 /\ (zjy c i = true -> v.getD i 0 <= 1)
theorem ylz {nf : Nat} {q : Sr} {k : Nat} (hq : CFull nf q k) (hz : zre q) {v : List Int} (h0 : ∀ i : Nat, 0 <= v.getD i 0) : zgn q nf (ymv nf q v) := by
 refine ⟨by simp [ymv, st0], fun e he => ?_, fun i hi => ?_⟩
 ·obtain ⟨f, hf, rfl⟩ := List.mem_map.1 he
  obtain ⟨e, hee, rfl⟩ := List.mem_map.1 (zft.1 hf)
  have hr := hq.inv.rng e hee
  have hl := zcu hq.inv.nd hee
  show (ymv nf q v).getD e.1.toNat 0 ∈ zeb ((zr e.1 q.cands).getD [])
  rw [zft, hl, zpa, if_pos (by omega)]
  have hc : zda q (e.1.toNat : Int) = e.2 := by unfold zda; rw [Int.toNat_of_nonneg hr.1, hl]; rfl
  rw [hc]
  obtain ⟨_, _, d, _⟩ := zeh (v.getD e.1.toNat 0) e.2 0 (h0 _)
  rcases d with d | d
  ·rw [d]; exact hz e hee
  ·exact d
 ·have hz' : (st0 nf 0).vs.getD i 0 = 0 := by
   simp only [st0, List.getD_eq_getElem?_getD, List.getElem?_replicate]
   split <;> rfl
  rw [hz', zpa]
  split
  ·have hn : zr (i : Int) q.cands = none := by
    cases hl : zr (i : Int) q.cands with
    | none => rfl
    | some w =>
     exfalso
     have hm := zcb hl
     refine hi (_, _) (List.mem_map.2 ⟨(i : Int), zft.2 (List.mem_map.2 ⟨_, hm, rfl⟩), rfl⟩) ?_
     simp
   unfold zda
   rw [hn]
   rfl
  ·rfl
theorem yrs {c : Codex} (h : zu c = true) (hF : c.facts.length <= 12) (hw : ∀ a ∈ c.arts, a.when_.length <= 41) {vs : List Int} (hv : ∀ v ∈ vs, 0 <= v /\ v < c.arts.length) {q : Sr} (hq : xw c vs = some q) :
  (∀ w, qw c (zy vs) q = some w -> (xg c (zy vs)).1 <= w.day /\ w.day < (xg c (zy vs)).2 /\ w.value.length = c.facts.length /\ w.has = ((List.range c.facts.length).map fun (i : Nat) => (zr (i : Int) q.cands).isSome) /\ w.arts = zy vs /\
   (∀ e ∈ yg c (zy vs), holdsE (yx w.day) w.value e = true) /\ zgn q c.facts.length w.value /\
   ∀ d v, (xg c (zy vs)).1 <= d -> d < (xg c (zy vs)).2 -> yhf c v -> (∀ e ∈ yg c (zy vs), holdsE (yx d) v e = true) -> w.day <= d /\ (w.day = d -> zqo (zqp q) v w.value = false)) /\
  (qw c (zy vs) q = none -> ∀ d v, (xg c (zy vs)).1 <= d -> d < (xg c (zy vs)).2 -> yhf c v -> ¬ ∀ e ∈ yg c (zy vs), holdsE (yx d) v e = true) := by
 obtain ⟨hfull, hgo⟩ := zrc h hF hw hv hq
 obtain ⟨hs1, hs2⟩ := ztu h hF hv
 have hR := hs2 q hgo
 rw [hgo] at hs1
 have hsimp : ∀ e ∈ yg c (zy vs), simpE c e = true := List.all_eq_true.1 hs1.symm
 obtain ⟨m, hm, hc⟩ := zbl h
 have hN : ∀ e ∈ yg c (zy vs), zzd c m e := fun e he => by
  unfold yg at he
  obtain ⟨v, hvv, he⟩ := List.mem_flatMap.1 he
  unfold zjx at he
  cases ha : qr c v with
  | none => rw [ha] at he; cases he
  | some a => rw [ha] at he; exact hc a (zfq ha) e he
 have hfw := ztt c (zy vs) (0, 36525)
 have hfr : (zy vs).foldl (zeu c) (0, 36525) = xg c (zy vs) := rfl
 rw [hfr] at hfw
 simp only at hfw
 obtain ⟨w1, w2⟩ := ykq (ylx hfull) hR.dates hfw.1 hfw.2
 have low : ∀ d v, yhf c v -> (∀ e ∈ yg c (zy vs), holdsE (yx d) v e = true) -> zgn q c.facts.length (ymv c.facts.length q v) /\ zwi q d (ymv c.facts.length q v) /\ ∀ i : Nat, (ymv c.facts.length q v).getD i 0 <= v.getD i 0 := by
  intro d v hg hh
  have hb : ∀ i : Nat, 0 <= (ymv c.facts.length q v).getD i 0 /\ (ymv c.facts.length q v).getD i 0 <= v.getD i 0 := fun i => by
   rw [zpa]
   have h0 := (hg i).1
   split
   ·obtain ⟨a, b, _, _⟩ := zeh (v.getD i 0) (zda q i) 0 h0
    exact ⟨a, b⟩
   ·exact ⟨Int.le_refl _, h0⟩
  refine ⟨ylz hfull hR.zero fun i => (hg i).1, (hR.sat _ _).2 fun e he => ?_, fun i => (hb i).2⟩
  have := zgu (p := yx d) (m := m) hb (fun i => (hg i).2) _ e (Nat.lt_succ_self _) (hN e he).1 (hN e he).2 (hsimp e he) (fun f x hx hxv => by
   rw [zpa]
   by_cases hf : f < c.facts.length
   ·rw [if_pos hf]
    obtain ⟨_, _, _, g⟩ := zeh (v.getD f 0) (zda q f) 0 (hg f).1
    exact g x ((hR.mem _ _).2 ⟨e, he, hx⟩) hxv
   ·exfalso
    have hm := (hR.mem f x).2 ⟨e, he, hx⟩
    unfold zda at hm
    cases hl : zr (f : Int) q.cands with
    | none => rw [hl] at hm; cases hm
    | some l => have := hfull.inv.rng _ (zcb hl); simp only at this; omega)
  rw [this]
  exact hh e he
 unfold qw
 simp only
 constructor
 ·intro w hw
  cases hg : zbz q c.facts.length (min (xg c (zy vs)).2 ((xg c (zy vs)).1 + yv q.dates) - (xg c (zy vs)).1).toNat (xg c (zy vs)).1 [] with
  | none => rw [hg] at hw; cases hw
  | some z =>
   obtain ⟨d, vals⟩ := z
   rw [hg] at hw
   simp only [Option.some.injEq] at hw
   subst hw
   obtain ⟨a1, a2, a3, a4, a5⟩ := w1 d vals hg
   refine ⟨a1, a2, by have := a3.len; simpa [st0] using this, rfl, rfl, (hR.sat _ _).1 a4, a3, fun d' v' b1 b2 b3 b4 => ?_⟩
   obtain ⟨l1, l2, l3⟩ := low d' v' b3 b4
   obtain ⟨g1, g2⟩ := a5 d' _ b1 b2 l1 l2
   refine ⟨g1, fun e => ?_⟩
   have := g2 e
   cases hless : zqo (zqp q) v' vals with
   | false => rfl
   | true => rw [zze l3 _ hless] at this; cases this
 ·intro hw
  cases hg : zbz q c.facts.length (min (xg c (zy vs)).2 ((xg c (zy vs)).1 + yv q.dates) - (xg c (zy vs)).1).toNat (xg c (zy vs)).1 [] with
  | some z => obtain ⟨d, vals⟩ := z; rw [hg] at hw; cases hw
  | none =>
   intro d v b1 b2 b3 b4
   obtain ⟨l1, l2, _⟩ := low d v b3 b4
   exact w2 hg d _ b1 b2 l1 l2
def ztv (n : Int) : List Int -> List Int
 | [] => [n]
 | x :: r => if n < x then n :: x :: r else x :: ztv n r
def zmc (l : List Int) (n : Int) : List Int := if n < 0 \/ 1000000000000 < n \/ n ∈ l then l else ztv n l
theorem zwa {x n : Int} : ∀ l : List Int, x ∈ ztv n l ↔ x = n \/ x ∈ l
 | [] => by simp [ztv]
 | y :: r => by
  unfold ztv
  split
  ·simp
  ·simp only [List.mem_cons, zwa r]
   constructor
   ·rintro (h | h | h)
    ·exact .inr (.inl h)
    ·exact .inl h
    ·exact .inr (.inr h)
   ·rintro (h | h | h)
    ·exact .inr (.inl h)
    ·exact .inl h
    ·exact .inr (.inr h)
theorem yen {n : Int} : ∀ l : List Int, l.Pairwise (· < ·) -> n ∉ l -> (ztv n l).Pairwise (· < ·)
 | [], _, _ => by simp [ztv]
 | y :: r, h, hn => by
  simp only [List.pairwise_cons] at h
  simp only [List.mem_cons, not_or] at hn
  unfold ztv
  split
  ·rename_i hlt
   simp only [List.pairwise_cons, List.mem_cons]
   refine ⟨fun a ha => ?_, h.1, h.2⟩
   rcases ha with rfl | ha
   ·exact hlt
   ·have := h.1 a ha; omega
  ·simp only [List.pairwise_cons]
   refine ⟨fun a ha => ?_, yen r h.2 hn.2⟩
   rcases (zwa r).1 ha with rfl | ha
   ·omega
   ·exact h.1 a ha
theorem yeo (n : Int) : ∀ l : List Int, (ztv n l).length = l.length + 1
 | [] => rfl
 | x :: r => by
  unfold ztv
  split
  ·rfl
  ·simp [yeo n r]
theorem zmd {x n : Int} {l : List Int} (h0 : 0 <= n) (h1 : n <= 1000000000000) : x ∈ zmc l n ↔ x ∈ l \/ x = n := by
 unfold zmc
 split
 ·rename_i h
  have h : n ∈ l := by
   rcases h with h | h | h
   ·omega
   ·omega
   ·exact h
  constructor
  ·exact .inl
  ·rintro (h2 | rfl)
   ·exact h2
   ·exact h
 ·rw [zwa]; exact Or.comm
theorem zme {n : Int} {l : List Int} (h : l.Pairwise (· < ·)) : (zmc l n).Pairwise (· < ·) := by
 unfold zmc
 split
 ·exact h
 ·rename_i h1
  exact yen l h fun h2 => h1 (.inr (.inr h2))
theorem zjl (l : List Int) (n : Int) : (zmc l n).length <= l.length + 1 := by
 unfold zmc
 split
 ·omega
 ·rw [yeo]; omega
theorem ybq : ∀ l l' : List Int, l.Pairwise (· < ·) -> l'.Pairwise (· < ·) -> (∀ x, x ∈ l ↔ x ∈ l') -> l = l'
 | [], [], _, _, _ => rfl
 | [], b :: r', _, _, h => by have := (h b).2 (by simp); cases this
 | a :: r, [], _, _, h => by have := (h a).1 (by simp); cases this
 | a :: r, b :: r', h1, h2, h => by
  simp only [List.pairwise_cons] at h1 h2
  have e : a = b := by
   rcases List.mem_cons.1 ((h a).1 (by simp)) with e | ha
   ·exact e
   ·rcases List.mem_cons.1 ((h b).2 (by simp)) with e | hb
    ·exact e.symm
    ·have := h1.1 b hb; have := h2.1 a ha; omega
  subst e
  refine congrArg _ (ybq r r' h1.2 h2.2 fun x => ?_)
  constructor
  ·intro hx
   rcases List.mem_cons.1 ((h x).1 (by simp [hx])) with rfl | hx'
   ·have := h1.1 x hx; omega
   ·exact hx'
  ·intro hx
   rcases List.mem_cons.1 ((h x).2 (by simp [hx])) with rfl | hx'
   ·have := h2.1 x hx; omega
   ·exact hx'
def zeo (c : Codex) (f op : Int) (k o : Ex) (l : List Int) : List Int := if zhf op = true /\ k.op = 2 /\ k.n = f /\ o.op = 1 /\ zjy c f = false then zmc (zmc l o.n) (o.n + 1) else l
def zbo (c : Codex) (f op n : Int) (l : List Int) : List Int := if op = 2 /\ n = f then (if zjy c f = true then zmc (zmc l 0) 1 else zmc l 0) else l
def candE (c : Codex) (f : Int) : Ex -> List Int -> List Int
 | .mk op n _ _ _ ks, l => match ks with
  | [k] => candE c f k (zbo c f op n l)
  | [k, r] => zeo c f op r k (candE c f r (zeo c f op k r (candE c f k (zbo c f op n l))))
  | _ => zbo c f op n l
def yep (c : Codex) (f : Int) (es : List Ex) : List Int := es.foldl (fun l e => candE c f e l) []
theorem zei {c : Codex} {f op n x : Int} {l : List Int} : x ∈ zbo c f op n l ↔ x ∈ l \/ (op = 2 /\ n = f /\ (x = 0 \/ (zjy c f = true /\ x = 1))) := by
 unfold zbo
 by_cases h : op = 2 /\ n = f
 ·rw [if_pos h]
  cases ht : zjy c f with
  | true =>
   rw [if_pos rfl, zmd (by omega) (by omega), zmd (by omega) (by omega)]
   constructor
   ·rintro ((h1 | h1) | h1)
    ·exact .inl h1
    ·exact .inr ⟨h.1, h.2, .inl h1⟩
    ·exact .inr ⟨h.1, h.2, .inr ⟨rfl, h1⟩⟩
   ·rintro (h1 | ⟨_, _, h1 | ⟨_, h1⟩⟩)
    ·exact .inl (.inl h1)
    ·exact .inl (.inr h1)
    ·exact .inr h1
  | false =>
   rw [if_neg (by simp), zmd (by omega) (by omega)]
   constructor
   ·rintro (h1 | h1)
    ·exact .inl h1
    ·exact .inr ⟨h.1, h.2, .inl h1⟩
   ·rintro (h1 | ⟨_, _, h1 | ⟨h1, _⟩⟩)
    ·exact .inl h1
    ·exact .inr h1
    ·cases h1
 ·rw [if_neg h]
  constructor
  ·exact .inl
  ·rintro (h1 | ⟨h1, h2, _⟩)
   ·exact h1
   ·exact absurd ⟨h1, h2⟩ h
theorem zej {c : Codex} {f op n : Int} {l : List Int} (h : l.Pairwise (· < ·)) : (zbo c f op n l).Pairwise (· < ·) := by
 unfold zbo
 split
 ·split
  ·exact zme (zme h)
  ·exact zme h
 ·exact h
theorem zzf {c : Codex} {f op x : Int} {k o : Ex} {l : List Int} (ho : LeafE c o) : x ∈ zeo c f op k o l ↔ x ∈ l \/ (zhf op = true /\ cP c f x k o) := by
 unfold zeo cP
 by_cases h : zhf op = true /\ k.op = 2 /\ k.n = f /\ o.op = 1 /\ zjy c f = false
 ·rw [if_pos h]
  obtain ⟨h1, h2, h3, h4, h5⟩ := h
  have := ho.k1 h4
  rw [zmd (by omega) (by omega), zmd (by omega) (by omega)]
  constructor
  ·rintro ((h | h) | h)
   ·exact .inl h
   ·exact .inr ⟨h1, h2, h3, h4, h5, .inl h⟩
   ·exact .inr ⟨h1, h2, h3, h4, h5, .inr h⟩
  ·rintro (h | ⟨_, _, _, _, _, h | h⟩)
   ·exact .inl (.inl h)
   ·exact .inl (.inr h)
   ·exact .inr h
 ·rw [if_neg h]
  constructor
  ·exact .inl
  ·rintro (h1 | ⟨h1, h2, h3, h4, h5, _⟩)
   ·exact h1
   ·exact absurd ⟨h1, h2, h3, h4, h5⟩ h
theorem zzg {c : Codex} {f op : Int} {k o : Ex} {l : List Int} (h : l.Pairwise (· < ·)) : (zeo c f op k o l).Pairwise (· < ·) := by
 unfold zeo
 split
 ·exact zme (zme h)
 ·exact h
theorem zwb {c : Codex} {f op : Int} (h : zhf op = false) (k o : Ex) (l : List Int) : zeo c f op k o l = l := by
 unfold zeo
 rw [if_neg (fun h2 => by rw [h] at h2; cases h2.1)]
theorem ztw {c : Codex} {f : Int} {k : Ex} (h : LeafE c k) (l : List Int) : candE c f k l = zbo c f k.op k.n l := by
 obtain ⟨op, n, u, den, ps, ks⟩ := k
 have hk : ks = [] := h.no
 subst hk
 unfold candE
 rfl
theorem zjm {c : Codex} {m : List (Int × Int)} {f : Int} : ∀ (N : Nat) (e : Ex), SizeOf.sizeOf e < N -> zel c m e -> e.unit = tT -> simpE c e = true -> ∀ l : List Int, l.Pairwise (· < ·) -> (candE c f e l).Pairwise (· < ·) /\ ∀ x, x ∈ candE c f e l ↔ x ∈ l \/ cE c f x e
 | 0, _, h, _, _, _, _, _ => by omega
 | N + 1, .mk op n u den ps ks, hN, h, hu, hs, l, hl => by
  simp only [Ex.mk.sizeOf_spec] at hN
  have hu : u = tT := hu
  cases zji h hu with
  | const h1 hk hu =>
   subst hk
   refine ⟨by unfold candE; exact zej hl, fun x => ?_⟩
   unfold candE
   rw [cE.eq_def]
   simp only [zei, or_false]
  | fact h1 hk hr ht =>
   subst hk
   refine ⟨by unfold candE; exact zej hl, fun x => ?_⟩
   unfold candE
   rw [cE.eq_def]
   simp only [zei, or_false]
  | neg k h1 hk hka hku =>
   subst h1 hk
   simp only [List.cons.sizeOf_spec] at hN
   have hsk : simpE c k = true := by
    rw [simpE.eq_def] at hs
    simpa only [show ¬ (5 : Int) = 1 by decide, show ¬ (5 : Int) = 2 by decide, if_false, if_true] using hs
   have := zjm (f := f) N k (by omega) hka hku hsk (zbo c f 5 n l) (zej hl)
   refine ⟨by rw [candE.eq_def]; exact this.1, fun x => ?_⟩
   rw [candE.eq_def, cE.eq_def]
   simp only
   rw [this.2, zei, or_assoc]
  | conn k r h1 hk hka hra hku hru =>
   subst hk
   simp only [List.cons.sizeOf_spec] at hN
   have hsE : simpE c (.mk op n u den ps [k, r]) = (simpE c k && simpE c r) := by
    rw [simpE.eq_def]
    simp only
    rw [if_neg (by omega), if_neg (by omega), if_neg (by omega), if_pos h1]
   rw [hsE, Bool.and_eq_true] at hs
   have hc : zhf op = false := by unfold zhf; rcases h1 with rfl | rfl <;> rfl
   have g1 := zjm (f := f) N k (by omega) hka hku hs.1 (zbo c f op n l) (zej hl)
   have g2 := zjm (f := f) N r (by omega) hra hru hs.2 _ g1.1
   have e : candE c f (.mk op n u den ps [k, r]) l = candE c f r (candE c f k (zbo c f op n l)) := by
    rw [candE.eq_def]
    simp only
    rw [zwb hc, zwb hc]
   rw [e]
   refine ⟨g2.1, fun x => ?_⟩
   rw [g2.2, g1.2, zei, cE.eq_def c f x (.mk op n u den ps [k, r])]
   simp only [hc]
   constructor
   ·rintro (((h | h) | h) | h)
    ·exact .inl h
    ·exact .inr (.inl h)
    ·exact .inr (.inr (.inl h))
    ·exact .inr (.inr (.inr (.inl h)))
   ·rintro (h | h | h | h | h)
    ·exact .inl (.inl (.inl h))
    ·exact .inl (.inl (.inr h))
    ·exact .inl (.inr h)
    ·exact .inr h
    ·cases h.1
  | cmp k r h1 hk hka hra =>
   subst hk
   rw [zfu h1] at hs
   simp only [Bool.and_eq_true, Bool.or_eq_true, decide_eq_true_eq] at hs
   have hlk := zeg hka (zfa hs.1.1)
   have hlr := zeg hra (zfa hs.1.2)
   have e : candE c f (.mk op n u den ps [k, r]) l = zeo c f op r k (zbo c f r.op r.n (zeo c f op k r (zbo c f k.op k.n (zbo c f op n l)))) := by
    rw [candE.eq_def]
    simp only
    rw [ztw hlk, ztw hlr]
   rw [e]
   refine ⟨zzg (zej (zzg (zej (zej hl)))), fun x => ?_⟩
   rw [zzf hlk, zei, zzf hlr, zei, zei, cE.eq_def, <- zvy hlk, <- zvy hlr]
   simp only
   constructor
   ·rintro (((((h | h) | h) | h) | h) | h)
    ·exact .inl h
    ·exact .inr (.inl h)
    ·exact .inr (.inr (.inl h))
    ·exact .inr (.inr (.inr (.inr ⟨h.1, .inl h.2⟩)))
    ·exact .inr (.inr (.inr (.inl h)))
    ·exact .inr (.inr (.inr (.inr ⟨h.1, .inr h.2⟩)))
   ·rintro (h | h | h | h | ⟨h, h' | h'⟩)
    ·exact .inl (.inl (.inl (.inl (.inl h))))
    ·exact .inl (.inl (.inl (.inl (.inr h))))
    ·exact .inl (.inl (.inl (.inr h)))
    ·exact .inl (.inr h)
    ·exact .inl (.inl (.inr ⟨h, h'⟩))
    ·exact .inr ⟨h, h'⟩
  | other h1 h2 h3 h4 h5 =>
   exfalso
   unfold simpE at hs
   rw [if_neg h1, if_neg h2, if_neg h3, if_neg h4] at hs
   have hce : zhf op = false := by unfold zhf; simp; omega
   split at hs
   ·simp [hce] at hs
   ·cases hs
theorem ztx {c : Codex} {m : List (Int × Int)} {f : Int} : ∀ (es : List Ex), (∀ e ∈ es, zzd c m e /\ simpE c e = true) -> ∀ l : List Int, l.Pairwise (· < ·) -> (es.foldl (fun l e => candE c f e l) l).Pairwise (· < ·) /\ ∀ x, x ∈ es.foldl (fun l e => candE c f e l) l ↔ x ∈ l \/ ∃ e ∈ es, cE c f x e
 | [], _, l, hl => ⟨hl, fun x => by simp⟩
 | e :: r, h, l, hl => by
  obtain ⟨⟨h1, h2⟩, h3⟩ := h e (by simp)
  have g := zjm (f := f) _ e (Nat.lt_succ_self _) h1 h2 h3 l hl
  have g2 := ztx (f := f) r (fun x hx => h x (by simp [hx])) _ g.1
  rw [List.foldl_cons]
  refine ⟨g2.1, fun x => ?_⟩
  rw [g2.2, g.2, or_assoc]
  simp
theorem yrt {c : Codex} {m : List (Int × Int)} {q : Sr} {nf k : Nat} {es : List Ex} (hf : CFull nf q k) (hR : RefOK c q es) (he : ∀ e ∈ es, zzd c m e /\ simpE c e = true) (f : Int) : yep c f es = zeb (zda q f) := by
 obtain ⟨g1, g2⟩ := ztx (f := f) es he [] .nil
 refine ybq _ _ g1 (zyy ?_) fun x => ?_
 ·unfold zda
  cases hl : zr f q.cands with
  | none => simp
  | some w => exact hf.inv.ndv _ (zcb hl)
 ·rw [zft, hR.mem]
  have := g2 x
  simpa [yep] using this
def zek (ns : List Int) : Int := ns.foldr (· * ·) 1
def yma (B : Int) (ns : List Int) (p : Int) : Int := ns.foldl (fun p n => min (p * n) B) p
theorem znj {B : Int} (hB : 1 <= B) : ∀ (ns : List Int) (p : Int), 1 <= p -> (∀ n ∈ ns, 1 <= n) -> yma B ns (min p B) = min (p * zek ns) B
 | [], p, _, _ => by simp [yma, zek]
 | n :: r, p, hp, h => by
  have h1 := h n (by simp)
  have hpn : p <= p * n := by
   have := Int.mul_le_mul_of_nonneg_left h1 (show 0 <= p by omega)
   omega
  have hBn : B <= B * n := by
   have := Int.mul_le_mul_of_nonneg_left h1 (show 0 <= B by omega)
   omega
  have e : min (min p B * n) B = min (p * n) B := by
   by_cases hb : p <= B
   ·rw [Int.min_eq_left hb]
   ·rw [Int.min_eq_right (by omega : B <= p), Int.min_eq_right hBn, Int.min_eq_right (by omega : B <= p * n)]
  show yma B r (min (min p B * n) B) = _
  rw [e, znj hB r (p * n) (by omega) fun x hx => h x (by simp [hx])]
  show min (p * n * zek r) B = min (p * (n * zek r)) B
  rw [Int.mul_assoc]
theorem zfb : ∀ a b : List Int, zek (a ++ b) = zek a * zek b
 | [], b => by simp [zek]
 | n :: a, b => by
  show n * zek (a ++ b) = n * zek a * zek b
  rw [zfb a b, Int.mul_assoc]
theorem yeq (g g' : Nat -> Int) (k : Nat) (h1 : g' k = 1) (h : ∀ i, i ≠ k -> g i = g' i) : ∀ n, zek ((List.range n).map g) = (if k < n then g k else 1) * zek ((List.range n).map g')
 | 0 => by simp [zek]
 | n + 1 => by
  rw [List.range_succ, List.map_append, List.map_append, zfb, zfb, yeq g g' k h1 h n]
  show _ * zek [g n] = _ * (_ * zek [g' n])
  have e1 : ∀ y : Int, zek [y] = y := fun y => by simp [zek]
  rw [e1, e1]
  by_cases hk : k = n
  ·subst hk
   rw [if_neg (by omega), if_pos (by omega), h1, Int.one_mul, Int.mul_one, Int.mul_comm]
  ·rw [h n (by omega)]
   by_cases hn : k < n
   ·rw [if_pos hn, if_pos (by omega), Int.mul_assoc]
   ·rw [if_neg hn, if_neg (by omega), Int.one_mul, Int.one_mul]
theorem zty (nf : Nat) : ∀ m : List (Int × List Int), (m.map (·.1)).Nodup -> (∀ e ∈ m, 0 <= e.1 /\ e.1 < nf) -> (∀ e ∈ m, 1 <= e.2.length) ->
  zek (m.map fun e => (e.2.length : Int)) = zek ((List.range nf).map fun (i : Nat) => max 1 ((((zr (i : Int) m).getD []).length : Nat) : Int))
 | [], _, _, _ => by
  have : ∀ n, zek ((List.range n).map fun (i : Nat) => max 1 ((((zr (i : Int) ([] : List (Int × List Int))).getD []).length : Nat) : Int)) = 1 := by
   intro n
   induction n with
   | zero => rfl
   | succ n ih => rw [List.range_succ, List.map_append, zfb, ih]; rfl
  rw [this]
  rfl
 | (k, l) :: r, hn, hr, hl => by
  simp only [List.map_cons, List.nodup_cons] at hn
  obtain ⟨j, hj⟩ : ∃ j : Nat, k = j := ⟨k.toNat, by have := hr (k, l) (by simp); simp only at this; omega⟩
  have hkr := hr (k, l) (by simp)
  simp only at hkr
  have hnone : zr k r = none := by
   have := zev (k := k) (l := r)
   rw [decide_eq_false hn.1] at this
   simpa using this
  rw [yeq _ (fun (i : Nat) => max 1 ((((zr (i : Int) r).getD []).length : Nat) : Int)) j]
  ·rw [if_pos (by omega), <- zty nf r hn.2 (fun e he => hr e (by simp [he])) fun e he => hl e (by simp [he])]
   have h1 := hl (k, l) (by simp)
   simp only at h1
   have e : (zr (j : Int) ((k, l) :: r)) = some l := by rw [<- hj]; simp [zr]
   rw [e]
   show (l.length : Int) * _ = max 1 (l.length : Int) * _
   rw [Int.max_eq_right (by omega)]
   rfl
  ·rw [<- hj, hnone]; rfl
  ·intro i hi
   have : zr (i : Int) ((k, l) :: r) = zr (i : Int) r := by
    simp only [zr]
    rw [if_neg]
    simp
    omega
   rw [this]
def zhi (ls : List (List Int)) : Int := ls.foldl (fun p l => min (p * max 1 (l.length : Int)) 1000000) 1
def ybr (c : Codex) (es : List Ex) : List (List Int) := (List.range c.facts.length).map fun (i : Nat) => yep c i es
def zhg (c : Codex) (vs : List Int) : Bool := (yg c vs).all (simpE c) && decide (zhi (ybr c (yg c vs)) <= 4096)
theorem zwc {α β γ : Type} (f : γ -> β -> γ) (g : α -> β) : ∀ (l : List α) (p : γ), l.foldl (fun p a => f p (g a)) p = (l.map g).foldl f p
 | [], _ => rfl
 | a :: l, p => zwc f g l _
theorem zgv {c : Codex} {P : Ex -> Prop} (h : ∀ a ∈ c.arts, ∀ e ∈ a.when_, P e) {vs : List Int} : ∀ e ∈ yg c vs, P e := fun e he => by
 unfold yg at he
 obtain ⟨v, hvv, he⟩ := List.mem_flatMap.1 he
 unfold zjx at he
 cases ha : qr c v with
 | none => rw [ha] at he; cases he
 | some a => rw [ha] at he; exact h a (zfq ha) e he
theorem zri {c : Codex} (h : zu c = true) (hF : c.facts.length <= 12) (hw : ∀ a ∈ c.arts, a.when_.length <= 41) {vs : List Int} (hv : ∀ v ∈ vs, 0 <= v /\ v < c.arts.length) :
  (xw c vs).isSome = zhg c (zy vs) /\ ∀ q, xw c vs = some q -> ∀ f, yep c f (yg c (zy vs)) = zeb (zda q f) := by
 obtain ⟨m, hm, hc⟩ := zbl h
 have hN := zgv (c := c) hc (vs := zy vs)
 obtain ⟨hs1, hs2⟩ := ztu h hF hv
 unfold zhg xw
 cases hg : zaf c (zy vs) sr0 with
 | none =>
  rw [hg] at hs1
  rw [<- hs1]
  exact ⟨rfl, fun q hq => by cases hq⟩
 | some q =>
  rw [hg] at hs1
  rw [<- hs1]
  have hR := hs2 q hg
  have hsimp : ∀ e ∈ yg c (zy vs), simpE c e = true := List.all_eq_true.1 hs1.symm
  obtain ⟨_, h60, m', hm', h4⟩ := qf h
  have hl := zjg hv
  have hfull := (zrb hm' rfl hF (fun a ha => ⟨hw a ha, (h4 a ha).2.2.1⟩) _ sr0 q 0 (yth _) hg).up (k' := 2460) (by omega)
  have hLe := yrt hfull hR fun e he => ⟨hN e he, hsimp e he⟩
  have hone : ∀ e ∈ q.cands, 1 <= e.2.length := fun e he => by
   have := hR.zero e he
   cases hh : e.2 with
   | nil => rw [hh] at this; cases this
   | cons a l => simp
  have hp1 : zfn q.cands = min (zek (q.cands.map fun e => (e.2.length : Int))) 4097 := by
   have := znj (B := 4097) (by omega) (q.cands.map fun e => (e.2.length : Int)) 1 (by omega) (fun n hn => by
    obtain ⟨e, he, rfl⟩ := List.mem_map.1 hn
    have := hone e he
    omega)
   rw [Int.one_mul] at this
   rw [<- this]
   unfold zfn yma
   exact zwc (fun p n => min (p * n) 4097) (fun e : Int × List Int => (e.2.length : Int)) q.cands 1
  have hp2 : zhi (ybr c (yg c (zy vs))) = min (zek ((List.range c.facts.length).map fun (i : Nat) => max 1 ((((zr (i : Int) q.cands).getD []).length : Nat) : Int))) 1000000 := by
   have := znj (B := 1000000) (by omega) ((List.range c.facts.length).map fun (i : Nat) => max 1 ((((zr (i : Int) q.cands).getD []).length : Nat) : Int)) 1 (by omega) (fun n hn => by
    obtain ⟨e, he, rfl⟩ := List.mem_map.1 hn
    omega)
   rw [Int.one_mul] at this
   rw [<- this]
   unfold zhi ybr yma
   rw [zwc (fun p n => min (p * n) 1000000) (fun l : List Int => max 1 (l.length : Int)), List.map_map]
   show List.foldl _ 1 _ = _
   congr 1
   refine List.map_congr_left fun i hi => ?_
   show max 1 ((yep c i (yg c (zy vs))).length : Int) = _
   rw [hLe, (List.mergeSort_perm _ _).length_eq]
   rfl
  have hpe := zty c.facts.length q.cands hfull.inv.nd hfull.inv.rng hone
  rw [<- hpe] at hp2
  simp only
  have hle : zfn q.cands <= 4096 ↔ zhi (ybr c (yg c (zy vs))) <= 4096 := by
   rw [hp1, hp2]
   omega
  refine ⟨?_, fun q' hq' f => ?_⟩
  ·by_cases h0 : zfn q.cands <= 4096
   ·rw [if_pos h0, decide_eq_true (hle.1 h0)]; rfl
   ·rw [if_neg h0, decide_eq_false (fun h1 => h0 (hle.2 h1))]; rfl
  ·split at hq'
   ·cases hq'; exact hLe f
   ·cases hq'
def ybs (c : Codex) : SObj := .cells [.imm (zk c.facts), .imm (zk c.lines), .imm (ys c.arts)]
def isDead (c : Codex) (i : Int) : Bool := (xw c [i]).isSome && (yy c [i]).isNone
theorem znk {c : Codex} (hok : zu c = true) {vs : List Int} (hv : ∀ v ∈ vs, 0 <= v /\ v < c.arts.length) : yy c vs = match xw c vs with | some s => qw c (zy vs) s | none => none := by
 have hall : vs.all (fun v => decide (0 <= v) && decide (v < c.arts.length)) = true := List.all_eq_true.2 fun v h => by
  have := hv v h
  simp only [Bool.and_eq_true, decide_eq_true_eq]
  exact this
 unfold yy
 rw [hok, hall, Bool.true_and, if_pos rfl]
 try rfl
theorem zrj {c : Codex} (hok : zu c = true) : zes c = ((List.range c.arts.length).map fun (i : Nat) => (i : Int)).filter (isDead c) := by
 unfold zes
 rw [if_pos hok]
 rfl
theorem yti (c : Codex) (hfit : Codex.fit c) (hS : zu c = true -> SearchC c) (hz : c.arts.length <= 1000000) :
  zw Tryz.prog G0 17 [c.sv] (if zu c = true then .imm (zl (zes c)) else zdm) := by
 have hal : (c.arts.map Article.cells).length = c.arts.length := by simp
 have hV := js G0 c hfit
 refine zc Tryz.func17 rfl (by rw [Tryz.ntmps17]; simp) rfl (by split <;> rfl) ?_
 intro E hH hK
 have hdo := @zrj c
 have hwi := @znk c
 generalize hz2 : zu c = z at hV hS hK hdo hwi
 rw [show c.sv = .agg [.imm (zk c.facts), .imm (zk c.lines), .imm (ys c.arts)] from rfl]
 (refine zh ?_; conv => whnf)
 refine ze rfl  hV ?_
 cases z <;> ((refine za ?_; conv => whnf))
 ·exact hK _
 have hS := hS rfl
 rw [if_pos rfl, hdo rfl] at hK
 refine zsp (n := 3) (kk := 1) rfl ?_
 refine zg [1, 3, 13, 14, 15] ?_
 change SW E _ [(1, .ptr 0 0), (3, .asl 1 1 []), (13, .imm (ys c.arts)), (14, sI (c.arts.map Article.cells).length), (15, sI 0)] [ybs c, .tok 1 0]
 refine zp c.arts (fun i (l : List Int) => [(1, .ptr 0 0), (3, .asl 1 1 (l.map fun n => [dI n])), (13, .imm (ys c.arts)), (14, sI (c.arts.map Article.cells).length), (15, sI i)]) (fun _ l => [ybs c, .tok 1 (l.map fun n => [dI n]).length])
  (fun done rest l => l = ((List.range done.length).map fun (i : Nat) => (i : Int)).filter (isDead c) /\ l.length <= done.length) [] ⟨rfl, by simp⟩ ?_ ?_
 ·rintro l ⟨h2, _⟩
  rw [<- h2] at hK
  refine zdi ?_
  change SW E _ [(1, .ptr 0 0), (3, .imm (zl l)), (13, .imm (ys c.arts)), (14, sI (c.arts.map Article.cells).length), (15, sI c.arts.length)] _
  (refine zh ?_; conv => whnf)
  repeat' ((with_reducible refine way ?_ ?_) <;> (intro h; conv => whnf))
  all_goals try (exfalso; omega)
  exact hK _
 ·rintro done x rest l hda hdl ⟨h2, h3⟩ ih
  have hw := zm (n := done.length) (by omega)
  have hi : ∀ v ∈ [(done.length : Int)], 0 <= v /\ v < c.arts.length := fun v hv => by simp at hv; subst hv; omega
  have hN := zid c hS [(done.length : Int)] hi (by simp) [ybs c, .tok 1 (l.map fun n => [dI n]).length]
  have hwi2 := hwi rfl hi
  have hsn : ∀ b, isDead c (done.length : Int) = b -> ((List.range (done.length + 1)).map fun (i : Nat) => (i : Int)).filter (isDead c) = l ++ (if b = true then [(done.length : Int)] else []) := fun b hb => by
   rw [List.range_succ, List.map_append, List.filter_append, <- h2]
   simp only [List.map_cons, List.map_nil, List.filter_cons, hb, List.filter_nil]
  have hnx : ∀ b, isDead c (done.length : Int) = b -> b = false -> SW E _ _ _ := fun b hb hf => by
   subst hf
   have e := hsn _ hb
   simp only [Bool.false_eq_true, if_false, List.append_nil] at e
   exact ih l ⟨by rw [List.length_append]; exact e.symm, by simp only [List.length_append, List.length_cons, List.length_nil]; omega⟩
  (refine zh ?_; conv => whnf)
  repeat' ((with_reducible refine way ?_ ?_) <;> (intro h; conv => whnf))
  all_goals try (exfalso; omega)
  refine wh (argv := [c.sv, .imm (zl [(done.length : Int)])]) rfl rfl rfl rfl rfl rfl (hN.mono ?_)
  intro r H' hK1
  have hkc : ∀ m, ([ybs c, SObj.tok 1 m]).all (SObj.under 2) = true := fun _ => rfl
  cases hq : xw c [(done.length : Int)] with
  | none =>
   rw [hq] at hK1
   have hdd : isDead c (done.length : Int) = false := by unfold isDead; rw [hq]; rfl
   obtain ⟨p, H1, hp, rfl, rfl⟩ := hK1
   refine ⟨Nat.le_add_left 2 _, ?_⟩
   refine Eq.mpr (congrArg (fun h => SWr E _ _ _ _ h) (show _ = ybs c :: .tok 1 (l.map fun n => [dI n]).length :: H1 from rfl)) ?_
   rcases hp with rfl | rfl <;> ((refine za ?_; conv => whnf)) <;> rw [hw]
   all_goals exact yq [1, 3, 13, 14, 15] 2 (by rw [hH]; exact Nat.zero_le 2) (Nat.succ_le_succ (Nat.succ_le_succ (Nat.zero_le _))) rfl (hkc _) (hnx _ hdd rfl)
  | some q =>
   have hWt := znf c hS [(done.length : Int)] hi (by simp) q hq [ybs c, .tok 1 (l.map fun n => [dI n]).length]
   rw [hq] at hK1 hwi2
   simp only at hwi2
   obtain ⟨rfl, rfl⟩ := hK1
   refine ⟨by rw [List.length_append]; exact Nat.le_add_right _ _, ?_⟩
   (refine za ?_; conv => whnf)
   refine wh rfl rfl rfl rfl rfl rfl (hWt.mono ?_)
   rintro r H' ⟨rfl, ⟨H1, rfl⟩, hl⟩
   refine ⟨hl, ?_⟩
   rw [<- hwi2]
   have hdd : isDead c (done.length : Int) = (yy c [(done.length : Int)]).isNone := by unfold isDead; rw [hq]; rfl
   refine jd (t' := [(1, .ptr 0 0), (3, .asl 1 1 (l.map fun n => [dI n])), (4, sI done.length), (13, .imm (ys c.arts)), (14, sI (c.arts.map Article.cells).length), (15, sI done.length), (29, zlx (yy c [(done.length : Int)]))]) (H' := [ybs c, .tok 1 (l.map fun n => [dI n]).length])
    (fun k h => zg [1, 3, 4, 13, 14, 15, 29] (yct 2 (by rw [hH]; exact Nat.zero_le 2) (Nat.succ_le_succ (Nat.succ_le_succ (Nat.zero_le _))) (by cases yy c [(done.length : Int)] <;> rfl) (hkc _) h)) ?_
   generalize yy c [(done.length : Int)] = o at hdd ⊢
   cases o with
   | none =>
    have e := hsn _ hdd
    simp only [Option.isNone_none, if_true] at e
    (refine za ?_; conv => whnf)
    refine wd (b := 1) (kk := 1) (rows := l.map fun n => [dI n]) (new := [[dI done.length]]) rfl ⟨by decide, rfl⟩ rfl (by rw [List.length_map]; simp only [List.length_cons, List.length_nil]; omega) ?_
    have e5 : (l.map fun n => [dI n]) ++ [[dI done.length]] = (l ++ [(done.length : Int)]).map fun n => [dI n] := by simp
    have e6 : (l.map fun n => [dI n]).length + [[dI done.length]].length = ((l ++ [(done.length : Int)]).map fun n => [dI n]).length := by simp
    refine Eq.mpr (congrArg (fun v => SWr E _ _ _ (wq _ _ (.asl 1 1 v)) _) e5) ?_
    refine Eq.mpr (congrArg (fun v => SWr E _ _ _ _ (List.set _ 1 (.tok 1 v))) e6) ?_
    (refine za ?_; conv => whnf)
    rw [hw]
    refine yq [1, 3, 13, 14, 15] 2 (by rw [hH]; exact Nat.zero_le 2) (Nat.succ_le_succ (Nat.succ_le_succ (Nat.zero_le _))) rfl (hkc _) ?_
    refine ih (l ++ [(done.length : Int)]) ⟨?_, ?_⟩
    ·rw [List.length_append]; exact e.symm
    ·simp only [List.length_append, List.length_cons, List.length_nil]; omega
   | some v =>
    (refine za ?_; conv => whnf)
    rw [hw]
    exact yq [1, 3, 13, 14, 15] 2 (by rw [hH]; exact Nat.zero_le 2) (Nat.succ_le_succ (Nat.succ_le_succ (Nat.zero_le _))) rfl (hkc _) (hnx _ hdd rfl)
theorem ztz (c : Codex) (hfit : Codex.fit c) (hS : zu c = true -> SearchC c) (hz : c.arts.length <= 1000000) :
  zw Tryz.prog G0 17 [c.sv] (.imm (zl (zes c))) := by
 have h := yti c hfit hS hz
 split at h
 ·exact h
 ·rename_i hn
  rw [show zes c = [] by unfold zes; rw [if_neg hn]]
  exact zch h (SV.Is.nil 1)
theorem ybt {l : List Int} {v : Int} (h : v ∈ l) : v ∈ Go.Lib.compact l := by
 obtain ⟨j, hj, rfl⟩ := List.mem_iff_getElem.1 h
 have key : ∀ j, ∃ k, k <= j /\ Go.Lib.keeps l.toArray k = true /\ l.toArray[k]! = l.toArray[j]! := by
  intro j
  induction j with
  | zero => exact ⟨0, Nat.le_refl _, Go.Lib.keeps_lt_one _ 0 (by omega), rfl⟩
  | succ j ih =>
   by_cases e : l.toArray[j + 1]! = l.toArray[j + 1 - 1]!
   ·obtain ⟨k, h1, h2, h3⟩ := ih
    exact ⟨k, by omega, h2, by rw [h3, e, Nat.add_sub_cancel]⟩
   ·exact ⟨j + 1, Nat.le_refl _, Go.Lib.keeps_pos e, rfl⟩
 obtain ⟨k, h1, h2, h3⟩ := key j
 unfold Go.Lib.compact Go.Lib.compactUpTo
 refine List.mem_map.2 ⟨k, List.mem_filter.2 ⟨List.mem_range.2 (by omega), h2⟩, ?_⟩
 show l.toArray[k]! = _
 rw [h3]
 simp [hj]
theorem yhg {vs : List Int} {v : Int} : v ∈ zy vs ↔ v ∈ vs := ⟨zts, fun h => ybt ((List.mergeSort_perm vs fun x y => decide (x <= y)).mem_iff.2 h)⟩
theorem ybu {l : List Int} (h : l.Pairwise (· < ·)) : zy l = l := ybq _ _ (ztn l) h fun _ => yhg
theorem yhh {c : Codex} (h : zu c = true) (hF : c.facts.length <= 12) (hw : ∀ a ∈ c.arts, a.when_.length <= 41) {vs : List Int} (hv : ∀ v ∈ vs, 0 <= v /\ v < c.arts.length) :
  (zhg c (zy vs) = false -> yy c vs = none) /\
  (zhg c (zy vs) = true -> yy c vs = none -> ∀ d v, (xg c (zy vs)).1 <= d -> d < (xg c (zy vs)).2 -> yhf c v -> (yg c (zy vs)).all (holdsE (yx d) v) = false) /\
  (∀ w, yy c vs = some w -> zhg c (zy vs) = true /\ (xg c (zy vs)).1 <= w.day /\ w.day < (xg c (zy vs)).2 /\ w.value.length = c.facts.length /\ w.has.length = c.facts.length /\ w.arts = zy vs /\
   (yg c (zy vs)).all (holdsE (yx w.day) w.value) = true) := by
 have hsc := (zri h hF hw hv).1
 rw [znk h hv]
 cases hq : xw c vs with
 | none =>
  rw [hq] at hsc
  refine ⟨fun _ => rfl, fun h1 => ?_, fun w hw => by cases hw⟩
  rw [<- hsc] at h1
  cases h1
 | some q =>
  rw [hq] at hsc
  obtain ⟨w1, w2⟩ := yrs h hF hw hv hq
  refine ⟨fun h1 => ?_, fun _ hn d v h1 h2 h3 => ?_, fun w hw => ?_⟩
  ·rw [<- hsc] at h1
   cases h1
  ·cases ha : (yg c (zy vs)).all (holdsE (yx d) v) with
   | false => rfl
   | true => exact absurd (List.all_eq_true.1 ha) (w2 hn d v h1 h2 h3)
  ·obtain ⟨a1, a2, a3, a4, a5, a6, _, _⟩ := w1 w hw
   exact ⟨hsc.symm, a1, a2, a3, by rw [a4]; simp, a5, List.all_eq_true.2 a6⟩
theorem ymb {c : Codex} (h : zu c = true) (hF : c.facts.length <= 12) (hw : ∀ a ∈ c.arts, a.when_.length <= 41) {i : Nat} (hi : i < c.arts.length) :
  decide ((i : Int) ∈ zes c) = (zhg c [(i : Int)] && !(yy c [(i : Int)]).isSome) /\
  (decide ((i : Int) ∈ zes c) = true -> ∀ a, c.arts[i]? = some a -> ∀ d v, a.lo <= d -> d < a.hi -> yhf c v -> (yg c [(i : Int)]).all (holdsE (yx d) v) = false) := by
 have hv : ∀ v ∈ [(i : Int)], 0 <= v /\ v < c.arts.length := fun v hv => by simp at hv; subst hv; omega
 have hvo : zy [(i : Int)] = [(i : Int)] := ybu (by simp)
 have hsc := (zri h hF hw hv).1
 rw [hvo] at hsc
 have hmem : decide ((i : Int) ∈ zes c) = isDead c i := by
  rw [zrj h]
  simp only [List.mem_filter]
  rw [Bool.eq_iff_iff]
  simp only [decide_eq_true_eq]
  constructor
  ·exact fun h => h.2
  ·exact fun h => ⟨List.mem_map.2 ⟨i, List.mem_range.2 hi, rfl⟩, h⟩
 have h1 : decide ((i : Int) ∈ zes c) = (zhg c [(i : Int)] && !(yy c [(i : Int)]).isSome) := by
  rw [hmem]
  unfold isDead
  rw [hsc]
  cases yy c [(i : Int)] <;> rfl
 refine ⟨h1, fun hd a ha d v hlo hhi hg => ?_⟩
 rw [h1] at hd
 simp only [Bool.and_eq_true, Bool.not_eq_true', Option.isSome_eq_false_iff, Option.isNone_iff_eq_none] at hd
 have hfr : xg c [(i : Int)] = (max 0 a.lo, min 36525 a.hi) := by
  unfold xg
  simp only [List.foldl_cons, List.foldl_nil]
  have : qr c (i : Int) = some a := by unfold qr; rw [if_neg (by omega)]; exact ha
  rw [this]
 have hah := qf h
 obtain ⟨_, _, m, _, h4⟩ := hah
 have hhd := (h4 a (List.mem_of_getElem? ha)).1
 unfold zap at hhd
 simp only [Bool.and_eq_true, decide_eq_true_eq] at hhd
 have := (yhh h hF hw hv).2.1 (by rw [hvo]; exact hd.1) hd.2 d v (by rw [hvo, hfr]; simp only; omega) (by rw [hvo, hfr]; simp only; omega) hg
 rw [hvo] at this
 exact this
variable (G : List (Nat × D))
theorem zde (op : Int) : zw Tryz.prog G 75 [sI op] (sB (zhf op)) := by
 by_cases h8 : op = 8
 ·subst h8
  refine zc Tryz.func75 rfl (by rw [Tryz.ntmps75]; simp) rfl rfl ?_; intro E hH hK
  (refine zi ?_; conv => whnf)
  exact hK _
 by_cases h9 : op = 9
 ·subst h9
  refine zc Tryz.func75 rfl (by rw [Tryz.ntmps75]; simp) rfl rfl ?_; intro E hH hK
  (refine zi ?_; conv => whnf)
  exact hK _
 by_cases h10 : op = 10
 ·subst h10
  refine zc Tryz.func75 rfl (by rw [Tryz.ntmps75]; simp) rfl rfl ?_; intro E hH hK
  (refine zi ?_; conv => whnf)
  exact hK _
 have hc : zhf op = decide (op = 10) := by unfold zhf; simp [h8, h9]
 rw [hc]
 refine zc Tryz.func75 rfl (by rw [Tryz.ntmps75]; simp) rfl rfl ?_; intro E hH hK
 (refine zi ?_; conv => whnf)
 repeat' ((with_reducible refine way ?_ ?_) <;> (intro h; conv => whnf))
 all_goals try (exfalso; omega)
 exact hK _
theorem zrk (e : Ex) : zw Tryz.prog G 85 [e.sv] (sB (zfg e)) := by
 obtain ⟨op, n, u, den, ps, ks⟩ := e
 by_cases h1 : op = 1
 ·subst h1
  rw [show zfg (.mk 1 n u den ps ks) = true from rfl]
  refine zc Tryz.func85 rfl (by rw [Tryz.ntmps85]; simp) rfl rfl ?_; intro E hH hK
  (refine zi ?_; conv => whnf)
  exact hK _
 by_cases h2 : op = 2
 ·subst h2
  rw [show zfg (.mk 2 n u den ps ks) = true from rfl]
  refine zc Tryz.func85 rfl (by rw [Tryz.ntmps85]; simp) rfl rfl ?_; intro E hH hK
  (refine zi ?_; conv => whnf)
  exact hK _
 by_cases h4 : op = 4
 ·subst h4
  by_cases hn : 1 <= n
  ·rw [show zfg (.mk 4 n u den ps ks) = decide (n <= 4) by unfold zfg; simp [Ex.op, Ex.n, hn]; try rfl]
   refine zc Tryz.func85 rfl (by rw [Tryz.ntmps85]; simp) rfl rfl ?_; intro E hH hK
   (refine zi ?_; conv => whnf)
   repeat' ((with_reducible refine way ?_ ?_) <;> (intro h; conv => whnf))
   all_goals try (exfalso; omega)
   exact hK _
  ·rw [show zfg (.mk 4 n u den ps ks) = false by unfold zfg; simp [Ex.op, Ex.n, hn]]
   refine zc Tryz.func85 rfl (by rw [Tryz.ntmps85]; simp) rfl rfl ?_; intro E hH hK
   (refine zi ?_; conv => whnf)
   repeat' ((with_reducible refine way ?_ ?_) <;> (intro h; conv => whnf))
   all_goals try (exfalso; omega)
   exact hK _
 rw [show zfg (.mk op n u den ps ks) = false by unfold zfg; simp [Ex.op, h1, h2, h4]]
 refine zc Tryz.func85 rfl (by rw [Tryz.ntmps85]; simp) rfl rfl ?_; intro E hH hK
 (refine zi ?_; conv => whnf)
 repeat' ((with_reducible refine way ?_ ?_) <;> (intro h; conv => whnf))
 all_goals try (exfalso; omega)
 exact hK _
theorem zjn (l : List Int) (n : Int) (hz : l.length <= 100000000) : zw Tryz.prog G 86 [.imm (zl l), sI n] (.imm (zl (zmc l n))) := by
 have hvl : (l.map fun n => [dI n]).length = l.length := by simp
 have hin := zza G l n (by omega)
 by_cases h1 : n < 0
 ·rw [show zmc l n = l from if_pos (.inl h1)]
  refine zc Tryz.func86 rfl (by rw [Tryz.ntmps86]; simp) rfl rfl ?_; intro E hH hK
  (refine zh ?_; conv => whnf)
  repeat' ((with_reducible refine way ?_ ?_) <;> (intro h; conv => whnf))
  all_goals try (exfalso; omega)
  exact hK _
 by_cases h2 : 1000000000000 < n
 ·rw [show zmc l n = l from if_pos (.inr (.inl h2))]
  refine zc Tryz.func86 rfl (by rw [Tryz.ntmps86]; simp) rfl rfl ?_; intro E hH hK
  (refine zh ?_; conv => whnf)
  repeat' ((with_reducible refine way ?_ ?_) <;> (intro h; conv => whnf))
  all_goals try (exfalso; omega)
  exact hK _
 by_cases h3 : n ∈ l
 ·rw [show zmc l n = l from if_pos (.inr (.inr h3))]
  rw [decide_eq_true h3] at hin
  refine zc Tryz.func86 rfl (by rw [Tryz.ntmps86]; simp) rfl rfl ?_; intro E hH hK
  (refine zh ?_; conv => whnf)
  repeat' ((with_reducible refine way ?_ ?_) <;> (intro h; conv => whnf))
  all_goals try (exfalso; omega)
  refine ze rfl  hin ?_
  (refine za ?_; conv => whnf)
  exact hK _
 rw [show zmc l n = ztv n l from if_neg (by rintro (h | h | h); exact h1 h; exact h2 h; exact h3 h)]
 rw [decide_eq_false h3] at hin
 refine zc Tryz.func86 rfl (by rw [Tryz.ntmps86]; simp) rfl rfl ?_; intro E hH hK
 (refine zh ?_; conv => whnf)
 repeat' ((with_reducible refine way ?_ ?_) <;> (intro h; conv => whnf))
 all_goals try (exfalso; omega)
 refine ze rfl  hin ?_
 (refine za ?_; conv => whnf)
 refine zsp (n := 5) (kk := 1) rfl ?_
 refine zg [0, 1, 5, 6, 7] ?_
 change SW E _ [(0, .imm (zl l)), (1, sI n), (5, .asl 0 1 []), (6, sB false), (7, sI 0)] [.tok 1 0]
 refine zp l (fun i (s : List Int × Bool) => [(0, .imm (zl l)), (1, sI n), (5, .asl 0 1 (s.1.map fun n => [dI n])), (6, sB s.2), (7, sI i)]) (fun _ s => [.tok 1 (s.1.map fun n => [dI n]).length])
  (fun done rest s => ztv n l = s.1 ++ (if s.2 = true then rest else ztv n rest) /\ s.1.length <= 2 * done.length + 1) ([], false) ⟨rfl, by simp⟩ ?_ ?_
 ·rintro ⟨out, dn⟩ ⟨h4, h5⟩
  change ztv n l = out ++ _ at h4
  change out.length <= _ at h5
  change SW E _ [(0, .imm (zl l)), (1, sI n), (5, .asl 0 1 (out.map fun n => [dI n])), (6, sB dn), (7, sI l.length)] [.tok 1 (out.map fun n => [dI n]).length]
  cases dn with
  | true =>
   simp only [if_true, List.append_nil] at h4
   rw [h4] at hK
   refine zdi ?_
   change SW E _ [(0, .imm (zl l)), (1, sI n), (5, .imm (zl out)), (6, sB true), (7, sI l.length)] _
   (refine zh ?_; conv => whnf)
   repeat' ((with_reducible refine way ?_ ?_) <;> (intro h; conv => whnf))
   all_goals try (exfalso; omega)
   exact hK _
  | false =>
   simp only [Bool.false_eq_true, if_false, ztv] at h4
   rw [h4] at hK
   (refine zh ?_; conv => whnf)
   repeat' ((with_reducible refine way ?_ ?_) <;> (intro h; conv => whnf))
   all_goals try (exfalso; omega)
   refine wd (b := 0) (kk := 1) (rows := out.map fun n => [dI n]) (new := [[dI n]]) rfl ⟨by decide, rfl⟩ rfl (by rw [List.length_map]; simp only [List.length_cons, List.length_nil]; omega) ?_
   have e5 : (out.map fun n => [dI n]) ++ [[dI n]] = (out ++ [n]).map fun n => [dI n] := by simp
   refine Eq.mpr (congrArg (fun v => SWr E _ _ _ (wq _ _ (.asl 0 1 v)) _) e5) ?_
   refine jd (fun k => zdi) ?_
   (refine za ?_; conv => whnf)
   exact hK _
 ·rintro done x rest ⟨out, dn⟩ hda hdl ⟨h4, h5⟩ ih
  change ztv n l = out ++ _ at h4
  change out.length <= _ at h5
  have hw := zm (n := done.length) (by omega)
  have hrx : (l.map fun n => [dI n])[done.length]? = some [dI x] := by simp [hda]
  change SW E _ [(0, .imm (zl l)), (1, sI n), (5, .asl 0 1 (out.map fun n => [dI n])), (6, sB dn), (7, sI done.length)] [.tok 1 (out.map fun n => [dI n]).length]
  have fin : ∀ out' dn', ztv n l = out' ++ (if dn' = true then rest else ztv n rest) -> out'.length <= 2 * done.length + 3 -> SW E _ _ _ := fun out' dn' g1 g2 => ih (out', dn') ⟨g1, by simp only [List.length_append, List.length_cons, List.length_nil]; omega⟩
  cases dn with
  | true =>
   simp only [if_true] at h4
   (refine zh ?_; conv => whnf)
   repeat' ((with_reducible refine way ?_ ?_) <;> (intro h; conv => whnf))
   all_goals try (exfalso; omega)
   refine zf (i := done.length) (row := [dI x]) rfl rfl hrx ?_
   (refine za ?_; conv => whnf)
   refine wd (b := 0) (kk := 1) (rows := out.map fun n => [dI n]) (new := [[dI x]]) rfl ⟨by decide, rfl⟩ rfl (by rw [List.length_map]; simp only [List.length_cons, List.length_nil]; omega) ?_
   have e5 : (out.map fun n => [dI n]) ++ [[dI x]] = (out ++ [x]).map fun n => [dI n] := by simp
   have e6 : (out.map fun n => [dI n]).length + [[dI x]].length = ((out ++ [x]).map fun n => [dI n]).length := by simp
   refine Eq.mpr (congrArg (fun v => SWr E _ _ _ (wq _ _ (.asl 0 1 v)) _) e5) ?_
   refine Eq.mpr (congrArg (fun v => SWr E _ _ _ _ (List.set _ 0 (.tok 1 v))) e6) ?_
   (refine za ?_; conv => whnf)
   rw [hw]
   exact zg [0, 1, 5, 6, 7] (fin (out ++ [x]) true (by rw [h4]; simp) (by simp; omega))
  | false =>
   simp only [Bool.false_eq_true, if_false] at h4
   (refine zh ?_; conv => whnf)
   repeat' ((with_reducible refine way ?_ ?_) <;> (intro h; conv => whnf))
   all_goals try (exfalso; omega)
   refine zf (i := done.length) (row := [dI x]) rfl rfl hrx ?_
   (refine za ?_; conv => whnf)
   repeat' ((with_reducible refine way ?_ ?_) <;> (intro h; conv => whnf))
   ·refine wd (b := 0) (kk := 1) (rows := out.map fun n => [dI n]) (new := [[dI n]]) rfl ⟨by decide, rfl⟩ rfl (by rw [List.length_map]; simp only [List.length_cons, List.length_nil]; omega) ?_
    have e5 : (out.map fun n => [dI n]) ++ [[dI n]] = (out ++ [n]).map fun n => [dI n] := by simp
    have e6 : (out.map fun n => [dI n]).length + [[dI n]].length = ((out ++ [n]).map fun n => [dI n]).length := by simp
    refine Eq.mpr (congrArg (fun v => SWr E _ _ _ (wq _ _ (.asl 0 1 v)) _) e5) ?_
    refine Eq.mpr (congrArg (fun v => SWr E _ _ _ _ (List.set _ 0 (.tok 1 v))) e6) ?_
    (refine za ?_; conv => whnf)
    refine zf (i := done.length) (row := [dI x]) rfl rfl hrx ?_
    (refine za ?_; conv => whnf)
    refine wd (b := 0) (kk := 1) (rows := (out ++ [n]).map fun n => [dI n]) (new := [[dI x]]) rfl ⟨by decide, rfl⟩ rfl (by rw [List.length_map]; simp only [List.length_append, List.length_cons, List.length_nil]; omega) ?_
    have e7 : ((out ++ [n]).map fun n => [dI n]) ++ [[dI x]] = (out ++ [n] ++ [x]).map fun n => [dI n] := by simp
    have e8 : ((out ++ [n]).map fun n => [dI n]).length + [[dI x]].length = ((out ++ [n] ++ [x]).map fun n => [dI n]).length := by simp
    refine Eq.mpr (congrArg (fun v => SWr E _ _ _ (wq _ _ (.asl 0 1 v)) _) e7) ?_
    refine Eq.mpr (congrArg (fun v => SWr E _ _ _ _ (List.set _ 0 (.tok 1 v))) e8) ?_
    (refine za ?_; conv => whnf)
    rw [hw]
    exact zg [0, 1, 5, 6, 7] (fin (out ++ [n] ++ [x]) true (by rw [h4, ztv, if_pos (by assumption)]; simp) (by simp; omega))
   ·refine zf (i := done.length) (row := [dI x]) rfl rfl hrx ?_
    (refine za ?_; conv => whnf)
    refine wd (b := 0) (kk := 1) (rows := out.map fun n => [dI n]) (new := [[dI x]]) rfl ⟨by decide, rfl⟩ rfl (by rw [List.length_map]; simp only [List.length_cons, List.length_nil]; omega) ?_
    have e5 : (out.map fun n => [dI n]) ++ [[dI x]] = (out ++ [x]).map fun n => [dI n] := by simp
    have e6 : (out.map fun n => [dI n]).length + [[dI x]].length = ((out ++ [x]).map fun n => [dI n]).length := by simp
    refine Eq.mpr (congrArg (fun v => SWr E _ _ _ (wq _ _ (.asl 0 1 v)) _) e5) ?_
    refine Eq.mpr (congrArg (fun v => SWr E _ _ _ _ (List.set _ 0 (.tok 1 v))) e6) ?_
    (refine za ?_; conv => whnf)
    rw [hw]
    exact zg [0, 1, 5, 6, 7] (fin (out ++ [x]) false (by rw [h4, ztv, if_neg (by assumption)]; simp) (by simp; omega))
theorem yhi (c : Codex) (n : Int) (u : ByteArray) (den : Int) (ps : List Piece) (k : Ex) (b1 : Bool) (h1 : zw Tryz.prog G 54 [c.sv, k.sv] (sB b1)) :
  zw Tryz.prog G 54 [c.sv, (Ex.mk 5 n u den ps [k]).sv] (sB b1) := by
 obtain ⟨kop, kn, ku, kden, kps, kks⟩ := k
 rw [show c.sv = .agg [.imm (zk c.facts), .imm (zk c.lines), .imm (ys c.arts)] from rfl] at h1 ⊢
 refine zc Tryz.func54 rfl (by rw [Tryz.ntmps54]; simp) rfl rfl ?_; intro E hH hK
 (refine zh ?_; conv => whnf)
 refine zg [2, 3, 4, 5] ?_
 (refine zx 0 mixed rfl ?_; refine zb [777] (nx := 2) ?_; conv => whnf)
 refine zv (i := 0) (row := [dI kop, dI kn, dS ku, dI kden, .isl 3 (kps.map Piece.cells), .isl 6 (zd kks)]) rfl (show 2 <= 2 by decide) rfl rfl ?_
 (refine zb [777] (nx := 2) ?_; conv => whnf)
 refine yr rfl (show 2 <= 2 by decide) h1 ?_
 (refine zb [777, 4] (nx := 2) ?_; conv => whnf)
 refine jg ⟨sB b1, [], none⟩ rfl rfl (show 2 <= 2 by decide) (fun _ _ _ => rfl) ?_
 refine zao (by kernel_rfl) ?_
 (refine zh ?_; conv => whnf)
 exact hK _
theorem ybv (c : Codex) {op : Int} (hop : op = 6 \/ op = 7) (n : Int) (u : ByteArray) (den : Int) (ps : List Piece) (k l : Ex) (b1 b2 : Bool) (h1 : zw Tryz.prog G 54 [c.sv, k.sv] (sB b1))
  (h2 : zw Tryz.prog G 54 [c.sv, l.sv] (sB b2)) : zw Tryz.prog G 54 [c.sv, (Ex.mk op n u den ps [k, l]).sv] (sB (b1 && b2)) := by
 obtain ⟨kop, kn, ku, kden, kps, kks⟩ := k
 obtain ⟨lop, ln, lu, lden, lps, lks⟩ := l
 rw [show c.sv = .agg [.imm (zk c.facts), .imm (zk c.lines), .imm (ys c.arts)] from rfl] at h1 h2 ⊢
 refine zc Tryz.func54 rfl (by rw [Tryz.ntmps54]; simp) rfl rfl ?_; intro E hH hK
 rcases hop with rfl | rfl
 all_goals
  (refine zh ?_; conv => whnf)
  refine zg [2, 3, 4, 5] ?_
  (refine zx 0 mixed rfl ?_; refine zb [777] (nx := 2) ?_; conv => whnf)
  refine zv (i := 0) (row := [dI kop, dI kn, dS ku, dI kden, .isl 3 (kps.map Piece.cells), .isl 6 (zd kks)]) rfl (show 2 <= 2 by decide) rfl rfl ?_
  (refine zb [777] (nx := 2) ?_; conv => whnf)
  refine yr rfl (show 2 <= 2 by decide) h1 ?_
  cases b1 <;> (refine zb [777, 4] (nx := 2) ?_; conv => whnf)
  ·refine jg ⟨sB false, [], none⟩ rfl rfl (show 2 <= 2 by decide) (fun _ _ _ => rfl) ?_
   refine zao (by kernel_rfl) ?_
   (refine zh ?_; conv => whnf)
   exact hK _
  ·refine zv (i := 1) (row := [dI lop, dI ln, dS lu, dI lden, .isl 3 (lps.map Piece.cells), .isl 6 (zd lks)]) rfl (show 2 <= 2 by decide) rfl rfl ?_
   (refine zb [777] (nx := 2) ?_; conv => whnf)
   refine yr rfl (show 2 <= 2 by decide) h2 ?_
   (refine zb [777, 4] (nx := 2) ?_; conv => whnf)
   refine jg ⟨sB b2, [], none⟩ rfl rfl (show 2 <= 2 by decide) (fun _ _ _ => rfl) ?_
   refine zao (by kernel_rfl) ?_
   (refine zh ?_; conv => whnf)
   exact hK _
theorem yhj (c : Codex) {op : Int} (hop : op = 8 \/ op = 9 \/ op = 10) (n : Int) (u : ByteArray) (den : Int) (ps : List Piece) (k l : Ex) :
  zw Tryz.prog G 54 [c.sv, (Ex.mk op n u den ps [k, l]).sv] (sB (zfg k && zfg l && (decide (k.op = 1) || decide (l.op = 1)))) := by
 have hcmp := zde G op
 rw [show zhf op = true by unfold zhf; rcases hop with rfl | rfl | rfl <;> rfl] at hcmp
 have hs1 := zrk G k
 have hs2 := zrk G l
 generalize zfg k = b1 at hs1
 generalize zfg l = b2 at hs2
 obtain ⟨kop, kn, ku, kden, kps, kks⟩ := k
 obtain ⟨lop, ln, lu, lden, lps, lks⟩ := l
 rw [show c.sv = .agg [.imm (zk c.facts), .imm (zk c.lines), .imm (ys c.arts)] from rfl]
 simp only [Ex.op]
 refine zc Tryz.func54 rfl (by rw [Tryz.ntmps54]; simp) rfl rfl ?_; intro E hH hK
 rcases hop with rfl | rfl | rfl
 all_goals
  (refine zh ?_; conv => whnf)
  refine ze rfl  hcmp ?_
  (refine za ?_; conv => whnf)
  refine zf (i := 0) (row := [dI kop, dI kn, dS ku, dI kden, .isl 3 (kps.map Piece.cells), .isl 6 (zd kks)]) rfl rfl rfl ?_
  (refine za ?_; conv => whnf)
  refine ze rfl  hs1 ?_
  cases b1 <;> ((refine za ?_; conv => whnf))
  ·exact hK _
  refine zf (i := 1) (row := [dI lop, dI ln, dS lu, dI lden, .isl 3 (lps.map Piece.cells), .isl 6 (zd lks)]) rfl rfl rfl ?_
  (refine za ?_; conv => whnf)
  refine ze rfl  hs2 ?_
  cases b2 <;> ((refine za ?_; conv => whnf))
  ·exact hK _
  refine zf (i := 0) (row := [dI kop, dI kn, dS ku, dI kden, .isl 3 (kps.map Piece.cells), .isl 6 (zd kks)]) rfl rfl rfl ?_
  (refine za ?_; conv => whnf)
  change ∀ H', E.K (sB (true && true && (decide (kop = 1) || decide (lop = 1)))) H' at hK
  cases h3 : decide (kop = 1) <;> (conv => whnf)
  case true =>
   rw [decide_eq_true (of_decide_eq_true h3)] at hK
   exact hK _
  ·rw [decide_eq_false (of_decide_eq_false h3)] at hK
   refine zf (i := 1) (row := [dI lop, dI ln, dS lu, dI lden, .isl 3 (lps.map Piece.cells), .isl 6 (zd lks)]) rfl rfl rfl ?_
   (refine za ?_; conv => whnf)
   exact hK _
theorem zbm (c : Codex) (m : List (Int × Int)) : ∀ (N : Nat) (e : Ex), SizeOf.sizeOf e < N -> zel c m e -> e.unit = tT -> zw Tryz.prog G 54 [c.sv, e.sv] (sB (simpE c e))
 | 0, _, h, _, _ => by omega
 | N + 1, .mk op n u den ps ks, hN, h, hu => by
  simp only [Ex.mk.sizeOf_spec] at hN
  have hu : u = tT := hu
  cases zji h hu with
  | const h1 hk hu =>
   subst h1 hk
   rw [show simpE c (.mk 1 n u den ps []) = decide (u = tT) by unfold simpE; rfl]
   refine zc Tryz.func54 rfl (by rw [Tryz.ntmps54]; simp) rfl rfl ?_; intro E hH hK
   (refine zh ?_; conv => whnf)
   exact hK _
  | fact h1 hk hr ht =>
   subst h1 hk
   obtain ⟨d, hd⟩ : ∃ d, c.facts[n.toNat]? = some d := ⟨_, List.getElem?_eq_getElem (by omega)⟩
   have hrow : (c.facts.map Decl.cells)[n.toNat]? = some [dS d.name, dS d.unit, dI d.role] := by simp [hd, Decl.cells]
   rw [show simpE c (.mk 2 n u den ps []) = decide (d.unit = tT) by unfold simpE zjy; rw [if_neg (by decide), if_pos rfl, hd]]
   refine zc Tryz.func54 rfl (by rw [Tryz.ntmps54]; simp) rfl rfl ?_; intro E hH hK
   rw [show c.sv = .agg [.imm (zk c.facts), .imm (zk c.lines), .imm (ys c.arts)] from rfl]
   (refine zh ?_; conv => whnf)
   refine zf (i := n.toNat) rfl (by omega) hrow ?_
   (refine za ?_; conv => whnf)
   exact hK _
  | neg k h1 hk hka hku =>
   subst h1 hk
   simp only [List.cons.sizeOf_spec] at hN
   have h1 := zbm c m N k (by omega) hka hku
   rw [show simpE c (.mk 5 n u den ps [k]) = simpE c k by rw [simpE.eq_def]; simp only [show ¬ (5 : Int) = 1 by decide, show ¬ (5 : Int) = 2 by decide, if_false, if_true]]
   exact yhi G c n u den ps k _ h1
  | conn k l h1 hk hka hla hku hlu =>
   subst hk
   simp only [List.cons.sizeOf_spec] at hN
   have hs1 := zbm c m N k (by omega) hka hku
   have hs2 := zbm c m N l (by omega) hla hlu
   rw [show simpE c (.mk op n u den ps [k, l]) = (simpE c k && simpE c l) by
    rw [simpE.eq_def]
    simp only
    rw [if_neg (by omega), if_neg (by omega), if_neg (by omega), if_pos h1]]
   exact ybv G c h1 n u den ps k l _ _ hs1 hs2
  | cmp k l h1 hk hka hla =>
   subst hk
   rw [zfu h1]
   exact yhj G c h1 n u den ps k l
  | other h1 h2 h3 h4 h5 =>
   have hc : zhf op = false := by unfold zhf; simp; omega
   have hs : simpE c (.mk op n u den ps ks) = false := by
    unfold simpE
    rw [if_neg h1, if_neg h2, if_neg h3, if_neg h4]
    split
    ·simp [hc]
    ·rfl
   rw [hs]
   have hcmp := zde G op
   rw [hc] at hcmp
   refine zc Tryz.func54 rfl (by rw [Tryz.ntmps54]; simp) rfl rfl ?_; intro E hH hK
   rw [show c.sv = .agg [.imm (zk c.facts), .imm (zk c.lines), .imm (ys c.arts)] from rfl]
   (refine zh ?_; conv => whnf)
   repeat' ((with_reducible refine way ?_ ?_) <;> (intro h; conv => whnf))
   all_goals try (exfalso; omega)
   refine ze rfl  hcmp ?_
   (refine za ?_; conv => whnf)
   exact hK _
theorem yon {P : Program} {G : List (Nat × D)} {fn : Func} {rd : Bool} {E : En P G fn rd} {α : Type} {T : α -> List (Nat × SV)} {H : List SObj} {x : α} {R : Prop} {k : List Item} (h1 : (∀ v, v = x -> SW E k (T v) H) -> R) (h2 : SW E k (T x) H) : R := h1 fun _ e => e ▸ h2
theorem zzh (c : Codex) (f op n : Int) (l : List Int) : (zbo c f op n l).length <= l.length + 2 := by
 unfold zbo
 have h1 := zjl l 0
 have h2 := zjl (zmc l 0) 1
 split
 ·split <;> omega
 ·omega
theorem zrl (c : Codex) (f op : Int) (k o : Ex) (l : List Int) : (zeo c f op k o l).length <= l.length + 2 := by
 unfold zeo
 have h1 := zjl l o.n
 have h2 := zjl (zmc l o.n) (o.n + 1)
 split <;> omega
theorem zik (c : Codex) (f : Int) : ∀ (N : Nat) (e : Ex), SizeOf.sizeOf e < N -> ∀ l : List Int, (candE c f e l).length <= l.length + 8 * xe e
 | 0, _, h, _ => by omega
 | N + 1, .mk op n u den ps ks, hN, l => by
  simp only [Ex.mk.sizeOf_spec] at hN
  have hf := zzh c f op n l
  rw [candE.eq_def, xe]
  match ks, hN with
  | [], _ => simp only; omega
  | [k], hN =>
   simp only [List.cons.sizeOf_spec] at hN
   have := zik c f N k (by omega) (zbo c f op n l)
   simp only [ye]
   omega
  | [k, r], hN =>
   simp only [List.cons.sizeOf_spec] at hN
   have h1 := zik c f N k (by omega) (zbo c f op n l)
   have h2 := zrl c f op k r (candE c f k (zbo c f op n l))
   have h3 := zik c f N r (by omega) (zeo c f op k r (candE c f k (zbo c f op n l)))
   have h4 := zrl c f op r k (candE c f r (zeo c f op k r (candE c f k (zbo c f op n l))))
   simp only [ye]
   omega
  | _ :: _ :: _ :: _, _ => simp only; omega
def zzi (c : Codex) (f op : Int) : List Ex -> List Ex -> List Int -> List Int
 | k :: r, o :: os, l => zzi c f op r os (zeo c f op k o (candE c f k l))
 | _, _, l => l
theorem zjo {c : Codex} {f op n : Int} {u : ByteArray} {den : Int} {ps : List Piece} {ks : List Ex} (h : ks = [] \/ (∃ k, ks = [k] /\ zhf op = false) \/ ∃ k r, ks = [k, r]) (l : List Int) :
  zzi c f op ks ks.reverse (zbo c f op n l) = candE c f (.mk op n u den ps ks) l := by
 rw [candE.eq_def]
 rcases h with rfl | ⟨k, rfl, hc⟩ | ⟨k, r, rfl⟩
 ·rfl
 ·show zeo c f op k k (candE c f k (zbo c f op n l)) = _
  rw [zwb hc]
 ·rfl
theorem ymc {c : Codex} {f op : Int} {k o : Ex} {l : List Int} (h : ¬ (zhf op = true /\ k.op = 2 /\ k.n = f /\ o.op = 1 /\ zjy c f = false)) : zeo c f op k o l = l := by unfold zeo; rw [if_neg h]
theorem yoo {c : Codex} {f op : Int} {k o : Ex} {l : List Int} (h : zhf op = true /\ k.op = 2 /\ k.n = f /\ o.op = 1 /\ zjy c f = false) : zeo c f op k o l = zmc (zmc l o.n) (o.n + 1) := by unfold zeo; rw [if_pos h]
theorem ymd (c : Codex) (f op : Int) (os : List Ex) (l : List Int) : zzi c f op [] os l = l := by cases os <;> rfl
theorem zce (c : Codex) {m : List (Int × Int)} {f : Int} (hf : 0 <= f /\ f < c.facts.length) (op n : Int) (u : ByteArray) (den : Int) (ps : List Piece) (ks : List Ex) (l : List Int) (hz : l.length + 10 * xe (.mk op n u den ps ks) <= 100000000)
  (ha : ∀ k ∈ ks, zel c m k) (hk : ∀ k ∈ ks, ∀ l' : List Int, l'.length + 10 * xe k <= 100000000 -> zw Tryz.prog G 55 [c.sv, k.sv, sI f, .imm (zl l')] (.imm (zl (candE c f k l')))) :
  zw Tryz.prog G 55 [c.sv, (Ex.mk op n u den ps ks).sv, sI f, .imm (zl l)] (.imm (zl (zzi c f op ks ks.reverse (zbo c f op n l)))) := by
 have hlen : (zd ks).length = ks.length := by rw [zq]; simp
 rw [xe] at hz
 have hle := zdz ks
 obtain ⟨d, hd⟩ : ∃ d, c.facts[f.toNat]? = some d := ⟨_, List.getElem?_eq_getElem (by omega)⟩
 have hrow : (c.facts.map Decl.cells)[f.toNat]? = some [dS d.name, dS d.unit, dI d.role] := by simp [hd, Decl.cells]
 have hT : zjy c f = decide (d.unit = tT) := by unfold zjy; rw [hd]
 have hcmp := zde G op
 have hfl := zzh c f op n l
 rw [show c.sv = .agg [.imm (zk c.facts), .imm (zk c.lines), .imm (ys c.arts)] from rfl] at hk ⊢
 obtain ⟨b, hb⟩ : ∃ b, b = zhf op := ⟨_, rfl⟩
 rw [<- hb] at hcmp
 obtain ⟨l1, hl1⟩ : ∃ l1, l1 = zbo c f op n l := ⟨_, rfl⟩
 rw [<- hl1] at hfl ⊢
 refine zc Tryz.func55 rfl (by rw [Tryz.ntmps55]; simp) rfl rfl ?_; intro E hH hK
 apply yon (T := fun v : List Int => [(2, sI f), (3, .imm (zl v)), (4, .ptr 0 0), (5, .ptr 1 0), (9, sB b), (10, sI 0)]) (H := [.cells [.imm (zk c.facts), .imm (zk c.lines), .imm (ys c.arts)], .cells [sI op, sI n, sS u, sI den, .imm (.isl 3 (ps.map Piece.cells)), .imm (.isl 6 (zd ks))]]) (x := l1)
 case h1 =>
  intro key
  by_cases hA : op = 2 /\ n = f
  ·have hp0 := zjn G l 0 (by omega)
   have hp1 := zjn G (zmc l 0) 1 (by have := zjl l 0; omega)
   (refine zh ?_; conv => whnf)
   repeat' ((with_reducible refine way ?_ ?_) <;> (intro h; conv => whnf))
   all_goals try (exfalso; omega)
   refine ze rfl  hp0 ?_
   (refine za ?_; conv => whnf)
   refine zf (i := f.toNat) rfl (by omega) hrow ?_
   (refine za ?_; conv => whnf)
   repeat' ((with_reducible refine way ?_ ?_) <;> (intro h; conv => whnf))
   ·have ht := h
    have e0 : zmc (zmc l 0) 1 = l1 := by rw [hl1]; unfold zbo; rw [if_pos hA, if_pos (hT.trans (decide_eq_true (p := d.unit = tT) ht))]
    refine ze rfl  hp1 ?_
    (refine za ?_; conv => whnf)
    refine ze rfl  hcmp ?_
    (refine za ?_; conv => whnf)
    refine zg [2, 3, 4, 5, 9, 10] ?_
    exact key _ e0
   ·have ht := h
    have e0 : zmc l 0 = l1 := by rw [hl1]; unfold zbo; rw [if_pos hA, if_neg (by rw [hT, decide_eq_false (p := d.unit = tT) ht]; simp)]
    refine ze rfl  hcmp ?_
    (refine za ?_; conv => whnf)
    refine zg [2, 3, 4, 5, 9, 10] ?_
    exact key _ e0
  ·have e0 : l = l1 := by rw [hl1]; unfold zbo; rw [if_neg hA]
   (refine zh ?_; conv => whnf)
   repeat' ((with_reducible refine way ?_ ?_) <;> (intro h; conv => whnf))
   all_goals try (exfalso; omega)
   all_goals refine ze rfl  hcmp ?_
   all_goals (refine za ?_; conv => whnf)
   all_goals refine zg [2, 3, 4, 5, 9, 10] ?_
   all_goals exact key _ e0
 case h2 =>
  refine zp ks (fun i (v : List Int) => [(2, sI f), (3, .imm (zl v)), (4, .ptr 0 0), (5, .ptr 1 0), (9, sB b), (10, sI i)]) (fun _ _ => [.cells [.imm (zk c.facts), .imm (zk c.lines), .imm (ys c.arts)], .cells [sI op, sI n, sS u, sI den, .imm (.isl 3 (ps.map Piece.cells)), .imm (.isl 6 (zd ks))]])
   (fun done rest v => zzi c f op ks ks.reverse l1 = zzi c f op rest (ks.reverse.drop done.length) v /\ v.length + 10 * ye rest <= 100000000) l1 ⟨rfl, by omega⟩ ?_ ?_
  ·rintro v ⟨h1, _⟩
   rw [h1, ymd] at hK
   (refine zh ?_; conv => whnf)
   repeat' ((with_reducible refine way ?_ ?_) <;> (intro h; conv => whnf))
   all_goals try (exfalso; omega)
   exact hK _
  ·rintro done x rest v hda hdl ⟨h1, h2⟩ ih
   have hw := zm (n := done.length) (by omega)
   obtain ⟨o, ho⟩ : ∃ o, ks.reverse[done.length]? = some o := ⟨_, List.getElem?_eq_getElem (by simp; omega)⟩
   have hoi : ks[ks.length - 1 - done.length]? = some o := by rw [<- ho, List.getElem?_reverse (by omega)]
   have hstep : zzi c f op ks ks.reverse l1 = zzi c f op rest (ks.reverse.drop (done ++ [x]).length) (zeo c f op x o (candE c f x v)) := by
    obtain ⟨hlt, hoe⟩ := List.getElem?_eq_some_iff.1 ho
    rw [h1, List.drop_eq_getElem_cons hlt, hoe, List.length_append]
    rfl
   rw [ye] at h2
   have hx1 := zsy x
   have hcl := zik c f _ x (Nat.lt_succ_self _) v
   have hsl := zrl c f op x o (candE c f x v)
   have hcall := hk x (by rw [hda]; simp) v (by omega)
   have hao := ha o (List.mem_of_getElem? hoi)
   have hrx : (zd ks)[done.length]? = some x.cells := by rw [zq]; simp [hda]
   have hro : (zd ks)[ks.length - 1 - done.length]? = some o.cells := by rw [zq]; simp [hoi]
   generalize hV : candE c f x v = v2 at hcall hcl hsl hstep
   have fin : ∀ v3, v3 = zeo c f op x o v2 -> SW E _ _ _ := fun v3 h3 => ih v3 ⟨by rw [h3]; exact hstep, by rw [h3]; omega⟩
   obtain ⟨xop, xn, xu, xden, xps, xks⟩ := x
   obtain ⟨oop, on, ou, oden, ops, oks⟩ := o
   have fin2 : ¬ (zhf op = true /\ xop = 2 /\ xn = f /\ oop = 1 /\ zjy c f = false) -> SW E _ _ _ := fun hn => fin v2 (ymc hn).symm
   (refine zh ?_; conv => whnf)
   repeat' ((with_reducible refine way ?_ ?_) <;> (intro h; conv => whnf))
   all_goals try (exfalso; omega)
   (refine zx 0 mixed rfl ?_; refine zb [777] (nx := 2) ?_; conv => whnf)
   refine zv (i := done.length) (row := [dI xop, dI xn, dS xu, dI xden, .isl 3 (xps.map Piece.cells), .isl 6 (zd xks)]) rfl (show 2 <= 2 by decide) rfl hrx ?_
   (refine zb [777] (nx := 2) ?_; conv => whnf)
   refine yr rfl (show 2 <= 2 by decide) hcall ?_
   (refine zb [777, 3] (nx := 2) ?_; conv => whnf)
   refine jg ⟨.imm (zl v2), [], none⟩ rfl rfl (show 2 <= 2 by decide) (fun _ _ _ => rfl) ?_
   refine zao (by kernel_rfl) ?_
   (refine zh ?_; conv => whnf)
   refine zf (i := ks.length - 1 - done.length) (row := [dI oop, dI on, dS ou, dI oden, .isl 3 (ops.map Piece.cells), .isl 6 (zd oks)]) rfl (by rw [hlen, xh (c := (ks.length : Int) - 1) (by omega) (by omega), xh (c := (ks.length : Int) - 1 - (done.length : Int)) (by omega) (by omega)]; omega) hro ?_
   (refine za ?_; conv => whnf)
   cases b <;> (conv => whnf)
   ·rw [hw]
    exact yq [2, 3, 4, 5, 9, 10] 2 (by rw [hH]; exact Nat.zero_le 2) (Nat.succ_le_succ (Nat.succ_le_succ (Nat.zero_le _))) rfl rfl (fin2 fun hh => by rw [<- hb] at hh; cases hh.1)
   refine zf (i := done.length) (row := [dI xop, dI xn, dS xu, dI xden, .isl 3 (xps.map Piece.cells), .isl 6 (zd xks)]) rfl rfl hrx ?_
   (refine za ?_; conv => whnf)
   repeat' ((with_reducible refine way ?_ ?_) <;> (intro h; conv => whnf))
   ·have g2 := h
    refine zf (i := done.length) (row := [dI xop, dI xn, dS xu, dI xden, .isl 3 (xps.map Piece.cells), .isl 6 (zd xks)]) rfl rfl hrx ?_
    (refine za ?_; conv => whnf)
    repeat' ((with_reducible refine way ?_ ?_) <;> (intro h; conv => whnf))
    ·have g3 : xn = f := by assumption
     have g4 : oop = 1 := by assumption
     refine zf (i := f.toNat) rfl (by omega) hrow ?_
     (refine za ?_; conv => whnf)
     repeat' ((with_reducible refine way ?_ ?_) <;> (intro h; conv => whnf))
     ·have g5 : ¬ d.unit = tT := h
      have hon : 0 <= on /\ on <= 999999999999 := by
       unfold zel at hao
       exact ztp hao.1 g4
      have hwon : IntKind.i64.wrap (on + 1) = on + 1 := xh (by omega) (by omega)
      have hq1 := zjn G v2 on (by omega)
      have hq2 := zjn G (zmc v2 on) (on + 1) (by have := zjl v2 on; omega)
      rw [<- hwon] at hq2
      have fin3 := fin (zmc (zmc v2 on) (IntKind.i64.wrap (on + 1))) (by
       rw [hwon]
       exact (yoo (k := .mk xop xn xu xden xps xks) (o := .mk oop on ou oden ops oks) ⟨hb.symm, g2, g3, g4, by rw [hT]; exact decide_eq_false g5⟩).symm)
      (refine zx 0 mixed rfl ?_; refine zb [777] (nx := 3) ?_; conv => whnf)
      refine yr rfl (show 3 <= 3 by decide) hq1 ?_
      (refine zb [777] (nx := 3) ?_; conv => whnf)
      refine yr rfl (show 3 <= 3 by decide) hq2 ?_
      (refine zb [777, 3] (nx := 3) ?_; conv => whnf)
      refine jg ⟨.imm (zl (zmc (zmc v2 on) (IntKind.i64.wrap (on + 1)))), [], none⟩ rfl rfl (show 3 <= 3 by decide) (fun _ _ _ => rfl) ?_
      refine zao (by kernel_rfl) ?_
      (refine zh ?_; conv => whnf)
      rw [hw]
      exact yq [2, 3, 4, 5, 9, 10] 2 (by rw [hH]; exact Nat.zero_le 2) (Nat.succ_le_succ (Nat.succ_le_succ (Nat.zero_le _))) rfl rfl fin3
     ·have g5 : d.unit = tT := h
      rw [hw]
      exact yq [2, 3, 4, 5, 9, 10] 2 (by rw [hH]; exact Nat.zero_le 2) (Nat.succ_le_succ (Nat.succ_le_succ (Nat.zero_le _))) rfl rfl (fin2 fun hh => by have := hh.2.2.2.2; rw [hT, decide_eq_true g5] at this; cases this)
    ·rw [hw]
     exact yq [2, 3, 4, 5, 9, 10] 2 (by rw [hH]; exact Nat.zero_le 2) (Nat.succ_le_succ (Nat.succ_le_succ (Nat.zero_le _))) rfl rfl (fin2 fun hh => absurd hh.2.2.2.1 h)
    ·rw [hw]
     exact yq [2, 3, 4, 5, 9, 10] 2 (by rw [hH]; exact Nat.zero_le 2) (Nat.succ_le_succ (Nat.succ_le_succ (Nat.zero_le _))) rfl rfl (fin2 fun hh => absurd hh.2.2.1 h)
   ·rw [hw]
    exact yq [2, 3, 4, 5, 9, 10] 2 (by rw [hH]; exact Nat.zero_le 2) (Nat.succ_le_succ (Nat.succ_le_succ (Nat.zero_le _))) rfl rfl (fin2 fun hh => absurd hh.2.1 h)
theorem zrm (c : Codex) {m : List (Int × Int)} {f : Int} (hf : 0 <= f /\ f < c.facts.length) (k : Ex) (hk : LeafE c k) (l : List Int) (hz : l.length + 10 * xe k <= 100000000) :
  zw Tryz.prog G 55 [c.sv, k.sv, sI f, .imm (zl l)] (.imm (zl (candE c f k l))) := by
 obtain ⟨op, n, u, den, ps, ks⟩ := k
 have hks : ks = [] := hk.no
 subst hks
 rw [<- zjo (.inl rfl)]
 exact zce G c (m := m) hf op n u den ps [] l hz (fun k h => by cases h) (fun k h => by cases h)
theorem zgw (c : Codex) {m : List (Int × Int)} {f : Int} (hf : 0 <= f /\ f < c.facts.length) : ∀ (N : Nat) (e : Ex), SizeOf.sizeOf e < N -> zel c m e -> e.unit = tT -> simpE c e = true -> ∀ l : List Int, l.length + 10 * xe e <= 100000000 ->
  zw Tryz.prog G 55 [c.sv, e.sv, sI f, .imm (zl l)] (.imm (zl (candE c f e l)))
 | 0, _, h, _, _, _, _, _ => by omega
 | N + 1, .mk op n u den ps ks, hN, h, hu, hs, l, hz => by
  simp only [Ex.mk.sizeOf_spec] at hN
  have hu : u = tT := hu
  have hks : ∀ k ∈ ks, zel c m k := by unfold zel at h; exact wx h.2
  cases zji h hu with
  | const h1 hk hu' =>
   subst hk
   rw [<- zjo (.inl rfl)]
   exact zce G c hf op n u den ps [] l hz hks (fun k h => by cases h)
  | fact h1 hk hr ht =>
   subst hk
   rw [<- zjo (.inl rfl)]
   exact zce G c hf op n u den ps [] l hz hks (fun k h => by cases h)
  | neg k h1 hk hka hku =>
   subst h1 hk
   simp only [List.cons.sizeOf_spec] at hN
   have hsk : simpE c k = true := by
    rw [simpE.eq_def] at hs
    simpa only [show ¬ (5 : Int) = 1 by decide, show ¬ (5 : Int) = 2 by decide, if_false, if_true] using hs
   rw [<- zjo (.inr (.inl ⟨k, rfl, rfl⟩))]
   refine zce G c hf 5 n u den ps [k] l hz hks fun x hx l' hl' => ?_
   simp only [List.mem_singleton] at hx
   subst hx
   exact zgw c hf N x (by omega) hka hku hsk l' hl'
  | conn k r h1 hk hka hra hku hru =>
   subst hk
   simp only [List.cons.sizeOf_spec] at hN
   have hsE : simpE c (.mk op n u den ps [k, r]) = (simpE c k && simpE c r) := by
    rw [simpE.eq_def]
    simp only
    rw [if_neg (by omega), if_neg (by omega), if_neg (by omega), if_pos h1]
   rw [hsE, Bool.and_eq_true] at hs
   rw [<- zjo (.inr (.inr ⟨k, r, rfl⟩))]
   refine zce G c hf op n u den ps [k, r] l hz hks fun x hx l' hl' => ?_
   simp only [List.mem_cons, List.not_mem_nil, or_false] at hx
   rcases hx with rfl | rfl
   ·exact zgw c hf N x (by omega) hka hku hs.1 l' hl'
   ·exact zgw c hf N x (by omega) hra hru hs.2 l' hl'
  | cmp k r h1 hk hka hra =>
   subst hk
   rw [zfu h1] at hs
   simp only [Bool.and_eq_true, Bool.or_eq_true, decide_eq_true_eq] at hs
   have hlk := zeg hka (zfa hs.1.1)
   have hlr := zeg hra (zfa hs.1.2)
   rw [<- zjo (.inr (.inr ⟨k, r, rfl⟩))]
   refine zce G c hf op n u den ps [k, r] l hz hks fun x hx l' hl' => ?_
   simp only [List.mem_cons, List.not_mem_nil, or_false] at hx
   rcases hx with rfl | rfl
   ·exact zrm G c (m := m) hf x hlk l' hl'
   ·exact zrm G c (m := m) hf x hlr l' hl'
  | other h1 h2 h3 h4 h5 =>
   exfalso
   unfold simpE at hs
   rw [if_neg h1, if_neg h2, if_neg h3, if_neg h4] at hs
   have hce : zhf op = false := by unfold zhf; simp; omega
   split at hs
   ·simp [hce] at hs
   ·cases hs
def yme (ls : List (List Int)) : D := .isl 1 (ls.map fun l => [zl l])
theorem yhk (ls : List (List Int)) (l : List Int) : zhi (ls ++ [l]) = min (zhi ls * max 1 (l.length : Int)) 1000000 := by
 unfold zhi
 rw [List.foldl_append]
 rfl
theorem ymf (ls : List (List Int)) : 1 <= zhi ls /\ zhi ls <= 1000000 := by
 have : ∀ (ls : List (List Int)) (p : Int), 1 <= p /\ p <= 1000000 -> 1 <= ls.foldl (fun p l => min (p * max 1 (l.length : Int)) 1000000) p /\ ls.foldl (fun p l => min (p * max 1 (l.length : Int)) 1000000) p <= 1000000 := by
  intro ls
  induction ls with
  | nil => exact fun p h => h
  | cons l r ih =>
   intro p h
   refine ih _ ?_
   have h1 : p <= p * max 1 (l.length : Int) := by
    have := Int.mul_le_mul_of_nonneg_left (show (1 : Int) <= max 1 (l.length : Int) by omega) (show 0 <= p by omega)
    omega
   show 1 <= min (p * max 1 (l.length : Int)) 1000000 /\ min (p * max 1 (l.length : Int)) 1000000 <= 1000000
   omega
 exact this ls 1 (by omega)
theorem zrn (c : Codex) (f : Int) : ∀ (es : List Ex), (∀ e ∈ es, xe e <= 400) -> ∀ l : List Int, (es.foldl (fun l e => candE c f e l) l).length <= l.length + 3200 * es.length
 | [], _, l => by simp
 | e :: r, h, l => by
  have h1 := zik c f _ e (Nat.lt_succ_self _) l
  have h2 := zrn c f r (fun x hx => h x (by simp [hx])) (candE c f e l)
  have h3 := h e (by simp)
  rw [List.foldl_cons, List.length_cons]
  omega
theorem ymg (c : Codex) (f : Int) (es : List Ex) (e : Ex) : yep c f (es ++ [e]) = candE c f e (yep c f es) := by
 unfold yep
 rw [List.foldl_append]
 rfl
theorem yhl (c : Codex) {m : List (Int × Int)} (vs : List Int) (hz : vs.length <= 1000) (hv : ∀ v ∈ vs, 0 <= v /\ v < c.arts.length) (hwh : ∀ a ∈ c.arts, a.when_.length <= 100) (hc : ∀ e ∈ yg c vs, zzd c m e)
  (hb : (yg c vs).all (simpE c) = false) : zw Tryz.prog G 23 [c.sv, .imm (zl vs)] (.tup [zdm, sB false]) := by
 have h1 := zij G c vs (by omega) hv hwh
 have hl := zef hwh vs
 generalize yg c vs = es at h1 hl hc hb
 have hel : (es.map Ex.cells).length = es.length := by simp
 have hS := fun e => zbm G c m _ e (Nat.lt_succ_self _)
 rw [show c.sv = .agg [.imm (zk c.facts), .imm (zk c.lines), .imm (ys c.arts)] from rfl] at h1 hS ⊢
 refine zc Tryz.func23 rfl (by rw [Tryz.ntmps23]; simp) rfl rfl ?_; intro E hH hK
 (refine zh ?_; conv => whnf)
 refine ze rfl  h1 ?_
 (refine za ?_; conv => whnf)
 refine zg [2, 6, 7, 8, 9] ?_
 change SW E _ [(2, .ptr 0 0), (6, .imm (yl es)), (7, zdm), (8, sI 1), (9, sI 0)] [.cells [.imm (zk c.facts), .imm (zk c.lines), .imm (ys c.arts)]]
 refine zp es (fun i (_ : Unit) => [(2, .ptr 0 0), (6, .imm (yl es)), (7, zdm), (8, sI 1), (9, sI i)]) (fun _ _ => [.cells [.imm (zk c.facts), .imm (zk c.lines), .imm (ys c.arts)]])
  (fun done _ _ => done.all (simpE c) = true) () rfl ?_ ?_
 ·rintro _ h2
  rw [h2] at hb
  cases hb
 ·rintro done x rest _ hda hdl h2 ih
  have hw := zm (n := done.length) (by omega)
  have hx := hS x (hc x (by rw [hda]; simp)).1 (hc x (by rw [hda]; simp)).2
  have hsn : (done ++ [x]).all (simpE c) = simpE c x := by rw [List.all_append, h2]; simp
  have hrow : (es.map Ex.cells)[done.length]? = some x.cells := by simp [hda]
  rw [hsn] at ih
  generalize simpE c x = b1 at hx ih
  obtain ⟨kop, kn, ku, kden, kps, kks⟩ := x
  (refine zh ?_; conv => whnf)
  repeat' ((with_reducible refine way ?_ ?_) <;> (intro h; conv => whnf))
  all_goals try (exfalso; omega)
  (refine zx 0 mixed rfl ?_; refine zb [777] (nx := 1) ?_; conv => whnf)
  refine zv (i := done.length) (row := [dI kop, dI kn, dS ku, dI kden, .isl 3 (kps.map Piece.cells), .isl 6 (zd kks)]) rfl (show 1 <= 1 by decide) rfl hrow ?_
  (refine zb [777] (nx := 1) ?_; conv => whnf)
  refine yr rfl (show 1 <= 1 by decide) hx ?_
  (refine zb [777, 10] (nx := 1) ?_; conv => whnf)
  refine jg ⟨sB b1, [], none⟩ rfl rfl (show 1 <= 1 by decide) (fun _ _ _ => rfl) ?_
  refine zao (by kernel_rfl) ?_
  (refine zh ?_; conv => whnf)
  cases b1 <;> (conv => whnf)
  ·exact hK _
  ·rw [hw]
   exact zg [2, 6, 7, 8, 9] (ih () rfl)
theorem ybw (c : Codex) {m : List (Int × Int)} (vs : List Int) (hz : vs.length <= 100) (hv : ∀ v ∈ vs, 0 <= v /\ v < c.arts.length) (hwh : ∀ a ∈ c.arts, a.when_.length <= 100) (hc : ∀ e ∈ yg c vs, zzd c m e /\ xe e <= 400)
  (hF : c.facts.length <= 1000) (hb : (yg c vs).all (simpE c) = true) : zw Tryz.prog G 23 [c.sv, .imm (zl vs)] (.tup [.imm (yme (ybr c (yg c vs))), sB (decide (zhi (ybr c (yg c vs)) <= 4096))]) := by
 have h1 := zij G c vs (by omega) hv hwh
 have hl := zef hwh vs
 generalize yg c vs = es at h1 hl hc hb
 have hel : (es.map Ex.cells).length = es.length := by simp
 have hfl : (c.facts.map Decl.cells).length = c.facts.length := by simp
 have hse : ∀ e ∈ es, simpE c e = true := List.all_eq_true.1 hb
 have hS := fun e => zbm G c m _ e (Nat.lt_succ_self _)
 have hC := fun (f : Int) (hf : 0 <= f /\ f < c.facts.length) (e : Ex) => zgw G c (m := m) hf _ e (Nat.lt_succ_self _)
 rw [show c.sv = .agg [.imm (zk c.facts), .imm (zk c.lines), .imm (ys c.arts)] from rfl] at h1 hS hC ⊢
 refine zc Tryz.func23 rfl (by rw [Tryz.ntmps23]; simp) rfl rfl ?_; intro E hH hK
 (refine zh ?_; conv => whnf)
 refine ze rfl  h1 ?_
 (refine za ?_; conv => whnf)
 refine zg [2, 6, 7, 8, 9] ?_
 change SW E _ [(2, .ptr 0 0), (6, .imm (yl es)), (7, zdm), (8, sI 1), (9, sI 0)] [.cells [.imm (zk c.facts), .imm (zk c.lines), .imm (ys c.arts)]]
 refine zp es (fun i (_ : Unit) => [(2, .ptr 0 0), (6, .imm (yl es)), (7, zdm), (8, sI 1), (9, sI i)]) (fun _ _ => [.cells [.imm (zk c.facts), .imm (zk c.lines), .imm (ys c.arts)]])
  (fun done _ _ => True) () trivial ?_ ?_
 ·rintro _ _
  (refine zh ?_; conv => whnf)
  repeat' ((with_reducible refine way ?_ ?_) <;> (intro h; conv => whnf))
  all_goals try (exfalso; omega)
  refine zsp (n := 7) (kk := 1) rfl ?_
  refine zg [2, 6, 7, 8, 11] ?_
  change SW E _ [(2, .ptr 0 0), (6, .imm (yl es)), (7, .asl 1 1 []), (8, sI 1), (11, sI 0)] [.cells [.imm (zk c.facts), .imm (zk c.lines), .imm (ys c.arts)], .tok 1 0]
  refine zp c.facts (fun i (ls : List (List Int)) => [(2, .ptr 0 0), (6, .imm (yl es)), (7, .asl 1 1 (ls.map fun l => [zl l])), (8, sI (zhi ls)), (11, sI i)])
   (fun _ ls => [.cells [.imm (zk c.facts), .imm (zk c.lines), .imm (ys c.arts)], .tok 1 (ls.map fun l => [zl l]).length])
   (fun done _ ls => ls = (List.range done.length).map fun (i : Nat) => yep c i es) [] rfl ?_ ?_
  ·rintro ls h2
   have h3 : ybr c es = ls := h2.symm
   rw [h3] at hK
   refine zdi ?_
   change SW E _ [(2, .ptr 0 0), (6, .imm (yl es)), (7, .imm (yme ls)), (8, sI (zhi ls)), (11, sI c.facts.length)] _
   (refine zh ?_; conv => whnf)
   repeat' ((with_reducible refine way ?_ ?_) <;> (intro h; conv => whnf))
   all_goals try (exfalso; omega)
   all_goals exact hK _
  ·rintro done x rest ls hda hdl h2 ih
   have hw := zm (n := done.length) (by omega)
   have hfr : 0 <= (done.length : Int) /\ (done.length : Int) < c.facts.length := by omega
   have hsn : ∀ l, l = yep c done.length es -> ls ++ [l] = (List.range (done ++ [x]).length).map fun (i : Nat) => yep c i es := fun l h3 => by
    rw [List.length_append, List.length_cons, List.length_nil, List.range_succ, List.map_append, <- h2, h3]
    rfl
   have hlsl : ls.length = done.length := by rw [h2]; simp
   have hpr := ymf ls
   (refine zh ?_; conv => whnf)
   repeat' ((with_reducible refine way ?_ ?_) <;> (intro h; conv => whnf))
   all_goals try (exfalso; omega)
   refine yqd 12 (x := zdm) (y := .imm (zl [])) rfl (SV.Is.nil 1) ?_
   refine zg [2, 6, 7, 8, 11, 12, 13] ?_
   change SW E _ [(2, .ptr 0 0), (6, .imm (yl es)), (7, .asl 1 1 (ls.map fun l => [zl l])), (8, sI (zhi ls)), (11, sI done.length), (12, .imm (zl [])), (13, sI 0)] [.cells [.imm (zk c.facts), .imm (zk c.lines), .imm (ys c.arts)], .tok 1 (ls.map fun l => [zl l]).length]
   refine zp es (fun i (l : List Int) => [(2, .ptr 0 0), (6, .imm (yl es)), (7, .asl 1 1 (ls.map fun l => [zl l])), (8, sI (zhi ls)), (11, sI done.length), (12, .imm (zl l)), (13, sI i)])
    (fun _ _ => [.cells [.imm (zk c.facts), .imm (zk c.lines), .imm (ys c.arts)], .tok 1 (ls.map fun l => [zl l]).length])
    (fun dn _ l => l = yep c done.length dn) [] rfl ?_ ?_
   ·rintro l h3
    have hll := zrn c done.length es (fun e he => (hc e he).2) []
    have hll : l.length <= 3200 * es.length := by rw [h3]; simpa [yep] using hll
    have hli : (l.map fun n => [dI n]).length = l.length := by simp
    have hm0 : 1 <= max 1 (l.length : Int) /\ max 1 (l.length : Int) <= 32000000 := by omega
    have e1 : (if 1000000 < IntKind.i64.wrap (zhi ls * (if 1 < (l.length : Int) then (l.length : Int) else 1)) then 1000000 else IntKind.i64.wrap (zhi ls * (if 1 < (l.length : Int) then (l.length : Int) else 1))) = zhi (ls ++ [l]) := by
     rw [yhk, show (if 1 < (l.length : Int) then (l.length : Int) else 1) = max 1 (l.length : Int) by omega]
     have hb1 := Int.mul_le_mul_of_nonneg_right hpr.2 (show 0 <= max 1 (l.length : Int) by omega)
     have hb2 := Int.mul_nonneg (show 0 <= zhi ls by omega) (show 0 <= max 1 (l.length : Int) by omega)
     rw [xh (by omega) (by omega)]
     omega
    have hsl := hsn l h3
    have hend := ih (ls ++ [l]) hsl
    rw [<- e1, <- hli] at hend
    (refine zh ?_; conv => whnf)
    repeat' ((with_reducible refine way ?_ ?_) <;> (intro h; conv => whnf))
    all_goals try (exfalso; omega)
    refine wd (b := 1) (kk := 1) (rows := ls.map fun l => [zl l]) (new := [[zl l]]) rfl ⟨by decide, rfl⟩ rfl (by rw [List.length_map]; simp only [List.length_cons, List.length_nil]; omega) ?_
    have e5 : (ls.map fun l => [zl l]) ++ [[zl l]] = (ls ++ [l]).map fun l => [zl l] := by simp
    have e6 : (ls.map fun l => [zl l]).length + [[zl l]].length = ((ls ++ [l]).map fun l => [zl l]).length := by simp
    refine Eq.mpr (congrArg (fun v => SWr E _ _ _ (wq _ _ (.asl 1 1 v)) _) e5) ?_
    refine Eq.mpr (congrArg (fun v => SWr E _ _ _ _ (List.set _ 1 (.tok 1 v))) e6) ?_
    (refine za ?_; conv => whnf)
    rw [hw]
    exact zg [2, 6, 7, 8, 11] hend
   ·rintro dn y rs l hdy hdly h3 ihy
    have hwy := zm (n := dn.length) (by omega)
    have hym : y ∈ es := by rw [hdy]; simp
    have hll := zrn c done.length dn (fun e he => (hc e (by rw [hdy]; simp [he])).2) []
    have hll : l.length <= 3200 * dn.length := by rw [h3]; simpa [yep] using hll
    have hcall := hC done.length hfr y (hc y hym).1.1 (hc y hym).1.2 (hse y hym) l (by have := (hc y hym).2; omega)
    have hsy := ymg c done.length dn y
    rw [<- h3] at hsy
    generalize candE c done.length y l = l2 at hcall hsy
    have hrow : (es.map Ex.cells)[dn.length]? = some y.cells := by simp [hdy]
    obtain ⟨kop, kn, ku, kden, kps, kks⟩ := y
    (refine zh ?_; conv => whnf)
    repeat' ((with_reducible refine way ?_ ?_) <;> (intro h; conv => whnf))
    all_goals try (exfalso; omega)
    (refine zx 0 mixed rfl ?_; refine zb [777] (nx := 2) ?_; conv => whnf)
    refine zv (i := dn.length) (row := [dI kop, dI kn, dS ku, dI kden, .isl 3 (kps.map Piece.cells), .isl 6 (zd kks)]) rfl (show 2 <= 2 by decide) rfl hrow ?_
    (refine zb [777] (nx := 2) ?_; conv => whnf)
    refine yr rfl (show 2 <= 2 by decide) hcall ?_
    (refine zb [777, 12] (nx := 2) ?_; conv => whnf)
    refine jg ⟨.imm (zl l2), [], none⟩ rfl rfl (show 2 <= 2 by decide) (fun _ _ _ => rfl) ?_
    refine zao (by kernel_rfl) ?_
    (refine zh ?_; conv => whnf)
    rw [hwy]
    exact zg [2, 6, 7, 8, 11, 12, 13] (ihy l2 hsy.symm)
 ·rintro done x rest _ hda hdl _ ih
  have hw := zm (n := done.length) (by omega)
  have hxm : x ∈ es := by rw [hda]; simp
  have hx := hS x (hc x hxm).1.1 (hc x hxm).1.2
  rw [hse x hxm] at hx
  have hrow : (es.map Ex.cells)[done.length]? = some x.cells := by simp [hda]
  obtain ⟨kop, kn, ku, kden, kps, kks⟩ := x
  (refine zh ?_; conv => whnf)
  repeat' ((with_reducible refine way ?_ ?_) <;> (intro h; conv => whnf))
  all_goals try (exfalso; omega)
  (refine zx 0 mixed rfl ?_; refine zb [777] (nx := 1) ?_; conv => whnf)
  refine zv (i := done.length) (row := [dI kop, dI kn, dS ku, dI kden, .isl 3 (kps.map Piece.cells), .isl 6 (zd kks)]) rfl (show 1 <= 1 by decide) rfl hrow ?_
  (refine zb [777] (nx := 1) ?_; conv => whnf)
  refine yr rfl (show 1 <= 1 by decide) hx ?_
  (refine zb [777, 10] (nx := 1) ?_; conv => whnf)
  refine jg ⟨sB true, [], none⟩ rfl rfl (show 1 <= 1 by decide) (fun _ _ _ => rfl) ?_
  refine zao (by kernel_rfl) ?_
  (refine zh ?_; conv => whnf)
  rw [hw]
  exact zg [2, 6, 7, 8, 9] (ih () trivial)
abbrev zan : D := .val (.slice none 0 0)
def znl : ByteArray := ⟨#[69, 85, 82]⟩
def yhm (op n : Int) (u : ByteArray) (ks : D) : SV := .agg [sI op, sI n, sS u, sI 0, .imm zan, .imm ks]
theorem yop (op n : Int) (u : ByteArray) (ks : List Ex) : (yhm op n u (.isl 6 (ks.map Ex.cells))).Is (Ex.mk op n u 0 [] ks).sv := by
 rw [Ex.sv, Ex.cells, zq]
 exact SIs.agg (.cons (SV.Is.refl _) (.cons (SV.Is.refl _) (.cons (SV.Is.refl _) (.cons (SV.Is.refl _) (.cons (SV.Is.nil 3) (.cons (SV.Is.refl _) .nil))))))
theorem zro (op n : Int) (u : ByteArray) : (yhm op n u zan).Is (Ex.mk op n u 0 [] []).sv := by
 rw [Ex.sv, Ex.cells, zq]
 exact SIs.agg (.cons (SV.Is.refl _) (.cons (SV.Is.refl _) (.cons (SV.Is.refl _) (.cons (SV.Is.refl _) (.cons (SV.Is.nil 3) (.cons (SV.Is.nil 6) .nil))))))
theorem znm (n : Int) (u : ByteArray) : zw Tryz.prog G 36 [sI n, sS u] (Ex.mk 1 n u 0 [] []).sv := by
 refine zch (r := yhm 1 n u zan) ?_ (zro _ _ _)
 refine zc Tryz.func36 rfl (by rw [Tryz.ntmps36]; simp) rfl rfl ?_; intro E hH hK
 (refine zh ?_; conv => whnf)
 exact hK _
theorem ymh (n : Int) (u : ByteArray) : zw Tryz.prog G 37 [sI n, sS u] (Ex.mk 2 n u 0 [] []).sv := by
 refine zch (r := yhm 2 n u zan) ?_ (zro _ _ _)
 refine zc Tryz.func37 rfl (by rw [Tryz.ntmps37]; simp) rfl rfl ?_; intro E hH hK
 (refine zh ?_; conv => whnf)
 exact hK _
theorem yhn (op : Int) (a b : Ex) : zw Tryz.prog G 35 [sI op, a.sv, b.sv] (Ex.mk op 0 tT 0 [] [a, b]).sv := by
 refine zch (r := yhm op 0 tT (.isl 6 ([a, b].map Ex.cells))) ?_ (yop _ _ _ _)
 obtain ⟨o1, n1, u1, d1, p1, k1⟩ := a
 obtain ⟨o2, n2, u2, d2, p2, k2⟩ := b
 refine zc Tryz.func35 rfl (by rw [Tryz.ntmps35]; simp) rfl rfl ?_; intro E hH hK
 (refine zh ?_; conv => whnf)
 exact hK _
def zbq : List Decl := [⟨⟨#[104, 111, 117, 114, 115]⟩, ⟨#[109, 105, 110, 117, 116, 101, 115]⟩, 0⟩, ⟨⟨#[109, 97, 114, 114, 105, 101, 100]⟩, ⟨#[116, 114, 117, 116, 104]⟩, 0⟩, ⟨⟨#[97, 103, 101]⟩, ⟨#[110, 117, 109, 98, 101, 114]⟩, 0⟩]
def zbr : List Decl := [⟨⟨#[98, 97, 115, 105, 99]⟩, znl, 1⟩]
def yoq (i : Nat) (es : List Ex) : Article := ⟨i + 1, 0, 1, 8766, 36525, 8766, es, [], .mk 1 100 znl 0 [] []⟩
def yho (w : List (List Ex)) : Codex := ⟨zbq, zbr, w.mapIdx yoq⟩
def ybx (i : Nat) (es : List Ex) : List D := [dI ((i : Int) + 1), dI 0, dI 1, dI 8766, dI 36525, dI 8766, yl es, zan, dI 1, dI 100, dS znl, dI 0, .isl 3 [], .isl 6 []]
theorem zzj (w : List (List Ex)) (hw : w.length <= 1000) : zw Tryz.prog G 38 [.imm (.isl 1 (w.map fun es => [yl es]))] (yho w).sv := by
 refine zch (r := .agg [.imm (zk zbq), .imm (zk zbr), .imm (.isl 14 (w.mapIdx ybx))]) ?_ ?_
 rotate_left
 ·refine SIs.agg (.cons (SV.Is.refl _) (.cons (SV.Is.refl _) (.cons (D.Is.imm (DIss.isl (k := 14) ?_)) .nil)))
  show DIss (w.mapIdx ybx) ((w.mapIdx yoq).map Article.cells)
  have em : (w.mapIdx yoq).map Article.cells = w.mapIdx (fun i es => (yoq i es).cells) := by
   apply List.ext_getElem?
   intro i
   rw [List.getElem?_map, List.getElem?_mapIdx, List.getElem?_mapIdx, Option.map_map]
   rfl
  rw [em]
  have : ∀ (l : List (List Ex)) (f g : Nat -> List Ex -> List D), (∀ i e, DIs (f i e) (g i e)) -> DIss (l.mapIdx f) (l.mapIdx g) := by
   intro l
   induction l with
   | nil => intro f g _; exact .nil
   | cons e l ih =>
    intro f g h
    rw [List.mapIdx_cons, List.mapIdx_cons]
    exact .cons (h 0 e) (ih _ _ fun i e => h (i + 1) e)
  refine this w _ _ fun i e => ?_
  exact .cons (D.Is.refl _) (.cons (D.Is.refl _) (.cons (D.Is.refl _) (.cons (D.Is.refl _) (.cons (D.Is.refl _) (.cons (D.Is.refl _) (.cons (D.Is.refl _) (.cons (D.Is.nil 1) (.cons (D.Is.refl _) (.cons (D.Is.refl _) (.cons (D.Is.refl _) (.cons (D.Is.refl _) (.cons (D.Is.refl _) (.cons (D.Is.refl _) .nil)))))))))))))
 have hla : (w.map fun es => [yl es]).length = w.length := by simp
 have hk := znm G 100 znl
 refine zc Tryz.func38 rfl (by rw [Tryz.ntmps38]; simp) rfl rfl ?_; intro E hH hK
 (refine zh ?_; conv => whnf)
 refine zg [0, 2, 3, 4] ?_
 change SW E _ [(0, .imm (.isl 1 (w.map fun es => [yl es]))), (2, .ptr 0 0), (3, .ptr 1 0), (4, sI 0)] [.cells [.imm zan, .imm zan, .imm zan], .cells [.imm (zk zbq), .imm (zk zbr), .imm zan]]
 refine zmx 1 2 14 (cs := [.imm (zk zbq), .imm (zk zbr), .imm zan]) rfl rfl ?_
 change SW E _ [(0, .imm (.isl 1 (w.map fun es => [yl es]))), (2, .ptr 0 0), (3, .ptr 1 0), (4, sI 0)] [.cells [.imm zan, .imm zan, .imm zan], .cells [.imm (zk zbq), .imm (zk zbr), .asl 2 14 []], .tok 14 0]
 refine zp w (fun i (_ : List (List D)) => [(0, .imm (.isl 1 (w.map fun es => [yl es]))), (2, .ptr 0 0), (3, .ptr 1 0), (4, sI i)]) (fun _ L => [.cells [.imm zan, .imm zan, .imm zan], .cells [.imm (zk zbq), .imm (zk zbr), .asl 2 14 L], .tok 14 L.length])
  (fun done _ L => L = done.mapIdx ybx) [] rfl ?_ ?_
 ·rintro L h1
  rw [<- h1] at hK
  refine zdi ?_
  change SW E _ [(0, .imm (.isl 1 (w.map fun es => [yl es]))), (2, .ptr 0 0), (3, .ptr 1 0), (4, sI w.length)] [.cells [.imm zan, .imm zan, .imm zan], .cells [.imm (zk zbq), .imm (zk zbr), .imm (.isl 14 L)], _]
  (refine zh ?_; conv => whnf)
  repeat' ((with_reducible refine way ?_ ?_) <;> (intro h; conv => whnf))
  all_goals try (exfalso; omega)
  exact hK _
 ·rintro done x rest L hda hdl h1 ih
  have hw2 := zm (n := done.length) (by omega)
  have hrx : (w.map fun es => [yl es])[done.length]? = some [yl x] := by simp [hda]
  have hLl : L.length = done.length := by rw [h1]; simp
  have hsn : (done ++ [x]).mapIdx ybx = L ++ [ybx done.length x] := by rw [List.mapIdx_concat, <- h1]
  (refine zh ?_; conv => whnf)
  repeat' ((with_reducible refine way ?_ ?_) <;> (intro h; conv => whnf))
  all_goals try (exfalso; omega)
  (refine zx 0 mixed rfl ?_; refine zb [777] (nx := 3) ?_; conv => whnf)
  refine zv (i := done.length) (row := [yl x]) rfl (show 3 <= 3 by decide) rfl hrx ?_
  (refine zb [777] (nx := 3) ?_; conv => whnf)
  refine yr rfl (show 3 <= 3 by decide) hk ?_
  (refine zb [777] (nx := 3) ?_; conv => whnf)
  rw [show IntKind.i64.wrap ((done.length : Int) + 1) = (done.length : Int) + 1 from xh (by omega) (by omega)]
  refine zit (b := 2) (kk := 14) (rows := L) (new := [ybx done.length x]) rfl rfl rfl rfl rfl rfl rfl rfl rfl rfl ⟨by decide, rfl⟩ (show 3 <= 3 by decide) rfl (by simp only [List.length_cons, List.length_nil]; omega) ?_
  (refine zb [777] (nx := 3) ?_; conv => whnf)
  (refine zh ?_; conv => whnf)
  rw [hw2]
  refine zg [0, 2, 3, 4] ?_
  exact ih (L ++ [ybx done.length x]) hsn.symm
def zgx (i : Nat) (d : D) : List SV := [sI ((i : Int) + 1), sI 0, sI 1, sI 8766, sI 36525, sI 8766, .imm d, .imm zan, sI 1, sI 100, sS znl, sI 0, .imm (.isl 3 []), .imm (.isl 6 [])]
theorem zzk : ∀ (ds : List D) (f : Nat -> Nat), ((ds.mapIdx fun i d => zgx (f i) d).flatten).length = ds.length * 14
 | [], _ => rfl
 | d :: r, f => by
  rw [List.mapIdx_cons, List.flatten_cons, List.length_append, zzk r (fun i => f (i + 1))]
  simp only [List.length_cons, zgx, List.length_nil]
  omega
theorem ymi (ds : List D) (hw : ds.length <= 1000) (hds : ∀ d ∈ ds, d = zan) : SCall Tryz.prog G 38 [.imm (.isl 1 (ds.map fun d => [d]))] [] (fun r H' => r = .agg [.imm (zk zbq), .imm (zk zbr), .vec 2 ds.length] /\ ∃ x y, H' = [x, y, .vec 14 (ds.mapIdx zgx).flatten]) := by
 have hk := znm G 100 znl
 have hla : (ds.map fun d => [d]).length = ds.length := by simp
 refine xb Tryz.func38 rfl (by rw [Tryz.ntmps38]; simp) ?_
 intro E hH hK
 (refine zh ?_; conv => whnf)
 refine zg [0, 2, 3, 4] ?_
 change SW E _ [(0, .imm (.isl 1 (ds.map fun d => [d]))), (2, .ptr 0 0), (3, .ptr 1 0), (4, sI 0)] [.cells [.imm zan, .imm zan, .imm zan], .cells [.imm (zk zbq), .imm (zk zbr), .imm zan]]
 refine zmq 1 2 14 (cs := [.imm (zk zbq), .imm (zk zbr), .imm zan]) rfl rfl ?_
 change SW E _ [(0, .imm (.isl 1 (ds.map fun d => [d]))), (2, .ptr 0 0), (3, .ptr 1 0), (4, sI 0)] [.cells [.imm zan, .imm zan, .imm zan], .cells [.imm (zk zbq), .imm (zk zbr), .vec 2 0], .vec 14 []]
 refine zp ds (fun i (_ : List SV) => [(0, .imm (.isl 1 (ds.map fun d => [d]))), (2, .ptr 0 0), (3, .ptr 1 0), (4, sI i)]) (fun i L => [.cells [.imm zan, .imm zan, .imm zan], .cells [.imm (zk zbq), .imm (zk zbr), .vec 2 i], .vec 14 L])
  (fun done _ L => L = (done.mapIdx zgx).flatten) [] rfl ?_ ?_
 ·rintro L h1
  (refine zh ?_; conv => whnf)
  repeat' ((with_reducible refine way ?_ ?_) <;> (intro h; conv => whnf))
  all_goals try (exfalso; omega)
  rw [h1]
  exact hK _ _ ⟨rfl, _, _, rfl⟩
 ·rintro done x rest L hda hdl h1 ih
  have hw2 := zm (n := done.length) (by omega)
  have hrx : (ds.map fun d => [d])[done.length]? = some [x] := by simp [hda]
  have hLl : L.length = done.length * 14 := by rw [h1]; exact zzk done fun i => i
  have hx : x = zan := hds x (by rw [hda]; simp)
  subst hx
  have hsn : ((done ++ [zan]).mapIdx zgx).flatten = L ++ zgx done.length zan := by rw [List.mapIdx_concat, List.flatten_append, <- h1]; simp
  (refine zh ?_; conv => whnf)
  repeat' ((with_reducible refine way ?_ ?_) <;> (intro h; conv => whnf))
  all_goals try (exfalso; omega)
  (refine zx 0 mixed rfl ?_; refine zb [777] (nx := 3) ?_; conv => whnf)
  refine zv (i := done.length) (row := [zan]) rfl (show 3 <= 3 by decide) rfl hrx ?_
  (refine zb [777] (nx := 3) ?_; conv => whnf)
  refine yr rfl (show 3 <= 3 by decide) hk ?_
  (refine zb [777] (nx := 3) ?_; conv => whnf)
  rw [show IntKind.i64.wrap ((done.length : Int) + 1) = (done.length : Int) + 1 from xh (by omega) (by omega)]
  refine ybn (b := 2) (kk := 14) (n := done.length) (cs := L) (new := [[dI ((done.length : Int) + 1), dI 0, dI 1, dI 8766, dI 36525, dI 8766, zan, zan, dI 1, dI 100, dS znl, dI 0, .isl 3 [], .isl 6 []]]) rfl rfl rfl rfl rfl rfl rfl rfl rfl rfl ⟨by decide, rfl⟩ (show 3 <= 3 by decide) rfl hLl (by decide) (Nat.le_refl 1) (by simp only [List.length_cons, List.length_nil]; omega) ?_
  (refine zb [777] (nx := 3) ?_; conv => whnf)
  (refine zh ?_; conv => whnf)
  rw [hw2]
  refine zg [0, 2, 3, 4] ?_
  exact ih (L ++ zgx done.length zan) hsn.symm
def eK (n : Int) (u : ByteArray) : Ex := .mk 1 n u 0 [] []
def eF (n : Int) (u : ByteArray) : Ex := .mk 2 n u 0 [] []
def eT (op : Int) (a b : Ex) : Ex := .mk op 0 tT 0 [] [a, b]
def zwd : Ex := eT 9 (eK 480 tM) (eF 0 tM)
def zgy : Ex := eT 8 (.mk 4 1 tN 0 [] []) (eK 7 tN)
def zjz : Ex := eT 9 (eF 2 tN) (eK 18 tN)
def zka : Ex := eT 10 (eK 18 tN) (eF 2 tN)
def yif : Ex := eT 9 (eK 30 tN) (eF 2 tN)
def xC : Codex := yho [[zwd, zgy], [eT 6 zjz zka], [eF 1 tT], [yif]]
def xD : Codex := yho [[eF 1 tT], [yif]]
def xR : Codex := ⟨zbq, zbr, [⟨1, 0, 1, 8766, 36525, 8766, [], [], .mk 3 2 znl 0 [] []⟩, ⟨2, 0, 1, 8766, 36525, 8766, [], [], .mk 3 1 znl 0 [] []⟩]⟩
theorem ytj : zu xC = true := by kernel_rfl
theorem yur : zu xD = true := by kernel_rfl
theorem ytk : zu xR = true := by kernel_rfl
def yby (x : Int) : List Int -> List Int
 | [] => [x]
 | y :: l => if x <= y then x :: y :: l else y :: yby x l
def zzl : List Int -> List Int
 | [] => []
 | x :: l => yby x (zzl l)
theorem znn (x : Int) : ∀ l, (yby x l).Perm (x :: l)
 | [] => .refl _
 | y :: l => by
  rw [yby]
  split
  ·exact .refl _
  ·exact ((znn x l).cons y).trans (.swap x y l)
theorem zua : ∀ l, (zzl l).Perm l
 | [] => .refl _
 | x :: l => (znn x _).trans ((zua l).cons x)
theorem zoe (x : Int) : ∀ l, l.Pairwise (· <= ·) -> (yby x l).Pairwise (· <= ·)
 | [], _ => by simp [yby]
 | y :: l, h => by
  rw [List.pairwise_cons] at h
  rw [yby]
  split
  ·rename_i hxy
   rw [List.pairwise_cons]
   refine ⟨fun z hz => ?_, List.pairwise_cons.2 h⟩
   rcases List.mem_cons.1 hz with rfl | hz
   ·exact hxy
   ·have := h.1 z hz; omega
  ·rename_i hxy
   rw [List.pairwise_cons]
   refine ⟨fun z hz => ?_, zoe x l h.2⟩
   rcases List.mem_cons.1 ((znn x l).mem_iff.1 hz) with rfl | hz
   ·omega
   ·exact h.1 z hz
theorem zof : ∀ l, (zzl l).Pairwise (· <= ·)
 | [] => .nil
 | x :: l => zoe x _ (zof l)
theorem zmf : ∀ {a b : List Int}, a.Perm b -> a.Pairwise (· <= ·) -> b.Pairwise (· <= ·) -> a = b
 | [], b, h, _, _ => by rw [List.nil_perm.1 h]
 | x :: a, [], h, _, _ => by cases (List.perm_nil.1 h)
 | x :: a, y :: b, h, ha, hb => by
  rw [List.pairwise_cons] at ha hb
  have hxy : x = y := by
   have h1 : x ∈ y :: b := h.mem_iff.1 (by simp)
   have h2 : y ∈ x :: a := h.mem_iff.2 (by simp)
   rcases List.mem_cons.1 h1 with h1 | h1
   ·exact h1
   ·rcases List.mem_cons.1 h2 with h2 | h2
    ·exact h2.symm
    ·have := ha.1 y h2
     have := hb.1 x h1
     omega
  subst hxy
  rw [zmf h.cons_inv ha.2 hb.2]
theorem zky (l : List Int) : zeb l = zzl l := by
 refine zmf ((List.mergeSort_perm l fun x y => decide (x <= y)).trans (zua l).symm) ?_ (zof l)
 have := List.pairwise_mergeSort (le := fun x y : Int => decide (x <= y)) (fun a b c h1 h2 => by simp at *; omega) (fun a b => by simp; omega) l
 exact this.imp fun h => by simpa using h
def zmg (m : List (Int × List Int)) : List (Int × List Int) := (zzl (m.map (·.1))).map fun f => (f, zzl ((zr f m).getD []))
theorem ybz (m : List (Int × List Int)) : yb m = zmg m := by
 unfold yb zmg
 rw [zky]
 congr 1
 funext f
 rw [zky]
def yor (vs : List Int) : List Int := Go.Lib.compact (zzl vs)
theorem yer (vs : List Int) : zy vs = yor vs := by
 unfold zy yor
 rw [show (vs.mergeSort fun x y => decide (x <= y)) = zzl vs from zky vs]
def yca (c : Codex) (vs : List Int) : Option Sr :=
 match zaf c (yor vs) sr0 with
 | some s => if zfn s.cands <= 4096 then some s else none
 | none => none
theorem zub (c : Codex) (vs : List Int) : xw c vs = yca c vs := by unfold xw yca; rw [yer]; try rfl
def zuc (ch : List (Int × List Int)) (s : Sr) (nf : Nat) : Nat -> Int -> List ByteArray -> Option (Int × List Int)
 | 0, _, _ => none
 | n + 1, day, failed =>
  if zab s.conds (st0 nf day) = 0 then zuc ch s nf n (day + 1) failed
  else if zmw s.atoms (st0 nf day) ∈ failed then zuc ch s nf n (day + 1) failed
  else match wz s.conds ch (st0 nf day) with
   | some vs => some (day, vs)
   | none => zuc ch s nf n (day + 1) (failed ++ [zmw s.atoms (st0 nf day)])
theorem zrp (s : Sr) (nf : Nat) : ∀ (n : Nat) (day : Int) (failed : List ByteArray), zbz s nf n day failed = zuc (zmg s.cands) s nf n day failed
 | 0, _, _ => rfl
 | n + 1, day, failed => by
  rw [zbz, zuc, zrp s nf n, ybz]
  congr 2
  cases wz s.conds (zmg s.cands) (st0 nf day) with
  | some vs => rfl
  | none => simp only; exact zrp s nf n _ _
def zno (c : Codex) (vers : List Int) (s : Sr) : Option View :=
 let fr := xg c vers
 let to := min fr.2 (fr.1 + yv s.dates)
 match zuc (zmg s.cands) s c.facts.length (to - fr.1).toNat fr.1 [] with
 | some (day, vs) => some ⟨day, (List.range c.facts.length).map fun (i : Nat) => (zr (i : Int) s.cands).isSome, vs, vers⟩
 | none => none
theorem zwe (c : Codex) (vers : List Int) (s : Sr) : qw c vers s = zno c vers s := by unfold qw zno; simp only [zrp]; try rfl
def yes (c : Codex) (vs : List Int) : Option View :=
 if zu c && vs.all (fun v => decide (0 <= v) && decide (v < c.arts.length)) then
  match yca c vs with
  | some s => zno c (yor vs) s
  | none => none
 else none
theorem zgz (c : Codex) (vs : List Int) : yy c vs = yes c vs := by
 unfold yy yes
 rw [zub, yer]
 simp only [zwe]
 try rfl
theorem yus : yy xC [0] = some ⟨8772, [true, false, false], [481, 0, 0], [0]⟩ := by rw [zgz]; kernel_rfl
theorem yut : yy xC [1] = none := by rw [zgz]; kernel_rfl
theorem yos : zca xD = some (0, 1, ⟨8766, [false, true, true], [0, 1, 31], [0, 1]⟩) := by
 unfold zca
 simp only [zgz]
 kernel_rfl
theorem yru : zes xC = [1] := by
 unfold zes
 simp only [zgz, zub]
 kernel_rfl
theorem yrv : zlz (ya xR) = [0, 1] := by kernel_rfl
theorem yrw : zlz (ya xC) = [] := by kernel_rfl
def zog (c : Codex) (p : Int × Int) : Option (Int × Int × View) := if zgh c p.1 p.2 then (yy c [p.1, p.2]).map fun v => (p.1, p.2, v) else none
def yot (n i j : Nat) : List (Int × Int) := (List.range' j (n - j)).map fun (j : Nat) => ((i : Int), (j : Int))
def zrq (n i : Nat) : List (Int × Int) := (List.range' i (n - i)).flatMap fun i => yot n i (i + 1)
theorem zmh : ∀ (k s i : Nat), s <= i + 1 -> (List.range' s k).filter (fun j => decide (i < j)) = List.range' (i + 1) (s + k - (i + 1))
 | 0, s, i, h => by
  have : s + 0 - (i + 1) = 0 := by omega
  rw [this]; rfl
 | k + 1, s, i, h => by
  rw [List.range'_succ, List.filter_cons]
  by_cases hs : i < s
  ·rw [if_pos (by simpa using hs)]
   have e : s = i + 1 := by omega
   subst e
   have h2 : ∀ (k s : Nat), i < s -> (List.range' s k).filter (fun j => decide (i < j)) = List.range' s k := fun k s hs => List.filter_eq_self.2 fun j hj => by
    have := (List.mem_range'_1.1 hj).1
    simp; omega
   rw [h2 k _ (by omega), show i + 1 + (k + 1) - (i + 1) = k + 1 by omega, List.range'_succ]
  ·rw [if_neg (by simpa using hs), zmh k (s + 1) i (by omega)]
   congr 1
   omega
theorem yhp (n : Nat) : yao n = zrq n 0 := by
 unfold yao zrq yot
 rw [List.range_eq_range', Nat.sub_zero]
 congr 1
 funext i
 rw [zmh n 0 i (by omega), Nat.zero_add]
theorem yhq {n i : Nat} (h : i < n) : zrq n i = yot n i (i + 1) ++ zrq n (i + 1) := by
 unfold zrq
 rw [show n - i = (n - (i + 1)) + 1 by omega, List.range'_succ, List.flatMap_cons]
theorem ymj (n : Nat) : zrq n n = [] := by unfold zrq; simp
theorem ymk {n i j : Nat} (h : j < n) : yot n i j = ((i : Int), (j : Int)) :: yot n i (j + 1) := by
 unfold yot
 rw [show n - j = (n - (j + 1)) + 1 by omega, List.range'_succ, List.map_cons]
theorem you {n i j : Nat} (h : n <= j) : yot n i j = [] := by
 unfold yot
 rw [show n - j = 0 by omega]; rfl
theorem yhr {c : Codex} (hok : zu c = true) : zca c = (zrq c.arts.length 0).findSome? (zog c) := by
 unfold zca
 rw [if_pos hok, yhp]
 rfl
def yml (o : Option (Int × Int × View)) : SV :=
 match o with
 | some (i, j, v) => .tup [sI i, sI j, .agg [sI v.day, .imm (qj v.has), .imm (zl v.value), .imm (zl v.arts)], sB true]
 | none => .tup [sI 0, sI 0, .agg zai, sB false]
def ypq (o : Option (Int × Int × View)) : SV := .tup [sI ((o.map (·.1)).getD 0), sI ((o.map (·.2.1)).getD 0), View.sv ((o.map (·.2.2)).getD yan), sB o.isSome]
theorem yhs (o : Option (Int × Int × View)) : (yml o).Is (ypq o) := by
 cases o with
 | some v => exact SV.Is.refl _
 | none => exact SIs.tup (.cons (SV.Is.refl _) (.cons (SV.Is.refl _) (.cons (SIs.agg (.cons (SV.Is.refl _) (.cons (SV.Is.nil 1) (.cons (SV.Is.nil 1) (.cons (SV.Is.nil 1) .nil))))) (.cons (SV.Is.refl _) .nil))))
theorem yrx (c : Codex) (hfit : Codex.fit c) (hS : zu c = true -> SearchC c) (hz : c.arts.length <= 1000000) :
  zw Tryz.prog G0 13 [c.sv] (yml (zca c)) := by
 have hal : (c.arts.map Article.cells).length = c.arts.length := by simp
 have hV := js G0 c hfit
 refine zc Tryz.func13 rfl (by rw [Tryz.ntmps13]; simp) rfl (by cases zca c <;> rfl) ?_
 intro E hH hK
 have hdo := @yhr c
 have hwi := @znk c
 have hno : zu c = false -> zca c = none := fun h => by unfold zca; rw [if_neg (by simp [h])]
 generalize hz2 : zu c = z at hV hS hdo hwi hno
 rw [show c.sv = .agg [.imm (zk c.facts), .imm (zk c.lines), .imm (ys c.arts)] from rfl]
 (refine zh ?_; conv => whnf)
 refine ze rfl  hV ?_
 cases z <;> ((refine za ?_; conv => whnf))
 ·rw [hno rfl] at hK
  exact hK _
 have hS := hS rfl
 have hdo := hdo rfl
 refine zg [1, 2, 3, 4, 5, 17, 18, 19] ?_
 change SW E _ [(1, .ptr 0 0), (2, sI 0), (3, sI 0), (4, .ptr 1 0), (5, sB false), (17, .imm (ys c.arts)), (18, sI (c.arts.map Article.cells).length), (19, sI 0)] [ybs c, .cells zai]
 refine zp c.arts (fun i (_ : Unit) => [(1, .ptr 0 0), (2, sI 0), (3, sI 0), (4, .ptr 1 0), (5, sB false), (17, .imm (ys c.arts)), (18, sI (c.arts.map Article.cells).length), (19, sI i)]) (fun _ _ => [ybs c, .cells zai])
  (fun done _ _ => zca c = (zrq c.arts.length done.length).findSome? (zog c)) () hdo ?_ ?_
 ·rintro _ h1
  rw [ymj] at h1
  rw [h1] at hK
  (refine zh ?_; conv => whnf)
  repeat' ((with_reducible refine way ?_ ?_) <;> (intro h; conv => whnf))
  all_goals try (exfalso; omega)
  exact hK _
 ·rintro done x rest _ hda hdl h1 ih
  have hw := zm (n := done.length) (by omega)
  rw [yhq (by omega), List.findSome?_append] at h1
  have hnext : zca c = (zrq c.arts.length (done.length + 1)).findSome? (zog c) -> SW E _ _ _ := fun h => ih () (by rw [List.length_append]; exact h)
  (refine zh ?_; conv => whnf)
  repeat' ((with_reducible refine way ?_ ?_) <;> (intro h; conv => whnf))
  all_goals try (exfalso; omega)
  rw [hw]
  refine zg [1, 2, 3, 4, 5, 6, 7, 17, 18, 19] ?_
  refine xy (σ := Nat) (fun j => [(1, .ptr 0 0), (2, sI 0), (3, sI 0), (4, .ptr 1 0), (5, sB false), (6, sI done.length), (7, sI j), (17, .imm (ys c.arts)), (18, sI (c.arts.map Article.cells).length), (19, sI done.length)]) (fun _ => [ybs c, .cells zai])
   (fun j => done.length + 1 <= j /\ j <= c.arts.length /\ zca c = ((yot c.arts.length done.length j).findSome? (zog c)).or ((zrq c.arts.length (done.length + 1)).findSome? (zog c))) (fun j => c.arts.length - j) ?_ (done.length + 1) ⟨Nat.le_refl _, by omega, h1⟩
  rintro j ⟨j1, j2, j3⟩ ih2
  have hwj := zm (n := j) (by omega)
  by_cases hj : j < c.arts.length
  ·rw [ymk hj, List.findSome?_cons] at j3
   have hi : ∀ v ∈ [(done.length : Int), (j : Int)], 0 <= v /\ v < c.arts.length := fun v hv => by
    rcases List.mem_cons.1 hv with rfl | hv
    ·omega
    ·simp at hv; subst hv; omega
   have hcon := zqw G0 c hS.need (done.length : Int) (j : Int) (by omega) (by omega) (by omega) (by omega)
   have hN := zid c hS [(done.length : Int), (j : Int)] hi (by simp) [ybs c, .cells zai]
   have hwi2 := hwi rfl hi
   have hgo : zog c ((done.length : Int), (j : Int)) = none -> SW E _ _ _ := fun h => by
    rw [h] at j3
    exact ih2 (j + 1) ⟨by omega, by omega, j3⟩ (by omega)
   have hst : ∀ v, zog c ((done.length : Int), (j : Int)) = some v -> zca c = some v := fun v h => by
    rw [h] at j3
    exact j3
   have hcf : zog c ((done.length : Int), (j : Int)) = if zgh c done.length j then (yy c [(done.length : Int), (j : Int)]).map fun v => ((done.length : Int), (j : Int), v) else none := rfl
   generalize zgh c (done.length : Int) (j : Int) = b at hcon hcf
   (refine zh ?_; conv => whnf)
   repeat' ((with_reducible refine way ?_ ?_) <;> (intro h; conv => whnf))
   all_goals try (exfalso; omega)
   refine ze rfl  hcon ?_
   cases b <;> ((refine za ?_; conv => whnf))
   ·rw [hwj]
    refine zg [1, 2, 3, 4, 5, 6, 7, 17, 18, 19] ?_
    exact hgo hcf
   refine wh (argv := [c.sv, .imm (zl [(done.length : Int), (j : Int)])]) rfl rfl rfl rfl rfl rfl (hN.mono ?_)
   intro r H' hK1
   cases hq : xw c [(done.length : Int), (j : Int)] with
   | none =>
    rw [hq] at hK1 hwi2
    simp only at hwi2
    rw [hwi2] at hcf
    obtain ⟨p, H1, hp, rfl, rfl⟩ := hK1
    refine ⟨Nat.le_add_left 2 _, ?_⟩
    refine Eq.mpr (congrArg (fun h => SWr E _ _ _ _ h) (show _ = ybs c :: .cells zai :: H1 from rfl)) ?_
    rcases hp with rfl | rfl <;> ((refine za ?_; conv => whnf)) <;> rw [hwj]
    all_goals exact yq [1, 2, 3, 4, 5, 6, 7, 17, 18, 19] 2 (by rw [hH]; exact Nat.zero_le 2) (Nat.succ_le_succ (Nat.succ_le_succ (Nat.zero_le _))) rfl rfl (hgo hcf)
   | some q =>
    have hWt := znf c hS [(done.length : Int), (j : Int)] hi (by simp) q hq [ybs c, .cells zai]
    rw [hq] at hK1 hwi2
    simp only at hwi2
    obtain ⟨rfl, rfl⟩ := hK1
    refine ⟨by rw [List.length_append]; exact Nat.le_add_right _ _, ?_⟩
    (refine za ?_; conv => whnf)
    refine wh rfl rfl rfl rfl rfl rfl (hWt.mono ?_)
    rintro r H' ⟨rfl, ⟨H1, rfl⟩, hl⟩
    refine ⟨hl, ?_⟩
    rw [<- hwi2]
    refine jd (t' := [(1, .ptr 0 0), (2, sI 0), (3, sI 0), (4, .ptr 1 0), (5, sB false), (6, sI done.length), (7, sI j), (17, .imm (ys c.arts)), (18, sI (c.arts.map Article.cells).length), (19, sI done.length), (48, zlx (yy c [(done.length : Int), (j : Int)]))]) (H' := [ybs c, .cells zai])
     (fun k h => zg [1, 2, 3, 4, 5, 6, 7, 17, 18, 19, 48] (yct 2 (by rw [hH]; exact Nat.zero_le 2) (Nat.succ_le_succ (Nat.succ_le_succ (Nat.zero_le _))) (by cases yy c [(done.length : Int), (j : Int)] <;> rfl) rfl h)) ?_
    generalize yy c [(done.length : Int), (j : Int)] = o at hcf ⊢
    cases o with
    | none =>
     (refine za ?_; conv => whnf)
     rw [hwj]
     exact yq [1, 2, 3, 4, 5, 6, 7, 17, 18, 19] 2 (by rw [hH]; exact Nat.zero_le 2) (Nat.succ_le_succ (Nat.succ_le_succ (Nat.zero_le _))) rfl rfl (hgo hcf)
    | some v =>
     rw [hst _ hcf] at hK
     (refine za ?_; conv => whnf)
     refine zg [1, 2, 3, 4, 5, 6, 7, 10] ?_
     change SW E _ [(1, .ptr 0 0), (2, sI 0), (3, sI 0), (4, .ptr 1 0), (5, sB false), (6, sI done.length), (7, sI j), (10, .ptr 2 0)] [ybs c, .cells zai, .cells [sI v.day, .imm (qj v.has), .imm (zl v.value), .imm (zl v.arts)]]
     (refine zx 0 mixed rfl ?_; refine zb [777] (nx := 3) ?_; conv => whnf)
     (refine zh ?_; conv => whnf)
     exact hK _
  ·rw [you (by omega), List.findSome?_nil, Option.none_or] at j3
   have ej : j = c.arts.length := by omega
   (refine zh ?_; conv => whnf)
   repeat' ((with_reducible refine way ?_ ?_) <;> (intro h; conv => whnf))
   all_goals try (exfalso; omega)
   rw [hw]
   refine zg [1, 2, 3, 4, 5, 17, 18, 19] ?_
   exact hnext j3
theorem ycb (c : Codex) (hfit : Codex.fit c) (hS : zu c = true -> SearchC c) (hz : c.arts.length <= 1000000) :
  zw Tryz.prog G0 13 [c.sv] (ypq (zca c)) := zch (yrx c hfit hS hz) (yhs _)
theorem ytl (w : List (List Ex)) (h : ∀ es ∈ w, es.length <= 41) : Codex.fit (yho w) /\ ∀ a ∈ (yho w).arts, a.when_.length <= 41 /\ a.unless_.length <= 80 := by
 have hm : ∀ a ∈ (yho w).arts, a.when_.length <= 41 /\ a.unless_.length <= 80 := fun a ha => by
  obtain ⟨i, hi, rfl⟩ := List.mem_mapIdx.1 ha
  exact ⟨h _ (List.getElem_mem hi), Nat.zero_le _⟩
 exact ⟨fun a ha => by have := hm a ha; omega, hm⟩
theorem zil : Codex.fit xC /\ SearchC xC /\ xC.arts.length <= 1000000 := by
 obtain ⟨h1, h2⟩ := ytl [[zwd, zgy], [eT 6 zjz zka], [eF 1 tT], [yif]] (by simp)
 exact ⟨h1, znh ytj (by decide) h2, by decide⟩
theorem ymm : Codex.fit xD /\ SearchC xD /\ xD.arts.length <= 1000000 := by
 obtain ⟨h1, h2⟩ := ytl [[eF 1 tT], [yif]] (by simp)
 exact ⟨h1, znh yur (by decide) h2, by decide⟩
theorem yet : Codex.fit xR /\ NeedC xR /\ xR.arts.length <= 60 := by
 have h : ∀ a ∈ xR.arts, a.when_.length <= 1000000 /\ a.unless_.length <= 1000000 := by simp [xR]
 exact ⟨fun a ha => by have := h a ha; omega, yeg ytk h, by decide⟩
abbrev bx (x : Ex) : SObj := .cells (x.cells.map SV.imm)
abbrev bv (v : View) : SObj := .cells [sI v.day, .imm (qj v.has), .imm (zl v.value), .imm (zl v.arts)]
def yig (i : Nat) (n : Int) : List D := [dI ((i : Int) + 1), dI 0, dI 1, dI 8766, dI 36525, dI 8766, zan, zan, dI 3, dI n, dS znl, dI 0, zan, zan]
abbrev yuu (x y z : SObj) (cs : List SV) : List SObj := [bx zwd, bx zgy, bx zjz, bx zka, bx yif, zdn xC, bv ⟨8772, [true, false, false], [481, 0, 0], [0]⟩, bv yan, bv ⟨8766, [false, true, true], [0, 1, 31], [0, 1]⟩, x, y, z, .cells cs]
theorem yuv : (SV.agg [.imm (zk zbq), .imm (zk zbr), .imm (.isl 14 [yig 0 2, yig 1 1])]).Is xR.sv := by
 refine SIs.agg (.cons (SV.Is.refl _) (.cons (SV.Is.refl _) (.cons (D.Is.imm (DIss.isl (k := 14) (.cons ?_ (.cons ?_ .nil)))) .nil)))
 all_goals exact .cons (D.Is.refl _) (.cons (D.Is.refl _) (.cons (D.Is.refl _) (.cons (D.Is.refl _) (.cons (D.Is.refl _) (.cons (D.Is.refl _) (.cons (D.Is.nil 6) (.cons (D.Is.nil 1) (.cons (D.Is.refl _) (.cons (D.Is.refl _) (.cons (D.Is.refl _) (.cons (D.Is.refl _) (.cons (D.Is.nil 3) (.cons (D.Is.nil 6) .nil)))))))))))))
theorem ypr : zw Tryz.prog G0 9 [] (sB true) := by
  have k480 := znm G0 480 tM
  have f0 := ymh G0 0 tM
  have tLong := yhn G0 9 (eK 480 tM) (eF 0 tM)
  have k7 := znm G0 7 tN
  have tSun := yhn G0 8 (.mk 4 1 tN 0 [] []) (eK 7 tN)
  have f2 := ymh G0 2 tN
  have k18 := znm G0 18 tN
  have tYoung := yhn G0 9 (eF 2 tN) (eK 18 tN)
  have tAdult := yhn G0 10 (eK 18 tN) (eF 2 tN)
  have k30 := znm G0 30 tN
  have tOld := yhn G0 9 (eK 30 tN) (eF 2 tN)
  have tAnd := yhn G0 6 zjz zka
  have f1 := ymh G0 1 tT
  have eC := zzj G0 [[zwd, zgy], [eT 6 zjz zka], [eF 1 tT], [yif]] (by decide)
  have eD := zzj G0 [[eF 1 tT], [yif]] (by decide)
  have w0 := zgr xC zil.1 (fun _ => zil.2.1) zil.2.2 [0] (by decide)
  have w1 := zgr xC zil.1 (fun _ => zil.2.1) zil.2.2 [1] (by decide)
  rw [yus] at w0
  rw [yut] at w1
  have cl := ycb xD ymm.1 (fun _ => ymm.2.1) ymm.2.2
  rw [yos] at cl
  have s1 := zii G0 ⟨8772, [true, false, false], [481, 0, 0], [0]⟩ ⟨8772, [true, false, false], [481, 0, 0], [0]⟩ ⟨by decide, by decide, by decide⟩ ⟨by decide, by decide, by decide⟩ (by decide) (by decide)
  rw [show View.same' ⟨8772, [true, false, false], [481, 0, 0], [0]⟩ ⟨8772, [true, false, false], [481, 0, 0], [0]⟩ = true by decide] at s1
  have s2 := zii G0 ⟨8766, [false, true, true], [0, 1, 31], [0, 1]⟩ ⟨8766, [false, true, true], [0, 1, 31], [0, 1]⟩ ⟨by decide, by decide, by decide⟩ ⟨by decide, by decide, by decide⟩ (by decide) (by decide)
  rw [show View.same' ⟨8766, [false, true, true], [0, 1, 31], [0, 1]⟩ ⟨8766, [false, true, true], [0, 1, 31], [0, 1]⟩ = true by decide] at s2
  have dd := ztz xC zil.1 (fun _ => zil.2.1) zil.2.2
  rw [yru] at dd
  have s3 := zgt G0 [1] [1] (by decide) (by decide)
  rw [show decide (([1] : List Int) = [1]) = true by decide] at s3
  have rr := ztm G0 xR yet.1 (fun _ => yet.2.1) (fun _ => yet.2.2) (fun _ => ylw yet.2.2) (fun j => Nat.le_trans (zra _ _) (by decide)) (by decide)
  rw [if_pos ytk, yrv] at rr
  have s4 := zgt G0 [0, 1] [0, 1] (by decide) (by decide)
  rw [show decide (([0, 1] : List Int) = [0, 1]) = true by decide] at s4
  have rc := ztm G0 xC zil.1 (fun _ => zil.2.1.need) (fun _ => by decide) (fun _ => ylw (by decide)) (fun j => Nat.le_trans (zra _ _) (by decide)) (by decide)
  rw [if_pos ytj, yrw] at rc
  refine zc Tryz.func9 rfl (by rw [Tryz.ntmps9]; simp) rfl rfl ?_; intro E hH hK
  (refine zh ?_; conv => whnf)
  refine ze rfl  k480 ?_
  (refine za ?_; conv => whnf)
  refine ze rfl  f0 ?_
  (refine za ?_; conv => whnf)
  refine ze rfl  tLong ?_
  (refine za ?_; conv => whnf)
  refine jd (fun k h => yqd 20 rfl (zro 4 1 tN) h) ?_
  (refine za ?_; conv => whnf)
  refine ze rfl  k7 ?_
  (refine za ?_; conv => whnf)
  refine ze rfl  tSun ?_
  (refine za ?_; conv => whnf)
  refine ze rfl  f2 ?_
  (refine za ?_; conv => whnf)
  refine ze rfl  k18 ?_
  (refine za ?_; conv => whnf)
  refine ze rfl  tYoung ?_
  (refine za ?_; conv => whnf)
  refine ze rfl  k18 ?_
  (refine za ?_; conv => whnf)
  refine ze rfl  f2 ?_
  (refine za ?_; conv => whnf)
  refine ze rfl  tAdult ?_
  (refine za ?_; conv => whnf)
  refine ze rfl  k30 ?_
  (refine za ?_; conv => whnf)
  refine ze rfl  f2 ?_
  (refine za ?_; conv => whnf)
  refine ze rfl  tOld ?_
  (refine za ?_; conv => whnf)
  refine zg [1, 2, 3, 4, 5] ?_
  change SW E _ [(1, .ptr 0 0), (2, .ptr 1 0), (3, .ptr 2 0), (4, .ptr 3 0), (5, .ptr 4 0)] [bx zwd, bx zgy, bx zjz, bx zka, bx yif]
  (refine zx 1 mixed rfl ?_; refine zb [777] (nx := 5) ?_; conv => whnf)
  refine yr rfl (show 5 <= 6 by decide) tAnd ?_
  (refine zb [777] (nx := 5) ?_; conv => whnf)
  refine yr rfl (show 5 <= 6 by decide) f1 ?_
  (refine zb [777] (nx := 5) ?_; conv => whnf)
  refine yr rfl (show 5 <= 6 by decide) eC ?_
  (refine zb [777] (nx := 5) ?_; conv => whnf)
  refine zg [5, 6] ?_
  change SW E _ [(5, .ptr 4 0), (6, .ptr 5 0)] [bx zwd, bx zgy, bx zjz, bx zka, bx yif, zdn xC]
  (refine zh ?_; conv => whnf)
  refine ze rfl  w0 ?_
  (refine za ?_; conv => whnf)
  refine ze rfl  w1 ?_
  (refine za ?_; conv => whnf)
  refine zg [5, 6, 7, 8, 10] ?_
  change SW E _ [(5, .ptr 4 0), (6, .ptr 5 0), (7, .ptr 6 0), (8, sB true), (10, sB false)] [bx zwd, bx zgy, bx zjz, bx zka, bx yif, zdn xC, bv ⟨8772, [true, false, false], [481, 0, 0], [0]⟩, bv yan]
  (refine zx 1 mixed rfl ?_; refine zb [777] (nx := 8) ?_; conv => whnf)
  refine yr rfl (show 8 <= 9 by decide) f1 ?_
  (refine zb [777] (nx := 8) ?_; conv => whnf)
  refine yr rfl (show 8 <= 9 by decide) eD ?_
  (refine zb [777] (nx := 8) ?_; conv => whnf)
  refine yr rfl (show 8 <= 9 by decide) cl ?_
  (refine zb [777] (nx := 8) ?_; conv => whnf)
  refine zg [6, 7, 8, 10, 11, 12, 13, 14] ?_
  change SW E _ [(6, .ptr 5 0), (7, .ptr 6 0), (8, sB true), (10, sB false), (11, sI 0), (12, sI 1), (13, .ptr 8 0), (14, sB true)] [bx zwd, bx zgy, bx zjz, bx zka, bx yif, zdn xC, bv ⟨8772, [true, false, false], [481, 0, 0], [0]⟩, bv yan, bv ⟨8766, [false, true, true], [0, 1, 31], [0, 1]⟩]
  have hV := zkm (ymi G0 [zan, zan] (by decide) (by simp)) [bx zwd, bx zgy, bx zjz, bx zka, bx yif, zdn xC, bv ⟨8772, [true, false, false], [481, 0, 0], [0]⟩, bv yan, bv ⟨8766, [false, true, true], [0, 1, 31], [0, 1]⟩]
  (refine zh ?_; conv => whnf)
  refine wh (argv := [.imm (.isl 1 [[zan], [zan]])]) rfl rfl rfl rfl rfl rfl (hV.mono ?_)
  rintro r H' ⟨r1, H1, ⟨rfl, x, y, rfl⟩, rfl, rfl⟩
  refine ⟨by rw [List.length_append]; exact Nat.le_add_right _ _, ?_⟩
  (refine za ?_; conv => whnf)
  refine jd (t' := [(6, .ptr 5 0), (7, .ptr 6 0), (8, sB true), (10, sB false), (11, sI 0), (12, sI 1), (13, .ptr 8 0), (14, sB true), (15, .ptr 12 0), (72, .vec 11 2), (73, yhm 3 2 znl zan)]) (H' := yuu (x.sh 9) (y.sh 9) (.vec 14 (zgx 0 zan ++ zgx 1 zan)) [.imm (zk zbq), .imm (zk zbr), .vec 11 2]) (fun k h => zg [6, 7, 8, 10, 11, 12, 13, 14, 15, 72, 73] h) ?_
  generalize x.sh 9 = x'
  generalize y.sh 9 = y'
  refine ydf (i := 0) (kk := 14) (n := 2) (b := 11) (cs := zgx 0 zan ++ zgx 1 zan) rfl rfl rfl rfl rfl rfl (by rfl) rfl rfl (by decide) rfl (by decide) ?_
  refine zst (b := 11) (n := 2) (kk := 14) (cs := zgx 0 zan ++ zgx 1 zan) rfl rfl rfl rfl rfl rfl (sz := 5) (by rfl) rfl rfl (by decide) (by decide) ?_
  refine zrd (b := 11) (n := 2) (off := 8) (ns := 6) (vcs := [sI 3, sI 2, sS znl, sI 0, .imm zan, .imm zan]) (kk := 14) (cs := zgx 0 zan ++ zgx 1 zan) rfl rfl rfl rfl rfl rfl (by rfl) rfl rfl rfl (by decide) (by decide) (by decide) ?_
  refine jd (t' := [(6, .ptr 5 0), (7, .ptr 6 0), (8, sB true), (10, sB false), (11, sI 0), (12, sI 1), (13, .ptr 8 0), (14, sB true), (15, .ptr 12 0)]) (H' := yuu x' y' (.vec 14 ((yig 0 2).map SV.imm ++ zgx 1 zan)) [.imm (zk zbq), .imm (zk zbr), .vec 11 2]) (fun k h => zg [6, 7, 8, 10, 11, 12, 13, 14, 15] h) ?_
  (refine za ?_; conv => whnf)
  refine ydf (i := 1) (kk := 14) (n := 2) (b := 11) (cs := (yig 0 2).map SV.imm ++ zgx 1 zan) rfl rfl rfl rfl rfl rfl (by rfl) rfl rfl (by decide) rfl (by decide) ?_
  refine zst (b := 11) (n := 2) (kk := 14) (cs := (yig 0 2).map SV.imm ++ zgx 1 zan) rfl rfl rfl rfl rfl rfl (sz := 5) (by rfl) rfl rfl (by decide) (by decide) ?_
  refine zrd (b := 11) (n := 2) (off := 22) (ns := 6) (vcs := [sI 3, sI 1, sS znl, sI 0, .imm zan, .imm zan]) (kk := 14) (cs := (yig 0 2).map SV.imm ++ zgx 1 zan) rfl rfl rfl rfl rfl rfl (by rfl) rfl rfl rfl (by decide) (by decide) (by decide) ?_
  refine jd (t' := [(6, .ptr 5 0), (7, .ptr 6 0), (8, sB true), (10, sB false), (11, sI 0), (12, sI 1), (13, .ptr 8 0), (14, sB true), (15, .ptr 12 0)]) (H' := yuu x' y' .dead [.imm (zk zbq), .imm (zk zbr), .imm (.isl 14 [yig 0 2, yig 1 1])]) (fun k h => zg [6, 7, 8, 10, 11, 12, 13, 14, 15]
    (zyz 12 2 11 2 14 (cs0 := [.imm (zk zbq), .imm (zk zbr), .vec 11 2]) (cs := (yig 0 2 ++ yig 1 1).map SV.imm) (ds := yig 0 2 ++ yig 1 1) rfl rfl rfl rfl rfl rfl (by decide) h)) ?_
  (refine za ?_; conv => whnf)
  refine ze rfl  s1 ?_
  (refine za ?_; conv => whnf)
  refine ze rfl  s2 ?_
  (refine za ?_; conv => whnf)
  refine ze rfl  dd ?_
  (refine za ?_; conv => whnf)
  refine ze rfl  s3 ?_
  (refine za ?_; conv => whnf)
  refine jd (fun k h => yqd 122 rfl yuv h) ?_
  refine ze rfl  rr ?_
  (refine za ?_; conv => whnf)
  refine ze rfl  s4 ?_
  (refine za ?_; conv => whnf)
  refine ze rfl  rc ?_
  (refine za ?_; conv => whnf)
  exact hK _
def ji (n : Int) : List Article -> Nat -> Int
 | [], _ => -1
 | d :: r, i => if d.number = n then i else ji n r (i + 1)
theorem zha (c : Codex) (n : Int) (hsz : c.arts.length <= 9223372036854775807) : zw Tryz.prog G 52 [c.sv, sI n] (sI (ji n c.arts 0)) := by
 refine zc Tryz.func52 rfl (by rw [Tryz.ntmps52]; simp) rfl rfl ?_; intro E hH hK
 have hlen : (c.arts.map Article.cells).length = c.arts.length := by simp
 (refine zi ?_; conv => whnf)
 refine zg [1, 2, 5] ?_
 refine zp c.arts (fun i (_ : Unit) => [(1, sI n), (2, .ptr 0 0), (5, sI i)]) (fun _ _ => [.cells [.imm (zk c.facts), .imm (zk c.lines), .imm (ys c.arts)]])
  (fun done rest _ => ji n c.arts 0 = ji n rest done.length) () rfl ?_ ?_
 ·rintro _ h1
  (refine zi ?_; conv => whnf)
  repeat' ((with_reducible refine way ?_ ?_) <;> (intro h; conv => whnf))
  all_goals try (exfalso; omega)
  exact kI hK (by rw [h1]; rfl)
 ·rintro done d rest _ ha hl h1 ih
  have hw := zm (n := done.length) (by omega)
  simp only [ji] at h1
  (refine zi ?_; conv => whnf)
  repeat' ((with_reducible refine way ?_ ?_) <;> (intro h; conv => whnf))
  all_goals try (exfalso; omega)
  refine zf rfl rfl  (row := d.cells) (by simp [ha]) ?_
  (refine zj ?_; conv => whnf)
  repeat' ((with_reducible refine way ?_ ?_) <;> (intro h; conv => whnf))
  ·exact kI hK (by rw [h1, if_pos h])
  ·rw [hw]; exact yq [1, 2, 5] 1 (by simp [hH]) (by simp) rfl rfl (ih () (by rw [h1, if_neg h]; simp))
theorem zkz (n : Int) : ∀ (l : List Article) (i : Nat), ji n l i = -1 \/ ((i : Int) <= ji n l i /\ ji n l i < i + l.length /\ ∃ a, l[(ji n l i).toNat - i]? = some a /\ a.number = n)
 | [], i => .inl rfl
 | a :: r, i => by
  simp only [ji]
  split
  ·rename_i h
   right
   refine ⟨by omega, by simp; omega, a, by simp, h⟩
  ·rcases zkz n r (i + 1) with h | ⟨h1, h2, x, h3, h4⟩
   ·exact .inl h
   ·right
    refine ⟨by omega, by simp; omega, x, ?_, h4⟩
    rw [show (ji n r (i + 1)).toNat - i = ((ji n r (i + 1)).toNat - (i + 1)) + 1 by omega]
    simpa using h3
theorem znp (n : Int) : ∀ (l : List Article) (i : Nat), ji n l i = -1 ↔ ∀ a ∈ l, a.number ≠ n
 | [], i => by simp [ji]
 | a :: r, i => by
  simp only [ji]
  split
  ·rename_i h
   constructor
   ·intro h'; omega
   ·intro h'; exact absurd h (h' a (by simp))
  ·rename_i h
   rw [znp n r (i + 1)]
   simp [h]
def zim (L : Int) (a : Article) : Bool := decide (a.when_.length <= 40) && decide (a.unless_.length <= 80) && decide ((xe a.amount : Int) <= L) && a.when_.all (fun e => decide ((xe e : Int) <= L))
def zsi (c : Codex) (L : Int) : Bool := decide (c.facts.length <= 40) && decide (c.lines.length <= 40) && decide (c.arts.length <= 70) && c.arts.all (zim L)
theorem yov (c : Codex) (L : Int) (h0 : 0 <= L) (h1 : L <= 999999) : zw Tryz.prog G 39 [c.sv, sI L] (sB (zsi c L)) := by
 refine zc Tryz.func39 rfl (by rw [Tryz.ntmps39]; simp) rfl rfl ?_; intro E hH hK
 have hlf : (c.facts.map Decl.cells).length = c.facts.length := by simp
 have hll : (c.lines.map Decl.cells).length = c.lines.length := by simp
 have hla : (c.arts.map Article.cells).length = c.arts.length := by simp
 (refine zi ?_; conv => whnf)
 repeat' ((with_reducible refine way ?_ ?_) <;> (intro h; conv => whnf))
 all_goals try exact kB hK (by simp [zsi]; intros; omega)
 have hsz : c.facts.length <= 40 /\ c.lines.length <= 40 /\ c.arts.length <= 70 := by omega
 have hok : zsi c L = c.arts.all (zim L) := by simp [zsi, hsz]
 refine zg [1, 2, 5] ?_
 refine zp c.arts (fun i (_ : Unit) => [(1, sI L), (2, .ptr 0 0), (5, sI i)]) (fun _ _ => [.cells [.imm (zk c.facts), .imm (zk c.lines), .imm (ys c.arts)]])
  (fun done rest _ => c.arts.all (zim L) = rest.all (zim L)) () rfl ?_ ?_
 ·rintro _ h1
  (refine zi ?_; conv => whnf)
  repeat' ((with_reducible refine way ?_ ?_) <;> (intro h; conv => whnf))
  all_goals try (exfalso; omega)
  exact kB hK (by rw [hok, h1]; rfl)
 ·rintro done a rest _ ha hl hinv ih
  have hw := zm (n := done.length) (by omega)
  simp only [List.all_cons] at hinv
  obtain ⟨op, n, u, den, ps, ks, ham⟩ : ∃ op n u den ps ks, a.amount = .mk op n u den ps ks := by cases h : a.amount; exact ⟨_, _, _, _, _, _, rfl⟩
  have hrow : (c.arts.map Article.cells)[((done.length : Nat) : Int).toNat]? = some [dI a.number, dI a.line, dI a.rank, dI a.lo, dI a.hi, dI a.known, yl a.when_, zl a.unless_, dI op, dI n, dS u, dI den, .isl 3 (ps.map Piece.cells), .isl 6 (zd ks)] := by
   simp [ha, Article.cells, ham, zq, Ex.op, Ex.n, Ex.unit, Ex.den, Ex.pieces, Ex.kids]
  have hwl : (a.when_.map Ex.cells).length = a.when_.length := by simp
  have hul : (a.unless_.map fun n => [dI n]).length = a.unless_.length := by simp
  have bad : zim L a = false -> zsi c L = false := fun h => by rw [hok, hinv, h]; rfl
  (refine zi ?_; conv => whnf)
  repeat' ((with_reducible refine way ?_ ?_) <;> (intro h; conv => whnf))
  all_goals try (exfalso; omega)
  refine zf rfl rfl  (row := [dI a.number, dI a.line, dI a.rank, dI a.lo, dI a.hi, dI a.known, yl a.when_, zl a.unless_, dI op, dI n, dS u, dI den, .isl 3 (ps.map Piece.cells), .isl 6 (zd ks)]) hrow ?_
  (refine zj ?_; conv => whnf)
  repeat' ((with_reducible refine way ?_ ?_) <;> (intro h; conv => whnf))
  all_goals try exact kB hK (bad (by simp [zim]; intros; omega))
  refine ze rfl  (zmu G (.mk op n u den ps ks) L h0 h1) ?_
  (refine zj ?_; conv => whnf)
  repeat' ((with_reducible refine way ?_ ?_) <;> (intro h; conv => whnf))
  ·exact kB hK (bad (by simp [zim, ham]; intros; omega))
  have hgood : zim L a = a.when_.all (fun e => decide ((xe e : Int) <= L)) := by
   simp only [zim, ham]
   rw [decide_eq_true (by omega), decide_eq_true (by omega), decide_eq_true h]; rfl
  refine zg [1, 2, 5, 6, 7] ?_
  refine zp a.when_ (fun i (_ : Unit) => [(1, sI L), (2, .ptr 0 0), (5, sI done.length), (6, .ptr 1 0), (7, sI i)])
   (fun _ _ => [.cells [.imm (zk c.facts), .imm (zk c.lines), .imm (ys c.arts)], .cells (zkl a op n u den ps ks)])
   (fun done rest _ => a.when_.all (fun e => decide ((xe e : Int) <= L)) = rest.all (fun e => decide ((xe e : Int) <= L))) () rfl ?_ ?_
  ·rintro _ h2
   (refine zi ?_; conv => whnf)
   repeat' ((with_reducible refine way ?_ ?_) <;> (intro h; conv => whnf))
   all_goals try (exfalso; omega)
   rw [hw]
   exact yq [1, 2, 5] 1 (by simp [hH]) (by simp) rfl rfl (ih () (by rw [hinv, hgood, h2]; rfl))
  ·rintro d2 e r2 _ ha2 hl2 h2 ih2
   have hw2 := zm (n := d2.length) (by omega)
   simp only [List.all_cons] at h2
   obtain ⟨o1, n1, u1, d1, p1, q1⟩ := e
   (refine zi ?_; conv => whnf)
   repeat' ((with_reducible refine way ?_ ?_) <;> (intro h; conv => whnf))
   all_goals try (exfalso; omega)
   refine zf rfl rfl  (row := (Ex.mk o1 n1 u1 d1 p1 q1).cells) (by simp [ha2]) ?_
   (refine zj ?_; conv => whnf)
   refine ze rfl  (zmu G (.mk o1 n1 u1 d1 p1 q1) L h0 h1) ?_
   (refine zj ?_; conv => whnf)
   repeat' ((with_reducible refine way ?_ ?_) <;> (intro h; conv => whnf))
   ·exact kB hK (bad (by rw [hgood, h2, decide_eq_false h]; rfl))
   ·rw [hw2]
    exact yq [1, 2, 5, 6, 7] 2 (by simp [hH]) (by simp) rfl rfl (ih2 () (by rw [h2, decide_eq_true h]; rfl))
section
variable {P : Program} {G : List (Nat × D)} {fn : Func} {rd : Bool} {E : En P G fn rd} {t : List (Nat × SV)} {H : List SObj} {k : List Item} {all : Array Oper} {rest : List Oper} {o : Oper}
theorem ymn {ty ty' : Nat} {x y : Operand} {a b : Int} (hop : o.op = .binOp .rem ty x y ty') (hw : yf all t o.guard = some true) (hd : yi fn.ntmps o.dst = true) (hx : zo G t x = sI a) (hy : zo G t y = sI b) (hb : b ≠ 0)
  (h : SWr E all rest k (wq t o.dst (sI (a.tmod b))) H) : SWr E all (o :: rest) k t H := by
 refine zbc (r := sI (a.tmod b)) (H' := H) hw hd ?_ (Nat.le_refl _) h
 have hs : ymw P .rem ty (.int .i64 a) (.int .i64 b) = some (.int .i64 (a.tmod b)) := by
  show (if b = 0 then none else some (Value.int .i64 (a.tmod b))) = _
  rw [if_neg hb]
 rw [hop]
 simp only [sop, hx, hy, hs, Option.map_some]
end
def ytm (c : Codex) : Bool := zsi c 400 && decide (c.arts.length <= 12) && decide (c.facts.length <= 12)
theorem yht (c : Codex) : zw Tryz.prog G0 10 [c.sv] (sB (ytm c)) := by
 have hal : (c.arts.map Article.cells).length = c.arts.length := by simp
 have hfl : (c.facts.map Decl.cells).length = c.facts.length := by simp
 have hfw := yov G0 c 400 (by decide) (by decide)
 have hu : ytm c = (zsi c 400 && decide (c.arts.length <= 12) && decide (c.facts.length <= 12)) := rfl
 rw [hu]
 generalize zsi c 400 = b at hfw
 refine zc Tryz.func10 rfl (by rw [Tryz.ntmps10]; simp) rfl rfl ?_; intro E hH hK
 rw [show c.sv = .agg [.imm (zk c.facts), .imm (zk c.lines), .imm (ys c.arts)] from rfl]
 (refine zh ?_; conv => whnf)
 refine ze rfl  hfw ?_
 cases b <;> ((refine za ?_; conv => whnf))
 ·exact hK _
 ·repeat' ((with_reducible refine way ?_ ?_) <;> (intro h; conv => whnf))
  ·have h1 : c.arts.length <= 12 := by omega
   rw [decide_eq_true h1, Bool.true_and, Bool.true_and] at hK
   have : decide (((c.facts.map Decl.cells).length : Int) <= 12) = decide (c.facts.length <= 12) := by rw [hfl]; exact decide_eq_decide.2 (by omega)
   rw [<- this] at hK
   exact hK _
  ·have h1 : ¬ c.arts.length <= 12 := by omega
   rw [decide_eq_false h1, Bool.and_false, Bool.false_and] at hK
   exact hK _
theorem ymo {c : Codex} (h : ytm c = true) : c.arts.length <= 12 /\ c.facts.length <= 12 /\ zsi c 420 = true /\ ∀ a ∈ c.arts, a.when_.length <= 41 /\ a.unless_.length <= 80 := by
 unfold ytm at h
 simp only [Bool.and_eq_true, decide_eq_true_eq] at h
 obtain ⟨⟨h1, h2⟩, h3⟩ := h
 unfold zsi at h1 ⊢
 simp only [Bool.and_eq_true, decide_eq_true_eq, List.all_eq_true] at h1 ⊢
 refine ⟨h2, h3, ⟨h1.1, fun a ha => ?_⟩, fun a ha => ?_⟩
 ·have := h1.2 a ha
  unfold zim at this ⊢
  simp only [Bool.and_eq_true, decide_eq_true_eq, List.all_eq_true] at this ⊢
  exact ⟨⟨this.1.1, by omega⟩, fun e he => by have := this.2 e he; omega⟩
 ·have := h1.2 a ha
  unfold zim at this
  simp only [Bool.and_eq_true, decide_eq_true_eq, List.all_eq_true] at this
  exact ⟨by have := this.1.1.1; omega, this.1.1.2⟩
def zrr (c n : Int) : Int := (if c < 0 then -(c + 1) else c) % n
theorem zzm {c n : Int} (h : 0 < n) : 0 <= zrr c n /\ zrr c n < n := ⟨Int.emod_nonneg _ (by omega), Int.emod_lt_of_pos _ h⟩
theorem zrs (c n : Int) (h0 : -9223372036854775808 <= c) (h1 : c <= 9223372036854775807) (hn : 0 < n) : zw Tryz.prog G 28 [sI c, sI n] (sI (zrr c n)) := by
 by_cases hc : c < 0
 ·have hw1 : IntKind.i64.wrap (c + 1) = c + 1 := xh (by omega) (by omega)
  have hw2 : IntKind.i64.wrap (0 - (c + 1)) = 0 - (c + 1) := xh (by omega) (by omega)
  have he : zrr c n = (IntKind.i64.wrap (0 - (IntKind.i64.wrap (c + 1)))).tmod n := by
   rw [hw1, hw2, Int.tmod_eq_emod_of_nonneg (by omega)]
   unfold zrr
   rw [if_pos hc, Int.zero_sub]
  refine zc Tryz.func28 rfl (by rw [Tryz.ntmps28]; simp) rfl rfl ?_; intro E hH hK
  (refine ww [777, 12] 1000 ?_; conv => whnf)
  repeat' ((with_reducible refine way ?_ ?_) <;> (intro h; conv => whnf))
  all_goals try (exfalso; omega)
  refine ymn (a := IntKind.i64.wrap (0 - (IntKind.i64.wrap (c + 1)))) (b := n) rfl rfl rfl rfl rfl (by omega) ?_
  (refine za ?_; conv => whnf)
  exact kI hK he
 ·have he : zrr c n = c.tmod n := by
   rw [Int.tmod_eq_emod_of_nonneg (by omega)]
   unfold zrr
   rw [if_neg hc]
  refine zc Tryz.func28 rfl (by rw [Tryz.ntmps28]; simp) rfl rfl ?_; intro E hH hK
  (refine ww [777, 12] 1000 ?_; conv => whnf)
  repeat' ((with_reducible refine way ?_ ?_) <;> (intro h; conv => whnf))
  all_goals try (exfalso; omega)
  refine ymn (a := c) (b := n) rfl rfl rfl rfl rfl (by omega) ?_
  (refine za ?_; conv => whnf)
  exact kI hK he
def yeu (numbers : List Int) (i : Nat) : Int := if i < numbers.length then zrr (numbers.getD i 0) 1000000000001 else 0
def yry (c : Codex) (numbers : List Int) : List Int := (List.range c.facts.length).map fun (i : Nat) => if zjy c i = true then yeu numbers i % 2 else yeu numbers i
theorem yev (numbers : List Int) (i : Nat) : 0 <= yeu numbers i := by
 unfold yeu
 split
 ·exact (zzm (by omega)).1
 ·omega
theorem yow (c : Codex) (numbers : List Int) : (yry c numbers).length = c.facts.length := by simp [yry]
theorem ymp (c : Codex) (numbers : List Int) : yhf c (yry c numbers) := fun i => by
 have h := yev numbers i
 unfold yry
 rw [List.getD_eq_getElem?_getD, List.getElem?_map]
 by_cases hi : i < c.facts.length
 ·rw [List.getElem?_range hi]
  simp only [Option.map_some, Option.getD_some]
  cases ht : zjy c (i : Int) with
  | true => rw [if_pos rfl]; omega
  | false => simp; exact h
 ·rw [List.getElem?_eq_none (by simp; omega)]
  simp
theorem zsj (c : Codex) (hF : c.facts.length <= 1000) (numbers : List Int) (hn : ∀ n ∈ numbers, -9223372036854775808 <= n /\ n <= 9223372036854775807) : zw Tryz.prog G 27 [c.sv, .imm (zl numbers)] (.imm (zl (yry c numbers))) := by
 have hfl : (c.facts.map Decl.cells).length = c.facts.length := by simp
 have hnl : (numbers.map fun n => [dI n]).length = numbers.length := by simp
 rw [show c.sv = .agg [.imm (zk c.facts), .imm (zk c.lines), .imm (ys c.arts)] from rfl]
 refine zc Tryz.func27 rfl (by rw [Tryz.ntmps27]; simp) rfl rfl ?_; intro E hH hK
 (refine zh ?_; conv => whnf)
 refine zsp (n := 5) (kk := 1) rfl ?_
 refine zg [1, 2, 5, 6] ?_
 change SW E _ [(1, .imm (zl numbers)), (2, .ptr 0 0), (5, .asl 1 1 []), (6, sI 0)] [.cells [.imm (zk c.facts), .imm (zk c.lines), .imm (ys c.arts)], .tok 1 0]
 refine zp c.facts (fun i (l : List Int) => [(1, .imm (zl numbers)), (2, .ptr 0 0), (5, .asl 1 1 (l.map fun n => [dI n])), (6, sI i)]) (fun _ l => [.cells [.imm (zk c.facts), .imm (zk c.lines), .imm (ys c.arts)], .tok 1 (l.map fun n => [dI n]).length])
  (fun done _ l => l = (List.range done.length).map fun (i : Nat) => if zjy c i = true then yeu numbers i % 2 else yeu numbers i) [] rfl ?_ ?_
 ·rintro l h2
  have h3 : yry c numbers = l := h2.symm
  rw [h3] at hK
  refine zdi ?_
  change SW E _ [(1, .imm (zl numbers)), (2, .ptr 0 0), (5, .imm (zl l)), (6, sI c.facts.length)] _
  (refine zh ?_; conv => whnf)
  repeat' ((with_reducible refine way ?_ ?_) <;> (intro h; conv => whnf))
  all_goals try (exfalso; omega)
  exact hK _
 ·rintro done x rest l hda hdl h2 ih
  have hw := zm (n := done.length) (by omega)
  have hll : l.length = done.length := by rw [h2]; simp
  have hrow : (c.facts.map Decl.cells)[done.length]? = some [dS x.name, dS x.unit, dI x.role] := by simp [hda, Decl.cells]
  have hT : zjy c (done.length : Int) = decide (x.unit = tT) := by
   unfold zjy
   rw [show ((done.length : Nat) : Int).toNat = done.length by omega, show c.facts[done.length]? = some x by simp [hda]]
  have hsn : ∀ n, n = (if zjy c (done.length : Int) = true then yeu numbers done.length % 2 else yeu numbers done.length) -> l ++ [n] = (List.range (done ++ [x]).length).map fun (i : Nat) => if zjy c i = true then yeu numbers i % 2 else yeu numbers i := fun n h3 => by
   rw [List.length_append, List.length_cons, List.length_nil, List.range_succ, List.map_append, <- h2, h3]
   rfl
  have hp := yev numbers done.length
  by_cases hi : done.length < numbers.length
  ·obtain ⟨n0, hn0⟩ : ∃ n0, numbers[done.length]? = some n0 := ⟨_, List.getElem?_eq_getElem hi⟩
   have hrn : (numbers.map fun n => [dI n])[done.length]? = some [dI n0] := by simp [hn0]
   have hr := hn n0 (List.mem_of_getElem? hn0)
   have hpk := zrs G n0 1000000000001 hr.1 hr.2 (by omega)
   have hfn : yeu numbers done.length = zrr n0 1000000000001 := by unfold yeu; rw [if_pos hi, List.getD_eq_getElem?_getD, hn0]; rfl
   rw [hfn] at hsn hp
   generalize zrr n0 1000000000001 = p at hpk hsn hp
   (refine zh ?_; conv => whnf)
   repeat' ((with_reducible refine way ?_ ?_) <;> (intro h; conv => whnf))
   all_goals try (exfalso; omega)
   refine zf (i := done.length) (row := [dI n0]) rfl rfl hrn ?_
   (refine za ?_; conv => whnf)
   refine ze rfl  hpk ?_
   (refine za ?_; conv => whnf)
   refine zf (i := done.length) rfl rfl hrow ?_
   (refine za ?_; conv => whnf)
   repeat' ((with_reducible refine way ?_ ?_) <;> (intro h; conv => whnf))
   ·have ht : zjy c (done.length : Int) = true := hT.trans (decide_eq_true (p := x.unit = tT) h)
    have hend := ih (l ++ [p.tmod 2]) (hsn _ (by rw [if_pos ht, Int.tmod_eq_emod_of_nonneg hp]))
    refine wd (b := 1) (kk := 1) (rows := l.map fun n => [dI n]) (new := [[dI (p.tmod 2)]]) rfl ⟨by decide, rfl⟩ rfl (by rw [List.length_map]; simp only [List.length_cons, List.length_nil]; omega) ?_
    have e5 : (l.map fun n => [dI n]) ++ [[dI (p.tmod 2)]] = (l ++ [p.tmod 2]).map fun n => [dI n] := by simp
    have e6 : (l.map fun n => [dI n]).length + [[dI (p.tmod 2)]].length = ((l ++ [p.tmod 2]).map fun n => [dI n]).length := by simp
    refine Eq.mpr (congrArg (fun v => SWr E _ _ _ (wq _ _ (.asl 1 1 v)) _) e5) ?_
    refine Eq.mpr (congrArg (fun v => SWr E _ _ _ _ (List.set _ 1 (.tok 1 v))) e6) ?_
    (refine za ?_; conv => whnf)
    rw [hw]
    exact zg [1, 2, 5, 6] hend
   ·have ht : zjy c (done.length : Int) = false := hT.trans (decide_eq_false (p := x.unit = tT) h)
    have hend := ih (l ++ [p]) (hsn _ (by rw [if_neg (by rw [ht]; simp)]))
    refine wd (b := 1) (kk := 1) (rows := l.map fun n => [dI n]) (new := [[dI p]]) rfl ⟨by decide, rfl⟩ rfl (by rw [List.length_map]; simp only [List.length_cons, List.length_nil]; omega) ?_
    have e5 : (l.map fun n => [dI n]) ++ [[dI p]] = (l ++ [p]).map fun n => [dI n] := by simp
    have e6 : (l.map fun n => [dI n]).length + [[dI p]].length = ((l ++ [p]).map fun n => [dI n]).length := by simp
    refine Eq.mpr (congrArg (fun v => SWr E _ _ _ (wq _ _ (.asl 1 1 v)) _) e5) ?_
    refine Eq.mpr (congrArg (fun v => SWr E _ _ _ _ (List.set _ 1 (.tok 1 v))) e6) ?_
    (refine za ?_; conv => whnf)
    rw [hw]
    exact zg [1, 2, 5, 6] hend
  ·have hfn : yeu numbers done.length = 0 := by unfold yeu; rw [if_neg hi]
   have hend := ih (l ++ [0]) (hsn _ (by rw [hfn]; split <;> rfl))
   (refine zh ?_; conv => whnf)
   repeat' ((with_reducible refine way ?_ ?_) <;> (intro h; conv => whnf))
   all_goals try (exfalso; omega)
   refine zf (i := done.length) rfl rfl hrow ?_
   (refine za ?_; conv => whnf)
   repeat' ((with_reducible refine way ?_ ?_) <;> (intro h; conv => whnf))
   ·have hend := ih (l ++ [(0 : Int).tmod 2]) (hsn _ (by rw [hfn]; split <;> rfl))
    refine wd (b := 1) (kk := 1) (rows := l.map fun n => [dI n]) (new := [[dI ((0 : Int).tmod 2)]]) rfl ⟨by decide, rfl⟩ rfl (by rw [List.length_map]; simp only [List.length_cons, List.length_nil]; omega) ?_
    have e5 : (l.map fun n => [dI n]) ++ [[dI ((0 : Int).tmod 2)]] = (l ++ [(0 : Int).tmod 2]).map fun n => [dI n] := by simp
    have e6 : (l.map fun n => [dI n]).length + [[dI ((0 : Int).tmod 2)]].length = ((l ++ [(0 : Int).tmod 2]).map fun n => [dI n]).length := by simp
    refine Eq.mpr (congrArg (fun v => SWr E _ _ _ (wq _ _ (.asl 1 1 v)) _) e5) ?_
    refine Eq.mpr (congrArg (fun v => SWr E _ _ _ _ (List.set _ 1 (.tok 1 v))) e6) ?_
    (refine za ?_; conv => whnf)
    rw [hw]
    exact zg [1, 2, 5, 6] hend
   ·refine wd (b := 1) (kk := 1) (rows := l.map fun n => [dI n]) (new := [[dI 0]]) rfl ⟨by decide, rfl⟩ rfl (by rw [List.length_map]; simp only [List.length_cons, List.length_nil]; omega) ?_
    have e5 : (l.map fun n => [dI n]) ++ [[dI 0]] = (l ++ [0]).map fun n => [dI n] := by simp
    have e6 : (l.map fun n => [dI n]).length + [[dI 0]].length = ((l ++ [0]).map fun n => [dI n]).length := by simp
    refine Eq.mpr (congrArg (fun v => SWr E _ _ _ (wq _ _ (.asl 1 1 v)) _) e5) ?_
    refine Eq.mpr (congrArg (fun v => SWr E _ _ _ _ (List.set _ 1 (.tok 1 v))) e6) ?_
    (refine za ?_; conv => whnf)
    rw [hw]
    exact zg [1, 2, 5, 6] hend
def zac (c : Codex) (op n : Int) (u : ByteArray) : Bool :=
  if op = 1 then wt u && decide (0 <= n) && decide (n <= 999999999999) && (!decide (u = tT) || decide (n <= 1))
  else if op = 2 then decide (0 <= n) && decide (n < c.facts.length) && zcq c.facts n u
  else if op = 3 then (match c.arts[(ji n c.arts 0).toNat]? with
    | some a => decide (0 <= ji n c.arts 0) && decide (0 <= a.line) && decide (a.line < c.lines.length) && zcq c.lines a.line u
    | none => false)
  else if op = 4 then decide (1 <= n) && decide (n <= 4) && decide (u = tN)
  else false
theorem zzn (c : Codex) (op n : Int) (u : ByteArray) (den : Int) (ps : List Piece) (ks : List Ex) (hsz : c.arts.length <= 9223372036854775807) :
    zw Tryz.prog G 118 [c.sv, (Ex.mk op n u den ps ks).sv] (sB (zac c op n u)) := by
  refine zc Tryz.func118 rfl (by rw [Tryz.ntmps118]; simp) rfl rfl ?_; intro E hH hK
  have hf : (c.facts.map Decl.cells).length = c.facts.length := by simp
  have hl : (c.lines.map Decl.cells).length = c.lines.length := by simp
  by_cases h1 : op = 1
  · subst h1
    have hr : zac c 1 n u = (wt u && decide (0 <= n) && decide (n <= 999999999999) && (!decide (u = tT) || decide (n <= 1))) := rfl
    rw [hr] at hK
    (refine zi ?_; conv => whnf)
    refine ze rfl  (zxl G u) ?_
    (refine zj ?_; conv => whnf)
    repeat' ((with_reducible refine way ?_ ?_) <;> (intro h; conv => whnf))
    all_goals exact kB hK (by first | (rw [‹wt u = true›]; simp [*]; done) | (simp [*]; done))
  by_cases h2 : op = 2
  · subst h2
    have hr : zac c 2 n u = (decide (0 <= n) && decide (n < c.facts.length) && zcq c.facts n u) := rfl
    rw [hr] at hK
    (refine zi ?_; conv => whnf)
    (refine yz mixed rfl ?_; refine zn [] ?_; conv => whnf)
    repeat' ((with_reducible refine way ?_ ?_) <;> (intro h; conv => whnf))
    · have hlt : n.toNat < c.facts.length := by omega
      obtain ⟨d, hd⟩ : ∃ d, c.facts[n.toNat]? = some d := ⟨c.facts[n.toNat], List.getElem?_eq_getElem hlt⟩
      refine xt rfl (i := n.toNat) (by omega) (row := d.cells) (by simp [hd]) ?_
      (refine zn [] ?_; conv => whnf)
      (refine zi ?_; conv => whnf)
      refine kB hK ?_
      have hua : zcq c.facts n u = decide (u = d.unit) := by simp only [zcq, hd]
      rw [hua, decide_eq_true (by omega), decide_eq_true (by omega)]
      rfl
    all_goals (refine zi ?_; conv => whnf)
    · exact kB hK (by rw [decide_eq_false (p := n < c.facts.length) (by omega)]; simp)
    · exact kB hK (by rw [decide_eq_false (p := 0 <= n) (by omega)]; simp)
  by_cases h3 : op = 3
  · subst h3
    have hr : zac c 3 n u = (match c.arts[(ji n c.arts 0).toNat]? with
      | some a => decide (0 <= ji n c.arts 0) && decide (0 <= a.line) && decide (a.line < c.lines.length) && zcq c.lines a.line u
      | none => false) := rfl
    rw [hr] at hK
    (refine zi ?_; conv => whnf)
    refine ze rfl  (zha G c n hsz) ?_
    (refine zj ?_; conv => whnf)
    rcases zkz n c.arts 0 with h | ⟨g1, g2, a, g3, g4⟩
    · rw [h] at hK ⊢
      (refine yz mixed rfl ?_; refine zn [] ?_; conv => whnf)
      (refine zi ?_; conv => whnf)
      refine kB hK ?_
      split <;> rfl
    · rw [Nat.sub_zero] at g3
      rw [g3] at hK
      simp only [decide_eq_true (show (0 : Int) <= ji n c.arts 0 from g1), Bool.true_and] at hK
      generalize ji n c.arts 0 = ix at hK g1 g2 g3 ⊢
      (refine yz mixed rfl ?_; refine zn [] ?_; conv => whnf)
      repeat' ((with_reducible refine way ?_ ?_) <;> (intro h; conv => whnf))
      all_goals try (exfalso; omega)
      refine xt rfl (i := ix.toNat) (by omega) (row := a.cells) (by simp [g3]) ?_
      (refine zn [] ?_; conv => whnf)
      repeat' ((with_reducible refine way ?_ ?_) <;> (intro h; conv => whnf))
      · refine xt rfl (i := ix.toNat) (by omega) (row := a.cells) (by simp [g3]) ?_
        (refine zn [] ?_; conv => whnf)
        repeat' ((with_reducible refine way ?_ ?_) <;> (intro h; conv => whnf))
        · refine xt rfl (i := ix.toNat) (by omega) (row := a.cells) (by simp [g3]) ?_
          (refine zn [] ?_; conv => whnf)
          obtain ⟨d, hd⟩ : ∃ d, c.lines[a.line.toNat]? = some d := ⟨c.lines[a.line.toNat]'(by omega), List.getElem?_eq_getElem _⟩
          refine xt rfl (i := a.line.toNat) (by omega) (row := d.cells) (by simp [hd]) ?_
          (refine zn [] ?_; conv => whnf)
          (refine zi ?_; conv => whnf)
          refine kB hK ?_
          have hua : zcq c.lines a.line u = decide (u = d.unit) := by simp only [zcq, hd]
          rw [hua, decide_eq_true (p := 0 <= a.line) (by omega), decide_eq_true (p := a.line < c.lines.length) (by omega)]
          rfl
        · (refine zi ?_; conv => whnf)
          exact kB hK (by rw [decide_eq_false (p := a.line < c.lines.length) (by omega)]; simp)
      · (refine zi ?_; conv => whnf)
        exact kB hK (by rw [decide_eq_false (p := 0 <= a.line) (by omega)]; simp)
  · (refine zi ?_; conv => whnf)
    repeat' ((with_reducible refine way ?_ ?_) <;> (intro h; conv => whnf))
    all_goals try (exfalso; omega)
    all_goals exact kB hK (by simp only [zac, if_neg h1, if_neg h2, if_neg h3]; simp [*])
theorem ytn (u : ByteArray) (f l : Ex) (len : Int) (h : 2 <= len) : zae 16 u f l len true = (!decide (f.unit = tT) && decide (u = f.unit)) := by simp [zae, h]
theorem yto (u : ByteArray) (f l : Ex) (len : Int) (h : 2 <= len) : zae 17 u f l len true = (!decide (f.unit = tT) && decide (u = f.unit)) := by simp [zae, h]
theorem yuw (u : ByteArray) (f l : Ex) : zae 6 u f l 2 (decide (l.unit = f.unit)) = (decide (u = tT) && decide (f.unit = tT) && decide (l.unit = tT)) := by
 by_cases e : f.unit = tT
 ·simp [zae, e]
 ·simp [zae, e]
theorem yux (u : ByteArray) (f l : Ex) : zae 7 u f l 2 (decide (l.unit = f.unit)) = (decide (u = tT) && decide (f.unit = tT) && decide (l.unit = tT)) := by
 by_cases e : f.unit = tT
 ·simp [zae, e]
 ·simp [zae, e]
theorem yuy (u : ByteArray) (f l : Ex) : zae 8 u f l 2 (decide (l.unit = f.unit)) = (decide (u = tT) && decide (f.unit = l.unit)) := by
 simp [zae, eq_comm (a := l.unit)]
theorem yuz (u : ByteArray) (f l : Ex) : zae 9 u f l 2 (decide (l.unit = f.unit)) = (decide (u = tT) && decide (f.unit = l.unit) && !decide (f.unit = tT)) := by
 simp [zae, Bool.and_assoc, eq_comm (a := l.unit)]
theorem ytp (u : ByteArray) (f l : Ex) : zae 10 u f l 2 (decide (l.unit = f.unit)) = (decide (u = tT) && decide (f.unit = l.unit) && !decide (f.unit = tT)) := by
 simp [zae, Bool.and_assoc, eq_comm (a := l.unit)]
theorem ytq (u : ByteArray) (f l : Ex) : zae 11 u f l 2 (decide (l.unit = f.unit)) = (decide (u = f.unit) && decide (f.unit = l.unit) && !decide (f.unit = tT)) := by
 by_cases e1 : u = f.unit <;> by_cases e2 : l.unit = f.unit <;> simp [zae, e1, e2, eq_comm (a := f.unit)]
theorem ytr (u : ByteArray) (f l : Ex) : zae 12 u f l 2 (decide (l.unit = f.unit)) = (decide (u = f.unit) && decide (f.unit = l.unit) && !decide (f.unit = tT)) := by
 by_cases e1 : u = f.unit <;> by_cases e2 : l.unit = f.unit <;> simp [zae, e1, e2, eq_comm (a := f.unit)]
theorem yts (u : ByteArray) (f l : Ex) (s : Bool) : zae 13 u f l 2 s = (!decide (f.unit = tT) && !decide (l.unit = tT) && ((decide (f.unit = tN) && decide (u = l.unit)) || (decide (l.unit = tN) && decide (u = f.unit)))) := by
 by_cases e1 : f.unit = tN
 ·by_cases e2 : l.unit = tN
  ·simp [zae, e1, e2]
  ·simp [zae, e1, e2]
 ·simp [zae, e1, Bool.and_assoc]
theorem ytt (u : ByteArray) (f l : Ex) (s : Bool) : zae 14 u f l 2 s = (decide (u = f.unit) && !decide (f.unit = tT) && decide (l.op = 1) && decide (l.unit = tN) && decide (1 <= l.n) && decide (l.n <= 1000000)) := by
 have e1 : (!decide (l.n < 1)) = decide (1 <= l.n) := by rw [Bool.eq_iff_iff]; simp
 have e2 : (!decide (1000000 < l.n)) = decide (l.n <= 1000000) := by rw [Bool.eq_iff_iff]; simp
 simp only [zae]
 rw [e1, e2]
 by_cases f1 : u = f.unit <;> by_cases f2 : f.unit = tT <;> simp [f1, f2, Bool.and_assoc]
theorem ytu (u : ByteArray) (f l : Ex) (s : Bool) : zae 15 u f l 2 s = (decide (f.unit = tM) && zem l.unit && decide (u = l.unit)) := by simp [zae]
theorem yox (op : Int) (u : ByteArray) (f l : Ex) (s : Bool) (h : op < 6 \/ 17 < op) : zae op u f l 2 s = false := by
 by_cases e5 : op = 5
 ·subst e5; simp [zae]
 ·simp only [zae]
  rw [if_neg e5, if_neg (by omega), if_neg (by omega), if_neg (by omega), if_neg (by omega), if_neg (by omega), if_neg (by omega), if_neg (by omega), if_neg (by omega)]
theorem yhu (n : Int) (u : ByteArray) (den : Int) (ps : List Piece) (k0 k1 : Ex) : zw Tryz.prog G 120 [(Ex.mk 6 n u den ps [k0, k1]).sv] (sB (zae 6 u k0 k1 2 (decide (k1.unit = k0.unit)))) := by
 have hrows := zq [k0, k1]
 have hlen : (zd [k0, k1]).length = 2 := by rw [hrows]; rfl
 have h0 : (zd [k0, k1])[0]? = some k0.cells := by rw [hrows]; rfl
 have h1 : (zd [k0, k1])[1]? = some k1.cells := by rw [hrows]; rfl
 have hkl : [k0, k1].length = 2 := rfl
 generalize [k0, k1] = ks at hrows hlen h0 h1 hkl ⊢
 refine zc Tryz.func120 rfl (by rw [Tryz.ntmps120]; simp) rfl rfl ?_; intro E hH hK
 obtain ⟨o0, n0, u0, d0, p0, q0⟩ := k0
 obtain ⟨o1, n1, u1, d1, p1, q1⟩ := k1
 replace hK : ∀ H', E.K (sB (decide (u = tT) && decide (u0 = tT) && decide (u1 = tT))) H' := by
  intro H'
  have := hK H'
  rw [yuw] at this
  exact this
 (refine zi ?_; conv => whnf)
 refine zf rfl rfl  (row := (Ex.mk o0 n0 u0 d0 p0 q0).cells) h0 ?_
 (refine zj ?_; conv => whnf)
 refine zf rfl rfl  (row := (Ex.mk o1 n1 u1 d1 p1 q1).cells) h1 ?_
 (refine zj ?_; conv => whnf)
 refine zg [1, 3, 4, 5] ?_
 refine zp ks (fun i (_ : Unit) => [(1, .ptr 0 0), (3, sS u0), (4, sS u1), (5, sI i)]) (fun _ _ => [.cells [sI 6, sI n, sS u, sI den, .imm (.isl 3 (ps.map Piece.cells)), .imm (.isl 6 (zd ks))]])
  (fun _ _ _ => True) () trivial ?_ ?_
 ·as_aux_lemma =>
   rintro _ _
   (refine zi ?_; conv => whnf)
   repeat' ((with_reducible refine way ?_ ?_) <;> (intro h; conv => whnf))
   all_goals try (exfalso; omega)
   all_goals exact kB hK (by simp [tT, tN, *])
 ·as_aux_lemma =>
   rintro done k rest _ ha hl _ ih
   have hw := zm (n := done.length) (by omega)
   (refine zi ?_; conv => whnf)
   repeat' ((with_reducible refine way ?_ ?_) <;> (intro h; conv => whnf))
   all_goals try (exfalso; omega)
   all_goals (rw [hw]; exact yq [1, 3, 4, 5] 1 (by simp [hH]) (by simp) rfl rfl (ih () trivial))
theorem yhv (n : Int) (u : ByteArray) (den : Int) (ps : List Piece) (k0 k1 : Ex) : zw Tryz.prog G 120 [(Ex.mk 7 n u den ps [k0, k1]).sv] (sB (zae 7 u k0 k1 2 (decide (k1.unit = k0.unit)))) := by
 have hrows := zq [k0, k1]
 have hlen : (zd [k0, k1]).length = 2 := by rw [hrows]; rfl
 have h0 : (zd [k0, k1])[0]? = some k0.cells := by rw [hrows]; rfl
 have h1 : (zd [k0, k1])[1]? = some k1.cells := by rw [hrows]; rfl
 have hkl : [k0, k1].length = 2 := rfl
 generalize [k0, k1] = ks at hrows hlen h0 h1 hkl ⊢
 refine zc Tryz.func120 rfl (by rw [Tryz.ntmps120]; simp) rfl rfl ?_; intro E hH hK
 obtain ⟨o0, n0, u0, d0, p0, q0⟩ := k0
 obtain ⟨o1, n1, u1, d1, p1, q1⟩ := k1
 replace hK : ∀ H', E.K (sB (decide (u = tT) && decide (u0 = tT) && decide (u1 = tT))) H' := by
  intro H'
  have := hK H'
  rw [yux] at this
  exact this
 (refine zi ?_; conv => whnf)
 refine zf rfl rfl  (row := (Ex.mk o0 n0 u0 d0 p0 q0).cells) h0 ?_
 (refine zj ?_; conv => whnf)
 refine zf rfl rfl  (row := (Ex.mk o1 n1 u1 d1 p1 q1).cells) h1 ?_
 (refine zj ?_; conv => whnf)
 refine zg [1, 3, 4, 5] ?_
 refine zp ks (fun i (_ : Unit) => [(1, .ptr 0 0), (3, sS u0), (4, sS u1), (5, sI i)]) (fun _ _ => [.cells [sI 7, sI n, sS u, sI den, .imm (.isl 3 (ps.map Piece.cells)), .imm (.isl 6 (zd ks))]])
  (fun _ _ _ => True) () trivial ?_ ?_
 ·as_aux_lemma =>
   rintro _ _
   (refine zi ?_; conv => whnf)
   repeat' ((with_reducible refine way ?_ ?_) <;> (intro h; conv => whnf))
   all_goals try (exfalso; omega)
   all_goals exact kB hK (by simp [tT, tN, *])
 ·as_aux_lemma =>
   rintro done k rest _ ha hl _ ih
   have hw := zm (n := done.length) (by omega)
   (refine zi ?_; conv => whnf)
   repeat' ((with_reducible refine way ?_ ?_) <;> (intro h; conv => whnf))
   all_goals try (exfalso; omega)
   all_goals (rw [hw]; exact yq [1, 3, 4, 5] 1 (by simp [hH]) (by simp) rfl rfl (ih () trivial))
theorem yhw (n : Int) (u : ByteArray) (den : Int) (ps : List Piece) (k0 k1 : Ex) : zw Tryz.prog G 120 [(Ex.mk 8 n u den ps [k0, k1]).sv] (sB (zae 8 u k0 k1 2 (decide (k1.unit = k0.unit)))) := by
 have hrows := zq [k0, k1]
 have hlen : (zd [k0, k1]).length = 2 := by rw [hrows]; rfl
 have h0 : (zd [k0, k1])[0]? = some k0.cells := by rw [hrows]; rfl
 have h1 : (zd [k0, k1])[1]? = some k1.cells := by rw [hrows]; rfl
 have hkl : [k0, k1].length = 2 := rfl
 generalize [k0, k1] = ks at hrows hlen h0 h1 hkl ⊢
 refine zc Tryz.func120 rfl (by rw [Tryz.ntmps120]; simp) rfl rfl ?_; intro E hH hK
 obtain ⟨o0, n0, u0, d0, p0, q0⟩ := k0
 obtain ⟨o1, n1, u1, d1, p1, q1⟩ := k1
 replace hK : ∀ H', E.K (sB (decide (u = tT) && decide (u0 = u1))) H' := by
  intro H'
  have := hK H'
  rw [yuy] at this
  exact this
 (refine zi ?_; conv => whnf)
 refine zf rfl rfl  (row := (Ex.mk o0 n0 u0 d0 p0 q0).cells) h0 ?_
 (refine zj ?_; conv => whnf)
 refine zf rfl rfl  (row := (Ex.mk o1 n1 u1 d1 p1 q1).cells) h1 ?_
 (refine zj ?_; conv => whnf)
 refine zg [1, 3, 4, 5] ?_
 refine zp ks (fun i (_ : Unit) => [(1, .ptr 0 0), (3, sS u0), (4, sS u1), (5, sI i)]) (fun _ _ => [.cells [sI 8, sI n, sS u, sI den, .imm (.isl 3 (ps.map Piece.cells)), .imm (.isl 6 (zd ks))]])
  (fun _ _ _ => True) () trivial ?_ ?_
 ·as_aux_lemma =>
   rintro _ _
   (refine zi ?_; conv => whnf)
   repeat' ((with_reducible refine way ?_ ?_) <;> (intro h; conv => whnf))
   all_goals try (exfalso; omega)
   all_goals exact kB hK (by simp [tT, tN, *])
 ·as_aux_lemma =>
   rintro done k rest _ ha hl _ ih
   have hw := zm (n := done.length) (by omega)
   (refine zi ?_; conv => whnf)
   repeat' ((with_reducible refine way ?_ ?_) <;> (intro h; conv => whnf))
   all_goals try (exfalso; omega)
   all_goals (rw [hw]; exact yq [1, 3, 4, 5] 1 (by simp [hH]) (by simp) rfl rfl (ih () trivial))
theorem yhx (n : Int) (u : ByteArray) (den : Int) (ps : List Piece) (k0 k1 : Ex) : zw Tryz.prog G 120 [(Ex.mk 9 n u den ps [k0, k1]).sv] (sB (zae 9 u k0 k1 2 (decide (k1.unit = k0.unit)))) := by
 have hrows := zq [k0, k1]
 have hlen : (zd [k0, k1]).length = 2 := by rw [hrows]; rfl
 have h0 : (zd [k0, k1])[0]? = some k0.cells := by rw [hrows]; rfl
 have h1 : (zd [k0, k1])[1]? = some k1.cells := by rw [hrows]; rfl
 have hkl : [k0, k1].length = 2 := rfl
 generalize [k0, k1] = ks at hrows hlen h0 h1 hkl ⊢
 refine zc Tryz.func120 rfl (by rw [Tryz.ntmps120]; simp) rfl rfl ?_; intro E hH hK
 obtain ⟨o0, n0, u0, d0, p0, q0⟩ := k0
 obtain ⟨o1, n1, u1, d1, p1, q1⟩ := k1
 replace hK : ∀ H', E.K (sB (decide (u = tT) && decide (u0 = u1) && !decide (u0 = tT))) H' := by
  intro H'
  have := hK H'
  rw [yuz] at this
  exact this
 (refine zi ?_; conv => whnf)
 refine zf rfl rfl  (row := (Ex.mk o0 n0 u0 d0 p0 q0).cells) h0 ?_
 (refine zj ?_; conv => whnf)
 refine zf rfl rfl  (row := (Ex.mk o1 n1 u1 d1 p1 q1).cells) h1 ?_
 (refine zj ?_; conv => whnf)
 refine zg [1, 3, 4, 5] ?_
 refine zp ks (fun i (_ : Unit) => [(1, .ptr 0 0), (3, sS u0), (4, sS u1), (5, sI i)]) (fun _ _ => [.cells [sI 9, sI n, sS u, sI den, .imm (.isl 3 (ps.map Piece.cells)), .imm (.isl 6 (zd ks))]])
  (fun _ _ _ => True) () trivial ?_ ?_
 ·as_aux_lemma =>
   rintro _ _
   (refine zi ?_; conv => whnf)
   repeat' ((with_reducible refine way ?_ ?_) <;> (intro h; conv => whnf))
   all_goals try (exfalso; omega)
   all_goals exact kB hK (by simp [tT, tN, *])
 ·as_aux_lemma =>
   rintro done k rest _ ha hl _ ih
   have hw := zm (n := done.length) (by omega)
   (refine zi ?_; conv => whnf)
   repeat' ((with_reducible refine way ?_ ?_) <;> (intro h; conv => whnf))
   all_goals try (exfalso; omega)
   all_goals (rw [hw]; exact yq [1, 3, 4, 5] 1 (by simp [hH]) (by simp) rfl rfl (ih () trivial))
theorem ycc (n : Int) (u : ByteArray) (den : Int) (ps : List Piece) (k0 k1 : Ex) : zw Tryz.prog G 120 [(Ex.mk 10 n u den ps [k0, k1]).sv] (sB (zae 10 u k0 k1 2 (decide (k1.unit = k0.unit)))) := by
 have hrows := zq [k0, k1]
 have hlen : (zd [k0, k1]).length = 2 := by rw [hrows]; rfl
 have h0 : (zd [k0, k1])[0]? = some k0.cells := by rw [hrows]; rfl
 have h1 : (zd [k0, k1])[1]? = some k1.cells := by rw [hrows]; rfl
 have hkl : [k0, k1].length = 2 := rfl
 generalize [k0, k1] = ks at hrows hlen h0 h1 hkl ⊢
 refine zc Tryz.func120 rfl (by rw [Tryz.ntmps120]; simp) rfl rfl ?_; intro E hH hK
 obtain ⟨o0, n0, u0, d0, p0, q0⟩ := k0
 obtain ⟨o1, n1, u1, d1, p1, q1⟩ := k1
 replace hK : ∀ H', E.K (sB (decide (u = tT) && decide (u0 = u1) && !decide (u0 = tT))) H' := by
  intro H'
  have := hK H'
  rw [ytp] at this
  exact this
 (refine zi ?_; conv => whnf)
 refine zf rfl rfl  (row := (Ex.mk o0 n0 u0 d0 p0 q0).cells) h0 ?_
 (refine zj ?_; conv => whnf)
 refine zf rfl rfl  (row := (Ex.mk o1 n1 u1 d1 p1 q1).cells) h1 ?_
 (refine zj ?_; conv => whnf)
 refine zg [1, 3, 4, 5] ?_
 refine zp ks (fun i (_ : Unit) => [(1, .ptr 0 0), (3, sS u0), (4, sS u1), (5, sI i)]) (fun _ _ => [.cells [sI 10, sI n, sS u, sI den, .imm (.isl 3 (ps.map Piece.cells)), .imm (.isl 6 (zd ks))]])
  (fun _ _ _ => True) () trivial ?_ ?_
 ·as_aux_lemma =>
   rintro _ _
   (refine zi ?_; conv => whnf)
   repeat' ((with_reducible refine way ?_ ?_) <;> (intro h; conv => whnf))
   all_goals try (exfalso; omega)
   all_goals exact kB hK (by simp [tT, tN, *])
 ·as_aux_lemma =>
   rintro done k rest _ ha hl _ ih
   have hw := zm (n := done.length) (by omega)
   (refine zi ?_; conv => whnf)
   repeat' ((with_reducible refine way ?_ ?_) <;> (intro h; conv => whnf))
   all_goals try (exfalso; omega)
   all_goals (rw [hw]; exact yq [1, 3, 4, 5] 1 (by simp [hH]) (by simp) rfl rfl (ih () trivial))
theorem ycd (n : Int) (u : ByteArray) (den : Int) (ps : List Piece) (k0 k1 : Ex) : zw Tryz.prog G 120 [(Ex.mk 11 n u den ps [k0, k1]).sv] (sB (zae 11 u k0 k1 2 (decide (k1.unit = k0.unit)))) := by
 have hrows := zq [k0, k1]
 have hlen : (zd [k0, k1]).length = 2 := by rw [hrows]; rfl
 have h0 : (zd [k0, k1])[0]? = some k0.cells := by rw [hrows]; rfl
 have h1 : (zd [k0, k1])[1]? = some k1.cells := by rw [hrows]; rfl
 have hkl : [k0, k1].length = 2 := rfl
 generalize [k0, k1] = ks at hrows hlen h0 h1 hkl ⊢
 refine zc Tryz.func120 rfl (by rw [Tryz.ntmps120]; simp) rfl rfl ?_; intro E hH hK
 obtain ⟨o0, n0, u0, d0, p0, q0⟩ := k0
 obtain ⟨o1, n1, u1, d1, p1, q1⟩ := k1
 replace hK : ∀ H', E.K (sB (decide (u = u0) && decide (u0 = u1) && !decide (u0 = tT))) H' := by
  intro H'
  have := hK H'
  rw [ytq] at this
  exact this
 (refine zi ?_; conv => whnf)
 refine zf rfl rfl  (row := (Ex.mk o0 n0 u0 d0 p0 q0).cells) h0 ?_
 (refine zj ?_; conv => whnf)
 refine zf rfl rfl  (row := (Ex.mk o1 n1 u1 d1 p1 q1).cells) h1 ?_
 (refine zj ?_; conv => whnf)
 refine zg [1, 3, 4, 5] ?_
 refine zp ks (fun i (_ : Unit) => [(1, .ptr 0 0), (3, sS u0), (4, sS u1), (5, sI i)]) (fun _ _ => [.cells [sI 11, sI n, sS u, sI den, .imm (.isl 3 (ps.map Piece.cells)), .imm (.isl 6 (zd ks))]])
  (fun _ _ _ => True) () trivial ?_ ?_
 ·as_aux_lemma =>
   rintro _ _
   (refine zi ?_; conv => whnf)
   repeat' ((with_reducible refine way ?_ ?_) <;> (intro h; conv => whnf))
   all_goals try (exfalso; omega)
   all_goals exact kB hK (by simp [tT, tN, *])
 ·as_aux_lemma =>
   rintro done k rest _ ha hl _ ih
   have hw := zm (n := done.length) (by omega)
   (refine zi ?_; conv => whnf)
   repeat' ((with_reducible refine way ?_ ?_) <;> (intro h; conv => whnf))
   all_goals try (exfalso; omega)
   all_goals (rw [hw]; exact yq [1, 3, 4, 5] 1 (by simp [hH]) (by simp) rfl rfl (ih () trivial))
theorem yce (n : Int) (u : ByteArray) (den : Int) (ps : List Piece) (k0 k1 : Ex) : zw Tryz.prog G 120 [(Ex.mk 12 n u den ps [k0, k1]).sv] (sB (zae 12 u k0 k1 2 (decide (k1.unit = k0.unit)))) := by
 have hrows := zq [k0, k1]
 have hlen : (zd [k0, k1]).length = 2 := by rw [hrows]; rfl
 have h0 : (zd [k0, k1])[0]? = some k0.cells := by rw [hrows]; rfl
 have h1 : (zd [k0, k1])[1]? = some k1.cells := by rw [hrows]; rfl
 have hkl : [k0, k1].length = 2 := rfl
 generalize [k0, k1] = ks at hrows hlen h0 h1 hkl ⊢
 refine zc Tryz.func120 rfl (by rw [Tryz.ntmps120]; simp) rfl rfl ?_; intro E hH hK
 obtain ⟨o0, n0, u0, d0, p0, q0⟩ := k0
 obtain ⟨o1, n1, u1, d1, p1, q1⟩ := k1
 replace hK : ∀ H', E.K (sB (decide (u = u0) && decide (u0 = u1) && !decide (u0 = tT))) H' := by
  intro H'
  have := hK H'
  rw [ytr] at this
  exact this
 (refine zi ?_; conv => whnf)
 refine zf rfl rfl  (row := (Ex.mk o0 n0 u0 d0 p0 q0).cells) h0 ?_
 (refine zj ?_; conv => whnf)
 refine zf rfl rfl  (row := (Ex.mk o1 n1 u1 d1 p1 q1).cells) h1 ?_
 (refine zj ?_; conv => whnf)
 refine zg [1, 3, 4, 5] ?_
 refine zp ks (fun i (_ : Unit) => [(1, .ptr 0 0), (3, sS u0), (4, sS u1), (5, sI i)]) (fun _ _ => [.cells [sI 12, sI n, sS u, sI den, .imm (.isl 3 (ps.map Piece.cells)), .imm (.isl 6 (zd ks))]])
  (fun _ _ _ => True) () trivial ?_ ?_
 ·as_aux_lemma =>
   rintro _ _
   (refine zi ?_; conv => whnf)
   repeat' ((with_reducible refine way ?_ ?_) <;> (intro h; conv => whnf))
   all_goals try (exfalso; omega)
   all_goals exact kB hK (by simp [tT, tN, *])
 ·as_aux_lemma =>
   rintro done k rest _ ha hl _ ih
   have hw := zm (n := done.length) (by omega)
   (refine zi ?_; conv => whnf)
   repeat' ((with_reducible refine way ?_ ?_) <;> (intro h; conv => whnf))
   all_goals try (exfalso; omega)
   all_goals (rw [hw]; exact yq [1, 3, 4, 5] 1 (by simp [hH]) (by simp) rfl rfl (ih () trivial))
theorem ycf (n : Int) (u : ByteArray) (den : Int) (ps : List Piece) (k0 k1 : Ex) : zw Tryz.prog G 120 [(Ex.mk 13 n u den ps [k0, k1]).sv] (sB (zae 13 u k0 k1 2 (decide (k1.unit = k0.unit)))) := by
 have hrows := zq [k0, k1]
 have hlen : (zd [k0, k1]).length = 2 := by rw [hrows]; rfl
 have h0 : (zd [k0, k1])[0]? = some k0.cells := by rw [hrows]; rfl
 have h1 : (zd [k0, k1])[1]? = some k1.cells := by rw [hrows]; rfl
 have hkl : [k0, k1].length = 2 := rfl
 generalize [k0, k1] = ks at hrows hlen h0 h1 hkl ⊢
 refine zc Tryz.func120 rfl (by rw [Tryz.ntmps120]; simp) rfl rfl ?_; intro E hH hK
 obtain ⟨o0, n0, u0, d0, p0, q0⟩ := k0
 obtain ⟨o1, n1, u1, d1, p1, q1⟩ := k1
 replace hK : ∀ H', E.K (sB (!decide (u0 = tT) && !decide (u1 = tT) && ((decide (u0 = tN) && decide (u = u1)) || (decide (u1 = tN) && decide (u = u0))))) H' := by
  intro H'
  have := hK H'
  rw [yts] at this
  exact this
 (refine zi ?_; conv => whnf)
 refine zf rfl rfl  (row := (Ex.mk o0 n0 u0 d0 p0 q0).cells) h0 ?_
 (refine zj ?_; conv => whnf)
 refine zf rfl rfl  (row := (Ex.mk o1 n1 u1 d1 p1 q1).cells) h1 ?_
 (refine zj ?_; conv => whnf)
 refine zg [1, 3, 4, 5] ?_
 refine zp ks (fun i (_ : Unit) => [(1, .ptr 0 0), (3, sS u0), (4, sS u1), (5, sI i)]) (fun _ _ => [.cells [sI 13, sI n, sS u, sI den, .imm (.isl 3 (ps.map Piece.cells)), .imm (.isl 6 (zd ks))]])
  (fun _ _ _ => True) () trivial ?_ ?_
 ·as_aux_lemma =>
   rintro _ _
   (refine zi ?_; conv => whnf)
   repeat' ((with_reducible refine way ?_ ?_) <;> (intro h; conv => whnf))
   all_goals try (exfalso; omega)
   all_goals exact kB hK (by simp [tT, tN, *])
 ·as_aux_lemma =>
   rintro done k rest _ ha hl _ ih
   have hw := zm (n := done.length) (by omega)
   (refine zi ?_; conv => whnf)
   repeat' ((with_reducible refine way ?_ ?_) <;> (intro h; conv => whnf))
   all_goals try (exfalso; omega)
   all_goals (rw [hw]; exact yq [1, 3, 4, 5] 1 (by simp [hH]) (by simp) rfl rfl (ih () trivial))
theorem ycg (n : Int) (u : ByteArray) (den : Int) (ps : List Piece) (k0 k1 : Ex) : zw Tryz.prog G 120 [(Ex.mk 14 n u den ps [k0, k1]).sv] (sB (zae 14 u k0 k1 2 (decide (k1.unit = k0.unit)))) := by
 have hrows := zq [k0, k1]
 have hlen : (zd [k0, k1]).length = 2 := by rw [hrows]; rfl
 have h0 : (zd [k0, k1])[0]? = some k0.cells := by rw [hrows]; rfl
 have h1 : (zd [k0, k1])[1]? = some k1.cells := by rw [hrows]; rfl
 have hkl : [k0, k1].length = 2 := rfl
 generalize [k0, k1] = ks at hrows hlen h0 h1 hkl ⊢
 refine zc Tryz.func120 rfl (by rw [Tryz.ntmps120]; simp) rfl rfl ?_; intro E hH hK
 obtain ⟨o0, n0, u0, d0, p0, q0⟩ := k0
 obtain ⟨o1, n1, u1, d1, p1, q1⟩ := k1
 replace hK : ∀ H', E.K (sB (decide (u = u0) && !decide (u0 = tT) && decide (o1 = 1) && decide (u1 = tN) && decide (1 <= n1) && decide (n1 <= 1000000))) H' := by
  intro H'
  have := hK H'
  rw [ytt] at this
  exact this
 (refine zi ?_; conv => whnf)
 refine zf rfl rfl  (row := (Ex.mk o0 n0 u0 d0 p0 q0).cells) h0 ?_
 (refine zj ?_; conv => whnf)
 refine zf rfl rfl  (row := (Ex.mk o1 n1 u1 d1 p1 q1).cells) h1 ?_
 (refine zj ?_; conv => whnf)
 refine zg [1, 3, 4, 5] ?_
 refine zp ks (fun i (_ : Unit) => [(1, .ptr 0 0), (3, sS u0), (4, sS u1), (5, sI i)]) (fun _ _ => [.cells [sI 14, sI n, sS u, sI den, .imm (.isl 3 (ps.map Piece.cells)), .imm (.isl 6 (zd ks))]])
  (fun _ _ _ => True) () trivial ?_ ?_
 ·as_aux_lemma =>
   rintro _ _
   (refine zi ?_; conv => whnf)
   repeat' ((with_reducible refine way ?_ ?_) <;> (intro h; conv => whnf))
   all_goals try (exfalso; omega)
   all_goals try exact kB hK (by simp [tT, *]; done)
   refine zf rfl rfl  (row := (Ex.mk o1 n1 u1 d1 p1 q1).cells) h1 ?_
   (refine zj ?_; conv => whnf)
   repeat' ((with_reducible refine way ?_ ?_) <;> (intro h; conv => whnf))
   all_goals try exact kB hK (by simp [tT, *]; done)
   refine zf rfl rfl  (row := (Ex.mk o1 n1 u1 d1 p1 q1).cells) h1 ?_
   (refine zj ?_; conv => whnf)
   repeat' ((with_reducible refine way ?_ ?_) <;> (intro h; conv => whnf))
   all_goals try exact kB hK (by simp [tT, *]; done)
   refine zf rfl rfl  (row := (Ex.mk o1 n1 u1 d1 p1 q1).cells) h1 ?_
   (refine zj ?_; conv => whnf)
   repeat' ((with_reducible refine way ?_ ?_) <;> (intro h; conv => whnf))
   all_goals exact kB hK (by simp [tT, *])
 ·as_aux_lemma =>
   rintro done k rest _ ha hl _ ih
   have hw := zm (n := done.length) (by omega)
   (refine zi ?_; conv => whnf)
   repeat' ((with_reducible refine way ?_ ?_) <;> (intro h; conv => whnf))
   all_goals try (exfalso; omega)
   all_goals (rw [hw]; exact yq [1, 3, 4, 5] 1 (by simp [hH]) (by simp) rfl rfl (ih () trivial))
theorem ych (n : Int) (u : ByteArray) (den : Int) (ps : List Piece) (k0 k1 : Ex) : zw Tryz.prog G 120 [(Ex.mk 15 n u den ps [k0, k1]).sv] (sB (zae 15 u k0 k1 2 (decide (k1.unit = k0.unit)))) := by
 have hrows := zq [k0, k1]
 have hlen : (zd [k0, k1]).length = 2 := by rw [hrows]; rfl
 have h0 : (zd [k0, k1])[0]? = some k0.cells := by rw [hrows]; rfl
 have h1 : (zd [k0, k1])[1]? = some k1.cells := by rw [hrows]; rfl
 have hkl : [k0, k1].length = 2 := rfl
 generalize [k0, k1] = ks at hrows hlen h0 h1 hkl ⊢
 refine zc Tryz.func120 rfl (by rw [Tryz.ntmps120]; simp) rfl rfl ?_; intro E hH hK
 obtain ⟨o0, n0, u0, d0, p0, q0⟩ := k0
 obtain ⟨o1, n1, u1, d1, p1, q1⟩ := k1
 replace hK : ∀ H', E.K (sB (decide (u0 = tM) && zem u1 && decide (u = u1))) H' := by
  intro H'
  have := hK H'
  rw [ytu] at this
  exact this
 (refine zi ?_; conv => whnf)
 refine zf rfl rfl  (row := (Ex.mk o0 n0 u0 d0 p0 q0).cells) h0 ?_
 (refine zj ?_; conv => whnf)
 refine zf rfl rfl  (row := (Ex.mk o1 n1 u1 d1 p1 q1).cells) h1 ?_
 (refine zj ?_; conv => whnf)
 refine zg [1, 3, 4, 5] ?_
 refine zp ks (fun i (_ : Unit) => [(1, .ptr 0 0), (3, sS u0), (4, sS u1), (5, sI i)]) (fun _ _ => [.cells [sI 15, sI n, sS u, sI den, .imm (.isl 3 (ps.map Piece.cells)), .imm (.isl 6 (zd ks))]])
  (fun _ _ _ => True) () trivial ?_ ?_
 ·as_aux_lemma =>
   rintro _ _
   (refine zi ?_; conv => whnf)
   repeat' ((with_reducible refine way ?_ ?_) <;> (intro h; conv => whnf))
   all_goals try (exfalso; omega)
   all_goals try exact kB hK (by simp [tM, *]; done)
   refine ze rfl  (zuz G u1) ?_
   (refine zj ?_; conv => whnf)
   repeat' ((with_reducible refine way ?_ ?_) <;> (intro h; conv => whnf))
   all_goals exact kB hK (by simp [tM, *])
 ·as_aux_lemma =>
   rintro done k rest _ ha hl _ ih
   have hw := zm (n := done.length) (by omega)
   (refine zi ?_; conv => whnf)
   repeat' ((with_reducible refine way ?_ ?_) <;> (intro h; conv => whnf))
   all_goals try (exfalso; omega)
   all_goals (rw [hw]; exact yq [1, 3, 4, 5] 1 (by simp [hH]) (by simp) rfl rfl (ih () trivial))
theorem zwf (op n : Int) (u : ByteArray) (den : Int) (ps : List Piece) (k0 k1 : Ex) (hc : op < 6 \/ 17 < op) : zw Tryz.prog G 120 [(Ex.mk op n u den ps [k0, k1]).sv] (sB (zae op u k0 k1 2 (decide (k1.unit = k0.unit)))) := by
 have hrows := zq [k0, k1]
 have hlen : (zd [k0, k1]).length = 2 := by rw [hrows]; rfl
 have h0 : (zd [k0, k1])[0]? = some k0.cells := by rw [hrows]; rfl
 have h1 : (zd [k0, k1])[1]? = some k1.cells := by rw [hrows]; rfl
 have hkl : [k0, k1].length = 2 := rfl
 generalize [k0, k1] = ks at hrows hlen h0 h1 hkl ⊢
 refine zc Tryz.func120 rfl (by rw [Tryz.ntmps120]; simp) rfl rfl ?_; intro E hH hK
 obtain ⟨o0, n0, u0, d0, p0, q0⟩ := k0
 obtain ⟨o1, n1, u1, d1, p1, q1⟩ := k1
 rw [yox _ _ _ _ _ hc] at hK
 (refine zi ?_; conv => whnf)
 refine zf rfl rfl  (row := (Ex.mk o0 n0 u0 d0 p0 q0).cells) h0 ?_
 (refine zj ?_; conv => whnf)
 refine zf rfl rfl  (row := (Ex.mk o1 n1 u1 d1 p1 q1).cells) h1 ?_
 (refine zj ?_; conv => whnf)
 refine zg [1, 3, 4, 5] ?_
 refine zp ks (fun i (_ : Unit) => [(1, .ptr 0 0), (3, sS u0), (4, sS u1), (5, sI i)]) (fun _ _ => [.cells [sI op, sI n, sS u, sI den, .imm (.isl 3 (ps.map Piece.cells)), .imm (.isl 6 (zd ks))]])
  (fun _ _ _ => True) () trivial ?_ ?_
 ·as_aux_lemma =>
   rintro _ _
   (refine zi ?_; conv => whnf)
   repeat' ((with_reducible refine way ?_ ?_) <;> (intro h; conv => whnf))
   all_goals try (exfalso; omega)
   all_goals exact hK _
 ·as_aux_lemma =>
   rintro done k rest _ ha hl _ ih
   have hw := zm (n := done.length) (by omega)
   (refine zi ?_; conv => whnf)
   repeat' ((with_reducible refine way ?_ ?_) <;> (intro h; conv => whnf))
   all_goals try (exfalso; omega)
   all_goals (rw [hw]; exact yq [1, 3, 4, 5] 1 (by simp [hH]) (by simp) rfl rfl (ih () trivial))
theorem zwg (op n : Int) (u : ByteArray) (den : Int) (ps : List Piece) (k0 k1 k2 : Ex) (kr : List Ex) (hsz : kr.length <= 100000) (hop : ¬ (op = 16 \/ op = 17)) :
  zw Tryz.prog G 120 [(Ex.mk op n u den ps (k0 :: k1 :: k2 :: kr)).sv] (sB false) := by
 have hrows := zq (k0 :: k1 :: k2 :: kr)
 have hlen : (zd (k0 :: k1 :: k2 :: kr)).length = kr.length + 3 := by rw [hrows]; simp
 have h0 : (zd (k0 :: k1 :: k2 :: kr))[0]? = some k0.cells := by rw [hrows]; rfl
 have h1 : (zd (k0 :: k1 :: k2 :: kr))[1]? = some k1.cells := by rw [hrows]; rfl
 have hkl : (k0 :: k1 :: k2 :: kr).length = kr.length + 3 := by simp
 generalize k0 :: k1 :: k2 :: kr = ks at hrows hlen h0 h1 hkl ⊢
 refine zc Tryz.func120 rfl (by rw [Tryz.ntmps120]; simp) rfl rfl ?_; intro E hH hK
 obtain ⟨o0, n0, u0, d0, p0, q0⟩ := k0
 obtain ⟨o1, n1, u1, d1, p1, q1⟩ := k1
 (refine zi ?_; conv => whnf)
 refine zf rfl rfl  (row := (Ex.mk o0 n0 u0 d0 p0 q0).cells) h0 ?_
 (refine zj ?_; conv => whnf)
 refine zf rfl rfl  (row := (Ex.mk o1 n1 u1 d1 p1 q1).cells) h1 ?_
 (refine zj ?_; conv => whnf)
 refine zg [1, 3, 4, 5] ?_
 refine zp ks (fun i (_ : Unit) => [(1, .ptr 0 0), (3, sS u0), (4, sS u1), (5, sI i)]) (fun _ _ => [.cells [sI op, sI n, sS u, sI den, .imm (.isl 3 (ps.map Piece.cells)), .imm (.isl 6 (zd ks))]])
  (fun _ _ _ => True) () trivial ?_ ?_
 ·as_aux_lemma =>
   rintro _ _
   (refine zi ?_; conv => whnf)
   repeat' ((with_reducible refine way ?_ ?_) <;> (intro h; conv => whnf))
   all_goals try (exfalso; omega)
   all_goals exact hK _
 ·as_aux_lemma =>
   rintro done k rest _ ha hl _ ih
   have hw := zm (n := done.length) (by omega)
   (refine zi ?_; conv => whnf)
   repeat' ((with_reducible refine way ?_ ?_) <;> (intro h; conv => whnf))
   all_goals try (exfalso; omega)
   all_goals (rw [hw]; exact yq [1, 3, 4, 5] 1 (by simp [hH]) (by simp) rfl rfl (ih () trivial))
theorem zwh (op n : Int) (u : ByteArray) (den : Int) (ps : List Piece) (k0 k1 : Ex) (kr : List Ex) (hsz : kr.length <= 100000) (hop : op = 16 \/ op = 17) :
  zw Tryz.prog G 120 [(Ex.mk op n u den ps (k0 :: k1 :: kr)).sv] (sB (zbn (k0 :: k1 :: kr) && (!decide (k0.unit = tT) && decide (u = k0.unit)))) := by
 have hrows := zq (k0 :: k1 :: kr)
 have hlen : (zd (k0 :: k1 :: kr)).length = kr.length + 2 := by rw [hrows]; simp
 have h0 : (zd (k0 :: k1 :: kr))[0]? = some k0.cells := by rw [hrows]; rfl
 have h1 : (zd (k0 :: k1 :: kr))[1]? = some k1.cells := by rw [hrows]; rfl
 have hkl : (k0 :: k1 :: kr).length = kr.length + 2 := by simp
 have hsm : zbn (k0 :: k1 :: kr) = (k0 :: k1 :: kr).all fun x => decide (x.unit = k0.unit) := rfl
 generalize k0 :: k1 :: kr = ks at hrows hlen h0 h1 hkl hsm ⊢
 refine zc Tryz.func120 rfl (by rw [Tryz.ntmps120]; simp) rfl rfl ?_; intro E hH hK
 obtain ⟨o0, n0, u0, d0, p0, q0⟩ := k0
 obtain ⟨o1, n1, u1, d1, p1, q1⟩ := k1
 replace hK : ∀ H', E.K (sB (zbn ks && (!decide (u0 = tT) && decide (u = u0)))) H' := hK
 (refine zi ?_; conv => whnf)
 refine zf rfl rfl  (row := (Ex.mk o0 n0 u0 d0 p0 q0).cells) h0 ?_
 (refine zj ?_; conv => whnf)
 refine zf rfl rfl  (row := (Ex.mk o1 n1 u1 d1 p1 q1).cells) h1 ?_
 (refine zj ?_; conv => whnf)
 refine zg [1, 3, 4, 5] ?_
 refine zp ks (fun i (_ : Unit) => [(1, .ptr 0 0), (3, sS u0), (4, sS u1), (5, sI i)]) (fun _ _ => [.cells [sI op, sI n, sS u, sI den, .imm (.isl 3 (ps.map Piece.cells)), .imm (.isl 6 (zd ks))]])
  (fun done rest _ => zbn ks = rest.all fun x => decide (x.unit = u0)) () hsm ?_ ?_
 ·as_aux_lemma =>
   rintro _ hs
   have hs' : zbn ks = true := by rw [hs]; rfl
   rw [hs', Bool.true_and] at hK
   (refine zi ?_; conv => whnf)
   repeat' ((with_reducible refine way ?_ ?_) <;> (intro h; conv => whnf))
   all_goals try (exfalso; omega)
   all_goals exact kB hK (by simp [tT, *])
 ·as_aux_lemma =>
   rintro done k rest _ ha hl hs ih
   have hw := zm (n := done.length) (by omega)
   have hrow : (zd ks)[((done.length : Nat) : Int).toNat]? = some k.cells := by rw [hrows]; simp [ha]
   obtain ⟨o2, n2, u2, d2, p2, q2⟩ := k
   have hs' : zbn ks = (decide (u2 = u0) && rest.all fun x => decide (x.unit = u0)) := hs
   have hbad : ¬ u2 = u0 -> (zbn ks && (!decide (u0 = tT) && decide (u = u0))) = false := fun h => by rw [hs', decide_eq_false h]; rfl
   (refine zi ?_; conv => whnf)
   repeat' ((with_reducible refine way ?_ ?_) <;> (intro h; conv => whnf))
   all_goals try (exfalso; omega)
   all_goals refine zf rfl rfl  (row := (Ex.mk o2 n2 u2 d2 p2 q2).cells) hrow ?_
   all_goals (refine zj ?_; conv => whnf)
   all_goals repeat' ((with_reducible refine way ?_ ?_) <;> (intro h; conv => whnf))
   all_goals first
    | exact kB hK (hbad (by assumption))
    | (rw [hw]; exact yq [1, 3, 4, 5] 1 (by simp [hH]) (by simp) rfl rfl (ih () (by rw [hs', decide_eq_true (by assumption)]; rfl)))
theorem ymq (op n : Int) (u : ByteArray) (den : Int) (ps : List Piece) (k0 k1 : Ex) (kr : List Ex) (hsz : kr.length <= 100000) :
  zw Tryz.prog G 120 [(Ex.mk op n u den ps (k0 :: k1 :: kr)).sv] (sB (zae op u k0 (((k0 :: k1 :: kr).getLast?).getD k0) (k0 :: k1 :: kr).length (zbn (k0 :: k1 :: kr)))) := by
 by_cases hop : op = 16 \/ op = 17
 ·have := zwh G op n u den ps k0 k1 kr hsz hop
  cases hs : zbn (k0 :: k1 :: kr) with
  | true =>
   rw [hs, Bool.true_and] at this
   have h2 : (2 : Int) <= ((k0 :: k1 :: kr).length : Nat) := by simp; omega
   rcases hop with rfl | rfl
   ·rw [ytn _ _ _ _ h2]; exact this
   ·rw [yto _ _ _ _ h2]; exact this
  | false =>
   rw [hs, Bool.false_and] at this
   have e : zae op u k0 (((k0 :: k1 :: kr).getLast?).getD k0) (k0 :: k1 :: kr).length false = false := by
    rcases hop with rfl | rfl <;> simp [zae]
   rw [e]; exact this
 ·cases kr with
  | cons k2 kr =>
   have e : zae op u k0 (((k0 :: k1 :: k2 :: kr).getLast?).getD k0) (k0 :: k1 :: k2 :: kr).length (zbn (k0 :: k1 :: k2 :: kr)) = false := by
    simp only [zae, if_neg hop]
    rw [decide_eq_false (p := (((k0 :: k1 :: k2 :: kr).length : Nat) : Int) = 2) (by simp; omega), decide_eq_false (p := (((k0 :: k1 :: k2 :: kr).length : Nat) : Int) = 1) (by simp; omega)]
    simp
   rw [e]
   exact zwg G op n u den ps k0 k1 k2 kr (by simp at hsz; omega) hop
  | nil =>
   have e1 : ([k0, k1].getLast?).getD k0 = k1 := rfl
   have e2 : (([k0, k1].length : Nat) : Int) = 2 := rfl
   have e3 : zbn [k0, k1] = decide (k1.unit = k0.unit) := by simp [zbn]
   rw [e1, e2, e3]
   have hc : op = 6 \/ op = 7 \/ op = 8 \/ op = 9 \/ op = 10 \/ op = 11 \/ op = 12 \/ op = 13 \/ op = 14 \/ op = 15 \/ (op < 6 \/ 17 < op) := by omega
   rcases hc with rfl | rfl | rfl | rfl | rfl | rfl | rfl | rfl | rfl | rfl | hc
   ·exact yhu G n u den ps k0 k1
   ·exact yhv G n u den ps k0 k1
   ·exact yhw G n u den ps k0 k1
   ·exact yhx G n u den ps k0 k1
   ·exact ycc G n u den ps k0 k1
   ·exact ycd G n u den ps k0 k1
   ·exact yce G n u den ps k0 k1
   ·exact ycf G n u den ps k0 k1
   ·exact ycg G n u den ps k0 k1
   ·exact ych G n u den ps k0 k1
   ·exact zwf G op n u den ps k0 k1 hc
def zhj (c : Codex) (op n : Int) (u : ByteArray) (den : Int) (ps : List Piece) (ks : List Ex) : Bool :=
 if op = 18 then decide (n = 0) && decide (ks.length = 1) && zem u && (match ks with | k :: _ => decide (u = k.unit) | [] => false) && jq den ps
 else if ¬ den = 0 \/ 0 < ps.length then false
 else if 1 <= op /\ op <= 4 then decide (ks.length = 0) && zac c op n u
 else decide (n = 0) && (match ks.head?, ks.getLast? with | some f, some l => zae op u f l ks.length (zbn ks) | _, _ => false)
mutual
def zfc (c : Codex) : Ex -> Bool
 | .mk op n u den ps ks => znq c ks && zhj c op n u den ps ks
def znq (c : Codex) : List Ex -> Bool
 | [] => true
 | k :: r => zfc c k && znq c r
end
theorem yhy (c : Codex) (ks : List Ex) : znq c ks = ks.all (zfc c) := by
 induction ks with
 | nil => rfl
 | cons k r ih => simp [znq, ih]
theorem zoh (c : Codex) (op n : Int) (u : ByteArray) (h : ¬ (1 <= op /\ op <= 4)) : zac c op n u = false := by
 simp only [zac]
 rw [if_neg (by omega), if_neg (by omega), if_neg (by omega), if_neg (by omega)]
theorem zzo (c : Codex) (op n : Int) (u : ByteArray) (den : Int) (ps : List Piece) :
  zhj c op n u den ps [] = if (¬ (1 <= op /\ op <= 4) /\ ¬ n = 0) \/ (¬ op = 18 /\ (¬ den = 0 \/ 0 < ps.length)) then false else zac c op n u := by
 simp only [zhj]
 by_cases h18 : op = 18
 ·subst h18
  rw [if_pos rfl, zoh c 18 n u (by omega)]
  simp
 ·rw [if_neg h18]
  by_cases hd : ¬ den = 0 \/ 0 < ps.length
  ·rw [if_pos hd, if_pos (.inr ⟨h18, hd⟩)]
  ·rw [if_neg hd]
   by_cases h4 : 1 <= op /\ op <= 4
   ·rw [if_pos h4, if_neg (by simp [h4, hd])]
    simp
   ·rw [if_neg h4, zoh c op n u h4]
    simp
theorem zzp (c : Codex) (op n : Int) (u : ByteArray) (den : Int) (ps : List Piece) (k : Ex) :
  zhj c op n u den ps [k] = if (¬ (1 <= op /\ op <= 4) /\ ¬ n = 0) \/ (¬ op = 18 /\ (¬ den = 0 \/ 0 < ps.length)) then false
   else (decide (op = 5) && decide (u = tT) && decide (k.unit = tT)) || (decide (op = 18) && decide (u = k.unit) && zem u && jq den ps) := by
 simp only [zhj]
 by_cases h18 : op = 18
 ·subst h18
  rw [if_pos rfl]
  by_cases hn : n = 0
  ·rw [if_neg (by simp [hn])]
   simp [hn]
   cases zem u <;> simp
  ·rw [if_pos (by left; exact ⟨by omega, hn⟩)]
   simp [hn]
 ·rw [if_neg h18]
  by_cases hd : ¬ den = 0 \/ 0 < ps.length
  ·rw [if_pos hd, if_pos (.inr ⟨h18, hd⟩)]
  ·rw [if_neg hd]
   by_cases h4 : 1 <= op /\ op <= 4
   ·rw [if_pos h4, if_neg (by simp [h4, hd])]
    have h5 : ¬ op = 5 := by omega
    simp [h18, h5]
   ·rw [if_neg h4]
    by_cases hn : n = 0
    ·rw [if_neg (by simp [hn, hd])]
     by_cases h5 : op = 5
     ·subst h5; simp [zae, hn]
     ·simp [zae, hn, h5, h18]
    ·rw [if_pos (.inl ⟨h4, hn⟩)]
     simp [hn]
theorem zud (c : Codex) (op n : Int) (u : ByteArray) (den : Int) (ps : List Piece) (k0 k1 : Ex) (kr : List Ex) :
  zhj c op n u den ps (k0 :: k1 :: kr) = if (¬ (1 <= op /\ op <= 4) /\ ¬ n = 0) \/ (¬ op = 18 /\ (¬ den = 0 \/ 0 < ps.length)) then false
   else zae op u k0 (((k0 :: k1 :: kr).getLast?).getD k0) (k0 :: k1 :: kr).length (zbn (k0 :: k1 :: kr)) := by
 have hno : op = 18 \/ (1 <= op /\ op <= 4) -> zae op u k0 (((k0 :: k1 :: kr).getLast?).getD k0) (k0 :: k1 :: kr).length (zbn (k0 :: k1 :: kr)) = false := fun h => by
  simp only [zae]
  rw [if_neg (by omega), if_neg (by omega), if_neg (by omega), if_neg (by omega), if_neg (by omega), if_neg (by omega), if_neg (by omega), if_neg (by omega), if_neg (by omega)]
 have hlast : ∃ l, (k0 :: k1 :: kr).getLast? = some l := ⟨_, List.getLast?_eq_some_getLast (by simp)⟩
 obtain ⟨l, hl⟩ := hlast
 simp only [zhj]
 by_cases h18 : op = 18
 ·rw [if_pos h18, hno (.inl h18)]
  simp
 ·rw [if_neg h18]
  by_cases hd : ¬ den = 0 \/ 0 < ps.length
  ·rw [if_pos hd, if_pos (.inr ⟨h18, hd⟩)]
  ·rw [if_neg hd]
   by_cases h4 : 1 <= op /\ op <= 4
   ·rw [if_pos h4, if_neg (by simp [h4, hd]), hno (.inr h4)]
    simp
   ·rw [if_neg h4]
    by_cases hn : n = 0
    ·rw [if_neg (by simp [hn, hd]), hl]
     simp [hn]
    ·rw [if_pos (.inl ⟨h4, hn⟩)]
     simp [hn]
theorem zzq (c : Codex) (hsz : c.arts.length <= 9223372036854775807) (N : Nat) : ∀ (e : Ex), SizeOf.sizeOf e < N -> xe e <= 1000 -> zw Tryz.prog G 84 [c.sv, e.sv] (sB (zfc c e)) := by
 induction N with
 | zero => intro e h; omega
 | succ N IH =>
 intro e he hs
 obtain ⟨op, n, u, den, ps, ks⟩ := e
 simp only [Ex.mk.sizeOf_spec] at he
 simp only [xe] at hs
 have hrows := zq ks
 have hlen : (zd ks).length = ks.length := by rw [hrows]; simp
 have hkl := zdz ks
 have hpl : (ps.map Piece.cells).length = ps.length := by simp
 have hfit : zfc c (.mk op n u den ps ks) = (ks.all (zfc c) && zhj c op n u den ps ks) := by simp only [zfc, yhy]
 rw [hfit]
 refine zc Tryz.func84 rfl (by rw [Tryz.ntmps84]; simp) rfl rfl ?_; intro E hH hK
 (refine zi ?_; conv => whnf)
 refine zg [2, 3, 5] ?_
 refine zp ks (fun i (_ : Unit) => [(2, .ptr 0 0), (3, .ptr 1 0), (5, sI i)])
  (fun _ _ => [.cells [.imm (zk c.facts), .imm (zk c.lines), .imm (ys c.arts)], .cells [sI op, sI n, sS u, sI den, .imm (.isl 3 (ps.map Piece.cells)), .imm (.isl 6 (zd ks))]])
  (fun done rest _ => ks.all (zfc c) = rest.all (zfc c)) () rfl ?_ ?_
 ·as_aux_lemma =>
   rintro _ h1
   have hall : ks.all (zfc c) = true := by rw [h1]; rfl
   rw [hall, Bool.true_and] at hK
   clear IH h1 hfit
   by_cases hbad : (¬ (1 <= op /\ op <= 4) /\ ¬ n = 0) \/ (¬ op = 18 /\ (¬ den = 0 \/ 0 < ps.length))
   ·have hr : zhj c op n u den ps ks = false := by
     match ks with
     | [] => rw [zzo, if_pos hbad]
     | [k] => rw [zzp, if_pos hbad]
     | k0 :: k1 :: kr => rw [zud, if_pos hbad]
    rw [hr] at hK
    as_aux_lemma =>
     (refine zi ?_; conv => whnf)
     repeat' ((with_reducible refine way ?_ ?_) <;> (intro h; first | (exfalso; omega) | (conv => whnf)))
     all_goals try (exfalso; omega)
     all_goals exact hK _
   ·match ks with
    | [] =>
     rw [zzo, if_neg hbad] at hK
     as_aux_lemma =>
      (refine zi ?_; conv => whnf)
      repeat' ((with_reducible refine way ?_ ?_) <;> (intro h; first | (exfalso; omega) | (conv => whnf)))
      all_goals try (exfalso; omega)
      all_goals refine ze rfl  (zzn G c op n u den ps [] hsz) ?_
      all_goals (refine zj ?_; conv => whnf)
      all_goals exact hK _
    | [k] =>
     rw [zzp, if_neg hbad] at hK
     obtain ⟨o0, n0, u0, d0, p0, q0⟩ := k
     replace hK : ∀ H', E.K (sB ((decide (op = 5) && decide (u = tT) && decide (u0 = tT)) || (decide (op = 18) && decide (u = u0) && zem u && jq den ps))) H' := hK
     have h0 : (zd [Ex.mk o0 n0 u0 d0 p0 q0])[0]? = some (Ex.mk o0 n0 u0 d0 p0 q0).cells := by rw [zq]; rfl
     have hlen1 : (zd [Ex.mk o0 n0 u0 d0 p0 q0]).length = 1 := by rw [zq]; rfl
     generalize zd [Ex.mk o0 n0 u0 d0 p0 q0] = rows at h0 hlen hlen1 ⊢
     by_cases h5 : op = 5
     ·subst h5
      replace hK : ∀ H', E.K (sB (decide (u = tT) && decide (u0 = tT))) H' := by simpa using hK
      as_aux_lemma =>
       (refine zi ?_; conv => whnf)
       repeat' ((with_reducible refine way ?_ ?_) <;> (intro h; first | (exfalso; omega) | (conv => whnf)))
       all_goals try (exfalso; omega)
       all_goals (refine yz mixed rfl ?_; refine zn [] ?_; conv => whnf)
       all_goals repeat' ((with_reducible refine way ?_ ?_) <;> (intro h; first | (exfalso; omega) | (conv => whnf)))
       all_goals try refine xt rfl rfl  (row := (Ex.mk o0 n0 u0 d0 p0 q0).cells) h0 ?_
       all_goals try (refine zn [] ?_; conv => whnf)
       all_goals try repeat' ((with_reducible refine way ?_ ?_) <;> (intro h; first | (exfalso; omega) | (conv => whnf)))
       all_goals try (refine zi ?_; conv => whnf)
       all_goals exact kB hK (by simp [tT, *])
     by_cases h18 : op = 18
     ·subst h18
      replace hK : ∀ H', E.K (sB (decide (u = u0) && zem u && jq den ps)) H' := by simpa using hK
      as_aux_lemma =>
       (refine zi ?_; conv => whnf)
       repeat' ((with_reducible refine way ?_ ?_) <;> (intro h; first | (exfalso; omega) | (conv => whnf)))
       all_goals try (exfalso; omega)
       (refine yz mixed rfl ?_; refine zn [] ?_; conv => whnf)
       refine xt rfl rfl  (row := (Ex.mk o0 n0 u0 d0 p0 q0).cells) h0 ?_
       (refine zn [] ?_; conv => whnf)
       repeat' ((with_reducible refine way ?_ ?_) <;> (intro h; first | (exfalso; omega) | (conv => whnf)))
       ·refine zad rfl  (zuz G u) ?_
        cases hc : zem u with
        | false =>
         (refine zn [] ?_; conv => whnf)
         (refine zi ?_; conv => whnf)
         exact kB hK (by simp [hc])
        | true =>
         (refine zn [] ?_; conv => whnf)
         refine zad rfl  (zva G den ps) ?_
         (refine zn [] ?_; conv => whnf)
         (refine zi ?_; conv => whnf)
         exact kB hK (by rw [hc, decide_eq_true h]; rfl)
       ·(refine zi ?_; conv => whnf)
        exact kB hK (by rw [decide_eq_false h]; rfl)
     ·replace hK : ∀ H', E.K (sB false) H' := by simpa [h5, h18] using hK
      as_aux_lemma =>
       (refine zi ?_; conv => whnf)
       repeat' ((with_reducible refine way ?_ ?_) <;> (intro h; first | (exfalso; omega) | (conv => whnf)))
       all_goals try (exfalso; omega)
       all_goals (refine yz mixed rfl ?_; refine zn [] ?_; conv => whnf)
       all_goals repeat' ((with_reducible refine way ?_ ?_) <;> (intro h; first | (exfalso; omega) | (conv => whnf)))
       all_goals try (exfalso; omega)
       all_goals (refine zi ?_; conv => whnf)
       all_goals exact hK _
    | k0 :: k1 :: kr =>
     rw [zud, if_neg hbad] at hK
     as_aux_lemma =>
      (refine zi ?_; conv => whnf)
      repeat' ((with_reducible refine way ?_ ?_) <;> (intro h; first | (exfalso; omega) | (conv => whnf)))
      all_goals try (exfalso; omega)
      all_goals refine ze rfl  (ymq G op n u den ps k0 k1 kr (by simp at hkl; omega)) ?_
      all_goals (refine zj ?_; conv => whnf)
      all_goals exact hK _
 ·as_aux_lemma =>
   rintro done k rest _ ha hl h1 ih
   have hkm : SizeOf.sizeOf k < SizeOf.sizeOf ks := List.sizeOf_lt_of_mem (by rw [ha]; simp)
   have hks : xe k <= ye ks := zql (by rw [ha]; simp)
   have hw := zm (n := done.length) (by omega)
   have hrow : (zd ks)[((done.length : Nat) : Int).toNat]? = some k.cells := by rw [hrows]; simp [ha]
   have hcall := IH k (by omega) (by omega)
   simp only [List.all_cons] at h1
   obtain ⟨o1, n1, u1, d1, p1, q1⟩ := k
   (refine zi ?_; conv => whnf)
   repeat' ((with_reducible refine way ?_ ?_) <;> (intro h; first | (exfalso; omega) | (conv => whnf)))
   all_goals try (exfalso; omega)
   (refine yz mixed rfl ?_; refine zn [] ?_; conv => whnf)
   refine xt rfl rfl  (row := (Ex.mk o1 n1 u1 d1 p1 q1).cells) hrow ?_
   (refine zn [] ?_; conv => whnf)
   refine zad rfl  hcall ?_
   cases hb : zfc c (.mk o1 n1 u1 d1 p1 q1) with
   | false =>
    (refine zn [] ?_; conv => whnf)
    (refine zi ?_; conv => whnf)
    exact kB hK (by rw [h1, hb]; rfl)
   | true =>
    (refine zn [] ?_; conv => whnf)
    (refine zi ?_; conv => whnf)
    rw [hw]
    exact yq [2, 3, 5] 2 (by simp [hH]) (by simp) rfl rfl (ih () (by rw [h1, hb]; rfl))
def wn (c : Codex) (e : Ex) : Bool := zci e && zfc c e
theorem zkb (c : Codex) (hsz : c.arts.length <= 9223372036854775807) (e : Ex) : zw Tryz.prog G 53 [c.sv, e.sv] (sB (wn c e)) := by
 have hw := zve G e
 have hf := fun h => zzq G c hsz (SizeOf.sizeOf e + 1) e (by omega) h
 have he : wn c e = (zci e && zfc c e) := rfl
 rw [he]
 have hsmall : zci e = true -> xe e <= 1000 := fun h => by simp [zci] at h; omega
 obtain ⟨op, n, u, den, ps, ks⟩ := e
 refine zc Tryz.func53 rfl (by rw [Tryz.ntmps53]; simp) rfl rfl ?_; intro E hH hK
 (refine zi ?_; conv => whnf)
 refine ze rfl  hw ?_
 cases hwi : zci (.mk op n u den ps ks) with
 | false =>
  (refine zj ?_; conv => whnf)
  exact kB hK (by rw [hwi]; rfl)
 | true =>
  (refine zj ?_; conv => whnf)
  refine ze rfl  (hf (hsmall hwi)) ?_
  (refine zj ?_; conv => whnf)
  exact kB hK (by rw [hwi]; rfl)
def zdb (c : Codex) (n : Int) : Int := match c.arts[(ji n c.arts 0).toNat]? with | some a => a.line | none => 0
def jf (c : Codex) (a : Article) : Bool :=
 decide (1 <= a.number /\ a.number <= 1000000 /\ 0 <= a.line /\ a.line < c.lines.length /\ a.line = zdb c a.number) && zap a && a.when_.all (fun e => wn c e && decide (e.unit = tT)) &&
 a.unless_.all (fun n => decide (0 <= ji n c.arts 0)) && (wn c a.amount && decide (a.amount.unit = zdj c a.line))
def zin (c : Codex) : Bool :=
 (qv 0 0 c.facts && decide (c.facts.length <= 32)) && (qv 1 4 c.lines && decide (c.lines.length <= 32)) && decide (c.arts.length <= 60) && c.arts.all (jf c)
theorem zzr (l : List Decl) (s : ByteArray) (hsz : l.length <= 9223372036854775807) : zw Tryz.prog G 82 [.imm (zk l), sS s] (sI (znt s l 0)) := by
 refine zc Tryz.func82 rfl (by rw [Tryz.ntmps82]; simp) rfl rfl ?_; intro E hH hK
 have hlen : (l.map Decl.cells).length = l.length := by simp
 (refine zi ?_; conv => whnf)
 refine zg [0, 1, 5] ?_
 refine zp l (fun i (_ : Unit) => [(0, .imm (zk l)), (1, sS s), (5, sI i)]) (fun _ _ => []) (fun done rest _ => znt s l 0 = znt s rest done.length) () rfl ?_ ?_
 ·rintro _ h1
  (refine zi ?_; conv => whnf)
  repeat' ((with_reducible refine way ?_ ?_) <;> (intro h; conv => whnf))
  all_goals try (exfalso; omega)
  exact kI hK (by rw [h1]; rfl)
 ·rintro done d rest _ ha hl h1 ih
  have hw := zm (n := done.length) (by omega)
  simp only [znt] at h1
  (refine zi ?_; conv => whnf)
  repeat' ((with_reducible refine way ?_ ?_) <;> (intro h; conv => whnf))
  all_goals try (exfalso; omega)
  refine zf rfl rfl  (row := d.cells) (by simp [ha]) ?_
  (refine zj ?_; conv => whnf)
  repeat' ((with_reducible refine way ?_ ?_) <;> (intro h; conv => whnf))
  ·exact kI hK (by rw [h1, if_pos h])
  ·rw [hw]; exact zg [0, 1, 5] (ih () (by rw [h1, if_neg h]; simp))
theorem zkc (l : List Decl) (lo hi : Int) (hsz : l.length <= 9223372036854775807) : zw Tryz.prog G 51 [.imm (zk l), sI lo, sI hi] (sB (qv lo hi l && decide (l.length <= 32))) := by
 refine zc Tryz.func51 rfl (by rw [Tryz.ntmps51]; simp) rfl rfl ?_; intro E hH hK
 have hlen : (l.map Decl.cells).length = l.length := by simp
 (refine zi ?_; conv => whnf)
 refine zg [0, 1, 2, 7] ?_
 refine zp l (fun i (_ : Unit) => [(0, .imm (zk l)), (1, sI lo), (2, sI hi), (7, sI i)]) (fun _ _ => [])
  (fun done _ _ => done.all (jr lo hi) = true /\ (done.map (·.name)).Nodup) () ⟨rfl, List.nodup_nil⟩ ?_ ?_
 ·rintro _ ⟨h1, h2⟩
  (refine zi ?_; conv => whnf)
  repeat' ((with_reducible refine way ?_ ?_) <;> (intro h; conv => whnf))
  all_goals try (exfalso; omega)
  exact kB hK (by simp only [qv, h1, h2]; simp; omega)
 ·rintro done d rest _ ha hl ⟨h1, h2⟩ ih
  have hw := zm (n := done.length) (by omega)
  have bad : jr lo hi d = false \/ d.name ∈ done.map (·.name) -> (qv lo hi l && decide (l.length <= 32)) = false := fun h => by rw [ha, zqj h]; rfl
  have next : jr lo hi d = true -> d.name ∉ done.map (·.name) -> _ := fun g1 g2 => ih () ⟨by simp [h1, g1], by
   rw [List.map_append, List.nodup_append]; exact ⟨h2, by simp, fun a ha b hb e => g2 (by simp at hb; rw [<- hb, <- e]; exact ha)⟩⟩
  have hix := zxp d.name done d rest 0 rfl
  rw [<- ha] at hix
  have hg : (l.map Decl.cells)[((done.length : Nat) : Int).toNat]? = some d.cells := by simp [ha]
  (refine zi ?_; conv => whnf)
  repeat' ((with_reducible refine way ?_ ?_) <;> (intro h; conv => whnf))
  all_goals try (exfalso; omega)
  refine zf rfl rfl  (row := d.cells) (by simp [ha]) ?_
  (refine zj ?_; conv => whnf)
  refine ze rfl  (zxn G d.name) ?_
  (refine zj ?_; conv => whnf)
  repeat' ((with_reducible refine way ?_ ?_) <;> (intro h; conv => whnf))
  any_goals exact kB hK (bad (.inl (by simp [jr, *])))
  refine zf rfl rfl  (row := d.cells) (by simp [ha]) ?_
  (refine zj ?_; conv => whnf)
  refine ze rfl  (zxl G d.unit) ?_
  (refine zj ?_; conv => whnf)
  repeat' ((with_reducible refine way ?_ ?_) <;> (intro h; conv => whnf))
  any_goals exact kB hK (bad (.inl (by simp [jr, *])))
  refine zf rfl rfl  (row := d.cells) (by simp [ha]) ?_
  (refine zj ?_; conv => whnf)
  repeat' ((with_reducible refine way ?_ ?_) <;> (intro h; conv => whnf))
  any_goals exact kB hK (bad (.inl (by simp [jr, *]; try omega)))
  refine zf rfl rfl  (row := d.cells) (by simp [ha]) ?_
  (refine zj ?_; conv => whnf)
  repeat' ((with_reducible refine way ?_ ?_) <;> (intro h; conv => whnf))
  any_goals exact kB hK (bad (.inl (by simp [jr, *]; try omega)))
  refine zf rfl rfl  (row := d.cells) (by simp [ha]) ?_
  (refine zj ?_; conv => whnf)
  refine ze rfl  (zzr G l d.name hsz) ?_
  (refine zj ?_; conv => whnf)
  repeat' ((with_reducible refine way ?_ ?_) <;> (intro h; conv => whnf))
  ·exact kB hK (bad (.inr (by
    rcases Classical.em (d.name ∈ done.map (·.name)) with h' | h'
    ·exact h'
    ·exact absurd (hix.2 h') (by simpa using h))))
  ·rw [hw]
   exact zg [0, 1, 2, 7] (next (by simp [jr, *]; omega) (hix.1 (by simpa using h)))
theorem zsk (c : Codex) (hsf : c.facts.length <= 9223372036854775807) (hsl : c.lines.length <= 9223372036854775807) (hsa : c.arts.length <= 9223372036854775807) (hart : Codex.fit c) : zw Tryz.prog G 21 [c.sv] (sB (zin c)) := by
 refine zc Tryz.func21 rfl (by rw [Tryz.ntmps21]; simp) rfl rfl ?_; intro E hH hK
 have hll : (c.lines.map Decl.cells).length = c.lines.length := by simp
 have hla : (c.arts.map Article.cells).length = c.arts.length := by simp
 (refine zi ?_; conv => whnf)
 refine ze rfl  (zkc G c.facts 0 0 (by omega)) ?_
 cases hd1 : (qv 0 0 c.facts && decide (c.facts.length <= 32)) with
 | false =>
  (refine zj ?_; conv => whnf)
  exact kB hK (by simp only [zin, hd1, Bool.false_and])
 | true =>
 (refine zj ?_; conv => whnf)
 refine ze rfl  (zkc G c.lines 1 4 (by omega)) ?_
 cases hd2 : (qv 1 4 c.lines && decide (c.lines.length <= 32)) with
 | false =>
  (refine zj ?_; conv => whnf)
  exact kB hK (by simp only [zin, hd1, hd2, Bool.and_false, Bool.false_and])
 | true =>
 (refine zj ?_; conv => whnf)
 repeat' ((with_reducible refine way ?_ ?_) <;> (intro h; first | (exfalso; omega) | (conv => whnf)))
 ·exact kB hK (by simp only [zin, hd1, hd2]; rw [decide_eq_false (by omega)]; rfl)
 have hok : zin c = c.arts.all (jf c) := by simp only [zin, hd1, hd2]; rw [decide_eq_true (by omega)]; rfl
 refine zg [1, 3] ?_
 refine zp c.arts (fun i (_ : Unit) => [(1, .ptr 0 0), (3, sI i)]) (fun _ _ => [.cells [.imm (zk c.facts), .imm (zk c.lines), .imm (ys c.arts)]])
  (fun done rest _ => c.arts.all (jf c) = rest.all (jf c)) () rfl ?_ ?_
 ·as_aux_lemma =>
   rintro _ h1
   (refine zi ?_; conv => whnf)
   repeat' ((with_reducible refine way ?_ ?_) <;> (intro h; first | (exfalso; omega) | (conv => whnf)))
   all_goals try (exfalso; omega)
   exact kB hK (by rw [hok, h1]; rfl)
 ·as_aux_lemma =>
   rintro done a rest _ ha hl hinv ih
   have hw := zm (n := done.length) (by omega)
   simp only [List.all_cons] at hinv
   obtain ⟨hun, hwn⟩ := hart a (by rw [ha]; simp)
   obtain ⟨op, n, u, den, ps, ks, ham⟩ : ∃ op n u den ps ks, a.amount = .mk op n u den ps ks := by cases h : a.amount; exact ⟨_, _, _, _, _, _, rfl⟩
   have hrow : (c.arts.map Article.cells)[((done.length : Nat) : Int).toNat]? = some [dI a.number, dI a.line, dI a.rank, dI a.lo, dI a.hi, dI a.known, yl a.when_, zl a.unless_, dI op, dI n, dS u, dI den, .isl 3 (ps.map Piece.cells), .isl 6 (zd ks)] := by
    simp [ha, Article.cells, ham, zq, Ex.op, Ex.n, Ex.unit, Ex.den, Ex.pieces, Ex.kids]
   have hwl : (a.when_.map Ex.cells).length = a.when_.length := by simp
   have hul : (a.unless_.map fun n => [dI n]).length = a.unless_.length := by simp
   have bad : jf c a = false -> zin c = false := fun h => by rw [hok, hinv, h]; rfl
   have bad1 : ¬ (1 <= a.number /\ a.number <= 1000000 /\ 0 <= a.line /\ a.line < c.lines.length /\ a.line = zdb c a.number) -> zin c = false := fun h => bad (by simp only [jf]; rw [decide_eq_false h]; rfl)
   have bad2 : zap a = false -> zin c = false := fun h => bad (by simp only [jf, h, Bool.and_false, Bool.false_and])
   obtain ⟨b, hb1, hb2⟩ : ∃ b, c.arts[(ji a.number c.arts 0).toNat]? = some b /\ 0 <= ji a.number c.arts 0 := by
    rcases zkz a.number c.arts 0 with h | ⟨g1, g2, x, g3, g4⟩
    ·exact absurd rfl ((znp a.number c.arts 0).1 h a (by rw [ha]; simp))
    ·exact ⟨x, by simpa using g3, by simpa using g1⟩
   have hfl : zdb c a.number = b.line := by simp only [zdb, hb1]
   have hnum := zha G c a.number (by omega)
   generalize hix : ji a.number c.arts 0 = ix at hb1 hb2 hnum
   (refine zi ?_; conv => whnf)
   repeat' ((with_reducible refine way ?_ ?_) <;> (intro h; first | (exfalso; omega) | (conv => whnf)))
   all_goals try (exfalso; omega)
   refine zf rfl rfl  (row := [dI a.number, dI a.line, dI a.rank, dI a.lo, dI a.hi, dI a.known, yl a.when_, zl a.unless_, dI op, dI n, dS u, dI den, .isl 3 (ps.map Piece.cells), .isl 6 (zd ks)]) hrow ?_
   (refine zj ?_; conv => whnf)
   by_cases hg1 : 1 <= a.number /\ a.number <= 1000000 /\ 0 <= a.line /\ a.line < c.lines.length
   ·(refine yz mixed rfl ?_; refine zn [] ?_; conv => whnf)
    repeat' ((with_reducible refine way ?_ ?_) <;> (intro h; first | (exfalso; omega) | (conv => whnf)))
    all_goals try (exfalso; omega)
    refine zad rfl  hnum ?_
    (refine zn [] ?_; conv => whnf)
    refine xt rfl (i := ix.toNat) (by omega) (row := b.cells) (by simp [hb1]) ?_
    by_cases hline : a.line = b.line
    rotate_left
    ·(refine zn [] ?_; conv => whnf)
     repeat' ((with_reducible refine way ?_ ?_) <;> (intro h; first | (exfalso; omega) | (conv => whnf)))
     all_goals (refine zi ?_; conv => whnf)
     all_goals exact kB hK (bad1 (fun hc => hline (by rw [<- hfl]; exact hc.2.2.2.2)))
    (refine zn [] ?_; conv => whnf)
    repeat' ((with_reducible refine way ?_ ?_) <;> (intro h; first | (exfalso; omega) | (conv => whnf)))
    all_goals (refine zi ?_; conv => whnf)
    all_goals repeat' ((with_reducible refine way ?_ ?_) <;> (intro h; first | (exfalso; omega) | (conv => whnf)))
    all_goals try exact kB hK (bad2 (by simp [zap]; intros; omega))
    have hhead : zap a = true := by simp [zap]; omega
    have hone : decide (1 <= a.number /\ a.number <= 1000000 /\ 0 <= a.line /\ a.line < c.lines.length /\ a.line = zdb c a.number) = true := decide_eq_true ⟨hg1.1, hg1.2.1, hg1.2.2.1, hg1.2.2.2, by rw [hfl]; exact hline⟩
    have hart2 : jf c a = (a.when_.all (fun e => wn c e && decide (e.unit = tT)) && a.unless_.all (fun n => decide (0 <= ji n c.arts 0)) && (wn c a.amount && decide (a.amount.unit = zdj c a.line))) := by
     simp only [jf, hone, hhead, Bool.true_and]
    clear hnum bad1 bad2 hone hhead
    refine zg [1, 3, 4, 5] ?_
    refine zp a.when_ (fun i (_ : Unit) => [(1, .ptr 0 0), (3, sI done.length), (4, .ptr 1 0), (5, sI i)])
     (fun _ _ => [.cells [.imm (zk c.facts), .imm (zk c.lines), .imm (ys c.arts)], .cells (zkl a op n u den ps ks)])
     (fun done rest _ => a.when_.all (fun e => wn c e && decide (e.unit = tT)) = rest.all (fun e => wn c e && decide (e.unit = tT))) () rfl ?_ ?_
    ·as_aux_lemma =>
      rintro _ hwh
      have hwt : a.when_.all (fun e => wn c e && decide (e.unit = tT)) = true := by rw [hwh]; rfl
      rw [hwt, Bool.true_and] at hart2
      (refine zi ?_; conv => whnf)
      repeat' ((with_reducible refine way ?_ ?_) <;> (intro h; first | (exfalso; omega) | (conv => whnf)))
      all_goals try (exfalso; omega)
      refine zg [1, 3, 4, 6] ?_
      refine zp a.unless_ (fun i (_ : Unit) => [(1, .ptr 0 0), (3, sI done.length), (4, .ptr 1 0), (6, sI i)])
       (fun _ _ => [.cells [.imm (zk c.facts), .imm (zk c.lines), .imm (ys c.arts)], .cells (zkl a op n u den ps ks)])
       (fun done rest _ => a.unless_.all (fun n => decide (0 <= ji n c.arts 0)) = rest.all (fun n => decide (0 <= ji n c.arts 0))) () rfl ?_ ?_
      ·as_aux_lemma =>
        rintro _ huh
        have hut : a.unless_.all (fun n => decide (0 <= ji n c.arts 0)) = true := by rw [huh]; rfl
        rw [hut, Bool.true_and, ham] at hart2
        obtain ⟨d, hd⟩ : ∃ d, c.lines[a.line.toNat]? = some d := ⟨c.lines[a.line.toNat]'(by omega), List.getElem?_eq_getElem _⟩
        have hlu : zdj c a.line = d.unit := by simp only [zdj, hd]
        rw [hlu] at hart2
        replace hart2 : jf c a = (wn c (.mk op n u den ps ks) && decide (u = d.unit)) := hart2
        have hfit := zkb G c (by omega) (.mk op n u den ps ks)
        (refine zi ?_; conv => whnf)
        repeat' ((with_reducible refine way ?_ ?_) <;> (intro h; first | (exfalso; omega) | (conv => whnf)))
        all_goals try (exfalso; omega)
        (refine yz mixed rfl ?_; refine zn [] ?_; conv => whnf)
        refine zad rfl  hfit ?_
        cases hf : wn c (.mk op n u den ps ks) with
        | false =>
         (refine zn [] ?_; conv => whnf)
         (refine zi ?_; conv => whnf)
         exact kB hK (bad (by rw [hart2, hf]; rfl))
        | true =>
         (refine zn [] ?_; conv => whnf)
         refine xt rfl (i := a.line.toNat) (by omega) (row := d.cells) (by simp [hd]) ?_
         (refine zn [] ?_; conv => whnf)
         (refine zi ?_; conv => whnf)
         repeat' ((with_reducible refine way ?_ ?_) <;> (intro h; first | (exfalso; omega) | (conv => whnf)))
         ·exact kB hK (bad (by rw [hart2, hf, decide_eq_false h]; rfl))
         ·rw [hw]
          exact yq [1, 3] 1 (by simp [hH]) (by simp) rfl rfl (ih () (by rw [hinv, hart2, hf, decide_eq_true h]; rfl))
      ·as_aux_lemma =>
        rintro d3 x r3 _ ha3 hl3 h3 ih3
        have hw3 := zm (n := d3.length) (by omega)
        simp only [List.all_cons] at h3
        (refine zi ?_; conv => whnf)
        repeat' ((with_reducible refine way ?_ ?_) <;> (intro h; first | (exfalso; omega) | (conv => whnf)))
        all_goals try (exfalso; omega)
        (refine yz mixed rfl ?_; refine zn [] ?_; conv => whnf)
        refine xt rfl rfl  (row := [dI x]) (by simp [ha3]) ?_
        (refine zn [] ?_; conv => whnf)
        refine zad rfl  (zha G c x (by omega)) ?_
        (refine zn [] ?_; conv => whnf)
        (refine zi ?_; conv => whnf)
        repeat' ((with_reducible refine way ?_ ?_) <;> (intro h; first | (exfalso; omega) | (conv => whnf)))
        ·exact kB hK (bad (by rw [hart2, h3, decide_eq_false (by omega)]; rfl))
        ·rw [hw3]
         exact yq [1, 3, 4, 6] 2 (by simp [hH]) (by simp) rfl rfl (ih3 () (by rw [h3, decide_eq_true (by omega)]; rfl))
    ·as_aux_lemma =>
      rintro d2 e r2 _ ha2 hl2 h2 ih2
      have hw2 := zm (n := d2.length) (by omega)
      simp only [List.all_cons] at h2
      have hfit := zkb G c (by omega) e
      obtain ⟨o1, n1, u1, d1, p1, q1⟩ := e
      replace h2 : a.when_.all (fun e => wn c e && decide (e.unit = tT)) = ((wn c (.mk o1 n1 u1 d1 p1 q1) && decide (u1 = tT)) && r2.all (fun e => wn c e && decide (e.unit = tT))) := h2
      (refine zi ?_; conv => whnf)
      repeat' ((with_reducible refine way ?_ ?_) <;> (intro h; first | (exfalso; omega) | (conv => whnf)))
      all_goals try (exfalso; omega)
      (refine yz mixed rfl ?_; refine zn [] ?_; conv => whnf)
      refine xt rfl rfl  (row := (Ex.mk o1 n1 u1 d1 p1 q1).cells) (by simp [ha2]) ?_
      (refine zn [] ?_; conv => whnf)
      refine zad rfl  hfit ?_
      cases hf : wn c (.mk o1 n1 u1 d1 p1 q1) with
      | false =>
       (refine zn [] ?_; conv => whnf)
       (refine zi ?_; conv => whnf)
       exact kB hK (bad (by rw [hart2, h2, hf]; rfl))
      | true =>
       (refine zn [] ?_; conv => whnf)
       refine xt rfl rfl  (row := (Ex.mk o1 n1 u1 d1 p1 q1).cells) (by simp [ha2]) ?_
       (refine zn [] ?_; conv => whnf)
       (refine zi ?_; conv => whnf)
       repeat' ((with_reducible refine way ?_ ?_) <;> (intro h; first | (exfalso; omega) | (conv => whnf)))
       ·exact kB hK (bad (by rw [hart2, h2, hf, decide_eq_false (by exact h)]; rfl))
       ·rw [hw2]
        exact yq [1, 3, 4, 5] 2 (by simp [hH]) (by simp) rfl rfl (ih2 () (by rw [h2, hf, decide_eq_true (by exact h)]; rfl))
   ·(refine yz mixed rfl ?_; refine zn [] ?_; conv => whnf)
    repeat' ((with_reducible refine way ?_ ?_) <;> (intro h; first | (exfalso; omega) | (conv => whnf)))
    all_goals try (exfalso; omega)
    all_goals try (refine zi ?_; conv => whnf)
    all_goals exact kB hK (bad1 (fun hc => hg1 ⟨hc.1, hc.2.1, hc.2.2.1, hc.2.2.2.1⟩))
end Go.Proofs.YtblpjknmhajcgaaGreatDoor