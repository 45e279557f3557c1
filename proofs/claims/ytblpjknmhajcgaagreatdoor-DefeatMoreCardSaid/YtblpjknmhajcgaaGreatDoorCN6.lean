/- Contracts of functions of the program, joined from TQb, TQc, TBf, TQd, TEe, TEg, TEf, TEh, TDa, TDb, TCa, TCb, TBg, TCd, THb, TDc, TEi, THc, THd, THe, THf, TVa, THp, TDd, TSh48, TEj, TQe, TDe, TQf: no condition. -/
import Derived.Test.YtblpjknmhajcgaaGreatDoorCN5
set_option linter.unusedSimpArgs false
set_option linter.unusedVariables false
set_option maxRecDepth 10000
set_option maxHeartbeats 8000000
namespace Go.Proofs.YtblpjknmhajcgaaGreatDoor
open Go Go.Sh
def zly (v : Int) (l : List Int) (r : Int) : Int := l.foldl (fun r x => if x <= v /\ r < x then x else r) r
theorem zec (v : Int) : ∀ (l : List Int) (r : Int), r <= v -> r <= zly v l r /\ zly v l r <= v /\ (zly v l r = r \/ zly v l r ∈ l) /\ ∀ x ∈ l, x <= v -> x <= zly v l r
 | [], r, h => ⟨Int.le_refl _, h, .inl rfl, fun x hx => by cases hx⟩
 | y :: l, r, h => by
  have e : zly v (y :: l) r = zly v l (if y <= v /\ r < y then y else r) := rfl
  rw [e]
  by_cases hy : y <= v /\ r < y
  ·rw [if_pos hy]
   obtain ⟨a, b, d, g⟩ := zec v l y hy.1
   refine ⟨by omega, b, .inr ?_, fun x hx hv => ?_⟩
   ·rcases d with d | d
    ·rw [d]; simp
    ·simp [d]
   ·rcases List.mem_cons.1 hx with rfl | hx
    ·exact a
    ·exact g x hx hv
  ·rw [if_neg hy]
   obtain ⟨a, b, d, g⟩ := zec v l r h
   refine ⟨a, b, d.imp id fun d => by simp [d], fun x hx hv => ?_⟩
   rcases List.mem_cons.1 hx with rfl | hx
   ·omega
   ·exact g x hx hv
def ymw (nf : Nat) (q : Sr) (v : List Int) : List Int := (List.range nf).map fun (i : Nat) => zly (v.getD i 0) (zci q i) 0
theorem zpc (nf : Nat) (q : Sr) (v : List Int) (i : Nat) : (ymw nf q v).getD i 0 = if i < nf then zly (v.getD i 0) (zci q i) 0 else 0 := by
 unfold ymw
 rw [List.getD_eq_getElem?_getD, List.getElem?_map]
 by_cases h : i < nf
 ·rw [if_pos h, List.getElem?_range h]; rfl
 ·rw [if_neg h, List.getElem?_eq_none (by simp; omega)]; rfl
theorem yrw {op v v' n : Int} (h : v' <= v) (h1 : n <= v -> n <= v') (h2 : n + 1 <= v -> n + 1 <= v') : zsh op v' n = zsh op v n /\ zsh op n v' = zsh op n v := by
 unfold zsh
 constructor
 ·split
  ·rw [decide_eq_decide]; omega
  ·split
   ·rw [decide_eq_decide]; omega
   ·rw [decide_eq_decide]; omega
 ·split
  ·rw [decide_eq_decide]; omega
  ·split
   ·rw [decide_eq_decide]; omega
   ·rw [decide_eq_decide]; omega
theorem zto {p : zgh} {vs : List Int} {e : Ex} (h : e.op = 2) : zfk p vs e = vs.getD e.n.toNat 0 := by unfold zfk; rw [if_pos h]
theorem zrn {p : zgh} {vs : List Int} {e : Ex} (h : e.op = 1) : zfk p vs e = e.n := by unfold zfk; rw [if_neg (by omega), if_neg (by omega)]
theorem ztp {p : zgh} {vs vs' : List Int} {e : Ex} (h : e.op ≠ 2) : zfk p vs e = zfk p vs' e := by unfold zfk; rw [if_neg h, if_neg h]
theorem zgr {c : Codex} {m : List (Int × Int)} {p : zgh} {vs vs' : List Int} (h0 : ∀ i : Nat, 0 <= vs'.getD i 0 /\ vs'.getD i 0 <= vs.getD i 0) (hT : ∀ i : Nat, zon c i = true -> vs.getD i 0 <= 1) :
  ∀ (N : Nat) (e : Ex), SizeOf.sizeOf e < N -> zfp c m e -> e.unit = tT -> simpE c e = true -> (∀ (f : Nat) x, cE c f x e -> x <= vs.getD f 0 -> x <= vs'.getD f 0) -> holdsE p vs' e = holdsE p vs e
 | 0, _, h, _, _, _, _ => by omega
 | N + 1, .mk op n u den ps ks, hN, h, hu, hs, hc => by
  simp only [Ex.mk.sizeOf_spec] at hN
  have hu : u = tT := hu
  cases zpb h hu with
  | const h1 hk hu =>
   subst h1 hk
   unfold holdsE
   rfl
  | fact h1 hk hr ht =>
   subst h1 hk
   obtain ⟨i, rfl⟩ : ∃ i : Nat, n = i := ⟨n.toNat, by omega⟩
   have h3 := hc i 1 (by unfold cE; exact .inl ⟨rfl, rfl, .inr ⟨ht, rfl⟩⟩)
   have h4 := h0 i
   have e1 : ∀ w : List Int, holdsE p w (.mk 2 (i : Int) u den ps []) = !decide (w.getD i 0 = 0) := fun w => by unfold holdsE; rfl
   rw [e1, e1]
   congr 1
   rw [decide_eq_decide]
   omega
  | neg k h1 hk hka hku =>
   subst h1 hk
   simp only [List.cons.sizeOf_spec] at hN
   have hsk : simpE c k = true := by
    rw [simpE.eq_def] at hs
    simpa only [show ¬ (5 : Int) = 1 by decide, show ¬ (5 : Int) = 2 by decide, if_false, if_true] using hs
   have := zgr (p := p) h0 hT N k (by omega) hka hku hsk (fun f x hx => hc f x (by rw [cE.eq_def]; exact .inr hx))
   rw [holdsE.eq_def, holdsE.eq_def p vs]
   simp only [if_true]
   rw [this]
  | conn k l h1 hk hka hla hku hlu =>
   subst hk
   simp only [List.cons.sizeOf_spec] at hN
   have hsE : simpE c (.mk op n u den ps [k, l]) = (simpE c k && simpE c l) := by
    rw [simpE.eq_def]
    simp only
    rw [if_neg (by omega), if_neg (by omega), if_neg (by omega), if_pos h1]
   rw [hsE, Bool.and_eq_true] at hs
   have g1 := zgr (p := p) h0 hT N k (by omega) hka hku hs.1 (fun f x hx => hc f x (by rw [cE.eq_def]; exact .inr (.inl hx)))
   have g2 := zgr (p := p) h0 hT N l (by omega) hla hlu hs.2 (fun f x hx => hc f x (by rw [cE.eq_def]; exact .inr (.inr (.inl hx))))
   rw [holdsE.eq_def, holdsE.eq_def p vs]
   simp only
   rw [g1, g2]
   rcases h1 with rfl | rfl <;> rfl
  | cmp k l h1 hk hka hla =>
   subst hk
   rw [zlx h1] at hs
   simp only [Bool.and_eq_true, Bool.or_eq_true, decide_eq_true_eq] at hs
   have hlk := zgq hka (zjc hs.1.1)
   have hll := zgq hla (zjc hs.1.2)
   have hce : zob op = true := by unfold zob; rcases h1 with rfl | rfl | rfl <;> rfl
   rw [znd h1, znd h1]
   have key : ∀ a b : Ex, LeafE c a -> a.op = 2 -> b.op = 1 -> (∀ (f : Nat) x, cE c f x a -> x <= vs.getD f 0 -> x <= vs'.getD f 0) -> (∀ (f : Nat) x, cP c f x a b -> x <= vs.getD f 0 -> x <= vs'.getD f 0) ->
     zsh op (zfk p vs' a) (zfk p vs' b) = zsh op (zfk p vs a) (zfk p vs b) /\ zsh op (zfk p vs' b) (zfk p vs' a) = zsh op (zfk p vs b) (zfk p vs a) := by
    intro a b ha ha2 hb1 hx hy
    rw [zto ha2, zto ha2, zrn hb1, zrn hb1]
    obtain ⟨i, hi⟩ : ∃ i : Nat, a.n = i := ⟨a.n.toNat, by have := ha.k2 ha2; omega⟩
    rw [show a.n.toNat = i by omega]
    have h3 := h0 i
    cases ht : zon c i with
    | true =>
     have h4 := hT i ht
     have h5 := hx i 1 ((zrj ha).2 ⟨ha2, hi, .inr ⟨ht, rfl⟩⟩)
     rw [show vs'.getD i 0 = vs.getD i 0 by omega]
     exact ⟨rfl, rfl⟩
    | false =>
     exact yrw h3.2 (hy i _ ⟨ha2, hi, hb1, ht, .inl rfl⟩) (hy i _ ⟨ha2, hi, hb1, ht, .inr rfl⟩)
   by_cases hk2 : k.op = 2
   ·exact (key k l hlk hk2 (by omega) (fun f x hx => hc f x (by rw [cE.eq_def]; exact .inr (.inl hx))) (fun f x hx => hc f x (by rw [cE.eq_def]; exact .inr (.inr (.inr ⟨hce, .inl hx⟩))))).1
   ·by_cases hl2 : l.op = 2
    ·exact (key l k hll hl2 (by omega) (fun f x hx => hc f x (by rw [cE.eq_def]; exact .inr (.inr (.inl hx)))) (fun f x hx => hc f x (by rw [cE.eq_def]; exact .inr (.inr (.inr ⟨hce, .inr hx⟩))))).2
    ·rw [ztp (vs' := vs) hk2, ztp (vs' := vs) hl2]
  | other h1 h2 h3 h4 h5 =>
   exfalso
   unfold simpE at hs
   rw [if_neg h1, if_neg h2, if_neg h3, if_neg h4] at hs
   have hce : zob op = false := by unfold zob; simp; omega
   split at hs
   ·simp [hce] at hs
   ·cases hs
theorem zzc {v v' w : List Int} (h : ∀ i : Nat, v'.getD i 0 <= v.getD i 0) : ∀ fs : List Int, zmx fs v w = true -> zmx fs v' w = true
 | [], hl => by cases hl
 | f :: r, hl => by
  simp only [zmx] at hl ⊢
  have := h f.toNat
  by_cases e : v.getD f.toNat 0 = w.getD f.toNat 0
  ·rw [if_neg (by omega)] at hl
   by_cases e' : v'.getD f.toNat 0 = w.getD f.toNat 0
   ·rw [if_neg (by omega)]; exact zzc h r hl
   ·rw [if_pos e']; exact decide_eq_true (by omega)
  ·rw [if_pos e] at hl
   have := of_decide_eq_true hl
   rw [if_pos (by omega)]; exact decide_eq_true (by omega)
theorem zbq {c : Codex} (h : zq c = true) : ∃ m, zny m /\ ∀ a ∈ c.arts, ∀ e ∈ a.when_, zzb c m e := by
 unfold zq at h
 simp only [Bool.and_eq_true, decide_eq_true_eq] at h
 obtain ⟨_, h6⟩ := h
 cases hl : wn c.lines.length c.arts [] with
 | none => rw [hl] at h6; cases h6
 | some m =>
  rw [hl] at h6
  simp only [List.all_eq_true] at h6
  refine ⟨m, zhz _ _ _ _ hl (fun k v h => by cases h), fun a ha e he => ?_⟩
  have := h6 a ha
  unfold zkb at this
  simp only [Bool.and_eq_true, List.all_eq_true] at this
  have hw := this.1.2 e he
  refine ⟨(zra hw).1, ?_⟩
  unfold qd at hw
  split at hw
  ·assumption
  ·cases hw
theorem ztq {vs : List Int} {v : Int} (h : v ∈ zr vs) : v ∈ vs := (List.mergeSort_perm vs fun x y => decide (x <= y)).mem_iff.1 (zgl h)
theorem zfl (c : Codex) : ∀ (vs : List Int) (r : Int × Int), r.1 <= (vs.foldl (js c) r).1 /\ (vs.foldl (js c) r).2 <= r.2
 | [], r => ⟨Int.le_refl _, Int.le_refl _⟩
 | v :: vs, r => by
  rw [List.foldl_cons]
  have := zfl c vs (js c r v)
  have h2 : r.1 <= (js c r v).1 /\ (js c r v).2 <= r.2 := by
   unfold js
   split
   ·constructor <;> simp only <;> omega
   ·exact ⟨Int.le_refl _, Int.le_refl _⟩
  omega
theorem zne {c : Codex} (h : zq c = true) (hF : c.facts.length <= 12) {vs : List Int} (hv : ∀ v ∈ vs, 0 <= v /\ v < c.arts.length) :
  (zag c (zr vs) sr0).isSome = (xl c (zr vs)).all (simpE c) /\ ∀ q, zag c (zr vs) sr0 = some q -> RefOK c q (xl c (zr vs)) := by
 obtain ⟨m, hm, hc⟩ := zbq h
 have := yek hm hF hc (zr vs) [] sr0 (fun v hvv => hv v (ztq hvv)) (yvy c)
 simpa using this
def ybm (c : Codex) (v : List Int) : Prop := ∀ i : Nat, 0 <= v.getD i 0 /\ (zon c i = true -> v.getD i 0 <= 1)
theorem ylv {nf : Nat} {q : Sr} {k : Nat} (hq : CFull nf q k) (hz : zrk q) {v : List Int} (h0 : ∀ i : Nat, 0 <= v.getD i 0) : zgj q nf (ymw nf q v) := by
 refine ⟨by simp [ymw, st0], fun e he => ?_, fun i hi => ?_⟩
 ·obtain ⟨f, hf, rfl⟩ := List.mem_map.1 he
  obtain ⟨e, hee, rfl⟩ := List.mem_map.1 (zbp.1 hf)
  have hr := hq.inv.rng e hee
  have hl := zbm hq.inv.nd hee
  show (ymw nf q v).getD e.1.toNat 0 ∈ zdk ((zo e.1 q.cands).getD [])
  rw [zbp, hl, zpc, if_pos (by omega)]
  have hc : zci q (e.1.toNat : Int) = e.2 := by unfold zci; rw [Int.toNat_of_nonneg hr.1, hl]; rfl
  rw [hc]
  obtain ⟨_, _, d, _⟩ := zec (v.getD e.1.toNat 0) e.2 0 (h0 _)
  rcases d with d | d
  ·rw [d]; exact hz e hee
  ·exact d
 ·have hz' : (st0 nf 0).vs.getD i 0 = 0 := by
   simp only [st0, List.getD_eq_getElem?_getD, List.getElem?_replicate]
   split <;> rfl
  rw [hz', zpc]
  split
  ·have hn : zo (i : Int) q.cands = none := by
    cases hl : zo (i : Int) q.cands with
    | none => rfl
    | some w =>
     exfalso
     have hm := zcf hl
     refine hi (_, _) (List.mem_map.2 ⟨(i : Int), zbp.2 (List.mem_map.2 ⟨_, hm, rfl⟩), rfl⟩) ?_
     simp
   unfold zci
   rw [hn]
   rfl
  ·rfl
theorem ybn {c : Codex} (h : zq c = true) (hF : c.facts.length <= 12) (hw : ∀ a ∈ c.arts, a.when_.length <= 41) {vs : List Int} (hv : ∀ v ∈ vs, 0 <= v /\ v < c.arts.length) {q : Sr} (hq : xc c vs = some q) :
  (∀ w, qw c (zr vs) q = some w -> (yj c (zr vs)).1 <= w.day /\ w.day < (yj c (zr vs)).2 /\ w.value.length = c.facts.length /\ w.has = ((List.range c.facts.length).map fun (i : Nat) => (zo (i : Int) q.cands).isSome) /\ w.arts = zr vs /\
   (∀ e ∈ xl c (zr vs), holdsE (xe w.day) w.value e = true) /\ zgj q c.facts.length w.value /\
   ∀ d v, (yj c (zr vs)).1 <= d -> d < (yj c (zr vs)).2 -> ybm c v -> (∀ e ∈ xl c (zr vs), holdsE (xe d) v e = true) -> w.day <= d /\ (w.day = d -> zmx (zht q) v w.value = false)) /\
  (qw c (zr vs) q = none -> ∀ d v, (yj c (zr vs)).1 <= d -> d < (yj c (zr vs)).2 -> ybm c v -> ¬ ∀ e ∈ xl c (zr vs), holdsE (xe d) v e = true) := by
 obtain ⟨hfull, hgo⟩ := zgo h hF hw hv hq
 obtain ⟨hs1, hs2⟩ := zne h hF hv
 have hR := hs2 q hgo
 rw [hgo] at hs1
 have hsimp : ∀ e ∈ xl c (zr vs), simpE c e = true := List.all_eq_true.1 hs1.symm
 obtain ⟨m, hm, hc⟩ := zbq h
 have hN : ∀ e ∈ xl c (zr vs), zzb c m e := fun e he => by
  unfold xl at he
  obtain ⟨v, hvv, he⟩ := List.mem_flatMap.1 he
  unfold zlv at he
  cases ha : qf c v with
  | none => rw [ha] at he; cases he
  | some a => rw [ha] at he; exact hc a (zfh ha) e he
 have hfw := zfl c (zr vs) (0, 36525)
 have hfr : (zr vs).foldl (js c) (0, 36525) = yj c (zr vs) := rfl
 rw [hfr] at hfw
 simp only at hfw
 obtain ⟨w1, w2⟩ := ykm (ylt hfull) hR.dates hfw.1 hfw.2
 have low : ∀ d v, ybm c v -> (∀ e ∈ xl c (zr vs), holdsE (xe d) v e = true) -> zgj q c.facts.length (ymw c.facts.length q v) /\ zwj q d (ymw c.facts.length q v) /\ ∀ i : Nat, (ymw c.facts.length q v).getD i 0 <= v.getD i 0 := by
  intro d v hg hh
  have hb : ∀ i : Nat, 0 <= (ymw c.facts.length q v).getD i 0 /\ (ymw c.facts.length q v).getD i 0 <= v.getD i 0 := fun i => by
   rw [zpc]
   have h0 := (hg i).1
   split
   ·obtain ⟨a, b, _, _⟩ := zec (v.getD i 0) (zci q i) 0 h0
    exact ⟨a, b⟩
   ·exact ⟨Int.le_refl _, h0⟩
  refine ⟨ylv hfull hR.zero fun i => (hg i).1, (hR.sat _ _).2 fun e he => ?_, fun i => (hb i).2⟩
  have := zgr (p := xe d) (m := m) hb (fun i => (hg i).2) _ e (Nat.lt_succ_self _) (hN e he).1 (hN e he).2 (hsimp e he) (fun f x hx hxv => by
   rw [zpc]
   by_cases hf : f < c.facts.length
   ·rw [if_pos hf]
    obtain ⟨_, _, _, g⟩ := zec (v.getD f 0) (zci q f) 0 (hg f).1
    exact g x ((hR.mem _ _).2 ⟨e, he, hx⟩) hxv
   ·exfalso
    have hm := (hR.mem f x).2 ⟨e, he, hx⟩
    unfold zci at hm
    cases hl : zo (f : Int) q.cands with
    | none => rw [hl] at hm; cases hm
    | some l => have := hfull.inv.rng _ (zcf hl); simp only at this; omega)
  rw [this]
  exact hh e he
 unfold qw
 simp only
 constructor
 ·intro w hw
  cases hg : zcd q c.facts.length (min (yj c (zr vs)).2 ((yj c (zr vs)).1 + yq q.dates) - (yj c (zr vs)).1).toNat (yj c (zr vs)).1 [] with
  | none => rw [hg] at hw; cases hw
  | some z =>
   obtain ⟨d, vals⟩ := z
   rw [hg] at hw
   simp only [Option.some.injEq] at hw
   subst hw
   obtain ⟨a1, a2, a3, a4, a5⟩ := w1 d vals hg
   refine ⟨a1, a2, by have := a3.len; simpa [st0] using this, rfl, rfl, (hR.sat _ _).1 a4, a3, fun d' v' b1 b2 b3 b4 => ?_⟩
   obtain ⟨l1, l2, l3⟩ := low d' v' b3 b4
   obtain ⟨g1, g2⟩ := a5 d' _ b1 b2 l1 l2
   refine ⟨g1, fun e => ?_⟩
   have := g2 e
   cases hless : zmx (zht q) v' vals with
   | false => rfl
   | true => rw [zzc l3 _ hless] at this; cases this
 ·intro hw
  cases hg : zcd q c.facts.length (min (yj c (zr vs)).2 ((yj c (zr vs)).1 + yq q.dates) - (yj c (zr vs)).1).toNat (yj c (zr vs)).1 [] with
  | some z => obtain ⟨d, vals⟩ := z; rw [hg] at hw; cases hw
  | none =>
   intro d v b1 b2 b3 b4
   obtain ⟨l1, l2, _⟩ := low d v b3 b4
   exact w2 hg d _ b1 b2 l1 l2
def ypt (n : Int) : List Int -> List Int
 | [] => [n]
 | x :: r => if n < x then n :: x :: r else x :: ypt n r
def yoo (l : List Int) (n : Int) : List Int := if n < 0 \/ 1000000000000 < n \/ n ∈ l then l else ypt n l
theorem zvw {x n : Int} : ∀ l : List Int, x ∈ ypt n l ↔ x = n \/ x ∈ l
 | [] => by simp [ypt]
 | y :: r => by
  unfold ypt
  split
  ·simp
  ·simp only [List.mem_cons, zvw r]
   constructor
   ·rintro (h | h | h)
    ·exact .inr (.inl h)
    ·exact .inl h
    ·exact .inr (.inr h)
   ·rintro (h | h | h)
    ·exact .inr (.inl h)
    ·exact .inl h
    ·exact .inr (.inr h)
theorem yel {n : Int} : ∀ l : List Int, l.Pairwise (· < ·) -> n ∉ l -> (ypt n l).Pairwise (· < ·)
 | [], _, _ => by simp [ypt]
 | y :: r, h, hn => by
  simp only [List.pairwise_cons] at h
  simp only [List.mem_cons, not_or] at hn
  unfold ypt
  split
  ·rename_i hlt
   simp only [List.pairwise_cons, List.mem_cons]
   refine ⟨fun a ha => ?_, h.1, h.2⟩
   rcases ha with rfl | ha
   ·exact hlt
   ·have := h.1 a ha; omega
  ·simp only [List.pairwise_cons]
   refine ⟨fun a ha => ?_, yel r h.2 hn.2⟩
   rcases (zvw r).1 ha with rfl | ha
   ·omega
   ·exact h.1 a ha
theorem zlz {x n : Int} {l : List Int} (h0 : 0 <= n) (h1 : n <= 1000000000000) : x ∈ yoo l n ↔ x ∈ l \/ x = n := by
 unfold yoo
 split
 ·rename_i h
  have h : n ∈ l := by
   rcases h with h | h | h
   ·omega
   ·omega
   ·exact h
  constructor
  ·exact .inl
  ·rintro (h2 | rfl)
   ·exact h2
   ·exact h
 ·rw [zvw]; exact Or.comm
theorem zma {n : Int} {l : List Int} (h : l.Pairwise (· < ·)) : (yoo l n).Pairwise (· < ·) := by
 unfold yoo
 split
 ·exact h
 ·rename_i h1
  exact yel l h fun h2 => h1 (.inr (.inr h2))
theorem zvx : ∀ l l' : List Int, l.Pairwise (· < ·) -> l'.Pairwise (· < ·) -> (∀ x, x ∈ l ↔ x ∈ l') -> l = l'
 | [], [], _, _, _ => rfl
 | [], b :: r', _, _, h => by have := (h b).2 (by simp); cases this
 | a :: r, [], _, _, h => by have := (h a).1 (by simp); cases this
 | a :: r, b :: r', h1, h2, h => by
  simp only [List.pairwise_cons] at h1 h2
  have e : a = b := by
   rcases List.mem_cons.1 ((h a).1 (by simp)) with e | ha
   ·exact e
   ·rcases List.mem_cons.1 ((h b).2 (by simp)) with e | hb
    ·exact e.symm
    ·have := h1.1 b hb; have := h2.1 a ha; omega
  subst e
  refine congrArg _ (zvx r r' h1.2 h2.2 fun x => ?_)
  constructor
  ·intro hx
   rcases List.mem_cons.1 ((h x).1 (by simp [hx])) with rfl | hx'
   ·have := h1.1 x hx; omega
   ·exact hx'
  ·intro hx
   rcases List.mem_cons.1 ((h x).2 (by simp [hx])) with rfl | hx'
   ·have := h2.1 x hx; omega
   ·exact hx'
def znf (c : Codex) (f op : Int) (k o : Ex) (l : List Int) : List Int := if zob op = true /\ k.op = 2 /\ k.n = f /\ o.op = 1 /\ zon c f = false then yoo (yoo l o.n) (o.n + 1) else l
def zie (c : Codex) (f op n : Int) (l : List Int) : List Int := if op = 2 /\ n = f then (if zon c f = true then yoo (yoo l 0) 1 else yoo l 0) else l
def candE (c : Codex) (f : Int) : Ex -> List Int -> List Int
 | .mk op n _ _ _ ks, l => match ks with
  | [k] => candE c f k (zie c f op n l)
  | [k, r] => znf c f op r k (candE c f r (znf c f op k r (candE c f k (zie c f op n l))))
  | _ => zie c f op n l
def ypu (c : Codex) (f : Int) (es : List Ex) : List Int := es.foldl (fun l e => candE c f e l) []
theorem zed {c : Codex} {f op n x : Int} {l : List Int} : x ∈ zie c f op n l ↔ x ∈ l \/ (op = 2 /\ n = f /\ (x = 0 \/ (zon c f = true /\ x = 1))) := by
 unfold zie
 by_cases h : op = 2 /\ n = f
 ·rw [if_pos h]
  cases ht : zon c f with
  | true =>
   rw [if_pos rfl, zlz (by omega) (by omega), zlz (by omega) (by omega)]
   constructor
   ·rintro ((h1 | h1) | h1)
    ·exact .inl h1
    ·exact .inr ⟨h.1, h.2, .inl h1⟩
    ·exact .inr ⟨h.1, h.2, .inr ⟨rfl, h1⟩⟩
   ·rintro (h1 | ⟨_, _, h1 | ⟨_, h1⟩⟩)
    ·exact .inl (.inl h1)
    ·exact .inl (.inr h1)
    ·exact .inr h1
  | false =>
   rw [if_neg (by simp), zlz (by omega) (by omega)]
   constructor
   ·rintro (h1 | h1)
    ·exact .inl h1
    ·exact .inr ⟨h.1, h.2, .inl h1⟩
   ·rintro (h1 | ⟨_, _, h1 | ⟨h1, _⟩⟩)
    ·exact .inl h1
    ·exact .inr h1
    ·cases h1
 ·rw [if_neg h]
  constructor
  ·exact .inl
  ·rintro (h1 | ⟨h1, h2, _⟩)
   ·exact h1
   ·exact absurd ⟨h1, h2⟩ h
theorem zee {c : Codex} {f op n : Int} {l : List Int} (h : l.Pairwise (· < ·)) : (zie c f op n l).Pairwise (· < ·) := by
 unfold zie
 split
 ·split
  ·exact zma (zma h)
  ·exact zma h
 ·exact h
theorem zzd {c : Codex} {f op x : Int} {k o : Ex} {l : List Int} (ho : LeafE c o) : x ∈ znf c f op k o l ↔ x ∈ l \/ (zob op = true /\ cP c f x k o) := by
 unfold znf cP
 by_cases h : zob op = true /\ k.op = 2 /\ k.n = f /\ o.op = 1 /\ zon c f = false
 ·rw [if_pos h]
  obtain ⟨h1, h2, h3, h4, h5⟩ := h
  have := ho.k1 h4
  rw [zlz (by omega) (by omega), zlz (by omega) (by omega)]
  constructor
  ·rintro ((h | h) | h)
   ·exact .inl h
   ·exact .inr ⟨h1, h2, h3, h4, h5, .inl h⟩
   ·exact .inr ⟨h1, h2, h3, h4, h5, .inr h⟩
  ·rintro (h | ⟨_, _, _, _, _, h | h⟩)
   ·exact .inl (.inl h)
   ·exact .inl (.inr h)
   ·exact .inr h
 ·rw [if_neg h]
  constructor
  ·exact .inl
  ·rintro (h1 | ⟨h1, h2, h3, h4, h5, _⟩)
   ·exact h1
   ·exact absurd ⟨h1, h2, h3, h4, h5⟩ h
theorem zze {c : Codex} {f op : Int} {k o : Ex} {l : List Int} (h : l.Pairwise (· < ·)) : (znf c f op k o l).Pairwise (· < ·) := by
 unfold znf
 split
 ·exact zma (zma h)
 ·exact h
theorem yem {c : Codex} {f op : Int} (h : zob op = false) (k o : Ex) (l : List Int) : znf c f op k o l = l := by
 unfold znf
 rw [if_neg (fun h2 => by rw [h] at h2; cases h2.1)]
theorem ztr {c : Codex} {f : Int} {k : Ex} (h : LeafE c k) (l : List Int) : candE c f k l = zie c f k.op k.n l := by
 obtain ⟨op, n, u, den, ps, ks⟩ := k
 have hk : ks = [] := h.no
 subst hk
 unfold candE
 rfl
theorem zjf {c : Codex} {m : List (Int × Int)} {f : Int} : ∀ (N : Nat) (e : Ex), SizeOf.sizeOf e < N -> zfp c m e -> e.unit = tT -> simpE c e = true -> ∀ l : List Int, l.Pairwise (· < ·) -> (candE c f e l).Pairwise (· < ·) /\ ∀ x, x ∈ candE c f e l ↔ x ∈ l \/ cE c f x e
 | 0, _, h, _, _, _, _, _ => by omega
 | N + 1, .mk op n u den ps ks, hN, h, hu, hs, l, hl => by
  simp only [Ex.mk.sizeOf_spec] at hN
  have hu : u = tT := hu
  cases zpb h hu with
  | const h1 hk hu =>
   subst hk
   refine ⟨by unfold candE; exact zee hl, fun x => ?_⟩
   unfold candE
   rw [cE.eq_def]
   simp only [zed, or_false]
  | fact h1 hk hr ht =>
   subst hk
   refine ⟨by unfold candE; exact zee hl, fun x => ?_⟩
   unfold candE
   rw [cE.eq_def]
   simp only [zed, or_false]
  | neg k h1 hk hka hku =>
   subst h1 hk
   simp only [List.cons.sizeOf_spec] at hN
   have hsk : simpE c k = true := by
    rw [simpE.eq_def] at hs
    simpa only [show ¬ (5 : Int) = 1 by decide, show ¬ (5 : Int) = 2 by decide, if_false, if_true] using hs
   have := zjf (f := f) N k (by omega) hka hku hsk (zie c f 5 n l) (zee hl)
   refine ⟨by rw [candE.eq_def]; exact this.1, fun x => ?_⟩
   rw [candE.eq_def, cE.eq_def]
   simp only
   rw [this.2, zed, or_assoc]
  | conn k r h1 hk hka hra hku hru =>
   subst hk
   simp only [List.cons.sizeOf_spec] at hN
   have hsE : simpE c (.mk op n u den ps [k, r]) = (simpE c k && simpE c r) := by
    rw [simpE.eq_def]
    simp only
    rw [if_neg (by omega), if_neg (by omega), if_neg (by omega), if_pos h1]
   rw [hsE, Bool.and_eq_true] at hs
   have hc : zob op = false := by unfold zob; rcases h1 with rfl | rfl <;> rfl
   have g1 := zjf (f := f) N k (by omega) hka hku hs.1 (zie c f op n l) (zee hl)
   have g2 := zjf (f := f) N r (by omega) hra hru hs.2 _ g1.1
   have e : candE c f (.mk op n u den ps [k, r]) l = candE c f r (candE c f k (zie c f op n l)) := by
    rw [candE.eq_def]
    simp only
    rw [yem hc, yem hc]
   rw [e]
   refine ⟨g2.1, fun x => ?_⟩
   rw [g2.2, g1.2, zed, cE.eq_def c f x (.mk op n u den ps [k, r])]
   simp only [hc]
   constructor
   ·rintro (((h | h) | h) | h)
    ·exact .inl h
    ·exact .inr (.inl h)
    ·exact .inr (.inr (.inl h))
    ·exact .inr (.inr (.inr (.inl h)))
   ·rintro (h | h | h | h | h)
    ·exact .inl (.inl (.inl h))
    ·exact .inl (.inl (.inr h))
    ·exact .inl (.inr h)
    ·exact .inr h
    ·cases h.1
  | cmp k r h1 hk hka hra =>
   subst hk
   rw [zlx h1] at hs
   simp only [Bool.and_eq_true, Bool.or_eq_true, decide_eq_true_eq] at hs
   have hlk := zgq hka (zjc hs.1.1)
   have hlr := zgq hra (zjc hs.1.2)
   have e : candE c f (.mk op n u den ps [k, r]) l = znf c f op r k (zie c f r.op r.n (znf c f op k r (zie c f k.op k.n (zie c f op n l)))) := by
    rw [candE.eq_def]
    simp only
    rw [ztr hlk, ztr hlr]
   rw [e]
   refine ⟨zze (zee (zze (zee (zee hl)))), fun x => ?_⟩
   rw [zzd hlk, zed, zzd hlr, zed, zed, cE.eq_def, <- zrj hlk, <- zrj hlr]
   simp only
   constructor
   ·rintro (((((h | h) | h) | h) | h) | h)
    ·exact .inl h
    ·exact .inr (.inl h)
    ·exact .inr (.inr (.inl h))
    ·exact .inr (.inr (.inr (.inr ⟨h.1, .inl h.2⟩)))
    ·exact .inr (.inr (.inr (.inl h)))
    ·exact .inr (.inr (.inr (.inr ⟨h.1, .inr h.2⟩)))
   ·rintro (h | h | h | h | ⟨h, h' | h'⟩)
    ·exact .inl (.inl (.inl (.inl (.inl h))))
    ·exact .inl (.inl (.inl (.inl (.inr h))))
    ·exact .inl (.inl (.inl (.inr h)))
    ·exact .inl (.inr h)
    ·exact .inl (.inl (.inr ⟨h, h'⟩))
    ·exact .inr ⟨h, h'⟩
  | other h1 h2 h3 h4 h5 =>
   exfalso
   unfold simpE at hs
   rw [if_neg h1, if_neg h2, if_neg h3, if_neg h4] at hs
   have hce : zob op = false := by unfold zob; simp; omega
   split at hs
   ·simp [hce] at hs
   ·cases hs
theorem zjg {c : Codex} {m : List (Int × Int)} {f : Int} : ∀ (es : List Ex), (∀ e ∈ es, zzb c m e /\ simpE c e = true) -> ∀ l : List Int, l.Pairwise (· < ·) -> (es.foldl (fun l e => candE c f e l) l).Pairwise (· < ·) /\ ∀ x, x ∈ es.foldl (fun l e => candE c f e l) l ↔ x ∈ l \/ ∃ e ∈ es, cE c f x e
 | [], _, l, hl => ⟨hl, fun x => by simp⟩
 | e :: r, h, l, hl => by
  obtain ⟨⟨h1, h2⟩, h3⟩ := h e (by simp)
  have g := zjf (f := f) _ e (Nat.lt_succ_self _) h1 h2 h3 l hl
  have g2 := zjg (f := f) r (fun x hx => h x (by simp [hx])) _ g.1
  rw [List.foldl_cons]
  refine ⟨g2.1, fun x => ?_⟩
  rw [g2.2, g.2, or_assoc]
  simp
theorem yrx {c : Codex} {m : List (Int × Int)} {q : Sr} {nf k : Nat} {es : List Ex} (hf : CFull nf q k) (hR : RefOK c q es) (he : ∀ e ∈ es, zzb c m e /\ simpE c e = true) (f : Int) : ypu c f es = zdk (zci q f) := by
 obtain ⟨g1, g2⟩ := zjg (f := f) es he [] .nil
 refine zvx _ _ g1 (zrf ?_) fun x => ?_
 ·unfold zci
  cases hl : zo f q.cands with
  | none => simp
  | some w => exact hf.inv.ndv _ (zcf hl)
 ·rw [zbp, hR.mem]
  have := g2 x
  simpa [ypu] using this
def zef (ns : List Int) : Int := ns.foldr (· * ·) 1
def ylw (B : Int) (ns : List Int) (p : Int) : Int := ns.foldl (fun p n => min (p * n) B) p
theorem zng {B : Int} (hB : 1 <= B) : ∀ (ns : List Int) (p : Int), 1 <= p -> (∀ n ∈ ns, 1 <= n) -> ylw B ns (min p B) = min (p * zef ns) B
 | [], p, _, _ => by simp [ylw, zef]
 | n :: r, p, hp, h => by
  have h1 := h n (by simp)
  have hpn : p <= p * n := by
   have := Int.mul_le_mul_of_nonneg_left h1 (show 0 <= p by omega)
   omega
  have hBn : B <= B * n := by
   have := Int.mul_le_mul_of_nonneg_left h1 (show 0 <= B by omega)
   omega
  have e : min (min p B * n) B = min (p * n) B := by
   by_cases hb : p <= B
   ·rw [Int.min_eq_left hb]
   ·rw [Int.min_eq_right (by omega : B <= p), Int.min_eq_right hBn, Int.min_eq_right (by omega : B <= p * n)]
  show ylw B r (min (min p B * n) B) = _
  rw [e, zng hB r (p * n) (by omega) fun x hx => h x (by simp [hx])]
  show min (p * n * zef r) B = min (p * (n * zef r)) B
  rw [Int.mul_assoc]
theorem zeo : ∀ a b : List Int, zef (a ++ b) = zef a * zef b
 | [], b => by simp [zef]
 | n :: a, b => by
  show n * zef (a ++ b) = n * zef a * zef b
  rw [zeo a b, Int.mul_assoc]
theorem yen (g g' : Nat -> Int) (k : Nat) (h1 : g' k = 1) (h : ∀ i, i ≠ k -> g i = g' i) : ∀ n, zef ((List.range n).map g) = (if k < n then g k else 1) * zef ((List.range n).map g')
 | 0 => by simp [zef]
 | n + 1 => by
  rw [List.range_succ, List.map_append, List.map_append, zeo, zeo, yen g g' k h1 h n]
  show _ * zef [g n] = _ * (_ * zef [g' n])
  have e1 : ∀ y : Int, zef [y] = y := fun y => by simp [zef]
  rw [e1, e1]
  by_cases hk : k = n
  ·subst hk
   rw [if_neg (by omega), if_pos (by omega), h1, Int.one_mul, Int.mul_one, Int.mul_comm]
  ·rw [h n (by omega)]
   by_cases hn : k < n
   ·rw [if_pos hn, if_pos (by omega), Int.mul_assoc]
   ·rw [if_neg hn, if_neg (by omega), Int.one_mul, Int.one_mul]
theorem zts (nf : Nat) : ∀ m : List (Int × List Int), (m.map (·.1)).Nodup -> (∀ e ∈ m, 0 <= e.1 /\ e.1 < nf) -> (∀ e ∈ m, 1 <= e.2.length) ->
  zef (m.map fun e => (e.2.length : Int)) = zef ((List.range nf).map fun (i : Nat) => max 1 ((((zo (i : Int) m).getD []).length : Nat) : Int))
 | [], _, _, _ => by
  have : ∀ n, zef ((List.range n).map fun (i : Nat) => max 1 ((((zo (i : Int) ([] : List (Int × List Int))).getD []).length : Nat) : Int)) = 1 := by
   intro n
   induction n with
   | zero => rfl
   | succ n ih => rw [List.range_succ, List.map_append, zeo, ih]; rfl
  rw [this]
  rfl
 | (k, l) :: r, hn, hr, hl => by
  simp only [List.map_cons, List.nodup_cons] at hn
  obtain ⟨j, hj⟩ : ∃ j : Nat, k = j := ⟨k.toNat, by have := hr (k, l) (by simp); simp only at this; omega⟩
  have hkr := hr (k, l) (by simp)
  simp only at hkr
  have hnone : zo k r = none := by
   have := zcy (k := k) (l := r)
   rw [decide_eq_false hn.1] at this
   simpa using this
  rw [yen _ (fun (i : Nat) => max 1 ((((zo (i : Int) r).getD []).length : Nat) : Int)) j]
  ·rw [if_pos (by omega), <- zts nf r hn.2 (fun e he => hr e (by simp [he])) fun e he => hl e (by simp [he])]
   have h1 := hl (k, l) (by simp)
   simp only at h1
   have e : (zo (j : Int) ((k, l) :: r)) = some l := by rw [<- hj]; simp [zo]
   rw [e]
   show (l.length : Int) * _ = max 1 (l.length : Int) * _
   rw [Int.max_eq_right (by omega)]
   rfl
  ·rw [<- hj, hnone]; rfl
  ·intro i hi
   have : zo (i : Int) ((k, l) :: r) = zo (i : Int) r := by
    simp only [zo]
    rw [if_neg]
    simp
    omega
   rw [this]
def yhg (ls : List (List Int)) : Int := ls.foldl (fun p l => min (p * max 1 (l.length : Int)) 1000000) 1
def zvy (c : Codex) (es : List Ex) : List (List Int) := (List.range c.facts.length).map fun (i : Nat) => ypu c i es
def zro (c : Codex) (vs : List Int) : Bool := (xl c vs).all (simpE c) && decide (yhg (zvy c (xl c vs)) <= 4096)
theorem zvz {α β γ : Type} (f : γ -> β -> γ) (g : α -> β) : ∀ (l : List α) (p : γ), l.foldl (fun p a => f p (g a)) p = (l.map g).foldl f p
 | [], _ => rfl
 | a :: l, p => zvz f g l _
theorem zkp {c : Codex} {P : Ex -> Prop} (h : ∀ a ∈ c.arts, ∀ e ∈ a.when_, P e) {vs : List Int} : ∀ e ∈ xl c vs, P e := fun e he => by
 unfold xl at he
 obtain ⟨v, hvv, he⟩ := List.mem_flatMap.1 he
 unfold zlv at he
 cases ha : qf c v with
 | none => rw [ha] at he; cases he
 | some a => rw [ha] at he; exact h a (zfh ha) e he
theorem ybo {c : Codex} (h : zq c = true) (hF : c.facts.length <= 12) (hw : ∀ a ∈ c.arts, a.when_.length <= 41) {vs : List Int} (hv : ∀ v ∈ vs, 0 <= v /\ v < c.arts.length) :
  (xc c vs).isSome = zro c (zr vs) /\ ∀ q, xc c vs = some q -> ∀ f, ypu c f (xl c (zr vs)) = zdk (zci q f) := by
 obtain ⟨m, hm, hc⟩ := zbq h
 have hN := zkp (c := c) hc (vs := zr vs)
 obtain ⟨hs1, hs2⟩ := zne h hF hv
 unfold zro xc
 cases hg : zag c (zr vs) sr0 with
 | none =>
  rw [hg] at hs1
  rw [<- hs1]
  exact ⟨rfl, fun q hq => by cases hq⟩
 | some q =>
  rw [hg] at hs1
  rw [<- hs1]
  have hR := hs2 q hg
  have hsimp : ∀ e ∈ xl c (zr vs), simpE c e = true := List.all_eq_true.1 hs1.symm
  obtain ⟨_, h60, m', hm', h4⟩ := zaa h
  have hl := ziz hv
  have hfull := (zre hm' rfl hF (fun a ha => ⟨hw a ha, (h4 a ha).2.2.1⟩) _ sr0 q 0 (ytn _) hg).up (k' := 2460) (by omega)
  have hLe := yrx hfull hR fun e he => ⟨hN e he, hsimp e he⟩
  have hone : ∀ e ∈ q.cands, 1 <= e.2.length := fun e he => by
   have := hR.zero e he
   cases hh : e.2 with
   | nil => rw [hh] at this; cases this
   | cons a l => simp
  have hp1 : zfd q.cands = min (zef (q.cands.map fun e => (e.2.length : Int))) 4097 := by
   have := zng (B := 4097) (by omega) (q.cands.map fun e => (e.2.length : Int)) 1 (by omega) (fun n hn => by
    obtain ⟨e, he, rfl⟩ := List.mem_map.1 hn
    have := hone e he
    omega)
   rw [Int.one_mul] at this
   rw [<- this]
   unfold zfd ylw
   exact zvz (fun p n => min (p * n) 4097) (fun e : Int × List Int => (e.2.length : Int)) q.cands 1
  have hp2 : yhg (zvy c (xl c (zr vs))) = min (zef ((List.range c.facts.length).map fun (i : Nat) => max 1 ((((zo (i : Int) q.cands).getD []).length : Nat) : Int))) 1000000 := by
   have := zng (B := 1000000) (by omega) ((List.range c.facts.length).map fun (i : Nat) => max 1 ((((zo (i : Int) q.cands).getD []).length : Nat) : Int)) 1 (by omega) (fun n hn => by
    obtain ⟨e, he, rfl⟩ := List.mem_map.1 hn
    omega)
   rw [Int.one_mul] at this
   rw [<- this]
   unfold yhg zvy ylw
   rw [zvz (fun p n => min (p * n) 1000000) (fun l : List Int => max 1 (l.length : Int)), List.map_map]
   show List.foldl _ 1 _ = _
   congr 1
   refine List.map_congr_left fun i hi => ?_
   show max 1 ((ypu c i (xl c (zr vs))).length : Int) = _
   rw [hLe, (List.mergeSort_perm _ _).length_eq]
   rfl
  have hpe := zts c.facts.length q.cands hfull.inv.nd hfull.inv.rng hone
  rw [<- hpe] at hp2
  simp only
  have hle : zfd q.cands <= 4096 ↔ yhg (zvy c (xl c (zr vs))) <= 4096 := by
   rw [hp1, hp2]
   omega
  refine ⟨?_, fun q' hq' f => ?_⟩
  ·by_cases h0 : zfd q.cands <= 4096
   ·rw [if_pos h0, decide_eq_true (hle.1 h0)]; rfl
   ·rw [if_neg h0, decide_eq_false (fun h1 => h0 (hle.2 h1))]; rfl
  ·split at hq'
   ·cases hq'; exact hLe f
   ·cases hq'
def ybp (c : Codex) : SObj := .cells [.imm (zk c.facts), .imm (zk c.lines), .imm (xw c.arts)]
def isDead (c : Codex) (i : Int) : Bool := (xc c [i]).isSome && (ye c [i]).isNone
theorem zfm {c : Codex} (hok : zq c = true) {vs : List Int} (hv : ∀ v ∈ vs, 0 <= v /\ v < c.arts.length) : ye c vs = match xc c vs with | some s => qw c (zr vs) s | none => none := by
 have hall : vs.all (fun v => decide (0 <= v) && decide (v < c.arts.length)) = true := List.all_eq_true.2 fun v h => by
  have := hv v h
  simp only [Bool.and_eq_true, decide_eq_true_eq]
  exact this
 unfold ye
 rw [hok, hall, Bool.true_and, if_pos rfl]
 try rfl
theorem ylx {c : Codex} (hok : zq c = true) : znt c = ((List.range c.arts.length).map fun (i : Nat) => (i : Int)).filter (isDead c) := by
 unfold znt
 rw [if_pos hok]
 rfl
theorem yto (c : Codex) (hfit : Codex.fit c) (hS : zq c = true -> SearchC c) (hz : c.arts.length <= 1000000) :
  yb Tryz.prog G0 17 [c.sv] (if zq c = true then .imm (dInts (znt c)) else zev) := by
 have hal : (c.arts.map Article.cells).length = c.arts.length := by simp
 have hV := jr G0 c hfit
 refine ze Tryz.func17 rfl (by rw [Tryz.ntmps17]; simp) rfl (by split <;> rfl) ?_
 intro E hH hK
 have hdo := @ylx c
 have hwi := @zfm c
 generalize hz2 : zq c = z at hV hS hK hdo hwi
 rw [show c.sv = .agg [.imm (zk c.facts), .imm (zk c.lines), .imm (xw c.arts)] from rfl]
 (refine zh ?_; conv => whnf)
 refine zd rfl  hV ?_
 cases z <;> ((refine za ?_; conv => whnf))
 ·exact hK _
 have hS := hS rfl
 rw [if_pos rfl, hdo rfl] at hK
 refine yiu (n := 3) (kk := 1) rfl ?_
 refine zf [1, 3, 13, 14, 15] ?_
 change SW E _ [(1, .ptr 0 0), (3, .asl 1 1 []), (13, .imm (xw c.arts)), (14, sI (c.arts.map Article.cells).length), (15, sI 0)] [ybp c, .tok 1 0]
 refine zt c.arts (fun i (l : List Int) => [(1, .ptr 0 0), (3, .asl 1 1 (l.map fun n => [dI n])), (13, .imm (xw c.arts)), (14, sI (c.arts.map Article.cells).length), (15, sI i)]) (fun _ l => [ybp c, .tok 1 (l.map fun n => [dI n]).length])
  (fun done rest l => l = ((List.range done.length).map fun (i : Nat) => (i : Int)).filter (isDead c) /\ l.length <= done.length) [] ⟨rfl, by simp⟩ ?_ ?_
 ·rintro l ⟨h2, _⟩
  rw [<- h2] at hK
  refine zfx ?_
  change SW E _ [(1, .ptr 0 0), (3, .imm (dInts l)), (13, .imm (xw c.arts)), (14, sI (c.arts.map Article.cells).length), (15, sI c.arts.length)] _
  (refine zh ?_; conv => whnf)
  repeat' ((with_reducible refine way ?_ ?_) <;> (intro h; conv => whnf))
  all_goals try (exfalso; omega)
  exact hK _
 ·rintro done x rest l hda hdl ⟨h2, h3⟩ ih
  have hw := zm (n := done.length) (by omega)
  have hi : ∀ v ∈ [(done.length : Int)], 0 <= v /\ v < c.arts.length := fun v hv => by simp at hv; subst hv; omega
  have hN := zhy c hS [(done.length : Int)] hi (by simp) [ybp c, .tok 1 (l.map fun n => [dI n]).length]
  have hwi2 := hwi rfl hi
  have hsn : ∀ b, isDead c (done.length : Int) = b -> ((List.range (done.length + 1)).map fun (i : Nat) => (i : Int)).filter (isDead c) = l ++ (if b = true then [(done.length : Int)] else []) := fun b hb => by
   rw [List.range_succ, List.map_append, List.filter_append, <- h2]
   simp only [List.map_cons, List.map_nil, List.filter_cons, hb, List.filter_nil]
  have hnx : ∀ b, isDead c (done.length : Int) = b -> b = false -> SW E _ _ _ := fun b hb hf => by
   subst hf
   have e := hsn _ hb
   simp only [Bool.false_eq_true, if_false, List.append_nil] at e
   exact ih l ⟨by rw [List.length_append]; exact e.symm, by simp only [List.length_append, List.length_cons, List.length_nil]; omega⟩
  (refine zh ?_; conv => whnf)
  repeat' ((with_reducible refine way ?_ ?_) <;> (intro h; conv => whnf))
  all_goals try (exfalso; omega)
  refine we (argv := [c.sv, .imm (dInts [(done.length : Int)])]) rfl rfl rfl rfl rfl rfl (hN.mono ?_)
  intro r H' hK1
  have hkc : ∀ m, ([ybp c, SObj.tok 1 m]).all (SObj.under 2) = true := fun _ => rfl
  cases hq : xc c [(done.length : Int)] with
  | none =>
   rw [hq] at hK1
   have hdd : isDead c (done.length : Int) = false := by unfold isDead; rw [hq]; rfl
   obtain ⟨p, H1, hp, rfl, rfl⟩ := hK1
   refine ⟨Nat.le_add_left 2 _, ?_⟩
   refine Eq.mpr (congrArg (fun h => SWr E _ _ _ _ h) (show _ = ybp c :: .tok 1 (l.map fun n => [dI n]).length :: H1 from rfl)) ?_
   rcases hp with rfl | rfl <;> ((refine za ?_; conv => whnf)) <;> rw [hw]
   all_goals exact yr [1, 3, 13, 14, 15] 2 (by rw [hH]; exact Nat.zero_le 2) (Nat.succ_le_succ (Nat.succ_le_succ (Nat.zero_le _))) rfl (hkc _) (hnx _ hdd rfl)
  | some q =>
   have hWt := znb c hS [(done.length : Int)] hi (by simp) q hq [ybp c, .tok 1 (l.map fun n => [dI n]).length]
   rw [hq] at hK1 hwi2
   simp only at hwi2
   obtain ⟨rfl, rfl⟩ := hK1
   refine ⟨by rw [List.length_append]; exact Nat.le_add_right _ _, ?_⟩
   (refine za ?_; conv => whnf)
   refine we rfl rfl rfl rfl rfl rfl (hWt.mono ?_)
   rintro r H' ⟨rfl, ⟨H1, rfl⟩, hl⟩
   refine ⟨hl, ?_⟩
   rw [<- hwi2]
   have hdd : isDead c (done.length : Int) = (ye c [(done.length : Int)]).isNone := by unfold isDead; rw [hq]; rfl
   refine qi (t' := [(1, .ptr 0 0), (3, .asl 1 1 (l.map fun n => [dI n])), (4, sI done.length), (13, .imm (xw c.arts)), (14, sI (c.arts.map Article.cells).length), (15, sI done.length), (29, zls (ye c [(done.length : Int)]))]) (H' := [ybp c, .tok 1 (l.map fun n => [dI n]).length])
    (fun k h => zf [1, 3, 4, 13, 14, 15, 29] (ycr 2 (by rw [hH]; exact Nat.zero_le 2) (Nat.succ_le_succ (Nat.succ_le_succ (Nat.zero_le _))) (by cases ye c [(done.length : Int)] <;> rfl) (hkc _) h)) ?_
   generalize ye c [(done.length : Int)] = o at hdd ⊢
   cases o with
   | none =>
    have e := hsn _ hdd
    simp only [Option.isNone_none, if_true] at e
    (refine za ?_; conv => whnf)
    refine zaq (b := 1) (kk := 1) (rows := l.map fun n => [dI n]) (new := [[dI done.length]]) rfl ⟨by decide, rfl⟩ rfl (by rw [List.length_map]; simp only [List.length_cons, List.length_nil]; omega) ?_
    have e5 : (l.map fun n => [dI n]) ++ [[dI done.length]] = (l ++ [(done.length : Int)]).map fun n => [dI n] := by simp
    have e6 : (l.map fun n => [dI n]).length + [[dI done.length]].length = ((l ++ [(done.length : Int)]).map fun n => [dI n]).length := by simp
    refine Eq.mpr (congrArg (fun v => SWr E _ _ _ (wm _ _ (.asl 1 1 v)) _) e5) ?_
    refine Eq.mpr (congrArg (fun v => SWr E _ _ _ _ (List.set _ 1 (.tok 1 v))) e6) ?_
    (refine za ?_; conv => whnf)
    rw [hw]
    refine yr [1, 3, 13, 14, 15] 2 (by rw [hH]; exact Nat.zero_le 2) (Nat.succ_le_succ (Nat.succ_le_succ (Nat.zero_le _))) rfl (hkc _) ?_
    refine ih (l ++ [(done.length : Int)]) ⟨?_, ?_⟩
    ·rw [List.length_append]; exact e.symm
    ·simp only [List.length_append, List.length_cons, List.length_nil]; omega
   | some v =>
    (refine za ?_; conv => whnf)
    rw [hw]
    exact yr [1, 3, 13, 14, 15] 2 (by rw [hH]; exact Nat.zero_le 2) (Nat.succ_le_succ (Nat.succ_le_succ (Nat.zero_le _))) rfl (hkc _) (hnx _ hdd rfl)
theorem yhh (c : Codex) (hfit : Codex.fit c) (hS : zq c = true -> SearchC c) (hz : c.arts.length <= 1000000) :
  yb Tryz.prog G0 17 [c.sv] (.imm (dInts (znt c))) := by
 have h := yto c hfit hS hz
 split at h
 ·exact h
 ·rename_i hn
  rw [show znt c = [] by unfold znt; rw [if_neg hn]]
  exact zcm h (SV.Is.nil 1)
theorem ybq {l : List Int} {v : Int} (h : v ∈ l) : v ∈ Go.Lib.compact l := by
 obtain ⟨j, hj, rfl⟩ := List.mem_iff_getElem.1 h
 have key : ∀ j, ∃ k, k <= j /\ Go.Lib.keeps l.toArray k = true /\ l.toArray[k]! = l.toArray[j]! := by
  intro j
  induction j with
  | zero => exact ⟨0, Nat.le_refl _, Go.Lib.keeps_lt_one _ 0 (by omega), rfl⟩
  | succ j ih =>
   by_cases e : l.toArray[j + 1]! = l.toArray[j + 1 - 1]!
   ·obtain ⟨k, h1, h2, h3⟩ := ih
    exact ⟨k, by omega, h2, by rw [h3, e, Nat.add_sub_cancel]⟩
   ·exact ⟨j + 1, Nat.le_refl _, Go.Lib.keeps_pos e, rfl⟩
 obtain ⟨k, h1, h2, h3⟩ := key j
 unfold Go.Lib.compact Go.Lib.compactUpTo
 refine List.mem_map.2 ⟨k, List.mem_filter.2 ⟨List.mem_range.2 (by omega), h2⟩, ?_⟩
 show l.toArray[k]! = _
 rw [h3]
 simp [hj]
theorem zfn {vs : List Int} {v : Int} : v ∈ zr vs ↔ v ∈ vs := ⟨ztq, fun h => ybq ((List.mergeSort_perm vs fun x y => decide (x <= y)).mem_iff.2 h)⟩
theorem ybr {l : List Int} (h : l.Pairwise (· < ·)) : zr l = l := zvx _ _ (ztm l) h fun _ => zfn
def zwa (c : Codex) (vs : List Int) : List Int := ((List.range c.arts.length).map fun (i : Nat) => (i : Int)).filter fun i => decide (i ∈ vs)
theorem yly (c : Codex) (vs : List Int) : (zwa c vs).Pairwise (· < ·) := by
 refine List.Pairwise.filter _ ?_
 rw [List.pairwise_map]
 exact List.pairwise_lt_range.imp fun h => by omega
theorem ylz {c : Codex} {vs : List Int} : ∀ v ∈ zwa c vs, 0 <= v /\ v < c.arts.length := fun v hv => by
 obtain ⟨i, hi, rfl⟩ := List.mem_map.1 (List.mem_filter.1 hv).1
 have := List.mem_range.1 hi
 omega
theorem yop {c : Codex} (vs : List Int) : 0 <= (yj c vs).1 /\ (yj c vs).2 <= 36525 := by
 have := zfl c vs (0, 36525)
 exact this
theorem ztt {c : Codex} (h : zq c = true) (hF : c.facts.length <= 12) (hw : ∀ a ∈ c.arts, a.when_.length <= 41) {vs : List Int} (hv : ∀ v ∈ vs, 0 <= v /\ v < c.arts.length) :
  (zro c (zr vs) = false -> ye c vs = none) /\
  (zro c (zr vs) = true -> ye c vs = none -> ∀ d v, (yj c (zr vs)).1 <= d -> d < (yj c (zr vs)).2 -> ybm c v -> (xl c (zr vs)).all (holdsE (xe d) v) = false) /\
  (∀ w, ye c vs = some w -> zro c (zr vs) = true /\ (yj c (zr vs)).1 <= w.day /\ w.day < (yj c (zr vs)).2 /\ w.value.length = c.facts.length /\ w.has.length = c.facts.length /\ w.arts = zr vs /\
   (xl c (zr vs)).all (holdsE (xe w.day) w.value) = true) := by
 have hsc := (ybo h hF hw hv).1
 rw [zfm h hv]
 cases hq : xc c vs with
 | none =>
  rw [hq] at hsc
  refine ⟨fun _ => rfl, fun h1 => ?_, fun w hw => by cases hw⟩
  rw [<- hsc] at h1
  cases h1
 | some q =>
  rw [hq] at hsc
  obtain ⟨w1, w2⟩ := ybn h hF hw hv hq
  refine ⟨fun h1 => ?_, fun _ hn d v h1 h2 h3 => ?_, fun w hw => ?_⟩
  ·rw [<- hsc] at h1
   cases h1
  ·cases ha : (xl c (zr vs)).all (holdsE (xe d) v) with
   | false => rfl
   | true => exact absurd (List.all_eq_true.1 ha) (w2 hn d v h1 h2 h3)
  ·obtain ⟨a1, a2, a3, a4, a5, a6, _, _⟩ := w1 w hw
   exact ⟨hsc.symm, a1, a2, a3, by rw [a4]; simp, a5, List.all_eq_true.2 a6⟩
variable (G : List (Nat × D))
abbrev zap : D := .val (.slice none 0 0)
def znh : ByteArray := ⟨#[69, 85, 82]⟩
def yhi (op n : Int) (u : ByteArray) (ks : D) : SV := .agg [sI op, sI n, sS u, sI 0, .imm zap, .imm ks]
theorem yoq (op n : Int) (u : ByteArray) (ks : List Ex) : (yhi op n u (.isl 6 (ks.map Ex.cells))).Is (Ex.mk op n u 0 [] ks).sv := by
 rw [Ex.sv, Ex.cells, zp]
 exact SIs.agg (.cons (SV.Is.refl _) (.cons (SV.Is.refl _) (.cons (SV.Is.refl _) (.cons (SV.Is.refl _) (.cons (SV.Is.nil 3) (.cons (SV.Is.refl _) .nil))))))
theorem zrp (op n : Int) (u : ByteArray) : (yhi op n u zap).Is (Ex.mk op n u 0 [] []).sv := by
 rw [Ex.sv, Ex.cells, zp]
 exact SIs.agg (.cons (SV.Is.refl _) (.cons (SV.Is.refl _) (.cons (SV.Is.refl _) (.cons (SV.Is.refl _) (.cons (SV.Is.nil 3) (.cons (SV.Is.nil 6) .nil))))))
theorem zni (n : Int) (u : ByteArray) : yb Tryz.prog G 36 [sI n, sS u] (Ex.mk 1 n u 0 [] []).sv := by
 refine zcm (r := yhi 1 n u zap) ?_ (zrp _ _ _)
 refine ze Tryz.func36 rfl (by rw [Tryz.ntmps36]; simp) rfl rfl ?_; intro E hH hK
 (refine zh ?_; conv => whnf)
 exact hK _
theorem yma (n : Int) (u : ByteArray) : yb Tryz.prog G 37 [sI n, sS u] (Ex.mk 2 n u 0 [] []).sv := by
 refine zcm (r := yhi 2 n u zap) ?_ (zrp _ _ _)
 refine ze Tryz.func37 rfl (by rw [Tryz.ntmps37]; simp) rfl rfl ?_; intro E hH hK
 (refine zh ?_; conv => whnf)
 exact hK _
theorem yhj (op : Int) (a b : Ex) : yb Tryz.prog G 35 [sI op, a.sv, b.sv] (Ex.mk op 0 tT 0 [] [a, b]).sv := by
 refine zcm (r := yhi op 0 tT (.isl 6 ([a, b].map Ex.cells))) ?_ (yoq _ _ _ _)
 obtain ⟨o1, n1, u1, d1, p1, k1⟩ := a
 obtain ⟨o2, n2, u2, d2, p2, k2⟩ := b
 refine ze Tryz.func35 rfl (by rw [Tryz.ntmps35]; simp) rfl rfl ?_; intro E hH hK
 (refine zh ?_; conv => whnf)
 exact hK _
def zbs : List Decl := [⟨⟨#[104, 111, 117, 114, 115]⟩, ⟨#[109, 105, 110, 117, 116, 101, 115]⟩, 0⟩, ⟨⟨#[109, 97, 114, 114, 105, 101, 100]⟩, ⟨#[116, 114, 117, 116, 104]⟩, 0⟩, ⟨⟨#[97, 103, 101]⟩, ⟨#[110, 117, 109, 98, 101, 114]⟩, 0⟩]
def zbt : List Decl := [⟨⟨#[98, 97, 115, 105, 99]⟩, znh, 1⟩]
def yor (i : Nat) (es : List Ex) : Article := ⟨i + 1, 0, 1, 8766, 36525, 8766, es, [], .mk 1 100 znh 0 [] []⟩
def yhk (w : List (List Ex)) : Codex := ⟨zbs, zbt, w.mapIdx yor⟩
def ybs (i : Nat) (es : List Ex) : List D := [dI ((i : Int) + 1), dI 0, dI 1, dI 8766, dI 36525, dI 8766, xb es, zap, dI 1, dI 100, dS znh, dI 0, .isl 3 [], .isl 6 []]
theorem zzf (w : List (List Ex)) (hw : w.length <= 1000) : yb Tryz.prog G 38 [.imm (.isl 1 (w.map fun es => [xb es]))] (yhk w).sv := by
 refine zcm (r := .agg [.imm (zk zbs), .imm (zk zbt), .imm (.isl 14 (w.mapIdx ybs))]) ?_ ?_
 rotate_left
 ·refine SIs.agg (.cons (SV.Is.refl _) (.cons (SV.Is.refl _) (.cons (D.Is.imm (DIss.isl (k := 14) ?_)) .nil)))
  show DIss (w.mapIdx ybs) ((w.mapIdx yor).map Article.cells)
  have em : (w.mapIdx yor).map Article.cells = w.mapIdx (fun i es => (yor i es).cells) := by
   apply List.ext_getElem?
   intro i
   rw [List.getElem?_map, List.getElem?_mapIdx, List.getElem?_mapIdx, Option.map_map]
   rfl
  rw [em]
  have : ∀ (l : List (List Ex)) (f g : Nat -> List Ex -> List D), (∀ i e, DIs (f i e) (g i e)) -> DIss (l.mapIdx f) (l.mapIdx g) := by
   intro l
   induction l with
   | nil => intro f g _; exact .nil
   | cons e l ih =>
    intro f g h
    rw [List.mapIdx_cons, List.mapIdx_cons]
    exact .cons (h 0 e) (ih _ _ fun i e => h (i + 1) e)
  refine this w _ _ fun i e => ?_
  exact .cons (D.Is.refl _) (.cons (D.Is.refl _) (.cons (D.Is.refl _) (.cons (D.Is.refl _) (.cons (D.Is.refl _) (.cons (D.Is.refl _) (.cons (D.Is.refl _) (.cons (D.Is.nil 1) (.cons (D.Is.refl _) (.cons (D.Is.refl _) (.cons (D.Is.refl _) (.cons (D.Is.refl _) (.cons (D.Is.refl _) (.cons (D.Is.refl _) .nil)))))))))))))
 have hla : (w.map fun es => [xb es]).length = w.length := by simp
 have hk := zni G 100 znh
 refine ze Tryz.func38 rfl (by rw [Tryz.ntmps38]; simp) rfl rfl ?_; intro E hH hK
 (refine zh ?_; conv => whnf)
 refine zf [0, 2, 3, 4] ?_
 change SW E _ [(0, .imm (.isl 1 (w.map fun es => [xb es]))), (2, .ptr 0 0), (3, .ptr 1 0), (4, sI 0)] [.cells [.imm zap, .imm zap, .imm zap], .cells [.imm (zk zbs), .imm (zk zbt), .imm zap]]
 refine zms 1 2 14 (cs := [.imm (zk zbs), .imm (zk zbt), .imm zap]) rfl rfl ?_
 change SW E _ [(0, .imm (.isl 1 (w.map fun es => [xb es]))), (2, .ptr 0 0), (3, .ptr 1 0), (4, sI 0)] [.cells [.imm zap, .imm zap, .imm zap], .cells [.imm (zk zbs), .imm (zk zbt), .asl 2 14 []], .tok 14 0]
 refine zt w (fun i (_ : List (List D)) => [(0, .imm (.isl 1 (w.map fun es => [xb es]))), (2, .ptr 0 0), (3, .ptr 1 0), (4, sI i)]) (fun _ L => [.cells [.imm zap, .imm zap, .imm zap], .cells [.imm (zk zbs), .imm (zk zbt), .asl 2 14 L], .tok 14 L.length])
  (fun done _ L => L = done.mapIdx ybs) [] rfl ?_ ?_
 ·rintro L h1
  rw [<- h1] at hK
  refine zfx ?_
  change SW E _ [(0, .imm (.isl 1 (w.map fun es => [xb es]))), (2, .ptr 0 0), (3, .ptr 1 0), (4, sI w.length)] [.cells [.imm zap, .imm zap, .imm zap], .cells [.imm (zk zbs), .imm (zk zbt), .imm (.isl 14 L)], _]
  (refine zh ?_; conv => whnf)
  repeat' ((with_reducible refine way ?_ ?_) <;> (intro h; conv => whnf))
  all_goals try (exfalso; omega)
  exact hK _
 ·rintro done x rest L hda hdl h1 ih
  have hw2 := zm (n := done.length) (by omega)
  have hrx : (w.map fun es => [xb es])[done.length]? = some [xb x] := by simp [hda]
  have hLl : L.length = done.length := by rw [h1]; simp
  have hsn : (done ++ [x]).mapIdx ybs = L ++ [ybs done.length x] := by rw [List.mapIdx_concat, <- h1]
  (refine zh ?_; conv => whnf)
  repeat' ((with_reducible refine way ?_ ?_) <;> (intro h; conv => whnf))
  all_goals try (exfalso; omega)
  (refine ya 0 mixed rfl ?_; refine zc [777] (nx := 3) ?_; conv => whnf)
  refine yc (i := done.length) (row := [xb x]) rfl (show 3 <= 3 by decide) rfl hrx ?_
  (refine zc [777] (nx := 3) ?_; conv => whnf)
  refine zae rfl (show 3 <= 3 by decide) hk ?_
  (refine zc [777] (nx := 3) ?_; conv => whnf)
  rw [show IntKind.i64.wrap ((done.length : Int) + 1) = (done.length : Int) + 1 from wo (by omega) (by omega)]
  refine zfe (b := 2) (kk := 14) (rows := L) (new := [ybs done.length x]) rfl rfl rfl rfl rfl rfl rfl rfl rfl rfl ⟨by decide, rfl⟩ (show 3 <= 3 by decide) rfl (by simp only [List.length_cons, List.length_nil]; omega) ?_
  (refine zc [777] (nx := 3) ?_; conv => whnf)
  (refine zh ?_; conv => whnf)
  rw [hw2]
  refine zf [0, 2, 3, 4] ?_
  exact ih (L ++ [ybs done.length x]) hsn.symm
def zgs (i : Nat) (d : D) : List SV := [sI ((i : Int) + 1), sI 0, sI 1, sI 8766, sI 36525, sI 8766, .imm d, .imm zap, sI 1, sI 100, sS znh, sI 0, .imm (.isl 3 []), .imm (.isl 6 [])]
theorem zzg : ∀ (ds : List D) (f : Nat -> Nat), ((ds.mapIdx fun i d => zgs (f i) d).flatten).length = ds.length * 14
 | [], _ => rfl
 | d :: r, f => by
  rw [List.mapIdx_cons, List.flatten_cons, List.length_append, zzg r (fun i => f (i + 1))]
  simp only [List.length_cons, zgs, List.length_nil]
  omega
theorem ymb (ds : List D) (hw : ds.length <= 1000) (hds : ∀ d ∈ ds, d = zap) : SCall Tryz.prog G 38 [.imm (.isl 1 (ds.map fun d => [d]))] [] (fun r H' => r = .agg [.imm (zk zbs), .imm (zk zbt), .vec 2 ds.length] /\ ∃ x y, H' = [x, y, .vec 14 (ds.mapIdx zgs).flatten]) := by
 have hk := zni G 100 znh
 have hla : (ds.map fun d => [d]).length = ds.length := by simp
 refine yy Tryz.func38 rfl (by rw [Tryz.ntmps38]; simp) ?_
 intro E hH hK
 (refine zh ?_; conv => whnf)
 refine zf [0, 2, 3, 4] ?_
 change SW E _ [(0, .imm (.isl 1 (ds.map fun d => [d]))), (2, .ptr 0 0), (3, .ptr 1 0), (4, sI 0)] [.cells [.imm zap, .imm zap, .imm zap], .cells [.imm (zk zbs), .imm (zk zbt), .imm zap]]
 refine zml 1 2 14 (cs := [.imm (zk zbs), .imm (zk zbt), .imm zap]) rfl rfl ?_
 change SW E _ [(0, .imm (.isl 1 (ds.map fun d => [d]))), (2, .ptr 0 0), (3, .ptr 1 0), (4, sI 0)] [.cells [.imm zap, .imm zap, .imm zap], .cells [.imm (zk zbs), .imm (zk zbt), .vec 2 0], .vec 14 []]
 refine zt ds (fun i (_ : List SV) => [(0, .imm (.isl 1 (ds.map fun d => [d]))), (2, .ptr 0 0), (3, .ptr 1 0), (4, sI i)]) (fun i L => [.cells [.imm zap, .imm zap, .imm zap], .cells [.imm (zk zbs), .imm (zk zbt), .vec 2 i], .vec 14 L])
  (fun done _ L => L = (done.mapIdx zgs).flatten) [] rfl ?_ ?_
 ·rintro L h1
  (refine zh ?_; conv => whnf)
  repeat' ((with_reducible refine way ?_ ?_) <;> (intro h; conv => whnf))
  all_goals try (exfalso; omega)
  rw [h1]
  exact hK _ _ ⟨rfl, _, _, rfl⟩
 ·rintro done x rest L hda hdl h1 ih
  have hw2 := zm (n := done.length) (by omega)
  have hrx : (ds.map fun d => [d])[done.length]? = some [x] := by simp [hda]
  have hLl : L.length = done.length * 14 := by rw [h1]; exact zzg done fun i => i
  have hx : x = zap := hds x (by rw [hda]; simp)
  subst hx
  have hsn : ((done ++ [zap]).mapIdx zgs).flatten = L ++ zgs done.length zap := by rw [List.mapIdx_concat, List.flatten_append, <- h1]; simp
  (refine zh ?_; conv => whnf)
  repeat' ((with_reducible refine way ?_ ?_) <;> (intro h; conv => whnf))
  all_goals try (exfalso; omega)
  (refine ya 0 mixed rfl ?_; refine zc [777] (nx := 3) ?_; conv => whnf)
  refine yc (i := done.length) (row := [zap]) rfl (show 3 <= 3 by decide) rfl hrx ?_
  (refine zc [777] (nx := 3) ?_; conv => whnf)
  refine zae rfl (show 3 <= 3 by decide) hk ?_
  (refine zc [777] (nx := 3) ?_; conv => whnf)
  rw [show IntKind.i64.wrap ((done.length : Int) + 1) = (done.length : Int) + 1 from wo (by omega) (by omega)]
  refine zrh (b := 2) (kk := 14) (n := done.length) (cs := L) (new := [[dI ((done.length : Int) + 1), dI 0, dI 1, dI 8766, dI 36525, dI 8766, zap, zap, dI 1, dI 100, dS znh, dI 0, .isl 3 [], .isl 6 []]]) rfl rfl rfl rfl rfl rfl rfl rfl rfl rfl ⟨by decide, rfl⟩ (show 3 <= 3 by decide) rfl hLl (by decide) (Nat.le_refl 1) (by simp only [List.length_cons, List.length_nil]; omega) ?_
  (refine zc [777] (nx := 3) ?_; conv => whnf)
  (refine zh ?_; conv => whnf)
  rw [hw2]
  refine zf [0, 2, 3, 4] ?_
  exact ih (L ++ zgs done.length zap) hsn.symm
def eK (n : Int) (u : ByteArray) : Ex := .mk 1 n u 0 [] []
def eF (n : Int) (u : ByteArray) : Ex := .mk 2 n u 0 [] []
def eT (op : Int) (a b : Ex) : Ex := .mk op 0 tT 0 [] [a, b]
def zwb : Ex := eT 9 (eK 480 tM) (eF 0 tM)
def zgt : Ex := eT 8 (.mk 4 1 tN 0 [] []) (eK 7 tN)
def zjq : Ex := eT 9 (eF 2 tN) (eK 18 tN)
def zjr : Ex := eT 10 (eK 18 tN) (eF 2 tN)
def yie : Ex := eT 9 (eK 30 tN) (eF 2 tN)
def xC : Codex := yhk [[zwb, zgt], [eT 6 zjq zjr], [eF 1 tT], [yie]]
def xD : Codex := yhk [[eF 1 tT], [yie]]
def xR : Codex := ⟨zbs, zbt, [⟨1, 0, 1, 8766, 36525, 8766, [], [], .mk 3 2 znh 0 [] []⟩, ⟨2, 0, 1, 8766, 36525, 8766, [], [], .mk 3 1 znh 0 [] []⟩]⟩
theorem ytp : zq xC = true := by kernel_rfl
theorem yuy : zq xD = true := by kernel_rfl
theorem ytq : zq xR = true := by kernel_rfl
def ybt (x : Int) : List Int -> List Int
 | [] => [x]
 | y :: l => if x <= y then x :: y :: l else y :: ybt x l
def zzh : List Int -> List Int
 | [] => []
 | x :: l => ybt x (zzh l)
theorem znj (x : Int) : ∀ l, (ybt x l).Perm (x :: l)
 | [] => .refl _
 | y :: l => by
  rw [ybt]
  split
  ·exact .refl _
  ·exact ((znj x l).cons y).trans (.swap x y l)
theorem ztu : ∀ l, (zzh l).Perm l
 | [] => .refl _
 | x :: l => (znj x _).trans ((ztu l).cons x)
theorem zod (x : Int) : ∀ l, l.Pairwise (· <= ·) -> (ybt x l).Pairwise (· <= ·)
 | [], _ => by simp [ybt]
 | y :: l, h => by
  rw [List.pairwise_cons] at h
  rw [ybt]
  split
  ·rename_i hxy
   rw [List.pairwise_cons]
   refine ⟨fun z hz => ?_, List.pairwise_cons.2 h⟩
   rcases List.mem_cons.1 hz with rfl | hz
   ·exact hxy
   ·have := h.1 z hz; omega
  ·rename_i hxy
   rw [List.pairwise_cons]
   refine ⟨fun z hz => ?_, zod x l h.2⟩
   rcases List.mem_cons.1 ((znj x l).mem_iff.1 hz) with rfl | hz
   ·omega
   ·exact h.1 z hz
theorem zoe : ∀ l, (zzh l).Pairwise (· <= ·)
 | [] => .nil
 | x :: l => zod x _ (zoe l)
theorem zmb : ∀ {a b : List Int}, a.Perm b -> a.Pairwise (· <= ·) -> b.Pairwise (· <= ·) -> a = b
 | [], b, h, _, _ => by rw [List.nil_perm.1 h]
 | x :: a, [], h, _, _ => by cases (List.perm_nil.1 h)
 | x :: a, y :: b, h, ha, hb => by
  rw [List.pairwise_cons] at ha hb
  have hxy : x = y := by
   have h1 : x ∈ y :: b := h.mem_iff.1 (by simp)
   have h2 : y ∈ x :: a := h.mem_iff.2 (by simp)
   rcases List.mem_cons.1 h1 with h1 | h1
   ·exact h1
   ·rcases List.mem_cons.1 h2 with h2 | h2
    ·exact h2.symm
    ·have := ha.1 y h2
     have := hb.1 x h1
     omega
  subst hxy
  rw [zmb h.cons_inv ha.2 hb.2]
theorem zkq (l : List Int) : zdk l = zzh l := by
 refine zmb ((List.mergeSort_perm l fun x y => decide (x <= y)).trans (ztu l).symm) ?_ (zoe l)
 have := List.pairwise_mergeSort (le := fun x y : Int => decide (x <= y)) (fun a b c h1 h2 => by simp at *; omega) (fun a b => by simp; omega) l
 exact this.imp fun h => by simpa using h
def zmc (m : List (Int × List Int)) : List (Int × List Int) := (zzh (m.map (·.1))).map fun f => (f, zzh ((zo f m).getD []))
theorem ybu (m : List (Int × List Int)) : zu m = zmc m := by
 unfold zu zmc
 rw [zkq]
 congr 1
 funext f
 rw [zkq]
def yos (vs : List Int) : List Int := Go.Lib.compact (zzh vs)
theorem yeo (vs : List Int) : zr vs = yos vs := by
 unfold zr yos
 rw [show (vs.mergeSort fun x y => decide (x <= y)) = zzh vs from zkq vs]
def ybv (c : Codex) (vs : List Int) : Option Sr :=
 match zag c (yos vs) sr0 with
 | some s => if zfd s.cands <= 4096 then some s else none
 | none => none
theorem ztv (c : Codex) (vs : List Int) : xc c vs = ybv c vs := by unfold xc ybv; rw [yeo]; try rfl
def ztw (ch : List (Int × List Int)) (s : Sr) (nf : Nat) : Nat -> Int -> List ByteArray -> Option (Int × List Int)
 | 0, _, _ => none
 | n + 1, day, failed =>
  if zab s.conds (st0 nf day) = 0 then ztw ch s nf n (day + 1) failed
  else if zmr s.atoms (st0 nf day) ∈ failed then ztw ch s nf n (day + 1) failed
  else match wx s.conds ch (st0 nf day) with
   | some vs => some (day, vs)
   | none => ztw ch s nf n (day + 1) (failed ++ [zmr s.atoms (st0 nf day)])
theorem zrq (s : Sr) (nf : Nat) : ∀ (n : Nat) (day : Int) (failed : List ByteArray), zcd s nf n day failed = ztw (zmc s.cands) s nf n day failed
 | 0, _, _ => rfl
 | n + 1, day, failed => by
  rw [zcd, ztw, zrq s nf n, ybu]
  congr 2
  cases wx s.conds (zmc s.cands) (st0 nf day) with
  | some vs => rfl
  | none => simp only; exact zrq s nf n _ _
def znk (c : Codex) (vers : List Int) (s : Sr) : Option View :=
 let fr := yj c vers
 let to := min fr.2 (fr.1 + yq s.dates)
 match ztw (zmc s.cands) s c.facts.length (to - fr.1).toNat fr.1 [] with
 | some (day, vs) => some ⟨day, (List.range c.facts.length).map fun (i : Nat) => (zo (i : Int) s.cands).isSome, vs, vers⟩
 | none => none
theorem zwc (c : Codex) (vers : List Int) (s : Sr) : qw c vers s = znk c vers s := by unfold qw znk; simp only [zrq]; try rfl
def yep (c : Codex) (vs : List Int) : Option View :=
 if zq c && vs.all (fun v => decide (0 <= v) && decide (v < c.arts.length)) then
  match ybv c vs with
  | some s => znk c (yos vs) s
  | none => none
 else none
theorem zgu (c : Codex) (vs : List Int) : ye c vs = yep c vs := by
 unfold ye yep
 rw [ztv, yeo]
 simp only [zwc]
 try rfl
theorem yuz : ye xC [0] = some ⟨8772, [true, false, false], [481, 0, 0], [0]⟩ := by rw [zgu]; kernel_rfl
theorem yva : ye xC [1] = none := by rw [zgu]; kernel_rfl
theorem yot : zce xD = some (0, 1, ⟨8766, [false, true, true], [0, 1, 31], [0, 1]⟩) := by
 unfold zce
 simp only [zgu]
 kernel_rfl
theorem yry : znt xC = [1] := by
 unfold znt
 simp only [zgu, ztv]
 kernel_rfl
theorem yrz : zlu (zv xR) = [0, 1] := by kernel_rfl
theorem ysa : zlu (zv xC) = [] := by kernel_rfl
def zof (c : Codex) (p : Int × Int) : Option (Int × Int × View) := if zgc c p.1 p.2 then (ye c [p.1, p.2]).map fun v => (p.1, p.2, v) else none
def you (n i j : Nat) : List (Int × Int) := (List.range' j (n - j)).map fun (j : Nat) => ((i : Int), (j : Int))
def zrr (n i : Nat) : List (Int × Int) := (List.range' i (n - i)).flatMap fun i => you n i (i + 1)
theorem zmd : ∀ (k s i : Nat), s <= i + 1 -> (List.range' s k).filter (fun j => decide (i < j)) = List.range' (i + 1) (s + k - (i + 1))
 | 0, s, i, h => by
  have : s + 0 - (i + 1) = 0 := by omega
  rw [this]; rfl
 | k + 1, s, i, h => by
  rw [List.range'_succ, List.filter_cons]
  by_cases hs : i < s
  ·rw [if_pos (by simpa using hs)]
   have e : s = i + 1 := by omega
   subst e
   have h2 : ∀ (k s : Nat), i < s -> (List.range' s k).filter (fun j => decide (i < j)) = List.range' s k := fun k s hs => List.filter_eq_self.2 fun j hj => by
    have := (List.mem_range'_1.1 hj).1
    simp; omega
   rw [h2 k _ (by omega), show i + 1 + (k + 1) - (i + 1) = k + 1 by omega, List.range'_succ]
  ·rw [if_neg (by simpa using hs), zmd k (s + 1) i (by omega)]
   congr 1
   omega
theorem yhl (n : Nat) : yao n = zrr n 0 := by
 unfold yao zrr you
 rw [List.range_eq_range', Nat.sub_zero]
 congr 1
 funext i
 rw [zmd n 0 i (by omega), Nat.zero_add]
theorem yhm {n i : Nat} (h : i < n) : zrr n i = you n i (i + 1) ++ zrr n (i + 1) := by
 unfold zrr
 rw [show n - i = (n - (i + 1)) + 1 by omega, List.range'_succ, List.flatMap_cons]
theorem ymc (n : Nat) : zrr n n = [] := by unfold zrr; simp
theorem ymd {n i j : Nat} (h : j < n) : you n i j = ((i : Int), (j : Int)) :: you n i (j + 1) := by
 unfold you
 rw [show n - j = (n - (j + 1)) + 1 by omega, List.range'_succ, List.map_cons]
theorem yov {n i j : Nat} (h : n <= j) : you n i j = [] := by
 unfold you
 rw [show n - j = 0 by omega]; rfl
theorem yhn {c : Codex} (hok : zq c = true) : zce c = (zrr c.arts.length 0).findSome? (zof c) := by
 unfold zce
 rw [if_pos hok, yhl]
 rfl
def yme (o : Option (Int × Int × View)) : SV :=
 match o with
 | some (i, j, v) => .tup [sI i, sI j, .agg [sI v.day, .imm (xm v.has), .imm (dInts v.value), .imm (dInts v.arts)], sB true]
 | none => .tup [sI 0, sI 0, .agg zaj, sB false]
def ypv (o : Option (Int × Int × View)) : SV := .tup [sI ((o.map (·.1)).getD 0), sI ((o.map (·.2.1)).getD 0), View.sv ((o.map (·.2.2)).getD zqp), sB o.isSome]
theorem yho (o : Option (Int × Int × View)) : (yme o).Is (ypv o) := by
 cases o with
 | some v => exact SV.Is.refl _
 | none => exact SIs.tup (.cons (SV.Is.refl _) (.cons (SV.Is.refl _) (.cons (SIs.agg (.cons (SV.Is.refl _) (.cons (SV.Is.nil 1) (.cons (SV.Is.nil 1) (.cons (SV.Is.nil 1) .nil))))) (.cons (SV.Is.refl _) .nil))))
theorem ysb (c : Codex) (hfit : Codex.fit c) (hS : zq c = true -> SearchC c) (hz : c.arts.length <= 1000000) :
  yb Tryz.prog G0 13 [c.sv] (yme (zce c)) := by
 have hal : (c.arts.map Article.cells).length = c.arts.length := by simp
 have hV := jr G0 c hfit
 refine ze Tryz.func13 rfl (by rw [Tryz.ntmps13]; simp) rfl (by cases zce c <;> rfl) ?_
 intro E hH hK
 have hdo := @yhn c
 have hwi := @zfm c
 have hno : zq c = false -> zce c = none := fun h => by unfold zce; rw [if_neg (by simp [h])]
 generalize hz2 : zq c = z at hV hS hdo hwi hno
 rw [show c.sv = .agg [.imm (zk c.facts), .imm (zk c.lines), .imm (xw c.arts)] from rfl]
 (refine zh ?_; conv => whnf)
 refine zd rfl  hV ?_
 cases z <;> ((refine za ?_; conv => whnf))
 ·rw [hno rfl] at hK
  exact hK _
 have hS := hS rfl
 have hdo := hdo rfl
 refine zf [1, 2, 3, 4, 5, 17, 18, 19] ?_
 change SW E _ [(1, .ptr 0 0), (2, sI 0), (3, sI 0), (4, .ptr 1 0), (5, sB false), (17, .imm (xw c.arts)), (18, sI (c.arts.map Article.cells).length), (19, sI 0)] [ybp c, .cells zaj]
 refine zt c.arts (fun i (_ : Unit) => [(1, .ptr 0 0), (2, sI 0), (3, sI 0), (4, .ptr 1 0), (5, sB false), (17, .imm (xw c.arts)), (18, sI (c.arts.map Article.cells).length), (19, sI i)]) (fun _ _ => [ybp c, .cells zaj])
  (fun done _ _ => zce c = (zrr c.arts.length done.length).findSome? (zof c)) () hdo ?_ ?_
 ·rintro _ h1
  rw [ymc] at h1
  rw [h1] at hK
  (refine zh ?_; conv => whnf)
  repeat' ((with_reducible refine way ?_ ?_) <;> (intro h; conv => whnf))
  all_goals try (exfalso; omega)
  exact hK _
 ·rintro done x rest _ hda hdl h1 ih
  have hw := zm (n := done.length) (by omega)
  rw [yhm (by omega), List.findSome?_append] at h1
  have hnext : zce c = (zrr c.arts.length (done.length + 1)).findSome? (zof c) -> SW E _ _ _ := fun h => ih () (by rw [List.length_append]; exact h)
  (refine zh ?_; conv => whnf)
  repeat' ((with_reducible refine way ?_ ?_) <;> (intro h; conv => whnf))
  all_goals try (exfalso; omega)
  rw [hw]
  refine zf [1, 2, 3, 4, 5, 6, 7, 17, 18, 19] ?_
  refine xy (σ := Nat) (fun j => [(1, .ptr 0 0), (2, sI 0), (3, sI 0), (4, .ptr 1 0), (5, sB false), (6, sI done.length), (7, sI j), (17, .imm (xw c.arts)), (18, sI (c.arts.map Article.cells).length), (19, sI done.length)]) (fun _ => [ybp c, .cells zaj])
   (fun j => done.length + 1 <= j /\ j <= c.arts.length /\ zce c = ((you c.arts.length done.length j).findSome? (zof c)).or ((zrr c.arts.length (done.length + 1)).findSome? (zof c))) (fun j => c.arts.length - j) ?_ (done.length + 1) ⟨Nat.le_refl _, by omega, h1⟩
  rintro j ⟨j1, j2, j3⟩ ih2
  have hwj := zm (n := j) (by omega)
  by_cases hj : j < c.arts.length
  ·rw [ymd hj, List.findSome?_cons] at j3
   have hi : ∀ v ∈ [(done.length : Int), (j : Int)], 0 <= v /\ v < c.arts.length := fun v hv => by
    rcases List.mem_cons.1 hv with rfl | hv
    ·omega
    ·simp at hv; subst hv; omega
   have hcon := zqz G0 c hS.need (done.length : Int) (j : Int) (by omega) (by omega) (by omega) (by omega)
   have hN := zhy c hS [(done.length : Int), (j : Int)] hi (by simp) [ybp c, .cells zaj]
   have hwi2 := hwi rfl hi
   have hgo : zof c ((done.length : Int), (j : Int)) = none -> SW E _ _ _ := fun h => by
    rw [h] at j3
    exact ih2 (j + 1) ⟨by omega, by omega, j3⟩ (by omega)
   have hst : ∀ v, zof c ((done.length : Int), (j : Int)) = some v -> zce c = some v := fun v h => by
    rw [h] at j3
    exact j3
   have hcf : zof c ((done.length : Int), (j : Int)) = if zgc c done.length j then (ye c [(done.length : Int), (j : Int)]).map fun v => ((done.length : Int), (j : Int), v) else none := rfl
   generalize zgc c (done.length : Int) (j : Int) = b at hcon hcf
   (refine zh ?_; conv => whnf)
   repeat' ((with_reducible refine way ?_ ?_) <;> (intro h; conv => whnf))
   all_goals try (exfalso; omega)
   refine zd rfl  hcon ?_
   cases b <;> ((refine za ?_; conv => whnf))
   ·rw [hwj]
    refine zf [1, 2, 3, 4, 5, 6, 7, 17, 18, 19] ?_
    exact hgo hcf
   refine we (argv := [c.sv, .imm (dInts [(done.length : Int), (j : Int)])]) rfl rfl rfl rfl rfl rfl (hN.mono ?_)
   intro r H' hK1
   cases hq : xc c [(done.length : Int), (j : Int)] with
   | none =>
    rw [hq] at hK1 hwi2
    simp only at hwi2
    rw [hwi2] at hcf
    obtain ⟨p, H1, hp, rfl, rfl⟩ := hK1
    refine ⟨Nat.le_add_left 2 _, ?_⟩
    refine Eq.mpr (congrArg (fun h => SWr E _ _ _ _ h) (show _ = ybp c :: .cells zaj :: H1 from rfl)) ?_
    rcases hp with rfl | rfl <;> ((refine za ?_; conv => whnf)) <;> rw [hwj]
    all_goals exact yr [1, 2, 3, 4, 5, 6, 7, 17, 18, 19] 2 (by rw [hH]; exact Nat.zero_le 2) (Nat.succ_le_succ (Nat.succ_le_succ (Nat.zero_le _))) rfl rfl (hgo hcf)
   | some q =>
    have hWt := znb c hS [(done.length : Int), (j : Int)] hi (by simp) q hq [ybp c, .cells zaj]
    rw [hq] at hK1 hwi2
    simp only at hwi2
    obtain ⟨rfl, rfl⟩ := hK1
    refine ⟨by rw [List.length_append]; exact Nat.le_add_right _ _, ?_⟩
    (refine za ?_; conv => whnf)
    refine we rfl rfl rfl rfl rfl rfl (hWt.mono ?_)
    rintro r H' ⟨rfl, ⟨H1, rfl⟩, hl⟩
    refine ⟨hl, ?_⟩
    rw [<- hwi2]
    refine qi (t' := [(1, .ptr 0 0), (2, sI 0), (3, sI 0), (4, .ptr 1 0), (5, sB false), (6, sI done.length), (7, sI j), (17, .imm (xw c.arts)), (18, sI (c.arts.map Article.cells).length), (19, sI done.length), (48, zls (ye c [(done.length : Int), (j : Int)]))]) (H' := [ybp c, .cells zaj])
     (fun k h => zf [1, 2, 3, 4, 5, 6, 7, 17, 18, 19, 48] (ycr 2 (by rw [hH]; exact Nat.zero_le 2) (Nat.succ_le_succ (Nat.succ_le_succ (Nat.zero_le _))) (by cases ye c [(done.length : Int), (j : Int)] <;> rfl) rfl h)) ?_
    generalize ye c [(done.length : Int), (j : Int)] = o at hcf ⊢
    cases o with
    | none =>
     (refine za ?_; conv => whnf)
     rw [hwj]
     exact yr [1, 2, 3, 4, 5, 6, 7, 17, 18, 19] 2 (by rw [hH]; exact Nat.zero_le 2) (Nat.succ_le_succ (Nat.succ_le_succ (Nat.zero_le _))) rfl rfl (hgo hcf)
    | some v =>
     rw [hst _ hcf] at hK
     (refine za ?_; conv => whnf)
     refine zf [1, 2, 3, 4, 5, 6, 7, 10] ?_
     change SW E _ [(1, .ptr 0 0), (2, sI 0), (3, sI 0), (4, .ptr 1 0), (5, sB false), (6, sI done.length), (7, sI j), (10, .ptr 2 0)] [ybp c, .cells zaj, .cells [sI v.day, .imm (xm v.has), .imm (dInts v.value), .imm (dInts v.arts)]]
     (refine ya 0 mixed rfl ?_; refine zc [777] (nx := 3) ?_; conv => whnf)
     (refine zh ?_; conv => whnf)
     exact hK _
  ·rw [yov (by omega), List.findSome?_nil, Option.none_or] at j3
   have ej : j = c.arts.length := by omega
   (refine zh ?_; conv => whnf)
   repeat' ((with_reducible refine way ?_ ?_) <;> (intro h; conv => whnf))
   all_goals try (exfalso; omega)
   rw [hw]
   refine zf [1, 2, 3, 4, 5, 17, 18, 19] ?_
   exact hnext j3
theorem ybw (c : Codex) (hfit : Codex.fit c) (hS : zq c = true -> SearchC c) (hz : c.arts.length <= 1000000) :
  yb Tryz.prog G0 13 [c.sv] (ypv (zce c)) := zcm (ysb c hfit hS hz) (yho _)
theorem ytr (w : List (List Ex)) (h : ∀ es ∈ w, es.length <= 41) : Codex.fit (yhk w) /\ ∀ a ∈ (yhk w).arts, a.when_.length <= 41 /\ a.unless_.length <= 80 := by
 have hm : ∀ a ∈ (yhk w).arts, a.when_.length <= 41 /\ a.unless_.length <= 80 := fun a ha => by
  obtain ⟨i, hi, rfl⟩ := List.mem_mapIdx.1 ha
  exact ⟨h _ (List.getElem_mem hi), Nat.zero_le _⟩
 exact ⟨fun a ha => by have := hm a ha; omega, hm⟩
theorem zif : Codex.fit xC /\ SearchC xC /\ xC.arts.length <= 1000000 := by
 obtain ⟨h1, h2⟩ := ytr [[zwb, zgt], [eT 6 zjq zjr], [eF 1 tT], [yie]] (by simp)
 exact ⟨h1, zjb ytp (by decide) h2, by decide⟩
theorem ymf : Codex.fit xD /\ SearchC xD /\ xD.arts.length <= 1000000 := by
 obtain ⟨h1, h2⟩ := ytr [[eF 1 tT], [yie]] (by simp)
 exact ⟨h1, zjb yuy (by decide) h2, by decide⟩
theorem yeq : Codex.fit xR /\ NeedC xR /\ xR.arts.length <= 60 := by
 have h : ∀ a ∈ xR.arts, a.when_.length <= 1000000 /\ a.unless_.length <= 1000000 := by simp [xR]
 exact ⟨fun a ha => by have := h a ha; omega, yee ytq h, by decide⟩
abbrev bx (x : Ex) : SObj := .cells (x.cells.map SV.imm)
abbrev bv (v : View) : SObj := .cells [sI v.day, .imm (xm v.has), .imm (dInts v.value), .imm (dInts v.arts)]
def yif (i : Nat) (n : Int) : List D := [dI ((i : Int) + 1), dI 0, dI 1, dI 8766, dI 36525, dI 8766, zap, zap, dI 3, dI n, dS znh, dI 0, zap, zap]
abbrev yvb (x y z : SObj) (cs : List SV) : List SObj := [bx zwb, bx zgt, bx zjq, bx zjr, bx yie, zdo xC, bv ⟨8772, [true, false, false], [481, 0, 0], [0]⟩, bv zqp, bv ⟨8766, [false, true, true], [0, 1, 31], [0, 1]⟩, x, y, z, .cells cs]
theorem yvc : (SV.agg [.imm (zk zbs), .imm (zk zbt), .imm (.isl 14 [yif 0 2, yif 1 1])]).Is xR.sv := by
 refine SIs.agg (.cons (SV.Is.refl _) (.cons (SV.Is.refl _) (.cons (D.Is.imm (DIss.isl (k := 14) (.cons ?_ (.cons ?_ .nil)))) .nil)))
 all_goals exact .cons (D.Is.refl _) (.cons (D.Is.refl _) (.cons (D.Is.refl _) (.cons (D.Is.refl _) (.cons (D.Is.refl _) (.cons (D.Is.refl _) (.cons (D.Is.nil 6) (.cons (D.Is.nil 1) (.cons (D.Is.refl _) (.cons (D.Is.refl _) (.cons (D.Is.refl _) (.cons (D.Is.refl _) (.cons (D.Is.nil 3) (.cons (D.Is.nil 6) .nil)))))))))))))
theorem yts : yb Tryz.prog G0 9 [] (sB true) := by
  have k480 := zni G0 480 tM
  have f0 := yma G0 0 tM
  have tLong := yhj G0 9 (eK 480 tM) (eF 0 tM)
  have k7 := zni G0 7 tN
  have tSun := yhj G0 8 (.mk 4 1 tN 0 [] []) (eK 7 tN)
  have f2 := yma G0 2 tN
  have k18 := zni G0 18 tN
  have tYoung := yhj G0 9 (eF 2 tN) (eK 18 tN)
  have tAdult := yhj G0 10 (eK 18 tN) (eF 2 tN)
  have k30 := zni G0 30 tN
  have tOld := yhj G0 9 (eK 30 tN) (eF 2 tN)
  have tAnd := yhj G0 6 zjq zjr
  have f1 := yma G0 1 tT
  have eC := zzf G0 [[zwb, zgt], [eT 6 zjq zjr], [eF 1 tT], [yie]] (by decide)
  have eD := zzf G0 [[eF 1 tT], [yie]] (by decide)
  have w0 := zbn xC zif.1 (fun _ => zif.2.1) zif.2.2 [0] (by decide)
  have w1 := zbn xC zif.1 (fun _ => zif.2.1) zif.2.2 [1] (by decide)
  rw [yuz] at w0
  rw [yva] at w1
  have cl := ybw xD ymf.1 (fun _ => ymf.2.1) ymf.2.2
  rw [yot] at cl
  have s1 := zid G0 ⟨8772, [true, false, false], [481, 0, 0], [0]⟩ ⟨8772, [true, false, false], [481, 0, 0], [0]⟩ ⟨by decide, by decide, by decide⟩ ⟨by decide, by decide, by decide⟩ (by decide) (by decide)
  rw [show View.same' ⟨8772, [true, false, false], [481, 0, 0], [0]⟩ ⟨8772, [true, false, false], [481, 0, 0], [0]⟩ = true by decide] at s1
  have s2 := zid G0 ⟨8766, [false, true, true], [0, 1, 31], [0, 1]⟩ ⟨8766, [false, true, true], [0, 1, 31], [0, 1]⟩ ⟨by decide, by decide, by decide⟩ ⟨by decide, by decide, by decide⟩ (by decide) (by decide)
  rw [show View.same' ⟨8766, [false, true, true], [0, 1, 31], [0, 1]⟩ ⟨8766, [false, true, true], [0, 1, 31], [0, 1]⟩ = true by decide] at s2
  have dd := yhh xC zif.1 (fun _ => zif.2.1) zif.2.2
  rw [yry] at dd
  have s3 := zgp G0 [1] [1] (by decide) (by decide)
  rw [show decide (([1] : List Int) = [1]) = true by decide] at s3
  have rr := ztl G0 xR yeq.1 (fun _ => yeq.2.1) (fun _ => yeq.2.2) (fun _ => yls yeq.2.2) (fun j => Nat.le_trans (zrd _ _) (by decide)) (by decide)
  rw [if_pos ytq, yrz] at rr
  have s4 := zgp G0 [0, 1] [0, 1] (by decide) (by decide)
  rw [show decide (([0, 1] : List Int) = [0, 1]) = true by decide] at s4
  have rc := ztl G0 xC zif.1 (fun _ => zif.2.1.need) (fun _ => by decide) (fun _ => yls (by decide)) (fun j => Nat.le_trans (zrd _ _) (by decide)) (by decide)
  rw [if_pos ytp, ysa] at rc
  refine ze Tryz.func9 rfl (by rw [Tryz.ntmps9]; simp) rfl rfl ?_; intro E hH hK
  (refine zh ?_; conv => whnf)
  refine zd rfl  k480 ?_
  (refine za ?_; conv => whnf)
  refine zd rfl  f0 ?_
  (refine za ?_; conv => whnf)
  refine zd rfl  tLong ?_
  (refine za ?_; conv => whnf)
  refine qi (fun k h => ysr 20 rfl (zrp 4 1 tN) h) ?_
  (refine za ?_; conv => whnf)
  refine zd rfl  k7 ?_
  (refine za ?_; conv => whnf)
  refine zd rfl  tSun ?_
  (refine za ?_; conv => whnf)
  refine zd rfl  f2 ?_
  (refine za ?_; conv => whnf)
  refine zd rfl  k18 ?_
  (refine za ?_; conv => whnf)
  refine zd rfl  tYoung ?_
  (refine za ?_; conv => whnf)
  refine zd rfl  k18 ?_
  (refine za ?_; conv => whnf)
  refine zd rfl  f2 ?_
  (refine za ?_; conv => whnf)
  refine zd rfl  tAdult ?_
  (refine za ?_; conv => whnf)
  refine zd rfl  k30 ?_
  (refine za ?_; conv => whnf)
  refine zd rfl  f2 ?_
  (refine za ?_; conv => whnf)
  refine zd rfl  tOld ?_
  (refine za ?_; conv => whnf)
  refine zf [1, 2, 3, 4, 5] ?_
  change SW E _ [(1, .ptr 0 0), (2, .ptr 1 0), (3, .ptr 2 0), (4, .ptr 3 0), (5, .ptr 4 0)] [bx zwb, bx zgt, bx zjq, bx zjr, bx yie]
  (refine ya 1 mixed rfl ?_; refine zc [777] (nx := 5) ?_; conv => whnf)
  refine zae rfl (show 5 <= 6 by decide) tAnd ?_
  (refine zc [777] (nx := 5) ?_; conv => whnf)
  refine zae rfl (show 5 <= 6 by decide) f1 ?_
  (refine zc [777] (nx := 5) ?_; conv => whnf)
  refine zae rfl (show 5 <= 6 by decide) eC ?_
  (refine zc [777] (nx := 5) ?_; conv => whnf)
  refine zf [5, 6] ?_
  change SW E _ [(5, .ptr 4 0), (6, .ptr 5 0)] [bx zwb, bx zgt, bx zjq, bx zjr, bx yie, zdo xC]
  (refine zh ?_; conv => whnf)
  refine zd rfl  w0 ?_
  (refine za ?_; conv => whnf)
  refine zd rfl  w1 ?_
  (refine za ?_; conv => whnf)
  refine zf [5, 6, 7, 8, 10] ?_
  change SW E _ [(5, .ptr 4 0), (6, .ptr 5 0), (7, .ptr 6 0), (8, sB true), (10, sB false)] [bx zwb, bx zgt, bx zjq, bx zjr, bx yie, zdo xC, bv ⟨8772, [true, false, false], [481, 0, 0], [0]⟩, bv zqp]
  (refine ya 1 mixed rfl ?_; refine zc [777] (nx := 8) ?_; conv => whnf)
  refine zae rfl (show 8 <= 9 by decide) f1 ?_
  (refine zc [777] (nx := 8) ?_; conv => whnf)
  refine zae rfl (show 8 <= 9 by decide) eD ?_
  (refine zc [777] (nx := 8) ?_; conv => whnf)
  refine zae rfl (show 8 <= 9 by decide) cl ?_
  (refine zc [777] (nx := 8) ?_; conv => whnf)
  refine zf [6, 7, 8, 10, 11, 12, 13, 14] ?_
  change SW E _ [(6, .ptr 5 0), (7, .ptr 6 0), (8, sB true), (10, sB false), (11, sI 0), (12, sI 1), (13, .ptr 8 0), (14, sB true)] [bx zwb, bx zgt, bx zjq, bx zjr, bx yie, zdo xC, bv ⟨8772, [true, false, false], [481, 0, 0], [0]⟩, bv zqp, bv ⟨8766, [false, true, true], [0, 1, 31], [0, 1]⟩]
  have hV := zkd (ymb G0 [zap, zap] (by decide) (by simp)) [bx zwb, bx zgt, bx zjq, bx zjr, bx yie, zdo xC, bv ⟨8772, [true, false, false], [481, 0, 0], [0]⟩, bv zqp, bv ⟨8766, [false, true, true], [0, 1, 31], [0, 1]⟩]
  (refine zh ?_; conv => whnf)
  refine we (argv := [.imm (.isl 1 [[zap], [zap]])]) rfl rfl rfl rfl rfl rfl (hV.mono ?_)
  rintro r H' ⟨r1, H1, ⟨rfl, x, y, rfl⟩, rfl, rfl⟩
  refine ⟨by rw [List.length_append]; exact Nat.le_add_right _ _, ?_⟩
  (refine za ?_; conv => whnf)
  refine qi (t' := [(6, .ptr 5 0), (7, .ptr 6 0), (8, sB true), (10, sB false), (11, sI 0), (12, sI 1), (13, .ptr 8 0), (14, sB true), (15, .ptr 12 0), (72, .vec 11 2), (73, yhi 3 2 znh zap)]) (H' := yvb (x.sh 9) (y.sh 9) (.vec 14 (zgs 0 zap ++ zgs 1 zap)) [.imm (zk zbs), .imm (zk zbt), .vec 11 2]) (fun k h => zf [6, 7, 8, 10, 11, 12, 13, 14, 15, 72, 73] h) ?_
  generalize x.sh 9 = x'
  generalize y.sh 9 = y'
  refine ydd (i := 0) (kk := 14) (n := 2) (b := 11) (cs := zgs 0 zap ++ zgs 1 zap) rfl rfl rfl rfl rfl rfl (by rfl) rfl rfl (by decide) rfl (by decide) ?_
  refine zsu (b := 11) (n := 2) (kk := 14) (cs := zgs 0 zap ++ zgs 1 zap) rfl rfl rfl rfl rfl rfl (sz := 5) (by rfl) rfl rfl (by decide) (by decide) ?_
  refine zri (b := 11) (n := 2) (off := 8) (ns := 6) (vcs := [sI 3, sI 2, sS znh, sI 0, .imm zap, .imm zap]) (kk := 14) (cs := zgs 0 zap ++ zgs 1 zap) rfl rfl rfl rfl rfl rfl (by rfl) rfl rfl rfl (by decide) (by decide) (by decide) ?_
  refine qi (t' := [(6, .ptr 5 0), (7, .ptr 6 0), (8, sB true), (10, sB false), (11, sI 0), (12, sI 1), (13, .ptr 8 0), (14, sB true), (15, .ptr 12 0)]) (H' := yvb x' y' (.vec 14 ((yif 0 2).map SV.imm ++ zgs 1 zap)) [.imm (zk zbs), .imm (zk zbt), .vec 11 2]) (fun k h => zf [6, 7, 8, 10, 11, 12, 13, 14, 15] h) ?_
  (refine za ?_; conv => whnf)
  refine ydd (i := 1) (kk := 14) (n := 2) (b := 11) (cs := (yif 0 2).map SV.imm ++ zgs 1 zap) rfl rfl rfl rfl rfl rfl (by rfl) rfl rfl (by decide) rfl (by decide) ?_
  refine zsu (b := 11) (n := 2) (kk := 14) (cs := (yif 0 2).map SV.imm ++ zgs 1 zap) rfl rfl rfl rfl rfl rfl (sz := 5) (by rfl) rfl rfl (by decide) (by decide) ?_
  refine zri (b := 11) (n := 2) (off := 22) (ns := 6) (vcs := [sI 3, sI 1, sS znh, sI 0, .imm zap, .imm zap]) (kk := 14) (cs := (yif 0 2).map SV.imm ++ zgs 1 zap) rfl rfl rfl rfl rfl rfl (by rfl) rfl rfl rfl (by decide) (by decide) (by decide) ?_
  refine qi (t' := [(6, .ptr 5 0), (7, .ptr 6 0), (8, sB true), (10, sB false), (11, sI 0), (12, sI 1), (13, .ptr 8 0), (14, sB true), (15, .ptr 12 0)]) (H' := yvb x' y' .dead [.imm (zk zbs), .imm (zk zbt), .imm (.isl 14 [yif 0 2, yif 1 1])]) (fun k h => zf [6, 7, 8, 10, 11, 12, 13, 14, 15]
    (zoa 12 2 11 2 14 (cs0 := [.imm (zk zbs), .imm (zk zbt), .vec 11 2]) (cs := (yif 0 2 ++ yif 1 1).map SV.imm) (ds := yif 0 2 ++ yif 1 1) rfl rfl rfl rfl rfl rfl (by decide) h)) ?_
  (refine za ?_; conv => whnf)
  refine zd rfl  s1 ?_
  (refine za ?_; conv => whnf)
  refine zd rfl  s2 ?_
  (refine za ?_; conv => whnf)
  refine zd rfl  dd ?_
  (refine za ?_; conv => whnf)
  refine zd rfl  s3 ?_
  (refine za ?_; conv => whnf)
  refine qi (fun k h => ysr 122 rfl yvc h) ?_
  refine zd rfl  rr ?_
  (refine za ?_; conv => whnf)
  refine zd rfl  s4 ?_
  (refine za ?_; conv => whnf)
  refine zd rfl  rc ?_
  (refine za ?_; conv => whnf)
  exact hK _
def jg (n : Int) : List Article -> Nat -> Int
 | [], _ => -1
 | d :: r, i => if d.number = n then i else jg n r (i + 1)
theorem zgv (c : Codex) (n : Int) (hsz : c.arts.length <= 9223372036854775807) : yb Tryz.prog G 52 [c.sv, sI n] (sI (jg n c.arts 0)) := by
 refine ze Tryz.func52 rfl (by rw [Tryz.ntmps52]; simp) rfl rfl ?_; intro E hH hK
 have hlen : (c.arts.map Article.cells).length = c.arts.length := by simp
 (refine zi ?_; conv => whnf)
 refine zf [1, 2, 5] ?_
 refine zt c.arts (fun i (_ : Unit) => [(1, sI n), (2, .ptr 0 0), (5, sI i)]) (fun _ _ => [.cells [.imm (zk c.facts), .imm (zk c.lines), .imm (xw c.arts)]])
  (fun done rest _ => jg n c.arts 0 = jg n rest done.length) () rfl ?_ ?_
 ·rintro _ h1
  (refine zi ?_; conv => whnf)
  repeat' ((with_reducible refine way ?_ ?_) <;> (intro h; conv => whnf))
  all_goals try (exfalso; omega)
  exact kI hK (by rw [h1]; rfl)
 ·rintro done d rest _ ha hl h1 ih
  have hw := zm (n := done.length) (by omega)
  simp only [jg] at h1
  (refine zi ?_; conv => whnf)
  repeat' ((with_reducible refine way ?_ ?_) <;> (intro h; conv => whnf))
  all_goals try (exfalso; omega)
  refine zg rfl rfl  (row := d.cells) (by simp [ha]) ?_
  (refine zj ?_; conv => whnf)
  repeat' ((with_reducible refine way ?_ ?_) <;> (intro h; conv => whnf))
  ·exact kI hK (by rw [h1, if_pos h])
  ·rw [hw]; exact yr [1, 2, 5] 1 (by simp [hH]) (by simp) rfl rfl (ih () (by rw [h1, if_neg h]; simp))
theorem zkr (n : Int) : ∀ (l : List Article) (i : Nat), jg n l i = -1 \/ ((i : Int) <= jg n l i /\ jg n l i < i + l.length /\ ∃ a, l[(jg n l i).toNat - i]? = some a /\ a.number = n)
 | [], i => .inl rfl
 | a :: r, i => by
  simp only [jg]
  split
  ·rename_i h
   right
   refine ⟨by omega, by simp; omega, a, by simp, h⟩
  ·rcases zkr n r (i + 1) with h | ⟨h1, h2, x, h3, h4⟩
   ·exact .inl h
   ·right
    refine ⟨by omega, by simp; omega, x, ?_, h4⟩
    rw [show (jg n r (i + 1)).toNat - i = ((jg n r (i + 1)).toNat - (i + 1)) + 1 by omega]
    simpa using h3
theorem znl (n : Int) : ∀ (l : List Article) (i : Nat), jg n l i = -1 ↔ ∀ a ∈ l, a.number ≠ n
 | [], i => by simp [jg]
 | a :: r, i => by
  simp only [jg]
  split
  ·rename_i h
   constructor
   ·intro h'; omega
   ·intro h'; exact absurd h (h' a (by simp))
  ·rename_i h
   rw [znl n r (i + 1)]
   simp [h]
def zhe (L : Int) (a : Article) : Bool := decide (a.when_.length <= 40) && decide (a.unless_.length <= 80) && decide ((wa a.amount : Int) <= L) && a.when_.all (fun e => decide ((wa e : Int) <= L))
def zrs (c : Codex) (L : Int) : Bool := decide (c.facts.length <= 40) && decide (c.lines.length <= 40) && decide (c.arts.length <= 70) && c.arts.all (zhe L)
theorem yow (c : Codex) (L : Int) (h0 : 0 <= L) (h1 : L <= 999999) : yb Tryz.prog G 39 [c.sv, sI L] (sB (zrs c L)) := by
 refine ze Tryz.func39 rfl (by rw [Tryz.ntmps39]; simp) rfl rfl ?_; intro E hH hK
 have hlf : (c.facts.map Decl.cells).length = c.facts.length := by simp
 have hll : (c.lines.map Decl.cells).length = c.lines.length := by simp
 have hla : (c.arts.map Article.cells).length = c.arts.length := by simp
 (refine zi ?_; conv => whnf)
 repeat' ((with_reducible refine way ?_ ?_) <;> (intro h; conv => whnf))
 all_goals try exact kB hK (by simp [zrs]; intros; omega)
 have hsz : c.facts.length <= 40 /\ c.lines.length <= 40 /\ c.arts.length <= 70 := by omega
 have hok : zrs c L = c.arts.all (zhe L) := by simp [zrs, hsz]
 refine zf [1, 2, 5] ?_
 refine zt c.arts (fun i (_ : Unit) => [(1, sI L), (2, .ptr 0 0), (5, sI i)]) (fun _ _ => [.cells [.imm (zk c.facts), .imm (zk c.lines), .imm (xw c.arts)]])
  (fun done rest _ => c.arts.all (zhe L) = rest.all (zhe L)) () rfl ?_ ?_
 ·rintro _ h1
  (refine zi ?_; conv => whnf)
  repeat' ((with_reducible refine way ?_ ?_) <;> (intro h; conv => whnf))
  all_goals try (exfalso; omega)
  exact kB hK (by rw [hok, h1]; rfl)
 ·rintro done a rest _ ha hl hinv ih
  have hw := zm (n := done.length) (by omega)
  simp only [List.all_cons] at hinv
  obtain ⟨op, n, u, den, ps, ks, ham⟩ : ∃ op n u den ps ks, a.amount = .mk op n u den ps ks := by cases h : a.amount; exact ⟨_, _, _, _, _, _, rfl⟩
  have hrow : (c.arts.map Article.cells)[((done.length : Nat) : Int).toNat]? = some [dI a.number, dI a.line, dI a.rank, dI a.lo, dI a.hi, dI a.known, xb a.when_, dInts a.unless_, dI op, dI n, dS u, dI den, .isl 3 (ps.map Piece.cells), .isl 6 (zb ks)] := by
   simp [ha, Article.cells, ham, zp, Ex.op, Ex.n, Ex.unit, Ex.den, Ex.pieces, Ex.kids]
  have hwl : (a.when_.map Ex.cells).length = a.when_.length := by simp
  have hul : (a.unless_.map fun n => [dI n]).length = a.unless_.length := by simp
  have bad : zhe L a = false -> zrs c L = false := fun h => by rw [hok, hinv, h]; rfl
  (refine zi ?_; conv => whnf)
  repeat' ((with_reducible refine way ?_ ?_) <;> (intro h; conv => whnf))
  all_goals try (exfalso; omega)
  refine zg rfl rfl  (row := [dI a.number, dI a.line, dI a.rank, dI a.lo, dI a.hi, dI a.known, xb a.when_, dInts a.unless_, dI op, dI n, dS u, dI den, .isl 3 (ps.map Piece.cells), .isl 6 (zb ks)]) hrow ?_
  (refine zj ?_; conv => whnf)
  repeat' ((with_reducible refine way ?_ ?_) <;> (intro h; conv => whnf))
  all_goals try exact kB hK (bad (by simp [zhe]; intros; omega))
  refine zd rfl  (zmp G (.mk op n u den ps ks) L h0 h1) ?_
  (refine zj ?_; conv => whnf)
  repeat' ((with_reducible refine way ?_ ?_) <;> (intro h; conv => whnf))
  ·exact kB hK (bad (by simp [zhe, ham]; intros; omega))
  have hgood : zhe L a = a.when_.all (fun e => decide ((wa e : Int) <= L)) := by
   simp only [zhe, ham]
   rw [decide_eq_true (by omega), decide_eq_true (by omega), decide_eq_true h]; rfl
  refine zf [1, 2, 5, 6, 7] ?_
  refine zt a.when_ (fun i (_ : Unit) => [(1, sI L), (2, .ptr 0 0), (5, sI done.length), (6, .ptr 1 0), (7, sI i)])
   (fun _ _ => [.cells [.imm (zk c.facts), .imm (zk c.lines), .imm (xw c.arts)], .cells (zkc a op n u den ps ks)])
   (fun done rest _ => a.when_.all (fun e => decide ((wa e : Int) <= L)) = rest.all (fun e => decide ((wa e : Int) <= L))) () rfl ?_ ?_
  ·rintro _ h2
   (refine zi ?_; conv => whnf)
   repeat' ((with_reducible refine way ?_ ?_) <;> (intro h; conv => whnf))
   all_goals try (exfalso; omega)
   rw [hw]
   exact yr [1, 2, 5] 1 (by simp [hH]) (by simp) rfl rfl (ih () (by rw [hinv, hgood, h2]; rfl))
  ·rintro d2 e r2 _ ha2 hl2 h2 ih2
   have hw2 := zm (n := d2.length) (by omega)
   simp only [List.all_cons] at h2
   obtain ⟨o1, n1, u1, d1, p1, q1⟩ := e
   (refine zi ?_; conv => whnf)
   repeat' ((with_reducible refine way ?_ ?_) <;> (intro h; conv => whnf))
   all_goals try (exfalso; omega)
   refine zg rfl rfl  (row := (Ex.mk o1 n1 u1 d1 p1 q1).cells) (by simp [ha2]) ?_
   (refine zj ?_; conv => whnf)
   refine zd rfl  (zmp G (.mk o1 n1 u1 d1 p1 q1) L h0 h1) ?_
   (refine zj ?_; conv => whnf)
   repeat' ((with_reducible refine way ?_ ?_) <;> (intro h; conv => whnf))
   ·exact kB hK (bad (by rw [hgood, h2, decide_eq_false h]; rfl))
   ·rw [hw2]
    exact yr [1, 2, 5, 6, 7] 2 (by simp [hH]) (by simp) rfl rfl (ih2 () (by rw [h2, decide_eq_true h]; rfl))
section
variable {P : Program} {G : List (Nat × D)} {fn : Func} {rd : Bool} {E : En P G fn rd} {t : List (Nat × SV)} {H : List SObj} {k : List Item} {all : Array Oper} {rest : List Oper} {o : Oper}
theorem ymg {ty ty' : Nat} {x y : Operand} {a b : Int} (hop : o.op = .binOp .rem ty x y ty') (hw : zy all t o.guard = some true) (hd : yf fn.ntmps o.dst = true) (hx : zn G t x = sI a) (hy : zn G t y = sI b) (hb : b ≠ 0)
  (h : SWr E all rest k (wm t o.dst (sI (a.tmod b))) H) : SWr E all (o :: rest) k t H := by
 refine zas (r := sI (a.tmod b)) (H' := H) hw hd ?_ (Nat.le_refl _) h
 have hs : ymx P .rem ty (.int .i64 a) (.int .i64 b) = some (.int .i64 (a.tmod b)) := by
  show (if b = 0 then none else some (Value.int .i64 (a.tmod b))) = _
  rw [if_neg hb]
 rw [hop]
 simp only [sop, hx, hy, hs, Option.map_some]
end
def ypw (c : Codex) : Bool := zrs c 400 && decide (c.arts.length <= 12) && decide (c.facts.length <= 12)
theorem yhp (c : Codex) : yb Tryz.prog G0 10 [c.sv] (sB (ypw c)) := by
 have hal : (c.arts.map Article.cells).length = c.arts.length := by simp
 have hfl : (c.facts.map Decl.cells).length = c.facts.length := by simp
 have hfw := yow G0 c 400 (by decide) (by decide)
 have hu : ypw c = (zrs c 400 && decide (c.arts.length <= 12) && decide (c.facts.length <= 12)) := rfl
 rw [hu]
 generalize zrs c 400 = b at hfw
 refine ze Tryz.func10 rfl (by rw [Tryz.ntmps10]; simp) rfl rfl ?_; intro E hH hK
 rw [show c.sv = .agg [.imm (zk c.facts), .imm (zk c.lines), .imm (xw c.arts)] from rfl]
 (refine zh ?_; conv => whnf)
 refine zd rfl  hfw ?_
 cases b <;> ((refine za ?_; conv => whnf))
 ·exact hK _
 ·repeat' ((with_reducible refine way ?_ ?_) <;> (intro h; conv => whnf))
  ·have h1 : c.arts.length <= 12 := by omega
   rw [decide_eq_true h1, Bool.true_and, Bool.true_and] at hK
   have : decide (((c.facts.map Decl.cells).length : Int) <= 12) = decide (c.facts.length <= 12) := by rw [hfl]; exact decide_eq_decide.2 (by omega)
   rw [<- this] at hK
   exact hK _
  ·have h1 : ¬ c.arts.length <= 12 := by omega
   rw [decide_eq_false h1, Bool.and_false, Bool.false_and] at hK
   exact hK _
theorem ymh {c : Codex} (h : ypw c = true) : c.arts.length <= 12 /\ c.facts.length <= 12 /\ zrs c 420 = true /\ ∀ a ∈ c.arts, a.when_.length <= 41 /\ a.unless_.length <= 80 := by
 unfold ypw at h
 simp only [Bool.and_eq_true, decide_eq_true_eq] at h
 obtain ⟨⟨h1, h2⟩, h3⟩ := h
 unfold zrs at h1 ⊢
 simp only [Bool.and_eq_true, decide_eq_true_eq, List.all_eq_true] at h1 ⊢
 refine ⟨h2, h3, ⟨h1.1, fun a ha => ?_⟩, fun a ha => ?_⟩
 ·have := h1.2 a ha
  unfold zhe at this ⊢
  simp only [Bool.and_eq_true, decide_eq_true_eq, List.all_eq_true] at this ⊢
  exact ⟨⟨this.1.1, by omega⟩, fun e he => by have := this.2 e he; omega⟩
 ·have := h1.2 a ha
  unfold zhe at this
  simp only [Bool.and_eq_true, decide_eq_true_eq, List.all_eq_true] at this
  exact ⟨by have := this.1.1.1; omega, this.1.1.2⟩
def zwd (c n : Int) : Int := (if c < 0 then -(c + 1) else c) % n
theorem zzi {c n : Int} (h : 0 < n) : 0 <= zwd c n /\ zwd c n < n := ⟨Int.emod_nonneg _ (by omega), Int.emod_lt_of_pos _ h⟩
theorem zrt (c n : Int) (h0 : -9223372036854775808 <= c) (h1 : c <= 9223372036854775807) (hn : 0 < n) : yb Tryz.prog G 28 [sI c, sI n] (sI (zwd c n)) := by
 by_cases hc : c < 0
 ·have hw1 : IntKind.i64.wrap (c + 1) = c + 1 := wo (by omega) (by omega)
  have hw2 : IntKind.i64.wrap (0 - (c + 1)) = 0 - (c + 1) := wo (by omega) (by omega)
  have he : zwd c n = (IntKind.i64.wrap (0 - (IntKind.i64.wrap (c + 1)))).tmod n := by
   rw [hw1, hw2, Int.tmod_eq_emod_of_nonneg (by omega)]
   unfold zwd
   rw [if_pos hc, Int.zero_sub]
  refine ze Tryz.func28 rfl (by rw [Tryz.ntmps28]; simp) rfl rfl ?_; intro E hH hK
  (refine wv [777, 12] 1000 ?_; conv => whnf)
  repeat' ((with_reducible refine way ?_ ?_) <;> (intro h; conv => whnf))
  all_goals try (exfalso; omega)
  refine ymg (a := IntKind.i64.wrap (0 - (IntKind.i64.wrap (c + 1)))) (b := n) rfl rfl rfl rfl rfl (by omega) ?_
  (refine za ?_; conv => whnf)
  exact kI hK he
 ·have he : zwd c n = c.tmod n := by
   rw [Int.tmod_eq_emod_of_nonneg (by omega)]
   unfold zwd
   rw [if_neg hc]
  refine ze Tryz.func28 rfl (by rw [Tryz.ntmps28]; simp) rfl rfl ?_; intro E hH hK
  (refine wv [777, 12] 1000 ?_; conv => whnf)
  repeat' ((with_reducible refine way ?_ ?_) <;> (intro h; conv => whnf))
  all_goals try (exfalso; omega)
  refine ymg (a := c) (b := n) rfl rfl rfl rfl rfl (by omega) ?_
  (refine za ?_; conv => whnf)
  exact kI hK he
def zig : List (Int × Int × Bool) -> Bool
 | [] => false
 | (x, y, h) :: r => if h = true /\ x ≠ y then decide (x < y) else zig r
def zzj (day vday : Int) (z : List (Int × Int × Bool)) : Bool := if day = vday then zig z else decide (day < vday)
theorem zru (day vday : Int) (z : List (Int × Int × Bool)) (hz : z.length <= 1000000) (l : List Int) : yb Tryz.prog G 29 [sI day, .imm (dInts (z.map (·.1))), .agg [sI vday, .imm (xm (z.map (·.2.2))), .imm (dInts (z.map (·.2.1))), .imm (dInts l)]] (sB (zzj day vday z)) := by
 have hz1 : ((z.map (·.1)).map fun n => [dI n]).length = z.length := by simp
 have hz2 : ((z.map (·.2.1)).map fun n => [dI n]).length = z.length := by simp
 have hz3 : ((z.map (·.2.2)).map fun n => [dB n]).length = z.length := by simp
 by_cases hd : day = vday
 ·rw [show zzj day vday z = zig z from if_pos hd]
  refine ze Tryz.func29 rfl (by rw [Tryz.ntmps29]; simp) rfl rfl ?_; intro E hH hK
  (refine zh ?_; conv => whnf)
  repeat' ((with_reducible refine way ?_ ?_) <;> (intro h; conv => whnf))
  all_goals try (exfalso; omega)
  refine zf [1, 5, 7] ?_
  change SW E _ [(1, .imm (dInts (z.map (·.1)))), (5, .ptr 0 0), (7, sI 0)] [.cells [sI vday, .imm (xm (z.map (·.2.2))), .imm (dInts (z.map (·.2.1))), .imm (dInts l)]]
  refine zt z (fun i (_ : Unit) => [(1, .imm (dInts (z.map (·.1)))), (5, .ptr 0 0), (7, sI i)]) (fun _ _ => [.cells [sI vday, .imm (xm (z.map (·.2.2))), .imm (dInts (z.map (·.2.1))), .imm (dInts l)]])
   (fun _ rest _ => zig z = zig rest) () rfl ?_ ?_
  ·rintro _ h2
   rw [h2] at hK
   (refine zh ?_; conv => whnf)
   repeat' ((with_reducible refine way ?_ ?_) <;> (intro h; conv => whnf))
   all_goals try (exfalso; omega)
   all_goals exact hK _
  ·rintro done ⟨x, y, b⟩ rest _ hda hdl h2 ih
   have hw := zm (n := done.length) (by omega)
   have hr1 : ((z.map (·.1)).map fun n => [dI n])[done.length]? = some [dI x] := by simp [hda]
   have hr2 : ((z.map (·.2.1)).map fun n => [dI n])[done.length]? = some [dI y] := by simp [hda]
   have hr3 : ((z.map (·.2.2)).map fun n => [dB n])[done.length]? = some [dB b] := by simp [hda]
   (refine zh ?_; conv => whnf)
   repeat' ((with_reducible refine way ?_ ?_) <;> (intro h; conv => whnf))
   all_goals try (exfalso; omega)
   have hgo : zig ((x, y, b) :: rest) = if b = true /\ x ≠ y then decide (x < y) else zig rest := rfl
   (refine ya 0 mixed rfl ?_; refine zc [777] (nx := 1) ?_; conv => whnf)
   refine yc (i := done.length) (row := [dB b]) rfl (show 1 <= 1 by decide) rfl hr3 ?_
   (refine zc [777, 41] (nx := 1) ?_; conv => whnf)
   refine jn ⟨sB b, [], none⟩ rfl rfl (show 1 <= 1 by decide) (fun _ _ _ => rfl) ?_
   cases b with
   | false =>
    (refine zc [777, 52] (nx := 1) ?_; conv => whnf)
    refine jn ⟨sB false, [], none⟩ rfl rfl (show 1 <= 1 by decide) (fun _ _ _ => rfl) ?_
    refine zbz (by kernel_rfl) ?_
    (refine zh ?_; conv => whnf)
    rw [hw]
    exact zf [1, 5, 7] (ih () (by rw [h2, hgo, if_neg (by simp)]))
   | true =>
    (refine zc [777] (nx := 1) ?_; conv => whnf)
    refine yc (i := done.length) (row := [dI x]) rfl (show 1 <= 1 by decide) rfl hr1 ?_
    (refine zc [777] (nx := 1) ?_; conv => whnf)
    refine yc (i := done.length) (row := [dI y]) rfl (show 1 <= 1 by decide) rfl hr2 ?_
    (refine zc [777, 52] (nx := 1) ?_; conv => whnf)
    refine jn ⟨sB (!decide (x = y)), [], none⟩ rfl rfl (show 1 <= 1 by decide) (fun _ _ _ => rfl) ?_
    refine zbz (by kernel_rfl) ?_
    by_cases hxy : x = y
    ·rw [decide_eq_true hxy, Bool.not_true]
     (refine zh ?_; conv => whnf)
     rw [hw]
     exact zf [1, 5, 7] (ih () (by rw [h2, hgo, if_neg (by simp [hxy])]))
    ·rw [decide_eq_false hxy, Bool.not_false]
     have he : zig z = decide (x < y) := by rw [h2, hgo, if_pos ⟨rfl, hxy⟩]
     rw [he] at hK
     (refine zh ?_; conv => whnf)
     (refine ya 0 mixed rfl ?_; refine zc [777] (nx := 1) ?_; conv => whnf)
     refine yc (i := done.length) (row := [dI x]) rfl (show 1 <= 1 by decide) rfl hr1 ?_
     (refine zc [777] (nx := 1) ?_; conv => whnf)
     refine yc (i := done.length) (row := [dI y]) rfl (show 1 <= 1 by decide) rfl hr2 ?_
     (refine zc [777, 6] (nx := 1) ?_; conv => whnf)
     refine jn ⟨sB (decide (x < y)), [], none⟩ rfl rfl (show 1 <= 1 by decide) (fun _ _ _ => rfl) ?_
     refine zbz (by kernel_rfl) ?_
     (refine zh ?_; conv => whnf)
     exact hK _
 ·rw [show zzj day vday z = decide (day < vday) from if_neg hd]
  refine ze Tryz.func29 rfl (by rw [Tryz.ntmps29]; simp) rfl rfl ?_; intro E hH hK
  (refine zh ?_; conv => whnf)
  repeat' ((with_reducible refine way ?_ ?_) <;> (intro h; conv => whnf))
  all_goals try (exfalso; omega)
  exact hK _
def zac (c : Codex) (op n : Int) (u : ByteArray) : Bool :=
  if op = 1 then wq u && decide (0 <= n) && decide (n <= 999999999999) && (!decide (u = tT) || decide (n <= 1))
  else if op = 2 then decide (0 <= n) && decide (n < c.facts.length) && zcv c.facts n u
  else if op = 3 then (match c.arts[(jg n c.arts 0).toNat]? with
    | some a => decide (0 <= jg n c.arts 0) && decide (0 <= a.line) && decide (a.line < c.lines.length) && zcv c.lines a.line u
    | none => false)
  else if op = 4 then decide (1 <= n) && decide (n <= 4) && decide (u = tN)
  else false
theorem zzk (c : Codex) (op n : Int) (u : ByteArray) (den : Int) (ps : List Piece) (ks : List Ex) (hsz : c.arts.length <= 9223372036854775807) :
    yb Tryz.prog G 118 [c.sv, (Ex.mk op n u den ps ks).sv] (sB (zac c op n u)) := by
  refine ze Tryz.func118 rfl (by rw [Tryz.ntmps118]; simp) rfl rfl ?_; intro E hH hK
  have hf : (c.facts.map Decl.cells).length = c.facts.length := by simp
  have hl : (c.lines.map Decl.cells).length = c.lines.length := by simp
  by_cases h1 : op = 1
  · subst h1
    have hr : zac c 1 n u = (wq u && decide (0 <= n) && decide (n <= 999999999999) && (!decide (u = tT) || decide (n <= 1))) := rfl
    rw [hr] at hK
    (refine zi ?_; conv => whnf)
    refine zd rfl  (zxm G u) ?_
    (refine zj ?_; conv => whnf)
    repeat' ((with_reducible refine way ?_ ?_) <;> (intro h; conv => whnf))
    all_goals exact kB hK (by first | (rw [‹wq u = true›]; simp [*]; done) | (simp [*]; done))
  by_cases h2 : op = 2
  · subst h2
    have hr : zac c 2 n u = (decide (0 <= n) && decide (n < c.facts.length) && zcv c.facts n u) := rfl
    rw [hr] at hK
    (refine zi ?_; conv => whnf)
    (refine yw mixed rfl ?_; refine zl [] ?_; conv => whnf)
    repeat' ((with_reducible refine way ?_ ?_) <;> (intro h; conv => whnf))
    · have hlt : n.toNat < c.facts.length := by omega
      obtain ⟨d, hd⟩ : ∃ d, c.facts[n.toNat]? = some d := ⟨c.facts[n.toNat], List.getElem?_eq_getElem hlt⟩
      refine xh rfl (i := n.toNat) (by omega) (row := d.cells) (by simp [hd]) ?_
      (refine zl [] ?_; conv => whnf)
      (refine zi ?_; conv => whnf)
      refine kB hK ?_
      have hua : zcv c.facts n u = decide (u = d.unit) := by simp only [zcv, hd]
      rw [hua, decide_eq_true (by omega), decide_eq_true (by omega)]
      rfl
    all_goals (refine zi ?_; conv => whnf)
    · exact kB hK (by rw [decide_eq_false (p := n < c.facts.length) (by omega)]; simp)
    · exact kB hK (by rw [decide_eq_false (p := 0 <= n) (by omega)]; simp)
  by_cases h3 : op = 3
  · subst h3
    have hr : zac c 3 n u = (match c.arts[(jg n c.arts 0).toNat]? with
      | some a => decide (0 <= jg n c.arts 0) && decide (0 <= a.line) && decide (a.line < c.lines.length) && zcv c.lines a.line u
      | none => false) := rfl
    rw [hr] at hK
    (refine zi ?_; conv => whnf)
    refine zd rfl  (zgv G c n hsz) ?_
    (refine zj ?_; conv => whnf)
    rcases zkr n c.arts 0 with h | ⟨g1, g2, a, g3, g4⟩
    · rw [h] at hK ⊢
      (refine yw mixed rfl ?_; refine zl [] ?_; conv => whnf)
      (refine zi ?_; conv => whnf)
      refine kB hK ?_
      split <;> rfl
    · rw [Nat.sub_zero] at g3
      rw [g3] at hK
      simp only [decide_eq_true (show (0 : Int) <= jg n c.arts 0 from g1), Bool.true_and] at hK
      generalize jg n c.arts 0 = ix at hK g1 g2 g3 ⊢
      (refine yw mixed rfl ?_; refine zl [] ?_; conv => whnf)
      repeat' ((with_reducible refine way ?_ ?_) <;> (intro h; conv => whnf))
      all_goals try (exfalso; omega)
      refine xh rfl (i := ix.toNat) (by omega) (row := a.cells) (by simp [g3]) ?_
      (refine zl [] ?_; conv => whnf)
      repeat' ((with_reducible refine way ?_ ?_) <;> (intro h; conv => whnf))
      · refine xh rfl (i := ix.toNat) (by omega) (row := a.cells) (by simp [g3]) ?_
        (refine zl [] ?_; conv => whnf)
        repeat' ((with_reducible refine way ?_ ?_) <;> (intro h; conv => whnf))
        · refine xh rfl (i := ix.toNat) (by omega) (row := a.cells) (by simp [g3]) ?_
          (refine zl [] ?_; conv => whnf)
          obtain ⟨d, hd⟩ : ∃ d, c.lines[a.line.toNat]? = some d := ⟨c.lines[a.line.toNat]'(by omega), List.getElem?_eq_getElem _⟩
          refine xh rfl (i := a.line.toNat) (by omega) (row := d.cells) (by simp [hd]) ?_
          (refine zl [] ?_; conv => whnf)
          (refine zi ?_; conv => whnf)
          refine kB hK ?_
          have hua : zcv c.lines a.line u = decide (u = d.unit) := by simp only [zcv, hd]
          rw [hua, decide_eq_true (p := 0 <= a.line) (by omega), decide_eq_true (p := a.line < c.lines.length) (by omega)]
          rfl
        · (refine zi ?_; conv => whnf)
          exact kB hK (by rw [decide_eq_false (p := a.line < c.lines.length) (by omega)]; simp)
      · (refine zi ?_; conv => whnf)
        exact kB hK (by rw [decide_eq_false (p := 0 <= a.line) (by omega)]; simp)
  · (refine zi ?_; conv => whnf)
    repeat' ((with_reducible refine way ?_ ?_) <;> (intro h; conv => whnf))
    all_goals try (exfalso; omega)
    all_goals exact kB hK (by simp only [zac, if_neg h1, if_neg h2, if_neg h3]; simp [*])
theorem ytt (u : ByteArray) (f l : Ex) (len : Int) (h : 2 <= len) : zaf 16 u f l len true = (!decide (f.unit = tT) && decide (u = f.unit)) := by simp [zaf, h]
theorem ytu (u : ByteArray) (f l : Ex) (len : Int) (h : 2 <= len) : zaf 17 u f l len true = (!decide (f.unit = tT) && decide (u = f.unit)) := by simp [zaf, h]
theorem yvd (u : ByteArray) (f l : Ex) : zaf 6 u f l 2 (decide (l.unit = f.unit)) = (decide (u = tT) && decide (f.unit = tT) && decide (l.unit = tT)) := by
 by_cases e : f.unit = tT
 ·simp [zaf, e]
 ·simp [zaf, e]
theorem yve (u : ByteArray) (f l : Ex) : zaf 7 u f l 2 (decide (l.unit = f.unit)) = (decide (u = tT) && decide (f.unit = tT) && decide (l.unit = tT)) := by
 by_cases e : f.unit = tT
 ·simp [zaf, e]
 ·simp [zaf, e]
theorem yvf (u : ByteArray) (f l : Ex) : zaf 8 u f l 2 (decide (l.unit = f.unit)) = (decide (u = tT) && decide (f.unit = l.unit)) := by
 simp [zaf, eq_comm (a := l.unit)]
theorem yvg (u : ByteArray) (f l : Ex) : zaf 9 u f l 2 (decide (l.unit = f.unit)) = (decide (u = tT) && decide (f.unit = l.unit) && !decide (f.unit = tT)) := by
 simp [zaf, Bool.and_assoc, eq_comm (a := l.unit)]
theorem ytv (u : ByteArray) (f l : Ex) : zaf 10 u f l 2 (decide (l.unit = f.unit)) = (decide (u = tT) && decide (f.unit = l.unit) && !decide (f.unit = tT)) := by
 simp [zaf, Bool.and_assoc, eq_comm (a := l.unit)]
theorem ytw (u : ByteArray) (f l : Ex) : zaf 11 u f l 2 (decide (l.unit = f.unit)) = (decide (u = f.unit) && decide (f.unit = l.unit) && !decide (f.unit = tT)) := by
 by_cases e1 : u = f.unit <;> by_cases e2 : l.unit = f.unit <;> simp [zaf, e1, e2, eq_comm (a := f.unit)]
theorem ytx (u : ByteArray) (f l : Ex) : zaf 12 u f l 2 (decide (l.unit = f.unit)) = (decide (u = f.unit) && decide (f.unit = l.unit) && !decide (f.unit = tT)) := by
 by_cases e1 : u = f.unit <;> by_cases e2 : l.unit = f.unit <;> simp [zaf, e1, e2, eq_comm (a := f.unit)]
theorem yty (u : ByteArray) (f l : Ex) (s : Bool) : zaf 13 u f l 2 s = (!decide (f.unit = tT) && !decide (l.unit = tT) && ((decide (f.unit = tN) && decide (u = l.unit)) || (decide (l.unit = tN) && decide (u = f.unit)))) := by
 by_cases e1 : f.unit = tN
 ·by_cases e2 : l.unit = tN
  ·simp [zaf, e1, e2]
  ·simp [zaf, e1, e2]
 ·simp [zaf, e1, Bool.and_assoc]
theorem ytz (u : ByteArray) (f l : Ex) (s : Bool) : zaf 14 u f l 2 s = (decide (u = f.unit) && !decide (f.unit = tT) && decide (l.op = 1) && decide (l.unit = tN) && decide (1 <= l.n) && decide (l.n <= 1000000)) := by
 have e1 : (!decide (l.n < 1)) = decide (1 <= l.n) := by rw [Bool.eq_iff_iff]; simp
 have e2 : (!decide (1000000 < l.n)) = decide (l.n <= 1000000) := by rw [Bool.eq_iff_iff]; simp
 simp only [zaf]
 rw [e1, e2]
 by_cases f1 : u = f.unit <;> by_cases f2 : f.unit = tT <;> simp [f1, f2, Bool.and_assoc]
theorem yua (u : ByteArray) (f l : Ex) (s : Bool) : zaf 15 u f l 2 s = (decide (f.unit = tM) && zeh l.unit && decide (u = l.unit)) := by simp [zaf]
theorem yox (op : Int) (u : ByteArray) (f l : Ex) (s : Bool) (h : op < 6 \/ 17 < op) : zaf op u f l 2 s = false := by
 by_cases e5 : op = 5
 ·subst e5; simp [zaf]
 ·simp only [zaf]
  rw [if_neg e5, if_neg (by omega), if_neg (by omega), if_neg (by omega), if_neg (by omega), if_neg (by omega), if_neg (by omega), if_neg (by omega), if_neg (by omega)]
theorem yhq (n : Int) (u : ByteArray) (den : Int) (ps : List Piece) (k0 k1 : Ex) : yb Tryz.prog G 120 [(Ex.mk 6 n u den ps [k0, k1]).sv] (sB (zaf 6 u k0 k1 2 (decide (k1.unit = k0.unit)))) := by
 have hrows := zp [k0, k1]
 have hlen : (zb [k0, k1]).length = 2 := by rw [hrows]; rfl
 have h0 : (zb [k0, k1])[0]? = some k0.cells := by rw [hrows]; rfl
 have h1 : (zb [k0, k1])[1]? = some k1.cells := by rw [hrows]; rfl
 have hkl : [k0, k1].length = 2 := rfl
 generalize [k0, k1] = ks at hrows hlen h0 h1 hkl ⊢
 refine ze Tryz.func120 rfl (by rw [Tryz.ntmps120]; simp) rfl rfl ?_; intro E hH hK
 obtain ⟨o0, n0, u0, d0, p0, q0⟩ := k0
 obtain ⟨o1, n1, u1, d1, p1, q1⟩ := k1
 replace hK : ∀ H', E.K (sB (decide (u = tT) && decide (u0 = tT) && decide (u1 = tT))) H' := by
  intro H'
  have := hK H'
  rw [yvd] at this
  exact this
 (refine zi ?_; conv => whnf)
 refine zg rfl rfl  (row := (Ex.mk o0 n0 u0 d0 p0 q0).cells) h0 ?_
 (refine zj ?_; conv => whnf)
 refine zg rfl rfl  (row := (Ex.mk o1 n1 u1 d1 p1 q1).cells) h1 ?_
 (refine zj ?_; conv => whnf)
 refine zf [1, 3, 4, 5] ?_
 refine zt ks (fun i (_ : Unit) => [(1, .ptr 0 0), (3, sS u0), (4, sS u1), (5, sI i)]) (fun _ _ => [.cells [sI 6, sI n, sS u, sI den, .imm (.isl 3 (ps.map Piece.cells)), .imm (.isl 6 (zb ks))]])
  (fun _ _ _ => True) () trivial ?_ ?_
 ·as_aux_lemma =>
   rintro _ _
   (refine zi ?_; conv => whnf)
   repeat' ((with_reducible refine way ?_ ?_) <;> (intro h; conv => whnf))
   all_goals try (exfalso; omega)
   all_goals exact kB hK (by simp [tT, tN, *])
 ·as_aux_lemma =>
   rintro done k rest _ ha hl _ ih
   have hw := zm (n := done.length) (by omega)
   (refine zi ?_; conv => whnf)
   repeat' ((with_reducible refine way ?_ ?_) <;> (intro h; conv => whnf))
   all_goals try (exfalso; omega)
   all_goals (rw [hw]; exact yr [1, 3, 4, 5] 1 (by simp [hH]) (by simp) rfl rfl (ih () trivial))
theorem yhr (n : Int) (u : ByteArray) (den : Int) (ps : List Piece) (k0 k1 : Ex) : yb Tryz.prog G 120 [(Ex.mk 7 n u den ps [k0, k1]).sv] (sB (zaf 7 u k0 k1 2 (decide (k1.unit = k0.unit)))) := by
 have hrows := zp [k0, k1]
 have hlen : (zb [k0, k1]).length = 2 := by rw [hrows]; rfl
 have h0 : (zb [k0, k1])[0]? = some k0.cells := by rw [hrows]; rfl
 have h1 : (zb [k0, k1])[1]? = some k1.cells := by rw [hrows]; rfl
 have hkl : [k0, k1].length = 2 := rfl
 generalize [k0, k1] = ks at hrows hlen h0 h1 hkl ⊢
 refine ze Tryz.func120 rfl (by rw [Tryz.ntmps120]; simp) rfl rfl ?_; intro E hH hK
 obtain ⟨o0, n0, u0, d0, p0, q0⟩ := k0
 obtain ⟨o1, n1, u1, d1, p1, q1⟩ := k1
 replace hK : ∀ H', E.K (sB (decide (u = tT) && decide (u0 = tT) && decide (u1 = tT))) H' := by
  intro H'
  have := hK H'
  rw [yve] at this
  exact this
 (refine zi ?_; conv => whnf)
 refine zg rfl rfl  (row := (Ex.mk o0 n0 u0 d0 p0 q0).cells) h0 ?_
 (refine zj ?_; conv => whnf)
 refine zg rfl rfl  (row := (Ex.mk o1 n1 u1 d1 p1 q1).cells) h1 ?_
 (refine zj ?_; conv => whnf)
 refine zf [1, 3, 4, 5] ?_
 refine zt ks (fun i (_ : Unit) => [(1, .ptr 0 0), (3, sS u0), (4, sS u1), (5, sI i)]) (fun _ _ => [.cells [sI 7, sI n, sS u, sI den, .imm (.isl 3 (ps.map Piece.cells)), .imm (.isl 6 (zb ks))]])
  (fun _ _ _ => True) () trivial ?_ ?_
 ·as_aux_lemma =>
   rintro _ _
   (refine zi ?_; conv => whnf)
   repeat' ((with_reducible refine way ?_ ?_) <;> (intro h; conv => whnf))
   all_goals try (exfalso; omega)
   all_goals exact kB hK (by simp [tT, tN, *])
 ·as_aux_lemma =>
   rintro done k rest _ ha hl _ ih
   have hw := zm (n := done.length) (by omega)
   (refine zi ?_; conv => whnf)
   repeat' ((with_reducible refine way ?_ ?_) <;> (intro h; conv => whnf))
   all_goals try (exfalso; omega)
   all_goals (rw [hw]; exact yr [1, 3, 4, 5] 1 (by simp [hH]) (by simp) rfl rfl (ih () trivial))
theorem yhs (n : Int) (u : ByteArray) (den : Int) (ps : List Piece) (k0 k1 : Ex) : yb Tryz.prog G 120 [(Ex.mk 8 n u den ps [k0, k1]).sv] (sB (zaf 8 u k0 k1 2 (decide (k1.unit = k0.unit)))) := by
 have hrows := zp [k0, k1]
 have hlen : (zb [k0, k1]).length = 2 := by rw [hrows]; rfl
 have h0 : (zb [k0, k1])[0]? = some k0.cells := by rw [hrows]; rfl
 have h1 : (zb [k0, k1])[1]? = some k1.cells := by rw [hrows]; rfl
 have hkl : [k0, k1].length = 2 := rfl
 generalize [k0, k1] = ks at hrows hlen h0 h1 hkl ⊢
 refine ze Tryz.func120 rfl (by rw [Tryz.ntmps120]; simp) rfl rfl ?_; intro E hH hK
 obtain ⟨o0, n0, u0, d0, p0, q0⟩ := k0
 obtain ⟨o1, n1, u1, d1, p1, q1⟩ := k1
 replace hK : ∀ H', E.K (sB (decide (u = tT) && decide (u0 = u1))) H' := by
  intro H'
  have := hK H'
  rw [yvf] at this
  exact this
 (refine zi ?_; conv => whnf)
 refine zg rfl rfl  (row := (Ex.mk o0 n0 u0 d0 p0 q0).cells) h0 ?_
 (refine zj ?_; conv => whnf)
 refine zg rfl rfl  (row := (Ex.mk o1 n1 u1 d1 p1 q1).cells) h1 ?_
 (refine zj ?_; conv => whnf)
 refine zf [1, 3, 4, 5] ?_
 refine zt ks (fun i (_ : Unit) => [(1, .ptr 0 0), (3, sS u0), (4, sS u1), (5, sI i)]) (fun _ _ => [.cells [sI 8, sI n, sS u, sI den, .imm (.isl 3 (ps.map Piece.cells)), .imm (.isl 6 (zb ks))]])
  (fun _ _ _ => True) () trivial ?_ ?_
 ·as_aux_lemma =>
   rintro _ _
   (refine zi ?_; conv => whnf)
   repeat' ((with_reducible refine way ?_ ?_) <;> (intro h; conv => whnf))
   all_goals try (exfalso; omega)
   all_goals exact kB hK (by simp [tT, tN, *])
 ·as_aux_lemma =>
   rintro done k rest _ ha hl _ ih
   have hw := zm (n := done.length) (by omega)
   (refine zi ?_; conv => whnf)
   repeat' ((with_reducible refine way ?_ ?_) <;> (intro h; conv => whnf))
   all_goals try (exfalso; omega)
   all_goals (rw [hw]; exact yr [1, 3, 4, 5] 1 (by simp [hH]) (by simp) rfl rfl (ih () trivial))
theorem yht (n : Int) (u : ByteArray) (den : Int) (ps : List Piece) (k0 k1 : Ex) : yb Tryz.prog G 120 [(Ex.mk 9 n u den ps [k0, k1]).sv] (sB (zaf 9 u k0 k1 2 (decide (k1.unit = k0.unit)))) := by
 have hrows := zp [k0, k1]
 have hlen : (zb [k0, k1]).length = 2 := by rw [hrows]; rfl
 have h0 : (zb [k0, k1])[0]? = some k0.cells := by rw [hrows]; rfl
 have h1 : (zb [k0, k1])[1]? = some k1.cells := by rw [hrows]; rfl
 have hkl : [k0, k1].length = 2 := rfl
 generalize [k0, k1] = ks at hrows hlen h0 h1 hkl ⊢
 refine ze Tryz.func120 rfl (by rw [Tryz.ntmps120]; simp) rfl rfl ?_; intro E hH hK
 obtain ⟨o0, n0, u0, d0, p0, q0⟩ := k0
 obtain ⟨o1, n1, u1, d1, p1, q1⟩ := k1
 replace hK : ∀ H', E.K (sB (decide (u = tT) && decide (u0 = u1) && !decide (u0 = tT))) H' := by
  intro H'
  have := hK H'
  rw [yvg] at this
  exact this
 (refine zi ?_; conv => whnf)
 refine zg rfl rfl  (row := (Ex.mk o0 n0 u0 d0 p0 q0).cells) h0 ?_
 (refine zj ?_; conv => whnf)
 refine zg rfl rfl  (row := (Ex.mk o1 n1 u1 d1 p1 q1).cells) h1 ?_
 (refine zj ?_; conv => whnf)
 refine zf [1, 3, 4, 5] ?_
 refine zt ks (fun i (_ : Unit) => [(1, .ptr 0 0), (3, sS u0), (4, sS u1), (5, sI i)]) (fun _ _ => [.cells [sI 9, sI n, sS u, sI den, .imm (.isl 3 (ps.map Piece.cells)), .imm (.isl 6 (zb ks))]])
  (fun _ _ _ => True) () trivial ?_ ?_
 ·as_aux_lemma =>
   rintro _ _
   (refine zi ?_; conv => whnf)
   repeat' ((with_reducible refine way ?_ ?_) <;> (intro h; conv => whnf))
   all_goals try (exfalso; omega)
   all_goals exact kB hK (by simp [tT, tN, *])
 ·as_aux_lemma =>
   rintro done k rest _ ha hl _ ih
   have hw := zm (n := done.length) (by omega)
   (refine zi ?_; conv => whnf)
   repeat' ((with_reducible refine way ?_ ?_) <;> (intro h; conv => whnf))
   all_goals try (exfalso; omega)
   all_goals (rw [hw]; exact yr [1, 3, 4, 5] 1 (by simp [hH]) (by simp) rfl rfl (ih () trivial))
theorem ybx (n : Int) (u : ByteArray) (den : Int) (ps : List Piece) (k0 k1 : Ex) : yb Tryz.prog G 120 [(Ex.mk 10 n u den ps [k0, k1]).sv] (sB (zaf 10 u k0 k1 2 (decide (k1.unit = k0.unit)))) := by
 have hrows := zp [k0, k1]
 have hlen : (zb [k0, k1]).length = 2 := by rw [hrows]; rfl
 have h0 : (zb [k0, k1])[0]? = some k0.cells := by rw [hrows]; rfl
 have h1 : (zb [k0, k1])[1]? = some k1.cells := by rw [hrows]; rfl
 have hkl : [k0, k1].length = 2 := rfl
 generalize [k0, k1] = ks at hrows hlen h0 h1 hkl ⊢
 refine ze Tryz.func120 rfl (by rw [Tryz.ntmps120]; simp) rfl rfl ?_; intro E hH hK
 obtain ⟨o0, n0, u0, d0, p0, q0⟩ := k0
 obtain ⟨o1, n1, u1, d1, p1, q1⟩ := k1
 replace hK : ∀ H', E.K (sB (decide (u = tT) && decide (u0 = u1) && !decide (u0 = tT))) H' := by
  intro H'
  have := hK H'
  rw [ytv] at this
  exact this
 (refine zi ?_; conv => whnf)
 refine zg rfl rfl  (row := (Ex.mk o0 n0 u0 d0 p0 q0).cells) h0 ?_
 (refine zj ?_; conv => whnf)
 refine zg rfl rfl  (row := (Ex.mk o1 n1 u1 d1 p1 q1).cells) h1 ?_
 (refine zj ?_; conv => whnf)
 refine zf [1, 3, 4, 5] ?_
 refine zt ks (fun i (_ : Unit) => [(1, .ptr 0 0), (3, sS u0), (4, sS u1), (5, sI i)]) (fun _ _ => [.cells [sI 10, sI n, sS u, sI den, .imm (.isl 3 (ps.map Piece.cells)), .imm (.isl 6 (zb ks))]])
  (fun _ _ _ => True) () trivial ?_ ?_
 ·as_aux_lemma =>
   rintro _ _
   (refine zi ?_; conv => whnf)
   repeat' ((with_reducible refine way ?_ ?_) <;> (intro h; conv => whnf))
   all_goals try (exfalso; omega)
   all_goals exact kB hK (by simp [tT, tN, *])
 ·as_aux_lemma =>
   rintro done k rest _ ha hl _ ih
   have hw := zm (n := done.length) (by omega)
   (refine zi ?_; conv => whnf)
   repeat' ((with_reducible refine way ?_ ?_) <;> (intro h; conv => whnf))
   all_goals try (exfalso; omega)
   all_goals (rw [hw]; exact yr [1, 3, 4, 5] 1 (by simp [hH]) (by simp) rfl rfl (ih () trivial))
theorem yby (n : Int) (u : ByteArray) (den : Int) (ps : List Piece) (k0 k1 : Ex) : yb Tryz.prog G 120 [(Ex.mk 11 n u den ps [k0, k1]).sv] (sB (zaf 11 u k0 k1 2 (decide (k1.unit = k0.unit)))) := by
 have hrows := zp [k0, k1]
 have hlen : (zb [k0, k1]).length = 2 := by rw [hrows]; rfl
 have h0 : (zb [k0, k1])[0]? = some k0.cells := by rw [hrows]; rfl
 have h1 : (zb [k0, k1])[1]? = some k1.cells := by rw [hrows]; rfl
 have hkl : [k0, k1].length = 2 := rfl
 generalize [k0, k1] = ks at hrows hlen h0 h1 hkl ⊢
 refine ze Tryz.func120 rfl (by rw [Tryz.ntmps120]; simp) rfl rfl ?_; intro E hH hK
 obtain ⟨o0, n0, u0, d0, p0, q0⟩ := k0
 obtain ⟨o1, n1, u1, d1, p1, q1⟩ := k1
 replace hK : ∀ H', E.K (sB (decide (u = u0) && decide (u0 = u1) && !decide (u0 = tT))) H' := by
  intro H'
  have := hK H'
  rw [ytw] at this
  exact this
 (refine zi ?_; conv => whnf)
 refine zg rfl rfl  (row := (Ex.mk o0 n0 u0 d0 p0 q0).cells) h0 ?_
 (refine zj ?_; conv => whnf)
 refine zg rfl rfl  (row := (Ex.mk o1 n1 u1 d1 p1 q1).cells) h1 ?_
 (refine zj ?_; conv => whnf)
 refine zf [1, 3, 4, 5] ?_
 refine zt ks (fun i (_ : Unit) => [(1, .ptr 0 0), (3, sS u0), (4, sS u1), (5, sI i)]) (fun _ _ => [.cells [sI 11, sI n, sS u, sI den, .imm (.isl 3 (ps.map Piece.cells)), .imm (.isl 6 (zb ks))]])
  (fun _ _ _ => True) () trivial ?_ ?_
 ·as_aux_lemma =>
   rintro _ _
   (refine zi ?_; conv => whnf)
   repeat' ((with_reducible refine way ?_ ?_) <;> (intro h; conv => whnf))
   all_goals try (exfalso; omega)
   all_goals exact kB hK (by simp [tT, tN, *])
 ·as_aux_lemma =>
   rintro done k rest _ ha hl _ ih
   have hw := zm (n := done.length) (by omega)
   (refine zi ?_; conv => whnf)
   repeat' ((with_reducible refine way ?_ ?_) <;> (intro h; conv => whnf))
   all_goals try (exfalso; omega)
   all_goals (rw [hw]; exact yr [1, 3, 4, 5] 1 (by simp [hH]) (by simp) rfl rfl (ih () trivial))
theorem ybz (n : Int) (u : ByteArray) (den : Int) (ps : List Piece) (k0 k1 : Ex) : yb Tryz.prog G 120 [(Ex.mk 12 n u den ps [k0, k1]).sv] (sB (zaf 12 u k0 k1 2 (decide (k1.unit = k0.unit)))) := by
 have hrows := zp [k0, k1]
 have hlen : (zb [k0, k1]).length = 2 := by rw [hrows]; rfl
 have h0 : (zb [k0, k1])[0]? = some k0.cells := by rw [hrows]; rfl
 have h1 : (zb [k0, k1])[1]? = some k1.cells := by rw [hrows]; rfl
 have hkl : [k0, k1].length = 2 := rfl
 generalize [k0, k1] = ks at hrows hlen h0 h1 hkl ⊢
 refine ze Tryz.func120 rfl (by rw [Tryz.ntmps120]; simp) rfl rfl ?_; intro E hH hK
 obtain ⟨o0, n0, u0, d0, p0, q0⟩ := k0
 obtain ⟨o1, n1, u1, d1, p1, q1⟩ := k1
 replace hK : ∀ H', E.K (sB (decide (u = u0) && decide (u0 = u1) && !decide (u0 = tT))) H' := by
  intro H'
  have := hK H'
  rw [ytx] at this
  exact this
 (refine zi ?_; conv => whnf)
 refine zg rfl rfl  (row := (Ex.mk o0 n0 u0 d0 p0 q0).cells) h0 ?_
 (refine zj ?_; conv => whnf)
 refine zg rfl rfl  (row := (Ex.mk o1 n1 u1 d1 p1 q1).cells) h1 ?_
 (refine zj ?_; conv => whnf)
 refine zf [1, 3, 4, 5] ?_
 refine zt ks (fun i (_ : Unit) => [(1, .ptr 0 0), (3, sS u0), (4, sS u1), (5, sI i)]) (fun _ _ => [.cells [sI 12, sI n, sS u, sI den, .imm (.isl 3 (ps.map Piece.cells)), .imm (.isl 6 (zb ks))]])
  (fun _ _ _ => True) () trivial ?_ ?_
 ·as_aux_lemma =>
   rintro _ _
   (refine zi ?_; conv => whnf)
   repeat' ((with_reducible refine way ?_ ?_) <;> (intro h; conv => whnf))
   all_goals try (exfalso; omega)
   all_goals exact kB hK (by simp [tT, tN, *])
 ·as_aux_lemma =>
   rintro done k rest _ ha hl _ ih
   have hw := zm (n := done.length) (by omega)
   (refine zi ?_; conv => whnf)
   repeat' ((with_reducible refine way ?_ ?_) <;> (intro h; conv => whnf))
   all_goals try (exfalso; omega)
   all_goals (rw [hw]; exact yr [1, 3, 4, 5] 1 (by simp [hH]) (by simp) rfl rfl (ih () trivial))
theorem yca (n : Int) (u : ByteArray) (den : Int) (ps : List Piece) (k0 k1 : Ex) : yb Tryz.prog G 120 [(Ex.mk 13 n u den ps [k0, k1]).sv] (sB (zaf 13 u k0 k1 2 (decide (k1.unit = k0.unit)))) := by
 have hrows := zp [k0, k1]
 have hlen : (zb [k0, k1]).length = 2 := by rw [hrows]; rfl
 have h0 : (zb [k0, k1])[0]? = some k0.cells := by rw [hrows]; rfl
 have h1 : (zb [k0, k1])[1]? = some k1.cells := by rw [hrows]; rfl
 have hkl : [k0, k1].length = 2 := rfl
 generalize [k0, k1] = ks at hrows hlen h0 h1 hkl ⊢
 refine ze Tryz.func120 rfl (by rw [Tryz.ntmps120]; simp) rfl rfl ?_; intro E hH hK
 obtain ⟨o0, n0, u0, d0, p0, q0⟩ := k0
 obtain ⟨o1, n1, u1, d1, p1, q1⟩ := k1
 replace hK : ∀ H', E.K (sB (!decide (u0 = tT) && !decide (u1 = tT) && ((decide (u0 = tN) && decide (u = u1)) || (decide (u1 = tN) && decide (u = u0))))) H' := by
  intro H'
  have := hK H'
  rw [yty] at this
  exact this
 (refine zi ?_; conv => whnf)
 refine zg rfl rfl  (row := (Ex.mk o0 n0 u0 d0 p0 q0).cells) h0 ?_
 (refine zj ?_; conv => whnf)
 refine zg rfl rfl  (row := (Ex.mk o1 n1 u1 d1 p1 q1).cells) h1 ?_
 (refine zj ?_; conv => whnf)
 refine zf [1, 3, 4, 5] ?_
 refine zt ks (fun i (_ : Unit) => [(1, .ptr 0 0), (3, sS u0), (4, sS u1), (5, sI i)]) (fun _ _ => [.cells [sI 13, sI n, sS u, sI den, .imm (.isl 3 (ps.map Piece.cells)), .imm (.isl 6 (zb ks))]])
  (fun _ _ _ => True) () trivial ?_ ?_
 ·as_aux_lemma =>
   rintro _ _
   (refine zi ?_; conv => whnf)
   repeat' ((with_reducible refine way ?_ ?_) <;> (intro h; conv => whnf))
   all_goals try (exfalso; omega)
   all_goals exact kB hK (by simp [tT, tN, *])
 ·as_aux_lemma =>
   rintro done k rest _ ha hl _ ih
   have hw := zm (n := done.length) (by omega)
   (refine zi ?_; conv => whnf)
   repeat' ((with_reducible refine way ?_ ?_) <;> (intro h; conv => whnf))
   all_goals try (exfalso; omega)
   all_goals (rw [hw]; exact yr [1, 3, 4, 5] 1 (by simp [hH]) (by simp) rfl rfl (ih () trivial))
theorem ycb (n : Int) (u : ByteArray) (den : Int) (ps : List Piece) (k0 k1 : Ex) : yb Tryz.prog G 120 [(Ex.mk 14 n u den ps [k0, k1]).sv] (sB (zaf 14 u k0 k1 2 (decide (k1.unit = k0.unit)))) := by
 have hrows := zp [k0, k1]
 have hlen : (zb [k0, k1]).length = 2 := by rw [hrows]; rfl
 have h0 : (zb [k0, k1])[0]? = some k0.cells := by rw [hrows]; rfl
 have h1 : (zb [k0, k1])[1]? = some k1.cells := by rw [hrows]; rfl
 have hkl : [k0, k1].length = 2 := rfl
 generalize [k0, k1] = ks at hrows hlen h0 h1 hkl ⊢
 refine ze Tryz.func120 rfl (by rw [Tryz.ntmps120]; simp) rfl rfl ?_; intro E hH hK
 obtain ⟨o0, n0, u0, d0, p0, q0⟩ := k0
 obtain ⟨o1, n1, u1, d1, p1, q1⟩ := k1
 replace hK : ∀ H', E.K (sB (decide (u = u0) && !decide (u0 = tT) && decide (o1 = 1) && decide (u1 = tN) && decide (1 <= n1) && decide (n1 <= 1000000))) H' := by
  intro H'
  have := hK H'
  rw [ytz] at this
  exact this
 (refine zi ?_; conv => whnf)
 refine zg rfl rfl  (row := (Ex.mk o0 n0 u0 d0 p0 q0).cells) h0 ?_
 (refine zj ?_; conv => whnf)
 refine zg rfl rfl  (row := (Ex.mk o1 n1 u1 d1 p1 q1).cells) h1 ?_
 (refine zj ?_; conv => whnf)
 refine zf [1, 3, 4, 5] ?_
 refine zt ks (fun i (_ : Unit) => [(1, .ptr 0 0), (3, sS u0), (4, sS u1), (5, sI i)]) (fun _ _ => [.cells [sI 14, sI n, sS u, sI den, .imm (.isl 3 (ps.map Piece.cells)), .imm (.isl 6 (zb ks))]])
  (fun _ _ _ => True) () trivial ?_ ?_
 ·as_aux_lemma =>
   rintro _ _
   (refine zi ?_; conv => whnf)
   repeat' ((with_reducible refine way ?_ ?_) <;> (intro h; conv => whnf))
   all_goals try (exfalso; omega)
   all_goals try exact kB hK (by simp [tT, *]; done)
   refine zg rfl rfl  (row := (Ex.mk o1 n1 u1 d1 p1 q1).cells) h1 ?_
   (refine zj ?_; conv => whnf)
   repeat' ((with_reducible refine way ?_ ?_) <;> (intro h; conv => whnf))
   all_goals try exact kB hK (by simp [tT, *]; done)
   refine zg rfl rfl  (row := (Ex.mk o1 n1 u1 d1 p1 q1).cells) h1 ?_
   (refine zj ?_; conv => whnf)
   repeat' ((with_reducible refine way ?_ ?_) <;> (intro h; conv => whnf))
   all_goals try exact kB hK (by simp [tT, *]; done)
   refine zg rfl rfl  (row := (Ex.mk o1 n1 u1 d1 p1 q1).cells) h1 ?_
   (refine zj ?_; conv => whnf)
   repeat' ((with_reducible refine way ?_ ?_) <;> (intro h; conv => whnf))
   all_goals exact kB hK (by simp [tT, *])
 ·as_aux_lemma =>
   rintro done k rest _ ha hl _ ih
   have hw := zm (n := done.length) (by omega)
   (refine zi ?_; conv => whnf)
   repeat' ((with_reducible refine way ?_ ?_) <;> (intro h; conv => whnf))
   all_goals try (exfalso; omega)
   all_goals (rw [hw]; exact yr [1, 3, 4, 5] 1 (by simp [hH]) (by simp) rfl rfl (ih () trivial))
theorem ycc (n : Int) (u : ByteArray) (den : Int) (ps : List Piece) (k0 k1 : Ex) : yb Tryz.prog G 120 [(Ex.mk 15 n u den ps [k0, k1]).sv] (sB (zaf 15 u k0 k1 2 (decide (k1.unit = k0.unit)))) := by
 have hrows := zp [k0, k1]
 have hlen : (zb [k0, k1]).length = 2 := by rw [hrows]; rfl
 have h0 : (zb [k0, k1])[0]? = some k0.cells := by rw [hrows]; rfl
 have h1 : (zb [k0, k1])[1]? = some k1.cells := by rw [hrows]; rfl
 have hkl : [k0, k1].length = 2 := rfl
 generalize [k0, k1] = ks at hrows hlen h0 h1 hkl ⊢
 refine ze Tryz.func120 rfl (by rw [Tryz.ntmps120]; simp) rfl rfl ?_; intro E hH hK
 obtain ⟨o0, n0, u0, d0, p0, q0⟩ := k0
 obtain ⟨o1, n1, u1, d1, p1, q1⟩ := k1
 replace hK : ∀ H', E.K (sB (decide (u0 = tM) && zeh u1 && decide (u = u1))) H' := by
  intro H'
  have := hK H'
  rw [yua] at this
  exact this
 (refine zi ?_; conv => whnf)
 refine zg rfl rfl  (row := (Ex.mk o0 n0 u0 d0 p0 q0).cells) h0 ?_
 (refine zj ?_; conv => whnf)
 refine zg rfl rfl  (row := (Ex.mk o1 n1 u1 d1 p1 q1).cells) h1 ?_
 (refine zj ?_; conv => whnf)
 refine zf [1, 3, 4, 5] ?_
 refine zt ks (fun i (_ : Unit) => [(1, .ptr 0 0), (3, sS u0), (4, sS u1), (5, sI i)]) (fun _ _ => [.cells [sI 15, sI n, sS u, sI den, .imm (.isl 3 (ps.map Piece.cells)), .imm (.isl 6 (zb ks))]])
  (fun _ _ _ => True) () trivial ?_ ?_
 ·as_aux_lemma =>
   rintro _ _
   (refine zi ?_; conv => whnf)
   repeat' ((with_reducible refine way ?_ ?_) <;> (intro h; conv => whnf))
   all_goals try (exfalso; omega)
   all_goals try exact kB hK (by simp [tM, *]; done)
   refine zd rfl  (zux G u1) ?_
   (refine zj ?_; conv => whnf)
   repeat' ((with_reducible refine way ?_ ?_) <;> (intro h; conv => whnf))
   all_goals exact kB hK (by simp [tM, *])
 ·as_aux_lemma =>
   rintro done k rest _ ha hl _ ih
   have hw := zm (n := done.length) (by omega)
   (refine zi ?_; conv => whnf)
   repeat' ((with_reducible refine way ?_ ?_) <;> (intro h; conv => whnf))
   all_goals try (exfalso; omega)
   all_goals (rw [hw]; exact yr [1, 3, 4, 5] 1 (by simp [hH]) (by simp) rfl rfl (ih () trivial))
theorem zwe (op n : Int) (u : ByteArray) (den : Int) (ps : List Piece) (k0 k1 : Ex) (hc : op < 6 \/ 17 < op) : yb Tryz.prog G 120 [(Ex.mk op n u den ps [k0, k1]).sv] (sB (zaf op u k0 k1 2 (decide (k1.unit = k0.unit)))) := by
 have hrows := zp [k0, k1]
 have hlen : (zb [k0, k1]).length = 2 := by rw [hrows]; rfl
 have h0 : (zb [k0, k1])[0]? = some k0.cells := by rw [hrows]; rfl
 have h1 : (zb [k0, k1])[1]? = some k1.cells := by rw [hrows]; rfl
 have hkl : [k0, k1].length = 2 := rfl
 generalize [k0, k1] = ks at hrows hlen h0 h1 hkl ⊢
 refine ze Tryz.func120 rfl (by rw [Tryz.ntmps120]; simp) rfl rfl ?_; intro E hH hK
 obtain ⟨o0, n0, u0, d0, p0, q0⟩ := k0
 obtain ⟨o1, n1, u1, d1, p1, q1⟩ := k1
 rw [yox _ _ _ _ _ hc] at hK
 (refine zi ?_; conv => whnf)
 refine zg rfl rfl  (row := (Ex.mk o0 n0 u0 d0 p0 q0).cells) h0 ?_
 (refine zj ?_; conv => whnf)
 refine zg rfl rfl  (row := (Ex.mk o1 n1 u1 d1 p1 q1).cells) h1 ?_
 (refine zj ?_; conv => whnf)
 refine zf [1, 3, 4, 5] ?_
 refine zt ks (fun i (_ : Unit) => [(1, .ptr 0 0), (3, sS u0), (4, sS u1), (5, sI i)]) (fun _ _ => [.cells [sI op, sI n, sS u, sI den, .imm (.isl 3 (ps.map Piece.cells)), .imm (.isl 6 (zb ks))]])
  (fun _ _ _ => True) () trivial ?_ ?_
 ·as_aux_lemma =>
   rintro _ _
   (refine zi ?_; conv => whnf)
   repeat' ((with_reducible refine way ?_ ?_) <;> (intro h; conv => whnf))
   all_goals try (exfalso; omega)
   all_goals exact hK _
 ·as_aux_lemma =>
   rintro done k rest _ ha hl _ ih
   have hw := zm (n := done.length) (by omega)
   (refine zi ?_; conv => whnf)
   repeat' ((with_reducible refine way ?_ ?_) <;> (intro h; conv => whnf))
   all_goals try (exfalso; omega)
   all_goals (rw [hw]; exact yr [1, 3, 4, 5] 1 (by simp [hH]) (by simp) rfl rfl (ih () trivial))
theorem zwf (op n : Int) (u : ByteArray) (den : Int) (ps : List Piece) (k0 k1 k2 : Ex) (kr : List Ex) (hsz : kr.length <= 100000) (hop : ¬ (op = 16 \/ op = 17)) :
  yb Tryz.prog G 120 [(Ex.mk op n u den ps (k0 :: k1 :: k2 :: kr)).sv] (sB false) := by
 have hrows := zp (k0 :: k1 :: k2 :: kr)
 have hlen : (zb (k0 :: k1 :: k2 :: kr)).length = kr.length + 3 := by rw [hrows]; simp
 have h0 : (zb (k0 :: k1 :: k2 :: kr))[0]? = some k0.cells := by rw [hrows]; rfl
 have h1 : (zb (k0 :: k1 :: k2 :: kr))[1]? = some k1.cells := by rw [hrows]; rfl
 have hkl : (k0 :: k1 :: k2 :: kr).length = kr.length + 3 := by simp
 generalize k0 :: k1 :: k2 :: kr = ks at hrows hlen h0 h1 hkl ⊢
 refine ze Tryz.func120 rfl (by rw [Tryz.ntmps120]; simp) rfl rfl ?_; intro E hH hK
 obtain ⟨o0, n0, u0, d0, p0, q0⟩ := k0
 obtain ⟨o1, n1, u1, d1, p1, q1⟩ := k1
 (refine zi ?_; conv => whnf)
 refine zg rfl rfl  (row := (Ex.mk o0 n0 u0 d0 p0 q0).cells) h0 ?_
 (refine zj ?_; conv => whnf)
 refine zg rfl rfl  (row := (Ex.mk o1 n1 u1 d1 p1 q1).cells) h1 ?_
 (refine zj ?_; conv => whnf)
 refine zf [1, 3, 4, 5] ?_
 refine zt ks (fun i (_ : Unit) => [(1, .ptr 0 0), (3, sS u0), (4, sS u1), (5, sI i)]) (fun _ _ => [.cells [sI op, sI n, sS u, sI den, .imm (.isl 3 (ps.map Piece.cells)), .imm (.isl 6 (zb ks))]])
  (fun _ _ _ => True) () trivial ?_ ?_
 ·as_aux_lemma =>
   rintro _ _
   (refine zi ?_; conv => whnf)
   repeat' ((with_reducible refine way ?_ ?_) <;> (intro h; conv => whnf))
   all_goals try (exfalso; omega)
   all_goals exact hK _
 ·as_aux_lemma =>
   rintro done k rest _ ha hl _ ih
   have hw := zm (n := done.length) (by omega)
   (refine zi ?_; conv => whnf)
   repeat' ((with_reducible refine way ?_ ?_) <;> (intro h; conv => whnf))
   all_goals try (exfalso; omega)
   all_goals (rw [hw]; exact yr [1, 3, 4, 5] 1 (by simp [hH]) (by simp) rfl rfl (ih () trivial))
theorem zwg (op n : Int) (u : ByteArray) (den : Int) (ps : List Piece) (k0 k1 : Ex) (kr : List Ex) (hsz : kr.length <= 100000) (hop : op = 16 \/ op = 17) :
  yb Tryz.prog G 120 [(Ex.mk op n u den ps (k0 :: k1 :: kr)).sv] (sB (zbr (k0 :: k1 :: kr) && (!decide (k0.unit = tT) && decide (u = k0.unit)))) := by
 have hrows := zp (k0 :: k1 :: kr)
 have hlen : (zb (k0 :: k1 :: kr)).length = kr.length + 2 := by rw [hrows]; simp
 have h0 : (zb (k0 :: k1 :: kr))[0]? = some k0.cells := by rw [hrows]; rfl
 have h1 : (zb (k0 :: k1 :: kr))[1]? = some k1.cells := by rw [hrows]; rfl
 have hkl : (k0 :: k1 :: kr).length = kr.length + 2 := by simp
 have hsm : zbr (k0 :: k1 :: kr) = (k0 :: k1 :: kr).all fun x => decide (x.unit = k0.unit) := rfl
 generalize k0 :: k1 :: kr = ks at hrows hlen h0 h1 hkl hsm ⊢
 refine ze Tryz.func120 rfl (by rw [Tryz.ntmps120]; simp) rfl rfl ?_; intro E hH hK
 obtain ⟨o0, n0, u0, d0, p0, q0⟩ := k0
 obtain ⟨o1, n1, u1, d1, p1, q1⟩ := k1
 replace hK : ∀ H', E.K (sB (zbr ks && (!decide (u0 = tT) && decide (u = u0)))) H' := hK
 (refine zi ?_; conv => whnf)
 refine zg rfl rfl  (row := (Ex.mk o0 n0 u0 d0 p0 q0).cells) h0 ?_
 (refine zj ?_; conv => whnf)
 refine zg rfl rfl  (row := (Ex.mk o1 n1 u1 d1 p1 q1).cells) h1 ?_
 (refine zj ?_; conv => whnf)
 refine zf [1, 3, 4, 5] ?_
 refine zt ks (fun i (_ : Unit) => [(1, .ptr 0 0), (3, sS u0), (4, sS u1), (5, sI i)]) (fun _ _ => [.cells [sI op, sI n, sS u, sI den, .imm (.isl 3 (ps.map Piece.cells)), .imm (.isl 6 (zb ks))]])
  (fun done rest _ => zbr ks = rest.all fun x => decide (x.unit = u0)) () hsm ?_ ?_
 ·as_aux_lemma =>
   rintro _ hs
   have hs' : zbr ks = true := by rw [hs]; rfl
   rw [hs', Bool.true_and] at hK
   (refine zi ?_; conv => whnf)
   repeat' ((with_reducible refine way ?_ ?_) <;> (intro h; conv => whnf))
   all_goals try (exfalso; omega)
   all_goals exact kB hK (by simp [tT, *])
 ·as_aux_lemma =>
   rintro done k rest _ ha hl hs ih
   have hw := zm (n := done.length) (by omega)
   have hrow : (zb ks)[((done.length : Nat) : Int).toNat]? = some k.cells := by rw [hrows]; simp [ha]
   obtain ⟨o2, n2, u2, d2, p2, q2⟩ := k
   have hs' : zbr ks = (decide (u2 = u0) && rest.all fun x => decide (x.unit = u0)) := hs
   have hbad : ¬ u2 = u0 -> (zbr ks && (!decide (u0 = tT) && decide (u = u0))) = false := fun h => by rw [hs', decide_eq_false h]; rfl
   (refine zi ?_; conv => whnf)
   repeat' ((with_reducible refine way ?_ ?_) <;> (intro h; conv => whnf))
   all_goals try (exfalso; omega)
   all_goals refine zg rfl rfl  (row := (Ex.mk o2 n2 u2 d2 p2 q2).cells) hrow ?_
   all_goals (refine zj ?_; conv => whnf)
   all_goals repeat' ((with_reducible refine way ?_ ?_) <;> (intro h; conv => whnf))
   all_goals first
    | exact kB hK (hbad (by assumption))
    | (rw [hw]; exact yr [1, 3, 4, 5] 1 (by simp [hH]) (by simp) rfl rfl (ih () (by rw [hs', decide_eq_true (by assumption)]; rfl)))
theorem ymi (op n : Int) (u : ByteArray) (den : Int) (ps : List Piece) (k0 k1 : Ex) (kr : List Ex) (hsz : kr.length <= 100000) :
  yb Tryz.prog G 120 [(Ex.mk op n u den ps (k0 :: k1 :: kr)).sv] (sB (zaf op u k0 (((k0 :: k1 :: kr).getLast?).getD k0) (k0 :: k1 :: kr).length (zbr (k0 :: k1 :: kr)))) := by
 by_cases hop : op = 16 \/ op = 17
 ·have := zwg G op n u den ps k0 k1 kr hsz hop
  cases hs : zbr (k0 :: k1 :: kr) with
  | true =>
   rw [hs, Bool.true_and] at this
   have h2 : (2 : Int) <= ((k0 :: k1 :: kr).length : Nat) := by simp; omega
   rcases hop with rfl | rfl
   ·rw [ytt _ _ _ _ h2]; exact this
   ·rw [ytu _ _ _ _ h2]; exact this
  | false =>
   rw [hs, Bool.false_and] at this
   have e : zaf op u k0 (((k0 :: k1 :: kr).getLast?).getD k0) (k0 :: k1 :: kr).length false = false := by
    rcases hop with rfl | rfl <;> simp [zaf]
   rw [e]; exact this
 ·cases kr with
  | cons k2 kr =>
   have e : zaf op u k0 (((k0 :: k1 :: k2 :: kr).getLast?).getD k0) (k0 :: k1 :: k2 :: kr).length (zbr (k0 :: k1 :: k2 :: kr)) = false := by
    simp only [zaf, if_neg hop]
    rw [decide_eq_false (p := (((k0 :: k1 :: k2 :: kr).length : Nat) : Int) = 2) (by simp; omega), decide_eq_false (p := (((k0 :: k1 :: k2 :: kr).length : Nat) : Int) = 1) (by simp; omega)]
    simp
   rw [e]
   exact zwf G op n u den ps k0 k1 k2 kr (by simp at hsz; omega) hop
  | nil =>
   have e1 : ([k0, k1].getLast?).getD k0 = k1 := rfl
   have e2 : (([k0, k1].length : Nat) : Int) = 2 := rfl
   have e3 : zbr [k0, k1] = decide (k1.unit = k0.unit) := by simp [zbr]
   rw [e1, e2, e3]
   have hc : op = 6 \/ op = 7 \/ op = 8 \/ op = 9 \/ op = 10 \/ op = 11 \/ op = 12 \/ op = 13 \/ op = 14 \/ op = 15 \/ (op < 6 \/ 17 < op) := by omega
   rcases hc with rfl | rfl | rfl | rfl | rfl | rfl | rfl | rfl | rfl | rfl | hc
   ·exact yhq G n u den ps k0 k1
   ·exact yhr G n u den ps k0 k1
   ·exact yhs G n u den ps k0 k1
   ·exact yht G n u den ps k0 k1
   ·exact ybx G n u den ps k0 k1
   ·exact yby G n u den ps k0 k1
   ·exact ybz G n u den ps k0 k1
   ·exact yca G n u den ps k0 k1
   ·exact ycb G n u den ps k0 k1
   ·exact ycc G n u den ps k0 k1
   ·exact zwe G op n u den ps k0 k1 hc
def zhg (c : Codex) (op n : Int) (u : ByteArray) (den : Int) (ps : List Piece) (ks : List Ex) : Bool :=
 if op = 18 then decide (n = 0) && decide (ks.length = 1) && zeh u && (match ks with | k :: _ => decide (u = k.unit) | [] => false) && jp den ps
 else if ¬ den = 0 \/ 0 < ps.length then false
 else if 1 <= op /\ op <= 4 then decide (ks.length = 0) && zac c op n u
 else decide (n = 0) && (match ks.head?, ks.getLast? with | some f, some l => zaf op u f l ks.length (zbr ks) | _, _ => false)
mutual
def zep (c : Codex) : Ex -> Bool
 | .mk op n u den ps ks => znm c ks && zhg c op n u den ps ks
def znm (c : Codex) : List Ex -> Bool
 | [] => true
 | k :: r => zep c k && znm c r
end
theorem yhu (c : Codex) (ks : List Ex) : znm c ks = ks.all (zep c) := by
 induction ks with
 | nil => rfl
 | cons k r ih => simp [znm, ih]
theorem zog (c : Codex) (op n : Int) (u : ByteArray) (h : ¬ (1 <= op /\ op <= 4)) : zac c op n u = false := by
 simp only [zac]
 rw [if_neg (by omega), if_neg (by omega), if_neg (by omega), if_neg (by omega)]
theorem zzl (c : Codex) (op n : Int) (u : ByteArray) (den : Int) (ps : List Piece) :
  zhg c op n u den ps [] = if (¬ (1 <= op /\ op <= 4) /\ ¬ n = 0) \/ (¬ op = 18 /\ (¬ den = 0 \/ 0 < ps.length)) then false else zac c op n u := by
 simp only [zhg]
 by_cases h18 : op = 18
 ·subst h18
  rw [if_pos rfl, zog c 18 n u (by omega)]
  simp
 ·rw [if_neg h18]
  by_cases hd : ¬ den = 0 \/ 0 < ps.length
  ·rw [if_pos hd, if_pos (.inr ⟨h18, hd⟩)]
  ·rw [if_neg hd]
   by_cases h4 : 1 <= op /\ op <= 4
   ·rw [if_pos h4, if_neg (by simp [h4, hd])]
    simp
   ·rw [if_neg h4, zog c op n u h4]
    simp
theorem zzm (c : Codex) (op n : Int) (u : ByteArray) (den : Int) (ps : List Piece) (k : Ex) :
  zhg c op n u den ps [k] = if (¬ (1 <= op /\ op <= 4) /\ ¬ n = 0) \/ (¬ op = 18 /\ (¬ den = 0 \/ 0 < ps.length)) then false
   else (decide (op = 5) && decide (u = tT) && decide (k.unit = tT)) || (decide (op = 18) && decide (u = k.unit) && zeh u && jp den ps) := by
 simp only [zhg]
 by_cases h18 : op = 18
 ·subst h18
  rw [if_pos rfl]
  by_cases hn : n = 0
  ·rw [if_neg (by simp [hn])]
   simp [hn]
   cases zeh u <;> simp
  ·rw [if_pos (by left; exact ⟨by omega, hn⟩)]
   simp [hn]
 ·rw [if_neg h18]
  by_cases hd : ¬ den = 0 \/ 0 < ps.length
  ·rw [if_pos hd, if_pos (.inr ⟨h18, hd⟩)]
  ·rw [if_neg hd]
   by_cases h4 : 1 <= op /\ op <= 4
   ·rw [if_pos h4, if_neg (by simp [h4, hd])]
    have h5 : ¬ op = 5 := by omega
    simp [h18, h5]
   ·rw [if_neg h4]
    by_cases hn : n = 0
    ·rw [if_neg (by simp [hn, hd])]
     by_cases h5 : op = 5
     ·subst h5; simp [zaf, hn]
     ·simp [zaf, hn, h5, h18]
    ·rw [if_pos (.inl ⟨h4, hn⟩)]
     simp [hn]
theorem ztx (c : Codex) (op n : Int) (u : ByteArray) (den : Int) (ps : List Piece) (k0 k1 : Ex) (kr : List Ex) :
  zhg c op n u den ps (k0 :: k1 :: kr) = if (¬ (1 <= op /\ op <= 4) /\ ¬ n = 0) \/ (¬ op = 18 /\ (¬ den = 0 \/ 0 < ps.length)) then false
   else zaf op u k0 (((k0 :: k1 :: kr).getLast?).getD k0) (k0 :: k1 :: kr).length (zbr (k0 :: k1 :: kr)) := by
 have hno : op = 18 \/ (1 <= op /\ op <= 4) -> zaf op u k0 (((k0 :: k1 :: kr).getLast?).getD k0) (k0 :: k1 :: kr).length (zbr (k0 :: k1 :: kr)) = false := fun h => by
  simp only [zaf]
  rw [if_neg (by omega), if_neg (by omega), if_neg (by omega), if_neg (by omega), if_neg (by omega), if_neg (by omega), if_neg (by omega), if_neg (by omega), if_neg (by omega)]
 have hlast : ∃ l, (k0 :: k1 :: kr).getLast? = some l := ⟨_, List.getLast?_eq_some_getLast (by simp)⟩
 obtain ⟨l, hl⟩ := hlast
 simp only [zhg]
 by_cases h18 : op = 18
 ·rw [if_pos h18, hno (.inl h18)]
  simp
 ·rw [if_neg h18]
  by_cases hd : ¬ den = 0 \/ 0 < ps.length
  ·rw [if_pos hd, if_pos (.inr ⟨h18, hd⟩)]
  ·rw [if_neg hd]
   by_cases h4 : 1 <= op /\ op <= 4
   ·rw [if_pos h4, if_neg (by simp [h4, hd]), hno (.inr h4)]
    simp
   ·rw [if_neg h4]
    by_cases hn : n = 0
    ·rw [if_neg (by simp [hn, hd]), hl]
     simp [hn]
    ·rw [if_pos (.inl ⟨h4, hn⟩)]
     simp [hn]
theorem zzn (c : Codex) (hsz : c.arts.length <= 9223372036854775807) (N : Nat) : ∀ (e : Ex), SizeOf.sizeOf e < N -> wa e <= 1000 -> yb Tryz.prog G 84 [c.sv, e.sv] (sB (zep c e)) := by
 induction N with
 | zero => intro e h; omega
 | succ N IH =>
 intro e he hs
 obtain ⟨op, n, u, den, ps, ks⟩ := e
 simp only [Ex.mk.sizeOf_spec] at he
 simp only [wa] at hs
 have hrows := zp ks
 have hlen : (zb ks).length = ks.length := by rw [hrows]; simp
 have hkl := zga ks
 have hpl : (ps.map Piece.cells).length = ps.length := by simp
 have hfit : zep c (.mk op n u den ps ks) = (ks.all (zep c) && zhg c op n u den ps ks) := by simp only [zep, yhu]
 rw [hfit]
 refine ze Tryz.func84 rfl (by rw [Tryz.ntmps84]; simp) rfl rfl ?_; intro E hH hK
 (refine zi ?_; conv => whnf)
 refine zf [2, 3, 5] ?_
 refine zt ks (fun i (_ : Unit) => [(2, .ptr 0 0), (3, .ptr 1 0), (5, sI i)])
  (fun _ _ => [.cells [.imm (zk c.facts), .imm (zk c.lines), .imm (xw c.arts)], .cells [sI op, sI n, sS u, sI den, .imm (.isl 3 (ps.map Piece.cells)), .imm (.isl 6 (zb ks))]])
  (fun done rest _ => ks.all (zep c) = rest.all (zep c)) () rfl ?_ ?_
 ·as_aux_lemma =>
   rintro _ h1
   have hall : ks.all (zep c) = true := by rw [h1]; rfl
   rw [hall, Bool.true_and] at hK
   clear IH h1 hfit
   by_cases hbad : (¬ (1 <= op /\ op <= 4) /\ ¬ n = 0) \/ (¬ op = 18 /\ (¬ den = 0 \/ 0 < ps.length))
   ·have hr : zhg c op n u den ps ks = false := by
     match ks with
     | [] => rw [zzl, if_pos hbad]
     | [k] => rw [zzm, if_pos hbad]
     | k0 :: k1 :: kr => rw [ztx, if_pos hbad]
    rw [hr] at hK
    as_aux_lemma =>
     (refine zi ?_; conv => whnf)
     repeat' ((with_reducible refine way ?_ ?_) <;> (intro h; first | (exfalso; omega) | (conv => whnf)))
     all_goals try (exfalso; omega)
     all_goals exact hK _
   ·match ks with
    | [] =>
     rw [zzl, if_neg hbad] at hK
     as_aux_lemma =>
      (refine zi ?_; conv => whnf)
      repeat' ((with_reducible refine way ?_ ?_) <;> (intro h; first | (exfalso; omega) | (conv => whnf)))
      all_goals try (exfalso; omega)
      all_goals refine zd rfl  (zzk G c op n u den ps [] hsz) ?_
      all_goals (refine zj ?_; conv => whnf)
      all_goals exact hK _
    | [k] =>
     rw [zzm, if_neg hbad] at hK
     obtain ⟨o0, n0, u0, d0, p0, q0⟩ := k
     replace hK : ∀ H', E.K (sB ((decide (op = 5) && decide (u = tT) && decide (u0 = tT)) || (decide (op = 18) && decide (u = u0) && zeh u && jp den ps))) H' := hK
     have h0 : (zb [Ex.mk o0 n0 u0 d0 p0 q0])[0]? = some (Ex.mk o0 n0 u0 d0 p0 q0).cells := by rw [zp]; rfl
     have hlen1 : (zb [Ex.mk o0 n0 u0 d0 p0 q0]).length = 1 := by rw [zp]; rfl
     generalize zb [Ex.mk o0 n0 u0 d0 p0 q0] = rows at h0 hlen hlen1 ⊢
     by_cases h5 : op = 5
     ·subst h5
      replace hK : ∀ H', E.K (sB (decide (u = tT) && decide (u0 = tT))) H' := by simpa using hK
      as_aux_lemma =>
       (refine zi ?_; conv => whnf)
       repeat' ((with_reducible refine way ?_ ?_) <;> (intro h; first | (exfalso; omega) | (conv => whnf)))
       all_goals try (exfalso; omega)
       all_goals (refine yw mixed rfl ?_; refine zl [] ?_; conv => whnf)
       all_goals repeat' ((with_reducible refine way ?_ ?_) <;> (intro h; first | (exfalso; omega) | (conv => whnf)))
       all_goals try refine xh rfl rfl  (row := (Ex.mk o0 n0 u0 d0 p0 q0).cells) h0 ?_
       all_goals try (refine zl [] ?_; conv => whnf)
       all_goals try repeat' ((with_reducible refine way ?_ ?_) <;> (intro h; first | (exfalso; omega) | (conv => whnf)))
       all_goals try (refine zi ?_; conv => whnf)
       all_goals exact kB hK (by simp [tT, *])
     by_cases h18 : op = 18
     ·subst h18
      replace hK : ∀ H', E.K (sB (decide (u = u0) && zeh u && jp den ps)) H' := by simpa using hK
      as_aux_lemma =>
       (refine zi ?_; conv => whnf)
       repeat' ((with_reducible refine way ?_ ?_) <;> (intro h; first | (exfalso; omega) | (conv => whnf)))
       all_goals try (exfalso; omega)
       (refine yw mixed rfl ?_; refine zl [] ?_; conv => whnf)
       refine xh rfl rfl  (row := (Ex.mk o0 n0 u0 d0 p0 q0).cells) h0 ?_
       (refine zl [] ?_; conv => whnf)
       repeat' ((with_reducible refine way ?_ ?_) <;> (intro h; first | (exfalso; omega) | (conv => whnf)))
       ·refine zad rfl  (zux G u) ?_
        cases hc : zeh u with
        | false =>
         (refine zl [] ?_; conv => whnf)
         (refine zi ?_; conv => whnf)
         exact kB hK (by simp [hc])
        | true =>
         (refine zl [] ?_; conv => whnf)
         refine zad rfl  (zuy G den ps) ?_
         (refine zl [] ?_; conv => whnf)
         (refine zi ?_; conv => whnf)
         exact kB hK (by rw [hc, decide_eq_true h]; rfl)
       ·(refine zi ?_; conv => whnf)
        exact kB hK (by rw [decide_eq_false h]; rfl)
     ·replace hK : ∀ H', E.K (sB false) H' := by simpa [h5, h18] using hK
      as_aux_lemma =>
       (refine zi ?_; conv => whnf)
       repeat' ((with_reducible refine way ?_ ?_) <;> (intro h; first | (exfalso; omega) | (conv => whnf)))
       all_goals try (exfalso; omega)
       all_goals (refine yw mixed rfl ?_; refine zl [] ?_; conv => whnf)
       all_goals repeat' ((with_reducible refine way ?_ ?_) <;> (intro h; first | (exfalso; omega) | (conv => whnf)))
       all_goals try (exfalso; omega)
       all_goals (refine zi ?_; conv => whnf)
       all_goals exact hK _
    | k0 :: k1 :: kr =>
     rw [ztx, if_neg hbad] at hK
     as_aux_lemma =>
      (refine zi ?_; conv => whnf)
      repeat' ((with_reducible refine way ?_ ?_) <;> (intro h; first | (exfalso; omega) | (conv => whnf)))
      all_goals try (exfalso; omega)
      all_goals refine zd rfl  (ymi G op n u den ps k0 k1 kr (by simp at hkl; omega)) ?_
      all_goals (refine zj ?_; conv => whnf)
      all_goals exact hK _
 ·as_aux_lemma =>
   rintro done k rest _ ha hl h1 ih
   have hkm : SizeOf.sizeOf k < SizeOf.sizeOf ks := List.sizeOf_lt_of_mem (by rw [ha]; simp)
   have hks : wa k <= yg ks := zqo (by rw [ha]; simp)
   have hw := zm (n := done.length) (by omega)
   have hrow : (zb ks)[((done.length : Nat) : Int).toNat]? = some k.cells := by rw [hrows]; simp [ha]
   have hcall := IH k (by omega) (by omega)
   simp only [List.all_cons] at h1
   obtain ⟨o1, n1, u1, d1, p1, q1⟩ := k
   (refine zi ?_; conv => whnf)
   repeat' ((with_reducible refine way ?_ ?_) <;> (intro h; first | (exfalso; omega) | (conv => whnf)))
   all_goals try (exfalso; omega)
   (refine yw mixed rfl ?_; refine zl [] ?_; conv => whnf)
   refine xh rfl rfl  (row := (Ex.mk o1 n1 u1 d1 p1 q1).cells) hrow ?_
   (refine zl [] ?_; conv => whnf)
   refine zad rfl  hcall ?_
   cases hb : zep c (.mk o1 n1 u1 d1 p1 q1) with
   | false =>
    (refine zl [] ?_; conv => whnf)
    (refine zi ?_; conv => whnf)
    exact kB hK (by rw [h1, hb]; rfl)
   | true =>
    (refine zl [] ?_; conv => whnf)
    (refine zi ?_; conv => whnf)
    rw [hw]
    exact yr [2, 3, 5] 2 (by simp [hH]) (by simp) rfl rfl (ih () (by rw [h1, hb]; rfl))
def wj (c : Codex) (e : Ex) : Bool := zcn e && zep c e
theorem zjs (c : Codex) (hsz : c.arts.length <= 9223372036854775807) (e : Ex) : yb Tryz.prog G 53 [c.sv, e.sv] (sB (wj c e)) := by
 have hw := zvc G e
 have hf := fun h => zzn G c hsz (SizeOf.sizeOf e + 1) e (by omega) h
 have he : wj c e = (zcn e && zep c e) := rfl
 rw [he]
 have hsmall : zcn e = true -> wa e <= 1000 := fun h => by simp [zcn] at h; omega
 obtain ⟨op, n, u, den, ps, ks⟩ := e
 refine ze Tryz.func53 rfl (by rw [Tryz.ntmps53]; simp) rfl rfl ?_; intro E hH hK
 (refine zi ?_; conv => whnf)
 refine zd rfl  hw ?_
 cases hwi : zcn (.mk op n u den ps ks) with
 | false =>
  (refine zj ?_; conv => whnf)
  exact kB hK (by rw [hwi]; rfl)
 | true =>
  (refine zj ?_; conv => whnf)
  refine zd rfl  (hf (hsmall hwi)) ?_
  (refine zj ?_; conv => whnf)
  exact kB hK (by rw [hwi]; rfl)
def zdd (c : Codex) (n : Int) : Int := match c.arts[(jg n c.arts 0).toNat]? with | some a => a.line | none => 0
def jd (c : Codex) (a : Article) : Bool :=
 decide (1 <= a.number /\ a.number <= 1000000 /\ 0 <= a.line /\ a.line < c.lines.length /\ a.line = zdd c a.number) && zca a && a.when_.all (fun e => wj c e && decide (e.unit = tT)) &&
 a.unless_.all (fun n => decide (0 <= jg n c.arts 0)) && (wj c a.amount && decide (a.amount.unit = zdi c a.line))
def zih (c : Codex) : Bool :=
 (qv 0 0 c.facts && decide (c.facts.length <= 32)) && (qv 1 4 c.lines && decide (c.lines.length <= 32)) && decide (c.arts.length <= 60) && c.arts.all (jd c)
theorem zzo (l : List Decl) (s : ByteArray) (hsz : l.length <= 9223372036854775807) : yb Tryz.prog G 82 [.imm (zk l), sS s] (sI (znq s l 0)) := by
 refine ze Tryz.func82 rfl (by rw [Tryz.ntmps82]; simp) rfl rfl ?_; intro E hH hK
 have hlen : (l.map Decl.cells).length = l.length := by simp
 (refine zi ?_; conv => whnf)
 refine zf [0, 1, 5] ?_
 refine zt l (fun i (_ : Unit) => [(0, .imm (zk l)), (1, sS s), (5, sI i)]) (fun _ _ => []) (fun done rest _ => znq s l 0 = znq s rest done.length) () rfl ?_ ?_
 ·rintro _ h1
  (refine zi ?_; conv => whnf)
  repeat' ((with_reducible refine way ?_ ?_) <;> (intro h; conv => whnf))
  all_goals try (exfalso; omega)
  exact kI hK (by rw [h1]; rfl)
 ·rintro done d rest _ ha hl h1 ih
  have hw := zm (n := done.length) (by omega)
  simp only [znq] at h1
  (refine zi ?_; conv => whnf)
  repeat' ((with_reducible refine way ?_ ?_) <;> (intro h; conv => whnf))
  all_goals try (exfalso; omega)
  refine zg rfl rfl  (row := d.cells) (by simp [ha]) ?_
  (refine zj ?_; conv => whnf)
  repeat' ((with_reducible refine way ?_ ?_) <;> (intro h; conv => whnf))
  ·exact kI hK (by rw [h1, if_pos h])
  ·rw [hw]; exact zf [0, 1, 5] (ih () (by rw [h1, if_neg h]; simp))
theorem zjt (l : List Decl) (lo hi : Int) (hsz : l.length <= 9223372036854775807) : yb Tryz.prog G 51 [.imm (zk l), sI lo, sI hi] (sB (qv lo hi l && decide (l.length <= 32))) := by
 refine ze Tryz.func51 rfl (by rw [Tryz.ntmps51]; simp) rfl rfl ?_; intro E hH hK
 have hlen : (l.map Decl.cells).length = l.length := by simp
 (refine zi ?_; conv => whnf)
 refine zf [0, 1, 2, 7] ?_
 refine zt l (fun i (_ : Unit) => [(0, .imm (zk l)), (1, sI lo), (2, sI hi), (7, sI i)]) (fun _ _ => [])
  (fun done _ _ => done.all (jq lo hi) = true /\ (done.map (·.name)).Nodup) () ⟨rfl, List.nodup_nil⟩ ?_ ?_
 ·rintro _ ⟨h1, h2⟩
  (refine zi ?_; conv => whnf)
  repeat' ((with_reducible refine way ?_ ?_) <;> (intro h; conv => whnf))
  all_goals try (exfalso; omega)
  exact kB hK (by simp only [qv, h1, h2]; simp; omega)
 ·rintro done d rest _ ha hl ⟨h1, h2⟩ ih
  have hw := zm (n := done.length) (by omega)
  have bad : jq lo hi d = false \/ d.name ∈ done.map (·.name) -> (qv lo hi l && decide (l.length <= 32)) = false := fun h => by rw [ha, zqm h]; rfl
  have next : jq lo hi d = true -> d.name ∉ done.map (·.name) -> _ := fun g1 g2 => ih () ⟨by simp [h1, g1], by
   rw [List.map_append, List.nodup_append]; exact ⟨h2, by simp, fun a ha b hb e => g2 (by simp at hb; rw [<- hb, <- e]; exact ha)⟩⟩
  have hix := zxq d.name done d rest 0 rfl
  rw [<- ha] at hix
  have hg : (l.map Decl.cells)[((done.length : Nat) : Int).toNat]? = some d.cells := by simp [ha]
  (refine zi ?_; conv => whnf)
  repeat' ((with_reducible refine way ?_ ?_) <;> (intro h; conv => whnf))
  all_goals try (exfalso; omega)
  refine zg rfl rfl  (row := d.cells) (by simp [ha]) ?_
  (refine zj ?_; conv => whnf)
  refine zd rfl  (zxo G d.name) ?_
  (refine zj ?_; conv => whnf)
  repeat' ((with_reducible refine way ?_ ?_) <;> (intro h; conv => whnf))
  any_goals exact kB hK (bad (.inl (by simp [jq, *])))
  refine zg rfl rfl  (row := d.cells) (by simp [ha]) ?_
  (refine zj ?_; conv => whnf)
  refine zd rfl  (zxm G d.unit) ?_
  (refine zj ?_; conv => whnf)
  repeat' ((with_reducible refine way ?_ ?_) <;> (intro h; conv => whnf))
  any_goals exact kB hK (bad (.inl (by simp [jq, *])))
  refine zg rfl rfl  (row := d.cells) (by simp [ha]) ?_
  (refine zj ?_; conv => whnf)
  repeat' ((with_reducible refine way ?_ ?_) <;> (intro h; conv => whnf))
  any_goals exact kB hK (bad (.inl (by simp [jq, *]; try omega)))
  refine zg rfl rfl  (row := d.cells) (by simp [ha]) ?_
  (refine zj ?_; conv => whnf)
  repeat' ((with_reducible refine way ?_ ?_) <;> (intro h; conv => whnf))
  any_goals exact kB hK (bad (.inl (by simp [jq, *]; try omega)))
  refine zg rfl rfl  (row := d.cells) (by simp [ha]) ?_
  (refine zj ?_; conv => whnf)
  refine zd rfl  (zzo G l d.name hsz) ?_
  (refine zj ?_; conv => whnf)
  repeat' ((with_reducible refine way ?_ ?_) <;> (intro h; conv => whnf))
  ·exact kB hK (bad (.inr (by
    rcases Classical.em (d.name ∈ done.map (·.name)) with h' | h'
    ·exact h'
    ·exact absurd (hix.2 h') (by simpa using h))))
  ·rw [hw]
   exact zf [0, 1, 2, 7] (next (by simp [jq, *]; omega) (hix.1 (by simpa using h)))
theorem zsm (c : Codex) (hsf : c.facts.length <= 9223372036854775807) (hsl : c.lines.length <= 9223372036854775807) (hsa : c.arts.length <= 9223372036854775807) (hart : Codex.fit c) : yb Tryz.prog G 21 [c.sv] (sB (zih c)) := by
 refine ze Tryz.func21 rfl (by rw [Tryz.ntmps21]; simp) rfl rfl ?_; intro E hH hK
 have hll : (c.lines.map Decl.cells).length = c.lines.length := by simp
 have hla : (c.arts.map Article.cells).length = c.arts.length := by simp
 (refine zi ?_; conv => whnf)
 refine zd rfl  (zjt G c.facts 0 0 (by omega)) ?_
 cases hd1 : (qv 0 0 c.facts && decide (c.facts.length <= 32)) with
 | false =>
  (refine zj ?_; conv => whnf)
  exact kB hK (by simp only [zih, hd1, Bool.false_and])
 | true =>
 (refine zj ?_; conv => whnf)
 refine zd rfl  (zjt G c.lines 1 4 (by omega)) ?_
 cases hd2 : (qv 1 4 c.lines && decide (c.lines.length <= 32)) with
 | false =>
  (refine zj ?_; conv => whnf)
  exact kB hK (by simp only [zih, hd1, hd2, Bool.and_false, Bool.false_and])
 | true =>
 (refine zj ?_; conv => whnf)
 repeat' ((with_reducible refine way ?_ ?_) <;> (intro h; first | (exfalso; omega) | (conv => whnf)))
 ·exact kB hK (by simp only [zih, hd1, hd2]; rw [decide_eq_false (by omega)]; rfl)
 have hok : zih c = c.arts.all (jd c) := by simp only [zih, hd1, hd2]; rw [decide_eq_true (by omega)]; rfl
 refine zf [1, 3] ?_
 refine zt c.arts (fun i (_ : Unit) => [(1, .ptr 0 0), (3, sI i)]) (fun _ _ => [.cells [.imm (zk c.facts), .imm (zk c.lines), .imm (xw c.arts)]])
  (fun done rest _ => c.arts.all (jd c) = rest.all (jd c)) () rfl ?_ ?_
 ·as_aux_lemma =>
   rintro _ h1
   (refine zi ?_; conv => whnf)
   repeat' ((with_reducible refine way ?_ ?_) <;> (intro h; first | (exfalso; omega) | (conv => whnf)))
   all_goals try (exfalso; omega)
   exact kB hK (by rw [hok, h1]; rfl)
 ·as_aux_lemma =>
   rintro done a rest _ ha hl hinv ih
   have hw := zm (n := done.length) (by omega)
   simp only [List.all_cons] at hinv
   obtain ⟨hun, hwn⟩ := hart a (by rw [ha]; simp)
   obtain ⟨op, n, u, den, ps, ks, ham⟩ : ∃ op n u den ps ks, a.amount = .mk op n u den ps ks := by cases h : a.amount; exact ⟨_, _, _, _, _, _, rfl⟩
   have hrow : (c.arts.map Article.cells)[((done.length : Nat) : Int).toNat]? = some [dI a.number, dI a.line, dI a.rank, dI a.lo, dI a.hi, dI a.known, xb a.when_, dInts a.unless_, dI op, dI n, dS u, dI den, .isl 3 (ps.map Piece.cells), .isl 6 (zb ks)] := by
    simp [ha, Article.cells, ham, zp, Ex.op, Ex.n, Ex.unit, Ex.den, Ex.pieces, Ex.kids]
   have hwl : (a.when_.map Ex.cells).length = a.when_.length := by simp
   have hul : (a.unless_.map fun n => [dI n]).length = a.unless_.length := by simp
   have bad : jd c a = false -> zih c = false := fun h => by rw [hok, hinv, h]; rfl
   have bad1 : ¬ (1 <= a.number /\ a.number <= 1000000 /\ 0 <= a.line /\ a.line < c.lines.length /\ a.line = zdd c a.number) -> zih c = false := fun h => bad (by simp only [jd]; rw [decide_eq_false h]; rfl)
   have bad2 : zca a = false -> zih c = false := fun h => bad (by simp only [jd, h, Bool.and_false, Bool.false_and])
   obtain ⟨b, hb1, hb2⟩ : ∃ b, c.arts[(jg a.number c.arts 0).toNat]? = some b /\ 0 <= jg a.number c.arts 0 := by
    rcases zkr a.number c.arts 0 with h | ⟨g1, g2, x, g3, g4⟩
    ·exact absurd rfl ((znl a.number c.arts 0).1 h a (by rw [ha]; simp))
    ·exact ⟨x, by simpa using g3, by simpa using g1⟩
   have hfl : zdd c a.number = b.line := by simp only [zdd, hb1]
   have hnum := zgv G c a.number (by omega)
   generalize hix : jg a.number c.arts 0 = ix at hb1 hb2 hnum
   (refine zi ?_; conv => whnf)
   repeat' ((with_reducible refine way ?_ ?_) <;> (intro h; first | (exfalso; omega) | (conv => whnf)))
   all_goals try (exfalso; omega)
   refine zg rfl rfl  (row := [dI a.number, dI a.line, dI a.rank, dI a.lo, dI a.hi, dI a.known, xb a.when_, dInts a.unless_, dI op, dI n, dS u, dI den, .isl 3 (ps.map Piece.cells), .isl 6 (zb ks)]) hrow ?_
   (refine zj ?_; conv => whnf)
   by_cases hg1 : 1 <= a.number /\ a.number <= 1000000 /\ 0 <= a.line /\ a.line < c.lines.length
   ·(refine yw mixed rfl ?_; refine zl [] ?_; conv => whnf)
    repeat' ((with_reducible refine way ?_ ?_) <;> (intro h; first | (exfalso; omega) | (conv => whnf)))
    all_goals try (exfalso; omega)
    refine zad rfl  hnum ?_
    (refine zl [] ?_; conv => whnf)
    refine xh rfl (i := ix.toNat) (by omega) (row := b.cells) (by simp [hb1]) ?_
    by_cases hline : a.line = b.line
    rotate_left
    ·(refine zl [] ?_; conv => whnf)
     repeat' ((with_reducible refine way ?_ ?_) <;> (intro h; first | (exfalso; omega) | (conv => whnf)))
     all_goals (refine zi ?_; conv => whnf)
     all_goals exact kB hK (bad1 (fun hc => hline (by rw [<- hfl]; exact hc.2.2.2.2)))
    (refine zl [] ?_; conv => whnf)
    repeat' ((with_reducible refine way ?_ ?_) <;> (intro h; first | (exfalso; omega) | (conv => whnf)))
    all_goals (refine zi ?_; conv => whnf)
    all_goals repeat' ((with_reducible refine way ?_ ?_) <;> (intro h; first | (exfalso; omega) | (conv => whnf)))
    all_goals try exact kB hK (bad2 (by simp [zca]; intros; omega))
    have hhead : zca a = true := by simp [zca]; omega
    have hone : decide (1 <= a.number /\ a.number <= 1000000 /\ 0 <= a.line /\ a.line < c.lines.length /\ a.line = zdd c a.number) = true := decide_eq_true ⟨hg1.1, hg1.2.1, hg1.2.2.1, hg1.2.2.2, by rw [hfl]; exact hline⟩
    have hart2 : jd c a = (a.when_.all (fun e => wj c e && decide (e.unit = tT)) && a.unless_.all (fun n => decide (0 <= jg n c.arts 0)) && (wj c a.amount && decide (a.amount.unit = zdi c a.line))) := by
     simp only [jd, hone, hhead, Bool.true_and]
    clear hnum bad1 bad2 hone hhead
    refine zf [1, 3, 4, 5] ?_
    refine zt a.when_ (fun i (_ : Unit) => [(1, .ptr 0 0), (3, sI done.length), (4, .ptr 1 0), (5, sI i)])
     (fun _ _ => [.cells [.imm (zk c.facts), .imm (zk c.lines), .imm (xw c.arts)], .cells (zkc a op n u den ps ks)])
     (fun done rest _ => a.when_.all (fun e => wj c e && decide (e.unit = tT)) = rest.all (fun e => wj c e && decide (e.unit = tT))) () rfl ?_ ?_
    ·as_aux_lemma =>
      rintro _ hwh
      have hwt : a.when_.all (fun e => wj c e && decide (e.unit = tT)) = true := by rw [hwh]; rfl
      rw [hwt, Bool.true_and] at hart2
      (refine zi ?_; conv => whnf)
      repeat' ((with_reducible refine way ?_ ?_) <;> (intro h; first | (exfalso; omega) | (conv => whnf)))
      all_goals try (exfalso; omega)
      refine zf [1, 3, 4, 6] ?_
      refine zt a.unless_ (fun i (_ : Unit) => [(1, .ptr 0 0), (3, sI done.length), (4, .ptr 1 0), (6, sI i)])
       (fun _ _ => [.cells [.imm (zk c.facts), .imm (zk c.lines), .imm (xw c.arts)], .cells (zkc a op n u den ps ks)])
       (fun done rest _ => a.unless_.all (fun n => decide (0 <= jg n c.arts 0)) = rest.all (fun n => decide (0 <= jg n c.arts 0))) () rfl ?_ ?_
      ·as_aux_lemma =>
        rintro _ huh
        have hut : a.unless_.all (fun n => decide (0 <= jg n c.arts 0)) = true := by rw [huh]; rfl
        rw [hut, Bool.true_and, ham] at hart2
        obtain ⟨d, hd⟩ : ∃ d, c.lines[a.line.toNat]? = some d := ⟨c.lines[a.line.toNat]'(by omega), List.getElem?_eq_getElem _⟩
        have hlu : zdi c a.line = d.unit := by simp only [zdi, hd]
        rw [hlu] at hart2
        replace hart2 : jd c a = (wj c (.mk op n u den ps ks) && decide (u = d.unit)) := hart2
        have hfit := zjs G c (by omega) (.mk op n u den ps ks)
        (refine zi ?_; conv => whnf)
        repeat' ((with_reducible refine way ?_ ?_) <;> (intro h; first | (exfalso; omega) | (conv => whnf)))
        all_goals try (exfalso; omega)
        (refine yw mixed rfl ?_; refine zl [] ?_; conv => whnf)
        refine zad rfl  hfit ?_
        cases hf : wj c (.mk op n u den ps ks) with
        | false =>
         (refine zl [] ?_; conv => whnf)
         (refine zi ?_; conv => whnf)
         exact kB hK (bad (by rw [hart2, hf]; rfl))
        | true =>
         (refine zl [] ?_; conv => whnf)
         refine xh rfl (i := a.line.toNat) (by omega) (row := d.cells) (by simp [hd]) ?_
         (refine zl [] ?_; conv => whnf)
         (refine zi ?_; conv => whnf)
         repeat' ((with_reducible refine way ?_ ?_) <;> (intro h; first | (exfalso; omega) | (conv => whnf)))
         ·exact kB hK (bad (by rw [hart2, hf, decide_eq_false h]; rfl))
         ·rw [hw]
          exact yr [1, 3] 1 (by simp [hH]) (by simp) rfl rfl (ih () (by rw [hinv, hart2, hf, decide_eq_true h]; rfl))
      ·as_aux_lemma =>
        rintro d3 x r3 _ ha3 hl3 h3 ih3
        have hw3 := zm (n := d3.length) (by omega)
        simp only [List.all_cons] at h3
        (refine zi ?_; conv => whnf)
        repeat' ((with_reducible refine way ?_ ?_) <;> (intro h; first | (exfalso; omega) | (conv => whnf)))
        all_goals try (exfalso; omega)
        (refine yw mixed rfl ?_; refine zl [] ?_; conv => whnf)
        refine xh rfl rfl  (row := [dI x]) (by simp [ha3]) ?_
        (refine zl [] ?_; conv => whnf)
        refine zad rfl  (zgv G c x (by omega)) ?_
        (refine zl [] ?_; conv => whnf)
        (refine zi ?_; conv => whnf)
        repeat' ((with_reducible refine way ?_ ?_) <;> (intro h; first | (exfalso; omega) | (conv => whnf)))
        ·exact kB hK (bad (by rw [hart2, h3, decide_eq_false (by omega)]; rfl))
        ·rw [hw3]
         exact yr [1, 3, 4, 6] 2 (by simp [hH]) (by simp) rfl rfl (ih3 () (by rw [h3, decide_eq_true (by omega)]; rfl))
    ·as_aux_lemma =>
      rintro d2 e r2 _ ha2 hl2 h2 ih2
      have hw2 := zm (n := d2.length) (by omega)
      simp only [List.all_cons] at h2
      have hfit := zjs G c (by omega) e
      obtain ⟨o1, n1, u1, d1, p1, q1⟩ := e
      replace h2 : a.when_.all (fun e => wj c e && decide (e.unit = tT)) = ((wj c (.mk o1 n1 u1 d1 p1 q1) && decide (u1 = tT)) && r2.all (fun e => wj c e && decide (e.unit = tT))) := h2
      (refine zi ?_; conv => whnf)
      repeat' ((with_reducible refine way ?_ ?_) <;> (intro h; first | (exfalso; omega) | (conv => whnf)))
      all_goals try (exfalso; omega)
      (refine yw mixed rfl ?_; refine zl [] ?_; conv => whnf)
      refine xh rfl rfl  (row := (Ex.mk o1 n1 u1 d1 p1 q1).cells) (by simp [ha2]) ?_
      (refine zl [] ?_; conv => whnf)
      refine zad rfl  hfit ?_
      cases hf : wj c (.mk o1 n1 u1 d1 p1 q1) with
      | false =>
       (refine zl [] ?_; conv => whnf)
       (refine zi ?_; conv => whnf)
       exact kB hK (bad (by rw [hart2, h2, hf]; rfl))
      | true =>
       (refine zl [] ?_; conv => whnf)
       refine xh rfl rfl  (row := (Ex.mk o1 n1 u1 d1 p1 q1).cells) (by simp [ha2]) ?_
       (refine zl [] ?_; conv => whnf)
       (refine zi ?_; conv => whnf)
       repeat' ((with_reducible refine way ?_ ?_) <;> (intro h; first | (exfalso; omega) | (conv => whnf)))
       ·exact kB hK (bad (by rw [hart2, h2, hf, decide_eq_false (by exact h)]; rfl))
       ·rw [hw2]
        exact yr [1, 3, 4, 5] 2 (by simp [hH]) (by simp) rfl rfl (ih2 () (by rw [h2, hf, decide_eq_true (by exact h)]; rfl))
   ·(refine yw mixed rfl ?_; refine zl [] ?_; conv => whnf)
    repeat' ((with_reducible refine way ?_ ?_) <;> (intro h; first | (exfalso; omega) | (conv => whnf)))
    all_goals try (exfalso; omega)
    all_goals try (refine zi ?_; conv => whnf)
    all_goals exact kB hK (bad1 (fun hc => hg1 ⟨hc.1, hc.2.1, hc.2.2.1, hc.2.2.2.1⟩))
def fl (n : Int) : List Article -> Option Int
 | [] => none
 | a :: r => if a.number = n then some a.line else fl n r
theorem zpd (n : Int) : ∀ (l : List Article) (i : Nat), (jg n l i = -1 /\ fl n l = none) \/ ((i : Int) <= jg n l i /\ ∃ a, l[(jg n l i).toNat - i]? = some a /\ a.number = n /\ fl n l = some a.line)
 | [], i => .inl ⟨rfl, rfl⟩
 | a :: r, i => by
  simp only [jg, fl]
  split
  ·rename_i h
   right
   exact ⟨by omega, a, by simp, h, rfl⟩
  ·rcases zpd n r (i + 1) with ⟨h1, h2⟩ | ⟨h1, x, h2, h3, h4⟩
   ·left; exact ⟨h1, h2⟩
   ·right
    refine ⟨by omega, x, ?_, h3, h4⟩
    rw [show (jg n r (i + 1)).toNat - i = ((jg n r (i + 1)).toNat - (i + 1)) + 1 by omega]
    simpa using h2
abbrev yvh (nl : Int) (a : Article) : Prop := 1 <= a.number /\ a.number <= 1000000 /\ 0 <= a.line /\ a.line < nl
theorem zty (nl : Int) : ∀ (l : List Article) (m0 m : List (Int × Int)), wn nl l m0 = some m -> (∀ n, zo n m = (zo n m0).or (fl n l)) /\ ∀ a ∈ l, yvh nl a /\ zo a.number m = some a.line
 | [], m0, m, h => by
  simp only [wn, Option.some.injEq] at h
  subst h
  exact ⟨fun n => by simp [fl], fun a ha => by cases ha⟩
 | a :: r, m0, m, h => by
  simp only [wn] at h
  split at h
  ·rename_i hc
   have hm : wn nl r (ains a.number a.line m0) = some m /\ (zo a.number m0 = none \/ zo a.number m0 = some a.line) := by
    cases hl : zo a.number m0 with
    | none => rw [hl] at h; exact ⟨h, .inl rfl⟩
    | some x =>
     rw [hl] at h
     simp only at h
     split at h
     ·rename_i e; subst e; exact ⟨h, .inr rfl⟩
     ·cases h
   obtain ⟨g1, g2⟩ := zty nl r _ m hm.1
   have key : ∀ n, zo n m = (zo n m0).or (fl n (a :: r)) := by
    intro n
    rw [g1 n, jh]
    by_cases e : n = a.number
    ·subst e
     simp only [beq_self_eq_true, if_true, Option.some_or, fl]
     rcases hm.2 with h0 | h0 <;> rw [h0] <;> rfl
    ·rw [if_neg (by simpa using e)]
     simp only [fl]
     rw [if_neg (fun h => e h.symm)]
   refine ⟨key, fun b hb => ?_⟩
   rcases List.mem_cons.1 hb with rfl | hb
   ·refine ⟨hc, ?_⟩
    rw [key]
    simp only [fl, if_true]
    rcases hm.2 with h0 | h0 <;> rw [h0] <;> rfl
   ·exact g2 b hb
  ·cases h
theorem zoh (nl : Int) : ∀ (l : List Article) (m0 : List (Int × Int)), (∀ a ∈ l, yvh nl a /\ (zo a.number m0).or (fl a.number l) = some a.line) -> ∃ m, wn nl l m0 = some m
 | [], m0, _ => ⟨m0, rfl⟩
 | a :: r, m0, h => by
  obtain ⟨hb, ha⟩ := h a (by simp)
  simp only [fl, if_true] at ha
  have h0 : zo a.number m0 = none \/ zo a.number m0 = some a.line := by
   cases hl : zo a.number m0 with
   | none => exact .inl rfl
   | some x => rw [hl] at ha; right; simpa using ha
  have hr : ∀ b ∈ r, yvh nl b /\ (zo b.number (ains a.number a.line m0)).or (fl b.number r) = some b.line := by
   intro b hbr
   obtain ⟨g1, g2⟩ := h b (by simp [hbr])
   refine ⟨g1, ?_⟩
   rw [jh]
   simp only [fl] at g2
   by_cases e : b.number = a.number
   ·rw [e] at g2 ⊢
    simp only [beq_self_eq_true, if_true, Option.some_or]
    rw [if_pos rfl] at g2
    rcases h0 with h0 | h0 <;> rw [h0] at g2 <;> simpa using g2
   ·rw [if_neg (by simpa using e)]
    rw [if_neg (fun h => e h.symm)] at g2
    exact g2
  obtain ⟨m, hm⟩ := zoh nl r _ hr
  refine ⟨m, ?_⟩
  simp only [wn]
  rw [if_pos hb]
  rcases h0 with h0 | h0 <;> rw [h0]
  ·exact hm
  ·simp only [if_true]; exact hm
mutual
def zsn (P : Int -> Int -> ByteArray -> Int -> List Piece -> List Ex -> Bool) : Ex -> Bool
 | .mk op n u den ps ks => zhf P ks && P op n u den ps ks
def zhf (P : Int -> Int -> ByteArray -> Int -> List Piece -> List Ex -> Bool) : List Ex -> Bool
 | [] => true
 | k :: r => zsn P k && zhf P r
end
def zks (c : Codex) (m : List (Int × Int)) (op n : Int) (u : ByteArray) (den : Int) (ps : List Piece) (ks : List Ex) : Bool := wq u && qm c m op n u den ps ks
theorem yhv (c : Codex) (m : List (Int × Int)) (N : Nat) :
  (∀ e : Ex, SizeOf.sizeOf e < N -> ∀ d cnt : Int, ((qz c m e d cnt).1 = true ↔ (cnt + wa e <= 400 /\ d + zcb e <= 41 /\ zsn (zks c m) e = true)) /\ ((qz c m e d cnt).1 = true -> (qz c m e d cnt).2 = cnt + wa e)) /\
  (∀ ks : List Ex, SizeOf.sizeOf ks < N -> ∀ d cnt : Int, cnt <= 400 -> d <= 41 -> ((qc c m ks d cnt).1 = true ↔ (cnt + yg ks <= 400 /\ d + zbh ks <= 41 /\ zhf (zks c m) ks = true)) /\ ((qc c m ks d cnt).1 = true -> (qc c m ks d cnt).2 = cnt + yg ks)) := by
 induction N with
 | zero => exact ⟨fun e h => by omega, fun e h => by omega⟩
 | succ N ih =>
  refine ⟨fun e he d cnt => ?_, fun ks hk d cnt hc hd => ?_⟩
  ·obtain ⟨op, n, u, den, ps, ks⟩ := e
   simp only [Ex.mk.sizeOf_spec] at he
   simp only [qz, wa, zcb, zsn]
   split
   ·rename_i hc
    constructor
    ·constructor
     ·intro h; cases h
     ·rintro ⟨h1, h2, h3⟩
      rcases hc with h | h | h
      ·omega
      ·omega
      ·simp [zks, h] at h3
    ·intro h; cases h
   ·rename_i hc
    have hu : wq u = true := by
     cases h : wq u with
     | true => rfl
     | false => exact absurd (.inr (.inr h)) hc
    obtain ⟨g1, g2⟩ := ih.2 ks (by omega) (d + 1) (cnt + 1) (by omega) (by omega)
    revert g1 g2
    cases qc c m ks (d + 1) (cnt + 1) with
    | mk b q =>
     cases b with
     | true =>
      intro g1 g2
      simp only at g1 g2 ⊢
      obtain ⟨k1, k2, k3⟩ := g1.1 trivial
      have k4 := g2 trivial
      constructor
      ·constructor
       ·intro h
        exact ⟨by omega, by omega, by simp [k3, zks, hu, h]⟩
       ·rintro ⟨_, _, h3⟩
        simp [zks, hu] at h3
        exact h3.2
      ·intro _; omega
     | false =>
      intro g1 _
      simp only at g1 ⊢
      constructor
      ·constructor
       ·intro h; cases h
       ·rintro ⟨h1, h2, h3⟩
        simp only [Bool.and_eq_true] at h3
        exact absurd (g1.2 ⟨by omega, by omega, h3.1⟩) (by simp)
      ·intro h; cases h
  ·cases ks with
   | nil =>
    simp only [qc, yg, zbh, zhf]
    exact ⟨⟨fun _ => ⟨by omega, by omega, trivial⟩, fun _ => trivial⟩, fun _ => by omega⟩
   | cons k r =>
    simp only [List.cons.sizeOf_spec] at hk
    obtain ⟨g1, g2⟩ := ih.1 k (by omega) d cnt
    simp only [qc, yg, zbh, zhf]
    revert g1 g2
    cases qz c m k d cnt with
    | mk b q =>
     cases b with
     | true =>
      intro g1 g2
      simp only at g1 g2 ⊢
      obtain ⟨k1, k2, k3⟩ := g1.1 trivial
      have k4 := g2 trivial
      subst k4
      obtain ⟨r1, r2⟩ := ih.2 r (by omega) d (cnt + wa k) (by omega) hd
      constructor
      ·rw [r1, k3]
       simp only [Bool.true_and]
       constructor
       ·rintro ⟨a1, a2, a3⟩; exact ⟨by omega, by omega, a3⟩
       ·rintro ⟨a1, a2, a3⟩; exact ⟨by omega, by omega, a3⟩
      ·intro h; have := r2 h; omega
     | false =>
      intro g1 _
      simp only at g1 ⊢
      constructor
      ·constructor
       ·intro h; cases h
       ·rintro ⟨h1, h2, h3⟩
        simp only [Bool.and_eq_true] at h3
        exact absurd (g1.2 ⟨by omega, by omega, h3.1⟩) (by simp)
      ·intro h; cases h
theorem ymj (c : Codex) (m : List (Int × Int)) (e : Ex) : (qz c m e 1 0).1 = (zcn e && zsn (zks c m) e) := by
 rw [Bool.eq_iff_iff, ((yhv c m (SizeOf.sizeOf e + 1)).1 e (by omega) 1 0).1]
 simp only [zcn, Bool.and_eq_true, decide_eq_true_eq]
 constructor
 ·rintro ⟨h1, h2, h3⟩; exact ⟨⟨by omega, by omega⟩, h3⟩
 ·rintro ⟨⟨h1, h2⟩, h3⟩; exact ⟨by omega, by omega, h3⟩
mutual
theorem zzp (c : Codex) : ∀ e : Ex, zep c e = zsn (zhg c) e
 | .mk op n u den ps ks => by simp only [zep, zsn, zrv c ks]
theorem zrv (c : Codex) : ∀ ks : List Ex, znm c ks = zhf (zhg c) ks
 | [] => rfl
 | k :: r => by simp only [znm, zhf, zzp c k, zrv c r]
end
theorem yoy : wq tT = true := by decide
theorem yoz : wq tN = true := by decide
theorem yhw {u : ByteArray} (h : zeh u = true) : wq u = true := by simp [wq, h]
structure CodexRel (c : Codex) (m : List (Int × Int)) : Prop where
 facts : ∀ d ∈ c.facts, wq d.unit = true
 lines : ∀ d ∈ c.lines, wq d.unit = true
 look : ∀ n, zo n m = fl n c.arts
 line : ∀ a ∈ c.arts, 0 <= a.line /\ a.line < c.lines.length
theorem zrw {l : List Decl} (h : ∀ d ∈ l, wq d.unit = true) {i : Int} {u : ByteArray} (hu : zcv l i u = true) : wq u = true := by
 unfold zcv at hu
 split at hu
 ·rename_i d hd
  have := of_decide_eq_true hu
  subst this
  exact h d (List.mem_of_getElem? hd)
 ·cases hu
theorem ysc {c : Codex} {m : List (Int × Int)} (H : CodexRel c m) (op n : Int) (u : ByteArray) (hop : 1 <= op /\ op <= 4) (hu : wq u = true) : zau c.facts c.lines m op n u = zac c op n u := by
 have hc : op = 1 \/ op = 2 \/ op = 3 \/ op = 4 := by omega
 rcases hc with rfl | rfl | rfl | rfl
 ·simp [zau, zac, hu]
 ·simp [zau, zac]
 ·simp only [zau, zac]
  simp only [show ¬ (3 : Int) = 1 by omega, show ¬ (3 : Int) = 2 by omega, if_false, if_true]
  rw [H.look n]
  rcases zpd n c.arts 0 with ⟨h1, h2⟩ | ⟨h1, a, h2, h3, h4⟩
  ·rw [h2, h1]
   cases c.arts[((-1 : Int)).toNat]? <;> simp
  ·rw [Nat.sub_zero] at h2
   rw [h4, h2]
   obtain ⟨g1, g2⟩ := H.line a (List.mem_of_getElem? h2)
   simp only [decide_eq_true (show (0 : Int) <= jg n c.arts 0 by omega), decide_eq_true g1, decide_eq_true g2, Bool.true_and]
 ·simp [zau, zac]
theorem zzq {c : Codex} {m : List (Int × Int)} (H : CodexRel c m) {op n : Int} {u : ByteArray} (h : zac c op n u = true) : wq u = true := by
 simp only [zac] at h
 split at h
 ·simp only [Bool.and_eq_true] at h; exact h.1.1.1
 ·split at h
  ·simp only [Bool.and_eq_true] at h; exact zrw H.facts h.2
  ·split at h
   ·split at h
    ·simp only [Bool.and_eq_true] at h; exact zrw H.lines h.2
    ·cases h
   ·split at h
    ·simp only [Bool.and_eq_true, decide_eq_true_eq] at h
     rw [h.2]; exact yoz
    ·cases h
theorem ymk {op : Int} {u : ByteArray} {f l : Ex} {len : Int} {s : Bool} (hf : wq f.unit = true) (hl : wq l.unit = true) (h : zaf op u f l len s = true) : wq u = true := by
 have eT : u = tT -> wq u = true := fun e => by rw [e]; exact yoy
 have eF : u = f.unit -> wq u = true := fun e => by rw [e]; exact hf
 have eL : u = l.unit -> wq u = true := fun e => by rw [e]; exact hl
 simp only [zaf] at h
 split at h
 ·simp only [Bool.and_eq_true, decide_eq_true_eq] at h; exact eT h.1.2
 split at h
 ·simp only [Bool.and_eq_true, decide_eq_true_eq] at h; exact eT h.1.1.2
 split at h
 ·simp only [Bool.and_eq_true, decide_eq_true_eq] at h; exact eT h.1.2
 split at h
 ·simp only [Bool.and_eq_true, decide_eq_true_eq] at h; exact eT h.1.2
 split at h
 ·simp only [Bool.and_eq_true, decide_eq_true_eq] at h; exact eF h.2
 split at h
 ·simp only [Bool.and_eq_true, decide_eq_true_eq] at h; exact eF h.2
 split at h
 ·simp only [Bool.and_eq_true, decide_eq_true_eq] at h
  have := h.2
  split at this
  ·exact eL this
  ·exact eF this
 split at h
 ·simp only [Bool.and_eq_true, decide_eq_true_eq] at h; exact eF h.2
 split at h
 ·simp only [Bool.and_eq_true, decide_eq_true_eq] at h; exact eL h.2
 ·cases h
theorem yml {c : Codex} {m : List (Int × Int)} (H : CodexRel c m) (op n : Int) (u : ByteArray) (den : Int) (ps : List Piece) (ks : List Ex) (hk : ∀ k ∈ ks, wq k.unit = true) :
  zks c m op n u den ps ks = zhg c op n u den ps ks := by
 have hunit : zhg c op n u den ps ks = true -> wq u = true := by
  intro h
  simp only [zhg] at h
  split at h
  ·simp only [Bool.and_eq_true] at h; exact yhw h.1.1.2
  split at h
  ·cases h
  split at h
  ·simp only [Bool.and_eq_true] at h; exact zzq H h.2
  ·simp only [Bool.and_eq_true] at h
   have h2 := h.2
   split at h2
   ·rename_i f l hf hl
    exact ymk (hk f (List.mem_of_mem_head? hf)) (hk l (List.mem_of_getLast? hl)) h2
   ·cases h2
 cases hu : wq u with
 | false =>
  cases hn : zhg c op n u den ps ks with
  | false => simp [zks, hu]
  | true => rw [hunit hn] at hu; cases hu
 | true =>
  simp only [zks, hu, Bool.true_and, qm, zhg]
  split
  ·rfl
  split
  ·rfl
  split
  ·rename_i h4
   rw [ysc H op n u h4 hu]
  ·rfl
theorem yub {c : Codex} {m : List (Int × Int)} (H : CodexRel c m) (N : Nat) :
  (∀ e : Ex, SizeOf.sizeOf e < N -> zsn (zks c m) e = zsn (zhg c) e /\ (zsn (zks c m) e = true -> wq e.unit = true)) /\
  (∀ ks : List Ex, SizeOf.sizeOf ks < N -> zhf (zks c m) ks = zhf (zhg c) ks /\ (zhf (zks c m) ks = true -> ∀ k ∈ ks, wq k.unit = true)) := by
 induction N with
 | zero => exact ⟨fun e h => by omega, fun e h => by omega⟩
 | succ N ih =>
  refine ⟨fun e he => ?_, fun ks hk => ?_⟩
  ·obtain ⟨op, n, u, den, ps, ks⟩ := e
   simp only [Ex.mk.sizeOf_spec] at he
   obtain ⟨h1, h2⟩ := ih.2 ks (by omega)
   simp only [zsn]
   rw [<- h1]
   cases hk : zhf (zks c m) ks with
   | false => simp
   | true =>
    rw [yml H op n u den ps ks (h2 hk)]
    refine ⟨rfl, fun h => ?_⟩
    rw [<- yml H op n u den ps ks (h2 hk)] at h
    simp only [zks, Bool.true_and, Bool.and_eq_true] at h
    exact h.1
  ·cases ks with
   | nil => exact ⟨rfl, fun _ k hk => by cases hk⟩
   | cons k r =>
    simp only [List.cons.sizeOf_spec] at hk
    obtain ⟨a1, a2⟩ := ih.1 k (by omega)
    obtain ⟨b1, b2⟩ := ih.2 r (by omega)
    simp only [zhf]
    rw [<- a1, <- b1]
    refine ⟨rfl, fun h x hx => ?_⟩
    simp only [Bool.and_eq_true] at h
    rcases List.mem_cons.1 hx with rfl | hx
    ·exact a2 h.1
    ·exact b2 h.2 x hx
theorem ysd {c : Codex} {m : List (Int × Int)} (H : CodexRel c m) (e : Ex) : (qz c m e 1 0).1 = wj c e := by
 rw [ymj, wj, zzp, ((yub H (SizeOf.sizeOf e + 1)).1 e (by omega)).1]
theorem yer {c : Codex} {m : List (Int × Int)} (H : CodexRel c m) (e : Ex) (u : ByteArray) : (qd c m e u).1 = (wj c e && decide (e.unit = u)) := by
 unfold qd
 split
 ·rename_i h; rw [ysd H, decide_eq_true h, Bool.and_true]
 ·rename_i h; rw [decide_eq_false h, Bool.and_false]
theorem zme {lo hi : Int} {l : List Decl} (h : qv lo hi l = true) : ∀ d ∈ l, wq d.unit = true := by
 intro d hd
 simp only [qv, Bool.and_eq_true, List.all_eq_true] at h
 have := h.1 d hd
 simp only [jq, Bool.and_eq_true] at this
 exact this.1.2
theorem ypa (c : Codex) : zih c = zq c := by
 cases hd1 : qv 0 0 c.facts with
 | false => simp [zih, zq, hd1]
 | true =>
 cases hd2 : qv 1 4 c.lines with
 | false => simp [zih, zq, hd2]
 | true =>
 by_cases hz : c.facts.length <= 32 /\ c.lines.length <= 32 /\ c.arts.length <= 60
 rotate_left
 ·have e1 : zih c = false := by
   cases h : zih c with
   | false => rfl
   | true => simp only [zih, Bool.and_eq_true, decide_eq_true_eq] at h; exact absurd ⟨h.1.1.1.2, h.1.1.2.2, h.1.2⟩ hz
  have e2 : zq c = false := by
   cases h : zq c with
   | false => rfl
   | true => simp only [zq, Bool.and_eq_true, decide_eq_true_eq] at h; exact absurd ⟨h.1.1.1.1.1, h.1.1.1.1.2, h.1.1.1.2⟩ hz
  rw [e1, e2]
 have e1 : zih c = c.arts.all (jd c) := by simp [zih, hd1, hd2, hz]
 have e2 : zq c = (match wn c.lines.length c.arts [] with | some m => c.arts.all (zkb c m) | none => false) := by
  simp only [zq, hd1, hd2, hz.1, hz.2.1, hz.2.2, decide_true, Bool.true_and]
  rfl
 rw [e1, e2]
 have hfirst : ∀ a ∈ c.arts, fl a.number c.arts = some (zdd c a.number) := by
  intro a ha
  rcases zpd a.number c.arts 0 with ⟨h1, h2⟩ | ⟨h1, x, h2, h3, h4⟩
  ·exact absurd rfl ((znl a.number c.arts 0).1 h1 a ha)
  ·rw [Nat.sub_zero] at h2
   rw [h4]
   simp only [zdd, h2]
 cases hg : wn c.lines.length c.arts [] with
 | some m =>
  obtain ⟨g1, g2⟩ := zty _ _ _ _ hg
  have hrel : CodexRel c m := ⟨zme hd1, zme hd2, fun n => by rw [g1 n]; rfl, fun a ha => ⟨(g2 a ha).1.2.2.1, (g2 a ha).1.2.2.2⟩⟩
  simp only
  rw [Bool.eq_iff_iff, List.all_eq_true, List.all_eq_true]
  have key : ∀ a ∈ c.arts, jd c a = zkb c m a := by
   intro a ha
   obtain ⟨⟨b1, b2, b3, b4⟩, b5⟩ := g2 a ha
   have hl : a.line = zdd c a.number := by
    have := hfirst a ha
    rw [g1] at b5
    simp only [zo, Option.none_or] at b5
    rw [b5] at this
    simpa using this
   simp only [jd, zkb]
   rw [decide_eq_true ⟨b1, b2, b3, b4, hl⟩, Bool.true_and]
   have hu : a.unless_.all (fun n => decide (0 <= jg n c.arts 0)) = a.unless_.all (fun n => (zo n m).isSome) := by
    congr 1
    funext n
    rw [g1 n]
    rcases zpd n c.arts 0 with ⟨h1, h2⟩ | ⟨h1, x, h2, h3, h4⟩
    ·rw [h1, h2]; rfl
    ·rw [h4, decide_eq_true (by omega)]; rfl
   have hw : a.when_.all (fun e => wj c e && decide (e.unit = tT)) = a.when_.all (fun e => (qd c m e tT).1) := by
    congr 1
    funext e
    rw [yer hrel]
   rw [hu, hw, yer hrel]
   cases zca a <;> simp [Bool.and_comm, Bool.and_left_comm, Bool.and_assoc]
  constructor
  ·intro h a ha; rw [<- key a ha]; exact h a ha
  ·intro h a ha; rw [key a ha]; exact h a ha
 | none =>
  simp only
  cases h : c.arts.all (jd c) with
  | false => rfl
  | true =>
   exfalso
   rw [List.all_eq_true] at h
   obtain ⟨m, hm⟩ := zoh c.lines.length c.arts [] (fun a ha => by
    have := h a ha
    simp only [jd, Bool.and_eq_true, decide_eq_true_eq] at this
    obtain ⟨⟨⟨⟨⟨t1, t2, t3, t4, t5⟩, _⟩, _⟩, _⟩, _⟩ := this
    refine ⟨⟨t1, t2, t3, t4⟩, ?_⟩
    simp only [zo, Option.none_or]
    rw [hfirst a ha, <- t5])
   rw [hm] at hg
   cases hg
end Go.Proofs.YtblpjknmhajcgaaGreatDoor
namespace Go.Sh
section
variable {P : Program} {G : List (Nat × D)} {w w' : World} {I I' : Imm} {β β' : List Bnd} {H K : List SObj} {o : Oper} {ρ : Operand -> Value} {m : Nat}
theorem zwh {nx : Nat} {x y : SObj} (hx : x ≠ .dead) (hy : y ≠ .dead) {b c : Nat} (h : qj (K.set nx x) β b c) : qj (K.set nx y) β b c := by
 obtain ⟨o, z, h1, h2, h3, h4⟩ := h
 by_cases e : nx = b
 ·subst e
  have hl : nx < K.length := by have := lt_of_getElem? h1; simpa using this
  exact ⟨y, z, List.getElem?_set_self hl, hy, h3, h4⟩
 ·rw [List.getElem?_set_ne e] at h1
  exact ⟨o, z, by rw [List.getElem?_set_ne e]; exact h1, h2, h3, h4⟩
theorem yse {kk : Nat} {x : Bnd} (h : ObjOK w I β (.tok kk 0) x) : ObjOK w I β (.vec kk []) x := by
 cases x with
 | blk c => exact h.elim
 | tok u =>
  rcases h with ⟨_, h⟩ | ⟨c, cap, vs, T, h1, h2, h3, h4, h5, h6⟩
  ·exact .inl ⟨rfl, h⟩
  ·exact .inr ⟨c, 0, cap, vs, T, h1, h2, h3, h4, h5, by simp, fun j hj => by simp at hj, fun o hi => h6 o (by omega) hi⟩
theorem ymm {nx kk : Nat} {ev : Operand -> SV} (hnx : nx < K.length) (h : zxg P G m o ev K ⟨.asl nx kk [], [], some (nx, .tok kk 0)⟩) : zxg P G m o ev K ⟨.vec nx 0, [], some (nx, .vec kk [])⟩ := by
 have hT : SObj.tok kk 0 ≠ .dead := by simp
 have hV : SObj.vec kk [] ≠ .dead := by simp
 have hgain : ∀ {w I β w' I' β'}, Gain G m w I β K (some (nx, .tok kk 0)) w' I' β' -> Gain G m w I β K (some (nx, .vec kk [])) w' I' β' := fun {w I β w' I' β'} hg => by
  obtain ⟨h1, h2, h3, h4⟩ := hg
  refine ⟨⟨by have := h1.len; simpa [zfa] using this, fun b ob x hb hx => ?_, fun b b' c g1 g2 => h1.inj b b' c (zwh hV hT g1) (zwh hV hT g2), h1.inI, h1.glob⟩, ?_, h3, fun b hb hno => h4 b hb fun ob e => ?_⟩
  ·simp only [zfa] at hb
   by_cases e : nx = b
   ·subst e
    rw [List.getElem?_set_self hnx] at hb
    cases hb
    exact yse (h1.obj nx _ x (by simp only [zfa]; exact List.getElem?_set_self hnx) hx)
   ·rw [List.getElem?_set_ne e] at hb
    exact h1.obj b ob x (by simp only [zfa]; rw [List.getElem?_set_ne e]; exact hb) hx
  ·exact { h2 with own := fun b c g => h2.own b c (zwh hV hT g) }
  ·simp only [Option.some.injEq, Prod.mk.injEq] at e
   exact hno (.vec kk []) (by rw [<- e.1])
 have hrep : ∀ {w I β v}, Rep w I β v (.asl nx kk []) -> Rep w I β v (.vec nx 0) := fun {w I β v} hr => by
  cases hr with
  | asl _ _ _ _ u n hd hb hu hl hv =>
   obtain ⟨a, cap, hu⟩ := hu
   refine .vec nx 0 _ u n hb ⟨a, cap, hu⟩ (Nat.zero_le _) ?_ fun e => hv (by simpa using e)
   cases hd with
   | islNil => exact ⟨_, _, _, rfl⟩
   | islEmpty => exact ⟨_, _, _, rfl⟩
   | isl => exact ⟨_, _, _, rfl⟩
 intro ρ w I β hH hph hop
 rcases h ρ w I β hH hph hop with ⟨n, v, w', I', β', h1, h2, h3, h4⟩ | ⟨f, vs, h1, h2⟩
 ·exact .inl ⟨n, v, w', I', β', h1, h2, hrep h3, hgain h4⟩
 ·refine .inr ⟨f, vs, h1, h2.mono fun en w' ⟨v, I', β', e, g1, g2⟩ => ⟨v, I', β', e, hrep g1, hgain g2⟩⟩
theorem zrx {e : Eff} {ev : Operand -> SV} (hm : m <= K.length) (h : ∀ (ρ : Operand -> Value) w I β, HeapOK G w I β K -> (∀ x ∈ o.op.operands, Rep w I β (ρ x) (ev x)) -> OpRun P G (execOp ρ o) w I β K e.val (zfa K e.wr)) : zxg P G m o ev K e := by
 intro ρ w I β hH _ hops
 obtain ⟨nn, v, w', I', β', h1, h2, h3, h4, h5⟩ := h ρ w I β hH hops
 have hk : Keeps β.length β β' := by rw [hH.len]; exact h5.keep
 exact .inl ⟨nn, v, w', I', β', h1, h2, h3, h4, h5.weaken hm, hk.toD, fun b hb _ => hk.dummy (lt_of_getElem? hb) hb⟩
theorem ypb {b n kk i : Nat} {cs : List SV} {x ix : Operand} {ty e : Nat} {q : IntKind} {mm : Int} (hop : o.op = .indexAddr ty x ix) (hH : HeapOK G w I β H) (hr : Rep w I β (ρ x) (.vec b n)) (hri : Rep w I β (ρ ix) (.imm (.val (.int q mm))))
  (hu : P.underlying ty = some (.slice e)) (hn : wb P e = some kk) (hb : H[b]? = some (.vec kk cs)) (hlen : cs.length = n * kk) (hk : 1 <= kk) (hmm : mm = (i : Int)) (hin : i < n) : OpRun P G (execOp ρ o) w I β H (.vptr b n (i * kk)) H := by
 obtain ⟨hbv, hnow⟩ := zho hH hb hr hlen hk
 rcases hnow with ⟨rfl, _⟩ | ⟨c, cap, vs, T, hv, a1, a2, a3, a4, a5, a6⟩
 ·omega
 have hiv : ρ ix = .int q mm := by
  generalize ρ ix = v at hri
  cases hri with | imm hri => cases hri; rfl
 obtain ⟨dst, op, type, pos, after, guard⟩ := o
 simp only at hop
 subst hop
 rw [hv] at hbv
 refine OpRun.same (v := .pointer (some ⟨c, i * kk, none⟩)) ?_ (.vptr b n (i * kk) _ _ n cap hbv (Nat.le_refl _) ⟨_, rfl⟩ (fun _ => ⟨c, rfl, rfl⟩)) hH
 subst hmm
 simp [Instr.indexAt, asIntOf, hv, hiv, run_underlying hu, xa hn, hin, qr]
theorem ymn {b n off kk : Nat} {cs row : List SV} {x : Operand} {ty : Nat} {r : SV} (hop : o.op = .load ty x) (hH : HeapOK G w I β H) (hr : Rep w I β (ρ x) (.vptr b n off)) (hb : H[b]? = some (.vec kk cs)) (hlen : cs.length = n * kk) (hk : 1 <= kk)
  (hrow : (cs.drop off).take row.length = row) (hpos : 1 <= row.length) (hs : zju P ty row 0 = some r) : OpRun P G (execOp ρ o) w I β H r H := by
 generalize hpv : ρ x = pv at hr
 cases hr with
 | vptr _ _ _ _ a m cap hbu hle hv' heq =>
 have hoff : off + row.length <= cs.length := by
  have := congrArg List.length hrow
  simp at this
  omega
 rcases hH.obj b _ _ hb hbu with ⟨rfl, e⟩ | ⟨c, n', cap', vs, T, e, a1, a2, a3, a4, a5, a6, a7⟩
 ·rw [List.length_nil] at hoff
  omega
 ·cases e
  have hn' : n = m := by
   rw [hlen] at a5
   exact Nat.eq_of_mul_eq_mul_right hk a5
  subst hn'
  obtain ⟨c', e, rfl⟩ := heq rfl
  cases e
  have hle2 : cs.length <= vs.size := by rw [hlen, a2]; exact Nat.mul_le_mul_right kk a3
  have hl : yud w I β c off row := fun j hj => by
   have hj1 : off + j < cs.length := by omega
   have hj2 : off + j < vs.size := by omega
   refine ⟨vs[off + j]'hj2, by rw [yv a1]; simp [hj2], ?_⟩
   have h1 := a6 (off + j) hj1 hj2
   have h2 : row[j]'hj = cs[off + j]'hj1 := by
    have : row[j]? = cs[off + j]? := by
     rw [<- hrow, List.getElem?_take_of_lt (by simpa using hj), List.getElem?_drop]
    rw [List.getElem?_eq_getElem hj, List.getElem?_eq_getElem hj1] at this
    exact Option.some.inj this
   rw [h2]
   exact h1
  obtain ⟨u, hu, hr⟩ := zpf hs hl
  obtain ⟨dst, op, type, pos, after, guard⟩ := o
  simp only at hop
  subst hop
  refine OpRun.same (v := u) ?_ hr hH
  rw [Nat.add_zero] at hu
  simpa [hpv, Instr.loadAt, Instr.sureAddr] using hu
end
section
variable {P : Program} {G : List (Nat × D)} {fn : Func} {rd : Bool} {E : En P G fn rd} {t : List (Nat × SV)} {H K : List SObj} {k : List Item} {m : Nat} {all : Array Oper} {rest : List Oper} {done : List Eff} {o : Oper}
theorem ymo (nx : Nat) {ty e kk by_ : Nat} {z : Value} {lx cx : Operand} {k1 k2 : IntKind} {l2 : Int} (hop : o.op = .makeSlice ty lx cx)
  (hw : zy all t o.guard = some true) (hd : yf fn.ntmps o.dst = true) (hl : zn G t lx = .imm (.val (.int k1 0))) (hc : zn G t cx = .imm (.val (.int k2 l2)))
  (hu : P.underlying ty = some (.slice e)) (hk : wb P e = some kk) (hby : jk P e = some by_) (hz : je P e = some z) (hb : by_ <= 65536 /\ z.cells.size = kk /\ 1 <= kk)
  (hm : m <= nx) (hnx : K[nx]? = some .dead) (h2 : 0 <= l2 /\ l2 <= 1073741824)
  (h : SWe E m all rest k (wm t o.dst (.vec nx 0)) (K.set nx (.vec kk [])) (done ++ [⟨.vec nx 0, [], some (nx, .vec kk [])⟩])) : SWe E m all (o :: rest) k t K done :=
 zbe (e := ⟨.vec nx 0, [], some (nx, .vec kk [])⟩) ⟨hd, .inr ⟨hw, fun K' hl' ha => by
  have hK : K'[nx]? = some .dead := by rw [ha nx (.inr ⟨_, rfl⟩)]; exact hnx
  have := zpy (P := P) (G := G) (K := K') (nx := nx) (ob := .tok kk 0) (m := m) (o := o) (ev := zn G t) (r := .asl K'.length kk []) hm hK (by
   rw [hop]
   simp only [sop, hl, hc, jw, hu, hk, hby, hz]
   rw [if_pos ⟨hb.1, hb.2.1, h2.1, h2.2, hb.2.2⟩, if_pos trivial]) (by simp [SV.isNew]) rfl
  simp only [SV.mv, if_true] at this
  exact ymm (lt_of_getElem? hK) this⟩⟩ h
theorem ymp (nx : Nat) {ty e kk by_ : Nat} {z : Value} {lx cx : Operand} {k1 k2 : IntKind} {l2 : Int} (hop : o.op = .makeSlice ty lx cx)
  (hw : zy all t o.guard = some true) (hd : yf fn.ntmps o.dst = true) (hl : zn G t lx = .imm (.val (.int k1 0))) (hc : zn G t cx = .imm (.val (.int k2 l2)))
  (hu : P.underlying ty = some (.slice e)) (hk : wb P e = some kk) (hby : jk P e = some by_) (hz : je P e = some z) (hb : by_ <= 65536 /\ z.cells.size = kk /\ 1 <= kk)
  (hm : m <= nx) (hnx : K[nx]? = some .dead) (h2 : 0 <= l2 /\ l2 <= 1073741824)
  (h : SWe E m all rest k (wm t o.dst (.asl nx kk [])) (K.set nx (.tok kk 0)) (done ++ [⟨.asl nx kk [], [], some (nx, .tok kk 0)⟩])) : SWe E m all (o :: rest) k t K done :=
 zbe (e := ⟨.asl nx kk [], [], some (nx, .tok kk 0)⟩) ⟨hd, .inr ⟨hw, fun K' hl' ha => by
  have hK : K'[nx]? = some .dead := by rw [ha nx (.inr ⟨_, rfl⟩)]; exact hnx
  have := zpy (P := P) (G := G) (K := K') (nx := nx) (ob := .tok kk 0) (m := m) (o := o) (ev := zn G t) (r := .asl K'.length kk []) hm hK (by
   rw [hop]
   simp only [sop, hl, hc, jw, hu, hk, hby, hz]
   rw [if_pos ⟨hb.1, hb.2.1, h2.1, h2.2, hb.2.2⟩, if_pos trivial]) (by simp [SV.isNew]) rfl
  simp only [SV.mv, if_true] at this
  exact this⟩⟩ h
theorem ymq {ty e kk by_ : Nat} {z : Value} {lx cx : Operand} {k1 k2 : IntKind} {l2 : Int} (hop : o.op = .makeSlice ty lx cx)
  (hw : zy all t o.guard = some true) (hd : yf fn.ntmps o.dst = true) (hl : zn G t lx = .imm (.val (.int k1 0))) (hc : zn G t cx = .imm (.val (.int k2 l2)))
  (hu : P.underlying ty = some (.slice e)) (hk : wb P e = some kk) (hby : jk P e = some by_) (hz : je P e = some z) (hb : by_ <= 65536 /\ z.cells.size = kk /\ 1 <= kk) (h2 : 0 <= l2 /\ l2 <= 1073741824)
  (h : SWr E all rest k (wm t o.dst (.asl H.length kk [])) (H ++ [.tok kk 0])) : SWr E all (o :: rest) k t H :=
 zas hw hd (r := .asl H.length kk []) (H' := H ++ [.tok kk 0]) (by
  rw [hop]
  simp only [sop, hl, hc, jw, hu, hk, hby, hz]
  rw [if_pos ⟨hb.1, hb.2.1, h2.1, h2.2, hb.2.2⟩, if_pos trivial]) (by simp) h
theorem ycd {b kk by_ e e' : Nat} {z : Value} {sx xx : Operand} {sT xT : Nat} {rows new : List (List D)} (hop : o.op = .call ⟨.builtin .append, #[sx, xx], #[sT, xT]⟩)
  (hw : zy all t o.guard = some true) (hd : yf fn.ntmps o.dst = true) (hs : zn G t sx = .asl b kk rows) (hx : zn G t xx = .imm (.isl kk new)) (hu : P.underlying sT = some (.slice e)) (hu' : P.underlying xT = some (.slice e'))
  (hk : wb P e = some kk) (hby : jk P e = some by_) (hz : je P e = some z) (hcond : z.cells.size = kk) (hb : H[b]? = some (.tok kk rows.length)) (hlen : rows.length + new.length <= 4611686018427387904) (hcap : (2 * (rows.length + new.length) + 192) * by_ <= 281474976710656)
  (h : SWr E all rest k (wm t o.dst (.asl b kk (rows ++ new))) (H.set b (.tok kk (rows.length + new.length)))) : SWr E all (o :: rest) k t H := by
 refine zan hw hd (fun c e => by rw [hop] at e; cases e) (by simp) (fun ρ w I β hH hev => ?_) h
 have hr := hev sx
 rw [hs] at hr
 have hrx := hev xx
 rw [hx] at hrx
 generalize hxv : ρ xx = xv at hrx
 cases hrx with | imm hrx =>
 obtain ⟨B, hB, hxl, hxc⟩ := hrx.flat (P := P)
 obtain ⟨dst, op, type, pos, after, guard⟩ := o
 simp only at hop
 subst hop
 obtain ⟨u, w', I', β', h1, h2, h3, h4⟩ := zer (ty := type) hu hu' hk hby hz hcond hxl w I β H b rows.length rows _ B hH hr hb rfl hlen hcap hB hxc
 exact .value (by simpa [builtin, hxv] using h1) h2 h3 (h4 _)
theorem yes {b n kk i : Nat} {cs : List SV} {x ix : Operand} {ty e : Nat} {q : IntKind} {mm : Int} (hop : o.op = .indexAddr ty x ix) (hw : zy all t o.guard = some true) (hd : yf fn.ntmps o.dst = true) (hx : zn G t x = .vec b n) (hi : zn G t ix = .imm (.val (.int q mm)))
  (hu : P.underlying ty = some (.slice e)) (hn : wb P e = some kk) (hm : m <= K.length) (hb : K[b]? = some (.vec kk cs)) (hlen : cs.length = n * kk) (hk : 1 <= kk) (hmm : mm = (i : Int)) (hin : i < n)
  (h : SWe E m all rest k (wm t o.dst (.vptr b n (i * kk))) K (done ++ [⟨.vptr b n (i * kk), [b], none⟩])) : SWe E m all (o :: rest) k t K done :=
 zbe (e := ⟨.vptr b n (i * kk), [b], none⟩) ⟨hd, .inr ⟨hw, fun K' hl ha => zrx (by omega) fun ρ w I β hH hops => by
  have hr := hops x (by rw [hop]; simp [Op.operands])
  rw [hx] at hr
  have hri := hops ix (by rw [hop]; simp [Op.operands])
  rw [hi] at hri
  exact ypb hop hH hr hri hu hn (by rw [ha b (.inl (by simp))]; exact hb) hlen hk hmm hin⟩⟩ h
theorem ymr {b n off kk : Nat} {cs row : List SV} {x : Operand} {ty : Nat} {r : SV} (hop : o.op = .load ty x) (hw : zy all t o.guard = some true) (hd : yf fn.ntmps o.dst = true) (hx : zn G t x = .vptr b n off) (hm : m <= K.length)
  (hb : K[b]? = some (.vec kk cs)) (hlen : cs.length = n * kk) (hk : 1 <= kk) (hrow : (cs.drop off).take row.length = row) (hpos : 1 <= row.length) (hs : zju P ty row 0 = some r)
  (h : SWe E m all rest k (wm t o.dst r) K (done ++ [⟨r, [b], none⟩])) : SWe E m all (o :: rest) k t K done :=
 zbe (e := ⟨r, [b], none⟩) ⟨hd, .inr ⟨hw, fun K' hl ha => zrx (by omega) fun ρ w I β hH hops => by
  have hr := hops x (by rw [hop]; simp [Op.operands])
  rw [hx] at hr
  exact ymn hop hH hr (by rw [ha b (.inl (by simp))]; exact hb) hlen hk hrow hpos hs⟩⟩ h
theorem yce {b n off ns : Nat} {ax vx : Operand} {ty : Nat} {v : SV} {vcs : List SV} {kk : Nat} {cs : List SV} (hop : o.op = .store ty ax vx) (hw : zy all t o.guard = some true) (hd : yf fn.ntmps o.dst = true) (hax : zn G t ax = .vptr b n off)
  (hvx : zn G t vx = v) (hv : v.cells = some vcs) (hone : vcs.all SV.one = true) (hsz : wb P ty = some ns) (hns : vcs.length = ns) (hm : m <= K.length) (hb : K[b]? = some (.vec kk cs)) (hlen : cs.length = n * kk) (hk : 1 <= kk) (hoff : off + ns <= cs.length) (hpos : 1 <= ns)
  (h : SWe E m all rest k (wm t o.dst .any) (K.set b (.vec kk (cs.take off ++ vcs ++ cs.drop (off + ns)))) (done ++ [⟨.any, [b], some (b, .vec kk (cs.take off ++ vcs ++ cs.drop (off + ns)))⟩])) : SWe E m all (o :: rest) k t K done :=
 zbe (e := ⟨.any, [b], some (b, .vec kk (cs.take off ++ vcs ++ cs.drop (off + ns)))⟩) ⟨hd, .inr ⟨hw, fun K' hl ha => zrx (by omega) fun ρ w I β hH hops => by
  have hr := hops ax (by rw [hop]; simp [Op.operands])
  rw [hax] at hr
  have hrv := hops vx (by rw [hop]; simp [Op.operands])
  rw [hvx] at hrv
  exact zrg hop hH hr (hrv.cellsReps hv) hone hsz hns (by rw [ha b (.inl (by simp))]; exact hb) hlen hk hoff hpos⟩⟩ h
end
end Go.Sh
namespace Go.Proofs.YtblpjknmhajcgaaGreatDoor
open Go Go.Sh
variable (G : List (Nat × D))
def zeg (c : Codex) (v : Int) : Bool := decide (0 <= v) && decide (v < c.arts.length)
def ztz (c : Codex) (vs : List Int) : SV := if vs.all (zeg c) = true then .imm (dInts (zwa c vs)) else zev
theorem yhx (c : Codex) (vs : List Int) (hz : vs.length <= 9223372036854775807) (ha : c.arts.length <= 9223372036854775807) (hB : ∀ n, n <= c.arts.length -> (((List.range n).map fun (i : Nat) => (i : Int)).filter (fun i => decide (i ∈ vs))).length <= 17592186043904) : yb Tryz.prog G 22 [c.sv, .imm (dInts vs)] (.tup [ztz c vs, sB (vs.all (zeg c))]) := by
 have hal : (c.arts.map Article.cells).length = c.arts.length := by simp
 have hvl : (vs.map fun n => [dI n]).length = vs.length := by simp
 have hIn := fun x => ylu G vs x (by omega)
 refine ze Tryz.func22 rfl (by rw [Tryz.ntmps22]; simp) rfl (by unfold ztz; split <;> rfl) ?_
 intro E hH hK
 rw [show c.sv = .agg [.imm (zk c.facts), .imm (zk c.lines), .imm (xw c.arts)] from rfl]
 (refine zh ?_; conv => whnf)
 refine yiu (n := 6) (kk := 1) rfl ?_
 refine zf [1, 2, 6, 7] ?_
 change SW E _ [(1, .imm (dInts vs)), (2, .ptr 0 0), (6, .asl 1 1 []), (7, sI 0)] [.cells [.imm (zk c.facts), .imm (zk c.lines), .imm (xw c.arts)], .tok 1 0]
 refine zt c.arts (fun i (l : List Int) => [(1, .imm (dInts vs)), (2, .ptr 0 0), (6, .asl 1 1 (l.map fun n => [dI n])), (7, sI i)]) (fun _ l => [.cells [.imm (zk c.facts), .imm (zk c.lines), .imm (xw c.arts)], .tok 1 (l.map fun n => [dI n]).length])
  (fun done _ l => l = ((List.range done.length).map fun (i : Nat) => (i : Int)).filter (fun i => decide (i ∈ vs))) [] rfl ?_ ?_
 ·rintro l h2
  have hl : zwa c vs = l := h2.symm
  refine zfx ?_
  change SW E _ [(1, .imm (dInts vs)), (2, .ptr 0 0), (6, .imm (dInts l)), (7, sI c.arts.length)] _
  (refine zh ?_; conv => whnf)
  repeat' ((with_reducible refine way ?_ ?_) <;> (intro h; conv => whnf))
  all_goals try (exfalso; omega)
  refine yr [1, 2, 6, 8] 1 (by rw [hH]; exact Nat.zero_le 1) (Nat.succ_le_succ (Nat.zero_le _)) rfl rfl ?_
  change SW E _ [(1, .imm (dInts vs)), (2, .ptr 0 0), (6, .imm (dInts l)), (8, sI 0)] [.cells [.imm (zk c.facts), .imm (zk c.lines), .imm (xw c.arts)]]
  refine zt vs (fun i (_ : Unit) => [(1, .imm (dInts vs)), (2, .ptr 0 0), (6, .imm (dInts l)), (8, sI i)]) (fun _ _ => [.cells [.imm (zk c.facts), .imm (zk c.lines), .imm (xw c.arts)]])
   (fun done _ _ => done.all (zeg c) = true) () rfl ?_ ?_
  ·rintro _ h3
   unfold ztz at hK
   rw [h3, if_pos rfl, hl] at hK
   (refine zh ?_; conv => whnf)
   repeat' ((with_reducible refine way ?_ ?_) <;> (intro h; conv => whnf))
   all_goals try (exfalso; omega)
   exact hK _
  ·rintro done x rest _ hda hdl h3 ih
   have hw := zm (n := done.length) (by omega)
   have hrx : (vs.map fun n => [dI n])[done.length]? = some [dI x] := by simp [hda]
   have hsn : (done ++ [x]).all (zeg c) = zeg c x := by rw [List.all_append, h3]; simp
   have hno : zeg c x = false -> vs.all (zeg c) = false := fun h => by rw [hda, List.all_append, List.all_cons, h, Bool.false_and, Bool.and_false]
   rw [hsn] at ih
   (refine zh ?_; conv => whnf)
   repeat' ((with_reducible refine way ?_ ?_) <;> (intro h; conv => whnf))
   all_goals try (exfalso; omega)
   (refine ya 0 mixed rfl ?_; refine zc [777] (nx := 1) ?_; conv => whnf)
   refine yc (i := done.length) (row := [dI x]) rfl (show 1 <= 1 by decide) rfl hrx ?_
   (refine zc [777, 33] (nx := 1) ?_; conv => whnf)
   refine jn ⟨sB (decide (x < 0)), [], none⟩ rfl rfl (show 1 <= 1 by decide) (fun _ _ _ => rfl) ?_
   by_cases hx : x < 0
   ·have hf : vs.all (zeg c) = false := hno (by unfold zeg; rw [decide_eq_false (by omega)]; rfl)
    unfold ztz at hK
    rw [hf, if_neg (by simp)] at hK
    rw [decide_eq_true hx]
    (refine zc [777, 43] (nx := 1) ?_; conv => whnf)
    refine jn ⟨sB true, [], none⟩ rfl rfl (show 1 <= 1 by decide) (fun _ _ _ => rfl) ?_
    refine zbz (by kernel_rfl) ?_
    (refine zh ?_; conv => whnf)
    exact hK _
   ·rw [decide_eq_false hx]
    (refine zc [777] (nx := 1) ?_; conv => whnf)
    refine yc (i := done.length) (row := [dI x]) rfl (show 1 <= 1 by decide) rfl hrx ?_
    (refine zc [777, 43] (nx := 1) ?_; conv => whnf)
    refine jn ⟨sB (decide (((c.arts.map Article.cells).length : Int) <= x)), [], none⟩ rfl rfl (show 1 <= 1 by decide) (fun _ _ _ => rfl) ?_
    refine zbz (by kernel_rfl) ?_
    by_cases hx2 : ((c.arts.map Article.cells).length : Int) <= x
    ·have hf : vs.all (zeg c) = false := hno (by unfold zeg; rw [decide_eq_false (show ¬ x < c.arts.length by omega), Bool.and_false])
     unfold ztz at hK
     rw [hf, if_neg (by simp)] at hK
     rw [decide_eq_true hx2]
     (refine zh ?_; conv => whnf)
     exact hK _
    ·rw [decide_eq_false hx2]
     (refine zh ?_; conv => whnf)
     rw [hw]
     exact zf [1, 2, 6, 8] (ih () (by unfold zeg; rw [decide_eq_true (show 0 <= x by omega), decide_eq_true (show x < c.arts.length by omega)]; rfl))
 ·rintro done x rest l hda hdl h2 ih
  have hw := zm (n := done.length) (by omega)
  have hI := hIn (done.length : Int)
  have hsn : ∀ l', l' = l ++ (if (done.length : Int) ∈ vs then [(done.length : Int)] else []) -> l' = ((List.range (done ++ [x]).length).map fun (i : Nat) => (i : Int)).filter (fun i => decide (i ∈ vs)) := fun l' h => by
   rw [h, List.length_append, List.length_cons, List.length_nil, List.range_succ, List.map_append, List.filter_append, <- h2]
   congr 1
   by_cases hm : (done.length : Int) ∈ vs
   ·simp [hm]
   ·simp [hm]
  (refine zh ?_; conv => whnf)
  repeat' ((with_reducible refine way ?_ ?_) <;> (intro h; conv => whnf))
  all_goals try (exfalso; omega)
  refine zd rfl  hI ?_
  by_cases hm : (done.length : Int) ∈ vs
  ·rw [decide_eq_true hm]
   rw [if_pos hm] at hsn
   (refine za ?_; conv => whnf)
   have hBl := hB (done ++ [x]).length (by rw [hda]; simp)
   rw [<- hsn _ rfl, List.length_append] at hBl
   refine ycd (b := 1) (kk := 1) (rows := l.map fun n => [dI n]) (new := [[dI done.length]]) rfl rfl rfl rfl rfl rfl rfl rfl rfl rfl rfl rfl (by rw [List.length_map]; simp only [List.length_cons, List.length_nil] at hBl ⊢; omega) (by
    rw [List.length_map]
    show (2 * (l.length + 1) + 192) * 8 <= _
    simp only [List.length_cons, List.length_nil] at hBl
    omega) ?_
   have e5 : (l.map fun n => [dI n]) ++ [[dI done.length]] = (l ++ [(done.length : Int)]).map fun n => [dI n] := by simp
   have e6 : (l.map fun n => [dI n]).length + [[dI done.length]].length = ((l ++ [(done.length : Int)]).map fun n => [dI n]).length := by simp
   refine Eq.mpr (congrArg (fun v => SWr E _ _ _ (wm _ _ (.asl 1 1 v)) _) e5) ?_
   refine Eq.mpr (congrArg (fun v => SWr E _ _ _ _ (List.set _ 1 (.tok 1 v))) e6) ?_
   (refine za ?_; conv => whnf)
   rw [hw]
   exact zf [1, 2, 6, 7] (ih _ (hsn _ rfl))
  ·rw [decide_eq_false hm]
   rw [if_neg hm, List.append_nil] at hsn
   (refine za ?_; conv => whnf)
   rw [hw]
   exact zf [1, 2, 6, 7] (ih l (hsn _ rfl))
theorem zgw (n : Nat) (vs : List Int) : (((List.range n).map fun (i : Nat) => (i : Int)).filter (fun i => decide (i ∈ vs))).length <= vs.length := by
 have hsub : ∀ (l : List Int) (vs : List Int), l.Nodup -> (∀ x ∈ l, x ∈ vs) -> l.length <= vs.length := by
  intro l
  induction l with
  | nil => intro vs _ _; simp
  | cons a l ih =>
   intro vs hn hs
   rw [List.nodup_cons] at hn
   have ha := hs a (by simp)
   have := ih (vs.erase a) hn.2 fun x hx => by
    have hne : x ≠ a := fun e => hn.1 (e ▸ hx)
    exact (List.mem_erase_of_ne hne).2 (hs x (by simp [hx]))
   rw [List.length_erase_of_mem ha] at this
   have := List.length_pos_of_mem ha
   simp only [List.length_cons]
   omega
 refine hsub _ _ ?_ fun x hx => by simpa using (List.mem_filter.1 hx).2
 rw [List.nodup_iff_pairwise_ne]
 refine List.Pairwise.filter _ ?_
 rw [List.pairwise_map]
 exact List.pairwise_lt_range.imp fun h => by omega
theorem zua {l : List Int} {n : Nat} (h : l.length = n) : (List.range n).map (fun i => l.getD i 0) = l := by
 refine List.ext_getElem (by simp [h]) fun i h1 h2 => ?_
 rw [List.getElem_map, List.getElem_range, List.getD_eq_getElem?_getD, List.getElem?_eq_getElem h2]
 rfl
theorem zzr (a b : List Int) (p : Nat -> Bool) : ∀ L : List Nat, zig (L.map fun i => (a.getD i 0, b.getD i 0, p i)) = zmx ((L.filter p).map fun (i : Nat) => (i : Int)) a b
 | [] => rfl
 | i :: L => by
  rw [List.map_cons, List.filter_cons]
  have hc : zig ((a.getD i 0, b.getD i 0, p i) :: L.map fun i => (a.getD i 0, b.getD i 0, p i)) = if p i = true /\ a.getD i 0 ≠ b.getD i 0 then decide (a.getD i 0 < b.getD i 0) else zig (L.map fun i => (a.getD i 0, b.getD i 0, p i)) := rfl
  rw [hc, zzr a b p L]
  cases hp : p i with
  | false => simp
  | true =>
   simp only [if_true, List.map_cons, zmx, Int.toNat_natCast]
   by_cases he : a.getD i 0 = b.getD i 0
   ·rw [if_neg (by simp only [he]; simp), if_neg (by simp only [he]; simp)]
   ·rw [if_pos ⟨trivial, he⟩, if_pos he]
theorem yhy {nf k : Nat} {q : Sr} (h : CFull nf q k) : zht q = ((List.range nf).filter fun (i : Nat) => (zo (i : Int) q.cands).isSome).map fun (i : Nat) => (i : Int) := by
 have hfst : zht q = zdk (q.cands.map (·.1)) := by
  unfold zht zu
  rw [List.map_map]
  exact List.map_id _
 rw [hfst]
 refine zvx _ _ (zrf h.inv.nd) ?_ fun x => ?_
 ·rw [List.pairwise_map]
  exact (List.pairwise_lt_range.filter _).imp fun h => by omega
 ·rw [zbp]
  constructor
  ·intro hx
   obtain ⟨e, he, rfl⟩ := List.mem_map.1 hx
   have hr := h.inv.rng e he
   refine List.mem_map.2 ⟨e.1.toNat, List.mem_filter.2 ⟨List.mem_range.2 (by omega), ?_⟩, by omega⟩
   rw [show ((e.1.toNat : Nat) : Int) = e.1 by omega, zbm h.inv.nd he]
   rfl
  ·intro hx
   obtain ⟨i, hi, rfl⟩ := List.mem_map.1 hx
   have hi := (List.mem_filter.1 hi).2
   rw [zcy] at hi
   exact of_decide_eq_true hi
theorem ypc {c : Codex} (h : zq c = true) (hF : c.facts.length <= 12) (hw : ∀ a ∈ c.arts, a.when_.length <= 41) {vs : List Int} (hv : ∀ v ∈ vs, 0 <= v /\ v < c.arts.length) {w : View} (hwit : ye c vs = some w) {v : List Int} (hvl : v.length = c.facts.length) (hg : ybm c v) :
  ∃ z : List (Int × Int × Bool), v = z.map (·.1) /\ w.value = z.map (·.2.1) /\ w.has = z.map (·.2.2) /\ z.length = c.facts.length /\
   ∀ d, (yj c (zr vs)).1 <= d -> d < (yj c (zr vs)).2 -> (xl c (zr vs)).all (holdsE (xe d) v) = true -> zzj d w.day z = false := by
 rw [zfm h hv] at hwit
 cases hq : xc c vs with
 | none => rw [hq] at hwit; cases hwit
 | some q =>
  rw [hq] at hwit
  obtain ⟨hfull, _⟩ := zgo h hF hw hv hq
  obtain ⟨w1, _⟩ := ybn h hF hw hv hq
  obtain ⟨a1, a2, a3, a4, a5, a6, _, a8⟩ := w1 w hwit
  refine ⟨(List.range c.facts.length).map fun (i : Nat) => (v.getD i 0, w.value.getD i 0, (zo (i : Int) q.cands).isSome), ?_, ?_, ?_, by simp, fun d h1 h2 h3 => ?_⟩
  ·rw [List.map_map]
   exact (zua hvl).symm
  ·rw [List.map_map]
   exact (zua a3).symm
  ·rw [List.map_map, a4]
   rfl
  ·obtain ⟨g1, g2⟩ := a8 d v h1 h2 hg (List.all_eq_true.1 h3)
   unfold zzj
   by_cases e : d = w.day
   ·rw [if_pos e, zzr, <- yhy hfull]
    exact g2 e.symm
   ·rw [if_neg e]
    exact decide_eq_false (by omega)
theorem yhz {c : Codex} {vs : List Int} (h : vs.all (zeg c) = true) : ∀ v ∈ vs, 0 <= v /\ v < c.arts.length := fun v hv => by
 have := List.all_eq_true.1 h v hv
 unfold zeg at this
 simpa using this
theorem zkt : ∀ l l' : List Int, l.Pairwise (· < ·) -> l'.Pairwise (· < ·) -> (∀ x ∈ l, x ∈ l') -> l.length <= l'.length
 | [], _, _, _, _ => Nat.zero_le _
 | a :: r, [], _, _, h => by have := h a (by simp); cases this
 | a :: r, b :: r', h1, h2, h => by
  have g1 := h1
  have g2 := h2
  simp only [List.pairwise_cons] at g1 g2
  rcases List.mem_cons.1 (h a (by simp)) with e | ha
  ·subst e
   have := zkt r r' g1.2 g2.2 fun x hx => by
    rcases List.mem_cons.1 (h x (by simp [hx])) with e | hx'
    ·have := g1.1 x hx; omega
    ·exact hx'
   simp only [List.length_cons]
   omega
  ·have hba := g2.1 a ha
   have := zkt (a :: r) r' h1 g2.2 fun x hx => by
    rcases List.mem_cons.1 (h x hx) with e | hx'
    ·rcases List.mem_cons.1 hx with e' | hx''
     ·omega
     ·have := g1.1 x hx''; omega
    ·exact hx'
   simp only [List.length_cons] at this ⊢
   omega
theorem zub {f g : Nat -> List Int} (h : ∀ i, (f i).length <= (g i).length) : ∀ (L : List Nat) (p p' : Int), 0 <= p -> p <= p' ->
  (L.map f).foldl (fun p l => min (p * max 1 (l.length : Int)) 1000000) p <= (L.map g).foldl (fun p l => min (p * max 1 (l.length : Int)) 1000000) p'
 | [], _, _, _, h2 => h2
 | i :: L, p, p', h1, h2 => by
  simp only [List.map_cons, List.foldl_cons]
  have hi := h i
  have k1 : p * max 1 ((f i).length : Int) <= p' * max 1 ((g i).length : Int) := Int.mul_le_mul h2 (by omega) (by omega) (by omega)
  have k2 : 0 <= p * max 1 ((f i).length : Int) := Int.mul_nonneg h1 (by omega)
  generalize p * max 1 ((f i).length : Int) = a at k1 k2 ⊢
  generalize p' * max 1 ((g i).length : Int) = b at k1 k2 ⊢
  exact zub h L _ _ (by omega) (by omega)
theorem ypd {c : Codex} {m : List (Int × Int)} {es es' : List Ex} (h : ∀ e ∈ es', zzb c m e /\ simpE c e = true) (hs : ∀ e ∈ es, e ∈ es') (f : Int) : (ypu c f es).length <= (ypu c f es').length := by
 obtain ⟨a1, a2⟩ := zjg (f := f) es (fun e he => h e (hs e he)) [] .nil
 obtain ⟨b1, b2⟩ := zjg (f := f) es' h [] .nil
 refine zkt _ _ a1 b1 fun x hx => ?_
 rcases (a2 x).1 hx with h1 | ⟨e, he, hc⟩
 ·cases h1
 ·exact (b2 x).2 (.inr ⟨e, hs e he, hc⟩)
theorem ype {c : Codex} {m : List (Int × Int)} {es es' : List Ex} (h : ∀ e ∈ es', zzb c m e /\ simpE c e = true) (hs : ∀ e ∈ es, e ∈ es') (hp : yhg (zvy c es') <= 4096) : yhg (zvy c es) <= 4096 :=
 Int.le_trans (zub (fun i => ypd h hs i) _ 1 1 (by decide) (by decide)) hp
theorem zcj {c d : Codex} (h : d.facts = c.facts) (f : Int) : zon d f = zon c f := by unfold zon; rw [h]
theorem zgx {c d : Codex} (h : d.facts = c.facts) : ∀ (N : Nat) (e : Ex), SizeOf.sizeOf e < N -> simpE d e = simpE c e
 | 0, _, hN => by omega
 | N + 1, .mk op n u den ps ks, hN => by
  simp only [Ex.mk.sizeOf_spec] at hN
  rw [simpE.eq_def, simpE.eq_def c]
  match ks, hN with
  | [], _ => simp only [zcj h]
  | [k], hN =>
   simp only [List.cons.sizeOf_spec] at hN
   simp only [zcj h, zgx h N k (by omega)]
  | [k, l], hN =>
   simp only [List.cons.sizeOf_spec] at hN
   simp only [zcj h, zgx h N k (by omega), zgx h N l (by omega)]
  | _ :: _ :: _ :: _, _ => simp only [zcj h]
theorem zgy {c d : Codex} (h : d.facts = c.facts) (f : Int) : ∀ (N : Nat) (e : Ex), SizeOf.sizeOf e < N -> ∀ l, candE d f e l = candE c f e l
 | 0, _, hN, _ => by omega
 | N + 1, .mk op n u den ps ks, hN, r => by
  simp only [Ex.mk.sizeOf_spec] at hN
  have hf : ∀ l, zie d f op n l = zie c f op n l := fun l => by unfold zie; rw [zcj h]
  have hst : ∀ k o l, znf d f op k o l = znf c f op k o l := fun k o l => by unfold znf; rw [zcj h]
  rw [candE.eq_def, candE.eq_def c]
  match ks, hN with
  | [], _ => simp only [hf]
  | [k], hN =>
   simp only [List.cons.sizeOf_spec] at hN
   simp only [hf, zgy h f N k (by omega)]
  | [k, l], hN =>
   simp only [List.cons.sizeOf_spec] at hN
   simp only [hf, hst, zgy h f N k (by omega), zgy h f N l (by omega)]
  | _ :: _ :: _ :: _, _ => simp only [hf]
theorem ycf {c d : Codex} (h : d.facts = c.facts) (es : List Ex) : zvy d es = zvy c es := by
 unfold zvy ypu
 rw [h, show candE d = candE c from funext fun f => funext fun e => funext fun l => zgy h f _ e (Nat.lt_succ_self _) l]
theorem yet {c : Codex} {m : List (Int × Int)} {f x : Int} : ∀ (N : Nat) (e : Ex), SizeOf.sizeOf e < N -> zfp c m e -> e.unit = tT -> simpE c e = true -> cE c f x e -> 0 <= x /\ (zon c f = true -> x <= 1)
 | 0, _, h, _, _, _, _ => by omega
 | N + 1, .mk op n u den ps ks, hN, h, hu, hs, hx => by
  simp only [Ex.mk.sizeOf_spec] at hN
  have hu : u = tT := hu
  rw [cE.eq_def] at hx
  simp only at hx
  have one : (op = 2 /\ n = f /\ (x = 0 \/ (zon c f = true /\ x = 1))) -> 0 <= x /\ (zon c f = true -> x <= 1) := by
   rintro ⟨_, _, h | ⟨_, h⟩⟩
   ·exact ⟨by omega, fun _ => by omega⟩
   ·exact ⟨by omega, fun _ => by omega⟩
  rcases hx with hx | hx
  ·exact one hx
  cases zpb h hu with
  | const h1 hk hu' => subst hk; exact hx.elim
  | fact h1 hk hr ht => subst hk; exact hx.elim
  | neg k h1 hk hka hku =>
   subst h1 hk
   simp only [List.cons.sizeOf_spec] at hN
   have hsk : simpE c k = true := by
    rw [simpE.eq_def] at hs
    simpa only [show ¬ (5 : Int) = 1 by decide, show ¬ (5 : Int) = 2 by decide, if_false, if_true] using hs
   exact yet N k (by omega) hka hku hsk hx
  | conn k l h1 hk hka hla hku hlu =>
   subst hk
   simp only [List.cons.sizeOf_spec] at hN
   have hsE : simpE c (.mk op n u den ps [k, l]) = (simpE c k && simpE c l) := by
    rw [simpE.eq_def]
    simp only
    rw [if_neg (by omega), if_neg (by omega), if_neg (by omega), if_pos h1]
   rw [hsE, Bool.and_eq_true] at hs
   rcases hx with hx | hx | hx
   ·exact yet N k (by omega) hka hku hs.1 hx
   ·exact yet N l (by omega) hla hlu hs.2 hx
   ·exfalso
    have hce : zob op = false := by unfold zob; rcases h1 with rfl | rfl <;> rfl
    rw [hce] at hx
    cases hx.1
  | cmp k l h1 hk hka hla =>
   subst hk
   rw [zlx h1] at hs
   simp only [Bool.and_eq_true, Bool.or_eq_true, decide_eq_true_eq] at hs
   have hlk := zgq hka (zjc hs.1.1)
   have hll := zgq hla (zjc hs.1.2)
   have leaf : ∀ {k : Ex}, LeafE c k -> cE c f x k -> 0 <= x /\ (zon c f = true -> x <= 1) := fun hk h => by
    obtain ⟨_, _, h | ⟨_, h⟩⟩ := (zrj hk).1 h
    ·exact ⟨by omega, fun _ => by omega⟩
    ·exact ⟨by omega, fun _ => by omega⟩
   have two : ∀ {k l : Ex}, LeafE c l -> cP c f x k l -> 0 <= x /\ (zon c f = true -> x <= 1) := fun hl h => by
    obtain ⟨_, _, h3, h4, h5⟩ := h
    have := hl.k1 h3
    exact ⟨by omega, fun e => by rw [h4] at e; cases e⟩
   rcases hx with hx | hx | ⟨_, hx | hx⟩
   ·exact leaf hlk hx
   ·exact leaf hll hx
   ·exact two hll hx
   ·exact two hlk hx
  | other h1 h2 h3 h4 h5 =>
   exfalso
   unfold simpE at hs
   rw [if_neg h1, if_neg h2, if_neg h3, if_neg h4] at hs
   have hce : zob op = false := by unfold zob; simp; omega
   split at hs
   ·simp [hce] at hs
   ·cases hs
theorem ypf {c : Codex} (h : zq c = true) (hF : c.facts.length <= 12) (hw : ∀ a ∈ c.arts, a.when_.length <= 41) {vs : List Int} (hv : ∀ v ∈ vs, 0 <= v /\ v < c.arts.length) {w : View} (hwit : ye c vs = some w) : ybm c w.value := by
 rw [zfm h hv] at hwit
 cases hq : xc c vs with
 | none => rw [hq] at hwit; cases hwit
 | some q =>
  rw [hq] at hwit
  obtain ⟨w1, _⟩ := ybn h hF hw hv hq
  obtain ⟨_, _, _, _, _, _, a7, _⟩ := w1 w hwit
  obtain ⟨hfull, hgo⟩ := zgo h hF hw hv hq
  obtain ⟨hs1, hs2⟩ := zne h hF hv
  have hR := hs2 q hgo
  rw [hgo] at hs1
  have hsimp : ∀ e ∈ xl c (zr vs), simpE c e = true := List.all_eq_true.1 hs1.symm
  obtain ⟨m, hm, hc⟩ := zbq h
  have hN := zkp (c := c) hc (vs := zr vs)
  intro i
  by_cases hex : ∃ e ∈ zu q.cands, e.1.toNat = i
  ·obtain ⟨e, he, hi⟩ := hex
   have hmem := a7.mem e he
   obtain ⟨f, hf, rfl⟩ := List.mem_map.1 he
   obtain ⟨e, hee, rfl⟩ := List.mem_map.1 (zbp.1 hf)
   have hr := hfull.inv.rng e hee
   simp only at hi hmem
   rw [hi] at hmem
   have hmem : w.value.getD i 0 ∈ zci q e.1 := zbp.1 hmem
   obtain ⟨x, hx, hcx⟩ := (hR.mem _ _).1 hmem
   have := yet _ x (Nat.lt_succ_self _) (hN x hx).1 (hN x hx).2 (hsimp x hx) hcx
   rwa [show e.1 = (i : Int) by omega] at this
  ·have := a7.oth i fun e he hi => hex ⟨e, he, hi⟩
   have hz' : (st0 c.facts.length 0).vs.getD i 0 = 0 := by
    simp only [st0, List.getD_eq_getElem?_getD, List.getElem?_replicate]
    split <;> rfl
   rw [hz'] at this
   rw [this]
   exact ⟨by omega, fun _ => by omega⟩
theorem zzs {c d : Codex} (hc : zq c = true) (hd : zq d = true) (hfa : d.facts = c.facts) (hF : c.facts.length <= 12) (hw : ∀ a ∈ c.arts, a.when_.length <= 41) (hw' : ∀ a ∈ d.arts, a.when_.length <= 41)
  {vs ws : List Int} (hv : ∀ v ∈ vs, 0 <= v /\ v < c.arts.length) (hv' : ∀ v ∈ ws, 0 <= v /\ v < d.arts.length) (hsub : ∀ e ∈ xl c (zr vs), e ∈ xl d (zr ws))
  (hfr : (yj c (zr vs)).1 <= (yj d (zr ws)).1 /\ (yj d (zr ws)).2 <= (yj c (zr vs)).2) {w : View} (hwit : ye d ws = some w) :
  ∃ v, ye c vs = some v /\ ∃ z : List (Int × Int × Bool), w.value = z.map (·.1) /\ v.value = z.map (·.2.1) /\ v.has = z.map (·.2.2) /\ z.length = c.facts.length /\ zzj w.day v.day z = false := by
 obtain ⟨y1, y2, y3, y4, _, _, y7⟩ := (ztt hd (by rw [hfa]; exact hF) hw' hv').2.2 w hwit
 have hg := ypf hd (by rw [hfa]; exact hF) hw' hv' hwit
 have hg : ybm c w.value := fun i => by have := hg i; rwa [zcj hfa] at this
 rw [hfa] at y4
 obtain ⟨m, hm, hcn⟩ := zbq hd
 have hN := zkp (c := d) hcn (vs := zr ws)
 have hall : (xl c (zr vs)).all (holdsE (xe w.day) w.value) = true := List.all_eq_true.2 fun e he => List.all_eq_true.1 y7 e (hsub e he)
 have hcand : zro c (zr vs) = true := by
  unfold zro at y1 ⊢
  simp only [Bool.and_eq_true, decide_eq_true_eq] at y1 ⊢
  have hs := List.all_eq_true.1 y1.1
  refine ⟨List.all_eq_true.2 fun e he => ?_, ?_⟩
  ·rw [<- zgx hfa _ e (Nat.lt_succ_self _)]
   exact hs e (hsub e he)
  ·rw [<- ycf hfa]
   exact ype (fun e he => ⟨hN e he, hs e he⟩) hsub y1.2
 cases hwv : ye c vs with
 | none =>
  have := (ztt hc hF hw hv).2.1 hcand hwv w.day w.value (by omega) (by omega) hg
  rw [hall] at this
  cases this
 | some v =>
  obtain ⟨z, e1, e2, e3, e4, e5⟩ := ypc hc hF hw hv hwv y4 hg
  exact ⟨v, rfl, z, e1, e2, e3, e4, e5 w.day (by omega) (by omega) hall⟩
theorem zzt {c : Codex} : ∀ (ws : List Int) (r : Int × Int) (v : Int), v ∈ ws -> ∀ a, qf c v = some a -> a.lo <= (ws.foldl (js c) r).1 /\ (ws.foldl (js c) r).2 <= a.hi
 | [], _, _, h, _, _ => by cases h
 | x :: ws, r, v, h, a, ha => by
  rw [List.foldl_cons]
  rcases List.mem_cons.1 h with rfl | h
  ·have := zfl c ws (js c r v)
   have e : js c r v = (max r.1 a.lo, min r.2 a.hi) := by unfold js; rw [ha]
   rw [e] at this
   rw [e]
   simp only at this
   omega
  ·exact zzt ws _ v h a ha
theorem zry {c : Codex} (ws : List Int) (lo hi : Int) : ∀ (vs : List Int) (r : Int × Int), r.1 <= lo -> hi <= r.2 -> (∀ v ∈ vs, ∀ a, qf c v = some a -> a.lo <= lo /\ hi <= a.hi) -> (vs.foldl (js c) r).1 <= lo /\ hi <= (vs.foldl (js c) r).2
 | [], r, h1, h2, _ => ⟨h1, h2⟩
 | v :: vs, r, h1, h2, h => by
  rw [List.foldl_cons]
  refine zry ws lo hi vs _ ?_ ?_ fun x hx => h x (by simp [hx])
  ·unfold js
   split
   ·have := h v (by simp) _ ‹_›; simp only; omega
   ·exact h1
  ·unfold js
   split
   ·have := h v (by simp) _ ‹_›; simp only; omega
   ·exact h2
theorem zuc {c d : Codex} {vs ws : List Int} (h : ∀ v ∈ vs, v ∈ ws) (hlo : ∀ v ∈ vs, ∀ a, qf c v = some a -> ∃ b, qf d v = some b /\ b.lo = a.lo /\ b.hi = a.hi) :
  (yj c vs).1 <= (yj d ws).1 /\ (yj d ws).2 <= (yj c vs).2 := by
 have hw := yop (c := d) ws
 have hw2 := zfl d ws (0, 36525)
 refine zry ws _ _ vs (0, 36525) hw.1 hw.2 fun v hv a ha => ?_
 obtain ⟨b, hb, e1, e2⟩ := hlo v hv a ha
 have := zzt (c := d) ws (0, 36525) v (h v hv) b hb
 rw [e1, e2] at this
 exact this
theorem zud {c d : Codex} {vs ws : List Int} (h : ∀ v ∈ vs, v ∈ ws) (hwh : ∀ v ∈ vs, ∀ e ∈ zlv c v, e ∈ zlv d v) : ∀ e ∈ xl c vs, e ∈ xl d ws := fun e he => by
 obtain ⟨v, hv, he⟩ := List.mem_flatMap.1 he
 exact List.mem_flatMap.2 ⟨v, h v hv, hwh v hv e he⟩
end Go.Proofs.YtblpjknmhajcgaaGreatDoor