/- Contracts of functions of the program, joined from TKu, TKv, TKw, TBe, TPa, TBh, TKr, TSh46, TBi, TPb, TPc, TPd, TSh47, TCc, TEa, TEb, TEc, TEd, TQa: no condition. -/
import Derived.Test.YtblpjknmhajcgaaGreatDoorCN4
set_option linter.unusedSimpArgs false
set_option linter.unusedVariables false
set_option maxRecDepth 10000
set_option maxHeartbeats 8000000
namespace Go.Proofs.YtblpjknmhajcgaaGreatDoor
open Go Go.Sh
variable (G : List (Nat × D))
def yri (op n : Int) (u : ByteArray) (den : Int) (ps : List Piece) (ks : List Ex) : SV := .agg [.imm (dI op), .imm (dI n), .imm (dS u), .imm (dI den), .imm (.isl 3 (ps.map Piece.cells)), .imm (.isl 6 (zb ks))]
def zba (op n : Int) (u : ByteArray) (den : Int) (ps : List Piece) (ks : List Ex) : SObj := .cells [.imm (dI op), .imm (dI n), .imm (dS u), .imm (dI den), .imm (.isl 3 (ps.map Piece.cells)), .imm (.isl 6 (zb ks))]
structure KidOK (k : Ex) : Prop where
 fact : k.op = 2 -> 0 <= k.n /\ k.n < 12
 date : k.op = 4 -> 0 <= k.n /\ k.n <= 4
 sz : -1000000000000 <= k.n /\ k.n <= 1000000000000
theorem zoz {a : Int} (h0 : -1000000000000000 <= a) (h1 : a <= 1000000000000000) : IntKind.i64.wrap a = a := by
 simp [IntKind.wrap, IntKind.signed, IntKind.bits]; omega
theorem qy {c : Codex} {vers : List Int} {q : Sr} (h : CandsOK q.cands) {m : Nat} (hm : 17 <= m) {X : List SObj} (hX : X.all (SObj.under m) = true) : (NS c vers q ++ X).all (SObj.under m) = true := by
 rw [List.all_append, yz hm (zao h.rng), hX]
 rfl
theorem ylb (xo xn : Int) (xu : ByteArray) (xd : Int) (xp : List Piece) (xk : List Ex) (r : List Ex) (s : Sr) (m : Int) :
  xg (.mk xo xn xu xd xp xk :: r) s m = if xo = 1 then xg r s (m + 1) else if xo = 4 then xg r (s.date xn) m else if xo = 2 then xg r s m else (false, s, m) := rfl
def ybf (l : List Ex) : SV := .imm (.isl 6 (l.map Ex.cells))
theorem zea (c : Codex) (vers : List Int) (q : Sr) (op n : Int) (u : ByteArray) (den : Int) (ps : List Piece) (l r : Ex) (hl : KidOK l) (hr : KidOK r) (hq : CandsOK q.cands) (hd : q.dates.length = 5) (hsz : q.atoms.length <= 1000000000) :
  SPre Tryz.prog G 96 [.ptr 2 0, yri op n u den ps [l, r]] (NS c vers q) (fun v H' => v = .tup [.imm (cmpOf q op [l, r]).1.d, sB (cmpOf q op [l, r]).2.1] /\ H' = NS c vers (cmpOf q op [l, r]).2.2) := by
 refine wk Tryz.func96 rfl (by rw [Tryz.ntmps96]; simp) rfl (zao hq.rng) ?_
 intro E hH hK
 rw [show yri op n u den ps [l, r] = .agg [.imm (dI op), .imm (dI n), .imm (dS u), .imm (dI den), .imm (.isl 3 (ps.map Piece.cells)), ybf [l, r]] by simp [yri, zp, ybf]]
 have hks : ∀ k ∈ [l, r], KidOK k := by simp; exact ⟨hl, hr⟩
 generalize hkl : [l, r] = ks at hks hK ⊢
 have hkn : ks.length = 2 := by rw [<- hkl]; rfl
 have hml : (ks.map Ex.cells).length = ks.length := by simp
 have hfin : ∀ (v : SV) (q' : Sr) (X : List SObj), v.under 17 = true -> CandsOK q'.cands -> v = .tup [.imm (cmpOf q op ks).1.d, sB (cmpOf q op ks).2.1] -> q' = (cmpOf q op ks).2.2 -> E.K v (NS c vers q' ++ X) := by
  intro v q' X h1 h2 h3 h4
  have ht : (NS c vers q' ++ X).take (NS c vers q).length = NS c vers q' := by
   rw [show (NS c vers q).length = (NS c vers q').length from rfl, List.take_append_of_le_length (Nat.le_refl _), List.take_length]
  refine hK v _ (by rw [List.length_append]; exact Nat.le_add_right _ _) h1 (by rw [ht]; exact zao h2.rng) ⟨h3, ?_⟩
  rw [ht, h4]
 clear hK
 (refine zh ?_; conv => whnf)
 refine zf [0, 3, 4, 5, 6, 17, 18, 19] ?_
 refine zt ks (fun i (s : List Bool × Int) => [(0, .ptr 2 0), (3, .ptr 17 0), (4, .imm (.val .nilIface)), (5, sB false), (6, sI s.2), (17, ybf ks), (18, sI (ks.map Ex.cells).length), (19, sI i)])
  (fun _ s => NS c vers { q with dates := s.1 } ++ [.cells [.imm (dI op), .imm (dI n), .imm (dS u), .imm (dI den), .imm (.isl 3 (ps.map Piece.cells)), ybf ks]])
  (fun done rest s => s.1.length = 5 /\ 0 <= s.2 /\ s.2 <= done.length /\ xg ks q 0 = xg rest { q with dates := s.1 } s.2) (q.dates, 0) ⟨hd, by simp, by simp, rfl⟩ ?_ ?_
 ·rintro ⟨ds, m⟩ ⟨g1, g2, g3, g4⟩
  simp only [xg] at g4
  dsimp only at g1 g2 g3
  subst hkl
  have g5 : cmpOf q op [l, r] = if m = 0 then (.none, false, { q with dates := ds }) else (.cmp op ⟨l.op, l.n⟩ ⟨r.op, r.n⟩, true, if l.op = 4 \/ r.op = 4 then { cmpCand (cmpCand { q with dates := ds } l r) r l with atoms := (cmpCand (cmpCand { q with dates := ds } l r) r l).atoms ++ [.cmp op ⟨l.op, l.n⟩ ⟨r.op, r.n⟩] } else cmpCand (cmpCand { q with dates := ds } l r) r l) := by
   unfold cmpOf
   rw [g4]
  clear g4
  (refine zh ?_; conv => whnf)
  repeat' ((with_reducible refine way ?_ ?_) <;> (intro h; conv => whnf))
  all_goals try (exfalso; omega)
  ·rw [if_pos (by omega)] at g5
   exact hfin _ { q with dates := ds } [_] rfl hq (by rw [g5]; rfl) (by rw [g5])
  ·rw [if_neg (by omega)] at g5
   generalize hq1 : ({ q with dates := ds } : Sr) = q1 at g5
   have hc1 : CandsOK q1.cands := by rw [<- hq1]; exact hq
   have ha1 : q1.atoms.length <= 1000000000 := by rw [<- hq1]; exact hsz
   refine Eq.mpr (congrArg (fun h => SW E _ _ h) (show _ = NS c vers q1 ++ [.cells [.imm (dI op), .imm (dI n), .imm (dS u), .imm (dI den), .imm (.isl 3 (ps.map Piece.cells)), ybf [l, r]]] by rw [<- hq1])) ?_
   clear hq1 hq hsz hd h g1 g2 g3
   obtain ⟨lo, ln, lu, ld, lp, lk⟩ := l
   obtain ⟨ro, rn, ru, rd, rp, rk⟩ := r
   refine zf [0, 3, 4, 5] ?_
   change SW E _ [(0, .ptr 2 0), (3, .ptr 17 0), (4, .imm (.val .nilIface)), (5, sB false)] _
   clear hml hkn hks
   (refine ya 2 mixed rfl ?_; refine zc [777] (nx := 18) ?_; conv => whnf)
   refine yc rfl (by simp [yi]) rfl (row := (Ex.mk lo ln lu ld lp lk).cells) rfl ?_
   (refine zc [777] (nx := 18) ?_; conv => whnf)
   refine yc rfl (by simp [yi]) rfl (row := (Ex.mk ro rn ru rd rp rk).cells) rfl ?_
   (refine zc [777] (nx := 18) ?_; conv => whnf)
   refine zf [0, 3, 4, 5, 9, 10] ?_
   change SW E _ [(0, .ptr 2 0), (3, .ptr 17 0), (4, .imm (.val .nilIface)), (5, sB false), (9, .ptr 18 0), (10, .ptr 19 0)] _
   refine Eq.mpr (congrArg (fun h => SW E _ _ h) (show _ = NS c vers q1 ++ [zba op n u den ps [Ex.mk lo ln lu ld lp lk, Ex.mk ro rn ru rd rp rk], zba lo ln lu ld lp lk, zba ro rn ru rd rp rk] from rfl)) ?_
   (refine zh ?_; conv => whnf)
   refine zf [0, 3, 4, 5, 9, 10, 56, 57] ?_
   generalize hq9 : cmpCand (cmpCand q1 (Ex.mk lo ln lu ld lp lk) (Ex.mk ro rn ru rd rp rk)) (Ex.mk ro rn ru rd rp rk) (Ex.mk lo ln lu ld lp lk) = q9 at g5
   refine zt [(Ex.mk lo ln lu ld lp lk, Ex.mk ro rn ru rd rp rk), (Ex.mk ro rn ru rd rp rk, Ex.mk lo ln lu ld lp lk)] (fun i (_ : Sr) => [(0, .ptr 2 0), (3, .ptr 17 0), (4, .imm (.val .nilIface)), (5, sB false), (9, .ptr 18 0), (10, .ptr 19 0), (56, .agg [.imm (dI lo), .imm (dI ln), .imm (dS lu), .imm (dI ld), .imm (.isl 3 (lp.map Piece.cells)), .imm (.isl 6 (zb lk)), .imm (dI ro), .imm (dI rn), .imm (dS ru), .imm (dI rd), .imm (.isl 3 (rp.map Piece.cells)), .imm (.isl 6 (zb rk)), .imm (dI ro), .imm (dI rn), .imm (dS ru), .imm (dI rd), .imm (.isl 3 (rp.map Piece.cells)), .imm (.isl 6 (zb rk)), .imm (dI lo), .imm (dI ln), .imm (dS lu), .imm (dI ld), .imm (.isl 3 (lp.map Piece.cells)), .imm (.isl 6 (zb lk))]), (57, sI i)])
    (fun _ q2 => NS c vers q2 ++ [zba op n u den ps [Ex.mk lo ln lu ld lp lk, Ex.mk ro rn ru rd rp rk], zba lo ln lu ld lp lk, zba ro rn ru rd rp rk]) (fun done rest q2 => CandsOK q2.cands /\ q2.atoms = q1.atoms /\ rest.foldl (fun s p => cmpCand s p.1 p.2) q2 = q9) q1 ⟨hc1, rfl, hq9⟩ ?_ ?_
   ·rintro q2 ⟨k1, k2, k3⟩
    simp only [List.foldl_nil] at k3
    subst k3
    change SW E _ [(0, .ptr 2 0), (3, .ptr 17 0), (4, .imm (.val .nilIface)), (5, sB false), (9, .ptr 18 0), (10, .ptr 19 0), (56, .agg [.imm (dI lo), .imm (dI ln), .imm (dS lu), .imm (dI ld), .imm (.isl 3 (lp.map Piece.cells)), .imm (.isl 6 (zb lk)), .imm (dI ro), .imm (dI rn), .imm (dS ru), .imm (dI rd), .imm (.isl 3 (rp.map Piece.cells)), .imm (.isl 6 (zb rk)), .imm (dI ro), .imm (dI rn), .imm (dS ru), .imm (dI rd), .imm (.isl 3 (rp.map Piece.cells)), .imm (.isl 6 (zb rk)), .imm (dI lo), .imm (dI ln), .imm (dS lu), .imm (dI ld), .imm (.isl 3 (lp.map Piece.cells)), .imm (.isl 6 (zb lk))]), (57, sI 2)] _
    (refine zh ?_; conv => whnf)
    repeat' ((with_reducible refine way ?_ ?_) <;> (intro h; conv => whnf))
    ·refine zf [0, 15] ?_
     change SW E _ [(0, .ptr 2 0), (15, .ptr 20 0)] _
     refine Eq.mpr (congrArg (fun h => SW E _ _ h) (show _ = NS c vers q2 ++ [zba op n u den ps [Ex.mk lo ln lu ld lp lk, Ex.mk ro rn ru rd rp rk], zba lo ln lu ld lp lk, zba ro rn ru rd rp rk, .cells [sI op, sI lo, sI ln, sI ro, sI rn]] from rfl)) ?_
     (refine ya 0 mixed rfl ?_; refine zc [777, 999] (nx := 21) ?_; conv => whnf)
     refine zfe (b := 16) (kk := 5) (rows := q2.atoms.map Cond.row) (new := [[iv op, iv lo, iv ln, iv ro, iv rn]]) rfl rfl rfl rfl rfl rfl rfl rfl rfl rfl ⟨by decide, rfl⟩ (by simp [yi]) (by show some (SObj.tok 5 q2.atoms.length) = _; rw [List.length_map]) (by simp; rw [k2]; omega) ?_
     rw [show q2.atoms.map Cond.row ++ [[iv op, iv lo, iv ln, iv ro, iv rn]] = (q2.atoms ++ [(.cmp op ⟨lo, ln⟩ ⟨ro, rn⟩ : Cond)]).map Cond.row by rw [List.map_append]; rfl]
     rw [show ((q2.atoms ++ [(.cmp op ⟨lo, ln⟩ ⟨ro, rn⟩ : Cond)]).map Cond.row).length = (q2.atoms ++ [(.cmp op ⟨lo, ln⟩ ⟨ro, rn⟩ : Cond)]).length from List.length_map _]
     (refine zc [777] (nx := 21) ?_; conv => whnf)
     (refine zh ?_; conv => whnf)
     refine zcw (d := .agg [iv op, iv lo, iv ln, iv ro, iv rn]) rfl rfl rfl rfl rfl ?_
     (refine za ?_; conv => whnf)
     have hif : (Ex.mk lo ln lu ld lp lk).op = 4 \/ (Ex.mk ro rn ru rd rp rk).op = 4 := by first | exact .inl (by assumption) | exact .inr (by assumption)
     exact hfin _ { q2 with atoms := q2.atoms ++ [(.cmp op ⟨lo, ln⟩ ⟨ro, rn⟩ : Cond)] } [_, _, _, _] rfl k1 (by rw [g5]; rfl) (by rw [g5]; exact (if_pos hif).symm)
    ·refine zcw (d := .agg [iv op, iv lo, iv ln, iv ro, iv rn]) rfl rfl rfl rfl rfl ?_
     (refine za ?_; conv => whnf)
     exact hfin _ q2 [_, _, _, _] rfl k1 (by rw [g5]; rfl) (by rw [g5]; exact (if_neg (by rintro (h | h) <;> contradiction)).symm)
    ·refine zf [0, 15] ?_
     change SW E _ [(0, .ptr 2 0), (15, .ptr 20 0)] _
     refine Eq.mpr (congrArg (fun h => SW E _ _ h) (show _ = NS c vers q2 ++ [zba op n u den ps [Ex.mk lo ln lu ld lp lk, Ex.mk ro rn ru rd rp rk], zba lo ln lu ld lp lk, zba ro rn ru rd rp rk, .cells [sI op, sI lo, sI ln, sI ro, sI rn]] from rfl)) ?_
     (refine ya 0 mixed rfl ?_; refine zc [777, 999] (nx := 21) ?_; conv => whnf)
     refine zfe (b := 16) (kk := 5) (rows := q2.atoms.map Cond.row) (new := [[iv op, iv lo, iv ln, iv ro, iv rn]]) rfl rfl rfl rfl rfl rfl rfl rfl rfl rfl ⟨by decide, rfl⟩ (by simp [yi]) (by show some (SObj.tok 5 q2.atoms.length) = _; rw [List.length_map]) (by simp; rw [k2]; omega) ?_
     rw [show q2.atoms.map Cond.row ++ [[iv op, iv lo, iv ln, iv ro, iv rn]] = (q2.atoms ++ [(.cmp op ⟨lo, ln⟩ ⟨ro, rn⟩ : Cond)]).map Cond.row by rw [List.map_append]; rfl]
     rw [show ((q2.atoms ++ [(.cmp op ⟨lo, ln⟩ ⟨ro, rn⟩ : Cond)]).map Cond.row).length = (q2.atoms ++ [(.cmp op ⟨lo, ln⟩ ⟨ro, rn⟩ : Cond)]).length from List.length_map _]
     (refine zc [777] (nx := 21) ?_; conv => whnf)
     (refine zh ?_; conv => whnf)
     refine zcw (d := .agg [iv op, iv lo, iv ln, iv ro, iv rn]) rfl rfl rfl rfl rfl ?_
     (refine za ?_; conv => whnf)
     have hif : (Ex.mk lo ln lu ld lp lk).op = 4 \/ (Ex.mk ro rn ru rd rp rk).op = 4 := by first | exact .inl (by assumption) | exact .inr (by assumption)
     exact hfin _ { q2 with atoms := q2.atoms ++ [(.cmp op ⟨lo, ln⟩ ⟨ro, rn⟩ : Cond)] } [_, _, _, _] rfl k1 (by rw [g5]; rfl) (by rw [g5]; exact (if_pos hif).symm)
   ·rintro done x rest q2 ha hlen ⟨k1, k2, k3⟩ ih
    have h2c : (done = [] /\ x = (Ex.mk lo ln lu ld lp lk, Ex.mk ro rn ru rd rp rk) /\ rest = [(Ex.mk ro rn ru rd rp rk, Ex.mk lo ln lu ld lp lk)]) \/ (done = [(Ex.mk lo ln lu ld lp lk, Ex.mk ro rn ru rd rp rk)] /\ x = (Ex.mk ro rn ru rd rp rk, Ex.mk lo ln lu ld lp lk) /\ rest = []) := by
     match done, ha with
     | [], ha => simp only [List.nil_append, List.cons.injEq] at ha; exact .inl ⟨rfl, ha.1.symm, ha.2.symm⟩
     | [y], ha => simp only [List.cons_append, List.nil_append, List.cons.injEq] at ha; exact .inr ⟨by rw [ha.1], ha.2.1.symm, ha.2.2.symm⟩
     | y :: z :: t, ha => simp at ha
    have hw0 : IntKind.i64.wrap (0 + 1) = 1 := zoz (by decide) (by decide)
    have hw1 : IntKind.i64.wrap (1 + 1) = 2 := zoz (by decide) (by decide)
    rcases h2c with ⟨rfl, rfl, rfl⟩ | ⟨rfl, rfl, rfl⟩
    ·change SW E _ [(0, .ptr 2 0), (3, .ptr 17 0), (4, .imm (.val .nilIface)), (5, sB false), (9, .ptr 18 0), (10, .ptr 19 0), (56, .agg [.imm (dI lo), .imm (dI ln), .imm (dS lu), .imm (dI ld), .imm (.isl 3 (lp.map Piece.cells)), .imm (.isl 6 (zb lk)), .imm (dI ro), .imm (dI rn), .imm (dS ru), .imm (dI rd), .imm (.isl 3 (rp.map Piece.cells)), .imm (.isl 6 (zb rk)), .imm (dI ro), .imm (dI rn), .imm (dS ru), .imm (dI rd), .imm (.isl 3 (rp.map Piece.cells)), .imm (.isl 6 (zb rk)), .imm (dI lo), .imm (dI ln), .imm (dS lu), .imm (dI ld), .imm (.isl 3 (lp.map Piece.cells)), .imm (.isl 6 (zb lk))]), (57, sI 0)] _
     change ∀ q3 : Sr, _ -> SW E _ [(0, .ptr 2 0), (3, .ptr 17 0), (4, .imm (.val .nilIface)), (5, sB false), (9, .ptr 18 0), (10, .ptr 19 0), (56, .agg [.imm (dI lo), .imm (dI ln), .imm (dS lu), .imm (dI ld), .imm (.isl 3 (lp.map Piece.cells)), .imm (.isl 6 (zb lk)), .imm (dI ro), .imm (dI rn), .imm (dS ru), .imm (dI rd), .imm (.isl 3 (rp.map Piece.cells)), .imm (.isl 6 (zb rk)), .imm (dI ro), .imm (dI rn), .imm (dS ru), .imm (dI rd), .imm (.isl 3 (rp.map Piece.cells)), .imm (.isl 6 (zb rk)), .imm (dI lo), .imm (dI ln), .imm (dS lu), .imm (dI ld), .imm (.isl 3 (lp.map Piece.cells)), .imm (.isl 6 (zb lk))]), (57, sI 1)] _ at ih
     have hf : KidOK (Ex.mk lo ln lu ld lp lk) := hl
     have hg : KidOK (Ex.mk ro rn ru rd rp rk) := hr
     obtain ⟨hf1, _, hf3, hf4⟩ := hf
     obtain ⟨_, _, hg3, hg4⟩ := hg
     simp only [Ex.n, Ex.op] at hf1 hf3 hf4 hg3 hg4
     (refine zh ?_; conv => whnf)
     (refine ya 2 mixed rfl ?_; refine zc [777] (nx := 21) ?_; conv => whnf)
     refine Eq.mpr (congrArg (fun h => SW E _ _ h) (show _ = NS c vers q2 ++ [zba op n u den ps [Ex.mk lo ln lu ld lp lk, Ex.mk ro rn ru rd rp rk], zba lo ln lu ld lp lk, zba ro rn ru rd rp rk, .cells [.imm (dI lo), .imm (dI ln), .imm (dS lu), .imm (dI ld), .imm (.isl 3 (lp.map Piece.cells)), .imm (.isl 6 (zb lk)), .imm (dI ro), .imm (dI rn), .imm (dS ru), .imm (dI rd), .imm (.isl 3 (rp.map Piece.cells)), .imm (.isl 6 (zb rk))], zba lo ln lu ld lp lk, zba ro rn ru rd rp rk] from rfl)) ?_
     refine zf [0, 3, 4, 5, 9, 10, 13, 14, 56, 57] ?_
     change SW E _ [(0, .ptr 2 0), (3, .ptr 17 0), (4, .imm (.val .nilIface)), (5, sB false), (9, .ptr 18 0), (10, .ptr 19 0), (13, .ptr 21 0), (14, .ptr 22 0), (56, .agg [.imm (dI lo), .imm (dI ln), .imm (dS lu), .imm (dI ld), .imm (.isl 3 (lp.map Piece.cells)), .imm (.isl 6 (zb lk)), .imm (dI ro), .imm (dI rn), .imm (dS ru), .imm (dI rd), .imm (.isl 3 (rp.map Piece.cells)), .imm (.isl 6 (zb rk)), .imm (dI ro), .imm (dI rn), .imm (dS ru), .imm (dI rd), .imm (.isl 3 (rp.map Piece.cells)), .imm (.isl 6 (zb rk)), .imm (dI lo), .imm (dI ln), .imm (dS lu), .imm (dI ld), .imm (.isl 3 (lp.map Piece.cells)), .imm (.isl 6 (zb lk))]), (57, sI 0)] _
     (refine zh ?_; conv => whnf)
     repeat' ((with_reducible refine way ?_ ?_) <;> (intro h; conv => whnf))
     ·rw [hw0]
      refine yr [0, 3, 4, 5, 9, 10, 56, 57] 20 (by rw [hH]; exact (by decide : 17 <= 20)) (by exact (by decide : 20 <= 23)) rfl (qy (m := 20) k1 (by decide) (X := [zba op n u den ps [Ex.mk lo ln lu ld lp lk, Ex.mk ro rn ru rd rp rk], zba lo ln lu ld lp lk, zba ro rn ru rd rp rk]) rfl) (ih q2 ⟨k1, k2, ?_⟩)
      have hs : cmpCand q2 (Ex.mk lo ln lu ld lp lk) (Ex.mk ro rn ru rd rp rk) = q2 := if_pos (show (Ex.mk lo ln lu ld lp lk).op ≠ 2 from by assumption)
      rw [List.foldl_cons, hs] at k3
      exact k3
     ·have hr2 := hf1 (by assumption)
      refine ys 17 rfl rfl rfl rfl rfl rfl (zak G c vers q2 ln [0, 1] hr2 k1 (by decide)) ?_
      rintro r9 H9 ⟨rfl, rfl⟩ _
      refine Eq.mpr (congrArg (fun h => SWr E _ _ _ _ h) (show _ = NS c vers (q2.cand ln [0, 1]) ++ [zba op n u den ps [Ex.mk lo ln lu ld lp lk, Ex.mk ro rn ru rd rp rk], zba lo ln lu ld lp lk, zba ro rn ru rd rp rk, .cells [.imm (dI lo), .imm (dI ln), .imm (dS lu), .imm (dI ld), .imm (.isl 3 (lp.map Piece.cells)), .imm (.isl 6 (zb lk)), .imm (dI ro), .imm (dI rn), .imm (dS ru), .imm (dI rd), .imm (.isl 3 (rp.map Piece.cells)), .imm (.isl 6 (zb rk))], zba lo ln lu ld lp lk, zba ro rn ru rd rp rk] from rfl)) ?_
      (refine za ?_; conv => whnf)
      rw [hw0]
      refine yr [0, 3, 4, 5, 9, 10, 56, 57] 20 (by rw [hH]; exact (by decide : 17 <= 20)) (by exact (by decide : 20 <= 23)) rfl (qy (q := q2.cand ln [0, 1]) (m := 20) (k1.ains hr2 _) (by decide) (X := [zba op n u den ps [Ex.mk lo ln lu ld lp lk, Ex.mk ro rn ru rd rp rk], zba lo ln lu ld lp lk, zba ro rn ru rd rp rk]) rfl) (ih (q2.cand ln [0, 1]) ⟨k1.ains hr2 _, k2, ?_⟩)
      have h2 : (Ex.mk lo ln lu ld lp lk).op = 2 := by assumption
      have h3 : (Ex.mk lo ln lu ld lp lk).unit = tT := by assumption
      have hs : cmpCand q2 (Ex.mk lo ln lu ld lp lk) (Ex.mk ro rn ru rd rp rk) = q2.cand ln [0, 1] := (if_neg (not_not_intro h2)).trans (if_pos h3)
      rw [List.foldl_cons, hs] at k3
      exact k3
     ·have hr2 := hf1 (by assumption)
      have hwg : IntKind.i64.wrap (rn + 1) = rn + 1 := zoz (by omega) (by omega)
      rw [hwg]
      refine ys 17 rfl rfl rfl rfl rfl rfl (zak G c vers q2 ln [0, rn, rn + 1] hr2 k1 (by exact (by decide : 3 <= 1000))) ?_
      rintro r9 H9 ⟨rfl, rfl⟩ _
      refine Eq.mpr (congrArg (fun h => SWr E _ _ _ _ h) (show _ = NS c vers (q2.cand ln [0, rn, rn + 1]) ++ [zba op n u den ps [Ex.mk lo ln lu ld lp lk, Ex.mk ro rn ru rd rp rk], zba lo ln lu ld lp lk, zba ro rn ru rd rp rk, .cells [.imm (dI lo), .imm (dI ln), .imm (dS lu), .imm (dI ld), .imm (.isl 3 (lp.map Piece.cells)), .imm (.isl 6 (zb lk)), .imm (dI ro), .imm (dI rn), .imm (dS ru), .imm (dI rd), .imm (.isl 3 (rp.map Piece.cells)), .imm (.isl 6 (zb rk))], zba lo ln lu ld lp lk, zba ro rn ru rd rp rk] from rfl)) ?_
      (refine za ?_; conv => whnf)
      rw [hw0]
      refine yr [0, 3, 4, 5, 9, 10, 56, 57] 20 (by rw [hH]; exact (by decide : 17 <= 20)) (by exact (by decide : 20 <= 23)) rfl (qy (q := q2.cand ln [0, rn, rn + 1]) (m := 20) (k1.ains hr2 _) (by decide) (X := [zba op n u den ps [Ex.mk lo ln lu ld lp lk, Ex.mk ro rn ru rd rp rk], zba lo ln lu ld lp lk, zba ro rn ru rd rp rk]) rfl) (ih (q2.cand ln [0, rn, rn + 1]) ⟨k1.ains hr2 _, k2, ?_⟩)
      have h2 : (Ex.mk lo ln lu ld lp lk).op = 2 := by assumption
      have h3 : ¬(Ex.mk lo ln lu ld lp lk).unit = tT := by assumption
      have hs : cmpCand q2 (Ex.mk lo ln lu ld lp lk) (Ex.mk ro rn ru rd rp rk) = q2.cand ln [0, rn, rn + 1] := (if_neg (not_not_intro h2)).trans (if_neg h3)
      rw [List.foldl_cons, hs] at k3
      exact k3
    ·change SW E _ [(0, .ptr 2 0), (3, .ptr 17 0), (4, .imm (.val .nilIface)), (5, sB false), (9, .ptr 18 0), (10, .ptr 19 0), (56, .agg [.imm (dI lo), .imm (dI ln), .imm (dS lu), .imm (dI ld), .imm (.isl 3 (lp.map Piece.cells)), .imm (.isl 6 (zb lk)), .imm (dI ro), .imm (dI rn), .imm (dS ru), .imm (dI rd), .imm (.isl 3 (rp.map Piece.cells)), .imm (.isl 6 (zb rk)), .imm (dI ro), .imm (dI rn), .imm (dS ru), .imm (dI rd), .imm (.isl 3 (rp.map Piece.cells)), .imm (.isl 6 (zb rk)), .imm (dI lo), .imm (dI ln), .imm (dS lu), .imm (dI ld), .imm (.isl 3 (lp.map Piece.cells)), .imm (.isl 6 (zb lk))]), (57, sI 1)] _
     change ∀ q3 : Sr, _ -> SW E _ [(0, .ptr 2 0), (3, .ptr 17 0), (4, .imm (.val .nilIface)), (5, sB false), (9, .ptr 18 0), (10, .ptr 19 0), (56, .agg [.imm (dI lo), .imm (dI ln), .imm (dS lu), .imm (dI ld), .imm (.isl 3 (lp.map Piece.cells)), .imm (.isl 6 (zb lk)), .imm (dI ro), .imm (dI rn), .imm (dS ru), .imm (dI rd), .imm (.isl 3 (rp.map Piece.cells)), .imm (.isl 6 (zb rk)), .imm (dI ro), .imm (dI rn), .imm (dS ru), .imm (dI rd), .imm (.isl 3 (rp.map Piece.cells)), .imm (.isl 6 (zb rk)), .imm (dI lo), .imm (dI ln), .imm (dS lu), .imm (dI ld), .imm (.isl 3 (lp.map Piece.cells)), .imm (.isl 6 (zb lk))]), (57, sI 2)] _ at ih
     have hf : KidOK (Ex.mk ro rn ru rd rp rk) := hr
     have hg : KidOK (Ex.mk lo ln lu ld lp lk) := hl
     obtain ⟨hf1, _, hf3, hf4⟩ := hf
     obtain ⟨_, _, hg3, hg4⟩ := hg
     simp only [Ex.n, Ex.op] at hf1 hf3 hf4 hg3 hg4
     (refine zh ?_; conv => whnf)
     (refine ya 2 mixed rfl ?_; refine zc [777] (nx := 21) ?_; conv => whnf)
     refine Eq.mpr (congrArg (fun h => SW E _ _ h) (show _ = NS c vers q2 ++ [zba op n u den ps [Ex.mk lo ln lu ld lp lk, Ex.mk ro rn ru rd rp rk], zba lo ln lu ld lp lk, zba ro rn ru rd rp rk, .cells [.imm (dI ro), .imm (dI rn), .imm (dS ru), .imm (dI rd), .imm (.isl 3 (rp.map Piece.cells)), .imm (.isl 6 (zb rk)), .imm (dI lo), .imm (dI ln), .imm (dS lu), .imm (dI ld), .imm (.isl 3 (lp.map Piece.cells)), .imm (.isl 6 (zb lk))], zba ro rn ru rd rp rk, zba lo ln lu ld lp lk] from rfl)) ?_
     refine zf [0, 3, 4, 5, 9, 10, 13, 14, 56, 57] ?_
     change SW E _ [(0, .ptr 2 0), (3, .ptr 17 0), (4, .imm (.val .nilIface)), (5, sB false), (9, .ptr 18 0), (10, .ptr 19 0), (13, .ptr 21 0), (14, .ptr 22 0), (56, .agg [.imm (dI lo), .imm (dI ln), .imm (dS lu), .imm (dI ld), .imm (.isl 3 (lp.map Piece.cells)), .imm (.isl 6 (zb lk)), .imm (dI ro), .imm (dI rn), .imm (dS ru), .imm (dI rd), .imm (.isl 3 (rp.map Piece.cells)), .imm (.isl 6 (zb rk)), .imm (dI ro), .imm (dI rn), .imm (dS ru), .imm (dI rd), .imm (.isl 3 (rp.map Piece.cells)), .imm (.isl 6 (zb rk)), .imm (dI lo), .imm (dI ln), .imm (dS lu), .imm (dI ld), .imm (.isl 3 (lp.map Piece.cells)), .imm (.isl 6 (zb lk))]), (57, sI 1)] _
     (refine zh ?_; conv => whnf)
     repeat' ((with_reducible refine way ?_ ?_) <;> (intro h; conv => whnf))
     ·rw [hw1]
      refine yr [0, 3, 4, 5, 9, 10, 56, 57] 20 (by rw [hH]; exact (by decide : 17 <= 20)) (by exact (by decide : 20 <= 23)) rfl (qy (m := 20) k1 (by decide) (X := [zba op n u den ps [Ex.mk lo ln lu ld lp lk, Ex.mk ro rn ru rd rp rk], zba lo ln lu ld lp lk, zba ro rn ru rd rp rk]) rfl) (ih q2 ⟨k1, k2, ?_⟩)
      have hs : cmpCand q2 (Ex.mk ro rn ru rd rp rk) (Ex.mk lo ln lu ld lp lk) = q2 := if_pos (show (Ex.mk ro rn ru rd rp rk).op ≠ 2 from by assumption)
      rw [List.foldl_cons, hs] at k3
      exact k3
     ·have hr2 := hf1 (by assumption)
      refine ys 17 rfl rfl rfl rfl rfl rfl (zak G c vers q2 rn [0, 1] hr2 k1 (by decide)) ?_
      rintro r9 H9 ⟨rfl, rfl⟩ _
      refine Eq.mpr (congrArg (fun h => SWr E _ _ _ _ h) (show _ = NS c vers (q2.cand rn [0, 1]) ++ [zba op n u den ps [Ex.mk lo ln lu ld lp lk, Ex.mk ro rn ru rd rp rk], zba lo ln lu ld lp lk, zba ro rn ru rd rp rk, .cells [.imm (dI ro), .imm (dI rn), .imm (dS ru), .imm (dI rd), .imm (.isl 3 (rp.map Piece.cells)), .imm (.isl 6 (zb rk)), .imm (dI lo), .imm (dI ln), .imm (dS lu), .imm (dI ld), .imm (.isl 3 (lp.map Piece.cells)), .imm (.isl 6 (zb lk))], zba ro rn ru rd rp rk, zba lo ln lu ld lp lk] from rfl)) ?_
      (refine za ?_; conv => whnf)
      rw [hw1]
      refine yr [0, 3, 4, 5, 9, 10, 56, 57] 20 (by rw [hH]; exact (by decide : 17 <= 20)) (by exact (by decide : 20 <= 23)) rfl (qy (q := q2.cand rn [0, 1]) (m := 20) (k1.ains hr2 _) (by decide) (X := [zba op n u den ps [Ex.mk lo ln lu ld lp lk, Ex.mk ro rn ru rd rp rk], zba lo ln lu ld lp lk, zba ro rn ru rd rp rk]) rfl) (ih (q2.cand rn [0, 1]) ⟨k1.ains hr2 _, k2, ?_⟩)
      have h2 : (Ex.mk ro rn ru rd rp rk).op = 2 := by assumption
      have h3 : (Ex.mk ro rn ru rd rp rk).unit = tT := by assumption
      have hs : cmpCand q2 (Ex.mk ro rn ru rd rp rk) (Ex.mk lo ln lu ld lp lk) = q2.cand rn [0, 1] := (if_neg (not_not_intro h2)).trans (if_pos h3)
      rw [List.foldl_cons, hs] at k3
      exact k3
     ·have hr2 := hf1 (by assumption)
      have hwg : IntKind.i64.wrap (ln + 1) = ln + 1 := zoz (by omega) (by omega)
      rw [hwg]
      refine ys 17 rfl rfl rfl rfl rfl rfl (zak G c vers q2 rn [0, ln, ln + 1] hr2 k1 (by exact (by decide : 3 <= 1000))) ?_
      rintro r9 H9 ⟨rfl, rfl⟩ _
      refine Eq.mpr (congrArg (fun h => SWr E _ _ _ _ h) (show _ = NS c vers (q2.cand rn [0, ln, ln + 1]) ++ [zba op n u den ps [Ex.mk lo ln lu ld lp lk, Ex.mk ro rn ru rd rp rk], zba lo ln lu ld lp lk, zba ro rn ru rd rp rk, .cells [.imm (dI ro), .imm (dI rn), .imm (dS ru), .imm (dI rd), .imm (.isl 3 (rp.map Piece.cells)), .imm (.isl 6 (zb rk)), .imm (dI lo), .imm (dI ln), .imm (dS lu), .imm (dI ld), .imm (.isl 3 (lp.map Piece.cells)), .imm (.isl 6 (zb lk))], zba ro rn ru rd rp rk, zba lo ln lu ld lp lk] from rfl)) ?_
      (refine za ?_; conv => whnf)
      rw [hw1]
      refine yr [0, 3, 4, 5, 9, 10, 56, 57] 20 (by rw [hH]; exact (by decide : 17 <= 20)) (by exact (by decide : 20 <= 23)) rfl (qy (q := q2.cand rn [0, ln, ln + 1]) (m := 20) (k1.ains hr2 _) (by decide) (X := [zba op n u den ps [Ex.mk lo ln lu ld lp lk, Ex.mk ro rn ru rd rp rk], zba lo ln lu ld lp lk, zba ro rn ru rd rp rk]) rfl) (ih (q2.cand rn [0, ln, ln + 1]) ⟨k1.ains hr2 _, k2, ?_⟩)
      have h2 : (Ex.mk ro rn ru rd rp rk).op = 2 := by assumption
      have h3 : ¬(Ex.mk ro rn ru rd rp rk).unit = tT := by assumption
      have hs : cmpCand q2 (Ex.mk ro rn ru rd rp rk) (Ex.mk lo ln lu ld lp lk) = q2.cand rn [0, ln, ln + 1] := (if_neg (not_not_intro h2)).trans (if_neg h3)
      rw [List.foldl_cons, hs] at k3
      exact k3
 ·rintro done x rest ⟨ds, m⟩ ha hlen ⟨g1, g2, g3, g4⟩ ih
  have hw := zm (n := done.length) (by omega)
  have hrow : (ks.map Ex.cells)[((done.length : Nat) : Int).toNat]? = some x.cells := by simp [ha]
  have hx := hks x (by rw [ha]; simp)
  obtain ⟨xo, xn, xu, xd, xp, xk⟩ := x
  obtain ⟨d0, d1, d2, d3, d4, rfl⟩ : ∃ d0 d1 d2 d3 d4, ds = [d0, d1, d2, d3, d4] := by
   match ds, g1 with
   | [d0, d1, d2, d3, d4], _ => exact ⟨d0, d1, d2, d3, d4, rfl⟩
  simp only [Ex.cells] at hrow
  dsimp only at g1 g2 g3
  have hw2 : IntKind.i64.wrap (m + 1) = m + 1 := by rw [show m + 1 = ((m.toNat : Nat) : Int) + 1 by omega, zm (by omega)]; omega
  rw [ylb] at g4
  (refine zh ?_; conv => whnf)
  repeat' ((with_reducible refine way ?_ ?_) <;> (intro h; conv => whnf))
  all_goals try (exfalso; omega)
  refine zg rfl rfl  hrow ?_
  (refine za ?_; conv => whnf)
  repeat' ((with_reducible refine way ?_ ?_) <;> (intro h; conv => whnf))
  ·rw [if_pos (show xo = 1 by assumption)] at g4
   rw [hw, hw2]
   exact yr [0, 3, 4, 5, 6, 17, 18, 19] 18 (by rw [hH]; exact (by decide : 17 <= 18)) (by exact (by decide : 18 <= 19)) rfl (qy (q := { q with dates := [d0, d1, d2, d3, d4] }) (m := 18) hq (by decide) (X := [_]) rfl)
    (ih ([d0, d1, d2, d3, d4], m + 1) ⟨rfl, by simp; omega, by simp; omega, g4⟩)
  ·rw [if_neg (show ¬xo = 1 by assumption), if_pos (show xo = 4 by assumption)] at g4
   obtain ⟨hx0, hx4⟩ := hx.date (by assumption)
   simp only [Ex.n] at hx0 hx4
   have h5 : xn = 0 \/ xn = 1 \/ xn = 2 \/ xn = 3 \/ xn = 4 := by omega
   rcases h5 with rfl | rfl | rfl | rfl | rfl <;> (refine ya 0 mixed rfl ?_; refine zc [777] (nx := 19) ?_; conv => whnf) <;> ((refine zh ?_; conv => whnf)) <;> rw [hw]
   ·exact yr [0, 3, 4, 5, 6, 17, 18, 19] 18 (by rw [hH]; exact (by decide : 17 <= 18)) (by exact (by decide : 18 <= 19)) rfl (qy (q := { q with dates := [true, d1, d2, d3, d4] }) (m := 18) hq (by decide) (X := [_]) rfl)
     (ih ([true, d1, d2, d3, d4], m) ⟨rfl, g2, by simp; omega, g4⟩)
   ·exact yr [0, 3, 4, 5, 6, 17, 18, 19] 18 (by rw [hH]; exact (by decide : 17 <= 18)) (by exact (by decide : 18 <= 19)) rfl (qy (q := { q with dates := [d0, true, d2, d3, d4] }) (m := 18) hq (by decide) (X := [_]) rfl)
     (ih ([d0, true, d2, d3, d4], m) ⟨rfl, g2, by simp; omega, g4⟩)
   ·exact yr [0, 3, 4, 5, 6, 17, 18, 19] 18 (by rw [hH]; exact (by decide : 17 <= 18)) (by exact (by decide : 18 <= 19)) rfl (qy (q := { q with dates := [d0, d1, true, d3, d4] }) (m := 18) hq (by decide) (X := [_]) rfl)
     (ih ([d0, d1, true, d3, d4], m) ⟨rfl, g2, by simp; omega, g4⟩)
   ·exact yr [0, 3, 4, 5, 6, 17, 18, 19] 18 (by rw [hH]; exact (by decide : 17 <= 18)) (by exact (by decide : 18 <= 19)) rfl (qy (q := { q with dates := [d0, d1, d2, true, d4] }) (m := 18) hq (by decide) (X := [_]) rfl)
     (ih ([d0, d1, d2, true, d4], m) ⟨rfl, g2, by simp; omega, g4⟩)
   ·exact yr [0, 3, 4, 5, 6, 17, 18, 19] 18 (by rw [hH]; exact (by decide : 17 <= 18)) (by exact (by decide : 18 <= 19)) rfl (qy (q := { q with dates := [d0, d1, d2, d3, true] }) (m := 18) hq (by decide) (X := [_]) rfl)
     (ih ([d0, d1, d2, d3, true], m) ⟨rfl, g2, by simp; omega, g4⟩)
  ·rw [if_neg (show ¬xo = 1 by assumption), if_neg (show ¬xo = 4 by assumption), if_pos (show xo = 2 by assumption)] at g4
   rw [hw]
   exact yr [0, 3, 4, 5, 6, 17, 18, 19] 18 (by rw [hH]; exact (by decide : 17 <= 18)) (by exact (by decide : 18 <= 19)) rfl (qy (q := { q with dates := [d0, d1, d2, d3, d4] }) (m := 18) hq (by decide) (X := [_]) rfl)
    (ih ([d0, d1, d2, d3, d4], m) ⟨rfl, g2, by simp; omega, g4⟩)
  ·rw [if_neg (show ¬xo = 1 by assumption), if_neg (show ¬xo = 4 by assumption), if_neg (show ¬xo = 2 by assumption)] at g4
   have e : cmpOf q op ks = (.none, false, { q with dates := [d0, d1, d2, d3, d4] }) := by simp only [cmpOf, g4]
   exact hfin _ { q with dates := [d0, d1, d2, d3, d4] } [_, _] rfl hq (by rw [e]; rfl) (by rw [e])
def yec : Ex -> Prop
  | .mk op n _ _ _ ks => (op = 2 -> 0 <= n /\ n < 12) /\ (op = 8 \/ op = 9 \/ op = 10 -> ∃ l r, ks = [l, r] /\ KidOK l /\ KidOK r)
    /\ (if op = 5 then match ks with
        | k :: r => r = [] /\ yec k
        | [] => False
      else if op = 6 \/ op = 7 then match ks with
        | k :: l :: r => r = [] /\ yec k /\ yec l
        | _ => False
      else True)
def zna : Ex -> Nat
 | .mk op _ _ _ _ ks => if op = 8 \/ op = 9 \/ op = 10 then 1 else match ks with
  | k :: l :: _ => zna k + zna l
  | [k] => zna k
  | [] => 0
structure SrK (q : Sr) : Prop where
 cands : CandsOK q.cands
 dates : q.dates.length = 5
theorem SrK.cand {q : Sr} (h : SrK q) {f : Int} (hf : 0 <= f /\ f < 12) (vs : List Int) : SrK (q.cand f vs) := ⟨h.cands.ains hf _, h.dates⟩
theorem SrK.date {q : Sr} (h : SrK q) (i : Int) : SrK (q.date i) := ⟨h.cands, by simp [Sr.date, h.dates]⟩
theorem ziu : ∀ (ks : List Ex) (q : Sr) (n : Int), SrK q -> SrK (xg ks q n).2.1 /\ (xg ks q n).2.1.atoms = q.atoms
 | [], q, n, h => ⟨h, rfl⟩
 | k :: r, q, n, h => by
  simp only [xg]
  split
  ·exact ziu r q (n + 1) h
  ·split
   ·exact ziu r (q.date k.n) n (h.date _)
   ·split
    ·exact ziu r q n h
    ·exact ⟨h, rfl⟩
theorem ztf {q : Sr} (h : SrK q) {f : Ex} (g : Ex) (hf : KidOK f) : SrK (cmpCand q f g) /\ (cmpCand q f g).atoms = q.atoms := by
 unfold cmpCand
 split
 ·exact ⟨h, rfl⟩
 ·rename_i h2
  have := hf.fact (by omega)
  split
  ·exact ⟨h.cand this _, rfl⟩
  ·exact ⟨h.cand this _, rfl⟩
theorem zlq {q : Sr} (h : SrK q) (op : Int) {l r : Ex} (hl : KidOK l) (hr : KidOK r) : SrK (cmpOf q op [l, r]).2.2 /\ (cmpOf q op [l, r]).2.2.atoms.length <= q.atoms.length + 1 := by
 have h1 := ziu [l, r] q 0 h
 unfold cmpOf
 generalize xg [l, r] q 0 = z at h1
 obtain ⟨b, s1, n⟩ := z
 simp only at h1
 obtain ⟨h1, ha⟩ := h1
 cases b with
 | false => exact ⟨h1, by simp [ha]⟩
 | true =>
  simp only
  split
  ·exact ⟨h1, by simp [ha]⟩
  ·have h2 := ztf h1 (f := l) r hl
   have h3 := ztf h2.1 (f := r) l hr
   split
   ·exact ⟨⟨h3.1.cands, h3.1.dates⟩, by simp [h3.2, h2.2, ha]⟩
   ·exact ⟨h3.1, by rw [h3.2, h2.2, ha]; omega⟩
theorem qe : ∀ (N : Nat) (e : Ex) (q : Sr), SizeOf.sizeOf e < N -> yec e -> SrK q -> SrK (simpleOf e q).2.2 /\ (simpleOf e q).2.2.atoms.length <= q.atoms.length + zna e
 | 0, _, _, h, _, _ => by omega
 | N + 1, .mk op n u den ps ks, q, hN, hf, hq => by
  unfold yec at hf
  obtain ⟨f1, f2, f3⟩ := hf
  unfold simpleOf zna
  by_cases h1 : op = 1
  ·rw [if_pos h1]
   exact ⟨hq, Nat.le_add_right _ _⟩
  rw [if_neg h1]
  by_cases h2 : op = 2
  ·rw [if_pos h2]
   exact ⟨hq.cand (f1 h2) _, Nat.le_add_right _ _⟩
  rw [if_neg h2]
  by_cases h3 : op = 8 \/ op = 9 \/ op = 10
  ·rw [if_pos h3, if_pos h3]
   obtain ⟨l, r, rfl, hl, hr⟩ := f2 h3
   exact zlq hq op hl hr
  rw [if_neg h3, if_neg h3]
  by_cases h4 : op = 5
  ·rw [if_pos h4] at f3 ⊢
   match ks, f3, hN with
   | [k], f3, hN =>
    simp only [Ex.mk.sizeOf_spec, List.cons.sizeOf_spec] at hN
    exact qe N k q (by omega) f3.2 hq
  rw [if_neg h4] at f3 ⊢
  by_cases h5 : op = 6 \/ op = 7
  ·rw [if_pos h5] at f3 ⊢
   match ks, f3, hN with
   | [k, l], f3, hN =>
    simp only [Ex.mk.sizeOf_spec, List.cons.sizeOf_spec] at hN
    have g1 := qe N k q (by omega) f3.2.1 hq
    have g2 := qe N l _ (by omega) f3.2.2 g1.1
    exact ⟨g2.1, by simp only; omega⟩
  rw [if_neg h5] at f3 ⊢
  exact ⟨hq, Nat.le_add_right _ _⟩
theorem zhx (op n : Int) (u : ByteArray) (den : Int) (ps : List Piece) (ks : List Ex) (s : Sr) : simpleOf (.mk op n u den ps ks) s =
  if op = 1 then (.plain ⟨1, n⟩, true, s)
  else if op = 2 then (.plain ⟨2, n⟩, true, s.cand n [0, 1])
  else if op = 8 \/ op = 9 \/ op = 10 then cmpOf s op ks
  else if op = 5 then match ks with
   | k :: _ => let r := simpleOf k s; (.neg r.1, r.2.1, r.2.2)
   | [] => (.none, false, s)
  else if op = 6 \/ op = 7 then match ks with
   | k :: l :: _ => let r := simpleOf k s; let q := simpleOf l r.2.2; (.conn (if op = 7 then 1 else 0) r.1 q.1, r.2.1 && q.2.1, q.2.2)
   | _ => (.none, false, s)
  else (.none, false, s) := by rw [simpleOf.eq_def]; rfl
theorem zlr (x : Cond) : x.d = .val .nilIface \/ ∃ t y, x.d = .iface t y := by
 cases x with
 | none => exact .inl rfl
 | _ => exact .inr ⟨_, _, rfl⟩
theorem zdp (c : Codex) (vers : List Int) : ∀ (N : Nat) (e : Ex) (q : Sr), SizeOf.sizeOf e < N -> yec e -> SrK q -> q.atoms.length + zna e <= 1000000000 ->
  SPre Tryz.prog G 66 [.ptr 2 0, .agg (e.cells.map SV.imm)] (NS c vers q) (fun v H' => v = .tup [.imm (simpleOf e q).1.d, sB (simpleOf e q).2.1] /\ H' = NS c vers (simpleOf e q).2.2)
 | 0, _, _, h, _, _, _ => by omega
 | N + 1, .mk op n u den ps ks, q, hN, hf, hq, hsz => by
  refine wk Tryz.func66 rfl (by rw [Tryz.ntmps66]; simp) rfl (zao hq.cands.rng) ?_
  intro E hH hK
  rw [show (Ex.mk op n u den ps ks).cells.map SV.imm = [.imm (dI op), .imm (dI n), .imm (dS u), .imm (dI den), .imm (.isl 3 (ps.map Piece.cells)), ybf ks] by simp [Ex.cells, zp, ybf]]
  have hfin : ∀ (v : SV) (q' : Sr) (X : List SObj), v.under 17 = true -> CandsOK q'.cands -> v = .tup [.imm (simpleOf (.mk op n u den ps ks) q).1.d, sB (simpleOf (.mk op n u den ps ks) q).2.1] -> q' = (simpleOf (.mk op n u den ps ks) q).2.2 -> E.K v (NS c vers q' ++ X) := by
   intro v q' X h1 h2 h3 h4
   have ht : (NS c vers q' ++ X).take (NS c vers q).length = NS c vers q' := by
    rw [show (NS c vers q).length = (NS c vers q').length from rfl, List.take_append_of_le_length (Nat.le_refl _), List.take_length]
   refine hK v _ (by rw [List.length_append]; exact Nat.le_add_right _ _) h1 (by rw [ht]; exact zao h2.rng) ⟨h3, ?_⟩
   rw [ht, h4]
  clear hK
  unfold yec at hf
  obtain ⟨f1, f2, f3⟩ := hf
  have hs := zhx op n u den ps ks q
  unfold zna at hsz
  (refine zh ?_; conv => whnf)
  repeat' ((with_reducible refine way ?_ ?_) <;> (intro h; conv => whnf))
  all_goals try (exfalso; omega)
  ·rw [if_pos (by assumption)] at hs
   refine zcw (d := .agg [iv 1, iv n]) rfl rfl rfl rfl rfl ?_
   (refine za ?_; conv => whnf)
   exact hfin _ q [_] rfl hq.cands (by rw [hs]; rfl) (by rw [hs])
  ·rw [if_neg (show ¬op = 1 by assumption), if_pos (show op = 2 by assumption)] at hs
   have hn := f1 (by assumption)
   refine ys 17 rfl rfl rfl rfl rfl rfl (zak G c vers q n [0, 1] hn hq.cands (by decide)) ?_
   rintro r9 H9 ⟨rfl, rfl⟩ _
   (refine za ?_; conv => whnf)
   refine zcw (d := .agg [iv 2, iv n]) rfl rfl rfl rfl rfl ?_
   (refine za ?_; conv => whnf)
   exact hfin _ (q.cand n [0, 1]) [_] rfl (hq.cands.ains hn _) (by rw [hs]; rfl) (by rw [hs])
  ·have ho : op = 8 \/ op = 9 \/ op = 10 := by omega
   obtain ⟨l, r, rfl, hl, hr⟩ := f2 ho
   rw [if_pos ho] at hsz
   rw [if_neg (show ¬op = 1 by omega), if_neg (show ¬op = 2 by omega), if_pos ho] at hs
   refine ys 17 rfl rfl rfl rfl rfl rfl (zea G c vers q op n u den ps l r hl hr hq.cands hq.dates (by omega)) ?_
   rintro r9 H9 ⟨rfl, rfl⟩ _
   have hkp := (zlq hq op hl hr).1
   generalize cmpOf q op [l, r] = z at hs hkp ⊢
   obtain ⟨cd, b, q'⟩ := z
   rcases zlr cd with hcd | ⟨t9, y9, hcd⟩ <;> simp only [hcd] <;> ((refine za ?_; conv => whnf)) <;>
    exact hfin _ q' [_] rfl hkp.cands (by rw [hs]; simp only [hcd]; rfl) (by rw [hs])
  ·have ho : op = 8 \/ op = 9 \/ op = 10 := by omega
   obtain ⟨l, r, rfl, hl, hr⟩ := f2 ho
   rw [if_pos ho] at hsz
   rw [if_neg (show ¬op = 1 by omega), if_neg (show ¬op = 2 by omega), if_pos ho] at hs
   refine ys 17 rfl rfl rfl rfl rfl rfl (zea G c vers q op n u den ps l r hl hr hq.cands hq.dates (by omega)) ?_
   rintro r9 H9 ⟨rfl, rfl⟩ _
   have hkp := (zlq hq op hl hr).1
   generalize cmpOf q op [l, r] = z at hs hkp ⊢
   obtain ⟨cd, b, q'⟩ := z
   rcases zlr cd with hcd | ⟨t9, y9, hcd⟩ <;> simp only [hcd] <;> ((refine za ?_; conv => whnf)) <;>
    exact hfin _ q' [_] rfl hkp.cands (by rw [hs]; simp only [hcd]; rfl) (by rw [hs])
  ·have ho : op = 8 \/ op = 9 \/ op = 10 := by omega
   obtain ⟨l, r, rfl, hl, hr⟩ := f2 ho
   rw [if_pos ho] at hsz
   rw [if_neg (show ¬op = 1 by omega), if_neg (show ¬op = 2 by omega), if_pos ho] at hs
   refine ys 17 rfl rfl rfl rfl rfl rfl (zea G c vers q op n u den ps l r hl hr hq.cands hq.dates (by omega)) ?_
   rintro r9 H9 ⟨rfl, rfl⟩ _
   have hkp := (zlq hq op hl hr).1
   generalize cmpOf q op [l, r] = z at hs hkp ⊢
   obtain ⟨cd, b, q'⟩ := z
   rcases zlr cd with hcd | ⟨t9, y9, hcd⟩ <;> simp only [hcd] <;> ((refine za ?_; conv => whnf)) <;>
    exact hfin _ q' [_] rfl hkp.cands (by rw [hs]; simp only [hcd]; rfl) (by rw [hs])
  ·have ho8 : ¬(op = 8 \/ op = 9 \/ op = 10) := by omega
   rw [if_neg ho8] at hsz
   rw [if_pos (show op = 5 by assumption)] at f3
   rw [if_neg (show ¬op = 1 by assumption), if_neg (show ¬op = 2 by assumption), if_neg ho8, if_pos (show op = 5 by assumption)] at hs
   match ks, f3, hN, hsz, hs, hfin with
   | [k], f3, hN, hsz, hs, hfin =>
   simp only [Ex.mk.sizeOf_spec, List.cons.sizeOf_spec] at hN
   have hk := zdp c vers N k q (by omega) f3.2 hq hsz
   have hkp := (qe N k q (by omega) f3.2 hq).1
   simp only at hs
   generalize simpleOf k q = z at hk hs hkp
   obtain ⟨cd, b, q'⟩ := z
   obtain ⟨ko, kn, ku, kd, kp, kk⟩ := k
   refine zg rfl rfl  (row := (Ex.mk ko kn ku kd kp kk).cells) rfl ?_
   (refine za ?_; conv => whnf)
   refine ys 17 rfl rfl rfl rfl rfl rfl hk ?_
   rintro r9 H9 ⟨rfl, rfl⟩ _
   rcases zlr cd with hcd | ⟨t9, y9, hcd⟩ <;> simp only [hcd] <;> ((refine za ?_; conv => whnf)) <;> refine zcw (d := .agg [_]) rfl rfl rfl rfl rfl ?_ <;> ((refine za ?_; conv => whnf)) <;>
    exact hfin _ q' [_] rfl hkp.cands (by rw [hs]; simp only [Cond.d, hcd]; rfl) (by rw [hs])
  ·have ho : op = 6 \/ op = 7 := by omega
   have h7 : (if op = 7 then (1 : Int) else 0) = 0 := if_neg (by omega)
   have ho5 : ¬op = 5 := by omega
   have ho8 : ¬(op = 8 \/ op = 9 \/ op = 10) := by omega
   rw [if_neg ho8] at hsz
   rw [if_neg ho5, if_pos ho] at f3
   rw [if_neg (show ¬op = 1 by omega), if_neg (show ¬op = 2 by omega), if_neg ho8, if_neg ho5, if_pos ho] at hs
   match ks, f3, hN, hsz, hs, hfin with
   | [k, l], f3, hN, hsz, hs, hfin =>
   simp only [Ex.mk.sizeOf_spec, List.cons.sizeOf_spec] at hN
   simp only at hsz
   have hk := zdp c vers N k q (by omega) f3.2.1 hq (by omega)
   have hkp := qe N k q (by omega) f3.2.1 hq
   simp only at hs
   have hsz2 : (simpleOf k q).2.2.atoms.length + zna l <= 1000000000 := by omega
   generalize simpleOf k q = z at hk hs hkp hsz2
   obtain ⟨cd, b, q'⟩ := z
   have hkq := hkp.1
   simp only at hkq hsz2
   have hl := zdp c vers N l q' (by omega) f3.2.2 hkq hsz2
   have hlp := (qe N l q' (by omega) f3.2.2 hkq).1
   simp only at hs
   generalize simpleOf l q' = y at hl hs hlp
   obtain ⟨ce, b', q''⟩ := y
   obtain ⟨ko, kn, ku, kd, kp, kk⟩ := k
   obtain ⟨lo, ln, lu, ld, lp, lk⟩ := l
   refine zg rfl rfl  (row := (Ex.mk ko kn ku kd kp kk).cells) rfl ?_
   (refine za ?_; conv => whnf)
   refine ys 17 rfl rfl rfl rfl rfl rfl hk ?_
   rintro r9 H9 ⟨rfl, rfl⟩ _
   rcases zlr cd with hcd | ⟨t9, y9, hcd⟩ <;> simp only [hcd] <;> ((refine za ?_; conv => whnf))
   all_goals
    refine zg rfl rfl  (row := (Ex.mk lo ln lu ld lp lk).cells) rfl ?_
    (refine za ?_; conv => whnf)
    refine ys 17 rfl rfl rfl rfl rfl rfl hl ?_
    rintro r9 H9 ⟨rfl, rfl⟩ _
   all_goals rcases zlr ce with hce | ⟨t8, y8, hce⟩ <;> simp only [hce] <;> cases b <;> ((refine za ?_; conv => whnf)) <;> (repeat' ((with_reducible refine way ?_ ?_) <;> (intro h; conv => whnf)))
   all_goals try (exfalso; omega)
   all_goals
    refine zcw (d := .agg [_, _, _]) rfl rfl rfl rfl rfl ?_
    (refine za ?_; conv => whnf)
   all_goals exact hfin _ q'' [_] rfl hlp.cands (by rw [hs]; simp only [Cond.d, hcd, hce, h7]; rfl) (by rw [hs])
  ·have ho : op = 6 \/ op = 7 := by omega
   have h7 : (if op = 7 then (1 : Int) else 0) = 1 := if_pos (by omega)
   have ho5 : ¬op = 5 := by omega
   have ho8 : ¬(op = 8 \/ op = 9 \/ op = 10) := by omega
   rw [if_neg ho8] at hsz
   rw [if_neg ho5, if_pos ho] at f3
   rw [if_neg (show ¬op = 1 by omega), if_neg (show ¬op = 2 by omega), if_neg ho8, if_neg ho5, if_pos ho] at hs
   match ks, f3, hN, hsz, hs, hfin with
   | [k, l], f3, hN, hsz, hs, hfin =>
   simp only [Ex.mk.sizeOf_spec, List.cons.sizeOf_spec] at hN
   simp only at hsz
   have hk := zdp c vers N k q (by omega) f3.2.1 hq (by omega)
   have hkp := qe N k q (by omega) f3.2.1 hq
   simp only at hs
   have hsz2 : (simpleOf k q).2.2.atoms.length + zna l <= 1000000000 := by omega
   generalize simpleOf k q = z at hk hs hkp hsz2
   obtain ⟨cd, b, q'⟩ := z
   have hkq := hkp.1
   simp only at hkq hsz2
   have hl := zdp c vers N l q' (by omega) f3.2.2 hkq hsz2
   have hlp := (qe N l q' (by omega) f3.2.2 hkq).1
   simp only at hs
   generalize simpleOf l q' = y at hl hs hlp
   obtain ⟨ce, b', q''⟩ := y
   obtain ⟨ko, kn, ku, kd, kp, kk⟩ := k
   obtain ⟨lo, ln, lu, ld, lp, lk⟩ := l
   refine zg rfl rfl  (row := (Ex.mk ko kn ku kd kp kk).cells) rfl ?_
   (refine za ?_; conv => whnf)
   refine ys 17 rfl rfl rfl rfl rfl rfl hk ?_
   rintro r9 H9 ⟨rfl, rfl⟩ _
   rcases zlr cd with hcd | ⟨t9, y9, hcd⟩ <;> simp only [hcd] <;> ((refine za ?_; conv => whnf))
   all_goals
    refine zg rfl rfl  (row := (Ex.mk lo ln lu ld lp lk).cells) rfl ?_
    (refine za ?_; conv => whnf)
    refine ys 17 rfl rfl rfl rfl rfl rfl hl ?_
    rintro r9 H9 ⟨rfl, rfl⟩ _
   all_goals rcases zlr ce with hce | ⟨t8, y8, hce⟩ <;> simp only [hce] <;> cases b <;> ((refine za ?_; conv => whnf)) <;> (repeat' ((with_reducible refine way ?_ ?_) <;> (intro h; conv => whnf)))
   all_goals try (exfalso; omega)
   all_goals
    refine zcw (d := .agg [_, _, _]) rfl rfl rfl rfl rfl ?_
    (refine za ?_; conv => whnf)
   all_goals exact hfin _ q'' [_] rfl hlp.cands (by rw [hs]; simp only [Cond.d, hcd, hce, h7]; rfl) (by rw [hs])
  ·rw [if_neg (show ¬op = 1 by assumption), if_neg (show ¬op = 2 by assumption), if_neg (show ¬(op = 8 \/ op = 9 \/ op = 10) by omega), if_neg (show ¬op = 5 by assumption), if_neg (show ¬(op = 6 \/ op = 7) by omega)] at hs
   exact hfin _ q [_] rfl hq.cands (by rw [hs]; rfl) (by rw [hs])
section
variable {P : Program} {G : List (Nat × D)} {fn : Func} {rd : Bool} {E : En P G fn rd} {t : List (Nat × SV)} {H : List SObj} {k : List Item} {all : Array Oper} {rest : List Oper} {o : Oper}
theorem ygx {c : Call} {x : Operand} {ty kt et : TypeId} {b : Nat} {kk : IntKind} {es : List (Int × SV)} (hop : o.op = .call c) (hb : c.callee = .builtin .len) (ha : c.args.toList = [x]) (hty : c.argTypes.toList = [ty]) (hw : zy all t o.guard = some true) (hd : yf fn.ntmps o.dst = true)
  (hu : P.underlying ty = some (.map kt et)) (hx : zn G t x = .map b) (hm : H[b]? = some (.mapI kk es))
  (h : SWr E all rest k (wm t o.dst (.imm (.val (.int .i64 es.length)))) H) : SWr E all (o :: rest) k t H := by
 refine zas (H' := H) (r := .imm (.val (.int .i64 es.length))) hw hd ?_ (Nat.le_refl _) h
 have hs : yic P ty H (.map b) = some es.length := by
  unfold yic
  rw [hu]
  simp only [hm]
 obtain ⟨callee, args, argTypes⟩ := c
 simp only at hb ha hty
 subst hb
 rw [hop]
 show zdg P .len (args.toList.map _) argTypes.toList H = _
 rw [ha, hty]
 simp only [List.map_cons, List.map_nil, hx]
 simp only [zdg, hs, Option.map_some]
 rfl
end
theorem ziv : ∀ (ks : List Ex) (q : Sr) (n : Int), (xg ks q n).2.1.conds = q.conds
 | [], _, _ => rfl
 | k :: r, q, n => by
  simp only [xg]
  split
  ·exact ziv r q (n + 1)
  ·split
   ·exact ziv r (q.date k.n) n
   ·split
    ·exact ziv r q n
    ·rfl
theorem ztg (q : Sr) (f g : Ex) : (cmpCand q f g).conds = q.conds := by
 unfold cmpCand
 split
 ·rfl
 ·split <;> rfl
theorem ylc (q : Sr) (op : Int) (l r : Ex) : (cmpOf q op [l, r]).2.2.conds = q.conds := by
 have h1 := ziv [l, r] q 0
 unfold cmpOf
 generalize xg [l, r] q 0 = z at h1
 obtain ⟨b, s1, n⟩ := z
 simp only at h1
 cases b with
 | false => exact h1
 | true =>
  simp only
  split
  ·exact h1
  ·split
   ·simp [ztg, h1]
   ·simp [ztg, h1]
theorem zay : ∀ (N : Nat) (e : Ex) (q : Sr), SizeOf.sizeOf e < N -> yec e -> (simpleOf e q).2.2.conds = q.conds
 | 0, _, _, h, _ => by omega
 | N + 1, .mk op n u den ps ks, q, hN, hf => by
  unfold yec at hf
  obtain ⟨f1, f2, f3⟩ := hf
  rw [zhx]
  by_cases h1 : op = 1
  ·rw [if_pos h1]
  rw [if_neg h1]
  by_cases h2 : op = 2
  ·rw [if_pos h2]; rfl
  rw [if_neg h2]
  by_cases h3 : op = 8 \/ op = 9 \/ op = 10
  ·rw [if_pos h3]
   obtain ⟨l, r, rfl, hl, hr⟩ := f2 h3
   exact ylc q op l r
  rw [if_neg h3]
  by_cases h4 : op = 5
  ·rw [if_pos h4] at f3 ⊢
   match ks, f3, hN with
   | [k], f3, hN =>
    simp only [Ex.mk.sizeOf_spec, List.cons.sizeOf_spec] at hN
    exact zay N k q (by omega) f3.2
  rw [if_neg h4] at f3 ⊢
  by_cases h5 : op = 6 \/ op = 7
  ·rw [if_pos h5] at f3 ⊢
   match ks, f3, hN with
   | [k, l], f3, hN =>
    simp only [Ex.mk.sizeOf_spec, List.cons.sizeOf_spec] at hN
    exact (zay N l _ (by omega) f3.2.2).trans (zay N k q (by omega) f3.2.1)
  rw [if_neg h5]
theorem zgl {l : List Int} {v : Int} (h : v ∈ Go.Lib.compact l) : v ∈ l := by
 unfold Go.Lib.compact Go.Lib.compactUpTo at h
 obtain ⟨j, hj, rfl⟩ := List.mem_map.1 h
 have hj := List.mem_range.1 (List.mem_filter.1 hj).1
 have : l.toArray[j]! = l[j] := by simp [hj]
 rw [this]
 exact List.getElem_mem hj
def zgm (m : List (Int × List Int)) (ks : List Int) : Int := ks.foldl (fun p f => min (p * (((zo f m).getD []).length : Int)) 4097) 1
theorem yed (m : List (Int × List Int)) : ∀ (ks : List Int) (p : Int), 0 <= p /\ p <= 4097 -> 0 <= ks.foldl (fun p f => min (p * (((zo f m).getD []).length : Int)) 4097) p /\ ks.foldl (fun p f => min (p * (((zo f m).getD []).length : Int)) 4097) p <= 4097
 | [], _, h => h
 | f :: ks, p, h => by
  have h1 := Int.mul_nonneg h.1 (Int.natCast_nonneg ((zo f m).getD []).length)
  refine yed m ks _ ?_
  dsimp only
  omega
theorem yle (m : List (Int × List Int)) (ks : List Int) : 0 <= zgm m ks /\ zgm m ks <= 4097 := yed m ks 1 (by decide)
theorem ylf (x : Int) (b : Nat) (hx : 0 <= x) : min (min x 4097 * (b : Int)) 4097 = min (x * b) 4097 := by
 by_cases h : x <= 4097
 ·rw [Int.min_eq_left h]
 ·have e : min x 4097 = 4097 := Int.min_eq_right (by omega)
  rw [e]
  rcases Nat.eq_zero_or_pos b with hb | hb
  ·rw [hb]; simp
  ·have h1 : (4097 : Int) <= 4097 * b := by omega
   have h2 : (4097 : Int) * b <= x * b := Int.mul_le_mul_of_nonneg_right (by omega) (by omega)
   have e1 : min ((4097 : Int) * b) 4097 = 4097 := Int.min_eq_right h1
   have e2 : min (x * b) 4097 = 4097 := Int.min_eq_right (by omega)
   rw [e1, e2]
theorem ylg (p : Int) (hp : p < 0) (a b : Nat) : min (min (p * a) 4097 * b) 4097 = p * a * b := by
 have h1 : p * a <= 0 := Int.mul_nonpos_of_nonpos_of_nonneg (by omega) (by omega)
 have h2 : p * a * b <= 0 := Int.mul_nonpos_of_nonpos_of_nonneg h1 (by omega)
 have e1 : min (p * a) 4097 = p * a := Int.min_eq_left (by omega)
 rw [e1]
 exact Int.min_eq_left (by omega)
theorem yok (p : Int) (a b : Nat) : min (min (p * a) 4097 * b) 4097 = min (min (p * b) 4097 * a) 4097 := by
 by_cases hp : 0 <= p
 ·rw [ylf _ b (Int.mul_nonneg hp (by omega)), ylf _ a (Int.mul_nonneg hp (by omega)), Int.mul_assoc, Int.mul_assoc, Int.mul_comm (a : Int) b]
 ·rw [ylg p (by omega), ylg p (by omega), Int.mul_assoc, Int.mul_assoc, Int.mul_comm (a : Int) b]
theorem ygy {m : List (Int × List Int)} {k1 k2 : List Int} (h : k1.Perm k2) : zgm m k1 = zgm m k2 :=
 h.foldl_eq' (fun _ _ _ _ _ => yok _ _ _) _
theorem ylh {m : List (Int × List Int)} (hn : (m.map (·.1)).Nodup) : zgm m (m.map (·.1)) = zfd m := by
 have : ∀ (l : List (Int × List Int)) (p : Int), (∀ e ∈ l, e ∈ m) -> (l.map (·.1)).foldl (fun p f => min (p * (((zo f m).getD []).length : Int)) 4097) p = l.foldl (fun p e => min (p * (e.2.length : Int)) 4097) p := by
  intro l
  induction l with
  | nil => intro p _; rfl
  | cons e l ih =>
   intro p h
   have he : zo e.1 m = some e.2 := zbm hn (h e (List.mem_cons_self ..))
   simp only [List.map_cons, List.foldl_cons, he, Option.getD_some]
   exact ih _ fun x hx => h x (List.mem_cons_of_mem _ hx)
 exact this m 1 fun _ h => h
theorem ygz (m : List (Int × List Int)) (dn : List Int) (f : Int) : zgm m (dn ++ [f]) = min (zgm m dn * (((zo f m).getD []).length : Int)) 4097 := by
 simp [zgm, List.foldl_append]
def zyu : Ex -> Nat
 | .mk op _ _ _ _ ks => if op = 2 then 1 else if op = 8 \/ op = 9 \/ op = 10 then 1 else match ks with
  | k :: l :: _ => zyu k + zyu l
  | [k] => zyu k
  | [] => 0
def candB (q : Sr) (B : Nat) : Prop := ∀ e ∈ q.cands, e.2.length <= B
theorem candB.mono {q : Sr} {A B : Nat} (h : candB q A) (hl : A <= B) : candB q B := fun e he => Nat.le_trans (h e he) hl
theorem zth : ∀ (vs vals : List Int), (vs.foldl ww vals).length <= vals.length + vs.length
 | [], vals => Nat.le_refl _
 | v :: vs, vals => by
  have := zth vs (ww vals v)
  have h : (ww vals v).length <= vals.length + 1 := by
   unfold ww
   split
   ·split
    ·omega
    ·simp
   ·omega
  simp only [List.foldl_cons, List.length_cons]
  omega
theorem candB.cand {q : Sr} {B : Nat} (h : candB q B) (f : Int) (vs : List Int) : candB (q.cand f vs) (B + vs.length) := by
 intro e he
 rcases zis he with rfl | he
 ·have h1 := zth vs ((zo f q.cands).getD [])
  have h2 : ((zo f q.cands).getD []).length <= B := by
   cases hl : zo f q.cands with
   | none => simp
   | some w => exact h _ (zcf hl)
  simp only
  omega
 ·have := h e he
  omega
theorem candB.cmpCand {q : Sr} {B : Nat} (h : candB q B) (f g : Ex) : candB (cmpCand q f g) (B + 3) := by
 unfold Go.Proofs.YtblpjknmhajcgaaGreatDoor.cmpCand
 split
 ·exact h.mono (by omega)
 ·split
  ·exact (h.cand _ _).mono (by simp)
  ·exact (h.cand _ _).mono (by simp)
theorem ziw : ∀ (ks : List Ex) (q : Sr) (n : Int), (xg ks q n).2.1.cands = q.cands
 | [], _, _ => rfl
 | k :: r, q, n => by
  simp only [xg]
  split
  ·exact ziw r q (n + 1)
  ·split
   ·exact ziw r (q.date k.n) n
   ·split
    ·exact ziw r q n
    ·rfl
theorem candB.cmpOf {q : Sr} {B : Nat} (h : candB q B) (op : Int) (l r : Ex) : candB (cmpOf q op [l, r]).2.2 (B + 6) := by
 have h1 : candB (xg [l, r] q 0).2.1 B := by unfold candB; rw [ziw]; exact h
 unfold Go.Proofs.YtblpjknmhajcgaaGreatDoor.cmpOf
 generalize xg [l, r] q 0 = z at h1
 obtain ⟨b, s1, n⟩ := z
 simp only at h1
 cases b with
 | false => exact h1.mono (by omega)
 | true =>
  simp only
  split
  ·exact h1.mono (by omega)
  ·split
   ·exact ((h1.cmpCand l r).cmpCand r l).mono (by omega)
   ·exact ((h1.cmpCand l r).cmpCand r l).mono (by omega)
theorem zcz : ∀ (N : Nat) (e : Ex) (q : Sr) (B : Nat), SizeOf.sizeOf e < N -> yec e -> candB q B -> candB (simpleOf e q).2.2 (B + 6 * zyu e)
 | 0, _, _, _, h, _, _ => by omega
 | N + 1, .mk op n u den ps ks, q, B, hN, hf, hq => by
  unfold yec at hf
  obtain ⟨f1, f2, f3⟩ := hf
  rw [zhx]
  unfold zyu
  by_cases h1 : op = 1
  ·rw [if_pos h1]; exact hq.mono (Nat.le_add_right _ _)
  rw [if_neg h1]
  by_cases h2 : op = 2
  ·rw [if_pos h2, if_pos h2]; exact (hq.cand _ _).mono (by simp)
  rw [if_neg h2, if_neg h2]
  by_cases h3 : op = 8 \/ op = 9 \/ op = 10
  ·rw [if_pos h3, if_pos h3]
   obtain ⟨l, r, rfl, hl, hr⟩ := f2 h3
   exact (hq.cmpOf op l r).mono (by omega)
  rw [if_neg h3, if_neg h3]
  by_cases h4 : op = 5
  ·rw [if_pos h4] at f3 ⊢
   match ks, f3, hN with
   | [k], f3, hN =>
    simp only [Ex.mk.sizeOf_spec, List.cons.sizeOf_spec] at hN
    exact zcz N k q B (by omega) f3.2 hq
  rw [if_neg h4] at f3 ⊢
  by_cases h5 : op = 6 \/ op = 7
  ·rw [if_pos h5] at f3 ⊢
   match ks, f3, hN with
   | [k, l], f3, hN =>
    simp only [Ex.mk.sizeOf_spec, List.cons.sizeOf_spec] at hN
    exact (zcz N l _ _ (by omega) f3.2.2 (zcz N k q B (by omega) f3.2.1 hq)).mono (by simp only; omega)
  rw [if_neg h5]
  exact hq.mono (Nat.le_add_right _ _)
structure FitC (c : Codex) : Prop where
 fit : ∀ a ∈ c.arts, ∀ e ∈ a.when_, yec e
 len : ∀ a ∈ c.arts, a.when_.length <= 41
 cmps : ∀ a ∈ c.arts, ∀ e ∈ a.when_, zna e <= 400
 lvs : ∀ a ∈ c.arts, ∀ e ∈ a.when_, zyu e <= 400
theorem zsk (c : Codex) (hc : FitC c) (vs : List Int) (hv : ∀ v ∈ vs, 0 <= v /\ v < c.arts.length) (hvz : vs.length <= 100000) (hvl : (zr vs).length <= 60) :
    SCall Tryz.prog G 40 [c.sv, .imm (dInts vs)] [] (fun r H' => match xc c vs with
      | some q => r = .tup [.ptr 2 0, sB true] /\ H' = NS c (zr vs) q
      | none => ∃ p, (p = .imm (.val (.pointer none)) \/ p = .ptr 2 0) /\ r = .tup [p, sB false]) := by
  refine yy Tryz.func40 rfl (by rw [Tryz.ntmps40]; simp) ?_
  intro E hH hK
  rw [show c.sv = .agg [.imm (zk c.facts), .imm (zk c.lines), .imm (xw c.arts)] from rfl]
  (refine zh ?_; conv => whnf)
  refine we rfl rfl rfl rfl rfl rfl ((zvm G vs _ (by omega)).mono ?_)
  rintro r H' ⟨rfl, rfl⟩
  refine ⟨by rw [List.length_append]; exact Nat.le_add_right _ _, ?_⟩
  refine Eq.mpr (congrArg (fun h => SWr E _ _ _ _ h) (show _ = [zdo c, yeb [], .cells [.imm (zk c.facts), .imm (zk c.lines), .imm (xw c.arts), .imm (.val (.slice none 0 0)), .imm (.val (.slice none 0 0)), .imm (.val (.slice none 0 0)), sB false, sB false, sB false, sB false, sB false, .map 1], .vec 1 (vs.map sI)] from rfl)) ?_
  (refine za ?_; conv => whnf)
  refine we rfl rfl rfl rfl rfl rfl ((zmz G 3 vs [zdo c, yeb [], .cells [.imm (zk c.facts), .imm (zk c.lines), .imm (xw c.arts), .vec 3 vs.length, .imm (.val (.slice none 0 0)), .imm (.val (.slice none 0 0)), sB false, sB false, sB false, sB false, sB false, .map 1], .vec 1 (vs.map sI)] rfl (by omega)).mono ?_)
  rintro r H' ⟨rfl, rfl⟩
  refine ⟨Nat.le_refl _, ?_⟩
  refine Eq.mpr (congrArg (fun h => SWr E _ _ _ _ h) (show _ = [zdo c, yeb [], .cells [.imm (zk c.facts), .imm (zk c.lines), .imm (xw c.arts), .vec 3 vs.length, .imm (.val (.slice none 0 0)), .imm (.val (.slice none 0 0)), sB false, sB false, sB false, sB false, sB false, .map 1], .vec 1 ((jf vs).map sI)] from rfl)) ?_
  (refine za ?_; conv => whnf)
  have hsl : (jf vs).length = vs.length := by simp
  rw [<- hsl]
  refine we rfl rfl rfl rfl rfl rfl ((zqu G 3 (jf vs) [zdo c, yeb [], .cells [.imm (zk c.facts), .imm (zk c.lines), .imm (xw c.arts), .vec 3 (jf vs).length, .imm (.val (.slice none 0 0)), .imm (.val (.slice none 0 0)), sB false, sB false, sB false, sB false, sB false, .map 1], .vec 1 ((jf vs).map sI)] rfl (by omega)).mono ?_)
  rintro r H' ⟨rfl, rfl⟩
  refine ⟨Nat.le_refl _, ?_⟩
  have hvv : Go.Lib.compact (jf vs) = zr vs := rfl
  rw [hvv]
  have hvm : ∀ v ∈ zr vs, 0 <= v /\ v < c.arts.length := fun v hm => hv v ((List.mergeSort_perm vs fun x y => decide (x <= y)).mem_iff.1 (zgl hm))
  generalize hver : zr vs = ver at hK hvl hvm ⊢
  refine Eq.mpr (congrArg (fun h => SWr E _ _ _ _ h) (show _ = [zdo c, yeb [], .cells [.imm (zk c.facts), .imm (zk c.lines), .imm (xw c.arts), .vec 3 (jf vs).length, .imm (.val (.slice none 0 0)), .imm (.val (.slice none 0 0)), sB false, sB false, sB false, sB false, sB false, .map 1], .dead] from rfl)) ?_
  (refine za ?_; conv => whnf)
  refine zf [2, 4, 5, 6, 41, 42, 43] ?_
  change SW E _ [(2, .ptr 0 0), (4, .imm (.val (.pointer none))), (5, sB false), (6, .ptr 2 0), (41, .imm (dInts ver)), (42, sI (ver.map fun n => [dI n]).length), (43, sI 0)] _
  refine yr [2, 4, 5, 6, 41, 42, 43] 3 (by rw [hH]; exact Nat.zero_le 3) (by exact (by decide : 3 <= 4)) rfl rfl ?_
  refine ygh 12 ?_
  refine zms 2 4 1 (cs := [.imm (zk c.facts), .imm (zk c.lines), .imm (xw c.arts), .imm (dInts ver), .imm (.val (.slice none 0 0)), .imm (.val (.slice none 0 0)), sB false, sB false, sB false, sB false, sB false, .map 1]) rfl rfl ?_
  refine zms 2 5 5 (cs := [.imm (zk c.facts), .imm (zk c.lines), .imm (xw c.arts), .imm (dInts ver), .asl 15 1 [], .imm (.val (.slice none 0 0)), sB false, sB false, sB false, sB false, sB false, .map 1]) rfl rfl ?_
  refine Eq.mpr (congrArg (fun h => SW E _ _ h) (show _ = NS c ver sr0 from rfl)) ?_
  change SW E _ [(2, .ptr 0 0), (4, .imm (.val (.pointer none))), (5, sB false), (6, .ptr 2 0), (41, .imm (dInts ver)), (42, sI (ver.map fun n => [dI n]).length), (43, sI 0)] _
  have hml : (ver.map fun n => [dI n]).length = ver.length := by simp
  refine zt ver (fun i (_ : Sr) => [(2, .ptr 0 0), (4, .imm (.val (.pointer none))), (5, sB false), (6, .ptr 2 0), (41, .imm (dInts ver)), (42, sI (ver.map fun n => [dI n]).length), (43, sI i)])
    (fun _ q => NS c ver q) (fun done rest q => SrK q /\ zag c ver sr0 = zag c rest q /\ q.conds.length <= done.length * 41 /\ q.atoms.length <= done.length * 16400 /\ candB q (done.length * 98400)) sr0 ⟨⟨⟨by simp [sr0], by simp [sr0]⟩, rfl⟩, rfl, by simp [sr0], by simp [sr0], by intro e he; cases he⟩ ?_ ?_
  · rintro q ⟨k1, k2, k3, k4, k5⟩
    simp only [zag] at k2
    refine ydm (b := 1) (es := zby (fun n : Nat => SV.map n) (q.cands.map fun e => (e.1, 3 + e.1.toNat))) rfl ?_
    intro es' clock hes hst2
    (refine zh ?_; conv => whnf)
    repeat' ((with_reducible refine way ?_ ?_) <;> (intro h; conv => whnf))
    all_goals try (exfalso; omega)
    refine zlg rfl rfl rfl rfl rfl rfl ?_
    (refine za ?_; conv => whnf)
    refine zf [4, 5, 6, 13, 82] ?_
    refine Eq.mpr (congrArg (fun h => SW E _ _ h) (show _ = (NS c ver q).set 1 (.pin .i64 es' clock) ++ [.iter 1 clock [] clock] from rfl)) ?_
    have aL : ((NS c ver q).set 1 (.pin .i64 es' clock)).length = 17 := by rw [List.length_set]; rfl
    have a1 : ((NS c ver q).set 1 (.pin .i64 es' clock))[1]? = some (.pin .i64 es' clock) := rfl
    have a2 : ((NS c ver q).set 1 (.pin .i64 es' clock))[2]? = some (.cells (zx c ver q)) := rfl
    have aF : ∀ f : Int, 0 <= f /\ f < 12 -> ((NS c ver q).set 1 (.pin .i64 es' clock))[3 + f.toNat]? = some (match zo f q.cands with | some vals => yrf vals | none => .free) := fun f hf => by
      rw [List.getElem?_set_ne (by omega)]; exact zys hf
    have aU : ((NS c ver q).set 1 (.pin .i64 es' clock)).all (SObj.under 17) = true := zvh (zao k1.cands.rng) (zln (ztd k1.cands.rng) hes)
    have hk1 : es'.map (·.2.1) = q.cands.map (·.1) := by
      have : es'.map (·.2.1) = (es'.map (·.2)).map (·.1) := by rw [List.map_map]; rfl
      rw [this, hes]
      simp [zby]
    have hk2 : ∀ x ∈ es', ∃ vals, (x.2.1, vals) ∈ q.cands /\ x.2.2 = .map (3 + x.2.1.toNat) := fun x hx => by
      have h1 : x.2 ∈ es'.map (·.2) := List.mem_map.2 ⟨x, hx, rfl⟩
      rw [hes] at h1
      simp only [zby, List.map_map, List.mem_map] at h1
      obtain ⟨e, he, h2⟩ := h1
      refine ⟨e.2, ?_, ?_⟩
      · rw [<- h2]; exact he
      · rw [<- h2]; rfl
    change SW E _ [(4, .imm (.val (.pointer none))), (5, sB false), (6, .ptr 2 0), (13, sI (zgm q.cands [])), (82, .ptr 17 0)] _
    generalize hAA : (NS c ver q).set 1 (.pin .i64 es' clock) = A at aL a1 a2 aF aU ⊢
    refine xy (σ := List Nat × List Int) (fun x => [(4, .imm (.val (.pointer none))), (5, sB false), (6, .ptr 2 0), (13, sI (zgm q.cands x.2)), (82, .ptr 17 0)]) (fun x => A ++ [.iter 1 clock x.1 clock])
      (fun x => (x.2 ++ (zbj es' x.1).map (·.2.1)).Perm (es'.map (·.2.1))) (fun x => (zbj es' x.1).length) ?_ ([], []) (by simp [zlh])
    rintro ⟨seen, dn⟩ hp2 ih2
    simp only at hp2 ih2
    show SW E _ _ (A ++ [.iter 1 clock seen clock])
    (refine zh ?_; conv => whnf)
    refine zou rfl rfl rfl rfl (by rw [List.getElem?_append_right (by omega), aL]; rfl) (by rw [List.getElem?_append_left (by omega)]; exact a1) hst2 (Nat.le_refl _) (fun h0 => ?_) (fun e he => ?_)
    · have hdn : dn.Perm (q.cands.map (·.1)) := by
        rw [h0, hk1] at hp2
        simpa using hp2
      have hpk : zgm q.cands dn = zfd q.cands := (ygy hdn).trans (ylh k1.cands.nd)
      rw [hpk]
      refine qi (fun k h => zvd (b := 1) (kk := .i64) (es := es') (clock := clock) (by rw [List.getElem?_append_left (by omega)]; exact a1) h) ?_
      have hun : (A ++ [SObj.iter 1 clock seen clock]).set 1 (.mapI .i64 (es'.map (·.2))) = NS c ver q ++ [SObj.iter 1 clock seen clock] := by
        rw [List.set_append_left _ _ (by omega), <- hAA, List.set_set, hes]
        rfl
      rw [hun]
      refine qi (t' := [(83, .tup [.imm (.val (.bool false))]), (6, .ptr 2 0), (13, sI (zfd q.cands))]) (H' := NS c ver q) (fun k h => zf [83, 6, 13] (ycr 17 (by rw [hH]; exact Nat.zero_le 17) (by rw [List.length_append]; show 17 <= 17 + 1; decide) rfl (zao k1.cands.rng) h)) ?_
      (refine za ?_; conv => whnf)
      refine hK _ _ ?_
      have hsr : xc c vs = if zfd q.cands <= 4096 then some q else none := by rw [xc, hver, k2]
      rw [hsr]
      by_cases hp : zfd q.cands <= 4096
      · rw [if_pos hp]
        refine ⟨?_, rfl⟩
        show SV.tup [.ptr 2 0, sB (decide (zfd q.cands <= 4096))] = _
        rw [decide_eq_true hp]
      · rw [if_neg hp]
        refine ⟨.ptr 2 0, .inr rfl, ?_⟩
        show SV.tup [.ptr 2 0, sB (decide (zfd q.cands <= 4096))] = _
        rw [decide_eq_false hp]
    · rw [List.set_append_right _ _ (by omega), aL]
      obtain ⟨e1, f, e3⟩ := e
      have hperm := zim hst2.1 he
      have hpl := hperm.length_eq
      have hpm := hperm.map (·.2.1)
      simp only [List.map_cons, List.length_cons] at hpm hpl
      obtain ⟨vals, hv1, hv2⟩ := hk2 _ (zff he)
      simp only at hv1 hv2
      have hfr := k1.cands.rng _ hv1
      simp only at hfr
      have hlk := zbm k1.cands.nd hv1
      have hvl2 := k5 _ hv1
      simp only at hvl2
      subst hv2
      (refine ym [777, 85] 1000 ?_; conv => whnf)
      refine zli rfl rfl rfl rfl (by rw [List.getElem?_append_right (by omega), aL]; rfl) (by rw [List.getElem?_append_left (by omega)]; exact a1) (zff he) ?_
      (refine ym [777, 89] 1000 ?_; conv => whnf)
      refine ygx (b := 3 + f.toNat) (kk := .i64) (es := zby sB (vals.map fun v => (v, true))) rfl rfl rfl rfl rfl rfl rfl rfl (by rw [List.getElem?_append_left (by omega), aF f hfr, hlk]; rfl) ?_
      rw [show (zby sB (vals.map fun v => (v, true))).length = vals.length by simp [zby]]
      (refine za ?_; conv => whnf)
      have hpr := yle q.cands dn
      have hpr2 : 0 <= zgm q.cands dn * (vals.length : Int) := Int.mul_nonneg hpr.1 (by omega)
      have hpr3 : zgm q.cands dn * (vals.length : Int) <= 4097 * (vals.length : Int) := Int.mul_le_mul_of_nonneg_right hpr.2 (by omega)
      have hsn := ygz q.cands dn f
      rw [hlk, Option.getD_some] at hsn
      have hmin : (if 4097 < IntKind.i64.wrap (zgm q.cands dn * (vals.length : Int)) then (4097 : Int) else IntKind.i64.wrap (zgm q.cands dn * (vals.length : Int))) = zgm q.cands (dn ++ [f]) := by
        rw [wo (c := zgm q.cands dn * (vals.length : Int)) (by omega) (by omega), hsn]
        split <;> omega
      refine zf [4, 5, 6, 13, 82] ?_
      change SW E _ [(4, .imm (.val (.pointer none))), (5, sB false), (6, .ptr 2 0), (13, sI (if 4097 < IntKind.i64.wrap (zgm q.cands dn * (vals.length : Int)) then (4097 : Int) else IntKind.i64.wrap (zgm q.cands dn * (vals.length : Int)))), (82, .ptr 17 0)] _
      rw [hmin]
      refine yr [4, 5, 6, 13, 82] 18 (by rw [hH]; exact Nat.zero_le 18) (by simp [aL]) rfl ?_ ?_
      · rw [List.take_of_length_le (by simp [aL]), List.all_append, yz (m := 17) (by omega) aU]
        rfl
      · rw [List.take_of_length_le (by simp [aL])]
        exact ih2 (seen ++ [e1], dn ++ [f]) (by
          refine List.Perm.trans ?_ hp2
          simp only [List.append_assoc, List.cons_append, List.nil_append]
          exact (List.Perm.refl dn).append hpm.symm) (by simp only; omega)
  · rintro done v rest q ha hlen ⟨k1, k2, k3, k4, k5⟩ ih
    have hw := zm (n := done.length) (by omega)
    have hrow : (ver.map fun n => [dI n])[((done.length : Nat) : Int).toNat]? = some [dI v] := by simp [ha]
    obtain ⟨hv0, hv1⟩ := hvm v (by rw [ha]; simp)
    (refine zh ?_; conv => whnf)
    repeat' ((with_reducible refine way ?_ ?_) <;> (intro h; conv => whnf))
    all_goals try (exfalso; omega)
    refine zg rfl rfl  hrow ?_
    (refine za ?_; conv => whnf)
    obtain ⟨a, haa⟩ : ∃ a, c.arts[v.toNat]? = some a := ⟨_, List.getElem?_eq_getElem (by omega)⟩
    have hmem := List.mem_of_getElem? haa
    have hat : qf c v = some a := by unfold qf; rw [if_neg (by omega)]; exact haa
    obtain ⟨op, n, u, den, ps, ks, hamt⟩ : ∃ op n u den ps ks, a.amount = .mk op n u den ps ks := by cases h : a.amount; exact ⟨_, _, _, _, _, _, rfl⟩
    have hrw : (c.arts.map Article.cells)[v.toNat]? = some [dI a.number, dI a.line, dI a.rank, dI a.lo, dI a.hi, dI a.known, xb a.when_, dInts a.unless_, dI op, dI n, dS u, dI den, .isl 3 (ps.map Piece.cells), .isl 6 (zb ks)] := by
      rw [List.getElem?_map, haa]
      simp [Article.cells, hamt, zp, Ex.op, Ex.n, Ex.unit, Ex.den, Ex.pieces, Ex.kids]
    refine zg rfl  (Int.toNat_of_nonneg hv0).symm (row := [dI a.number, dI a.line, dI a.rank, dI a.lo, dI a.hi, dI a.known, xb a.when_, dInts a.unless_, dI op, dI n, dS u, dI den, .isl 3 (ps.map Piece.cells), .isl 6 (zb ks)]) hrw ?_
    (refine za ?_; conv => whnf)
    have hwl : (a.when_.map Ex.cells).length = a.when_.length := by simp
    have hl1 := hc.len a hmem
    refine zf [2, 4, 5, 6, 41, 42, 43, 52, 53, 54] ?_
    refine zt a.when_ (fun i (_ : Sr) => [(2, .ptr 0 0), (4, .imm (.val (.pointer none))), (5, sB false), (6, .ptr 2 0), (41, .imm (dInts ver)), (42, sI (ver.map fun n => [dI n]).length), (43, sI done.length), (52, .imm (xb a.when_)), (53, sI (a.when_.map Ex.cells).length), (54, sI i)])
      (fun _ q' => NS c ver q') (fun dn rs q' => SrK q' /\ zdf a.when_ q = zdf rs q' /\ q'.conds.length <= q.conds.length + dn.length /\ q'.atoms.length <= q.atoms.length + dn.length * 400 /\ candB q' (done.length * 98400 + dn.length * 2400)) q ⟨k1, rfl, by simp, by simp, by simpa using k5⟩ ?_ ?_
    · rintro q' ⟨m1, m2, m3, m4, m5⟩
      simp only [zdf] at m2
      (refine zh ?_; conv => whnf)
      repeat' ((with_reducible refine way ?_ ?_) <;> (intro h; conv => whnf))
      all_goals try (exfalso; omega)
      rw [hw]
      refine zf [2, 4, 5, 6, 41, 42, 43] ?_
      refine ih q' ⟨m1, ?_, ?_, ?_, ?_⟩
      · rw [k2, zag, hat]
        simp only [m2]
      · simp only [List.length_append, List.length_cons, List.length_nil]; omega
      · simp only [List.length_append, List.length_cons, List.length_nil]; omega
      · exact m5.mono (by simp only [List.length_append, List.length_cons, List.length_nil]; omega)
    · rintro dn x rs q' hda hdl ⟨m1, m2, m3, m4, m5⟩ ih2
      have hw2 := zm (n := dn.length) (by omega)
      have hrow2 : (a.when_.map Ex.cells)[((dn.length : Nat) : Int).toNat]? = some x.cells := by simp [hda]
      have hfx := hc.fit a hmem x (by rw [hda]; simp)
      have hcx := hc.cmps a hmem x (by rw [hda]; simp)
      have hsx : q'.atoms.length + zna x <= 1000000000 := by omega
      have hsim := zdp G c ver _ x q' (Nat.lt_succ_self _) hfx m1 hsx
      have hkp := qe _ x q' (Nat.lt_succ_self _) hfx m1
      have hcb := zcz _ x q' _ (Nat.lt_succ_self _) hfx m5
      have hlx := hc.lvs a hmem x (by rw [hda]; simp)
      rw [zdf] at m2
      have hcds := congrArg List.length (zay _ x q' (Nat.lt_succ_self _) hfx)
      generalize simpleOf x q' = z at hsim hkp m2 hcds hcb
      obtain ⟨cd, b, q2⟩ := z
      obtain ⟨xo, xn, xu, xd, xp, xk⟩ := x
      (refine zh ?_; conv => whnf)
      repeat' ((with_reducible refine way ?_ ?_) <;> (intro h; conv => whnf))
      all_goals try (exfalso; omega)
      refine zg rfl rfl  (row := (Ex.mk xo xn xu xd xp xk).cells) hrow2 ?_
      (refine za ?_; conv => whnf)
      refine ys 17 rfl rfl rfl rfl rfl rfl hsim ?_
      rintro r9 H9 ⟨rfl, rfl⟩ _
      rcases zlr cd with hcd | ⟨t9, y9, hcd⟩ <;> simp only [hcd] <;> cases b <;> ((refine za ?_; conv => whnf))
      all_goals try (
        refine hK _ _ ?_
        have e1 : zdf a.when_ q = none := m2
        have e2 : zag c ver sr0 = none := by rw [k2, zag, hat]; simp only [e1]
        have e3 : xc c vs = none := by rw [xc, hver, e2]
        rw [e3]
        exact ⟨_, .inl rfl, rfl⟩)
      all_goals
        simp only at m2 hkp hcds hcb
        refine zaq (b := 15) (kk := 1) (rows := q2.conds.map fun c => [c.d]) (new := [[_]]) rfl ⟨by decide, rfl⟩ (by show some (SObj.tok 1 q2.conds.length) = _; rw [List.length_map]) (by rw [List.length_map]; simp only [List.length_cons, List.length_nil]; omega) ?_
        have e5 : (q2.conds.map fun c => [c.d]) ++ [[cd.d]] = (q2.conds ++ [cd]).map fun c => [c.d] := by simp
        have e6 : (q2.conds.map fun c => [c.d]).length + [[cd.d]].length = (q2.conds ++ [cd]).length := by simp
        rw [hcd] at e5 e6
        refine Eq.mpr (congrArg (fun v => SWr E _ _ _ (wm _ _ (.asl 15 1 v)) _) e5) ?_
        refine Eq.mpr (congrArg (fun v => SWr E _ _ _ _ (List.set _ 15 (.tok 1 v))) e6) ?_
        (refine za ?_; conv => whnf)
        rw [hw2]
        refine yr [2, 4, 5, 6, 41, 42, 43, 52, 53, 54] 17 (by rw [hH]; exact Nat.zero_le 17) (by exact (by decide : 17 <= 18)) rfl (zao (q := { q2 with conds := q2.conds ++ [cd] }) hkp.1.cands.rng) ?_
        refine ih2 { q2 with conds := q2.conds ++ [cd] } ⟨⟨hkp.1.cands, hkp.1.dates⟩, m2, ?_, ?_, ?_⟩
        · simp only [List.length_append, List.length_cons, List.length_nil]; omega
        · simp only [List.length_append, List.length_cons, List.length_nil]; omega
        · exact candB.mono (q := { q2 with conds := q2.conds ++ [cd] }) hcb (by simp only [List.length_append, List.length_cons, List.length_nil]; omega)
def YS (c : Codex) (vers : List Int) (q : Sr) (i : Nat) : SObj := (NS c vers q).getD i .dead
theorem ytj (c : Codex) (vers : List Int) (q : Sr) : NSH (YS c vers q) (zx c vers q) = NS c vers q := rfl
structure SearchC (c : Codex) : Prop where
 need : NeedC c
 fit : FitC c
 vers : ∀ vs : List Int, (∀ v ∈ vs, 0 <= v /\ v < c.arts.length) -> vs.length <= 100000 -> (zr vs).length <= 60
 wit : ∀ (vs : List Int) (q : Sr), (∀ v ∈ vs, 0 <= v /\ v < c.arts.length) -> vs.length <= 100000 -> xc c vs = some q -> WitOK (YS c (zr vs) q) c (zr vs) q
def zls (o : Option View) : SV :=
 match o with
 | some v => .tup [.agg [sI v.day, .imm (xm v.has), .imm (dInts v.value), .imm (dInts v.arts)], sB true]
 | none => .tup [.agg zaj, sB false]
def yrj (o : Option View) : SV := .tup [View.sv (o.getD zqp), sB o.isSome]
theorem yli (o : Option View) : (zls o).Is (yrj o) := by
 cases o with
 | some v => exact SV.Is.refl _
 | none => exact SIs.tup (.cons (SIs.agg (.cons (SV.Is.refl _) (.cons (SV.Is.nil 1) (.cons (SV.Is.nil 1) (.cons (SV.Is.nil 1) .nil))))) (.cons (SV.Is.refl _) .nil))
theorem yol (c : Codex) (vers : List Int) (q : Sr) : yoj c vers q = zls (qw c vers q) := by unfold yoj zls; cases qw c vers q <;> rfl
theorem ylj (o : Option View) (n : Nat) : (zls o).sh n = zls o := by cases o <;> rfl
theorem zhy (c : Codex) (hS : SearchC c) (vs : List Int) (hv : ∀ v ∈ vs, 0 <= v /\ v < c.arts.length) (hvz : vs.length <= 100000) (X : List SObj) :
    SCall Tryz.prog G0 40 [c.sv, .imm (dInts vs)] X (fun r H' => match xc c vs with
      | some q => r = .tup [.ptr (2 + X.length) 0, sB true] /\ H' = X ++ (NS c (zr vs) q).map (SObj.sh X.length)
      | none => ∃ p H1, (p = .imm (.val (.pointer none)) \/ p = .ptr (2 + X.length) 0) /\ r = .tup [p, sB false] /\ H' = X ++ H1) := by
  have h := zkd (zsk G0 c hS.fit vs hv hvz (hS.vers vs hv hvz)) X
  rw [List.map_nil, List.append_nil] at h
  refine SCall.mono h ?_
  rintro r H' ⟨r1, H1, h1, rfl, rfl⟩
  cases hq : xc c vs with
  | some q =>
    rw [hq] at h1
    obtain ⟨rfl, rfl⟩ := h1
    exact ⟨rfl, rfl⟩
  | none =>
    rw [hq] at h1
    obtain ⟨p, rfl | rfl, rfl⟩ := h1
    · exact ⟨_, _, .inl rfl, rfl, rfl⟩
    · exact ⟨_, _, .inr rfl, rfl, rfl⟩
theorem ylk {P : Program} {G : List (Nat × D)} {f : FuncId} {args : List SV} {H : List SObj} {K : SV -> List SObj -> Prop} (h : SCall P G f args H K) : SCall P G f args H (fun r H' => K r H' /\ H.length <= H'.length) := fun w I β vs hH hv =>
 (h w I β vs hH hv).mono fun e w' ⟨v, r, I', β', H', h1, h2, h3, h4, h5⟩ => ⟨v, r, I', β', H', h1, ⟨h2, by
  rcases Nat.eq_zero_or_pos H.length with h0 | h0
  ·omega
  ·have hb : H.length - 1 < β.length := by rw [hH.len]; omega
   obtain ⟨y, hy, _⟩ := h5.keep (H.length - 1) _ (by omega) (List.getElem?_eq_getElem hb)
   have := lt_of_getElem? hy
   rw [h4.len] at this
   omega⟩, h3, h4, h5⟩
theorem znb (c : Codex) (hS : SearchC c) (vs : List Int) (hv : ∀ v ∈ vs, 0 <= v /\ v < c.arts.length) (hvz : vs.length <= 100000) (q : Sr) (hq : xc c vs = some q) (X : List SObj) :
  SCall Tryz.prog G0 41 [.ptr (2 + X.length) 0] (X ++ (NS c (zr vs) q).map (SObj.sh X.length)) (fun r H' => r = zls (qw c (zr vs) q) /\ (∃ H1, H' = X ++ H1) /\ (X ++ (NS c (zr vs) q).map (SObj.sh X.length)).length <= H'.length) := by
 have h := zkd (zyq (hS.wit vs q hv hvz hq)) X
 rw [ytj] at h
 refine SCall.mono (ylk h) ?_
 rintro r H' ⟨⟨r1, H1, rfl, rfl, rfl⟩, hl⟩
 rw [yol, ylj]
 exact ⟨rfl, ⟨_, rfl⟩, hl⟩
theorem yll (c : Codex) (hfit : Codex.fit c) (hS : zq c = true -> SearchC c) (hz : c.arts.length <= 1000000) (vs : List Int) (hvz : vs.length <= 100000) :
  yb Tryz.prog G0 11 [c.sv, .imm (dInts vs)] (zls (ye c vs)) := by
 have hal : (c.arts.map Article.cells).length = c.arts.length := by simp
 have hvl : (vs.map fun n => [dI n]).length = vs.length := by simp
 have hV := jr G0 c hfit
 refine ze Tryz.func11 rfl (by rw [Tryz.ntmps11]; simp) rfl (by cases ye c vs <;> rfl) ?_
 intro E hH hK
 have hun : ∀ b, zq c = b -> ye c vs = if b && vs.all (fun v => decide (0 <= v) && decide (v < c.arts.length)) then (match xc c vs with | some s => qw c (zr vs) s | none => none) else none := fun b hb => by rw [<- hb]; rfl
 generalize hz2 : zq c = z at hV hS hun
 have hun := hun z rfl
 rw [show c.sv = .agg [.imm (zk c.facts), .imm (zk c.lines), .imm (xw c.arts)] from rfl]
 (refine zh ?_; conv => whnf)
 refine zd rfl  hV ?_
 cases z <;> ((refine za ?_; conv => whnf))
 ·rw [hun] at hK
  exact hK _
 refine zf [1, 2, 4, 14, 15, 16] ?_
 change SW E _ [(1, .imm (dInts vs)), (2, .ptr 0 0), (4, .ptr 1 0), (14, .imm (dInts vs)), (15, sI (vs.map fun n => [dI n]).length), (16, sI 0)] [.cells [.imm (zk c.facts), .imm (zk c.lines), .imm (xw c.arts)], .cells zaj]
 refine zt vs (fun i (_ : Unit) => [(1, .imm (dInts vs)), (2, .ptr 0 0), (4, .ptr 1 0), (14, .imm (dInts vs)), (15, sI (vs.map fun n => [dI n]).length), (16, sI i)]) (fun _ _ => [.cells [.imm (zk c.facts), .imm (zk c.lines), .imm (xw c.arts)], .cells zaj])
  (fun done _ _ => ∀ v ∈ done, 0 <= v /\ v < c.arts.length) () (by simp) ?_ ?_
 ·rintro _ hv
  have hall : vs.all (fun v => decide (0 <= v) && decide (v < c.arts.length)) = true := List.all_eq_true.2 fun v h => by
   have := hv v h
   simp only [Bool.and_eq_true, decide_eq_true_eq]
   exact this
  rw [hall, Bool.true_and, if_pos rfl] at hun
  have hN := zhy c (hS rfl) vs hv hvz [.cells [.imm (zk c.facts), .imm (zk c.lines), .imm (xw c.arts)], .cells zaj]
  (refine zh ?_; conv => whnf)
  repeat' ((with_reducible refine way ?_ ?_) <;> (intro h; conv => whnf))
  all_goals try (exfalso; omega)
  refine we rfl rfl rfl rfl rfl rfl (hN.mono ?_)
  intro r H' hK1
  cases hq : xc c vs with
  | none =>
   rw [hq] at hK1 hun
   obtain ⟨p, H1, hp, rfl, rfl⟩ := hK1
   refine ⟨Nat.le_add_left 2 _, ?_⟩
   rw [hun] at hK
   refine Eq.mpr (congrArg (fun h => SWr E _ _ _ _ h) (show _ = .cells [.imm (zk c.facts), .imm (zk c.lines), .imm (xw c.arts)] :: .cells zaj :: H1 from rfl)) ?_
   rcases hp with rfl | rfl <;> ((refine za ?_; conv => whnf)) <;> exact hK _
  | some q =>
   have hWt := znb c (hS rfl) vs hv hvz q hq [.cells [.imm (zk c.facts), .imm (zk c.lines), .imm (xw c.arts)], .cells zaj]
   rw [hq] at hK1 hun
   simp only at hun
   obtain ⟨rfl, rfl⟩ := hK1
   refine ⟨by rw [List.length_append]; exact Nat.le_add_right _ _, ?_⟩
   (refine za ?_; conv => whnf)
   refine we rfl rfl rfl rfl rfl rfl (hWt.mono ?_)
   rintro r H' ⟨rfl, ⟨H1, rfl⟩, hl⟩
   refine ⟨hl, ?_⟩
   rw [hun] at hK
   generalize qw c (zr vs) q = o at hK ⊢
   refine Eq.mpr (congrArg (fun h => SWr E _ _ _ _ h) (show _ = .cells [.imm (zk c.facts), .imm (zk c.lines), .imm (xw c.arts)] :: .cells zaj :: H1 from rfl)) ?_
   cases o <;> ((refine za ?_; conv => whnf)) <;> exact hK _
 ·rintro done x rest _ hda hdl h1 ih
  have hw := zm (n := done.length) (by omega)
  have hrx : (vs.map fun n => [dI n])[((done.length : Nat) : Int).toNat]? = some [dI x] := by simp [hda]
  have hxm : x ∈ vs := by rw [hda]; simp
  have hbad : ¬ (0 <= x /\ x < c.arts.length) -> ye c vs = none := fun h => by
   rw [hun, if_neg]
   intro h2
   rw [Bool.true_and] at h2
   have := List.all_eq_true.1 h2 x hxm
   simp only [Bool.and_eq_true, decide_eq_true_eq] at this
   exact h this
  (refine zh ?_; conv => whnf)
  repeat' ((with_reducible refine way ?_ ?_) <;> (intro h; conv => whnf))
  all_goals try (exfalso; omega)
  refine zg rfl rfl  hrx ?_
  (refine za ?_; conv => whnf)
  repeat' ((with_reducible refine way ?_ ?_) <;> (intro h; conv => whnf))
  ·rw [hbad (by omega)] at hK
   exact hK _
  ·rw [hw]
   refine zf [1, 2, 4, 14, 15, 16] ?_
   refine ih () fun v hm => ?_
   rcases List.mem_append.1 hm with hm | hm
   ·exact h1 v hm
   ·simp at hm; rw [hm]; omega
  ·rw [hbad (by omega)] at hK
   exact hK _
theorem zbn (c : Codex) (hfit : Codex.fit c) (hS : zq c = true -> SearchC c) (hz : c.arts.length <= 1000000) (vs : List Int) (hvz : vs.length <= 100000) :
  yb Tryz.prog G0 11 [c.sv, .imm (dInts vs)] (yrj (ye c vs)) := zcm (yll c hfit hS hz vs hvz) (yli _)
mutual
def zfp (c : Codex) (m : List (Int × Int)) : Ex -> Prop
 | .mk op n u den ps ks => qm c m op n u den ps ks = true /\ zvr c m ks
def zvr (c : Codex) (m : List (Int × Int)) : List Ex -> Prop
 | [] => True
 | e :: r => zfp c m e /\ zvr c m r
end
theorem qa {c : Codex} {m : List (Int × Int)} : ∀ {ks : List Ex}, zvr c m ks -> ∀ k ∈ ks, zfp c m k
 | _ :: _, h, k, hk => by
  unfold zvr at h
  rcases List.mem_cons.1 hk with rfl | hk
  ·exact h.1
  ·exact qa h.2 k hk
theorem yrk (c : Codex) (m : List (Int × Int)) (N : Nat) : (∀ e : Ex, SizeOf.sizeOf e < N -> ∀ d cnt : Int, (qz c m e d cnt).1 = true -> zfp c m e /\ (qz c m e d cnt).2 = cnt + wa e) /\
  (∀ ks : List Ex, SizeOf.sizeOf ks < N -> ∀ d cnt : Int, (qc c m ks d cnt).1 = true -> zvr c m ks /\ (qc c m ks d cnt).2 = cnt + yg ks) := by
 induction N with
 | zero => exact ⟨fun e h => by omega, fun e h => by omega⟩
 | succ N ih =>
  refine ⟨fun e he d cnt h => ?_, fun ks hk d cnt h => ?_⟩
  ·obtain ⟨op, n, u, den, ps, ks⟩ := e
   simp only [Ex.mk.sizeOf_spec] at he
   have h1 := ih.2 ks (by omega) (d + 1) (cnt + 1)
   simp only [qz] at h ⊢
   split at h
   ·cases h
   ·rename_i hc
    rw [if_neg hc]
    revert h h1
    cases qc c m ks (d + 1) (cnt + 1) with
    | mk b q =>
     cases b with
     | true =>
      intro h1 h
      have h1 := h1 rfl
      simp only at h h1 ⊢
      refine ⟨?_, ?_⟩
      ·unfold zfp; exact ⟨h, h1.1⟩
      ·rw [h1.2]; unfold wa; omega
     | false => intro _ h; cases h
  ·cases ks with
   | nil => simp [qc, zvr, yg]
   | cons k r =>
    simp only [List.cons.sizeOf_spec] at hk
    have h1 := ih.1 k (by omega) d cnt
    simp only [qc] at h ⊢
    revert h h1
    cases qz c m k d cnt with
    | mk b q =>
     cases b with
     | true =>
      intro h h1
      have h1 := h1 rfl
      simp only at h h1 ⊢
      have h2 := ih.2 r (by omega) d q h
      refine ⟨?_, ?_⟩
      ·unfold zvr; exact ⟨h1.1, h2.1⟩
      ·rw [h2.2, h1.2, yg]; omega
     | false => intro h; cases h
theorem zra {c : Codex} {m : List (Int × Int)} {e : Ex} {u : ByteArray} (h : (qd c m e u).1 = true) : zfp c m e /\ wa e <= 400 := by
 unfold qd at h
 split at h
 ·obtain ⟨h1, h2⟩ := (yrk c m _).1 e (Nat.lt_succ_self _) 1 0 h
  have h3 := ((zxs c m _).1 e (Nat.lt_succ_self _) 1 0).2 h
  exact ⟨h1, by omega⟩
 ·cases h
theorem zhz (nl : Int) : ∀ (l : List Article) (m0 m : List (Int × Int)), wn nl l m0 = some m -> (∀ k v, zo k m0 = some v -> 1 <= k /\ k <= 1000000) -> ∀ k v, zo k m = some v -> 1 <= k /\ k <= 1000000
 | [], m0, m, h, h0 => by simp [wn] at h; subst h; exact h0
 | a :: r, m0, m, h, h0 => by
  simp only [wn] at h
  split at h
  ·rename_i hc
   have h1 : ∀ k v, zo k (ains a.number a.line m0) = some v -> 1 <= k /\ k <= 1000000 := fun k v hk => by
    rw [jh] at hk
    split at hk
    ·rename_i e
     have e : k = a.number := by simpa using e
     subst e
     exact ⟨hc.1, hc.2.1⟩
    ·exact h0 k v hk
   have hm : wn nl r (ains a.number a.line m0) = some m := by
    split at h
    ·split at h
     ·exact h
     ·cases h
    ·exact h
   exact zhz nl r _ m hm h1
  ·cases h
theorem zaa {c : Codex} (h : zq c = true) : c.facts.length <= 32 /\ c.arts.length <= 60 /\ ∃ m, (∀ k v, zo k m = some v -> 1 <= k /\ k <= 1000000) /\ ∀ a ∈ c.arts,
  zca a = true /\ a.unless_.all (fun n => (zo n m).isSome) = true /\ (∀ e ∈ a.when_, zfp c m e /\ wa e <= 400) /\ zfp c m a.amount /\ wa a.amount <= 400 := by
 unfold zq at h
 simp only [Bool.and_eq_true, decide_eq_true_eq] at h
 obtain ⟨⟨⟨⟨⟨h1, h2⟩, h3⟩, h4⟩, h5⟩, h6⟩ := h
 refine ⟨h1, h3, ?_⟩
 cases hl : wn c.lines.length c.arts [] with
 | none => rw [hl] at h6; cases h6
 | some m =>
  rw [hl] at h6
  simp only [List.all_eq_true] at h6
  refine ⟨m, zhz _ _ _ _ hl (fun k v h => by cases h), fun a ha => ?_⟩
  have := h6 a ha
  unfold zkb at this
  simp only [Bool.and_eq_true, List.all_eq_true] at this
  obtain ⟨⟨⟨g1, g2⟩, g3⟩, g4⟩ := this
  exact ⟨g1, List.all_eq_true.2 g2, fun e he => zra (g3 e he), zra g4⟩
theorem yrl {c : Codex} {m : List (Int × Int)} {op n : Int} {u : ByteArray} {den : Int} {ps : List Piece} {ks : List Ex} (h : qm c m op n u den ps ks = true) : ps.length <= 64 := by
 unfold qm at h
 split at h
 ·simp only [Bool.and_eq_true, jp, decide_eq_true_eq] at h
  exact h.2.1.2
 ·split at h
  ·cases h
  ·rename_i hh
   omega
theorem zyv (c : Codex) (m : List (Int × Int)) (N : Nat) : (∀ e : Ex, SizeOf.sizeOf e < N -> zfp c m e -> wa e <= 1000000 -> zkf e) /\ (∀ ks : List Ex, SizeOf.sizeOf ks < N -> zvr c m ks -> yg ks <= 1000000 -> zdy ks) := by
 induction N with
 | zero => exact ⟨fun e h => by omega, fun e h => by omega⟩
 | succ N ih =>
  refine ⟨fun e he h hs => ?_, fun ks hk h hs => ?_⟩
  ·obtain ⟨op, n, u, den, ps, ks⟩ := e
   simp only [Ex.mk.sizeOf_spec] at he
   unfold zfp at h
   unfold wa at hs
   have := yrl h.1
   have h2 := zga ks
   unfold zkf
   exact ⟨by omega, by omega, ih.2 ks (by omega) h.2 (by omega)⟩
  ·cases ks with
   | nil => unfold zdy; trivial
   | cons k r =>
    simp only [List.cons.sizeOf_spec] at hk
    unfold zvr at h
    unfold yg at hs
    unfold zdy
    exact ⟨ih.1 k (by omega) h.1 (by omega), ih.2 r (by omega) h.2 (by omega)⟩
theorem zyw : ∀ {ks : List Ex}, (∀ k ∈ ks, zkf k) -> zdy ks
 | [], _ => by unfold zdy; trivial
 | k :: r, h => by unfold zdy; exact ⟨h k (by simp), zyw fun x hx => h x (by simp [hx])⟩
theorem yee {c : Codex} (h : zq c = true) (hfew : ∀ a ∈ c.arts, a.when_.length <= 1000000 /\ a.unless_.length <= 1000000) : NeedC c := by
 obtain ⟨_, h2, m, _, h4⟩ := zaa h
 refine { arts := by omega, len := fun a ha => (hfew a ha).1, exs := fun a ha => zyw fun e he => ?_, uls := fun a ha => (hfew a ha).2, amt := fun a ha => ?_ }
 ·have := (h4 a ha).2.2.1 e he
  exact (zyv c m _).1 e (Nat.lt_succ_self _) this.1 (by omega)
 ·have := (h4 a ha).2.2.2
  exact (zyv c m _).1 _ (Nat.lt_succ_self _) this.1 (by omega)
def znx (c : Codex) : List SV := (zv c).map fun l => .imm (dInts l)
def OH (c : Codex) (out : List Int) : List SObj := [zdo c, .cells (znx c), .cells [.osl 1 0 c.arts.length], .mapI .i64 (zby sB (wh [] out)), .cells [.map 3]]
theorem zkl {α : Type} (f : α -> D) (l : List α) (n : Nat) : SV.under.allUnder n (l.map fun x => SV.imm (f x)) = true := by
 induction l with
 | nil => rfl
 | cons a l ih => simp [SV.under.allUnder, SV.under, ih]
theorem zvs (c : Codex) (out : List Int) : (OH c out).all (SObj.under 5) = true := by
 have h : (SObj.cells (znx c)).under 5 = true := zkl _ _ _
 simp only [OH, List.all_cons, List.all_nil, h, zte, Bool.and_true]
 rfl
theorem yom (out : List Int) (k : Int) : ((zo k (wh [] out)).map sB).getD (qk (.bool false)) = sB (decide (k ∈ out)) := by
 rw [zhw]
 by_cases hk : k ∈ out
 ·rw [if_pos hk, decide_eq_true hk]; rfl
 ·rw [if_neg hk, decide_eq_false hk]; rfl
theorem jt (c : Codex) : (zv c).length = c.arts.length := by simp [zv]
theorem zaz {c : Codex} {j : Nat} (h : j < c.arts.length) : (zv c)[j]? = some (xt c j) := by simp [zv, h]
theorem ready_spec (c : Codex) (hlen : ∀ j : Nat, (xt c j).length <= 1000000) (hz : c.arts.length <= 1000000) (out : List Int) (j : Nat) (hj : j < c.arts.length) :
  SPre Tryz.prog G 61 [sI j, .ptr 2 0, .ptr 4 0] (OH c out) (fun r H' => r = sB (decide (∀ x ∈ xt c j, x ∈ out)) /\ H' = OH c out) := by
 refine wk Tryz.func61 rfl (by rw [Tryz.ntmps61]; simp) rfl (zvs _ _) ?_
 intro E hH hK
 have hl := hlen j
 have hla : ((xt c j).map fun n => [dI n]).length = (xt c j).length := by simp
 have hbl : (znx c).length = c.arts.length := by simp [znx, jt]
 have hbg : (znx c)[j]? = some (.imm (dInts (xt c j))) := by rw [znx, List.getElem?_map, zaz hj]; rfl
 (refine zh ?_; conv => whnf)
 refine zge (i := j) rfl rfl rfl rfl rfl rfl rfl rfl hj ?_
 refine xq (v := .imm (dInts (xt c j))) rfl rfl rfl rfl rfl (by show (znx c)[0 + j * 1]? = _; rw [Nat.zero_add, Nat.mul_one]; exact hbg) ?_
 (refine za ?_; conv => whnf)
 refine zf [1, 2, 10, 11, 12] ?_
 generalize xt c j = nd at hl hla hK
 change SW E _ [(1, .ptr 2 0), (2, .ptr 4 0), (10, .imm (dInts nd)), (11, sI (nd.map fun n => [dI n]).length), (12, sI 0)] (OH c out)
 refine zt nd (fun i (_ : Unit) => [(1, .ptr 2 0), (2, .ptr 4 0), (10, .imm (dInts nd)), (11, sI (nd.map fun n => [dI n]).length), (12, sI i)]) (fun _ _ => OH c out) (fun done _ _ => ∀ x ∈ done, x ∈ out) () (by simp) ?_ ?_
 ·rintro _ h1
  (refine zh ?_; conv => whnf)
  repeat' ((with_reducible refine way ?_ ?_) <;> (intro h; conv => whnf))
  all_goals try (exfalso; omega)
  exact hK _ _ (Nat.le_refl _) rfl (zvs c out) ⟨congrArg sB (decide_eq_true h1).symm, rfl⟩
 ·rintro done x rest _ hda hdl h1 ih
  have hw := zm (n := done.length) (by omega)
  have hrx : (nd.map fun n => [dI n])[((done.length : Nat) : Int).toNat]? = some [dI x] := by simp [hda]
  have hxm : x ∈ nd := by rw [hda]; simp
  (refine zh ?_; conv => whnf)
  repeat' ((with_reducible refine way ?_ ?_) <;> (intro h; conv => whnf))
  all_goals try (exfalso; omega)
  refine zg rfl rfl  hrx ?_
  (refine za ?_; conv => whnf)
  refine zez (b := 3) (l := wh [] out) sB rfl rfl rfl rfl rfl rfl rfl rfl rfl (v := sB (decide (x ∈ out))) (yom _ _) ?_
  cases hd : decide (x ∈ out) <;> ((refine za ?_; conv => whnf))
  ·have hd := of_decide_eq_false hd
   have hf : ¬ ∀ x ∈ nd, x ∈ out := fun h => hd (h x hxm)
   exact hK _ _ (Nat.le_refl _) rfl (zvs c out) ⟨congrArg sB (decide_eq_false hf).symm, rfl⟩
  ·have hd := of_decide_eq_true hd
   rw [hw]
   refine zf [1, 2, 10, 11, 12] ?_
   refine ih () fun y hy => ?_
   rcases List.mem_append.1 hy with hy | hy
   ·exact h1 y hy
   ·simp at hy; rw [hy]; exact hd
abbrev mg (M : List Int) (i j : Nat) : Int := M.getD (i * 60 + j) 0
theorem zti {M : List Int} {i j a b : Nat} {v : Int} (hl : M.length = 3600) (hi : i < 60) (hj : j < 60) (hb : b < 60) : mg (M.set (i * 60 + j) v) a b = if a = i /\ b = j then v else mg M a b := by
 unfold mg
 rw [List.getD_eq_getElem?_getD, List.getD_eq_getElem?_getD, List.getElem?_set]
 by_cases h : i * 60 + j = a * 60 + b
 ·rw [if_pos h, if_pos (by omega), if_pos (by omega)]
  rfl
 ·rw [if_neg h, if_neg (by omega)]
structure DecM (n : Nat) (M' M : List Int) : Prop where
 len : M'.length = 3600
 le : ∀ i j, i < n -> j < n -> mg M' i j <= mg M i j
theorem DecM.refl {n : Nat} {M : List Int} (h : M.length = 3600) : DecM n M M := ⟨h, fun _ _ _ _ => Int.le_refl _⟩
theorem DecM.trans {n : Nat} {A B C : List Int} (h : DecM n A B) (h' : DecM n B C) : DecM n A C := ⟨h.len, fun i j hi hj => Int.le_trans (h.le i j hi hj) (h'.le i j hi hj)⟩
theorem zia {α : Type} {n : Nat} {f : List Int -> α -> List Int} : ∀ (l : List α) (_ : ∀ M x, x ∈ l -> M.length = 3600 -> DecM n (f M x) M) (M : List Int), M.length = 3600 -> DecM n (l.foldl f M) M
 | [], _, M, h => .refl h
 | x :: l, hf, M, h => (zia l (fun M y hy => hf M y (List.mem_cons_of_mem _ hy)) (f M x) (hf M x (by simp) h).len).trans (hf M x (by simp) h)
theorem yef {α : Type} {n : Nat} {f : List Int -> α -> List Int} {l : List α} (hf : ∀ M x, x ∈ l -> M.length = 3600 -> DecM n (f M x) M) {M : List Int} (h : M.length = 3600) {x : α} (hx : x ∈ l) :
  ∃ M1, DecM n M1 M /\ DecM n (l.foldl f M) (f M1 x) := by
 obtain ⟨a, b, rfl⟩ := List.append_of_mem hx
 have h1 := zia a (fun M y hy => hf M y (by simp [hy])) M h
 refine ⟨_, h1, ?_⟩
 rw [List.foldl_append, List.foldl_cons]
 exact zia b (fun M y hy => hf M y (by simp [hy])) _ (hf _ x (by simp) h1.len).len
def zda (k i : Nat) (M : List Int) (j : Nat) : List Int := M.set (i * 60 + j) (min (mg M i j) (mg M i k + mg M k j))
def zsl (n k : Nat) (M : List Int) (i : Nat) : List Int := (List.range n).foldl (zda k i) M
def zch (n : Nat) (M : List Int) (k : Nat) : List Int := (List.range n).foldl (zsl n k) M
def yrm (n : Nat) (M : List Int) : List Int := (List.range n).foldl (zch n) M
section
variable {n : Nat} (hn : n <= 60)
include hn
theorem ztj {k i j : Nat} {M : List Int} (hi : i < n) (hj : j < n) (h : M.length = 3600) : DecM n (zda k i M j) M := by
 refine ⟨by simp [zda, h], fun a b ha hb => ?_⟩
 rw [zda, zti h (by omega) (by omega) (by omega)]
 split
 ·rename_i e
  rw [e.1, e.2]
  omega
 ·exact Int.le_refl _
theorem ylm {k i j : Nat} {M : List Int} (hi : i < n) (hj : j < n) (h : M.length = 3600) : mg (zda k i M j) i j <= mg M i k + mg M k j := by
 rw [zda, zti h (by omega) (by omega) (by omega), if_pos ⟨rfl, rfl⟩]
 omega
theorem zyx {k i : Nat} {M : List Int} (hi : i < n) (h : M.length = 3600) : DecM n (zsl n k M i) M :=
 zia _ (fun M x hx h => ztj hn hi (by simpa using hx) h) M h
theorem ybg {k : Nat} {M : List Int} (h : M.length = 3600) : DecM n (zch n M k) M :=
 zia _ (fun M x hx h => zyx hn (by simpa using hx) h) M h
theorem yha {k i j : Nat} {M : List Int} (hk : k < n) (hi : i < n) (hj : j < n) (h : M.length = 3600) : mg (zch n M k) i j <= mg M i k + mg M k j := by
 obtain ⟨M1, h1, h2⟩ := yef (n := n) (f := zsl n k) (l := List.range n) (fun M x hx h => zyx hn (by simpa using hx) h) h (x := i) (by simpa using hi)
 obtain ⟨M2, h3, h4⟩ := yef (n := n) (f := zda k i) (l := List.range n) (fun M x hx h => ztj hn hi (by simpa using hx) h) h1.len (x := j) (by simpa using hj)
 have e1 := h2.le i j hi hj
 have e2 := h4.le i j hi hj
 have e3 := ylm hn (k := k) hi hj h3.len
 have e4 := (h3.trans h1).le i k hi hk
 have e5 := (h3.trans h1).le k j hk hj
 have e6 : mg (zsl n k M1 i) i j = mg (List.foldl (zda k i) M1 (List.range n)) i j := rfl
 have e7 : mg (zch n M k) i j = mg (List.foldl (zsl n k) M (List.range n)) i j := rfl
 omega
end
inductive WalkB (E : Nat -> Nat -> Prop) (K : Nat) : Nat -> Nat -> Nat -> Prop
 | one {i j : Nat} : E i j -> WalkB E K i j 1
 | step {i k j L : Nat} : E i k -> k < K -> WalkB E K k j L -> WalkB E K i j (L + 1)
theorem WalkB.split {E : Nat -> Nat -> Prop} {K i j L : Nat} (h : WalkB E (K + 1) i j L) : WalkB E K i j L \/ ∃ L1 L2, WalkB E K i K L1 /\ WalkB E K K j L2 /\ L1 + L2 <= L := by
 induction h with
 | one h => exact .inl (.one h)
 | @step i k j L h hk _ ih =>
  rcases ih with h1 | ⟨L1, L2, h1, h2, h3⟩
  ·by_cases e : k = K
   ·subst e
    exact .inr ⟨1, L, .one h, h1, by omega⟩
   ·exact .inl (.step h (by omega) h1)
  ·by_cases e : k = K
   ·subst e
    exact .inr ⟨1, L2, .one h, h2, by omega⟩
   ·exact .inr ⟨L1 + 1, L2, .step h (by omega) h1, h2, by omega⟩
theorem WalkB.append {E : Nat -> Nat -> Prop} {K i k j L L' : Nat} (h : WalkB E K i k L) (h' : WalkB E K k j L') (hk : k < K) : WalkB E K i j (L + L') := by
 induction h with
 | one h => rw [Nat.add_comm]; exact .step h hk h'
 | @step i k j L h h1 _ ih =>
  have := ih h' hk
  rw [show L + 1 + L' = L + L' + 1 by omega]
  exact .step h h1 this
theorem zlt : ∀ {n : Nat} {l : List Nat}, l.Nodup -> (∀ x ∈ l, x < n) -> l.length <= n
 | 0, l, _, h => by
  cases l with
  | nil => simp
  | cons a l => have := h a (by simp); omega
 | n + 1, l, hd, h => by
  by_cases hm : n ∈ l
  ·have h1 := zlt (n := n) (l := l.erase n) (hd.erase n) (fun x hx => by
    have := (hd.mem_erase_iff).1 hx
    have := h x this.2
    omega)
   rw [List.length_erase_of_mem hm] at h1
   omega
  ·have := zlt (n := n) (l := l) hd (fun x hx => by
    have := h x hx
    have : x ≠ n := fun e => hm (e ▸ hx)
    omega)
   omega
theorem WalkB.points {E : Nat -> Nat -> Prop} {n j : Nat} : ∀ {L i : Nat}, i < n -> WalkB E n i j L -> (∀ L', WalkB E n i j L' -> L <= L') ->
  ∃ vs : List Nat, vs.length = L /\ vs.Nodup /\ (∀ x ∈ vs, x < n) /\ ∀ x ∈ vs, ∃ m, m <= L /\ WalkB E n x j m
 | 0, i, _, h, _ => by cases h
 | L + 1, i, hi, h, hmin => by
  cases h with
  | one h => exact ⟨[i], rfl, by simp, by simpa using hi, fun x hx => by simp at hx; subst hx; exact ⟨1, by omega, .one h⟩⟩
  | @step _ k _ _ h hk hw =>
   obtain ⟨vs, h1, h2, h3, h4⟩ := WalkB.points hk hw (fun L' hw' => by have := hmin _ (.step h hk hw'); omega)
   refine ⟨i :: vs, by simp [h1], ?_, fun x hx => ?_, fun x hx => ?_⟩
   ·rw [List.nodup_cons]
    refine ⟨fun hm => ?_, h2⟩
    obtain ⟨m, hm1, hm2⟩ := h4 i hm
    have := hmin m hm2
    omega
   ·rcases List.mem_cons.1 hx with rfl | hx
    ·exact hi
    ·exact h3 x hx
   ·rcases List.mem_cons.1 hx with rfl | hx
    ·exact ⟨L + 1, Nat.le_refl _, .step h hk hw⟩
    ·obtain ⟨m, hm1, hm2⟩ := h4 x hx
     exact ⟨m, by omega, hm2⟩
theorem WalkB.short {E : Nat -> Nat -> Prop} {n j L i : Nat} (h : WalkB E n i j L) (hi : i < n) : ∃ L', L' <= n /\ WalkB E n i j L' := by
 induction L using Nat.strongRecOn generalizing i with
 | ind L ih =>
  by_cases hmin : ∀ L', WalkB E n i j L' -> L <= L'
  ·obtain ⟨vs, h1, h2, h3, _⟩ := WalkB.points hi h hmin
   exact ⟨L, by have := zlt h2 h3; omega, h⟩
  ·obtain ⟨L', h1⟩ := Classical.not_forall.1 hmin
   obtain ⟨h2, h3⟩ := Classical.not_imp.1 h1
   exact ih L' (by omega) h2 hi
structure FW (E : Nat -> Nat -> Prop) (n K : Nat) (M : List Int) : Prop where
 len : M.length = 3600
 low : ∀ i j, i < n -> j < n -> 1 <= mg M i j
 sound : ∀ i j, i < n -> j < n -> mg M i j < 1000 -> ∃ L : Nat, WalkB E n i j L /\ mg M i j = L
 comp : ∀ i j L, i < n -> j < n -> WalkB E K i j L -> mg M i j <= L
structure FS (E : Nat -> Nat -> Prop) (n : Nat) (M : List Int) : Prop where
 len : M.length = 3600
 low : ∀ i j, i < n -> j < n -> 1 <= mg M i j
 sound : ∀ i j, i < n -> j < n -> mg M i j < 1000 -> ∃ L : Nat, WalkB E n i j L /\ mg M i j = L
theorem FS.cell {E : Nat -> Nat -> Prop} {n k i j : Nat} {M : List Int} (hn : n <= 60) (hk : k < n) (hi : i < n) (hj : j < n) (h : FS E n M) : FS E n (zda k i M j) := by
 have h1 := h.low i j hi hj
 have h2 := h.low i k hi hk
 have h3 := h.low k j hk hj
 refine ⟨by simp [zda, h.len], fun a b ha hb => ?_, fun a b ha hb hlt => ?_⟩
 ·rw [zda, zti h.len (by omega) (by omega) (by omega)]
  split
  ·omega
  ·exact h.low a b ha hb
 ·rw [zda, zti h.len (by omega) (by omega) (by omega)] at hlt ⊢
  split at hlt
  ·rename_i e
   rw [if_pos e, e.1, e.2]
   rcases Int.le_total (mg M i j) (mg M i k + mg M k j) with h4 | h4
   ·rw [Int.min_eq_left h4] at hlt ⊢
    exact h.sound i j hi hj hlt
   ·rw [Int.min_eq_right h4] at hlt ⊢
    obtain ⟨L1, w1, e1⟩ := h.sound i k hi hk (by omega)
    obtain ⟨L2, w2, e2⟩ := h.sound k j hk hj (by omega)
    exact ⟨L1 + L2, w1.append w2 hk, by omega⟩
  ·rename_i e
   rw [if_neg e]
   exact h.sound a b ha hb hlt
theorem wi {α : Type} {Q : List Int -> Prop} {f : List Int -> α -> List Int} : ∀ (l : List α) (_ : ∀ M x, x ∈ l -> Q M -> Q (f M x)) (M : List Int), Q M -> Q (l.foldl f M)
 | [], _, _, h => h
 | x :: l, hf, M, h => wi l (fun M y hy => hf M y (List.mem_cons_of_mem _ hy)) (f M x) (hf M x (by simp) h)
theorem FS.round {E : Nat -> Nat -> Prop} {n k : Nat} {M : List Int} (hn : n <= 60) (hk : k < n) (h : FS E n M) : FS E n (zch n M k) :=
 wi _ (fun M i hi h => wi (Q := FS E n) _ (fun _ j hj h => h.cell hn hk (by simpa using hi) (by simpa using hj)) M h) M h
theorem FW.round {E : Nat -> Nat -> Prop} {n k : Nat} {M : List Int} (hn : n <= 60) (hk : k < n) (h : FW E n k M) : FW E n (k + 1) (zch n M k) := by
 obtain ⟨g1, g2, g3⟩ := FS.round hn hk ⟨h.len, h.low, h.sound⟩
 refine ⟨g1, g2, g3, fun i j L hi hj hw => ?_⟩
 rcases hw.split with h1 | ⟨L1, L2, h1, h2, h3⟩
 ·have := (ybg hn (k := k) h.len).le i j hi hj
  have := h.comp i j L hi hj h1
  omega
 ·have := yha hn hk hi hj h.len
  have := h.comp i k L1 hi hk h1
  have := h.comp k j L2 hk hj h2
  omega
theorem FW.all {E : Nat -> Nat -> Prop} {n : Nat} {M : List Int} (hn : n <= 60) (h : FW E n 0 M) : FW E n n (yrm n M) := by
 have : ∀ m, m <= n -> FW E n m ((List.range m).foldl (zch n) M) := by
  intro m
  induction m with
  | zero => intro _; exact h
  | succ m ih =>
   intro hm
   rw [List.range_succ, List.foldl_append]
   exact (ih (by omega)).round hn (by omega)
 exact this n (Nat.le_refl _)
def initRow (nd : List (List Int)) (M : List Int) (i : Nat) : List Int :=
 (nd.getD i []).foldl (fun M x => M.set (i * 60 + x.toNat) 1) ((List.range nd.length).foldl (fun M j => M.set (i * 60 + j) 1000) M)
def zgn (nd : List (List Int)) : List Int := (List.range nd.length).foldl (initRow nd) (List.replicate 3600 0)
def yrn (nd : List (List Int)) : Prop := nd.length <= 60 /\ ∀ i, ∀ x ∈ nd.getD i [], 0 <= x /\ x < nd.length
def yvs (nd : List (List Int)) (i j : Nat) : Prop := (j : Int) ∈ nd.getD i []
theorem ybh {i : Nat} : ∀ (l : List Nat) (M : List Int), (l.foldl (fun M j => M.set (i * 60 + j) 1000) M).length = M.length
 | [], _ => rfl
 | x :: l, M => by rw [List.foldl_cons, ybh l]; simp
theorem yln {i : Nat} : ∀ (l : List Int) (M : List Int), (l.foldl (fun M x => M.set (i * 60 + x.toNat) 1) M).length = M.length
 | [], _ => rfl
 | x :: l, M => by rw [List.foldl_cons, yln l]; simp
theorem ylo {i a b : Nat} (hi : i < 60) (hb : b < 60) : ∀ (l : List Nat) (M : List Int), M.length = 3600 -> (∀ x ∈ l, x < 60) ->
  mg (l.foldl (fun M j => M.set (i * 60 + j) 1000) M) a b = if a = i /\ b ∈ l then 1000 else mg M a b
 | [], M, _, _ => by simp
 | x :: l, M, hl, h => by
  rw [List.foldl_cons, ylo hi hb l _ (by simpa using hl) (fun y hy => h y (by simp [hy])), zti hl hi (h x (by simp)) hb]
  by_cases e : a = i <;> by_cases e2 : b = x <;> by_cases e3 : b ∈ l <;> simp [e, e2, e3] <;> (try (subst e2; simp_all)) <;> (try omega)
theorem ylp {i a b : Nat} (hi : i < 60) (hb : b < 60) : ∀ (l : List Int) (M : List Int), M.length = 3600 -> (∀ x ∈ l, 0 <= x /\ x < 60) ->
  mg (l.foldl (fun M x => M.set (i * 60 + x.toNat) 1) M) a b = if a = i /\ (b : Int) ∈ l then 1 else mg M a b
 | [], M, _, _ => by simp
 | x :: l, M, hl, h => by
  have hx := h x (by simp)
  rw [List.foldl_cons, ylp hi hb l _ (by simpa using hl) (fun y hy => h y (by simp [hy])), zti hl hi (by omega) hb]
  by_cases e : a = i
  ·by_cases e3 : (b : Int) ∈ l
   ·simp [e, e3]
   ·by_cases e2 : (b : Int) = x
    ·have h1 : b = x.toNat := by omega
     rw [if_neg (fun h => e3 h.2), if_pos ⟨e, h1⟩, if_pos ⟨e, by rw [e2]; simp⟩]
    ·have : ¬ b = x.toNat := by omega
     simp [e, e3, this, e2]
  ·simp [e]
theorem ybi {nd : List (List Int)} (hnd : yrn nd) {M : List Int} (hl : M.length = 3600) {i a b : Nat} (hi : i < nd.length) (hb : b < nd.length) :
  mg (initRow nd M i) a b = if a = i then (if (b : Int) ∈ nd.getD i [] then 1 else 1000) else mg M a b := by
 have h60 := hnd.1
 unfold initRow
 rw [ylp (by omega) (by omega) _ _ (by rw [ybh, hl]) (fun x hx => by have := hnd.2 i x hx; omega), ylo (by omega) (by omega) _ _ hl (fun x hx => by have := List.mem_range.1 hx; omega)]
 have hbr : b ∈ List.range nd.length := by simpa using hb
 by_cases e : a = i
 ·by_cases e2 : (b : Int) ∈ nd.getD i []
  ·rw [if_pos ⟨e, e2⟩, if_pos e, if_pos e2]
  ·rw [if_neg (fun h => e2 h.2), if_pos ⟨e, hbr⟩, if_pos e, if_neg e2]
 ·rw [if_neg (fun h => e h.1), if_neg (fun h => e h.1), if_neg e]
theorem zrb (nd : List (List Int)) (M : List Int) (i : Nat) : (initRow nd M i).length = M.length := by rw [initRow, yln, ybh]
theorem zkm {nd : List (List Int)} (hnd : yrn nd) {a b : Nat} (ha : a < nd.length) (hb : b < nd.length) : mg (zgn nd) a b = if (b : Int) ∈ nd.getD a [] then 1 else 1000 := by
 have key : ∀ m, m <= nd.length -> ((List.range m).foldl (initRow nd) (List.replicate 3600 0)).length = 3600 /\ ∀ a, a < m -> mg ((List.range m).foldl (initRow nd) (List.replicate 3600 0)) a b = if (b : Int) ∈ nd.getD a [] then 1 else 1000 := by
  intro m
  induction m with
  | zero => intro _; exact ⟨List.length_replicate, fun a ha => by omega⟩
  | succ m ih =>
   intro hm
   obtain ⟨h1, h2⟩ := ih (by omega)
   rw [List.range_succ, List.foldl_append]
   refine ⟨by rw [List.foldl_cons, List.foldl_nil, zrb, h1], fun a ha => ?_⟩
   rw [List.foldl_cons, List.foldl_nil, ybi hnd h1 (by omega) hb]
   by_cases e : a = m
   ·subst e; simp
   ·rw [if_neg e, h2 a (by omega)]
 exact (key nd.length (Nat.le_refl _)).2 a ha
theorem ybj (nd : List (List Int)) : (zgn nd).length = 3600 := by
 unfold zgn
 generalize List.range nd.length = l
 have : ∀ (l : List Nat) (M : List Int), M.length = 3600 -> (l.foldl (initRow nd) M).length = 3600 := by
  intro l
  induction l with
  | nil => intro M h; exact h
  | cons x l ih => intro M h; rw [List.foldl_cons]; exact ih _ (by rw [zrb, h])
 exact this l _ List.length_replicate
theorem yro {nd : List (List Int)} (hnd : yrn nd) : FW (yvs nd) nd.length 0 (zgn nd) := by
 refine ⟨ybj nd, fun i j hi hj => ?_, fun i j hi hj h => ?_, fun i j L hi hj hw => ?_⟩
 ·rw [zkm hnd hi hj]; split <;> omega
 ·rw [zkm hnd hi hj] at h ⊢
  split at h
  ·rename_i e
   exact ⟨1, .one e, by rw [if_pos e]; rfl⟩
  ·omega
 ·cases hw with
  | one h => rw [zkm hnd hi hj, if_pos (show (j : Int) ∈ nd.getD i [] from h)]; omega
  | step _ h _ => omega
def zem (nd : List (List Int)) : List Int := yrm nd.length (zgn nd)
theorem yrp {nd : List (List Int)} (hnd : yrn nd) : FW (yvs nd) nd.length nd.length (zem nd) := (yro hnd).all hnd.1
def zfi (M : List Int) (s : Int) (i : Nat) : Int := if mg M i i < 1000 /\ (s < 0 \/ mg M i i < mg M s.toNat s.toNat) then (i : Int) else s
def zeb (M : List Int) (n : Nat) : Int := (List.range n).foldl (zfi M) (-1)
def yeg (nd : List (List Int)) (M : List Int) (start : Nat) (left : Int) (last : Nat) : Option Int := (nd.getD last []).find? fun x => decide (mg M x.toNat start = left)
def zjp (nd : List (List Int)) (M : List Int) (start : Nat) : Nat -> Nat -> List Int
 | 0, _ => []
 | left + 1, last => match yeg nd M start (left + 1 : Nat) last with
  | some x => x :: zjp nd M start left x.toNat
  | none => zjp nd M start left last
def zlu (nd : List (List Int)) : List Int :=
 let M := zem nd
 let s := zeb M nd.length
 if s < 0 then [] else s :: zjp nd M s.toNat (mg M s.toNat s.toNat - 1).toNat s.toNat
end Go.Proofs.YtblpjknmhajcgaaGreatDoor
namespace Go.Sh
section
variable {P : Program} {G : List (Nat × D)} {w : World} {I : Imm} {β : List Bnd} {H : List SObj}
theorem yhb {t : TypeId} {len k : Nat} {ss : List (Nat × SV)} {ps : Array (Nat × Value)} {rows : List (List D)} (h : wy P t len ss H = some (.imm (.isl k rows), H)) (hrl : rows.length = len) (hH : HeapOK G w I β H) (hp : RepParts w I β ps.toList ss) :
  ∃ u w' I' β', (Instr.buildSlice t len ps).run P w = .ok u w' /\ Rep w' I' β' u (.asl H.length k rows) /\ HeapOK G w' I' β' (H ++ [.tok k len]) /\ Ext H.length w I β H w' I' β' (H ++ [.tok k len]) := by
 unfold wy at h
 split at h <;> first | (cases h; done) | skip
 rename_i e hu
 split at h <;> first | (cases h; done) | skip
 rename_i k' z hk hz
 split at h
 ·cases h
 rename_i hbig
 split at h
 ·split at h <;> cases h
 ·rename_i h0
  split at h <;> first | (cases h; done) | skip
  rename_i rows' hf
  split at h <;> first | (cases h; done) | skip
  rename_i hpl
  cases h
  have hz0 : ¬ len * k = 0 := by
   intro hc
   rcases Nat.mul_eq_zero.1 hc with hc | hc
   ·exact h0 hc
   ·exact hbig (.inr hc)
  have hlk : len <= len * k := Nat.le_mul_of_pos_right len (Nat.pos_of_ne_zero fun h => hbig (.inr h))
  have hb24 : ¬ len * k > 2 ^ 24 := fun h => hbig (.inl h)
  obtain ⟨vs', B, h1, h2, h3, h4⟩ := zug (vs := (Array.range (len * k)).map (z.cells[· % z.cells.size]!)) hf hp (by simp [hpl])
  simp only [Nat.zero_mul, List.take_zero, List.nil_append] at h2
  obtain ⟨h5, h6⟩ := hH.allocTok (m := H.length) (k := k) (n := len) (cap := len) (vs := vs') (T := e) (by rw [<- Array.length_toList, h2, <- hrl]; exact h3.1) (Nat.le_refl _) (by unfold maxLen; omega)
  have hrun : (Instr.buildSlice t len ps).run P w = .ok (.slice (some ⟨w.heap.size, 0, none⟩) len len) (w.alloc (.cells vs' e)) := by
   simp only [Instr.buildSlice, Sem.run_bind, run_underlying hu, Result.andThen_ok, xa hk]
   rw [if_neg (fun h => hbig (.inl h)), if_neg hz0]
   simp only [Sem.run_pure, Sem.run_bind, Result.andThen_ok, zbb hz, h1, newRow, run_newObj]
   rfl
  refine ⟨_, _, _, _, hrun, .asl H.length k rows _ _ len ?_ (by rw [<- hH.len]; simp) ⟨_, len, rfl⟩ (by omega) (fun _ => rfl), h5, h6⟩
  have := (h3.mono h6.imm h6.cell).drep (by omega) (fun o ho => ⟨.inr ⟨rfl, ho⟩, by rw [yv (xf _), <- h2]; simp⟩) (Nat.le_refl _) (by unfold maxLen; omega)
  exact this
end
section
variable {P : Program} {G : List (Nat × D)} {fn : Func} {rd : Bool} {E : En P G fn rd} {t : List (Nat × SV)} {H K : List SObj} {k : List Item} {m : Nat} {all : Array Oper} {rest : List Oper} {done : List Eff} {o : Oper}
theorem yhc {ty len kk : Nat} {ps : Array (Nat × Operand)} {rows : List (List D)} (hop : o.op = .buildSlice ty len ps) (hw : zy all t o.guard = some true) (hd : yf fn.ntmps o.dst = true)
  (hb : wy P ty len (ps.toList.map fun p => (p.1, zn G t p.2)) H = some (.imm (.isl kk rows), H)) (hrl : rows.length = len)
  (h : SWr E all rest k (wm t o.dst (.asl H.length kk rows)) (H ++ [.tok kk len])) : SWr E all (o :: rest) k t H := by
 refine zan hw hd (fun c e => by rw [hop] at e; cases e) (by simp) (fun ρ w I β hH hev => ?_) h
 obtain ⟨dst, op, type, pos, after, guard⟩ := o
 simp only at hop
 subst hop
 obtain ⟨u, w', I', β', h1, h2, h3, h4⟩ := yhb (ps := ps.map fun p => (p.1, ρ p.2)) hb hrl hH (by simpa using zhl hev ps.toList)
 exact OpRun.value h1 h2 h3 h4
theorem ylq {ty e n len : Nat} {x ix : Operand} {b off i : Nat} {mm : Int} {kk : IntKind} (hx : zn G t x = .ptr b off) (hi : zn G t ix = .imm (.val (.int kk mm)))
  (hu : P.underlying ty = some (.array len e)) (hn : wb P e = some n) (hmm : mm = (i : Int)) (hr : i < len) (H : List SObj) : sop P (.indexAddr ty x ix) (zn G t) H = some (.ptr b (off + i * n), H) := by
 subst hmm
 simp only [sop, hi, jv, hu, hn, hx]
 rw [if_pos (by omega)]
 simp
theorem zib {ty e n len : Nat} {x ix : Operand} {b off i : Nat} {mm : Int} {kk : IntKind} (hop : o.op = .indexAddr ty x ix)
  (hw : zy all t o.guard = some true) (hd : yf fn.ntmps o.dst = true) (hx : zn G t x = .ptr b off) (hi : zn G t ix = .imm (.val (.int kk mm)))
  (hu : P.underlying ty = some (.array len e)) (hn : wb P e = some n) (hmm : mm = (i : Int)) (hr : i < len)
  (h : SWr E all rest k (wm t o.dst (.ptr b (off + i * n))) H) : SWr E all (o :: rest) k t H :=
 zas hw hd (by rw [hop]; exact ylq hx hi hu hn hmm hr H) (Nat.le_refl _) h
theorem zbo {ty e n len : Nat} {x ix : Operand} {b off i : Nat} {mm : Int} {kk : IntKind} (hop : o.op = .indexAddr ty x ix)
  (hw : zy all t o.guard = some true) (hd : yf fn.ntmps o.dst = true) (hx : zn G t x = .ptr b off) (hi : zn G t ix = .imm (.val (.int kk mm)))
  (hu : P.underlying ty = some (.array len e)) (hn : wb P e = some n) (hm : m <= K.length) (hmm : mm = (i : Int)) (hr : i < len)
  (h : SWe E m all rest k (wm t o.dst (.ptr b (off + i * n))) K (done ++ [⟨.ptr b (off + i * n), [], none⟩])) : SWe E m all (o :: rest) k t K done :=
 jn ⟨.ptr b (off + i * n), [], none⟩ hw hd hm (fun K' _ _ => by rw [hop]; exact ylq hx hi hu hn hmm hr K') h
end
end Go.Sh
namespace Go.Proofs.YtblpjknmhajcgaaGreatDoor
open Go Go.Sh
variable (G : List (Nat × D))
abbrev zkn (M : List Int) : SObj := .cells (M.map sI)
theorem zen {M : List Int} (hl : M.length = 3600) {i j : Nat} (hi : i < 60) (hj : j < 60) {off : Nat} (ho : off = i * 60 + j) : zju Tryz.prog 3 (M.map sI) off = some (sI (mg M i j)) := by
 subst ho
 show (M.map sI)[i * 60 + j]? = _
 rw [List.getElem?_map, mg, List.getD_eq_getElem?_getD]
 have : i * 60 + j < M.length := by omega
 rw [List.getElem?_eq_getElem this]
 rfl
section
variable {P : Program} {G : List (Nat × D)} {fn : Func} {rd : Bool} {E : En P G fn rd} {t : List (Nat × SV)} {H K : List SObj} {k : List Item} {m : Nat} {all : Array Oper} {rest : List Oper} {done : List Eff} {o : Oper}
theorem yhd {ty : Nat} {v : SV} (hop : o.op = .build ty #[]) (hw : zy all t o.guard = some true) (hd : yf fn.ntmps o.dst = true) (hb : zpi P ty [] = some v) (h : SWr E all rest k (wm t o.dst v) H) : SWr E all (o :: rest) k t H :=
 zas (r := v) (H' := H) hw hd (by rw [hop]; simp only [sop, List.map_nil, hb, Option.map_some]) (Nat.le_refl _) h
theorem ylr {ty : Nat} {cs : List SV} (hop : o.op = .alloc ty) (hw : zy all t o.guard = some true) (hd : yf fn.ntmps o.dst = true) (hz : (je P ty).map zcp = some cs) (h : SWr E all rest k (wm t o.dst (.ptr H.length 0)) (H ++ [.cells cs])) : SWr E all (o :: rest) k t H := by
 obtain ⟨z, h1, h2⟩ := Option.map_eq_some_iff.1 hz
 exact zas (r := .ptr H.length 0) (H' := H ++ [.cells cs]) hw hd (by rw [hop]; simp only [sop, h1, Option.map_some, h2]) (by simp) h
theorem ztk {ty : Nat} {ax vx : Operand} {b off p : Nat} {M : List Int} {v : Int} (hop : o.op = .store ty ax vx) (hw : zy all t o.guard = some true) (hd : yf fn.ntmps o.dst = true) (ha : zn G t ax = .ptr b off) (hv : zn G t vx = sI v) (hsz : wb P ty = some 1)
  (hb : H[b]? = some (zkn M)) (ho : off = p) (hp : p < M.length) (h : SWr E all rest k (wm t o.dst .any) (H.set b (zkn (M.set p v)))) : SWr E all (o :: rest) k t H := by
 have e : zkn (M.set p v) = .cells ((M.take p).map sI ++ sI v :: (M.drop (p + 1)).map sI) := by rw [zki sI M p hp v]
 rw [e] at h
 exact jo (zz := sI (M[p]'hp)) (d := (M.take p).map sI) (r := (M.drop (p + 1)).map sI) hop hw hd ha hv rfl rfl hsz (by rw [hb, zkn, zcx sI M p hp]) (by rw [ho, List.length_map, List.length_take]; omega) h
theorem yhe {ty : Nat} {ax vx : Operand} {b off p : Nat} {M : List Int} {v : Int} (hop : o.op = .store ty ax vx) (hw : zy all t o.guard = some true) (hd : yf fn.ntmps o.dst = true) (ha : zn G t ax = .ptr b off) (hv : zn G t vx = sI v) (hsz : wb P ty = some 1) (hm : m <= K.length)
  (hb : K[b]? = some (zkn M)) (ho : off = p) (hp : p < M.length) (h : SWe E m all rest k (wm t o.dst .any) (K.set b (zkn (M.set p v))) (done ++ [⟨.any, [b], some (b, zkn (M.set p v))⟩])) : SWe E m all (o :: rest) k t K done := by
 have e : zkn (M.set p v) = .cells ((M.take p).map sI ++ sI v :: (M.drop (p + 1)).map sI) := by rw [zki sI M p hp v]
 rw [e] at h
 exact zdv (zz := sI (M[p]'hp)) (d := (M.take p).map sI) (r := (M.drop (p + 1)).map sI) hop hw hd ha hv rfl rfl hsz hm (by rw [hb, zkn, zcx sI M p hp]) (by rw [ho, List.length_map, List.length_take]; omega) h
end
theorem yrq : zpi Tryz.prog 84 [] = some (.agg (List.replicate 3600 (sI 0))) := by kernel_rfl
theorem yrr : (je Tryz.prog 84).map zcp = some (List.replicate 3600 (sI 0)) := by kernel_rfl
def Bd (M : List Int) : Prop := M.length = 3600 /\ ∀ x ∈ M, 0 <= x /\ x <= 1000
theorem Bd.set {M : List Int} (h : Bd M) (p : Nat) {v : Int} (hv : 0 <= v /\ v <= 1000) : Bd (M.set p v) := ⟨by rw [List.length_set]; exact h.1, fun x hx => by
 rcases List.mem_or_eq_of_mem_set hx with hx | rfl
 ·exact h.2 x hx
 ·exact hv⟩
theorem Bd.mg {M : List Int} (h : Bd M) (i j : Nat) : 0 <= mg M i j /\ mg M i j <= 1000 := by
 unfold Go.Proofs.YtblpjknmhajcgaaGreatDoor.mg
 rw [List.getD_eq_getElem?_getD]
 cases hg : M[i * 60 + j]? with
 | none => simp
 | some x => exact h.2 x (List.mem_of_getElem? hg)
theorem Bd.cell {M : List Int} (h : Bd M) (k i j : Nat) : Bd (zda k i M j) := by
 have h1 := h.mg i j
 have h2 := h.mg i k
 have h3 := h.mg k j
 exact h.set _ (by omega)
theorem Bd.row {M : List Int} (h : Bd M) (n k i : Nat) : Bd (zsl n k M i) := wi (Q := Bd) _ (fun _ j _ h => h.cell k i j) M h
theorem Bd.round {M : List Int} (h : Bd M) (n k : Nat) : Bd (zch n M k) := wi (Q := Bd) _ (fun _ i _ h => h.row n k i) M h
theorem Bd.initRow {M : List Int} (h : Bd M) (nd : List (List Int)) (i : Nat) : Bd (initRow nd M i) := by
 unfold Go.Proofs.YtblpjknmhajcgaaGreatDoor.initRow
 refine wi (Q := Bd) _ (fun _ _ _ h => h.set _ (by decide)) _ ?_
 exact wi (Q := Bd) _ (fun _ _ _ h => h.set _ (by decide)) M h
theorem Bd.zero : Bd (List.replicate 3600 0) := ⟨by rw [List.length_replicate], fun x hx => by rw [(List.mem_replicate.1 hx).2]; decide⟩
theorem zfj {α : Type} (f : α -> Nat -> α) (M : α) (i : Nat) : (List.range (i + 1)).foldl f M = f ((List.range i).foldl f M) i := by rw [List.range_succ, List.foldl_append]; rfl
theorem ytk (c : Codex) (hfit : Codex.fit c) (hN : zq c = true -> NeedC c) (h60 : zq c = true -> c.arts.length <= 60) (hnd : zq c = true -> yrn (zv c)) (hlen : ∀ j : Nat, (xt c j).length <= 1000000) (hz : c.arts.length <= 1000000) :
  yb Tryz.prog G 19 [c.sv] (if zq c = true /\ zlu (zv c) ≠ [] then .imm (dInts (zlu (zv c))) else zev) := by
 have hal : (c.arts.map Article.cells).length = c.arts.length := by simp
 have hV := jr G c hfit
 refine ze Tryz.func19 rfl (by rw [Tryz.ntmps19]; simp) rfl (by split <;> rfl) ?_
 intro E hH hK
 generalize hz2 : zq c = z at hV hN hK h60 hnd
 rw [show c.sv = .agg [.imm (zk c.facts), .imm (zk c.lines), .imm (xw c.arts)] from rfl]
 (refine zh ?_; conv => whnf)
 refine zd rfl  hV ?_
 cases z
 ·(refine za ?_; conv => whnf)
  exact hK _
 have hN := hN rfl
 have h60 := h60 rfl
 have hnd := hnd rfl
 have hndl := jt c
 (refine ym [777, 25] 1000 ?_; conv => whnf)
 rw [hal]
 obtain ⟨M0, hM0⟩ : ∃ M0 : List Int, M0 = List.replicate 3600 0 := ⟨_, rfl⟩
 have hB0 : Bd M0 := hM0 ▸ Bd.zero
 have hm0 : List.replicate 3600 (sI 0) = M0.map sI := by rw [hM0, List.map_replicate]
 have b84 := yrq
 have a84 := yrr
 rw [hm0] at b84 a84
 refine yhd rfl rfl rfl b84 ?_
 refine ylr rfl rfl rfl a84 ?_
 refine zhu (b := 1) (n := 3600) (new := M0.map sI) (old := M0.map sI) rfl rfl rfl rfl rfl (by rw [<- hm0, List.all_replicate]; rfl) (by kernel_rfl) (by rw [List.length_map]; exact hB0.1) rfl (by rw [List.length_map]; exact hB0.1) ?_
 refine Eq.mpr (congrArg (fun h => SWr E _ _ _ _ h) (show _ = [zdo c, zkn M0] from rfl)) ?_
 (refine za ?_; conv => whnf)
 refine yke (n := c.arts.length) (zz := zev) rfl rfl rfl rfl rfl rfl rfl rfl rfl ⟨by decide, rfl⟩ rfl rfl rfl (by omega) ?_
 (refine za ?_; conv => whnf)
 refine zf [1, 3, 4, 5, 28, 29] ?_
 change SW E _ [(1, .ptr 0 0), (3, sI c.arts.length), (4, .ptr 1 0), (5, .osl 2 0 c.arts.length), (28, sI c.arts.length), (29, sI 0)] [zdo c, zkn M0, .cells (List.replicate c.arts.length zev)]
 have hBi : ∀ i, Bd ((List.range i).foldl (initRow (zv c)) M0) := fun i => wi (Q := Bd) _ (fun _ j _ h => h.initRow _ j) M0 hB0
 refine zt c.arts (fun i (_ : Unit) => [(1, .ptr 0 0), (3, sI c.arts.length), (4, .ptr 1 0), (5, .osl 2 0 c.arts.length), (28, sI c.arts.length), (29, sI i)]) (fun i _ => [zdo c, zkn ((List.range i).foldl (initRow (zv c)) M0), .cells (((zv c).take i).map (fun l => SV.imm (dInts l)) ++ List.replicate (c.arts.length - i) zev)])
  (fun _ _ _ => True) () trivial ?_ ?_
 ·rintro _ _
  rw [Nat.sub_self, List.replicate_zero, List.append_nil, List.take_of_length_le (by rw [jt]; exact Nat.le_refl _)]
  have hB1 := hBi c.arts.length
  have hI : (List.range c.arts.length).foldl (initRow (zv c)) M0 = zgn (zv c) := by rw [zgn, hndl, hM0]
  have hDi : zem (zv c) = (List.range c.arts.length).foldl (zch c.arts.length) (zgn (zv c)) := by rw [zem, yrm, hndl]
  rw [hI] at hB1 ⊢
  generalize zgn (zv c) = M1 at hB1 hDi ⊢
  (refine zh ?_; conv => whnf)
  repeat' ((with_reducible refine way ?_ ?_) <;> (intro h; conv => whnf))
  all_goals try (exfalso; omega)
  refine zf [1, 3, 4, 5, 62, 63] ?_
  have hBk : ∀ k, Bd ((List.range k).foldl (zch c.arts.length) M1) := fun k => wi (Q := Bd) _ (fun _ j _ h => h.round _ j) M1 hB1
  change SW E _ [(1, .ptr 0 0), (3, sI c.arts.length), (4, .ptr 1 0), (5, .osl 2 0 c.arts.length), (62, sI c.arts.length), (63, sI 0)] [zdo c, zkn (M1), .cells (znx c)]
  refine zt (List.range c.arts.length) (fun k (_ : Unit) => [(1, .ptr 0 0), (3, sI c.arts.length), (4, .ptr 1 0), (5, .osl 2 0 c.arts.length), (62, sI c.arts.length), (63, sI k)]) (fun k _ => [zdo c, zkn ((List.range k).foldl (zch c.arts.length) M1), .cells (znx c)]) (fun _ _ _ => True) () trivial ?_ ?_
  ·rintro _ _
   rw [List.length_range, <- hDi]
   have hBD := hBk c.arts.length
   rw [<- hDi] at hBD
   clear hDi hBk hBi hB1 hM0 hB0 hm0 b84 a84
   have hro : zlu (zv c) = if zeb (zem (zv c)) c.arts.length < 0 then [] else zeb (zem (zv c)) c.arts.length :: zjp (zv c) (zem (zv c)) (zeb (zem (zv c)) c.arts.length).toNat (mg (zem (zv c)) (zeb (zem (zv c)) c.arts.length).toNat (zeb (zem (zv c)) c.arts.length).toNat - 1).toNat (zeb (zem (zv c)) c.arts.length).toNat := by rw [zlu, hndl]
   have hlow : ∀ i j, i < c.arts.length -> j < c.arts.length -> 1 <= mg (zem (zv c)) i j := fun i j hi hj => (yrp hnd).low i j (by rw [hndl]; exact hi) (by rw [hndl]; exact hj)
   generalize zem (zv c) = D at hBD hro hlow ⊢
   (refine zh ?_; conv => whnf)
   repeat' ((with_reducible refine way ?_ ?_) <;> (intro h; conv => whnf))
   all_goals try (exfalso; omega)
   refine zf [1, 3, 4, 5, 13, 98, 99] ?_
   change SW E _ [(1, .ptr 0 0), (3, sI c.arts.length), (4, .ptr 1 0), (5, .osl 2 0 c.arts.length), (13, sI (-1)), (98, sI c.arts.length), (99, sI 0)] [zdo c, zkn D, .cells (znx c)]
   refine zt (List.range c.arts.length) (fun i (s : Int) => [(1, .ptr 0 0), (3, sI c.arts.length), (4, .ptr 1 0), (5, .osl 2 0 c.arts.length), (13, sI s), (98, sI c.arts.length), (99, sI i)]) (fun _ _ => [zdo c, zkn D, .cells (znx c)])
    (fun done _ s => s = zeb D done.length /\ (s = -1 \/ 0 <= s /\ s < c.arts.length)) (-1) ⟨rfl, .inl rfl⟩ ?_ ?_
   ·rintro s ⟨s1, s2⟩
    rw [List.length_range] at s1 ⊢
    rw [<- s1] at hro
    by_cases hs0 : s < 0
    ·rw [if_pos hs0] at hro
     rw [hro, if_neg (by simp)] at hK
     (refine zh ?_; conv => whnf)
     repeat' ((with_reducible refine way ?_ ?_) <;> (intro h; conv => whnf))
     all_goals try (exfalso; omega)
     exact hK _
    rw [if_neg hs0] at hro
    rw [if_pos ⟨rfl, by rw [hro]; simp⟩] at hK
    have hss := hBD.mg s.toNat s.toNat
    have hsl := hlow s.toNat s.toNat (by omega) (by omega)
    (refine wv [777, 130] 1000 ?_; conv => whnf)
    repeat' ((with_reducible refine way ?_ ?_) <;> (intro h; conv => whnf))
    all_goals try (exfalso; omega)
    refine yhc (rows := [[dI s]]) (kk := 1) rfl rfl rfl rfl rfl ?_
    (refine ym [777, 133] 1000 ?_; conv => whnf)
    refine zib (i := s.toNat) (n := 60) rfl rfl rfl rfl rfl rfl (by rfl) (Int.toNat_of_nonneg (by omega)).symm (by omega) ?_
    refine zib (i := s.toNat) (n := 1) rfl rfl rfl rfl rfl rfl (by rfl) (Int.toNat_of_nonneg (by omega)).symm (by omega) ?_
    refine xq (v := sI (mg D s.toNat s.toNat)) rfl rfl rfl rfl rfl (zen hBD.1 (i := s.toNat) (j := s.toNat) (by omega) (by omega) (by omega)) ?_
    (refine za ?_; conv => whnf)
    refine zf [4, 5, 13, 15, 16] ?_
    have hw0 : IntKind.i64.wrap (mg D s.toNat s.toNat - 1) = (((mg D s.toNat s.toNat - 1).toNat : Nat) : Int) := by
     rw [wo (c := mg D s.toNat s.toNat - 1) (by omega) (by omega)]
     omega
    change SW E _ [(4, .ptr 1 0), (5, .osl 2 0 c.arts.length), (13, sI s), (15, .asl 3 1 ((([] : List Int) ++ [s]).map fun n => [dI n])), (16, sI (IntKind.i64.wrap (mg D s.toNat s.toNat - 1)))] [zdo c, zkn D, .cells (znx c), .tok 1 1]
    rw [hw0]
    refine xy (σ := Nat × List Int × Int) (fun x => [(4, .ptr 1 0), (5, .osl 2 0 c.arts.length), (13, sI s), (15, .asl 3 1 ((x.2.1 ++ [x.2.2]).map fun n => [dI n])), (16, sI x.1)]) (fun x => [zdo c, zkn D, .cells (znx c), .tok 1 ((x.2.1 ++ [x.2.2]).map fun n => [dI n]).length])
     (fun x => zlu (zv c) = x.2.1 ++ [x.2.2] ++ zjp (zv c) D s.toNat x.1 x.2.2.toNat /\ 0 <= x.2.2 /\ x.2.2 < c.arts.length /\ x.2.1.length + x.1 <= 1000) (fun x => x.1) ?_ ((mg D s.toNat s.toNat - 1).toNat, [], s) ⟨by rw [hro]; rfl, by simp only; omega, by simp only; omega, by simp only [List.length_nil]; omega⟩
    rintro ⟨left, P, last⟩ ⟨r1, r2, r3, r4⟩ ihl
    simp only at r1 r2 r3 r4 ihl
    show SW E _ [(4, .ptr 1 0), (5, .osl 2 0 c.arts.length), (13, sI s), (15, .asl 3 1 ((P ++ [last]).map fun n => [dI n])), (16, sI left)] [zdo c, zkn D, .cells (znx c), .tok 1 ((P ++ [last]).map fun n => [dI n]).length]
    have hPl : ((P ++ [last]).map fun n => [dI n]).length = P.length + 1 := by simp
    cases left with
    | zero =>
     rw [zjp, List.append_nil] at r1
     rw [r1] at hK
     refine zfx ?_
     change SW E _ [(4, .ptr 1 0), (5, .osl 2 0 c.arts.length), (13, sI s), (15, .imm (dInts (P ++ [last]))), (16, sI 0)] _
     (refine zh ?_; conv => whnf)
     exact hK _
    | succ left =>
     have hbg : (znx c)[last.toNat]? = some (.imm (dInts (xt c (last.toNat : Int)))) := by rw [znx, List.getElem?_map, zaz (by omega)]; rfl
     have hgd : (zv c).getD last.toNat [] = xt c (last.toNat : Int) := by rw [List.getD_eq_getElem?_getD, zaz (by omega)]; rfl
     have hnr : ∀ y ∈ xt c (last.toNat : Int), 0 <= y /\ y < c.arts.length := fun y hy => by
      have := hnd.2 last.toNat y (by rw [hgd]; exact hy)
      rw [hndl] at this
      exact this
     have hnl := hlen last.toNat
     have hrg : zjp (zv c) D s.toNat (left + 1) last.toNat = match (xt c (last.toNat : Int)).find? (fun x => decide (mg D x.toNat s.toNat = ((left + 1 : Nat) : Int))) with | some x => x :: zjp (zv c) D s.toNat left x.toNat | none => zjp (zv c) D s.toNat left last.toNat := by rw [zjp, yeg, hgd]; try rfl
     rw [hrg] at r1
     generalize xt c (last.toNat : Int) = nl at hbg hnr hnl r1
     have hwl : IntKind.i64.wrap (((left + 1 : Nat) : Int) - 1) = ((left : Nat) : Int) := by rw [wo (c := ((left + 1 : Nat) : Int) - 1) (by omega) (by omega)]; omega
     have hwp : IntKind.i64.wrap ((((P ++ [last]).map fun n => [dI n]).length : Int) - 1) = ((P.length : Nat) : Int) := by rw [hPl, wo (c := ((P.length + 1 : Nat) : Int) - 1) (by omega) (by omega)]; omega
     (refine zh ?_; conv => whnf)
     repeat' ((with_reducible refine way ?_ ?_) <;> (intro h; conv => whnf))
     all_goals try (exfalso; omega)
     refine zg rfl  hwp (row := [dI last]) (by simp) ?_
     (refine ym [777, 148] 1000 ?_; conv => whnf)
     refine zge (i := last.toNat) rfl rfl rfl rfl rfl rfl rfl (Int.toNat_of_nonneg r2).symm (by omega) ?_
     refine xq (v := .imm (dInts nl)) rfl rfl rfl rfl rfl (by show (znx c)[0 + last.toNat * 1]? = _; rw [Nat.zero_add, Nat.mul_one]; exact hbg) ?_
     (refine za ?_; conv => whnf)
     refine zf [4, 5, 13, 15, 16, 149, 150, 151] ?_
     have hnl2 : (nl.map fun n => [dI n]).length = nl.length := by simp
     change SW E _ [(4, .ptr 1 0), (5, .osl 2 0 c.arts.length), (13, sI s), (15, .asl 3 1 ((P ++ [last]).map fun n => [dI n])), (16, sI ((left + 1 : Nat) : Int)), (149, .imm (dInts nl)), (150, sI (nl.map fun n => [dI n]).length), (151, sI 0)] [zdo c, zkn D, .cells (znx c), .tok 1 ((P ++ [last]).map fun n => [dI n]).length]
     have hu4 : ∀ m, [zdo c, zkn D, SObj.cells (znx c), SObj.tok 1 m].all (SObj.under 4) = true := fun m => by
      have h1 : (zkn D).under 4 = true := zkl _ _ _
      have h2 : (SObj.cells (znx c)).under 4 = true := zkl _ _ _
      simp only [List.all_cons, List.all_nil, h1, h2, Bool.and_true]
      rfl
     refine zt nl (fun i (_ : Unit) => [(4, .ptr 1 0), (5, .osl 2 0 c.arts.length), (13, sI s), (15, .asl 3 1 ((P ++ [last]).map fun n => [dI n])), (16, sI ((left + 1 : Nat) : Int)), (149, .imm (dInts nl)), (150, sI (nl.map fun n => [dI n]).length), (151, sI i)]) (fun _ _ => [zdo c, zkn D, .cells (znx c), .tok 1 ((P ++ [last]).map fun n => [dI n]).length])
      (fun done _ _ => ∀ x ∈ done, decide (mg D x.toNat s.toNat = ((left + 1 : Nat) : Int)) = false) () (by simp) ?_ ?_
     ·rintro _ g1
      have hfn : nl.find? (fun x => decide (mg D x.toNat s.toNat = ((left + 1 : Nat) : Int))) = none := List.find?_eq_none.2 fun x hx => by rw [g1 x hx]; decide
      rw [hfn] at r1
      (refine zh ?_; conv => whnf)
      repeat' ((with_reducible refine way ?_ ?_) <;> (intro h; conv => whnf))
      all_goals try (exfalso; omega)
      rw [hwl]
      refine zf [4, 5, 13, 15, 16] ?_
      exact ihl (left, P, last) ⟨r1, r2, r3, by simp only; omega⟩ (by simp only; omega)
     ·rintro dx y rx _ hdax hdlx g1 ihx
      have hwx := zm (n := dx.length) (by omega)
      have hry : (nl.map fun n => [dI n])[((dx.length : Nat) : Int).toNat]? = some [dI y] := by simp [hdax]
      have hyr := hnr y (by rw [hdax]; simp)
      (refine zh ?_; conv => whnf)
      repeat' ((with_reducible refine way ?_ ?_) <;> (intro h; conv => whnf))
      all_goals try (exfalso; omega)
      refine zg rfl rfl  hry ?_
      (refine ym [777, 157] 1000 ?_; conv => whnf)
      refine zib (i := y.toNat) (n := 60) rfl rfl rfl rfl rfl rfl (by rfl) (Int.toNat_of_nonneg hyr.1).symm (by omega) ?_
      (refine ym [777, 158] 1000 ?_; conv => whnf)
      refine zib (i := s.toNat) (n := 1) rfl rfl rfl rfl rfl rfl (by rfl) (Int.toNat_of_nonneg (by omega)).symm (by omega) ?_
      refine xq (v := sI (mg D y.toNat s.toNat)) rfl rfl rfl rfl rfl (zen hBD.1 (i := y.toNat) (j := s.toNat) (by omega) (by omega) (by omega)) ?_
      (refine za ?_; conv => whnf)
      by_cases he : mg D y.toNat s.toNat = ((left + 1 : Nat) : Int)
      ·have hfs : nl.find? (fun x => decide (mg D x.toNat s.toNat = ((left + 1 : Nat) : Int))) = some y := by
        rw [hdax, List.find?_append, List.find?_eq_none.2 (fun x hx => by rw [g1 x hx]; decide), Option.none_or, List.find?_cons, decide_eq_true he]
       rw [hfs] at r1
       repeat' ((with_reducible refine way ?_ ?_) <;> (intro h; conv => whnf))
       all_goals try (exfalso; omega)
       refine zaq (b := 3) (kk := 1) (rows := (P ++ [last]).map fun n => [dI n]) (new := [[dI y]]) rfl ⟨by decide, rfl⟩ rfl (by rw [hPl]; simp only [List.length_cons, List.length_nil]; omega) ?_
       have e5 : ((P ++ [last]).map fun n => [dI n]) ++ [[dI y]] = ((P ++ [last]) ++ [y]).map fun n => [dI n] := by simp
       have e6 : ((P ++ [last]).map fun n => [dI n]).length + [[dI y]].length = (((P ++ [last]) ++ [y]).map fun n => [dI n]).length := by simp
       refine Eq.mpr (congrArg (fun v => SWr E _ _ _ (wm _ _ (.asl 3 1 v)) _) e5) ?_
       refine Eq.mpr (congrArg (fun v => SWr E _ _ _ _ (List.set _ 3 (.tok 1 v))) e6) ?_
       (refine za ?_; conv => whnf)
       rw [hwl]
       refine zf [4, 5, 13, 15, 16] ?_
       exact ihl (left, P ++ [last], y) ⟨by simp only; rw [r1]; simp, hyr.1, hyr.2, by simp only [List.length_append, List.length_cons, List.length_nil]; omega⟩ (by simp only; omega)
      ·repeat' ((with_reducible refine way ?_ ?_) <;> (intro h; conv => whnf))
       all_goals try (exfalso; omega)
       rw [hwx]
       refine zf [4, 5, 13, 15, 16, 149, 150, 151] ?_
       refine ihx () fun x hx => ?_
       rcases List.mem_append.1 hx with hx | hx
       ·exact g1 x hx
       ·simp at hx; rw [hx]; exact decide_eq_false he
   ·rintro di xi ri s hdai hdli ⟨s1, s2⟩ ihi
    rw [List.length_range] at hdli
    have hwi := zm (n := di.length) (by omega)
    have hst : zeb D (di.length + 1) = zfi D s di.length := by rw [zeb, zfj, <- zeb, <- s1]
    (refine zh ?_; conv => whnf)
    repeat' ((with_reducible refine way ?_ ?_) <;> (intro h; conv => whnf))
    all_goals try (exfalso; omega)
    (refine ya 0 mixed rfl ?_; refine zc [777, 104] (nx := 3) ?_; conv => whnf)
    refine zbo (i := di.length) (n := 60) rfl rfl rfl rfl rfl rfl (by rfl) (show 3 <= 3 by decide) rfl (by omega) ?_
    refine zbo (i := di.length) (n := 1) rfl rfl rfl rfl rfl rfl (by rfl) (show 3 <= 3 by decide) rfl (by omega) ?_
    refine jy (v := sI (mg D di.length di.length)) rfl rfl rfl (show 3 <= 3 by decide) rfl rfl (zen hBD.1 (i := di.length) (j := di.length) (by omega) (by omega) (by omega)) ?_
    refine jn ⟨sB (decide (mg D di.length di.length < 1000)), [], none⟩ rfl rfl (show 3 <= 3 by decide) (fun _ _ _ => rfl) ?_
    by_cases hc : mg D di.length di.length < 1000
    ·rw [decide_eq_true hc]
     (refine zc [777, 110] (nx := 3) ?_; conv => whnf)
     refine jn ⟨sB (decide (s < 0)), [], none⟩ rfl rfl (show 3 <= 3 by decide) (fun _ _ _ => rfl) ?_
     by_cases hs0 : s < 0
     ·rw [decide_eq_true hs0]
      (refine zc [777, 124] (nx := 3) ?_; conv => whnf)
      refine jn ⟨sB true, [], none⟩ rfl rfl (show 3 <= 3 by decide) (fun _ _ _ => rfl) ?_
      refine zbz (by kernel_rfl) ?_
      (refine zh ?_; conv => whnf)
      rw [hwi]
      refine zf [1, 3, 4, 5, 13, 98, 99] ?_
      refine ihi (di.length : Int) ⟨?_, ?_⟩
      ·rw [List.length_append, List.length_cons, List.length_nil, hst, zfi, if_pos ⟨hc, .inl hs0⟩]
      ·omega
     ·rw [decide_eq_false hs0]
      (refine zc [777, 114] (nx := 3) ?_; conv => whnf)
      refine zbo (i := di.length) (n := 60) rfl rfl rfl rfl rfl rfl (by rfl) (show 3 <= 3 by decide) rfl (by omega) ?_
      refine zbo (i := di.length) (n := 1) rfl rfl rfl rfl rfl rfl (by rfl) (show 3 <= 3 by decide) rfl (by omega) ?_
      refine jy (v := sI (mg D di.length di.length)) rfl rfl rfl (show 3 <= 3 by decide) rfl rfl (zen hBD.1 (i := di.length) (j := di.length) (by omega) (by omega) (by omega)) ?_
      (refine zc [777, 119] (nx := 3) ?_; conv => whnf)
      refine zbo (i := s.toNat) (n := 60) rfl rfl rfl rfl rfl rfl (by rfl) (show 3 <= 3 by decide) (Int.toNat_of_nonneg (by omega)).symm (by omega) ?_
      refine zbo (i := s.toNat) (n := 1) rfl rfl rfl rfl rfl rfl (by rfl) (show 3 <= 3 by decide) (Int.toNat_of_nonneg (by omega)).symm (by omega) ?_
      refine jy (v := sI (mg D s.toNat s.toNat)) rfl rfl rfl (show 3 <= 3 by decide) rfl rfl (zen hBD.1 (i := s.toNat) (j := s.toNat) (by omega) (by omega) (by omega)) ?_
      refine jn ⟨sB (decide (mg D di.length di.length < mg D s.toNat s.toNat)), [], none⟩ rfl rfl (show 3 <= 3 by decide) (fun _ _ _ => rfl) ?_
      by_cases hlt : mg D di.length di.length < mg D s.toNat s.toNat
      ·rw [decide_eq_true hlt]
       (refine zc [777, 124] (nx := 3) ?_; conv => whnf)
       refine jn ⟨sB true, [], none⟩ rfl rfl (show 3 <= 3 by decide) (fun _ _ _ => rfl) ?_
       refine zbz (by kernel_rfl) ?_
       (refine zh ?_; conv => whnf)
       rw [hwi]
       refine zf [1, 3, 4, 5, 13, 98, 99] ?_
       refine ihi (di.length : Int) ⟨?_, ?_⟩
       ·rw [List.length_append, List.length_cons, List.length_nil, hst, zfi, if_pos ⟨hc, .inr hlt⟩]
       ·omega
      ·rw [decide_eq_false hlt]
       (refine zc [777, 124] (nx := 3) ?_; conv => whnf)
       refine jn ⟨sB false, [], none⟩ rfl rfl (show 3 <= 3 by decide) (fun _ _ _ => rfl) ?_
       refine zbz (by kernel_rfl) ?_
       (refine zh ?_; conv => whnf)
       rw [hwi]
       refine zf [1, 3, 4, 5, 13, 98, 99] ?_
       refine ihi s ⟨?_, ?_⟩
       ·rw [List.length_append, List.length_cons, List.length_nil, hst, zfi, if_neg (fun h => h.2.elim hs0 hlt)]
       ·omega
    ·rw [decide_eq_false hc]
     (refine zc [777, 124] (nx := 3) ?_; conv => whnf)
     refine jn ⟨sB false, [], none⟩ rfl rfl (show 3 <= 3 by decide) (fun _ _ _ => rfl) ?_
     refine zbz (by kernel_rfl) ?_
     (refine zh ?_; conv => whnf)
     rw [hwi]
     refine zf [1, 3, 4, 5, 13, 98, 99] ?_
     refine ihi s ⟨?_, ?_⟩
     ·rw [List.length_append, List.length_cons, List.length_nil, hst, zfi, if_neg (fun h => hc h.1)]
     ·omega
  ·rintro dk xk rk _ hdak hdlk _ ihk
   rw [List.length_range] at hdlk
   have hwk := zm (n := dk.length) (by omega)
   have hB := hBk dk.length
   rw [zfj] at ihk
   generalize (List.range dk.length).foldl (zch c.arts.length) M1 = Mk at hB ihk ⊢
   rw [zch] at ihk
   (refine zh ?_; conv => whnf)
   repeat' ((with_reducible refine way ?_ ?_) <;> (intro h; conv => whnf))
   all_goals try (exfalso; omega)
   refine zf [1, 3, 4, 5, 10, 62, 63, 66, 67] ?_
   have hBi2 : ∀ i, Bd ((List.range i).foldl (zsl c.arts.length dk.length) Mk) := fun i => wi (Q := Bd) _ (fun _ j _ h => h.row _ _ j) Mk hB
   change SW E _ [(1, .ptr 0 0), (3, sI c.arts.length), (4, .ptr 1 0), (5, .osl 2 0 c.arts.length), (10, sI dk.length), (62, sI c.arts.length), (63, sI dk.length), (66, sI c.arts.length), (67, sI 0)] [zdo c, zkn (Mk), .cells (znx c)]
   refine zt (List.range c.arts.length) (fun i (_ : Unit) => [(1, .ptr 0 0), (3, sI c.arts.length), (4, .ptr 1 0), (5, .osl 2 0 c.arts.length), (10, sI dk.length), (62, sI c.arts.length), (63, sI dk.length), (66, sI c.arts.length), (67, sI i)]) (fun i _ => [zdo c, zkn ((List.range i).foldl (zsl c.arts.length dk.length) Mk), .cells (znx c)]) (fun _ _ _ => True) () trivial ?_ ?_
   ·rintro _ _
    rw [List.length_range]
    (refine zh ?_; conv => whnf)
    repeat' ((with_reducible refine way ?_ ?_) <;> (intro h; conv => whnf))
    all_goals try (exfalso; omega)
    rw [hwk]
    refine zf [1, 3, 4, 5, 62, 63] ?_
    exact ihk () trivial
   ·rintro di xi ri _ hdai hdli _ ihi
    rw [List.length_range] at hdli
    have hwi := zm (n := di.length) (by omega)
    have hB := hBi2 di.length
    rw [zfj] at ihi
    generalize (List.range di.length).foldl (zsl c.arts.length dk.length) Mk = Mi at hB ihi ⊢
    rw [zsl] at ihi
    (refine zh ?_; conv => whnf)
    repeat' ((with_reducible refine way ?_ ?_) <;> (intro h; conv => whnf))
    all_goals try (exfalso; omega)
    refine zf [1, 3, 4, 5, 10, 11, 62, 63, 66, 67, 70, 71] ?_
    have hBj : ∀ j, Bd ((List.range j).foldl (zda dk.length di.length) Mi) := fun j => wi (Q := Bd) _ (fun _ j _ h => h.cell _ _ j) Mi hB
    change SW E _ [(1, .ptr 0 0), (3, sI c.arts.length), (4, .ptr 1 0), (5, .osl 2 0 c.arts.length), (10, sI dk.length), (11, sI di.length), (62, sI c.arts.length), (63, sI dk.length), (66, sI c.arts.length), (67, sI di.length), (70, sI c.arts.length), (71, sI 0)] [zdo c, zkn (Mi), .cells (znx c)]
    refine zt (List.range c.arts.length) (fun j (_ : Unit) => [(1, .ptr 0 0), (3, sI c.arts.length), (4, .ptr 1 0), (5, .osl 2 0 c.arts.length), (10, sI dk.length), (11, sI di.length), (62, sI c.arts.length), (63, sI dk.length), (66, sI c.arts.length), (67, sI di.length), (70, sI c.arts.length), (71, sI j)]) (fun j _ => [zdo c, zkn ((List.range j).foldl (zda dk.length di.length) Mi), .cells (znx c)]) (fun _ _ _ => True) () trivial ?_ ?_
    ·rintro _ _
     rw [List.length_range]
     (refine zh ?_; conv => whnf)
     repeat' ((with_reducible refine way ?_ ?_) <;> (intro h; conv => whnf))
     all_goals try (exfalso; omega)
     rw [hwi]
     refine zf [1, 3, 4, 5, 10, 62, 63, 66, 67] ?_
     exact ihi () trivial
    rintro dj xj rj _ hdaj hdlj _ ihj
    rw [List.length_range] at hdlj
    have hwj := zm (n := dj.length) (by omega)
    have hB := hBj dj.length
    rw [zfj] at ihj
    generalize (List.range dj.length).foldl (zda dk.length di.length) Mi = M at hB ihj ⊢
    have hmin : (if IntKind.i64.wrap (mg M di.length dk.length + mg M dk.length dj.length) < mg M di.length dj.length then IntKind.i64.wrap (mg M di.length dk.length + mg M dk.length dj.length) else mg M di.length dj.length) = min (mg M di.length dj.length) (mg M di.length dk.length + mg M dk.length dj.length) := by
     have h1 := hB.mg di.length dk.length
     have h2 := hB.mg dk.length dj.length
     rw [wo (c := mg M di.length dk.length + mg M dk.length dj.length) (by omega) (by omega)]
     split <;> omega
    rw [zda] at ihj
    (refine zh ?_; conv => whnf)
    repeat' ((with_reducible refine way ?_ ?_) <;> (intro h; conv => whnf))
    all_goals try (exfalso; omega)
    (refine ya 0 mixed rfl ?_; refine zc [777, 78] (nx := 3) ?_; conv => whnf)
    refine zbo (i := di.length) (n := 60) rfl rfl rfl rfl rfl rfl (by rfl) (show 3 <= 3 by decide) rfl (by omega) ?_
    refine zbo (i := dj.length) (n := 1) rfl rfl rfl rfl rfl rfl (by rfl) (show 3 <= 3 by decide) rfl (by omega) ?_
    refine jy (v := sI (mg M di.length dj.length)) rfl rfl rfl (show 3 <= 3 by decide) rfl rfl (zen hB.1 (i := di.length) (j := dj.length) (by omega) (by omega) (by omega)) ?_
    (refine zc [777, 83] (nx := 3) ?_; conv => whnf)
    refine zbo (i := di.length) (n := 60) rfl rfl rfl rfl rfl rfl (by rfl) (show 3 <= 3 by decide) rfl (by omega) ?_
    refine zbo (i := dk.length) (n := 1) rfl rfl rfl rfl rfl rfl (by rfl) (show 3 <= 3 by decide) rfl (by omega) ?_
    refine jy (v := sI (mg M di.length dk.length)) rfl rfl rfl (show 3 <= 3 by decide) rfl rfl (zen hB.1 (i := di.length) (j := dk.length) (by omega) (by omega) (by omega)) ?_
    (refine zc [777, 88] (nx := 3) ?_; conv => whnf)
    refine zbo (i := dk.length) (n := 60) rfl rfl rfl rfl rfl rfl (by rfl) (show 3 <= 3 by decide) rfl (by omega) ?_
    refine zbo (i := dj.length) (n := 1) rfl rfl rfl rfl rfl rfl (by rfl) (show 3 <= 3 by decide) rfl (by omega) ?_
    refine jy (v := sI (mg M dk.length dj.length)) rfl rfl rfl (show 3 <= 3 by decide) rfl rfl (zen hB.1 (i := dk.length) (j := dj.length) (by omega) (by omega) (by omega)) ?_
    (refine zc [777, 93] (nx := 3) ?_; conv => whnf)
    refine zbo (i := di.length) (n := 60) rfl rfl rfl rfl rfl rfl (by rfl) (show 3 <= 3 by decide) rfl (by omega) ?_
    refine zbo (i := dj.length) (n := 1) rfl rfl rfl rfl rfl rfl (by rfl) (show 3 <= 3 by decide) rfl (by omega) ?_
    refine yhe (b := 1) (M := M) (p := di.length * 60 + dj.length) (v := if IntKind.i64.wrap (mg M di.length dk.length + mg M dk.length dj.length) < mg M di.length dj.length then IntKind.i64.wrap (mg M di.length dk.length + mg M dk.length dj.length) else mg M di.length dj.length) rfl rfl rfl rfl rfl rfl (show 3 <= 3 by decide) rfl (by omega) (by rw [hB.1]; omega) ?_
    rw [hmin]
    refine zbz (by kernel_rfl) ?_
    refine Eq.mpr (congrArg (fun h => SW E _ _ h) (show _ = [zdo c, zkn (M.set (di.length * 60 + dj.length) (min (mg M di.length dj.length) (mg M di.length dk.length + mg M dk.length dj.length))), .cells (znx c)] from rfl)) ?_
    (refine zh ?_; conv => whnf)
    rw [hwj]
    refine zf [1, 3, 4, 5, 10, 11, 62, 63, 66, 67, 70, 71] ?_
    exact ihj () trivial
 ·rintro done x rest _ hda hdl _ ih
  have hw := zm (n := done.length) (by omega)
  have hi60 : done.length < 60 := by omega
  have hnp := ybe G c hfit (fun _ => hN) (by omega) (done.length : Int)
  rw [if_pos ⟨by omega, by omega, hz2⟩] at hnp
  have htk : (zv c).take (done.length + 1) = (zv c).take done.length ++ [xt c (done.length : Int)] := by rw [List.take_add_one, zaz (by omega)]; rfl
  have hrp : List.replicate (c.arts.length - done.length) zev = zev :: List.replicate (c.arts.length - (done.length + 1)) zev := by rw [show c.arts.length - done.length = (c.arts.length - (done.length + 1)) + 1 by omega, List.replicate_succ]
  have htl : ((zv c).take done.length).length = done.length := by rw [List.length_take, jt]; omega
  have hgd : (zv c).getD done.length [] = xt c (done.length : Int) := by rw [List.getD_eq_getElem?_getD, zaz (by omega)]; rfl
  have hnr : ∀ y ∈ xt c (done.length : Int), 0 <= y /\ y < c.arts.length := fun y hy => by
   have := hnd.2 done.length y (by rw [hgd]; exact hy)
   rw [hndl] at this
   exact this
  have hnl := hlen done.length
  rw [zfj, htk, List.map_append, List.append_assoc] at ih
  rw [hrp]
  have hBd := hBi done.length
  generalize (zv c).take done.length = A at htl ih ⊢
  generalize hMi : (List.range done.length).foldl (initRow (zv c)) M0 = Mi at hBd ih ⊢
  rw [initRow, hgd, hndl] at ih
  (refine zh ?_; conv => whnf)
  repeat' ((with_reducible refine way ?_ ?_) <;> (intro h; conv => whnf))
  all_goals try (exfalso; omega)
  refine zf [1, 3, 4, 5, 6, 28, 29, 32, 33] ?_
  change SW E _ [(1, .ptr 0 0), (3, sI c.arts.length), (4, .ptr 1 0), (5, .osl 2 0 c.arts.length), (6, sI done.length), (28, sI c.arts.length), (29, sI done.length), (32, sI c.arts.length), (33, sI 0)] _
  refine zt (List.range c.arts.length) (fun j (_ : Unit) => [(1, .ptr 0 0), (3, sI c.arts.length), (4, .ptr 1 0), (5, .osl 2 0 c.arts.length), (6, sI done.length), (28, sI c.arts.length), (29, sI done.length), (32, sI c.arts.length), (33, sI j)]) (fun j _ => [zdo c, zkn ((List.range j).foldl (fun M j => M.set (done.length * 60 + j) 1000) Mi), .cells (A.map (fun l => SV.imm (dInts l)) ++ zev :: List.replicate (c.arts.length - (done.length + 1)) zev)])
   (fun _ _ _ => True) () trivial ?_ ?_
  ·rintro _ _
   rw [List.length_range]
   have hBf : Bd ((List.range c.arts.length).foldl (fun M j => M.set (done.length * 60 + j) 1000) Mi) := wi (Q := Bd) _ (fun _ _ _ h => h.set _ (by decide)) Mi hBd
   generalize (List.range c.arts.length).foldl (fun M j => M.set (done.length * 60 + j) 1000) Mi = Mf at hBf ih ⊢
   (refine zh ?_; conv => whnf)
   repeat' ((with_reducible refine way ?_ ?_) <;> (intro h; conv => whnf))
   all_goals try (exfalso; omega)
   refine zd rfl  hnp ?_
   refine zge (i := done.length) rfl rfl rfl rfl rfl rfl rfl rfl (by omega) ?_
   refine jo (d := A.map (fun l => SV.imm (dInts l))) (zz := zev) (r := List.replicate (c.arts.length - (done.length + 1)) zev) (v := .imm (dInts (xt c (done.length : Int)))) rfl rfl rfl rfl rfl rfl rfl rfl rfl (by show 0 + done.length * 1 = _; rw [List.length_map, htl]; omega) ?_
   refine Eq.mpr (congrArg (fun h => SWr E _ _ _ _ h) (show _ = [zdo c, zkn Mf, .cells (A.map (fun l => SV.imm (dInts l)) ++ .imm (dInts (xt c (done.length : Int))) :: List.replicate (c.arts.length - (done.length + 1)) zev)] from rfl)) ?_
   generalize xt c (done.length : Int) = nd at hnr hnl ih ⊢
   (refine za ?_; conv => whnf)
   refine zge (i := done.length) rfl rfl rfl rfl rfl rfl rfl rfl (by omega) ?_
   refine xq (v := .imm (dInts nd)) rfl rfl rfl rfl rfl (by show (A.map (fun l => SV.imm (dInts l)) ++ SV.imm (dInts nd) :: List.replicate (c.arts.length - (done.length + 1)) zev)[0 + done.length * 1]? = _; rw [List.getElem?_append_right (by rw [List.length_map, htl]; omega), List.length_map, htl, show 0 + done.length * 1 - done.length = 0 by omega]; rfl) ?_
   (refine za ?_; conv => whnf)
   refine zf [1, 3, 4, 5, 6, 28, 29, 50, 51, 52] ?_
   have hndl2 : (nd.map fun n => [dI n]).length = nd.length := by simp
   change SW E _ [(1, .ptr 0 0), (3, sI c.arts.length), (4, .ptr 1 0), (5, .osl 2 0 c.arts.length), (6, sI done.length), (28, sI c.arts.length), (29, sI done.length), (50, .imm (dInts nd)), (51, sI (nd.map fun n => [dI n]).length), (52, sI 0)] _
   refine zt nd (fun j (_ : Unit) => [(1, .ptr 0 0), (3, sI c.arts.length), (4, .ptr 1 0), (5, .osl 2 0 c.arts.length), (6, sI done.length), (28, sI c.arts.length), (29, sI done.length), (50, .imm (dInts nd)), (51, sI (nd.map fun n => [dI n]).length), (52, sI j)]) (fun j _ => [zdo c, zkn ((nd.take j).foldl (fun M x => M.set (done.length * 60 + x.toNat) 1) Mf), .cells (A.map (fun l => SV.imm (dInts l)) ++ .imm (dInts nd) :: List.replicate (c.arts.length - (done.length + 1)) zev)])
    (fun _ _ _ => True) () trivial ?_ ?_
   ·rintro _ _
    rw [List.take_length]
    (refine zh ?_; conv => whnf)
    repeat' ((with_reducible refine way ?_ ?_) <;> (intro h; conv => whnf))
    all_goals try (exfalso; omega)
    rw [hw]
    refine zf [1, 3, 4, 5, 28, 29] ?_
    exact ih () trivial
   ·rintro dx y rx _ hdax hdlx _ ihx
    have hwx := zm (n := dx.length) (by omega)
    have hry : (nd.map fun n => [dI n])[((dx.length : Nat) : Int).toNat]? = some [dI y] := by simp [hdax]
    have hyr := hnr y (by rw [hdax]; simp)
    have htk2 : nd.take (dx.length + 1) = nd.take dx.length ++ [y] := by rw [List.take_add_one]; simp [hdax]
    rw [htk2, List.foldl_append] at ihx
    have hBx : Bd ((nd.take dx.length).foldl (fun M x => M.set (done.length * 60 + x.toNat) 1) Mf) := wi (Q := Bd) _ (fun _ _ _ h => h.set _ (by decide)) Mf hBf
    generalize (nd.take dx.length).foldl (fun M x => M.set (done.length * 60 + x.toNat) 1) Mf = Mx at hBx ihx ⊢
    (refine wv [777, 53] 1000 ?_; conv => whnf)
    (refine za ?_; conv => whnf)
    repeat' ((with_reducible refine way ?_ ?_) <;> (intro h; conv => whnf))
    all_goals try (exfalso; omega)
    refine zg rfl rfl  hry ?_
    (refine ym [777, 58] 1000 ?_; conv => whnf)
    refine zib (i := done.length) (n := 60) rfl rfl rfl rfl rfl rfl (by rfl) rfl (by omega) ?_
    (refine ym [777, 59] 1000 ?_; conv => whnf)
    refine zib (i := y.toNat) (n := 1) rfl rfl rfl rfl rfl rfl (by rfl) (Int.toNat_of_nonneg hyr.1).symm (by omega) ?_
    refine ztk (b := 1) (M := Mx) (p := done.length * 60 + y.toNat) (v := 1) rfl rfl rfl rfl rfl rfl rfl (by omega) (by rw [hBx.1]; omega) ?_
    (refine za ?_; conv => whnf)
    rw [hwx]
    refine zf [1, 3, 4, 5, 6, 28, 29, 50, 51, 52] ?_
    exact ihx () trivial
  ·rintro dj xj rj _ hdaj hdlj _ ihj
   rw [List.length_range] at hdlj
   have hwj := zm (n := dj.length) (by omega)
   have hBf : Bd ((List.range dj.length).foldl (fun M j => M.set (done.length * 60 + j) 1000) Mi) := wi (Q := Bd) _ (fun _ _ _ h => h.set _ (by decide)) Mi hBd
   rw [zfj] at ihj
   generalize (List.range dj.length).foldl (fun M j => M.set (done.length * 60 + j) 1000) Mi = Mf at hBf ihj ⊢
   (refine wv [777, 38] 1000 ?_; conv => whnf)
   repeat' ((with_reducible refine way ?_ ?_) <;> (intro h; conv => whnf))
   all_goals try (exfalso; omega)
   refine zib (i := done.length) (n := 60) rfl rfl rfl rfl rfl rfl (by rfl) rfl (by omega) ?_
   (refine ym [777, 39] 1000 ?_; conv => whnf)
   refine zib (i := dj.length) (n := 1) rfl rfl rfl rfl rfl rfl (by rfl) rfl (by omega) ?_
   refine ztk (b := 1) (M := Mf) (p := done.length * 60 + dj.length) (v := 1000) rfl rfl rfl rfl rfl rfl rfl (by omega) (by rw [hBf.1]; omega) ?_
   (refine za ?_; conv => whnf)
   rw [hwj]
   refine zf [1, 3, 4, 5, 6, 28, 29, 32, 33] ?_
   exact ihj () trivial
theorem ztl (c : Codex) (hfit : Codex.fit c) (hN : zq c = true -> NeedC c) (h60 : zq c = true -> c.arts.length <= 60) (hnd : zq c = true -> yrn (zv c)) (hlen : ∀ j : Nat, (xt c j).length <= 1000000) (hz : c.arts.length <= 1000000) :
  yb Tryz.prog G 19 [c.sv] (.imm (dInts (if zq c = true then zlu (zv c) else []))) := by
 have h := ytk G c hfit hN h60 hnd hlen hz
 by_cases h1 : zq c = true
 ·rw [if_pos h1]
  by_cases h2 : zlu (zv c) = []
  ·rw [if_neg (fun h => h.2 h2)] at h
   rw [h2]
   exact zcm h (SV.Is.nil 1)
  ·rw [if_pos ⟨h1, h2⟩] at h
   exact h
 ·rw [if_neg (fun h => h1 h.1)] at h
  rw [if_neg h1]
  exact zcm h (SV.Is.nil 1)
def zny (m : List (Int × Int)) : Prop := ∀ k v, zo k m = some v -> 1 <= k /\ k <= 1000000
theorem zdb {c : Codex} {m : List (Int × Int)} {op n : Int} {u : ByteArray} {den : Int} {ps : List Piece} {ks : List Ex} (h : qm c m op n u den ps ks = true) (hop : 1 <= op /\ op <= 4) : ks = [] /\ zau c.facts c.lines m op n u = true := by
 unfold qm at h
 rw [if_neg (by omega)] at h
 split at h
 ·cases h
 ·simp only [Bool.and_eq_true, decide_eq_true_eq] at h
  exact ⟨List.length_eq_zero_iff.1 h.1, h.2⟩
theorem zvt {c : Codex} {m : List (Int × Int)} {op n : Int} {u : ByteArray} {den : Int} {ps : List Piece} {ks : List Ex} (h : qm c m op n u den ps ks = true) (hop : 5 <= op /\ op <= 17) :
  n = 0 /\ ∃ f l, ks.head? = some f /\ ks.getLast? = some l /\ zaf op u f l ks.length (zbr ks) = true := by
 unfold qm at h
 rw [if_neg (by omega)] at h
 split at h
 ·cases h
 ·rw [if_neg (by omega)] at h
  simp only [Bool.and_eq_true, decide_eq_true_eq] at h
  refine ⟨h.1, ?_⟩
  have h2 := h.2
  cases hf : ks.head? with
  | none => rw [hf] at h2; cases h2
  | some f =>
   cases hl : ks.getLast? with
   | none => rw [hf, hl] at h2; cases h2
   | some l => rw [hf, hl] at h2; exact ⟨f, l, rfl, rfl, h2⟩
theorem ytl {c : Codex} {m : List (Int × Int)} (hm : zny m) (hF : c.facts.length <= 32) {op n : Int} {u : ByteArray} {den : Int} {ps : List Piece} {ks : List Ex} (h : qm c m op n u den ps ks = true) : -1000000000000 <= n /\ n <= 1000000000000 := by
 by_cases h1 : 1 <= op /\ op <= 4
 ·have hl := (zdb h h1).2
  unfold zau at hl
  split at hl
  ·simp only [Bool.and_eq_true, decide_eq_true_eq] at hl; omega
  ·split at hl
   ·simp only [Bool.and_eq_true, decide_eq_true_eq] at hl; omega
   ·split at hl
    ·cases hk : zo n m with
     | none => rw [hk] at hl; cases hl
     | some v => have := hm n v hk; omega
    ·simp only [Bool.and_eq_true, decide_eq_true_eq] at hl; omega
 ·unfold qm at h
  split at h
  ·simp only [Bool.and_eq_true, decide_eq_true_eq] at h; omega
  ·split at h
   ·cases h
   ·simp only [Bool.and_eq_true, decide_eq_true_eq] at h; omega
theorem zdc {c : Codex} {m : List (Int × Int)} {op n : Int} {u : ByteArray} {den : Int} {ps : List Piece} {ks : List Ex} (h : qm c m op n u den ps ks = true) (h2 : op = 2) : 0 <= n /\ n < c.facts.length := by
 have hl := (zdb h (by omega)).2
 unfold zau at hl
 rw [if_neg (by omega), if_pos h2] at hl
 simp only [Bool.and_eq_true, decide_eq_true_eq] at hl
 exact hl.1
theorem zrc {c : Codex} {m : List (Int × Int)} {op n : Int} {u : ByteArray} {den : Int} {ps : List Piece} {ks : List Ex} (h : qm c m op n u den ps ks = true) (h2 : op = 4) : 1 <= n /\ n <= 4 := by
 have hl := (zdb h (by omega)).2
 unfold zau at hl
 rw [if_neg (by omega), if_neg (by omega), if_neg (by omega)] at hl
 simp only [Bool.and_eq_true, decide_eq_true_eq] at hl
 exact hl.1
theorem zvu {c : Codex} {m : List (Int × Int)} {op n : Int} {u : ByteArray} {den : Int} {ps : List Piece} {ks : List Ex} (h : qm c m op n u den ps ks = true) (h2 : op = 5) : ∃ k, ks = [k] := by
 obtain ⟨_, f, l, _, _, g⟩ := zvt h (by omega)
 unfold zaf at g
 rw [if_pos h2] at g
 simp only [Bool.and_eq_true, decide_eq_true_eq] at g
 exact List.length_eq_one_iff.1 (by have := g.1.1; omega)
theorem ybk {ks : List Ex} (h : (ks.length : Int) = 2) : ∃ k l, ks = [k, l] := by
 match ks, h with
 | [k, l], _ => exact ⟨k, l, rfl⟩
theorem zix {c : Codex} {m : List (Int × Int)} {op n : Int} {u : ByteArray} {den : Int} {ps : List Piece} {ks : List Ex} (h : qm c m op n u den ps ks = true) (h2 : 6 <= op /\ op <= 10) : ∃ k l, ks = [k, l] := by
 obtain ⟨_, f, l, _, _, g⟩ := zvt h (by omega)
 unfold zaf at g
 rw [if_neg (by omega)] at g
 split at g
 ·simp only [Bool.and_eq_true, decide_eq_true_eq] at g
  exact ybk (by omega)
 ·split at g
  ·simp only [Bool.and_eq_true, decide_eq_true_eq] at g
   exact ybk (by omega)
  ·rw [if_pos (by omega)] at g
   simp only [Bool.and_eq_true, decide_eq_true_eq] at g
   exact ybk (by omega)
theorem yeh {c : Codex} {m : List (Int × Int)} (hm : zny m) (hF : c.facts.length <= 12) {k : Ex} (h : zfp c m k) : KidOK k := by
 obtain ⟨op, n, u, den, ps, ks⟩ := k
 unfold zfp at h
 refine ⟨fun h2 => ?_, fun h2 => ?_, ?_⟩
 ·have := zdc h.1 h2
  show 0 <= n /\ n < 12
  omega
 ·have := zrc h.1 h2
  show 0 <= n /\ n <= 4
  omega
 ·exact ytl hm (by omega) h.1
theorem znc {c : Codex} {m : List (Int × Int)} (hm : zny m) (hF : c.facts.length <= 12) : ∀ (N : Nat) (e : Ex), SizeOf.sizeOf e < N -> zfp c m e -> yec e
 | 0, _, h, _ => by omega
 | N + 1, .mk op n u den ps ks, hN, h => by
  simp only [Ex.mk.sizeOf_spec] at hN
  unfold zfp at h
  unfold yec
  refine ⟨fun h2 => ?_, fun h2 => ?_, ?_⟩
  ·have := zdc h.1 h2; omega
  ·obtain ⟨k, l, rfl⟩ := zix h.1 (by omega)
   exact ⟨k, l, rfl, yeh hm hF (qa h.2 k (by simp)), yeh hm hF (qa h.2 l (by simp))⟩
  ·split
   ·rename_i h5
    obtain ⟨k, rfl⟩ := zvu h.1 h5
    simp only [List.cons.sizeOf_spec] at hN
    exact ⟨rfl, znc hm hF N k (by omega) (qa h.2 k (by simp))⟩
   ·split
    ·rename_i h6
     obtain ⟨k, l, rfl⟩ := zix h.1 (by omega)
     simp only [List.cons.sizeOf_spec] at hN
     exact ⟨rfl, znc hm hF N k (by omega) (qa h.2 k (by simp)), znc hm hF N l (by omega) (qa h.2 l (by simp))⟩
    ·trivial
theorem ziy : ∀ (N : Nat) (e : Ex), SizeOf.sizeOf e < N -> zna e <= wa e /\ zyu e <= wa e
 | 0, _, h => by omega
 | N + 1, .mk op n u den ps ks, hN => by
  simp only [Ex.mk.sizeOf_spec] at hN
  rw [wa]
  unfold zna zyu
  match ks, hN with
  | [], _ => simp only [yg]; split <;> split <;> (try split) <;> omega
  | [k], hN =>
   simp only [List.cons.sizeOf_spec] at hN
   have := ziy N k (by omega)
   simp only [yg]
   split <;> split <;> (try split) <;> omega
  | k :: l :: r, hN =>
   simp only [List.cons.sizeOf_spec] at hN
   have h1 := ziy N k (by omega)
   have h2 := ziy N l (by omega)
   rw [yg, yg]
   simp only
   split <;> split <;> (try split) <;> omega
theorem yrs {c : Codex} (h : zq c = true) (hF : c.facts.length <= 12) (hw : ∀ a ∈ c.arts, a.when_.length <= 41) : FitC c := by
 obtain ⟨_, h2, m, hm, h4⟩ := zaa h
 refine ⟨fun a ha e he => znc hm hF _ e (Nat.lt_succ_self _) ((h4 a ha).2.2.1 e he).1, hw, fun a ha e he => ?_, fun a ha e he => ?_⟩
 ·have h1 := ((h4 a ha).2.2.1 e he).2
  have := (ziy _ e (Nat.lt_succ_self _)).1
  omega
 ·have h1 := ((h4 a ha).2.2.1 e he).2
  have := (ziy _ e (Nat.lt_succ_self _)).2
  omega
theorem zic (d : Array Int) (hs : ∀ i j, i <= j -> j < d.size -> d[i]! <= d[j]!) : ∀ m, m <= d.size -> (Go.Lib.compactUpTo d m).Pairwise (· < ·) /\ ∀ x ∈ Go.Lib.compactUpTo d m, x <= d[m - 1]!
 | 0, _ => by simp [Go.Lib.compactUpTo]
 | m + 1, hm => by
  obtain ⟨h1, h2⟩ := zic d hs m (by omega)
  rw [Go.Lib.compactUpTo_succ]
  have hle : d[m - 1]! <= d[m]! := hs _ _ (by omega) (by omega)
  cases hk : Go.Lib.keeps d m with
  | false =>
   simp only [Bool.false_eq_true, if_false, List.append_nil]
   exact ⟨h1, fun x hx => by have := h2 x hx; rw [Nat.add_sub_cancel]; omega⟩
  | true =>
   simp only [if_true]
   have hlt : ∀ x ∈ Go.Lib.compactUpTo d m, x < d[m]! := fun x hx => by
    rcases Nat.eq_zero_or_pos m with h0 | h0
    ·subst h0; simp [Go.Lib.compactUpTo] at hx
    ·have hne : d[m]! ≠ d[m - 1]! := fun e => by
      rw [Go.Lib.keeps_neg h0 e] at hk; cases hk
     have := h2 x hx
     omega
   refine ⟨?_, fun x hx => ?_⟩
   ·rw [List.pairwise_append]
    exact ⟨h1, by simp, fun a ha b hb => by simp at hb; rw [hb]; exact hlt a ha⟩
   ·rw [Nat.add_sub_cancel]
    rcases List.mem_append.1 hx with hx | hx
    ·have := hlt x hx; omega
    ·simp at hx; omega
theorem ztm (vs : List Int) : (zr vs).Pairwise (· < ·) := by
 have hs : (zdk vs).Pairwise (· <= ·) := by
  have := List.pairwise_mergeSort (le := fun x y : Int => decide (x <= y)) (fun a b c h1 h2 => by simp at *; omega) (fun a b => by simp; omega) vs
  exact this.imp fun h => by simpa using h
 have hi : ∀ i j, i <= j -> j < (zdk vs).toArray.size -> (zdk vs).toArray[i]! <= (zdk vs).toArray[j]! := fun i j hij hj => by
  simp only [List.size_toArray] at hj
  have e1 : (zdk vs).toArray[i]! = (zdk vs)[i]'(by omega) := by simp; rw [List.getElem?_eq_getElem (show i < (zdk vs).length by omega)]; rfl
  have e2 : (zdk vs).toArray[j]! = (zdk vs)[j] := by simp; rw [List.getElem?_eq_getElem hj]; rfl
  rw [e1, e2]
  rcases Nat.lt_or_ge i j with h | h
  ·exact List.pairwise_iff_getElem.1 hs i j (by omega) hj h
  ·have : i = j := by omega
   subst this; exact Int.le_refl _
 exact (zic _ hi _ (Nat.le_refl _)).1
theorem ziz {vs : List Int} {n : Nat} (h : ∀ v ∈ vs, 0 <= v /\ v < n) : (zr vs).length <= n := by
 have hm : ∀ v ∈ zr vs, 0 <= v /\ v < n := fun v hv => h v ((List.mergeSort_perm vs fun x y => decide (x <= y)).mem_iff.1 (zgl hv))
 have hp := ztm vs
 have hnd : ((zr vs).map Int.toNat).Nodup := by
  rw [List.nodup_iff_pairwise_ne, List.pairwise_map]
  refine (List.Pairwise.and_mem.1 hp).imp ?_
  rintro a b ⟨ha, hb, hab⟩ e
  have := hm a ha
  have := hm b hb
  omega
 have := zlt (n := n) hnd (fun x hx => by
  obtain ⟨v, hv, rfl⟩ := List.mem_map.1 hx
  have := hm v hv
  omega)
 rwa [List.length_map] at this
theorem yls {c : Codex} (h : c.arts.length <= 60) : yrn (zv c) := by
 refine ⟨by rw [jt]; exact h, fun i x hx => ?_⟩
 rw [jt]
 rw [List.getD_eq_getElem?_getD] at hx
 by_cases hi : i < c.arts.length
 ·rw [zaz hi] at hx
  have hx : x ∈ xt c (i : Int) := hx
  obtain ⟨a, ha⟩ : ∃ a, c.arts[i]? = some a := ⟨_, List.getElem?_eq_getElem hi⟩
  obtain ⟨b, h1, _⟩ := (yam (ydj ha) x).1 hx
  obtain ⟨j, rfl, hj⟩ := zlf h1
  have := lt_of_getElem? hj
  omega
 ·rw [List.getElem?_eq_none (by rw [jt]; omega)] at hx
  cases hx
theorem ztn (c : Codex) (names : List Int) (v : Int) : ∀ (l : List Article) (i : Nat), (zfc c names v l i).length <= l.length
 | [], i => by simp [zfc]
 | a :: r, i => by
  have := ztn c names v r (i + 1)
  rw [zfc, List.length_append]
  simp only [List.length_cons]
  split <;> simp <;> omega
theorem zrd (c : Codex) (v : Int) : (xt c v).length <= c.arts.length := by
 unfold xt
 split
 ·exact ztn _ _ _ _ _
 ·simp
theorem Cond.cov_mono {A B : List Cond} (h : ∀ x ∈ A, x ∈ B) : ∀ c : Cond, c.cov A -> c.cov B
 | .none, _ => trivial
 | .plain _, hc => hc
 | .cmp _ _ _, hc => fun hd => ⟨h _ (hc hd).1, (hc hd).2⟩
 | .neg c, hc => Cond.cov_mono h c hc
 | .conn _ l r, hc => ⟨Cond.cov_mono h l hc.1, Cond.cov_mono h r hc.2⟩
abbrev ytm (q : Sr) (f : Int) : Prop := (zo f q.cands).isSome = true
structure CGood (nf : Nat) (q : Sr) (x : Cond) : Prop where
 ok : x.ok nf
 good : x.good
 inF : x.inF (ytm q)
 cov : x.cov q.atoms
structure Grow (q q' : Sr) : Prop where
 has : ∀ f, ytm q f -> ytm q' f
 atoms : ∀ x ∈ q.atoms, x ∈ q'.atoms
theorem Grow.refl (q : Sr) : Grow q q := ⟨fun _ h => h, fun _ h => h⟩
theorem Grow.trans {a b c : Sr} (h : Grow a b) (h' : Grow b c) : Grow a c := ⟨fun f hf => h'.has f (h.has f hf), fun x hx => h'.atoms x (h.atoms x hx)⟩
theorem CGood.grow {nf : Nat} {q q' : Sr} {x : Cond} (h : CGood nf q x) (hg : Grow q q') : CGood nf q' x :=
 ⟨h.ok, h.good, Cond.inF_mono (fun f hf => hg.has f hf) x h.inF, Cond.cov_mono hg.atoms x h.cov⟩
structure CInv (nf : Nat) (q : Sr) : Prop where
 rng : ∀ e ∈ q.cands, 0 <= e.1 /\ e.1 < nf
 nd : (q.cands.map (·.1)).Nodup
 ndv : ∀ e ∈ q.cands, e.2.Nodup
 atoms : ∀ x ∈ q.atoms, x.ok nf /\ ∃ op l r, x = .cmp op l r
theorem znz : ∀ (vs vals : List Int), vals.Nodup -> (vs.foldl ww vals).Nodup
 | [], _, h => h
 | v :: vs, vals, h => by
  refine znz vs _ ?_
  unfold ww
  split
  ·split
   ·exact h
   ·rename_i hn
    rw [List.nodup_append]
    exact ⟨h, by simp, fun a ha b hb => by simp at hb; subst hb; rintro rfl; exact hn ha⟩
  ·exact h
theorem CInv.cand {nf : Nat} {q : Sr} (h : CInv nf q) {f : Int} (hf : 0 <= f /\ f < nf) (vs : List Int) : CInv nf (q.cand f vs) /\ Grow q (q.cand f vs) /\ ytm (q.cand f vs) f := by
 have hlk : ∀ g, zo g (q.cand f vs).cands = if g == f then some (vs.foldl ww ((zo f q.cands).getD [])) else zo g q.cands := fun g => jh g f _ _
 refine ⟨⟨fun e he => ?_, ?_, fun e he => ?_, h.atoms⟩, ⟨fun g hg => ?_, fun x hx => hx⟩, ?_⟩
 ·rcases zis he with rfl | he
  ·exact hf
  ·exact h.rng e he
 ·show ((ains f _ q.cands).map (·.1)).Nodup
  rw [zqy]
  split
  ·exact h.nd
  ·rename_i hn
   rw [List.nodup_append]
   exact ⟨h.nd, by simp, fun a ha b hb => by simp at hb; subst hb; rintro rfl; exact hn ha⟩
 ·rcases zis he with rfl | he
  ·refine znz _ _ ?_
   cases hl : zo f q.cands with
   | none => simp
   | some w => exact h.ndv _ (zcf hl)
  ·exact h.ndv e he
 ·show (zo g (q.cand f vs).cands).isSome = true
  rw [hlk]
  split
  ·rfl
  ·exact hg
 ·show (zo f (q.cand f vs).cands).isSome = true
  rw [hlk]
  simp
theorem CInv.date {nf : Nat} {q : Sr} (h : CInv nf q) (i : Int) : CInv nf (q.date i) := ⟨h.rng, h.nd, h.ndv, h.atoms⟩
theorem CInv.cmpCand {c : Codex} {m : List (Int × Int)} {nf : Nat} (hnf : c.facts.length = nf) {q : Sr} (h : CInv nf q) {f : Ex} (g : Ex) (hf : zfp c m f) : CInv nf (cmpCand q f g) /\ Grow q (cmpCand q f g) /\ (f.op = 2 -> ytm (cmpCand q f g) f.n) := by
 unfold Go.Proofs.YtblpjknmhajcgaaGreatDoor.cmpCand
 split
 ·rename_i h2
  exact ⟨h, .refl _, fun e => absurd e h2⟩
 ·rename_i h2
  have hr : 0 <= f.n /\ f.n < nf := by
   obtain ⟨op, n, u, den, ps, ks⟩ := f
   unfold zfp at hf
   have := zdc hf.1 (by simpa [Ex.op] using h2)
   rw [hnf] at this
   exact this
  split
  ·obtain ⟨a, b, d⟩ := h.cand hr [0, 1]; exact ⟨a, b, fun _ => d⟩
  ·obtain ⟨a, b, d⟩ := h.cand hr [0, g.n, g.n + 1]; exact ⟨a, b, fun _ => d⟩
theorem zpa {nf : Nat} : ∀ (ks : List Ex) (q : Sr) (n : Int), CInv nf q -> CInv nf (xg ks q n).2.1 /\ Grow q (xg ks q n).2.1
 | [], q, _, h => ⟨h, .refl q⟩
 | k :: r, q, n, h => by
  simp only [xg]
  split
  ·exact zpa r q (n + 1) h
  ·split
   ·obtain ⟨a, b⟩ := zpa r (q.date k.n) n (h.date _)
    exact ⟨a, ⟨fun f hf => b.has f hf, fun x hx => b.atoms x hx⟩⟩
   ·split
    ·exact zpa r q n h
    ·exact ⟨h, .refl q⟩
theorem yei {l r : Ex} {q s1 : Sr} {n : Int} (h : xg [l, r] q 0 = (true, s1, n)) (hn : n ≠ 0) : (l.op = 1 \/ r.op = 1) /\ (l.op = 1 \/ l.op = 2 \/ l.op = 4) /\ (r.op = 1 \/ r.op = 2 \/ r.op = 4) := by
 simp only [xg] at h
 by_cases l1 : l.op = 1
 ·by_cases r1 : r.op = 1
  ·exact ⟨.inl l1, .inl l1, .inl r1⟩
  ·rw [if_pos l1, if_neg r1] at h
   by_cases r4 : r.op = 4
   ·exact ⟨.inl l1, .inl l1, .inr (.inr r4)⟩
   ·rw [if_neg r4] at h
    by_cases r2 : r.op = 2
    ·exact ⟨.inl l1, .inl l1, .inr (.inl r2)⟩
    ·rw [if_neg r2] at h; cases h
 ·rw [if_neg l1] at h
  by_cases l4 : l.op = 4
  ·rw [if_pos l4] at h
   by_cases r1 : r.op = 1
   ·exact ⟨.inr r1, .inr (.inr l4), .inl r1⟩
   ·rw [if_neg r1] at h
    by_cases r4 : r.op = 4
    ·rw [if_pos r4] at h; cases h; exact absurd rfl hn
    ·rw [if_neg r4] at h
     by_cases r2 : r.op = 2
     ·rw [if_pos r2] at h; cases h; exact absurd rfl hn
     ·rw [if_neg r2] at h; cases h
  ·rw [if_neg l4] at h
   by_cases l2 : l.op = 2
   ·rw [if_pos l2] at h
    by_cases r1 : r.op = 1
    ·exact ⟨.inr r1, .inr (.inl l2), .inl r1⟩
    ·rw [if_neg r1] at h
     by_cases r4 : r.op = 4
     ·rw [if_pos r4] at h; cases h; exact absurd rfl hn
     ·rw [if_neg r4] at h
      by_cases r2 : r.op = 2
      ·rw [if_pos r2] at h; cases h; exact absurd rfl hn
      ·rw [if_neg r2] at h; cases h
   ·rw [if_neg l2] at h; cases h
theorem yps {c : Codex} {m : List (Int × Int)} {nf : Nat} (hnf : c.facts.length = nf) {k : Ex} (h : zfp c m k) : Opd.ok nf ⟨k.op, k.n⟩ := by
 obtain ⟨op, n, u, den, ps, ks⟩ := k
 unfold zfp at h
 refine ⟨fun h2 => ?_, fun h4 => ?_⟩
 ·have := zdc h.1 h2; rw [hnf] at this; exact this
 ·have := zrc h.1 h4; show 0 <= n /\ n <= 4; omega
theorem yrt {c : Codex} {m : List (Int × Int)} {nf : Nat} (hnf : c.facts.length = nf) {q : Sr} (h : CInv nf q) (op : Int) {l r : Ex} (hl : zfp c m l) (hr : zfp c m r) :
  CInv nf (cmpOf q op [l, r]).2.2 /\ Grow q (cmpOf q op [l, r]).2.2 /\ ((cmpOf q op [l, r]).2.1 = true -> CGood nf (cmpOf q op [l, r]).2.2 (cmpOf q op [l, r]).1) := by
 have h1 := zpa [l, r] q 0 h
 unfold cmpOf
 cases hz : xg [l, r] q 0 with
 | mk b z =>
  obtain ⟨s1, n⟩ := z
  rw [hz] at h1
  simp only at h1
  cases b with
  | false => exact ⟨h1.1, h1.2, fun h => by cases h⟩
  | true =>
   simp only
   by_cases hn : n = 0
   ·rw [if_pos hn]; exact ⟨h1.1, h1.2, fun h => by cases h⟩
   ·rw [if_neg hn]
    obtain ⟨t1, t2, t3⟩ := yei hz hn
    obtain ⟨a1, a2, a3⟩ := h1.1.cmpCand hnf r hl
    obtain ⟨b1, b2, b3⟩ := a1.cmpCand hnf l hr
    have hok : Cond.ok nf (.cmp op ⟨l.op, l.n⟩ ⟨r.op, r.n⟩) := ⟨yps hnf hl, yps hnf hr⟩
    have hg := (h1.2.trans a2).trans b2
    split
    ·rename_i hd
     have hg2 : Grow (cmpCand (cmpCand s1 l r) r l) { cmpCand (cmpCand s1 l r) r l with atoms := (cmpCand (cmpCand s1 l r) r l).atoms ++ [.cmp op ⟨l.op, l.n⟩ ⟨r.op, r.n⟩] } := ⟨fun _ h => h, fun x hx => by simp [hx]⟩
     refine ⟨⟨b1.rng, b1.nd, b1.ndv, fun x hx => ?_⟩, hg.trans hg2, fun _ => ⟨hok, trivial, ⟨fun e => b2.has _ (a3 e), fun e => b3 e⟩, fun _ => ⟨by simp, ?_, ?_⟩⟩⟩
     ·rcases List.mem_append.1 hx with hx | hx
      ·exact b1.atoms x hx
      ·simp at hx; subst hx; exact ⟨hok, _, _, _, rfl⟩
     ·show l.op ≠ 2; omega
     ·show r.op ≠ 2; omega
    ·rename_i hd
     exact ⟨b1, hg, fun _ => ⟨hok, trivial, ⟨fun e => b2.has _ (a3 e), fun e => b3 e⟩, fun hh => absurd hh hd⟩⟩
theorem zja {c : Codex} {m : List (Int × Int)} {nf : Nat} (hnf : c.facts.length = nf) : ∀ (N : Nat) (e : Ex) (q : Sr), SizeOf.sizeOf e < N -> zfp c m e -> CInv nf q ->
  CInv nf (simpleOf e q).2.2 /\ Grow q (simpleOf e q).2.2 /\ ((simpleOf e q).2.1 = true -> CGood nf (simpleOf e q).2.2 (simpleOf e q).1)
 | 0, _, _, h, _, _ => by omega
 | N + 1, .mk op n u den ps ks, q, hN, h, hq => by
  simp only [Ex.mk.sizeOf_spec] at hN
  unfold zfp at h
  rw [zhx]
  by_cases h1 : op = 1
  ·rw [if_pos h1]
   exact ⟨hq, .refl q, fun _ => { ok := ⟨fun e => absurd e (show ¬ (1 : Int) = 2 by decide), fun e => absurd e (show ¬ (1 : Int) = 4 by decide)⟩, good := trivial, inF := fun e => absurd e (show ¬ (1 : Int) = 2 by decide), cov := fun e => absurd e (show ¬ (1 : Int) = 4 by decide) }⟩
  rw [if_neg h1]
  by_cases h2 : op = 2
  ·rw [if_pos h2]
   have hr := zdc h.1 h2
   rw [hnf] at hr
   obtain ⟨a, b, d⟩ := hq.cand hr [0, 1]
   exact ⟨a, b, fun _ => { ok := ⟨fun _ => hr, fun e => absurd e (show ¬ (2 : Int) = 4 by decide)⟩, good := trivial, inF := fun _ => d, cov := fun e => absurd e (show ¬ (2 : Int) = 4 by decide) }⟩
  rw [if_neg h2]
  by_cases h3 : op = 8 \/ op = 9 \/ op = 10
  ·rw [if_pos h3]
   obtain ⟨k, l, rfl⟩ := zix h.1 (by omega)
   exact yrt hnf hq op (qa h.2 k (by simp)) (qa h.2 l (by simp))
  rw [if_neg h3]
  by_cases h4 : op = 5
  ·rw [if_pos h4]
   obtain ⟨k, rfl⟩ := zvu h.1 h4
   simp only [List.cons.sizeOf_spec] at hN
   obtain ⟨a, b, d⟩ := zja hnf N k q (by omega) (qa h.2 k (by simp)) hq
   exact ⟨a, b, fun e => ⟨(d e).ok, (d e).good, (d e).inF, (d e).cov⟩⟩
  rw [if_neg h4]
  by_cases h5 : op = 6 \/ op = 7
  ·rw [if_pos h5]
   obtain ⟨k, l, rfl⟩ := zix h.1 (by omega)
   simp only [List.cons.sizeOf_spec] at hN
   obtain ⟨a, b, d⟩ := zja hnf N k q (by omega) (qa h.2 k (by simp)) hq
   obtain ⟨a', b', d'⟩ := zja hnf N l _ (by omega) (qa h.2 l (by simp)) a
   refine ⟨a', b.trans b', fun e => ?_⟩
   simp only [Bool.and_eq_true] at e
   have g1 := (d e.1).grow b'
   have g2 := d' e.2
   exact ⟨⟨g1.ok, g2.ok⟩, ⟨by split <;> simp, g1.good, g2.good⟩, ⟨g1.inF, g2.inF⟩, ⟨g1.cov, g2.cov⟩⟩
  rw [if_neg h5]
  exact ⟨hq, .refl q, fun e => by cases e⟩
structure CFull (nf : Nat) (q : Sr) (k : Nat) : Prop where
 inv : CInv nf q
 srk : SrK q
 conds : ∀ x ∈ q.conds, CGood nf q x
 cz : q.conds.length <= k
 az : q.atoms.length <= k * 400
 bz : candB q (k * 2400)
theorem zyy {c : Codex} {m : List (Int × Int)} (hm : zny m) {nf : Nat} (hnf : c.facts.length = nf) (hF : nf <= 12) : ∀ (es : List Ex) (q q' : Sr) (k : Nat), (∀ e ∈ es, zfp c m e /\ wa e <= 400) -> CFull nf q k -> zdf es q = some q' -> CFull nf q' (k + es.length)
 | [], q, q', k, _, h, hw => by
  simp only [zdf, Option.some.injEq] at hw
  subst hw
  exact h
 | e :: r, q, q', k, he, h, hw => by
  have hfx := znc hm (by omega) _ e (Nat.lt_succ_self _) (he e (by simp)).1
  have h1 := zja hnf _ e q (Nat.lt_succ_self _) (he e (by simp)).1 h.inv
  have h2 := qe _ e q (Nat.lt_succ_self _) hfx h.srk
  have h3 := zcz _ e q _ (Nat.lt_succ_self _) hfx h.bz
  have h4 := zay _ e q (Nat.lt_succ_self _) hfx
  have h5 := ziy _ e (Nat.lt_succ_self _)
  have h6 := (he e (by simp)).2
  rw [zdf] at hw
  generalize simpleOf e q = z at h1 h2 h3 h4 hw
  obtain ⟨cd, b, q1⟩ := z
  simp only at h1 h2 h3 h4 hw
  cases b with
  | false => cases hw
  | true =>
   have hn : CFull nf { q1 with conds := q1.conds ++ [cd] } (k + 1) := by
    have hgc : ∀ x, CGood nf q1 x -> CGood nf { q1 with conds := q1.conds ++ [cd] } x := fun x hx => ⟨hx.ok, hx.good, hx.inF, hx.cov⟩
    refine ⟨⟨h1.1.rng, h1.1.nd, h1.1.ndv, h1.1.atoms⟩, ⟨h2.1.cands, h2.1.dates⟩, fun x hx => ?_, ?_, ?_, ?_⟩
    ·rcases List.mem_append.1 hx with hx | hx
     ·rw [h4] at hx
      exact hgc x ((h.conds x hx).grow h1.2.1)
     ·simp at hx; subst hx; exact hgc _ (h1.2.2 rfl)
    ·have := h.cz
     simp only [List.length_append, h4, List.length_cons, List.length_nil]
     omega
    ·have := h.az
     have := h2.2
     show q1.atoms.length <= _
     omega
    ·exact candB.mono (q := { q1 with conds := q1.conds ++ [cd] }) h3 (by omega)
   have := zyy hm hnf hF r _ q' (k + 1) (fun x hx => he x (by simp [hx])) hn hw
   rwa [show k + 1 + r.length = k + (e :: r).length by simp; omega] at this
theorem CFull.up {nf : Nat} {q : Sr} {k k' : Nat} (h : CFull nf q k) (hk : k <= k') : CFull nf q k' := ⟨h.inv, h.srk, h.conds, by have := h.cz; omega, by have := h.az; omega, h.bz.mono (by omega)⟩
theorem zre {c : Codex} {m : List (Int × Int)} (hm : zny m) {nf : Nat} (hnf : c.facts.length = nf) (hF : nf <= 12) (ha : ∀ a ∈ c.arts, a.when_.length <= 41 /\ ∀ e ∈ a.when_, zfp c m e /\ wa e <= 400) :
  ∀ (vs : List Int) (q q' : Sr) (k : Nat), CFull nf q k -> zag c vs q = some q' -> CFull nf q' (k + vs.length * 41)
 | [], q, q', k, h, hw => by
  simp only [zag, Option.some.injEq] at hw
  subst hw
  simpa using h
 | v :: r, q, q', k, h, hw => by
  rw [zag] at hw
  cases hv : qf c v with
  | none => rw [hv] at hw; cases hw
  | some a =>
   rw [hv] at hw
   simp only at hw
   obtain ⟨h1, h2⟩ := ha a (zfh hv)
   cases hwn : zdf a.when_ q with
   | none => rw [hwn] at hw; cases hw
   | some q1 =>
    rw [hwn] at hw
    simp only at hw
    have g1 := (zyy hm hnf hF _ q q1 k h2 h hwn).up (k' := k + 41) (by omega)
    have g2 := zre hm hnf hF ha r q1 q' _ g1 hw
    rwa [show k + 41 + r.length * 41 = k + (v :: r).length * 41 by simp; omega] at g2
theorem ytn (nf : Nat) : CFull nf sr0 0 := ⟨⟨by simp [sr0], by simp [sr0], by simp [sr0], by simp [sr0]⟩, ⟨⟨by simp [sr0], by simp [sr0]⟩, rfl⟩, by simp [sr0], by simp [sr0], by simp [sr0], by intro e he; cases he⟩
theorem zgo {c : Codex} (h : zq c = true) (hF : c.facts.length <= 12) (hw : ∀ a ∈ c.arts, a.when_.length <= 41) {vs : List Int} (hv : ∀ v ∈ vs, 0 <= v /\ v < c.arts.length) {q : Sr} (hq : xc c vs = some q) :
  CFull c.facts.length q 2460 /\ zag c (zr vs) sr0 = some q := by
 obtain ⟨_, h60, m, hm, h4⟩ := zaa h
 unfold xc at hq
 cases hg : zag c (zr vs) sr0 with
 | none => rw [hg] at hq; cases hq
 | some q1 =>
  rw [hg] at hq
  simp only at hq
  split at hq
  ·cases hq
   have := zre hm rfl hF (fun a ha => ⟨hw a ha, (h4 a ha).2.2.1⟩) _ sr0 q 0 (ytn _) hg
   have hl := ziz hv
   exact ⟨this.up (by omega), rfl⟩
  ·cases hq
theorem zbp {l : List Int} {x : Int} : x ∈ zdk l ↔ x ∈ l := (List.mergeSort_perm l fun x y => decide (x <= y)).mem_iff
theorem zrf {l : List Int} (h : l.Nodup) : (zdk l).Pairwise (· < ·) := by
 have hs := List.pairwise_mergeSort (le := fun x y : Int => decide (x <= y)) (fun a b c h1 h2 => by simp at *; omega) (fun a b => by simp; omega) l
 have hn : (zdk l).Nodup := (List.mergeSort_perm l fun x y => decide (x <= y)).nodup_iff.2 h
 rw [List.nodup_iff_pairwise_ne] at hn
 exact (hs.and hn).imp fun h => by have := h.1; have := h.2; simp at *; omega
theorem ylt {nf : Nat} {q : Sr} {k : Nat} (h : CFull nf q k) : SrOK q nf := by
 have hkeys : ∀ f, f ∈ zdk (q.cands.map (·.1)) -> 0 <= f /\ f < nf := fun f hf => by
  obtain ⟨e, he, rfl⟩ := List.mem_map.1 (zbp.1 hf)
  exact h.inv.rng e he
 have hfst : (zu q.cands).map (·.1) = zdk (q.cands.map (·.1)) := by
  unfold zu
  rw [List.map_map]
  exact List.map_id _
 refine ⟨fun x hx => (h.conds x hx).good, fun day => ⟨by simp [st0], fun e he => ?_, ?_, fun e he => ?_, fun x hx => ?_, fun e he => ?_⟩, fun x hx => (h.conds x hx).cov⟩
 ·have : e.1 ∈ zdk (q.cands.map (·.1)) := by rw [<- hfst]; exact List.mem_map.2 ⟨e, he, rfl⟩
  have := hkeys _ this
  simpa [st0] using this
 ·rw [hfst]
  exact (List.mergeSort_perm _ fun x y => decide (x <= y)).nodup_iff.2 h.inv.nd
 ·simp only [st0, List.getD_eq_getElem?_getD, List.getElem?_replicate]
  split <;> rfl
 ·refine Cond.inF_mono (fun f hf => .inr ?_) x (h.conds x hx).inF
  have hf : f ∈ q.cands.map (·.1) := by
   have := zcy (k := f) (l := q.cands)
   exact of_decide_eq_true (this ▸ hf : decide (f ∈ q.cands.map (·.1)) = true)
  exact ⟨_, List.mem_map.2 ⟨f, zbp.2 hf, rfl⟩, rfl⟩
 ·obtain ⟨f, hf, rfl⟩ := List.mem_map.1 he
  refine zrf ?_
  cases hl : zo f q.cands with
  | none => simp
  | some w => exact h.inv.ndv _ (zcf hl)
theorem yon {c : Codex} (h : zq c = true) (hF : c.facts.length <= 12) (hw : ∀ a ∈ c.arts, a.when_.length <= 41) {vs : List Int} (hv : ∀ v ∈ vs, 0 <= v /\ v < c.arts.length) {q : Sr} (hq : xc c vs = some q) :
  WitOK (YS c (zr vs) q) c (zr vs) q := by
 obtain ⟨_, h60, m, hm, h4⟩ := zaa h
 obtain ⟨hf, _⟩ := zgo h hF hw hv hq
 have hl := ziz hv
 have hcr : ∀ e ∈ q.cands, 0 <= e.1 /\ e.1 < 12 := hf.srk.cands.rng
 have hu := zao (c := c) (vers := zr vs) (q := q) hcr
 have hcl : q.cands.length <= 12 := by
  have := zlt (n := 12) (l := (q.cands.map (·.1)).map Int.toNat) (by
   rw [List.nodup_iff_pairwise_ne, List.pairwise_map]
   have hn := hf.inv.nd
   rw [List.nodup_iff_pairwise_ne] at hn
   refine (List.Pairwise.and_mem.1 hn).imp ?_
   rintro a b ⟨ha, hb, hab⟩ e
   obtain ⟨x, hx, rfl⟩ := List.mem_map.1 ha
   obtain ⟨y, hy, rfl⟩ := List.mem_map.1 hb
   have := hcr x hx
   have := hcr y hy
   exact hab (by omega)) (fun x hx => by
   obtain ⟨f, hff, rfl⟩ := List.mem_map.1 hx
   obtain ⟨e, he, rfl⟩ := List.mem_map.1 hff
   have := hcr e he
   omega)
  simpa using this
 refine { und := fun i => ?_, maps := ⟨rfl, hcr, fun e he => ?_, hf.inv.nd, fun e he => ?_⟩, nf := by omega, arts := by omega, days := fun a ha => ?_, versR := fun v hvv => ?_, vsz := by omega, cz := by have := hf.cz; omega, az := by have := hf.az; omega, conds := fun x hx => (hf.conds x hx).ok, atoms := hf.inv.atoms, sr := ylt hf, csz := by omega }
 ·unfold YS
  rw [List.getD_eq_getElem?_getD]
  cases hg : (NS c (zr vs) q)[i]? with
  | none => rfl
  | some o => exact List.all_eq_true.1 hu o (List.mem_of_getElem? hg)
 ·unfold YS
  rw [List.getD_eq_getElem?_getD, zys (hcr e he), zbm hf.inv.nd he]
  rfl
 ·have := hf.bz e he
  omega
 ·have := (h4 a ha).1
  unfold zca at this
  simp only [Bool.and_eq_true, decide_eq_true_eq] at this
  omega
 ·exact hv v ((List.mergeSort_perm vs fun x y => decide (x <= y)).mem_iff.1 (zgl hvv))
theorem zjb {c : Codex} (h : zq c = true) (hF : c.facts.length <= 12) (hw : ∀ a ∈ c.arts, a.when_.length <= 41 /\ a.unless_.length <= 80) : SearchC c := by
 obtain ⟨_, h60, _⟩ := zaa h
 refine ⟨yee h (fun a ha => by have := hw a ha; omega), yrs h hF (fun a ha => (hw a ha).1), fun vs hv _ => by have := ziz hv; omega, fun vs q hv _ hq => yon h hF (fun a ha => (hw a ha).1) hv hq⟩
end Go.Proofs.YtblpjknmhajcgaaGreatDoor
namespace Go.Sh
section
variable {P : Program} {G : List (Nat × D)} {w : World} {I : Imm} {β : List Bnd} {H : List SObj} {o : Oper} {ρ : Operand -> Value}
theorem ybl {b n kk by_ e e' : Nat} {z : Value} {sx xx : Operand} {sT xT : Nat} {cs : List SV} {new : List (List D)} (hop : o.op = .call ⟨.builtin .append, #[sx, xx], #[sT, xT]⟩)
  (hH : HeapOK G w I β H) (hr : Rep w I β (ρ sx) (.vec b n)) (hrx : Rep w I β (ρ xx) (.imm (.isl kk new))) (hu : P.underlying sT = some (.slice e)) (hxu : P.underlying xT = some (.slice e'))
  (hpk : wb P e = some kk) (hby : jk P e = some by_) (hz : je P e = some z) (hcond : by_ <= 65536 /\ z.cells.size = kk) (hb : H[b]? = some (.vec kk cs)) (hlen : cs.length = n * kk) (hk : 1 <= kk) (hnew : 1 <= new.length) (hsmall : n + new.length <= 1073741824) :
  OpRun P G (execOp ρ o) w I β H (.vec b (n + new.length)) (H.set b (.vec kk (cs ++ new.flatten.map SV.imm))) := by
 obtain ⟨hbu, hnow⟩ := zho hH hb hr hlen hk
 generalize hxv : ρ xx = xv at hrx
 cases hrx with | imm hrx =>
 obtain ⟨B, hB, hxl, hxc⟩ := hrx.flat (P := P)
 have hBs : B.length = new.length * kk := hB.len
 have hfl : (new.flatten.map SV.imm).length = new.length * kk := by
  rw [List.length_map]
  have : ∀ L : List (List D), (∀ i (h : i < L.length), (L[i]'h).length = kk) -> L.flatten.length = L.length * kk := by
   intro L
   induction L with
   | nil => intro _; simp
   | cons r L ih =>
    intro hall
    have h0 : r.length = kk := hall 0 (by simp)
    have h1 := ih (fun i h => by have := hall (i + 1) (by simpa using h); simpa using this)
    simp only [List.flatten_cons, List.length_append, List.length_cons, h0, h1, Nat.succ_mul]; omega
  exact this new hB.row
 have hblt := lt_of_getElem? hb
 have hbxlt := lt_of_getElem? hbu
 have hnl : (cs ++ new.flatten.map SV.imm).length = (n + new.length) * kk := by rw [List.length_append, hlen, hfl, Nat.add_mul]
 obtain ⟨dst, op, type, pos, after, guard⟩ := o
 simp only at hop
 subst hop
 have rowsOK : ∀ (w' : World) (β' : List Bnd) (vs : List Value) (vs' : Array Value), (∀ c o, I c o -> w'.cell? ⟨c, o, none⟩ = w.cell? ⟨c, o, none⟩) -> Keeps β.length β β' -> vs.length = n * kk ->
   (∀ j (h : j < cs.length) (h' : j < vs.length), Rep w I β (vs[j]'h') (cs[j]'h)) -> (∀ j, j < n * kk + new.length * kk -> vs'[j]? = (vs ++ B)[j]?) ->
   ∀ j (h : j < (cs ++ new.flatten.map SV.imm).length) (h' : j < vs'.size), Rep w' I β' (vs'[j]'h') ((cs ++ new.flatten.map SV.imm)[j]'h) := by
  intro w' β' vs vs' hcell hkeep hvl hrep hget j hj hj'
  have hj2 : j < n * kk + new.length * kk := by rw [hnl, Nat.add_mul] at hj; exact hj
  have hg := hget j hj2
  rw [Array.getElem?_eq_getElem hj'] at hg
  rcases Nat.lt_or_ge j (n * kk) with hlt | hge
  ·have hjc : j < cs.length := by omega
   have hjv : j < vs.length := by omega
   rw [List.getElem_append_left hjc]
   rw [List.getElem?_append_left hjv, List.getElem?_eq_getElem hjv] at hg
   rw [Option.some.inj hg]
   exact (hrep j hjc hjv).mono (fun _ _ h => h) hcell hkeep
  ·rw [List.getElem?_append_right (by omega), hvl] at hg
   obtain ⟨d, hd1, hd2⟩ := yde hB hk hg.symm
   have : (cs ++ new.flatten.map SV.imm)[j]? = some (.imm d) := by
    rw [List.getElem?_append_right (by omega), hlen, List.getElem?_map, hd1]; rfl
   rw [List.getElem?_eq_getElem hj] at this
   rw [Option.some.inj this]
   exact .imm (hd2.mono (fun _ _ h => h) hcell)
 have grow : ∀ (A : List Value) (ua : Option Addr) (ucap : Nat), ρ sx = .slice ua n ucap -> A.length = n * kk -> (∀ j (h : j < cs.length) (h' : j < A.length), Rep w I β (A[j]'h') (cs[j]'h)) ->
   (∀ w' : World, w'.heap = w.heap -> (Builtin.firstCells kk n (.slice ua n ucap)).run P w' = .ok A.toArray w') -> ¬ n + new.length <= ucap ->
   OpRun P G (execOp ρ ⟨dst, .call ⟨.builtin .append, #[sx, xx], #[sT, xT]⟩, type, pos, after, guard⟩) w I β H (.vec b (n + new.length)) (H.set b (.vec kk (cs ++ new.flatten.map .imm))) := by
  intro A ua ucap hsv hAs hArep hsc hg
  obtain ⟨newCap, rest', hc1, hc2, hrest, hrun⟩ := zgz (w := w) (ty := type) hu hxu hpk hby hz (base := ua) (n := n) (cap := ucap) (A := A) (B := B) hxl (fun w' hw' => hxc w' (fun c o _ => by simp [World.cell?, hw'])) hsc hg hsmall hcond.1
  have hrs : rest'.size = (newCap - (n + new.length)) * kk := by rw [hrest]; simp [Builtin.zeroCells, hcond.2]
  have hvs : (A.toArray ++ B.toArray ++ rest').size = newCap * kk := by
   simp only [Array.size_append, List.size_toArray, hAs, hBs, hrs]
   rw [<- Nat.add_mul, <- Nat.add_mul]; congr 1; omega
  have hnewblk : (w.drew.alloc (.cells (A.toArray ++ B.toArray ++ rest') e)).heap[w.heap.size]? = some (.cells (A.toArray ++ B.toArray ++ rest') e (0, 0)) := xf (w := w.drew) _
  have hold : ∀ c, c < w.heap.size -> (w.drew.alloc (.cells (A.toArray ++ B.toArray ++ rest') e)).heap[c]? = w.heap[c]? := fun c hc => by
   show (w.heap.push _)[c]? = _
   rw [Array.getElem?_push, if_neg (by omega)]
  have hcell : ∀ c o, I c o -> (w.drew.alloc (.cells (A.toArray ++ B.toArray ++ rest') e)).cell? ⟨c, o, none⟩ = w.cell? ⟨c, o, none⟩ := fun c o hc => yl (hold c (hH.inI c o hc)) o
  rw [hsv] at hbu
  have hkeep : Keeps β.length β (β.set b (.tok (.slice (some ⟨w.heap.size, 0, none⟩) (n + new.length) newCap))) := by
   intro b' x _ hb'
   by_cases e : b' = b
   ·subst e
    rw [hbu] at hb'; cases hb'
    exact ⟨_, List.getElem?_set_self hbxlt, .inr ⟨_, rfl, .inr ⟨_, _, _, _, _, _, rfl, rfl, by omega⟩⟩⟩
   ·exact ⟨x, by rw [List.getElem?_set_ne (Ne.symm e)]; exact hb', x.le_refl⟩
  obtain ⟨g1, g2⟩ := hH.moveVec (m := H.length) (n := n) (n' := n + new.length) (u' := .slice (some ⟨w.heap.size, 0, none⟩) (n + new.length) newCap) (w' := w.drew.alloc (.cells (A.toArray ++ B.toArray ++ rest') e)) (I' := I) (o1 := .vec kk (cs ++ new.flatten.map .imm)) hb (by simp) hbu ⟨_, _, _, _, rfl, rfl⟩ (by omega)
   (by simp) (fun c hc _ => hold c hc) hcell (fun _ _ h => h) (fun _ _ h => .inl h) (fun c o hi => by have := hH.inI c o hi; simp; omega) (fun c hc => by cases hc; exact .inr (Nat.le_refl _))
   (.inr ⟨w.heap.size, n + new.length, newCap, _, e, rfl, hnewblk, hvs, hc1, hc2, hnl, rowsOK _ _ A _ hcell hkeep hAs hArep (fun j hj => by
    rw [Array.getElem?_append_left (by simp [hAs, hBs]; omega)]; simp), fun o hi => by have := hH.inI _ o hi; omega⟩)
  exact .value (by rw [<- hsv] at hrun; simpa [builtin, hxv] using hrun) (.vec b _ _ _ (n + new.length) (List.getElem?_set_self hbxlt) ⟨_, _, rfl⟩ (Nat.le_refl _) ⟨_, _, _, rfl⟩ (fun _ => rfl)) g1 g2
 rcases hnow with ⟨hn0, hsv, hcs⟩ | ⟨c, cap, vs, T, hsv, h2, h3, h4, h5, h6, h7⟩
 ·subst hn0
  exact grow [] none 0 hsv (by simp) (fun j h h' => by simp at h') (fun w' _ => by rfl) (by omega)
 ·by_cases hfit : n + new.length <= cap
  ·have hle2 : n * kk + new.length * kk <= vs.size := by rw [h3, <- Nat.add_mul]; exact Nat.mul_le_mul_right kk hfit
   have hrun := zbc (w := w) (ty := type) hu hxu hpk (n := n) (cap := cap) (m := new.length) (c := c) hxl (hxc w (fun _ _ _ => rfl)) hfit h2 hB.len hB.one h3
   generalize hW : w.setRow c (vs.toList.take (n * kk) ++ B ++ vs.toList.drop (n * kk + new.length * kk)).toArray = W at hrun
   have hnb : W.heap[c]? = some (.cells (vs.toList.take (n * kk) ++ B ++ vs.toList.drop (n * kk + new.length * kk)).toArray T (0, 0)) := by rw [<- hW]; exact setRow_heap w c vs _ T _ h2
   have hother : ∀ c', c' ≠ c -> W.heap[c']? = w.heap[c']? := by
    intro c' hne
    rw [<- hW]; simp [World.setRow, Array.getElem?_modify, Ne.symm hne]
   have hsz : W.heap.size = w.heap.size := by rw [<- hW]; simp [World.setRow]
   have hcell : ∀ c' o, I c' o -> W.cell? ⟨c', o, none⟩ = w.cell? ⟨c', o, none⟩ := fun c' o hi => yl (hother c' (fun e => h7 o (e ▸ hi))) o
   rw [hsv] at hbu
   have hkeep : Keeps β.length β (β.set b (.tok (.slice (some ⟨c, 0, none⟩) (n + new.length) cap))) := by
    intro b' x _ hb'
    by_cases e : b' = b
    ·subst e
     rw [hbu] at hb'; cases hb'
     exact ⟨_, List.getElem?_set_self hbxlt, .inr ⟨_, rfl, .inr ⟨_, _, _, _, _, _, rfl, rfl, by omega⟩⟩⟩
    ·exact ⟨x, by rw [List.getElem?_set_ne (Ne.symm e)]; exact hb', x.le_refl⟩
   have hAl : (vs.toList.take (n * kk)).length = n * kk := by simp; omega
   obtain ⟨g1, g2⟩ := hH.moveVec (m := H.length) (n := n) (n' := n + new.length) (u' := .slice (some ⟨c, 0, none⟩) (n + new.length) cap) (w' := W) (I' := I) (o1 := .vec kk (cs ++ new.flatten.map .imm)) hb (by simp) hbu ⟨_, _, _, _, rfl, rfl⟩ (by omega)
    (by omega) (fun c' _ hne => hother c' (fun e => hne (by rw [e]; rfl))) hcell (fun _ _ h => h) (fun _ _ h => .inl h) (fun c' o hi => by rw [hsz]; exact hH.inI c' o hi) (fun c' hc => by cases hc; exact .inl rfl)
    (.inr ⟨c, n + new.length, cap, _, T, rfl, hnb, by simp only [List.size_toArray, List.length_append, List.length_take, List.length_drop, Array.length_toList, hBs]; omega, hfit, h5, hnl,
     rowsOK _ _ (vs.toList.take (n * kk)) _ hcell hkeep hAl (fun j h h' => by
      have hj : j < vs.size := by simp at h'; omega
      have := h6 j h hj
      simpa using this) (fun j hj => by
      rw [List.getElem?_toArray, List.getElem?_append_left (by rw [List.length_append, hAl, hBs]; exact hj)]), h7⟩) (by rw [<- hW]; exact ⟨rfl, rfl⟩)
   exact .value (by rw [<- hsv] at hrun; simpa [builtin, hxv] using hrun) (.vec b _ _ _ (n + new.length) (List.getElem?_set_self hbxlt) ⟨_, _, rfl⟩ (Nat.le_refl _) ⟨_, _, _, rfl⟩ (fun _ => rfl)) g1 g2
  ·have hAl : (vs.toList.take (n * kk)).length = n * kk := by
    have : n * kk <= vs.size := by rw [h3]; exact Nat.mul_le_mul_right kk h4
    simp; omega
   refine grow (vs.toList.take (n * kk)) _ cap hsv hAl (fun j h h' => by
      have hj : j < vs.size := by simp at h'; omega
      have := h6 j h hj
      simpa using this) (fun w' hw' => ?_) hfit
   have := run_loadCells_list (P := P) w' ⟨c, 0, none⟩ (vs.toList.take (n * kk)) (fun j x hx => by
    have hj : j < n * kk := by rw [<- hAl]; exact lt_of_getElem? hx
    rw [qr, yl (w := w) (by rw [hw']), yv h2]
    rw [List.getElem?_take_of_lt hj] at hx
    simpa using hx)
   rw [hAl] at this
   simpa [Builtin.firstCells] using this
theorem zrg {b n off ns : Nat} {ax vx : Operand} {ty : Nat} {vcs : List SV} {kk : Nat} {cs : List SV} (hop : o.op = .store ty ax vx) (hH : HeapOK G w I β H) (hr : Rep w I β (ρ ax) (.vptr b n off)) (hrv : Reps w I β (ρ vx).cells.toList vcs)
  (hone : vcs.all SV.one = true) (hsz : wb P ty = some ns) (hns : vcs.length = ns) (hb : H[b]? = some (.vec kk cs)) (hlen : cs.length = n * kk) (hk : 1 <= kk) (hoff : off + ns <= cs.length) (hpos : 1 <= ns) :
  OpRun P G (execOp ρ o) w I β H .any (H.set b (.vec kk (cs.take off ++ vcs ++ cs.drop (off + ns)))) := by
 generalize hpv : ρ ax = pv at hr
 cases hr with
 | vptr _ _ _ _ a m cap hbu hle hv' heq =>
 rcases hH.obj b _ _ hb hbu with ⟨rfl, e⟩ | ⟨c, n', cap', vs, T, e, a1, a2, a3, a4, a5, a6, a7⟩
 ·simp at hoff
  omega
 ·cases e
  have hn' : n = m := by
   rw [hlen] at a5
   exact Nat.eq_of_mul_eq_mul_right hk a5
  subst hn'
  obtain ⟨c', e, rfl⟩ := heq rfl
  cases e
  have hLl : (ρ vx).cells.toList.length = ns := by rw [hrv.len]; exact hns
  have hcsz : (ρ vx).cells.size = ns := by simpa using hLl
  have hle2 : off + ns <= vs.size := by
   rw [a2]; rw [a5] at hoff
   exact Nat.le_trans hoff (Nat.mul_le_mul_right kk a3)
  generalize hL : (ρ vx).cells.toList = L at hrv hLl
  have hst := run_storeCells_at (P := P) c off T L 0 vs w a1 (by omega) (fun v hv => by
   obtain ⟨j, hj, rfl⟩ := List.mem_iff_getElem.1 hv
   have hj' : j < vcs.length := by rw [<- hrv.len]; exact hj
   exact (hrv.rep j _ _ (List.getElem?_eq_getElem hj) (List.getElem?_eq_getElem hj')).oneCell (List.all_eq_true.1 hone _ (List.getElem_mem hj')))
  simp only [Nat.add_zero, hLl] at hst
  generalize hW : (vs.toList.take off ++ L ++ vs.toList.drop (off + ns)).toArray = W at hst
  have hWs : W.size = vs.size := by rw [<- hW]; simp; omega
  have hWj : ∀ j (hj : j < W.size), W[j]? = if off <= j /\ j < off + ns then L[j - off]? else vs[j]? := fun j hj => by
   rw [<- hW, List.getElem?_toArray]
   rcases Nat.lt_or_ge j off with h1 | h1
   ·rw [List.append_assoc, List.getElem?_append_left (by simp; omega), List.getElem?_take_of_lt h1, if_neg (by omega)]; simp
   ·rcases Nat.lt_or_ge j (off + ns) with h2 | h2
    ·rw [List.append_assoc, List.getElem?_append_right (by simp; omega), List.getElem?_append_left (by simp; omega), if_pos ⟨h1, h2⟩]
     congr 1
     simp; omega
    ·rw [List.getElem?_append_right (by simp; omega), List.getElem?_drop, if_neg (by omega)]
     simp
     congr 1
     omega
  have hnew' : (w.setRow c W).heap[c]? = some (.cells W T (0, 0)) := setRow_heap w c vs W T (0, 0) a1
  have hother : ∀ c', c' ≠ c -> (w.setRow c W).heap[c']? = w.heap[c']? := by
   intro c' hne
   simp [World.setRow, Array.getElem?_modify, Ne.symm hne]
  have hIc : ∀ b o, I b o -> (w.setRow c W).cell? ⟨b, o, none⟩ = w.cell? ⟨b, o, none⟩ := fun b' o' hi => yl (hother b' (fun e => a7 o' (e ▸ hi))) o'
  have hcl : (cs.take off ++ vcs ++ cs.drop (off + ns)).length = cs.length := by simp; omega
  obtain ⟨g1, g2⟩ := hH.changeB (m := H.length) (w' := w.setRow c W) (o' := .vec kk (cs.take off ++ vcs ++ cs.drop (off + ns))) hb (by simp) hbu rfl hother (by simp [World.setRow]) a7
   (.inr ⟨c, n, cap, _, T, rfl, hnew', by rw [hWs]; exact a2, a3, a4, by rw [hcl]; exact a5, fun j hj hj' => by
    have hj1 : j < cs.length := by rw [<- hcl]; exact hj
    have hj2 : j < vs.size := by rw [<- hWs]; exact hj'
    have h2 := Array.getElem?_eq_getElem hj'
    rw [hWj j hj'] at h2
    have h3 := List.getElem?_eq_getElem hj
    generalize (cs.take off ++ vcs ++ cs.drop (off + ns))[j]'hj = y at h3 ⊢
    by_cases hin : off <= j /\ j < off + ns
    ·rw [if_pos hin] at h2
     rw [List.append_assoc, List.getElem?_append_right (by simp; omega), List.getElem?_append_left (by simp; omega)] at h3
     have e1 : j - (cs.take off).length = j - off := by simp; omega
     rw [e1] at h3
     exact (hrv.rep (j - off) _ _ h2 h3).mono (fun _ _ h => h) hIc (.refl _ _)
    ·rw [if_neg hin, Array.getElem?_eq_getElem hj2] at h2
     have h4 : (cs.take off ++ vcs ++ cs.drop (off + ns))[j]? = cs[j]? := by
      rcases Nat.lt_or_ge j off with h1 | h1
      ·rw [List.append_assoc, List.getElem?_append_left (by simp; omega), List.getElem?_take_of_lt h1]
      ·rw [List.getElem?_append_right (by simp; omega), List.getElem?_drop]
       congr 1
       simp; omega
     rw [h4, List.getElem?_eq_getElem hj1] at h3
     rw [<- Option.some.inj h2, <- Option.some.inj h3]
     exact (a6 j hj1 hj2).mono (fun _ _ h => h) hIc (.refl _ _), a7⟩)
  obtain ⟨dst, op, type, pos, after, guard⟩ := o
  simp only at hop
  subst hop
  refine OpRun.unit (w' := w.setRow c W) ?_ g1 g2
  rw [hpv]
  simp only [Instr.storeAt, Instr.sureAddr, storeVar, Sem.run_bind, Sem.run_pure, Result.andThen_ok, xa hsz]
  rw [if_neg (by rw [hcsz]; simp), hL]
  exact hst
end
section
variable {P : Program} {G : List (Nat × D)} {fn : Func} {rd : Bool} {E : En P G fn rd} {t : List (Nat × SV)} {H K : List SObj} {k : List Item} {m : Nat} {all : Array Oper} {rest : List Oper} {done : List Eff} {o : Oper}
theorem zrh {b n kk by_ e e' : Nat} {z : Value} {sx xx : Operand} {sT xT : Nat} {cs : List SV} {new : List (List D)} (hop : o.op = .call ⟨.builtin .append, #[sx, xx], #[sT, xT]⟩)
  (hw : zy all t o.guard = some true) (hd : yf fn.ntmps o.dst = true) (hs : zn G t sx = .vec b n) (hx : zn G t xx = .imm (.isl kk new)) (hu : P.underlying sT = some (.slice e)) (hxu : P.underlying xT = some (.slice e'))
  (hpk : wb P e = some kk) (hby : jk P e = some by_) (hz : je P e = some z) (hcond : by_ <= 65536 /\ z.cells.size = kk) (hm : m <= K.length) (hb : K[b]? = some (.vec kk cs)) (hlen : cs.length = n * kk) (hk : 1 <= kk) (hnew : 1 <= new.length) (hsmall : n + new.length <= 1073741824)
  (h : SWe E m all rest k (wm t o.dst (.vec b (n + new.length))) (K.set b (.vec kk (cs ++ new.flatten.map SV.imm))) (done ++ [⟨.vec b (n + new.length), [b], some (b, .vec kk (cs ++ new.flatten.map SV.imm))⟩])) : SWe E m all (o :: rest) k t K done :=
 zbe (e := ⟨.vec b (n + new.length), [b], some (b, .vec kk (cs ++ new.flatten.map SV.imm))⟩) ⟨hd, .inr ⟨hw, fun K' hl ha ρ w I β hH _ hops => by
  have hr := hops sx (by rw [hop]; simp [Op.operands, Call.operands])
  rw [hs] at hr
  have hrx := hops xx (by rw [hop]; simp [Op.operands, Call.operands])
  rw [hx] at hrx
  have hb' : K'[b]? = some (.vec kk cs) := by rw [ha b (.inl (by simp))]; exact hb
  obtain ⟨nn, v, w', I', β', h1, h2, h3, h4, h5⟩ := ybl hop hH hr hrx hu hxu hpk hby hz hcond hb' hlen hk hnew hsmall
  have hk : Keeps β.length β β' := by rw [hH.len]; exact h5.keep
  exact .inl ⟨nn, v, w', I', β', h1, h2, h3, h4, h5.weaken (by omega), hk.toD, fun b hb _ => hk.dummy (lt_of_getElem? hb) hb⟩⟩⟩ h
theorem zoa (b0 j b n kk : Nat) {cs0 cs : List SV} {ds : List D} (hb0 : H[b0]? = some (.cells cs0)) (hj : cs0[j]? = some (.vec b n)) (hb : H[b]? = some (.vec kk cs)) (hone : cs.all SV.one = true) (hds : cs.mapM SV.toD = some ds) (hlen : cs.length = n * kk) (hk : 1 <= kk)
    (h : SW E k t ((H.set b .dead).set b0 (.cells (cs0.set j (.imm (.isl kk (qt kk ds n))))))) : SW E k t H := by
  refine ⟨fun a w I β cs' hsim => ?_⟩
  have hbl := lt_of_getElem? hb
  have hbl0 := lt_of_getElem? hb0
  have hjl := lt_of_getElem? hj
  have hne0 : b0 ≠ b := by rintro rfl; rw [hb0] at hb; cases hb
  obtain ⟨x0, hx0⟩ : ∃ x0, β[b0]? = some x0 := ⟨_, List.getElem?_eq_getElem (by rw [hsim.heap.len]; exact hbl0)⟩
  have hobj := hsim.heap.obj b0 _ _ hb0 hx0
  cases x0 with
  | tok u => exact hobj.elim
  | blk c0 =>
  obtain ⟨vs0, T0, o1, o2, o3, o4⟩ := hobj
  have hj2 : j < vs0.size := by rw [o2]; exact hjl
  have hr := o3 j hjl hj2
  rw [show cs0[j] = .vec b n by rw [List.getElem?_eq_getElem hjl] at hj; exact Option.some.inj hj] at hr
  obtain ⟨hbu, hnow⟩ := zho hsim.heap hb hr hlen hk
  obtain ⟨hdl, hdg⟩ := zkw hds
  generalize hNC : SObj.cells (cs0.set j (.imm (.isl kk (qt kk ds n)))) = NC at h
  have hget : ∀ b', ((H.set b .dead).set b0 NC)[b']? = if b' = b0 then some NC else if b' = b then some .dead else H[b']? := fun b' => by
    by_cases e1 : b' = b0
    · subst e1; rw [if_pos rfl, List.getElem?_set_self (by rw [List.length_set]; exact hbl0)]
    · rw [if_neg e1, List.getElem?_set_ne (Ne.symm e1)]
      by_cases e2 : b' = b
      · subst e2; rw [if_pos rfl, List.getElem?_set_self hbl]
      · rw [if_neg e2, List.getElem?_set_ne (Ne.symm e2)]
  have hsub : ∀ b' c', qj ((H.set b .dead).set b0 NC) β b' c' -> b' ≠ b /\ qj H β b' c' := by
    rintro b' c' ⟨o, x, h1, h2, h3, h4⟩
    rw [hget] at h1
    split at h1
    · rename_i e; subst e
      exact ⟨hne0, _, x, hb0, by simp, h3, h4⟩
    · split at h1
      · cases h1; exact absurd rfl h2
      · rename_i e1 e2
        exact ⟨e2, o, x, h1, h2, h3, h4⟩
  have fin : ∀ (I' : Imm), (∀ c o, I c o -> I' c o) -> (∀ c' o, I' c' o -> I c' o \/ qj H β b c') -> DRep w I' (vs0[j]'hj2) (.isl kk (qt kk ds n)) -> E.Goal (lone (E.at a k) cs' w) cs' := by
    intro I' hI hnew hd
    refine h.run a w I' β cs' ⟨⟨by simp [hsim.heap.len], fun b' o x h1 h2 => ?_, fun b1 b2 c' h1 h2 => hsim.heap.inj b1 b2 c' (hsub b1 c' h1).2 (hsub b2 c' h2).2, fun c' o hi => ?_, fun g d hg => (hsim.heap.glob g d hg).mono hI (fun _ _ _ => rfl)⟩,
      fun m => (hsim.tmps m).mono hI (fun _ _ _ => rfl) (.refl _ _), hsim.size, ?_, ?_, by simpa using hsim.hlen⟩
    · rw [hget] at h1
      split at h1
      · rename_i e; subst e
        cases h1
        rw [hx0] at h2
        cases h2
        rw [<- hNC]
        refine ⟨vs0, T0, o1, by rw [List.length_set]; exact o2, fun i hi hi' => ?_, fun o hi => ?_⟩
        · by_cases e : j = i
          · subst e
            rw [List.getElem_set_self]
            exact .imm hd
          · rw [List.getElem_set_ne e]
            exact (o3 i (by simpa using hi) hi').mono hI (fun _ _ _ => rfl) (.refl _ _)
        · rcases hnew c0 o hi with h3 | h3
          · exact o4 o h3
          · exact hne0 (hsim.heap.inj b' b c0 ⟨_, _, hb0, by simp, hx0, rfl⟩ h3)
      · split at h1
        · cases h1; trivial
        · rename_i e1 e2
          by_cases hdead : o = .dead
          · subst hdead; trivial
          · refine (hsim.heap.obj b' o x h1 h2).mono (fun _ _ => rfl) hI (fun _ _ _ => rfl) (.refl _ _) (fun c' q hc hi => ?_)
            rcases hnew c' q hi with h3 | h3
            · exact h3
            · exact absurd (hsim.heap.inj b' b c' ⟨o, x, h1, hdead, h2, hc⟩ h3) e2
    · rcases hnew c' o hi with h3 | h3
      · exact hsim.heap.inI c' o h3
      · exact hsim.heap.owns_lt h3
    · obtain ⟨bs, d1, d2, d3⟩ := hsim.defers
      exact ⟨bs, d1, d2, fun c' hc => ⟨(d3 c' hc).1, (d3 c' hc).2.1, fun b' hb' => (d3 c' hc).2.2 b' (hsub b' c' hb').2⟩⟩
    · exact { hsim.ext with
        imm := fun c' o hi => hI _ _ (hsim.ext.imm c' o hi)
        own := fun b' c' ho => hsim.ext.own b' c' (hsub b' c' ho).2
        new := fun c' o hi => by
          rcases hnew c' o hi with h3 | h3
          · exact hsim.ext.new c' o h3
          · exact .inr (hsim.ext.own b c' h3) }
  rcases hnow with ⟨hn0, hsv, hcs⟩ | ⟨c, cap, vs, T, hsv, a1, a2, a3, a4, a5, a6⟩
  · subst hn0
    exact fin I (fun _ _ h => h) (fun _ _ h => .inl h) (by rw [hsv]; exact .islNil kk)
  · have hown : qj H β b c := ⟨_, _, hb, by simp, hbu, by rw [hsv]; rfl⟩
    have hle : cs.length <= vs.size := by rw [hlen, a2]; exact Nat.mul_le_mul_right kk a3
    refine fin (I.plus c cs.length) (fun _ _ h => .inl h) (fun c' o hi => hi.imp id (fun h => by rw [h.1]; exact hown)) ?_
    rw [hsv]
    refine zjx (vs := vs.toList.take cs.length) (by rw [hdl, hlen]) (fun o ho => .inr ⟨rfl, by omega⟩) (fun o ho => ?_) (by simp; omega) (fun v hv => ?_) (fun o v d hv hd => ?_) a3 a4
    · rw [yv a1, List.getElem?_take_of_lt (by omega)]; simp
    · obtain ⟨j, hj, rfl⟩ := List.mem_iff_getElem.1 hv
      have hjj : j < cs.length /\ j < vs.size := by simp at hj; omega
      have hj' := hjj.2
      have := (a5 j (by omega) hj').oneCell (List.all_eq_true.1 hone _ (List.getElem_mem (by omega)))
      simpa using this
    · have hvv : o < cs.length /\ o < vs.size := by have := lt_of_getElem? hv; simp at this; omega
      have hv' := hvv.2
      have ho : o < cs.length := hvv.1
      rw [List.getElem?_take_of_lt ho] at hv
      obtain ⟨d', hd', hs'⟩ := hdg o _ (List.getElem?_eq_getElem ho)
      rw [hd] at hd'
      cases hd'
      have hvv : v = vs[o] := by simpa [hv'] using hv.symm
      subst hvv
      exact ((a5 o ho hv').toD hs').mono (fun _ _ h => .inl h) (fun _ _ _ => rfl)
theorem zri {b n off ns : Nat} {ax vx : Operand} {ty : Nat} {vcs : List SV} {kk : Nat} {cs : List SV} (hop : o.op = .store ty ax vx) (hw : zy all t o.guard = some true) (hd : yf fn.ntmps o.dst = true) (ha : zn G t ax = .vptr b n off)
  (hv : (zn G t vx).cells = some vcs) (hone : vcs.all SV.one = true) (hsz : wb P ty = some ns) (hns : vcs.length = ns) (hb : H[b]? = some (.vec kk cs)) (hlen : cs.length = n * kk) (hk : 1 <= kk) (hoff : off + ns <= cs.length) (hpos : 1 <= ns)
  (h : SWr E all rest k (wm t o.dst .any) (H.set b (.vec kk (cs.take off ++ vcs ++ cs.drop (off + ns))))) : SWr E all (o :: rest) k t H := by
 refine zan hw hd (fun c e => by rw [hop] at e; cases e) (by simp) (fun ρ w I β hH hev => ?_) h
 have hr := hev ax
 rw [ha] at hr
 exact zrg hop hH hr ((hev vx).cellsReps hv) hone hsz hns hb hlen hk hoff hpos
end
end Go.Sh
namespace Go.Proofs.YtblpjknmhajcgaaGreatDoor
open Go Go.Sh
variable (G : List (Nat × D))
theorem ylu (l : List Int) (x : Int) (hz : l.length <= 9223372036854775807) : yb Tryz.prog G 31 [.imm (dInts l), sI x] (sB (decide (x ∈ l))) := by
 have hla : (l.map fun n => [dI n]).length = l.length := by simp
 refine ze Tryz.func31 rfl (by rw [Tryz.ntmps31]; simp) rfl rfl ?_; intro E hH hK
 (refine zh ?_; conv => whnf)
 refine zf [0, 1, 5] ?_
 refine zt l (fun i (_ : Unit) => [(0, .imm (dInts l)), (1, sI x), (5, sI i)]) (fun _ _ => []) (fun done _ _ => x ∉ done) () (by simp) ?_ ?_
 ·rintro _ h1
  (refine zh ?_; conv => whnf)
  repeat' ((with_reducible refine way ?_ ?_) <;> (intro h; conv => whnf))
  all_goals try (exfalso; omega)
  rw [decide_eq_false h1] at hK
  exact hK _
 ·rintro done y rest _ hda hdl h1 ih
  have hw := zm (n := done.length) (by omega)
  have hrx : (l.map fun n => [dI n])[((done.length : Nat) : Int).toNat]? = some [dI y] := by simp [hda]
  (refine zh ?_; conv => whnf)
  repeat' ((with_reducible refine way ?_ ?_) <;> (intro h; conv => whnf))
  all_goals try (exfalso; omega)
  refine zg rfl rfl  hrx ?_
  (refine za ?_; conv => whnf)
  repeat' ((with_reducible refine way ?_ ?_) <;> (intro h; conv => whnf))
  ·rw [decide_eq_true (show x ∈ l by rw [hda, h]; simp)] at hK
   exact hK _
  ·rw [hw]
   refine zf [0, 1, 5] ?_
   exact ih () (by simp only [List.mem_append, List.mem_cons, List.not_mem_nil, or_false, not_or]; exact ⟨h1, fun e => h e.symm⟩)
theorem zgp (a b : List Int) (ha : a.length <= 1000000000) (hb : b.length <= 1000000000) : yb Tryz.prog G 16 [.imm (dInts a), .imm (dInts b)] (sB (decide (a = b))) := by
 have hla : (a.map fun n => [dI n]).length = a.length := by simp
 have hlb : (b.map fun n => [dI n]).length = b.length := by simp
 refine ze Tryz.func16 rfl (by rw [Tryz.ntmps16]; simp) rfl rfl ?_; intro E hH hK
 (refine zh ?_; conv => whnf)
 repeat' ((with_reducible refine way ?_ ?_) <;> (intro h; conv => whnf))
 ·rw [decide_eq_false (show ¬ a = b by rintro rfl; omega)] at hK
  exact hK _
 have hll : a.length = b.length := by omega
 refine zf [0, 1, 5] ?_
 refine zt a (fun i (_ : Unit) => [(0, .imm (dInts a)), (1, .imm (dInts b)), (5, sI i)]) (fun _ _ => []) (fun done _ _ => done = b.take done.length) () (by simp) ?_ ?_
 ·rintro _ h1
  rw [hll, List.take_length] at h1
  (refine zh ?_; conv => whnf)
  repeat' ((with_reducible refine way ?_ ?_) <;> (intro h; conv => whnf))
  all_goals try (exfalso; omega)
  rw [decide_eq_true h1] at hK
  exact hK _
 ·rintro done x rest _ hda hdl h1 ih
  have hw := zm (n := done.length) (by omega)
  have hlt : done.length < b.length := by omega
  obtain ⟨y, hy⟩ : ∃ y, b[done.length]? = some y := ⟨_, List.getElem?_eq_getElem hlt⟩
  have hrx : (a.map fun n => [dI n])[done.length]? = some [dI x] := by simp [hda]
  have hry : (b.map fun n => [dI n])[done.length]? = some [dI y] := by simp [hy]
  have hax : a[done.length]? = some x := by simp [hda]
  have htk : b.take (done.length + 1) = b.take done.length ++ [y] := by rw [List.take_add_one, hy]; rfl
  (refine zh ?_; conv => whnf)
  repeat' ((with_reducible refine way ?_ ?_) <;> (intro h; conv => whnf))
  all_goals try (exfalso; omega)
  (refine ya 0 mixed rfl ?_; refine zc [777] (nx := 0) ?_; conv => whnf)
  refine yc (i := done.length) (row := [dI x]) rfl (by simp) rfl hrx ?_
  (refine zc [777] (nx := 0) ?_; conv => whnf)
  refine yc (i := done.length) (row := [dI y]) rfl (by simp) rfl hry ?_
  (refine zc [777] (nx := 0) ?_; conv => whnf)
  (refine zh ?_; conv => whnf)
  repeat' ((with_reducible refine way ?_ ?_) <;> (intro h; conv => whnf))
  ·have hne := h
   rw [decide_eq_false (show ¬ a = b by rintro rfl; rw [hax] at hy; exact hne (Option.some.inj hy))] at hK
   exact hK _
  ·rw [hw]
   refine zf [0, 1, 5] ?_
   refine ih () ?_
   rw [List.length_append, List.length_cons, List.length_nil, htk, <- h1, h]
theorem zid (v w : View) (hv : v.fit) (hw1 : w.fit) (hz : v.has.length <= 1000000000 /\ v.value.length <= 1000000000 /\ v.arts.length <= 1000000000) (hz2 : w.value.length <= 1000000000 /\ w.arts.length <= 1000000000) :
  yb Tryz.prog G 15 [v.sv, w.sv] (sB (v.same' w)) := by
 obtain ⟨d1, h1, v1, a1⟩ := v
 obtain ⟨d2, h2, v2, a2⟩ := w
 simp only at hz hz2
 have hla : (h1.map fun b => [dB b]).length = h1.length := by simp
 have hlb : (h2.map fun b => [dB b]).length = h2.length := by simp
 have hs1 := zgp G v1 v2 hz.2.1 hz2.1
 have hs2 := zgp G a1 a2 hz.2.2 hz2.2
 have he : View.same' ⟨d1, h1, v1, a1⟩ ⟨d2, h2, v2, a2⟩ = (decide (d1 = d2) && decide (h1 = h2) && decide (v1 = v2) && decide (a1 = a2)) := by
  simp [View.same', View.same, Bool.and_assoc]
 rw [he]
 generalize decide (v1 = v2) = z1 at hs1
 generalize decide (a1 = a2) = z2 at hs2
 refine ze Tryz.func15 rfl (by rw [Tryz.ntmps15]; simp) rfl rfl ?_; intro E hH hK
 (refine zh ?_; conv => whnf)
 repeat' ((with_reducible refine way ?_ ?_) <;> (intro h; conv => whnf))
 ·have h' : ¬ h1.length = h2.length := by simp only at h; omega
  rw [decide_eq_false (show ¬ h1 = h2 by rintro rfl; exact h' rfl), Bool.and_false, Bool.false_and, Bool.false_and] at hK
  exact hK _
 ·rename_i g1
  have hll : h1.length = h2.length := by simp only at h; omega
  have g1 : d1 = d2 := g1
  rw [decide_eq_true g1, Bool.true_and] at hK
  refine zf [2, 3, 5] ?_
  change SW E _ [(2, .ptr 0 0), (3, .ptr 1 0), (5, sI 0)] [.cells [sI d1, .imm (xm h1), .imm (dInts v1), .imm (dInts a1)], .cells [sI d2, .imm (xm h2), .imm (dInts v2), .imm (dInts a2)]]
  refine zt h1 (fun i (_ : Unit) => [(2, .ptr 0 0), (3, .ptr 1 0), (5, sI i)]) (fun _ _ => [.cells [sI d1, .imm (xm h1), .imm (dInts v1), .imm (dInts a1)], .cells [sI d2, .imm (xm h2), .imm (dInts v2), .imm (dInts a2)]]) (fun done _ _ => done = h2.take done.length) () (by simp) ?_ ?_
  ·rintro _ e1
   rw [hll, List.take_length] at e1
   rw [decide_eq_true e1, Bool.true_and] at hK
   (refine zh ?_; conv => whnf)
   repeat' ((with_reducible refine way ?_ ?_) <;> (intro h; conv => whnf))
   all_goals try (exfalso; omega)
   refine zd rfl  hs1 ?_
   cases z1 <;> ((refine za ?_; conv => whnf))
   ·exact hK _
   ·refine zd rfl  hs2 ?_
    (refine za ?_; conv => whnf)
    exact hK _
  ·rintro done x rest _ hda hdl e1 ih
   have hw := zm (n := done.length) (by omega)
   have hlt : done.length < h2.length := by omega
   obtain ⟨y, hy⟩ : ∃ y, h2[done.length]? = some y := ⟨_, List.getElem?_eq_getElem hlt⟩
   have hrx : (h1.map fun b => [dB b])[done.length]? = some [dB x] := by simp [hda]
   have hry : (h2.map fun b => [dB b])[done.length]? = some [dB y] := by simp [hy]
   have hax : h1[done.length]? = some x := by simp [hda]
   have htk : h2.take (done.length + 1) = h2.take done.length ++ [y] := by rw [List.take_add_one, hy]; rfl
   have hno : x ≠ y -> decide (h1 = h2) = false := fun hne => decide_eq_false (by rintro rfl; rw [hax] at hy; exact hne (Option.some.inj hy))
   have hyes : x = y -> done ++ [x] = h2.take (done ++ [x]).length := fun e => by rw [List.length_append, List.length_cons, List.length_nil, htk, <- e1, e]
   (refine zh ?_; conv => whnf)
   repeat' ((with_reducible refine way ?_ ?_) <;> (intro h; conv => whnf))
   all_goals try (exfalso; omega)
   (refine ya 0 mixed rfl ?_; refine zc [777] (nx := 2) ?_; conv => whnf)
   refine yc (i := done.length) (row := [dB x]) rfl (show 2 <= 2 by decide) rfl hrx ?_
   (refine zc [777] (nx := 2) ?_; conv => whnf)
   refine yc (i := done.length) (row := [dB y]) rfl (show 2 <= 2 by decide) rfl hry ?_
   cases x <;> cases y <;> ((refine zc [777] (nx := 2) ?_; conv => whnf)) <;> ((refine zh ?_; conv => whnf))
   ·rw [hw]
    refine zf [2, 3, 5] ?_
    exact ih () (hyes rfl)
   ·rw [hno (by decide), Bool.false_and, Bool.false_and] at hK
    exact hK _
   ·rw [hno (by decide), Bool.false_and, Bool.false_and] at hK
    exact hK _
   ·rw [hw]
    refine zf [2, 3, 5] ?_
    exact ih () (hyes rfl)
 ·have h' : ¬ d1 = d2 := h
  rw [decide_eq_false h', Bool.false_and, Bool.false_and, Bool.false_and] at hK
  exact hK _
def zlv (c : Codex) (v : Int) : List Ex := match qf c v with | some a => a.when_ | none => []
def xl (c : Codex) (vs : List Int) : List Ex := vs.flatMap (zlv c)
def zfk (p : zgh) (vs : List Int) (e : Ex) : Int := if e.op = 2 then vs.getD e.n.toNat 0 else if e.op = 4 then zjo p e.n else e.n
def holdsE (p : zgh) (vs : List Int) : Ex -> Bool
 | .mk op n u den ps ks =>
  if op = 5 then match ks with | k :: _ => !holdsE p vs k | [] => false
  else if op = 6 then match ks with | k :: l :: _ => holdsE p vs k && holdsE p vs l | _ => false
  else if op = 7 then match ks with | k :: l :: _ => holdsE p vs k || holdsE p vs l | _ => false
  else if op = 1 \/ op = 2 then !decide (zfk p vs (.mk op n u den ps ks) = 0)
  else match ks with | k :: l :: _ => zsh op (zfk p vs k) (zfk p vs l) | _ => false
def zon (c : Codex) (f : Int) : Bool := match c.facts[f.toNat]? with | some d => decide (d.unit = tT) | none => false
def zyz (e : Ex) : Bool := decide (e.op = 1) || decide (e.op = 2) || (decide (e.op = 4) && (decide (1 <= e.n) && decide (e.n <= 4)))
def zob (op : Int) : Bool := decide (op = 8) || decide (op = 9) || decide (op = 10)
def simpE (c : Codex) : Ex -> Bool
 | .mk op n u _ _ ks =>
  if op = 1 then decide (u = tT)
  else if op = 2 then zon c n
  else if op = 5 then match ks with | [k] => simpE c k | _ => false
  else if op = 6 \/ op = 7 then match ks with | [k, l] => simpE c k && simpE c l | _ => false
  else match ks with | [k, l] => zob op && zyz k && zyz l && (decide (k.op = 1) || decide (l.op = 1)) | _ => false
def cP (c : Codex) (f x : Int) (a b : Ex) : Prop := a.op = 2 /\ a.n = f /\ b.op = 1 /\ zon c f = false /\ (x = b.n \/ x = b.n + 1)
def cE (c : Codex) (f x : Int) : Ex -> Prop
  | .mk op n _ _ _ ks => (op = 2 /\ n = f /\ (x = 0 \/ (zon c f = true /\ x = 1))) \/ (match ks with
    | [k] => cE c f x k
    | [k, l] => cE c f x k \/ cE c f x l \/ (zob op = true /\ (cP c f x k l \/ cP c f x l k))
    | _ => False)
inductive Shape (c : Codex) (m : List (Int × Int)) (op n : Int) (u : ByteArray) (ks : List Ex) : Prop
 | const : op = 1 -> ks = [] -> u = tT -> Shape c m op n u ks
 | fact : op = 2 -> ks = [] -> 0 <= n /\ n < c.facts.length -> zon c n = true -> Shape c m op n u ks
 | neg (k : Ex) : op = 5 -> ks = [k] -> zfp c m k -> k.unit = tT -> Shape c m op n u ks
 | conn (k l : Ex) : op = 6 \/ op = 7 -> ks = [k, l] -> zfp c m k -> zfp c m l -> k.unit = tT -> l.unit = tT -> Shape c m op n u ks
 | cmp (k l : Ex) : op = 8 \/ op = 9 \/ op = 10 -> ks = [k, l] -> zfp c m k -> zfp c m l -> Shape c m op n u ks
 | other : op ≠ 1 -> op ≠ 2 -> op ≠ 5 -> ¬(op = 6 \/ op = 7) -> ¬(op = 8 \/ op = 9 \/ op = 10) -> Shape c m op n u ks
theorem zza {c : Codex} {m : List (Int × Int)} {op n : Int} {u : ByteArray} {den : Int} {ps : List Piece} {ks : List Ex} (h : qm c m op n u den ps ks = true) (h2 : op = 2) : zon c n = decide (u = tT) := by
 have hl := (zdb h (by omega)).2
 unfold zau at hl
 rw [if_neg (by omega), if_pos h2] at hl
 simp only [Bool.and_eq_true, decide_eq_true_eq] at hl
 have h3 := hl.2
 unfold zcv at h3
 unfold zon
 cases hg : c.facts[n.toNat]? with
 | none => rw [hg] at h3; cases h3
 | some d =>
  rw [hg] at h3
  have h3 := of_decide_eq_true h3
  rw [h3]
theorem yhf {c : Codex} {m : List (Int × Int)} {op n : Int} {u : ByteArray} {den : Int} {ps : List Piece} {ks : List Ex} (h : qm c m op n u den ps ks = true) (h2 : op = 1) : 0 <= n /\ n <= 999999999999 := by
 have hl := (zdb h (by omega)).2
 unfold zau at hl
 rw [if_pos h2] at hl
 simp only [Bool.and_eq_true, decide_eq_true_eq] at hl
 exact hl.1
theorem zpb {c : Codex} {m : List (Int × Int)} {op n : Int} {u : ByteArray} {den : Int} {ps : List Piece} {ks : List Ex} (h : zfp c m (.mk op n u den ps ks)) (hu : u = tT) : Shape c m op n u ks := by
 unfold zfp at h
 obtain ⟨hn, hk⟩ := h
 by_cases h1 : op = 1
 ·exact .const h1 (zdb hn (by omega)).1 hu
 by_cases h2 : op = 2
 ·exact .fact h2 (zdb hn (by omega)).1 (zdc hn h2) (by rw [zza hn h2]; simpa using hu)
 by_cases h5 : op = 5
 ·obtain ⟨k, rfl⟩ := zvu hn h5
  obtain ⟨_, f, l, hf, hl, g⟩ := zvt hn (by omega)
  simp only [List.head?_cons, Option.some.injEq] at hf
  subst hf
  unfold zaf at g
  rw [if_pos h5] at g
  simp only [Bool.and_eq_true, decide_eq_true_eq] at g
  exact .neg k h5 rfl (qa hk k (by simp)) g.2
 by_cases h6 : op = 6 \/ op = 7
 ·obtain ⟨k, l, rfl⟩ := zix hn (by omega)
  obtain ⟨_, f, l', hf, hl, g⟩ := zvt hn (by omega)
  simp only [List.head?_cons, Option.some.injEq] at hf
  subst hf
  unfold zaf at g
  rw [if_neg h5, if_pos h6] at g
  simp only [Bool.and_eq_true, decide_eq_true_eq] at g
  have hs := g.1.2
  unfold zbr at hs
  simp only [List.all_cons, List.all_nil, Bool.and_eq_true, decide_eq_true_eq] at hs
  exact .conn k l h6 rfl (qa hk k (by simp)) (qa hk l (by simp)) g.2 (by rw [hs.2.1, g.2])
 by_cases h8 : op = 8 \/ op = 9 \/ op = 10
 ·obtain ⟨k, l, rfl⟩ := zix hn (by omega)
  exact .cmp k l h8 rfl (qa hk k (by simp)) (qa hk l (by simp))
 exact .other h1 h2 h5 h6 h8
structure LeafE (c : Codex) (k : Ex) : Prop where
 no : k.kids = []
 k1 : k.op = 1 -> 0 <= k.n /\ k.n <= 999999999999
 k2 : k.op = 2 -> 0 <= k.n /\ k.n < c.facts.length /\ zon c k.n = decide (k.unit = tT)
 k4 : k.op = 4 -> 1 <= k.n /\ k.n <= 4
theorem zgq {c : Codex} {m : List (Int × Int)} {k : Ex} (h : zfp c m k) (hp : k.op = 1 \/ k.op = 2 \/ k.op = 4) : LeafE c k := by
 obtain ⟨op, n, u, den, ps, ks⟩ := k
 unfold zfp at h
 change op = 1 \/ op = 2 \/ op = 4 at hp
 exact ⟨(zdb h.1 (by omega)).1, fun e => yhf h.1 e, fun e => ⟨(zdc h.1 e).1, (zdc h.1 e).2, zza h.1 e⟩, fun e => zrc h.1 e⟩
theorem zjc {e : Ex} (h : zyz e = true) : e.op = 1 \/ e.op = 2 \/ e.op = 4 := by
 unfold zyz at h
 simp only [Bool.or_eq_true, Bool.and_eq_true, decide_eq_true_eq] at h
 omega
theorem part_of {c : Codex} {m : List (Int × Int)} {e : Ex} (ha : zfp c m e) : zyz e = (decide (e.op = 1) || decide (e.op = 2) || decide (e.op = 4)) := by
 unfold zyz
 by_cases h4 : e.op = 4
 ·have := (zgq ha (.inr (.inr h4))).k4 h4
  simp [h4, this]
 ·simp [h4]
theorem zrj {c : Codex} {f x : Int} {k : Ex} (h : LeafE c k) : cE c f x k ↔ (k.op = 2 /\ k.n = f /\ (x = 0 \/ (zon c f = true /\ x = 1))) := by
 obtain ⟨op, n, u, den, ps, ks⟩ := k
 have hk : ks = [] := h.no
 subst hk
 unfold cE
 simp [Ex.op, Ex.n]
def zci (q : Sr) (f : Int) : List Int := (zo f q.cands).getD []
def zrk (q : Sr) : Prop := ∀ e ∈ q.cands, (0 : Int) ∈ e.2
theorem zko {x : Int} : ∀ (vs l : List Int), x ∈ vs.foldl ww l ↔ x ∈ l \/ (x ∈ vs /\ x <= 1000000000000)
 | [], l => by simp
 | v :: vs, l => by
  rw [List.foldl_cons, zko vs]
  unfold ww
  by_cases h : v <= 1000000000000
  ·rw [if_pos h]
   by_cases hm : v ∈ l
   ·rw [if_pos hm]
    constructor
    ·rintro (h1 | ⟨h1, h2⟩)
     ·exact .inl h1
     ·exact .inr ⟨by simp [h1], h2⟩
    ·rintro (h1 | ⟨h1, h2⟩)
     ·exact .inl h1
     ·rcases List.mem_cons.1 h1 with rfl | h1
      ·exact .inl hm
      ·exact .inr ⟨h1, h2⟩
   ·rw [if_neg hm]
    constructor
    ·rintro (h1 | ⟨h1, h2⟩)
     ·rcases List.mem_append.1 h1 with h1 | h1
      ·exact .inl h1
      ·simp at h1; subst h1; exact .inr ⟨by simp, h⟩
     ·exact .inr ⟨by simp [h1], h2⟩
    ·rintro (h1 | ⟨h1, h2⟩)
     ·exact .inl (by simp [h1])
     ·rcases List.mem_cons.1 h1 with rfl | h1
      ·exact .inl (by simp)
      ·exact .inr ⟨h1, h2⟩
  ·rw [if_neg h]
   constructor
   ·rintro (h1 | ⟨h1, h2⟩)
    ·exact .inl h1
    ·exact .inr ⟨by simp [h1], h2⟩
   ·rintro (h1 | ⟨h1, h2⟩)
    ·exact .inl h1
    ·rcases List.mem_cons.1 h1 with rfl | h1
     ·exact absurd h2 h
     ·exact .inr ⟨h1, h2⟩
theorem zvv {q : Sr} {f g x : Int} {vs : List Int} : x ∈ zci (q.cand f vs) g ↔ x ∈ zci q g \/ (g = f /\ x ∈ vs /\ x <= 1000000000000) := by
 have hlk : zo g (q.cand f vs).cands = if g == f then some (vs.foldl ww ((zo f q.cands).getD [])) else zo g q.cands := jh g f _ _
 unfold zci
 rw [hlk]
 by_cases h : g = f
 ·subst h
  simp only [beq_self_eq_true, if_true, Option.getD_some]
  rw [zko]
  simp
 ·rw [if_neg (by simpa using h)]
  simp [h]
theorem zrl {q : Sr} (h : zrk q) (f : Int) {vs : List Int} (hv : (0 : Int) ∈ vs) : zrk (q.cand f vs) := fun e he => by
 rcases zis he with rfl | he
 ·show (0 : Int) ∈ vs.foldl ww _
  rw [zko]
  exact .inr ⟨hv, by omega⟩
 ·exact h e he
theorem zlw (s : Sr) (a b : Ex) : (cmpCand s a b).dates = s.dates := by
 unfold cmpCand
 split
 ·rfl
 ·split <;> rfl
theorem zoc {s : Sr} (h : zrk s) (a b : Ex) : zrk (cmpCand s a b) := by
 unfold cmpCand
 split
 ·exact h
 ·split
  ·exact zrl h _ (by simp)
  ·exact zrl h _ (by simp)
theorem zrm {c : Codex} {s : Sr} {a b : Ex} {f x : Int} (ha : LeafE c a) (hb : LeafE c b) (h1 : a.op = 1 \/ b.op = 1) : x ∈ zci (cmpCand s a b) f ↔ x ∈ zci s f \/ (cE c f x a \/ cP c f x a b) := by
 rw [zrj ha]
 unfold cmpCand cP
 by_cases h2 : a.op = 2
 ·rw [if_neg (by simp [h2])]
  have hb1 : b.op = 1 := by omega
  have hbn := hb.k1 hb1
  have hu := (ha.k2 h2).2.2
  split
  ·rename_i e
   rw [e] at hu
   simp only [decide_true] at hu
   rw [zvv]
   constructor
   ·rintro (h | ⟨h3, h4, h5⟩)
    ·exact .inl h
    ·subst h3
     simp at h4
     exact .inr (.inl ⟨h2, rfl, h4.imp id fun h => ⟨hu, h⟩⟩)
   ·rintro (h | ⟨_, h3, h4⟩ | ⟨_, h3, _, h4, h5⟩)
    ·exact .inl h
    ·refine .inr ⟨h3.symm, ?_, ?_⟩
     ·rcases h4 with h4 | h4 <;> simp [h4]
     ·omega
    ·subst h3; rw [hu] at h4; cases h4
  ·rename_i e
   have hu : zon c a.n = false := by rw [hu]; simpa using e
   rw [zvv]
   constructor
   ·rintro (h | ⟨h3, h4, h5⟩)
    ·exact .inl h
    ·subst h3
     simp at h4
     rcases h4 with h4 | h4
     ·exact .inr (.inl ⟨h2, rfl, .inl h4⟩)
     ·exact .inr (.inr ⟨h2, rfl, hb1, hu, h4⟩)
   ·rintro (h | ⟨_, h3, h4⟩ | ⟨_, h3, _, h4, h5⟩)
    ·exact .inl h
    ·subst h3
     rcases h4 with h4 | h4
     ·exact .inr ⟨rfl, by simp [h4], by omega⟩
     ·rw [hu] at h4; cases h4.1
    ·exact .inr ⟨h3.symm, by rcases h5 with h5 | h5 <;> simp [h5], by omega⟩
 ·rw [if_pos h2]
  constructor
  ·exact .inl
  ·rintro (h | ⟨h, _⟩ | ⟨h, _⟩)
   ·exact h
   ·exact absurd h h2
   ·exact absurd h h2
theorem zjd : ∀ (ks : List Ex) (q : Sr) (n : Int) (s1 : Sr) (k : Int), xg ks q n = (true, s1, k) -> q.dates.length = 5 -> (∀ e ∈ ks, e.op = 4 -> 1 <= e.n /\ e.n <= 4) ->
  s1.dates.length = 5 /\ (∀ j, q.dates.getD j false = true -> s1.dates.getD j false = true) /\ (∀ e ∈ ks, e.op = 4 -> s1.dates.getD e.n.toNat false = true) /\ s1.cands = q.cands
 | [], q, n, s1, k, h, h5, _ => by
  simp only [xg, Prod.mk.injEq] at h
  obtain ⟨_, rfl, _⟩ := h
  exact ⟨h5, fun _ h => h, fun _ h => (by cases h), rfl⟩
 | e :: r, q, n, s1, k, h, h5, hd => by
  simp only [xg] at h
  split at h
  ·rename_i h1
   obtain ⟨a1, a2, a3, a4⟩ := zjd r q _ s1 k h h5 fun x hx => hd x (by simp [hx])
   refine ⟨a1, a2, fun x hx h4 => ?_, a4⟩
   rcases List.mem_cons.1 hx with rfl | hx
   ·omega
   ·exact a3 x hx h4
  ·split at h
   ·rename_i h4
    have hr := hd e (by simp) h4
    obtain ⟨a1, a2, a3, a4⟩ := zjd r (q.date e.n) _ s1 k h (by simp [Sr.date, h5]) fun x hx => hd x (by simp [hx])
    have hset : ∀ j, (q.date e.n).dates.getD j false = if e.n.toNat = j /\ j < q.dates.length then true else q.dates.getD j false := fun j => zel _ _ _ _ _
    refine ⟨a1, fun j hj => a2 j (by rw [hset]; split; rfl; exact hj), fun x hx h4 => ?_, a4⟩
    rcases List.mem_cons.1 hx with rfl | hx
    ·exact a2 _ (by rw [hset, if_pos ⟨rfl, by omega⟩])
    ·exact a3 x hx h4
   ·split at h
    ·rename_i h2
     obtain ⟨a1, a2, a3, a4⟩ := zjd r q _ s1 k h h5 fun x hx => hd x (by simp [hx])
     refine ⟨a1, a2, fun x hx h4 => ?_, a4⟩
     rcases List.mem_cons.1 hx with rfl | hx
     ·omega
     ·exact a3 x hx h4
    ·cases h
theorem yru (l r : Ex) (q : Sr) : ((xg [l, r] q 0).1 && !decide ((xg [l, r] q 0).2.2 = 0)) = ((decide (l.op = 1) || decide (l.op = 2) || decide (l.op = 4)) && (decide (r.op = 1) || decide (r.op = 2) || decide (r.op = 4)) && (decide (l.op = 1) || decide (r.op = 1))) := by
 simp only [xg]
 by_cases l1 : l.op = 1
 ·by_cases r1 : r.op = 1
  ·simp [l1, r1]
  ·by_cases r4 : r.op = 4
   ·simp [l1, r4]
   ·by_cases r2 : r.op = 2
    ·simp [l1, r2]
    ·simp [l1, r1, r2, r4]
 ·by_cases l4 : l.op = 4
  ·by_cases r1 : r.op = 1
   ·simp [l4, r1]
   ·by_cases r4 : r.op = 4
    ·simp [l4, r4]
    ·by_cases r2 : r.op = 2
     ·simp [l4, r2]
     ·simp [l4, r1, r2, r4]
  ·by_cases l2 : l.op = 2
   ·by_cases r1 : r.op = 1
    ·simp [l2, r1]
    ·by_cases r4 : r.op = 4
     ·simp [l2, r4]
     ·by_cases r2 : r.op = 2
      ·simp [l2, r2]
      ·simp [l2, r1, r2, r4]
   ·simp [l1, l2, l4]
structure SimpR (c : Codex) (q : Sr) (e : Ex) (x : Cond) (q' : Sr) : Prop where
 tru : ∀ p vs, x.tru p vs = holdsE p vs e
 mem : ∀ f x, x ∈ zci q' f ↔ x ∈ zci q f \/ cE c f x e
 zero : zrk q -> zrk q'
 len : q'.dates.length = 5
 dates : x.dateIn q'.dates
 dgrow : ∀ j, q.dates.getD j false = true -> q'.dates.getD j false = true
theorem Cond.dateIn_mono {d d' : List Bool} (h : ∀ j, d.getD j false = true -> d'.getD j false = true) : ∀ c : Cond, c.dateIn d -> c.dateIn d'
 | .none, _ => trivial
 | .plain _, hc => fun e => ⟨(hc e).1, (hc e).2.1, h _ (hc e).2.2⟩
 | .cmp _ _ _, hc => ⟨fun e => ⟨(hc.1 e).1, (hc.1 e).2.1, h _ (hc.1 e).2.2⟩, fun e => ⟨(hc.2 e).1, (hc.2 e).2.1, h _ (hc.2 e).2.2⟩⟩
 | .neg c, hc => Cond.dateIn_mono h c hc
 | .conn _ l r, hc => ⟨Cond.dateIn_mono h l hc.1, Cond.dateIn_mono h r hc.2⟩
theorem znd {op : Int} (h : op = 8 \/ op = 9 \/ op = 10) (n : Int) (u : ByteArray) (den : Int) (ps : List Piece) (k l : Ex) (p : zgh) (vs : List Int) :
  holdsE p vs (.mk op n u den ps [k, l]) = zsh op (zfk p vs k) (zfk p vs l) := by
 unfold holdsE
 rw [if_neg (by omega), if_neg (by omega), if_neg (by omega), if_neg (by omega)]
theorem zlx {op : Int} (h : op = 8 \/ op = 9 \/ op = 10) (c : Codex) (n : Int) (u : ByteArray) (den : Int) (ps : List Piece) (k l : Ex) :
  simpE c (.mk op n u den ps [k, l]) = (zyz k && zyz l && (decide (k.op = 1) || decide (l.op = 1))) := by
 have hc : zob op = true := by unfold zob; rcases h with rfl | rfl | rfl <;> rfl
 unfold simpE
 rw [if_neg (by omega), if_neg (by omega), if_neg (by omega), if_neg (by omega)]
 simp only [hc, Bool.true_and]
theorem yrv {c : Codex} {m : List (Int × Int)} {op : Int} (hop : op = 8 \/ op = 9 \/ op = 10) (n : Int) (u : ByteArray) (den : Int) (ps : List Piece) {l r : Ex} (hl : zfp c m l) (hr : zfp c m r) (q : Sr) (h5 : q.dates.length = 5) :
  (cmpOf q op [l, r]).2.1 = simpE c (.mk op n u den ps [l, r]) /\ ((cmpOf q op [l, r]).2.1 = true -> SimpR c q (.mk op n u den ps [l, r]) (cmpOf q op [l, r]).1 (cmpOf q op [l, r]).2.2) := by
 have hok := yru l r q
 rw [zlx hop, part_of hl, part_of hr, <- hok]
 have hc : zob op = true := by unfold zob; rcases hop with rfl | rfl | rfl <;> rfl
 unfold cmpOf
 cases hz : xg [l, r] q 0 with
 | mk b z =>
  obtain ⟨s1, k⟩ := z
  cases b with
  | false => exact ⟨rfl, fun h => by cases h⟩
  | true =>
   simp only
   by_cases hn : k = 0
   ·rw [if_pos hn]; exact ⟨by simp [hn], fun h => by cases h⟩
   ·rw [if_neg hn]
    obtain ⟨t1, t2, t3⟩ := yei hz hn
    have hll := zgq hl (by omega)
    have hlr := zgq hr (by omega)
    obtain ⟨d1, d2, d3, d4⟩ := zjd _ _ _ _ _ hz h5 (fun e he h4 => by
     rcases List.mem_cons.1 he with rfl | he
     ·exact hll.k4 h4
     ·simp at he; subst he; exact hlr.k4 h4)
    have hcd : (cmpCand (cmpCand s1 l r) r l).dates = s1.dates := by rw [zlw, zlw]
    have hcl : ∀ f, zci s1 f = zci q f := fun f => by unfold zci; rw [d4]
    have hmem : ∀ f x, x ∈ zci (cmpCand (cmpCand s1 l r) r l) f ↔ x ∈ zci q f \/ cE c f x (.mk op n u den ps [l, r]) := fun f x => by
     rw [zrm hlr hll (by omega), zrm hll hlr (by omega), hcl]
     rw [cE.eq_def c f x (.mk op n u den ps [l, r])]
     simp only [hc, true_and]
     constructor
     ·rintro ((h | h | h) | h | h)
      ·exact .inl h
      ·exact .inr (.inr (.inl h))
      ·exact .inr (.inr (.inr (.inr (.inl h))))
      ·exact .inr (.inr (.inr (.inl h)))
      ·exact .inr (.inr (.inr (.inr (.inr h))))
     ·rintro (h | h | h | h | h | h)
      ·exact .inl (.inl h)
      ·omega
      ·exact .inl (.inr (.inl h))
      ·exact .inr (.inl h)
      ·exact .inl (.inr (.inr h))
      ·exact .inr (.inr h)
    have hz1 : zrk q -> zrk (cmpCand (cmpCand s1 l r) r l) := fun h => zoc (zoc (by unfold zrk; rw [d4]; exact h) _ _) _ _
    have hdi : Cond.dateIn s1.dates (.cmp op ⟨l.op, l.n⟩ ⟨r.op, r.n⟩) := ⟨fun e => ⟨(hll.k4 e).1, (hll.k4 e).2, d3 l (by simp) e⟩, fun e => ⟨(hlr.k4 e).1, (hlr.k4 e).2, d3 r (by simp) e⟩⟩
    refine ⟨by simp [hn], fun _ => ?_⟩
    have htru : ∀ p vs, Cond.tru p vs (.cmp op ⟨l.op, l.n⟩ ⟨r.op, r.n⟩) = holdsE p vs (.mk op n u den ps [l, r]) := fun p vs => by rw [znd hop]; rfl
    split
    ·exact ⟨htru, hmem, hz1, by show (cmpCand (cmpCand s1 l r) r l).dates.length = 5; rw [hcd]; exact d1, by show Cond.dateIn (cmpCand (cmpCand s1 l r) r l).dates _; rw [hcd]; exact hdi, fun j hj => by show (cmpCand (cmpCand s1 l r) r l).dates.getD j false = true; rw [hcd]; exact d2 j hj⟩
    ·exact ⟨htru, hmem, hz1, by rw [hcd]; exact d1, by rw [hcd]; exact hdi, fun j hj => by rw [hcd]; exact d2 j hj⟩
theorem zje {c : Codex} {m : List (Int × Int)} : ∀ (N : Nat) (e : Ex) (q : Sr), SizeOf.sizeOf e < N -> zfp c m e -> e.unit = tT -> q.dates.length = 5 ->
  (simpleOf e q).2.1 = simpE c e /\ ((simpleOf e q).2.1 = true -> SimpR c q e (simpleOf e q).1 (simpleOf e q).2.2)
 | 0, _, _, h, _, _, _ => by omega
 | N + 1, .mk op n u den ps ks, q, hN, h, hu, h5 => by
  simp only [Ex.mk.sizeOf_spec] at hN
  have hu : u = tT := hu
  rw [zhx]
  cases zpb h hu with
  | const h1 hk hu' =>
   subst h1 hk
   rw [if_pos rfl]
   refine ⟨by unfold simpE; rw [if_pos rfl]; exact (decide_eq_true hu').symm, fun _ => ⟨fun p vs => ?_, fun f x => ?_, fun h => h, h5, fun e => ?_, fun _ h => h⟩⟩
   ·unfold holdsE; rfl
   ·unfold cE; simp
   ·exact absurd e (show ¬ (1 : Int) = 4 by decide)
  | fact h1 hk hr ht =>
   subst h1 hk
   rw [if_neg (by decide), if_pos rfl]
   refine ⟨by unfold simpE; rw [if_neg (by decide), if_pos rfl]; exact ht.symm, fun _ => ⟨fun p vs => ?_, fun f x => ?_, fun h => zrl h _ (by simp), h5, fun e => ?_, fun _ h => h⟩⟩
   ·unfold holdsE; rfl
   ·rw [zvv]
    unfold cE
    simp only [true_and, or_false]
    constructor
    ·rintro (h | ⟨h1, h2, h3⟩)
     ·exact .inl h
     ·subst h1
      simp at h2
      exact .inr ⟨rfl, h2.imp id fun h => ⟨ht, h⟩⟩
    ·rintro (h | ⟨h1, h2⟩)
     ·exact .inl h
     ·exact .inr ⟨h1.symm, by rcases h2 with h2 | h2 <;> simp [h2], by omega⟩
   ·exact absurd e (show ¬ (2 : Int) = 4 by decide)
  | neg k h1 hk hka hku =>
   subst h1 hk
   rw [if_neg (by decide), if_neg (by decide), if_neg (by decide), if_pos rfl]
   simp only [List.cons.sizeOf_spec] at hN
   obtain ⟨a, b⟩ := zje N k q (by omega) hka hku h5
   refine ⟨by rw [simpE.eq_def]; simp only [show ¬ (5 : Int) = 1 by decide, show ¬ (5 : Int) = 2 by decide, if_false, if_true]; exact a, fun hs => ?_⟩
   have b := b hs
   refine ⟨fun p vs => ?_, fun f x => ?_, b.zero, b.len, b.dates, b.dgrow⟩
   ·rw [holdsE.eq_def]
    simp only [if_true, Cond.tru]
    rw [b.tru]
   ·rw [cE.eq_def]
    simp only [show ¬ (5 : Int) = 2 by decide, false_and, false_or]
    exact b.mem f x
  | conn k l h1 hk hka hla hku hlu =>
   subst hk
   rw [if_neg (by omega), if_neg (by omega), if_neg (by omega), if_neg (by omega), if_pos h1]
   simp only [List.cons.sizeOf_spec] at hN
   obtain ⟨a, b⟩ := zje N k q (by omega) hka hku h5
   have hsE : simpE c (.mk op n u den ps [k, l]) = (simpE c k && simpE c l) := by
    rw [simpE.eq_def]
    simp only
    rw [if_neg (by omega), if_neg (by omega), if_neg (by omega), if_pos h1]
   simp only
   rw [hsE]
   by_cases hk : (simpleOf k q).2.1 = true
   ·have b := b hk
    obtain ⟨a', b'⟩ := zje N l (simpleOf k q).2.2 (by omega) hla hlu b.len
    refine ⟨by rw [<- a, hk, a']; try rfl, fun hs => ?_⟩
    rw [hk, Bool.true_and] at hs
    have b' := b' hs
    refine ⟨fun p vs => ?_, fun f x => ?_, fun h => b'.zero (b.zero h), b'.len, ⟨Cond.dateIn_mono b'.dgrow _ b.dates, b'.dates⟩, fun j hj => b'.dgrow j (b.dgrow j hj)⟩
    ·rw [holdsE.eq_def]
     simp only [Cond.tru]
     rw [b.tru, b'.tru]
     rcases h1 with rfl | rfl
     ·rfl
     ·rfl
    ·have hc : zob op = false := by unfold zob; rcases h1 with rfl | rfl <;> rfl
     rw [b'.mem, b.mem, cE.eq_def c f x (.mk op n u den ps [k, l])]
     simp only [hc]
     constructor
     ·rintro ((h | h) | h)
      ·exact .inl h
      ·exact .inr (.inr (.inl h))
      ·exact .inr (.inr (.inr (.inl h)))
     ·rintro (h | h | h | h | h)
      ·exact .inl (.inl h)
      ·omega
      ·exact .inl (.inr h)
      ·exact .inr h
      ·cases h.1
   ·have hk : (simpleOf k q).2.1 = false := by simpa using hk
    rw [<- a, hk]
    exact ⟨by simp, fun h => by simp at h⟩
  | cmp k l h1 hk hka hla =>
   subst hk
   rw [if_neg (by omega), if_neg (by omega), if_pos h1]
   exact yrv h1 n u den ps hka hla q h5
  | other h1 h2 h3 h4 h5' =>
   rw [if_neg h1, if_neg h2, if_neg h5', if_neg h3, if_neg h4]
   refine ⟨?_, fun h => by cases h⟩
   unfold simpE
   rw [if_neg h1, if_neg h2, if_neg h3, if_neg h4]
   have hc : zob op = false := by unfold zob; simp; omega
   split
   ·simp [hc]
   ·rfl
structure RefOK (c : Codex) (q : Sr) (es : List Ex) : Prop where
 len : q.dates.length = 5
 zero : zrk q
 mem : ∀ f x, x ∈ zci q f ↔ ∃ e ∈ es, cE c f x e
 sat : ∀ p vs, yoc q.conds p vs ↔ ∀ e ∈ es, holdsE p vs e = true
 dates : ∀ x ∈ q.conds, x.dateIn q.dates
def zzb (c : Codex) (m : List (Int × Int)) (e : Ex) : Prop := zfp c m e /\ e.unit = tT
theorem yej {c : Codex} {m : List (Int × Int)} (hm : zny m) (hF : c.facts.length <= 12) : ∀ (es done : List Ex) (q : Sr), (∀ e ∈ es, zzb c m e) -> RefOK c q done ->
  (zdf es q).isSome = es.all (simpE c) /\ ∀ q', zdf es q = some q' -> RefOK c q' (done ++ es)
 | [], done, q, _, hq => ⟨rfl, fun q' h => by simp only [zdf, Option.some.injEq] at h; subst h; simpa using hq⟩
 | e :: r, done, q, he, hq => by
  obtain ⟨hea, heu⟩ := he e (by simp)
  have h1 := zje _ e q (Nat.lt_succ_self _) hea heu hq.len
  have h4 := zay _ e q (Nat.lt_succ_self _) (znc hm (by omega) _ e (Nat.lt_succ_self _) hea)
  rw [zdf, List.all_cons]
  generalize simpleOf e q = z at h1 h4
  obtain ⟨cd, b, q1⟩ := z
  simp only at h1 h4 ⊢
  cases b with
  | false => rw [<- h1.1]; exact ⟨rfl, fun _ h => by cases h⟩
  | true =>
   obtain ⟨h1, h2⟩ := h1
   have h2 := h2 rfl
   have hn : RefOK c { q1 with conds := q1.conds ++ [cd] } (done ++ [e]) := by
    refine ⟨h2.len, h2.zero hq.zero, fun f x => ?_, fun p vs => ?_, fun x hx => ?_⟩
    ·show x ∈ zci q1 f ↔ _
     rw [h2.mem, hq.mem]
     simp [or_and_right, exists_or]
    ·have := hq.sat p vs
     unfold yoc at this ⊢
     simp only [h4, List.mem_append, List.mem_singleton, or_imp, forall_and, forall_eq]
     rw [this, h2.tru]
    ·show x.dateIn q1.dates
     simp only [h4, List.mem_append, List.mem_singleton] at hx
     rcases hx with hx | rfl
     ·exact Cond.dateIn_mono h2.dgrow _ (hq.dates x hx)
     ·exact h2.dates
   obtain ⟨g1, g2⟩ := yej hm hF r (done ++ [e]) _ (fun x hx => he x (by simp [hx])) hn
   rw [<- h1, Bool.true_and]
   exact ⟨g1, fun q' h => by have := g2 q' h; simpa using this⟩
theorem yek {c : Codex} {m : List (Int × Int)} (hm : zny m) (hF : c.facts.length <= 12) (ha : ∀ a ∈ c.arts, ∀ e ∈ a.when_, zzb c m e) : ∀ (vs : List Int) (done : List Ex) (q : Sr), (∀ v ∈ vs, 0 <= v /\ v < c.arts.length) -> RefOK c q done ->
  (zag c vs q).isSome = (xl c vs).all (simpE c) /\ ∀ q', zag c vs q = some q' -> RefOK c q' (done ++ xl c vs)
 | [], done, q, _, hq => ⟨rfl, fun q' h => by simp only [zag, Option.some.injEq] at h; subst h; simpa [xl] using hq⟩
 | v :: r, done, q, hv, hq => by
  have hc : xl c (v :: r) = zlv c v ++ xl c r := rfl
  rw [zag, hc, List.all_append]
  have hvr := hv v (by simp)
  cases hav : qf c v with
  | none =>
   exfalso
   unfold qf at hav
   simp at hav
   omega
  | some a =>
   have hw : zlv c v = a.when_ := by unfold zlv; rw [hav]
   obtain ⟨g1, g2⟩ := yej hm hF a.when_ done q (ha a (zfh hav)) hq
   rw [hw]
   simp only
   cases hwn : zdf a.when_ q with
   | none =>
    rw [hwn] at g1
    simp only
    rw [<- g1]
    exact ⟨rfl, fun _ h => by cases h⟩
   | some q1 =>
    rw [hwn] at g1
    simp only
    rw [<- g1]
    obtain ⟨f1, f2⟩ := yek hm hF ha r (done ++ a.when_) q1 (fun x hx => hv x (by simp [hx])) (g2 q1 hwn)
    exact ⟨by simpa using f1, fun q' h => by have := f2 q' h; simpa using this⟩
theorem yvy (c : Codex) : RefOK c sr0 [] := ⟨rfl, fun e he => by simp [sr0] at he, fun f x => by simp [zci, sr0, zo], fun p vs => by simp [yoc, sr0], fun x hx => by simp [sr0] at hx⟩
end Go.Proofs.YtblpjknmhajcgaaGreatDoor