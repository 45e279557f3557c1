/- Contracts of functions of the program, joined from Ht, Hv, Hw, Sh33, Hx, Sh34, Hy, Hz: no condition. -/
import Derived.Test.YthmkdghoaifkbaaGreatDoorJ5
set_option linter.unusedSimpArgs false
set_option linter.unusedVariables false
/- The law ViewRuns: what it computes. -/
namespace Go.Proofs.YthmkdghoaifkbaaGreatDoor
open Go Go.Sh
set_option maxRecDepth 10000
set_option maxHeartbeats 4000000

theorem firstOf_end (n : Nat) (h : n ≤ 1200) : firstOf n ≤ 36525 := by
  rw [← closed_eq n h]
  unfold closedB
  have hc : n % 12 = 0 ∨ n % 12 = 1 ∨ n % 12 = 2 ∨ n % 12 = 3 ∨ n % 12 = 4 ∨ n % 12 = 5 ∨ n % 12 = 6 ∨ n % 12 = 7 ∨ n % 12 = 8 ∨ n % 12 = 9 ∨ n % 12 = 10 ∨ n % 12 = 11 := by omega
  rcases hc with h' | h' | h' | h' | h' | h' | h' | h' | h' | h' | h' | h' <;> rw [h'] <;> simp [tableB] <;> (try split) <;> omega
theorem month_range {m : Int} (h : 0 ≤ firstDay m) : (0 ≤ m ∧ m ≤ 1199) ∧ firstDay m + monthLen m ≤ 36525 ∧ 28 ≤ monthLen m ∧ monthLen m ≤ 31 := by
  have hm : 0 ≤ m ∧ m ≤ 1199 := by
    simp only [firstDay] at h
    split at h
    · assumption
    · omega
  have e1 : firstDay m = firstOf m.toNat := by simp only [firstDay]; rw [if_pos hm]
  have e2 : monthLen m = lenOf m.toNat := by simp only [monthLen]; rw [if_pos hm]
  have h3 := firstOf_end (m.toNat + 1) (by omega)
  simp only [firstOf] at h3
  have h4 : 28 ≤ lenOf m.toNat ∧ lenOf m.toNat ≤ 31 := by
    unfold lenOf daysIn
    split
    · omega
    · split
      · split <;> omega
      · omega
  rw [e1, e2]
  exact ⟨hm, h3, h4⟩
theorem firstDay_neg {m : Int} (h : firstDay m < 0) : ¬ (0 ≤ m ∧ m ≤ 1199) := by
  intro hm
  have := firstOf_bound m.toNat
  simp only [firstDay] at h
  rw [if_pos hm] at h
  omega
theorem dayViews_from (c : Codex) (l : List Fact) (p : ByteArray) (m k : Int) : dayViews c l p m k = viewsFrom (viewOf c l p k) (firstDay m) (monthLen m).toNat := rfl

theorem monthRuns_bad {c : Codex} {l : List Fact} {p : ByteArray} {m k : Int} (h : ¬ (readerOK c l k = true ∧ 0 ≤ m ∧ m ≤ 1199)) : monthRuns c l p m k = ([], 1) := by
  have : ¬ (readerOK c l k && decide (0 ≤ m) && decide (m ≤ 1199)) = true := by simp only [Bool.and_eq_true, decide_eq_true_eq]; exact fun h' => h ⟨h'.1.1, h'.1.2, h'.2⟩
  rw [monthRuns, if_neg this]
theorem valid_reader {c : Codex} {l : List Fact} {k : Int} (hs : smallOK c l = true) : (validOK c l = true ∧ 0 ≤ k ∧ k ≤ 36524) ↔ readerOK c l k = true := by
  simp only [validOK, hs, Bool.true_and, refOK_eq, readerOK, Bool.and_eq_true, dayOK, decide_eq_true_eq]

theorem viewAt_in {c : Codex} {l : List Fact} {p : ByteArray} {k d : Int} (hr : readerOK c l k = true) (h0 : 0 ≤ d) (h1 : d ≤ 36524) : viewAt c l p d k = (viewOf c l p k d, 0) := by
  have hd : dayOK d = true := by simp [dayOK, h0, h1]
  rw [viewAt, if_pos (by rw [hr, hd]; rfl)]
theorem viewOf_fit {c : Codex} {l : List Fact} {p : ByteArray} {k : Int} (hr : readerOK c l k = true) (d : Int) : (viewOf c l p k d).fit := by
  obtain ⟨h1, h2, _⟩ := readerOK_len hr
  refine ⟨by simp [viewOf]; omega, by simp [viewOf]; omega, ?_⟩
  simp only [viewOf]
  have := inForce_len c.arts d k
  omega

theorem viewRunsLaw_bad (c : Codex) (l : List Fact) (p : ByteArray) (m k : Int) (hc : Codex.ok c) (hl : storeGo l) (hsm : smallOK c l = true) (hall : ¬ (validOK c l = true ∧ 0 ≤ firstDay m ∧ 0 ≤ k ∧ k ≤ 36524)) :
    SPure Tryz.prog G0 6 [c.sv, storeSV l, sS p, sI m, sI k] (sB true) := by
  have hmr : monthRuns c l p m k = ([], 1) := monthRuns_bad (fun h => hall (by
    obtain ⟨h1, h2, h3⟩ := (valid_reader (c := c) (l := l) (k := k) hsm).2 h.1
    refine ⟨h1, ?_, h2, h3⟩
    rcases Int.lt_or_le (firstDay m) 0 with h4 | h4
    · exact absurd h.2 (firstDay_neg h4)
    · exact h4))
  have hruns := runs_spec c l p m k (codexFit hc)
  rw [hmr] at hruns
  refine spure_enter Tryz.func6 rfl (by rw [Tryz.ntmps6]; simp) rfl rfl ?_; intro E hH hK
  (refine sgo_sound [] 1000 ?_; conv => whnf)
  refine swr_pure rfl rfl rfl rfl rfl rfl  head_spec ?_
  (refine sgor_sound [] 1000 ?_; conv => whnf)
  refine swr_pure rfl rfl rfl rfl rfl rfl  (lawSmall_spec G0 c l) ?_
  rw [hsm]
  (refine sgor_sound [] 1000 ?_; conv => whnf)
  refine swr_pure rfl rfl rfl rfl rfl rfl  hruns ?_
  (refine sgor_sound [] 1000 ?_; conv => whnf)
  refine swr_pure rfl rfl rfl rfl rfl rfl  (refFirst_spec G0 m) ?_
  (refine sgor_sound [] 1000 ?_; conv => whnf)
  refine swr_pure rfl rfl rfl rfl rfl rfl  (lawValid_spec G0 c l (storeFit hl)) ?_
  cases hv : validOK c l with
  | false =>
    (refine sgor_sound [] 1000 ?_; conv => whnf)
    exact hK _
  | true =>
    (refine sgor_sound [] 1000 ?_; conv => whnf)
    repeat' ((first | with_reducible refine bdec (fun h => ?_) (fun h => ?_) | with_reducible refine bndec (fun h => ?_) (fun h => ?_) | with_reducible refine bwtd (fun h => ?_) (fun h => ?_) | with_reducible refine bwfd (fun h => ?_) (fun h => ?_) | with_reducible refine bwtn (fun h => ?_) (fun h => ?_) | with_reducible refine bwfn (fun h => ?_) (fun h => ?_) | with_reducible refine bwtb (fun h => ?_) (fun h => ?_) | with_reducible refine bwfb (fun h => ?_) (fun h => ?_) | with_reducible refine bwt (fun h => ?_) (fun h => ?_) | with_reducible refine bwf (fun h => ?_) (fun h => ?_) | with_reducible refine bnt (fun h => ?_) (fun h => ?_) | with_reducible refine bcase (fun h => ?_) (fun h => ?_)) <;> (conv => whnf))
    all_goals first | exact hK _ | (exfalso; exact hall ⟨hv, by omega, by omega, by omega⟩)

theorem viewRunsLaw_good (c : Codex) (l : List Fact) (p : ByteArray) (m k : Int) (hc : Codex.ok c) (hl : storeGo l) (hsm : smallOK c l = true) (hv : validOK c l = true) (hf0 : 0 ≤ firstDay m) (hk : 0 ≤ k ∧ k ≤ 36524) :
    SPure Tryz.prog G0 6 [c.sv, storeSV l, sS p, sI m, sI k] (sB true) := by
  have hr : readerOK c l k = true := (valid_reader hsm).1 ⟨hv, hk⟩
  obtain ⟨hm, hend, hl1, hl2⟩ := month_range hf0
  have hmr : monthRuns c l p m k = (runsOf (dayViews c l p m k), 0) := by rw [monthRuns, if_pos (by simp [hr, hm])]
  have hruns := runs_spec c l p m k (codexFit hc)
  rw [hmr] at hruns
  dsimp only at hruns
  have hch : Chain (fun x y => (viewOf c l p k x).same (viewOf c l p k y)) (firstDay m) (firstDay m + monthLen m) (runsOf (dayViews c l p m k)) := by
    have := runs_chain (viewOf c l p k) (fun _ => rfl) (firstDay m) (monthLen m).toNat
    rw [dayViews_from]
    rwa [show (((monthLen m).toNat : Nat) : Int) = monthLen m by omega] at this
  have hlen : (runsOf (dayViews c l p m k)).length ≤ 31 := by
    have := runsOf_len (dayViews c l p m k)
    simp only [dayViews, List.length_map, List.length_range] at this
    simp only [dayViews]
    omega
  have hfirst := refFirst_spec G0 m
  have hlength := refLength_spec G0 m
  have hat : ∀ d, firstDay m ≤ d → d < firstDay m + monthLen m → SPure Tryz.prog G0 11 [c.sv, storeSV l, sS p, sI d, sI k] (errSV (viewOf c l p k d).sv 0) := fun d h1 h2 => by
    have := viewAt_spec G0 c l p d k (codexFit hc)
    rwa [viewAt_in hr (by omega) (by omega)] at this
  have hsame : ∀ x y, SPure Tryz.prog G0 16 [(viewOf c l p k x).sv, (viewOf c l p k y).sv] (sB ((viewOf c l p k x).same (viewOf c l p k y))) := fun x y => viewSame_spec G0 _ _ (viewOf_fit hr x)
  have hvd : ∀ x, (viewOf c l p k x).day = x := fun _ => rfl
  generalize runsOf (dayViews c l p m k) = R at hruns hch hlen
  generalize viewOf c l p k = f at hch hat hsame hvd
  generalize firstDay m = a at hf0 hend hch hfirst hat
  generalize monthLen m = n at hend hl1 hl2 hch hlength hat
  have hrl : (R.map runCell).length = R.length := by simp
  have hne : R ≠ [] := by
    intro h0
    rw [h0] at hch
    simp only [Chain] at hch
    omega
  have hpos : 0 < R.length := List.length_pos_iff.2 hne
  have hwe : IntKind.i64.wrap (a + n) = a + n := wrap64 (by omega) (by omega)
  refine spure_enter Tryz.func6 rfl (by rw [Tryz.ntmps6]; simp) rfl rfl ?_; intro E hH hK
  (refine sgo_sound [] 1000 ?_; conv => whnf)
  refine swr_pure rfl rfl rfl rfl rfl rfl  head_spec ?_
  (refine sgor_sound [] 1000 ?_; conv => whnf)
  refine swr_pure rfl rfl rfl rfl rfl rfl  (lawSmall_spec G0 c l) ?_
  rw [hsm]
  (refine sgor_sound [] 1000 ?_; conv => whnf)
  refine swr_pure rfl rfl rfl rfl rfl rfl  hruns ?_
  (refine sgor_sound [] 1000 ?_; conv => whnf)
  refine swr_pure rfl rfl rfl rfl rfl rfl  hfirst ?_
  (refine sgor_sound [] 1000 ?_; conv => whnf)
  refine swr_pure rfl rfl rfl rfl rfl rfl  (lawValid_spec G0 c l (storeFit hl)) ?_
  rw [hv]
  (refine sgor_sound [] 1000 ?_; conv => whnf)
  repeat' ((first | with_reducible refine bdec (fun h => ?_) (fun h => ?_) | with_reducible refine bndec (fun h => ?_) (fun h => ?_) | with_reducible refine bwtd (fun h => ?_) (fun h => ?_) | with_reducible refine bwfd (fun h => ?_) (fun h => ?_) | with_reducible refine bwtn (fun h => ?_) (fun h => ?_) | with_reducible refine bwfn (fun h => ?_) (fun h => ?_) | with_reducible refine bwtb (fun h => ?_) (fun h => ?_) | with_reducible refine bwfb (fun h => ?_) (fun h => ?_) | with_reducible refine bwt (fun h => ?_) (fun h => ?_) | with_reducible refine bwf (fun h => ?_) (fun h => ?_) | with_reducible refine bnt (fun h => ?_) (fun h => ?_) | with_reducible refine bcase (fun h => ?_) (fun h => ?_)) <;> (first | (exfalso; omega) | (conv => whnf)))
  refine sw_keep [2, 3, 4, 5, 6, 11, 14, 15, 16, 80, 81, 82] ?_
  refine sw_each R (fun i (s : Int × Option View) => [(2, sS p), (3, sI m), (4, sI k), (5, .ptr 0 0), (6, .ptr 1 0), (11, sB true), (14, sI a), (15, sI s.1), (16, .ptr 2 0), (80, .imm (dRuns R)), (81, sI (R.map runCell).length), (82, sI i)])
    (fun _ s => [.cells [.imm (dDecls c.facts), .imm (dDecls c.lines), .imm (dArts c.arts)], .cells [.imm (dFacts l)], beforeObj s.2])
    (fun done rest s => a ≤ s.1 ∧ Chain (fun x y => (f x).same (f y)) s.1 (a + n) rest ∧ ((done.length = 0 ∧ s.2 = none) ∨ (0 < done.length ∧ s.2 = some (f (s.1 - 1)) ∧ (rest ≠ [] → (f (s.1 - 1)).same (f s.1) = false)))) (a, none)
    ⟨Int.le_refl _, hch, .inl ⟨rfl, rfl⟩⟩ ?_ ?_
  · as_aux_lemma =>
      rintro ⟨at_, o⟩ ⟨h1, h2, h3⟩
      dsimp only at h1 h2 h3 ⊢
      simp only [Chain] at h2
      rcases h3 with ⟨hd, h3⟩ | ⟨hd, h3, _⟩
      · omega
      subst h3
      (refine sgo_sound [] 1000 ?_; conv => whnf)
      repeat' ((first | with_reducible refine bdec (fun h => ?_) (fun h => ?_) | with_reducible refine bndec (fun h => ?_) (fun h => ?_) | with_reducible refine bwtd (fun h => ?_) (fun h => ?_) | with_reducible refine bwfd (fun h => ?_) (fun h => ?_) | with_reducible refine bwtn (fun h => ?_) (fun h => ?_) | with_reducible refine bwfn (fun h => ?_) (fun h => ?_) | with_reducible refine bwtb (fun h => ?_) (fun h => ?_) | with_reducible refine bwfb (fun h => ?_) (fun h => ?_) | with_reducible refine bwt (fun h => ?_) (fun h => ?_) | with_reducible refine bwf (fun h => ?_) (fun h => ?_) | with_reducible refine bnt (fun h => ?_) (fun h => ?_) | with_reducible refine bcase (fun h => ?_) (fun h => ?_)) <;> (first | (exfalso; omega) | (conv => whnf)))
      refine swr_pure rfl rfl rfl rfl rfl rfl  hlength ?_
      (refine sgor_sound [] 1000 ?_; conv => whnf)
      rw [hwe, decide_eq_true h2]
      exact hK _
  · as_aux_lemma =>
      rintro done ⟨at_, b⟩ rest ⟨at2, o⟩ ha hl2 ⟨h1, h2, h3⟩ ih
      dsimp only at h1 h2 h3 ⊢
      simp only [Chain] at h2
      obtain ⟨h4, hb, hall, hnext, hrest⟩ := h2
      subst h4
      have hbe := chain_end hrest
      have hw := wrap_succ (n := done.length) (by omega)
      rcases h3 with ⟨hd, h3⟩ | ⟨hd, h3, hs⟩ <;> subst h3
      all_goals (refine sgo_sound [] 1000 ?_; conv => whnf)
      all_goals repeat' ((first | with_reducible refine bdec (fun h => ?_) (fun h => ?_) | with_reducible refine bndec (fun h => ?_) (fun h => ?_) | with_reducible refine bwtd (fun h => ?_) (fun h => ?_) | with_reducible refine bwfd (fun h => ?_) (fun h => ?_) | with_reducible refine bwtn (fun h => ?_) (fun h => ?_) | with_reducible refine bwfn (fun h => ?_) (fun h => ?_) | with_reducible refine bwtb (fun h => ?_) (fun h => ?_) | with_reducible refine bwfb (fun h => ?_) (fun h => ?_) | with_reducible refine bwt (fun h => ?_) (fun h => ?_) | with_reducible refine bwf (fun h => ?_) (fun h => ?_) | with_reducible refine bnt (fun h => ?_) (fun h => ?_) | with_reducible refine bcase (fun h => ?_) (fun h => ?_)) <;> (first | (exfalso; omega) | (conv => whnf)))
      all_goals refine swr_index rfl rfl rfl rfl rfl rfl rfl rfl  (row := [dI at_, dI b]) (by simp [ha, runCell]) ?_
      all_goals (refine sgor_sound [] 1000 ?_; conv => whnf)
      all_goals (refine swd_start mixed rfl ?_; refine sgod_sound [] ?_; conv => whnf)
      all_goals repeat' ((first | with_reducible refine bdec (fun h => ?_) (fun h => ?_) | with_reducible refine bndec (fun h => ?_) (fun h => ?_) | with_reducible refine bwtd (fun h => ?_) (fun h => ?_) | with_reducible refine bwfd (fun h => ?_) (fun h => ?_) | with_reducible refine bwtn (fun h => ?_) (fun h => ?_) | with_reducible refine bwfn (fun h => ?_) (fun h => ?_) | with_reducible refine bwtb (fun h => ?_) (fun h => ?_) | with_reducible refine bwfb (fun h => ?_) (fun h => ?_) | with_reducible refine bwt (fun h => ?_) (fun h => ?_) | with_reducible refine bwf (fun h => ?_) (fun h => ?_) | with_reducible refine bnt (fun h => ?_) (fun h => ?_) | with_reducible refine bcase (fun h => ?_) (fun h => ?_)) <;> (first | (exfalso; omega) | (conv => whnf)))
      all_goals refine swd_pure rfl rfl rfl rfl rfl rfl  hlength ?_
      all_goals (refine sgod_sound [] ?_; conv => whnf)
      all_goals rw [hwe]
      all_goals repeat' ((first | with_reducible refine bdec (fun h => ?_) (fun h => ?_) | with_reducible refine bndec (fun h => ?_) (fun h => ?_) | with_reducible refine bwtd (fun h => ?_) (fun h => ?_) | with_reducible refine bwfd (fun h => ?_) (fun h => ?_) | with_reducible refine bwtn (fun h => ?_) (fun h => ?_) | with_reducible refine bwfn (fun h => ?_) (fun h => ?_) | with_reducible refine bwtb (fun h => ?_) (fun h => ?_) | with_reducible refine bwfb (fun h => ?_) (fun h => ?_) | with_reducible refine bwt (fun h => ?_) (fun h => ?_) | with_reducible refine bwf (fun h => ?_) (fun h => ?_) | with_reducible refine bnt (fun h => ?_) (fun h => ?_) | with_reducible refine bcase (fun h => ?_) (fun h => ?_)) <;> (first | (exfalso; omega) | (conv => whnf)))
      all_goals (refine sgo_sound [] 1000 ?_; conv => whnf)
      all_goals repeat' ((first | with_reducible refine bdec (fun h => ?_) (fun h => ?_) | with_reducible refine bndec (fun h => ?_) (fun h => ?_) | with_reducible refine bwtd (fun h => ?_) (fun h => ?_) | with_reducible refine bwfd (fun h => ?_) (fun h => ?_) | with_reducible refine bwtn (fun h => ?_) (fun h => ?_) | with_reducible refine bwfn (fun h => ?_) (fun h => ?_) | with_reducible refine bwtb (fun h => ?_) (fun h => ?_) | with_reducible refine bwfb (fun h => ?_) (fun h => ?_) | with_reducible refine bwt (fun h => ?_) (fun h => ?_) | with_reducible refine bwf (fun h => ?_) (fun h => ?_) | with_reducible refine bnt (fun h => ?_) (fun h => ?_) | with_reducible refine bcase (fun h => ?_) (fun h => ?_)) <;> (first | (exfalso; omega) | (conv => whnf)))
      all_goals refine swr_pure rfl rfl rfl rfl rfl rfl  (hat at_ h1 (by omega)) ?_
      all_goals (refine sgor_sound [] 1000 ?_; conv => whnf)
      all_goals repeat' ((first | with_reducible refine bdec (fun h => ?_) (fun h => ?_) | with_reducible refine bndec (fun h => ?_) (fun h => ?_) | with_reducible refine bwtd (fun h => ?_) (fun h => ?_) | with_reducible refine bwfd (fun h => ?_) (fun h => ?_) | with_reducible refine bwtn (fun h => ?_) (fun h => ?_) | with_reducible refine bwfn (fun h => ?_) (fun h => ?_) | with_reducible refine bwtb (fun h => ?_) (fun h => ?_) | with_reducible refine bwfb (fun h => ?_) (fun h => ?_) | with_reducible refine bwt (fun h => ?_) (fun h => ?_) | with_reducible refine bwf (fun h => ?_) (fun h => ?_) | with_reducible refine bnt (fun h => ?_) (fun h => ?_) | with_reducible refine bcase (fun h => ?_) (fun h => ?_)) <;> (first | (exfalso; omega) | (conv => whnf)))
      rotate_left
      · have hs2 : (f at_).same (f (at_ - 1)) = false := by rw [same_symm]; exact hs (by simp)
        refine swr_pure rfl rfl rfl rfl rfl rfl  (hsame at_ (at_ - 1)) ?_
        rw [hs2]
        (refine sgor_sound [] 1000 ?_; conv => whnf)
        refine sw_keep [2, 3, 4, 5, 6, 11, 14, 16, 18, 19, 21, 80, 81, 82] ?_
        refine sw_loop_ind (σ := Int × Option View) (fun x => [(2, sS p), (3, sI m), (4, sI k), (5, .ptr 0 0), (6, .ptr 1 0), (11, sB true), (14, sI a), (16, .ptr 2 0), (18, .ptr 3 0), (19, .ptr 4 0), (21, sI x.1), (80, .imm (dRuns R)), (81, sI (R.map runCell).length), (82, sI done.length)])
          (fun x => [.cells [.imm (dDecls c.facts), .imm (dDecls c.lines), .imm (dArts c.arts)], .cells [.imm (dFacts l)], beforeObj x.2, .cells [sI at_, sI b], .cells (View.cs (f at_))])
          (fun x => at_ ≤ x.1 ∧ x.1 ≤ b ∧ (at_ < x.1 → x.2 = some (f (x.1 - 1)))) (fun x => (b - x.1).toNat) ?_ (at_, some (f (at_ - 1))) ⟨Int.le_refl _, Int.le_of_lt hb, fun h => absurd h (Int.lt_irrefl _)⟩
        clear hs2 hs
        as_aux_lemma =>
          rintro ⟨d, o⟩ ⟨g1, g2, g3⟩ ihd
          dsimp only at g1 g2 g3 ihd ⊢
          have hwd : IntKind.i64.wrap (d + 1) = d + 1 := wrap64 (by omega) (by omega)
          have hda := hall d g1
          have hdd := hvd d
          rcases Int.lt_or_le d b with hdb | hdb
          · have hatd := hat d (by omega) (by omega)
            cases o with
            | none =>
              (refine sgo_sound [] 1000 ?_; conv => whnf)
              repeat' ((first | with_reducible refine bdec (fun h => ?_) (fun h => ?_) | with_reducible refine bndec (fun h => ?_) (fun h => ?_) | with_reducible refine bwtd (fun h => ?_) (fun h => ?_) | with_reducible refine bwfd (fun h => ?_) (fun h => ?_) | with_reducible refine bwtn (fun h => ?_) (fun h => ?_) | with_reducible refine bwfn (fun h => ?_) (fun h => ?_) | with_reducible refine bwtb (fun h => ?_) (fun h => ?_) | with_reducible refine bwfb (fun h => ?_) (fun h => ?_) | with_reducible refine bwt (fun h => ?_) (fun h => ?_) | with_reducible refine bwf (fun h => ?_) (fun h => ?_) | with_reducible refine bnt (fun h => ?_) (fun h => ?_) | with_reducible refine bcase (fun h => ?_) (fun h => ?_)) <;> (first | (exfalso; omega) | (conv => whnf)))
              refine swr_pure rfl rfl rfl rfl rfl rfl  hatd ?_
              (refine sgor_sound [] 1000 ?_; conv => whnf)
              repeat' ((first | with_reducible refine bdec (fun h => ?_) (fun h => ?_) | with_reducible refine bndec (fun h => ?_) (fun h => ?_) | with_reducible refine bwtd (fun h => ?_) (fun h => ?_) | with_reducible refine bwfd (fun h => ?_) (fun h => ?_) | with_reducible refine bwtn (fun h => ?_) (fun h => ?_) | with_reducible refine bwfn (fun h => ?_) (fun h => ?_) | with_reducible refine bwtb (fun h => ?_) (fun h => ?_) | with_reducible refine bwfb (fun h => ?_) (fun h => ?_) | with_reducible refine bwt (fun h => ?_) (fun h => ?_) | with_reducible refine bwf (fun h => ?_) (fun h => ?_) | with_reducible refine bnt (fun h => ?_) (fun h => ?_) | with_reducible refine bcase (fun h => ?_) (fun h => ?_)) <;> (first | (exfalso; omega) | (conv => whnf)))
              refine swr_pure rfl rfl rfl rfl rfl rfl  (hsame at_ d) ?_
              rw [hda hdb]
              (refine sgor_sound [] 1000 ?_; conv => whnf)
              repeat' ((first | with_reducible refine bdec (fun h => ?_) (fun h => ?_) | with_reducible refine bndec (fun h => ?_) (fun h => ?_) | with_reducible refine bwtd (fun h => ?_) (fun h => ?_) | with_reducible refine bwfd (fun h => ?_) (fun h => ?_) | with_reducible refine bwtn (fun h => ?_) (fun h => ?_) | with_reducible refine bwfn (fun h => ?_) (fun h => ?_) | with_reducible refine bwtb (fun h => ?_) (fun h => ?_) | with_reducible refine bwfb (fun h => ?_) (fun h => ?_) | with_reducible refine bwt (fun h => ?_) (fun h => ?_) | with_reducible refine bwf (fun h => ?_) (fun h => ?_) | with_reducible refine bnt (fun h => ?_) (fun h => ?_) | with_reducible refine bcase (fun h => ?_) (fun h => ?_)) <;> (first | (exfalso; omega) | (conv => whnf)))
              rw [hwd]
              exact sw_kc [2, 3, 4, 5, 6, 11, 14, 16, 18, 19, 21, 80, 81, 82] 5 (by simp [hH]) (by simp) rfl rfl (ihd (d + 1, some (f d)) ⟨by omega, by omega, fun _ => by simp⟩ (by simp only; omega))
            | some u =>
              (refine sgo_sound [] 1000 ?_; conv => whnf)
              repeat' ((first | with_reducible refine bdec (fun h => ?_) (fun h => ?_) | with_reducible refine bndec (fun h => ?_) (fun h => ?_) | with_reducible refine bwtd (fun h => ?_) (fun h => ?_) | with_reducible refine bwfd (fun h => ?_) (fun h => ?_) | with_reducible refine bwtn (fun h => ?_) (fun h => ?_) | with_reducible refine bwfn (fun h => ?_) (fun h => ?_) | with_reducible refine bwtb (fun h => ?_) (fun h => ?_) | with_reducible refine bwfb (fun h => ?_) (fun h => ?_) | with_reducible refine bwt (fun h => ?_) (fun h => ?_) | with_reducible refine bwf (fun h => ?_) (fun h => ?_) | with_reducible refine bnt (fun h => ?_) (fun h => ?_) | with_reducible refine bcase (fun h => ?_) (fun h => ?_)) <;> (first | (exfalso; omega) | (conv => whnf)))
              refine swr_pure rfl rfl rfl rfl rfl rfl  hatd ?_
              (refine sgor_sound [] 1000 ?_; conv => whnf)
              repeat' ((first | with_reducible refine bdec (fun h => ?_) (fun h => ?_) | with_reducible refine bndec (fun h => ?_) (fun h => ?_) | with_reducible refine bwtd (fun h => ?_) (fun h => ?_) | with_reducible refine bwfd (fun h => ?_) (fun h => ?_) | with_reducible refine bwtn (fun h => ?_) (fun h => ?_) | with_reducible refine bwfn (fun h => ?_) (fun h => ?_) | with_reducible refine bwtb (fun h => ?_) (fun h => ?_) | with_reducible refine bwfb (fun h => ?_) (fun h => ?_) | with_reducible refine bwt (fun h => ?_) (fun h => ?_) | with_reducible refine bwf (fun h => ?_) (fun h => ?_) | with_reducible refine bnt (fun h => ?_) (fun h => ?_) | with_reducible refine bcase (fun h => ?_) (fun h => ?_)) <;> (first | (exfalso; omega) | (conv => whnf)))
              refine swr_pure rfl rfl rfl rfl rfl rfl  (hsame at_ d) ?_
              rw [hda hdb]
              (refine sgor_sound [] 1000 ?_; conv => whnf)
              repeat' ((first | with_reducible refine bdec (fun h => ?_) (fun h => ?_) | with_reducible refine bndec (fun h => ?_) (fun h => ?_) | with_reducible refine bwtd (fun h => ?_) (fun h => ?_) | with_reducible refine bwfd (fun h => ?_) (fun h => ?_) | with_reducible refine bwtn (fun h => ?_) (fun h => ?_) | with_reducible refine bwfn (fun h => ?_) (fun h => ?_) | with_reducible refine bwtb (fun h => ?_) (fun h => ?_) | with_reducible refine bwfb (fun h => ?_) (fun h => ?_) | with_reducible refine bwt (fun h => ?_) (fun h => ?_) | with_reducible refine bwf (fun h => ?_) (fun h => ?_) | with_reducible refine bnt (fun h => ?_) (fun h => ?_) | with_reducible refine bcase (fun h => ?_) (fun h => ?_)) <;> (first | (exfalso; omega) | (conv => whnf)))
              rw [hwd]
              exact sw_kc [2, 3, 4, 5, 6, 11, 14, 16, 18, 19, 21, 80, 81, 82] 5 (by simp [hH]) (by simp) rfl rfl (ihd (d + 1, some (f d)) ⟨by omega, by omega, fun _ => by simp⟩ (by simp only; omega))
          · have hdb2 : d = b := by omega
            subst hdb2
            have hou := g3 (by omega)
            subst hou
            (refine sgo_sound [] 1000 ?_; conv => whnf)
            repeat' ((first | with_reducible refine bdec (fun h => ?_) (fun h => ?_) | with_reducible refine bndec (fun h => ?_) (fun h => ?_) | with_reducible refine bwtd (fun h => ?_) (fun h => ?_) | with_reducible refine bwfd (fun h => ?_) (fun h => ?_) | with_reducible refine bwtn (fun h => ?_) (fun h => ?_) | with_reducible refine bwfn (fun h => ?_) (fun h => ?_) | with_reducible refine bwtb (fun h => ?_) (fun h => ?_) | with_reducible refine bwfb (fun h => ?_) (fun h => ?_) | with_reducible refine bwt (fun h => ?_) (fun h => ?_) | with_reducible refine bwf (fun h => ?_) (fun h => ?_) | with_reducible refine bnt (fun h => ?_) (fun h => ?_) | with_reducible refine bcase (fun h => ?_) (fun h => ?_)) <;> (first | (exfalso; omega) | (conv => whnf)))
            rw [hw]
            exact sw_kc [2, 3, 4, 5, 6, 11, 14, 15, 16, 80, 81, 82] 3 (by simp [hH]) (by simp) rfl rfl (ih (d, some (f (d - 1))) ⟨by simp only; omega, hrest, .inr ⟨by simp, rfl, hnext⟩⟩)
      · refine sw_keep [2, 3, 4, 5, 6, 11, 14, 16, 18, 19, 21, 80, 81, 82] ?_
        refine sw_loop_ind (σ := Int × Option View) (fun x => [(2, sS p), (3, sI m), (4, sI k), (5, .ptr 0 0), (6, .ptr 1 0), (11, sB true), (14, sI a), (16, .ptr 2 0), (18, .ptr 3 0), (19, .ptr 4 0), (21, sI x.1), (80, .imm (dRuns R)), (81, sI (R.map runCell).length), (82, sI done.length)])
          (fun x => [.cells [.imm (dDecls c.facts), .imm (dDecls c.lines), .imm (dArts c.arts)], .cells [.imm (dFacts l)], beforeObj x.2, .cells [sI at_, sI b], .cells (View.cs (f at_))])
          (fun x => at_ ≤ x.1 ∧ x.1 ≤ b ∧ (at_ < x.1 → x.2 = some (f (x.1 - 1)))) (fun x => (b - x.1).toNat) ?_ (at_, none) ⟨Int.le_refl _, Int.le_of_lt hb, fun h => absurd h (Int.lt_irrefl _)⟩
        as_aux_lemma =>
          rintro ⟨d, o⟩ ⟨g1, g2, g3⟩ ihd
          dsimp only at g1 g2 g3 ihd ⊢
          have hwd : IntKind.i64.wrap (d + 1) = d + 1 := wrap64 (by omega) (by omega)
          have hda := hall d g1
          have hdd := hvd d
          rcases Int.lt_or_le d b with hdb | hdb
          · have hatd := hat d (by omega) (by omega)
            cases o with
            | none =>
              (refine sgo_sound [] 1000 ?_; conv => whnf)
              repeat' ((first | with_reducible refine bdec (fun h => ?_) (fun h => ?_) | with_reducible refine bndec (fun h => ?_) (fun h => ?_) | with_reducible refine bwtd (fun h => ?_) (fun h => ?_) | with_reducible refine bwfd (fun h => ?_) (fun h => ?_) | with_reducible refine bwtn (fun h => ?_) (fun h => ?_) | with_reducible refine bwfn (fun h => ?_) (fun h => ?_) | with_reducible refine bwtb (fun h => ?_) (fun h => ?_) | with_reducible refine bwfb (fun h => ?_) (fun h => ?_) | with_reducible refine bwt (fun h => ?_) (fun h => ?_) | with_reducible refine bwf (fun h => ?_) (fun h => ?_) | with_reducible refine bnt (fun h => ?_) (fun h => ?_) | with_reducible refine bcase (fun h => ?_) (fun h => ?_)) <;> (first | (exfalso; omega) | (conv => whnf)))
              refine swr_pure rfl rfl rfl rfl rfl rfl  hatd ?_
              (refine sgor_sound [] 1000 ?_; conv => whnf)
              repeat' ((first | with_reducible refine bdec (fun h => ?_) (fun h => ?_) | with_reducible refine bndec (fun h => ?_) (fun h => ?_) | with_reducible refine bwtd (fun h => ?_) (fun h => ?_) | with_reducible refine bwfd (fun h => ?_) (fun h => ?_) | with_reducible refine bwtn (fun h => ?_) (fun h => ?_) | with_reducible refine bwfn (fun h => ?_) (fun h => ?_) | with_reducible refine bwtb (fun h => ?_) (fun h => ?_) | with_reducible refine bwfb (fun h => ?_) (fun h => ?_) | with_reducible refine bwt (fun h => ?_) (fun h => ?_) | with_reducible refine bwf (fun h => ?_) (fun h => ?_) | with_reducible refine bnt (fun h => ?_) (fun h => ?_) | with_reducible refine bcase (fun h => ?_) (fun h => ?_)) <;> (first | (exfalso; omega) | (conv => whnf)))
              refine swr_pure rfl rfl rfl rfl rfl rfl  (hsame at_ d) ?_
              rw [hda hdb]
              (refine sgor_sound [] 1000 ?_; conv => whnf)
              repeat' ((first | with_reducible refine bdec (fun h => ?_) (fun h => ?_) | with_reducible refine bndec (fun h => ?_) (fun h => ?_) | with_reducible refine bwtd (fun h => ?_) (fun h => ?_) | with_reducible refine bwfd (fun h => ?_) (fun h => ?_) | with_reducible refine bwtn (fun h => ?_) (fun h => ?_) | with_reducible refine bwfn (fun h => ?_) (fun h => ?_) | with_reducible refine bwtb (fun h => ?_) (fun h => ?_) | with_reducible refine bwfb (fun h => ?_) (fun h => ?_) | with_reducible refine bwt (fun h => ?_) (fun h => ?_) | with_reducible refine bwf (fun h => ?_) (fun h => ?_) | with_reducible refine bnt (fun h => ?_) (fun h => ?_) | with_reducible refine bcase (fun h => ?_) (fun h => ?_)) <;> (first | (exfalso; omega) | (conv => whnf)))
              rw [hwd]
              exact sw_kc [2, 3, 4, 5, 6, 11, 14, 16, 18, 19, 21, 80, 81, 82] 5 (by simp [hH]) (by simp) rfl rfl (ihd (d + 1, some (f d)) ⟨by omega, by omega, fun _ => by simp⟩ (by simp only; omega))
            | some u =>
              (refine sgo_sound [] 1000 ?_; conv => whnf)
              repeat' ((first | with_reducible refine bdec (fun h => ?_) (fun h => ?_) | with_reducible refine bndec (fun h => ?_) (fun h => ?_) | with_reducible refine bwtd (fun h => ?_) (fun h => ?_) | with_reducible refine bwfd (fun h => ?_) (fun h => ?_) | with_reducible refine bwtn (fun h => ?_) (fun h => ?_) | with_reducible refine bwfn (fun h => ?_) (fun h => ?_) | with_reducible refine bwtb (fun h => ?_) (fun h => ?_) | with_reducible refine bwfb (fun h => ?_) (fun h => ?_) | with_reducible refine bwt (fun h => ?_) (fun h => ?_) | with_reducible refine bwf (fun h => ?_) (fun h => ?_) | with_reducible refine bnt (fun h => ?_) (fun h => ?_) | with_reducible refine bcase (fun h => ?_) (fun h => ?_)) <;> (first | (exfalso; omega) | (conv => whnf)))
              refine swr_pure rfl rfl rfl rfl rfl rfl  hatd ?_
              (refine sgor_sound [] 1000 ?_; conv => whnf)
              repeat' ((first | with_reducible refine bdec (fun h => ?_) (fun h => ?_) | with_reducible refine bndec (fun h => ?_) (fun h => ?_) | with_reducible refine bwtd (fun h => ?_) (fun h => ?_) | with_reducible refine bwfd (fun h => ?_) (fun h => ?_) | with_reducible refine bwtn (fun h => ?_) (fun h => ?_) | with_reducible refine bwfn (fun h => ?_) (fun h => ?_) | with_reducible refine bwtb (fun h => ?_) (fun h => ?_) | with_reducible refine bwfb (fun h => ?_) (fun h => ?_) | with_reducible refine bwt (fun h => ?_) (fun h => ?_) | with_reducible refine bwf (fun h => ?_) (fun h => ?_) | with_reducible refine bnt (fun h => ?_) (fun h => ?_) | with_reducible refine bcase (fun h => ?_) (fun h => ?_)) <;> (first | (exfalso; omega) | (conv => whnf)))
              refine swr_pure rfl rfl rfl rfl rfl rfl  (hsame at_ d) ?_
              rw [hda hdb]
              (refine sgor_sound [] 1000 ?_; conv => whnf)
              repeat' ((first | with_reducible refine bdec (fun h => ?_) (fun h => ?_) | with_reducible refine bndec (fun h => ?_) (fun h => ?_) | with_reducible refine bwtd (fun h => ?_) (fun h => ?_) | with_reducible refine bwfd (fun h => ?_) (fun h => ?_) | with_reducible refine bwtn (fun h => ?_) (fun h => ?_) | with_reducible refine bwfn (fun h => ?_) (fun h => ?_) | with_reducible refine bwtb (fun h => ?_) (fun h => ?_) | with_reducible refine bwfb (fun h => ?_) (fun h => ?_) | with_reducible refine bwt (fun h => ?_) (fun h => ?_) | with_reducible refine bwf (fun h => ?_) (fun h => ?_) | with_reducible refine bnt (fun h => ?_) (fun h => ?_) | with_reducible refine bcase (fun h => ?_) (fun h => ?_)) <;> (first | (exfalso; omega) | (conv => whnf)))
              rw [hwd]
              exact sw_kc [2, 3, 4, 5, 6, 11, 14, 16, 18, 19, 21, 80, 81, 82] 5 (by simp [hH]) (by simp) rfl rfl (ihd (d + 1, some (f d)) ⟨by omega, by omega, fun _ => by simp⟩ (by simp only; omega))
          · have hdb2 : d = b := by omega
            subst hdb2
            have hou := g3 (by omega)
            subst hou
            (refine sgo_sound [] 1000 ?_; conv => whnf)
            repeat' ((first | with_reducible refine bdec (fun h => ?_) (fun h => ?_) | with_reducible refine bndec (fun h => ?_) (fun h => ?_) | with_reducible refine bwtd (fun h => ?_) (fun h => ?_) | with_reducible refine bwfd (fun h => ?_) (fun h => ?_) | with_reducible refine bwtn (fun h => ?_) (fun h => ?_) | with_reducible refine bwfn (fun h => ?_) (fun h => ?_) | with_reducible refine bwtb (fun h => ?_) (fun h => ?_) | with_reducible refine bwfb (fun h => ?_) (fun h => ?_) | with_reducible refine bwt (fun h => ?_) (fun h => ?_) | with_reducible refine bwf (fun h => ?_) (fun h => ?_) | with_reducible refine bnt (fun h => ?_) (fun h => ?_) | with_reducible refine bcase (fun h => ?_) (fun h => ?_)) <;> (first | (exfalso; omega) | (conv => whnf)))
            rw [hw]
            exact sw_kc [2, 3, 4, 5, 6, 11, 14, 15, 16, 80, 81, 82] 3 (by simp [hH]) (by simp) rfl rfl (ih (d, some (f (d - 1))) ⟨by simp only; omega, hrest, .inr ⟨by simp, rfl, hnext⟩⟩)
theorem viewRunsLaw_spec (c : Codex) (l : List Fact) (p : ByteArray) (m k : Int) (hc : Codex.ok c) (hl : storeGo l) :
    SPure Tryz.prog G0 6 [c.sv, storeSV l, sS p, sI m, sI k] (sB true) := by
  cases hsm : smallOK c l with
  | false =>
    refine spure_enter Tryz.func6 rfl (by rw [Tryz.ntmps6]; simp) rfl rfl ?_; intro E hH hK
    (refine sgo_sound [] 1000 ?_; conv => whnf)
    refine swr_pure rfl rfl rfl rfl rfl rfl  head_spec ?_
    (refine sgor_sound [] 1000 ?_; conv => whnf)
    refine swr_pure rfl rfl rfl rfl rfl rfl  (lawSmall_spec G0 c l) ?_
    rw [hsm]
    (refine sgor_sound [] 1000 ?_; conv => whnf)
    exact hK _
  | true =>
    by_cases hall : validOK c l = true ∧ 0 ≤ firstDay m ∧ 0 ≤ k ∧ k ≤ 36524
    · exact viewRunsLaw_good c l p m k hc hl hsm hall.1 hall.2.1 hall.2.2
    · exact viewRunsLaw_bad c l p m k hc hl hsm hall
end Go.Proofs.YthmkdghoaifkbaaGreatDoor

/- The reference's views: ref13.at, At, Runs. -/
namespace Go.Proofs.YthmkdghoaifkbaaGreatDoor
open Go Go.Sh
set_option maxRecDepth 10000
set_option maxHeartbeats 4000000

theorem refAt13_spec (c : Codex) (l : List Fact) (p : ByteArray) (day k : Int) (hsz : c.facts.length ≤ 1073741824 ∧ c.arts.length ≤ 1073741824) (hfit : ∀ f ∈ l, f.fit) (hst : storeOK l = true) :
    SPure Tryz.prog G0 33 [c.sv, storeSV l, sS p, sI day, sI k] (viewOf c l p k day).sv := by
  refine spure_enter Tryz.func33 rfl (by rw [Tryz.ntmps33]; simp) rfl rfl ?_; intro E hH hK
  have hlf : (c.facts.map Decl.cells).length = c.facts.length := by simp
  have hla : (c.arts.map Article.cells).length = c.arts.length := by simp
  have hplaces : (viewOf c l p k day).sv = .agg [sI day, .imm (dBools (c.facts.map fun x => (usableOf c l p k day x).2)), .imm (dInts (c.facts.map fun x => (usableOf c l p k day x).1)), .imm (dInts (forcedGo (fun n => version c.arts n day k) c.arts 0))] := by
    rw [← inForce_places]
    rfl
  rw [hplaces] at hK
  (refine sgo_sound [] 1000 ?_; conv => whnf)
  refine sw_keep [2, 3, 4, 5, 6, 10, 11, 12] ?_
  refine sw_tokCell 3 1 1 rfl rfl ?_
  refine sw_tokCell 3 2 1 rfl rfl ?_
  refine sw_tokCell 3 3 1 rfl rfl ?_
  refine sw_each c.facts (fun i (_ : List Decl) => [(2, sS p), (3, sI day), (4, sI k), (5, .ptr 0 0), (6, .ptr 1 0), (10, .ptr 2 0), (11, .ptr 3 0), (12, sI i)])
    (fun _ d => [.cells [.imm (dDecls c.facts), .imm (dDecls c.lines), .imm (dArts c.arts)], .cells [.imm (dFacts l)], .cells [sI 0, nilS, nilS, nilS],
      .cells [sI day, .asl 4 1 ((d.map fun x => (usableOf c l p k day x).2).map fun b => [dB b]), .asl 5 1 ((d.map fun x => (usableOf c l p k day x).1).map fun b => [dI b]), .asl 6 1 []],
      .tok 1 ((d.map fun x => (usableOf c l p k day x).2).map fun b => [dB b]).length, .tok 1 ((d.map fun x => (usableOf c l p k day x).1).map fun b => [dI b]).length, .tok 1 0])
    (fun done _ d => d = done) [] rfl ?_ ?_
  · as_aux_lemma =>
      rintro d rfl
      (refine sgo_sound [] 1000 ?_; conv => whnf)
      repeat' ((first | with_reducible refine bdec (fun h => ?_) (fun h => ?_) | with_reducible refine bndec (fun h => ?_) (fun h => ?_) | with_reducible refine bwtd (fun h => ?_) (fun h => ?_) | with_reducible refine bwfd (fun h => ?_) (fun h => ?_) | with_reducible refine bwtn (fun h => ?_) (fun h => ?_) | with_reducible refine bwfn (fun h => ?_) (fun h => ?_) | with_reducible refine bwtb (fun h => ?_) (fun h => ?_) | with_reducible refine bwfb (fun h => ?_) (fun h => ?_) | with_reducible refine bwt (fun h => ?_) (fun h => ?_) | with_reducible refine bwf (fun h => ?_) (fun h => ?_) | with_reducible refine bnt (fun h => ?_) (fun h => ?_) | with_reducible refine bcase (fun h => ?_) (fun h => ?_)) <;> (first | (exfalso; omega) | (conv => whnf)))
      refine sw_keep [2, 3, 4, 5, 6, 10, 11, 16] ?_
      refine sw_each c.arts (fun i (_ : List Article) => [(2, sS p), (3, sI day), (4, sI k), (5, .ptr 0 0), (6, .ptr 1 0), (10, .ptr 2 0), (11, .ptr 3 0), (16, sI i)])
        (fun _ d => [.cells [.imm (dDecls c.facts), .imm (dDecls c.lines), .imm (dArts c.arts)], .cells [.imm (dFacts l)], .cells [sI 0, nilS, nilS, nilS],
          .cells [sI day, .asl 4 1 ((c.facts.map fun x => (usableOf c l p k day x).2).map fun b => [dB b]), .asl 5 1 ((c.facts.map fun x => (usableOf c l p k day x).1).map fun b => [dI b]), .asl 6 1 ((forcedGo (fun n => version c.arts n day k) d 0).map fun b => [dI b])],
          .tok 1 ((c.facts.map fun x => (usableOf c l p k day x).2).map fun b => [dB b]).length, .tok 1 ((c.facts.map fun x => (usableOf c l p k day x).1).map fun b => [dI b]).length, .tok 1 ((forcedGo (fun n => version c.arts n day k) d 0).map fun b => [dI b]).length])
        (fun done _ d => d = done) [] rfl ?_ ?_
      · as_aux_lemma =>
          rintro d rfl
          refine sw_solid ?_
          (refine sgo_sound [] 1000 ?_; conv => whnf)
          repeat' ((first | with_reducible refine bdec (fun h => ?_) (fun h => ?_) | with_reducible refine bndec (fun h => ?_) (fun h => ?_) | with_reducible refine bwtd (fun h => ?_) (fun h => ?_) | with_reducible refine bwfd (fun h => ?_) (fun h => ?_) | with_reducible refine bwtn (fun h => ?_) (fun h => ?_) | with_reducible refine bwfn (fun h => ?_) (fun h => ?_) | with_reducible refine bwtb (fun h => ?_) (fun h => ?_) | with_reducible refine bwfb (fun h => ?_) (fun h => ?_) | with_reducible refine bwt (fun h => ?_) (fun h => ?_) | with_reducible refine bwf (fun h => ?_) (fun h => ?_) | with_reducible refine bnt (fun h => ?_) (fun h => ?_) | with_reducible refine bcase (fun h => ?_) (fun h => ?_)) <;> (first | (exfalso; omega) | (conv => whnf)))
          exact hK _
      · as_aux_lemma =>
          rintro done x rest d ha hl2 rfl ih
          have hw := wrap_succ (n := d.length) (by omega)
          obtain ⟨op, n, u, den, ps, ks, hrow⟩ := artRow_at (c := c) (i := d.length) (a := x) (by rw [ha]; simp)
          have hfl := forcedGo_len (fun n => version c.arts n day k) d 0
          have ih1 := ih (d ++ [x]) rfl
          rw [forcedGo_snoc] at ih1
          (refine sgo_sound [] 1000 ?_; conv => whnf)
          repeat' ((first | with_reducible refine bdec (fun h => ?_) (fun h => ?_) | with_reducible refine bndec (fun h => ?_) (fun h => ?_) | with_reducible refine bwtd (fun h => ?_) (fun h => ?_) | with_reducible refine bwfd (fun h => ?_) (fun h => ?_) | with_reducible refine bwtn (fun h => ?_) (fun h => ?_) | with_reducible refine bwfn (fun h => ?_) (fun h => ?_) | with_reducible refine bwtb (fun h => ?_) (fun h => ?_) | with_reducible refine bwfb (fun h => ?_) (fun h => ?_) | with_reducible refine bwt (fun h => ?_) (fun h => ?_) | with_reducible refine bwf (fun h => ?_) (fun h => ?_) | with_reducible refine bnt (fun h => ?_) (fun h => ?_) | with_reducible refine bcase (fun h => ?_) (fun h => ?_)) <;> (first | (exfalso; omega) | (conv => whnf)))
          (refine swd_start mixed rfl ?_; refine sgod_sound [] ?_; conv => whnf)
          refine swd_index rfl rfl rfl rfl rfl rfl rfl rfl  (row := artRow x op n u den ps ks) (by simpa using hrow) ?_
          (refine sgod_sound [] ?_; conv => whnf)
          refine swd_pure rfl rfl rfl rfl rfl rfl  (refVersion_spec G0 c x.number day k (by omega)) ?_
          cases hv : version c.arts x.number day k with
          | none =>
            rw [if_neg (by simp [hv]), List.append_nil] at ih1
            rw [show versionSV none = .tup [sI 0, sB false] from rfl]
            (refine sgod_sound [] ?_; conv => whnf)
            (refine sgo_sound [] 1000 ?_; conv => whnf)
            rw [hw]
            exact sw_kc [2, 3, 4, 5, 6, 10, 11, 16] 7 (by simp [hH]) (by simp) rfl rfl ih1
          | some i =>
            rw [show versionSV (some i) = .tup [sI i, sB true] from rfl]
            (refine sgod_sound [] ?_; conv => whnf)
            (refine sgo_sound [] 1000 ?_; conv => whnf)
            repeat' ((first | with_reducible refine bdec (fun h => ?_) (fun h => ?_) | with_reducible refine bndec (fun h => ?_) (fun h => ?_) | with_reducible refine bwtd (fun h => ?_) (fun h => ?_) | with_reducible refine bwfd (fun h => ?_) (fun h => ?_) | with_reducible refine bwtn (fun h => ?_) (fun h => ?_) | with_reducible refine bwfn (fun h => ?_) (fun h => ?_) | with_reducible refine bwtb (fun h => ?_) (fun h => ?_) | with_reducible refine bwfb (fun h => ?_) (fun h => ?_) | with_reducible refine bwt (fun h => ?_) (fun h => ?_) | with_reducible refine bwf (fun h => ?_) (fun h => ?_) | with_reducible refine bnt (fun h => ?_) (fun h => ?_) | with_reducible refine bcase (fun h => ?_) (fun h => ?_)) <;> (conv => whnf))
            · have hi : i = d.length := by omega
              subst hi
              rw [if_pos hv] at ih1
              refine swr_append rfl rfl rfl rfl rfl rfl rfl rfl rfl rfl ⟨by decide, rfl⟩ (by simp) (by simp; omega) ?_
              (refine sgor_sound [] 1000 ?_; conv => whnf)
              rw [hw]
              refine sw_kc [2, 3, 4, 5, 6, 10, 11, 16] 7 (by simp [hH]) (by simp) rfl rfl ?_
              simp only [List.map_append, List.length_append] at ih1
              exact ih1
            · rw [if_neg (by rw [hv]; simp; omega), List.append_nil] at ih1
              rw [hw]
              exact sw_kc [2, 3, 4, 5, 6, 10, 11, 16] 7 (by simp [hH]) (by simp) rfl rfl ih1
  · as_aux_lemma =>
      rintro done x rest d ha hl2 rfl ih
      have hw := wrap_succ (n := d.length) (by omega)
      have hlk := refValue12_spec G0 l p x.name day k hfit
      simp only [valueOf, hst, if_true] at hlk
      have hu : usableOf c l p k day x = if (look p x.name day k l).2.2 = false ∨ (x.unit = tT ∧ (look p x.name day k l).1 ≠ 0 ∧ (look p x.name day k l).1 ≠ 1) then (0, false) else ((look p x.name day k l).1, true) := rfl
      have ih1 := ih (d ++ [x]) rfl
      simp only [List.map_append, List.map_cons, List.map_nil] at ih1
      generalize usableOf c l p k day x = us at hu ih1
      generalize look p x.name day k l = r at hu hlk
      obtain ⟨val, ix, ok⟩ := r
      simp only at hu
      have hrow : (c.facts.map Decl.cells)[((d.length : Nat) : Int).toNat]? = some x.cells := by simp [ha]
      have fin : ∀ v b, us = (v, b) → True := fun _ _ _ => trivial
      (refine sgo_sound [] 1000 ?_; conv => whnf)
      repeat' ((first | with_reducible refine bdec (fun h => ?_) (fun h => ?_) | with_reducible refine bndec (fun h => ?_) (fun h => ?_) | with_reducible refine bwtd (fun h => ?_) (fun h => ?_) | with_reducible refine bwfd (fun h => ?_) (fun h => ?_) | with_reducible refine bwtn (fun h => ?_) (fun h => ?_) | with_reducible refine bwfn (fun h => ?_) (fun h => ?_) | with_reducible refine bwtb (fun h => ?_) (fun h => ?_) | with_reducible refine bwfb (fun h => ?_) (fun h => ?_) | with_reducible refine bwt (fun h => ?_) (fun h => ?_) | with_reducible refine bwf (fun h => ?_) (fun h => ?_) | with_reducible refine bnt (fun h => ?_) (fun h => ?_) | with_reducible refine bcase (fun h => ?_) (fun h => ?_)) <;> (first | (exfalso; omega) | (conv => whnf)))
      (refine swd_start mixed rfl ?_; refine sgod_sound [] ?_; conv => whnf)
      refine swd_index rfl rfl rfl rfl rfl rfl rfl rfl  (row := x.cells) hrow ?_
      (refine sgod_sound [] ?_; conv => whnf)
      refine swd_pure rfl rfl rfl rfl rfl rfl  hlk ?_
      rw [show lookSV (val, ix, ok) = .tup [sI val, sI ix, sB ok] from rfl]
      (refine sgod_sound [] ?_; conv => whnf)
      cases ok with
      | false =>
        simp only [true_or, if_true] at hu
        subst hu
        (refine sgo_sound [] 1000 ?_; conv => whnf)
        refine swr_append rfl rfl rfl rfl rfl rfl rfl rfl rfl rfl ⟨by decide, rfl⟩ (by simp) (by simp; omega) ?_
        (refine sgor_sound [] 1000 ?_; conv => whnf)
        refine swr_append rfl rfl rfl rfl rfl rfl rfl rfl rfl rfl ⟨by decide, rfl⟩ (by simp) (by simp; omega) ?_
        (refine sgor_sound [] 1000 ?_; conv => whnf)
        rw [hw]
        refine sw_kc [2, 3, 4, 5, 6, 10, 11, 12] 7 (by simp [hH]) (by simp) rfl rfl ?_
        simp only [List.length_append] at ih1
        exact ih1
      | true =>
        (refine sgo_sound [] 1000 ?_; conv => whnf)
        refine swr_index rfl rfl rfl rfl rfl rfl rfl rfl  (row := x.cells) hrow ?_
        (refine sgor_sound [] 1000 ?_; conv => whnf)
        have h1 : (x.unit = tT ∧ val ≠ 0 ∧ val ≠ 1) → us = (0, false) := fun h => by rw [hu, if_pos (.inr h)]
        have h2 : ¬ (x.unit = tT ∧ val ≠ 0 ∧ val ≠ 1) → us = (val, true) := fun h => by rw [hu, if_neg (by simpa using h)]
        clear hu
        repeat' ((first | with_reducible refine bdec (fun h => ?_) (fun h => ?_) | with_reducible refine bndec (fun h => ?_) (fun h => ?_) | with_reducible refine bwtd (fun h => ?_) (fun h => ?_) | with_reducible refine bwfd (fun h => ?_) (fun h => ?_) | with_reducible refine bwtn (fun h => ?_) (fun h => ?_) | with_reducible refine bwfn (fun h => ?_) (fun h => ?_) | with_reducible refine bwtb (fun h => ?_) (fun h => ?_) | with_reducible refine bwfb (fun h => ?_) (fun h => ?_) | with_reducible refine bwt (fun h => ?_) (fun h => ?_) | with_reducible refine bwf (fun h => ?_) (fun h => ?_) | with_reducible refine bnt (fun h => ?_) (fun h => ?_) | with_reducible refine bcase (fun h => ?_) (fun h => ?_)) <;> (conv => whnf))
        · have hus := h1 ⟨by assumption, by assumption, by assumption⟩
          subst hus
          refine swr_append rfl rfl rfl rfl rfl rfl rfl rfl rfl rfl ⟨by decide, rfl⟩ (by simp) (by simp; omega) ?_
          (refine sgor_sound [] 1000 ?_; conv => whnf)
          refine swr_append rfl rfl rfl rfl rfl rfl rfl rfl rfl rfl ⟨by decide, rfl⟩ (by simp) (by simp; omega) ?_
          (refine sgor_sound [] 1000 ?_; conv => whnf)
          rw [hw]
          refine sw_kc [2, 3, 4, 5, 6, 10, 11, 12] 7 (by simp [hH]) (by simp) rfl rfl ?_
          simp only [List.length_append] at ih1
          exact ih1
        all_goals (have hus := h2 (fun ⟨a1, a2, a3⟩ => by first | exact absurd a1 (by assumption) | exact a2 (by assumption) | exact a3 (by assumption)))
        all_goals subst hus
        all_goals refine swr_append rfl rfl rfl rfl rfl rfl rfl rfl rfl rfl ⟨by decide, rfl⟩ (by simp) (by simp; omega) ?_
        all_goals (refine sgor_sound [] 1000 ?_; conv => whnf)
        all_goals refine swr_append rfl rfl rfl rfl rfl rfl rfl rfl rfl rfl ⟨by decide, rfl⟩ (by simp) (by simp; omega) ?_
        all_goals (refine sgor_sound [] 1000 ?_; conv => whnf)
        all_goals rw [hw]
        all_goals refine sw_kc [2, 3, 4, 5, 6, 10, 11, 12] 7 (by simp [hH]) (by simp) rfl rfl ?_
        all_goals simp only [List.length_append] at ih1
        all_goals exact ih1

def zeroV : View := ⟨0, [], [], []⟩
theorem viewAt_no {c : Codex} {l : List Fact} {p : ByteArray} {day k : Int} (h : ¬ (readerOK c l k = true ∧ dayOK day = true)) : viewAt c l p day k = (⟨0, [], [], []⟩, 1) := by
  rw [viewAt, if_neg]
  intro hc
  simp only [Bool.and_eq_true] at hc
  exact h hc
theorem refViewAt_spec (c : Codex) (l : List Fact) (p : ByteArray) (day k : Int) (hsm : smallOK c l = true) (hfit : ∀ f ∈ l, f.fit) :
    SPure Tryz.prog G0 12 [c.sv, storeSV l, sS p, sI day, sI k] (errSV (viewAt c l p day k).1.sv (viewAt c l p day k).2) := by
  have hfew : fewOK c 420 = true := by simp only [smallOK, Bool.and_eq_true] at hsm; exact hsm.1
  have hcx := refValid10_spec G0 c hfew
  rw [refOK_eq] at hcx
  by_cases hall : (codexOK c = true ∧ storeOK l = true ∧ dayOK k = true) ∧ dayOK day = true
  · obtain ⟨⟨h1, h2, h3⟩, h4⟩ := hall
    have hr : readerOK c l k = true := by simp only [readerOK, h1, h2, h3, Bool.and_self]
    have hv : viewAt c l p day k = (viewOf c l p k day, 0) := by rw [viewAt, if_pos (by rw [hr, h4]; rfl)]
    obtain ⟨hz1, hz2, hz3⟩ := readerOK_len hr
    rw [hv]
    refine spure_enter Tryz.func12 rfl (by rw [Tryz.ntmps12]; simp) rfl rfl ?_; intro E hH hK
    (refine sgo_sound [] 1000 ?_; conv => whnf)
    refine swr_pure rfl rfl rfl rfl rfl rfl  hcx ?_
    rw [h1]
    (refine sgor_sound [] 1000 ?_; conv => whnf)
    refine swr_pure rfl rfl rfl rfl rfl rfl  (refValid12_spec G0 l hfit) ?_
    rw [h2]
    (refine sgor_sound [] 1000 ?_; conv => whnf)
    refine swr_pure rfl rfl rfl rfl rfl rfl  (ref13day_spec G0 day) ?_
    rw [h4]
    (refine sgor_sound [] 1000 ?_; conv => whnf)
    refine swr_pure rfl rfl rfl rfl rfl rfl  (ref13day_spec G0 k) ?_
    rw [h3]
    (refine sgor_sound [] 1000 ?_; conv => whnf)
    refine swr_pure rfl rfl rfl rfl rfl rfl  (refAt13_spec c l p day k ⟨hz1, hz2⟩ hfit h2) ?_
    (refine sgor_sound [] 1000 ?_; conv => whnf)
    exact hK _
  · have hv : viewAt c l p day k = (⟨0, [], [], []⟩, 1) := viewAt_no (fun h => hall (by
      have hh := h.1
      simp only [readerOK, Bool.and_eq_true] at hh
      exact ⟨⟨hh.1.1, hh.1.2, hh.2⟩, h.2⟩))
    rw [hv]
    refine spure_is ?_ zeroView_is
    refine spure_enter Tryz.func12 rfl (by rw [Tryz.ntmps12]; simp) rfl rfl ?_; intro E hH hK
    (refine sgo_sound [] 1000 ?_; conv => whnf)
    refine swr_pure rfl rfl rfl rfl rfl rfl  hcx ?_
    cases h1 : codexOK c with
    | false =>
      (refine sgor_sound [] 1000 ?_; conv => whnf)
      exact hK _
    | true =>
      (refine sgor_sound [] 1000 ?_; conv => whnf)
      refine swr_pure rfl rfl rfl rfl rfl rfl  (refValid12_spec G0 l hfit) ?_
      cases h2 : storeOK l with
      | false =>
        (refine sgor_sound [] 1000 ?_; conv => whnf)
        exact hK _
      | true =>
        (refine sgor_sound [] 1000 ?_; conv => whnf)
        refine swr_pure rfl rfl rfl rfl rfl rfl  (ref13day_spec G0 day) ?_
        cases h4 : dayOK day with
        | false =>
          (refine sgor_sound [] 1000 ?_; conv => whnf)
          exact hK _
        | true =>
          (refine sgor_sound [] 1000 ?_; conv => whnf)
          refine swr_pure rfl rfl rfl rfl rfl rfl  (ref13day_spec G0 k) ?_
          cases h3 : dayOK k with
          | false =>
            (refine sgor_sound [] 1000 ?_; conv => whnf)
            exact hK _
          | true => exact absurd ⟨⟨h1, h2, h3⟩, h4⟩ hall
end Go.Proofs.YthmkdghoaifkbaaGreatDoor

/- The reference's runs: ref13.Runs. -/
namespace Go.Proofs.YthmkdghoaifkbaaGreatDoor
open Go Go.Sh
set_option maxRecDepth 10000
set_option maxHeartbeats 4000000

theorem refRuns_good (c : Codex) (l : List Fact) (p : ByteArray) (m k : Int) (hsm : smallOK c l = true) (hfit : ∀ f ∈ l, f.fit) (hcx : codexOK c = true) (hst : storeOK l = true) (hkk : dayOK k = true) (hm : 0 ≤ m ∧ m ≤ 1199) :
    SPure Tryz.prog G0 14 [c.sv, storeSV l, sS p, sI m, sI k] (errSV (.imm (dRuns (runsOf (dayViews c l p m k)))) 0) := by
  have hfew : fewOK c 420 = true := by simp only [smallOK, Bool.and_eq_true] at hsm; exact hsm.1
  have hvx := refValid10_spec G0 c hfew
  rw [refOK_eq, hcx] at hvx
  have hvs := refValid12_spec G0 l hfit
  rw [hst] at hvs
  have hvk := ref13day_spec G0 k
  rw [hkk] at hvk
  have hr : readerOK c l k = true := by simp only [readerOK, hcx, hst, hkk, Bool.and_self]
  obtain ⟨hz1, hz2, hz3⟩ := readerOK_len hr
  have hfirst := refFirst_spec G0 m
  have hlength := refLength_spec G0 m
  have hat : ∀ d, SPure Tryz.prog G0 33 [c.sv, storeSV l, sS p, sI d, sI k] (viewOf c l p k d).sv := fun d => refAt13_spec c l p d k ⟨hz1, hz2⟩ hfit hst
  have hlen : (dayViews c l p m k).length = (monthLen m).toNat := by simp [dayViews]
  have hml := monthLen_range m
  have hfd := firstDay_range m
  have hvv0 : ∀ (i : Nat) v, (dayViews c l p m k)[i]? = some v → v = viewOf c l p k (firstDay m + i) := fun i v h => by
    have hi : i < (dayViews c l p m k).length := by
      rcases Nat.lt_or_ge i (dayViews c l p m k).length with h' | h'
      · exact h'
      · rw [List.getElem?_eq_none h'] at h; cases h
    simp only [dayViews, List.getElem?_map] at h
    rw [List.getElem?_range (by omega)] at h
    simpa using h.symm
  have hvd : ∀ x, (viewOf c l p k x).day = x := fun _ => rfl
  have hvf : ∀ x, (viewOf c l p k x).fit := fun x => viewOf_fit hr x
  generalize dayViews c l p m k = VS at hlen hvv0 ⊢
  generalize viewOf c l p k = f at hat hvv0 hvd hvf
  generalize firstDay m = a at hfirst hfd hvv0
  generalize monthLen m = n at hlength hml hlen
  have hwe : IntKind.i64.wrap (a + n) = a + n := wrap64 (by omega) (by omega)
  refine spure_enter Tryz.func14 rfl (by rw [Tryz.ntmps14]; simp) rfl rfl ?_; intro E hH hK
  (refine sgo_sound [] 1000 ?_; conv => whnf)
  refine swr_pure rfl rfl rfl rfl rfl rfl  hvx ?_
  (refine sgor_sound [] 1000 ?_; conv => whnf)
  refine swr_pure rfl rfl rfl rfl rfl rfl  hvs ?_
  (refine sgor_sound [] 1000 ?_; conv => whnf)
  repeat' ((first | with_reducible refine bdec (fun h => ?_) (fun h => ?_) | with_reducible refine bndec (fun h => ?_) (fun h => ?_) | with_reducible refine bwtd (fun h => ?_) (fun h => ?_) | with_reducible refine bwfd (fun h => ?_) (fun h => ?_) | with_reducible refine bwtn (fun h => ?_) (fun h => ?_) | with_reducible refine bwfn (fun h => ?_) (fun h => ?_) | with_reducible refine bwtb (fun h => ?_) (fun h => ?_) | with_reducible refine bwfb (fun h => ?_) (fun h => ?_) | with_reducible refine bwt (fun h => ?_) (fun h => ?_) | with_reducible refine bwf (fun h => ?_) (fun h => ?_) | with_reducible refine bnt (fun h => ?_) (fun h => ?_) | with_reducible refine bcase (fun h => ?_) (fun h => ?_)) <;> (first | (exfalso; omega) | (conv => whnf)))
  refine swr_pure rfl rfl rfl rfl rfl rfl  hvk ?_
  (refine sgor_sound [] 1000 ?_; conv => whnf)
  refine swr_pure rfl rfl rfl rfl rfl rfl  hfirst ?_
  (refine sgor_sound [] 1000 ?_; conv => whnf)
  refine swr_pure rfl rfl rfl rfl rfl rfl  hlength ?_
  (refine sgor_sound [] 1000 ?_; conv => whnf)
  rw [hwe]
  refine sw_vecSlot 14 2 rfl ?_
  refine sw_keep [2, 4, 5, 6, 12, 13, 14, 15, 16] ?_
  refine sw_each VS (fun _ (x : List View × Int) => [(2, sS p), (4, sI k), (5, .ptr 0 0), (6, .ptr 1 0), (12, sI a), (13, sI (a + n)), (14, .vec 3 (runsOf x.1).length), (15, .ptr 2 0), (16, sI x.2)])
    (fun _ x => [.cells [.imm (dDecls c.facts), .imm (dDecls c.lines), .imm (dArts c.arts)], .cells [.imm (dFacts l)], beforeObj x.1.getLast?, .vec 2 (runCells (runsOf x.1))])
    (fun done _ x => x.1 = done ∧ x.2 = a + done.length) ([], a) ⟨rfl, by simp⟩ ?_ ?_
  · as_aux_lemma =>
      rintro ⟨D, dd⟩ ⟨h1, h2⟩
      dsimp only at h1 h2 ⊢
      subst h1
      have hc : chunks 2 ((runsOf D).map runCell).flatten (runsOf D).length = (runsOf D).map runCell := by
        have := chunks_flat 2 ((runsOf D).map runCell) (fun r hr => by obtain ⟨x, _, rfl⟩ := List.mem_map.1 hr; rfl)
        rwa [List.length_map] at this
      refine sw_vshut 14 3 (runsOf D).length 2 (cs := runCells (runsOf D)) (ds := ((runsOf D).map runCell).flatten) rfl rfl (runCells_one _) (mapM_imm _) (runCells_len _) (by decide) ?_
      rw [hc]
      (refine sgo_sound [777] 1000 ?_; conv => whnf)
      repeat' ((first | with_reducible refine bdec (fun h => ?_) (fun h => ?_) | with_reducible refine bndec (fun h => ?_) (fun h => ?_) | with_reducible refine bwtd (fun h => ?_) (fun h => ?_) | with_reducible refine bwfd (fun h => ?_) (fun h => ?_) | with_reducible refine bwtn (fun h => ?_) (fun h => ?_) | with_reducible refine bwfn (fun h => ?_) (fun h => ?_) | with_reducible refine bwtb (fun h => ?_) (fun h => ?_) | with_reducible refine bwfb (fun h => ?_) (fun h => ?_) | with_reducible refine bwt (fun h => ?_) (fun h => ?_) | with_reducible refine bwf (fun h => ?_) (fun h => ?_) | with_reducible refine bnt (fun h => ?_) (fun h => ?_) | with_reducible refine bcase (fun h => ?_) (fun h => ?_)) <;> (first | (exfalso; omega) | (conv => whnf)))
      exact hK _
  · as_aux_lemma =>
      rintro done v rest ⟨d, dd⟩ ha hl2 ⟨h1, h2⟩ ih
      dsimp only at h1 h2 ⊢
      subst h1
      have hvv := hvv0 d.length v (by rw [ha]; simp)
      rw [← h2] at hvv
      have hday : v.day = dd := by rw [hvv, hvd]
      have hw : IntKind.i64.wrap (dd + 1) = dd + 1 := wrap64 (by omega) (by omega)
      have hatd := hat dd
      rw [← hvv] at hatd
      have ih1 := ih (d ++ [v], dd + 1) ⟨rfl, by simp; omega⟩
      dsimp only at ih1
      rw [List.getLast?_concat] at ih1
      have hrl := runsOf_len d
      rcases split_last d with h0 | ⟨d', u, h0⟩ <;> subst h0
      · simp only [List.length_nil] at h2
        (refine sgo_sound [777] 1000 ?_; conv => whnf)
        repeat' ((first | with_reducible refine bdec (fun h => ?_) (fun h => ?_) | with_reducible refine bndec (fun h => ?_) (fun h => ?_) | with_reducible refine bwtd (fun h => ?_) (fun h => ?_) | with_reducible refine bwfd (fun h => ?_) (fun h => ?_) | with_reducible refine bwtn (fun h => ?_) (fun h => ?_) | with_reducible refine bwfn (fun h => ?_) (fun h => ?_) | with_reducible refine bwtb (fun h => ?_) (fun h => ?_) | with_reducible refine bwfb (fun h => ?_) (fun h => ?_) | with_reducible refine bwt (fun h => ?_) (fun h => ?_) | with_reducible refine bwf (fun h => ?_) (fun h => ?_) | with_reducible refine bnt (fun h => ?_) (fun h => ?_) | with_reducible refine bcase (fun h => ?_) (fun h => ?_)) <;> (first | (exfalso; omega) | (conv => whnf)))
        refine swr_pure rfl rfl rfl rfl rfl rfl  hatd ?_
        (refine sgor_sound [777] 1000 ?_; conv => whnf)
        repeat' ((first | with_reducible refine bdec (fun h => ?_) (fun h => ?_) | with_reducible refine bndec (fun h => ?_) (fun h => ?_) | with_reducible refine bwtd (fun h => ?_) (fun h => ?_) | with_reducible refine bwfd (fun h => ?_) (fun h => ?_) | with_reducible refine bwtn (fun h => ?_) (fun h => ?_) | with_reducible refine bwfn (fun h => ?_) (fun h => ?_) | with_reducible refine bwtb (fun h => ?_) (fun h => ?_) | with_reducible refine bwfb (fun h => ?_) (fun h => ?_) | with_reducible refine bwt (fun h => ?_) (fun h => ?_) | with_reducible refine bwf (fun h => ?_) (fun h => ?_) | with_reducible refine bnt (fun h => ?_) (fun h => ?_) | with_reducible refine bcase (fun h => ?_) (fun h => ?_)) <;> (first | (exfalso; omega) | (conv => whnf)))
        rw [hw]
        refine swr_vappend (kk := 2) (new := [[dI dd, dI (dd + 1)]]) rfl rfl rfl rfl rfl rfl rfl rfl rfl rfl ⟨by decide, rfl⟩ rfl (runCells_len _) (by decide) (by simp) (by simp; omega) ?_
        (refine sgor_sound [777] 1000 ?_; conv => whnf)
        have e : runsOf ([] ++ [v]) = runsOf ([]) ++ [(dd, dd + 1)] := by rw [runsOf_snoc, ← hday]; rfl
        have e2 : (runsOf ([] ++ [v])).length = (runsOf ([])).length + 1 := by rw [e]; simp
        have e1 : runCells (runsOf ([])) ++ List.map SV.imm [[dI dd, dI (dd + 1)]].flatten = runCells (runsOf ([] ++ [v])) := by
          rw [e, runCells_app]
          rfl
        rw [← e1, e2] at ih1
        rw [hw]
        refine sw_kc [2, 4, 5, 6, 12, 13, 14, 15, 16] 4 (by simp [hH]) (show 4 ≤ 5 by omega) rfl (show (List.all [.cells [.imm (dDecls c.facts), .imm (dDecls c.lines), .imm (dArts c.arts)], .cells [.imm (dFacts l)], beforeObj (some v), .vec 2 (runCells (runsOf ([])) ++ List.map SV.imm [[dI dd, dI (dd + 1)]].flatten)] (SObj.under 4)) = true by
          simp only [List.all_cons, List.all_nil, Bool.and_true, Bool.and_eq_true]
          rw [e1]
          exact ⟨rfl, rfl, rfl, runCells_under 4 _⟩) ?_
        exact ih1
      · obtain ⟨ra, r, har⟩ := runsOf_ne d' u
        rw [List.getLast?_concat]
        have hdl : 0 < (d' ++ [u]).length := by simp
        have hsm2 := refSame13_spec G0 v u (by rw [hvv]; exact hvf _)
        rw [same_symm] at hsm2
        (refine sgo_sound [777] 1000 ?_; conv => whnf)
        repeat' ((first | with_reducible refine bdec (fun h => ?_) (fun h => ?_) | with_reducible refine bndec (fun h => ?_) (fun h => ?_) | with_reducible refine bwtd (fun h => ?_) (fun h => ?_) | with_reducible refine bwfd (fun h => ?_) (fun h => ?_) | with_reducible refine bwtn (fun h => ?_) (fun h => ?_) | with_reducible refine bwfn (fun h => ?_) (fun h => ?_) | with_reducible refine bwtb (fun h => ?_) (fun h => ?_) | with_reducible refine bwfb (fun h => ?_) (fun h => ?_) | with_reducible refine bwt (fun h => ?_) (fun h => ?_) | with_reducible refine bwf (fun h => ?_) (fun h => ?_) | with_reducible refine bnt (fun h => ?_) (fun h => ?_) | with_reducible refine bcase (fun h => ?_) (fun h => ?_)) <;> (first | (exfalso; omega) | (conv => whnf)))
        refine swr_pure rfl rfl rfl rfl rfl rfl  hatd ?_
        (refine sgor_sound [777] 1000 ?_; conv => whnf)
        repeat' ((first | with_reducible refine bdec (fun h => ?_) (fun h => ?_) | with_reducible refine bndec (fun h => ?_) (fun h => ?_) | with_reducible refine bwtd (fun h => ?_) (fun h => ?_) | with_reducible refine bwfd (fun h => ?_) (fun h => ?_) | with_reducible refine bwtn (fun h => ?_) (fun h => ?_) | with_reducible refine bwfn (fun h => ?_) (fun h => ?_) | with_reducible refine bwtb (fun h => ?_) (fun h => ?_) | with_reducible refine bwfb (fun h => ?_) (fun h => ?_) | with_reducible refine bwt (fun h => ?_) (fun h => ?_) | with_reducible refine bwf (fun h => ?_) (fun h => ?_) | with_reducible refine bnt (fun h => ?_) (fun h => ?_) | with_reducible refine bcase (fun h => ?_) (fun h => ?_)) <;> (first | (exfalso; omega) | (conv => whnf)))
        refine swr_pure rfl rfl rfl rfl rfl rfl  hsm2 ?_
        cases hs : u.same v with
        | false =>
          (refine sgor_sound [777] 1000 ?_; conv => whnf)
          rw [hw]
          refine swr_vappend (kk := 2) (new := [[dI dd, dI (dd + 1)]]) rfl rfl rfl rfl rfl rfl rfl rfl rfl rfl ⟨by decide, rfl⟩ rfl (runCells_len _) (by decide) (by simp) (by simp; omega) ?_
          (refine sgor_sound [777] 1000 ?_; conv => whnf)
          have e : runsOf (d' ++ [u] ++ [v]) = runsOf (d' ++ [u]) ++ [(dd, dd + 1)] := by rw [runsOf_snoc, ← hday]; rw [List.getLast?_concat, addRun_some, hs]; rfl
          have e2 : (runsOf (d' ++ [u] ++ [v])).length = (runsOf (d' ++ [u])).length + 1 := by rw [e]; simp
          have e1 : runCells (runsOf (d' ++ [u])) ++ List.map SV.imm [[dI dd, dI (dd + 1)]].flatten = runCells (runsOf (d' ++ [u] ++ [v])) := by
            rw [e, runCells_app]
            rfl
          rw [← e1, e2] at ih1
          rw [hw]
          refine sw_kc [2, 4, 5, 6, 12, 13, 14, 15, 16] 4 (by simp [hH]) (show 4 ≤ 5 by omega) rfl (show (List.all [.cells [.imm (dDecls c.facts), .imm (dDecls c.lines), .imm (dArts c.arts)], .cells [.imm (dFacts l)], beforeObj (some v), .vec 2 (runCells (runsOf (d' ++ [u])) ++ List.map SV.imm [[dI dd, dI (dd + 1)]].flatten)] (SObj.under 4)) = true by
            simp only [List.all_cons, List.all_nil, Bool.and_true, Bool.and_eq_true]
            rw [e1]
            exact ⟨rfl, rfl, rfl, runCells_under 4 _⟩) ?_
          exact ih1
        | true =>
          (refine sgor_sound [777] 1000 ?_; conv => whnf)
          have hlX : (runCells (runsOf (d' ++ [u]))).length = (ra.length + 1) * 2 := by rw [har, runCells_len]; simp
          have hl1 : (runsOf (d' ++ [u])).length = ra.length + 1 := by rw [har]; simp
          refine swr_vlen (n := (runsOf (d' ++ [u])).length) (cs := runCells (runsOf (d' ++ [u]))) rfl rfl rfl rfl rfl rfl (runCells_len _) (by decide) ?_
          (refine sgor_sound [777] 1000 ?_; conv => whnf)
          refine swr_vidx (kk := 2) (n := (runsOf (d' ++ [u])).length) (cs := runCells (runsOf (d' ++ [u]))) (i := ra.length) rfl rfl rfl rfl rfl rfl rfl rfl (runCells_len _) (by decide) (by rw [hl1, wrap64 (by omega) (by omega)]; omega) (by omega) ?_
          (refine sgor_sound [777] 1000 ?_; conv => whnf)
          refine swr_vfield (kk := 2) (n := (runsOf (d' ++ [u])).length) (cs := runCells (runsOf (d' ++ [u]))) rfl rfl rfl rfl rfl rfl rfl rfl (runCells_len _) (by decide) (by omega) ?_
          (refine sgor_sound [777] 1000 ?_; conv => whnf)
          refine swr_vstore (kk := 2) (n := (runsOf (d' ++ [u])).length) (cs := runCells (runsOf (d' ++ [u]))) (off := ra.length * 2 + 1) rfl rfl rfl rfl rfl rfl rfl rfl rfl (runCells_len _) (by decide) (by rw [hlX]; omega) ?_
          (refine sgor_sound [777] 1000 ?_; conv => whnf)
          have e : runsOf ((d' ++ [u]) ++ [v]) = ra ++ [(r.1, dd + 1)] := by rw [runsOf_snoc, List.getLast?_concat, addRun_some, if_pos hs, har, setLast_snoc, hday]
          have e2 : (runsOf ((d' ++ [u]) ++ [v])).length = (runsOf (d' ++ [u])).length := by rw [e, har]; simp
          have e1 : (runCells (runsOf (d' ++ [u]))).set (ra.length * 2 + 1) (sI (dd + 1)) = runCells (runsOf ((d' ++ [u]) ++ [v])) := by
            rw [e, har]
            exact runCells_set _ r (dd + 1) _ rfl
          rw [← e1, e2] at ih1
          rw [hw]
          refine sw_kc [2, 4, 5, 6, 12, 13, 14, 15, 16] 4 (by simp [hH]) (show 4 ≤ 5 by omega) rfl (show (List.all [.cells [.imm (dDecls c.facts), .imm (dDecls c.lines), .imm (dArts c.arts)], .cells [.imm (dFacts l)], beforeObj (some v), .vec 2 ((runCells (runsOf (d' ++ [u]))).set (ra.length * 2 + 1) (sI (dd + 1)))] (SObj.under 4)) = true by
            simp only [List.all_cons, List.all_nil, Bool.and_true, Bool.and_eq_true]
            rw [e1]
            exact ⟨rfl, rfl, rfl, runCells_under 4 _⟩) ?_
          exact ih1
theorem refRuns_spec (c : Codex) (l : List Fact) (p : ByteArray) (m k : Int) (hsm : smallOK c l = true) (hfit : ∀ f ∈ l, f.fit) :
    SPure Tryz.prog G0 14 [c.sv, storeSV l, sS p, sI m, sI k] (errSV (.imm (dRuns (monthRuns c l p m k).1)) (monthRuns c l p m k).2) := by
  have hfew : fewOK c 420 = true := by simp only [smallOK, Bool.and_eq_true] at hsm; exact hsm.1
  have hcx := refValid10_spec G0 c hfew
  rw [refOK_eq] at hcx
  by_cases hall : (codexOK c = true ∧ storeOK l = true ∧ dayOK k = true) ∧ 0 ≤ m ∧ m ≤ 1199
  · obtain ⟨⟨h1, h2, h3⟩, hm⟩ := hall
    have hr : readerOK c l k = true := by simp only [readerOK, h1, h2, h3, Bool.and_self]
    have hv : monthRuns c l p m k = (runsOf (dayViews c l p m k), 0) := by rw [monthRuns, if_pos (by simp [hr, hm])]
    rw [hv]
    exact refRuns_good c l p m k hsm hfit h1 h2 h3 hm
  · have hv : monthRuns c l p m k = ([], 1) := monthRuns_bad (fun h => hall (by
      have hh := h.1
      simp only [readerOK, Bool.and_eq_true] at hh
      exact ⟨⟨hh.1.1, hh.1.2, hh.2⟩, h.2⟩))
    rw [hv]
    refine spure_is (r := errSV nilS 1) ?_ (SIs.cons (.nil 2) (.cons (.refl _) .nil)).tup
    refine spure_enter Tryz.func14 rfl (by rw [Tryz.ntmps14]; simp) rfl rfl ?_; intro E hH hK
    (refine sgo_sound [] 1000 ?_; conv => whnf)
    refine swr_pure rfl rfl rfl rfl rfl rfl  hcx ?_
    cases h1 : codexOK c with
    | false =>
      (refine sgor_sound [] 1000 ?_; conv => whnf)
      exact hK _
    | true =>
      (refine sgor_sound [] 1000 ?_; conv => whnf)
      refine swr_pure rfl rfl rfl rfl rfl rfl  (refValid12_spec G0 l hfit) ?_
      cases h2 : storeOK l with
      | false =>
        (refine sgor_sound [] 1000 ?_; conv => whnf)
        exact hK _
      | true =>
        (refine sgor_sound [] 1000 ?_; conv => whnf)
        repeat' ((first | with_reducible refine bdec (fun h => ?_) (fun h => ?_) | with_reducible refine bndec (fun h => ?_) (fun h => ?_) | with_reducible refine bwtd (fun h => ?_) (fun h => ?_) | with_reducible refine bwfd (fun h => ?_) (fun h => ?_) | with_reducible refine bwtn (fun h => ?_) (fun h => ?_) | with_reducible refine bwfn (fun h => ?_) (fun h => ?_) | with_reducible refine bwtb (fun h => ?_) (fun h => ?_) | with_reducible refine bwfb (fun h => ?_) (fun h => ?_) | with_reducible refine bwt (fun h => ?_) (fun h => ?_) | with_reducible refine bwf (fun h => ?_) (fun h => ?_) | with_reducible refine bnt (fun h => ?_) (fun h => ?_) | with_reducible refine bcase (fun h => ?_) (fun h => ?_)) <;> (conv => whnf))
        all_goals try exact hK _
        refine swr_pure rfl rfl rfl rfl rfl rfl  (ref13day_spec G0 k) ?_
        cases h3 : dayOK k with
        | false =>
          (refine sgor_sound [] 1000 ?_; conv => whnf)
          exact hK _
        | true => exact absurd ⟨⟨h1, h2, h3⟩, by omega, by omega⟩ hall
end Go.Proofs.YthmkdghoaifkbaaGreatDoor

/- The shadow machine, part 33: operations given by their meaning; structs of two numbers compared by !=; a slice compared with nil. -/
namespace Go.Sh
section
variable {P : Program} {G : List (Nat × D)} {fn : Func} {rd : Bool} {E : En P G fn rd} {t : List (Nat × SV)} {H K : List SObj} {k : List Item} {m : Nat} {all : Array Oper} {rest : List Oper} {done : List Eff} {o : Oper}

/-- an operation that yields a value and leaves the world alone -/
def Means (P : Program) (G : List (Nat × D)) (t : List (Nat × SV)) (o : Oper) (r : SV) : Prop :=
  ∀ (ρ : Operand → Value) w I β, (∀ x ∈ o.op.operands, Rep w I β (ρ x) (evalS G t x)) → ∃ v, (execOp ρ o).run P w = .ok (.value v) w ∧ Rep w I β v r

theorem swe_sem {r : SV} (hw : swant all t o.guard = some true) (hd : dstOK fn.ntmps o.dst = true) (hsem : Means P G t o r)
    (h : SWe E m all rest k (tput t o.dst r) K (done ++ [⟨r, [], none⟩])) : SWe E m all (o :: rest) k t K done :=
  swe_val (e := ⟨r, [], none⟩) ⟨hd, .inr ⟨hw, fun K' hl ha ρ w I β hH hdum hop => by
    obtain ⟨v, h1, h2⟩ := hsem ρ w I β hop
    exact .inl ⟨.value v, v, w, I, β, h1, .inl rfl, h2, ⟨hH, .refl, fun b y hb hy hne => ⟨y, hy, y.le_refl⟩, fun b hb _ => hb⟩⟩⟩⟩ h
theorem swr_sem {r : SV} (hw : swant all t o.guard = some true) (hd : dstOK fn.ntmps o.dst = true) (hnd : ∀ c, o.op ≠ .defer c) (hsem : Means P G t o r)
    (h : SWr E all rest k (tput t o.dst r) H) : SWr E all (o :: rest) k t H :=
  swr_exec hw hd hnd (Nat.le_refl _) (fun ρ w I β hH hev => by
    obtain ⟨v, h1, h2⟩ := hsem ρ w I β (fun x _ => hev x)
    exact ⟨.value v, v, w, I, β, h1, .inl rfl, h2, hH, .refl⟩) h

theorem means_neq2 {ty ty' : TypeId} {x y : Operand} {f0 f1 : Field} {k0 k1 : IntKind} {a b c d : Int} (hop : o.op = .binOp .neq ty x y ty')
    (hx : evalS G t x = .agg [.imm (.val (.int .i64 a)), .imm (.val (.int .i64 b))]) (hy : evalS G t y = .agg [.imm (.val (.int .i64 c)), .imm (.val (.int .i64 d))])
    (hu : P.underlying ty = some (.struct #[f0, f1])) (hs : P.stoodInHeld ty = false) (hn0 : f0.name ≠ "_") (hn1 : f1.name ≠ "_") (ho0 : f0.offset = 0) (ho1 : f1.offset = 1)
    (hi0 : P.underlying f0.type = some (.int k0)) (hi1 : P.underlying f1.type = some (.int k1)) (hg : P.eqGuardType P.depth ty = false) :
    Means P G t o (.imm (.val (.bool (!(decide (a = c) && decide (b = d)))))) := by
  intro ρ w I β hev
  have hrx := hev x (by rw [hop]; simp [Op.operands])
  rw [hx] at hrx
  have hry := hev y (by rw [hop]; simp [Op.operands])
  rw [hy] at hry
  have ex := rep_two hrx
  have ey := rep_two hry
  obtain ⟨dst, op, type, pos, after, guard⟩ := o
  simp only at hop
  subst hop
  refine ⟨.bool (!(decide (a = c) && decide (b = d))), ?_, .imm (.val _)⟩
  simp only [execOp]
  rw [ex, ey]
  have hgd : (eqGuard .neq ty x y (.agg #[.int .i64 a, .int .i64 b]) (.agg #[.int .i64 c, .int .i64 d])).run P w = .ok () w := by
    simp [eqGuard, program, hg, run_prog]
  simp only [Sem.run_bind, hgd, Result.andThen_ok, binOp, run_equal_two hu hs hn0 hn1 ho0 ho1 hi0 hi1, Sem.run_pure]
end
end Go.Sh

/- The law ViewMatchesReference: what it computes. -/
namespace Go.Proofs.YthmkdghoaifkbaaGreatDoor
open Go Go.Sh
set_option maxRecDepth 10000
set_option maxHeartbeats 4000000

theorem viewMatchesLaw_spec (c : Codex) (l : List Fact) (p : ByteArray) (day other m k : Int) (hc : Codex.ok c) (hl : storeGo l) :
    SPure Tryz.prog G0 3 [c.sv, storeSV l, sS p, sI day, sI other, sI m, sI k] (sB true) := by
  refine spure_enter Tryz.func3 rfl (by rw [Tryz.ntmps3]; simp) rfl rfl ?_; intro E hH hK
  (refine sgo_sound [] 1000 ?_; conv => whnf)
  refine swr_pure rfl rfl rfl rfl rfl rfl  head_spec ?_
  (refine sgor_sound [] 1000 ?_; conv => whnf)
  refine swr_pure rfl rfl rfl rfl rfl rfl  (lawSmall_spec G0 c l) ?_
  cases hsm : smallOK c l with
  | false =>
    (refine sgor_sound [] 1000 ?_; conv => whnf)
    exact hK _
  | true =>
    have hfitv : ∀ d, (viewAt c l p d k).1.fit := fun d => by
      simp only [viewAt]
      split
      · rename_i hok
        simp only [readerOK, Bool.and_eq_true] at hok
        have := codexOK_len hok.1.1.1
        refine ⟨by simp [viewOf]; omega, by simp [viewOf]; omega, ?_⟩
        have := inForce_len c.arts d k
        simp only [viewOf]; omega
      · exact ⟨by simp, by simp, by simp⟩
    have hV := viewAt_spec G0 c l p day k (codexFit hc)
    have hR := refViewAt_spec c l p day k hsm (storeFit hl)
    have hX := viewAt_spec G0 c l p other k (codexFit hc)
    have hVR := runs_spec c l p m k (codexFit hc)
    have hRR := refRuns_spec c l p m k hsm (storeFit hl)
    have hf1 := hfitv day
    have hrl : (monthRuns c l p m k).1.length ≤ 31 := by
      simp only [monthRuns]
      split
      · have := runsOf_len (dayViews c l p m k)
        have h1 := monthLen_range m
        simp only [dayViews, List.length_map, List.length_range] at this
        simp only [dayViews]
        omega
      · simp
    generalize viewAt c l p day k = r1 at hV hR hf1
    generalize viewAt c l p other k = r2 at hX
    generalize monthRuns c l p m k = r3 at hVR hRR hrl
    obtain ⟨V, e⟩ := r1
    obtain ⟨X, e2⟩ := r2
    obtain ⟨R, e3⟩ := r3
    dsimp only at hV hR hX hVR hRR hf1 hrl
    have heq : V.same' V = true := by simp [View.same', View.same]
    have hE := refEqual13_spec G0 V V hf1
    rw [heq] at hE
    have hS1 := viewSame_spec G0 V X hf1
    have hS2 := refSame13_spec G0 V X hf1
    have hlr : (R.map runCell).length = R.length := by simp
    (refine sgor_sound [] 1000 ?_; conv => whnf)
    repeat' ((first | with_reducible refine bdec (fun h => ?_) (fun h => ?_) | with_reducible refine bndec (fun h => ?_) (fun h => ?_) | with_reducible refine bwtd (fun h => ?_) (fun h => ?_) | with_reducible refine bwfd (fun h => ?_) (fun h => ?_) | with_reducible refine bwtn (fun h => ?_) (fun h => ?_) | with_reducible refine bwfn (fun h => ?_) (fun h => ?_) | with_reducible refine bwtb (fun h => ?_) (fun h => ?_) | with_reducible refine bwfb (fun h => ?_) (fun h => ?_) | with_reducible refine bwt (fun h => ?_) (fun h => ?_) | with_reducible refine bwf (fun h => ?_) (fun h => ?_) | with_reducible refine bnt (fun h => ?_) (fun h => ?_) | with_reducible refine bcase (fun h => ?_) (fun h => ?_)) <;> (conv => whnf))
    · exact hK _
    refine swr_pure rfl rfl rfl rfl rfl rfl  hV ?_
    (refine sgor_sound [] 1000 ?_; conv => whnf)
    refine swr_pure rfl rfl rfl rfl rfl rfl  hR ?_
    (refine sgor_sound [] 1000 ?_; conv => whnf)
    refine swr_pure rfl rfl rfl rfl rfl rfl  hX ?_
    (refine sgor_sound [] 1000 ?_; conv => whnf)
    refine swr_pure rfl rfl rfl rfl rfl rfl  hVR ?_
    (refine sgor_sound [] 1000 ?_; conv => whnf)
    refine swr_pure rfl rfl rfl rfl rfl rfl  hRR ?_
    (refine sgor_sound [] 1000 ?_; conv => whnf)
    repeat' ((first | with_reducible refine bdec (fun h => ?_) (fun h => ?_) | with_reducible refine bndec (fun h => ?_) (fun h => ?_) | with_reducible refine bwtd (fun h => ?_) (fun h => ?_) | with_reducible refine bwfd (fun h => ?_) (fun h => ?_) | with_reducible refine bwtn (fun h => ?_) (fun h => ?_) | with_reducible refine bwfn (fun h => ?_) (fun h => ?_) | with_reducible refine bwtb (fun h => ?_) (fun h => ?_) | with_reducible refine bwfb (fun h => ?_) (fun h => ?_) | with_reducible refine bwt (fun h => ?_) (fun h => ?_) | with_reducible refine bwf (fun h => ?_) (fun h => ?_) | with_reducible refine bnt (fun h => ?_) (fun h => ?_) | with_reducible refine bcase (fun h => ?_) (fun h => ?_)) <;> (first | (exfalso; omega) | (conv => whnf)))
    refine swr_pure rfl rfl rfl rfl rfl rfl  hE ?_
    (refine sgor_sound [] 1000 ?_; conv => whnf)
    repeat' ((first | with_reducible refine bdec (fun h => ?_) (fun h => ?_) | with_reducible refine bndec (fun h => ?_) (fun h => ?_) | with_reducible refine bwtd (fun h => ?_) (fun h => ?_) | with_reducible refine bwfd (fun h => ?_) (fun h => ?_) | with_reducible refine bwtn (fun h => ?_) (fun h => ?_) | with_reducible refine bwfn (fun h => ?_) (fun h => ?_) | with_reducible refine bwtb (fun h => ?_) (fun h => ?_) | with_reducible refine bwfb (fun h => ?_) (fun h => ?_) | with_reducible refine bwt (fun h => ?_) (fun h => ?_) | with_reducible refine bwf (fun h => ?_) (fun h => ?_) | with_reducible refine bnt (fun h => ?_) (fun h => ?_) | with_reducible refine bcase (fun h => ?_) (fun h => ?_)) <;> (first | (exfalso; omega) | (conv => whnf)))
    refine sw_keep [15, 16, 20, 21, 22, 24, 105, 106] ?_
    refine sw_each R (fun i (_ : Unit) => [(15, sB true), (16, .ptr 2 0), (20, .ptr 4 0), (21, sI e2), (22, .imm (dRuns R)), (24, .imm (dRuns R)), (105, sI (R.map runCell).length), (106, sI i)])
      (fun _ _ => [.cells [.imm (dDecls c.facts), .imm (dDecls c.lines), .imm (dArts c.arts)], .cells [.imm (dFacts l)], .cells (View.cs V), .cells (View.cs V), .cells (View.cs X)])
      (fun _ _ _ => True) () trivial ?_ ?_
    · as_aux_lemma =>
        rintro _ _
        (refine sgo_sound [] 1000 ?_; conv => whnf)
        repeat' ((first | with_reducible refine bdec (fun h => ?_) (fun h => ?_) | with_reducible refine bndec (fun h => ?_) (fun h => ?_) | with_reducible refine bwtd (fun h => ?_) (fun h => ?_) | with_reducible refine bwfd (fun h => ?_) (fun h => ?_) | with_reducible refine bwtn (fun h => ?_) (fun h => ?_) | with_reducible refine bwfn (fun h => ?_) (fun h => ?_) | with_reducible refine bwtb (fun h => ?_) (fun h => ?_) | with_reducible refine bwfb (fun h => ?_) (fun h => ?_) | with_reducible refine bwt (fun h => ?_) (fun h => ?_) | with_reducible refine bwf (fun h => ?_) (fun h => ?_) | with_reducible refine bnt (fun h => ?_) (fun h => ?_) | with_reducible refine bcase (fun h => ?_) (fun h => ?_)) <;> (first | (exfalso; omega) | (conv => whnf)))
        (refine swd_start mixed rfl ?_; refine sgod_sound [] ?_; conv => whnf)
        repeat' ((first | with_reducible refine bdec (fun h => ?_) (fun h => ?_) | with_reducible refine bndec (fun h => ?_) (fun h => ?_) | with_reducible refine bwtd (fun h => ?_) (fun h => ?_) | with_reducible refine bwfd (fun h => ?_) (fun h => ?_) | with_reducible refine bwtn (fun h => ?_) (fun h => ?_) | with_reducible refine bwfn (fun h => ?_) (fun h => ?_) | with_reducible refine bwtb (fun h => ?_) (fun h => ?_) | with_reducible refine bwfb (fun h => ?_) (fun h => ?_) | with_reducible refine bwt (fun h => ?_) (fun h => ?_) | with_reducible refine bwf (fun h => ?_) (fun h => ?_) | with_reducible refine bnt (fun h => ?_) (fun h => ?_) | with_reducible refine bcase (fun h => ?_) (fun h => ?_)) <;> (conv => whnf))
        · refine swd_pure rfl rfl rfl rfl rfl rfl  hS1 ?_
          (refine sgod_sound [] ?_; conv => whnf)
          refine swd_pure rfl rfl rfl rfl rfl rfl  hS2 ?_
          (refine sgod_sound [] ?_; conv => whnf)
          (refine sgo_sound [] 1000 ?_; conv => whnf)
          cases hvx : V.same X with
          | false => exact hK _
          | true => exact hK _
        · (refine sgo_sound [] 1000 ?_; conv => whnf)
          exact hK _
    · as_aux_lemma =>
        rintro done r rest _ ha hl2 _ ih
        have hw := wrap_succ (n := done.length) (by omega)
        (refine sgo_sound [] 1000 ?_; conv => whnf)
        repeat' ((first | with_reducible refine bdec (fun h => ?_) (fun h => ?_) | with_reducible refine bndec (fun h => ?_) (fun h => ?_) | with_reducible refine bwtd (fun h => ?_) (fun h => ?_) | with_reducible refine bwfd (fun h => ?_) (fun h => ?_) | with_reducible refine bwtn (fun h => ?_) (fun h => ?_) | with_reducible refine bwfn (fun h => ?_) (fun h => ?_) | with_reducible refine bwtb (fun h => ?_) (fun h => ?_) | with_reducible refine bwfb (fun h => ?_) (fun h => ?_) | with_reducible refine bwt (fun h => ?_) (fun h => ?_) | with_reducible refine bwf (fun h => ?_) (fun h => ?_) | with_reducible refine bnt (fun h => ?_) (fun h => ?_) | with_reducible refine bcase (fun h => ?_) (fun h => ?_)) <;> (first | (exfalso; omega) | (conv => whnf)))
        (refine swe_start 0 mixed rfl ?_; refine sgoe_sound [] (nx := 5) ?_; conv => whnf)
        refine swe_index rfl rfl rfl rfl rfl rfl rfl (by simp) rfl  (row := [dI r.1, dI r.2]) (by simp [ha, runCell]) ?_
        (refine sgoe_sound [] (nx := 5) ?_; conv => whnf)
        refine swe_index rfl rfl rfl rfl rfl rfl rfl (by simp) rfl  (row := [dI r.1, dI r.2]) (by simp [ha, runCell]) ?_
        (refine sgoe_sound [] (nx := 5) ?_; conv => whnf)
        refine swe_sem rfl rfl (means_neq2 rfl rfl rfl rfl Tryz.stoodInHeld43 (by decide) (by decide) rfl rfl rfl rfl Tryz.eqGuardType43) ?_
        rw [show (!(decide (r.1 = r.1) && decide (r.2 = r.2))) = false by simp]
        (refine sgoe_sound [] (nx := 5) ?_; conv => whnf)
        (refine sgo_sound [] 1000 ?_; conv => whnf)
        all_goals (rw [hw]; exact sw_kc [15, 16, 20, 21, 22, 24, 105, 106] 5 (by simp [hH]) (by simp) rfl rfl (ih () trivial))
end Go.Proofs.YthmkdghoaifkbaaGreatDoor

/- The shadow machine, part 34: calls that return a new slice; appends in an open order; a slice compared with nil. -/
namespace Go.Sh
section
variable {P : Program} {G : List (Nat × D)} {fn : Func} {rd : Bool} {E : En P G fn rd} {t : List (Nat × SV)} {H K : List SObj} {k : List Item} {m : Nat} {all : Array Oper} {rest : List Oper} {done : List Eff} {o : Oper}

/-- a new object is put where its place is -/
theorem new_place {nx : Nat} {r : SV} {ob : SObj} {w w' : World} {I I' : Imm} {β β1 : List Bnd} {v : Value} (hm : m ≤ nx) (hnx : K[nx]? = some .dead) (hH : HeapOK G w I β K) (hdum : β[nx]? = some dummyB) (h3 : Rep w' I' β1 v r)
    (h4 : HeapOK G w' I' β1 (K ++ [ob])) (h5 : Ext K.length w I β K w' I' β1 (K ++ [ob])) (hr : r.isNew K.length = true) (hob : ob.under K.length = true) :
    ∃ β', Rep w' I' β' v (r.mv K.length nx) ∧ Gain G m w I β K (some (nx, ob)) w' I' β' := by
  have hnl := lt_of_getElem? hnx
  have hl1 : β1.length = K.length + 1 := by rw [h4.len]; simp
  have hl0 : β.length = K.length := hH.len
  have hkeep : Keeps K.length β β1 := h5.keep
  have hdum1 : β1[nx]? = some dummyB := hkeep.dummy hnl hdum
  obtain ⟨x, hx⟩ : ∃ x, β1[K.length]? = some x := ⟨β1[K.length]'(by omega), List.getElem?_eq_getElem _⟩
  have hlen2 : ((β1.take K.length).set nx x).length = K.length := by simp; omega
  have get2 : ∀ b, b ≠ nx → b < K.length → ((β1.take K.length).set nx x)[b]? = β1[b]? := fun b hne hlt => by
    rw [List.getElem?_set_ne (Ne.symm hne), List.getElem?_take, if_pos hlt]
  have getnx : ((β1.take K.length).set nx x)[nx]? = some x := List.getElem?_set_self (by simp; omega)
  -- bindings
  have kd1 : KeepsD K.length β1 ((β1.take K.length).set nx x) := fun b y hb hy hne => by
    have hbn : b ≠ nx := by rintro rfl; rw [hdum1] at hy; cases hy; exact hne rfl
    exact ⟨y, by rw [get2 b hbn hb]; exact hy, y.le_refl⟩
  have kd0 : KeepsD β.length β ((β1.take K.length).set nx x) := fun b y hb hy hne => by
    rw [hl0] at hb
    obtain ⟨z, hz, hle⟩ := hkeep b y hb hy
    have hbn : b ≠ nx := by rintro rfl; rw [hdum] at hy; cases hy; exact hne rfl
    exact ⟨z, by rw [get2 b hbn hb]; exact hz, hle⟩
  have hown : ∀ b c, owns (K.set nx ob) ((β1.take K.length).set nx x) b c → owns (K ++ [ob]) β1 (if b = nx then K.length else b) c := by
    rintro b c ⟨o, y, g1, g2, g3, g4⟩
    by_cases e : b = nx
    · subst e
      rw [if_pos rfl]
      rw [List.getElem?_set_self hnl] at g1
      rw [getnx] at g3
      cases g1; cases g3
      exact ⟨ob, x, by simp, g2, hx, g4⟩
    · rw [if_neg e]
      rw [List.getElem?_set_ne (Ne.symm e)] at g1
      have hlt := lt_of_getElem? g1
      rw [get2 b e hlt] at g3
      exact ⟨o, y, by rw [List.getElem?_append_left hlt]; exact g1, g2, g3, g4⟩
  have hheap : HeapOK G w' I' ((β1.take K.length).set nx x) (K.set nx ob) := by
    refine ⟨by simp; omega, fun b o y g1 g2 => ?_, fun b b' c g1 g2 => ?_, h4.inI, h4.glob⟩
    · by_cases e : b = nx
      · subst e
        rw [List.getElem?_set_self hnl] at g1
        rw [getnx] at g2
        cases g1; cases g2
        exact (h4.obj K.length ob x (by simp) hx).belowD hob kd1
      · rw [List.getElem?_set_ne (Ne.symm e)] at g1
        have hlt := lt_of_getElem? g1
        rw [get2 b e hlt] at g2
        have hb1 : b < β.length := by omega
        have hob1 := h4.obj b o y (by rw [List.getElem?_append_left hlt]; exact g1) g2
        have hob0 := hH.obj b o _ g1 (List.getElem?_eq_getElem hb1)
        rcases hob0.under with hu | ⟨s, f, n', tt, ps, asg, bd, rfl⟩
        · exact hob1.belowD (by rw [hl0] at hu; exact hu) kd1
        · cases y with
          | tok u => exact hob1
          | blk c =>
            cases hbb : β[b] with
            | tok u => rw [hbb] at hob0; exact hob0.elim
            | blk c' =>
              rw [hbb] at hob0
              obtain ⟨r0, b1, b2, b3, b4, b5, b6, b7, b8, b9⟩ := hob0
              obtain ⟨r1, a1, a2, a3, a4, a5, a6, a7, a8, a9⟩ := hob1
              refine ⟨r1, a1, a2, a3, a4, a5, a6, a7, fun m' => ?_, a9⟩
              have hu := (b8 m').under
              rw [hl0] at hu
              exact (a8 m').monoD (fun _ _ h => h) (fun _ _ _ => rfl) kd1 hu
    · have := h4.inj _ _ c (hown b c g1) (hown b' c g2)
      have l1 : b < K.length := by obtain ⟨o, y, g, _⟩ := g1; have := lt_of_getElem? g; simpa using this
      have l2 : b' < K.length := by obtain ⟨o, y, g, _⟩ := g2; have := lt_of_getElem? g; simpa using this
      split at this <;> split at this <;> omega
  refine ⟨(β1.take K.length).set nx x, ?_, hheap, ?_, kd0, fun b hb hne => ?_⟩
  · cases r with
    | ptr c o =>
      have : c = K.length := by simpa [SV.isNew] using hr
      subst this
      simp only [SV.mv, if_true]
      cases h3 with
      | ptr _ c' _ hc => rw [hx] at hc; cases hc; exact .ptr nx c' o getnx
    | osl c o l =>
      have : c = K.length := by simpa [SV.isNew] using hr
      subst this
      simp only [SV.mv, if_true]
      cases h3 with
      | osl _ c' _ _ cap hc g1 g2 => rw [hx] at hc; cases hc; exact .osl nx c' o l cap getnx g1 g2
    | asl c kk rows =>
      have : c = K.length := by simpa [SV.isNew] using hr
      subst this
      simp only [SV.mv, if_true]
      cases h3 with
      | asl _ _ _ _ u n' hd hc g1 g2 g3 => rw [hx] at hc; cases hc; exact .asl nx kk rows v u n' hd getnx g1 g2 g3
    | map c =>
      have : c = K.length := by simpa [SV.isNew] using hr
      subst this
      simp only [SV.mv, if_true]
      cases h3 with
      | map _ c' hc => rw [hx] at hc; cases hc; exact .map nx c' getnx
    | _ => simp [SV.isNew] at hr
  · refine ⟨h5.imm, h5.cell, fun b y hb hy => ?_, h5.old, fun b c ho => h5.own _ c (hown b c ho), h5.new, h5.size, h5.env⟩
    have hlt := lt_of_getElem? hy
    obtain ⟨z, hz, hle⟩ := hkeep b y (by omega) hy
    exact ⟨z, by rw [get2 b (by omega) (by omega)]; exact hz, hle⟩
  · have hbn : b ≠ nx := fun e => hne ob (by rw [e])
    have hlt := lt_of_getElem? hb
    rw [get2 b hbn (by omega)]
    exact hkeep.dummy (by omega) hb


/-- the contract of a function that returns a new slice -/
def SNew (P : Program) (G : List (Nat × D)) (f : FuncId) (args : List SV) (kk : Nat) (rows : List (List D)) : Prop :=
  ∀ H, SCall P G f args H (fun r' H' => r' = .asl H.length kk rows ∧ H' = H ++ [.tok kk rows.length])

theorem opEff_callNew {nx : Nat} {ev : Operand → SV} {fx : Operand} {args : Array Operand} {tys : Array TypeId} {f : FuncId} {first captured argv : List SV} {kk : Nat} {rows : List (List D)} (hm : m ≤ nx) (hnx : K[nx]? = some .dead)
    (hop : o.op = .call ⟨.value fx, args, tys⟩) (hf : ev fx = .fn (.func f) first captured) (hb : hasBody P f = true) (hargs : first ++ args.toList.map ev ++ captured = argv) (hc : SNew P G f argv kk rows) :
    OpEff P G m o ev K ⟨.asl nx kk rows, [], some (nx, .tok kk rows.length)⟩ := by
  intro ρ w I β hH hph hops
  subst hargs
  have hmem : ∀ x ∈ args, x ∈ o.op.operands := fun x hx => by rw [hop]; simp [Op.operands, Call.operands, hx]
  have hfr := hops fx (by rw [hop]; simp [Op.operands, Call.operands])
  rw [hf] at hfr
  generalize hfv : ρ fx = fv at hfr
  cases hfr with
  | fn _ fs cps _ _ l1 l2 r1 r2 =>
  have hrun : (execOp ρ o).run P w = .ok (.enter f (fs ++ args.map ρ ++ cps)) w := by
    obtain ⟨dst, op, type, pos, after, guard⟩ := o
    simp only at hop
    subst hop
    simp only [execOp, resolve, hfv, Deferred.ofValue, Sem.run_bind, Sem.run_pure, Result.andThen_ok, invoke]
    exact run_callFunc hb
  have hreps : Reps w I β (fs ++ args.map ρ ++ cps).toList (first ++ args.toList.map ev ++ captured) := by
    have e1 : Reps w I β fs.toList first := .of_get l1 r1
    have e2 : Reps w I β (args.map ρ).toList (args.toList.map ev) := by
      have : ∀ l : List Operand, (∀ x ∈ l, x ∈ args.toList) → Reps w I β (l.map ρ) (l.map ev) := by
        intro l
        induction l with
        | nil => intro _; exact .nil
        | cons x l ihl => intro hl; exact .cons (hops x (hmem x (by simpa using hl x (by simp)))) (ihl fun y hy => hl y (by simp [hy]))
      simpa using this args.toList (fun _ h => h)
    have e3 : Reps w I β cps.toList captured := .of_get l2 r2
    simpa using (e1.append e2).append e3
  refine .inr ⟨f, _, hrun, (hc K w I β _ hH hreps).mono ?_⟩
  rintro e w' ⟨v, r', I', β', H', rfl, ⟨rfl, rfl⟩, g1, g2, g3⟩
  obtain ⟨β2, q1, q2⟩ := new_place (m := m) hm hnx hH (hph nx hm hnx) g1 g2 g3 (by simp [SV.isNew]) rfl
  simp only [SV.mv, if_true] at q1
  exact ⟨v, I', β2, rfl, q1, q2⟩

theorem swe_callNew (nx : Nat) {fx : Operand} {args : Array Operand} {tys : Array TypeId} {f : FuncId} {first captured : List SV} {kk : Nat} {rows : List (List D)} (hop : o.op = .call ⟨.value fx, args, tys⟩) (hw : swant all t o.guard = some true) (hd : dstOK fn.ntmps o.dst = true)
    (hf : evalS G t fx = .fn (.func f) first captured) (hb : hasBody P f = true) {argv : List SV} (hargs : first ++ args.toList.map (evalS G t) ++ captured = argv) (hm : m ≤ nx) (hnx : K[nx]? = some .dead) (hc : SNew P G f argv kk rows)
    (h : SWe E m all rest k (tput t o.dst (.asl nx kk rows)) (K.set nx (.tok kk rows.length)) (done ++ [⟨.asl nx kk rows, [], some (nx, .tok kk rows.length)⟩])) : SWe E m all (o :: rest) k t K done :=
  swe_val (e := ⟨.asl nx kk rows, [], some (nx, .tok kk rows.length)⟩) ⟨hd, .inr ⟨hw, fun K' hl ha => opEff_callNew hm (by rw [ha nx (.inr ⟨_, rfl⟩)]; exact hnx) hop hf hb hargs hc⟩⟩ h
theorem swr_callNew {fx : Operand} {args : Array Operand} {tys : Array TypeId} {f : FuncId} {first captured : List SV} {kk : Nat} {rows : List (List D)} (hop : o.op = .call ⟨.value fx, args, tys⟩) (hw : swant all t o.guard = some true) (hd : dstOK fn.ntmps o.dst = true)
    (hf : evalS G t fx = .fn (.func f) first captured) (hb : hasBody P f = true) {argv : List SV} (hargs : first ++ args.toList.map (evalS G t) ++ captured = argv) (hc : SNew P G f argv kk rows)
    (h : SWr E all rest k (tput t o.dst (.asl H.length kk rows)) (H ++ [.tok kk rows.length])) : SWr E all (o :: rest) k t H :=
  swr_call hop hw hd hf hb hargs ((hc H).mono fun r' H' ⟨e1, e2⟩ => by subst e1 e2; exact ⟨by simp, h⟩)

/-- []T{} -/
theorem swe_lit0 (nx : Nat) {ty e kk : Nat} {z : Value} (hop : o.op = .buildSlice ty 0 #[]) (hw : swant all t o.guard = some true) (hd : dstOK fn.ntmps o.dst = true) (hu : P.underlying ty = some (.slice e)) (hk : psize P e = some kk) (hz : pzero P e = some z) (hk0 : kk ≠ 0)
    (hm : m ≤ nx) (hnx : K[nx]? = some .dead)
    (h : SWe E m all rest k (tput t o.dst (.asl nx kk [])) (K.set nx (.tok kk 0)) (done ++ [⟨.asl nx kk [], [], some (nx, .tok kk 0)⟩])) : SWe E m all (o :: rest) k t K done := by
  have := swe_new (E := E) (m := m) (all := all) (rest := rest) (k := k) (t := t) (K := K) (done := done) nx (r := .asl K.length kk []) (ob := .tok kk 0) hw hd hm hnx (by simp [SV.isNew]) rfl
    (fun K' hl' => by
      rw [hop]
      simp only [sop, sbuildSlice, hu, hk, hz]
      rw [if_neg (by simp [hk0]), if_pos trivial, hl']
      rfl)
  simp only [SV.mv, if_true] at this
  exact this h

theorem swe_append {b kk by_ e e' : Nat} {z : Value} {sx xx : Operand} {sT xT : Nat} {rows new : List (List D)} (hop : o.op = .call ⟨.builtin .append, #[sx, xx], #[sT, xT]⟩)
    (hw : swant all t o.guard = some true) (hd : dstOK fn.ntmps o.dst = true) (hs : evalS G t sx = .asl b kk rows) (hx : (evalS G t xx).rows = some (kk, new)) (hu : P.underlying sT = some (.slice e)) (hu' : P.underlying xT = some (.slice e'))
    (hk : psize P e = some kk) (hby : pbytes P e = some by_) (hz : pzero P e = some z) (hcond : by_ ≤ 65536 ∧ z.cells.size = kk) (hm : m ≤ K.length) (hb : K[b]? = some (.tok kk rows.length)) (hlen : rows.length + new.length ≤ 1073741824)
    (h : SWe E m all rest k (tput t o.dst (.asl b kk (rows ++ new))) (K.set b (.tok kk (rows ++ new).length)) (done ++ [⟨.asl b kk (rows ++ new), [b], some (b, .tok kk (rows ++ new).length)⟩])) : SWe E m all (o :: rest) k t K done :=
  swe_op ⟨.asl b kk (rows ++ new), [b], some (b, .tok kk (rows ++ new).length)⟩ hw hd hm (fun K' _ ha => by
    have hb' : K'[b]? = some (.tok kk rows.length) := by rw [ha b (.inl (by simp))]; exact hb
    rw [hop, List.length_append]
    simp only [sop, sbuiltin, List.map_cons, List.map_nil, sappend, hu, hu', hx, hk, hby, hz]
    rw [if_pos ⟨hcond.1, hcond.2, .inl trivial⟩]
    simp only [sappendTo, hs, hb']
    rw [if_pos ⟨trivial, trivial, trivial, hlen⟩]
    rfl) h

/-- an operation whose value is one of several, by the world -/
theorem swr_some {Q : SV → Prop} (hw : swant all t o.guard = some true) (hd : dstOK fn.ntmps o.dst = true) (hnd : ∀ c, o.op ≠ .defer c)
    (hrun : ∀ (ρ : Operand → Value) w I β, HeapOK G w I β H → (∀ x, Rep w I β (ρ x) (evalS G t x)) → ∃ r, Q r ∧ OpRun P G (execOp ρ o) w I β H r H)
    (h : ∀ r, Q r → SWr E all rest k (tput t o.dst r) H) : SWr E all (o :: rest) k t H := by
  refine ⟨fun j hj hdrop => ?_⟩
  obtain ⟨h1, ho, h3⟩ := drop_cons_parts hdrop
  rw [range_drop h1]
  refine ⟨fun a w I β cs hsim => ?_⟩
  have hwant := swant_sound hw hsim
  obtain ⟨r, hq, n, v, w', I', β', g1, g2, g3, g4, g5⟩ := hrun a.eval w I β hsim.heap hsim.eval
  have hg := rstepG_op (P := P) (b := E.base) (ro := E.ro) (k := k) (cs := cs) (w := w) (rest := (List.range all.size).drop (j + 1)) ho hwant (.inr hnd)
  have hfin : ∀ v, (E.at a (.inRegion all (j :: (List.range all.size).drop (j + 1)) :: k)).finish v = E.at (a.put o.dst v) (.inRegion all ((List.range all.size).drop (j + 1)) :: k) := by
    intro v; unfold En.at; rw [rfinish_at, ho]; rfl
  have hstep : step P (lone (E.at a (.inRegion all (j :: (List.range all.size).drop (j + 1)) :: k)) cs w) = .next (lone (E.at (a.put o.dst v) (.inRegion all ((List.range all.size).drop (j + 1)) :: k)) cs w') := by
    refine step_lone_go ?_
    rw [← hfin]
    unfold En.at
    rw [hg]
    rcases g2 with rfl | ⟨rfl, rfl⟩ <;> simp [stepG.apply, g1]
  exact .of_steps (.one hstep) (((h r hq).run (j + 1) h1 h3).run _ w' I' β' cs (hsim.put hd g3 g4 g5 (Nat.le_refl _)))

/-- a slice compared with nil -/
theorem swr_eqNil {ty ty' e kk : Nat} {x y : Operand} {rows : List (List D)} (hop : o.op = .binOp .eql ty x y ty') (hw : swant all t o.guard = some true) (hd : dstOK fn.ntmps o.dst = true)
    (hx : evalS G t x = .imm (.isl kk rows)) (hy : evalS G t y = .imm (.val (.slice none 0 0))) (hu : P.underlying ty = some (.slice e))
    (h1 : rows = [] → SWr E all rest k (tput t o.dst (.imm (.val (.bool true)))) H) (h2 : SWr E all rest k (tput t o.dst (.imm (.val (.bool false)))) H) : SWr E all (o :: rest) k t H := by
  refine swr_some (Q := fun r => (rows = [] ∧ r = .imm (.val (.bool true))) ∨ r = .imm (.val (.bool false))) hw hd (fun c e => by rw [hop] at e; cases e) (fun ρ w I β hH hev => ?_) (fun r hq => ?_)
  · have hrx := hev x
    rw [hx] at hrx
    have hry := hev y
    rw [hy] at hry
    obtain ⟨dst, op, type, pos, after, guard⟩ := o
    simp only at hop
    subst hop
    have ey : ρ y = .slice none 0 0 := by
      generalize ρ y = v at hry
      cases hry with | imm hr => cases hr; rfl
    have key : ∀ (a : Option Addr) (l c : Nat), ρ x = .slice a l c → (a = none → rows = []) → ∃ r, ((rows = [] ∧ r = SV.imm (.val (.bool true))) ∨ r = .imm (.val (.bool false))) ∧ OpRun P G (execOp ρ ⟨dst, .binOp .eql ty x y ty', type, pos, after, guard⟩) w I β H r H := by
      intro a l c hv ha
      refine ⟨.imm (.val (.bool a.isNone)), ?_, ?_⟩
      · cases a with
        | none => exact .inl ⟨ha rfl, rfl⟩
        | some a => exact .inr rfl
      · refine OpRun.same (v := .bool a.isNone) ?_ (.imm (.val _)) hH
        rw [hv, ey]
        have hgd : (eqGuard .eql ty x y (.slice a l c) (.slice none 0 0)).run P w = .ok () w := by simp [eqGuard]
        have heq : (Op.equal ty (.slice a l c) (.slice none 0 0)).run P w = .ok a.isNone w := by
          show (Op.equalIn (9999 + 1) ty _ _).run P w = _
          generalize 9999 = n
          rw [Op.equalIn]
          simp only [Sem.run_bind, run_underlying hu, Result.andThen_ok]
          cases a <;> simp
        simp only [Sem.run_bind, hgd, Result.andThen_ok, binOp, heq, Sem.run_pure]
    generalize ρ x = v at hrx key
    cases hrx with
    | imm hr =>
      cases hr with
      | islNil => exact key none 0 0 rfl (fun _ => rfl)
      | islEmpty a => exact key (some a) 0 0 rfl (fun h => by cases h)
      | isl b o' cap _ _ V q1 q2 q3 q4 q5 => exact key _ _ _ rfl (fun h => by cases h)
  · rcases hq with ⟨e0, rfl⟩ | rfl
    · exact h1 e0
    · exact h2
end
end Go.Sh

/- Facts recorded: slices.Clone, facts.Record. -/
namespace Go.Proofs.YthmkdghoaifkbaaGreatDoor
open Go Go.Sh
set_option maxRecDepth 10000
set_option maxHeartbeats 4000000

theorem cloneFacts_spec (G : List (Nat × D)) (l : List Fact) (hlen : l.length ≤ 1073741824) : SNew Tryz.prog G 41 [.imm (dFacts l)] 7 (l.map Fact.cells) := by
  intro H
  refine scall_enter Tryz.func41 rfl (by rw [Tryz.ntmps41]; simp) ?_
  intro E hH hK
  (refine sgo_sound [777] 1000 ?_; conv => whnf)
  refine swr_eqNil rfl rfl rfl rfl rfl rfl ?_ ?_
  · intro he
    refine sgor_sound [777] 6 ?_; conv => whnf
    refine swr_lift (fun k => sw_tok (n := 2) (kk := 7) rfl) ?_
    (refine sgor_sound [777] 1000 ?_; conv => whnf)
    exact hK _ _ ⟨by rw [he]; rfl, by rw [he]; rfl⟩
  · (refine sgor_sound [777] 1000 ?_; conv => whnf)
    refine swr_append rfl rfl rfl rfl rfl rfl rfl rfl rfl rfl ⟨by decide, rfl⟩ (by simp) (by simp; omega) ?_
    (refine sgor_sound [777] 1000 ?_; conv => whnf)
    exact hK _ _ ⟨rfl, by simp; rfl⟩

def recordOf (l : List Fact) (f : Fact) : List Fact × Int :=
  if storeOK l = false ∨ formed f = false then ([], 1)
  else if 400 ≤ l.length then ([], 2)
  else if (lastKnown l).any (fun k => decide (f.known < k)) then ([], 6)
  else (l ++ [f], 0)
def nilStore : SV := .agg [nilS]
theorem nilStore_is (n : Int) : (errSV nilStore n).Is (errSV (storeSV []) n) :=
  (SIs.cons (SIs.cons (.nil 7) .nil).agg (.cons (.refl _) .nil)).tup

theorem record_spec (G : List (Nat × D)) (l : List Fact) (f : Fact) : SPure Tryz.prog G 24 [storeSV l, Fact.sv f] (errSV (storeSV (recordOf l f).1) (recordOf l f).2) := by
  have hfl : (l.map Fact.cells).length = l.length := by simp
  by_cases h0 : storeOK l = true ∧ formed f = true ∧ l.length < 400
  · obtain ⟨h1, h2, h3⟩ := h0
    rcases split_last l with hl | ⟨l', x, hl⟩
    · subst hl
      have hr : recordOf [] f = ([f], 0) := by simp [recordOf, h1, h2, lastKnown]
      rw [hr]
      refine spure_enter Tryz.func24 rfl (by rw [Tryz.ntmps24]; simp) rfl rfl ?_; intro E hH hK
      (refine sgo_sound [] 1000 ?_; conv => whnf)
      refine swr_pure rfl rfl rfl rfl rfl rfl  (factsValid_spec G []) ?_
      rw [h1]
      (refine sgor_sound [] 1000 ?_; conv => whnf)
      refine swr_pure rfl rfl rfl rfl rfl rfl  (wellFormed_spec G f) ?_
      rw [h2]
      (refine sgor_sound [] 1000 ?_; conv => whnf)
      (refine swd_start mixed rfl ?_; refine sgod_sound [] ?_; conv => whnf)
      (refine sgo_sound [] 1000 ?_; conv => whnf)
      (refine swe_start 1 mixed rfl ?_; refine sgoe_sound [] (nx := 3) ?_; conv => whnf)
      refine swe_callNew 3 rfl rfl rfl rfl rfl rfl (by simp) rfl (cloneFacts_spec G [] (by simp)) ?_
      (refine sgoe_sound [] (nx := 4) ?_; conv => whnf)
      refine swe_append rfl rfl rfl rfl rfl rfl rfl rfl rfl rfl ⟨by decide, rfl⟩ (by simp) rfl (by simp) ?_
      (refine sgoe_sound [] (nx := 4) ?_; conv => whnf)
      refine sw_solid ?_
      (refine sgo_sound [] 1000 ?_; conv => whnf)
      exact hK _
    · subst hl
      have hlk : lastKnown (l' ++ [x]) = some x.known := by simp [lastKnown]
      have h400 : ¬ 400 ≤ (l' ++ [x]).length := by omega
      have hll : (l' ++ [x]).length = l'.length + 1 := by simp
      have hm : IntKind.i64.wrap (((l' ++ [x]).map Fact.cells).length - 1) = (l'.length : Int) := by
        rw [hfl, wrap64 (by omega) (by omega)]; omega
      by_cases hx : f.known < x.known
      · have hr : recordOf (l' ++ [x]) f = ([], 6) := by
          rw [recordOf, if_neg (by simp [h1, h2]), if_neg h400, hlk, if_pos (by simpa using hx)]
        rw [hr]
        refine spure_is ?_ (nilStore_is 6)
        refine spure_enter Tryz.func24 rfl (by rw [Tryz.ntmps24]; simp) rfl rfl ?_; intro E hH hK
        (refine sgo_sound [] 1000 ?_; conv => whnf)
        refine swr_pure rfl rfl rfl rfl rfl rfl  (factsValid_spec G (l' ++ [x])) ?_
        rw [h1]
        (refine sgor_sound [] 1000 ?_; conv => whnf)
        refine swr_pure rfl rfl rfl rfl rfl rfl  (wellFormed_spec G f) ?_
        rw [h2]
        (refine sgor_sound [] 1000 ?_; conv => whnf)
        repeat' ((first | with_reducible refine bdec (fun h => ?_) (fun h => ?_) | with_reducible refine bndec (fun h => ?_) (fun h => ?_) | with_reducible refine bwtd (fun h => ?_) (fun h => ?_) | with_reducible refine bwfd (fun h => ?_) (fun h => ?_) | with_reducible refine bwtn (fun h => ?_) (fun h => ?_) | with_reducible refine bwfn (fun h => ?_) (fun h => ?_) | with_reducible refine bwtb (fun h => ?_) (fun h => ?_) | with_reducible refine bwfb (fun h => ?_) (fun h => ?_) | with_reducible refine bwt (fun h => ?_) (fun h => ?_) | with_reducible refine bwf (fun h => ?_) (fun h => ?_) | with_reducible refine bnt (fun h => ?_) (fun h => ?_) | with_reducible refine bcase (fun h => ?_) (fun h => ?_)) <;> (first | (exfalso; omega) | (conv => whnf)))
        (refine swd_start mixed rfl ?_; refine sgod_sound [] ?_; conv => whnf)
        repeat' ((first | with_reducible refine bdec (fun h => ?_) (fun h => ?_) | with_reducible refine bndec (fun h => ?_) (fun h => ?_) | with_reducible refine bwtd (fun h => ?_) (fun h => ?_) | with_reducible refine bwfd (fun h => ?_) (fun h => ?_) | with_reducible refine bwtn (fun h => ?_) (fun h => ?_) | with_reducible refine bwfn (fun h => ?_) (fun h => ?_) | with_reducible refine bwtb (fun h => ?_) (fun h => ?_) | with_reducible refine bwfb (fun h => ?_) (fun h => ?_) | with_reducible refine bwt (fun h => ?_) (fun h => ?_) | with_reducible refine bwf (fun h => ?_) (fun h => ?_) | with_reducible refine bnt (fun h => ?_) (fun h => ?_) | with_reducible refine bcase (fun h => ?_) (fun h => ?_)) <;> (first | (exfalso; omega) | (conv => whnf)))
        refine swd_index rfl rfl rfl rfl rfl rfl rfl  hm (row := x.cells) (by simp) ?_
        (refine sgod_sound [] ?_; conv => whnf)
        (refine sgo_sound [] 1000 ?_; conv => whnf)
        repeat' ((first | with_reducible refine bdec (fun h => ?_) (fun h => ?_) | with_reducible refine bndec (fun h => ?_) (fun h => ?_) | with_reducible refine bwtd (fun h => ?_) (fun h => ?_) | with_reducible refine bwfd (fun h => ?_) (fun h => ?_) | with_reducible refine bwtn (fun h => ?_) (fun h => ?_) | with_reducible refine bwfn (fun h => ?_) (fun h => ?_) | with_reducible refine bwtb (fun h => ?_) (fun h => ?_) | with_reducible refine bwfb (fun h => ?_) (fun h => ?_) | with_reducible refine bwt (fun h => ?_) (fun h => ?_) | with_reducible refine bwf (fun h => ?_) (fun h => ?_) | with_reducible refine bnt (fun h => ?_) (fun h => ?_) | with_reducible refine bcase (fun h => ?_) (fun h => ?_)) <;> (first | (exfalso; omega) | (conv => whnf)))
        exact hK _
      · have hr : recordOf (l' ++ [x]) f = (l' ++ [x] ++ [f], 0) := by
          rw [recordOf, if_neg (by simp [h1, h2]), if_neg h400, hlk, if_neg (by simpa using hx)]
        rw [hr]
        refine spure_enter Tryz.func24 rfl (by rw [Tryz.ntmps24]; simp) rfl rfl ?_; intro E hH hK
        (refine sgo_sound [] 1000 ?_; conv => whnf)
        refine swr_pure rfl rfl rfl rfl rfl rfl  (factsValid_spec G (l' ++ [x])) ?_
        rw [h1]
        (refine sgor_sound [] 1000 ?_; conv => whnf)
        refine swr_pure rfl rfl rfl rfl rfl rfl  (wellFormed_spec G f) ?_
        rw [h2]
        (refine sgor_sound [] 1000 ?_; conv => whnf)
        repeat' ((first | with_reducible refine bdec (fun h => ?_) (fun h => ?_) | with_reducible refine bndec (fun h => ?_) (fun h => ?_) | with_reducible refine bwtd (fun h => ?_) (fun h => ?_) | with_reducible refine bwfd (fun h => ?_) (fun h => ?_) | with_reducible refine bwtn (fun h => ?_) (fun h => ?_) | with_reducible refine bwfn (fun h => ?_) (fun h => ?_) | with_reducible refine bwtb (fun h => ?_) (fun h => ?_) | with_reducible refine bwfb (fun h => ?_) (fun h => ?_) | with_reducible refine bwt (fun h => ?_) (fun h => ?_) | with_reducible refine bwf (fun h => ?_) (fun h => ?_) | with_reducible refine bnt (fun h => ?_) (fun h => ?_) | with_reducible refine bcase (fun h => ?_) (fun h => ?_)) <;> (first | (exfalso; omega) | (conv => whnf)))
        (refine swd_start mixed rfl ?_; refine sgod_sound [] ?_; conv => whnf)
        repeat' ((first | with_reducible refine bdec (fun h => ?_) (fun h => ?_) | with_reducible refine bndec (fun h => ?_) (fun h => ?_) | with_reducible refine bwtd (fun h => ?_) (fun h => ?_) | with_reducible refine bwfd (fun h => ?_) (fun h => ?_) | with_reducible refine bwtn (fun h => ?_) (fun h => ?_) | with_reducible refine bwfn (fun h => ?_) (fun h => ?_) | with_reducible refine bwtb (fun h => ?_) (fun h => ?_) | with_reducible refine bwfb (fun h => ?_) (fun h => ?_) | with_reducible refine bwt (fun h => ?_) (fun h => ?_) | with_reducible refine bwf (fun h => ?_) (fun h => ?_) | with_reducible refine bnt (fun h => ?_) (fun h => ?_) | with_reducible refine bcase (fun h => ?_) (fun h => ?_)) <;> (first | (exfalso; omega) | (conv => whnf)))
        refine swd_index rfl rfl rfl rfl rfl rfl rfl  hm (row := x.cells) (by simp) ?_
        (refine sgod_sound [] ?_; conv => whnf)
        (refine sgo_sound [] 1000 ?_; conv => whnf)
        repeat' ((first | with_reducible refine bdec (fun h => ?_) (fun h => ?_) | with_reducible refine bndec (fun h => ?_) (fun h => ?_) | with_reducible refine bwtd (fun h => ?_) (fun h => ?_) | with_reducible refine bwfd (fun h => ?_) (fun h => ?_) | with_reducible refine bwtn (fun h => ?_) (fun h => ?_) | with_reducible refine bwfn (fun h => ?_) (fun h => ?_) | with_reducible refine bwtb (fun h => ?_) (fun h => ?_) | with_reducible refine bwfb (fun h => ?_) (fun h => ?_) | with_reducible refine bwt (fun h => ?_) (fun h => ?_) | with_reducible refine bwf (fun h => ?_) (fun h => ?_) | with_reducible refine bnt (fun h => ?_) (fun h => ?_) | with_reducible refine bcase (fun h => ?_) (fun h => ?_)) <;> (first | (exfalso; omega) | (conv => whnf)))
        (refine swe_start 1 mixed rfl ?_; refine sgoe_sound [] (nx := 3) ?_; conv => whnf)
        refine swe_callNew 3 rfl rfl rfl rfl rfl rfl (by simp) rfl (cloneFacts_spec G (l' ++ [x]) (by omega)) ?_
        (refine sgoe_sound [] (nx := 4) ?_; conv => whnf)
        refine swe_append rfl rfl rfl rfl rfl rfl rfl rfl rfl rfl ⟨by decide, rfl⟩ (by simp) rfl (by simp; omega) ?_
        (refine sgoe_sound [] (nx := 4) ?_; conv => whnf)
        refine sw_solid ?_
        (refine sgo_sound [] 1000 ?_; conv => whnf)
        have hst : (errSV (storeSV (l' ++ [x] ++ [f], (0 : Int)).1) (l' ++ [x] ++ [f], (0 : Int)).2) = errSV (.agg [.imm (.isl 7 ((l' ++ [x]).map Fact.cells ++ [f.cells]))]) 0 := by
          simp [errSV, storeSV, dFacts]
        rw [hst] at hK
        exact hK _
  · cases h1 : storeOK l with
    | false =>
      have hr : recordOf l f = ([], 1) := by rw [recordOf, if_pos (.inl h1)]
      rw [hr]
      refine spure_is ?_ (nilStore_is 1)
      refine spure_enter Tryz.func24 rfl (by rw [Tryz.ntmps24]; simp) rfl rfl ?_; intro E hH hK
      (refine sgo_sound [] 1000 ?_; conv => whnf)
      refine swr_pure rfl rfl rfl rfl rfl rfl  (factsValid_spec G l) ?_
      rw [h1]
      (refine sgor_sound [] 1000 ?_; conv => whnf)
      exact hK _
    | true =>
      cases h2 : formed f with
      | false =>
        have hr : recordOf l f = ([], 1) := by rw [recordOf, if_pos (.inr h2)]
        rw [hr]
        refine spure_is ?_ (nilStore_is 1)
        refine spure_enter Tryz.func24 rfl (by rw [Tryz.ntmps24]; simp) rfl rfl ?_; intro E hH hK
        (refine sgo_sound [] 1000 ?_; conv => whnf)
        refine swr_pure rfl rfl rfl rfl rfl rfl  (factsValid_spec G l) ?_
        rw [h1]
        (refine sgor_sound [] 1000 ?_; conv => whnf)
        refine swr_pure rfl rfl rfl rfl rfl rfl  (wellFormed_spec G f) ?_
        rw [h2]
        (refine sgor_sound [] 1000 ?_; conv => whnf)
        exact hK _
      | true =>
        have h3 : 400 ≤ l.length := by
          rcases Nat.lt_or_ge l.length 400 with h | h
          · exact absurd ⟨h1, h2, h⟩ h0
          · exact h
        have hr : recordOf l f = ([], 2) := by rw [recordOf, if_neg (by simp [h1, h2]), if_pos h3]
        rw [hr]
        refine spure_is ?_ (nilStore_is 2)
        refine spure_enter Tryz.func24 rfl (by rw [Tryz.ntmps24]; simp) rfl rfl ?_; intro E hH hK
        (refine sgo_sound [] 1000 ?_; conv => whnf)
        refine swr_pure rfl rfl rfl rfl rfl rfl  (factsValid_spec G l) ?_
        rw [h1]
        (refine sgor_sound [] 1000 ?_; conv => whnf)
        refine swr_pure rfl rfl rfl rfl rfl rfl  (wellFormed_spec G f) ?_
        rw [h2]
        (refine sgor_sound [] 1000 ?_; conv => whnf)
        repeat' ((first | with_reducible refine bdec (fun h => ?_) (fun h => ?_) | with_reducible refine bndec (fun h => ?_) (fun h => ?_) | with_reducible refine bwtd (fun h => ?_) (fun h => ?_) | with_reducible refine bwfd (fun h => ?_) (fun h => ?_) | with_reducible refine bwtn (fun h => ?_) (fun h => ?_) | with_reducible refine bwfn (fun h => ?_) (fun h => ?_) | with_reducible refine bwtb (fun h => ?_) (fun h => ?_) | with_reducible refine bwfb (fun h => ?_) (fun h => ?_) | with_reducible refine bwt (fun h => ?_) (fun h => ?_) | with_reducible refine bwf (fun h => ?_) (fun h => ?_) | with_reducible refine bnt (fun h => ?_) (fun h => ?_) | with_reducible refine bcase (fun h => ?_) (fun h => ?_)) <;> (first | (exfalso; omega) | (conv => whnf)))
        exact hK _
end Go.Proofs.YthmkdghoaifkbaaGreatDoor

/- The law ViewClocks: what it computes. -/
namespace Go.Proofs.YthmkdghoaifkbaaGreatDoor
open Go Go.Sh
set_option maxRecDepth 10000
set_option maxHeartbeats 4000000

theorem clocks_plain {c : Codex} {l : List Fact} {f : Fact} {a : Article} {p : ByteArray} {day k : Int} {V : View} (hv : viewAt c l p day k = (V, 0)) {t : List Fact} (ht : t = l ∨ (t = l ++ [f] ∧ k < f.known))
    {d : Codex} (hd : d = c ∨ (d = ⟨c.facts, c.lines, c.arts ++ [a]⟩ ∧ k < a.known)) (hval : validOK d t = true) : viewAt d t p day k = (V, 0) := by
  obtain ⟨h1, h2, h3⟩ := viewAt_ok (c := c) (l := l) (p := p) (day := day) (k := k) (by rw [hv])
  rw [h1] at hv
  cases hv
  obtain ⟨g1, g2, _⟩ := codexOf_valid hval
  have hk : dayOK k = true := by simp only [readerOK, Bool.and_eq_true] at h2; exact h2.2
  have hr : readerOK d t k = true := by simp only [readerOK, g1, g2, hk, Bool.and_self]
  rw [viewAt, if_pos (by rw [hr, h3]; rfl)]
  have e1 : viewOf d t p k day = viewOf d l p k day := by
    rcases ht with rfl | ⟨rfl, h⟩
    · rfl
    · exact later_fact_view d p k day l f h
  rw [e1]
  rcases hd with rfl | ⟨rfl, h⟩
  · rfl
  · rw [later_art_view _ _ _ _ _ _ _ _ h]

theorem recordOf_two (l : List Fact) (f : Fact) : (recordOf l f).2 ≠ 0 ∨ recordOf l f = (l ++ [f], 0) := by
  unfold recordOf
  split
  · exact .inl (by simp)
  · split
    · exact .inl (by simp)
    · split
      · exact .inl (by simp)
      · exact .inr rfl

theorem early_at {c : Codex} {l : List Fact} {p : ByteArray} {day k : Int} (h : storeOK l = true) : viewAt c (earlyFacts k l) p day k = viewAt c l p day k := by
  have hso : storeOK (earlyFacts k l) = true := storeOK_sub _ h
  simp only [viewAt, readerOK, hso, h, early_view]
theorem codexOK_arts {c : Codex} (h : codexOK c = true) : c.arts.length ≤ 100000 := by
  simp only [codexOK, Bool.and_eq_true, decide_eq_true_eq] at h
  obtain ⟨⟨⟨⟨⟨h1, _⟩, h2⟩, _⟩, _⟩, _⟩ := h
  omega

theorem viewClocksLaw_spec (c : Codex) (l : List Fact) (f : Fact) (a : Article) (p : ByteArray) (day k : Int) (hc : Codex.ok c) (hl : storeGo l) (hf : Fact.ok f) (hao : Article.ok a) :
    SPure Tryz.prog G0 8 [c.sv, storeSV l, .agg (f.cells.map .imm), .agg (a.cells.map .imm), sS p, sI day, sI k] (sB true) := by
  refine spure_enter Tryz.func8 rfl (by rw [Tryz.ntmps8]; simp) rfl rfl ?_; intro E hH hK
  have hll : (l.map Fact.cells).length = l.length := by simp
  (refine sgo_sound [] 1000 ?_; conv => whnf)
  refine swr_pure rfl rfl rfl rfl rfl rfl  head_spec ?_
  (refine sgor_sound [] 1000 ?_; conv => whnf)
  refine swr_pure rfl rfl rfl rfl rfl rfl  (lawValid_spec G0 c l (storeFit hl)) ?_
  cases hval : validOK c l with
  | false =>
    (refine sgor_sound [] 1000 ?_; conv => whnf)
    exact hK _
  | true =>
    obtain ⟨hcx, hst, hsm⟩ := codexOf_valid hval
    have hlen : l.length ≤ 400 := by simp [storeOK] at hst; exact hst.1
    have hclen := codexOK_arts hcx
    have c1 := viewAt_spec G0 c l p day k (codexFit hc)
    rcases viewAt_two c l p day k with he | he
    · obtain ⟨hv, hr, hd⟩ := viewAt_ok he
      have hfitV : (viewOf c l p k day).fit := viewOf_fit hr day
      rw [hv] at c1
      generalize viewOf c l p k day = V at hv c1 hfitV
      dsimp only at c1
      have heq : V.same' V = true := by simp [View.same', View.same]
      have hE := refEqual13_spec G0 V V hfitV
      rw [heq] at hE
      (refine sgor_sound [] 1000 ?_; conv => whnf)
      refine swr_pure rfl rfl rfl rfl rfl rfl  c1 ?_
      (refine sgor_sound [] 1000 ?_; conv => whnf)
      refine sw_keep [4, 5, 6, 7, 8, 9, 10, 15, 16, 18, 48, 49, 50] ?_
      refine sw_tokCell 5 0 7 rfl rfl ?_
      refine sw_each l (fun i (_ : List Fact) => [(4, sS p), (5, sI day), (6, sI k), (7, .ptr 0 0), (8, .ptr 1 0), (9, .ptr 2 0), (10, .ptr 3 0), (15, sB true), (16, .ptr 4 0), (18, .ptr 5 0), (48, .imm (dFacts l)), (49, sI (l.map Fact.cells).length), (50, sI i)])
        (fun _ d => [.cells [.imm (dDecls c.facts), .imm (dDecls c.lines), .imm (dArts c.arts)], .cells [.imm (dFacts l)], .cells (f.cells.map .imm), .cells (a.cells.map .imm), .cells (View.cs V), .cells [.asl 6 7 ((earlyFacts k d).map Fact.cells)], .tok 7 ((earlyFacts k d).map Fact.cells).length])
        (fun done _ d => d = done) [] rfl ?_ ?_
      · as_aux_lemma =>
          rintro d rfl
          have c2 := viewAt_spec G0 c (earlyFacts k d) p day k (codexFit hc)
          rw [early_at hst, hv] at c2
          dsimp only at c2
          have hlf : storeGo (d ++ [f]) := ⟨by simp; omega, fun x hx => by
            rcases List.mem_append.1 hx with h | h
            · exact hl.fact x h
            · simp at h; rw [h]; exact hf⟩
          have hca : Codex.ok ⟨c.facts, c.lines, c.arts ++ [a]⟩ := ⟨hc.facts, hc.fact, hc.lines, hc.line, by simp; omega, fun x hx => by
            rcases List.mem_append.1 hx with h | h
            · exact hc.art x h
            · simp at h; rw [h]; exact hao⟩
          have harts : (c.arts ++ [a]).map Article.cells = c.arts.map Article.cells ++ [a.cells] := by simp
          refine sw_solid ?_
          (refine sgo_sound [] 1000 ?_; conv => whnf)
          repeat' ((first | with_reducible refine bdec (fun h => ?_) (fun h => ?_) | with_reducible refine bndec (fun h => ?_) (fun h => ?_) | with_reducible refine bwtd (fun h => ?_) (fun h => ?_) | with_reducible refine bwfd (fun h => ?_) (fun h => ?_) | with_reducible refine bwtn (fun h => ?_) (fun h => ?_) | with_reducible refine bwfn (fun h => ?_) (fun h => ?_) | with_reducible refine bwtb (fun h => ?_) (fun h => ?_) | with_reducible refine bwfb (fun h => ?_) (fun h => ?_) | with_reducible refine bwt (fun h => ?_) (fun h => ?_) | with_reducible refine bwf (fun h => ?_) (fun h => ?_) | with_reducible refine bnt (fun h => ?_) (fun h => ?_) | with_reducible refine bcase (fun h => ?_) (fun h => ?_)) <;> (first | (exfalso; omega) | (conv => whnf)))
          refine swr_pure rfl rfl rfl rfl rfl rfl  c2 ?_
          (refine sgor_sound [] 1000 ?_; conv => whnf)
          refine swr_pure rfl rfl rfl rfl rfl rfl  hE ?_
          (refine sgor_sound [] 1000 ?_; conv => whnf)
          rcases recordOf_two d f with hrec | hrec
          · have hR := record_spec G0 d f
            generalize recordOf d f = rr at hR hrec
            obtain ⟨rs, re⟩ := rr
            dsimp only at hR hrec
            refine swr_pure rfl rfl rfl rfl rfl rfl  hR ?_
            (refine sgor_sound [] 1000 ?_; conv => whnf)
            repeat' ((first | with_reducible refine bdec (fun h => ?_) (fun h => ?_) | with_reducible refine bndec (fun h => ?_) (fun h => ?_) | with_reducible refine bwtd (fun h => ?_) (fun h => ?_) | with_reducible refine bwfd (fun h => ?_) (fun h => ?_) | with_reducible refine bwtn (fun h => ?_) (fun h => ?_) | with_reducible refine bwfn (fun h => ?_) (fun h => ?_) | with_reducible refine bwtb (fun h => ?_) (fun h => ?_) | with_reducible refine bwfb (fun h => ?_) (fun h => ?_) | with_reducible refine bwt (fun h => ?_) (fun h => ?_) | with_reducible refine bwf (fun h => ?_) (fun h => ?_) | with_reducible refine bnt (fun h => ?_) (fun h => ?_) | with_reducible refine bcase (fun h => ?_) (fun h => ?_)) <;> (first | (exfalso; omega) | (conv => whnf)))
            · (refine swe_start 1 mixed rfl ?_; refine sgoe_sound [] (nx := 10) ?_; conv => whnf)
              refine swe_lit0 10 rfl rfl rfl rfl rfl rfl (by decide) (by simp) rfl ?_
              (refine sgoe_sound [] (nx := 11) ?_; conv => whnf)
              refine swe_append rfl rfl rfl rfl rfl rfl rfl rfl rfl rfl ⟨by decide, rfl⟩ (by simp) rfl (by simp; omega) ?_
              (refine sgoe_sound [] (nx := 11) ?_; conv => whnf)
              refine swe_append (new := [a.cells]) rfl rfl rfl rfl rfl rfl rfl rfl rfl rfl ⟨by decide, rfl⟩ (by simp) rfl (by simp; omega) ?_
              (refine sgoe_sound [] (nx := 11) ?_; conv => whnf)
              refine sw_solid ?_
              (refine sgo_sound [] 1000 ?_; conv => whnf)
              rw [List.nil_append, ← harts]
              refine swr_pure rfl rfl rfl rfl rfl rfl  (lawValid_spec G0 ⟨c.facts, c.lines, c.arts ++ [a]⟩ d (by exact storeFit hl)) ?_
              cases hv2 : validOK ⟨c.facts, c.lines, c.arts ++ [a]⟩ d with
              | false =>
                (refine sgor_sound [] 1000 ?_; conv => whnf)
                exact hK _
              | true =>
                have c3 := viewAt_spec G0 ⟨c.facts, c.lines, c.arts ++ [a]⟩ d p day k (codexFit hca)
                rw [clocks_plain (f := f) (a := a) hv (.inl rfl) (.inr ⟨rfl, by omega⟩) hv2] at c3
                dsimp only at c3
                (refine sgor_sound [] 1000 ?_; conv => whnf)
                refine swr_pure rfl rfl rfl rfl rfl rfl  c3 ?_
                (refine sgor_sound [] 1000 ?_; conv => whnf)
                refine swr_pure rfl rfl rfl rfl rfl rfl  hE ?_
                (refine sgor_sound [] 1000 ?_; conv => whnf)
                exact hK _
            · refine swr_pure rfl rfl rfl rfl rfl rfl  (lawValid_spec G0 c d (by exact storeFit hl)) ?_
              cases hv2 : validOK c d with
              | false =>
                (refine sgor_sound [] 1000 ?_; conv => whnf)
                exact hK _
              | true =>
                have c3 := viewAt_spec G0 c d p day k (codexFit hc)
                rw [clocks_plain (f := f) (a := a) hv (.inl rfl) (.inl rfl) hv2] at c3
                dsimp only at c3
                (refine sgor_sound [] 1000 ?_; conv => whnf)
                refine swr_pure rfl rfl rfl rfl rfl rfl  c3 ?_
                (refine sgor_sound [] 1000 ?_; conv => whnf)
                refine swr_pure rfl rfl rfl rfl rfl rfl  hE ?_
                (refine sgor_sound [] 1000 ?_; conv => whnf)
                exact hK _
          · have hR := record_spec G0 d f
            rw [hrec] at hR
            dsimp only at hR
            refine swr_pure rfl rfl rfl rfl rfl rfl  hR ?_
            (refine sgor_sound [] 1000 ?_; conv => whnf)
            repeat' ((first | with_reducible refine bdec (fun h => ?_) (fun h => ?_) | with_reducible refine bndec (fun h => ?_) (fun h => ?_) | with_reducible refine bwtd (fun h => ?_) (fun h => ?_) | with_reducible refine bwfd (fun h => ?_) (fun h => ?_) | with_reducible refine bwtn (fun h => ?_) (fun h => ?_) | with_reducible refine bwfn (fun h => ?_) (fun h => ?_) | with_reducible refine bwtb (fun h => ?_) (fun h => ?_) | with_reducible refine bwfb (fun h => ?_) (fun h => ?_) | with_reducible refine bwt (fun h => ?_) (fun h => ?_) | with_reducible refine bwf (fun h => ?_) (fun h => ?_) | with_reducible refine bnt (fun h => ?_) (fun h => ?_) | with_reducible refine bcase (fun h => ?_) (fun h => ?_)) <;> (conv => whnf))
            · (refine swe_start 1 mixed rfl ?_; refine sgoe_sound [] (nx := 10) ?_; conv => whnf)
              refine swe_lit0 10 rfl rfl rfl rfl rfl rfl (by decide) (by simp) rfl ?_
              (refine sgoe_sound [] (nx := 11) ?_; conv => whnf)
              refine swe_append rfl rfl rfl rfl rfl rfl rfl rfl rfl rfl ⟨by decide, rfl⟩ (by simp) rfl (by simp; omega) ?_
              (refine sgoe_sound [] (nx := 11) ?_; conv => whnf)
              refine swe_append (new := [a.cells]) rfl rfl rfl rfl rfl rfl rfl rfl rfl rfl ⟨by decide, rfl⟩ (by simp) rfl (by simp; omega) ?_
              (refine sgoe_sound [] (nx := 11) ?_; conv => whnf)
              refine sw_solid ?_
              (refine sgo_sound [] 1000 ?_; conv => whnf)
              rw [List.nil_append, ← harts]
              refine swr_pure rfl rfl rfl rfl rfl rfl  (lawValid_spec G0 ⟨c.facts, c.lines, c.arts ++ [a]⟩ d (by exact storeFit hl)) ?_
              cases hv2 : validOK ⟨c.facts, c.lines, c.arts ++ [a]⟩ d with
              | false =>
                (refine sgor_sound [] 1000 ?_; conv => whnf)
                exact hK _
              | true =>
                have c3 := viewAt_spec G0 ⟨c.facts, c.lines, c.arts ++ [a]⟩ d p day k (codexFit hca)
                rw [clocks_plain (f := f) (a := a) hv (.inl rfl) (.inr ⟨rfl, by omega⟩) hv2] at c3
                dsimp only at c3
                (refine sgor_sound [] 1000 ?_; conv => whnf)
                refine swr_pure rfl rfl rfl rfl rfl rfl  c3 ?_
                (refine sgor_sound [] 1000 ?_; conv => whnf)
                refine swr_pure rfl rfl rfl rfl rfl rfl  hE ?_
                (refine sgor_sound [] 1000 ?_; conv => whnf)
                exact hK _
            · refine swr_pure rfl rfl rfl rfl rfl rfl  (lawValid_spec G0 c d (by exact storeFit hl)) ?_
              cases hv2 : validOK c d with
              | false =>
                (refine sgor_sound [] 1000 ?_; conv => whnf)
                exact hK _
              | true =>
                have c3 := viewAt_spec G0 c d p day k (codexFit hc)
                rw [clocks_plain (f := f) (a := a) hv (.inl rfl) (.inl rfl) hv2] at c3
                dsimp only at c3
                (refine sgor_sound [] 1000 ?_; conv => whnf)
                refine swr_pure rfl rfl rfl rfl rfl rfl  c3 ?_
                (refine sgor_sound [] 1000 ?_; conv => whnf)
                refine swr_pure rfl rfl rfl rfl rfl rfl  hE ?_
                (refine sgor_sound [] 1000 ?_; conv => whnf)
                exact hK _
            · (refine swe_start 1 mixed rfl ?_; refine sgoe_sound [] (nx := 10) ?_; conv => whnf)
              refine swe_lit0 10 rfl rfl rfl rfl rfl rfl (by decide) (by simp) rfl ?_
              (refine sgoe_sound [] (nx := 11) ?_; conv => whnf)
              refine swe_append rfl rfl rfl rfl rfl rfl rfl rfl rfl rfl ⟨by decide, rfl⟩ (by simp) rfl (by simp; omega) ?_
              (refine sgoe_sound [] (nx := 11) ?_; conv => whnf)
              refine swe_append (new := [a.cells]) rfl rfl rfl rfl rfl rfl rfl rfl rfl rfl ⟨by decide, rfl⟩ (by simp) rfl (by simp; omega) ?_
              (refine sgoe_sound [] (nx := 11) ?_; conv => whnf)
              refine sw_solid ?_
              (refine sgo_sound [] 1000 ?_; conv => whnf)
              rw [List.nil_append, ← harts]
              refine swr_pure rfl rfl rfl rfl rfl rfl  (lawValid_spec G0 ⟨c.facts, c.lines, c.arts ++ [a]⟩ (d ++ [f]) (by exact storeFit hlf)) ?_
              cases hv2 : validOK ⟨c.facts, c.lines, c.arts ++ [a]⟩ (d ++ [f]) with
              | false =>
                (refine sgor_sound [] 1000 ?_; conv => whnf)
                exact hK _
              | true =>
                have c3 := viewAt_spec G0 ⟨c.facts, c.lines, c.arts ++ [a]⟩ (d ++ [f]) p day k (codexFit hca)
                rw [clocks_plain (f := f) (a := a) hv (.inr ⟨rfl, by omega⟩) (.inr ⟨rfl, by omega⟩) hv2] at c3
                dsimp only at c3
                (refine sgor_sound [] 1000 ?_; conv => whnf)
                refine swr_pure rfl rfl rfl rfl rfl rfl  c3 ?_
                (refine sgor_sound [] 1000 ?_; conv => whnf)
                refine swr_pure rfl rfl rfl rfl rfl rfl  hE ?_
                (refine sgor_sound [] 1000 ?_; conv => whnf)
                exact hK _
            · refine swr_pure rfl rfl rfl rfl rfl rfl  (lawValid_spec G0 c (d ++ [f]) (by exact storeFit hlf)) ?_
              cases hv2 : validOK c (d ++ [f]) with
              | false =>
                (refine sgor_sound [] 1000 ?_; conv => whnf)
                exact hK _
              | true =>
                have c3 := viewAt_spec G0 c (d ++ [f]) p day k (codexFit hc)
                rw [clocks_plain (f := f) (a := a) hv (.inr ⟨rfl, by omega⟩) (.inl rfl) hv2] at c3
                dsimp only at c3
                (refine sgor_sound [] 1000 ?_; conv => whnf)
                refine swr_pure rfl rfl rfl rfl rfl rfl  c3 ?_
                (refine sgor_sound [] 1000 ?_; conv => whnf)
                refine swr_pure rfl rfl rfl rfl rfl rfl  hE ?_
                (refine sgor_sound [] 1000 ?_; conv => whnf)
                exact hK _
      · as_aux_lemma =>
          rintro done x rest d ha hl2 rfl ih
          have hw := wrap_succ (n := d.length) (by omega)
          have hown : earlyFacts k (d ++ [x]) = earlyFacts k d ++ (if x.known ≤ k then [x] else []) := by
            simp only [earlyFacts, List.filter_append]
            by_cases h : x.known ≤ k <;> simp [h]
          have hol : (earlyFacts k d).length ≤ d.length := List.length_filter_le _ _
          (refine sgo_sound [] 1000 ?_; conv => whnf)
          repeat' ((first | with_reducible refine bdec (fun h => ?_) (fun h => ?_) | with_reducible refine bndec (fun h => ?_) (fun h => ?_) | with_reducible refine bwtd (fun h => ?_) (fun h => ?_) | with_reducible refine bwfd (fun h => ?_) (fun h => ?_) | with_reducible refine bwtn (fun h => ?_) (fun h => ?_) | with_reducible refine bwfn (fun h => ?_) (fun h => ?_) | with_reducible refine bwtb (fun h => ?_) (fun h => ?_) | with_reducible refine bwfb (fun h => ?_) (fun h => ?_) | with_reducible refine bwt (fun h => ?_) (fun h => ?_) | with_reducible refine bwf (fun h => ?_) (fun h => ?_) | with_reducible refine bnt (fun h => ?_) (fun h => ?_) | with_reducible refine bcase (fun h => ?_) (fun h => ?_)) <;> (first | (exfalso; omega) | (conv => whnf)))
          refine swr_index rfl rfl rfl rfl rfl rfl rfl rfl  (row := x.cells) (by simp [ha]) ?_
          (refine sgor_sound [] 1000 ?_; conv => whnf)
          repeat' ((first | with_reducible refine bdec (fun h => ?_) (fun h => ?_) | with_reducible refine bndec (fun h => ?_) (fun h => ?_) | with_reducible refine bwtd (fun h => ?_) (fun h => ?_) | with_reducible refine bwfd (fun h => ?_) (fun h => ?_) | with_reducible refine bwtn (fun h => ?_) (fun h => ?_) | with_reducible refine bwfn (fun h => ?_) (fun h => ?_) | with_reducible refine bwtb (fun h => ?_) (fun h => ?_) | with_reducible refine bwfb (fun h => ?_) (fun h => ?_) | with_reducible refine bwt (fun h => ?_) (fun h => ?_) | with_reducible refine bwf (fun h => ?_) (fun h => ?_) | with_reducible refine bnt (fun h => ?_) (fun h => ?_) | with_reducible refine bcase (fun h => ?_) (fun h => ?_)) <;> (conv => whnf))
          · rw [if_pos h] at hown
            refine swr_append rfl rfl rfl rfl rfl rfl rfl rfl rfl rfl ⟨by decide, rfl⟩ (by simp) (by simp; omega) ?_
            (refine sgor_sound [] 1000 ?_; conv => whnf)
            rw [hw]
            refine sw_kc [4, 5, 6, 7, 8, 9, 10, 15, 16, 18, 48, 49, 50] 7 (by simp [hH]) (by simp) rfl rfl ?_
            have := ih (d ++ [x]) rfl
            rw [hown] at this
            simp only [List.map_append, List.length_append] at this
            exact this
          · rw [if_neg h, List.append_nil] at hown
            rw [hw]
            refine sw_kc [4, 5, 6, 7, 8, 9, 10, 15, 16, 18, 48, 49, 50] 7 (by simp [hH]) (by simp) rfl rfl ?_
            have := ih (d ++ [x]) rfl
            rw [hown] at this
            exact this
    · generalize viewAt c l p day k = r at he c1
      obtain ⟨v, e⟩ := r
      dsimp only at he c1
      subst he
      (refine sgor_sound [] 1000 ?_; conv => whnf)
      refine swr_pure rfl rfl rfl rfl rfl rfl  c1 ?_
      (refine sgor_sound [] 1000 ?_; conv => whnf)
      exact hK _
end Go.Proofs.YthmkdghoaifkbaaGreatDoor
