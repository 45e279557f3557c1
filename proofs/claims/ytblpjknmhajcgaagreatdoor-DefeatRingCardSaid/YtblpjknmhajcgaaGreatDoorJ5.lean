/- Contracts of functions of the program, joined from TKl, TSh44, TKm, TKn, TKt, TBc, TBd, TKu, TKv, TKw, TBe, TPa: no condition. -/
import Derived.Test.YtblpjknmhajcgaaGreatDoorJ4
set_option linter.unusedSimpArgs false
set_option linter.unusedVariables false
/- The search: assignments (contract). -/
namespace Go.Proofs.YtblpjknmhajcgaaGreatDoor
open Go Go.Sh
set_option maxRecDepth 10000
set_option maxHeartbeats 4000000
variable (G : List (Nat × D))

/-- the search's maps -/
structure MapsOK (Y : Nat → SObj) (m : List (Int × List Int)) : Prop where
  out : Y 1 = .mapI .i64 (encM (fun n : Nat => SV.map n) (m.map fun e => (e.1, 3 + e.1.toNat)))
  rng : ∀ e ∈ m, 0 ≤ e.1 ∧ e.1 < 12
  inn : ∀ e ∈ m, Y (3 + e.1.toNat) = .mapI .i64 (encM sB (e.2.map fun v => (v, true)))
  nd : (m.map (·.1)).Nodup
  sz : ∀ e ∈ m, e.2.length ≤ 1000000000
theorem alook_mem {α : Type} {k : Int} {v : α} : ∀ {l : List (Int × α)}, (l.map (·.1)).Nodup → (k, v) ∈ l → alook k l = some v
  | [], _, h => by cases h
  | (k', v') :: l, hn, h => by
    simp only [List.map_cons, List.nodup_cons] at hn
    simp only [alook]
    rcases List.mem_cons.1 h with h | h
    · cases h; simp
    · have : ¬ k = k' := fun e => hn.1 (e ▸ List.mem_map.2 ⟨(k, v), h, rfl⟩)
      simp [this]
      exact alook_mem hn.2 h
theorem alook_some {α : Type} {k : Int} {v : α} : ∀ {l : List (Int × α)}, alook k l = some v → (k, v) ∈ l
  | [], h => by simp [alook] at h
  | (k', v') :: l, h => by
    simp only [alook] at h
    split at h
    · rename_i e
      simp only [beq_iff_eq] at e
      cases h; subst e; simp
    · exact List.mem_cons_of_mem _ (alook_some h)
theorem wh_get {X : Nat → SObj} {s : St} {i : Nat} (h : i < 21) (Z : List SObj) : (WH X s ++ Z)[i]? = some (X i) := by
  have : i = 0 ∨ i = 1 ∨ i = 2 ∨ i = 3 ∨ i = 4 ∨ i = 5 ∨ i = 6 ∨ i = 7 ∨ i = 8 ∨ i = 9 ∨ i = 10 ∨ i = 11 ∨ i = 12 ∨ i = 13 ∨ i = 14 ∨ i = 15 ∨ i = 16 ∨ i = 17 ∨ i = 18 ∨ i = 19 ∨ i = 20 := by omega
  rcases this with rfl | rfl | rfl | rfl | rfl | rfl | rfl | rfl | rfl | rfl | rfl | rfl | rfl | rfl | rfl | rfl | rfl | rfl | rfl | rfl | rfl <;> rfl

/-- the heap while the choices are made -/
def WB (X : Nat → SObj) (s : St) (F : List Int) (cs : List SV) (n : Nat) : List SObj :=
  WH X s ++ [X 24, X 25, .cells [.ptr 2 0], .cells [.ptr 23 0], .cells [.map 1], .cells [.imm (dInts F)], .cells cs, .cells [.osl 30 0 n]]
abbrev chS (m : List (Int × List Int)) (f : Int) : SV := .imm (dInts (sortI ((alook f m).getD [])))
theorem WB_under {X : Nat → SObj} (hX : ∀ i, (X i).under 24 = true) (s : St) (F : List Int) {cs : List SV} (n : Nat) {N : Nat} (hN : 32 ≤ N) (hcs : SV.under.allUnder N cs = true) : (WB X s F cs n).all (SObj.under N) = true := by
  unfold WB
  rw [List.all_append, allObj_mono (m := 24) (by omega) (WH_under hX s)]
  simp only [List.all_cons, List.all_nil, SObj.under_mono (m := 24) (n := N) (by omega) _ (hX _), Bool.and_true, Bool.true_and, cellsU, hcs, SV.under.allUnder, SV.under, Bool.and_eq_true, decide_eq_true_eq]
  omega

theorem assignments_spec {Y : Nat → SObj} (hY : ∀ i, (Y i).under 24 = true) (c : Codex) (vers : List Int) (q : Sr) (s : St) (hM : MapsOK Y q.cands) (hsz : q.cands.length ≤ 1000000) :
    SCall Tryz.prog G 71 [.ptr 2 0, .ptr 23 0] (WH (XS Y (srCells c vers q)) s ++ [XS Y (srCells c vers q) 24, XS Y (srCells c vers q) 25])
      (fun r H' => r = .fn (.func 104) [] [.ptr 26 0, .ptr 27 0, .ptr 29 0, .ptr 31 0] ∧ 32 ≤ H'.length ∧
        H'.take 32 = WB (XS Y (srCells c vers q)) s ((choicesOf q.cands).map (·.1)) ((choicesOf q.cands).map fun e => .imm (dInts e.2)) (choicesOf q.cands).length) := by
  have hX := XS_under hY c vers q
  have hX1 : XS Y (srCells c vers q) 1 = .mapI .i64 (encM (fun n : Nat => SV.map n) (q.cands.map fun e => (e.1, 3 + e.1.toNat))) := hM.out
  have hXf : ∀ e ∈ q.cands, XS Y (srCells c vers q) (3 + e.1.toNat) = .mapI .i64 (encM sB (e.2.map fun v => (v, true))) := fun e he => by
    unfold XS
    rw [if_neg (by omega)]
    exact hM.inn e he
  have hkeys : (encM (fun n : Nat => SV.map n) (q.cands.map fun e => (e.1, 3 + e.1.toNat))).map (·.1) = q.cands.map (·.1) := by simp [encM]
  have hF : (choicesOf q.cands).map (·.1) = sortI (q.cands.map (·.1)) := by unfold choicesOf; rw [List.map_map]; exact List.map_id _
  have hC : (choicesOf q.cands).map (fun e => SV.imm (dInts e.2)) = (sortI (q.cands.map (·.1))).map (chS q.cands) := by simp [choicesOf]
  have hCl : (choicesOf q.cands).length = (sortI (q.cands.map (·.1))).length := by simp [choicesOf]
  rw [hF, hC, hCl]
  have hFm : ∀ f ∈ sortI (q.cands.map (·.1)), ∃ vals, (f, vals) ∈ q.cands := fun f hf => by
    have := (List.mergeSort_perm (q.cands.map (·.1)) fun x y => decide (x ≤ y)).mem_iff.1 hf
    obtain ⟨e, he, rfl⟩ := List.mem_map.1 this
    exact ⟨e.2, he⟩
  have hFl : (sortI (q.cands.map (·.1))).length = q.cands.length := by simp
  generalize hXX : XS Y (srCells c vers q) = X at hX hX1 hXf ⊢
  refine scall_enter Tryz.func71 rfl (by rw [Tryz.ntmps71]; simp) ?_
  intro E hH hK
  have hX2 : X 2 = .cells (srCells c vers q) := by rw [← hXX]; rfl
  (refine sgo_sound [777, 12] 1000 ?_; conv => whnf)
  refine swr_loadAt (v := .map 1) (cs := srCells c vers q) rfl rfl rfl rfl (by show some (X 2) = _; rw [hX2]) rfl ?_
  refine swr_callFn rfl rfl rfl rfl rfl rfl (keysM_new G 1) ?_
  refine Eq.mpr (congrArg (fun h => SWr E _ _ _ _ h) (show _ = WH X s ++ [X 24, X 25, .cells [.ptr 2 0], .cells [.ptr 23 0], .cells [.map 1]] from rfl)) ?_
  have hu29 : (WH X s ++ [X 24, X 25, SObj.cells [.ptr 2 0], .cells [.ptr 23 0], .cells [.map 1]]).all (SObj.under 29) = true := by
    rw [List.all_append, allObj_mono (m := 24) (by omega) (WH_under hX s)]
    simp only [List.all_cons, List.all_nil, SObj.under_mono (m := 24) (n := 29) (by omega) _ (hX _), Bool.and_true, Bool.true_and]
    rfl
  refine swr_call rfl rfl rfl rfl rfl rfl ((sortedM_spec G (m := 1) (b := 28) (es := encM (fun n : Nat => SV.map n) (q.cands.map fun e => (e.1, 3 + e.1.toNat))) rfl (by show some (X 1) = _; rw [hX1]) (by decide) hu29 (by simp [encM]; omega)).mono ?_)
  rintro r H' ⟨rfl, rfl⟩
  refine ⟨Nat.le_refl _, ?_⟩
  rw [hkeys]
  generalize sortI (q.cands.map (·.1)) = F at hK hFm hFl ⊢
  have hFll : (F.map fun n => [dI n]).length = F.length := by simp
  (refine sgor_sound [777] 1000 ?_; conv => whnf)
  refine swr_mk (n := F.length) (zz := nilV) rfl rfl rfl rfl rfl rfl rfl rfl rfl ⟨by decide, rfl⟩ rfl (by rw [hFll]) (by rw [hFll]) (by omega) ?_
  (refine sgor_sound [777] 1000 ?_; conv => whnf)
  refine sw_keep [2, 3, 5, 6, 18, 19, 20] ?_
  refine Eq.mpr (congrArg (fun h => SW E _ _ h) (show _ = WB X s F (([] : List Int).map (chS q.cands) ++ List.replicate F.length nilV) F.length from rfl)) ?_
  refine sw_each F (fun i (_ : List Int × Nat) => [(2, .ptr 26 0), (3, .ptr 27 0), (5, .ptr 29 0), (6, .ptr 31 0), (18, .imm (dInts F)), (19, sI (F.map fun n => [dI n]).length), (20, sI i)])
    (fun _ d => WB X s F (d.1.map (chS q.cands) ++ List.replicate d.2 nilV) F.length) (fun done rest d => d = (done, rest.length)) ([], F.length) rfl ?_ ?_
  · rintro _ rfl
    (refine sgo_sound [777] 1000 ?_; conv => whnf)
    repeat' ((with_reducible first | refine bdec (fun h => ?_) (fun h => ?_) | refine bndec (fun h => ?_) (fun h => ?_) | refine bwtd (fun h => ?_) (fun h => ?_) | refine bwfd (fun h => ?_) (fun h => ?_) | refine bwtn (fun h => ?_) (fun h => ?_) | refine bwfn (fun h => ?_) (fun h => ?_) | refine bwtb (fun h => ?_) (fun h => ?_) | refine bwfb (fun h => ?_) (fun h => ?_) | refine bwt (fun h => ?_) (fun h => ?_) | refine bwf (fun h => ?_) (fun h => ?_) | refine bnt (fun h => ?_) (fun h => ?_) | refine bcase (fun h => ?_) (fun h => ?_)) <;> (conv => whnf))
    all_goals try (exfalso; omega)
    refine hK _ _ ⟨rfl, Nat.le_refl _, ?_⟩
    show WB X s F (F.map (chS q.cands) ++ []) F.length = _
    rw [List.append_nil]
  · rintro done f rest _ ha hlen rfl ih
    have hw := wrap_succ (n := done.length) (by omega)
    have hrow : (F.map fun n => [dI n])[((done.length : Nat) : Int).toNat]? = some [dI f] := by simp [ha]
    obtain ⟨vals, hvm⟩ := hFm f (by rw [ha]; simp)
    have hfr := hM.rng _ hvm
    have hXv := hXf _ hvm
    simp only at hfr hXv
    have hal : alook f q.cands = some vals := alook_mem hM.nd hvm
    (refine sgo_sound [777] 1000 ?_; conv => whnf)
    repeat' ((with_reducible first | refine bdec (fun h => ?_) (fun h => ?_) | refine bndec (fun h => ?_) (fun h => ?_) | refine bwtd (fun h => ?_) (fun h => ?_) | refine bwfd (fun h => ?_) (fun h => ?_) | refine bwtn (fun h => ?_) (fun h => ?_) | refine bwfn (fun h => ?_) (fun h => ?_) | refine bwtb (fun h => ?_) (fun h => ?_) | refine bwfb (fun h => ?_) (fun h => ?_) | refine bwt (fun h => ?_) (fun h => ?_) | refine bwf (fun h => ?_) (fun h => ?_) | refine bnt (fun h => ?_) (fun h => ?_) | refine bcase (fun h => ?_) (fun h => ?_)) <;> (conv => whnf))
    all_goals try (exfalso; omega)
    refine swr_index rfl rfl rfl rfl rfl rfl rfl rfl  hrow ?_
    (refine sgor_sound [777] 1000 ?_; conv => whnf)
    (refine swe_start 1 mixed rfl ?_; refine sgoe_sound [777, 30, 999] (nx := 32) ?_; conv => whnf)
    refine swe_loadAt (v := .map 1) (cs := srCells c vers q) rfl rfl rfl (by simp [setw_length, WB, WH]) rfl (by show some (X 2) = _; rw [hX2]) rfl ?_
    (refine sgoe_sound [777, 999] (nx := 32) ?_; conv => whnf)
    have hlk : ((alook f (q.cands.map fun e => (e.1, 3 + e.1.toNat))).map fun n : Nat => SV.map n).getD (ofWhole (.map none)) = .map (3 + f.toNat) := by
      have : alook f (q.cands.map fun e => (e.1, 3 + e.1.toNat)) = some (3 + f.toNat) := alook_mem (by rw [List.map_map]; exact hM.nd) (List.mem_map.2 ⟨_, hvm, rfl⟩)
      rw [this]
      rfl
    refine swe_lookI (b := 1) (l := q.cands.map fun e => (e.1, 3 + e.1.toNat)) (fun n : Nat => SV.map n) rfl rfl rfl rfl rfl rfl rfl rfl (by simp [setw_length, WB, WH]) (by show some (X 1) = _; rw [hX1]) hlk ?_
    refine swe_callFn 32 rfl rfl rfl rfl rfl rfl (Nat.le_refl 32) rfl (by show (decide (3 + f.toNat < 33) && true) = true; simp; omega) (keysB_new G (3 + f.toNat)) ?_
    have huK : (WB X s F (done.map (chS q.cands) ++ List.replicate (rest.length + 1) nilV) F.length ++ [SObj.cells [.map (3 + f.toNat)]]).all (SObj.under 33) = true := by
      rw [List.all_append, WB_under hX s F F.length (by omega) (allU_append _ _ _ (allU_map (f := chS q.cands) (fun _ => rfl) _) (under_rep 33 (zz := nilV) rfl _))]
      show (decide (3 + f.toNat < 33) && true && true) = true
      simp
      omega
    have hes : (encM sB (vals.map fun v => (v, true))).map (·.1) = vals := by
      simp only [encM, List.map_map]
      exact List.map_id _
    have hvz := hM.sz _ hvm
    simp only at hvz
    have hsp : SPre Tryz.prog G 101 [.fn (.func 142) [] [.ptr 32 0]] (WB X s F (done.map (chS q.cands) ++ List.replicate (rest.length + 1) nilV) F.length ++ [SObj.cells [.map (3 + f.toNat)]])
        (fun r' H1 => r' = .imm (dInts (sortI vals)) ∧ H1 = WB X s F (done.map (chS q.cands) ++ List.replicate (rest.length + 1) nilV) F.length ++ [SObj.cells [.map (3 + f.toNat)]]) := by
      refine spre_of rfl huK ((sortedB_spec G (m := 3 + f.toNat) (b := 32) (es := encM sB (vals.map fun v => (v, true))) rfl ?_ (by omega) huK (by simp [encM]; omega)).mono ?_)
      · have := wh_get (X := X) (s := s) (i := 3 + f.toNat) (by omega) ([X 24, X 25, .cells [.ptr 2 0], .cells [.ptr 23 0], .cells [.map 1], .cells [.imm (dInts F)], .cells (done.map (chS q.cands) ++ List.replicate (rest.length + 1) nilV), .cells [.osl 30 0 F.length]] ++ [SObj.cells [.map (3 + f.toNat)]])
        rw [← List.append_assoc] at this
        rw [hXv] at this
        exact this
      · rintro r H' ⟨rfl, rfl⟩
        rw [hes]
        exact ⟨Nat.le_refl _, rfl, by rw [List.take_length]; exact huK, rfl, List.take_length⟩
    refine swe_pre 33 (wr := none) rfl rfl rfl rfl rfl rfl (by simp [setw_length, WB, WH]) (by simp [setw_length, WB, WH]) (fun b ob h => by cases h) hsp ?_
    (refine sgoe_sound [777, 999] (nx := 33) ?_; conv => whnf)
    refine swe_own (i := done.length) rfl rfl rfl rfl rfl rfl rfl (by simp [setw_length, WB, WH]) rfl (by omega) ?_
    refine swe_storeAt (d := done.map (chS q.cands)) (zz := nilV) (r := List.replicate rest.length nilV) (v := .imm (dInts (sortI vals))) rfl rfl rfl rfl rfl rfl rfl rfl (by simp [setw_length, WB, WH]) rfl (by show 0 + done.length * 1 = _; simp) ?_
    (refine sgoe_sound [777] (nx := 33) ?_; conv => whnf)
    (refine sgo_sound [777] 1000 ?_; conv => whnf)
    rw [hw]
    have hchf : chS q.cands f = .imm (dInts (sortI vals)) := by rw [chS, hal]; rfl
    have := ih (done ++ [f], rest.length) rfl
    simp only [List.map_append, List.map_cons, List.map_nil, List.append_assoc, List.cons_append, List.nil_append, hchf] at this
    refine sw_kc [2, 3, 5, 6, 18, 19, 20] 32 (by rw [hH]; exact (by decide : 26 ≤ 32)) (Nat.le_succ 32) rfl ?_ this
    exact WB_under hX s F F.length (Nat.le_refl _) (allU_append _ _ _ (allU_map (f := chS q.cands) (fun _ => rfl) _) (by simp only [SV.under.allUnder, under_rep 32 (zz := nilV) rfl]; rfl))
end Go.Proofs.YtblpjknmhajcgaaGreatDoor

/- The shadow machine, part 44: objects are put at other places. -/
namespace Go.Sh
mutual
theorem SV.ren_id {m : Nat} {σ : Nat → Nat} (hσ : ∀ b, b < m → σ b = b) : ∀ s : SV, s.under m = true → s.ren σ = s
  | .any, _ => rfl
  | .imm _, _ => rfl
  | .ptr b _, h => by simp only [SV.under, decide_eq_true_eq] at h; simp only [SV.ren, hσ b h]
  | .osl b _ _, h => by simp only [SV.under, decide_eq_true_eq] at h; simp only [SV.ren, hσ b h]
  | .asl b _ _, h => by simp only [SV.under, decide_eq_true_eq] at h; simp only [SV.ren, hσ b h]
  | .map b, h => by simp only [SV.under, decide_eq_true_eq] at h; simp only [SV.ren, hσ b h]
  | .yld b, h => by simp only [SV.under, decide_eq_true_eq] at h; simp only [SV.ren, hσ b h]
  | .vec b _, h => by simp only [SV.under, decide_eq_true_eq] at h; simp only [SV.ren, hσ b h]
  | .vptr b _ _, h => by simp only [SV.under, decide_eq_true_eq] at h; simp only [SV.ren, hσ b h]
  | .fn _ x y, h => by
    simp only [SV.under, Bool.and_eq_true] at h
    simp only [SV.ren, renL_id hσ x h.1, renL_id hσ y h.2]
  | .iface _ v, h => by
    simp only [SV.under] at h
    simp only [SV.ren, SV.ren_id hσ v h]
  | .agg cs, h => by
    simp only [SV.under] at h
    simp only [SV.ren, renL_id hσ cs h]
  | .tup vs, h => by
    simp only [SV.under] at h
    simp only [SV.ren, renL_id hσ vs h]
theorem renL_id {m : Nat} {σ : Nat → Nat} (hσ : ∀ b, b < m → σ b = b) : ∀ l : List SV, SV.under.allUnder m l = true → SV.ren.renL σ l = l
  | [], _ => rfl
  | s :: r, h => by
    simp only [SV.under.allUnder, Bool.and_eq_true] at h
    simp only [SV.ren.renL, SV.ren_id hσ s h.1, renL_id hσ r h.2]
end
theorem map_same {α : Type} {f : α → α} {l : List α} (h : ∀ a ∈ l, f a = a) : l.map f = l := by
  conv => rhs; rw [← List.map_id l]
  exact List.map_congr_left h
theorem SObj.ren_id {m : Nat} {σ : Nat → Nat} (hσ : ∀ b, b < m → σ b = b) (o : SObj) (h : o.under m = true) : o.ren σ = o := by
  cases o with
  | cells cs => simp only [SObj.ren]; rw [← renL_eq, renL_id hσ cs h]
  | mapI kk es =>
    simp only [SObj.under, List.all_eq_true] at h
    simp only [SObj.ren]
    rw [map_same fun e he => by rw [SV.ren_id hσ e.2 (h e he)]]
  | mapS es =>
    simp only [SObj.under, List.all_eq_true] at h
    simp only [SObj.ren]
    rw [map_same fun e he => by rw [SV.ren_id hσ e.2 (h e he)]]
  | loop s f n t ps a b =>
    simp only [SObj.under, List.all_eq_true] at h
    simp only [SObj.ren]
    rw [map_same fun e he => by rw [SV.ren_id hσ e.2 (h e he)]]
  | vec kk cs => simp only [SObj.ren]; rw [← renL_eq, renL_id hσ cs h]
  | pin kk es c =>
    simp only [SObj.under, List.all_eq_true] at h
    simp only [SObj.ren]
    rw [map_same fun e he => by rw [SV.ren_id hσ e.2.2 (h e he)]]
  | iter b s seen l => simp only [SObj.under, decide_eq_true_eq] at h; simp only [SObj.ren, hσ b h]
  | tok _ _ => rfl
  | dead => rfl
  | free => rfl

section
variable {P : Program} {G : List (Nat × D)} {fn : Func} {rd : Bool} {E : En P G fn rd} {t : List (Nat × SV)} {H : List SObj} {k : List Item}
/-- what is still wanted, put at other places -/
theorem sw_pack (σ : Nat → Nat) {t' : List (Nat × SV)} {H' : List SObj} (hfix : ∀ b, b < E.H.length → σ b = b) (hinj : ∀ b b', b < H'.length → b' < H'.length → σ b = σ b' → b = b') (hlen : E.H.length ≤ H'.length)
    (hobj : ∀ b o, H'[b]? = some o → H[σ b]? = some (o.ren σ)) (hu : H'.all (SObj.under H'.length) = true) (ht : ∀ n, tget t n = (tget t' n).ren σ ∨ tget t' n = .any) (htu : t'.all (fun e => e.2.under H'.length) = true) (h : SW E k t' H') : SW E k t H := by
  refine ⟨fun a w I β cs hs => ?_⟩
  have hH := hs.heap
  have hσlt : ∀ b, b < H'.length → σ b < H.length := fun b hb => lt_of_getElem? (hobj b _ (List.getElem?_eq_getElem hb))
  obtain ⟨β0, hl0, hβ0⟩ : ∃ β0 : List Bnd, β0.length = H'.length ∧ ∀ b, b < H'.length → β0[b]? = β[σ b]? := by
    refine ⟨(List.range H'.length).map (fun b => β.getD (σ b) freeB), by simp, fun b hb => ?_⟩
    have hlt : σ b < β.length := by rw [hH.len]; exact hσlt b hb
    rw [List.getElem?_map, List.getElem?_range hb]
    simp [List.getD_eq_getElem?_getD, List.getElem?_eq_getElem hlt]
  have up0 : ∀ b x, β0[b]? = some x → β[σ b]? = some x := fun b x hx => by rw [← hβ0 b (by rw [← hl0]; exact lt_of_getElem? hx)]; exact hx
  have un0 : ∀ b x, b < H'.length → β[σ b]? = some x → β0[b]? = some x := fun b x hb hx => by rw [hβ0 b hb]; exact hx
  have up : ∀ b c, owns H' β0 b c → owns H β (σ b) c := by
    rintro b c ⟨o, x, h1, h2, h3, h4⟩
    exact ⟨o.ren σ, x, hobj b o h1, fun e => h2 (SObj.ren_dead.1 e), up0 b x h3, h4⟩
  have olt : ∀ {b c}, owns H' β0 b c → b < H'.length := fun ⟨_, _, h1, _⟩ => lt_of_getElem? h1
  refine h.run a w I β0 cs ⟨⟨hl0, fun b o x h1 h2 => ?_, fun b b' c h1 h2 => hinj b b' (olt h1) (olt h2) (hH.inj _ _ c (up b c h1) (up b' c h2)), hH.inI, hH.glob⟩, fun n => ?_, hs.size, ?_, ?_, hlen⟩
  · exact (hH.obj (σ b) (o.ren σ) x (hobj b o h1) (up0 b x h2)).unren un0 (List.all_eq_true.1 hu o (List.mem_of_getElem? h1))
  · rcases ht n with h1 | h1
    · have := hs.tmps n
      rw [h1] at this
      exact this.unren un0 rfl (tget_under htu n)
    · rw [h1]; exact .any _
  · obtain ⟨bs, d1, d2, d3⟩ := hs.defers
    exact ⟨bs, d1, d2, fun c hc => ⟨(d3 c hc).1, (d3 c hc).2.1, fun b hb => (d3 c hc).2.2 (σ b) (up b c hb)⟩⟩
  · exact { hs.ext with
      keep := fun b x hb hx => by
        obtain ⟨y, hy, hle⟩ := hs.ext.keep b x hb hx
        exact ⟨y, un0 b y (by omega) (by rw [hfix b hb]; exact hy), hle⟩
      own := fun b c ho => hs.ext.own (σ b) c (up b c ho) }

/-- &x, in an open order -/
theorem swe_box (nx : Nat) {all : Array Oper} {o : Oper} {rest : List Oper} {done : List Eff} {K : List SObj} {m e : Nat} {x : Operand} {cs : List SV} (hop : o.op = .box e x) (hw : swant all t o.guard = some true) (hd : dstOK fn.ntmps o.dst = true)
    (hx : (evalS G t x).cells = some cs) (hu : SV.under.allUnder K.length cs = true) (hm : m ≤ nx) (hnx : K[nx]? = some .dead)
    (h : SWe E m all rest k (tput t o.dst (.ptr nx 0)) (K.set nx (.cells cs)) (done ++ [⟨.ptr nx 0, [], some (nx, .cells cs)⟩])) : SWe E m all (o :: rest) k t K done := by
  have := swe_new (E := E) (m := m) (all := all) (rest := rest) (k := k) (t := t) (K := K) (done := done) nx (r := .ptr K.length 0) (ob := .cells cs) hw hd hm hnx (by simp [SV.isNew]) hu
    (fun K' hl' => by
      rw [hop]
      simp only [sop, hx, hl']
      rfl)
  simp only [SV.mv, if_true] at this
  exact this h

theorem tget_snoc (n m : Nat) (s : SV) : ∀ t0 : List (Nat × SV), (tget (t0 ++ [(m, s)]) n = tget t0 n ∧ tget t0 n ≠ .any) ∨ (tget t0 n = .any ∧ (tget (t0 ++ [(m, s)]) n = .any ∨ (m = n ∧ tget (t0 ++ [(m, s)]) n = s)))
  | [] => by
    right
    refine ⟨rfl, ?_⟩
    simp only [List.nil_append, tget]
    split
    · rename_i e; exact .inr ⟨e, rfl⟩
    · exact .inl rfl
  | (m', s') :: t0 => by
    simp only [List.cons_append, tget]
    by_cases e : m' = n
    · rw [if_pos e, if_pos e]
      by_cases h : s' = .any
      · right; exact ⟨h, .inl h⟩
      · left; exact ⟨rfl, h⟩
    · rw [if_neg e, if_neg e]
      exact tget_snoc n m s t0
/-- the variable of a loop is a new one in each round: it is put at the old one's place -/
theorem sw_newVar {n0 v : Nat} {t0 : List (Nat × SV)} {A : List SObj} {c0 c1 : SObj} (hA : A.length = n0) (hE : E.H.length ≤ n0) (hu : A.all (SObj.under n0) = true) (hc : c1.under n0 = true) (ht : t0.all (fun e => e.2.under n0) = true)
    (h : SW E k (t0 ++ [(v, .ptr n0 0)]) (A ++ [c1])) : SW E k (t0 ++ [(v, .ptr (n0 + 1) 0)]) (A ++ [c0, c1]) := by
  subst hA
  have hid : ∀ b, b < A.length → (if b = A.length then A.length + 1 else b) = b := fun b hb => by rw [if_neg (by omega)]
  refine sw_pack (fun b => if b = A.length then A.length + 1 else b) (fun b hb => hid b (by omega)) (fun b b' hb hb' e => ?_) (by simp; omega) (fun b o ho => ?_) ?_ (fun n => ?_) ?_ h
  · simp only [List.length_append, List.length_singleton] at hb hb'
    split at e <;> split at e <;> omega
  · have hlt := lt_of_getElem? ho
    simp only [List.length_append, List.length_singleton] at hlt
    by_cases e : b = A.length
    · subst e
      rw [List.getElem?_append_right (Nat.le_refl _)] at ho
      simp only [Nat.sub_self, List.getElem?_cons_zero, Option.some.injEq] at ho
      subst ho
      rw [if_pos rfl, SObj.ren_id hid _ hc, List.getElem?_append_right (by omega)]
      simp
    · have hb : b < A.length := by omega
      rw [List.getElem?_append_left hb] at ho
      rw [if_neg e, SObj.ren_id hid _ (List.all_eq_true.1 hu _ (List.mem_of_getElem? ho)), List.getElem?_append_left hb]
      exact ho
  · rw [List.all_append, allObj_mono (m := A.length) (by simp) hu]
    simp only [List.all_cons, List.all_nil, Bool.and_true, Bool.true_and]
    exact SObj.under_mono (by simp) _ hc
  · rcases tget_snoc n v (.ptr (A.length + 1) 0) t0 with ⟨h1, h2⟩ | ⟨h1, h2⟩
    · rcases tget_snoc n v (.ptr A.length 0) t0 with ⟨g1, g2⟩ | ⟨g1, g2⟩
      · left
        rw [h1, g1, SV.ren_id hid _ (tget_under ht n)]
      · exact absurd g1 h2
    · rcases tget_snoc n v (.ptr A.length 0) t0 with ⟨g1, g2⟩ | ⟨g1, g2⟩
      · exact absurd h1 g2
      · rcases g2 with g2 | ⟨g2, g3⟩
        · right; exact g2
        · subst g2
          rcases h2 with h2 | ⟨_, h3⟩
          · exfalso
            have : ∀ (t0 : List (Nat × SV)) (x y : SV), tget (t0 ++ [(v, x)]) v = .any → x ≠ .any → y ≠ .any → tget (t0 ++ [(v, y)]) v = .any := by
              intro t0
              induction t0 with
              | nil =>
                intro x y hx hxn hyn
                simp only [List.nil_append, tget, if_true] at hx
                exact absurd hx hxn
              | cons e t0 ih =>
                intro x y hx hxn hyn
                simp only [List.cons_append, tget] at hx ⊢
                split
                · rename_i e'; rw [if_pos e'] at hx; exact hx
                · rename_i e'; rw [if_neg e'] at hx; exact ih x y hx hxn hyn
            have := this t0 _ (.ptr A.length 0) h2 (by simp) (by simp)
            rw [this] at g3
            cases g3
          · left
            rw [h3, g3]
            simp [SV.ren]
  · rw [List.all_append]
    simp only [List.all_cons, List.all_nil, Bool.and_true, Bool.and_eq_true]
    refine ⟨?_, ?_⟩
    · simp only [List.all_eq_true] at ht ⊢
      exact fun e he => SV.under_mono (by simp) _ (ht e he)
    · simp [SV.under]

/-- *p = x: all cells of a box -/
theorem swr_storeAll {all : Array Oper} {o : Oper} {rest : List Oper} {ty b n : Nat} {ax vx : Operand} {new old : List SV} (hop : o.op = .store ty ax vx) (hw : swant all t o.guard = some true) (hd : dstOK fn.ntmps o.dst = true) (ha : evalS G t ax = .ptr b 0)
    (hv : (evalS G t vx).cells = some new) (hone : new.all SV.one = true) (hsz : psize P ty = some n) (hn : new.length = n) (hb : H[b]? = some (.cells old)) (hol : old.length = n) (h : SWr E all rest k (tput t o.dst .any) (H.set b (.cells new))) : SWr E all (o :: rest) k t H := by
  refine swr_op (r := .any) (H' := H.set b (.cells new)) hw hd ?_ (by simp) h
  rw [hop]
  subst hn
  simp only [sop, sopStore, ha, hv, hsz, hb]
  rw [if_pos ⟨trivial, by omega, hone⟩]
  simp [← hol]
end
end Go.Sh

/- The search: the sequence of assignments; a round of witness's range over it. -/
namespace Go.Proofs.YtblpjknmhajcgaaGreatDoor
open Go Go.Sh
set_option maxRecDepth 10000
set_option maxHeartbeats 4000000
variable (G : List (Nat × D))

theorem seq_spec {Y : Nat → SObj} (hY : ∀ i, (Y i).under 24 = true) (hY28 : Y 28 = .cells [.map 1]) (c : Codex) (vers : List Int) (q : Sr) (ch : List (Int × List Int)) {f0 : FuncId} {n0 : Nat} {tL : List (Nat × SV)} {ps : Array Tmp} {asg bd : Code} (Q : List Int → List SObj → Prop)
    (hlp : (SObj.loop .ready f0 n0 tL ps asg bd).under 33 = true) (hps : 1 = ps.size) (hch : ch.length ≤ 1073741824) (hcz : q.conds.length ≤ 1073741824) (nf : Nat) (hsz : nf ≤ 1073741824) (hc : ∀ x ∈ q.conds, x.ok nf) (hvz : ∀ e ∈ ch, e.2.length ≤ 1073741824)
    (hy : ∀ s : St, s.ch.length = nf → s.vs.length = nf → SYield Tryz.prog G 32 [.imm (dInts s.vs)] (WA (XS Y (srCells c vers q)) s ch (.loop .ready f0 n0 tL ps asg bd)) (fun res H' => res = false ∧ 35 ≤ H'.length ∧ Q s.vs H'))
    (s : St) (hn : s.vs.length = nf) (hR : RestOK q.conds ch s) (hz : ∀ e ∈ ch, s.vs.getD e.1.toNat 0 = 0) :
    SCall Tryz.prog G 104 [.yld 32, .ptr 26 0, .ptr 27 0, .ptr 29 0, .ptr 31 0] (WB (XS Y (srCells c vers q)) s (ch.map (·.1)) (ch.map fun e => .imm (dInts e.2)) ch.length ++ [.loop .ready f0 n0 tL ps asg bd])
      (fun _ H' => 33 ≤ H'.length ∧ (∀ vs, assignGo q.conds ch s = some vs → Q vs H') ∧ (assignGo q.conds ch s = none → H'.take 33 = WB (XS Y (srCells c vers q)) s (ch.map (·.1)) (ch.map fun e => .imm (dInts e.2)) ch.length ++ [.loop .ready f0 n0 tL ps asg bd])) := by
  have hX28 : XS Y (srCells c vers q) 28 = .cells [.map 1] := by unfold XS; rw [if_neg (by omega)]; exact hY28
  have hrec := assign_rec G hY c vers q ch Q (SObj.under_mono (m := 33) (by omega) _ hlp) hps hch hcz nf hsz hc hvz hy ch [] s rfl hn hR hz
  generalize XS Y (srCells c vers q) = X at hX28 hrec ⊢
  refine scall_enter Tryz.func104 rfl (by rw [Tryz.ntmps104]; simp) ?_
  intro E hH hK
  have e : WA X s ch (.loop .ready f0 n0 tL ps asg bd) = WB X s (ch.map (·.1)) (ch.map fun e => .imm (dInts e.2)) ch.length ++ [.loop .ready f0 n0 tL ps asg bd, .cells [.yld 32], .cells [fnA]] := by
    unfold WA WB
    rw [hX28]
    rfl
  unfold AsgP at hrec
  rw [e] at hrec
  (refine sgo_sound [777] 1000 ?_; conv => whnf)
  refine swr_call rfl rfl rfl rfl rfl rfl (hrec.mono ?_)
  rintro r H' ⟨hl', hs, hnone⟩
  refine ⟨hl', ?_⟩
  (refine sgor_sound [777] 1000 ?_; conv => whnf)
  refine hK _ _ ⟨by omega, fun vs hv => (hs vs hv).2, fun hv => ?_⟩
  have := (hnone hv).2
  have e2 : H'.take 33 = (H'.take 35).take 33 := by rw [List.take_take]; rfl
  rw [e2, this]
  rfl
end Go.Proofs.YtblpjknmhajcgaaGreatDoor

/- The search: witness (contract). -/
namespace Go.Proofs.YtblpjknmhajcgaaGreatDoor
open Go Go.Sh
set_option maxRecDepth 10000
set_option maxHeartbeats 4000000

def NSH (Y : Nat → SObj) (cs : List SV) : List SObj := [Y 0, Y 1, .cells cs, Y 3, Y 4, Y 5, Y 6, Y 7, Y 8, Y 9, Y 10, Y 11, Y 12, Y 13, Y 14, Y 15, Y 16]
def failS (failed : List ByteArray) : SObj := .mapS (encM sB (failed.map fun g => (g, true)))
def zviewS : List SV := [sI 0, nilV, nilV, nilV]
/-- witness's own objects beside the search -/
def YW (Y : Nat → SObj) (nf : Nat) (failed : List ByteArray) (day : Int) (i : Nat) : SObj :=
  if i = 17 then .cells [.ptr 2 0] else if i = 18 then .cells zviewS else if i = 19 then .cells [sB false] else if i = 20 then .cells [sI nf] else if i = 24 then failS failed else if i = 25 then .cells [sI day] else if i = 28 then .cells [.map 1] else Y i
theorem failS_under (failed : List ByteArray) (n : Nat) : (failS failed).under n = true := by
  simp only [failS, SObj.under, encM, List.map_map, List.all_map, List.all_eq_true]
  intro x _
  rfl
theorem YW_under {Y : Nat → SObj} (hY : ∀ i, (Y i).under 17 = true) (nf : Nat) (failed : List ByteArray) (day : Int) (i : Nat) : (YW Y nf failed day i).under 24 = true := by
  unfold YW
  split
  · rfl
  split
  · rfl
  split
  · rfl
  split
  · rfl
  split
  · exact failS_under _ _
  split
  · rfl
  split
  · rfl
  · exact SObj.under_mono (by omega) _ (hY i)
theorem YW_low {Y : Nat → SObj} {nf : Nat} {failed : List ByteArray} {day : Int} {i : Nat} (h : i < 17) : YW Y nf failed day i = Y i := by
  unfold YW
  repeat rw [if_neg (by omega)]
theorem YW_maps {Y : Nat → SObj} {m : List (Int × List Int)} (h : MapsOK Y m) (nf : Nat) (failed : List ByteArray) (day : Int) : MapsOK (YW Y nf failed day) m :=
  ⟨by rw [YW_low (by omega)]; exact h.out, h.rng, fun e he => by have := h.rng e he; rw [YW_low (by omega)]; exact h.inn e he, h.nd, h.sz⟩
abbrev XW (Y : Nat → SObj) (c : Codex) (vers : List Int) (q : Sr) (failed : List ByteArray) (day : Int) : Nat → SObj := XS (YW Y c.facts.length failed day) (srCells c vers q)
abbrev s00 (nf : Nat) (p : Parts) : St := ⟨p, List.replicate nf false, List.replicate nf 0⟩
/-- the heap at the head of the loop over the days -/
def WD (Y : Nat → SObj) (c : Codex) (vers : List Int) (q : Sr) (failed : List ByteArray) (day : Int) (p : Parts) : List SObj :=
  WH (XW Y c vers q failed day) (s00 c.facts.length p) ++ [failS failed, .cells [sI day]]

theorem ains_new {g : ByteArray} : ∀ {failed : List ByteArray}, ¬ g ∈ failed → ains g true (failed.map fun g => (g, true)) = (failed ++ [g]).map fun g => (g, true)
  | [], _ => rfl
  | x :: l, h => by
    simp only [List.mem_cons, not_or] at h
    simp only [List.map_cons, ains, List.cons_append]
    have : ¬ (g == x) = true := by simpa using h.1
    rw [if_neg this, ains_new h.2]
/-- the loop's record when a round has returned -/
def doneOf : SObj → List (Nat × SV) → SObj
  | .loop _ f n _ ps a b, t => .loop (.done .ret) f n t ps a b
  | o, _ => o
section
variable {A : List SObj} {n : Nat} (hn : A.length = n) (a a' c l : SObj)
include hn
theorem p_g0 : (A ++ [a, c, l])[n]? = some a := by subst hn; simp
theorem p_g1 : (A ++ [a, c, l])[n + 1]? = some c := by subst hn; simp
theorem p_g2 : (A ++ [a, c, l])[n + 2]? = some l := by subst hn; simp
theorem p_s0 : (A ++ [a, c, l]).set n a' = A ++ [a', c, l] := by subst hn; simp
theorem p_s2 : (A ++ [a, c, l]).set (n + 2) a' = A ++ [a, c, a'] := by subst hn; simp
theorem p_lo {i : Nat} (h : i < n) : (A ++ [a, c, l])[i]? = A[i]? := by subst hn; rw [List.getElem?_append_left h]
end
/-- which facts have a value -/
def hasL (nf : Nat) (done : List Int) : List Bool := (List.range nf).map fun (i : Nat) => decide ((i : Int) ∈ done)
theorem hasL_len (nf : Nat) (done : List Int) : (hasL nf done).length = nf := by simp [hasL]
theorem hasL_nil (nf : Nat) : (hasL nf []).map bvS = List.replicate nf (bvS false) := by
  apply List.ext_getElem
  · simp [hasL]
  · intro i h1 h2
    simp [hasL]
theorem hasL_set {nf : Nat} {done : List Int} {f : Int} (h : 0 ≤ f ∧ f < nf) : (hasL nf done).set f.toNat true = hasL nf (done ++ [f]) := by
  apply List.ext_getElem
  · simp [hasL]
  · intro i h1 h2
    rw [List.getElem_set]
    simp only [hasL, List.getElem_map, List.getElem_range, List.mem_append, List.mem_singleton]
    split
    · rename_i e
      have : (i : Int) = f := by omega
      simp [this]
    · rename_i e
      have : ¬ (i : Int) = f := by omega
      simp [this]
theorem alook_isSome {α : Type} {k : Int} : ∀ {l : List (Int × α)}, (alook k l).isSome = decide (k ∈ l.map (·.1))
  | [] => by simp [alook]
  | (k', v) :: l => by
    simp only [alook, List.map_cons, List.mem_cons]
    by_cases e : k = k'
    · subst e; simp
    · have : ¬ (k == k') = true := by simpa using e
      rw [if_neg this, alook_isSome]
      simp [e]
theorem hasL_all {nf : Nat} {done : List Int} {m : List (Int × List Int)} (h : done.Perm (m.map (·.1))) : hasL nf done = (List.range nf).map fun (i : Nat) => (alook (i : Int) m).isSome := by
  unfold hasL
  refine List.map_congr_left fun i _ => ?_
  rw [alook_isSome]
  exact decide_eq_decide.2 h.mem_iff
theorem failed_look (g : ByteArray) : ∀ failed : List ByteArray, ((alook g (failed.map fun g => (g, true))).map sB).getD (ofWhole (.bool false)) = sB (decide (g ∈ failed))
  | [] => by simp [alook]; rfl
  | x :: l => by
    simp only [List.map_cons, alook]
    by_cases e : g = x
    · subst e; simp
    · have : ¬ (g == x) = true := by simpa using e
      rw [if_neg this, failed_look g l]
      simp [e]
theorem WH_s00 (X : Nat → SObj) (nf : Nat) (p : Parts) : WH X (s00 nf p) = [X 0, X 1, X 2, X 3, X 4, X 5, X 6, X 7, X 8, X 9, X 10, X 11, X 12, X 13, X 14, X 15, X 16, X 17, X 18, X 19, X 20, .cells (List.replicate nf (bvS false)), .cells (List.replicate nf (ivS 0)),
   .cells [ivS p.1, ivS p.2.1, ivS p.2.2.1, ivS p.2.2.2.1, ivS p.2.2.2.2, .osl 21 0 nf, .osl 22 0 nf]] := by simp [WH]

structure WitOK (Y : Nat → SObj) (c : Codex) (vers : List Int) (q : Sr) : Prop where
  und : ∀ i, (Y i).under 17 = true
  maps : MapsOK Y q.cands
  nf : c.facts.length ≤ 1000
  arts : c.arts.length ≤ 1000
  days : daysOK c
  versR : ∀ v ∈ vers, 0 ≤ v ∧ v < c.arts.length
  vsz : vers.length ≤ 1000000
  cz : q.conds.length ≤ 1000000
  az : q.atoms.length ≤ 1000000
  conds : ∀ x ∈ q.conds, x.ok c.facts.length
  atoms : ∀ x ∈ q.atoms, x.ok c.facts.length ∧ ∃ op l r, x = .cmp op l r
  sr : SrOK q c.facts.length
  csz : q.cands.length ≤ 1000

def witSV (c : Codex) (vers : List Int) (q : Sr) : SV :=
  match witnessOf c vers q with
  | some v => .tup [.agg [sI v.day, .imm (dBools v.has), .imm (dInts v.value), .imm (dInts v.arts)], sB true]
  | none => .tup [.agg zviewS, sB false]

theorem witness_spec {Y : Nat → SObj} {c : Codex} {vers : List Int} {q : Sr} (hW : WitOK Y c vers q) :
    SCall Tryz.prog G0 41 [.ptr 2 0] (NSH Y (srCells c vers q)) (fun r _ => r = witSV c vers q) := by
  have hfl : (c.facts.map Decl.cells).length = c.facts.length := by simp
  have hnf := hW.nf
  refine scall_enter Tryz.func41 rfl (by rw [Tryz.ntmps41]; simp) ?_
  intro E hH hK
  (refine sgo_sound [777] 1000 ?_; conv => whnf)
  rw [hfl]
  (refine swe_start 3 mixed rfl ?_; refine sgoe_sound [777] (nx := 21) ?_; conv => whnf)
  refine swe_mk 21 (n := c.facts.length) (zz := bvS false) rfl rfl rfl rfl rfl rfl rfl rfl rfl ⟨by decide, rfl⟩ rfl (fun _ => rfl) (Nat.le_refl 21) rfl rfl rfl (by omega) ?_
  (refine sgoe_sound [777] (nx := 22) ?_; conv => whnf)
  refine swe_mk 22 (n := c.facts.length) (zz := ivS 0) rfl rfl rfl rfl rfl rfl rfl rfl rfl ⟨by decide, rfl⟩ rfl (fun _ => rfl) (by decide : 21 ≤ 22) rfl rfl rfl (by omega) ?_
  (refine sgoe_sound [777] (nx := 23) ?_; conv => whnf)
  refine swe_box 23 (cs := [ivS 0, ivS 0, ivS 0, ivS 0, ivS 0, .osl 21 0 c.facts.length, .osl 22 0 c.facts.length]) rfl rfl rfl rfl rfl (by decide : 21 ≤ 23) rfl ?_
  (refine sgoe_sound [777] (nx := 24) ?_; conv => whnf)
  refine sw_keep [1, 2, 3, 4, 5] ?_
  refine Eq.mpr (congrArg (fun h => SW E _ _ h) (show _ = WH (XW Y c vers q [] 0) (s00 c.facts.length (0, 0, 0, 0, 0)) by rw [WH_s00]; rfl)) ?_
  show SW E _ [(1, .ptr 17 0), (2, .ptr 18 0), (3, .ptr 19 0), (4, .ptr 20 0), (5, .ptr 23 0)] _
  have hlen0 : (s00 c.facts.length (0, 0, 0, 0, 0)).ch.length = (s00 c.facts.length (0, 0, 0, 0, 0)).vs.length := by simp
  (refine sgo_sound [777] 1000 ?_; conv => whnf)
  refine swr_pre 24 rfl rfl rfl rfl rfl rfl (days_spec2 G0 (YW_under hW.und c.facts.length [] 0) c vers q _ hW.days hW.versR (by have := hW.vsz; omega)) ?_
  intro r1 H1 hr _
  obtain ⟨rfl, rfl⟩ := hr
  have hfr := frame_rng hW.days vers (0, 36525) (by decide)
  have hhz := horizon_pos q.dates
  have hwit : witSV c vers q = match (match witGo q c.facts.length (min (frameOf c vers).2 ((frameOf c vers).1 + horizonOf q.dates) - (frameOf c vers).1).toNat (frameOf c vers).1 [] with
      | some (day, vs) => some (⟨day, (List.range c.facts.length).map fun (i : Nat) => (alook (i : Int) q.cands).isSome, vs, vers⟩ : View)
      | none => none) with
    | some v => .tup [.agg [sI v.day, .imm (dBools v.has), .imm (dInts v.value), .imm (dInts v.arts)], sB true]
    | none => .tup [.agg zviewS, sB false] := rfl
  rw [hwit] at hK
  have hfr' : 0 ≤ (frameOf c vers).1 ∧ (frameOf c vers).1 ≤ 36525 ∧ 0 ≤ (frameOf c vers).2 ∧ (frameOf c vers).2 ≤ 36525 := hfr
  generalize hlo : (frameOf c vers).1 = lo at hK hfr' ⊢
  generalize hto : min (frameOf c vers).2 (lo + horizonOf q.dates) = to at hK ⊢
  have hto' : to ≤ 36525 := by omega
  (refine sgor_sound [777] 1000 ?_; conv => whnf)
  refine sw_keep [1, 2, 3, 4, 5, 6, 8, 9] ?_
  refine sw_loop_ind (σ := Nat × Int × List ByteArray × Parts) (fun _ => [(1, .ptr 17 0), (2, .ptr 18 0), (3, .ptr 19 0), (4, .ptr 20 0), (5, .ptr 23 0), (6, .map 24), (8, sI to)] ++ [(9, .ptr 25 0)]) (fun x => WD Y c vers q x.2.2.1 x.2.1 x.2.2.2)
    (fun x => lo ≤ x.2.1 ∧ (x.1 : Int) = max 0 (to - x.2.1) ∧ (x.2.2.2 = (0, 0, 0, 0, 0) ∨ (1 ≤ x.2.1 ∧ x.2.2.2 = partsOf (x.2.1 - 1))) ∧ witGo q c.facts.length (to - lo).toNat lo [] = witGo q c.facts.length x.1 x.2.1 x.2.2.1) (fun x => x.1) ?_ ((to - lo).toNat, lo, [], (0, 0, 0, 0, 0)) ⟨Int.le_refl _, by simp only; omega, .inl rfl, rfl⟩
  rintro ⟨n, day, failed, p⟩ ⟨h1, h2, h3, h4⟩ ih
  simp only at h1 h2 h3 h4
  show SW E _ _ (WD Y c vers q failed day p)
  have hYW := YW_under hW.und c.facts.length failed day
  have hXW := XS_under hYW c vers q
  have huA : ∀ FF, (WH (XW Y c vers q FF day) (s00 c.facts.length (partsOf day)) ++ [failS FF]).all (SObj.under 25) = true := fun FF => by
    rw [List.all_append, allObj_mono (m := 24) (by omega) (WH_under (XS_under (YW_under hW.und c.facts.length FF day) c vers q) _)]
    simp only [List.all_cons, List.all_nil, failS_under, Bool.and_true, Bool.true_and]
  have hst : (st0 c.facts.length day).ch.length = (st0 c.facts.length day).vs.length := by simp [st0]
  have hstv : (st0 c.facts.length day).vs.length = c.facts.length := by simp [st0]
  have hcz := hW.cz
  have haz := hW.az
  have hcsz := hW.csz
  (refine sgo_sound [777] 1000 ?_; conv => whnf)
  repeat' ((with_reducible first | refine bdec (fun h => ?_) (fun h => ?_) | refine bndec (fun h => ?_) (fun h => ?_) | refine bwtd (fun h => ?_) (fun h => ?_) | refine bwfd (fun h => ?_) (fun h => ?_) | refine bwtn (fun h => ?_) (fun h => ?_) | refine bwfn (fun h => ?_) (fun h => ?_) | refine bwtb (fun h => ?_) (fun h => ?_) | refine bwfb (fun h => ?_) (fun h => ?_) | refine bwt (fun h => ?_) (fun h => ?_) | refine bwf (fun h => ?_) (fun h => ?_) | refine bnt (fun h => ?_) (fun h => ?_) | refine bcase (fun h => ?_) (fun h => ?_)) <;> (conv => whnf))
  · obtain ⟨n', rfl⟩ : ∃ n', n = n' + 1 := ⟨n - 1, by omega⟩
    simp only [witGo] at h4
    refine swr_pre 24 rfl rfl rfl rfl rfl rfl (advance_spec hXW (s00 c.facts.length p) day ⟨by omega, by omega⟩ h3) ?_
    intro r1 H1 hr _
    obtain ⟨rfl, rfl⟩ := hr
    refine Eq.mpr (congrArg (fun h => SWr E _ _ _ _ h) (show _ = WD Y c vers q failed day (partsOf day) from rfl)) ?_
    (refine sgor_sound [777] 1000 ?_; conv => whnf)
    refine swr_pre 24 rfl rfl rfl rfl rfl rfl (verdict_spec G0 hYW c vers q (st0 c.facts.length day) hst (by rw [hstv]; exact hW.conds) (by omega)) ?_
    intro r1 H1 hr _
    obtain ⟨rfl, rfl⟩ := hr
    refine Eq.mpr (congrArg (fun h => SWr E _ _ _ _ h) (show _ = WD Y c vers q failed day (partsOf day) from rfl)) ?_
    generalize hv : verdict q.conds (st0 c.facts.length day) = vd at h4
    (refine sgor_sound [777] 1000 ?_; conv => whnf)
    repeat' ((with_reducible first | refine bdec (fun h => ?_) (fun h => ?_) | refine bndec (fun h => ?_) (fun h => ?_) | refine bwtd (fun h => ?_) (fun h => ?_) | refine bwfd (fun h => ?_) (fun h => ?_) | refine bwtn (fun h => ?_) (fun h => ?_) | refine bwfn (fun h => ?_) (fun h => ?_) | refine bwtb (fun h => ?_) (fun h => ?_) | refine bwfb (fun h => ?_) (fun h => ?_) | refine bwt (fun h => ?_) (fun h => ?_) | refine bwf (fun h => ?_) (fun h => ?_) | refine bnt (fun h => ?_) (fun h => ?_) | refine bcase (fun h => ?_) (fun h => ?_)) <;> (conv => whnf))
    · rw [if_pos (by assumption)] at h4
      rw [wrap64 (c := day + 1) (by omega) (by omega)]
      refine sw_keep [1, 2, 3, 4, 5, 6, 8, 9] ?_
      refine Eq.mpr (congrArg (fun h => SW E _ _ h) (show _ = (WH (XW Y c vers q failed day) (s00 c.facts.length (partsOf day)) ++ [failS failed]) ++ [.cells [sI day], .cells [sI (day + 1)]] from rfl)) ?_
      refine sw_newVar (n0 := 25) (t0 := [(1, .ptr 17 0), (2, .ptr 18 0), (3, .ptr 19 0), (4, .ptr 20 0), (5, .ptr 23 0), (6, .map 24), (8, sI to)]) (v := 9) rfl (by rw [hH]; exact (by decide : 17 ≤ 25)) (huA failed) rfl rfl ?_
      exact ih (n', day + 1, failed, partsOf day) ⟨by simp only; omega, by simp only; omega, .inr ⟨by simp only; omega, by simp only; rw [show day + 1 - 1 = day by omega]⟩, h4⟩ (by simp only; omega)
    rw [if_neg (by assumption)] at h4
    refine swr_pre 24 rfl rfl rfl rfl rfl rfl (signature_spec G0 hYW c vers q (st0 c.facts.length day) hst (by rw [hstv]; exact hW.atoms) (by omega)) ?_
    intro r1 H1 hr _
    obtain ⟨rfl, rfl⟩ := hr
    refine Eq.mpr (congrArg (fun h => SWr E _ _ _ _ h) (show _ = WD Y c vers q failed day (partsOf day) from rfl)) ?_
    generalize hsg : sigOf q.atoms (st0 c.facts.length day) = g at h4
    (refine sgor_sound [777] 1000 ?_; conv => whnf)
    refine swr_lookS (b := 24) (l := failed.map fun g => (g, true)) sB rfl rfl rfl rfl rfl rfl rfl rfl rfl (failed_look g failed) ?_
    by_cases hm : g ∈ failed
    · rw [if_pos hm] at h4
      rw [show decide (g ∈ failed) = true by simp [hm]]
      (refine sgor_sound [777] 1000 ?_; conv => whnf)
      rw [wrap64 (c := day + 1) (by omega) (by omega)]
      refine sw_keep [1, 2, 3, 4, 5, 6, 8, 9] ?_
      refine Eq.mpr (congrArg (fun h => SW E _ _ h) (show _ = (WH (XW Y c vers q failed day) (s00 c.facts.length (partsOf day)) ++ [failS failed]) ++ [.cells [sI day], .cells [sI (day + 1)]] from rfl)) ?_
      refine sw_newVar (n0 := 25) (t0 := [(1, .ptr 17 0), (2, .ptr 18 0), (3, .ptr 19 0), (4, .ptr 20 0), (5, .ptr 23 0), (6, .map 24), (8, sI to)]) (v := 9) rfl (by rw [hH]; exact (by decide : 17 ≤ 25)) (huA failed) rfl rfl ?_
      exact ih (n', day + 1, failed, partsOf day) ⟨by simp only; omega, by simp only; omega, .inr ⟨by simp only; omega, by simp only; rw [show day + 1 - 1 = day by omega]⟩, h4⟩ (by simp only; omega)
    rw [if_neg hm] at h4
    rw [show decide (g ∈ failed) = false by simp [hm]]
    (refine sgor_sound [777] 1000 ?_; conv => whnf)
    refine swr_call rfl rfl rfl rfl rfl rfl ((assignments_spec G0 hYW c vers q (st0 c.facts.length day) (YW_maps hW.maps _ _ _) (by omega)).mono ?_)
    rintro r H' ⟨rfl, hl', ht⟩
    refine ⟨Nat.le_trans (by decide : 26 ≤ 32) hl', ?_⟩
    (refine sgor_sound [777] 1000 ?_; conv => whnf)
    have hWBu : ∀ N, 32 ≤ N → (WB (XS (YW Y c.facts.length failed day) (srCells c vers q)) (st0 c.facts.length day) ((choicesOf q.cands).map (·.1)) ((choicesOf q.cands).map fun e => .imm (dInts e.2)) (choicesOf q.cands).length).all (SObj.under N) = true := fun N hN =>
      WB_under hXW _ _ _ hN (allU_map (f := fun e : Int × List Int => SV.imm (dInts e.2)) (fun _ => rfl) _)
    refine sw_kc [1, 2, 3, 4, 5, 6, 8, 9, 10, 53] 32 (by rw [hH]; exact (by decide : 17 ≤ 32)) hl' rfl (by rw [ht]; exact hWBu 32 (Nat.le_refl _)) ?_
    rw [ht]
    show SW E _ [(1, .ptr 17 0), (2, .ptr 18 0), (3, .ptr 19 0), (4, .ptr 20 0), (5, .ptr 23 0), (6, .map 24), (8, sI to), (9, .ptr 25 0), (10, sS g), (53, .fn (.func 104) [] [.ptr 26 0, .ptr 27 0, .ptr 29 0, .ptr 31 0])] _
    refine sw_rangeFunc rfl rfl ?_
    clear ht hl'
    have hvz : ∀ e ∈ choicesOf q.cands, e.2.length ≤ 1073741824 := fun e he => by
      obtain ⟨f, hf, rfl⟩ := List.mem_map.1 he
      have := (List.mergeSort_perm (q.cands.map (·.1)) fun x y => decide (x ≤ y)).mem_iff.1 hf
      obtain ⟨e2, he2, rfl⟩ := List.mem_map.1 this
      have := alook_mem hW.maps.nd he2
      simp only [this, Option.getD_some, List.length_mergeSort]
      have := hW.maps.sz e2 he2
      omega
    have hz : ∀ e ∈ choicesOf q.cands, (st0 c.facts.length day).vs.getD e.1.toNat 0 = 0 := fun e _ => by
      simp only [st0, List.getD_eq_getElem?_getD, List.getElem?_replicate]
      split <;> rfl
    generalize hlp : SObj.loop .ready E.f _ _ _ _ _ = lp
    obtain ⟨Q, hQ⟩ : ∃ Q : List Int → List SObj → Prop, Q = fun vs H' => (∃ t', H'[32]? = some (doneOf lp t')) ∧ H'[18]? = some (.cells [sI day, .imm (dBools ((List.range c.facts.length).map fun (i : Nat) => (alook (i : Int) q.cands).isSome)), .imm (dInts vs), .imm (dInts vers)]) ∧ H'[19]? = some (.cells [sB true]) := ⟨_, rfl⟩
    subst hlp
    refine (seq_spec G0 hYW rfl c vers q (choicesOf q.cands) Q rfl rfl (by simp [choicesOf]; omega) (by omega) c.facts.length (by omega) hW.conds hvz ?_ (st0 c.facts.length day) hstv (hW.sr.rest day) hz).mono ?_
    · intro s hs1 hs2
      rw [hQ]
      clear hQ hK h4 ih
      refine syield_enter (b := 32) rfl E.hfn rfl (by decide) ?_
      intro E3 hl3 hOwn hKR
      (refine sgo_sound [777] 1000 ?_; conv => whnf)
      refine sw_begin hOwn rfl ?_
      refine Eq.mpr (congrArg (fun h => SW E3 _ _ h) (show _ = WA (XS (YW Y c.facts.length failed day) (srCells c vers q)) s (choicesOf q.cands) _ from rfl)) ?_
      refine sw_keep [1, 2, 3, 4, 9, 11] ?_
      show SW E3 _ [(1, .ptr 17 0), (2, .ptr 18 0), (3, .ptr 19 0), (4, .ptr 20 0), (9, .ptr 25 0), (11, .imm (dInts s.vs))] _
      (refine sgo_sound [777] 1000 ?_; conv => whnf)
      (refine swe_start 2 mixed rfl ?_; refine sgoe_sound [777] (nx := 35) ?_; conv => whnf)
      refine swe_mk 35 (n := c.facts.length) (zz := bvS false) rfl rfl rfl rfl rfl rfl rfl rfl rfl ⟨by decide, rfl⟩ rfl (fun _ => rfl) (Nat.le_refl 35) rfl rfl rfl (by omega) ?_
      (refine sgoe_sound [777] (nx := 36) ?_; conv => whnf)
      refine swe_pure rfl rfl rfl rfl rfl rfl (by simp [setw_length, WA, WH]) (cloneImm_spec G0 vers (by have := hW.vsz; omega)) ?_
      (refine sgoe_sound [777] (nx := 36) ?_; conv => whnf)
      refine sw_keep [1, 2, 3, 12] ?_
      refine Eq.mpr (congrArg (fun h => SW E3 _ _ h) (show _ = WA (XS (YW Y c.facts.length failed day) (srCells c vers q)) s (choicesOf q.cands) _ ++ [.cells (List.replicate c.facts.length (bvS false)), .cells [sI day, .osl 35 0 c.facts.length, .imm (dInts s.vs), .imm (dInts vers)]] from rfl)) ?_
      show SW E3 _ [(1, .ptr 17 0), (2, .ptr 18 0), (3, .ptr 19 0), (12, .ptr 36 0)] _
      refine sw_pin (b := 1) (es := encM (fun n : Nat => SV.map n) (q.cands.map fun e => (e.1, 3 + e.1.toNat))) (by show some (Y 1) = _; rw [hW.maps.out]) ?_
      intro es' clock hes hst2
      (refine sgo_sound [777] 1000 ?_; conv => whnf)
      refine swr_range rfl rfl rfl rfl rfl rfl ?_
      (refine sgor_sound [777] 1000 ?_; conv => whnf)
      refine sw_keep [1, 2, 3, 12, 69] ?_
      generalize hlpb : SObj.loop .busy E.f _ _ _ _ _ = lpb at hKR ⊢
      refine Eq.mpr (congrArg (fun h => SW E3 _ _ h) (show _ = (WA (XS (YW Y c.facts.length failed day) (srCells c vers q)) s (choicesOf q.cands) lpb).set 1 (.pin .i64 es' clock) ++ [.cells (List.replicate c.facts.length (bvS false)), .cells [sI day, .osl 35 0 c.facts.length, .imm (dInts s.vs), .imm (dInts vers)], .iter 1 clock [] clock] from rfl)) ?_
      have hX := hXW
      have aL : ((WA (XS (YW Y c.facts.length failed day) (srCells c vers q)) s (choicesOf q.cands) lpb).set 1 (.pin .i64 es' clock)).length = 35 := by rw [List.length_set]; rfl
      have a1 : ((WA (XS (YW Y c.facts.length failed day) (srCells c vers q)) s (choicesOf q.cands) lpb).set 1 (.pin .i64 es' clock))[1]? = some (.pin .i64 es' clock) := rfl
      have a18 : ((WA (XS (YW Y c.facts.length failed day) (srCells c vers q)) s (choicesOf q.cands) lpb).set 1 (.pin .i64 es' clock))[18]? = some (.cells zviewS) := rfl
      have a19 : ((WA (XS (YW Y c.facts.length failed day) (srCells c vers q)) s (choicesOf q.cands) lpb).set 1 (.pin .i64 es' clock))[19]? = some (.cells [sB false]) := rfl
      have a32 : ((WA (XS (YW Y c.facts.length failed day) (srCells c vers q)) s (choicesOf q.cands) lpb).set 1 (.pin .i64 es' clock))[32]? = some lpb := rfl
      have aU : ((WA (XS (YW Y c.facts.length failed day) (srCells c vers q)) s (choicesOf q.cands) lpb).set 1 (.pin .i64 es' clock)).all (SObj.under 35) = true := by
        refine all_set (WA_under hX s _ (by subst hlpb; rfl)) (pin_under ?_ hes)
        have := SObj.under_mono (m := 24) (n := 35) (by omega) _ (hX 1)
        rw [show XS (YW Y c.facts.length failed day) (srCells c vers q) 1 = .mapI .i64 (encM (fun n : Nat => SV.map n) (q.cands.map fun e => (e.1, 3 + e.1.toNat))) from hW.maps.out] at this
        exact this
      generalize (WA (XS (YW Y c.facts.length failed day) (srCells c vers q)) s (choicesOf q.cands) lpb).set 1 (.pin .i64 es' clock) = A at aL a1 a18 a19 a32 aU ⊢
      have hk1 : es'.map (·.2.1) = q.cands.map (·.1) := by
        have : es'.map (·.2.1) = (es'.map (·.2)).map (·.1) := by rw [List.map_map]; rfl
        rw [this, hes]
        simp [encM]
      have hk2 : ∀ x ∈ es', 0 ≤ x.2.1 ∧ x.2.1 < c.facts.length := fun x hx => by
        have h1 : x.2.1 ∈ q.cands.map (·.1) := by rw [← hk1]; exact List.mem_map.2 ⟨x, hx, rfl⟩
        have h2 : x.2.1 ∈ sortN (q.cands.map (·.1)) := (List.mergeSort_perm (q.cands.map (·.1)) fun x y => decide (x ≤ y)).mem_iff.2 h1
        have h3 := (hW.sr.rest day).rng (x.2.1, sortN ((alook x.2.1 q.cands).getD [])) (List.mem_map.2 ⟨_, h2, rfl⟩)
        rw [hstv] at h3
        exact h3
      rw [← hasL_nil]
      show SW E3 _ [(1, .ptr 17 0), (2, .ptr 18 0), (3, .ptr 19 0), (12, .ptr 36 0), (69, .ptr 37 0)] _
      refine sw_loop_ind (σ := List Nat × List Int) (fun _ => [(1, .ptr 17 0), (2, .ptr 18 0), (3, .ptr 19 0), (12, .ptr 36 0), (69, .ptr 37 0)]) (fun x => A ++ [.cells ((hasL c.facts.length x.2).map bvS), .cells [sI day, .osl 35 0 c.facts.length, .imm (dInts s.vs), .imm (dInts vers)], .iter 1 clock x.1 clock])
        (fun x => (x.2 ++ (leftE es' x.1).map (·.2.1)).Perm (es'.map (·.2.1))) (fun x => (leftE es' x.1).length) ?_ ([], []) (by simp [leftE_nil])
      rintro ⟨seen, done⟩ hp2 ih2
      simp only at hp2 ih2
      show SW E3 _ _ (A ++ [.cells ((hasL c.facts.length done).map bvS), .cells [sI day, .osl 35 0 c.facts.length, .imm (dInts s.vs), .imm (dInts vers)], .iter 1 clock seen clock])
      (refine sgo_sound [777] 1000 ?_; conv => whnf)
      refine swr_next rfl rfl rfl rfl (p_g2 aL _ _ _) (by rw [p_lo aL _ _ _ (by omega)]; exact a1) hst2 (Nat.le_refl _) (fun h0 => ?_) (fun e he => ?_)
      · have hdn : done.Perm (q.cands.map (·.1)) := by
          rw [h0, hk1] at hp2
          simpa using hp2
        have hall := hasL_all (nf := c.facts.length) hdn
        have hhl : (hasL c.facts.length done).length = c.facts.length := hasL_len _ _
        rw [← hall] at hKR
        generalize hasL c.facts.length done = has at hKR hhl ⊢
        have hck := chunks_one (has.map dB)
        rw [List.length_map, hhl] at hck
        refine swr_lift (fun k h => sw_shut 35 c.facts.length 1 (cs := has.map bvS) (ds := has.map dB) (p_g0 aL _ _ _) (by simp [SV.one]) (by rw [show has.map bvS = (has.map dB).map SV.imm by simp]; exact mapM_imm _) (by simp [hhl]) h) ?_
        rw [hck, p_s0 aL, List.map_append]
        have hdb : (D.isl 1 ((has.map dB).map fun d => [d])) = dBools has := by simp [dBools]
        rw [hdb]
        have hvw : [SObj.dead, .cells [sI day, .osl 35 0 c.facts.length, .imm (dInts s.vs), .imm (dInts vers)], .iter 1 clock seen clock].map (SObj.shut 35 c.facts.length (dBools has)) = [.dead, .cells [sI day, .imm (dBools has), .imm (dInts s.vs), .imm (dInts vers)], .iter 1 clock seen clock] := by
          simp [SObj.shut, SV.shut, SV.shut.shutL]
        rw [hvw]
        have bL : (A.map (SObj.shut 35 c.facts.length (dBools has))).length = 35 := by rw [List.length_map, aL]
        have b18 : (A.map (SObj.shut 35 c.facts.length (dBools has)))[18]? = some (.cells zviewS) := by rw [List.getElem?_map, a18]; rfl
        have b19 : (A.map (SObj.shut 35 c.facts.length (dBools has)))[19]? = some (.cells [sB false]) := by rw [List.getElem?_map, a19]; rfl
        have b32 : (A.map (SObj.shut 35 c.facts.length (dBools has)))[32]? = some (lpb.shut 35 c.facts.length (dBools has)) := by rw [List.getElem?_map, a32]; rfl
        generalize A.map (SObj.shut 35 c.facts.length (dBools has)) = B at bL b18 b19 b32 ⊢
        (refine sgor_sound [777, 78, 999] 1000 ?_; conv => whnf)
        refine swr_loadAt (v := .agg [sI day, .imm (dBools has), .imm (dInts s.vs), .imm (dInts vers)]) rfl rfl rfl rfl (p_g1 bL _ _ _) rfl ?_
        refine swr_storeAll (b := 18) (n := 4) rfl rfl rfl rfl rfl rfl rfl rfl (by rw [p_lo bL _ _ _ (by omega)]; exact b18) rfl ?_
        refine swr_storeAll (b := 19) (n := 1) rfl rfl rfl rfl rfl rfl rfl rfl (by rw [List.getElem?_set_ne (by decide), p_lo bL _ _ _ (by omega)]; exact b19) rfl ?_
        (refine sgor_sound [777] 1000 ?_; conv => whnf)
        subst hlpb
        have hne : ∀ x y : SObj, ∀ i, i ≠ 18 → i ≠ 19 → (((B ++ [SObj.dead, .cells [sI day, .imm (dBools has), .imm (dInts s.vs), .imm (dInts vers)], .iter 1 clock seen clock]).set 18 x).set 19 y)[i]? = (B ++ [SObj.dead, .cells [sI day, .imm (dBools has), .imm (dInts s.vs), .imm (dInts vers)], .iter 1 clock seen clock])[i]? := fun x y i h1 h2 => by
          rw [List.getElem?_set_ne (Ne.symm h2), List.getElem?_set_ne (Ne.symm h1)]
        have hBl : (B ++ [SObj.dead, .cells [sI day, .imm (dBools has), .imm (dInts s.vs), .imm (dInts vers)], .iter 1 clock seen clock]).length = 38 := by simp [bL]
        refine hKR (some .ret) _ _ ?_ ((hne _ _ 32 (by decide) (by decide)).trans ((p_lo bL _ _ _ (by decide)).trans b32)) ⟨rfl, ?_, ⟨_, List.getElem?_set_self ?_⟩, ?_, ?_⟩
        · rw [List.length_set, List.length_set, hBl]
          exact (by decide : 35 ≤ 38)
        · rw [List.length_set, List.length_set, List.length_set, hBl]
          decide
        · rw [List.length_set, List.length_set, hBl]
          decide
        · rw [List.getElem?_set_ne (by decide), List.getElem?_set_ne (by decide), List.getElem?_set_self (by rw [hBl]; decide)]
        · rw [List.getElem?_set_ne (by decide), List.getElem?_set_self (by rw [List.length_set, hBl]; decide)]
          rfl
      · rw [p_s2 aL]
        obtain ⟨e1, f, e3⟩ := e
        have hperm := leftE_perm hst2.1 he
        have hpl := hperm.length_eq
        have hpm := hperm.map (·.2.1)
        simp only [List.map_cons, List.length_cons] at hpm hpl
        have hfr := hk2 _ (mem_leftE he)
        simp only at hfr
        have hfl2 : f.toNat < (hasL c.facts.length done).length := by rw [hasL_len]; omega
        (refine sgor_sound [777, 73] 1000 ?_; conv => whnf)
        refine swr_entry rfl rfl rfl rfl (p_g2 aL _ _ _) (by rw [p_lo aL _ _ _ (by omega)]; exact a1) (mem_leftE he) ?_
        (refine sgor_sound [777, 75] 1000 ?_; conv => whnf)
        refine swr_loadAt (v := .osl 35 0 c.facts.length) rfl rfl rfl rfl (p_g1 aL _ _ _) rfl ?_
        (refine sgor_sound [777, 999] 1000 ?_; conv => whnf)
        refine swr_own (i := f.toNat) rfl rfl rfl rfl rfl rfl rfl (show f = ((f.toNat : Nat) : Int) by omega) (by omega) ?_
        refine swr_storeAt (d := ((hasL c.facts.length done).take f.toNat).map bvS) (zz := bvS ((hasL c.facts.length done)[f.toNat]'hfl2)) (r := ((hasL c.facts.length done).drop (f.toNat + 1)).map bvS) (v := bvS true) rfl rfl rfl rfl rfl rfl rfl rfl (by rw [← split_map]; exact p_g0 aL _ _ _) (by show 0 + f.toNat * 1 = _; rw [List.length_map, List.length_take]; omega) ?_
        rw [p_s0 aL, set_map _ _ _ hfl2, hasL_set hfr]
        (refine sgor_sound [777] 1000 ?_; conv => whnf)
        refine sw_kc [1, 2, 3, 12, 69] 38 (by rw [hl3]; exact (by decide : 35 ≤ 38)) (by simp [aL]) rfl ?_ ?_
        · rw [List.take_of_length_le (by simp [aL]), List.all_append, allObj_mono (m := 35) (by omega) aU]
          simp only [List.all_cons, List.all_nil, cellsU, allU_map (f := bvS) (fun _ => rfl), Bool.and_true, Bool.true_and]
          rfl
        · rw [List.take_of_length_le (by simp [aL])]
          exact ih2 (seen ++ [e1], done ++ [f]) (by
            refine List.Perm.trans ?_ hp2
            simp only [List.append_assoc, List.cons_append, List.nil_append]
            exact (List.Perm.refl done).append hpm.symm) (by simp only; omega)
    · rintro r H' ⟨hl', hs, hnone⟩
      refine ⟨hl', ?_⟩
      cases hres : assignGo q.conds (choicesOf q.cands) (st0 c.facts.length day) with
      | some vs =>
        have hs' := hs vs hres
        rw [hQ] at hs'
        obtain ⟨⟨t', g1⟩, g2, g3⟩ := hs'
        rw [hres] at h4
        simp only at h4
        rw [h4] at hK
        refine ⟨.done .ret, t', g1, .inr ⟨.ret, rfl, ?_⟩⟩
        have k2 : (H'.set 32 .dead)[18]? = some (.cells [sI day, .imm (dBools ((List.range c.facts.length).map fun (i : Nat) => (alook (i : Int) q.cands).isSome)), .imm (dInts vs), .imm (dInts vers)]) := by rw [List.getElem?_set_ne (by decide)]; exact g2
        have k3 : (H'.set 32 .dead)[19]? = some (.cells [sB true]) := by rw [List.getElem?_set_ne (by decide)]; exact g3
        show SW E _ _ (H'.set 32 .dead)
        generalize H'.set 32 .dead = H2 at k2 k3
        have l2 : sopLoad Tryz.prog 31 H2 (.ptr 18 0) = some (.agg [sI day, .imm (dBools ((List.range c.facts.length).map fun (i : Nat) => (alook (i : Int) q.cands).isSome)), .imm (dInts vs), .imm (dInts vers)]) := by
          unfold sopLoad
          simp only [k2]
          rfl
        have l3 : sopLoad Tryz.prog 4 H2 (.ptr 19 0) = some (sB true) := by
          unfold sopLoad
          simp only [k3]
          rfl
        refine sw_ret (r := .tup [.agg [sI day, .imm (dBools ((List.range c.facts.length).map fun (i : Nat) => (alook (i : Int) q.cands).isSome)), .imm (dInts vs), .imm (dInts vers)], sB true]) ?_ (hK _ _ rfl)
        show (match List.mapM (sresult Tryz.prog H2 _) [ResultVar.cell 2 31, ResultVar.cell 3 4] with | some [s] => some s | some l => some (.tup l) | none => none) = _
        simp only [List.mapM_cons, List.mapM_nil, sresult]
        show (match (do let a ← sopLoad Tryz.prog 31 H2 (.ptr 18 0); let b ← (do let a ← sopLoad Tryz.prog 4 H2 (.ptr 19 0); let b ← (some []); some (a :: b)); some (a :: b)) with | some [s] => some s | some l => some (.tup l) | none => none) = _
        rw [l2, l3]
        rfl
      | none =>
        have ht := hnone hres
        rw [hres] at h4
        simp only at h4
        have hg : H'[32]? = (H'.take 33)[32]? := by rw [List.getElem?_take, if_pos (by omega)]
        refine ⟨.ready, _, by show H'[32]? = _; rw [hg, ht]; rfl, .inl ⟨rfl, ?_⟩⟩
        show SW E _ _ (H'.set 32 .dead)
        have ht2 : (H'.set 32 .dead).take 26 = WD Y c vers q failed day (partsOf day) := by
          rw [List.take_set_of_le (by omega)]
          have : H'.take 26 = (H'.take 33).take 26 := by rw [List.take_take]; rfl
          rw [this, ht]
          rfl
        refine sw_kc [1, 2, 3, 4, 5, 6, 8, 9, 10] 26 (by rw [hH]; exact (by decide : 17 ≤ 26)) (by rw [List.length_set]; omega) rfl ?_ ?_
        · rw [ht2]
          unfold WD
          rw [List.all_append, allObj_mono (m := 24) (by omega) (WH_under hXW _)]
          simp only [List.all_cons, List.all_nil, failS_under, Bool.and_true, Bool.true_and]
          rfl
        · rw [ht2]
          show SW E _ [(1, .ptr 17 0), (2, .ptr 18 0), (3, .ptr 19 0), (4, .ptr 20 0), (5, .ptr 23 0), (6, .map 24), (8, sI to), (9, .ptr 25 0), (10, sS g)] _
          (refine sgo_sound [777] 1000 ?_; conv => whnf)
          refine swr_setS (b := 24) (l := failed.map fun g => (g, true)) sB true rfl rfl rfl rfl rfl rfl rfl rfl rfl ?_
          rw [ains_new hm]
          (refine sgor_sound [777] 1000 ?_; conv => whnf)
          rw [wrap64 (c := day + 1) (by omega) (by omega)]
          refine sw_keep [1, 2, 3, 4, 5, 6, 8, 9] ?_
          refine Eq.mpr (congrArg (fun h => SW E _ _ h) (show _ = (WH (XW Y c vers q (failed ++ [g]) day) (s00 c.facts.length (partsOf day)) ++ [failS (failed ++ [g])]) ++ [.cells [sI day], .cells [sI (day + 1)]] from rfl)) ?_
          refine sw_newVar (n0 := 25) (t0 := [(1, .ptr 17 0), (2, .ptr 18 0), (3, .ptr 19 0), (4, .ptr 20 0), (5, .ptr 23 0), (6, .map 24), (8, sI to)]) (v := 9) rfl (by rw [hH]; exact (by decide : 17 ≤ 25)) (huA (failed ++ [g])) rfl rfl ?_
          exact ih (n', day + 1, failed ++ [g], partsOf day) ⟨by simp only; omega, by simp only; omega, .inr ⟨by simp only; omega, by simp only; rw [show day + 1 - 1 = day by omega]⟩, h4⟩ (by simp only; omega)
  · have hn0 : n = 0 := by omega
    subst hn0
    simp only [witGo] at h4
    rw [h4] at hK
    exact hK _ _ rfl
end Go.Proofs.YtblpjknmhajcgaaGreatDoor

/- The search is made: candidates (contract). -/
namespace Go.Proofs.YtblpjknmhajcgaaGreatDoor
open Go Go.Sh
set_option maxRecDepth 10000
set_option maxHeartbeats 4000000
variable (G : List (Nat × D))

def outO (m : List (Int × List Int)) : SObj := .mapI .i64 (encM (fun n : Nat => SV.map n) (m.map fun e => (e.1, 3 + e.1.toNat)))
def innO (vals : List Int) : SObj := .mapI .i64 (encM sB (vals.map fun v => (v, true)))
def facO (m : List (Int × List Int)) (i : Nat) : SObj :=
  match alook (i : Int) m with
  | some vals => innO vals
  | none => .free
/-- the heap of a search: two objects, its maps, its own cells, the tokens of its slices -/
def NSm (o0 o1 o2 : SObj) (m : List (Int × List Int)) (ta tb : Nat) : List SObj := [o0, o1, o2] ++ ((List.range 12).map (facO m) ++ [.tok 1 ta, .tok 5 tb])
def cdxO (c : Codex) : SObj := .cells [.imm (dDecls c.facts), .imm (dDecls c.lines), .imm (dArts c.arts)]
def NS (c : Codex) (vers : List Int) (q : Sr) : List SObj := NSm (cdxO c) (outO q.cands) (.cells (srCells c vers q)) q.cands q.conds.length q.atoms.length
theorem innO_under (vals : List Int) (n : Nat) : (innO vals).under n = true := by
  simp only [innO, SObj.under, encM, List.map_map, List.all_map, List.all_eq_true]
  intro x _
  rfl
theorem facO_under (m : List (Int × List Int)) (i n : Nat) : (facO m i).under n = true := by
  unfold facO
  split
  · exact innO_under _ _
  · rfl
theorem outO_under {m : List (Int × List Int)} (h : ∀ e ∈ m, 0 ≤ e.1 ∧ e.1 < 12) : (outO m).under 17 = true := by
  simp only [outO, SObj.under, encM, List.map_map, List.all_map, List.all_eq_true]
  intro e he
  have := h e he
  simp only [Function.comp, SV.under, decide_eq_true_eq]
  omega
theorem NS_under {c : Codex} {vers : List Int} {q : Sr} (h : ∀ e ∈ q.cands, 0 ≤ e.1 ∧ e.1 < 12) : (NS c vers q).all (SObj.under 17) = true := by
  unfold NS NSm
  rw [List.all_append, List.all_append]
  simp only [List.all_cons, List.all_nil, outO_under h, Bool.and_true, Bool.true_and]
  have : ((List.range 12).map (facO q.cands)).all (SObj.under 17) = true := by
    rw [List.all_map, List.all_eq_true]
    intro i _
    exact facO_under _ _ _
  rw [this]
  rfl
theorem NSm_get {o0 o1 o2 : SObj} {m : List (Int × List Int)} {ta tb i : Nat} (h : i < 12) : (NSm o0 o1 o2 m ta tb)[3 + i]? = some (facO m i) := by
  unfold NSm
  rw [List.getElem?_append_right (by simp), List.getElem?_append_left (by simp; omega)]
  simp only [List.length_cons, List.length_nil, List.getElem?_map]
  rw [show 3 + i - (0 + 1 + 1 + 1) = i by omega, List.getElem?_range (by omega)]
  rfl
theorem NSm_set {o0 o1 o2 ob : SObj} {m m' : List (Int × List Int)} {ta tb i : Nat} (h : i < 12) (h1 : facO m' i = ob) (h2 : ∀ j : Nat, j ≠ i → facO m' j = facO m j) : (NSm o0 o1 o2 m ta tb).set (3 + i) ob = NSm o0 o1 o2 m' ta tb := by
  unfold NSm
  rw [List.set_append_right _ _ (by simp), List.set_append_left _ _ (by simp; omega)]
  congr 2
  apply List.ext_getElem
  · simp
  · intro j g1 g2
    rw [List.getElem_set]
    simp only [List.length_cons, List.length_nil, List.getElem_map, List.getElem_range]
    split
    · rename_i e
      have : j = i := by omega
      rw [this, h1]
    · rename_i e
      rw [h2 j (by omega)]
theorem alook_ains_self {α : Type} (k : Int) (v : α) (m : List (Int × α)) : alook k (ains k v m) = some v := by rw [alook_ains]; simp
theorem facO_other {m : List (Int × List Int)} {f : Int} {vals : List Int} {i j : Nat} (hf : f = i) (h : j ≠ i) : facO (ains f vals m) j = facO m j := by
  unfold facO
  rw [alook_ains]
  have : ¬ ((j : Int) == f) = true := by simp; omega
  rw [if_neg this]
theorem out_ains (f : Int) (vals : List Int) : ∀ m : List (Int × List Int), ((ains f vals m).map fun e => (e.1, 3 + e.1.toNat)) = ains f (3 + f.toNat) (m.map fun e => (e.1, 3 + e.1.toNat))
  | [] => rfl
  | (k, v) :: m => by
    simp only [ains, List.map_cons]
    by_cases h : (f == k) = true
    · rw [if_pos h, if_pos h]; rfl
    · rw [if_neg h, if_neg h, List.map_cons, out_ains f vals m]
theorem ains_same {α : Type} {k : Int} {v : α} : ∀ {m : List (Int × α)}, alook k m = some v → (m.map (·.1)).Nodup → ains k v m = m
  | [], h, _ => by simp [alook] at h
  | (k', v') :: m, h, hn => by
    simp only [alook] at h
    simp only [ains]
    simp only [List.map_cons, List.nodup_cons] at hn
    split
    · rename_i e
      rw [if_pos e] at h
      cases h
      have : k = k' := by simpa using e
      rw [this]
    · rename_i e
      rw [if_neg e] at h
      rw [ains_same h hn.2]
theorem inn_ains (v : Int) : ∀ vals : List Int, ains v true (vals.map fun v => (v, true)) = (if v ∈ vals then vals else vals ++ [v]).map fun v => (v, true)
  | [] => rfl
  | x :: l => by
    simp only [List.map_cons, ains, List.mem_cons]
    by_cases h : v = x
    · subst h; simp
    · have : ¬ (v == x) = true := by simpa using h
      rw [if_neg this, inn_ains v l]
      by_cases hm : v ∈ l
      · simp [h, hm]
      · simp [h, hm]
theorem keys_ains {α : Type} (k : Int) (v : α) : ∀ m : List (Int × α), (ains k v m).map (·.1) = if k ∈ m.map (·.1) then m.map (·.1) else m.map (·.1) ++ [k]
  | [] => rfl
  | (k', v') :: m => by
    simp only [ains, List.map_cons, List.mem_cons]
    by_cases h : k = k'
    · subst h; simp
    · have : ¬ (k == k') = true := by simpa using h
      rw [if_neg this, List.map_cons, keys_ains k v m]
      by_cases hm : k ∈ m.map (·.1)
      · rw [if_pos hm, if_pos (.inr hm)]
      · rw [if_neg hm, if_neg (fun e => e.elim h hm)]; rfl
/-- candidates as they are kept -/
structure CandsOK (m : List (Int × List Int)) : Prop where
  rng : ∀ e ∈ m, 0 ≤ e.1 ∧ e.1 < 12
  nd : (m.map (·.1)).Nodup
theorem mem_ains {α : Type} {k : Int} {v : α} {e : Int × α} : ∀ {m : List (Int × α)}, e ∈ ains k v m → e = (k, v) ∨ e ∈ m
  | [], h => by simp [ains] at h; exact .inl h
  | (k', v') :: m, h => by
    simp only [ains] at h
    split at h
    · rcases List.mem_cons.1 h with h | h
      · exact .inl h
      · exact .inr (List.mem_cons_of_mem _ h)
    · rcases List.mem_cons.1 h with h | h
      · exact .inr (h ▸ List.mem_cons_self ..)
      · rcases mem_ains h with h | h
        · exact .inl h
        · exact .inr (List.mem_cons_of_mem _ h)
theorem CandsOK.ains {m : List (Int × List Int)} (h : CandsOK m) {f : Int} (hf : 0 ≤ f ∧ f < 12) (vals : List Int) : CandsOK (ains f vals m) := by
  refine ⟨fun e he => ?_, ?_⟩
  · rcases mem_ains he with rfl | he
    · exact hf
    · exact h.rng e he
  · rw [keys_ains]
    split
    · exact h.nd
    · rename_i hn
      rw [List.nodup_append]
      exact ⟨h.nd, by simp, fun a ha b hb => by simp at hb; subst hb; rintro rfl; exact hn ha⟩

theorem ains_twice {α : Type} (k : Int) (v v' : α) : ∀ m : List (Int × α), ains k v (ains k v' m) = ains k v m
  | [] => by simp [ains]
  | (k', x) :: m => by
    simp only [ains]
    split
    · rename_i h
      simp [ains]
    · rename_i h
      simp only [ains]
      rw [if_neg h, ains_twice k v v' m]
theorem alook_out (f : Int) : ∀ m : List (Int × List Int), alook f (m.map fun e => (e.1, 3 + e.1.toNat)) = (alook f m).map fun _ => 3 + f.toNat
  | [] => rfl
  | (k, v) :: m => by
    simp only [List.map_cons, alook]
    by_cases h : (f == k) = true
    · rw [if_pos h, if_pos h]
      have : f = k := by simpa using h
      subst this
      rfl
    · rw [if_neg h, if_neg h, alook_out f m]
theorem outO_same (f : Int) (a b : List Int) (m : List (Int × List Int)) : outO (ains f a m) = outO (ains f b m) := by unfold outO; rw [out_ains, out_ains]
theorem NS_get {c : Codex} {vers : List Int} {q : Sr} {f : Int} (hf : 0 ≤ f ∧ f < 12) : (NS c vers q)[3 + f.toNat]? = some (match alook f q.cands with | some vals => innO vals | none => .free) := by
  unfold NS
  rw [NSm_get (by omega)]
  unfold facO
  rw [Int.toNat_of_nonneg hf.1]
/-- a fact's set is put down -/
theorem NS_put {c : Codex} {vers : List Int} {q : Sr} {f : Int} {vals : List Int} (hf : 0 ≤ f ∧ f < 12) :
    (NSm (cdxO c) (outO q.cands) (.cells (srCells c vers q)) q.cands q.conds.length q.atoms.length).set (3 + f.toNat) (innO vals)
      = NSm (cdxO c) (outO q.cands) (.cells (srCells c vers q)) (ains f vals q.cands) q.conds.length q.atoms.length := by
  refine NSm_set (by omega) ?_ (fun j hj => facO_other (i := f.toNat) (by omega) hj)
  unfold facO
  rw [Int.toNat_of_nonneg hf.1, alook_ains_self]

theorem candidate_spec (c : Codex) (vers : List Int) (q : Sr) (f : Int) (vs : List Int) (hf : 0 ≤ f ∧ f < 12) (hq : CandsOK q.cands) (hsz : vs.length ≤ 1000) :
    SPre Tryz.prog G 95 [.ptr 2 0, sI f, .imm (dInts vs)] (NS c vers q) (fun r H' => r = .tup [] ∧ H' = NS c vers (q.cand f vs)) := by
  refine spre_enter Tryz.func95 rfl (by rw [Tryz.ntmps95]; simp) rfl (NS_under hq.rng) ?_
  intro E hH hK
  (refine sgo_sound [777] 1000 ?_; conv => whnf)
  cases hlk : alook f q.cands with
  | none =>
    refine swr_lookI (b := 1) (fun n : Nat => SV.map n) rfl rfl rfl rfl rfl rfl rfl rfl rfl (v := .imm (.val (.map none))) (by rw [alook_out, hlk]; rfl) ?_
    refine swr_mapNil' rfl rfl rfl rfl rfl rfl ?_
    (refine sgor_sound [777, 20] 1000 ?_; conv => whnf)
    refine swr_free (3 + f.toNat) (r := .map (NS c vers q).length) (ob := .mapI .i64 []) rfl rfl ?_ (show (NS c vers q)[3 + f.toNat]? = some .free from by rw [NS_get hf, hlk]) rfl (by rw [show (NS c vers q).length = 17 from rfl]; rfl) rfl ?_
    · intro c e; cases e
    have hsv : (SV.map (NS c vers q).length).mv (NS c vers q).length (3 + f.toNat) = .map (3 + f.toNat) := by simp [SV.mv]
    rw [hsv]
    rw [show (SObj.mapI .i64 []) = innO [] from rfl]
    rw [show NS c vers q = NSm (cdxO c) (outO q.cands) (.cells (srCells c vers q)) q.cands q.conds.length q.atoms.length from rfl, NS_put hf]
    refine swr_setI (b := 1) (fun n : Nat => SV.map n) (3 + f.toNat) rfl rfl rfl rfl rfl rfl rfl rfl rfl ?_
    rw [← out_ains f []]
    refine Eq.mpr (congrArg (fun h => SWr E _ _ _ _ h) (show _ = NS c vers { q with cands := ains f [] q.cands } from rfl)) ?_
    (refine sgor_sound [777] 1000 ?_; conv => whnf)
    obtain ⟨q1, vals1, hq1, hal1, hc1, hr1⟩ : ∃ (q1 : Sr) (vals1 : List Int), { q with cands := ains f [] q.cands } = q1 ∧ alook f q1.cands = some vals1 ∧ CandsOK q1.cands ∧ ∀ vs', q.cand f vs' = { q1 with cands := ains f (vs'.foldl setAdd vals1) q1.cands } := by
      refine ⟨_, [], rfl, alook_ains_self _ _ _, hq.ains hf _, fun vs' => ?_⟩
      simp only [Sr.cand, candAdd, hlk, Option.getD_none, ains_twice]
    rw [hq1]
    refine sw_keep [0, 1, 21, 22, 23] ?_
    have hvl : ∀ l : List Int, ({ q1 with cands := ains f vals1 q1.cands } : Sr) = q1 := fun _ => by rw [ains_same hal1 hc1.nd]
    clear hq1 hlk
    have hml : (vs.map fun n => [dI n]).length = vs.length := by simp
    refine Eq.mpr (congrArg (fun h => SW E _ _ h) (show _ = NS c vers { q1 with cands := ains f vals1 q1.cands } by rw [hvl []])) ?_
    refine sw_each vs (fun i (_ : List Int) => [(0, .ptr 2 0), (1, sI f), (21, .imm (dInts vs)), (22, sI (vs.map fun n => [dI n]).length), (23, sI i)])
      (fun _ l => NS c vers { q1 with cands := ains f l q1.cands }) (fun done rest l => l = done.foldl setAdd vals1) vals1 rfl ?_ ?_
    · rintro _ rfl
      (refine sgo_sound [777] 1000 ?_; conv => whnf)
      repeat' ((with_reducible first | refine bdec (fun h => ?_) (fun h => ?_) | refine bndec (fun h => ?_) (fun h => ?_) | refine bwtd (fun h => ?_) (fun h => ?_) | refine bwfd (fun h => ?_) (fun h => ?_) | refine bwtn (fun h => ?_) (fun h => ?_) | refine bwfn (fun h => ?_) (fun h => ?_) | refine bwtb (fun h => ?_) (fun h => ?_) | refine bwfb (fun h => ?_) (fun h => ?_) | refine bwt (fun h => ?_) (fun h => ?_) | refine bwf (fun h => ?_) (fun h => ?_) | refine bnt (fun h => ?_) (fun h => ?_) | refine bcase (fun h => ?_) (fun h => ?_)) <;> (conv => whnf))
      all_goals try (exfalso; omega)
      refine hK _ _ (Nat.le_refl _) rfl (by rw [show (NS c vers q).length = 17 from rfl]; exact NS_under (q := { q1 with cands := ains f _ q1.cands }) (hc1.ains hf _).rng) ⟨rfl, ?_⟩
      rw [hr1]
      exact List.take_of_length_le (Nat.le_refl 17)
    · rintro done v rest _ ha hlen rfl ih
      have hw := wrap_succ (n := done.length) (by omega)
      have hrow : (vs.map fun n => [dI n])[((done.length : Nat) : Int).toNat]? = some [dI v] := by simp [ha]
      generalize hl : done.foldl setAdd vals1 = l at ih ⊢
      have hfold : (done ++ [v]).foldl setAdd vals1 = setAdd l v := by rw [List.foldl_append, hl]; rfl
      (refine sgo_sound [777] 1000 ?_; conv => whnf)
      repeat' ((with_reducible first | refine bdec (fun h => ?_) (fun h => ?_) | refine bndec (fun h => ?_) (fun h => ?_) | refine bwtd (fun h => ?_) (fun h => ?_) | refine bwfd (fun h => ?_) (fun h => ?_) | refine bwtn (fun h => ?_) (fun h => ?_) | refine bwfn (fun h => ?_) (fun h => ?_) | refine bwtb (fun h => ?_) (fun h => ?_) | refine bwfb (fun h => ?_) (fun h => ?_) | refine bwt (fun h => ?_) (fun h => ?_) | refine bwf (fun h => ?_) (fun h => ?_) | refine bnt (fun h => ?_) (fun h => ?_) | refine bcase (fun h => ?_) (fun h => ?_)) <;> (conv => whnf))
      all_goals try (exfalso; omega)
      refine swr_index rfl rfl rfl rfl rfl rfl rfl rfl  hrow ?_
      (refine sgor_sound [777] 1000 ?_; conv => whnf)
      repeat' ((with_reducible first | refine bdec (fun h => ?_) (fun h => ?_) | refine bndec (fun h => ?_) (fun h => ?_) | refine bwtd (fun h => ?_) (fun h => ?_) | refine bwfd (fun h => ?_) (fun h => ?_) | refine bwtn (fun h => ?_) (fun h => ?_) | refine bwfn (fun h => ?_) (fun h => ?_) | refine bwtb (fun h => ?_) (fun h => ?_) | refine bwfb (fun h => ?_) (fun h => ?_) | refine bwt (fun h => ?_) (fun h => ?_) | refine bwf (fun h => ?_) (fun h => ?_) | refine bnt (fun h => ?_) (fun h => ?_) | refine bcase (fun h => ?_) (fun h => ?_)) <;> (conv => whnf))
      · have hs : setAdd l v = if v ∈ l then l else l ++ [v] := by unfold setAdd; rw [if_pos (by assumption)]
        refine swr_lookI (b := 1) (fun n : Nat => SV.map n) rfl rfl rfl rfl rfl rfl rfl rfl rfl (v := .map (3 + f.toNat)) (by rw [alook_out, alook_ains_self]; rfl) ?_
        (refine sgor_sound [777] 1000 ?_; conv => whnf)
        refine swr_setI (b := 3 + f.toNat) (l := l.map fun v => (v, true)) sB true rfl rfl rfl rfl rfl rfl rfl rfl (by rw [NS_get hf]; simp only [alook_ains_self]; rfl) ?_
        rw [inn_ains, ← hs]
        refine Eq.mpr (congrArg (fun h => SWr E _ _ _ _ h) (show _ = NS c vers { q1 with cands := ains f (setAdd l v) q1.cands } from (NS_put (q := { q1 with cands := ains f l q1.cands }) hf).trans (by simp only [ains_twice]; rw [outO_same f l (setAdd l v)]; rfl))) ?_
        (refine sgor_sound [777] 1000 ?_; conv => whnf)
        rw [hw]
        refine sw_keep [0, 1, 21, 22, 23] ?_
        exact ih _ hfold.symm
      · have hs : setAdd l v = l := by unfold setAdd; rw [if_neg (by assumption)]
        rw [hw]
        refine sw_keep [0, 1, 21, 22, 23] ?_
        exact ih _ (by rw [hfold, hs])
  | some vals =>
    refine swr_lookI (b := 1) (fun n : Nat => SV.map n) rfl rfl rfl rfl rfl rfl rfl rfl rfl (v := .map (3 + f.toNat)) (by rw [alook_out, hlk]; rfl) ?_
    refine swr_mapNil (b := 3 + f.toNat) rfl rfl rfl rfl rfl rfl ?_
    (refine sgor_sound [777] 1000 ?_; conv => whnf)
    obtain ⟨q1, vals1, hq1, hal1, hc1, hr1⟩ : ∃ (q1 : Sr) (vals1 : List Int), q = q1 ∧ alook f q1.cands = some vals1 ∧ CandsOK q1.cands ∧ ∀ vs', q.cand f vs' = { q1 with cands := ains f (vs'.foldl setAdd vals1) q1.cands } :=
      ⟨q, vals, rfl, hlk, hq, fun vs' => by simp only [Sr.cand, candAdd, hlk, Option.getD_some]⟩
    refine sw_keep [0, 1, 21, 22, 23] ?_
    rw [show NS c vers q = NS c vers q1 by rw [hq1]]
    have hvl : ∀ l : List Int, ({ q1 with cands := ains f vals1 q1.cands } : Sr) = q1 := fun _ => by rw [ains_same hal1 hc1.nd]
    clear hq1 hlk
    have hml : (vs.map fun n => [dI n]).length = vs.length := by simp
    refine Eq.mpr (congrArg (fun h => SW E _ _ h) (show _ = NS c vers { q1 with cands := ains f vals1 q1.cands } by rw [hvl []])) ?_
    refine sw_each vs (fun i (_ : List Int) => [(0, .ptr 2 0), (1, sI f), (21, .imm (dInts vs)), (22, sI (vs.map fun n => [dI n]).length), (23, sI i)])
      (fun _ l => NS c vers { q1 with cands := ains f l q1.cands }) (fun done rest l => l = done.foldl setAdd vals1) vals1 rfl ?_ ?_
    · rintro _ rfl
      (refine sgo_sound [777] 1000 ?_; conv => whnf)
      repeat' ((with_reducible first | refine bdec (fun h => ?_) (fun h => ?_) | refine bndec (fun h => ?_) (fun h => ?_) | refine bwtd (fun h => ?_) (fun h => ?_) | refine bwfd (fun h => ?_) (fun h => ?_) | refine bwtn (fun h => ?_) (fun h => ?_) | refine bwfn (fun h => ?_) (fun h => ?_) | refine bwtb (fun h => ?_) (fun h => ?_) | refine bwfb (fun h => ?_) (fun h => ?_) | refine bwt (fun h => ?_) (fun h => ?_) | refine bwf (fun h => ?_) (fun h => ?_) | refine bnt (fun h => ?_) (fun h => ?_) | refine bcase (fun h => ?_) (fun h => ?_)) <;> (conv => whnf))
      all_goals try (exfalso; omega)
      refine hK _ _ (Nat.le_refl _) rfl (by rw [show (NS c vers q).length = 17 from rfl]; exact NS_under (q := { q1 with cands := ains f _ q1.cands }) (hc1.ains hf _).rng) ⟨rfl, ?_⟩
      rw [hr1]
      exact List.take_of_length_le (Nat.le_refl 17)
    · rintro done v rest _ ha hlen rfl ih
      have hw := wrap_succ (n := done.length) (by omega)
      have hrow : (vs.map fun n => [dI n])[((done.length : Nat) : Int).toNat]? = some [dI v] := by simp [ha]
      generalize hl : done.foldl setAdd vals1 = l at ih ⊢
      have hfold : (done ++ [v]).foldl setAdd vals1 = setAdd l v := by rw [List.foldl_append, hl]; rfl
      (refine sgo_sound [777] 1000 ?_; conv => whnf)
      repeat' ((with_reducible first | refine bdec (fun h => ?_) (fun h => ?_) | refine bndec (fun h => ?_) (fun h => ?_) | refine bwtd (fun h => ?_) (fun h => ?_) | refine bwfd (fun h => ?_) (fun h => ?_) | refine bwtn (fun h => ?_) (fun h => ?_) | refine bwfn (fun h => ?_) (fun h => ?_) | refine bwtb (fun h => ?_) (fun h => ?_) | refine bwfb (fun h => ?_) (fun h => ?_) | refine bwt (fun h => ?_) (fun h => ?_) | refine bwf (fun h => ?_) (fun h => ?_) | refine bnt (fun h => ?_) (fun h => ?_) | refine bcase (fun h => ?_) (fun h => ?_)) <;> (conv => whnf))
      all_goals try (exfalso; omega)
      refine swr_index rfl rfl rfl rfl rfl rfl rfl rfl  hrow ?_
      (refine sgor_sound [777] 1000 ?_; conv => whnf)
      repeat' ((with_reducible first | refine bdec (fun h => ?_) (fun h => ?_) | refine bndec (fun h => ?_) (fun h => ?_) | refine bwtd (fun h => ?_) (fun h => ?_) | refine bwfd (fun h => ?_) (fun h => ?_) | refine bwtn (fun h => ?_) (fun h => ?_) | refine bwfn (fun h => ?_) (fun h => ?_) | refine bwtb (fun h => ?_) (fun h => ?_) | refine bwfb (fun h => ?_) (fun h => ?_) | refine bwt (fun h => ?_) (fun h => ?_) | refine bwf (fun h => ?_) (fun h => ?_) | refine bnt (fun h => ?_) (fun h => ?_) | refine bcase (fun h => ?_) (fun h => ?_)) <;> (conv => whnf))
      · have hs : setAdd l v = if v ∈ l then l else l ++ [v] := by unfold setAdd; rw [if_pos (by assumption)]
        refine swr_lookI (b := 1) (fun n : Nat => SV.map n) rfl rfl rfl rfl rfl rfl rfl rfl rfl (v := .map (3 + f.toNat)) (by rw [alook_out, alook_ains_self]; rfl) ?_
        (refine sgor_sound [777] 1000 ?_; conv => whnf)
        refine swr_setI (b := 3 + f.toNat) (l := l.map fun v => (v, true)) sB true rfl rfl rfl rfl rfl rfl rfl rfl (by rw [NS_get hf]; simp only [alook_ains_self]; rfl) ?_
        rw [inn_ains, ← hs]
        refine Eq.mpr (congrArg (fun h => SWr E _ _ _ _ h) (show _ = NS c vers { q1 with cands := ains f (setAdd l v) q1.cands } from (NS_put (q := { q1 with cands := ains f l q1.cands }) hf).trans (by simp only [ains_twice]; rw [outO_same f l (setAdd l v)]; rfl))) ?_
        (refine sgor_sound [777] 1000 ?_; conv => whnf)
        rw [hw]
        refine sw_keep [0, 1, 21, 22, 23] ?_
        exact ih _ hfold.symm
      · have hs : setAdd l v = l := by unfold setAdd; rw [if_neg (by assumption)]
        rw [hw]
        refine sw_keep [0, 1, 21, 22, 23] ?_
        exact ih _ (by rw [hfold, hs])
end Go.Proofs.YtblpjknmhajcgaaGreatDoor

/- What a version needs (contracts). -/
namespace Go.Proofs.YtblpjknmhajcgaaGreatDoor
open Go Go.Sh
set_option maxRecDepth 10000
set_option maxHeartbeats 4000000
variable (G : List (Nat × D))

def addNums (m : List (Int × Bool)) (ns : List Int) : List (Int × Bool) := ns.foldl (fun m n => ains n true m) m
theorem addNums_app (m : List (Int × Bool)) (a b : List Int) : addNums m (a ++ b) = addNums (addNums m a) b := List.foldl_append
theorem addNums_look (k : Int) : ∀ (ns : List Int) (m : List (Int × Bool)), alook k (addNums m ns) = if k ∈ ns then some true else alook k m
  | [], m => by simp [addNums]
  | n :: ns, m => by
    show alook k (addNums (ains n true m) ns) = _
    rw [addNums_look k ns, alook_ains]
    by_cases h : k ∈ ns
    · simp [h]
    · rw [if_neg h]
      by_cases h2 : k = n
      · subst h2; simp
      · have : ¬ (k == n) = true := by simpa using h2
        rw [if_neg this, if_neg (by simp [h, h2])]
def MH (o0 o1 : SObj) (m : List (Int × Bool)) : List SObj := [o0, o1, .mapI .i64 (encM sB m)]
theorem mapB_under (m : List (Int × Bool)) (n : Nat) : (SObj.mapI .i64 (encM sB m)).under n = true := by
  simp only [SObj.under, encM, List.all_map, List.all_eq_true]
  intro x _
  rfl
theorem MH_under {o0 o1 : SObj} (h0 : o0.under 3 = true) (h1 : o1.under 3 = true) (m : List (Int × Bool)) : (MH o0 o1 m).all (SObj.under 3) = true := by
  simp only [MH, List.all_cons, List.all_nil, h0, h1, mapB_under, Bool.and_true]

theorem mentioned_spec (o0 o1 : SObj) (h0 : o0.under 3 = true) (h1 : o1.under 3 = true) : ∀ (N : Nat) (e : Ex) (m : List (Int × Bool)), SizeOf.sizeOf e < N → lenOK e →
    SPre Tryz.prog G 91 [e.sv, .map 2] (MH o0 o1 m) (fun r H' => r = .tup [] ∧ H' = MH o0 o1 (addNums m (mentsOf e)))
  | 0, _, _, h, _ => by omega
  | N + 1, .mk op n u den ps ks, m, hN, hl => by
    unfold lenOK at hl
    obtain ⟨l1, l2, l3⟩ := hl
    simp only [Ex.mk.sizeOf_spec] at hN
    refine spre_enter Tryz.func91 rfl (by rw [Tryz.ntmps91]; simp) ?_ (MH_under h0 h1 m) ?_
    · simp only [List.all_cons, List.all_nil, Ex.sv, SV.under, imms_under]
      rfl
    intro E hH hK
    have hks : exprRows ks = ks.map Ex.cells := exprRows_eq ks
    have hla : (exprRows ks).length = ks.length := by rw [hks]; simp
    have hm : mentsOf (.mk op n u den ps ks) = (if op = 3 then [n] else []) ++ mentssOf ks := by rw [mentsOf]
    (refine sgo_sound [777] 1000 ?_; conv => whnf)
    repeat' ((with_reducible first | refine bdec (fun h => ?_) (fun h => ?_) | refine bndec (fun h => ?_) (fun h => ?_) | refine bwtd (fun h => ?_) (fun h => ?_) | refine bwfd (fun h => ?_) (fun h => ?_) | refine bwtn (fun h => ?_) (fun h => ?_) | refine bwfn (fun h => ?_) (fun h => ?_) | refine bwtb (fun h => ?_) (fun h => ?_) | refine bwfb (fun h => ?_) (fun h => ?_) | refine bwt (fun h => ?_) (fun h => ?_) | refine bwf (fun h => ?_) (fun h => ?_) | refine bnt (fun h => ?_) (fun h => ?_) | refine bcase (fun h => ?_) (fun h => ?_)) <;> (conv => whnf))
    · refine swr_setI (l := m) sB true rfl rfl rfl rfl rfl rfl rfl rfl rfl ?_
      (refine sgor_sound [777] 1000 ?_; conv => whnf)
      refine sw_keep [1, 13, 14, 15] ?_
      refine Eq.mpr (congrArg (fun h => SW E _ _ h) (show _ = MH o0 o1 (ains n true m) ++ [.cells ((Ex.mk op n u den ps ks).cells.map SV.imm)] from rfl)) ?_
      change SW E _ [(1, .map 2), (13, .imm (.isl 6 (exprRows ks))), (14, sI (exprRows ks).length), (15, sI 0)] _
      refine sw_each ks (fun i (_ : List (Int × Bool)) => [(1, .map 2), (13, .imm (.isl 6 (exprRows ks))), (14, sI (exprRows ks).length), (15, sI i)]) (fun _ m' => MH o0 o1 m' ++ [.cells ((Ex.mk op n u den ps ks).cells.map SV.imm)])
        (fun done rest m' => addNums m (mentsOf (.mk op n u den ps ks)) = addNums m' (mentssOf rest)) (ains n true m) (by rw [hm, if_pos h, addNums_app]; rfl) ?_ ?_
      · rintro m' h2
        rw [mentssOf] at h2
        (refine sgo_sound [777] 1000 ?_; conv => whnf)
        repeat' ((with_reducible first | refine bdec (fun h => ?_) (fun h => ?_) | refine bndec (fun h => ?_) (fun h => ?_) | refine bwtd (fun h => ?_) (fun h => ?_) | refine bwfd (fun h => ?_) (fun h => ?_) | refine bwtn (fun h => ?_) (fun h => ?_) | refine bwfn (fun h => ?_) (fun h => ?_) | refine bwtb (fun h => ?_) (fun h => ?_) | refine bwfb (fun h => ?_) (fun h => ?_) | refine bwt (fun h => ?_) (fun h => ?_) | refine bwf (fun h => ?_) (fun h => ?_) | refine bnt (fun h => ?_) (fun h => ?_) | refine bcase (fun h => ?_) (fun h => ?_)) <;> (conv => whnf))
        all_goals try (exfalso; omega)
        refine hK _ _ (by show 3 ≤ 4; decide) rfl ?_ ⟨rfl, ?_⟩
        · show (MH o0 o1 m').all _ = true
          exact MH_under h0 h1 m'
        · rw [h2]
          rfl
      · rintro done x rest m' hda hdl h2 ih
        have hw := wrap_succ (n := done.length) (by omega)
        have hrx : (exprRows ks)[((done.length : Nat) : Int).toNat]? = some x.cells := by rw [hks]; simp [hda]
        have hxm : x ∈ ks := by rw [hda]; simp
        have hsz := List.sizeOf_lt_of_mem hxm
        have hcall := mentioned_spec o0 o1 h0 h1 N x m' (by omega) (lensOK_mem l3 x hxm)
        rw [mentssOf, addNums_app] at h2
        generalize addNums m' (mentsOf x) = m2 at h2 hcall
        obtain ⟨xo, xn, xu, xd, xp, xk⟩ := x
        (refine sgo_sound [777] 1000 ?_; conv => whnf)
        repeat' ((with_reducible first | refine bdec (fun h => ?_) (fun h => ?_) | refine bndec (fun h => ?_) (fun h => ?_) | refine bwtd (fun h => ?_) (fun h => ?_) | refine bwfd (fun h => ?_) (fun h => ?_) | refine bwtn (fun h => ?_) (fun h => ?_) | refine bwfn (fun h => ?_) (fun h => ?_) | refine bwtb (fun h => ?_) (fun h => ?_) | refine bwfb (fun h => ?_) (fun h => ?_) | refine bwt (fun h => ?_) (fun h => ?_) | refine bwf (fun h => ?_) (fun h => ?_) | refine bnt (fun h => ?_) (fun h => ?_) | refine bcase (fun h => ?_) (fun h => ?_)) <;> (conv => whnf))
        all_goals try (exfalso; omega)
        refine swr_index rfl rfl rfl rfl rfl rfl rfl rfl  hrx ?_
        (refine sgor_sound [777] 1000 ?_; conv => whnf)
        refine swr_pre 3 rfl rfl rfl rfl rfl rfl hcall ?_
        rintro r9 H9 ⟨rfl, rfl⟩ _
        (refine sgor_sound [777] 1000 ?_; conv => whnf)
        rw [hw]
        refine sw_kc [1, 13, 14, 15] 4 (by rw [hH]; show 3 ≤ 4; decide) (by show 4 ≤ 5; decide) rfl ?_ (ih m2 h2)
        show (MH o0 o1 m2 ++ [SObj.cells ((Ex.mk op n u den ps ks).cells.map SV.imm)]).all (SObj.under 4) = true
        rw [List.all_append, allObj_mono (m := 3) (by omega) (MH_under h0 h1 m2)]
        simp only [List.all_cons, List.all_nil, SObj.under, imms_under, Bool.and_true]
    · have _hz : True := trivial
      refine sw_keep [1, 13, 14, 15] ?_
      refine Eq.mpr (congrArg (fun h => SW E _ _ h) (show _ = MH o0 o1 (m) ++ [.cells ((Ex.mk op n u den ps ks).cells.map SV.imm)] from rfl)) ?_
      change SW E _ [(1, .map 2), (13, .imm (.isl 6 (exprRows ks))), (14, sI (exprRows ks).length), (15, sI 0)] _
      refine sw_each ks (fun i (_ : List (Int × Bool)) => [(1, .map 2), (13, .imm (.isl 6 (exprRows ks))), (14, sI (exprRows ks).length), (15, sI i)]) (fun _ m' => MH o0 o1 m' ++ [.cells ((Ex.mk op n u den ps ks).cells.map SV.imm)])
        (fun done rest m' => addNums m (mentsOf (.mk op n u den ps ks)) = addNums m' (mentssOf rest)) (m) (by rw [hm, if_neg h, List.nil_append]) ?_ ?_
      · rintro m' h2
        rw [mentssOf] at h2
        (refine sgo_sound [777] 1000 ?_; conv => whnf)
        repeat' ((with_reducible first | refine bdec (fun h => ?_) (fun h => ?_) | refine bndec (fun h => ?_) (fun h => ?_) | refine bwtd (fun h => ?_) (fun h => ?_) | refine bwfd (fun h => ?_) (fun h => ?_) | refine bwtn (fun h => ?_) (fun h => ?_) | refine bwfn (fun h => ?_) (fun h => ?_) | refine bwtb (fun h => ?_) (fun h => ?_) | refine bwfb (fun h => ?_) (fun h => ?_) | refine bwt (fun h => ?_) (fun h => ?_) | refine bwf (fun h => ?_) (fun h => ?_) | refine bnt (fun h => ?_) (fun h => ?_) | refine bcase (fun h => ?_) (fun h => ?_)) <;> (conv => whnf))
        all_goals try (exfalso; omega)
        refine hK _ _ (by show 3 ≤ 4; decide) rfl ?_ ⟨rfl, ?_⟩
        · show (MH o0 o1 m').all _ = true
          exact MH_under h0 h1 m'
        · rw [h2]
          rfl
      · rintro done x rest m' hda hdl h2 ih
        have hw := wrap_succ (n := done.length) (by omega)
        have hrx : (exprRows ks)[((done.length : Nat) : Int).toNat]? = some x.cells := by rw [hks]; simp [hda]
        have hxm : x ∈ ks := by rw [hda]; simp
        have hsz := List.sizeOf_lt_of_mem hxm
        have hcall := mentioned_spec o0 o1 h0 h1 N x m' (by omega) (lensOK_mem l3 x hxm)
        rw [mentssOf, addNums_app] at h2
        generalize addNums m' (mentsOf x) = m2 at h2 hcall
        obtain ⟨xo, xn, xu, xd, xp, xk⟩ := x
        (refine sgo_sound [777] 1000 ?_; conv => whnf)
        repeat' ((with_reducible first | refine bdec (fun h => ?_) (fun h => ?_) | refine bndec (fun h => ?_) (fun h => ?_) | refine bwtd (fun h => ?_) (fun h => ?_) | refine bwfd (fun h => ?_) (fun h => ?_) | refine bwtn (fun h => ?_) (fun h => ?_) | refine bwfn (fun h => ?_) (fun h => ?_) | refine bwtb (fun h => ?_) (fun h => ?_) | refine bwfb (fun h => ?_) (fun h => ?_) | refine bwt (fun h => ?_) (fun h => ?_) | refine bwf (fun h => ?_) (fun h => ?_) | refine bnt (fun h => ?_) (fun h => ?_) | refine bcase (fun h => ?_) (fun h => ?_)) <;> (conv => whnf))
        all_goals try (exfalso; omega)
        refine swr_index rfl rfl rfl rfl rfl rfl rfl rfl  hrx ?_
        (refine sgor_sound [777] 1000 ?_; conv => whnf)
        refine swr_pre 3 rfl rfl rfl rfl rfl rfl hcall ?_
        rintro r9 H9 ⟨rfl, rfl⟩ _
        (refine sgor_sound [777] 1000 ?_; conv => whnf)
        rw [hw]
        refine sw_kc [1, 13, 14, 15] 4 (by rw [hH]; show 3 ≤ 4; decide) (by show 4 ≤ 5; decide) rfl ?_ (ih m2 h2)
        show (MH o0 o1 m2 ++ [SObj.cells ((Ex.mk op n u den ps ks).cells.map SV.imm)]).all (SObj.under 4) = true
        rw [List.all_append, allObj_mono (m := 3) (by omega) (MH_under h0 h1 m2)]
        simp only [List.all_cons, List.all_nil, SObj.under, imms_under, Bool.and_true]

theorem addNums_snoc (m : List (Int × Bool)) (a : List Int) (n : Int) : addNums m (a ++ [n]) = ains n true (addNums m a) := by rw [addNums_app]; rfl
/-- what the needs of a version need -/
structure NeedC (c : Codex) : Prop extends BeatC c where
  uls : ∀ a ∈ c.arts, a.unless_.length ≤ 1000000
  amt : ∀ a ∈ c.arts, lenOK a.amount
theorem needs_spec (c : Codex) (hc : NeedC c) (v : Int) (hv0 : 0 ≤ v) (hv1 : v < c.arts.length) : SPure Tryz.prog G 60 [c.sv, sI v] (.imm (dInts (needsOf c v))) := by
  have hal : (c.arts.map Article.cells).length = c.arts.length := by simp
  have hz := hc.arts
  obtain ⟨a, ha⟩ : ∃ a, c.arts[v.toNat]? = some a := ⟨_, List.getElem?_eq_getElem (by omega)⟩
  have hav : artAt c v = some a := by unfold artAt; rw [if_neg (by omega)]; exact ha
  have ham := List.mem_of_getElem? ha
  obtain ⟨op, n, u, den, ps, ks, hamt⟩ := amount_mk a
  have hra := artRow c ha hamt
  have hul := hc.uls a ham
  have hwl := hc.len a ham
  have hno : needsOf c v = needGo c (namesOf a) v c.arts 0 := by unfold needsOf; rw [hav]
  rw [hno]
  have hnm : namesOf a = a.unless_ ++ mentssOf a.when_ ++ mentsOf (.mk op n u den ps ks) := by rw [namesOf, hamt]
  have hexs := hc.exs a ham
  have hamk := hc.amt a ham
  rw [hamt] at hamk
  refine spure_enter Tryz.func60 rfl (by rw [Tryz.ntmps60]; simp) rfl rfl ?_; intro E hH hK
  rw [show c.sv = .agg [.imm (dDecls c.facts), .imm (dDecls c.lines), .imm (dArts c.arts)] from rfl]
  obtain ⟨AC, hAC⟩ : ∃ AC : List SV, AC = [.imm (dI a.number), .imm (dI a.line), .imm (dI a.rank), .imm (dI a.lo), .imm (dI a.hi), .imm (dI a.known), .imm (dExprs a.when_), .imm (dInts a.unless_), .imm (dI op), .imm (dI n), .imm (dS u), .imm (dI den), .imm (.isl 3 (ps.map Piece.cells)), .imm (.isl 6 (exprRows ks))] := ⟨_, rfl⟩
  (refine sgo_sound [777] 1000 ?_; conv => whnf)
  refine swr_index rfl rfl rfl rfl rfl rfl rfl  (Int.toNat_of_nonneg hv0).symm (row := [dI a.number, dI a.line, dI a.rank, dI a.lo, dI a.hi, dI a.known, dExprs a.when_, dInts a.unless_, dI op, dI n, dS u, dI den, .isl 3 (ps.map Piece.cells), .isl 6 (exprRows ks)]) hra ?_
  (refine sgor_sound [777] 1000 ?_; conv => whnf)
  refine sw_keep [1, 2, 5, 6, 21, 22, 23] ?_
  have hO0 : (cdxO c).under 3 = true := rfl
  have hO1 : (SObj.cells AC).under 3 = true := by rw [hAC]; rfl
  refine Eq.mpr (congrArg (fun h => SW E _ _ h) (show _ = MH (cdxO c) (.cells AC) [] by rw [hAC]; rfl)) ?_
  change SW E _ [(1, sI v), (2, .ptr 0 0), (5, .ptr 1 0), (6, .map 2), (21, .imm (dInts a.unless_)), (22, sI (a.unless_.map fun n => [dI n]).length), (23, sI 0)] _
  have hll : (a.unless_.map fun n => [dI n]).length = a.unless_.length := by simp
  have hlw : (a.when_.map Ex.cells).length = a.when_.length := by simp
  refine sw_each a.unless_ (fun i (_ : Unit) => [(1, sI v), (2, .ptr 0 0), (5, .ptr 1 0), (6, .map 2), (21, .imm (dInts a.unless_)), (22, sI (a.unless_.map fun n => [dI n]).length), (23, sI i)]) (fun i _ => MH (cdxO c) (.cells AC) (addNums [] (a.unless_.take i)))
    (fun _ _ _ => True) () trivial ?_ ?_
  · rintro _ _
    rw [List.take_length]
    subst hAC
    (refine sgo_sound [777] 1000 ?_; conv => whnf)
    repeat' ((with_reducible first | refine bdec (fun h => ?_) (fun h => ?_) | refine bndec (fun h => ?_) (fun h => ?_) | refine bwtd (fun h => ?_) (fun h => ?_) | refine bwfd (fun h => ?_) (fun h => ?_) | refine bwtn (fun h => ?_) (fun h => ?_) | refine bwfn (fun h => ?_) (fun h => ?_) | refine bwtb (fun h => ?_) (fun h => ?_) | refine bwfb (fun h => ?_) (fun h => ?_) | refine bwt (fun h => ?_) (fun h => ?_) | refine bwf (fun h => ?_) (fun h => ?_) | refine bnt (fun h => ?_) (fun h => ?_) | refine bcase (fun h => ?_) (fun h => ?_)) <;> (conv => whnf))
    all_goals try (exfalso; omega)
    refine sw_keep [1, 2, 5, 6, 31, 32, 33] ?_
    refine Eq.mpr (congrArg (fun h => SW E _ _ h) (show _ = MH (cdxO c) (.cells [.imm (dI a.number), .imm (dI a.line), .imm (dI a.rank), .imm (dI a.lo), .imm (dI a.hi), .imm (dI a.known), .imm (dExprs a.when_), .imm (dInts a.unless_), .imm (dI op), .imm (dI n), .imm (dS u), .imm (dI den), .imm (.isl 3 (ps.map Piece.cells)), .imm (.isl 6 (exprRows ks))]) (addNums [] a.unless_) from rfl)) ?_
    generalize hAC : ([.imm (dI a.number), .imm (dI a.line), .imm (dI a.rank), .imm (dI a.lo), .imm (dI a.hi), .imm (dI a.known), .imm (dExprs a.when_), .imm (dInts a.unless_), .imm (dI op), .imm (dI n), .imm (dS u), .imm (dI den), .imm (.isl 3 (ps.map Piece.cells)), .imm (.isl 6 (exprRows ks))] : List SV) = AC at hO1 ⊢
    refine sw_each a.when_ (fun i (_ : List (Int × Bool)) => [(1, sI v), (2, .ptr 0 0), (5, .ptr 1 0), (6, .map 2), (31, .imm (dExprs a.when_)), (32, sI (a.when_.map Ex.cells).length), (33, sI i)]) (fun _ m => MH (cdxO c) (.cells AC) m)
      (fun done rest m => addNums [] (namesOf a) = addNums m (mentssOf rest ++ mentsOf (.mk op n u den ps ks))) (addNums [] a.unless_) (by rw [hnm, List.append_assoc, addNums_app]) ?_ ?_
    · rintro m h2
      rw [mentssOf, List.nil_append] at h2
      have hcall := mentioned_spec G (cdxO c) (.cells AC) hO0 hO1 _ (.mk op n u den ps ks) m (Nat.lt_succ_self _) hamk
      rw [← h2] at hcall
      subst hAC
      (refine sgo_sound [777] 1000 ?_; conv => whnf)
      repeat' ((with_reducible first | refine bdec (fun h => ?_) (fun h => ?_) | refine bndec (fun h => ?_) (fun h => ?_) | refine bwtd (fun h => ?_) (fun h => ?_) | refine bwfd (fun h => ?_) (fun h => ?_) | refine bwtn (fun h => ?_) (fun h => ?_) | refine bwfn (fun h => ?_) (fun h => ?_) | refine bwtb (fun h => ?_) (fun h => ?_) | refine bwfb (fun h => ?_) (fun h => ?_) | refine bwt (fun h => ?_) (fun h => ?_) | refine bwf (fun h => ?_) (fun h => ?_) | refine bnt (fun h => ?_) (fun h => ?_) | refine bcase (fun h => ?_) (fun h => ?_)) <;> (conv => whnf))
      all_goals try (exfalso; omega)
      refine swr_pre 3 rfl rfl rfl rfl rfl rfl hcall ?_
      rintro r9 H9 ⟨rfl, rfl⟩ _
      refine Eq.mpr (congrArg (fun h => SWr E _ _ _ _ h) (show _ = MH (cdxO c) (.cells [.imm (dI a.number), .imm (dI a.line), .imm (dI a.rank), .imm (dI a.lo), .imm (dI a.hi), .imm (dI a.known), .imm (dExprs a.when_), .imm (dInts a.unless_), .imm (dI op), .imm (dI n), .imm (dS u), .imm (dI den), .imm (.isl 3 (ps.map Piece.cells)), .imm (.isl 6 (exprRows ks))]) (addNums [] (namesOf a)) from rfl)) ?_
      generalize hAC : ([.imm (dI a.number), .imm (dI a.line), .imm (dI a.rank), .imm (dI a.lo), .imm (dI a.hi), .imm (dI a.known), .imm (dExprs a.when_), .imm (dInts a.unless_), .imm (dI op), .imm (dI n), .imm (dS u), .imm (dI den), .imm (.isl 3 (ps.map Piece.cells)), .imm (.isl 6 (exprRows ks))] : List SV) = AC at hO1 ⊢
      have hlook : ∀ k, ((alook k (addNums [] (namesOf a))).map sB).getD (ofWhole (.bool false)) = sB (decide (k ∈ namesOf a)) := fun k => by
        rw [addNums_look]
        by_cases hk : k ∈ namesOf a
        · rw [if_pos hk, decide_eq_true hk]; rfl
        · rw [if_neg hk, decide_eq_false hk]; rfl
      have hMu := MH_under hO0 hO1 (addNums [] (namesOf a))
      clear h2 hcall
      generalize addNums [] (namesOf a) = M at hlook hMu ⊢
      generalize namesOf a = names at hlook hK
      (refine sgor_sound [777] 1000 ?_; conv => whnf)
      refine sw_tok (n := 11) (kk := 1) rfl ?_
      refine sw_keep [1, 2, 6, 11, 46, 47, 48] ?_
      change SW E _ [(1, sI v), (2, .ptr 0 0), (6, .map 2), (11, .asl 3 1 []), (46, .imm (dArts c.arts)), (47, sI (c.arts.map Article.cells).length), (48, sI 0)] (MH (cdxO c) (.cells AC) M ++ [.tok 1 0])
      refine sw_each c.arts (fun i (l : List Int) => [(1, sI v), (2, .ptr 0 0), (6, .map 2), (11, .asl 3 1 (l.map fun n => [dI n])), (46, .imm (dArts c.arts)), (47, sI (c.arts.map Article.cells).length), (48, sI i)]) (fun _ l => MH (cdxO c) (.cells AC) M ++ [.tok 1 (l.map fun n => [dI n]).length])
        (fun done rest l => needGo c names v c.arts 0 = l ++ needGo c names v rest done.length ∧ l.length ≤ done.length) [] ⟨rfl, by simp⟩ ?_ ?_
      · rintro l ⟨h2, _⟩
        rw [needGo, List.append_nil] at h2
        rw [h2] at hK
        refine sw_solid ?_
        change SW E _ [(1, sI v), (2, .ptr 0 0), (6, .map 2), (11, .imm (dInts l)), (46, .imm (dArts c.arts)), (47, sI (c.arts.map Article.cells).length), (48, sI c.arts.length)] _
        (refine sgo_sound [777] 1000 ?_; conv => whnf)
        repeat' ((with_reducible first | refine bdec (fun h => ?_) (fun h => ?_) | refine bndec (fun h => ?_) (fun h => ?_) | refine bwtd (fun h => ?_) (fun h => ?_) | refine bwfd (fun h => ?_) (fun h => ?_) | refine bwtn (fun h => ?_) (fun h => ?_) | refine bwfn (fun h => ?_) (fun h => ?_) | refine bwtb (fun h => ?_) (fun h => ?_) | refine bwfb (fun h => ?_) (fun h => ?_) | refine bwt (fun h => ?_) (fun h => ?_) | refine bwf (fun h => ?_) (fun h => ?_) | refine bnt (fun h => ?_) (fun h => ?_) | refine bcase (fun h => ?_) (fun h => ?_)) <;> (conv => whnf))
        all_goals try (exfalso; omega)
        exact hK _
      · rintro done x rest l hda hdl ⟨h2, h3⟩ ih
        have hw := wrap_succ (n := done.length) (by omega)
        obtain ⟨op', n', u', den', ps', ks', hxm⟩ := amount_mk x
        have hgx : c.arts[done.length]? = some x := by rw [hda]; simp
        have hrx := artRow c hgx hxm
        have hrx2 : (c.arts.map Article.cells)[((done.length : Nat) : Int).toNat]? = _ := hrx
        have hbt := beats_spec G c hc.toBeatC (done.length : Int) v
        rw [needGo] at h2
        have hkc : ∀ m, (MH (cdxO c) (.cells AC) M ++ [SObj.tok 1 m]).all (SObj.under 4) = true := fun m => by
          rw [List.all_append, allObj_mono (m := 3) (by omega) hMu]
          rfl
        generalize beatsOf c (done.length : Int) v = bb at hbt h2
        (refine sgo_sound [777] 1000 ?_; conv => whnf)
        repeat' ((with_reducible first | refine bdec (fun h => ?_) (fun h => ?_) | refine bndec (fun h => ?_) (fun h => ?_) | refine bwtd (fun h => ?_) (fun h => ?_) | refine bwfd (fun h => ?_) (fun h => ?_) | refine bwtn (fun h => ?_) (fun h => ?_) | refine bwfn (fun h => ?_) (fun h => ?_) | refine bwtb (fun h => ?_) (fun h => ?_) | refine bwfb (fun h => ?_) (fun h => ?_) | refine bwt (fun h => ?_) (fun h => ?_) | refine bwf (fun h => ?_) (fun h => ?_) | refine bnt (fun h => ?_) (fun h => ?_) | refine bcase (fun h => ?_) (fun h => ?_)) <;> (conv => whnf))
        all_goals try (exfalso; omega)
        refine swr_index rfl rfl rfl rfl rfl rfl rfl rfl  (row := [dI x.number, dI x.line, dI x.rank, dI x.lo, dI x.hi, dI x.known, dExprs x.when_, dInts x.unless_, dI op', dI n', dS u', dI den', .isl 3 (ps'.map Piece.cells), .isl 6 (exprRows ks')]) hrx2 ?_
        (refine sgor_sound [777] 1000 ?_; conv => whnf)
        refine swr_lookI (l := M) sB rfl rfl rfl rfl rfl rfl rfl rfl rfl (v := sB (decide (x.number ∈ names))) (hlook _) ?_
        cases hd : decide (x.number ∈ names) <;> ((refine sgor_sound [777] 1000 ?_; conv => whnf))
        · have hd := of_decide_eq_false hd
          refine swr_pure rfl rfl rfl rfl rfl rfl  hbt ?_
          cases bb <;> ((refine sgor_sound [777] 1000 ?_; conv => whnf))
          · rw [hw]
            refine sw_kc [1, 2, 6, 11, 46, 47, 48] 4 (by rw [hH]; exact Nat.zero_le 4) (by show 4 ≤ 5; decide) rfl (hkc _) ?_
            refine ih l ⟨?_, ?_⟩
            · rw [h2, if_neg (by simp [*]), List.length_append]
              rfl
            · simp only [List.length_append, List.length_cons, List.length_nil]; omega
          refine swr_append (b := 3) (kk := 1) (rows := l.map fun n => [dI n]) (new := [[dI done.length]]) rfl rfl rfl rfl rfl rfl rfl rfl rfl rfl ⟨by decide, rfl⟩ rfl (by rw [List.length_map]; simp only [List.length_cons, List.length_nil]; omega) ?_
          have e5 : (l.map fun n => [dI n]) ++ [[dI done.length]] = (l ++ [(done.length : Int)]).map fun n => [dI n] := by simp
          have e6 : (l.map fun n => [dI n]).length + [[dI done.length]].length = ((l ++ [(done.length : Int)]).map fun n => [dI n]).length := by simp
          refine Eq.mpr (congrArg (fun v => SWr E _ _ _ (tput _ _ (.asl 3 1 v)) _) e5) ?_
          refine Eq.mpr (congrArg (fun v => SWr E _ _ _ _ (List.set _ 3 (.tok 1 v))) e6) ?_
          (refine sgor_sound [777] 1000 ?_; conv => whnf)
          rw [hw]
          refine sw_kc [1, 2, 6, 11, 46, 47, 48] 4 (by rw [hH]; exact Nat.zero_le 4) (by show 4 ≤ 5; decide) rfl (hkc _) ?_
          refine ih (l ++ [(done.length : Int)]) ⟨?_, ?_⟩
          · rw [h2, if_pos (by simp [*]), List.length_append]
            simp
          · simp only [List.length_append, List.length_cons, List.length_nil]; omega
        · have hd := of_decide_eq_true hd
          refine swr_append (b := 3) (kk := 1) (rows := l.map fun n => [dI n]) (new := [[dI done.length]]) rfl rfl rfl rfl rfl rfl rfl rfl rfl rfl ⟨by decide, rfl⟩ rfl (by rw [List.length_map]; simp only [List.length_cons, List.length_nil]; omega) ?_
          have e5 : (l.map fun n => [dI n]) ++ [[dI done.length]] = (l ++ [(done.length : Int)]).map fun n => [dI n] := by simp
          have e6 : (l.map fun n => [dI n]).length + [[dI done.length]].length = ((l ++ [(done.length : Int)]).map fun n => [dI n]).length := by simp
          refine Eq.mpr (congrArg (fun v => SWr E _ _ _ (tput _ _ (.asl 3 1 v)) _) e5) ?_
          refine Eq.mpr (congrArg (fun v => SWr E _ _ _ _ (List.set _ 3 (.tok 1 v))) e6) ?_
          (refine sgor_sound [777] 1000 ?_; conv => whnf)
          rw [hw]
          refine sw_kc [1, 2, 6, 11, 46, 47, 48] 4 (by rw [hH]; exact Nat.zero_le 4) (by show 4 ≤ 5; decide) rfl (hkc _) ?_
          refine ih (l ++ [(done.length : Int)]) ⟨?_, ?_⟩
          · rw [h2, if_pos (by simp [*]), List.length_append]
            simp
          · simp only [List.length_append, List.length_cons, List.length_nil]; omega
    · rintro done x rest m hda hdl h2 ih
      have hw := wrap_succ (n := done.length) (by omega)
      have hrx : (a.when_.map Ex.cells)[((done.length : Nat) : Int).toNat]? = some x.cells := by simp [hda]
      have hxm : x ∈ a.when_ := by rw [hda]; simp
      have hcall := mentioned_spec G (cdxO c) (.cells AC) hO0 hO1 _ x m (Nat.lt_succ_self _) (lensOK_mem hexs x hxm)
      rw [mentssOf, List.append_assoc, addNums_app] at h2
      generalize addNums m (mentsOf x) = m2 at h2 hcall
      obtain ⟨xo, xn, xu, xd, xp, xk⟩ := x
      (refine sgo_sound [777] 1000 ?_; conv => whnf)
      repeat' ((with_reducible first | refine bdec (fun h => ?_) (fun h => ?_) | refine bndec (fun h => ?_) (fun h => ?_) | refine bwtd (fun h => ?_) (fun h => ?_) | refine bwfd (fun h => ?_) (fun h => ?_) | refine bwtn (fun h => ?_) (fun h => ?_) | refine bwfn (fun h => ?_) (fun h => ?_) | refine bwtb (fun h => ?_) (fun h => ?_) | refine bwfb (fun h => ?_) (fun h => ?_) | refine bwt (fun h => ?_) (fun h => ?_) | refine bwf (fun h => ?_) (fun h => ?_) | refine bnt (fun h => ?_) (fun h => ?_) | refine bcase (fun h => ?_) (fun h => ?_)) <;> (conv => whnf))
      all_goals try (exfalso; omega)
      refine swr_index rfl rfl rfl rfl rfl rfl rfl rfl  hrx ?_
      (refine sgor_sound [777] 1000 ?_; conv => whnf)
      refine swr_pre 3 rfl rfl rfl rfl rfl rfl hcall ?_
      rintro r9 H9 ⟨rfl, rfl⟩ _
      (refine sgor_sound [777] 1000 ?_; conv => whnf)
      rw [hw]
      refine sw_kc [1, 2, 5, 6, 31, 32, 33] 3 (by rw [hH]; exact Nat.zero_le 3) (by show 3 ≤ 4; decide) rfl ?_ (ih m2 h2)
      exact MH_under hO0 hO1 m2
  · rintro done x rest _ hda hdl _ ih
    have hw := wrap_succ (n := done.length) (by omega)
    have hrx : (a.unless_.map fun n => [dI n])[((done.length : Nat) : Int).toNat]? = some [dI x] := by simp [hda]
    have htk : a.unless_.take (done.length + 1) = a.unless_.take done.length ++ [x] := by rw [List.take_add_one]; simp [hda]
    rw [htk, addNums_snoc] at ih
    (refine sgo_sound [777] 1000 ?_; conv => whnf)
    repeat' ((with_reducible first | refine bdec (fun h => ?_) (fun h => ?_) | refine bndec (fun h => ?_) (fun h => ?_) | refine bwtd (fun h => ?_) (fun h => ?_) | refine bwfd (fun h => ?_) (fun h => ?_) | refine bwtn (fun h => ?_) (fun h => ?_) | refine bwfn (fun h => ?_) (fun h => ?_) | refine bwtb (fun h => ?_) (fun h => ?_) | refine bwfb (fun h => ?_) (fun h => ?_) | refine bwt (fun h => ?_) (fun h => ?_) | refine bwf (fun h => ?_) (fun h => ?_) | refine bnt (fun h => ?_) (fun h => ?_) | refine bcase (fun h => ?_) (fun h => ?_)) <;> (conv => whnf))
    all_goals try (exfalso; omega)
    refine swr_index rfl rfl rfl rfl rfl rfl rfl rfl  hrx ?_
    (refine sgor_sound [777] 1000 ?_; conv => whnf)
    refine swr_setI (l := addNums [] (a.unless_.take done.length)) sB true rfl rfl rfl rfl rfl rfl rfl rfl rfl ?_
    (refine sgor_sound [777] 1000 ?_; conv => whnf)
    rw [hw]
    refine sw_keep [1, 2, 5, 6, 21, 22, 23] ?_
    exact ih () trivial
end Go.Proofs.YtblpjknmhajcgaaGreatDoor

/- slices.Contains, Needs, contradict (contracts). -/
namespace Go.Proofs.YtblpjknmhajcgaaGreatDoor
open Go Go.Sh
set_option maxRecDepth 10000
set_option maxHeartbeats 4000000
variable (G : List (Nat × D))

theorem index_spec (l : List Int) (x : Int) (hz : l.length ≤ 1000000000) : SPre Tryz.prog G 110 [.imm (dInts l), sI x] [] (fun r _ => ∃ i : Int, r = sI i ∧ (0 ≤ i ↔ x ∈ l)) := by
  refine spre_enter Tryz.func110 rfl (by rw [Tryz.ntmps110]; simp) rfl rfl ?_
  intro E hH hK
  have hla : (l.map fun n => [dI n]).length = l.length := by simp
  (refine sgo_sound [777] 1000 ?_; conv => whnf)
  refine sw_keep [0, 1, 7, 8] ?_
  refine sw_each l (fun i (_ : Unit) => [(0, .imm (dInts l)), (1, sI x), (7, sI (l.map fun n => [dI n]).length), (8, sI i)]) (fun _ _ => []) (fun done _ _ => x ∉ done) () (by simp) ?_ ?_
  · rintro _ h1
    (refine sgo_sound [777] 1000 ?_; conv => whnf)
    repeat' ((with_reducible first | refine bdec (fun h => ?_) (fun h => ?_) | refine bndec (fun h => ?_) (fun h => ?_) | refine bwtd (fun h => ?_) (fun h => ?_) | refine bwfd (fun h => ?_) (fun h => ?_) | refine bwtn (fun h => ?_) (fun h => ?_) | refine bwfn (fun h => ?_) (fun h => ?_) | refine bwtb (fun h => ?_) (fun h => ?_) | refine bwfb (fun h => ?_) (fun h => ?_) | refine bwt (fun h => ?_) (fun h => ?_) | refine bwf (fun h => ?_) (fun h => ?_) | refine bnt (fun h => ?_) (fun h => ?_) | refine bcase (fun h => ?_) (fun h => ?_)) <;> (conv => whnf))
    all_goals try (exfalso; omega)
    exact hK _ _ (Nat.le_refl _) rfl rfl ⟨-1, rfl, ⟨fun h => by omega, fun h => absurd h h1⟩⟩
  · rintro done y rest _ hda hdl h1 ih
    have hw := wrap_succ (n := done.length) (by omega)
    have hrx : (l.map fun n => [dI n])[((done.length : Nat) : Int).toNat]? = some [dI y] := by simp [hda]
    (refine sgo_sound [777] 1000 ?_; conv => whnf)
    repeat' ((with_reducible first | refine bdec (fun h => ?_) (fun h => ?_) | refine bndec (fun h => ?_) (fun h => ?_) | refine bwtd (fun h => ?_) (fun h => ?_) | refine bwfd (fun h => ?_) (fun h => ?_) | refine bwtn (fun h => ?_) (fun h => ?_) | refine bwfn (fun h => ?_) (fun h => ?_) | refine bwtb (fun h => ?_) (fun h => ?_) | refine bwfb (fun h => ?_) (fun h => ?_) | refine bwt (fun h => ?_) (fun h => ?_) | refine bwf (fun h => ?_) (fun h => ?_) | refine bnt (fun h => ?_) (fun h => ?_) | refine bcase (fun h => ?_) (fun h => ?_)) <;> (conv => whnf))
    all_goals try (exfalso; omega)
    refine swr_index rfl rfl rfl rfl rfl rfl rfl rfl  hrx ?_
    (refine sgor_sound [777] 1000 ?_; conv => whnf)
    repeat' ((with_reducible first | refine bdec (fun h => ?_) (fun h => ?_) | refine bndec (fun h => ?_) (fun h => ?_) | refine bwtd (fun h => ?_) (fun h => ?_) | refine bwfd (fun h => ?_) (fun h => ?_) | refine bwtn (fun h => ?_) (fun h => ?_) | refine bwfn (fun h => ?_) (fun h => ?_) | refine bwtb (fun h => ?_) (fun h => ?_) | refine bwfb (fun h => ?_) (fun h => ?_) | refine bwt (fun h => ?_) (fun h => ?_) | refine bwf (fun h => ?_) (fun h => ?_) | refine bnt (fun h => ?_) (fun h => ?_) | refine bcase (fun h => ?_) (fun h => ?_)) <;> (conv => whnf))
    · exact hK _ _ (Nat.le_refl _) rfl rfl ⟨done.length, rfl, ⟨fun _ => by rw [hda, h]; simp, fun _ => by omega⟩⟩
    · rw [hw]
      refine sw_keep [0, 1, 7, 8] ?_
      exact ih () (by simp only [List.mem_append, List.mem_cons, List.not_mem_nil, or_false, not_or]; exact ⟨h1, h⟩)
theorem contains_spec (l : List Int) (x : Int) (hz : l.length ≤ 1000000000) : SPure Tryz.prog G 78 [.imm (dInts l), sI x] (sB (decide (x ∈ l))) := by
  refine spure_enter Tryz.func78 rfl (by rw [Tryz.ntmps78]; simp) rfl rfl ?_; intro E hH hK
  (refine sgo_sound [777] 1000 ?_; conv => whnf)
  refine swr_pre 0 rfl rfl rfl rfl rfl rfl (index_spec G l x hz) ?_
  rintro r9 H9 ⟨i, rfl, hi⟩ _
  (refine sgor_sound [777] 1000 ?_; conv => whnf)
  have : decide (x ∈ l) = decide (0 ≤ i) := decide_eq_decide.2 hi.symm
  rw [this] at hK
  exact hK _

theorem needsP_spec (c : Codex) (hfit : Codex.fit c) (hN : codexOK c = true → NeedC c) (hz : c.arts.length ≤ 1000000000) (v : Int) :
    SPure Tryz.prog G 34 [c.sv, sI v] (.imm (dInts (if 0 ≤ v ∧ v < c.arts.length ∧ codexOK c = true then needsOf c v else []))) := by
  have hal : (c.arts.map Article.cells).length = c.arts.length := by simp
  have hV := codexValid_spec G c hfit
  have h : SPure Tryz.prog G 34 [c.sv, sI v] (if 0 ≤ v ∧ v < c.arts.length ∧ codexOK c = true then .imm (dInts (needsOf c v)) else .imm (.val (.slice none 0 0))) := by
    refine spure_enter Tryz.func34 rfl (by rw [Tryz.ntmps34]; simp) rfl (by split <;> rfl) ?_
    intro E hH hK
    generalize hz2 : codexOK c = z at hV hK hN
    rw [show c.sv = .agg [.imm (dDecls c.facts), .imm (dDecls c.lines), .imm (dArts c.arts)] from rfl]
    (refine sgo_sound [777] 1000 ?_; conv => whnf)
    repeat' ((with_reducible first | refine bdec (fun h => ?_) (fun h => ?_) | refine bndec (fun h => ?_) (fun h => ?_) | refine bwtd (fun h => ?_) (fun h => ?_) | refine bwfd (fun h => ?_) (fun h => ?_) | refine bwtn (fun h => ?_) (fun h => ?_) | refine bwfn (fun h => ?_) (fun h => ?_) | refine bwtb (fun h => ?_) (fun h => ?_) | refine bwfb (fun h => ?_) (fun h => ?_) | refine bwt (fun h => ?_) (fun h => ?_) | refine bwf (fun h => ?_) (fun h => ?_) | refine bnt (fun h => ?_) (fun h => ?_) | refine bcase (fun h => ?_) (fun h => ?_)) <;> (conv => whnf))
    · refine swr_pure rfl rfl rfl rfl rfl rfl  hV ?_
      cases z <;> ((refine sgor_sound [777] 1000 ?_; conv => whnf))
      · rw [if_neg (by simp)] at hK
        exact hK _
      · refine swr_pure rfl rfl rfl rfl rfl rfl  (needs_spec G c (hN rfl) v (by omega) (by omega)) ?_
        (refine sgor_sound [777] 1000 ?_; conv => whnf)
        rw [if_pos ⟨by omega, by omega, rfl⟩] at hK
        exact hK _
    · rw [if_neg (by omega)] at hK
      exact hK _
    · rw [if_neg (by omega)] at hK
      exact hK _
  split at h
  · rename_i hh; rw [if_pos hh]; exact h
  · rename_i hh; rw [if_neg hh]; exact spure_is h (SV.Is.nil 1)

theorem contradict_spec (c : Codex) (hc : NeedC c) (i j : Int) (hi0 : 0 ≤ i) (hi1 : i < c.arts.length) (hj0 : 0 ≤ j) (hj1 : j < c.arts.length) : SPure Tryz.prog G 48 [c.sv, sI i, sI j] (sB (contraOf c i j)) := by
  have hal : (c.arts.map Article.cells).length = c.arts.length := by simp
  have hz := hc.arts
  obtain ⟨a, ha⟩ : ∃ a, c.arts[i.toNat]? = some a := ⟨_, List.getElem?_eq_getElem (by omega)⟩
  obtain ⟨b, hb⟩ : ∃ b, c.arts[j.toNat]? = some b := ⟨_, List.getElem?_eq_getElem (by omega)⟩
  have hai : artAt c i = some a := by unfold artAt; rw [if_neg (by omega)]; exact ha
  have hbj : artAt c j = some b := by unfold artAt; rw [if_neg (by omega)]; exact hb
  have hbe : contraOf c i j = (decide (a.line = b.line) && !decide (a.number = b.number) && !beatsOf c i j && !beatsOf c j i && !decide (b.number ∈ a.unless_) && !decide (a.number ∈ b.unless_)) := by unfold contraOf; rw [hai, hbj]
  have ham := List.mem_of_getElem? ha
  have hbm := List.mem_of_getElem? hb
  have c1 := beats_spec G c hc.toBeatC i j
  have c2 := beats_spec G c hc.toBeatC j i
  have c3 := contains_spec G a.unless_ b.number (by have := hc.uls a ham; omega)
  have c4 := contains_spec G b.unless_ a.number (by have := hc.uls b hbm; omega)
  rw [hbe]
  generalize beatsOf c i j = z1 at c1
  generalize beatsOf c j i = z2 at c2
  generalize decide (b.number ∈ a.unless_) = z3 at c3
  generalize decide (a.number ∈ b.unless_) = z4 at c4
  obtain ⟨op, n, u, den, ps, ks, hamt⟩ := amount_mk a
  obtain ⟨op', n', u', den', ps', ks', hbmt⟩ := amount_mk b
  have hra := artRow c ha hamt
  have hrb := artRow c hb hbmt
  refine spure_enter Tryz.func48 rfl (by rw [Tryz.ntmps48]; simp) rfl rfl ?_; intro E hH hK
  rw [show c.sv = .agg [.imm (dDecls c.facts), .imm (dDecls c.lines), .imm (dArts c.arts)] from rfl]
  (refine sgo_sound [777] 1000 ?_; conv => whnf)
  refine sw_keep [1, 2, 3] ?_
  change SW E _ [(1, sI i), (2, sI j), (3, .ptr 0 0)] [.cells [.imm (dDecls c.facts), .imm (dDecls c.lines), .imm (dArts c.arts)]]
  (refine swe_start 2 mixed rfl ?_; refine sgoe_sound [777] (nx := 1) ?_; conv => whnf)
  refine swe_index (row := [dI a.number, dI a.line, dI a.rank, dI a.lo, dI a.hi, dI a.known, dExprs a.when_, dInts a.unless_, dI op, dI n, dS u, dI den, .isl 3 (ps.map Piece.cells), .isl 6 (exprRows ks)]) rfl rfl rfl rfl rfl rfl rfl (show 1 ≤ 3 by decide) (Int.toNat_of_nonneg hi0).symm hra ?_
  (refine sgoe_sound [777] (nx := 1) ?_; conv => whnf)
  refine swe_index (row := [dI b.number, dI b.line, dI b.rank, dI b.lo, dI b.hi, dI b.known, dExprs b.when_, dInts b.unless_, dI op', dI n', dS u', dI den', .isl 3 (ps'.map Piece.cells), .isl 6 (exprRows ks')]) rfl rfl rfl rfl rfl rfl rfl (show 1 ≤ 3 by decide) (Int.toNat_of_nonneg hj0).symm hrb ?_
  (refine sgoe_sound [777] (nx := 1) ?_; conv => whnf)
  refine sw_keep [1, 2, 3, 7, 8] ?_
  change SW E _ [(1, sI i), (2, sI j), (3, .ptr 0 0), (7, .ptr 1 0), (8, .ptr 2 0)] [.cells [.imm (dDecls c.facts), .imm (dDecls c.lines), .imm (dArts c.arts)], .cells [.imm (dI a.number), .imm (dI a.line), .imm (dI a.rank), .imm (dI a.lo), .imm (dI a.hi), .imm (dI a.known), .imm (dExprs a.when_), .imm (dInts a.unless_), .imm (dI op), .imm (dI n), .imm (dS u), .imm (dI den), .imm (.isl 3 (ps.map Piece.cells)), .imm (.isl 6 (exprRows ks))],
    .cells [.imm (dI b.number), .imm (dI b.line), .imm (dI b.rank), .imm (dI b.lo), .imm (dI b.hi), .imm (dI b.known), .imm (dExprs b.when_), .imm (dInts b.unless_), .imm (dI op'), .imm (dI n'), .imm (dS u'), .imm (dI den'), .imm (.isl 3 (ps'.map Piece.cells)), .imm (.isl 6 (exprRows ks'))]]
  (refine sgo_sound [777] 1000 ?_; conv => whnf)
  repeat' ((with_reducible first | refine bdec (fun h => ?_) (fun h => ?_) | refine bndec (fun h => ?_) (fun h => ?_) | refine bwtd (fun h => ?_) (fun h => ?_) | refine bwfd (fun h => ?_) (fun h => ?_) | refine bwtn (fun h => ?_) (fun h => ?_) | refine bwfn (fun h => ?_) (fun h => ?_) | refine bwtb (fun h => ?_) (fun h => ?_) | refine bwfb (fun h => ?_) (fun h => ?_) | refine bwt (fun h => ?_) (fun h => ?_) | refine bwf (fun h => ?_) (fun h => ?_) | refine bnt (fun h => ?_) (fun h => ?_) | refine bcase (fun h => ?_) (fun h => ?_)) <;> (conv => whnf))
  · rename_i g1
    rw [decide_eq_true g1, decide_eq_false h] at hK
    refine swr_pure rfl rfl rfl rfl rfl rfl  c1 ?_
    cases z1 <;> ((refine sgor_sound [777] 1000 ?_; conv => whnf))
    · refine swr_pure rfl rfl rfl rfl rfl rfl  c2 ?_
      cases z2 <;> ((refine sgor_sound [777] 1000 ?_; conv => whnf))
      · refine swr_pure rfl rfl rfl rfl rfl rfl  c3 ?_
        cases z3 <;> ((refine sgor_sound [777] 1000 ?_; conv => whnf))
        · refine swr_pure rfl rfl rfl rfl rfl rfl  c4 ?_
          (refine sgor_sound [777] 1000 ?_; conv => whnf)
          cases z4 <;> exact hK _
        · exact hK _
      · exact hK _
    · exact hK _
  · rw [decide_eq_true h, Bool.not_true, Bool.and_false, Bool.false_and, Bool.false_and, Bool.false_and, Bool.false_and] at hK
    exact hK _
  · rw [decide_eq_false h] at hK
    exact hK _
end Go.Proofs.YtblpjknmhajcgaaGreatDoor

/- The search is made: comparisons and simple expressions (contracts). -/
namespace Go.Proofs.YtblpjknmhajcgaaGreatDoor
open Go Go.Sh
set_option maxRecDepth 10000
set_option maxHeartbeats 4000000
variable (G : List (Nat × D))

def exArg (op n : Int) (u : ByteArray) (den : Int) (ps : List Piece) (ks : List Ex) : SV := .agg [.imm (dI op), .imm (dI n), .imm (dS u), .imm (dI den), .imm (.isl 3 (ps.map Piece.cells)), .imm (.isl 6 (exprRows ks))]
def exCs (op n : Int) (u : ByteArray) (den : Int) (ps : List Piece) (ks : List Ex) : SObj := .cells [.imm (dI op), .imm (dI n), .imm (dS u), .imm (dI den), .imm (.isl 3 (ps.map Piece.cells)), .imm (.isl 6 (exprRows ks))]
/-- an operand that the code can read -/
structure KidOK (k : Ex) : Prop where
  fact : k.op = 2 → 0 ≤ k.n ∧ k.n < 12
  date : k.op = 4 → 0 ≤ k.n ∧ k.n ≤ 4
  sz : -1000000000000 ≤ k.n ∧ k.n ≤ 1000000000000

theorem wrap_mid {a : Int} (h0 : -1000000000000000 ≤ a) (h1 : a ≤ 1000000000000000) : IntKind.i64.wrap a = a := by
  simp [IntKind.wrap, IntKind.signed, IntKind.bits]; omega
theorem NSx_under {c : Codex} {vers : List Int} {q : Sr} (h : CandsOK q.cands) {m : Nat} (hm : 17 ≤ m) {X : List SObj} (hX : X.all (SObj.under m) = true) : (NS c vers q ++ X).all (SObj.under m) = true := by
  rw [List.all_append, allObj_mono hm (NS_under h.rng), hX]
  rfl
theorem scan_cons (xo xn : Int) (xu : ByteArray) (xd : Int) (xp : List Piece) (xk : List Ex) (r : List Ex) (s : Sr) (m : Int) :
    cmpScan (.mk xo xn xu xd xp xk :: r) s m = if xo = 1 then cmpScan r s (m + 1) else if xo = 4 then cmpScan r (s.date xn) m else if xo = 2 then cmpScan r s m else (false, s, m) := rfl
def kidsV (l : List Ex) : SV := .imm (.isl 6 (l.map Ex.cells))
theorem comparison_spec (c : Codex) (vers : List Int) (q : Sr) (op n : Int) (u : ByteArray) (den : Int) (ps : List Piece) (l r : Ex) (hl : KidOK l) (hr : KidOK r) (hq : CandsOK q.cands) (hd : q.dates.length = 5) (hsz : q.atoms.length ≤ 1000000000) :
    SPre Tryz.prog G 96 [.ptr 2 0, exArg op n u den ps [l, r]] (NS c vers q) (fun v H' => v = .tup [.imm (cmpOf q op [l, r]).1.d, sB (cmpOf q op [l, r]).2.1] ∧ H' = NS c vers (cmpOf q op [l, r]).2.2) := by
  refine spre_enter Tryz.func96 rfl (by rw [Tryz.ntmps96]; simp) rfl (NS_under hq.rng) ?_
  intro E hH hK
  rw [show exArg op n u den ps [l, r] = .agg [.imm (dI op), .imm (dI n), .imm (dS u), .imm (dI den), .imm (.isl 3 (ps.map Piece.cells)), kidsV [l, r]] by simp [exArg, exprRows_eq, kidsV]]
  have hks : ∀ k ∈ [l, r], KidOK k := by simp; exact ⟨hl, hr⟩
  generalize hkl : [l, r] = ks at hks hK ⊢
  have hkn : ks.length = 2 := by rw [← hkl]; rfl
  have hml : (ks.map Ex.cells).length = ks.length := by simp
  have hfin : ∀ (v : SV) (q' : Sr) (X : List SObj), v.under 17 = true → CandsOK q'.cands → v = .tup [.imm (cmpOf q op ks).1.d, sB (cmpOf q op ks).2.1] → q' = (cmpOf q op ks).2.2 → E.K v (NS c vers q' ++ X) := by
    intro v q' X h1 h2 h3 h4
    have ht : (NS c vers q' ++ X).take (NS c vers q).length = NS c vers q' := by
      rw [show (NS c vers q).length = (NS c vers q').length from rfl, List.take_append_of_le_length (Nat.le_refl _), List.take_length]
    refine hK v _ (by rw [List.length_append]; exact Nat.le_add_right _ _) h1 (by rw [ht]; exact NS_under h2.rng) ⟨h3, ?_⟩
    rw [ht, h4]
  clear hK
  (refine sgo_sound [777] 1000 ?_; conv => whnf)
  refine sw_keep [0, 3, 4, 5, 6, 17, 18, 19] ?_
  refine sw_each ks (fun i (s : List Bool × Int) => [(0, .ptr 2 0), (3, .ptr 17 0), (4, .imm (.val .nilIface)), (5, sB false), (6, sI s.2), (17, kidsV ks), (18, sI (ks.map Ex.cells).length), (19, sI i)])
    (fun _ s => NS c vers { q with dates := s.1 } ++ [.cells [.imm (dI op), .imm (dI n), .imm (dS u), .imm (dI den), .imm (.isl 3 (ps.map Piece.cells)), kidsV ks]])
    (fun done rest s => s.1.length = 5 ∧ 0 ≤ s.2 ∧ s.2 ≤ done.length ∧ cmpScan ks q 0 = cmpScan rest { q with dates := s.1 } s.2) (q.dates, 0) ⟨hd, by simp, by simp, rfl⟩ ?_ ?_
  · rintro ⟨ds, m⟩ ⟨g1, g2, g3, g4⟩
    simp only [cmpScan] at g4
    dsimp only at g1 g2 g3
    subst hkl
    have g5 : cmpOf q op [l, r] = if m = 0 then (.none, false, { q with dates := ds }) else (.cmp op ⟨l.op, l.n⟩ ⟨r.op, r.n⟩, true, if l.op = 4 ∨ r.op = 4 then { cmpCand (cmpCand { q with dates := ds } l r) r l with atoms := (cmpCand (cmpCand { q with dates := ds } l r) r l).atoms ++ [.cmp op ⟨l.op, l.n⟩ ⟨r.op, r.n⟩] } else cmpCand (cmpCand { q with dates := ds } l r) r l) := by
      unfold cmpOf
      rw [g4]
    clear g4
    (refine sgo_sound [777] 1000 ?_; conv => whnf)
    repeat' ((with_reducible first | refine bdec (fun h => ?_) (fun h => ?_) | refine bndec (fun h => ?_) (fun h => ?_) | refine bwtd (fun h => ?_) (fun h => ?_) | refine bwfd (fun h => ?_) (fun h => ?_) | refine bwtn (fun h => ?_) (fun h => ?_) | refine bwfn (fun h => ?_) (fun h => ?_) | refine bwtb (fun h => ?_) (fun h => ?_) | refine bwfb (fun h => ?_) (fun h => ?_) | refine bwt (fun h => ?_) (fun h => ?_) | refine bwf (fun h => ?_) (fun h => ?_) | refine bnt (fun h => ?_) (fun h => ?_) | refine bcase (fun h => ?_) (fun h => ?_)) <;> (conv => whnf))
    all_goals try (exfalso; omega)
    · rw [if_pos (by omega)] at g5
      exact hfin _ { q with dates := ds } [_] rfl hq (by rw [g5]; rfl) (by rw [g5])
    · rw [if_neg (by omega)] at g5
      generalize hq1 : ({ q with dates := ds } : Sr) = q1 at g5
      have hc1 : CandsOK q1.cands := by rw [← hq1]; exact hq
      have ha1 : q1.atoms.length ≤ 1000000000 := by rw [← hq1]; exact hsz
      refine Eq.mpr (congrArg (fun h => SW E _ _ h) (show _ = NS c vers q1 ++ [.cells [.imm (dI op), .imm (dI n), .imm (dS u), .imm (dI den), .imm (.isl 3 (ps.map Piece.cells)), kidsV [l, r]]] by rw [← hq1])) ?_
      clear hq1 hq hsz hd h g1 g2 g3
      obtain ⟨lo, ln, lu, ld, lp, lk⟩ := l
      obtain ⟨ro, rn, ru, rd, rp, rk⟩ := r
      refine sw_keep [0, 3, 4, 5] ?_
      change SW E _ [(0, .ptr 2 0), (3, .ptr 17 0), (4, .imm (.val .nilIface)), (5, sB false)] _
      clear hml hkn hks
      (refine swe_start 2 mixed rfl ?_; refine sgoe_sound [777] (nx := 18) ?_; conv => whnf)
      refine swe_index rfl rfl rfl rfl rfl rfl rfl (by simp [setw_length]) rfl (row := (Ex.mk lo ln lu ld lp lk).cells) rfl ?_
      (refine sgoe_sound [777] (nx := 18) ?_; conv => whnf)
      refine swe_index rfl rfl rfl rfl rfl rfl rfl (by simp [setw_length]) rfl (row := (Ex.mk ro rn ru rd rp rk).cells) rfl ?_
      (refine sgoe_sound [777] (nx := 18) ?_; conv => whnf)
      refine sw_keep [0, 3, 4, 5, 9, 10] ?_
      change SW E _ [(0, .ptr 2 0), (3, .ptr 17 0), (4, .imm (.val .nilIface)), (5, sB false), (9, .ptr 18 0), (10, .ptr 19 0)] _
      refine Eq.mpr (congrArg (fun h => SW E _ _ h) (show _ = NS c vers q1 ++ [exCs op n u den ps [Ex.mk lo ln lu ld lp lk, Ex.mk ro rn ru rd rp rk], exCs lo ln lu ld lp lk, exCs ro rn ru rd rp rk] from rfl)) ?_
      (refine sgo_sound [777] 1000 ?_; conv => whnf)
      refine sw_keep [0, 3, 4, 5, 9, 10, 56, 57] ?_
      generalize hq9 : cmpCand (cmpCand q1 (Ex.mk lo ln lu ld lp lk) (Ex.mk ro rn ru rd rp rk)) (Ex.mk ro rn ru rd rp rk) (Ex.mk lo ln lu ld lp lk) = q9 at g5
      refine sw_each [(Ex.mk lo ln lu ld lp lk, Ex.mk ro rn ru rd rp rk), (Ex.mk ro rn ru rd rp rk, Ex.mk lo ln lu ld lp lk)] (fun i (_ : Sr) => [(0, .ptr 2 0), (3, .ptr 17 0), (4, .imm (.val .nilIface)), (5, sB false), (9, .ptr 18 0), (10, .ptr 19 0), (56, .agg [.imm (dI lo), .imm (dI ln), .imm (dS lu), .imm (dI ld), .imm (.isl 3 (lp.map Piece.cells)), .imm (.isl 6 (exprRows lk)), .imm (dI ro), .imm (dI rn), .imm (dS ru), .imm (dI rd), .imm (.isl 3 (rp.map Piece.cells)), .imm (.isl 6 (exprRows rk)), .imm (dI ro), .imm (dI rn), .imm (dS ru), .imm (dI rd), .imm (.isl 3 (rp.map Piece.cells)), .imm (.isl 6 (exprRows rk)), .imm (dI lo), .imm (dI ln), .imm (dS lu), .imm (dI ld), .imm (.isl 3 (lp.map Piece.cells)), .imm (.isl 6 (exprRows lk))]), (57, sI i)])
        (fun _ q2 => NS c vers q2 ++ [exCs op n u den ps [Ex.mk lo ln lu ld lp lk, Ex.mk ro rn ru rd rp rk], exCs lo ln lu ld lp lk, exCs ro rn ru rd rp rk]) (fun done rest q2 => CandsOK q2.cands ∧ q2.atoms = q1.atoms ∧ rest.foldl (fun s p => cmpCand s p.1 p.2) q2 = q9) q1 ⟨hc1, rfl, hq9⟩ ?_ ?_
      · rintro q2 ⟨k1, k2, k3⟩
        simp only [List.foldl_nil] at k3
        subst k3
        change SW E _ [(0, .ptr 2 0), (3, .ptr 17 0), (4, .imm (.val .nilIface)), (5, sB false), (9, .ptr 18 0), (10, .ptr 19 0), (56, .agg [.imm (dI lo), .imm (dI ln), .imm (dS lu), .imm (dI ld), .imm (.isl 3 (lp.map Piece.cells)), .imm (.isl 6 (exprRows lk)), .imm (dI ro), .imm (dI rn), .imm (dS ru), .imm (dI rd), .imm (.isl 3 (rp.map Piece.cells)), .imm (.isl 6 (exprRows rk)), .imm (dI ro), .imm (dI rn), .imm (dS ru), .imm (dI rd), .imm (.isl 3 (rp.map Piece.cells)), .imm (.isl 6 (exprRows rk)), .imm (dI lo), .imm (dI ln), .imm (dS lu), .imm (dI ld), .imm (.isl 3 (lp.map Piece.cells)), .imm (.isl 6 (exprRows lk))]), (57, sI 2)] _
        (refine sgo_sound [777] 1000 ?_; conv => whnf)
        repeat' ((with_reducible first | refine bdec (fun h => ?_) (fun h => ?_) | refine bndec (fun h => ?_) (fun h => ?_) | refine bwtd (fun h => ?_) (fun h => ?_) | refine bwfd (fun h => ?_) (fun h => ?_) | refine bwtn (fun h => ?_) (fun h => ?_) | refine bwfn (fun h => ?_) (fun h => ?_) | refine bwtb (fun h => ?_) (fun h => ?_) | refine bwfb (fun h => ?_) (fun h => ?_) | refine bwt (fun h => ?_) (fun h => ?_) | refine bwf (fun h => ?_) (fun h => ?_) | refine bnt (fun h => ?_) (fun h => ?_) | refine bcase (fun h => ?_) (fun h => ?_)) <;> (conv => whnf))
        · refine sw_keep [0, 15] ?_
          change SW E _ [(0, .ptr 2 0), (15, .ptr 20 0)] _
          refine Eq.mpr (congrArg (fun h => SW E _ _ h) (show _ = NS c vers q2 ++ [exCs op n u den ps [Ex.mk lo ln lu ld lp lk, Ex.mk ro rn ru rd rp rk], exCs lo ln lu ld lp lk, exCs ro rn ru rd rp rk, .cells [sI op, sI lo, sI ln, sI ro, sI rn]] from rfl)) ?_
          (refine swe_start 0 mixed rfl ?_; refine sgoe_sound [777, 999] (nx := 21) ?_; conv => whnf)
          refine swe_append (b := 16) (kk := 5) (rows := q2.atoms.map Cond.row) (new := [[iv op, iv lo, iv ln, iv ro, iv rn]]) rfl rfl rfl rfl rfl rfl rfl rfl rfl rfl ⟨by decide, rfl⟩ (by simp [setw_length]) (by show some (SObj.tok 5 q2.atoms.length) = _; rw [List.length_map]) (by simp; rw [k2]; omega) ?_
          rw [show q2.atoms.map Cond.row ++ [[iv op, iv lo, iv ln, iv ro, iv rn]] = (q2.atoms ++ [(.cmp op ⟨lo, ln⟩ ⟨ro, rn⟩ : Cond)]).map Cond.row by rw [List.map_append]; rfl]
          rw [show ((q2.atoms ++ [(.cmp op ⟨lo, ln⟩ ⟨ro, rn⟩ : Cond)]).map Cond.row).length = (q2.atoms ++ [(.cmp op ⟨lo, ln⟩ ⟨ro, rn⟩ : Cond)]).length from List.length_map _]
          (refine sgoe_sound [777] (nx := 21) ?_; conv => whnf)
          (refine sgo_sound [777] 1000 ?_; conv => whnf)
          refine swr_iface (d := .agg [iv op, iv lo, iv ln, iv ro, iv rn]) rfl rfl rfl rfl rfl ?_
          (refine sgor_sound [777] 1000 ?_; conv => whnf)
          have hif : (Ex.mk lo ln lu ld lp lk).op = 4 ∨ (Ex.mk ro rn ru rd rp rk).op = 4 := by first | exact .inl (by assumption) | exact .inr (by assumption)
          exact hfin _ { q2 with atoms := q2.atoms ++ [(.cmp op ⟨lo, ln⟩ ⟨ro, rn⟩ : Cond)] } [_, _, _, _] rfl k1 (by rw [g5]; rfl) (by rw [g5]; exact (if_pos hif).symm)
        · refine swr_iface (d := .agg [iv op, iv lo, iv ln, iv ro, iv rn]) rfl rfl rfl rfl rfl ?_
          (refine sgor_sound [777] 1000 ?_; conv => whnf)
          exact hfin _ q2 [_, _, _, _] rfl k1 (by rw [g5]; rfl) (by rw [g5]; exact (if_neg (by rintro (h | h) <;> contradiction)).symm)
        · refine sw_keep [0, 15] ?_
          change SW E _ [(0, .ptr 2 0), (15, .ptr 20 0)] _
          refine Eq.mpr (congrArg (fun h => SW E _ _ h) (show _ = NS c vers q2 ++ [exCs op n u den ps [Ex.mk lo ln lu ld lp lk, Ex.mk ro rn ru rd rp rk], exCs lo ln lu ld lp lk, exCs ro rn ru rd rp rk, .cells [sI op, sI lo, sI ln, sI ro, sI rn]] from rfl)) ?_
          (refine swe_start 0 mixed rfl ?_; refine sgoe_sound [777, 999] (nx := 21) ?_; conv => whnf)
          refine swe_append (b := 16) (kk := 5) (rows := q2.atoms.map Cond.row) (new := [[iv op, iv lo, iv ln, iv ro, iv rn]]) rfl rfl rfl rfl rfl rfl rfl rfl rfl rfl ⟨by decide, rfl⟩ (by simp [setw_length]) (by show some (SObj.tok 5 q2.atoms.length) = _; rw [List.length_map]) (by simp; rw [k2]; omega) ?_
          rw [show q2.atoms.map Cond.row ++ [[iv op, iv lo, iv ln, iv ro, iv rn]] = (q2.atoms ++ [(.cmp op ⟨lo, ln⟩ ⟨ro, rn⟩ : Cond)]).map Cond.row by rw [List.map_append]; rfl]
          rw [show ((q2.atoms ++ [(.cmp op ⟨lo, ln⟩ ⟨ro, rn⟩ : Cond)]).map Cond.row).length = (q2.atoms ++ [(.cmp op ⟨lo, ln⟩ ⟨ro, rn⟩ : Cond)]).length from List.length_map _]
          (refine sgoe_sound [777] (nx := 21) ?_; conv => whnf)
          (refine sgo_sound [777] 1000 ?_; conv => whnf)
          refine swr_iface (d := .agg [iv op, iv lo, iv ln, iv ro, iv rn]) rfl rfl rfl rfl rfl ?_
          (refine sgor_sound [777] 1000 ?_; conv => whnf)
          have hif : (Ex.mk lo ln lu ld lp lk).op = 4 ∨ (Ex.mk ro rn ru rd rp rk).op = 4 := by first | exact .inl (by assumption) | exact .inr (by assumption)
          exact hfin _ { q2 with atoms := q2.atoms ++ [(.cmp op ⟨lo, ln⟩ ⟨ro, rn⟩ : Cond)] } [_, _, _, _] rfl k1 (by rw [g5]; rfl) (by rw [g5]; exact (if_pos hif).symm)
      · rintro done x rest q2 ha hlen ⟨k1, k2, k3⟩ ih
        have h2c : (done = [] ∧ x = (Ex.mk lo ln lu ld lp lk, Ex.mk ro rn ru rd rp rk) ∧ rest = [(Ex.mk ro rn ru rd rp rk, Ex.mk lo ln lu ld lp lk)]) ∨ (done = [(Ex.mk lo ln lu ld lp lk, Ex.mk ro rn ru rd rp rk)] ∧ x = (Ex.mk ro rn ru rd rp rk, Ex.mk lo ln lu ld lp lk) ∧ rest = []) := by
          match done, ha with
          | [], ha => simp only [List.nil_append, List.cons.injEq] at ha; exact .inl ⟨rfl, ha.1.symm, ha.2.symm⟩
          | [y], ha => simp only [List.cons_append, List.nil_append, List.cons.injEq] at ha; exact .inr ⟨by rw [ha.1], ha.2.1.symm, ha.2.2.symm⟩
          | y :: z :: t, ha => simp at ha
        have hw0 : IntKind.i64.wrap (0 + 1) = 1 := wrap_mid (by decide) (by decide)
        have hw1 : IntKind.i64.wrap (1 + 1) = 2 := wrap_mid (by decide) (by decide)
        rcases h2c with ⟨rfl, rfl, rfl⟩ | ⟨rfl, rfl, rfl⟩
        · change SW E _ [(0, .ptr 2 0), (3, .ptr 17 0), (4, .imm (.val .nilIface)), (5, sB false), (9, .ptr 18 0), (10, .ptr 19 0), (56, .agg [.imm (dI lo), .imm (dI ln), .imm (dS lu), .imm (dI ld), .imm (.isl 3 (lp.map Piece.cells)), .imm (.isl 6 (exprRows lk)), .imm (dI ro), .imm (dI rn), .imm (dS ru), .imm (dI rd), .imm (.isl 3 (rp.map Piece.cells)), .imm (.isl 6 (exprRows rk)), .imm (dI ro), .imm (dI rn), .imm (dS ru), .imm (dI rd), .imm (.isl 3 (rp.map Piece.cells)), .imm (.isl 6 (exprRows rk)), .imm (dI lo), .imm (dI ln), .imm (dS lu), .imm (dI ld), .imm (.isl 3 (lp.map Piece.cells)), .imm (.isl 6 (exprRows lk))]), (57, sI 0)] _
          change ∀ q3 : Sr, _ → SW E _ [(0, .ptr 2 0), (3, .ptr 17 0), (4, .imm (.val .nilIface)), (5, sB false), (9, .ptr 18 0), (10, .ptr 19 0), (56, .agg [.imm (dI lo), .imm (dI ln), .imm (dS lu), .imm (dI ld), .imm (.isl 3 (lp.map Piece.cells)), .imm (.isl 6 (exprRows lk)), .imm (dI ro), .imm (dI rn), .imm (dS ru), .imm (dI rd), .imm (.isl 3 (rp.map Piece.cells)), .imm (.isl 6 (exprRows rk)), .imm (dI ro), .imm (dI rn), .imm (dS ru), .imm (dI rd), .imm (.isl 3 (rp.map Piece.cells)), .imm (.isl 6 (exprRows rk)), .imm (dI lo), .imm (dI ln), .imm (dS lu), .imm (dI ld), .imm (.isl 3 (lp.map Piece.cells)), .imm (.isl 6 (exprRows lk))]), (57, sI 1)] _ at ih
          have hf : KidOK (Ex.mk lo ln lu ld lp lk) := hl
          have hg : KidOK (Ex.mk ro rn ru rd rp rk) := hr
          obtain ⟨hf1, _, hf3, hf4⟩ := hf
          obtain ⟨_, _, hg3, hg4⟩ := hg
          simp only [Ex.n, Ex.op] at hf1 hf3 hf4 hg3 hg4
          (refine sgo_sound [777] 1000 ?_; conv => whnf)
          (refine swe_start 2 mixed rfl ?_; refine sgoe_sound [777] (nx := 21) ?_; conv => whnf)
          refine Eq.mpr (congrArg (fun h => SW E _ _ h) (show _ = NS c vers q2 ++ [exCs op n u den ps [Ex.mk lo ln lu ld lp lk, Ex.mk ro rn ru rd rp rk], exCs lo ln lu ld lp lk, exCs ro rn ru rd rp rk, .cells [.imm (dI lo), .imm (dI ln), .imm (dS lu), .imm (dI ld), .imm (.isl 3 (lp.map Piece.cells)), .imm (.isl 6 (exprRows lk)), .imm (dI ro), .imm (dI rn), .imm (dS ru), .imm (dI rd), .imm (.isl 3 (rp.map Piece.cells)), .imm (.isl 6 (exprRows rk))], exCs lo ln lu ld lp lk, exCs ro rn ru rd rp rk] from rfl)) ?_
          refine sw_keep [0, 3, 4, 5, 9, 10, 13, 14, 56, 57] ?_
          change SW E _ [(0, .ptr 2 0), (3, .ptr 17 0), (4, .imm (.val .nilIface)), (5, sB false), (9, .ptr 18 0), (10, .ptr 19 0), (13, .ptr 21 0), (14, .ptr 22 0), (56, .agg [.imm (dI lo), .imm (dI ln), .imm (dS lu), .imm (dI ld), .imm (.isl 3 (lp.map Piece.cells)), .imm (.isl 6 (exprRows lk)), .imm (dI ro), .imm (dI rn), .imm (dS ru), .imm (dI rd), .imm (.isl 3 (rp.map Piece.cells)), .imm (.isl 6 (exprRows rk)), .imm (dI ro), .imm (dI rn), .imm (dS ru), .imm (dI rd), .imm (.isl 3 (rp.map Piece.cells)), .imm (.isl 6 (exprRows rk)), .imm (dI lo), .imm (dI ln), .imm (dS lu), .imm (dI ld), .imm (.isl 3 (lp.map Piece.cells)), .imm (.isl 6 (exprRows lk))]), (57, sI 0)] _
          (refine sgo_sound [777] 1000 ?_; conv => whnf)
          repeat' ((with_reducible first | refine bdec (fun h => ?_) (fun h => ?_) | refine bndec (fun h => ?_) (fun h => ?_) | refine bwtd (fun h => ?_) (fun h => ?_) | refine bwfd (fun h => ?_) (fun h => ?_) | refine bwtn (fun h => ?_) (fun h => ?_) | refine bwfn (fun h => ?_) (fun h => ?_) | refine bwtb (fun h => ?_) (fun h => ?_) | refine bwfb (fun h => ?_) (fun h => ?_) | refine bwt (fun h => ?_) (fun h => ?_) | refine bwf (fun h => ?_) (fun h => ?_) | refine bnt (fun h => ?_) (fun h => ?_) | refine bcase (fun h => ?_) (fun h => ?_)) <;> (conv => whnf))
          · rw [hw0]
            refine sw_kc [0, 3, 4, 5, 9, 10, 56, 57] 20 (by rw [hH]; exact (by decide : 17 ≤ 20)) (by exact (by decide : 20 ≤ 23)) rfl (NSx_under (m := 20) k1 (by decide) (X := [exCs op n u den ps [Ex.mk lo ln lu ld lp lk, Ex.mk ro rn ru rd rp rk], exCs lo ln lu ld lp lk, exCs ro rn ru rd rp rk]) rfl) (ih q2 ⟨k1, k2, ?_⟩)
            have hs : cmpCand q2 (Ex.mk lo ln lu ld lp lk) (Ex.mk ro rn ru rd rp rk) = q2 := if_pos (show (Ex.mk lo ln lu ld lp lk).op ≠ 2 from by assumption)
            rw [List.foldl_cons, hs] at k3
            exact k3
          · have hr2 := hf1 (by assumption)
            refine swr_pre 17 rfl rfl rfl rfl rfl rfl (candidate_spec G c vers q2 ln [0, 1] hr2 k1 (by decide)) ?_
            rintro r9 H9 ⟨rfl, rfl⟩ _
            refine Eq.mpr (congrArg (fun h => SWr E _ _ _ _ h) (show _ = NS c vers (q2.cand ln [0, 1]) ++ [exCs op n u den ps [Ex.mk lo ln lu ld lp lk, Ex.mk ro rn ru rd rp rk], exCs lo ln lu ld lp lk, exCs ro rn ru rd rp rk, .cells [.imm (dI lo), .imm (dI ln), .imm (dS lu), .imm (dI ld), .imm (.isl 3 (lp.map Piece.cells)), .imm (.isl 6 (exprRows lk)), .imm (dI ro), .imm (dI rn), .imm (dS ru), .imm (dI rd), .imm (.isl 3 (rp.map Piece.cells)), .imm (.isl 6 (exprRows rk))], exCs lo ln lu ld lp lk, exCs ro rn ru rd rp rk] from rfl)) ?_
            (refine sgor_sound [777] 1000 ?_; conv => whnf)
            rw [hw0]
            refine sw_kc [0, 3, 4, 5, 9, 10, 56, 57] 20 (by rw [hH]; exact (by decide : 17 ≤ 20)) (by exact (by decide : 20 ≤ 23)) rfl (NSx_under (q := q2.cand ln [0, 1]) (m := 20) (k1.ains hr2 _) (by decide) (X := [exCs op n u den ps [Ex.mk lo ln lu ld lp lk, Ex.mk ro rn ru rd rp rk], exCs lo ln lu ld lp lk, exCs ro rn ru rd rp rk]) rfl) (ih (q2.cand ln [0, 1]) ⟨k1.ains hr2 _, k2, ?_⟩)
            have h2 : (Ex.mk lo ln lu ld lp lk).op = 2 := by assumption
            have h3 : (Ex.mk lo ln lu ld lp lk).unit = tT := by assumption
            have hs : cmpCand q2 (Ex.mk lo ln lu ld lp lk) (Ex.mk ro rn ru rd rp rk) = q2.cand ln [0, 1] := (if_neg (not_not_intro h2)).trans (if_pos h3)
            rw [List.foldl_cons, hs] at k3
            exact k3
          · have hr2 := hf1 (by assumption)
            have hwg : IntKind.i64.wrap (rn + 1) = rn + 1 := wrap_mid (by omega) (by omega)
            rw [hwg]
            refine swr_pre 17 rfl rfl rfl rfl rfl rfl (candidate_spec G c vers q2 ln [0, rn, rn + 1] hr2 k1 (by exact (by decide : 3 ≤ 1000))) ?_
            rintro r9 H9 ⟨rfl, rfl⟩ _
            refine Eq.mpr (congrArg (fun h => SWr E _ _ _ _ h) (show _ = NS c vers (q2.cand ln [0, rn, rn + 1]) ++ [exCs op n u den ps [Ex.mk lo ln lu ld lp lk, Ex.mk ro rn ru rd rp rk], exCs lo ln lu ld lp lk, exCs ro rn ru rd rp rk, .cells [.imm (dI lo), .imm (dI ln), .imm (dS lu), .imm (dI ld), .imm (.isl 3 (lp.map Piece.cells)), .imm (.isl 6 (exprRows lk)), .imm (dI ro), .imm (dI rn), .imm (dS ru), .imm (dI rd), .imm (.isl 3 (rp.map Piece.cells)), .imm (.isl 6 (exprRows rk))], exCs lo ln lu ld lp lk, exCs ro rn ru rd rp rk] from rfl)) ?_
            (refine sgor_sound [777] 1000 ?_; conv => whnf)
            rw [hw0]
            refine sw_kc [0, 3, 4, 5, 9, 10, 56, 57] 20 (by rw [hH]; exact (by decide : 17 ≤ 20)) (by exact (by decide : 20 ≤ 23)) rfl (NSx_under (q := q2.cand ln [0, rn, rn + 1]) (m := 20) (k1.ains hr2 _) (by decide) (X := [exCs op n u den ps [Ex.mk lo ln lu ld lp lk, Ex.mk ro rn ru rd rp rk], exCs lo ln lu ld lp lk, exCs ro rn ru rd rp rk]) rfl) (ih (q2.cand ln [0, rn, rn + 1]) ⟨k1.ains hr2 _, k2, ?_⟩)
            have h2 : (Ex.mk lo ln lu ld lp lk).op = 2 := by assumption
            have h3 : ¬(Ex.mk lo ln lu ld lp lk).unit = tT := by assumption
            have hs : cmpCand q2 (Ex.mk lo ln lu ld lp lk) (Ex.mk ro rn ru rd rp rk) = q2.cand ln [0, rn, rn + 1] := (if_neg (not_not_intro h2)).trans (if_neg h3)
            rw [List.foldl_cons, hs] at k3
            exact k3
        · change SW E _ [(0, .ptr 2 0), (3, .ptr 17 0), (4, .imm (.val .nilIface)), (5, sB false), (9, .ptr 18 0), (10, .ptr 19 0), (56, .agg [.imm (dI lo), .imm (dI ln), .imm (dS lu), .imm (dI ld), .imm (.isl 3 (lp.map Piece.cells)), .imm (.isl 6 (exprRows lk)), .imm (dI ro), .imm (dI rn), .imm (dS ru), .imm (dI rd), .imm (.isl 3 (rp.map Piece.cells)), .imm (.isl 6 (exprRows rk)), .imm (dI ro), .imm (dI rn), .imm (dS ru), .imm (dI rd), .imm (.isl 3 (rp.map Piece.cells)), .imm (.isl 6 (exprRows rk)), .imm (dI lo), .imm (dI ln), .imm (dS lu), .imm (dI ld), .imm (.isl 3 (lp.map Piece.cells)), .imm (.isl 6 (exprRows lk))]), (57, sI 1)] _
          change ∀ q3 : Sr, _ → SW E _ [(0, .ptr 2 0), (3, .ptr 17 0), (4, .imm (.val .nilIface)), (5, sB false), (9, .ptr 18 0), (10, .ptr 19 0), (56, .agg [.imm (dI lo), .imm (dI ln), .imm (dS lu), .imm (dI ld), .imm (.isl 3 (lp.map Piece.cells)), .imm (.isl 6 (exprRows lk)), .imm (dI ro), .imm (dI rn), .imm (dS ru), .imm (dI rd), .imm (.isl 3 (rp.map Piece.cells)), .imm (.isl 6 (exprRows rk)), .imm (dI ro), .imm (dI rn), .imm (dS ru), .imm (dI rd), .imm (.isl 3 (rp.map Piece.cells)), .imm (.isl 6 (exprRows rk)), .imm (dI lo), .imm (dI ln), .imm (dS lu), .imm (dI ld), .imm (.isl 3 (lp.map Piece.cells)), .imm (.isl 6 (exprRows lk))]), (57, sI 2)] _ at ih
          have hf : KidOK (Ex.mk ro rn ru rd rp rk) := hr
          have hg : KidOK (Ex.mk lo ln lu ld lp lk) := hl
          obtain ⟨hf1, _, hf3, hf4⟩ := hf
          obtain ⟨_, _, hg3, hg4⟩ := hg
          simp only [Ex.n, Ex.op] at hf1 hf3 hf4 hg3 hg4
          (refine sgo_sound [777] 1000 ?_; conv => whnf)
          (refine swe_start 2 mixed rfl ?_; refine sgoe_sound [777] (nx := 21) ?_; conv => whnf)
          refine Eq.mpr (congrArg (fun h => SW E _ _ h) (show _ = NS c vers q2 ++ [exCs op n u den ps [Ex.mk lo ln lu ld lp lk, Ex.mk ro rn ru rd rp rk], exCs lo ln lu ld lp lk, exCs ro rn ru rd rp rk, .cells [.imm (dI ro), .imm (dI rn), .imm (dS ru), .imm (dI rd), .imm (.isl 3 (rp.map Piece.cells)), .imm (.isl 6 (exprRows rk)), .imm (dI lo), .imm (dI ln), .imm (dS lu), .imm (dI ld), .imm (.isl 3 (lp.map Piece.cells)), .imm (.isl 6 (exprRows lk))], exCs ro rn ru rd rp rk, exCs lo ln lu ld lp lk] from rfl)) ?_
          refine sw_keep [0, 3, 4, 5, 9, 10, 13, 14, 56, 57] ?_
          change SW E _ [(0, .ptr 2 0), (3, .ptr 17 0), (4, .imm (.val .nilIface)), (5, sB false), (9, .ptr 18 0), (10, .ptr 19 0), (13, .ptr 21 0), (14, .ptr 22 0), (56, .agg [.imm (dI lo), .imm (dI ln), .imm (dS lu), .imm (dI ld), .imm (.isl 3 (lp.map Piece.cells)), .imm (.isl 6 (exprRows lk)), .imm (dI ro), .imm (dI rn), .imm (dS ru), .imm (dI rd), .imm (.isl 3 (rp.map Piece.cells)), .imm (.isl 6 (exprRows rk)), .imm (dI ro), .imm (dI rn), .imm (dS ru), .imm (dI rd), .imm (.isl 3 (rp.map Piece.cells)), .imm (.isl 6 (exprRows rk)), .imm (dI lo), .imm (dI ln), .imm (dS lu), .imm (dI ld), .imm (.isl 3 (lp.map Piece.cells)), .imm (.isl 6 (exprRows lk))]), (57, sI 1)] _
          (refine sgo_sound [777] 1000 ?_; conv => whnf)
          repeat' ((with_reducible first | refine bdec (fun h => ?_) (fun h => ?_) | refine bndec (fun h => ?_) (fun h => ?_) | refine bwtd (fun h => ?_) (fun h => ?_) | refine bwfd (fun h => ?_) (fun h => ?_) | refine bwtn (fun h => ?_) (fun h => ?_) | refine bwfn (fun h => ?_) (fun h => ?_) | refine bwtb (fun h => ?_) (fun h => ?_) | refine bwfb (fun h => ?_) (fun h => ?_) | refine bwt (fun h => ?_) (fun h => ?_) | refine bwf (fun h => ?_) (fun h => ?_) | refine bnt (fun h => ?_) (fun h => ?_) | refine bcase (fun h => ?_) (fun h => ?_)) <;> (conv => whnf))
          · rw [hw1]
            refine sw_kc [0, 3, 4, 5, 9, 10, 56, 57] 20 (by rw [hH]; exact (by decide : 17 ≤ 20)) (by exact (by decide : 20 ≤ 23)) rfl (NSx_under (m := 20) k1 (by decide) (X := [exCs op n u den ps [Ex.mk lo ln lu ld lp lk, Ex.mk ro rn ru rd rp rk], exCs lo ln lu ld lp lk, exCs ro rn ru rd rp rk]) rfl) (ih q2 ⟨k1, k2, ?_⟩)
            have hs : cmpCand q2 (Ex.mk ro rn ru rd rp rk) (Ex.mk lo ln lu ld lp lk) = q2 := if_pos (show (Ex.mk ro rn ru rd rp rk).op ≠ 2 from by assumption)
            rw [List.foldl_cons, hs] at k3
            exact k3
          · have hr2 := hf1 (by assumption)
            refine swr_pre 17 rfl rfl rfl rfl rfl rfl (candidate_spec G c vers q2 rn [0, 1] hr2 k1 (by decide)) ?_
            rintro r9 H9 ⟨rfl, rfl⟩ _
            refine Eq.mpr (congrArg (fun h => SWr E _ _ _ _ h) (show _ = NS c vers (q2.cand rn [0, 1]) ++ [exCs op n u den ps [Ex.mk lo ln lu ld lp lk, Ex.mk ro rn ru rd rp rk], exCs lo ln lu ld lp lk, exCs ro rn ru rd rp rk, .cells [.imm (dI ro), .imm (dI rn), .imm (dS ru), .imm (dI rd), .imm (.isl 3 (rp.map Piece.cells)), .imm (.isl 6 (exprRows rk)), .imm (dI lo), .imm (dI ln), .imm (dS lu), .imm (dI ld), .imm (.isl 3 (lp.map Piece.cells)), .imm (.isl 6 (exprRows lk))], exCs ro rn ru rd rp rk, exCs lo ln lu ld lp lk] from rfl)) ?_
            (refine sgor_sound [777] 1000 ?_; conv => whnf)
            rw [hw1]
            refine sw_kc [0, 3, 4, 5, 9, 10, 56, 57] 20 (by rw [hH]; exact (by decide : 17 ≤ 20)) (by exact (by decide : 20 ≤ 23)) rfl (NSx_under (q := q2.cand rn [0, 1]) (m := 20) (k1.ains hr2 _) (by decide) (X := [exCs op n u den ps [Ex.mk lo ln lu ld lp lk, Ex.mk ro rn ru rd rp rk], exCs lo ln lu ld lp lk, exCs ro rn ru rd rp rk]) rfl) (ih (q2.cand rn [0, 1]) ⟨k1.ains hr2 _, k2, ?_⟩)
            have h2 : (Ex.mk ro rn ru rd rp rk).op = 2 := by assumption
            have h3 : (Ex.mk ro rn ru rd rp rk).unit = tT := by assumption
            have hs : cmpCand q2 (Ex.mk ro rn ru rd rp rk) (Ex.mk lo ln lu ld lp lk) = q2.cand rn [0, 1] := (if_neg (not_not_intro h2)).trans (if_pos h3)
            rw [List.foldl_cons, hs] at k3
            exact k3
          · have hr2 := hf1 (by assumption)
            have hwg : IntKind.i64.wrap (ln + 1) = ln + 1 := wrap_mid (by omega) (by omega)
            rw [hwg]
            refine swr_pre 17 rfl rfl rfl rfl rfl rfl (candidate_spec G c vers q2 rn [0, ln, ln + 1] hr2 k1 (by exact (by decide : 3 ≤ 1000))) ?_
            rintro r9 H9 ⟨rfl, rfl⟩ _
            refine Eq.mpr (congrArg (fun h => SWr E _ _ _ _ h) (show _ = NS c vers (q2.cand rn [0, ln, ln + 1]) ++ [exCs op n u den ps [Ex.mk lo ln lu ld lp lk, Ex.mk ro rn ru rd rp rk], exCs lo ln lu ld lp lk, exCs ro rn ru rd rp rk, .cells [.imm (dI ro), .imm (dI rn), .imm (dS ru), .imm (dI rd), .imm (.isl 3 (rp.map Piece.cells)), .imm (.isl 6 (exprRows rk)), .imm (dI lo), .imm (dI ln), .imm (dS lu), .imm (dI ld), .imm (.isl 3 (lp.map Piece.cells)), .imm (.isl 6 (exprRows lk))], exCs ro rn ru rd rp rk, exCs lo ln lu ld lp lk] from rfl)) ?_
            (refine sgor_sound [777] 1000 ?_; conv => whnf)
            rw [hw1]
            refine sw_kc [0, 3, 4, 5, 9, 10, 56, 57] 20 (by rw [hH]; exact (by decide : 17 ≤ 20)) (by exact (by decide : 20 ≤ 23)) rfl (NSx_under (q := q2.cand rn [0, ln, ln + 1]) (m := 20) (k1.ains hr2 _) (by decide) (X := [exCs op n u den ps [Ex.mk lo ln lu ld lp lk, Ex.mk ro rn ru rd rp rk], exCs lo ln lu ld lp lk, exCs ro rn ru rd rp rk]) rfl) (ih (q2.cand rn [0, ln, ln + 1]) ⟨k1.ains hr2 _, k2, ?_⟩)
            have h2 : (Ex.mk ro rn ru rd rp rk).op = 2 := by assumption
            have h3 : ¬(Ex.mk ro rn ru rd rp rk).unit = tT := by assumption
            have hs : cmpCand q2 (Ex.mk ro rn ru rd rp rk) (Ex.mk lo ln lu ld lp lk) = q2.cand rn [0, ln, ln + 1] := (if_neg (not_not_intro h2)).trans (if_neg h3)
            rw [List.foldl_cons, hs] at k3
            exact k3
  · rintro done x rest ⟨ds, m⟩ ha hlen ⟨g1, g2, g3, g4⟩ ih
    have hw := wrap_succ (n := done.length) (by omega)
    have hrow : (ks.map Ex.cells)[((done.length : Nat) : Int).toNat]? = some x.cells := by simp [ha]
    have hx := hks x (by rw [ha]; simp)
    obtain ⟨xo, xn, xu, xd, xp, xk⟩ := x
    obtain ⟨d0, d1, d2, d3, d4, rfl⟩ : ∃ d0 d1 d2 d3 d4, ds = [d0, d1, d2, d3, d4] := by
      match ds, g1 with
      | [d0, d1, d2, d3, d4], _ => exact ⟨d0, d1, d2, d3, d4, rfl⟩
    simp only [Ex.cells] at hrow
    dsimp only at g1 g2 g3
    have hw2 : IntKind.i64.wrap (m + 1) = m + 1 := by rw [show m + 1 = ((m.toNat : Nat) : Int) + 1 by omega, wrap_succ (by omega)]; omega
    rw [scan_cons] at g4
    (refine sgo_sound [777] 1000 ?_; conv => whnf)
    repeat' ((with_reducible first | refine bdec (fun h => ?_) (fun h => ?_) | refine bndec (fun h => ?_) (fun h => ?_) | refine bwtd (fun h => ?_) (fun h => ?_) | refine bwfd (fun h => ?_) (fun h => ?_) | refine bwtn (fun h => ?_) (fun h => ?_) | refine bwfn (fun h => ?_) (fun h => ?_) | refine bwtb (fun h => ?_) (fun h => ?_) | refine bwfb (fun h => ?_) (fun h => ?_) | refine bwt (fun h => ?_) (fun h => ?_) | refine bwf (fun h => ?_) (fun h => ?_) | refine bnt (fun h => ?_) (fun h => ?_) | refine bcase (fun h => ?_) (fun h => ?_)) <;> (conv => whnf))
    all_goals try (exfalso; omega)
    refine swr_index rfl rfl rfl rfl rfl rfl rfl rfl  hrow ?_
    (refine sgor_sound [777] 1000 ?_; conv => whnf)
    repeat' ((with_reducible first | refine bdec (fun h => ?_) (fun h => ?_) | refine bndec (fun h => ?_) (fun h => ?_) | refine bwtd (fun h => ?_) (fun h => ?_) | refine bwfd (fun h => ?_) (fun h => ?_) | refine bwtn (fun h => ?_) (fun h => ?_) | refine bwfn (fun h => ?_) (fun h => ?_) | refine bwtb (fun h => ?_) (fun h => ?_) | refine bwfb (fun h => ?_) (fun h => ?_) | refine bwt (fun h => ?_) (fun h => ?_) | refine bwf (fun h => ?_) (fun h => ?_) | refine bnt (fun h => ?_) (fun h => ?_) | refine bcase (fun h => ?_) (fun h => ?_)) <;> (conv => whnf))
    · rw [if_pos (show xo = 1 by assumption)] at g4
      rw [hw, hw2]
      exact sw_kc [0, 3, 4, 5, 6, 17, 18, 19] 18 (by rw [hH]; exact (by decide : 17 ≤ 18)) (by exact (by decide : 18 ≤ 19)) rfl (NSx_under (q := { q with dates := [d0, d1, d2, d3, d4] }) (m := 18) hq (by decide) (X := [_]) rfl)
        (ih ([d0, d1, d2, d3, d4], m + 1) ⟨rfl, by simp; omega, by simp; omega, g4⟩)
    · rw [if_neg (show ¬xo = 1 by assumption), if_pos (show xo = 4 by assumption)] at g4
      obtain ⟨hx0, hx4⟩ := hx.date (by assumption)
      simp only [Ex.n] at hx0 hx4
      have h5 : xn = 0 ∨ xn = 1 ∨ xn = 2 ∨ xn = 3 ∨ xn = 4 := by omega
      rcases h5 with rfl | rfl | rfl | rfl | rfl <;> (refine swe_start 0 mixed rfl ?_; refine sgoe_sound [777] (nx := 19) ?_; conv => whnf) <;> ((refine sgo_sound [777] 1000 ?_; conv => whnf)) <;> rw [hw]
      · exact sw_kc [0, 3, 4, 5, 6, 17, 18, 19] 18 (by rw [hH]; exact (by decide : 17 ≤ 18)) (by exact (by decide : 18 ≤ 19)) rfl (NSx_under (q := { q with dates := [true, d1, d2, d3, d4] }) (m := 18) hq (by decide) (X := [_]) rfl)
          (ih ([true, d1, d2, d3, d4], m) ⟨rfl, g2, by simp; omega, g4⟩)
      · exact sw_kc [0, 3, 4, 5, 6, 17, 18, 19] 18 (by rw [hH]; exact (by decide : 17 ≤ 18)) (by exact (by decide : 18 ≤ 19)) rfl (NSx_under (q := { q with dates := [d0, true, d2, d3, d4] }) (m := 18) hq (by decide) (X := [_]) rfl)
          (ih ([d0, true, d2, d3, d4], m) ⟨rfl, g2, by simp; omega, g4⟩)
      · exact sw_kc [0, 3, 4, 5, 6, 17, 18, 19] 18 (by rw [hH]; exact (by decide : 17 ≤ 18)) (by exact (by decide : 18 ≤ 19)) rfl (NSx_under (q := { q with dates := [d0, d1, true, d3, d4] }) (m := 18) hq (by decide) (X := [_]) rfl)
          (ih ([d0, d1, true, d3, d4], m) ⟨rfl, g2, by simp; omega, g4⟩)
      · exact sw_kc [0, 3, 4, 5, 6, 17, 18, 19] 18 (by rw [hH]; exact (by decide : 17 ≤ 18)) (by exact (by decide : 18 ≤ 19)) rfl (NSx_under (q := { q with dates := [d0, d1, d2, true, d4] }) (m := 18) hq (by decide) (X := [_]) rfl)
          (ih ([d0, d1, d2, true, d4], m) ⟨rfl, g2, by simp; omega, g4⟩)
      · exact sw_kc [0, 3, 4, 5, 6, 17, 18, 19] 18 (by rw [hH]; exact (by decide : 17 ≤ 18)) (by exact (by decide : 18 ≤ 19)) rfl (NSx_under (q := { q with dates := [d0, d1, d2, d3, true] }) (m := 18) hq (by decide) (X := [_]) rfl)
          (ih ([d0, d1, d2, d3, true], m) ⟨rfl, g2, by simp; omega, g4⟩)
    · rw [if_neg (show ¬xo = 1 by assumption), if_neg (show ¬xo = 4 by assumption), if_pos (show xo = 2 by assumption)] at g4
      rw [hw]
      exact sw_kc [0, 3, 4, 5, 6, 17, 18, 19] 18 (by rw [hH]; exact (by decide : 17 ≤ 18)) (by exact (by decide : 18 ≤ 19)) rfl (NSx_under (q := { q with dates := [d0, d1, d2, d3, d4] }) (m := 18) hq (by decide) (X := [_]) rfl)
        (ih ([d0, d1, d2, d3, d4], m) ⟨rfl, g2, by simp; omega, g4⟩)
    · rw [if_neg (show ¬xo = 1 by assumption), if_neg (show ¬xo = 4 by assumption), if_neg (show ¬xo = 2 by assumption)] at g4
      have e : cmpOf q op ks = (.none, false, { q with dates := [d0, d1, d2, d3, d4] }) := by simp only [cmpOf, g4]
      exact hfin _ { q with dates := [d0, d1, d2, d3, d4] } [_, _] rfl hq (by rw [e]; rfl) (by rw [e])
end Go.Proofs.YtblpjknmhajcgaaGreatDoor

/- The search is made: simple expressions (contract). -/
namespace Go.Proofs.YtblpjknmhajcgaaGreatDoor
open Go Go.Sh
set_option maxRecDepth 10000
set_option maxHeartbeats 4000000
variable (G : List (Nat × D))

/-- an expression that the code can read -/
def fits : Ex → Prop
  | .mk op n _ _ _ ks => (op = 2 → 0 ≤ n ∧ n < 12) ∧ (op = 8 ∨ op = 9 ∨ op = 10 → ∃ l r, ks = [l, r] ∧ KidOK l ∧ KidOK r)
    ∧ (if op = 5 then match ks with
        | k :: r => r = [] ∧ fits k
        | [] => False
      else if op = 6 ∨ op = 7 then match ks with
        | k :: l :: r => r = [] ∧ fits k ∧ fits l
        | _ => False
      else True)
/-- comparisons in it -/
def cmpsN : Ex → Nat
  | .mk op _ _ _ _ ks => if op = 8 ∨ op = 9 ∨ op = 10 then 1 else match ks with
    | k :: l :: _ => cmpsN k + cmpsN l
    | [k] => cmpsN k
    | [] => 0
structure SrK (q : Sr) : Prop where
  cands : CandsOK q.cands
  dates : q.dates.length = 5
theorem SrK.cand {q : Sr} (h : SrK q) {f : Int} (hf : 0 ≤ f ∧ f < 12) (vs : List Int) : SrK (q.cand f vs) := ⟨h.cands.ains hf _, h.dates⟩
theorem SrK.date {q : Sr} (h : SrK q) (i : Int) : SrK (q.date i) := ⟨h.cands, by simp [Sr.date, h.dates]⟩
theorem scan_keeps : ∀ (ks : List Ex) (q : Sr) (n : Int), SrK q → SrK (cmpScan ks q n).2.1 ∧ (cmpScan ks q n).2.1.atoms = q.atoms
  | [], q, n, h => ⟨h, rfl⟩
  | k :: r, q, n, h => by
    simp only [cmpScan]
    split
    · exact scan_keeps r q (n + 1) h
    · split
      · exact scan_keeps r (q.date k.n) n (h.date _)
      · split
        · exact scan_keeps r q n h
        · exact ⟨h, rfl⟩
theorem cand_keeps {q : Sr} (h : SrK q) {f : Ex} (g : Ex) (hf : KidOK f) : SrK (cmpCand q f g) ∧ (cmpCand q f g).atoms = q.atoms := by
  unfold cmpCand
  split
  · exact ⟨h, rfl⟩
  · rename_i h2
    have := hf.fact (by omega)
    split
    · exact ⟨h.cand this _, rfl⟩
    · exact ⟨h.cand this _, rfl⟩
theorem cmp_keeps {q : Sr} (h : SrK q) (op : Int) {l r : Ex} (hl : KidOK l) (hr : KidOK r) : SrK (cmpOf q op [l, r]).2.2 ∧ (cmpOf q op [l, r]).2.2.atoms.length ≤ q.atoms.length + 1 := by
  have h1 := scan_keeps [l, r] q 0 h
  unfold cmpOf
  generalize cmpScan [l, r] q 0 = z at h1
  obtain ⟨b, s1, n⟩ := z
  simp only at h1
  obtain ⟨h1, ha⟩ := h1
  cases b with
  | false => exact ⟨h1, by simp [ha]⟩
  | true =>
    simp only
    split
    · exact ⟨h1, by simp [ha]⟩
    · have h2 := cand_keeps h1 (f := l) r hl
      have h3 := cand_keeps h2.1 (f := r) l hr
      split
      · exact ⟨⟨h3.1.cands, h3.1.dates⟩, by simp [h3.2, h2.2, ha]⟩
      · exact ⟨h3.1, by rw [h3.2, h2.2, ha]; omega⟩
theorem simple_keeps : ∀ (N : Nat) (e : Ex) (q : Sr), SizeOf.sizeOf e < N → fits e → SrK q → SrK (simpleOf e q).2.2 ∧ (simpleOf e q).2.2.atoms.length ≤ q.atoms.length + cmpsN e
  | 0, _, _, h, _, _ => by omega
  | N + 1, .mk op n u den ps ks, q, hN, hf, hq => by
    unfold fits at hf
    obtain ⟨f1, f2, f3⟩ := hf
    unfold simpleOf cmpsN
    by_cases h1 : op = 1
    · rw [if_pos h1]
      exact ⟨hq, Nat.le_add_right _ _⟩
    rw [if_neg h1]
    by_cases h2 : op = 2
    · rw [if_pos h2]
      exact ⟨hq.cand (f1 h2) _, Nat.le_add_right _ _⟩
    rw [if_neg h2]
    by_cases h3 : op = 8 ∨ op = 9 ∨ op = 10
    · rw [if_pos h3, if_pos h3]
      obtain ⟨l, r, rfl, hl, hr⟩ := f2 h3
      exact cmp_keeps hq op hl hr
    rw [if_neg h3, if_neg h3]
    by_cases h4 : op = 5
    · rw [if_pos h4] at f3 ⊢
      match ks, f3, hN with
      | [k], f3, hN =>
        simp only [Ex.mk.sizeOf_spec, List.cons.sizeOf_spec] at hN
        exact simple_keeps N k q (by omega) f3.2 hq
    rw [if_neg h4] at f3 ⊢
    by_cases h5 : op = 6 ∨ op = 7
    · rw [if_pos h5] at f3 ⊢
      match ks, f3, hN with
      | [k, l], f3, hN =>
        simp only [Ex.mk.sizeOf_spec, List.cons.sizeOf_spec] at hN
        have g1 := simple_keeps N k q (by omega) f3.2.1 hq
        have g2 := simple_keeps N l _ (by omega) f3.2.2 g1.1
        exact ⟨g2.1, by simp only; omega⟩
    rw [if_neg h5] at f3 ⊢
    exact ⟨hq, Nat.le_add_right _ _⟩

theorem simple_mk (op n : Int) (u : ByteArray) (den : Int) (ps : List Piece) (ks : List Ex) (s : Sr) : simpleOf (.mk op n u den ps ks) s =
    if op = 1 then (.plain ⟨1, n⟩, true, s)
    else if op = 2 then (.plain ⟨2, n⟩, true, s.cand n [0, 1])
    else if op = 8 ∨ op = 9 ∨ op = 10 then cmpOf s op ks
    else if op = 5 then match ks with
      | k :: _ => let r := simpleOf k s; (.neg r.1, r.2.1, r.2.2)
      | [] => (.none, false, s)
    else if op = 6 ∨ op = 7 then match ks with
      | k :: l :: _ => let r := simpleOf k s; let q := simpleOf l r.2.2; (.conn (if op = 7 then 1 else 0) r.1 q.1, r.2.1 && q.2.1, q.2.2)
      | _ => (.none, false, s)
    else (.none, false, s) := by rw [simpleOf.eq_def]; rfl
theorem cond_d (x : Cond) : x.d = .val .nilIface ∨ ∃ t y, x.d = .iface t y := by
  cases x with
  | none => exact .inl rfl
  | _ => exact .inr ⟨_, _, rfl⟩

theorem simple_aux (c : Codex) (vers : List Int) : ∀ (N : Nat) (e : Ex) (q : Sr), SizeOf.sizeOf e < N → fits e → SrK q → q.atoms.length + cmpsN e ≤ 1000000000 →
    SPre Tryz.prog G 66 [.ptr 2 0, .agg (e.cells.map SV.imm)] (NS c vers q) (fun v H' => v = .tup [.imm (simpleOf e q).1.d, sB (simpleOf e q).2.1] ∧ H' = NS c vers (simpleOf e q).2.2)
  | 0, _, _, h, _, _, _ => by omega
  | N + 1, .mk op n u den ps ks, q, hN, hf, hq, hsz => by
    refine spre_enter Tryz.func66 rfl (by rw [Tryz.ntmps66]; simp) rfl (NS_under hq.cands.rng) ?_
    intro E hH hK
    rw [show (Ex.mk op n u den ps ks).cells.map SV.imm = [.imm (dI op), .imm (dI n), .imm (dS u), .imm (dI den), .imm (.isl 3 (ps.map Piece.cells)), kidsV ks] by simp [Ex.cells, exprRows_eq, kidsV]]
    have hfin : ∀ (v : SV) (q' : Sr) (X : List SObj), v.under 17 = true → CandsOK q'.cands → v = .tup [.imm (simpleOf (.mk op n u den ps ks) q).1.d, sB (simpleOf (.mk op n u den ps ks) q).2.1] → q' = (simpleOf (.mk op n u den ps ks) q).2.2 → E.K v (NS c vers q' ++ X) := by
      intro v q' X h1 h2 h3 h4
      have ht : (NS c vers q' ++ X).take (NS c vers q).length = NS c vers q' := by
        rw [show (NS c vers q).length = (NS c vers q').length from rfl, List.take_append_of_le_length (Nat.le_refl _), List.take_length]
      refine hK v _ (by rw [List.length_append]; exact Nat.le_add_right _ _) h1 (by rw [ht]; exact NS_under h2.rng) ⟨h3, ?_⟩
      rw [ht, h4]
    clear hK
    unfold fits at hf
    obtain ⟨f1, f2, f3⟩ := hf
    have hs := simple_mk op n u den ps ks q
    unfold cmpsN at hsz
    (refine sgo_sound [777] 1000 ?_; conv => whnf)
    repeat' ((with_reducible first | refine bdec (fun h => ?_) (fun h => ?_) | refine bndec (fun h => ?_) (fun h => ?_) | refine bwtd (fun h => ?_) (fun h => ?_) | refine bwfd (fun h => ?_) (fun h => ?_) | refine bwtn (fun h => ?_) (fun h => ?_) | refine bwfn (fun h => ?_) (fun h => ?_) | refine bwtb (fun h => ?_) (fun h => ?_) | refine bwfb (fun h => ?_) (fun h => ?_) | refine bwt (fun h => ?_) (fun h => ?_) | refine bwf (fun h => ?_) (fun h => ?_) | refine bnt (fun h => ?_) (fun h => ?_) | refine bcase (fun h => ?_) (fun h => ?_)) <;> (conv => whnf))
    all_goals try (exfalso; omega)
    · rw [if_pos (by assumption)] at hs
      refine swr_iface (d := .agg [iv 1, iv n]) rfl rfl rfl rfl rfl ?_
      (refine sgor_sound [777] 1000 ?_; conv => whnf)
      exact hfin _ q [_] rfl hq.cands (by rw [hs]; rfl) (by rw [hs])
    · rw [if_neg (show ¬op = 1 by assumption), if_pos (show op = 2 by assumption)] at hs
      have hn := f1 (by assumption)
      refine swr_pre 17 rfl rfl rfl rfl rfl rfl (candidate_spec G c vers q n [0, 1] hn hq.cands (by decide)) ?_
      rintro r9 H9 ⟨rfl, rfl⟩ _
      (refine sgor_sound [777] 1000 ?_; conv => whnf)
      refine swr_iface (d := .agg [iv 2, iv n]) rfl rfl rfl rfl rfl ?_
      (refine sgor_sound [777] 1000 ?_; conv => whnf)
      exact hfin _ (q.cand n [0, 1]) [_] rfl (hq.cands.ains hn _) (by rw [hs]; rfl) (by rw [hs])
    · have ho : op = 8 ∨ op = 9 ∨ op = 10 := by omega
      obtain ⟨l, r, rfl, hl, hr⟩ := f2 ho
      rw [if_pos ho] at hsz
      rw [if_neg (show ¬op = 1 by omega), if_neg (show ¬op = 2 by omega), if_pos ho] at hs
      refine swr_pre 17 rfl rfl rfl rfl rfl rfl (comparison_spec G c vers q op n u den ps l r hl hr hq.cands hq.dates (by omega)) ?_
      rintro r9 H9 ⟨rfl, rfl⟩ _
      have hkp := (cmp_keeps hq op hl hr).1
      generalize cmpOf q op [l, r] = z at hs hkp ⊢
      obtain ⟨cd, b, q'⟩ := z
      rcases cond_d cd with hcd | ⟨t9, y9, hcd⟩ <;> simp only [hcd] <;> ((refine sgor_sound [777] 1000 ?_; conv => whnf)) <;>
        exact hfin _ q' [_] rfl hkp.cands (by rw [hs]; simp only [hcd]; rfl) (by rw [hs])
    · have ho : op = 8 ∨ op = 9 ∨ op = 10 := by omega
      obtain ⟨l, r, rfl, hl, hr⟩ := f2 ho
      rw [if_pos ho] at hsz
      rw [if_neg (show ¬op = 1 by omega), if_neg (show ¬op = 2 by omega), if_pos ho] at hs
      refine swr_pre 17 rfl rfl rfl rfl rfl rfl (comparison_spec G c vers q op n u den ps l r hl hr hq.cands hq.dates (by omega)) ?_
      rintro r9 H9 ⟨rfl, rfl⟩ _
      have hkp := (cmp_keeps hq op hl hr).1
      generalize cmpOf q op [l, r] = z at hs hkp ⊢
      obtain ⟨cd, b, q'⟩ := z
      rcases cond_d cd with hcd | ⟨t9, y9, hcd⟩ <;> simp only [hcd] <;> ((refine sgor_sound [777] 1000 ?_; conv => whnf)) <;>
        exact hfin _ q' [_] rfl hkp.cands (by rw [hs]; simp only [hcd]; rfl) (by rw [hs])
    · have ho : op = 8 ∨ op = 9 ∨ op = 10 := by omega
      obtain ⟨l, r, rfl, hl, hr⟩ := f2 ho
      rw [if_pos ho] at hsz
      rw [if_neg (show ¬op = 1 by omega), if_neg (show ¬op = 2 by omega), if_pos ho] at hs
      refine swr_pre 17 rfl rfl rfl rfl rfl rfl (comparison_spec G c vers q op n u den ps l r hl hr hq.cands hq.dates (by omega)) ?_
      rintro r9 H9 ⟨rfl, rfl⟩ _
      have hkp := (cmp_keeps hq op hl hr).1
      generalize cmpOf q op [l, r] = z at hs hkp ⊢
      obtain ⟨cd, b, q'⟩ := z
      rcases cond_d cd with hcd | ⟨t9, y9, hcd⟩ <;> simp only [hcd] <;> ((refine sgor_sound [777] 1000 ?_; conv => whnf)) <;>
        exact hfin _ q' [_] rfl hkp.cands (by rw [hs]; simp only [hcd]; rfl) (by rw [hs])
    · have ho8 : ¬(op = 8 ∨ op = 9 ∨ op = 10) := by omega
      rw [if_neg ho8] at hsz
      rw [if_pos (show op = 5 by assumption)] at f3
      rw [if_neg (show ¬op = 1 by assumption), if_neg (show ¬op = 2 by assumption), if_neg ho8, if_pos (show op = 5 by assumption)] at hs
      match ks, f3, hN, hsz, hs, hfin with
      | [k], f3, hN, hsz, hs, hfin =>
      simp only [Ex.mk.sizeOf_spec, List.cons.sizeOf_spec] at hN
      have hk := simple_aux c vers N k q (by omega) f3.2 hq hsz
      have hkp := (simple_keeps N k q (by omega) f3.2 hq).1
      simp only at hs
      generalize simpleOf k q = z at hk hs hkp
      obtain ⟨cd, b, q'⟩ := z
      obtain ⟨ko, kn, ku, kd, kp, kk⟩ := k
      refine swr_index rfl rfl rfl rfl rfl rfl rfl rfl  (row := (Ex.mk ko kn ku kd kp kk).cells) rfl ?_
      (refine sgor_sound [777] 1000 ?_; conv => whnf)
      refine swr_pre 17 rfl rfl rfl rfl rfl rfl hk ?_
      rintro r9 H9 ⟨rfl, rfl⟩ _
      rcases cond_d cd with hcd | ⟨t9, y9, hcd⟩ <;> simp only [hcd] <;> ((refine sgor_sound [777] 1000 ?_; conv => whnf)) <;> refine swr_iface (d := .agg [_]) rfl rfl rfl rfl rfl ?_ <;> ((refine sgor_sound [777] 1000 ?_; conv => whnf)) <;>
        exact hfin _ q' [_] rfl hkp.cands (by rw [hs]; simp only [Cond.d, hcd]; rfl) (by rw [hs])
    · have ho : op = 6 ∨ op = 7 := by omega
      have h7 : (if op = 7 then (1 : Int) else 0) = 0 := if_neg (by omega)
      have ho5 : ¬op = 5 := by omega
      have ho8 : ¬(op = 8 ∨ op = 9 ∨ op = 10) := by omega
      rw [if_neg ho8] at hsz
      rw [if_neg ho5, if_pos ho] at f3
      rw [if_neg (show ¬op = 1 by omega), if_neg (show ¬op = 2 by omega), if_neg ho8, if_neg ho5, if_pos ho] at hs
      match ks, f3, hN, hsz, hs, hfin with
      | [k, l], f3, hN, hsz, hs, hfin =>
      simp only [Ex.mk.sizeOf_spec, List.cons.sizeOf_spec] at hN
      simp only at hsz
      have hk := simple_aux c vers N k q (by omega) f3.2.1 hq (by omega)
      have hkp := simple_keeps N k q (by omega) f3.2.1 hq
      simp only at hs
      have hsz2 : (simpleOf k q).2.2.atoms.length + cmpsN l ≤ 1000000000 := by omega
      generalize simpleOf k q = z at hk hs hkp hsz2
      obtain ⟨cd, b, q'⟩ := z
      have hkq := hkp.1
      simp only at hkq hsz2
      have hl := simple_aux c vers N l q' (by omega) f3.2.2 hkq hsz2
      have hlp := (simple_keeps N l q' (by omega) f3.2.2 hkq).1
      simp only at hs
      generalize simpleOf l q' = y at hl hs hlp
      obtain ⟨ce, b', q''⟩ := y
      obtain ⟨ko, kn, ku, kd, kp, kk⟩ := k
      obtain ⟨lo, ln, lu, ld, lp, lk⟩ := l
      refine swr_index rfl rfl rfl rfl rfl rfl rfl rfl  (row := (Ex.mk ko kn ku kd kp kk).cells) rfl ?_
      (refine sgor_sound [777] 1000 ?_; conv => whnf)
      refine swr_pre 17 rfl rfl rfl rfl rfl rfl hk ?_
      rintro r9 H9 ⟨rfl, rfl⟩ _
      rcases cond_d cd with hcd | ⟨t9, y9, hcd⟩ <;> simp only [hcd] <;> ((refine sgor_sound [777] 1000 ?_; conv => whnf))
      all_goals
        refine swr_index rfl rfl rfl rfl rfl rfl rfl rfl  (row := (Ex.mk lo ln lu ld lp lk).cells) rfl ?_
        (refine sgor_sound [777] 1000 ?_; conv => whnf)
        refine swr_pre 17 rfl rfl rfl rfl rfl rfl hl ?_
        rintro r9 H9 ⟨rfl, rfl⟩ _
      all_goals rcases cond_d ce with hce | ⟨t8, y8, hce⟩ <;> simp only [hce] <;> cases b <;> ((refine sgor_sound [777] 1000 ?_; conv => whnf)) <;> (repeat' ((with_reducible first | refine bdec (fun h => ?_) (fun h => ?_) | refine bndec (fun h => ?_) (fun h => ?_) | refine bwtd (fun h => ?_) (fun h => ?_) | refine bwfd (fun h => ?_) (fun h => ?_) | refine bwtn (fun h => ?_) (fun h => ?_) | refine bwfn (fun h => ?_) (fun h => ?_) | refine bwtb (fun h => ?_) (fun h => ?_) | refine bwfb (fun h => ?_) (fun h => ?_) | refine bwt (fun h => ?_) (fun h => ?_) | refine bwf (fun h => ?_) (fun h => ?_) | refine bnt (fun h => ?_) (fun h => ?_) | refine bcase (fun h => ?_) (fun h => ?_)) <;> (conv => whnf)))
      all_goals try (exfalso; omega)
      all_goals
        refine swr_iface (d := .agg [_, _, _]) rfl rfl rfl rfl rfl ?_
        (refine sgor_sound [777] 1000 ?_; conv => whnf)
      all_goals exact hfin _ q'' [_] rfl hlp.cands (by rw [hs]; simp only [Cond.d, hcd, hce, h7]; rfl) (by rw [hs])
    · have ho : op = 6 ∨ op = 7 := by omega
      have h7 : (if op = 7 then (1 : Int) else 0) = 1 := if_pos (by omega)
      have ho5 : ¬op = 5 := by omega
      have ho8 : ¬(op = 8 ∨ op = 9 ∨ op = 10) := by omega
      rw [if_neg ho8] at hsz
      rw [if_neg ho5, if_pos ho] at f3
      rw [if_neg (show ¬op = 1 by omega), if_neg (show ¬op = 2 by omega), if_neg ho8, if_neg ho5, if_pos ho] at hs
      match ks, f3, hN, hsz, hs, hfin with
      | [k, l], f3, hN, hsz, hs, hfin =>
      simp only [Ex.mk.sizeOf_spec, List.cons.sizeOf_spec] at hN
      simp only at hsz
      have hk := simple_aux c vers N k q (by omega) f3.2.1 hq (by omega)
      have hkp := simple_keeps N k q (by omega) f3.2.1 hq
      simp only at hs
      have hsz2 : (simpleOf k q).2.2.atoms.length + cmpsN l ≤ 1000000000 := by omega
      generalize simpleOf k q = z at hk hs hkp hsz2
      obtain ⟨cd, b, q'⟩ := z
      have hkq := hkp.1
      simp only at hkq hsz2
      have hl := simple_aux c vers N l q' (by omega) f3.2.2 hkq hsz2
      have hlp := (simple_keeps N l q' (by omega) f3.2.2 hkq).1
      simp only at hs
      generalize simpleOf l q' = y at hl hs hlp
      obtain ⟨ce, b', q''⟩ := y
      obtain ⟨ko, kn, ku, kd, kp, kk⟩ := k
      obtain ⟨lo, ln, lu, ld, lp, lk⟩ := l
      refine swr_index rfl rfl rfl rfl rfl rfl rfl rfl  (row := (Ex.mk ko kn ku kd kp kk).cells) rfl ?_
      (refine sgor_sound [777] 1000 ?_; conv => whnf)
      refine swr_pre 17 rfl rfl rfl rfl rfl rfl hk ?_
      rintro r9 H9 ⟨rfl, rfl⟩ _
      rcases cond_d cd with hcd | ⟨t9, y9, hcd⟩ <;> simp only [hcd] <;> ((refine sgor_sound [777] 1000 ?_; conv => whnf))
      all_goals
        refine swr_index rfl rfl rfl rfl rfl rfl rfl rfl  (row := (Ex.mk lo ln lu ld lp lk).cells) rfl ?_
        (refine sgor_sound [777] 1000 ?_; conv => whnf)
        refine swr_pre 17 rfl rfl rfl rfl rfl rfl hl ?_
        rintro r9 H9 ⟨rfl, rfl⟩ _
      all_goals rcases cond_d ce with hce | ⟨t8, y8, hce⟩ <;> simp only [hce] <;> cases b <;> ((refine sgor_sound [777] 1000 ?_; conv => whnf)) <;> (repeat' ((with_reducible first | refine bdec (fun h => ?_) (fun h => ?_) | refine bndec (fun h => ?_) (fun h => ?_) | refine bwtd (fun h => ?_) (fun h => ?_) | refine bwfd (fun h => ?_) (fun h => ?_) | refine bwtn (fun h => ?_) (fun h => ?_) | refine bwfn (fun h => ?_) (fun h => ?_) | refine bwtb (fun h => ?_) (fun h => ?_) | refine bwfb (fun h => ?_) (fun h => ?_) | refine bwt (fun h => ?_) (fun h => ?_) | refine bwf (fun h => ?_) (fun h => ?_) | refine bnt (fun h => ?_) (fun h => ?_) | refine bcase (fun h => ?_) (fun h => ?_)) <;> (conv => whnf)))
      all_goals try (exfalso; omega)
      all_goals
        refine swr_iface (d := .agg [_, _, _]) rfl rfl rfl rfl rfl ?_
        (refine sgor_sound [777] 1000 ?_; conv => whnf)
      all_goals exact hfin _ q'' [_] rfl hlp.cands (by rw [hs]; simp only [Cond.d, hcd, hce, h7]; rfl) (by rw [hs])
    · rw [if_neg (show ¬op = 1 by assumption), if_neg (show ¬op = 2 by assumption), if_neg (show ¬(op = 8 ∨ op = 9 ∨ op = 10) by omega), if_neg (show ¬op = 5 by assumption), if_neg (show ¬(op = 6 ∨ op = 7) by omega)] at hs
      exact hfin _ q [_] rfl hq.cands (by rw [hs]; rfl) (by rw [hs])
end Go.Proofs.YtblpjknmhajcgaaGreatDoor

/- A new search (contract). -/
namespace Go.Proofs.YtblpjknmhajcgaaGreatDoor
open Go Go.Sh
set_option maxRecDepth 10000
set_option maxHeartbeats 4000000
section
variable {P : Program} {G : List (Nat × D)} {fn : Func} {rd : Bool} {E : En P G fn rd} {t : List (Nat × SV)} {H : List SObj} {k : List Item} {all : Array Oper} {rest : List Oper} {o : Oper}
/-- the length of a map -/
theorem swr_lenMap {c : Call} {x : Operand} {ty kt et : TypeId} {b : Nat} {kk : IntKind} {es : List (Int × SV)} (hop : o.op = .call c) (hb : c.callee = .builtin .len) (ha : c.args.toList = [x]) (hty : c.argTypes.toList = [ty]) (hw : swant all t o.guard = some true) (hd : dstOK fn.ntmps o.dst = true)
    (hu : P.underlying ty = some (.map kt et)) (hx : evalS G t x = .map b) (hm : H[b]? = some (.mapI kk es))
    (h : SWr E all rest k (tput t o.dst (.imm (.val (.int .i64 es.length)))) H) : SWr E all (o :: rest) k t H := by
  refine swr_op (H' := H) (r := .imm (.val (.int .i64 es.length))) hw hd ?_ (Nat.le_refl _) h
  have hs : slen P ty H (.map b) = some es.length := by
    unfold slen
    rw [hu]
    simp only [hm]
  obtain ⟨callee, args, argTypes⟩ := c
  simp only at hb ha hty
  subst hb
  rw [hop]
  show sbuiltin P .len (args.toList.map _) argTypes.toList H = _
  rw [ha, hty]
  simp only [List.map_cons, List.map_nil, hx]
  simp only [sbuiltin, hs, Option.map_some]
  rfl
end
variable (G : List (Nat × D))

theorem scan_conds : ∀ (ks : List Ex) (q : Sr) (n : Int), (cmpScan ks q n).2.1.conds = q.conds
  | [], _, _ => rfl
  | k :: r, q, n => by
    simp only [cmpScan]
    split
    · exact scan_conds r q (n + 1)
    · split
      · exact scan_conds r (q.date k.n) n
      · split
        · exact scan_conds r q n
        · rfl
theorem cand_conds (q : Sr) (f g : Ex) : (cmpCand q f g).conds = q.conds := by
  unfold cmpCand
  split
  · rfl
  · split <;> rfl
theorem cmp_conds (q : Sr) (op : Int) (l r : Ex) : (cmpOf q op [l, r]).2.2.conds = q.conds := by
  have h1 := scan_conds [l, r] q 0
  unfold cmpOf
  generalize cmpScan [l, r] q 0 = z at h1
  obtain ⟨b, s1, n⟩ := z
  simp only at h1
  cases b with
  | false => exact h1
  | true =>
    simp only
    split
    · exact h1
    · split
      · simp [cand_conds, h1]
      · simp [cand_conds, h1]
theorem simple_conds : ∀ (N : Nat) (e : Ex) (q : Sr), SizeOf.sizeOf e < N → fits e → (simpleOf e q).2.2.conds = q.conds
  | 0, _, _, h, _ => by omega
  | N + 1, .mk op n u den ps ks, q, hN, hf => by
    unfold fits at hf
    obtain ⟨f1, f2, f3⟩ := hf
    rw [simple_mk]
    by_cases h1 : op = 1
    · rw [if_pos h1]
    rw [if_neg h1]
    by_cases h2 : op = 2
    · rw [if_pos h2]; rfl
    rw [if_neg h2]
    by_cases h3 : op = 8 ∨ op = 9 ∨ op = 10
    · rw [if_pos h3]
      obtain ⟨l, r, rfl, hl, hr⟩ := f2 h3
      exact cmp_conds q op l r
    rw [if_neg h3]
    by_cases h4 : op = 5
    · rw [if_pos h4] at f3 ⊢
      match ks, f3, hN with
      | [k], f3, hN =>
        simp only [Ex.mk.sizeOf_spec, List.cons.sizeOf_spec] at hN
        exact simple_conds N k q (by omega) f3.2
    rw [if_neg h4] at f3 ⊢
    by_cases h5 : op = 6 ∨ op = 7
    · rw [if_pos h5] at f3 ⊢
      match ks, f3, hN with
      | [k, l], f3, hN =>
        simp only [Ex.mk.sizeOf_spec, List.cons.sizeOf_spec] at hN
        exact (simple_conds N l _ (by omega) f3.2.2).trans (simple_conds N k q (by omega) f3.2.1)
    rw [if_neg h5]

theorem compact_mem {l : List Int} {v : Int} (h : v ∈ Go.Lib.compact l) : v ∈ l := by
  unfold Go.Lib.compact Go.Lib.compactUpTo at h
  obtain ⟨j, hj, rfl⟩ := List.mem_map.1 h
  have hj := List.mem_range.1 (List.mem_filter.1 hj).1
  have : l.toArray[j]! = l[j] := by simp [hj]
  rw [this]
  exact List.getElem_mem hj
/-- the product over facts in some order -/
def prodK (m : List (Int × List Int)) (ks : List Int) : Int := ks.foldl (fun p f => min (p * (((alook f m).getD []).length : Int)) 4097) 1
theorem prodK_go (m : List (Int × List Int)) : ∀ (ks : List Int) (p : Int), 0 ≤ p ∧ p ≤ 4097 → 0 ≤ ks.foldl (fun p f => min (p * (((alook f m).getD []).length : Int)) 4097) p ∧ ks.foldl (fun p f => min (p * (((alook f m).getD []).length : Int)) 4097) p ≤ 4097
  | [], _, h => h
  | f :: ks, p, h => by
    have h1 := Int.mul_nonneg h.1 (Int.natCast_nonneg ((alook f m).getD []).length)
    refine prodK_go m ks _ ?_
    dsimp only
    omega
theorem prodK_rng (m : List (Int × List Int)) (ks : List Int) : 0 ≤ prodK m ks ∧ prodK m ks ≤ 4097 := prodK_go m ks 1 (by decide)
theorem cap_key (x : Int) (b : Nat) (hx : 0 ≤ x) : min (min x 4097 * (b : Int)) 4097 = min (x * b) 4097 := by
  by_cases h : x ≤ 4097
  · rw [Int.min_eq_left h]
  · have e : min x 4097 = 4097 := Int.min_eq_right (by omega)
    rw [e]
    rcases Nat.eq_zero_or_pos b with hb | hb
    · rw [hb]; simp
    · have h1 : (4097 : Int) ≤ 4097 * b := by omega
      have h2 : (4097 : Int) * b ≤ x * b := Int.mul_le_mul_of_nonneg_right (by omega) (by omega)
      have e1 : min ((4097 : Int) * b) 4097 = 4097 := Int.min_eq_right h1
      have e2 : min (x * b) 4097 = 4097 := Int.min_eq_right (by omega)
      rw [e1, e2]
theorem cap_neg (p : Int) (hp : p < 0) (a b : Nat) : min (min (p * a) 4097 * b) 4097 = p * a * b := by
  have h1 : p * a ≤ 0 := Int.mul_nonpos_of_nonpos_of_nonneg (by omega) (by omega)
  have h2 : p * a * b ≤ 0 := Int.mul_nonpos_of_nonpos_of_nonneg h1 (by omega)
  have e1 : min (p * a) 4097 = p * a := Int.min_eq_left (by omega)
  rw [e1]
  exact Int.min_eq_left (by omega)
theorem cap_comm (p : Int) (a b : Nat) : min (min (p * a) 4097 * b) 4097 = min (min (p * b) 4097 * a) 4097 := by
  by_cases hp : 0 ≤ p
  · rw [cap_key _ b (Int.mul_nonneg hp (by omega)), cap_key _ a (Int.mul_nonneg hp (by omega)), Int.mul_assoc, Int.mul_assoc, Int.mul_comm (a : Int) b]
  · rw [cap_neg p (by omega), cap_neg p (by omega), Int.mul_assoc, Int.mul_assoc, Int.mul_comm (a : Int) b]
theorem prodK_perm {m : List (Int × List Int)} {k1 k2 : List Int} (h : k1.Perm k2) : prodK m k1 = prodK m k2 :=
  h.foldl_eq' (fun _ _ _ _ _ => cap_comm _ _ _) _
theorem prodK_all {m : List (Int × List Int)} (hn : (m.map (·.1)).Nodup) : prodK m (m.map (·.1)) = prodOf m := by
  have : ∀ (l : List (Int × List Int)) (p : Int), (∀ e ∈ l, e ∈ m) → (l.map (·.1)).foldl (fun p f => min (p * (((alook f m).getD []).length : Int)) 4097) p = l.foldl (fun p e => min (p * (e.2.length : Int)) 4097) p := by
    intro l
    induction l with
    | nil => intro p _; rfl
    | cons e l ih =>
      intro p h
      have he : alook e.1 m = some e.2 := alook_mem hn (h e (List.mem_cons_self ..))
      simp only [List.map_cons, List.foldl_cons, he, Option.getD_some]
      exact ih _ fun x hx => h x (List.mem_cons_of_mem _ hx)
  exact this m 1 fun _ h => h
theorem prodK_snoc (m : List (Int × List Int)) (dn : List Int) (f : Int) : prodK m (dn ++ [f]) = min (prodK m dn * (((alook f m).getD []).length : Int)) 4097 := by
  simp [prodK, List.foldl_append]

/-! ### how many candidates a fact may have -/
def leafN : Ex → Nat
  | .mk op _ _ _ _ ks => if op = 2 then 1 else if op = 8 ∨ op = 9 ∨ op = 10 then 1 else match ks with
    | k :: l :: _ => leafN k + leafN l
    | [k] => leafN k
    | [] => 0
def candB (q : Sr) (B : Nat) : Prop := ∀ e ∈ q.cands, e.2.length ≤ B
theorem candB.mono {q : Sr} {A B : Nat} (h : candB q A) (hl : A ≤ B) : candB q B := fun e he => Nat.le_trans (h e he) hl
theorem setAdd_len : ∀ (vs vals : List Int), (vs.foldl setAdd vals).length ≤ vals.length + vs.length
  | [], vals => Nat.le_refl _
  | v :: vs, vals => by
    have := setAdd_len vs (setAdd vals v)
    have h : (setAdd vals v).length ≤ vals.length + 1 := by
      unfold setAdd
      split
      · split
        · omega
        · simp
      · omega
    simp only [List.foldl_cons, List.length_cons]
    omega
theorem candB.cand {q : Sr} {B : Nat} (h : candB q B) (f : Int) (vs : List Int) : candB (q.cand f vs) (B + vs.length) := by
  intro e he
  rcases mem_ains he with rfl | he
  · have h1 := setAdd_len vs ((alook f q.cands).getD [])
    have h2 : ((alook f q.cands).getD []).length ≤ B := by
      cases hl : alook f q.cands with
      | none => simp
      | some w => exact h _ (alook_some hl)
    simp only
    omega
  · have := h e he
    omega
theorem candB.cmpCand {q : Sr} {B : Nat} (h : candB q B) (f g : Ex) : candB (cmpCand q f g) (B + 3) := by
  unfold Go.Proofs.YtblpjknmhajcgaaGreatDoor.cmpCand
  split
  · exact h.mono (by omega)
  · split
    · exact (h.cand _ _).mono (by simp)
    · exact (h.cand _ _).mono (by simp)
theorem scan_cands : ∀ (ks : List Ex) (q : Sr) (n : Int), (cmpScan ks q n).2.1.cands = q.cands
  | [], _, _ => rfl
  | k :: r, q, n => by
    simp only [cmpScan]
    split
    · exact scan_cands r q (n + 1)
    · split
      · exact scan_cands r (q.date k.n) n
      · split
        · exact scan_cands r q n
        · rfl
theorem candB.cmpOf {q : Sr} {B : Nat} (h : candB q B) (op : Int) (l r : Ex) : candB (cmpOf q op [l, r]).2.2 (B + 6) := by
  have h1 : candB (cmpScan [l, r] q 0).2.1 B := by unfold candB; rw [scan_cands]; exact h
  unfold Go.Proofs.YtblpjknmhajcgaaGreatDoor.cmpOf
  generalize cmpScan [l, r] q 0 = z at h1
  obtain ⟨b, s1, n⟩ := z
  simp only at h1
  cases b with
  | false => exact h1.mono (by omega)
  | true =>
    simp only
    split
    · exact h1.mono (by omega)
    · split
      · exact ((h1.cmpCand l r).cmpCand r l).mono (by omega)
      · exact ((h1.cmpCand l r).cmpCand r l).mono (by omega)
theorem simple_candB : ∀ (N : Nat) (e : Ex) (q : Sr) (B : Nat), SizeOf.sizeOf e < N → fits e → candB q B → candB (simpleOf e q).2.2 (B + 6 * leafN e)
  | 0, _, _, _, h, _, _ => by omega
  | N + 1, .mk op n u den ps ks, q, B, hN, hf, hq => by
    unfold fits at hf
    obtain ⟨f1, f2, f3⟩ := hf
    rw [simple_mk]
    unfold leafN
    by_cases h1 : op = 1
    · rw [if_pos h1]; exact hq.mono (Nat.le_add_right _ _)
    rw [if_neg h1]
    by_cases h2 : op = 2
    · rw [if_pos h2, if_pos h2]; exact (hq.cand _ _).mono (by simp)
    rw [if_neg h2, if_neg h2]
    by_cases h3 : op = 8 ∨ op = 9 ∨ op = 10
    · rw [if_pos h3, if_pos h3]
      obtain ⟨l, r, rfl, hl, hr⟩ := f2 h3
      exact (hq.cmpOf op l r).mono (by omega)
    rw [if_neg h3, if_neg h3]
    by_cases h4 : op = 5
    · rw [if_pos h4] at f3 ⊢
      match ks, f3, hN with
      | [k], f3, hN =>
        simp only [Ex.mk.sizeOf_spec, List.cons.sizeOf_spec] at hN
        exact simple_candB N k q B (by omega) f3.2 hq
    rw [if_neg h4] at f3 ⊢
    by_cases h5 : op = 6 ∨ op = 7
    · rw [if_pos h5] at f3 ⊢
      match ks, f3, hN with
      | [k, l], f3, hN =>
        simp only [Ex.mk.sizeOf_spec, List.cons.sizeOf_spec] at hN
        exact (simple_candB N l _ _ (by omega) f3.2.2 (simple_candB N k q B (by omega) f3.2.1 hq)).mono (by simp only; omega)
    rw [if_neg h5]
    exact hq.mono (Nat.le_add_right _ _)
/-- what the search needs of a codex -/
structure FitC (c : Codex) : Prop where
  fit : ∀ a ∈ c.arts, ∀ e ∈ a.when_, fits e
  len : ∀ a ∈ c.arts, a.when_.length ≤ 40
  cmps : ∀ a ∈ c.arts, ∀ e ∈ a.when_, cmpsN e ≤ 400
  lvs : ∀ a ∈ c.arts, ∀ e ∈ a.when_, leafN e ≤ 400

theorem newSearch_spec (c : Codex) (hc : FitC c) (vs : List Int) (hv : ∀ v ∈ vs, 0 ≤ v ∧ v < c.arts.length) (hvz : vs.length ≤ 100000) (hvl : (versOf vs).length ≤ 60) :
    SCall Tryz.prog G 40 [c.sv, .imm (dInts vs)] [] (fun r H' => match searchOf c vs with
      | some q => r = .tup [.ptr 2 0, sB true] ∧ H' = NS c (versOf vs) q
      | none => ∃ p, (p = .imm (.val (.pointer none)) ∨ p = .ptr 2 0) ∧ r = .tup [p, sB false]) := by
  refine scall_enter Tryz.func40 rfl (by rw [Tryz.ntmps40]; simp) ?_
  intro E hH hK
  rw [show c.sv = .agg [.imm (dDecls c.facts), .imm (dDecls c.lines), .imm (dArts c.arts)] from rfl]
  (refine sgo_sound [777] 1000 ?_; conv => whnf)
  refine swr_call rfl rfl rfl rfl rfl rfl ((cloneVec_spec G vs _ (by omega)).mono ?_)
  rintro r H' ⟨rfl, rfl⟩
  refine ⟨by rw [List.length_append]; exact Nat.le_add_right _ _, ?_⟩
  refine Eq.mpr (congrArg (fun h => SWr E _ _ _ _ h) (show _ = [cdxO c, outO [], .cells [.imm (dDecls c.facts), .imm (dDecls c.lines), .imm (dArts c.arts), .imm (.val (.slice none 0 0)), .imm (.val (.slice none 0 0)), .imm (.val (.slice none 0 0)), sB false, sB false, sB false, sB false, sB false, .map 1], .vec 1 (vs.map sI)] from rfl)) ?_
  (refine sgor_sound [777] 1000 ?_; conv => whnf)
  refine swr_call rfl rfl rfl rfl rfl rfl ((vec_sorted G 3 vs [cdxO c, outO [], .cells [.imm (dDecls c.facts), .imm (dDecls c.lines), .imm (dArts c.arts), .vec 3 vs.length, .imm (.val (.slice none 0 0)), .imm (.val (.slice none 0 0)), sB false, sB false, sB false, sB false, sB false, .map 1], .vec 1 (vs.map sI)] rfl (by omega)).mono ?_)
  rintro r H' ⟨rfl, rfl⟩
  refine ⟨Nat.le_refl _, ?_⟩
  refine Eq.mpr (congrArg (fun h => SWr E _ _ _ _ h) (show _ = [cdxO c, outO [], .cells [.imm (dDecls c.facts), .imm (dDecls c.lines), .imm (dArts c.arts), .vec 3 vs.length, .imm (.val (.slice none 0 0)), .imm (.val (.slice none 0 0)), sB false, sB false, sB false, sB false, sB false, .map 1], .vec 1 ((sortI vs).map sI)] from rfl)) ?_
  (refine sgor_sound [777] 1000 ?_; conv => whnf)
  have hsl : (sortI vs).length = vs.length := by simp
  rw [← hsl]
  refine swr_call rfl rfl rfl rfl rfl rfl ((compactVec_spec G 3 (sortI vs) [cdxO c, outO [], .cells [.imm (dDecls c.facts), .imm (dDecls c.lines), .imm (dArts c.arts), .vec 3 (sortI vs).length, .imm (.val (.slice none 0 0)), .imm (.val (.slice none 0 0)), sB false, sB false, sB false, sB false, sB false, .map 1], .vec 1 ((sortI vs).map sI)] rfl (by omega)).mono ?_)
  rintro r H' ⟨rfl, rfl⟩
  refine ⟨Nat.le_refl _, ?_⟩
  have hvv : Go.Lib.compact (sortI vs) = versOf vs := rfl
  rw [hvv]
  have hvm : ∀ v ∈ versOf vs, 0 ≤ v ∧ v < c.arts.length := fun v hm => hv v ((List.mergeSort_perm vs fun x y => decide (x ≤ y)).mem_iff.1 (compact_mem hm))
  generalize hver : versOf vs = ver at hK hvl hvm ⊢
  refine Eq.mpr (congrArg (fun h => SWr E _ _ _ _ h) (show _ = [cdxO c, outO [], .cells [.imm (dDecls c.facts), .imm (dDecls c.lines), .imm (dArts c.arts), .vec 3 (sortI vs).length, .imm (.val (.slice none 0 0)), .imm (.val (.slice none 0 0)), sB false, sB false, sB false, sB false, sB false, .map 1], .dead] from rfl)) ?_
  (refine sgor_sound [777] 1000 ?_; conv => whnf)
  refine sw_keep [2, 4, 5, 6, 41, 42, 43] ?_
  change SW E _ [(2, .ptr 0 0), (4, .imm (.val (.pointer none))), (5, sB false), (6, .ptr 2 0), (41, .imm (dInts ver)), (42, sI (ver.map fun n => [dI n]).length), (43, sI 0)] _
  refine sw_kc [2, 4, 5, 6, 41, 42, 43] 3 (by rw [hH]; exact Nat.zero_le 3) (by exact (by decide : 3 ≤ 4)) rfl rfl ?_
  refine sw_reserve 12 ?_
  refine sw_tokCell 2 4 1 (cs := [.imm (dDecls c.facts), .imm (dDecls c.lines), .imm (dArts c.arts), .imm (dInts ver), .imm (.val (.slice none 0 0)), .imm (.val (.slice none 0 0)), sB false, sB false, sB false, sB false, sB false, .map 1]) rfl rfl ?_
  refine sw_tokCell 2 5 5 (cs := [.imm (dDecls c.facts), .imm (dDecls c.lines), .imm (dArts c.arts), .imm (dInts ver), .asl 15 1 [], .imm (.val (.slice none 0 0)), sB false, sB false, sB false, sB false, sB false, .map 1]) rfl rfl ?_
  refine Eq.mpr (congrArg (fun h => SW E _ _ h) (show _ = NS c ver sr0 from rfl)) ?_
  change SW E _ [(2, .ptr 0 0), (4, .imm (.val (.pointer none))), (5, sB false), (6, .ptr 2 0), (41, .imm (dInts ver)), (42, sI (ver.map fun n => [dI n]).length), (43, sI 0)] _
  have hml : (ver.map fun n => [dI n]).length = ver.length := by simp
  refine sw_each ver (fun i (_ : Sr) => [(2, .ptr 0 0), (4, .imm (.val (.pointer none))), (5, sB false), (6, .ptr 2 0), (41, .imm (dInts ver)), (42, sI (ver.map fun n => [dI n]).length), (43, sI i)])
    (fun _ q => NS c ver q) (fun done rest q => SrK q ∧ artsGo c ver sr0 = artsGo c rest q ∧ q.conds.length ≤ done.length * 40 ∧ q.atoms.length ≤ done.length * 16000 ∧ candB q (done.length * 96000)) sr0 ⟨⟨⟨by simp [sr0], by simp [sr0]⟩, rfl⟩, rfl, by simp [sr0], by simp [sr0], by intro e he; cases he⟩ ?_ ?_
  · rintro q ⟨k1, k2, k3, k4, k5⟩
    simp only [artsGo] at k2
    refine sw_pin (b := 1) (es := encM (fun n : Nat => SV.map n) (q.cands.map fun e => (e.1, 3 + e.1.toNat))) rfl ?_
    intro es' clock hes hst2
    (refine sgo_sound [777] 1000 ?_; conv => whnf)
    repeat' ((with_reducible first | refine bdec (fun h => ?_) (fun h => ?_) | refine bndec (fun h => ?_) (fun h => ?_) | refine bwtd (fun h => ?_) (fun h => ?_) | refine bwfd (fun h => ?_) (fun h => ?_) | refine bwtn (fun h => ?_) (fun h => ?_) | refine bwfn (fun h => ?_) (fun h => ?_) | refine bwtb (fun h => ?_) (fun h => ?_) | refine bwfb (fun h => ?_) (fun h => ?_) | refine bwt (fun h => ?_) (fun h => ?_) | refine bwf (fun h => ?_) (fun h => ?_) | refine bnt (fun h => ?_) (fun h => ?_) | refine bcase (fun h => ?_) (fun h => ?_)) <;> (conv => whnf))
    all_goals try (exfalso; omega)
    refine swr_range rfl rfl rfl rfl rfl rfl ?_
    (refine sgor_sound [777] 1000 ?_; conv => whnf)
    refine sw_keep [4, 5, 6, 13, 82] ?_
    refine Eq.mpr (congrArg (fun h => SW E _ _ h) (show _ = (NS c ver q).set 1 (.pin .i64 es' clock) ++ [.iter 1 clock [] clock] from rfl)) ?_
    have aL : ((NS c ver q).set 1 (.pin .i64 es' clock)).length = 17 := by rw [List.length_set]; rfl
    have a1 : ((NS c ver q).set 1 (.pin .i64 es' clock))[1]? = some (.pin .i64 es' clock) := rfl
    have a2 : ((NS c ver q).set 1 (.pin .i64 es' clock))[2]? = some (.cells (srCells c ver q)) := rfl
    have aF : ∀ f : Int, 0 ≤ f ∧ f < 12 → ((NS c ver q).set 1 (.pin .i64 es' clock))[3 + f.toNat]? = some (match alook f q.cands with | some vals => innO vals | none => .free) := fun f hf => by
      rw [List.getElem?_set_ne (by omega)]; exact NS_get hf
    have aU : ((NS c ver q).set 1 (.pin .i64 es' clock)).all (SObj.under 17) = true := all_set (NS_under k1.cands.rng) (pin_under (outO_under k1.cands.rng) hes)
    have hk1 : es'.map (·.2.1) = q.cands.map (·.1) := by
      have : es'.map (·.2.1) = (es'.map (·.2)).map (·.1) := by rw [List.map_map]; rfl
      rw [this, hes]
      simp [encM]
    have hk2 : ∀ x ∈ es', ∃ vals, (x.2.1, vals) ∈ q.cands ∧ x.2.2 = .map (3 + x.2.1.toNat) := fun x hx => by
      have h1 : x.2 ∈ es'.map (·.2) := List.mem_map.2 ⟨x, hx, rfl⟩
      rw [hes] at h1
      simp only [encM, List.map_map, List.mem_map] at h1
      obtain ⟨e, he, h2⟩ := h1
      refine ⟨e.2, ?_, ?_⟩
      · rw [← h2]; exact he
      · rw [← h2]; rfl
    change SW E _ [(4, .imm (.val (.pointer none))), (5, sB false), (6, .ptr 2 0), (13, sI (prodK q.cands [])), (82, .ptr 17 0)] _
    generalize hAA : (NS c ver q).set 1 (.pin .i64 es' clock) = A at aL a1 a2 aF aU ⊢
    refine sw_loop_ind (σ := List Nat × List Int) (fun x => [(4, .imm (.val (.pointer none))), (5, sB false), (6, .ptr 2 0), (13, sI (prodK q.cands x.2)), (82, .ptr 17 0)]) (fun x => A ++ [.iter 1 clock x.1 clock])
      (fun x => (x.2 ++ (leftE es' x.1).map (·.2.1)).Perm (es'.map (·.2.1))) (fun x => (leftE es' x.1).length) ?_ ([], []) (by simp [leftE_nil])
    rintro ⟨seen, dn⟩ hp2 ih2
    simp only at hp2 ih2
    show SW E _ _ (A ++ [.iter 1 clock seen clock])
    (refine sgo_sound [777] 1000 ?_; conv => whnf)
    refine swr_next rfl rfl rfl rfl (by rw [List.getElem?_append_right (by omega), aL]; rfl) (by rw [List.getElem?_append_left (by omega)]; exact a1) hst2 (Nat.le_refl _) (fun h0 => ?_) (fun e he => ?_)
    · have hdn : dn.Perm (q.cands.map (·.1)) := by
        rw [h0, hk1] at hp2
        simpa using hp2
      have hpk : prodK q.cands dn = prodOf q.cands := (prodK_perm hdn).trans (prodK_all k1.cands.nd)
      rw [hpk]
      refine swr_lift (fun k h => sw_unpin (b := 1) (kk := .i64) (es := es') (clock := clock) (by rw [List.getElem?_append_left (by omega)]; exact a1) h) ?_
      have hun : (A ++ [SObj.iter 1 clock seen clock]).set 1 (.mapI .i64 (es'.map (·.2))) = NS c ver q ++ [SObj.iter 1 clock seen clock] := by
        rw [List.set_append_left _ _ (by omega), ← hAA, List.set_set, hes]
        rfl
      rw [hun]
      refine swr_lift (t' := [(83, .tup [.imm (.val (.bool false))]), (6, .ptr 2 0), (13, sI (prodOf q.cands))]) (H' := NS c ver q) (fun k h => sw_keep [83, 6, 13] (sw_cut 17 (by rw [hH]; exact Nat.zero_le 17) (by rw [List.length_append]; show 17 ≤ 17 + 1; decide) rfl (NS_under k1.cands.rng) h)) ?_
      (refine sgor_sound [777] 1000 ?_; conv => whnf)
      refine hK _ _ ?_
      have hsr : searchOf c vs = if prodOf q.cands ≤ 4096 then some q else none := by rw [searchOf, hver, k2]
      rw [hsr]
      by_cases hp : prodOf q.cands ≤ 4096
      · rw [if_pos hp]
        refine ⟨?_, rfl⟩
        show SV.tup [.ptr 2 0, sB (decide (prodOf q.cands ≤ 4096))] = _
        rw [decide_eq_true hp]
      · rw [if_neg hp]
        refine ⟨.ptr 2 0, .inr rfl, ?_⟩
        show SV.tup [.ptr 2 0, sB (decide (prodOf q.cands ≤ 4096))] = _
        rw [decide_eq_false hp]
    · rw [List.set_append_right _ _ (by omega), aL]
      obtain ⟨e1, f, e3⟩ := e
      have hperm := leftE_perm hst2.1 he
      have hpl := hperm.length_eq
      have hpm := hperm.map (·.2.1)
      simp only [List.map_cons, List.length_cons] at hpm hpl
      obtain ⟨vals, hv1, hv2⟩ := hk2 _ (mem_leftE he)
      simp only at hv1 hv2
      have hfr := k1.cands.rng _ hv1
      simp only at hfr
      have hlk := alook_mem k1.cands.nd hv1
      have hvl2 := k5 _ hv1
      simp only at hvl2
      subst hv2
      (refine sgor_sound [777, 85] 1000 ?_; conv => whnf)
      refine swr_entry rfl rfl rfl rfl (by rw [List.getElem?_append_right (by omega), aL]; rfl) (by rw [List.getElem?_append_left (by omega)]; exact a1) (mem_leftE he) ?_
      (refine sgor_sound [777, 89] 1000 ?_; conv => whnf)
      refine swr_lenMap (b := 3 + f.toNat) (kk := .i64) (es := encM sB (vals.map fun v => (v, true))) rfl rfl rfl rfl rfl rfl rfl rfl (by rw [List.getElem?_append_left (by omega), aF f hfr, hlk]; rfl) ?_
      rw [show (encM sB (vals.map fun v => (v, true))).length = vals.length by simp [encM]]
      (refine sgor_sound [777] 1000 ?_; conv => whnf)
      have hpr := prodK_rng q.cands dn
      have hpr2 : 0 ≤ prodK q.cands dn * (vals.length : Int) := Int.mul_nonneg hpr.1 (by omega)
      have hpr3 : prodK q.cands dn * (vals.length : Int) ≤ 4097 * (vals.length : Int) := Int.mul_le_mul_of_nonneg_right hpr.2 (by omega)
      have hsn := prodK_snoc q.cands dn f
      rw [hlk, Option.getD_some] at hsn
      have hmin : (if 4097 < IntKind.i64.wrap (prodK q.cands dn * (vals.length : Int)) then (4097 : Int) else IntKind.i64.wrap (prodK q.cands dn * (vals.length : Int))) = prodK q.cands (dn ++ [f]) := by
        rw [wrap64 (c := prodK q.cands dn * (vals.length : Int)) (by omega) (by omega), hsn]
        split <;> omega
      refine sw_keep [4, 5, 6, 13, 82] ?_
      change SW E _ [(4, .imm (.val (.pointer none))), (5, sB false), (6, .ptr 2 0), (13, sI (if 4097 < IntKind.i64.wrap (prodK q.cands dn * (vals.length : Int)) then (4097 : Int) else IntKind.i64.wrap (prodK q.cands dn * (vals.length : Int)))), (82, .ptr 17 0)] _
      rw [hmin]
      refine sw_kc [4, 5, 6, 13, 82] 18 (by rw [hH]; exact Nat.zero_le 18) (by simp [aL]) rfl ?_ ?_
      · rw [List.take_of_length_le (by simp [aL]), List.all_append, allObj_mono (m := 17) (by omega) aU]
        rfl
      · rw [List.take_of_length_le (by simp [aL])]
        exact ih2 (seen ++ [e1], dn ++ [f]) (by
          refine List.Perm.trans ?_ hp2
          simp only [List.append_assoc, List.cons_append, List.nil_append]
          exact (List.Perm.refl dn).append hpm.symm) (by simp only; omega)
  · rintro done v rest q ha hlen ⟨k1, k2, k3, k4, k5⟩ ih
    have hw := wrap_succ (n := done.length) (by omega)
    have hrow : (ver.map fun n => [dI n])[((done.length : Nat) : Int).toNat]? = some [dI v] := by simp [ha]
    obtain ⟨hv0, hv1⟩ := hvm v (by rw [ha]; simp)
    (refine sgo_sound [777] 1000 ?_; conv => whnf)
    repeat' ((with_reducible first | refine bdec (fun h => ?_) (fun h => ?_) | refine bndec (fun h => ?_) (fun h => ?_) | refine bwtd (fun h => ?_) (fun h => ?_) | refine bwfd (fun h => ?_) (fun h => ?_) | refine bwtn (fun h => ?_) (fun h => ?_) | refine bwfn (fun h => ?_) (fun h => ?_) | refine bwtb (fun h => ?_) (fun h => ?_) | refine bwfb (fun h => ?_) (fun h => ?_) | refine bwt (fun h => ?_) (fun h => ?_) | refine bwf (fun h => ?_) (fun h => ?_) | refine bnt (fun h => ?_) (fun h => ?_) | refine bcase (fun h => ?_) (fun h => ?_)) <;> (conv => whnf))
    all_goals try (exfalso; omega)
    refine swr_index rfl rfl rfl rfl rfl rfl rfl rfl  hrow ?_
    (refine sgor_sound [777] 1000 ?_; conv => whnf)
    obtain ⟨a, haa⟩ : ∃ a, c.arts[v.toNat]? = some a := ⟨_, List.getElem?_eq_getElem (by omega)⟩
    have hmem := List.mem_of_getElem? haa
    have hat : artAt c v = some a := by unfold artAt; rw [if_neg (by omega)]; exact haa
    obtain ⟨op, n, u, den, ps, ks, hamt⟩ : ∃ op n u den ps ks, a.amount = .mk op n u den ps ks := by cases h : a.amount; exact ⟨_, _, _, _, _, _, rfl⟩
    have hrw : (c.arts.map Article.cells)[v.toNat]? = some [dI a.number, dI a.line, dI a.rank, dI a.lo, dI a.hi, dI a.known, dExprs a.when_, dInts a.unless_, dI op, dI n, dS u, dI den, .isl 3 (ps.map Piece.cells), .isl 6 (exprRows ks)] := by
      rw [List.getElem?_map, haa]
      simp [Article.cells, hamt, exprRows_eq, Ex.op, Ex.n, Ex.unit, Ex.den, Ex.pieces, Ex.kids]
    refine swr_index rfl rfl rfl rfl rfl rfl rfl  (Int.toNat_of_nonneg hv0).symm (row := [dI a.number, dI a.line, dI a.rank, dI a.lo, dI a.hi, dI a.known, dExprs a.when_, dInts a.unless_, dI op, dI n, dS u, dI den, .isl 3 (ps.map Piece.cells), .isl 6 (exprRows ks)]) hrw ?_
    (refine sgor_sound [777] 1000 ?_; conv => whnf)
    have hwl : (a.when_.map Ex.cells).length = a.when_.length := by simp
    have hl1 := hc.len a hmem
    refine sw_keep [2, 4, 5, 6, 41, 42, 43, 52, 53, 54] ?_
    refine sw_each a.when_ (fun i (_ : Sr) => [(2, .ptr 0 0), (4, .imm (.val (.pointer none))), (5, sB false), (6, .ptr 2 0), (41, .imm (dInts ver)), (42, sI (ver.map fun n => [dI n]).length), (43, sI done.length), (52, .imm (dExprs a.when_)), (53, sI (a.when_.map Ex.cells).length), (54, sI i)])
      (fun _ q' => NS c ver q') (fun dn rs q' => SrK q' ∧ whenGo a.when_ q = whenGo rs q' ∧ q'.conds.length ≤ q.conds.length + dn.length ∧ q'.atoms.length ≤ q.atoms.length + dn.length * 400 ∧ candB q' (done.length * 96000 + dn.length * 2400)) q ⟨k1, rfl, by simp, by simp, by simpa using k5⟩ ?_ ?_
    · rintro q' ⟨m1, m2, m3, m4, m5⟩
      simp only [whenGo] at m2
      (refine sgo_sound [777] 1000 ?_; conv => whnf)
      repeat' ((with_reducible first | refine bdec (fun h => ?_) (fun h => ?_) | refine bndec (fun h => ?_) (fun h => ?_) | refine bwtd (fun h => ?_) (fun h => ?_) | refine bwfd (fun h => ?_) (fun h => ?_) | refine bwtn (fun h => ?_) (fun h => ?_) | refine bwfn (fun h => ?_) (fun h => ?_) | refine bwtb (fun h => ?_) (fun h => ?_) | refine bwfb (fun h => ?_) (fun h => ?_) | refine bwt (fun h => ?_) (fun h => ?_) | refine bwf (fun h => ?_) (fun h => ?_) | refine bnt (fun h => ?_) (fun h => ?_) | refine bcase (fun h => ?_) (fun h => ?_)) <;> (conv => whnf))
      all_goals try (exfalso; omega)
      rw [hw]
      refine sw_keep [2, 4, 5, 6, 41, 42, 43] ?_
      refine ih q' ⟨m1, ?_, ?_, ?_, ?_⟩
      · rw [k2, artsGo, hat]
        simp only [m2]
      · simp only [List.length_append, List.length_cons, List.length_nil]; omega
      · simp only [List.length_append, List.length_cons, List.length_nil]; omega
      · exact m5.mono (by simp only [List.length_append, List.length_cons, List.length_nil]; omega)
    · rintro dn x rs q' hda hdl ⟨m1, m2, m3, m4, m5⟩ ih2
      have hw2 := wrap_succ (n := dn.length) (by omega)
      have hrow2 : (a.when_.map Ex.cells)[((dn.length : Nat) : Int).toNat]? = some x.cells := by simp [hda]
      have hfx := hc.fit a hmem x (by rw [hda]; simp)
      have hcx := hc.cmps a hmem x (by rw [hda]; simp)
      have hsx : q'.atoms.length + cmpsN x ≤ 1000000000 := by omega
      have hsim := simple_aux G c ver _ x q' (Nat.lt_succ_self _) hfx m1 hsx
      have hkp := simple_keeps _ x q' (Nat.lt_succ_self _) hfx m1
      have hcb := simple_candB _ x q' _ (Nat.lt_succ_self _) hfx m5
      have hlx := hc.lvs a hmem x (by rw [hda]; simp)
      rw [whenGo] at m2
      have hcds := congrArg List.length (simple_conds _ x q' (Nat.lt_succ_self _) hfx)
      generalize simpleOf x q' = z at hsim hkp m2 hcds hcb
      obtain ⟨cd, b, q2⟩ := z
      obtain ⟨xo, xn, xu, xd, xp, xk⟩ := x
      (refine sgo_sound [777] 1000 ?_; conv => whnf)
      repeat' ((with_reducible first | refine bdec (fun h => ?_) (fun h => ?_) | refine bndec (fun h => ?_) (fun h => ?_) | refine bwtd (fun h => ?_) (fun h => ?_) | refine bwfd (fun h => ?_) (fun h => ?_) | refine bwtn (fun h => ?_) (fun h => ?_) | refine bwfn (fun h => ?_) (fun h => ?_) | refine bwtb (fun h => ?_) (fun h => ?_) | refine bwfb (fun h => ?_) (fun h => ?_) | refine bwt (fun h => ?_) (fun h => ?_) | refine bwf (fun h => ?_) (fun h => ?_) | refine bnt (fun h => ?_) (fun h => ?_) | refine bcase (fun h => ?_) (fun h => ?_)) <;> (conv => whnf))
      all_goals try (exfalso; omega)
      refine swr_index rfl rfl rfl rfl rfl rfl rfl rfl  (row := (Ex.mk xo xn xu xd xp xk).cells) hrow2 ?_
      (refine sgor_sound [777] 1000 ?_; conv => whnf)
      refine swr_pre 17 rfl rfl rfl rfl rfl rfl hsim ?_
      rintro r9 H9 ⟨rfl, rfl⟩ _
      rcases cond_d cd with hcd | ⟨t9, y9, hcd⟩ <;> simp only [hcd] <;> cases b <;> ((refine sgor_sound [777] 1000 ?_; conv => whnf))
      all_goals try (
        refine hK _ _ ?_
        have e1 : whenGo a.when_ q = none := m2
        have e2 : artsGo c ver sr0 = none := by rw [k2, artsGo, hat]; simp only [e1]
        have e3 : searchOf c vs = none := by rw [searchOf, hver, e2]
        rw [e3]
        exact ⟨_, .inl rfl, rfl⟩)
      all_goals
        simp only at m2 hkp hcds hcb
        refine swr_append (b := 15) (kk := 1) (rows := q2.conds.map fun c => [c.d]) (new := [[_]]) rfl rfl rfl rfl rfl rfl rfl rfl rfl rfl ⟨by decide, rfl⟩ (by show some (SObj.tok 1 q2.conds.length) = _; rw [List.length_map]) (by rw [List.length_map]; simp only [List.length_cons, List.length_nil]; omega) ?_
        have e5 : (q2.conds.map fun c => [c.d]) ++ [[cd.d]] = (q2.conds ++ [cd]).map fun c => [c.d] := by simp
        have e6 : (q2.conds.map fun c => [c.d]).length + [[cd.d]].length = (q2.conds ++ [cd]).length := by simp
        rw [hcd] at e5 e6
        refine Eq.mpr (congrArg (fun v => SWr E _ _ _ (tput _ _ (.asl 15 1 v)) _) e5) ?_
        refine Eq.mpr (congrArg (fun v => SWr E _ _ _ _ (List.set _ 15 (.tok 1 v))) e6) ?_
        (refine sgor_sound [777] 1000 ?_; conv => whnf)
        rw [hw2]
        refine sw_kc [2, 4, 5, 6, 41, 42, 43, 52, 53, 54] 17 (by rw [hH]; exact Nat.zero_le 17) (by exact (by decide : 17 ≤ 18)) rfl (NS_under (q := { q2 with conds := q2.conds ++ [cd] }) hkp.1.cands.rng) ?_
        refine ih2 { q2 with conds := q2.conds ++ [cd] } ⟨⟨hkp.1.cands, hkp.1.dates⟩, m2, ?_, ?_, ?_⟩
        · simp only [List.length_append, List.length_cons, List.length_nil]; omega
        · simp only [List.length_append, List.length_cons, List.length_nil]; omega
        · exact candB.mono (q := { q2 with conds := q2.conds ++ [cd] }) hcb (by simp only [List.length_append, List.length_cons, List.length_nil]; omega)
end Go.Proofs.YtblpjknmhajcgaaGreatDoor

/- Witness (contract). -/
namespace Go.Proofs.YtblpjknmhajcgaaGreatDoor
open Go Go.Sh
set_option maxRecDepth 10000
set_option maxHeartbeats 4000000

def YS (c : Codex) (vers : List Int) (q : Sr) (i : Nat) : SObj := (NS c vers q).getD i .dead
theorem NSH_YS (c : Codex) (vers : List Int) (q : Sr) : NSH (YS c vers q) (srCells c vers q) = NS c vers q := rfl
/-- what the search needs of a valid codex -/
structure SearchC (c : Codex) : Prop where
  need : NeedC c
  fit : FitC c
  vers : ∀ vs : List Int, (∀ v ∈ vs, 0 ≤ v ∧ v < c.arts.length) → vs.length ≤ 100000 → (versOf vs).length ≤ 60
  wit : ∀ (vs : List Int) (q : Sr), (∀ v ∈ vs, 0 ≤ v ∧ v < c.arts.length) → vs.length ≤ 100000 → searchOf c vs = some q → WitOK (YS c (versOf vs) q) c (versOf vs) q
def viewR0 (o : Option View) : SV :=
  match o with
  | some v => .tup [.agg [sI v.day, .imm (dBools v.has), .imm (dInts v.value), .imm (dInts v.arts)], sB true]
  | none => .tup [.agg zviewS, sB false]
def viewR (o : Option View) : SV := .tup [View.sv (o.getD zView), sB o.isSome]
theorem viewR0_is (o : Option View) : (viewR0 o).Is (viewR o) := by
  cases o with
  | some v => exact SV.Is.refl _
  | none => exact SIs.tup (.cons (SIs.agg (.cons (SV.Is.refl _) (.cons (SV.Is.nil 1) (.cons (SV.Is.nil 1) (.cons (SV.Is.nil 1) .nil))))) (.cons (SV.Is.refl _) .nil))
theorem witSV_eq (c : Codex) (vers : List Int) (q : Sr) : witSV c vers q = viewR0 (witnessOf c vers q) := by unfold witSV viewR0; cases witnessOf c vers q <;> rfl
theorem viewR0_sh (o : Option View) (n : Nat) : (viewR0 o).sh n = viewR0 o := by cases o <;> rfl
/-- newSearch behind other objects -/
theorem newSearch_at (c : Codex) (hS : SearchC c) (vs : List Int) (hv : ∀ v ∈ vs, 0 ≤ v ∧ v < c.arts.length) (hvz : vs.length ≤ 100000) (X : List SObj) :
    SCall Tryz.prog G0 40 [c.sv, .imm (dInts vs)] X (fun r H' => match searchOf c vs with
      | some q => r = .tup [.ptr (2 + X.length) 0, sB true] ∧ H' = X ++ (NS c (versOf vs) q).map (SObj.sh X.length)
      | none => ∃ p H1, (p = .imm (.val (.pointer none)) ∨ p = .ptr (2 + X.length) 0) ∧ r = .tup [p, sB false] ∧ H' = X ++ H1) := by
  have h := scall_shift (newSearch_spec G0 c hS.fit vs hv hvz (hS.vers vs hv hvz)) X
  rw [List.map_nil, List.append_nil] at h
  refine SCall.mono h ?_
  rintro r H' ⟨r1, H1, h1, rfl, rfl⟩
  cases hq : searchOf c vs with
  | some q =>
    rw [hq] at h1
    obtain ⟨rfl, rfl⟩ := h1
    exact ⟨rfl, rfl⟩
  | none =>
    rw [hq] at h1
    obtain ⟨p, rfl | rfl, rfl⟩ := h1
    · exact ⟨_, _, .inl rfl, rfl, rfl⟩
    · exact ⟨_, _, .inr rfl, rfl, rfl⟩
theorem scall_len {P : Program} {G : List (Nat × D)} {f : FuncId} {args : List SV} {H : List SObj} {K : SV → List SObj → Prop} (h : SCall P G f args H K) : SCall P G f args H (fun r H' => K r H' ∧ H.length ≤ H'.length) := fun w I β vs hH hv =>
  (h w I β vs hH hv).mono fun e w' ⟨v, r, I', β', H', h1, h2, h3, h4, h5⟩ => ⟨v, r, I', β', H', h1, ⟨h2, by
    rcases Nat.eq_zero_or_pos H.length with h0 | h0
    · omega
    · have hb : H.length - 1 < β.length := by rw [hH.len]; omega
      obtain ⟨y, hy, _⟩ := h5.keep (H.length - 1) _ (by omega) (List.getElem?_eq_getElem hb)
      have := lt_of_getElem? hy
      rw [h4.len] at this
      omega⟩, h3, h4, h5⟩
theorem witness_at (c : Codex) (hS : SearchC c) (vs : List Int) (hv : ∀ v ∈ vs, 0 ≤ v ∧ v < c.arts.length) (hvz : vs.length ≤ 100000) (q : Sr) (hq : searchOf c vs = some q) (X : List SObj) :
    SCall Tryz.prog G0 41 [.ptr (2 + X.length) 0] (X ++ (NS c (versOf vs) q).map (SObj.sh X.length)) (fun r H' => r = viewR0 (witnessOf c (versOf vs) q) ∧ (∃ H1, H' = X ++ H1) ∧ (X ++ (NS c (versOf vs) q).map (SObj.sh X.length)).length ≤ H'.length) := by
  have h := scall_shift (witness_spec (hS.wit vs q hv hvz hq)) X
  rw [NSH_YS] at h
  refine SCall.mono (scall_len h) ?_
  rintro r H' ⟨⟨r1, H1, rfl, rfl, rfl⟩, hl⟩
  rw [witSV_eq, viewR0_sh]
  exact ⟨rfl, ⟨_, rfl⟩, hl⟩

theorem witnessP0 (c : Codex) (hfit : Codex.fit c) (hS : codexOK c = true → SearchC c) (hz : c.arts.length ≤ 1000000) (vs : List Int) (hvz : vs.length ≤ 100000) :
    SPure Tryz.prog G0 11 [c.sv, .imm (dInts vs)] (viewR0 (witness c vs)) := by
  have hal : (c.arts.map Article.cells).length = c.arts.length := by simp
  have hvl : (vs.map fun n => [dI n]).length = vs.length := by simp
  have hV := codexValid_spec G0 c hfit
  refine spure_enter Tryz.func11 rfl (by rw [Tryz.ntmps11]; simp) rfl (by cases witness c vs <;> rfl) ?_
  intro E hH hK
  have hun : ∀ b, codexOK c = b → witness c vs = if b && vs.all (fun v => decide (0 ≤ v) && decide (v < c.arts.length)) then (match searchOf c vs with | some s => witnessOf c (versOf vs) s | none => none) else none := fun b hb => by rw [← hb]; rfl
  generalize hz2 : codexOK c = z at hV hS hun
  have hun := hun z rfl
  rw [show c.sv = .agg [.imm (dDecls c.facts), .imm (dDecls c.lines), .imm (dArts c.arts)] from rfl]
  (refine sgo_sound [777] 1000 ?_; conv => whnf)
  refine swr_pure rfl rfl rfl rfl rfl rfl  hV ?_
  cases z <;> ((refine sgor_sound [777] 1000 ?_; conv => whnf))
  · rw [hun] at hK
    exact hK _
  refine sw_keep [1, 2, 4, 14, 15, 16] ?_
  change SW E _ [(1, .imm (dInts vs)), (2, .ptr 0 0), (4, .ptr 1 0), (14, .imm (dInts vs)), (15, sI (vs.map fun n => [dI n]).length), (16, sI 0)] [.cells [.imm (dDecls c.facts), .imm (dDecls c.lines), .imm (dArts c.arts)], .cells zviewS]
  refine sw_each vs (fun i (_ : Unit) => [(1, .imm (dInts vs)), (2, .ptr 0 0), (4, .ptr 1 0), (14, .imm (dInts vs)), (15, sI (vs.map fun n => [dI n]).length), (16, sI i)]) (fun _ _ => [.cells [.imm (dDecls c.facts), .imm (dDecls c.lines), .imm (dArts c.arts)], .cells zviewS])
    (fun done _ _ => ∀ v ∈ done, 0 ≤ v ∧ v < c.arts.length) () (by simp) ?_ ?_
  · rintro _ hv
    have hall : vs.all (fun v => decide (0 ≤ v) && decide (v < c.arts.length)) = true := List.all_eq_true.2 fun v h => by
      have := hv v h
      simp only [Bool.and_eq_true, decide_eq_true_eq]
      exact this
    rw [hall, Bool.true_and, if_pos rfl] at hun
    have hN := newSearch_at c (hS rfl) vs hv hvz [.cells [.imm (dDecls c.facts), .imm (dDecls c.lines), .imm (dArts c.arts)], .cells zviewS]
    (refine sgo_sound [777] 1000 ?_; conv => whnf)
    repeat' ((with_reducible first | refine bdec (fun h => ?_) (fun h => ?_) | refine bndec (fun h => ?_) (fun h => ?_) | refine bwtd (fun h => ?_) (fun h => ?_) | refine bwfd (fun h => ?_) (fun h => ?_) | refine bwtn (fun h => ?_) (fun h => ?_) | refine bwfn (fun h => ?_) (fun h => ?_) | refine bwtb (fun h => ?_) (fun h => ?_) | refine bwfb (fun h => ?_) (fun h => ?_) | refine bwt (fun h => ?_) (fun h => ?_) | refine bwf (fun h => ?_) (fun h => ?_) | refine bnt (fun h => ?_) (fun h => ?_) | refine bcase (fun h => ?_) (fun h => ?_)) <;> (conv => whnf))
    all_goals try (exfalso; omega)
    refine swr_call rfl rfl rfl rfl rfl rfl (hN.mono ?_)
    intro r H' hK1
    cases hq : searchOf c vs with
    | none =>
      rw [hq] at hK1 hun
      obtain ⟨p, H1, hp, rfl, rfl⟩ := hK1
      refine ⟨Nat.le_add_left 2 _, ?_⟩
      rw [hun] at hK
      refine Eq.mpr (congrArg (fun h => SWr E _ _ _ _ h) (show _ = .cells [.imm (dDecls c.facts), .imm (dDecls c.lines), .imm (dArts c.arts)] :: .cells zviewS :: H1 from rfl)) ?_
      rcases hp with rfl | rfl <;> ((refine sgor_sound [777] 1000 ?_; conv => whnf)) <;> exact hK _
    | some q =>
      have hWt := witness_at c (hS rfl) vs hv hvz q hq [.cells [.imm (dDecls c.facts), .imm (dDecls c.lines), .imm (dArts c.arts)], .cells zviewS]
      rw [hq] at hK1 hun
      simp only at hun
      obtain ⟨rfl, rfl⟩ := hK1
      refine ⟨by rw [List.length_append]; exact Nat.le_add_right _ _, ?_⟩
      (refine sgor_sound [777] 1000 ?_; conv => whnf)
      refine swr_call rfl rfl rfl rfl rfl rfl (hWt.mono ?_)
      rintro r H' ⟨rfl, ⟨H1, rfl⟩, hl⟩
      refine ⟨hl, ?_⟩
      rw [hun] at hK
      generalize witnessOf c (versOf vs) q = o at hK ⊢
      refine Eq.mpr (congrArg (fun h => SWr E _ _ _ _ h) (show _ = .cells [.imm (dDecls c.facts), .imm (dDecls c.lines), .imm (dArts c.arts)] :: .cells zviewS :: H1 from rfl)) ?_
      cases o <;> ((refine sgor_sound [777] 1000 ?_; conv => whnf)) <;> exact hK _
  · rintro done x rest _ hda hdl h1 ih
    have hw := wrap_succ (n := done.length) (by omega)
    have hrx : (vs.map fun n => [dI n])[((done.length : Nat) : Int).toNat]? = some [dI x] := by simp [hda]
    have hxm : x ∈ vs := by rw [hda]; simp
    have hbad : ¬ (0 ≤ x ∧ x < c.arts.length) → witness c vs = none := fun h => by
      rw [hun, if_neg]
      intro h2
      rw [Bool.true_and] at h2
      have := List.all_eq_true.1 h2 x hxm
      simp only [Bool.and_eq_true, decide_eq_true_eq] at this
      exact h this
    (refine sgo_sound [777] 1000 ?_; conv => whnf)
    repeat' ((with_reducible first | refine bdec (fun h => ?_) (fun h => ?_) | refine bndec (fun h => ?_) (fun h => ?_) | refine bwtd (fun h => ?_) (fun h => ?_) | refine bwfd (fun h => ?_) (fun h => ?_) | refine bwtn (fun h => ?_) (fun h => ?_) | refine bwfn (fun h => ?_) (fun h => ?_) | refine bwtb (fun h => ?_) (fun h => ?_) | refine bwfb (fun h => ?_) (fun h => ?_) | refine bwt (fun h => ?_) (fun h => ?_) | refine bwf (fun h => ?_) (fun h => ?_) | refine bnt (fun h => ?_) (fun h => ?_) | refine bcase (fun h => ?_) (fun h => ?_)) <;> (conv => whnf))
    all_goals try (exfalso; omega)
    refine swr_index rfl rfl rfl rfl rfl rfl rfl rfl  hrx ?_
    (refine sgor_sound [777] 1000 ?_; conv => whnf)
    repeat' ((with_reducible first | refine bdec (fun h => ?_) (fun h => ?_) | refine bndec (fun h => ?_) (fun h => ?_) | refine bwtd (fun h => ?_) (fun h => ?_) | refine bwfd (fun h => ?_) (fun h => ?_) | refine bwtn (fun h => ?_) (fun h => ?_) | refine bwfn (fun h => ?_) (fun h => ?_) | refine bwtb (fun h => ?_) (fun h => ?_) | refine bwfb (fun h => ?_) (fun h => ?_) | refine bwt (fun h => ?_) (fun h => ?_) | refine bwf (fun h => ?_) (fun h => ?_) | refine bnt (fun h => ?_) (fun h => ?_) | refine bcase (fun h => ?_) (fun h => ?_)) <;> (conv => whnf))
    · rw [hbad (by omega)] at hK
      exact hK _
    · rw [hw]
      refine sw_keep [1, 2, 4, 14, 15, 16] ?_
      refine ih () fun v hm => ?_
      rcases List.mem_append.1 hm with hm | hm
      · exact h1 v hm
      · simp at hm; rw [hm]; omega
    · rw [hbad (by omega)] at hK
      exact hK _
theorem witnessP_spec (c : Codex) (hfit : Codex.fit c) (hS : codexOK c = true → SearchC c) (hz : c.arts.length ≤ 1000000) (vs : List Int) (hvz : vs.length ≤ 100000) :
    SPure Tryz.prog G0 11 [c.sv, .imm (dInts vs)] (viewR (witness c vs)) := spure_is (witnessP0 c hfit hS hz vs hvz) (viewR0_is _)
end Go.Proofs.YtblpjknmhajcgaaGreatDoor

/- What a valid codex gives (plain). -/
namespace Go.Proofs.YtblpjknmhajcgaaGreatDoor
open Go Go.Sh
set_option maxRecDepth 10000
set_option maxHeartbeats 1000000

mutual
/-- each node of an expression is proper -/
def allN (c : Codex) (m : List (Int × Int)) : Ex → Prop
  | .mk op n u den ps ks => nodeOK c m op n u den ps ks = true ∧ allNs c m ks
def allNs (c : Codex) (m : List (Int × Int)) : List Ex → Prop
  | [] => True
  | e :: r => allN c m e ∧ allNs c m r
end
theorem allNs_mem {c : Codex} {m : List (Int × Int)} : ∀ {ks : List Ex}, allNs c m ks → ∀ k ∈ ks, allN c m k
  | _ :: _, h, k, hk => by
    unfold allNs at h
    rcases List.mem_cons.1 hk with rfl | hk
    · exact h.1
    · exact allNs_mem h.2 k hk
theorem fit_all (c : Codex) (m : List (Int × Int)) (N : Nat) : (∀ e : Ex, SizeOf.sizeOf e < N → ∀ d cnt : Int, (fitRun c m e d cnt).1 = true → allN c m e ∧ (fitRun c m e d cnt).2 = cnt + exSize e) ∧
    (∀ ks : List Ex, SizeOf.sizeOf ks < N → ∀ d cnt : Int, (fitKids c m ks d cnt).1 = true → allNs c m ks ∧ (fitKids c m ks d cnt).2 = cnt + exsSize ks) := by
  induction N with
  | zero => exact ⟨fun e h => by omega, fun e h => by omega⟩
  | succ N ih =>
    refine ⟨fun e he d cnt h => ?_, fun ks hk d cnt h => ?_⟩
    · obtain ⟨op, n, u, den, ps, ks⟩ := e
      simp only [Ex.mk.sizeOf_spec] at he
      have h1 := ih.2 ks (by omega) (d + 1) (cnt + 1)
      simp only [fitRun] at h ⊢
      split at h
      · cases h
      · rename_i hc
        rw [if_neg hc]
        revert h h1
        cases fitKids c m ks (d + 1) (cnt + 1) with
        | mk b q =>
          cases b with
          | true =>
            intro h1 h
            have h1 := h1 rfl
            simp only at h h1 ⊢
            refine ⟨?_, ?_⟩
            · unfold allN; exact ⟨h, h1.1⟩
            · rw [h1.2]; unfold exSize; omega
          | false => intro _ h; cases h
    · cases ks with
      | nil => simp [fitKids, allNs, exsSize]
      | cons k r =>
        simp only [List.cons.sizeOf_spec] at hk
        have h1 := ih.1 k (by omega) d cnt
        simp only [fitKids] at h ⊢
        revert h h1
        cases fitRun c m k d cnt with
        | mk b q =>
          cases b with
          | true =>
            intro h h1
            have h1 := h1 rfl
            simp only at h h1 ⊢
            have h2 := ih.2 r (by omega) d q h
            refine ⟨?_, ?_⟩
            · unfold allNs; exact ⟨h1.1, h2.1⟩
            · rw [h2.2, h1.2, exsSize]; omega
          | false => intro h; cases h
theorem whole_all {c : Codex} {m : List (Int × Int)} {e : Ex} {u : ByteArray} (h : (wholeRun c m e u).1 = true) : allN c m e ∧ exSize e ≤ 400 := by
  unfold wholeRun at h
  split at h
  · obtain ⟨h1, h2⟩ := (fit_all c m _).1 e (Nat.lt_succ_self _) 1 0 h
    have h3 := ((fitRun_up c m _).1 e (Nat.lt_succ_self _) 1 0).2 h
    exact ⟨h1, by omega⟩
  · cases h
theorem linesGo_nums (nl : Int) : ∀ (l : List Article) (m0 m : List (Int × Int)), linesGo nl l m0 = some m → (∀ k v, alook k m0 = some v → 1 ≤ k ∧ k ≤ 1000000) → ∀ k v, alook k m = some v → 1 ≤ k ∧ k ≤ 1000000
  | [], m0, m, h, h0 => by simp [linesGo] at h; subst h; exact h0
  | a :: r, m0, m, h, h0 => by
    simp only [linesGo] at h
    split at h
    · rename_i hc
      have h1 : ∀ k v, alook k (ains a.number a.line m0) = some v → 1 ≤ k ∧ k ≤ 1000000 := fun k v hk => by
        rw [alook_ains] at hk
        split at hk
        · rename_i e
          have e : k = a.number := by simpa using e
          subst e
          exact ⟨hc.1, hc.2.1⟩
        · exact h0 k v hk
      have hm : linesGo nl r (ains a.number a.line m0) = some m := by
        split at h
        · split at h
          · exact h
          · cases h
        · exact h
      exact linesGo_nums nl r _ m hm h1
    · cases h
/-- a valid codex: each article with its expressions -/
theorem codexOK_arts' {c : Codex} (h : codexOK c = true) : c.facts.length ≤ 32 ∧ c.arts.length ≤ 60 ∧ ∃ m, (∀ k v, alook k m = some v → 1 ≤ k ∧ k ≤ 1000000) ∧ ∀ a ∈ c.arts,
    artHead a = true ∧ a.unless_.all (fun n => (alook n m).isSome) = true ∧ (∀ e ∈ a.when_, allN c m e ∧ exSize e ≤ 400) ∧ allN c m a.amount ∧ exSize a.amount ≤ 400 := by
  unfold codexOK at h
  simp only [Bool.and_eq_true, decide_eq_true_eq] at h
  obtain ⟨⟨⟨⟨⟨h1, h2⟩, h3⟩, h4⟩, h5⟩, h6⟩ := h
  refine ⟨h1, h3, ?_⟩
  cases hl : linesGo c.lines.length c.arts [] with
  | none => rw [hl] at h6; cases h6
  | some m =>
    rw [hl] at h6
    simp only [List.all_eq_true] at h6
    refine ⟨m, linesGo_nums _ _ _ _ hl (fun k v h => by cases h), fun a ha => ?_⟩
    have := h6 a ha
    unfold artOK at this
    simp only [Bool.and_eq_true, List.all_eq_true] at this
    obtain ⟨⟨⟨g1, g2⟩, g3⟩, g4⟩ := this
    exact ⟨g1, List.all_eq_true.2 g2, fun e he => whole_all (g3 e he), whole_all g4⟩

theorem node_ps {c : Codex} {m : List (Int × Int)} {op n : Int} {u : ByteArray} {den : Int} {ps : List Piece} {ks : List Ex} (h : nodeOK c m op n u den ps ks = true) : ps.length ≤ 64 := by
  unfold nodeOK at h
  split at h
  · simp only [Bool.and_eq_true, tableOK, decide_eq_true_eq] at h
    exact h.2.1.2
  · split at h
    · cases h
    · rename_i hh
      omega
theorem lenOK_all (c : Codex) (m : List (Int × Int)) (N : Nat) : (∀ e : Ex, SizeOf.sizeOf e < N → allN c m e → exSize e ≤ 1000000 → lenOK e) ∧ (∀ ks : List Ex, SizeOf.sizeOf ks < N → allNs c m ks → exsSize ks ≤ 1000000 → lensOK ks) := by
  induction N with
  | zero => exact ⟨fun e h => by omega, fun e h => by omega⟩
  | succ N ih =>
    refine ⟨fun e he h hs => ?_, fun ks hk h hs => ?_⟩
    · obtain ⟨op, n, u, den, ps, ks⟩ := e
      simp only [Ex.mk.sizeOf_spec] at he
      unfold allN at h
      unfold exSize at hs
      have := node_ps h.1
      have h2 := exsSize_len ks
      unfold lenOK
      exact ⟨by omega, by omega, ih.2 ks (by omega) h.2 (by omega)⟩
    · cases ks with
      | nil => unfold lensOK; trivial
      | cons k r =>
        simp only [List.cons.sizeOf_spec] at hk
        unfold allNs at h
        unfold exsSize at hs
        unfold lensOK
        exact ⟨ih.1 k (by omega) h.1 (by omega), ih.2 r (by omega) h.2 (by omega)⟩
theorem lensOK_of : ∀ {ks : List Ex}, (∀ k ∈ ks, lenOK k) → lensOK ks
  | [], _ => by unfold lensOK; trivial
  | k :: r, h => by unfold lensOK; exact ⟨h k (by simp), lensOK_of fun x hx => h x (by simp [hx])⟩
theorem needC_of {c : Codex} (h : codexOK c = true) (hfew : ∀ a ∈ c.arts, a.when_.length ≤ 1000000 ∧ a.unless_.length ≤ 1000000) : NeedC c := by
  obtain ⟨_, h2, m, _, h4⟩ := codexOK_arts' h
  refine { arts := by omega, len := fun a ha => (hfew a ha).1, exs := fun a ha => lensOK_of fun e he => ?_, uls := fun a ha => (hfew a ha).2, amt := fun a ha => ?_ }
  · have := (h4 a ha).2.2.1 e he
    exact (lenOK_all c m _).1 e (Nat.lt_succ_self _) this.1 (by omega)
  · have := (h4 a ha).2.2.2
    exact (lenOK_all c m _).1 _ (Nat.lt_succ_self _) this.1 (by omega)
end Go.Proofs.YtblpjknmhajcgaaGreatDoor
