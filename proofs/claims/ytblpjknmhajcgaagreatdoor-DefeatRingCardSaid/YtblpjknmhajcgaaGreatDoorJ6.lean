/- Contracts of functions of the program, joined from TBh, TKr, TSh46, TBi, TPb, TPc, TPd, TDa, TDb, TSh47, TCa, TCb, TCc, TBf, TBg: no condition. -/
import Derived.Test.YtblpjknmhajcgaaGreatDoorJ5
set_option linter.unusedSimpArgs false
set_option linter.unusedVariables false
/- The order of versions (contract). -/
namespace Go.Proofs.YtblpjknmhajcgaaGreatDoor
open Go Go.Sh
set_option maxRecDepth 10000
set_option maxHeartbeats 4000000
variable (G : List (Nat × D))

def befS (c : Codex) : List SV := (allNeeds c).map fun l => .imm (dInts l)
def OH (c : Codex) (out : List Int) : List SObj := [cdxO c, .cells (befS c), .cells [.osl 1 0 c.arts.length], .mapI .i64 (encM sB (addNums [] out)), .cells [.map 3]]
theorem imms_under' {α : Type} (f : α → D) (l : List α) (n : Nat) : SV.under.allUnder n (l.map fun x => SV.imm (f x)) = true := by
  induction l with
  | nil => rfl
  | cons a l ih => simp [SV.under.allUnder, SV.under, ih]
theorem OH_under (c : Codex) (out : List Int) : (OH c out).all (SObj.under 5) = true := by
  have h : (SObj.cells (befS c)).under 5 = true := imms_under' _ _ _
  simp only [OH, List.all_cons, List.all_nil, h, mapB_under, Bool.and_true]
  rfl
theorem out_look (out : List Int) (k : Int) : ((alook k (addNums [] out)).map sB).getD (ofWhole (.bool false)) = sB (decide (k ∈ out)) := by
  rw [addNums_look]
  by_cases hk : k ∈ out
  · rw [if_pos hk, decide_eq_true hk]; rfl
  · rw [if_neg hk, decide_eq_false hk]; rfl
theorem allNeeds_len (c : Codex) : (allNeeds c).length = c.arts.length := by simp [allNeeds]
theorem allNeeds_get {c : Codex} {j : Nat} (h : j < c.arts.length) : (allNeeds c)[j]? = some (needsOf c j) := by simp [allNeeds, h]

theorem ready_spec (c : Codex) (hlen : ∀ j : Nat, (needsOf c j).length ≤ 1000000) (hz : c.arts.length ≤ 1000000) (out : List Int) (j : Nat) (hj : j < c.arts.length) :
    SPre Tryz.prog G 61 [sI j, .ptr 2 0, .ptr 4 0] (OH c out) (fun r H' => r = sB (decide (∀ x ∈ needsOf c j, x ∈ out)) ∧ H' = OH c out) := by
  refine spre_enter Tryz.func61 rfl (by rw [Tryz.ntmps61]; simp) rfl (OH_under _ _) ?_
  intro E hH hK
  have hl := hlen j
  have hla : ((needsOf c j).map fun n => [dI n]).length = (needsOf c j).length := by simp
  have hbl : (befS c).length = c.arts.length := by simp [befS, allNeeds_len]
  have hbg : (befS c)[j]? = some (.imm (dInts (needsOf c j))) := by rw [befS, List.getElem?_map, allNeeds_get hj]; rfl
  (refine sgo_sound [777] 1000 ?_; conv => whnf)
  refine swr_own (i := j) rfl rfl rfl rfl rfl rfl rfl rfl hj ?_
  refine swr_loadAt (v := .imm (dInts (needsOf c j))) rfl rfl rfl rfl rfl (by show (befS c)[0 + j * 1]? = _; rw [Nat.zero_add, Nat.mul_one]; exact hbg) ?_
  (refine sgor_sound [777] 1000 ?_; conv => whnf)
  refine sw_keep [1, 2, 10, 11, 12] ?_
  generalize needsOf c j = nd at hl hla hK
  change SW E _ [(1, .ptr 2 0), (2, .ptr 4 0), (10, .imm (dInts nd)), (11, sI (nd.map fun n => [dI n]).length), (12, sI 0)] (OH c out)
  refine sw_each nd (fun i (_ : Unit) => [(1, .ptr 2 0), (2, .ptr 4 0), (10, .imm (dInts nd)), (11, sI (nd.map fun n => [dI n]).length), (12, sI i)]) (fun _ _ => OH c out) (fun done _ _ => ∀ x ∈ done, x ∈ out) () (by simp) ?_ ?_
  · rintro _ h1
    (refine sgo_sound [777] 1000 ?_; conv => whnf)
    repeat' ((with_reducible first | refine bdec (fun h => ?_) (fun h => ?_) | refine bndec (fun h => ?_) (fun h => ?_) | refine bwtd (fun h => ?_) (fun h => ?_) | refine bwfd (fun h => ?_) (fun h => ?_) | refine bwtn (fun h => ?_) (fun h => ?_) | refine bwfn (fun h => ?_) (fun h => ?_) | refine bwtb (fun h => ?_) (fun h => ?_) | refine bwfb (fun h => ?_) (fun h => ?_) | refine bwt (fun h => ?_) (fun h => ?_) | refine bwf (fun h => ?_) (fun h => ?_) | refine bnt (fun h => ?_) (fun h => ?_) | refine bcase (fun h => ?_) (fun h => ?_)) <;> (conv => whnf))
    all_goals try (exfalso; omega)
    exact hK _ _ (Nat.le_refl _) rfl (OH_under c out) ⟨congrArg sB (decide_eq_true h1).symm, rfl⟩
  · rintro done x rest _ hda hdl h1 ih
    have hw := wrap_succ (n := done.length) (by omega)
    have hrx : (nd.map fun n => [dI n])[((done.length : Nat) : Int).toNat]? = some [dI x] := by simp [hda]
    have hxm : x ∈ nd := by rw [hda]; simp
    (refine sgo_sound [777] 1000 ?_; conv => whnf)
    repeat' ((with_reducible first | refine bdec (fun h => ?_) (fun h => ?_) | refine bndec (fun h => ?_) (fun h => ?_) | refine bwtd (fun h => ?_) (fun h => ?_) | refine bwfd (fun h => ?_) (fun h => ?_) | refine bwtn (fun h => ?_) (fun h => ?_) | refine bwfn (fun h => ?_) (fun h => ?_) | refine bwtb (fun h => ?_) (fun h => ?_) | refine bwfb (fun h => ?_) (fun h => ?_) | refine bwt (fun h => ?_) (fun h => ?_) | refine bwf (fun h => ?_) (fun h => ?_) | refine bnt (fun h => ?_) (fun h => ?_) | refine bcase (fun h => ?_) (fun h => ?_)) <;> (conv => whnf))
    all_goals try (exfalso; omega)
    refine swr_index rfl rfl rfl rfl rfl rfl rfl rfl  hrx ?_
    (refine sgor_sound [777] 1000 ?_; conv => whnf)
    refine swr_lookI (b := 3) (l := addNums [] out) sB rfl rfl rfl rfl rfl rfl rfl rfl rfl (v := sB (decide (x ∈ out))) (out_look _ _) ?_
    cases hd : decide (x ∈ out) <;> ((refine sgor_sound [777] 1000 ?_; conv => whnf))
    · have hd := of_decide_eq_false hd
      have hf : ¬ ∀ x ∈ nd, x ∈ out := fun h => hd (h x hxm)
      exact hK _ _ (Nat.le_refl _) rfl (OH_under c out) ⟨congrArg sB (decide_eq_false hf).symm, rfl⟩
    · have hd := of_decide_eq_true hd
      rw [hw]
      refine sw_keep [1, 2, 10, 11, 12] ?_
      refine ih () fun y hy => ?_
      rcases List.mem_append.1 hy with hy | hy
      · exact h1 y hy
      · simp at hy; rw [hy]; exact hd

def canPlace (c : Codex) (out : List Int) (j : Nat) : Bool := !decide ((j : Int) ∈ out) && decide (∀ x ∈ needsOf c j, x ∈ out)
theorem next_none {c : Codex} {out : List Int} (h : ∀ j, j < c.arts.length → canPlace c out j = false) : nextGo (allNeeds c) out 0 = none := by
  unfold nextGo
  rw [List.findSome?_eq_none_iff]
  intro j hj
  rw [List.mem_range, allNeeds_len] at hj
  have := h j hj
  unfold canPlace at this
  rw [if_neg]
  rintro ⟨_, h2, h3⟩
  rw [List.getD_eq_getElem?_getD, allNeeds_get hj] at h3
  have h3 : ∀ x ∈ needsOf c (j : Int), x ∈ out := h3
  rw [decide_eq_false h2, decide_eq_true h3] at this
  cases this
theorem next_some {c : Codex} {out : List Int} {j : Nat} (hj : j < c.arts.length) (h : canPlace c out j = true) (hb : ∀ k, k < j → canPlace c out k = false) : nextGo (allNeeds c) out 0 = some (j : Int) := by
  unfold nextGo
  rw [allNeeds_len, List.findSome?_eq_some_iff]
  refine ⟨List.range' 0 j, j, List.range' (j + 1) (c.arts.length - j - 1), ?_, ?_, ?_⟩
  · rw [← List.range'_succ, List.range_eq_range']
    have := List.range'_append_1 (s := 0) (m := j) (n := c.arts.length - j - 1 + 1)
    rw [Nat.zero_add] at this
    rw [this]
    congr 1
    omega
  · unfold canPlace at h
    simp only [Bool.and_eq_true, Bool.not_eq_true', decide_eq_false_iff_not, decide_eq_true_eq] at h
    have h3 : ∀ x ∈ (allNeeds c).getD j [], x ∈ out := by
      rw [List.getD_eq_getElem?_getD, allNeeds_get (by omega)]
      exact h.2
    rw [if_pos ⟨by omega, h.1, h3⟩]
  · intro k hk
    have hk := (List.mem_range'_1.1 hk).2
    have := hb k (by omega)
    unfold canPlace at this
    rw [if_neg]
    rintro ⟨_, h2, h3⟩
    rw [List.getD_eq_getElem?_getD, allNeeds_get (by omega)] at h3
    have h3 : ∀ x ∈ needsOf c (k : Int), x ∈ out := h3
    rw [decide_eq_false h2, decide_eq_true h3] at this
    cases this
theorem orderGo_succ (needs : List (List Int)) (k : Nat) (placed : List Int) : orderGo needs (k + 1) placed = match nextGo needs placed 0 with
    | some i => orderGo needs k (placed ++ [i])
    | none => none := rfl
def orderR (o : Option (List Int)) : SV := .tup [.imm (dInts (o.getD [])), sB o.isSome]
def orderR0 (ok : Bool) (o : Option (List Int)) : SV :=
  if ok then match o with
    | some l => .tup [.imm (dInts l), sB true]
    | none => .tup [nilV, sB false]
  else .tup [nilV, sB true]
theorem orderP0 (c : Codex) (hfit : Codex.fit c) (hN : codexOK c = true → NeedC c) (hlen : ∀ j : Nat, (needsOf c j).length ≤ 1000000) (hz : c.arts.length ≤ 1000000) :
    SPure Tryz.prog G 33 [c.sv] (orderR0 (codexOK c) (orderOf c)) := by
  have hal : (c.arts.map Article.cells).length = c.arts.length := by simp
  have hV := codexValid_spec G c hfit
  refine spure_enter Tryz.func33 rfl (by rw [Tryz.ntmps33]; simp) rfl (by unfold orderR0; split <;> (try cases orderOf c) <;> rfl) ?_
  intro E hH hK
  generalize hz2 : codexOK c = z at hV hN hK
  rw [show c.sv = .agg [.imm (dDecls c.facts), .imm (dDecls c.lines), .imm (dArts c.arts)] from rfl]
  (refine sgo_sound [777] 1000 ?_; conv => whnf)
  refine swr_pure rfl rfl rfl rfl rfl rfl  hV ?_
  cases z <;> ((refine sgor_sound [777] 1000 ?_; conv => whnf))
  · exact hK _
  have hN := hN rfl
  refine swr_mk (n := c.arts.length) (zz := nilV) rfl rfl rfl rfl rfl rfl rfl rfl rfl ⟨by decide, rfl⟩ rfl (by rw [← hal]) (by rw [← hal]) (by omega) ?_
  (refine sgor_sound [777] 1000 ?_; conv => whnf)
  refine sw_keep [1, 4, 18, 19, 20] ?_
  change SW E _ [(1, .ptr 0 0), (4, .ptr 2 0), (18, .osl 1 0 c.arts.length), (19, sI c.arts.length), (20, sI 0)] [cdxO c, .cells (List.replicate c.arts.length nilV), .cells [.osl 1 0 c.arts.length]]
  refine sw_each c.arts (fun i (_ : Unit) => [(1, .ptr 0 0), (4, .ptr 2 0), (18, .osl 1 0 c.arts.length), (19, sI c.arts.length), (20, sI i)]) (fun i _ => [cdxO c, .cells (((allNeeds c).take i).map (fun l => SV.imm (dInts l)) ++ List.replicate (c.arts.length - i) nilV), .cells [.osl 1 0 c.arts.length]])
    (fun _ _ _ => True) () trivial ?_ ?_
  · rintro _ _
    rw [Nat.sub_self, List.replicate_zero, List.append_nil, List.take_of_length_le (by rw [allNeeds_len]; exact Nat.le_refl _)]
    (refine sgo_sound [777] 1000 ?_; conv => whnf)
    repeat' ((with_reducible first | refine bdec (fun h => ?_) (fun h => ?_) | refine bndec (fun h => ?_) (fun h => ?_) | refine bwtd (fun h => ?_) (fun h => ?_) | refine bwfd (fun h => ?_) (fun h => ?_) | refine bwtn (fun h => ?_) (fun h => ?_) | refine bwfn (fun h => ?_) (fun h => ?_) | refine bwtb (fun h => ?_) (fun h => ?_) | refine bwfb (fun h => ?_) (fun h => ?_) | refine bwt (fun h => ?_) (fun h => ?_) | refine bwf (fun h => ?_) (fun h => ?_) | refine bnt (fun h => ?_) (fun h => ?_) | refine bcase (fun h => ?_) (fun h => ?_)) <;> (conv => whnf))
    all_goals try (exfalso; omega)
    refine sw_tok (n := 8) (kk := 1) rfl ?_
    refine sw_keep [1, 6, 7, 8] ?_
    refine Eq.mpr (congrArg (fun h => SW E _ _ h) (show _ = OH c [] ++ [.tok 1 0] from rfl)) ?_
    change SW E _ [(1, .ptr 0 0), (6, .ptr 4 0), (7, .fn (.func 61) [] [.ptr 2 0, .ptr 4 0]), (8, .asl 5 1 [])] _
    have hu : ∀ out m, (OH c out ++ [SObj.tok 1 m]).all (SObj.under 6) = true := fun out m => by
      rw [List.all_append, allObj_mono (m := 5) (by omega) (OH_under c out)]
      rfl
    refine sw_loop_ind (σ := List Int) (fun out => [(1, .ptr 0 0), (6, .ptr 4 0), (7, .fn (.func 61) [] [.ptr 2 0, .ptr 4 0]), (8, .asl 5 1 (out.map fun n => [dI n]))]) (fun out => OH c out ++ [.tok 1 (out.map fun n => [dI n]).length])
      (fun out => out.length ≤ c.arts.length ∧ orderOf c = orderGo (allNeeds c) (c.arts.length - out.length) out) (fun out => c.arts.length - out.length) ?_ [] ⟨by simp, rfl⟩
    rintro out ⟨o1, o2⟩ ih2
    have hol : (out.map fun n => [dI n]).length = out.length := by simp
    by_cases hlt : out.length < c.arts.length
    · rw [show c.arts.length - out.length = (c.arts.length - (out.length + 1)) + 1 by omega, orderGo_succ] at o2
      (refine sgo_sound [777] 1000 ?_; conv => whnf)
      repeat' ((with_reducible first | refine bdec (fun h => ?_) (fun h => ?_) | refine bndec (fun h => ?_) (fun h => ?_) | refine bwtd (fun h => ?_) (fun h => ?_) | refine bwfd (fun h => ?_) (fun h => ?_) | refine bwtn (fun h => ?_) (fun h => ?_) | refine bwfn (fun h => ?_) (fun h => ?_) | refine bwtb (fun h => ?_) (fun h => ?_) | refine bwfb (fun h => ?_) (fun h => ?_) | refine bwt (fun h => ?_) (fun h => ?_) | refine bwf (fun h => ?_) (fun h => ?_) | refine bnt (fun h => ?_) (fun h => ?_) | refine bcase (fun h => ?_) (fun h => ?_)) <;> (conv => whnf))
      all_goals try (exfalso; omega)
      refine sw_keep [1, 6, 7, 8, 9, 39, 40, 41] ?_
      refine sw_each c.arts (fun i (_ : Unit) => [(1, .ptr 0 0), (6, .ptr 4 0), (7, .fn (.func 61) [] [.ptr 2 0, .ptr 4 0]), (8, .asl 5 1 (out.map fun n => [dI n])), (9, sI (-1)), (39, .imm (dArts c.arts)), (40, sI (c.arts.map Article.cells).length), (41, sI i)]) (fun _ _ => OH c out ++ [.tok 1 (out.map fun n => [dI n]).length])
        (fun done _ _ => ∀ j, j < done.length → canPlace c out j = false) () (by simp) ?_ ?_
      · rintro _ g1
        rw [next_none g1] at o2
        simp only at o2
        rw [o2] at hK
        (refine sgo_sound [777] 1000 ?_; conv => whnf)
        repeat' ((with_reducible first | refine bdec (fun h => ?_) (fun h => ?_) | refine bndec (fun h => ?_) (fun h => ?_) | refine bwtd (fun h => ?_) (fun h => ?_) | refine bwfd (fun h => ?_) (fun h => ?_) | refine bwtn (fun h => ?_) (fun h => ?_) | refine bwfn (fun h => ?_) (fun h => ?_) | refine bwtb (fun h => ?_) (fun h => ?_) | refine bwfb (fun h => ?_) (fun h => ?_) | refine bwt (fun h => ?_) (fun h => ?_) | refine bwf (fun h => ?_) (fun h => ?_) | refine bnt (fun h => ?_) (fun h => ?_) | refine bcase (fun h => ?_) (fun h => ?_)) <;> (conv => whnf))
        all_goals try (exfalso; omega)
        exact hK _
      · rintro done x rest _ hda hdl g1 ih3
        have hw := wrap_succ (n := done.length) (by omega)
        have hrd := ready_spec G c hlen hz out done.length (by omega)
        have hcp : canPlace c out done.length = (!decide ((done.length : Int) ∈ out) && decide (∀ x ∈ needsOf c done.length, x ∈ out)) := rfl
        have hgo : canPlace c out done.length = false → SW E _ _ _ := fun h => ih3 () fun j hj => by
          rw [List.length_append] at hj
          simp only [List.length_cons, List.length_nil] at hj
          by_cases e : j = done.length
          · rw [e]; exact h
          · exact g1 j (by omega)
        have hst : canPlace c out done.length = true → nextGo (allNeeds c) out 0 = some (done.length : Int) := fun h => next_some (by omega) h g1
        generalize decide (∀ x ∈ needsOf c done.length, x ∈ out) = b at hrd hcp
        (refine sgo_sound [777] 1000 ?_; conv => whnf)
        repeat' ((with_reducible first | refine bdec (fun h => ?_) (fun h => ?_) | refine bndec (fun h => ?_) (fun h => ?_) | refine bwtd (fun h => ?_) (fun h => ?_) | refine bwfd (fun h => ?_) (fun h => ?_) | refine bwtn (fun h => ?_) (fun h => ?_) | refine bwfn (fun h => ?_) (fun h => ?_) | refine bwtb (fun h => ?_) (fun h => ?_) | refine bwfb (fun h => ?_) (fun h => ?_) | refine bwt (fun h => ?_) (fun h => ?_) | refine bwf (fun h => ?_) (fun h => ?_) | refine bnt (fun h => ?_) (fun h => ?_) | refine bcase (fun h => ?_) (fun h => ?_)) <;> (conv => whnf))
        all_goals try (exfalso; omega)
        refine swr_lookI (b := 3) (l := addNums [] out) sB rfl rfl rfl rfl rfl rfl rfl rfl rfl (v := sB (decide ((done.length : Int) ∈ out))) (out_look _ _) ?_
        cases hd : decide ((done.length : Int) ∈ out) <;> rw [hd] at hcp <;> ((refine sgor_sound [777] 1000 ?_; conv => whnf))
        · refine swr_pre 5 rfl rfl rfl rfl rfl rfl hrd ?_
          rintro r9 H9 ⟨rfl, rfl⟩ _
          refine Eq.mpr (congrArg (fun h => SWr E _ _ _ _ h) (show _ = OH c out ++ [.tok 1 (out.map fun n => [dI n]).length] from rfl)) ?_
          cases b <;> ((refine sgor_sound [777] 1000 ?_; conv => whnf))
          · rw [hw]
            refine sw_keep [1, 6, 7, 8, 9, 39, 40, 41] ?_
            exact hgo hcp
          · rw [hst hcp] at o2
            simp only at o2
            repeat' ((with_reducible first | refine bdec (fun h => ?_) (fun h => ?_) | refine bndec (fun h => ?_) (fun h => ?_) | refine bwtd (fun h => ?_) (fun h => ?_) | refine bwfd (fun h => ?_) (fun h => ?_) | refine bwtn (fun h => ?_) (fun h => ?_) | refine bwfn (fun h => ?_) (fun h => ?_) | refine bwtb (fun h => ?_) (fun h => ?_) | refine bwfb (fun h => ?_) (fun h => ?_) | refine bwt (fun h => ?_) (fun h => ?_) | refine bwf (fun h => ?_) (fun h => ?_) | refine bnt (fun h => ?_) (fun h => ?_) | refine bcase (fun h => ?_) (fun h => ?_)) <;> (conv => whnf))
            all_goals try (exfalso; omega)
            refine swr_setI (b := 3) (l := addNums [] out) sB true rfl rfl rfl rfl rfl rfl rfl rfl rfl ?_
            (refine sgor_sound [777] 1000 ?_; conv => whnf)
            refine swr_append (b := 5) (kk := 1) (rows := out.map fun n => [dI n]) (new := [[dI done.length]]) rfl rfl rfl rfl rfl rfl rfl rfl rfl rfl ⟨by decide, rfl⟩ rfl (by rw [List.length_map]; simp only [List.length_cons, List.length_nil]; omega) ?_
            have e5 : (out.map fun n => [dI n]) ++ [[dI done.length]] = (out ++ [(done.length : Int)]).map fun n => [dI n] := by simp
            have e6 : (out.map fun n => [dI n]).length + [[dI done.length]].length = ((out ++ [(done.length : Int)]).map fun n => [dI n]).length := by simp
            refine Eq.mpr (congrArg (fun v => SWr E _ _ _ (tput _ _ (.asl 5 1 v)) _) e5) ?_
            refine Eq.mpr (congrArg (fun v => SWr E _ _ _ _ (List.set _ 5 (.tok 1 v))) e6) ?_
            (refine sgor_sound [777] 1000 ?_; conv => whnf)
            have hho : [cdxO c, .cells (befS c), .cells [.osl 1 0 c.arts.length], .mapI .i64 (encM sB (ains (done.length : Int) true (addNums [] out))), .cells [.map 3]] = OH c (out ++ [(done.length : Int)]) := by rw [OH, addNums_snoc]
            refine sw_keep [1, 6, 7, 8] ?_
            refine Eq.mpr (congrArg (fun h => SW E _ _ h) (show _ = [cdxO c, .cells (befS c), .cells [.osl 1 0 c.arts.length], .mapI .i64 (encM sB (ains (done.length : Int) true (addNums [] out))), .cells [.map 3]] ++ [.tok 1 ((out ++ [(done.length : Int)]).map fun n => [dI n]).length] from rfl)) ?_
            rw [hho]
            exact ih2 (out ++ [(done.length : Int)]) ⟨by simp; omega, by rw [o2, List.length_append]; rfl⟩ (by rw [List.length_append]; simp only [List.length_cons, List.length_nil]; omega)
        · rw [hw]
          refine sw_keep [1, 6, 7, 8, 9, 39, 40, 41] ?_
          exact hgo hcp
    · have e : c.arts.length - out.length = 0 := by omega
      rw [e] at o2
      rw [o2] at hK
      refine sw_solid ?_
      change SW E _ [(1, .ptr 0 0), (6, .ptr 4 0), (7, .fn (.func 61) [] [.ptr 2 0, .ptr 4 0]), (8, .imm (dInts out))] _
      (refine sgo_sound [777] 1000 ?_; conv => whnf)
      repeat' ((with_reducible first | refine bdec (fun h => ?_) (fun h => ?_) | refine bndec (fun h => ?_) (fun h => ?_) | refine bwtd (fun h => ?_) (fun h => ?_) | refine bwfd (fun h => ?_) (fun h => ?_) | refine bwtn (fun h => ?_) (fun h => ?_) | refine bwfn (fun h => ?_) (fun h => ?_) | refine bwtb (fun h => ?_) (fun h => ?_) | refine bwfb (fun h => ?_) (fun h => ?_) | refine bwt (fun h => ?_) (fun h => ?_) | refine bwf (fun h => ?_) (fun h => ?_) | refine bnt (fun h => ?_) (fun h => ?_) | refine bcase (fun h => ?_) (fun h => ?_)) <;> (conv => whnf))
      all_goals try (exfalso; omega)
      exact hK _
  · rintro done x rest _ hda hdl _ ih
    have hw := wrap_succ (n := done.length) (by omega)
    have hnd := needs_spec G c hN (done.length : Int) (by omega) (by omega)
    have htk : (allNeeds c).take (done.length + 1) = (allNeeds c).take done.length ++ [needsOf c (done.length : Int)] := by rw [List.take_add_one, allNeeds_get (by omega)]; rfl
    have hrp : List.replicate (c.arts.length - done.length) nilV = nilV :: List.replicate (c.arts.length - (done.length + 1)) nilV := by rw [show c.arts.length - done.length = (c.arts.length - (done.length + 1)) + 1 by omega, List.replicate_succ]
    have htl : ((allNeeds c).take done.length).length = done.length := by rw [List.length_take, allNeeds_len]; omega
    rw [htk, List.map_append, List.append_assoc] at ih
    rw [hrp]
    generalize (allNeeds c).take done.length = A at htl ih ⊢
    (refine sgo_sound [777] 1000 ?_; conv => whnf)
    repeat' ((with_reducible first | refine bdec (fun h => ?_) (fun h => ?_) | refine bndec (fun h => ?_) (fun h => ?_) | refine bwtd (fun h => ?_) (fun h => ?_) | refine bwfd (fun h => ?_) (fun h => ?_) | refine bwtn (fun h => ?_) (fun h => ?_) | refine bwfn (fun h => ?_) (fun h => ?_) | refine bwtb (fun h => ?_) (fun h => ?_) | refine bwfb (fun h => ?_) (fun h => ?_) | refine bwt (fun h => ?_) (fun h => ?_) | refine bwf (fun h => ?_) (fun h => ?_) | refine bnt (fun h => ?_) (fun h => ?_) | refine bcase (fun h => ?_) (fun h => ?_)) <;> (conv => whnf))
    all_goals try (exfalso; omega)
    (refine swe_start 0 mixed rfl ?_; refine sgoe_sound [777] (nx := 3) ?_; conv => whnf)
    refine swe_pure rfl rfl rfl rfl rfl rfl (show 3 ≤ 3 by decide) hnd ?_
    (refine sgoe_sound [777] (nx := 3) ?_; conv => whnf)
    refine swe_own (i := done.length) rfl rfl rfl rfl rfl rfl rfl (show 3 ≤ 3 by decide) rfl (by omega) ?_
    refine swe_storeAt (d := A.map (fun l => SV.imm (dInts l))) (zz := nilV) (r := List.replicate (c.arts.length - (done.length + 1)) nilV) (v := .imm (dInts (needsOf c (done.length : Int)))) rfl rfl rfl rfl rfl rfl rfl rfl (show 3 ≤ 3 by decide) rfl (by show 0 + done.length * 1 = _; rw [List.length_map, htl]; omega) ?_
    (refine sgoe_sound [777] (nx := 3) ?_; conv => whnf)
    (refine sgo_sound [777] 1000 ?_; conv => whnf)
    rw [hw]
    refine sw_keep [1, 4, 18, 19, 20] ?_
    exact ih () trivial
end Go.Proofs.YtblpjknmhajcgaaGreatDoor

/- Rings of versions: shortest distances, and the ring that they give (plain). -/
namespace Go.Proofs.YtblpjknmhajcgaaGreatDoor
open Go Go.Sh
set_option maxRecDepth 10000

/-! ### the table of distances: rows of 60 -/
abbrev mg (M : List Int) (i j : Nat) : Int := M.getD (i * 60 + j) 0
theorem mg_set {M : List Int} {i j a b : Nat} {v : Int} (hl : M.length = 3600) (hi : i < 60) (hj : j < 60) (hb : b < 60) : mg (M.set (i * 60 + j) v) a b = if a = i ∧ b = j then v else mg M a b := by
  unfold mg
  rw [List.getD_eq_getElem?_getD, List.getD_eq_getElem?_getD, List.getElem?_set]
  by_cases h : i * 60 + j = a * 60 + b
  · rw [if_pos h, if_pos (by omega), if_pos (by omega)]
    rfl
  · rw [if_neg h, if_neg (by omega)]
/-- M' is nowhere more than M -/
structure DecM (n : Nat) (M' M : List Int) : Prop where
  len : M'.length = 3600
  le : ∀ i j, i < n → j < n → mg M' i j ≤ mg M i j
theorem DecM.refl {n : Nat} {M : List Int} (h : M.length = 3600) : DecM n M M := ⟨h, fun _ _ _ _ => Int.le_refl _⟩
theorem DecM.trans {n : Nat} {A B C : List Int} (h : DecM n A B) (h' : DecM n B C) : DecM n A C := ⟨h.len, fun i j hi hj => Int.le_trans (h.le i j hi hj) (h'.le i j hi hj)⟩
theorem foldl_dec {α : Type} {n : Nat} {f : List Int → α → List Int} : ∀ (l : List α) (_ : ∀ M x, x ∈ l → M.length = 3600 → DecM n (f M x) M) (M : List Int), M.length = 3600 → DecM n (l.foldl f M) M
  | [], _, M, h => .refl h
  | x :: l, hf, M, h => (foldl_dec l (fun M y hy => hf M y (List.mem_cons_of_mem _ hy)) (f M x) (hf M x (by simp) h).len).trans (hf M x (by simp) h)
/-- what the step of one element brings about stays -/
theorem foldl_at {α : Type} {n : Nat} {f : List Int → α → List Int} {l : List α} (hf : ∀ M x, x ∈ l → M.length = 3600 → DecM n (f M x) M) {M : List Int} (h : M.length = 3600) {x : α} (hx : x ∈ l) :
    ∃ M1, DecM n M1 M ∧ DecM n (l.foldl f M) (f M1 x) := by
  obtain ⟨a, b, rfl⟩ := List.append_of_mem hx
  have h1 := foldl_dec a (fun M y hy => hf M y (by simp [hy])) M h
  refine ⟨_, h1, ?_⟩
  rw [List.foldl_append, List.foldl_cons]
  exact foldl_dec b (fun M y hy => hf M y (by simp [hy])) _ (hf _ x (by simp) h1.len).len

def fwCell (k i : Nat) (M : List Int) (j : Nat) : List Int := M.set (i * 60 + j) (min (mg M i j) (mg M i k + mg M k j))
def fwRow (n k : Nat) (M : List Int) (i : Nat) : List Int := (List.range n).foldl (fwCell k i) M
def fwRound (n : Nat) (M : List Int) (k : Nat) : List Int := (List.range n).foldl (fwRow n k) M
def fwAll (n : Nat) (M : List Int) : List Int := (List.range n).foldl (fwRound n) M

section
variable {n : Nat} (hn : n ≤ 60)
include hn
theorem fwCell_dec {k i j : Nat} {M : List Int} (hi : i < n) (hj : j < n) (h : M.length = 3600) : DecM n (fwCell k i M j) M := by
  refine ⟨by simp [fwCell, h], fun a b ha hb => ?_⟩
  rw [fwCell, mg_set h (by omega) (by omega) (by omega)]
  split
  · rename_i e
    rw [e.1, e.2]
    omega
  · exact Int.le_refl _
theorem fwCell_at {k i j : Nat} {M : List Int} (hi : i < n) (hj : j < n) (h : M.length = 3600) : mg (fwCell k i M j) i j ≤ mg M i k + mg M k j := by
  rw [fwCell, mg_set h (by omega) (by omega) (by omega), if_pos ⟨rfl, rfl⟩]
  omega
theorem fwRow_dec {k i : Nat} {M : List Int} (hi : i < n) (h : M.length = 3600) : DecM n (fwRow n k M i) M :=
  foldl_dec _ (fun M x hx h => fwCell_dec hn hi (by simpa using hx) h) M h
theorem fwRound_dec {k : Nat} {M : List Int} (h : M.length = 3600) : DecM n (fwRound n M k) M :=
  foldl_dec _ (fun M x hx h => fwRow_dec hn (by simpa using hx) h) M h
theorem fwRound_at {k i j : Nat} {M : List Int} (hk : k < n) (hi : i < n) (hj : j < n) (h : M.length = 3600) : mg (fwRound n M k) i j ≤ mg M i k + mg M k j := by
  obtain ⟨M1, h1, h2⟩ := foldl_at (n := n) (f := fwRow n k) (l := List.range n) (fun M x hx h => fwRow_dec hn (by simpa using hx) h) h (x := i) (by simpa using hi)
  obtain ⟨M2, h3, h4⟩ := foldl_at (n := n) (f := fwCell k i) (l := List.range n) (fun M x hx h => fwCell_dec hn hi (by simpa using hx) h) h1.len (x := j) (by simpa using hj)
  have e1 := h2.le i j hi hj
  have e2 := h4.le i j hi hj
  have e3 := fwCell_at hn (k := k) hi hj h3.len
  have e4 := (h3.trans h1).le i k hi hk
  have e5 := (h3.trans h1).le k j hk hj
  have e6 : mg (fwRow n k M1 i) i j = mg (List.foldl (fwCell k i) M1 (List.range n)) i j := rfl
  have e7 : mg (fwRound n M k) i j = mg (List.foldl (fwRow n k) M (List.range n)) i j := rfl
  omega
end

/-! ### walks -/
inductive WalkB (E : Nat → Nat → Prop) (K : Nat) : Nat → Nat → Nat → Prop
  | one {i j : Nat} : E i j → WalkB E K i j 1
  | step {i k j L : Nat} : E i k → k < K → WalkB E K k j L → WalkB E K i j (L + 1)
theorem WalkB.split {E : Nat → Nat → Prop} {K i j L : Nat} (h : WalkB E (K + 1) i j L) : WalkB E K i j L ∨ ∃ L1 L2, WalkB E K i K L1 ∧ WalkB E K K j L2 ∧ L1 + L2 ≤ L := by
  induction h with
  | one h => exact .inl (.one h)
  | @step i k j L h hk _ ih =>
    rcases ih with h1 | ⟨L1, L2, h1, h2, h3⟩
    · by_cases e : k = K
      · subst e
        exact .inr ⟨1, L, .one h, h1, by omega⟩
      · exact .inl (.step h (by omega) h1)
    · by_cases e : k = K
      · subst e
        exact .inr ⟨1, L2, .one h, h2, by omega⟩
      · exact .inr ⟨L1 + 1, L2, .step h (by omega) h1, h2, by omega⟩
theorem WalkB.append {E : Nat → Nat → Prop} {K i k j L L' : Nat} (h : WalkB E K i k L) (h' : WalkB E K k j L') (hk : k < K) : WalkB E K i j (L + L') := by
  induction h with
  | one h => rw [Nat.add_comm]; exact .step h hk h'
  | @step i k j L h h1 _ ih =>
    have := ih h' hk
    rw [show L + 1 + L' = L + L' + 1 by omega]
    exact .step h h1 this

theorem nodup_le : ∀ {n : Nat} {l : List Nat}, l.Nodup → (∀ x ∈ l, x < n) → l.length ≤ n
  | 0, l, _, h => by
    cases l with
    | nil => simp
    | cons a l => have := h a (by simp); omega
  | n + 1, l, hd, h => by
    by_cases hm : n ∈ l
    · have h1 := nodup_le (n := n) (l := l.erase n) (hd.erase n) (fun x hx => by
        have := (hd.mem_erase_iff).1 hx
        have := h x this.2
        omega)
      rw [List.length_erase_of_mem hm] at h1
      omega
    · have := nodup_le (n := n) (l := l) hd (fun x hx => by
        have := h x hx
        have : x ≠ n := fun e => hm (e ▸ hx)
        omega)
      omega
/-- the points of a shortest walk -/
theorem WalkB.points {E : Nat → Nat → Prop} {n j : Nat} : ∀ {L i : Nat}, i < n → WalkB E n i j L → (∀ L', WalkB E n i j L' → L ≤ L') →
    ∃ vs : List Nat, vs.length = L ∧ vs.Nodup ∧ (∀ x ∈ vs, x < n) ∧ ∀ x ∈ vs, ∃ m, m ≤ L ∧ WalkB E n x j m
  | 0, i, _, h, _ => by cases h
  | L + 1, i, hi, h, hmin => by
    cases h with
    | one h => exact ⟨[i], rfl, by simp, by simpa using hi, fun x hx => by simp at hx; subst hx; exact ⟨1, by omega, .one h⟩⟩
    | @step _ k _ _ h hk hw =>
      obtain ⟨vs, h1, h2, h3, h4⟩ := WalkB.points hk hw (fun L' hw' => by have := hmin _ (.step h hk hw'); omega)
      refine ⟨i :: vs, by simp [h1], ?_, fun x hx => ?_, fun x hx => ?_⟩
      · rw [List.nodup_cons]
        refine ⟨fun hm => ?_, h2⟩
        obtain ⟨m, hm1, hm2⟩ := h4 i hm
        have := hmin m hm2
        omega
      · rcases List.mem_cons.1 hx with rfl | hx
        · exact hi
        · exact h3 x hx
      · rcases List.mem_cons.1 hx with rfl | hx
        · exact ⟨L + 1, Nat.le_refl _, .step h hk hw⟩
        · obtain ⟨m, hm1, hm2⟩ := h4 x hx
          exact ⟨m, by omega, hm2⟩
theorem WalkB.short {E : Nat → Nat → Prop} {n j L i : Nat} (h : WalkB E n i j L) (hi : i < n) : ∃ L', L' ≤ n ∧ WalkB E n i j L' := by
  induction L using Nat.strongRecOn generalizing i with
  | ind L ih =>
    by_cases hmin : ∀ L', WalkB E n i j L' → L ≤ L'
    · obtain ⟨vs, h1, h2, h3, _⟩ := WalkB.points hi h hmin
      exact ⟨L, by have := nodup_le h2 h3; omega, h⟩
    · obtain ⟨L', h1⟩ := Classical.not_forall.1 hmin
      obtain ⟨h2, h3⟩ := Classical.not_imp.1 h1
      exact ih L' (by omega) h2 hi

/-- what the table knows when k points may be passed -/
structure FW (E : Nat → Nat → Prop) (n K : Nat) (M : List Int) : Prop where
  len : M.length = 3600
  low : ∀ i j, i < n → j < n → 1 ≤ mg M i j
  sound : ∀ i j, i < n → j < n → mg M i j < 1000 → ∃ L : Nat, WalkB E n i j L ∧ mg M i j = L
  comp : ∀ i j L, i < n → j < n → WalkB E K i j L → mg M i j ≤ L

/-- the first two parts, which single steps keep -/
structure FS (E : Nat → Nat → Prop) (n : Nat) (M : List Int) : Prop where
  len : M.length = 3600
  low : ∀ i j, i < n → j < n → 1 ≤ mg M i j
  sound : ∀ i j, i < n → j < n → mg M i j < 1000 → ∃ L : Nat, WalkB E n i j L ∧ mg M i j = L
theorem FS.cell {E : Nat → Nat → Prop} {n k i j : Nat} {M : List Int} (hn : n ≤ 60) (hk : k < n) (hi : i < n) (hj : j < n) (h : FS E n M) : FS E n (fwCell k i M j) := by
  have h1 := h.low i j hi hj
  have h2 := h.low i k hi hk
  have h3 := h.low k j hk hj
  refine ⟨by simp [fwCell, h.len], fun a b ha hb => ?_, fun a b ha hb hlt => ?_⟩
  · rw [fwCell, mg_set h.len (by omega) (by omega) (by omega)]
    split
    · omega
    · exact h.low a b ha hb
  · rw [fwCell, mg_set h.len (by omega) (by omega) (by omega)] at hlt ⊢
    split at hlt
    · rename_i e
      rw [if_pos e, e.1, e.2]
      rcases Int.le_total (mg M i j) (mg M i k + mg M k j) with h4 | h4
      · rw [Int.min_eq_left h4] at hlt ⊢
        exact h.sound i j hi hj hlt
      · rw [Int.min_eq_right h4] at hlt ⊢
        obtain ⟨L1, w1, e1⟩ := h.sound i k hi hk (by omega)
        obtain ⟨L2, w2, e2⟩ := h.sound k j hk hj (by omega)
        exact ⟨L1 + L2, w1.append w2 hk, by omega⟩
    · rename_i e
      rw [if_neg e]
      exact h.sound a b ha hb hlt
theorem foldl_keeps {α : Type} {Q : List Int → Prop} {f : List Int → α → List Int} : ∀ (l : List α) (_ : ∀ M x, x ∈ l → Q M → Q (f M x)) (M : List Int), Q M → Q (l.foldl f M)
  | [], _, _, h => h
  | x :: l, hf, M, h => foldl_keeps l (fun M y hy => hf M y (List.mem_cons_of_mem _ hy)) (f M x) (hf M x (by simp) h)
theorem FS.round {E : Nat → Nat → Prop} {n k : Nat} {M : List Int} (hn : n ≤ 60) (hk : k < n) (h : FS E n M) : FS E n (fwRound n M k) :=
  foldl_keeps _ (fun M i hi h => foldl_keeps (Q := FS E n) _ (fun _ j hj h => h.cell hn hk (by simpa using hi) (by simpa using hj)) M h) M h
theorem FW.round {E : Nat → Nat → Prop} {n k : Nat} {M : List Int} (hn : n ≤ 60) (hk : k < n) (h : FW E n k M) : FW E n (k + 1) (fwRound n M k) := by
  obtain ⟨g1, g2, g3⟩ := FS.round hn hk ⟨h.len, h.low, h.sound⟩
  refine ⟨g1, g2, g3, fun i j L hi hj hw => ?_⟩
  rcases hw.split with h1 | ⟨L1, L2, h1, h2, h3⟩
  · have := (fwRound_dec hn (k := k) h.len).le i j hi hj
    have := h.comp i j L hi hj h1
    omega
  · have := fwRound_at hn hk hi hj h.len
    have := h.comp i k L1 hi hk h1
    have := h.comp k j L2 hk hj h2
    omega
theorem FW.all {E : Nat → Nat → Prop} {n : Nat} {M : List Int} (hn : n ≤ 60) (h : FW E n 0 M) : FW E n n (fwAll n M) := by
  have : ∀ m, m ≤ n → FW E n m ((List.range m).foldl (fwRound n) M) := by
    intro m
    induction m with
    | zero => intro _; exact h
    | succ m ih =>
      intro hm
      rw [List.range_succ, List.foldl_append]
      exact (ih (by omega)).round hn (by omega)
  exact this n (Nat.le_refl _)

/-! ### the first table -/
def initRow (nd : List (List Int)) (M : List Int) (i : Nat) : List Int :=
  (nd.getD i []).foldl (fun M x => M.set (i * 60 + x.toNat) 1) ((List.range nd.length).foldl (fun M j => M.set (i * 60 + j) 1000) M)
def initAll (nd : List (List Int)) : List Int := (List.range nd.length).foldl (initRow nd) (List.replicate 3600 0)
/-- needs are versions -/
def NdOK (nd : List (List Int)) : Prop := nd.length ≤ 60 ∧ ∀ i, ∀ x ∈ nd.getD i [], 0 ≤ x ∧ x < nd.length
def Edge (nd : List (List Int)) (i j : Nat) : Prop := (j : Int) ∈ nd.getD i []
theorem far_len {i : Nat} : ∀ (l : List Nat) (M : List Int), (l.foldl (fun M j => M.set (i * 60 + j) 1000) M).length = M.length
  | [], _ => rfl
  | x :: l, M => by rw [List.foldl_cons, far_len l]; simp
theorem one_len {i : Nat} : ∀ (l : List Int) (M : List Int), (l.foldl (fun M x => M.set (i * 60 + x.toNat) 1) M).length = M.length
  | [], _ => rfl
  | x :: l, M => by rw [List.foldl_cons, one_len l]; simp
theorem far_get {i a b : Nat} (hi : i < 60) (hb : b < 60) : ∀ (l : List Nat) (M : List Int), M.length = 3600 → (∀ x ∈ l, x < 60) →
    mg (l.foldl (fun M j => M.set (i * 60 + j) 1000) M) a b = if a = i ∧ b ∈ l then 1000 else mg M a b
  | [], M, _, _ => by simp
  | x :: l, M, hl, h => by
    rw [List.foldl_cons, far_get hi hb l _ (by simpa using hl) (fun y hy => h y (by simp [hy])), mg_set hl hi (h x (by simp)) hb]
    by_cases e : a = i <;> by_cases e2 : b = x <;> by_cases e3 : b ∈ l <;> simp [e, e2, e3] <;> (try (subst e2; simp_all)) <;> (try omega)
theorem one_get {i a b : Nat} (hi : i < 60) (hb : b < 60) : ∀ (l : List Int) (M : List Int), M.length = 3600 → (∀ x ∈ l, 0 ≤ x ∧ x < 60) →
    mg (l.foldl (fun M x => M.set (i * 60 + x.toNat) 1) M) a b = if a = i ∧ (b : Int) ∈ l then 1 else mg M a b
  | [], M, _, _ => by simp
  | x :: l, M, hl, h => by
    have hx := h x (by simp)
    rw [List.foldl_cons, one_get hi hb l _ (by simpa using hl) (fun y hy => h y (by simp [hy])), mg_set hl hi (by omega) hb]
    by_cases e : a = i
    · by_cases e3 : (b : Int) ∈ l
      · simp [e, e3]
      · by_cases e2 : (b : Int) = x
        · have h1 : b = x.toNat := by omega
          rw [if_neg (fun h => e3 h.2), if_pos ⟨e, h1⟩, if_pos ⟨e, by rw [e2]; simp⟩]
        · have : ¬ b = x.toNat := by omega
          simp [e, e3, this, e2]
    · simp [e]
theorem initRow_get {nd : List (List Int)} (hnd : NdOK nd) {M : List Int} (hl : M.length = 3600) {i a b : Nat} (hi : i < nd.length) (hb : b < nd.length) :
    mg (initRow nd M i) a b = if a = i then (if (b : Int) ∈ nd.getD i [] then 1 else 1000) else mg M a b := by
  have h60 := hnd.1
  unfold initRow
  rw [one_get (by omega) (by omega) _ _ (by rw [far_len, hl]) (fun x hx => by have := hnd.2 i x hx; omega), far_get (by omega) (by omega) _ _ hl (fun x hx => by have := List.mem_range.1 hx; omega)]
  have hbr : b ∈ List.range nd.length := by simpa using hb
  by_cases e : a = i
  · by_cases e2 : (b : Int) ∈ nd.getD i []
    · rw [if_pos ⟨e, e2⟩, if_pos e, if_pos e2]
    · rw [if_neg (fun h => e2 h.2), if_pos ⟨e, hbr⟩, if_pos e, if_neg e2]
  · rw [if_neg (fun h => e h.1), if_neg (fun h => e h.1), if_neg e]
theorem initRow_len (nd : List (List Int)) (M : List Int) (i : Nat) : (initRow nd M i).length = M.length := by rw [initRow, one_len, far_len]
theorem initAll_get {nd : List (List Int)} (hnd : NdOK nd) {a b : Nat} (ha : a < nd.length) (hb : b < nd.length) : mg (initAll nd) a b = if (b : Int) ∈ nd.getD a [] then 1 else 1000 := by
  have key : ∀ m, m ≤ nd.length → ((List.range m).foldl (initRow nd) (List.replicate 3600 0)).length = 3600 ∧ ∀ a, a < m → mg ((List.range m).foldl (initRow nd) (List.replicate 3600 0)) a b = if (b : Int) ∈ nd.getD a [] then 1 else 1000 := by
    intro m
    induction m with
    | zero => intro _; exact ⟨List.length_replicate, fun a ha => by omega⟩
    | succ m ih =>
      intro hm
      obtain ⟨h1, h2⟩ := ih (by omega)
      rw [List.range_succ, List.foldl_append]
      refine ⟨by rw [List.foldl_cons, List.foldl_nil, initRow_len, h1], fun a ha => ?_⟩
      rw [List.foldl_cons, List.foldl_nil, initRow_get hnd h1 (by omega) hb]
      by_cases e : a = m
      · subst e; simp
      · rw [if_neg e, h2 a (by omega)]
  exact (key nd.length (Nat.le_refl _)).2 a ha
theorem initAll_len (nd : List (List Int)) : (initAll nd).length = 3600 := by
  unfold initAll
  generalize List.range nd.length = l
  have : ∀ (l : List Nat) (M : List Int), M.length = 3600 → (l.foldl (initRow nd) M).length = 3600 := by
    intro l
    induction l with
    | nil => intro M h; exact h
    | cons x l ih => intro M h; rw [List.foldl_cons]; exact ih _ (by rw [initRow_len, h])
  exact this l _ List.length_replicate
theorem init_FW {nd : List (List Int)} (hnd : NdOK nd) : FW (Edge nd) nd.length 0 (initAll nd) := by
  refine ⟨initAll_len nd, fun i j hi hj => ?_, fun i j hi hj h => ?_, fun i j L hi hj hw => ?_⟩
  · rw [initAll_get hnd hi hj]; split <;> omega
  · rw [initAll_get hnd hi hj] at h ⊢
    split at h
    · rename_i e
      exact ⟨1, .one e, by rw [if_pos e]; rfl⟩
    · omega
  · cases hw with
    | one h => rw [initAll_get hnd hi hj, if_pos (show (j : Int) ∈ nd.getD i [] from h)]; omega
    | step _ h _ => omega

def distOf (nd : List (List Int)) : List Int := fwAll nd.length (initAll nd)
theorem dist_FW {nd : List (List Int)} (hnd : NdOK nd) : FW (Edge nd) nd.length nd.length (distOf nd) := (init_FW hnd).all hnd.1

/-! ### the ring -/
def startStep (M : List Int) (s : Int) (i : Nat) : Int := if mg M i i < 1000 ∧ (s < 0 ∨ mg M i i < mg M s.toNat s.toNat) then (i : Int) else s
def startOf (M : List Int) (n : Nat) : Int := (List.range n).foldl (startStep M) (-1)
theorem startOf_spec (M : List Int) : ∀ n : Nat, (startOf M n = -1 ∧ ∀ i, i < n → 1000 ≤ mg M i i) ∨ ∃ s : Nat, startOf M n = s ∧ s < n ∧ mg M s s < 1000 ∧ (∀ i, i < n → mg M s s ≤ mg M i i) ∧ ∀ i, i < s → mg M s s < mg M i i
  | 0 => .inl ⟨rfl, fun i hi => by omega⟩
  | n + 1 => by
    have e : startOf M (n + 1) = startStep M (startOf M n) n := by
      unfold startOf
      rw [List.range_succ, List.foldl_append]
      rfl
    rw [e]
    rcases startOf_spec M n with ⟨h1, h2⟩ | ⟨s, h1, h2, h3, h4, h5⟩
    · rw [h1]
      unfold startStep
      by_cases hc : mg M n n < 1000
      · rw [if_pos ⟨hc, .inl (by omega)⟩]
        refine .inr ⟨n, rfl, by omega, hc, fun i hi => ?_, fun i hi => ?_⟩
        · by_cases e : i = n
          · subst e; exact Int.le_refl _
          · have := h2 i (by omega); omega
        · have := h2 i (by omega); omega
      · rw [if_neg (fun h => hc h.1)]
        refine .inl ⟨rfl, fun i hi => ?_⟩
        by_cases e : i = n
        · subst e; omega
        · exact h2 i (by omega)
    · rw [h1]
      unfold startStep
      have hs : ((s : Nat) : Int).toNat = s := by omega
      rw [hs]
      by_cases hc : mg M n n < 1000 ∧ (((s : Nat) : Int) < 0 ∨ mg M n n < mg M s s)
      · rw [if_pos hc]
        refine .inr ⟨n, rfl, by omega, hc.1, fun i hi => ?_, fun i hi => ?_⟩
        · by_cases e : i = n
          · subst e; exact Int.le_refl _
          · have := h4 i (by omega); omega
        · have := h4 i (by omega); omega
      · rw [if_neg hc]
        refine .inr ⟨s, rfl, by omega, h3, fun i hi => ?_, h5⟩
        by_cases e : i = n
        · subst e; omega
        · exact h4 i (by omega)

def ringNext (nd : List (List Int)) (M : List Int) (start : Nat) (left : Int) (last : Nat) : Option Int := (nd.getD last []).find? fun x => decide (mg M x.toNat start = left)
/-- the ring after a version: the distance that is left, the last version -/
def ringGo (nd : List (List Int)) (M : List Int) (start : Nat) : Nat → Nat → List Int
  | 0, _ => []
  | left + 1, last => match ringNext nd M start (left + 1 : Nat) last with
    | some x => x :: ringGo nd M start left x.toNat
    | none => ringGo nd M start left last
def ringOf (nd : List (List Int)) : List Int :=
  let M := distOf nd
  let s := startOf M nd.length
  if s < 0 then [] else s :: ringGo nd M s.toNat (mg M s.toNat s.toNat - 1).toNat s.toNat

/-- what a path to the start is -/
theorem ringGo_spec {nd : List (List Int)} (hnd : NdOK nd) {start : Nat} (hs : start < nd.length) : ∀ (left last : Nat), last < nd.length → mg (distOf nd) last start = (left + 1 : Nat) → left < 999 →
    (ringGo nd (distOf nd) start left last).length = left ∧
    ∀ k : Nat, ∀ x, (((last : Nat) : Int) :: ringGo nd (distOf nd) start left last)[k]? = some x → 0 ≤ x ∧ x < nd.length ∧ mg (distOf nd) x.toNat start = ((left + 1 - k : Nat) : Int) ∧
      ∀ y, (((last : Nat) : Int) :: ringGo nd (distOf nd) start left last)[k + 1]? = some y → y ∈ nd.getD x.toNat []
  | 0, last, hl, hd, _ => by
    refine ⟨rfl, fun k x hx => ?_⟩
    cases k with
    | zero =>
      simp only [ringGo, List.getElem?_cons_zero, Option.some.injEq] at hx
      subst hx
      exact ⟨by omega, by omega, by simpa using hd, fun y hy => by simp [ringGo] at hy⟩
    | succ k => simp [ringGo] at hx
  | left + 1, last, hl, hd, hlt => by
    have hF := dist_FW hnd
    have hex : ∃ x, ringNext nd (distOf nd) start (left + 1 : Nat) last = some x ∧ 0 ≤ x ∧ x < nd.length ∧ x ∈ nd.getD last [] ∧ mg (distOf nd) x.toNat start = (left + 1 : Nat) := by
      obtain ⟨L, hw, he⟩ := hF.sound last start hl hs (by omega)
      have hL : L = left + 2 := by omega
      subst hL
      cases hw with
      | @step _ k _ _ h1 h2 h3 =>
        have hk : mg (distOf nd) k start = (left + 1 : Nat) := by
          have a1 := hF.comp k start (left + 1) (by omega) hs h3
          have a2 := hF.low k start (by omega) hs
          obtain ⟨L', w', e'⟩ := hF.sound k start (by omega) hs (by omega)
          have := hF.comp last start (L' + 1) hl hs (.step h1 h2 w')
          omega
        have hne : ringNext nd (distOf nd) start (left + 1 : Nat) last ≠ none := by
          unfold ringNext
          rw [Ne, List.find?_eq_none]
          intro hall
          have := hall (k : Int) h1
          simp only [Int.toNat_natCast, hk, decide_true, not_true_eq_false] at this
        obtain ⟨x, hx⟩ := Option.ne_none_iff_exists'.1 hne
        have hm := List.mem_of_find?_eq_some hx
        have hr := hnd.2 last x hm
        have hp := List.find?_some hx
        exact ⟨x, hx, hr.1, hr.2, hm, by simpa using hp⟩
    obtain ⟨x, hx, h0, h1, hm, hdx⟩ := hex
    obtain ⟨g1, g2⟩ := ringGo_spec hnd hs left x.toNat (by omega) hdx (by omega)
    have hxn : ((x.toNat : Nat) : Int) = x := by omega
    rw [hxn] at g2
    have e : ringGo nd (distOf nd) start (left + 1) last = x :: ringGo nd (distOf nd) start left x.toNat := by
      rw [ringGo, hx]
    rw [e]
    refine ⟨by simp [g1], fun k y hy => ?_⟩
    cases k with
    | zero =>
      simp only [List.getElem?_cons_zero, Option.some.injEq] at hy
      subst hy
      refine ⟨by omega, by omega, by simpa using hd, fun z hz => ?_⟩
      simp only [List.getElem?_cons_succ, List.getElem?_cons_zero, Option.some.injEq] at hz
      subst hz
      simpa using hm
    | succ k =>
      rw [List.getElem?_cons_succ] at hy
      obtain ⟨a1, a2, a3, a4⟩ := g2 k y hy
      refine ⟨a1, a2, by rw [a3]; congr 1; omega, fun z hz => ?_⟩
      rw [List.getElem?_cons_succ] at hz
      exact a4 z hz

/-- the ring, by its facts -/
theorem ringOf_spec {nd : List (List Int)} (hnd : NdOK nd) : (ringOf nd = [] ∧ ∀ i L, i < nd.length → ¬ WalkB (Edge nd) nd.length i i L) ∨
    ∃ s m : Nat, (ringOf nd)[0]? = some (s : Int) ∧ (ringOf nd).length = m ∧ 1 ≤ m ∧ m < 1000 ∧ s < nd.length ∧ (∀ i L, i < nd.length → WalkB (Edge nd) nd.length i i L → m ≤ L) ∧ (∀ i, i < nd.length → mg (distOf nd) i i = m → s ≤ i) ∧
      (∀ k : Nat, ∀ x, (ringOf nd)[k]? = some x → 0 ≤ x ∧ x < nd.length ∧ mg (distOf nd) x.toNat s = ((m - k : Nat) : Int) ∧ ∀ y, (ringOf nd)[k + 1]? = some y → y ∈ nd.getD x.toNat []) := by
  have hF := dist_FW hnd
  rcases startOf_spec (distOf nd) nd.length with ⟨h1, h2⟩ | ⟨s, h1, h2, h3, h4, h5⟩
  · left
    refine ⟨by simp [ringOf, h1], fun i L hi hw => ?_⟩
    have hge := h2 i hi
    obtain ⟨L', h6, h7⟩ := WalkB.short hw hi
    have := hF.comp i i L' hi hi h7
    have := hnd.1
    omega
  · right
    obtain ⟨L, hw, he⟩ := hF.sound s s h2 h2 h3
    have hlow := hF.low s s h2 h2
    have hs0 : ¬ ((s : Nat) : Int) < 0 := by omega
    have hsn : ((s : Nat) : Int).toNat = s := by omega
    have hm1 : (mg (distOf nd) s s - 1).toNat = L - 1 := by omega
    have er : ringOf nd = (s : Int) :: ringGo nd (distOf nd) s (L - 1) s := by
      simp only [ringOf, h1, if_neg hs0, hsn, hm1]
    obtain ⟨g1, g2⟩ := ringGo_spec hnd h2 (L - 1) s h2 (by omega) (by omega)
    rw [er]
    have hlen : ((s : Int) :: ringGo nd (distOf nd) s (L - 1) s).length = L := by rw [List.length_cons, g1]; omega
    refine ⟨s, L, rfl, hlen, by omega, by omega, h2, fun i L' hi hw' => ?_, fun i hi hm => ?_, fun k x hx => ?_⟩
    · have := hF.comp i i L' hi hi hw'
      have := h4 i hi
      omega
    · rcases Nat.lt_or_ge i s with h' | h'
      · have := h5 i h'; omega
      · exact h'
    · obtain ⟨a1, a2, a3, a4⟩ := g2 k x hx
      exact ⟨a1, a2, by rw [a3]; congr 1; omega, a4⟩
end Go.Proofs.YtblpjknmhajcgaaGreatDoor

/- The shadow machine, part 46: elements of arrays; literals that are appended to. -/
namespace Go.Sh
section
variable {P : Program} {G : List (Nat × D)} {w : World} {I : Imm} {β : List Bnd} {H : List SObj}
theorem run_litTok {t : TypeId} {len k : Nat} {ss : List (Nat × SV)} {ps : Array (Nat × Value)} {rows : List (List D)} (h : sbuildSlice P t len ss H = some (.imm (.isl k rows), H)) (hrl : rows.length = len) (hH : HeapOK G w I β H) (hp : RepParts w I β ps.toList ss) :
    ∃ u w' I' β', (Instr.buildSlice t len ps).run P w = .ok u w' ∧ Rep w' I' β' u (.asl H.length k rows) ∧ HeapOK G w' I' β' (H ++ [.tok k len]) ∧ Ext H.length w I β H w' I' β' (H ++ [.tok k len]) := by
  unfold sbuildSlice at h
  split at h <;> first | (cases h; done) | skip
  rename_i e hu
  split at h <;> first | (cases h; done) | skip
  rename_i k' z hk hz
  split at h
  · cases h
  rename_i hbig
  split at h
  · split at h <;> cases h
  · rename_i h0
    split at h <;> first | (cases h; done) | skip
    rename_i rows' hf
    split at h <;> first | (cases h; done) | skip
    rename_i hpl
    cases h
    have hz0 : ¬ len * k = 0 := by
      intro hc
      rcases Nat.mul_eq_zero.1 hc with hc | hc
      · exact h0 hc
      · exact hbig (.inr hc)
    have hlk : len ≤ len * k := Nat.le_mul_of_pos_right len (Nat.pos_of_ne_zero fun h => hbig (.inr h))
    have hb24 : ¬ len * k > 2 ^ 24 := fun h => hbig (.inl h)
    obtain ⟨vs', B, h1, h2, h3, h4⟩ := fill_seq (vs := (Array.range (len * k)).map (z.cells[· % z.cells.size]!)) hf hp (by simp [hpl])
    simp only [Nat.zero_mul, List.take_zero, List.nil_append] at h2
    obtain ⟨h5, h6⟩ := hH.allocTok (m := H.length) (k := k) (n := len) (cap := len) (vs := vs') (T := e) (by rw [← Array.length_toList, h2, ← hrl]; exact h3.1) (Nat.le_refl _) (by unfold maxLen; omega)
    have hrun : (Instr.buildSlice t len ps).run P w = .ok (.slice (some ⟨w.heap.size, 0, none⟩) len len) (w.alloc (.cells vs' e)) := by
      simp only [Instr.buildSlice, Sem.run_bind, run_underlying hu, Result.andThen_ok, run_psize hk]
      rw [if_neg (fun h => hbig (.inl h)), if_neg hz0]
      simp only [Sem.run_pure, Sem.run_bind, Result.andThen_ok, run_pzero hz, h1, newRow, run_newObj]
      rfl
    refine ⟨_, _, _, _, hrun, .asl H.length k rows _ _ len ?_ (by rw [← hH.len]; simp) ⟨_, len, rfl⟩ (by omega) (fun _ => rfl), h5, h6⟩
    have := (h3.mono h6.imm h6.cell).drep (by omega) (fun o ho => ⟨.inr ⟨rfl, ho⟩, by rw [cell_of_heap (heap_alloc_self _), ← h2]; simp⟩) (Nat.le_refl _) (by unfold maxLen; omega)
    exact this
end
section
variable {P : Program} {G : List (Nat × D)} {fn : Func} {rd : Bool} {E : En P G fn rd} {t : List (Nat × SV)} {H K : List SObj} {k : List Item} {m : Nat} {all : Array Oper} {rest : List Oper} {done : List Eff} {o : Oper}
/-- a literal that may be appended to -/
theorem swr_litTok {ty len kk : Nat} {ps : Array (Nat × Operand)} {rows : List (List D)} (hop : o.op = .buildSlice ty len ps) (hw : swant all t o.guard = some true) (hd : dstOK fn.ntmps o.dst = true)
    (hb : sbuildSlice P ty len (ps.toList.map fun p => (p.1, evalS G t p.2)) H = some (.imm (.isl kk rows), H)) (hrl : rows.length = len)
    (h : SWr E all rest k (tput t o.dst (.asl H.length kk rows)) (H ++ [.tok kk len])) : SWr E all (o :: rest) k t H := by
  refine swr_exec hw hd (fun c e => by rw [hop] at e; cases e) (by simp) (fun ρ w I β hH hev => ?_) h
  obtain ⟨dst, op, type, pos, after, guard⟩ := o
  simp only at hop
  subst hop
  obtain ⟨u, w', I', β', h1, h2, h3, h4⟩ := run_litTok (ps := ps.map fun p => (p.1, ρ p.2)) hb hrl hH (by simpa using repParts_map hev ps.toList)
  exact OpRun.value h1 h2 h3 h4
/-- an element of an array in the heap -/
theorem sop_arr {ty e n len : Nat} {x ix : Operand} {b off i : Nat} {mm : Int} {kk : IntKind} (hx : evalS G t x = .ptr b off) (hi : evalS G t ix = .imm (.val (.int kk mm)))
    (hu : P.underlying ty = some (.array len e)) (hn : psize P e = some n) (hmm : mm = (i : Int)) (hr : i < len) (H : List SObj) : sop P (.indexAddr ty x ix) (evalS G t) H = some (.ptr b (off + i * n), H) := by
  subst hmm
  simp only [sop, hi, sindexAddr, hu, hn, hx]
  rw [if_pos (by omega)]
  simp
theorem swr_arr {ty e n len : Nat} {x ix : Operand} {b off i : Nat} {mm : Int} {kk : IntKind} (hop : o.op = .indexAddr ty x ix)
    (hw : swant all t o.guard = some true) (hd : dstOK fn.ntmps o.dst = true) (hx : evalS G t x = .ptr b off) (hi : evalS G t ix = .imm (.val (.int kk mm)))
    (hu : P.underlying ty = some (.array len e)) (hn : psize P e = some n) (hmm : mm = (i : Int)) (hr : i < len)
    (h : SWr E all rest k (tput t o.dst (.ptr b (off + i * n))) H) : SWr E all (o :: rest) k t H :=
  swr_op hw hd (by rw [hop]; exact sop_arr hx hi hu hn hmm hr H) (Nat.le_refl _) h
theorem swe_arr {ty e n len : Nat} {x ix : Operand} {b off i : Nat} {mm : Int} {kk : IntKind} (hop : o.op = .indexAddr ty x ix)
    (hw : swant all t o.guard = some true) (hd : dstOK fn.ntmps o.dst = true) (hx : evalS G t x = .ptr b off) (hi : evalS G t ix = .imm (.val (.int kk mm)))
    (hu : P.underlying ty = some (.array len e)) (hn : psize P e = some n) (hm : m ≤ K.length) (hmm : mm = (i : Int)) (hr : i < len)
    (h : SWe E m all rest k (tput t o.dst (.ptr b (off + i * n))) K (done ++ [⟨.ptr b (off + i * n), [], none⟩])) : SWe E m all (o :: rest) k t K done :=
  swe_op ⟨.ptr b (off + i * n), [], none⟩ hw hd hm (fun K' _ _ => by rw [hop]; exact sop_arr hx hi hu hn hmm hr K') h
end
end Go.Sh

/- The shortest ring (contract). Printed by wip/gen/gen_ring.py. -/
namespace Go.Proofs.YtblpjknmhajcgaaGreatDoor
open Go Go.Sh
set_option maxRecDepth 10000
set_option maxHeartbeats 8000000
variable (G : List (Nat × D))

abbrev tabO (M : List Int) : SObj := .cells (M.map sI)
theorem tab_load {M : List Int} (hl : M.length = 3600) {i j : Nat} (hi : i < 60) (hj : j < 60) {off : Nat} (ho : off = i * 60 + j) : sload Tryz.prog 3 (M.map sI) off = some (sI (mg M i j)) := by
  subst ho
  show (M.map sI)[i * 60 + j]? = _
  rw [List.getElem?_map, mg, List.getD_eq_getElem?_getD]
  have : i * 60 + j < M.length := by omega
  rw [List.getElem?_eq_getElem this]
  rfl
section
variable {P : Program} {G : List (Nat × D)} {fn : Func} {rd : Bool} {E : En P G fn rd} {t : List (Nat × SV)} {H K : List SObj} {k : List Item} {m : Nat} {all : Array Oper} {rest : List Oper} {done : List Eff} {o : Oper}
theorem swr_build0 {ty : Nat} {v : SV} (hop : o.op = .build ty #[]) (hw : swant all t o.guard = some true) (hd : dstOK fn.ntmps o.dst = true) (hb : sbuild P ty [] = some v) (h : SWr E all rest k (tput t o.dst v) H) : SWr E all (o :: rest) k t H :=
  swr_op (r := v) (H' := H) hw hd (by rw [hop]; simp only [sop, List.map_nil, hb, Option.map_some]) (Nat.le_refl _) h
theorem swr_alloc {ty : Nat} {cs : List SV} (hop : o.op = .alloc ty) (hw : swant all t o.guard = some true) (hd : dstOK fn.ntmps o.dst = true) (hz : (pzero P ty).map zcells = some cs) (h : SWr E all rest k (tput t o.dst (.ptr H.length 0)) (H ++ [.cells cs])) : SWr E all (o :: rest) k t H := by
  obtain ⟨z, h1, h2⟩ := Option.map_eq_some_iff.1 hz
  exact swr_op (r := .ptr H.length 0) (H' := H ++ [.cells cs]) hw hd (by rw [hop]; simp only [sop, h1, Option.map_some, h2]) (by simp) h
theorem swr_tabSet {ty : Nat} {ax vx : Operand} {b off p : Nat} {M : List Int} {v : Int} (hop : o.op = .store ty ax vx) (hw : swant all t o.guard = some true) (hd : dstOK fn.ntmps o.dst = true) (ha : evalS G t ax = .ptr b off) (hv : evalS G t vx = sI v) (hsz : psize P ty = some 1)
    (hb : H[b]? = some (tabO M)) (ho : off = p) (hp : p < M.length) (h : SWr E all rest k (tput t o.dst .any) (H.set b (tabO (M.set p v)))) : SWr E all (o :: rest) k t H := by
  have e : tabO (M.set p v) = .cells ((M.take p).map sI ++ sI v :: (M.drop (p + 1)).map sI) := by rw [set_map sI M p hp v]
  rw [e] at h
  exact swr_storeAt (zz := sI (M[p]'hp)) (d := (M.take p).map sI) (r := (M.drop (p + 1)).map sI) hop hw hd ha hv rfl rfl hsz (by rw [hb, tabO, split_map sI M p hp]) (by rw [ho, List.length_map, List.length_take]; omega) h
theorem swe_tabSet {ty : Nat} {ax vx : Operand} {b off p : Nat} {M : List Int} {v : Int} (hop : o.op = .store ty ax vx) (hw : swant all t o.guard = some true) (hd : dstOK fn.ntmps o.dst = true) (ha : evalS G t ax = .ptr b off) (hv : evalS G t vx = sI v) (hsz : psize P ty = some 1) (hm : m ≤ K.length)
    (hb : K[b]? = some (tabO M)) (ho : off = p) (hp : p < M.length) (h : SWe E m all rest k (tput t o.dst .any) (K.set b (tabO (M.set p v))) (done ++ [⟨.any, [b], some (b, tabO (M.set p v))⟩])) : SWe E m all (o :: rest) k t K done := by
  have e : tabO (M.set p v) = .cells ((M.take p).map sI ++ sI v :: (M.drop (p + 1)).map sI) := by rw [set_map sI M p hp v]
  rw [e] at h
  exact swe_storeAt (zz := sI (M[p]'hp)) (d := (M.take p).map sI) (r := (M.drop (p + 1)).map sI) hop hw hd ha hv rfl rfl hsz hm (by rw [hb, tabO, split_map sI M p hp]) (by rw [ho, List.length_map, List.length_take]; omega) h
end
theorem build84 : sbuild Tryz.prog 84 [] = some (.agg (List.replicate 3600 (sI 0))) := by kernel_rfl
theorem alloc84 : (pzero Tryz.prog 84).map zcells = some (List.replicate 3600 (sI 0)) := by kernel_rfl
/-- the table's numbers stay small -/
def Bd (M : List Int) : Prop := M.length = 3600 ∧ ∀ x ∈ M, 0 ≤ x ∧ x ≤ 1000
theorem Bd.set {M : List Int} (h : Bd M) (p : Nat) {v : Int} (hv : 0 ≤ v ∧ v ≤ 1000) : Bd (M.set p v) := ⟨by rw [List.length_set]; exact h.1, fun x hx => by
  rcases List.mem_or_eq_of_mem_set hx with hx | rfl
  · exact h.2 x hx
  · exact hv⟩
theorem Bd.mg {M : List Int} (h : Bd M) (i j : Nat) : 0 ≤ mg M i j ∧ mg M i j ≤ 1000 := by
  unfold Go.Proofs.YtblpjknmhajcgaaGreatDoor.mg
  rw [List.getD_eq_getElem?_getD]
  cases hg : M[i * 60 + j]? with
  | none => simp
  | some x => exact h.2 x (List.mem_of_getElem? hg)
theorem Bd.cell {M : List Int} (h : Bd M) (k i j : Nat) : Bd (fwCell k i M j) := by
  have h1 := h.mg i j
  have h2 := h.mg i k
  have h3 := h.mg k j
  exact h.set _ (by omega)
theorem Bd.row {M : List Int} (h : Bd M) (n k i : Nat) : Bd (fwRow n k M i) := foldl_keeps (Q := Bd) _ (fun _ j _ h => h.cell k i j) M h
theorem Bd.round {M : List Int} (h : Bd M) (n k : Nat) : Bd (fwRound n M k) := foldl_keeps (Q := Bd) _ (fun _ i _ h => h.row n k i) M h
theorem Bd.initRow {M : List Int} (h : Bd M) (nd : List (List Int)) (i : Nat) : Bd (initRow nd M i) := by
  unfold Go.Proofs.YtblpjknmhajcgaaGreatDoor.initRow
  refine foldl_keeps (Q := Bd) _ (fun _ _ _ h => h.set _ (by decide)) _ ?_
  exact foldl_keeps (Q := Bd) _ (fun _ _ _ h => h.set _ (by decide)) M h
theorem Bd.zero : Bd (List.replicate 3600 0) := ⟨by rw [List.length_replicate], fun x hx => by rw [(List.mem_replicate.1 hx).2]; decide⟩
theorem fold_succ {α : Type} (f : α → Nat → α) (M : α) (i : Nat) : (List.range (i + 1)).foldl f M = f ((List.range i).foldl f M) i := by rw [List.range_succ, List.foldl_append]; rfl

theorem ringP0 (c : Codex) (hfit : Codex.fit c) (hN : codexOK c = true → NeedC c) (h60 : codexOK c = true → c.arts.length ≤ 60) (hnd : codexOK c = true → NdOK (allNeeds c)) (hlen : ∀ j : Nat, (needsOf c j).length ≤ 1000000) (hz : c.arts.length ≤ 1000000) :
    SPure Tryz.prog G 19 [c.sv] (if codexOK c = true ∧ ringOf (allNeeds c) ≠ [] then .imm (dInts (ringOf (allNeeds c))) else nilV) := by
  have hal : (c.arts.map Article.cells).length = c.arts.length := by simp
  have hV := codexValid_spec G c hfit
  refine spure_enter Tryz.func19 rfl (by rw [Tryz.ntmps19]; simp) rfl (by split <;> rfl) ?_
  intro E hH hK
  generalize hz2 : codexOK c = z at hV hN hK h60 hnd
  rw [show c.sv = .agg [.imm (dDecls c.facts), .imm (dDecls c.lines), .imm (dArts c.arts)] from rfl]
  (refine sgo_sound [777] 1000 ?_; conv => whnf)
  refine swr_pure rfl rfl rfl rfl rfl rfl  hV ?_
  cases z
  · (refine sgor_sound [777] 1000 ?_; conv => whnf)
    exact hK _
  have hN := hN rfl
  have h60 := h60 rfl
  have hnd := hnd rfl
  have hndl := allNeeds_len c
  (refine sgor_sound [777, 25] 1000 ?_; conv => whnf)
  rw [hal]
  obtain ⟨M0, hM0⟩ : ∃ M0 : List Int, M0 = List.replicate 3600 0 := ⟨_, rfl⟩
  have hB0 : Bd M0 := hM0 ▸ Bd.zero
  have hm0 : List.replicate 3600 (sI 0) = M0.map sI := by rw [hM0, List.map_replicate]
  have b84 := build84
  have a84 := alloc84
  rw [hm0] at b84 a84
  refine swr_build0 rfl rfl rfl b84 ?_
  refine swr_alloc rfl rfl rfl a84 ?_
  refine swr_storeAll (b := 1) (n := 3600) (new := M0.map sI) (old := M0.map sI) rfl rfl rfl rfl rfl (by rw [← hm0, List.all_replicate]; rfl) (by kernel_rfl) (by rw [List.length_map]; exact hB0.1) rfl (by rw [List.length_map]; exact hB0.1) ?_
  refine Eq.mpr (congrArg (fun h => SWr E _ _ _ _ h) (show _ = [cdxO c, tabO M0] from rfl)) ?_
  (refine sgor_sound [777] 1000 ?_; conv => whnf)
  refine swr_mk (n := c.arts.length) (zz := nilV) rfl rfl rfl rfl rfl rfl rfl rfl rfl ⟨by decide, rfl⟩ rfl rfl rfl (by omega) ?_
  (refine sgor_sound [777] 1000 ?_; conv => whnf)
  refine sw_keep [1, 3, 4, 5, 28, 29] ?_
  change SW E _ [(1, .ptr 0 0), (3, sI c.arts.length), (4, .ptr 1 0), (5, .osl 2 0 c.arts.length), (28, sI c.arts.length), (29, sI 0)] [cdxO c, tabO M0, .cells (List.replicate c.arts.length nilV)]
  have hBi : ∀ i, Bd ((List.range i).foldl (initRow (allNeeds c)) M0) := fun i => foldl_keeps (Q := Bd) _ (fun _ j _ h => h.initRow _ j) M0 hB0
  refine sw_each c.arts (fun i (_ : Unit) => [(1, .ptr 0 0), (3, sI c.arts.length), (4, .ptr 1 0), (5, .osl 2 0 c.arts.length), (28, sI c.arts.length), (29, sI i)]) (fun i _ => [cdxO c, tabO ((List.range i).foldl (initRow (allNeeds c)) M0), .cells (((allNeeds c).take i).map (fun l => SV.imm (dInts l)) ++ List.replicate (c.arts.length - i) nilV)])
    (fun _ _ _ => True) () trivial ?_ ?_
  · rintro _ _
    rw [Nat.sub_self, List.replicate_zero, List.append_nil, List.take_of_length_le (by rw [allNeeds_len]; exact Nat.le_refl _)]
    have hB1 := hBi c.arts.length
    have hI : (List.range c.arts.length).foldl (initRow (allNeeds c)) M0 = initAll (allNeeds c) := by rw [initAll, hndl, hM0]
    have hDi : distOf (allNeeds c) = (List.range c.arts.length).foldl (fwRound c.arts.length) (initAll (allNeeds c)) := by rw [distOf, fwAll, hndl]
    rw [hI] at hB1 ⊢
    generalize initAll (allNeeds c) = M1 at hB1 hDi ⊢
    (refine sgo_sound [777] 1000 ?_; conv => whnf)
    repeat' ((with_reducible first | refine bdec (fun h => ?_) (fun h => ?_) | refine bndec (fun h => ?_) (fun h => ?_) | refine bwtd (fun h => ?_) (fun h => ?_) | refine bwfd (fun h => ?_) (fun h => ?_) | refine bwtn (fun h => ?_) (fun h => ?_) | refine bwfn (fun h => ?_) (fun h => ?_) | refine bwtb (fun h => ?_) (fun h => ?_) | refine bwfb (fun h => ?_) (fun h => ?_) | refine bwt (fun h => ?_) (fun h => ?_) | refine bwf (fun h => ?_) (fun h => ?_) | refine bnt (fun h => ?_) (fun h => ?_) | refine bcase (fun h => ?_) (fun h => ?_)) <;> (conv => whnf))
    all_goals try (exfalso; omega)
    refine sw_keep [1, 3, 4, 5, 62, 63] ?_
    have hBk : ∀ k, Bd ((List.range k).foldl (fwRound c.arts.length) M1) := fun k => foldl_keeps (Q := Bd) _ (fun _ j _ h => h.round _ j) M1 hB1
    change SW E _ [(1, .ptr 0 0), (3, sI c.arts.length), (4, .ptr 1 0), (5, .osl 2 0 c.arts.length), (62, sI c.arts.length), (63, sI 0)] [cdxO c, tabO (M1), .cells (befS c)]
    refine sw_each (List.range c.arts.length) (fun k (_ : Unit) => [(1, .ptr 0 0), (3, sI c.arts.length), (4, .ptr 1 0), (5, .osl 2 0 c.arts.length), (62, sI c.arts.length), (63, sI k)]) (fun k _ => [cdxO c, tabO ((List.range k).foldl (fwRound c.arts.length) M1), .cells (befS c)]) (fun _ _ _ => True) () trivial ?_ ?_
    · rintro _ _
      rw [List.length_range, ← hDi]
      have hBD := hBk c.arts.length
      rw [← hDi] at hBD
      clear hDi hBk hBi hB1 hM0 hB0 hm0 b84 a84
      have hro : ringOf (allNeeds c) = if startOf (distOf (allNeeds c)) c.arts.length < 0 then [] else startOf (distOf (allNeeds c)) c.arts.length :: ringGo (allNeeds c) (distOf (allNeeds c)) (startOf (distOf (allNeeds c)) c.arts.length).toNat (mg (distOf (allNeeds c)) (startOf (distOf (allNeeds c)) c.arts.length).toNat (startOf (distOf (allNeeds c)) c.arts.length).toNat - 1).toNat (startOf (distOf (allNeeds c)) c.arts.length).toNat := by rw [ringOf, hndl]
      have hlow : ∀ i j, i < c.arts.length → j < c.arts.length → 1 ≤ mg (distOf (allNeeds c)) i j := fun i j hi hj => (dist_FW hnd).low i j (by rw [hndl]; exact hi) (by rw [hndl]; exact hj)
      generalize distOf (allNeeds c) = D at hBD hro hlow ⊢
      (refine sgo_sound [777] 1000 ?_; conv => whnf)
      repeat' ((with_reducible first | refine bdec (fun h => ?_) (fun h => ?_) | refine bndec (fun h => ?_) (fun h => ?_) | refine bwtd (fun h => ?_) (fun h => ?_) | refine bwfd (fun h => ?_) (fun h => ?_) | refine bwtn (fun h => ?_) (fun h => ?_) | refine bwfn (fun h => ?_) (fun h => ?_) | refine bwtb (fun h => ?_) (fun h => ?_) | refine bwfb (fun h => ?_) (fun h => ?_) | refine bwt (fun h => ?_) (fun h => ?_) | refine bwf (fun h => ?_) (fun h => ?_) | refine bnt (fun h => ?_) (fun h => ?_) | refine bcase (fun h => ?_) (fun h => ?_)) <;> (conv => whnf))
      all_goals try (exfalso; omega)
      refine sw_keep [1, 3, 4, 5, 13, 98, 99] ?_
      change SW E _ [(1, .ptr 0 0), (3, sI c.arts.length), (4, .ptr 1 0), (5, .osl 2 0 c.arts.length), (13, sI (-1)), (98, sI c.arts.length), (99, sI 0)] [cdxO c, tabO D, .cells (befS c)]
      refine sw_each (List.range c.arts.length) (fun i (s : Int) => [(1, .ptr 0 0), (3, sI c.arts.length), (4, .ptr 1 0), (5, .osl 2 0 c.arts.length), (13, sI s), (98, sI c.arts.length), (99, sI i)]) (fun _ _ => [cdxO c, tabO D, .cells (befS c)])
        (fun done _ s => s = startOf D done.length ∧ (s = -1 ∨ 0 ≤ s ∧ s < c.arts.length)) (-1) ⟨rfl, .inl rfl⟩ ?_ ?_
      · rintro s ⟨s1, s2⟩
        rw [List.length_range] at s1 ⊢
        rw [← s1] at hro
        by_cases hs0 : s < 0
        · rw [if_pos hs0] at hro
          rw [hro, if_neg (by simp)] at hK
          (refine sgo_sound [777] 1000 ?_; conv => whnf)
          repeat' ((with_reducible first | refine bdec (fun h => ?_) (fun h => ?_) | refine bndec (fun h => ?_) (fun h => ?_) | refine bwtd (fun h => ?_) (fun h => ?_) | refine bwfd (fun h => ?_) (fun h => ?_) | refine bwtn (fun h => ?_) (fun h => ?_) | refine bwfn (fun h => ?_) (fun h => ?_) | refine bwtb (fun h => ?_) (fun h => ?_) | refine bwfb (fun h => ?_) (fun h => ?_) | refine bwt (fun h => ?_) (fun h => ?_) | refine bwf (fun h => ?_) (fun h => ?_) | refine bnt (fun h => ?_) (fun h => ?_) | refine bcase (fun h => ?_) (fun h => ?_)) <;> (conv => whnf))
          all_goals try (exfalso; omega)
          exact hK _
        rw [if_neg hs0] at hro
        rw [if_pos ⟨rfl, by rw [hro]; simp⟩] at hK
        have hss := hBD.mg s.toNat s.toNat
        have hsl := hlow s.toNat s.toNat (by omega) (by omega)
        (refine sgo_sound [777, 130] 1000 ?_; conv => whnf)
        repeat' ((with_reducible first | refine bdec (fun h => ?_) (fun h => ?_) | refine bndec (fun h => ?_) (fun h => ?_) | refine bwtd (fun h => ?_) (fun h => ?_) | refine bwfd (fun h => ?_) (fun h => ?_) | refine bwtn (fun h => ?_) (fun h => ?_) | refine bwfn (fun h => ?_) (fun h => ?_) | refine bwtb (fun h => ?_) (fun h => ?_) | refine bwfb (fun h => ?_) (fun h => ?_) | refine bwt (fun h => ?_) (fun h => ?_) | refine bwf (fun h => ?_) (fun h => ?_) | refine bnt (fun h => ?_) (fun h => ?_) | refine bcase (fun h => ?_) (fun h => ?_)) <;> (conv => whnf))
        all_goals try (exfalso; omega)
        refine swr_litTok (rows := [[dI s]]) (kk := 1) rfl rfl rfl rfl rfl ?_
        (refine sgor_sound [777, 133] 1000 ?_; conv => whnf)
        refine swr_arr (i := s.toNat) (n := 60) rfl rfl rfl rfl rfl rfl (by rfl) (Int.toNat_of_nonneg (by omega)).symm (by omega) ?_
        refine swr_arr (i := s.toNat) (n := 1) rfl rfl rfl rfl rfl rfl (by rfl) (Int.toNat_of_nonneg (by omega)).symm (by omega) ?_
        refine swr_loadAt (v := sI (mg D s.toNat s.toNat)) rfl rfl rfl rfl rfl (tab_load hBD.1 (i := s.toNat) (j := s.toNat) (by omega) (by omega) (by omega)) ?_
        (refine sgor_sound [777] 1000 ?_; conv => whnf)
        refine sw_keep [4, 5, 13, 15, 16] ?_
        have hw0 : IntKind.i64.wrap (mg D s.toNat s.toNat - 1) = (((mg D s.toNat s.toNat - 1).toNat : Nat) : Int) := by
          rw [wrap64 (c := mg D s.toNat s.toNat - 1) (by omega) (by omega)]
          omega
        change SW E _ [(4, .ptr 1 0), (5, .osl 2 0 c.arts.length), (13, sI s), (15, .asl 3 1 ((([] : List Int) ++ [s]).map fun n => [dI n])), (16, sI (IntKind.i64.wrap (mg D s.toNat s.toNat - 1)))] [cdxO c, tabO D, .cells (befS c), .tok 1 1]
        rw [hw0]
        refine sw_loop_ind (σ := Nat × List Int × Int) (fun x => [(4, .ptr 1 0), (5, .osl 2 0 c.arts.length), (13, sI s), (15, .asl 3 1 ((x.2.1 ++ [x.2.2]).map fun n => [dI n])), (16, sI x.1)]) (fun x => [cdxO c, tabO D, .cells (befS c), .tok 1 ((x.2.1 ++ [x.2.2]).map fun n => [dI n]).length])
          (fun x => ringOf (allNeeds c) = x.2.1 ++ [x.2.2] ++ ringGo (allNeeds c) D s.toNat x.1 x.2.2.toNat ∧ 0 ≤ x.2.2 ∧ x.2.2 < c.arts.length ∧ x.2.1.length + x.1 ≤ 1000) (fun x => x.1) ?_ ((mg D s.toNat s.toNat - 1).toNat, [], s) ⟨by rw [hro]; rfl, by simp only; omega, by simp only; omega, by simp only [List.length_nil]; omega⟩
        rintro ⟨left, P, last⟩ ⟨r1, r2, r3, r4⟩ ihl
        simp only at r1 r2 r3 r4 ihl
        show SW E _ [(4, .ptr 1 0), (5, .osl 2 0 c.arts.length), (13, sI s), (15, .asl 3 1 ((P ++ [last]).map fun n => [dI n])), (16, sI left)] [cdxO c, tabO D, .cells (befS c), .tok 1 ((P ++ [last]).map fun n => [dI n]).length]
        have hPl : ((P ++ [last]).map fun n => [dI n]).length = P.length + 1 := by simp
        cases left with
        | zero =>
          rw [ringGo, List.append_nil] at r1
          rw [r1] at hK
          refine sw_solid ?_
          change SW E _ [(4, .ptr 1 0), (5, .osl 2 0 c.arts.length), (13, sI s), (15, .imm (dInts (P ++ [last]))), (16, sI 0)] _
          (refine sgo_sound [777] 1000 ?_; conv => whnf)
          exact hK _
        | succ left =>
          have hbg : (befS c)[last.toNat]? = some (.imm (dInts (needsOf c (last.toNat : Int)))) := by rw [befS, List.getElem?_map, allNeeds_get (by omega)]; rfl
          have hgd : (allNeeds c).getD last.toNat [] = needsOf c (last.toNat : Int) := by rw [List.getD_eq_getElem?_getD, allNeeds_get (by omega)]; rfl
          have hnr : ∀ y ∈ needsOf c (last.toNat : Int), 0 ≤ y ∧ y < c.arts.length := fun y hy => by
            have := hnd.2 last.toNat y (by rw [hgd]; exact hy)
            rw [hndl] at this
            exact this
          have hnl := hlen last.toNat
          have hrg : ringGo (allNeeds c) D s.toNat (left + 1) last.toNat = match (needsOf c (last.toNat : Int)).find? (fun x => decide (mg D x.toNat s.toNat = ((left + 1 : Nat) : Int))) with | some x => x :: ringGo (allNeeds c) D s.toNat left x.toNat | none => ringGo (allNeeds c) D s.toNat left last.toNat := by rw [ringGo, ringNext, hgd]; try rfl
          rw [hrg] at r1
          generalize needsOf c (last.toNat : Int) = nl at hbg hnr hnl r1
          have hwl : IntKind.i64.wrap (((left + 1 : Nat) : Int) - 1) = ((left : Nat) : Int) := by rw [wrap64 (c := ((left + 1 : Nat) : Int) - 1) (by omega) (by omega)]; omega
          have hwp : IntKind.i64.wrap ((((P ++ [last]).map fun n => [dI n]).length : Int) - 1) = ((P.length : Nat) : Int) := by rw [hPl, wrap64 (c := ((P.length + 1 : Nat) : Int) - 1) (by omega) (by omega)]; omega
          (refine sgo_sound [777] 1000 ?_; conv => whnf)
          repeat' ((with_reducible first | refine bdec (fun h => ?_) (fun h => ?_) | refine bndec (fun h => ?_) (fun h => ?_) | refine bwtd (fun h => ?_) (fun h => ?_) | refine bwfd (fun h => ?_) (fun h => ?_) | refine bwtn (fun h => ?_) (fun h => ?_) | refine bwfn (fun h => ?_) (fun h => ?_) | refine bwtb (fun h => ?_) (fun h => ?_) | refine bwfb (fun h => ?_) (fun h => ?_) | refine bwt (fun h => ?_) (fun h => ?_) | refine bwf (fun h => ?_) (fun h => ?_) | refine bnt (fun h => ?_) (fun h => ?_) | refine bcase (fun h => ?_) (fun h => ?_)) <;> (conv => whnf))
          all_goals try (exfalso; omega)
          refine swr_index rfl rfl rfl rfl rfl rfl rfl  hwp (row := [dI last]) (by simp) ?_
          (refine sgor_sound [777, 148] 1000 ?_; conv => whnf)
          refine swr_own (i := last.toNat) rfl rfl rfl rfl rfl rfl rfl (Int.toNat_of_nonneg r2).symm (by omega) ?_
          refine swr_loadAt (v := .imm (dInts nl)) rfl rfl rfl rfl rfl (by show (befS c)[0 + last.toNat * 1]? = _; rw [Nat.zero_add, Nat.mul_one]; exact hbg) ?_
          (refine sgor_sound [777] 1000 ?_; conv => whnf)
          refine sw_keep [4, 5, 13, 15, 16, 149, 150, 151] ?_
          have hnl2 : (nl.map fun n => [dI n]).length = nl.length := by simp
          change SW E _ [(4, .ptr 1 0), (5, .osl 2 0 c.arts.length), (13, sI s), (15, .asl 3 1 ((P ++ [last]).map fun n => [dI n])), (16, sI ((left + 1 : Nat) : Int)), (149, .imm (dInts nl)), (150, sI (nl.map fun n => [dI n]).length), (151, sI 0)] [cdxO c, tabO D, .cells (befS c), .tok 1 ((P ++ [last]).map fun n => [dI n]).length]
          have hu4 : ∀ m, [cdxO c, tabO D, SObj.cells (befS c), SObj.tok 1 m].all (SObj.under 4) = true := fun m => by
            have h1 : (tabO D).under 4 = true := imms_under' _ _ _
            have h2 : (SObj.cells (befS c)).under 4 = true := imms_under' _ _ _
            simp only [List.all_cons, List.all_nil, h1, h2, Bool.and_true]
            rfl
          refine sw_each nl (fun i (_ : Unit) => [(4, .ptr 1 0), (5, .osl 2 0 c.arts.length), (13, sI s), (15, .asl 3 1 ((P ++ [last]).map fun n => [dI n])), (16, sI ((left + 1 : Nat) : Int)), (149, .imm (dInts nl)), (150, sI (nl.map fun n => [dI n]).length), (151, sI i)]) (fun _ _ => [cdxO c, tabO D, .cells (befS c), .tok 1 ((P ++ [last]).map fun n => [dI n]).length])
            (fun done _ _ => ∀ x ∈ done, decide (mg D x.toNat s.toNat = ((left + 1 : Nat) : Int)) = false) () (by simp) ?_ ?_
          · rintro _ g1
            have hfn : nl.find? (fun x => decide (mg D x.toNat s.toNat = ((left + 1 : Nat) : Int))) = none := List.find?_eq_none.2 fun x hx => by rw [g1 x hx]; decide
            rw [hfn] at r1
            (refine sgo_sound [777] 1000 ?_; conv => whnf)
            repeat' ((with_reducible first | refine bdec (fun h => ?_) (fun h => ?_) | refine bndec (fun h => ?_) (fun h => ?_) | refine bwtd (fun h => ?_) (fun h => ?_) | refine bwfd (fun h => ?_) (fun h => ?_) | refine bwtn (fun h => ?_) (fun h => ?_) | refine bwfn (fun h => ?_) (fun h => ?_) | refine bwtb (fun h => ?_) (fun h => ?_) | refine bwfb (fun h => ?_) (fun h => ?_) | refine bwt (fun h => ?_) (fun h => ?_) | refine bwf (fun h => ?_) (fun h => ?_) | refine bnt (fun h => ?_) (fun h => ?_) | refine bcase (fun h => ?_) (fun h => ?_)) <;> (conv => whnf))
            all_goals try (exfalso; omega)
            rw [hwl]
            refine sw_keep [4, 5, 13, 15, 16] ?_
            exact ihl (left, P, last) ⟨r1, r2, r3, by simp only; omega⟩ (by simp only; omega)
          · rintro dx y rx _ hdax hdlx g1 ihx
            have hwx := wrap_succ (n := dx.length) (by omega)
            have hry : (nl.map fun n => [dI n])[((dx.length : Nat) : Int).toNat]? = some [dI y] := by simp [hdax]
            have hyr := hnr y (by rw [hdax]; simp)
            (refine sgo_sound [777] 1000 ?_; conv => whnf)
            repeat' ((with_reducible first | refine bdec (fun h => ?_) (fun h => ?_) | refine bndec (fun h => ?_) (fun h => ?_) | refine bwtd (fun h => ?_) (fun h => ?_) | refine bwfd (fun h => ?_) (fun h => ?_) | refine bwtn (fun h => ?_) (fun h => ?_) | refine bwfn (fun h => ?_) (fun h => ?_) | refine bwtb (fun h => ?_) (fun h => ?_) | refine bwfb (fun h => ?_) (fun h => ?_) | refine bwt (fun h => ?_) (fun h => ?_) | refine bwf (fun h => ?_) (fun h => ?_) | refine bnt (fun h => ?_) (fun h => ?_) | refine bcase (fun h => ?_) (fun h => ?_)) <;> (conv => whnf))
            all_goals try (exfalso; omega)
            refine swr_index rfl rfl rfl rfl rfl rfl rfl rfl  hry ?_
            (refine sgor_sound [777, 157] 1000 ?_; conv => whnf)
            refine swr_arr (i := y.toNat) (n := 60) rfl rfl rfl rfl rfl rfl (by rfl) (Int.toNat_of_nonneg hyr.1).symm (by omega) ?_
            (refine sgor_sound [777, 158] 1000 ?_; conv => whnf)
            refine swr_arr (i := s.toNat) (n := 1) rfl rfl rfl rfl rfl rfl (by rfl) (Int.toNat_of_nonneg (by omega)).symm (by omega) ?_
            refine swr_loadAt (v := sI (mg D y.toNat s.toNat)) rfl rfl rfl rfl rfl (tab_load hBD.1 (i := y.toNat) (j := s.toNat) (by omega) (by omega) (by omega)) ?_
            (refine sgor_sound [777] 1000 ?_; conv => whnf)
            by_cases he : mg D y.toNat s.toNat = ((left + 1 : Nat) : Int)
            · have hfs : nl.find? (fun x => decide (mg D x.toNat s.toNat = ((left + 1 : Nat) : Int))) = some y := by
                rw [hdax, List.find?_append, List.find?_eq_none.2 (fun x hx => by rw [g1 x hx]; decide), Option.none_or, List.find?_cons, decide_eq_true he]
              rw [hfs] at r1
              repeat' ((with_reducible first | refine bdec (fun h => ?_) (fun h => ?_) | refine bndec (fun h => ?_) (fun h => ?_) | refine bwtd (fun h => ?_) (fun h => ?_) | refine bwfd (fun h => ?_) (fun h => ?_) | refine bwtn (fun h => ?_) (fun h => ?_) | refine bwfn (fun h => ?_) (fun h => ?_) | refine bwtb (fun h => ?_) (fun h => ?_) | refine bwfb (fun h => ?_) (fun h => ?_) | refine bwt (fun h => ?_) (fun h => ?_) | refine bwf (fun h => ?_) (fun h => ?_) | refine bnt (fun h => ?_) (fun h => ?_) | refine bcase (fun h => ?_) (fun h => ?_)) <;> (conv => whnf))
              all_goals try (exfalso; omega)
              refine swr_append (b := 3) (kk := 1) (rows := (P ++ [last]).map fun n => [dI n]) (new := [[dI y]]) rfl rfl rfl rfl rfl rfl rfl rfl rfl rfl ⟨by decide, rfl⟩ rfl (by rw [hPl]; simp only [List.length_cons, List.length_nil]; omega) ?_
              have e5 : ((P ++ [last]).map fun n => [dI n]) ++ [[dI y]] = ((P ++ [last]) ++ [y]).map fun n => [dI n] := by simp
              have e6 : ((P ++ [last]).map fun n => [dI n]).length + [[dI y]].length = (((P ++ [last]) ++ [y]).map fun n => [dI n]).length := by simp
              refine Eq.mpr (congrArg (fun v => SWr E _ _ _ (tput _ _ (.asl 3 1 v)) _) e5) ?_
              refine Eq.mpr (congrArg (fun v => SWr E _ _ _ _ (List.set _ 3 (.tok 1 v))) e6) ?_
              (refine sgor_sound [777] 1000 ?_; conv => whnf)
              rw [hwl]
              refine sw_keep [4, 5, 13, 15, 16] ?_
              exact ihl (left, P ++ [last], y) ⟨by simp only; rw [r1]; simp, hyr.1, hyr.2, by simp only [List.length_append, List.length_cons, List.length_nil]; omega⟩ (by simp only; omega)
            · repeat' ((with_reducible first | refine bdec (fun h => ?_) (fun h => ?_) | refine bndec (fun h => ?_) (fun h => ?_) | refine bwtd (fun h => ?_) (fun h => ?_) | refine bwfd (fun h => ?_) (fun h => ?_) | refine bwtn (fun h => ?_) (fun h => ?_) | refine bwfn (fun h => ?_) (fun h => ?_) | refine bwtb (fun h => ?_) (fun h => ?_) | refine bwfb (fun h => ?_) (fun h => ?_) | refine bwt (fun h => ?_) (fun h => ?_) | refine bwf (fun h => ?_) (fun h => ?_) | refine bnt (fun h => ?_) (fun h => ?_) | refine bcase (fun h => ?_) (fun h => ?_)) <;> (conv => whnf))
              all_goals try (exfalso; omega)
              rw [hwx]
              refine sw_keep [4, 5, 13, 15, 16, 149, 150, 151] ?_
              refine ihx () fun x hx => ?_
              rcases List.mem_append.1 hx with hx | hx
              · exact g1 x hx
              · simp at hx; rw [hx]; exact decide_eq_false he
      · rintro di xi ri s hdai hdli ⟨s1, s2⟩ ihi
        rw [List.length_range] at hdli
        have hwi := wrap_succ (n := di.length) (by omega)
        have hst : startOf D (di.length + 1) = startStep D s di.length := by rw [startOf, fold_succ, ← startOf, ← s1]
        (refine sgo_sound [777] 1000 ?_; conv => whnf)
        repeat' ((with_reducible first | refine bdec (fun h => ?_) (fun h => ?_) | refine bndec (fun h => ?_) (fun h => ?_) | refine bwtd (fun h => ?_) (fun h => ?_) | refine bwfd (fun h => ?_) (fun h => ?_) | refine bwtn (fun h => ?_) (fun h => ?_) | refine bwfn (fun h => ?_) (fun h => ?_) | refine bwtb (fun h => ?_) (fun h => ?_) | refine bwfb (fun h => ?_) (fun h => ?_) | refine bwt (fun h => ?_) (fun h => ?_) | refine bwf (fun h => ?_) (fun h => ?_) | refine bnt (fun h => ?_) (fun h => ?_) | refine bcase (fun h => ?_) (fun h => ?_)) <;> (conv => whnf))
        all_goals try (exfalso; omega)
        (refine swe_start 0 mixed rfl ?_; refine sgoe_sound [777, 104] (nx := 3) ?_; conv => whnf)
        refine swe_arr (i := di.length) (n := 60) rfl rfl rfl rfl rfl rfl (by rfl) (show 3 ≤ 3 by decide) rfl (by omega) ?_
        refine swe_arr (i := di.length) (n := 1) rfl rfl rfl rfl rfl rfl (by rfl) (show 3 ≤ 3 by decide) rfl (by omega) ?_
        refine swe_loadAt (v := sI (mg D di.length di.length)) rfl rfl rfl (show 3 ≤ 3 by decide) rfl rfl (tab_load hBD.1 (i := di.length) (j := di.length) (by omega) (by omega) (by omega)) ?_
        refine swe_op ⟨sB (decide (mg D di.length di.length < 1000)), [], none⟩ rfl rfl (show 3 ≤ 3 by decide) (fun _ _ _ => rfl) ?_
        by_cases hc : mg D di.length di.length < 1000
        · rw [decide_eq_true hc]
          (refine sgoe_sound [777, 110] (nx := 3) ?_; conv => whnf)
          refine swe_op ⟨sB (decide (s < 0)), [], none⟩ rfl rfl (show 3 ≤ 3 by decide) (fun _ _ _ => rfl) ?_
          by_cases hs0 : s < 0
          · rw [decide_eq_true hs0]
            (refine sgoe_sound [777, 124] (nx := 3) ?_; conv => whnf)
            refine swe_op ⟨sB true, [], none⟩ rfl rfl (show 3 ≤ 3 by decide) (fun _ _ _ => rfl) ?_
            refine swe_nil (by kernel_rfl) ?_
            (refine sgo_sound [777] 1000 ?_; conv => whnf)
            rw [hwi]
            refine sw_keep [1, 3, 4, 5, 13, 98, 99] ?_
            refine ihi (di.length : Int) ⟨?_, ?_⟩
            · rw [List.length_append, List.length_cons, List.length_nil, hst, startStep, if_pos ⟨hc, .inl hs0⟩]
            · omega
          · rw [decide_eq_false hs0]
            (refine sgoe_sound [777, 114] (nx := 3) ?_; conv => whnf)
            refine swe_arr (i := di.length) (n := 60) rfl rfl rfl rfl rfl rfl (by rfl) (show 3 ≤ 3 by decide) rfl (by omega) ?_
            refine swe_arr (i := di.length) (n := 1) rfl rfl rfl rfl rfl rfl (by rfl) (show 3 ≤ 3 by decide) rfl (by omega) ?_
            refine swe_loadAt (v := sI (mg D di.length di.length)) rfl rfl rfl (show 3 ≤ 3 by decide) rfl rfl (tab_load hBD.1 (i := di.length) (j := di.length) (by omega) (by omega) (by omega)) ?_
            (refine sgoe_sound [777, 119] (nx := 3) ?_; conv => whnf)
            refine swe_arr (i := s.toNat) (n := 60) rfl rfl rfl rfl rfl rfl (by rfl) (show 3 ≤ 3 by decide) (Int.toNat_of_nonneg (by omega)).symm (by omega) ?_
            refine swe_arr (i := s.toNat) (n := 1) rfl rfl rfl rfl rfl rfl (by rfl) (show 3 ≤ 3 by decide) (Int.toNat_of_nonneg (by omega)).symm (by omega) ?_
            refine swe_loadAt (v := sI (mg D s.toNat s.toNat)) rfl rfl rfl (show 3 ≤ 3 by decide) rfl rfl (tab_load hBD.1 (i := s.toNat) (j := s.toNat) (by omega) (by omega) (by omega)) ?_
            refine swe_op ⟨sB (decide (mg D di.length di.length < mg D s.toNat s.toNat)), [], none⟩ rfl rfl (show 3 ≤ 3 by decide) (fun _ _ _ => rfl) ?_
            by_cases hlt : mg D di.length di.length < mg D s.toNat s.toNat
            · rw [decide_eq_true hlt]
              (refine sgoe_sound [777, 124] (nx := 3) ?_; conv => whnf)
              refine swe_op ⟨sB true, [], none⟩ rfl rfl (show 3 ≤ 3 by decide) (fun _ _ _ => rfl) ?_
              refine swe_nil (by kernel_rfl) ?_
              (refine sgo_sound [777] 1000 ?_; conv => whnf)
              rw [hwi]
              refine sw_keep [1, 3, 4, 5, 13, 98, 99] ?_
              refine ihi (di.length : Int) ⟨?_, ?_⟩
              · rw [List.length_append, List.length_cons, List.length_nil, hst, startStep, if_pos ⟨hc, .inr hlt⟩]
              · omega
            · rw [decide_eq_false hlt]
              (refine sgoe_sound [777, 124] (nx := 3) ?_; conv => whnf)
              refine swe_op ⟨sB false, [], none⟩ rfl rfl (show 3 ≤ 3 by decide) (fun _ _ _ => rfl) ?_
              refine swe_nil (by kernel_rfl) ?_
              (refine sgo_sound [777] 1000 ?_; conv => whnf)
              rw [hwi]
              refine sw_keep [1, 3, 4, 5, 13, 98, 99] ?_
              refine ihi s ⟨?_, ?_⟩
              · rw [List.length_append, List.length_cons, List.length_nil, hst, startStep, if_neg (fun h => h.2.elim hs0 hlt)]
              · omega
        · rw [decide_eq_false hc]
          (refine sgoe_sound [777, 124] (nx := 3) ?_; conv => whnf)
          refine swe_op ⟨sB false, [], none⟩ rfl rfl (show 3 ≤ 3 by decide) (fun _ _ _ => rfl) ?_
          refine swe_nil (by kernel_rfl) ?_
          (refine sgo_sound [777] 1000 ?_; conv => whnf)
          rw [hwi]
          refine sw_keep [1, 3, 4, 5, 13, 98, 99] ?_
          refine ihi s ⟨?_, ?_⟩
          · rw [List.length_append, List.length_cons, List.length_nil, hst, startStep, if_neg (fun h => hc h.1)]
          · omega
    · rintro dk xk rk _ hdak hdlk _ ihk
      rw [List.length_range] at hdlk
      have hwk := wrap_succ (n := dk.length) (by omega)
      have hB := hBk dk.length
      rw [fold_succ] at ihk
      generalize (List.range dk.length).foldl (fwRound c.arts.length) M1 = Mk at hB ihk ⊢
      rw [fwRound] at ihk
      (refine sgo_sound [777] 1000 ?_; conv => whnf)
      repeat' ((with_reducible first | refine bdec (fun h => ?_) (fun h => ?_) | refine bndec (fun h => ?_) (fun h => ?_) | refine bwtd (fun h => ?_) (fun h => ?_) | refine bwfd (fun h => ?_) (fun h => ?_) | refine bwtn (fun h => ?_) (fun h => ?_) | refine bwfn (fun h => ?_) (fun h => ?_) | refine bwtb (fun h => ?_) (fun h => ?_) | refine bwfb (fun h => ?_) (fun h => ?_) | refine bwt (fun h => ?_) (fun h => ?_) | refine bwf (fun h => ?_) (fun h => ?_) | refine bnt (fun h => ?_) (fun h => ?_) | refine bcase (fun h => ?_) (fun h => ?_)) <;> (conv => whnf))
      all_goals try (exfalso; omega)
      refine sw_keep [1, 3, 4, 5, 10, 62, 63, 66, 67] ?_
      have hBi2 : ∀ i, Bd ((List.range i).foldl (fwRow c.arts.length dk.length) Mk) := fun i => foldl_keeps (Q := Bd) _ (fun _ j _ h => h.row _ _ j) Mk hB
      change SW E _ [(1, .ptr 0 0), (3, sI c.arts.length), (4, .ptr 1 0), (5, .osl 2 0 c.arts.length), (10, sI dk.length), (62, sI c.arts.length), (63, sI dk.length), (66, sI c.arts.length), (67, sI 0)] [cdxO c, tabO (Mk), .cells (befS c)]
      refine sw_each (List.range c.arts.length) (fun i (_ : Unit) => [(1, .ptr 0 0), (3, sI c.arts.length), (4, .ptr 1 0), (5, .osl 2 0 c.arts.length), (10, sI dk.length), (62, sI c.arts.length), (63, sI dk.length), (66, sI c.arts.length), (67, sI i)]) (fun i _ => [cdxO c, tabO ((List.range i).foldl (fwRow c.arts.length dk.length) Mk), .cells (befS c)]) (fun _ _ _ => True) () trivial ?_ ?_
      · rintro _ _
        rw [List.length_range]
        (refine sgo_sound [777] 1000 ?_; conv => whnf)
        repeat' ((with_reducible first | refine bdec (fun h => ?_) (fun h => ?_) | refine bndec (fun h => ?_) (fun h => ?_) | refine bwtd (fun h => ?_) (fun h => ?_) | refine bwfd (fun h => ?_) (fun h => ?_) | refine bwtn (fun h => ?_) (fun h => ?_) | refine bwfn (fun h => ?_) (fun h => ?_) | refine bwtb (fun h => ?_) (fun h => ?_) | refine bwfb (fun h => ?_) (fun h => ?_) | refine bwt (fun h => ?_) (fun h => ?_) | refine bwf (fun h => ?_) (fun h => ?_) | refine bnt (fun h => ?_) (fun h => ?_) | refine bcase (fun h => ?_) (fun h => ?_)) <;> (conv => whnf))
        all_goals try (exfalso; omega)
        rw [hwk]
        refine sw_keep [1, 3, 4, 5, 62, 63] ?_
        exact ihk () trivial
      · rintro di xi ri _ hdai hdli _ ihi
        rw [List.length_range] at hdli
        have hwi := wrap_succ (n := di.length) (by omega)
        have hB := hBi2 di.length
        rw [fold_succ] at ihi
        generalize (List.range di.length).foldl (fwRow c.arts.length dk.length) Mk = Mi at hB ihi ⊢
        rw [fwRow] at ihi
        (refine sgo_sound [777] 1000 ?_; conv => whnf)
        repeat' ((with_reducible first | refine bdec (fun h => ?_) (fun h => ?_) | refine bndec (fun h => ?_) (fun h => ?_) | refine bwtd (fun h => ?_) (fun h => ?_) | refine bwfd (fun h => ?_) (fun h => ?_) | refine bwtn (fun h => ?_) (fun h => ?_) | refine bwfn (fun h => ?_) (fun h => ?_) | refine bwtb (fun h => ?_) (fun h => ?_) | refine bwfb (fun h => ?_) (fun h => ?_) | refine bwt (fun h => ?_) (fun h => ?_) | refine bwf (fun h => ?_) (fun h => ?_) | refine bnt (fun h => ?_) (fun h => ?_) | refine bcase (fun h => ?_) (fun h => ?_)) <;> (conv => whnf))
        all_goals try (exfalso; omega)
        refine sw_keep [1, 3, 4, 5, 10, 11, 62, 63, 66, 67, 70, 71] ?_
        have hBj : ∀ j, Bd ((List.range j).foldl (fwCell dk.length di.length) Mi) := fun j => foldl_keeps (Q := Bd) _ (fun _ j _ h => h.cell _ _ j) Mi hB
        change SW E _ [(1, .ptr 0 0), (3, sI c.arts.length), (4, .ptr 1 0), (5, .osl 2 0 c.arts.length), (10, sI dk.length), (11, sI di.length), (62, sI c.arts.length), (63, sI dk.length), (66, sI c.arts.length), (67, sI di.length), (70, sI c.arts.length), (71, sI 0)] [cdxO c, tabO (Mi), .cells (befS c)]
        refine sw_each (List.range c.arts.length) (fun j (_ : Unit) => [(1, .ptr 0 0), (3, sI c.arts.length), (4, .ptr 1 0), (5, .osl 2 0 c.arts.length), (10, sI dk.length), (11, sI di.length), (62, sI c.arts.length), (63, sI dk.length), (66, sI c.arts.length), (67, sI di.length), (70, sI c.arts.length), (71, sI j)]) (fun j _ => [cdxO c, tabO ((List.range j).foldl (fwCell dk.length di.length) Mi), .cells (befS c)]) (fun _ _ _ => True) () trivial ?_ ?_
        · rintro _ _
          rw [List.length_range]
          (refine sgo_sound [777] 1000 ?_; conv => whnf)
          repeat' ((with_reducible first | refine bdec (fun h => ?_) (fun h => ?_) | refine bndec (fun h => ?_) (fun h => ?_) | refine bwtd (fun h => ?_) (fun h => ?_) | refine bwfd (fun h => ?_) (fun h => ?_) | refine bwtn (fun h => ?_) (fun h => ?_) | refine bwfn (fun h => ?_) (fun h => ?_) | refine bwtb (fun h => ?_) (fun h => ?_) | refine bwfb (fun h => ?_) (fun h => ?_) | refine bwt (fun h => ?_) (fun h => ?_) | refine bwf (fun h => ?_) (fun h => ?_) | refine bnt (fun h => ?_) (fun h => ?_) | refine bcase (fun h => ?_) (fun h => ?_)) <;> (conv => whnf))
          all_goals try (exfalso; omega)
          rw [hwi]
          refine sw_keep [1, 3, 4, 5, 10, 62, 63, 66, 67] ?_
          exact ihi () trivial
        rintro dj xj rj _ hdaj hdlj _ ihj
        rw [List.length_range] at hdlj
        have hwj := wrap_succ (n := dj.length) (by omega)
        have hB := hBj dj.length
        rw [fold_succ] at ihj
        generalize (List.range dj.length).foldl (fwCell dk.length di.length) Mi = M at hB ihj ⊢
        have hmin : (if IntKind.i64.wrap (mg M di.length dk.length + mg M dk.length dj.length) < mg M di.length dj.length then IntKind.i64.wrap (mg M di.length dk.length + mg M dk.length dj.length) else mg M di.length dj.length) = min (mg M di.length dj.length) (mg M di.length dk.length + mg M dk.length dj.length) := by
          have h1 := hB.mg di.length dk.length
          have h2 := hB.mg dk.length dj.length
          rw [wrap64 (c := mg M di.length dk.length + mg M dk.length dj.length) (by omega) (by omega)]
          split <;> omega
        rw [fwCell] at ihj
        (refine sgo_sound [777] 1000 ?_; conv => whnf)
        repeat' ((with_reducible first | refine bdec (fun h => ?_) (fun h => ?_) | refine bndec (fun h => ?_) (fun h => ?_) | refine bwtd (fun h => ?_) (fun h => ?_) | refine bwfd (fun h => ?_) (fun h => ?_) | refine bwtn (fun h => ?_) (fun h => ?_) | refine bwfn (fun h => ?_) (fun h => ?_) | refine bwtb (fun h => ?_) (fun h => ?_) | refine bwfb (fun h => ?_) (fun h => ?_) | refine bwt (fun h => ?_) (fun h => ?_) | refine bwf (fun h => ?_) (fun h => ?_) | refine bnt (fun h => ?_) (fun h => ?_) | refine bcase (fun h => ?_) (fun h => ?_)) <;> (conv => whnf))
        all_goals try (exfalso; omega)
        (refine swe_start 0 mixed rfl ?_; refine sgoe_sound [777, 78] (nx := 3) ?_; conv => whnf)
        refine swe_arr (i := di.length) (n := 60) rfl rfl rfl rfl rfl rfl (by rfl) (show 3 ≤ 3 by decide) rfl (by omega) ?_
        refine swe_arr (i := dj.length) (n := 1) rfl rfl rfl rfl rfl rfl (by rfl) (show 3 ≤ 3 by decide) rfl (by omega) ?_
        refine swe_loadAt (v := sI (mg M di.length dj.length)) rfl rfl rfl (show 3 ≤ 3 by decide) rfl rfl (tab_load hB.1 (i := di.length) (j := dj.length) (by omega) (by omega) (by omega)) ?_
        (refine sgoe_sound [777, 83] (nx := 3) ?_; conv => whnf)
        refine swe_arr (i := di.length) (n := 60) rfl rfl rfl rfl rfl rfl (by rfl) (show 3 ≤ 3 by decide) rfl (by omega) ?_
        refine swe_arr (i := dk.length) (n := 1) rfl rfl rfl rfl rfl rfl (by rfl) (show 3 ≤ 3 by decide) rfl (by omega) ?_
        refine swe_loadAt (v := sI (mg M di.length dk.length)) rfl rfl rfl (show 3 ≤ 3 by decide) rfl rfl (tab_load hB.1 (i := di.length) (j := dk.length) (by omega) (by omega) (by omega)) ?_
        (refine sgoe_sound [777, 88] (nx := 3) ?_; conv => whnf)
        refine swe_arr (i := dk.length) (n := 60) rfl rfl rfl rfl rfl rfl (by rfl) (show 3 ≤ 3 by decide) rfl (by omega) ?_
        refine swe_arr (i := dj.length) (n := 1) rfl rfl rfl rfl rfl rfl (by rfl) (show 3 ≤ 3 by decide) rfl (by omega) ?_
        refine swe_loadAt (v := sI (mg M dk.length dj.length)) rfl rfl rfl (show 3 ≤ 3 by decide) rfl rfl (tab_load hB.1 (i := dk.length) (j := dj.length) (by omega) (by omega) (by omega)) ?_
        (refine sgoe_sound [777, 93] (nx := 3) ?_; conv => whnf)
        refine swe_arr (i := di.length) (n := 60) rfl rfl rfl rfl rfl rfl (by rfl) (show 3 ≤ 3 by decide) rfl (by omega) ?_
        refine swe_arr (i := dj.length) (n := 1) rfl rfl rfl rfl rfl rfl (by rfl) (show 3 ≤ 3 by decide) rfl (by omega) ?_
        refine swe_tabSet (b := 1) (M := M) (p := di.length * 60 + dj.length) (v := if IntKind.i64.wrap (mg M di.length dk.length + mg M dk.length dj.length) < mg M di.length dj.length then IntKind.i64.wrap (mg M di.length dk.length + mg M dk.length dj.length) else mg M di.length dj.length) rfl rfl rfl rfl rfl rfl (show 3 ≤ 3 by decide) rfl (by omega) (by rw [hB.1]; omega) ?_
        rw [hmin]
        refine swe_nil (by kernel_rfl) ?_
        refine Eq.mpr (congrArg (fun h => SW E _ _ h) (show _ = [cdxO c, tabO (M.set (di.length * 60 + dj.length) (min (mg M di.length dj.length) (mg M di.length dk.length + mg M dk.length dj.length))), .cells (befS c)] from rfl)) ?_
        (refine sgo_sound [777] 1000 ?_; conv => whnf)
        rw [hwj]
        refine sw_keep [1, 3, 4, 5, 10, 11, 62, 63, 66, 67, 70, 71] ?_
        exact ihj () trivial
  · rintro done x rest _ hda hdl _ ih
    have hw := wrap_succ (n := done.length) (by omega)
    have hi60 : done.length < 60 := by omega
    have hnp := needsP_spec G c hfit (fun _ => hN) (by omega) (done.length : Int)
    rw [if_pos ⟨by omega, by omega, hz2⟩] at hnp
    have htk : (allNeeds c).take (done.length + 1) = (allNeeds c).take done.length ++ [needsOf c (done.length : Int)] := by rw [List.take_add_one, allNeeds_get (by omega)]; rfl
    have hrp : List.replicate (c.arts.length - done.length) nilV = nilV :: List.replicate (c.arts.length - (done.length + 1)) nilV := by rw [show c.arts.length - done.length = (c.arts.length - (done.length + 1)) + 1 by omega, List.replicate_succ]
    have htl : ((allNeeds c).take done.length).length = done.length := by rw [List.length_take, allNeeds_len]; omega
    have hgd : (allNeeds c).getD done.length [] = needsOf c (done.length : Int) := by rw [List.getD_eq_getElem?_getD, allNeeds_get (by omega)]; rfl
    have hnr : ∀ y ∈ needsOf c (done.length : Int), 0 ≤ y ∧ y < c.arts.length := fun y hy => by
      have := hnd.2 done.length y (by rw [hgd]; exact hy)
      rw [hndl] at this
      exact this
    have hnl := hlen done.length
    rw [fold_succ, htk, List.map_append, List.append_assoc] at ih
    rw [hrp]
    have hBd := hBi done.length
    generalize (allNeeds c).take done.length = A at htl ih ⊢
    generalize hMi : (List.range done.length).foldl (initRow (allNeeds c)) M0 = Mi at hBd ih ⊢
    rw [initRow, hgd, hndl] at ih
    (refine sgo_sound [777] 1000 ?_; conv => whnf)
    repeat' ((with_reducible first | refine bdec (fun h => ?_) (fun h => ?_) | refine bndec (fun h => ?_) (fun h => ?_) | refine bwtd (fun h => ?_) (fun h => ?_) | refine bwfd (fun h => ?_) (fun h => ?_) | refine bwtn (fun h => ?_) (fun h => ?_) | refine bwfn (fun h => ?_) (fun h => ?_) | refine bwtb (fun h => ?_) (fun h => ?_) | refine bwfb (fun h => ?_) (fun h => ?_) | refine bwt (fun h => ?_) (fun h => ?_) | refine bwf (fun h => ?_) (fun h => ?_) | refine bnt (fun h => ?_) (fun h => ?_) | refine bcase (fun h => ?_) (fun h => ?_)) <;> (conv => whnf))
    all_goals try (exfalso; omega)
    refine sw_keep [1, 3, 4, 5, 6, 28, 29, 32, 33] ?_
    change SW E _ [(1, .ptr 0 0), (3, sI c.arts.length), (4, .ptr 1 0), (5, .osl 2 0 c.arts.length), (6, sI done.length), (28, sI c.arts.length), (29, sI done.length), (32, sI c.arts.length), (33, sI 0)] _
    refine sw_each (List.range c.arts.length) (fun j (_ : Unit) => [(1, .ptr 0 0), (3, sI c.arts.length), (4, .ptr 1 0), (5, .osl 2 0 c.arts.length), (6, sI done.length), (28, sI c.arts.length), (29, sI done.length), (32, sI c.arts.length), (33, sI j)]) (fun j _ => [cdxO c, tabO ((List.range j).foldl (fun M j => M.set (done.length * 60 + j) 1000) Mi), .cells (A.map (fun l => SV.imm (dInts l)) ++ nilV :: List.replicate (c.arts.length - (done.length + 1)) nilV)])
      (fun _ _ _ => True) () trivial ?_ ?_
    · rintro _ _
      rw [List.length_range]
      have hBf : Bd ((List.range c.arts.length).foldl (fun M j => M.set (done.length * 60 + j) 1000) Mi) := foldl_keeps (Q := Bd) _ (fun _ _ _ h => h.set _ (by decide)) Mi hBd
      generalize (List.range c.arts.length).foldl (fun M j => M.set (done.length * 60 + j) 1000) Mi = Mf at hBf ih ⊢
      (refine sgo_sound [777] 1000 ?_; conv => whnf)
      repeat' ((with_reducible first | refine bdec (fun h => ?_) (fun h => ?_) | refine bndec (fun h => ?_) (fun h => ?_) | refine bwtd (fun h => ?_) (fun h => ?_) | refine bwfd (fun h => ?_) (fun h => ?_) | refine bwtn (fun h => ?_) (fun h => ?_) | refine bwfn (fun h => ?_) (fun h => ?_) | refine bwtb (fun h => ?_) (fun h => ?_) | refine bwfb (fun h => ?_) (fun h => ?_) | refine bwt (fun h => ?_) (fun h => ?_) | refine bwf (fun h => ?_) (fun h => ?_) | refine bnt (fun h => ?_) (fun h => ?_) | refine bcase (fun h => ?_) (fun h => ?_)) <;> (conv => whnf))
      all_goals try (exfalso; omega)
      refine swr_pure rfl rfl rfl rfl rfl rfl  hnp ?_
      refine swr_own (i := done.length) rfl rfl rfl rfl rfl rfl rfl rfl (by omega) ?_
      refine swr_storeAt (d := A.map (fun l => SV.imm (dInts l))) (zz := nilV) (r := List.replicate (c.arts.length - (done.length + 1)) nilV) (v := .imm (dInts (needsOf c (done.length : Int)))) rfl rfl rfl rfl rfl rfl rfl rfl rfl (by show 0 + done.length * 1 = _; rw [List.length_map, htl]; omega) ?_
      refine Eq.mpr (congrArg (fun h => SWr E _ _ _ _ h) (show _ = [cdxO c, tabO Mf, .cells (A.map (fun l => SV.imm (dInts l)) ++ .imm (dInts (needsOf c (done.length : Int))) :: List.replicate (c.arts.length - (done.length + 1)) nilV)] from rfl)) ?_
      generalize needsOf c (done.length : Int) = nd at hnr hnl ih ⊢
      (refine sgor_sound [777] 1000 ?_; conv => whnf)
      refine swr_own (i := done.length) rfl rfl rfl rfl rfl rfl rfl rfl (by omega) ?_
      refine swr_loadAt (v := .imm (dInts nd)) rfl rfl rfl rfl rfl (by show (A.map (fun l => SV.imm (dInts l)) ++ SV.imm (dInts nd) :: List.replicate (c.arts.length - (done.length + 1)) nilV)[0 + done.length * 1]? = _; rw [List.getElem?_append_right (by rw [List.length_map, htl]; omega), List.length_map, htl, show 0 + done.length * 1 - done.length = 0 by omega]; rfl) ?_
      (refine sgor_sound [777] 1000 ?_; conv => whnf)
      refine sw_keep [1, 3, 4, 5, 6, 28, 29, 50, 51, 52] ?_
      have hndl2 : (nd.map fun n => [dI n]).length = nd.length := by simp
      change SW E _ [(1, .ptr 0 0), (3, sI c.arts.length), (4, .ptr 1 0), (5, .osl 2 0 c.arts.length), (6, sI done.length), (28, sI c.arts.length), (29, sI done.length), (50, .imm (dInts nd)), (51, sI (nd.map fun n => [dI n]).length), (52, sI 0)] _
      refine sw_each nd (fun j (_ : Unit) => [(1, .ptr 0 0), (3, sI c.arts.length), (4, .ptr 1 0), (5, .osl 2 0 c.arts.length), (6, sI done.length), (28, sI c.arts.length), (29, sI done.length), (50, .imm (dInts nd)), (51, sI (nd.map fun n => [dI n]).length), (52, sI j)]) (fun j _ => [cdxO c, tabO ((nd.take j).foldl (fun M x => M.set (done.length * 60 + x.toNat) 1) Mf), .cells (A.map (fun l => SV.imm (dInts l)) ++ .imm (dInts nd) :: List.replicate (c.arts.length - (done.length + 1)) nilV)])
        (fun _ _ _ => True) () trivial ?_ ?_
      · rintro _ _
        rw [List.take_length]
        (refine sgo_sound [777] 1000 ?_; conv => whnf)
        repeat' ((with_reducible first | refine bdec (fun h => ?_) (fun h => ?_) | refine bndec (fun h => ?_) (fun h => ?_) | refine bwtd (fun h => ?_) (fun h => ?_) | refine bwfd (fun h => ?_) (fun h => ?_) | refine bwtn (fun h => ?_) (fun h => ?_) | refine bwfn (fun h => ?_) (fun h => ?_) | refine bwtb (fun h => ?_) (fun h => ?_) | refine bwfb (fun h => ?_) (fun h => ?_) | refine bwt (fun h => ?_) (fun h => ?_) | refine bwf (fun h => ?_) (fun h => ?_) | refine bnt (fun h => ?_) (fun h => ?_) | refine bcase (fun h => ?_) (fun h => ?_)) <;> (conv => whnf))
        all_goals try (exfalso; omega)
        rw [hw]
        refine sw_keep [1, 3, 4, 5, 28, 29] ?_
        exact ih () trivial
      · rintro dx y rx _ hdax hdlx _ ihx
        have hwx := wrap_succ (n := dx.length) (by omega)
        have hry : (nd.map fun n => [dI n])[((dx.length : Nat) : Int).toNat]? = some [dI y] := by simp [hdax]
        have hyr := hnr y (by rw [hdax]; simp)
        have htk2 : nd.take (dx.length + 1) = nd.take dx.length ++ [y] := by rw [List.take_add_one]; simp [hdax]
        rw [htk2, List.foldl_append] at ihx
        have hBx : Bd ((nd.take dx.length).foldl (fun M x => M.set (done.length * 60 + x.toNat) 1) Mf) := foldl_keeps (Q := Bd) _ (fun _ _ _ h => h.set _ (by decide)) Mf hBf
        generalize (nd.take dx.length).foldl (fun M x => M.set (done.length * 60 + x.toNat) 1) Mf = Mx at hBx ihx ⊢
        (refine sgo_sound [777, 53] 1000 ?_; conv => whnf)
        (refine sgor_sound [777] 1000 ?_; conv => whnf)
        repeat' ((with_reducible first | refine bdec (fun h => ?_) (fun h => ?_) | refine bndec (fun h => ?_) (fun h => ?_) | refine bwtd (fun h => ?_) (fun h => ?_) | refine bwfd (fun h => ?_) (fun h => ?_) | refine bwtn (fun h => ?_) (fun h => ?_) | refine bwfn (fun h => ?_) (fun h => ?_) | refine bwtb (fun h => ?_) (fun h => ?_) | refine bwfb (fun h => ?_) (fun h => ?_) | refine bwt (fun h => ?_) (fun h => ?_) | refine bwf (fun h => ?_) (fun h => ?_) | refine bnt (fun h => ?_) (fun h => ?_) | refine bcase (fun h => ?_) (fun h => ?_)) <;> (conv => whnf))
        all_goals try (exfalso; omega)
        refine swr_index rfl rfl rfl rfl rfl rfl rfl rfl  hry ?_
        (refine sgor_sound [777, 58] 1000 ?_; conv => whnf)
        refine swr_arr (i := done.length) (n := 60) rfl rfl rfl rfl rfl rfl (by rfl) rfl (by omega) ?_
        (refine sgor_sound [777, 59] 1000 ?_; conv => whnf)
        refine swr_arr (i := y.toNat) (n := 1) rfl rfl rfl rfl rfl rfl (by rfl) (Int.toNat_of_nonneg hyr.1).symm (by omega) ?_
        refine swr_tabSet (b := 1) (M := Mx) (p := done.length * 60 + y.toNat) (v := 1) rfl rfl rfl rfl rfl rfl rfl (by omega) (by rw [hBx.1]; omega) ?_
        (refine sgor_sound [777] 1000 ?_; conv => whnf)
        rw [hwx]
        refine sw_keep [1, 3, 4, 5, 6, 28, 29, 50, 51, 52] ?_
        exact ihx () trivial
    · rintro dj xj rj _ hdaj hdlj _ ihj
      rw [List.length_range] at hdlj
      have hwj := wrap_succ (n := dj.length) (by omega)
      have hBf : Bd ((List.range dj.length).foldl (fun M j => M.set (done.length * 60 + j) 1000) Mi) := foldl_keeps (Q := Bd) _ (fun _ _ _ h => h.set _ (by decide)) Mi hBd
      rw [fold_succ] at ihj
      generalize (List.range dj.length).foldl (fun M j => M.set (done.length * 60 + j) 1000) Mi = Mf at hBf ihj ⊢
      (refine sgo_sound [777, 38] 1000 ?_; conv => whnf)
      repeat' ((with_reducible first | refine bdec (fun h => ?_) (fun h => ?_) | refine bndec (fun h => ?_) (fun h => ?_) | refine bwtd (fun h => ?_) (fun h => ?_) | refine bwfd (fun h => ?_) (fun h => ?_) | refine bwtn (fun h => ?_) (fun h => ?_) | refine bwfn (fun h => ?_) (fun h => ?_) | refine bwtb (fun h => ?_) (fun h => ?_) | refine bwfb (fun h => ?_) (fun h => ?_) | refine bwt (fun h => ?_) (fun h => ?_) | refine bwf (fun h => ?_) (fun h => ?_) | refine bnt (fun h => ?_) (fun h => ?_) | refine bcase (fun h => ?_) (fun h => ?_)) <;> (conv => whnf))
      all_goals try (exfalso; omega)
      refine swr_arr (i := done.length) (n := 60) rfl rfl rfl rfl rfl rfl (by rfl) rfl (by omega) ?_
      (refine sgor_sound [777, 39] 1000 ?_; conv => whnf)
      refine swr_arr (i := dj.length) (n := 1) rfl rfl rfl rfl rfl rfl (by rfl) rfl (by omega) ?_
      refine swr_tabSet (b := 1) (M := Mf) (p := done.length * 60 + dj.length) (v := 1000) rfl rfl rfl rfl rfl rfl rfl (by omega) (by rw [hBf.1]; omega) ?_
      (refine sgor_sound [777] 1000 ?_; conv => whnf)
      rw [hwj]
      refine sw_keep [1, 3, 4, 5, 6, 28, 29, 32, 33] ?_
      exact ihj () trivial
theorem ringP_spec (c : Codex) (hfit : Codex.fit c) (hN : codexOK c = true → NeedC c) (h60 : codexOK c = true → c.arts.length ≤ 60) (hnd : codexOK c = true → NdOK (allNeeds c)) (hlen : ∀ j : Nat, (needsOf c j).length ≤ 1000000) (hz : c.arts.length ≤ 1000000) :
    SPure Tryz.prog G 19 [c.sv] (.imm (dInts (if codexOK c = true then ringOf (allNeeds c) else []))) := by
  have h := ringP0 G c hfit hN h60 hnd hlen hz
  by_cases h1 : codexOK c = true
  · rw [if_pos h1]
    by_cases h2 : ringOf (allNeeds c) = []
    · rw [if_neg (fun h => h.2 h2)] at h
      rw [h2]
      exact spure_is h (SV.Is.nil 1)
    · rw [if_pos ⟨h1, h2⟩] at h
      exact h
  · rw [if_neg (fun h => h1 h.1)] at h
    rw [if_neg h1]
    exact spure_is h (SV.Is.nil 1)
end Go.Proofs.YtblpjknmhajcgaaGreatDoor

/- What a valid codex gives the search (plain). -/
namespace Go.Proofs.YtblpjknmhajcgaaGreatDoor
open Go Go.Sh
set_option maxRecDepth 10000
set_option maxHeartbeats 1000000

def NumsOK (m : List (Int × Int)) : Prop := ∀ k v, alook k m = some v → 1 ≤ k ∧ k ≤ 1000000
theorem node_leaf {c : Codex} {m : List (Int × Int)} {op n : Int} {u : ByteArray} {den : Int} {ps : List Piece} {ks : List Ex} (h : nodeOK c m op n u den ps ks = true) (hop : 1 ≤ op ∧ op ≤ 4) : ks = [] ∧ leafOK c.facts c.lines m op n u = true := by
  unfold nodeOK at h
  rw [if_neg (by omega)] at h
  split at h
  · cases h
  · simp only [Bool.and_eq_true, decide_eq_true_eq] at h
    exact ⟨List.length_eq_zero_iff.1 h.1, h.2⟩
theorem node_op {c : Codex} {m : List (Int × Int)} {op n : Int} {u : ByteArray} {den : Int} {ps : List Piece} {ks : List Ex} (h : nodeOK c m op n u den ps ks = true) (hop : 5 ≤ op ∧ op ≤ 17) :
    n = 0 ∧ ∃ f l, ks.head? = some f ∧ ks.getLast? = some l ∧ opOK op u f l ks.length (sameU ks) = true := by
  unfold nodeOK at h
  rw [if_neg (by omega)] at h
  split at h
  · cases h
  · rw [if_neg (by omega)] at h
    simp only [Bool.and_eq_true, decide_eq_true_eq] at h
    refine ⟨h.1, ?_⟩
    have h2 := h.2
    cases hf : ks.head? with
    | none => rw [hf] at h2; cases h2
    | some f =>
      cases hl : ks.getLast? with
      | none => rw [hf, hl] at h2; cases h2
      | some l => rw [hf, hl] at h2; exact ⟨f, l, rfl, rfl, h2⟩
theorem node_n {c : Codex} {m : List (Int × Int)} (hm : NumsOK m) (hF : c.facts.length ≤ 32) {op n : Int} {u : ByteArray} {den : Int} {ps : List Piece} {ks : List Ex} (h : nodeOK c m op n u den ps ks = true) : -1000000000000 ≤ n ∧ n ≤ 1000000000000 := by
  by_cases h1 : 1 ≤ op ∧ op ≤ 4
  · have hl := (node_leaf h h1).2
    unfold leafOK at hl
    split at hl
    · simp only [Bool.and_eq_true, decide_eq_true_eq] at hl; omega
    · split at hl
      · simp only [Bool.and_eq_true, decide_eq_true_eq] at hl; omega
      · split at hl
        · cases hk : alook n m with
          | none => rw [hk] at hl; cases hl
          | some v => have := hm n v hk; omega
        · simp only [Bool.and_eq_true, decide_eq_true_eq] at hl; omega
  · unfold nodeOK at h
    split at h
    · simp only [Bool.and_eq_true, decide_eq_true_eq] at h; omega
    · split at h
      · cases h
      · simp only [Bool.and_eq_true, decide_eq_true_eq] at h; omega
theorem node_fact {c : Codex} {m : List (Int × Int)} {op n : Int} {u : ByteArray} {den : Int} {ps : List Piece} {ks : List Ex} (h : nodeOK c m op n u den ps ks = true) (h2 : op = 2) : 0 ≤ n ∧ n < c.facts.length := by
  have hl := (node_leaf h (by omega)).2
  unfold leafOK at hl
  rw [if_neg (by omega), if_pos h2] at hl
  simp only [Bool.and_eq_true, decide_eq_true_eq] at hl
  exact hl.1
theorem node_date {c : Codex} {m : List (Int × Int)} {op n : Int} {u : ByteArray} {den : Int} {ps : List Piece} {ks : List Ex} (h : nodeOK c m op n u den ps ks = true) (h2 : op = 4) : 1 ≤ n ∧ n ≤ 4 := by
  have hl := (node_leaf h (by omega)).2
  unfold leafOK at hl
  rw [if_neg (by omega), if_neg (by omega), if_neg (by omega)] at hl
  simp only [Bool.and_eq_true, decide_eq_true_eq] at hl
  exact hl.1
theorem node_one {c : Codex} {m : List (Int × Int)} {op n : Int} {u : ByteArray} {den : Int} {ps : List Piece} {ks : List Ex} (h : nodeOK c m op n u den ps ks = true) (h2 : op = 5) : ∃ k, ks = [k] := by
  obtain ⟨_, f, l, _, _, g⟩ := node_op h (by omega)
  unfold opOK at g
  rw [if_pos h2] at g
  simp only [Bool.and_eq_true, decide_eq_true_eq] at g
  exact List.length_eq_one_iff.1 (by have := g.1.1; omega)
theorem len_two {ks : List Ex} (h : (ks.length : Int) = 2) : ∃ k l, ks = [k, l] := by
  match ks, h with
  | [k, l], _ => exact ⟨k, l, rfl⟩
theorem node_two {c : Codex} {m : List (Int × Int)} {op n : Int} {u : ByteArray} {den : Int} {ps : List Piece} {ks : List Ex} (h : nodeOK c m op n u den ps ks = true) (h2 : 6 ≤ op ∧ op ≤ 10) : ∃ k l, ks = [k, l] := by
  obtain ⟨_, f, l, _, _, g⟩ := node_op h (by omega)
  unfold opOK at g
  rw [if_neg (by omega)] at g
  split at g
  · simp only [Bool.and_eq_true, decide_eq_true_eq] at g
    exact len_two (by omega)
  · split at g
    · simp only [Bool.and_eq_true, decide_eq_true_eq] at g
      exact len_two (by omega)
    · rw [if_pos (by omega)] at g
      simp only [Bool.and_eq_true, decide_eq_true_eq] at g
      exact len_two (by omega)
theorem kidOK_of {c : Codex} {m : List (Int × Int)} (hm : NumsOK m) (hF : c.facts.length ≤ 12) {k : Ex} (h : allN c m k) : KidOK k := by
  obtain ⟨op, n, u, den, ps, ks⟩ := k
  unfold allN at h
  refine ⟨fun h2 => ?_, fun h2 => ?_, ?_⟩
  · have := node_fact h.1 h2
    show 0 ≤ n ∧ n < 12
    omega
  · have := node_date h.1 h2
    show 0 ≤ n ∧ n ≤ 4
    omega
  · exact node_n hm (by omega) h.1
theorem fits_of {c : Codex} {m : List (Int × Int)} (hm : NumsOK m) (hF : c.facts.length ≤ 12) : ∀ (N : Nat) (e : Ex), SizeOf.sizeOf e < N → allN c m e → fits e
  | 0, _, h, _ => by omega
  | N + 1, .mk op n u den ps ks, hN, h => by
    simp only [Ex.mk.sizeOf_spec] at hN
    unfold allN at h
    unfold fits
    refine ⟨fun h2 => ?_, fun h2 => ?_, ?_⟩
    · have := node_fact h.1 h2; omega
    · obtain ⟨k, l, rfl⟩ := node_two h.1 (by omega)
      exact ⟨k, l, rfl, kidOK_of hm hF (allNs_mem h.2 k (by simp)), kidOK_of hm hF (allNs_mem h.2 l (by simp))⟩
    · split
      · rename_i h5
        obtain ⟨k, rfl⟩ := node_one h.1 h5
        simp only [List.cons.sizeOf_spec] at hN
        exact ⟨rfl, fits_of hm hF N k (by omega) (allNs_mem h.2 k (by simp))⟩
      · split
        · rename_i h6
          obtain ⟨k, l, rfl⟩ := node_two h.1 (by omega)
          simp only [List.cons.sizeOf_spec] at hN
          exact ⟨rfl, fits_of hm hF N k (by omega) (allNs_mem h.2 k (by simp)), fits_of hm hF N l (by omega) (allNs_mem h.2 l (by simp))⟩
        · trivial
theorem cmpsN_le : ∀ (N : Nat) (e : Ex), SizeOf.sizeOf e < N → cmpsN e ≤ exSize e ∧ leafN e ≤ exSize e
  | 0, _, h => by omega
  | N + 1, .mk op n u den ps ks, hN => by
    simp only [Ex.mk.sizeOf_spec] at hN
    rw [exSize]
    unfold cmpsN leafN
    match ks, hN with
    | [], _ => simp only [exsSize]; split <;> split <;> (try split) <;> omega
    | [k], hN =>
      simp only [List.cons.sizeOf_spec] at hN
      have := cmpsN_le N k (by omega)
      simp only [exsSize]
      split <;> split <;> (try split) <;> omega
    | k :: l :: r, hN =>
      simp only [List.cons.sizeOf_spec] at hN
      have h1 := cmpsN_le N k (by omega)
      have h2 := cmpsN_le N l (by omega)
      rw [exsSize, exsSize]
      simp only
      split <;> split <;> (try split) <;> omega
theorem fitC_of {c : Codex} (h : codexOK c = true) (hF : c.facts.length ≤ 12) (hw : ∀ a ∈ c.arts, a.when_.length ≤ 40) : FitC c := by
  obtain ⟨_, h2, m, hm, h4⟩ := codexOK_arts' h
  refine ⟨fun a ha e he => fits_of hm hF _ e (Nat.lt_succ_self _) ((h4 a ha).2.2.1 e he).1, hw, fun a ha e he => ?_, fun a ha e he => ?_⟩
  · have h1 := ((h4 a ha).2.2.1 e he).2
    have := (cmpsN_le _ e (Nat.lt_succ_self _)).1
    omega
  · have h1 := ((h4 a ha).2.2.1 e he).2
    have := (cmpsN_le _ e (Nat.lt_succ_self _)).2
    omega
theorem compactUpTo_inc (d : Array Int) (hs : ∀ i j, i ≤ j → j < d.size → d[i]! ≤ d[j]!) : ∀ m, m ≤ d.size → (Go.Lib.compactUpTo d m).Pairwise (· < ·) ∧ ∀ x ∈ Go.Lib.compactUpTo d m, x ≤ d[m - 1]!
  | 0, _ => by simp [Go.Lib.compactUpTo]
  | m + 1, hm => by
    obtain ⟨h1, h2⟩ := compactUpTo_inc d hs m (by omega)
    rw [Go.Lib.compactUpTo_succ]
    have hle : d[m - 1]! ≤ d[m]! := hs _ _ (by omega) (by omega)
    cases hk : Go.Lib.keeps d m with
    | false =>
      simp only [Bool.false_eq_true, if_false, List.append_nil]
      exact ⟨h1, fun x hx => by have := h2 x hx; rw [Nat.add_sub_cancel]; omega⟩
    | true =>
      simp only [if_true]
      have hlt : ∀ x ∈ Go.Lib.compactUpTo d m, x < d[m]! := fun x hx => by
        rcases Nat.eq_zero_or_pos m with h0 | h0
        · subst h0; simp [Go.Lib.compactUpTo] at hx
        · have hne : d[m]! ≠ d[m - 1]! := fun e => by
            rw [Go.Lib.keeps_neg h0 e] at hk; cases hk
          have := h2 x hx
          omega
      refine ⟨?_, fun x hx => ?_⟩
      · rw [List.pairwise_append]
        exact ⟨h1, by simp, fun a ha b hb => by simp at hb; rw [hb]; exact hlt a ha⟩
      · rw [Nat.add_sub_cancel]
        rcases List.mem_append.1 hx with hx | hx
        · have := hlt x hx; omega
        · simp at hx; omega
theorem versOf_inc (vs : List Int) : (versOf vs).Pairwise (· < ·) := by
  have hs : (sortN vs).Pairwise (· ≤ ·) := by
    have := List.pairwise_mergeSort (le := fun x y : Int => decide (x ≤ y)) (fun a b c h1 h2 => by simp at *; omega) (fun a b => by simp; omega) vs
    exact this.imp fun h => by simpa using h
  have hi : ∀ i j, i ≤ j → j < (sortN vs).toArray.size → (sortN vs).toArray[i]! ≤ (sortN vs).toArray[j]! := fun i j hij hj => by
    simp only [List.size_toArray] at hj
    have e1 : (sortN vs).toArray[i]! = (sortN vs)[i]'(by omega) := by simp; rw [List.getElem?_eq_getElem (show i < (sortN vs).length by omega)]; rfl
    have e2 : (sortN vs).toArray[j]! = (sortN vs)[j] := by simp; rw [List.getElem?_eq_getElem hj]; rfl
    rw [e1, e2]
    rcases Nat.lt_or_ge i j with h | h
    · exact List.pairwise_iff_getElem.1 hs i j (by omega) hj h
    · have : i = j := by omega
      subst this; exact Int.le_refl _
  exact (compactUpTo_inc _ hi _ (Nat.le_refl _)).1
theorem versOf_len {vs : List Int} {n : Nat} (h : ∀ v ∈ vs, 0 ≤ v ∧ v < n) : (versOf vs).length ≤ n := by
  have hm : ∀ v ∈ versOf vs, 0 ≤ v ∧ v < n := fun v hv => h v ((List.mergeSort_perm vs fun x y => decide (x ≤ y)).mem_iff.1 (compact_mem hv))
  have hp := versOf_inc vs
  have hnd : ((versOf vs).map Int.toNat).Nodup := by
    rw [List.nodup_iff_pairwise_ne, List.pairwise_map]
    refine (List.Pairwise.and_mem.1 hp).imp ?_
    rintro a b ⟨ha, hb, hab⟩ e
    have := hm a ha
    have := hm b hb
    omega
  have := nodup_le (n := n) hnd (fun x hx => by
    obtain ⟨v, hv, rfl⟩ := List.mem_map.1 hx
    have := hm v hv
    omega)
  rwa [List.length_map] at this
/-- needs are versions -/
theorem ndOK_of {c : Codex} (h : c.arts.length ≤ 60) : NdOK (allNeeds c) := by
  refine ⟨by rw [allNeeds_len]; exact h, fun i x hx => ?_⟩
  rw [allNeeds_len]
  rw [List.getD_eq_getElem?_getD] at hx
  by_cases hi : i < c.arts.length
  · rw [allNeeds_get hi] at hx
    have hx : x ∈ needsOf c (i : Int) := hx
    obtain ⟨a, ha⟩ : ∃ a, c.arts[i]? = some a := ⟨_, List.getElem?_eq_getElem hi⟩
    obtain ⟨b, h1, _⟩ := (needsOf_mem (artAt_of ha) x).1 hx
    obtain ⟨j, rfl, hj⟩ := artAt_nat h1
    have := lt_of_getElem? hj
    omega
  · rw [List.getElem?_eq_none (by rw [allNeeds_len]; omega)] at hx
    cases hx
theorem needGo_len (c : Codex) (names : List Int) (v : Int) : ∀ (l : List Article) (i : Nat), (needGo c names v l i).length ≤ l.length
  | [], i => by simp [needGo]
  | a :: r, i => by
    have := needGo_len c names v r (i + 1)
    rw [needGo, List.length_append]
    simp only [List.length_cons]
    split <;> simp <;> omega
theorem needsOf_len (c : Codex) (v : Int) : (needsOf c v).length ≤ c.arts.length := by
  unfold needsOf
  split
  · exact needGo_len _ _ _ _ _
  · simp
end Go.Proofs.YtblpjknmhajcgaaGreatDoor

/- What the search of a valid codex is (plain). -/
namespace Go.Proofs.YtblpjknmhajcgaaGreatDoor
open Go Go.Sh
set_option maxRecDepth 10000
set_option maxHeartbeats 1000000

theorem Cond.cov_mono {A B : List Cond} (h : ∀ x ∈ A, x ∈ B) : ∀ c : Cond, c.cov A → c.cov B
  | .none, _ => trivial
  | .plain _, hc => hc
  | .cmp _ _ _, hc => fun hd => ⟨h _ (hc hd).1, (hc hd).2⟩
  | .neg c, hc => Cond.cov_mono h c hc
  | .conn _ l r, hc => ⟨Cond.cov_mono h l hc.1, Cond.cov_mono h r hc.2⟩
abbrev hasF (q : Sr) (f : Int) : Prop := (alook f q.cands).isSome = true
structure CGood (nf : Nat) (q : Sr) (x : Cond) : Prop where
  ok : x.ok nf
  good : x.good
  inF : x.inF (hasF q)
  cov : x.cov q.atoms
structure Grow (q q' : Sr) : Prop where
  has : ∀ f, hasF q f → hasF q' f
  atoms : ∀ x ∈ q.atoms, x ∈ q'.atoms
theorem Grow.refl (q : Sr) : Grow q q := ⟨fun _ h => h, fun _ h => h⟩
theorem Grow.trans {a b c : Sr} (h : Grow a b) (h' : Grow b c) : Grow a c := ⟨fun f hf => h'.has f (h.has f hf), fun x hx => h'.atoms x (h.atoms x hx)⟩
theorem CGood.grow {nf : Nat} {q q' : Sr} {x : Cond} (h : CGood nf q x) (hg : Grow q q') : CGood nf q' x :=
  ⟨h.ok, h.good, Cond.inF_mono (fun f hf => hg.has f hf) x h.inF, Cond.cov_mono hg.atoms x h.cov⟩
/-- the search while it is made -/
structure CInv (nf : Nat) (q : Sr) : Prop where
  rng : ∀ e ∈ q.cands, 0 ≤ e.1 ∧ e.1 < nf
  nd : (q.cands.map (·.1)).Nodup
  ndv : ∀ e ∈ q.cands, e.2.Nodup
  atoms : ∀ x ∈ q.atoms, x.ok nf ∧ ∃ op l r, x = .cmp op l r
theorem setAdd_nodup : ∀ (vs vals : List Int), vals.Nodup → (vs.foldl setAdd vals).Nodup
  | [], _, h => h
  | v :: vs, vals, h => by
    refine setAdd_nodup vs _ ?_
    unfold setAdd
    split
    · split
      · exact h
      · rename_i hn
        rw [List.nodup_append]
        exact ⟨h, by simp, fun a ha b hb => by simp at hb; subst hb; rintro rfl; exact hn ha⟩
    · exact h
theorem CInv.cand {nf : Nat} {q : Sr} (h : CInv nf q) {f : Int} (hf : 0 ≤ f ∧ f < nf) (vs : List Int) : CInv nf (q.cand f vs) ∧ Grow q (q.cand f vs) ∧ hasF (q.cand f vs) f := by
  have hlk : ∀ g, alook g (q.cand f vs).cands = if g == f then some (vs.foldl setAdd ((alook f q.cands).getD [])) else alook g q.cands := fun g => alook_ains g f _ _
  refine ⟨⟨fun e he => ?_, ?_, fun e he => ?_, h.atoms⟩, ⟨fun g hg => ?_, fun x hx => hx⟩, ?_⟩
  · rcases mem_ains he with rfl | he
    · exact hf
    · exact h.rng e he
  · show ((ains f _ q.cands).map (·.1)).Nodup
    rw [keys_ains]
    split
    · exact h.nd
    · rename_i hn
      rw [List.nodup_append]
      exact ⟨h.nd, by simp, fun a ha b hb => by simp at hb; subst hb; rintro rfl; exact hn ha⟩
  · rcases mem_ains he with rfl | he
    · refine setAdd_nodup _ _ ?_
      cases hl : alook f q.cands with
      | none => simp
      | some w => exact h.ndv _ (alook_some hl)
    · exact h.ndv e he
  · show (alook g (q.cand f vs).cands).isSome = true
    rw [hlk]
    split
    · rfl
    · exact hg
  · show (alook f (q.cand f vs).cands).isSome = true
    rw [hlk]
    simp
theorem CInv.date {nf : Nat} {q : Sr} (h : CInv nf q) (i : Int) : CInv nf (q.date i) := ⟨h.rng, h.nd, h.ndv, h.atoms⟩
theorem CInv.cmpCand {c : Codex} {m : List (Int × Int)} {nf : Nat} (hnf : c.facts.length = nf) {q : Sr} (h : CInv nf q) {f : Ex} (g : Ex) (hf : allN c m f) : CInv nf (cmpCand q f g) ∧ Grow q (cmpCand q f g) ∧ (f.op = 2 → hasF (cmpCand q f g) f.n) := by
  unfold Go.Proofs.YtblpjknmhajcgaaGreatDoor.cmpCand
  split
  · rename_i h2
    exact ⟨h, .refl _, fun e => absurd e h2⟩
  · rename_i h2
    have hr : 0 ≤ f.n ∧ f.n < nf := by
      obtain ⟨op, n, u, den, ps, ks⟩ := f
      unfold allN at hf
      have := node_fact hf.1 (by simpa [Ex.op] using h2)
      rw [hnf] at this
      exact this
    split
    · obtain ⟨a, b, d⟩ := h.cand hr [0, 1]; exact ⟨a, b, fun _ => d⟩
    · obtain ⟨a, b, d⟩ := h.cand hr [0, g.n, g.n + 1]; exact ⟨a, b, fun _ => d⟩
theorem scan_inv {nf : Nat} : ∀ (ks : List Ex) (q : Sr) (n : Int), CInv nf q → CInv nf (cmpScan ks q n).2.1 ∧ Grow q (cmpScan ks q n).2.1
  | [], q, _, h => ⟨h, .refl q⟩
  | k :: r, q, n, h => by
    simp only [cmpScan]
    split
    · exact scan_inv r q (n + 1) h
    · split
      · obtain ⟨a, b⟩ := scan_inv r (q.date k.n) n (h.date _)
        exact ⟨a, ⟨fun f hf => b.has f hf, fun x hx => b.atoms x hx⟩⟩
      · split
        · exact scan_inv r q n h
        · exact ⟨h, .refl q⟩
theorem scan_two {l r : Ex} {q s1 : Sr} {n : Int} (h : cmpScan [l, r] q 0 = (true, s1, n)) (hn : n ≠ 0) : (l.op = 1 ∨ r.op = 1) ∧ (l.op = 1 ∨ l.op = 2 ∨ l.op = 4) ∧ (r.op = 1 ∨ r.op = 2 ∨ r.op = 4) := by
  simp only [cmpScan] at h
  by_cases l1 : l.op = 1
  · by_cases r1 : r.op = 1
    · exact ⟨.inl l1, .inl l1, .inl r1⟩
    · rw [if_pos l1, if_neg r1] at h
      by_cases r4 : r.op = 4
      · exact ⟨.inl l1, .inl l1, .inr (.inr r4)⟩
      · rw [if_neg r4] at h
        by_cases r2 : r.op = 2
        · exact ⟨.inl l1, .inl l1, .inr (.inl r2)⟩
        · rw [if_neg r2] at h; cases h
  · rw [if_neg l1] at h
    by_cases l4 : l.op = 4
    · rw [if_pos l4] at h
      by_cases r1 : r.op = 1
      · exact ⟨.inr r1, .inr (.inr l4), .inl r1⟩
      · rw [if_neg r1] at h
        by_cases r4 : r.op = 4
        · rw [if_pos r4] at h; cases h; exact absurd rfl hn
        · rw [if_neg r4] at h
          by_cases r2 : r.op = 2
          · rw [if_pos r2] at h; cases h; exact absurd rfl hn
          · rw [if_neg r2] at h; cases h
    · rw [if_neg l4] at h
      by_cases l2 : l.op = 2
      · rw [if_pos l2] at h
        by_cases r1 : r.op = 1
        · exact ⟨.inr r1, .inr (.inl l2), .inl r1⟩
        · rw [if_neg r1] at h
          by_cases r4 : r.op = 4
          · rw [if_pos r4] at h; cases h; exact absurd rfl hn
          · rw [if_neg r4] at h
            by_cases r2 : r.op = 2
            · rw [if_pos r2] at h; cases h; exact absurd rfl hn
            · rw [if_neg r2] at h; cases h
      · rw [if_neg l2] at h; cases h
theorem opd_ok {c : Codex} {m : List (Int × Int)} {nf : Nat} (hnf : c.facts.length = nf) {k : Ex} (h : allN c m k) : Opd.ok nf ⟨k.op, k.n⟩ := by
  obtain ⟨op, n, u, den, ps, ks⟩ := k
  unfold allN at h
  refine ⟨fun h2 => ?_, fun h4 => ?_⟩
  · have := node_fact h.1 h2; rw [hnf] at this; exact this
  · have := node_date h.1 h4; show 0 ≤ n ∧ n ≤ 4; omega
theorem cmp_inv {c : Codex} {m : List (Int × Int)} {nf : Nat} (hnf : c.facts.length = nf) {q : Sr} (h : CInv nf q) (op : Int) {l r : Ex} (hl : allN c m l) (hr : allN c m r) :
    CInv nf (cmpOf q op [l, r]).2.2 ∧ Grow q (cmpOf q op [l, r]).2.2 ∧ ((cmpOf q op [l, r]).2.1 = true → CGood nf (cmpOf q op [l, r]).2.2 (cmpOf q op [l, r]).1) := by
  have h1 := scan_inv [l, r] q 0 h
  unfold cmpOf
  cases hz : cmpScan [l, r] q 0 with
  | mk b z =>
    obtain ⟨s1, n⟩ := z
    rw [hz] at h1
    simp only at h1
    cases b with
    | false => exact ⟨h1.1, h1.2, fun h => by cases h⟩
    | true =>
      simp only
      by_cases hn : n = 0
      · rw [if_pos hn]; exact ⟨h1.1, h1.2, fun h => by cases h⟩
      · rw [if_neg hn]
        obtain ⟨t1, t2, t3⟩ := scan_two hz hn
        obtain ⟨a1, a2, a3⟩ := h1.1.cmpCand hnf r hl
        obtain ⟨b1, b2, b3⟩ := a1.cmpCand hnf l hr
        have hok : Cond.ok nf (.cmp op ⟨l.op, l.n⟩ ⟨r.op, r.n⟩) := ⟨opd_ok hnf hl, opd_ok hnf hr⟩
        have hg := (h1.2.trans a2).trans b2
        split
        · rename_i hd
          have hg2 : Grow (cmpCand (cmpCand s1 l r) r l) { cmpCand (cmpCand s1 l r) r l with atoms := (cmpCand (cmpCand s1 l r) r l).atoms ++ [.cmp op ⟨l.op, l.n⟩ ⟨r.op, r.n⟩] } := ⟨fun _ h => h, fun x hx => by simp [hx]⟩
          refine ⟨⟨b1.rng, b1.nd, b1.ndv, fun x hx => ?_⟩, hg.trans hg2, fun _ => ⟨hok, trivial, ⟨fun e => b2.has _ (a3 e), fun e => b3 e⟩, fun _ => ⟨by simp, ?_, ?_⟩⟩⟩
          · rcases List.mem_append.1 hx with hx | hx
            · exact b1.atoms x hx
            · simp at hx; subst hx; exact ⟨hok, _, _, _, rfl⟩
          · show l.op ≠ 2; omega
          · show r.op ≠ 2; omega
        · rename_i hd
          exact ⟨b1, hg, fun _ => ⟨hok, trivial, ⟨fun e => b2.has _ (a3 e), fun e => b3 e⟩, fun hh => absurd hh hd⟩⟩
theorem simple_inv {c : Codex} {m : List (Int × Int)} {nf : Nat} (hnf : c.facts.length = nf) : ∀ (N : Nat) (e : Ex) (q : Sr), SizeOf.sizeOf e < N → allN c m e → CInv nf q →
    CInv nf (simpleOf e q).2.2 ∧ Grow q (simpleOf e q).2.2 ∧ ((simpleOf e q).2.1 = true → CGood nf (simpleOf e q).2.2 (simpleOf e q).1)
  | 0, _, _, h, _, _ => by omega
  | N + 1, .mk op n u den ps ks, q, hN, h, hq => by
    simp only [Ex.mk.sizeOf_spec] at hN
    unfold allN at h
    rw [simple_mk]
    by_cases h1 : op = 1
    · rw [if_pos h1]
      exact ⟨hq, .refl q, fun _ => { ok := ⟨fun e => absurd e (show ¬ (1 : Int) = 2 by decide), fun e => absurd e (show ¬ (1 : Int) = 4 by decide)⟩, good := trivial, inF := fun e => absurd e (show ¬ (1 : Int) = 2 by decide), cov := fun e => absurd e (show ¬ (1 : Int) = 4 by decide) }⟩
    rw [if_neg h1]
    by_cases h2 : op = 2
    · rw [if_pos h2]
      have hr := node_fact h.1 h2
      rw [hnf] at hr
      obtain ⟨a, b, d⟩ := hq.cand hr [0, 1]
      exact ⟨a, b, fun _ => { ok := ⟨fun _ => hr, fun e => absurd e (show ¬ (2 : Int) = 4 by decide)⟩, good := trivial, inF := fun _ => d, cov := fun e => absurd e (show ¬ (2 : Int) = 4 by decide) }⟩
    rw [if_neg h2]
    by_cases h3 : op = 8 ∨ op = 9 ∨ op = 10
    · rw [if_pos h3]
      obtain ⟨k, l, rfl⟩ := node_two h.1 (by omega)
      exact cmp_inv hnf hq op (allNs_mem h.2 k (by simp)) (allNs_mem h.2 l (by simp))
    rw [if_neg h3]
    by_cases h4 : op = 5
    · rw [if_pos h4]
      obtain ⟨k, rfl⟩ := node_one h.1 h4
      simp only [List.cons.sizeOf_spec] at hN
      obtain ⟨a, b, d⟩ := simple_inv hnf N k q (by omega) (allNs_mem h.2 k (by simp)) hq
      exact ⟨a, b, fun e => ⟨(d e).ok, (d e).good, (d e).inF, (d e).cov⟩⟩
    rw [if_neg h4]
    by_cases h5 : op = 6 ∨ op = 7
    · rw [if_pos h5]
      obtain ⟨k, l, rfl⟩ := node_two h.1 (by omega)
      simp only [List.cons.sizeOf_spec] at hN
      obtain ⟨a, b, d⟩ := simple_inv hnf N k q (by omega) (allNs_mem h.2 k (by simp)) hq
      obtain ⟨a', b', d'⟩ := simple_inv hnf N l _ (by omega) (allNs_mem h.2 l (by simp)) a
      refine ⟨a', b.trans b', fun e => ?_⟩
      simp only [Bool.and_eq_true] at e
      have g1 := (d e.1).grow b'
      have g2 := d' e.2
      exact ⟨⟨g1.ok, g2.ok⟩, ⟨by split <;> simp, g1.good, g2.good⟩, ⟨g1.inF, g2.inF⟩, ⟨g1.cov, g2.cov⟩⟩
    rw [if_neg h5]
    exact ⟨hq, .refl q, fun e => by cases e⟩
end Go.Proofs.YtblpjknmhajcgaaGreatDoor

/- The search of a valid codex can be searched (plain). -/
namespace Go.Proofs.YtblpjknmhajcgaaGreatDoor
open Go Go.Sh
set_option maxRecDepth 10000
set_option maxHeartbeats 1000000

/-- the search between two conditions -/
structure CFull (nf : Nat) (q : Sr) (k : Nat) : Prop where
  inv : CInv nf q
  srk : SrK q
  conds : ∀ x ∈ q.conds, CGood nf q x
  cz : q.conds.length ≤ k
  az : q.atoms.length ≤ k * 400
  bz : candB q (k * 2400)
theorem when_full {c : Codex} {m : List (Int × Int)} (hm : NumsOK m) {nf : Nat} (hnf : c.facts.length = nf) (hF : nf ≤ 12) : ∀ (es : List Ex) (q q' : Sr) (k : Nat), (∀ e ∈ es, allN c m e ∧ exSize e ≤ 400) → CFull nf q k → whenGo es q = some q' → CFull nf q' (k + es.length)
  | [], q, q', k, _, h, hw => by
    simp only [whenGo, Option.some.injEq] at hw
    subst hw
    exact h
  | e :: r, q, q', k, he, h, hw => by
    have hfx := fits_of hm (by omega) _ e (Nat.lt_succ_self _) (he e (by simp)).1
    have h1 := simple_inv hnf _ e q (Nat.lt_succ_self _) (he e (by simp)).1 h.inv
    have h2 := simple_keeps _ e q (Nat.lt_succ_self _) hfx h.srk
    have h3 := simple_candB _ e q _ (Nat.lt_succ_self _) hfx h.bz
    have h4 := simple_conds _ e q (Nat.lt_succ_self _) hfx
    have h5 := cmpsN_le _ e (Nat.lt_succ_self _)
    have h6 := (he e (by simp)).2
    rw [whenGo] at hw
    generalize simpleOf e q = z at h1 h2 h3 h4 hw
    obtain ⟨cd, b, q1⟩ := z
    simp only at h1 h2 h3 h4 hw
    cases b with
    | false => cases hw
    | true =>
      have hn : CFull nf { q1 with conds := q1.conds ++ [cd] } (k + 1) := by
        have hgc : ∀ x, CGood nf q1 x → CGood nf { q1 with conds := q1.conds ++ [cd] } x := fun x hx => ⟨hx.ok, hx.good, hx.inF, hx.cov⟩
        refine ⟨⟨h1.1.rng, h1.1.nd, h1.1.ndv, h1.1.atoms⟩, ⟨h2.1.cands, h2.1.dates⟩, fun x hx => ?_, ?_, ?_, ?_⟩
        · rcases List.mem_append.1 hx with hx | hx
          · rw [h4] at hx
            exact hgc x ((h.conds x hx).grow h1.2.1)
          · simp at hx; subst hx; exact hgc _ (h1.2.2 rfl)
        · have := h.cz
          simp only [List.length_append, h4, List.length_cons, List.length_nil]
          omega
        · have := h.az
          have := h2.2
          show q1.atoms.length ≤ _
          omega
        · exact candB.mono (q := { q1 with conds := q1.conds ++ [cd] }) h3 (by omega)
      have := when_full hm hnf hF r _ q' (k + 1) (fun x hx => he x (by simp [hx])) hn hw
      rwa [show k + 1 + r.length = k + (e :: r).length by simp; omega] at this
theorem CFull.up {nf : Nat} {q : Sr} {k k' : Nat} (h : CFull nf q k) (hk : k ≤ k') : CFull nf q k' := ⟨h.inv, h.srk, h.conds, by have := h.cz; omega, by have := h.az; omega, h.bz.mono (by omega)⟩
theorem arts_full {c : Codex} {m : List (Int × Int)} (hm : NumsOK m) {nf : Nat} (hnf : c.facts.length = nf) (hF : nf ≤ 12) (ha : ∀ a ∈ c.arts, a.when_.length ≤ 40 ∧ ∀ e ∈ a.when_, allN c m e ∧ exSize e ≤ 400) :
    ∀ (vs : List Int) (q q' : Sr) (k : Nat), CFull nf q k → artsGo c vs q = some q' → CFull nf q' (k + vs.length * 40)
  | [], q, q', k, h, hw => by
    simp only [artsGo, Option.some.injEq] at hw
    subst hw
    simpa using h
  | v :: r, q, q', k, h, hw => by
    rw [artsGo] at hw
    cases hv : artAt c v with
    | none => rw [hv] at hw; cases hw
    | some a =>
      rw [hv] at hw
      simp only at hw
      obtain ⟨h1, h2⟩ := ha a (artAt_mem hv)
      cases hwn : whenGo a.when_ q with
      | none => rw [hwn] at hw; cases hw
      | some q1 =>
        rw [hwn] at hw
        simp only at hw
        have g1 := (when_full hm hnf hF _ q q1 k h2 h hwn).up (k' := k + 40) (by omega)
        have g2 := arts_full hm hnf hF ha r q1 q' _ g1 hw
        rwa [show k + 40 + r.length * 40 = k + (v :: r).length * 40 by simp; omega] at g2
theorem full0 (nf : Nat) : CFull nf sr0 0 := ⟨⟨by simp [sr0], by simp [sr0], by simp [sr0], by simp [sr0]⟩, ⟨⟨by simp [sr0], by simp [sr0]⟩, rfl⟩, by simp [sr0], by simp [sr0], by simp [sr0], by intro e he; cases he⟩
theorem search_full {c : Codex} (h : codexOK c = true) (hF : c.facts.length ≤ 12) (hw : ∀ a ∈ c.arts, a.when_.length ≤ 40) {vs : List Int} (hv : ∀ v ∈ vs, 0 ≤ v ∧ v < c.arts.length) {q : Sr} (hq : searchOf c vs = some q) :
    CFull c.facts.length q 2400 ∧ artsGo c (versOf vs) sr0 = some q := by
  obtain ⟨_, h60, m, hm, h4⟩ := codexOK_arts' h
  unfold searchOf at hq
  cases hg : artsGo c (versOf vs) sr0 with
  | none => rw [hg] at hq; cases hq
  | some q1 =>
    rw [hg] at hq
    simp only at hq
    split at hq
    · cases hq
      have := arts_full hm rfl hF (fun a ha => ⟨hw a ha, (h4 a ha).2.2.1⟩) _ sr0 q 0 (full0 _) hg
      have hl := versOf_len hv
      exact ⟨this.up (by omega), rfl⟩
    · cases hq
theorem sortN_mem {l : List Int} {x : Int} : x ∈ sortN l ↔ x ∈ l := (List.mergeSort_perm l fun x y => decide (x ≤ y)).mem_iff
theorem sortN_inc {l : List Int} (h : l.Nodup) : (sortN l).Pairwise (· < ·) := by
  have hs := List.pairwise_mergeSort (le := fun x y : Int => decide (x ≤ y)) (fun a b c h1 h2 => by simp at *; omega) (fun a b => by simp; omega) l
  have hn : (sortN l).Nodup := (List.mergeSort_perm l fun x y => decide (x ≤ y)).nodup_iff.2 h
  rw [List.nodup_iff_pairwise_ne] at hn
  exact (hs.and hn).imp fun h => by have := h.1; have := h.2; simp at *; omega
theorem srOK_of {nf : Nat} {q : Sr} {k : Nat} (h : CFull nf q k) : SrOK q nf := by
  have hkeys : ∀ f, f ∈ sortN (q.cands.map (·.1)) → 0 ≤ f ∧ f < nf := fun f hf => by
    obtain ⟨e, he, rfl⟩ := List.mem_map.1 (sortN_mem.1 hf)
    exact h.inv.rng e he
  have hfst : (choicesOf q.cands).map (·.1) = sortN (q.cands.map (·.1)) := by
    unfold choicesOf
    rw [List.map_map]
    exact List.map_id _
  refine ⟨fun x hx => (h.conds x hx).good, fun day => ⟨by simp [st0], fun e he => ?_, ?_, fun e he => ?_, fun x hx => ?_, fun e he => ?_⟩, fun x hx => (h.conds x hx).cov⟩
  · have : e.1 ∈ sortN (q.cands.map (·.1)) := by rw [← hfst]; exact List.mem_map.2 ⟨e, he, rfl⟩
    have := hkeys _ this
    simpa [st0] using this
  · rw [hfst]
    exact (List.mergeSort_perm _ fun x y => decide (x ≤ y)).nodup_iff.2 h.inv.nd
  · simp only [st0, List.getD_eq_getElem?_getD, List.getElem?_replicate]
    split <;> rfl
  · refine Cond.inF_mono (fun f hf => .inr ?_) x (h.conds x hx).inF
    have hf : f ∈ q.cands.map (·.1) := by
      have := alook_isSome (k := f) (l := q.cands)
      exact of_decide_eq_true (this ▸ hf : decide (f ∈ q.cands.map (·.1)) = true)
    exact ⟨_, List.mem_map.2 ⟨f, sortN_mem.2 hf, rfl⟩, rfl⟩
  · obtain ⟨f, hf, rfl⟩ := List.mem_map.1 he
    refine sortN_inc ?_
    cases hl : alook f q.cands with
    | none => simp
    | some w => exact h.inv.ndv _ (alook_some hl)
theorem witOK_of {c : Codex} (h : codexOK c = true) (hF : c.facts.length ≤ 12) (hw : ∀ a ∈ c.arts, a.when_.length ≤ 40) {vs : List Int} (hv : ∀ v ∈ vs, 0 ≤ v ∧ v < c.arts.length) {q : Sr} (hq : searchOf c vs = some q) :
    WitOK (YS c (versOf vs) q) c (versOf vs) q := by
  obtain ⟨_, h60, m, hm, h4⟩ := codexOK_arts' h
  obtain ⟨hf, _⟩ := search_full h hF hw hv hq
  have hl := versOf_len hv
  have hcr : ∀ e ∈ q.cands, 0 ≤ e.1 ∧ e.1 < 12 := hf.srk.cands.rng
  have hu := NS_under (c := c) (vers := versOf vs) (q := q) hcr
  have hcl : q.cands.length ≤ 12 := by
    have := nodup_le (n := 12) (l := (q.cands.map (·.1)).map Int.toNat) (by
      rw [List.nodup_iff_pairwise_ne, List.pairwise_map]
      have hn := hf.inv.nd
      rw [List.nodup_iff_pairwise_ne] at hn
      refine (List.Pairwise.and_mem.1 hn).imp ?_
      rintro a b ⟨ha, hb, hab⟩ e
      obtain ⟨x, hx, rfl⟩ := List.mem_map.1 ha
      obtain ⟨y, hy, rfl⟩ := List.mem_map.1 hb
      have := hcr x hx
      have := hcr y hy
      exact hab (by omega)) (fun x hx => by
      obtain ⟨f, hff, rfl⟩ := List.mem_map.1 hx
      obtain ⟨e, he, rfl⟩ := List.mem_map.1 hff
      have := hcr e he
      omega)
    simpa using this
  refine { und := fun i => ?_, maps := ⟨rfl, hcr, fun e he => ?_, hf.inv.nd, fun e he => ?_⟩, nf := by omega, arts := by omega, days := fun a ha => ?_, versR := fun v hvv => ?_, vsz := by omega, cz := by have := hf.cz; omega, az := by have := hf.az; omega, conds := fun x hx => (hf.conds x hx).ok, atoms := hf.inv.atoms, sr := srOK_of hf, csz := by omega }
  · unfold YS
    rw [List.getD_eq_getElem?_getD]
    cases hg : (NS c (versOf vs) q)[i]? with
    | none => rfl
    | some o => exact List.all_eq_true.1 hu o (List.mem_of_getElem? hg)
  · unfold YS
    rw [List.getD_eq_getElem?_getD, NS_get (hcr e he), alook_mem hf.inv.nd he]
    rfl
  · have := hf.bz e he
    omega
  · have := (h4 a ha).1
    unfold artHead at this
    simp only [Bool.and_eq_true, decide_eq_true_eq] at this
    omega
  · exact hv v ((List.mergeSort_perm vs fun x y => decide (x ≤ y)).mem_iff.1 (compact_mem hvv))
theorem searchC_of {c : Codex} (h : codexOK c = true) (hF : c.facts.length ≤ 12) (hw : ∀ a ∈ c.arts, a.when_.length ≤ 40 ∧ a.unless_.length ≤ 80) : SearchC c := by
  obtain ⟨_, h60, _⟩ := codexOK_arts' h
  refine ⟨needC_of h (fun a ha => by have := hw a ha; omega), fitC_of h hF (fun a ha => (hw a ha).1), fun vs hv _ => by have := versOf_len hv; omega, fun vs q hv _ hq => witOK_of h hF (fun a ha => (hw a ha).1) hv hq⟩
end Go.Proofs.YtblpjknmhajcgaaGreatDoor

/- The ring of a codex: what DefeatRing says of it (plain). -/
namespace Go.Proofs.YtblpjknmhajcgaaGreatDoor
open Go Go.Sh
set_option maxRecDepth 10000
set_option maxHeartbeats 1000000

theorem topo_mem {nd : List (List Int)} {out : List Int} (h : Topo nd out) (hl : out.length = nd.length) {i : Nat} (hi : i < nd.length) : (i : Int) ∈ out := by
  refine Classical.byContradiction fun hn => ?_
  have hin : ∀ x ∈ out, 0 ≤ x ∧ x < nd.length := fun x hx => by
    obtain ⟨a, b, rfl⟩ := List.append_of_mem hx
    obtain ⟨⟨j, rfl, hj, _⟩, _⟩ := h a x b rfl
    omega
  have hd : (i :: out.map Int.toNat).Nodup := by
    rw [List.nodup_cons]
    refine ⟨fun hm => ?_, ?_⟩
    · obtain ⟨x, hx, e⟩ := List.mem_map.1 hm
      have := hin x hx
      exact hn (by rw [show (i : Int) = x by omega]; exact hx)
    · rw [List.nodup_iff_pairwise_ne, List.pairwise_map]
      have := topo_nodup h
      rw [List.nodup_iff_pairwise_ne] at this
      refine (List.Pairwise.and_mem.1 this).imp ?_
      rintro a b ⟨ha, hb, hab⟩ e
      have := hin a ha
      have := hin b hb
      exact hab (by omega)
  have := nodup_le (n := nd.length) hd (fun x hx => by
    rcases List.mem_cons.1 hx with rfl | hx
    · exact hi
    · obtain ⟨y, hy, rfl⟩ := List.mem_map.1 hx
      have := hin y hy
      omega)
  simp only [List.length_cons, List.length_map] at this
  omega
theorem topo_edge {nd : List (List Int)} {out : List Int} (h : Topo nd out) (hl : out.length = nd.length) {i j : Nat} (hi : i < nd.length) (he : Edge nd i j) : out.idxOf (j : Int) < out.idxOf (i : Int) := by
  obtain ⟨a, b, rfl⟩ := List.append_of_mem (topo_mem h hl hi)
  obtain ⟨⟨i', hi', _, hneed⟩, hna⟩ := h a _ b rfl
  have : i' = i := by omega
  subst this
  have hja : (j : Int) ∈ a := hneed _ he
  rw [List.idxOf_append, if_pos hja, List.idxOf_append, if_neg hna]
  have := List.idxOf_lt_length_of_mem hja
  omega
theorem topo_walk {nd : List (List Int)} {out : List Int} (h : Topo nd out) (hl : out.length = nd.length) {i j L : Nat} (hi : i < nd.length) (hw : WalkB (Edge nd) nd.length i j L) : out.idxOf (j : Int) < out.idxOf (i : Int) := by
  induction hw with
  | one he => exact topo_edge h hl hi he
  | step he hk _ ih =>
    have := topo_edge h hl hi he
    have := ih hk
    omega
/-- where no version is ready, there is a ring -/
theorem stuck_ring {nd : List (List Int)} (hnd : NdOK nd) {out : List Int} (hlt : out.length < nd.length) (hst : ∀ j, j < nd.length → (j : Int) ∈ out ∨ ∃ x ∈ nd.getD j [], x ∉ out) : ∃ i L, i < nd.length ∧ WalkB (Edge nd) nd.length i i L := by
  have hex : ∃ u, u < nd.length ∧ ((u : Nat) : Int) ∉ out := by
    refine Classical.byContradiction fun hn => ?_
    have hall : ∀ u, u < nd.length → ((u : Nat) : Int) ∈ out := fun u hu => Classical.byContradiction fun h => hn ⟨u, hu, h⟩
    have hg : ∀ u (hu : u < nd.length), out[out.idxOf (u : Int)]? = some (u : Int) := fun u hu => by
      have hl := List.idxOf_lt_length_of_mem (hall u hu)
      rw [List.getElem?_eq_getElem hl, List.getElem_idxOf]
    have h2 : ((List.range nd.length).map (fun (u : Nat) => out.idxOf (u : Int))).Nodup := by
      rw [List.nodup_iff_pairwise_ne, List.pairwise_map]
      refine (List.Pairwise.and_mem.1 List.pairwise_lt_range).imp ?_
      rintro a b ⟨ha, hb, hab⟩ e
      have h3 := hg a (List.mem_range.1 ha)
      rw [e, hg b (List.mem_range.1 hb)] at h3
      have := Option.some.inj h3
      omega
    have := nodup_le (n := out.length) h2 (fun x hx => by
      obtain ⟨u, hu, rfl⟩ := List.mem_map.1 hx
      exact List.idxOf_lt_length_of_mem (hall u (List.mem_range.1 hu)))
    simp at this
    omega
  have hnx : ∀ u : {u : Nat // u < nd.length ∧ (u : Int) ∉ out}, ∃ v : {u : Nat // u < nd.length ∧ (u : Int) ∉ out}, Edge nd u.1 v.1 := fun ⟨u, hu, hno⟩ => by
    rcases hst u hu with h | ⟨x, hx, hxo⟩
    · exact absurd h hno
    · have := hnd.2 u x hx
      exact ⟨⟨x.toNat, by omega, by rw [Int.toNat_of_nonneg this.1]; exact hxo⟩, by show ((x.toNat : Nat) : Int) ∈ _; rw [Int.toNat_of_nonneg this.1]; exact hx⟩
  obtain ⟨u0, h0⟩ := hex
  let nx := fun u => (hnx u).choose
  have hnxs : ∀ u, Edge nd u.1 (nx u).1 := fun u => (hnx u).choose_spec
  let f : Nat → {u : Nat // u < nd.length ∧ (u : Int) ∉ out} := fun k => Nat.rec ⟨u0, h0⟩ (fun _ u => nx u) k
  have hf : ∀ k, Edge nd (f k).1 (f (k + 1)).1 := fun k => hnxs (f k)
  have hwalk : ∀ d a, WalkB (Edge nd) nd.length (f a).1 (f (a + d + 1)).1 (d + 1) := by
    intro d
    induction d with
    | zero => intro a; exact .one (hf a)
    | succ d ih =>
      intro a
      have := ih (a + 1)
      rw [show a + 1 + d + 1 = a + (d + 1) + 1 by omega] at this
      exact .step (hf a) (f (a + 1)).2.1 this
  have hrep : ∃ a b, a < b ∧ (f a).1 = (f b).1 := by
    refine Classical.byContradiction fun hn => ?_
    have hd : ((List.range (nd.length + 1)).map fun k => (f k).1).Nodup := by
      rw [List.nodup_iff_pairwise_ne, List.pairwise_map]
      exact List.pairwise_lt_range.imp fun {a b} h e => hn ⟨a, b, h, e⟩
    have := nodup_le hd (n := nd.length) (fun x hx => by
      obtain ⟨k, _, rfl⟩ := List.mem_map.1 hx
      exact (f k).2.1)
    simp at this
    omega
  obtain ⟨a, b, hab, e⟩ := hrep
  have := hwalk (b - a - 1) a
  rw [show a + (b - a - 1) + 1 = b by omega, ← e] at this
  exact ⟨(f a).1, _, (f a).2.1, this⟩
theorem nextGo_none {nd : List (List Int)} {out : List Int} (h : nextGo nd out 0 = none) : ∀ j, j < nd.length → (j : Int) ∈ out ∨ ∃ x ∈ nd.getD j [], x ∉ out := fun j hj => by
  unfold nextGo at h
  rw [List.findSome?_eq_none_iff] at h
  have := h j (List.mem_range.2 hj)
  refine Classical.byContradiction fun hn => ?_
  rw [if_pos ⟨Nat.zero_le _, fun hm => hn (.inl hm), fun x hx => Classical.byContradiction fun hxo => hn (.inr ⟨x, hx, hxo⟩)⟩] at this
  cases this
theorem orderGo_none {nd : List (List Int)} : ∀ (k : Nat) (out : List Int), out.length + k = nd.length → orderGo nd k out = none → ∃ out' : List Int, out'.length < nd.length ∧ ∀ j, j < nd.length → (j : Int) ∈ out' ∨ ∃ x ∈ nd.getD j [], x ∉ out'
  | 0, out, _, h => by cases h
  | k + 1, out, hl, h => by
    rw [orderGo_succ] at h
    cases hn : nextGo nd out 0 with
    | none => exact ⟨out, by omega, nextGo_none hn⟩
    | some i =>
      rw [hn] at h
      exact orderGo_none k _ (by simp; omega) h
/-- a ring exactly where there is no order -/
theorem ring_iff {c : Codex} (h60 : c.arts.length ≤ 60) : ringOf (allNeeds c) = [] ↔ (orderOf c).isSome = true := by
  have hnd := ndOK_of h60
  constructor
  · intro hr
    cases ho : orderOf c with
    | some l => rfl
    | none =>
      obtain ⟨out, h1, h2⟩ := orderGo_none (nd := allNeeds c) c.arts.length [] (by simp [allNeeds_len]) ho
      obtain ⟨i, L, hi, hw⟩ := stuck_ring hnd h1 h2
      rcases ringOf_spec hnd with ⟨_, h⟩ | ⟨s, m, h, _⟩
      · exact absurd hw (h i L hi)
      · rw [hr] at h; cases h
  · intro ho
    obtain ⟨out, ho⟩ := Option.isSome_iff_exists.1 ho
    obtain ⟨h1, h2⟩ := orderOf_topo ho
    rcases ringOf_spec hnd with ⟨h, _⟩ | ⟨s, m, hs, hlen, hm1, hm2, hsn, hmin, _, hk⟩
    · exact h
    · have hF := dist_FW hnd
      obtain ⟨_, _, hd, _⟩ := hk 0 _ hs
      obtain ⟨L, hw, _⟩ := hF.sound s s hsn hsn (by simp only [Int.toNat_natCast] at hd; omega)
      have := topo_walk h1 (by rw [h2, allNeeds_len]) hsn hw
      omega
end Go.Proofs.YtblpjknmhajcgaaGreatDoor

/- The ring of a codex: each version needs the next one and no other of the ring (plain). -/
namespace Go.Proofs.YtblpjknmhajcgaaGreatDoor
open Go Go.Sh
set_option maxRecDepth 10000
set_option maxHeartbeats 1000000

structure RingOK (nd : List (List Int)) (R : List Int) : Prop where
  len : R.length ≤ nd.length
  rng : ∀ (i : Nat) (x : Int), R[i]? = some x → 0 ≤ x ∧ x < nd.length
  fst : ∀ (i : Nat) (x y : Int), R[0]? = some x → R[i]? = some y → x ≤ y
  edge : ∀ (i k : Nat) (x y : Int), R[i]? = some x → R[k]? = some y → (y ∈ nd.getD x.toNat [] ↔ k = (i + 1) % R.length)
  inj : ∀ (i k : Nat) (x : Int), R[i]? = some x → R[k]? = some x → i = k
theorem ring_ok {nd : List (List Int)} (hnd : NdOK nd) : RingOK nd (ringOf nd) := by
  rcases ringOf_spec hnd with ⟨h, _⟩ | ⟨s, m, hs, hlen, hm1, hm2, hsn, hmin, hleast, hk⟩
  · rw [h]
    exact ⟨by simp, fun i x h => by simp at h, fun i x y h => by simp at h, fun i k x y h => by simp at h, fun i k x h => by simp at h⟩
  have hF := dist_FW hnd
  generalize ringOf nd = R at hs hlen hk
  have hget : ∀ i : Nat, i < m → ∃ x, R[i]? = some x := fun i hi => ⟨_, List.getElem?_eq_getElem (by omega)⟩
  have hlt : ∀ (i : Nat) (x : Int), R[i]? = some x → i < m := fun i x h => by rw [← hlen]; exact lt_of_getElem? h
  have hnat : ∀ (i : Nat) (x : Int), R[i]? = some x → ((x.toNat : Nat) : Int) = x ∧ x.toNat < nd.length := fun i x h => by
    obtain ⟨a, b, _⟩ := hk i x h
    omega
  have hedge : ∀ (i : Nat) (x y : Int), R[i]? = some x → R[i + 1]? = some y → Edge nd x.toNat y.toNat := fun i x y hx hy => by
    obtain ⟨_, _, _, h4⟩ := hk i x hx
    show ((y.toNat : Nat) : Int) ∈ _
    rw [(hnat _ y hy).1]
    exact h4 y hy
  have hdist : ∀ (i : Nat) (x : Int), R[i]? = some x → mg (distOf nd) x.toNat s = ((m - i : Nat) : Int) := fun i x hx => (hk i x hx).2.2.1
  have hinj : ∀ (i k : Nat) (x : Int), R[i]? = some x → R[k]? = some x → i = k := fun i k x hi hk2 => by
    have h1 := hdist i x hi
    have h2 := hdist k x hk2
    have := hlt i x hi
    have := hlt k x hk2
    omega
  have hwalk : ∀ (d i : Nat) (x y : Int), R[i]? = some x → R[i + d + 1]? = some y → WalkB (Edge nd) nd.length x.toNat y.toNat (d + 1) := by
    intro d
    induction d with
    | zero => intro i x y hx hy; exact .one (hedge i x y hx hy)
    | succ d ih =>
      intro i x y hx hy
      obtain ⟨z, hz⟩ := hget (i + 1) (by have := hlt _ y hy; omega)
      have := ih (i + 1) z y hz (by rw [show i + 1 + d + 1 = i + (d + 1) + 1 by omega]; exact hy)
      exact .step (hedge i x z hx hz) (hnat _ z hz).2 this
  have hback : ∀ x : Int, R[m - 1]? = some x → Edge nd x.toNat s := fun x hx => by
    have h1 := hdist _ x hx
    obtain ⟨L, hw, he⟩ := hF.sound x.toNat s (hnat _ x hx).2 hsn (by omega)
    have hL : L = 1 := by omega
    subst hL
    cases hw with
    | one h => exact h
    | step _ _ h => cases h
  have hcyc : ∀ (i : Nat) (x : Int), R[i]? = some x → WalkB (Edge nd) nd.length x.toNat x.toNat m := fun i x hx => by
    have hi := hlt i x hx
    obtain ⟨z, hz⟩ := hget (m - 1) (by omega)
    have h1 : WalkB (Edge nd) nd.length x.toNat s (m - i) := by
      by_cases e : i = m - 1
      · subst e
        rw [show m - (m - 1) = 1 by omega]
        exact .one (hback x hx)
      · have hw := hwalk (m - 1 - i - 1) i x z hx (by rw [show i + (m - 1 - i - 1) + 1 = m - 1 by omega]; exact hz)
        have := hw.append (.one (hback z hz)) (hnat _ z hz).2
        rwa [show m - 1 - i - 1 + 1 + 1 = m - i by omega] at this
    by_cases e : i = 0
    · subst e
      rw [hs] at hx
      cases hx
      simpa using h1
    · have h2 := hwalk (i - 1) 0 (s : Int) x hs (by rw [show 0 + (i - 1) + 1 = i by omega]; exact hx)
      have := h1.append h2 (by simpa using hsn)
      rwa [show m - i + (i - 1 + 1) = m by omega] at this
  have hself : ∀ (i : Nat) (x : Int), R[i]? = some x → mg (distOf nd) x.toNat x.toNat = m := fun i x hx => by
    have h1 := hF.comp _ _ m (hnat i x hx).2 (hnat i x hx).2 (hcyc i x hx)
    obtain ⟨L, hw, he⟩ := hF.sound _ _ (hnat i x hx).2 (hnat i x hx).2 (by omega)
    have := hmin _ L (hnat i x hx).2 hw
    omega
  refine ⟨?_, fun i x hx => ⟨(hk i x hx).1, (hk i x hx).2.1⟩, fun i x y hx hy => ?_, fun i k x y hx hy => ⟨fun hm => ?_, fun e => ?_⟩, hinj⟩
  · have hd : (R.map Int.toNat).Nodup := by
      rw [List.nodup_iff_pairwise_ne, List.pairwise_map, List.pairwise_iff_getElem]
      intro i j hi hj hij e
      have h1 := hnat i _ (List.getElem?_eq_getElem hi)
      have h2 := hnat j _ (List.getElem?_eq_getElem hj)
      have h3 : R[i] = R[j] := by omega
      have := hinj i j R[i] (List.getElem?_eq_getElem hi) (by rw [h3]; exact List.getElem?_eq_getElem hj)
      omega
    have := nodup_le (n := nd.length) hd (fun x hx => by
      obtain ⟨y, hy, rfl⟩ := List.mem_map.1 hx
      obtain ⟨i, hi, rfl⟩ := List.mem_iff_getElem.1 hy
      exact (hnat i _ (List.getElem?_eq_getElem hi)).2)
    simpa using this
  · rw [hs] at hx
    cases hx
    have := hleast y.toNat (hnat i y hy).2 (hself i y hy)
    have := (hnat i y hy).1
    omega
  · rw [hlen]
    have hi := hlt i x hx
    have hkm := hlt k y hy
    have he : Edge nd x.toNat y.toNat := by show ((y.toNat : Nat) : Int) ∈ _; rw [(hnat k y hy).1]; exact hm
    have hy2 := hdist k y hy
    have hx2 := hdist i x hx
    obtain ⟨L, hw, hL⟩ := hF.sound y.toNat s (hnat k y hy).2 hsn (by omega)
    have hc := hF.comp x.toNat s (L + 1) (hnat i x hx).2 hsn (.step he (hnat k y hy).2 hw)
    by_cases e : k = i + 1
    · rw [Nat.mod_eq_of_lt (by omega)]; exact e
    · have hki : k ≤ i := by omega
      have hcy : WalkB (Edge nd) nd.length y.toNat y.toNat (i - k + 1) := by
        by_cases e2 : k = i
        · subst e2
          rw [hx] at hy
          cases hy
          rw [Nat.sub_self]
          exact .one he
        · have h1 := hwalk (i - k - 1) k y x hy (by rw [show k + (i - k - 1) + 1 = i by omega]; exact hx)
          have := h1.append (.one he) (hnat i x hx).2
          rwa [show i - k - 1 + 1 + 1 = i - k + 1 by omega] at this
      have := hmin _ _ (hnat k y hy).2 hcy
      have h0 : k = 0 ∧ i + 1 = m := by omega
      rw [h0.1, h0.2, Nat.mod_self]
  · rw [hlen] at e
    have hi := hlt i x hx
    by_cases e2 : i + 1 < m
    · rw [Nat.mod_eq_of_lt e2] at e
      subst e
      exact (hk i x hx).2.2.2 y hy
    · have e3 : i + 1 = m := by omega
      rw [e3, Nat.mod_self] at e
      subst e
      rw [hs] at hy
      cases hy
      exact hback x (by rw [show m - 1 = i by omega]; exact hx)
end Go.Proofs.YtblpjknmhajcgaaGreatDoor

/- The shadow machine, part 47: own slices in drawn regions; stores of several cells. Printed by wip/gen/gen_sh47.py. -/
namespace Go.Sh
section
variable {P : Program} {G : List (Nat × D)} {w : World} {I : Imm} {β : List Bnd} {H : List SObj} {o : Oper} {ρ : Operand → Value}
theorem vappend_run {b n kk by_ e e' : Nat} {z : Value} {sx xx : Operand} {sT xT : Nat} {cs : List SV} {new : List (List D)} (hop : o.op = .call ⟨.builtin .append, #[sx, xx], #[sT, xT]⟩)
    (hH : HeapOK G w I β H) (hr : Rep w I β (ρ sx) (.vec b n)) (hrx : Rep w I β (ρ xx) (.imm (.isl kk new))) (hu : P.underlying sT = some (.slice e)) (hxu : P.underlying xT = some (.slice e'))
    (hpk : psize P e = some kk) (hby : pbytes P e = some by_) (hz : pzero P e = some z) (hcond : by_ ≤ 65536 ∧ z.cells.size = kk) (hb : H[b]? = some (.vec kk cs)) (hlen : cs.length = n * kk) (hk : 1 ≤ kk) (hnew : 1 ≤ new.length) (hsmall : n + new.length ≤ 1073741824) :
    OpRun P G (execOp ρ o) w I β H (.vec b (n + new.length)) (H.set b (.vec kk (cs ++ new.flatten.map SV.imm))) := by
  obtain ⟨hbu, hnow⟩ := vec_now hH hb hr hlen hk
  generalize hxv : ρ xx = xv at hrx
  cases hrx with | imm hrx =>
  obtain ⟨B, hB, hxl, hxc⟩ := hrx.flat (P := P)
  have hBs : B.length = new.length * kk := hB.len
  have hfl : (new.flatten.map SV.imm).length = new.length * kk := by
    rw [List.length_map]
    have : ∀ L : List (List D), (∀ i (h : i < L.length), (L[i]'h).length = kk) → L.flatten.length = L.length * kk := by
      intro L
      induction L with
      | nil => intro _; simp
      | cons r L ih =>
        intro hall
        have h0 : r.length = kk := hall 0 (by simp)
        have h1 := ih (fun i h => by have := hall (i + 1) (by simpa using h); simpa using this)
        simp only [List.flatten_cons, List.length_append, List.length_cons, h0, h1, Nat.succ_mul]; omega
    exact this new hB.row
  have hblt := lt_of_getElem? hb
  have hbxlt := lt_of_getElem? hbu
  have hnl : (cs ++ new.flatten.map SV.imm).length = (n + new.length) * kk := by rw [List.length_append, hlen, hfl, Nat.add_mul]
  obtain ⟨dst, op, type, pos, after, guard⟩ := o
  simp only at hop
  subst hop
  -- a row of the values, whatever the way
  have rowsOK : ∀ (w' : World) (β' : List Bnd) (vs : List Value) (vs' : Array Value), (∀ c o, I c o → w'.cell? ⟨c, o, none⟩ = w.cell? ⟨c, o, none⟩) → Keeps β.length β β' → vs.length = n * kk →
      (∀ j (h : j < cs.length) (h' : j < vs.length), Rep w I β (vs[j]'h') (cs[j]'h)) → (∀ j, j < n * kk + new.length * kk → vs'[j]? = (vs ++ B)[j]?) →
      ∀ j (h : j < (cs ++ new.flatten.map SV.imm).length) (h' : j < vs'.size), Rep w' I β' (vs'[j]'h') ((cs ++ new.flatten.map SV.imm)[j]'h) := by
    intro w' β' vs vs' hcell hkeep hvl hrep hget j hj hj'
    have hj2 : j < n * kk + new.length * kk := by rw [hnl, Nat.add_mul] at hj; exact hj
    have hg := hget j hj2
    rw [Array.getElem?_eq_getElem hj'] at hg
    rcases Nat.lt_or_ge j (n * kk) with hlt | hge
    · have hjc : j < cs.length := by omega
      have hjv : j < vs.length := by omega
      rw [List.getElem_append_left hjc]
      rw [List.getElem?_append_left hjv, List.getElem?_eq_getElem hjv] at hg
      rw [Option.some.inj hg]
      exact (hrep j hjc hjv).mono (fun _ _ h => h) hcell hkeep
    · rw [List.getElem?_append_right (by omega), hvl] at hg
      obtain ⟨d, hd1, hd2⟩ := flat_get hB hk hg.symm
      have : (cs ++ new.flatten.map SV.imm)[j]? = some (.imm d) := by
        rw [List.getElem?_append_right (by omega), hlen, List.getElem?_map, hd1]; rfl
      rw [List.getElem?_eq_getElem hj] at this
      rw [Option.some.inj this]
      exact .imm (hd2.mono (fun _ _ h => h) hcell)
  have grow : ∀ (A : List Value) (ua : Option Addr) (ucap : Nat), ρ sx = .slice ua n ucap → A.length = n * kk → (∀ j (h : j < cs.length) (h' : j < A.length), Rep w I β (A[j]'h') (cs[j]'h)) →
      (∀ w' : World, w'.heap = w.heap → (Builtin.firstCells kk n (.slice ua n ucap)).run P w' = .ok A.toArray w') → ¬ n + new.length ≤ ucap →
      OpRun P G (execOp ρ ⟨dst, .call ⟨.builtin .append, #[sx, xx], #[sT, xT]⟩, type, pos, after, guard⟩) w I β H (.vec b (n + new.length)) (H.set b (.vec kk (cs ++ new.flatten.map .imm))) := by
    intro A ua ucap hsv hAs hArep hsc hg
    obtain ⟨newCap, rest', hc1, hc2, hrest, hrun⟩ := run_append_grows (w := w) (ty := type) hu hxu hpk hby hz (base := ua) (n := n) (cap := ucap) (A := A) (B := B) hxl (fun w' hw' => hxc w' (fun c o _ => by simp [World.cell?, hw'])) hsc hg hsmall hcond.1
    have hrs : rest'.size = (newCap - (n + new.length)) * kk := by rw [hrest]; simp [Builtin.zeroCells, hcond.2]
    have hvs : (A.toArray ++ B.toArray ++ rest').size = newCap * kk := by
      simp only [Array.size_append, List.size_toArray, hAs, hBs, hrs]
      rw [← Nat.add_mul, ← Nat.add_mul]; congr 1; omega
    have hnewblk : (w.drew.alloc (.cells (A.toArray ++ B.toArray ++ rest') e)).heap[w.heap.size]? = some (.cells (A.toArray ++ B.toArray ++ rest') e (0, 0)) := heap_alloc_self (w := w.drew) _
    have hold : ∀ c, c < w.heap.size → (w.drew.alloc (.cells (A.toArray ++ B.toArray ++ rest') e)).heap[c]? = w.heap[c]? := fun c hc => by
      show (w.heap.push _)[c]? = _
      rw [Array.getElem?_push, if_neg (by omega)]
    have hcell : ∀ c o, I c o → (w.drew.alloc (.cells (A.toArray ++ B.toArray ++ rest') e)).cell? ⟨c, o, none⟩ = w.cell? ⟨c, o, none⟩ := fun c o hc => cell_congr (hold c (hH.inI c o hc)) o
    rw [hsv] at hbu
    have hkeep : Keeps β.length β (β.set b (.tok (.slice (some ⟨w.heap.size, 0, none⟩) (n + new.length) newCap))) := by
      intro b' x _ hb'
      by_cases e : b' = b
      · subst e
        rw [hbu] at hb'; cases hb'
        exact ⟨_, List.getElem?_set_self hbxlt, .inr ⟨_, rfl, .inr ⟨_, _, _, _, _, _, rfl, rfl, by omega⟩⟩⟩
      · exact ⟨x, by rw [List.getElem?_set_ne (Ne.symm e)]; exact hb', x.le_refl⟩
    obtain ⟨g1, g2⟩ := hH.moveVec (m := H.length) (n := n) (n' := n + new.length) (u' := .slice (some ⟨w.heap.size, 0, none⟩) (n + new.length) newCap) (w' := w.drew.alloc (.cells (A.toArray ++ B.toArray ++ rest') e)) (I' := I) (o1 := .vec kk (cs ++ new.flatten.map .imm)) hb (by simp) hbu ⟨_, _, _, _, rfl, rfl⟩ (by omega)
      (by simp) (fun c hc _ => hold c hc) hcell (fun _ _ h => h) (fun _ _ h => .inl h) (fun c o hi => by have := hH.inI c o hi; simp; omega) (fun c hc => by cases hc; exact .inr (Nat.le_refl _))
      (.inr ⟨w.heap.size, n + new.length, newCap, _, e, rfl, hnewblk, hvs, hc1, hc2, hnl, rowsOK _ _ A _ hcell hkeep hAs hArep (fun j hj => by
        rw [Array.getElem?_append_left (by simp [hAs, hBs]; omega)]; simp), fun o hi => by have := hH.inI _ o hi; omega⟩)
    exact .value (by rw [← hsv] at hrun; simpa [builtin, hxv] using hrun) (.vec b _ _ _ (n + new.length) (List.getElem?_set_self hbxlt) ⟨_, _, rfl⟩ (Nat.le_refl _) ⟨_, _, _, rfl⟩ (fun _ => rfl)) g1 g2
  rcases hnow with ⟨hn0, hsv, hcs⟩ | ⟨c, cap, vs, T, hsv, h2, h3, h4, h5, h6, h7⟩
  · subst hn0
    exact grow [] none 0 hsv (by simp) (fun j h h' => by simp at h') (fun w' _ => by rfl) (by omega)
  · by_cases hfit : n + new.length ≤ cap
    · have hle2 : n * kk + new.length * kk ≤ vs.size := by rw [h3, ← Nat.add_mul]; exact Nat.mul_le_mul_right kk hfit
      have hrun := run_append_fits (w := w) (ty := type) hu hxu hpk (n := n) (cap := cap) (m := new.length) (c := c) hxl (hxc w (fun _ _ _ => rfl)) hfit h2 hB.len hB.one h3
      generalize hW : w.setRow c (vs.toList.take (n * kk) ++ B ++ vs.toList.drop (n * kk + new.length * kk)).toArray = W at hrun
      have hnb : W.heap[c]? = some (.cells (vs.toList.take (n * kk) ++ B ++ vs.toList.drop (n * kk + new.length * kk)).toArray T (0, 0)) := by rw [← hW]; exact setRow_heap w c vs _ T _ h2
      have hother : ∀ c', c' ≠ c → W.heap[c']? = w.heap[c']? := by
        intro c' hne
        rw [← hW]; simp [World.setRow, Array.getElem?_modify, Ne.symm hne]
      have hsz : W.heap.size = w.heap.size := by rw [← hW]; simp [World.setRow]
      have hcell : ∀ c' o, I c' o → W.cell? ⟨c', o, none⟩ = w.cell? ⟨c', o, none⟩ := fun c' o hi => cell_congr (hother c' (fun e => h7 o (e ▸ hi))) o
      rw [hsv] at hbu
      have hkeep : Keeps β.length β (β.set b (.tok (.slice (some ⟨c, 0, none⟩) (n + new.length) cap))) := by
        intro b' x _ hb'
        by_cases e : b' = b
        · subst e
          rw [hbu] at hb'; cases hb'
          exact ⟨_, List.getElem?_set_self hbxlt, .inr ⟨_, rfl, .inr ⟨_, _, _, _, _, _, rfl, rfl, by omega⟩⟩⟩
        · exact ⟨x, by rw [List.getElem?_set_ne (Ne.symm e)]; exact hb', x.le_refl⟩
      have hAl : (vs.toList.take (n * kk)).length = n * kk := by simp; omega
      obtain ⟨g1, g2⟩ := hH.moveVec (m := H.length) (n := n) (n' := n + new.length) (u' := .slice (some ⟨c, 0, none⟩) (n + new.length) cap) (w' := W) (I' := I) (o1 := .vec kk (cs ++ new.flatten.map .imm)) hb (by simp) hbu ⟨_, _, _, _, rfl, rfl⟩ (by omega)
        (by omega) (fun c' _ hne => hother c' (fun e => hne (by rw [e]; rfl))) hcell (fun _ _ h => h) (fun _ _ h => .inl h) (fun c' o hi => by rw [hsz]; exact hH.inI c' o hi) (fun c' hc => by cases hc; exact .inl rfl)
        (.inr ⟨c, n + new.length, cap, _, T, rfl, hnb, by simp only [List.size_toArray, List.length_append, List.length_take, List.length_drop, Array.length_toList, hBs]; omega, hfit, h5, hnl,
          rowsOK _ _ (vs.toList.take (n * kk)) _ hcell hkeep hAl (fun j h h' => by
            have hj : j < vs.size := by simp at h'; omega
            have := h6 j h hj
            simpa using this) (fun j hj => by
            rw [List.getElem?_toArray, List.getElem?_append_left (by rw [List.length_append, hAl, hBs]; exact hj)]), h7⟩) (by rw [← hW]; exact ⟨rfl, rfl⟩)
      exact .value (by rw [← hsv] at hrun; simpa [builtin, hxv] using hrun) (.vec b _ _ _ (n + new.length) (List.getElem?_set_self hbxlt) ⟨_, _, rfl⟩ (Nat.le_refl _) ⟨_, _, _, rfl⟩ (fun _ => rfl)) g1 g2
    · have hAl : (vs.toList.take (n * kk)).length = n * kk := by
        have : n * kk ≤ vs.size := by rw [h3]; exact Nat.mul_le_mul_right kk h4
        simp; omega
      refine grow (vs.toList.take (n * kk)) _ cap hsv hAl (fun j h h' => by
            have hj : j < vs.size := by simp at h'; omega
            have := h6 j h hj
            simpa using this) (fun w' hw' => ?_) hfit
      have := run_loadCells_list (P := P) w' ⟨c, 0, none⟩ (vs.toList.take (n * kk)) (fun j x hx => by
        have hj : j < n * kk := by rw [← hAl]; exact lt_of_getElem? hx
        rw [addr_add, cell_congr (w := w) (by rw [hw']), cell_of_heap h2]
        rw [List.getElem?_take_of_lt hj] at hx
        simpa using hx)
      rw [hAl] at this
      simpa [Builtin.firstCells] using this
theorem vstoreN_run {b n off ns : Nat} {ax vx : Operand} {ty : Nat} {vcs : List SV} {kk : Nat} {cs : List SV} (hop : o.op = .store ty ax vx) (hH : HeapOK G w I β H) (hr : Rep w I β (ρ ax) (.vptr b n off)) (hrv : Reps w I β (ρ vx).cells.toList vcs)
    (hone : vcs.all SV.one = true) (hsz : psize P ty = some ns) (hns : vcs.length = ns) (hb : H[b]? = some (.vec kk cs)) (hlen : cs.length = n * kk) (hk : 1 ≤ kk) (hoff : off + ns ≤ cs.length) (hpos : 1 ≤ ns) :
    OpRun P G (execOp ρ o) w I β H .any (H.set b (.vec kk (cs.take off ++ vcs ++ cs.drop (off + ns)))) := by
  generalize hpv : ρ ax = pv at hr
  cases hr with
  | vptr _ _ _ _ a m cap hbu hle hv' heq =>
  rcases hH.obj b _ _ hb hbu with ⟨rfl, e⟩ | ⟨c, n', cap', vs, T, e, a1, a2, a3, a4, a5, a6, a7⟩
  · simp at hoff
    omega
  · cases e
    have hn' : n = m := by
      rw [hlen] at a5
      exact Nat.eq_of_mul_eq_mul_right hk a5
    subst hn'
    obtain ⟨c', e, rfl⟩ := heq rfl
    cases e
    have hLl : (ρ vx).cells.toList.length = ns := by rw [hrv.len]; exact hns
    have hcsz : (ρ vx).cells.size = ns := by simpa using hLl
    have hle2 : off + ns ≤ vs.size := by
      rw [a2]; rw [a5] at hoff
      exact Nat.le_trans hoff (Nat.mul_le_mul_right kk a3)
    generalize hL : (ρ vx).cells.toList = L at hrv hLl
    have hst := run_storeCells_at (P := P) c off T L 0 vs w a1 (by omega) (fun v hv => by
      obtain ⟨j, hj, rfl⟩ := List.mem_iff_getElem.1 hv
      have hj' : j < vcs.length := by rw [← hrv.len]; exact hj
      exact (hrv.rep j _ _ (List.getElem?_eq_getElem hj) (List.getElem?_eq_getElem hj')).oneCell (List.all_eq_true.1 hone _ (List.getElem_mem hj')))
    simp only [Nat.add_zero, hLl] at hst
    generalize hW : (vs.toList.take off ++ L ++ vs.toList.drop (off + ns)).toArray = W at hst
    have hWs : W.size = vs.size := by rw [← hW]; simp; omega
    have hWj : ∀ j (hj : j < W.size), W[j]? = if off ≤ j ∧ j < off + ns then L[j - off]? else vs[j]? := fun j hj => by
      rw [← hW, List.getElem?_toArray]
      rcases Nat.lt_or_ge j off with h1 | h1
      · rw [List.append_assoc, List.getElem?_append_left (by simp; omega), List.getElem?_take_of_lt h1, if_neg (by omega)]; simp
      · rcases Nat.lt_or_ge j (off + ns) with h2 | h2
        · rw [List.append_assoc, List.getElem?_append_right (by simp; omega), List.getElem?_append_left (by simp; omega), if_pos ⟨h1, h2⟩]
          congr 1
          simp; omega
        · rw [List.getElem?_append_right (by simp; omega), List.getElem?_drop, if_neg (by omega)]
          simp
          congr 1
          omega
    have hnew' : (w.setRow c W).heap[c]? = some (.cells W T (0, 0)) := setRow_heap w c vs W T (0, 0) a1
    have hother : ∀ c', c' ≠ c → (w.setRow c W).heap[c']? = w.heap[c']? := by
      intro c' hne
      simp [World.setRow, Array.getElem?_modify, Ne.symm hne]
    have hIc : ∀ b o, I b o → (w.setRow c W).cell? ⟨b, o, none⟩ = w.cell? ⟨b, o, none⟩ := fun b' o' hi => cell_congr (hother b' (fun e => a7 o' (e ▸ hi))) o'
    have hcl : (cs.take off ++ vcs ++ cs.drop (off + ns)).length = cs.length := by simp; omega
    obtain ⟨g1, g2⟩ := hH.changeB (m := H.length) (w' := w.setRow c W) (o' := .vec kk (cs.take off ++ vcs ++ cs.drop (off + ns))) hb (by simp) hbu rfl hother (by simp [World.setRow]) a7
      (.inr ⟨c, n, cap, _, T, rfl, hnew', by rw [hWs]; exact a2, a3, a4, by rw [hcl]; exact a5, fun j hj hj' => by
        have hj1 : j < cs.length := by rw [← hcl]; exact hj
        have hj2 : j < vs.size := by rw [← hWs]; exact hj'
        have h2 := Array.getElem?_eq_getElem hj'
        rw [hWj j hj'] at h2
        have h3 := List.getElem?_eq_getElem hj
        generalize (cs.take off ++ vcs ++ cs.drop (off + ns))[j]'hj = y at h3 ⊢
        by_cases hin : off ≤ j ∧ j < off + ns
        · rw [if_pos hin] at h2
          rw [List.append_assoc, List.getElem?_append_right (by simp; omega), List.getElem?_append_left (by simp; omega)] at h3
          have e1 : j - (cs.take off).length = j - off := by simp; omega
          rw [e1] at h3
          exact (hrv.rep (j - off) _ _ h2 h3).mono (fun _ _ h => h) hIc (.refl _ _)
        · rw [if_neg hin, Array.getElem?_eq_getElem hj2] at h2
          have h4 : (cs.take off ++ vcs ++ cs.drop (off + ns))[j]? = cs[j]? := by
            rcases Nat.lt_or_ge j off with h1 | h1
            · rw [List.append_assoc, List.getElem?_append_left (by simp; omega), List.getElem?_take_of_lt h1]
            · rw [List.getElem?_append_right (by simp; omega), List.getElem?_drop]
              congr 1
              simp; omega
          rw [h4, List.getElem?_eq_getElem hj1] at h3
          rw [← Option.some.inj h2, ← Option.some.inj h3]
          exact (a6 j hj1 hj2).mono (fun _ _ h => h) hIc (.refl _ _), a7⟩)
    obtain ⟨dst, op, type, pos, after, guard⟩ := o
    simp only at hop
    subst hop
    refine OpRun.unit (w' := w.setRow c W) ?_ g1 g2
    rw [hpv]
    simp only [Instr.storeAt, Instr.sureAddr, storeVar, Sem.run_bind, Sem.run_pure, Result.andThen_ok, run_psize hsz]
    rw [if_neg (by rw [hcsz]; simp), hL]
    exact hst
end
section
variable {P : Program} {G : List (Nat × D)} {fn : Func} {rd : Bool} {E : En P G fn rd} {t : List (Nat × SV)} {H K : List SObj} {k : List Item} {m : Nat} {all : Array Oper} {rest : List Oper} {done : List Eff} {o : Oper}
theorem swe_vappend {b n kk by_ e e' : Nat} {z : Value} {sx xx : Operand} {sT xT : Nat} {cs : List SV} {new : List (List D)} (hop : o.op = .call ⟨.builtin .append, #[sx, xx], #[sT, xT]⟩)
    (hw : swant all t o.guard = some true) (hd : dstOK fn.ntmps o.dst = true) (hs : evalS G t sx = .vec b n) (hx : evalS G t xx = .imm (.isl kk new)) (hu : P.underlying sT = some (.slice e)) (hxu : P.underlying xT = some (.slice e'))
    (hpk : psize P e = some kk) (hby : pbytes P e = some by_) (hz : pzero P e = some z) (hcond : by_ ≤ 65536 ∧ z.cells.size = kk) (hm : m ≤ K.length) (hb : K[b]? = some (.vec kk cs)) (hlen : cs.length = n * kk) (hk : 1 ≤ kk) (hnew : 1 ≤ new.length) (hsmall : n + new.length ≤ 1073741824)
    (h : SWe E m all rest k (tput t o.dst (.vec b (n + new.length))) (K.set b (.vec kk (cs ++ new.flatten.map SV.imm))) (done ++ [⟨.vec b (n + new.length), [b], some (b, .vec kk (cs ++ new.flatten.map SV.imm))⟩])) : SWe E m all (o :: rest) k t K done :=
  swe_val (e := ⟨.vec b (n + new.length), [b], some (b, .vec kk (cs ++ new.flatten.map SV.imm))⟩) ⟨hd, .inr ⟨hw, fun K' hl ha ρ w I β hH _ hops => by
    have hr := hops sx (by rw [hop]; simp [Op.operands, Call.operands])
    rw [hs] at hr
    have hrx := hops xx (by rw [hop]; simp [Op.operands, Call.operands])
    rw [hx] at hrx
    have hb' : K'[b]? = some (.vec kk cs) := by rw [ha b (.inl (by simp))]; exact hb
    obtain ⟨nn, v, w', I', β', h1, h2, h3, h4, h5⟩ := vappend_run hop hH hr hrx hu hxu hpk hby hz hcond hb' hlen hk hnew hsmall
    have hk : Keeps β.length β β' := by rw [hH.len]; exact h5.keep
    exact .inl ⟨nn, v, w', I', β', h1, h2, h3, h4, h5.weaken (by omega), hk.toD, fun b hb _ => hk.dummy (lt_of_getElem? hb) hb⟩⟩⟩ h
/-- The own slice in a box is data from now on; nobody writes it any more. -/
theorem sw_vshutCell (b0 j b n kk : Nat) {cs0 cs : List SV} {ds : List D} (hb0 : H[b0]? = some (.cells cs0)) (hj : cs0[j]? = some (.vec b n)) (hb : H[b]? = some (.vec kk cs)) (hone : cs.all SV.one = true) (hds : cs.mapM SV.toD = some ds) (hlen : cs.length = n * kk) (hk : 1 ≤ kk)
    (h : SW E k t ((H.set b .dead).set b0 (.cells (cs0.set j (.imm (.isl kk (chunks kk ds n))))))) : SW E k t H := by
  refine ⟨fun a w I β cs' hsim => ?_⟩
  have hbl := lt_of_getElem? hb
  have hbl0 := lt_of_getElem? hb0
  have hjl := lt_of_getElem? hj
  have hne0 : b0 ≠ b := by rintro rfl; rw [hb0] at hb; cases hb
  obtain ⟨x0, hx0⟩ : ∃ x0, β[b0]? = some x0 := ⟨_, List.getElem?_eq_getElem (by rw [hsim.heap.len]; exact hbl0)⟩
  have hobj := hsim.heap.obj b0 _ _ hb0 hx0
  cases x0 with
  | tok u => exact hobj.elim
  | blk c0 =>
  obtain ⟨vs0, T0, o1, o2, o3, o4⟩ := hobj
  have hj2 : j < vs0.size := by rw [o2]; exact hjl
  have hr := o3 j hjl hj2
  rw [show cs0[j] = .vec b n by rw [List.getElem?_eq_getElem hjl] at hj; exact Option.some.inj hj] at hr
  obtain ⟨hbu, hnow⟩ := vec_now hsim.heap hb hr hlen hk
  obtain ⟨hdl, hdg⟩ := mapM_get hds
  generalize hNC : SObj.cells (cs0.set j (.imm (.isl kk (chunks kk ds n)))) = NC at h
  have hget : ∀ b', ((H.set b .dead).set b0 NC)[b']? = if b' = b0 then some NC else if b' = b then some .dead else H[b']? := fun b' => by
    by_cases e1 : b' = b0
    · subst e1; rw [if_pos rfl, List.getElem?_set_self (by rw [List.length_set]; exact hbl0)]
    · rw [if_neg e1, List.getElem?_set_ne (Ne.symm e1)]
      by_cases e2 : b' = b
      · subst e2; rw [if_pos rfl, List.getElem?_set_self hbl]
      · rw [if_neg e2, List.getElem?_set_ne (Ne.symm e2)]
  have hsub : ∀ b' c', owns ((H.set b .dead).set b0 NC) β b' c' → b' ≠ b ∧ owns H β b' c' := by
    rintro b' c' ⟨o, x, h1, h2, h3, h4⟩
    rw [hget] at h1
    split at h1
    · rename_i e; subst e
      exact ⟨hne0, _, x, hb0, by simp, h3, h4⟩
    · split at h1
      · cases h1; exact absurd rfl h2
      · rename_i e1 e2
        exact ⟨e2, o, x, h1, h2, h3, h4⟩
  have fin : ∀ (I' : Imm), (∀ c o, I c o → I' c o) → (∀ c' o, I' c' o → I c' o ∨ owns H β b c') → DRep w I' (vs0[j]'hj2) (.isl kk (chunks kk ds n)) → E.Goal (lone (E.at a k) cs' w) cs' := by
    intro I' hI hnew hd
    refine h.run a w I' β cs' ⟨⟨by simp [hsim.heap.len], fun b' o x h1 h2 => ?_, fun b1 b2 c' h1 h2 => hsim.heap.inj b1 b2 c' (hsub b1 c' h1).2 (hsub b2 c' h2).2, fun c' o hi => ?_, fun g d hg => (hsim.heap.glob g d hg).mono hI (fun _ _ _ => rfl)⟩,
      fun m => (hsim.tmps m).mono hI (fun _ _ _ => rfl) (.refl _ _), hsim.size, ?_, ?_, by simpa using hsim.hlen⟩
    · rw [hget] at h1
      split at h1
      · rename_i e; subst e
        cases h1
        rw [hx0] at h2
        cases h2
        rw [← hNC]
        refine ⟨vs0, T0, o1, by rw [List.length_set]; exact o2, fun i hi hi' => ?_, fun o hi => ?_⟩
        · by_cases e : j = i
          · subst e
            rw [List.getElem_set_self]
            exact .imm hd
          · rw [List.getElem_set_ne e]
            exact (o3 i (by simpa using hi) hi').mono hI (fun _ _ _ => rfl) (.refl _ _)
        · rcases hnew c0 o hi with h3 | h3
          · exact o4 o h3
          · exact hne0 (hsim.heap.inj b' b c0 ⟨_, _, hb0, by simp, hx0, rfl⟩ h3)
      · split at h1
        · cases h1; trivial
        · rename_i e1 e2
          by_cases hdead : o = .dead
          · subst hdead; trivial
          · refine (hsim.heap.obj b' o x h1 h2).mono (fun _ _ => rfl) hI (fun _ _ _ => rfl) (.refl _ _) (fun c' q hc hi => ?_)
            rcases hnew c' q hi with h3 | h3
            · exact h3
            · exact absurd (hsim.heap.inj b' b c' ⟨o, x, h1, hdead, h2, hc⟩ h3) e2
    · rcases hnew c' o hi with h3 | h3
      · exact hsim.heap.inI c' o h3
      · exact hsim.heap.owns_lt h3
    · obtain ⟨bs, d1, d2, d3⟩ := hsim.defers
      exact ⟨bs, d1, d2, fun c' hc => ⟨(d3 c' hc).1, (d3 c' hc).2.1, fun b' hb' => (d3 c' hc).2.2 b' (hsub b' c' hb').2⟩⟩
    · exact { hsim.ext with
        imm := fun c' o hi => hI _ _ (hsim.ext.imm c' o hi)
        own := fun b' c' ho => hsim.ext.own b' c' (hsub b' c' ho).2
        new := fun c' o hi => by
          rcases hnew c' o hi with h3 | h3
          · exact hsim.ext.new c' o h3
          · exact .inr (hsim.ext.own b c' h3) }
  rcases hnow with ⟨hn0, hsv, hcs⟩ | ⟨c, cap, vs, T, hsv, a1, a2, a3, a4, a5, a6⟩
  · subst hn0
    exact fin I (fun _ _ h => h) (fun _ _ h => .inl h) (by rw [hsv]; exact .islNil kk)
  · have hown : owns H β b c := ⟨_, _, hb, by simp, hbu, by rw [hsv]; rfl⟩
    have hle : cs.length ≤ vs.size := by rw [hlen, a2]; exact Nat.mul_le_mul_right kk a3
    refine fin (I.plus c cs.length) (fun _ _ h => .inl h) (fun c' o hi => hi.imp id (fun h => by rw [h.1]; exact hown)) ?_
    rw [hsv]
    refine drep_chunks (vs := vs.toList.take cs.length) (by rw [hdl, hlen]) (fun o ho => .inr ⟨rfl, by omega⟩) (fun o ho => ?_) (by simp; omega) (fun v hv => ?_) (fun o v d hv hd => ?_) a3 a4
    · rw [cell_of_heap a1, List.getElem?_take_of_lt (by omega)]; simp
    · obtain ⟨j, hj, rfl⟩ := List.mem_iff_getElem.1 hv
      have hjj : j < cs.length ∧ j < vs.size := by simp at hj; omega
      have hj' := hjj.2
      have := (a5 j (by omega) hj').oneCell (List.all_eq_true.1 hone _ (List.getElem_mem (by omega)))
      simpa using this
    · have hvv : o < cs.length ∧ o < vs.size := by have := lt_of_getElem? hv; simp at this; omega
      have hv' := hvv.2
      have ho : o < cs.length := hvv.1
      rw [List.getElem?_take_of_lt ho] at hv
      obtain ⟨d', hd', hs'⟩ := hdg o _ (List.getElem?_eq_getElem ho)
      rw [hd] at hd'
      cases hd'
      have hvv : v = vs[o] := by simpa [hv'] using hv.symm
      subst hvv
      exact ((a5 o ho hv').toD hs').mono (fun _ _ h => .inl h) (fun _ _ _ => rfl)
theorem swr_vstoreN {b n off ns : Nat} {ax vx : Operand} {ty : Nat} {vcs : List SV} {kk : Nat} {cs : List SV} (hop : o.op = .store ty ax vx) (hw : swant all t o.guard = some true) (hd : dstOK fn.ntmps o.dst = true) (ha : evalS G t ax = .vptr b n off)
    (hv : (evalS G t vx).cells = some vcs) (hone : vcs.all SV.one = true) (hsz : psize P ty = some ns) (hns : vcs.length = ns) (hb : H[b]? = some (.vec kk cs)) (hlen : cs.length = n * kk) (hk : 1 ≤ kk) (hoff : off + ns ≤ cs.length) (hpos : 1 ≤ ns)
    (h : SWr E all rest k (tput t o.dst .any) (H.set b (.vec kk (cs.take off ++ vcs ++ cs.drop (off + ns))))) : SWr E all (o :: rest) k t H := by
  refine swr_exec hw hd (fun c e => by rw [hop] at e; cases e) (by simp) (fun ρ w I β hH hev => ?_) h
  have hr := hev ax
  rw [ha] at hr
  exact vstoreN_run hop hH hr ((hev vx).cellsReps hv) hone hsz hns hb hlen hk hoff hpos
end
end Go.Sh

/- The examples of law 11 (contracts). -/
namespace Go.Proofs.YtblpjknmhajcgaaGreatDoor
open Go Go.Sh
set_option maxRecDepth 10000
set_option maxHeartbeats 4000000
variable (G : List (Nat × D))

abbrev dnil : D := .val (.slice none 0 0)
def cur11 : ByteArray := ⟨#[69, 85, 82]⟩
def raw11 (op n : Int) (u : ByteArray) (ks : D) : SV := .agg [sI op, sI n, sS u, sI 0, .imm dnil, .imm ks]
theorem raw11_is (op n : Int) (u : ByteArray) (ks : List Ex) : (raw11 op n u (.isl 6 (ks.map Ex.cells))).Is (Ex.mk op n u 0 [] ks).sv := by
  rw [Ex.sv, Ex.cells, exprRows_eq]
  exact SIs.agg (.cons (SV.Is.refl _) (.cons (SV.Is.refl _) (.cons (SV.Is.refl _) (.cons (SV.Is.refl _) (.cons (SV.Is.nil 3) (.cons (SV.Is.refl _) .nil))))))
theorem raw11_is0 (op n : Int) (u : ByteArray) : (raw11 op n u dnil).Is (Ex.mk op n u 0 [] []).sv := by
  rw [Ex.sv, Ex.cells, exprRows_eq]
  exact SIs.agg (.cons (SV.Is.refl _) (.cons (SV.Is.refl _) (.cons (SV.Is.refl _) (.cons (SV.Is.refl _) (.cons (SV.Is.nil 3) (.cons (SV.Is.nil 6) .nil))))))
theorem konst11 (n : Int) (u : ByteArray) : SPure Tryz.prog G 36 [sI n, sS u] (Ex.mk 1 n u 0 [] []).sv := by
  refine spure_is (r := raw11 1 n u dnil) ?_ (raw11_is0 _ _ _)
  refine spure_enter Tryz.func36 rfl (by rw [Tryz.ntmps36]; simp) rfl rfl ?_; intro E hH hK
  (refine sgo_sound [777] 1000 ?_; conv => whnf)
  exact hK _
theorem fact11 (n : Int) (u : ByteArray) : SPure Tryz.prog G 37 [sI n, sS u] (Ex.mk 2 n u 0 [] []).sv := by
  refine spure_is (r := raw11 2 n u dnil) ?_ (raw11_is0 _ _ _)
  refine spure_enter Tryz.func37 rfl (by rw [Tryz.ntmps37]; simp) rfl rfl ?_; intro E hH hK
  (refine sgo_sound [777] 1000 ?_; conv => whnf)
  exact hK _
theorem two11 (op : Int) (a b : Ex) : SPure Tryz.prog G 35 [sI op, a.sv, b.sv] (Ex.mk op 0 tT 0 [] [a, b]).sv := by
  refine spure_is (r := raw11 op 0 tT (.isl 6 ([a, b].map Ex.cells))) ?_ (raw11_is _ _ _ _)
  obtain ⟨o1, n1, u1, d1, p1, k1⟩ := a
  obtain ⟨o2, n2, u2, d2, p2, k2⟩ := b
  refine spure_enter Tryz.func35 rfl (by rw [Tryz.ntmps35]; simp) rfl rfl ?_; intro E hH hK
  (refine sgo_sound [777] 1000 ?_; conv => whnf)
  exact hK _

def decl11 : List Decl := [⟨⟨#[104, 111, 117, 114, 115]⟩, ⟨#[109, 105, 110, 117, 116, 101, 115]⟩, 0⟩, ⟨⟨#[109, 97, 114, 114, 105, 101, 100]⟩, ⟨#[116, 114, 117, 116, 104]⟩, 0⟩, ⟨⟨#[97, 103, 101]⟩, ⟨#[110, 117, 109, 98, 101, 114]⟩, 0⟩]
def line11 : List Decl := [⟨⟨#[98, 97, 115, 105, 99]⟩, cur11, 1⟩]
def art11 (i : Nat) (es : List Ex) : Article := ⟨i + 1, 0, 1, 8766, 36525, 8766, es, [], .mk 1 100 cur11 0 [] []⟩
def cod11 (w : List (List Ex)) : Codex := ⟨decl11, line11, w.mapIdx art11⟩
def row11 (i : Nat) (es : List Ex) : List D := [dI ((i : Int) + 1), dI 0, dI 1, dI 8766, dI 36525, dI 8766, dExprs es, dnil, dI 1, dI 100, dS cur11, dI 0, .isl 3 [], .isl 6 []]
theorem ex11_spec (w : List (List Ex)) (hw : w.length ≤ 1000) : SPure Tryz.prog G 38 [.imm (.isl 1 (w.map fun es => [dExprs es]))] (cod11 w).sv := by
  refine spure_is (r := .agg [.imm (dDecls decl11), .imm (dDecls line11), .imm (.isl 14 (w.mapIdx row11))]) ?_ ?_
  rotate_left
  · refine SIs.agg (.cons (SV.Is.refl _) (.cons (SV.Is.refl _) (.cons (D.Is.imm (DIss.isl (k := 14) ?_)) .nil)))
    show DIss (w.mapIdx row11) ((w.mapIdx art11).map Article.cells)
    have em : (w.mapIdx art11).map Article.cells = w.mapIdx (fun i es => (art11 i es).cells) := by
      apply List.ext_getElem?
      intro i
      rw [List.getElem?_map, List.getElem?_mapIdx, List.getElem?_mapIdx, Option.map_map]
      rfl
    rw [em]
    have : ∀ (l : List (List Ex)) (f g : Nat → List Ex → List D), (∀ i e, DIs (f i e) (g i e)) → DIss (l.mapIdx f) (l.mapIdx g) := by
      intro l
      induction l with
      | nil => intro f g _; exact .nil
      | cons e l ih =>
        intro f g h
        rw [List.mapIdx_cons, List.mapIdx_cons]
        exact .cons (h 0 e) (ih _ _ fun i e => h (i + 1) e)
    refine this w _ _ fun i e => ?_
    exact .cons (D.Is.refl _) (.cons (D.Is.refl _) (.cons (D.Is.refl _) (.cons (D.Is.refl _) (.cons (D.Is.refl _) (.cons (D.Is.refl _) (.cons (D.Is.refl _) (.cons (D.Is.nil 1) (.cons (D.Is.refl _) (.cons (D.Is.refl _) (.cons (D.Is.refl _) (.cons (D.Is.refl _) (.cons (D.Is.refl _) (.cons (D.Is.refl _) .nil)))))))))))))
  have hla : (w.map fun es => [dExprs es]).length = w.length := by simp
  have hk := konst11 G 100 cur11
  refine spure_enter Tryz.func38 rfl (by rw [Tryz.ntmps38]; simp) rfl rfl ?_; intro E hH hK
  (refine sgo_sound [777] 1000 ?_; conv => whnf)
  refine sw_keep [0, 2, 3, 4] ?_
  change SW E _ [(0, .imm (.isl 1 (w.map fun es => [dExprs es]))), (2, .ptr 0 0), (3, .ptr 1 0), (4, sI 0)] [.cells [.imm dnil, .imm dnil, .imm dnil], .cells [.imm (dDecls decl11), .imm (dDecls line11), .imm dnil]]
  refine sw_tokCell 1 2 14 (cs := [.imm (dDecls decl11), .imm (dDecls line11), .imm dnil]) rfl rfl ?_
  change SW E _ [(0, .imm (.isl 1 (w.map fun es => [dExprs es]))), (2, .ptr 0 0), (3, .ptr 1 0), (4, sI 0)] [.cells [.imm dnil, .imm dnil, .imm dnil], .cells [.imm (dDecls decl11), .imm (dDecls line11), .asl 2 14 []], .tok 14 0]
  refine sw_each w (fun i (_ : List (List D)) => [(0, .imm (.isl 1 (w.map fun es => [dExprs es]))), (2, .ptr 0 0), (3, .ptr 1 0), (4, sI i)]) (fun _ L => [.cells [.imm dnil, .imm dnil, .imm dnil], .cells [.imm (dDecls decl11), .imm (dDecls line11), .asl 2 14 L], .tok 14 L.length])
    (fun done _ L => L = done.mapIdx row11) [] rfl ?_ ?_
  · rintro L h1
    rw [← h1] at hK
    refine sw_solid ?_
    change SW E _ [(0, .imm (.isl 1 (w.map fun es => [dExprs es]))), (2, .ptr 0 0), (3, .ptr 1 0), (4, sI w.length)] [.cells [.imm dnil, .imm dnil, .imm dnil], .cells [.imm (dDecls decl11), .imm (dDecls line11), .imm (.isl 14 L)], _]
    (refine sgo_sound [777] 1000 ?_; conv => whnf)
    repeat' ((with_reducible first | refine bdec (fun h => ?_) (fun h => ?_) | refine bndec (fun h => ?_) (fun h => ?_) | refine bwtd (fun h => ?_) (fun h => ?_) | refine bwfd (fun h => ?_) (fun h => ?_) | refine bwtn (fun h => ?_) (fun h => ?_) | refine bwfn (fun h => ?_) (fun h => ?_) | refine bwtb (fun h => ?_) (fun h => ?_) | refine bwfb (fun h => ?_) (fun h => ?_) | refine bwt (fun h => ?_) (fun h => ?_) | refine bwf (fun h => ?_) (fun h => ?_) | refine bnt (fun h => ?_) (fun h => ?_) | refine bcase (fun h => ?_) (fun h => ?_)) <;> (conv => whnf))
    all_goals try (exfalso; omega)
    exact hK _
  · rintro done x rest L hda hdl h1 ih
    have hw2 := wrap_succ (n := done.length) (by omega)
    have hrx : (w.map fun es => [dExprs es])[done.length]? = some [dExprs x] := by simp [hda]
    have hLl : L.length = done.length := by rw [h1]; simp
    have hsn : (done ++ [x]).mapIdx row11 = L ++ [row11 done.length x] := by rw [List.mapIdx_concat, ← h1]
    (refine sgo_sound [777] 1000 ?_; conv => whnf)
    repeat' ((with_reducible first | refine bdec (fun h => ?_) (fun h => ?_) | refine bndec (fun h => ?_) (fun h => ?_) | refine bwtd (fun h => ?_) (fun h => ?_) | refine bwfd (fun h => ?_) (fun h => ?_) | refine bwtn (fun h => ?_) (fun h => ?_) | refine bwfn (fun h => ?_) (fun h => ?_) | refine bwtb (fun h => ?_) (fun h => ?_) | refine bwfb (fun h => ?_) (fun h => ?_) | refine bwt (fun h => ?_) (fun h => ?_) | refine bwf (fun h => ?_) (fun h => ?_) | refine bnt (fun h => ?_) (fun h => ?_) | refine bcase (fun h => ?_) (fun h => ?_)) <;> (conv => whnf))
    all_goals try (exfalso; omega)
    (refine swe_start 0 mixed rfl ?_; refine sgoe_sound [777] (nx := 3) ?_; conv => whnf)
    refine swe_index (i := done.length) (row := [dExprs x]) rfl rfl rfl rfl rfl rfl rfl (show 3 ≤ 3 by decide) rfl hrx ?_
    (refine sgoe_sound [777] (nx := 3) ?_; conv => whnf)
    refine swe_pure rfl rfl rfl rfl rfl rfl (show 3 ≤ 3 by decide) hk ?_
    (refine sgoe_sound [777] (nx := 3) ?_; conv => whnf)
    rw [show IntKind.i64.wrap ((done.length : Int) + 1) = (done.length : Int) + 1 from wrap64 (by omega) (by omega)]
    refine swe_append (b := 2) (kk := 14) (rows := L) (new := [row11 done.length x]) rfl rfl rfl rfl rfl rfl rfl rfl rfl rfl ⟨by decide, rfl⟩ (show 3 ≤ 3 by decide) rfl (by simp only [List.length_cons, List.length_nil]; omega) ?_
    (refine sgoe_sound [777] (nx := 3) ?_; conv => whnf)
    (refine sgo_sound [777] 1000 ?_; conv => whnf)
    rw [hw2]
    refine sw_keep [0, 2, 3, 4] ?_
    exact ih (L ++ [row11 done.length x]) hsn.symm
/-- an example of articles without conditions, whose articles may be written -/
def nil11 (i : Nat) (d : D) : List SV := [sI ((i : Int) + 1), sI 0, sI 1, sI 8766, sI 36525, sI 8766, .imm d, .imm dnil, sI 1, sI 100, sS cur11, sI 0, .imm (.isl 3 []), .imm (.isl 6 [])]
theorem nil11_len : ∀ (ds : List D) (f : Nat → Nat), ((ds.mapIdx fun i d => nil11 (f i) d).flatten).length = ds.length * 14
  | [], _ => rfl
  | d :: r, f => by
    rw [List.mapIdx_cons, List.flatten_cons, List.length_append, nil11_len r (fun i => f (i + 1))]
    simp only [List.length_cons, nil11, List.length_nil]
    omega
theorem ex11_vecs (ds : List D) (hw : ds.length ≤ 1000) (hds : ∀ d ∈ ds, d = dnil) : SCall Tryz.prog G 38 [.imm (.isl 1 (ds.map fun d => [d]))] [] (fun r H' => r = .agg [.imm (dDecls decl11), .imm (dDecls line11), .vec 2 ds.length] ∧ ∃ x y, H' = [x, y, .vec 14 (ds.mapIdx nil11).flatten]) := by
  have hk := konst11 G 100 cur11
  have hla : (ds.map fun d => [d]).length = ds.length := by simp
  refine scall_enter Tryz.func38 rfl (by rw [Tryz.ntmps38]; simp) ?_
  intro E hH hK
  (refine sgo_sound [777] 1000 ?_; conv => whnf)
  refine sw_keep [0, 2, 3, 4] ?_
  change SW E _ [(0, .imm (.isl 1 (ds.map fun d => [d]))), (2, .ptr 0 0), (3, .ptr 1 0), (4, sI 0)] [.cells [.imm dnil, .imm dnil, .imm dnil], .cells [.imm (dDecls decl11), .imm (dDecls line11), .imm dnil]]
  refine sw_vecCell 1 2 14 (cs := [.imm (dDecls decl11), .imm (dDecls line11), .imm dnil]) rfl rfl ?_
  change SW E _ [(0, .imm (.isl 1 (ds.map fun d => [d]))), (2, .ptr 0 0), (3, .ptr 1 0), (4, sI 0)] [.cells [.imm dnil, .imm dnil, .imm dnil], .cells [.imm (dDecls decl11), .imm (dDecls line11), .vec 2 0], .vec 14 []]
  refine sw_each ds (fun i (_ : List SV) => [(0, .imm (.isl 1 (ds.map fun d => [d]))), (2, .ptr 0 0), (3, .ptr 1 0), (4, sI i)]) (fun i L => [.cells [.imm dnil, .imm dnil, .imm dnil], .cells [.imm (dDecls decl11), .imm (dDecls line11), .vec 2 i], .vec 14 L])
    (fun done _ L => L = (done.mapIdx nil11).flatten) [] rfl ?_ ?_
  · rintro L h1
    (refine sgo_sound [777] 1000 ?_; conv => whnf)
    repeat' ((with_reducible first | refine bdec (fun h => ?_) (fun h => ?_) | refine bndec (fun h => ?_) (fun h => ?_) | refine bwtd (fun h => ?_) (fun h => ?_) | refine bwfd (fun h => ?_) (fun h => ?_) | refine bwtn (fun h => ?_) (fun h => ?_) | refine bwfn (fun h => ?_) (fun h => ?_) | refine bwtb (fun h => ?_) (fun h => ?_) | refine bwfb (fun h => ?_) (fun h => ?_) | refine bwt (fun h => ?_) (fun h => ?_) | refine bwf (fun h => ?_) (fun h => ?_) | refine bnt (fun h => ?_) (fun h => ?_) | refine bcase (fun h => ?_) (fun h => ?_)) <;> (conv => whnf))
    all_goals try (exfalso; omega)
    rw [h1]
    exact hK _ _ ⟨rfl, _, _, rfl⟩
  · rintro done x rest L hda hdl h1 ih
    have hw2 := wrap_succ (n := done.length) (by omega)
    have hrx : (ds.map fun d => [d])[done.length]? = some [x] := by simp [hda]
    have hLl : L.length = done.length * 14 := by rw [h1]; exact nil11_len done fun i => i
    have hx : x = dnil := hds x (by rw [hda]; simp)
    subst hx
    have hsn : ((done ++ [dnil]).mapIdx nil11).flatten = L ++ nil11 done.length dnil := by rw [List.mapIdx_concat, List.flatten_append, ← h1]; simp
    (refine sgo_sound [777] 1000 ?_; conv => whnf)
    repeat' ((with_reducible first | refine bdec (fun h => ?_) (fun h => ?_) | refine bndec (fun h => ?_) (fun h => ?_) | refine bwtd (fun h => ?_) (fun h => ?_) | refine bwfd (fun h => ?_) (fun h => ?_) | refine bwtn (fun h => ?_) (fun h => ?_) | refine bwfn (fun h => ?_) (fun h => ?_) | refine bwtb (fun h => ?_) (fun h => ?_) | refine bwfb (fun h => ?_) (fun h => ?_) | refine bwt (fun h => ?_) (fun h => ?_) | refine bwf (fun h => ?_) (fun h => ?_) | refine bnt (fun h => ?_) (fun h => ?_) | refine bcase (fun h => ?_) (fun h => ?_)) <;> (conv => whnf))
    all_goals try (exfalso; omega)
    (refine swe_start 0 mixed rfl ?_; refine sgoe_sound [777] (nx := 3) ?_; conv => whnf)
    refine swe_index (i := done.length) (row := [dnil]) rfl rfl rfl rfl rfl rfl rfl (show 3 ≤ 3 by decide) rfl hrx ?_
    (refine sgoe_sound [777] (nx := 3) ?_; conv => whnf)
    refine swe_pure rfl rfl rfl rfl rfl rfl (show 3 ≤ 3 by decide) hk ?_
    (refine sgoe_sound [777] (nx := 3) ?_; conv => whnf)
    rw [show IntKind.i64.wrap ((done.length : Int) + 1) = (done.length : Int) + 1 from wrap64 (by omega) (by omega)]
    refine swe_vappend (b := 2) (kk := 14) (n := done.length) (cs := L) (new := [[dI ((done.length : Int) + 1), dI 0, dI 1, dI 8766, dI 36525, dI 8766, dnil, dnil, dI 1, dI 100, dS cur11, dI 0, .isl 3 [], .isl 6 []]]) rfl rfl rfl rfl rfl rfl rfl rfl rfl rfl ⟨by decide, rfl⟩ (show 3 ≤ 3 by decide) rfl hLl (by decide) (Nat.le_refl 1) (by simp only [List.length_cons, List.length_nil]; omega) ?_
    (refine sgoe_sound [777] (nx := 3) ?_; conv => whnf)
    (refine sgo_sound [777] 1000 ?_; conv => whnf)
    rw [hw2]
    refine sw_keep [0, 2, 3, 4] ?_
    exact ih (L ++ nil11 done.length dnil) hsn.symm
end Go.Proofs.YtblpjknmhajcgaaGreatDoor

/- The examples of law 11: what is found (plain). -/
namespace Go.Proofs.YtblpjknmhajcgaaGreatDoor
open Go Go.Sh
set_option maxRecDepth 10000
set_option maxHeartbeats 4000000

def eK (n : Int) (u : ByteArray) : Ex := .mk 1 n u 0 [] []
def eF (n : Int) (u : ByteArray) : Ex := .mk 2 n u 0 [] []
def eT (op : Int) (a b : Ex) : Ex := .mk op 0 tT 0 [] [a, b]
def xLong : Ex := eT 9 (eK 480 tM) (eF 0 tM)
def xSunday : Ex := eT 8 (.mk 4 1 tN 0 [] []) (eK 7 tN)
def xYoung : Ex := eT 9 (eF 2 tN) (eK 18 tN)
def xAdult : Ex := eT 10 (eK 18 tN) (eF 2 tN)
def xOld : Ex := eT 9 (eK 30 tN) (eF 2 tN)
def xC : Codex := cod11 [[xLong, xSunday], [eT 6 xYoung xAdult], [eF 1 tT], [xOld]]
def xD : Codex := cod11 [[eF 1 tT], [xOld]]
def xR : Codex := ⟨decl11, line11, [⟨1, 0, 1, 8766, 36525, 8766, [], [], .mk 3 2 cur11 0 [] []⟩, ⟨2, 0, 1, 8766, 36525, 8766, [], [], .mk 3 1 cur11 0 [] []⟩]⟩
theorem xC_ok : codexOK xC = true := by kernel_rfl
theorem xD_ok : codexOK xD = true := by kernel_rfl
theorem xR_ok : codexOK xR = true := by kernel_rfl
/-! ### the same, for the kernel to compute -/
def ins11 (x : Int) : List Int → List Int
  | [] => [x]
  | y :: l => if x ≤ y then x :: y :: l else y :: ins11 x l
def isort : List Int → List Int
  | [] => []
  | x :: l => ins11 x (isort l)
theorem ins11_perm (x : Int) : ∀ l, (ins11 x l).Perm (x :: l)
  | [] => .refl _
  | y :: l => by
    rw [ins11]
    split
    · exact .refl _
    · exact ((ins11_perm x l).cons y).trans (.swap x y l)
theorem isort_perm : ∀ l, (isort l).Perm l
  | [] => .refl _
  | x :: l => (ins11_perm x _).trans ((isort_perm l).cons x)
theorem ins11_sorted (x : Int) : ∀ l, l.Pairwise (· ≤ ·) → (ins11 x l).Pairwise (· ≤ ·)
  | [], _ => by simp [ins11]
  | y :: l, h => by
    rw [List.pairwise_cons] at h
    rw [ins11]
    split
    · rename_i hxy
      rw [List.pairwise_cons]
      refine ⟨fun z hz => ?_, List.pairwise_cons.2 h⟩
      rcases List.mem_cons.1 hz with rfl | hz
      · exact hxy
      · have := h.1 z hz; omega
    · rename_i hxy
      rw [List.pairwise_cons]
      refine ⟨fun z hz => ?_, ins11_sorted x l h.2⟩
      rcases List.mem_cons.1 ((ins11_perm x l).mem_iff.1 hz) with rfl | hz
      · omega
      · exact h.1 z hz
theorem isort_sorted : ∀ l, (isort l).Pairwise (· ≤ ·)
  | [] => .nil
  | x :: l => ins11_sorted x _ (isort_sorted l)
theorem sorted_unique : ∀ {a b : List Int}, a.Perm b → a.Pairwise (· ≤ ·) → b.Pairwise (· ≤ ·) → a = b
  | [], b, h, _, _ => by rw [List.nil_perm.1 h]
  | x :: a, [], h, _, _ => by cases (List.perm_nil.1 h)
  | x :: a, y :: b, h, ha, hb => by
    rw [List.pairwise_cons] at ha hb
    have hxy : x = y := by
      have h1 : x ∈ y :: b := h.mem_iff.1 (by simp)
      have h2 : y ∈ x :: a := h.mem_iff.2 (by simp)
      rcases List.mem_cons.1 h1 with h1 | h1
      · exact h1
      · rcases List.mem_cons.1 h2 with h2 | h2
        · exact h2.symm
        · have := ha.1 y h2
          have := hb.1 x h1
          omega
    subst hxy
    rw [sorted_unique h.cons_inv ha.2 hb.2]
theorem sortN_isort (l : List Int) : sortN l = isort l := by
  refine sorted_unique ((List.mergeSort_perm l fun x y => decide (x ≤ y)).trans (isort_perm l).symm) ?_ (isort_sorted l)
  have := List.pairwise_mergeSort (le := fun x y : Int => decide (x ≤ y)) (fun a b c h1 h2 => by simp at *; omega) (fun a b => by simp; omega) l
  exact this.imp fun h => by simpa using h
def choicesK (m : List (Int × List Int)) : List (Int × List Int) := (isort (m.map (·.1))).map fun f => (f, isort ((alook f m).getD []))
theorem choicesK_eq (m : List (Int × List Int)) : choicesOf m = choicesK m := by
  unfold choicesOf choicesK
  rw [sortN_isort]
  congr 1
  funext f
  rw [sortN_isort]
def versK (vs : List Int) : List Int := Go.Lib.compact (isort vs)
theorem versK_eq (vs : List Int) : versOf vs = versK vs := by
  unfold versOf versK
  rw [show (vs.mergeSort fun x y => decide (x ≤ y)) = isort vs from sortN_isort vs]
def searchK (c : Codex) (vs : List Int) : Option Sr :=
  match artsGo c (versK vs) sr0 with
  | some s => if prodOf s.cands ≤ 4096 then some s else none
  | none => none
theorem searchK_eq (c : Codex) (vs : List Int) : searchOf c vs = searchK c vs := by unfold searchOf searchK; rw [versK_eq]; try rfl
def witGoK (ch : List (Int × List Int)) (s : Sr) (nf : Nat) : Nat → Int → List ByteArray → Option (Int × List Int)
  | 0, _, _ => none
  | n + 1, day, failed =>
    if verdict s.conds (st0 nf day) = 0 then witGoK ch s nf n (day + 1) failed
    else if sigOf s.atoms (st0 nf day) ∈ failed then witGoK ch s nf n (day + 1) failed
    else match assignGo s.conds ch (st0 nf day) with
      | some vs => some (day, vs)
      | none => witGoK ch s nf n (day + 1) (failed ++ [sigOf s.atoms (st0 nf day)])
theorem witGoK_eq (s : Sr) (nf : Nat) : ∀ (n : Nat) (day : Int) (failed : List ByteArray), witGo s nf n day failed = witGoK (choicesK s.cands) s nf n day failed
  | 0, _, _ => rfl
  | n + 1, day, failed => by
    rw [witGo, witGoK, witGoK_eq s nf n, choicesK_eq]
    congr 2
    cases assignGo s.conds (choicesK s.cands) (st0 nf day) with
    | some vs => rfl
    | none => simp only; exact witGoK_eq s nf n _ _
def witnessOfK (c : Codex) (vers : List Int) (s : Sr) : Option View :=
  let fr := frameOf c vers
  let to := min fr.2 (fr.1 + horizonOf s.dates)
  match witGoK (choicesK s.cands) s c.facts.length (to - fr.1).toNat fr.1 [] with
  | some (day, vs) => some ⟨day, (List.range c.facts.length).map fun (i : Nat) => (alook (i : Int) s.cands).isSome, vs, vers⟩
  | none => none
theorem witnessOfK_eq (c : Codex) (vers : List Int) (s : Sr) : witnessOf c vers s = witnessOfK c vers s := by unfold witnessOf witnessOfK; simp only [witGoK_eq]; try rfl
def witnessK (c : Codex) (vs : List Int) : Option View :=
  if codexOK c && vs.all (fun v => decide (0 ≤ v) && decide (v < c.arts.length)) then
    match searchK c vs with
    | some s => witnessOfK c (versK vs) s
    | none => none
  else none
theorem witnessK_eq (c : Codex) (vs : List Int) : witness c vs = witnessK c vs := by
  unfold witness witnessK
  rw [searchK_eq, versK_eq]
  simp only [witnessOfK_eq]
  try rfl
theorem xC_w0 : witness xC [0] = some ⟨8772, [true, false, false], [481, 0, 0], [0]⟩ := by rw [witnessK_eq]; kernel_rfl
theorem xC_w1 : witness xC [1] = none := by rw [witnessK_eq]; kernel_rfl
theorem xD_clash : clashOf xD = some (0, 1, ⟨8766, [false, true, true], [0, 1, 31], [0, 1]⟩) := by
  unfold clashOf
  simp only [witnessK_eq]
  kernel_rfl
theorem xC_dead : deadOf xC = [1] := by
  unfold deadOf
  simp only [witnessK_eq, searchK_eq]
  kernel_rfl
theorem xR_ring : ringOf (allNeeds xR) = [0, 1] := by kernel_rfl
theorem xC_ring : ringOf (allNeeds xC) = [] := by kernel_rfl
end Go.Proofs.YtblpjknmhajcgaaGreatDoor

/- In, Same, SameView of the reference (contracts). -/
namespace Go.Proofs.YtblpjknmhajcgaaGreatDoor
open Go Go.Sh
set_option maxRecDepth 10000
set_option maxHeartbeats 4000000
variable (G : List (Nat × D))

theorem in11_spec (l : List Int) (x : Int) (hz : l.length ≤ 1000000000) : SPure Tryz.prog G 31 [.imm (dInts l), sI x] (sB (decide (x ∈ l))) := by
  have hla : (l.map fun n => [dI n]).length = l.length := by simp
  refine spure_enter Tryz.func31 rfl (by rw [Tryz.ntmps31]; simp) rfl rfl ?_; intro E hH hK
  (refine sgo_sound [777] 1000 ?_; conv => whnf)
  refine sw_keep [0, 1, 5] ?_
  refine sw_each l (fun i (_ : Unit) => [(0, .imm (dInts l)), (1, sI x), (5, sI i)]) (fun _ _ => []) (fun done _ _ => x ∉ done) () (by simp) ?_ ?_
  · rintro _ h1
    (refine sgo_sound [777] 1000 ?_; conv => whnf)
    repeat' ((with_reducible first | refine bdec (fun h => ?_) (fun h => ?_) | refine bndec (fun h => ?_) (fun h => ?_) | refine bwtd (fun h => ?_) (fun h => ?_) | refine bwfd (fun h => ?_) (fun h => ?_) | refine bwtn (fun h => ?_) (fun h => ?_) | refine bwfn (fun h => ?_) (fun h => ?_) | refine bwtb (fun h => ?_) (fun h => ?_) | refine bwfb (fun h => ?_) (fun h => ?_) | refine bwt (fun h => ?_) (fun h => ?_) | refine bwf (fun h => ?_) (fun h => ?_) | refine bnt (fun h => ?_) (fun h => ?_) | refine bcase (fun h => ?_) (fun h => ?_)) <;> (conv => whnf))
    all_goals try (exfalso; omega)
    rw [decide_eq_false h1] at hK
    exact hK _
  · rintro done y rest _ hda hdl h1 ih
    have hw := wrap_succ (n := done.length) (by omega)
    have hrx : (l.map fun n => [dI n])[((done.length : Nat) : Int).toNat]? = some [dI y] := by simp [hda]
    (refine sgo_sound [777] 1000 ?_; conv => whnf)
    repeat' ((with_reducible first | refine bdec (fun h => ?_) (fun h => ?_) | refine bndec (fun h => ?_) (fun h => ?_) | refine bwtd (fun h => ?_) (fun h => ?_) | refine bwfd (fun h => ?_) (fun h => ?_) | refine bwtn (fun h => ?_) (fun h => ?_) | refine bwfn (fun h => ?_) (fun h => ?_) | refine bwtb (fun h => ?_) (fun h => ?_) | refine bwfb (fun h => ?_) (fun h => ?_) | refine bwt (fun h => ?_) (fun h => ?_) | refine bwf (fun h => ?_) (fun h => ?_) | refine bnt (fun h => ?_) (fun h => ?_) | refine bcase (fun h => ?_) (fun h => ?_)) <;> (conv => whnf))
    all_goals try (exfalso; omega)
    refine swr_index rfl rfl rfl rfl rfl rfl rfl rfl  hrx ?_
    (refine sgor_sound [777] 1000 ?_; conv => whnf)
    repeat' ((with_reducible first | refine bdec (fun h => ?_) (fun h => ?_) | refine bndec (fun h => ?_) (fun h => ?_) | refine bwtd (fun h => ?_) (fun h => ?_) | refine bwfd (fun h => ?_) (fun h => ?_) | refine bwtn (fun h => ?_) (fun h => ?_) | refine bwfn (fun h => ?_) (fun h => ?_) | refine bwtb (fun h => ?_) (fun h => ?_) | refine bwfb (fun h => ?_) (fun h => ?_) | refine bwt (fun h => ?_) (fun h => ?_) | refine bwf (fun h => ?_) (fun h => ?_) | refine bnt (fun h => ?_) (fun h => ?_) | refine bcase (fun h => ?_) (fun h => ?_)) <;> (conv => whnf))
    · rw [decide_eq_true (show x ∈ l by rw [hda, h]; simp)] at hK
      exact hK _
    · rw [hw]
      refine sw_keep [0, 1, 5] ?_
      exact ih () (by simp only [List.mem_append, List.mem_cons, List.not_mem_nil, or_false, not_or]; exact ⟨h1, fun e => h e.symm⟩)
theorem same11_spec (a b : List Int) (ha : a.length ≤ 1000000000) (hb : b.length ≤ 1000000000) : SPure Tryz.prog G 16 [.imm (dInts a), .imm (dInts b)] (sB (decide (a = b))) := by
  have hla : (a.map fun n => [dI n]).length = a.length := by simp
  have hlb : (b.map fun n => [dI n]).length = b.length := by simp
  refine spure_enter Tryz.func16 rfl (by rw [Tryz.ntmps16]; simp) rfl rfl ?_; intro E hH hK
  (refine sgo_sound [777] 1000 ?_; conv => whnf)
  repeat' ((with_reducible first | refine bdec (fun h => ?_) (fun h => ?_) | refine bndec (fun h => ?_) (fun h => ?_) | refine bwtd (fun h => ?_) (fun h => ?_) | refine bwfd (fun h => ?_) (fun h => ?_) | refine bwtn (fun h => ?_) (fun h => ?_) | refine bwfn (fun h => ?_) (fun h => ?_) | refine bwtb (fun h => ?_) (fun h => ?_) | refine bwfb (fun h => ?_) (fun h => ?_) | refine bwt (fun h => ?_) (fun h => ?_) | refine bwf (fun h => ?_) (fun h => ?_) | refine bnt (fun h => ?_) (fun h => ?_) | refine bcase (fun h => ?_) (fun h => ?_)) <;> (conv => whnf))
  · rw [decide_eq_false (show ¬ a = b by rintro rfl; omega)] at hK
    exact hK _
  have hll : a.length = b.length := by omega
  refine sw_keep [0, 1, 5] ?_
  refine sw_each a (fun i (_ : Unit) => [(0, .imm (dInts a)), (1, .imm (dInts b)), (5, sI i)]) (fun _ _ => []) (fun done _ _ => done = b.take done.length) () (by simp) ?_ ?_
  · rintro _ h1
    rw [hll, List.take_length] at h1
    (refine sgo_sound [777] 1000 ?_; conv => whnf)
    repeat' ((with_reducible first | refine bdec (fun h => ?_) (fun h => ?_) | refine bndec (fun h => ?_) (fun h => ?_) | refine bwtd (fun h => ?_) (fun h => ?_) | refine bwfd (fun h => ?_) (fun h => ?_) | refine bwtn (fun h => ?_) (fun h => ?_) | refine bwfn (fun h => ?_) (fun h => ?_) | refine bwtb (fun h => ?_) (fun h => ?_) | refine bwfb (fun h => ?_) (fun h => ?_) | refine bwt (fun h => ?_) (fun h => ?_) | refine bwf (fun h => ?_) (fun h => ?_) | refine bnt (fun h => ?_) (fun h => ?_) | refine bcase (fun h => ?_) (fun h => ?_)) <;> (conv => whnf))
    all_goals try (exfalso; omega)
    rw [decide_eq_true h1] at hK
    exact hK _
  · rintro done x rest _ hda hdl h1 ih
    have hw := wrap_succ (n := done.length) (by omega)
    have hlt : done.length < b.length := by omega
    obtain ⟨y, hy⟩ : ∃ y, b[done.length]? = some y := ⟨_, List.getElem?_eq_getElem hlt⟩
    have hrx : (a.map fun n => [dI n])[done.length]? = some [dI x] := by simp [hda]
    have hry : (b.map fun n => [dI n])[done.length]? = some [dI y] := by simp [hy]
    have hax : a[done.length]? = some x := by simp [hda]
    have htk : b.take (done.length + 1) = b.take done.length ++ [y] := by rw [List.take_add_one, hy]; rfl
    (refine sgo_sound [777] 1000 ?_; conv => whnf)
    repeat' ((with_reducible first | refine bdec (fun h => ?_) (fun h => ?_) | refine bndec (fun h => ?_) (fun h => ?_) | refine bwtd (fun h => ?_) (fun h => ?_) | refine bwfd (fun h => ?_) (fun h => ?_) | refine bwtn (fun h => ?_) (fun h => ?_) | refine bwfn (fun h => ?_) (fun h => ?_) | refine bwtb (fun h => ?_) (fun h => ?_) | refine bwfb (fun h => ?_) (fun h => ?_) | refine bwt (fun h => ?_) (fun h => ?_) | refine bwf (fun h => ?_) (fun h => ?_) | refine bnt (fun h => ?_) (fun h => ?_) | refine bcase (fun h => ?_) (fun h => ?_)) <;> (conv => whnf))
    all_goals try (exfalso; omega)
    (refine swe_start 0 mixed rfl ?_; refine sgoe_sound [777] (nx := 0) ?_; conv => whnf)
    refine swe_index (i := done.length) (row := [dI x]) rfl rfl rfl rfl rfl rfl rfl (by simp) rfl hrx ?_
    (refine sgoe_sound [777] (nx := 0) ?_; conv => whnf)
    refine swe_index (i := done.length) (row := [dI y]) rfl rfl rfl rfl rfl rfl rfl (by simp) rfl hry ?_
    (refine sgoe_sound [777] (nx := 0) ?_; conv => whnf)
    (refine sgo_sound [777] 1000 ?_; conv => whnf)
    repeat' ((with_reducible first | refine bdec (fun h => ?_) (fun h => ?_) | refine bndec (fun h => ?_) (fun h => ?_) | refine bwtd (fun h => ?_) (fun h => ?_) | refine bwfd (fun h => ?_) (fun h => ?_) | refine bwtn (fun h => ?_) (fun h => ?_) | refine bwfn (fun h => ?_) (fun h => ?_) | refine bwtb (fun h => ?_) (fun h => ?_) | refine bwfb (fun h => ?_) (fun h => ?_) | refine bwt (fun h => ?_) (fun h => ?_) | refine bwf (fun h => ?_) (fun h => ?_) | refine bnt (fun h => ?_) (fun h => ?_) | refine bcase (fun h => ?_) (fun h => ?_)) <;> (conv => whnf))
    · have hne := h
      rw [decide_eq_false (show ¬ a = b by rintro rfl; rw [hax] at hy; exact hne (Option.some.inj hy))] at hK
      exact hK _
    · rw [hw]
      refine sw_keep [0, 1, 5] ?_
      refine ih () ?_
      rw [List.length_append, List.length_cons, List.length_nil, htk, ← h1, h]
theorem sameView11_spec (v w : View) (hv : v.fit) (hw1 : w.fit) (hz : v.has.length ≤ 1000000000 ∧ v.value.length ≤ 1000000000 ∧ v.arts.length ≤ 1000000000) (hz2 : w.value.length ≤ 1000000000 ∧ w.arts.length ≤ 1000000000) :
    SPure Tryz.prog G 15 [v.sv, w.sv] (sB (v.same' w)) := by
  obtain ⟨d1, h1, v1, a1⟩ := v
  obtain ⟨d2, h2, v2, a2⟩ := w
  simp only at hz hz2
  have hla : (h1.map fun b => [dB b]).length = h1.length := by simp
  have hlb : (h2.map fun b => [dB b]).length = h2.length := by simp
  have hs1 := same11_spec G v1 v2 hz.2.1 hz2.1
  have hs2 := same11_spec G a1 a2 hz.2.2 hz2.2
  have he : View.same' ⟨d1, h1, v1, a1⟩ ⟨d2, h2, v2, a2⟩ = (decide (d1 = d2) && decide (h1 = h2) && decide (v1 = v2) && decide (a1 = a2)) := by
    simp [View.same', View.same, Bool.and_assoc]
  rw [he]
  generalize decide (v1 = v2) = z1 at hs1
  generalize decide (a1 = a2) = z2 at hs2
  refine spure_enter Tryz.func15 rfl (by rw [Tryz.ntmps15]; simp) rfl rfl ?_; intro E hH hK
  (refine sgo_sound [777] 1000 ?_; conv => whnf)
  repeat' ((with_reducible first | refine bdec (fun h => ?_) (fun h => ?_) | refine bndec (fun h => ?_) (fun h => ?_) | refine bwtd (fun h => ?_) (fun h => ?_) | refine bwfd (fun h => ?_) (fun h => ?_) | refine bwtn (fun h => ?_) (fun h => ?_) | refine bwfn (fun h => ?_) (fun h => ?_) | refine bwtb (fun h => ?_) (fun h => ?_) | refine bwfb (fun h => ?_) (fun h => ?_) | refine bwt (fun h => ?_) (fun h => ?_) | refine bwf (fun h => ?_) (fun h => ?_) | refine bnt (fun h => ?_) (fun h => ?_) | refine bcase (fun h => ?_) (fun h => ?_)) <;> (conv => whnf))
  · have h' : ¬ h1.length = h2.length := by simp only at h; omega
    rw [decide_eq_false (show ¬ h1 = h2 by rintro rfl; exact h' rfl), Bool.and_false, Bool.false_and, Bool.false_and] at hK
    exact hK _
  · rename_i g1
    have hll : h1.length = h2.length := by simp only at h; omega
    have g1 : d1 = d2 := g1
    rw [decide_eq_true g1, Bool.true_and] at hK
    refine sw_keep [2, 3, 5] ?_
    change SW E _ [(2, .ptr 0 0), (3, .ptr 1 0), (5, sI 0)] [.cells [sI d1, .imm (dBools h1), .imm (dInts v1), .imm (dInts a1)], .cells [sI d2, .imm (dBools h2), .imm (dInts v2), .imm (dInts a2)]]
    refine sw_each h1 (fun i (_ : Unit) => [(2, .ptr 0 0), (3, .ptr 1 0), (5, sI i)]) (fun _ _ => [.cells [sI d1, .imm (dBools h1), .imm (dInts v1), .imm (dInts a1)], .cells [sI d2, .imm (dBools h2), .imm (dInts v2), .imm (dInts a2)]]) (fun done _ _ => done = h2.take done.length) () (by simp) ?_ ?_
    · rintro _ e1
      rw [hll, List.take_length] at e1
      rw [decide_eq_true e1, Bool.true_and] at hK
      (refine sgo_sound [777] 1000 ?_; conv => whnf)
      repeat' ((with_reducible first | refine bdec (fun h => ?_) (fun h => ?_) | refine bndec (fun h => ?_) (fun h => ?_) | refine bwtd (fun h => ?_) (fun h => ?_) | refine bwfd (fun h => ?_) (fun h => ?_) | refine bwtn (fun h => ?_) (fun h => ?_) | refine bwfn (fun h => ?_) (fun h => ?_) | refine bwtb (fun h => ?_) (fun h => ?_) | refine bwfb (fun h => ?_) (fun h => ?_) | refine bwt (fun h => ?_) (fun h => ?_) | refine bwf (fun h => ?_) (fun h => ?_) | refine bnt (fun h => ?_) (fun h => ?_) | refine bcase (fun h => ?_) (fun h => ?_)) <;> (conv => whnf))
      all_goals try (exfalso; omega)
      refine swr_pure rfl rfl rfl rfl rfl rfl  hs1 ?_
      cases z1 <;> ((refine sgor_sound [777] 1000 ?_; conv => whnf))
      · exact hK _
      · refine swr_pure rfl rfl rfl rfl rfl rfl  hs2 ?_
        (refine sgor_sound [777] 1000 ?_; conv => whnf)
        exact hK _
    · rintro done x rest _ hda hdl e1 ih
      have hw := wrap_succ (n := done.length) (by omega)
      have hlt : done.length < h2.length := by omega
      obtain ⟨y, hy⟩ : ∃ y, h2[done.length]? = some y := ⟨_, List.getElem?_eq_getElem hlt⟩
      have hrx : (h1.map fun b => [dB b])[done.length]? = some [dB x] := by simp [hda]
      have hry : (h2.map fun b => [dB b])[done.length]? = some [dB y] := by simp [hy]
      have hax : h1[done.length]? = some x := by simp [hda]
      have htk : h2.take (done.length + 1) = h2.take done.length ++ [y] := by rw [List.take_add_one, hy]; rfl
      have hno : x ≠ y → decide (h1 = h2) = false := fun hne => decide_eq_false (by rintro rfl; rw [hax] at hy; exact hne (Option.some.inj hy))
      have hyes : x = y → done ++ [x] = h2.take (done ++ [x]).length := fun e => by rw [List.length_append, List.length_cons, List.length_nil, htk, ← e1, e]
      (refine sgo_sound [777] 1000 ?_; conv => whnf)
      repeat' ((with_reducible first | refine bdec (fun h => ?_) (fun h => ?_) | refine bndec (fun h => ?_) (fun h => ?_) | refine bwtd (fun h => ?_) (fun h => ?_) | refine bwfd (fun h => ?_) (fun h => ?_) | refine bwtn (fun h => ?_) (fun h => ?_) | refine bwfn (fun h => ?_) (fun h => ?_) | refine bwtb (fun h => ?_) (fun h => ?_) | refine bwfb (fun h => ?_) (fun h => ?_) | refine bwt (fun h => ?_) (fun h => ?_) | refine bwf (fun h => ?_) (fun h => ?_) | refine bnt (fun h => ?_) (fun h => ?_) | refine bcase (fun h => ?_) (fun h => ?_)) <;> (conv => whnf))
      all_goals try (exfalso; omega)
      (refine swe_start 0 mixed rfl ?_; refine sgoe_sound [777] (nx := 2) ?_; conv => whnf)
      refine swe_index (i := done.length) (row := [dB x]) rfl rfl rfl rfl rfl rfl rfl (show 2 ≤ 2 by decide) rfl hrx ?_
      (refine sgoe_sound [777] (nx := 2) ?_; conv => whnf)
      refine swe_index (i := done.length) (row := [dB y]) rfl rfl rfl rfl rfl rfl rfl (show 2 ≤ 2 by decide) rfl hry ?_
      cases x <;> cases y <;> ((refine sgoe_sound [777] (nx := 2) ?_; conv => whnf)) <;> ((refine sgo_sound [777] 1000 ?_; conv => whnf))
      · rw [hw]
        refine sw_keep [2, 3, 5] ?_
        exact ih () (hyes rfl)
      · rw [hno (by decide), Bool.false_and, Bool.false_and] at hK
        exact hK _
      · rw [hno (by decide), Bool.false_and, Bool.false_and] at hK
        exact hK _
      · rw [hw]
        refine sw_keep [2, 3, 5] ?_
        exact ih () (hyes rfl)
  · have h' : ¬ d1 = d2 := h
    rw [decide_eq_false h', Bool.false_and, Bool.false_and, Bool.false_and] at hK
    exact hK _
end Go.Proofs.YtblpjknmhajcgaaGreatDoor

/- Dead and Clash (contracts). -/
namespace Go.Proofs.YtblpjknmhajcgaaGreatDoor
open Go Go.Sh
set_option maxRecDepth 10000
set_option maxHeartbeats 4000000

def boxC (c : Codex) : SObj := .cells [.imm (dDecls c.facts), .imm (dDecls c.lines), .imm (dArts c.arts)]
def isDead (c : Codex) (i : Int) : Bool := (searchOf c [i]).isSome && (witness c [i]).isNone
theorem witness_in {c : Codex} (hok : codexOK c = true) {vs : List Int} (hv : ∀ v ∈ vs, 0 ≤ v ∧ v < c.arts.length) : witness c vs = match searchOf c vs with | some s => witnessOf c (versOf vs) s | none => none := by
  have hall : vs.all (fun v => decide (0 ≤ v) && decide (v < c.arts.length)) = true := List.all_eq_true.2 fun v h => by
    have := hv v h
    simp only [Bool.and_eq_true, decide_eq_true_eq]
    exact this
  unfold witness
  rw [hok, hall, Bool.true_and, if_pos rfl]
  try rfl
theorem deadOf_ok {c : Codex} (hok : codexOK c = true) : deadOf c = ((List.range c.arts.length).map fun (i : Nat) => (i : Int)).filter (isDead c) := by
  unfold deadOf
  rw [if_pos hok]
  rfl
theorem deadP0 (c : Codex) (hfit : Codex.fit c) (hS : codexOK c = true → SearchC c) (hz : c.arts.length ≤ 1000000) :
    SPure Tryz.prog G0 17 [c.sv] (if codexOK c = true then .imm (dInts (deadOf c)) else nilV) := by
  have hal : (c.arts.map Article.cells).length = c.arts.length := by simp
  have hV := codexValid_spec G0 c hfit
  refine spure_enter Tryz.func17 rfl (by rw [Tryz.ntmps17]; simp) rfl (by split <;> rfl) ?_
  intro E hH hK
  have hdo := @deadOf_ok c
  have hwi := @witness_in c
  generalize hz2 : codexOK c = z at hV hS hK hdo hwi
  rw [show c.sv = .agg [.imm (dDecls c.facts), .imm (dDecls c.lines), .imm (dArts c.arts)] from rfl]
  (refine sgo_sound [777] 1000 ?_; conv => whnf)
  refine swr_pure rfl rfl rfl rfl rfl rfl  hV ?_
  cases z <;> ((refine sgor_sound [777] 1000 ?_; conv => whnf))
  · exact hK _
  have hS := hS rfl
  rw [if_pos rfl, hdo rfl] at hK
  refine sw_tok (n := 3) (kk := 1) rfl ?_
  refine sw_keep [1, 3, 13, 14, 15] ?_
  change SW E _ [(1, .ptr 0 0), (3, .asl 1 1 []), (13, .imm (dArts c.arts)), (14, sI (c.arts.map Article.cells).length), (15, sI 0)] [boxC c, .tok 1 0]
  refine sw_each c.arts (fun i (l : List Int) => [(1, .ptr 0 0), (3, .asl 1 1 (l.map fun n => [dI n])), (13, .imm (dArts c.arts)), (14, sI (c.arts.map Article.cells).length), (15, sI i)]) (fun _ l => [boxC c, .tok 1 (l.map fun n => [dI n]).length])
    (fun done rest l => l = ((List.range done.length).map fun (i : Nat) => (i : Int)).filter (isDead c) ∧ l.length ≤ done.length) [] ⟨rfl, by simp⟩ ?_ ?_
  · rintro l ⟨h2, _⟩
    rw [← h2] at hK
    refine sw_solid ?_
    change SW E _ [(1, .ptr 0 0), (3, .imm (dInts l)), (13, .imm (dArts c.arts)), (14, sI (c.arts.map Article.cells).length), (15, sI c.arts.length)] _
    (refine sgo_sound [777] 1000 ?_; conv => whnf)
    repeat' ((with_reducible first | refine bdec (fun h => ?_) (fun h => ?_) | refine bndec (fun h => ?_) (fun h => ?_) | refine bwtd (fun h => ?_) (fun h => ?_) | refine bwfd (fun h => ?_) (fun h => ?_) | refine bwtn (fun h => ?_) (fun h => ?_) | refine bwfn (fun h => ?_) (fun h => ?_) | refine bwtb (fun h => ?_) (fun h => ?_) | refine bwfb (fun h => ?_) (fun h => ?_) | refine bwt (fun h => ?_) (fun h => ?_) | refine bwf (fun h => ?_) (fun h => ?_) | refine bnt (fun h => ?_) (fun h => ?_) | refine bcase (fun h => ?_) (fun h => ?_)) <;> (conv => whnf))
    all_goals try (exfalso; omega)
    exact hK _
  · rintro done x rest l hda hdl ⟨h2, h3⟩ ih
    have hw := wrap_succ (n := done.length) (by omega)
    have hi : ∀ v ∈ [(done.length : Int)], 0 ≤ v ∧ v < c.arts.length := fun v hv => by simp at hv; subst hv; omega
    have hN := newSearch_at c hS [(done.length : Int)] hi (by simp) [boxC c, .tok 1 (l.map fun n => [dI n]).length]
    have hwi2 := hwi rfl hi
    have hsn : ∀ b, isDead c (done.length : Int) = b → ((List.range (done.length + 1)).map fun (i : Nat) => (i : Int)).filter (isDead c) = l ++ (if b = true then [(done.length : Int)] else []) := fun b hb => by
      rw [List.range_succ, List.map_append, List.filter_append, ← h2]
      simp only [List.map_cons, List.map_nil, List.filter_cons, hb, List.filter_nil]
    have hnx : ∀ b, isDead c (done.length : Int) = b → b = false → SW E _ _ _ := fun b hb hf => by
      subst hf
      have e := hsn _ hb
      simp only [Bool.false_eq_true, if_false, List.append_nil] at e
      exact ih l ⟨by rw [List.length_append]; exact e.symm, by simp only [List.length_append, List.length_cons, List.length_nil]; omega⟩
    (refine sgo_sound [777] 1000 ?_; conv => whnf)
    repeat' ((with_reducible first | refine bdec (fun h => ?_) (fun h => ?_) | refine bndec (fun h => ?_) (fun h => ?_) | refine bwtd (fun h => ?_) (fun h => ?_) | refine bwfd (fun h => ?_) (fun h => ?_) | refine bwtn (fun h => ?_) (fun h => ?_) | refine bwfn (fun h => ?_) (fun h => ?_) | refine bwtb (fun h => ?_) (fun h => ?_) | refine bwfb (fun h => ?_) (fun h => ?_) | refine bwt (fun h => ?_) (fun h => ?_) | refine bwf (fun h => ?_) (fun h => ?_) | refine bnt (fun h => ?_) (fun h => ?_) | refine bcase (fun h => ?_) (fun h => ?_)) <;> (conv => whnf))
    all_goals try (exfalso; omega)
    refine swr_call (argv := [c.sv, .imm (dInts [(done.length : Int)])]) rfl rfl rfl rfl rfl rfl (hN.mono ?_)
    intro r H' hK1
    have hkc : ∀ m, ([boxC c, SObj.tok 1 m]).all (SObj.under 2) = true := fun _ => rfl
    cases hq : searchOf c [(done.length : Int)] with
    | none =>
      rw [hq] at hK1
      have hdd : isDead c (done.length : Int) = false := by unfold isDead; rw [hq]; rfl
      obtain ⟨p, H1, hp, rfl, rfl⟩ := hK1
      refine ⟨Nat.le_add_left 2 _, ?_⟩
      refine Eq.mpr (congrArg (fun h => SWr E _ _ _ _ h) (show _ = boxC c :: .tok 1 (l.map fun n => [dI n]).length :: H1 from rfl)) ?_
      rcases hp with rfl | rfl <;> ((refine sgor_sound [777] 1000 ?_; conv => whnf)) <;> rw [hw]
      all_goals exact sw_kc [1, 3, 13, 14, 15] 2 (by rw [hH]; exact Nat.zero_le 2) (Nat.succ_le_succ (Nat.succ_le_succ (Nat.zero_le _))) rfl (hkc _) (hnx _ hdd rfl)
    | some q =>
      have hWt := witness_at c hS [(done.length : Int)] hi (by simp) q hq [boxC c, .tok 1 (l.map fun n => [dI n]).length]
      rw [hq] at hK1 hwi2
      simp only at hwi2
      obtain ⟨rfl, rfl⟩ := hK1
      refine ⟨by rw [List.length_append]; exact Nat.le_add_right _ _, ?_⟩
      (refine sgor_sound [777] 1000 ?_; conv => whnf)
      refine swr_call rfl rfl rfl rfl rfl rfl (hWt.mono ?_)
      rintro r H' ⟨rfl, ⟨H1, rfl⟩, hl⟩
      refine ⟨hl, ?_⟩
      rw [← hwi2]
      have hdd : isDead c (done.length : Int) = (witness c [(done.length : Int)]).isNone := by unfold isDead; rw [hq]; rfl
      refine swr_lift (t' := [(1, .ptr 0 0), (3, .asl 1 1 (l.map fun n => [dI n])), (4, sI done.length), (13, .imm (dArts c.arts)), (14, sI (c.arts.map Article.cells).length), (15, sI done.length), (29, viewR0 (witness c [(done.length : Int)]))]) (H' := [boxC c, .tok 1 (l.map fun n => [dI n]).length])
        (fun k h => sw_keep [1, 3, 4, 13, 14, 15, 29] (sw_cut 2 (by rw [hH]; exact Nat.zero_le 2) (Nat.succ_le_succ (Nat.succ_le_succ (Nat.zero_le _))) (by cases witness c [(done.length : Int)] <;> rfl) (hkc _) h)) ?_
      generalize witness c [(done.length : Int)] = o at hdd ⊢
      cases o with
      | none =>
        have e := hsn _ hdd
        simp only [Option.isNone_none, if_true] at e
        (refine sgor_sound [777] 1000 ?_; conv => whnf)
        refine swr_append (b := 1) (kk := 1) (rows := l.map fun n => [dI n]) (new := [[dI done.length]]) rfl rfl rfl rfl rfl rfl rfl rfl rfl rfl ⟨by decide, rfl⟩ rfl (by rw [List.length_map]; simp only [List.length_cons, List.length_nil]; omega) ?_
        have e5 : (l.map fun n => [dI n]) ++ [[dI done.length]] = (l ++ [(done.length : Int)]).map fun n => [dI n] := by simp
        have e6 : (l.map fun n => [dI n]).length + [[dI done.length]].length = ((l ++ [(done.length : Int)]).map fun n => [dI n]).length := by simp
        refine Eq.mpr (congrArg (fun v => SWr E _ _ _ (tput _ _ (.asl 1 1 v)) _) e5) ?_
        refine Eq.mpr (congrArg (fun v => SWr E _ _ _ _ (List.set _ 1 (.tok 1 v))) e6) ?_
        (refine sgor_sound [777] 1000 ?_; conv => whnf)
        rw [hw]
        refine sw_kc [1, 3, 13, 14, 15] 2 (by rw [hH]; exact Nat.zero_le 2) (Nat.succ_le_succ (Nat.succ_le_succ (Nat.zero_le _))) rfl (hkc _) ?_
        refine ih (l ++ [(done.length : Int)]) ⟨?_, ?_⟩
        · rw [List.length_append]; exact e.symm
        · simp only [List.length_append, List.length_cons, List.length_nil]; omega
      | some v =>
        (refine sgor_sound [777] 1000 ?_; conv => whnf)
        rw [hw]
        exact sw_kc [1, 3, 13, 14, 15] 2 (by rw [hH]; exact Nat.zero_le 2) (Nat.succ_le_succ (Nat.succ_le_succ (Nat.zero_le _))) rfl (hkc _) (hnx _ hdd rfl)
theorem deadP_spec (c : Codex) (hfit : Codex.fit c) (hS : codexOK c = true → SearchC c) (hz : c.arts.length ≤ 1000000) :
    SPure Tryz.prog G0 17 [c.sv] (.imm (dInts (deadOf c))) := by
  have h := deadP0 c hfit hS hz
  split at h
  · exact h
  · rename_i hn
    rw [show deadOf c = [] by unfold deadOf; rw [if_neg hn]]
    exact spure_is h (SV.Is.nil 1)
end Go.Proofs.YtblpjknmhajcgaaGreatDoor

/- Clash (contract). -/
namespace Go.Proofs.YtblpjknmhajcgaaGreatDoor
open Go Go.Sh
set_option maxRecDepth 10000
set_option maxHeartbeats 4000000

def clashF (c : Codex) (p : Int × Int) : Option (Int × Int × View) := if contraOf c p.1 p.2 then (witness c [p.1, p.2]).map fun v => (p.1, p.2, v) else none
/-- the pairs of version i from j on -/
def rowP (n i j : Nat) : List (Int × Int) := (List.range' j (n - j)).map fun (j : Nat) => ((i : Int), (j : Int))
def restP (n i : Nat) : List (Int × Int) := (List.range' i (n - i)).flatMap fun i => rowP n i (i + 1)
theorem filter_range' : ∀ (k s i : Nat), s ≤ i + 1 → (List.range' s k).filter (fun j => decide (i < j)) = List.range' (i + 1) (s + k - (i + 1))
  | 0, s, i, h => by
    have : s + 0 - (i + 1) = 0 := by omega
    rw [this]; rfl
  | k + 1, s, i, h => by
    rw [List.range'_succ, List.filter_cons]
    by_cases hs : i < s
    · rw [if_pos (by simpa using hs)]
      have e : s = i + 1 := by omega
      subst e
      have h2 : ∀ (k s : Nat), i < s → (List.range' s k).filter (fun j => decide (i < j)) = List.range' s k := fun k s hs => List.filter_eq_self.2 fun j hj => by
        have := (List.mem_range'_1.1 hj).1
        simp; omega
      rw [h2 k _ (by omega), show i + 1 + (k + 1) - (i + 1) = k + 1 by omega, List.range'_succ]
    · rw [if_neg (by simpa using hs), filter_range' k (s + 1) i (by omega)]
      congr 1
      omega
theorem pairsOf_eq (n : Nat) : pairsOf n = restP n 0 := by
  unfold pairsOf restP rowP
  rw [List.range_eq_range', Nat.sub_zero]
  congr 1
  funext i
  rw [filter_range' n 0 i (by omega), Nat.zero_add]
theorem restP_step {n i : Nat} (h : i < n) : restP n i = rowP n i (i + 1) ++ restP n (i + 1) := by
  unfold restP
  rw [show n - i = (n - (i + 1)) + 1 by omega, List.range'_succ, List.flatMap_cons]
theorem restP_end (n : Nat) : restP n n = [] := by unfold restP; simp
theorem rowP_step {n i j : Nat} (h : j < n) : rowP n i j = ((i : Int), (j : Int)) :: rowP n i (j + 1) := by
  unfold rowP
  rw [show n - j = (n - (j + 1)) + 1 by omega, List.range'_succ, List.map_cons]
theorem rowP_end {n i j : Nat} (h : n ≤ j) : rowP n i j = [] := by
  unfold rowP
  rw [show n - j = 0 by omega]; rfl
theorem clashOf_ok {c : Codex} (hok : codexOK c = true) : clashOf c = (restP c.arts.length 0).findSome? (clashF c) := by
  unfold clashOf
  rw [if_pos hok, pairsOf_eq]
  rfl
def clashR0 (o : Option (Int × Int × View)) : SV :=
  match o with
  | some (i, j, v) => .tup [sI i, sI j, .agg [sI v.day, .imm (dBools v.has), .imm (dInts v.value), .imm (dInts v.arts)], sB true]
  | none => .tup [sI 0, sI 0, .agg zviewS, sB false]
def clashR (o : Option (Int × Int × View)) : SV := .tup [sI ((o.map (·.1)).getD 0), sI ((o.map (·.2.1)).getD 0), View.sv ((o.map (·.2.2)).getD zView), sB o.isSome]
theorem clashR0_is (o : Option (Int × Int × View)) : (clashR0 o).Is (clashR o) := by
  cases o with
  | some v => exact SV.Is.refl _
  | none => exact SIs.tup (.cons (SV.Is.refl _) (.cons (SV.Is.refl _) (.cons (SIs.agg (.cons (SV.Is.refl _) (.cons (SV.Is.nil 1) (.cons (SV.Is.nil 1) (.cons (SV.Is.nil 1) .nil))))) (.cons (SV.Is.refl _) .nil))))

theorem clashP0 (c : Codex) (hfit : Codex.fit c) (hS : codexOK c = true → SearchC c) (hz : c.arts.length ≤ 1000000) :
    SPure Tryz.prog G0 13 [c.sv] (clashR0 (clashOf c)) := by
  have hal : (c.arts.map Article.cells).length = c.arts.length := by simp
  have hV := codexValid_spec G0 c hfit
  refine spure_enter Tryz.func13 rfl (by rw [Tryz.ntmps13]; simp) rfl (by cases clashOf c <;> rfl) ?_
  intro E hH hK
  have hdo := @clashOf_ok c
  have hwi := @witness_in c
  have hno : codexOK c = false → clashOf c = none := fun h => by unfold clashOf; rw [if_neg (by simp [h])]
  generalize hz2 : codexOK c = z at hV hS hdo hwi hno
  rw [show c.sv = .agg [.imm (dDecls c.facts), .imm (dDecls c.lines), .imm (dArts c.arts)] from rfl]
  (refine sgo_sound [777] 1000 ?_; conv => whnf)
  refine swr_pure rfl rfl rfl rfl rfl rfl  hV ?_
  cases z <;> ((refine sgor_sound [777] 1000 ?_; conv => whnf))
  · rw [hno rfl] at hK
    exact hK _
  have hS := hS rfl
  have hdo := hdo rfl
  refine sw_keep [1, 2, 3, 4, 5, 17, 18, 19] ?_
  change SW E _ [(1, .ptr 0 0), (2, sI 0), (3, sI 0), (4, .ptr 1 0), (5, sB false), (17, .imm (dArts c.arts)), (18, sI (c.arts.map Article.cells).length), (19, sI 0)] [boxC c, .cells zviewS]
  refine sw_each c.arts (fun i (_ : Unit) => [(1, .ptr 0 0), (2, sI 0), (3, sI 0), (4, .ptr 1 0), (5, sB false), (17, .imm (dArts c.arts)), (18, sI (c.arts.map Article.cells).length), (19, sI i)]) (fun _ _ => [boxC c, .cells zviewS])
    (fun done _ _ => clashOf c = (restP c.arts.length done.length).findSome? (clashF c)) () hdo ?_ ?_
  · rintro _ h1
    rw [restP_end] at h1
    rw [h1] at hK
    (refine sgo_sound [777] 1000 ?_; conv => whnf)
    repeat' ((with_reducible first | refine bdec (fun h => ?_) (fun h => ?_) | refine bndec (fun h => ?_) (fun h => ?_) | refine bwtd (fun h => ?_) (fun h => ?_) | refine bwfd (fun h => ?_) (fun h => ?_) | refine bwtn (fun h => ?_) (fun h => ?_) | refine bwfn (fun h => ?_) (fun h => ?_) | refine bwtb (fun h => ?_) (fun h => ?_) | refine bwfb (fun h => ?_) (fun h => ?_) | refine bwt (fun h => ?_) (fun h => ?_) | refine bwf (fun h => ?_) (fun h => ?_) | refine bnt (fun h => ?_) (fun h => ?_) | refine bcase (fun h => ?_) (fun h => ?_)) <;> (conv => whnf))
    all_goals try (exfalso; omega)
    exact hK _
  · rintro done x rest _ hda hdl h1 ih
    have hw := wrap_succ (n := done.length) (by omega)
    rw [restP_step (by omega), List.findSome?_append] at h1
    have hnext : clashOf c = (restP c.arts.length (done.length + 1)).findSome? (clashF c) → SW E _ _ _ := fun h => ih () (by rw [List.length_append]; exact h)
    (refine sgo_sound [777] 1000 ?_; conv => whnf)
    repeat' ((with_reducible first | refine bdec (fun h => ?_) (fun h => ?_) | refine bndec (fun h => ?_) (fun h => ?_) | refine bwtd (fun h => ?_) (fun h => ?_) | refine bwfd (fun h => ?_) (fun h => ?_) | refine bwtn (fun h => ?_) (fun h => ?_) | refine bwfn (fun h => ?_) (fun h => ?_) | refine bwtb (fun h => ?_) (fun h => ?_) | refine bwfb (fun h => ?_) (fun h => ?_) | refine bwt (fun h => ?_) (fun h => ?_) | refine bwf (fun h => ?_) (fun h => ?_) | refine bnt (fun h => ?_) (fun h => ?_) | refine bcase (fun h => ?_) (fun h => ?_)) <;> (conv => whnf))
    all_goals try (exfalso; omega)
    rw [hw]
    refine sw_keep [1, 2, 3, 4, 5, 6, 7, 17, 18, 19] ?_
    refine sw_loop_ind (σ := Nat) (fun j => [(1, .ptr 0 0), (2, sI 0), (3, sI 0), (4, .ptr 1 0), (5, sB false), (6, sI done.length), (7, sI j), (17, .imm (dArts c.arts)), (18, sI (c.arts.map Article.cells).length), (19, sI done.length)]) (fun _ => [boxC c, .cells zviewS])
      (fun j => done.length + 1 ≤ j ∧ j ≤ c.arts.length ∧ clashOf c = ((rowP c.arts.length done.length j).findSome? (clashF c)).or ((restP c.arts.length (done.length + 1)).findSome? (clashF c))) (fun j => c.arts.length - j) ?_ (done.length + 1) ⟨Nat.le_refl _, by omega, h1⟩
    rintro j ⟨j1, j2, j3⟩ ih2
    have hwj := wrap_succ (n := j) (by omega)
    by_cases hj : j < c.arts.length
    · rw [rowP_step hj, List.findSome?_cons] at j3
      have hi : ∀ v ∈ [(done.length : Int), (j : Int)], 0 ≤ v ∧ v < c.arts.length := fun v hv => by
        rcases List.mem_cons.1 hv with rfl | hv
        · omega
        · simp at hv; subst hv; omega
      have hcon := contradict_spec G0 c hS.need (done.length : Int) (j : Int) (by omega) (by omega) (by omega) (by omega)
      have hN := newSearch_at c hS [(done.length : Int), (j : Int)] hi (by simp) [boxC c, .cells zviewS]
      have hwi2 := hwi rfl hi
      have hgo : clashF c ((done.length : Int), (j : Int)) = none → SW E _ _ _ := fun h => by
        rw [h] at j3
        exact ih2 (j + 1) ⟨by omega, by omega, j3⟩ (by omega)
      have hst : ∀ v, clashF c ((done.length : Int), (j : Int)) = some v → clashOf c = some v := fun v h => by
        rw [h] at j3
        exact j3
      have hcf : clashF c ((done.length : Int), (j : Int)) = if contraOf c done.length j then (witness c [(done.length : Int), (j : Int)]).map fun v => ((done.length : Int), (j : Int), v) else none := rfl
      generalize contraOf c (done.length : Int) (j : Int) = b at hcon hcf
      (refine sgo_sound [777] 1000 ?_; conv => whnf)
      repeat' ((with_reducible first | refine bdec (fun h => ?_) (fun h => ?_) | refine bndec (fun h => ?_) (fun h => ?_) | refine bwtd (fun h => ?_) (fun h => ?_) | refine bwfd (fun h => ?_) (fun h => ?_) | refine bwtn (fun h => ?_) (fun h => ?_) | refine bwfn (fun h => ?_) (fun h => ?_) | refine bwtb (fun h => ?_) (fun h => ?_) | refine bwfb (fun h => ?_) (fun h => ?_) | refine bwt (fun h => ?_) (fun h => ?_) | refine bwf (fun h => ?_) (fun h => ?_) | refine bnt (fun h => ?_) (fun h => ?_) | refine bcase (fun h => ?_) (fun h => ?_)) <;> (conv => whnf))
      all_goals try (exfalso; omega)
      refine swr_pure rfl rfl rfl rfl rfl rfl  hcon ?_
      cases b <;> ((refine sgor_sound [777] 1000 ?_; conv => whnf))
      · rw [hwj]
        refine sw_keep [1, 2, 3, 4, 5, 6, 7, 17, 18, 19] ?_
        exact hgo hcf
      refine swr_call (argv := [c.sv, .imm (dInts [(done.length : Int), (j : Int)])]) rfl rfl rfl rfl rfl rfl (hN.mono ?_)
      intro r H' hK1
      cases hq : searchOf c [(done.length : Int), (j : Int)] with
      | none =>
        rw [hq] at hK1 hwi2
        simp only at hwi2
        rw [hwi2] at hcf
        obtain ⟨p, H1, hp, rfl, rfl⟩ := hK1
        refine ⟨Nat.le_add_left 2 _, ?_⟩
        refine Eq.mpr (congrArg (fun h => SWr E _ _ _ _ h) (show _ = boxC c :: .cells zviewS :: H1 from rfl)) ?_
        rcases hp with rfl | rfl <;> ((refine sgor_sound [777] 1000 ?_; conv => whnf)) <;> rw [hwj]
        all_goals exact sw_kc [1, 2, 3, 4, 5, 6, 7, 17, 18, 19] 2 (by rw [hH]; exact Nat.zero_le 2) (Nat.succ_le_succ (Nat.succ_le_succ (Nat.zero_le _))) rfl rfl (hgo hcf)
      | some q =>
        have hWt := witness_at c hS [(done.length : Int), (j : Int)] hi (by simp) q hq [boxC c, .cells zviewS]
        rw [hq] at hK1 hwi2
        simp only at hwi2
        obtain ⟨rfl, rfl⟩ := hK1
        refine ⟨by rw [List.length_append]; exact Nat.le_add_right _ _, ?_⟩
        (refine sgor_sound [777] 1000 ?_; conv => whnf)
        refine swr_call rfl rfl rfl rfl rfl rfl (hWt.mono ?_)
        rintro r H' ⟨rfl, ⟨H1, rfl⟩, hl⟩
        refine ⟨hl, ?_⟩
        rw [← hwi2]
        refine swr_lift (t' := [(1, .ptr 0 0), (2, sI 0), (3, sI 0), (4, .ptr 1 0), (5, sB false), (6, sI done.length), (7, sI j), (17, .imm (dArts c.arts)), (18, sI (c.arts.map Article.cells).length), (19, sI done.length), (48, viewR0 (witness c [(done.length : Int), (j : Int)]))]) (H' := [boxC c, .cells zviewS])
          (fun k h => sw_keep [1, 2, 3, 4, 5, 6, 7, 17, 18, 19, 48] (sw_cut 2 (by rw [hH]; exact Nat.zero_le 2) (Nat.succ_le_succ (Nat.succ_le_succ (Nat.zero_le _))) (by cases witness c [(done.length : Int), (j : Int)] <;> rfl) rfl h)) ?_
        generalize witness c [(done.length : Int), (j : Int)] = o at hcf ⊢
        cases o with
        | none =>
          (refine sgor_sound [777] 1000 ?_; conv => whnf)
          rw [hwj]
          exact sw_kc [1, 2, 3, 4, 5, 6, 7, 17, 18, 19] 2 (by rw [hH]; exact Nat.zero_le 2) (Nat.succ_le_succ (Nat.succ_le_succ (Nat.zero_le _))) rfl rfl (hgo hcf)
        | some v =>
          rw [hst _ hcf] at hK
          (refine sgor_sound [777] 1000 ?_; conv => whnf)
          refine sw_keep [1, 2, 3, 4, 5, 6, 7, 10] ?_
          change SW E _ [(1, .ptr 0 0), (2, sI 0), (3, sI 0), (4, .ptr 1 0), (5, sB false), (6, sI done.length), (7, sI j), (10, .ptr 2 0)] [boxC c, .cells zviewS, .cells [sI v.day, .imm (dBools v.has), .imm (dInts v.value), .imm (dInts v.arts)]]
          (refine swe_start 0 mixed rfl ?_; refine sgoe_sound [777] (nx := 3) ?_; conv => whnf)
          (refine sgo_sound [777] 1000 ?_; conv => whnf)
          exact hK _
    · rw [rowP_end (by omega), List.findSome?_nil, Option.none_or] at j3
      have ej : j = c.arts.length := by omega
      (refine sgo_sound [777] 1000 ?_; conv => whnf)
      repeat' ((with_reducible first | refine bdec (fun h => ?_) (fun h => ?_) | refine bndec (fun h => ?_) (fun h => ?_) | refine bwtd (fun h => ?_) (fun h => ?_) | refine bwfd (fun h => ?_) (fun h => ?_) | refine bwtn (fun h => ?_) (fun h => ?_) | refine bwfn (fun h => ?_) (fun h => ?_) | refine bwtb (fun h => ?_) (fun h => ?_) | refine bwfb (fun h => ?_) (fun h => ?_) | refine bwt (fun h => ?_) (fun h => ?_) | refine bwf (fun h => ?_) (fun h => ?_) | refine bnt (fun h => ?_) (fun h => ?_) | refine bcase (fun h => ?_) (fun h => ?_)) <;> (conv => whnf))
      all_goals try (exfalso; omega)
      rw [hw]
      refine sw_keep [1, 2, 3, 4, 5, 17, 18, 19] ?_
      exact hnext j3
theorem clashP_spec (c : Codex) (hfit : Codex.fit c) (hS : codexOK c = true → SearchC c) (hz : c.arts.length ≤ 1000000) :
    SPure Tryz.prog G0 13 [c.sv] (clashR (clashOf c)) := spure_is (clashP0 c hfit hS hz) (clashR0_is _)
end Go.Proofs.YtblpjknmhajcgaaGreatDoor
