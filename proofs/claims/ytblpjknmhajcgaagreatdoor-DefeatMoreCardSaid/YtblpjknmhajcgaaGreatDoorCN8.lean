/- The given statement about DefeatMore (the tied card) is proved: the law returns true for every codex, all versions and numbers. No condition beyond the given row. -/
import Derived.Test.YtblpjknmhajcgaaGreatDoorCN7
import Derived.Test.YtblpjknmhajcgaaGreatDoorCards
import Derived.Test.YtblpjknmhajcgaaGreatDoorTie
set_option linter.unusedSimpArgs false
set_option linter.unusedVariables false
namespace Go.Proofs.YtblpjknmhajcgaaGreatDoor.defeatMore
open Go Go.Sh Go.ChangeShapes Go.WideShapes Go.ChangeAt Go.RowKit
set_option maxRecDepth 100000

theorem ints_form {H : Type} {enc : TypeId × Value → H} {w : World} {r : Reach} {b0 : Nat} {v : Value} {d : DataW H} {ps : List MemPlace} (hval : Value.okWide Tryz.prog w r b0 26 v) (h : DataW.Trod enc Tryz.prog w 0 (fun _ => true) true 26 v d ps) {l : List Int} (hr : Rep w (allI w) [] v (.imm (dInts l))) :
    l = [] ∨ ∃ elems spare : List (DataW H), d = .slice elems spare ∧ l.length = elems.length := by
  obtain ⟨p, a, b, rfl⟩ : ∃ p a b, v = .slice p a b := by
    unfold Value.okWide at hval
    rw [Tryz.underlying26] at hval
    unfold Cell.okWide at hval
    rw [Tryz.underlying26] at hval
    cases v <;> simp [Cell.ok, Tryz.underlying26] at hval
    exact ⟨_, _, _, rfl⟩
  have hl : l.length = a := by
    have e : l.length = (l.map fun n => [dI n]).length := by simp
    rw [e]
    unfold dInts at hr
    generalize (l.map fun n => [dI n]) = R at hr
    cases hr with | imm hr => cases hr <;> rfl
  obtain ⟨fuel, h⟩ := h
  rcases DataW.trod_slice Tryz.underlying26 h with ⟨hc, hx⟩ | ⟨a', len, cap, elems, rest, n, _, hc, hx, _, _, _, hel, _⟩
  · have : a = 0 := by
      have : [Value.slice p a b] = [Value.slice none 0 0] := hc
      simp at this
      exact this.2.1
    exact .inl (List.length_eq_zero_iff.1 (by omega))
  · have h2 : [Value.slice p a b] = [Value.slice (some a') len cap] := hc
    simp at h2
    have hd : d = .slice (elems.map (·.1)) (rest.map (·.1)) := congrArg (·.1) hx
    exact .inr ⟨_, _, hd, by simp; omega⟩

theorem contract (H : Type) (enc : TypeId × Value → H) (W : World) (base : Nat) (args : Array Value) (ds gs : List (DataW H)) (before : List MemPlace)
    (hval : ∀ (j : Nat) t v, Tryz.f7.params[j]? = some t → args[j]? = some v → Value.okWide Tryz.prog W .any base t v)
    (hW : DataW.Whole enc Tryz.prog Tryz.f7.params.toList Rows.defeatMoreSpec.vars false W args.toList ds gs before) (hL : laidMetH Tryz.prog Rows.defeatMoreRow.laid W)
    (hsz : (DataW.weightsEach Tryz.prog (Tryz.f7.params.toList ++ DataSpec.varTypes Tryz.prog (OpenSpec.ofChange Rows.defeatMoreSpec).bare.plain) (ds ++ gs)).all (· ≤ reachBytes) = true) :
    Calls Tryz.prog 7 args W fun e W' => ∃ v, e = .returned v ∧ Rows.defeatMoreSpec.post enc Tryz.prog Tryz.f7 false true false false W args v W' := by
  have hW' := hW
  obtain ⟨p, q, hA0, hV, rfl, hfz, hnd⟩ := hW
  have hA : DataW.TrodAll enc Tryz.prog W 0 (fun _ => true) true Tryz.f7.params.toList args.toList ds p := hA0
  rw [Tryz.params7] at hA hval
  obtain ⟨v0, vs0, d0, ds0, p0, q0, hargs, rfl, rfl, h0, r0⟩ := trodAll_cons hA
  obtain ⟨v1, vs1, d1, ds1, p1, q1, rfl, rfl, rfl, h1, r1⟩ := trodAll_cons r0
  obtain ⟨v2, vs2, d2, ds2, p2, q2, rfl, rfl, rfl, h2, r2⟩ := trodAll_cons r1
  obtain ⟨v3, vs3, d3, ds3, p3, q3, rfl, rfl, rfl, h3, r3⟩ := trodAll_cons r2
  obtain ⟨rfl, rfl, rfl⟩ := trodAll_nil r3
  obtain rfl : args = #[v0, v1, v2, v3] := by cases args; simp_all
  obtain ⟨rfl, rfl⟩ := trodVars_none hV
  obtain ⟨x0, k0, e0⟩ := openCodex (hval 0 _ v0 rfl rfl) h0
  obtain ⟨x1, k1, e1⟩ := openInts (hval 1 _ v1 rfl rfl) h1
  obtain ⟨x2, k2, e2⟩ := openInt (hval 2 _ v2 rfl rfl) h2
  obtain ⟨x3, k3, e3⟩ := openInt (hval 3 _ v3 rfl rfl) h3
  have hb : x1.length ≤ 17592186043904 := by
    rcases ints_form (hval 1 _ v1 rfl rfl) h1 e1 with h5 | ⟨elems, spare, h5, h6⟩
    · rw [h5]; exact Nat.zero_le _
    · subst h5
      have h7 := sized_slice hsz (j := 1) (t := 26) (e := 3) (elems := elems) (spare := spare) (by rw [Tryz.params7]; rfl) rfl Tryz.underlying26
      rw [show Tryz.prog.bytesOf 3 = 8 by kernel_rfl, show reachBytes = 140737488351232 from rfl] at h7
      omega
  refine (calls_of (moreLaw_spec x0 (fun a ha => ⟨(k0.art a ha).unless_, (k0.art a ha).when_⟩) ⟨k0.facts, k0.lines, k0.arts⟩ x1 hb x2 x3 k2 k3) (.cons e0 (.cons e1 (.cons e2 (.cons e3 .nil)))) (globals_ok hL)).mono fun e W' ⟨he, ho⟩ => ?_
  subst he
  exact ⟨_, rfl, post_of_old hW' rfl rfl rfl rfl ho (by kernel_rfl) resBool rfl kids full (by rw [Tryz.params7]; decide +kernel)⟩

noncomputable def wit : Array Value := #[.agg #[.slice none 0 0, .slice none 0 0, .slice none 0 0], .slice none 0 0, .int .i64 0, .int .i64 0]
def witD {H : Type} : List (DataW H) := [.agg [.nil, .nil, .nil], .nil, .lit (.int .i64 0), .lit (.int .i64 0)]
theorem reads (os : Os) {H : Type} (enc : TypeId × Value → H) : ∃ places, DataW.whole enc Tryz.prog ((laidWorld os).forCall (fun _ _ => 0) ⟨#[], wit, []⟩).memory Tryz.f7.params.toList Rows.defeatMoreSpec.vars false wit.toList 8 = some (witD, [], places) :=
  ⟨[], by kernel_rfl⟩

theorem lifted (os : Os) (started : os.Started) (H : Type) (enc : TypeId × Value → H) (F : Stop.Interp) :
    ReturnsInHanded {} Tryz.checked os 7 .any ((OpenSpec.ofChange Rows.defeatMoreSpec).preRow enc Tryz.prog Tryz.f7 Rows.defeatMoreRow.domain false Rows.defeatMoreRow.laid) (((OpenSpec.ofChange Rows.defeatMoreSpec).at F).post enc Tryz.prog Tryz.f7 false true false false) := by
  obtain ⟨places, hx⟩ := reads os enc
  refine returnsInHanded_of_row (C := Tryz.checked) (s := OpenSpec.ofChange Rows.defeatMoreSpec) own started (by kernel_rfl) Tryz.func7
    (witness_row_at (enc := enc) (C := Tryz.checked) false (laidWorld os) wit rfl (by kernel_rfl) (by kernel_rfl) (by kernel_rfl)
      (OpenSpec.preRow_of_cond 8 hx (by kernel_rfl) (fun k hk => by cases hk) (by kernel_rfl) (laid_met os _))) ?_
  intro W base args ds gs before hval hW _ _ hsz hL _ _
  exact contract H enc W base args ds gs before hval hW hL hsz

theorem said : Rows.DefeatMoreSaid :=
  OpenClaim.holds_of_cond 7 Tryz.f7 rfl rfl rfl rfl rfl rfl rfl ⟨rfl, rfl, rfl, rfl, rfl⟩ rfl rfl rfl rfl rfl (by kernel_rfl) Tryz.func7 (by kernel_rfl)
    (of_decide_eq_true (by kernel_rfl)) (by unfold Func.isWrapper; first | (rw [if_pos (by decide +kernel)]; kernel_rfl) | (rw [if_neg (by decide +kernel)]; exact ⟨rfl, rfl⟩))
    (fun os started H enc _ F => by rw [OpenClaim.pre_eq_preRow]; exact lifted os started H enc F)

theorem plain (f : FuncId) (fn : Func) (hf : Tryz.pinned.checked.prog.funcNamed "wageoffice/wageofficelaw11.DefeatMore" = some f) (hfn : Tryz.pinned.checked.prog.funcs[f]? = some fn) :
    false = Tryz.pinned.checked.prog.looks [] ∧ ∀ (j : Nat) t, fn.params[j]? = some t → Tryz.pinned.checked.prog.wantsStandIn t = false := by
  obtain rfl : f = 7 := Option.some.inj ((show Tryz.prog.funcNamed "wageoffice/wageofficelaw11.DefeatMore" = some 7 by kernel_rfl).symm.trans hf) |>.symm
  obtain rfl : fn = Tryz.f7 := (Option.some.inj (Tryz.func7.symm.trans hfn)).symm
  refine ⟨by kernel_rfl, fun j t ht => ?_⟩
  rw [Tryz.params7] at ht
  have hm := Array.mem_of_getElem? ht
  simp only [List.mem_toArray, List.mem_cons, List.not_mem_nil, or_false] at hm
  rcases hm with rfl | rfl | rfl | rfl
  all_goals first
    | exact (show Tryz.prog.wantsStandIn 25 = false by kernel_rfl)
    | exact (show Tryz.prog.wantsStandIn 26 = false by kernel_rfl)
    | exact (show Tryz.prog.wantsStandIn 3 = false by kernel_rfl)

theorem defeatMore_card : Rows.DefeatMoreCardSaid :=
  Claim7.holds_tied_plain_at .later [] _ _ _ _ said (fun _ h => by cases h) (by kernel_rfl) (fun _ h => by cases h) defeatMore_row_tie rfl ⟨rfl, rfl⟩ (by kernel_rfl) rfl plain (by kernel_rfl)
end Go.Proofs.YtblpjknmhajcgaaGreatDoor.defeatMore
