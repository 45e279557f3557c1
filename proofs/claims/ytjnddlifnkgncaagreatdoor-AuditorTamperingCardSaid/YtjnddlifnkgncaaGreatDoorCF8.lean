/- The given statement about AuditorTampering (the tied card) is proved: the law returns true for all keys, heights, disclosures, picks, numbers and texts. No condition beyond the given row. -/
import Derived.Test.YtjnddlifnkgncaaGreatDoorCF7
import Derived.Test.YtjnddlifnkgncaaGreatDoorCards
import Derived.Test.YtjnddlifnkgncaaGreatDoorTie
set_option linter.unusedSimpArgs false
set_option linter.unusedVariables false
namespace Go.Proofs.YtjnddlifnkgncaaGreatDoor.auditorTampering
open Go Go.Sh Go.ChangeShapes Go.WideShapes Go.ChangeAt Go.RowKit
set_option maxRecDepth 100000

theorem contract (H : Type) (enc : TypeId × Value → H) (W : World) (base : Nat) (args : Array Value) (ds gs : List (DataW H)) (before : List MemPlace)
    (hval : ∀ (j : Nat) t v, Tryz.f8.params[j]? = some t → args[j]? = some v → Value.okWide Tryz.prog W .any base t v)
    (hW : DataW.Whole enc Tryz.prog Tryz.f8.params.toList Rows.auditorTamperingSpec.vars false W args.toList ds gs before) (hL : laidMetH Tryz.prog Rows.auditorTamperingRow.laid W)
    (hsz : (DataW.weightsEach Tryz.prog (Tryz.f8.params.toList ++ DataSpec.varTypes Tryz.prog (OpenSpec.ofChange Rows.auditorTamperingSpec).bare.plain) (ds ++ gs)).all (· ≤ reachBytes) = true) :
    Calls Tryz.prog 8 args W fun e W' => ∃ v, e = .returned v ∧ Rows.auditorTamperingSpec.post enc Tryz.prog Tryz.f8 false true false false W args v W' := by
  have hW' := hW
  obtain ⟨p, q, hA0, hV, rfl, hfz, hnd⟩ := hW
  have hA : DataW.TrodAll enc Tryz.prog W 0 (fun _ => true) true Tryz.f8.params.toList args.toList ds p := hA0
  rw [Tryz.params8] at hA hval
  obtain ⟨v0, vs0, d0, ds0, p0, q0, hargs, rfl, rfl, h0, r0⟩ := trodAll_cons hA
  obtain ⟨v1, vs1, d1, ds1, p1, q1, rfl, rfl, rfl, h1, r1⟩ := trodAll_cons r0
  obtain ⟨v2, vs2, d2, ds2, p2, q2, rfl, rfl, rfl, h2, r2⟩ := trodAll_cons r1
  obtain ⟨v3, vs3, d3, ds3, p3, q3, rfl, rfl, rfl, h3, r3⟩ := trodAll_cons r2
  obtain ⟨v4, vs4, d4, ds4, p4, q4, rfl, rfl, rfl, h4, r4⟩ := trodAll_cons r3
  obtain ⟨v5, vs5, d5, ds5, p5, q5, rfl, rfl, rfl, h5, r5⟩ := trodAll_cons r4
  obtain ⟨rfl, rfl, rfl⟩ := trodAll_nil r5
  obtain rfl : args = #[v0, v1, v2, v3, v4, v5] := by cases args; simp_all
  obtain ⟨rfl, rfl⟩ := trodVars_none hV
  obtain ⟨x0, k0, e0⟩ := openDig (hval 0 _ v0 rfl rfl) h0
  obtain ⟨x1, k1, e1⟩ := openInt (hval 1 _ v1 rfl rfl) h1
  obtain ⟨x2, k2, e2⟩ := openDisc (hval 2 _ v2 rfl rfl) h2 (sized_of hsz (j := 2) (by rw [Tryz.params8]; rfl) rfl)
  obtain ⟨x3, k3, e3⟩ := openByte (hval 3 _ v3 rfl rfl) h3
  obtain ⟨x4, k4, e4⟩ := openInt (hval 4 _ v4 rfl rfl) h4
  obtain ⟨x5, k5, e5⟩ := openText (hval 5 _ v5 rfl rfl) h5 (sized_of hsz (j := 5) (by rw [Tryz.params8]; rfl) rfl)
  refine (calls_of (tampLaw_spec x0 x1 x2 k2.fit (fun s hs => ⟨(k2.shown.2 s hs).label, (k2.shown.2 s hs).reason⟩) x3 k3 x4 x5 k5) (.cons e0 (.cons e1 (.cons e2 (.cons e3 (.cons e4 (.cons e5 .nil)))))) (globals_ok hL)).mono fun e W' ⟨he, ho⟩ => ?_
  subst he
  exact ⟨_, rfl, post_of_old hW' rfl rfl rfl rfl ho (by kernel_rfl) resBool rfl kids full (by rw [Tryz.params8]; decide +kernel)⟩

noncomputable def wit : Array Value := #[.int .u64 0, .int .i64 0, .agg #[.string ⟨#[]⟩, .int .i64 0, .int .u64 0, .slice none 0 0, .slice none 0 0, .int .i64 0, .int .i64 0, .int .i64 0, .slice none 0 0, .slice none 0 0], .int .u8 0, .int .i64 0, .string ⟨#[]⟩]
def witD {H : Type} : List (DataW H) := [.lit (.int .u64 0), .lit (.int .i64 0), .agg [.lit (.string []), .lit (.int .i64 0), .lit (.int .u64 0), .nil, .nil, .lit (.int .i64 0), .lit (.int .i64 0), .agg [.lit (.int .i64 0), .nil, .nil]], .lit (.int .u8 0), .lit (.int .i64 0), .lit (.string [])]
theorem reads (os : Os) {H : Type} (enc : TypeId × Value → H) : ∃ places, DataW.whole enc Tryz.prog ((laidWorld os).forCall (fun _ _ => 0) ⟨#[], wit, []⟩).memory Tryz.f8.params.toList Rows.auditorTamperingSpec.vars false wit.toList 8 = some (witD, [], places) :=
  ⟨[], by kernel_rfl⟩

theorem lifted (os : Os) (started : os.Started) (H : Type) (enc : TypeId × Value → H) (F : Stop.Interp) :
    ReturnsInHanded {} Tryz.checked os 8 .any ((OpenSpec.ofChange Rows.auditorTamperingSpec).preRow enc Tryz.prog Tryz.f8 Rows.auditorTamperingRow.domain false Rows.auditorTamperingRow.laid) (((OpenSpec.ofChange Rows.auditorTamperingSpec).at F).post enc Tryz.prog Tryz.f8 false true false false) := by
  obtain ⟨places, hx⟩ := reads os enc
  refine returnsInHanded_of_row (C := Tryz.checked) (s := OpenSpec.ofChange Rows.auditorTamperingSpec) own started (by kernel_rfl) Tryz.func8
    (witness_row_at (enc := enc) (C := Tryz.checked) false (laidWorld os) wit rfl (by kernel_rfl) (by kernel_rfl) (by kernel_rfl)
      (OpenSpec.preRow_of_cond 8 hx (by kernel_rfl) (fun k hk => by cases hk) (by kernel_rfl) (laid_met os _))) ?_
  intro W base args ds gs before hval hW _ _ hsz hL _ _
  exact contract H enc W base args ds gs before hval hW hL hsz

theorem said : Rows.AuditorTamperingSaid :=
  OpenClaim.holds_of_cond 8 Tryz.f8 rfl rfl rfl rfl rfl rfl rfl ⟨rfl, rfl, rfl, rfl, rfl⟩ rfl rfl rfl rfl rfl (by kernel_rfl) Tryz.func8 (by kernel_rfl)
    (of_decide_eq_true (by kernel_rfl)) (by unfold Func.isWrapper; first | (rw [if_pos (by decide +kernel)]; kernel_rfl) | (rw [if_neg (by decide +kernel)]; exact ⟨rfl, rfl⟩))
    (fun os started H enc _ F => by rw [OpenClaim.pre_eq_preRow]; exact lifted os started H enc F)

theorem plain (f : FuncId) (fn : Func) (hf : Tryz.pinned.checked.prog.funcNamed "wageoffice/wageofficelaw37.AuditorTampering" = some f) (hfn : Tryz.pinned.checked.prog.funcs[f]? = some fn) :
    true = Tryz.pinned.checked.prog.looks [] ∧ ∀ (j : Nat) t, fn.params[j]? = some t → Tryz.pinned.checked.prog.wantsStandIn t = false := by
  obtain rfl : f = 8 := Option.some.inj ((show Tryz.prog.funcNamed "wageoffice/wageofficelaw37.AuditorTampering" = some 8 by kernel_rfl).symm.trans hf) |>.symm
  obtain rfl : fn = Tryz.f8 := (Option.some.inj (Tryz.func8.symm.trans hfn)).symm
  refine ⟨by kernel_rfl, fun j t ht => ?_⟩
  rw [Tryz.params8] at ht
  have hm := Array.mem_of_getElem? ht
  simp only [List.mem_toArray, List.mem_cons, List.not_mem_nil, or_false] at hm
  rcases hm with rfl | rfl | rfl | rfl | rfl | rfl
  all_goals first
    | exact (show Tryz.prog.wantsStandIn 25 = false by kernel_rfl)
    | exact (show Tryz.prog.wantsStandIn 3 = false by kernel_rfl)
    | exact (show Tryz.prog.wantsStandIn 36 = false by kernel_rfl)
    | exact (show Tryz.prog.wantsStandIn 5 = false by kernel_rfl)
    | exact (show Tryz.prog.wantsStandIn 9 = false by kernel_rfl)

theorem auditorTampering_card : Rows.AuditorTamperingCardSaid :=
  Claim7.holds_tied_plain_at .later [] _ _ _ _ said (fun _ h => by cases h) (by kernel_rfl) (fun _ h => by cases h) auditorTampering_row_tie rfl ⟨rfl, rfl⟩ (by kernel_rfl) rfl plain (by kernel_rfl)
end Go.Proofs.YtjnddlifnkgncaaGreatDoor.auditorTampering
