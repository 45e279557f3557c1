/- Contracts of functions of the program, joined from Fj, Fk, Fl, Fm, Fn, Fo, Shelf, Fp, Fq, Fr, Fs, Ft, Fu, Fv, Fw, Ga, Gc, Ha: no condition. -/
import Derived.Test.YthmkdghoaifkbaaGreatDoorJ3
import Derived.Shelf.Sort.Plain
import Derived.Shelf.Slices.In.SortNone
import Derived.Test.YthmkdghoaifkbaaGreatDoorProg
import Derived.Sort.OwnSortedInts
import Derived.Test.YthmkdghoaifkbaaGreatDoorRows
import Derived.WalkKit
import Derived.ProofKit
import Derived.OpenShut
import Derived.Deep.DeepHandedRow
import Derived.Lib.LaidTab
set_option linter.unusedSimpArgs false
set_option linter.unusedVariables false
/- Contracts, part j: the months of the calendar. -/
namespace Go.Proofs.YthmkdghoaifkbaaGreatDoor
open Go Go.Sh
set_option maxRecDepth 10000

def lenOf (m : Nat) : Int := daysIn (2000 + (m / 12 : Nat)) ((m % 12 : Nat) + 1)
def firstOf : Nat → Int
  | 0 => 0
  | m + 1 => firstOf m + lenOf m
def tableB (k : Nat) : Int := ([0, 31, 59, 90, 120, 151, 181, 212, 243, 273, 304, 334, 365] : List Int).getD k 0
def closedB (m : Nat) : Int := (m / 12 : Nat) * 365 + (((m / 12 : Nat) : Int) + 3) / 4 + tableB (m % 12) + (if 1 < m % 12 ∧ (m / 12) % 4 = 0 then 1 else 0)

theorem lenOf_eq (m : Nat) (hm : m < 1200) : lenOf m = tableB (m % 12 + 1) - tableB (m % 12) + (if m % 12 = 1 ∧ (m / 12) % 4 = 0 then 1 else 0) := by
  have hy : 2000 ≤ 2000 + ((m / 12 : Nat) : Int) ∧ 2000 + ((m / 12 : Nat) : Int) ≤ 2099 := by omega
  have hl := leap_iff hy
  have e : (2000 + ((m / 12 : Nat) : Int)).tmod 4 = 0 ↔ (m / 12) % 4 = 0 := by
    rw [Int.tmod_eq_emod_of_nonneg (by omega)]; omega
  have hc : m % 12 = 0 ∨ m % 12 = 1 ∨ m % 12 = 2 ∨ m % 12 = 3 ∨ m % 12 = 4 ∨ m % 12 = 5 ∨ m % 12 = 6 ∨ m % 12 = 7 ∨ m % 12 = 8 ∨ m % 12 = 9 ∨ m % 12 = 10 ∨ m % 12 = 11 := by omega
  unfold lenOf daysIn
  rw [hl]
  rw [show decide ((2000 + ((m / 12 : Nat) : Int)).tmod 4 = 0) = decide ((m / 12) % 4 = 0) from decide_eq_decide.2 e]
  rcases hc with h | h | h | h | h | h | h | h | h | h | h | h <;> rw [h] <;> simp [tableB]
  split <;> rfl

theorem closed_eq (m : Nat) (hm : m ≤ 1200) : closedB m = firstOf m := by
  induction m with
  | zero => rfl
  | succ m ih =>
    rw [firstOf, ← ih (by omega), lenOf_eq m (by omega)]
    unfold closedB
    have hc : m % 12 = 0 ∨ m % 12 = 1 ∨ m % 12 = 2 ∨ m % 12 = 3 ∨ m % 12 = 4 ∨ m % 12 = 5 ∨ m % 12 = 6 ∨ m % 12 = 7 ∨ m % 12 = 8 ∨ m % 12 = 9 ∨ m % 12 = 10 ∨ m % 12 = 11 := by omega
    rcases hc with h | h | h | h | h | h | h | h | h | h | h | h
    case inr.inr.inr.inr.inr.inr.inr.inr.inr.inr.inr =>
      have h1 : (m + 1) % 12 = 0 := by omega
      have h2 : (m + 1) / 12 = m / 12 + 1 := by omega
      rw [h, h1, h2]
      simp [tableB]
      split <;> omega
    all_goals
      have h1 : (m + 1) % 12 = m % 12 + 1 := by omega
      have h2 : (m + 1) / 12 = m / 12 := by omega
      rw [h1, h2, h]
      simp [tableB]
      try omega

def firstDay (m : Int) : Int := if 0 ≤ m ∧ m ≤ 1199 then firstOf m.toNat else -1
def monthLen (m : Int) : Int := if 0 ≤ m ∧ m ≤ 1199 then lenOf m.toNat else 0

theorem firstOf_bound : ∀ m : Nat, 28 * (m : Int) ≤ firstOf m ∧ firstOf m ≤ 31 * (m : Int)
  | 0 => by simp [firstOf]
  | m + 1 => by
    have := firstOf_bound m
    have h : 28 ≤ lenOf m ∧ lenOf m ≤ 31 := by
      unfold lenOf daysIn
      split
      · omega
      · split
        · split <;> omega
        · omega
    simp only [firstOf]
    omega

theorem wrapw {a b : Int} (h0 : -9223372036854775808 ≤ a) (h1 : a ≤ 9223372036854775807) (h2 : -9223372036854775808 ≤ a + b) (h3 : a + b ≤ 9223372036854775807) : IntKind.i64.wrap (IntKind.i64.wrap a + b) = a + b := by
  rw [wrap64 h0 h1, wrap64 h2 h3]

theorem first_spec (m : Int) : SPure Tryz.prog G0 53 [sI m] (sI (firstDay m)) := by
  refine spure_enter Tryz.func53 rfl (by rw [Tryz.ntmps53]; simp) rfl rfl ?_; intro E hH hK
  by_cases hm : 0 ≤ m ∧ m ≤ 1199
  case neg =>
    (refine sgo_sound [] 1000 ?_; conv => whnf)
    repeat' ((first | with_reducible refine bdec (fun h => ?_) (fun h => ?_) | with_reducible refine bndec (fun h => ?_) (fun h => ?_) | with_reducible refine bwtd (fun h => ?_) (fun h => ?_) | with_reducible refine bwfd (fun h => ?_) (fun h => ?_) | with_reducible refine bwtn (fun h => ?_) (fun h => ?_) | with_reducible refine bwfn (fun h => ?_) (fun h => ?_) | with_reducible refine bwtb (fun h => ?_) (fun h => ?_) | with_reducible refine bwfb (fun h => ?_) (fun h => ?_) | with_reducible refine bwt (fun h => ?_) (fun h => ?_) | with_reducible refine bwf (fun h => ?_) (fun h => ?_) | with_reducible refine bnt (fun h => ?_) (fun h => ?_) | with_reducible refine bcase (fun h => ?_) (fun h => ?_)) <;> (conv => whnf))
    all_goals try (exfalso; omega)
    all_goals exact kI hK (by simp [firstDay, hm])
  obtain ⟨n, rfl⟩ : ∃ n : Nat, m = n := ⟨m.toNat, by omega⟩
  have q1 : (n : Int).tdiv 12 = ((n / 12 : Nat) : Int) := by rw [Int.tdiv_eq_ediv_of_nonneg (by omega)]; omega
  have q2 : (n : Int).tmod 12 = ((n % 12 : Nat) : Int) := by rw [Int.tmod_eq_emod_of_nonneg (by omega)]; omega
  have w1 : IntKind.i64.wrap ((n / 12 : Nat) : Int) = ((n / 12 : Nat) : Int) := wrap64 (by omega) (by omega)
  have w3 : IntKind.i64.wrap (2000 + ((n / 12 : Nat) : Int)) = 2000 + ((n / 12 : Nat) : Int) := wrap64 (by omega) (by omega)
  have hlt : n % 12 < 12 := Nat.mod_lt _ (by omega)
  generalize hq : n / 12 = q at q1 w1 w3
  generalize hr : n % 12 = r at q2 hlt
  have hb := firstOf_bound n
  have hcl := closed_eq n (by omega)
  have hres : firstDay (n : Int) = closedB n := by rw [hcl]; simp [firstDay]; omega
  rw [hres] at hK
  unfold closedB at hK hcl
  rw [hq, hr] at hK hcl
  (refine sgo_sound [] 1000 ?_; conv => whnf)
  repeat' ((first | with_reducible refine bdec (fun h => ?_) (fun h => ?_) | with_reducible refine bndec (fun h => ?_) (fun h => ?_) | with_reducible refine bwtd (fun h => ?_) (fun h => ?_) | with_reducible refine bwfd (fun h => ?_) (fun h => ?_) | with_reducible refine bwtn (fun h => ?_) (fun h => ?_) | with_reducible refine bwfn (fun h => ?_) (fun h => ?_) | with_reducible refine bwtb (fun h => ?_) (fun h => ?_) | with_reducible refine bwfb (fun h => ?_) (fun h => ?_) | with_reducible refine bwt (fun h => ?_) (fun h => ?_) | with_reducible refine bwf (fun h => ?_) (fun h => ?_) | with_reducible refine bnt (fun h => ?_) (fun h => ?_) | with_reducible refine bcase (fun h => ?_) (fun h => ?_)) <;> (conv => whnf))
  all_goals try (exfalso; omega)
  rw [q1, w1, w3]
  (refine swd_start mixed rfl ?_; refine sgod_sound [] ?_; conv => whnf)
  refine swd_pure rfl rfl rfl rfl rfl rfl  (yearStart_spec G0 (2000 + (q : Int)) (by omega)) ?_
  refine sgod_sound [18] ?_; conv => whnf
  rw [q2]
  have hye : (2000 + (q : Int)).tmod 4 = 0 ↔ q % 4 = 0 := by rw [Int.tmod_eq_emod_of_nonneg (by omega)]; omega
  have hyq : 2000 + (q : Int) - 2000 = q := by omega
  rw [hyq]
  have hc : r = 0 ∨ r = 1 ∨ r = 2 ∨ r = 3 ∨ r = 4 ∨ r = 5 ∨ r = 6 ∨ r = 7 ∨ r = 8 ∨ r = 9 ∨ r = 10 ∨ r = 11 := by omega
  rcases hc with rfl | rfl | rfl | rfl | rfl | rfl | rfl | rfl | rfl | rfl | rfl | rfl
  all_goals (refine sgod_sound [] ?_; conv => whnf)
  all_goals refine sgo_sound [23] 1000 ?_; conv => whnf
  all_goals rw [q2]
  all_goals (refine sgor_sound [] 1000 ?_; conv => whnf)
  all_goals repeat' ((first | with_reducible refine bdec (fun h => ?_) (fun h => ?_) | with_reducible refine bndec (fun h => ?_) (fun h => ?_) | with_reducible refine bwtd (fun h => ?_) (fun h => ?_) | with_reducible refine bwfd (fun h => ?_) (fun h => ?_) | with_reducible refine bwtn (fun h => ?_) (fun h => ?_) | with_reducible refine bwfn (fun h => ?_) (fun h => ?_) | with_reducible refine bwtb (fun h => ?_) (fun h => ?_) | with_reducible refine bwfb (fun h => ?_) (fun h => ?_) | with_reducible refine bwt (fun h => ?_) (fun h => ?_) | with_reducible refine bwf (fun h => ?_) (fun h => ?_) | with_reducible refine bnt (fun h => ?_) (fun h => ?_) | with_reducible refine bcase (fun h => ?_) (fun h => ?_)) <;> (conv => whnf))
  all_goals refine kI hK ?_
  all_goals simp only [hye] at *
  all_goals simp [tableB, *]
  all_goals first | rw [wrapw (by omega) (by omega) (by omega) (by omega)] | rw [wrap64 (by omega) (by omega)]

theorem length_spec (m : Int) : SPure Tryz.prog G0 54 [sI m] (sI (monthLen m)) := by
  refine spure_enter Tryz.func54 rfl (by rw [Tryz.ntmps54]; simp) rfl rfl ?_; intro E hH hK
  (refine sgo_sound [] 1000 ?_; conv => whnf)
  repeat' ((first | with_reducible refine bdec (fun h => ?_) (fun h => ?_) | with_reducible refine bndec (fun h => ?_) (fun h => ?_) | with_reducible refine bwtd (fun h => ?_) (fun h => ?_) | with_reducible refine bwfd (fun h => ?_) (fun h => ?_) | with_reducible refine bwtn (fun h => ?_) (fun h => ?_) | with_reducible refine bwfn (fun h => ?_) (fun h => ?_) | with_reducible refine bwtb (fun h => ?_) (fun h => ?_) | with_reducible refine bwfb (fun h => ?_) (fun h => ?_) | with_reducible refine bwt (fun h => ?_) (fun h => ?_) | with_reducible refine bwf (fun h => ?_) (fun h => ?_) | with_reducible refine bnt (fun h => ?_) (fun h => ?_) | with_reducible refine bcase (fun h => ?_) (fun h => ?_)) <;> (conv => whnf))
  any_goals exact kI hK (by simp [monthLen]; intros; omega)
  have e1 : IntKind.i64.wrap (m.tdiv 12) = ((m.toNat / 12 : Nat) : Int) := by rw [Int.tdiv_eq_ediv_of_nonneg (by omega), wrap64 (by omega) (by omega)]; omega
  have e2 : m.tmod 12 = ((m.toNat % 12 : Nat) : Int) := by rw [Int.tmod_eq_emod_of_nonneg (by omega)]; omega
  rw [e1, e2, wrap64 (c := 2000 + ((m.toNat / 12 : Nat) : Int)) (by omega) (by omega)]
  refine swr_pure rfl rfl rfl rfl rfl rfl  (lengthOf_spec (2000 + ((m.toNat / 12 : Nat) : Int)) ((m.toNat % 12 : Nat) : Int) (by omega) (by omega)) ?_
  (refine sgor_sound [] 1000 ?_; conv => whnf)
  exact kI hK (by simp [monthLen, lenOf]; omega)

variable (G : List (Nat × D))
theorem refLength_spec (m : Int) : SPure Tryz.prog G 22 [sI m] (sI (monthLen m)) := by
  refine spure_enter Tryz.func22 rfl (by rw [Tryz.ntmps22]; simp) rfl rfl ?_; intro E hH hK
  (refine sgo_sound [] 1000 ?_; conv => whnf)
  repeat' ((first | with_reducible refine bdec (fun h => ?_) (fun h => ?_) | with_reducible refine bndec (fun h => ?_) (fun h => ?_) | with_reducible refine bwtd (fun h => ?_) (fun h => ?_) | with_reducible refine bwfd (fun h => ?_) (fun h => ?_) | with_reducible refine bwtn (fun h => ?_) (fun h => ?_) | with_reducible refine bwfn (fun h => ?_) (fun h => ?_) | with_reducible refine bwtb (fun h => ?_) (fun h => ?_) | with_reducible refine bwfb (fun h => ?_) (fun h => ?_) | with_reducible refine bwt (fun h => ?_) (fun h => ?_) | with_reducible refine bwf (fun h => ?_) (fun h => ?_) | with_reducible refine bnt (fun h => ?_) (fun h => ?_) | with_reducible refine bcase (fun h => ?_) (fun h => ?_)) <;> (conv => whnf))
  any_goals exact kI hK (by simp [monthLen]; intros; omega)
  have e1 : IntKind.i64.wrap (m.tdiv 12) = ((m.toNat / 12 : Nat) : Int) := by rw [Int.tdiv_eq_ediv_of_nonneg (by omega), wrap64 (by omega) (by omega)]; omega
  have e2 : m.tmod 12 = ((m.toNat % 12 : Nat) : Int) := by rw [Int.tmod_eq_emod_of_nonneg (by omega)]; omega
  rw [e1, e2, wrap64 (c := 2000 + ((m.toNat / 12 : Nat) : Int)) (by omega) (by omega), wrap64 (c := ((m.toNat % 12 : Nat) : Int) + 1) (by omega) (by omega)]
  refine swr_pure rfl rfl rfl rfl rfl rfl  (days_spec G (2000 + ((m.toNat / 12 : Nat) : Int)) (((m.toNat % 12 : Nat) : Int) + 1)) ?_
  (refine sgor_sound [] 1000 ?_; conv => whnf)
  exact kI hK (by simp [monthLen, lenOf]; omega)

theorem refFirst_spec (m : Int) : SPure Tryz.prog G 21 [sI m] (sI (firstDay m)) := by
  refine spure_enter Tryz.func21 rfl (by rw [Tryz.ntmps21]; simp) rfl rfl ?_; intro E hH hK
  (refine sgo_sound [] 1000 ?_; conv => whnf)
  repeat' ((first | with_reducible refine bdec (fun h => ?_) (fun h => ?_) | with_reducible refine bndec (fun h => ?_) (fun h => ?_) | with_reducible refine bwtd (fun h => ?_) (fun h => ?_) | with_reducible refine bwfd (fun h => ?_) (fun h => ?_) | with_reducible refine bwtn (fun h => ?_) (fun h => ?_) | with_reducible refine bwfn (fun h => ?_) (fun h => ?_) | with_reducible refine bwtb (fun h => ?_) (fun h => ?_) | with_reducible refine bwfb (fun h => ?_) (fun h => ?_) | with_reducible refine bwt (fun h => ?_) (fun h => ?_) | with_reducible refine bwf (fun h => ?_) (fun h => ?_) | with_reducible refine bnt (fun h => ?_) (fun h => ?_) | with_reducible refine bcase (fun h => ?_) (fun h => ?_)) <;> (conv => whnf))
  any_goals exact kI hK (by simp [firstDay]; intros; omega)
  refine sw_keep [0, 3, 4] ?_
  refine sw_loop_ind (σ := Nat) (fun i => [(0, sI m), (3, sI (firstOf i)), (4, sI i)]) (fun _ => []) (fun i => (i : Int) ≤ m) (fun i => m.toNat - i) ?_ 0 (by omega)
  intro i hi ih
  have hb := firstOf_bound i
  have hb2 := firstOf_bound (i + 1)
  (refine sgo_sound [] 1000 ?_; conv => whnf)
  repeat' ((first | with_reducible refine bdec (fun h => ?_) (fun h => ?_) | with_reducible refine bndec (fun h => ?_) (fun h => ?_) | with_reducible refine bwtd (fun h => ?_) (fun h => ?_) | with_reducible refine bwfd (fun h => ?_) (fun h => ?_) | with_reducible refine bwtn (fun h => ?_) (fun h => ?_) | with_reducible refine bwfn (fun h => ?_) (fun h => ?_) | with_reducible refine bwtb (fun h => ?_) (fun h => ?_) | with_reducible refine bwfb (fun h => ?_) (fun h => ?_) | with_reducible refine bwt (fun h => ?_) (fun h => ?_) | with_reducible refine bwf (fun h => ?_) (fun h => ?_) | with_reducible refine bnt (fun h => ?_) (fun h => ?_) | with_reducible refine bcase (fun h => ?_) (fun h => ?_)) <;> (conv => whnf))
  · have e1 : IntKind.i64.wrap ((i : Int).tdiv 12) = ((i / 12 : Nat) : Int) := by rw [Int.tdiv_eq_ediv_of_nonneg (by omega), wrap64 (by omega) (by omega)]; omega
    have e2 : (i : Int).tmod 12 = ((i % 12 : Nat) : Int) := by rw [Int.tmod_eq_emod_of_nonneg (by omega)]; omega
    rw [e1, e2, wrap64 (c := 2000 + ((i / 12 : Nat) : Int)) (by omega) (by omega), wrap64 (c := ((i % 12 : Nat) : Int) + 1) (by omega) (by omega)]
    refine swr_pure rfl rfl rfl rfl rfl rfl  (days_spec G (2000 + ((i / 12 : Nat) : Int)) (((i % 12 : Nat) : Int) + 1)) ?_
    (refine sgor_sound [] 1000 ?_; conv => whnf)
    have e3 : IntKind.i64.wrap (firstOf i + daysIn (2000 + ((i / 12 : Nat) : Int)) (((i % 12 : Nat) : Int) + 1)) = firstOf (i + 1) := by
      rw [show daysIn (2000 + ((i / 12 : Nat) : Int)) (((i % 12 : Nat) : Int) + 1) = lenOf i from rfl]; simp only [firstOf] at hb2 ⊢; exact wrap64 (by omega) (by omega)
    rw [e3, wrap_succ (by omega)]
    exact sw_keep [0, 3, 4] (ih (i + 1) (by omega) (by omega))
  · have : m.toNat = i := by omega
    exact kI hK (by simp [firstDay, this]; omega)

end Go.Proofs.YthmkdghoaifkbaaGreatDoor

/- Contracts, part k: names by way of the parser; the reference's names. -/
namespace Go.Proofs.YthmkdghoaifkbaaGreatDoor
open Go Go.Sh
set_option maxRecDepth 10000
variable (G : List (Nat × D))

/-- the node of a name, as its cells -/
def refNode (s : ByteArray) : List SV := [sI 12, sS s, sS ⟨#[]⟩, sI 0, sI 0, sI 0, sI 0, sI 0, .imm (.val (.slice none 0 0)), .imm (.val (.slice none 0 0)), sI 0]
def bareNode (s : ByteArray) : List SV := [sI 0, sS s, sS ⟨#[]⟩, sI 0, sI 0, sI 0, sI 0, sI 0, .imm (.val (.slice none 0 0)), .imm (.val (.slice none 0 0)), sI 0]

theorem equalPieces_nil : SPure Tryz.prog G 122 [.imm (.val (.slice none 0 0)), .imm (.val (.slice none 0 0))] (sB true) := by
  refine spure_enter Tryz.func122 rfl (by rw [Tryz.ntmps122]; simp) rfl rfl ?_; intro E hH hK
  (refine sgo_sound [] 1000 ?_; conv => whnf)
  refine sw_loop ?_
  (refine sgo_sound [] 1000 ?_; conv => whnf)
  exact hK _

theorem bare_spec (s : ByteArray) : SPure Tryz.prog G 104 [.agg (refNode s), .agg (bareNode s)] (sB true) := by
  refine spure_enter Tryz.func104 rfl (by rw [Tryz.ntmps104]; simp) rfl rfl ?_; intro E hH hK
  (refine sgo_sound [] 1000 ?_; conv => whnf)
  repeat' ((first | with_reducible refine bdec (fun h => ?_) (fun h => ?_) | with_reducible refine bndec (fun h => ?_) (fun h => ?_) | with_reducible refine bwtd (fun h => ?_) (fun h => ?_) | with_reducible refine bwfd (fun h => ?_) (fun h => ?_) | with_reducible refine bwtn (fun h => ?_) (fun h => ?_) | with_reducible refine bwfn (fun h => ?_) (fun h => ?_) | with_reducible refine bwtb (fun h => ?_) (fun h => ?_) | with_reducible refine bwfb (fun h => ?_) (fun h => ?_) | with_reducible refine bwt (fun h => ?_) (fun h => ?_) | with_reducible refine bwf (fun h => ?_) (fun h => ?_) | with_reducible refine bnt (fun h => ?_) (fun h => ?_) | with_reducible refine bcase (fun h => ?_) (fun h => ?_)) <;> (conv => whnf))
  all_goals try (exact absurd rfl ‹¬ _›)
  all_goals try (exfalso; omega)
  refine swr_pure rfl rfl rfl rfl rfl rfl  (equalPieces_nil G) ?_
  (refine sgor_sound [] 1000 ?_; conv => whnf)
  exact hK _

theorem node_spec (s : ByteArray) : SPre Tryz.prog G 103 [.ptr 1 0, .agg (refNode s), sI 1] [.cells (refNode s), .cells [sI 0]] (fun r H1 => r = sB true ∧ H1 = [.cells (refNode s), .cells [sI 1]]) := by
  refine spre_enter Tryz.func103 rfl (by rw [Tryz.ntmps103]; simp) rfl rfl ?_
  intro E hH hK
  (refine sgo_sound [] 1000 ?_; conv => whnf)
  exact hK _ _ (by simp) rfl rfl ⟨rfl, rfl⟩

theorem exprRef_spec (s : ByteArray) : SPre Tryz.prog G 102 [.ptr 1 0, .agg (refNode s), sI 1] [.cells (refNode s), .cells [sI 0]] (fun r H1 => r = sB (properName s) ∧ H1 = [.cells (refNode s), .cells [sI 1]]) := by
  refine spre_enter Tryz.func102 rfl (by rw [Tryz.ntmps102]; simp) rfl rfl ?_
  intro E hH hK
  (refine sgo_sound [] 1000 ?_; conv => whnf)
  refine swr_pre 2 rfl rfl rfl rfl rfl rfl (node_spec G s) ?_
  rintro r H1 ⟨rfl, rfl⟩ _
  (refine sgor_sound [] 1000 ?_; conv => whnf)
  refine swr_pure rfl rfl rfl rfl rfl rfl  (goodName_spec G s) ?_
  (refine sgor_sound [] 1000 ?_; conv => whnf)
  repeat' ((first | with_reducible refine bdec (fun h => ?_) (fun h => ?_) | with_reducible refine bndec (fun h => ?_) (fun h => ?_) | with_reducible refine bwtd (fun h => ?_) (fun h => ?_) | with_reducible refine bwfd (fun h => ?_) (fun h => ?_) | with_reducible refine bwtn (fun h => ?_) (fun h => ?_) | with_reducible refine bwfn (fun h => ?_) (fun h => ?_) | with_reducible refine bwtb (fun h => ?_) (fun h => ?_) | with_reducible refine bwfb (fun h => ?_) (fun h => ?_) | with_reducible refine bwt (fun h => ?_) (fun h => ?_) | with_reducible refine bwf (fun h => ?_) (fun h => ?_) | with_reducible refine bnt (fun h => ?_) (fun h => ?_) | with_reducible refine bcase (fun h => ?_) (fun h => ?_)) <;> (conv => whnf))
  · refine swr_pure rfl rfl rfl rfl rfl rfl  (bare_spec G s) ?_
    (refine sgor_sound [] 1000 ?_; conv => whnf)
    rw [h] at hK
    exact hK _ _ (by simp) rfl rfl ⟨rfl, rfl⟩
  · rw [h] at hK
    exact hK _ _ (by simp) rfl rfl ⟨rfl, rfl⟩

theorem parserValid_spec (s : ByteArray) : SPure Tryz.prog G 86 [.agg (refNode s)] (sB (properName s)) := by
  refine spure_enter Tryz.func86 rfl (by rw [Tryz.ntmps86]; simp) rfl rfl ?_; intro E hH hK
  (refine sgo_sound [] 1000 ?_; conv => whnf)
  refine swr_pre 2 rfl rfl rfl rfl rfl rfl (exprRef_spec G s) ?_
  rintro r H1 ⟨rfl, rfl⟩ _
  (refine sgor_sound [] 1000 ?_; conv => whnf)
  exact hK _

theorem codexName_spec (s : ByteArray) : SPure Tryz.prog G 71 [sS s] (sB (properName s)) := by
  refine spure_enter Tryz.func71 rfl (by rw [Tryz.ntmps71]; simp) rfl rfl ?_; intro E hH hK
  (refine sgo_sound [] 1000 ?_; conv => whnf)
  refine swr_pure rfl rfl rfl rfl rfl rfl  (parserValid_spec G s) ?_
  (refine sgor_sound [] 1000 ?_; conv => whnf)
  exact hK _

theorem refName_spec (s : ByteArray) : SPure Tryz.prog G 61 [sS s] (sB (properName s)) := by
  refine spure_enter Tryz.func61 rfl (by rw [Tryz.ntmps61]; simp) rfl rfl ?_; intro E hH hK
  have hl := bytes_len s
  (refine sgo_sound [] 1000 ?_; conv => whnf)
  repeat' ((first | with_reducible refine bdec (fun h => ?_) (fun h => ?_) | with_reducible refine bndec (fun h => ?_) (fun h => ?_) | with_reducible refine bwtd (fun h => ?_) (fun h => ?_) | with_reducible refine bwfd (fun h => ?_) (fun h => ?_) | with_reducible refine bwtn (fun h => ?_) (fun h => ?_) | with_reducible refine bwfn (fun h => ?_) (fun h => ?_) | with_reducible refine bwtb (fun h => ?_) (fun h => ?_) | with_reducible refine bwfb (fun h => ?_) (fun h => ?_) | with_reducible refine bwt (fun h => ?_) (fun h => ?_) | with_reducible refine bwf (fun h => ?_) (fun h => ?_) | with_reducible refine bnt (fun h => ?_) (fun h => ?_) | with_reducible refine bcase (fun h => ?_) (fun h => ?_)) <;> (conv => whnf))
  · cases hs : s.data.toList with
    | nil => rw [hs] at hl; simp at hl; omega
    | cons b0 r0 =>
      have h0 : s.data.toList[0]? = some b0 := by rw [hs]; rfl
      have bad : lowerB b0 = false → properName s = false := fun h => by simp [properName, nameOK, hs, headLower, h]
      refine swr_byte rfl rfl rfl rfl rfl rfl  h0 ?_
      (refine sgor_sound [] 1000 ?_; conv => whnf)
      refine swr_pure rfl rfl rfl rfl rfl rfl  (lower_spec G b0) ?_
      (refine sgor_sound [] 1000 ?_; conv => whnf)
      repeat' ((first | with_reducible refine bdec (fun h => ?_) (fun h => ?_) | with_reducible refine bndec (fun h => ?_) (fun h => ?_) | with_reducible refine bwtd (fun h => ?_) (fun h => ?_) | with_reducible refine bwfd (fun h => ?_) (fun h => ?_) | with_reducible refine bwtn (fun h => ?_) (fun h => ?_) | with_reducible refine bwfn (fun h => ?_) (fun h => ?_) | with_reducible refine bwtb (fun h => ?_) (fun h => ?_) | with_reducible refine bwfb (fun h => ?_) (fun h => ?_) | with_reducible refine bwt (fun h => ?_) (fun h => ?_) | with_reducible refine bwf (fun h => ?_) (fun h => ?_) | with_reducible refine bnt (fun h => ?_) (fun h => ?_) | with_reducible refine bcase (fun h => ?_) (fun h => ?_)) <;> (conv => whnf))
      · have hlow : lowerB b0 = true := h
        refine swr_pure rfl rfl rfl rfl rfl rfl  (keys_spec G) ?_
        (refine sgor_sound [] 1000 ?_; conv => whnf)
        refine swr_pure rfl rfl rfl rfl rfl rfl  (in_spec G keys s (by decide)) ?_
        (refine sgor_sound [] 1000 ?_; conv => whnf)
        repeat' ((first | with_reducible refine bdec (fun h => ?_) (fun h => ?_) | with_reducible refine bndec (fun h => ?_) (fun h => ?_) | with_reducible refine bwtd (fun h => ?_) (fun h => ?_) | with_reducible refine bwfd (fun h => ?_) (fun h => ?_) | with_reducible refine bwtn (fun h => ?_) (fun h => ?_) | with_reducible refine bwfn (fun h => ?_) (fun h => ?_) | with_reducible refine bwtb (fun h => ?_) (fun h => ?_) | with_reducible refine bwfb (fun h => ?_) (fun h => ?_) | with_reducible refine bwt (fun h => ?_) (fun h => ?_) | with_reducible refine bwf (fun h => ?_) (fun h => ?_) | with_reducible refine bnt (fun h => ?_) (fun h => ?_) | with_reducible refine bcase (fun h => ?_) (fun h => ?_)) <;> (conv => whnf))
        · exact kB hK (by simp only [properName, keyOK, h]; simp)
        · have hkey : keyOK s = false := h
          have hhead : headLower s.data.toList = true := by rw [hs]; simp [headLower, hlow]
          have hsz : s.size ≤ 16 := by omega
          clear hs
          refine sw_keep [0, 3] ?_
          refine sw_each s.data.toList (fun i _ => [(0, sS s), (3, sI i)]) (fun _ _ => []) (fun d _ (_ : Unit) => d.all wordB = true) () rfl ?_ ?_
          · intro _ hv
            rw [hl]
            (refine sgo_sound [] 1000 ?_; conv => whnf)
            repeat' ((first | with_reducible refine bdec (fun h => ?_) (fun h => ?_) | with_reducible refine bndec (fun h => ?_) (fun h => ?_) | with_reducible refine bwtd (fun h => ?_) (fun h => ?_) | with_reducible refine bwfd (fun h => ?_) (fun h => ?_) | with_reducible refine bwtn (fun h => ?_) (fun h => ?_) | with_reducible refine bwfn (fun h => ?_) (fun h => ?_) | with_reducible refine bwtb (fun h => ?_) (fun h => ?_) | with_reducible refine bwfb (fun h => ?_) (fun h => ?_) | with_reducible refine bwt (fun h => ?_) (fun h => ?_) | with_reducible refine bwf (fun h => ?_) (fun h => ?_) | with_reducible refine bnt (fun h => ?_) (fun h => ?_) | with_reducible refine bcase (fun h => ?_) (fun h => ?_)) <;> (conv => whnf))
            all_goals try (exfalso; omega)
            exact kB hK (by unfold properName nameOK; rw [hhead, hv, hkey]; simp [hsz])
          · intro done b rest _ ha hlen hv ih
            have hget : s.data.toList[done.length]? = some b := by rw [ha]; simp
            have hw := wrap_succ (n := done.length) (by omega)
            have bad : wordB b = false → properName s = false := fun h => by simp [properName, nameOK, ha, h]
            have next : wordB b = true → _ := fun h => ih () (by simp [hv, h])
            (refine sgo_sound [] 1000 ?_; conv => whnf)
            repeat' ((first | with_reducible refine bdec (fun h => ?_) (fun h => ?_) | with_reducible refine bndec (fun h => ?_) (fun h => ?_) | with_reducible refine bwtd (fun h => ?_) (fun h => ?_) | with_reducible refine bwfd (fun h => ?_) (fun h => ?_) | with_reducible refine bwtn (fun h => ?_) (fun h => ?_) | with_reducible refine bwfn (fun h => ?_) (fun h => ?_) | with_reducible refine bwtb (fun h => ?_) (fun h => ?_) | with_reducible refine bwfb (fun h => ?_) (fun h => ?_) | with_reducible refine bwt (fun h => ?_) (fun h => ?_) | with_reducible refine bwf (fun h => ?_) (fun h => ?_) | with_reducible refine bnt (fun h => ?_) (fun h => ?_) | with_reducible refine bcase (fun h => ?_) (fun h => ?_)) <;> (conv => whnf))
            all_goals try (exfalso; omega)
            refine swr_byte rfl rfl rfl rfl rfl rfl  hget ?_
            (refine sgor_sound [] 1000 ?_; conv => whnf)
            refine swr_pure rfl rfl rfl rfl rfl rfl  (lower_spec G b) ?_
            (refine sgor_sound [] 1000 ?_; conv => whnf)
            repeat' ((first | with_reducible refine bdec (fun h => ?_) (fun h => ?_) | with_reducible refine bndec (fun h => ?_) (fun h => ?_) | with_reducible refine bwtd (fun h => ?_) (fun h => ?_) | with_reducible refine bwfd (fun h => ?_) (fun h => ?_) | with_reducible refine bwtn (fun h => ?_) (fun h => ?_) | with_reducible refine bwfn (fun h => ?_) (fun h => ?_) | with_reducible refine bwtb (fun h => ?_) (fun h => ?_) | with_reducible refine bwfb (fun h => ?_) (fun h => ?_) | with_reducible refine bwt (fun h => ?_) (fun h => ?_) | with_reducible refine bwf (fun h => ?_) (fun h => ?_) | with_reducible refine bnt (fun h => ?_) (fun h => ?_) | with_reducible refine bcase (fun h => ?_) (fun h => ?_)) <;> (conv => whnf))
            · refine swr_byte rfl rfl rfl rfl rfl rfl  hget ?_
              (refine sgor_sound [] 1000 ?_; conv => whnf)
              refine swr_pure rfl rfl rfl rfl rfl rfl  (digit_spec G b) ?_
              (refine sgor_sound [] 1000 ?_; conv => whnf)
              repeat' ((first | with_reducible refine bdec (fun h => ?_) (fun h => ?_) | with_reducible refine bndec (fun h => ?_) (fun h => ?_) | with_reducible refine bwtd (fun h => ?_) (fun h => ?_) | with_reducible refine bwfd (fun h => ?_) (fun h => ?_) | with_reducible refine bwtn (fun h => ?_) (fun h => ?_) | with_reducible refine bwfn (fun h => ?_) (fun h => ?_) | with_reducible refine bwtb (fun h => ?_) (fun h => ?_) | with_reducible refine bwfb (fun h => ?_) (fun h => ?_) | with_reducible refine bwt (fun h => ?_) (fun h => ?_) | with_reducible refine bwf (fun h => ?_) (fun h => ?_) | with_reducible refine bnt (fun h => ?_) (fun h => ?_) | with_reducible refine bcase (fun h => ?_) (fun h => ?_)) <;> (conv => whnf))
              · refine swr_byte rfl rfl rfl rfl rfl rfl  hget ?_
                (refine sgor_sound [] 1000 ?_; conv => whnf)
                repeat' ((first | with_reducible refine bdec (fun h => ?_) (fun h => ?_) | with_reducible refine bndec (fun h => ?_) (fun h => ?_) | with_reducible refine bwtd (fun h => ?_) (fun h => ?_) | with_reducible refine bwfd (fun h => ?_) (fun h => ?_) | with_reducible refine bwtn (fun h => ?_) (fun h => ?_) | with_reducible refine bwfn (fun h => ?_) (fun h => ?_) | with_reducible refine bwtb (fun h => ?_) (fun h => ?_) | with_reducible refine bwfb (fun h => ?_) (fun h => ?_) | with_reducible refine bwt (fun h => ?_) (fun h => ?_) | with_reducible refine bwf (fun h => ?_) (fun h => ?_) | with_reducible refine bnt (fun h => ?_) (fun h => ?_) | with_reducible refine bcase (fun h => ?_) (fun h => ?_)) <;> (conv => whnf))
                · exact kB hK (bad (by simp [wordB, *]; omega))
                · rw [hw]; exact sw_keep [0, 3] (next (by simp [wordB]; omega))
              · rw [hw]; exact sw_keep [0, 3] (next (by simp [wordB, *]))
            · rw [hw]; exact sw_keep [0, 3] (next (by simp [wordB, *]))
      · exact kB hK (bad h)
  · exact kB hK (by simp [properName, nameOK]; intros; omega)
  · exact kB hK (by have : s.data.toList = [] := List.length_eq_zero_iff.1 (by omega); simp [properName, nameOK, this, headLower])

end Go.Proofs.YthmkdghoaifkbaaGreatDoor

/- Contracts, part l: declarations. -/
namespace Go.Proofs.YthmkdghoaifkbaaGreatDoor
open Go Go.Sh
set_option maxRecDepth 10000
variable (G : List (Nat × D))

theorem under_enc {κ α : Type} (n : Nat) (f : α → SV) (hf : ∀ a, (f a).under n = true) (l : List (κ × α)) : (encM f l).all (fun e => e.2.under n) = true := by
  simp only [encM, List.all_map]
  exact List.all_eq_true.2 fun p _ => hf p.2
theorem underSB (n : Nat) (l : List (ByteArray × Bool)) : SObj.under n (.mapS (encM sB l)) = true := under_enc n sB (fun _ => rfl) l
theorem underIB (n : Nat) (l : List (Int × Bool)) : SObj.under n (.mapI .i64 (encM sB l)) = true := under_enc n sB (fun _ => rfl) l
theorem underII (n : Nat) (l : List (Int × Int)) : SObj.under n (.mapI .i64 (encM sI l)) = true := under_enc n sI (fun _ => rfl) l

def declOne (lo hi : Int) (d : Decl) : Bool := properName d.name && unitOK d.unit && decide (lo ≤ d.role ∧ d.role ≤ hi)
def declsOK (lo hi : Int) (l : List Decl) : Bool := l.all (declOne lo hi) && decide ((l.map (·.name)).Nodup)

theorem declsOK_bad {lo hi : Int} {done rest : List Decl} {d : Decl} (h : declOne lo hi d = false ∨ d.name ∈ done.map (·.name)) : declsOK lo hi (done ++ d :: rest) = false := by
  rcases h with h | h
  · simp [declsOK, h]
  · simp only [declsOK, Bool.and_eq_false_iff, decide_eq_false_iff_not]
    right
    rw [List.map_append, List.map_cons, List.nodup_append]
    exact fun ⟨_, _, h3⟩ => h3 _ h _ (by simp) rfl

theorem goodDecls_spec (l : List Decl) (lo hi : Int) (hsz : l.length ≤ 1073741824) : SPure Tryz.prog G 58 [.imm (dDecls l), sI lo, sI hi] (sB (declsOK lo hi l)) := by
  refine spure_enter Tryz.func58 rfl (by rw [Tryz.ntmps58]; simp) rfl rfl ?_; intro E hH hK
  have hlen : (l.map Decl.cells).length = l.length := by simp
  (refine sgo_sound [] 1000 ?_; conv => whnf)
  refine sw_keep [1, 2, 7, 11, 12, 13] ?_
  refine sw_each l (fun i (_ : List (ByteArray × Bool)) => [(1, sI lo), (2, sI hi), (7, .map 0), (11, .imm (dDecls l)), (12, sI (l.map Decl.cells).length), (13, sI i)]) (fun _ m => [.mapS (encM sB m)])
    (fun done _ m => done.all (declOne lo hi) = true ∧ (done.map (·.name)).Nodup ∧ ∀ s, alook s m = if s ∈ done.map (·.name) then some true else none) [] ⟨rfl, List.nodup_nil, fun s => rfl⟩ ?_ ?_
  · rintro m ⟨h1, h2, _⟩
    (refine sgo_sound [] 1000 ?_; conv => whnf)
    repeat' ((first | with_reducible refine bdec (fun h => ?_) (fun h => ?_) | with_reducible refine bndec (fun h => ?_) (fun h => ?_) | with_reducible refine bwtd (fun h => ?_) (fun h => ?_) | with_reducible refine bwfd (fun h => ?_) (fun h => ?_) | with_reducible refine bwtn (fun h => ?_) (fun h => ?_) | with_reducible refine bwfn (fun h => ?_) (fun h => ?_) | with_reducible refine bwtb (fun h => ?_) (fun h => ?_) | with_reducible refine bwfb (fun h => ?_) (fun h => ?_) | with_reducible refine bwt (fun h => ?_) (fun h => ?_) | with_reducible refine bwf (fun h => ?_) (fun h => ?_) | with_reducible refine bnt (fun h => ?_) (fun h => ?_) | with_reducible refine bcase (fun h => ?_) (fun h => ?_)) <;> (conv => whnf))
    all_goals try (exfalso; omega)
    exact kB hK (by simp only [declsOK, h1, h2]; rfl)
  · rintro done d rest m ha hl ⟨h1, h2, h3⟩ ih
    have hw := wrap_succ (n := done.length) (by omega)
    have bad : declOne lo hi d = false ∨ d.name ∈ done.map (·.name) → declsOK lo hi l = false := fun h => by rw [ha]; exact declsOK_bad h
    have next : declOne lo hi d = true → d.name ∉ done.map (·.name) → _ := fun g1 g2 => ih (ains d.name true m) ⟨by simp [h1, g1], by
      rw [List.map_append, List.nodup_append]; exact ⟨h2, by simp, fun a ha b hb e => g2 (by simp at hb; rw [← hb, ← e]; exact ha)⟩, fun s => by
      rw [alook_ains, h3]; simp only [List.map_append, List.mem_append, List.map_cons, List.map_nil, List.mem_singleton]
      by_cases e : s = d.name
      · subst e; simp
      · simp [e]⟩
    have hl3 := h3 d.name
    (refine sgo_sound [] 1000 ?_; conv => whnf)
    repeat' ((first | with_reducible refine bdec (fun h => ?_) (fun h => ?_) | with_reducible refine bndec (fun h => ?_) (fun h => ?_) | with_reducible refine bwtd (fun h => ?_) (fun h => ?_) | with_reducible refine bwfd (fun h => ?_) (fun h => ?_) | with_reducible refine bwtn (fun h => ?_) (fun h => ?_) | with_reducible refine bwfn (fun h => ?_) (fun h => ?_) | with_reducible refine bwtb (fun h => ?_) (fun h => ?_) | with_reducible refine bwfb (fun h => ?_) (fun h => ?_) | with_reducible refine bwt (fun h => ?_) (fun h => ?_) | with_reducible refine bwf (fun h => ?_) (fun h => ?_) | with_reducible refine bnt (fun h => ?_) (fun h => ?_) | with_reducible refine bcase (fun h => ?_) (fun h => ?_)) <;> (conv => whnf))
    all_goals try (exfalso; omega)
    refine swr_index rfl rfl rfl rfl rfl rfl rfl rfl  (row := d.cells) (by simp [ha]) ?_
    (refine sgor_sound [] 1000 ?_; conv => whnf)
    refine swr_pure rfl rfl rfl rfl rfl rfl  (codexName_spec G d.name) ?_
    (refine sgor_sound [] 1000 ?_; conv => whnf)
    repeat' ((first | with_reducible refine bdec (fun h => ?_) (fun h => ?_) | with_reducible refine bndec (fun h => ?_) (fun h => ?_) | with_reducible refine bwtd (fun h => ?_) (fun h => ?_) | with_reducible refine bwfd (fun h => ?_) (fun h => ?_) | with_reducible refine bwtn (fun h => ?_) (fun h => ?_) | with_reducible refine bwfn (fun h => ?_) (fun h => ?_) | with_reducible refine bwtb (fun h => ?_) (fun h => ?_) | with_reducible refine bwfb (fun h => ?_) (fun h => ?_) | with_reducible refine bwt (fun h => ?_) (fun h => ?_) | with_reducible refine bwf (fun h => ?_) (fun h => ?_) | with_reducible refine bnt (fun h => ?_) (fun h => ?_) | with_reducible refine bcase (fun h => ?_) (fun h => ?_)) <;> (conv => whnf))
    · have hname : properName d.name = true := h
      by_cases hin : d.name ∈ done.map (·.name)
      · rw [if_pos hin] at hl3
        refine swr_lookS sB rfl rfl rfl rfl rfl rfl rfl rfl rfl (v := sB true) (by rw [hl3]; rfl) ?_
        (refine sgor_sound [] 1000 ?_; conv => whnf)
        exact kB hK (bad (.inr hin))
      · rw [if_neg hin] at hl3
        refine swr_lookS sB rfl rfl rfl rfl rfl rfl rfl rfl rfl (v := sB false) (by rw [hl3]; rfl) ?_
        (refine sgor_sound [] 1000 ?_; conv => whnf)
        refine swr_pure rfl rfl rfl rfl rfl rfl  (isUnit_spec G d.unit) ?_
        (refine sgor_sound [] 1000 ?_; conv => whnf)
        repeat' ((first | with_reducible refine bdec (fun h => ?_) (fun h => ?_) | with_reducible refine bndec (fun h => ?_) (fun h => ?_) | with_reducible refine bwtd (fun h => ?_) (fun h => ?_) | with_reducible refine bwfd (fun h => ?_) (fun h => ?_) | with_reducible refine bwtn (fun h => ?_) (fun h => ?_) | with_reducible refine bwfn (fun h => ?_) (fun h => ?_) | with_reducible refine bwtb (fun h => ?_) (fun h => ?_) | with_reducible refine bwfb (fun h => ?_) (fun h => ?_) | with_reducible refine bwt (fun h => ?_) (fun h => ?_) | with_reducible refine bwf (fun h => ?_) (fun h => ?_) | with_reducible refine bnt (fun h => ?_) (fun h => ?_) | with_reducible refine bcase (fun h => ?_) (fun h => ?_)) <;> (conv => whnf))
        any_goals exact kB hK (bad (.inl (by simp [declOne, *]; try omega)))
        refine swr_setS sB true rfl rfl rfl rfl rfl rfl rfl rfl rfl ?_
        (refine sgor_sound [] 1000 ?_; conv => whnf)
        rw [hw]
        exact sw_kc [1, 2, 7, 11, 12, 13] 1 (by simp [hH]) (by simp) rfl (by simp [underSB]) (next (by simp [declOne, *]; omega) hin)
    · exact kB hK (bad (.inl (by simp [declOne, h])))

def declIx (s : ByteArray) : List Decl → Nat → Int
  | [], _ => -1
  | d :: r, i => if d.name = s then i else declIx s r (i + 1)

theorem declIx_spec (l : List Decl) (s : ByteArray) (hsz : l.length ≤ 1073741824) : SPure Tryz.prog G 63 [.imm (dDecls l), sS s] (sI (declIx s l 0)) := by
  refine spure_enter Tryz.func63 rfl (by rw [Tryz.ntmps63]; simp) rfl rfl ?_; intro E hH hK
  have hlen : (l.map Decl.cells).length = l.length := by simp
  (refine sgo_sound [] 1000 ?_; conv => whnf)
  refine sw_keep [0, 1, 5] ?_
  refine sw_each l (fun i (_ : Unit) => [(0, .imm (dDecls l)), (1, sS s), (5, sI i)]) (fun _ _ => []) (fun done rest _ => declIx s l 0 = declIx s rest done.length) () rfl ?_ ?_
  · rintro _ h1
    (refine sgo_sound [] 1000 ?_; conv => whnf)
    repeat' ((first | with_reducible refine bdec (fun h => ?_) (fun h => ?_) | with_reducible refine bndec (fun h => ?_) (fun h => ?_) | with_reducible refine bwtd (fun h => ?_) (fun h => ?_) | with_reducible refine bwfd (fun h => ?_) (fun h => ?_) | with_reducible refine bwtn (fun h => ?_) (fun h => ?_) | with_reducible refine bwfn (fun h => ?_) (fun h => ?_) | with_reducible refine bwtb (fun h => ?_) (fun h => ?_) | with_reducible refine bwfb (fun h => ?_) (fun h => ?_) | with_reducible refine bwt (fun h => ?_) (fun h => ?_) | with_reducible refine bwf (fun h => ?_) (fun h => ?_) | with_reducible refine bnt (fun h => ?_) (fun h => ?_) | with_reducible refine bcase (fun h => ?_) (fun h => ?_)) <;> (conv => whnf))
    all_goals try (exfalso; omega)
    exact kI hK (by rw [h1]; rfl)
  · rintro done d rest _ ha hl h1 ih
    have hw := wrap_succ (n := done.length) (by omega)
    simp only [declIx] at h1
    (refine sgo_sound [] 1000 ?_; conv => whnf)
    repeat' ((first | with_reducible refine bdec (fun h => ?_) (fun h => ?_) | with_reducible refine bndec (fun h => ?_) (fun h => ?_) | with_reducible refine bwtd (fun h => ?_) (fun h => ?_) | with_reducible refine bwfd (fun h => ?_) (fun h => ?_) | with_reducible refine bwtn (fun h => ?_) (fun h => ?_) | with_reducible refine bwfn (fun h => ?_) (fun h => ?_) | with_reducible refine bwtb (fun h => ?_) (fun h => ?_) | with_reducible refine bwfb (fun h => ?_) (fun h => ?_) | with_reducible refine bwt (fun h => ?_) (fun h => ?_) | with_reducible refine bwf (fun h => ?_) (fun h => ?_) | with_reducible refine bnt (fun h => ?_) (fun h => ?_) | with_reducible refine bcase (fun h => ?_) (fun h => ?_)) <;> (conv => whnf))
    all_goals try (exfalso; omega)
    refine swr_index rfl rfl rfl rfl rfl rfl rfl rfl  (row := d.cells) (by simp [ha]) ?_
    (refine sgor_sound [] 1000 ?_; conv => whnf)
    repeat' ((first | with_reducible refine bdec (fun h => ?_) (fun h => ?_) | with_reducible refine bndec (fun h => ?_) (fun h => ?_) | with_reducible refine bwtd (fun h => ?_) (fun h => ?_) | with_reducible refine bwfd (fun h => ?_) (fun h => ?_) | with_reducible refine bwtn (fun h => ?_) (fun h => ?_) | with_reducible refine bwfn (fun h => ?_) (fun h => ?_) | with_reducible refine bwtb (fun h => ?_) (fun h => ?_) | with_reducible refine bwfb (fun h => ?_) (fun h => ?_) | with_reducible refine bwt (fun h => ?_) (fun h => ?_) | with_reducible refine bwf (fun h => ?_) (fun h => ?_) | with_reducible refine bnt (fun h => ?_) (fun h => ?_) | with_reducible refine bcase (fun h => ?_) (fun h => ?_)) <;> (conv => whnf))
    · exact kI hK (by rw [h1, if_pos h])
    · rw [hw]; exact sw_keep [0, 1, 5] (ih () (by rw [h1, if_neg h]; simp))

theorem declIx_at (s : ByteArray) : ∀ (done : List Decl) (d : Decl) (rest : List Decl) (i : Nat), d.name = s → (declIx s (done ++ d :: rest) i = i + done.length ↔ s ∉ done.map (·.name))
  | [], d, rest, i, h => by simp [declIx, h]
  | x :: done, d, rest, i, h => by
    simp only [List.cons_append, declIx]
    by_cases e : x.name = s
    · simp [e]; omega
    · rw [if_neg e]
      have := declIx_at s done d rest (i + 1) h
      rw [show ((i : Int) + ((x :: done).length : Int)) = ((i + 1 : Nat) : Int) + (done.length : Int) by simp; omega, this]
      simp [Ne.symm e]

theorem refDecls_spec (l : List Decl) (lo hi : Int) (hsz : l.length ≤ 1073741824) : SPure Tryz.prog G 46 [.imm (dDecls l), sI lo, sI hi] (sB (declsOK lo hi l && decide (l.length ≤ 32))) := by
  refine spure_enter Tryz.func46 rfl (by rw [Tryz.ntmps46]; simp) rfl rfl ?_; intro E hH hK
  have hlen : (l.map Decl.cells).length = l.length := by simp
  (refine sgo_sound [] 1000 ?_; conv => whnf)
  refine sw_keep [0, 1, 2, 7] ?_
  refine sw_each l (fun i (_ : Unit) => [(0, .imm (dDecls l)), (1, sI lo), (2, sI hi), (7, sI i)]) (fun _ _ => [])
    (fun done _ _ => done.all (declOne lo hi) = true ∧ (done.map (·.name)).Nodup) () ⟨rfl, List.nodup_nil⟩ ?_ ?_
  · rintro _ ⟨h1, h2⟩
    (refine sgo_sound [] 1000 ?_; conv => whnf)
    repeat' ((first | with_reducible refine bdec (fun h => ?_) (fun h => ?_) | with_reducible refine bndec (fun h => ?_) (fun h => ?_) | with_reducible refine bwtd (fun h => ?_) (fun h => ?_) | with_reducible refine bwfd (fun h => ?_) (fun h => ?_) | with_reducible refine bwtn (fun h => ?_) (fun h => ?_) | with_reducible refine bwfn (fun h => ?_) (fun h => ?_) | with_reducible refine bwtb (fun h => ?_) (fun h => ?_) | with_reducible refine bwfb (fun h => ?_) (fun h => ?_) | with_reducible refine bwt (fun h => ?_) (fun h => ?_) | with_reducible refine bwf (fun h => ?_) (fun h => ?_) | with_reducible refine bnt (fun h => ?_) (fun h => ?_) | with_reducible refine bcase (fun h => ?_) (fun h => ?_)) <;> (conv => whnf))
    all_goals try (exfalso; omega)
    exact kB hK (by simp only [declsOK, h1, h2]; simp; omega)
  · rintro done d rest _ ha hl ⟨h1, h2⟩ ih
    have hw := wrap_succ (n := done.length) (by omega)
    have bad : declOne lo hi d = false ∨ d.name ∈ done.map (·.name) → (declsOK lo hi l && decide (l.length ≤ 32)) = false := fun h => by rw [ha, declsOK_bad h]; rfl
    have next : declOne lo hi d = true → d.name ∉ done.map (·.name) → _ := fun g1 g2 => ih () ⟨by simp [h1, g1], by
      rw [List.map_append, List.nodup_append]; exact ⟨h2, by simp, fun a ha b hb e => g2 (by simp at hb; rw [← hb, ← e]; exact ha)⟩⟩
    have hix := declIx_at d.name done d rest 0 rfl
    rw [← ha] at hix
    have hg : (l.map Decl.cells)[((done.length : Nat) : Int).toNat]? = some d.cells := by simp [ha]
    (refine sgo_sound [] 1000 ?_; conv => whnf)
    repeat' ((first | with_reducible refine bdec (fun h => ?_) (fun h => ?_) | with_reducible refine bndec (fun h => ?_) (fun h => ?_) | with_reducible refine bwtd (fun h => ?_) (fun h => ?_) | with_reducible refine bwfd (fun h => ?_) (fun h => ?_) | with_reducible refine bwtn (fun h => ?_) (fun h => ?_) | with_reducible refine bwfn (fun h => ?_) (fun h => ?_) | with_reducible refine bwtb (fun h => ?_) (fun h => ?_) | with_reducible refine bwfb (fun h => ?_) (fun h => ?_) | with_reducible refine bwt (fun h => ?_) (fun h => ?_) | with_reducible refine bwf (fun h => ?_) (fun h => ?_) | with_reducible refine bnt (fun h => ?_) (fun h => ?_) | with_reducible refine bcase (fun h => ?_) (fun h => ?_)) <;> (conv => whnf))
    all_goals try (exfalso; omega)
    refine swr_index rfl rfl rfl rfl rfl rfl rfl rfl  (row := d.cells) (by simp [ha]) ?_
    (refine sgor_sound [] 1000 ?_; conv => whnf)
    refine swr_pure rfl rfl rfl rfl rfl rfl  (refName_spec G d.name) ?_
    (refine sgor_sound [] 1000 ?_; conv => whnf)
    repeat' ((first | with_reducible refine bdec (fun h => ?_) (fun h => ?_) | with_reducible refine bndec (fun h => ?_) (fun h => ?_) | with_reducible refine bwtd (fun h => ?_) (fun h => ?_) | with_reducible refine bwfd (fun h => ?_) (fun h => ?_) | with_reducible refine bwtn (fun h => ?_) (fun h => ?_) | with_reducible refine bwfn (fun h => ?_) (fun h => ?_) | with_reducible refine bwtb (fun h => ?_) (fun h => ?_) | with_reducible refine bwfb (fun h => ?_) (fun h => ?_) | with_reducible refine bwt (fun h => ?_) (fun h => ?_) | with_reducible refine bwf (fun h => ?_) (fun h => ?_) | with_reducible refine bnt (fun h => ?_) (fun h => ?_) | with_reducible refine bcase (fun h => ?_) (fun h => ?_)) <;> (conv => whnf))
    any_goals exact kB hK (bad (.inl (by simp [declOne, *])))
    refine swr_index rfl rfl rfl rfl rfl rfl rfl rfl  (row := d.cells) (by simp [ha]) ?_
    (refine sgor_sound [] 1000 ?_; conv => whnf)
    refine swr_pure rfl rfl rfl rfl rfl rfl  (unit_spec G d.unit) ?_
    (refine sgor_sound [] 1000 ?_; conv => whnf)
    repeat' ((first | with_reducible refine bdec (fun h => ?_) (fun h => ?_) | with_reducible refine bndec (fun h => ?_) (fun h => ?_) | with_reducible refine bwtd (fun h => ?_) (fun h => ?_) | with_reducible refine bwfd (fun h => ?_) (fun h => ?_) | with_reducible refine bwtn (fun h => ?_) (fun h => ?_) | with_reducible refine bwfn (fun h => ?_) (fun h => ?_) | with_reducible refine bwtb (fun h => ?_) (fun h => ?_) | with_reducible refine bwfb (fun h => ?_) (fun h => ?_) | with_reducible refine bwt (fun h => ?_) (fun h => ?_) | with_reducible refine bwf (fun h => ?_) (fun h => ?_) | with_reducible refine bnt (fun h => ?_) (fun h => ?_) | with_reducible refine bcase (fun h => ?_) (fun h => ?_)) <;> (conv => whnf))
    any_goals exact kB hK (bad (.inl (by simp [declOne, *])))
    refine swr_index rfl rfl rfl rfl rfl rfl rfl rfl  (row := d.cells) (by simp [ha]) ?_
    (refine sgor_sound [] 1000 ?_; conv => whnf)
    repeat' ((first | with_reducible refine bdec (fun h => ?_) (fun h => ?_) | with_reducible refine bndec (fun h => ?_) (fun h => ?_) | with_reducible refine bwtd (fun h => ?_) (fun h => ?_) | with_reducible refine bwfd (fun h => ?_) (fun h => ?_) | with_reducible refine bwtn (fun h => ?_) (fun h => ?_) | with_reducible refine bwfn (fun h => ?_) (fun h => ?_) | with_reducible refine bwtb (fun h => ?_) (fun h => ?_) | with_reducible refine bwfb (fun h => ?_) (fun h => ?_) | with_reducible refine bwt (fun h => ?_) (fun h => ?_) | with_reducible refine bwf (fun h => ?_) (fun h => ?_) | with_reducible refine bnt (fun h => ?_) (fun h => ?_) | with_reducible refine bcase (fun h => ?_) (fun h => ?_)) <;> (conv => whnf))
    any_goals exact kB hK (bad (.inl (by simp [declOne, *]; try omega)))
    refine swr_index rfl rfl rfl rfl rfl rfl rfl rfl  (row := d.cells) (by simp [ha]) ?_
    (refine sgor_sound [] 1000 ?_; conv => whnf)
    repeat' ((first | with_reducible refine bdec (fun h => ?_) (fun h => ?_) | with_reducible refine bndec (fun h => ?_) (fun h => ?_) | with_reducible refine bwtd (fun h => ?_) (fun h => ?_) | with_reducible refine bwfd (fun h => ?_) (fun h => ?_) | with_reducible refine bwtn (fun h => ?_) (fun h => ?_) | with_reducible refine bwfn (fun h => ?_) (fun h => ?_) | with_reducible refine bwtb (fun h => ?_) (fun h => ?_) | with_reducible refine bwfb (fun h => ?_) (fun h => ?_) | with_reducible refine bwt (fun h => ?_) (fun h => ?_) | with_reducible refine bwf (fun h => ?_) (fun h => ?_) | with_reducible refine bnt (fun h => ?_) (fun h => ?_) | with_reducible refine bcase (fun h => ?_) (fun h => ?_)) <;> (conv => whnf))
    any_goals exact kB hK (bad (.inl (by simp [declOne, *]; try omega)))
    refine swr_index rfl rfl rfl rfl rfl rfl rfl rfl  (row := d.cells) (by simp [ha]) ?_
    (refine sgor_sound [] 1000 ?_; conv => whnf)
    refine swr_pure rfl rfl rfl rfl rfl rfl  (declIx_spec G l d.name hsz) ?_
    (refine sgor_sound [] 1000 ?_; conv => whnf)
    repeat' ((first | with_reducible refine bdec (fun h => ?_) (fun h => ?_) | with_reducible refine bndec (fun h => ?_) (fun h => ?_) | with_reducible refine bwtd (fun h => ?_) (fun h => ?_) | with_reducible refine bwfd (fun h => ?_) (fun h => ?_) | with_reducible refine bwtn (fun h => ?_) (fun h => ?_) | with_reducible refine bwfn (fun h => ?_) (fun h => ?_) | with_reducible refine bwtb (fun h => ?_) (fun h => ?_) | with_reducible refine bwfb (fun h => ?_) (fun h => ?_) | with_reducible refine bwt (fun h => ?_) (fun h => ?_) | with_reducible refine bwf (fun h => ?_) (fun h => ?_) | with_reducible refine bnt (fun h => ?_) (fun h => ?_) | with_reducible refine bcase (fun h => ?_) (fun h => ?_)) <;> (conv => whnf))
    · exact kB hK (bad (.inr (by
        rcases Classical.em (d.name ∈ done.map (·.name)) with h' | h'
        · exact h'
        · exact absurd (hix.2 h') (by simpa using h))))
    · rw [hw]
      exact sw_keep [0, 1, 2, 7] (next (by simp [declOne, *]; omega) (hix.1 (by simpa using h)))

end Go.Proofs.YthmkdghoaifkbaaGreatDoor

/- Contracts, part m: the units of expressions. -/
namespace Go.Proofs.YthmkdghoaifkbaaGreatDoor
open Go Go.Sh
set_option maxRecDepth 10000
set_option maxHeartbeats 2000000
variable (G : List (Nat × D))

abbrev tT : ByteArray := ⟨#[116, 114, 117, 116, 104]⟩
abbrev tN : ByteArray := ⟨#[110, 117, 109, 98, 101, 114]⟩
abbrev tM : ByteArray := ⟨#[109, 105, 110, 117, 116, 101, 115]⟩
def sameU : List Ex → Bool
  | [] => true
  | k0 :: r => (k0 :: r).all fun x => decide (x.unit = k0.unit)

theorem same_spec (ks : List Ex) (hsz : ks.length ≤ 1073741824) : SPure Tryz.prog G 125 [.imm (.isl 6 (exprRows ks))] (sB (sameU ks)) := by
  refine spure_enter Tryz.func125 rfl (by rw [Tryz.ntmps125]; simp) rfl rfl ?_; intro E hH hK
  rw [exprRows_eq]
  have hlen : (ks.map Ex.cells).length = ks.length := by simp
  (refine sgo_sound [] 1000 ?_; conv => whnf)
  refine sw_keep [0, 5, 6, 7] ?_
  refine sw_each ks (fun i (_ : Unit) => [(0, .imm (.isl 6 (ks.map Ex.cells))), (5, .imm (.isl 6 (ks.map Ex.cells))), (6, sI (ks.map Ex.cells).length), (7, sI i)]) (fun _ _ => [])
    (fun done rest _ => sameU ks = true ∨ ∃ k0, ks.head? = some k0 ∧ sameU ks = rest.all fun x => decide (x.unit = k0.unit)) () (by
      cases ks with
      | nil => exact .inl rfl
      | cons k0 r => exact .inr ⟨k0, rfl, rfl⟩) ?_ ?_
  · rintro _ h1
    (refine sgo_sound [] 1000 ?_; conv => whnf)
    repeat' ((first | with_reducible refine bdec (fun h => ?_) (fun h => ?_) | with_reducible refine bndec (fun h => ?_) (fun h => ?_) | with_reducible refine bwtd (fun h => ?_) (fun h => ?_) | with_reducible refine bwfd (fun h => ?_) (fun h => ?_) | with_reducible refine bwtn (fun h => ?_) (fun h => ?_) | with_reducible refine bwfn (fun h => ?_) (fun h => ?_) | with_reducible refine bwtb (fun h => ?_) (fun h => ?_) | with_reducible refine bwfb (fun h => ?_) (fun h => ?_) | with_reducible refine bwt (fun h => ?_) (fun h => ?_) | with_reducible refine bwf (fun h => ?_) (fun h => ?_) | with_reducible refine bnt (fun h => ?_) (fun h => ?_) | with_reducible refine bcase (fun h => ?_) (fun h => ?_)) <;> (conv => whnf))
    all_goals try (exfalso; omega)
    exact kB hK (by rcases h1 with h1 | ⟨k0, _, h1⟩ <;> rw [h1]; rfl)
  · rintro done x rest _ ha hl h1 ih
    have hw := wrap_succ (n := done.length) (by omega)
    obtain ⟨k0, hk0, hs⟩ : ∃ k0, ks.head? = some k0 ∧ (sameU ks = true ∨ sameU ks = (x :: rest).all fun x => decide (x.unit = k0.unit)) := by
      rcases h1 with h1 | ⟨k0, h2, h3⟩
      · cases ks with
        | nil => simp at ha
        | cons k0 r => exact ⟨k0, rfl, .inl h1⟩
      · exact ⟨k0, h2, .inr h3⟩
    have h0 : (ks.map Ex.cells)[0]? = some k0.cells := by
      cases ks with
      | nil => simp at hk0
      | cons a r => simp at hk0; simp [hk0]
    have hxk : sameU ks = true → x.unit = k0.unit := fun h => by
      cases ks with
      | nil => simp at ha
      | cons a r =>
        simp at hk0; subst hk0
        have := List.all_eq_true.1 h x (by rw [ha]; simp)
        simpa using this
    obtain ⟨o1, n1, u1, d1, p1, q1⟩ := x
    obtain ⟨o0, n0, u0, d0, p0, q0⟩ := k0
    (refine sgo_sound [] 1000 ?_; conv => whnf)
    repeat' ((first | with_reducible refine bdec (fun h => ?_) (fun h => ?_) | with_reducible refine bndec (fun h => ?_) (fun h => ?_) | with_reducible refine bwtd (fun h => ?_) (fun h => ?_) | with_reducible refine bwfd (fun h => ?_) (fun h => ?_) | with_reducible refine bwtn (fun h => ?_) (fun h => ?_) | with_reducible refine bwfn (fun h => ?_) (fun h => ?_) | with_reducible refine bwtb (fun h => ?_) (fun h => ?_) | with_reducible refine bwfb (fun h => ?_) (fun h => ?_) | with_reducible refine bwt (fun h => ?_) (fun h => ?_) | with_reducible refine bwf (fun h => ?_) (fun h => ?_) | with_reducible refine bnt (fun h => ?_) (fun h => ?_) | with_reducible refine bcase (fun h => ?_) (fun h => ?_)) <;> (conv => whnf))
    all_goals try (exfalso; omega)
    refine swr_index rfl rfl rfl rfl rfl rfl rfl rfl  (row := (Ex.mk o1 n1 u1 d1 p1 q1).cells) (by simp [ha]) ?_
    (refine sgor_sound [] 1000 ?_; conv => whnf)
    (refine swd_start mixed rfl ?_; refine sgod_sound [] ?_; conv => whnf)
    refine swd_index rfl rfl rfl rfl rfl rfl rfl rfl  (row := (Ex.mk o0 n0 u0 d0 p0 q0).cells) h0 ?_
    (refine sgod_sound [] ?_; conv => whnf)
    (refine sgo_sound [] 1000 ?_; conv => whnf)
    repeat' ((first | with_reducible refine bdec (fun h => ?_) (fun h => ?_) | with_reducible refine bndec (fun h => ?_) (fun h => ?_) | with_reducible refine bwtd (fun h => ?_) (fun h => ?_) | with_reducible refine bwfd (fun h => ?_) (fun h => ?_) | with_reducible refine bwtn (fun h => ?_) (fun h => ?_) | with_reducible refine bwfn (fun h => ?_) (fun h => ?_) | with_reducible refine bwtb (fun h => ?_) (fun h => ?_) | with_reducible refine bwfb (fun h => ?_) (fun h => ?_) | with_reducible refine bwt (fun h => ?_) (fun h => ?_) | with_reducible refine bwf (fun h => ?_) (fun h => ?_) | with_reducible refine bnt (fun h => ?_) (fun h => ?_) | with_reducible refine bcase (fun h => ?_) (fun h => ?_)) <;> (conv => whnf))
    · exact kB hK (by
        cases hsk : sameU ks with
        | false => rfl
        | true => exact absurd (hxk hsk) h)
    · rw [hw]
      refine sw_kc [0, 5, 6, 7] 0 (by simp [hH]) (by simp) rfl rfl (ih () ?_)
      rcases hs with hs | hs
      · exact .inl hs
      · exact .inr ⟨_, hk0, by rw [hs]; simp [Ex.unit, h]⟩

theorem product_spec (a b : ByteArray) : SPure Tryz.prog G 126 [sS a, sS b] (sS (if a = tN then b else a)) := by
  refine spure_enter Tryz.func126 rfl (by rw [Tryz.ntmps126]; simp) rfl rfl ?_; intro E hH hK
  (refine sgo_sound [] 1000 ?_; conv => whnf)
  repeat' ((first | with_reducible refine bdec (fun h => ?_) (fun h => ?_) | with_reducible refine bndec (fun h => ?_) (fun h => ?_) | with_reducible refine bwtd (fun h => ?_) (fun h => ?_) | with_reducible refine bwfd (fun h => ?_) (fun h => ?_) | with_reducible refine bwtn (fun h => ?_) (fun h => ?_) | with_reducible refine bwfn (fun h => ?_) (fun h => ?_) | with_reducible refine bwtb (fun h => ?_) (fun h => ?_) | with_reducible refine bwfb (fun h => ?_) (fun h => ?_) | with_reducible refine bwt (fun h => ?_) (fun h => ?_) | with_reducible refine bwf (fun h => ?_) (fun h => ?_) | with_reducible refine bnt (fun h => ?_) (fun h => ?_) | with_reducible refine bcase (fun h => ?_) (fun h => ?_)) <;> (conv => whnf))
  · rw [if_pos h] at hK; exact hK _
  · rw [if_neg h] at hK; exact hK _

/-- operations with kids: the first, the last, how many, whether all units are alike -/
def opOK (op : Int) (u : ByteArray) (f l : Ex) (len : Int) (same : Bool) : Bool :=
  if op = 5 then decide (len = 1) && decide (u = tT) && decide (f.unit = tT)
  else if op = 6 ∨ op = 7 then decide (len = 2) && decide (u = tT) && same && decide (f.unit = tT)
  else if op = 8 then decide (len = 2) && decide (u = tT) && same
  else if op = 9 ∨ op = 10 then decide (len = 2) && decide (u = tT) && (same && !decide (f.unit = tT))
  else if op = 11 ∨ op = 12 then decide (len = 2) && (same && !decide (f.unit = tT)) && decide (u = f.unit)
  else if op = 16 ∨ op = 17 then decide (2 ≤ len) && (same && !decide (f.unit = tT)) && decide (u = f.unit)
  else if op = 13 then decide (len = 2) && !decide (f.unit = tT) && !decide (l.unit = tT) && (decide (f.unit = tN) || decide (l.unit = tN)) && decide (u = if f.unit = tN then l.unit else f.unit)
  else if op = 14 then decide (len = 2) && decide (l.op = 1) && decide (l.unit = tN) && (!decide (l.n < 1) && !decide (1000000 < l.n)) && !decide (f.unit = tT) && decide (u = f.unit)
  else if op = 15 then decide (len = 2) && decide (f.unit = tM) && curOK l.unit && decide (u = l.unit)
  else false

theorem operation_spec (op n : Int) (u : ByteArray) (den : Int) (ps : List Piece) (ks : List Ex) (f l : Ex) (hf : ks.head? = some f) (hl : ks.getLast? = some l) (hsz : ks.length ≤ 1073741824) :
    SPure Tryz.prog G 109 [(Ex.mk op n u den ps ks).sv] (sB (opOK op u f l ks.length (sameU ks))) := by
  refine spure_enter Tryz.func109 rfl (by rw [Tryz.ntmps109]; simp) rfl rfl ?_; intro E hH hK
  have hsame := same_spec G ks hsz
  have hrows := exprRows_eq ks
  have hlen : (exprRows ks).length = ks.length := by rw [hrows]; simp
  have hpos : 1 ≤ ks.length := by cases ks with | nil => simp at hf | cons a r => simp
  have h0 : (exprRows ks)[0]? = some f.cells := by
    rw [hrows]
    cases ks with
    | nil => simp at hf
    | cons a r => simp at hf; simp [hf]
  have h1 : (exprRows ks)[ks.length - 1]? = some l.cells := by
    rw [hrows, List.getElem?_map]
    rw [List.getLast?_eq_getElem?] at hl
    rw [hl]; rfl
  have hm : IntKind.i64.wrap (((exprRows ks).length : Int) - 1) = ((ks.length - 1 : Nat) : Int) := by rw [wrap64 (by omega) (by omega)]; omega
  obtain ⟨o0, n0, u0, d0, p0, q0⟩ := f
  obtain ⟨o1, n1, u1, d1, p1, q1⟩ := l
  (refine sgo_sound [] 1000 ?_; conv => whnf)
  (refine swe_start 2 mixed rfl ?_; refine sgoe_sound [] (nx := 1) ?_; conv => whnf)
  refine swe_index rfl rfl rfl rfl rfl rfl rfl (by simp) rfl  (row := (Ex.mk o0 n0 u0 d0 p0 q0).cells) h0 ?_
  (refine sgoe_sound [] (nx := 1) ?_; conv => whnf)
  refine swe_index rfl rfl rfl rfl rfl rfl rfl (by simp) hm (row := (Ex.mk o1 n1 u1 d1 p1 q1).cells) h1 ?_
  (refine sgoe_sound [] (nx := 1) ?_; conv => whnf)
  (refine sgo_sound [] 1000 ?_; conv => whnf)
  refine swr_pure rfl rfl rfl rfl rfl rfl  hsame ?_
  (refine sgor_sound [] 1000 ?_; conv => whnf)
  generalize sameU ks = sm at hK hsame ⊢
  rw [← hlen] at hK
  clear hm h0 h1 hf hl hlen hpos hrows
  repeat' ((first | with_reducible refine bdec (fun h => ?_) (fun h => ?_) | with_reducible refine bndec (fun h => ?_) (fun h => ?_) | with_reducible refine bwtd (fun h => ?_) (fun h => ?_) | with_reducible refine bwfd (fun h => ?_) (fun h => ?_) | with_reducible refine bwtn (fun h => ?_) (fun h => ?_) | with_reducible refine bwfn (fun h => ?_) (fun h => ?_) | with_reducible refine bwtb (fun h => ?_) (fun h => ?_) | with_reducible refine bwfb (fun h => ?_) (fun h => ?_) | with_reducible refine bwt (fun h => ?_) (fun h => ?_) | with_reducible refine bwf (fun h => ?_) (fun h => ?_) | with_reducible refine bnt (fun h => ?_) (fun h => ?_) | with_reducible refine bcase (fun h => ?_) (fun h => ?_)) <;> (conv => whnf))
  all_goals try (refine kB hK ?_; (try simp [opOK, tT, tN, tM, Ex.unit, Ex.op, Ex.n, *]); (try exact decide_eq_decide.2 Iff.rfl); (try omega); (try (exfalso; exact Bool.noConfusion (‹sm = true›.symm.trans ‹sm = false›))))
  any_goals refine swr_pure rfl rfl rfl rfl rfl rfl  hsame ?_
  any_goals (refine sgor_sound [] 1000 ?_; conv => whnf)
  any_goals refine swr_pure rfl rfl rfl rfl rfl rfl  (isCur_spec G u1) ?_
  any_goals (refine sgor_sound [] 1000 ?_; conv => whnf)
  any_goals (refine swd_start mixed rfl ?_; refine sgod_sound [] ?_; conv => whnf)
  any_goals repeat' ((first | with_reducible refine bdec (fun h => ?_) (fun h => ?_) | with_reducible refine bndec (fun h => ?_) (fun h => ?_) | with_reducible refine bwtd (fun h => ?_) (fun h => ?_) | with_reducible refine bwfd (fun h => ?_) (fun h => ?_) | with_reducible refine bwtn (fun h => ?_) (fun h => ?_) | with_reducible refine bwfn (fun h => ?_) (fun h => ?_) | with_reducible refine bwtb (fun h => ?_) (fun h => ?_) | with_reducible refine bwfb (fun h => ?_) (fun h => ?_) | with_reducible refine bwt (fun h => ?_) (fun h => ?_) | with_reducible refine bwf (fun h => ?_) (fun h => ?_) | with_reducible refine bnt (fun h => ?_) (fun h => ?_) | with_reducible refine bcase (fun h => ?_) (fun h => ?_)) <;> (conv => whnf))
  any_goals refine swd_pure rfl rfl rfl rfl rfl rfl  (product_spec G u0 u1) ?_
  any_goals (refine sgod_sound [] ?_; conv => whnf)
  any_goals (refine sgo_sound [] 1000 ?_; conv => whnf)
  any_goals repeat' ((first | with_reducible refine bdec (fun h => ?_) (fun h => ?_) | with_reducible refine bndec (fun h => ?_) (fun h => ?_) | with_reducible refine bwtd (fun h => ?_) (fun h => ?_) | with_reducible refine bwfd (fun h => ?_) (fun h => ?_) | with_reducible refine bwtn (fun h => ?_) (fun h => ?_) | with_reducible refine bwfn (fun h => ?_) (fun h => ?_) | with_reducible refine bwtb (fun h => ?_) (fun h => ?_) | with_reducible refine bwfb (fun h => ?_) (fun h => ?_) | with_reducible refine bwt (fun h => ?_) (fun h => ?_) | with_reducible refine bwf (fun h => ?_) (fun h => ?_) | with_reducible refine bnt (fun h => ?_) (fun h => ?_) | with_reducible refine bcase (fun h => ?_) (fun h => ?_)) <;> (conv => whnf))
  all_goals try (refine kB hK ?_; (try simp [opOK, tT, tN, tM, Ex.unit, Ex.op, Ex.n, *]); (try exact decide_eq_decide.2 Iff.rfl); (try omega); (try (exfalso; exact Bool.noConfusion (‹sm = true›.symm.trans ‹sm = false›))))
  all_goals trace_state

end Go.Proofs.YthmkdghoaifkbaaGreatDoor

/- Contracts, part n: expressions that fit a codex. -/
namespace Go.Proofs.YthmkdghoaifkbaaGreatDoor
open Go Go.Sh
set_option maxRecDepth 10000
set_option maxHeartbeats 2000000
variable (G : List (Nat × D))

def unitAt (l : List Decl) (i : Int) (u : ByteArray) : Bool :=
  match l[i.toNat]? with
  | some d => decide (u = d.unit)
  | none => false
def leafOK (facts lines : List Decl) (m : List (Int × Int)) (op n : Int) (u : ByteArray) : Bool :=
  if op = 1 then decide (0 ≤ n) && decide (n ≤ 999999999999) && (!decide (u = tT) || decide (n ≤ 1))
  else if op = 2 then decide (0 ≤ n) && decide (n < facts.length) && unitAt facts n u
  else if op = 3 then (match alook n m with
    | some line => unitAt lines line u
    | none => false)
  else decide (1 ≤ n) && decide (n ≤ 4) && decide (u = tN)

/-- the heap of a fitter: the codex, the lines of the numbers, the fitter -/
def fitH (c : Codex) (m : List (Int × Int)) (n : Int) : List SObj :=
  [.cells [.imm (dDecls c.facts), .imm (dDecls c.lines), .imm (dArts c.arts)], .mapI .i64 (encM sI m), .cells [.imm (dDecls c.facts), .imm (dDecls c.lines), .imm (dArts c.arts), .map 1, sI n]]

theorem under_fitH (c : Codex) (m : List (Int × Int)) (n : Int) : (fitH c m n).all (SObj.under 3) = true := by
  simp only [fitH, List.all_cons, underII]; rfl

theorem leaf_spec (c : Codex) (m : List (Int × Int)) (nodes : Int) (op n : Int) (u : ByteArray) (den : Int) (ps : List Piece) (ks : List Ex) (hm : ∀ k v, alook k m = some v → 0 ≤ v ∧ v < c.lines.length) (hop : 1 ≤ op ∧ op ≤ 4) :
    SPre Tryz.prog G 108 [.ptr 2 0, (Ex.mk op n u den ps ks).sv] (fitH c m nodes) (fun r H1 => r = sB (leafOK c.facts c.lines m op n u) ∧ H1 = fitH c m nodes) := by
  refine spre_enter Tryz.func108 rfl (by rw [Tryz.ntmps108]; simp) rfl (under_fitH c m nodes) ?_
  intro E hH hK
  have hf : (c.facts.map Decl.cells).length = c.facts.length := by simp
  have hl : (c.lines.map Decl.cells).length = c.lines.length := by simp
  have fin : ∀ H', H'.take 3 = fitH c m nodes → 3 ≤ H'.length → ∀ b, leafOK c.facts c.lines m op n u = b → E.K (sB b) H' := fun H' h1 h2 b h3 =>
    hK _ _ h2 rfl (by show (List.take 3 H').all _ = true; rw [h1]; exact under_fitH c m nodes) ⟨by rw [h3], h1⟩
  (refine sgo_sound [] 1000 ?_; conv => whnf)
  repeat' ((first | with_reducible refine bdec (fun h => ?_) (fun h => ?_) | with_reducible refine bndec (fun h => ?_) (fun h => ?_) | with_reducible refine bwtd (fun h => ?_) (fun h => ?_) | with_reducible refine bwfd (fun h => ?_) (fun h => ?_) | with_reducible refine bwtn (fun h => ?_) (fun h => ?_) | with_reducible refine bwfn (fun h => ?_) (fun h => ?_) | with_reducible refine bwtb (fun h => ?_) (fun h => ?_) | with_reducible refine bwfb (fun h => ?_) (fun h => ?_) | with_reducible refine bwt (fun h => ?_) (fun h => ?_) | with_reducible refine bwf (fun h => ?_) (fun h => ?_) | with_reducible refine bnt (fun h => ?_) (fun h => ?_) | with_reducible refine bcase (fun h => ?_) (fun h => ?_)) <;> (conv => whnf))
  all_goals try exact fin _ rfl (by simp) _ (by simp [leafOK, tT, tN, *])
  · (refine swd_start mixed rfl ?_; refine sgod_sound [] ?_; conv => whnf)
    repeat' ((first | with_reducible refine bdec (fun h => ?_) (fun h => ?_) | with_reducible refine bndec (fun h => ?_) (fun h => ?_) | with_reducible refine bwtd (fun h => ?_) (fun h => ?_) | with_reducible refine bwfd (fun h => ?_) (fun h => ?_) | with_reducible refine bwtn (fun h => ?_) (fun h => ?_) | with_reducible refine bwfn (fun h => ?_) (fun h => ?_) | with_reducible refine bwtb (fun h => ?_) (fun h => ?_) | with_reducible refine bwfb (fun h => ?_) (fun h => ?_) | with_reducible refine bwt (fun h => ?_) (fun h => ?_) | with_reducible refine bwf (fun h => ?_) (fun h => ?_) | with_reducible refine bnt (fun h => ?_) (fun h => ?_) | with_reducible refine bcase (fun h => ?_) (fun h => ?_)) <;> (conv => whnf))
    · have hlt : n.toNat < c.facts.length := by omega
      obtain ⟨d, hd⟩ : ∃ d, c.facts[n.toNat]? = some d := ⟨c.facts[n.toNat], List.getElem?_eq_getElem hlt⟩
      refine swd_index rfl rfl rfl rfl rfl rfl rfl (i := n.toNat) (by omega) (row := d.cells) (by simp [hd]) ?_
      (refine sgod_sound [] ?_; conv => whnf)
      (refine sgo_sound [] 1000 ?_; conv => whnf)
      refine fin _ rfl (by simp) _ ?_
      have hua : unitAt c.facts n u = decide (u = d.unit) := by simp only [unitAt, hd]
      simp [leafOK, hua, *]; omega
    all_goals (refine sgo_sound [] 1000 ?_; conv => whnf)
    all_goals refine fin _ rfl (by simp) _ ?_
    all_goals (simp [leafOK, *]; try omega)
  · cases hlk : alook n m with
    | none =>
      (refine swd_start mixed rfl ?_; refine sgod_sound [] ?_; conv => whnf)
      refine swd_lookI2 sI rfl rfl rfl rfl rfl rfl rfl rfl rfl (v := sI 0) (p := false) (by rw [hlk]; rfl) (by rw [hlk]; rfl) ?_
      (refine sgod_sound [] ?_; conv => whnf)
      (refine sgo_sound [] 1000 ?_; conv => whnf)
      (refine swd_start mixed rfl ?_; refine sgod_sound [] ?_; conv => whnf)
      (refine sgo_sound [] 1000 ?_; conv => whnf)
      exact fin _ rfl (by simp) _ (by simp [leafOK, hlk, *])
    | some line =>
      obtain ⟨hl0, hl1⟩ := hm n line hlk
      obtain ⟨d, hd⟩ : ∃ d, c.lines[line.toNat]? = some d := ⟨c.lines[line.toNat]'(by omega), List.getElem?_eq_getElem _⟩
      (refine swd_start mixed rfl ?_; refine sgod_sound [] ?_; conv => whnf)
      refine swd_lookI2 sI rfl rfl rfl rfl rfl rfl rfl rfl rfl (v := sI line) (p := true) (by rw [hlk]; rfl) (by rw [hlk]; rfl) ?_
      (refine sgod_sound [] ?_; conv => whnf)
      (refine sgo_sound [] 1000 ?_; conv => whnf)
      (refine swd_start mixed rfl ?_; refine sgod_sound [] ?_; conv => whnf)
      refine swd_index rfl rfl rfl rfl rfl rfl rfl (i := line.toNat) (by omega) (row := d.cells) (by simp [hd]) ?_
      (refine sgod_sound [] ?_; conv => whnf)
      (refine sgo_sound [] 1000 ?_; conv => whnf)
      have hua : unitAt c.lines line u = decide (u = d.unit) := by simp only [unitAt, hd]
      exact fin _ rfl (by simp) _ (by simp [leafOK, hlk, hua, *])

def nodeOK (c : Codex) (m : List (Int × Int)) (op n : Int) (u : ByteArray) (den : Int) (ps : List Piece) (ks : List Ex) : Bool :=
  if op = 18 then decide (n = 0) && decide (ks.length = 1) && curOK u && (match ks with | k :: _ => decide (u = k.unit) | [] => false) && tableOK den ps
  else if ¬ den = 0 ∨ 0 < ps.length then false
  else if 1 ≤ op ∧ op ≤ 4 then decide (ks.length = 0) && leafOK c.facts c.lines m op n u
  else decide (n = 0) && (match ks.head?, ks.getLast? with | some f, some l => opOK op u f l ks.length (sameU ks) | _, _ => false)

mutual
def fitRun (c : Codex) (m : List (Int × Int)) : Ex → Int → Int → Bool × Int
  | .mk op n u den ps ks, depth, cnt =>
    if 400 < cnt + 1 ∨ 40 < depth ∨ unitOK u = false then (false, cnt + 1)
    else match fitKids c m ks (depth + 1) (cnt + 1) with
      | (true, cnt') => (nodeOK c m op n u den ps ks, cnt')
      | (false, cnt') => (false, cnt')
def fitKids (c : Codex) (m : List (Int × Int)) : List Ex → Int → Int → Bool × Int
  | [], _, cnt => (true, cnt)
  | k :: r, depth, cnt => match fitRun c m k depth cnt with
    | (true, cnt') => fitKids c m r depth cnt'
    | (false, cnt') => (false, cnt')
end

theorem fitRun_up (c : Codex) (m : List (Int × Int)) (N : Nat) : (∀ e : Ex, SizeOf.sizeOf e < N → ∀ d cnt : Int, cnt + 1 ≤ (fitRun c m e d cnt).2 ∧ ((fitRun c m e d cnt).1 = true → (fitRun c m e d cnt).2 ≤ 400)) ∧
    (∀ ks : List Ex, SizeOf.sizeOf ks < N → ∀ d cnt : Int, cnt ≤ (fitKids c m ks d cnt).2 ∧ (cnt ≤ 400 → (fitKids c m ks d cnt).1 = true → (fitKids c m ks d cnt).2 ≤ 400)) := by
  induction N with
  | zero => exact ⟨fun e h => by omega, fun e h => by omega⟩
  | succ N ih =>
    refine ⟨fun e he d cnt => ?_, fun ks hk d cnt => ?_⟩
    · obtain ⟨op, n, u, den, ps, ks⟩ := e
      simp only [Ex.mk.sizeOf_spec] at he
      have := ih.2 ks (by omega) (d + 1) (cnt + 1)
      simp only [fitRun]
      split
      · exact ⟨Int.le_refl _, fun h => by cases h⟩
      · rename_i hc
        revert this
        cases fitKids c m ks (d + 1) (cnt + 1) with
        | mk b q =>
          cases b with
          | true => simp only; intro h; exact ⟨h.1, fun _ => h.2 (by omega) trivial⟩
          | false => simp only; intro h; exact ⟨h.1, fun h => by cases h⟩
    · cases ks with
      | nil => simp [fitKids]
      | cons k r =>
        simp only [List.cons.sizeOf_spec] at hk
        have h1 := ih.1 k (by omega) d cnt
        simp only [fitKids]
        revert h1
        cases fitRun c m k d cnt with
        | mk b q =>
          cases b with
          | true =>
            simp only
            intro h1
            have h2 := ih.2 r (by omega) d q
            exact ⟨by omega, fun hc h => h2.2 (h1.2 trivial) h⟩
          | false => simp only; intro h1; exact ⟨by omega, fun _ h => by cases h⟩

theorem fits_spec (c : Codex) (m : List (Int × Int)) (hm : ∀ k v, alook k m = some v → 0 ≤ v ∧ v < c.lines.length) (N : Nat) : ∀ (e : Ex), SizeOf.sizeOf e < N → ∀ (depth cnt : Int), 0 ≤ depth → depth ≤ 41 → 0 ≤ cnt → cnt ≤ 400 →
    SPre Tryz.prog G 88 [.ptr 2 0, e.sv, sI depth] (fitH c m cnt) (fun r H1 => r = sB (fitRun c m e depth cnt).1 ∧ H1 = fitH c m (fitRun c m e depth cnt).2) := by
  induction N with
  | zero => intro e h; omega
  | succ N IH =>
  intro e he depth cnt hd0 hd1 hc0 hc1
  obtain ⟨op, n, u, den, ps, ks⟩ := e
  simp only [Ex.mk.sizeOf_spec] at he
  refine spre_enter Tryz.func88 rfl (by rw [Tryz.ntmps88]; simp) rfl (under_fitH c m cnt) ?_
  intro E hH hK
  have fin : ∀ H' q, H'.take 3 = fitH c m q → 3 ≤ H'.length → ∀ b, fitRun c m (.mk op n u den ps ks) depth cnt = (b, q) → E.K (sB b) H' := fun H' q h1 h2 b h3 =>
    hK _ _ h2 rfl (by show (List.take 3 H').all _ = true; rw [h1]; exact under_fitH c m q) ⟨by rw [h3], by rw [h3]; exact h1⟩
  have hw1 : IntKind.i64.wrap (cnt + 1) = cnt + 1 := wrap64 (by omega) (by omega)
  have hrows := exprRows_eq ks
  have hlen : (exprRows ks).length = ks.length := by rw [hrows]; simp
  refine sgo_sound [19] 1000 ?_; conv => whnf
  rw [hw1]
  (refine sgor_sound [] 1000 ?_; conv => whnf)
  repeat' ((first | with_reducible refine bdec (fun h => ?_) (fun h => ?_) | with_reducible refine bndec (fun h => ?_) (fun h => ?_) | with_reducible refine bwtd (fun h => ?_) (fun h => ?_) | with_reducible refine bwfd (fun h => ?_) (fun h => ?_) | with_reducible refine bwtn (fun h => ?_) (fun h => ?_) | with_reducible refine bwfn (fun h => ?_) (fun h => ?_) | with_reducible refine bwtb (fun h => ?_) (fun h => ?_) | with_reducible refine bwfb (fun h => ?_) (fun h => ?_) | with_reducible refine bwt (fun h => ?_) (fun h => ?_) | with_reducible refine bwf (fun h => ?_) (fun h => ?_) | with_reducible refine bnt (fun h => ?_) (fun h => ?_) | with_reducible refine bcase (fun h => ?_) (fun h => ?_)) <;> (conv => whnf))
  case' refine_2 => skip
  all_goals try exact fin _ _ rfl (by simp) _ (by simp only [fitRun]; rw [if_pos (by omega)])
  refine swr_pure rfl rfl rfl rfl rfl rfl  (isUnit_spec G u) ?_
  (refine sgor_sound [] 1000 ?_; conv => whnf)
  repeat' ((first | with_reducible refine bdec (fun h => ?_) (fun h => ?_) | with_reducible refine bndec (fun h => ?_) (fun h => ?_) | with_reducible refine bwtd (fun h => ?_) (fun h => ?_) | with_reducible refine bwfd (fun h => ?_) (fun h => ?_) | with_reducible refine bwtn (fun h => ?_) (fun h => ?_) | with_reducible refine bwfn (fun h => ?_) (fun h => ?_) | with_reducible refine bwtb (fun h => ?_) (fun h => ?_) | with_reducible refine bwfb (fun h => ?_) (fun h => ?_) | with_reducible refine bwt (fun h => ?_) (fun h => ?_) | with_reducible refine bwf (fun h => ?_) (fun h => ?_) | with_reducible refine bnt (fun h => ?_) (fun h => ?_) | with_reducible refine bcase (fun h => ?_) (fun h => ?_)) <;> (conv => whnf))
  case refine_1.refine_1 => exact fin _ _ rfl (by simp) _ (by simp only [fitRun]; rw [if_pos (.inr (.inr h))])
  have hstart : fitRun c m (.mk op n u den ps ks) depth cnt = (match fitKids c m ks (depth + 1) (cnt + 1) with | (true, cnt') => (nodeOK c m op n u den ps ks, cnt') | (false, cnt') => (false, cnt')) := by
    simp only [fitRun]; rw [if_neg (by rw [h]; simp; omega)]
  have hup := fitRun_up c m (N + 1)
  have hwd : IntKind.i64.wrap (depth + 1) = depth + 1 := wrap64 (by omega) (by omega)
  refine sw_keep [0, 2, 4, 32, 33, 34] ?_
  refine sw_each ks (fun i (_ : Int) => [(0, .ptr 2 0), (2, sI depth), (4, .ptr 3 0), (32, .imm (.isl 6 (exprRows ks))), (33, sI (exprRows ks).length), (34, sI i)])
    (fun _ q => fitH c m q ++ [.cells ((Ex.mk op n u den ps ks).cells.map .imm)])
    (fun done rest q => fitKids c m ks (depth + 1) (cnt + 1) = fitKids c m rest (depth + 1) q ∧ cnt + 1 + done.length ≤ q ∧ q ≤ 400) (cnt + 1) ⟨rfl, by simp, by omega⟩ ?_ ?_
  · rintro q ⟨h1, h2, h3⟩
    simp only [fitKids] at h1
    rw [h1] at hstart
    simp only at hstart
    have hsz : ks.length ≤ 400 := by omega
    have fin2 : ∀ H' b, H'.take 3 = fitH c m q → 3 ≤ H'.length → nodeOK c m op n u den ps ks = b → E.K (sB b) H' := fun H' b g1 g2 g3 => fin H' q g1 g2 b (by rw [hstart, g3])
    have hpl : (ps.map Piece.cells).length = ps.length := by simp
    clear IH hup hstart hK fin ‹unitOK u = true›
    rw [← hlen]
    by_cases h18 : op = 18
    · subst h18
      cases ks with
      | nil =>
        (refine sgo_sound [] 1000 ?_; conv => whnf)
        repeat' ((first | with_reducible refine bdec (fun h => ?_) (fun h => ?_) | with_reducible refine bndec (fun h => ?_) (fun h => ?_) | with_reducible refine bwtd (fun h => ?_) (fun h => ?_) | with_reducible refine bwfd (fun h => ?_) (fun h => ?_) | with_reducible refine bwtn (fun h => ?_) (fun h => ?_) | with_reducible refine bwfn (fun h => ?_) (fun h => ?_) | with_reducible refine bwtb (fun h => ?_) (fun h => ?_) | with_reducible refine bwfb (fun h => ?_) (fun h => ?_) | with_reducible refine bwt (fun h => ?_) (fun h => ?_) | with_reducible refine bwf (fun h => ?_) (fun h => ?_) | with_reducible refine bnt (fun h => ?_) (fun h => ?_) | with_reducible refine bcase (fun h => ?_) (fun h => ?_)) <;> (conv => whnf))
        all_goals try (exfalso; omega)
        (refine swd_start mixed rfl ?_; refine sgod_sound [] ?_; conv => whnf)
        repeat' ((first | with_reducible refine bdec (fun h => ?_) (fun h => ?_) | with_reducible refine bndec (fun h => ?_) (fun h => ?_) | with_reducible refine bwtd (fun h => ?_) (fun h => ?_) | with_reducible refine bwfd (fun h => ?_) (fun h => ?_) | with_reducible refine bwtn (fun h => ?_) (fun h => ?_) | with_reducible refine bwfn (fun h => ?_) (fun h => ?_) | with_reducible refine bwtb (fun h => ?_) (fun h => ?_) | with_reducible refine bwfb (fun h => ?_) (fun h => ?_) | with_reducible refine bwt (fun h => ?_) (fun h => ?_) | with_reducible refine bwf (fun h => ?_) (fun h => ?_) | with_reducible refine bnt (fun h => ?_) (fun h => ?_) | with_reducible refine bcase (fun h => ?_) (fun h => ?_)) <;> (conv => whnf))
        all_goals (refine sgo_sound [] 1000 ?_; conv => whnf)
        all_goals exact fin2 _ _ rfl (by simp [fitH]) (by simp [nodeOK])
      | cons k0 kr =>
        obtain ⟨o0, n0, u0, d0, p0, q0⟩ := k0
        have h0 : (exprRows (Ex.mk o0 n0 u0 d0 p0 q0 :: kr))[0]? = some (Ex.mk o0 n0 u0 d0 p0 q0).cells := by simp [exprRows]
        (refine sgo_sound [] 1000 ?_; conv => whnf)
        repeat' ((first | with_reducible refine bdec (fun h => ?_) (fun h => ?_) | with_reducible refine bndec (fun h => ?_) (fun h => ?_) | with_reducible refine bwtd (fun h => ?_) (fun h => ?_) | with_reducible refine bwfd (fun h => ?_) (fun h => ?_) | with_reducible refine bwtn (fun h => ?_) (fun h => ?_) | with_reducible refine bwfn (fun h => ?_) (fun h => ?_) | with_reducible refine bwtb (fun h => ?_) (fun h => ?_) | with_reducible refine bwfb (fun h => ?_) (fun h => ?_) | with_reducible refine bwt (fun h => ?_) (fun h => ?_) | with_reducible refine bwf (fun h => ?_) (fun h => ?_) | with_reducible refine bnt (fun h => ?_) (fun h => ?_) | with_reducible refine bcase (fun h => ?_) (fun h => ?_)) <;> (conv => whnf))
        all_goals try (exfalso; omega)
        (refine swd_start mixed rfl ?_; refine sgod_sound [] ?_; conv => whnf)
        repeat' ((first | with_reducible refine bdec (fun h => ?_) (fun h => ?_) | with_reducible refine bndec (fun h => ?_) (fun h => ?_) | with_reducible refine bwtd (fun h => ?_) (fun h => ?_) | with_reducible refine bwfd (fun h => ?_) (fun h => ?_) | with_reducible refine bwtn (fun h => ?_) (fun h => ?_) | with_reducible refine bwfn (fun h => ?_) (fun h => ?_) | with_reducible refine bwtb (fun h => ?_) (fun h => ?_) | with_reducible refine bwfb (fun h => ?_) (fun h => ?_) | with_reducible refine bwt (fun h => ?_) (fun h => ?_) | with_reducible refine bwf (fun h => ?_) (fun h => ?_) | with_reducible refine bnt (fun h => ?_) (fun h => ?_) | with_reducible refine bcase (fun h => ?_) (fun h => ?_)) <;> (conv => whnf))
        · refine swd_pure rfl rfl rfl rfl rfl rfl  (isCur_spec G u) ?_
          (refine sgod_sound [] ?_; conv => whnf)
          repeat' ((first | with_reducible refine bdec (fun h => ?_) (fun h => ?_) | with_reducible refine bndec (fun h => ?_) (fun h => ?_) | with_reducible refine bwtd (fun h => ?_) (fun h => ?_) | with_reducible refine bwfd (fun h => ?_) (fun h => ?_) | with_reducible refine bwtn (fun h => ?_) (fun h => ?_) | with_reducible refine bwfn (fun h => ?_) (fun h => ?_) | with_reducible refine bwtb (fun h => ?_) (fun h => ?_) | with_reducible refine bwfb (fun h => ?_) (fun h => ?_) | with_reducible refine bwt (fun h => ?_) (fun h => ?_) | with_reducible refine bwf (fun h => ?_) (fun h => ?_) | with_reducible refine bnt (fun h => ?_) (fun h => ?_) | with_reducible refine bcase (fun h => ?_) (fun h => ?_)) <;> (conv => whnf))
          · refine swd_index rfl rfl rfl rfl rfl rfl rfl rfl  (row := (Ex.mk o0 n0 u0 d0 p0 q0).cells) h0 ?_
            (refine sgod_sound [] ?_; conv => whnf)
            repeat' ((first | with_reducible refine bdec (fun h => ?_) (fun h => ?_) | with_reducible refine bndec (fun h => ?_) (fun h => ?_) | with_reducible refine bwtd (fun h => ?_) (fun h => ?_) | with_reducible refine bwfd (fun h => ?_) (fun h => ?_) | with_reducible refine bwtn (fun h => ?_) (fun h => ?_) | with_reducible refine bwfn (fun h => ?_) (fun h => ?_) | with_reducible refine bwtb (fun h => ?_) (fun h => ?_) | with_reducible refine bwfb (fun h => ?_) (fun h => ?_) | with_reducible refine bwt (fun h => ?_) (fun h => ?_) | with_reducible refine bwf (fun h => ?_) (fun h => ?_) | with_reducible refine bnt (fun h => ?_) (fun h => ?_) | with_reducible refine bcase (fun h => ?_) (fun h => ?_)) <;> (conv => whnf))
            · refine swd_pure rfl rfl rfl rfl rfl rfl  (pieceValid_spec G den ps) ?_
              (refine sgod_sound [] ?_; conv => whnf)
              (refine sgo_sound [] 1000 ?_; conv => whnf)
              exact fin2 _ _ rfl (by simp [fitH]) (by
                have hq : (Ex.mk o0 n0 u0 d0 p0 q0 :: kr).length = 1 := by omega
                simp only [nodeOK, if_true, Ex.unit, hq, ‹curOK u = true›, decide_eq_true ‹n = 0›]; simp; intro _; first | exact h | exact decide_eq_true h)
            · (refine sgo_sound [] 1000 ?_; conv => whnf)
              exact fin2 _ _ rfl (by simp [fitH]) (by simp [nodeOK, Ex.unit, h])
          · (refine sgo_sound [] 1000 ?_; conv => whnf)
            exact fin2 _ _ rfl (by simp [fitH]) (by simp [nodeOK, h])
        · (refine sgo_sound [] 1000 ?_; conv => whnf)
          exact fin2 _ _ rfl (by simp [fitH]) (by
            have hq : ¬ (Ex.mk o0 n0 u0 d0 p0 q0 :: kr).length = 1 := by omega
            simp only [nodeOK, if_true, decide_eq_false hq]; simp)
        · (refine sgo_sound [] 1000 ?_; conv => whnf)
          exact fin2 _ _ rfl (by simp [fitH]) (by simp [nodeOK, h])
    by_cases htab : ¬ den = 0 ∨ 0 < ps.length
    · (refine sgo_sound [] 1000 ?_; conv => whnf)
      repeat' ((first | with_reducible refine bdec (fun h => ?_) (fun h => ?_) | with_reducible refine bndec (fun h => ?_) (fun h => ?_) | with_reducible refine bwtd (fun h => ?_) (fun h => ?_) | with_reducible refine bwfd (fun h => ?_) (fun h => ?_) | with_reducible refine bwtn (fun h => ?_) (fun h => ?_) | with_reducible refine bwfn (fun h => ?_) (fun h => ?_) | with_reducible refine bwtb (fun h => ?_) (fun h => ?_) | with_reducible refine bwfb (fun h => ?_) (fun h => ?_) | with_reducible refine bwt (fun h => ?_) (fun h => ?_) | with_reducible refine bwf (fun h => ?_) (fun h => ?_) | with_reducible refine bnt (fun h => ?_) (fun h => ?_) | with_reducible refine bcase (fun h => ?_) (fun h => ?_)) <;> (conv => whnf))
      all_goals try (exfalso; omega)
      all_goals exact fin2 _ _ rfl (by simp [fitH]) (by unfold nodeOK; rw [if_neg h18, if_pos htab])
    have hnode : nodeOK c m op n u den ps ks = if 1 ≤ op ∧ op ≤ 4 then decide (ks.length = 0) && leafOK c.facts c.lines m op n u else decide (n = 0) && (match ks.head?, ks.getLast? with | some f, some l => opOK op u f l ks.length (sameU ks) | _, _ => false) := by
      unfold nodeOK; rw [if_neg h18, if_neg htab]
    by_cases hop : 1 ≤ op ∧ op ≤ 4
    · rw [if_pos hop] at hnode
      (refine sgo_sound [] 1000 ?_; conv => whnf)
      repeat' ((first | with_reducible refine bdec (fun h => ?_) (fun h => ?_) | with_reducible refine bndec (fun h => ?_) (fun h => ?_) | with_reducible refine bwtd (fun h => ?_) (fun h => ?_) | with_reducible refine bwfd (fun h => ?_) (fun h => ?_) | with_reducible refine bwtn (fun h => ?_) (fun h => ?_) | with_reducible refine bwfn (fun h => ?_) (fun h => ?_) | with_reducible refine bwtb (fun h => ?_) (fun h => ?_) | with_reducible refine bwfb (fun h => ?_) (fun h => ?_) | with_reducible refine bwt (fun h => ?_) (fun h => ?_) | with_reducible refine bwf (fun h => ?_) (fun h => ?_) | with_reducible refine bnt (fun h => ?_) (fun h => ?_) | with_reducible refine bcase (fun h => ?_) (fun h => ?_)) <;> (conv => whnf))
      all_goals try (exfalso; omega)
      · refine swr_pre 3 rfl rfl rfl rfl rfl rfl (leaf_spec G c m q op n u den ps ks hm hop) ?_
        rintro r H1 ⟨rfl, rfl⟩ _
        (refine sgor_sound [] 1000 ?_; conv => whnf)
        exact fin2 _ _ rfl (by simp [fitH]) (by rw [hnode, decide_eq_true (by omega)]; rfl)
      · exact fin2 _ _ rfl (by simp [fitH]) (by rw [hnode, decide_eq_false (by omega)]; rfl)
    · rw [if_neg hop] at hnode
      cases ks with
      | nil =>
        (refine sgo_sound [] 1000 ?_; conv => whnf)
        repeat' ((first | with_reducible refine bdec (fun h => ?_) (fun h => ?_) | with_reducible refine bndec (fun h => ?_) (fun h => ?_) | with_reducible refine bwtd (fun h => ?_) (fun h => ?_) | with_reducible refine bwfd (fun h => ?_) (fun h => ?_) | with_reducible refine bwtn (fun h => ?_) (fun h => ?_) | with_reducible refine bwfn (fun h => ?_) (fun h => ?_) | with_reducible refine bwtb (fun h => ?_) (fun h => ?_) | with_reducible refine bwfb (fun h => ?_) (fun h => ?_) | with_reducible refine bwt (fun h => ?_) (fun h => ?_) | with_reducible refine bwf (fun h => ?_) (fun h => ?_) | with_reducible refine bnt (fun h => ?_) (fun h => ?_) | with_reducible refine bcase (fun h => ?_) (fun h => ?_)) <;> (conv => whnf))
        all_goals try (exfalso; omega)
        all_goals exact fin2 _ _ rfl (by simp [fitH]) (by rw [hnode]; simp)
      | cons k0 kr =>
        obtain ⟨l, hl⟩ : ∃ l, (k0 :: kr).getLast? = some l := ⟨_, List.getLast?_eq_some_getLast (by simp)⟩
        have hopr := operation_spec G op n u den ps (k0 :: kr) k0 l rfl hl (by omega)
        rw [hl] at hnode
        simp only [List.head?_cons] at hnode
        have hpos : 0 < (exprRows (k0 :: kr)).length := by simp [exprRows]
        (refine sgo_sound [] 1000 ?_; conv => whnf)
        repeat' ((first | with_reducible refine bdec (fun h => ?_) (fun h => ?_) | with_reducible refine bndec (fun h => ?_) (fun h => ?_) | with_reducible refine bwtd (fun h => ?_) (fun h => ?_) | with_reducible refine bwfd (fun h => ?_) (fun h => ?_) | with_reducible refine bwtn (fun h => ?_) (fun h => ?_) | with_reducible refine bwfn (fun h => ?_) (fun h => ?_) | with_reducible refine bwtb (fun h => ?_) (fun h => ?_) | with_reducible refine bwfb (fun h => ?_) (fun h => ?_) | with_reducible refine bwt (fun h => ?_) (fun h => ?_) | with_reducible refine bwf (fun h => ?_) (fun h => ?_) | with_reducible refine bnt (fun h => ?_) (fun h => ?_) | with_reducible refine bcase (fun h => ?_) (fun h => ?_)) <;> (conv => whnf))
        all_goals try (exfalso; omega)
        all_goals first
          | exact fin2 _ _ rfl (by simp [fitH]) (by rw [hnode, decide_eq_false ‹¬ n = 0›]; rfl)
          | (refine swr_pure rfl rfl rfl rfl rfl rfl  hopr ?_
             (refine sgor_sound [] 1000 ?_; conv => whnf)
             exact fin2 _ _ rfl (by simp [fitH]) (by rw [hnode, decide_eq_true ‹n = 0›]; rfl))
  · rintro done kid rest q ha hl ⟨h1, h2, h3⟩ ih
    have hw := wrap_succ (n := done.length) (by omega)
    have hks : SizeOf.sizeOf kid < SizeOf.sizeOf ks := List.sizeOf_lt_of_mem (by rw [ha]; simp)
    have hcall := IH kid (by omega) (depth + 1) q (by omega) (by omega) (by omega) h3
    simp only [fitKids] at h1
    have hkup := hup.1 kid (by omega) (depth + 1) q
    obtain ⟨o1, n1, u1, d1, p1, q1⟩ := kid
    (refine sgo_sound [] 1000 ?_; conv => whnf)
    repeat' ((first | with_reducible refine bdec (fun h => ?_) (fun h => ?_) | with_reducible refine bndec (fun h => ?_) (fun h => ?_) | with_reducible refine bwtd (fun h => ?_) (fun h => ?_) | with_reducible refine bwfd (fun h => ?_) (fun h => ?_) | with_reducible refine bwtn (fun h => ?_) (fun h => ?_) | with_reducible refine bwfn (fun h => ?_) (fun h => ?_) | with_reducible refine bwtb (fun h => ?_) (fun h => ?_) | with_reducible refine bwfb (fun h => ?_) (fun h => ?_) | with_reducible refine bwt (fun h => ?_) (fun h => ?_) | with_reducible refine bwf (fun h => ?_) (fun h => ?_) | with_reducible refine bnt (fun h => ?_) (fun h => ?_) | with_reducible refine bcase (fun h => ?_) (fun h => ?_)) <;> (conv => whnf))
    all_goals try (exfalso; omega)
    refine swr_index rfl rfl rfl rfl rfl rfl rfl rfl  (row := (Ex.mk o1 n1 u1 d1 p1 q1).cells) (by rw [hrows]; simp [ha]) ?_
    (refine sgor_sound [] 1000 ?_; conv => whnf)
    rw [hwd]
    refine swr_pre 3 rfl rfl rfl rfl rfl rfl hcall ?_
    rintro r H1 ⟨rfl, rfl⟩ _
    revert h1 hkup
    cases fitRun c m (.mk o1 n1 u1 d1 p1 q1) (depth + 1) q with
    | mk b q' =>
      cases b with
      | true =>
        simp only
        intro h1 hkup
        (refine sgor_sound [] 1000 ?_; conv => whnf)
        rw [hw]
        exact sw_kc [0, 2, 4, 32, 33, 34] 4 (by rw [hH]; simp [fitH]) (by simp [fitH]) rfl (by simp [fitH, underII]; exact ⟨rfl, rfl, rfl⟩) (ih q' ⟨h1, by simp; omega, hkup.2 trivial⟩)
      | false =>
        simp only
        intro h1 hkup
        (refine sgor_sound [] 1000 ?_; conv => whnf)
        refine fin _ q' rfl (by simp [fitH]) _ ?_
        rw [hstart, h1]


end Go.Proofs.YthmkdghoaifkbaaGreatDoor

/- Contracts, part o: articles of a codex; its validity. -/
namespace Go.Proofs.YthmkdghoaifkbaaGreatDoor
open Go Go.Sh
set_option maxRecDepth 10000
set_option maxHeartbeats 2000000
variable (G : List (Nat × D))

def wholeRun (c : Codex) (m : List (Int × Int)) (e : Ex) (u : ByteArray) : Bool × Int := if e.unit = u then fitRun c m e 1 0 else (false, 0)

theorem whole_spec (c : Codex) (m : List (Int × Int)) (hm : ∀ k v, alook k m = some v → 0 ≤ v ∧ v < c.lines.length) (e : Ex) (u : ByteArray) (q : Int) :
    SPre Tryz.prog G 73 [.ptr 2 0, e.sv, sS u] (fitH c m q) (fun r H1 => r = sB (wholeRun c m e u).1 ∧ H1 = fitH c m (wholeRun c m e u).2) := by
  have hfit := fits_spec G c m hm (SizeOf.sizeOf e + 1) e (by omega) 1 0 (by omega) (by omega) (by omega) (by omega)
  obtain ⟨op, n, u0, den, ps, ks⟩ := e
  refine spre_enter Tryz.func73 rfl (by rw [Tryz.ntmps73]; simp) rfl (under_fitH c m q) ?_
  intro E hH hK
  have fin : ∀ H' q', H'.take 3 = fitH c m q' → 3 ≤ H'.length → ∀ b, wholeRun c m (.mk op n u0 den ps ks) u = (b, q') → E.K (sB b) H' := fun H' q' h1 h2 b h3 =>
    hK _ _ h2 rfl (by show (List.take 3 H').all _ = true; rw [h1]; exact under_fitH c m q') ⟨by rw [h3], by rw [h3]; exact h1⟩
  (refine sgo_sound [] 1000 ?_; conv => whnf)
  repeat' ((first | with_reducible refine bdec (fun h => ?_) (fun h => ?_) | with_reducible refine bndec (fun h => ?_) (fun h => ?_) | with_reducible refine bwtd (fun h => ?_) (fun h => ?_) | with_reducible refine bwfd (fun h => ?_) (fun h => ?_) | with_reducible refine bwtn (fun h => ?_) (fun h => ?_) | with_reducible refine bwfn (fun h => ?_) (fun h => ?_) | with_reducible refine bwtb (fun h => ?_) (fun h => ?_) | with_reducible refine bwfb (fun h => ?_) (fun h => ?_) | with_reducible refine bwt (fun h => ?_) (fun h => ?_) | with_reducible refine bwf (fun h => ?_) (fun h => ?_) | with_reducible refine bnt (fun h => ?_) (fun h => ?_) | with_reducible refine bcase (fun h => ?_) (fun h => ?_)) <;> (conv => whnf))
  · refine swr_pre 3 rfl rfl rfl rfl rfl rfl hfit ?_
    rintro r H1 ⟨rfl, rfl⟩ _
    (refine sgor_sound [] 1000 ?_; conv => whnf)
    exact fin _ _ rfl (by simp [fitH]) _ (by rw [wholeRun, if_pos (by exact h)])
  · exact fin _ _ rfl (by simp) _ (by rw [wholeRun, if_neg (by exact h)])

def artHead (a : Article) : Bool := decide (0 ≤ a.rank) && decide (a.rank ≤ 1000000) && decide (0 ≤ a.lo) && decide (a.lo < a.hi) && decide (a.hi ≤ 36525) && decide (0 ≤ a.known) && decide (a.known ≤ 36524)
def lineUnit (c : Codex) (i : Int) : ByteArray := match c.lines[i.toNat]? with | some d => d.unit | none => ⟨#[]⟩
def artOK (c : Codex) (m : List (Int × Int)) (a : Article) : Bool :=
  artHead a && a.unless_.all (fun n => (alook n m).isSome) && a.when_.all (fun e => (wholeRun c m e tT).1) && (wholeRun c m a.amount (lineUnit c a.line)).1

def artList (a : Article) (op n : Int) (u : ByteArray) (den : Int) (ps : List Piece) (ks : List Ex) : List SV :=
  [sI a.number, sI a.line, sI a.rank, sI a.lo, sI a.hi, sI a.known, .imm (dExprs a.when_), .imm (dInts a.unless_), sI op, sI n, sS u, sI den, .imm (.isl 3 (ps.map Piece.cells)), .imm (.isl 6 (exprRows ks))]
theorem artCells {a : Article} {op n : Int} {u : ByteArray} {den : Int} {ps : List Piece} {ks : List Ex} (h : a.amount = .mk op n u den ps ks) : a.cells.map SV.imm = artList a op n u den ps ks := by
  simp [Article.cells, h, artList, exprRows_eq, Ex.op, Ex.n, Ex.unit, Ex.den, Ex.pieces, Ex.kids]

theorem article_spec (c : Codex) (m : List (Int × Int)) (hm : ∀ k v, alook k m = some v → 0 ≤ v ∧ v < c.lines.length) (a : Article) (q : Int) (hline : 0 ≤ a.line ∧ a.line < c.lines.length) (hun : a.unless_.length ≤ 9223372036854775807) (hwh : a.when_.length ≤ 9223372036854775807) :
    SPre Tryz.prog G 59 [.ptr 2 0, .agg (a.cells.map .imm)] (fitH c m q) (fun r H1 => r = sB (artOK c m a) ∧ ∃ q', H1 = fitH c m q') := by
  have hamount := whole_spec G c m hm a.amount (lineUnit c a.line)
  obtain ⟨op, n, u, den, ps, ks, ham⟩ : ∃ op n u den ps ks, a.amount = .mk op n u den ps ks := by cases h : a.amount; exact ⟨_, _, _, _, _, _, rfl⟩
  rw [artCells ham]
  rw [ham] at hamount
  refine spre_enter Tryz.func59 rfl (by rw [Tryz.ntmps59]; simp) rfl (under_fitH c m q) ?_
  intro E hH hK
  generalize hart : artOK c m a = ok at hK
  have fin : ∀ H' b, (∃ q', H'.take 3 = fitH c m q') → 3 ≤ H'.length → ok = b → E.K (sB b) H' := fun H' b ⟨q', h1⟩ h2 h3 =>
    hK _ _ h2 rfl (by show (List.take 3 H').all _ = true; rw [h1]; exact under_fitH c m q') ⟨by rw [h3], q', h1⟩
  have hwl : (a.when_.map Ex.cells).length = a.when_.length := by simp
  have hul : (a.unless_.map fun n => [dI n]).length = a.unless_.length := by simp
  have bad : artHead a = false → ok = false := fun h => by rw [← hart, artOK, h]; rfl
  (refine sgo_sound [] 1000 ?_; conv => whnf)
  repeat' ((first | with_reducible refine bdec (fun h => ?_) (fun h => ?_) | with_reducible refine bndec (fun h => ?_) (fun h => ?_) | with_reducible refine bwtd (fun h => ?_) (fun h => ?_) | with_reducible refine bwfd (fun h => ?_) (fun h => ?_) | with_reducible refine bwtn (fun h => ?_) (fun h => ?_) | with_reducible refine bwfn (fun h => ?_) (fun h => ?_) | with_reducible refine bwtb (fun h => ?_) (fun h => ?_) | with_reducible refine bwfb (fun h => ?_) (fun h => ?_) | with_reducible refine bwt (fun h => ?_) (fun h => ?_) | with_reducible refine bwf (fun h => ?_) (fun h => ?_) | with_reducible refine bnt (fun h => ?_) (fun h => ?_) | with_reducible refine bcase (fun h => ?_) (fun h => ?_)) <;> (conv => whnf))
  all_goals try exact fin _ _ ⟨_, rfl⟩ (by simp) (bad (by simp [artHead]; intros; omega))
  have good : artHead a = true := by simp [artHead]; omega
  refine sw_keep [0, 3, 45, 46, 47] ?_
  refine sw_each a.unless_ (fun i (_ : Unit) => [(0, .ptr 2 0), (3, .ptr 3 0), (45, .imm (dInts a.unless_)), (46, sI (a.unless_.map fun n => [dI n]).length), (47, sI i)])
    (fun _ _ => fitH c m q ++ [.cells (artList a op n u den ps ks)])
    (fun done _ _ => done.all (fun n => (alook n m).isSome) = true) () rfl ?_ ?_
  · rintro _ hu1
    (refine sgo_sound [] 1000 ?_; conv => whnf)
    repeat' ((first | with_reducible refine bdec (fun h => ?_) (fun h => ?_) | with_reducible refine bndec (fun h => ?_) (fun h => ?_) | with_reducible refine bwtd (fun h => ?_) (fun h => ?_) | with_reducible refine bwfd (fun h => ?_) (fun h => ?_) | with_reducible refine bwtn (fun h => ?_) (fun h => ?_) | with_reducible refine bwfn (fun h => ?_) (fun h => ?_) | with_reducible refine bwtb (fun h => ?_) (fun h => ?_) | with_reducible refine bwfb (fun h => ?_) (fun h => ?_) | with_reducible refine bwt (fun h => ?_) (fun h => ?_) | with_reducible refine bwf (fun h => ?_) (fun h => ?_) | with_reducible refine bnt (fun h => ?_) (fun h => ?_) | with_reducible refine bcase (fun h => ?_) (fun h => ?_)) <;> (conv => whnf))
    all_goals try (exfalso; omega)
    refine sw_keep [0, 3, 64, 65, 66] ?_
    refine sw_each a.when_ (fun i (_ : Int) => [(0, .ptr 2 0), (3, .ptr 3 0), (64, .imm (dExprs a.when_)), (65, sI (a.when_.map Ex.cells).length), (66, sI i)])
      (fun _ q => fitH c m q ++ [.cells (artList a op n u den ps ks)])
      (fun done _ _ => done.all (fun e => (wholeRun c m e tT).1) = true) q rfl ?_ ?_
    · rintro q1 hw1
      have hres : ok = (wholeRun c m (.mk op n u den ps ks) (lineUnit c a.line)).1 := by rw [← hart, artOK, good, ham]; simp only [hu1, hw1]; rfl
      obtain ⟨d, hd⟩ : ∃ d, c.lines[a.line.toNat]? = some d := ⟨c.lines[a.line.toNat]'(by omega), List.getElem?_eq_getElem _⟩
      have hlu : lineUnit c a.line = d.unit := by simp only [lineUnit, hd]
      rw [hlu] at hamount hres
      (refine sgo_sound [] 1000 ?_; conv => whnf)
      repeat' ((first | with_reducible refine bdec (fun h => ?_) (fun h => ?_) | with_reducible refine bndec (fun h => ?_) (fun h => ?_) | with_reducible refine bwtd (fun h => ?_) (fun h => ?_) | with_reducible refine bwfd (fun h => ?_) (fun h => ?_) | with_reducible refine bwtn (fun h => ?_) (fun h => ?_) | with_reducible refine bwfn (fun h => ?_) (fun h => ?_) | with_reducible refine bwtb (fun h => ?_) (fun h => ?_) | with_reducible refine bwfb (fun h => ?_) (fun h => ?_) | with_reducible refine bwt (fun h => ?_) (fun h => ?_) | with_reducible refine bwf (fun h => ?_) (fun h => ?_) | with_reducible refine bnt (fun h => ?_) (fun h => ?_) | with_reducible refine bcase (fun h => ?_) (fun h => ?_)) <;> (conv => whnf))
      all_goals try (exfalso; omega)
      (refine swe_start 0 mixed rfl ?_; refine sgoe_sound [] (nx := 4) ?_; conv => whnf)
      refine swe_index rfl rfl rfl rfl rfl rfl rfl (by simp) (i := a.line.toNat) (by omega) (row := d.cells) (by simp [hd]) ?_
      (refine sgoe_sound [] (nx := 4) ?_; conv => whnf)
      refine swe_pre 3 (r := sB (wholeRun c m (.mk op n u den ps ks) d.unit).1) (wr := some (2, .cells [.imm (dDecls c.facts), .imm (dDecls c.lines), .imm (dArts c.arts), .map 1, sI (wholeRun c m (.mk op n u den ps ks) d.unit).2])) rfl rfl rfl rfl rfl rfl (by simp) (by simp) (by rintro b ob h; cases h; omega) ((hamount q1).mono ?_) ?_
      · rintro r H1 ⟨rfl, rfl⟩; exact ⟨rfl, rfl⟩
      (refine sgoe_sound [] (nx := 4) ?_; conv => whnf)
      (refine sgo_sound [] 1000 ?_; conv => whnf)
      exact fin _ _ ⟨_, rfl⟩ (by simp) hres
    · rintro done e rest q1 ha hl hw1 ih
      have hw := wrap_succ (n := done.length) (by omega)
      have hcall := whole_spec G c m hm e tT q1
      have bad2 : (wholeRun c m e tT).1 = false → ok = false := fun h => by rw [← hart, artOK, good]; simp [ha, h]
      obtain ⟨o1, n1, u1, d1, p1, q1'⟩ := e
      (refine sgo_sound [] 1000 ?_; conv => whnf)
      repeat' ((first | with_reducible refine bdec (fun h => ?_) (fun h => ?_) | with_reducible refine bndec (fun h => ?_) (fun h => ?_) | with_reducible refine bwtd (fun h => ?_) (fun h => ?_) | with_reducible refine bwfd (fun h => ?_) (fun h => ?_) | with_reducible refine bwtn (fun h => ?_) (fun h => ?_) | with_reducible refine bwfn (fun h => ?_) (fun h => ?_) | with_reducible refine bwtb (fun h => ?_) (fun h => ?_) | with_reducible refine bwfb (fun h => ?_) (fun h => ?_) | with_reducible refine bwt (fun h => ?_) (fun h => ?_) | with_reducible refine bwf (fun h => ?_) (fun h => ?_) | with_reducible refine bnt (fun h => ?_) (fun h => ?_) | with_reducible refine bcase (fun h => ?_) (fun h => ?_)) <;> (conv => whnf))
      all_goals try (exfalso; omega)
      refine swr_index rfl rfl rfl rfl rfl rfl rfl rfl  (row := (Ex.mk o1 n1 u1 d1 p1 q1').cells) (by simp [ha]) ?_
      (refine sgor_sound [] 1000 ?_; conv => whnf)
      refine swr_pre 3 rfl rfl rfl rfl rfl rfl hcall ?_
      rintro r H1 ⟨rfl, rfl⟩ _
      cases hb : (wholeRun c m (.mk o1 n1 u1 d1 p1 q1') tT).1 with
      | true =>
        (refine sgor_sound [] 1000 ?_; conv => whnf)
        rw [hw]
        exact sw_kc [0, 3, 64, 65, 66] 4 (by rw [hH]; simp [fitH]) (by simp [fitH]) rfl (by simp [fitH, underII]; exact ⟨rfl, rfl, rfl⟩) (ih _ (by simp [hw1, hb]))
      | false =>
        (refine sgor_sound [] 1000 ?_; conv => whnf)
        exact fin _ _ ⟨_, rfl⟩ (by simp [fitH]) (bad2 hb)
  · rintro done x rest _ ha hl hu1 ih
    have hw := wrap_succ (n := done.length) (by omega)
    have bad2 : (alook x m).isSome = false → ok = false := fun h => by rw [← hart, artOK, good]; simp at h; simp [ha, h]
    (refine sgo_sound [] 1000 ?_; conv => whnf)
    repeat' ((first | with_reducible refine bdec (fun h => ?_) (fun h => ?_) | with_reducible refine bndec (fun h => ?_) (fun h => ?_) | with_reducible refine bwtd (fun h => ?_) (fun h => ?_) | with_reducible refine bwfd (fun h => ?_) (fun h => ?_) | with_reducible refine bwtn (fun h => ?_) (fun h => ?_) | with_reducible refine bwfn (fun h => ?_) (fun h => ?_) | with_reducible refine bwtb (fun h => ?_) (fun h => ?_) | with_reducible refine bwfb (fun h => ?_) (fun h => ?_) | with_reducible refine bwt (fun h => ?_) (fun h => ?_) | with_reducible refine bwf (fun h => ?_) (fun h => ?_) | with_reducible refine bnt (fun h => ?_) (fun h => ?_) | with_reducible refine bcase (fun h => ?_) (fun h => ?_)) <;> (conv => whnf))
    all_goals try (exfalso; omega)
    refine swr_index rfl rfl rfl rfl rfl rfl rfl rfl  (row := [dI x]) (by simp [ha]) ?_
    (refine sgor_sound [] 1000 ?_; conv => whnf)
    cases hlk : alook x m with
    | none =>
      refine swr_lookI2 sI rfl rfl rfl rfl rfl rfl rfl rfl rfl (v := sI 0) (p := false) (by rw [hlk]; rfl) (by rw [hlk]; rfl) ?_
      (refine sgor_sound [] 1000 ?_; conv => whnf)
      exact fin _ _ ⟨_, rfl⟩ (by simp) (bad2 (by rw [hlk]; rfl))
    | some v =>
      refine swr_lookI2 sI rfl rfl rfl rfl rfl rfl rfl rfl rfl (v := sI v) (p := true) (by rw [hlk]; rfl) (by rw [hlk]; rfl) ?_
      (refine sgor_sound [] 1000 ?_; conv => whnf)
      rw [hw]
      exact sw_keep [0, 3, 45, 46, 47] (ih () (by simp [hu1, hlk]))

/-- the lines of the numbers, as far as the numbers and lines are proper and consistent -/
def linesGo (nl : Int) : List Article → List (Int × Int) → Option (List (Int × Int))
  | [], m => some m
  | a :: r, m => if 1 ≤ a.number ∧ a.number ≤ 1000000 ∧ 0 ≤ a.line ∧ a.line < nl then
      (match alook a.number m with
      | some l => if l = a.line then linesGo nl r (ains a.number a.line m) else none
      | none => linesGo nl r (ains a.number a.line m))
    else none
def codexOK (c : Codex) : Bool :=
  decide (c.facts.length ≤ 32) && decide (c.lines.length ≤ 32) && decide (c.arts.length ≤ 60) && declsOK 0 0 c.facts && declsOK 1 4 c.lines &&
  (match linesGo c.lines.length c.arts [] with
  | some m => c.arts.all (artOK c m)
  | none => false)
def Codex.fit (c : Codex) : Prop := ∀ a ∈ c.arts, a.unless_.length ≤ 9223372036854775807 ∧ a.when_.length ≤ 9223372036854775807

theorem linesGo_range (nl : Int) : ∀ (l : List Article) (m0 m : List (Int × Int)), linesGo nl l m0 = some m → (∀ k v, alook k m0 = some v → 0 ≤ v ∧ v < nl) → (∀ k v, alook k m = some v → 0 ≤ v ∧ v < nl) ∧ ∀ a ∈ l, 0 ≤ a.line ∧ a.line < nl
  | [], m0, m, h, h0 => by simp [linesGo] at h; subst h; exact ⟨h0, by simp⟩
  | a :: r, m0, m, h, h0 => by
    simp only [linesGo] at h
    split at h
    · rename_i hc
      have h1 : ∀ k v, alook k (ains a.number a.line m0) = some v → 0 ≤ v ∧ v < nl := fun k v hk => by
        rw [alook_ains] at hk
        split at hk
        · cases hk; exact ⟨hc.2.2.1, hc.2.2.2⟩
        · exact h0 k v hk
      have key : linesGo nl r (ains a.number a.line m0) = some m → _ := fun h => linesGo_range nl r _ m h h1
      have hm : linesGo nl r (ains a.number a.line m0) = some m := by
        split at h
        · split at h
          · exact h
          · cases h
        · exact h
      obtain ⟨g1, g2⟩ := key hm
      refine ⟨g1, fun x hx => ?_⟩
      rcases List.mem_cons.1 hx with rfl | hx
      · exact ⟨hc.2.2.1, hc.2.2.2⟩
      · exact g2 x hx
    · cases h

theorem codexValid_spec (c : Codex) (hfit : Codex.fit c) : SPure Tryz.prog G 43 [c.sv] (sB (codexOK c)) := by
  refine spure_enter Tryz.func43 rfl (by rw [Tryz.ntmps43]; simp) rfl rfl ?_; intro E hH hK
  have hlf : (c.facts.map Decl.cells).length = c.facts.length := by simp
  have hll : (c.lines.map Decl.cells).length = c.lines.length := by simp
  have hla : (c.arts.map Article.cells).length = c.arts.length := by simp
  (refine sgo_sound [] 1000 ?_; conv => whnf)
  repeat' ((first | with_reducible refine bdec (fun h => ?_) (fun h => ?_) | with_reducible refine bndec (fun h => ?_) (fun h => ?_) | with_reducible refine bwtd (fun h => ?_) (fun h => ?_) | with_reducible refine bwfd (fun h => ?_) (fun h => ?_) | with_reducible refine bwtn (fun h => ?_) (fun h => ?_) | with_reducible refine bwfn (fun h => ?_) (fun h => ?_) | with_reducible refine bwtb (fun h => ?_) (fun h => ?_) | with_reducible refine bwfb (fun h => ?_) (fun h => ?_) | with_reducible refine bwt (fun h => ?_) (fun h => ?_) | with_reducible refine bwf (fun h => ?_) (fun h => ?_) | with_reducible refine bnt (fun h => ?_) (fun h => ?_) | with_reducible refine bcase (fun h => ?_) (fun h => ?_)) <;> (conv => whnf))
  all_goals try exact kB hK (by simp [codexOK]; intros; omega)
  have hsz : c.facts.length ≤ 32 ∧ c.lines.length ≤ 32 ∧ c.arts.length ≤ 60 := by omega
  refine swr_pure rfl rfl rfl rfl rfl rfl  (goodDecls_spec G c.facts 0 0 (by omega)) ?_
  (refine sgor_sound [] 1000 ?_; conv => whnf)
  repeat' ((first | with_reducible refine bdec (fun h => ?_) (fun h => ?_) | with_reducible refine bndec (fun h => ?_) (fun h => ?_) | with_reducible refine bwtd (fun h => ?_) (fun h => ?_) | with_reducible refine bwfd (fun h => ?_) (fun h => ?_) | with_reducible refine bwtn (fun h => ?_) (fun h => ?_) | with_reducible refine bwfn (fun h => ?_) (fun h => ?_) | with_reducible refine bwtb (fun h => ?_) (fun h => ?_) | with_reducible refine bwfb (fun h => ?_) (fun h => ?_) | with_reducible refine bwt (fun h => ?_) (fun h => ?_) | with_reducible refine bwf (fun h => ?_) (fun h => ?_) | with_reducible refine bnt (fun h => ?_) (fun h => ?_) | with_reducible refine bcase (fun h => ?_) (fun h => ?_)) <;> (conv => whnf))
  case refine_2 => exact kB hK (by simp [codexOK, h])
  have hdf : declsOK 0 0 c.facts = true := h
  refine swr_pure rfl rfl rfl rfl rfl rfl  (goodDecls_spec G c.lines 1 4 (by omega)) ?_
  (refine sgor_sound [] 1000 ?_; conv => whnf)
  repeat' ((first | with_reducible refine bdec (fun h => ?_) (fun h => ?_) | with_reducible refine bndec (fun h => ?_) (fun h => ?_) | with_reducible refine bwtd (fun h => ?_) (fun h => ?_) | with_reducible refine bwfd (fun h => ?_) (fun h => ?_) | with_reducible refine bwtn (fun h => ?_) (fun h => ?_) | with_reducible refine bwfn (fun h => ?_) (fun h => ?_) | with_reducible refine bwtb (fun h => ?_) (fun h => ?_) | with_reducible refine bwfb (fun h => ?_) (fun h => ?_) | with_reducible refine bwt (fun h => ?_) (fun h => ?_) | with_reducible refine bwf (fun h => ?_) (fun h => ?_) | with_reducible refine bnt (fun h => ?_) (fun h => ?_) | with_reducible refine bcase (fun h => ?_) (fun h => ?_)) <;> (conv => whnf))
  case refine_1.refine_1 => exact kB hK (by simp [codexOK, h])
  have hok : codexOK c = (match linesGo c.lines.length c.arts [] with | some m => c.arts.all (artOK c m) | none => false) := by
    unfold codexOK; rw [hdf, h, decide_eq_true hsz.1, decide_eq_true hsz.2.1, decide_eq_true hsz.2.2]; rfl
  clear hdf
  refine sw_keep [1, 3, 39, 40, 41] ?_
  refine sw_each c.arts (fun i (_ : List (Int × Int)) => [(1, .ptr 0 0), (3, .map 1), (39, .imm (dArts c.arts)), (40, sI (c.arts.map Article.cells).length), (41, sI i)])
    (fun _ m => [.cells [.imm (dDecls c.facts), .imm (dDecls c.lines), .imm (dArts c.arts)], .mapI .i64 (encM sI m)])
    (fun _ rest m => linesGo c.lines.length c.arts [] = linesGo c.lines.length rest m) [] rfl ?_ ?_
  · rintro m h1
    simp only [linesGo] at h1
    rw [h1] at hok
    simp only at hok
    obtain ⟨hm, hlines⟩ := linesGo_range _ _ _ _ h1 (by intro k v h; simp [alook] at h)
    (refine sgo_sound [] 1000 ?_; conv => whnf)
    repeat' ((first | with_reducible refine bdec (fun h => ?_) (fun h => ?_) | with_reducible refine bndec (fun h => ?_) (fun h => ?_) | with_reducible refine bwtd (fun h => ?_) (fun h => ?_) | with_reducible refine bwfd (fun h => ?_) (fun h => ?_) | with_reducible refine bwtn (fun h => ?_) (fun h => ?_) | with_reducible refine bwfn (fun h => ?_) (fun h => ?_) | with_reducible refine bwtb (fun h => ?_) (fun h => ?_) | with_reducible refine bwfb (fun h => ?_) (fun h => ?_) | with_reducible refine bwt (fun h => ?_) (fun h => ?_) | with_reducible refine bwf (fun h => ?_) (fun h => ?_) | with_reducible refine bnt (fun h => ?_) (fun h => ?_) | with_reducible refine bcase (fun h => ?_) (fun h => ?_)) <;> (conv => whnf))
    all_goals try (exfalso; omega)
    refine sw_keep [1, 8, 90, 91, 92] ?_
    refine sw_each c.arts (fun i (_ : Int) => [(1, .ptr 0 0), (8, .ptr 2 0), (90, .imm (dArts c.arts)), (91, sI (c.arts.map Article.cells).length), (92, sI i)])
      (fun _ q => fitH c m q) (fun done rest _ => codexOK c = rest.all (artOK c m)) 0 hok ?_ ?_
    · rintro q h2
      (refine sgo_sound [] 1000 ?_; conv => whnf)
      repeat' ((first | with_reducible refine bdec (fun h => ?_) (fun h => ?_) | with_reducible refine bndec (fun h => ?_) (fun h => ?_) | with_reducible refine bwtd (fun h => ?_) (fun h => ?_) | with_reducible refine bwfd (fun h => ?_) (fun h => ?_) | with_reducible refine bwtn (fun h => ?_) (fun h => ?_) | with_reducible refine bwfn (fun h => ?_) (fun h => ?_) | with_reducible refine bwtb (fun h => ?_) (fun h => ?_) | with_reducible refine bwfb (fun h => ?_) (fun h => ?_) | with_reducible refine bwt (fun h => ?_) (fun h => ?_) | with_reducible refine bwf (fun h => ?_) (fun h => ?_) | with_reducible refine bnt (fun h => ?_) (fun h => ?_) | with_reducible refine bcase (fun h => ?_) (fun h => ?_)) <;> (conv => whnf))
      all_goals try (exfalso; omega)
      exact kB hK (by rw [h2]; rfl)
    · rintro done a rest q ha hl h2 ih
      have hmem : a ∈ c.arts := by rw [ha]; simp
      have hw := wrap_succ (n := done.length) (by omega)
      have hcall := article_spec G c m hm a q (hlines a hmem) (hfit a hmem).1 (hfit a hmem).2
      obtain ⟨op, n, u, den, ps, ks, ham⟩ : ∃ op n u den ps ks, a.amount = .mk op n u den ps ks := by cases h : a.amount; exact ⟨_, _, _, _, _, _, rfl⟩
      have hrow : (c.arts.map Article.cells)[((done.length : Nat) : Int).toNat]? = some [dI a.number, dI a.line, dI a.rank, dI a.lo, dI a.hi, dI a.known, dExprs a.when_, dInts a.unless_, dI op, dI n, dS u, dI den, .isl 3 (ps.map Piece.cells), .isl 6 (exprRows ks)] := by
        simp [ha, Article.cells, ham, exprRows_eq, Ex.op, Ex.n, Ex.unit, Ex.den, Ex.pieces, Ex.kids]
      rw [artCells ham] at hcall
      (refine sgo_sound [] 1000 ?_; conv => whnf)
      repeat' ((first | with_reducible refine bdec (fun h => ?_) (fun h => ?_) | with_reducible refine bndec (fun h => ?_) (fun h => ?_) | with_reducible refine bwtd (fun h => ?_) (fun h => ?_) | with_reducible refine bwfd (fun h => ?_) (fun h => ?_) | with_reducible refine bwtn (fun h => ?_) (fun h => ?_) | with_reducible refine bwfn (fun h => ?_) (fun h => ?_) | with_reducible refine bwtb (fun h => ?_) (fun h => ?_) | with_reducible refine bwfb (fun h => ?_) (fun h => ?_) | with_reducible refine bwt (fun h => ?_) (fun h => ?_) | with_reducible refine bwf (fun h => ?_) (fun h => ?_) | with_reducible refine bnt (fun h => ?_) (fun h => ?_) | with_reducible refine bcase (fun h => ?_) (fun h => ?_)) <;> (conv => whnf))
      all_goals try (exfalso; omega)
      refine swr_index rfl rfl rfl rfl rfl rfl rfl rfl  (row := [dI a.number, dI a.line, dI a.rank, dI a.lo, dI a.hi, dI a.known, dExprs a.when_, dInts a.unless_, dI op, dI n, dS u, dI den, .isl 3 (ps.map Piece.cells), .isl 6 (exprRows ks)]) hrow ?_
      (refine sgor_sound [] 1000 ?_; conv => whnf)
      refine swr_pre 3 rfl rfl rfl rfl rfl rfl hcall ?_
      rintro r H1 ⟨rfl, q', rfl⟩ _
      cases hb : artOK c m a with
      | true =>
        (refine sgor_sound [] 1000 ?_; conv => whnf)
        rw [hw]
        exact sw_kc [1, 8, 90, 91, 92] 3 (by simp [hH]) (by simp [fitH]) rfl (by simp [fitH, underII]; exact ⟨rfl, rfl⟩) (ih q' (by rw [h2]; simp [hb]))
      | false =>
        (refine sgor_sound [] 1000 ?_; conv => whnf)
        exact kB hK (by rw [h2]; simp [hb])
  · rintro done a rest m ha hl h1 ih
    have hw := wrap_succ (n := done.length) (by omega)
    obtain ⟨op, n, u, den, ps, ks, ham⟩ : ∃ op n u den ps ks, a.amount = .mk op n u den ps ks := by cases h : a.amount; exact ⟨_, _, _, _, _, _, rfl⟩
    have hrow : (c.arts.map Article.cells)[((done.length : Nat) : Int).toNat]? = some [dI a.number, dI a.line, dI a.rank, dI a.lo, dI a.hi, dI a.known, dExprs a.when_, dInts a.unless_, dI op, dI n, dS u, dI den, .isl 3 (ps.map Piece.cells), .isl 6 (exprRows ks)] := by
      simp [ha, Article.cells, ham, exprRows_eq, Ex.op, Ex.n, Ex.unit, Ex.den, Ex.pieces, Ex.kids]
    simp only [linesGo] at h1
    have bad : linesGo c.lines.length c.arts [] = none → codexOK c = false := fun h => by rw [hok, h]
    (refine sgo_sound [] 1000 ?_; conv => whnf)
    repeat' ((first | with_reducible refine bdec (fun h => ?_) (fun h => ?_) | with_reducible refine bndec (fun h => ?_) (fun h => ?_) | with_reducible refine bwtd (fun h => ?_) (fun h => ?_) | with_reducible refine bwfd (fun h => ?_) (fun h => ?_) | with_reducible refine bwtn (fun h => ?_) (fun h => ?_) | with_reducible refine bwfn (fun h => ?_) (fun h => ?_) | with_reducible refine bwtb (fun h => ?_) (fun h => ?_) | with_reducible refine bwfb (fun h => ?_) (fun h => ?_) | with_reducible refine bwt (fun h => ?_) (fun h => ?_) | with_reducible refine bwf (fun h => ?_) (fun h => ?_) | with_reducible refine bnt (fun h => ?_) (fun h => ?_) | with_reducible refine bcase (fun h => ?_) (fun h => ?_)) <;> (conv => whnf))
    all_goals try (exfalso; omega)
    refine swr_index rfl rfl rfl rfl rfl rfl rfl rfl  (row := [dI a.number, dI a.line, dI a.rank, dI a.lo, dI a.hi, dI a.known, dExprs a.when_, dInts a.unless_, dI op, dI n, dS u, dI den, .isl 3 (ps.map Piece.cells), .isl 6 (exprRows ks)]) hrow ?_
    (refine sgor_sound [] 1000 ?_; conv => whnf)
    repeat' ((first | with_reducible refine bdec (fun h => ?_) (fun h => ?_) | with_reducible refine bndec (fun h => ?_) (fun h => ?_) | with_reducible refine bwtd (fun h => ?_) (fun h => ?_) | with_reducible refine bwfd (fun h => ?_) (fun h => ?_) | with_reducible refine bwtn (fun h => ?_) (fun h => ?_) | with_reducible refine bwfn (fun h => ?_) (fun h => ?_) | with_reducible refine bwtb (fun h => ?_) (fun h => ?_) | with_reducible refine bwfb (fun h => ?_) (fun h => ?_) | with_reducible refine bwt (fun h => ?_) (fun h => ?_) | with_reducible refine bwf (fun h => ?_) (fun h => ?_) | with_reducible refine bnt (fun h => ?_) (fun h => ?_) | with_reducible refine bcase (fun h => ?_) (fun h => ?_)) <;> (conv => whnf))
    all_goals try exact kB hK (bad (by rw [h1, if_neg (by omega)]))
    rw [if_pos (by omega)] at h1
    cases hlk : alook a.number m with
    | none =>
      rw [hlk] at h1
      refine swr_lookI2 sI rfl rfl rfl rfl rfl rfl rfl rfl rfl (v := sI 0) (p := false) (by rw [hlk]; rfl) (by rw [hlk]; rfl) ?_
      (refine sgor_sound [] 1000 ?_; conv => whnf)
      refine swr_setI sI a.line rfl rfl rfl rfl rfl rfl rfl rfl rfl ?_
      (refine sgor_sound [] 1000 ?_; conv => whnf)
      rw [hw]
      exact sw_kc [1, 3, 39, 40, 41] 2 (by simp [hH]) (by simp) rfl (by simp [underII]; rfl) (ih _ h1)
    | some l =>
      rw [hlk] at h1
      refine swr_lookI2 sI rfl rfl rfl rfl rfl rfl rfl rfl rfl (v := sI l) (p := true) (by rw [hlk]; rfl) (by rw [hlk]; rfl) ?_
      (refine sgor_sound [] 1000 ?_; conv => whnf)
      repeat' ((first | with_reducible refine bdec (fun h => ?_) (fun h => ?_) | with_reducible refine bndec (fun h => ?_) (fun h => ?_) | with_reducible refine bwtd (fun h => ?_) (fun h => ?_) | with_reducible refine bwfd (fun h => ?_) (fun h => ?_) | with_reducible refine bwtn (fun h => ?_) (fun h => ?_) | with_reducible refine bwfn (fun h => ?_) (fun h => ?_) | with_reducible refine bwtb (fun h => ?_) (fun h => ?_) | with_reducible refine bwfb (fun h => ?_) (fun h => ?_) | with_reducible refine bwt (fun h => ?_) (fun h => ?_) | with_reducible refine bwf (fun h => ?_) (fun h => ?_) | with_reducible refine bnt (fun h => ?_) (fun h => ?_) | with_reducible refine bcase (fun h => ?_) (fun h => ?_)) <;> (conv => whnf))
      · exact kB hK (bad (by rw [h1]; simp only; rw [if_neg h]))
      · simp only at h1
        rw [if_pos h] at h1
        refine swr_setI sI a.line rfl rfl rfl rfl rfl rfl rfl rfl rfl ?_
        (refine sgor_sound [] 1000 ?_; conv => whnf)
        rw [hw]
        exact sw_kc [1, 3, 39, 40, 41] 2 (by simp [hH]) (by simp) rfl (by simp [underII]; rfl) (ih _ h1)

end Go.Proofs.YthmkdghoaifkbaaGreatDoor

/-
  DERIVED: THE SHELF's CONTRACTS AT THIS DUMP, IN PLAIN WORDS (tools/lay-plain.mjs out of 'TryzShelf.lean', which tools/lay-shelf.mjs wrote): THE SAME DECLARATIONS UNDER THE SAME NAMES: 'import', 'namespace', 'open', 'def', 'theorem' AND NOTHING ELSE: no command of the shelf's: FOR A HAND-IN. Each laying: the table of numbers ('.._ren') and one theorem, a field a fact of the dump's own or the kernel's comparison; each contract: ONE APPLICATION.
-/
namespace Go.Proofs
open Go.Shelf
def Tryz.lays189_ren : Go.Shelf.Ren := ⟨fun | 189 => 60 | 125 => 75 | 257 => 74 | 128 => 98 | 129 => 99 | 294 => 89 | 295 => 90 | 296 => 91 | 297 => 92 | 298 => 93 | 299 => 94 | 216 => 95 | 300 => 96 | 301 => 97 | 328 => 110 | 329 => 111 | 330 => 112 | 331 => 113 | 332 => 114 | 215 => 115 | 343 => 127 | n => n, fun | 28 => 32 | 3 => 3 | 46 => 111 | 0 => 0 | 51 => 131 | 53 => 133 | 4 => 4 | 183 => 124 | 182 => 123 | 131 => 54 | 5 => 5 | 9 => 9 | 218 => 142 | 222 => 146 | 228 => 152 | 229 => 153 | n => n, fun | n => n⟩
theorem Tryz.lays189 : Go.Proofs.Lays.n189 Tryz.prog Tryz.lays189_ren := {
  mixed := by kernel_rfl
  f125 := Tryz.func75.trans (congrArg some (by kernel_rfl))
  f128 := Tryz.func98.trans (congrArg some (by kernel_rfl))
  f129 := Tryz.func99.trans (congrArg some (by kernel_rfl))
  f189 := Tryz.func60.trans (congrArg some (by kernel_rfl))
  f215 := Tryz.func115.trans (congrArg some (by kernel_rfl))
  f216 := Tryz.func95.trans (congrArg some (by kernel_rfl))
  f257 := Tryz.func74.trans (congrArg some (by kernel_rfl))
  f294 := Tryz.func89.trans (congrArg some (by kernel_rfl))
  f295 := Tryz.func90.trans (congrArg some (by kernel_rfl))
  f296 := Tryz.func91.trans (congrArg some (by kernel_rfl))
  f297 := Tryz.func92.trans (congrArg some (by kernel_rfl))
  f298 := Tryz.func93.trans (congrArg some (by kernel_rfl))
  f299 := Tryz.func94.trans (congrArg some (by kernel_rfl))
  f300 := Tryz.func96.trans (congrArg some (by kernel_rfl))
  f301 := Tryz.func97.trans (congrArg some (by kernel_rfl))
  f328 := Tryz.func110.trans (congrArg some (by kernel_rfl))
  f329 := Tryz.func111.trans (congrArg some (by kernel_rfl))
  f330 := Tryz.func112.trans (congrArg some (by kernel_rfl))
  f331 := Tryz.func113.trans (congrArg some (by kernel_rfl))
  f332 := Tryz.func114.trans (congrArg some (by kernel_rfl))
  f343 := Tryz.func127.trans (congrArg some (by kernel_rfl))
  t0 := Tryz.underlying0
  a0 := Tryz.isAgg0
  z0 := Tryz.sizeOf0
  v0 := Tryz.zeroValue0
  t3 := Tryz.underlying3
  a3 := Tryz.isAgg3
  z3 := Tryz.sizeOf3
  v3 := Tryz.zeroValue3
  t4 := Tryz.underlying4
  a4 := Tryz.isAgg4
  z4 := Tryz.sizeOf4
  v4 := Tryz.zeroValue4
  t5 := Tryz.underlying5
  a5 := Tryz.isAgg5
  z5 := Tryz.sizeOf5
  v5 := Tryz.zeroValue5
  t9 := Tryz.underlying9
  a9 := Tryz.isAgg9
  z9 := Tryz.sizeOf9
  v9 := Tryz.zeroValue9
  t28 := Tryz.underlying32
  a28 := Tryz.isAgg32
  z28 := Tryz.sizeOf32
  v28 := Tryz.zeroValue32
  t46 := Tryz.underlying111
  a46 := Tryz.isAgg111
  z46 := Tryz.sizeOf111
  v46 := Tryz.zeroValue111
  t51 := Tryz.underlying131
  a51 := Tryz.isAgg131
  z51 := Tryz.sizeOf131
  v51 := Tryz.zeroValue131
  t53 := Tryz.underlying133
  a53 := Tryz.isAgg133
  z53 := Tryz.sizeOf133
  v53 := Tryz.zeroValue133
  t131 := Tryz.underlying54
  a131 := Tryz.isAgg54
  z131 := Tryz.sizeOf54
  v131 := Tryz.zeroValue54
  t182 := Tryz.underlying123
  a182 := Tryz.isAgg123
  z182 := Tryz.sizeOf123
  v182 := Tryz.zeroValue123
  t183 := Tryz.underlying124
  a183 := Tryz.isAgg124
  z183 := Tryz.sizeOf124
  v183 := Tryz.zeroValue124
  t218 := Tryz.underlying142
  a218 := Tryz.isAgg142
  z218 := Tryz.sizeOf142
  v218 := Tryz.zeroValue142
  t222 := Tryz.underlying146
  a222 := Tryz.isAgg146
  z222 := Tryz.sizeOf146
  v222 := Tryz.zeroValue146
  t228 := Tryz.underlying152
  a228 := Tryz.isAgg152
  z228 := Tryz.sizeOf152
  v228 := Tryz.zeroValue152
  t229 := Tryz.underlying153
  a229 := Tryz.isAgg153
  z229 := Tryz.sizeOf153
  v229 := Tryz.zeroValue153 }
open Go.Sort Go.RowKit in
theorem Tryz.slices_Sort_int (blk off cap : Nat) (zs : List Int) (w : World) (hH : Holds (Value.int .i64) w blk off zs.toArray) (hblk : blk < w.heap.size) (hsz : zs.length < 4611686018427387904) :
    Calls Tryz.prog 60 #[.slice (some ⟨blk, off, none⟩) zs.length cap] w fun e w' =>
      e = .returned (.tuple #[]) ∧ ∃ n os, w' = grow (putRow (Value.int .i64) (Sort.ahead w n) blk off (zs.mergeSort fun x y => decide (x ≤ y)).toArray) os := Any.slices_Sort_int Tryz.lays189 blk off cap zs w hH hblk hsz
open Go.RowKit Go.Sort in
/-- .. and plain. (LAID: no walk: one application.) -/
theorem Tryz.slices_Sort_int_none (p : Option Addr) (cap : Nat) (w : World) :
    Calls Tryz.prog 60 #[.slice p 0 cap] w fun e w' => e = .returned (.tuple #[]) ∧ w' = w := Any.slices_Sort_int_none Tryz.lays189 p cap w
end Go.Proofs

/- Contracts, part p: sorting; what is in force; views. -/
namespace Go.Proofs.YthmkdghoaifkbaaGreatDoor
open Go Go.Sh
set_option maxRecDepth 10000
set_option maxHeartbeats 2000000
variable (G : List (Nat × D))

abbrev sortI (l : List Int) : List Int := l.mergeSort fun x y => decide (x ≤ y)

theorem sort_none (b : Nat) (H : List SObj) : SCall Tryz.prog G 60 [.asl b 1 []] H (fun r H' => r = .tup [] ∧ H' = H) := by
  intro w I β vs hH hv
  obtain ⟨v, hvs, hr⟩ := hv.one
  have hvv : vs = #[v] := by apply Array.ext'; simpa using hvs
  subst hvv
  have hd : DRep w I v (.isl 1 []) := by cases hr with | asl _ _ _ _ u n hd => exact hd
  obtain ⟨a, cap, rfl⟩ := hd.len
  refine (Go.Proofs.Tryz.slices_Sort_int_none a cap w).mono ?_
  rintro e w' ⟨rfl, rfl⟩
  exact ⟨_, .tup [], I, β, H, rfl, ⟨rfl, rfl⟩, .tup #[] [] rfl (fun j h => by simp at h), hH, .refl⟩

theorem sort_ints (b : Nat) (l : List Int) (junk : List SV) (H : List SObj) (hb : H[b]? = some (.cells (l.map sI ++ junk))) (hsz : l.length ≤ 1073741824) :
    SCall Tryz.prog G 60 [.osl b 0 l.length] H (fun r H' => r = .tup [] ∧ H' = H.set b (.cells ((sortI l).map sI ++ junk))) := by
  intro w I β vs hH hv
  obtain ⟨v, hvs, hr⟩ := hv.one
  have hvv : vs = #[v] := by apply Array.ext'; simpa using hvs
  subst hvv
  cases hr with
  | osl _ c _ _ cap hbc hcap hmax =>
  obtain ⟨cur, T, a1, a2, a3, a4⟩ := hH.obj b _ _ hb hbc
  have hsl : (sortI l).length = l.length := by simp
  have htake : cur.toList.take l.length = l.map (Value.int .i64) := by
    apply List.ext_getElem
    · simp [a2]
    · intro j h1 h2
      have hj : j < l.length := by simpa using h2
      have hjc : j < cur.size := by rw [a2]; simp; omega
      have := a3 j (by simp; omega) hjc
      rw [List.getElem_append_left (by simpa using hj)] at this
      simp only [List.getElem_map] at this
      simp only [List.getElem_take, Array.getElem_toList, List.getElem_map]
      generalize cur[j] = q at this
      cases this with | imm h => cases h; rfl
  refine (Go.Proofs.Tryz.slices_Sort_int c 0 cap l w (holds_of_blockI a1 htake) (heap_lt a1) (by omega)).mono ?_
  rintro e w' ⟨rfl, n, os, rfl⟩
  have hblk := heap_sortedI (w := w) (n := n) (os := os) (sortI l).toArray a1
  have hgrow := grownBy_sortedI (w := w) (g := c) (n := n) (os := os) (sortI l).toArray
  generalize Go.Sort.grow (Go.Sort.putRow (Value.int .i64) (Go.Sort.ahead w n) c 0 (sortI l).toArray) os = w' at hblk hgrow
  have hold : ∀ c', c' < w.heap.size → c' ≠ c → w'.heap[c']? = w.heap[c']? := fun c' h1 h2 => hgrow.block c' h1 (fun e => h2 (by cases e; rfl))
  have hcellI : ∀ c' o, I c' o → w'.cell? ⟨c', o, none⟩ = w.cell? ⟨c', o, none⟩ := fun c' o hi => cell_congr (hold c' (hH.inI c' o hi) (fun e => a4 o (e ▸ hi))) o
  have hown : owns H β b c := ⟨_, _, hb, by simp, hbc, rfl⟩
  have hbl := lt_of_getElem? hb
  have key : ∀ b' c', owns (H.set b (.cells ((sortI l).map sI ++ junk))) β b' c' → owns H β b' c' := by
    rintro b' c' ⟨p, x, g1, g2, g3, g4⟩
    by_cases e : b' = b
    · subst e; rw [hbc] at g3; cases g3; cases g4; exact hown
    · rw [List.getElem?_set_ne (Ne.symm e)] at g1; exact ⟨p, x, g1, g2, g3, g4⟩
  have hnew : ObjOK w' I β (.cells ((sortI l).map sI ++ junk)) (.blk c) := by
    refine ⟨_, T, hblk, by simp [Go.Sort.putCells, a2], fun j hj hj' => ?_, a4⟩
    have hjc : j < cur.size := by simpa [Go.Sort.putCells] using hj'
    simp only [Go.Sort.putCells, Array.getElem_mapIdx]
    by_cases hjl : j < l.length
    · rw [List.getElem_append_left (by simpa using hjl)]
      rw [if_pos ⟨Nat.zero_le _, by simp; omega⟩]
      simp only [List.getElem_map, Nat.sub_zero]
      have : (sortI l).toArray[j]! = (sortI l)[j]'(by omega) := by simp [hjl]
      rw [this]
      exact .imm (.val _)
    · rw [if_neg (by simp; omega)]
      have h0 := a3 j (by rw [a2] at hjc; simpa using hjc) hjc
      rw [List.getElem_append_right (by simp; omega)] at h0
      rw [List.getElem_append_right (by simp; omega)]
      have h1 := h0.mono (w' := w') (I' := I) (β' := β) (fun _ _ h => h) hcellI (.refl _ _)
      simpa [hsl] using h1
  refine ⟨_, .tup [], I, β, _, rfl, ⟨rfl, rfl⟩, .tup #[] [] rfl (fun j h => by simp at h), ⟨by simp [hH.len], fun b' p x g1 g2 => ?_, fun x y c' g1 g2 => hH.inj x y c' (key x c' g1) (key y c' g2), fun c' o hi => Nat.lt_of_lt_of_le (hH.inI c' o hi) hgrow.size, fun g d hg => (hH.glob g d hg).mono (fun _ _ h => h) hcellI⟩,
    ⟨fun _ _ h => h, hcellI, .refl _ _, fun c' hc' hn => hold c' hc' (fun e => hn b (e ▸ hown)), fun b' c' g => .inl ⟨b', key b' c' g⟩, fun _ _ h => .inl h, hgrow.size, ⟨hgrow.os, hgrow.output⟩⟩⟩
  by_cases e : b' = b
  · subst e
    rw [hbc] at g2; cases g2
    rw [List.getElem?_set_self hbl] at g1; cases g1
    exact hnew
  · rw [List.getElem?_set_ne (Ne.symm e)] at g1
    by_cases hpd : p = .dead
    · subst hpd; trivial
    · refine (hH.obj b' p x g1 g2).mono (fun c' hc' => hold c' ((hH.obj b' p x g1 g2).block_lt hpd hc') ?_) (fun _ _ h => h) hcellI (.refl _ _) (fun _ _ _ h => h)
      rintro rfl
      exact e (hH.inj b' b _ ⟨p, x, g1, hpd, g2, hc'⟩ hown)

def readerL (c : Codex) (l : List Fact) (p : ByteArray) (k : Int) : List SV := [.imm (dDecls c.facts), .imm (dDecls c.lines), .imm (dArts c.arts), .imm (dFacts l), sS p, sI k]
def usableOf (c : Codex) (l : List Fact) (p : ByteArray) (k day : Int) (d : Decl) : Int × Bool :=
  let r := look p d.name day k l
  if r.2.2 = false ∨ (d.unit = tT ∧ r.1 ≠ 0 ∧ r.1 ≠ 1) then (0, false) else (r.1, true)
def pairSV (r : Int × Bool) : SV := .tup [sI r.1, sB r.2]

theorem usable_spec (c : Codex) (l : List Fact) (p : ByteArray) (k day : Int) (d : Decl) (hsz : l.length ≤ 1073741824) :
    SPure Tryz.prog G 44 [.agg (readerL c l p k), .agg [sS d.name, sS d.unit, sI d.role], sI day] (pairSV (usableOf c l p k day d)) := by
  refine spure_enter Tryz.func44 rfl (by rw [Tryz.ntmps44]; simp) rfl rfl ?_; intro E hH hK
  (refine sgo_sound [] 1000 ?_; conv => whnf)
  refine swr_pure rfl rfl rfl rfl rfl rfl  (lookup_spec G l p d.name day k (by omega)) ?_
  have hu : usableOf c l p k day d = if (look p d.name day k l).2.2 = false ∨ (d.unit = tT ∧ (look p d.name day k l).1 ≠ 0 ∧ (look p d.name day k l).1 ≠ 1) then (0, false) else ((look p d.name day k l).1, true) := rfl
  rw [hu] at hK
  generalize look p d.name day k l = r at hK ⊢
  obtain ⟨v, i, ok⟩ := r
  simp only at hK
  rw [show lookSV (v, i, ok) = .tup [sI v, sI i, sB ok] from rfl]
  (refine sgor_sound [] 1000 ?_; conv => whnf)
  repeat' ((first | with_reducible refine bdec (fun h => ?_) (fun h => ?_) | with_reducible refine bndec (fun h => ?_) (fun h => ?_) | with_reducible refine bwtd (fun h => ?_) (fun h => ?_) | with_reducible refine bwfd (fun h => ?_) (fun h => ?_) | with_reducible refine bwtn (fun h => ?_) (fun h => ?_) | with_reducible refine bwfn (fun h => ?_) (fun h => ?_) | with_reducible refine bwtb (fun h => ?_) (fun h => ?_) | with_reducible refine bwfb (fun h => ?_) (fun h => ?_) | with_reducible refine bwt (fun h => ?_) (fun h => ?_) | with_reducible refine bwf (fun h => ?_) (fun h => ?_) | with_reducible refine bnt (fun h => ?_) (fun h => ?_) | with_reducible refine bcase (fun h => ?_) (fun h => ?_)) <;> (conv => whnf))
  all_goals first
    | (rw [if_pos (by simp [tT, *]; done)] at hK; exact hK _)
    | (rw [if_neg (by simp [tT, *]; done)] at hK; exact hK _)

/-- the versions of the numbers that have not been seen, in the order of the articles -/
def forceGo (arts : List Article) (day k : Int) : List Article → List (Int × Bool) → List Int → List Int
  | [], _, vs => vs
  | a :: r, m, vs => if (alook a.number m).isSome then forceGo arts day k r m vs
    else forceGo arts day k r (ains a.number true m) (match version arts a.number day k with | some i => vs ++ [(i : Int)] | none => vs)
def inForce (arts : List Article) (day k : Int) : List Int := sortI (forceGo arts day k arts [] [])
theorem forceGo_len (arts : List Article) (day k : Int) : ∀ (l : List Article) (m : List (Int × Bool)) (vs : List Int), vs.length ≤ (forceGo arts day k l m vs).length ∧ (forceGo arts day k l m vs).length ≤ vs.length + l.length
  | [], _, vs => by simp [forceGo]
  | a :: r, m, vs => by
    simp only [forceGo]
    split
    · have := forceGo_len arts day k r m vs; simp; omega
    · split
      · have := forceGo_len arts day k r (ains a.number true m) (vs ++ [((‹Nat› : Nat) : Int)]); simp at this ⊢; omega
      · have := forceGo_len arts day k r (ains a.number true m) vs; simp; omega

theorem inForce_spec (c : Codex) (l : List Fact) (p : ByteArray) (k day : Int) (hsz : c.arts.length ≤ 1073741824) :
    SPure Tryz.prog G 45 [.agg (readerL c l p k), sI day] (.imm (dInts (inForce c.arts day k))) := by
  refine spure_enter2 Tryz.func45 rfl (by rw [Tryz.ntmps45]; simp) rfl rfl ?_
  intro E hH hE hK
  have hla : (c.arts.map Article.cells).length = c.arts.length := by simp
  have hfl := forceGo_len c.arts day k c.arts [] []
  (refine sgo_sound [] 1000 ?_; conv => whnf)
  refine sw_tok (n := 6) (kk := 1) rfl ?_
  refine sw_keep [1, 2, 5, 6, 14, 15, 16] ?_
  refine sw_each c.arts (fun i (x : List (Int × Bool) × List Int) => [(1, sI day), (2, .ptr 0 0), (5, .map 1), (6, .asl 2 1 (x.2.map fun n => [dI n])), (14, .imm (dArts c.arts)), (15, sI (c.arts.map Article.cells).length), (16, sI i)])
    (fun _ x => [.cells (readerL c l p k), .mapI .i64 (encM sB x.1), .tok 1 (x.2.map fun n => [dI n]).length])
    (fun _ rest x => forceGo c.arts day k c.arts [] [] = forceGo c.arts day k rest x.1 x.2 ∧ ∀ n b, alook n x.1 = some b → b = true) ([], []) ⟨rfl, by simp [alook]⟩ ?_ ?_
  · rintro ⟨m, vs⟩ ⟨h1, _⟩
    simp only [forceGo] at h1
    dsimp only
    have hres : inForce c.arts day k = sortI vs := by rw [inForce, h1]
    rw [hres] at hK
    rw [h1] at hfl
    cases vs with
    | nil =>
      rw [show sortI ([] : List Int) = [] by simp] at hK
      (refine sgo_sound [] 1000 ?_; conv => whnf)
      repeat' ((first | with_reducible refine bdec (fun h => ?_) (fun h => ?_) | with_reducible refine bndec (fun h => ?_) (fun h => ?_) | with_reducible refine bwtd (fun h => ?_) (fun h => ?_) | with_reducible refine bwfd (fun h => ?_) (fun h => ?_) | with_reducible refine bwtn (fun h => ?_) (fun h => ?_) | with_reducible refine bwfn (fun h => ?_) (fun h => ?_) | with_reducible refine bwtb (fun h => ?_) (fun h => ?_) | with_reducible refine bwfb (fun h => ?_) (fun h => ?_) | with_reducible refine bwt (fun h => ?_) (fun h => ?_) | with_reducible refine bwf (fun h => ?_) (fun h => ?_) | with_reducible refine bnt (fun h => ?_) (fun h => ?_) | with_reducible refine bcase (fun h => ?_) (fun h => ?_)) <;> (conv => whnf))
      all_goals try (exfalso; omega)
      refine swr_call rfl rfl rfl rfl rfl rfl ((sort_none G 2 _).mono ?_)
      rintro r H' ⟨rfl, rfl⟩
      refine ⟨Nat.le_refl _, ?_⟩
      refine swr_lift (fun k => sw_solid) ?_
      (refine sgor_sound [] 1000 ?_; conv => whnf)
      exact hK _
    | cons v0 vr =>
      refine sw_thaw hH hE 6 2 (xs := (v0 :: vr).map (Value.int .i64)) (by simp [tget]) (by simp) (by simp) ?_
      intro junk
      rw [show ((v0 :: vr).map (Value.int .i64)).length = (v0 :: vr).length by simp, show (((v0 :: vr).map (Value.int .i64)).map fun x => SV.imm (D.val x)) = (v0 :: vr).map sI by simp]
      have hsl : (sortI (v0 :: vr)).length = (v0 :: vr).length := by simp
      generalize v0 :: vr = vs at hfl hK hsl ⊢
      (refine sgo_sound [777] 1000 ?_; conv => whnf)
      repeat' ((first | with_reducible refine bdec (fun h => ?_) (fun h => ?_) | with_reducible refine bndec (fun h => ?_) (fun h => ?_) | with_reducible refine bwtd (fun h => ?_) (fun h => ?_) | with_reducible refine bwfd (fun h => ?_) (fun h => ?_) | with_reducible refine bwtn (fun h => ?_) (fun h => ?_) | with_reducible refine bwfn (fun h => ?_) (fun h => ?_) | with_reducible refine bwtb (fun h => ?_) (fun h => ?_) | with_reducible refine bwfb (fun h => ?_) (fun h => ?_) | with_reducible refine bwt (fun h => ?_) (fun h => ?_) | with_reducible refine bwf (fun h => ?_) (fun h => ?_) | with_reducible refine bnt (fun h => ?_) (fun h => ?_) | with_reducible refine bcase (fun h => ?_) (fun h => ?_)) <;> (conv => whnf))
      all_goals try (exfalso; omega)
      have hs := sort_ints G 2 vs junk [.dead, .dead, .cells (vs.map sI ++ junk)] rfl (by simp at hfl; omega)
      refine swr_call (argv := [.osl 2 0 vs.length]) rfl rfl rfl rfl rfl rfl (hs.mono ?_)
      rintro r H' ⟨rfl, rfl⟩
      refine ⟨Nat.le_refl _, ?_⟩
      generalize sortI vs = ss at hK hsl ⊢
      have e := chunks_one (ss.map dI)
      rw [List.length_map, hsl] at e
      refine swr_lift (t' := [(6, .imm (dInts ss))]) (H' := [.dead, .dead, .dead]) (fun k h => sw_keep [6] (show SW E k [(6, .osl 2 0 vs.length)] [.dead, .dead, .cells (ss.map sI ++ junk)] from
        sw_shutTo 2 vs.length 1 (cs := ss.map sI) (junk := junk) (ds := ss.map dI) rfl (by simp [SV.one]) (by rw [show ss.map sI = (ss.map dI).map SV.imm by simp]; exact mapM_imm _) (by simp [hsl])
          (by simp [SV.shut, e, dInts]) (by simp [SObj.shut]) h)) ?_
      (refine sgor_sound [] 1000 ?_; conv => whnf)
      exact hK _
  · rintro done a rest ⟨m, vs⟩ ha hl ⟨h1, h2⟩ ih
    dsimp only
    have hw := wrap_succ (n := done.length) (by omega)
    simp only [forceGo] at h1
    have hfl2 := forceGo_len c.arts day k (a :: rest) m vs
    obtain ⟨op, n, u, den, ps, ks, ham⟩ : ∃ op n u den ps ks, a.amount = .mk op n u den ps ks := by cases h : a.amount; exact ⟨_, _, _, _, _, _, rfl⟩
    have hrow : (c.arts.map Article.cells)[((done.length : Nat) : Int).toNat]? = some [dI a.number, dI a.line, dI a.rank, dI a.lo, dI a.hi, dI a.known, dExprs a.when_, dInts a.unless_, dI op, dI n, dS u, dI den, .isl 3 (ps.map Piece.cells), .isl 6 (exprRows ks)] := by
      simp [ha, Article.cells, ham, exprRows_eq, Ex.op, Ex.n, Ex.unit, Ex.den, Ex.pieces, Ex.kids]
    (refine sgo_sound [] 1000 ?_; conv => whnf)
    repeat' ((first | with_reducible refine bdec (fun h => ?_) (fun h => ?_) | with_reducible refine bndec (fun h => ?_) (fun h => ?_) | with_reducible refine bwtd (fun h => ?_) (fun h => ?_) | with_reducible refine bwfd (fun h => ?_) (fun h => ?_) | with_reducible refine bwtn (fun h => ?_) (fun h => ?_) | with_reducible refine bwfn (fun h => ?_) (fun h => ?_) | with_reducible refine bwtb (fun h => ?_) (fun h => ?_) | with_reducible refine bwfb (fun h => ?_) (fun h => ?_) | with_reducible refine bwt (fun h => ?_) (fun h => ?_) | with_reducible refine bwf (fun h => ?_) (fun h => ?_) | with_reducible refine bnt (fun h => ?_) (fun h => ?_) | with_reducible refine bcase (fun h => ?_) (fun h => ?_)) <;> (conv => whnf))
    all_goals try (exfalso; omega)
    refine swr_index rfl rfl rfl rfl rfl rfl rfl rfl  (row := [dI a.number, dI a.line, dI a.rank, dI a.lo, dI a.hi, dI a.known, dExprs a.when_, dInts a.unless_, dI op, dI n, dS u, dI den, .isl 3 (ps.map Piece.cells), .isl 6 (exprRows ks)]) hrow ?_
    (refine sgor_sound [] 1000 ?_; conv => whnf)
    cases hlk : alook a.number m with
    | some b =>
      have hb := h2 _ _ hlk
      subst hb
      refine swr_lookI sB rfl rfl rfl rfl rfl rfl rfl rfl rfl (v := sB true) (by rw [hlk]; rfl) ?_
      (refine sgor_sound [] 1000 ?_; conv => whnf)
      rw [hw]
      rw [hlk] at h1
      exact sw_kc [1, 2, 5, 6, 14, 15, 16] 3 (by simp [hH]) (by simp) rfl (by simp [underIB]; exact ⟨rfl, rfl⟩) (ih (m, vs) ⟨h1, h2⟩)
    | none =>
      have h2' : ∀ n b, alook n (ains a.number true m) = some b → b = true := fun n b hb => by
        rw [alook_ains] at hb
        split at hb
        · cases hb; rfl
        · exact h2 n b hb
      rw [hlk] at h1
      simp only [Option.isSome_none, Bool.false_eq_true, if_false] at h1
      refine swr_lookI sB rfl rfl rfl rfl rfl rfl rfl rfl rfl (v := sB false) (by rw [hlk]; rfl) ?_
      (refine sgor_sound [] 1000 ?_; conv => whnf)
      refine swr_setI sB true rfl rfl rfl rfl rfl rfl rfl rfl rfl ?_
      (refine sgor_sound [] 1000 ?_; conv => whnf)
      refine swr_pure rfl rfl rfl rfl rfl rfl  (version_spec G c a.number day k hsz) ?_
      cases hv : version c.arts a.number day k with
      | none =>
        rw [hv] at h1
        (refine sgor_sound [] 1000 ?_; conv => whnf)
        rw [hw]
        exact sw_kc [1, 2, 5, 6, 14, 15, 16] 3 (by simp [hH]) (by simp) rfl (by simp [underIB]; exact ⟨rfl, rfl⟩) (ih (_, vs) ⟨h1, h2'⟩)
      | some i =>
        rw [hv] at h1
        have hfl3 := forceGo_len c.arts day k rest (ains a.number true m) (vs ++ [(i : Int)])
        (refine sgor_sound [] 1000 ?_; conv => whnf)
        refine swr_append rfl rfl rfl rfl rfl rfl rfl rfl rfl rfl ⟨by decide, rfl⟩ (by simp) (by rw [h1] at hfl; simp at hfl hfl3 ⊢; omega) ?_
        (refine sgor_sound [] 1000 ?_; conv => whnf)
        rw [hw]
        refine sw_kc [1, 2, 5, 6, 14, 15, 16] 3 (by simp [hH]) (by simp) rfl (by simp [underIB]; exact ⟨rfl, rfl⟩) ?_
        have := ih (ains a.number true m, vs ++ [(i : Int)]) ⟨h1, h2'⟩
        simp only [List.map_append, List.length_append] at this
        exact this

end Go.Proofs.YthmkdghoaifkbaaGreatDoor

/- Contracts, part q: views. -/
namespace Go.Proofs.YthmkdghoaifkbaaGreatDoor
open Go Go.Sh
set_option maxRecDepth 10000
set_option maxHeartbeats 2000000
variable (G : List (Nat × D))

def viewOf (c : Codex) (l : List Fact) (p : ByteArray) (k day : Int) : View :=
  ⟨day, c.facts.map (fun d => (usableOf c l p k day d).2), c.facts.map (fun d => (usableOf c l p k day d).1), inForce c.arts day k⟩
abbrev nilS : SV := .imm (.val (.slice none 0 0))
def findFn (c : Codex) (l : List Fact) (p : ByteArray) (k : Int) : SV := .fn (.func 44) [.agg (readerL c l p k)] []

theorem shutL_imm {α : Type} (b len : Nat) (d : D) (f : α → D) (l : List α) : SV.shut.shutL b len d (l.map fun x => SV.imm (f x)) = l.map fun x => SV.imm (f x) := by
  induction l with
  | nil => rfl
  | cons x l ih => simp only [List.map_cons, SV.shut.shutL, ih]; rfl
theorem au_app (n : Nat) (a b : List SV) : SV.under.allUnder n (a ++ b) = (SV.under.allUnder n a && SV.under.allUnder n b) := by
  induction a with
  | nil => rfl
  | cons x a ih => simp only [List.cons_append, SV.under.allUnder, ih, Bool.and_assoc]
theorem au_map {α : Type} (n : Nat) (f : α → D) (l : List α) : SV.under.allUnder n (l.map fun x => SV.imm (f x)) = true := by
  induction l with
  | nil => rfl
  | cons x l ih => simp only [List.map_cons, SV.under.allUnder, ih]; rfl
theorem au_rep (n m : Nat) (d : D) : SV.under.allUnder n (List.replicate m (SV.imm d)) = true := by
  induction m with
  | zero => rfl
  | succ m ih => simp only [List.replicate_succ, SV.under.allUnder, ih]; rfl
theorem au_cons (n : Nat) (d : D) (r : List SV) : SV.under.allUnder n (SV.imm d :: r) = SV.under.allUnder n r := by simp [SV.under.allUnder, SV.under]

theorem at_spec (c : Codex) (l : List Fact) (p : ByteArray) (k day : Int) (hsz : c.facts.length ≤ 1073741824 ∧ c.arts.length ≤ 1073741824 ∧ l.length ≤ 1073741824) :
    SPure Tryz.prog G 29 [.agg (readerL c l p k), sI day] (viewOf c l p k day).sv := by
  refine spure_enter Tryz.func29 rfl (by rw [Tryz.ntmps29]; simp) rfl rfl ?_; intro E hH hK
  have hlf : (c.facts.map Decl.cells).length = c.facts.length := by simp
  rcases Nat.eq_zero_or_pos c.facts.length with h0 | h0
  · have hnil : c.facts = [] := List.length_eq_zero_iff.1 h0
    have hv : viewOf c l p k day = ⟨day, [], [], inForce c.arts day k⟩ := by simp [viewOf, hnil]
    rw [hv] at hK
    (refine sgo_sound [] 1000 ?_; conv => whnf)
    (refine swe_start 3 mixed rfl ?_; refine sgoe_sound [] (nx := 2) ?_; conv => whnf)
    refine swe_make0 2 rfl rfl rfl rfl rfl rfl rfl rfl rfl ⟨by decide, rfl, by decide⟩ (by simp) rfl (by omega) (by omega) ?_
    (refine sgoe_sound [] (nx := 3) ?_; conv => whnf)
    refine swe_make0 3 rfl rfl rfl rfl rfl rfl rfl rfl rfl ⟨by decide, rfl, by decide⟩ (by simp) rfl (by omega) (by omega) ?_
    (refine sgoe_sound [] (nx := 4) ?_; conv => whnf)
    refine sw_solid ?_
    (refine sgo_sound [] 1000 ?_; conv => whnf)
    refine sw_loop ?_
    (refine sgo_sound [] 1000 ?_; conv => whnf)
    repeat' ((first | with_reducible refine bdec (fun h => ?_) (fun h => ?_) | with_reducible refine bndec (fun h => ?_) (fun h => ?_) | with_reducible refine bwtd (fun h => ?_) (fun h => ?_) | with_reducible refine bwfd (fun h => ?_) (fun h => ?_) | with_reducible refine bwtn (fun h => ?_) (fun h => ?_) | with_reducible refine bwfn (fun h => ?_) (fun h => ?_) | with_reducible refine bwtb (fun h => ?_) (fun h => ?_) | with_reducible refine bwfb (fun h => ?_) (fun h => ?_) | with_reducible refine bwt (fun h => ?_) (fun h => ?_) | with_reducible refine bwf (fun h => ?_) (fun h => ?_) | with_reducible refine bnt (fun h => ?_) (fun h => ?_) | with_reducible refine bcase (fun h => ?_) (fun h => ?_)) <;> (conv => whnf))
    all_goals try (exfalso; omega)
    refine swr_pure rfl rfl rfl rfl rfl rfl  (inForce_spec G c l p k day hsz.2.1) ?_
    (refine sgor_sound [] 1000 ?_; conv => whnf)
    exact hK _
  · (refine sgo_sound [] 1000 ?_; conv => whnf)
    (refine swe_start 3 mixed rfl ?_; refine sgoe_sound [] (nx := 2) ?_; conv => whnf)
    refine swe_make 2 rfl rfl rfl rfl rfl rfl rfl rfl rfl ⟨by decide, rfl, by decide⟩ (by simp) rfl (n := c.facts.length) (by omega) (by omega) (by omega) hsz.1 (flat_rep _ (sB false)) ?_
    (refine sgoe_sound [777] (nx := 3) ?_; conv => whnf)
    refine swe_make 3 rfl rfl rfl rfl rfl rfl rfl rfl rfl ⟨by decide, rfl, by decide⟩ (by simp) rfl (n := c.facts.length) (by omega) (by omega) (by omega) hsz.1 (flat_rep _ (sI 0)) ?_
    (refine sgoe_sound [777] (nx := 4) ?_; conv => whnf)
    (refine sgo_sound [777] 1000 ?_; conv => whnf)
    refine sw_keep [1, 2, 4, 5, 6, 25, 26, 27] ?_
    refine sw_each c.facts (fun i (_ : List Decl × List Decl) => [(1, sI day), (2, .ptr 0 0), (4, .ptr 1 0), (5, findFn c l p k), (6, .ptr 4 0), (25, .imm (dDecls c.facts)), (26, sI (c.facts.map Decl.cells).length), (27, sI i)])
      (fun _ x => [.cells (readerL c l p k), .cells [sI 0, nilS, nilS, nilS], .cells (x.1.map (fun d => sB (usableOf c l p k day d).2) ++ List.replicate x.2.length (sB false)), .cells (x.1.map (fun d => sI (usableOf c l p k day d).1) ++ List.replicate x.2.length (sI 0)),
        .cells [sI day, .osl 2 0 c.facts.length, .osl 3 0 c.facts.length, nilS]])
      (fun done rest x => x = (done, rest)) ([], c.facts) rfl ?_ ?_
    · rintro x rfl
      dsimp only
      have e1 := chunks_one (c.facts.map fun d => dB (usableOf c l p k day d).2)
      have e2 := chunks_one (c.facts.map fun d => dI (usableOf c l p k day d).1)
      rw [List.length_map] at e1 e2
      simp only [List.length_nil, List.replicate_zero]
      refine sw_shutTo 2 c.facts.length 1 (cs := c.facts.map (fun d => sB (usableOf c l p k day d).2)) (junk := []) (ds := c.facts.map fun d => dB (usableOf c l p k day d).2) rfl (by simp [SV.one]) (by rw [show (c.facts.map fun d => sB (usableOf c l p k day d).2) = (c.facts.map fun d => dB (usableOf c l p k day d).2).map SV.imm by simp]; exact mapM_imm _) (by simp)
        (t' := [(1, sI day), (2, .ptr 0 0), (4, .ptr 1 0), (5, findFn c l p k), (6, .ptr 4 0), (25, .imm (dDecls c.facts)), (26, sI (c.facts.map Decl.cells).length), (27, sI c.facts.length)])
        (H' := [.cells (readerL c l p k), .cells [sI 0, nilS, nilS, nilS], .dead, .cells (c.facts.map (fun d => sI (usableOf c l p k day d).1) ++ []), .cells [sI day, .imm (dBools (c.facts.map fun d => (usableOf c l p k day d).2)), .osl 3 0 c.facts.length, nilS]])
        (by simp [SV.shut, SV.shut.shutL, findFn, readerL]) (by simp [SObj.shut, SV.shut.shutL, SV.shut, readerL, e1, dBools, shutL_imm]) ?_
      refine sw_shutTo 3 c.facts.length 1 (cs := c.facts.map (fun d => sI (usableOf c l p k day d).1)) (junk := []) (ds := c.facts.map fun d => dI (usableOf c l p k day d).1) rfl (by simp [SV.one]) (by rw [show (c.facts.map fun d => sI (usableOf c l p k day d).1) = (c.facts.map fun d => dI (usableOf c l p k day d).1).map SV.imm by simp]; exact mapM_imm _) (by simp)
        (t' := [(1, sI day), (2, .ptr 0 0), (4, .ptr 1 0), (5, findFn c l p k), (6, .ptr 4 0), (25, .imm (dDecls c.facts)), (26, sI (c.facts.map Decl.cells).length), (27, sI c.facts.length)])
        (H' := [.cells (readerL c l p k), .cells [sI 0, nilS, nilS, nilS], .dead, .dead, .cells [sI day, .imm (dBools (c.facts.map fun d => (usableOf c l p k day d).2)), .imm (dInts (c.facts.map fun d => (usableOf c l p k day d).1)), nilS]])
        (by simp [SV.shut, SV.shut.shutL, findFn, readerL]) (by simp [SObj.shut, SV.shut.shutL, SV.shut, readerL, e2, dInts, dBools]) ?_
      (refine sgo_sound [] 1000 ?_; conv => whnf)
      repeat' ((first | with_reducible refine bdec (fun h => ?_) (fun h => ?_) | with_reducible refine bndec (fun h => ?_) (fun h => ?_) | with_reducible refine bwtd (fun h => ?_) (fun h => ?_) | with_reducible refine bwfd (fun h => ?_) (fun h => ?_) | with_reducible refine bwtn (fun h => ?_) (fun h => ?_) | with_reducible refine bwfn (fun h => ?_) (fun h => ?_) | with_reducible refine bwtb (fun h => ?_) (fun h => ?_) | with_reducible refine bwfb (fun h => ?_) (fun h => ?_) | with_reducible refine bwt (fun h => ?_) (fun h => ?_) | with_reducible refine bwf (fun h => ?_) (fun h => ?_) | with_reducible refine bnt (fun h => ?_) (fun h => ?_) | with_reducible refine bcase (fun h => ?_) (fun h => ?_)) <;> (conv => whnf))
      all_goals try (exfalso; omega)
      refine swr_pure rfl rfl rfl rfl rfl rfl  (inForce_spec G c l p k day hsz.2.1) ?_
      (refine sgor_sound [] 1000 ?_; conv => whnf)
      exact hK _
    · rintro done d rest x ha hl rfl ih
      dsimp only
      have hw := wrap_succ (n := done.length) (by omega)
      have hlt : done.length < c.facts.length := by omega
      (refine sgo_sound [777] 1000 ?_; conv => whnf)
      repeat' ((first | with_reducible refine bdec (fun h => ?_) (fun h => ?_) | with_reducible refine bndec (fun h => ?_) (fun h => ?_) | with_reducible refine bwtd (fun h => ?_) (fun h => ?_) | with_reducible refine bwfd (fun h => ?_) (fun h => ?_) | with_reducible refine bwtn (fun h => ?_) (fun h => ?_) | with_reducible refine bwfn (fun h => ?_) (fun h => ?_) | with_reducible refine bwtb (fun h => ?_) (fun h => ?_) | with_reducible refine bwfb (fun h => ?_) (fun h => ?_) | with_reducible refine bwt (fun h => ?_) (fun h => ?_) | with_reducible refine bwf (fun h => ?_) (fun h => ?_) | with_reducible refine bnt (fun h => ?_) (fun h => ?_) | with_reducible refine bcase (fun h => ?_) (fun h => ?_)) <;> (conv => whnf))
      all_goals try (exfalso; omega)
      refine swr_index rfl rfl rfl rfl rfl rfl rfl rfl  (row := d.cells) (by simp [ha]) ?_
      (refine sgor_sound [777] 1000 ?_; conv => whnf)
      refine swe_start 0 mixed rfl ?_
      refine sgoe_sound [777, 999] (nx := 6) ?_; conv => whnf
      refine swe_pure rfl rfl rfl rfl rfl rfl (Nat.le_refl _) (usable_spec G c l p k day d hsz.2.2) ?_
      refine sgoe_sound [777, 999] (nx := 6) ?_; conv => whnf
      refine swe_own (n := 1) rfl rfl rfl rfl rfl rfl rfl (Nat.le_refl _) (i := done.length) rfl hlt ?_
      refine sgoe_sound [777, 999] (nx := 6) ?_; conv => whnf
      refine swe_storeAt rfl rfl rfl rfl rfl rfl rfl rfl (Nat.le_refl _) (d := done.map (fun d => sI (usableOf c l p k day d).1)) (zz := sI 0) (r := List.replicate rest.length (sI 0)) rfl (by simp) ?_
      refine sgoe_sound [777, 999] (nx := 6) ?_; conv => whnf
      refine swe_own (n := 1) rfl rfl rfl rfl rfl rfl rfl (Nat.le_refl _) (i := done.length) rfl hlt ?_
      refine sgoe_sound [777, 999] (nx := 6) ?_; conv => whnf
      refine swe_storeAt rfl rfl rfl rfl rfl rfl rfl rfl (Nat.le_refl _) (d := done.map (fun d => sB (usableOf c l p k day d).2)) (zz := sB false) (r := List.replicate rest.length (sB false)) rfl (by simp) ?_
      (refine sgoe_sound [777] (nx := 6) ?_; conv => whnf)
      (refine sgo_sound [777] 1000 ?_; conv => whnf)
      rw [hw]
      have := ih (done ++ [d], rest) rfl
      simp only [List.map_append, List.map_cons, List.map_nil, List.append_assoc, List.singleton_append] at this
      exact sw_kc [1, 2, 4, 5, 6, 25, 26, 27] 5 (by simp [hH]) (show 5 ≤ 6 by omega) rfl (show (List.all [SObj.cells (readerL c l p k), .cells [sI 0, nilS, nilS, nilS], .cells (done.map (fun d => sB (usableOf c l p k day d).2) ++ sB (usableOf c l p k day d).2 :: List.replicate rest.length (sB false)),
        .cells (done.map (fun d => sI (usableOf c l p k day d).1) ++ sI (usableOf c l p k day d).1 :: List.replicate rest.length (sI 0)), .cells [sI day, .osl 2 0 c.facts.length, .osl 3 0 c.facts.length, nilS]] (SObj.under 5)) = true by
          simp [SObj.under, au_app, au_map, au_rep, au_cons]; exact ⟨rfl, rfl, rfl⟩) this

end Go.Proofs.YthmkdghoaifkbaaGreatDoor

/- Contracts, part r: readers, views of a day, runs of a month. -/
namespace Go.Proofs.YthmkdghoaifkbaaGreatDoor
open Go Go.Sh
set_option maxRecDepth 10000
set_option maxHeartbeats 2000000
variable (G : List (Nat × D))

def readerOK (c : Codex) (l : List Fact) (k : Int) : Bool := codexOK c && storeOK l && dayOK k
def okSV (r : SV) (b : Bool) : SV := .tup [r, sB b]

theorem newReader_spec (c : Codex) (l : List Fact) (p : ByteArray) (k : Int) (hfit : Codex.fit c) :
    SPure Tryz.prog G 27 [c.sv, storeSV l, sS p, sI k] (okSV (.agg (readerL c l p k)) (readerOK c l k)) := by
  refine spure_enter Tryz.func27 rfl (by rw [Tryz.ntmps27]; simp) rfl rfl ?_; intro E hH hK
  (refine sgo_sound [] 1000 ?_; conv => whnf)
  (refine swe_start 0 mixed rfl ?_; refine sgoe_sound [] (nx := 3) ?_; conv => whnf)
  refine swe_pure rfl rfl rfl rfl rfl rfl (by simp)  (codexValid_spec G c hfit) ?_
  (refine sgoe_sound [] (nx := 3) ?_; conv => whnf)
  refine bwt (fun h1 => ?_) (fun h1 => ?_) <;> (conv => whnf)
  · refine swe_pure rfl rfl rfl rfl rfl rfl (by simp)  (factsValid_spec G l) ?_
    (refine sgoe_sound [] (nx := 3) ?_; conv => whnf)
    refine bwt (fun h2 => ?_) (fun h2 => ?_) <;> (conv => whnf)
    · refine swe_pure rfl rfl rfl rfl rfl rfl (by simp)  (isDay_spec G k) ?_
      (refine sgoe_sound [] (nx := 3) ?_; conv => whnf)
      (refine sgo_sound [] 1000 ?_; conv => whnf)
      have hv : readerOK c l k = dayOK k := by simp only [readerOK, h1, h2, Bool.true_and]
      rw [hv] at hK
      exact hK _
    · have hv : readerOK c l k = false := by simp only [readerOK, h2, Bool.and_false, Bool.false_and]
      rw [hv] at hK
      rw [h2]
      (refine sgo_sound [] 1000 ?_; conv => whnf)
      exact hK _
  · have hv : readerOK c l k = false := by simp only [readerOK, h1, Bool.false_and]
    rw [hv] at hK
    (refine sgo_sound [] 1000 ?_; conv => whnf)
    exact hK _

def viewAt (c : Codex) (l : List Fact) (p : ByteArray) (day k : Int) : View × Int :=
  if readerOK c l k && dayOK day then (viewOf c l p k day, 0) else (⟨0, [], [], []⟩, 1)
def errSV (r : SV) (n : Int) : SV := .tup [r, sI n]
def zeroView : SV := .agg [sI 0, nilS, nilS, nilS]

end Go.Proofs.YthmkdghoaifkbaaGreatDoor

/- Contracts, part s: views of a day. -/
namespace Go.Proofs.YthmkdghoaifkbaaGreatDoor
open Go Go.Sh
set_option maxRecDepth 10000
set_option maxHeartbeats 2000000
variable (G : List (Nat × D))

theorem zeroView_is : (errSV zeroView 1).Is (errSV (View.sv ⟨0, [], [], []⟩) 1) :=
  (SIs.cons (SIs.cons (.refl _) (.cons (.nil 1) (.cons (.nil 1) (.cons (.nil 1) .nil)))).agg (.cons (.refl _) .nil)).tup

theorem codexOK_len {c : Codex} (h : codexOK c = true) : c.facts.length ≤ 1073741824 ∧ c.arts.length ≤ 1073741824 := by
  simp only [codexOK, Bool.and_eq_true, decide_eq_true_eq] at h
  obtain ⟨⟨⟨⟨⟨h1, _⟩, h2⟩, _⟩, _⟩, _⟩ := h
  exact ⟨by omega, by omega⟩
theorem storeOK_len {l : List Fact} (h : storeOK l = true) : l.length ≤ 1073741824 := by simp [storeOK] at h; omega

theorem readerOK_len {c : Codex} {l : List Fact} {k : Int} (h : readerOK c l k = true) : c.facts.length ≤ 1073741824 ∧ c.arts.length ≤ 1073741824 ∧ l.length ≤ 1073741824 := by
  simp only [readerOK, Bool.and_eq_true] at h
  exact ⟨(codexOK_len h.1.1).1, (codexOK_len h.1.1).2, storeOK_len h.1.2⟩

theorem viewAt_spec (c : Codex) (l : List Fact) (p : ByteArray) (day k : Int) (hfit : Codex.fit c) :
    SPure Tryz.prog G 11 [c.sv, storeSV l, sS p, sI day, sI k] (errSV (viewAt c l p day k).1.sv (viewAt c l p day k).2) := by
  cases hr : readerOK c l k with
  | false =>
    have hv : viewAt c l p day k = (⟨0, [], [], []⟩, 1) := by simp only [viewAt, hr, Bool.false_and]; rfl
    rw [hv]
    refine spure_is ?_ zeroView_is
    refine spure_enter Tryz.func11 rfl (by rw [Tryz.ntmps11]; simp) rfl rfl ?_; intro E hH hK
    (refine sgo_sound [] 1000 ?_; conv => whnf)
    refine swr_pure rfl rfl rfl rfl rfl rfl  (newReader_spec G c l p k hfit) ?_
    rw [hr]
    (refine sgor_sound [] 1000 ?_; conv => whnf)
    exact hK _
  | true =>
    obtain ⟨h1, h2, h3⟩ := readerOK_len hr
    cases hd : dayOK day with
    | false =>
      have hv : viewAt c l p day k = (⟨0, [], [], []⟩, 1) := by simp only [viewAt, hr, hd, Bool.and_false]; rfl
      rw [hv]
      refine spure_is ?_ zeroView_is
      refine spure_enter Tryz.func11 rfl (by rw [Tryz.ntmps11]; simp) rfl rfl ?_; intro E hH hK
      (refine sgo_sound [] 1000 ?_; conv => whnf)
      refine swr_pure rfl rfl rfl rfl rfl rfl  (newReader_spec G c l p k hfit) ?_
      rw [hr]
      (refine sgor_sound [] 1000 ?_; conv => whnf)
      refine swr_pure rfl rfl rfl rfl rfl rfl  (isDay_spec G day) ?_
      rw [hd]
      (refine sgor_sound [] 1000 ?_; conv => whnf)
      exact hK _
    | true =>
      have hv : viewAt c l p day k = (viewOf c l p k day, 0) := by simp only [viewAt, hr, hd, Bool.and_true]; rfl
      rw [hv]
      refine spure_enter Tryz.func11 rfl (by rw [Tryz.ntmps11]; simp) rfl rfl ?_; intro E hH hK
      (refine sgo_sound [] 1000 ?_; conv => whnf)
      refine swr_pure rfl rfl rfl rfl rfl rfl  (newReader_spec G c l p k hfit) ?_
      rw [hr]
      (refine sgor_sound [] 1000 ?_; conv => whnf)
      refine swr_pure rfl rfl rfl rfl rfl rfl  (isDay_spec G day) ?_
      rw [hd]
      (refine sgor_sound [] 1000 ?_; conv => whnf)
      refine swr_pure rfl rfl rfl rfl rfl rfl  (at_spec G c l p k day ⟨h1, h2, h3⟩) ?_
      (refine sgor_sound [] 1000 ?_; conv => whnf)
      exact hK _
end Go.Proofs.YthmkdghoaifkbaaGreatDoor

/- Contracts, part t: the runs of a month. -/
namespace Go.Proofs.YthmkdghoaifkbaaGreatDoor
open Go Go.Sh
set_option maxRecDepth 10000
set_option maxHeartbeats 2000000

def dayViews (c : Codex) (l : List Fact) (p : ByteArray) (m k : Int) : List View := (List.range (monthLen m).toNat).map fun (i : Nat) => viewOf c l p k (firstDay m + i)

theorem monthLen_range (m : Int) : 0 ≤ monthLen m ∧ monthLen m ≤ 31 := by
  unfold monthLen
  split
  · have h : 28 ≤ lenOf m.toNat ∧ lenOf m.toNat ≤ 31 := by
      unfold lenOf daysIn
      split
      · omega
      · split
        · split <;> omega
        · omega
    omega
  · omega
theorem firstDay_range (m : Int) : -1 ≤ firstDay m ∧ firstDay m ≤ 40000 := by
  unfold firstDay
  split
  · have := firstOf_bound m.toNat
    omega
  · omega

/-- the days of a month, one yield each -/
theorem days1_spec (c : Codex) (l : List Fact) (p : ByteArray) (m k : Int) (hsz : c.facts.length ≤ 1073741824 ∧ c.arts.length ≤ 1073741824 ∧ l.length ≤ 1073741824)
    (o0 o1 o2 : SObj) (A B C : List View → SObj) {f : FuncId} {n : Nat} {tL : List (Nat × SV)} {ps : Array Tmp} {asg bd : Code} {K : SV → List SObj → Prop}
    (hu : ∀ done, (List.all [o0, o1, o2, A done, B done, .cells (readerL c l p k), .cells [sI m], C done, .loop .ready f n tL ps asg bd] (SObj.under 9)) = true) (hps : 1 = ps.size)
    (hy : ∀ done v rest, dayViews c l p m k = done ++ v :: rest → SYield Tryz.prog G0 8 [v.sv] [o0, o1, o2, A done, B done, .cells (readerL c l p k), .cells [sI m], C done, .loop .ready f n tL ps asg bd] (fun res H' => res = true ∧ 9 ≤ H'.length ∧
      H'.take 9 = [o0, o1, o2, A (done ++ [v]), B (done ++ [v]), .cells (readerL c l p k), .cells [sI m], C (done ++ [v]), .loop .ready f n tL ps asg bd]))
    (hK0 : ∀ r, K r [o0, o1, o2, A (dayViews c l p m k), B (dayViews c l p m k), .cells (readerL c l p k), .cells [sI m], C (dayViews c l p m k), .loop .ready f n tL ps asg bd]) :
    SCall Tryz.prog G0 52 [.yld 8, .ptr 6 0, .ptr 5 0] [o0, o1, o2, A [], B [], .cells (readerL c l p k), .cells [sI m], C [], .loop .ready f n tL ps asg bd] K := by
  refine scall_enter Tryz.func52 rfl (by rw [Tryz.ntmps52]; simp) ?_
  intro E hH hK
  have hlen : (dayViews c l p m k).length = (monthLen m).toNat := by simp [dayViews]
  have hml := monthLen_range m
  have hfd := firstDay_range m
  (refine sgo_sound [777] 1000 ?_; conv => whnf)
  refine swr_pure rfl rfl rfl rfl rfl rfl  (first_spec m) ?_
  (refine sgor_sound [777] 1000 ?_; conv => whnf)
  refine swr_pure rfl rfl rfl rfl rfl rfl  (length_spec m) ?_
  (refine sgor_sound [777] 1000 ?_; conv => whnf)
  refine sw_keep [0, 1, 2, 4, 9, 10] ?_
  refine sw_each (dayViews c l p m k) (fun i (_ : List View) => [(0, .yld 8), (1, .ptr 6 0), (2, .ptr 5 0), (4, sI (firstDay m)), (9, sI (monthLen m)), (10, sI i)])
    (fun _ d => [o0, o1, o2, A d, B d, .cells (readerL c l p k), .cells [sI m], C d, .loop .ready f n tL ps asg bd])
    (fun done _ d => d = done) [] rfl ?_ ?_
  · rintro d rfl
    (refine sgo_sound [777] 1000 ?_; conv => whnf)
    repeat' ((first | with_reducible refine bdec (fun h => ?_) (fun h => ?_) | with_reducible refine bndec (fun h => ?_) (fun h => ?_) | with_reducible refine bwtd (fun h => ?_) (fun h => ?_) | with_reducible refine bwfd (fun h => ?_) (fun h => ?_) | with_reducible refine bwtn (fun h => ?_) (fun h => ?_) | with_reducible refine bwfn (fun h => ?_) (fun h => ?_) | with_reducible refine bwtb (fun h => ?_) (fun h => ?_) | with_reducible refine bwfb (fun h => ?_) (fun h => ?_) | with_reducible refine bwt (fun h => ?_) (fun h => ?_) | with_reducible refine bwf (fun h => ?_) (fun h => ?_) | with_reducible refine bnt (fun h => ?_) (fun h => ?_) | with_reducible refine bcase (fun h => ?_) (fun h => ?_)) <;> (conv => whnf))
    all_goals try (exfalso; omega)
    exact hK _ _ (hK0 _)
  · rintro done v rest d ha hl rfl ih
    have hw := wrap_succ (n := d.length) (by omega)
    have hvv : v = viewOf c l p k (firstDay m + d.length) := by
      have h1 : (dayViews c l p m k)[d.length]? = some v := by rw [ha]; simp
      simp only [dayViews, List.getElem?_map] at h1
      rw [List.getElem?_range (by omega)] at h1
      simpa using h1.symm
    have hadd : IntKind.i64.wrap (firstDay m + (d.length : Int)) = firstDay m + d.length := wrap64 (by omega) (by omega)
    (refine sgo_sound [777] 1000 ?_; conv => whnf)
    repeat' ((first | with_reducible refine bdec (fun h => ?_) (fun h => ?_) | with_reducible refine bndec (fun h => ?_) (fun h => ?_) | with_reducible refine bwtd (fun h => ?_) (fun h => ?_) | with_reducible refine bwfd (fun h => ?_) (fun h => ?_) | with_reducible refine bwtn (fun h => ?_) (fun h => ?_) | with_reducible refine bwfn (fun h => ?_) (fun h => ?_) | with_reducible refine bwtb (fun h => ?_) (fun h => ?_) | with_reducible refine bwfb (fun h => ?_) (fun h => ?_) | with_reducible refine bwt (fun h => ?_) (fun h => ?_) | with_reducible refine bwf (fun h => ?_) (fun h => ?_) | with_reducible refine bnt (fun h => ?_) (fun h => ?_) | with_reducible refine bcase (fun h => ?_) (fun h => ?_)) <;> (conv => whnf))
    all_goals try (exfalso; omega)
    rw [hadd]
    refine swr_pure rfl rfl rfl rfl rfl rfl  (at_spec G0 c l p k (firstDay m + d.length) hsz) ?_
    (refine sgor_sound [777] 1000 ?_; conv => whnf)
    refine swr_yield rfl rfl rfl rfl rfl hps rfl ?_
    rw [← hvv]
    refine (hy d v rest ha).mono ?_
    rintro _ H' ⟨rfl, hl', ht⟩
    refine ⟨hl', ?_⟩
    (refine sgor_sound [777] 1000 ?_; conv => whnf)
    rw [hw]
    refine sw_kc [0, 1, 2, 4, 9, 10] 9 (by simp [hH]) hl' rfl (by rw [ht]; exact hu _) ?_
    rw [ht]
    exact ih _ rfl
end Go.Proofs.YthmkdghoaifkbaaGreatDoor

/- Contracts, part u: the runs of a month. -/
namespace Go.Proofs.YthmkdghoaifkbaaGreatDoor
open Go Go.Sh
set_option maxRecDepth 10000
set_option maxHeartbeats 2000000

def setLast : List (Int × Int) → Int → List (Int × Int)
  | [], _ => []
  | [r], x => [(r.1, x)]
  | r :: q :: l, x => r :: setLast (q :: l) x
def addRun (rs : List (Int × Int)) (b : Option View) (v : View) : List (Int × Int) :=
  match b with
  | some u => if u.same v then setLast rs (v.day + 1) else rs ++ [(v.day, v.day + 1)]
  | none => rs ++ [(v.day, v.day + 1)]
def runsOf (vs : List View) : List (Int × Int) := (vs.foldl (fun s v => (addRun s.1 s.2 v, some v)) (([], none) : List (Int × Int) × Option View)).1
def runCell (r : Int × Int) : List D := [dI r.1, dI r.2]
def runCells (rs : List (Int × Int)) : List SV := (rs.map runCell).flatten.map .imm

theorem runsOf_fold (vs : List View) : vs.foldl (fun s v => (addRun s.1 s.2 v, some v)) (([], none) : List (Int × Int) × Option View) = (runsOf vs, vs.getLast?) := by
  rcases split_last vs with rfl | ⟨d, v, rfl⟩
  · rfl
  · simp only [runsOf, List.foldl_append, List.foldl_cons, List.foldl_nil, List.getLast?_append, List.getLast?_singleton, Option.or_some]; simp
theorem runsOf_snoc (d : List View) (v : View) : runsOf (d ++ [v]) = addRun (runsOf d) d.getLast? v := by
  have := runsOf_fold d
  simp only [runsOf, List.foldl_append, List.foldl_cons, List.foldl_nil] at this ⊢
  rw [this]
theorem addRun_some (rs : List (Int × Int)) (u v : View) : addRun rs (some u) v = if u.same v then setLast rs (v.day + 1) else rs ++ [(v.day, v.day + 1)] := rfl
theorem addRun_none (rs : List (Int × Int)) (v : View) : addRun rs none v = rs ++ [(v.day, v.day + 1)] := rfl
theorem setLast_snoc (l : List (Int × Int)) (r : Int × Int) (x : Int) : setLast (l ++ [r]) x = l ++ [(r.1, x)] := by
  induction l with
  | nil => rfl
  | cons a l ih =>
    cases l with
    | nil => rfl
    | cons b l => simpa [setLast] using ih
theorem runsOf_ne (d : List View) (v : View) : ∃ l r, runsOf (d ++ [v]) = l ++ [r] := by
  induction hd : d.length generalizing d v with
  | zero =>
    have : d = [] := List.length_eq_zero_iff.1 hd
    subst this
    exact ⟨[], _, rfl⟩
  | succ n ih =>
    rcases split_last d with e0 | ⟨d', u, e0⟩ <;> subst e0
    · simp at hd
    · obtain ⟨l, r, h⟩ := ih d' u (by simpa using hd)
      rw [runsOf_snoc, List.getLast?_concat, addRun_some, h, setLast_snoc]
      by_cases hs : u.same v = true
      · rw [if_pos hs]; exact ⟨_, _, rfl⟩
      · rw [if_neg hs]; exact ⟨_, _, rfl⟩
theorem runsOf_len (d : List View) : (runsOf d).length ≤ d.length := by
  induction hn : d.length generalizing d with
  | zero =>
    have : d = [] := List.length_eq_zero_iff.1 hn
    subst this
    simp [runsOf]
  | succ n ih =>
    rcases split_last d with e0 | ⟨d', u, e0⟩ <;> subst e0
    · simp at hn
    · have := ih d' (by simpa using hn)
      rw [runsOf_snoc]
      rcases split_last d' with rfl | ⟨d2, u2, rfl⟩
      · simp [addRun, runsOf]
      · obtain ⟨l, r, h⟩ := runsOf_ne d2 u2
        rw [h] at this
        rw [List.getLast?_concat, addRun_some, h, setLast_snoc]
        by_cases hs : u2.same u = true
        · rw [if_pos hs]; simp at this ⊢; omega
        · rw [if_neg hs]; simp at this ⊢; omega

theorem runCells_app (a b : List (Int × Int)) : runCells (a ++ b) = runCells a ++ runCells b := by simp [runCells]
theorem runCells_len (a : List (Int × Int)) : (runCells a).length = a.length * 2 := by
  induction a with
  | nil => rfl
  | cons r a ih => simp [runCells, runCell] at ih ⊢; omega
theorem runCells_set (a : List (Int × Int)) (r : Int × Int) (x : Int) (off : Nat) (h : off = a.length * 2 + 1) : (runCells (a ++ [r])).set off (sI x) = runCells (a ++ [(r.1, x)]) := by
  subst h
  rw [runCells_app, runCells_app, List.set_append_right _ _ (by rw [runCells_len]; omega), runCells_len]
  congr 1
  rw [show a.length * 2 + 1 - a.length * 2 = 1 by omega]
  rfl
theorem runCells_under (n : Nat) (a : List (Int × Int)) : SV.under.allUnder n (runCells a) = true := au_map n (fun d => d) _
theorem runCells_one (a : List (Int × Int)) : (runCells a).all SV.one = true := by
  induction a with
  | nil => rfl
  | cons r a ih => rw [show r :: a = [r] ++ a from rfl, runCells_app, List.all_append, ih]; rfl
theorem chunks_flat (k : Nat) (rows : List (List D)) (h : ∀ r ∈ rows, r.length = k) : chunks k rows.flatten rows.length = rows := by
  induction rows with
  | nil => rfl
  | cons r rows ih =>
    have hr := h r (by simp)
    simp only [List.flatten_cons, List.length_cons, chunks]
    rw [List.take_append_of_le_length (by omega), List.take_of_length_le (by omega), List.drop_append_of_le_length (by omega), List.drop_of_length_le (by omega), List.nil_append, ih (fun r hr => h r (by simp [hr]))]

def View.cs (v : View) : List SV := [sI v.day, .imm (dBools v.has), .imm (dInts v.value), .imm (dInts v.arts)]
def beforeObj : Option View → SObj
  | none => .cells [sI 0, nilS, nilS, nilS]
  | some v => .cells (View.cs v)
def dRuns (rs : List (Int × Int)) : D := .isl 2 (rs.map runCell)

theorem inForce_len (arts : List Article) (day k : Int) : (inForce arts day k).length ≤ arts.length := by
  have := (forceGo_len arts day k arts [] []).2
  simp only [inForce, List.length_mergeSort]
  simpa using this
theorem dayViews_mem {c : Codex} {l : List Fact} {p : ByteArray} {m k : Int} {v : View} (h : v ∈ dayViews c l p m k) : -1 ≤ v.day ∧ v.day ≤ 41000 := by
  simp only [dayViews, List.mem_map, List.mem_range] at h
  obtain ⟨i, hi, rfl⟩ := h
  have := monthLen_range m
  have := firstDay_range m
  simp only [viewOf]
  omega

theorem runs_ok (c : Codex) (l : List Fact) (p : ByteArray) (m k : Int) (hfit : Codex.fit c) (hr : readerOK c l k = true) (hm : 0 ≤ m ∧ m ≤ 1199) (hvf : ∀ v ∈ dayViews c l p m k, v.fit) :
    SPure Tryz.prog G0 13 [c.sv, storeSV l, sS p, sI m, sI k] (errSV (.imm (dRuns (runsOf (dayViews c l p m k)))) 0) := by
  obtain ⟨hz1, hz2, hz3⟩ := readerOK_len hr
  refine spure_enter Tryz.func13 rfl (by rw [Tryz.ntmps13]; simp) rfl rfl ?_; intro E hH hK
  (refine sgo_sound [] 1000 ?_; conv => whnf)
  refine swr_pure rfl rfl rfl rfl rfl rfl  (newReader_spec G0 c l p k hfit) ?_
  rw [hr]
  (refine sgor_sound [] 1000 ?_; conv => whnf)
  repeat' ((first | with_reducible refine bdec (fun h => ?_) (fun h => ?_) | with_reducible refine bndec (fun h => ?_) (fun h => ?_) | with_reducible refine bwtd (fun h => ?_) (fun h => ?_) | with_reducible refine bwfd (fun h => ?_) (fun h => ?_) | with_reducible refine bwtn (fun h => ?_) (fun h => ?_) | with_reducible refine bwfn (fun h => ?_) (fun h => ?_) | with_reducible refine bwtb (fun h => ?_) (fun h => ?_) | with_reducible refine bwfb (fun h => ?_) (fun h => ?_) | with_reducible refine bwt (fun h => ?_) (fun h => ?_) | with_reducible refine bwf (fun h => ?_) (fun h => ?_) | with_reducible refine bnt (fun h => ?_) (fun h => ?_) | with_reducible refine bcase (fun h => ?_) (fun h => ?_)) <;> (conv => whnf))
  all_goals try (exfalso; omega)
  refine swr_call rfl rfl rfl rfl rfl rfl (scall_enter Tryz.func34 rfl (by rw [Tryz.ntmps34]; simp) ?_)
  intro E2 hH2 hK2
  (refine sgo_sound [] 1000 ?_; conv => whnf)
  refine hK2 _ _ ⟨by simp, ?_⟩
  clear hK2 hH2 E2
  (refine sgor_sound [] 1000 ?_; conv => whnf)
  refine sw_keep [10, 11, 12, 14, 15, 37] ?_
  refine sw_vecCell 3 0 2 rfl rfl ?_
  refine sw_rangeFunc rfl rfl ?_
  refine days1_spec c l p m k ⟨hz1, hz2, hz3⟩ (.cells [.imm (dDecls c.facts), .imm (dDecls c.lines), .imm (dArts c.arts)]) (.cells [.imm (dFacts l)]) (.cells (readerL c l p k)) (fun d => .cells [.vec 7 (runsOf d).length]) (fun d => beforeObj d.getLast?) (fun d => .vec 2 (runCells (runsOf d))) ?_ rfl ?_ ?_
  · intro d
    simp only [List.all_cons, List.all_nil, Bool.and_true, Bool.and_eq_true]
    refine ⟨rfl, rfl, rfl, rfl, ?_, rfl, rfl, ?_, rfl⟩
    · cases d.getLast? <;> rfl
    · exact runCells_under 9 _
  · intro d v rest ha
    have hvm : v ∈ dayViews c l p m k := by rw [ha]; simp
    have hvd := dayViews_mem hvm
    have hwv : IntKind.i64.wrap (v.day + 1) = v.day + 1 := wrap64 (by omega) (by omega)
    have hrl := runsOf_len d
    have hdl : d.length ≤ 31 := by
      have h1 : (dayViews c l p m k).length = (monthLen m).toNat := by simp [dayViews]
      have h2 := monthLen_range m
      rw [ha] at h1
      simp at h1
      omega
    rcases split_last d with rfl | ⟨d', u, rfl⟩
    · skip
      refine syield_enter rfl E.hfn rfl (by decide) ?_
      intro E3 hl3 hOwn hKR
      (refine sgo_sound [777] 1000 ?_; conv => whnf)
      refine sw_begin hOwn rfl ?_
      (refine sgo_sound [777] 1000 ?_; conv => whnf)
      refine swr_vlen rfl rfl rfl rfl rfl rfl (runCells_len _) (by decide) ?_
      (refine sgor_sound [777] 1000 ?_; conv => whnf)
      refine swr_vappend (kk := 2) (new := [[dI v.day, dI v.day]]) rfl rfl rfl rfl rfl rfl rfl rfl rfl rfl ⟨by decide, rfl⟩ rfl (runCells_len _) (by decide) (by simp) (by simp; omega) ?_
      (refine sgor_sound [777] 1000 ?_; conv => whnf)
      have hlX : (runCells (runsOf []) ++ List.map SV.imm [[dI v.day, dI v.day]].flatten).length = ((runsOf []).length + 1) * 2 := by rw [List.length_append, runCells_len]; simp; omega
      refine swr_vlen (n := (runsOf []).length + 1) (cs := (runCells (runsOf []) ++ List.map SV.imm [[dI v.day, dI v.day]].flatten)) rfl rfl rfl rfl rfl rfl hlX (by decide) ?_
      (refine sgor_sound [777] 1000 ?_; conv => whnf)
      refine swr_vidx (kk := 2) (n := (runsOf []).length + 1) (cs := (runCells (runsOf []) ++ List.map SV.imm [[dI v.day, dI v.day]].flatten)) (i := (runsOf []).length) rfl rfl rfl rfl rfl rfl rfl rfl hlX (by decide) (by rw [wrap64 (by omega) (by omega)]; omega) (by omega) ?_
      (refine sgor_sound [777] 1000 ?_; conv => whnf)
      refine swr_vfield (kk := 2) (n := (runsOf []).length + 1) (cs := (runCells (runsOf []) ++ List.map SV.imm [[dI v.day, dI v.day]].flatten)) rfl rfl rfl rfl rfl rfl rfl rfl hlX (by decide) (by omega) ?_
      (refine sgor_sound [777] 1000 ?_; conv => whnf)
      refine swr_vstore (kk := 2) (n := (runsOf []).length + 1) (cs := (runCells (runsOf []) ++ List.map SV.imm [[dI v.day, dI v.day]].flatten)) (off := (runsOf []).length * 2 + 1) rfl rfl rfl rfl rfl rfl rfl rfl rfl hlX (by decide) (by rw [hlX]; omega) ?_
      (refine sgor_sound [777] 1000 ?_; conv => whnf)
      have e : runsOf ([] ++ [v]) = runsOf [] ++ [(v.day, v.day + 1)] := by rw [runsOf_snoc]; rfl
      have e2 : (runsOf ([] ++ [v])).length = (runsOf []).length + 1 := by rw [e]; simp
      have e1 : (runCells (runsOf []) ++ List.map SV.imm [[dI v.day, dI v.day]].flatten).set ((runsOf []).length * 2 + 1) (sI (IntKind.i64.wrap (v.day + 1))) = runCells (runsOf ([] ++ [v])) := by
        rw [hwv, e]
        show (runCells (runsOf []) ++ runCells [(v.day, v.day)]).set _ _ = _
        rw [← runCells_app]
        exact runCells_set _ (v.day, v.day) (v.day + 1) _ rfl
      refine hKR none _ _ (by simp) rfl ⟨rfl, by simp, ?_⟩
      rw [← e1, e2, List.getLast?_concat]
      rfl
    · obtain ⟨a, r, har⟩ := runsOf_ne d' u
      have hum : u ∈ dayViews c l p m k := by rw [ha]; simp
      rw [List.getLast?_concat]
      refine syield_enter rfl E.hfn rfl (by decide) ?_
      intro E3 hl3 hOwn hKR
      (refine sgo_sound [777] 1000 ?_; conv => whnf)
      refine sw_begin hOwn rfl ?_
      (refine sgo_sound [777] 1000 ?_; conv => whnf)
      refine swr_vlen rfl rfl rfl rfl rfl rfl (runCells_len _) (by decide) ?_
      (refine sgor_sound [777] 1000 ?_; conv => whnf)
      refine bwfd (fun h9 => ?_) (fun h9 => ?_) <;> (conv => whnf)
      · cases hs : u.same v with
        | false =>
          refine swr_pure rfl rfl rfl rfl rfl rfl  (viewSame_spec G0 u v (hvf u hum)) ?_
          rw [hs]
          (refine sgor_sound [777] 1000 ?_; conv => whnf)
          refine swr_vappend (kk := 2) (new := [[dI v.day, dI v.day]]) rfl rfl rfl rfl rfl rfl rfl rfl rfl rfl ⟨by decide, rfl⟩ rfl (runCells_len _) (by decide) (by simp) (by simp; omega) ?_
          (refine sgor_sound [777] 1000 ?_; conv => whnf)
          have hlX : (runCells (runsOf (d' ++ [u])) ++ List.map SV.imm [[dI v.day, dI v.day]].flatten).length = ((runsOf (d' ++ [u])).length + 1) * 2 := by rw [List.length_append, runCells_len]; simp; omega
          refine swr_vlen (n := (runsOf (d' ++ [u])).length + 1) (cs := (runCells (runsOf (d' ++ [u])) ++ List.map SV.imm [[dI v.day, dI v.day]].flatten)) rfl rfl rfl rfl rfl rfl hlX (by decide) ?_
          (refine sgor_sound [777] 1000 ?_; conv => whnf)
          refine swr_vidx (kk := 2) (n := (runsOf (d' ++ [u])).length + 1) (cs := (runCells (runsOf (d' ++ [u])) ++ List.map SV.imm [[dI v.day, dI v.day]].flatten)) (i := (runsOf (d' ++ [u])).length) rfl rfl rfl rfl rfl rfl rfl rfl hlX (by decide) (by rw [wrap64 (by omega) (by omega)]; omega) (by omega) ?_
          (refine sgor_sound [777] 1000 ?_; conv => whnf)
          refine swr_vfield (kk := 2) (n := (runsOf (d' ++ [u])).length + 1) (cs := (runCells (runsOf (d' ++ [u])) ++ List.map SV.imm [[dI v.day, dI v.day]].flatten)) rfl rfl rfl rfl rfl rfl rfl rfl hlX (by decide) (by omega) ?_
          (refine sgor_sound [777] 1000 ?_; conv => whnf)
          refine swr_vstore (kk := 2) (n := (runsOf (d' ++ [u])).length + 1) (cs := (runCells (runsOf (d' ++ [u])) ++ List.map SV.imm [[dI v.day, dI v.day]].flatten)) (off := (runsOf (d' ++ [u])).length * 2 + 1) rfl rfl rfl rfl rfl rfl rfl rfl rfl hlX (by decide) (by rw [hlX]; omega) ?_
          (refine sgor_sound [777] 1000 ?_; conv => whnf)
          have e : runsOf ((d' ++ [u]) ++ [v]) = runsOf (d' ++ [u]) ++ [(v.day, v.day + 1)] := by rw [runsOf_snoc]; rw [List.getLast?_concat, addRun_some, hs]; rfl
          have e2 : (runsOf ((d' ++ [u]) ++ [v])).length = (runsOf (d' ++ [u])).length + 1 := by rw [e]; simp
          have e1 : (runCells (runsOf (d' ++ [u])) ++ List.map SV.imm [[dI v.day, dI v.day]].flatten).set ((runsOf (d' ++ [u])).length * 2 + 1) (sI (IntKind.i64.wrap (v.day + 1))) = runCells (runsOf ((d' ++ [u]) ++ [v])) := by
            rw [hwv, e]
            show (runCells (runsOf (d' ++ [u])) ++ runCells [(v.day, v.day)]).set _ _ = _
            rw [← runCells_app]
            exact runCells_set _ (v.day, v.day) (v.day + 1) _ rfl
          refine hKR none _ _ (by simp) rfl ⟨rfl, by simp, ?_⟩
          rw [← e1, e2, List.getLast?_concat]
          rfl
        | true =>
          refine swr_pure rfl rfl rfl rfl rfl rfl  (viewSame_spec G0 u v (hvf u hum)) ?_
          rw [hs]
          (refine sgor_sound [777] 1000 ?_; conv => whnf)
          have hlX : (runCells (runsOf (d' ++ [u]))).length = (a.length + 1) * 2 := by rw [har, runCells_len]; simp
          have hl1 : (runsOf (d' ++ [u])).length = a.length + 1 := by rw [har]; simp
          refine swr_vlen (n := (runsOf (d' ++ [u])).length) (cs := runCells (runsOf (d' ++ [u]))) rfl rfl rfl rfl rfl rfl (runCells_len _) (by decide) ?_
          (refine sgor_sound [777] 1000 ?_; conv => whnf)
          refine swr_vidx (kk := 2) (n := (runsOf (d' ++ [u])).length) (cs := runCells (runsOf (d' ++ [u]))) (i := a.length) rfl rfl rfl rfl rfl rfl rfl rfl (runCells_len _) (by decide) (by rw [hl1, wrap64 (by omega) (by omega)]; omega) (by omega) ?_
          (refine sgor_sound [777] 1000 ?_; conv => whnf)
          refine swr_vfield (kk := 2) (n := (runsOf (d' ++ [u])).length) (cs := runCells (runsOf (d' ++ [u]))) rfl rfl rfl rfl rfl rfl rfl rfl (runCells_len _) (by decide) (by omega) ?_
          (refine sgor_sound [777] 1000 ?_; conv => whnf)
          refine swr_vstore (kk := 2) (n := (runsOf (d' ++ [u])).length) (cs := runCells (runsOf (d' ++ [u]))) (off := a.length * 2 + 1) rfl rfl rfl rfl rfl rfl rfl rfl rfl (runCells_len _) (by decide) (by rw [hlX]; omega) ?_
          (refine sgor_sound [777] 1000 ?_; conv => whnf)
          have e : runsOf ((d' ++ [u]) ++ [v]) = a ++ [(r.1, v.day + 1)] := by rw [runsOf_snoc, List.getLast?_concat, addRun_some, if_pos hs, har, setLast_snoc]
          have e2 : (runsOf ((d' ++ [u]) ++ [v])).length = (runsOf (d' ++ [u])).length := by rw [e, har]; simp
          have e1 : (runCells (runsOf (d' ++ [u]))).set (a.length * 2 + 1) (sI (IntKind.i64.wrap (v.day + 1))) = runCells (runsOf ((d' ++ [u]) ++ [v])) := by
            rw [hwv, e, har]
            exact runCells_set _ r (v.day + 1) _ rfl
          refine hKR none _ _ (by simp) rfl ⟨rfl, by simp, ?_⟩
          rw [← e1, e2, List.getLast?_concat]
          rfl
      · exfalso
        rw [har] at h9
        simp at h9
        omega
  · intro r
    refine ⟨by simp, _, _, rfl, .inl ⟨rfl, ?_⟩⟩
    generalize dayViews c l p m k = D at hK ⊢
    refine sgo_sound [10, 777] 1000 ?_; conv => whnf
    refine swr_lift (fun k => sw_vshut 66 7 (runsOf D).length 2 (cs := runCells (runsOf D)) (ds := ((runsOf D).map runCell).flatten) rfl rfl (runCells_one _) (mapM_imm _) (runCells_len _) (by decide)) ?_
    have hc : chunks 2 ((runsOf D).map runCell).flatten (runsOf D).length = (runsOf D).map runCell := by
      have := chunks_flat 2 ((runsOf D).map runCell) (fun r hr => by obtain ⟨x, _, rfl⟩ := List.mem_map.1 hr; rfl)
      rwa [List.length_map] at this
    rw [hc]
    (refine sgor_sound [777] 1000 ?_; conv => whnf)
    exact hK _

theorem dayViews_fit {c : Codex} {l : List Fact} {p : ByteArray} {m k : Int} (hz : c.facts.length ≤ 1073741824 ∧ c.arts.length ≤ 1073741824) {v : View} (h : v ∈ dayViews c l p m k) : v.fit := by
  simp only [dayViews, List.mem_map, List.mem_range] at h
  obtain ⟨i, hi, rfl⟩ := h
  refine ⟨by simp [viewOf]; omega, by simp [viewOf]; omega, ?_⟩
  simp only [viewOf]
  have := inForce_len c.arts (firstDay m + i) k
  omega

def monthRuns (c : Codex) (l : List Fact) (p : ByteArray) (m k : Int) : List (Int × Int) × Int :=
  if readerOK c l k && decide (0 ≤ m) && decide (m ≤ 1199) then (runsOf (dayViews c l p m k), 0) else ([], 1)

theorem runs_spec (c : Codex) (l : List Fact) (p : ByteArray) (m k : Int) (hfit : Codex.fit c) :
    SPure Tryz.prog G0 13 [c.sv, storeSV l, sS p, sI m, sI k] (errSV (.imm (dRuns (monthRuns c l p m k).1)) (monthRuns c l p m k).2) := by
  by_cases hall : readerOK c l k = true ∧ 0 ≤ m ∧ m ≤ 1199
  · have hv : monthRuns c l p m k = (runsOf (dayViews c l p m k), 0) := by simp only [monthRuns, hall.1, hall.2.1, hall.2.2, decide_true, Bool.and_true]; rfl
    rw [hv]
    have := readerOK_len hall.1
    exact runs_ok c l p m k hfit hall.1 hall.2 (fun v hm => dayViews_fit ⟨this.1, this.2.1⟩ hm)
  · have hv : monthRuns c l p m k = ([], 1) := by
      have : ¬ (readerOK c l k && decide (0 ≤ m) && decide (m ≤ 1199)) = true := by simp only [Bool.and_eq_true, decide_eq_true_eq]; exact fun h => hall ⟨h.1.1, h.1.2, h.2⟩
      rw [monthRuns, if_neg this]
    rw [hv]
    refine spure_is (r := errSV nilS 1) ?_ (SIs.cons (.nil 2) (.cons (.refl _) .nil)).tup
    cases hr : readerOK c l k with
    | false =>
      refine spure_enter Tryz.func13 rfl (by rw [Tryz.ntmps13]; simp) rfl rfl ?_; intro E hH hK
      (refine sgo_sound [] 1000 ?_; conv => whnf)
      refine swr_pure rfl rfl rfl rfl rfl rfl  (newReader_spec G0 c l p k hfit) ?_
      rw [hr]
      (refine sgor_sound [] 1000 ?_; conv => whnf)
      exact hK _
    | true =>
      refine spure_enter Tryz.func13 rfl (by rw [Tryz.ntmps13]; simp) rfl rfl ?_; intro E hH hK
      (refine sgo_sound [] 1000 ?_; conv => whnf)
      refine swr_pure rfl rfl rfl rfl rfl rfl  (newReader_spec G0 c l p k hfit) ?_
      rw [hr]
      (refine sgor_sound [] 1000 ?_; conv => whnf)
      repeat' ((first | with_reducible refine bdec (fun h => ?_) (fun h => ?_) | with_reducible refine bndec (fun h => ?_) (fun h => ?_) | with_reducible refine bwtd (fun h => ?_) (fun h => ?_) | with_reducible refine bwfd (fun h => ?_) (fun h => ?_) | with_reducible refine bwtn (fun h => ?_) (fun h => ?_) | with_reducible refine bwfn (fun h => ?_) (fun h => ?_) | with_reducible refine bwtb (fun h => ?_) (fun h => ?_) | with_reducible refine bwfb (fun h => ?_) (fun h => ?_) | with_reducible refine bwt (fun h => ?_) (fun h => ?_) | with_reducible refine bwf (fun h => ?_) (fun h => ?_) | with_reducible refine bnt (fun h => ?_) (fun h => ?_) | with_reducible refine bcase (fun h => ?_) (fun h => ?_)) <;> (conv => whnf))
      all_goals first | exact hK _ | (exfalso; exact hall ⟨hr, by omega, by omega⟩)
end Go.Proofs.YthmkdghoaifkbaaGreatDoor

/- Contracts, part v: the example of law 13. -/
namespace Go.Proofs.YthmkdghoaifkbaaGreatDoor
open Go Go.Sh
set_option maxRecDepth 10000
set_option maxHeartbeats 2000000

def bs (l : List UInt8) : ByteArray := ⟨l.toArray⟩
def bMarried : ByteArray := bs [109, 97, 114, 114, 105, 101, 100]
def bTruth : ByteArray := bs [116, 114, 117, 116, 104]
def bBasic : ByteArray := bs [98, 97, 115, 105, 99]
def bEUR : ByteArray := bs [69, 85, 82]
def bAnn : ByteArray := bs [97, 110, 110]
def exArt (lo hi known : Int) : Article := ⟨1, 0, 0, lo, hi, known, [], [], .mk 1 100 bEUR 0 [] []⟩
def exC : Codex := ⟨[⟨bMarried, bTruth, 0⟩], [⟨bBasic, bEUR, 1⟩], [exArt 8766 8800 8766, exArt 8790 9000 8780]⟩
def exF : List Fact := [⟨bAnn, bMarried, 8770, 9000, 8800, 1, false⟩]

abbrev dNil : D := .val (.slice none 0 0)
def exRow (lo hi known : Int) : List D := [dI 1, dI 0, dI 0, dI lo, dI hi, dI known, dNil, dNil, dI 1, dI 100, dS bEUR, dI 0, dNil, dNil]
theorem exRow_is (lo hi known : Int) : DIs (exRow lo hi known) (exArt lo hi known).cells :=
  .cons (.refl _) (.cons (.refl _) (.cons (.refl _) (.cons (.refl _) (.cons (.refl _) (.cons (.refl _) (.cons (.nil 6) (.cons (.nil 1) (.cons (.refl _) (.cons (.refl _) (.cons (.refl _) (.cons (.refl _) (.cons (.nil 3) (.cons (.nil 6) .nil)))))))))))))

def exSV : SV := .tup [.agg [.imm (dDecls exC.facts), .imm (dDecls exC.lines), .imm (.isl 14 [exRow 8766 8800 8766, exRow 8790 9000 8780])], storeSV exF]
theorem exSV_is : exSV.Is (.tup [exC.sv, storeSV exF]) :=
  (SIs.cons (SIs.cons (.refl _) (.cons (.refl _) (.cons (DIss.cons (exRow_is _ _ _) (.cons (exRow_is _ _ _) .nil)).isl.imm .nil))).agg (.cons (.refl _) .nil)).tup

variable (G : List (Nat × D))
theorem example_spec : SPure Tryz.prog G 25 [] (.tup [exC.sv, storeSV exF]) := by
  refine spure_is ?_ exSV_is
  refine spure_enter Tryz.func25 rfl (by rw [Tryz.ntmps25]; simp) rfl rfl ?_; intro E hH hK
  (refine sgo_sound [] 1000 ?_; conv => whnf)
  exact hK _
end Go.Proofs.YthmkdghoaifkbaaGreatDoor

/- Contracts, part w: the head of law 13. -/
namespace Go.Proofs.YthmkdghoaifkbaaGreatDoor
open Go Go.Sh
set_option maxRecDepth 10000
set_option maxHeartbeats 2000000

theorem ex_codexOK : codexOK exC = true := by decide
theorem ex_storeOK : storeOK exF = true := by decide
def exArts (day k : Int) : List Int := match version exC.arts 1 day k with | some i => [(i : Int)] | none => []
theorem ex_inForce (day k : Int) : inForce exC.arts day k = exArts day k := by
  have h : forceGo exC.arts day k exC.arts [] [] = exArts day k := rfl
  rw [inForce, h, exArts]
  split
  · exact List.mergeSort_singleton _
  · exact List.mergeSort_nil
def exView (day k : Int) : View := ⟨day, exC.facts.map (fun d => (usableOf exC exF bAnn k day d).2), exC.facts.map (fun d => (usableOf exC exF bAnn k day d).1), exArts day k⟩
theorem ex_view (day k : Int) : viewOf exC exF bAnn k day = exView day k := by rw [viewOf, ex_inForce]; rfl
theorem ex_at1 : viewAt exC exF bAnn 8780 8799 = (⟨8780, [false], [0], [0]⟩, 0) := by
  have h : (readerOK exC exF 8799 && dayOK 8780) = true := by decide
  rw [viewAt, if_pos h, ex_view]
  have e1 : exC.facts.map (fun d => (usableOf exC exF bAnn 8799 8780 d).2) = [false] := by decide
  have e2 : exC.facts.map (fun d => (usableOf exC exF bAnn 8799 8780 d).1) = [0] := by decide
  have e3 : exArts 8780 8799 = [0] := by decide
  rw [exView, e1, e2, e3]
theorem ex_at2 : viewAt exC exF bAnn 8791 8800 = (⟨8791, [true], [1], [1]⟩, 0) := by
  have h : (readerOK exC exF 8800 && dayOK 8791) = true := by decide
  rw [viewAt, if_pos h, ex_view]
  have e1 : exC.facts.map (fun d => (usableOf exC exF bAnn 8800 8791 d).2) = [true] := by decide
  have e2 : exC.facts.map (fun d => (usableOf exC exF bAnn 8800 8791 d).1) = [1] := by decide
  have e3 : exArts 8791 8800 = [1] := by decide
  rw [exView, e1, e2, e3]
theorem ex_at3 : viewAt exC exF bAnn (-1) 8800 = (⟨0, [], [], []⟩, 1) := by
  have h : ¬ (readerOK exC exF 8800 && dayOK (-1)) = true := by decide
  rw [viewAt, if_neg h]
theorem ex_runs : monthRuns exC exF bAnn 288 8800 = ([(8766, 8770), (8770, 8790), (8790, 8797)], 0) := by
  have h : (readerOK exC exF 8800 && decide ((0 : Int) ≤ 288) && decide ((288 : Int) ≤ 1199)) = true := by decide
  rw [monthRuns, if_pos h]
  have e : dayViews exC exF bAnn 288 8800 = (List.range (monthLen 288).toNat).map fun (i : Nat) => exView (firstDay 288 + i) 8800 := by
    unfold dayViews
    exact List.map_congr_left (fun i _ => ex_view _ _)
  rw [e]
  have e2 : runsOf ((List.range (monthLen 288).toNat).map fun (i : Nat) => exView (firstDay 288 + i) 8800) = [(8766, 8770), (8770, 8790), (8790, 8797)] := by decide
  rw [e2]
theorem ex_fit : Codex.fit exC := by intro a ha; simp [exC, exArt] at ha; rcases ha with rfl | rfl <;> simp

theorem head_spec : SPure Tryz.prog G0 9 [] (sB true) := by
  refine spure_enter Tryz.func9 rfl (by rw [Tryz.ntmps9]; simp) rfl rfl ?_; intro E hH hK
  (refine sgo_sound [] 1000 ?_; conv => whnf)
  refine swr_pure rfl rfl rfl rfl rfl rfl  (example_spec G0) ?_
  (refine sgor_sound [] 1000 ?_; conv => whnf)
  refine swr_pure rfl rfl rfl rfl rfl rfl  (viewAt_spec G0 exC exF bAnn 8780 8799 ex_fit) ?_
  rw [ex_at1]
  (refine sgor_sound [] 1000 ?_; conv => whnf)
  refine swr_pure rfl rfl rfl rfl rfl rfl  (viewAt_spec G0 exC exF bAnn 8791 8800 ex_fit) ?_
  rw [ex_at2]
  (refine sgor_sound [] 1000 ?_; conv => whnf)
  refine swr_pure rfl rfl rfl rfl rfl rfl  (runs_spec exC exF bAnn 288 8800 ex_fit) ?_
  rw [ex_runs]
  (refine sgor_sound [] 1000 ?_; conv => whnf)
  refine swr_pure rfl rfl rfl rfl rfl rfl  (viewAt_spec G0 exC exF bAnn (-1) 8800 ex_fit) ?_
  rw [ex_at3]
  (refine sgor_sound [] 1000 ?_; conv => whnf)
  refine swr_index rfl rfl rfl rfl rfl rfl rfl rfl  (row := [dB false]) rfl ?_
  (refine sgor_sound [] 1000 ?_; conv => whnf)
  refine swr_pure rfl rfl rfl rfl rfl rfl  (sameInts_spec G0 [0] [0] (by decide)) ?_
  (refine sgor_sound [] 1000 ?_; conv => whnf)
  refine swr_index rfl rfl rfl rfl rfl rfl rfl rfl  (row := [dB true]) rfl ?_
  (refine sgor_sound [] 1000 ?_; conv => whnf)
  refine swr_index rfl rfl rfl rfl rfl rfl rfl rfl  (row := [dI 1]) rfl ?_
  (refine sgor_sound [] 1000 ?_; conv => whnf)
  refine swr_pure rfl rfl rfl rfl rfl rfl  (sameInts_spec G0 [1] [1] (by decide)) ?_
  (refine sgor_sound [] 1000 ?_; conv => whnf)
  refine swr_index rfl rfl rfl rfl rfl rfl rfl rfl  (row := [dI 8766, dI 8770]) rfl ?_
  (refine sgor_sound [] 1000 ?_; conv => whnf)
  refine swr_eq2 rfl rfl rfl rfl rfl rfl Tryz.stoodInHeld43 (by decide) (by decide) rfl rfl rfl rfl Tryz.eqGuardType43 ?_
  (refine sgor_sound [] 1000 ?_; conv => whnf)
  refine swr_index rfl rfl rfl rfl rfl rfl rfl rfl  (row := [dI 8770, dI 8790]) rfl ?_
  (refine sgor_sound [] 1000 ?_; conv => whnf)
  refine swr_eq2 rfl rfl rfl rfl rfl rfl Tryz.stoodInHeld43 (by decide) (by decide) rfl rfl rfl rfl Tryz.eqGuardType43 ?_
  (refine sgor_sound [] 1000 ?_; conv => whnf)
  refine swr_index rfl rfl rfl rfl rfl rfl rfl rfl  (row := [dI 8790, dI 8797]) rfl ?_
  (refine sgor_sound [] 1000 ?_; conv => whnf)
  refine swr_eq2 rfl rfl rfl rfl rfl rfl Tryz.stoodInHeld43 (by decide) (by decide) rfl rfl rfl rfl Tryz.eqGuardType43 ?_
  (refine sgor_sound [] 1000 ?_; conv => whnf)
  refine swr_pure rfl rfl rfl rfl rfl rfl  (viewSame_spec G0 ⟨8780, [false], [0], [0]⟩ ⟨8791, [true], [1], [1]⟩ ⟨by decide, by decide, by decide⟩) ?_
  (refine sgor_sound [] 1000 ?_; conv => whnf)
  refine swr_pure rfl rfl rfl rfl rfl rfl  (viewSame_spec G0 ⟨8780, [false], [0], [0]⟩ ⟨8780, [false], [0], [0]⟩ ⟨by decide, by decide, by decide⟩) ?_
  (refine sgor_sound [] 1000 ?_; conv => whnf)
  exact hK _
end Go.Proofs.YthmkdghoaifkbaaGreatDoor

/- The arguments of the laws: from the model's readings to data. -/
namespace Go.Proofs.YthmkdghoaifkbaaGreatDoor
open Go Go.Sh
set_option maxRecDepth 100000

theorem czDecl : Tryz.prog.cellsOf 63 = 3 := by kernel_rfl
theorem czPiece : Tryz.prog.cellsOf 135 = 3 := by kernel_rfl
theorem czExpr : Tryz.prog.cellsOf 51 = 6 := by kernel_rfl
theorem czFunc : Tryz.prog.cellsOf 49 = 2 := by kernel_rfl
theorem czArt : Tryz.prog.cellsOf 53 = 14 := by kernel_rfl
theorem czFact : Tryz.prog.cellsOf 58 = 7 := by kernel_rfl
theorem czCodex : Tryz.prog.cellsOf 25 = 3 := by kernel_rfl
theorem czStore : Tryz.prog.cellsOf 28 = 1 := by kernel_rfl
theorem czView : Tryz.prog.cellsOf 34 = 4 := by kernel_rfl
theorem czInt : Tryz.prog.cellsOf 3 = 1 := by kernel_rfl
theorem czBool : Tryz.prog.cellsOf 4 = 1 := by kernel_rfl
theorem czStr : Tryz.prog.cellsOf 9 = 1 := by kernel_rfl
theorem czSl1 : Tryz.prog.cellsOf 22 = 1 := by kernel_rfl
theorem czSl2 : Tryz.prog.cellsOf 47 = 1 := by kernel_rfl
theorem czSl3 : Tryz.prog.cellsOf 46 = 1 := by kernel_rfl
theorem czSl4 : Tryz.prog.cellsOf 23 = 1 := by kernel_rfl
theorem czSl5 : Tryz.prog.cellsOf 26 = 1 := by kernel_rfl
theorem czSl6 : Tryz.prog.cellsOf 32 = 1 := by kernel_rfl
theorem czSl7 : Tryz.prog.cellsOf 31 = 1 := by kernel_rfl

section
variable {H : Type} {enc : TypeId × Value → H} {w : World} {fuel : Nat} {cs : List Value} {x : DataW H × List MemPlace}

/-- a number of Go -/
def i64 (n : Int) : Prop := -9223372036854775808 ≤ n ∧ n ≤ 9223372036854775807
abbrev big : Nat := 9223372036854775807

theorem rdInts (h : DataW.trod enc Tryz.prog w 0 (fun _ => true) true fuel 32 cs = some x) : ∃ l : List Int, Cs w cs [dInts l] ∧ l.length ≤ 9223372036854775807 ∧ ∀ n ∈ l, i64 n :=
  rd_slice (fun n => [dI n]) i64 Tryz.underlying32 czInt (by decide) h (fun _ _ _ _ h => by obtain ⟨n, h1, h2⟩ := rd_int Tryz.underlying3 h; exact ⟨n, h1, h2⟩)
theorem rdBools (h : DataW.trod enc Tryz.prog w 0 (fun _ => true) true fuel 31 cs = some x) : ∃ l : List Bool, Cs w cs [dBools l] ∧ l.length ≤ 9223372036854775807 := by
  obtain ⟨l, h1, h2, _⟩ := rd_slice (fun b => [dB b]) (fun _ => True) Tryz.underlying31 czBool (by decide) h (fun _ _ _ _ h => by obtain ⟨n, h1⟩ := rd_bool Tryz.underlying4 h; exact ⟨n, h1, trivial⟩)
  exact ⟨l, h1, h2⟩

theorem cs3 {cs : List Value} (h : cs.length = 3) : ∃ a b c, cs = [a, b, c] := by
  match cs, h with | [a, b, c], _ => exact ⟨a, b, c, rfl⟩
theorem cs4 {cs : List Value} (h : cs.length = 4) : ∃ a b c d, cs = [a, b, c, d] := by
  match cs, h with | [a, b, c, d], _ => exact ⟨a, b, c, d, rfl⟩

/-- the fields of a structure -/
theorem rd_field {t : TypeId} {fs : Array Field} {c : List Value} (ht : Tryz.prog.underlying t = some (.struct fs)) (h : DataW.trod enc Tryz.prog w 0 (fun _ => true) true fuel t c = some x) :
    c.length = Tryz.prog.cellsOf t ∧ ∃ n, n < fuel ∧ ∀ (i : Nat) (u off k : Nat), (fs[i]?).map (fun f => (f.type, f.offset)) = some (u, off) → Tryz.prog.cellsOf u = k → ∃ y, DataW.trod enc Tryz.prog w 0 (fun _ => true) true n u ((c.drop off).take k) = some y := by
  obtain ⟨xs, n, rfl, _, hl, hlen, hf⟩ := DataW.trod_struct ht h
  refine ⟨hl, n, by omega, fun i u off k hi hk => ?_⟩
  obtain ⟨f, hf1, hf2⟩ := Option.map_eq_some_iff.1 hi
  cases hf2
  subst hk
  have := hf i f hf1
  have hlt : i < fs.size := by
    rcases Nat.lt_or_ge i fs.size with h | h
    · exact h
    · simp [Array.getElem?_eq_none h] at hf1
  rw [List.getElem?_eq_getElem (by omega)] at this
  exact ⟨_, this⟩

structure Decl.ok (d : Decl) : Prop where
  name : d.name.size ≤ 9223372036854775807
  unit : d.unit.size ≤ 9223372036854775807
  role : i64 d.role
theorem rdDecl (h : DataW.trod enc Tryz.prog w 0 (fun _ => true) true fuel 63 cs = some x) : ∃ d : Decl, Cs w cs d.cells ∧ Decl.ok d := by
  obtain ⟨hl, n, _, hf⟩ := rd_field Tryz.underlying63 h
  rw [czDecl] at hl
  obtain ⟨a, b, c, rfl⟩ := cs3 hl
  obtain ⟨y0, h0⟩ := hf 0 9 0 1 rfl czStr
  obtain ⟨y1, h1⟩ := hf 1 9 1 1 rfl czStr
  obtain ⟨y2, h2⟩ := hf 2 3 2 1 rfl czInt
  obtain ⟨s0, g0, e0⟩ := rd_string Tryz.underlying9 h0
  obtain ⟨s1, g1, e1⟩ := rd_string Tryz.underlying9 h1
  obtain ⟨s2, g2, e2⟩ := rd_int Tryz.underlying3 h2
  exact ⟨⟨s0, s1, s2⟩, g0.append (g1.append g2), e0, e1, e2⟩

structure Piece.ok (p : Piece) : Prop where
  lo : i64 p.lo
  at_ : i64 p.at_
  slope : i64 p.slope
theorem rdPiece (h : DataW.trod enc Tryz.prog w 0 (fun _ => true) true fuel 135 cs = some x) : ∃ d : Piece, Cs w cs d.cells ∧ Piece.ok d := by
  obtain ⟨hl, n, _, hf⟩ := rd_field Tryz.underlying135 h
  rw [czPiece] at hl
  obtain ⟨a, b, c, rfl⟩ := cs3 hl
  obtain ⟨y0, h0⟩ := hf 0 3 0 1 rfl czInt
  obtain ⟨y1, h1⟩ := hf 1 3 1 1 rfl czInt
  obtain ⟨y2, h2⟩ := hf 2 3 2 1 rfl czInt
  obtain ⟨s0, g0, e0⟩ := rd_int Tryz.underlying3 h0
  obtain ⟨s1, g1, e1⟩ := rd_int Tryz.underlying3 h1
  obtain ⟨s2, g2, e2⟩ := rd_int Tryz.underlying3 h2
  exact ⟨⟨s0, s1, s2⟩, g0.append (g1.append g2), e0, e1, e2⟩

/-- what is true of all expressions of Go -/
inductive ExOK : Ex → Prop
  | mk {op n : Int} {u : ByteArray} {den : Int} {ps : List Piece} {ks : List Ex} : i64 op → i64 n → u.size ≤ 9223372036854775807 → i64 den → ps.length ≤ 9223372036854775807 → (∀ p ∈ ps, Piece.ok p) → ks.length ≤ 9223372036854775807 → (∀ k ∈ ks, ExOK k) → ExOK (.mk op n u den ps ks)

theorem rdFunc (h : DataW.trod enc Tryz.prog w 0 (fun _ => true) true fuel 49 cs = some x) : ∃ (den : Int) (ps : List Piece), Cs w cs [dI den, .isl 3 (ps.map Piece.cells)] ∧ i64 den ∧ ps.length ≤ 9223372036854775807 ∧ ∀ p ∈ ps, Piece.ok p := by
  obtain ⟨hl, n, _, hf⟩ := rd_field Tryz.underlying49 h
  rw [czFunc] at hl
  obtain ⟨a, b, rfl⟩ : ∃ a b, cs = [a, b] := by match cs, hl with | [a, b], _ => exact ⟨a, b, rfl⟩
  obtain ⟨y0, h0⟩ := hf 0 3 0 1 rfl czInt
  obtain ⟨y1, h1⟩ := hf 1 47 1 1 rfl czSl2
  obtain ⟨s0, g0, e0⟩ := rd_int Tryz.underlying3 h0
  obtain ⟨s1, g1, e1, e2⟩ := rd_slice Piece.cells Piece.ok Tryz.underlying47 czPiece (by decide) h1 (fun _ _ _ _ h => rdPiece h)
  exact ⟨s0, s1, g0.append g1, e0, e1, e2⟩

theorem rdExpr : ∀ (fuel : Nat) (cs : List Value) (x : DataW H × List MemPlace), DataW.trod enc Tryz.prog w 0 (fun _ => true) true fuel 51 cs = some x → ∃ d : Ex, Cs w cs d.cells ∧ ExOK d := by
  intro fuel
  induction fuel using Nat.strongRecOn with
  | _ fuel ih =>
  intro cs x h
  obtain ⟨hl, n, hn, hf⟩ := rd_field Tryz.underlying51 h
  rw [czExpr] at hl
  obtain ⟨a, b, c, d, e, f, rfl⟩ : ∃ a b c d e f, cs = [a, b, c, d, e, f] := by match cs, hl with | [a, b, c, d, e, f], _ => exact ⟨a, b, c, d, e, f, rfl⟩
  obtain ⟨y0, h0⟩ := hf 0 3 0 1 rfl czInt
  obtain ⟨y1, h1⟩ := hf 1 3 1 1 rfl czInt
  obtain ⟨y2, h2⟩ := hf 2 9 2 1 rfl czStr
  obtain ⟨y3, h3⟩ := hf 3 49 3 2 rfl czFunc
  obtain ⟨y4, h4⟩ := hf 4 46 5 1 rfl czSl3
  obtain ⟨s0, g0, e0⟩ := rd_int Tryz.underlying3 h0
  obtain ⟨s1, g1, e1⟩ := rd_int Tryz.underlying3 h1
  obtain ⟨s2, g2, e2⟩ := rd_string Tryz.underlying9 h2
  obtain ⟨s3, s4, g3, e3, e4, e5⟩ := rdFunc h3
  obtain ⟨s5, g5, e6, e7⟩ := rd_slice Ex.cells ExOK Tryz.underlying46 czExpr (by decide) h4 (fun m cs x hm h => ih m (by omega) cs x h)
  refine ⟨.mk s0 s1 s2 s3 s4 s5, ?_, .mk e0 e1 e2 e3 e4 e5 e6 e7⟩
  rw [Ex.cells_eq]
  exact g0.append (g1.append (g2.append (g3.append g5)))

structure Article.ok (a : Article) : Prop where
  number : i64 a.number
  line : i64 a.line
  rank : i64 a.rank
  lo : i64 a.lo
  hi : i64 a.hi
  known : i64 a.known
  when_ : a.when_.length ≤ 9223372036854775807
  whens : ∀ e ∈ a.when_, ExOK e
  unless_ : a.unless_.length ≤ 9223372036854775807
  unlesss : ∀ n ∈ a.unless_, i64 n
  amount : ExOK a.amount
theorem rdArticle (h : DataW.trod enc Tryz.prog w 0 (fun _ => true) true fuel 53 cs = some x) : ∃ d : Article, Cs w cs d.cells ∧ Article.ok d := by
  obtain ⟨hl, n, hn, hf⟩ := rd_field Tryz.underlying53 h
  rw [czArt] at hl
  obtain ⟨a0, a1, a2, a3, a4, a5, a6, a7, a8, a9, a10, a11, a12, a13, rfl⟩ : ∃ a0 a1 a2 a3 a4 a5 a6 a7 a8 a9 a10 a11 a12 a13, cs = [a0, a1, a2, a3, a4, a5, a6, a7, a8, a9, a10, a11, a12, a13] := by
    match cs, hl with | [a0, a1, a2, a3, a4, a5, a6, a7, a8, a9, a10, a11, a12, a13], _ => exact ⟨a0, a1, a2, a3, a4, a5, a6, a7, a8, a9, a10, a11, a12, a13, rfl⟩
  obtain ⟨y0, h0⟩ := hf 0 3 0 1 rfl czInt
  obtain ⟨y1, h1⟩ := hf 1 3 1 1 rfl czInt
  obtain ⟨y2, h2⟩ := hf 2 3 2 1 rfl czInt
  obtain ⟨y3, h3⟩ := hf 3 3 3 1 rfl czInt
  obtain ⟨y4, h4⟩ := hf 4 3 4 1 rfl czInt
  obtain ⟨y5, h5⟩ := hf 5 3 5 1 rfl czInt
  obtain ⟨y6, h6⟩ := hf 6 46 6 1 rfl czSl3
  obtain ⟨y7, h7⟩ := hf 7 32 7 1 rfl czSl6
  obtain ⟨y8, h8⟩ := hf 8 51 8 6 rfl czExpr
  obtain ⟨s0, g0, e0⟩ := rd_int Tryz.underlying3 h0
  obtain ⟨s1, g1, e1⟩ := rd_int Tryz.underlying3 h1
  obtain ⟨s2, g2, e2⟩ := rd_int Tryz.underlying3 h2
  obtain ⟨s3, g3, e3⟩ := rd_int Tryz.underlying3 h3
  obtain ⟨s4, g4, e4⟩ := rd_int Tryz.underlying3 h4
  obtain ⟨s5, g5, e5⟩ := rd_int Tryz.underlying3 h5
  obtain ⟨s6, g6, e6, e6'⟩ := rd_slice Ex.cells ExOK Tryz.underlying46 czExpr (by decide) h6 (fun m cs x _ h => rdExpr m cs x h)
  obtain ⟨s7, g7, e7, e7'⟩ := rdInts h7
  obtain ⟨s8, g8, e8⟩ := rdExpr _ _ _ h8
  refine ⟨⟨s0, s1, s2, s3, s4, s5, s6, s7, s8⟩, ?_, e0, e1, e2, e3, e4, e5, e6, e6', e7, e7', e8⟩
  rw [Ex.cells_eq] at g8
  exact g0.append (g1.append (g2.append (g3.append (g4.append (g5.append (g6.append (g7.append g8)))))))

structure Fact.ok (f : Fact) : Prop where
  person : f.person.size ≤ 9223372036854775807
  name : f.name.size ≤ 9223372036854775807
  lo : i64 f.lo
  hi : i64 f.hi
  known : i64 f.known
  value : i64 f.value
theorem rdFact (h : DataW.trod enc Tryz.prog w 0 (fun _ => true) true fuel 58 cs = some x) : ∃ d : Fact, Cs w cs d.cells ∧ Fact.ok d := by
  obtain ⟨hl, n, hn, hf⟩ := rd_field Tryz.underlying58 h
  rw [czFact] at hl
  obtain ⟨a0, a1, a2, a3, a4, a5, a6, rfl⟩ : ∃ a0 a1 a2 a3 a4 a5 a6, cs = [a0, a1, a2, a3, a4, a5, a6] := by match cs, hl with | [a0, a1, a2, a3, a4, a5, a6], _ => exact ⟨a0, a1, a2, a3, a4, a5, a6, rfl⟩
  obtain ⟨y0, h0⟩ := hf 0 9 0 1 rfl czStr
  obtain ⟨y1, h1⟩ := hf 1 9 1 1 rfl czStr
  obtain ⟨y2, h2⟩ := hf 2 3 2 1 rfl czInt
  obtain ⟨y3, h3⟩ := hf 3 3 3 1 rfl czInt
  obtain ⟨y4, h4⟩ := hf 4 3 4 1 rfl czInt
  obtain ⟨y5, h5⟩ := hf 5 3 5 1 rfl czInt
  obtain ⟨y6, h6⟩ := hf 6 4 6 1 rfl czBool
  obtain ⟨s0, g0, e0⟩ := rd_string Tryz.underlying9 h0
  obtain ⟨s1, g1, e1⟩ := rd_string Tryz.underlying9 h1
  obtain ⟨s2, g2, e2⟩ := rd_int Tryz.underlying3 h2
  obtain ⟨s3, g3, e3⟩ := rd_int Tryz.underlying3 h3
  obtain ⟨s4, g4, e4⟩ := rd_int Tryz.underlying3 h4
  obtain ⟨s5, g5, e5⟩ := rd_int Tryz.underlying3 h5
  obtain ⟨s6, g6⟩ := rd_bool Tryz.underlying4 h6
  exact ⟨⟨s0, s1, s2, s3, s4, s5, s6⟩, g0.append (g1.append (g2.append (g3.append (g4.append (g5.append g6))))), e0, e1, e2, e3, e4, e5⟩

structure Codex.ok (c : Codex) : Prop where
  facts : c.facts.length ≤ 9223372036854775807
  fact : ∀ d ∈ c.facts, Decl.ok d
  lines : c.lines.length ≤ 9223372036854775807
  line : ∀ d ∈ c.lines, Decl.ok d
  arts : c.arts.length ≤ 9223372036854775807
  art : ∀ a ∈ c.arts, Article.ok a
structure storeGo (l : List Fact) : Prop where
  len : l.length ≤ 9223372036854775807
  fact : ∀ f ∈ l, Fact.ok f
structure View.ok (v : View) : Prop where
  has : v.has.length ≤ 9223372036854775807
  value : v.value.length ≤ 9223372036854775807
  arts : v.arts.length ≤ 9223372036854775807

section
variable {v : Value} {d : DataW H} {ps : List MemPlace} {b0 : Nat} {r : Reach}
theorem openStruct {t : TypeId} {fs : Array Field} (ht : Tryz.prog.underlying t = some (.struct fs)) (hval : Value.okWide Tryz.prog w r b0 t v) : ∃ vs, v = .agg vs := by
  unfold Value.okWide at hval
  rw [ht] at hval
  obtain ⟨vs, h, _⟩ := hval
  exact ⟨vs, h⟩
theorem openInt (hval : Value.okWide Tryz.prog w r b0 3 v) (h : DataW.Trod enc Tryz.prog w 0 (fun _ => true) true 3 v d ps) : ∃ n : Int, i64 n ∧ Rep w (allI w) [] v (sI n) := by
  obtain ⟨n, rfl⟩ : ∃ n, v = .int .i64 n := by
    unfold Value.okWide at hval
    rw [Tryz.underlying3] at hval
    unfold Cell.okWide at hval
    rw [Tryz.underlying3] at hval
    cases v <;> simp [Cell.ok, Tryz.underlying3] at hval
    obtain ⟨rfl, _⟩ := hval
    exact ⟨_, rfl⟩
  obtain ⟨fuel, h⟩ := h
  obtain ⟨m, h1, h2⟩ := rd_int Tryz.underlying3 h
  exact ⟨m, h2, rep_cell rfl h1⟩
theorem openString (hval : Value.okWide Tryz.prog w r b0 9 v) (h : DataW.Trod enc Tryz.prog w 0 (fun _ => true) true 9 v d ps) : ∃ s : ByteArray, s.size ≤ 9223372036854775807 ∧ Rep w (allI w) [] v (sS s) := by
  obtain ⟨n, rfl⟩ : ∃ n, v = .string n := by
    unfold Value.okWide at hval
    rw [Tryz.underlying9] at hval
    unfold Cell.okWide at hval
    rw [Tryz.underlying9] at hval
    cases v <;> simp [Cell.ok, Tryz.underlying9] at hval
    exact ⟨_, rfl⟩
  obtain ⟨fuel, h⟩ := h
  obtain ⟨m, h1, h2⟩ := rd_string Tryz.underlying9 h
  exact ⟨m, h2, rep_cell rfl h1⟩
theorem openView (hval : Value.okWide Tryz.prog w r b0 34 v) (h : DataW.Trod enc Tryz.prog w 0 (fun _ => true) true 34 v d ps) : ∃ a : View, View.ok a ∧ i64 a.day ∧ Rep w (allI w) [] v a.sv := by
  obtain ⟨vs, rfl⟩ := openStruct Tryz.underlying34 hval
  obtain ⟨fuel, h⟩ := h
  obtain ⟨hl, n, _, hf⟩ := rd_field Tryz.underlying34 h
  rw [czView] at hl
  obtain ⟨a, b, c, e, hvs⟩ := cs4 hl
  rw [hvs] at hf
  obtain ⟨y0, h0⟩ := hf 0 3 0 1 rfl czInt
  obtain ⟨y1, h1⟩ := hf 1 31 1 1 rfl czSl7
  obtain ⟨y2, h2⟩ := hf 2 32 2 1 rfl czSl6
  obtain ⟨y3, h3⟩ := hf 3 32 3 1 rfl czSl6
  obtain ⟨s0, g0, e0⟩ := rd_int Tryz.underlying3 h0
  obtain ⟨s1, g1, e1⟩ := rdBools h1
  obtain ⟨s2, g2, e2, _⟩ := rdInts h2
  obtain ⟨s3, g3, e3, _⟩ := rdInts h3
  refine ⟨⟨s0, s1, s2, s3⟩, ⟨e1, e2, e3⟩, e0, rep_cells (ds := [dI s0, dBools s1, dInts s2, dInts s3]) rfl ?_⟩
  rw [show vs.toList = [a, b, c, e] from hvs]
  exact g0.append (g1.append (g2.append g3))
theorem openCodex (hval : Value.okWide Tryz.prog w r b0 25 v) (h : DataW.Trod enc Tryz.prog w 0 (fun _ => true) true 25 v d ps) : ∃ a : Codex, Codex.ok a ∧ Rep w (allI w) [] v a.sv := by
  obtain ⟨vs, rfl⟩ := openStruct Tryz.underlying25 hval
  obtain ⟨fuel, h⟩ := h
  obtain ⟨hl, n, _, hf⟩ := rd_field Tryz.underlying25 h
  rw [czCodex] at hl
  obtain ⟨a, b, c, hvs⟩ := cs3 hl
  rw [hvs] at hf
  obtain ⟨y0, h0⟩ := hf 0 22 0 1 rfl czSl1
  obtain ⟨y1, h1⟩ := hf 1 22 1 1 rfl czSl1
  obtain ⟨y2, h2⟩ := hf 2 23 2 1 rfl czSl4
  obtain ⟨s0, g0, e0, e0'⟩ := rd_slice Decl.cells Decl.ok Tryz.underlying22 czDecl (by decide) h0 (fun _ _ _ _ h => rdDecl h)
  obtain ⟨s1, g1, e1, e1'⟩ := rd_slice Decl.cells Decl.ok Tryz.underlying22 czDecl (by decide) h1 (fun _ _ _ _ h => rdDecl h)
  obtain ⟨s2, g2, e2, e2'⟩ := rd_slice Article.cells Article.ok Tryz.underlying23 czArt (by decide) h2 (fun _ _ _ _ h => rdArticle h)
  refine ⟨⟨s0, s1, s2⟩, ⟨e0, e0', e1, e1', e2, e2'⟩, rep_cells (ds := [dDecls s0, dDecls s1, dArts s2]) rfl ?_⟩
  rw [show vs.toList = [a, b, c] from hvs]
  exact g0.append (g1.append g2)
theorem openStore (hval : Value.okWide Tryz.prog w r b0 28 v) (h : DataW.Trod enc Tryz.prog w 0 (fun _ => true) true 28 v d ps) : ∃ a : List Fact, storeGo a ∧ Rep w (allI w) [] v (storeSV a) := by
  obtain ⟨vs, rfl⟩ := openStruct Tryz.underlying28 hval
  obtain ⟨fuel, h⟩ := h
  obtain ⟨hl, n, _, hf⟩ := rd_field Tryz.underlying28 h
  rw [czStore] at hl
  obtain ⟨a, hvs⟩ : ∃ a, vs.toList = [a] := by
    have : vs.toList.length = 1 := hl
    match vs.toList, this with | [a], _ => exact ⟨a, rfl⟩
  rw [show (Value.agg vs).cells.toList = [a] from hvs] at hf
  obtain ⟨y0, h0⟩ := hf 0 26 0 1 rfl czSl5
  obtain ⟨s0, g0, e0, e0'⟩ := rd_slice Fact.cells Fact.ok Tryz.underlying26 czFact (by decide) h0 (fun _ _ _ _ h => rdFact h)
  refine ⟨s0, ⟨e0, e0'⟩, rep_cells (ds := [dFacts s0]) rfl ?_⟩
  rw [hvs]
  exact g0
theorem openFact (hval : Value.okWide Tryz.prog w r b0 58 v) (h : DataW.Trod enc Tryz.prog w 0 (fun _ => true) true 58 v d ps) : ∃ a : Fact, Fact.ok a ∧ Rep w (allI w) [] v (.agg (a.cells.map .imm)) := by
  obtain ⟨vs, rfl⟩ := openStruct Tryz.underlying58 hval
  obtain ⟨fuel, h⟩ := h
  obtain ⟨a, h1, h2⟩ := rdFact h
  exact ⟨a, h2, rep_cells (ds := a.cells) rfl h1⟩
theorem openArticle (hval : Value.okWide Tryz.prog w r b0 53 v) (h : DataW.Trod enc Tryz.prog w 0 (fun _ => true) true 53 v d ps) : ∃ a : Article, Article.ok a ∧ Rep w (allI w) [] v (.agg (a.cells.map .imm)) := by
  obtain ⟨vs, rfl⟩ := openStruct Tryz.underlying53 hval
  obtain ⟨fuel, h⟩ := h
  obtain ⟨a, h1, h2⟩ := rdArticle h
  exact ⟨a, h2, rep_cells (ds := a.cells) rfl h1⟩
end
end
end Go.Proofs.YthmkdghoaifkbaaGreatDoor

/- What the row statements of law 13 share: the table of the calendar, a world for the witness, the types. -/
namespace Go.Proofs.YthmkdghoaifkbaaGreatDoor
open Go Go.Sh Go.ChangeShapes Go.WideShapes Go.ChangeAt Go.RowKit
set_option maxRecDepth 100000

theorem own : ownKnob Tryz.prog.godebug = none := by kernel_rfl
theorem gTab : Tryz.prog.globalNamed "wageoffice/calendar.before" = some 0 := by kernel_rfl
theorem gTabType : (Tryz.prog.globals[0]?).map (·.type) = some 105 := by kernel_rfl
theorem czTab : Tryz.prog.cellsOf 105 = 13 := by kernel_rfl
theorem kids : Kids Tryz.prog (· < Tryz.prog.types.size) := kids_rows (by kernel_rfl) (by kernel_rfl)
theorem full : ∀ t e, t < Tryz.prog.types.size → Tryz.prog.underlying t = some (.slice e) → 0 < Tryz.prog.cellsOf e := slices_full_of Tryz.prog (by kernel_rfl)

def tabNums : List Int := [0, 31, 59, 90, 120, 151, 181, 212, 243, 273, 304, 334, 365]
theorem table {W : World} (h : laidMetH Tryz.prog [("wageoffice/calendar.before", Rows.laid_wageoffice_calendar_before)] W) : Lib.TabIs Tryz.prog W "wageoffice/calendar.before" .i64 tabNums :=
  Lib.tabIs_of_head (rest := []) gTab gTabType Tryz.underlying105 Tryz.underlying3 czInt czTab h

theorem globals_ok {W : World} (h : laidMetH Tryz.prog [("wageoffice/calendar.before", Rows.laid_wageoffice_calendar_before)] W) : ∀ g d, (g, d) ∈ G0 → DRep W (allI W) (.pointer (some ⟨g, 0, none⟩)) d := by
  intro g d hg
  simp only [G0, List.mem_singleton] at hg
  cases hg
  have hc := fun i hi => (table h).cell gTab i hi
  have hb : 0 < W.heap.size := (spot_none (hc 0 (by decide))).2
  refine .row 0 0 _ 0 (fun j => .int .i64 (tabNums.getD j 0)) (fun j hj => ?_) (fun j hj => ?_)
  · have hj' : j < tabNums.length := by simpa [tabNums] using hj
    rw [Nat.zero_add]
    exact ⟨hb, hc j hj', rfl⟩
  · have hj' : j < tabNums.length := by simpa [tabNums] using hj
    have e : ([0, 31, 59, 90, 120, 151, 181, 212, 243, 273, 304, 334, 365].map dI)[j]'hj = dI (tabNums.getD j 0) := by
      simp only [List.getElem_map]
      rw [List.getD_eq_getElem?_getD, List.getElem?_eq_getElem hj']
      rfl
    rw [e]
    exact .val _

/-- A world for the witness: the settled one, with the table as its initialiser lays it. -/
noncomputable def laidWorld (os : Os) : World :=
  { World.holding Tryz.prog os ⟨#[], #[], []⟩ with heap := (World.holding Tryz.prog os ⟨#[], #[], []⟩).heap.modify 0 fun
      | .cells _ t frozen => .cells #[.int .i64 0, .int .i64 31, .int .i64 59, .int .i64 90, .int .i64 120, .int .i64 151, .int .i64 181, .int .i64 212, .int .i64 243, .int .i64 273, .int .i64 304, .int .i64 334, .int .i64 365] t frozen
      | o => o }
theorem laid_met (os : Os) (args : Array Value) : laidMet Tryz.prog [("wageoffice/calendar.before", Rows.laid_wageoffice_calendar_before)] ((laidWorld os).forCall (fun _ _ => 0) ⟨#[], args, []⟩).memory :=
  laidMet_of_run' 8 (by kernel_rfl) (by kernel_rfl)
theorem resBool : Tryz.prog.underlying 4 = some .bool := Tryz.underlying4
end Go.Proofs.YthmkdghoaifkbaaGreatDoor

/- Contracts, part Ha: sizes of expressions and codices. -/
namespace Go.Proofs.YthmkdghoaifkbaaGreatDoor
open Go Go.Sh
set_option maxRecDepth 10000
set_option maxHeartbeats 2000000
variable (G : List (Nat × D))

mutual
def exSize : Ex → Nat
  | .mk _ _ _ _ _ ks => exsSize ks + 1
def exsSize : List Ex → Nat
  | [] => 0
  | k :: r => exSize k + exsSize r
end
mutual
def exDepth : Ex → Nat
  | .mk _ _ _ _ _ ks => exsDepth ks + 1
def exsDepth : List Ex → Nat
  | [] => 0
  | k :: r => max (exDepth k) (exsDepth r)
end
theorem exSize_pos (e : Ex) : 1 ≤ exSize e := by cases e; simp [exSize]
theorem exsSize_app (a b : List Ex) : exsSize (a ++ b) = exsSize a + exsSize b := by
  induction a with
  | nil => simp [exsSize]
  | cons k a ih => simp [exsSize, ih]; omega
theorem exsSize_len (a : List Ex) : a.length ≤ exsSize a := by
  induction a with
  | nil => simp
  | cons k a ih => have := exSize_pos k; simp [exsSize]; omega
theorem exsSize_mem {a : List Ex} {k : Ex} (h : k ∈ a) : exSize k ≤ exsSize a := by
  induction a with
  | nil => cases h
  | cons x a ih =>
    rcases List.mem_cons.1 h with rfl | h
    · simp [exsSize]
    · have := ih h; simp [exsSize]; omega
theorem exsDepth_all (a : List Ex) (n : Nat) : exsDepth a ≤ n ↔ ∀ k ∈ a, exDepth k ≤ n := by
  induction a with
  | nil => simp [exsDepth]
  | cons x a ih => simp [exsDepth, Nat.max_le, ih]

def countOf (n : Nat) (L : Int) : Int := if L ≤ 0 then 0 else if (n : Int) ≤ L then n else L

theorem countOf_cases (n : Nat) (L : Int) (h : 0 < L) : ((n : Int) ≤ L ∧ countOf n L = n) ∨ (L < n ∧ countOf n L = L) := by
  simp only [countOf]
  rw [if_neg (by omega)]
  split <;> omega
theorem countOf_step (a s : Nat) (L : Int) (h0 : 0 < L) (h : countOf (a + 1) L < L) : countOf (a + 1) L + countOf s (L - countOf (a + 1) L) = countOf (a + s + 1) L ∧ countOf (a + 1) L = ((a + 1 : Nat) : Int) ∧ countOf (a + s + 1) L ≤ L ∧ 0 ≤ countOf (a + s + 1) L := by
  have h1 := countOf_cases (a + 1) L h0
  have h2 := countOf_cases s (L - countOf (a + 1) L) (by omega)
  have h3 := countOf_cases (a + s + 1) L h0
  omega

theorem count_spec (N : Nat) : ∀ (e : Ex), SizeOf.sizeOf e < N → ∀ L : Int, 0 ≤ L → L ≤ 1000000 → SPure Tryz.prog G 57 [e.sv, sI L] (sI (countOf (exSize e) L)) := by
  induction N with
  | zero => intro e h; omega
  | succ N IH =>
  intro e he L hL0 hL
  obtain ⟨op, n, u, den, ps, ks⟩ := e
  simp only [Ex.mk.sizeOf_spec] at he
  have hrows := exprRows_eq ks
  have hlen : (exprRows ks).length = ks.length := by rw [hrows]; simp
  refine spure_enter Tryz.func57 rfl (by rw [Tryz.ntmps57]; simp) rfl rfl ?_; intro E hH hK
  (refine sgo_sound [] 1000 ?_; conv => whnf)
  repeat' ((first | with_reducible refine bdec (fun h => ?_) (fun h => ?_) | with_reducible refine bndec (fun h => ?_) (fun h => ?_) | with_reducible refine bwtd (fun h => ?_) (fun h => ?_) | with_reducible refine bwfd (fun h => ?_) (fun h => ?_) | with_reducible refine bwtn (fun h => ?_) (fun h => ?_) | with_reducible refine bwfn (fun h => ?_) (fun h => ?_) | with_reducible refine bwtb (fun h => ?_) (fun h => ?_) | with_reducible refine bwfb (fun h => ?_) (fun h => ?_) | with_reducible refine bwt (fun h => ?_) (fun h => ?_) | with_reducible refine bwf (fun h => ?_) (fun h => ?_) | with_reducible refine bnt (fun h => ?_) (fun h => ?_) | with_reducible refine bcase (fun h => ?_) (fun h => ?_)) <;> (conv => whnf))
  · exact kI hK (by simp only [countOf]; rw [if_pos h])
  refine sw_keep [1, 2, 5, 6] ?_
  refine sw_loop_ind (σ := List Ex × List Ex × Int) (fun x => [(1, sI L), (2, .ptr 0 0), (5, sI x.2.2), (6, sI x.1.length)])
    (fun _ => [.cells ((Ex.mk op n u den ps ks).cells.map .imm)])
    (fun x => ks = x.1 ++ x.2.1 ∧ (x.1.length : Int) ≤ L ∧ x.2.2 = countOf (exsSize x.1 + 1) L) (fun x => x.2.1.length) ?_ ([], ks, 1) ⟨rfl, by simp; omega, by have := countOf_cases (0 + 1) L (by omega); simp only [exsSize]; omega⟩
  rintro ⟨done, rest, cnt⟩ ⟨ha, hl, hcnt⟩ ih
  dsimp only at ha hl hcnt ih ⊢
  subst hcnt
  have hl1 : done.length + rest.length = ks.length := by rw [ha]; simp
  have hsz : exsSize ks = exsSize done + exsSize rest := by rw [ha, exsSize_app]
  have hdl := exsSize_len done
  have hfin : ∀ H, (rest = [] ∨ L ≤ countOf (exsSize done + 1) L) → E.K (sI (countOf (exsSize done + 1) L)) H := fun H hc => by
    have : countOf (exSize (.mk op n u den ps ks)) L = countOf (exsSize done + 1) L := by
      simp only [exSize, hsz]
      rcases hc with rfl | hc
      · simp [exsSize]
      · revert hc
        simp only [countOf]
        split
        · intro hc; rfl
        · split <;> split <;> intros <;> omega
    rw [this] at hK
    exact hK H
  cases rest with
  | nil =>
    simp at hl1
    (refine sgo_sound [] 1000 ?_; conv => whnf)
    repeat' ((first | with_reducible refine bdec (fun h => ?_) (fun h => ?_) | with_reducible refine bndec (fun h => ?_) (fun h => ?_) | with_reducible refine bwtd (fun h => ?_) (fun h => ?_) | with_reducible refine bwfd (fun h => ?_) (fun h => ?_) | with_reducible refine bwtn (fun h => ?_) (fun h => ?_) | with_reducible refine bwfn (fun h => ?_) (fun h => ?_) | with_reducible refine bwtb (fun h => ?_) (fun h => ?_) | with_reducible refine bwfb (fun h => ?_) (fun h => ?_) | with_reducible refine bwt (fun h => ?_) (fun h => ?_) | with_reducible refine bwf (fun h => ?_) (fun h => ?_) | with_reducible refine bnt (fun h => ?_) (fun h => ?_) | with_reducible refine bcase (fun h => ?_) (fun h => ?_)) <;> (conv => whnf))
    all_goals try (exfalso; omega)
    exact hfin _ (.inl rfl)
  | cons k rest =>
    simp at hl1
    have hkm : SizeOf.sizeOf k < SizeOf.sizeOf ks := List.sizeOf_lt_of_mem (by rw [ha]; simp)
    have hrow : (exprRows ks)[((done.length : Nat) : Int).toNat]? = some k.cells := by rw [hrows]; simp [ha]
    have hcc : 0 < L → 1 ≤ countOf (exsSize done + 1) L ∧ countOf (exsSize done + 1) L ≤ L := fun h0 => by
      simp only [countOf]
      split
      · omega
      · split <;> omega
    (refine sgo_sound [] 1000 ?_; conv => whnf)
    repeat' ((first | with_reducible refine bdec (fun h => ?_) (fun h => ?_) | with_reducible refine bndec (fun h => ?_) (fun h => ?_) | with_reducible refine bwtd (fun h => ?_) (fun h => ?_) | with_reducible refine bwfd (fun h => ?_) (fun h => ?_) | with_reducible refine bwtn (fun h => ?_) (fun h => ?_) | with_reducible refine bwfn (fun h => ?_) (fun h => ?_) | with_reducible refine bwtb (fun h => ?_) (fun h => ?_) | with_reducible refine bwfb (fun h => ?_) (fun h => ?_) | with_reducible refine bwt (fun h => ?_) (fun h => ?_) | with_reducible refine bwf (fun h => ?_) (fun h => ?_) | with_reducible refine bnt (fun h => ?_) (fun h => ?_) | with_reducible refine bcase (fun h => ?_) (fun h => ?_)) <;> (conv => whnf))
    all_goals try (exfalso; omega)
    · have h3 := hcc (by omega)
      have hw1 : IntKind.i64.wrap (L - countOf (exsSize done + 1) L) = L - countOf (exsSize done + 1) L := wrap64 (by omega) (by omega)
      have hw : IntKind.i64.wrap ((done.length : Int) + 1) = (((done ++ [k]).length : Nat) : Int) := by rw [wrap64 (by omega) (by omega)]; simp
      obtain ⟨o1, n1, u1, d1, p1, q1⟩ := k
      refine swr_index rfl rfl rfl rfl rfl rfl rfl rfl  (row := (Ex.mk o1 n1 u1 d1 p1 q1).cells) hrow ?_
      (refine sgor_sound [] 1000 ?_; conv => whnf)
      rw [hw1]
      refine swr_pure rfl rfl rfl rfl rfl rfl  (IH (.mk o1 n1 u1 d1 p1 q1) (by omega) (L - countOf (exsSize done + 1) L) (by omega) (by omega)) ?_
      (refine sgor_sound [] 1000 ?_; conv => whnf)
      have hst := countOf_step (exsSize done) (exSize (.mk o1 n1 u1 d1 p1 q1)) L (by omega) (by assumption)
      have e1 : exsSize (done ++ [Ex.mk o1 n1 u1 d1 p1 q1]) = exsSize done + exSize (.mk o1 n1 u1 d1 p1 q1) := by rw [exsSize_app]; simp [exsSize]
      have hsum : IntKind.i64.wrap (countOf (exsSize done + 1) L + countOf (exSize (.mk o1 n1 u1 d1 p1 q1)) (L - countOf (exsSize done + 1) L)) = countOf (exsSize (done ++ [.mk o1 n1 u1 d1 p1 q1]) + 1) L := by
        rw [hst.1, e1, wrap64 (by omega) (by omega)]
      rw [hsum, hw]
      refine sw_kc [1, 2, 5, 6] 1 (by simp [hH]) (by simp) rfl rfl (ih (done ++ [Ex.mk o1 n1 u1 d1 p1 q1], rest, countOf (exsSize (done ++ [Ex.mk o1 n1 u1 d1 p1 q1]) + 1) L) ⟨by simp [ha], ?_, rfl⟩ (by simp))
      have h9 := hst.2.1
      simp
      omega
    · exact hfin _ (.inr (by omega))

theorem small_spec (e : Ex) (L : Int) (h0 : 0 ≤ L) (h1 : L ≤ 999999) : SPure Tryz.prog G 42 [e.sv, sI L] (sB (decide ((exSize e : Int) ≤ L))) := by
  have hc := count_spec G (SizeOf.sizeOf e + 1) e (by omega) (L + 1) (by omega) (by omega)
  obtain ⟨op, n, u, den, ps, ks⟩ := e
  refine spure_enter Tryz.func42 rfl (by rw [Tryz.ntmps42]; simp) rfl rfl ?_; intro E hH hK
  have hw : IntKind.i64.wrap (L + 1) = L + 1 := wrap64 (by omega) (by omega)
  (refine sgo_sound [] 1000 ?_; conv => whnf)
  rw [hw]
  refine swr_pure rfl rfl rfl rfl rfl rfl  hc ?_
  (refine sgor_sound [] 1000 ?_; conv => whnf)
  exact kB hK (decide_eq_decide.2 (by
    simp only [countOf]
    rw [if_neg (by omega)]
    split <;> omega))

theorem flat_spec (N : Nat) : ∀ (e : Ex), SizeOf.sizeOf e < N → exSize e ≤ 1000 → ∀ L : Int, 0 ≤ L → L ≤ 1000000 → SPure Tryz.prog G 81 [e.sv, sI L] (sB (decide ((exDepth e : Int) ≤ L))) := by
  induction N with
  | zero => intro e h; omega
  | succ N IH =>
  intro e he hs L hL0 hL
  obtain ⟨op, n, u, den, ps, ks⟩ := e
  simp only [Ex.mk.sizeOf_spec] at he
  simp only [exSize] at hs
  have hrows := exprRows_eq ks
  have hlen : (exprRows ks).length = ks.length := by rw [hrows]; simp
  have hkl := exsSize_len ks
  refine spure_enter Tryz.func81 rfl (by rw [Tryz.ntmps81]; simp) rfl rfl ?_; intro E hH hK
  (refine sgo_sound [] 1000 ?_; conv => whnf)
  repeat' ((first | with_reducible refine bdec (fun h => ?_) (fun h => ?_) | with_reducible refine bndec (fun h => ?_) (fun h => ?_) | with_reducible refine bwtd (fun h => ?_) (fun h => ?_) | with_reducible refine bwfd (fun h => ?_) (fun h => ?_) | with_reducible refine bwtn (fun h => ?_) (fun h => ?_) | with_reducible refine bwfn (fun h => ?_) (fun h => ?_) | with_reducible refine bwtb (fun h => ?_) (fun h => ?_) | with_reducible refine bwfb (fun h => ?_) (fun h => ?_) | with_reducible refine bwt (fun h => ?_) (fun h => ?_) | with_reducible refine bwf (fun h => ?_) (fun h => ?_) | with_reducible refine bnt (fun h => ?_) (fun h => ?_) | with_reducible refine bcase (fun h => ?_) (fun h => ?_)) <;> (conv => whnf))
  · exact kB hK (decide_eq_false (by simp only [exDepth]; omega))
  have hw1 : IntKind.i64.wrap (L - 1) = L - 1 := wrap64 (by omega) (by omega)
  refine sw_keep [1, 2, 5] ?_
  refine sw_each ks (fun i (_ : Unit) => [(1, sI L), (2, .ptr 0 0), (5, sI i)]) (fun _ _ => [.cells ((Ex.mk op n u den ps ks).cells.map .imm)])
    (fun done _ _ => exsDepth done ≤ (L - 1).toNat) () (by simp [exsDepth]) ?_ ?_
  · rintro _ h1
    (refine sgo_sound [] 1000 ?_; conv => whnf)
    repeat' ((first | with_reducible refine bdec (fun h => ?_) (fun h => ?_) | with_reducible refine bndec (fun h => ?_) (fun h => ?_) | with_reducible refine bwtd (fun h => ?_) (fun h => ?_) | with_reducible refine bwfd (fun h => ?_) (fun h => ?_) | with_reducible refine bwtn (fun h => ?_) (fun h => ?_) | with_reducible refine bwfn (fun h => ?_) (fun h => ?_) | with_reducible refine bwtb (fun h => ?_) (fun h => ?_) | with_reducible refine bwfb (fun h => ?_) (fun h => ?_) | with_reducible refine bwt (fun h => ?_) (fun h => ?_) | with_reducible refine bwf (fun h => ?_) (fun h => ?_) | with_reducible refine bnt (fun h => ?_) (fun h => ?_) | with_reducible refine bcase (fun h => ?_) (fun h => ?_)) <;> (conv => whnf))
    all_goals try (exfalso; omega)
    exact kB hK (decide_eq_true (by simp only [exDepth]; omega))
  · rintro done k rest _ ha hl h1 ih
    have hkm : SizeOf.sizeOf k < SizeOf.sizeOf ks := List.sizeOf_lt_of_mem (by rw [ha]; simp)
    have hks : exSize k ≤ exsSize ks := exsSize_mem (by rw [ha]; simp)
    have hw := wrap_succ (n := done.length) (by omega)
    have hrow : (exprRows ks)[((done.length : Nat) : Int).toNat]? = some k.cells := by rw [hrows]; simp [ha]
    have hcall := IH k (by omega) (by omega) (L - 1) (by omega) (by omega)
    have hbad : ¬ ((exDepth k : Int) ≤ L - 1) → decide ((exDepth (.mk op n u den ps ks) : Int) ≤ L) = false := fun hb => by
      refine decide_eq_false ?_
      simp only [exDepth]
      intro hc
      have := (exsDepth_all ks (L - 1).toNat).1 (by omega) k (by rw [ha]; simp)
      omega
    have hgood : (exDepth k : Int) ≤ L - 1 → exsDepth (done ++ [k]) ≤ (L - 1).toNat := fun hb => by
      rw [exsDepth_all] at h1 ⊢
      intro x hx
      rcases List.mem_append.1 hx with hx | hx
      · exact h1 x hx
      · simp at hx; subst hx; omega
    obtain ⟨o1, n1, u1, d1, p1, q1⟩ := k
    (refine sgo_sound [] 1000 ?_; conv => whnf)
    repeat' ((first | with_reducible refine bdec (fun h => ?_) (fun h => ?_) | with_reducible refine bndec (fun h => ?_) (fun h => ?_) | with_reducible refine bwtd (fun h => ?_) (fun h => ?_) | with_reducible refine bwfd (fun h => ?_) (fun h => ?_) | with_reducible refine bwtn (fun h => ?_) (fun h => ?_) | with_reducible refine bwfn (fun h => ?_) (fun h => ?_) | with_reducible refine bwtb (fun h => ?_) (fun h => ?_) | with_reducible refine bwfb (fun h => ?_) (fun h => ?_) | with_reducible refine bwt (fun h => ?_) (fun h => ?_) | with_reducible refine bwf (fun h => ?_) (fun h => ?_) | with_reducible refine bnt (fun h => ?_) (fun h => ?_) | with_reducible refine bcase (fun h => ?_) (fun h => ?_)) <;> (conv => whnf))
    all_goals try (exfalso; omega)
    refine swr_index rfl rfl rfl rfl rfl rfl rfl rfl  (row := (Ex.mk o1 n1 u1 d1 p1 q1).cells) hrow ?_
    (refine sgor_sound [] 1000 ?_; conv => whnf)
    rw [hw1]
    refine swr_pure rfl rfl rfl rfl rfl rfl  hcall ?_
    (refine sgor_sound [] 1000 ?_; conv => whnf)
    repeat' ((first | with_reducible refine bdec (fun h => ?_) (fun h => ?_) | with_reducible refine bndec (fun h => ?_) (fun h => ?_) | with_reducible refine bwtd (fun h => ?_) (fun h => ?_) | with_reducible refine bwfd (fun h => ?_) (fun h => ?_) | with_reducible refine bwtn (fun h => ?_) (fun h => ?_) | with_reducible refine bwfn (fun h => ?_) (fun h => ?_) | with_reducible refine bwtb (fun h => ?_) (fun h => ?_) | with_reducible refine bwfb (fun h => ?_) (fun h => ?_) | with_reducible refine bwt (fun h => ?_) (fun h => ?_) | with_reducible refine bwf (fun h => ?_) (fun h => ?_) | with_reducible refine bnt (fun h => ?_) (fun h => ?_) | with_reducible refine bcase (fun h => ?_) (fun h => ?_)) <;> (conv => whnf))
    · exact kB hK (hbad h)
    · rw [hw]
      exact sw_kc [1, 2, 5] 1 (by simp [hH]) (by simp) rfl rfl (ih () (hgood h))

def withinOK (e : Ex) : Bool := decide (exSize e ≤ 400) && decide (exDepth e ≤ 40)
theorem within10_spec (e : Ex) : SPure Tryz.prog G 64 [e.sv] (sB (withinOK e)) := by
  have hs := small_spec G e 400 (by omega) (by omega)
  have hf := fun h => flat_spec G (SizeOf.sizeOf e + 1) e (by omega) h 40 (by omega) (by omega)
  have hw : withinOK e = (decide ((exSize e : Int) ≤ 400) && decide ((exDepth e : Int) ≤ 40)) := by
    simp only [withinOK]
    congr 1
    · exact decide_eq_decide.2 (by omega)
    · exact decide_eq_decide.2 (by omega)
  rw [hw]
  obtain ⟨op, n, u, den, ps, ks⟩ := e
  refine spure_enter Tryz.func64 rfl (by rw [Tryz.ntmps64]; simp) rfl rfl ?_; intro E hH hK
  (refine sgo_sound [] 1000 ?_; conv => whnf)
  refine swr_pure rfl rfl rfl rfl rfl rfl  hs ?_
  (refine sgor_sound [] 1000 ?_; conv => whnf)
  repeat' ((first | with_reducible refine bdec (fun h => ?_) (fun h => ?_) | with_reducible refine bndec (fun h => ?_) (fun h => ?_) | with_reducible refine bwtd (fun h => ?_) (fun h => ?_) | with_reducible refine bwfd (fun h => ?_) (fun h => ?_) | with_reducible refine bwtn (fun h => ?_) (fun h => ?_) | with_reducible refine bwfn (fun h => ?_) (fun h => ?_) | with_reducible refine bwtb (fun h => ?_) (fun h => ?_) | with_reducible refine bwfb (fun h => ?_) (fun h => ?_) | with_reducible refine bwt (fun h => ?_) (fun h => ?_) | with_reducible refine bwf (fun h => ?_) (fun h => ?_) | with_reducible refine bnt (fun h => ?_) (fun h => ?_) | with_reducible refine bcase (fun h => ?_) (fun h => ?_)) <;> (conv => whnf))
  · refine swr_pure rfl rfl rfl rfl rfl rfl  (hf (by omega)) ?_
    (refine sgor_sound [] 1000 ?_; conv => whnf)
    exact kB hK (by simp only [decide_eq_true h, Bool.true_and])
  · exact kB hK (by simp only [decide_eq_false h, Bool.false_and])
end Go.Proofs.YthmkdghoaifkbaaGreatDoor
