/- Contracts of functions of the program, joined from TSh29, TSh30, TSh31, TDat, TLa, TFa, TFb, TFc, TFd, TFe, TFf, TFg, TFh, TFi, TFj, TLc, TFk, TFl, TFm, TFn, TFo, TShelf, TFp, TFq, TFr, TFs, TFt, TFu, TFv, TFw, THa, TIa, TIb, TIc, TId, TKd, TSh32, TSh33, TSh45, TSh34, TSh35, TSh37: no condition. -/
import Derived.Test.YtblpjknmhajcgaaGreatDoorJ2
import Derived.ChangeArms
import Derived.ReadAgain
import Derived.RowKit2
import Derived.Test.YtblpjknmhajcgaaGreatDoorProg
import Derived.Test.YtblpjknmhajcgaaGreatDoorRows
import Derived.WalkKit
import Derived.ProofKit
import Derived.OpenShut
import Derived.Deep.DeepHandedRow
import Derived.Lib.LaidTab
import Derived.Shelf.Small.Bits
import Derived.Shelf.Small.Wraps
import Derived.Shelf.Strconv.Itoa0
import Derived.Shelf.Sort.Plain
import Derived.Shelf.Slices.Turned
import Derived.Ground.Names2Prog
import Derived.Shelf.Slices.Clone
import Derived.Shelf.Slices.CompactI
import Derived.Shelf.Slices.SearchI
import Derived.Shelf.Slices.Cells
import Derived.Shelf.Slices.In.SortNone
import Derived.Sort.OwnSortedInts
import Derived.Lib.SlicesCompact
import Derived.Maps.RangeRun
set_option linter.unusedSimpArgs false
set_option linter.unusedVariables false
/- The shadow machine, part 29: data seen as other data. -/
namespace Go.Sh

/-- Whatever is a d is a d'. -/
def D.Is (d d' : D) : Prop := ∀ w I v, DRep w I v d → DRep w I v d'
theorem D.Is.refl (d : D) : d.Is d := fun _ _ _ h => h
theorem D.Is.nil (k : Nat) : (D.val (.slice none 0 0)).Is (.isl k []) := fun w I v h => by
  cases h with | val _ => exact .islNil k

inductive DIs : List D → List D → Prop
  | nil : DIs [] []
  | cons {s s' : D} {l l' : List D} : s.Is s' → DIs l l' → DIs (s :: l) (s' :: l')
inductive DIss : List (List D) → List (List D) → Prop
  | nil : DIss [] []
  | cons {s s' : List D} {l l' : List (List D)} : DIs s s' → DIss l l' → DIss (s :: l) (s' :: l')
theorem DIs.len {l l' : List D} (h : DIs l l') : l.length = l'.length := by
  induction h with
  | nil => rfl
  | cons _ _ ih => simp [ih]
theorem DIs.get {l l' : List D} (h : DIs l l') : ∀ j (h1 : j < l.length) (h2 : j < l'.length), (l[j]'h1).Is (l'[j]'h2) := by
  induction h with
  | nil => intro j h1; simp at h1
  | cons h0 _ ih =>
    intro j h1 h2
    cases j with
    | zero => exact h0
    | succ j => exact ih j (by simpa using h1) (by simpa using h2)
theorem DIss.len {l l' : List (List D)} (h : DIss l l') : l.length = l'.length := by
  induction h with
  | nil => rfl
  | cons _ _ ih => simp [ih]
theorem DIss.get {l l' : List (List D)} (h : DIss l l') : ∀ j (h1 : j < l.length) (h2 : j < l'.length), DIs (l[j]'h1) (l'[j]'h2) := by
  induction h with
  | nil => intro j h1; simp at h1
  | cons h0 _ ih =>
    intro j h1 h2
    cases j with
    | zero => exact h0
    | succ j => exact ih j (by simpa using h1) (by simpa using h2)
theorem DIss.isl {k : Nat} {rows rows' : List (List D)} (h : DIss rows rows') : (D.isl k rows).Is (.isl k rows') := fun w I v hr => by
  cases hr with
  | islNil => cases h; exact .islNil k
  | islEmpty a => cases h; exact .islEmpty a k
  | isl b o cap _ _ V h1 h2 h3 h4 h5 =>
    have hl := h.len
    rw [hl]
    refine .isl b o cap k rows' V (by rw [← hl]; exact h1) h2 (fun i hi => ?_) (fun i j hi hj => h4 i j (by rw [hl]; exact hi) hj) (fun i j hi hj => ?_)
    · rw [← (h.get i (by rw [hl]; exact hi) hi).len]; exact h3 i (by rw [hl]; exact hi)
    · have hg := h.get i (by rw [hl]; exact hi) hi
      exact hg.get j (by rw [hg.len]; exact hj) hj w I _ (h5 i j (by rw [hl]; exact hi) (by rw [hg.len]; exact hj))
theorem D.Is.imm {d d' : D} (h : d.Is d') : (SV.imm d).Is (.imm d') := fun w I β v hr => by
  cases hr with | imm hr => exact .imm (h w I v hr)
end Go.Sh

/- The shadow machine, part 30: structs of two numbers compared. -/
namespace Go.Sh
section
variable {P : Program} {w : World}

theorem run_prog : Sem.run P (Sem.program Sem.pure) w = .ok P w := rfl
theorem run_equalIn_int {d : Nat} {t : TypeId} {k k' : IntKind} {a b : Int} (hu : P.underlying t = some (.int k)) : (Op.equalIn (d + 1) t (.int k' a) (.int k' b)).run P w = .ok (decide (a = b)) w := by
  simp only [Op.equalIn, Sem.run_bind, run_underlying hu, Result.andThen_ok, if_true, Sem.run_pure]
  congr 1
theorem run_part_int {t : TypeId} {k : IntKind} {cs : Array Value} {off : Nat} {v : Value} (hu : P.underlying t = some (.int k)) (hv : cs[off]? = some v) : (part t cs off).run P w = .ok v w := by
  simp only [part, isAgg, Sem.run_bind, run_underlying hu, Result.andThen_ok, Sem.run_pure, hv]
  rfl

end
section
variable {P : Program} {G : List (Nat × D)} {fn : Func} {rd : Bool} {E : En P G fn rd} {t : List (Nat × SV)} {H : List SObj} {k : List Item}
variable {all : Array Oper} {o : Oper} {rest : List Oper}

end
end Go.Sh

/- The shadow machine, part 31: from the reading of arguments to data, and from a contract to what a row asks. -/
namespace Go.Sh
open Go.ChangeShapes

/-- All cells of a world. -/
def allI (w : World) : Imm := fun c _ => c < w.heap.size

/-- Cells that hold these data. -/
inductive Cs (w : World) : List Value → List D → Prop
  | nil : Cs w [] []
  | cons {v : Value} {d : D} {vs : List Value} {ds : List D} : DRep w (allI w) v d → v.oneCell' = true → Cs w vs ds → Cs w (v :: vs) (d :: ds)

section
variable {H : Type} {enc : TypeId × Value → H} {P : Program} {w : World} {fuel : Nat} {t : TypeId} {cs : List Value} {x : DataW H × List MemPlace}

theorem Cs.len {vs : List Value} {ds : List D} (h : Cs w vs ds) : vs.length = ds.length := by
  induction h with
  | nil => rfl
  | cons _ _ _ ih => simp [ih]
theorem Cs.append {vs vs' : List Value} {ds ds' : List D} (h : Cs w vs ds) (h' : Cs w vs' ds') : Cs w (vs ++ vs') (ds ++ ds') := by
  induction h with
  | nil => exact h'
  | cons h1 h2 _ ih => exact .cons h1 h2 ih
theorem Cs.get {vs : List Value} {ds : List D} (h : Cs w vs ds) : ∀ j (h1 : j < vs.length) (h2 : j < ds.length), DRep w (allI w) (vs[j]'h1) (ds[j]'h2) ∧ (vs[j]'h1).oneCell' = true := by
  induction h with
  | nil => intro j h1; simp at h1
  | cons h0 h0' _ ih =>
    intro j h1 h2
    cases j with
    | zero => exact ⟨h0, h0'⟩
    | succ j => exact ih j (by simpa using h1) (by simpa using h2)

theorem rd_int (ht : P.underlying t = some (.int .i64)) (h : DataW.trod enc P w 0 (fun _ => true) true fuel t cs = some x) : ∃ n : Int, Cs w cs [.val (.int .i64 n)] ∧ -9223372036854775808 ≤ n ∧ n ≤ 9223372036854775807 := by
  obtain ⟨n, rfl, _, hw⟩ := DataW.trod_int ht h
  simp only [Lit.wf, Bool.and_eq_true, decide_eq_true_eq] at hw
  have e1 : IntKind.i64.min = -9223372036854775808 := by decide
  have e2 : IntKind.i64.max = 9223372036854775807 := by decide
  exact ⟨n, .cons (.val _) rfl .nil, by omega, by omega⟩
theorem rd_string (ht : P.underlying t = some .string) (h : DataW.trod enc P w 0 (fun _ => true) true fuel t cs = some x) : ∃ s : ByteArray, Cs w cs [.val (.string s)] ∧ s.size ≤ 9223372036854775807 := by
  obtain ⟨s, rfl, _, hs⟩ := DataW.trod_string ht h
  exact ⟨s, .cons (.val _) rfl .nil, by simpa [maxLen] using hs⟩

theorem cells_some {a : Addr} {n : Nat} (h : w.cells? 0 a n = some cs) : cs.length = n ∧ ∀ j, j < n → w.cell? (a.add j) = cs[j]? := by
  unfold World.cells? at h
  rw [if_pos (Nat.zero_le _)] at h
  have hl := mapM_some_length h
  simp at hl
  exact ⟨hl, fun j hj => mapM_some_get h j j (by simp [hj])⟩

theorem spot_none {a : Addr} {v : Value} (h : w.cell? a = some v) : a.spot = none ∧ a.block < w.heap.size := by
  unfold World.cell? at h
  split at h
  · rename_i c T fr hb
    split at h
    · cases h
    · rename_i hs
      exact ⟨by simpa using hs, heap_lt hb⟩
  · cases h

theorem rd_slice {e : TypeId} {k : Nat} {α : Type} (f : α → List D) (Q : α → Prop) (ht : P.underlying t = some (.slice e)) (hk : P.cellsOf e = k) (hk1 : 1 ≤ k) (h : DataW.trod enc P w 0 (fun _ => true) true fuel t cs = some x)
    (hE : ∀ n cs x, n < fuel → DataW.trod enc P w 0 (fun _ => true) true n e cs = some x → ∃ a, Cs w cs (f a) ∧ Q a) :
    ∃ l : List α, Cs w cs [.isl k (l.map f)] ∧ l.length ≤ 9223372036854775807 ∧ ∀ a ∈ l, Q a := by
  rcases DataW.trod_slice ht h with ⟨rfl, _⟩ | ⟨a, len, cap, elems, rest, n, rfl, rfl, _, _, hlc, hcap, hel, he, hr, _⟩
  · exact ⟨[], .cons (.islNil k) rfl .nil, by simp, by simp⟩
  · subst hk
    have hcap' : cap ≤ 9223372036854775807 := by simpa [maxLen] using hcap
    rcases Nat.eq_zero_or_pos cap with h0 | h0
    · subst h0
      have : len = 0 := by omega
      subst this
      exact ⟨[], .cons (.islEmpty a _) rfl .nil, by simp, by simp⟩
    · obtain ⟨hr1, hr2⟩ := hr rfl
      have hsp : a.spot = none ∧ a.block < w.heap.size := by
        have hz : ∃ y, (w.cells? 0 (a.add 0) (P.cellsOf e)).bind (DataW.trod enc P w 0 (fun _ => true) true n e) = some y := by
          rcases Nat.eq_zero_or_pos len with hl | hl
          · have := hr2 0 (by omega)
            rw [hl, Nat.zero_add, Nat.zero_mul, List.getElem?_eq_getElem (by omega)] at this
            exact ⟨_, this⟩
          · have := he 0 hl
            rw [Nat.zero_mul, List.getElem?_eq_getElem (by omega)] at this
            exact ⟨_, this⟩
        obtain ⟨y, hy⟩ := hz
        obtain ⟨c, hc, _⟩ := Option.bind_eq_some_iff.1 hy
        obtain ⟨h1, h2⟩ := cells_some hc
        have h3 := h2 0 (by omega)
        rw [List.getElem?_eq_getElem (by omega)] at h3
        have := spot_none h3
        simpa [Addr.add] using this
      obtain ⟨b, o, sp⟩ := a
      obtain ⟨rfl, hblk⟩ := hsp
      simp only at hblk
      have hrow : ∀ i, i < len → ∃ (y : α) (c : List Value), c.length = P.cellsOf e ∧ (∀ j, j < P.cellsOf e → w.cell? ⟨b, o + i * P.cellsOf e + j, none⟩ = c[j]?) ∧ Cs w c (f y) ∧ Q y := by
        intro i hi
        have h1 := he i hi
        rw [List.getElem?_eq_getElem (by omega)] at h1
        obtain ⟨c, hc, hy⟩ := Option.bind_eq_some_iff.1 h1
        obtain ⟨h2, h3⟩ := cells_some hc
        obtain ⟨y, hy1, hy2⟩ := hE n c _ (by omega) hy
        refine ⟨y, c, h2, fun j hj => ?_, hy1, hy2⟩
        have := h3 j hj
        rwa [addr_add, addr_add] at this
      obtain ⟨g, hg⟩ : ∃ g : (i : Nat) → i < len → α, ∀ i hi, ∃ c : List Value, c.length = P.cellsOf e ∧ (∀ j, j < P.cellsOf e → w.cell? ⟨b, o + i * P.cellsOf e + j, none⟩ = c[j]?) ∧ Cs w c (f (g i hi)) ∧ Q (g i hi) :=
        ⟨fun i hi => Classical.choose (hrow i hi), fun i hi => Classical.choose_spec (hrow i hi)⟩
      obtain ⟨c, hc⟩ : ∃ c : (i : Nat) → i < len → List Value, ∀ i hi, (c i hi).length = P.cellsOf e ∧ (∀ j, j < P.cellsOf e → w.cell? ⟨b, o + i * P.cellsOf e + j, none⟩ = (c i hi)[j]?) ∧ Cs w (c i hi) (f (g i hi)) ∧ Q (g i hi) :=
        ⟨fun i hi => Classical.choose (hg i hi), fun i hi => Classical.choose_spec (hg i hi)⟩
      have hc1 := fun i hi => (hc i hi).1
      have hc2 := fun i hi => (hc i hi).2.1
      have hc3 := fun i hi => (hc i hi).2.2.1
      have hc4 := fun i hi => (hc i hi).2.2.2
      refine ⟨List.ofFn fun i : Fin len => g i.1 i.2, .cons ?_ rfl .nil, by simp; omega, ?_⟩
      · have hlen : ((List.ofFn fun i : Fin len => g i.1 i.2).map f).length = len := by simp
        have := DRep.isl (w := w) (I := allI w) b o cap (P.cellsOf e) ((List.ofFn fun i : Fin len => g i.1 i.2).map f) (fun i j => if h : i < len then ((c i h)[j]?).getD undef else undef) (by omega) hcap
          (fun i hi => by
            have hi' : i < len := by omega
            simp only [List.getElem_map, List.getElem_ofFn]
            rw [← (hc3 i hi').len, hc1])
          (fun i j hi hj => by
            have hi' : i < len := by omega
            have hj' : j < (c i hi').length := by rw [hc1]; exact hj
            have hg := (hc3 i hi').get j hj' (by rw [← (hc3 i hi').len]; exact hj')
            rw [dif_pos hi', List.getElem?_eq_getElem hj']
            exact ⟨hblk, by rw [hc2 i hi' j hj, List.getElem?_eq_getElem hj']; rfl, hg.2⟩)
          (fun i j hi hj => by
            have hi' : i < len := by omega
            simp only [List.getElem_map, List.getElem_ofFn] at hj ⊢
            have hj' : j < (c i hi').length := by rw [(hc3 i hi').len]; exact hj
            rw [dif_pos hi', List.getElem?_eq_getElem hj']
            exact ((hc3 i hi').get j hj' hj).1)
        rw [hlen] at this
        exact this
      · intro y hy
        obtain ⟨i, rfl⟩ := List.mem_ofFn.1 hy
        exact hc4 _ _

/-! ### the values of parameters -/
theorem rep_cells {v : Value} {ds : List D} {vs : Array Value} (hv : v = .agg vs) (h : Cs w vs.toList ds) : Rep w (allI w) [] v (.agg (ds.map .imm)) := by
  subst hv
  have hl := h.len
  simp at hl
  refine .agg vs _ (by simp [hl]) (fun j h1 h2 => ?_)
  simp only [List.getElem_map]
  exact .imm (h.get j (by simpa using h2) (by simpa using h1)).1
/-- What was there is there, as it was. -/
structure Old (W W' : World) : Prop where
  env : SameEnv W W'
  size : W.heap.size ≤ W'.heap.size
  old : ∀ c, c < W.heap.size → W'.heap[c]? = W.heap[c]?

theorem calls_of {G : List (Nat × D)} {f : FuncId} {ss : List SV} {b : Bool} {args : Array Value} (hS : SPure P G f ss (.imm (.val (.bool b)))) (hargs : Reps w (allI w) [] args.toList ss)
    (hG : ∀ g d, (g, d) ∈ G → DRep w (allI w) (.pointer (some ⟨g, 0, none⟩)) d) : Calls P f args w fun e w' => e = .returned (.bool b) ∧ Old w w' := by
  refine (hS [] w (allI w) [] args ⟨rfl, fun b o x h => by simp at h, fun b b' c h => absurd h (not_owns_nil b c), fun c o h => h, hG⟩ hargs).mono ?_
  rintro e w' ⟨v, r, I', β', H', rfl, ⟨rfl, rfl⟩, h1, h2, h3⟩
  refine ⟨?_, h3.env, h3.size, fun c hc => h3.old c hc (fun b => not_owns_nil b c)⟩
  cases h1 with | imm h1 => cases h1 with | val _ => rfl

theorem Old.same {W W' : World} (h : Old W W') {p : MemPlace} (hp : p.block < W.heap.size) : W.sameAt W' p := by
  cases p with
  | cell b o => exact cell_congr (h.old b hp) o
  | map b => exact h.old b hp

theorem Old.keptBut {W W' : World} (h : Old W W') (may : MemPlace → Prop) : W.keptBut W' may := by
  refine ⟨h.env.1, h.env.2, fun i hi => ?_⟩
  rw [h.old i hi]
  cases W.heap[i]? with
  | none => rfl
  | some o =>
    cases o with
    | cells c T fr => exact ⟨rfl, rfl, rfl, fun _ _ => rfl⟩
    | map es clock => exact .inr ⟨rfl, rfl⟩
    | _ => rfl

theorem trodAll_old {W W' : World} (h : Old W W') {sp : Nat → Bool} : ∀ {ts : List TypeId} {vs : List Value} {ds : List (DataW H)} {ps : List MemPlace}, DataW.TrodAll enc P W 0 sp true ts vs ds ps → (∀ p ∈ ps, p.block < W.heap.size) → DataW.TrodAll enc P W' 0 sp true ts vs ds ps
  | [], [], [], _, h1, _ => h1
  | _ :: _, _ :: _, _ :: _, _, ⟨p, q, ⟨n, h1⟩, h2, e⟩, hp =>
    ⟨p, q, ⟨n, DataW.trod_carry n _ _ _ h1 (fun x hx => h.same (hp x (by rw [e]; exact List.mem_append_left _ hx)))⟩, trodAll_old h h2 (fun x hx => hp x (by rw [e]; exact List.mem_append_right _ hx)), e⟩

/-- A function that returns one truth value and leaves all as it was, with no variable read: what the row asks. -/
theorem post_of_old {f : Func} {s : ChangeSpec} {apart fresh handsOn again : Bool} {W W' : World} {args : Array Value} {v : Value} {ds gs : List (DataW H)} {before : List MemPlace} {tb : TypeId} {b : Bool}
    (hW : DataW.Whole enc P f.params.toList s.vars apart W args.toList ds gs before) (hvars : s.vars = []) (hs : (s.fn H (ds ++ gs)).results = [.lit (.bool b)]) (hs1 : (s.fn H (ds ++ gs)).args = ds) (hs2 : (s.fn H (ds ++ gs)).vars = [])
    (ho : Old W W') (hr : f.resultTypes = #[tb]) (htb : P.underlying tb = some .bool) (hv : v = .bool b)
    (K : Kids P (· < P.types.size)) (full : ∀ t e, t < P.types.size → P.underlying t = some (.slice e) → 0 < P.cellsOf e) (hts : ∀ t ∈ f.params.toList, t < P.types.size) :
    s.post enc P f apart fresh handsOn again W args v W' := by
  subst hv
  have hlt : ∀ p ∈ before, p.block < W.heap.size := fun p hp => hW.lt p hp
  have hold : ∀ p ∈ before, (fun b => decide (b < W.heap.size)) p.block = true := fun p hp => by simpa using hlt p hp
  have hW0 := hW
  obtain ⟨p, q, hA, hV, hpq, hz, hn⟩ := hW
  rw [hvars] at hV
  obtain ⟨rfl, rfl⟩ : gs = [] ∧ q = [] := by
    cases gs with
    | nil => exact ⟨rfl, hV⟩
    | cons => exact hV.elim
  have hbp : before = p := by simpa using hpq
  subst hbp
  have hA' := trodAll_old ho hA hlt
  have hargs : ∀ sp : Nat → Bool, (∀ x ∈ before, sp x.block = true) → DataW.TrodAll enc P W' 0 sp true f.params.toList args.toList (s.fn H (ds ++ [])).args before := fun sp hsp => by
    rw [hs1]; exact DataW.TrodAll.respare K full hts hA' hsp
  have hres : ∀ (bb : Nat) (sp : Nat → Bool) (hd : Bool), DataW.TrodAll enc P W' bb sp hd f.resultTypes.toList ((Value.bool b).resultList f.resultTypes.size) (s.fn H (ds ++ [])).results [] := fun bb sp hd => by
    rw [hs, hr]
    exact ⟨[], [], ⟨1, by simp [DataW.trod, Value.cells, htb]⟩, rfl, rfl⟩
  have hvs : ∀ sp : Nat → Bool, DataW.TrodVars enc P W' sp s.vars (s.fn H (ds ++ [])).vars [] := fun sp => by rw [hs2, hvars]; rfl
  refine ⟨ds, [], before, [], before, [], hW0, hres _ _ _, hargs _ hold, hvs _, ho.keptBut _, fun _ => ?_⟩
  refine ⟨?_, _, _, ([] ++ before) ++ [], ⟨[] ++ before, [], trodAll_append (hargs _ (fun _ _ => rfl)) (hres _ _ _), hvs _, rfl, ?_, ?_⟩, ?_⟩
  · exact Go.RowKit.ok_one hr rfl (Go.RowKit.okWide_bool_mk htb b)
  · intro bl off hp
    have hp' : MemPlace.cell bl off ∈ before := by simpa using hp
    have := hz bl off (by simpa using hp')
    rw [← this]
    have hb := ho.old bl (hlt _ hp')
    simp [World.frozen?, hb]
  · intro ha
    simpa using hn ha
  · intro x hx _
    simpa using hx
end
end Go.Sh

/- The data of package api as Lean data, and as data of the shadow machine. -/
namespace Go.Sh

abbrev dI (n : Int) : D := .val (.int .i64 n)
abbrev dB (b : Bool) : D := .val (.bool b)
abbrev dS (s : ByteArray) : D := .val (.string s)
abbrev sI (n : Int) : SV := .imm (.val (.int .i64 n))
abbrev sB (b : Bool) : SV := .imm (.val (.bool b))
abbrev sS (s : ByteArray) : SV := .imm (.val (.string s))

structure Piece where
  lo : Int
  at_ : Int
  slope : Int
structure Decl where
  name : ByteArray
  unit : ByteArray
  role : Int
inductive Ex where
  | mk (op n : Int) (unit : ByteArray) (den : Int) (pieces : List Piece) (kids : List Ex)
structure Article where
  number : Int
  line : Int
  rank : Int
  lo : Int
  hi : Int
  known : Int
  when_ : List Ex
  unless_ : List Int
  amount : Ex
structure Codex where
  facts : List Decl
  lines : List Decl
  arts : List Article
structure Fact where
  person : ByteArray
  name : ByteArray
  lo : Int
  hi : Int
  known : Int
  value : Int
  gone : Bool
structure View where
  day : Int
  has : List Bool
  value : List Int
  arts : List Int

def Piece.cells (p : Piece) : List D := [dI p.lo, dI p.at_, dI p.slope]
def Decl.cells (d : Decl) : List D := [dS d.name, dS d.unit, dI d.role]
mutual
def Ex.cells : Ex → List D
  | .mk op n unit den ps ks => [dI op, dI n, dS unit, dI den, .isl 3 (ps.map Piece.cells), .isl 6 (exprRows ks)]
def exprRows : List Ex → List (List D)
  | [] => []
  | e :: r => Ex.cells e :: exprRows r
end
theorem exprRows_eq (l : List Ex) : exprRows l = l.map Ex.cells := by
  induction l with
  | nil => rfl
  | cons e r ih => simp [exprRows, ih]
def Ex.op : Ex → Int | .mk op _ _ _ _ _ => op
def Ex.n : Ex → Int | .mk _ n _ _ _ _ => n
def Ex.unit : Ex → ByteArray | .mk _ _ u _ _ _ => u
def Ex.den : Ex → Int | .mk _ _ _ d _ _ => d
def Ex.pieces : Ex → List Piece | .mk _ _ _ _ p _ => p
def Ex.kids : Ex → List Ex | .mk _ _ _ _ _ k => k
theorem Ex.cells_eq (e : Ex) : e.cells = [dI e.op, dI e.n, dS e.unit, dI e.den, .isl 3 (e.pieces.map Piece.cells), .isl 6 (e.kids.map Ex.cells)] := by
  cases e; simp [Ex.cells, exprRows_eq, Ex.op, Ex.n, Ex.unit, Ex.den, Ex.pieces, Ex.kids]

def dInts (l : List Int) : D := .isl 1 (l.map fun n => [dI n])
def dBools (l : List Bool) : D := .isl 1 (l.map fun b => [dB b])
def dDecls (l : List Decl) : D := .isl 3 (l.map Decl.cells)
def dExprs (l : List Ex) : D := .isl 6 (l.map Ex.cells)
def Article.cells (a : Article) : List D := [dI a.number, dI a.line, dI a.rank, dI a.lo, dI a.hi, dI a.known, dExprs a.when_, dInts a.unless_,
  dI a.amount.op, dI a.amount.n, dS a.amount.unit, dI a.amount.den, .isl 3 (a.amount.pieces.map Piece.cells), .isl 6 (a.amount.kids.map Ex.cells)]
def dArts (l : List Article) : D := .isl 14 (l.map Article.cells)
def Codex.sv (c : Codex) : SV := .agg [.imm (dDecls c.facts), .imm (dDecls c.lines), .imm (dArts c.arts)]
def Fact.cells (f : Fact) : List D := [dS f.person, dS f.name, dI f.lo, dI f.hi, dI f.known, dI f.value, dB f.gone]
def dFacts (l : List Fact) : D := .isl 7 (l.map Fact.cells)
def storeSV (l : List Fact) : SV := .agg [.imm (dFacts l)]
def View.sv (v : View) : SV := .agg [sI v.day, .imm (dBools v.has), .imm (dInts v.value), .imm (dInts v.arts)]

def Fact.fit (f : Fact) : Prop := f.person.size ≤ 9223372036854775807 ∧ f.name.size ≤ 9223372036854775807
def View.same (v w : View) : Bool := decide (v.has = w.has ∧ v.value = w.value ∧ v.arts = w.arts)
def View.fit (v : View) : Prop := v.has.length ≤ 9223372036854775807 ∧ v.value.length ≤ 9223372036854775807 ∧ v.arts.length ≤ 9223372036854775807
def View.same' (v w : View) : Bool := decide (v.day = w.day) && v.same w
def Ex.sv (e : Ex) : SV := .agg (e.cells.map .imm)

end Go.Sh

/- The arguments of the laws: from the model's readings to data. -/
namespace Go.Proofs.YtblpjknmhajcgaaGreatDoor
open Go Go.Sh
set_option maxRecDepth 100000

theorem czDecl : Tryz.prog.cellsOf 90 = 3 := by kernel_rfl
theorem czPiece : Tryz.prog.cellsOf 189 = 3 := by kernel_rfl
theorem czExpr : Tryz.prog.cellsOf 60 = 6 := by kernel_rfl
theorem czFunc : Tryz.prog.cellsOf 58 = 2 := by kernel_rfl
theorem czArt : Tryz.prog.cellsOf 62 = 14 := by kernel_rfl
theorem czCodex : Tryz.prog.cellsOf 25 = 3 := by kernel_rfl
theorem czInt : Tryz.prog.cellsOf 3 = 1 := by kernel_rfl
theorem czStr : Tryz.prog.cellsOf 9 = 1 := by kernel_rfl
theorem czSl1 : Tryz.prog.cellsOf 22 = 1 := by kernel_rfl
theorem czSl2 : Tryz.prog.cellsOf 56 = 1 := by kernel_rfl
theorem czSl3 : Tryz.prog.cellsOf 55 = 1 := by kernel_rfl
theorem czSl4 : Tryz.prog.cellsOf 23 = 1 := by kernel_rfl
theorem czSl6 : Tryz.prog.cellsOf 26 = 1 := by kernel_rfl
section
variable {H : Type} {enc : TypeId × Value → H} {w : World} {fuel : Nat} {cs : List Value} {x : DataW H × List MemPlace}

/-- a number of Go -/
def i64 (n : Int) : Prop := -9223372036854775808 ≤ n ∧ n ≤ 9223372036854775807
abbrev big : Nat := 9223372036854775807

theorem rdInts (h : DataW.trod enc Tryz.prog w 0 (fun _ => true) true fuel 26 cs = some x) : ∃ l : List Int, Cs w cs [dInts l] ∧ l.length ≤ 9223372036854775807 ∧ ∀ n ∈ l, i64 n :=
  rd_slice (fun n => [dI n]) i64 Tryz.underlying26 czInt (by decide) h (fun _ _ _ _ h => by obtain ⟨n, h1, h2⟩ := rd_int Tryz.underlying3 h; exact ⟨n, h1, h2⟩)
theorem cs3 {cs : List Value} (h : cs.length = 3) : ∃ a b c, cs = [a, b, c] := by
  match cs, h with | [a, b, c], _ => exact ⟨a, b, c, rfl⟩
/-- the fields of a structure -/
theorem rd_field {t : TypeId} {fs : Array Field} {c : List Value} (ht : Tryz.prog.underlying t = some (.struct fs)) (h : DataW.trod enc Tryz.prog w 0 (fun _ => true) true fuel t c = some x) :
    c.length = Tryz.prog.cellsOf t ∧ ∃ n, n < fuel ∧ ∀ (i : Nat) (u off k : Nat), (fs[i]?).map (fun f => (f.type, f.offset)) = some (u, off) → Tryz.prog.cellsOf u = k → ∃ y, DataW.trod enc Tryz.prog w 0 (fun _ => true) true n u ((c.drop off).take k) = some y := by
  obtain ⟨xs, n, rfl, _, hl, hlen, hf⟩ := DataW.trod_struct ht h
  refine ⟨hl, n, by omega, fun i u off k hi hk => ?_⟩
  obtain ⟨f, hf1, hf2⟩ := Option.map_eq_some_iff.1 hi
  cases hf2
  subst hk
  have := hf i f hf1
  have hlt : i < fs.size := by
    rcases Nat.lt_or_ge i fs.size with h | h
    · exact h
    · simp [Array.getElem?_eq_none h] at hf1
  rw [List.getElem?_eq_getElem (by omega)] at this
  exact ⟨_, this⟩

structure Decl.ok (d : Decl) : Prop where
  name : d.name.size ≤ 9223372036854775807
  unit : d.unit.size ≤ 9223372036854775807
  role : i64 d.role
theorem rdDecl (h : DataW.trod enc Tryz.prog w 0 (fun _ => true) true fuel 90 cs = some x) : ∃ d : Decl, Cs w cs d.cells ∧ Decl.ok d := by
  obtain ⟨hl, n, _, hf⟩ := rd_field Tryz.underlying90 h
  rw [czDecl] at hl
  obtain ⟨a, b, c, rfl⟩ := cs3 hl
  obtain ⟨y0, h0⟩ := hf 0 9 0 1 rfl czStr
  obtain ⟨y1, h1⟩ := hf 1 9 1 1 rfl czStr
  obtain ⟨y2, h2⟩ := hf 2 3 2 1 rfl czInt
  obtain ⟨s0, g0, e0⟩ := rd_string Tryz.underlying9 h0
  obtain ⟨s1, g1, e1⟩ := rd_string Tryz.underlying9 h1
  obtain ⟨s2, g2, e2⟩ := rd_int Tryz.underlying3 h2
  exact ⟨⟨s0, s1, s2⟩, g0.append (g1.append g2), e0, e1, e2⟩

structure Piece.ok (p : Piece) : Prop where
  lo : i64 p.lo
  at_ : i64 p.at_
  slope : i64 p.slope
theorem rdPiece (h : DataW.trod enc Tryz.prog w 0 (fun _ => true) true fuel 189 cs = some x) : ∃ d : Piece, Cs w cs d.cells ∧ Piece.ok d := by
  obtain ⟨hl, n, _, hf⟩ := rd_field Tryz.underlying189 h
  rw [czPiece] at hl
  obtain ⟨a, b, c, rfl⟩ := cs3 hl
  obtain ⟨y0, h0⟩ := hf 0 3 0 1 rfl czInt
  obtain ⟨y1, h1⟩ := hf 1 3 1 1 rfl czInt
  obtain ⟨y2, h2⟩ := hf 2 3 2 1 rfl czInt
  obtain ⟨s0, g0, e0⟩ := rd_int Tryz.underlying3 h0
  obtain ⟨s1, g1, e1⟩ := rd_int Tryz.underlying3 h1
  obtain ⟨s2, g2, e2⟩ := rd_int Tryz.underlying3 h2
  exact ⟨⟨s0, s1, s2⟩, g0.append (g1.append g2), e0, e1, e2⟩

/-- what is true of all expressions of Go -/
inductive ExOK : Ex → Prop
  | mk {op n : Int} {u : ByteArray} {den : Int} {ps : List Piece} {ks : List Ex} : i64 op → i64 n → u.size ≤ 9223372036854775807 → i64 den → ps.length ≤ 9223372036854775807 → (∀ p ∈ ps, Piece.ok p) → ks.length ≤ 9223372036854775807 → (∀ k ∈ ks, ExOK k) → ExOK (.mk op n u den ps ks)

theorem rdFunc (h : DataW.trod enc Tryz.prog w 0 (fun _ => true) true fuel 58 cs = some x) : ∃ (den : Int) (ps : List Piece), Cs w cs [dI den, .isl 3 (ps.map Piece.cells)] ∧ i64 den ∧ ps.length ≤ 9223372036854775807 ∧ ∀ p ∈ ps, Piece.ok p := by
  obtain ⟨hl, n, _, hf⟩ := rd_field Tryz.underlying58 h
  rw [czFunc] at hl
  obtain ⟨a, b, rfl⟩ : ∃ a b, cs = [a, b] := by match cs, hl with | [a, b], _ => exact ⟨a, b, rfl⟩
  obtain ⟨y0, h0⟩ := hf 0 3 0 1 rfl czInt
  obtain ⟨y1, h1⟩ := hf 1 56 1 1 rfl czSl2
  obtain ⟨s0, g0, e0⟩ := rd_int Tryz.underlying3 h0
  obtain ⟨s1, g1, e1, e2⟩ := rd_slice Piece.cells Piece.ok Tryz.underlying56 czPiece (by decide) h1 (fun _ _ _ _ h => rdPiece h)
  exact ⟨s0, s1, g0.append g1, e0, e1, e2⟩

theorem rdExpr : ∀ (fuel : Nat) (cs : List Value) (x : DataW H × List MemPlace), DataW.trod enc Tryz.prog w 0 (fun _ => true) true fuel 60 cs = some x → ∃ d : Ex, Cs w cs d.cells ∧ ExOK d := by
  intro fuel
  induction fuel using Nat.strongRecOn with
  | _ fuel ih =>
  intro cs x h
  obtain ⟨hl, n, hn, hf⟩ := rd_field Tryz.underlying60 h
  rw [czExpr] at hl
  obtain ⟨a, b, c, d, e, f, rfl⟩ : ∃ a b c d e f, cs = [a, b, c, d, e, f] := by match cs, hl with | [a, b, c, d, e, f], _ => exact ⟨a, b, c, d, e, f, rfl⟩
  obtain ⟨y0, h0⟩ := hf 0 3 0 1 rfl czInt
  obtain ⟨y1, h1⟩ := hf 1 3 1 1 rfl czInt
  obtain ⟨y2, h2⟩ := hf 2 9 2 1 rfl czStr
  obtain ⟨y3, h3⟩ := hf 3 58 3 2 rfl czFunc
  obtain ⟨y4, h4⟩ := hf 4 55 5 1 rfl czSl3
  obtain ⟨s0, g0, e0⟩ := rd_int Tryz.underlying3 h0
  obtain ⟨s1, g1, e1⟩ := rd_int Tryz.underlying3 h1
  obtain ⟨s2, g2, e2⟩ := rd_string Tryz.underlying9 h2
  obtain ⟨s3, s4, g3, e3, e4, e5⟩ := rdFunc h3
  obtain ⟨s5, g5, e6, e7⟩ := rd_slice Ex.cells ExOK Tryz.underlying55 czExpr (by decide) h4 (fun m cs x hm h => ih m (by omega) cs x h)
  refine ⟨.mk s0 s1 s2 s3 s4 s5, ?_, .mk e0 e1 e2 e3 e4 e5 e6 e7⟩
  rw [Ex.cells_eq]
  exact g0.append (g1.append (g2.append (g3.append g5)))

structure Article.ok (a : Article) : Prop where
  number : i64 a.number
  line : i64 a.line
  rank : i64 a.rank
  lo : i64 a.lo
  hi : i64 a.hi
  known : i64 a.known
  when_ : a.when_.length ≤ 9223372036854775807
  whens : ∀ e ∈ a.when_, ExOK e
  unless_ : a.unless_.length ≤ 9223372036854775807
  unlesss : ∀ n ∈ a.unless_, i64 n
  amount : ExOK a.amount
theorem rdArticle (h : DataW.trod enc Tryz.prog w 0 (fun _ => true) true fuel 62 cs = some x) : ∃ d : Article, Cs w cs d.cells ∧ Article.ok d := by
  obtain ⟨hl, n, hn, hf⟩ := rd_field Tryz.underlying62 h
  rw [czArt] at hl
  obtain ⟨a0, a1, a2, a3, a4, a5, a6, a7, a8, a9, a10, a11, a12, a13, rfl⟩ : ∃ a0 a1 a2 a3 a4 a5 a6 a7 a8 a9 a10 a11 a12 a13, cs = [a0, a1, a2, a3, a4, a5, a6, a7, a8, a9, a10, a11, a12, a13] := by
    match cs, hl with | [a0, a1, a2, a3, a4, a5, a6, a7, a8, a9, a10, a11, a12, a13], _ => exact ⟨a0, a1, a2, a3, a4, a5, a6, a7, a8, a9, a10, a11, a12, a13, rfl⟩
  obtain ⟨y0, h0⟩ := hf 0 3 0 1 rfl czInt
  obtain ⟨y1, h1⟩ := hf 1 3 1 1 rfl czInt
  obtain ⟨y2, h2⟩ := hf 2 3 2 1 rfl czInt
  obtain ⟨y3, h3⟩ := hf 3 3 3 1 rfl czInt
  obtain ⟨y4, h4⟩ := hf 4 3 4 1 rfl czInt
  obtain ⟨y5, h5⟩ := hf 5 3 5 1 rfl czInt
  obtain ⟨y6, h6⟩ := hf 6 55 6 1 rfl czSl3
  obtain ⟨y7, h7⟩ := hf 7 26 7 1 rfl czSl6
  obtain ⟨y8, h8⟩ := hf 8 60 8 6 rfl czExpr
  obtain ⟨s0, g0, e0⟩ := rd_int Tryz.underlying3 h0
  obtain ⟨s1, g1, e1⟩ := rd_int Tryz.underlying3 h1
  obtain ⟨s2, g2, e2⟩ := rd_int Tryz.underlying3 h2
  obtain ⟨s3, g3, e3⟩ := rd_int Tryz.underlying3 h3
  obtain ⟨s4, g4, e4⟩ := rd_int Tryz.underlying3 h4
  obtain ⟨s5, g5, e5⟩ := rd_int Tryz.underlying3 h5
  obtain ⟨s6, g6, e6, e6'⟩ := rd_slice Ex.cells ExOK Tryz.underlying55 czExpr (by decide) h6 (fun m cs x _ h => rdExpr m cs x h)
  obtain ⟨s7, g7, e7, e7'⟩ := rdInts h7
  obtain ⟨s8, g8, e8⟩ := rdExpr _ _ _ h8
  refine ⟨⟨s0, s1, s2, s3, s4, s5, s6, s7, s8⟩, ?_, e0, e1, e2, e3, e4, e5, e6, e6', e7, e7', e8⟩
  rw [Ex.cells_eq] at g8
  exact g0.append (g1.append (g2.append (g3.append (g4.append (g5.append (g6.append (g7.append g8)))))))

structure Codex.ok (c : Codex) : Prop where
  facts : c.facts.length ≤ 9223372036854775807
  fact : ∀ d ∈ c.facts, Decl.ok d
  lines : c.lines.length ≤ 9223372036854775807
  line : ∀ d ∈ c.lines, Decl.ok d
  arts : c.arts.length ≤ 9223372036854775807
  art : ∀ a ∈ c.arts, Article.ok a
structure View.ok (v : View) : Prop where
  has : v.has.length ≤ 9223372036854775807
  value : v.value.length ≤ 9223372036854775807
  arts : v.arts.length ≤ 9223372036854775807

section
variable {v : Value} {d : DataW H} {ps : List MemPlace} {b0 : Nat} {r : Reach}
theorem openStruct {t : TypeId} {fs : Array Field} (ht : Tryz.prog.underlying t = some (.struct fs)) (hval : Value.okWide Tryz.prog w r b0 t v) : ∃ vs, v = .agg vs := by
  unfold Value.okWide at hval
  rw [ht] at hval
  obtain ⟨vs, h, _⟩ := hval
  exact ⟨vs, h⟩
theorem openCodex (hval : Value.okWide Tryz.prog w r b0 25 v) (h : DataW.Trod enc Tryz.prog w 0 (fun _ => true) true 25 v d ps) : ∃ a : Codex, Codex.ok a ∧ Rep w (allI w) [] v a.sv := by
  obtain ⟨vs, rfl⟩ := openStruct Tryz.underlying25 hval
  obtain ⟨fuel, h⟩ := h
  obtain ⟨hl, n, _, hf⟩ := rd_field Tryz.underlying25 h
  rw [czCodex] at hl
  obtain ⟨a, b, c, hvs⟩ := cs3 hl
  rw [hvs] at hf
  obtain ⟨y0, h0⟩ := hf 0 22 0 1 rfl czSl1
  obtain ⟨y1, h1⟩ := hf 1 22 1 1 rfl czSl1
  obtain ⟨y2, h2⟩ := hf 2 23 2 1 rfl czSl4
  obtain ⟨s0, g0, e0, e0'⟩ := rd_slice Decl.cells Decl.ok Tryz.underlying22 czDecl (by decide) h0 (fun _ _ _ _ h => rdDecl h)
  obtain ⟨s1, g1, e1, e1'⟩ := rd_slice Decl.cells Decl.ok Tryz.underlying22 czDecl (by decide) h1 (fun _ _ _ _ h => rdDecl h)
  obtain ⟨s2, g2, e2, e2'⟩ := rd_slice Article.cells Article.ok Tryz.underlying23 czArt (by decide) h2 (fun _ _ _ _ h => rdArticle h)
  refine ⟨⟨s0, s1, s2⟩, ⟨e0, e0', e1, e1', e2, e2'⟩, rep_cells (ds := [dDecls s0, dDecls s1, dArts s2]) rfl ?_⟩
  rw [show vs.toList = [a, b, c] from hvs]
  exact g0.append (g1.append g2)
end
end
end Go.Proofs.YtblpjknmhajcgaaGreatDoor

/- Contracts, part a: days, units, currencies, names. -/
namespace Go.Proofs.YtblpjknmhajcgaaGreatDoor
open Go Go.Sh
set_option maxRecDepth 10000

theorem mixed : Tryz.prog.follows .mixedOrders = true := by kernel_rfl
variable (G : List (Nat × D))

def dayOK (n : Int) : Bool := decide (0 ≤ n ∧ n ≤ 36524)

/-- a currency: three upper-case letters -/
def upper (b : UInt8) : Bool := decide (65 ≤ b.toNat) && decide (b.toNat ≤ 90)
def curOK (s : ByteArray) : Bool := decide (s.size = 3) && s.data.toList.all upper
def unitOK (s : ByteArray) : Bool := decide (s = ⟨#[116, 114, 117, 116, 104]⟩) || decide (s = ⟨#[110, 117, 109, 98, 101, 114]⟩) || decide (s = ⟨#[109, 105, 110, 117, 116, 101, 115]⟩) || curOK s

theorem isCur_spec (s : ByteArray) : SPure Tryz.prog G 123 [sS s] (sB (curOK s)) := by
  refine spure_enter Tryz.func123 rfl (by rw [Tryz.ntmps123]; simp) rfl rfl ?_; intro E hH hK
  (refine sgo_sound [] 1000 ?_; conv => whnf)
  repeat' ((with_reducible first | refine bdec (fun h => ?_) (fun h => ?_) | refine bndec (fun h => ?_) (fun h => ?_) | refine bwtd (fun h => ?_) (fun h => ?_) | refine bwfd (fun h => ?_) (fun h => ?_) | refine bwtn (fun h => ?_) (fun h => ?_) | refine bwfn (fun h => ?_) (fun h => ?_) | refine bwtb (fun h => ?_) (fun h => ?_) | refine bwfb (fun h => ?_) (fun h => ?_) | refine bwt (fun h => ?_) (fun h => ?_) | refine bwf (fun h => ?_) (fun h => ?_) | refine bnt (fun h => ?_) (fun h => ?_) | refine bcase (fun h => ?_) (fun h => ?_)) <;> (conv => whnf))
  · exact kB hK (by simp [curOK]; omega)
  · have hs : s.size = 3 := by omega
    have hl : s.data.toList.length = 3 := by simpa using hs
    refine sw_keep [0, 8, 9] ?_
    refine sw_loop_ind (σ := List UInt8 × List UInt8) (fun x => [(0, sS s), (8, sI s.size), (9, sI x.1.length)]) (fun _ => [])
      (fun x => s.data.toList = x.1 ++ x.2 ∧ x.1.all upper = true) (fun x => x.2.length) ?_ ([], s.data.toList) ⟨rfl, rfl⟩
    rintro ⟨done, rest⟩ ⟨ha, hv⟩ ih
    dsimp only at ha hv ih ⊢
    have hlen : done.length + rest.length = 3 := by rw [ha] at hl; simpa using hl
    (refine sgo_sound [] 1000 ?_; conv => whnf)
    repeat' ((with_reducible first | refine bdec (fun h => ?_) (fun h => ?_) | refine bndec (fun h => ?_) (fun h => ?_) | refine bwtd (fun h => ?_) (fun h => ?_) | refine bwfd (fun h => ?_) (fun h => ?_) | refine bwtn (fun h => ?_) (fun h => ?_) | refine bwfn (fun h => ?_) (fun h => ?_) | refine bwtb (fun h => ?_) (fun h => ?_) | refine bwfb (fun h => ?_) (fun h => ?_) | refine bwt (fun h => ?_) (fun h => ?_) | refine bwf (fun h => ?_) (fun h => ?_) | refine bnt (fun h => ?_) (fun h => ?_) | refine bcase (fun h => ?_) (fun h => ?_)) <;> (conv => whnf))
    · cases rest with
      | nil => simp at hlen; omega
      | cons b rest =>
        have hget : s.data.toList[done.length]? = some b := by rw [ha]; simp
        have hw : IntKind.i64.wrap ((done.length : Int) + 1) = (((done ++ [b]).length : Nat) : Int) := by rw [wrap_succ (by omega)]; simp
        have bad : upper b = false → curOK s = false := fun h => by simp [curOK, ha, h]
        refine swr_byte rfl rfl rfl rfl rfl rfl  hget ?_
        (refine sgor_sound [] 1000 ?_; conv => whnf)
        repeat' ((with_reducible first | refine bdec (fun h => ?_) (fun h => ?_) | refine bndec (fun h => ?_) (fun h => ?_) | refine bwtd (fun h => ?_) (fun h => ?_) | refine bwfd (fun h => ?_) (fun h => ?_) | refine bwtn (fun h => ?_) (fun h => ?_) | refine bwfn (fun h => ?_) (fun h => ?_) | refine bwtb (fun h => ?_) (fun h => ?_) | refine bwfb (fun h => ?_) (fun h => ?_) | refine bwt (fun h => ?_) (fun h => ?_) | refine bwf (fun h => ?_) (fun h => ?_) | refine bnt (fun h => ?_) (fun h => ?_) | refine bcase (fun h => ?_) (fun h => ?_)) <;> (conv => whnf))
        · refine swr_byte rfl rfl rfl rfl rfl rfl  hget ?_
          (refine sgor_sound [] 1000 ?_; conv => whnf)
          repeat' ((with_reducible first | refine bdec (fun h => ?_) (fun h => ?_) | refine bndec (fun h => ?_) (fun h => ?_) | refine bwtd (fun h => ?_) (fun h => ?_) | refine bwfd (fun h => ?_) (fun h => ?_) | refine bwtn (fun h => ?_) (fun h => ?_) | refine bwfn (fun h => ?_) (fun h => ?_) | refine bwtb (fun h => ?_) (fun h => ?_) | refine bwfb (fun h => ?_) (fun h => ?_) | refine bwt (fun h => ?_) (fun h => ?_) | refine bwf (fun h => ?_) (fun h => ?_) | refine bnt (fun h => ?_) (fun h => ?_) | refine bcase (fun h => ?_) (fun h => ?_)) <;> (conv => whnf))
          · exact kB hK (bad (by simp [upper]; omega))
          · rw [hw]
            refine sw_keep [0, 8, 9] (ih (done ++ [b], rest) ⟨by simp [ha], ?_⟩ (by simp))
            simp [hv, upper]; omega
        · exact kB hK (bad (by simp [upper]; omega))
    · cases rest with
      | nil => exact kB hK (by simp [curOK, hs, ha]; simpa using hv)
      | cons b rest => simp at hlen; omega
end Go.Proofs.YtblpjknmhajcgaaGreatDoor

/- Contracts, part b: units, names. -/
namespace Go.Proofs.YtblpjknmhajcgaaGreatDoor
open Go Go.Sh
set_option maxRecDepth 10000
variable (G : List (Nat × D))

theorem isUnit_spec (s : ByteArray) : SPure Tryz.prog G 89 [sS s] (sB (unitOK s)) := by
  refine spure_enter Tryz.func89 rfl (by rw [Tryz.ntmps89]; simp) rfl rfl ?_; intro E hH hK
  (refine sgo_sound [] 1000 ?_; conv => whnf)
  repeat' ((with_reducible first | refine bdec (fun h => ?_) (fun h => ?_) | refine bndec (fun h => ?_) (fun h => ?_) | refine bwtd (fun h => ?_) (fun h => ?_) | refine bwfd (fun h => ?_) (fun h => ?_) | refine bwtn (fun h => ?_) (fun h => ?_) | refine bwfn (fun h => ?_) (fun h => ?_) | refine bwtb (fun h => ?_) (fun h => ?_) | refine bwfb (fun h => ?_) (fun h => ?_) | refine bwt (fun h => ?_) (fun h => ?_) | refine bwf (fun h => ?_) (fun h => ?_) | refine bnt (fun h => ?_) (fun h => ?_) | refine bcase (fun h => ?_) (fun h => ?_)) <;> (conv => whnf))
  · refine swr_pure rfl rfl rfl rfl rfl rfl  (isCur_spec G s) ?_
    (refine sgor_sound [] 1000 ?_; conv => whnf)
    exact kB hK (by simp [unitOK, *])
  all_goals exact kB hK (by simp [unitOK, *])

def lowerB (b : UInt8) : Bool := decide (97 ≤ b.toNat) && decide (b.toNat ≤ 122)
def digitB (b : UInt8) : Bool := decide (48 ≤ b.toNat) && decide (b.toNat ≤ 57)
def wordB (b : UInt8) : Bool := lowerB b || digitB b || decide (b.toNat = 95)
def headLower : List UInt8 → Bool
  | [] => false
  | b :: _ => lowerB b
def nameOK (s : ByteArray) : Bool := decide (s.size ≤ 16) && headLower s.data.toList && s.data.toList.all wordB

theorem bytes_len (s : ByteArray) : s.data.toList.length = s.size := by simp
theorem bytes_empty {s : ByteArray} (h : s.data.toList = []) : s = ⟨#[]⟩ := ByteArray.ext (Array.ext' h)

def keys : List ByteArray := [⟨#[102, 97, 99, 116]⟩, ⟨#[108, 105, 110, 101]⟩, ⟨#[97, 114, 116, 105, 99, 108, 101]⟩, ⟨#[102, 111, 114]⟩, ⟨#[114, 97, 110, 107]⟩, ⟨#[102, 114, 111, 109]⟩, ⟨#[116, 111]⟩, ⟨#[107, 110, 111, 119, 110]⟩, ⟨#[119, 104, 101, 110]⟩, ⟨#[117, 110, 108, 101, 115, 115]⟩, ⟨#[97, 109, 111, 117, 110, 116]⟩, ⟨#[116, 114, 117, 116, 104]⟩, ⟨#[110, 117, 109, 98, 101, 114]⟩, ⟨#[109, 105, 110, 117, 116, 101, 115]⟩, ⟨#[109, 105, 110]⟩, ⟨#[101, 97, 114, 110]⟩, ⟨#[100, 101, 100, 117, 99, 116]⟩, ⟨#[102, 108, 111, 111, 114]⟩, ⟨#[105, 110, 102, 111]⟩, ⟨#[111, 114]⟩, ⟨#[97, 110, 100]⟩, ⟨#[110, 111, 116]⟩, ⟨#[97, 116]⟩, ⟨#[116, 114, 117, 101]⟩, ⟨#[102, 97, 108, 115, 101]⟩, ⟨#[97, 114, 116]⟩, ⟨#[119, 101, 101, 107, 100, 97, 121]⟩, ⟨#[100, 97, 121]⟩, ⟨#[109, 111, 110, 116, 104]⟩, ⟨#[121, 101, 97, 114]⟩, ⟨#[108, 101, 97, 115, 116]⟩, ⟨#[103, 114, 101, 97, 116, 101, 115, 116]⟩, ⟨#[116, 97, 98, 108, 101]⟩]
def keyOK (s : ByteArray) : Bool := keys.any fun k => decide (s = k)

theorem isKey_spec (s : ByteArray) : SPure Tryz.prog G 179 [sS s] (sB (keyOK s)) := by
  refine spure_enter Tryz.func179 rfl (by rw [Tryz.ntmps179]; simp) rfl rfl ?_; intro E hH hK
  (refine sgo_sound [] 1000 ?_; conv => whnf)
  repeat' ((with_reducible first | refine bdec (fun h => ?_) (fun h => ?_) | refine bndec (fun h => ?_) (fun h => ?_) | refine bwtd (fun h => ?_) (fun h => ?_) | refine bwfd (fun h => ?_) (fun h => ?_) | refine bwtn (fun h => ?_) (fun h => ?_) | refine bwfn (fun h => ?_) (fun h => ?_) | refine bwtb (fun h => ?_) (fun h => ?_) | refine bwfb (fun h => ?_) (fun h => ?_) | refine bwt (fun h => ?_) (fun h => ?_) | refine bwf (fun h => ?_) (fun h => ?_) | refine bnt (fun h => ?_) (fun h => ?_) | refine bcase (fun h => ?_) (fun h => ?_)) <;> (conv => whnf))
  all_goals exact kB hK (by simp [keyOK, keys, *])

def properName (s : ByteArray) : Bool := nameOK s && !keyOK s

theorem goodName_spec (s : ByteArray) : SPure Tryz.prog G 168 [sS s] (sB (properName s)) := by
  refine spure_enter Tryz.func168 rfl (by rw [Tryz.ntmps168]; simp) rfl rfl ?_; intro E hH hK
  have hl := bytes_len s
  (refine sgo_sound [] 1000 ?_; conv => whnf)
  repeat' ((with_reducible first | refine bdec (fun h => ?_) (fun h => ?_) | refine bndec (fun h => ?_) (fun h => ?_) | refine bwtd (fun h => ?_) (fun h => ?_) | refine bwfd (fun h => ?_) (fun h => ?_) | refine bwtn (fun h => ?_) (fun h => ?_) | refine bwfn (fun h => ?_) (fun h => ?_) | refine bwtb (fun h => ?_) (fun h => ?_) | refine bwfb (fun h => ?_) (fun h => ?_) | refine bwt (fun h => ?_) (fun h => ?_) | refine bwf (fun h => ?_) (fun h => ?_) | refine bnt (fun h => ?_) (fun h => ?_) | refine bcase (fun h => ?_) (fun h => ?_)) <;> (conv => whnf))
  · cases hs : s.data.toList with
    | nil => exact absurd (bytes_empty hs) ‹_›
    | cons b0 r0 =>
      have h0 : s.data.toList[0]? = some b0 := by rw [hs]; rfl
      have bad : lowerB b0 = false → properName s = false := fun h => by simp [properName, nameOK, hs, headLower, h]
      refine swr_byte rfl rfl rfl rfl rfl rfl  h0 ?_
      (refine sgor_sound [] 1000 ?_; conv => whnf)
      repeat' ((with_reducible first | refine bdec (fun h => ?_) (fun h => ?_) | refine bndec (fun h => ?_) (fun h => ?_) | refine bwtd (fun h => ?_) (fun h => ?_) | refine bwfd (fun h => ?_) (fun h => ?_) | refine bwtn (fun h => ?_) (fun h => ?_) | refine bwfn (fun h => ?_) (fun h => ?_) | refine bwtb (fun h => ?_) (fun h => ?_) | refine bwfb (fun h => ?_) (fun h => ?_) | refine bwt (fun h => ?_) (fun h => ?_) | refine bwf (fun h => ?_) (fun h => ?_) | refine bnt (fun h => ?_) (fun h => ?_) | refine bcase (fun h => ?_) (fun h => ?_)) <;> (conv => whnf))
      · refine swr_byte rfl rfl rfl rfl rfl rfl  h0 ?_
        (refine sgor_sound [] 1000 ?_; conv => whnf)
        repeat' ((with_reducible first | refine bdec (fun h => ?_) (fun h => ?_) | refine bndec (fun h => ?_) (fun h => ?_) | refine bwtd (fun h => ?_) (fun h => ?_) | refine bwfd (fun h => ?_) (fun h => ?_) | refine bwtn (fun h => ?_) (fun h => ?_) | refine bwfn (fun h => ?_) (fun h => ?_) | refine bwtb (fun h => ?_) (fun h => ?_) | refine bwfb (fun h => ?_) (fun h => ?_) | refine bwt (fun h => ?_) (fun h => ?_) | refine bwf (fun h => ?_) (fun h => ?_) | refine bnt (fun h => ?_) (fun h => ?_) | refine bcase (fun h => ?_) (fun h => ?_)) <;> (conv => whnf))
        · refine swr_pure rfl rfl rfl rfl rfl rfl  (isKey_spec G s) ?_
          (refine sgor_sound [] 1000 ?_; conv => whnf)
          repeat' ((with_reducible first | refine bdec (fun h => ?_) (fun h => ?_) | refine bndec (fun h => ?_) (fun h => ?_) | refine bwtd (fun h => ?_) (fun h => ?_) | refine bwfd (fun h => ?_) (fun h => ?_) | refine bwtn (fun h => ?_) (fun h => ?_) | refine bwfn (fun h => ?_) (fun h => ?_) | refine bwtb (fun h => ?_) (fun h => ?_) | refine bwfb (fun h => ?_) (fun h => ?_) | refine bwt (fun h => ?_) (fun h => ?_) | refine bwf (fun h => ?_) (fun h => ?_) | refine bnt (fun h => ?_) (fun h => ?_) | refine bcase (fun h => ?_) (fun h => ?_)) <;> (conv => whnf))
          · exact kB hK (by simp [properName, *])
          · have hhead : headLower s.data.toList = true := by rw [hs]; simp [headLower, lowerB]; omega
            have hsz : s.size ≤ 16 := by omega
            have hkey : keyOK s = false := h
            clear hs
            refine sw_keep [0, 27, 28] ?_
            refine sw_loop_ind (σ := List UInt8 × List UInt8) (fun x => [(0, sS s), (27, sI s.size), (28, sI x.1.length)]) (fun _ => [])
              (fun x => s.data.toList = x.1 ++ x.2 ∧ x.1.all wordB = true) (fun x => x.2.length) ?_ ([], s.data.toList) ⟨rfl, rfl⟩
            rintro ⟨done, rest⟩ ⟨ha, hv⟩ ih
            dsimp only at ha hv ih ⊢
            have hlen : done.length + rest.length = s.size := by rw [← hl, ha]; simp
            (refine sgo_sound [] 1000 ?_; conv => whnf)
            repeat' ((with_reducible first | refine bdec (fun h => ?_) (fun h => ?_) | refine bndec (fun h => ?_) (fun h => ?_) | refine bwtd (fun h => ?_) (fun h => ?_) | refine bwfd (fun h => ?_) (fun h => ?_) | refine bwtn (fun h => ?_) (fun h => ?_) | refine bwfn (fun h => ?_) (fun h => ?_) | refine bwtb (fun h => ?_) (fun h => ?_) | refine bwfb (fun h => ?_) (fun h => ?_) | refine bwt (fun h => ?_) (fun h => ?_) | refine bwf (fun h => ?_) (fun h => ?_) | refine bnt (fun h => ?_) (fun h => ?_) | refine bcase (fun h => ?_) (fun h => ?_)) <;> (conv => whnf))
            · cases rest with
              | nil => simp at hlen; omega
              | cons b rest =>
                have hget : s.data.toList[done.length]? = some b := by rw [ha]; simp
                have hw : IntKind.i64.wrap ((done.length : Int) + 1) = (((done ++ [b]).length : Nat) : Int) := by rw [wrap_succ (by omega)]; simp
                have bad : wordB b = false → properName s = false := fun h => by simp [properName, nameOK, ha, h]
                refine swr_byte rfl rfl rfl rfl rfl rfl  hget ?_
                (refine sgor_sound [] 1000 ?_; conv => whnf)
                repeat' ((with_reducible first | refine bdec (fun h => ?_) (fun h => ?_) | refine bndec (fun h => ?_) (fun h => ?_) | refine bwtd (fun h => ?_) (fun h => ?_) | refine bwfd (fun h => ?_) (fun h => ?_) | refine bwtn (fun h => ?_) (fun h => ?_) | refine bwfn (fun h => ?_) (fun h => ?_) | refine bwtb (fun h => ?_) (fun h => ?_) | refine bwfb (fun h => ?_) (fun h => ?_) | refine bwt (fun h => ?_) (fun h => ?_) | refine bwf (fun h => ?_) (fun h => ?_) | refine bnt (fun h => ?_) (fun h => ?_) | refine bcase (fun h => ?_) (fun h => ?_)) <;> (conv => whnf))
                all_goals first
                  | exact kB hK (bad (by simp [wordB, lowerB, digitB]; omega))
                  | (rw [hw]
                     refine sw_keep [0, 27, 28] (ih (done ++ [b], rest) ⟨by simp [ha], ?_⟩ (by simp))
                     simp [hv, wordB, lowerB, digitB]; omega)
            · cases rest with
              | nil => exact kB hK (by rw [List.append_nil] at ha; unfold properName nameOK; rw [hhead, ha, hv, hkey]; simp [hsz])
              | cons b rest => simp at hlen; omega
        · exact kB hK (bad (by simp [lowerB]; omega))
      · exact kB hK (bad (by simp [lowerB]; omega))
  · exact kB hK (by simp [properName, nameOK]; omega)
  · exact kB hK (by rw [h]; rfl)

end Go.Proofs.YtblpjknmhajcgaaGreatDoor

/- Contracts, part c: the references' names and units. -/
namespace Go.Proofs.YtblpjknmhajcgaaGreatDoor
open Go Go.Sh
set_option maxRecDepth 10000
variable (G : List (Nat × D))

abbrev sY (b : UInt8) : SV := .imm (.val (.int .u8 (b.toNat : Int)))

end Go.Proofs.YtblpjknmhajcgaaGreatDoor

/- Contracts, part d: piecewise linear functions, facts. -/
namespace Go.Proofs.YtblpjknmhajcgaaGreatDoor
open Go Go.Sh
set_option maxRecDepth 10000
variable (G : List (Nat × D))

def pieceOK (prev : Option Int) (p : Piece) : Bool :=
  (match prev with
   | none => decide (p.lo = 0)
   | some q => decide (q < p.lo) && decide (p.lo ≤ 1000000000000)) &&
  decide (-1000000 ≤ p.slope) && decide (p.slope ≤ 1000000) && decide (-1000000000000000000 ≤ p.at_) && decide (p.at_ ≤ 1000000000000000000)
def piecesOK : Option Int → List Piece → Bool
  | _, [] => true
  | prev, p :: r => pieceOK prev p && piecesOK (some p.lo) r
def tableOK (den : Int) (ps : List Piece) : Bool := decide (1 ≤ den) && decide (den ≤ 1000000) && decide (1 ≤ ps.length) && decide (ps.length ≤ 64) && piecesOK none ps
def lastLo (l : List Piece) : Option Int := l.getLast?.map (·.lo)

theorem split_last {α : Type} (l : List α) : l = [] ∨ ∃ i x, l = i ++ [x] := by
  rcases List.eq_nil_or_concat l with h | ⟨i, x, h⟩
  · exact .inl h
  · exact .inr ⟨i, x, by simpa using h⟩

theorem lastLo_snoc (l : List Piece) (p : Piece) : lastLo (l ++ [p]) = some p.lo := by simp [lastLo]

theorem pieceValid_spec (den : Int) (ps : List Piece) : SPure Tryz.prog G 156 [.agg [sI den, .imm (.isl 3 (ps.map Piece.cells))]] (sB (tableOK den ps)) := by
  refine spure_enter Tryz.func156 rfl (by rw [Tryz.ntmps156]; simp) rfl rfl ?_; intro E hH hK
  have hlen : (ps.map Piece.cells).length = ps.length := by simp
  (refine sgo_sound [] 1000 ?_; conv => whnf)
  repeat' ((with_reducible first | refine bdec (fun h => ?_) (fun h => ?_) | refine bndec (fun h => ?_) (fun h => ?_) | refine bwtd (fun h => ?_) (fun h => ?_) | refine bwfd (fun h => ?_) (fun h => ?_) | refine bwtn (fun h => ?_) (fun h => ?_) | refine bwfn (fun h => ?_) (fun h => ?_) | refine bwtb (fun h => ?_) (fun h => ?_) | refine bwfb (fun h => ?_) (fun h => ?_) | refine bwt (fun h => ?_) (fun h => ?_) | refine bwf (fun h => ?_) (fun h => ?_) | refine bnt (fun h => ?_) (fun h => ?_) | refine bcase (fun h => ?_) (fun h => ?_)) <;> (conv => whnf))
  any_goals exact kB hK (by simp [tableOK]; intros; omega)
  · have hok : tableOK den ps = piecesOK none ps := by
      unfold tableOK
      rw [show decide (1 ≤ den) = true by simp; omega, show decide (den ≤ 1000000) = true by simp; omega, show decide (1 ≤ ps.length) = true by simp; omega, show decide (ps.length ≤ 64) = true by simp; omega]
      simp
    refine sw_keep [1, 26, 27, 28] ?_
    refine sw_loop_ind (σ := List Piece × List Piece) (fun x => [(1, .ptr 0 0), (26, .imm (.isl 3 (ps.map Piece.cells))), (27, sI (ps.map Piece.cells).length), (28, sI x.1.length)])
      (fun _ => [.cells [sI den, .imm (.isl 3 (ps.map Piece.cells))]])
      (fun x => ps = x.1 ++ x.2 ∧ piecesOK none ps = piecesOK (lastLo x.1) x.2) (fun x => x.2.length) ?_ ([], ps) ⟨rfl, rfl⟩
    rintro ⟨done, rest⟩ ⟨ha, hv⟩ ih
    dsimp only at ha hv ih ⊢
    have hl2 : done.length + rest.length = ps.length := by rw [ha]; simp
    (refine sgo_sound [] 1000 ?_; conv => whnf)
    repeat' ((with_reducible first | refine bdec (fun h => ?_) (fun h => ?_) | refine bndec (fun h => ?_) (fun h => ?_) | refine bwtd (fun h => ?_) (fun h => ?_) | refine bwfd (fun h => ?_) (fun h => ?_) | refine bwtn (fun h => ?_) (fun h => ?_) | refine bwfn (fun h => ?_) (fun h => ?_) | refine bwtb (fun h => ?_) (fun h => ?_) | refine bwfb (fun h => ?_) (fun h => ?_) | refine bwt (fun h => ?_) (fun h => ?_) | refine bwf (fun h => ?_) (fun h => ?_) | refine bnt (fun h => ?_) (fun h => ?_) | refine bcase (fun h => ?_) (fun h => ?_)) <;> (conv => whnf))
    · cases rest with
      | nil => simp at hl2; omega
      | cons p rest =>
        have hw : IntKind.i64.wrap ((done.length : Int) + 1) = (((done ++ [p]).length : Nat) : Int) := by rw [wrap_succ (by omega)]; simp
        have bad : pieceOK (lastLo done) p = false → tableOK den ps = false := fun h => by rw [hok, hv, piecesOK, h]; rfl
        have good : pieceOK (lastLo done) p = true → piecesOK none ps = piecesOK (lastLo (done ++ [p])) rest := fun h => by rw [hv, piecesOK, h, lastLo_snoc]; rfl
        rcases split_last done with rfl | ⟨init, q, rfl⟩
        · refine swr_index rfl rfl rfl rfl rfl rfl rfl rfl  (row := p.cells) (by simp [ha]) ?_
          (refine sgor_sound [] 1000 ?_; conv => whnf)
          repeat' ((with_reducible first | refine bdec (fun h => ?_) (fun h => ?_) | refine bndec (fun h => ?_) (fun h => ?_) | refine bwtd (fun h => ?_) (fun h => ?_) | refine bwfd (fun h => ?_) (fun h => ?_) | refine bwtn (fun h => ?_) (fun h => ?_) | refine bwfn (fun h => ?_) (fun h => ?_) | refine bwtb (fun h => ?_) (fun h => ?_) | refine bwfb (fun h => ?_) (fun h => ?_) | refine bwt (fun h => ?_) (fun h => ?_) | refine bwf (fun h => ?_) (fun h => ?_) | refine bnt (fun h => ?_) (fun h => ?_) | refine bcase (fun h => ?_) (fun h => ?_)) <;> (conv => whnf))
          any_goals exact kB hK (bad (by simp [lastLo, pieceOK]; intros; omega))
          (refine swd_start mixed rfl ?_; refine sgod_sound [] ?_; conv => whnf)
          (refine sgo_sound [] 1000 ?_; conv => whnf)
          repeat' ((with_reducible first | refine bdec (fun h => ?_) (fun h => ?_) | refine bndec (fun h => ?_) (fun h => ?_) | refine bwtd (fun h => ?_) (fun h => ?_) | refine bwfd (fun h => ?_) (fun h => ?_) | refine bwtn (fun h => ?_) (fun h => ?_) | refine bwfn (fun h => ?_) (fun h => ?_) | refine bwtb (fun h => ?_) (fun h => ?_) | refine bwfb (fun h => ?_) (fun h => ?_) | refine bwt (fun h => ?_) (fun h => ?_) | refine bwf (fun h => ?_) (fun h => ?_) | refine bnt (fun h => ?_) (fun h => ?_) | refine bcase (fun h => ?_) (fun h => ?_)) <;> (conv => whnf))
          any_goals exact kB hK (bad (by simp [lastLo, pieceOK]; intros; omega))
          rw [hw]
          exact sw_kc [1, 26, 27, 28] 1 (by simp [hH]) (by simp) rfl rfl (ih ([] ++ [p], rest) ⟨by simp [ha], good (by simp [lastLo, pieceOK]; omega)⟩ (by simp))
        · have hil : (init ++ [q]).length = init.length + 1 := by simp
          have hm : IntKind.i64.wrap (((init ++ [q]).length : Int) - 1) = ((init.length : Nat) : Int) := by rw [wrap64 (by omega) (by omega)]; omega
          refine swr_index rfl rfl rfl rfl rfl rfl rfl rfl  (row := p.cells) (by simp [ha]) ?_
          (refine sgor_sound [] 1000 ?_; conv => whnf)
          repeat' ((with_reducible first | refine bdec (fun h => ?_) (fun h => ?_) | refine bndec (fun h => ?_) (fun h => ?_) | refine bwtd (fun h => ?_) (fun h => ?_) | refine bwfd (fun h => ?_) (fun h => ?_) | refine bwtn (fun h => ?_) (fun h => ?_) | refine bwfn (fun h => ?_) (fun h => ?_) | refine bwtb (fun h => ?_) (fun h => ?_) | refine bwfb (fun h => ?_) (fun h => ?_) | refine bwt (fun h => ?_) (fun h => ?_) | refine bwf (fun h => ?_) (fun h => ?_) | refine bnt (fun h => ?_) (fun h => ?_) | refine bcase (fun h => ?_) (fun h => ?_)) <;> (conv => whnf))
          any_goals (exfalso; omega)
          (refine swd_start mixed rfl ?_; refine sgod_sound [] ?_; conv => whnf)
          repeat' ((with_reducible first | refine bdec (fun h => ?_) (fun h => ?_) | refine bndec (fun h => ?_) (fun h => ?_) | refine bwtd (fun h => ?_) (fun h => ?_) | refine bwfd (fun h => ?_) (fun h => ?_) | refine bwtn (fun h => ?_) (fun h => ?_) | refine bwfn (fun h => ?_) (fun h => ?_) | refine bwtb (fun h => ?_) (fun h => ?_) | refine bwfb (fun h => ?_) (fun h => ?_) | refine bwt (fun h => ?_) (fun h => ?_) | refine bwf (fun h => ?_) (fun h => ?_) | refine bnt (fun h => ?_) (fun h => ?_) | refine bcase (fun h => ?_) (fun h => ?_)) <;> (conv => whnf))
          any_goals (exfalso; omega)
          refine swd_index rfl rfl rfl rfl rfl rfl rfl  hm (row := q.cells) (by simp [ha]) ?_
          (refine sgod_sound [] ?_; conv => whnf)
          repeat' ((with_reducible first | refine bdec (fun h => ?_) (fun h => ?_) | refine bndec (fun h => ?_) (fun h => ?_) | refine bwtd (fun h => ?_) (fun h => ?_) | refine bwfd (fun h => ?_) (fun h => ?_) | refine bwtn (fun h => ?_) (fun h => ?_) | refine bwfn (fun h => ?_) (fun h => ?_) | refine bwtb (fun h => ?_) (fun h => ?_) | refine bwfb (fun h => ?_) (fun h => ?_) | refine bwt (fun h => ?_) (fun h => ?_) | refine bwf (fun h => ?_) (fun h => ?_) | refine bnt (fun h => ?_) (fun h => ?_) | refine bcase (fun h => ?_) (fun h => ?_)) <;> (conv => whnf))
          all_goals (refine sgo_sound [] 1000 ?_; conv => whnf)
          all_goals repeat' ((with_reducible first | refine bdec (fun h => ?_) (fun h => ?_) | refine bndec (fun h => ?_) (fun h => ?_) | refine bwtd (fun h => ?_) (fun h => ?_) | refine bwfd (fun h => ?_) (fun h => ?_) | refine bwtn (fun h => ?_) (fun h => ?_) | refine bwfn (fun h => ?_) (fun h => ?_) | refine bwtb (fun h => ?_) (fun h => ?_) | refine bwfb (fun h => ?_) (fun h => ?_) | refine bwt (fun h => ?_) (fun h => ?_) | refine bwf (fun h => ?_) (fun h => ?_) | refine bnt (fun h => ?_) (fun h => ?_) | refine bcase (fun h => ?_) (fun h => ?_)) <;> (conv => whnf))
          any_goals exact kB hK (bad (by simp [lastLo, pieceOK]; intros; omega))
          rw [hw]
          exact sw_kc [1, 26, 27, 28] 1 (by simp [hH]) (by simp) rfl rfl (ih (init ++ [q] ++ [p], rest) ⟨by simp [ha], good (by simp [lastLo, pieceOK]; omega)⟩ (by simp))
    · cases rest with
      | nil => exact kB hK (by rw [hok, hv]; rfl)
      | cons p rest => simp at hl2; omega

end Go.Proofs.YtblpjknmhajcgaaGreatDoor

/- Contracts, part e: facts. -/
namespace Go.Proofs.YtblpjknmhajcgaaGreatDoor
open Go Go.Sh
set_option maxRecDepth 10000
variable (G : List (Nat × D))

def formed (f : Fact) : Bool := nameOK f.person && nameOK f.name &&
  decide (0 ≤ f.lo ∧ f.lo < f.hi ∧ f.hi ≤ 36525 ∧ 0 ≤ f.known ∧ f.known ≤ 36524 ∧ -1000000000000 ≤ f.value ∧ f.value ≤ 1000000000000) && (!f.gone || decide (f.value = 0))
def Fact.sv (f : Fact) : SV := .agg [sS f.person, sS f.name, sI f.lo, sI f.hi, sI f.known, sI f.value, sB f.gone]

def factsOK : Option Int → List Fact → Bool
  | _, [] => true
  | none, f :: r => formed f && factsOK (some f.known) r
  | some k, f :: r => formed f && decide (k ≤ f.known) && factsOK (some f.known) r
def storeOK (l : List Fact) : Bool := decide (l.length ≤ 400) && factsOK none l
def lastKnown (l : List Fact) : Option Int := l.getLast?.map (·.known)
end Go.Proofs.YtblpjknmhajcgaaGreatDoor

/- Contracts, part f: the reference's validity of stores; looking facts up. -/
namespace Go.Proofs.YtblpjknmhajcgaaGreatDoor
open Go Go.Sh
set_option maxRecDepth 10000
variable (G : List (Nat × D))


def hit (person name : ByteArray) (day known : Int) (f : Fact) : Bool :=
  decide (f.known ≤ known ∧ f.lo ≤ day ∧ day < f.hi ∧ f.name = name ∧ f.person = person)
def lastHit (q : Fact → Bool) : Nat → List Fact → Option (Nat × Fact)
  | _, [] => none
  | i, f :: r => match lastHit q (i + 1) r with
    | some x => some x
    | none => if q f then some (i, f) else none
def look (person name : ByteArray) (day known : Int) (l : List Fact) : Int × Int × Bool :=
  match lastHit (hit person name day known) 0 l with
  | none => (0, -1, false)
  | some (i, f) => if f.gone then (0, -1, false) else (f.value, i, true)
def lookIx (person name : ByteArray) (day known : Int) (l : List Fact) : Int :=
  match lastHit (hit person name day known) 0 l with
  | none => -1
  | some (i, _) => i
def lookSV (r : Int × Int × Bool) : SV := .tup [sI r.1, sI r.2.1, sB r.2.2]

def valueOf (person name : ByteArray) (day known : Int) (l : List Fact) : Int × Int × Bool :=
  if storeOK l then look person name day known l else (0, -1, false)
end Go.Proofs.YtblpjknmhajcgaaGreatDoor

/- Contracts, part g: comparing lists and views. -/
namespace Go.Proofs.YtblpjknmhajcgaaGreatDoor
open Go Go.Sh
set_option maxRecDepth 10000
variable (G : List (Nat × D))

end Go.Proofs.YtblpjknmhajcgaaGreatDoor

/- Contracts, part h: the version of an article. -/
namespace Go.Proofs.YtblpjknmhajcgaaGreatDoor
open Go Go.Sh
set_option maxRecDepth 10000
variable (G : List (Nat × D))

def live (number day known : Int) (a : Article) : Bool := decide (a.number = number ∧ a.lo ≤ day ∧ day < a.hi ∧ a.known ≤ known)
/-- one step: `found` is the version found so far, with its known day -/
def verStep (number day known : Int) (i : Nat) (a : Article) : Option (Nat × Int) → Option (Nat × Int)
  | none => if live number day known a then some (i, a.known) else none
  | some (j, k) => if live number day known a && decide (k ≤ a.known) then some (i, a.known) else some (j, k)
def verLoop (number day known : Int) : List Article → Nat → Option (Nat × Int) → Option (Nat × Int)
  | [], _, found => found
  | a :: r, i, found => verLoop number day known r (i + 1) (verStep number day known i a found)
def version (arts : List Article) (number day known : Int) : Option Nat := (verLoop number day known arts 0 none).map (·.1)
def verI : Option (Nat × Int) → Int
  | none => -1
  | some (i, _) => i
def versionSV (r : Option Nat) : SV := .tup [sI (match r with | none => 0 | some i => i), sB r.isSome]

end Go.Proofs.YtblpjknmhajcgaaGreatDoor

/- Contracts, part i: units, proper names of the reference; the calendar. -/
namespace Go.Proofs.YtblpjknmhajcgaaGreatDoor
open Go Go.Sh
set_option maxRecDepth 10000
variable (G : List (Nat × D))

def leap (y : Int) : Bool := decide (y.tmod 4 = 0 ∧ (y.tmod 100 ≠ 0 ∨ y.tmod 400 = 0))
theorem leap_iff {y : Int} (hy : 2000 ≤ y ∧ y ≤ 2099) : leap y = decide (y.tmod 4 = 0) := by
  have e1 := Int.tmod_eq_emod_of_nonneg (a := y) (b := 4) (by omega)
  have e2 := Int.tmod_eq_emod_of_nonneg (a := y) (b := 100) (by omega)
  have e3 := Int.tmod_eq_emod_of_nonneg (a := y) (b := 400) (by omega)
  unfold leap
  rw [decide_eq_decide, e1, e2, e3]
  omega

def daysIn (y m : Int) : Int := if m = 4 ∨ m = 6 ∨ m = 9 ∨ m = 11 then 30 else if m = 2 then (if leap y then 29 else 28) else 31
def dBefore : D := .row ([0, 31, 59, 90, 120, 151, 181, 212, 243, 273, 304, 334, 365].map dI) 0
def G0 : List (Nat × D) := [(0, dBefore)]
theorem lengthOf_spec (y m : Int) (hm : 0 ≤ m ∧ m < 12) (hy : 2000 ≤ y ∧ y ≤ 2099) : SPure Tryz.prog G0 137 [sI y, sI m] (sI (daysIn y (m + 1))) := by
  refine spure_enter Tryz.func137 rfl (by rw [Tryz.ntmps137]; simp) rfl rfl ?_; intro E hH hK
  have hc : m = 0 ∨ m = 1 ∨ m = 2 ∨ m = 3 ∨ m = 4 ∨ m = 5 ∨ m = 6 ∨ m = 7 ∨ m = 8 ∨ m = 9 ∨ m = 10 ∨ m = 11 := by omega
  rcases hc with rfl | rfl | rfl | rfl | rfl | rfl | rfl | rfl | rfl | rfl | rfl | rfl
  all_goals (refine sgo_sound [] 1000 ?_; conv => whnf)
  all_goals (refine swd_start mixed rfl ?_; refine sgod_sound [] ?_; conv => whnf)
  all_goals (refine sgo_sound [] 1000 ?_; conv => whnf)
  all_goals repeat' ((with_reducible first | refine bdec (fun h => ?_) (fun h => ?_) | refine bndec (fun h => ?_) (fun h => ?_) | refine bwtd (fun h => ?_) (fun h => ?_) | refine bwfd (fun h => ?_) (fun h => ?_) | refine bwtn (fun h => ?_) (fun h => ?_) | refine bwfn (fun h => ?_) (fun h => ?_) | refine bwtb (fun h => ?_) (fun h => ?_) | refine bwfb (fun h => ?_) (fun h => ?_) | refine bwt (fun h => ?_) (fun h => ?_) | refine bwf (fun h => ?_) (fun h => ?_) | refine bnt (fun h => ?_) (fun h => ?_) | refine bcase (fun h => ?_) (fun h => ?_)) <;> (conv => whnf))
  any_goals exact kI hK rfl
  · exact kI hK (by rw [daysIn, leap_iff hy, h]; rfl)
  · exact kI hK (by rw [daysIn, leap_iff hy, decide_eq_false h]; rfl)

end Go.Proofs.YtblpjknmhajcgaaGreatDoor

/- Contracts, part j: the months of the calendar. -/
namespace Go.Proofs.YtblpjknmhajcgaaGreatDoor
open Go Go.Sh
set_option maxRecDepth 10000

def lenOf (m : Nat) : Int := daysIn (2000 + (m / 12 : Nat)) ((m % 12 : Nat) + 1)
def firstOf : Nat → Int
  | 0 => 0
  | m + 1 => firstOf m + lenOf m
def tableB (k : Nat) : Int := ([0, 31, 59, 90, 120, 151, 181, 212, 243, 273, 304, 334, 365] : List Int).getD k 0
def closedB (m : Nat) : Int := (m / 12 : Nat) * 365 + (((m / 12 : Nat) : Int) + 3) / 4 + tableB (m % 12) + (if 1 < m % 12 ∧ (m / 12) % 4 = 0 then 1 else 0)

theorem lenOf_eq (m : Nat) (hm : m < 1200) : lenOf m = tableB (m % 12 + 1) - tableB (m % 12) + (if m % 12 = 1 ∧ (m / 12) % 4 = 0 then 1 else 0) := by
  have hy : 2000 ≤ 2000 + ((m / 12 : Nat) : Int) ∧ 2000 + ((m / 12 : Nat) : Int) ≤ 2099 := by omega
  have hl := leap_iff hy
  have e : (2000 + ((m / 12 : Nat) : Int)).tmod 4 = 0 ↔ (m / 12) % 4 = 0 := by
    rw [Int.tmod_eq_emod_of_nonneg (by omega)]; omega
  have hc : m % 12 = 0 ∨ m % 12 = 1 ∨ m % 12 = 2 ∨ m % 12 = 3 ∨ m % 12 = 4 ∨ m % 12 = 5 ∨ m % 12 = 6 ∨ m % 12 = 7 ∨ m % 12 = 8 ∨ m % 12 = 9 ∨ m % 12 = 10 ∨ m % 12 = 11 := by omega
  unfold lenOf daysIn
  rw [hl]
  rw [show decide ((2000 + ((m / 12 : Nat) : Int)).tmod 4 = 0) = decide ((m / 12) % 4 = 0) from decide_eq_decide.2 e]
  rcases hc with h | h | h | h | h | h | h | h | h | h | h | h <;> rw [h] <;> simp [tableB]
  split <;> rfl

theorem closed_eq (m : Nat) (hm : m ≤ 1200) : closedB m = firstOf m := by
  induction m with
  | zero => rfl
  | succ m ih =>
    rw [firstOf, ← ih (by omega), lenOf_eq m (by omega)]
    unfold closedB
    have hc : m % 12 = 0 ∨ m % 12 = 1 ∨ m % 12 = 2 ∨ m % 12 = 3 ∨ m % 12 = 4 ∨ m % 12 = 5 ∨ m % 12 = 6 ∨ m % 12 = 7 ∨ m % 12 = 8 ∨ m % 12 = 9 ∨ m % 12 = 10 ∨ m % 12 = 11 := by omega
    rcases hc with h | h | h | h | h | h | h | h | h | h | h | h
    case inr.inr.inr.inr.inr.inr.inr.inr.inr.inr.inr =>
      have h1 : (m + 1) % 12 = 0 := by omega
      have h2 : (m + 1) / 12 = m / 12 + 1 := by omega
      rw [h, h1, h2]
      simp [tableB]
      split <;> omega
    all_goals
      have h1 : (m + 1) % 12 = m % 12 + 1 := by omega
      have h2 : (m + 1) / 12 = m / 12 := by omega
      rw [h1, h2, h]
      simp [tableB]
      try omega

def firstDay (m : Int) : Int := if 0 ≤ m ∧ m ≤ 1199 then firstOf m.toNat else -1
def monthLen (m : Int) : Int := if 0 ≤ m ∧ m ≤ 1199 then lenOf m.toNat else 0

theorem firstOf_bound : ∀ m : Nat, 28 * (m : Int) ≤ firstOf m ∧ firstOf m ≤ 31 * (m : Int)
  | 0 => by simp [firstOf]
  | m + 1 => by
    have := firstOf_bound m
    have h : 28 ≤ lenOf m ∧ lenOf m ≤ 31 := by
      unfold lenOf daysIn
      split
      · omega
      · split
        · split <;> omega
        · omega
    simp only [firstOf]
    omega

variable (G : List (Nat × D))
end Go.Proofs.YtblpjknmhajcgaaGreatDoor

/- What the row statements of law 11 share: the table of the calendar, a world for the witness, the types. -/
namespace Go.Proofs.YtblpjknmhajcgaaGreatDoor
open Go Go.Sh Go.ChangeShapes Go.WideShapes Go.ChangeAt Go.RowKit
set_option maxRecDepth 100000

theorem own : ownKnob Tryz.prog.godebug = none := by kernel_rfl
theorem gTab : Tryz.prog.globalNamed "wageoffice/calendar.before" = some 0 := by kernel_rfl
theorem gTabType : (Tryz.prog.globals[0]?).map (·.type) = some 203 := by kernel_rfl
theorem czTab : Tryz.prog.cellsOf 203 = 13 := by kernel_rfl
theorem kids : Kids Tryz.prog (· < Tryz.prog.types.size) := kids_rows (by kernel_rfl) (by kernel_rfl)
theorem full : ∀ t e, t < Tryz.prog.types.size → Tryz.prog.underlying t = some (.slice e) → 0 < Tryz.prog.cellsOf e := slices_full_of Tryz.prog (by kernel_rfl)

def tabNums : List Int := [0, 31, 59, 90, 120, 151, 181, 212, 243, 273, 304, 334, 365]
theorem table {W : World} (h : laidMetH Tryz.prog [("wageoffice/calendar.before", Rows.laid_wageoffice_calendar_before)] W) : Lib.TabIs Tryz.prog W "wageoffice/calendar.before" .i64 tabNums :=
  Lib.tabIs_of_head (rest := []) gTab gTabType Tryz.underlying203 Tryz.underlying3 czInt czTab h

theorem globals_ok {W : World} (h : laidMetH Tryz.prog [("wageoffice/calendar.before", Rows.laid_wageoffice_calendar_before)] W) : ∀ g d, (g, d) ∈ G0 → DRep W (allI W) (.pointer (some ⟨g, 0, none⟩)) d := by
  intro g d hg
  simp only [G0, List.mem_singleton] at hg
  cases hg
  have hc := fun i hi => (table h).cell gTab i hi
  have hb : 0 < W.heap.size := (spot_none (hc 0 (by decide))).2
  refine .row 0 0 _ 0 (fun j => .int .i64 (tabNums.getD j 0)) (fun j hj => ?_) (fun j hj => ?_)
  · have hj' : j < tabNums.length := by simpa [tabNums] using hj
    rw [Nat.zero_add]
    exact ⟨hb, hc j hj', rfl⟩
  · have hj' : j < tabNums.length := by simpa [tabNums] using hj
    have e : ([0, 31, 59, 90, 120, 151, 181, 212, 243, 273, 304, 334, 365].map dI)[j]'hj = dI (tabNums.getD j 0) := by
      simp only [List.getElem_map]
      rw [List.getD_eq_getElem?_getD, List.getElem?_eq_getElem hj']
      rfl
    rw [e]
    exact .val _

/-- A world for the witness: the settled one, with the table as its initialiser lays it. -/
noncomputable def laidWorld (os : Os) : World :=
  { World.holding Tryz.prog os ⟨#[], #[], []⟩ with heap := (World.holding Tryz.prog os ⟨#[], #[], []⟩).heap.modify 0 fun
      | .cells _ t frozen => .cells #[.int .i64 0, .int .i64 31, .int .i64 59, .int .i64 90, .int .i64 120, .int .i64 151, .int .i64 181, .int .i64 212, .int .i64 243, .int .i64 273, .int .i64 304, .int .i64 334, .int .i64 365] t frozen
      | o => o }
theorem laid_met (os : Os) (args : Array Value) : laidMet Tryz.prog [("wageoffice/calendar.before", Rows.laid_wageoffice_calendar_before)] ((laidWorld os).forCall (fun _ _ => 0) ⟨#[], args, []⟩).memory :=
  laidMet_of_run' 8 (by kernel_rfl) (by kernel_rfl)
theorem resBool : Tryz.prog.underlying 4 = some .bool := Tryz.underlying4
end Go.Proofs.YtblpjknmhajcgaaGreatDoor

/- Contracts, part k: names by way of the parser; the reference's names. -/
namespace Go.Proofs.YtblpjknmhajcgaaGreatDoor
open Go Go.Sh
set_option maxRecDepth 10000
variable (G : List (Nat × D))

/-- the node of a name, as its cells -/
def refNode (s : ByteArray) : List SV := [sI 12, sS s, sS ⟨#[]⟩, sI 0, sI 0, sI 0, sI 0, sI 0, .imm (.val (.slice none 0 0)), .imm (.val (.slice none 0 0)), sI 0]
def bareNode (s : ByteArray) : List SV := [sI 0, sS s, sS ⟨#[]⟩, sI 0, sI 0, sI 0, sI 0, sI 0, .imm (.val (.slice none 0 0)), .imm (.val (.slice none 0 0)), sI 0]

theorem equalPieces_nil : SPure Tryz.prog G 146 [.imm (.val (.slice none 0 0)), .imm (.val (.slice none 0 0))] (sB true) := by
  refine spure_enter Tryz.func146 rfl (by rw [Tryz.ntmps146]; simp) rfl rfl ?_; intro E hH hK
  (refine sgo_sound [] 1000 ?_; conv => whnf)
  refine sw_loop ?_
  (refine sgo_sound [] 1000 ?_; conv => whnf)
  exact hK _

theorem bare_spec (s : ByteArray) : SPure Tryz.prog G 153 [.agg (refNode s), .agg (bareNode s)] (sB true) := by
  refine spure_enter Tryz.func153 rfl (by rw [Tryz.ntmps153]; simp) rfl rfl ?_; intro E hH hK
  (refine sgo_sound [] 1000 ?_; conv => whnf)
  repeat' ((with_reducible first | refine bdec (fun h => ?_) (fun h => ?_) | refine bndec (fun h => ?_) (fun h => ?_) | refine bwtd (fun h => ?_) (fun h => ?_) | refine bwfd (fun h => ?_) (fun h => ?_) | refine bwtn (fun h => ?_) (fun h => ?_) | refine bwfn (fun h => ?_) (fun h => ?_) | refine bwtb (fun h => ?_) (fun h => ?_) | refine bwfb (fun h => ?_) (fun h => ?_) | refine bwt (fun h => ?_) (fun h => ?_) | refine bwf (fun h => ?_) (fun h => ?_) | refine bnt (fun h => ?_) (fun h => ?_) | refine bcase (fun h => ?_) (fun h => ?_)) <;> (conv => whnf))
  all_goals try (exact absurd rfl ‹¬ _›)
  all_goals try (exfalso; omega)
  refine swr_pure rfl rfl rfl rfl rfl rfl  (equalPieces_nil G) ?_
  (refine sgor_sound [] 1000 ?_; conv => whnf)
  exact hK _

theorem node_spec (s : ByteArray) : SPre Tryz.prog G 152 [.ptr 1 0, .agg (refNode s), sI 1] [.cells (refNode s), .cells [sI 0]] (fun r H1 => r = sB true ∧ H1 = [.cells (refNode s), .cells [sI 1]]) := by
  refine spre_enter Tryz.func152 rfl (by rw [Tryz.ntmps152]; simp) rfl rfl ?_
  intro E hH hK
  (refine sgo_sound [] 1000 ?_; conv => whnf)
  exact hK _ _ (by simp) rfl rfl ⟨rfl, rfl⟩

theorem exprRef_spec (s : ByteArray) : SPre Tryz.prog G 151 [.ptr 1 0, .agg (refNode s), sI 1] [.cells (refNode s), .cells [sI 0]] (fun r H1 => r = sB (properName s) ∧ H1 = [.cells (refNode s), .cells [sI 1]]) := by
  refine spre_enter Tryz.func151 rfl (by rw [Tryz.ntmps151]; simp) rfl rfl ?_
  intro E hH hK
  (refine sgo_sound [] 1000 ?_; conv => whnf)
  refine swr_pre 2 rfl rfl rfl rfl rfl rfl (node_spec G s) ?_
  rintro r H1 ⟨rfl, rfl⟩ _
  (refine sgor_sound [] 1000 ?_; conv => whnf)
  refine swr_pure rfl rfl rfl rfl rfl rfl  (goodName_spec G s) ?_
  (refine sgor_sound [] 1000 ?_; conv => whnf)
  repeat' ((with_reducible first | refine bdec (fun h => ?_) (fun h => ?_) | refine bndec (fun h => ?_) (fun h => ?_) | refine bwtd (fun h => ?_) (fun h => ?_) | refine bwfd (fun h => ?_) (fun h => ?_) | refine bwtn (fun h => ?_) (fun h => ?_) | refine bwfn (fun h => ?_) (fun h => ?_) | refine bwtb (fun h => ?_) (fun h => ?_) | refine bwfb (fun h => ?_) (fun h => ?_) | refine bwt (fun h => ?_) (fun h => ?_) | refine bwf (fun h => ?_) (fun h => ?_) | refine bnt (fun h => ?_) (fun h => ?_) | refine bcase (fun h => ?_) (fun h => ?_)) <;> (conv => whnf))
  · refine swr_pure rfl rfl rfl rfl rfl rfl  (bare_spec G s) ?_
    (refine sgor_sound [] 1000 ?_; conv => whnf)
    rw [h] at hK
    exact hK _ _ (by simp) rfl rfl ⟨rfl, rfl⟩
  · rw [h] at hK
    exact hK _ _ (by simp) rfl rfl ⟨rfl, rfl⟩

theorem parserValid_spec (s : ByteArray) : SPure Tryz.prog G 122 [.agg (refNode s)] (sB (properName s)) := by
  refine spure_enter Tryz.func122 rfl (by rw [Tryz.ntmps122]; simp) rfl rfl ?_; intro E hH hK
  (refine sgo_sound [] 1000 ?_; conv => whnf)
  refine swr_pre 2 rfl rfl rfl rfl rfl rfl (exprRef_spec G s) ?_
  rintro r H1 ⟨rfl, rfl⟩ _
  (refine sgor_sound [] 1000 ?_; conv => whnf)
  exact hK _

theorem codexName_spec (s : ByteArray) : SPure Tryz.prog G 88 [sS s] (sB (properName s)) := by
  refine spure_enter Tryz.func88 rfl (by rw [Tryz.ntmps88]; simp) rfl rfl ?_; intro E hH hK
  (refine sgo_sound [] 1000 ?_; conv => whnf)
  refine swr_pure rfl rfl rfl rfl rfl rfl  (parserValid_spec G s) ?_
  (refine sgor_sound [] 1000 ?_; conv => whnf)
  exact hK _

end Go.Proofs.YtblpjknmhajcgaaGreatDoor

/- Contracts, part l: declarations. -/
namespace Go.Proofs.YtblpjknmhajcgaaGreatDoor
open Go Go.Sh
set_option maxRecDepth 10000
variable (G : List (Nat × D))

theorem under_enc {κ α : Type} (n : Nat) (f : α → SV) (hf : ∀ a, (f a).under n = true) (l : List (κ × α)) : (encM f l).all (fun e => e.2.under n) = true := by
  simp only [encM, List.all_map]
  exact List.all_eq_true.2 fun p _ => hf p.2
theorem underSB (n : Nat) (l : List (ByteArray × Bool)) : SObj.under n (.mapS (encM sB l)) = true := under_enc n sB (fun _ => rfl) l
theorem underII (n : Nat) (l : List (Int × Int)) : SObj.under n (.mapI .i64 (encM sI l)) = true := under_enc n sI (fun _ => rfl) l

def declOne (lo hi : Int) (d : Decl) : Bool := properName d.name && unitOK d.unit && decide (lo ≤ d.role ∧ d.role ≤ hi)
def declsOK (lo hi : Int) (l : List Decl) : Bool := l.all (declOne lo hi) && decide ((l.map (·.name)).Nodup)

theorem declsOK_bad {lo hi : Int} {done rest : List Decl} {d : Decl} (h : declOne lo hi d = false ∨ d.name ∈ done.map (·.name)) : declsOK lo hi (done ++ d :: rest) = false := by
  rcases h with h | h
  · simp [declsOK, h]
  · simp only [declsOK, Bool.and_eq_false_iff, decide_eq_false_iff_not]
    right
    rw [List.map_append, List.map_cons, List.nodup_append]
    exact fun ⟨_, _, h3⟩ => h3 _ h _ (by simp) rfl

theorem goodDecls_spec (l : List Decl) (lo hi : Int) (hsz : l.length ≤ 1073741824) : SPure Tryz.prog G 58 [.imm (dDecls l), sI lo, sI hi] (sB (declsOK lo hi l)) := by
  refine spure_enter Tryz.func58 rfl (by rw [Tryz.ntmps58]; simp) rfl rfl ?_; intro E hH hK
  have hlen : (l.map Decl.cells).length = l.length := by simp
  (refine sgo_sound [] 1000 ?_; conv => whnf)
  refine sw_keep [1, 2, 7, 11, 12, 13] ?_
  refine sw_each l (fun i (_ : List (ByteArray × Bool)) => [(1, sI lo), (2, sI hi), (7, .map 0), (11, .imm (dDecls l)), (12, sI (l.map Decl.cells).length), (13, sI i)]) (fun _ m => [.mapS (encM sB m)])
    (fun done _ m => done.all (declOne lo hi) = true ∧ (done.map (·.name)).Nodup ∧ ∀ s, alook s m = if s ∈ done.map (·.name) then some true else none) [] ⟨rfl, List.nodup_nil, fun s => rfl⟩ ?_ ?_
  · rintro m ⟨h1, h2, _⟩
    (refine sgo_sound [] 1000 ?_; conv => whnf)
    repeat' ((with_reducible first | refine bdec (fun h => ?_) (fun h => ?_) | refine bndec (fun h => ?_) (fun h => ?_) | refine bwtd (fun h => ?_) (fun h => ?_) | refine bwfd (fun h => ?_) (fun h => ?_) | refine bwtn (fun h => ?_) (fun h => ?_) | refine bwfn (fun h => ?_) (fun h => ?_) | refine bwtb (fun h => ?_) (fun h => ?_) | refine bwfb (fun h => ?_) (fun h => ?_) | refine bwt (fun h => ?_) (fun h => ?_) | refine bwf (fun h => ?_) (fun h => ?_) | refine bnt (fun h => ?_) (fun h => ?_) | refine bcase (fun h => ?_) (fun h => ?_)) <;> (conv => whnf))
    all_goals try (exfalso; omega)
    exact kB hK (by simp only [declsOK, h1, h2]; rfl)
  · rintro done d rest m ha hl ⟨h1, h2, h3⟩ ih
    have hw := wrap_succ (n := done.length) (by omega)
    have bad : declOne lo hi d = false ∨ d.name ∈ done.map (·.name) → declsOK lo hi l = false := fun h => by rw [ha]; exact declsOK_bad h
    have next : declOne lo hi d = true → d.name ∉ done.map (·.name) → _ := fun g1 g2 => ih (ains d.name true m) ⟨by simp [h1, g1], by
      rw [List.map_append, List.nodup_append]; exact ⟨h2, by simp, fun a ha b hb e => g2 (by simp at hb; rw [← hb, ← e]; exact ha)⟩, fun s => by
      rw [alook_ains, h3]; simp only [List.map_append, List.mem_append, List.map_cons, List.map_nil, List.mem_singleton]
      by_cases e : s = d.name
      · subst e; simp
      · simp [e]⟩
    have hl3 := h3 d.name
    (refine sgo_sound [] 1000 ?_; conv => whnf)
    repeat' ((with_reducible first | refine bdec (fun h => ?_) (fun h => ?_) | refine bndec (fun h => ?_) (fun h => ?_) | refine bwtd (fun h => ?_) (fun h => ?_) | refine bwfd (fun h => ?_) (fun h => ?_) | refine bwtn (fun h => ?_) (fun h => ?_) | refine bwfn (fun h => ?_) (fun h => ?_) | refine bwtb (fun h => ?_) (fun h => ?_) | refine bwfb (fun h => ?_) (fun h => ?_) | refine bwt (fun h => ?_) (fun h => ?_) | refine bwf (fun h => ?_) (fun h => ?_) | refine bnt (fun h => ?_) (fun h => ?_) | refine bcase (fun h => ?_) (fun h => ?_)) <;> (conv => whnf))
    all_goals try (exfalso; omega)
    refine swr_index rfl rfl rfl rfl rfl rfl rfl rfl  (row := d.cells) (by simp [ha]) ?_
    (refine sgor_sound [] 1000 ?_; conv => whnf)
    refine swr_pure rfl rfl rfl rfl rfl rfl  (codexName_spec G d.name) ?_
    (refine sgor_sound [] 1000 ?_; conv => whnf)
    repeat' ((with_reducible first | refine bdec (fun h => ?_) (fun h => ?_) | refine bndec (fun h => ?_) (fun h => ?_) | refine bwtd (fun h => ?_) (fun h => ?_) | refine bwfd (fun h => ?_) (fun h => ?_) | refine bwtn (fun h => ?_) (fun h => ?_) | refine bwfn (fun h => ?_) (fun h => ?_) | refine bwtb (fun h => ?_) (fun h => ?_) | refine bwfb (fun h => ?_) (fun h => ?_) | refine bwt (fun h => ?_) (fun h => ?_) | refine bwf (fun h => ?_) (fun h => ?_) | refine bnt (fun h => ?_) (fun h => ?_) | refine bcase (fun h => ?_) (fun h => ?_)) <;> (conv => whnf))
    · have hname : properName d.name = true := h
      by_cases hin : d.name ∈ done.map (·.name)
      · rw [if_pos hin] at hl3
        refine swr_lookS sB rfl rfl rfl rfl rfl rfl rfl rfl rfl (v := sB true) (by rw [hl3]; rfl) ?_
        (refine sgor_sound [] 1000 ?_; conv => whnf)
        exact kB hK (bad (.inr hin))
      · rw [if_neg hin] at hl3
        refine swr_lookS sB rfl rfl rfl rfl rfl rfl rfl rfl rfl (v := sB false) (by rw [hl3]; rfl) ?_
        (refine sgor_sound [] 1000 ?_; conv => whnf)
        refine swr_pure rfl rfl rfl rfl rfl rfl  (isUnit_spec G d.unit) ?_
        (refine sgor_sound [] 1000 ?_; conv => whnf)
        repeat' ((with_reducible first | refine bdec (fun h => ?_) (fun h => ?_) | refine bndec (fun h => ?_) (fun h => ?_) | refine bwtd (fun h => ?_) (fun h => ?_) | refine bwfd (fun h => ?_) (fun h => ?_) | refine bwtn (fun h => ?_) (fun h => ?_) | refine bwfn (fun h => ?_) (fun h => ?_) | refine bwtb (fun h => ?_) (fun h => ?_) | refine bwfb (fun h => ?_) (fun h => ?_) | refine bwt (fun h => ?_) (fun h => ?_) | refine bwf (fun h => ?_) (fun h => ?_) | refine bnt (fun h => ?_) (fun h => ?_) | refine bcase (fun h => ?_) (fun h => ?_)) <;> (conv => whnf))
        any_goals exact kB hK (bad (.inl (by simp [declOne, *]; try omega)))
        refine swr_setS sB true rfl rfl rfl rfl rfl rfl rfl rfl rfl ?_
        (refine sgor_sound [] 1000 ?_; conv => whnf)
        rw [hw]
        exact sw_kc [1, 2, 7, 11, 12, 13] 1 (by simp [hH]) (by simp) rfl (by simp [underSB]) (next (by simp [declOne, *]; omega) hin)
    · exact kB hK (bad (.inl (by simp [declOne, h])))

def declIx (s : ByteArray) : List Decl → Nat → Int
  | [], _ => -1
  | d :: r, i => if d.name = s then i else declIx s r (i + 1)

end Go.Proofs.YtblpjknmhajcgaaGreatDoor

/- Contracts, part m: the units of expressions. -/
namespace Go.Proofs.YtblpjknmhajcgaaGreatDoor
open Go Go.Sh
set_option maxRecDepth 10000
set_option maxHeartbeats 2000000
variable (G : List (Nat × D))

abbrev tT : ByteArray := ⟨#[116, 114, 117, 116, 104]⟩
abbrev tN : ByteArray := ⟨#[110, 117, 109, 98, 101, 114]⟩
abbrev tM : ByteArray := ⟨#[109, 105, 110, 117, 116, 101, 115]⟩
def sameU : List Ex → Bool
  | [] => true
  | k0 :: r => (k0 :: r).all fun x => decide (x.unit = k0.unit)

theorem same_spec (ks : List Ex) (hsz : ks.length ≤ 1073741824) : SPure Tryz.prog G 175 [.imm (.isl 6 (exprRows ks))] (sB (sameU ks)) := by
  refine spure_enter Tryz.func175 rfl (by rw [Tryz.ntmps175]; simp) rfl rfl ?_; intro E hH hK
  rw [exprRows_eq]
  have hlen : (ks.map Ex.cells).length = ks.length := by simp
  (refine sgo_sound [] 1000 ?_; conv => whnf)
  refine sw_keep [0, 5, 6, 7] ?_
  refine sw_each ks (fun i (_ : Unit) => [(0, .imm (.isl 6 (ks.map Ex.cells))), (5, .imm (.isl 6 (ks.map Ex.cells))), (6, sI (ks.map Ex.cells).length), (7, sI i)]) (fun _ _ => [])
    (fun done rest _ => sameU ks = true ∨ ∃ k0, ks.head? = some k0 ∧ sameU ks = rest.all fun x => decide (x.unit = k0.unit)) () (by
      cases ks with
      | nil => exact .inl rfl
      | cons k0 r => exact .inr ⟨k0, rfl, rfl⟩) ?_ ?_
  · rintro _ h1
    (refine sgo_sound [] 1000 ?_; conv => whnf)
    repeat' ((with_reducible first | refine bdec (fun h => ?_) (fun h => ?_) | refine bndec (fun h => ?_) (fun h => ?_) | refine bwtd (fun h => ?_) (fun h => ?_) | refine bwfd (fun h => ?_) (fun h => ?_) | refine bwtn (fun h => ?_) (fun h => ?_) | refine bwfn (fun h => ?_) (fun h => ?_) | refine bwtb (fun h => ?_) (fun h => ?_) | refine bwfb (fun h => ?_) (fun h => ?_) | refine bwt (fun h => ?_) (fun h => ?_) | refine bwf (fun h => ?_) (fun h => ?_) | refine bnt (fun h => ?_) (fun h => ?_) | refine bcase (fun h => ?_) (fun h => ?_)) <;> (conv => whnf))
    all_goals try (exfalso; omega)
    exact kB hK (by rcases h1 with h1 | ⟨k0, _, h1⟩ <;> rw [h1]; rfl)
  · rintro done x rest _ ha hl h1 ih
    have hw := wrap_succ (n := done.length) (by omega)
    obtain ⟨k0, hk0, hs⟩ : ∃ k0, ks.head? = some k0 ∧ (sameU ks = true ∨ sameU ks = (x :: rest).all fun x => decide (x.unit = k0.unit)) := by
      rcases h1 with h1 | ⟨k0, h2, h3⟩
      · cases ks with
        | nil => simp at ha
        | cons k0 r => exact ⟨k0, rfl, .inl h1⟩
      · exact ⟨k0, h2, .inr h3⟩
    have h0 : (ks.map Ex.cells)[0]? = some k0.cells := by
      cases ks with
      | nil => simp at hk0
      | cons a r => simp at hk0; simp [hk0]
    have hxk : sameU ks = true → x.unit = k0.unit := fun h => by
      cases ks with
      | nil => simp at ha
      | cons a r =>
        simp at hk0; subst hk0
        have := List.all_eq_true.1 h x (by rw [ha]; simp)
        simpa using this
    obtain ⟨o1, n1, u1, d1, p1, q1⟩ := x
    obtain ⟨o0, n0, u0, d0, p0, q0⟩ := k0
    (refine sgo_sound [] 1000 ?_; conv => whnf)
    repeat' ((with_reducible first | refine bdec (fun h => ?_) (fun h => ?_) | refine bndec (fun h => ?_) (fun h => ?_) | refine bwtd (fun h => ?_) (fun h => ?_) | refine bwfd (fun h => ?_) (fun h => ?_) | refine bwtn (fun h => ?_) (fun h => ?_) | refine bwfn (fun h => ?_) (fun h => ?_) | refine bwtb (fun h => ?_) (fun h => ?_) | refine bwfb (fun h => ?_) (fun h => ?_) | refine bwt (fun h => ?_) (fun h => ?_) | refine bwf (fun h => ?_) (fun h => ?_) | refine bnt (fun h => ?_) (fun h => ?_) | refine bcase (fun h => ?_) (fun h => ?_)) <;> (conv => whnf))
    all_goals try (exfalso; omega)
    refine swr_index rfl rfl rfl rfl rfl rfl rfl rfl  (row := (Ex.mk o1 n1 u1 d1 p1 q1).cells) (by simp [ha]) ?_
    (refine sgor_sound [] 1000 ?_; conv => whnf)
    (refine swd_start mixed rfl ?_; refine sgod_sound [] ?_; conv => whnf)
    refine swd_index rfl rfl rfl rfl rfl rfl rfl rfl  (row := (Ex.mk o0 n0 u0 d0 p0 q0).cells) h0 ?_
    (refine sgod_sound [] ?_; conv => whnf)
    (refine sgo_sound [] 1000 ?_; conv => whnf)
    repeat' ((with_reducible first | refine bdec (fun h => ?_) (fun h => ?_) | refine bndec (fun h => ?_) (fun h => ?_) | refine bwtd (fun h => ?_) (fun h => ?_) | refine bwfd (fun h => ?_) (fun h => ?_) | refine bwtn (fun h => ?_) (fun h => ?_) | refine bwfn (fun h => ?_) (fun h => ?_) | refine bwtb (fun h => ?_) (fun h => ?_) | refine bwfb (fun h => ?_) (fun h => ?_) | refine bwt (fun h => ?_) (fun h => ?_) | refine bwf (fun h => ?_) (fun h => ?_) | refine bnt (fun h => ?_) (fun h => ?_) | refine bcase (fun h => ?_) (fun h => ?_)) <;> (conv => whnf))
    · exact kB hK (by
        cases hsk : sameU ks with
        | false => rfl
        | true => exact absurd (hxk hsk) h)
    · rw [hw]
      refine sw_kc [0, 5, 6, 7] 0 (by simp [hH]) (by simp) rfl rfl (ih () ?_)
      rcases hs with hs | hs
      · exact .inl hs
      · exact .inr ⟨_, hk0, by rw [hs]; simp [Ex.unit, h]⟩

theorem product_spec (a b : ByteArray) : SPure Tryz.prog G 176 [sS a, sS b] (sS (if a = tN then b else a)) := by
  refine spure_enter Tryz.func176 rfl (by rw [Tryz.ntmps176]; simp) rfl rfl ?_; intro E hH hK
  (refine sgo_sound [] 1000 ?_; conv => whnf)
  repeat' ((with_reducible first | refine bdec (fun h => ?_) (fun h => ?_) | refine bndec (fun h => ?_) (fun h => ?_) | refine bwtd (fun h => ?_) (fun h => ?_) | refine bwfd (fun h => ?_) (fun h => ?_) | refine bwtn (fun h => ?_) (fun h => ?_) | refine bwfn (fun h => ?_) (fun h => ?_) | refine bwtb (fun h => ?_) (fun h => ?_) | refine bwfb (fun h => ?_) (fun h => ?_) | refine bwt (fun h => ?_) (fun h => ?_) | refine bwf (fun h => ?_) (fun h => ?_) | refine bnt (fun h => ?_) (fun h => ?_) | refine bcase (fun h => ?_) (fun h => ?_)) <;> (conv => whnf))
  · rw [if_pos h] at hK; exact hK _
  · rw [if_neg h] at hK; exact hK _

/-- operations with kids: the first, the last, how many, whether all units are alike -/
def opOK (op : Int) (u : ByteArray) (f l : Ex) (len : Int) (same : Bool) : Bool :=
  if op = 5 then decide (len = 1) && decide (u = tT) && decide (f.unit = tT)
  else if op = 6 ∨ op = 7 then decide (len = 2) && decide (u = tT) && same && decide (f.unit = tT)
  else if op = 8 then decide (len = 2) && decide (u = tT) && same
  else if op = 9 ∨ op = 10 then decide (len = 2) && decide (u = tT) && (same && !decide (f.unit = tT))
  else if op = 11 ∨ op = 12 then decide (len = 2) && (same && !decide (f.unit = tT)) && decide (u = f.unit)
  else if op = 16 ∨ op = 17 then decide (2 ≤ len) && (same && !decide (f.unit = tT)) && decide (u = f.unit)
  else if op = 13 then decide (len = 2) && !decide (f.unit = tT) && !decide (l.unit = tT) && (decide (f.unit = tN) || decide (l.unit = tN)) && decide (u = if f.unit = tN then l.unit else f.unit)
  else if op = 14 then decide (len = 2) && decide (l.op = 1) && decide (l.unit = tN) && (!decide (l.n < 1) && !decide (1000000 < l.n)) && !decide (f.unit = tT) && decide (u = f.unit)
  else if op = 15 then decide (len = 2) && decide (f.unit = tM) && curOK l.unit && decide (u = l.unit)
  else false

theorem operation_spec (op n : Int) (u : ByteArray) (den : Int) (ps : List Piece) (ks : List Ex) (f l : Ex) (hf : ks.head? = some f) (hl : ks.getLast? = some l) (hsz : ks.length ≤ 1073741824) :
    SPure Tryz.prog G 158 [(Ex.mk op n u den ps ks).sv] (sB (opOK op u f l ks.length (sameU ks))) := by
  refine spure_enter Tryz.func158 rfl (by rw [Tryz.ntmps158]; simp) rfl rfl ?_; intro E hH hK
  have hsame := same_spec G ks hsz
  have hrows := exprRows_eq ks
  have hlen : (exprRows ks).length = ks.length := by rw [hrows]; simp
  have hpos : 1 ≤ ks.length := by cases ks with | nil => simp at hf | cons a r => simp
  have h0 : (exprRows ks)[0]? = some f.cells := by
    rw [hrows]
    cases ks with
    | nil => simp at hf
    | cons a r => simp at hf; simp [hf]
  have h1 : (exprRows ks)[ks.length - 1]? = some l.cells := by
    rw [hrows, List.getElem?_map]
    rw [List.getLast?_eq_getElem?] at hl
    rw [hl]; rfl
  have hm : IntKind.i64.wrap (((exprRows ks).length : Int) - 1) = ((ks.length - 1 : Nat) : Int) := by rw [wrap64 (by omega) (by omega)]; omega
  obtain ⟨o0, n0, u0, d0, p0, q0⟩ := f
  obtain ⟨o1, n1, u1, d1, p1, q1⟩ := l
  (refine sgo_sound [] 1000 ?_; conv => whnf)
  (refine swe_start 2 mixed rfl ?_; refine sgoe_sound [] (nx := 1) ?_; conv => whnf)
  refine swe_index rfl rfl rfl rfl rfl rfl rfl (by simp) rfl  (row := (Ex.mk o0 n0 u0 d0 p0 q0).cells) h0 ?_
  (refine sgoe_sound [] (nx := 1) ?_; conv => whnf)
  refine swe_index rfl rfl rfl rfl rfl rfl rfl (by simp) hm (row := (Ex.mk o1 n1 u1 d1 p1 q1).cells) h1 ?_
  (refine sgoe_sound [] (nx := 1) ?_; conv => whnf)
  (refine sgo_sound [] 1000 ?_; conv => whnf)
  refine swr_pure rfl rfl rfl rfl rfl rfl  hsame ?_
  (refine sgor_sound [] 1000 ?_; conv => whnf)
  generalize sameU ks = sm at hK hsame ⊢
  rw [← hlen] at hK
  clear hm h0 h1 hf hl hlen hpos hrows
  repeat' ((with_reducible first | refine bdec (fun h => ?_) (fun h => ?_) | refine bndec (fun h => ?_) (fun h => ?_) | refine bwtd (fun h => ?_) (fun h => ?_) | refine bwfd (fun h => ?_) (fun h => ?_) | refine bwtn (fun h => ?_) (fun h => ?_) | refine bwfn (fun h => ?_) (fun h => ?_) | refine bwtb (fun h => ?_) (fun h => ?_) | refine bwfb (fun h => ?_) (fun h => ?_) | refine bwt (fun h => ?_) (fun h => ?_) | refine bwf (fun h => ?_) (fun h => ?_) | refine bnt (fun h => ?_) (fun h => ?_) | refine bcase (fun h => ?_) (fun h => ?_)) <;> (conv => whnf))
  all_goals try (refine kB hK ?_; (try simp [opOK, tT, tN, tM, Ex.unit, Ex.op, Ex.n, *]); (try exact decide_eq_decide.2 Iff.rfl); (try omega); (try (exfalso; exact Bool.noConfusion (‹sm = true›.symm.trans ‹sm = false›))))
  any_goals refine swr_pure rfl rfl rfl rfl rfl rfl  hsame ?_
  any_goals (refine sgor_sound [] 1000 ?_; conv => whnf)
  any_goals refine swr_pure rfl rfl rfl rfl rfl rfl  (isCur_spec G u1) ?_
  any_goals (refine sgor_sound [] 1000 ?_; conv => whnf)
  any_goals (refine swd_start mixed rfl ?_; refine sgod_sound [] ?_; conv => whnf)
  any_goals repeat' ((with_reducible first | refine bdec (fun h => ?_) (fun h => ?_) | refine bndec (fun h => ?_) (fun h => ?_) | refine bwtd (fun h => ?_) (fun h => ?_) | refine bwfd (fun h => ?_) (fun h => ?_) | refine bwtn (fun h => ?_) (fun h => ?_) | refine bwfn (fun h => ?_) (fun h => ?_) | refine bwtb (fun h => ?_) (fun h => ?_) | refine bwfb (fun h => ?_) (fun h => ?_) | refine bwt (fun h => ?_) (fun h => ?_) | refine bwf (fun h => ?_) (fun h => ?_) | refine bnt (fun h => ?_) (fun h => ?_) | refine bcase (fun h => ?_) (fun h => ?_)) <;> (conv => whnf))
  any_goals refine swd_pure rfl rfl rfl rfl rfl rfl  (product_spec G u0 u1) ?_
  any_goals (refine sgod_sound [] ?_; conv => whnf)
  any_goals (refine sgo_sound [] 1000 ?_; conv => whnf)
  any_goals repeat' ((with_reducible first | refine bdec (fun h => ?_) (fun h => ?_) | refine bndec (fun h => ?_) (fun h => ?_) | refine bwtd (fun h => ?_) (fun h => ?_) | refine bwfd (fun h => ?_) (fun h => ?_) | refine bwtn (fun h => ?_) (fun h => ?_) | refine bwfn (fun h => ?_) (fun h => ?_) | refine bwtb (fun h => ?_) (fun h => ?_) | refine bwfb (fun h => ?_) (fun h => ?_) | refine bwt (fun h => ?_) (fun h => ?_) | refine bwf (fun h => ?_) (fun h => ?_) | refine bnt (fun h => ?_) (fun h => ?_) | refine bcase (fun h => ?_) (fun h => ?_)) <;> (conv => whnf))
  all_goals try (refine kB hK ?_; (try simp [opOK, tT, tN, tM, Ex.unit, Ex.op, Ex.n, *]); (try exact decide_eq_decide.2 Iff.rfl); (try omega); (try (exfalso; exact Bool.noConfusion (‹sm = true›.symm.trans ‹sm = false›))))
  all_goals trace_state

end Go.Proofs.YtblpjknmhajcgaaGreatDoor

/- Contracts, part n: expressions that fit a codex. -/
namespace Go.Proofs.YtblpjknmhajcgaaGreatDoor
open Go Go.Sh
set_option maxRecDepth 10000
set_option maxHeartbeats 2000000
variable (G : List (Nat × D))

def unitAt (l : List Decl) (i : Int) (u : ByteArray) : Bool :=
  match l[i.toNat]? with
  | some d => decide (u = d.unit)
  | none => false
def leafOK (facts lines : List Decl) (m : List (Int × Int)) (op n : Int) (u : ByteArray) : Bool :=
  if op = 1 then decide (0 ≤ n) && decide (n ≤ 999999999999) && (!decide (u = tT) || decide (n ≤ 1))
  else if op = 2 then decide (0 ≤ n) && decide (n < facts.length) && unitAt facts n u
  else if op = 3 then (match alook n m with
    | some line => unitAt lines line u
    | none => false)
  else decide (1 ≤ n) && decide (n ≤ 4) && decide (u = tN)

/-- the heap of a fitter: the codex, the lines of the numbers, the fitter -/
def fitH (c : Codex) (m : List (Int × Int)) (n : Int) : List SObj :=
  [.cells [.imm (dDecls c.facts), .imm (dDecls c.lines), .imm (dArts c.arts)], .mapI .i64 (encM sI m), .cells [.imm (dDecls c.facts), .imm (dDecls c.lines), .imm (dArts c.arts), .map 1, sI n]]

theorem under_fitH (c : Codex) (m : List (Int × Int)) (n : Int) : (fitH c m n).all (SObj.under 3) = true := by
  simp only [fitH, List.all_cons, underII]; rfl

theorem leaf_spec (c : Codex) (m : List (Int × Int)) (nodes : Int) (op n : Int) (u : ByteArray) (den : Int) (ps : List Piece) (ks : List Ex) (hm : ∀ k v, alook k m = some v → 0 ≤ v ∧ v < c.lines.length) (hop : 1 ≤ op ∧ op ≤ 4) :
    SPre Tryz.prog G 157 [.ptr 2 0, (Ex.mk op n u den ps ks).sv] (fitH c m nodes) (fun r H1 => r = sB (leafOK c.facts c.lines m op n u) ∧ H1 = fitH c m nodes) := by
  refine spre_enter Tryz.func157 rfl (by rw [Tryz.ntmps157]; simp) rfl (under_fitH c m nodes) ?_
  intro E hH hK
  have hf : (c.facts.map Decl.cells).length = c.facts.length := by simp
  have hl : (c.lines.map Decl.cells).length = c.lines.length := by simp
  have fin : ∀ H', H'.take 3 = fitH c m nodes → 3 ≤ H'.length → ∀ b, leafOK c.facts c.lines m op n u = b → E.K (sB b) H' := fun H' h1 h2 b h3 =>
    hK _ _ h2 rfl (by show (List.take 3 H').all _ = true; rw [h1]; exact under_fitH c m nodes) ⟨by rw [h3], h1⟩
  (refine sgo_sound [] 1000 ?_; conv => whnf)
  repeat' ((with_reducible first | refine bdec (fun h => ?_) (fun h => ?_) | refine bndec (fun h => ?_) (fun h => ?_) | refine bwtd (fun h => ?_) (fun h => ?_) | refine bwfd (fun h => ?_) (fun h => ?_) | refine bwtn (fun h => ?_) (fun h => ?_) | refine bwfn (fun h => ?_) (fun h => ?_) | refine bwtb (fun h => ?_) (fun h => ?_) | refine bwfb (fun h => ?_) (fun h => ?_) | refine bwt (fun h => ?_) (fun h => ?_) | refine bwf (fun h => ?_) (fun h => ?_) | refine bnt (fun h => ?_) (fun h => ?_) | refine bcase (fun h => ?_) (fun h => ?_)) <;> (conv => whnf))
  all_goals try exact fin _ rfl (by simp) _ (by simp [leafOK, tT, tN, *])
  · (refine swd_start mixed rfl ?_; refine sgod_sound [] ?_; conv => whnf)
    repeat' ((with_reducible first | refine bdec (fun h => ?_) (fun h => ?_) | refine bndec (fun h => ?_) (fun h => ?_) | refine bwtd (fun h => ?_) (fun h => ?_) | refine bwfd (fun h => ?_) (fun h => ?_) | refine bwtn (fun h => ?_) (fun h => ?_) | refine bwfn (fun h => ?_) (fun h => ?_) | refine bwtb (fun h => ?_) (fun h => ?_) | refine bwfb (fun h => ?_) (fun h => ?_) | refine bwt (fun h => ?_) (fun h => ?_) | refine bwf (fun h => ?_) (fun h => ?_) | refine bnt (fun h => ?_) (fun h => ?_) | refine bcase (fun h => ?_) (fun h => ?_)) <;> (conv => whnf))
    · have hlt : n.toNat < c.facts.length := by omega
      obtain ⟨d, hd⟩ : ∃ d, c.facts[n.toNat]? = some d := ⟨c.facts[n.toNat], List.getElem?_eq_getElem hlt⟩
      refine swd_index rfl rfl rfl rfl rfl rfl rfl (i := n.toNat) (by omega) (row := d.cells) (by simp [hd]) ?_
      (refine sgod_sound [] ?_; conv => whnf)
      (refine sgo_sound [] 1000 ?_; conv => whnf)
      refine fin _ rfl (by simp) _ ?_
      have hua : unitAt c.facts n u = decide (u = d.unit) := by simp only [unitAt, hd]
      simp [leafOK, hua, *]; omega
    all_goals (refine sgo_sound [] 1000 ?_; conv => whnf)
    all_goals refine fin _ rfl (by simp) _ ?_
    all_goals (simp [leafOK, *]; try omega)
  · cases hlk : alook n m with
    | none =>
      (refine swd_start mixed rfl ?_; refine sgod_sound [] ?_; conv => whnf)
      refine swd_lookI2 sI rfl rfl rfl rfl rfl rfl rfl rfl rfl (v := sI 0) (p := false) (by rw [hlk]; rfl) (by rw [hlk]; rfl) ?_
      (refine sgod_sound [] ?_; conv => whnf)
      (refine sgo_sound [] 1000 ?_; conv => whnf)
      (refine swd_start mixed rfl ?_; refine sgod_sound [] ?_; conv => whnf)
      (refine sgo_sound [] 1000 ?_; conv => whnf)
      exact fin _ rfl (by simp) _ (by simp [leafOK, hlk, *])
    | some line =>
      obtain ⟨hl0, hl1⟩ := hm n line hlk
      obtain ⟨d, hd⟩ : ∃ d, c.lines[line.toNat]? = some d := ⟨c.lines[line.toNat]'(by omega), List.getElem?_eq_getElem _⟩
      (refine swd_start mixed rfl ?_; refine sgod_sound [] ?_; conv => whnf)
      refine swd_lookI2 sI rfl rfl rfl rfl rfl rfl rfl rfl rfl (v := sI line) (p := true) (by rw [hlk]; rfl) (by rw [hlk]; rfl) ?_
      (refine sgod_sound [] ?_; conv => whnf)
      (refine sgo_sound [] 1000 ?_; conv => whnf)
      (refine swd_start mixed rfl ?_; refine sgod_sound [] ?_; conv => whnf)
      refine swd_index rfl rfl rfl rfl rfl rfl rfl (i := line.toNat) (by omega) (row := d.cells) (by simp [hd]) ?_
      (refine sgod_sound [] ?_; conv => whnf)
      (refine sgo_sound [] 1000 ?_; conv => whnf)
      have hua : unitAt c.lines line u = decide (u = d.unit) := by simp only [unitAt, hd]
      exact fin _ rfl (by simp) _ (by simp [leafOK, hlk, hua, *])

def nodeOK (c : Codex) (m : List (Int × Int)) (op n : Int) (u : ByteArray) (den : Int) (ps : List Piece) (ks : List Ex) : Bool :=
  if op = 18 then decide (n = 0) && decide (ks.length = 1) && curOK u && (match ks with | k :: _ => decide (u = k.unit) | [] => false) && tableOK den ps
  else if ¬ den = 0 ∨ 0 < ps.length then false
  else if 1 ≤ op ∧ op ≤ 4 then decide (ks.length = 0) && leafOK c.facts c.lines m op n u
  else decide (n = 0) && (match ks.head?, ks.getLast? with | some f, some l => opOK op u f l ks.length (sameU ks) | _, _ => false)

mutual
def fitRun (c : Codex) (m : List (Int × Int)) : Ex → Int → Int → Bool × Int
  | .mk op n u den ps ks, depth, cnt =>
    if 400 < cnt + 1 ∨ 40 < depth ∨ unitOK u = false then (false, cnt + 1)
    else match fitKids c m ks (depth + 1) (cnt + 1) with
      | (true, cnt') => (nodeOK c m op n u den ps ks, cnt')
      | (false, cnt') => (false, cnt')
def fitKids (c : Codex) (m : List (Int × Int)) : List Ex → Int → Int → Bool × Int
  | [], _, cnt => (true, cnt)
  | k :: r, depth, cnt => match fitRun c m k depth cnt with
    | (true, cnt') => fitKids c m r depth cnt'
    | (false, cnt') => (false, cnt')
end

theorem fitRun_up (c : Codex) (m : List (Int × Int)) (N : Nat) : (∀ e : Ex, SizeOf.sizeOf e < N → ∀ d cnt : Int, cnt + 1 ≤ (fitRun c m e d cnt).2 ∧ ((fitRun c m e d cnt).1 = true → (fitRun c m e d cnt).2 ≤ 400)) ∧
    (∀ ks : List Ex, SizeOf.sizeOf ks < N → ∀ d cnt : Int, cnt ≤ (fitKids c m ks d cnt).2 ∧ (cnt ≤ 400 → (fitKids c m ks d cnt).1 = true → (fitKids c m ks d cnt).2 ≤ 400)) := by
  induction N with
  | zero => exact ⟨fun e h => by omega, fun e h => by omega⟩
  | succ N ih =>
    refine ⟨fun e he d cnt => ?_, fun ks hk d cnt => ?_⟩
    · obtain ⟨op, n, u, den, ps, ks⟩ := e
      simp only [Ex.mk.sizeOf_spec] at he
      have := ih.2 ks (by omega) (d + 1) (cnt + 1)
      simp only [fitRun]
      split
      · exact ⟨Int.le_refl _, fun h => by cases h⟩
      · rename_i hc
        revert this
        cases fitKids c m ks (d + 1) (cnt + 1) with
        | mk b q =>
          cases b with
          | true => simp only; intro h; exact ⟨h.1, fun _ => h.2 (by omega) trivial⟩
          | false => simp only; intro h; exact ⟨h.1, fun h => by cases h⟩
    · cases ks with
      | nil => simp [fitKids]
      | cons k r =>
        simp only [List.cons.sizeOf_spec] at hk
        have h1 := ih.1 k (by omega) d cnt
        simp only [fitKids]
        revert h1
        cases fitRun c m k d cnt with
        | mk b q =>
          cases b with
          | true =>
            simp only
            intro h1
            have h2 := ih.2 r (by omega) d q
            exact ⟨by omega, fun hc h => h2.2 (h1.2 trivial) h⟩
          | false => simp only; intro h1; exact ⟨by omega, fun _ h => by cases h⟩

theorem fits_spec (c : Codex) (m : List (Int × Int)) (hm : ∀ k v, alook k m = some v → 0 ≤ v ∧ v < c.lines.length) (N : Nat) : ∀ (e : Ex), SizeOf.sizeOf e < N → ∀ (depth cnt : Int), 0 ≤ depth → depth ≤ 41 → 0 ≤ cnt → cnt ≤ 400 →
    SPre Tryz.prog G 124 [.ptr 2 0, e.sv, sI depth] (fitH c m cnt) (fun r H1 => r = sB (fitRun c m e depth cnt).1 ∧ H1 = fitH c m (fitRun c m e depth cnt).2) := by
  induction N with
  | zero => intro e h; omega
  | succ N IH =>
  intro e he depth cnt hd0 hd1 hc0 hc1
  obtain ⟨op, n, u, den, ps, ks⟩ := e
  simp only [Ex.mk.sizeOf_spec] at he
  refine spre_enter Tryz.func124 rfl (by rw [Tryz.ntmps124]; simp) rfl (under_fitH c m cnt) ?_
  intro E hH hK
  have fin : ∀ H' q, H'.take 3 = fitH c m q → 3 ≤ H'.length → ∀ b, fitRun c m (.mk op n u den ps ks) depth cnt = (b, q) → E.K (sB b) H' := fun H' q h1 h2 b h3 =>
    hK _ _ h2 rfl (by show (List.take 3 H').all _ = true; rw [h1]; exact under_fitH c m q) ⟨by rw [h3], by rw [h3]; exact h1⟩
  have hw1 : IntKind.i64.wrap (cnt + 1) = cnt + 1 := wrap64 (by omega) (by omega)
  have hrows := exprRows_eq ks
  have hlen : (exprRows ks).length = ks.length := by rw [hrows]; simp
  refine sgo_sound [19] 1000 ?_; conv => whnf
  rw [hw1]
  (refine sgor_sound [] 1000 ?_; conv => whnf)
  repeat' ((with_reducible first | refine bdec (fun h => ?_) (fun h => ?_) | refine bndec (fun h => ?_) (fun h => ?_) | refine bwtd (fun h => ?_) (fun h => ?_) | refine bwfd (fun h => ?_) (fun h => ?_) | refine bwtn (fun h => ?_) (fun h => ?_) | refine bwfn (fun h => ?_) (fun h => ?_) | refine bwtb (fun h => ?_) (fun h => ?_) | refine bwfb (fun h => ?_) (fun h => ?_) | refine bwt (fun h => ?_) (fun h => ?_) | refine bwf (fun h => ?_) (fun h => ?_) | refine bnt (fun h => ?_) (fun h => ?_) | refine bcase (fun h => ?_) (fun h => ?_)) <;> (conv => whnf))
  case' refine_2 => skip
  all_goals try exact fin _ _ rfl (by simp) _ (by simp only [fitRun]; rw [if_pos (by omega)])
  refine swr_pure rfl rfl rfl rfl rfl rfl  (isUnit_spec G u) ?_
  (refine sgor_sound [] 1000 ?_; conv => whnf)
  repeat' ((with_reducible first | refine bdec (fun h => ?_) (fun h => ?_) | refine bndec (fun h => ?_) (fun h => ?_) | refine bwtd (fun h => ?_) (fun h => ?_) | refine bwfd (fun h => ?_) (fun h => ?_) | refine bwtn (fun h => ?_) (fun h => ?_) | refine bwfn (fun h => ?_) (fun h => ?_) | refine bwtb (fun h => ?_) (fun h => ?_) | refine bwfb (fun h => ?_) (fun h => ?_) | refine bwt (fun h => ?_) (fun h => ?_) | refine bwf (fun h => ?_) (fun h => ?_) | refine bnt (fun h => ?_) (fun h => ?_) | refine bcase (fun h => ?_) (fun h => ?_)) <;> (conv => whnf))
  case refine_1.refine_1 => exact fin _ _ rfl (by simp) _ (by simp only [fitRun]; rw [if_pos (.inr (.inr h))])
  have hstart : fitRun c m (.mk op n u den ps ks) depth cnt = (match fitKids c m ks (depth + 1) (cnt + 1) with | (true, cnt') => (nodeOK c m op n u den ps ks, cnt') | (false, cnt') => (false, cnt')) := by
    simp only [fitRun]; rw [if_neg (by rw [h]; simp; omega)]
  have hup := fitRun_up c m (N + 1)
  have hwd : IntKind.i64.wrap (depth + 1) = depth + 1 := wrap64 (by omega) (by omega)
  refine sw_keep [0, 2, 4, 32, 33, 34] ?_
  refine sw_each ks (fun i (_ : Int) => [(0, .ptr 2 0), (2, sI depth), (4, .ptr 3 0), (32, .imm (.isl 6 (exprRows ks))), (33, sI (exprRows ks).length), (34, sI i)])
    (fun _ q => fitH c m q ++ [.cells ((Ex.mk op n u den ps ks).cells.map .imm)])
    (fun done rest q => fitKids c m ks (depth + 1) (cnt + 1) = fitKids c m rest (depth + 1) q ∧ cnt + 1 + done.length ≤ q ∧ q ≤ 400) (cnt + 1) ⟨rfl, by simp, by omega⟩ ?_ ?_
  · rintro q ⟨h1, h2, h3⟩
    simp only [fitKids] at h1
    rw [h1] at hstart
    simp only at hstart
    have hsz : ks.length ≤ 400 := by omega
    have fin2 : ∀ H' b, H'.take 3 = fitH c m q → 3 ≤ H'.length → nodeOK c m op n u den ps ks = b → E.K (sB b) H' := fun H' b g1 g2 g3 => fin H' q g1 g2 b (by rw [hstart, g3])
    have hpl : (ps.map Piece.cells).length = ps.length := by simp
    clear IH hup hstart hK fin ‹unitOK u = true›
    rw [← hlen]
    by_cases h18 : op = 18
    · subst h18
      cases ks with
      | nil =>
        (refine sgo_sound [] 1000 ?_; conv => whnf)
        repeat' ((with_reducible first | refine bdec (fun h => ?_) (fun h => ?_) | refine bndec (fun h => ?_) (fun h => ?_) | refine bwtd (fun h => ?_) (fun h => ?_) | refine bwfd (fun h => ?_) (fun h => ?_) | refine bwtn (fun h => ?_) (fun h => ?_) | refine bwfn (fun h => ?_) (fun h => ?_) | refine bwtb (fun h => ?_) (fun h => ?_) | refine bwfb (fun h => ?_) (fun h => ?_) | refine bwt (fun h => ?_) (fun h => ?_) | refine bwf (fun h => ?_) (fun h => ?_) | refine bnt (fun h => ?_) (fun h => ?_) | refine bcase (fun h => ?_) (fun h => ?_)) <;> (conv => whnf))
        all_goals try (exfalso; omega)
        (refine swd_start mixed rfl ?_; refine sgod_sound [] ?_; conv => whnf)
        repeat' ((with_reducible first | refine bdec (fun h => ?_) (fun h => ?_) | refine bndec (fun h => ?_) (fun h => ?_) | refine bwtd (fun h => ?_) (fun h => ?_) | refine bwfd (fun h => ?_) (fun h => ?_) | refine bwtn (fun h => ?_) (fun h => ?_) | refine bwfn (fun h => ?_) (fun h => ?_) | refine bwtb (fun h => ?_) (fun h => ?_) | refine bwfb (fun h => ?_) (fun h => ?_) | refine bwt (fun h => ?_) (fun h => ?_) | refine bwf (fun h => ?_) (fun h => ?_) | refine bnt (fun h => ?_) (fun h => ?_) | refine bcase (fun h => ?_) (fun h => ?_)) <;> (conv => whnf))
        all_goals (refine sgo_sound [] 1000 ?_; conv => whnf)
        all_goals exact fin2 _ _ rfl (by simp [fitH]) (by simp [nodeOK])
      | cons k0 kr =>
        obtain ⟨o0, n0, u0, d0, p0, q0⟩ := k0
        have h0 : (exprRows (Ex.mk o0 n0 u0 d0 p0 q0 :: kr))[0]? = some (Ex.mk o0 n0 u0 d0 p0 q0).cells := by simp [exprRows]
        (refine sgo_sound [] 1000 ?_; conv => whnf)
        repeat' ((with_reducible first | refine bdec (fun h => ?_) (fun h => ?_) | refine bndec (fun h => ?_) (fun h => ?_) | refine bwtd (fun h => ?_) (fun h => ?_) | refine bwfd (fun h => ?_) (fun h => ?_) | refine bwtn (fun h => ?_) (fun h => ?_) | refine bwfn (fun h => ?_) (fun h => ?_) | refine bwtb (fun h => ?_) (fun h => ?_) | refine bwfb (fun h => ?_) (fun h => ?_) | refine bwt (fun h => ?_) (fun h => ?_) | refine bwf (fun h => ?_) (fun h => ?_) | refine bnt (fun h => ?_) (fun h => ?_) | refine bcase (fun h => ?_) (fun h => ?_)) <;> (conv => whnf))
        all_goals try (exfalso; omega)
        (refine swd_start mixed rfl ?_; refine sgod_sound [] ?_; conv => whnf)
        repeat' ((with_reducible first | refine bdec (fun h => ?_) (fun h => ?_) | refine bndec (fun h => ?_) (fun h => ?_) | refine bwtd (fun h => ?_) (fun h => ?_) | refine bwfd (fun h => ?_) (fun h => ?_) | refine bwtn (fun h => ?_) (fun h => ?_) | refine bwfn (fun h => ?_) (fun h => ?_) | refine bwtb (fun h => ?_) (fun h => ?_) | refine bwfb (fun h => ?_) (fun h => ?_) | refine bwt (fun h => ?_) (fun h => ?_) | refine bwf (fun h => ?_) (fun h => ?_) | refine bnt (fun h => ?_) (fun h => ?_) | refine bcase (fun h => ?_) (fun h => ?_)) <;> (conv => whnf))
        · refine swd_pure rfl rfl rfl rfl rfl rfl  (isCur_spec G u) ?_
          (refine sgod_sound [] ?_; conv => whnf)
          repeat' ((with_reducible first | refine bdec (fun h => ?_) (fun h => ?_) | refine bndec (fun h => ?_) (fun h => ?_) | refine bwtd (fun h => ?_) (fun h => ?_) | refine bwfd (fun h => ?_) (fun h => ?_) | refine bwtn (fun h => ?_) (fun h => ?_) | refine bwfn (fun h => ?_) (fun h => ?_) | refine bwtb (fun h => ?_) (fun h => ?_) | refine bwfb (fun h => ?_) (fun h => ?_) | refine bwt (fun h => ?_) (fun h => ?_) | refine bwf (fun h => ?_) (fun h => ?_) | refine bnt (fun h => ?_) (fun h => ?_) | refine bcase (fun h => ?_) (fun h => ?_)) <;> (conv => whnf))
          · refine swd_index rfl rfl rfl rfl rfl rfl rfl rfl  (row := (Ex.mk o0 n0 u0 d0 p0 q0).cells) h0 ?_
            (refine sgod_sound [] ?_; conv => whnf)
            repeat' ((with_reducible first | refine bdec (fun h => ?_) (fun h => ?_) | refine bndec (fun h => ?_) (fun h => ?_) | refine bwtd (fun h => ?_) (fun h => ?_) | refine bwfd (fun h => ?_) (fun h => ?_) | refine bwtn (fun h => ?_) (fun h => ?_) | refine bwfn (fun h => ?_) (fun h => ?_) | refine bwtb (fun h => ?_) (fun h => ?_) | refine bwfb (fun h => ?_) (fun h => ?_) | refine bwt (fun h => ?_) (fun h => ?_) | refine bwf (fun h => ?_) (fun h => ?_) | refine bnt (fun h => ?_) (fun h => ?_) | refine bcase (fun h => ?_) (fun h => ?_)) <;> (conv => whnf))
            · refine swd_pure rfl rfl rfl rfl rfl rfl  (pieceValid_spec G den ps) ?_
              (refine sgod_sound [] ?_; conv => whnf)
              (refine sgo_sound [] 1000 ?_; conv => whnf)
              exact fin2 _ _ rfl (by simp [fitH]) (by
                have hq : (Ex.mk o0 n0 u0 d0 p0 q0 :: kr).length = 1 := by omega
                simp only [nodeOK, if_true, Ex.unit, hq, ‹curOK u = true›, decide_eq_true ‹n = 0›]; simp; intro _; first | exact h | exact decide_eq_true h)
            · (refine sgo_sound [] 1000 ?_; conv => whnf)
              exact fin2 _ _ rfl (by simp [fitH]) (by simp [nodeOK, Ex.unit, h])
          · (refine sgo_sound [] 1000 ?_; conv => whnf)
            exact fin2 _ _ rfl (by simp [fitH]) (by simp [nodeOK, h])
        · (refine sgo_sound [] 1000 ?_; conv => whnf)
          exact fin2 _ _ rfl (by simp [fitH]) (by
            have hq : ¬ (Ex.mk o0 n0 u0 d0 p0 q0 :: kr).length = 1 := by omega
            simp only [nodeOK, if_true, decide_eq_false hq]; simp)
        · (refine sgo_sound [] 1000 ?_; conv => whnf)
          exact fin2 _ _ rfl (by simp [fitH]) (by simp [nodeOK, h])
    by_cases htab : ¬ den = 0 ∨ 0 < ps.length
    · (refine sgo_sound [] 1000 ?_; conv => whnf)
      repeat' ((with_reducible first | refine bdec (fun h => ?_) (fun h => ?_) | refine bndec (fun h => ?_) (fun h => ?_) | refine bwtd (fun h => ?_) (fun h => ?_) | refine bwfd (fun h => ?_) (fun h => ?_) | refine bwtn (fun h => ?_) (fun h => ?_) | refine bwfn (fun h => ?_) (fun h => ?_) | refine bwtb (fun h => ?_) (fun h => ?_) | refine bwfb (fun h => ?_) (fun h => ?_) | refine bwt (fun h => ?_) (fun h => ?_) | refine bwf (fun h => ?_) (fun h => ?_) | refine bnt (fun h => ?_) (fun h => ?_) | refine bcase (fun h => ?_) (fun h => ?_)) <;> (conv => whnf))
      all_goals try (exfalso; omega)
      all_goals exact fin2 _ _ rfl (by simp [fitH]) (by unfold nodeOK; rw [if_neg h18, if_pos htab])
    have hnode : nodeOK c m op n u den ps ks = if 1 ≤ op ∧ op ≤ 4 then decide (ks.length = 0) && leafOK c.facts c.lines m op n u else decide (n = 0) && (match ks.head?, ks.getLast? with | some f, some l => opOK op u f l ks.length (sameU ks) | _, _ => false) := by
      unfold nodeOK; rw [if_neg h18, if_neg htab]
    by_cases hop : 1 ≤ op ∧ op ≤ 4
    · rw [if_pos hop] at hnode
      (refine sgo_sound [] 1000 ?_; conv => whnf)
      repeat' ((with_reducible first | refine bdec (fun h => ?_) (fun h => ?_) | refine bndec (fun h => ?_) (fun h => ?_) | refine bwtd (fun h => ?_) (fun h => ?_) | refine bwfd (fun h => ?_) (fun h => ?_) | refine bwtn (fun h => ?_) (fun h => ?_) | refine bwfn (fun h => ?_) (fun h => ?_) | refine bwtb (fun h => ?_) (fun h => ?_) | refine bwfb (fun h => ?_) (fun h => ?_) | refine bwt (fun h => ?_) (fun h => ?_) | refine bwf (fun h => ?_) (fun h => ?_) | refine bnt (fun h => ?_) (fun h => ?_) | refine bcase (fun h => ?_) (fun h => ?_)) <;> (conv => whnf))
      all_goals try (exfalso; omega)
      · refine swr_pre 3 rfl rfl rfl rfl rfl rfl (leaf_spec G c m q op n u den ps ks hm hop) ?_
        rintro r H1 ⟨rfl, rfl⟩ _
        (refine sgor_sound [] 1000 ?_; conv => whnf)
        exact fin2 _ _ rfl (by simp [fitH]) (by rw [hnode, decide_eq_true (by omega)]; rfl)
      · exact fin2 _ _ rfl (by simp [fitH]) (by rw [hnode, decide_eq_false (by omega)]; rfl)
    · rw [if_neg hop] at hnode
      cases ks with
      | nil =>
        (refine sgo_sound [] 1000 ?_; conv => whnf)
        repeat' ((with_reducible first | refine bdec (fun h => ?_) (fun h => ?_) | refine bndec (fun h => ?_) (fun h => ?_) | refine bwtd (fun h => ?_) (fun h => ?_) | refine bwfd (fun h => ?_) (fun h => ?_) | refine bwtn (fun h => ?_) (fun h => ?_) | refine bwfn (fun h => ?_) (fun h => ?_) | refine bwtb (fun h => ?_) (fun h => ?_) | refine bwfb (fun h => ?_) (fun h => ?_) | refine bwt (fun h => ?_) (fun h => ?_) | refine bwf (fun h => ?_) (fun h => ?_) | refine bnt (fun h => ?_) (fun h => ?_) | refine bcase (fun h => ?_) (fun h => ?_)) <;> (conv => whnf))
        all_goals try (exfalso; omega)
        all_goals exact fin2 _ _ rfl (by simp [fitH]) (by rw [hnode]; simp)
      | cons k0 kr =>
        obtain ⟨l, hl⟩ : ∃ l, (k0 :: kr).getLast? = some l := ⟨_, List.getLast?_eq_some_getLast (by simp)⟩
        have hopr := operation_spec G op n u den ps (k0 :: kr) k0 l rfl hl (by omega)
        rw [hl] at hnode
        simp only [List.head?_cons] at hnode
        have hpos : 0 < (exprRows (k0 :: kr)).length := by simp [exprRows]
        (refine sgo_sound [] 1000 ?_; conv => whnf)
        repeat' ((with_reducible first | refine bdec (fun h => ?_) (fun h => ?_) | refine bndec (fun h => ?_) (fun h => ?_) | refine bwtd (fun h => ?_) (fun h => ?_) | refine bwfd (fun h => ?_) (fun h => ?_) | refine bwtn (fun h => ?_) (fun h => ?_) | refine bwfn (fun h => ?_) (fun h => ?_) | refine bwtb (fun h => ?_) (fun h => ?_) | refine bwfb (fun h => ?_) (fun h => ?_) | refine bwt (fun h => ?_) (fun h => ?_) | refine bwf (fun h => ?_) (fun h => ?_) | refine bnt (fun h => ?_) (fun h => ?_) | refine bcase (fun h => ?_) (fun h => ?_)) <;> (conv => whnf))
        all_goals try (exfalso; omega)
        all_goals first
          | exact fin2 _ _ rfl (by simp [fitH]) (by rw [hnode, decide_eq_false ‹¬ n = 0›]; rfl)
          | (refine swr_pure rfl rfl rfl rfl rfl rfl  hopr ?_
             (refine sgor_sound [] 1000 ?_; conv => whnf)
             exact fin2 _ _ rfl (by simp [fitH]) (by rw [hnode, decide_eq_true ‹n = 0›]; rfl))
  · rintro done kid rest q ha hl ⟨h1, h2, h3⟩ ih
    have hw := wrap_succ (n := done.length) (by omega)
    have hks : SizeOf.sizeOf kid < SizeOf.sizeOf ks := List.sizeOf_lt_of_mem (by rw [ha]; simp)
    have hcall := IH kid (by omega) (depth + 1) q (by omega) (by omega) (by omega) h3
    simp only [fitKids] at h1
    have hkup := hup.1 kid (by omega) (depth + 1) q
    obtain ⟨o1, n1, u1, d1, p1, q1⟩ := kid
    (refine sgo_sound [] 1000 ?_; conv => whnf)
    repeat' ((with_reducible first | refine bdec (fun h => ?_) (fun h => ?_) | refine bndec (fun h => ?_) (fun h => ?_) | refine bwtd (fun h => ?_) (fun h => ?_) | refine bwfd (fun h => ?_) (fun h => ?_) | refine bwtn (fun h => ?_) (fun h => ?_) | refine bwfn (fun h => ?_) (fun h => ?_) | refine bwtb (fun h => ?_) (fun h => ?_) | refine bwfb (fun h => ?_) (fun h => ?_) | refine bwt (fun h => ?_) (fun h => ?_) | refine bwf (fun h => ?_) (fun h => ?_) | refine bnt (fun h => ?_) (fun h => ?_) | refine bcase (fun h => ?_) (fun h => ?_)) <;> (conv => whnf))
    all_goals try (exfalso; omega)
    refine swr_index rfl rfl rfl rfl rfl rfl rfl rfl  (row := (Ex.mk o1 n1 u1 d1 p1 q1).cells) (by rw [hrows]; simp [ha]) ?_
    (refine sgor_sound [] 1000 ?_; conv => whnf)
    rw [hwd]
    refine swr_pre 3 rfl rfl rfl rfl rfl rfl hcall ?_
    rintro r H1 ⟨rfl, rfl⟩ _
    revert h1 hkup
    cases fitRun c m (.mk o1 n1 u1 d1 p1 q1) (depth + 1) q with
    | mk b q' =>
      cases b with
      | true =>
        simp only
        intro h1 hkup
        (refine sgor_sound [] 1000 ?_; conv => whnf)
        rw [hw]
        exact sw_kc [0, 2, 4, 32, 33, 34] 4 (by rw [hH]; simp [fitH]) (by simp [fitH]) rfl (by simp [fitH, underII]; exact ⟨rfl, rfl, rfl⟩) (ih q' ⟨h1, by simp; omega, hkup.2 trivial⟩)
      | false =>
        simp only
        intro h1 hkup
        (refine sgor_sound [] 1000 ?_; conv => whnf)
        refine fin _ q' rfl (by simp [fitH]) _ ?_
        rw [hstart, h1]


end Go.Proofs.YtblpjknmhajcgaaGreatDoor

/- Contracts, part o: articles of a codex; its validity. -/
namespace Go.Proofs.YtblpjknmhajcgaaGreatDoor
open Go Go.Sh
set_option maxRecDepth 10000
set_option maxHeartbeats 2000000
variable (G : List (Nat × D))

def wholeRun (c : Codex) (m : List (Int × Int)) (e : Ex) (u : ByteArray) : Bool × Int := if e.unit = u then fitRun c m e 1 0 else (false, 0)

theorem whole_spec (c : Codex) (m : List (Int × Int)) (hm : ∀ k v, alook k m = some v → 0 ≤ v ∧ v < c.lines.length) (e : Ex) (u : ByteArray) (q : Int) :
    SPre Tryz.prog G 90 [.ptr 2 0, e.sv, sS u] (fitH c m q) (fun r H1 => r = sB (wholeRun c m e u).1 ∧ H1 = fitH c m (wholeRun c m e u).2) := by
  have hfit := fits_spec G c m hm (SizeOf.sizeOf e + 1) e (by omega) 1 0 (by omega) (by omega) (by omega) (by omega)
  obtain ⟨op, n, u0, den, ps, ks⟩ := e
  refine spre_enter Tryz.func90 rfl (by rw [Tryz.ntmps90]; simp) rfl (under_fitH c m q) ?_
  intro E hH hK
  have fin : ∀ H' q', H'.take 3 = fitH c m q' → 3 ≤ H'.length → ∀ b, wholeRun c m (.mk op n u0 den ps ks) u = (b, q') → E.K (sB b) H' := fun H' q' h1 h2 b h3 =>
    hK _ _ h2 rfl (by show (List.take 3 H').all _ = true; rw [h1]; exact under_fitH c m q') ⟨by rw [h3], by rw [h3]; exact h1⟩
  (refine sgo_sound [] 1000 ?_; conv => whnf)
  repeat' ((with_reducible first | refine bdec (fun h => ?_) (fun h => ?_) | refine bndec (fun h => ?_) (fun h => ?_) | refine bwtd (fun h => ?_) (fun h => ?_) | refine bwfd (fun h => ?_) (fun h => ?_) | refine bwtn (fun h => ?_) (fun h => ?_) | refine bwfn (fun h => ?_) (fun h => ?_) | refine bwtb (fun h => ?_) (fun h => ?_) | refine bwfb (fun h => ?_) (fun h => ?_) | refine bwt (fun h => ?_) (fun h => ?_) | refine bwf (fun h => ?_) (fun h => ?_) | refine bnt (fun h => ?_) (fun h => ?_) | refine bcase (fun h => ?_) (fun h => ?_)) <;> (conv => whnf))
  · refine swr_pre 3 rfl rfl rfl rfl rfl rfl hfit ?_
    rintro r H1 ⟨rfl, rfl⟩ _
    (refine sgor_sound [] 1000 ?_; conv => whnf)
    exact fin _ _ rfl (by simp [fitH]) _ (by rw [wholeRun, if_pos (by exact h)])
  · exact fin _ _ rfl (by simp) _ (by rw [wholeRun, if_neg (by exact h)])

def artHead (a : Article) : Bool := decide (0 ≤ a.rank) && decide (a.rank ≤ 1000000) && decide (0 ≤ a.lo) && decide (a.lo < a.hi) && decide (a.hi ≤ 36525) && decide (0 ≤ a.known) && decide (a.known ≤ 36524)
def lineUnit (c : Codex) (i : Int) : ByteArray := match c.lines[i.toNat]? with | some d => d.unit | none => ⟨#[]⟩
def artOK (c : Codex) (m : List (Int × Int)) (a : Article) : Bool :=
  artHead a && a.unless_.all (fun n => (alook n m).isSome) && a.when_.all (fun e => (wholeRun c m e tT).1) && (wholeRun c m a.amount (lineUnit c a.line)).1

def artList (a : Article) (op n : Int) (u : ByteArray) (den : Int) (ps : List Piece) (ks : List Ex) : List SV :=
  [sI a.number, sI a.line, sI a.rank, sI a.lo, sI a.hi, sI a.known, .imm (dExprs a.when_), .imm (dInts a.unless_), sI op, sI n, sS u, sI den, .imm (.isl 3 (ps.map Piece.cells)), .imm (.isl 6 (exprRows ks))]
theorem artCells {a : Article} {op n : Int} {u : ByteArray} {den : Int} {ps : List Piece} {ks : List Ex} (h : a.amount = .mk op n u den ps ks) : a.cells.map SV.imm = artList a op n u den ps ks := by
  simp [Article.cells, h, artList, exprRows_eq, Ex.op, Ex.n, Ex.unit, Ex.den, Ex.pieces, Ex.kids]

theorem article_spec (c : Codex) (m : List (Int × Int)) (hm : ∀ k v, alook k m = some v → 0 ≤ v ∧ v < c.lines.length) (a : Article) (q : Int) (hline : 0 ≤ a.line ∧ a.line < c.lines.length) (hun : a.unless_.length ≤ 9223372036854775807) (hwh : a.when_.length ≤ 9223372036854775807) :
    SPre Tryz.prog G 59 [.ptr 2 0, .agg (a.cells.map .imm)] (fitH c m q) (fun r H1 => r = sB (artOK c m a) ∧ ∃ q', H1 = fitH c m q') := by
  have hamount := whole_spec G c m hm a.amount (lineUnit c a.line)
  obtain ⟨op, n, u, den, ps, ks, ham⟩ : ∃ op n u den ps ks, a.amount = .mk op n u den ps ks := by cases h : a.amount; exact ⟨_, _, _, _, _, _, rfl⟩
  rw [artCells ham]
  rw [ham] at hamount
  refine spre_enter Tryz.func59 rfl (by rw [Tryz.ntmps59]; simp) rfl (under_fitH c m q) ?_
  intro E hH hK
  generalize hart : artOK c m a = ok at hK
  have fin : ∀ H' b, (∃ q', H'.take 3 = fitH c m q') → 3 ≤ H'.length → ok = b → E.K (sB b) H' := fun H' b ⟨q', h1⟩ h2 h3 =>
    hK _ _ h2 rfl (by show (List.take 3 H').all _ = true; rw [h1]; exact under_fitH c m q') ⟨by rw [h3], q', h1⟩
  have hwl : (a.when_.map Ex.cells).length = a.when_.length := by simp
  have hul : (a.unless_.map fun n => [dI n]).length = a.unless_.length := by simp
  have bad : artHead a = false → ok = false := fun h => by rw [← hart, artOK, h]; rfl
  (refine sgo_sound [] 1000 ?_; conv => whnf)
  repeat' ((with_reducible first | refine bdec (fun h => ?_) (fun h => ?_) | refine bndec (fun h => ?_) (fun h => ?_) | refine bwtd (fun h => ?_) (fun h => ?_) | refine bwfd (fun h => ?_) (fun h => ?_) | refine bwtn (fun h => ?_) (fun h => ?_) | refine bwfn (fun h => ?_) (fun h => ?_) | refine bwtb (fun h => ?_) (fun h => ?_) | refine bwfb (fun h => ?_) (fun h => ?_) | refine bwt (fun h => ?_) (fun h => ?_) | refine bwf (fun h => ?_) (fun h => ?_) | refine bnt (fun h => ?_) (fun h => ?_) | refine bcase (fun h => ?_) (fun h => ?_)) <;> (conv => whnf))
  all_goals try exact fin _ _ ⟨_, rfl⟩ (by simp) (bad (by simp [artHead]; intros; omega))
  have good : artHead a = true := by simp [artHead]; omega
  refine sw_keep [0, 3, 45, 46, 47] ?_
  refine sw_each a.unless_ (fun i (_ : Unit) => [(0, .ptr 2 0), (3, .ptr 3 0), (45, .imm (dInts a.unless_)), (46, sI (a.unless_.map fun n => [dI n]).length), (47, sI i)])
    (fun _ _ => fitH c m q ++ [.cells (artList a op n u den ps ks)])
    (fun done _ _ => done.all (fun n => (alook n m).isSome) = true) () rfl ?_ ?_
  · rintro _ hu1
    (refine sgo_sound [] 1000 ?_; conv => whnf)
    repeat' ((with_reducible first | refine bdec (fun h => ?_) (fun h => ?_) | refine bndec (fun h => ?_) (fun h => ?_) | refine bwtd (fun h => ?_) (fun h => ?_) | refine bwfd (fun h => ?_) (fun h => ?_) | refine bwtn (fun h => ?_) (fun h => ?_) | refine bwfn (fun h => ?_) (fun h => ?_) | refine bwtb (fun h => ?_) (fun h => ?_) | refine bwfb (fun h => ?_) (fun h => ?_) | refine bwt (fun h => ?_) (fun h => ?_) | refine bwf (fun h => ?_) (fun h => ?_) | refine bnt (fun h => ?_) (fun h => ?_) | refine bcase (fun h => ?_) (fun h => ?_)) <;> (conv => whnf))
    all_goals try (exfalso; omega)
    refine sw_keep [0, 3, 64, 65, 66] ?_
    refine sw_each a.when_ (fun i (_ : Int) => [(0, .ptr 2 0), (3, .ptr 3 0), (64, .imm (dExprs a.when_)), (65, sI (a.when_.map Ex.cells).length), (66, sI i)])
      (fun _ q => fitH c m q ++ [.cells (artList a op n u den ps ks)])
      (fun done _ _ => done.all (fun e => (wholeRun c m e tT).1) = true) q rfl ?_ ?_
    · rintro q1 hw1
      have hres : ok = (wholeRun c m (.mk op n u den ps ks) (lineUnit c a.line)).1 := by rw [← hart, artOK, good, ham]; simp only [hu1, hw1]; rfl
      obtain ⟨d, hd⟩ : ∃ d, c.lines[a.line.toNat]? = some d := ⟨c.lines[a.line.toNat]'(by omega), List.getElem?_eq_getElem _⟩
      have hlu : lineUnit c a.line = d.unit := by simp only [lineUnit, hd]
      rw [hlu] at hamount hres
      (refine sgo_sound [] 1000 ?_; conv => whnf)
      repeat' ((with_reducible first | refine bdec (fun h => ?_) (fun h => ?_) | refine bndec (fun h => ?_) (fun h => ?_) | refine bwtd (fun h => ?_) (fun h => ?_) | refine bwfd (fun h => ?_) (fun h => ?_) | refine bwtn (fun h => ?_) (fun h => ?_) | refine bwfn (fun h => ?_) (fun h => ?_) | refine bwtb (fun h => ?_) (fun h => ?_) | refine bwfb (fun h => ?_) (fun h => ?_) | refine bwt (fun h => ?_) (fun h => ?_) | refine bwf (fun h => ?_) (fun h => ?_) | refine bnt (fun h => ?_) (fun h => ?_) | refine bcase (fun h => ?_) (fun h => ?_)) <;> (conv => whnf))
      all_goals try (exfalso; omega)
      (refine swe_start 0 mixed rfl ?_; refine sgoe_sound [] (nx := 4) ?_; conv => whnf)
      refine swe_index rfl rfl rfl rfl rfl rfl rfl (by simp) (i := a.line.toNat) (by omega) (row := d.cells) (by simp [hd]) ?_
      (refine sgoe_sound [] (nx := 4) ?_; conv => whnf)
      refine swe_pre 3 (r := sB (wholeRun c m (.mk op n u den ps ks) d.unit).1) (wr := some (2, .cells [.imm (dDecls c.facts), .imm (dDecls c.lines), .imm (dArts c.arts), .map 1, sI (wholeRun c m (.mk op n u den ps ks) d.unit).2])) rfl rfl rfl rfl rfl rfl (by simp) (by simp) (by rintro b ob h; cases h; omega) ((hamount q1).mono ?_) ?_
      · rintro r H1 ⟨rfl, rfl⟩; exact ⟨rfl, rfl⟩
      (refine sgoe_sound [] (nx := 4) ?_; conv => whnf)
      (refine sgo_sound [] 1000 ?_; conv => whnf)
      exact fin _ _ ⟨_, rfl⟩ (by simp) hres
    · rintro done e rest q1 ha hl hw1 ih
      have hw := wrap_succ (n := done.length) (by omega)
      have hcall := whole_spec G c m hm e tT q1
      have bad2 : (wholeRun c m e tT).1 = false → ok = false := fun h => by rw [← hart, artOK, good]; simp [ha, h]
      obtain ⟨o1, n1, u1, d1, p1, q1'⟩ := e
      (refine sgo_sound [] 1000 ?_; conv => whnf)
      repeat' ((with_reducible first | refine bdec (fun h => ?_) (fun h => ?_) | refine bndec (fun h => ?_) (fun h => ?_) | refine bwtd (fun h => ?_) (fun h => ?_) | refine bwfd (fun h => ?_) (fun h => ?_) | refine bwtn (fun h => ?_) (fun h => ?_) | refine bwfn (fun h => ?_) (fun h => ?_) | refine bwtb (fun h => ?_) (fun h => ?_) | refine bwfb (fun h => ?_) (fun h => ?_) | refine bwt (fun h => ?_) (fun h => ?_) | refine bwf (fun h => ?_) (fun h => ?_) | refine bnt (fun h => ?_) (fun h => ?_) | refine bcase (fun h => ?_) (fun h => ?_)) <;> (conv => whnf))
      all_goals try (exfalso; omega)
      refine swr_index rfl rfl rfl rfl rfl rfl rfl rfl  (row := (Ex.mk o1 n1 u1 d1 p1 q1').cells) (by simp [ha]) ?_
      (refine sgor_sound [] 1000 ?_; conv => whnf)
      refine swr_pre 3 rfl rfl rfl rfl rfl rfl hcall ?_
      rintro r H1 ⟨rfl, rfl⟩ _
      cases hb : (wholeRun c m (.mk o1 n1 u1 d1 p1 q1') tT).1 with
      | true =>
        (refine sgor_sound [] 1000 ?_; conv => whnf)
        rw [hw]
        exact sw_kc [0, 3, 64, 65, 66] 4 (by rw [hH]; simp [fitH]) (by simp [fitH]) rfl (by simp [fitH, underII]; exact ⟨rfl, rfl, rfl⟩) (ih _ (by simp [hw1, hb]))
      | false =>
        (refine sgor_sound [] 1000 ?_; conv => whnf)
        exact fin _ _ ⟨_, rfl⟩ (by simp [fitH]) (bad2 hb)
  · rintro done x rest _ ha hl hu1 ih
    have hw := wrap_succ (n := done.length) (by omega)
    have bad2 : (alook x m).isSome = false → ok = false := fun h => by rw [← hart, artOK, good]; simp at h; simp [ha, h]
    (refine sgo_sound [] 1000 ?_; conv => whnf)
    repeat' ((with_reducible first | refine bdec (fun h => ?_) (fun h => ?_) | refine bndec (fun h => ?_) (fun h => ?_) | refine bwtd (fun h => ?_) (fun h => ?_) | refine bwfd (fun h => ?_) (fun h => ?_) | refine bwtn (fun h => ?_) (fun h => ?_) | refine bwfn (fun h => ?_) (fun h => ?_) | refine bwtb (fun h => ?_) (fun h => ?_) | refine bwfb (fun h => ?_) (fun h => ?_) | refine bwt (fun h => ?_) (fun h => ?_) | refine bwf (fun h => ?_) (fun h => ?_) | refine bnt (fun h => ?_) (fun h => ?_) | refine bcase (fun h => ?_) (fun h => ?_)) <;> (conv => whnf))
    all_goals try (exfalso; omega)
    refine swr_index rfl rfl rfl rfl rfl rfl rfl rfl  (row := [dI x]) (by simp [ha]) ?_
    (refine sgor_sound [] 1000 ?_; conv => whnf)
    cases hlk : alook x m with
    | none =>
      refine swr_lookI2 sI rfl rfl rfl rfl rfl rfl rfl rfl rfl (v := sI 0) (p := false) (by rw [hlk]; rfl) (by rw [hlk]; rfl) ?_
      (refine sgor_sound [] 1000 ?_; conv => whnf)
      exact fin _ _ ⟨_, rfl⟩ (by simp) (bad2 (by rw [hlk]; rfl))
    | some v =>
      refine swr_lookI2 sI rfl rfl rfl rfl rfl rfl rfl rfl rfl (v := sI v) (p := true) (by rw [hlk]; rfl) (by rw [hlk]; rfl) ?_
      (refine sgor_sound [] 1000 ?_; conv => whnf)
      rw [hw]
      exact sw_keep [0, 3, 45, 46, 47] (ih () (by simp [hu1, hlk]))

/-- the lines of the numbers, as far as the numbers and lines are proper and consistent -/
def linesGo (nl : Int) : List Article → List (Int × Int) → Option (List (Int × Int))
  | [], m => some m
  | a :: r, m => if 1 ≤ a.number ∧ a.number ≤ 1000000 ∧ 0 ≤ a.line ∧ a.line < nl then
      (match alook a.number m with
      | some l => if l = a.line then linesGo nl r (ains a.number a.line m) else none
      | none => linesGo nl r (ains a.number a.line m))
    else none
def codexOK (c : Codex) : Bool :=
  decide (c.facts.length ≤ 32) && decide (c.lines.length ≤ 32) && decide (c.arts.length ≤ 60) && declsOK 0 0 c.facts && declsOK 1 4 c.lines &&
  (match linesGo c.lines.length c.arts [] with
  | some m => c.arts.all (artOK c m)
  | none => false)
def Codex.fit (c : Codex) : Prop := ∀ a ∈ c.arts, a.unless_.length ≤ 9223372036854775807 ∧ a.when_.length ≤ 9223372036854775807

theorem linesGo_range (nl : Int) : ∀ (l : List Article) (m0 m : List (Int × Int)), linesGo nl l m0 = some m → (∀ k v, alook k m0 = some v → 0 ≤ v ∧ v < nl) → (∀ k v, alook k m = some v → 0 ≤ v ∧ v < nl) ∧ ∀ a ∈ l, 0 ≤ a.line ∧ a.line < nl
  | [], m0, m, h, h0 => by simp [linesGo] at h; subst h; exact ⟨h0, by simp⟩
  | a :: r, m0, m, h, h0 => by
    simp only [linesGo] at h
    split at h
    · rename_i hc
      have h1 : ∀ k v, alook k (ains a.number a.line m0) = some v → 0 ≤ v ∧ v < nl := fun k v hk => by
        rw [alook_ains] at hk
        split at hk
        · cases hk; exact ⟨hc.2.2.1, hc.2.2.2⟩
        · exact h0 k v hk
      have key : linesGo nl r (ains a.number a.line m0) = some m → _ := fun h => linesGo_range nl r _ m h h1
      have hm : linesGo nl r (ains a.number a.line m0) = some m := by
        split at h
        · split at h
          · exact h
          · cases h
        · exact h
      obtain ⟨g1, g2⟩ := key hm
      refine ⟨g1, fun x hx => ?_⟩
      rcases List.mem_cons.1 hx with rfl | hx
      · exact ⟨hc.2.2.1, hc.2.2.2⟩
      · exact g2 x hx
    · cases h

theorem codexValid_spec (c : Codex) (hfit : Codex.fit c) : SPure Tryz.prog G 32 [c.sv] (sB (codexOK c)) := by
  refine spure_enter Tryz.func32 rfl (by rw [Tryz.ntmps32]; simp) rfl rfl ?_; intro E hH hK
  have hlf : (c.facts.map Decl.cells).length = c.facts.length := by simp
  have hll : (c.lines.map Decl.cells).length = c.lines.length := by simp
  have hla : (c.arts.map Article.cells).length = c.arts.length := by simp
  (refine sgo_sound [] 1000 ?_; conv => whnf)
  repeat' ((with_reducible first | refine bdec (fun h => ?_) (fun h => ?_) | refine bndec (fun h => ?_) (fun h => ?_) | refine bwtd (fun h => ?_) (fun h => ?_) | refine bwfd (fun h => ?_) (fun h => ?_) | refine bwtn (fun h => ?_) (fun h => ?_) | refine bwfn (fun h => ?_) (fun h => ?_) | refine bwtb (fun h => ?_) (fun h => ?_) | refine bwfb (fun h => ?_) (fun h => ?_) | refine bwt (fun h => ?_) (fun h => ?_) | refine bwf (fun h => ?_) (fun h => ?_) | refine bnt (fun h => ?_) (fun h => ?_) | refine bcase (fun h => ?_) (fun h => ?_)) <;> (conv => whnf))
  all_goals try exact kB hK (by simp [codexOK]; intros; omega)
  have hsz : c.facts.length ≤ 32 ∧ c.lines.length ≤ 32 ∧ c.arts.length ≤ 60 := by omega
  refine swr_pure rfl rfl rfl rfl rfl rfl  (goodDecls_spec G c.facts 0 0 (by omega)) ?_
  (refine sgor_sound [] 1000 ?_; conv => whnf)
  repeat' ((with_reducible first | refine bdec (fun h => ?_) (fun h => ?_) | refine bndec (fun h => ?_) (fun h => ?_) | refine bwtd (fun h => ?_) (fun h => ?_) | refine bwfd (fun h => ?_) (fun h => ?_) | refine bwtn (fun h => ?_) (fun h => ?_) | refine bwfn (fun h => ?_) (fun h => ?_) | refine bwtb (fun h => ?_) (fun h => ?_) | refine bwfb (fun h => ?_) (fun h => ?_) | refine bwt (fun h => ?_) (fun h => ?_) | refine bwf (fun h => ?_) (fun h => ?_) | refine bnt (fun h => ?_) (fun h => ?_) | refine bcase (fun h => ?_) (fun h => ?_)) <;> (conv => whnf))
  case refine_2 => exact kB hK (by simp [codexOK, h])
  have hdf : declsOK 0 0 c.facts = true := h
  refine swr_pure rfl rfl rfl rfl rfl rfl  (goodDecls_spec G c.lines 1 4 (by omega)) ?_
  (refine sgor_sound [] 1000 ?_; conv => whnf)
  repeat' ((with_reducible first | refine bdec (fun h => ?_) (fun h => ?_) | refine bndec (fun h => ?_) (fun h => ?_) | refine bwtd (fun h => ?_) (fun h => ?_) | refine bwfd (fun h => ?_) (fun h => ?_) | refine bwtn (fun h => ?_) (fun h => ?_) | refine bwfn (fun h => ?_) (fun h => ?_) | refine bwtb (fun h => ?_) (fun h => ?_) | refine bwfb (fun h => ?_) (fun h => ?_) | refine bwt (fun h => ?_) (fun h => ?_) | refine bwf (fun h => ?_) (fun h => ?_) | refine bnt (fun h => ?_) (fun h => ?_) | refine bcase (fun h => ?_) (fun h => ?_)) <;> (conv => whnf))
  case refine_1.refine_1 => exact kB hK (by simp [codexOK, h])
  have hok : codexOK c = (match linesGo c.lines.length c.arts [] with | some m => c.arts.all (artOK c m) | none => false) := by
    unfold codexOK; rw [hdf, h, decide_eq_true hsz.1, decide_eq_true hsz.2.1, decide_eq_true hsz.2.2]; rfl
  clear hdf
  refine sw_keep [1, 3, 39, 40, 41] ?_
  refine sw_each c.arts (fun i (_ : List (Int × Int)) => [(1, .ptr 0 0), (3, .map 1), (39, .imm (dArts c.arts)), (40, sI (c.arts.map Article.cells).length), (41, sI i)])
    (fun _ m => [.cells [.imm (dDecls c.facts), .imm (dDecls c.lines), .imm (dArts c.arts)], .mapI .i64 (encM sI m)])
    (fun _ rest m => linesGo c.lines.length c.arts [] = linesGo c.lines.length rest m) [] rfl ?_ ?_
  · rintro m h1
    simp only [linesGo] at h1
    rw [h1] at hok
    simp only at hok
    obtain ⟨hm, hlines⟩ := linesGo_range _ _ _ _ h1 (by intro k v h; simp [alook] at h)
    (refine sgo_sound [] 1000 ?_; conv => whnf)
    repeat' ((with_reducible first | refine bdec (fun h => ?_) (fun h => ?_) | refine bndec (fun h => ?_) (fun h => ?_) | refine bwtd (fun h => ?_) (fun h => ?_) | refine bwfd (fun h => ?_) (fun h => ?_) | refine bwtn (fun h => ?_) (fun h => ?_) | refine bwfn (fun h => ?_) (fun h => ?_) | refine bwtb (fun h => ?_) (fun h => ?_) | refine bwfb (fun h => ?_) (fun h => ?_) | refine bwt (fun h => ?_) (fun h => ?_) | refine bwf (fun h => ?_) (fun h => ?_) | refine bnt (fun h => ?_) (fun h => ?_) | refine bcase (fun h => ?_) (fun h => ?_)) <;> (conv => whnf))
    all_goals try (exfalso; omega)
    refine sw_keep [1, 8, 90, 91, 92] ?_
    refine sw_each c.arts (fun i (_ : Int) => [(1, .ptr 0 0), (8, .ptr 2 0), (90, .imm (dArts c.arts)), (91, sI (c.arts.map Article.cells).length), (92, sI i)])
      (fun _ q => fitH c m q) (fun done rest _ => codexOK c = rest.all (artOK c m)) 0 hok ?_ ?_
    · rintro q h2
      (refine sgo_sound [] 1000 ?_; conv => whnf)
      repeat' ((with_reducible first | refine bdec (fun h => ?_) (fun h => ?_) | refine bndec (fun h => ?_) (fun h => ?_) | refine bwtd (fun h => ?_) (fun h => ?_) | refine bwfd (fun h => ?_) (fun h => ?_) | refine bwtn (fun h => ?_) (fun h => ?_) | refine bwfn (fun h => ?_) (fun h => ?_) | refine bwtb (fun h => ?_) (fun h => ?_) | refine bwfb (fun h => ?_) (fun h => ?_) | refine bwt (fun h => ?_) (fun h => ?_) | refine bwf (fun h => ?_) (fun h => ?_) | refine bnt (fun h => ?_) (fun h => ?_) | refine bcase (fun h => ?_) (fun h => ?_)) <;> (conv => whnf))
      all_goals try (exfalso; omega)
      exact kB hK (by rw [h2]; rfl)
    · rintro done a rest q ha hl h2 ih
      have hmem : a ∈ c.arts := by rw [ha]; simp
      have hw := wrap_succ (n := done.length) (by omega)
      have hcall := article_spec G c m hm a q (hlines a hmem) (hfit a hmem).1 (hfit a hmem).2
      obtain ⟨op, n, u, den, ps, ks, ham⟩ : ∃ op n u den ps ks, a.amount = .mk op n u den ps ks := by cases h : a.amount; exact ⟨_, _, _, _, _, _, rfl⟩
      have hrow : (c.arts.map Article.cells)[((done.length : Nat) : Int).toNat]? = some [dI a.number, dI a.line, dI a.rank, dI a.lo, dI a.hi, dI a.known, dExprs a.when_, dInts a.unless_, dI op, dI n, dS u, dI den, .isl 3 (ps.map Piece.cells), .isl 6 (exprRows ks)] := by
        simp [ha, Article.cells, ham, exprRows_eq, Ex.op, Ex.n, Ex.unit, Ex.den, Ex.pieces, Ex.kids]
      rw [artCells ham] at hcall
      (refine sgo_sound [] 1000 ?_; conv => whnf)
      repeat' ((with_reducible first | refine bdec (fun h => ?_) (fun h => ?_) | refine bndec (fun h => ?_) (fun h => ?_) | refine bwtd (fun h => ?_) (fun h => ?_) | refine bwfd (fun h => ?_) (fun h => ?_) | refine bwtn (fun h => ?_) (fun h => ?_) | refine bwfn (fun h => ?_) (fun h => ?_) | refine bwtb (fun h => ?_) (fun h => ?_) | refine bwfb (fun h => ?_) (fun h => ?_) | refine bwt (fun h => ?_) (fun h => ?_) | refine bwf (fun h => ?_) (fun h => ?_) | refine bnt (fun h => ?_) (fun h => ?_) | refine bcase (fun h => ?_) (fun h => ?_)) <;> (conv => whnf))
      all_goals try (exfalso; omega)
      refine swr_index rfl rfl rfl rfl rfl rfl rfl rfl  (row := [dI a.number, dI a.line, dI a.rank, dI a.lo, dI a.hi, dI a.known, dExprs a.when_, dInts a.unless_, dI op, dI n, dS u, dI den, .isl 3 (ps.map Piece.cells), .isl 6 (exprRows ks)]) hrow ?_
      (refine sgor_sound [] 1000 ?_; conv => whnf)
      refine swr_pre 3 rfl rfl rfl rfl rfl rfl hcall ?_
      rintro r H1 ⟨rfl, q', rfl⟩ _
      cases hb : artOK c m a with
      | true =>
        (refine sgor_sound [] 1000 ?_; conv => whnf)
        rw [hw]
        exact sw_kc [1, 8, 90, 91, 92] 3 (by simp [hH]) (by simp [fitH]) rfl (by simp [fitH, underII]; exact ⟨rfl, rfl⟩) (ih q' (by rw [h2]; simp [hb]))
      | false =>
        (refine sgor_sound [] 1000 ?_; conv => whnf)
        exact kB hK (by rw [h2]; simp [hb])
  · rintro done a rest m ha hl h1 ih
    have hw := wrap_succ (n := done.length) (by omega)
    obtain ⟨op, n, u, den, ps, ks, ham⟩ : ∃ op n u den ps ks, a.amount = .mk op n u den ps ks := by cases h : a.amount; exact ⟨_, _, _, _, _, _, rfl⟩
    have hrow : (c.arts.map Article.cells)[((done.length : Nat) : Int).toNat]? = some [dI a.number, dI a.line, dI a.rank, dI a.lo, dI a.hi, dI a.known, dExprs a.when_, dInts a.unless_, dI op, dI n, dS u, dI den, .isl 3 (ps.map Piece.cells), .isl 6 (exprRows ks)] := by
      simp [ha, Article.cells, ham, exprRows_eq, Ex.op, Ex.n, Ex.unit, Ex.den, Ex.pieces, Ex.kids]
    simp only [linesGo] at h1
    have bad : linesGo c.lines.length c.arts [] = none → codexOK c = false := fun h => by rw [hok, h]
    (refine sgo_sound [] 1000 ?_; conv => whnf)
    repeat' ((with_reducible first | refine bdec (fun h => ?_) (fun h => ?_) | refine bndec (fun h => ?_) (fun h => ?_) | refine bwtd (fun h => ?_) (fun h => ?_) | refine bwfd (fun h => ?_) (fun h => ?_) | refine bwtn (fun h => ?_) (fun h => ?_) | refine bwfn (fun h => ?_) (fun h => ?_) | refine bwtb (fun h => ?_) (fun h => ?_) | refine bwfb (fun h => ?_) (fun h => ?_) | refine bwt (fun h => ?_) (fun h => ?_) | refine bwf (fun h => ?_) (fun h => ?_) | refine bnt (fun h => ?_) (fun h => ?_) | refine bcase (fun h => ?_) (fun h => ?_)) <;> (conv => whnf))
    all_goals try (exfalso; omega)
    refine swr_index rfl rfl rfl rfl rfl rfl rfl rfl  (row := [dI a.number, dI a.line, dI a.rank, dI a.lo, dI a.hi, dI a.known, dExprs a.when_, dInts a.unless_, dI op, dI n, dS u, dI den, .isl 3 (ps.map Piece.cells), .isl 6 (exprRows ks)]) hrow ?_
    (refine sgor_sound [] 1000 ?_; conv => whnf)
    repeat' ((with_reducible first | refine bdec (fun h => ?_) (fun h => ?_) | refine bndec (fun h => ?_) (fun h => ?_) | refine bwtd (fun h => ?_) (fun h => ?_) | refine bwfd (fun h => ?_) (fun h => ?_) | refine bwtn (fun h => ?_) (fun h => ?_) | refine bwfn (fun h => ?_) (fun h => ?_) | refine bwtb (fun h => ?_) (fun h => ?_) | refine bwfb (fun h => ?_) (fun h => ?_) | refine bwt (fun h => ?_) (fun h => ?_) | refine bwf (fun h => ?_) (fun h => ?_) | refine bnt (fun h => ?_) (fun h => ?_) | refine bcase (fun h => ?_) (fun h => ?_)) <;> (conv => whnf))
    all_goals try exact kB hK (bad (by rw [h1, if_neg (by omega)]))
    rw [if_pos (by omega)] at h1
    cases hlk : alook a.number m with
    | none =>
      rw [hlk] at h1
      refine swr_lookI2 sI rfl rfl rfl rfl rfl rfl rfl rfl rfl (v := sI 0) (p := false) (by rw [hlk]; rfl) (by rw [hlk]; rfl) ?_
      (refine sgor_sound [] 1000 ?_; conv => whnf)
      refine swr_setI sI a.line rfl rfl rfl rfl rfl rfl rfl rfl rfl ?_
      (refine sgor_sound [] 1000 ?_; conv => whnf)
      rw [hw]
      exact sw_kc [1, 3, 39, 40, 41] 2 (by simp [hH]) (by simp) rfl (by simp [underII]; rfl) (ih _ h1)
    | some l =>
      rw [hlk] at h1
      refine swr_lookI2 sI rfl rfl rfl rfl rfl rfl rfl rfl rfl (v := sI l) (p := true) (by rw [hlk]; rfl) (by rw [hlk]; rfl) ?_
      (refine sgor_sound [] 1000 ?_; conv => whnf)
      repeat' ((with_reducible first | refine bdec (fun h => ?_) (fun h => ?_) | refine bndec (fun h => ?_) (fun h => ?_) | refine bwtd (fun h => ?_) (fun h => ?_) | refine bwfd (fun h => ?_) (fun h => ?_) | refine bwtn (fun h => ?_) (fun h => ?_) | refine bwfn (fun h => ?_) (fun h => ?_) | refine bwtb (fun h => ?_) (fun h => ?_) | refine bwfb (fun h => ?_) (fun h => ?_) | refine bwt (fun h => ?_) (fun h => ?_) | refine bwf (fun h => ?_) (fun h => ?_) | refine bnt (fun h => ?_) (fun h => ?_) | refine bcase (fun h => ?_) (fun h => ?_)) <;> (conv => whnf))
      · exact kB hK (bad (by rw [h1]; simp only; rw [if_neg h]))
      · simp only at h1
        rw [if_pos h] at h1
        refine swr_setI sI a.line rfl rfl rfl rfl rfl rfl rfl rfl rfl ?_
        (refine sgor_sound [] 1000 ?_; conv => whnf)
        rw [hw]
        exact sw_kc [1, 3, 39, 40, 41] 2 (by simp [hH]) (by simp) rfl (by simp [underII]; rfl) (ih _ h1)

end Go.Proofs.YtblpjknmhajcgaaGreatDoor

/-
  DERIVED: THE SHELF's CONTRACTS AT THIS DUMP, IN PLAIN WORDS (tools/lay-plain.mjs out of 'TryzShelf.lean', which tools/lay-shelf.mjs wrote): THE SAME DECLARATIONS UNDER THE SAME NAMES: 'import', 'namespace', 'open', 'def', 'theorem' AND NOTHING ELSE: no command of the shelf's: FOR A HAND-IN. Each laying: the table of numbers ('.._ren') and one theorem, a field a fact of the dump's own or the kernel's comparison; each contract: ONE APPLICATION.
-/
namespace Go.Proofs
open Go.Shelf
def Tryz.lays128_ren : Go.Shelf.Ren := ⟨fun | 128 => 134 | n => n, fun | 51 => 179 | 3 => 3 | 4 => 4 | 46 => 139 | 5 => 5 | 9 => 9 | n => n, fun | n => n⟩
def Tryz.lays125_ren : Go.Shelf.Ren := ⟨fun | 125 => 94 | 128 => 134 | 129 => 135 | n => n, fun | 46 => 139 | 3 => 3 | 51 => 179 | 53 => 181 | 4 => 4 | 5 => 5 | 9 => 9 | n => n, fun | n => n⟩
def Tryz.lays215_ren : Go.Shelf.Ren := ⟨fun | 215 => 164 | n => n, fun | 3 => 3 | 4 => 4 | n => n, fun | n => n⟩
open Go.RowKit in
def Tryz.lays129_ren : Go.Shelf.Ren := ⟨fun | 129 => 135 | n => n, fun | 53 => 181 | 3 => 3 | 4 => 4 | 46 => 139 | 5 => 5 | 9 => 9 | n => n, fun | n => n⟩
def Tryz.lays189_ren : Go.Shelf.Ren := ⟨fun | 189 => 64 | 125 => 94 | 257 => 93 | 128 => 134 | 129 => 135 | 294 => 125 | 295 => 126 | 296 => 127 | 297 => 128 | 298 => 129 | 299 => 130 | 216 => 131 | 300 => 132 | 301 => 133 | 328 => 159 | 329 => 160 | 330 => 161 | 331 => 162 | 332 => 163 | 215 => 164 | 343 => 177 | n => n, fun | 28 => 26 | 3 => 3 | 46 => 139 | 0 => 0 | 51 => 179 | 53 => 181 | 4 => 4 | 183 => 172 | 182 => 171 | 131 => 94 | 5 => 5 | 9 => 9 | 218 => 197 | 222 => 201 | 228 => 209 | 229 => 47 | n => n, fun | n => n⟩
theorem Tryz.lays189 : Go.Proofs.Lays.n189 Tryz.prog Tryz.lays189_ren := {
  mixed := by kernel_rfl
  f125 := Tryz.func94.trans (congrArg some (by kernel_rfl))
  f128 := Tryz.func134.trans (congrArg some (by kernel_rfl))
  f129 := Tryz.func135.trans (congrArg some (by kernel_rfl))
  f189 := Tryz.func64.trans (congrArg some (by kernel_rfl))
  f215 := Tryz.func164.trans (congrArg some (by kernel_rfl))
  f216 := Tryz.func131.trans (congrArg some (by kernel_rfl))
  f257 := Tryz.func93.trans (congrArg some (by kernel_rfl))
  f294 := Tryz.func125.trans (congrArg some (by kernel_rfl))
  f295 := Tryz.func126.trans (congrArg some (by kernel_rfl))
  f296 := Tryz.func127.trans (congrArg some (by kernel_rfl))
  f297 := Tryz.func128.trans (congrArg some (by kernel_rfl))
  f298 := Tryz.func129.trans (congrArg some (by kernel_rfl))
  f299 := Tryz.func130.trans (congrArg some (by kernel_rfl))
  f300 := Tryz.func132.trans (congrArg some (by kernel_rfl))
  f301 := Tryz.func133.trans (congrArg some (by kernel_rfl))
  f328 := Tryz.func159.trans (congrArg some (by kernel_rfl))
  f329 := Tryz.func160.trans (congrArg some (by kernel_rfl))
  f330 := Tryz.func161.trans (congrArg some (by kernel_rfl))
  f331 := Tryz.func162.trans (congrArg some (by kernel_rfl))
  f332 := Tryz.func163.trans (congrArg some (by kernel_rfl))
  f343 := Tryz.func177.trans (congrArg some (by kernel_rfl))
  t0 := Tryz.underlying0
  a0 := Tryz.isAgg0
  z0 := Tryz.sizeOf0
  v0 := Tryz.zeroValue0
  t3 := Tryz.underlying3
  a3 := Tryz.isAgg3
  z3 := Tryz.sizeOf3
  v3 := Tryz.zeroValue3
  t4 := Tryz.underlying4
  a4 := Tryz.isAgg4
  z4 := Tryz.sizeOf4
  v4 := Tryz.zeroValue4
  t5 := Tryz.underlying5
  a5 := Tryz.isAgg5
  z5 := Tryz.sizeOf5
  v5 := Tryz.zeroValue5
  t9 := Tryz.underlying9
  a9 := Tryz.isAgg9
  z9 := Tryz.sizeOf9
  v9 := Tryz.zeroValue9
  t28 := Tryz.underlying26
  a28 := Tryz.isAgg26
  z28 := Tryz.sizeOf26
  v28 := Tryz.zeroValue26
  t46 := Tryz.underlying139
  a46 := Tryz.isAgg139
  z46 := Tryz.sizeOf139
  v46 := Tryz.zeroValue139
  t51 := Tryz.underlying179
  a51 := Tryz.isAgg179
  z51 := Tryz.sizeOf179
  v51 := Tryz.zeroValue179
  t53 := Tryz.underlying181
  a53 := Tryz.isAgg181
  z53 := Tryz.sizeOf181
  v53 := Tryz.zeroValue181
  t131 := Tryz.underlying94
  a131 := Tryz.isAgg94
  z131 := Tryz.sizeOf94
  v131 := Tryz.zeroValue94
  t182 := Tryz.underlying171
  a182 := Tryz.isAgg171
  z182 := Tryz.sizeOf171
  v182 := Tryz.zeroValue171
  t183 := Tryz.underlying172
  a183 := Tryz.isAgg172
  z183 := Tryz.sizeOf172
  v183 := Tryz.zeroValue172
  t218 := Tryz.underlying197
  a218 := Tryz.isAgg197
  z218 := Tryz.sizeOf197
  v218 := Tryz.zeroValue197
  t222 := Tryz.underlying201
  a222 := Tryz.isAgg201
  z222 := Tryz.sizeOf201
  v222 := Tryz.zeroValue201
  t228 := Tryz.underlying209
  a228 := Tryz.isAgg209
  z228 := Tryz.sizeOf209
  v228 := Tryz.zeroValue209
  t229 := Tryz.underlying47
  a229 := Tryz.isAgg47
  z229 := Tryz.sizeOf47
  v229 := Tryz.zeroValue47 }
open Go.Sort Go.RowKit in
theorem Tryz.slices_Sort_int (blk off cap : Nat) (zs : List Int) (w : World) (hH : Holds (Value.int .i64) w blk off zs.toArray) (hblk : blk < w.heap.size) (hsz : zs.length < 4611686018427387904) :
    Calls Tryz.prog 64 #[.slice (some ⟨blk, off, none⟩) zs.length cap] w fun e w' =>
      e = .returned (.tuple #[]) ∧ ∃ n os, w' = grow (putRow (Value.int .i64) (Sort.ahead w n) blk off (zs.mergeSort fun x y => decide (x ≤ y)).toArray) os := Any.slices_Sort_int Tryz.lays189 blk off cap zs w hH hblk hsz
def Tryz.lays108_ren : Go.Shelf.Ren := ⟨fun | 108 => 110 | n => n, fun | 28 => 26 | 3 => 3 | 0 => 0 | 4 => 4 | n => n, fun | n => n⟩
open Go.Lib in
open Go.Lib in
def Tryz.lays107_ren : Go.Shelf.Ren := ⟨fun | 107 => 78 | 108 => 110 | n => n, fun | 28 => 26 | 3 => 3 | 4 => 4 | 0 => 0 | n => n, fun | n => n⟩
open Go.Lib in
open Go.Lib in
def Tryz.laysNm215_ren : Go.Shelf.Ren := ⟨fun | 15 => 63 | n => n, fun | 22 => 26 | 3 => 3 | 4 => 4 | n => n, fun | n => n⟩
theorem Tryz.laysNm215 : Go.Proofs.Lays2.n15 Tryz.prog Tryz.laysNm215_ren := {
  mixed := by kernel_rfl
  f15 := Tryz.func63.trans (congrArg some (by kernel_rfl))
  t3 := Tryz.underlying3
  a3 := Tryz.isAgg3
  z3 := Tryz.sizeOf3
  v3 := Tryz.zeroValue3
  t4 := Tryz.underlying4
  a4 := Tryz.isAgg4
  z4 := Tryz.sizeOf4
  v4 := Tryz.zeroValue4
  t22 := Tryz.underlying26
  a22 := Tryz.isAgg26
  z22 := Tryz.sizeOf26
  v22 := Tryz.zeroValue26
  i3 := by kernel_rfl }
open Go.RowKit Go.Lib in
/-- slices.Clone at []int: "Clone returns a copy of the slice. The elements are copied using assignment, so this is a shallow clone. The result may have additional unused capacity. The result preserves the nilness of s.": OF A SLICE THAT IS NOT nil IT RETURNS A SLICE THAT IS NOT nil, OF THE SAME ELEMENTS, IN MEMORY OF THE CALL's OWN: in the how-to's words (6f): 'w'.ownsRow B e 1 v' n cells': v' begins at the head of a row among the blocks from B on (B: the heap's size at the call), not frozen, whose first cells are the elements · 'Below B w w'': below B all is as it was. The capacity is whatever the run-time gives. 'zs': what the cells behind the slice's address hold; 'zs.take n': its elements. (LAID: no walk: one application.) -/
theorem Tryz.slices_Clone_int (b off n c : Nat) (zs : List Int) (w : World) (hz : n ≤ zs.length) (hbig : n * 8 ≤ 140737488355328) (hc : ∀ j, j < zs.length → w.cell? ⟨b, off + j, none⟩ = some (.int .i64 (zs.getD j 0))) :
    Calls Tryz.prog 63 #[.slice (some ⟨b, off, none⟩) n c] w fun e w' => ∃ v', e = .returned v' ∧ w'.ownsRow w.heap.size 3 1 v' n ((zs.take n).map (Value.int .i64)) ∧ v' ≠ .slice none 0 0 ∧ Below w.heap.size w w' := Any.slices_Clone_int Tryz.laysNm215 b off n c zs w hz hbig hc
open Go.RowKit Go.Lib in
/-- The same at nil: nil comes back; the world is as it was. (LAID: no walk: one application.) -/
theorem Tryz.slices_Clone_int_nil (n c : Nat) (w : World) :
    Calls Tryz.prog 63 #[.slice none n c] w fun e w' => e = .returned (.slice none 0 0) ∧ w' = w := Any.slices_Clone_int_nil Tryz.laysNm215 n c w
open Go.RowKit Go.Lib in
/-- The same at a slice of length 0 that is not nil, WHATEVER ITS ADDRESS (no cell is asked for): a slice that is not nil and owns nothing comes back. (LAID: no walk: one application.) -/
theorem Tryz.slices_Clone_int_zero (a : Addr) (c : Nat) (w : World) :
    Calls Tryz.prog 63 #[.slice (some a) 0 c] w fun e w' => ∃ v', e = .returned v' ∧ w'.ownsRow w.heap.size 3 1 v' 0 [] ∧ v' ≠ .slice none 0 0 ∧ Below w.heap.size w w' := Any.slices_Clone_int_zero Tryz.laysNm215 a c w
def Tryz.laysNm220_ren : Go.Shelf.Ren := ⟨fun | 20 => 65 | n => n, fun | 22 => 26 | 3 => 3 | 4 => 4 | 0 => 0 | n => n, fun | n => n⟩
theorem Tryz.laysNm220 : Go.Proofs.Lays2.n20 Tryz.prog Tryz.laysNm220_ren := {
  mixed := by kernel_rfl
  f20 := Tryz.func65.trans (congrArg some (by kernel_rfl))
  t0 := Tryz.underlying0
  a0 := Tryz.isAgg0
  z0 := Tryz.sizeOf0
  v0 := Tryz.zeroValue0
  t3 := Tryz.underlying3
  a3 := Tryz.isAgg3
  z3 := Tryz.sizeOf3
  v3 := Tryz.zeroValue3
  t4 := Tryz.underlying4
  a4 := Tryz.isAgg4
  z4 := Tryz.sizeOf4
  v4 := Tryz.zeroValue4
  t22 := Tryz.underlying26
  a22 := Tryz.isAgg26
  z22 := Tryz.sizeOf26
  v22 := Tryz.zeroValue26
  i3 := by kernel_rfl }
open Go.RowKit Go.Lib Go.Sort in
open Go.RowKit Go.Lib Go.Sort in
/-- slices.Compact at []int: "Compact replaces consecutive runs of equal elements with a single copy. This is like the uniq command found on Unix. Compact modifies the contents of the slice s and returns the modified slice, which may have a smaller length. Compact zeroes the elements between the new length and the original length. The result preserves the nilness of s.": IT RETURNS THE SLICE CUT TO 'Lib.compact zs'; ITS CELLS HOLD 'Lib.compact zs', THEN ZERO VALUES up to the old length; all else is as it was, but for the count of draws. IN THE WORDS OF slices.Sort's CONTRACT ('Holds', 'putRow'): so the everyday 'slices.Sort(xs); xs = slices.Compact(xs)' goes from the one contract to the other. It asks 'zs.length ≤ cap' (every slice's: the reslicing 's[:k]' looks at it). Length 0, nil: '.._empty'. (LAID: no walk: one application.) -/
theorem Tryz.slices_Compact_int (blk off cap : Nat) (zs : List Int) (w : World) (hH : Holds (Value.int .i64) w blk off zs.toArray) (hsz : zs.length ≤ 9223372036854775807) (hcap : zs.length ≤ cap) :
    Calls Tryz.prog 65 #[.slice (some ⟨blk, off, none⟩) zs.length cap] w fun e w' => e = .returned (.slice (some ⟨blk, off, none⟩) (Lib.compact zs).length cap) ∧ ∃ q, w' = putRow (Value.int .i64) (Sort.ahead w q) blk off (Lib.compact zs ++ List.replicate (zs.length - (Lib.compact zs).length) 0).toArray := Any.slices_Compact_int Tryz.laysNm220 blk off cap zs w hH hsz hcap
open Go.RowKit Go.Lib Go.Sort in
/-- The same at a slice of length 0, a nil one too: it comes back as it is. (LAID: no walk: one application.) -/
theorem Tryz.slices_Compact_int_empty (a : Option Addr) (cap : Nat) (w : World) :
    Calls Tryz.prog 65 #[.slice a 0 cap] w fun e w' => e = .returned (.slice a 0 cap) ∧ w' = w := Any.slices_Compact_int_empty Tryz.laysNm220 a cap w
def Tryz.laysNm237_ren : Go.Shelf.Ren := ⟨fun | 37 => 164 | n => n, fun | 3 => 3 | 4 => 4 | n => n, fun | n => n⟩
open Go.RowKit Go.Lib in
def Tryz.laysNm231_ren : Go.Shelf.Ren := ⟨fun | 31 => 131 | 37 => 164 | n => n, fun | 3 => 3 | 4 => 4 | n => n, fun | n => n⟩
open Go.RowKit Go.Lib in
open Go.RowKit Go.Lib Go.Sort in
open Go.RowKit Go.Sort in
/-- .. and plain. (LAID: no walk: one application.) -/
theorem Tryz.slices_Sort_int_none (p : Option Addr) (cap : Nat) (w : World) :
    Calls Tryz.prog 64 #[.slice p 0 cap] w fun e w' => e = .returned (.tuple #[]) ∧ w' = w := Any.slices_Sort_int_none Tryz.lays189 p cap w
end Go.Proofs

/- Contracts, part p: sorting; what is in force; views. -/
namespace Go.Proofs.YtblpjknmhajcgaaGreatDoor
open Go Go.Sh
set_option maxRecDepth 10000
set_option maxHeartbeats 2000000
variable (G : List (Nat × D))

abbrev sortI (l : List Int) : List Int := l.mergeSort fun x y => decide (x ≤ y)

def readerL (c : Codex) (l : List Fact) (p : ByteArray) (k : Int) : List SV := [.imm (dDecls c.facts), .imm (dDecls c.lines), .imm (dArts c.arts), .imm (dFacts l), sS p, sI k]
def usableOf (c : Codex) (l : List Fact) (p : ByteArray) (k day : Int) (d : Decl) : Int × Bool :=
  let r := look p d.name day k l
  if r.2.2 = false ∨ (d.unit = tT ∧ r.1 ≠ 0 ∧ r.1 ≠ 1) then (0, false) else (r.1, true)
def pairSV (r : Int × Bool) : SV := .tup [sI r.1, sB r.2]

/-- the versions of the numbers that have not been seen, in the order of the articles -/
def forceGo (arts : List Article) (day k : Int) : List Article → List (Int × Bool) → List Int → List Int
  | [], _, vs => vs
  | a :: r, m, vs => if (alook a.number m).isSome then forceGo arts day k r m vs
    else forceGo arts day k r (ains a.number true m) (match version arts a.number day k with | some i => vs ++ [(i : Int)] | none => vs)
def inForce (arts : List Article) (day k : Int) : List Int := sortI (forceGo arts day k arts [] [])
end Go.Proofs.YtblpjknmhajcgaaGreatDoor

/- Contracts, part q: views. -/
namespace Go.Proofs.YtblpjknmhajcgaaGreatDoor
open Go Go.Sh
set_option maxRecDepth 10000
set_option maxHeartbeats 2000000
variable (G : List (Nat × D))

def viewOf (c : Codex) (l : List Fact) (p : ByteArray) (k day : Int) : View :=
  ⟨day, c.facts.map (fun d => (usableOf c l p k day d).2), c.facts.map (fun d => (usableOf c l p k day d).1), inForce c.arts day k⟩
abbrev nilS : SV := .imm (.val (.slice none 0 0))
end Go.Proofs.YtblpjknmhajcgaaGreatDoor

/- Contracts, part r: readers, views of a day, runs of a month. -/
namespace Go.Proofs.YtblpjknmhajcgaaGreatDoor
open Go Go.Sh
set_option maxRecDepth 10000
set_option maxHeartbeats 2000000
variable (G : List (Nat × D))

def readerOK (c : Codex) (l : List Fact) (k : Int) : Bool := codexOK c && storeOK l && dayOK k
def okSV (r : SV) (b : Bool) : SV := .tup [r, sB b]

def viewAt (c : Codex) (l : List Fact) (p : ByteArray) (day k : Int) : View × Int :=
  if readerOK c l k && dayOK day then (viewOf c l p k day, 0) else (⟨0, [], [], []⟩, 1)
def errSV (r : SV) (n : Int) : SV := .tup [r, sI n]
def zeroView : SV := .agg [sI 0, nilS, nilS, nilS]

end Go.Proofs.YtblpjknmhajcgaaGreatDoor

/- Contracts, part s: views of a day. -/
namespace Go.Proofs.YtblpjknmhajcgaaGreatDoor
open Go Go.Sh
set_option maxRecDepth 10000
set_option maxHeartbeats 2000000
variable (G : List (Nat × D))

end Go.Proofs.YtblpjknmhajcgaaGreatDoor

/- Contracts, part t: the runs of a month. -/
namespace Go.Proofs.YtblpjknmhajcgaaGreatDoor
open Go Go.Sh
set_option maxRecDepth 10000
set_option maxHeartbeats 2000000

def dayViews (c : Codex) (l : List Fact) (p : ByteArray) (m k : Int) : List View := (List.range (monthLen m).toNat).map fun (i : Nat) => viewOf c l p k (firstDay m + i)

end Go.Proofs.YtblpjknmhajcgaaGreatDoor

/- Contracts, part u: the runs of a month. -/
namespace Go.Proofs.YtblpjknmhajcgaaGreatDoor
open Go Go.Sh
set_option maxRecDepth 10000
set_option maxHeartbeats 2000000

def setLast : List (Int × Int) → Int → List (Int × Int)
  | [], _ => []
  | [r], x => [(r.1, x)]
  | r :: q :: l, x => r :: setLast (q :: l) x
def addRun (rs : List (Int × Int)) (b : Option View) (v : View) : List (Int × Int) :=
  match b with
  | some u => if u.same v then setLast rs (v.day + 1) else rs ++ [(v.day, v.day + 1)]
  | none => rs ++ [(v.day, v.day + 1)]
def runsOf (vs : List View) : List (Int × Int) := (vs.foldl (fun s v => (addRun s.1 s.2 v, some v)) (([], none) : List (Int × Int) × Option View)).1
def runCell (r : Int × Int) : List D := [dI r.1, dI r.2]
def runCells (rs : List (Int × Int)) : List SV := (rs.map runCell).flatten.map .imm

def View.cs (v : View) : List SV := [sI v.day, .imm (dBools v.has), .imm (dInts v.value), .imm (dInts v.arts)]
def beforeObj : Option View → SObj
  | none => .cells [sI 0, nilS, nilS, nilS]
  | some v => .cells (View.cs v)
def dRuns (rs : List (Int × Int)) : D := .isl 2 (rs.map runCell)

def monthRuns (c : Codex) (l : List Fact) (p : ByteArray) (m k : Int) : List (Int × Int) × Int :=
  if readerOK c l k && decide (0 ≤ m) && decide (m ≤ 1199) then (runsOf (dayViews c l p m k), 0) else ([], 1)

end Go.Proofs.YtblpjknmhajcgaaGreatDoor

/- Contracts, part v: the example of law 13. -/
namespace Go.Proofs.YtblpjknmhajcgaaGreatDoor
open Go Go.Sh
set_option maxRecDepth 10000
set_option maxHeartbeats 2000000

def bs (l : List UInt8) : ByteArray := ⟨l.toArray⟩
def bMarried : ByteArray := bs [109, 97, 114, 114, 105, 101, 100]
def bTruth : ByteArray := bs [116, 114, 117, 116, 104]
def bBasic : ByteArray := bs [98, 97, 115, 105, 99]
def bEUR : ByteArray := bs [69, 85, 82]
def bAnn : ByteArray := bs [97, 110, 110]
def exArt (lo hi known : Int) : Article := ⟨1, 0, 0, lo, hi, known, [], [], .mk 1 100 bEUR 0 [] []⟩
def exC : Codex := ⟨[⟨bMarried, bTruth, 0⟩], [⟨bBasic, bEUR, 1⟩], [exArt 8766 8800 8766, exArt 8790 9000 8780]⟩
def exF : List Fact := [⟨bAnn, bMarried, 8770, 9000, 8800, 1, false⟩]

abbrev dNil : D := .val (.slice none 0 0)
def exRow (lo hi known : Int) : List D := [dI 1, dI 0, dI 0, dI lo, dI hi, dI known, dNil, dNil, dI 1, dI 100, dS bEUR, dI 0, dNil, dNil]
def exSV : SV := .tup [.agg [.imm (dDecls exC.facts), .imm (dDecls exC.lines), .imm (.isl 14 [exRow 8766 8800 8766, exRow 8790 9000 8780])], storeSV exF]
variable (G : List (Nat × D))
end Go.Proofs.YtblpjknmhajcgaaGreatDoor

/- Contracts, part w: the head of law 13. -/
namespace Go.Proofs.YtblpjknmhajcgaaGreatDoor
open Go Go.Sh
set_option maxRecDepth 10000
set_option maxHeartbeats 2000000

def exArts (day k : Int) : List Int := match version exC.arts 1 day k with | some i => [(i : Int)] | none => []
def exView (day k : Int) : View := ⟨day, exC.facts.map (fun d => (usableOf exC exF bAnn k day d).2), exC.facts.map (fun d => (usableOf exC exF bAnn k day d).1), exArts day k⟩
end Go.Proofs.YtblpjknmhajcgaaGreatDoor

/- Contracts, part Ha: sizes of expressions and codices. -/
namespace Go.Proofs.YtblpjknmhajcgaaGreatDoor
open Go Go.Sh
set_option maxRecDepth 10000
set_option maxHeartbeats 2000000
variable (G : List (Nat × D))

mutual
def exSize : Ex → Nat
  | .mk _ _ _ _ _ ks => exsSize ks + 1
def exsSize : List Ex → Nat
  | [] => 0
  | k :: r => exSize k + exsSize r
end
mutual
def exDepth : Ex → Nat
  | .mk _ _ _ _ _ ks => exsDepth ks + 1
def exsDepth : List Ex → Nat
  | [] => 0
  | k :: r => max (exDepth k) (exsDepth r)
end
theorem exSize_pos (e : Ex) : 1 ≤ exSize e := by cases e; simp [exSize]
theorem exsSize_app (a b : List Ex) : exsSize (a ++ b) = exsSize a + exsSize b := by
  induction a with
  | nil => simp [exsSize]
  | cons k a ih => simp [exsSize, ih]; omega
theorem exsSize_len (a : List Ex) : a.length ≤ exsSize a := by
  induction a with
  | nil => simp
  | cons k a ih => have := exSize_pos k; simp [exsSize]; omega
def countOf (n : Nat) (L : Int) : Int := if L ≤ 0 then 0 else if (n : Int) ≤ L then n else L

theorem countOf_cases (n : Nat) (L : Int) (h : 0 < L) : ((n : Int) ≤ L ∧ countOf n L = n) ∨ (L < n ∧ countOf n L = L) := by
  simp only [countOf]
  rw [if_neg (by omega)]
  split <;> omega
theorem countOf_step (a s : Nat) (L : Int) (h0 : 0 < L) (h : countOf (a + 1) L < L) : countOf (a + 1) L + countOf s (L - countOf (a + 1) L) = countOf (a + s + 1) L ∧ countOf (a + 1) L = ((a + 1 : Nat) : Int) ∧ countOf (a + s + 1) L ≤ L ∧ 0 ≤ countOf (a + s + 1) L := by
  have h1 := countOf_cases (a + 1) L h0
  have h2 := countOf_cases s (L - countOf (a + 1) L) (by omega)
  have h3 := countOf_cases (a + s + 1) L h0
  omega

theorem count_spec (N : Nat) : ∀ (e : Ex), SizeOf.sizeOf e < N → ∀ L : Int, 0 ≤ L → L ≤ 1000000 → SPure Tryz.prog G 92 [e.sv, sI L] (sI (countOf (exSize e) L)) := by
  induction N with
  | zero => intro e h; omega
  | succ N IH =>
  intro e he L hL0 hL
  obtain ⟨op, n, u, den, ps, ks⟩ := e
  simp only [Ex.mk.sizeOf_spec] at he
  have hrows := exprRows_eq ks
  have hlen : (exprRows ks).length = ks.length := by rw [hrows]; simp
  refine spure_enter Tryz.func92 rfl (by rw [Tryz.ntmps92]; simp) rfl rfl ?_; intro E hH hK
  (refine sgo_sound [] 1000 ?_; conv => whnf)
  repeat' ((with_reducible first | refine bdec (fun h => ?_) (fun h => ?_) | refine bndec (fun h => ?_) (fun h => ?_) | refine bwtd (fun h => ?_) (fun h => ?_) | refine bwfd (fun h => ?_) (fun h => ?_) | refine bwtn (fun h => ?_) (fun h => ?_) | refine bwfn (fun h => ?_) (fun h => ?_) | refine bwtb (fun h => ?_) (fun h => ?_) | refine bwfb (fun h => ?_) (fun h => ?_) | refine bwt (fun h => ?_) (fun h => ?_) | refine bwf (fun h => ?_) (fun h => ?_) | refine bnt (fun h => ?_) (fun h => ?_) | refine bcase (fun h => ?_) (fun h => ?_)) <;> (conv => whnf))
  · exact kI hK (by simp only [countOf]; rw [if_pos h])
  refine sw_keep [1, 2, 5, 6] ?_
  refine sw_loop_ind (σ := List Ex × List Ex × Int) (fun x => [(1, sI L), (2, .ptr 0 0), (5, sI x.2.2), (6, sI x.1.length)])
    (fun _ => [.cells ((Ex.mk op n u den ps ks).cells.map .imm)])
    (fun x => ks = x.1 ++ x.2.1 ∧ (x.1.length : Int) ≤ L ∧ x.2.2 = countOf (exsSize x.1 + 1) L) (fun x => x.2.1.length) ?_ ([], ks, 1) ⟨rfl, by simp; omega, by have := countOf_cases (0 + 1) L (by omega); simp only [exsSize]; omega⟩
  rintro ⟨done, rest, cnt⟩ ⟨ha, hl, hcnt⟩ ih
  dsimp only at ha hl hcnt ih ⊢
  subst hcnt
  have hl1 : done.length + rest.length = ks.length := by rw [ha]; simp
  have hsz : exsSize ks = exsSize done + exsSize rest := by rw [ha, exsSize_app]
  have hdl := exsSize_len done
  have hfin : ∀ H, (rest = [] ∨ L ≤ countOf (exsSize done + 1) L) → E.K (sI (countOf (exsSize done + 1) L)) H := fun H hc => by
    have : countOf (exSize (.mk op n u den ps ks)) L = countOf (exsSize done + 1) L := by
      simp only [exSize, hsz]
      rcases hc with rfl | hc
      · simp [exsSize]
      · revert hc
        simp only [countOf]
        split
        · intro hc; rfl
        · split <;> split <;> intros <;> omega
    rw [this] at hK
    exact hK H
  cases rest with
  | nil =>
    simp at hl1
    (refine sgo_sound [] 1000 ?_; conv => whnf)
    repeat' ((with_reducible first | refine bdec (fun h => ?_) (fun h => ?_) | refine bndec (fun h => ?_) (fun h => ?_) | refine bwtd (fun h => ?_) (fun h => ?_) | refine bwfd (fun h => ?_) (fun h => ?_) | refine bwtn (fun h => ?_) (fun h => ?_) | refine bwfn (fun h => ?_) (fun h => ?_) | refine bwtb (fun h => ?_) (fun h => ?_) | refine bwfb (fun h => ?_) (fun h => ?_) | refine bwt (fun h => ?_) (fun h => ?_) | refine bwf (fun h => ?_) (fun h => ?_) | refine bnt (fun h => ?_) (fun h => ?_) | refine bcase (fun h => ?_) (fun h => ?_)) <;> (conv => whnf))
    all_goals try (exfalso; omega)
    exact hfin _ (.inl rfl)
  | cons k rest =>
    simp at hl1
    have hkm : SizeOf.sizeOf k < SizeOf.sizeOf ks := List.sizeOf_lt_of_mem (by rw [ha]; simp)
    have hrow : (exprRows ks)[((done.length : Nat) : Int).toNat]? = some k.cells := by rw [hrows]; simp [ha]
    have hcc : 0 < L → 1 ≤ countOf (exsSize done + 1) L ∧ countOf (exsSize done + 1) L ≤ L := fun h0 => by
      simp only [countOf]
      split
      · omega
      · split <;> omega
    (refine sgo_sound [] 1000 ?_; conv => whnf)
    repeat' ((with_reducible first | refine bdec (fun h => ?_) (fun h => ?_) | refine bndec (fun h => ?_) (fun h => ?_) | refine bwtd (fun h => ?_) (fun h => ?_) | refine bwfd (fun h => ?_) (fun h => ?_) | refine bwtn (fun h => ?_) (fun h => ?_) | refine bwfn (fun h => ?_) (fun h => ?_) | refine bwtb (fun h => ?_) (fun h => ?_) | refine bwfb (fun h => ?_) (fun h => ?_) | refine bwt (fun h => ?_) (fun h => ?_) | refine bwf (fun h => ?_) (fun h => ?_) | refine bnt (fun h => ?_) (fun h => ?_) | refine bcase (fun h => ?_) (fun h => ?_)) <;> (conv => whnf))
    all_goals try (exfalso; omega)
    · have h3 := hcc (by omega)
      have hw1 : IntKind.i64.wrap (L - countOf (exsSize done + 1) L) = L - countOf (exsSize done + 1) L := wrap64 (by omega) (by omega)
      have hw : IntKind.i64.wrap ((done.length : Int) + 1) = (((done ++ [k]).length : Nat) : Int) := by rw [wrap64 (by omega) (by omega)]; simp
      obtain ⟨o1, n1, u1, d1, p1, q1⟩ := k
      refine swr_index rfl rfl rfl rfl rfl rfl rfl rfl  (row := (Ex.mk o1 n1 u1 d1 p1 q1).cells) hrow ?_
      (refine sgor_sound [] 1000 ?_; conv => whnf)
      rw [hw1]
      refine swr_pure rfl rfl rfl rfl rfl rfl  (IH (.mk o1 n1 u1 d1 p1 q1) (by omega) (L - countOf (exsSize done + 1) L) (by omega) (by omega)) ?_
      (refine sgor_sound [] 1000 ?_; conv => whnf)
      have hst := countOf_step (exsSize done) (exSize (.mk o1 n1 u1 d1 p1 q1)) L (by omega) (by assumption)
      have e1 : exsSize (done ++ [Ex.mk o1 n1 u1 d1 p1 q1]) = exsSize done + exSize (.mk o1 n1 u1 d1 p1 q1) := by rw [exsSize_app]; simp [exsSize]
      have hsum : IntKind.i64.wrap (countOf (exsSize done + 1) L + countOf (exSize (.mk o1 n1 u1 d1 p1 q1)) (L - countOf (exsSize done + 1) L)) = countOf (exsSize (done ++ [.mk o1 n1 u1 d1 p1 q1]) + 1) L := by
        rw [hst.1, e1, wrap64 (by omega) (by omega)]
      rw [hsum, hw]
      refine sw_kc [1, 2, 5, 6] 1 (by simp [hH]) (by simp) rfl rfl (ih (done ++ [Ex.mk o1 n1 u1 d1 p1 q1], rest, countOf (exsSize (done ++ [Ex.mk o1 n1 u1 d1 p1 q1]) + 1) L) ⟨by simp [ha], ?_, rfl⟩ (by simp))
      have h9 := hst.2.1
      simp
      omega
    · exact hfin _ (.inr (by omega))

theorem small_spec (e : Ex) (L : Int) (h0 : 0 ≤ L) (h1 : L ≤ 999999) : SPure Tryz.prog G 62 [e.sv, sI L] (sB (decide ((exSize e : Int) ≤ L))) := by
  have hc := count_spec G (SizeOf.sizeOf e + 1) e (by omega) (L + 1) (by omega) (by omega)
  obtain ⟨op, n, u, den, ps, ks⟩ := e
  refine spure_enter Tryz.func62 rfl (by rw [Tryz.ntmps62]; simp) rfl rfl ?_; intro E hH hK
  have hw : IntKind.i64.wrap (L + 1) = L + 1 := wrap64 (by omega) (by omega)
  (refine sgo_sound [] 1000 ?_; conv => whnf)
  rw [hw]
  refine swr_pure rfl rfl rfl rfl rfl rfl  hc ?_
  (refine sgor_sound [] 1000 ?_; conv => whnf)
  exact kB hK (decide_eq_decide.2 (by
    simp only [countOf]
    rw [if_neg (by omega)]
    split <;> omega))

def withinOK (e : Ex) : Bool := decide (exSize e ≤ 400) && decide (exDepth e ≤ 40)
end Go.Proofs.YtblpjknmhajcgaaGreatDoor

/- Dates: plain facts. -/
namespace Go.Proofs.YtblpjknmhajcgaaGreatDoor
open Go Go.Sh
set_option maxRecDepth 10000
set_option maxHeartbeats 2000000

theorem lenOf_range (m : Nat) : 28 ≤ lenOf m ∧ lenOf m ≤ 31 := by
  unfold lenOf daysIn
  split
  · omega
  · split
    · split <;> omega
    · omega
theorem firstOf_le : ∀ {m n : Nat}, m ≤ n → firstOf m + 28 * ((n : Int) - m) ≤ firstOf n
  | m, 0, h => by
    have : m = 0 := by omega
    subst this
    omega
  | m, n + 1, h => by
    by_cases e : m = n + 1
    · subst e
      omega
    · have := firstOf_le (m := m) (n := n) (by omega)
      have h2 := lenOf_range n
      have h3 : firstOf (n + 1) = firstOf n + lenOf n := rfl
      omega
theorem filter_lt (M : Nat) : ∀ n : Nat, ((List.range n).filter fun m => decide (m < M)).length = min n M
  | 0 => by simp
  | n + 1 => by
    rw [List.range_succ, List.filter_append, List.length_append, filter_lt M n]
    by_cases h : n < M
    · simp [h]; omega
    · simp [h]; omega

/-- the month of a day: the months that end before it -/
def monthOf (d : Int) : Nat := ((List.range 1200).filter fun m => decide (firstOf (m + 1) ≤ d)).length
theorem monthOf_eq {M : Nat} {d : Int} (hM : M ≤ 1200) (h1 : firstOf M ≤ d) (h2 : d < firstOf (M + 1)) : monthOf d = M := by
  have : (List.range 1200).filter (fun m => decide (firstOf (m + 1) ≤ d)) = (List.range 1200).filter fun m => decide (m < M) := by
    refine List.filter_congr fun m _ => decide_eq_decide.2 ⟨fun h => ?_, fun h => ?_⟩
    · rcases Nat.lt_or_ge m M with h' | h'
      · exact h'
      · have := firstOf_le (m := M + 1) (n := m + 1) (by omega)
        omega
    · have := firstOf_le (m := m + 1) (n := M) (by omega)
      omega
  rw [monthOf, this, filter_lt]
  omega
theorem firstOf_1200 : firstOf 1200 = 36525 := by
  rw [← closed_eq 1200 (by omega)]
  decide
theorem firstOf_four (q : Nat) (h : q ≤ 25) : firstOf (48 * q) = 1461 * q := by
  rw [← closed_eq (48 * q) (by omega)]
  unfold closedB
  rw [show 48 * q % 12 = 0 by omega, show 48 * q / 12 = 4 * q by omega]
  simp [tableB]
  omega

def dateOf (d : Int) : Int × Int × Int :=
  if 0 ≤ d ∧ d ≤ 36524 then (2000 + (monthOf d / 12 : Nat), (monthOf d % 12 : Nat) + 1, d - firstOf (monthOf d) + 1) else (0, 0, 0)
theorem dateOf_at {d : Int} {y m : Nat} {r : Int} (hd : 0 ≤ d ∧ d ≤ 36524) (hm : m < 12) (hr : 0 ≤ r) (h : firstOf (12 * y + m) + r = d) (hl : r < lenOf (12 * y + m)) : dateOf d = (2000 + (y : Int), (m : Int) + 1, r + 1) := by
  have h3 : firstOf (12 * y + m + 1) = firstOf (12 * y + m) + lenOf (12 * y + m) := rfl
  have hM : 12 * y + m ≤ 1200 := by
    rcases Nat.lt_or_ge 1200 (12 * y + m) with h' | h'
    · have := firstOf_le (m := 1200) (n := 12 * y + m) (by omega)
      rw [firstOf_1200] at this
      omega
    · exact h'
  have hmo : monthOf d = 12 * y + m := monthOf_eq hM (by omega) (by omega)
  rw [dateOf, if_pos hd, hmo]
  have e1 : (12 * y + m) / 12 = y := by omega
  have e2 : (12 * y + m) % 12 = m := by omega
  rw [e1, e2]
  have e3 : d - firstOf (12 * y + m) + 1 = r + 1 := by omega
  rw [e3]
theorem month_year {d : Int} {y m : Nat} {r : Int} (hd : d ≤ 36524) (hr : 0 ≤ r) (h : firstOf (12 * y + m) + r = d) : 12 * y + m < 1200 := by
  rcases Nat.lt_or_ge (12 * y + m) 1200 with h' | h'
  · exact h'
  · have := firstOf_le (m := 1200) (n := 12 * y + m) (by omega)
    rw [firstOf_1200] at this
    omega
def weekOf (d : Int) : Int := if 0 ≤ d ∧ d ≤ 36524 then (d + 5).tmod 7 + 1 else 0
end Go.Proofs.YtblpjknmhajcgaaGreatDoor

/- What expressions are worth: plain. -/
namespace Go.Proofs.YtblpjknmhajcgaaGreatDoor
open Go Go.Sh
set_option maxRecDepth 10000
set_option maxHeartbeats 2000000

def inR (n : Int) : Bool := decide (-1000000000000 ≤ n) && decide (n ≤ 1000000000000)
def b2i (b : Bool) : Int := if b then 1 else 0
abbrev PV := Int × Bool
def noV : PV := (0, false)

def mulOf (a b : Int) : PV := if b ≠ 0 ∧ Int.tdiv 1000000000000 (max b (-b)) < max a (-a) then noV else (a * b, true)
def divOf (a b : Int) : PV := if b ≤ 0 then noV else (if a.tmod b < 0 then a.tdiv b - 1 else a.tdiv b, true)
/-- p / den, rounded to even -/
def roundE (p den : Int) : Int :=
  let q := if p.tmod den < 0 then p.tdiv den - 1 else p.tdiv den
  let r := if p.tmod den < 0 then p.tmod den + den else p.tmod den
  if 2 * r = den then (if q.tmod 2 ≠ 0 then q + 1 else q) else if den < 2 * r then q + 1 else q
/-- money.Scale to even -/
def scaleE (cents num den : Int) : Int × Int :=
  if inR cents = false ∨ num < -1000000 ∨ 1000000 < num ∨ den < 1 ∨ 1000000 < den then (0, 1)
  else if inR (roundE (cents * num) den) then (roundE (cents * num) den, 0) else (0, 3)
def hourlyOf (minutes cents : Int) : PV := ((scaleE cents minutes 60).1, decide ((scaleE cents minutes 60).2 = 0))

/-- the piece of a table for an argument: the last one that begins at it or before -/
def pieceAt (ps : List Piece) (x : Int) : Option Piece := (ps.filter fun p => decide (p.lo ≤ x)).getLast?
def numerAt (ps : List Piece) (x : Int) : Int := match pieceAt ps x with | some p => p.at_ + p.slope * (x - p.lo) | none => 0
/-- a / b, rounded down -/
def floorOf (a b : Int) : Int := if a.tmod b < 0 then a.tdiv b - 1 else a.tdiv b
/-- piecewise.Round to even -/
def tableE (den : Int) (ps : List Piece) (x : Int) : Int × Int :=
  if tableOK den ps = false ∨ x < 0 ∨ 1000000000000 < x then (0, 1)
  else
    let n := numerAt ps x
    let q := floorOf n den
    let t := 2 * (n - q * den)
    let r := if den < t ∨ (t = den ∧ q.tmod 2 ≠ 0) then q + 1 else q
    if inR r then (r, 0) else (0, 3)

def twoOf (op a b : Int) : PV :=
  if op = 8 then (b2i (decide (a = b)), true) else if op = 9 then (b2i (decide (a < b)), true) else if op = 10 then (b2i (decide (a ≤ b)), true)
  else if op = 11 then (a + b, true) else if op = 12 then (a - b, true) else if op = 13 then mulOf a b else if op = 14 then divOf a b else if op = 15 then hourlyOf a b else noV
def connectOf (and_ : Bool) (x y : PV) : PV :=
  if (x.2 && (decide (x.1 = 0) == and_)) || (y.2 && (decide (y.1 = 0) == and_)) then (b2i (!and_), true) else (b2i and_, x.2 && y.2)
def extGo (least : Bool) : Int → List PV → PV
  | acc, [] => (acc, true)
  | acc, x :: r => if x.2 then extGo least (if least then min acc x.1 else max acc x.1) r else noV
def extremeOf (least : Bool) : List PV → PV
  | [] => noV
  | x :: r => if x.2 then extGo least x.1 r else noV
def leafOf (V : View) (am : List (Int × Int)) (op n : Int) : PV :=
  if op = 1 then (n, true)
  else if op = 2 then
    (if n < 0 ∨ (V.has.length : Int) ≤ n ∨ (V.value.length : Int) ≤ n ∨ V.has.getD n.toNat false = false then noV else (V.value.getD n.toNat 0, true))
  else if op = 3 then ((alook n am).getD 0, true)
  else if (dateOf V.day).1 = 0 then noV
  else if n = 1 then (weekOf V.day, true) else if n = 2 then ((dateOf V.day).2.2, true) else if n = 3 then ((dateOf V.day).2.1, true) else if n = 4 then ((dateOf V.day).1, true) else noV
def oneOf (op den : Int) (ps : List Piece) (a : Int) : PV :=
  if op = 5 then (b2i (decide (a = 0)), true) else ((tableE den ps (max a 0)).1, decide ((tableE den ps (max a 0)).2 = 0))
def rawOf (V : View) (am : List (Int × Int)) (op n den : Int) (ps : List Piece) (vs : List PV) : PV :=
  if 1 ≤ op ∧ op ≤ 4 then (if vs.length = 0 then leafOf V am op n else noV)
  else if op = 16 ∨ op = 17 then extremeOf (decide (op = 16)) vs
  else if op = 5 ∨ op = 18 then (match vs with | [x] => if x.2 then oneOf op den ps x.1 else noV | _ => noV)
  else match vs with
    | [x, y] => if op = 6 ∨ op = 7 then connectOf (decide (op = 6)) x y else if x.2 && y.2 then twoOf op x.1 y.1 else noV
    | _ => noV
def norm (x : PV) : PV := if x.2 && inR x.1 then x else noV
mutual
def valOf (V : View) (am : List (Int × Int)) : Ex → PV
  | .mk op n _ den ps ks => norm (rawOf V am op n den ps (valsOf V am ks))
def valsOf (V : View) (am : List (Int × Int)) : List Ex → List PV
  | [] => []
  | e :: r => valOf V am e :: valsOf V am r
end
end Go.Proofs.YtblpjknmhajcgaaGreatDoor

/- Priority and order of versions: plain. -/
namespace Go.Proofs.YtblpjknmhajcgaaGreatDoor
open Go Go.Sh
set_option maxRecDepth 10000
set_option maxHeartbeats 2000000

def Piece.key (p : Piece) : Int × Int × Int := (p.lo, p.at_, p.slope)
mutual
def exEq : Ex → Ex → Bool
  | .mk op n u den ps ks, .mk op' n' u' den' ps' ks' => decide (op = op') && decide (n = n') && decide (u = u') && decide (den = den') && decide (ps.map Piece.key = ps'.map Piece.key) && exsEq ks ks'
def exsEq : List Ex → List Ex → Bool
  | [], [] => true
  | a :: r, b :: s => exEq a b && exsEq r s
  | [], _ :: _ => false
  | _ :: _, [] => false
end
/-- every one of the parts is in the list -/
def allIn (list parts : List Ex) : Bool := parts.all fun p => list.any fun e => exEq e p
def artAt (c : Codex) (i : Int) : Option Article := if i < 0 then none else c.arts[i.toNat]?
def beatsOf (c : Codex) (i j : Int) : Bool :=
  match artAt c i, artAt c j with
  | some x, some y =>
    if x.line ≠ y.line ∨ x.number = y.number then false
    else if x.rank ≠ y.rank then decide (y.rank < x.rank)
    else if allIn x.when_ y.when_ ≠ allIn y.when_ x.when_ then allIn x.when_ y.when_
    else decide (y.known < x.known)
  | _, _ => false
mutual
def mentsOf : Ex → List Int
  | .mk op n _ _ _ ks => (if op = 3 then [n] else []) ++ mentssOf ks
def mentssOf : List Ex → List Int
  | [] => []
  | e :: r => mentsOf e ++ mentssOf r
end
/-- the numbers that an article names: exceptions, and amounts of others -/
def namesOf (a : Article) : List Int := a.unless_ ++ mentssOf a.when_ ++ mentsOf a.amount
def needGo (c : Codex) (names : List Int) (v : Int) : List Article → Nat → List Int
  | [], _ => []
  | a :: r, i => (if a.number ∈ names ∨ beatsOf c i v = true then [(i : Int)] else []) ++ needGo c names v r (i + 1)
def needsOf (c : Codex) (v : Int) : List Int := match artAt c v with | some a => needGo c (namesOf a) v c.arts 0 | none => []
/-- the first version that is not placed and whose needs are -/
def nextGo (needs : List (List Int)) (placed : List Int) : Nat → Option Int
  | i => (List.range needs.length).findSome? fun j => if i ≤ j ∧ ¬ (j : Int) ∈ placed ∧ ∀ x ∈ needs.getD j [], x ∈ placed then some (j : Int) else none
def orderGo (needs : List (List Int)) : Nat → List Int → Option (List Int)
  | 0, placed => some placed
  | k + 1, placed => match nextGo needs placed 0 with
    | some i => orderGo needs k (placed ++ [i])
    | none => none
def allNeeds (c : Codex) : List (List Int) := (List.range c.arts.length).map fun (i : Nat) => needsOf c i
def orderOf (c : Codex) : Option (List Int) := orderGo (allNeeds c) c.arts.length []

structure Efct where
  art : Int
  state : Int
  by_ : Int
  amount : Int
def Efct.cells (e : Efct) : List D := [dI e.art, dI e.state, dI e.by_, dI e.amount]
def Efct.sv (e : Efct) : SV := .agg [sI e.art, sI e.state, sI e.by_, sI e.amount]
def zeroE : Efct := ⟨0, 0, 0, 0⟩
def idleE (i : Int) : Efct := ⟨i, 0, -1, 0⟩
def applied (st : List (Int × Efct)) (o : Int) : Bool := match alook o st with | some e => decide (e.state = 2) | none => false
def defeats (c : Codex) (a : Article) (i o : Int) : Bool := (match artAt c o with | some b => decide (b.number ∈ a.unless_) | none => false) || beatsOf c o i
def effOf (c : Codex) (V : View) (am : List (Int × Int)) (st : List (Int × Efct)) (i : Int) : Efct :=
  match artAt c i with
  | none => zeroE
  | some a =>
    if a.when_.any (fun w => !(valOf V am w).2 || decide ((valOf V am w).1 = 0)) then idleE i
    else if (valOf V am a.amount).2 = false then idleE i
    else match V.arts.find? (fun o => applied st o && defeats c a i o) with
      | some o => ⟨i, 1, o, 0⟩
      | none => ⟨i, 2, -1, (valOf V am a.amount).1⟩
def addAm (am : List (Int × Int)) (n : Int) (e : Efct) : List (Int × Int) := if (alook n am).isNone ∧ e.state = 2 then ains n e.amount am else am
def numOf (c : Codex) (i : Int) : Int := match artAt c i with | some a => a.number | none => 0
def effStep (c : Codex) (V : View) (s : List (Int × Int) × List (Int × Efct)) (i : Int) : List (Int × Int) × List (Int × Efct) :=
  (addAm s.1 (numOf c i) (effOf c V s.1 s.2 i), ains i (effOf c V s.1 s.2 i) s.2)
def effRun (c : Codex) (V : View) (vs : List Int) : List (Int × Int) × List (Int × Efct) := vs.foldl (effStep c V) ([], [])
def effectsOf (c : Codex) (V : View) (order : List Int) : List Efct := V.arts.map fun i => (alook i (effRun c V (order.filter fun i => decide (i ∈ V.arts))).2).getD zeroE
end Go.Proofs.YtblpjknmhajcgaaGreatDoor

/- The order of versions: plain facts. -/
namespace Go.Proofs.YtblpjknmhajcgaaGreatDoor
open Go Go.Sh
set_option maxRecDepth 10000
set_option maxHeartbeats 2000000

/-- each one follows what it needs; none twice -/
def Topo (needs : List (List Int)) (out : List Int) : Prop :=
  ∀ (a : List Int) (x : Int) (b : List Int), out = a ++ x :: b → (∃ j : Nat, x = j ∧ j < needs.length ∧ ∀ y ∈ needs.getD j [], y ∈ a) ∧ ¬ x ∈ a
theorem topo_nil (needs : List (List Int)) : Topo needs [] := fun a x b h => by
  have := congrArg List.length h
  simp at this
theorem topo_snoc {needs : List (List Int)} {out : List Int} {j : Nat} (h : Topo needs out) (hj : j < needs.length) (hn : ∀ y ∈ needs.getD j [], y ∈ out) (hx : ¬ (j : Int) ∈ out) : Topo needs (out ++ [(j : Int)]) := by
  intro a x b he
  rcases List.eq_nil_or_concat b with hb | ⟨b', z, hb⟩
  · subst hb
    have h1 : out ++ [(j : Int)] = a ++ [x] := he
    obtain ⟨h2, h3⟩ := List.append_inj' h1 rfl
    cases h3
    subst h2
    exact ⟨⟨j, rfl, hj, hn⟩, hx⟩
  · have hb2 : b = b' ++ [z] := by simpa using hb
    subst hb2
    have h1 : out ++ [(j : Int)] = (a ++ x :: b') ++ [z] := by rw [he]; simp
    obtain ⟨h2, _⟩ := List.append_inj' h1 rfl
    exact h a x b' h2
theorem nextGo_some {needs : List (List Int)} {placed : List Int} {i : Int} (h : nextGo needs placed 0 = some i) : ∃ j : Nat, i = j ∧ j < needs.length ∧ ¬ (j : Int) ∈ placed ∧ ∀ x ∈ needs.getD j [], x ∈ placed := by
  unfold nextGo at h
  obtain ⟨j, hj, h1⟩ := List.exists_of_findSome?_eq_some h
  split at h1
  · rename_i hc
    cases h1
    exact ⟨j, rfl, by simpa using hj, hc.2.1, hc.2.2⟩
  · cases h1
theorem orderGo_topo (needs : List (List Int)) : ∀ (k : Nat) (placed out : List Int), Topo needs placed → orderGo needs k placed = some out → Topo needs out ∧ out.length = placed.length + k
  | 0, placed, out, h, he => by
    simp only [orderGo, Option.some.injEq] at he
    subst he
    exact ⟨h, by simp⟩
  | k + 1, placed, out, h, he => by
    simp only [orderGo] at he
    cases hn : nextGo needs placed 0 with
    | none => rw [hn] at he; cases he
    | some i =>
      rw [hn] at he
      obtain ⟨j, rfl, h1, h2, h3⟩ := nextGo_some hn
      obtain ⟨g1, g2⟩ := orderGo_topo needs k _ out (topo_snoc h h1 h3 h2) he
      exact ⟨g1, by rw [g2]; simp; omega⟩
theorem orderOf_topo {c : Codex} {out : List Int} (h : orderOf c = some out) : Topo (allNeeds c) out ∧ out.length = c.arts.length := by
  obtain ⟨h1, h2⟩ := orderGo_topo _ _ _ _ (topo_nil _) h
  exact ⟨h1, by simpa using h2⟩
theorem topo_nodup {needs : List (List Int)} : ∀ {out : List Int}, Topo needs out → out.Nodup := by
  intro out h
  induction hn : out.length generalizing out with
  | zero =>
    have : out = [] := List.length_eq_zero_iff.1 hn
    subst this
    exact List.nodup_nil
  | succ n ih =>
    rcases List.eq_nil_or_concat out with h0 | ⟨a, x, h0⟩
    · subst h0; simp at hn
    · have h1 : out = a ++ [x] := by simpa using h0
      subst h1
      have ha : Topo needs a := fun p y q he => h p y (q ++ [x]) (by rw [he]; simp)
      have hna := ih ha (by simpa using hn)
      rw [List.nodup_append]
      refine ⟨hna, by simp, fun y hy z hz => ?_⟩
      simp at hz
      subst hz
      rintro rfl
      exact (h a y [] rfl).2 hy

theorem needGo_mem (c : Codex) (names : List Int) (v : Int) : ∀ (l : List Article) (i : Nat) (x : Int), x ∈ needGo c names v l i ↔ ∃ j : Nat, ∃ a, l[j]? = some a ∧ x = ((i + j : Nat) : Int) ∧ (a.number ∈ names ∨ beatsOf c x v = true)
  | [], i, x => by simp [needGo]
  | a :: r, i, x => by
    simp only [needGo, List.mem_append, needGo_mem c names v r (i + 1) x]
    constructor
    · rintro (h | ⟨j, b, h1, h2, h3⟩)
      · split at h
        · rename_i hv
          simp at h
          subst h
          exact ⟨0, a, by simp, by simp, hv⟩
        · cases h
      · exact ⟨j + 1, b, by simpa using h1, by rw [h2]; congr 1; omega, h3⟩
    · rintro ⟨j, b, h1, h2, h3⟩
      cases j with
      | zero =>
        left
        simp only [List.getElem?_cons_zero, Option.some.injEq] at h1
        subst h1
        simp only [Nat.add_zero] at h2
        subst h2
        rw [if_pos h3]
        simp
      | succ j =>
        right
        exact ⟨j, b, by simpa using h1, by rw [h2]; congr 1; omega, h3⟩
theorem artAt_nat {c : Codex} {i : Int} {a : Article} (h : artAt c i = some a) : ∃ j : Nat, i = j ∧ c.arts[j]? = some a := by
  unfold artAt at h
  split at h
  · cases h
  · exact ⟨i.toNat, by omega, h⟩
theorem artAt_of {c : Codex} {j : Nat} {a : Article} (h : c.arts[j]? = some a) : artAt c (j : Int) = some a := by
  unfold artAt
  rw [if_neg (by omega)]
  simpa using h
/-- what a version needs: those that its article names, and those that beat it -/
theorem needsOf_mem {c : Codex} {v : Int} {a : Article} (ha : artAt c v = some a) (x : Int) : x ∈ needsOf c v ↔ ∃ b, artAt c x = some b ∧ (b.number ∈ namesOf a ∨ beatsOf c x v = true) := by
  unfold needsOf
  rw [ha]
  simp only
  rw [needGo_mem]
  constructor
  · rintro ⟨j, b, h1, h2, h3⟩
    rw [Nat.zero_add] at h2
    subst h2
    exact ⟨b, artAt_of h1, h3⟩
  · rintro ⟨b, h1, h2⟩
    obtain ⟨j, rfl, h3⟩ := artAt_nat h1
    exact ⟨j, b, h3, by simp, h2⟩
end Go.Proofs.YtblpjknmhajcgaaGreatDoor

/- The search for a witness: its data and what it computes (plain). -/
namespace Go.Proofs.YtblpjknmhajcgaaGreatDoor
open Go Go.Sh
set_option maxRecDepth 10000

structure Opd where
  op : Int
  n : Int
inductive Cond where
  | none
  | plain (o : Opd)
  | cmp (op : Int) (l r : Opd)
  | neg (c : Cond)
  | conn (d : Int) (l r : Cond)

def iv (n : Int) : D := .val (.int .i64 n)
def Cond.d : Cond → D
  | .none => .val .nilIface
  | .plain o => .iface 143 (.agg [iv o.op, iv o.n])
  | .cmp op l r => .iface 152 (.agg [iv op, iv l.op, iv l.n, iv r.op, iv r.n])
  | .neg c => .iface 146 (.agg [c.d])
  | .conn d l r => .iface 148 (.agg [iv d, l.d, r.d])

/-- a state of the search: parts of the date, which facts are chosen, their values -/
structure St where
  p : Int × Int × Int × Int × Int
  ch : List Bool
  vs : List Int
def St.part (s : St) (i : Int) : Int := if i = 0 then s.p.1 else if i = 1 then s.p.2.1 else if i = 2 then s.p.2.2.1 else if i = 3 then s.p.2.2.2.1 else s.p.2.2.2.2
def Opd.val (o : Opd) (s : St) : Int × Bool :=
  if o.op = 2 then (s.vs.getD o.n.toNat 0, s.ch.getD o.n.toNat false) else if o.op = 4 then (s.part o.n, true) else (o.n, true)
def Opd.ok (n : Nat) (o : Opd) : Prop := (o.op = 2 → 0 ≤ o.n ∧ o.n < n) ∧ (o.op = 4 → 0 ≤ o.n ∧ o.n ≤ 4)
def truthI (b : Bool) : Int := if b then 1 else 0
def cmpI (op a b : Int) : Bool := if op = 9 then decide (a < b) else if op = 10 then decide (a ≤ b) else decide (a = b)
def Cond.dec (s : St) : Cond → Int
  | .none => 2
  | .plain o => if (o.val s).2 then truthI (!decide ((o.val s).1 = 0)) else 2
  | .cmp op l r => if (l.val s).2 && (r.val s).2 then truthI (cmpI op (l.val s).1 (r.val s).1) else 2
  | .neg c => if c.dec s = 0 then 1 else if c.dec s = 1 then 0 else 2
  | .conn d l r => if l.dec s = d then l.dec s else if r.dec s = d ∨ l.dec s ≠ 2 then r.dec s else 2
def Cond.ok (n : Nat) : Cond → Prop
  | .none => False
  | .plain o => o.ok n
  | .cmp _ l r => l.ok n ∧ r.ok n
  | .neg c => c.ok n
  | .conn _ l r => l.ok n ∧ r.ok n


/-! ### the search that versions give -/
structure Sr where
  conds : List Cond
  atoms : List Cond
  dates : List Bool
  cands : List (Int × List Int)
def setAdd (vals : List Int) (v : Int) : List Int := if v ≤ 1000000000000 then (if v ∈ vals then vals else vals ++ [v]) else vals
def candAdd (m : List (Int × List Int)) (f : Int) (vs : List Int) : List (Int × List Int) := ains f (vs.foldl setAdd ((alook f m).getD [])) m
def Sr.cand (s : Sr) (f : Int) (vs : List Int) : Sr := { s with cands := candAdd s.cands f vs }
def Sr.date (s : Sr) (i : Int) : Sr := { s with dates := s.dates.set i.toNat true }
/-- the operands of a comparison, in their order: whether all can be compared, how many are constants -/
def cmpScan : List Ex → Sr → Int → Bool × Sr × Int
  | [], s, n => (true, s, n)
  | k :: r, s, n => if k.op = 1 then cmpScan r s (n + 1) else if k.op = 4 then cmpScan r (s.date k.n) n else if k.op = 2 then cmpScan r s n else (false, s, n)
def cmpCand (s : Sr) (f c : Ex) : Sr := if f.op ≠ 2 then s else if f.unit = tT then s.cand f.n [0, 1] else s.cand f.n [0, c.n, c.n + 1]
def cmpOf (s : Sr) (op : Int) (kids : List Ex) : Cond × Bool × Sr :=
  match cmpScan kids s 0 with
  | (false, s1, _) => (.none, false, s1)
  | (true, s1, n) => if n = 0 then (.none, false, s1) else match kids with
    | l :: r :: _ =>
      let s2 := cmpCand (cmpCand s1 l r) r l
      let c := Cond.cmp op ⟨l.op, l.n⟩ ⟨r.op, r.n⟩
      (c, true, if l.op = 4 ∨ r.op = 4 then { s2 with atoms := s2.atoms ++ [c] } else s2)
    | _ => (.none, false, s1)
def simpleOf : Ex → Sr → Cond × Bool × Sr
  | .mk op n _ _ _ ks, s =>
    if op = 1 then (.plain ⟨1, n⟩, true, s)
    else if op = 2 then (.plain ⟨2, n⟩, true, s.cand n [0, 1])
    else if op = 8 ∨ op = 9 ∨ op = 10 then cmpOf s op ks
    else if op = 5 then match ks with
      | k :: _ => let r := simpleOf k s; (.neg r.1, r.2.1, r.2.2)
      | [] => (.none, false, s)
    else if op = 6 ∨ op = 7 then match ks with
      | k :: l :: _ => let r := simpleOf k s; let q := simpleOf l r.2.2; (.conn (if op = 7 then 1 else 0) r.1 q.1, r.2.1 && q.2.1, q.2.2)
      | _ => (.none, false, s)
    else (.none, false, s)
/-- the conditions of an article, one after the other -/
def whenGo : List Ex → Sr → Option Sr
  | [], s => some s
  | e :: r, s => match simpleOf e s with
    | (c, true, s1) => whenGo r { s1 with conds := s1.conds ++ [c] }
    | (_, false, _) => none
def artsGo (c : Codex) : List Int → Sr → Option Sr
  | [], s => some s
  | v :: r, s => match artAt c v with
    | some a => match whenGo a.when_ s with
      | some s1 => artsGo c r s1
      | none => none
    | none => none
def sr0 : Sr := ⟨[], [], [false, false, false, false, false], []⟩
def prodOf (m : List (Int × List Int)) : Int := m.foldl (fun p e => min (p * e.2.length) 4097) 1
def versOf (vs : List Int) : List Int := Go.Lib.compact (vs.mergeSort fun x y => decide (x ≤ y))
def searchOf (c : Codex) (vs : List Int) : Option Sr :=
  match artsGo c (versOf vs) sr0 with
  | some s => if prodOf s.cands ≤ 4096 then some s else none
  | none => none

/-! ### the witness -/
def partsOf (day : Int) : Int × Int × Int × Int × Int := (0, weekOf day, (dateOf day).2.2, (dateOf day).2.1, (dateOf day).1)
def verdictGo (s : St) : List Cond → Int → Int
  | [], r => r
  | c :: l, r => if c.dec s = 0 then 0 else if c.dec s = 2 then verdictGo s l 2 else verdictGo s l r
def verdict (conds : List Cond) (s : St) : Int := verdictGo s conds 1
def sigOf (atoms : List Cond) (s : St) : ByteArray := (atoms.map fun a => 48 + a.dec s).foldl (fun r n => r.push (UInt8.ofNat n.toNat)) ByteArray.empty
def St.put (s : St) (f v : Int) : St := ⟨s.p, s.ch.set f.toNat true, s.vs.set f.toNat v⟩
def assignGo (conds : List Cond) : List (Int × List Int) → St → Option (List Int)
  | [], s => if verdict conds s = 0 then none else some s.vs
  | (f, vals) :: rest, s => if verdict conds s = 0 then none else vals.findSome? fun v => assignGo conds rest (s.put f v)
abbrev sortN (l : List Int) : List Int := l.mergeSort fun x y => decide (x ≤ y)
/-- the facts in their order, each with its candidates in their order -/
def choicesOf (m : List (Int × List Int)) : List (Int × List Int) := (sortN (m.map (·.1))).map fun f => (f, sortN ((alook f m).getD []))
def horizonOf (d : List Bool) : Int :=
  if d.getD 4 false then 36525 else if d.getD 1 false && (d.getD 2 false || d.getD 3 false) then 10227 else if d.getD 2 false || d.getD 3 false then 1461 else if d.getD 1 false then 7 else 1
def frameOf (c : Codex) (vs : List Int) : Int × Int := vs.foldl (fun r v => match artAt c v with | some a => (max r.1 a.lo, min r.2 a.hi) | none => r) (0, 36525)
def st0 (nf : Nat) (day : Int) : St := ⟨partsOf day, List.replicate nf false, List.replicate nf 0⟩
def witGo (s : Sr) (nf : Nat) : Nat → Int → List ByteArray → Option (Int × List Int)
  | 0, _, _ => none
  | n + 1, day, failed =>
    if verdict s.conds (st0 nf day) = 0 then witGo s nf n (day + 1) failed
    else if sigOf s.atoms (st0 nf day) ∈ failed then witGo s nf n (day + 1) failed
    else match assignGo s.conds (choicesOf s.cands) (st0 nf day) with
      | some vs => some (day, vs)
      | none => witGo s nf n (day + 1) (failed ++ [sigOf s.atoms (st0 nf day)])
def witnessOf (c : Codex) (vers : List Int) (s : Sr) : Option View :=
  let fr := frameOf c vers
  let to := min fr.2 (fr.1 + horizonOf s.dates)
  match witGo s c.facts.length (to - fr.1).toNat fr.1 [] with
  | some (day, vs) => some ⟨day, (List.range c.facts.length).map fun (i : Nat) => (alook (i : Int) s.cands).isSome, vs, vers⟩
  | none => none
def zView : View := ⟨0, [], [], []⟩
def witness (c : Codex) (vs : List Int) : Option View :=
  if codexOK c && vs.all (fun v => decide (0 ≤ v) && decide (v < c.arts.length)) then
    match searchOf c vs with
    | some s => witnessOf c (versOf vs) s
    | none => none
  else none
def contraOf (c : Codex) (i j : Int) : Bool :=
  match artAt c i, artAt c j with
  | some a, some b => decide (a.line = b.line) && !decide (a.number = b.number) && !beatsOf c i j && !beatsOf c j i && !decide (b.number ∈ a.unless_) && !decide (a.number ∈ b.unless_)
  | _, _ => false
def pairsOf (n : Nat) : List (Int × Int) := (List.range n).flatMap fun (i : Nat) => ((List.range n).filter fun j => decide (i < j)).map fun (j : Nat) => ((i : Int), (j : Int))
def clashOf (c : Codex) : Option (Int × Int × View) :=
  if codexOK c then (pairsOf c.arts.length).findSome? fun p => if contraOf c p.1 p.2 then (witness c [p.1, p.2]).map fun v => (p.1, p.2, v) else none
  else none
def deadOf (c : Codex) : List Int :=
  if codexOK c then ((List.range c.arts.length).map fun (i : Nat) => (i : Int)).filter fun i => (searchOf c [i]).isSome && (witness c [i]).isNone
  else []
end Go.Proofs.YtblpjknmhajcgaaGreatDoor

/- The shadow machine, part 32: writes to maps in an open order. -/
namespace Go.Sh
section
variable {P : Program} {G : List (Nat × D)} {fn : Func} {rd : Bool} {E : En P G fn rd} {t : List (Nat × SV)} {K : List SObj} {k : List Item} {m : Nat} {all : Array Oper} {rest : List Oper} {done : List Eff} {o : Oper}

variable {H : List SObj}
/-- A nil slice in a box that is going to be appended to. -/
theorem sw_tokCell (b0 j kk : Nat) {cs : List SV} (hb : H[b0]? = some (.cells cs)) (hj : cs[j]? = some (.imm (.val (.slice none 0 0)))) (h : SW E k t (H.set b0 (.cells (cs.set j (.asl H.length kk []))) ++ [.tok kk 0])) : SW E k t H := by
  refine ⟨fun a w I β cs' hs => ?_⟩
  have hbl := lt_of_getElem? hb
  have hp := hs.heap.push (o := .tok kk 0) (x := .tok (.slice none 0 0)) (.inl ⟨rfl, rfl⟩) (fun b c hc => by cases hc)
  have he : Ext H.length w I β H w I (β ++ [.tok (.slice none 0 0)]) (H ++ [.tok kk 0]) := .push hs.heap (fun c hc => by cases hc)
  obtain ⟨x, hx⟩ : ∃ x, β[b0]? = some x := ⟨β[b0]'(by rw [hs.heap.len]; exact hbl), List.getElem?_eq_getElem _⟩
  have hob := hp.obj b0 (.cells cs) x (by rw [List.getElem?_append_left hbl]; exact hb) (by rw [List.getElem?_append_left (lt_of_getElem? hx)]; exact hx)
  cases x with
  | tok u => exact hob.elim
  | blk c =>
  obtain ⟨vs, T, a1, a2, a3, a4⟩ := hob
  have hnew : ObjOK w I (β ++ [.tok (.slice none 0 0)]) (.cells (cs.set j (.asl H.length kk []))) (.blk c) := by
    refine ⟨vs, T, a1, by simpa using a2, fun q hq hq' => ?_, a4⟩
    by_cases e : j = q
    · subst e
      have hq2 : j < cs.length := by simpa using hq
      have hr := a3 j hq2 hq'
      have : cs[j] = .imm (.val (.slice none 0 0)) := by simpa [List.getElem?_eq_getElem hq2] using hj
      rw [this] at hr
      simp only [List.getElem_set_self]
      generalize vs[j] = v at hr
      cases hr with | imm hr =>
      cases hr with | val _ =>
      exact .asl H.length kk [] _ _ 0 (.islNil kk) (by rw [← hs.heap.len]; simp) ⟨_, _, rfl⟩ (Nat.le_refl _) (fun _ => rfl)
    · rw [List.getElem_set_ne e]
      exact a3 q (by simpa using hq) hq'
  obtain ⟨g1, g2⟩ := hp.changeB (m := H.length) (w' := w) (b := b0) (o := .cells cs) (o' := .cells (cs.set j (.asl H.length kk []))) (x := .blk c) (by rw [List.getElem?_append_left hbl]; exact hb) (by simp) (by rw [List.getElem?_append_left (lt_of_getElem? hx)]; exact hx) rfl (fun _ _ => rfl) rfl a4 hnew
  rw [List.set_append_left _ _ hbl] at g1 g2
  have hE := he.trans g2
  exact h.run a w I _ cs' ⟨g1, fun n => (hs.tmps n).ext (by rw [hs.heap.len]; exact hE), hs.size, hs.defers.ext hE, hs.ext.trans (hE.weaken hs.hlen), by have := hs.hlen; simp; omega⟩
end
end Go.Sh

/- The shadow machine, part 33: operations given by their meaning; structs of two numbers compared by !=; a slice compared with nil. -/
namespace Go.Sh
section
variable {P : Program} {G : List (Nat × D)} {fn : Func} {rd : Bool} {E : En P G fn rd} {t : List (Nat × SV)} {H K : List SObj} {k : List Item} {m : Nat} {all : Array Oper} {rest : List Oper} {done : List Eff} {o : Oper}

/-- an operation that yields a value and leaves the world alone -/
def Means (P : Program) (G : List (Nat × D)) (t : List (Nat × SV)) (o : Oper) (r : SV) : Prop :=
  ∀ (ρ : Operand → Value) w I β, (∀ x ∈ o.op.operands, Rep w I β (ρ x) (evalS G t x)) → ∃ v, (execOp ρ o).run P w = .ok (.value v) w ∧ Rep w I β v r

theorem swe_sem {r : SV} (hw : swant all t o.guard = some true) (hd : dstOK fn.ntmps o.dst = true) (hsem : Means P G t o r)
    (h : SWe E m all rest k (tput t o.dst r) K (done ++ [⟨r, [], none⟩])) : SWe E m all (o :: rest) k t K done :=
  swe_val (e := ⟨r, [], none⟩) ⟨hd, .inr ⟨hw, fun K' hl ha ρ w I β hH hdum hop => by
    obtain ⟨v, h1, h2⟩ := hsem ρ w I β hop
    exact .inl ⟨.value v, v, w, I, β, h1, .inl rfl, h2, ⟨hH, .refl, fun b y hb hy hne => ⟨y, hy, y.le_refl⟩, fun b hb _ => hb⟩⟩⟩⟩ h
theorem swr_sem {r : SV} (hw : swant all t o.guard = some true) (hd : dstOK fn.ntmps o.dst = true) (hnd : ∀ c, o.op ≠ .defer c) (hsem : Means P G t o r)
    (h : SWr E all rest k (tput t o.dst r) H) : SWr E all (o :: rest) k t H :=
  swr_exec hw hd hnd (Nat.le_refl _) (fun ρ w I β hH hev => by
    obtain ⟨v, h1, h2⟩ := hsem ρ w I β (fun x _ => hev x)
    exact ⟨.value v, v, w, I, β, h1, .inl rfl, h2, hH, .refl⟩) h

end
end Go.Sh

/- The shadow machine, part 45: structs of three numbers compared by !=. -/
namespace Go.Sh
section
variable {P : Program} {w : World}
theorem run_equal_three {t : TypeId} {f0 f1 f2 : Field} {k0 k1 k2 : IntKind} {a b c a' b' c' : Int} {x y z : IntKind} (hu : P.underlying t = some (.struct #[f0, f1, f2])) (hs : P.stoodInHeld t = false)
    (hn0 : f0.name ≠ "_") (hn1 : f1.name ≠ "_") (hn2 : f2.name ≠ "_") (ho0 : f0.offset = 0) (ho1 : f1.offset = 1) (ho2 : f2.offset = 2)
    (hi0 : P.underlying f0.type = some (.int k0)) (hi1 : P.underlying f1.type = some (.int k1)) (hi2 : P.underlying f2.type = some (.int k2)) :
    (Op.equal t (.agg #[.int x a, .int y b, .int z c]) (.agg #[.int x a', .int y b', .int z c'])).run P w = .ok (decide (a = a') && (decide (b = b') && decide (c = c'))) w := by
  show (Op.equalIn (9998 + 1 + 1) t _ _).run P w = _
  generalize 9998 = n
  rw [Op.equalIn]
  simp only [Sem.run_bind, run_underlying hu, Result.andThen_ok]
  simp [hs, hn0, hn1, hn2, ho0, ho1, ho2, run_part_int hi0 (cs := #[.int x a, .int y b, .int z c]) (off := 0) rfl, run_part_int hi0 (cs := #[.int x a', .int y b', .int z c']) (off := 0) rfl,
    run_part_int hi1 (cs := #[.int x a, .int y b, .int z c]) (off := 1) rfl, run_part_int hi1 (cs := #[.int x a', .int y b', .int z c']) (off := 1) rfl,
    run_part_int hi2 (cs := #[.int x a, .int y b, .int z c]) (off := 2) rfl, run_part_int hi2 (cs := #[.int x a', .int y b', .int z c']) (off := 2) rfl, run_equalIn_int hi0, run_equalIn_int hi1, run_equalIn_int hi2, program, run_prog]
  by_cases h1 : a = a' <;> by_cases h2 : b = b' <;> by_cases h3 : c = c' <;> simp [h1, h2, h3]
end
section
variable {P : Program} {G : List (Nat × D)} {fn : Func} {rd : Bool} {E : En P G fn rd} {t : List (Nat × SV)} {H : List SObj} {k : List Item}
variable {all : Array Oper} {o : Oper} {rest : List Oper}
theorem rep_three {w : World} {I : Imm} {β : List Bnd} {v : Value} {a b c : Int} (h : Rep w I β v (.agg [.imm (.val (.int .i64 a)), .imm (.val (.int .i64 b)), .imm (.val (.int .i64 c))])) : v = .agg #[.int .i64 a, .int .i64 b, .int .i64 c] := by
  cases h with
  | agg vs _ h1 h2 =>
    have key : ∀ (j : Nat) (h : j < vs.size) (x : Value) (hj : [SV.imm (.val (.int .i64 a)), SV.imm (.val (.int .i64 b)), SV.imm (.val (.int .i64 c))][j]? = some (.imm (.val x))), vs[j] = x := by
      intro j h x hj
      have h3 := h2 j (by rw [← h1]; exact h) h
      rw [List.getElem?_eq_getElem (by rw [← h1]; exact h)] at hj
      rw [Option.some.inj hj] at h3
      generalize vs[j] = v at h3
      cases h3 with | imm h3 => cases h3; rfl
    have hs : vs.size = 3 := by simpa using h1
    congr 1
    apply Array.ext (by simp [hs])
    intro i hi1 hi2
    have : i = 0 ∨ i = 1 ∨ i = 2 := by omega
    rcases this with rfl | rfl | rfl
    · exact key 0 hi1 _ rfl
    · exact key 1 hi1 _ rfl
    · exact key 2 hi1 _ rfl
theorem means_neq3 {ty ty' : TypeId} {x y : Operand} {f0 f1 f2 : Field} {k0 k1 k2 : IntKind} {a b c a' b' c' : Int} (hop : o.op = .binOp .neq ty x y ty')
    (hx : evalS G t x = .agg [.imm (.val (.int .i64 a)), .imm (.val (.int .i64 b)), .imm (.val (.int .i64 c))]) (hy : evalS G t y = .agg [.imm (.val (.int .i64 a')), .imm (.val (.int .i64 b')), .imm (.val (.int .i64 c'))])
    (hu : P.underlying ty = some (.struct #[f0, f1, f2])) (hs : P.stoodInHeld ty = false) (hn0 : f0.name ≠ "_") (hn1 : f1.name ≠ "_") (hn2 : f2.name ≠ "_") (ho0 : f0.offset = 0) (ho1 : f1.offset = 1) (ho2 : f2.offset = 2)
    (hi0 : P.underlying f0.type = some (.int k0)) (hi1 : P.underlying f1.type = some (.int k1)) (hi2 : P.underlying f2.type = some (.int k2)) (hg : P.eqGuardType P.depth ty = false) :
    Means P G t o (.imm (.val (.bool (!(decide (a = a') && (decide (b = b') && decide (c = c'))))))) := by
  intro ρ w I β hev
  have hrx := hev x (by rw [hop]; simp [Op.operands])
  rw [hx] at hrx
  have hry := hev y (by rw [hop]; simp [Op.operands])
  rw [hy] at hry
  have ex := rep_three hrx
  have ey := rep_three hry
  obtain ⟨dst, op, type, pos, after, guard⟩ := o
  simp only at hop
  subst hop
  refine ⟨.bool (!(decide (a = a') && (decide (b = b') && decide (c = c')))), ?_, .imm (.val _)⟩
  simp only [execOp]
  rw [ex, ey]
  have hgd : (eqGuard .neq ty x y (.agg #[.int .i64 a, .int .i64 b, .int .i64 c]) (.agg #[.int .i64 a', .int .i64 b', .int .i64 c'])).run P w = .ok () w := by
    simp [eqGuard, program, hg, run_prog]
  simp only [Sem.run_bind, hgd, Result.andThen_ok, binOp, run_equal_three hu hs hn0 hn1 hn2 ho0 ho1 ho2 hi0 hi1 hi2, Sem.run_pure]
end
end Go.Sh

/- The shadow machine, part 34: calls that return a new slice; appends in an open order; a slice compared with nil. -/
namespace Go.Sh
section
variable {P : Program} {G : List (Nat × D)} {fn : Func} {rd : Bool} {E : En P G fn rd} {t : List (Nat × SV)} {H K : List SObj} {k : List Item} {m : Nat} {all : Array Oper} {rest : List Oper} {done : List Eff} {o : Oper}

/-- a new object is put where its place is -/
theorem new_place {nx : Nat} {r : SV} {ob : SObj} {w w' : World} {I I' : Imm} {β β1 : List Bnd} {v : Value} (hm : m ≤ nx) (hnx : K[nx]? = some .dead) (hH : HeapOK G w I β K) (hdum : β[nx]? = some dummyB) (h3 : Rep w' I' β1 v r)
    (h4 : HeapOK G w' I' β1 (K ++ [ob])) (h5 : Ext K.length w I β K w' I' β1 (K ++ [ob])) (hr : r.isNew K.length = true) (hob : ob.under K.length = true) :
    ∃ β', Rep w' I' β' v (r.mv K.length nx) ∧ Gain G m w I β K (some (nx, ob)) w' I' β' := by
  have hnl := lt_of_getElem? hnx
  have hl1 : β1.length = K.length + 1 := by rw [h4.len]; simp
  have hl0 : β.length = K.length := hH.len
  have hkeep : Keeps K.length β β1 := h5.keep
  have hdum1 : β1[nx]? = some dummyB := hkeep.dummy hnl hdum
  obtain ⟨x, hx⟩ : ∃ x, β1[K.length]? = some x := ⟨β1[K.length]'(by omega), List.getElem?_eq_getElem _⟩
  have hlen2 : ((β1.take K.length).set nx x).length = K.length := by simp; omega
  have get2 : ∀ b, b ≠ nx → b < K.length → ((β1.take K.length).set nx x)[b]? = β1[b]? := fun b hne hlt => by
    rw [List.getElem?_set_ne (Ne.symm hne), List.getElem?_take, if_pos hlt]
  have getnx : ((β1.take K.length).set nx x)[nx]? = some x := List.getElem?_set_self (by simp; omega)
  -- bindings
  have kd1 : KeepsD K.length β1 ((β1.take K.length).set nx x) := fun b y hb hy hne => by
    have hbn : b ≠ nx := by rintro rfl; rw [hdum1] at hy; cases hy; exact hne rfl
    exact ⟨y, by rw [get2 b hbn hb]; exact hy, y.le_refl⟩
  have kd0 : KeepsD β.length β ((β1.take K.length).set nx x) := fun b y hb hy hne => by
    rw [hl0] at hb
    obtain ⟨z, hz, hle⟩ := hkeep b y hb hy
    have hbn : b ≠ nx := by rintro rfl; rw [hdum] at hy; cases hy; exact hne rfl
    exact ⟨z, by rw [get2 b hbn hb]; exact hz, hle⟩
  have hown : ∀ b c, owns (K.set nx ob) ((β1.take K.length).set nx x) b c → owns (K ++ [ob]) β1 (if b = nx then K.length else b) c := by
    rintro b c ⟨o, y, g1, g2, g3, g4⟩
    by_cases e : b = nx
    · subst e
      rw [if_pos rfl]
      rw [List.getElem?_set_self hnl] at g1
      rw [getnx] at g3
      cases g1; cases g3
      exact ⟨ob, x, by simp, g2, hx, g4⟩
    · rw [if_neg e]
      rw [List.getElem?_set_ne (Ne.symm e)] at g1
      have hlt := lt_of_getElem? g1
      rw [get2 b e hlt] at g3
      exact ⟨o, y, by rw [List.getElem?_append_left hlt]; exact g1, g2, g3, g4⟩
  have hheap : HeapOK G w' I' ((β1.take K.length).set nx x) (K.set nx ob) := by
    refine ⟨by simp; omega, fun b o y g1 g2 => ?_, fun b b' c g1 g2 => ?_, h4.inI, h4.glob⟩
    · by_cases e : b = nx
      · subst e
        rw [List.getElem?_set_self hnl] at g1
        rw [getnx] at g2
        cases g1; cases g2
        exact (h4.obj K.length ob x (by simp) hx).belowD hob kd1
      · rw [List.getElem?_set_ne (Ne.symm e)] at g1
        have hlt := lt_of_getElem? g1
        rw [get2 b e hlt] at g2
        have hb1 : b < β.length := by omega
        have hob1 := h4.obj b o y (by rw [List.getElem?_append_left hlt]; exact g1) g2
        have hob0 := hH.obj b o _ g1 (List.getElem?_eq_getElem hb1)
        rcases hob0.under with hu | ⟨s, f, n', tt, ps, asg, bd, rfl⟩
        · exact hob1.belowD (by rw [hl0] at hu; exact hu) kd1
        · cases y with
          | tok u => exact hob1
          | blk c =>
            cases hbb : β[b] with
            | tok u => rw [hbb] at hob0; exact hob0.elim
            | blk c' =>
              rw [hbb] at hob0
              obtain ⟨r0, b1, b2, b3, b4, b5, b6, b7, b8, b9⟩ := hob0
              obtain ⟨r1, a1, a2, a3, a4, a5, a6, a7, a8, a9⟩ := hob1
              refine ⟨r1, a1, a2, a3, a4, a5, a6, a7, fun m' => ?_, a9⟩
              have hu := (b8 m').under
              rw [hl0] at hu
              exact (a8 m').monoD (fun _ _ h => h) (fun _ _ _ => rfl) kd1 hu
    · have := h4.inj _ _ c (hown b c g1) (hown b' c g2)
      have l1 : b < K.length := by obtain ⟨o, y, g, _⟩ := g1; have := lt_of_getElem? g; simpa using this
      have l2 : b' < K.length := by obtain ⟨o, y, g, _⟩ := g2; have := lt_of_getElem? g; simpa using this
      split at this <;> split at this <;> omega
  refine ⟨(β1.take K.length).set nx x, ?_, hheap, ?_, kd0, fun b hb hne => ?_⟩
  · cases r with
    | ptr c o =>
      have : c = K.length := by simpa [SV.isNew] using hr
      subst this
      simp only [SV.mv, if_true]
      cases h3 with
      | ptr _ c' _ hc => rw [hx] at hc; cases hc; exact .ptr nx c' o getnx
    | osl c o l =>
      have : c = K.length := by simpa [SV.isNew] using hr
      subst this
      simp only [SV.mv, if_true]
      cases h3 with
      | osl _ c' _ _ cap hc g1 g2 => rw [hx] at hc; cases hc; exact .osl nx c' o l cap getnx g1 g2
    | asl c kk rows =>
      have : c = K.length := by simpa [SV.isNew] using hr
      subst this
      simp only [SV.mv, if_true]
      cases h3 with
      | asl _ _ _ _ u n' hd hc g1 g2 g3 => rw [hx] at hc; cases hc; exact .asl nx kk rows v u n' hd getnx g1 g2 g3
    | map c =>
      have : c = K.length := by simpa [SV.isNew] using hr
      subst this
      simp only [SV.mv, if_true]
      cases h3 with
      | map _ c' hc => rw [hx] at hc; cases hc; exact .map nx c' getnx
    | _ => simp [SV.isNew] at hr
  · refine ⟨h5.imm, h5.cell, fun b y hb hy => ?_, h5.old, fun b c ho => h5.own _ c (hown b c ho), h5.new, h5.size, h5.env⟩
    have hlt := lt_of_getElem? hy
    obtain ⟨z, hz, hle⟩ := hkeep b y (by omega) hy
    exact ⟨z, by rw [get2 b (by omega) (by omega)]; exact hz, hle⟩
  · have hbn : b ≠ nx := fun e => hne ob (by rw [e])
    have hlt := lt_of_getElem? hb
    rw [get2 b hbn (by omega)]
    exact hkeep.dummy (by omega) hb


/-- the contract of a function that returns a new slice -/
def SNew (P : Program) (G : List (Nat × D)) (f : FuncId) (args : List SV) (kk : Nat) (rows : List (List D)) : Prop :=
  ∀ H, SCall P G f args H (fun r' H' => r' = .asl H.length kk rows ∧ H' = H ++ [.tok kk rows.length])

theorem swe_append {b kk by_ e e' : Nat} {z : Value} {sx xx : Operand} {sT xT : Nat} {rows new : List (List D)} (hop : o.op = .call ⟨.builtin .append, #[sx, xx], #[sT, xT]⟩)
    (hw : swant all t o.guard = some true) (hd : dstOK fn.ntmps o.dst = true) (hs : evalS G t sx = .asl b kk rows) (hx : (evalS G t xx).rows = some (kk, new)) (hu : P.underlying sT = some (.slice e)) (hu' : P.underlying xT = some (.slice e'))
    (hk : psize P e = some kk) (hby : pbytes P e = some by_) (hz : pzero P e = some z) (hcond : by_ ≤ 65536 ∧ z.cells.size = kk) (hm : m ≤ K.length) (hb : K[b]? = some (.tok kk rows.length)) (hlen : rows.length + new.length ≤ 1073741824)
    (h : SWe E m all rest k (tput t o.dst (.asl b kk (rows ++ new))) (K.set b (.tok kk (rows ++ new).length)) (done ++ [⟨.asl b kk (rows ++ new), [b], some (b, .tok kk (rows ++ new).length)⟩])) : SWe E m all (o :: rest) k t K done :=
  swe_op ⟨.asl b kk (rows ++ new), [b], some (b, .tok kk (rows ++ new).length)⟩ hw hd hm (fun K' _ ha => by
    have hb' : K'[b]? = some (.tok kk rows.length) := by rw [ha b (.inl (by simp))]; exact hb
    rw [hop, List.length_append]
    simp only [sop, sbuiltin, List.map_cons, List.map_nil, sappend, hu, hu', hx, hk, hby, hz]
    rw [if_pos ⟨hcond.1, hcond.2, .inl trivial⟩]
    simp only [sappendTo, hs, hb']
    rw [if_pos ⟨trivial, trivial, trivial, hlen⟩]
    rfl) h

end
end Go.Sh

/- The shadow machine, part 35: yields over the first objects; loads by what lies there. -/
namespace Go.Sh
section
variable {P : Program} {G : List (Nat × D)} {fn : Func} {rd : Bool} {E : En P G fn rd} {t : List (Nat × SV)} {H K : List SObj} {k : List Item} {m : Nat} {all : Array Oper} {rest : List Oper} {done : List Eff} {o : Oper}

/-- a round of a range over a function: the first objects are its part -/
def SYPre (P : Program) (G : List (Nat × D)) (b : Nat) (args : List SV) (H0 : List SObj) (K : Bool → List SObj → Prop) : Prop :=
  ∀ X, SYield P G b args (H0 ++ X) (fun res H' => ∃ H1, K res H1 ∧ H1.length = H0.length ∧ H' = H1 ++ X)

/-- a load through a pointer to an own box -/
theorem swr_loadAt {ty b off : Nat} {a : Operand} {cs : List SV} {v : SV} (hop : o.op = .load ty a) (hw : swant all t o.guard = some true) (hd : dstOK fn.ntmps o.dst = true) (ha : evalS G t a = .ptr b off) (hb : H[b]? = some (.cells cs))
    (hv : sload P ty cs off = some v) (h : SWr E all rest k (tput t o.dst v) H) : SWr E all (o :: rest) k t H := by
  refine swr_op hw hd (r := v) ?_ (Nat.le_refl _) h
  rw [hop]
  have : sopLoad P ty H (.ptr b off) = some v := by
    unfold sopLoad
    simp only [hb, hv]
  simp only [sop, ha, this]
  rfl
end
end Go.Sh

/- The shadow machine, part 37: calls through interfaces; places kept free; ranges over maps. -/
namespace Go.Sh
section
variable {P : Program} {G : List (Nat × D)} {fn : Func} {rd : Bool} {E : En P G fn rd} {t : List (Nat × SV)} {H : List SObj} {k : List Item} {all : Array Oper} {rest : List Oper} {o : Oper}

/-! ### a call, however it is named -/
theorem swr_enter {f : FuncId} {argv : List SV} (hw : swant all t o.guard = some true) (hd : dstOK fn.ntmps o.dst = true) (hnd : ∀ c, o.op ≠ .defer c)
    (hrun : ∀ (ρ : Operand → Value) w I β, HeapOK G w I β H → (∀ x, Rep w I β (ρ x) (evalS G t x)) → ∃ vs : Array Value, (execOp ρ o).run P w = .ok (.enter f vs) w ∧ Reps w I β vs.toList argv)
    (hc : SCall P G f argv H (fun r H' => H.length ≤ H'.length ∧ SWr E all rest k (tput t o.dst r) H')) : SWr E all (o :: rest) k t H := by
  refine ⟨fun j hj hdrop => ?_⟩
  obtain ⟨h1, ho, h3⟩ := drop_cons_parts hdrop
  rw [range_drop h1]
  refine ⟨fun a w I β cs hs => ?_⟩
  have hwant := swant_sound hw hs
  obtain ⟨vs, hr, hreps⟩ := hrun a.eval w I β hs.heap hs.eval
  obtain ⟨e, w', fr, hpost, hcomes, hfn, hleave⟩ := hc w I β _ hs.heap hreps (E.at a (.inRegion all (j :: (List.range all.size).drop (j + 1)) :: k) :: cs)
  obtain ⟨v, r, I', β', H', rfl, ⟨hl, hsw⟩, hv, hH', hext⟩ := hpost
  have hg := rstepG_op (P := P) (b := E.base) (ro := E.ro) (k := k) (cs := cs) (w := w) (rest := (List.range all.size).drop (j + 1)) ho hwant (.inr hnd)
  have henter : step P (lone (E.at a (.inRegion all (j :: (List.range all.size).drop (j + 1)) :: k)) cs w) =
      .next (lone (Frame.enter P f vs .normal) (E.at a (.inRegion all (j :: (List.range all.size).drop (j + 1)) :: k) :: cs) w) :=
    step_lone_go (by unfold En.at; rw [hg]; simp [stepG.apply, hr, atR, Frame.at])
  have hfin : (E.at a (.inRegion all (j :: (List.range all.size).drop (j + 1)) :: k)).finish v = E.at (a.put o.dst v) (.inRegion all ((List.range all.size).drop (j + 1)) :: k) := by
    unfold En.at; rw [rfinish_at, ho]; rfl
  have hsteps : Steps P (lone (E.at a (.inRegion all (j :: (List.range all.size).drop (j + 1)) :: k)) cs w) (lone (E.at (a.put o.dst v) (.inRegion all ((List.range all.size).drop (j + 1)) :: k)) cs w') := by
    refine .head henter (Steps.trans hcomes (.one ?_))
    rw [← hfin]
    exact step_leave_returned hleave
  exact .of_steps hsteps ((hsw.run (j + 1) h1 h3).run _ w' I' β' cs (hs.put hd hv hH' hext hl))

/-! ### interfaces -/
def SV.ifaceOf : SV → Option (TypeId × SV)
  | .imm (.iface t d) => some (t, .imm d)
  | .iface t s => some (t, s)
  | _ => none

theorem Rep.ifaceOf {w : World} {I : Imm} {β : List Bnd} {v : Value} {s x : SV} {ty : TypeId} (h : Rep w I β v s) (hs : s.ifaceOf = some (ty, x)) : ∃ u, v = .iface ty u ∧ Rep w I β u x := by
  cases h with
  | imm h => cases h <;> simp [SV.ifaceOf] at hs
             rename_i h; obtain ⟨rfl, rfl⟩ := hs; exact ⟨_, rfl, .imm h⟩
  | iface t v s h => simp [SV.ifaceOf] at hs; obtain ⟨rfl, rfl⟩ := hs; exact ⟨_, rfl, h⟩
  | _ => simp [SV.ifaceOf] at hs

/-- the function behind a method of a struct type -/
def methOf (P : Program) (ty : TypeId) (name : String) : Option FuncId :=
  match P.info? ty with
  | some i => match i.methods.find? (·.name == name) with
    | some m => match m.path.toList, m.func, P.underlying ty with
      | [], some (f, false), some (.struct _) => some f
      | _, _, _ => none
    | none => none
  | none => none

theorem run_methOf {ty : TypeId} {name : String} {f : FuncId} {v : Value} {w : World} {n : Nat} (h : methOf P ty name = some f) : (method (n + 1) ty v name).run P w = .ok (f, v) w := by
  unfold methOf at h
  split at h <;> first | (cases h; done) | skip
  rename_i i hi
  split at h <;> first | (cases h; done) | skip
  rename_i m hm
  split at h <;> first | (cases h; done) | skip
  rename_i f' fs hp hf hu
  cases h
  have hti : (typeInfo ty).run P w = .ok i w := by simp [typeInfo, program, Sem.run, hi]
  have hun : (underlying ty).run P w = .ok (.struct fs) w := run_underlying hu w
  simp only [method, Sem.run_bind, hti, Result.andThen_ok, hm, hp, follow, Sem.run_pure, hf, receiverAt, hun, Place.get]

theorem swr_invoke {rx : Operand} {name : String} {args : Array Operand} {tys : Array TypeId} {ty : TypeId} {x : SV} {f : FuncId} (hop : o.op = .call ⟨.invoke rx name, args, tys⟩)
    (hw : swant all t o.guard = some true) (hd : dstOK fn.ntmps o.dst = true) (hx : (evalS G t rx).ifaceOf = some (ty, x)) (hm : methOf P ty name = some f) (hb : hasBody P f = true)
    {argv : List SV} (hargs : x :: args.toList.map (evalS G t) = argv)
    (hc : SCall P G f argv H (fun r H' => H.length ≤ H'.length ∧ SWr E all rest k (tput t o.dst r) H')) : SWr E all (o :: rest) k t H := by
  refine swr_enter hw hd (fun c e => by rw [hop] at e; cases e) (fun ρ w I β hH hev => ?_) hc
  obtain ⟨u, hu, hr⟩ := (hev rx).ifaceOf hx
  subst hargs
  refine ⟨#[u] ++ args.map ρ, ?_, ?_⟩
  · obtain ⟨dst, op, type, pos, after, guard⟩ := o
    simp only at hop
    subst hop
    have e0 : (#[Value.iface ty u] ++ args.map ρ)[0]? = some (.iface ty u) := by rw [Array.getElem?_append_left (by simp)]; rfl
    have e1 : (#[Value.iface ty u] ++ args.map ρ).extract 1 (#[Value.iface ty u] ++ args.map ρ).size = args.map ρ := by
      apply Array.ext'
      simp [List.take_of_length_le]
    simp only [execOp, resolve, Sem.run_bind, Sem.run_pure, Result.andThen_ok, invoke, hu, e0, e1, callMethod, program, run_prog]
    rw [show P.types.size + Made.depth = (P.types.size + 99) + 1 from rfl, run_methOf hm]
    simp only [Result.andThen_ok]
    exact run_callFunc hb
  · have e2 : Reps w I β (args.map ρ).toList (args.toList.map (evalS G t)) := by simpa using reps_map hev args.toList
    simpa using Reps.cons hr e2

/-- a shadow value as immutable data -/
def SV.asD : SV → Option D
  | .imm d => some d
  | .agg cs => (asDL cs).map .agg
  | .iface t s => s.asD.map (.iface t)
  | _ => none
where asDL : List SV → Option (List D)
  | [] => some []
  | s :: r => match s.asD, asDL r with
    | some d, some l => some (d :: l)
    | _, _ => none

theorem asDL_get : ∀ {cs : List SV} {ds : List D}, SV.asD.asDL cs = some ds → ds.length = cs.length ∧ ∀ j (h : j < cs.length) (h' : j < ds.length), (cs[j]'h).asD = some (ds[j]'h')
  | [], ds, h => by simp [SV.asD.asDL] at h; subst h; simp
  | s :: r, ds, h => by
    simp only [SV.asD.asDL] at h
    split at h <;> first | (cases h; done) | skip
    rename_i d l hd hl
    cases h
    obtain ⟨h1, h2⟩ := asDL_get hl
    refine ⟨by simp [h1], fun j hj hj' => ?_⟩
    cases j with
    | zero => exact hd
    | succ j => exact h2 j (by simpa using hj) (by simpa using hj')

theorem Rep.asD {w : World} {I : Imm} {β : List Bnd} {v : Value} {s : SV} (h : Rep w I β v s) : ∀ {d : D}, s.asD = some d → DRep w I v d := by
  induction h with
  | imm h => intro d hd; simp [SV.asD] at hd; subst hd; exact h
  | iface t v s _ ih =>
    intro d hd
    simp only [SV.asD, Option.map_eq_some_iff] at hd
    obtain ⟨d', h1, rfl⟩ := hd
    exact .iface t v d' (ih h1)
  | agg vs cs h1 _ ih =>
    intro d hd
    simp only [SV.asD, Option.map_eq_some_iff] at hd
    obtain ⟨ds, h2, rfl⟩ := hd
    obtain ⟨h3, h4⟩ := asDL_get h2
    exact .agg vs ds (by omega) (fun j hj hj' => ih j (by omega) hj' (h4 j (by omega) hj))
  | _ => intro d hd; simp [SV.asD] at hd

/-- a struct is put into an interface -/
theorem swr_iface {ty : TypeId} {x : Operand} {fs : Array Field} {d : D} (hop : o.op = .makeInterface ty x) (hw : swant all t o.guard = some true) (hd : dstOK fn.ntmps o.dst = true) (hu : P.underlying ty = some (.struct fs)) (hx : (evalS G t x).asD = some d)
    (h : SWr E all rest k (tput t o.dst (.imm (.iface ty d))) H) : SWr E all (o :: rest) k t H := by
  refine swr_sem hw hd (fun c e => by rw [hop] at e; cases e) (fun ρ w I β hev => ?_) h
  have hr := hev x (by rw [hop]; simp [Op.operands])
  obtain ⟨dst, op, type, pos, after, guard⟩ := o
  simp only at hop
  subst hop
  refine ⟨.iface ty (ρ x), ?_, .imm (.iface ty _ d (hr.asD hx))⟩
  simp [execOp, Instr.makeInterface, run_underlying hu]

/-! ### places kept free -/
theorem free_place {nx : Nat} {r : SV} {ob : SObj} {w w' : World} {I I' : Imm} {β β1 : List Bnd} {v : Value} (hnx : H[nx]? = some .free) (hH : HeapOK G w I β H) (h3 : Rep w' I' β1 v r)
    (h4 : HeapOK G w' I' β1 (H ++ [ob])) (h5 : Ext H.length w I β H w' I' β1 (H ++ [ob])) (hr : r.isNew H.length = true) (hob : ob.under H.length = true) :
    ∃ β', Rep w' I' β' v (r.mv H.length nx) ∧ HeapOK G w' I' β' (H.set nx ob) ∧ Ext H.length w I β H w' I' β' (H.set nx ob) := by
  have hnl := lt_of_getElem? hnx
  have hl1 : β1.length = H.length + 1 := by rw [h4.len]; simp
  have hl0 : β.length = H.length := hH.len
  have isFree : ∀ {β0 : List Bnd} {H0 : List SObj} {w0 I0}, HeapOK G w0 I0 β0 H0 → H0[nx]? = some .free → nx < β0.length → β0[nx]? = some freeB := by
    intro β0 H0 w0 I0 h0 hf hlt
    have := h0.obj nx .free _ hf (List.getElem?_eq_getElem hlt)
    rw [List.getElem?_eq_getElem hlt]
    cases hx : β0[nx] with
    | blk c => rw [hx] at this; exact this.elim
    | tok u => rw [hx] at this; cases (this : u = .bool true); rfl
  have hf1 : β1[nx]? = some freeB := isFree h4 (get_push_lt hnx) (by omega)
  have hf0 : β[nx]? = some freeB := isFree hH hnx (by omega)
  obtain ⟨x, hx⟩ : ∃ x, β1[H.length]? = some x := ⟨β1[H.length]'(by omega), List.getElem?_eq_getElem _⟩
  have get2 : ∀ b, b ≠ nx → b < H.length → ((β1.take H.length).set nx x)[b]? = β1[b]? := fun b hne hlt => by
    rw [List.getElem?_set_ne (Ne.symm hne), List.getElem?_take, if_pos hlt]
  have getnx : ((β1.take H.length).set nx x)[nx]? = some x := List.getElem?_set_self (by simp; omega)
  have lef : ∀ y, freeB.le y := fun y => .inl rfl
  have kd1 : Keeps H.length β1 ((β1.take H.length).set nx x) := fun b y hb hy => by
    by_cases e : b = nx
    · subst e
      rw [hf1] at hy; cases hy
      exact ⟨x, getnx, lef x⟩
    · exact ⟨y, by rw [get2 b e hb]; exact hy, y.le_refl⟩
  have kd0 : Keeps H.length β ((β1.take H.length).set nx x) := h5.keep.trans kd1
  have hown : ∀ b c, owns (H.set nx ob) ((β1.take H.length).set nx x) b c → owns (H ++ [ob]) β1 (if b = nx then H.length else b) c := by
    rintro b c ⟨o, y, g1, g2, g3, g4⟩
    by_cases e : b = nx
    · subst e
      rw [if_pos rfl]
      rw [List.getElem?_set_self hnl] at g1
      rw [getnx] at g3
      cases g1; cases g3
      exact ⟨ob, x, by simp, g2, hx, g4⟩
    · rw [if_neg e]
      rw [List.getElem?_set_ne (Ne.symm e)] at g1
      have hlt := lt_of_getElem? g1
      rw [get2 b e hlt] at g3
      exact ⟨o, y, by rw [List.getElem?_append_left hlt]; exact g1, g2, g3, g4⟩
  have hheap : HeapOK G w' I' ((β1.take H.length).set nx x) (H.set nx ob) := by
    refine ⟨by simp; omega, fun b o y g1 g2 => ?_, fun b b' c g1 g2 => ?_, h4.inI, h4.glob⟩
    · by_cases e : b = nx
      · subst e
        rw [List.getElem?_set_self hnl] at g1
        rw [getnx] at g2
        cases g1; cases g2
        exact (h4.obj H.length ob x (by simp) hx).below hob kd1
      · rw [List.getElem?_set_ne (Ne.symm e)] at g1
        have hlt := lt_of_getElem? g1
        rw [get2 b e hlt] at g2
        have hb1 : b < β.length := by omega
        have hob1 := h4.obj b o y (by rw [List.getElem?_append_left hlt]; exact g1) g2
        have hob0 := hH.obj b o _ g1 (List.getElem?_eq_getElem hb1)
        rcases hob0.under with hu | ⟨s, f, n', tt, ps, asg, bd, rfl⟩
        · exact hob1.below (by rw [hl0] at hu; exact hu) kd1
        · cases y with
          | tok u => exact hob1
          | blk c =>
            cases hbb : β[b] with
            | tok u => rw [hbb] at hob0; exact hob0.elim
            | blk c' =>
              rw [hbb] at hob0
              obtain ⟨r0, b1, b2, b3, b4, b5, b6, b7, b8, b9⟩ := hob0
              obtain ⟨r1, a1, a2, a3, a4, a5, a6, a7, a8, a9⟩ := hob1
              refine ⟨r1, a1, a2, a3, a4, a5, a6, a7, fun m' => ?_, a9⟩
              have hu := (b8 m').under
              rw [hl0] at hu
              exact (a8 m').mono_below (fun _ _ h => h) (fun _ _ _ => rfl) kd1 hu
    · have := h4.inj _ _ c (hown b c g1) (hown b' c g2)
      have l1 : b < H.length := by obtain ⟨o, y, g, _⟩ := g1; have := lt_of_getElem? g; simpa using this
      have l2 : b' < H.length := by obtain ⟨o, y, g, _⟩ := g2; have := lt_of_getElem? g; simpa using this
      split at this <;> split at this <;> omega
  refine ⟨(β1.take H.length).set nx x, ?_, hheap, ?_⟩
  · cases r with
    | ptr c o =>
      have : c = H.length := by simpa [SV.isNew] using hr
      subst this
      simp only [SV.mv, if_true]
      cases h3 with
      | ptr _ c' _ hc => rw [hx] at hc; cases hc; exact .ptr nx c' o getnx
    | osl c o l =>
      have : c = H.length := by simpa [SV.isNew] using hr
      subst this
      simp only [SV.mv, if_true]
      cases h3 with
      | osl _ c' _ _ cap hc g1 g2 => rw [hx] at hc; cases hc; exact .osl nx c' o l cap getnx g1 g2
    | asl c kk rows =>
      have : c = H.length := by simpa [SV.isNew] using hr
      subst this
      simp only [SV.mv, if_true]
      cases h3 with
      | asl _ _ _ _ u n' hd hc g1 g2 g3 => rw [hx] at hc; cases hc; exact .asl nx kk rows v u n' hd getnx g1 g2 g3
    | map c =>
      have : c = H.length := by simpa [SV.isNew] using hr
      subst this
      simp only [SV.mv, if_true]
      cases h3 with
      | map _ c' hc => rw [hx] at hc; cases hc; exact .map nx c' getnx
    | _ => simp [SV.isNew] at hr
  · exact ⟨h5.imm, h5.cell, kd0, h5.old, fun b c ho => h5.own _ c (hown b c ho), h5.new, h5.size, h5.env⟩

/-- a new object is put into a place that was kept free -/
theorem swr_free (nx : Nat) {r : SV} {ob : SObj} (hw : swant all t o.guard = some true) (hd : dstOK fn.ntmps o.dst = true) (hnd : ∀ c, o.op ≠ .defer c) (hnx : H[nx]? = some .free)
    (hop : sop P o.op (evalS G t) H = some (r, H ++ [ob])) (hr : r.isNew H.length = true) (hob : ob.under H.length = true)
    (h : SWr E all rest k (tput t o.dst (r.mv H.length nx)) (H.set nx ob)) : SWr E all (o :: rest) k t H := by
  refine swr_exec hw hd hnd (by simp) (fun ρ w I β hH hev => ?_) h
  obtain ⟨n, v, w', I', β1, h1, h2, h3, h4, h5⟩ := run_sop (o := o) (ρ := ρ) hop hH hev
  obtain ⟨β', g1, g2, g3⟩ := free_place hnx hH h3 h4 h5 hr hob
  exact ⟨n, v, w', I', β', h1, h2, g1, g2, g3⟩

theorem sw_reserve1 (h : SW E k t (H ++ [.free])) : SW E k t H := by
  refine ⟨fun a w I β cs hs => ?_⟩
  have hp := hs.heap.push (o := .free) (x := freeB) rfl (fun b c hc => by cases hc)
  have he : ∀ m, Ext m w I β H w I (β ++ [freeB]) (H ++ [.free]) := fun m => Ext.push hs.heap (fun c hc => by cases hc)
  exact h.run a w I _ cs ⟨hp, fun n => (hs.tmps n).ext (he _), hs.size, hs.defers.ext (he 0), hs.ext.trans (he _), by simp; have := hs.hlen; omega⟩

theorem sw_reserve (n : Nat) (h : SW E k t (H ++ List.replicate n .free)) : SW E k t H := by
  induction n generalizing H with
  | zero => simpa using h
  | succ n ih =>
    refine sw_reserve1 (ih ?_)
    rw [List.append_assoc, List.singleton_append, ← List.replicate_succ]
    exact h

/-! ### an object seen as another one -/
theorem sw_retype {σ : Type} {b : Nat} {ob : SObj} (hb : H[b]? = some ob) (hd : ob ≠ .dead) (f : σ → SObj) (hfd : ∀ s, f s ≠ .dead) (Q : σ → Prop) (hf : ∀ w I β x, ObjOK w I β ob x → ∃ s, Q s ∧ ObjOK w I β (f s) x)
    (h : ∀ s, Q s → SW E k t (H.set b (f s))) : SW E k t H := by
  refine ⟨fun a w I β cs hs => ?_⟩
  have hblt := lt_of_getElem? hb
  have hblt' : b < β.length := by rw [hs.heap.len]; exact hblt
  obtain ⟨s, hq, hok⟩ := hf w I β _ (hs.heap.obj b ob _ hb (List.getElem?_eq_getElem hblt'))
  have key : ∀ b' c', owns (H.set b (f s)) β b' c' → owns H β b' c' := by
    rintro b' c' ⟨p, x, h1, h2, h3, h4⟩
    by_cases e : b' = b
    · subst e; exact ⟨ob, x, hb, hd, h3, h4⟩
    · rw [List.getElem?_set_ne (Ne.symm e)] at h1; exact ⟨p, x, h1, h2, h3, h4⟩
  have hheap : HeapOK G w I β (H.set b (f s)) := by
    refine ⟨by simp [hs.heap.len], fun b' p x h1 h2 => ?_, fun b1 b2 c h1 h2 => hs.heap.inj b1 b2 c (key b1 c h1) (key b2 c h2), hs.heap.inI, hs.heap.glob⟩
    by_cases e : b' = b
    · subst e
      rw [List.getElem?_set_self hblt] at h1; cases h1
      rw [List.getElem?_eq_getElem hblt'] at h2; cases h2
      exact hok
    · rw [List.getElem?_set_ne (Ne.symm e)] at h1
      exact hs.heap.obj b' p x h1 h2
  have he : ∀ m, Ext m w I β H w I β (H.set b (f s)) := fun m =>
    { imm := fun _ _ h => h, cell := fun _ _ _ => rfl, keep := .refl _ _, old := fun _ _ _ => rfl, own := fun b' c' h => .inl ⟨b', key b' c' h⟩, new := fun _ _ h => .inl h, size := Nat.le_refl _, env := ⟨rfl, rfl⟩ }
  exact (h s hq).run a w I β cs ⟨hheap, hs.tmps, hs.size, hs.defers.ext (he 0), hs.ext.trans (he _), by simpa using hs.hlen⟩

/-- a map's entries with their stamps -/
def Stamped (es : List (Nat × Int × SV)) (clock : Nat) : Prop := (es.map (·.1)).Nodup ∧ ∀ e ∈ es, e.1 < clock

theorem sw_pin {b : Nat} {kk : IntKind} {es : List (Int × SV)} (hb : H[b]? = some (.mapI kk es))
    (h : ∀ es' clock, es'.map (·.2) = es → Stamped es' clock → SW E k t (H.set b (.pin kk es' clock))) : SW E k t H := by
  refine sw_retype (σ := List (Nat × Int × SV) × Nat) hb (by simp) (fun s => .pin kk s.1 s.2) (by simp) (fun s => s.1.map (·.2) = es ∧ Stamped s.1 s.2) (fun w I β x hx => ?_) (fun s hs => h s.1 s.2 hs.1 hs.2)
  cases x with
  | tok u => exact hx.elim
  | blk c =>
    obtain ⟨ents, clock, h1, h2, h3, h4, h5⟩ := hx
    have hlz : (List.zipWith (fun (e : MapEntry) (x : Int × SV) => (e.born, x.1, x.2)) ents.toList es).length = es.length := by simp; omega
    refine ⟨(List.zipWith (fun e x => (e.born, x.1, x.2)) ents.toList es, clock), ⟨?_, ?_, ?_⟩, ents, h1, by rw [hlz]; exact h2, fun j hj hj' => ?_, h4, h5⟩
    · refine List.ext_getElem (by simp; omega) fun j a b => by simp
    · have e : (List.zipWith (fun (e : MapEntry) (x : Int × SV) => (e.born, x.1, x.2)) ents.toList es).map (·.1) = ents.toList.map (·.born) := by
        refine List.ext_getElem (by simp; omega) fun j a b => by simp
      rw [e]; exact h5.1
    · intro e he
      obtain ⟨j, hj, rfl⟩ := List.mem_iff_getElem.1 he
      simp only [List.getElem_zipWith]
      exact h5.2 _ (List.getElem_mem _)
    · have := h3 j (by omega) hj'
      simp only [List.getElem_zipWith, Array.getElem_toList]
      exact ⟨trivial, this.1, this.2⟩

theorem sw_unpin {b : Nat} {kk : IntKind} {es : List (Nat × Int × SV)} {clock : Nat} (hb : H[b]? = some (.pin kk es clock)) (h : SW E k t (H.set b (.mapI kk (es.map (·.2))))) : SW E k t H := by
  refine sw_retype (σ := Unit) hb (by simp) (fun _ => .mapI kk (es.map (·.2))) (by simp) (fun _ => True) (fun w I β x hx => ⟨(), trivial, ?_⟩) (fun _ _ => h)
  cases x with
  | tok u => exact hx.elim
  | blk c =>
    obtain ⟨ents, h1, h2, h3, h4⟩ := hx
    refine ⟨ents, clock, h1, by simpa using h2, fun j hj hj' => ?_, h4⟩
    have := h3 j (by simpa using hj) hj'
    simp only [List.getElem_map]
    exact this.2

/-! ### a range over a map -/
theorem swr_execN {K : SV → List SObj → Prop} (hw : swant all t o.guard = some true) (hd : dstOK fn.ntmps o.dst = true) (hnd : ∀ c, o.op ≠ .defer c)
    (hrun : ∀ (ρ : Operand → Value) w I β, HeapOK G w I β H → (∀ x, Rep w I β (ρ x) (evalS G t x)) → ∃ r H', K r H' ∧ OpRun P G (execOp ρ o) w I β H r H')
    (h : ∀ r H', K r H' → H.length ≤ H'.length ∧ SWr E all rest k (tput t o.dst r) H') : SWr E all (o :: rest) k t H := by
  refine ⟨fun j hj hdrop => ?_⟩
  have hdrop' := hdrop
  obtain ⟨h1, ho, h3⟩ := drop_cons_parts hdrop
  refine ⟨fun a w I β cs hsim => ?_⟩
  obtain ⟨r, H', hK, hop⟩ := hrun a.eval w I β hsim.heap hsim.eval
  have hwant := swant_sound hw hsim
  obtain ⟨n, v, w', I', β', g1, g2, g3, g4, g5⟩ := hop
  rw [range_drop h1]
  have hg := rstepG_op (P := P) (b := E.base) (ro := E.ro) (k := k) (cs := cs) (w := w) (rest := (List.range all.size).drop (j + 1)) ho hwant (.inr hnd)
  have hfin : ∀ v, (E.at a (.inRegion all (j :: (List.range all.size).drop (j + 1)) :: k)).finish v = E.at (a.put o.dst v) (.inRegion all ((List.range all.size).drop (j + 1)) :: k) := by
    intro v; unfold En.at; rw [rfinish_at, ho]; rfl
  have hstep : step P (lone (E.at a (.inRegion all (j :: (List.range all.size).drop (j + 1)) :: k)) cs w) = .next (lone (E.at (a.put o.dst v) (.inRegion all ((List.range all.size).drop (j + 1)) :: k)) cs w') := by
    refine step_lone_go ?_
    rw [← hfin]
    unfold En.at
    rw [hg]
    rcases g2 with rfl | ⟨rfl, rfl⟩ <;> simp [stepG.apply, g1]
  obtain ⟨hl, hsw⟩ := h r H' hK
  exact .of_steps (.one hstep) ((hsw.run (j + 1) h1 h3).run _ w' I' β' cs (hsim.put hd g3 g4 g5 hl))

theorem swr_range {ty kt et : TypeId} {x : Operand} {b : Nat} {kk : IntKind} {es : List (Nat × Int × SV)} {clock : Nat} (hop : o.op = .range ty x) (hw : swant all t o.guard = some true) (hd : dstOK fn.ntmps o.dst = true)
    (hu : P.underlying ty = some (.map kt et)) (hx : evalS G t x = .map b) (hb : H[b]? = some (.pin kk es clock))
    (h : SWr E all rest k (tput t o.dst (.ptr H.length 0)) (H ++ [.iter b clock [] clock])) : SWr E all (o :: rest) k t H := by
  refine swr_exec hw hd (fun c e => by rw [hop] at e; cases e) (by simp) (fun ρ w I β hH hev => ?_) h
  have hr := hev x
  rw [hx] at hr
  obtain ⟨dst, op, type, pos, after, guard⟩ := o
  simp only at hop
  subst hop
  generalize hv : ρ x = v at hr
  cases hr with
  | map _ c hc =>
  obtain ⟨ents, h1, h2, h3, h4, h5⟩ := hH.obj _ _ _ hb hc
  have hal := hH.alloc (m := H.length) (o := .iter b clock [] clock) (ob := .mapIter (some c) clock #[] clock) ⟨c, get_push_lt hc, heap_alloc_self _, fun o hi => by have := hH.inI _ o hi; omega⟩
  refine ⟨.value (.pointer (some ⟨w.heap.size, 0, none⟩)), _, w.alloc (.mapIter (some c) clock #[] clock), I, _, ?_, .inl rfl, .ptr _ w.heap.size 0 (by rw [← hH.len]; simp), hal.1, hal.2⟩
  simp [execOp, Instr.range, run_underlying hu, hv, run_getObj_map h1]
end
end Go.Sh
