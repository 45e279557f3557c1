/- Contracts of functions of the program, joined from TSh38, TSh39, TSh40, TSh41, TSh42, TBa, TBb, TKa, TKb, TKc, TKp, TKq, TKe, TKf, TKg, TKh, TKi, TSh43, TKj, TKk: no condition. -/
import Derived.Test.YtblpjknmhajcgaaGreatDoorJ3
import Derived.Laws.BytesArg
set_option linter.unusedSimpArgs false
set_option linter.unusedVariables false
/- The shadow machine, part 38: the steps of a range over a map; maps and interfaces compared with nil; bytes as a string. -/
namespace Go.Sh
section
variable {P : Program} {G : List (Nat × D)} {fn : Func} {rd : Bool} {E : En P G fn rd} {t : List (Nat × SV)} {H : List SObj} {k : List Item} {all : Array Oper} {rest : List Oper} {o : Oper}

/-- the entries that a range has still before it -/
def leftE (es : List (Nat × Int × SV)) (seen : List Nat) : List (Nat × Int × SV) := es.filter fun e => !seen.contains e.1

theorem leftE_nil (es : List (Nat × Int × SV)) : leftE es [] = es := by simp [leftE]

theorem leftE_perm {es : List (Nat × Int × SV)} {seen : List Nat} {e : Nat × Int × SV} (hn : (es.map (·.1)).Nodup) (he : e ∈ leftE es seen) : (leftE es seen).Perm (e :: leftE es (seen ++ [e.1])) := by
  induction es with
  | nil => simp [leftE] at he
  | cons x l ih =>
    simp only [List.map_cons, List.nodup_cons] at hn
    have hx : ∀ y ∈ l, y.1 ≠ x.1 := fun y hy e1 => hn.1 (by rw [← e1]; exact List.mem_map_of_mem hy)
    have hstep : ∀ s, leftE (x :: l) s = if s.contains x.1 then leftE l s else x :: leftE l s := fun s => by
      simp only [leftE, List.filter_cons]
      cases s.contains x.1 <;> simp
    rw [hstep, hstep]
    rw [hstep] at he
    by_cases hs : seen.contains x.1 = true
    · rw [if_pos hs] at he ⊢
      rw [if_pos (by simp at hs ⊢; exact .inl hs)]
      exact ih hn.2 he
    · rw [if_neg hs] at he ⊢
      rcases List.mem_cons.1 he with rfl | he
      · rw [if_pos (by simp)]
        refine List.Perm.cons _ ?_
        have : leftE l seen = leftE l (seen ++ [e.1]) := by
          unfold leftE
          refine List.filter_congr fun y hy => ?_
          have := hx y hy
          simp [this]
        rw [← this]
      · have hne : e.1 ≠ x.1 := hx e (List.mem_filter.1 he).1
        rw [if_neg (by simp at hs ⊢; exact ⟨hs, fun h => hne h.symm⟩)]
        exact (List.Perm.cons x (ih hn.2 he)).trans (List.Perm.swap _ _ _)

theorem mem_leftE {es : List (Nat × Int × SV)} {seen : List Nat} {e : Nat × Int × SV} (he : e ∈ leftE es seen) : e ∈ es := (List.mem_filter.1 he).1

section
variable {w : World} {I : Imm} {β : List Bnd}
open Go.ChangeMaps (setBlock)

theorem heap_setIter (hH : HeapOK G w I β H) {bi b c cm since last : Nat} {seen : List Nat} (hbi : H[bi]? = some (.iter b since seen last)) (hc : β[bi]? = some (.blk c)) (hcm : β[b]? = some (.blk cm)) {w1 : World} (hw1 : w1 = w ∨ w1 = w.drew) (seen' : List Nat) (last' : Nat) :
    HeapOK G (setBlock w1 c (.mapIter (some cm) since seen'.toArray last')) I β (H.set bi (.iter b since seen' last')) ∧ Ext H.length w I β H (setBlock w1 c (.mapIter (some cm) since seen'.toArray last')) I β (H.set bi (.iter b since seen' last')) := by
  obtain ⟨cm', g1, g2, g3⟩ := hH.obj _ _ _ hbi hc
  have hheap : w1.heap = w.heap := by rcases hw1 with rfl | rfl <;> rfl
  have hlt := heap_lt g2
  refine hH.change hbi (by simp) hc (fun c' hne => ?_) (by simp [setBlock, hheap]) g3 ⟨cm, hcm, ?_, g3⟩ ⟨?_, ?_⟩
  · simp [setBlock, hheap, Ne.symm hne]
  · simp [setBlock, hheap, hlt]
  · rcases hw1 with rfl | rfl <;> rfl
  · rcases hw1 with rfl | rfl <;> rfl
end

open Go.ChangeMaps (setBlock)
theorem ents_left {w : World} {I : Imm} {β : List Bnd} {kk : IntKind} {es : List (Nat × Int × SV)} {ents : Array MapEntry} (h2 : ents.size = es.length)
    (h3 : ∀ j (h : j < es.length) (h' : j < ents.size), (ents[j]'h').born = (es[j]'h).1 ∧ (ents[j]'h').key = .int kk (es[j]'h).2.1 ∧ Rep w I β (ents[j]'h').val (es[j]'h).2.2) (seen : List Nat) :
    ((leftOf ents seen.toArray).size = 0 ↔ leftE es seen = []) ∧ ∀ e ∈ (leftOf ents seen.toArray).toList, e ∈ ents.toList ∧ ∃ x ∈ leftE es seen, e.born = x.1 ∧ e.key = .int kk x.2.1 ∧ Rep w I β e.val x.2.2 := by
  have hmem : ∀ e ∈ (leftOf ents seen.toArray).toList, e ∈ ents.toList ∧ ∃ x ∈ leftE es seen, e.born = x.1 ∧ e.key = .int kk x.2.1 ∧ Rep w I β e.val x.2.2 := by
    intro e he
    simp only [leftOf, Array.toList_filter, List.mem_filter] at he
    obtain ⟨he, hs⟩ := he
    refine ⟨he, ?_⟩
    obtain ⟨j, hj, rfl⟩ := List.mem_iff_getElem.1 he
    have hj' : j < ents.size := by simpa using hj
    obtain ⟨a1, a2, a3⟩ := h3 j (by omega) hj'
    refine ⟨es[j]'(by omega), List.mem_filter.2 ⟨List.getElem_mem _, ?_⟩, by simpa using a1, by simpa using a2, by simpa using a3⟩
    rw [← a1]
    simpa using hs
  refine ⟨⟨fun h0 => ?_, fun h0 => ?_⟩, hmem⟩
  · refine List.filter_eq_nil_iff.2 fun x hx => ?_
    obtain ⟨j, hj, rfl⟩ := List.mem_iff_getElem.1 hx
    obtain ⟨a1, a2, a3⟩ := h3 j hj (by omega)
    have hnil : (leftOf ents seen.toArray).toList = [] := by
      apply List.eq_nil_of_length_eq_zero; simpa using h0
    simp only [leftOf, Array.toList_filter] at hnil
    have := List.filter_eq_nil_iff.1 hnil (ents[j]'(by omega)) (by simp)
    rw [a1] at this
    simpa using this
  · rcases Nat.eq_zero_or_pos (leftOf ents seen.toArray).size with h | h
    · exact h
    · have hm : (leftOf ents seen.toArray)[0] ∈ (leftOf ents seen.toArray).toList := by simp
      obtain ⟨_, x, hx, _⟩ := hmem _ hm
      rw [h0] at hx
      cases hx

/-- the next entry, whichever it is; or there is none -/
theorem swr_next {it : Operand} {bi b since last clock : Nat} {seen : List Nat} {kk : IntKind} {es : List (Nat × Int × SV)} (hop : o.op = .next it false) (hw : swant all t o.guard = some true) (hd : dstOK fn.ntmps o.dst = true)
    (hx : evalS G t it = .ptr bi 0) (hbi : H[bi]? = some (.iter b since seen last)) (hb : H[b]? = some (.pin kk es clock)) (hs : Stamped es since) (hsl : since ≤ last)
    (h0 : leftE es seen = [] → SWr E all rest k (tput t o.dst (.tup [.imm (.val (.bool false))])) H)
    (h1 : ∀ e ∈ leftE es seen, SWr E all rest k (tput t o.dst (.tup [.imm (.val (.bool true)), .imm (.val (.int kk e.2.1)), e.2.2])) (H.set bi (.iter b since (seen ++ [e.1]) clock))) :
    SWr E all (o :: rest) k t H := by
  refine swr_execN (K := fun r H' => (leftE es seen = [] ∧ r = .tup [.imm (.val (.bool false))] ∧ H' = H) ∨ ∃ e ∈ leftE es seen, r = .tup [.imm (.val (.bool true)), .imm (.val (.int kk e.2.1)), e.2.2] ∧ H' = H.set bi (.iter b since (seen ++ [e.1]) clock))
    hw hd (fun c e => by rw [hop] at e; cases e) (fun ρ w I β hH hev => ?_) ?_
  · have hr := hev it
    rw [hx] at hr
    obtain ⟨dst, op, type, pos, after, guard⟩ := o
    simp only at hop
    subst hop
    generalize hv : ρ it = v at hr
    cases hr with
    | ptr _ c _ hc =>
    obtain ⟨cm, g1, g2, g3⟩ := hH.obj _ _ _ hbi hc
    obtain ⟨ents, a1, a2, a3, a4, a5⟩ := hH.obj _ _ _ hb g1
    obtain ⟨l1, l2⟩ := ents_left a2 a3 seen
    have hold : ∀ x ∈ ents.toList, x.born < since := by
      intro x hx
      obtain ⟨j, hj, rfl⟩ := List.mem_iff_getElem.1 hx
      have hj' : j < ents.size := by simpa using hj
      have := (a3 j (by omega) hj').1
      simp only [Array.getElem_toList, this]
      exact hs.2 _ (List.getElem_mem _)
    rcases run_next_at (P := P) w type c cm since last seen.toArray ents clock g2 a1 hold hsl with ⟨b1, b2⟩ | ⟨e, b1, w1, b2, b3⟩
    · refine ⟨_, H, .inl ⟨l1.1 b1, rfl, rfl⟩, .value _, .tuple #[.bool false], w, I, β, ?_, .inl rfl, .tup #[.bool false] [.imm (.val (.bool false))] rfl (fun j hj hj' => ?_), hH, .refl⟩
      · simp only [execOp, hv, Sem.run_bind, b2, Result.andThen_ok, Sem.run_pure]
      · have : j = 0 := by simp at hj; omega
        subst this; exact .imm (.val _)
    · obtain ⟨c1, x, c2, c3, c4, c5⟩ := l2 e b1
      have hres := heap_setIter hH hbi hc g1 b2 (seen ++ [x.1]) clock
      refine ⟨_, _, .inr ⟨x, c2, rfl, rfl⟩, .value _, .tuple #[.bool true, e.key, e.val], setBlock w1 c (.mapIter (some cm) since (seen ++ [x.1]).toArray clock), I, β, ?_, .inl rfl, ?_, hres.1, hres.2⟩
      · simp only [execOp, hv, Sem.run_bind, b3, Result.andThen_ok, Sem.run_pure, c3]
        simp
      · refine .tup _ _ rfl (fun j hj hj' => ?_)
        match j, hj with
        | 0, _ => exact .imm (.val _)
        | 1, _ => simp only [c4]; exact .imm (.val _)
        | 2, _ => exact c5.ext (by rw [hH.len]; exact hres.2)
  · rintro r H' (⟨e1, rfl, rfl⟩ | ⟨e, he, rfl, rfl⟩)
    · exact ⟨Nat.le_refl _, h0 e1⟩
    · exact ⟨by simp, h1 e he⟩
end
end Go.Sh

/- The shadow machine, part 39: the entry of a round; maps compared with nil; bytes as a string. -/
namespace Go.Sh
section
variable {P : Program} {G : List (Nat × D)} {fn : Func} {rd : Bool} {E : En P G fn rd} {t : List (Nat × SV)} {H : List SObj} {k : List Item} {all : Array Oper} {rest : List Oper} {o : Oper}

/-- key and value of the round -/
theorem swr_entry {it : Operand} {bi b since clock : Nat} {seen : List Nat} {kk : IntKind} {es : List (Nat × Int × SV)} {e : Nat × Int × SV} (hop : o.op = .entry it) (hw : swant all t o.guard = some true) (hd : dstOK fn.ntmps o.dst = true)
    (hx : evalS G t it = .ptr bi 0) (hbi : H[bi]? = some (.iter b since (seen ++ [e.1]) clock)) (hb : H[b]? = some (.pin kk es clock)) (he : e ∈ es)
    (h : SWr E all rest k (tput t o.dst (.tup [.imm (.val (.int kk e.2.1)), e.2.2])) H) : SWr E all (o :: rest) k t H := by
  refine swr_exec hw hd (fun c e => by rw [hop] at e; cases e) (Nat.le_refl _) (fun ρ w I β hH hev => ?_) h
  have hr := hev it
  rw [hx] at hr
  obtain ⟨dst, op, type, pos, after, guard⟩ := o
  simp only at hop
  subst hop
  generalize hv : ρ it = v at hr
  cases hr with
  | ptr _ c _ hc =>
  obtain ⟨cm, g1, g2, g3⟩ := hH.obj _ _ _ hbi hc
  obtain ⟨ents, a1, a2, a3, a4, a5⟩ := hH.obj _ _ _ hb g1
  obtain ⟨j, hj, rfl⟩ := List.mem_iff_getElem.1 he
  obtain ⟨c1, c2, c3⟩ := a3 j hj (by omega)
  have hrun := run_entry_at (P := P) w c cm since seen.toArray ents clock (ents[j]'(by omega)) (by rw [g2, c1]; simp) a1 (by simp) a5.1
  refine ⟨.value _, .tuple #[(ents[j]'(by omega)).key, (ents[j]'(by omega)).val], w, I, β, ?_, .inl rfl, .tup _ _ rfl (fun i hi hi' => ?_), hH, .refl⟩
  · simp only [execOp, hv, Sem.run_bind, hrun, Result.andThen_ok, Sem.run_pure]
  · match i, hi with
    | 0, _ => simp only [c2]; exact .imm (.val _)
    | 1, _ => exact c3

/-- a map that is there is not nil -/
theorem swr_mapNil {ty ty' kt et : TypeId} {x y : Operand} {b : Nat} (hop : o.op = .binOp .eql ty x y ty') (hw : swant all t o.guard = some true) (hd : dstOK fn.ntmps o.dst = true)
    (hx : evalS G t x = .map b) (hy : evalS G t y = .imm (.val (.map none))) (hu : P.underlying ty = some (.map kt et))
    (h : SWr E all rest k (tput t o.dst (.imm (.val (.bool false)))) H) : SWr E all (o :: rest) k t H := by
  refine swr_sem hw hd (fun c e => by rw [hop] at e; cases e) (fun ρ w I β hev => ?_) h
  have hrx := hev x (by rw [hop]; simp [Op.operands])
  rw [hx] at hrx
  have hry := hev y (by rw [hop]; simp [Op.operands])
  rw [hy] at hry
  obtain ⟨dst, op, type, pos, after, guard⟩ := o
  simp only at hop
  subst hop
  have ey : ρ y = .map none := by
    generalize ρ y = v at hry
    cases hry with | imm hr => cases hr; rfl
  generalize hv : ρ x = v at hrx
  cases hrx with
  | map _ c hc =>
  have hgd : (eqGuard .eql ty x y (.map (some c)) (.map none)).run P w = .ok () w := by simp [eqGuard]
  have heq : (Op.equal ty (.map (some c)) (.map none)).run P w = .ok false w := by
    show (Op.equalIn (9999 + 1) ty _ _).run P w = _
    generalize 9999 = n
    rw [Op.equalIn]
    simp only [Sem.run_bind, run_underlying hu, Result.andThen_ok]
    simp
  refine ⟨.bool false, ?_, .imm (.val _)⟩
  simp only [execOp]
  rw [hv, ey]
  simp only [Sem.run_bind, hgd, Result.andThen_ok, binOp, heq, Sem.run_pure]

/-- a map that is nil -/
theorem swr_mapNil' {ty ty' kt et : TypeId} {x y : Operand} (hop : o.op = .binOp .eql ty x y ty') (hw : swant all t o.guard = some true) (hd : dstOK fn.ntmps o.dst = true)
    (hx : evalS G t x = .imm (.val (.map none))) (hy : evalS G t y = .imm (.val (.map none))) (hu : P.underlying ty = some (.map kt et))
    (h : SWr E all rest k (tput t o.dst (.imm (.val (.bool true)))) H) : SWr E all (o :: rest) k t H := by
  refine swr_sem hw hd (fun c e => by rw [hop] at e; cases e) (fun ρ w I β hev => ?_) h
  have hrx := hev x (by rw [hop]; simp [Op.operands])
  rw [hx] at hrx
  have hry := hev y (by rw [hop]; simp [Op.operands])
  rw [hy] at hry
  obtain ⟨dst, op, type, pos, after, guard⟩ := o
  simp only at hop
  subst hop
  have ey : ρ y = .map none := by
    generalize ρ y = v at hry
    cases hry with | imm hr => cases hr; rfl
  have ex : ρ x = .map none := by
    generalize ρ x = v at hrx
    cases hrx with | imm hr => cases hr; rfl
  have hgd : (eqGuard .eql ty x y (.map none) (.map none)).run P w = .ok () w := by simp [eqGuard]
  have heq : (Op.equal ty (.map none) (.map none)).run P w = .ok true w := by
    show (Op.equalIn (9999 + 1) ty _ _).run P w = _
    generalize 9999 = n
    rw [Op.equalIn]
    simp only [Sem.run_bind, run_underlying hu, Result.andThen_ok]
    simp
  refine ⟨.bool true, ?_, .imm (.val _)⟩
  simp only [execOp]
  rw [ex, ey]
  simp only [Sem.run_bind, hgd, Result.andThen_ok, binOp, heq, Sem.run_pure]

/-- own bytes as a string -/
theorem swr_bytes {s d e : TypeId} {x : Operand} {b n : Nat} {ns : List Int} (hop : o.op = .convert s d x) (hw : swant all t o.guard = some true) (hd : dstOK fn.ntmps o.dst = true)
    (hx : evalS G t x = .osl b 0 n) (hb : H[b]? = some (.cells (ns.map fun i => .imm (.val (.int .u8 i))))) (hn : n = ns.length) (hs : P.underlying s = some (.slice e)) (hde : P.underlying e = some (.int .u8)) (hdd : P.underlying d = some .string)
    (h : SWr E all rest k (tput t o.dst (.imm (.val (.string (ns.foldl (fun r n => r.push (UInt8.ofNat n.toNat)) ByteArray.empty))))) H) : SWr E all (o :: rest) k t H := by
  subst hn
  refine swr_exec hw hd (fun c e => by rw [hop] at e; cases e) (Nat.le_refl _) (fun ρ w I β hH hev => ?_) h
  have hr := hev x
  rw [hx] at hr
  obtain ⟨dst, op, type, pos, after, guard⟩ := o
  simp only at hop
  subst hop
  generalize hv : ρ x = v at hr
  cases hr with
  | osl _ c _ _ cap hc l1 l2 =>
  obtain ⟨vs, T, h1, h2, h3, h4⟩ := hH.obj _ _ _ hb hc
  have hvs : ∀ j (hj : j < ns.length), vs[j]? = some (.int .u8 (ns[j]'hj)) := by
    intro j hj
    have hj' : j < vs.size := by simp at h2; omega
    have := h3 j (by simpa using hj) hj'
    simp only [List.getElem_map] at this
    rw [Array.getElem?_eq_getElem hj']
    generalize vs[j] = u at this
    cases this with | imm hr => cases hr; rfl
  have hl : (loadCells ⟨c, 0, none⟩ ns.length).run P w = .ok (ns.map (Value.int .u8)).toArray w := by
    have := run_loadCells_list (P := P) w ⟨c, 0, none⟩ (ns.map (Value.int .u8)) (fun j v hj => by
      have hjl : j < ns.length := by have := lt_of_getElem? hj; simpa using this
      rw [List.getElem?_map, List.getElem?_eq_getElem hjl] at hj
      cases hj
      rw [addr_add, cell_of_heap h1, Nat.zero_add, hvs j hjl])
    simpa using this
  refine OpRun.same (v := .string _) ?_ (.imm (.val _)) hH
  simp only [execOp, hv, Sem.run_bind]
  rw [run_convert_bytes_string w s d e _ _ cap hs hde hdd, run_bytesToString w _ _ cap ns hl]
end
end Go.Sh

/- The shadow machine, part 40: a contract at fixed places holds behind whatever other objects. -/
namespace Go.Sh

/-- n places further on -/
def SV.sh (n : Nat) : SV → SV
  | .any => .any
  | .imm d => .imm d
  | .ptr b o => .ptr (b + n) o
  | .osl b o l => .osl (b + n) o l
  | .asl b kk rows => .asl (b + n) kk rows
  | .map b => .map (b + n)
  | .yld b => .yld (b + n)
  | .vec b m => .vec (b + n) m
  | .vptr b m o => .vptr (b + n) m o
  | .fn f x y => .fn f (shL n x) (shL n y)
  | .iface t v => .iface t (v.sh n)
  | .agg cs => .agg (shL n cs)
  | .tup vs => .tup (shL n vs)
where shL (n : Nat) : List SV → List SV
  | [] => []
  | s :: r => s.sh n :: shL n r

theorem shL_eq (n : Nat) : ∀ l : List SV, SV.sh.shL n l = l.map (SV.sh n)
  | [] => rfl
  | s :: r => by simp only [SV.sh.shL, List.map_cons, shL_eq n r]

def SObj.sh (n : Nat) : SObj → SObj
  | .cells cs => .cells (cs.map (SV.sh n))
  | .mapI kk es => .mapI kk (es.map fun e => (e.1, e.2.sh n))
  | .mapS es => .mapS (es.map fun e => (e.1, e.2.sh n))
  | .loop s f m t ps asg bd => .loop s f m (t.map fun e => (e.1, e.2.sh n)) ps asg bd
  | .vec kk cs => .vec kk (cs.map (SV.sh n))
  | .pin kk es c => .pin kk (es.map fun e => (e.1, e.2.1, e.2.2.sh n)) c
  | .iter m s seen l => .iter (m + n) s seen l
  | .tok kk m => .tok kk m
  | .dead => .dead
  | .free => .free

theorem SObj.sh_dead {n : Nat} {o : SObj} : o.sh n = .dead ↔ o = .dead := by cases o <;> simp [SObj.sh]

section
variable {w : World} {I : Imm} {βX β0 : List Bnd} {n : Nat}

theorem get_shift (hn : βX.length = n) (b : Nat) : (βX ++ β0)[b + n]? = β0[b]? := by
  rw [List.getElem?_append_right (by omega)]; congr 1; omega

theorem Rep.sh {v : Value} {s : SV} (hn : βX.length = n) (h : Rep w I β0 v s) : Rep w I (βX ++ β0) v (s.sh n) := by
  have g := fun b => get_shift (β0 := β0) hn b
  induction h with
  | any v => exact .any v
  | imm h => exact .imm h
  | ptr b c off h => exact .ptr _ c off (by rw [g]; exact h)
  | osl b c off len cap h h1 h2 => exact .osl _ c off len cap (by rw [g]; exact h) h1 h2
  | asl b kk rows v u m h hu hs hle heq => exact .asl _ kk rows v u m h (by rw [g]; exact hu) hs hle heq
  | map b c h => exact .map _ c (by rw [g]; exact h)
  | yld b c h => exact .yld _ c (by rw [g]; exact h)
  | vec b m v u q h hs hle hv heq => exact .vec _ m v u q (by rw [g]; exact h) hs hle hv heq
  | vptr b m off v a q cap h hle hv heq => exact .vptr _ m off v a q cap (by rw [g]; exact h) hle hv heq
  | fn f fs cs first captured h1 h2 _ _ ih1 ih2 =>
    simp only [SV.sh, shL_eq]
    exact .fn f fs cs _ _ (by simpa using h1) (by simpa using h2) (fun j hj hj' => by simpa using ih1 j (by simpa using hj) hj') (fun j hj hj' => by simpa using ih2 j (by simpa using hj) hj')
  | iface t v s _ ih => exact .iface t v _ ih
  | agg vs cs h1 _ ih =>
    simp only [SV.sh, shL_eq]
    exact .agg vs _ (by simpa using h1) (fun j hj hj' => by simpa using ih j (by simpa using hj) hj')
  | tup vs ss h1 _ ih =>
    simp only [SV.sh, shL_eq]
    exact .tup vs _ (by simpa using h1) (fun j hj hj' => by simpa using ih j (by simpa using hj) hj')

theorem Rep.unsh {v : Value} {s' : SV} (hn : βX.length = n) (h : Rep w I (βX ++ β0) v s') : ∀ {s : SV}, s' = s.sh n → Rep w I β0 v s := by
  have g := fun b => get_shift (β0 := β0) hn b
  induction h with
  | any v => intro s hs; cases s <;> simp [SV.sh] at hs; exact .any v
  | imm h => intro s hs; cases s <;> simp [SV.sh] at hs; subst hs; exact .imm h
  | ptr b c off h => intro s hs; cases s <;> simp [SV.sh] at hs; obtain ⟨rfl, rfl⟩ := hs; exact .ptr _ c _ (by rw [g] at h; exact h)
  | osl b c off len cap h h1 h2 => intro s hs; cases s <;> simp [SV.sh] at hs; obtain ⟨rfl, rfl, rfl⟩ := hs; exact .osl _ c _ _ cap (by rw [g] at h; exact h) h1 h2
  | asl b kk rows v u m h hu hs' hle heq => intro s hs; cases s <;> simp [SV.sh] at hs; obtain ⟨rfl, rfl, rfl⟩ := hs; exact .asl _ _ _ v u m h (by rw [g] at hu; exact hu) hs' hle heq
  | map b c h => intro s hs; cases s <;> simp [SV.sh] at hs; subst hs; exact .map _ c (by rw [g] at h; exact h)
  | yld b c h => intro s hs; cases s <;> simp [SV.sh] at hs; subst hs; exact .yld _ c (by rw [g] at h; exact h)
  | vec b m v u q h hs' hle hv heq => intro s hs; cases s <;> simp [SV.sh] at hs; obtain ⟨rfl, rfl⟩ := hs; exact .vec _ _ v u q (by rw [g] at h; exact h) hs' hle hv heq
  | vptr b m off v a q cap h hle hv heq => intro s hs; cases s <;> simp [SV.sh] at hs; obtain ⟨rfl, rfl, rfl⟩ := hs; exact .vptr _ _ _ v a q cap (by rw [g] at h; exact h) hle hv heq
  | fn f fs cs first captured h1 h2 _ _ ih1 ih2 =>
    intro s hs
    cases s <;> simp [SV.sh, shL_eq] at hs
    obtain ⟨rfl, rfl, rfl⟩ := hs
    exact .fn _ fs cs _ _ (by simpa using h1) (by simpa using h2) (fun j hj hj' => ih1 j (by simpa using hj) hj' (by simp)) (fun j hj hj' => ih2 j (by simpa using hj) hj' (by simp))
  | iface t v s _ ih => intro s hs; cases s <;> simp [SV.sh] at hs; obtain ⟨rfl, rfl⟩ := hs; exact .iface _ v _ (ih rfl)
  | agg vs cs h1 _ ih =>
    intro s hs
    cases s <;> simp [SV.sh, shL_eq] at hs
    subst hs
    exact .agg vs _ (by simpa using h1) (fun j hj hj' => ih j (by simpa using hj) hj' (by simp))
  | tup vs ss h1 _ ih =>
    intro s hs
    cases s <;> simp [SV.sh, shL_eq] at hs
    subst hs
    exact .tup vs _ (by simpa using h1) (fun j hj hj' => ih j (by simpa using hj) hj' (by simp))

theorem tget_sh (n : Nat) (t : List (Nat × SV)) (m : Nat) : tget (t.map fun e => (e.1, e.2.sh n)) m = (tget t m).sh n := by
  induction t with
  | nil => rfl
  | cons x t ih =>
    simp only [List.map_cons, tget]
    split
    · rfl
    · exact ih

theorem ObjOK.sh {o : SObj} {x : Bnd} (hn : βX.length = n) (h : ObjOK w I β0 o x) : ObjOK w I (βX ++ β0) (o.sh n) x := by
  cases o with
  | cells cs =>
    cases x with
    | blk c =>
      obtain ⟨vs, T, h1, h2, h3, h4⟩ := h
      exact ⟨vs, T, h1, by simpa using h2, fun j hj hj' => by simpa using (h3 j (by simpa using hj) hj').sh hn, h4⟩
    | tok u => exact h.elim
  | mapI kk es =>
    cases x with
    | blk c =>
      obtain ⟨ents, clock, h1, h2, h3, h4⟩ := h
      exact ⟨ents, clock, h1, by simpa using h2, fun j hj hj' => by
        have := h3 j (by simpa using hj) hj'
        simp only [List.getElem_map]
        exact ⟨this.1, this.2.sh hn⟩, h4⟩
    | tok u => exact h.elim
  | mapS es =>
    cases x with
    | blk c =>
      obtain ⟨ents, clock, h1, h2, h3, h4⟩ := h
      exact ⟨ents, clock, h1, by simpa using h2, fun j hj hj' => by
        have := h3 j (by simpa using hj) hj'
        simp only [List.getElem_map]
        exact ⟨this.1, this.2.sh hn⟩, h4⟩
    | tok u => exact h.elim
  | tok kk m => cases x <;> exact h
  | loop s f m t ps asg bd =>
    cases x with
    | blk c =>
      obtain ⟨r, a1, a2, a3, a4, a5, a6, a7, a8, a9⟩ := h
      exact ⟨r, a1, a2, a3, a4, a5, a6, a7, fun m => by rw [tget_sh]; exact (a8 m).sh hn, a9⟩
    | tok u => exact h.elim
  | vec kk cs =>
    cases x with
    | blk c => exact h.elim
    | tok u =>
      rcases h with ⟨rfl, h⟩ | ⟨c, m, cap, vs, T, rfl, a1, a2, a3, a4, a5, a6, a7⟩
      · exact .inl ⟨rfl, h⟩
      · exact .inr ⟨c, m, cap, vs, T, rfl, a1, a2, a3, a4, by simpa using a5, fun j hj hj' => by simpa using (a6 j (by simpa using hj) hj').sh hn, a7⟩
  | dead => trivial
  | free => cases x <;> exact h
  | pin kk es clock =>
    cases x with
    | blk c =>
      obtain ⟨ents, h1, h2, h3, h4⟩ := h
      exact ⟨ents, h1, by simpa using h2, fun j hj hj' => by
        have := h3 j (by simpa using hj) hj'
        simp only [List.getElem_map]
        exact ⟨this.1, this.2.1, this.2.2.sh hn⟩, h4⟩
    | tok u => exact h.elim
  | iter m s seen l =>
    cases x with
    | blk c =>
      obtain ⟨cm, h1, h2⟩ := h
      exact ⟨cm, by rw [get_shift hn]; exact h1, h2⟩
    | tok u => exact h.elim

theorem ObjOK.unsh {o : SObj} {x : Bnd} (hn : βX.length = n) (h : ObjOK w I (βX ++ β0) (o.sh n) x) : ObjOK w I β0 o x := by
  cases o with
  | cells cs =>
    cases x with
    | blk c =>
      obtain ⟨vs, T, h1, h2, h3, h4⟩ := h
      exact ⟨vs, T, h1, by simpa using h2, fun j hj hj' => (h3 j (by simpa using hj) hj').unsh hn (by simp), h4⟩
    | tok u => exact h.elim
  | mapI kk es =>
    cases x with
    | blk c =>
      obtain ⟨ents, clock, h1, h2, h3, h4⟩ := h
      exact ⟨ents, clock, h1, by simpa using h2, fun j hj hj' => by
        have := h3 j (by simpa using hj) hj'
        simp only [List.getElem_map] at this
        exact ⟨this.1, this.2.unsh hn rfl⟩, h4⟩
    | tok u => exact h.elim
  | mapS es =>
    cases x with
    | blk c =>
      obtain ⟨ents, clock, h1, h2, h3, h4⟩ := h
      exact ⟨ents, clock, h1, by simpa using h2, fun j hj hj' => by
        have := h3 j (by simpa using hj) hj'
        simp only [List.getElem_map] at this
        exact ⟨this.1, this.2.unsh hn rfl⟩, h4⟩
    | tok u => exact h.elim
  | tok kk m => cases x <;> exact h
  | loop s f m t ps asg bd =>
    cases x with
    | blk c =>
      obtain ⟨r, a1, a2, a3, a4, a5, a6, a7, a8, a9⟩ := h
      exact ⟨r, a1, a2, a3, a4, a5, a6, a7, fun m => (a8 m).unsh hn (tget_sh n t m), a9⟩
    | tok u => exact h.elim
  | vec kk cs =>
    cases x with
    | blk c => exact h.elim
    | tok u =>
      rcases h with ⟨h0, h⟩ | ⟨c, m, cap, vs, T, rfl, a1, a2, a3, a4, a5, a6, a7⟩
      · exact .inl ⟨by simpa using h0, h⟩
      · exact .inr ⟨c, m, cap, vs, T, rfl, a1, a2, a3, a4, by simpa using a5, fun j hj hj' => (a6 j (by simpa using hj) hj').unsh hn (by simp), a7⟩
  | dead => trivial
  | free => cases x <;> exact h
  | pin kk es clock =>
    cases x with
    | blk c =>
      obtain ⟨ents, h1, h2, h3, h4⟩ := h
      exact ⟨ents, h1, by simpa using h2, fun j hj hj' => by
        have := h3 j (by simpa using hj) hj'
        simp only [List.getElem_map] at this
        exact ⟨this.1, this.2.1, this.2.2.unsh hn rfl⟩, h4⟩
    | tok u => exact h.elim
  | iter m s seen l =>
    cases x with
    | blk c =>
      obtain ⟨cm, h1, h2⟩ := h
      exact ⟨cm, by rw [get_shift hn] at h1; exact h1, h2⟩
    | tok u => exact h.elim
end

section
variable {P : Program} {G : List (Nat × D)}

theorem scall_shift {f : FuncId} {args : List SV} {H0 : List SObj} {K : SV → List SObj → Prop} (h : SCall P G f args H0 K) (X : List SObj) :
    SCall P G f (args.map (SV.sh X.length)) (X ++ H0.map (SObj.sh X.length)) (fun r H' => ∃ r1 H1, K r1 H1 ∧ r = r1.sh X.length ∧ H' = X ++ H1.map (SObj.sh X.length)) := by
  intro w I β vs hH hargs
  obtain ⟨βX, β0, rfl, hn⟩ : ∃ βX β0, β = βX ++ β0 ∧ βX.length = X.length := ⟨β.take X.length, β.drop X.length, by simp, by have := hH.len; simp at this ⊢; omega⟩
  have hl0 : β0.length = H0.length := by have := hH.len; simp at this; omega
  have getH : ∀ b, (X ++ H0.map (SObj.sh X.length))[b + X.length]? = (H0[b]?).map (SObj.sh X.length) := fun b => by
    rw [List.getElem?_append_right (by omega), show b + X.length - X.length = b by omega, List.getElem?_map]
  have up : ∀ b c, owns H0 β0 b c → owns (X ++ H0.map (SObj.sh X.length)) (βX ++ β0) (b + X.length) c := by
    rintro b c ⟨o, x, h1, h2, h3, h4⟩
    exact ⟨o.sh X.length, x, by rw [getH, h1]; rfl, fun e => h2 (SObj.sh_dead.1 e), by rw [get_shift hn]; exact h3, h4⟩
  have hH0 : HeapOK G w I β0 H0 := by
    refine ⟨hl0, fun b o x h1 h2 => ?_, fun b b' c h1 h2 => ?_, hH.inI, hH.glob⟩
    · exact (hH.obj (b + X.length) (o.sh X.length) x (by rw [getH, h1]; rfl) (by rw [get_shift hn]; exact h2)).unsh hn
    · have := hH.inj _ _ c (up b c h1) (up b' c h2); omega
  have hargs0 : Reps w I β0 vs.toList args := by
    refine ⟨by simpa using hargs.len, fun j v s hv hs => ?_⟩
    exact (hargs.rep j v (s.sh X.length) hv (by rw [List.getElem?_map, hs]; rfl)).unsh hn rfl
  refine (h w I β0 vs hH0 hargs0).mono ?_
  rintro e w' ⟨v, r, I', β', H', rfl, hK, hv, hH', hext⟩
  have hl' : β'.length = H'.length := hH'.len
  have getH' : ∀ b, (X ++ H'.map (SObj.sh X.length))[b + X.length]? = (H'[b]?).map (SObj.sh X.length) := fun b => by
    rw [List.getElem?_append_right (by omega), show b + X.length - X.length = b by omega, List.getElem?_map]
  -- what an object of the whole heap is
  have split : ∀ b c, owns (X ++ H'.map (SObj.sh X.length)) (βX ++ β') b c → (b < X.length ∧ owns (X ++ H0.map (SObj.sh X.length)) (βX ++ β0) b c) ∨ (X.length ≤ b ∧ owns H' β' (b - X.length) c) := by
    rintro b c ⟨o, x, h1, h2, h3, h4⟩
    rcases Nat.lt_or_ge b X.length with hb | hb
    · rw [List.getElem?_append_left hb] at h1
      rw [List.getElem?_append_left (by omega)] at h3
      exact .inl ⟨hb, o, x, by rw [List.getElem?_append_left hb]; exact h1, h2, by rw [List.getElem?_append_left (by omega)]; exact h3, h4⟩
    · obtain ⟨i, rfl⟩ : ∃ i, b = i + X.length := ⟨b - X.length, by omega⟩
      rw [getH'] at h1
      rw [get_shift hn] at h3
      cases ho : H'[i]? with
      | none => rw [ho] at h1; cases h1
      | some o' =>
        rw [ho] at h1; cases h1
        refine .inr ⟨hb, o', x, ?_, fun e => h2 (SObj.sh_dead.2 e), ?_, h4⟩
        · rw [show i + X.length - X.length = i by omega]; exact ho
        · rw [show i + X.length - X.length = i by omega]; exact h3
  have ownX : ∀ b c, b < X.length → owns (X ++ H0.map (SObj.sh X.length)) (βX ++ β0) b c → c < w.heap.size ∧ ∀ b', ¬ owns H0 β0 b' c := by
    intro b c hb ho
    refine ⟨hH.owns_lt ho, fun b' ho' => ?_⟩
    have := hH.inj _ _ c ho (up b' c ho'); omega
  have keep : Keeps (βX ++ β0).length (βX ++ β0) (βX ++ β') := fun b x hb hx => by
    rcases Nat.lt_or_ge b X.length with hb' | hb'
    · rw [List.getElem?_append_left (by omega)] at hx
      exact ⟨x, by rw [List.getElem?_append_left (by omega)]; exact hx, x.le_refl⟩
    · obtain ⟨i, rfl⟩ : ∃ i, b = i + X.length := ⟨b - X.length, by omega⟩
      rw [get_shift hn] at hx
      obtain ⟨y, hy, hle⟩ := hext.keep i x (by rw [← hl0]; exact lt_of_getElem? hx) hx
      exact ⟨y, by rw [get_shift hn]; exact hy, hle⟩
  have hheap : HeapOK G w' I' (βX ++ β') (X ++ H'.map (SObj.sh X.length)) := by
    refine ⟨by simp; omega, fun b o x h1 h2 => ?_, fun b b' c h1 h2 => ?_, hH'.inI, hH'.glob⟩
    · rcases Nat.lt_or_ge b X.length with hb | hb
      · rw [List.getElem?_append_left hb] at h1
        rw [List.getElem?_append_left (by omega)] at h2
        have hob := hH.obj b o x (by rw [List.getElem?_append_left hb]; exact h1) (by rw [List.getElem?_append_left (by omega)]; exact h2)
        by_cases hd : o = .dead
        · subst hd; trivial
        · have hox : ∀ c, x.block = some c → c < w.heap.size ∧ ∀ b', ¬ owns H0 β0 b' c := fun c hc =>
            ownX b c hb ⟨o, x, by rw [List.getElem?_append_left hb]; exact h1, hd, by rw [List.getElem?_append_left (by omega)]; exact h2, hc⟩
          refine hob.mono (fun c hc => hext.old c (hox c hc).1 (hox c hc).2) hext.imm hext.cell keep (fun c o' hc hi => ?_)
          rcases hext.new c o' hi with h3 | ⟨b', h3⟩ | h3
          · exact h3
          · exact absurd h3 ((hox c hc).2 b')
          · have := (hox c hc).1; omega
      · obtain ⟨i, rfl⟩ : ∃ i, b = i + X.length := ⟨b - X.length, by omega⟩
        rw [getH'] at h1
        rw [get_shift hn] at h2
        cases ho : H'[i]? with
        | none => rw [ho] at h1; cases h1
        | some o' =>
          rw [ho] at h1; cases h1
          exact (hH'.obj i o' x ho h2).sh hn
    · have cross : ∀ b b' c, b < X.length → owns (X ++ H0.map (SObj.sh X.length)) (βX ++ β0) b c → owns H' β' b' c → False := by
        intro b b' c hb h1 h2
        obtain ⟨l1, l2⟩ := ownX b c hb h1
        rcases hext.own b' c h2 with ⟨b'', h3⟩ | h3
        · exact l2 b'' h3
        · omega
      rcases split b c h1 with ⟨a1, a2⟩ | ⟨a1, a2⟩ <;> rcases split b' c h2 with ⟨c1, c2⟩ | ⟨c1, c2⟩
      · exact hH.inj b b' c a2 c2
      · exact (cross _ _ c a1 a2 c2).elim
      · exact (cross _ _ c c1 c2 a2).elim
      · have := hH'.inj _ _ c a2 c2; omega
  refine ⟨v, r.sh X.length, I', βX ++ β', _, rfl, ⟨r, H', hK, rfl, rfl⟩, hv.sh hn, hheap, hext.imm, hext.cell, keep.mono (by have := hH.len; omega), fun c hc hno => hext.old c hc (fun b hb => hno _ (up b c hb)), fun b c ho => ?_, fun c o hi => ?_, hext.size, hext.env⟩
  · rcases split b c ho with ⟨_, a2⟩ | ⟨_, a2⟩
    · exact .inl ⟨b, a2⟩
    · rcases hext.own _ c a2 with ⟨b', h3⟩ | h3
      · exact .inl ⟨_, up b' c h3⟩
      · exact .inr h3
  · rcases hext.new c o hi with h3 | ⟨b, h3⟩ | h3
    · exact .inl h3
    · exact .inr (.inl ⟨_, up b c h3⟩)
    · exact .inr (.inr h3)
end
end Go.Sh

/- The shadow machine, part 41: a contract over some objects holds over every heap that has them, at whatever places. -/
namespace Go.Sh

/-- other places -/
def SV.ren (σ : Nat → Nat) : SV → SV
  | .any => .any
  | .imm d => .imm d
  | .ptr b o => .ptr (σ b) o
  | .osl b o l => .osl (σ b) o l
  | .asl b kk rows => .asl (σ b) kk rows
  | .map b => .map (σ b)
  | .yld b => .yld (σ b)
  | .vec b m => .vec (σ b) m
  | .vptr b m o => .vptr (σ b) m o
  | .fn f x y => .fn f (renL σ x) (renL σ y)
  | .iface t v => .iface t (v.ren σ)
  | .agg cs => .agg (renL σ cs)
  | .tup vs => .tup (renL σ vs)
where renL (σ : Nat → Nat) : List SV → List SV
  | [] => []
  | s :: r => s.ren σ :: renL σ r

theorem renL_eq (σ : Nat → Nat) : ∀ l : List SV, SV.ren.renL σ l = l.map (SV.ren σ)
  | [] => rfl
  | s :: r => by simp only [SV.ren.renL, List.map_cons, renL_eq σ r]

def SObj.ren (σ : Nat → Nat) : SObj → SObj
  | .cells cs => .cells (cs.map (SV.ren σ))
  | .mapI kk es => .mapI kk (es.map fun e => (e.1, e.2.ren σ))
  | .mapS es => .mapS (es.map fun e => (e.1, e.2.ren σ))
  | .loop s f m t ps asg bd => .loop s f m (t.map fun e => (e.1, e.2.ren σ)) ps asg bd
  | .vec kk cs => .vec kk (cs.map (SV.ren σ))
  | .pin kk es c => .pin kk (es.map fun e => (e.1, e.2.1, e.2.2.ren σ)) c
  | .iter m s seen l => .iter (σ m) s seen l
  | .tok kk m => .tok kk m
  | .dead => .dead
  | .free => .free

theorem SObj.ren_dead {σ : Nat → Nat} {o : SObj} : o.ren σ = .dead ↔ o = .dead := by cases o <;> simp [SObj.ren]

section
variable {w : World} {I : Imm} {β β0 : List Bnd} {σ : Nat → Nat} {m0 : Nat}

theorem Rep.ren {v : Value} {s : SV} (hg : ∀ b x, β0[b]? = some x → β[σ b]? = some x) (h : Rep w I β0 v s) : Rep w I β v (s.ren σ) := by
  induction h with
  | any v => exact .any v
  | imm h => exact .imm h
  | ptr b c off h => exact .ptr _ c off (hg _ _ h)
  | osl b c off len cap h h1 h2 => exact .osl _ c off len cap (hg _ _ h) h1 h2
  | asl b kk rows v u m h hu hs hle heq => exact .asl _ kk rows v u m h (hg _ _ hu) hs hle heq
  | map b c h => exact .map _ c (hg _ _ h)
  | yld b c h => exact .yld _ c (hg _ _ h)
  | vec b m v u q h hs hle hv heq => exact .vec _ m v u q (hg _ _ h) hs hle hv heq
  | vptr b m off v a q cap h hle hv heq => exact .vptr _ m off v a q cap (hg _ _ h) hle hv heq
  | fn f fs cs first captured h1 h2 _ _ ih1 ih2 =>
    simp only [SV.ren, renL_eq]
    exact .fn f fs cs _ _ (by simpa using h1) (by simpa using h2) (fun j hj hj' => by simpa using ih1 j (by simpa using hj) hj') (fun j hj hj' => by simpa using ih2 j (by simpa using hj) hj')
  | iface t v s _ ih => exact .iface t v _ ih
  | agg vs cs h1 _ ih =>
    simp only [SV.ren, renL_eq]
    exact .agg vs _ (by simpa using h1) (fun j hj hj' => by simpa using ih j (by simpa using hj) hj')
  | tup vs ss h1 _ ih =>
    simp only [SV.ren, renL_eq]
    exact .tup vs _ (by simpa using h1) (fun j hj hj' => by simpa using ih j (by simpa using hj) hj')

theorem Rep.unren {v : Value} {s' : SV} (hg : ∀ b x, b < m0 → β[σ b]? = some x → β0[b]? = some x) (h : Rep w I β v s') : ∀ {s : SV}, s' = s.ren σ → s.under m0 = true → Rep w I β0 v s := by
  induction h with
  | any v => intro s hs hb; cases s <;> simp [SV.ren] at hs; exact .any v
  | imm h => intro s hs hb; cases s <;> simp [SV.ren] at hs; subst hs; exact .imm h
  | ptr b c off h => intro s hs hb; cases s <;> simp [SV.ren] at hs; obtain ⟨rfl, rfl⟩ := hs; exact .ptr _ c _ (hg _ _ (by simpa [SV.under] using hb) h)
  | osl b c off len cap h h1 h2 => intro s hs hb; cases s <;> simp [SV.ren] at hs; obtain ⟨rfl, rfl, rfl⟩ := hs; exact .osl _ c _ _ cap (hg _ _ (by simpa [SV.under] using hb) h) h1 h2
  | asl b kk rows v u m h hu hs' hle heq => intro s hs hb; cases s <;> simp [SV.ren] at hs; obtain ⟨rfl, rfl, rfl⟩ := hs; exact .asl _ _ _ v u m h (hg _ _ (by simpa [SV.under] using hb) hu) hs' hle heq
  | map b c h => intro s hs hb; cases s <;> simp [SV.ren] at hs; subst hs; exact .map _ c (hg _ _ (by simpa [SV.under] using hb) h)
  | yld b c h => intro s hs hb; cases s <;> simp [SV.ren] at hs; subst hs; exact .yld _ c (hg _ _ (by simpa [SV.under] using hb) h)
  | vec b m v u q h hs' hle hv heq => intro s hs hb; cases s <;> simp [SV.ren] at hs; obtain ⟨rfl, rfl⟩ := hs; exact .vec _ _ v u q (hg _ _ (by simpa [SV.under] using hb) h) hs' hle hv heq
  | vptr b m off v a q cap h hle hv heq => intro s hs hb; cases s <;> simp [SV.ren] at hs; obtain ⟨rfl, rfl, rfl⟩ := hs; exact .vptr _ _ _ v a q cap (hg _ _ (by simpa [SV.under] using hb) h) hle hv heq
  | fn f fs cs first captured h1 h2 _ _ ih1 ih2 =>
    intro s hs hb
    cases s <;> simp [SV.ren, renL_eq] at hs
    obtain ⟨rfl, rfl, rfl⟩ := hs
    exact .fn _ fs cs _ _ (by simpa using h1) (by simpa using h2) (fun j hj hj' => ih1 j (by simpa using hj) hj' (by simp) (allUnder_get (by simp [SV.under] at hb; exact hb.1) j hj)) (fun j hj hj' => ih2 j (by simpa using hj) hj' (by simp) (allUnder_get (by simp [SV.under] at hb; exact hb.2) j hj))
  | iface t v s _ ih => intro s hs hb; cases s <;> simp [SV.ren] at hs; obtain ⟨rfl, rfl⟩ := hs; exact .iface _ v _ (ih rfl (by simpa [SV.under] using hb))
  | agg vs cs h1 _ ih =>
    intro s hs hb
    cases s <;> simp [SV.ren, renL_eq] at hs
    subst hs
    exact .agg vs _ (by simpa using h1) (fun j hj hj' => ih j (by simpa using hj) hj' (by simp) (allUnder_get (by simpa [SV.under] using hb) j hj))
  | tup vs ss h1 _ ih =>
    intro s hs hb
    cases s <;> simp [SV.ren, renL_eq] at hs
    subst hs
    exact .tup vs _ (by simpa using h1) (fun j hj hj' => ih j (by simpa using hj) hj' (by simp) (allUnder_get (by simpa [SV.under] using hb) j hj))

theorem tget_ren (σ : Nat → Nat) (t : List (Nat × SV)) (m : Nat) : tget (t.map fun e => (e.1, e.2.ren σ)) m = (tget t m).ren σ := by
  induction t with
  | nil => rfl
  | cons x t ih =>
    simp only [List.map_cons, tget]
    split
    · rfl
    · exact ih

theorem ObjOK.ren {o : SObj} {x : Bnd} (hg : ∀ b x, β0[b]? = some x → β[σ b]? = some x) (h : ObjOK w I β0 o x) : ObjOK w I β (o.ren σ) x := by
  cases o with
  | cells cs =>
    cases x with
    | blk c =>
      obtain ⟨vs, T, h1, h2, h3, h4⟩ := h
      exact ⟨vs, T, h1, by simpa using h2, fun j hj hj' => by simpa using (h3 j (by simpa using hj) hj').ren hg, h4⟩
    | tok u => exact h.elim
  | mapI kk es =>
    cases x with
    | blk c =>
      obtain ⟨ents, clock, h1, h2, h3, h4⟩ := h
      exact ⟨ents, clock, h1, by simpa using h2, fun j hj hj' => by
        have := h3 j (by simpa using hj) hj'
        simp only [List.getElem_map]
        exact ⟨this.1, this.2.ren hg⟩, h4⟩
    | tok u => exact h.elim
  | mapS es =>
    cases x with
    | blk c =>
      obtain ⟨ents, clock, h1, h2, h3, h4⟩ := h
      exact ⟨ents, clock, h1, by simpa using h2, fun j hj hj' => by
        have := h3 j (by simpa using hj) hj'
        simp only [List.getElem_map]
        exact ⟨this.1, this.2.ren hg⟩, h4⟩
    | tok u => exact h.elim
  | tok kk m => cases x <;> exact h
  | loop s f m t ps asg bd =>
    cases x with
    | blk c =>
      obtain ⟨r, a1, a2, a3, a4, a5, a6, a7, a8, a9⟩ := h
      exact ⟨r, a1, a2, a3, a4, a5, a6, a7, fun m => by rw [tget_ren]; exact (a8 m).ren hg, a9⟩
    | tok u => exact h.elim
  | vec kk cs =>
    cases x with
    | blk c => exact h.elim
    | tok u =>
      rcases h with ⟨rfl, h⟩ | ⟨c, m, cap, vs, T, rfl, a1, a2, a3, a4, a5, a6, a7⟩
      · exact .inl ⟨rfl, h⟩
      · exact .inr ⟨c, m, cap, vs, T, rfl, a1, a2, a3, a4, by simpa using a5, fun j hj hj' => by simpa using (a6 j (by simpa using hj) hj').ren hg, a7⟩
  | dead => trivial
  | free => cases x <;> exact h
  | pin kk es clock =>
    cases x with
    | blk c =>
      obtain ⟨ents, h1, h2, h3, h4⟩ := h
      exact ⟨ents, h1, by simpa using h2, fun j hj hj' => by
        have := h3 j (by simpa using hj) hj'
        simp only [List.getElem_map]
        exact ⟨this.1, this.2.1, this.2.2.ren hg⟩, h4⟩
    | tok u => exact h.elim
  | iter m s seen l =>
    cases x with
    | blk c =>
      obtain ⟨cm, h1, h2⟩ := h
      exact ⟨cm, hg _ _ h1, h2⟩
    | tok u => exact h.elim

theorem ObjOK.unren {o : SObj} {x : Bnd} (hg : ∀ b x, b < m0 → β[σ b]? = some x → β0[b]? = some x) (h : ObjOK w I β (o.ren σ) x) (hu : o.under m0 = true) : ObjOK w I β0 o x := by
  cases o with
  | cells cs =>
    cases x with
    | blk c =>
      obtain ⟨vs, T, h1, h2, h3, h4⟩ := h
      exact ⟨vs, T, h1, by simpa using h2, fun j hj hj' => (h3 j (by simpa using hj) hj').unren hg (by simp) (allUnder_get hu j hj), h4⟩
    | tok u => exact h.elim
  | mapI kk es =>
    cases x with
    | blk c =>
      obtain ⟨ents, clock, h1, h2, h3, h4⟩ := h
      exact ⟨ents, clock, h1, by simpa using h2, fun j hj hj' => by
        have := h3 j (by simpa using hj) hj'
        simp only [List.getElem_map] at this
        exact ⟨this.1, this.2.unren hg rfl (List.all_eq_true.1 hu _ (List.getElem_mem hj))⟩, h4⟩
    | tok u => exact h.elim
  | mapS es =>
    cases x with
    | blk c =>
      obtain ⟨ents, clock, h1, h2, h3, h4⟩ := h
      exact ⟨ents, clock, h1, by simpa using h2, fun j hj hj' => by
        have := h3 j (by simpa using hj) hj'
        simp only [List.getElem_map] at this
        exact ⟨this.1, this.2.unren hg rfl (List.all_eq_true.1 hu _ (List.getElem_mem hj))⟩, h4⟩
    | tok u => exact h.elim
  | tok kk m => cases x <;> exact h
  | loop s f m t ps asg bd =>
    cases x with
    | blk c =>
      obtain ⟨r, a1, a2, a3, a4, a5, a6, a7, a8, a9⟩ := h
      exact ⟨r, a1, a2, a3, a4, a5, a6, a7, fun m => (a8 m).unren hg (tget_ren σ t m) (tget_under hu m), a9⟩
    | tok u => exact h.elim
  | vec kk cs =>
    cases x with
    | blk c => exact h.elim
    | tok u =>
      rcases h with ⟨h0, h⟩ | ⟨c, m, cap, vs, T, rfl, a1, a2, a3, a4, a5, a6, a7⟩
      · exact .inl ⟨by simpa using h0, h⟩
      · exact .inr ⟨c, m, cap, vs, T, rfl, a1, a2, a3, a4, by simpa using a5, fun j hj hj' => (a6 j (by simpa using hj) hj').unren hg (by simp) (allUnder_get hu j hj), a7⟩
  | dead => trivial
  | free => cases x <;> exact h
  | pin kk es clock =>
    cases x with
    | blk c =>
      obtain ⟨ents, h1, h2, h3, h4⟩ := h
      exact ⟨ents, h1, by simpa using h2, fun j hj hj' => by
        have := h3 j (by simpa using hj) hj'
        simp only [List.getElem_map] at this
        exact ⟨this.1, this.2.1, this.2.2.unren hg rfl (List.all_eq_true.1 hu _ (List.getElem_mem hj))⟩, h4⟩
    | tok u => exact h.elim
  | iter m s seen l =>
    cases x with
    | blk c =>
      obtain ⟨cm, h1, h2⟩ := h
      exact ⟨cm, hg _ _ (by simpa [SObj.under] using hu) h1, h2⟩
    | tok u => exact h.elim
end


section
variable {P : Program} {G : List (Nat × D)}

end
end Go.Sh

/- The shadow machine, part 42: own slices of any length; calls that return a function over a new box; scopes. -/
namespace Go.Sh
mutual
theorem SV.under_mono {m n : Nat} (h : m ≤ n) : ∀ s : SV, s.under m = true → s.under n = true
  | .any, _ => rfl
  | .imm _, _ => rfl
  | .ptr b _, hs => by simp only [SV.under, decide_eq_true_eq] at hs ⊢; omega
  | .osl b _ _, hs => by simp only [SV.under, decide_eq_true_eq] at hs ⊢; omega
  | .asl b _ _, hs => by simp only [SV.under, decide_eq_true_eq] at hs ⊢; omega
  | .map b, hs => by simp only [SV.under, decide_eq_true_eq] at hs ⊢; omega
  | .yld b, hs => by simp only [SV.under, decide_eq_true_eq] at hs ⊢; omega
  | .vec b _, hs => by simp only [SV.under, decide_eq_true_eq] at hs ⊢; omega
  | .vptr b _ _, hs => by simp only [SV.under, decide_eq_true_eq] at hs ⊢; omega
  | .fn _ x y, hs => by
    simp only [SV.under, Bool.and_eq_true] at hs ⊢
    exact ⟨allUnder_mono h x hs.1, allUnder_mono h y hs.2⟩
  | .iface _ v, hs => by
    simp only [SV.under] at hs ⊢
    exact SV.under_mono h v hs
  | .agg cs, hs => by
    simp only [SV.under] at hs ⊢
    exact allUnder_mono h cs hs
  | .tup vs, hs => by
    simp only [SV.under] at hs ⊢
    exact allUnder_mono h vs hs
theorem allUnder_mono {m n : Nat} (h : m ≤ n) : ∀ l : List SV, SV.under.allUnder m l = true → SV.under.allUnder n l = true
  | [], _ => rfl
  | s :: r, hs => by
    simp only [SV.under.allUnder, Bool.and_eq_true] at hs ⊢
    exact ⟨SV.under_mono h s hs.1, allUnder_mono h r hs.2⟩
end
theorem SObj.under_mono {m n : Nat} (h : m ≤ n) (o : SObj) (ho : o.under m = true) : o.under n = true := by
  cases o with
  | cells cs => exact allUnder_mono h cs ho
  | mapI _ es =>
    simp only [SObj.under, List.all_eq_true] at ho ⊢
    exact fun e he => SV.under_mono h _ (ho e he)
  | mapS es =>
    simp only [SObj.under, List.all_eq_true] at ho ⊢
    exact fun e he => SV.under_mono h _ (ho e he)
  | loop s f n t ps a b =>
    simp only [SObj.under, List.all_eq_true] at ho ⊢
    exact fun e he => SV.under_mono h _ (ho e he)
  | vec _ cs => exact allUnder_mono h cs ho
  | pin _ es _ =>
    simp only [SObj.under, List.all_eq_true] at ho ⊢
    exact fun e he => SV.under_mono h _ (ho e he)
  | iter b _ _ _ => simp only [SObj.under, decide_eq_true_eq] at ho ⊢; omega
  | tok _ _ => rfl
  | dead => rfl
  | free => rfl
theorem allObj_mono {m n : Nat} (h : m ≤ n) {l : List SObj} (hl : l.all (SObj.under m) = true) : l.all (SObj.under n) = true := by
  simp only [List.all_eq_true] at hl ⊢
  exact fun o ho => SObj.under_mono h o (hl o ho)
theorem allU_append (N : Nat) (a b : List SV) (ha : SV.under.allUnder N a = true) (hb : SV.under.allUnder N b = true) : SV.under.allUnder N (a ++ b) = true := by
  induction a with
  | nil => exact hb
  | cons x a ih => simp only [SV.under.allUnder, Bool.and_eq_true, List.cons_append] at ha ⊢; exact ⟨ha.1, ih ha.2⟩
section
variable {P : Program} {G : List (Nat × D)} {fn : Func} {rd : Bool} {E : En P G fn rd} {t : List (Nat × SV)} {H K : List SObj} {k : List Item} {m : Nat} {all : Array Oper} {rest : List Oper} {done : List Eff} {o : Oper}
theorem sw_scope {c : Code} (h : SW E (.code c :: .inScope c :: k) t H) : SW E (.code (.scope c) :: k) t H := sw_step (fun _ _ _ => step_lone_go (by simp [stepG, stepG.exec, En.at, atR, Frame.at])) h
/-- x[i] on an own slice -/
theorem swr_own {ty e n : Nat} {x ix : Operand} {b off len i : Nat} {mm : Int} {kk : IntKind} (hop : o.op = .indexAddr ty x ix)
    (hw : swant all t o.guard = some true) (hd : dstOK fn.ntmps o.dst = true) (hx : evalS G t x = .osl b off len) (hi : evalS G t ix = .imm (.val (.int kk mm)))
    (hu : P.underlying ty = some (.slice e)) (hn : psize P e = some n) (hmm : mm = (i : Int)) (hr : i < len)
    (h : SWr E all rest k (tput t o.dst (.ptr b (off + i * n))) H) : SWr E all (o :: rest) k t H :=
  swr_op hw hd (by
    subst hmm
    rw [hop]
    simp only [sop, hi, sindexAddr, hu, hn, hx]
    rw [if_pos (by omega)]
    simp) (Nat.le_refl _) h

theorem run_make00 {t e kk by_ : Nat} {z : Value} {k1 k2 : IntKind} (hu : P.underlying t = some (.slice e)) (hk : psize P e = some kk) (hby : pbytes P e = some by_) (w : World) :
    (Instr.makeSlice t (.int k1 0) (.int k2 0)).run P w = .ok (.slice (some ⟨w.heap.size, 0, none⟩) 0 0) (w.alloc (.cells ((Array.range (0 * kk)).map (z.cells[· % z.cells.size]!)) e)) := by
  have hinfo : ∀ w : World, (typeInfo e).run P w = .ok ((P.info? e).getD default) w ∧ ((P.info? e).getD default).bytes = by_ := by
    intro w
    unfold pbytes at hby
    cases hi : P.info? e with
    | none => simp [hi] at hby
    | some i => simp [hi] at hby; simp [typeInfo, hi, hby]
  have wc := wrap_small (c := 0) (by omega) (by omega)
  have hinf := hinfo w
  simp only [Instr.makeSlice, Sem.run_bind, run_underlying hu, Result.andThen_ok, asInt, asIntOf, Sem.run_pure, hinf.1, hinf.2, wc]
  rw [if_neg (by simp)]
  simp only [Sem.run_bind, Result.andThen_ok, run_askRoom, run_psize hk]
  have hn0 : (0 : Int).toNat * kk = 0 := by simp
  rw [if_pos hn0]
  have ha : ((Array.range ((0 : Int).toNat * kk)).map fun x => (#[] : Array Value)[x % (#[] : Array Value).size]!) = ((Array.range (0 * kk)).map (z.cells[· % z.cells.size]!)) := by
    apply Array.ext'; simp
  simp only [Sem.run_pure, Result.andThen_ok, newRow, Sem.run_bind, run_newObj, ha]
  rfl
theorem opRun_make00 {w : World} {I : Imm} {β : List Bnd} {ρ : Operand → Value} {ty e kk by_ : Nat} {lx cx : Operand} {k1 k2 : IntKind} (hop : o.op = .makeSlice ty lx cx) (hH : HeapOK G w I β H)
    (hl : Rep w I β (ρ lx) (.imm (.val (.int k1 0)))) (hc : Rep w I β (ρ cx) (.imm (.val (.int k2 0)))) (hu : P.underlying ty = some (.slice e)) (hk : psize P e = some kk) (hby : pbytes P e = some by_) :
    OpRun P G (execOp ρ o) w I β H (.osl H.length 0 0) (H ++ [.cells []]) := by
  obtain ⟨dst, op, type, pos, after, guard⟩ := o
  simp only at hop
  subst hop
  generalize hvl : ρ lx = vl at hl
  generalize hvc : ρ cx = vc at hc
  cases hl with | imm hl => cases hl with | val _ =>
  cases hc with | imm hc => cases hc with | val _ =>
  have hr := run_make00 (k1 := k1) (k2 := k2) (z := undef) hu hk hby w
  have hemp : ((Array.range (0 * kk)).map (undef.cells[· % undef.cells.size]!)) = #[] := by apply Array.ext'; simp
  rw [hemp] at hr
  obtain ⟨h1, h2, _⟩ := opRun_box (T := e) (vs := #[]) (cs := []) hH .nil
  have := OpRun.value (P := P) (H' := H ++ [.cells []]) hr (.osl H.length w.heap.size 0 0 0 (by rw [← hH.len]; simp) (Nat.le_refl _) (by unfold maxLen; omega)) h1 h2
  simp only [execOp, hvl, hvc]
  exact this

/-- make([]T, n), T of one cell -/
theorem swr_mk {ty e by_ : Nat} {z : Value} {lx cx : Operand} {n : Nat} {k1 k2 : IntKind} {l1 l2 : Int} {zz : SV} (hop : o.op = .makeSlice ty lx cx)
    (hw : swant all t o.guard = some true) (hd : dstOK fn.ntmps o.dst = true) (hl : evalS G t lx = .imm (.val (.int k1 l1))) (hc : evalS G t cx = .imm (.val (.int k2 l2)))
    (hu : P.underlying ty = some (.slice e)) (hk : psize P e = some 1) (hby : pbytes P e = some by_) (hz : pzero P e = some z) (hb : by_ ≤ 65536 ∧ z.cells.size = 1) (hzz : zcells z = [zz])
    (h1 : l1 = (n : Int)) (h2 : l2 = (n : Int)) (hn2 : n ≤ 1073741824)
    (h : SWr E all rest k (tput t o.dst (.osl H.length 0 n)) (H ++ [.cells (List.replicate n zz)])) : SWr E all (o :: rest) k t H := by
  subst h1 h2
  cases n with
  | zero =>
    refine swr_exec hw hd (fun c e => by rw [hop] at e; cases e) (by simp) (fun ρ w I β hH hev => ?_) h
    have a1 := hev lx
    have a2 := hev cx
    rw [hl] at a1
    rw [hc] at a2
    exact opRun_make00 hop hH a1 a2 hu hk hby
  | succ n =>
    refine swr_op (H' := H ++ [.cells (List.replicate (n + 1) zz)]) hw hd ?_ (by simp) h
    rw [hop]
    simp only [sop, hl, hc, smakeSlice, hu, hk, hby, hz]
    rw [if_pos ⟨hb.1, hb.2, by omega, by omega, Nat.le_refl _⟩, if_neg (by omega), if_pos trivial, hzz, flat_rep]
    rfl
theorem under_rep (N : Nat) {zz : SV} (h : zz.under N = true) : ∀ n, SV.under.allUnder N (List.replicate n zz) = true
  | 0 => rfl
  | n + 1 => by simp only [List.replicate_succ, SV.under.allUnder, h, under_rep N h n, Bool.and_self]
theorem swe_mk (nx : Nat) {ty e by_ : Nat} {z : Value} {lx cx : Operand} {n : Nat} {k1 k2 : IntKind} {l1 l2 : Int} {zz : SV} (hop : o.op = .makeSlice ty lx cx)
    (hw : swant all t o.guard = some true) (hd : dstOK fn.ntmps o.dst = true) (hl : evalS G t lx = .imm (.val (.int k1 l1))) (hc : evalS G t cx = .imm (.val (.int k2 l2)))
    (hu : P.underlying ty = some (.slice e)) (hk : psize P e = some 1) (hby : pbytes P e = some by_) (hz : pzero P e = some z) (hb : by_ ≤ 65536 ∧ z.cells.size = 1) (hzz : zcells z = [zz]) (hzu : ∀ N, zz.under N = true)
    (hm : m ≤ nx) (hnx : K[nx]? = some .dead) (h1 : l1 = (n : Int)) (h2 : l2 = (n : Int)) (hn2 : n ≤ 1073741824)
    (h : SWe E m all rest k (tput t o.dst (.osl nx 0 n)) (K.set nx (.cells (List.replicate n zz))) (done ++ [⟨.osl nx 0 n, [], some (nx, .cells (List.replicate n zz))⟩])) : SWe E m all (o :: rest) k t K done := by
  subst h1 h2
  cases n with
  | zero =>
    refine swe_val (e := ⟨.osl nx 0 0, [], some (nx, .cells [])⟩) ⟨hd, .inr ⟨hw, fun K' hl' ha => ?_⟩⟩ h
    intro ρ w I β hH hph hops
    have a1 := hops lx (by rw [hop]; simp [Op.operands])
    have a2 := hops cx (by rw [hop]; simp [Op.operands])
    rw [hl] at a1
    rw [hc] at a2
    obtain ⟨q, v, w', I', β1, g1, g2, g3, g4, g5⟩ := opRun_make00 hop hH a1 a2 hu hk hby
    have hnx' : K'[nx]? = some .dead := by rw [ha nx (.inr ⟨_, rfl⟩)]; exact hnx
    obtain ⟨β2, q1, q2⟩ := new_place (m := m) hm hnx' hH (hph nx hm hnx') g3 g4 g5 (by simp [SV.isNew]) rfl
    simp only [SV.mv, if_true] at q1
    exact .inl ⟨q, v, w', I', β2, g1, g2, q1, q2⟩
  | succ n =>
    have := swe_new (E := E) (m := m) (all := all) (rest := rest) (k := k) (t := t) (K := K) (done := done) nx (r := .osl K.length 0 (n + 1)) (ob := .cells (List.replicate (n + 1) zz)) hw hd hm hnx (by simp [SV.isNew]) (under_rep _ (hzu _) _)
      (fun K' hl' => by
        rw [hop]
        simp only [sop, hl, hc, smakeSlice, hu, hk, hby, hz]
        rw [if_pos ⟨hb.1, hb.2, by omega, by omega, Nat.le_refl _⟩, if_neg (by omega), if_pos trivial, hzz, flat_rep, hl']
        rfl)
    simp only [SV.mv, if_true] at this
    exact this h

/-- the contract of a function that returns a function over a new box -/
def SNewFn (P : Program) (G : List (Nat × D)) (f : FuncId) (args : List SV) (g : FuncId) (cs : List SV) : Prop :=
  ∀ H, SCall P G f args H (fun r' H' => r' = .fn (.func g) [] [.ptr H.length 0] ∧ H' = H ++ [.cells cs])
theorem swr_callFn {fx : Operand} {args : Array Operand} {tys : Array TypeId} {f g : FuncId} {first captured cs : List SV} (hop : o.op = .call ⟨.value fx, args, tys⟩) (hw : swant all t o.guard = some true) (hd : dstOK fn.ntmps o.dst = true)
    (hf : evalS G t fx = .fn (.func f) first captured) (hb : hasBody P f = true) {argv : List SV} (hargs : first ++ args.toList.map (evalS G t) ++ captured = argv) (hc : SNewFn P G f argv g cs)
    (h : SWr E all rest k (tput t o.dst (.fn (.func g) [] [.ptr H.length 0])) (H ++ [.cells cs])) : SWr E all (o :: rest) k t H :=
  swr_call hop hw hd hf hb hargs ((hc H).mono fun r' H' ⟨e1, e2⟩ => by subst e1 e2; exact ⟨by simp, h⟩)
theorem swe_callFn (nx : Nat) {fx : Operand} {args : Array Operand} {tys : Array TypeId} {f g : FuncId} {first captured cs : List SV} (hop : o.op = .call ⟨.value fx, args, tys⟩) (hw : swant all t o.guard = some true) (hd : dstOK fn.ntmps o.dst = true)
    (hf : evalS G t fx = .fn (.func f) first captured) (hb : hasBody P f = true) {argv : List SV} (hargs : first ++ args.toList.map (evalS G t) ++ captured = argv) (hm : m ≤ nx) (hnx : K[nx]? = some .dead) (hcs : SV.under.allUnder K.length cs = true) (hc : SNewFn P G f argv g cs)
    (h : SWe E m all rest k (tput t o.dst (.fn (.func g) [] [.ptr nx 0])) (K.set nx (.cells cs)) (done ++ [⟨.fn (.func g) [] [.ptr nx 0], [], some (nx, .cells cs)⟩])) : SWe E m all (o :: rest) k t K done := by
  refine swe_val (e := ⟨.fn (.func g) [] [.ptr nx 0], [], some (nx, .cells cs)⟩) ⟨hd, .inr ⟨hw, fun K' hl' ha => ?_⟩⟩ h
  intro ρ w I β hH hph hops
  have hmem : ∀ x, x = fx ∨ x ∈ args.toList → x ∈ o.op.operands := fun x hx => by rw [hop]; rcases hx with rfl | hx <;> simp_all [Op.operands, Call.operands]
  have hfr := hops fx (hmem fx (.inl rfl))
  rw [hf] at hfr
  generalize hfv : ρ fx = fv at hfr
  cases hfr with
  | fn _ fs cps _ _ l1 l2 r1 r2 =>
  have hrun : (execOp ρ o).run P w = .ok (.enter f (fs ++ args.map ρ ++ cps)) w := by
    obtain ⟨dst, op, type, pos, after, guard⟩ := o
    simp only at hop
    subst hop
    simp only [execOp, resolve, hfv, Deferred.ofValue, Sem.run_bind, Sem.run_pure, Result.andThen_ok, invoke]
    exact run_callFunc hb
  have hreps : Reps w I β (fs ++ args.map ρ ++ cps).toList argv := by
    rw [← hargs]
    have e1 : Reps w I β fs.toList first := .of_get l1 r1
    have e2 : Reps w I β (args.map ρ).toList (args.toList.map (evalS G t)) := by
      have : ∀ l : List Operand, (∀ x ∈ l, x ∈ args.toList) → Reps w I β (l.map ρ) (l.map (evalS G t)) := by
        intro l
        induction l with
        | nil => intro _; exact .nil
        | cons x l ihl => intro hl; exact .cons (hops x (hmem x (.inr (hl x (by simp))))) (ihl fun y hy => hl y (by simp [hy]))
      simpa using this args.toList (fun _ h => h)
    have e3 : Reps w I β cps.toList captured := .of_get l2 r2
    simpa using (e1.append e2).append e3
  have hnx' : K'[nx]? = some .dead := by rw [ha nx (.inr ⟨_, rfl⟩)]; exact hnx
  refine .inr ⟨f, _, hrun, (hc K' w I β _ hH hreps).mono ?_⟩
  rintro e w' ⟨v, r', I', β', H', rfl, ⟨rfl, rfl⟩, g1, g2, g3⟩
  cases g1 with
  | fn _ fs' cs' _ _ k1 k2 k3 k4 =>
  have hp := k4 0 (by simp) (by simp at k2; omega)
  simp only [List.getElem_cons_zero] at hp
  obtain ⟨β2, q1, q2⟩ := new_place (m := m) hm hnx' hH (hph nx hm hnx') hp g2 g3 (by simp [SV.isNew]) (by simp only [SObj.under]; rw [hl']; exact hcs)
  simp only [SV.mv, if_true] at q1
  refine ⟨_, I', β2, rfl, .fn _ fs' cs' [] [.ptr nx 0] k1 k2 (fun j h => by simp at h) (fun j h h' => ?_), q2⟩
  have : j = 0 := by simp at h; omega
  subst this
  exact q1
end
end Go.Sh

/- Priority of versions: expressions compared (contracts). -/
namespace Go.Proofs.YtblpjknmhajcgaaGreatDoor
open Go Go.Sh
set_option maxRecDepth 10000
set_option maxHeartbeats 4000000
variable (G : List (Nat × D))

mutual
def lenOK : Ex → Prop
  | .mk _ _ _ _ ps ks => ps.length ≤ 1000000 ∧ ks.length ≤ 1000000 ∧ lensOK ks
def lensOK : List Ex → Prop
  | [] => True
  | e :: r => lenOK e ∧ lensOK r
end
theorem lensOK_mem : ∀ {ks : List Ex}, lensOK ks → ∀ k ∈ ks, lenOK k
  | _ :: _, h, k, hk => by
    unfold lensOK at h
    rcases List.mem_cons.1 hk with rfl | hk
    · exact h.1
    · exact lensOK_mem h.2 k hk
theorem exsEq_len : ∀ {a b : List Ex}, a.length ≠ b.length → exsEq a b = false
  | [], [], h => by simp at h
  | [], _ :: _, _ => rfl
  | _ :: _, [], _ => rfl
  | x :: a, y :: b, h => by
    rw [exsEq, exsEq_len (a := a) (b := b) (by simpa using h), Bool.and_false]

theorem piecesEq_spec (a b : List Piece) (ha : a.length ≤ 1000000) (hb : b.length ≤ 1000000) :
    SPure Tryz.prog G 146 [.imm (.isl 3 (a.map Piece.cells)), .imm (.isl 3 (b.map Piece.cells))] (sB (decide (a.map Piece.key = b.map Piece.key))) := by
  refine spure_enter Tryz.func146 rfl (by rw [Tryz.ntmps146]; simp) rfl rfl ?_; intro E hH hK
  have hla : (a.map Piece.cells).length = a.length := by simp
  have hlb : (b.map Piece.cells).length = b.length := by simp
  (refine sgo_sound [777] 1000 ?_; conv => whnf)
  repeat' ((with_reducible first | refine bdec (fun h => ?_) (fun h => ?_) | refine bndec (fun h => ?_) (fun h => ?_) | refine bwtd (fun h => ?_) (fun h => ?_) | refine bwfd (fun h => ?_) (fun h => ?_) | refine bwtn (fun h => ?_) (fun h => ?_) | refine bwfn (fun h => ?_) (fun h => ?_) | refine bwtb (fun h => ?_) (fun h => ?_) | refine bwfb (fun h => ?_) (fun h => ?_) | refine bwt (fun h => ?_) (fun h => ?_) | refine bwf (fun h => ?_) (fun h => ?_) | refine bnt (fun h => ?_) (fun h => ?_) | refine bcase (fun h => ?_) (fun h => ?_)) <;> (conv => whnf))
  · have : decide (a.map Piece.key = b.map Piece.key) = false := by
      rw [decide_eq_false_iff_not]
      intro he
      have := congrArg List.length he
      simp only [List.length_map] at this
      omega
    rw [this] at hK
    exact hK _
  have hll : a.length = b.length := by omega
  refine sw_keep [0, 1, 11, 12, 13] ?_
  refine sw_each a (fun i (_ : Unit) => [(0, .imm (.isl 3 (a.map Piece.cells))), (1, .imm (.isl 3 (b.map Piece.cells))), (11, .imm (.isl 3 (a.map Piece.cells))), (12, sI (a.map Piece.cells).length), (13, sI i)]) (fun _ _ => [])
    (fun done _ _ => done.map Piece.key = (b.take done.length).map Piece.key) () (by simp) ?_ ?_
  · rintro _ h1
    (refine sgo_sound [777] 1000 ?_; conv => whnf)
    repeat' ((with_reducible first | refine bdec (fun h => ?_) (fun h => ?_) | refine bndec (fun h => ?_) (fun h => ?_) | refine bwtd (fun h => ?_) (fun h => ?_) | refine bwfd (fun h => ?_) (fun h => ?_) | refine bwtn (fun h => ?_) (fun h => ?_) | refine bwfn (fun h => ?_) (fun h => ?_) | refine bwtb (fun h => ?_) (fun h => ?_) | refine bwfb (fun h => ?_) (fun h => ?_) | refine bwt (fun h => ?_) (fun h => ?_) | refine bwf (fun h => ?_) (fun h => ?_) | refine bnt (fun h => ?_) (fun h => ?_) | refine bcase (fun h => ?_) (fun h => ?_)) <;> (conv => whnf))
    all_goals try (exfalso; omega)
    rw [hll, List.take_length] at h1
    rw [decide_eq_true h1] at hK
    exact hK _
  · rintro done x rest _ hda hdl h1 ih
    have hw := wrap_succ (n := done.length) (by omega)
    have hlt : done.length < b.length := by rw [← hll, hda]; simp
    obtain ⟨y, hy⟩ : ∃ y, b[done.length]? = some y := ⟨_, List.getElem?_eq_getElem hlt⟩
    (refine sgo_sound [777] 1000 ?_; conv => whnf)
    repeat' ((with_reducible first | refine bdec (fun h => ?_) (fun h => ?_) | refine bndec (fun h => ?_) (fun h => ?_) | refine bwtd (fun h => ?_) (fun h => ?_) | refine bwfd (fun h => ?_) (fun h => ?_) | refine bwtn (fun h => ?_) (fun h => ?_) | refine bwfn (fun h => ?_) (fun h => ?_) | refine bwtb (fun h => ?_) (fun h => ?_) | refine bwfb (fun h => ?_) (fun h => ?_) | refine bwt (fun h => ?_) (fun h => ?_) | refine bwf (fun h => ?_) (fun h => ?_) | refine bnt (fun h => ?_) (fun h => ?_) | refine bcase (fun h => ?_) (fun h => ?_)) <;> (conv => whnf))
    all_goals try (exfalso; omega)
    (refine swe_start 0 mixed rfl ?_; refine sgoe_sound [777] (nx := 0) ?_; conv => whnf)
    refine swe_index rfl rfl rfl rfl rfl rfl rfl (by simp) rfl  (row := x.cells) (by simp [hda]) ?_
    (refine sgoe_sound [777] (nx := 0) ?_; conv => whnf)
    refine swe_index rfl rfl rfl rfl rfl rfl rfl (by simp) rfl  (row := y.cells) (by simp [hy]) ?_
    (refine sgoe_sound [777] (nx := 0) ?_; conv => whnf)
    refine swe_sem rfl rfl (means_neq3 rfl rfl rfl rfl Tryz.stoodInHeld189 (by decide) (by decide) (by decide) rfl rfl rfl rfl rfl rfl Tryz.eqGuardType189) ?_
    have htk : b.take (done.length + 1) = b.take done.length ++ [y] := by rw [List.take_add_one, hy]; rfl
    by_cases he : Piece.key x = Piece.key y
    · have : (!(decide (x.lo = y.lo) && (decide (x.at_ = y.at_) && decide (x.slope = y.slope)))) = false := by
        simp only [Piece.key, Prod.mk.injEq] at he
        simp [he]
      rw [this]
      (refine sgoe_sound [777] (nx := 0) ?_; conv => whnf)
      (refine sgo_sound [777] 1000 ?_; conv => whnf)
      rw [hw]
      refine sw_kc [0, 1, 11, 12, 13] 0 (by simp [hH]) (by simp) rfl rfl (ih () ?_)
      rw [List.map_append, h1, List.length_append]
      show _ = List.map Piece.key (b.take (done.length + 1))
      rw [htk]
      simp [he]
    · have : (!(decide (x.lo = y.lo) && (decide (x.at_ = y.at_) && decide (x.slope = y.slope)))) = true := by
        simp only [Piece.key, Prod.mk.injEq] at he
        simp only [Bool.not_eq_true', Bool.and_eq_false_iff, decide_eq_false_iff_not]
        by_cases h2 : x.lo = y.lo
        · by_cases h3 : x.at_ = y.at_
          · exact .inr (.inr fun h4 => he ⟨h2, h3, h4⟩)
          · exact .inr (.inl h3)
        · exact .inl h2
      rw [this]
      (refine sgoe_sound [777] (nx := 0) ?_; conv => whnf)
      (refine sgo_sound [777] 1000 ?_; conv => whnf)
      have : decide (a.map Piece.key = b.map Piece.key) = false := by
        rw [decide_eq_false_iff_not]
        intro h2
        apply he
        have h3 : (a.map Piece.key)[done.length]? = some (Piece.key x) := by simp [hda]
        rw [h2, List.getElem?_map, hy] at h3
        exact (Option.some.inj h3).symm
      rw [this] at hK
      exact hK _

/-- expressions compared one by one -/
theorem eqFunc_spec (a b : List Ex) (hE : ∀ e ∈ a, ∀ e' ∈ b, SPure Tryz.prog G 109 [e.sv, e'.sv] (sB (exEq e e'))) (ha : a.length ≤ 1000000) (hb : b.length ≤ 1000000) :
    SPure Tryz.prog G 147 [.imm (.isl 6 (exprRows a)), .imm (.isl 6 (exprRows b)), .fn (.func 109) [] []] (sB (exsEq a b)) := by
  rw [exprRows_eq, exprRows_eq]
  refine spure_enter Tryz.func147 rfl (by rw [Tryz.ntmps147]; simp) rfl rfl ?_; intro E hH hK
  have hla : (a.map Ex.cells).length = a.length := by simp
  have hlb : (b.map Ex.cells).length = b.length := by simp
  (refine sgo_sound [777] 1000 ?_; conv => whnf)
  repeat' ((with_reducible first | refine bdec (fun h => ?_) (fun h => ?_) | refine bndec (fun h => ?_) (fun h => ?_) | refine bwtd (fun h => ?_) (fun h => ?_) | refine bwfd (fun h => ?_) (fun h => ?_) | refine bwtn (fun h => ?_) (fun h => ?_) | refine bwfn (fun h => ?_) (fun h => ?_) | refine bwtb (fun h => ?_) (fun h => ?_) | refine bwfb (fun h => ?_) (fun h => ?_) | refine bwt (fun h => ?_) (fun h => ?_) | refine bwf (fun h => ?_) (fun h => ?_) | refine bnt (fun h => ?_) (fun h => ?_) | refine bcase (fun h => ?_) (fun h => ?_)) <;> (conv => whnf))
  · rw [exsEq_len (by omega)] at hK
    exact hK _
  have hll : a.length = b.length := by omega
  refine sw_keep [1, 2, 15, 16, 17] ?_
  refine sw_each a (fun i (_ : Unit) => [(1, .imm (.isl 6 (b.map Ex.cells))), (2, .fn (.func 109) [] []), (15, .imm (.isl 6 (a.map Ex.cells))), (16, sI (a.map Ex.cells).length), (17, sI i)]) (fun _ _ => [])
    (fun done rest _ => exsEq a b = exsEq rest (b.drop done.length)) () (by simp) ?_ ?_
  · rintro _ h1
    (refine sgo_sound [777] 1000 ?_; conv => whnf)
    repeat' ((with_reducible first | refine bdec (fun h => ?_) (fun h => ?_) | refine bndec (fun h => ?_) (fun h => ?_) | refine bwtd (fun h => ?_) (fun h => ?_) | refine bwfd (fun h => ?_) (fun h => ?_) | refine bwtn (fun h => ?_) (fun h => ?_) | refine bwfn (fun h => ?_) (fun h => ?_) | refine bwtb (fun h => ?_) (fun h => ?_) | refine bwfb (fun h => ?_) (fun h => ?_) | refine bwt (fun h => ?_) (fun h => ?_) | refine bwf (fun h => ?_) (fun h => ?_) | refine bnt (fun h => ?_) (fun h => ?_) | refine bcase (fun h => ?_) (fun h => ?_)) <;> (conv => whnf))
    all_goals try (exfalso; omega)
    rw [hll, List.drop_length] at h1
    rw [h1] at hK
    exact hK _
  · rintro done x rest _ hda hdl h1 ih
    have hw := wrap_succ (n := done.length) (by omega)
    have hlt : done.length < b.length := by rw [← hll, hda]; simp
    obtain ⟨y, hy⟩ : ∃ y, b[done.length]? = some y := ⟨_, List.getElem?_eq_getElem hlt⟩
    have hym := List.mem_of_getElem? hy
    have hcall := hE x (by rw [hda]; simp) y hym
    have hdr : b.drop done.length = y :: b.drop (done.length + 1) := by
      rw [List.drop_eq_getElem_cons hlt]
      rw [List.getElem?_eq_getElem hlt] at hy
      rw [Option.some.inj hy]
    rw [hdr, exsEq] at h1
    have hrx : (a.map Ex.cells)[((done.length : Nat) : Int).toNat]? = some x.cells := by simp [hda]
    have hry : (b.map Ex.cells)[((done.length : Nat) : Int).toNat]? = some y.cells := by simp [hy]
    generalize exEq x y = z at hcall h1
    obtain ⟨xo, xn, xu, xd, xp, xk⟩ := x
    obtain ⟨yo, yn, yu, yd, yp, yk⟩ := y
    (refine sgo_sound [777] 1000 ?_; conv => whnf)
    repeat' ((with_reducible first | refine bdec (fun h => ?_) (fun h => ?_) | refine bndec (fun h => ?_) (fun h => ?_) | refine bwtd (fun h => ?_) (fun h => ?_) | refine bwfd (fun h => ?_) (fun h => ?_) | refine bwtn (fun h => ?_) (fun h => ?_) | refine bwfn (fun h => ?_) (fun h => ?_) | refine bwtb (fun h => ?_) (fun h => ?_) | refine bwfb (fun h => ?_) (fun h => ?_) | refine bwt (fun h => ?_) (fun h => ?_) | refine bwf (fun h => ?_) (fun h => ?_) | refine bnt (fun h => ?_) (fun h => ?_) | refine bcase (fun h => ?_) (fun h => ?_)) <;> (conv => whnf))
    all_goals try (exfalso; omega)
    refine swr_index rfl rfl rfl rfl rfl rfl rfl rfl  hrx ?_
    (refine sgor_sound [777] 1000 ?_; conv => whnf)
    refine swr_index rfl rfl rfl rfl rfl rfl rfl rfl  hry ?_
    (refine sgor_sound [777] 1000 ?_; conv => whnf)
    refine swr_pure rfl rfl rfl rfl rfl rfl  hcall ?_
    cases z <;> ((refine sgor_sound [777] 1000 ?_; conv => whnf))
    · rw [h1, Bool.false_and] at hK
      exact hK _
    · rw [hw]
      refine sw_kc [1, 2, 15, 16, 17] 0 (by simp [hH]) (by simp) rfl rfl (ih () ?_)
      rw [h1, Bool.true_and, List.length_append]
      rfl

theorem equal_spec : ∀ (N : Nat) (e e' : Ex), SizeOf.sizeOf e < N → lenOK e → lenOK e' → SPure Tryz.prog G 109 [e.sv, e'.sv] (sB (exEq e e'))
  | 0, _, _, h, _, _ => by omega
  | N + 1, .mk op n u den ps ks, .mk op' n' u' den' ps' ks', hN, hl, hl' => by
    unfold lenOK at hl hl'
    obtain ⟨l1, l2, l3⟩ := hl
    obtain ⟨m1, m2, m3⟩ := hl'
    simp only [Ex.mk.sizeOf_spec] at hN
    have hk : ∀ e ∈ ks, ∀ e' ∈ ks', SPure Tryz.prog G 109 [e.sv, e'.sv] (sB (exEq e e')) := fun e he e' he' => by
      have := List.sizeOf_lt_of_mem he
      exact equal_spec N e e' (by omega) (lensOK_mem l3 e he) (lensOK_mem m3 e' he')
    have h1 := piecesEq_spec G ps ps' l1 m1
    have h2 := eqFunc_spec G ks ks' hk l2 m2
    have hx : exEq (.mk op n u den ps ks) (.mk op' n' u' den' ps' ks') = (decide (op = op') && decide (n = n') && decide (u = u') && decide (den = den') && decide (ps.map Piece.key = ps'.map Piece.key) && exsEq ks ks') := by rw [exEq]
    rw [hx]
    generalize decide (ps.map Piece.key = ps'.map Piece.key) = z1 at h1
    generalize exsEq ks ks' = z2 at h2
    refine spure_enter Tryz.func109 rfl (by rw [Tryz.ntmps109]; simp) rfl rfl ?_; intro E hH hK
    (refine sgo_sound [777] 1000 ?_; conv => whnf)
    repeat' ((with_reducible first | refine bdec (fun h => ?_) (fun h => ?_) | refine bndec (fun h => ?_) (fun h => ?_) | refine bwtd (fun h => ?_) (fun h => ?_) | refine bwfd (fun h => ?_) (fun h => ?_) | refine bwtn (fun h => ?_) (fun h => ?_) | refine bwfn (fun h => ?_) (fun h => ?_) | refine bwtb (fun h => ?_) (fun h => ?_) | refine bwfb (fun h => ?_) (fun h => ?_) | refine bwt (fun h => ?_) (fun h => ?_) | refine bwf (fun h => ?_) (fun h => ?_) | refine bnt (fun h => ?_) (fun h => ?_) | refine bcase (fun h => ?_) (fun h => ?_)) <;> (conv => whnf))
    case' refine_1.refine_1.refine_1.refine_2 =>
      rename_i g1 g2 g3
      subst g1 g2 g3
      rw [show (decide (op = op) && decide (n = n) && decide (u = u) && decide (den = den') && z1 && z2) = (z1 && z2) by simp [*]] at hK
      refine swr_pure rfl rfl rfl rfl rfl rfl  h1 ?_
      cases z1 <;> ((refine sgor_sound [777] 1000 ?_; conv => whnf))
    case refine_1.refine_1.refine_1.refine_2.false => exact hK _
    case' refine_1.refine_1.refine_1.refine_2.true =>
      refine swr_pure rfl rfl rfl rfl rfl rfl  h2 ?_
      (refine sgor_sound [777] 1000 ?_; conv => whnf)
    case refine_1.refine_1.refine_1.refine_2.true => exact hK _
    all_goals
      rw [show (decide (op = op') && decide (n = n') && decide (u = u') && decide (den = den') && z1 && z2) = false by simp [*]] at hK
      exact hK _
end Go.Proofs.YtblpjknmhajcgaaGreatDoor

/- Priority of versions: Beats (contract). -/
namespace Go.Proofs.YtblpjknmhajcgaaGreatDoor
open Go Go.Sh
set_option maxRecDepth 10000
set_option maxHeartbeats 4000000
variable (G : List (Nat × D))

def eqF : SV := .fn (.func 109) [] []
def HC (p : Ex) : List SObj := [.cells [eqF], .cells (p.cells.map SV.imm)]
theorem imms_under (l : List D) (n : Nat) : SV.under.allUnder n (l.map SV.imm) = true := by
  induction l with
  | nil => rfl
  | cons a l ih => simp [SV.under.allUnder, SV.under, ih]
theorem HC_under (p : Ex) : (HC p).all (SObj.under 2) = true := by
  simp only [HC, List.all_cons, List.all_nil, SObj.under, imms_under, Bool.and_true]
  rfl
theorem closure_spec (p e : Ex) (hp : lenOK p) (he : lenOK e) :
    SPre Tryz.prog G 145 [e.sv, .ptr 0 0, .ptr 1 0] (HC p) (fun r H' => r = sB (exEq e p) ∧ H' = HC p) := by
  have h1 := equal_spec G _ e p (Nat.lt_succ_self _) he hp
  generalize exEq e p = z at h1 ⊢
  obtain ⟨op, n, u, den, ps, ks⟩ := e
  obtain ⟨op', n', u', den', ps', ks'⟩ := p
  refine spre_enter Tryz.func145 rfl (by rw [Tryz.ntmps145]; simp) ?_ (HC_under _) ?_
  · simp only [List.all_cons, List.all_nil, Ex.sv, SV.under, imms_under]
    rfl
  intro E hH hK
  (refine sgo_sound [] 1000 ?_; conv => whnf)
  refine swr_pure rfl rfl rfl rfl rfl rfl  h1 ?_
  (refine sgor_sound [] 1000 ?_; conv => whnf)
  exact hK _ _ (by show 2 ≤ 3; decide) rfl (HC_under (.mk op' n' u' den' ps' ks')) ⟨rfl, rfl⟩
theorem indexFunc_spec (l : List Ex) (p : Ex) (hp : lenOK p) (hl : lensOK l) (hz : l.length ≤ 1000000) :
    SPre Tryz.prog G 166 [.imm (.isl 6 (l.map Ex.cells)), .fn (.func 145) [] [.ptr 0 0, .ptr 1 0]] (HC p)
      (fun r H' => (∃ i : Int, r = sI i ∧ (0 ≤ i ↔ l.any (fun e => exEq e p) = true)) ∧ H' = HC p) := by
  refine spre_enter Tryz.func166 rfl (by rw [Tryz.ntmps166]; simp) rfl (HC_under _) ?_
  intro E hH hK
  have hla : (l.map Ex.cells).length = l.length := by simp
  (refine sgo_sound [777] 1000 ?_; conv => whnf)
  refine sw_keep [0, 1, 7, 8] ?_
  refine Eq.mpr (congrArg (fun h => SW E _ _ h) (show _ = HC p from rfl)) ?_
  refine sw_each l (fun i (_ : Unit) => [(0, .imm (.isl 6 (l.map Ex.cells))), (1, .fn (.func 145) [] [.ptr 0 0, .ptr 1 0]), (7, sI (l.map Ex.cells).length), (8, sI i)]) (fun _ _ => HC p)
    (fun done rest _ => ∀ e ∈ done, exEq e p = false) () (by simp) ?_ ?_
  · rintro _ h1
    (refine sgo_sound [777] 1000 ?_; conv => whnf)
    repeat' ((with_reducible first | refine bdec (fun h => ?_) (fun h => ?_) | refine bndec (fun h => ?_) (fun h => ?_) | refine bwtd (fun h => ?_) (fun h => ?_) | refine bwfd (fun h => ?_) (fun h => ?_) | refine bwtn (fun h => ?_) (fun h => ?_) | refine bwfn (fun h => ?_) (fun h => ?_) | refine bwtb (fun h => ?_) (fun h => ?_) | refine bwfb (fun h => ?_) (fun h => ?_) | refine bwt (fun h => ?_) (fun h => ?_) | refine bwf (fun h => ?_) (fun h => ?_) | refine bnt (fun h => ?_) (fun h => ?_) | refine bcase (fun h => ?_) (fun h => ?_)) <;> (conv => whnf))
    all_goals try (exfalso; omega)
    refine hK _ _ (Nat.le_refl _) rfl (HC_under p) ⟨⟨-1, rfl, ⟨fun h => by omega, fun h => ?_⟩⟩, rfl⟩
    obtain ⟨e, he, h2⟩ := List.any_eq_true.1 h
    rw [h1 e he] at h2
    cases h2
  · rintro done x rest _ hda hdl h1 ih
    have hw := wrap_succ (n := done.length) (by omega)
    have hrx : (l.map Ex.cells)[((done.length : Nat) : Int).toNat]? = some x.cells := by simp [hda]
    have hxm : x ∈ l := by rw [hda]; simp
    have hcall := closure_spec G p x hp (lensOK_mem hl x hxm)
    have hany : exEq x p = true → l.any (fun e => exEq e p) = true := fun h => List.any_eq_true.2 ⟨x, hxm, h⟩
    have hnxt : exEq x p = false → ∀ e ∈ done ++ [x], exEq e p = false := fun h e he => by
      rcases List.mem_append.1 he with he | he
      · exact h1 e he
      · simp at he; rw [he]; exact h
    generalize exEq x p = z at hcall hany hnxt
    obtain ⟨xo, xn, xu, xd, xp, xk⟩ := x
    (refine sgo_sound [777] 1000 ?_; conv => whnf)
    repeat' ((with_reducible first | refine bdec (fun h => ?_) (fun h => ?_) | refine bndec (fun h => ?_) (fun h => ?_) | refine bwtd (fun h => ?_) (fun h => ?_) | refine bwfd (fun h => ?_) (fun h => ?_) | refine bwtn (fun h => ?_) (fun h => ?_) | refine bwfn (fun h => ?_) (fun h => ?_) | refine bwtb (fun h => ?_) (fun h => ?_) | refine bwfb (fun h => ?_) (fun h => ?_) | refine bwt (fun h => ?_) (fun h => ?_) | refine bwf (fun h => ?_) (fun h => ?_) | refine bnt (fun h => ?_) (fun h => ?_) | refine bcase (fun h => ?_) (fun h => ?_)) <;> (conv => whnf))
    all_goals try (exfalso; omega)
    refine swr_index rfl rfl rfl rfl rfl rfl rfl rfl  hrx ?_
    (refine sgor_sound [777] 1000 ?_; conv => whnf)
    refine swr_pre 2 rfl rfl rfl rfl rfl rfl hcall ?_
    rintro r9 H9 ⟨rfl, rfl⟩ _
    refine Eq.mpr (congrArg (fun h => SWr E _ _ _ _ h) (show _ = HC p from rfl)) ?_
    cases z <;> ((refine sgor_sound [777] 1000 ?_; conv => whnf))
    · rw [hw]
      refine sw_keep [0, 1, 7, 8] ?_
      exact ih () (hnxt rfl)
    · refine hK _ _ (Nat.le_refl _) rfl (HC_under p) ⟨⟨done.length, rfl, ⟨fun _ => hany rfl, fun _ => by omega⟩⟩, rfl⟩
theorem containsFunc_spec (l : List Ex) (p : Ex) (hp : lenOK p) (hl : lensOK l) (hz : l.length ≤ 1000000) :
    SPre Tryz.prog G 144 [.imm (.isl 6 (l.map Ex.cells)), .fn (.func 145) [] [.ptr 0 0, .ptr 1 0]] (HC p)
      (fun r H' => r = sB (l.any fun e => exEq e p) ∧ H' = HC p) := by
  refine spre_enter Tryz.func144 rfl (by rw [Tryz.ntmps144]; simp) rfl (HC_under _) ?_
  intro E hH hK
  (refine sgo_sound [777] 1000 ?_; conv => whnf)
  refine swr_pre 2 rfl rfl rfl rfl rfl rfl (indexFunc_spec G l p hp hl hz) ?_
  rintro r9 H9 ⟨⟨i, rfl, hi⟩, rfl⟩ _
  refine Eq.mpr (congrArg (fun h => SWr E _ _ _ _ h) (show _ = HC p from rfl)) ?_
  (refine sgor_sound [777] 1000 ?_; conv => whnf)
  refine hK _ _ (Nat.le_refl _) rfl (HC_under p) ⟨?_, rfl⟩
  show sB (decide (0 ≤ i)) = _
  by_cases h : 0 ≤ i
  · rw [decide_eq_true h, hi.1 h]
  · rw [decide_eq_false h]
    cases h2 : l.any (fun e => exEq e p) with
    | false => rfl
    | true => exact absurd (hi.2 h2) h
theorem containsAll_spec (l ps : List Ex) (hp : lensOK ps) (hl : lensOK l) (hz : l.length ≤ 1000000) (hpz : ps.length ≤ 1000000) :
    SPure Tryz.prog G 108 [.imm (dExprs l), .imm (dExprs ps), .fn (.func 109) [] []] (sB (allIn l ps)) := by
  refine spure_enter Tryz.func108 rfl (by rw [Tryz.ntmps108]; simp) rfl rfl ?_; intro E hH hK
  have hla : (ps.map Ex.cells).length = ps.length := by simp
  (refine sgo_sound [777] 1000 ?_; conv => whnf)
  refine sw_keep [0, 5, 9, 10, 11] ?_
  refine sw_each ps (fun i (_ : Unit) => [(0, .imm (dExprs l)), (5, .ptr 0 0), (9, .imm (dExprs ps)), (10, sI (ps.map Ex.cells).length), (11, sI i)]) (fun _ _ => [.cells [eqF]])
    (fun done rest _ => ∀ p ∈ done, l.any (fun e => exEq e p) = true) () (by simp) ?_ ?_
  · rintro _ h1
    (refine sgo_sound [777] 1000 ?_; conv => whnf)
    repeat' ((with_reducible first | refine bdec (fun h => ?_) (fun h => ?_) | refine bndec (fun h => ?_) (fun h => ?_) | refine bwtd (fun h => ?_) (fun h => ?_) | refine bwfd (fun h => ?_) (fun h => ?_) | refine bwtn (fun h => ?_) (fun h => ?_) | refine bwfn (fun h => ?_) (fun h => ?_) | refine bwtb (fun h => ?_) (fun h => ?_) | refine bwfb (fun h => ?_) (fun h => ?_) | refine bwt (fun h => ?_) (fun h => ?_) | refine bwf (fun h => ?_) (fun h => ?_) | refine bnt (fun h => ?_) (fun h => ?_) | refine bcase (fun h => ?_) (fun h => ?_)) <;> (conv => whnf))
    all_goals try (exfalso; omega)
    have : allIn l ps = true := List.all_eq_true.2 h1
    rw [this] at hK
    exact hK _
  · rintro done x rest _ hda hdl h1 ih
    have hw := wrap_succ (n := done.length) (by omega)
    have hrx : (ps.map Ex.cells)[((done.length : Nat) : Int).toNat]? = some x.cells := by simp [hda]
    have hxm : x ∈ ps := by rw [hda]; simp
    have hcall := containsFunc_spec G l x (lensOK_mem hp x hxm) hl hz
    have hno : l.any (fun e => exEq e x) = false → allIn l ps = false := fun h => by
      cases h2 : allIn l ps with
      | false => rfl
      | true => rw [List.all_eq_true.1 h2 x hxm] at h; cases h
    have hnxt : l.any (fun e => exEq e x) = true → ∀ p ∈ done ++ [x], l.any (fun e => exEq e p) = true := fun h e he => by
      rcases List.mem_append.1 he with he | he
      · exact h1 e he
      · simp at he; rw [he]; exact h
    generalize l.any (fun e => exEq e x) = z at hcall hno hnxt
    obtain ⟨xo, xn, xu, xd, xp, xk⟩ := x
    (refine sgo_sound [777] 1000 ?_; conv => whnf)
    repeat' ((with_reducible first | refine bdec (fun h => ?_) (fun h => ?_) | refine bndec (fun h => ?_) (fun h => ?_) | refine bwtd (fun h => ?_) (fun h => ?_) | refine bwfd (fun h => ?_) (fun h => ?_) | refine bwtn (fun h => ?_) (fun h => ?_) | refine bwfn (fun h => ?_) (fun h => ?_) | refine bwtb (fun h => ?_) (fun h => ?_) | refine bwfb (fun h => ?_) (fun h => ?_) | refine bwt (fun h => ?_) (fun h => ?_) | refine bwf (fun h => ?_) (fun h => ?_) | refine bnt (fun h => ?_) (fun h => ?_) | refine bcase (fun h => ?_) (fun h => ?_)) <;> (conv => whnf))
    all_goals try (exfalso; omega)
    refine swr_index rfl rfl rfl rfl rfl rfl rfl rfl  hrx ?_
    (refine sgor_sound [777] 1000 ?_; conv => whnf)
    refine swr_pre 2 rfl rfl rfl rfl rfl rfl hcall ?_
    rintro r9 H9 ⟨rfl, rfl⟩ _
    cases z <;> ((refine sgor_sound [777] 1000 ?_; conv => whnf))
    · rw [hno rfl] at hK
      exact hK _
    · rw [hw]
      refine sw_kc [0, 5, 9, 10, 11] 1 (by simp [hH]) (by show 1 ≤ 2; decide) rfl rfl (ih () (hnxt rfl))

/-- what comparing versions needs of a codex -/
structure BeatC (c : Codex) : Prop where
  arts : c.arts.length ≤ 1000000
  len : ∀ a ∈ c.arts, a.when_.length ≤ 1000000
  exs : ∀ a ∈ c.arts, lensOK a.when_
theorem artRow (c : Codex) {i : Nat} {a : Article} (h : c.arts[i]? = some a) {op n : Int} {u : ByteArray} {den : Int} {ps : List Piece} {ks : List Ex} (hm : a.amount = .mk op n u den ps ks) :
    (c.arts.map Article.cells)[i]? = some [dI a.number, dI a.line, dI a.rank, dI a.lo, dI a.hi, dI a.known, dExprs a.when_, dInts a.unless_, dI op, dI n, dS u, dI den, .isl 3 (ps.map Piece.cells), .isl 6 (exprRows ks)] := by
  rw [List.getElem?_map, h]
  simp [Article.cells, hm, exprRows_eq, Ex.op, Ex.n, Ex.unit, Ex.den, Ex.pieces, Ex.kids]
theorem amount_mk (a : Article) : ∃ op n u den ps ks, a.amount = .mk op n u den ps ks := by cases h : a.amount; exact ⟨_, _, _, _, _, _, rfl⟩
theorem beats_spec (c : Codex) (hc : BeatC c) (i j : Int) : SPure Tryz.prog G 77 [c.sv, sI i, sI j] (sB (beatsOf c i j)) := by
  have hal : (c.arts.map Article.cells).length = c.arts.length := by simp
  have hz := hc.arts
  refine spure_enter Tryz.func77 rfl (by rw [Tryz.ntmps77]; simp) rfl rfl ?_; intro E hH hK
  rw [show c.sv = .agg [.imm (dDecls c.facts), .imm (dDecls c.lines), .imm (dArts c.arts)] from rfl]
  by_cases hin : 0 ≤ i ∧ 0 ≤ j ∧ i < c.arts.length ∧ j < c.arts.length
  · obtain ⟨hi0, hj0, hi1, hj1⟩ := hin
    obtain ⟨a, ha⟩ : ∃ a, c.arts[i.toNat]? = some a := ⟨_, List.getElem?_eq_getElem (by omega)⟩
    obtain ⟨b, hb⟩ : ∃ b, c.arts[j.toNat]? = some b := ⟨_, List.getElem?_eq_getElem (by omega)⟩
    have hai : artAt c i = some a := by unfold artAt; rw [if_neg (by omega)]; exact ha
    have hbj : artAt c j = some b := by unfold artAt; rw [if_neg (by omega)]; exact hb
    have hbe : beatsOf c i j = (if a.line ≠ b.line ∨ a.number = b.number then false
      else if a.rank ≠ b.rank then decide (b.rank < a.rank)
      else if allIn a.when_ b.when_ ≠ allIn b.when_ a.when_ then allIn a.when_ b.when_
      else decide (b.known < a.known)) := by unfold beatsOf; rw [hai, hbj]
    have ham := List.mem_of_getElem? ha
    have hbm := List.mem_of_getElem? hb
    have c1 := containsAll_spec G a.when_ b.when_ (hc.exs b hbm) (hc.exs a ham) (hc.len a ham) (hc.len b hbm)
    have c2 := containsAll_spec G b.when_ a.when_ (hc.exs a ham) (hc.exs b hbm) (hc.len b hbm) (hc.len a ham)
    rw [hbe] at hK
    generalize allIn a.when_ b.when_ = z1 at c1 hK
    generalize allIn b.when_ a.when_ = z2 at c2 hK
    obtain ⟨op, n, u, den, ps, ks, hamt⟩ := amount_mk a
    obtain ⟨op', n', u', den', ps', ks', hbmt⟩ := amount_mk b
    have hra := artRow c ha hamt
    have hrb := artRow c hb hbmt
    (refine sgo_sound [777] 1000 ?_; conv => whnf)
    repeat' ((with_reducible first | refine bdec (fun h => ?_) (fun h => ?_) | refine bndec (fun h => ?_) (fun h => ?_) | refine bwtd (fun h => ?_) (fun h => ?_) | refine bwfd (fun h => ?_) (fun h => ?_) | refine bwtn (fun h => ?_) (fun h => ?_) | refine bwfn (fun h => ?_) (fun h => ?_) | refine bwtb (fun h => ?_) (fun h => ?_) | refine bwfb (fun h => ?_) (fun h => ?_) | refine bwt (fun h => ?_) (fun h => ?_) | refine bwf (fun h => ?_) (fun h => ?_) | refine bnt (fun h => ?_) (fun h => ?_) | refine bcase (fun h => ?_) (fun h => ?_)) <;> (conv => whnf))
    all_goals try (exfalso; omega)
    refine sw_keep [1, 2, 3] ?_
    change SW E _ [(1, sI i), (2, sI j), (3, .ptr 0 0)] [.cells [.imm (dDecls c.facts), .imm (dDecls c.lines), .imm (dArts c.arts)]]
    (refine swe_start 2 mixed rfl ?_; refine sgoe_sound [777] (nx := 1) ?_; conv => whnf)
    refine swe_index (row := [dI a.number, dI a.line, dI a.rank, dI a.lo, dI a.hi, dI a.known, dExprs a.when_, dInts a.unless_, dI op, dI n, dS u, dI den, .isl 3 (ps.map Piece.cells), .isl 6 (exprRows ks)]) rfl rfl rfl rfl rfl rfl rfl (show 1 ≤ 3 by decide) (Int.toNat_of_nonneg hi0).symm hra ?_
    (refine sgoe_sound [777] (nx := 1) ?_; conv => whnf)
    refine swe_index (row := [dI b.number, dI b.line, dI b.rank, dI b.lo, dI b.hi, dI b.known, dExprs b.when_, dInts b.unless_, dI op', dI n', dS u', dI den', .isl 3 (ps'.map Piece.cells), .isl 6 (exprRows ks')]) rfl rfl rfl rfl rfl rfl rfl (show 1 ≤ 3 by decide) (Int.toNat_of_nonneg hj0).symm hrb ?_
    (refine sgoe_sound [777] (nx := 1) ?_; conv => whnf)
    refine sw_keep [7, 8] ?_
    change SW E _ [(7, .ptr 1 0), (8, .ptr 2 0)] [.cells [.imm (dDecls c.facts), .imm (dDecls c.lines), .imm (dArts c.arts)], .cells [.imm (dI a.number), .imm (dI a.line), .imm (dI a.rank), .imm (dI a.lo), .imm (dI a.hi), .imm (dI a.known), .imm (dExprs a.when_), .imm (dInts a.unless_), .imm (dI op), .imm (dI n), .imm (dS u), .imm (dI den), .imm (.isl 3 (ps.map Piece.cells)), .imm (.isl 6 (exprRows ks))],
      .cells [.imm (dI b.number), .imm (dI b.line), .imm (dI b.rank), .imm (dI b.lo), .imm (dI b.hi), .imm (dI b.known), .imm (dExprs b.when_), .imm (dInts b.unless_), .imm (dI op'), .imm (dI n'), .imm (dS u'), .imm (dI den'), .imm (.isl 3 (ps'.map Piece.cells)), .imm (.isl 6 (exprRows ks'))]]
    (refine sgo_sound [777] 1000 ?_; conv => whnf)
    repeat' ((with_reducible first | refine bdec (fun h => ?_) (fun h => ?_) | refine bndec (fun h => ?_) (fun h => ?_) | refine bwtd (fun h => ?_) (fun h => ?_) | refine bwfd (fun h => ?_) (fun h => ?_) | refine bwtn (fun h => ?_) (fun h => ?_) | refine bwfn (fun h => ?_) (fun h => ?_) | refine bwtb (fun h => ?_) (fun h => ?_) | refine bwfb (fun h => ?_) (fun h => ?_) | refine bwt (fun h => ?_) (fun h => ?_) | refine bwf (fun h => ?_) (fun h => ?_) | refine bnt (fun h => ?_) (fun h => ?_) | refine bcase (fun h => ?_) (fun h => ?_)) <;> (conv => whnf))
    · rw [if_pos (.inr h)] at hK
      exact hK _
    · rename_i g1 g2
      rw [if_neg (fun x => x.elim (fun x => x g1) g2), if_pos h] at hK
      exact hK _
    · rename_i g1 g2
      rw [if_neg (fun x => x.elim (fun x => x g1) g2), if_neg (fun x => x h)] at hK
      refine swr_pure rfl rfl rfl rfl rfl rfl  c1 ?_
      (refine sgor_sound [777] 1000 ?_; conv => whnf)
      refine swr_pure rfl rfl rfl rfl rfl rfl  c2 ?_
      (refine sgor_sound [777] 1000 ?_; conv => whnf)
      cases z1 <;> cases z2 <;> (conv => whnf) <;> exact hK _
    · rw [if_pos (.inl h)] at hK
      exact hK _
  · have hbe : beatsOf c i j = false := by
      have : artAt c i = none ∨ artAt c j = none := by
        unfold artAt
        by_cases h1 : i < 0
        · left; rw [if_pos h1]
        · by_cases h2 : j < 0
          · right; rw [if_pos h2]
          · rw [if_neg h1, if_neg h2]
            by_cases h3 : i < c.arts.length
            · right; rw [List.getElem?_eq_none]; omega
            · left; rw [List.getElem?_eq_none]; omega
      unfold beatsOf
      rcases this with h | h
      · rw [h]
      · rw [h]; split <;> first | rfl | simp_all
    rw [hbe] at hK
    (refine sgo_sound [777] 1000 ?_; conv => whnf)
    repeat' ((with_reducible first | refine bdec (fun h => ?_) (fun h => ?_) | refine bndec (fun h => ?_) (fun h => ?_) | refine bwtd (fun h => ?_) (fun h => ?_) | refine bwfd (fun h => ?_) (fun h => ?_) | refine bwtn (fun h => ?_) (fun h => ?_) | refine bwfn (fun h => ?_) (fun h => ?_) | refine bwtb (fun h => ?_) (fun h => ?_) | refine bwfb (fun h => ?_) (fun h => ?_) | refine bwt (fun h => ?_) (fun h => ?_) | refine bwf (fun h => ?_) (fun h => ?_) | refine bnt (fun h => ?_) (fun h => ?_) | refine bcase (fun h => ?_) (fun h => ?_)) <;> (conv => whnf))
    all_goals try (exfalso; omega)
    all_goals exact hK _
end Go.Proofs.YtblpjknmhajcgaaGreatDoor

/- Conditions of the search for a witness: data, values, contracts. -/
namespace Go.Proofs.YtblpjknmhajcgaaGreatDoor
open Go Go.Sh
set_option maxRecDepth 10000
set_option maxHeartbeats 2000000
variable (G : List (Nat × D))

theorem truth_spec (b : Bool) : SPure Tryz.prog G 139 [.imm (.val (.bool b))] (.imm (iv (truthI b))) := by
  cases b
  · refine spure_enter Tryz.func139 rfl (by rw [Tryz.ntmps139]; simp) rfl rfl ?_; intro E hH hK
    (refine sgo_sound [] 1000 ?_; conv => whnf)
    exact hK _
  · refine spure_enter Tryz.func139 rfl (by rw [Tryz.ntmps139]; simp) rfl rfl ?_; intro E hH hK
    (refine sgo_sound [] 1000 ?_; conv => whnf)
    exact hK _

theorem swe_loadAt {P : Program} {G : List (Nat × D)} {fn : Func} {rd : Bool} {E : En P G fn rd} {t : List (Nat × SV)} {K : List SObj} {k : List Item} {m : Nat} {all : Array Oper} {rest : List Oper} {done : List Eff} {o : Oper}
    {ty b off : Nat} {a : Operand} {cs : List SV} {v : SV} (hop : o.op = .load ty a) (hw : swant all t o.guard = some true) (hd : dstOK fn.ntmps o.dst = true) (hm : m ≤ K.length) (ha : evalS G t a = .ptr b off) (hb : K[b]? = some (.cells cs))
    (hv : sload P ty cs off = some v) (h : SWe E m all rest k (tput t o.dst v) K (done ++ [⟨v, [b], none⟩])) : SWe E m all (o :: rest) k t K done := by
  refine swe_op ⟨v, [b], none⟩ hw hd hm (fun K' _ hK => ?_) h
  have hb' : K'[b]? = some (.cells cs) := by rw [hK b (.inl (by simp))]; exact hb
  rw [hop]
  have : sopLoad P ty K' (.ptr b off) = some v := by
    unfold sopLoad
    simp only [hb', hv]
  simp only [sop, ha, this]
  rfl

abbrev bvS (b : Bool) : SV := .imm (.val (.bool b))
abbrev ivS (n : Int) : SV := .imm (.val (.int .i64 n))
/-- the heap of witness: 21 objects of any kind (the search, its maps, witness's own boxes), then the state -/
def WH (X : Nat → SObj) (s : St) : List SObj :=
  [X 0, X 1, X 2, X 3, X 4, X 5, X 6, X 7, X 8, X 9, X 10, X 11, X 12, X 13, X 14, X 15, X 16, X 17, X 18, X 19, X 20, .cells (s.ch.map bvS), .cells (s.vs.map ivS),
   .cells [ivS s.p.1, ivS s.p.2.1, ivS s.p.2.2.1, ivS s.p.2.2.2.1, ivS s.p.2.2.2.2, .osl 21 0 s.ch.length, .osl 22 0 s.vs.length]]

theorem allU_map {α : Type} {f : α → SV} {m : Nat} (hf : ∀ a, (f a).under m = true) : ∀ l : List α, SV.under.allUnder m (l.map f) = true
  | [] => rfl
  | a :: l => by simp only [List.map_cons, SV.under.allUnder, hf a, allU_map hf l, Bool.and_self]
theorem cellsU (m : Nat) (cs : List SV) : (SObj.cells cs).under m = SV.under.allUnder m cs := rfl
theorem WH_under {X : Nat → SObj} (hX : ∀ i, (X i).under 24 = true) (s : St) : (WH X s).all (SObj.under 24) = true := by
  simp only [WH, List.all_cons, hX, List.all_nil, Bool.true_and, Bool.and_true, cellsU, allU_map (f := bvS) (m := 24) (fun _ => rfl), allU_map (f := ivS) (m := 24) (fun _ => rfl)]
  rfl

theorem load1 {α : Type} {f : α → SV} {l : List α} {n : Nat} {d : α} {P : Program} {ty : TypeId} (h : n < l.length) (hp : pagg P ty = some false) : sload P ty (l.map f) (0 + n * 1) = some (f (l.getD n d)) := by
  simp only [sload, hp, Nat.zero_add, Nat.mul_one, List.getElem?_map]
  rw [List.getElem?_eq_getElem h, List.getD_eq_getElem?_getD, List.getElem?_eq_getElem h]
  rfl

/-- how a function over witness's heap begins and ends -/
theorem wh_enter {P : Program} {G : List (Nat × D)} {fn : Func} {f : FuncId} {args : List SV} {c : Code} {X : Nat → SObj} {s : St} {K : SV → List SObj → Prop} (hX : ∀ i, (X i).under 24 = true)
    (hfn : P.funcs[f]? = some fn) (hb : fn.body = some c) (hn : args.length ≤ fn.ntmps) (hargs : args.all (SV.under 24) = true)
    (h : ∀ E : En P G fn false, E.H.length = 24 → (∀ r Y s', r.under 24 = true → K r (WH X s') → E.K r (WH X s' ++ Y)) → SW E [.code c] (slots 0 args) (WH X s)) : SPre P G f args (WH X s) K := by
  refine spre_enter hfn hb hn hargs (WH_under hX s) (fun E hH hK => h E hH (fun r Y s' hr hk => ?_))
  have e : (WH X s' ++ Y).take 24 = WH X s' := rfl
  exact hK r _ (by simp [WH]) hr (by show ((WH X s' ++ Y).take 24).all (SObj.under 24) = true; rw [e]; exact WH_under hX s') (by show K r ((WH X s' ++ Y).take 24); rw [e]; exact hk)

theorem value_spec {X : Nat → SObj} (hX : ∀ i, (X i).under 24 = true) (oo on : Int) (s : St) (hl : s.ch.length = s.vs.length) (ho : Opd.ok s.vs.length ⟨oo, on⟩) :
    SPre Tryz.prog G 138 [.agg [ivS oo, ivS on], .ptr 23 0] (WH X s) (fun r H' => r = .tup [ivS (Opd.val ⟨oo, on⟩ s).1, bvS (Opd.val ⟨oo, on⟩ s).2] ∧ H' = WH X s) := by
  refine wh_enter hX Tryz.func138 rfl (by rw [Tryz.ntmps138]; simp) rfl ?_; intro E hH hK
  unfold WH
  obtain ⟨ho1, ho2⟩ := ho
  simp only at ho1 ho2
  (refine sgo_sound [777] 1000 ?_; conv => whnf)
  repeat' ((with_reducible first | refine bdec (fun h => ?_) (fun h => ?_) | refine bndec (fun h => ?_) (fun h => ?_) | refine bwtd (fun h => ?_) (fun h => ?_) | refine bwfd (fun h => ?_) (fun h => ?_) | refine bwtn (fun h => ?_) (fun h => ?_) | refine bwfn (fun h => ?_) (fun h => ?_) | refine bwtb (fun h => ?_) (fun h => ?_) | refine bwfb (fun h => ?_) (fun h => ?_) | refine bwt (fun h => ?_) (fun h => ?_) | refine bwf (fun h => ?_) (fun h => ?_) | refine bnt (fun h => ?_) (fun h => ?_) | refine bcase (fun h => ?_) (fun h => ?_)) <;> (conv => whnf))
  · have hb := ho1 (by assumption)
    (refine swe_start 0 mixed rfl ?_; refine sgoe_sound [777, 17, 25] (nx := 25) ?_; conv => whnf)
    refine swe_own (i := on.toNat) rfl rfl rfl rfl rfl rfl rfl (by simp [setw_length]) (by omega) (by omega) ?_
    (refine sgoe_sound [777, 17, 25] (nx := 25) ?_; conv => whnf)
    refine swe_loadAt (v := ivS (s.vs.getD on.toNat 0)) rfl rfl rfl (by simp [setw_length]) rfl rfl (load1 (f := ivS) (by omega) rfl) ?_
    (refine sgoe_sound [777, 17, 25] (nx := 25) ?_; conv => whnf)
    refine swe_own (i := on.toNat) rfl rfl rfl rfl rfl rfl rfl (by simp [setw_length]) (by omega) (by omega) ?_
    (refine sgoe_sound [777, 17, 25] (nx := 25) ?_; conv => whnf)
    refine swe_loadAt (v := bvS (s.ch.getD on.toNat false)) rfl rfl rfl (by simp [setw_length]) rfl rfl (load1 (f := bvS) (by omega) rfl) ?_
    (refine sgoe_sound [777] (nx := 25) ?_; conv => whnf)
    (refine sgo_sound [777] 1000 ?_; conv => whnf)
    have e : Opd.val ⟨oo, on⟩ s = (s.vs.getD on.toNat 0, s.ch.getD on.toNat false) := by simp [Opd.val, *]
    exact hK (.tup [ivS (s.vs.getD on.toNat 0), bvS (s.ch.getD on.toNat false)]) [_] s rfl ⟨by rw [e], rfl⟩
  · have hb := ho2 (by assumption)
    have h5 : on = 0 ∨ on = 1 ∨ on = 2 ∨ on = 3 ∨ on = 4 := by omega
    rcases h5 with rfl | rfl | rfl | rfl | rfl <;> (refine swe_start 0 mixed rfl ?_; refine sgoe_sound [777] (nx := 25) ?_; conv => whnf) <;> ((refine sgo_sound [777] 1000 ?_; conv => whnf))
    · exact hK (.tup [ivS s.p.1, bvS true]) [_] s rfl ⟨by simp [Opd.val, St.part, *], rfl⟩
    · exact hK (.tup [ivS s.p.2.1, bvS true]) [_] s rfl ⟨by simp [Opd.val, St.part, *], rfl⟩
    · exact hK (.tup [ivS s.p.2.2.1, bvS true]) [_] s rfl ⟨by simp [Opd.val, St.part, *], rfl⟩
    · exact hK (.tup [ivS s.p.2.2.2.1, bvS true]) [_] s rfl ⟨by simp [Opd.val, St.part, *], rfl⟩
    · exact hK (.tup [ivS s.p.2.2.2.2, bvS true]) [_] s rfl ⟨by simp [Opd.val, St.part, *], rfl⟩
  · exact hK (.tup [ivS on, bvS true]) [_] s rfl ⟨by simp [Opd.val, *], rfl⟩

section
variable {P : Program} {G : List (Nat × D)} {fn : Func} {rd : Bool} {E : En P G fn rd} {t : List (Nat × SV)} {H : List SObj} {k : List Item} {all : Array Oper} {rest : List Oper} {o : Oper}
theorem Rep.aggs {w : World} {I : Imm} {β : List Bnd} {v : Value} {ds : List D} (h : Rep w I β v (.imm (.agg ds))) : Rep w I β v (.agg (ds.map .imm)) := by
  cases h with | imm h =>
  cases h with | agg vs _ h1 h2 =>
  refine .agg vs _ (by simp [h1]) (fun j hj hj' => ?_)
  simp only [List.getElem_map]
  exact .imm (h2 j (by simpa using hj) hj')
theorem scall_agg {f : FuncId} {ds : List D} {args : List SV} {K : SV → List SObj → Prop} (h : SCall P G f (.agg (ds.map .imm) :: args) H K) : SCall P G f (.imm (.agg ds) :: args) H K := by
  intro w I β vs hH hr
  refine h w I β vs hH ⟨by simpa using hr.len, fun j v s hv hs => ?_⟩
  cases j with
  | zero =>
    simp only [List.getElem?_cons_zero, Option.some.injEq] at hs
    subst hs
    exact Rep.aggs (hr.rep 0 v _ hv rfl)
  | succ j => exact hr.rep (j + 1) v s hv hs
theorem swr_invokeP (n : Nat) {rx : Operand} {name : String} {args : Array Operand} {tys : Array TypeId} {ty : TypeId} {ds : List D} {f : FuncId} {K : SV → List SObj → Prop} (hop : o.op = .call ⟨.invoke rx name, args, tys⟩)
    (hw : swant all t o.guard = some true) (hd : dstOK fn.ntmps o.dst = true) (hx : evalS G t rx = .imm (.iface ty (.agg ds))) (hm : methOf P ty name = some f) (hb : hasBody P f = true) {argv : List SV}
    (hargs : .agg (ds.map .imm) :: args.toList.map (evalS G t) = argv) (hc : SPre P G f argv (H.take n) K) (h : ∀ r H1, K r H1 → H1.length = (H.take n).length → SWr E all rest k (tput t o.dst r) (H1 ++ H.drop n)) :
    SWr E all (o :: rest) k t H := by
  refine swr_invoke hop hw hd (by rw [hx]; rfl) hm hb rfl ?_
  refine scall_agg ?_
  rw [hargs]
  have := hc (H.drop n)
  rw [List.take_append_drop] at this
  refine this.mono (fun r H' ⟨H1, h1, h2, h3⟩ => ?_)
  subst h3
  refine ⟨?_, h r H1 h1 h2⟩
  simp only [List.length_take, List.length_append, List.length_drop] at h2 ⊢
  omega
end

def Cond.fn : Cond → Nat
  | .none => 0
  | .plain _ => 197
  | .cmp _ _ _ => 100
  | .neg _ => 198
  | .conn _ _ _ => 199
def Cond.cells : Cond → List SV
  | .none => []
  | .plain o => [ivS o.op, ivS o.n]
  | .cmp op l r => [ivS op, ivS l.op, ivS l.n, ivS r.op, ivS r.n]
  | .neg c => [.imm c.d]
  | .conn d l r => [ivS d, .imm l.d, .imm r.d]
def DecP (X : Nat → SObj) (s : St) (c : Cond) : Prop := SPre Tryz.prog G c.fn [.agg c.cells, .ptr 23 0] (WH X s) (fun r H' => r = ivS (c.dec s) ∧ H' = WH X s)

theorem swr_decide {fn : Func} {rd : Bool} {E : En Tryz.prog G fn rd} {t : List (Nat × SV)} {H : List SObj} {k : List Item} {all : Array Oper} {rest : List Oper} {o : Oper} {rx : Operand} {args : Array Operand} {tys : Array TypeId}
    {X : Nat → SObj} {s : St} {c : Cond} {n : Nat} (hc : c.ok n) (hP : DecP G X s c) (hop : o.op = .call ⟨.invoke rx "wageoffice/defeat.decide", args, tys⟩) (hw : swant all t o.guard = some true) (hd : dstOK fn.ntmps o.dst = true)
    (hx : evalS G t rx = .imm c.d) (ha : args.toList.map (evalS G t) = [.ptr 23 0]) (hH : H.take 24 = WH X s) (h : SWr E all rest k (tput t o.dst (ivS (c.dec s))) H) : SWr E all (o :: rest) k t H := by
  have fin : ∀ r H1, (r = ivS (c.dec s) ∧ H1 = WH X s) → H1.length = (H.take 24).length → SWr E all rest k (tput t o.dst r) (H1 ++ H.drop 24) := by
    intro r H1 h1 _
    obtain ⟨rfl, rfl⟩ := h1
    rw [← hH, List.take_append_drop]
    exact h
  cases c with
  | none => exact hc.elim
  | plain q => exact swr_invokeP 24 hop hw hd hx (by kernel_rfl) rfl (by rw [ha]) (by rw [hH]; exact hP) fin
  | cmp op l r => exact swr_invokeP 24 hop hw hd hx (by kernel_rfl) rfl (by rw [ha]) (by rw [hH]; exact hP) fin
  | neg q => exact swr_invokeP 24 hop hw hd hx (by kernel_rfl) rfl (by rw [ha]) (by rw [hH]; exact hP) fin
  | conn d l r => exact swr_invokeP 24 hop hw hd hx (by kernel_rfl) rfl (by rw [ha]) (by rw [hH]; exact hP) fin

theorem plain_dec {X : Nat → SObj} (hX : ∀ i, (X i).under 24 = true) (q : Opd) (s : St) (hl : s.ch.length = s.vs.length) (ho : q.ok s.vs.length) : DecP G X s (.plain q) := by
  unfold DecP
  refine wh_enter hX Tryz.func197 rfl (by rw [Tryz.ntmps197]; simp) rfl ?_; intro E hH hK
  (refine sgo_sound [777] 1000 ?_; conv => whnf)
  refine swr_pre 24 rfl rfl rfl rfl rfl rfl (value_spec G hX q.op q.n s hl ho) ?_
  intro r H1 hr _
  obtain ⟨rfl, rfl⟩ := hr
  (refine sgor_sound [777] 1000 ?_; conv => whnf)
  repeat' ((with_reducible first | refine bdec (fun h => ?_) (fun h => ?_) | refine bndec (fun h => ?_) (fun h => ?_) | refine bwtd (fun h => ?_) (fun h => ?_) | refine bwfd (fun h => ?_) (fun h => ?_) | refine bwtn (fun h => ?_) (fun h => ?_) | refine bwfn (fun h => ?_) (fun h => ?_) | refine bwtb (fun h => ?_) (fun h => ?_) | refine bwfb (fun h => ?_) (fun h => ?_) | refine bwt (fun h => ?_) (fun h => ?_) | refine bwf (fun h => ?_) (fun h => ?_) | refine bnt (fun h => ?_) (fun h => ?_) | refine bcase (fun h => ?_) (fun h => ?_)) <;> (conv => whnf))
  · exact hK (ivS 2) [_] s rfl ⟨by simp [Cond.dec, *], rfl⟩
  · refine swr_pure rfl rfl rfl rfl rfl rfl  (truth_spec G _) ?_
    (refine sgor_sound [777] 1000 ?_; conv => whnf)
    exact hK (ivS _) [_] s rfl ⟨by simp [Cond.dec, *], rfl⟩

theorem cmp_dec {X : Nat → SObj} (hX : ∀ i, (X i).under 24 = true) (op : Int) (l r : Opd) (s : St) (hl : s.ch.length = s.vs.length) (h1 : l.ok s.vs.length) (h2 : r.ok s.vs.length) : DecP G X s (.cmp op l r) := by
  unfold DecP
  refine wh_enter hX Tryz.func100 rfl (by rw [Tryz.ntmps100]; simp) rfl ?_; intro E hH hK
  (refine sgo_sound [777] 1000 ?_; conv => whnf)
  refine swr_pre 24 rfl rfl rfl rfl rfl rfl (value_spec G hX l.op l.n s hl h1) ?_
  intro r1 H1 hr _
  obtain ⟨rfl, rfl⟩ := hr
  (refine sgor_sound [777] 1000 ?_; conv => whnf)
  refine swr_pre 24 rfl rfl rfl rfl rfl rfl (value_spec G hX r.op r.n s hl h2) ?_
  intro r2 H2 hr _
  obtain ⟨rfl, rfl⟩ := hr
  have e : Cond.dec s (.cmp op l r) = if (l.val s).2 && (r.val s).2 then truthI (cmpI op (l.val s).1 (r.val s).1) else 2 := rfl
  rw [e] at hK
  change ∀ (r_1 : SV) (Y : List SObj) (s' : St), r_1.under 24 = true → (r_1 = ivS (if (Opd.val ⟨l.op, l.n⟩ s).2 && (Opd.val ⟨r.op, r.n⟩ s).2 then truthI (cmpI op (Opd.val ⟨l.op, l.n⟩ s).1 (Opd.val ⟨r.op, r.n⟩ s).1) else 2) ∧ WH X s' = WH X s) → _ at hK
  generalize Opd.val ⟨l.op, l.n⟩ s = a at hK ⊢
  generalize Opd.val ⟨r.op, r.n⟩ s = b at hK ⊢
  obtain ⟨a, ka⟩ := a
  obtain ⟨b, kb⟩ := b
  cases ka
  · (refine sgor_sound [777] 1000 ?_; conv => whnf)
    exact hK (ivS 2) [_] s rfl ⟨rfl, rfl⟩
  cases kb
  · (refine sgor_sound [777] 1000 ?_; conv => whnf)
    exact hK (ivS 2) [_] s rfl ⟨rfl, rfl⟩
  (refine sgor_sound [777] 1000 ?_; conv => whnf)
  repeat' ((with_reducible first | refine bdec (fun h => ?_) (fun h => ?_) | refine bndec (fun h => ?_) (fun h => ?_) | refine bwtd (fun h => ?_) (fun h => ?_) | refine bwfd (fun h => ?_) (fun h => ?_) | refine bwtn (fun h => ?_) (fun h => ?_) | refine bwfn (fun h => ?_) (fun h => ?_) | refine bwtb (fun h => ?_) (fun h => ?_) | refine bwfb (fun h => ?_) (fun h => ?_) | refine bwt (fun h => ?_) (fun h => ?_) | refine bwf (fun h => ?_) (fun h => ?_) | refine bnt (fun h => ?_) (fun h => ?_) | refine bcase (fun h => ?_) (fun h => ?_)) <;> (conv => whnf))
  · refine swr_pure rfl rfl rfl rfl rfl rfl  (truth_spec G _) ?_
    (refine sgor_sound [777] 1000 ?_; conv => whnf)
    exact hK (ivS _) [_] s rfl ⟨by simp [cmpI, *], rfl⟩
  · refine swr_pure rfl rfl rfl rfl rfl rfl  (truth_spec G _) ?_
    (refine sgor_sound [777] 1000 ?_; conv => whnf)
    exact hK (ivS _) [_] s rfl ⟨by simp [cmpI, *], rfl⟩
  · refine swr_pure rfl rfl rfl rfl rfl rfl  (truth_spec G _) ?_
    (refine sgor_sound [777] 1000 ?_; conv => whnf)
    exact hK (ivS _) [_] s rfl ⟨by simp [cmpI, *], rfl⟩

end Go.Proofs.YtblpjknmhajcgaaGreatDoor

/- Conditions of the search: negations, conjunctions, disjunctions. -/
namespace Go.Proofs.YtblpjknmhajcgaaGreatDoor
open Go Go.Sh
set_option maxRecDepth 10000
set_option maxHeartbeats 2000000
variable (G : List (Nat × D))

theorem neg_dec {X : Nat → SObj} (hX : ∀ i, (X i).under 24 = true) (c : Cond) (s : St) {n : Nat} (hc : c.ok n) (hP : DecP G X s c) : DecP G X s (.neg c) := by
  unfold DecP
  refine wh_enter hX Tryz.func198 rfl (by rw [Tryz.ntmps198]; simp) rfl ?_; intro E hH hK
  (refine sgo_sound [777, 6] 1000 ?_; conv => whnf)
  refine swr_loadAt (v := .imm c.d) rfl rfl rfl rfl rfl rfl ?_
  (refine sgor_sound [777] 1000 ?_; conv => whnf)
  refine swr_decide G hc hP rfl rfl rfl rfl (by rfl) (by rfl) ?_
  have e : Cond.dec s (.neg c) = if c.dec s = 0 then 1 else if c.dec s = 1 then 0 else 2 := rfl
  rw [e] at hK
  (refine sgor_sound [777] 1000 ?_; conv => whnf)
  repeat' ((with_reducible first | refine bdec (fun h => ?_) (fun h => ?_) | refine bndec (fun h => ?_) (fun h => ?_) | refine bwtd (fun h => ?_) (fun h => ?_) | refine bwfd (fun h => ?_) (fun h => ?_) | refine bwtn (fun h => ?_) (fun h => ?_) | refine bwfn (fun h => ?_) (fun h => ?_) | refine bwtb (fun h => ?_) (fun h => ?_) | refine bwfb (fun h => ?_) (fun h => ?_) | refine bwt (fun h => ?_) (fun h => ?_) | refine bwf (fun h => ?_) (fun h => ?_) | refine bnt (fun h => ?_) (fun h => ?_) | refine bcase (fun h => ?_) (fun h => ?_)) <;> (conv => whnf))
  · exact hK (ivS 1) [_] s rfl ⟨by simp [*], rfl⟩
  · exact hK (ivS 0) [_] s rfl ⟨by simp [*], rfl⟩
  · exact hK (ivS 2) [_] s rfl ⟨by simp [*], rfl⟩

theorem conn_dec {X : Nat → SObj} (hX : ∀ i, (X i).under 24 = true) (d : Int) (l r : Cond) (s : St) {n : Nat} (hl : l.ok n) (hr : r.ok n) (hP : DecP G X s l) (hQ : DecP G X s r) : DecP G X s (.conn d l r) := by
  unfold DecP
  refine wh_enter hX Tryz.func199 rfl (by rw [Tryz.ntmps199]; simp) rfl ?_; intro E hH hK
  (refine sgo_sound [777, 8] 1000 ?_; conv => whnf)
  refine swr_loadAt (v := .imm l.d) rfl rfl rfl rfl rfl rfl ?_
  (refine sgor_sound [777] 1000 ?_; conv => whnf)
  refine swr_decide G hl hP rfl rfl rfl rfl (by rfl) (by rfl) ?_
  have e : Cond.dec s (.conn d l r) = if l.dec s = d then l.dec s else if r.dec s = d ∨ l.dec s ≠ 2 then r.dec s else 2 := rfl
  rw [e] at hK
  (refine sgor_sound [777, 17] 1000 ?_; conv => whnf)
  repeat' ((with_reducible first | refine bdec (fun h => ?_) (fun h => ?_) | refine bndec (fun h => ?_) (fun h => ?_) | refine bwtd (fun h => ?_) (fun h => ?_) | refine bwfd (fun h => ?_) (fun h => ?_) | refine bwtn (fun h => ?_) (fun h => ?_) | refine bwfn (fun h => ?_) (fun h => ?_) | refine bwtb (fun h => ?_) (fun h => ?_) | refine bwfb (fun h => ?_) (fun h => ?_) | refine bwt (fun h => ?_) (fun h => ?_) | refine bwf (fun h => ?_) (fun h => ?_) | refine bnt (fun h => ?_) (fun h => ?_) | refine bcase (fun h => ?_) (fun h => ?_)) <;> (conv => whnf))
  · exact hK (ivS (l.dec s)) [_] s rfl ⟨by simp [*], rfl⟩
  · refine swr_loadAt (v := .imm r.d) rfl rfl rfl rfl rfl rfl ?_
    (refine sgor_sound [777] 1000 ?_; conv => whnf)
    refine swr_decide G hr hQ rfl rfl rfl rfl (by rfl) (by rfl) ?_
    (refine sgor_sound [777] 1000 ?_; conv => whnf)
    repeat' ((with_reducible first | refine bdec (fun h => ?_) (fun h => ?_) | refine bndec (fun h => ?_) (fun h => ?_) | refine bwtd (fun h => ?_) (fun h => ?_) | refine bwfd (fun h => ?_) (fun h => ?_) | refine bwtn (fun h => ?_) (fun h => ?_) | refine bwfn (fun h => ?_) (fun h => ?_) | refine bwtb (fun h => ?_) (fun h => ?_) | refine bwfb (fun h => ?_) (fun h => ?_) | refine bwt (fun h => ?_) (fun h => ?_) | refine bwf (fun h => ?_) (fun h => ?_) | refine bnt (fun h => ?_) (fun h => ?_) | refine bcase (fun h => ?_) (fun h => ?_)) <;> (conv => whnf))
    all_goals first | exact hK (ivS (r.dec s)) [_] s rfl ⟨by simp [*], rfl⟩ | exact hK (ivS 2) [_] s rfl ⟨by simp [*], rfl⟩ | exact hK (ivS 2) [_] s rfl ⟨by simp [*]; omega, rfl⟩

theorem dec_spec {X : Nat → SObj} (hX : ∀ i, (X i).under 24 = true) (s : St) (hl : s.ch.length = s.vs.length) : ∀ c : Cond, c.ok s.vs.length → DecP G X s c
  | .none, h => h.elim
  | .plain q, h => plain_dec G hX q s hl h
  | .cmp op l r, h => cmp_dec G hX op l r s hl h.1 h.2
  | .neg c, h => neg_dec G hX c s h (dec_spec hX s hl c h)
  | .conn d l r, h => conn_dec G hX d l r s h.1 h.2 (dec_spec hX s hl l h.1) (dec_spec hX s hl r h.2)



/-! ### the search's own cells -/
def Cond.row : Cond → List D
  | .cmp op l r => [iv op, iv l.op, iv l.n, iv r.op, iv r.n]
  | _ => [iv 0, iv 0, iv 0, iv 0, iv 0]
/-- the search: object 2; its maps 1, 3 .. 14; its conditions and atoms are appended through 15, 16 -/
def srCells (c : Codex) (vers : List Int) (s : Sr) : List SV :=
  [.imm (dDecls c.facts), .imm (dDecls c.lines), .imm (dArts c.arts), .imm (dInts vers), .asl 15 1 (s.conds.map fun c => [c.d]), .asl 16 5 (s.atoms.map Cond.row),
   sB (s.dates.getD 0 false), sB (s.dates.getD 1 false), sB (s.dates.getD 2 false), sB (s.dates.getD 3 false), sB (s.dates.getD 4 false), .map 1]
def XS (Y : Nat → SObj) (cs : List SV) (i : Nat) : SObj := if i = 2 then .cells cs else Y i
theorem XS_under {Y : Nat → SObj} (hY : ∀ i, (Y i).under 24 = true) (c : Codex) (vers : List Int) (s : Sr) (i : Nat) : (XS Y (srCells c vers s) i).under 24 = true := by
  unfold XS
  split
  · rfl
  · exact hY i

theorem verdict_spec {Y : Nat → SObj} (hY : ∀ i, (Y i).under 24 = true) (c : Codex) (vers : List Int) (q : Sr) (s : St) (hl : s.ch.length = s.vs.length) (hc : ∀ x ∈ q.conds, x.ok s.vs.length) (hsz : q.conds.length ≤ 1073741824) :
    SPre Tryz.prog G 69 [.ptr 2 0, .ptr 23 0] (WH (XS Y (srCells c vers q)) s) (fun r H' => r = ivS (verdict q.conds s) ∧ H' = WH (XS Y (srCells c vers q)) s) := by
  have hX := XS_under hY c vers q
  refine wh_enter hX Tryz.func69 rfl (by rw [Tryz.ntmps69]; simp) rfl ?_; intro E hH hK
  (refine sgo_sound [777] 1000 ?_; conv => whnf)
  refine sw_keep [0, 1, 5, 11, 12, 13] ?_
  refine sw_each q.conds (fun i (r : Int) => [(0, .ptr 2 0), (1, .ptr 23 0), (5, ivS r), (11, .asl 15 1 (q.conds.map fun c => [c.d])), (12, ivS (q.conds.map fun c : Cond => [c.d]).length), (13, ivS i)])
    (fun _ _ => WH (XS Y (srCells c vers q)) s) (fun _ rest r => verdictGo s q.conds 1 = verdictGo s rest r) 1 rfl ?_ ?_
  · intro r h1
    simp only [verdictGo] at h1
    have hll : (q.conds.map fun c : Cond => [c.d]).length = q.conds.length := by simp
    (refine sgo_sound [777] 1000 ?_; conv => whnf)
    repeat' ((with_reducible first | refine bdec (fun h => ?_) (fun h => ?_) | refine bndec (fun h => ?_) (fun h => ?_) | refine bwtd (fun h => ?_) (fun h => ?_) | refine bwfd (fun h => ?_) (fun h => ?_) | refine bwtn (fun h => ?_) (fun h => ?_) | refine bwfn (fun h => ?_) (fun h => ?_) | refine bwtb (fun h => ?_) (fun h => ?_) | refine bwfb (fun h => ?_) (fun h => ?_) | refine bwt (fun h => ?_) (fun h => ?_) | refine bwf (fun h => ?_) (fun h => ?_) | refine bnt (fun h => ?_) (fun h => ?_) | refine bcase (fun h => ?_) (fun h => ?_)) <;> (conv => whnf))
    all_goals try (exfalso; omega)
    exact hK (ivS r) [] s rfl ⟨by rw [verdict, h1], rfl⟩
  · intro done x rest r ha hlen h1 ih
    have hll : (q.conds.map fun c : Cond => [c.d]).length = q.conds.length := by simp
    have hw := wrap_succ (n := done.length) (by omega)
    simp only [verdictGo] at h1
    have hx := hc x (by rw [ha]; simp)
    have hrow : (q.conds.map fun c : Cond => [c.d])[((done.length : Nat) : Int).toNat]? = some [x.d] := by simp [ha]
    have hdx := dec_spec G hX s hl x hx
    generalize hdv : x.dec s = dv at h1
    rcases x with _ | o | ⟨op, l, r'⟩ | c' | ⟨d, l, r'⟩
    · exact hx.elim
    all_goals
      (refine sgo_sound [777] 1000 ?_; conv => whnf)
      repeat' ((with_reducible first | refine bdec (fun h => ?_) (fun h => ?_) | refine bndec (fun h => ?_) (fun h => ?_) | refine bwtd (fun h => ?_) (fun h => ?_) | refine bwfd (fun h => ?_) (fun h => ?_) | refine bwtn (fun h => ?_) (fun h => ?_) | refine bwfn (fun h => ?_) (fun h => ?_) | refine bwtb (fun h => ?_) (fun h => ?_) | refine bwfb (fun h => ?_) (fun h => ?_) | refine bwt (fun h => ?_) (fun h => ?_) | refine bwf (fun h => ?_) (fun h => ?_) | refine bnt (fun h => ?_) (fun h => ?_) | refine bcase (fun h => ?_) (fun h => ?_)) <;> (conv => whnf))
      all_goals try (exfalso; omega)
      refine swr_index rfl rfl rfl rfl rfl rfl rfl rfl  hrow ?_
      (refine sgor_sound [777] 1000 ?_; conv => whnf)
      refine swr_decide G hx hdx rfl rfl rfl rfl (by rfl) (by rfl) ?_
      rw [hdv]
      (refine sgor_sound [777] 1000 ?_; conv => whnf)
      repeat' ((with_reducible first | refine bdec (fun h => ?_) (fun h => ?_) | refine bndec (fun h => ?_) (fun h => ?_) | refine bwtd (fun h => ?_) (fun h => ?_) | refine bwfd (fun h => ?_) (fun h => ?_) | refine bwtn (fun h => ?_) (fun h => ?_) | refine bwfn (fun h => ?_) (fun h => ?_) | refine bwtb (fun h => ?_) (fun h => ?_) | refine bwfb (fun h => ?_) (fun h => ?_) | refine bwt (fun h => ?_) (fun h => ?_) | refine bwf (fun h => ?_) (fun h => ?_) | refine bnt (fun h => ?_) (fun h => ?_) | refine bcase (fun h => ?_) (fun h => ?_)) <;> (conv => whnf))
      · exact hK (ivS 0) [] s rfl ⟨by rw [verdict, h1, if_pos (by assumption)], rfl⟩
      · rw [hw]
        exact sw_kc [0, 1, 5, 11, 12, 13] 24 (by omega) (by simp [WH]) rfl (WH_under hX s) (ih 2 (by rw [h1, if_neg (by assumption), if_pos (by assumption)]))
      · rw [hw]
        exact sw_kc [0, 1, 5, 11, 12, 13] 24 (by omega) (by simp [WH]) rfl (WH_under hX s) (ih r (by rw [h1, if_neg (by assumption), if_neg (by assumption)]))

/-! ### dates -/
theorem valid_spec (d : Int) : SPure Tryz.prog G 136 [sI d] (sB (decide (0 ≤ d) && decide (d ≤ 36524))) := by
  refine spure_enter Tryz.func136 rfl (by rw [Tryz.ntmps136]; simp) rfl rfl ?_; intro E hH hK
  (refine sgo_sound [] 1000 ?_; conv => whnf)
  repeat' ((with_reducible first | refine bdec (fun h => ?_) (fun h => ?_) | refine bndec (fun h => ?_) (fun h => ?_) | refine bwtd (fun h => ?_) (fun h => ?_) | refine bwfd (fun h => ?_) (fun h => ?_) | refine bwtn (fun h => ?_) (fun h => ?_) | refine bwfn (fun h => ?_) (fun h => ?_) | refine bwtb (fun h => ?_) (fun h => ?_) | refine bwfb (fun h => ?_) (fun h => ?_) | refine bwt (fun h => ?_) (fun h => ?_) | refine bwf (fun h => ?_) (fun h => ?_) | refine bnt (fun h => ?_) (fun h => ?_) | refine bcase (fun h => ?_) (fun h => ?_)) <;> (conv => whnf))
  all_goals exact kB hK (by simp [*])
theorem weekday_spec (d : Int) : SPure Tryz.prog G 99 [sI d] (sI (weekOf d)) := by
  by_cases hd : 0 ≤ d ∧ d ≤ 36524
  · refine spure_enter Tryz.func99 rfl (by rw [Tryz.ntmps99]; simp) rfl rfl ?_; intro E hH hK
    (refine sgo_sound [] 1000 ?_; conv => whnf)
    refine swr_pure rfl rfl rfl rfl rfl rfl  (valid_spec G d) ?_
    rw [show (decide (0 ≤ d) && decide (d ≤ 36524)) = true by simp [hd]]
    (refine sgor_sound [] 1000 ?_; conv => whnf)
    refine kI hK ?_
    rw [weekOf, if_pos hd, wrap64 (c := d + 5) (by omega) (by omega), Int.tmod_eq_emod_of_nonneg (by omega), wrap64 (by omega) (by omega)]
  · refine spure_enter Tryz.func99 rfl (by rw [Tryz.ntmps99]; simp) rfl rfl ?_; intro E hH hK
    (refine sgo_sound [] 1000 ?_; conv => whnf)
    refine swr_pure rfl rfl rfl rfl rfl rfl  (valid_spec G d) ?_
    rw [show (decide (0 ≤ d) && decide (d ≤ 36524)) = false by simp; omega]
    (refine sgor_sound [] 1000 ?_; conv => whnf)
    exact kI hK (by rw [weekOf, if_neg hd])
end Go.Proofs.YtblpjknmhajcgaaGreatDoor

/- The calendar's dates: contracts. -/
namespace Go.Proofs.YtblpjknmhajcgaaGreatDoor
open Go Go.Sh
set_option maxRecDepth 10000
set_option maxHeartbeats 2000000

abbrev dateSV (r : Int × Int × Int) : SV := .tup [sI r.1, sI r.2.1, sI r.2.2]
theorem lengthOf_at (y m : Nat) (hm : m < 12) (hy : y ≤ 99) : SPure Tryz.prog G0 137 [sI (2000 + (y : Int)), sI (m : Int)] (sI (lenOf (12 * y + m))) := by
  have h := lengthOf_spec (2000 + (y : Int)) (m : Int) (by omega) (by omega)
  have e : lenOf (12 * y + m) = daysIn (2000 + (y : Int)) ((m : Int) + 1) := by
    unfold lenOf
    rw [show (12 * y + m) / 12 = y by omega, show (12 * y + m) % 12 = m by omega]
  rw [e]
  exact h
theorem date_spec (d : Int) : SPure Tryz.prog G0 98 [sI d] (dateSV (dateOf d)) := by
  by_cases hd : 0 ≤ d ∧ d ≤ 36524
  case neg =>
    refine spure_enter Tryz.func98 rfl (by rw [Tryz.ntmps98]; simp) rfl rfl ?_; intro E hH hK
    (refine sgo_sound [] 1000 ?_; conv => whnf)
    refine sw_scope ?_
    (refine sgo_sound [] 1000 ?_; conv => whnf)
    refine swr_pure rfl rfl rfl rfl rfl rfl  (valid_spec G0 d) ?_
    rw [show (decide (0 ≤ d) && decide (d ≤ 36524)) = false by simp; omega]
    rw [dateOf, if_neg hd] at hK
    (refine sgor_sound [] 1000 ?_; conv => whnf)
    exact hK _
  refine spure_enter Tryz.func98 rfl (by rw [Tryz.ntmps98]; simp) rfl rfl ?_; intro E hH hK
  (refine sgo_sound [] 1000 ?_; conv => whnf)
  refine sw_scope ?_
  (refine sgo_sound [] 1000 ?_; conv => whnf)
  refine swr_pure rfl rfl rfl rfl rfl rfl  (valid_spec G0 d) ?_
  rw [show (decide (0 ≤ d) && decide (d ≤ 36524)) = true by simp [hd]]
  (refine sgor_sound [] 1000 ?_; conv => whnf)
  obtain ⟨q, hq⟩ : ∃ q : Nat, d / 1461 = q := ⟨(d / 1461).toNat, by omega⟩
  have hq25 : q ≤ 25 := by omega
  have e5 : IntKind.i64.wrap (2000 + IntKind.i64.wrap (IntKind.i64.wrap (d.tdiv 1461) * 4)) = 2000 + ((4 * q : Nat) : Int) := by
    rw [Int.tdiv_eq_ediv_of_nonneg hd.1, hq, wrap64 (c := (q : Int)) (by omega) (by omega), wrap64 (c := (q : Int) * 4) (by omega) (by omega), wrap64 (by omega) (by omega)]
    omega
  have e6 : d.tmod 1461 = d - firstOf (12 * (4 * q)) := by
    rw [Int.tmod_eq_emod_of_nonneg hd.1, show 12 * (4 * q) = 48 * q by omega, firstOf_four q hq25]
    omega
  rw [e5, e6]
  refine sw_label ?_
  (refine sgo_sound [] 1000 ?_; conv => whnf)
  refine sw_keep [5, 6, 7] ?_
  refine sw_loop_ind (σ := Nat) (fun y => [(5, sI (2000 + (y : Int))), (6, sI (d - firstOf (12 * y))), (7, sI 0)]) (fun _ => []) (fun y => y ≤ 99 ∧ firstOf (12 * y) ≤ d) (fun y => 100 - y) ?_ (4 * q) ⟨by omega, by rw [show 12 * (4 * q) = 48 * q by omega, firstOf_four q hq25]; omega⟩
  intro y ⟨hy, hle⟩ ih
  (refine sgo_sound [] 1000 ?_; conv => whnf)
  refine sw_keep [5, 6, 7, 19] ?_
  refine sw_loop_ind (σ := Nat) (fun m => [(5, sI (2000 + (y : Int))), (6, sI (d - firstOf (12 * y + m))), (7, sI 0), (19, sI (m : Int))]) (fun _ => []) (fun m => m ≤ 12 ∧ firstOf (12 * y + m) ≤ d) (fun m => 13 - m) ?_ 0 ⟨by omega, hle⟩
  intro m ⟨hm, hle2⟩ ih2
  have hst : firstOf (12 * y + m + 1) = firstOf (12 * y + m) + lenOf (12 * y + m) := rfl
  have hlr := lenOf_range (12 * y + m)
  have hfb := firstOf_bound (12 * y + m)
  (refine sgo_sound [] 1000 ?_; conv => whnf)
  repeat' ((with_reducible first | refine bdec (fun h => ?_) (fun h => ?_) | refine bndec (fun h => ?_) (fun h => ?_) | refine bwtd (fun h => ?_) (fun h => ?_) | refine bwfd (fun h => ?_) (fun h => ?_) | refine bwtn (fun h => ?_) (fun h => ?_) | refine bwfn (fun h => ?_) (fun h => ?_) | refine bwtb (fun h => ?_) (fun h => ?_) | refine bwfb (fun h => ?_) (fun h => ?_) | refine bwt (fun h => ?_) (fun h => ?_) | refine bwf (fun h => ?_) (fun h => ?_) | refine bnt (fun h => ?_) (fun h => ?_) | refine bcase (fun h => ?_) (fun h => ?_)) <;> (conv => whnf))
  · refine swr_pure rfl rfl rfl rfl rfl rfl  (lengthOf_at y m (by omega) hy) ?_
    (refine sgor_sound [] 1000 ?_; conv => whnf)
    repeat' ((with_reducible first | refine bdec (fun h => ?_) (fun h => ?_) | refine bndec (fun h => ?_) (fun h => ?_) | refine bwtd (fun h => ?_) (fun h => ?_) | refine bwfd (fun h => ?_) (fun h => ?_) | refine bwtn (fun h => ?_) (fun h => ?_) | refine bwfn (fun h => ?_) (fun h => ?_) | refine bwtb (fun h => ?_) (fun h => ?_) | refine bwfb (fun h => ?_) (fun h => ?_) | refine bwt (fun h => ?_) (fun h => ?_) | refine bwf (fun h => ?_) (fun h => ?_) | refine bnt (fun h => ?_) (fun h => ?_) | refine bcase (fun h => ?_) (fun h => ?_)) <;> (conv => whnf))
    · have := dateOf_at (d := d) (y := y) (m := m) (r := d - firstOf (12 * y + m)) hd (by omega) (by omega) (by omega) (by omega)
      rw [this] at hK
      rw [wrap64 (c := (m : Int) + 1) (by omega) (by omega), wrap64 (c := d - firstOf (12 * y + m) + 1) (by omega) (by omega)]
      exact hK _
    · rw [wrap64 (c := (m : Int) + 1) (by omega) (by omega), wrap64 (c := d - firstOf (12 * y + m) - lenOf (12 * y + m)) (by omega) (by omega)]
      have e : d - firstOf (12 * y + m) - lenOf (12 * y + m) = d - firstOf (12 * y + (m + 1)) := by
        rw [show 12 * y + (m + 1) = 12 * y + m + 1 by omega]
        omega
      rw [e]
      refine sw_keep [5, 6, 7, 19] ?_
      exact ih2 (m + 1) ⟨by omega, by rw [show 12 * y + (m + 1) = 12 * y + m + 1 by omega]; omega⟩ (by omega)
  · have hm12 : m = 12 := by omega
    subst hm12
    have hlt := month_year (d := d) (y := y + 1) (m := 0) (r := d - firstOf (12 * y + 12)) hd.2 (by omega) (by rw [show 12 * (y + 1) + 0 = 12 * y + 12 by omega]; omega)
    rw [wrap64 (by omega) (by omega)]
    refine sw_keep [5, 6, 7] ?_
    have := ih (y + 1) ⟨by omega, by rw [show 12 * (y + 1) = 12 * y + 12 by omega]; exact hle2⟩ (by omega)
    rw [show 12 * (y + 1) = 12 * y + 12 by omega, show 2000 + ((y + 1 : Nat) : Int) = 2000 + (y : Int) + 1 by omega] at this
    exact this
end Go.Proofs.YtblpjknmhajcgaaGreatDoor

/- The search for a witness: what it finds is the least (plain). -/
namespace Go.Proofs.YtblpjknmhajcgaaGreatDoor
open Go Go.Sh
set_option maxRecDepth 10000

abbrev Parts := Int × Int × Int × Int × Int
def partAt (p : Parts) (i : Int) : Int := if i = 0 then p.1 else if i = 1 then p.2.1 else if i = 2 then p.2.2.1 else if i = 3 then p.2.2.2.1 else p.2.2.2.2
def Opd.tv (o : Opd) (p : Parts) (vs : List Int) : Int := if o.op = 2 then vs.getD o.n.toNat 0 else if o.op = 4 then partAt p o.n else o.n
def Cond.tru (p : Parts) (vs : List Int) : Cond → Bool
  | .none => false
  | .plain o => !decide (o.tv p vs = 0)
  | .cmp op l r => cmpI op (l.tv p vs) (r.tv p vs)
  | .neg c => !c.tru p vs
  | .conn d l r => if d = 1 then l.tru p vs || r.tru p vs else l.tru p vs && r.tru p vs
def Cond.good : Cond → Prop
  | .none => False
  | .plain _ => True
  | .cmp _ _ _ => True
  | .neg c => c.good
  | .conn d l r => (d = 0 ∨ d = 1) ∧ l.good ∧ r.good
/-- all facts in it are of this kind -/
def Opd.inF (F : Int → Prop) (o : Opd) : Prop := o.op = 2 → F o.n
def Cond.inF (F : Int → Prop) : Cond → Prop
  | .none => True
  | .plain o => o.inF F
  | .cmp _ l r => l.inF F ∧ r.inF F
  | .neg c => c.inF F
  | .conn _ l r => l.inF F ∧ r.inF F
theorem Opd.inF_mono {F F' : Int → Prop} (h : ∀ f, F f → F' f) {o : Opd} (ho : o.inF F) : o.inF F' := fun e => h _ (ho e)
theorem Cond.inF_mono {F F' : Int → Prop} (h : ∀ f, F f → F' f) : ∀ (c : Cond), c.inF F → c.inF F'
  | .none, _ => trivial
  | .plain _, hc => Opd.inF_mono h hc
  | .cmp _ _ _, hc => ⟨Opd.inF_mono h hc.1, Opd.inF_mono h hc.2⟩
  | .neg c, hc => Cond.inF_mono h c hc
  | .conn _ l r, hc => ⟨Cond.inF_mono h l hc.1, Cond.inF_mono h r hc.2⟩

/-- a state knows part of these values -/
def St.part_of (s : St) (vs : List Int) : Prop := ∀ i : Nat, s.ch.getD i false = true → s.vs.getD i 0 = vs.getD i 0
theorem truthI_cases (b : Bool) : (truthI b = 0 ∧ b = false) ∨ (truthI b = 1 ∧ b = true) := by cases b <;> simp [truthI]
def SatC (conds : List Cond) (p : Parts) (vs : List Int) : Prop := ∀ c ∈ conds, c.tru p vs = true
/-! ### assignments in their order -/
def lessF : List Int → List Int → List Int → Bool
  | [], _, _ => false
  | f :: r, a, b => if a.getD f.toNat 0 ≠ b.getD f.toNat 0 then decide (a.getD f.toNat 0 < b.getD f.toNat 0) else lessF r a b
theorem getD_set {α : Type} (l : List α) (i j : Nat) (a d : α) : (l.set i a).getD j d = if i = j ∧ j < l.length then a else l.getD j d := by
  rw [List.getD_eq_getElem?_getD, List.getD_eq_getElem?_getD, List.getElem?_set]
  by_cases h : i = j
  · subst h
    by_cases h2 : i < l.length
    · simp [h2]
    · simp [h2, List.getElem?_eq_none (Nat.le_of_not_lt h2)]
  · simp [h]
/-- values that come from a state and candidates -/
structure CandV (rest : List (Int × List Int)) (s : St) (v : List Int) : Prop where
  len : v.length = s.vs.length
  mem : ∀ e ∈ rest, v.getD e.1.toNat 0 ∈ e.2
  oth : ∀ i : Nat, (∀ e ∈ rest, e.1.toNat ≠ i) → v.getD i 0 = s.vs.getD i 0
structure RestOK (conds : List Cond) (rest : List (Int × List Int)) (s : St) : Prop where
  len : s.ch.length = s.vs.length
  rng : ∀ e ∈ rest, 0 ≤ e.1 ∧ e.1 < s.vs.length
  nd : (rest.map (·.1)).Nodup
  off : ∀ e ∈ rest, s.ch.getD e.1.toNat false = false
  inF : ∀ c ∈ conds, c.inF fun f => s.ch.getD f.toNat false = true ∨ ∃ e ∈ rest, e.1 = f
  ord : ∀ e ∈ rest, e.2.Pairwise (· < ·)
theorem RestOK.put {conds : List Cond} {f : Int} {vals : List Int} {rest : List (Int × List Int)} {s : St} (h : RestOK conds ((f, vals) :: rest) s) (w : Int) : RestOK conds rest (s.put f w) := by
  have hf := h.rng (f, vals) (by simp)
  have hnd := h.nd
  simp only [List.map_cons, List.nodup_cons] at hnd
  have hne : ∀ e ∈ rest, f ≠ e.1 := fun e he eq => hnd.1 (List.mem_map.2 ⟨e, he, eq.symm⟩)
  refine ⟨by simp [St.put, h.len], fun e he => ?_, hnd.2, fun e he => ?_, fun c hc => Cond.inF_mono (fun g hg => ?_) c (h.inF c hc), fun e he => h.ord e (by simp [he])⟩
  · have := h.rng e (by simp [he]); simpa [St.put] using this
  · have h1 := h.rng e (by simp [he])
    have h2 := hne e he
    simp only [St.put]
    rw [getD_set, if_neg (by omega)]
    exact h.off e (by simp [he])
  · rcases hg with hg | ⟨e, he, hg⟩
    · left
      simp only [St.put]
      rw [getD_set]
      split
      · rfl
      · exact hg
    · rcases List.mem_cons.1 he with rfl | he
      · left
        simp only at hg
        subst hg
        simp only [St.put]
        rw [getD_set, if_pos ⟨rfl, by rw [h.len]; simp only at hf; omega⟩]
      · exact .inr ⟨e, he, hg⟩
theorem CandV.cons {conds : List Cond} {f : Int} {vals : List Int} {rest : List (Int × List Int)} {s : St} (h : RestOK conds ((f, vals) :: rest) s) {v : List Int} : CandV ((f, vals) :: rest) s v ↔ ∃ w ∈ vals, v.getD f.toNat 0 = w ∧ CandV rest (s.put f w) v := by
  have hf := h.rng (f, vals) (by simp)
  simp only at hf
  have hnd := h.nd
  simp only [List.map_cons, List.nodup_cons] at hnd
  constructor
  · intro hv
    refine ⟨_, hv.mem (f, vals) (by simp), rfl, by simp [St.put, hv.len], fun e he => hv.mem e (by simp [he]), fun i hi => ?_⟩
    simp only [St.put]
    rw [getD_set]
    split
    · rename_i e; rw [← e.1]
    · rename_i e
      refine hv.oth i fun e' he' => ?_
      rcases List.mem_cons.1 he' with rfl | he'
      · intro eq
        simp only at eq
        exact e ⟨eq, by omega⟩
      · exact hi e' he'
  · rintro ⟨w, hw, he, hv⟩
    refine ⟨by simpa [St.put] using hv.len, fun e he' => ?_, fun i hi => ?_⟩
    · rcases List.mem_cons.1 he' with rfl | he'
      · simp only; rw [he]; exact hw
      · exact hv.mem e he'
    · have h1 := hv.oth i (fun e he' => hi e (by simp [he']))
      have h2 := hi (f, vals) (by simp)
      simp only [St.put] at h1
      rw [getD_set, if_neg (fun h => h2 h.1)] at h1
      exact h1
/-! ### signatures -/
theorem dec_range (s : St) : ∀ c : Cond, c.dec s = 0 ∨ c.dec s = 1 ∨ c.dec s = 2
  | .none => .inr (.inr rfl)
  | .plain o => by
    simp only [Cond.dec]
    split
    · rcases truthI_cases (!decide ((o.val s).1 = 0)) with e | e <;> rw [e.1] <;> omega
    · omega
  | .cmp op l r => by
    simp only [Cond.dec]
    split
    · rcases truthI_cases (cmpI op (l.val s).1 (r.val s).1) with e | e <;> rw [e.1] <;> omega
    · omega
  | .neg c => by
    simp only [Cond.dec]
    split
    · omega
    · split <;> omega
  | .conn d l r => by
    simp only [Cond.dec]
    have h1 := dec_range s l
    have h2 := dec_range s r
    split
    · exact h1
    · split
      · exact h2
      · omega
/-- what depends on the date is an atom -/
def Cond.cov (atoms : List Cond) : Cond → Prop
  | .none => True
  | .plain o => o.op ≠ 4
  | .cmp op l r => l.op = 4 ∨ r.op = 4 → Cond.cmp op l r ∈ atoms ∧ l.op ≠ 2 ∧ r.op ≠ 2
  | .neg c => c.cov atoms
  | .conn _ l r => l.cov atoms ∧ r.cov atoms
/-! ### days in their order -/
structure SrOK (s : Sr) (nf : Nat) : Prop where
  good : ∀ c ∈ s.conds, c.good
  rest : ∀ day, RestOK s.conds (choicesOf s.cands) (st0 nf day)
  cov : ∀ c ∈ s.conds, c.cov s.atoms
/-- values of all facts, candidates where there are some, 0 else -/
abbrev CandN (s : Sr) (nf : Nat) (v : List Int) : Prop := CandV (choicesOf s.cands) (st0 nf 0) v
abbrev SatD (s : Sr) (day : Int) (v : List Int) : Prop := SatC s.conds (partsOf day) v
def factsOf (s : Sr) : List Int := (choicesOf s.cands).map (·.1)
end Go.Proofs.YtblpjknmhajcgaaGreatDoor

/- Dates repeat; the witness is least on all days on which the versions are in force (plain). -/
namespace Go.Proofs.YtblpjknmhajcgaaGreatDoor
open Go Go.Sh
set_option maxRecDepth 10000

theorem month_ex {d : Int} (h0 : 0 ≤ d) : ∀ {N : Nat}, d < firstOf N → ∃ M, M < N ∧ firstOf M ≤ d ∧ d < firstOf (M + 1)
  | 0, h => by simp [firstOf] at h; omega
  | N + 1, h => by
    rcases Int.lt_or_le d (firstOf N) with h1 | h1
    · obtain ⟨M, g1, g2, g3⟩ := month_ex h0 h1
      exact ⟨M, by omega, g2, g3⟩
    · exact ⟨N, by omega, h1, h⟩
/-- a day's month, and what its date is -/
theorem date_ex {d : Int} (h : 0 ≤ d ∧ d ≤ 36524) : ∃ M : Nat, M < 1200 ∧ firstOf M ≤ d ∧ d < firstOf (M + 1) ∧ dateOf d = (2000 + ((M / 12 : Nat) : Int), ((M % 12 : Nat) : Int) + 1, d - firstOf M + 1) := by
  obtain ⟨M, h1, h2, h3⟩ := month_ex h.1 (N := 1200) (by rw [firstOf_1200]; omega)
  refine ⟨M, h1, h2, h3, ?_⟩
  have h4 : firstOf (M + 1) = firstOf M + lenOf M := rfl
  have e : 12 * (M / 12) + M % 12 = M := by omega
  exact dateOf_at (y := M / 12) (m := M % 12) (r := d - firstOf M) h (by omega) (by omega) (by rw [e]; omega) (by rw [e]; omega)
/-- the parts of the date that these flags name are the same -/
def SameParts (d : List Bool) (p p' : Parts) : Prop := ∀ i : Int, 1 ≤ i → i ≤ 4 → d.getD i.toNat false = true → partAt p i = partAt p' i
def Opd.dateIn (d : List Bool) (o : Opd) : Prop := o.op = 4 → 1 ≤ o.n ∧ o.n ≤ 4 ∧ d.getD o.n.toNat false = true
def Cond.dateIn (d : List Bool) : Cond → Prop
  | .none => True
  | .plain o => o.dateIn d
  | .cmp _ l r => l.dateIn d ∧ r.dateIn d
  | .neg c => c.dateIn d
  | .conn _ l r => l.dateIn d ∧ r.dateIn d
theorem horizon_pos (fl : List Bool) : 1 ≤ horizonOf fl := by
  unfold horizonOf
  split
  · omega
  · split
    · omega
    · split
      · omega
      · split <;> omega

/-! ### all values from 0 on -/
/-- a fact's candidates let its comparisons be decided: with a constant n, or a truth value -/
def Opd.clo (m : List (Int × List Int)) (o q : Opd) : Prop := o.op = 2 → q.op ≠ 2 ∧ q.op ≠ 4 ∧ ∃ l, alook o.n m = some l ∧ 0 ∈ l ∧ (1 ∈ l ∧ (∀ x ∈ l, x = 0 ∨ x = 1) ∨ (q.n ∈ l ∧ q.n + 1 ∈ l))
def Cond.clo (m : List (Int × List Int)) : Cond → Prop
  | .none => True
  | .plain o => o.op = 2 → ∃ l, alook o.n m = some l ∧ 0 ∈ l ∧ 1 ∈ l
  | .cmp _ l r => l.clo m r ∧ r.clo m l
  | .neg c => c.clo m
  | .conn _ l r => l.clo m ∧ r.clo m
end Go.Proofs.YtblpjknmhajcgaaGreatDoor

/- The search: dates of its state, signatures, days (contracts). -/
namespace Go.Proofs.YtblpjknmhajcgaaGreatDoor
open Go Go.Sh
set_option maxRecDepth 10000
set_option maxHeartbeats 2000000

theorem next_date {d : Int} (h : 1 ≤ d ∧ d ≤ 36524) (hlt : (dateOf (d - 1)).2.2 < 28) : dateOf d = ((dateOf (d - 1)).1, (dateOf (d - 1)).2.1, (dateOf (d - 1)).2.2 + 1) := by
  obtain ⟨M, h1, h2, h3, e⟩ := date_ex (d := d - 1) (by omega)
  rw [e] at hlt ⊢
  simp only at hlt ⊢
  have hr := lenOf_range M
  have := dateOf_at (d := d) (y := M / 12) (m := M % 12) (r := d - firstOf M) (by omega) (by omega) (by omega) (by rw [show 12 * (M / 12) + M % 12 = M by omega]; omega) (by rw [show 12 * (M / 12) + M % 12 = M by omega]; omega)
  rw [this]
  congr 2
  omega
theorem next_week {d : Int} (h : 1 ≤ d ∧ d ≤ 36524) : weekOf d = (weekOf (d - 1)).tmod 7 + 1 := by
  unfold weekOf
  rw [if_pos (by omega), if_pos (by omega), Int.tmod_eq_emod_of_nonneg (a := d + 5) (by omega), Int.tmod_eq_emod_of_nonneg (a := d - 1 + 5) (by omega), Int.tmod_eq_emod_of_nonneg (by omega)]
  omega
theorem date_rng {d : Int} (h : 0 ≤ d ∧ d ≤ 36524) : 2000 ≤ (dateOf d).1 ∧ (dateOf d).1 ≤ 2099 ∧ 1 ≤ (dateOf d).2.1 ∧ (dateOf d).2.1 ≤ 12 ∧ 1 ≤ (dateOf d).2.2 ∧ (dateOf d).2.2 ≤ 31 := by
  obtain ⟨M, h1, h2, h3, e⟩ := date_ex h
  rw [e]
  simp only
  have hr := lenOf_range M
  have hst : firstOf (M + 1) = firstOf M + lenOf M := rfl
  omega
theorem week_rng {d : Int} (h : 0 ≤ d ∧ d ≤ 36524) : 1 ≤ weekOf d ∧ weekOf d ≤ 7 := by
  unfold weekOf
  rw [if_pos h, Int.tmod_eq_emod_of_nonneg (by omega)]
  omega

def WHL (X : Nat → SObj) (p0 p1 p2 p3 p4 : Int) (ch : List Bool) (vs : List Int) : List SObj :=
  [X 0, X 1, X 2, X 3, X 4, X 5, X 6, X 7, X 8, X 9, X 10, X 11, X 12, X 13, X 14, X 15, X 16, X 17, X 18, X 19, X 20, .cells (ch.map bvS), .cells (vs.map ivS),
   .cells [ivS p0, ivS p1, ivS p2, ivS p3, ivS p4, .osl 21 0 ch.length, .osl 22 0 vs.length]]
theorem WH_eq (X : Nat → SObj) (p0 p1 p2 p3 p4 : Int) (ch : List Bool) (vs : List Int) : WH X ⟨(p0, p1, p2, p3, p4), ch, vs⟩ = WHL X p0 p1 p2 p3 p4 ch vs := rfl

theorem advance_fresh {X : Nat → SObj} (hX : ∀ i, (X i).under 24 = true) (p0 p1 p2 p3 p4 : Int) (ch : List Bool) (vs : List Int) (day : Int) (hp : p4 = 0 ∨ 28 ≤ p2) :
    SPre Tryz.prog G0 68 [.ptr 23 0, sI day] (WH X ⟨(p0, p1, p2, p3, p4), ch, vs⟩) (fun r H' => r = .tup [] ∧ H' = WH X ⟨partsOf day, ch, vs⟩) := by
  refine wh_enter hX Tryz.func68 rfl (by rw [Tryz.ntmps68]; simp) rfl ?_; intro E hH hK
  rw [WH_eq]
  (refine sgo_sound [777] 1000 ?_; conv => whnf)
  repeat' ((with_reducible first | refine bdec (fun h => ?_) (fun h => ?_) | refine bndec (fun h => ?_) (fun h => ?_) | refine bwtd (fun h => ?_) (fun h => ?_) | refine bwfd (fun h => ?_) (fun h => ?_) | refine bwtn (fun h => ?_) (fun h => ?_) | refine bwfn (fun h => ?_) (fun h => ?_) | refine bwtb (fun h => ?_) (fun h => ?_) | refine bwfb (fun h => ?_) (fun h => ?_) | refine bwt (fun h => ?_) (fun h => ?_) | refine bwf (fun h => ?_) (fun h => ?_) | refine bnt (fun h => ?_) (fun h => ?_) | refine bcase (fun h => ?_) (fun h => ?_)) <;> (conv => whnf))
  all_goals try (exfalso; omega)
  all_goals refine swr_pure rfl rfl rfl rfl rfl rfl  (date_spec day) ?_
  all_goals (refine sgor_sound [777] 1000 ?_; conv => whnf)
  all_goals refine swr_pure rfl rfl rfl rfl rfl rfl  (weekday_spec G0 day) ?_
  all_goals (refine sgor_sound [777] 1000 ?_; conv => whnf)
  all_goals exact hK (.tup []) [] ⟨partsOf day, ch, vs⟩ rfl ⟨rfl, rfl⟩
theorem advance_next {X : Nat → SObj} (hX : ∀ i, (X i).under 24 = true) (p0 p1 p2 p3 p4 : Int) (ch : List Bool) (vs : List Int) (day : Int) (hp : 0 < p4 ∧ p2 < 28) (h1 : 1 ≤ p1 ∧ p1 ≤ 7) (h2 : 0 ≤ p2) :
    SPre Tryz.prog G0 68 [.ptr 23 0, sI day] (WH X ⟨(p0, p1, p2, p3, p4), ch, vs⟩) (fun r H' => r = .tup [] ∧ H' = WH X ⟨(p0, p1.tmod 7 + 1, p2 + 1, p3, p4), ch, vs⟩) := by
  refine wh_enter hX Tryz.func68 rfl (by rw [Tryz.ntmps68]; simp) rfl ?_; intro E hH hK
  rw [WH_eq]
  (refine sgo_sound [777] 1000 ?_; conv => whnf)
  repeat' ((with_reducible first | refine bdec (fun h => ?_) (fun h => ?_) | refine bndec (fun h => ?_) (fun h => ?_) | refine bwtd (fun h => ?_) (fun h => ?_) | refine bwfd (fun h => ?_) (fun h => ?_) | refine bwtn (fun h => ?_) (fun h => ?_) | refine bwfn (fun h => ?_) (fun h => ?_) | refine bwtb (fun h => ?_) (fun h => ?_) | refine bwfb (fun h => ?_) (fun h => ?_) | refine bwt (fun h => ?_) (fun h => ?_) | refine bwf (fun h => ?_) (fun h => ?_) | refine bnt (fun h => ?_) (fun h => ?_) | refine bcase (fun h => ?_) (fun h => ?_)) <;> (conv => whnf))
  all_goals try (exfalso; omega)
  (refine swe_start 0 mixed rfl ?_; refine sgoe_sound [777] (nx := 24) ?_; conv => whnf)
  (refine sgo_sound [777] 1000 ?_; conv => whnf)
  (refine swe_start 0 mixed rfl ?_; refine sgoe_sound [777] (nx := 24) ?_; conv => whnf)
  (refine sgo_sound [777] 1000 ?_; conv => whnf)
  have e1 : IntKind.i64.wrap (p2 + 1) = p2 + 1 := wrap64 (by omega) (by omega)
  have e2 : IntKind.i64.wrap (p1.tmod 7 + 1) = p1.tmod 7 + 1 := by
    have := Int.tmod_eq_emod_of_nonneg (a := p1) (b := 7) (by omega)
    rw [this]
    exact wrap64 (by omega) (by omega)
  have := hK (.tup []) [] ⟨(p0, IntKind.i64.wrap (p1.tmod 7 + 1), IntKind.i64.wrap (p2 + 1), p3, p4), ch, vs⟩ rfl ⟨rfl, by rw [e1, e2]⟩
  exact this
theorem advance_spec {X : Nat → SObj} (hX : ∀ i, (X i).under 24 = true) (s : St) (day : Int) (hd : 0 ≤ day ∧ day ≤ 36524) (hp : s.p = (0, 0, 0, 0, 0) ∨ (1 ≤ day ∧ s.p = partsOf (day - 1))) :
    SPre Tryz.prog G0 68 [.ptr 23 0, sI day] (WH X s) (fun r H' => r = .tup [] ∧ H' = WH X ⟨partsOf day, s.ch, s.vs⟩) := by
  obtain ⟨p, ch, vs⟩ := s
  simp only at hp
  rcases hp with rfl | ⟨h1, rfl⟩
  · exact advance_fresh hX 0 0 0 0 0 ch vs day (.inl rfl)
  · have hw := week_rng (d := day - 1) (by omega)
    have hr := date_rng (d := day - 1) (by omega)
    by_cases h28 : (dateOf (day - 1)).2.2 < 28
    · have hn := next_date (d := day) ⟨h1, hd.2⟩ h28
      have hnw := next_week (d := day) ⟨h1, hd.2⟩
      have := advance_next hX 0 (weekOf (day - 1)) (dateOf (day - 1)).2.2 (dateOf (day - 1)).2.1 (dateOf (day - 1)).1 ch vs day ⟨by omega, h28⟩ hw (by omega)
      refine this.mono fun r H1 ⟨e1, e2⟩ => ⟨e1, ?_⟩
      rw [e2, ← hnw]
      unfold partsOf
      rw [hn]
    · exact advance_fresh hX 0 (weekOf (day - 1)) (dateOf (day - 1)).2.2 (dateOf (day - 1)).2.1 (dateOf (day - 1)).1 ch vs day (.inr (by omega))
end Go.Proofs.YtblpjknmhajcgaaGreatDoor

/- The search: signatures, days (contracts). -/
namespace Go.Proofs.YtblpjknmhajcgaaGreatDoor
open Go Go.Sh
set_option maxRecDepth 10000
set_option maxHeartbeats 2000000
variable (G : List (Nat × D))

abbrev yS (n : Int) : SV := .imm (.val (.int .u8 n))
theorem u8_dec {n : Int} (h : n = 0 ∨ n = 1 ∨ n = 2) : IntKind.u8.wrap (IntKind.i64.wrap (48 + n)) = 48 + n := by
  rcases h with rfl | rfl | rfl <;> rfl

theorem signature_spec {Y : Nat → SObj} (hY : ∀ i, (Y i).under 24 = true) (c : Codex) (vers : List Int) (q : Sr) (s : St) (hl : s.ch.length = s.vs.length) (hc : ∀ x ∈ q.atoms, x.ok s.vs.length ∧ ∃ op l r, x = .cmp op l r) (hsz : q.atoms.length ≤ 1073741824) :
    SPre Tryz.prog G 70 [.ptr 2 0, .ptr 23 0] (WH (XS Y (srCells c vers q)) s) (fun r H' => r = sS (sigOf q.atoms s) ∧ H' = WH (XS Y (srCells c vers q)) s) := by
  have hX := XS_under hY c vers q
  have hll : (q.atoms.map Cond.row).length = q.atoms.length := by simp
  refine wh_enter hX Tryz.func70 rfl (by rw [Tryz.ntmps70]; simp) rfl ?_; intro E hH hK
  (refine sgo_sound [777] 1000 ?_; conv => whnf)
  refine swr_mk (n := q.atoms.length) (zz := yS 0) rfl rfl rfl rfl rfl rfl rfl rfl rfl ⟨by decide, rfl⟩ rfl (by rw [hll]) (by rw [hll]) hsz ?_
  (refine sgor_sound [777] 1000 ?_; conv => whnf)
  refine sw_keep [0, 1, 5, 17, 18, 19] ?_
  rw [show List.replicate q.atoms.length (yS 0) = ([] : List Cond).map (fun a => yS (48 + a.dec s)) ++ List.replicate q.atoms.length (yS 0) from rfl]
  refine sw_each q.atoms (fun i (_ : List Cond × Nat) => [(0, .ptr 2 0), (1, .ptr 23 0), (5, .osl 24 0 q.atoms.length), (17, .asl 16 5 (q.atoms.map Cond.row)), (18, ivS (q.atoms.map Cond.row).length), (19, ivS i)])
    (fun _ d => WH (XS Y (srCells c vers q)) s ++ [.cells (d.1.map (fun a => yS (48 + a.dec s)) ++ List.replicate d.2 (yS 0))]) (fun done rest d => d = (done, rest.length)) ([], q.atoms.length) rfl ?_ ?_
  · rintro _ rfl
    (refine sgo_sound [777] 1000 ?_; conv => whnf)
    repeat' ((with_reducible first | refine bdec (fun h => ?_) (fun h => ?_) | refine bndec (fun h => ?_) (fun h => ?_) | refine bwtd (fun h => ?_) (fun h => ?_) | refine bwfd (fun h => ?_) (fun h => ?_) | refine bwtn (fun h => ?_) (fun h => ?_) | refine bwfn (fun h => ?_) (fun h => ?_) | refine bwtb (fun h => ?_) (fun h => ?_) | refine bwfb (fun h => ?_) (fun h => ?_) | refine bwt (fun h => ?_) (fun h => ?_) | refine bwf (fun h => ?_) (fun h => ?_) | refine bnt (fun h => ?_) (fun h => ?_) | refine bcase (fun h => ?_) (fun h => ?_)) <;> (conv => whnf))
    all_goals try (exfalso; omega)
    refine swr_bytes (ns := q.atoms.map fun a => 48 + a.dec s) rfl rfl rfl rfl (by show some (SObj.cells (q.atoms.map (fun a => yS (48 + a.dec s)) ++ [])) = _; rw [List.append_nil, List.map_map]; rfl) (by simp) rfl rfl rfl ?_
    (refine sgor_sound [777] 1000 ?_; conv => whnf)
    exact hK (sS _) [_] s rfl ⟨rfl, rfl⟩
  · rintro done x rest _ ha hlen rfl ih
    have hw := wrap_succ (n := done.length) (by omega)
    obtain ⟨hx, op, l, r, rfl⟩ := hc x (by rw [ha]; simp)
    have hrow : (q.atoms.map Cond.row)[((done.length : Nat) : Int).toNat]? = some (Cond.row (.cmp op l r)) := by simp [ha]
    have hdx := dec_spec G hX s hl _ hx
    (refine sgo_sound [777] 1000 ?_; conv => whnf)
    repeat' ((with_reducible first | refine bdec (fun h => ?_) (fun h => ?_) | refine bndec (fun h => ?_) (fun h => ?_) | refine bwtd (fun h => ?_) (fun h => ?_) | refine bwfd (fun h => ?_) (fun h => ?_) | refine bwtn (fun h => ?_) (fun h => ?_) | refine bwfn (fun h => ?_) (fun h => ?_) | refine bwtb (fun h => ?_) (fun h => ?_) | refine bwfb (fun h => ?_) (fun h => ?_) | refine bwt (fun h => ?_) (fun h => ?_) | refine bwf (fun h => ?_) (fun h => ?_) | refine bnt (fun h => ?_) (fun h => ?_) | refine bcase (fun h => ?_) (fun h => ?_)) <;> (conv => whnf))
    all_goals try (exfalso; omega)
    refine swr_index rfl rfl rfl rfl rfl rfl rfl rfl  hrow ?_
    (refine sgor_sound [777] 1000 ?_; conv => whnf)
    refine swr_pre 24 rfl rfl rfl rfl rfl rfl hdx ?_
    intro r1 H1 hr _
    obtain ⟨rfl, rfl⟩ := hr
    (refine sgor_sound [777] 1000 ?_; conv => whnf)
    rw [u8_dec (dec_range s _)]
    refine swr_own (i := done.length) rfl rfl rfl rfl rfl rfl rfl rfl (by omega) ?_
    refine swr_storeAt (d := done.map fun a => yS (48 + a.dec s)) (zz := yS 0) (r := List.replicate rest.length (yS 0)) (v := yS (48 + Cond.dec s (.cmp op l r))) rfl rfl rfl rfl rfl rfl rfl rfl rfl (by show 0 + done.length * 1 = _; simp) ?_
    (refine sgor_sound [777] 1000 ?_; conv => whnf)
    rw [hw]
    have := ih (done ++ [.cmp op l r], rest.length) rfl
    simp only [List.map_append, List.map_cons, List.map_nil, List.append_assoc, List.cons_append, List.nil_append] at this
    refine sw_kc [0, 1, 5, 17, 18, 19] 25 (by omega) (by simp [WH]) rfl ?_ this
    show (WH (XS Y (srCells c vers q)) s ++ [SObj.cells (done.map (fun a => yS (48 + a.dec s)) ++ yS (48 + Cond.dec s (.cmp op l r)) :: List.replicate rest.length (yS 0))]).all (SObj.under 25) = true
    rw [List.all_append, allObj_mono (by omega) (WH_under hX s)]
    simp only [List.all_cons, List.all_nil, Bool.and_true, Bool.true_and, cellsU]
    exact allU_append _ _ _ (allU_map (f := fun a : Cond => yS (48 + a.dec s)) (fun _ => rfl) _) (by simp only [SV.under.allUnder, under_rep 25 (zz := yS 0) rfl]; rfl)

theorem horizon_spec {Y : Nat → SObj} (hY : ∀ i, (Y i).under 24 = true) (c : Codex) (vers : List Int) (q : Sr) (s : St) :
    SPre Tryz.prog G 97 [.ptr 2 0] (WH (XS Y (srCells c vers q)) s) (fun r H' => r = sI (horizonOf q.dates) ∧ H' = WH (XS Y (srCells c vers q)) s) := by
  have hX := XS_under hY c vers q
  refine wh_enter hX Tryz.func97 rfl (by rw [Tryz.ntmps97]; simp) rfl ?_; intro E hH hK
  have hz : horizonOf q.dates = if q.dates.getD 4 false then 36525 else if q.dates.getD 1 false && (q.dates.getD 2 false || q.dates.getD 3 false) then 10227 else if q.dates.getD 2 false || q.dates.getD 3 false then 1461 else if q.dates.getD 1 false then 7 else 1 := rfl
  rw [hz] at hK
  generalize hcs : srCells c vers q = cs at hK ⊢
  unfold srCells at hcs
  generalize q.dates.getD 0 false = d0 at hcs
  generalize q.dates.getD 1 false = d1 at hK hcs
  generalize q.dates.getD 2 false = d2 at hK hcs
  generalize q.dates.getD 3 false = d3 at hK hcs
  generalize q.dates.getD 4 false = d4 at hK hcs
  subst hcs
  cases d1 <;> cases d2 <;> cases d3 <;> cases d4 <;> ((refine sgo_sound [777] 1000 ?_; conv => whnf)) <;> exact hK (sI _) [] s rfl ⟨rfl, rfl⟩
end Go.Proofs.YtblpjknmhajcgaaGreatDoor

/- The search: its days (contract). -/
namespace Go.Proofs.YtblpjknmhajcgaaGreatDoor
open Go Go.Sh
set_option maxRecDepth 10000
set_option maxHeartbeats 2000000
variable (G : List (Nat × D))

abbrev frStep (c : Codex) (r : Int × Int) (v : Int) : Int × Int := match artAt c v with | some a => (max r.1 a.lo, min r.2 a.hi) | none => r
/-- the articles' days are days -/
def daysOK (c : Codex) : Prop := ∀ a ∈ c.arts, 0 ≤ a.lo ∧ a.lo ≤ 36525 ∧ 0 ≤ a.hi ∧ a.hi ≤ 36525
theorem artAt_mem {c : Codex} {v : Int} {a : Article} (h : artAt c v = some a) : a ∈ c.arts := by
  obtain ⟨j, _, h2⟩ := artAt_nat h
  exact List.mem_of_getElem? h2
theorem frame_rng {c : Codex} (hd : daysOK c) : ∀ (vs : List Int) (r : Int × Int), 0 ≤ r.1 ∧ r.1 ≤ 36525 ∧ 0 ≤ r.2 ∧ r.2 ≤ 36525 → 0 ≤ (vs.foldl (frStep c) r).1 ∧ (vs.foldl (frStep c) r).1 ≤ 36525 ∧ 0 ≤ (vs.foldl (frStep c) r).2 ∧ (vs.foldl (frStep c) r).2 ≤ 36525
  | [], r, h => h
  | v :: vs, r, h => by
    rw [List.foldl_cons]
    refine frame_rng hd vs _ ?_
    unfold frStep
    split
    · rename_i a ha
      have := hd a (artAt_mem ha)
      simp only
      omega
    · exact h
theorem days_spec2 {Y : Nat → SObj} (hY : ∀ i, (Y i).under 24 = true) (c : Codex) (vers : List Int) (q : Sr) (s : St) (hd : daysOK c) (hv : ∀ v ∈ vers, 0 ≤ v ∧ v < c.arts.length) (hsz : vers.length ≤ 1073741824) :
    SPre Tryz.prog G 67 [.ptr 2 0] (WH (XS Y (srCells c vers q)) s) (fun r H' => r = .tup [sI (frameOf c vers).1, sI (min (frameOf c vers).2 ((frameOf c vers).1 + horizonOf q.dates))] ∧ H' = WH (XS Y (srCells c vers q)) s) := by
  have hX := XS_under hY c vers q
  have hll : (vers.map fun n => [dI n]).length = vers.length := by simp
  have hhor : horizonOf q.dates ≤ 36525 ∧ 0 ≤ horizonOf q.dates := by
    have := horizon_pos q.dates
    unfold horizonOf at *
    split <;> (try split) <;> (try split) <;> (try split) <;> simp_all
  refine wh_enter hX Tryz.func67 rfl (by rw [Tryz.ntmps67]; simp) rfl ?_; intro E hH hK
  (refine sgo_sound [777] 1000 ?_; conv => whnf)
  refine sw_keep [0, 4, 5, 11, 12, 13] ?_
  refine sw_each vers (fun i (r : Int × Int) => [(0, .ptr 2 0), (4, sI r.1), (5, sI r.2), (11, .imm (dInts vers)), (12, ivS (vers.map fun n => [dI n]).length), (13, ivS i)])
    (fun _ _ => WH (XS Y (srCells c vers q)) s) (fun _ rest r => frameOf c vers = rest.foldl (frStep c) r ∧ 0 ≤ r.1 ∧ r.1 ≤ 36525 ∧ 0 ≤ r.2 ∧ r.2 ≤ 36525) (0, 36525) ⟨rfl, by decide⟩ ?_ ?_
  · rintro ⟨r1, r2⟩ ⟨h1, hr⟩
    simp only [List.foldl_nil] at h1 hr
    rw [h1] at hK
    (refine sgo_sound [777] 1000 ?_; conv => whnf)
    repeat' ((with_reducible first | refine bdec (fun h => ?_) (fun h => ?_) | refine bndec (fun h => ?_) (fun h => ?_) | refine bwtd (fun h => ?_) (fun h => ?_) | refine bwfd (fun h => ?_) (fun h => ?_) | refine bwtn (fun h => ?_) (fun h => ?_) | refine bwfn (fun h => ?_) (fun h => ?_) | refine bwtb (fun h => ?_) (fun h => ?_) | refine bwfb (fun h => ?_) (fun h => ?_) | refine bwt (fun h => ?_) (fun h => ?_) | refine bwf (fun h => ?_) (fun h => ?_) | refine bnt (fun h => ?_) (fun h => ?_) | refine bcase (fun h => ?_) (fun h => ?_)) <;> (conv => whnf))
    all_goals try (exfalso; omega)
    refine swr_pre 24 rfl rfl rfl rfl rfl rfl (horizon_spec G hY c vers q s) ?_
    intro r3 H1 h3 _
    obtain ⟨rfl, rfl⟩ := h3
    (refine sgor_sound [777] 1000 ?_; conv => whnf)
    have e : (if IntKind.i64.wrap (r1 + horizonOf q.dates) < r2 then IntKind.i64.wrap (r1 + horizonOf q.dates) else r2) = min r2 (r1 + horizonOf q.dates) := by
      rw [wrap64 (by omega) (by omega)]
      omega
    exact hK (.tup [sI r1, sI (if IntKind.i64.wrap (r1 + horizonOf q.dates) < r2 then IntKind.i64.wrap (r1 + horizonOf q.dates) else r2)]) [] s rfl ⟨by rw [e], rfl⟩
  · rintro done v rest ⟨r1, r2⟩ ha hlen ⟨h1, hr⟩ ih
    have hw := wrap_succ (n := done.length) (by omega)
    have hvr := hv v (by rw [ha]; simp)
    obtain ⟨a, haa⟩ : ∃ a, artAt c v = some a := by
      refine ⟨c.arts[v.toNat]'(by omega), ?_⟩
      unfold artAt
      rw [if_neg (by omega), List.getElem?_eq_getElem]
    have hrow : (vers.map fun n => [dI n])[((done.length : Nat) : Int).toNat]? = some [dI v] := by simp [ha]
    have harow : (c.arts.map Article.cells)[v.toNat]? = some a.cells := by
      obtain ⟨j, rfl, h2⟩ := artAt_nat haa
      simp [h2]
    rw [List.foldl_cons, frStep, haa] at h1
    (refine sgo_sound [777] 1000 ?_; conv => whnf)
    repeat' ((with_reducible first | refine bdec (fun h => ?_) (fun h => ?_) | refine bndec (fun h => ?_) (fun h => ?_) | refine bwtd (fun h => ?_) (fun h => ?_) | refine bwfd (fun h => ?_) (fun h => ?_) | refine bwtn (fun h => ?_) (fun h => ?_) | refine bwfn (fun h => ?_) (fun h => ?_) | refine bwtb (fun h => ?_) (fun h => ?_) | refine bwfb (fun h => ?_) (fun h => ?_) | refine bwt (fun h => ?_) (fun h => ?_) | refine bwf (fun h => ?_) (fun h => ?_) | refine bnt (fun h => ?_) (fun h => ?_) | refine bcase (fun h => ?_) (fun h => ?_)) <;> (conv => whnf))
    all_goals try (exfalso; omega)
    refine swr_index rfl rfl rfl rfl rfl rfl rfl rfl  hrow ?_
    (refine sgor_sound [777] 1000 ?_; conv => whnf)
    refine swr_index (i := v.toNat) rfl rfl rfl rfl rfl rfl rfl (by omega) harow ?_
    (refine sgor_sound [777] 1000 ?_; conv => whnf)
    refine swr_index (i := v.toNat) rfl rfl rfl rfl rfl rfl rfl (by omega) harow ?_
    (refine sgor_sound [777] 1000 ?_; conv => whnf)
    rw [hw]
    have had := hd a (artAt_mem haa)
    simp only at hr h1
    have e1 : (if r1 < a.lo then a.lo else r1) = max r1 a.lo := by omega
    have e2 : (if a.hi < r2 then a.hi else r2) = min r2 a.hi := by omega
    exact sw_kc [0, 4, 5, 11, 12, 13] 24 (by omega) (by simp [WH]) rfl (WH_under hX s) (ih (if r1 < a.lo then a.lo else r1, if a.hi < r2 then a.hi else r2) ⟨by rw [e1, e2]; exact h1, by simp only; omega⟩)
end Go.Proofs.YtblpjknmhajcgaaGreatDoor

/- The keys of a map, in their order: contracts. -/
namespace Go.Proofs.YtblpjknmhajcgaaGreatDoor
open Go Go.Sh
set_option maxRecDepth 10000
set_option maxHeartbeats 2000000
variable (G : List (Nat × D))

theorem keysB_new (m : Nat) : SNewFn Tryz.prog G 103 [.map m] 142 [.map m] := by
  intro H
  refine scall_enter Tryz.func103 rfl (by rw [Tryz.ntmps103]; simp) ?_
  intro E hH hK
  (refine sgo_sound [777] 1000 ?_; conv => whnf)
  exact hK _ _ ⟨rfl, rfl⟩
theorem keysM_new (m : Nat) : SNewFn Tryz.prog G 102 [.map m] 141 [.map m] := by
  intro H
  refine scall_enter Tryz.func102 rfl (by rw [Tryz.ntmps102]; simp) ?_
  intro E hH hK
  (refine sgo_sound [777] 1000 ?_; conv => whnf)
  exact hK _ _ ⟨rfl, rfl⟩

/-- the heaps of a walk through a map's keys: what lies at the map's place, which keys have come -/
structure KeyH (Hf : SObj → List Int → List SObj) (es : List (Int × SV)) (N m b L : Nat) (lp : SObj) : Prop where
  len : ∀ o d, (Hf o d).length = N
  box : ∀ o d, (Hf o d)[b]? = some (.cells [.map m])
  map : ∀ o d, (Hf o d)[m]? = some o
  set : ∀ o o' d, (Hf o d).set m o' = Hf o' d
  loop : ∀ o d, (Hf o d)[L]? = some lp
  und : ∀ es' clock d, es'.map (·.2) = es → (Hf (.pin .i64 es' clock) d).all (SObj.under N) = true

theorem keysB1_spec {Hf : SObj → List Int → List SObj} {es : List (Int × SV)} {N m b L : Nat} {f : FuncId} {n : Nat} {tL : List (Nat × SV)} {ps : Array Tmp} {asg bd : Code} (hf : KeyH Hf es N m b L (.loop .ready f n tL ps asg bd)) (hps : 1 = ps.size) (hLN : L < N) (hbN : b < N)
    (hy : ∀ es' clock done x it, es'.map (·.2) = es → done.length < es.length → SYield Tryz.prog G L [sI x] (Hf (.pin .i64 es' clock) done ++ [.iter m clock it clock]) (fun res H' => res = true ∧ N + 1 ≤ H'.length ∧ H'.take (N + 1) = Hf (.pin .i64 es' clock) (done ++ [x]) ++ [.iter m clock it clock])) :
    SCall Tryz.prog G 142 [.yld L, .ptr b 0] (Hf (.mapI .i64 es) []) (fun _ H' => ∃ ks, ks.Perm (es.map (·.1)) ∧ N ≤ H'.length ∧ H'.take N = Hf (.mapI .i64 es) ks) := by
  refine scall_enter Tryz.func142 rfl (by rw [Tryz.ntmps142]; simp) ?_
  intro E hH hK
  rw [hf.len] at hH
  refine sw_pin (b := m) (hf.map _ _) ?_
  intro es' clock hes hst
  rw [hf.set]
  (refine sgo_sound [777, 4] 1000 ?_; conv => whnf)
  refine swr_loadAt (v := .map m) rfl rfl rfl rfl (hf.box _ _) rfl ?_
  (refine sgor_sound [777] 1000 ?_; conv => whnf)
  refine swr_range rfl rfl rfl rfl rfl (hf.map _ _) ?_
  rw [hf.len]
  (refine sgor_sound [777] 1000 ?_; conv => whnf)
  refine sw_keep [0, 1, 5] ?_
  have hlen : es'.length = es.length := by rw [← hes]; simp
  refine sw_loop_ind (σ := List Nat × List Int) (fun _ => [(0, .yld L), (1, .ptr b 0), (5, .ptr N 0)]) (fun x => Hf (.pin .i64 es' clock) x.2 ++ [.iter m clock x.1 clock])
    (fun x => (x.2 ++ (leftE es' x.1).map (·.2.1)).Perm (es'.map (·.2.1))) (fun x => (leftE es' x.1).length) ?_ ([], []) (by simp [leftE_nil]) 
  rintro ⟨seen, done⟩ hp ih
  simp only at hp ih
  have hbi : (Hf (.pin .i64 es' clock) done ++ [SObj.iter m clock seen clock])[N]? = some (.iter m clock seen clock) := by
    rw [List.getElem?_append_right (by rw [hf.len]; exact Nat.le_refl _), hf.len]; simp
  have hbm : (Hf (.pin .i64 es' clock) done ++ [SObj.iter m clock seen clock])[m]? = some (.pin .i64 es' clock) := by
    rw [List.getElem?_append_left (by have := lt_of_getElem? (hf.map (.pin .i64 es' clock) done); exact this), hf.map]
  have hmN : m < N := by have := lt_of_getElem? (hf.map (.pin .i64 es' clock) done); rwa [hf.len] at this
  have hes1 : es'.map (·.2.1) = es.map (·.1) := by rw [← hes, List.map_map]; rfl
  show SW E _ _ (Hf (.pin .i64 es' clock) done ++ [.iter m clock seen clock])
  (refine sgo_sound [777] 1000 ?_; conv => whnf)
  refine swr_next rfl rfl rfl rfl hbi hbm hst (Nat.le_refl _) (fun h0 => ?_) (fun e he => ?_)
  · refine swr_lift (fun k h => sw_unpin (b := m) hbm h) ?_
    (refine sgor_sound [777] 1000 ?_; conv => whnf)
    have e : ((Hf (.pin .i64 es' clock) done ++ [SObj.iter m clock seen clock]).set m (.mapI .i64 (es'.map (·.2)))) = Hf (.mapI .i64 es) done ++ [SObj.iter m clock seen clock] := by
      rw [List.set_append_left _ _ (by rw [hf.len]; exact hmN), hf.set, hes]
    rw [e]
    rw [h0, hes1] at hp
    refine hK _ _ ⟨done, by simpa using hp, by simp [hf.len], ?_⟩
    rw [List.take_append_of_le_length (by rw [hf.len]; exact Nat.le_refl _), List.take_of_length_le (by rw [hf.len]; exact Nat.le_refl _)]
  · have hset : ∀ it, (Hf (.pin .i64 es' clock) done ++ [SObj.iter m clock seen clock]).set N (.iter m clock it clock) = Hf (.pin .i64 es' clock) done ++ [SObj.iter m clock it clock] := by
      intro it
      rw [List.set_append_right _ _ (by rw [hf.len]; exact Nat.le_refl _), hf.len]
      simp
    rw [hset]
    have hbi2 : (Hf (.pin .i64 es' clock) done ++ [SObj.iter m clock (seen ++ [e.1]) clock])[N]? = some (.iter m clock (seen ++ [e.1]) clock) := by
      rw [List.getElem?_append_right (by rw [hf.len]; exact Nat.le_refl _), hf.len]; simp
    have hbm2 : (Hf (.pin .i64 es' clock) done ++ [SObj.iter m clock (seen ++ [e.1]) clock])[m]? = some (.pin .i64 es' clock) := by
      rw [List.getElem?_append_left (by rw [hf.len]; exact hmN), hf.map]
    have hloop : (Hf (.pin .i64 es' clock) done ++ [SObj.iter m clock (seen ++ [e.1]) clock])[L]? = some (.loop .ready f n tL ps asg bd) := by
      rw [List.getElem?_append_left (by rw [hf.len]; exact hLN), hf.loop]
    obtain ⟨e1, e2, e3⟩ := e
    have hperm := leftE_perm hst.1 he
    have hpl := hperm.length_eq
    have hpm := hperm.map (·.2.1)
    simp only [List.map_cons, List.length_cons] at hpm hpl
    have hdl : done.length < es.length := by
      have := hp.length_eq
      simp only [List.length_append, List.length_map] at this
      omega
    (refine sgor_sound [777, 9] 1000 ?_; conv => whnf)
    refine swr_entry rfl rfl rfl rfl hbi2 hbm2 (mem_leftE he) ?_
    (refine sgor_sound [777] 1000 ?_; conv => whnf)
    refine swr_yield rfl rfl rfl rfl hloop hps rfl ?_
    refine (hy es' clock done e2 (seen ++ [e1]) hes hdl).mono ?_
    rintro _ H' ⟨rfl, hl', ht⟩
    refine ⟨by simp only [List.length_append, hf.len, List.length_singleton]; omega, ?_⟩
    (refine sgor_sound [777] 1000 ?_; conv => whnf)
    refine sw_kc [0, 1, 5] (N + 1) (by omega) hl' (by show ((decide (L < N + 1)) && (decide (b < N + 1) && (decide (N < N + 1) && true))) = true; simp; omega) ?_ ?_
    · rw [ht, List.all_append, allObj_mono (by omega) (hf.und es' clock _ hes)]
      simp [SObj.under]
      omega
    · rw [ht]
      exact ih (seen ++ [e1], done ++ [e2]) (by
        refine List.Perm.trans ?_ hp
        simp only [List.append_assoc, List.cons_append, List.nil_append]
        exact (List.Perm.refl done).append hpm.symm) (by simp only; omega)

theorem keysM1_spec {Hf : SObj → List Int → List SObj} {es : List (Int × SV)} {N m b L : Nat} {f : FuncId} {n : Nat} {tL : List (Nat × SV)} {ps : Array Tmp} {asg bd : Code} (hf : KeyH Hf es N m b L (.loop .ready f n tL ps asg bd)) (hps : 1 = ps.size) (hLN : L < N) (hbN : b < N)
    (hy : ∀ es' clock done x it, es'.map (·.2) = es → done.length < es.length → SYield Tryz.prog G L [sI x] (Hf (.pin .i64 es' clock) done ++ [.iter m clock it clock]) (fun res H' => res = true ∧ N + 1 ≤ H'.length ∧ H'.take (N + 1) = Hf (.pin .i64 es' clock) (done ++ [x]) ++ [.iter m clock it clock])) :
    SCall Tryz.prog G 141 [.yld L, .ptr b 0] (Hf (.mapI .i64 es) []) (fun _ H' => ∃ ks, ks.Perm (es.map (·.1)) ∧ N ≤ H'.length ∧ H'.take N = Hf (.mapI .i64 es) ks) := by
  refine scall_enter Tryz.func141 rfl (by rw [Tryz.ntmps141]; simp) ?_
  intro E hH hK
  rw [hf.len] at hH
  refine sw_pin (b := m) (hf.map _ _) ?_
  intro es' clock hes hst
  rw [hf.set]
  (refine sgo_sound [777, 4] 1000 ?_; conv => whnf)
  refine swr_loadAt (v := .map m) rfl rfl rfl rfl (hf.box _ _) rfl ?_
  (refine sgor_sound [777] 1000 ?_; conv => whnf)
  refine swr_range rfl rfl rfl rfl rfl (hf.map _ _) ?_
  rw [hf.len]
  (refine sgor_sound [777] 1000 ?_; conv => whnf)
  refine sw_keep [0, 1, 5] ?_
  have hlen : es'.length = es.length := by rw [← hes]; simp
  refine sw_loop_ind (σ := List Nat × List Int) (fun _ => [(0, .yld L), (1, .ptr b 0), (5, .ptr N 0)]) (fun x => Hf (.pin .i64 es' clock) x.2 ++ [.iter m clock x.1 clock])
    (fun x => (x.2 ++ (leftE es' x.1).map (·.2.1)).Perm (es'.map (·.2.1))) (fun x => (leftE es' x.1).length) ?_ ([], []) (by simp [leftE_nil]) 
  rintro ⟨seen, done⟩ hp ih
  simp only at hp ih
  have hbi : (Hf (.pin .i64 es' clock) done ++ [SObj.iter m clock seen clock])[N]? = some (.iter m clock seen clock) := by
    rw [List.getElem?_append_right (by rw [hf.len]; exact Nat.le_refl _), hf.len]; simp
  have hbm : (Hf (.pin .i64 es' clock) done ++ [SObj.iter m clock seen clock])[m]? = some (.pin .i64 es' clock) := by
    rw [List.getElem?_append_left (by have := lt_of_getElem? (hf.map (.pin .i64 es' clock) done); exact this), hf.map]
  have hmN : m < N := by have := lt_of_getElem? (hf.map (.pin .i64 es' clock) done); rwa [hf.len] at this
  have hes1 : es'.map (·.2.1) = es.map (·.1) := by rw [← hes, List.map_map]; rfl
  show SW E _ _ (Hf (.pin .i64 es' clock) done ++ [.iter m clock seen clock])
  (refine sgo_sound [777] 1000 ?_; conv => whnf)
  refine swr_next rfl rfl rfl rfl hbi hbm hst (Nat.le_refl _) (fun h0 => ?_) (fun e he => ?_)
  · refine swr_lift (fun k h => sw_unpin (b := m) hbm h) ?_
    (refine sgor_sound [777] 1000 ?_; conv => whnf)
    have e : ((Hf (.pin .i64 es' clock) done ++ [SObj.iter m clock seen clock]).set m (.mapI .i64 (es'.map (·.2)))) = Hf (.mapI .i64 es) done ++ [SObj.iter m clock seen clock] := by
      rw [List.set_append_left _ _ (by rw [hf.len]; exact hmN), hf.set, hes]
    rw [e]
    rw [h0, hes1] at hp
    refine hK _ _ ⟨done, by simpa using hp, by simp [hf.len], ?_⟩
    rw [List.take_append_of_le_length (by rw [hf.len]; exact Nat.le_refl _), List.take_of_length_le (by rw [hf.len]; exact Nat.le_refl _)]
  · have hset : ∀ it, (Hf (.pin .i64 es' clock) done ++ [SObj.iter m clock seen clock]).set N (.iter m clock it clock) = Hf (.pin .i64 es' clock) done ++ [SObj.iter m clock it clock] := by
      intro it
      rw [List.set_append_right _ _ (by rw [hf.len]; exact Nat.le_refl _), hf.len]
      simp
    rw [hset]
    have hbi2 : (Hf (.pin .i64 es' clock) done ++ [SObj.iter m clock (seen ++ [e.1]) clock])[N]? = some (.iter m clock (seen ++ [e.1]) clock) := by
      rw [List.getElem?_append_right (by rw [hf.len]; exact Nat.le_refl _), hf.len]; simp
    have hbm2 : (Hf (.pin .i64 es' clock) done ++ [SObj.iter m clock (seen ++ [e.1]) clock])[m]? = some (.pin .i64 es' clock) := by
      rw [List.getElem?_append_left (by rw [hf.len]; exact hmN), hf.map]
    have hloop : (Hf (.pin .i64 es' clock) done ++ [SObj.iter m clock (seen ++ [e.1]) clock])[L]? = some (.loop .ready f n tL ps asg bd) := by
      rw [List.getElem?_append_left (by rw [hf.len]; exact hLN), hf.loop]
    obtain ⟨e1, e2, e3⟩ := e
    have hperm := leftE_perm hst.1 he
    have hpl := hperm.length_eq
    have hpm := hperm.map (·.2.1)
    simp only [List.map_cons, List.length_cons] at hpm hpl
    have hdl : done.length < es.length := by
      have := hp.length_eq
      simp only [List.length_append, List.length_map] at this
      omega
    (refine sgor_sound [777, 9] 1000 ?_; conv => whnf)
    refine swr_entry rfl rfl rfl rfl hbi2 hbm2 (mem_leftE he) ?_
    (refine sgor_sound [777] 1000 ?_; conv => whnf)
    refine swr_yield rfl rfl rfl rfl hloop hps rfl ?_
    refine (hy es' clock done e2 (seen ++ [e1]) hes hdl).mono ?_
    rintro _ H' ⟨rfl, hl', ht⟩
    refine ⟨by simp only [List.length_append, hf.len, List.length_singleton]; omega, ?_⟩
    (refine sgor_sound [777] 1000 ?_; conv => whnf)
    refine sw_kc [0, 1, 5] (N + 1) (by omega) hl' (by show ((decide (L < N + 1)) && (decide (b < N + 1) && (decide (N < N + 1) && true))) = true; simp; omega) ?_ ?_
    · rw [ht, List.all_append, allObj_mono (by omega) (hf.und es' clock _ hes)]
      simp [SObj.under]
      omega
    · rw [ht]
      exact ih (seen ++ [e1], done ++ [e2]) (by
        refine List.Perm.trans ?_ hp
        simp only [List.append_assoc, List.cons_append, List.nil_append]
        exact (List.Perm.refl done).append hpm.symm) (by simp only; omega)

theorem vec_sorted (b : Nat) (l : List Int) (H : List SObj) (hb : H[b]? = some (.vec 1 (l.map sI))) (hsz : l.length ≤ 1073741824) :
    SCall Tryz.prog G 64 [.vec b l.length] H (fun r H' => r = .tup [] ∧ H' = H.set b (.vec 1 ((sortI l).map sI))) := by
  intro w I β vs hH hv
  obtain ⟨v, hvs, hr⟩ := hv.one
  have hvv : vs = #[v] := by apply Array.ext'; simpa using hvs
  subst hvv
  obtain ⟨hbu, hcase⟩ := vec_now hH hb hr (by simp) (Nat.le_refl _)
  rcases hcase with ⟨h0, rfl, _⟩ | ⟨c, cap, cur, T, rfl, a1, a2, a2', hmax, a3, a4⟩
  · have hl : l = [] := List.length_eq_zero_iff.1 h0
    subst hl
    refine (Go.Proofs.Tryz.slices_Sort_int_none none 0 w).mono ?_
    rintro e w' ⟨rfl, rfl⟩
    refine ⟨_, .tup [], I, β, _, rfl, ⟨rfl, rfl⟩, .tup #[] [] rfl (fun j h => by simp at h), ?_⟩
    have e : H.set b (.vec 1 ((sortI ([] : List Int)).map sI)) = H := by
      have : (sortI ([] : List Int)).map sI = ([] : List Int).map sI := by simp
      rw [this]
      obtain ⟨hlt, he⟩ := List.getElem?_eq_some_iff.1 hb
      rw [← he]
      exact List.set_getElem_self hlt
    rw [e]
    exact ⟨hH, .refl⟩
  have hsl : (sortI l).length = l.length := by simp
  have htake : cur.toList.take l.length = l.map (Value.int .i64) := by
    apply List.ext_getElem
    · simp [a2]; omega
    · intro j h1 h2
      have hj : j < l.length := by simpa using h2
      have hjc : j < cur.size := by rw [a2]; omega
      have := a3 j (by simpa using hj) hjc
      simp only [List.getElem_map] at this
      simp only [List.getElem_take, Array.getElem_toList, List.getElem_map]
      generalize cur[j] = q at this
      cases this with | imm h => cases h; rfl
  refine (Go.Proofs.Tryz.slices_Sort_int c 0 cap l w (holds_of_blockI a1 htake) (heap_lt a1) (by omega)).mono ?_
  rintro e w' ⟨rfl, n, os, rfl⟩
  have hblk := heap_sortedI (w := w) (n := n) (os := os) (sortI l).toArray a1
  have hgrow := grownBy_sortedI (w := w) (g := c) (n := n) (os := os) (sortI l).toArray
  generalize Go.Sort.grow (Go.Sort.putRow (Value.int .i64) (Go.Sort.ahead w n) c 0 (sortI l).toArray) os = w' at hblk hgrow
  have hold : ∀ c', c' < w.heap.size → c' ≠ c → w'.heap[c']? = w.heap[c']? := fun c' h1 h2 => hgrow.block c' h1 (fun e => h2 (by cases e; rfl))
  have hcellI : ∀ c' o, I c' o → w'.cell? ⟨c', o, none⟩ = w.cell? ⟨c', o, none⟩ := fun c' o hi => cell_congr (hold c' (hH.inI c' o hi) (fun e => a4 o (e ▸ hi))) o
  have hown : owns H β b c := ⟨_, _, hb, by simp, hbu, rfl⟩
  have hbl := lt_of_getElem? hb
  have key : ∀ b' c', owns (H.set b (.vec 1 ((sortI l).map sI))) β b' c' → owns H β b' c' := by
    rintro b' c' ⟨p, x, g1, g2, g3, g4⟩
    by_cases e : b' = b
    · subst e; rw [hbu] at g3; cases g3; cases g4; exact hown
    · rw [List.getElem?_set_ne (Ne.symm e)] at g1; exact ⟨p, x, g1, g2, g3, g4⟩
  have hnew : ObjOK w' I β (.vec 1 ((sortI l).map sI)) (.tok (.slice (some ⟨c, 0, none⟩) l.length cap)) := by
    refine .inr ⟨c, l.length, cap, _, T, rfl, hblk, by simp [Go.Sort.putCells, a2], a2', hmax, by simp, fun j hj hj' => ?_, a4⟩
    have hjc : j < cur.size := by simpa [Go.Sort.putCells] using hj'
    have hjl : j < l.length := by simpa using hj
    simp only [Go.Sort.putCells, Array.getElem_mapIdx]
    rw [if_pos ⟨Nat.zero_le _, by simp; omega⟩]
    simp only [List.getElem_map, Nat.sub_zero]
    have : (sortI l).toArray[j]! = (sortI l)[j]'(by omega) := by simp [hjl]
    rw [this]
    exact .imm (.val _)
  refine ⟨_, .tup [], I, β, _, rfl, ⟨rfl, rfl⟩, .tup #[] [] rfl (fun j h => by simp at h), ⟨by simp [hH.len], fun b' p x g1 g2 => ?_, fun x y c' g1 g2 => hH.inj x y c' (key x c' g1) (key y c' g2), fun c' o hi => Nat.lt_of_lt_of_le (hH.inI c' o hi) hgrow.size, fun g d hg => (hH.glob g d hg).mono (fun _ _ h => h) hcellI⟩,
    ⟨fun _ _ h => h, hcellI, .refl _ _, fun c' hc' hn => hold c' hc' (fun e => hn b (e ▸ hown)), fun b' c' g => .inl ⟨b', key b' c' g⟩, fun _ _ h => .inl h, hgrow.size, ⟨hgrow.os, hgrow.output⟩⟩⟩
  by_cases e : b' = b
  · subst e
    rw [hbu] at g2; cases g2
    rw [List.getElem?_set_self hbl] at g1; cases g1
    exact hnew
  · rw [List.getElem?_set_ne (Ne.symm e)] at g1
    by_cases hpd : p = .dead
    · subst hpd; trivial
    · refine (hH.obj b' p x g1 g2).mono (fun c' hc' => hold c' ((hH.obj b' p x g1 g2).block_lt hpd hc') ?_) (fun _ _ h => h) hcellI (.refl _ _) (fun _ _ _ h => h)
      rintro rfl
      exact e (hH.inj b' b _ ⟨p, x, g1, hpd, g2, hc'⟩ hown)
end Go.Proofs.YtblpjknmhajcgaaGreatDoor

/- slices.Sorted(maps.Keys(m)): contracts. -/
namespace Go.Proofs.YtblpjknmhajcgaaGreatDoor
open Go Go.Sh
set_option maxRecDepth 10000
set_option maxHeartbeats 2000000
variable (G : List (Nat × D))

abbrev nilV : SV := .imm (.val (.slice none 0 0))
theorem all_set {p : SObj → Bool} {H : List SObj} {m : Nat} {o : SObj} (hH : H.all p = true) (ho : p o = true) : (H.set m o).all p = true := by
  simp only [List.all_eq_true] at hH ⊢
  intro x hx
  rcases List.mem_or_eq_of_mem_set hx with h | rfl
  · exact hH x h
  · exact ho
theorem set_same {H : List SObj} {m : Nat} {o : SObj} (h : H[m]? = some o) : H.set m o = H := by
  obtain ⟨hlt, he⟩ := List.getElem?_eq_some_iff.1 h
  rw [← he]
  exact List.set_getElem_self hlt
theorem pin_under {es : List (Int × SV)} {es' : List (Nat × Int × SV)} {clock n : Nat} (h : (SObj.mapI .i64 es).under n = true) (he : es'.map (·.2) = es) : (SObj.pin .i64 es' clock).under n = true := by
  subst he
  simp only [SObj.under, List.all_eq_true, List.mem_map, forall_exists_index, and_imp] at h ⊢
  intro e he
  exact h e.2 e he rfl
theorem mem_get {H : List SObj} {m : Nat} {o : SObj} (h : H[m]? = some o) : o ∈ H := List.mem_of_getElem? h

section
variable {A : List SObj} {n : Nat} (hn : A.length = n) (a a' c l it : SObj)
include hn
theorem q_s0 : (A ++ [a, c, l] ++ [it]).set n a' = A ++ [a', c, l] ++ [it] := by subst hn; simp
theorem q_s1 : (A ++ [a, c, l] ++ [it]).set (n + 1) a' = A ++ [a, a', l] ++ [it] := by subst hn; simp
theorem q_s2 : (A ++ [a, c, l] ++ [it]).set (n + 2) a' = A ++ [a, c, a'] ++ [it] := by subst hn; simp
theorem q_g0 : (A ++ [a, c, l] ++ [it])[n]? = some a := by subst hn; simp
theorem q_g1 : (A ++ [a, c, l] ++ [it])[n + 1]? = some c := by subst hn; simp
theorem q_g2 : (A ++ [a, c, l] ++ [it])[n + 2]? = some l := by subst hn; simp
end

theorem appendB_spec {H : List SObj} {es : List (Int × SV)} {m b : Nat} (hb : H[b]? = some (.cells [.map m])) (hm : H[m]? = some (.mapI .i64 es)) (hmb : m ≠ b) (hu : H.all (SObj.under H.length) = true) (hsz : es.length ≤ 1073741824) :
    SCall Tryz.prog G 165 [nilV, .fn (.func 142) [] [.ptr b 0]] H (fun r H' => ∃ ks : List Int, ks.Perm (es.map (·.1)) ∧ r = .vec (H.length + 1) ks.length ∧ H.length + 2 ≤ H'.length ∧ H'.take (H.length + 2) = H ++ [.cells [.vec (H.length + 1) ks.length], .vec 1 (ks.map sI)]) := by
  refine scall_enter Tryz.func165 rfl (by rw [Tryz.ntmps165]; simp) ?_
  intro E hH hK
  have hbl := lt_of_getElem? hb
  have hml := lt_of_getElem? hm
  (refine sgo_sound [777] 1000 ?_; conv => whnf)
  refine sw_vecCell H.length 0 1 (cs := [nilV]) (by show (H ++ [SObj.cells [nilV]])[H.length]? = _; simp) rfl ?_
  have e1 : (H ++ [SObj.cells [nilV]]).set H.length (.cells ([nilV].set 0 (.vec (H ++ [SObj.cells [nilV]]).length 0))) ++ [.vec 1 []] = H ++ [SObj.cells [.vec (H.length + 1) 0], .vec 1 []] := by simp
  refine sw_keep [2, 6] ?_
  refine Eq.mpr (congrArg (fun h => SW E _ _ h) e1) ?_
  show SW E _ [(2, .ptr H.length 0), (6, .fn (.func 142) [] [.ptr b 0])] _
  refine sw_rangeFunc rfl rfl ?_
  generalize hlp : SObj.loop .ready E.f _ [(2, SV.ptr H.length 0), (6, SV.fn (.func 142) [] [.ptr b 0])] _ _ _ = lp
  have hset : H.set m (.mapI .i64 es) = H := set_same hm
  have hAl : ∀ o, (H.set m o).length = H.length := fun o => by simp
  have hf : KeyH (fun o (d : List Int) => H.set m o ++ [.cells [.vec (H.length + 1) d.length], .vec 1 (d.map sI), lp]) es (H.length + 3) m b (H.length + 2) lp := by
    refine ⟨fun o d => by simp, fun o d => ?_, fun o d => ?_, fun o o' d => ?_, fun o d => ?_, fun es' clock d he => ?_⟩
    · rw [List.getElem?_append_left (by rw [hAl]; exact hbl), List.getElem?_set_ne hmb]; exact hb
    · rw [List.getElem?_append_left (by rw [hAl]; exact hml), List.getElem?_set_self hml]
    · rw [List.set_append_left _ _ (by rw [hAl]; exact hml), List.set_set]
    · rw [List.getElem?_append_right (by rw [hAl]; omega), hAl]; simp
    · rw [List.all_append, all_set (allObj_mono (m := H.length) (n := H.length + 3) (by omega) hu) (pin_under (SObj.under_mono (m := H.length) (by omega) _ (by rw [List.all_eq_true] at hu; exact hu _ (mem_get hm))) he)]
      subst hlp
      simp only [List.all_cons, List.all_nil, SObj.under, SV.under.allUnder, SV.under, allU_map (f := sI) (fun _ => rfl), Bool.and_true, Bool.true_and, SV.under.allUnder, Bool.and_eq_true, decide_eq_true_eq]
      omega
  have harg : H ++ [SObj.cells [.vec (H.length + 1) 0], SObj.vec 1 []] ++ [lp] = (fun o (d : List Int) => H.set m o ++ [.cells [.vec (H.length + 1) d.length], .vec 1 (d.map sI), lp]) (.mapI .i64 es) [] := by
    simp [hset]
  have hlen : (H ++ [SObj.cells [.vec (H.length + 1) 0], SObj.vec 1 []]).length = H.length + 2 := by simp
  rw [harg, hlen]
  subst hlp
  refine (keysB1_spec G hf rfl (by omega) (by omega) ?_).mono ?_
  · intro es' clock done x it hes hdl
    refine syield_enter (q_g2 (hAl _) _ _ _ _) E.hfn rfl (by decide) ?_
    intro E3 hl3 hOwn hKR
    (refine sgo_sound [777] 1000 ?_; conv => whnf)
    refine sw_begin hOwn (q_g2 (hAl _) _ _ _ _) ?_
    refine Eq.mpr (congrArg (fun h => SW E3 _ _ h) (q_s2 (hAl _) _ _ _ _ _)) ?_
    (refine sgo_sound [777, 8] 1000 ?_; conv => whnf)
    refine swr_loadAt (v := .vec (H.length + 1) done.length) rfl rfl rfl rfl (q_g0 (hAl _) _ _ _ _) rfl ?_
    (refine sgor_sound [777] 1000 ?_; conv => whnf)
    refine swr_vappend (kk := 1) (new := [[dI x]]) rfl rfl rfl rfl rfl rfl rfl rfl rfl rfl ⟨by decide, rfl⟩ (q_g1 (hAl _) _ _ _ _) (by simp) (Nat.le_refl _) (by simp) (by simp; omega) ?_
    refine Eq.mpr (congrArg (fun h => SWr E3 _ _ _ _ h) (q_s1 (hAl _) _ _ _ _ _)) ?_
    refine swr_storeAt (d := []) (zz := .vec (H.length + 1) done.length) (r := []) (v := .vec (H.length + 1) (done.length + 1)) rfl rfl rfl rfl rfl rfl rfl rfl (q_g0 (hAl _) _ _ _ _) rfl ?_
    refine Eq.mpr (congrArg (fun h => SWr E3 _ _ _ _ h) (q_s0 (hAl _) _ _ _ _ _)) ?_
    (refine sgor_sound [777] 1000 ?_; conv => whnf)
    refine hKR none _ _ (by simp) (q_g2 (hAl _) _ _ _ _) ⟨rfl, by simp, ?_⟩
    rw [q_s2 (hAl _), List.take_of_length_le (by simp)]
    simp [LS.of]
  · rintro r H' ⟨ks, hp, hl', ht⟩
    have hkl : ks.length = es.length := by rw [hp.length_eq]; simp
    have hg2 : H'[H.length + 2]? = (H'.take (H.length + 3))[H.length + 2]? := by rw [List.getElem?_take, if_pos (by omega)]
    refine ⟨by omega, .ready, [(2, .ptr H.length 0), (6, .fn (.func 142) [] [.ptr b 0])], ?_, .inl ⟨rfl, ?_⟩⟩
    · rw [hg2, ht, List.getElem?_append_right (by rw [hAl]; omega), hAl]
      simp
    · have ht2 : (H'.set (H.length + 2) .dead).take (H.length + 2) = H ++ [.cells [.vec (H.length + 1) ks.length], .vec 1 (ks.map sI)] := by
        rw [List.take_set_of_le (Nat.le_refl _)]
        have : H'.take (H.length + 2) = (H'.take (H.length + 3)).take (H.length + 2) := by rw [List.take_take]; congr 1; omega
        rw [this, ht, hset, List.take_append]
        simp
        exact List.take_of_length_le (by omega)
      refine sw_kc [2] (H.length + 2) (by omega) (by simp; omega) (by show (decide (H.length < H.length + 2) && true) = true; simp) ?_ ?_
      · rw [ht2, List.all_append, allObj_mono (m := H.length) (by omega) hu]
        simp [SObj.under, SV.under, SV.under.allUnder, allU_map (f := sI) (fun _ => rfl)]
      · rw [ht2]
        (refine sgo_sound [777, 12] 1000 ?_; conv => whnf)
        refine swr_loadAt (v := .vec (H.length + 1) ks.length) (cs := [.vec (H.length + 1) ks.length]) rfl rfl rfl rfl (by simp) rfl ?_
        (refine sgor_sound [777] 1000 ?_; conv => whnf)
        exact hK _ _ ⟨ks, hp, rfl, by simp, by rw [List.take_of_length_le (by simp)]⟩

theorem sort_perm {a b : List Int} (h : a.Perm b) : sortI a = sortI b := by
  have ha := List.mergeSort_perm a fun x y => decide (x ≤ y)
  have hb := List.mergeSort_perm b fun x y => decide (x ≤ y)
  have sa : (sortI a).Pairwise fun x y => x ≤ y := by
    have := List.pairwise_mergeSort (le := fun (x y : Int) => decide (x ≤ y)) (fun a b c h1 h2 => by simp at *; omega) (fun a b => by simp; omega) a
    simpa using this
  have sb : (sortI b).Pairwise fun x y => x ≤ y := by
    have := List.pairwise_mergeSort (le := fun (x y : Int) => decide (x ≤ y)) (fun a b c h1 h2 => by simp at *; omega) (fun a b => by simp; omega) b
    simpa using this
  exact List.Perm.eq_of_pairwise (fun x y _ _ h1 h2 => by omega) sa sb ((ha.trans h).trans hb.symm)

theorem appendM_spec {H : List SObj} {es : List (Int × SV)} {m b : Nat} (hb : H[b]? = some (.cells [.map m])) (hm : H[m]? = some (.mapI .i64 es)) (hmb : m ≠ b) (hu : H.all (SObj.under H.length) = true) (hsz : es.length ≤ 1073741824) :
    SCall Tryz.prog G 165 [nilV, .fn (.func 141) [] [.ptr b 0]] H (fun r H' => ∃ ks : List Int, ks.Perm (es.map (·.1)) ∧ r = .vec (H.length + 1) ks.length ∧ H.length + 2 ≤ H'.length ∧ H'.take (H.length + 2) = H ++ [.cells [.vec (H.length + 1) ks.length], .vec 1 (ks.map sI)]) := by
  refine scall_enter Tryz.func165 rfl (by rw [Tryz.ntmps165]; simp) ?_
  intro E hH hK
  have hbl := lt_of_getElem? hb
  have hml := lt_of_getElem? hm
  (refine sgo_sound [777] 1000 ?_; conv => whnf)
  refine sw_vecCell H.length 0 1 (cs := [nilV]) (by show (H ++ [SObj.cells [nilV]])[H.length]? = _; simp) rfl ?_
  have e1 : (H ++ [SObj.cells [nilV]]).set H.length (.cells ([nilV].set 0 (.vec (H ++ [SObj.cells [nilV]]).length 0))) ++ [.vec 1 []] = H ++ [SObj.cells [.vec (H.length + 1) 0], .vec 1 []] := by simp
  refine sw_keep [2, 6] ?_
  refine Eq.mpr (congrArg (fun h => SW E _ _ h) e1) ?_
  show SW E _ [(2, .ptr H.length 0), (6, .fn (.func 141) [] [.ptr b 0])] _
  refine sw_rangeFunc rfl rfl ?_
  generalize hlp : SObj.loop .ready E.f _ [(2, SV.ptr H.length 0), (6, SV.fn (.func 141) [] [.ptr b 0])] _ _ _ = lp
  have hset : H.set m (.mapI .i64 es) = H := set_same hm
  have hAl : ∀ o, (H.set m o).length = H.length := fun o => by simp
  have hf : KeyH (fun o (d : List Int) => H.set m o ++ [.cells [.vec (H.length + 1) d.length], .vec 1 (d.map sI), lp]) es (H.length + 3) m b (H.length + 2) lp := by
    refine ⟨fun o d => by simp, fun o d => ?_, fun o d => ?_, fun o o' d => ?_, fun o d => ?_, fun es' clock d he => ?_⟩
    · rw [List.getElem?_append_left (by rw [hAl]; exact hbl), List.getElem?_set_ne hmb]; exact hb
    · rw [List.getElem?_append_left (by rw [hAl]; exact hml), List.getElem?_set_self hml]
    · rw [List.set_append_left _ _ (by rw [hAl]; exact hml), List.set_set]
    · rw [List.getElem?_append_right (by rw [hAl]; omega), hAl]; simp
    · rw [List.all_append, all_set (allObj_mono (m := H.length) (n := H.length + 3) (by omega) hu) (pin_under (SObj.under_mono (m := H.length) (by omega) _ (by rw [List.all_eq_true] at hu; exact hu _ (mem_get hm))) he)]
      subst hlp
      simp only [List.all_cons, List.all_nil, SObj.under, SV.under.allUnder, SV.under, allU_map (f := sI) (fun _ => rfl), Bool.and_true, Bool.true_and, SV.under.allUnder, Bool.and_eq_true, decide_eq_true_eq]
      omega
  have harg : H ++ [SObj.cells [.vec (H.length + 1) 0], SObj.vec 1 []] ++ [lp] = (fun o (d : List Int) => H.set m o ++ [.cells [.vec (H.length + 1) d.length], .vec 1 (d.map sI), lp]) (.mapI .i64 es) [] := by
    simp [hset]
  have hlen : (H ++ [SObj.cells [.vec (H.length + 1) 0], SObj.vec 1 []]).length = H.length + 2 := by simp
  rw [harg, hlen]
  subst hlp
  refine (keysM1_spec G hf rfl (by omega) (by omega) ?_).mono ?_
  · intro es' clock done x it hes hdl
    refine syield_enter (q_g2 (hAl _) _ _ _ _) E.hfn rfl (by decide) ?_
    intro E3 hl3 hOwn hKR
    (refine sgo_sound [777] 1000 ?_; conv => whnf)
    refine sw_begin hOwn (q_g2 (hAl _) _ _ _ _) ?_
    refine Eq.mpr (congrArg (fun h => SW E3 _ _ h) (q_s2 (hAl _) _ _ _ _ _)) ?_
    (refine sgo_sound [777, 8] 1000 ?_; conv => whnf)
    refine swr_loadAt (v := .vec (H.length + 1) done.length) rfl rfl rfl rfl (q_g0 (hAl _) _ _ _ _) rfl ?_
    (refine sgor_sound [777] 1000 ?_; conv => whnf)
    refine swr_vappend (kk := 1) (new := [[dI x]]) rfl rfl rfl rfl rfl rfl rfl rfl rfl rfl ⟨by decide, rfl⟩ (q_g1 (hAl _) _ _ _ _) (by simp) (Nat.le_refl _) (by simp) (by simp; omega) ?_
    refine Eq.mpr (congrArg (fun h => SWr E3 _ _ _ _ h) (q_s1 (hAl _) _ _ _ _ _)) ?_
    refine swr_storeAt (d := []) (zz := .vec (H.length + 1) done.length) (r := []) (v := .vec (H.length + 1) (done.length + 1)) rfl rfl rfl rfl rfl rfl rfl rfl (q_g0 (hAl _) _ _ _ _) rfl ?_
    refine Eq.mpr (congrArg (fun h => SWr E3 _ _ _ _ h) (q_s0 (hAl _) _ _ _ _ _)) ?_
    (refine sgor_sound [777] 1000 ?_; conv => whnf)
    refine hKR none _ _ (by simp) (q_g2 (hAl _) _ _ _ _) ⟨rfl, by simp, ?_⟩
    rw [q_s2 (hAl _), List.take_of_length_le (by simp)]
    simp [LS.of]
  · rintro r H' ⟨ks, hp, hl', ht⟩
    have hkl : ks.length = es.length := by rw [hp.length_eq]; simp
    have hg2 : H'[H.length + 2]? = (H'.take (H.length + 3))[H.length + 2]? := by rw [List.getElem?_take, if_pos (by omega)]
    refine ⟨by omega, .ready, [(2, .ptr H.length 0), (6, .fn (.func 141) [] [.ptr b 0])], ?_, .inl ⟨rfl, ?_⟩⟩
    · rw [hg2, ht, List.getElem?_append_right (by rw [hAl]; omega), hAl]
      simp
    · have ht2 : (H'.set (H.length + 2) .dead).take (H.length + 2) = H ++ [.cells [.vec (H.length + 1) ks.length], .vec 1 (ks.map sI)] := by
        rw [List.take_set_of_le (Nat.le_refl _)]
        have : H'.take (H.length + 2) = (H'.take (H.length + 3)).take (H.length + 2) := by rw [List.take_take]; congr 1; omega
        rw [this, ht, hset, List.take_append]
        simp
        exact List.take_of_length_le (by omega)
      refine sw_kc [2] (H.length + 2) (by omega) (by simp; omega) (by show (decide (H.length < H.length + 2) && true) = true; simp) ?_ ?_
      · rw [ht2, List.all_append, allObj_mono (m := H.length) (by omega) hu]
        simp [SObj.under, SV.under, SV.under.allUnder, allU_map (f := sI) (fun _ => rfl)]
      · rw [ht2]
        (refine sgo_sound [777, 12] 1000 ?_; conv => whnf)
        refine swr_loadAt (v := .vec (H.length + 1) ks.length) (cs := [.vec (H.length + 1) ks.length]) rfl rfl rfl rfl (by simp) rfl ?_
        (refine sgor_sound [777] 1000 ?_; conv => whnf)
        exact hK _ _ ⟨ks, hp, rfl, by simp, by rw [List.take_of_length_le (by simp)]⟩


theorem collectB_spec {H : List SObj} {es : List (Int × SV)} {m b : Nat} (hb : H[b]? = some (.cells [.map m])) (hm : H[m]? = some (.mapI .i64 es)) (hmb : m ≠ b) (hu : H.all (SObj.under H.length) = true) (hsz : es.length ≤ 1073741824) :
    SCall Tryz.prog G 140 [.fn (.func 142) [] [.ptr b 0]] H (fun r H' => ∃ ks : List Int, ks.Perm (es.map (·.1)) ∧ r = .vec (H.length + 1) ks.length ∧ H.length + 2 ≤ H'.length ∧ H'.take (H.length + 2) = H ++ [.cells [.vec (H.length + 1) ks.length], .vec 1 (ks.map sI)]) := by
  refine scall_enter Tryz.func140 rfl (by rw [Tryz.ntmps140]; simp) ?_
  intro E hH hK
  (refine sgo_sound [777] 1000 ?_; conv => whnf)
  refine swr_call rfl rfl rfl rfl rfl rfl ((appendB_spec G hb hm hmb hu hsz).mono ?_)
  rintro r H' ⟨ks, hp, rfl, hl, ht⟩
  refine ⟨by omega, ?_⟩
  (refine sgor_sound [777] 1000 ?_; conv => whnf)
  exact hK _ _ ⟨ks, hp, rfl, hl, ht⟩

/-- slices.Sorted(maps.Keys(m)): the keys as data; what was there is as it was -/
theorem sortedB_spec {H : List SObj} {es : List (Int × SV)} {m b : Nat} (hb : H[b]? = some (.cells [.map m])) (hm : H[m]? = some (.mapI .i64 es)) (hmb : m ≠ b) (hu : H.all (SObj.under H.length) = true) (hsz : es.length ≤ 1073741824) :
    SCall Tryz.prog G 101 [.fn (.func 142) [] [.ptr b 0]] H (fun r H' => r = .imm (dInts (sortI (es.map (·.1)))) ∧ H' = H) := by
  refine scall_enter Tryz.func101 rfl (by rw [Tryz.ntmps101]; simp) ?_
  intro E hH hK
  (refine sgo_sound [777] 1000 ?_; conv => whnf)
  refine swr_call rfl rfl rfl rfl rfl rfl ((collectB_spec G hb hm hmb hu hsz).mono ?_)
  rintro r H' ⟨ks, hp, rfl, hl, ht⟩
  refine ⟨by omega, ?_⟩
  have hkl : ks.length = es.length := by rw [hp.length_eq]; simp
  have hg1 : H'[H.length + 1]? = some (.vec 1 (ks.map sI)) := by
    have : H'[H.length + 1]? = (H'.take (H.length + 2))[H.length + 1]? := by rw [List.getElem?_take, if_pos (by omega)]
    rw [this, ht]
    simp
  (refine sgor_sound [777] 1000 ?_; conv => whnf)
  refine swr_call rfl rfl rfl rfl rfl rfl ((vec_sorted G (H.length + 1) ks H' hg1 (by omega)).mono ?_)
  rintro r H2 ⟨rfl, rfl⟩
  refine ⟨by simp, ?_⟩
  have hsl : (sortI ks).length = ks.length := by simp
  rw [← sort_perm hp] at hK
  generalize sortI ks = ss at hK hsl ⊢
  have hg2 : (H'.set (H.length + 1) (.vec 1 (ss.map sI)))[H.length + 1]? = some (.vec 1 (ss.map sI)) := List.getElem?_set_self (by omega)
  have hc := chunks_one (ss.map dI)
  rw [List.length_map, hsl] at hc
  have ht2 : ((H'.set (H.length + 1) (.vec 1 (ss.map sI))).set (H.length + 1) .dead).take H.length = H := by
    rw [List.set_set, List.take_set_of_le (by omega)]
    have : H'.take H.length = (H'.take (H.length + 2)).take H.length := by rw [List.take_take]; congr 1; omega
    rw [this, ht]
    simp
  refine swr_lift (t' := [(3, .imm (dInts ss))]) (H' := H) (fun k h => sw_vshut 3 (H.length + 1) ks.length 1 (cs := ss.map sI) (ds := ss.map dI) rfl hg2 (by simp [SV.one]) (by rw [show ss.map sI = (ss.map dI).map SV.imm by simp]; exact mapM_imm _) (by simp [hsl]) (Nat.le_refl _) ?_) ?_
  · refine sw_kc [3] H.length (by omega) (by simp; omega) rfl (by rw [ht2]; exact hu) ?_
    rw [ht2, hc]
    exact cast (by simp [dInts]; rfl) h
  · (refine sgor_sound [777] 1000 ?_; conv => whnf)
    exact hK _ _ ⟨rfl, rfl⟩

theorem collectM_spec {H : List SObj} {es : List (Int × SV)} {m b : Nat} (hb : H[b]? = some (.cells [.map m])) (hm : H[m]? = some (.mapI .i64 es)) (hmb : m ≠ b) (hu : H.all (SObj.under H.length) = true) (hsz : es.length ≤ 1073741824) :
    SCall Tryz.prog G 140 [.fn (.func 141) [] [.ptr b 0]] H (fun r H' => ∃ ks : List Int, ks.Perm (es.map (·.1)) ∧ r = .vec (H.length + 1) ks.length ∧ H.length + 2 ≤ H'.length ∧ H'.take (H.length + 2) = H ++ [.cells [.vec (H.length + 1) ks.length], .vec 1 (ks.map sI)]) := by
  refine scall_enter Tryz.func140 rfl (by rw [Tryz.ntmps140]; simp) ?_
  intro E hH hK
  (refine sgo_sound [777] 1000 ?_; conv => whnf)
  refine swr_call rfl rfl rfl rfl rfl rfl ((appendM_spec G hb hm hmb hu hsz).mono ?_)
  rintro r H' ⟨ks, hp, rfl, hl, ht⟩
  refine ⟨by omega, ?_⟩
  (refine sgor_sound [777] 1000 ?_; conv => whnf)
  exact hK _ _ ⟨ks, hp, rfl, hl, ht⟩

theorem sortedM_spec {H : List SObj} {es : List (Int × SV)} {m b : Nat} (hb : H[b]? = some (.cells [.map m])) (hm : H[m]? = some (.mapI .i64 es)) (hmb : m ≠ b) (hu : H.all (SObj.under H.length) = true) (hsz : es.length ≤ 1073741824) :
    SCall Tryz.prog G 101 [.fn (.func 141) [] [.ptr b 0]] H (fun r H' => r = .imm (dInts (sortI (es.map (·.1)))) ∧ H' = H) := by
  refine scall_enter Tryz.func101 rfl (by rw [Tryz.ntmps101]; simp) ?_
  intro E hH hK
  (refine sgo_sound [777] 1000 ?_; conv => whnf)
  refine swr_call rfl rfl rfl rfl rfl rfl ((collectM_spec G hb hm hmb hu hsz).mono ?_)
  rintro r H' ⟨ks, hp, rfl, hl, ht⟩
  refine ⟨by omega, ?_⟩
  have hkl : ks.length = es.length := by rw [hp.length_eq]; simp
  have hg1 : H'[H.length + 1]? = some (.vec 1 (ks.map sI)) := by
    have : H'[H.length + 1]? = (H'.take (H.length + 2))[H.length + 1]? := by rw [List.getElem?_take, if_pos (by omega)]
    rw [this, ht]
    simp
  (refine sgor_sound [777] 1000 ?_; conv => whnf)
  refine swr_call rfl rfl rfl rfl rfl rfl ((vec_sorted G (H.length + 1) ks H' hg1 (by omega)).mono ?_)
  rintro r H2 ⟨rfl, rfl⟩
  refine ⟨by simp, ?_⟩
  have hsl : (sortI ks).length = ks.length := by simp
  rw [← sort_perm hp] at hK
  generalize sortI ks = ss at hK hsl ⊢
  have hg2 : (H'.set (H.length + 1) (.vec 1 (ss.map sI)))[H.length + 1]? = some (.vec 1 (ss.map sI)) := List.getElem?_set_self (by omega)
  have hc := chunks_one (ss.map dI)
  rw [List.length_map, hsl] at hc
  have ht2 : ((H'.set (H.length + 1) (.vec 1 (ss.map sI))).set (H.length + 1) .dead).take H.length = H := by
    rw [List.set_set, List.take_set_of_le (by omega)]
    have : H'.take H.length = (H'.take (H.length + 2)).take H.length := by rw [List.take_take]; congr 1; omega
    rw [this, ht]
    simp
  refine swr_lift (t' := [(3, .imm (dInts ss))]) (H' := H) (fun k h => sw_vshut 3 (H.length + 1) ks.length 1 (cs := ss.map sI) (ds := ss.map dI) rfl hg2 (by simp [SV.one]) (by rw [show ss.map sI = (ss.map dI).map SV.imm by simp]; exact mapM_imm _) (by simp [hsl]) (Nat.le_refl _) ?_) ?_
  · refine sw_kc [3] H.length (by omega) (by simp; omega) rfl (by rw [ht2]; exact hu) ?_
    rw [ht2, hc]
    exact cast (by simp [dInts]; rfl) h
  · (refine sgor_sound [777] 1000 ?_; conv => whnf)
    exact hK _ _ ⟨rfl, rfl⟩

end Go.Proofs.YtblpjknmhajcgaaGreatDoor

/- The shadow machine, part 43: a drawn region by all its orders; a call of yield at any place of an order; contracts over a closed heap. -/
namespace Go.Sh
def readyL (ops : Array Oper) (listed : Array Bool) : List Nat :=
  (List.range ops.size).filter fun i => !listed.getD i true && ((ops[i]?).map (·.after.all fun e => !Region.binds .any e || listed.getD e.on false)).getD false
def runsGo (ops : Array Oper) : Nat → Array Bool → List (List Nat)
  | 0, _ => [[]]
  | n + 1, listed => match readyL ops listed with
    | [] => [[]]
    | r :: rs => (r :: rs).flatMap fun i => (runsGo ops n (listed.setIfInBounds i true)).map (i :: ·)
theorem go_mem (ops : Array Oper) : ∀ (fuel t : Nat) (listed : Array Bool), Region.linearise.go .any ops fuel t listed [] ∈ runsGo ops fuel listed
  | 0, t, listed => by simp [Region.linearise.go, runsGo]
  | fuel + 1, t, listed => by
    simp only [Region.linearise.go, runsGo]
    change (match (readyL ops listed)[t % (readyL ops listed).length]? with
      | some i => Region.linearise.go .any ops fuel (t / (readyL ops listed).length) (listed.setIfInBounds i true) [i]
      | none => [].reverse) ∈ _
    cases hi : (readyL ops listed)[t % (readyL ops listed).length]? with
    | none =>
      cases hr : readyL ops listed with
      | nil => simp
      | cons x xs =>
        rw [hr] at hi
        have hlt : t % (x :: xs).length < (x :: xs).length := Nat.mod_lt _ (by simp)
        simp at hi
        simp at hlt
        omega
    | some i =>
      have hm := List.mem_of_getElem? hi
      cases hr : readyL ops listed with
      | nil => rw [hr] at hm; cases hm
      | cons x xs =>
        rw [hr] at hm
        simp only []
        rw [linearise_go_acc, List.reverse_singleton, List.singleton_append]
        refine List.mem_flatMap.2 ⟨i, hm, List.mem_map.2 ⟨_, go_mem ops fuel _ _, rfl⟩⟩
def runsOf (ops : Array Oper) : List (List Nat) := runsGo ops ops.size (Array.replicate ops.size false)

section
variable {P : Program} {G : List (Nat × D)} {fn : Func} {rd : Bool} {E : En P G fn rd} {t : List (Nat × SV)} {H : List SObj} {k : List Item}
/-- a region in an open order: every order that may be drawn -/
theorem sw_orders {id : Nat} {all : Array Oper} (hm : P.follows .mixedOrders = true) {L : List (List Nat)} (hL : runsOf all = L) (h : ∀ l ∈ L, SW E (.inRegion all l :: k) t H) : SW E (.code (.region id all true) :: k) t H := by
  subst hL
  refine ⟨fun a w I β cs hs => ?_⟩
  have hH1 : HeapOK G { w with drawn := w.drawn + 1 } I β H := hs.heap.grow (fun _ _ => rfl) (fun _ _ h => h) (fun _ _ h => .inl h) hs.heap.inI
  have hE1 : Ext H.length w I β H { w with drawn := w.drawn + 1 } I β H := .grow hs.heap (fun _ _ => rfl) (Nat.le_refl _) (fun _ _ h => h) (fun _ _ h => .inl h)
  refine .of_steps (.one rstep_region_draw) ?_
  simp only [Region.schedule, hm, Bool.true_or, if_true]
  refine (h _ (go_mem all _ _ _)).run a _ I β cs ?_
  exact ⟨hH1, fun n => (hs.tmps n).ext (by rw [hs.heap.len]; exact hE1), hs.size, hs.defers.ext hE1, hs.ext.trans (hE1.weaken hs.hlen), hs.hlen⟩

theorem sw_yield_at {b j : Nat} {all : Array Oper} {o : Oper} {rest : List Nat} {fx : Operand} {args : Array Operand} {tys : Array TypeId} {s : LS} {f : FuncId} {n : Nat} {tL : List (Nat × SV)} {ps : Array Tmp} {asg bd : Code}
    (ho : all[j]? = some o) (hop : o.op = .call ⟨.value fx, args, tys⟩) (hw : swant all t o.guard = some true) (hd : dstOK fn.ntmps o.dst = true) (hf : evalS G t fx = .yld b) (hH : H[b]? = some (.loop s f n tL ps asg bd)) (hps : args.size = ps.size)
    {argv : List SV} (hargs : args.toList.map (evalS G t) = argv)
    (hc : SYield P G b argv H (fun res H' => H.length ≤ H'.length ∧ SW E (.inRegion all rest :: k) (tput t o.dst (.imm (.val (.bool res)))) H')) : SW E (.inRegion all (j :: rest) :: k) t H := by
  subst hargs
  refine ⟨fun a w I β cs hs => ?_⟩
  have hwant := swant_sound hw hs
  have hfr := hs.eval fx
  rw [hf] at hfr
  generalize hfv : a.eval fx = fv at hfr
  cases hfr with
  | yld _ l hbl =>
  obtain ⟨r, q1, q2, q3, q4, q5, q6, q7, q8, q9⟩ := hs.heap.obj b _ _ hH hbl
  have hrun : (execOp a.eval o).run P w = .ok (.round l r.fn ((r.params.zip (args.map a.eval)).foldl (fun tmps (t, a) => tmps.setIfInBounds t a) r.tmps) r.assign r.body) w := by
    obtain ⟨dst, op, type, pos, after, guard⟩ := o
    simp only at hop
    subst hop
    simp only [execOp, resolve, hfv, Deferred.ofValue, Sem.run_bind, Sem.run_pure, Result.andThen_ok, invoke]
    have := run_yield (P := P) (args := #[] ++ args.map a.eval) q1 (by simp [hps, q5])
    simpa using this
  have hreps : Reps w I β (args.map a.eval).toList (args.toList.map (evalS G t)) := by simpa using reps_map hs.eval args.toList
  obtain ⟨res, w', ⟨I', β', H', ⟨hl, hsw⟩, hH', hext⟩, hsteps⟩ := hc w I β l r _ hs.heap hbl q1 hreps (E.at a (.inRegion all (j :: rest) :: k)) cs
  have hg := rstepG_op (P := P) (b := E.base) (ro := E.ro) (k := k) (cs := cs) (w := w) (rest := rest) ho hwant (.inr fun c e => by rw [hop] at e; cases e)
  have henter : step P (lone (E.at a (.inRegion all (j :: rest) :: k)) cs w) =
      .next (lone (Frame.round l r.fn ((r.params.zip (args.map a.eval)).foldl (fun tmps (t, a) => tmps.setIfInBounds t a) r.tmps) r.assign r.body .normal) (E.at a (.inRegion all (j :: rest) :: k) :: cs) w) :=
    step_lone_go (by unfold En.at; rw [hg]; simp only [stepG.apply, Sem.runT_eq, hrun, if_true, GStep.bare_after]; rfl)
  have hfin : (E.at a (.inRegion all (j :: rest) :: k)).finish (.bool res) = E.at (a.put o.dst (.bool res)) (.inRegion all rest :: k) := by
    unfold En.at; rw [rfinish_at, ho]; rfl
  rw [hfin] at hsteps
  exact .of_steps (.head henter hsteps) (hsw.run _ w' I' β' cs (hs.put hd (.imm (.val _)) hH' hext hl))

/-- what is proved over a closed heap holds with anything behind it -/
theorem spre_of {f : FuncId} {args : List SV} {H0 : List SObj} {K : SV → List SObj → Prop} (hargs : args.all (SV.under H0.length) = true) (hH0 : H0.all (SObj.under H0.length) = true)
    (h : SCall P G f args H0 (fun r H' => H0.length ≤ H'.length ∧ r.under H0.length = true ∧ (H'.take H0.length).all (SObj.under H0.length) = true ∧ K r (H'.take H0.length))) : SPre P G f args H0 K := by
  intro X w I β vs hH hv
  have hs := hH.small hH0
  refine (h w I (β.take H0.length) vs hs (reps_small hv hargs)).mono ?_
  rintro e w' ⟨v, r, I', β1, H', rfl, ⟨hl, hr, hu1, hK⟩, g1, g2, g3⟩
  obtain ⟨q1, q2⟩ := hH.whole (H1 := H') hl hu1 g2 g3
  have hlen1 : β1.length = H'.length := g2.len
  refine ⟨v, r, I', _, _, rfl, ⟨H'.take H0.length, hK, by simp; omega, rfl⟩, ?_, q1, q2⟩
  refine (rep_small g1 hr).mono_below (fun _ _ h => h) (fun _ _ _ => rfl) (m := H0.length) (fun b x hb hx => ?_) hr
  exact ⟨x, by rw [List.getElem?_append_left (lt_of_getElem? hx)]; exact hx, x.le_refl⟩

/-- m[k] on an own map, in an open order -/
theorem swe_lookI {all : Array Oper} {o : Oper} {rest : List Oper} {done : List Eff} {K : List SObj} {mm ty kt et b : Nat} {z : Value} {x ix : Operand} {α : Type} {kk : IntKind} {i : Int} {l : List (Int × α)} (f : α → SV) {v : SV} (hop : o.op = .lookup ty x ix false)
    (hw : swant all t o.guard = some true) (hd : dstOK fn.ntmps o.dst = true) (hx : evalS G t x = .map b) (hi : evalS G t ix = .imm (.val (.int kk i))) (hu : P.underlying ty = some (.map kt et)) (hk : P.underlying kt = some (.int kk)) (hz : pzero P et = some z)
    (hm : mm ≤ K.length) (hb : K[b]? = some (.mapI kk (encM f l))) (hv : ((alook i l).map f).getD (ofWhole z) = v) (h : SWe E mm all rest k (tput t o.dst v) K (done ++ [⟨v, [b], none⟩])) : SWe E mm all (o :: rest) k t K done := by
  refine swe_op ⟨v, [b], none⟩ hw hd hm (fun K' _ ha => ?_) h
  have hb' : K'[b]? = some (.mapI kk (encM f l)) := by rw [ha b (.inl (by simp))]; exact hb
  rw [hop]
  have := sop_lookI (G := G) (t := t) (P := P) (ok := false) (f := f) hx hi hb' hu hk hz
  rw [this, hv]
  rfl
end
end Go.Sh

/- slices.Clone and slices.Compact on ints: contracts. -/
namespace Go.Sh
open Go.RowKit
section
variable {P : Program} {G : List (Nat × D)} {w w' : World} {I : Imm} {β : List Bnd} {H : List SObj}
theorem below_old (h : Below w.heap.size w w') : ∀ c, c < w.heap.size → w'.heap[c]? = w.heap[c]? := fun c hc => h.block c hc
/-- a new row as data -/
theorem row_imm {e : TypeId} {v : Value} {n : Nat} {l : List Int} (hH : HeapOK G w I β H) (hrow : w'.ownsRow w.heap.size e 1 v n (l.map (Value.int .i64))) (hb : Below w.heap.size w w') :
    ∃ I', Rep w' I' β v (.imm (dInts l)) ∧ HeapOK G w' I' β H ∧ Ext H.length w I β H w' I' β H := by
  obtain ⟨hlen, hcase⟩ := hrow
  have hn : l.length = n := by simpa using hlen
  have hold := below_old hb
  have hen : SameEnv w w' := ⟨hb.os, hb.output⟩
  rcases hcase with ⟨rfl, h0⟩ | ⟨g, cap, cur, rfl, hg, hc, h1, h2, h3, h4⟩
  · have : l = [] := List.length_eq_zero_iff.1 (by omega)
    subst this
    refine ⟨I, .imm (.islNil 1), hH.grow hold (fun _ _ h => h) (fun _ _ h => .inl h) (fun c o hc => Nat.lt_of_lt_of_le (hH.inI c o hc) hb.size), .grow hH hold hb.size (fun _ _ h => h) (fun _ _ h => .inl h) hen⟩
  · have hlt := heap_lt hc
    refine ⟨fun c o => I c o ∨ c = g, ?_, hH.grow hold (fun _ _ h => .inl h) (fun c o h => h.imp id (fun e => by omega)) (fun c o h => ?_), .grow hH hold hb.size (fun _ _ h => .inl h) (fun c o h => h.imp id (fun e => by omega)) hen⟩
    · subst hn
      have key : ∀ i (hi : i < l.length), w'.cell? ⟨g, 0 + i * 1 + 0, none⟩ = some (.int .i64 (l[i]'hi)) := by
        intro i hi
        rw [cell_of_heap hc]
        have h5 : (cur.toList.take (l.length * 1))[i]? = some (.int .i64 (l[i]'hi)) := by rw [h4, List.getElem?_map, List.getElem?_eq_getElem hi]; rfl
        rw [List.getElem?_take, if_pos (by omega)] at h5
        simpa using h5
      have hr : DRep w' (fun c o => I c o ∨ c = g) (.slice (some ⟨g, 0, none⟩) (l.map fun n => [dI n]).length cap) (.isl 1 (l.map fun n => [dI n])) := by
        refine .isl g 0 cap 1 _ (fun i _ => .int .i64 (l.getD i 0)) (by simpa using h1) h2 (fun i h => by simp) (fun i j hi hj => ?_) (fun i j hi hj => ?_)
        · have hi' : i < l.length := by simpa using hi
          have hj0 : j = 0 := by omega
          subst hj0
          refine ⟨.inr rfl, ?_, rfl⟩
          rw [key i hi']
          simp [hi']
        · have hi' : i < l.length := by simpa using hi
          have hj0 : j = 0 := by simp at hj; omega
          subst hj0
          simp [hi']
          exact .val _
      rw [List.length_map] at hr
      exact .imm hr
    · rcases h with h | rfl
      · exact Nat.lt_of_lt_of_le (hH.inI c o h) hb.size
      · exact hlt
/-- a new row as an own slice -/
theorem row_vec {e : TypeId} {v : Value} {n : Nat} {l : List Int} (hH : HeapOK G w I β H) (hrow : w'.ownsRow w.heap.size e 1 v n (l.map (Value.int .i64))) (hb : Below w.heap.size w w') :
    Rep w' I (β ++ [.tok v]) v (.vec H.length l.length) ∧ HeapOK G w' I (β ++ [.tok v]) (H ++ [.vec 1 (l.map sI)]) ∧ Ext H.length w I β H w' I (β ++ [.tok v]) (H ++ [.vec 1 (l.map sI)]) := by
  obtain ⟨hlen, hcase⟩ := hrow
  have hn : l.length = n := by simpa using hlen
  have hold := below_old hb
  have hen : SameEnv w w' := ⟨hb.os, hb.output⟩
  have hg1 : HeapOK G w' I β H := hH.grow hold (fun _ _ h => h) (fun _ _ h => .inl h) (fun c o hc => Nat.lt_of_lt_of_le (hH.inI c o hc) hb.size)
  have he1 : Ext H.length w I β H w' I β H := .grow hH hold hb.size (fun _ _ h => h) (fun _ _ h => .inl h) hen
  have hbl : (β ++ [Bnd.tok v])[H.length]? = some (.tok v) := by rw [← hH.len]; simp
  rcases hcase with ⟨rfl, h0⟩ | ⟨g, cap, cur, rfl, hg, hc, h1, h2, h3, h4⟩
  · have : l = [] := List.length_eq_zero_iff.1 (by omega)
    subst this
    refine ⟨.vec H.length 0 _ _ 0 hbl ⟨_, _, rfl⟩ (Nat.le_refl _) ⟨_, _, _, rfl⟩ (fun _ => rfl), hg1.push (.inl ⟨rfl, rfl⟩) (fun b c h => by cases h), he1.trans (.push hg1 (fun c h => by cases h))⟩
  · subst hn
    have hno : ∀ o, ¬ I g o := fun o hi => by have := hH.inI g o hi; omega
    refine ⟨.vec H.length _ _ _ l.length hbl ⟨_, _, rfl⟩ (Nat.le_refl _) ⟨_, _, _, rfl⟩ (fun _ => rfl), hg1.push (.inr ⟨g, l.length, cap, cur, e, rfl, hc, h3, h1, h2, by simp, fun j hj hj' => ?_, hno⟩) (fun b c h ho => ?_), ?_⟩
    · have hjl : j < l.length := by simpa using hj
      have h5 : (cur.toList.take (l.length * 1))[j]? = some (.int .i64 (l[j]'hjl)) := by rw [h4, List.getElem?_map, List.getElem?_eq_getElem hjl]; rfl
      rw [List.getElem?_take, if_pos (by omega)] at h5
      have h6 : cur[j]'hj' = .int .i64 (l[j]'hjl) := by
        have : cur.toList[j]? = some (cur[j]'hj') := by simp
        rw [this] at h5
        exact Option.some.inj h5
      rw [h6]
      simp only [List.getElem_map]
      exact .imm (.val _)
    · cases h
      have := hH.owns_lt ho
      exact absurd hg (Nat.not_le.2 this)
    · refine { imm := fun _ _ h => h, cell := he1.cell, keep := .push _ _ _, old := fun c hc _ => hold c hc, own := ?_, new := fun _ _ h => .inl h, size := hb.size, env := hen }
      rintro b c ⟨o', x', q1, q2, q3, q4⟩
      rcases get_push q3 with ⟨hlt, q3⟩ | ⟨rfl, rfl⟩
      · rcases get_push q1 with ⟨_, q1⟩ | ⟨rfl, rfl⟩
        · exact .inl ⟨b, o', x', q1, q2, q3, q4⟩
        · exact absurd hlt (by rw [hH.len]; omega)
      · cases q4; exact .inr hg
end
end Go.Sh
namespace Go.Proofs.YtblpjknmhajcgaaGreatDoor
open Go Go.Sh Go.RowKit
set_option maxRecDepth 10000
set_option maxHeartbeats 2000000
variable (G : List (Nat × D))

theorem cloneOwn_spec {H : List SObj} {b : Nat} {l : List Int} (hb : H[b]? = some (.cells (l.map sI))) (hsz : l.length ≤ 1073741824) :
    SCall Tryz.prog G 63 [.osl b 0 l.length] H (fun r H' => r = .imm (dInts l) ∧ H' = H) := by
  intro w I β vs hH hv
  obtain ⟨v, hvs, hr⟩ := hv.one
  have hvv : vs = #[v] := by apply Array.ext'; simpa using hvs
  subst hvv
  cases hr with
  | osl _ c _ _ cap hbc hcap hmax =>
  obtain ⟨cur, T, a1, a2, a3, a4⟩ := hH.obj b _ _ hb hbc
  refine (Go.Proofs.Tryz.slices_Clone_int c 0 l.length cap l w (Nat.le_refl _) (by omega) (fun j hj => ?_)).mono ?_
  · rw [Nat.zero_add, cell_of_heap a1]
    have hjc : j < cur.size := by rw [a2]; simpa using hj
    have := a3 j (by simpa using hj) hjc
    rw [Array.getElem?_eq_getElem hjc]
    simp only [List.getElem_map] at this
    generalize cur[j] = q at this
    cases this with | imm h => cases h; simp [hj]
  · rintro e w' ⟨v', rfl, hrow, _, hbel⟩
    rw [List.take_of_length_le (Nat.le_refl _)] at hrow
    obtain ⟨I', g1, g2, g3⟩ := row_imm hH hrow hbel
    exact ⟨v', _, I', β, H, rfl, ⟨rfl, rfl⟩, g1, g2, g3⟩
/-- a copy of a slice of data: a row of the call's own -/
theorem cloneRow {w : World} {I : Imm} {v : Value} {l : List Int} (hd : DRep w I v (dInts l)) (hsz : l.length ≤ 1073741824) :
    Calls Tryz.prog 63 #[v] w fun e w' => ∃ v', e = .returned v' ∧ w'.ownsRow w.heap.size 3 1 v' l.length (l.map (Value.int .i64)) ∧ Below w.heap.size w w' := by
  unfold dInts at hd
  generalize hrows : (l.map fun n => [dI n]) = rows at hd
  cases hd with
  | islNil =>
    have : l = [] := by simpa using hrows
    subst this
    refine (Go.Proofs.Tryz.slices_Clone_int_nil 0 0 w).mono ?_
    rintro e w' ⟨rfl, rfl⟩
    exact ⟨_, rfl, ⟨rfl, .inl ⟨rfl, rfl⟩⟩, .refl _ _⟩
  | islEmpty a =>
    have : l = [] := by simpa using hrows
    subst this
    refine (Go.Proofs.Tryz.slices_Clone_int_zero a 0 w).mono ?_
    rintro e w' ⟨v', rfl, h1, _, h2⟩
    exact ⟨_, rfl, h1, h2⟩
  | isl b o cap _ _ V h1 h2 h3 h4 h5 =>
    subst hrows
    rw [List.length_map]
    refine (Go.Proofs.Tryz.slices_Clone_int b o l.length cap l w (Nat.le_refl _) (by omega) (fun j hj => ?_)).mono ?_
    · have hj' : j < (l.map fun n => [dI n]).length := by simpa using hj
      obtain ⟨_, g2, _⟩ := h4 j 0 hj' (by omega)
      have g3 := h5 j 0 hj' (by simp)
      simp only [Nat.mul_one, Nat.add_zero] at g2
      rw [g2]
      simp only [List.getElem_map, List.getElem_cons_zero] at g3
      generalize V j 0 = q at g3
      cases g3
      simp [hj]
    · rintro e w' ⟨v', rfl, hrow, _, hbel⟩
      rw [List.take_of_length_le (Nat.le_refl _)] at hrow
      exact ⟨v', rfl, hrow, hbel⟩
theorem cloneImm_spec (l : List Int) (hsz : l.length ≤ 1073741824) : SPure Tryz.prog G 63 [.imm (dInts l)] (.imm (dInts l)) := by
  intro H w I β vs hH hv
  obtain ⟨v, hvs, hr⟩ := hv.one
  have hvv : vs = #[v] := by apply Array.ext'; simpa using hvs
  subst hvv
  cases hr with | imm hd =>
  refine (cloneRow hd hsz).mono ?_
  rintro e w' ⟨v', rfl, hrow, hbel⟩
  obtain ⟨I', g1, g2, g3⟩ := row_imm hH hrow hbel
  exact ⟨v', _, I', β, H, rfl, ⟨rfl, rfl⟩, g1, g2, g3⟩
theorem cloneVec_spec (l : List Int) (H : List SObj) (hsz : l.length ≤ 1073741824) : SCall Tryz.prog G 63 [.imm (dInts l)] H (fun r H' => r = .vec H.length l.length ∧ H' = H ++ [.vec 1 (l.map sI)]) := by
  intro w I β vs hH hv
  obtain ⟨v, hvs, hr⟩ := hv.one
  have hvv : vs = #[v] := by apply Array.ext'; simpa using hvs
  subst hvv
  cases hr with | imm hd =>
  refine (cloneRow hd hsz).mono ?_
  rintro e w' ⟨v', rfl, hrow, hbel⟩
  obtain ⟨g1, g2, g3⟩ := row_vec hH hrow hbel
  exact ⟨v', _, I, _, _, rfl, ⟨rfl, rfl⟩, g1, g2, g3⟩

theorem compact_len (l : List Int) : (Go.Lib.compact l).length ≤ l.length := by
  unfold Go.Lib.compact Go.Lib.compactUpTo
  rw [List.length_map]
  exact Nat.le_trans (List.length_filter_le _ _) (by simp)
theorem heap_kept {G : List (Nat × D)} {w w' : World} {I : Imm} {β : List Bnd} {H : List SObj} {b c : Nat} {o0 : SObj} {x0 : Bnd} (hH : HeapOK G w I β H) (hb : H[b]? = some o0) (hd : o0 ≠ .dead) (hx : β[b]? = some x0) (hxc : x0.block = some c)
    (hold : ∀ c', c' < w.heap.size → c' ≠ c → w'.heap[c']? = w.heap[c']?) (hsz : w.heap.size ≤ w'.heap.size) (hnI : ∀ o, ¬ I c o) (hen : SameEnv w w') :
    HeapOK G w' (fun c' o => I c' o ∨ c' = c) β (H.set b .dead) ∧ Ext H.length w I β H w' (fun c' o => I c' o ∨ c' = c) β (H.set b .dead) := by
  have hbl := lt_of_getElem? hb
  have hown : owns H β b c := ⟨_, _, hb, hd, hx, hxc⟩
  have hcellI : ∀ c' o, I c' o → w'.cell? ⟨c', o, none⟩ = w.cell? ⟨c', o, none⟩ := fun c' o hi => cell_congr (hold c' (hH.inI c' o hi) (fun e => hnI o (e ▸ hi))) o
  have hsub : ∀ b' c', owns (H.set b .dead) β b' c' → b' ≠ b ∧ owns H β b' c' := by
    rintro b' c' ⟨o, x, h1, h2, h3, h4⟩
    have hne : b' ≠ b := by
      rintro rfl
      rw [List.getElem?_set_self hbl] at h1
      cases h1; exact h2 rfl
    rw [List.getElem?_set_ne (Ne.symm hne)] at h1
    exact ⟨hne, o, x, h1, h2, h3, h4⟩
  refine ⟨⟨by simp [hH.len], fun b' o x h1 h2 => ?_, fun b1 b2 c' h1 h2 => hH.inj b1 b2 c' (hsub b1 c' h1).2 (hsub b2 c' h2).2, fun c' o hi => ?_, fun g d hg => (hH.glob g d hg).mono (fun _ _ h => .inl h) hcellI⟩,
    { imm := fun _ _ h => .inl h, cell := hcellI, keep := .refl _ _, old := fun c' hc' hn => hold c' hc' (fun e => hn b (e ▸ hown)), own := fun b' c' g => .inl ⟨b', (hsub b' c' g).2⟩, new := fun c' o hi => ?_, size := hsz, env := hen }⟩
  · by_cases hne : b' = b
    · subst hne
      rw [List.getElem?_set_self hbl] at h1
      cases h1; trivial
    · rw [List.getElem?_set_ne (Ne.symm hne)] at h1
      by_cases hdead : o = .dead
      · subst hdead; trivial
      · have hcc : ∀ c', x.block = some c' → c' ≠ c := fun c' hc e => by
          subst e
          exact hne (hH.inj b' b _ ⟨o, x, h1, hdead, h2, hc⟩ hown)
        refine (hH.obj b' o x h1 h2).mono (fun c' hc => hold c' ((hH.obj b' o x h1 h2).block_lt hdead hc) (hcc c' hc)) (fun _ _ h => .inl h) hcellI (.refl _ _) (fun c' q hc hi => ?_)
        rcases hi with h3 | h3
        · exact h3
        · exact absurd h3 (hcc c' hc)
  · rcases hi with h3 | rfl
    · exact Nat.lt_of_lt_of_le (hH.inI c' o h3) hsz
    · exact Nat.lt_of_lt_of_le (hH.owns_lt hown) hsz
  · rcases hi with h3 | rfl
    · exact .inl h3
    · exact .inr (.inl ⟨b, hown⟩)
theorem compactVec_spec (b : Nat) (l : List Int) (H : List SObj) (hb : H[b]? = some (.vec 1 (l.map sI))) (hsz : l.length ≤ 1073741824) :
    SCall Tryz.prog G 65 [.vec b l.length] H (fun r H' => r = .imm (dInts (Go.Lib.compact l)) ∧ H' = H.set b .dead) := by
  intro w I β vs hH hv
  obtain ⟨v, hvs, hr⟩ := hv.one
  have hvv : vs = #[v] := by apply Array.ext'; simpa using hvs
  subst hvv
  obtain ⟨hbu, hcase⟩ := vec_now hH hb hr (by simp) (Nat.le_refl _)
  have hcl := compact_len l
  rcases hcase with ⟨h0, rfl, _⟩ | ⟨c, cap, cur, T, rfl, a1, a2, a2', hmax, a3, a4⟩
  · have hl : l = [] := List.length_eq_zero_iff.1 h0
    subst hl
    refine (Go.Proofs.Tryz.slices_Compact_int_empty none 0 w).mono ?_
    rintro e w' ⟨rfl, rfl⟩
    refine ⟨_, .imm (dInts (Go.Lib.compact [])), I, β, _, rfl, ⟨rfl, rfl⟩, .imm (.islNil 1), ?_⟩
    have hbl := lt_of_getElem? hb
    have hsub : ∀ b' c', owns (H.set b .dead) β b' c' → owns H β b' c' := by
      rintro b' c' ⟨o, x, h1, h2, h3, h4⟩
      have hne : b' ≠ b := by
        rintro rfl
        rw [List.getElem?_set_self hbl] at h1
        cases h1; exact h2 rfl
      rw [List.getElem?_set_ne (Ne.symm hne)] at h1
      exact ⟨o, x, h1, h2, h3, h4⟩
    refine ⟨⟨by simp [hH.len], fun b' o x h1 h2 => ?_, fun b1 b2 c' h1 h2 => hH.inj b1 b2 c' (hsub b1 c' h1) (hsub b2 c' h2), hH.inI, hH.glob⟩,
      { (Ext.refl : Ext H.length w' I β H w' I β H) with own := fun b' c' g => .inl ⟨b', hsub b' c' g⟩ }⟩
    by_cases hne : b' = b
    · subst hne
      rw [List.getElem?_set_self hbl] at h1
      cases h1; trivial
    · rw [List.getElem?_set_ne (Ne.symm hne)] at h1
      exact hH.obj b' o x h1 h2
  have htake : cur.toList.take l.length = l.map (Value.int .i64) := by
    apply List.ext_getElem
    · simp [a2]; omega
    · intro j h1 h2
      have hj : j < l.length := by simpa using h2
      have hjc : j < cur.size := by rw [a2]; omega
      have := a3 j (by simpa using hj) hjc
      simp only [List.getElem_map] at this
      simp only [List.getElem_take, Array.getElem_toList, List.getElem_map]
      generalize cur[j] = q at this
      cases this with | imm h => cases h; rfl
  refine (Go.Proofs.Tryz.slices_Compact_int c 0 cap l w (holds_of_blockI a1 htake) (by omega) a2').mono ?_
  rintro e w' ⟨rfl, q, rfl⟩
  have hblk := heap_sortedI (w := w) (n := q) (os := #[]) (Go.Lib.compact l ++ List.replicate (l.length - (Go.Lib.compact l).length) 0).toArray a1
  have hgrow := grownBy_sortedI (w := w) (g := c) (n := q) (os := #[]) (Go.Lib.compact l ++ List.replicate (l.length - (Go.Lib.compact l).length) 0).toArray
  rw [Go.Sort.grow_empty] at hblk hgrow
  generalize Go.Sort.putRow (Value.int .i64) (Go.Sort.ahead w q) c 0 (Go.Lib.compact l ++ List.replicate (l.length - (Go.Lib.compact l).length) 0).toArray = w' at hblk hgrow
  have hold : ∀ c', c' < w.heap.size → c' ≠ c → w'.heap[c']? = w.heap[c']? := fun c' h1 h2 => hgrow.block c' h1 (fun e => h2 (by cases e; rfl))
  obtain ⟨k1, k2⟩ := heap_kept hH hb (by simp) hbu rfl hold hgrow.size a4 ⟨hgrow.os, hgrow.output⟩
  refine ⟨_, .imm (dInts (Go.Lib.compact l)), _, β, _, rfl, ⟨rfl, rfl⟩, .imm ?_, k1, k2⟩
  have hr : DRep w' (fun c' o => I c' o ∨ c' = c) (.slice (some ⟨c, 0, none⟩) ((Go.Lib.compact l).map fun n => [dI n]).length cap) (.isl 1 ((Go.Lib.compact l).map fun n => [dI n])) := by
    refine .isl c 0 cap 1 _ (fun i _ => .int .i64 ((Go.Lib.compact l).getD i 0)) (by simp; omega) hmax (fun i h => by simp) (fun i j hi hj => ?_) (fun i j hi hj => ?_)
    · have hi' : i < (Go.Lib.compact l).length := by simpa using hi
      have hj0 : j = 0 := by omega
      subst hj0
      refine ⟨.inr rfl, ?_, rfl⟩
      rw [cell_of_heap hblk]
      have hic : i < cur.size := by rw [a2]; omega
      simp only [Nat.zero_add, Nat.mul_one, Nat.add_zero, Go.Sort.putCells]
      rw [Array.getElem?_mapIdx, Array.getElem?_eq_getElem hic]
      simp only [Option.map_some]
      rw [if_pos ⟨Nat.zero_le _, by simp; omega⟩]
      simp [hi', List.getElem_append_left, List.getElem?_append_left hi']
    · have hi' : i < (Go.Lib.compact l).length := by simpa using hi
      have hj0 : j = 0 := by simp at hj; omega
      subst hj0
      simp [hi']
      exact .val _
  rw [List.length_map] at hr
  exact hr
end Go.Proofs.YtblpjknmhajcgaaGreatDoor

/- The search: assignments in their order (contract of the inner function). -/
namespace Go.Proofs.YtblpjknmhajcgaaGreatDoor
open Go Go.Sh
set_option maxRecDepth 10000
set_option maxHeartbeats 4000000
variable (G : List (Nat × D))

def fnA : SV := .fn (.func 105) [] [.ptr 26 0, .ptr 27 0, .ptr 29 0, .ptr 33 0, .ptr 31 0, .ptr 34 0]
/-- the heap of the inner function -/
def WA (X : Nat → SObj) (s : St) (ch : List (Int × List Int)) (lp : SObj) : List SObj :=
  WH X s ++ [X 24, X 25, .cells [.ptr 2 0], .cells [.ptr 23 0], X 28, .cells [.imm (dInts (ch.map (·.1)))], .cells (ch.map fun e => .imm (dInts e.2)), .cells [.osl 30 0 ch.length], lp, .cells [.yld 32], .cells [fnA]]
theorem WA_under {X : Nat → SObj} (hX : ∀ i, (X i).under 24 = true) (s : St) (ch : List (Int × List Int)) {lp : SObj} (hlp : lp.under 35 = true) : (WA X s ch lp).all (SObj.under 35) = true := by
  unfold WA
  rw [List.all_append, allObj_mono (m := 24) (by omega) (WH_under hX s)]
  simp only [List.all_cons, List.all_nil, hlp, SObj.under_mono (m := 24) (n := 35) (by omega) _ (hX _), Bool.and_true, Bool.true_and, cellsU, allU_map (f := fun e : Int × List Int => SV.imm (dInts e.2)) (fun _ => rfl)]
  rfl
theorem WA_len (X : Nat → SObj) (s : St) (ch : List (Int × List Int)) (lp : SObj) : (WA X s ch lp).length = 35 := rfl
theorem WA_setC (X : Nat → SObj) (s : St) (ch : List (Int × List Int)) (lp : SObj) (i : Nat) (b : Bool) : (WA X s ch lp).set 21 (.cells ((s.ch.set i b).map bvS)) = WA X ⟨s.p, s.ch.set i b, s.vs⟩ ch lp := by simp [WA, WH]
theorem WA_setV (X : Nat → SObj) (s : St) (ch : List (Int × List Int)) (lp : SObj) (i : Nat) (v : Int) : (WA X s ch lp).set 22 (.cells ((s.vs.set i v).map ivS)) = WA X ⟨s.p, s.ch, s.vs.set i v⟩ ch lp := by simp [WA, WH]
theorem split_map {α : Type} (g : α → SV) (l : List α) (i : Nat) (h : i < l.length) : l.map g = (l.take i).map g ++ g (l[i]'h) :: (l.drop (i + 1)).map g := by
  have e : l = l.take i ++ l[i]'h :: l.drop (i + 1) := by rw [← List.drop_eq_getElem_cons h, List.take_append_drop]
  have := congrArg (List.map g) e
  rw [List.map_append, List.map_cons] at this
  exact this
theorem set_map {α : Type} (g : α → SV) (l : List α) (i : Nat) (h : i < l.length) (a : α) : (l.take i).map g ++ g a :: (l.drop (i + 1)).map g = (l.set i a).map g := by
  have h' : i < (l.set i a).length := by simpa using h
  rw [split_map g (l.set i a) i h']
  simp [List.take_set_of_le, List.drop_set_of_lt]

theorem WA_drop (X : Nat → SObj) (s : St) (ch : List (Int × List Int)) (lp : SObj) : WH X s ++ List.drop 24 (WA X s ch lp) = WA X s ch lp := rfl
/-- what a call of the inner function does: the place in the list of facts is told by what is left of it -/
def AsgP (X : Nat → SObj) (q : Sr) (ch : List (Int × List Int)) (lp : SObj) (Q : List Int → List SObj → Prop) (p : Nat) (rest : List (Int × List Int)) (s : St) : Prop :=
  SCall Tryz.prog G 105 [sI p, .ptr 26 0, .ptr 27 0, .ptr 29 0, .ptr 33 0, .ptr 31 0, .ptr 34 0] (WA X s ch lp)
    (fun r H' => 35 ≤ H'.length ∧ (∀ vs, assignGo q.conds rest s = some vs → r = sB false ∧ Q vs H') ∧ (assignGo q.conds rest s = none → r = sB true ∧ H'.take 35 = WA X s ch lp))

theorem assign_end {Y : Nat → SObj} (hY : ∀ i, (Y i).under 24 = true) (c : Codex) (vers : List Int) (q : Sr) (ch : List (Int × List Int)) {f0 : FuncId} {n0 : Nat} {tL : List (Nat × SV)} {ps : Array Tmp} {asg bd : Code} (Q : List Int → List SObj → Prop)
    (hlp : (SObj.loop .ready f0 n0 tL ps asg bd).under 35 = true) (hps : 1 = ps.size) (hch : ch.length ≤ 1073741824) (hcz : q.conds.length ≤ 1073741824) (s : St) (hl : s.ch.length = s.vs.length) (hsz : s.vs.length ≤ 1073741824) (hc : ∀ x ∈ q.conds, x.ok s.vs.length)
    (hy : SYield Tryz.prog G 32 [.imm (dInts s.vs)] (WA (XS Y (srCells c vers q)) s ch (.loop .ready f0 n0 tL ps asg bd)) (fun res H' => res = false ∧ 35 ≤ H'.length ∧ Q s.vs H')) :
    AsgP G (XS Y (srCells c vers q)) q ch (.loop .ready f0 n0 tL ps asg bd) Q ch.length [] s := by
  have hX := XS_under hY c vers q
  unfold AsgP
  refine scall_enter Tryz.func105 rfl (by rw [Tryz.ntmps105]; simp) ?_
  intro E hH hK
  simp only [assignGo] at hK
  (refine sgo_sound [777] 1000 ?_; conv => whnf)
  refine swr_pre 24 rfl rfl rfl rfl rfl rfl (verdict_spec G hY c vers q s hl hc hcz) ?_
  intro r1 H1 hr _
  obtain ⟨rfl, rfl⟩ := hr
  rw [WA_drop]
  generalize hv : verdict q.conds s = vd at hK
  (refine sgor_sound [777] 1000 ?_; conv => whnf)
  repeat' ((with_reducible first | refine bdec (fun h => ?_) (fun h => ?_) | refine bndec (fun h => ?_) (fun h => ?_) | refine bwtd (fun h => ?_) (fun h => ?_) | refine bwfd (fun h => ?_) (fun h => ?_) | refine bwtn (fun h => ?_) (fun h => ?_) | refine bwfn (fun h => ?_) (fun h => ?_) | refine bwtb (fun h => ?_) (fun h => ?_) | refine bwfb (fun h => ?_) (fun h => ?_) | refine bwt (fun h => ?_) (fun h => ?_) | refine bwf (fun h => ?_) (fun h => ?_) | refine bnt (fun h => ?_) (fun h => ?_) | refine bcase (fun h => ?_) (fun h => ?_)) <;> (conv => whnf))
  · rw [if_pos (by assumption)] at hK
    exact hK (sB true) _ ⟨Nat.le_refl _, ⟨fun vs hv => (by cases hv), fun _ => ⟨rfl, rfl⟩⟩⟩
  · rw [if_neg (by assumption)] at hK
    refine sw_orders (L := [[0, 1, 2, 3, 4, 5, 6, 7], [1, 0, 2, 3, 4, 5, 6, 7], [1, 2, 0, 3, 4, 5, 6, 7], [1, 2, 3, 0, 4, 5, 6, 7], [1, 2, 3, 4, 0, 5, 6, 7], [1, 2, 3, 4, 5, 0, 6, 7]]) rfl (by kernel_rfl) ?_
    intro l hlm
    simp only [List.mem_cons, List.not_mem_nil, or_false] at hlm
    rcases hlm with rfl | rfl | rfl | rfl | rfl | rfl
    all_goals
      repeat (refine sw_op rfl rfl rfl rfl (Nat.le_refl _) ?_)
      refine sw_call_at rfl rfl rfl rfl rfl rfl ((cloneOwn_spec G (b := 22) (l := s.vs) rfl hsz).mono ?_)
      rintro r H' ⟨rfl, rfl⟩
      refine ⟨Nat.le_refl _, ?_⟩
      repeat (refine sw_op rfl rfl rfl rfl (Nat.le_refl _) ?_)
      refine sw_yield_at rfl rfl rfl rfl rfl rfl hps rfl (hy.mono ?_)
      rintro _ H' ⟨rfl, hl', hQ⟩
      refine ⟨hl', ?_⟩
      refine sw_op rfl rfl rfl rfl (Nat.le_refl _) ?_
      refine sw_region_end ?_
      (refine sgo_sound [777] 1000 ?_; conv => whnf)
      exact hK (sB false) H' ⟨hl', ⟨fun vs hv => by cases hv; exact ⟨rfl, hQ⟩, fun hv => by cases hv⟩⟩
  · exfalso
    have : ¬ ((ch.length : Int) = (((ch.map (·.1)).map fun n => [dI n]).length : Int)) := by assumption
    simp at this

theorem set_zero {s : St} {f : Nat} (h : s.vs.getD f 0 = 0) : s.vs.set f 0 = s.vs := by
  by_cases hf : f < s.vs.length
  · have : s.vs[f]'hf = 0 := by simpa [hf] using h
    rw [← this]
    exact List.set_getElem_self hf
  · rw [List.set_eq_of_length_le (by omega)]
theorem set_off {s : St} {f : Nat} (h : s.ch.getD f false = false) : s.ch.set f false = s.ch := by
  by_cases hf : f < s.ch.length
  · have : s.ch[f]'hf = false := by simpa [hf] using h
    rw [← this]
    exact List.set_getElem_self hf
  · rw [List.set_eq_of_length_le (by omega)]

theorem assign_step {Y : Nat → SObj} (hY : ∀ i, (Y i).under 24 = true) (c : Codex) (vers : List Int) (q : Sr) (ch : List (Int × List Int)) {f0 : FuncId} {n0 : Nat} {tL : List (Nat × SV)} {ps : Array Tmp} {asg bd : Code} (Q : List Int → List SObj → Prop)
    (hlp : (SObj.loop .ready f0 n0 tL ps asg bd).under 35 = true) (hch : ch.length ≤ 1073741824) (hcz : q.conds.length ≤ 1073741824) (s : St) (hl : s.ch.length = s.vs.length) (hsz : s.vs.length ≤ 1073741824) (hc : ∀ x ∈ q.conds, x.ok s.vs.length)
    (done : List (Int × List Int)) (f : Int) (vals : List Int) (rest : List (Int × List Int)) (hd : ch = done ++ (f, vals) :: rest) (hf : 0 ≤ f ∧ f < s.vs.length) (hoff : s.ch.getD f.toNat false = false) (hz : s.vs.getD f.toNat 0 = 0) (hvz : vals.length ≤ 1073741824)
    (ih : ∀ v, AsgP G (XS Y (srCells c vers q)) q ch (.loop .ready f0 n0 tL ps asg bd) Q (done.length + 1) rest (s.put f v)) :
    AsgP G (XS Y (srCells c vers q)) q ch (.loop .ready f0 n0 tL ps asg bd) Q done.length ((f, vals) :: rest) s := by
  have hX := XS_under hY c vers q
  have hdl : ch.length = done.length + 1 + rest.length := by rw [hd]; simp; omega
  have hrow : ((ch.map (·.1)).map fun n => [dI n])[((done.length : Nat) : Int).toNat]? = some [dI f] := by simp [hd]
  have hle : ((ch.map (·.1)).map fun n => [dI n]).length = ch.length := by simp
  have hvl : (vals.map fun n => [dI n]).length = vals.length := by simp
  have hfc : f.toNat < s.ch.length := by omega
  have hfv : f.toNat < s.vs.length := by omega
  unfold AsgP
  refine scall_enter Tryz.func105 rfl (by rw [Tryz.ntmps105]; simp) ?_
  intro E hH hK
  simp only [assignGo] at hK
  (refine sgo_sound [777] 1000 ?_; conv => whnf)
  refine swr_pre 24 rfl rfl rfl rfl rfl rfl (verdict_spec G hY c vers q s hl hc hcz) ?_
  intro r1 H1 hr _
  obtain ⟨rfl, rfl⟩ := hr
  rw [WA_drop]
  generalize hv : verdict q.conds s = vd at hK
  generalize hXX : XS Y (srCells c vers q) = X at hK hX ih hH ⊢
  (refine sgor_sound [777] 1000 ?_; conv => whnf)
  repeat' ((with_reducible first | refine bdec (fun h => ?_) (fun h => ?_) | refine bndec (fun h => ?_) (fun h => ?_) | refine bwtd (fun h => ?_) (fun h => ?_) | refine bwfd (fun h => ?_) (fun h => ?_) | refine bwtn (fun h => ?_) (fun h => ?_) | refine bwfn (fun h => ?_) (fun h => ?_) | refine bwtb (fun h => ?_) (fun h => ?_) | refine bwfb (fun h => ?_) (fun h => ?_) | refine bwt (fun h => ?_) (fun h => ?_) | refine bwf (fun h => ?_) (fun h => ?_) | refine bnt (fun h => ?_) (fun h => ?_) | refine bcase (fun h => ?_) (fun h => ?_)) <;> (conv => whnf))
  · rw [if_pos (by assumption)] at hK
    exact hK (sB true) _ ⟨Nat.le_refl _, ⟨fun vs hv => (by cases hv), fun _ => ⟨rfl, rfl⟩⟩⟩
  · exfalso
    omega
  rw [if_neg (by assumption)] at hK
  refine swr_index rfl rfl rfl rfl rfl rfl rfl rfl  hrow ?_
  (refine sgor_sound [777] 1000 ?_; conv => whnf)
  refine swr_own (i := f.toNat) rfl rfl rfl rfl rfl rfl rfl (by omega) hfc ?_
  refine swr_storeAt (d := (s.ch.take f.toNat).map bvS) (zz := bvS (s.ch[f.toNat]'hfc)) (r := (s.ch.drop (f.toNat + 1)).map bvS) (v := bvS true) rfl rfl rfl rfl rfl rfl rfl rfl (by show some (SObj.cells (s.ch.map bvS)) = _; rw [← split_map]) (by show 0 + f.toNat * 1 = _; simp; omega) ?_
  refine Eq.mpr (congrArg (fun h => SWr E _ _ _ _ h) (show _ = WA X ⟨s.p, s.ch.set f.toNat true, s.vs⟩ ch _ by rw [set_map _ _ _ hfc]; exact WA_setC ..)) ?_
  (refine sgor_sound [777] 1000 ?_; conv => whnf)
  refine swr_own (i := done.length) rfl rfl rfl rfl rfl rfl rfl rfl (by omega) ?_
  refine swr_loadAt (v := .imm (dInts vals)) rfl rfl rfl rfl rfl (by
    have := load1 (P := Tryz.prog) (ty := 26) (f := fun e : Int × List Int => SV.imm (dInts e.2)) (l := ch) (n := done.length) (d := (0, [])) (by omega) rfl
    rw [show ch.getD done.length (0, []) = (f, vals) by simp [hd]] at this
    exact this) ?_
  (refine sgor_sound [777] 1000 ?_; conv => whnf)
  have e0 : s.put f 0 = ⟨s.p, s.ch.set f.toNat true, s.vs⟩ := by unfold St.put; rw [set_zero hz]
  rw [← e0]
  have hw1 := wrap_succ (n := done.length) (by omega)
  refine sw_keep [0, 1, 2, 3, 4, 5, 6, 9, 40, 41, 42] ?_
  refine sw_each vals (fun i (_ : Int) => [(0, sI done.length), (1, .ptr 26 0), (2, .ptr 27 0), (3, .ptr 29 0), (4, .ptr 33 0), (5, .ptr 31 0), (6, .ptr 34 0), (9, sI f), (40, .imm (dInts vals)), (41, sI (vals.map fun n => [dI n]).length), (42, sI i)])
    (fun _ w => WA X (s.put f w) ch (.loop .ready f0 n0 tL ps asg bd)) (fun dn _ _ => ∀ v ∈ dn, assignGo q.conds rest (s.put f v) = none) 0 (by simp) ?_ ?_
  · intro w hno
    have hfc1 : f.toNat < (s.put f w).ch.length := by simp [St.put]; omega
    have hfv1 : f.toNat < (s.put f w).vs.length := by simp [St.put]; omega
    have hnone : List.findSome? (fun v => assignGo q.conds rest (s.put f v)) vals = none := List.findSome?_eq_none_iff.2 hno
    rw [hnone] at hK
    (refine sgo_sound [777] 1000 ?_; conv => whnf)
    repeat' ((with_reducible first | refine bdec (fun h => ?_) (fun h => ?_) | refine bndec (fun h => ?_) (fun h => ?_) | refine bwtd (fun h => ?_) (fun h => ?_) | refine bwfd (fun h => ?_) (fun h => ?_) | refine bwtn (fun h => ?_) (fun h => ?_) | refine bwfn (fun h => ?_) (fun h => ?_) | refine bwtb (fun h => ?_) (fun h => ?_) | refine bwfb (fun h => ?_) (fun h => ?_) | refine bwt (fun h => ?_) (fun h => ?_) | refine bwf (fun h => ?_) (fun h => ?_) | refine bnt (fun h => ?_) (fun h => ?_) | refine bcase (fun h => ?_) (fun h => ?_)) <;> (conv => whnf))
    all_goals try (exfalso; omega)
    (refine swe_start 0 mixed rfl ?_; refine sgoe_sound [777, 999] (nx := 35) ?_; conv => whnf)
    refine swe_own (i := f.toNat) rfl rfl rfl rfl rfl rfl rfl (by simp [setw_length, WA_len]) (by omega) hfc1 ?_
    (refine sgoe_sound [777, 999] (nx := 35) ?_; conv => whnf)
    refine swe_storeAt (d := ((s.put f w).ch.take f.toNat).map bvS) (zz := bvS ((s.put f w).ch[f.toNat]'hfc1)) (r := ((s.put f w).ch.drop (f.toNat + 1)).map bvS) (v := bvS false) rfl rfl rfl rfl rfl rfl rfl rfl (by simp [setw_length, WA_len]) (by show some (SObj.cells ((s.put f w).ch.map bvS)) = _; rw [← split_map]) (by show 0 + f.toNat * 1 = _; rw [List.length_map, List.length_take]; omega) ?_
    (refine sgoe_sound [777, 999] (nx := 35) ?_; conv => whnf)
    refine swe_own (i := f.toNat) rfl rfl rfl rfl rfl rfl rfl (by simp [setw_length, WA_len]) (by omega) hfv1 ?_
    refine swe_storeAt (d := ((s.put f w).vs.take f.toNat).map ivS) (zz := ivS ((s.put f w).vs[f.toNat]'hfv1)) (r := ((s.put f w).vs.drop (f.toNat + 1)).map ivS) (v := ivS 0) rfl rfl rfl rfl rfl rfl rfl rfl (by simp [setw_length, WA_len]) (by show some (SObj.cells ((s.put f w).vs.map ivS)) = _; rw [← split_map]) (by show 0 + f.toNat * 1 = _; rw [List.length_map, List.length_take]; omega) ?_
    (refine sgoe_sound [777] (nx := 35) ?_; conv => whnf)
    have e : ((WA X (s.put f w) ch (.loop .ready f0 n0 tL ps asg bd)).set 21 (.cells (((s.put f w).ch.take f.toNat).map bvS ++ bvS false :: ((s.put f w).ch.drop (f.toNat + 1)).map bvS))).set 22 (.cells (((s.put f w).vs.take f.toNat).map ivS ++ ivS 0 :: ((s.put f w).vs.drop (f.toNat + 1)).map ivS)) = WA X s ch (.loop .ready f0 n0 tL ps asg bd) := by
      rw [set_map _ _ _ hfc1, set_map _ _ _ hfv1, WA_setC]
      have := WA_setV X ⟨(s.put f w).p, (s.put f w).ch.set f.toNat false, (s.put f w).vs⟩ ch (.loop .ready f0 n0 tL ps asg bd) f.toNat 0
      rw [this]
      unfold St.put
      simp only [List.set_set]
      rw [set_off hoff, set_zero hz]
    refine Eq.mpr (congrArg (fun h => SW E _ _ h) e) ?_
    (refine sgo_sound [777] 1000 ?_; conv => whnf)
    exact hK (sB true) _ ⟨Nat.le_refl _, ⟨fun vs hv => (by cases hv), fun _ => ⟨rfl, rfl⟩⟩⟩
  · intro dn v rs w ha hlen hno ihl
    have hw2 := wrap_succ (n := dn.length) (by omega)
    have hfv1 : f.toNat < (s.put f w).vs.length := by simp [St.put]; omega
    have hvrow : (vals.map fun n => [dI n])[((dn.length : Nat) : Int).toNat]? = some [dI v] := by simp [ha]
    (refine sgo_sound [777] 1000 ?_; conv => whnf)
    repeat' ((with_reducible first | refine bdec (fun h => ?_) (fun h => ?_) | refine bndec (fun h => ?_) (fun h => ?_) | refine bwtd (fun h => ?_) (fun h => ?_) | refine bwfd (fun h => ?_) (fun h => ?_) | refine bwtn (fun h => ?_) (fun h => ?_) | refine bwfn (fun h => ?_) (fun h => ?_) | refine bwtb (fun h => ?_) (fun h => ?_) | refine bwfb (fun h => ?_) (fun h => ?_) | refine bwt (fun h => ?_) (fun h => ?_) | refine bwf (fun h => ?_) (fun h => ?_) | refine bnt (fun h => ?_) (fun h => ?_) | refine bcase (fun h => ?_) (fun h => ?_)) <;> (conv => whnf))
    all_goals try (exfalso; omega)
    refine swr_index rfl rfl rfl rfl rfl rfl rfl rfl  hvrow ?_
    (refine sgor_sound [777] 1000 ?_; conv => whnf)
    refine swr_own (i := f.toNat) rfl rfl rfl rfl rfl rfl rfl (by omega) hfv1 ?_
    refine swr_storeAt (d := ((s.put f w).vs.take f.toNat).map ivS) (zz := ivS ((s.put f w).vs[f.toNat]'hfv1)) (r := ((s.put f w).vs.drop (f.toNat + 1)).map ivS) (v := ivS v) rfl rfl rfl rfl rfl rfl rfl rfl (by show some (SObj.cells ((s.put f w).vs.map ivS)) = _; rw [← split_map]) (by show 0 + f.toNat * 1 = _; rw [List.length_map, List.length_take]; omega) ?_
    have e : (WA X (s.put f w) ch (.loop .ready f0 n0 tL ps asg bd)).set 22 (.cells (((s.put f w).vs.take f.toNat).map ivS ++ ivS v :: ((s.put f w).vs.drop (f.toNat + 1)).map ivS)) = WA X (s.put f v) ch (.loop .ready f0 n0 tL ps asg bd) := by
      rw [set_map _ _ _ hfv1, WA_setV]
      unfold St.put
      simp only [List.set_set]
    refine Eq.mpr (congrArg (fun h => SWr E _ _ _ _ h) e) ?_
    (refine sgor_sound [777] 1000 ?_; conv => whnf)
    rw [hw1]
    refine swr_call rfl rfl rfl rfl rfl rfl ((ih v).mono ?_)
    rintro r H' ⟨hl', hsome, hnone⟩
    refine ⟨hl', ?_⟩
    cases hres : assignGo q.conds rest (s.put f v) with
    | none =>
      obtain ⟨rfl, ht⟩ := hnone hres
      (refine sgor_sound [777] 1000 ?_; conv => whnf)
      rw [hw2]
      refine sw_kc [0, 1, 2, 3, 4, 5, 6, 9, 40, 41, 42] 35 (by rw [hH]; exact Nat.le_refl _) hl' rfl (by rw [ht]; exact WA_under hX _ _ hlp) ?_
      rw [ht]
      exact ihl v (fun x hx => by
        rcases List.mem_append.1 hx with h | h
        · exact hno x h
        · simp only [List.mem_singleton] at h
          subst h
          exact hres)
    | some vs0 =>
      obtain ⟨rfl, hQ⟩ := hsome _ hres
      have hfs : List.findSome? (fun v => assignGo q.conds rest (s.put f v)) vals = some vs0 := by
        rw [ha, List.findSome?_append, List.findSome?_eq_none_iff.2 hno]
        simp [hres]
      rw [hfs] at hK
      (refine sgor_sound [777] 1000 ?_; conv => whnf)
      exact hK (sB false) H' ⟨hl', ⟨fun vs hv => by cases hv; exact ⟨rfl, hQ⟩, fun hv => by cases hv⟩⟩

theorem assign_rec {Y : Nat → SObj} (hY : ∀ i, (Y i).under 24 = true) (c : Codex) (vers : List Int) (q : Sr) (ch : List (Int × List Int)) {f0 : FuncId} {n0 : Nat} {tL : List (Nat × SV)} {ps : Array Tmp} {asg bd : Code} (Q : List Int → List SObj → Prop)
    (hlp : (SObj.loop .ready f0 n0 tL ps asg bd).under 35 = true) (hps : 1 = ps.size) (hch : ch.length ≤ 1073741824) (hcz : q.conds.length ≤ 1073741824) (nf : Nat) (hsz : nf ≤ 1073741824) (hc : ∀ x ∈ q.conds, x.ok nf) (hvz : ∀ e ∈ ch, e.2.length ≤ 1073741824)
    (hy : ∀ s : St, s.ch.length = nf → s.vs.length = nf → SYield Tryz.prog G 32 [.imm (dInts s.vs)] (WA (XS Y (srCells c vers q)) s ch (.loop .ready f0 n0 tL ps asg bd)) (fun res H' => res = false ∧ 35 ≤ H'.length ∧ Q s.vs H')) :
    ∀ (rest done : List (Int × List Int)) (s : St), ch = done ++ rest → s.vs.length = nf → RestOK q.conds rest s → (∀ e ∈ rest, s.vs.getD e.1.toNat 0 = 0) → AsgP G (XS Y (srCells c vers q)) q ch (.loop .ready f0 n0 tL ps asg bd) Q done.length rest s
  | [], done, s, hd, hn, hR, _ => by
    rw [List.append_nil] at hd
    subst hd
    exact assign_end G hY c vers q ch Q hlp hps hch hcz s hR.len (by omega) (by rw [hn]; exact hc) (hy s (by rw [hR.len, hn]) hn)
  | (f, vals) :: rest, done, s, hd, hn, hR, hz => by
    have hr := hR.rng (f, vals) (by simp)
    refine assign_step G hY c vers q ch Q hlp hch hcz s hR.len (by omega) (by rw [hn]; exact hc) done f vals rest hd hr (hR.off (f, vals) (by simp)) (hz (f, vals) (by simp)) (hvz (f, vals) (by rw [hd]; simp)) (fun v => ?_)
    have := assign_rec hY c vers q ch Q hlp hps hch hcz nf hsz hc hvz hy rest (done ++ [(f, vals)]) (s.put f v) (by rw [hd]; simp) (by simp [St.put, hn]) (hR.put v) (fun e he => by
      have hnd := hR.nd
      simp only [List.map_cons, List.nodup_cons] at hnd
      have hre := hR.rng e (by simp [he])
      have hne : f ≠ e.1 := fun eq => hnd.1 (List.mem_map.2 ⟨e, he, eq.symm⟩)
      simp only at hr
      unfold St.put
      simp only
      rw [getD_set, if_neg (by omega)]
      exact hz e (by simp [he]))
    rw [List.length_append] at this
    exact this
end Go.Proofs.YtblpjknmhajcgaaGreatDoor
