/- Contracts of functions of the program, joined from Sh27, Sh28, Sh29, Sh30, Sh31, Dat, Fa, Fb, Fc, Fd, Fe, Ff, Fg, Fh, Fi: no condition. -/
import Derived.Test.YthmkdghoaifkbaaGreatDoorJ2
import Derived.ChangeArms
import Derived.ReadAgain
import Derived.RowKit2
import Derived.Test.YthmkdghoaifkbaaGreatDoorProg
set_option linter.unusedSimpArgs false
set_option linter.unusedVariables false
/- The shadow machine, part 27: slices that are appended to and written: nobody else sees them till they are shut. -/
namespace Go.Sh
section
variable {P : Program} {G : List (Nat × D)} {w : World} {I : Imm} {β : List Bnd} {H : List SObj}

theorem HeapOK.moveVec {m n n' b : Nat} {o0 o1 : SObj} {u u' : Value} {w' : World} {I' : Imm} (h : HeapOK G w I β H) (hb : H[b]? = some o0) (hod : o0 ≠ .dead) (hx : β[b]? = some (.tok u))
    (hu : ∃ a cap a' cap', u = .slice a n cap ∧ u' = .slice a' n' cap') (hnn : n < n') (hsz : w.heap.size ≤ w'.heap.size)
    (hold : ∀ c, c < w.heap.size → (Bnd.tok u).block ≠ some c → w'.heap[c]? = w.heap[c]?)
    (hcell : ∀ c o, I c o → w'.cell? ⟨c, o, none⟩ = w.cell? ⟨c, o, none⟩)
    (hI : ∀ c o, I c o → I' c o) (hI' : ∀ c o, I' c o → I c o ∨ (Bnd.tok u').block = some c) (hlt : ∀ c o, I' c o → c < w'.heap.size)
    (hblk : ∀ c, (Bnd.tok u').block = some c → (Bnd.tok u).block = some c ∨ w.heap.size ≤ c)
    (ho : ObjOK w' I' (β.set b (.tok u')) o1 (.tok u')) (hen : SameEnv w w' := by exact ⟨rfl, rfl⟩) :
    HeapOK G w' I' (β.set b (.tok u')) (H.set b o1) ∧ Ext m w I β H w' I' (β.set b (.tok u')) (H.set b o1) := by
  have hblt := lt_of_getElem? hb
  have hxlt := lt_of_getElem? hx
  have hkeep : ∀ m, Keeps m β (β.set b (.tok u')) := by
    intro m b' x _ hb'
    by_cases e : b' = b
    · subst e
      rw [hx] at hb'; cases hb'
      obtain ⟨a, cap, a', cap', rfl, rfl⟩ := hu
      exact ⟨_, List.getElem?_set_self hxlt, _, rfl, .inr ⟨_, _, _, _, _, _, rfl, rfl, hnn⟩⟩
    · exact ⟨x, by rw [List.getElem?_set_ne (Ne.symm e)]; exact hb', x.le_refl⟩
  have key : ∀ b' c', owns (H.set b o1) (β.set b (.tok u')) b' c' → (b' ≠ b ∧ owns H β b' c') ∨ (b' = b ∧ (Bnd.tok u').block = some c') := by
    rintro b' c' ⟨p, x, h1, h2, h3, h4⟩
    by_cases e : b' = b
    · subst e
      rw [List.getElem?_set_self hxlt] at h3; cases h3
      exact .inr ⟨rfl, h4⟩
    · rw [List.getElem?_set_ne (Ne.symm e)] at h1 h3; exact .inl ⟨e, p, x, h1, h2, h3, h4⟩
  have hownb : ∀ c, (Bnd.tok u).block = some c → owns H β b c := fun c hc => ⟨_, _, hb, hod, hx, hc⟩
  have notblk : ∀ b' c, b' ≠ b → owns H β b' c → (Bnd.tok u).block ≠ some c := fun b' c hne ho hc => hne (h.inj b' b c ho (hownb c hc))
  refine ⟨{ len := by simp [h.len], obj := ?_, inj := ?_, inI := hlt, glob := fun g d hg => (h.glob g d hg).mono hI hcell },
    { imm := hI, cell := hcell, keep := hkeep m, old := fun c hc hn => hold c hc (fun e => hn b (hownb c e)), own := ?_, new := ?_, size := hsz, env := hen }⟩
  · intro b' p x h1 h2
    by_cases e : b' = b
    · subst e
      rw [List.getElem?_set_self hxlt] at h2; cases h2
      rw [List.getElem?_set_self hblt] at h1; cases h1
      exact ho
    · rw [List.getElem?_set_ne (Ne.symm e)] at h1 h2
      by_cases hpd : p = .dead
      · subst hpd; trivial
      · have hob := h.obj b' p x h1 h2
        refine hob.mono (fun c hc => hold c (hob.block_lt hpd hc) (notblk b' c e ⟨p, x, h1, hpd, h2, hc⟩)) hI hcell (hkeep _) ?_
        intro c o hc hi
        rcases hI' c o hi with h3 | h3
        · exact h3
        · rcases hblk c h3 with h4 | h4
          · exact absurd h4 (notblk b' c e ⟨p, x, h1, hpd, h2, hc⟩)
          · have := hob.block_lt hpd hc; omega
  · intro a b' c h1 h2
    rcases key a c h1 with ⟨n1, k1⟩ | ⟨e1, k1⟩ <;> rcases key b' c h2 with ⟨n2, k2⟩ | ⟨e2, k2⟩
    · exact h.inj a b' c k1 k2
    · rcases hblk c k2 with h3 | h3
      · exact absurd h3 (notblk a c n1 k1)
      · have := h.owns_lt k1; omega
    · rcases hblk c k1 with h3 | h3
      · exact absurd h3 (notblk b' c n2 k2)
      · have := h.owns_lt k2; omega
    · rw [e1, e2]
  · intro b' c h1
    rcases key b' c h1 with ⟨_, h1⟩ | ⟨_, h1⟩
    · exact .inl ⟨b', h1⟩
    · rcases hblk c h1 with h3 | h3
      · exact .inl ⟨b, hownb c h3⟩
      · exact .inr h3
  · intro c o hi
    rcases hI' c o hi with h3 | h3
    · exact .inl h3
    · rcases hblk c h3 with h4 | h4
      · exact .inr (.inl ⟨b, hownb c h4⟩)
      · exact .inr (.inr h4)


/-- A block that is owned gets other contents; bindings stay. -/
theorem HeapOK.changeB {w' : World} {m : Nat} (h : HeapOK G w I β H) {b c : Nat} {o o' : SObj} {x : Bnd} (hb : H[b]? = some o) (hd : o ≠ .dead) (hx : β[b]? = some x) (hxc : x.block = some c)
    (hold : ∀ c', c' ≠ c → w'.heap[c']? = w.heap[c']?) (hsz : w'.heap.size = w.heap.size) (hnI : ∀ o, ¬ I c o)
    (ho : ObjOK w' I β o' x) (hen : SameEnv w w' := by exact ⟨rfl, rfl⟩) : HeapOK G w' I β (H.set b o') ∧ Ext m w I β H w' I β (H.set b o') := by
  have hblt := lt_of_getElem? hb
  have hown : owns H β b c := ⟨o, _, hb, hd, hx, hxc⟩
  have hcell : ∀ c' o, I c' o → w'.cell? ⟨c', o, none⟩ = w.cell? ⟨c', o, none⟩ := fun c' o hc => by
    have hne : c' ≠ c := fun e => hnI o (e ▸ hc)
    exact cell_congr (hold c' hne) o
  have key : ∀ b' c', owns (H.set b o') β b' c' → owns H β b' c' := by
    rintro b' c' ⟨p, x', h1, h2, h3, h4⟩
    by_cases e : b' = b
    · subst e
      rw [hx] at h3; cases h3
      rw [hxc] at h4; cases h4; exact hown
    · rw [List.getElem?_set_ne (Ne.symm e)] at h1; exact ⟨p, x', h1, h2, h3, h4⟩
  refine ⟨?_, ?_⟩
  · refine { len := by simp [h.len], obj := ?_, inj := fun a b' c' h1 h2 => h.inj a b' c' (key a c' h1) (key b' c' h2), inI := fun c o hc => hsz ▸ h.inI c o hc, glob := fun g d hg => (h.glob g d hg).mono (fun _ _ h => h) hcell }
    intro b' p x' h1 h2
    by_cases e : b' = b
    · subst e
      rw [hx] at h2; cases h2
      rw [List.getElem?_set_self hblt] at h1; cases h1
      exact ho
    · rw [List.getElem?_set_ne (Ne.symm e)] at h1
      by_cases hpd : p = .dead
      · subst hpd; trivial
      · refine (h.obj b' p x' h1 h2).mono (fun c' hc' => hold c' ?_) (fun _ _ h => h) hcell (.refl _ _) (fun _ _ _ h => h)
        rintro rfl
        exact e (h.inj b' b _ ⟨p, x', h1, hpd, h2, hc'⟩ hown)
  · refine { imm := fun _ _ h => h, cell := hcell, keep := .refl _ _, old := fun c' hc' hn => hold c' (fun e => hn b (e ▸ hown)), own := fun b' c' h => .inl ⟨b', key b' c' h⟩, new := fun _ _ h => .inl h, size := by omega, env := hen }
end

section
variable {P : Program} {G : List (Nat × D)} {fn : Func} {rd : Bool} {E : En P G fn rd} {t : List (Nat × SV)} {H : List SObj} {k : List Item}
variable {all : Array Oper} {o : Oper} {rest : List Oper}

/-- an operation, by what it does -/
theorem swr_exec {r : SV} {H' : List SObj} (hw : swant all t o.guard = some true) (hd : dstOK fn.ntmps o.dst = true) (hnd : ∀ c, o.op ≠ .defer c) (hl : H.length ≤ H'.length)
    (hrun : ∀ (ρ : Operand → Value) w I β, HeapOK G w I β H → (∀ x, Rep w I β (ρ x) (evalS G t x)) → OpRun P G (execOp ρ o) w I β H r H')
    (h : SWr E all rest k (tput t o.dst r) H') : SWr E all (o :: rest) k t H := by
  refine ⟨fun j hj hdrop => ?_⟩
  obtain ⟨h1, ho, h3⟩ := drop_cons_parts hdrop
  rw [range_drop h1]
  refine ⟨fun a w I β cs hsim => ?_⟩
  have hwant := swant_sound hw hsim
  obtain ⟨n, v, w', I', β', g1, g2, g3, g4, g5⟩ := hrun a.eval w I β hsim.heap hsim.eval
  have hg := rstepG_op (P := P) (b := E.base) (ro := E.ro) (k := k) (cs := cs) (w := w) (rest := (List.range all.size).drop (j + 1)) ho hwant (.inr hnd)
  have hfin : ∀ v, (E.at a (.inRegion all (j :: (List.range all.size).drop (j + 1)) :: k)).finish v = E.at (a.put o.dst v) (.inRegion all ((List.range all.size).drop (j + 1)) :: k) := by
    intro v; unfold En.at; rw [rfinish_at, ho]; rfl
  have hstep : step P (lone (E.at a (.inRegion all (j :: (List.range all.size).drop (j + 1)) :: k)) cs w) = .next (lone (E.at (a.put o.dst v) (.inRegion all ((List.range all.size).drop (j + 1)) :: k)) cs w') := by
    refine step_lone_go ?_
    rw [← hfin]
    unfold En.at
    rw [hg]
    rcases g2 with rfl | ⟨rfl, rfl⟩ <;> simp [stepG.apply, g1]
  exact .of_steps (.one hstep) ((h.run (j + 1) h1 h3).run _ w' I' β' cs (hsim.put hd g3 g4 g5 hl))

/-- A nil slice in a box that is going to be appended to and written. -/
theorem sw_vecCell (b0 j kk : Nat) {cs : List SV} (hb : H[b0]? = some (.cells cs)) (hj : cs[j]? = some (.imm (.val (.slice none 0 0)))) (h : SW E k t (H.set b0 (.cells (cs.set j (.vec H.length 0))) ++ [.vec kk []])) : SW E k t H := by
  refine ⟨fun a w I β cs' hs => ?_⟩
  have hbl := lt_of_getElem? hb
  have hp := hs.heap.push (o := .vec kk []) (x := .tok (.slice none 0 0)) (.inl ⟨rfl, rfl⟩) (fun b c hc => by cases hc)
  have he : Ext H.length w I β H w I (β ++ [.tok (.slice none 0 0)]) (H ++ [.vec kk []]) := .push hs.heap (fun c hc => by cases hc)
  obtain ⟨x, hx⟩ : ∃ x, β[b0]? = some x := ⟨β[b0]'(by rw [hs.heap.len]; exact hbl), List.getElem?_eq_getElem _⟩
  have hob := hp.obj b0 (.cells cs) x (by rw [List.getElem?_append_left hbl]; exact hb) (by rw [List.getElem?_append_left (lt_of_getElem? hx)]; exact hx)
  cases x with
  | tok u => exact hob.elim
  | blk c =>
  obtain ⟨vs, T, a1, a2, a3, a4⟩ := hob
  have hnew : ObjOK w I (β ++ [.tok (.slice none 0 0)]) (.cells (cs.set j (.vec H.length 0))) (.blk c) := by
    refine ⟨vs, T, a1, by simpa using a2, fun q hq hq' => ?_, a4⟩
    by_cases e : j = q
    · subst e
      have hq2 : j < cs.length := by simpa using hq
      have hr := a3 j hq2 hq'
      have : cs[j] = .imm (.val (.slice none 0 0)) := by simpa [List.getElem?_eq_getElem hq2] using hj
      rw [this] at hr
      simp only [List.getElem_set_self]
      generalize vs[j] = v at hr
      cases hr with | imm hr =>
      cases hr with | val _ =>
      exact .vec H.length 0 _ _ 0 (by rw [← hs.heap.len]; simp) ⟨_, _, rfl⟩ (Nat.le_refl _) ⟨_, _, _, rfl⟩ (fun _ => rfl)
    · rw [List.getElem_set_ne e]
      exact a3 q (by simpa using hq) hq'
  obtain ⟨g1, g2⟩ := hp.changeB (m := H.length) (w' := w) (b := b0) (o := .cells cs) (o' := .cells (cs.set j (.vec H.length 0))) (x := .blk c) (by rw [List.getElem?_append_left hbl]; exact hb) (by simp) (by rw [List.getElem?_append_left (lt_of_getElem? hx)]; exact hx) rfl (fun _ _ => rfl) rfl a4 hnew
  rw [List.set_append_left _ _ hbl] at g1 g2
  have hE := he.trans g2
  exact h.run a w I _ cs' ⟨g1, fun n => (hs.tmps n).ext (by rw [hs.heap.len]; exact hE), hs.size, hs.defers.ext hE, hs.ext.trans (hE.weaken hs.hlen), by have := hs.hlen; simp; omega⟩

/-- what a live own slice is -/
theorem vec_now {w : World} {I : Imm} {β : List Bnd} {v : Value} {b n kk : Nat} {cs : List SV} (hH : HeapOK G w I β H) (hb : H[b]? = some (.vec kk cs)) (hr : Rep w I β v (.vec b n)) (hlen : cs.length = n * kk) (hk : 1 ≤ kk) :
    β[b]? = some (.tok v) ∧ ((n = 0 ∧ v = .slice none 0 0 ∧ cs = []) ∨ ∃ c cap vs T, v = .slice (some ⟨c, 0, none⟩) n cap ∧ w.heap[c]? = some (.cells vs T (0, 0)) ∧ vs.size = cap * kk ∧ n ≤ cap ∧ cap ≤ maxLen ∧ (∀ j (h : j < cs.length) (h' : j < vs.size), Rep w I β (vs[j]'h') (cs[j]'h)) ∧ ∀ o, ¬ I c o) := by
  cases hr with
  | vec _ _ _ u m hbu hus hle hv heq =>
  obtain ⟨a, cap, rfl⟩ := hus
  rcases hH.obj b _ _ hb hbu with ⟨rfl, e⟩ | ⟨c, n', cap', vs, T, e, a1, a2, a3, a4, a5, a6, a7⟩
  · cases e
    have hn : n = 0 := by omega
    subst hn
    rw [heq rfl]
    exact ⟨hbu, .inl ⟨rfl, rfl, rfl⟩⟩
  · cases e
    have hn : n = m := by
      rw [hlen] at a5
      exact Nat.eq_of_mul_eq_mul_right hk a5
    subst hn
    rw [heq rfl]
    exact ⟨hbu, .inr ⟨c, cap, vs, T, rfl, a1, a2, a3, a4, a6, a7⟩⟩

/-- len(s) -/
theorem swr_vlen {b n kk : Nat} {cs : List SV} {x : Operand} {ty e : Nat} (hop : o.op = .call ⟨.builtin .len, #[x], #[ty]⟩) (hw : swant all t o.guard = some true) (hd : dstOK fn.ntmps o.dst = true) (hx : evalS G t x = .vec b n) (hu : P.underlying ty = some (.slice e))
    (hb : H[b]? = some (.vec kk cs)) (hlen : cs.length = n * kk) (hk : 1 ≤ kk) (h : SWr E all rest k (tput t o.dst (.imm (.val (.int .i64 n)))) H) : SWr E all (o :: rest) k t H := by
  refine swr_exec hw hd (fun c e => by rw [hop] at e; cases e) (Nat.le_refl _) (fun ρ w I β hH hev => ?_) h
  have hr := hev x
  rw [hx] at hr
  have hv : ∃ a cap, ρ x = .slice a n cap := by
    rcases (vec_now hH hb hr hlen hk).2 with ⟨rfl, e, _⟩ | ⟨c, cap, vs, T, e, _⟩
    · exact ⟨_, _, e⟩
    · exact ⟨_, _, e⟩
  obtain ⟨a, cap, hv⟩ := hv
  obtain ⟨dst, op, type, pos, after, guard⟩ := o
  simp only at hop
  subst hop
  refine OpRun.same (v := .int .i64 n) ?_ (.imm (.val _)) hH
  simp [builtin, hv, Builtin.len_, Builtin.lenOf, run_underlying hu, goInt]

/-- s[i] -/
theorem swr_vidx {b n kk i : Nat} {cs : List SV} {x ix : Operand} {ty e : Nat} {q : IntKind} {mm : Int} (hop : o.op = .indexAddr ty x ix) (hw : swant all t o.guard = some true) (hd : dstOK fn.ntmps o.dst = true) (hx : evalS G t x = .vec b n) (hi : evalS G t ix = .imm (.val (.int q mm)))
    (hu : P.underlying ty = some (.slice e)) (hn : psize P e = some kk) (hb : H[b]? = some (.vec kk cs)) (hlen : cs.length = n * kk) (hk : 1 ≤ kk) (hmm : mm = (i : Int)) (hin : i < n) (h : SWr E all rest k (tput t o.dst (.vptr b n (i * kk))) H) : SWr E all (o :: rest) k t H := by
  refine swr_exec hw hd (fun c e => by rw [hop] at e; cases e) (Nat.le_refl _) (fun ρ w I β hH hev => ?_) h
  have hr := hev x
  rw [hx] at hr
  have hri := hev ix
  rw [hi] at hri
  obtain ⟨hbv, hnow⟩ := vec_now hH hb hr hlen hk
  rcases hnow with ⟨rfl, _⟩ | ⟨c, cap, vs, T, hv, a1, a2, a3, a4, a5, a6⟩
  · omega
  have hiv : ρ ix = .int q mm := by
    generalize ρ ix = v at hri
    cases hri with | imm hri => cases hri; rfl
  obtain ⟨dst, op, type, pos, after, guard⟩ := o
  simp only at hop
  subst hop
  rw [hv] at hbv
  refine OpRun.same (v := .pointer (some ⟨c, i * kk, none⟩)) ?_ (.vptr b n (i * kk) _ _ n cap hbv (Nat.le_refl _) ⟨_, rfl⟩ (fun _ => ⟨c, rfl, rfl⟩)) hH
  subst hmm
  simp [Instr.indexAt, asIntOf, hv, hiv, run_underlying hu, run_psize hn, hin, addr_add]

/-- s[i].f -/
theorem swr_vfield {b n off f : Nat} {x : Operand} {sT : Nat} {fs : Array Field} {fd : Field} {kk : Nat} {cs : List SV} (hop : o.op = .fieldAddr sT x f) (hw : swant all t o.guard = some true) (hd : dstOK fn.ntmps o.dst = true) (hx : evalS G t x = .vptr b n off)
    (hu : P.underlying sT = some (.struct fs)) (hf : fs[f]? = some fd) {sz : Nat} (hsz : psize P fd.type = some (sz + 1)) (hb : H[b]? = some (.vec kk cs)) (hlen : cs.length = n * kk) (hk : 1 ≤ kk) (hn : 1 ≤ n) (h : SWr E all rest k (tput t o.dst (.vptr b n (off + fd.offset))) H) : SWr E all (o :: rest) k t H := by
  refine swr_exec hw hd (fun c e => by rw [hop] at e; cases e) (Nat.le_refl _) (fun ρ w I β hH hev => ?_) h
  have hr := hev x
  rw [hx] at hr
  generalize hpv : ρ x = pv at hr
  cases hr with
  | vptr _ _ _ _ a m cap hbu hle hv heq =>
  rcases hH.obj b _ _ hb hbu with ⟨rfl, e⟩ | ⟨c, n', cap', vs, T, e, a1, a2, a3, a4, a5, a6, a7⟩
  · exfalso
    rw [List.length_nil] at hlen
    have := Nat.mul_le_mul hn hk
    omega
  · cases e
    have hn' : n = m := by
      rw [hlen] at a5
      exact Nat.eq_of_mul_eq_mul_right hk a5
    subst hn'
    obtain ⟨c', e, rfl⟩ := heq rfl
    cases e
    obtain ⟨dst, op, type, pos, after, guard⟩ := o
    simp only at hop
    subst hop
    refine OpRun.same (v := .pointer (some ⟨c, off + fd.offset, none⟩)) ?_ (.vptr b n (off + fd.offset) _ _ n cap hbu (Nat.le_refl _) ⟨_, rfl⟩ (fun _ => ⟨c, rfl, rfl⟩)) hH
    rw [hpv]
    exact run_fieldAt (b := c) (o := off) hu hf hsz

/-- s[i].f = v -/
theorem swr_vstore {b n off : Nat} {ax vx : Operand} {ty : Nat} {v : SV} {kk : Nat} {cs : List SV} (hop : o.op = .store ty ax vx) (hw : swant all t o.guard = some true) (hd : dstOK fn.ntmps o.dst = true) (ha : evalS G t ax = .vptr b n off) (hv : evalS G t vx = v)
    (hone : v.cells = some [v]) (hone' : v.one = true) (hsz : psize P ty = some 1) (hb : H[b]? = some (.vec kk cs)) (hlen : cs.length = n * kk) (hk : 1 ≤ kk) (hoff : off < cs.length) (h : SWr E all rest k (tput t o.dst .any) (H.set b (.vec kk (cs.set off v)))) : SWr E all (o :: rest) k t H := by
  refine swr_exec hw hd (fun c e => by rw [hop] at e; cases e) (by simp) (fun ρ w I β hH hev => ?_) h
  have hr := hev ax
  rw [ha] at hr
  have hrv := hev vx
  rw [hv] at hrv
  generalize hpv : ρ ax = pv at hr
  cases hr with
  | vptr _ _ _ _ a m cap hbu hle hv' heq =>
  rcases hH.obj b _ _ hb hbu with ⟨rfl, e⟩ | ⟨c, n', cap', vs, T, e, a1, a2, a3, a4, a5, a6, a7⟩
  · simp at hoff
  · cases e
    have hn' : n = m := by
      rw [hlen] at a5
      exact Nat.eq_of_mul_eq_mul_right hk a5
    subst hn'
    obtain ⟨c', e, rfl⟩ := heq rfl
    cases e
    have hlt : off < vs.size := by
      rw [a2]; rw [a5] at hoff
      exact Nat.lt_of_lt_of_le hoff (Nat.mul_le_mul_right kk a3)
    have hvo := hrv.oneCell hone'
    have hvc : (ρ vx).cells.toList = [ρ vx] := by rw [cells_one hvo]
    have hst := run_storeCells_at (P := P) c off T [ρ vx] 0 vs w a1 (by simp; omega) (by simp [hvo])
    simp only [Nat.add_zero, List.length_singleton] at hst
    have hbw : (vs.toList.take off ++ [ρ vx] ++ vs.toList.drop (off + 1)).toArray.size = vs.size := by simp; omega
    have hnew' : (w.setRow c (vs.toList.take off ++ [ρ vx] ++ vs.toList.drop (off + 1)).toArray).heap[c]? = some (.cells (vs.toList.take off ++ [ρ vx] ++ vs.toList.drop (off + 1)).toArray T (0, 0)) := setRow_heap w c vs _ T _ a1
    have hother : ∀ c', c' ≠ c → (w.setRow c (vs.toList.take off ++ [ρ vx] ++ vs.toList.drop (off + 1)).toArray).heap[c']? = w.heap[c']? := by
      intro c' hne
      simp [World.setRow, Array.getElem?_modify, Ne.symm hne]
    have hIc : ∀ b o, I b o → (w.setRow c (vs.toList.take off ++ [ρ vx] ++ vs.toList.drop (off + 1)).toArray).cell? ⟨b, o, none⟩ = w.cell? ⟨b, o, none⟩ := fun b' o' hi => cell_congr (hother b' (fun e => a7 o' (e ▸ hi))) o'
    obtain ⟨g1, g2⟩ := hH.changeB (m := H.length) (w' := w.setRow c (vs.toList.take off ++ [ρ vx] ++ vs.toList.drop (off + 1)).toArray) (o' := .vec kk (cs.set off v)) hb (by simp) hbu rfl hother (by simp [World.setRow]) a7
      (.inr ⟨c, n, cap, _, T, rfl, hnew', by rw [hbw]; exact a2, a3, a4, by simpa using a5, fun j hj hj' => by
        have hj1 : j < cs.length := by simpa using hj
        have hj2 : j < vs.size := by rw [← hbw]; exact hj'
        have key : (vs.toList.take off ++ [ρ vx] ++ vs.toList.drop (off + 1)).toArray[j]'hj' = if j = off then ρ vx else vs[j] := by
          have h1 : (vs.toList.take off ++ [ρ vx] ++ vs.toList.drop (off + 1))[j]? = some (if j = off then ρ vx else vs[j]) := by
            rcases Nat.lt_trichotomy j off with hlt' | rfl | hgt
            · rw [List.append_assoc, List.getElem?_append_left (by simp; omega), List.getElem?_take_of_lt hlt', if_neg (by omega)]; simp [hj2]
            · rw [List.append_assoc, List.getElem?_append_right (by simp; omega)]; simp; rw [Nat.min_eq_left (by omega)]; simp
            · rw [List.getElem?_append_right (by simp; omega), List.getElem?_drop, if_neg (by omega)]
              simp
              rw [Nat.min_eq_left (by omega), show off + 1 + (j - (off + 1)) = j by omega]
              simp [hj2]
          have h2 := Array.getElem?_eq_getElem hj'
          rw [List.getElem?_toArray, h1] at h2
          exact (Option.some.inj h2).symm
        rw [key]
        by_cases e : off = j
        · subst e
          rw [if_pos rfl]
          simp only [List.getElem_set_self]
          exact hrv.mono (fun _ _ h => h) hIc (.refl _ _)
        · rw [if_neg (Ne.symm e), List.getElem_set_ne e]
          exact (a6 j hj1 hj2).mono (fun _ _ h => h) hIc (.refl _ _), a7⟩)
    obtain ⟨dst, op, type, pos, after, guard⟩ := o
    simp only at hop
    subst hop
    refine OpRun.unit (w' := w.setRow c (vs.toList.take off ++ [ρ vx] ++ vs.toList.drop (off + 1)).toArray) ?_ g1 g2
    rw [hpv]
    simp only [Instr.storeAt, Instr.sureAddr, storeVar, Sem.run_bind, Sem.run_pure, Result.andThen_ok, run_psize hsz]
    rw [if_neg (by rw [cells_one hvo]; simp)]
    rw [cells_one hvo]
    exact hst

theorem flat_get {w : World} {I : Imm} {kk : Nat} {new : List (List D)} {B : List Value} (hB : Flat w I kk new B) (hk : 1 ≤ kk) {j : Nat} {x : Value} (hx : B[j]? = some x) : ∃ d, new.flatten[j]? = some d ∧ DRep w I x d := by
  have hj : j < new.length * kk := by rw [← hB.len]; exact lt_of_getElem? hx
  obtain ⟨a1, a2, a3⟩ := split_lt hj
  have hrow := hB.row _ a1
  have hr := hB.rep (j / kk) (j % kk) a1 (by rw [hrow]; exact a2) x (by rw [a3]; exact hx)
  refine ⟨_, ?_, hr⟩
  have key : ∀ (L : List (List D)) (q i : Nat) (hq : q < L.length) (hall : ∀ i (h : i < L.length), (L[i]'h).length = kk) (hi : i < (L[q]'hq).length), L.flatten[q * kk + i]? = some ((L[q]'hq)[i]'hi) := by
    intro L
    induction L with
    | nil => intro q i hq; simp at hq
    | cons r L ih =>
      intro q i hq hall hi
      have hr0 : r.length = kk := hall 0 (by simp)
      cases q with
      | zero =>
        simp only [List.getElem_cons_zero] at hi ⊢
        simp only [List.flatten_cons, Nat.zero_mul, Nat.zero_add]
        rw [List.getElem?_append_left hi]
        exact List.getElem?_eq_getElem hi
      | succ q =>
        simp only [List.getElem_cons_succ] at hi ⊢
        simp only [List.flatten_cons]
        rw [List.getElem?_append_right (by rw [hr0, Nat.succ_mul]; omega), hr0, show (q + 1) * kk + i - kk = q * kk + i by rw [Nat.succ_mul]; omega]
        exact ih q i (by simpa using hq) (fun i h => by have := hall (i + 1) (by simpa using h); simpa using this) hi
  have := key new (j / kk) (j % kk) a1 hB.row (by rw [hrow]; exact a2)
  rw [a3] at this
  exact this

/-- append(s, x...) -/
theorem swr_vappend {b n kk by_ e e' : Nat} {z : Value} {sx xx : Operand} {sT xT : Nat} {cs : List SV} {new : List (List D)} (hop : o.op = .call ⟨.builtin .append, #[sx, xx], #[sT, xT]⟩)
    (hw : swant all t o.guard = some true) (hd : dstOK fn.ntmps o.dst = true) (hs : evalS G t sx = .vec b n) (hx : evalS G t xx = .imm (.isl kk new)) (hu : P.underlying sT = some (.slice e)) (hxu : P.underlying xT = some (.slice e'))
    (hpk : psize P e = some kk) (hby : pbytes P e = some by_) (hz : pzero P e = some z) (hcond : by_ ≤ 65536 ∧ z.cells.size = kk) (hb : H[b]? = some (.vec kk cs)) (hlen : cs.length = n * kk) (hk : 1 ≤ kk) (hnew : 1 ≤ new.length) (hsmall : n + new.length ≤ 1073741824)
    (h : SWr E all rest k (tput t o.dst (.vec b (n + new.length))) (H.set b (.vec kk (cs ++ new.flatten.map .imm)))) : SWr E all (o :: rest) k t H := by
  refine swr_exec hw hd (fun c e => by rw [hop] at e; cases e) (by simp) (fun ρ w I β hH hev => ?_) h
  have hr := hev sx
  rw [hs] at hr
  have hrx := hev xx
  rw [hx] at hrx
  obtain ⟨hbu, hnow⟩ := vec_now hH hb hr hlen hk
  generalize hxv : ρ xx = xv at hrx
  cases hrx with | imm hrx =>
  obtain ⟨B, hB, hxl, hxc⟩ := hrx.flat (P := P)
  have hBs : B.length = new.length * kk := hB.len
  have hfl : (new.flatten.map SV.imm).length = new.length * kk := by
    rw [List.length_map]
    have : ∀ L : List (List D), (∀ i (h : i < L.length), (L[i]'h).length = kk) → L.flatten.length = L.length * kk := by
      intro L
      induction L with
      | nil => intro _; simp
      | cons r L ih =>
        intro hall
        have h0 : r.length = kk := hall 0 (by simp)
        have h1 := ih (fun i h => by have := hall (i + 1) (by simpa using h); simpa using this)
        simp only [List.flatten_cons, List.length_append, List.length_cons, h0, h1, Nat.succ_mul]; omega
    exact this new hB.row
  have hblt := lt_of_getElem? hb
  have hbxlt := lt_of_getElem? hbu
  have hnl : (cs ++ new.flatten.map SV.imm).length = (n + new.length) * kk := by rw [List.length_append, hlen, hfl, Nat.add_mul]
  obtain ⟨dst, op, type, pos, after, guard⟩ := o
  simp only at hop
  subst hop
  -- a row of the values, whatever the way
  have rowsOK : ∀ (w' : World) (β' : List Bnd) (vs : List Value) (vs' : Array Value), (∀ c o, I c o → w'.cell? ⟨c, o, none⟩ = w.cell? ⟨c, o, none⟩) → Keeps β.length β β' → vs.length = n * kk →
      (∀ j (h : j < cs.length) (h' : j < vs.length), Rep w I β (vs[j]'h') (cs[j]'h)) → (∀ j, j < n * kk + new.length * kk → vs'[j]? = (vs ++ B)[j]?) →
      ∀ j (h : j < (cs ++ new.flatten.map SV.imm).length) (h' : j < vs'.size), Rep w' I β' (vs'[j]'h') ((cs ++ new.flatten.map SV.imm)[j]'h) := by
    intro w' β' vs vs' hcell hkeep hvl hrep hget j hj hj'
    have hj2 : j < n * kk + new.length * kk := by rw [hnl, Nat.add_mul] at hj; exact hj
    have hg := hget j hj2
    rw [Array.getElem?_eq_getElem hj'] at hg
    rcases Nat.lt_or_ge j (n * kk) with hlt | hge
    · have hjc : j < cs.length := by omega
      have hjv : j < vs.length := by omega
      rw [List.getElem_append_left hjc]
      rw [List.getElem?_append_left hjv, List.getElem?_eq_getElem hjv] at hg
      rw [Option.some.inj hg]
      exact (hrep j hjc hjv).mono (fun _ _ h => h) hcell hkeep
    · rw [List.getElem?_append_right (by omega), hvl] at hg
      obtain ⟨d, hd1, hd2⟩ := flat_get hB hk hg.symm
      have : (cs ++ new.flatten.map SV.imm)[j]? = some (.imm d) := by
        rw [List.getElem?_append_right (by omega), hlen, List.getElem?_map, hd1]; rfl
      rw [List.getElem?_eq_getElem hj] at this
      rw [Option.some.inj this]
      exact .imm (hd2.mono (fun _ _ h => h) hcell)
  have grow : ∀ (A : List Value) (ua : Option Addr) (ucap : Nat), ρ sx = .slice ua n ucap → A.length = n * kk → (∀ j (h : j < cs.length) (h' : j < A.length), Rep w I β (A[j]'h') (cs[j]'h)) →
      (∀ w' : World, w'.heap = w.heap → (Builtin.firstCells kk n (.slice ua n ucap)).run P w' = .ok A.toArray w') → ¬ n + new.length ≤ ucap →
      OpRun P G (execOp ρ ⟨dst, .call ⟨.builtin .append, #[sx, xx], #[sT, xT]⟩, type, pos, after, guard⟩) w I β H (.vec b (n + new.length)) (H.set b (.vec kk (cs ++ new.flatten.map .imm))) := by
    intro A ua ucap hsv hAs hArep hsc hg
    obtain ⟨newCap, rest', hc1, hc2, hrest, hrun⟩ := run_append_grows (w := w) (ty := type) hu hxu hpk hby hz (base := ua) (n := n) (cap := ucap) (A := A) (B := B) hxl (fun w' hw' => hxc w' (fun c o _ => by simp [World.cell?, hw'])) hsc hg hsmall hcond.1
    have hrs : rest'.size = (newCap - (n + new.length)) * kk := by rw [hrest]; simp [Builtin.zeroCells, hcond.2]
    have hvs : (A.toArray ++ B.toArray ++ rest').size = newCap * kk := by
      simp only [Array.size_append, List.size_toArray, hAs, hBs, hrs]
      rw [← Nat.add_mul, ← Nat.add_mul]; congr 1; omega
    have hnewblk : (w.drew.alloc (.cells (A.toArray ++ B.toArray ++ rest') e)).heap[w.heap.size]? = some (.cells (A.toArray ++ B.toArray ++ rest') e (0, 0)) := heap_alloc_self (w := w.drew) _
    have hold : ∀ c, c < w.heap.size → (w.drew.alloc (.cells (A.toArray ++ B.toArray ++ rest') e)).heap[c]? = w.heap[c]? := fun c hc => by
      show (w.heap.push _)[c]? = _
      rw [Array.getElem?_push, if_neg (by omega)]
    have hcell : ∀ c o, I c o → (w.drew.alloc (.cells (A.toArray ++ B.toArray ++ rest') e)).cell? ⟨c, o, none⟩ = w.cell? ⟨c, o, none⟩ := fun c o hc => cell_congr (hold c (hH.inI c o hc)) o
    rw [hsv] at hbu
    have hkeep : Keeps β.length β (β.set b (.tok (.slice (some ⟨w.heap.size, 0, none⟩) (n + new.length) newCap))) := by
      intro b' x _ hb'
      by_cases e : b' = b
      · subst e
        rw [hbu] at hb'; cases hb'
        exact ⟨_, List.getElem?_set_self hbxlt, _, rfl, .inr ⟨_, _, _, _, _, _, rfl, rfl, by omega⟩⟩
      · exact ⟨x, by rw [List.getElem?_set_ne (Ne.symm e)]; exact hb', x.le_refl⟩
    obtain ⟨g1, g2⟩ := hH.moveVec (m := H.length) (n := n) (n' := n + new.length) (u' := .slice (some ⟨w.heap.size, 0, none⟩) (n + new.length) newCap) (w' := w.drew.alloc (.cells (A.toArray ++ B.toArray ++ rest') e)) (I' := I) (o1 := .vec kk (cs ++ new.flatten.map .imm)) hb (by simp) hbu ⟨_, _, _, _, rfl, rfl⟩ (by omega)
      (by simp) (fun c hc _ => hold c hc) hcell (fun _ _ h => h) (fun _ _ h => .inl h) (fun c o hi => by have := hH.inI c o hi; simp; omega) (fun c hc => by cases hc; exact .inr (Nat.le_refl _))
      (.inr ⟨w.heap.size, n + new.length, newCap, _, e, rfl, hnewblk, hvs, hc1, hc2, hnl, rowsOK _ _ A _ hcell hkeep hAs hArep (fun j hj => by
        rw [Array.getElem?_append_left (by simp [hAs, hBs]; omega)]; simp), fun o hi => by have := hH.inI _ o hi; omega⟩)
    exact .value (by rw [← hsv] at hrun; simpa [builtin, hxv] using hrun) (.vec b _ _ _ (n + new.length) (List.getElem?_set_self hbxlt) ⟨_, _, rfl⟩ (Nat.le_refl _) ⟨_, _, _, rfl⟩ (fun _ => rfl)) g1 g2
  rcases hnow with ⟨hn0, hsv, hcs⟩ | ⟨c, cap, vs, T, hsv, h2, h3, h4, h5, h6, h7⟩
  · subst hn0
    exact grow [] none 0 hsv (by simp) (fun j h h' => by simp at h') (fun w' _ => by rfl) (by omega)
  · by_cases hfit : n + new.length ≤ cap
    · have hle2 : n * kk + new.length * kk ≤ vs.size := by rw [h3, ← Nat.add_mul]; exact Nat.mul_le_mul_right kk hfit
      have hrun := run_append_fits (w := w) (ty := type) hu hxu hpk (n := n) (cap := cap) (m := new.length) (c := c) hxl (hxc w (fun _ _ _ => rfl)) hfit h2 hB.len hB.one h3
      generalize hW : w.setRow c (vs.toList.take (n * kk) ++ B ++ vs.toList.drop (n * kk + new.length * kk)).toArray = W at hrun
      have hnb : W.heap[c]? = some (.cells (vs.toList.take (n * kk) ++ B ++ vs.toList.drop (n * kk + new.length * kk)).toArray T (0, 0)) := by rw [← hW]; exact setRow_heap w c vs _ T _ h2
      have hother : ∀ c', c' ≠ c → W.heap[c']? = w.heap[c']? := by
        intro c' hne
        rw [← hW]; simp [World.setRow, Array.getElem?_modify, Ne.symm hne]
      have hsz : W.heap.size = w.heap.size := by rw [← hW]; simp [World.setRow]
      have hcell : ∀ c' o, I c' o → W.cell? ⟨c', o, none⟩ = w.cell? ⟨c', o, none⟩ := fun c' o hi => cell_congr (hother c' (fun e => h7 o (e ▸ hi))) o
      rw [hsv] at hbu
      have hkeep : Keeps β.length β (β.set b (.tok (.slice (some ⟨c, 0, none⟩) (n + new.length) cap))) := by
        intro b' x _ hb'
        by_cases e : b' = b
        · subst e
          rw [hbu] at hb'; cases hb'
          exact ⟨_, List.getElem?_set_self hbxlt, _, rfl, .inr ⟨_, _, _, _, _, _, rfl, rfl, by omega⟩⟩
        · exact ⟨x, by rw [List.getElem?_set_ne (Ne.symm e)]; exact hb', x.le_refl⟩
      have hAl : (vs.toList.take (n * kk)).length = n * kk := by simp; omega
      obtain ⟨g1, g2⟩ := hH.moveVec (m := H.length) (n := n) (n' := n + new.length) (u' := .slice (some ⟨c, 0, none⟩) (n + new.length) cap) (w' := W) (I' := I) (o1 := .vec kk (cs ++ new.flatten.map .imm)) hb (by simp) hbu ⟨_, _, _, _, rfl, rfl⟩ (by omega)
        (by omega) (fun c' _ hne => hother c' (fun e => hne (by rw [e]; rfl))) hcell (fun _ _ h => h) (fun _ _ h => .inl h) (fun c' o hi => by rw [hsz]; exact hH.inI c' o hi) (fun c' hc => by cases hc; exact .inl rfl)
        (.inr ⟨c, n + new.length, cap, _, T, rfl, hnb, by simp only [List.size_toArray, List.length_append, List.length_take, List.length_drop, Array.length_toList, hBs]; omega, hfit, h5, hnl,
          rowsOK _ _ (vs.toList.take (n * kk)) _ hcell hkeep hAl (fun j h h' => by
            have hj : j < vs.size := by simp at h'; omega
            have := h6 j h hj
            simpa using this) (fun j hj => by
            rw [List.getElem?_toArray, List.getElem?_append_left (by rw [List.length_append, hAl, hBs]; exact hj)]), h7⟩) (by rw [← hW]; exact ⟨rfl, rfl⟩)
      exact .value (by rw [← hsv] at hrun; simpa [builtin, hxv] using hrun) (.vec b _ _ _ (n + new.length) (List.getElem?_set_self hbxlt) ⟨_, _, rfl⟩ (Nat.le_refl _) ⟨_, _, _, rfl⟩ (fun _ => rfl)) g1 g2
    · have hAl : (vs.toList.take (n * kk)).length = n * kk := by
        have : n * kk ≤ vs.size := by rw [h3]; exact Nat.mul_le_mul_right kk h4
        simp; omega
      refine grow (vs.toList.take (n * kk)) _ cap hsv hAl (fun j h h' => by
            have hj : j < vs.size := by simp at h'; omega
            have := h6 j h hj
            simpa using this) (fun w' hw' => ?_) hfit
      have := run_loadCells_list (P := P) w' ⟨c, 0, none⟩ (vs.toList.take (n * kk)) (fun j x hx => by
        have hj : j < n * kk := by rw [← hAl]; exact lt_of_getElem? hx
        rw [addr_add, cell_congr (w := w) (by rw [hw']), cell_of_heap h2]
        rw [List.getElem?_take_of_lt hj] at hx
        simpa using hx)
      rw [hAl] at this
      simpa [Builtin.firstCells] using this

/-- The slice in slot s is data from now on; nobody writes it any more. -/
theorem sw_vshut (s b n kk : Nat) {cs : List SV} {ds : List D} (hs : tget t s = .vec b n) (hb : H[b]? = some (.vec kk cs)) (hone : cs.all SV.one = true) (hds : cs.mapM SV.toD = some ds) (hlen : cs.length = n * kk) (hk : 1 ≤ kk)
    (h : SW E k ((s, .imm (.isl kk (chunks kk ds n))) :: t) (H.set b .dead)) : SW E k t H := by
  refine ⟨fun a w I β cs' hsim => ?_⟩
  have hbl := lt_of_getElem? hb
  have hr := hsim.tmps s
  rw [hs] at hr
  obtain ⟨hbu, hnow⟩ := vec_now hsim.heap hb hr hlen hk
  obtain ⟨hdl, hdg⟩ := mapM_get hds
  have hsub : ∀ b' c', owns (H.set b .dead) β b' c' → b' ≠ b ∧ owns H β b' c' := by
    rintro b' c' ⟨o, x, h1, h2, h3, h4⟩
    have hne : b' ≠ b := by
      rintro rfl
      rw [List.getElem?_set_self hbl] at h1
      cases h1; exact h2 rfl
    rw [List.getElem?_set_ne (Ne.symm hne)] at h1
    exact ⟨hne, o, x, h1, h2, h3, h4⟩
  have fin : ∀ (I' : Imm), (∀ c o, I c o → I' c o) → (∀ c' o, I' c' o → I c' o ∨ owns H β b c') → DRep w I' (a.tmps.getD s undef) (.isl kk (chunks kk ds n)) → E.Goal (lone (E.at a k) cs' w) cs' := by
    intro I' hI hnew hd
    refine h.run a w I' β cs' ⟨⟨by simp [hsim.heap.len], fun b' o x h1 h2 => ?_, fun b1 b2 c' h1 h2 => hsim.heap.inj b1 b2 c' (hsub b1 c' h1).2 (hsub b2 c' h2).2, fun c' o hi => ?_, fun g d hg => (hsim.heap.glob g d hg).mono hI (fun _ _ _ => rfl)⟩,
      fun m => ?_, hsim.size, ?_, ?_, by simpa using hsim.hlen⟩
    · by_cases hne : b' = b
      · subst hne
        rw [List.getElem?_set_self hbl] at h1
        cases h1; trivial
      · rw [List.getElem?_set_ne (Ne.symm hne)] at h1
        by_cases hdead : o = .dead
        · subst hdead; trivial
        · refine (hsim.heap.obj b' o x h1 h2).mono (fun _ _ => rfl) hI (fun _ _ _ => rfl) (.refl _ _) (fun c' q hc hi => ?_)
          rcases hnew c' q hi with h3 | h3
          · exact h3
          · exact absurd (hsim.heap.inj b' b c' ⟨o, x, h1, hdead, h2, hc⟩ h3) hne
    · rcases hnew c' o hi with h3 | h3
      · exact hsim.heap.inI c' o h3
      · exact hsim.heap.owns_lt h3
    · by_cases e : s = m
      · subst e
        simp only [tget, if_true]
        exact .imm hd
      · simp only [tget, if_neg e]
        exact (hsim.tmps m).mono hI (fun _ _ _ => rfl) (.refl _ _)
    · obtain ⟨bs, d1, d2, d3⟩ := hsim.defers
      exact ⟨bs, d1, d2, fun c' hc => ⟨(d3 c' hc).1, (d3 c' hc).2.1, fun b' hb' => (d3 c' hc).2.2 b' (hsub b' c' hb').2⟩⟩
    · exact { hsim.ext with
        imm := fun c' o hi => hI _ _ (hsim.ext.imm c' o hi)
        own := fun b' c' ho => hsim.ext.own b' c' (hsub b' c' ho).2
        new := fun c' o hi => by
          rcases hnew c' o hi with h3 | h3
          · exact hsim.ext.new c' o h3
          · exact .inr (hsim.ext.own b c' h3) }
  rcases hnow with ⟨hn0, hsv, hcs⟩ | ⟨c, cap, vs, T, hsv, a1, a2, a3, a4, a5, a6⟩
  · subst hn0
    exact fin I (fun _ _ h => h) (fun _ _ h => .inl h) (by rw [hsv]; exact .islNil kk)
  · have hown : owns H β b c := ⟨_, _, hb, by simp, hbu, by rw [hsv]; rfl⟩
    have hle : cs.length ≤ vs.size := by rw [hlen, a2]; exact Nat.mul_le_mul_right kk a3
    refine fin (I.plus c cs.length) (fun _ _ h => .inl h) (fun c' o hi => hi.imp id (fun h => by rw [h.1]; exact hown)) ?_
    rw [hsv]
    refine drep_chunks (vs := vs.toList.take cs.length) (by rw [hdl, hlen]) (fun o ho => .inr ⟨rfl, by omega⟩) (fun o ho => ?_) (by simp; omega) (fun v hv => ?_) (fun o v d hv hd => ?_) a3 a4
    · rw [cell_of_heap a1, List.getElem?_take_of_lt (by omega)]; simp
    · obtain ⟨j, hj, rfl⟩ := List.mem_iff_getElem.1 hv
      have hjj : j < cs.length ∧ j < vs.size := by simp at hj; omega
      have hj' := hjj.2
      have := (a5 j (by omega) hj').oneCell (List.all_eq_true.1 hone _ (List.getElem_mem (by omega)))
      simpa using this
    · have hvv : o < cs.length ∧ o < vs.size := by have := lt_of_getElem? hv; simp at this; omega
      have hv' := hvv.2
      have ho : o < cs.length := hvv.1
      rw [List.getElem?_take_of_lt ho] at hv
      obtain ⟨d', hd', hs'⟩ := hdg o _ (List.getElem?_eq_getElem ho)
      rw [hd] at hd'
      cases hd'
      have hvv : v = vs[o] := by simpa [hv'] using hv.symm
      subst hvv
      exact ((a5 o ho hv').toD hs').mono (fun _ _ h => .inl h) (fun _ _ _ => rfl)
end
end Go.Sh

/- The shadow machine, part 28: a result seen as other data. -/
namespace Go.Sh
section
variable {P : Program} {G : List (Nat × D)}

/-- Whatever is an s is an s'. -/
def SV.Is (s s' : SV) : Prop := ∀ w I β v, Rep w I β v s → Rep w I β v s'

theorem SV.Is.refl (s : SV) : s.Is s := fun _ _ _ _ h => h
theorem SV.Is.nil (k : Nat) : (SV.imm (.val (.slice none 0 0))).Is (.imm (.isl k [])) := fun w I β v h => by
  cases h with | imm h => cases h with | val _ => exact .imm (.islNil k)

inductive SIs : List SV → List SV → Prop
  | nil : SIs [] []
  | cons {s s' : SV} {l l' : List SV} : s.Is s' → SIs l l' → SIs (s :: l) (s' :: l')

theorem SIs.len {l l' : List SV} (h : SIs l l') : l.length = l'.length := by
  induction h with
  | nil => rfl
  | cons _ _ ih => simp [ih]
theorem SIs.get {l l' : List SV} (h : SIs l l') : ∀ j (h1 : j < l.length) (h2 : j < l'.length), (l[j]'h1).Is (l'[j]'h2) := by
  induction h with
  | nil => intro j h1; simp at h1
  | cons h0 _ ih =>
    intro j h1 h2
    cases j with
    | zero => exact h0
    | succ j => exact ih j (by simpa using h1) (by simpa using h2)

theorem SIs.agg {l l' : List SV} (h : SIs l l') : (SV.agg l).Is (.agg l') := fun w I β v hr => by
  cases hr with
  | agg vs _ h1 h2 => exact .agg vs l' (by rw [h1, h.len]) (fun j hj hj' => h.get j (by rw [h.len]; exact hj) hj w I β _ (h2 j (by rw [h.len]; exact hj) hj'))
theorem SIs.tup {l l' : List SV} (h : SIs l l') : (SV.tup l).Is (.tup l') := fun w I β v hr => by
  cases hr with
  | tup vs _ h1 h2 => exact .tup vs l' (by rw [h1, h.len]) (fun j hj hj' => h.get j (by rw [h.len]; exact hj) hj w I β _ (h2 j (by rw [h.len]; exact hj) hj'))

theorem spure_is {f : FuncId} {args : List SV} {r r' : SV} (h : SPure P G f args r) (hr : r.Is r') : SPure P G f args r' :=
  fun H w I β vs hH hv => (h H w I β vs hH hv).mono fun _ _ ⟨v, _, I', β', H', h1, ⟨h2, h2'⟩, h3, h4⟩ => ⟨v, r', I', β', H', h1, ⟨rfl, h2'⟩, hr _ _ _ _ (h2 ▸ h3), h4⟩

theorem SYield.mono {b : Nat} {args : List SV} {H : List SObj} {K K' : Bool → List SObj → Prop} (h : SYield P G b args H K) (hK : ∀ r H', K r H' → K' r H') : SYield P G b args H K' :=
  fun w I β l r vs hH hb hl hv c cs => by
    obtain ⟨res, w', ⟨I', β', H', h1, h2⟩, h3⟩ := h w I β l r vs hH hb hl hv c cs
    exact ⟨res, w', ⟨I', β', H', hK _ _ h1, h2⟩, h3⟩

end
section
variable {P : Program} {G : List (Nat × D)} {fn : Func} {rd : Bool} {E : En P G fn rd} {t : List (Nat × SV)} {H : List SObj} {k : List Item}

/-- A slot seen as other data. -/
theorem sw_is (s : Nat) {x y : SV} (hs : tget t s = x) (hy : x.Is y) (h : SW E k ((s, y) :: t) H) : SW E k t H := by
  refine ⟨fun a w I β cs hsim => h.run a w I β cs { hsim with tmps := fun m => ?_ }⟩
  by_cases e : s = m
  · subst e
    simp only [tget, if_true]
    have := hsim.tmps s
    rw [hs] at this
    exact hy _ _ _ _ this
  · simp only [tget, if_neg e]
    exact hsim.tmps m

/-- A nil slice in a slot that is going to be appended to and written. -/
theorem sw_vecSlot (s kk : Nat) (hs : tget t s = .imm (.val (.slice none 0 0))) (h : SW E k ((s, .vec H.length 0) :: t) (H ++ [.vec kk []])) : SW E k t H := by
  refine ⟨fun a w I β cs' hsim => ?_⟩
  have hp := hsim.heap.push (o := .vec kk []) (x := .tok (.slice none 0 0)) (.inl ⟨rfl, rfl⟩) (fun b c hc => by cases hc)
  have he : Ext H.length w I β H w I (β ++ [.tok (.slice none 0 0)]) (H ++ [.vec kk []]) := .push hsim.heap (fun c hc => by cases hc)
  refine h.run a w I _ cs' ⟨hp, fun m => ?_, hsim.size, hsim.defers.ext he, hsim.ext.trans (he.weaken hsim.hlen), by have := hsim.hlen; simp; omega⟩
  by_cases e : s = m
  · subst e
    simp only [tget, if_true]
    have := hsim.tmps s
    rw [hs] at this
    generalize a.tmps.getD s undef = v at this
    cases this with | imm hr =>
    cases hr with | val _ =>
    exact .vec H.length 0 _ _ 0 (by rw [← hsim.heap.len]; simp) ⟨_, _, rfl⟩ (Nat.le_refl _) ⟨_, _, _, rfl⟩ (fun _ => rfl)
  · simp only [tget, if_neg e]
    exact (hsim.tmps m).ext (by rw [hsim.heap.len]; exact he)

/-- Objects that nobody needs are forgotten. -/
theorem sw_dead (b : Nat) (h : SW E k t (H.set b .dead)) : SW E k t H := by
  refine ⟨fun a w I β cs hsim => ?_⟩
  have hsub : ∀ b' c', owns (H.set b .dead) β b' c' → owns H β b' c' := by
    rintro b' c' ⟨o, x, h1, h2, h3, h4⟩
    by_cases e : b' = b
    · subst e
      rw [List.getElem?_set] at h1
      simp at h1
      exact absurd h1.2.symm h2
    · rw [List.getElem?_set_ne (Ne.symm e)] at h1
      exact ⟨o, x, h1, h2, h3, h4⟩
  refine h.run a w I β cs ⟨⟨by simp [hsim.heap.len], fun b' o x h1 h2 => ?_, fun b1 b2 c' h1 h2 => hsim.heap.inj b1 b2 c' (hsub b1 c' h1) (hsub b2 c' h2), hsim.heap.inI, hsim.heap.glob⟩, hsim.tmps, hsim.size, ?_, ?_, by simpa using hsim.hlen⟩
  · by_cases e : b' = b
    · subst e
      rw [List.getElem?_set] at h1
      simp at h1
      rw [← h1.2]; trivial
    · rw [List.getElem?_set_ne (Ne.symm e)] at h1
      exact hsim.heap.obj b' o x h1 h2
  · obtain ⟨bs, d1, d2, d3⟩ := hsim.defers
    exact ⟨bs, d1, d2, fun c' hc => ⟨(d3 c' hc).1, (d3 c' hc).2.1, fun b' hb' => (d3 c' hc).2.2 b' (hsub b' c' hb')⟩⟩
  · exact { hsim.ext with own := fun b' c' ho => hsim.ext.own b' c' (hsub b' c' ho) }
end
end Go.Sh

/- The shadow machine, part 29: data seen as other data. -/
namespace Go.Sh

/-- Whatever is a d is a d'. -/
def D.Is (d d' : D) : Prop := ∀ w I v, DRep w I v d → DRep w I v d'
theorem D.Is.refl (d : D) : d.Is d := fun _ _ _ h => h
theorem D.Is.nil (k : Nat) : (D.val (.slice none 0 0)).Is (.isl k []) := fun w I v h => by
  cases h with | val _ => exact .islNil k

inductive DIs : List D → List D → Prop
  | nil : DIs [] []
  | cons {s s' : D} {l l' : List D} : s.Is s' → DIs l l' → DIs (s :: l) (s' :: l')
inductive DIss : List (List D) → List (List D) → Prop
  | nil : DIss [] []
  | cons {s s' : List D} {l l' : List (List D)} : DIs s s' → DIss l l' → DIss (s :: l) (s' :: l')
theorem DIs.len {l l' : List D} (h : DIs l l') : l.length = l'.length := by
  induction h with
  | nil => rfl
  | cons _ _ ih => simp [ih]
theorem DIs.get {l l' : List D} (h : DIs l l') : ∀ j (h1 : j < l.length) (h2 : j < l'.length), (l[j]'h1).Is (l'[j]'h2) := by
  induction h with
  | nil => intro j h1; simp at h1
  | cons h0 _ ih =>
    intro j h1 h2
    cases j with
    | zero => exact h0
    | succ j => exact ih j (by simpa using h1) (by simpa using h2)
theorem DIss.len {l l' : List (List D)} (h : DIss l l') : l.length = l'.length := by
  induction h with
  | nil => rfl
  | cons _ _ ih => simp [ih]
theorem DIss.get {l l' : List (List D)} (h : DIss l l') : ∀ j (h1 : j < l.length) (h2 : j < l'.length), DIs (l[j]'h1) (l'[j]'h2) := by
  induction h with
  | nil => intro j h1; simp at h1
  | cons h0 _ ih =>
    intro j h1 h2
    cases j with
    | zero => exact h0
    | succ j => exact ih j (by simpa using h1) (by simpa using h2)
theorem DIss.isl {k : Nat} {rows rows' : List (List D)} (h : DIss rows rows') : (D.isl k rows).Is (.isl k rows') := fun w I v hr => by
  cases hr with
  | islNil => cases h; exact .islNil k
  | islEmpty a => cases h; exact .islEmpty a k
  | isl b o cap _ _ V h1 h2 h3 h4 h5 =>
    have hl := h.len
    rw [hl]
    refine .isl b o cap k rows' V (by rw [← hl]; exact h1) h2 (fun i hi => ?_) (fun i j hi hj => h4 i j (by rw [hl]; exact hi) hj) (fun i j hi hj => ?_)
    · rw [← (h.get i (by rw [hl]; exact hi) hi).len]; exact h3 i (by rw [hl]; exact hi)
    · have hg := h.get i (by rw [hl]; exact hi) hi
      exact hg.get j (by rw [hg.len]; exact hj) hj w I _ (h5 i j (by rw [hl]; exact hi) (by rw [hg.len]; exact hj))
theorem D.Is.imm {d d' : D} (h : d.Is d') : (SV.imm d).Is (.imm d') := fun w I β v hr => by
  cases hr with | imm hr => exact .imm (h w I v hr)
end Go.Sh

/- The shadow machine, part 30: structs of two numbers compared. -/
namespace Go.Sh
section
variable {P : Program} {w : World}

theorem run_prog : Sem.run P (Sem.program Sem.pure) w = .ok P w := rfl
theorem run_equalIn_int {d : Nat} {t : TypeId} {k k' : IntKind} {a b : Int} (hu : P.underlying t = some (.int k)) : (Op.equalIn (d + 1) t (.int k' a) (.int k' b)).run P w = .ok (decide (a = b)) w := by
  simp only [Op.equalIn, Sem.run_bind, run_underlying hu, Result.andThen_ok, if_true, Sem.run_pure]
  congr 1
theorem run_part_int {t : TypeId} {k : IntKind} {cs : Array Value} {off : Nat} {v : Value} (hu : P.underlying t = some (.int k)) (hv : cs[off]? = some v) : (part t cs off).run P w = .ok v w := by
  simp only [part, isAgg, Sem.run_bind, run_underlying hu, Result.andThen_ok, Sem.run_pure, hv]
  rfl

theorem run_equal_two {t : TypeId} {f0 f1 : Field} {k0 k1 : IntKind} {a b c d : Int} {x y : IntKind} (hu : P.underlying t = some (.struct #[f0, f1])) (hs : P.stoodInHeld t = false) (hn0 : f0.name ≠ "_") (hn1 : f1.name ≠ "_") (ho0 : f0.offset = 0) (ho1 : f1.offset = 1)
    (hi0 : P.underlying f0.type = some (.int k0)) (hi1 : P.underlying f1.type = some (.int k1)) :
    (Op.equal t (.agg #[.int x a, .int y b]) (.agg #[.int x c, .int y d])).run P w = .ok (decide (a = c) && decide (b = d)) w := by
  show (Op.equalIn (9998 + 1 + 1) t _ _).run P w = _
  generalize 9998 = n
  rw [Op.equalIn]
  simp only [Sem.run_bind, run_underlying hu, Result.andThen_ok]
  simp [hs, hn0, hn1, ho0, ho1, run_part_int hi0 (cs := #[.int x a, .int y b]) (off := 0) rfl, run_part_int hi0 (cs := #[.int x c, .int y d]) (off := 0) rfl,
    run_part_int hi1 (cs := #[.int x a, .int y b]) (off := 1) rfl, run_part_int hi1 (cs := #[.int x c, .int y d]) (off := 1) rfl, run_equalIn_int hi0, run_equalIn_int hi1, program, run_prog]
  by_cases h1 : a = c <;> by_cases h2 : b = d <;> simp [h1, h2]
end
section
variable {P : Program} {G : List (Nat × D)} {fn : Func} {rd : Bool} {E : En P G fn rd} {t : List (Nat × SV)} {H : List SObj} {k : List Item}
variable {all : Array Oper} {o : Oper} {rest : List Oper}

theorem rep_two {w : World} {I : Imm} {β : List Bnd} {v : Value} {a b : Int} (h : Rep w I β v (.agg [.imm (.val (.int .i64 a)), .imm (.val (.int .i64 b))])) : v = .agg #[.int .i64 a, .int .i64 b] := by
  cases h with
  | agg vs _ h1 h2 =>
    have key : ∀ (j : Nat) (h : j < vs.size) (x : Value) (hj : [SV.imm (.val (.int .i64 a)), SV.imm (.val (.int .i64 b))][j]? = some (.imm (.val x))), vs[j] = x := by
      intro j h x hj
      have h3 := h2 j (by rw [← h1]; exact h) h
      rw [List.getElem?_eq_getElem (by rw [← h1]; exact h)] at hj
      rw [Option.some.inj hj] at h3
      generalize vs[j] = v at h3
      cases h3 with | imm h3 => cases h3; rfl
    have hs : vs.size = 2 := by simpa using h1
    congr 1
    apply Array.ext (by simp [hs])
    intro i hi1 hi2
    have : i = 0 ∨ i = 1 := by omega
    rcases this with rfl | rfl
    · exact key 0 hi1 _ rfl
    · exact key 1 hi1 _ rfl

/-- two structs of two numbers: == -/
theorem swr_eq2 {ty ty' : TypeId} {x y : Operand} {f0 f1 : Field} {k0 k1 : IntKind} {a b c d : Int} (hop : o.op = .binOp .eql ty x y ty') (hw : swant all t o.guard = some true) (hd : dstOK fn.ntmps o.dst = true)
    (hx : evalS G t x = .agg [.imm (.val (.int .i64 a)), .imm (.val (.int .i64 b))]) (hy : evalS G t y = .agg [.imm (.val (.int .i64 c)), .imm (.val (.int .i64 d))])
    (hu : P.underlying ty = some (.struct #[f0, f1])) (hs : P.stoodInHeld ty = false) (hn0 : f0.name ≠ "_") (hn1 : f1.name ≠ "_") (ho0 : f0.offset = 0) (ho1 : f1.offset = 1)
    (hi0 : P.underlying f0.type = some (.int k0)) (hi1 : P.underlying f1.type = some (.int k1)) (hg : P.eqGuardType P.depth ty = false)
    (h : SWr E all rest k (tput t o.dst (.imm (.val (.bool (decide (a = c) && decide (b = d)))))) H) : SWr E all (o :: rest) k t H := by
  refine swr_exec hw hd (fun c e => by rw [hop] at e; cases e) (Nat.le_refl _) (fun ρ w I β hH hev => ?_) h
  have hrx := hev x
  rw [hx] at hrx
  have hry := hev y
  rw [hy] at hry
  have ex := rep_two hrx
  have ey := rep_two hry
  obtain ⟨dst, op, type, pos, after, guard⟩ := o
  simp only at hop
  subst hop
  refine OpRun.same (v := .bool (decide (a = c) && decide (b = d))) ?_ (.imm (.val _)) hH
  rw [ex, ey]
  have hgd : (eqGuard .eql ty x y (.agg #[.int .i64 a, .int .i64 b]) (.agg #[.int .i64 c, .int .i64 d])).run P w = .ok () w := by
    simp [eqGuard, program, hg, run_prog]
  simp only [Sem.run_bind, hgd, Result.andThen_ok, binOp, run_equal_two hu hs hn0 hn1 ho0 ho1 hi0 hi1, Sem.run_pure]
end
end Go.Sh

/- The shadow machine, part 31: from the reading of arguments to data, and from a contract to what a row asks. -/
namespace Go.Sh
open Go.ChangeShapes

/-- All cells of a world. -/
def allI (w : World) : Imm := fun c _ => c < w.heap.size

/-- Cells that hold these data. -/
inductive Cs (w : World) : List Value → List D → Prop
  | nil : Cs w [] []
  | cons {v : Value} {d : D} {vs : List Value} {ds : List D} : DRep w (allI w) v d → v.oneCell' = true → Cs w vs ds → Cs w (v :: vs) (d :: ds)

section
variable {H : Type} {enc : TypeId × Value → H} {P : Program} {w : World} {fuel : Nat} {t : TypeId} {cs : List Value} {x : DataW H × List MemPlace}

theorem Cs.len {vs : List Value} {ds : List D} (h : Cs w vs ds) : vs.length = ds.length := by
  induction h with
  | nil => rfl
  | cons _ _ _ ih => simp [ih]
theorem Cs.append {vs vs' : List Value} {ds ds' : List D} (h : Cs w vs ds) (h' : Cs w vs' ds') : Cs w (vs ++ vs') (ds ++ ds') := by
  induction h with
  | nil => exact h'
  | cons h1 h2 _ ih => exact .cons h1 h2 ih
theorem Cs.get {vs : List Value} {ds : List D} (h : Cs w vs ds) : ∀ j (h1 : j < vs.length) (h2 : j < ds.length), DRep w (allI w) (vs[j]'h1) (ds[j]'h2) ∧ (vs[j]'h1).oneCell' = true := by
  induction h with
  | nil => intro j h1; simp at h1
  | cons h0 h0' _ ih =>
    intro j h1 h2
    cases j with
    | zero => exact ⟨h0, h0'⟩
    | succ j => exact ih j (by simpa using h1) (by simpa using h2)

theorem rd_bool (ht : P.underlying t = some .bool) (h : DataW.trod enc P w 0 (fun _ => true) true fuel t cs = some x) : ∃ b, Cs w cs [.val (.bool b)] := by
  obtain ⟨b, rfl, _⟩ := DataW.trod_bool ht h
  exact ⟨b, .cons (.val _) rfl .nil⟩
theorem rd_int (ht : P.underlying t = some (.int .i64)) (h : DataW.trod enc P w 0 (fun _ => true) true fuel t cs = some x) : ∃ n : Int, Cs w cs [.val (.int .i64 n)] ∧ -9223372036854775808 ≤ n ∧ n ≤ 9223372036854775807 := by
  obtain ⟨n, rfl, _, hw⟩ := DataW.trod_int ht h
  simp only [Lit.wf, Bool.and_eq_true, decide_eq_true_eq] at hw
  have e1 : IntKind.i64.min = -9223372036854775808 := by decide
  have e2 : IntKind.i64.max = 9223372036854775807 := by decide
  exact ⟨n, .cons (.val _) rfl .nil, by omega, by omega⟩
theorem rd_string (ht : P.underlying t = some .string) (h : DataW.trod enc P w 0 (fun _ => true) true fuel t cs = some x) : ∃ s : ByteArray, Cs w cs [.val (.string s)] ∧ s.size ≤ 9223372036854775807 := by
  obtain ⟨s, rfl, _, hs⟩ := DataW.trod_string ht h
  exact ⟨s, .cons (.val _) rfl .nil, by simpa [maxLen] using hs⟩

theorem cells_some {a : Addr} {n : Nat} (h : w.cells? 0 a n = some cs) : cs.length = n ∧ ∀ j, j < n → w.cell? (a.add j) = cs[j]? := by
  unfold World.cells? at h
  rw [if_pos (Nat.zero_le _)] at h
  have hl := mapM_some_length h
  simp at hl
  exact ⟨hl, fun j hj => mapM_some_get h j j (by simp [hj])⟩

theorem spot_none {a : Addr} {v : Value} (h : w.cell? a = some v) : a.spot = none ∧ a.block < w.heap.size := by
  unfold World.cell? at h
  split at h
  · rename_i c T fr hb
    split at h
    · cases h
    · rename_i hs
      exact ⟨by simpa using hs, heap_lt hb⟩
  · cases h

theorem rd_slice {e : TypeId} {k : Nat} {α : Type} (f : α → List D) (Q : α → Prop) (ht : P.underlying t = some (.slice e)) (hk : P.cellsOf e = k) (hk1 : 1 ≤ k) (h : DataW.trod enc P w 0 (fun _ => true) true fuel t cs = some x)
    (hE : ∀ n cs x, n < fuel → DataW.trod enc P w 0 (fun _ => true) true n e cs = some x → ∃ a, Cs w cs (f a) ∧ Q a) :
    ∃ l : List α, Cs w cs [.isl k (l.map f)] ∧ l.length ≤ 9223372036854775807 ∧ ∀ a ∈ l, Q a := by
  rcases DataW.trod_slice ht h with ⟨rfl, _⟩ | ⟨a, len, cap, elems, rest, n, rfl, rfl, _, _, hlc, hcap, hel, he, hr, _⟩
  · exact ⟨[], .cons (.islNil k) rfl .nil, by simp, by simp⟩
  · subst hk
    have hcap' : cap ≤ 9223372036854775807 := by simpa [maxLen] using hcap
    rcases Nat.eq_zero_or_pos cap with h0 | h0
    · subst h0
      have : len = 0 := by omega
      subst this
      exact ⟨[], .cons (.islEmpty a _) rfl .nil, by simp, by simp⟩
    · obtain ⟨hr1, hr2⟩ := hr rfl
      have hsp : a.spot = none ∧ a.block < w.heap.size := by
        have hz : ∃ y, (w.cells? 0 (a.add 0) (P.cellsOf e)).bind (DataW.trod enc P w 0 (fun _ => true) true n e) = some y := by
          rcases Nat.eq_zero_or_pos len with hl | hl
          · have := hr2 0 (by omega)
            rw [hl, Nat.zero_add, Nat.zero_mul, List.getElem?_eq_getElem (by omega)] at this
            exact ⟨_, this⟩
          · have := he 0 hl
            rw [Nat.zero_mul, List.getElem?_eq_getElem (by omega)] at this
            exact ⟨_, this⟩
        obtain ⟨y, hy⟩ := hz
        obtain ⟨c, hc, _⟩ := Option.bind_eq_some_iff.1 hy
        obtain ⟨h1, h2⟩ := cells_some hc
        have h3 := h2 0 (by omega)
        rw [List.getElem?_eq_getElem (by omega)] at h3
        have := spot_none h3
        simpa [Addr.add] using this
      obtain ⟨b, o, sp⟩ := a
      obtain ⟨rfl, hblk⟩ := hsp
      simp only at hblk
      have hrow : ∀ i, i < len → ∃ (y : α) (c : List Value), c.length = P.cellsOf e ∧ (∀ j, j < P.cellsOf e → w.cell? ⟨b, o + i * P.cellsOf e + j, none⟩ = c[j]?) ∧ Cs w c (f y) ∧ Q y := by
        intro i hi
        have h1 := he i hi
        rw [List.getElem?_eq_getElem (by omega)] at h1
        obtain ⟨c, hc, hy⟩ := Option.bind_eq_some_iff.1 h1
        obtain ⟨h2, h3⟩ := cells_some hc
        obtain ⟨y, hy1, hy2⟩ := hE n c _ (by omega) hy
        refine ⟨y, c, h2, fun j hj => ?_, hy1, hy2⟩
        have := h3 j hj
        rwa [addr_add, addr_add] at this
      obtain ⟨g, hg⟩ : ∃ g : (i : Nat) → i < len → α, ∀ i hi, ∃ c : List Value, c.length = P.cellsOf e ∧ (∀ j, j < P.cellsOf e → w.cell? ⟨b, o + i * P.cellsOf e + j, none⟩ = c[j]?) ∧ Cs w c (f (g i hi)) ∧ Q (g i hi) :=
        ⟨fun i hi => Classical.choose (hrow i hi), fun i hi => Classical.choose_spec (hrow i hi)⟩
      obtain ⟨c, hc⟩ : ∃ c : (i : Nat) → i < len → List Value, ∀ i hi, (c i hi).length = P.cellsOf e ∧ (∀ j, j < P.cellsOf e → w.cell? ⟨b, o + i * P.cellsOf e + j, none⟩ = (c i hi)[j]?) ∧ Cs w (c i hi) (f (g i hi)) ∧ Q (g i hi) :=
        ⟨fun i hi => Classical.choose (hg i hi), fun i hi => Classical.choose_spec (hg i hi)⟩
      have hc1 := fun i hi => (hc i hi).1
      have hc2 := fun i hi => (hc i hi).2.1
      have hc3 := fun i hi => (hc i hi).2.2.1
      have hc4 := fun i hi => (hc i hi).2.2.2
      refine ⟨List.ofFn fun i : Fin len => g i.1 i.2, .cons ?_ rfl .nil, by simp; omega, ?_⟩
      · have hlen : ((List.ofFn fun i : Fin len => g i.1 i.2).map f).length = len := by simp
        have := DRep.isl (w := w) (I := allI w) b o cap (P.cellsOf e) ((List.ofFn fun i : Fin len => g i.1 i.2).map f) (fun i j => if h : i < len then ((c i h)[j]?).getD undef else undef) (by omega) hcap
          (fun i hi => by
            have hi' : i < len := by omega
            simp only [List.getElem_map, List.getElem_ofFn]
            rw [← (hc3 i hi').len, hc1])
          (fun i j hi hj => by
            have hi' : i < len := by omega
            have hj' : j < (c i hi').length := by rw [hc1]; exact hj
            have hg := (hc3 i hi').get j hj' (by rw [← (hc3 i hi').len]; exact hj')
            rw [dif_pos hi', List.getElem?_eq_getElem hj']
            exact ⟨hblk, by rw [hc2 i hi' j hj, List.getElem?_eq_getElem hj']; rfl, hg.2⟩)
          (fun i j hi hj => by
            have hi' : i < len := by omega
            simp only [List.getElem_map, List.getElem_ofFn] at hj ⊢
            have hj' : j < (c i hi').length := by rw [(hc3 i hi').len]; exact hj
            rw [dif_pos hi', List.getElem?_eq_getElem hj']
            exact ((hc3 i hi').get j hj' hj).1)
        rw [hlen] at this
        exact this
      · intro y hy
        obtain ⟨i, rfl⟩ := List.mem_ofFn.1 hy
        exact hc4 _ _

/-! ### the values of parameters -/
theorem rep_cells {v : Value} {ds : List D} {vs : Array Value} (hv : v = .agg vs) (h : Cs w vs.toList ds) : Rep w (allI w) [] v (.agg (ds.map .imm)) := by
  subst hv
  have hl := h.len
  simp at hl
  refine .agg vs _ (by simp [hl]) (fun j h1 h2 => ?_)
  simp only [List.getElem_map]
  exact .imm (h.get j (by simpa using h2) (by simpa using h1)).1
theorem rep_cell {v : Value} {d : D} (hv : v.cells = #[v]) (h : Cs w v.cells.toList [d]) : Rep w (allI w) [] v (.imm d) := by
  rw [hv] at h
  cases h with | cons h _ _ => exact .imm h

/-- What was there is there, as it was. -/
structure Old (W W' : World) : Prop where
  env : SameEnv W W'
  size : W.heap.size ≤ W'.heap.size
  old : ∀ c, c < W.heap.size → W'.heap[c]? = W.heap[c]?

theorem calls_of {G : List (Nat × D)} {f : FuncId} {ss : List SV} {b : Bool} {args : Array Value} (hS : SPure P G f ss (.imm (.val (.bool b)))) (hargs : Reps w (allI w) [] args.toList ss)
    (hG : ∀ g d, (g, d) ∈ G → DRep w (allI w) (.pointer (some ⟨g, 0, none⟩)) d) : Calls P f args w fun e w' => e = .returned (.bool b) ∧ Old w w' := by
  refine (hS [] w (allI w) [] args ⟨rfl, fun b o x h => by simp at h, fun b b' c h => absurd h (not_owns_nil b c), fun c o h => h, hG⟩ hargs).mono ?_
  rintro e w' ⟨v, r, I', β', H', rfl, ⟨rfl, rfl⟩, h1, h2, h3⟩
  refine ⟨?_, h3.env, h3.size, fun c hc => h3.old c hc (fun b => not_owns_nil b c)⟩
  cases h1 with | imm h1 => cases h1 with | val _ => rfl

theorem Old.same {W W' : World} (h : Old W W') {p : MemPlace} (hp : p.block < W.heap.size) : W.sameAt W' p := by
  cases p with
  | cell b o => exact cell_congr (h.old b hp) o
  | map b => exact h.old b hp

theorem Old.keptBut {W W' : World} (h : Old W W') (may : MemPlace → Prop) : W.keptBut W' may := by
  refine ⟨h.env.1, h.env.2, fun i hi => ?_⟩
  rw [h.old i hi]
  cases W.heap[i]? with
  | none => rfl
  | some o =>
    cases o with
    | cells c T fr => exact ⟨rfl, rfl, rfl, fun _ _ => rfl⟩
    | map es clock => exact .inr ⟨rfl, rfl⟩
    | _ => rfl

theorem trodAll_old {W W' : World} (h : Old W W') {sp : Nat → Bool} : ∀ {ts : List TypeId} {vs : List Value} {ds : List (DataW H)} {ps : List MemPlace}, DataW.TrodAll enc P W 0 sp true ts vs ds ps → (∀ p ∈ ps, p.block < W.heap.size) → DataW.TrodAll enc P W' 0 sp true ts vs ds ps
  | [], [], [], _, h1, _ => h1
  | _ :: _, _ :: _, _ :: _, _, ⟨p, q, ⟨n, h1⟩, h2, e⟩, hp =>
    ⟨p, q, ⟨n, DataW.trod_carry n _ _ _ h1 (fun x hx => h.same (hp x (by rw [e]; exact List.mem_append_left _ hx)))⟩, trodAll_old h h2 (fun x hx => hp x (by rw [e]; exact List.mem_append_right _ hx)), e⟩

/-- A function that returns one truth value and leaves all as it was, with no variable read: what the row asks. -/
theorem post_of_old {f : Func} {s : ChangeSpec} {apart fresh handsOn again : Bool} {W W' : World} {args : Array Value} {v : Value} {ds gs : List (DataW H)} {before : List MemPlace} {tb : TypeId} {b : Bool}
    (hW : DataW.Whole enc P f.params.toList s.vars apart W args.toList ds gs before) (hvars : s.vars = []) (hs : (s.fn H (ds ++ gs)).results = [.lit (.bool b)]) (hs1 : (s.fn H (ds ++ gs)).args = ds) (hs2 : (s.fn H (ds ++ gs)).vars = [])
    (ho : Old W W') (hr : f.resultTypes = #[tb]) (htb : P.underlying tb = some .bool) (hv : v = .bool b)
    (K : Kids P (· < P.types.size)) (full : ∀ t e, t < P.types.size → P.underlying t = some (.slice e) → 0 < P.cellsOf e) (hts : ∀ t ∈ f.params.toList, t < P.types.size) :
    s.post enc P f apart fresh handsOn again W args v W' := by
  subst hv
  have hlt : ∀ p ∈ before, p.block < W.heap.size := fun p hp => hW.lt p hp
  have hold : ∀ p ∈ before, (fun b => decide (b < W.heap.size)) p.block = true := fun p hp => by simpa using hlt p hp
  have hW0 := hW
  obtain ⟨p, q, hA, hV, hpq, hz, hn⟩ := hW
  rw [hvars] at hV
  obtain ⟨rfl, rfl⟩ : gs = [] ∧ q = [] := by
    cases gs with
    | nil => exact ⟨rfl, hV⟩
    | cons => exact hV.elim
  have hbp : before = p := by simpa using hpq
  subst hbp
  have hA' := trodAll_old ho hA hlt
  have hargs : ∀ sp : Nat → Bool, (∀ x ∈ before, sp x.block = true) → DataW.TrodAll enc P W' 0 sp true f.params.toList args.toList (s.fn H (ds ++ [])).args before := fun sp hsp => by
    rw [hs1]; exact DataW.TrodAll.respare K full hts hA' hsp
  have hres : ∀ (bb : Nat) (sp : Nat → Bool) (hd : Bool), DataW.TrodAll enc P W' bb sp hd f.resultTypes.toList ((Value.bool b).resultList f.resultTypes.size) (s.fn H (ds ++ [])).results [] := fun bb sp hd => by
    rw [hs, hr]
    exact ⟨[], [], ⟨1, by simp [DataW.trod, Value.cells, htb]⟩, rfl, rfl⟩
  have hvs : ∀ sp : Nat → Bool, DataW.TrodVars enc P W' sp s.vars (s.fn H (ds ++ [])).vars [] := fun sp => by rw [hs2, hvars]; rfl
  refine ⟨ds, [], before, [], before, [], hW0, hres _ _ _, hargs _ hold, hvs _, ho.keptBut _, fun _ => ?_⟩
  refine ⟨?_, _, _, ([] ++ before) ++ [], ⟨[] ++ before, [], trodAll_append (hargs _ (fun _ _ => rfl)) (hres _ _ _), hvs _, rfl, ?_, ?_⟩, ?_⟩
  · exact Go.RowKit.ok_one hr rfl (Go.RowKit.okWide_bool_mk htb b)
  · intro bl off hp
    have hp' : MemPlace.cell bl off ∈ before := by simpa using hp
    have := hz bl off (by simpa using hp')
    rw [← this]
    have hb := ho.old bl (hlt _ hp')
    simp [World.frozen?, hb]
  · intro ha
    simpa using hn ha
  · intro x hx _
    simpa using hx
end
end Go.Sh

/- The data of package api as Lean data, and as data of the shadow machine. -/
namespace Go.Sh

abbrev dI (n : Int) : D := .val (.int .i64 n)
abbrev dB (b : Bool) : D := .val (.bool b)
abbrev dS (s : ByteArray) : D := .val (.string s)
abbrev sI (n : Int) : SV := .imm (.val (.int .i64 n))
abbrev sB (b : Bool) : SV := .imm (.val (.bool b))
abbrev sS (s : ByteArray) : SV := .imm (.val (.string s))

structure Piece where
  lo : Int
  at_ : Int
  slope : Int
structure Decl where
  name : ByteArray
  unit : ByteArray
  role : Int
inductive Ex where
  | mk (op n : Int) (unit : ByteArray) (den : Int) (pieces : List Piece) (kids : List Ex)
structure Article where
  number : Int
  line : Int
  rank : Int
  lo : Int
  hi : Int
  known : Int
  when_ : List Ex
  unless_ : List Int
  amount : Ex
structure Codex where
  facts : List Decl
  lines : List Decl
  arts : List Article
structure Fact where
  person : ByteArray
  name : ByteArray
  lo : Int
  hi : Int
  known : Int
  value : Int
  gone : Bool
structure View where
  day : Int
  has : List Bool
  value : List Int
  arts : List Int

def Piece.cells (p : Piece) : List D := [dI p.lo, dI p.at_, dI p.slope]
def Decl.cells (d : Decl) : List D := [dS d.name, dS d.unit, dI d.role]
mutual
def Ex.cells : Ex → List D
  | .mk op n unit den ps ks => [dI op, dI n, dS unit, dI den, .isl 3 (ps.map Piece.cells), .isl 6 (exprRows ks)]
def exprRows : List Ex → List (List D)
  | [] => []
  | e :: r => Ex.cells e :: exprRows r
end
theorem exprRows_eq (l : List Ex) : exprRows l = l.map Ex.cells := by
  induction l with
  | nil => rfl
  | cons e r ih => simp [exprRows, ih]
def Ex.op : Ex → Int | .mk op _ _ _ _ _ => op
def Ex.n : Ex → Int | .mk _ n _ _ _ _ => n
def Ex.unit : Ex → ByteArray | .mk _ _ u _ _ _ => u
def Ex.den : Ex → Int | .mk _ _ _ d _ _ => d
def Ex.pieces : Ex → List Piece | .mk _ _ _ _ p _ => p
def Ex.kids : Ex → List Ex | .mk _ _ _ _ _ k => k
theorem Ex.cells_eq (e : Ex) : e.cells = [dI e.op, dI e.n, dS e.unit, dI e.den, .isl 3 (e.pieces.map Piece.cells), .isl 6 (e.kids.map Ex.cells)] := by
  cases e; simp [Ex.cells, exprRows_eq, Ex.op, Ex.n, Ex.unit, Ex.den, Ex.pieces, Ex.kids]

def dInts (l : List Int) : D := .isl 1 (l.map fun n => [dI n])
def dBools (l : List Bool) : D := .isl 1 (l.map fun b => [dB b])
def dDecls (l : List Decl) : D := .isl 3 (l.map Decl.cells)
def dExprs (l : List Ex) : D := .isl 6 (l.map Ex.cells)
def Article.cells (a : Article) : List D := [dI a.number, dI a.line, dI a.rank, dI a.lo, dI a.hi, dI a.known, dExprs a.when_, dInts a.unless_,
  dI a.amount.op, dI a.amount.n, dS a.amount.unit, dI a.amount.den, .isl 3 (a.amount.pieces.map Piece.cells), .isl 6 (a.amount.kids.map Ex.cells)]
def dArts (l : List Article) : D := .isl 14 (l.map Article.cells)
def Codex.sv (c : Codex) : SV := .agg [.imm (dDecls c.facts), .imm (dDecls c.lines), .imm (dArts c.arts)]
def Fact.cells (f : Fact) : List D := [dS f.person, dS f.name, dI f.lo, dI f.hi, dI f.known, dI f.value, dB f.gone]
def dFacts (l : List Fact) : D := .isl 7 (l.map Fact.cells)
def storeSV (l : List Fact) : SV := .agg [.imm (dFacts l)]
def View.sv (v : View) : SV := .agg [sI v.day, .imm (dBools v.has), .imm (dInts v.value), .imm (dInts v.arts)]

theorem get_mid {α : Type} (l r : List α) (a : α) : (l ++ a :: r)[l.length]? = some a := by simp
theorem get_mid_map {α γ : Type} (f : α → γ) (l r : List α) (a : α) : ((l ++ a :: r).map f)[((l.length : Nat) : Int).toNat]? = some (f a) := by simp

def Fact.fit (f : Fact) : Prop := f.person.size ≤ 9223372036854775807 ∧ f.name.size ≤ 9223372036854775807
def View.same (v w : View) : Bool := decide (v.has = w.has ∧ v.value = w.value ∧ v.arts = w.arts)
def View.fit (v : View) : Prop := v.has.length ≤ 9223372036854775807 ∧ v.value.length ≤ 9223372036854775807 ∧ v.arts.length ≤ 9223372036854775807
def View.same' (v w : View) : Bool := decide (v.day = w.day) && v.same w
def Ex.sv (e : Ex) : SV := .agg (e.cells.map .imm)

end Go.Sh

/- Contracts, part a: days, units, currencies, names. -/
namespace Go.Proofs.YthmkdghoaifkbaaGreatDoor
open Go Go.Sh
set_option maxRecDepth 10000

theorem mixed : Tryz.prog.follows .mixedOrders = true := by kernel_rfl
variable (G : List (Nat × D))

def dayOK (n : Int) : Bool := decide (0 ≤ n ∧ n ≤ 36524)

theorem isDay_spec (n : Int) : SPure Tryz.prog G 28 [sI n] (sB (dayOK n)) := by
  refine spure_enter Tryz.func28 rfl (by rw [Tryz.ntmps28]; simp) rfl rfl ?_; intro E hH hK
  (refine sgo_sound [] 1000 ?_; conv => whnf)
  repeat' ((first | with_reducible refine bdec (fun h => ?_) (fun h => ?_) | with_reducible refine bndec (fun h => ?_) (fun h => ?_) | with_reducible refine bwtd (fun h => ?_) (fun h => ?_) | with_reducible refine bwfd (fun h => ?_) (fun h => ?_) | with_reducible refine bwtn (fun h => ?_) (fun h => ?_) | with_reducible refine bwfn (fun h => ?_) (fun h => ?_) | with_reducible refine bwtb (fun h => ?_) (fun h => ?_) | with_reducible refine bwfb (fun h => ?_) (fun h => ?_) | with_reducible refine bwt (fun h => ?_) (fun h => ?_) | with_reducible refine bwf (fun h => ?_) (fun h => ?_) | with_reducible refine bnt (fun h => ?_) (fun h => ?_) | with_reducible refine bcase (fun h => ?_) (fun h => ?_)) <;> (conv => whnf))
  all_goals exact kB hK (by simp [dayOK]; try omega)

/-- a currency: three upper-case letters -/
def upper (b : UInt8) : Bool := decide (65 ≤ b.toNat) && decide (b.toNat ≤ 90)
def curOK (s : ByteArray) : Bool := decide (s.size = 3) && s.data.toList.all upper
def unitOK (s : ByteArray) : Bool := decide (s = ⟨#[116, 114, 117, 116, 104]⟩) || decide (s = ⟨#[110, 117, 109, 98, 101, 114]⟩) || decide (s = ⟨#[109, 105, 110, 117, 116, 101, 115]⟩) || curOK s

theorem isCur_spec (s : ByteArray) : SPure Tryz.prog G 87 [sS s] (sB (curOK s)) := by
  refine spure_enter Tryz.func87 rfl (by rw [Tryz.ntmps87]; simp) rfl rfl ?_; intro E hH hK
  (refine sgo_sound [] 1000 ?_; conv => whnf)
  repeat' ((first | with_reducible refine bdec (fun h => ?_) (fun h => ?_) | with_reducible refine bndec (fun h => ?_) (fun h => ?_) | with_reducible refine bwtd (fun h => ?_) (fun h => ?_) | with_reducible refine bwfd (fun h => ?_) (fun h => ?_) | with_reducible refine bwtn (fun h => ?_) (fun h => ?_) | with_reducible refine bwfn (fun h => ?_) (fun h => ?_) | with_reducible refine bwtb (fun h => ?_) (fun h => ?_) | with_reducible refine bwfb (fun h => ?_) (fun h => ?_) | with_reducible refine bwt (fun h => ?_) (fun h => ?_) | with_reducible refine bwf (fun h => ?_) (fun h => ?_) | with_reducible refine bnt (fun h => ?_) (fun h => ?_) | with_reducible refine bcase (fun h => ?_) (fun h => ?_)) <;> (conv => whnf))
  · exact kB hK (by simp [curOK]; omega)
  · have hs : s.size = 3 := by omega
    have hl : s.data.toList.length = 3 := by simpa using hs
    refine sw_keep [0, 8, 9] ?_
    refine sw_loop_ind (σ := List UInt8 × List UInt8) (fun x => [(0, sS s), (8, sI s.size), (9, sI x.1.length)]) (fun _ => [])
      (fun x => s.data.toList = x.1 ++ x.2 ∧ x.1.all upper = true) (fun x => x.2.length) ?_ ([], s.data.toList) ⟨rfl, rfl⟩
    rintro ⟨done, rest⟩ ⟨ha, hv⟩ ih
    dsimp only at ha hv ih ⊢
    have hlen : done.length + rest.length = 3 := by rw [ha] at hl; simpa using hl
    (refine sgo_sound [] 1000 ?_; conv => whnf)
    repeat' ((first | with_reducible refine bdec (fun h => ?_) (fun h => ?_) | with_reducible refine bndec (fun h => ?_) (fun h => ?_) | with_reducible refine bwtd (fun h => ?_) (fun h => ?_) | with_reducible refine bwfd (fun h => ?_) (fun h => ?_) | with_reducible refine bwtn (fun h => ?_) (fun h => ?_) | with_reducible refine bwfn (fun h => ?_) (fun h => ?_) | with_reducible refine bwtb (fun h => ?_) (fun h => ?_) | with_reducible refine bwfb (fun h => ?_) (fun h => ?_) | with_reducible refine bwt (fun h => ?_) (fun h => ?_) | with_reducible refine bwf (fun h => ?_) (fun h => ?_) | with_reducible refine bnt (fun h => ?_) (fun h => ?_) | with_reducible refine bcase (fun h => ?_) (fun h => ?_)) <;> (conv => whnf))
    · cases rest with
      | nil => simp at hlen; omega
      | cons b rest =>
        have hget : s.data.toList[done.length]? = some b := by rw [ha]; simp
        have hw : IntKind.i64.wrap ((done.length : Int) + 1) = (((done ++ [b]).length : Nat) : Int) := by rw [wrap_succ (by omega)]; simp
        have bad : upper b = false → curOK s = false := fun h => by simp [curOK, ha, h]
        refine swr_byte rfl rfl rfl rfl rfl rfl  hget ?_
        (refine sgor_sound [] 1000 ?_; conv => whnf)
        repeat' ((first | with_reducible refine bdec (fun h => ?_) (fun h => ?_) | with_reducible refine bndec (fun h => ?_) (fun h => ?_) | with_reducible refine bwtd (fun h => ?_) (fun h => ?_) | with_reducible refine bwfd (fun h => ?_) (fun h => ?_) | with_reducible refine bwtn (fun h => ?_) (fun h => ?_) | with_reducible refine bwfn (fun h => ?_) (fun h => ?_) | with_reducible refine bwtb (fun h => ?_) (fun h => ?_) | with_reducible refine bwfb (fun h => ?_) (fun h => ?_) | with_reducible refine bwt (fun h => ?_) (fun h => ?_) | with_reducible refine bwf (fun h => ?_) (fun h => ?_) | with_reducible refine bnt (fun h => ?_) (fun h => ?_) | with_reducible refine bcase (fun h => ?_) (fun h => ?_)) <;> (conv => whnf))
        · refine swr_byte rfl rfl rfl rfl rfl rfl  hget ?_
          (refine sgor_sound [] 1000 ?_; conv => whnf)
          repeat' ((first | with_reducible refine bdec (fun h => ?_) (fun h => ?_) | with_reducible refine bndec (fun h => ?_) (fun h => ?_) | with_reducible refine bwtd (fun h => ?_) (fun h => ?_) | with_reducible refine bwfd (fun h => ?_) (fun h => ?_) | with_reducible refine bwtn (fun h => ?_) (fun h => ?_) | with_reducible refine bwfn (fun h => ?_) (fun h => ?_) | with_reducible refine bwtb (fun h => ?_) (fun h => ?_) | with_reducible refine bwfb (fun h => ?_) (fun h => ?_) | with_reducible refine bwt (fun h => ?_) (fun h => ?_) | with_reducible refine bwf (fun h => ?_) (fun h => ?_) | with_reducible refine bnt (fun h => ?_) (fun h => ?_) | with_reducible refine bcase (fun h => ?_) (fun h => ?_)) <;> (conv => whnf))
          · exact kB hK (bad (by simp [upper]; omega))
          · rw [hw]
            refine sw_keep [0, 8, 9] (ih (done ++ [b], rest) ⟨by simp [ha], ?_⟩ (by simp))
            simp [hv, upper]; omega
        · exact kB hK (bad (by simp [upper]; omega))
    · cases rest with
      | nil => exact kB hK (by simp [curOK, hs, ha]; simpa using hv)
      | cons b rest => simp at hlen; omega
theorem goodCur_spec (s : ByteArray) : SPure Tryz.prog G 128 [sS s] (sB (curOK s)) := by
  refine spure_enter Tryz.func128 rfl (by rw [Tryz.ntmps128]; simp) rfl rfl ?_; intro E hH hK
  (refine sgo_sound [] 1000 ?_; conv => whnf)
  repeat' ((first | with_reducible refine bdec (fun h => ?_) (fun h => ?_) | with_reducible refine bndec (fun h => ?_) (fun h => ?_) | with_reducible refine bwtd (fun h => ?_) (fun h => ?_) | with_reducible refine bwfd (fun h => ?_) (fun h => ?_) | with_reducible refine bwtn (fun h => ?_) (fun h => ?_) | with_reducible refine bwfn (fun h => ?_) (fun h => ?_) | with_reducible refine bwtb (fun h => ?_) (fun h => ?_) | with_reducible refine bwfb (fun h => ?_) (fun h => ?_) | with_reducible refine bwt (fun h => ?_) (fun h => ?_) | with_reducible refine bwf (fun h => ?_) (fun h => ?_) | with_reducible refine bnt (fun h => ?_) (fun h => ?_) | with_reducible refine bcase (fun h => ?_) (fun h => ?_)) <;> (conv => whnf))
  · exact kB hK (by simp [curOK]; omega)
  · have hs : s.size = 3 := by omega
    have hl : s.data.toList.length = 3 := by simpa using hs
    refine sw_keep [0, 8, 9] ?_
    refine sw_loop_ind (σ := List UInt8 × List UInt8) (fun x => [(0, sS s), (8, sI s.size), (9, sI x.1.length)]) (fun _ => [])
      (fun x => s.data.toList = x.1 ++ x.2 ∧ x.1.all upper = true) (fun x => x.2.length) ?_ ([], s.data.toList) ⟨rfl, rfl⟩
    rintro ⟨done, rest⟩ ⟨ha, hv⟩ ih
    dsimp only at ha hv ih ⊢
    have hlen : done.length + rest.length = 3 := by rw [ha] at hl; simpa using hl
    (refine sgo_sound [] 1000 ?_; conv => whnf)
    repeat' ((first | with_reducible refine bdec (fun h => ?_) (fun h => ?_) | with_reducible refine bndec (fun h => ?_) (fun h => ?_) | with_reducible refine bwtd (fun h => ?_) (fun h => ?_) | with_reducible refine bwfd (fun h => ?_) (fun h => ?_) | with_reducible refine bwtn (fun h => ?_) (fun h => ?_) | with_reducible refine bwfn (fun h => ?_) (fun h => ?_) | with_reducible refine bwtb (fun h => ?_) (fun h => ?_) | with_reducible refine bwfb (fun h => ?_) (fun h => ?_) | with_reducible refine bwt (fun h => ?_) (fun h => ?_) | with_reducible refine bwf (fun h => ?_) (fun h => ?_) | with_reducible refine bnt (fun h => ?_) (fun h => ?_) | with_reducible refine bcase (fun h => ?_) (fun h => ?_)) <;> (conv => whnf))
    · cases rest with
      | nil => simp at hlen; omega
      | cons b rest =>
        have hget : s.data.toList[done.length]? = some b := by rw [ha]; simp
        have hw : IntKind.i64.wrap ((done.length : Int) + 1) = (((done ++ [b]).length : Nat) : Int) := by rw [wrap_succ (by omega)]; simp
        have bad : upper b = false → curOK s = false := fun h => by simp [curOK, ha, h]
        refine swr_byte rfl rfl rfl rfl rfl rfl  hget ?_
        (refine sgor_sound [] 1000 ?_; conv => whnf)
        repeat' ((first | with_reducible refine bdec (fun h => ?_) (fun h => ?_) | with_reducible refine bndec (fun h => ?_) (fun h => ?_) | with_reducible refine bwtd (fun h => ?_) (fun h => ?_) | with_reducible refine bwfd (fun h => ?_) (fun h => ?_) | with_reducible refine bwtn (fun h => ?_) (fun h => ?_) | with_reducible refine bwfn (fun h => ?_) (fun h => ?_) | with_reducible refine bwtb (fun h => ?_) (fun h => ?_) | with_reducible refine bwfb (fun h => ?_) (fun h => ?_) | with_reducible refine bwt (fun h => ?_) (fun h => ?_) | with_reducible refine bwf (fun h => ?_) (fun h => ?_) | with_reducible refine bnt (fun h => ?_) (fun h => ?_) | with_reducible refine bcase (fun h => ?_) (fun h => ?_)) <;> (conv => whnf))
        · refine swr_byte rfl rfl rfl rfl rfl rfl  hget ?_
          (refine sgor_sound [] 1000 ?_; conv => whnf)
          repeat' ((first | with_reducible refine bdec (fun h => ?_) (fun h => ?_) | with_reducible refine bndec (fun h => ?_) (fun h => ?_) | with_reducible refine bwtd (fun h => ?_) (fun h => ?_) | with_reducible refine bwfd (fun h => ?_) (fun h => ?_) | with_reducible refine bwtn (fun h => ?_) (fun h => ?_) | with_reducible refine bwfn (fun h => ?_) (fun h => ?_) | with_reducible refine bwtb (fun h => ?_) (fun h => ?_) | with_reducible refine bwfb (fun h => ?_) (fun h => ?_) | with_reducible refine bwt (fun h => ?_) (fun h => ?_) | with_reducible refine bwf (fun h => ?_) (fun h => ?_) | with_reducible refine bnt (fun h => ?_) (fun h => ?_) | with_reducible refine bcase (fun h => ?_) (fun h => ?_)) <;> (conv => whnf))
          · exact kB hK (bad (by simp [upper]; omega))
          · rw [hw]
            refine sw_keep [0, 8, 9] (ih (done ++ [b], rest) ⟨by simp [ha], ?_⟩ (by simp))
            simp [hv, upper]; omega
        · exact kB hK (bad (by simp [upper]; omega))
    · cases rest with
      | nil => exact kB hK (by simp [curOK, hs, ha]; simpa using hv)
      | cons b rest => simp at hlen; omega
end Go.Proofs.YthmkdghoaifkbaaGreatDoor

/- Contracts, part b: units, names. -/
namespace Go.Proofs.YthmkdghoaifkbaaGreatDoor
open Go Go.Sh
set_option maxRecDepth 10000
variable (G : List (Nat × D))

theorem isUnit_spec (s : ByteArray) : SPure Tryz.prog G 72 [sS s] (sB (unitOK s)) := by
  refine spure_enter Tryz.func72 rfl (by rw [Tryz.ntmps72]; simp) rfl rfl ?_; intro E hH hK
  (refine sgo_sound [] 1000 ?_; conv => whnf)
  repeat' ((first | with_reducible refine bdec (fun h => ?_) (fun h => ?_) | with_reducible refine bndec (fun h => ?_) (fun h => ?_) | with_reducible refine bwtd (fun h => ?_) (fun h => ?_) | with_reducible refine bwfd (fun h => ?_) (fun h => ?_) | with_reducible refine bwtn (fun h => ?_) (fun h => ?_) | with_reducible refine bwfn (fun h => ?_) (fun h => ?_) | with_reducible refine bwtb (fun h => ?_) (fun h => ?_) | with_reducible refine bwfb (fun h => ?_) (fun h => ?_) | with_reducible refine bwt (fun h => ?_) (fun h => ?_) | with_reducible refine bwf (fun h => ?_) (fun h => ?_) | with_reducible refine bnt (fun h => ?_) (fun h => ?_) | with_reducible refine bcase (fun h => ?_) (fun h => ?_)) <;> (conv => whnf))
  · refine swr_pure rfl rfl rfl rfl rfl rfl  (isCur_spec G s) ?_
    (refine sgor_sound [] 1000 ?_; conv => whnf)
    exact kB hK (by simp [unitOK, *])
  all_goals exact kB hK (by simp [unitOK, *])

def lowerB (b : UInt8) : Bool := decide (97 ≤ b.toNat) && decide (b.toNat ≤ 122)
def digitB (b : UInt8) : Bool := decide (48 ≤ b.toNat) && decide (b.toNat ≤ 57)
def wordB (b : UInt8) : Bool := lowerB b || digitB b || decide (b.toNat = 95)
def headLower : List UInt8 → Bool
  | [] => false
  | b :: _ => lowerB b
def nameOK (s : ByteArray) : Bool := decide (s.size ≤ 16) && headLower s.data.toList && s.data.toList.all wordB

theorem bytes_len (s : ByteArray) : s.data.toList.length = s.size := by simp
theorem bytes_empty {s : ByteArray} (h : s.data.toList = []) : s = ⟨#[]⟩ := ByteArray.ext (Array.ext' h)

theorem factsName_spec (s : ByteArray) : SPure Tryz.prog G 56 [sS s] (sB (nameOK s)) := by
  refine spure_enter Tryz.func56 rfl (by rw [Tryz.ntmps56]; simp) rfl rfl ?_; intro E hH hK
  have hl := bytes_len s
  (refine sgo_sound [] 1000 ?_; conv => whnf)
  repeat' ((first | with_reducible refine bdec (fun h => ?_) (fun h => ?_) | with_reducible refine bndec (fun h => ?_) (fun h => ?_) | with_reducible refine bwtd (fun h => ?_) (fun h => ?_) | with_reducible refine bwfd (fun h => ?_) (fun h => ?_) | with_reducible refine bwtn (fun h => ?_) (fun h => ?_) | with_reducible refine bwfn (fun h => ?_) (fun h => ?_) | with_reducible refine bwtb (fun h => ?_) (fun h => ?_) | with_reducible refine bwfb (fun h => ?_) (fun h => ?_) | with_reducible refine bwt (fun h => ?_) (fun h => ?_) | with_reducible refine bwf (fun h => ?_) (fun h => ?_) | with_reducible refine bnt (fun h => ?_) (fun h => ?_) | with_reducible refine bcase (fun h => ?_) (fun h => ?_)) <;> (conv => whnf))
  · cases hs : s.data.toList with
    | nil => exact absurd (bytes_empty hs) ‹_›
    | cons b0 r0 =>
      have h0 : s.data.toList[0]? = some b0 := by rw [hs]; rfl
      have bad : lowerB b0 = false → nameOK s = false := fun h => by simp [nameOK, hs, headLower, h]
      refine swr_byte rfl rfl rfl rfl rfl rfl  h0 ?_
      (refine sgor_sound [] 1000 ?_; conv => whnf)
      repeat' ((first | with_reducible refine bdec (fun h => ?_) (fun h => ?_) | with_reducible refine bndec (fun h => ?_) (fun h => ?_) | with_reducible refine bwtd (fun h => ?_) (fun h => ?_) | with_reducible refine bwfd (fun h => ?_) (fun h => ?_) | with_reducible refine bwtn (fun h => ?_) (fun h => ?_) | with_reducible refine bwfn (fun h => ?_) (fun h => ?_) | with_reducible refine bwtb (fun h => ?_) (fun h => ?_) | with_reducible refine bwfb (fun h => ?_) (fun h => ?_) | with_reducible refine bwt (fun h => ?_) (fun h => ?_) | with_reducible refine bwf (fun h => ?_) (fun h => ?_) | with_reducible refine bnt (fun h => ?_) (fun h => ?_) | with_reducible refine bcase (fun h => ?_) (fun h => ?_)) <;> (conv => whnf))
      · refine swr_byte rfl rfl rfl rfl rfl rfl  h0 ?_
        (refine sgor_sound [] 1000 ?_; conv => whnf)
        repeat' ((first | with_reducible refine bdec (fun h => ?_) (fun h => ?_) | with_reducible refine bndec (fun h => ?_) (fun h => ?_) | with_reducible refine bwtd (fun h => ?_) (fun h => ?_) | with_reducible refine bwfd (fun h => ?_) (fun h => ?_) | with_reducible refine bwtn (fun h => ?_) (fun h => ?_) | with_reducible refine bwfn (fun h => ?_) (fun h => ?_) | with_reducible refine bwtb (fun h => ?_) (fun h => ?_) | with_reducible refine bwfb (fun h => ?_) (fun h => ?_) | with_reducible refine bwt (fun h => ?_) (fun h => ?_) | with_reducible refine bwf (fun h => ?_) (fun h => ?_) | with_reducible refine bnt (fun h => ?_) (fun h => ?_) | with_reducible refine bcase (fun h => ?_) (fun h => ?_)) <;> (conv => whnf))
        · exact kB hK (bad (by simp [lowerB]; omega))
        · have hhead : headLower s.data.toList = true := by rw [hs]; simp [headLower, lowerB]; omega
          have hsz : s.size ≤ 16 := by omega
          clear hs
          refine sw_keep [0, 23, 24] ?_
          refine sw_loop_ind (σ := List UInt8 × List UInt8) (fun x => [(0, sS s), (23, sI s.size), (24, sI x.1.length)]) (fun _ => [])
            (fun x => s.data.toList = x.1 ++ x.2 ∧ x.1.all wordB = true) (fun x => x.2.length) ?_ ([], s.data.toList) ⟨rfl, rfl⟩
          rintro ⟨done, rest⟩ ⟨ha, hv⟩ ih
          dsimp only at ha hv ih ⊢
          have hlen : done.length + rest.length = s.size := by rw [← hl, ha]; simp
          (refine sgo_sound [] 1000 ?_; conv => whnf)
          repeat' ((first | with_reducible refine bdec (fun h => ?_) (fun h => ?_) | with_reducible refine bndec (fun h => ?_) (fun h => ?_) | with_reducible refine bwtd (fun h => ?_) (fun h => ?_) | with_reducible refine bwfd (fun h => ?_) (fun h => ?_) | with_reducible refine bwtn (fun h => ?_) (fun h => ?_) | with_reducible refine bwfn (fun h => ?_) (fun h => ?_) | with_reducible refine bwtb (fun h => ?_) (fun h => ?_) | with_reducible refine bwfb (fun h => ?_) (fun h => ?_) | with_reducible refine bwt (fun h => ?_) (fun h => ?_) | with_reducible refine bwf (fun h => ?_) (fun h => ?_) | with_reducible refine bnt (fun h => ?_) (fun h => ?_) | with_reducible refine bcase (fun h => ?_) (fun h => ?_)) <;> (conv => whnf))
          · cases rest with
            | nil => simp at hlen; omega
            | cons b rest =>
              have hget : s.data.toList[done.length]? = some b := by rw [ha]; simp
              have hw : IntKind.i64.wrap ((done.length : Int) + 1) = (((done ++ [b]).length : Nat) : Int) := by rw [wrap_succ (by omega)]; simp
              have bad : wordB b = false → nameOK s = false := fun h => by simp [nameOK, ha, h]
              refine swr_byte rfl rfl rfl rfl rfl rfl  hget ?_
              (refine sgor_sound [] 1000 ?_; conv => whnf)
              repeat' ((first | with_reducible refine bdec (fun h => ?_) (fun h => ?_) | with_reducible refine bndec (fun h => ?_) (fun h => ?_) | with_reducible refine bwtd (fun h => ?_) (fun h => ?_) | with_reducible refine bwfd (fun h => ?_) (fun h => ?_) | with_reducible refine bwtn (fun h => ?_) (fun h => ?_) | with_reducible refine bwfn (fun h => ?_) (fun h => ?_) | with_reducible refine bwtb (fun h => ?_) (fun h => ?_) | with_reducible refine bwfb (fun h => ?_) (fun h => ?_) | with_reducible refine bwt (fun h => ?_) (fun h => ?_) | with_reducible refine bwf (fun h => ?_) (fun h => ?_) | with_reducible refine bnt (fun h => ?_) (fun h => ?_) | with_reducible refine bcase (fun h => ?_) (fun h => ?_)) <;> (conv => whnf))
              all_goals first
                | exact kB hK (bad (by simp [wordB, lowerB, digitB]; omega))
                | (rw [hw]
                   refine sw_keep [0, 23, 24] (ih (done ++ [b], rest) ⟨by simp [ha], ?_⟩ (by simp))
                   simp [hv, wordB, lowerB, digitB]; omega)
          · cases rest with
            | nil => exact kB hK (by rw [List.append_nil] at ha; unfold nameOK; rw [hhead, ha, hv]; simp [hsz])
            | cons b rest => simp at hlen; omega
      · exact kB hK (bad (by simp [lowerB]; omega))
  · exact kB hK (by simp [nameOK]; omega)
  · exact kB hK (by rw [h]; rfl)

def keys : List ByteArray := [⟨#[102, 97, 99, 116]⟩, ⟨#[108, 105, 110, 101]⟩, ⟨#[97, 114, 116, 105, 99, 108, 101]⟩, ⟨#[102, 111, 114]⟩, ⟨#[114, 97, 110, 107]⟩, ⟨#[102, 114, 111, 109]⟩, ⟨#[116, 111]⟩, ⟨#[107, 110, 111, 119, 110]⟩, ⟨#[119, 104, 101, 110]⟩, ⟨#[117, 110, 108, 101, 115, 115]⟩, ⟨#[97, 109, 111, 117, 110, 116]⟩, ⟨#[116, 114, 117, 116, 104]⟩, ⟨#[110, 117, 109, 98, 101, 114]⟩, ⟨#[109, 105, 110, 117, 116, 101, 115]⟩, ⟨#[109, 105, 110]⟩, ⟨#[101, 97, 114, 110]⟩, ⟨#[100, 101, 100, 117, 99, 116]⟩, ⟨#[102, 108, 111, 111, 114]⟩, ⟨#[105, 110, 102, 111]⟩, ⟨#[111, 114]⟩, ⟨#[97, 110, 100]⟩, ⟨#[110, 111, 116]⟩, ⟨#[97, 116]⟩, ⟨#[116, 114, 117, 101]⟩, ⟨#[102, 97, 108, 115, 101]⟩, ⟨#[97, 114, 116]⟩, ⟨#[119, 101, 101, 107, 100, 97, 121]⟩, ⟨#[100, 97, 121]⟩, ⟨#[109, 111, 110, 116, 104]⟩, ⟨#[121, 101, 97, 114]⟩, ⟨#[108, 101, 97, 115, 116]⟩, ⟨#[103, 114, 101, 97, 116, 101, 115, 116]⟩, ⟨#[116, 97, 98, 108, 101]⟩]
def keyOK (s : ByteArray) : Bool := keys.any fun k => decide (s = k)

theorem isKey_spec (s : ByteArray) : SPure Tryz.prog G 129 [sS s] (sB (keyOK s)) := by
  refine spure_enter Tryz.func129 rfl (by rw [Tryz.ntmps129]; simp) rfl rfl ?_; intro E hH hK
  (refine sgo_sound [] 1000 ?_; conv => whnf)
  repeat' ((first | with_reducible refine bdec (fun h => ?_) (fun h => ?_) | with_reducible refine bndec (fun h => ?_) (fun h => ?_) | with_reducible refine bwtd (fun h => ?_) (fun h => ?_) | with_reducible refine bwfd (fun h => ?_) (fun h => ?_) | with_reducible refine bwtn (fun h => ?_) (fun h => ?_) | with_reducible refine bwfn (fun h => ?_) (fun h => ?_) | with_reducible refine bwtb (fun h => ?_) (fun h => ?_) | with_reducible refine bwfb (fun h => ?_) (fun h => ?_) | with_reducible refine bwt (fun h => ?_) (fun h => ?_) | with_reducible refine bwf (fun h => ?_) (fun h => ?_) | with_reducible refine bnt (fun h => ?_) (fun h => ?_) | with_reducible refine bcase (fun h => ?_) (fun h => ?_)) <;> (conv => whnf))
  all_goals exact kB hK (by simp [keyOK, keys, *])

def properName (s : ByteArray) : Bool := nameOK s && !keyOK s

theorem goodName_spec (s : ByteArray) : SPure Tryz.prog G 117 [sS s] (sB (properName s)) := by
  refine spure_enter Tryz.func117 rfl (by rw [Tryz.ntmps117]; simp) rfl rfl ?_; intro E hH hK
  have hl := bytes_len s
  (refine sgo_sound [] 1000 ?_; conv => whnf)
  repeat' ((first | with_reducible refine bdec (fun h => ?_) (fun h => ?_) | with_reducible refine bndec (fun h => ?_) (fun h => ?_) | with_reducible refine bwtd (fun h => ?_) (fun h => ?_) | with_reducible refine bwfd (fun h => ?_) (fun h => ?_) | with_reducible refine bwtn (fun h => ?_) (fun h => ?_) | with_reducible refine bwfn (fun h => ?_) (fun h => ?_) | with_reducible refine bwtb (fun h => ?_) (fun h => ?_) | with_reducible refine bwfb (fun h => ?_) (fun h => ?_) | with_reducible refine bwt (fun h => ?_) (fun h => ?_) | with_reducible refine bwf (fun h => ?_) (fun h => ?_) | with_reducible refine bnt (fun h => ?_) (fun h => ?_) | with_reducible refine bcase (fun h => ?_) (fun h => ?_)) <;> (conv => whnf))
  · cases hs : s.data.toList with
    | nil => exact absurd (bytes_empty hs) ‹_›
    | cons b0 r0 =>
      have h0 : s.data.toList[0]? = some b0 := by rw [hs]; rfl
      have bad : lowerB b0 = false → properName s = false := fun h => by simp [properName, nameOK, hs, headLower, h]
      refine swr_byte rfl rfl rfl rfl rfl rfl  h0 ?_
      (refine sgor_sound [] 1000 ?_; conv => whnf)
      repeat' ((first | with_reducible refine bdec (fun h => ?_) (fun h => ?_) | with_reducible refine bndec (fun h => ?_) (fun h => ?_) | with_reducible refine bwtd (fun h => ?_) (fun h => ?_) | with_reducible refine bwfd (fun h => ?_) (fun h => ?_) | with_reducible refine bwtn (fun h => ?_) (fun h => ?_) | with_reducible refine bwfn (fun h => ?_) (fun h => ?_) | with_reducible refine bwtb (fun h => ?_) (fun h => ?_) | with_reducible refine bwfb (fun h => ?_) (fun h => ?_) | with_reducible refine bwt (fun h => ?_) (fun h => ?_) | with_reducible refine bwf (fun h => ?_) (fun h => ?_) | with_reducible refine bnt (fun h => ?_) (fun h => ?_) | with_reducible refine bcase (fun h => ?_) (fun h => ?_)) <;> (conv => whnf))
      · refine swr_byte rfl rfl rfl rfl rfl rfl  h0 ?_
        (refine sgor_sound [] 1000 ?_; conv => whnf)
        repeat' ((first | with_reducible refine bdec (fun h => ?_) (fun h => ?_) | with_reducible refine bndec (fun h => ?_) (fun h => ?_) | with_reducible refine bwtd (fun h => ?_) (fun h => ?_) | with_reducible refine bwfd (fun h => ?_) (fun h => ?_) | with_reducible refine bwtn (fun h => ?_) (fun h => ?_) | with_reducible refine bwfn (fun h => ?_) (fun h => ?_) | with_reducible refine bwtb (fun h => ?_) (fun h => ?_) | with_reducible refine bwfb (fun h => ?_) (fun h => ?_) | with_reducible refine bwt (fun h => ?_) (fun h => ?_) | with_reducible refine bwf (fun h => ?_) (fun h => ?_) | with_reducible refine bnt (fun h => ?_) (fun h => ?_) | with_reducible refine bcase (fun h => ?_) (fun h => ?_)) <;> (conv => whnf))
        · refine swr_pure rfl rfl rfl rfl rfl rfl  (isKey_spec G s) ?_
          (refine sgor_sound [] 1000 ?_; conv => whnf)
          repeat' ((first | with_reducible refine bdec (fun h => ?_) (fun h => ?_) | with_reducible refine bndec (fun h => ?_) (fun h => ?_) | with_reducible refine bwtd (fun h => ?_) (fun h => ?_) | with_reducible refine bwfd (fun h => ?_) (fun h => ?_) | with_reducible refine bwtn (fun h => ?_) (fun h => ?_) | with_reducible refine bwfn (fun h => ?_) (fun h => ?_) | with_reducible refine bwtb (fun h => ?_) (fun h => ?_) | with_reducible refine bwfb (fun h => ?_) (fun h => ?_) | with_reducible refine bwt (fun h => ?_) (fun h => ?_) | with_reducible refine bwf (fun h => ?_) (fun h => ?_) | with_reducible refine bnt (fun h => ?_) (fun h => ?_) | with_reducible refine bcase (fun h => ?_) (fun h => ?_)) <;> (conv => whnf))
          · exact kB hK (by simp [properName, *])
          · have hhead : headLower s.data.toList = true := by rw [hs]; simp [headLower, lowerB]; omega
            have hsz : s.size ≤ 16 := by omega
            have hkey : keyOK s = false := h
            clear hs
            refine sw_keep [0, 27, 28] ?_
            refine sw_loop_ind (σ := List UInt8 × List UInt8) (fun x => [(0, sS s), (27, sI s.size), (28, sI x.1.length)]) (fun _ => [])
              (fun x => s.data.toList = x.1 ++ x.2 ∧ x.1.all wordB = true) (fun x => x.2.length) ?_ ([], s.data.toList) ⟨rfl, rfl⟩
            rintro ⟨done, rest⟩ ⟨ha, hv⟩ ih
            dsimp only at ha hv ih ⊢
            have hlen : done.length + rest.length = s.size := by rw [← hl, ha]; simp
            (refine sgo_sound [] 1000 ?_; conv => whnf)
            repeat' ((first | with_reducible refine bdec (fun h => ?_) (fun h => ?_) | with_reducible refine bndec (fun h => ?_) (fun h => ?_) | with_reducible refine bwtd (fun h => ?_) (fun h => ?_) | with_reducible refine bwfd (fun h => ?_) (fun h => ?_) | with_reducible refine bwtn (fun h => ?_) (fun h => ?_) | with_reducible refine bwfn (fun h => ?_) (fun h => ?_) | with_reducible refine bwtb (fun h => ?_) (fun h => ?_) | with_reducible refine bwfb (fun h => ?_) (fun h => ?_) | with_reducible refine bwt (fun h => ?_) (fun h => ?_) | with_reducible refine bwf (fun h => ?_) (fun h => ?_) | with_reducible refine bnt (fun h => ?_) (fun h => ?_) | with_reducible refine bcase (fun h => ?_) (fun h => ?_)) <;> (conv => whnf))
            · cases rest with
              | nil => simp at hlen; omega
              | cons b rest =>
                have hget : s.data.toList[done.length]? = some b := by rw [ha]; simp
                have hw : IntKind.i64.wrap ((done.length : Int) + 1) = (((done ++ [b]).length : Nat) : Int) := by rw [wrap_succ (by omega)]; simp
                have bad : wordB b = false → properName s = false := fun h => by simp [properName, nameOK, ha, h]
                refine swr_byte rfl rfl rfl rfl rfl rfl  hget ?_
                (refine sgor_sound [] 1000 ?_; conv => whnf)
                repeat' ((first | with_reducible refine bdec (fun h => ?_) (fun h => ?_) | with_reducible refine bndec (fun h => ?_) (fun h => ?_) | with_reducible refine bwtd (fun h => ?_) (fun h => ?_) | with_reducible refine bwfd (fun h => ?_) (fun h => ?_) | with_reducible refine bwtn (fun h => ?_) (fun h => ?_) | with_reducible refine bwfn (fun h => ?_) (fun h => ?_) | with_reducible refine bwtb (fun h => ?_) (fun h => ?_) | with_reducible refine bwfb (fun h => ?_) (fun h => ?_) | with_reducible refine bwt (fun h => ?_) (fun h => ?_) | with_reducible refine bwf (fun h => ?_) (fun h => ?_) | with_reducible refine bnt (fun h => ?_) (fun h => ?_) | with_reducible refine bcase (fun h => ?_) (fun h => ?_)) <;> (conv => whnf))
                all_goals first
                  | exact kB hK (bad (by simp [wordB, lowerB, digitB]; omega))
                  | (rw [hw]
                     refine sw_keep [0, 27, 28] (ih (done ++ [b], rest) ⟨by simp [ha], ?_⟩ (by simp))
                     simp [hv, wordB, lowerB, digitB]; omega)
            · cases rest with
              | nil => exact kB hK (by rw [List.append_nil] at ha; unfold properName nameOK; rw [hhead, ha, hv, hkey]; simp [hsz])
              | cons b rest => simp at hlen; omega
        · exact kB hK (bad (by simp [lowerB]; omega))
      · exact kB hK (bad (by simp [lowerB]; omega))
  · exact kB hK (by simp [properName, nameOK]; omega)
  · exact kB hK (by rw [h]; rfl)

end Go.Proofs.YthmkdghoaifkbaaGreatDoor

/- Contracts, part c: the references' names and units. -/
namespace Go.Proofs.YthmkdghoaifkbaaGreatDoor
open Go Go.Sh
set_option maxRecDepth 10000
variable (G : List (Nat × D))

abbrev sY (b : UInt8) : SV := .imm (.val (.int .u8 (b.toNat : Int)))

theorem lower_spec (b : UInt8) : SPure Tryz.prog G 76 [sY b] (sB (lowerB b)) := by
  refine spure_enter Tryz.func76 rfl (by rw [Tryz.ntmps76]; simp) rfl rfl ?_; intro E hH hK
  (refine sgo_sound [] 1000 ?_; conv => whnf)
  repeat' ((first | with_reducible refine bdec (fun h => ?_) (fun h => ?_) | with_reducible refine bndec (fun h => ?_) (fun h => ?_) | with_reducible refine bwtd (fun h => ?_) (fun h => ?_) | with_reducible refine bwfd (fun h => ?_) (fun h => ?_) | with_reducible refine bwtn (fun h => ?_) (fun h => ?_) | with_reducible refine bwfn (fun h => ?_) (fun h => ?_) | with_reducible refine bwtb (fun h => ?_) (fun h => ?_) | with_reducible refine bwfb (fun h => ?_) (fun h => ?_) | with_reducible refine bwt (fun h => ?_) (fun h => ?_) | with_reducible refine bwf (fun h => ?_) (fun h => ?_) | with_reducible refine bnt (fun h => ?_) (fun h => ?_) | with_reducible refine bcase (fun h => ?_) (fun h => ?_)) <;> (conv => whnf))
  all_goals exact kB hK (by rw [Bool.eq_iff_iff]; simp [lowerB]; omega)

theorem upper_spec (b : UInt8) : SPure Tryz.prog G 100 [sY b] (sB (upper b)) := by
  refine spure_enter Tryz.func100 rfl (by rw [Tryz.ntmps100]; simp) rfl rfl ?_; intro E hH hK
  (refine sgo_sound [] 1000 ?_; conv => whnf)
  repeat' ((first | with_reducible refine bdec (fun h => ?_) (fun h => ?_) | with_reducible refine bndec (fun h => ?_) (fun h => ?_) | with_reducible refine bwtd (fun h => ?_) (fun h => ?_) | with_reducible refine bwfd (fun h => ?_) (fun h => ?_) | with_reducible refine bwtn (fun h => ?_) (fun h => ?_) | with_reducible refine bwfn (fun h => ?_) (fun h => ?_) | with_reducible refine bwtb (fun h => ?_) (fun h => ?_) | with_reducible refine bwfb (fun h => ?_) (fun h => ?_) | with_reducible refine bwt (fun h => ?_) (fun h => ?_) | with_reducible refine bwf (fun h => ?_) (fun h => ?_) | with_reducible refine bnt (fun h => ?_) (fun h => ?_) | with_reducible refine bcase (fun h => ?_) (fun h => ?_)) <;> (conv => whnf))
  all_goals exact kB hK (by rw [Bool.eq_iff_iff]; simp [upper]; omega)

theorem digit_spec (b : UInt8) : SPure Tryz.prog G 79 [sY b] (sB (digitB b)) := by
  refine spure_enter Tryz.func79 rfl (by rw [Tryz.ntmps79]; simp) rfl rfl ?_; intro E hH hK
  (refine sgo_sound [] 1000 ?_; conv => whnf)
  repeat' ((first | with_reducible refine bdec (fun h => ?_) (fun h => ?_) | with_reducible refine bndec (fun h => ?_) (fun h => ?_) | with_reducible refine bwtd (fun h => ?_) (fun h => ?_) | with_reducible refine bwfd (fun h => ?_) (fun h => ?_) | with_reducible refine bwtn (fun h => ?_) (fun h => ?_) | with_reducible refine bwfn (fun h => ?_) (fun h => ?_) | with_reducible refine bwtb (fun h => ?_) (fun h => ?_) | with_reducible refine bwfb (fun h => ?_) (fun h => ?_) | with_reducible refine bwt (fun h => ?_) (fun h => ?_) | with_reducible refine bwf (fun h => ?_) (fun h => ?_) | with_reducible refine bnt (fun h => ?_) (fun h => ?_) | with_reducible refine bcase (fun h => ?_) (fun h => ?_)) <;> (conv => whnf))
  all_goals exact kB hK (by rw [Bool.eq_iff_iff]; simp [digitB]; omega)

theorem curOK_three {s : ByteArray} {a b c : UInt8} (h : s.data.toList = [a, b, c]) : curOK s = (upper a && (upper b && upper c)) := by
  have hs : s.size = 3 := by rw [← bytes_len, h]; rfl
  unfold curOK
  rw [h, hs]
  simp

theorem cur_spec (s : ByteArray) : SPure Tryz.prog G 80 [sS s] (sB (curOK s)) := by
  refine spure_enter Tryz.func80 rfl (by rw [Tryz.ntmps80]; simp) rfl rfl ?_; intro E hH hK
  have hl := bytes_len s
  (refine sgo_sound [] 1000 ?_; conv => whnf)
  repeat' ((first | with_reducible refine bdec (fun h => ?_) (fun h => ?_) | with_reducible refine bndec (fun h => ?_) (fun h => ?_) | with_reducible refine bwtd (fun h => ?_) (fun h => ?_) | with_reducible refine bwfd (fun h => ?_) (fun h => ?_) | with_reducible refine bwtn (fun h => ?_) (fun h => ?_) | with_reducible refine bwfn (fun h => ?_) (fun h => ?_) | with_reducible refine bwtb (fun h => ?_) (fun h => ?_) | with_reducible refine bwfb (fun h => ?_) (fun h => ?_) | with_reducible refine bwt (fun h => ?_) (fun h => ?_) | with_reducible refine bwf (fun h => ?_) (fun h => ?_) | with_reducible refine bnt (fun h => ?_) (fun h => ?_) | with_reducible refine bcase (fun h => ?_) (fun h => ?_)) <;> (conv => whnf))
  · have hs : s.data.toList.length = 3 := by omega
    match hm : s.data.toList, hs with
    | [a, b, c], _ =>
      have e := curOK_three hm
      refine swr_byte rfl rfl rfl rfl rfl rfl  (b := a) (i := 0) (by rw [hm]; rfl) ?_
      (refine sgor_sound [] 1000 ?_; conv => whnf)
      refine swr_pure rfl rfl rfl rfl rfl rfl  (upper_spec G a) ?_
      (refine sgor_sound [] 1000 ?_; conv => whnf)
      repeat' ((first | with_reducible refine bdec (fun h => ?_) (fun h => ?_) | with_reducible refine bndec (fun h => ?_) (fun h => ?_) | with_reducible refine bwtd (fun h => ?_) (fun h => ?_) | with_reducible refine bwfd (fun h => ?_) (fun h => ?_) | with_reducible refine bwtn (fun h => ?_) (fun h => ?_) | with_reducible refine bwfn (fun h => ?_) (fun h => ?_) | with_reducible refine bwtb (fun h => ?_) (fun h => ?_) | with_reducible refine bwfb (fun h => ?_) (fun h => ?_) | with_reducible refine bwt (fun h => ?_) (fun h => ?_) | with_reducible refine bwf (fun h => ?_) (fun h => ?_) | with_reducible refine bnt (fun h => ?_) (fun h => ?_) | with_reducible refine bcase (fun h => ?_) (fun h => ?_)) <;> (conv => whnf))
      · refine swr_byte rfl rfl rfl rfl rfl rfl  (b := b) (i := 1) (by rw [hm]; rfl) ?_
        (refine sgor_sound [] 1000 ?_; conv => whnf)
        refine swr_pure rfl rfl rfl rfl rfl rfl  (upper_spec G b) ?_
        (refine sgor_sound [] 1000 ?_; conv => whnf)
        repeat' ((first | with_reducible refine bdec (fun h => ?_) (fun h => ?_) | with_reducible refine bndec (fun h => ?_) (fun h => ?_) | with_reducible refine bwtd (fun h => ?_) (fun h => ?_) | with_reducible refine bwfd (fun h => ?_) (fun h => ?_) | with_reducible refine bwtn (fun h => ?_) (fun h => ?_) | with_reducible refine bwfn (fun h => ?_) (fun h => ?_) | with_reducible refine bwtb (fun h => ?_) (fun h => ?_) | with_reducible refine bwfb (fun h => ?_) (fun h => ?_) | with_reducible refine bwt (fun h => ?_) (fun h => ?_) | with_reducible refine bwf (fun h => ?_) (fun h => ?_) | with_reducible refine bnt (fun h => ?_) (fun h => ?_) | with_reducible refine bcase (fun h => ?_) (fun h => ?_)) <;> (conv => whnf))
        · refine swr_byte rfl rfl rfl rfl rfl rfl  (b := c) (i := 2) (by rw [hm]; rfl) ?_
          (refine sgor_sound [] 1000 ?_; conv => whnf)
          refine swr_pure rfl rfl rfl rfl rfl rfl  (upper_spec G c) ?_
          (refine sgor_sound [] 1000 ?_; conv => whnf)
          exact kB hK (by rw [e]; simp only [*, Bool.true_and])
        · exact kB hK (by rw [e]; simp only [*, Bool.false_and, Bool.and_false])
      · exact kB hK (by rw [e]; simp only [*, Bool.false_and])
  · exact kB hK (by simp [curOK]; omega)

theorem unit_spec (s : ByteArray) : SPure Tryz.prog G 62 [sS s] (sB (unitOK s)) := by
  refine spure_enter Tryz.func62 rfl (by rw [Tryz.ntmps62]; simp) rfl rfl ?_; intro E hH hK
  (refine sgo_sound [] 1000 ?_; conv => whnf)
  repeat' ((first | with_reducible refine bdec (fun h => ?_) (fun h => ?_) | with_reducible refine bndec (fun h => ?_) (fun h => ?_) | with_reducible refine bwtd (fun h => ?_) (fun h => ?_) | with_reducible refine bwfd (fun h => ?_) (fun h => ?_) | with_reducible refine bwtn (fun h => ?_) (fun h => ?_) | with_reducible refine bwfn (fun h => ?_) (fun h => ?_) | with_reducible refine bwtb (fun h => ?_) (fun h => ?_) | with_reducible refine bwfb (fun h => ?_) (fun h => ?_) | with_reducible refine bwt (fun h => ?_) (fun h => ?_) | with_reducible refine bwf (fun h => ?_) (fun h => ?_) | with_reducible refine bnt (fun h => ?_) (fun h => ?_) | with_reducible refine bcase (fun h => ?_) (fun h => ?_)) <;> (conv => whnf))
  · refine swr_pure rfl rfl rfl rfl rfl rfl  (cur_spec G s) ?_
    (refine sgor_sound [] 1000 ?_; conv => whnf)
    exact kB hK (by simp [unitOK, *])
  all_goals exact kB hK (by simp [unitOK, *])

theorem keys_spec : SPure Tryz.prog G 78 [] (.imm (.isl 1 (keys.map fun k => [dS k]))) := by
  refine spure_enter Tryz.func78 rfl (by rw [Tryz.ntmps78]; simp) rfl rfl ?_; intro E hH hK
  (refine sgo_sound [] 1000 ?_; conv => whnf)
  exact kR hK (by kernel_rfl)

theorem in_spec (l : List ByteArray) (s : ByteArray) (hl : l.length ≤ 1073741824) : SPure Tryz.prog G 77 [.imm (.isl 1 (l.map fun k => [dS k])), sS s] (sB (l.any fun k => decide (s = k))) := by
  refine spure_enter Tryz.func77 rfl (by rw [Tryz.ntmps77]; simp) rfl rfl ?_; intro E hH hK
  (refine sgo_sound [] 1000 ?_; conv => whnf)
  refine sw_keep [0, 1, 5] ?_
  refine sw_loop_ind (σ := List ByteArray × List ByteArray) (fun x => [(0, .imm (.isl 1 (l.map fun k => [dS k]))), (1, sS s), (5, sI x.1.length)]) (fun _ => [])
    (fun x => l = x.1 ++ x.2 ∧ (x.1.any fun k => decide (s = k)) = false) (fun x => x.2.length) ?_ ([], l) ⟨rfl, rfl⟩
  rintro ⟨done, rest⟩ ⟨ha, hv⟩ ih
  dsimp only at ha hv ih ⊢
  (refine sgo_sound [] 1000 ?_; conv => whnf)
  repeat' ((first | with_reducible refine bdec (fun h => ?_) (fun h => ?_) | with_reducible refine bndec (fun h => ?_) (fun h => ?_) | with_reducible refine bwtd (fun h => ?_) (fun h => ?_) | with_reducible refine bwfd (fun h => ?_) (fun h => ?_) | with_reducible refine bwtn (fun h => ?_) (fun h => ?_) | with_reducible refine bwfn (fun h => ?_) (fun h => ?_) | with_reducible refine bwtb (fun h => ?_) (fun h => ?_) | with_reducible refine bwfb (fun h => ?_) (fun h => ?_) | with_reducible refine bwt (fun h => ?_) (fun h => ?_) | with_reducible refine bwf (fun h => ?_) (fun h => ?_) | with_reducible refine bnt (fun h => ?_) (fun h => ?_) | with_reducible refine bcase (fun h => ?_) (fun h => ?_)) <;> (conv => whnf))
  · cases rest with
    | nil => simp [ha] at h
    | cons b rest =>
      have hw : IntKind.i64.wrap ((done.length : Int) + 1) = (((done ++ [b]).length : Nat) : Int) := by rw [wrap_succ (by simp [ha] at hl; omega)]; simp
      refine swr_index rfl rfl rfl rfl rfl rfl rfl rfl  (row := [dS b]) (by simp [ha]) ?_
      (refine sgor_sound [] 1000 ?_; conv => whnf)
      repeat' ((first | with_reducible refine bdec (fun h => ?_) (fun h => ?_) | with_reducible refine bndec (fun h => ?_) (fun h => ?_) | with_reducible refine bwtd (fun h => ?_) (fun h => ?_) | with_reducible refine bwfd (fun h => ?_) (fun h => ?_) | with_reducible refine bwtn (fun h => ?_) (fun h => ?_) | with_reducible refine bwfn (fun h => ?_) (fun h => ?_) | with_reducible refine bwtb (fun h => ?_) (fun h => ?_) | with_reducible refine bwfb (fun h => ?_) (fun h => ?_) | with_reducible refine bwt (fun h => ?_) (fun h => ?_) | with_reducible refine bwf (fun h => ?_) (fun h => ?_) | with_reducible refine bnt (fun h => ?_) (fun h => ?_) | with_reducible refine bcase (fun h => ?_) (fun h => ?_)) <;> (conv => whnf))
      · exact kB hK (by rw [ha]; simp [h])
      · rw [hw]
        refine sw_keep [0, 1, 5] (ih (done ++ [b], rest) ⟨by simp [ha], ?_⟩ (by simp))
        simp [hv]; exact fun e => by simp_all
  · cases rest with
    | nil => exact kB hK (by rw [ha, List.append_nil]; exact hv)
    | cons b rest => exfalso; simp [ha] at h; omega

theorem refDay_spec (n : Int) : SPure Tryz.prog G 67 [sI n] (sB (dayOK n)) := by
  refine spure_enter Tryz.func67 rfl (by rw [Tryz.ntmps67]; simp) rfl rfl ?_; intro E hH hK
  (refine sgo_sound [] 1000 ?_; conv => whnf)
  repeat' ((first | with_reducible refine bdec (fun h => ?_) (fun h => ?_) | with_reducible refine bndec (fun h => ?_) (fun h => ?_) | with_reducible refine bwtd (fun h => ?_) (fun h => ?_) | with_reducible refine bwfd (fun h => ?_) (fun h => ?_) | with_reducible refine bwtn (fun h => ?_) (fun h => ?_) | with_reducible refine bwfn (fun h => ?_) (fun h => ?_) | with_reducible refine bwtb (fun h => ?_) (fun h => ?_) | with_reducible refine bwfb (fun h => ?_) (fun h => ?_) | with_reducible refine bwt (fun h => ?_) (fun h => ?_) | with_reducible refine bwf (fun h => ?_) (fun h => ?_) | with_reducible refine bnt (fun h => ?_) (fun h => ?_) | with_reducible refine bcase (fun h => ?_) (fun h => ?_)) <;> (conv => whnf))
  all_goals exact kB hK (by simp [dayOK]; try omega)

theorem ref13day_spec (n : Int) : SPure Tryz.prog G 32 [sI n] (sB (dayOK n)) := by
  refine spure_enter Tryz.func32 rfl (by rw [Tryz.ntmps32]; simp) rfl rfl ?_; intro E hH hK
  (refine sgo_sound [] 1000 ?_; conv => whnf)
  repeat' ((first | with_reducible refine bdec (fun h => ?_) (fun h => ?_) | with_reducible refine bndec (fun h => ?_) (fun h => ?_) | with_reducible refine bwtd (fun h => ?_) (fun h => ?_) | with_reducible refine bwfd (fun h => ?_) (fun h => ?_) | with_reducible refine bwtn (fun h => ?_) (fun h => ?_) | with_reducible refine bwfn (fun h => ?_) (fun h => ?_) | with_reducible refine bwtb (fun h => ?_) (fun h => ?_) | with_reducible refine bwfb (fun h => ?_) (fun h => ?_) | with_reducible refine bwt (fun h => ?_) (fun h => ?_) | with_reducible refine bwf (fun h => ?_) (fun h => ?_) | with_reducible refine bnt (fun h => ?_) (fun h => ?_) | with_reducible refine bcase (fun h => ?_) (fun h => ?_)) <;> (conv => whnf))
  all_goals exact kB hK (by simp [dayOK]; try omega)


end Go.Proofs.YthmkdghoaifkbaaGreatDoor

/- Contracts, part d: piecewise linear functions, facts. -/
namespace Go.Proofs.YthmkdghoaifkbaaGreatDoor
open Go Go.Sh
set_option maxRecDepth 10000
variable (G : List (Nat × D))

def pieceOK (prev : Option Int) (p : Piece) : Bool :=
  (match prev with
   | none => decide (p.lo = 0)
   | some q => decide (q < p.lo) && decide (p.lo ≤ 1000000000000)) &&
  decide (-1000000 ≤ p.slope) && decide (p.slope ≤ 1000000) && decide (-1000000000000000000 ≤ p.at_) && decide (p.at_ ≤ 1000000000000000000)
def piecesOK : Option Int → List Piece → Bool
  | _, [] => true
  | prev, p :: r => pieceOK prev p && piecesOK (some p.lo) r
def tableOK (den : Int) (ps : List Piece) : Bool := decide (1 ≤ den) && decide (den ≤ 1000000) && decide (1 ≤ ps.length) && decide (ps.length ≤ 64) && piecesOK none ps
def lastLo (l : List Piece) : Option Int := l.getLast?.map (·.lo)

theorem split_last {α : Type} (l : List α) : l = [] ∨ ∃ i x, l = i ++ [x] := by
  rcases List.eq_nil_or_concat l with h | ⟨i, x, h⟩
  · exact .inl h
  · exact .inr ⟨i, x, by simpa using h⟩

theorem lastLo_snoc (l : List Piece) (p : Piece) : lastLo (l ++ [p]) = some p.lo := by simp [lastLo]

theorem pieceValid_spec (den : Int) (ps : List Piece) : SPure Tryz.prog G 107 [.agg [sI den, .imm (.isl 3 (ps.map Piece.cells))]] (sB (tableOK den ps)) := by
  refine spure_enter Tryz.func107 rfl (by rw [Tryz.ntmps107]; simp) rfl rfl ?_; intro E hH hK
  have hlen : (ps.map Piece.cells).length = ps.length := by simp
  (refine sgo_sound [] 1000 ?_; conv => whnf)
  repeat' ((first | with_reducible refine bdec (fun h => ?_) (fun h => ?_) | with_reducible refine bndec (fun h => ?_) (fun h => ?_) | with_reducible refine bwtd (fun h => ?_) (fun h => ?_) | with_reducible refine bwfd (fun h => ?_) (fun h => ?_) | with_reducible refine bwtn (fun h => ?_) (fun h => ?_) | with_reducible refine bwfn (fun h => ?_) (fun h => ?_) | with_reducible refine bwtb (fun h => ?_) (fun h => ?_) | with_reducible refine bwfb (fun h => ?_) (fun h => ?_) | with_reducible refine bwt (fun h => ?_) (fun h => ?_) | with_reducible refine bwf (fun h => ?_) (fun h => ?_) | with_reducible refine bnt (fun h => ?_) (fun h => ?_) | with_reducible refine bcase (fun h => ?_) (fun h => ?_)) <;> (conv => whnf))
  any_goals exact kB hK (by simp [tableOK]; intros; omega)
  · have hok : tableOK den ps = piecesOK none ps := by
      unfold tableOK
      rw [show decide (1 ≤ den) = true by simp; omega, show decide (den ≤ 1000000) = true by simp; omega, show decide (1 ≤ ps.length) = true by simp; omega, show decide (ps.length ≤ 64) = true by simp; omega]
      simp
    refine sw_keep [1, 26, 27, 28] ?_
    refine sw_loop_ind (σ := List Piece × List Piece) (fun x => [(1, .ptr 0 0), (26, .imm (.isl 3 (ps.map Piece.cells))), (27, sI (ps.map Piece.cells).length), (28, sI x.1.length)])
      (fun _ => [.cells [sI den, .imm (.isl 3 (ps.map Piece.cells))]])
      (fun x => ps = x.1 ++ x.2 ∧ piecesOK none ps = piecesOK (lastLo x.1) x.2) (fun x => x.2.length) ?_ ([], ps) ⟨rfl, rfl⟩
    rintro ⟨done, rest⟩ ⟨ha, hv⟩ ih
    dsimp only at ha hv ih ⊢
    have hl2 : done.length + rest.length = ps.length := by rw [ha]; simp
    (refine sgo_sound [] 1000 ?_; conv => whnf)
    repeat' ((first | with_reducible refine bdec (fun h => ?_) (fun h => ?_) | with_reducible refine bndec (fun h => ?_) (fun h => ?_) | with_reducible refine bwtd (fun h => ?_) (fun h => ?_) | with_reducible refine bwfd (fun h => ?_) (fun h => ?_) | with_reducible refine bwtn (fun h => ?_) (fun h => ?_) | with_reducible refine bwfn (fun h => ?_) (fun h => ?_) | with_reducible refine bwtb (fun h => ?_) (fun h => ?_) | with_reducible refine bwfb (fun h => ?_) (fun h => ?_) | with_reducible refine bwt (fun h => ?_) (fun h => ?_) | with_reducible refine bwf (fun h => ?_) (fun h => ?_) | with_reducible refine bnt (fun h => ?_) (fun h => ?_) | with_reducible refine bcase (fun h => ?_) (fun h => ?_)) <;> (conv => whnf))
    · cases rest with
      | nil => simp at hl2; omega
      | cons p rest =>
        have hw : IntKind.i64.wrap ((done.length : Int) + 1) = (((done ++ [p]).length : Nat) : Int) := by rw [wrap_succ (by omega)]; simp
        have bad : pieceOK (lastLo done) p = false → tableOK den ps = false := fun h => by rw [hok, hv, piecesOK, h]; rfl
        have good : pieceOK (lastLo done) p = true → piecesOK none ps = piecesOK (lastLo (done ++ [p])) rest := fun h => by rw [hv, piecesOK, h, lastLo_snoc]; rfl
        rcases split_last done with rfl | ⟨init, q, rfl⟩
        · refine swr_index rfl rfl rfl rfl rfl rfl rfl rfl  (row := p.cells) (by simp [ha]) ?_
          (refine sgor_sound [] 1000 ?_; conv => whnf)
          repeat' ((first | with_reducible refine bdec (fun h => ?_) (fun h => ?_) | with_reducible refine bndec (fun h => ?_) (fun h => ?_) | with_reducible refine bwtd (fun h => ?_) (fun h => ?_) | with_reducible refine bwfd (fun h => ?_) (fun h => ?_) | with_reducible refine bwtn (fun h => ?_) (fun h => ?_) | with_reducible refine bwfn (fun h => ?_) (fun h => ?_) | with_reducible refine bwtb (fun h => ?_) (fun h => ?_) | with_reducible refine bwfb (fun h => ?_) (fun h => ?_) | with_reducible refine bwt (fun h => ?_) (fun h => ?_) | with_reducible refine bwf (fun h => ?_) (fun h => ?_) | with_reducible refine bnt (fun h => ?_) (fun h => ?_) | with_reducible refine bcase (fun h => ?_) (fun h => ?_)) <;> (conv => whnf))
          any_goals exact kB hK (bad (by simp [lastLo, pieceOK]; intros; omega))
          (refine swd_start mixed rfl ?_; refine sgod_sound [] ?_; conv => whnf)
          (refine sgo_sound [] 1000 ?_; conv => whnf)
          repeat' ((first | with_reducible refine bdec (fun h => ?_) (fun h => ?_) | with_reducible refine bndec (fun h => ?_) (fun h => ?_) | with_reducible refine bwtd (fun h => ?_) (fun h => ?_) | with_reducible refine bwfd (fun h => ?_) (fun h => ?_) | with_reducible refine bwtn (fun h => ?_) (fun h => ?_) | with_reducible refine bwfn (fun h => ?_) (fun h => ?_) | with_reducible refine bwtb (fun h => ?_) (fun h => ?_) | with_reducible refine bwfb (fun h => ?_) (fun h => ?_) | with_reducible refine bwt (fun h => ?_) (fun h => ?_) | with_reducible refine bwf (fun h => ?_) (fun h => ?_) | with_reducible refine bnt (fun h => ?_) (fun h => ?_) | with_reducible refine bcase (fun h => ?_) (fun h => ?_)) <;> (conv => whnf))
          any_goals exact kB hK (bad (by simp [lastLo, pieceOK]; intros; omega))
          rw [hw]
          exact sw_kc [1, 26, 27, 28] 1 (by simp [hH]) (by simp) rfl rfl (ih ([] ++ [p], rest) ⟨by simp [ha], good (by simp [lastLo, pieceOK]; omega)⟩ (by simp))
        · have hil : (init ++ [q]).length = init.length + 1 := by simp
          have hm : IntKind.i64.wrap (((init ++ [q]).length : Int) - 1) = ((init.length : Nat) : Int) := by rw [wrap64 (by omega) (by omega)]; omega
          refine swr_index rfl rfl rfl rfl rfl rfl rfl rfl  (row := p.cells) (by simp [ha]) ?_
          (refine sgor_sound [] 1000 ?_; conv => whnf)
          repeat' ((first | with_reducible refine bdec (fun h => ?_) (fun h => ?_) | with_reducible refine bndec (fun h => ?_) (fun h => ?_) | with_reducible refine bwtd (fun h => ?_) (fun h => ?_) | with_reducible refine bwfd (fun h => ?_) (fun h => ?_) | with_reducible refine bwtn (fun h => ?_) (fun h => ?_) | with_reducible refine bwfn (fun h => ?_) (fun h => ?_) | with_reducible refine bwtb (fun h => ?_) (fun h => ?_) | with_reducible refine bwfb (fun h => ?_) (fun h => ?_) | with_reducible refine bwt (fun h => ?_) (fun h => ?_) | with_reducible refine bwf (fun h => ?_) (fun h => ?_) | with_reducible refine bnt (fun h => ?_) (fun h => ?_) | with_reducible refine bcase (fun h => ?_) (fun h => ?_)) <;> (conv => whnf))
          any_goals (exfalso; omega)
          (refine swd_start mixed rfl ?_; refine sgod_sound [] ?_; conv => whnf)
          repeat' ((first | with_reducible refine bdec (fun h => ?_) (fun h => ?_) | with_reducible refine bndec (fun h => ?_) (fun h => ?_) | with_reducible refine bwtd (fun h => ?_) (fun h => ?_) | with_reducible refine bwfd (fun h => ?_) (fun h => ?_) | with_reducible refine bwtn (fun h => ?_) (fun h => ?_) | with_reducible refine bwfn (fun h => ?_) (fun h => ?_) | with_reducible refine bwtb (fun h => ?_) (fun h => ?_) | with_reducible refine bwfb (fun h => ?_) (fun h => ?_) | with_reducible refine bwt (fun h => ?_) (fun h => ?_) | with_reducible refine bwf (fun h => ?_) (fun h => ?_) | with_reducible refine bnt (fun h => ?_) (fun h => ?_) | with_reducible refine bcase (fun h => ?_) (fun h => ?_)) <;> (conv => whnf))
          any_goals (exfalso; omega)
          refine swd_index rfl rfl rfl rfl rfl rfl rfl  hm (row := q.cells) (by simp [ha]) ?_
          (refine sgod_sound [] ?_; conv => whnf)
          repeat' ((first | with_reducible refine bdec (fun h => ?_) (fun h => ?_) | with_reducible refine bndec (fun h => ?_) (fun h => ?_) | with_reducible refine bwtd (fun h => ?_) (fun h => ?_) | with_reducible refine bwfd (fun h => ?_) (fun h => ?_) | with_reducible refine bwtn (fun h => ?_) (fun h => ?_) | with_reducible refine bwfn (fun h => ?_) (fun h => ?_) | with_reducible refine bwtb (fun h => ?_) (fun h => ?_) | with_reducible refine bwfb (fun h => ?_) (fun h => ?_) | with_reducible refine bwt (fun h => ?_) (fun h => ?_) | with_reducible refine bwf (fun h => ?_) (fun h => ?_) | with_reducible refine bnt (fun h => ?_) (fun h => ?_) | with_reducible refine bcase (fun h => ?_) (fun h => ?_)) <;> (conv => whnf))
          all_goals (refine sgo_sound [] 1000 ?_; conv => whnf)
          all_goals repeat' ((first | with_reducible refine bdec (fun h => ?_) (fun h => ?_) | with_reducible refine bndec (fun h => ?_) (fun h => ?_) | with_reducible refine bwtd (fun h => ?_) (fun h => ?_) | with_reducible refine bwfd (fun h => ?_) (fun h => ?_) | with_reducible refine bwtn (fun h => ?_) (fun h => ?_) | with_reducible refine bwfn (fun h => ?_) (fun h => ?_) | with_reducible refine bwtb (fun h => ?_) (fun h => ?_) | with_reducible refine bwfb (fun h => ?_) (fun h => ?_) | with_reducible refine bwt (fun h => ?_) (fun h => ?_) | with_reducible refine bwf (fun h => ?_) (fun h => ?_) | with_reducible refine bnt (fun h => ?_) (fun h => ?_) | with_reducible refine bcase (fun h => ?_) (fun h => ?_)) <;> (conv => whnf))
          any_goals exact kB hK (bad (by simp [lastLo, pieceOK]; intros; omega))
          rw [hw]
          exact sw_kc [1, 26, 27, 28] 1 (by simp [hH]) (by simp) rfl rfl (ih (init ++ [q] ++ [p], rest) ⟨by simp [ha], good (by simp [lastLo, pieceOK]; omega)⟩ (by simp))
    · cases rest with
      | nil => exact kB hK (by rw [hok, hv]; rfl)
      | cons p rest => simp at hl2; omega

theorem within_spec (n limit : Int) (h0 : 0 ≤ limit) (h1 : limit ≤ 1000000000000000000) : SPure Tryz.prog G 101 [sI n, sI limit] (sB (decide (-limit ≤ n ∧ n ≤ limit))) := by
  have hneg : IntKind.i64.wrap (0 - limit) = -limit := by rw [wrap64 (by omega) (by omega)]; omega
  refine spure_enter Tryz.func101 rfl (by rw [Tryz.ntmps101]; simp) rfl rfl ?_; intro E hH hK
  (refine sgo_sound [] 1000 ?_; conv => whnf)
  rw [hneg]
  repeat' ((first | with_reducible refine bdec (fun h => ?_) (fun h => ?_) | with_reducible refine bndec (fun h => ?_) (fun h => ?_) | with_reducible refine bwtd (fun h => ?_) (fun h => ?_) | with_reducible refine bwfd (fun h => ?_) (fun h => ?_) | with_reducible refine bwtn (fun h => ?_) (fun h => ?_) | with_reducible refine bwfn (fun h => ?_) (fun h => ?_) | with_reducible refine bwtb (fun h => ?_) (fun h => ?_) | with_reducible refine bwfb (fun h => ?_) (fun h => ?_) | with_reducible refine bwt (fun h => ?_) (fun h => ?_) | with_reducible refine bwf (fun h => ?_) (fun h => ?_) | with_reducible refine bnt (fun h => ?_) (fun h => ?_) | with_reducible refine bcase (fun h => ?_) (fun h => ?_)) <;> (conv => whnf))
  all_goals exact kB hK (by rw [Bool.eq_iff_iff]; simp; try omega)

theorem refTable_spec (den : Int) (ps : List Piece) : SPure Tryz.prog G 83 [.agg [sI den, .imm (.isl 3 (ps.map Piece.cells))]] (sB (tableOK den ps)) := by
  refine spure_enter Tryz.func83 rfl (by rw [Tryz.ntmps83]; simp) rfl rfl ?_; intro E hH hK
  have hlen : (ps.map Piece.cells).length = ps.length := by simp
  (refine sgo_sound [] 1000 ?_; conv => whnf)
  repeat' ((first | with_reducible refine bdec (fun h => ?_) (fun h => ?_) | with_reducible refine bndec (fun h => ?_) (fun h => ?_) | with_reducible refine bwtd (fun h => ?_) (fun h => ?_) | with_reducible refine bwfd (fun h => ?_) (fun h => ?_) | with_reducible refine bwtn (fun h => ?_) (fun h => ?_) | with_reducible refine bwfn (fun h => ?_) (fun h => ?_) | with_reducible refine bwtb (fun h => ?_) (fun h => ?_) | with_reducible refine bwfb (fun h => ?_) (fun h => ?_) | with_reducible refine bwt (fun h => ?_) (fun h => ?_) | with_reducible refine bwf (fun h => ?_) (fun h => ?_) | with_reducible refine bnt (fun h => ?_) (fun h => ?_) | with_reducible refine bcase (fun h => ?_) (fun h => ?_)) <;> (conv => whnf))
  any_goals exact kB hK (by simp [tableOK]; intros; omega)
  · have hok : tableOK den ps = piecesOK none ps := by
      unfold tableOK
      rw [show decide (1 ≤ den) = true by simp; omega, show decide (den ≤ 1000000) = true by simp; omega, show decide (1 ≤ ps.length) = true by simp; omega, show decide (ps.length ≤ 64) = true by simp; omega]
      simp
    refine sw_keep [1, 3] ?_
    refine sw_loop_ind (σ := List Piece × List Piece) (fun x => [(1, .ptr 0 0), (3, sI x.1.length)])
      (fun _ => [.cells [sI den, .imm (.isl 3 (ps.map Piece.cells))]])
      (fun x => ps = x.1 ++ x.2 ∧ piecesOK none ps = piecesOK (lastLo x.1) x.2) (fun x => x.2.length) ?_ ([], ps) ⟨rfl, rfl⟩
    rintro ⟨done, rest⟩ ⟨ha, hv⟩ ih
    dsimp only at ha hv ih ⊢
    have hl2 : done.length + rest.length = ps.length := by rw [ha]; simp
    (refine sgo_sound [] 1000 ?_; conv => whnf)
    repeat' ((first | with_reducible refine bdec (fun h => ?_) (fun h => ?_) | with_reducible refine bndec (fun h => ?_) (fun h => ?_) | with_reducible refine bwtd (fun h => ?_) (fun h => ?_) | with_reducible refine bwfd (fun h => ?_) (fun h => ?_) | with_reducible refine bwtn (fun h => ?_) (fun h => ?_) | with_reducible refine bwfn (fun h => ?_) (fun h => ?_) | with_reducible refine bwtb (fun h => ?_) (fun h => ?_) | with_reducible refine bwfb (fun h => ?_) (fun h => ?_) | with_reducible refine bwt (fun h => ?_) (fun h => ?_) | with_reducible refine bwf (fun h => ?_) (fun h => ?_) | with_reducible refine bnt (fun h => ?_) (fun h => ?_) | with_reducible refine bcase (fun h => ?_) (fun h => ?_)) <;> (conv => whnf))
    · cases rest with
      | nil => simp at hl2; omega
      | cons p rest =>
        have hw : IntKind.i64.wrap ((done.length : Int) + 1) = (((done ++ [p]).length : Nat) : Int) := by rw [wrap_succ (by omega)]; simp
        have bad : pieceOK (lastLo done) p = false → tableOK den ps = false := fun h => by rw [hok, hv, piecesOK, h]; rfl
        have good : pieceOK (lastLo done) p = true → piecesOK none ps = piecesOK (lastLo (done ++ [p])) rest := fun h => by rw [hv, piecesOK, h, lastLo_snoc]; rfl
        rcases split_last done with rfl | ⟨init, q, rfl⟩
        · refine swr_index rfl rfl rfl rfl rfl rfl rfl rfl  (row := p.cells) (by simp [ha]) ?_
          (refine sgor_sound [] 1000 ?_; conv => whnf)
          refine swr_pure rfl rfl rfl rfl rfl rfl  (within_spec G p.slope 1000000 (by omega) (by omega)) ?_
          (refine sgor_sound [] 1000 ?_; conv => whnf)
          refine swr_pure rfl rfl rfl rfl rfl rfl  (within_spec G p.at_ 1000000000000000000 (by omega) (by omega)) ?_
          (refine sgor_sound [] 1000 ?_; conv => whnf)
          (refine swd_start mixed rfl ?_; refine sgod_sound [] ?_; conv => whnf)
          repeat' ((first | with_reducible refine bdec (fun h => ?_) (fun h => ?_) | with_reducible refine bndec (fun h => ?_) (fun h => ?_) | with_reducible refine bwtd (fun h => ?_) (fun h => ?_) | with_reducible refine bwfd (fun h => ?_) (fun h => ?_) | with_reducible refine bwtn (fun h => ?_) (fun h => ?_) | with_reducible refine bwfn (fun h => ?_) (fun h => ?_) | with_reducible refine bwtb (fun h => ?_) (fun h => ?_) | with_reducible refine bwfb (fun h => ?_) (fun h => ?_) | with_reducible refine bwt (fun h => ?_) (fun h => ?_) | with_reducible refine bwf (fun h => ?_) (fun h => ?_) | with_reducible refine bnt (fun h => ?_) (fun h => ?_) | with_reducible refine bcase (fun h => ?_) (fun h => ?_)) <;> (conv => whnf))
          all_goals (refine sgo_sound [] 1000 ?_; conv => whnf)
          any_goals exact kB hK (bad (by simp [lastLo, pieceOK]; intros; omega))
          rw [hw]
          exact sw_kc [1, 3] 1 (by simp [hH]) (by simp) rfl rfl (ih ([] ++ [p], rest) ⟨by simp [ha], good (by simp [lastLo, pieceOK]; omega)⟩ (by simp))
        · have hil : (init ++ [q]).length = init.length + 1 := by simp
          have hm : IntKind.i64.wrap (((init ++ [q]).length : Int) - 1) = ((init.length : Nat) : Int) := by rw [wrap64 (by omega) (by omega)]; omega
          refine swr_index rfl rfl rfl rfl rfl rfl rfl rfl  (row := p.cells) (by simp [ha]) ?_
          (refine sgor_sound [] 1000 ?_; conv => whnf)
          refine swr_pure rfl rfl rfl rfl rfl rfl  (within_spec G p.slope 1000000 (by omega) (by omega)) ?_
          (refine sgor_sound [] 1000 ?_; conv => whnf)
          refine swr_pure rfl rfl rfl rfl rfl rfl  (within_spec G p.at_ 1000000000000000000 (by omega) (by omega)) ?_
          (refine sgor_sound [] 1000 ?_; conv => whnf)
          (refine swd_start mixed rfl ?_; refine sgod_sound [] ?_; conv => whnf)
          repeat' ((first | with_reducible refine bdec (fun h => ?_) (fun h => ?_) | with_reducible refine bndec (fun h => ?_) (fun h => ?_) | with_reducible refine bwtd (fun h => ?_) (fun h => ?_) | with_reducible refine bwfd (fun h => ?_) (fun h => ?_) | with_reducible refine bwtn (fun h => ?_) (fun h => ?_) | with_reducible refine bwfn (fun h => ?_) (fun h => ?_) | with_reducible refine bwtb (fun h => ?_) (fun h => ?_) | with_reducible refine bwfb (fun h => ?_) (fun h => ?_) | with_reducible refine bwt (fun h => ?_) (fun h => ?_) | with_reducible refine bwf (fun h => ?_) (fun h => ?_) | with_reducible refine bnt (fun h => ?_) (fun h => ?_) | with_reducible refine bcase (fun h => ?_) (fun h => ?_)) <;> (conv => whnf))
          any_goals (exfalso; omega)
          any_goals (refine swd_index rfl rfl rfl rfl rfl rfl rfl  hm (row := q.cells) (by simp [ha]) ?_; (refine sgod_sound [] ?_; conv => whnf))
          all_goals (refine sgo_sound [] 1000 ?_; conv => whnf)
          all_goals repeat' ((first | with_reducible refine bdec (fun h => ?_) (fun h => ?_) | with_reducible refine bndec (fun h => ?_) (fun h => ?_) | with_reducible refine bwtd (fun h => ?_) (fun h => ?_) | with_reducible refine bwfd (fun h => ?_) (fun h => ?_) | with_reducible refine bwtn (fun h => ?_) (fun h => ?_) | with_reducible refine bwfn (fun h => ?_) (fun h => ?_) | with_reducible refine bwtb (fun h => ?_) (fun h => ?_) | with_reducible refine bwfb (fun h => ?_) (fun h => ?_) | with_reducible refine bwt (fun h => ?_) (fun h => ?_) | with_reducible refine bwf (fun h => ?_) (fun h => ?_) | with_reducible refine bnt (fun h => ?_) (fun h => ?_) | with_reducible refine bcase (fun h => ?_) (fun h => ?_)) <;> (conv => whnf))
          any_goals exact kB hK (bad (by simp [lastLo, pieceOK]; intros; omega))
          rw [hw]
          exact sw_kc [1, 3] 1 (by simp [hH]) (by simp) rfl rfl (ih (init ++ [q] ++ [p], rest) ⟨by simp [ha], good (by simp [lastLo, pieceOK]; omega)⟩ (by simp))
    · cases rest with
      | nil => exact kB hK (by rw [hok, hv]; rfl)
      | cons p rest => simp at hl2; omega

end Go.Proofs.YthmkdghoaifkbaaGreatDoor

/- Contracts, part e: facts. -/
namespace Go.Proofs.YthmkdghoaifkbaaGreatDoor
open Go Go.Sh
set_option maxRecDepth 10000
variable (G : List (Nat × D))

theorem refName12_spec (s : ByteArray) (hsz : s.size ≤ 9223372036854775807) : SPure Tryz.prog G 66 [sS s] (sB (nameOK s)) := by
  refine spure_enter Tryz.func66 rfl (by rw [Tryz.ntmps66]; simp) rfl rfl ?_; intro E hH hK
  have hl := bytes_len s
  (refine sgo_sound [] 1000 ?_; conv => whnf)
  refine sw_keep [0, 3] ?_
  refine sw_loop_ind (σ := List UInt8 × List UInt8) (fun x => [(0, sS s), (3, sI x.1.length)]) (fun _ => [])
    (fun x => s.data.toList = x.1 ++ x.2 ∧ x.1.all wordB = true ∧ (x.1 = [] ∨ headLower x.1 = true)) (fun x => x.2.length) ?_ ([], s.data.toList) ⟨rfl, rfl, .inl rfl⟩
  rintro ⟨done, rest⟩ ⟨ha, hv, hh⟩ ih
  dsimp only at ha hv hh ih ⊢
  have hlen : done.length + rest.length = s.size := by rw [← hl, ha]; simp
  cases rest with
  | nil =>
    rw [List.append_nil] at ha
    have hlen' : done.length = s.size := by simpa using hlen
    have hd0 : done.length ≠ 0 → headLower done = true := fun h => hh.resolve_left (fun e => h (by rw [e]; rfl))
    have hd1 : done.length = 0 → nameOK s = false := fun h => by rw [List.length_eq_zero_iff.1 h] at ha; simp [nameOK, ha, headLower]
    (refine sgo_sound [] 1000 ?_; conv => whnf)
    repeat' ((first | with_reducible refine bdec (fun h => ?_) (fun h => ?_) | with_reducible refine bndec (fun h => ?_) (fun h => ?_) | with_reducible refine bwtd (fun h => ?_) (fun h => ?_) | with_reducible refine bwfd (fun h => ?_) (fun h => ?_) | with_reducible refine bwtn (fun h => ?_) (fun h => ?_) | with_reducible refine bwfn (fun h => ?_) (fun h => ?_) | with_reducible refine bwtb (fun h => ?_) (fun h => ?_) | with_reducible refine bwfb (fun h => ?_) (fun h => ?_) | with_reducible refine bwt (fun h => ?_) (fun h => ?_) | with_reducible refine bwf (fun h => ?_) (fun h => ?_) | with_reducible refine bnt (fun h => ?_) (fun h => ?_) | with_reducible refine bcase (fun h => ?_) (fun h => ?_)) <;> (conv => whnf))
    all_goals try (exfalso; omega)
    · exact kB hK (by unfold nameOK; rw [ha, hv, hd0 (by omega)]; rw [Bool.eq_iff_iff]; simp; omega)
    · exact kB hK (hd1 (by omega))
  | cons b rest =>
    have hlt : done.length < s.size := by simp at hlen; omega
    have hget : s.data.toList[done.length]? = some b := by rw [ha]; simp
    have hw : IntKind.i64.wrap ((done.length : Int) + 1) = (((done ++ [b]).length : Nat) : Int) := by rw [wrap_succ (by omega)]; simp
    have bad : wordB b = false → nameOK s = false := fun h => by unfold nameOK; rw [ha]; simp [h]
    have bad0 : done.length = 0 → lowerB b = false → nameOK s = false := fun e h => by rw [List.length_eq_zero_iff.1 e] at ha; unfold nameOK; rw [ha]; simp [headLower, h]
    have next : wordB b = true → (done.length = 0 → lowerB b = true) → _ := fun h1 h2 =>
      ih (done ++ [b], rest) ⟨by simp [ha], by simp [hv, h1], .inr (by
        rcases hh with hh | hh
        · subst hh; simpa [headLower] using h2 rfl
        · cases done with
          | nil => simp [headLower] at hh
          | cons x y => exact hh)⟩ (by simp)
    (refine sgo_sound [] 1000 ?_; conv => whnf)
    repeat' ((first | with_reducible refine bdec (fun h => ?_) (fun h => ?_) | with_reducible refine bndec (fun h => ?_) (fun h => ?_) | with_reducible refine bwtd (fun h => ?_) (fun h => ?_) | with_reducible refine bwfd (fun h => ?_) (fun h => ?_) | with_reducible refine bwtn (fun h => ?_) (fun h => ?_) | with_reducible refine bwfn (fun h => ?_) (fun h => ?_) | with_reducible refine bwtb (fun h => ?_) (fun h => ?_) | with_reducible refine bwfb (fun h => ?_) (fun h => ?_) | with_reducible refine bwt (fun h => ?_) (fun h => ?_) | with_reducible refine bwf (fun h => ?_) (fun h => ?_) | with_reducible refine bnt (fun h => ?_) (fun h => ?_) | with_reducible refine bcase (fun h => ?_) (fun h => ?_)) <;> (conv => whnf))
    all_goals try (exfalso; omega)
    refine swr_byte rfl rfl rfl rfl rfl rfl  hget ?_
    (refine sgor_sound [] 1000 ?_; conv => whnf)
    repeat' ((first | with_reducible refine bdec (fun h => ?_) (fun h => ?_) | with_reducible refine bndec (fun h => ?_) (fun h => ?_) | with_reducible refine bwtd (fun h => ?_) (fun h => ?_) | with_reducible refine bwfd (fun h => ?_) (fun h => ?_) | with_reducible refine bwtn (fun h => ?_) (fun h => ?_) | with_reducible refine bwfn (fun h => ?_) (fun h => ?_) | with_reducible refine bwtb (fun h => ?_) (fun h => ?_) | with_reducible refine bwfb (fun h => ?_) (fun h => ?_) | with_reducible refine bwt (fun h => ?_) (fun h => ?_) | with_reducible refine bwf (fun h => ?_) (fun h => ?_) | with_reducible refine bnt (fun h => ?_) (fun h => ?_) | with_reducible refine bcase (fun h => ?_) (fun h => ?_)) <;> (conv => whnf))
    all_goals first
      | exact kB hK (bad0 (by omega) (by simp [lowerB]; omega))
      | exact kB hK (bad (by simp [wordB, lowerB, digitB]; omega))
      | (rw [hw]; exact sw_keep [0, 3] (next (by simp [wordB, lowerB, digitB]; omega) (fun _ => by simp [lowerB]; omega)))

def formed (f : Fact) : Bool := nameOK f.person && nameOK f.name &&
  decide (0 ≤ f.lo ∧ f.lo < f.hi ∧ f.hi ≤ 36525 ∧ 0 ≤ f.known ∧ f.known ≤ 36524 ∧ -1000000000000 ≤ f.value ∧ f.value ≤ 1000000000000) && (!f.gone || decide (f.value = 0))
def Fact.sv (f : Fact) : SV := .agg [sS f.person, sS f.name, sI f.lo, sI f.hi, sI f.known, sI f.value, sB f.gone]

theorem wellFormed_spec (f : Fact) : SPure Tryz.prog G 40 [Fact.sv f] (sB (formed f)) := by
  refine spure_enter Tryz.func40 rfl (by rw [Tryz.ntmps40]; simp) rfl rfl ?_; intro E hH hK
  (refine sgo_sound [] 1000 ?_; conv => whnf)
  refine swr_pure rfl rfl rfl rfl rfl rfl  (factsName_spec G f.person) ?_
  (refine sgor_sound [] 1000 ?_; conv => whnf)
  repeat' ((first | with_reducible refine bdec (fun h => ?_) (fun h => ?_) | with_reducible refine bndec (fun h => ?_) (fun h => ?_) | with_reducible refine bwtd (fun h => ?_) (fun h => ?_) | with_reducible refine bwfd (fun h => ?_) (fun h => ?_) | with_reducible refine bwtn (fun h => ?_) (fun h => ?_) | with_reducible refine bwfn (fun h => ?_) (fun h => ?_) | with_reducible refine bwtb (fun h => ?_) (fun h => ?_) | with_reducible refine bwfb (fun h => ?_) (fun h => ?_) | with_reducible refine bwt (fun h => ?_) (fun h => ?_) | with_reducible refine bwf (fun h => ?_) (fun h => ?_) | with_reducible refine bnt (fun h => ?_) (fun h => ?_) | with_reducible refine bcase (fun h => ?_) (fun h => ?_)) <;> (conv => whnf))
  · refine swr_pure rfl rfl rfl rfl rfl rfl  (factsName_spec G f.name) ?_
    (refine sgor_sound [] 1000 ?_; conv => whnf)
    repeat' ((first | with_reducible refine bdec (fun h => ?_) (fun h => ?_) | with_reducible refine bndec (fun h => ?_) (fun h => ?_) | with_reducible refine bwtd (fun h => ?_) (fun h => ?_) | with_reducible refine bwfd (fun h => ?_) (fun h => ?_) | with_reducible refine bwtn (fun h => ?_) (fun h => ?_) | with_reducible refine bwfn (fun h => ?_) (fun h => ?_) | with_reducible refine bwtb (fun h => ?_) (fun h => ?_) | with_reducible refine bwfb (fun h => ?_) (fun h => ?_) | with_reducible refine bwt (fun h => ?_) (fun h => ?_) | with_reducible refine bwf (fun h => ?_) (fun h => ?_) | with_reducible refine bnt (fun h => ?_) (fun h => ?_) | with_reducible refine bcase (fun h => ?_) (fun h => ?_)) <;> (conv => whnf))
    all_goals exact kB hK (by rw [Bool.eq_iff_iff]; simp_all [formed]; try omega)
  · exact kB hK (by simp [formed]; intro h'; simp [h'] at h)

theorem formed12_spec (f : Fact) (h1 : f.person.size ≤ 9223372036854775807) (h2 : f.name.size ≤ 9223372036854775807) : SPure Tryz.prog G 49 [Fact.sv f] (sB (formed f)) := by
  refine spure_enter Tryz.func49 rfl (by rw [Tryz.ntmps49]; simp) rfl rfl ?_; intro E hH hK
  (refine sgo_sound [] 1000 ?_; conv => whnf)
  refine swr_pure rfl rfl rfl rfl rfl rfl  (refName12_spec G f.person h1) ?_
  (refine sgor_sound [] 1000 ?_; conv => whnf)
  repeat' ((first | with_reducible refine bdec (fun h => ?_) (fun h => ?_) | with_reducible refine bndec (fun h => ?_) (fun h => ?_) | with_reducible refine bwtd (fun h => ?_) (fun h => ?_) | with_reducible refine bwfd (fun h => ?_) (fun h => ?_) | with_reducible refine bwtn (fun h => ?_) (fun h => ?_) | with_reducible refine bwfn (fun h => ?_) (fun h => ?_) | with_reducible refine bwtb (fun h => ?_) (fun h => ?_) | with_reducible refine bwfb (fun h => ?_) (fun h => ?_) | with_reducible refine bwt (fun h => ?_) (fun h => ?_) | with_reducible refine bwf (fun h => ?_) (fun h => ?_) | with_reducible refine bnt (fun h => ?_) (fun h => ?_) | with_reducible refine bcase (fun h => ?_) (fun h => ?_)) <;> (conv => whnf))
  · refine swr_pure rfl rfl rfl rfl rfl rfl  (refName12_spec G f.name h2) ?_
    (refine sgor_sound [] 1000 ?_; conv => whnf)
    repeat' ((first | with_reducible refine bdec (fun h => ?_) (fun h => ?_) | with_reducible refine bndec (fun h => ?_) (fun h => ?_) | with_reducible refine bwtd (fun h => ?_) (fun h => ?_) | with_reducible refine bwfd (fun h => ?_) (fun h => ?_) | with_reducible refine bwtn (fun h => ?_) (fun h => ?_) | with_reducible refine bwfn (fun h => ?_) (fun h => ?_) | with_reducible refine bwtb (fun h => ?_) (fun h => ?_) | with_reducible refine bwfb (fun h => ?_) (fun h => ?_) | with_reducible refine bwt (fun h => ?_) (fun h => ?_) | with_reducible refine bwf (fun h => ?_) (fun h => ?_) | with_reducible refine bnt (fun h => ?_) (fun h => ?_) | with_reducible refine bcase (fun h => ?_) (fun h => ?_)) <;> (conv => whnf))
    any_goals exact kB hK (by rw [Bool.eq_iff_iff]; simp_all [formed]; try omega)
    all_goals refine swr_pure rfl rfl rfl rfl rfl rfl  (refDay_spec G f.known) ?_
    all_goals (refine sgor_sound [] 1000 ?_; conv => whnf)
    all_goals repeat' ((first | with_reducible refine bdec (fun h => ?_) (fun h => ?_) | with_reducible refine bndec (fun h => ?_) (fun h => ?_) | with_reducible refine bwtd (fun h => ?_) (fun h => ?_) | with_reducible refine bwfd (fun h => ?_) (fun h => ?_) | with_reducible refine bwtn (fun h => ?_) (fun h => ?_) | with_reducible refine bwfn (fun h => ?_) (fun h => ?_) | with_reducible refine bwtb (fun h => ?_) (fun h => ?_) | with_reducible refine bwfb (fun h => ?_) (fun h => ?_) | with_reducible refine bwt (fun h => ?_) (fun h => ?_) | with_reducible refine bwf (fun h => ?_) (fun h => ?_) | with_reducible refine bnt (fun h => ?_) (fun h => ?_) | with_reducible refine bcase (fun h => ?_) (fun h => ?_)) <;> (conv => whnf))
    all_goals exact kB hK (by rw [Bool.eq_iff_iff]; simp_all [formed, dayOK]; try omega)
  · exact kB hK (by simp [formed]; intro h'; simp [h'] at h)

def factsOK : Option Int → List Fact → Bool
  | _, [] => true
  | none, f :: r => formed f && factsOK (some f.known) r
  | some k, f :: r => formed f && decide (k ≤ f.known) && factsOK (some f.known) r
def storeOK (l : List Fact) : Bool := decide (l.length ≤ 400) && factsOK none l
def lastKnown (l : List Fact) : Option Int := l.getLast?.map (·.known)
theorem lastKnown_snoc (l : List Fact) (p : Fact) : lastKnown (l ++ [p]) = some p.known := by simp [lastKnown]

theorem factsValid_spec (l : List Fact) : SPure Tryz.prog G 38 [storeSV l] (sB (storeOK l)) := by
  refine spure_enter Tryz.func38 rfl (by rw [Tryz.ntmps38]; simp) rfl rfl ?_; intro E hH hK
  have hlen : (l.map Fact.cells).length = l.length := by simp
  (refine sgo_sound [] 1000 ?_; conv => whnf)
  repeat' ((first | with_reducible refine bdec (fun h => ?_) (fun h => ?_) | with_reducible refine bndec (fun h => ?_) (fun h => ?_) | with_reducible refine bwtd (fun h => ?_) (fun h => ?_) | with_reducible refine bwfd (fun h => ?_) (fun h => ?_) | with_reducible refine bwtn (fun h => ?_) (fun h => ?_) | with_reducible refine bwfn (fun h => ?_) (fun h => ?_) | with_reducible refine bwtb (fun h => ?_) (fun h => ?_) | with_reducible refine bwfb (fun h => ?_) (fun h => ?_) | with_reducible refine bwt (fun h => ?_) (fun h => ?_) | with_reducible refine bwf (fun h => ?_) (fun h => ?_) | with_reducible refine bnt (fun h => ?_) (fun h => ?_) | with_reducible refine bcase (fun h => ?_) (fun h => ?_)) <;> (conv => whnf))
  any_goals exact kB hK (by simp [storeOK]; intros; omega)
  have hok : storeOK l = factsOK none l := by simp [storeOK]; intros; omega
  refine sw_keep [1, 10, 11, 12] ?_
  refine sw_loop_ind (σ := List Fact × List Fact) (fun x => [(1, .ptr 0 0), (10, .imm (dFacts l)), (11, sI (l.map Fact.cells).length), (12, sI x.1.length)])
    (fun _ => [.cells [.imm (dFacts l)]])
    (fun x => l = x.1 ++ x.2 ∧ factsOK none l = factsOK (lastKnown x.1) x.2) (fun x => x.2.length) ?_ ([], l) ⟨rfl, rfl⟩
  rintro ⟨done, rest⟩ ⟨ha, hv⟩ ih
  dsimp only at ha hv ih ⊢
  have hl2 : done.length + rest.length = l.length := by rw [ha]; simp
  cases rest with
  | nil =>
    simp at hl2
    (refine sgo_sound [] 1000 ?_; conv => whnf)
    repeat' ((first | with_reducible refine bdec (fun h => ?_) (fun h => ?_) | with_reducible refine bndec (fun h => ?_) (fun h => ?_) | with_reducible refine bwtd (fun h => ?_) (fun h => ?_) | with_reducible refine bwfd (fun h => ?_) (fun h => ?_) | with_reducible refine bwtn (fun h => ?_) (fun h => ?_) | with_reducible refine bwfn (fun h => ?_) (fun h => ?_) | with_reducible refine bwtb (fun h => ?_) (fun h => ?_) | with_reducible refine bwfb (fun h => ?_) (fun h => ?_) | with_reducible refine bwt (fun h => ?_) (fun h => ?_) | with_reducible refine bwf (fun h => ?_) (fun h => ?_) | with_reducible refine bnt (fun h => ?_) (fun h => ?_) | with_reducible refine bcase (fun h => ?_) (fun h => ?_)) <;> (conv => whnf))
    all_goals try (exfalso; omega)
    exact kB hK (by rw [hok, hv]; rfl)
  | cons p rest =>
    simp at hl2
    have hw : IntKind.i64.wrap ((done.length : Int) + 1) = (((done ++ [p]).length : Nat) : Int) := by rw [wrap_succ (by omega)]; simp
    have next : factsOK none l = factsOK (lastKnown (done ++ [p])) rest → _ := fun h => ih (done ++ [p], rest) ⟨by simp [ha], h⟩ (by simp)
    rcases split_last done with rfl | ⟨init, q, rfl⟩
    · (refine sgo_sound [] 1000 ?_; conv => whnf)
      repeat' ((first | with_reducible refine bdec (fun h => ?_) (fun h => ?_) | with_reducible refine bndec (fun h => ?_) (fun h => ?_) | with_reducible refine bwtd (fun h => ?_) (fun h => ?_) | with_reducible refine bwfd (fun h => ?_) (fun h => ?_) | with_reducible refine bwtn (fun h => ?_) (fun h => ?_) | with_reducible refine bwfn (fun h => ?_) (fun h => ?_) | with_reducible refine bwtb (fun h => ?_) (fun h => ?_) | with_reducible refine bwfb (fun h => ?_) (fun h => ?_) | with_reducible refine bwt (fun h => ?_) (fun h => ?_) | with_reducible refine bwf (fun h => ?_) (fun h => ?_) | with_reducible refine bnt (fun h => ?_) (fun h => ?_) | with_reducible refine bcase (fun h => ?_) (fun h => ?_)) <;> (conv => whnf))
      all_goals try (exfalso; omega)
      refine swr_index rfl rfl rfl rfl rfl rfl rfl rfl  (row := p.cells) (by simp [ha]) ?_
      (refine sgor_sound [] 1000 ?_; conv => whnf)
      (refine swd_start mixed rfl ?_; refine sgod_sound [] ?_; conv => whnf)
      refine swd_pure rfl rfl rfl rfl rfl rfl  (wellFormed_spec G p) ?_
      (refine sgod_sound [] ?_; conv => whnf)
      repeat' ((first | with_reducible refine bdec (fun h => ?_) (fun h => ?_) | with_reducible refine bndec (fun h => ?_) (fun h => ?_) | with_reducible refine bwtd (fun h => ?_) (fun h => ?_) | with_reducible refine bwfd (fun h => ?_) (fun h => ?_) | with_reducible refine bwtn (fun h => ?_) (fun h => ?_) | with_reducible refine bwfn (fun h => ?_) (fun h => ?_) | with_reducible refine bwtb (fun h => ?_) (fun h => ?_) | with_reducible refine bwfb (fun h => ?_) (fun h => ?_) | with_reducible refine bwt (fun h => ?_) (fun h => ?_) | with_reducible refine bwf (fun h => ?_) (fun h => ?_) | with_reducible refine bnt (fun h => ?_) (fun h => ?_) | with_reducible refine bcase (fun h => ?_) (fun h => ?_)) <;> (conv => whnf))
      all_goals try (exfalso; omega)
      all_goals (refine sgo_sound [] 1000 ?_; conv => whnf)
      · rw [hw]; exact sw_kc [1, 10, 11, 12] 1 (by simp [hH]) (by simp) rfl rfl (next (by simp [hv, lastKnown, factsOK, h]))
      · exact kB hK (by simp [hok, hv, lastKnown, factsOK, h])
    · have hil : (init ++ [q]).length = init.length + 1 := by simp
      have hm : IntKind.i64.wrap (((init ++ [q]).length : Int) - 1) = ((init.length : Nat) : Int) := by rw [wrap64 (by omega) (by omega)]; omega
      (refine sgo_sound [] 1000 ?_; conv => whnf)
      repeat' ((first | with_reducible refine bdec (fun h => ?_) (fun h => ?_) | with_reducible refine bndec (fun h => ?_) (fun h => ?_) | with_reducible refine bwtd (fun h => ?_) (fun h => ?_) | with_reducible refine bwfd (fun h => ?_) (fun h => ?_) | with_reducible refine bwtn (fun h => ?_) (fun h => ?_) | with_reducible refine bwfn (fun h => ?_) (fun h => ?_) | with_reducible refine bwtb (fun h => ?_) (fun h => ?_) | with_reducible refine bwfb (fun h => ?_) (fun h => ?_) | with_reducible refine bwt (fun h => ?_) (fun h => ?_) | with_reducible refine bwf (fun h => ?_) (fun h => ?_) | with_reducible refine bnt (fun h => ?_) (fun h => ?_) | with_reducible refine bcase (fun h => ?_) (fun h => ?_)) <;> (conv => whnf))
      all_goals try (exfalso; omega)
      refine swr_index rfl rfl rfl rfl rfl rfl rfl rfl  (row := p.cells) (by simp [ha]) ?_
      (refine sgor_sound [] 1000 ?_; conv => whnf)
      (refine swd_start mixed rfl ?_; refine sgod_sound [] ?_; conv => whnf)
      refine swd_pure rfl rfl rfl rfl rfl rfl  (wellFormed_spec G p) ?_
      (refine sgod_sound [] ?_; conv => whnf)
      repeat' ((first | with_reducible refine bdec (fun h => ?_) (fun h => ?_) | with_reducible refine bndec (fun h => ?_) (fun h => ?_) | with_reducible refine bwtd (fun h => ?_) (fun h => ?_) | with_reducible refine bwfd (fun h => ?_) (fun h => ?_) | with_reducible refine bwtn (fun h => ?_) (fun h => ?_) | with_reducible refine bwfn (fun h => ?_) (fun h => ?_) | with_reducible refine bwtb (fun h => ?_) (fun h => ?_) | with_reducible refine bwfb (fun h => ?_) (fun h => ?_) | with_reducible refine bwt (fun h => ?_) (fun h => ?_) | with_reducible refine bwf (fun h => ?_) (fun h => ?_) | with_reducible refine bnt (fun h => ?_) (fun h => ?_) | with_reducible refine bcase (fun h => ?_) (fun h => ?_)) <;> (conv => whnf))
      all_goals try (exfalso; omega)
      · refine swd_index rfl rfl rfl rfl rfl rfl rfl  hm (row := q.cells) (by simp [ha]) ?_
        (refine sgod_sound [] ?_; conv => whnf)
        all_goals (refine sgo_sound [] 1000 ?_; conv => whnf)
        repeat' ((first | with_reducible refine bdec (fun h => ?_) (fun h => ?_) | with_reducible refine bndec (fun h => ?_) (fun h => ?_) | with_reducible refine bwtd (fun h => ?_) (fun h => ?_) | with_reducible refine bwfd (fun h => ?_) (fun h => ?_) | with_reducible refine bwtn (fun h => ?_) (fun h => ?_) | with_reducible refine bwfn (fun h => ?_) (fun h => ?_) | with_reducible refine bwtb (fun h => ?_) (fun h => ?_) | with_reducible refine bwfb (fun h => ?_) (fun h => ?_) | with_reducible refine bwt (fun h => ?_) (fun h => ?_) | with_reducible refine bwf (fun h => ?_) (fun h => ?_) | with_reducible refine bnt (fun h => ?_) (fun h => ?_) | with_reducible refine bcase (fun h => ?_) (fun h => ?_)) <;> (conv => whnf))
        · exact kB hK (by simp [hok, hv, lastKnown, factsOK]; intros; omega)
        · rw [hw]; exact sw_kc [1, 10, 11, 12] 1 (by simp [hH]) (by simp) rfl rfl (next (by simp_all [lastKnown, factsOK]))
      · (refine sgo_sound [] 1000 ?_; conv => whnf)
        exact kB hK (by simp [hok, hv, lastKnown, factsOK, h])

end Go.Proofs.YthmkdghoaifkbaaGreatDoor

/- Contracts, part f: the reference's validity of stores; looking facts up. -/
namespace Go.Proofs.YthmkdghoaifkbaaGreatDoor
open Go Go.Sh
set_option maxRecDepth 10000
variable (G : List (Nat × D))


theorem refValid12_spec (l : List Fact) (hfit : ∀ f ∈ l, f.fit) : SPure Tryz.prog G 31 [storeSV l] (sB (storeOK l)) := by
  refine spure_enter Tryz.func31 rfl (by rw [Tryz.ntmps31]; simp) rfl rfl ?_; intro E hH hK
  have hlen : (l.map Fact.cells).length = l.length := by simp
  (refine sgo_sound [] 1000 ?_; conv => whnf)
  repeat' ((first | with_reducible refine bdec (fun h => ?_) (fun h => ?_) | with_reducible refine bndec (fun h => ?_) (fun h => ?_) | with_reducible refine bwtd (fun h => ?_) (fun h => ?_) | with_reducible refine bwfd (fun h => ?_) (fun h => ?_) | with_reducible refine bwtn (fun h => ?_) (fun h => ?_) | with_reducible refine bwfn (fun h => ?_) (fun h => ?_) | with_reducible refine bwtb (fun h => ?_) (fun h => ?_) | with_reducible refine bwfb (fun h => ?_) (fun h => ?_) | with_reducible refine bwt (fun h => ?_) (fun h => ?_) | with_reducible refine bwf (fun h => ?_) (fun h => ?_) | with_reducible refine bnt (fun h => ?_) (fun h => ?_) | with_reducible refine bcase (fun h => ?_) (fun h => ?_)) <;> (conv => whnf))
  any_goals exact kB hK (by simp [storeOK]; intros; omega)
  have hok : storeOK l = factsOK none l := by simp [storeOK]; intros; omega
  refine sw_keep [1, 3] ?_
  refine sw_loop_ind (σ := List Fact × List Fact) (fun x => [(1, .ptr 0 0), (3, sI x.1.length)])
    (fun _ => [.cells [.imm (dFacts l)]])
    (fun x => l = x.1 ++ x.2 ∧ factsOK none l = factsOK (lastKnown x.1) x.2) (fun x => x.2.length) ?_ ([], l) ⟨rfl, rfl⟩
  rintro ⟨done, rest⟩ ⟨ha, hv⟩ ih
  dsimp only at ha hv ih ⊢
  have hl2 : done.length + rest.length = l.length := by rw [ha]; simp
  cases rest with
  | nil =>
    simp at hl2
    (refine sgo_sound [] 1000 ?_; conv => whnf)
    repeat' ((first | with_reducible refine bdec (fun h => ?_) (fun h => ?_) | with_reducible refine bndec (fun h => ?_) (fun h => ?_) | with_reducible refine bwtd (fun h => ?_) (fun h => ?_) | with_reducible refine bwfd (fun h => ?_) (fun h => ?_) | with_reducible refine bwtn (fun h => ?_) (fun h => ?_) | with_reducible refine bwfn (fun h => ?_) (fun h => ?_) | with_reducible refine bwtb (fun h => ?_) (fun h => ?_) | with_reducible refine bwfb (fun h => ?_) (fun h => ?_) | with_reducible refine bwt (fun h => ?_) (fun h => ?_) | with_reducible refine bwf (fun h => ?_) (fun h => ?_) | with_reducible refine bnt (fun h => ?_) (fun h => ?_) | with_reducible refine bcase (fun h => ?_) (fun h => ?_)) <;> (conv => whnf))
    all_goals try (exfalso; omega)
    exact kB hK (by rw [hok, hv]; rfl)
  | cons p rest =>
    simp at hl2
    have hp : p.fit := hfit p (by simp [ha])
    have hw : IntKind.i64.wrap ((done.length : Int) + 1) = (((done ++ [p]).length : Nat) : Int) := by rw [wrap_succ (by omega)]; simp
    have next : factsOK none l = factsOK (lastKnown (done ++ [p])) rest → _ := fun h => ih (done ++ [p], rest) ⟨by simp [ha], h⟩ (by simp)
    rcases split_last done with rfl | ⟨init, q, rfl⟩
    · (refine sgo_sound [] 1000 ?_; conv => whnf)
      repeat' ((first | with_reducible refine bdec (fun h => ?_) (fun h => ?_) | with_reducible refine bndec (fun h => ?_) (fun h => ?_) | with_reducible refine bwtd (fun h => ?_) (fun h => ?_) | with_reducible refine bwfd (fun h => ?_) (fun h => ?_) | with_reducible refine bwtn (fun h => ?_) (fun h => ?_) | with_reducible refine bwfn (fun h => ?_) (fun h => ?_) | with_reducible refine bwtb (fun h => ?_) (fun h => ?_) | with_reducible refine bwfb (fun h => ?_) (fun h => ?_) | with_reducible refine bwt (fun h => ?_) (fun h => ?_) | with_reducible refine bwf (fun h => ?_) (fun h => ?_) | with_reducible refine bnt (fun h => ?_) (fun h => ?_) | with_reducible refine bcase (fun h => ?_) (fun h => ?_)) <;> (conv => whnf))
      all_goals try (exfalso; omega)
      (refine swd_start mixed rfl ?_; refine sgod_sound [] ?_; conv => whnf)
      refine swd_index rfl rfl rfl rfl rfl rfl rfl rfl  (row := p.cells) (by simp [ha]) ?_
      (refine sgod_sound [] ?_; conv => whnf)
      refine swd_pure rfl rfl rfl rfl rfl rfl  (formed12_spec G p hp.1 hp.2) ?_
      (refine sgod_sound [] ?_; conv => whnf)
      repeat' ((first | with_reducible refine bdec (fun h => ?_) (fun h => ?_) | with_reducible refine bndec (fun h => ?_) (fun h => ?_) | with_reducible refine bwtd (fun h => ?_) (fun h => ?_) | with_reducible refine bwfd (fun h => ?_) (fun h => ?_) | with_reducible refine bwtn (fun h => ?_) (fun h => ?_) | with_reducible refine bwfn (fun h => ?_) (fun h => ?_) | with_reducible refine bwtb (fun h => ?_) (fun h => ?_) | with_reducible refine bwfb (fun h => ?_) (fun h => ?_) | with_reducible refine bwt (fun h => ?_) (fun h => ?_) | with_reducible refine bwf (fun h => ?_) (fun h => ?_) | with_reducible refine bnt (fun h => ?_) (fun h => ?_) | with_reducible refine bcase (fun h => ?_) (fun h => ?_)) <;> (conv => whnf))
      all_goals try (exfalso; omega)
      all_goals (refine sgo_sound [] 1000 ?_; conv => whnf)
      · rw [hw]; exact sw_kc [1, 3] 1 (by simp [hH]) (by simp) rfl rfl (next (by simp [hv, lastKnown, factsOK, h]))
      · exact kB hK (by simp [hok, hv, lastKnown, factsOK, h])
    · have hil : (init ++ [q]).length = init.length + 1 := by simp
      have hm : IntKind.i64.wrap (((init ++ [q]).length : Int) - 1) = ((init.length : Nat) : Int) := by rw [wrap64 (by omega) (by omega)]; omega
      (refine sgo_sound [] 1000 ?_; conv => whnf)
      repeat' ((first | with_reducible refine bdec (fun h => ?_) (fun h => ?_) | with_reducible refine bndec (fun h => ?_) (fun h => ?_) | with_reducible refine bwtd (fun h => ?_) (fun h => ?_) | with_reducible refine bwfd (fun h => ?_) (fun h => ?_) | with_reducible refine bwtn (fun h => ?_) (fun h => ?_) | with_reducible refine bwfn (fun h => ?_) (fun h => ?_) | with_reducible refine bwtb (fun h => ?_) (fun h => ?_) | with_reducible refine bwfb (fun h => ?_) (fun h => ?_) | with_reducible refine bwt (fun h => ?_) (fun h => ?_) | with_reducible refine bwf (fun h => ?_) (fun h => ?_) | with_reducible refine bnt (fun h => ?_) (fun h => ?_) | with_reducible refine bcase (fun h => ?_) (fun h => ?_)) <;> (conv => whnf))
      all_goals try (exfalso; omega)
      (refine swd_start mixed rfl ?_; refine sgod_sound [] ?_; conv => whnf)
      refine swd_index rfl rfl rfl rfl rfl rfl rfl rfl  (row := p.cells) (by simp [ha]) ?_
      (refine sgod_sound [] ?_; conv => whnf)
      refine swd_pure rfl rfl rfl rfl rfl rfl  (formed12_spec G p hp.1 hp.2) ?_
      (refine sgod_sound [] ?_; conv => whnf)
      repeat' ((first | with_reducible refine bdec (fun h => ?_) (fun h => ?_) | with_reducible refine bndec (fun h => ?_) (fun h => ?_) | with_reducible refine bwtd (fun h => ?_) (fun h => ?_) | with_reducible refine bwfd (fun h => ?_) (fun h => ?_) | with_reducible refine bwtn (fun h => ?_) (fun h => ?_) | with_reducible refine bwfn (fun h => ?_) (fun h => ?_) | with_reducible refine bwtb (fun h => ?_) (fun h => ?_) | with_reducible refine bwfb (fun h => ?_) (fun h => ?_) | with_reducible refine bwt (fun h => ?_) (fun h => ?_) | with_reducible refine bwf (fun h => ?_) (fun h => ?_) | with_reducible refine bnt (fun h => ?_) (fun h => ?_) | with_reducible refine bcase (fun h => ?_) (fun h => ?_)) <;> (conv => whnf))
      all_goals try (exfalso; omega)
      · refine swd_index rfl rfl rfl rfl rfl rfl rfl rfl  (row := p.cells) (by simp [ha]) ?_
        (refine sgod_sound [] ?_; conv => whnf)
        refine swd_index rfl rfl rfl rfl rfl rfl rfl  hm (row := q.cells) (by simp [ha]) ?_
        (refine sgod_sound [] ?_; conv => whnf)
        all_goals (refine sgo_sound [] 1000 ?_; conv => whnf)
        repeat' ((first | with_reducible refine bdec (fun h => ?_) (fun h => ?_) | with_reducible refine bndec (fun h => ?_) (fun h => ?_) | with_reducible refine bwtd (fun h => ?_) (fun h => ?_) | with_reducible refine bwfd (fun h => ?_) (fun h => ?_) | with_reducible refine bwtn (fun h => ?_) (fun h => ?_) | with_reducible refine bwfn (fun h => ?_) (fun h => ?_) | with_reducible refine bwtb (fun h => ?_) (fun h => ?_) | with_reducible refine bwfb (fun h => ?_) (fun h => ?_) | with_reducible refine bwt (fun h => ?_) (fun h => ?_) | with_reducible refine bwf (fun h => ?_) (fun h => ?_) | with_reducible refine bnt (fun h => ?_) (fun h => ?_) | with_reducible refine bcase (fun h => ?_) (fun h => ?_)) <;> (conv => whnf))
        · exact kB hK (by simp [hok, hv, lastKnown, factsOK]; intros; omega)
        · rw [hw]; exact sw_kc [1, 3] 1 (by simp [hH]) (by simp) rfl rfl (next (by simp_all [lastKnown, factsOK]))
      · (refine sgo_sound [] 1000 ?_; conv => whnf)
        exact kB hK (by simp [hok, hv, lastKnown, factsOK, h])

def hit (person name : ByteArray) (day known : Int) (f : Fact) : Bool :=
  decide (f.known ≤ known ∧ f.lo ≤ day ∧ day < f.hi ∧ f.name = name ∧ f.person = person)
def lastHit (q : Fact → Bool) : Nat → List Fact → Option (Nat × Fact)
  | _, [] => none
  | i, f :: r => match lastHit q (i + 1) r with
    | some x => some x
    | none => if q f then some (i, f) else none
theorem lastHit_none (q : Fact → Bool) (l : List Fact) (i : Nat) (h : ∀ f ∈ l, q f = false) : lastHit q i l = none := by
  induction l generalizing i with
  | nil => rfl
  | cons f r ih => simp [lastHit, ih (i + 1) (fun x hx => h x (by simp [hx])), h f (by simp)]
theorem lastHit_at (q : Fact → Bool) (init back : List Fact) (p : Fact) (hp : q p = true) (i : Nat) (h : ∀ f ∈ back, q f = false) : lastHit q i (init ++ p :: back) = some (i + init.length, p) := by
  induction init generalizing i with
  | nil => simp [lastHit, lastHit_none q back (i + 1) h, hp]
  | cons f r ih => simp [lastHit, ih (i + 1)]; omega
def look (person name : ByteArray) (day known : Int) (l : List Fact) : Int × Int × Bool :=
  match lastHit (hit person name day known) 0 l with
  | none => (0, -1, false)
  | some (i, f) => if f.gone then (0, -1, false) else (f.value, i, true)
def lookIx (person name : ByteArray) (day known : Int) (l : List Fact) : Int :=
  match lastHit (hit person name day known) 0 l with
  | none => -1
  | some (i, _) => i
def lookSV (r : Int × Int × Bool) : SV := .tup [sI r.1, sI r.2.1, sB r.2.2]

theorem lookup_spec (l : List Fact) (person name : ByteArray) (day known : Int) (hsz : l.length ≤ 9223372036854775807) :
    SPure Tryz.prog G 39 [storeSV l, sS person, sS name, sI day, sI known] (lookSV (look person name day known l)) := by
  refine spure_enter Tryz.func39 rfl (by rw [Tryz.ntmps39]; simp) rfl rfl ?_; intro E hH hK
  have hlen : (l.map Fact.cells).length = l.length := by simp
  have hw0 : IntKind.i64.wrap ((((l.map Fact.cells).length : Nat) : Int) - 1) = (l.length : Int) - 1 := by rw [wrap64 (by omega) (by omega)]; omega
  (refine sgo_sound [] 1000 ?_; conv => whnf)
  rw [hw0]
  refine sw_keep [1, 2, 3, 4, 5, 13] ?_
  refine sw_loop_ind (σ := List Fact × List Fact) (fun x => [(1, sS person), (2, sS name), (3, sI day), (4, sI known), (5, .ptr 0 0), (13, sI (x.1.length - 1))])
    (fun _ => [.cells [.imm (dFacts l)]])
    (fun x => l = x.1 ++ x.2 ∧ ∀ f ∈ x.2, hit person name day known f = false) (fun x => x.1.length) ?_ (l, []) ⟨by simp, by simp⟩
  rintro ⟨front, back⟩ ⟨ha, hv⟩ ih
  dsimp only at ha hv ih ⊢
  have hl2 : front.length + back.length = l.length := by rw [ha]; simp
  rcases split_last front with rfl | ⟨init, p, rfl⟩
  · have h0 : ([] : List Fact).length = 0 := rfl
    (refine sgo_sound [] 1000 ?_; conv => whnf)
    repeat' ((first | with_reducible refine bdec (fun h => ?_) (fun h => ?_) | with_reducible refine bndec (fun h => ?_) (fun h => ?_) | with_reducible refine bwtd (fun h => ?_) (fun h => ?_) | with_reducible refine bwfd (fun h => ?_) (fun h => ?_) | with_reducible refine bwtn (fun h => ?_) (fun h => ?_) | with_reducible refine bwfn (fun h => ?_) (fun h => ?_) | with_reducible refine bwtb (fun h => ?_) (fun h => ?_) | with_reducible refine bwfb (fun h => ?_) (fun h => ?_) | with_reducible refine bwt (fun h => ?_) (fun h => ?_) | with_reducible refine bwf (fun h => ?_) (fun h => ?_) | with_reducible refine bnt (fun h => ?_) (fun h => ?_) | with_reducible refine bcase (fun h => ?_) (fun h => ?_)) <;> (conv => whnf))
    all_goals try (exfalso; omega)
    exact kR hK (by rw [look, lastHit_none]; rfl; simpa [ha] using hv)
  · have hm : (((init ++ [p]).length : Nat) : Int) - 1 = ((init.length : Nat) : Int) := by simp
    have hw : IntKind.i64.wrap ((((init ++ [p]).length : Nat) : Int) - 1 - 1) = ((init.length : Nat) : Int) - 1 := by simp at hl2; rw [wrap64 (by simp; omega) (by simp; omega)]; simp
    have found : hit person name day known p = true → look person name day known l = if p.gone then (0, -1, false) else (p.value, ((init ++ [p]).length : Int) - 1, true) := fun h => by
      rw [look, ha, List.append_assoc, List.singleton_append, lastHit_at _ _ _ _ h 0 hv]; simp
    have next : hit person name day known p = false → _ := fun h => ih (init, p :: back) ⟨by simp [ha], by simpa [h] using hv⟩ (by simp)
    have hil : (init ++ [p]).length = init.length + 1 := by simp
    (refine sgo_sound [] 1000 ?_; conv => whnf)
    repeat' ((first | with_reducible refine bdec (fun h => ?_) (fun h => ?_) | with_reducible refine bndec (fun h => ?_) (fun h => ?_) | with_reducible refine bwtd (fun h => ?_) (fun h => ?_) | with_reducible refine bwfd (fun h => ?_) (fun h => ?_) | with_reducible refine bwtn (fun h => ?_) (fun h => ?_) | with_reducible refine bwfn (fun h => ?_) (fun h => ?_) | with_reducible refine bwtb (fun h => ?_) (fun h => ?_) | with_reducible refine bwfb (fun h => ?_) (fun h => ?_) | with_reducible refine bwt (fun h => ?_) (fun h => ?_) | with_reducible refine bwf (fun h => ?_) (fun h => ?_) | with_reducible refine bnt (fun h => ?_) (fun h => ?_) | with_reducible refine bcase (fun h => ?_) (fun h => ?_)) <;> (conv => whnf))
    all_goals try (exfalso; omega)
    all_goals refine swr_index rfl rfl rfl rfl rfl rfl rfl  hm (row := p.cells) (by simp [ha]) ?_
    all_goals (refine sgor_sound [] 1000 ?_; conv => whnf)
    all_goals repeat' ((first | with_reducible refine bdec (fun h => ?_) (fun h => ?_) | with_reducible refine bndec (fun h => ?_) (fun h => ?_) | with_reducible refine bwtd (fun h => ?_) (fun h => ?_) | with_reducible refine bwfd (fun h => ?_) (fun h => ?_) | with_reducible refine bwtn (fun h => ?_) (fun h => ?_) | with_reducible refine bwfn (fun h => ?_) (fun h => ?_) | with_reducible refine bwtb (fun h => ?_) (fun h => ?_) | with_reducible refine bwfb (fun h => ?_) (fun h => ?_) | with_reducible refine bwt (fun h => ?_) (fun h => ?_) | with_reducible refine bwf (fun h => ?_) (fun h => ?_) | with_reducible refine bnt (fun h => ?_) (fun h => ?_) | with_reducible refine bcase (fun h => ?_) (fun h => ?_)) <;> (conv => whnf))
    any_goals (rw [hw]; exact sw_kc [1, 2, 3, 4, 5, 13] 1 (by simp [hH]) (by simp) rfl rfl (next (by simp [hit]; intros; first | omega | simp_all)))
    all_goals exact kR hK (by rw [found (by simp_all [hit]), h]; rfl)

theorem counts_spec (l : List Fact) (person name : ByteArray) (day known : Int) (hsz : l.length ≤ 9223372036854775807) :
    SPure Tryz.prog G 85 [storeSV l, sS person, sS name, sI day, sI known] (sI (lookIx person name day known l)) := by
  refine spure_enter Tryz.func85 rfl (by rw [Tryz.ntmps85]; simp) rfl rfl ?_; intro E hH hK
  have hlen : (l.map Fact.cells).length = l.length := by simp
  have hw0 : IntKind.i64.wrap ((((l.map Fact.cells).length : Nat) : Int) - 1) = (l.length : Int) - 1 := by rw [wrap64 (by omega) (by omega)]; omega
  (refine sgo_sound [] 1000 ?_; conv => whnf)
  rw [hw0]
  refine sw_keep [1, 2, 3, 4, 5, 11] ?_
  refine sw_loop_ind (σ := List Fact × List Fact) (fun x => [(1, sS person), (2, sS name), (3, sI day), (4, sI known), (5, .ptr 0 0), (11, sI (x.1.length - 1))])
    (fun _ => [.cells [.imm (dFacts l)]])
    (fun x => l = x.1 ++ x.2 ∧ ∀ f ∈ x.2, hit person name day known f = false) (fun x => x.1.length) ?_ (l, []) ⟨by simp, by simp⟩
  rintro ⟨front, back⟩ ⟨ha, hv⟩ ih
  dsimp only at ha hv ih ⊢
  have hl2 : front.length + back.length = l.length := by rw [ha]; simp
  rcases split_last front with rfl | ⟨init, p, rfl⟩
  · have h0 : ([] : List Fact).length = 0 := rfl
    (refine sgo_sound [] 1000 ?_; conv => whnf)
    repeat' ((first | with_reducible refine bdec (fun h => ?_) (fun h => ?_) | with_reducible refine bndec (fun h => ?_) (fun h => ?_) | with_reducible refine bwtd (fun h => ?_) (fun h => ?_) | with_reducible refine bwfd (fun h => ?_) (fun h => ?_) | with_reducible refine bwtn (fun h => ?_) (fun h => ?_) | with_reducible refine bwfn (fun h => ?_) (fun h => ?_) | with_reducible refine bwtb (fun h => ?_) (fun h => ?_) | with_reducible refine bwfb (fun h => ?_) (fun h => ?_) | with_reducible refine bwt (fun h => ?_) (fun h => ?_) | with_reducible refine bwf (fun h => ?_) (fun h => ?_) | with_reducible refine bnt (fun h => ?_) (fun h => ?_) | with_reducible refine bcase (fun h => ?_) (fun h => ?_)) <;> (conv => whnf))
    all_goals try (exfalso; omega)
    exact kI hK (by rw [lookIx, lastHit_none]; simpa [ha] using hv)
  · have hm : (((init ++ [p]).length : Nat) : Int) - 1 = ((init.length : Nat) : Int) := by simp
    have hw : IntKind.i64.wrap ((((init ++ [p]).length : Nat) : Int) - 1 - 1) = ((init.length : Nat) : Int) - 1 := by simp at hl2; rw [wrap64 (by simp; omega) (by simp; omega)]; simp
    have found : hit person name day known p = true → lookIx person name day known l = ((init ++ [p]).length : Int) - 1 := fun h => by
      rw [lookIx, ha, List.append_assoc, List.singleton_append, lastHit_at _ _ _ _ h 0 hv]; simp
    have next : hit person name day known p = false → _ := fun h => ih (init, p :: back) ⟨by simp [ha], by simpa [h] using hv⟩ (by simp)
    have hil : (init ++ [p]).length = init.length + 1 := by simp
    (refine sgo_sound [] 1000 ?_; conv => whnf)
    repeat' ((first | with_reducible refine bdec (fun h => ?_) (fun h => ?_) | with_reducible refine bndec (fun h => ?_) (fun h => ?_) | with_reducible refine bwtd (fun h => ?_) (fun h => ?_) | with_reducible refine bwfd (fun h => ?_) (fun h => ?_) | with_reducible refine bwtn (fun h => ?_) (fun h => ?_) | with_reducible refine bwfn (fun h => ?_) (fun h => ?_) | with_reducible refine bwtb (fun h => ?_) (fun h => ?_) | with_reducible refine bwfb (fun h => ?_) (fun h => ?_) | with_reducible refine bwt (fun h => ?_) (fun h => ?_) | with_reducible refine bwf (fun h => ?_) (fun h => ?_) | with_reducible refine bnt (fun h => ?_) (fun h => ?_) | with_reducible refine bcase (fun h => ?_) (fun h => ?_)) <;> (conv => whnf))
    all_goals try (exfalso; omega)
    all_goals refine swr_index rfl rfl rfl rfl rfl rfl rfl  hm (row := p.cells) (by simp [ha]) ?_
    all_goals (refine sgor_sound [] 1000 ?_; conv => whnf)
    all_goals repeat' ((first | with_reducible refine bdec (fun h => ?_) (fun h => ?_) | with_reducible refine bndec (fun h => ?_) (fun h => ?_) | with_reducible refine bwtd (fun h => ?_) (fun h => ?_) | with_reducible refine bwfd (fun h => ?_) (fun h => ?_) | with_reducible refine bwtn (fun h => ?_) (fun h => ?_) | with_reducible refine bwfn (fun h => ?_) (fun h => ?_) | with_reducible refine bwtb (fun h => ?_) (fun h => ?_) | with_reducible refine bwfb (fun h => ?_) (fun h => ?_) | with_reducible refine bwt (fun h => ?_) (fun h => ?_) | with_reducible refine bwf (fun h => ?_) (fun h => ?_) | with_reducible refine bnt (fun h => ?_) (fun h => ?_) | with_reducible refine bcase (fun h => ?_) (fun h => ?_)) <;> (conv => whnf))
    any_goals (rw [hw]; exact sw_kc [1, 2, 3, 4, 5, 11] 1 (by simp [hH]) (by simp) rfl rfl (next (by simp [hit]; intros; first | omega | simp_all)))
    all_goals exact kI hK (by rw [found (by simp_all [hit])])

theorem lastHit_get (q : Fact → Bool) (l : List Fact) (k i : Nat) (f : Fact) (h : lastHit q k l = some (i, f)) : k ≤ i ∧ l[i - k]? = some f := by
  induction l generalizing k with
  | nil => simp [lastHit] at h
  | cons g r ih =>
    unfold lastHit at h
    cases hr : lastHit q (k + 1) r with
    | none =>
      rw [hr] at h
      cases hq : q g <;> simp [hq] at h
      obtain ⟨rfl, rfl⟩ := h
      simp
    | some x =>
      rw [hr] at h
      obtain ⟨h1, h2⟩ := ih (k + 1) (by rw [hr]; exact h)
      refine ⟨by omega, ?_⟩
      rw [show i - k = (i - (k + 1)) + 1 by omega]
      simpa using h2

theorem value12_spec (l : List Fact) (person name : ByteArray) (day known : Int) (hsz : l.length ≤ 9223372036854775807) :
    SPure Tryz.prog G 68 [storeSV l, sS person, sS name, sI day, sI known] (lookSV (look person name day known l)) := by
  refine spure_enter Tryz.func68 rfl (by rw [Tryz.ntmps68]; simp) rfl rfl ?_; intro E hH hK
  (refine sgo_sound [] 1000 ?_; conv => whnf)
  refine swr_pure rfl rfl rfl rfl rfl rfl  (counts_spec G l person name day known hsz) ?_
  cases hq : lastHit (hit person name day known) 0 l with
  | none =>
    have e1 : lookIx person name day known l = -1 := by rw [lookIx, hq]
    have e2 : look person name day known l = (0, -1, false) := by rw [look, hq]
    rw [e2] at hK
    rw [e1]
    (refine sgor_sound [] 1000 ?_; conv => whnf)
    exact hK _
  | some x =>
    obtain ⟨i, f⟩ := x
    have e1 : lookIx person name day known l = i := by rw [lookIx, hq]
    have e2 : look person name day known l = if f.gone then (0, -1, false) else (f.value, (i : Int), true) := by rw [look, hq]
    have e3 := (lastHit_get _ _ _ _ _ hq).2
    rw [e2] at hK
    rw [e1]
    (refine sgor_sound [] 1000 ?_; conv => whnf)
    repeat' ((first | with_reducible refine bdec (fun h => ?_) (fun h => ?_) | with_reducible refine bndec (fun h => ?_) (fun h => ?_) | with_reducible refine bwtd (fun h => ?_) (fun h => ?_) | with_reducible refine bwfd (fun h => ?_) (fun h => ?_) | with_reducible refine bwtn (fun h => ?_) (fun h => ?_) | with_reducible refine bwfn (fun h => ?_) (fun h => ?_) | with_reducible refine bwtb (fun h => ?_) (fun h => ?_) | with_reducible refine bwfb (fun h => ?_) (fun h => ?_) | with_reducible refine bwt (fun h => ?_) (fun h => ?_) | with_reducible refine bwf (fun h => ?_) (fun h => ?_) | with_reducible refine bnt (fun h => ?_) (fun h => ?_) | with_reducible refine bcase (fun h => ?_) (fun h => ?_)) <;> (conv => whnf))
    all_goals try (exfalso; omega)
    refine swr_index rfl rfl rfl rfl rfl rfl rfl rfl  (row := f.cells) (by simp at e3; simp [e3]) ?_
    (refine sgor_sound [] 1000 ?_; conv => whnf)
    repeat' ((first | with_reducible refine bdec (fun h => ?_) (fun h => ?_) | with_reducible refine bndec (fun h => ?_) (fun h => ?_) | with_reducible refine bwtd (fun h => ?_) (fun h => ?_) | with_reducible refine bwfd (fun h => ?_) (fun h => ?_) | with_reducible refine bwtn (fun h => ?_) (fun h => ?_) | with_reducible refine bwfn (fun h => ?_) (fun h => ?_) | with_reducible refine bwtb (fun h => ?_) (fun h => ?_) | with_reducible refine bwfb (fun h => ?_) (fun h => ?_) | with_reducible refine bwt (fun h => ?_) (fun h => ?_) | with_reducible refine bwf (fun h => ?_) (fun h => ?_) | with_reducible refine bnt (fun h => ?_) (fun h => ?_) | with_reducible refine bcase (fun h => ?_) (fun h => ?_)) <;> (conv => whnf))
    · exact kR hK (by rw [h]; rfl)
    · refine swr_index rfl rfl rfl rfl rfl rfl rfl rfl  (row := f.cells) (by simp at e3; simp [e3]) ?_
      (refine sgor_sound [] 1000 ?_; conv => whnf)
      exact kR hK (by rw [h]; rfl)

def valueOf (person name : ByteArray) (day known : Int) (l : List Fact) : Int × Int × Bool :=
  if storeOK l then look person name day known l else (0, -1, false)
theorem factsValue_spec (l : List Fact) (person name : ByteArray) (day known : Int) :
    SPure Tryz.prog G 23 [storeSV l, sS person, sS name, sI day, sI known] (lookSV (valueOf person name day known l)) := by
  refine spure_enter Tryz.func23 rfl (by rw [Tryz.ntmps23]; simp) rfl rfl ?_; intro E hH hK
  (refine sgo_sound [] 1000 ?_; conv => whnf)
  refine swr_pure rfl rfl rfl rfl rfl rfl  (factsValid_spec G l) ?_
  (refine sgor_sound [] 1000 ?_; conv => whnf)
  repeat' ((first | with_reducible refine bdec (fun h => ?_) (fun h => ?_) | with_reducible refine bndec (fun h => ?_) (fun h => ?_) | with_reducible refine bwtd (fun h => ?_) (fun h => ?_) | with_reducible refine bwfd (fun h => ?_) (fun h => ?_) | with_reducible refine bwtn (fun h => ?_) (fun h => ?_) | with_reducible refine bwfn (fun h => ?_) (fun h => ?_) | with_reducible refine bwtb (fun h => ?_) (fun h => ?_) | with_reducible refine bwfb (fun h => ?_) (fun h => ?_) | with_reducible refine bwt (fun h => ?_) (fun h => ?_) | with_reducible refine bwf (fun h => ?_) (fun h => ?_) | with_reducible refine bnt (fun h => ?_) (fun h => ?_) | with_reducible refine bcase (fun h => ?_) (fun h => ?_)) <;> (conv => whnf))
  · exact kR hK (by simp [valueOf, h]; rfl)
  · have hsz : l.length ≤ 9223372036854775807 := by simp [storeOK] at h; omega
    refine swr_pure rfl rfl rfl rfl rfl rfl  (lookup_spec G l person name day known hsz) ?_
    (refine sgor_sound [] 1000 ?_; conv => whnf)
    exact kR hK (by simp [valueOf, h]; rfl)
theorem refValue12_spec (l : List Fact) (person name : ByteArray) (day known : Int) (hfit : ∀ f ∈ l, f.fit) :
    SPure Tryz.prog G 50 [storeSV l, sS person, sS name, sI day, sI known] (lookSV (valueOf person name day known l)) := by
  refine spure_enter Tryz.func50 rfl (by rw [Tryz.ntmps50]; simp) rfl rfl ?_; intro E hH hK
  (refine sgo_sound [] 1000 ?_; conv => whnf)
  refine swr_pure rfl rfl rfl rfl rfl rfl  (refValid12_spec G l hfit) ?_
  (refine sgor_sound [] 1000 ?_; conv => whnf)
  repeat' ((first | with_reducible refine bdec (fun h => ?_) (fun h => ?_) | with_reducible refine bndec (fun h => ?_) (fun h => ?_) | with_reducible refine bwtd (fun h => ?_) (fun h => ?_) | with_reducible refine bwfd (fun h => ?_) (fun h => ?_) | with_reducible refine bwtn (fun h => ?_) (fun h => ?_) | with_reducible refine bwfn (fun h => ?_) (fun h => ?_) | with_reducible refine bwtb (fun h => ?_) (fun h => ?_) | with_reducible refine bwfb (fun h => ?_) (fun h => ?_) | with_reducible refine bwt (fun h => ?_) (fun h => ?_) | with_reducible refine bwf (fun h => ?_) (fun h => ?_) | with_reducible refine bnt (fun h => ?_) (fun h => ?_) | with_reducible refine bcase (fun h => ?_) (fun h => ?_)) <;> (conv => whnf))
  · exact kR hK (by simp [valueOf, h]; rfl)
  · have hsz : l.length ≤ 9223372036854775807 := by simp [storeOK] at h; omega
    refine swr_pure rfl rfl rfl rfl rfl rfl  (value12_spec G l person name day known hsz) ?_
    (refine sgor_sound [] 1000 ?_; conv => whnf)
    exact kR hK (by simp [valueOf, h]; rfl)

end Go.Proofs.YthmkdghoaifkbaaGreatDoor

/- Contracts, part g: comparing lists and views. -/
namespace Go.Proofs.YthmkdghoaifkbaaGreatDoor
open Go Go.Sh
set_option maxRecDepth 10000
variable (G : List (Nat × D))

theorem equalInts_spec (a b : List Int) (hsz : a.length ≤ 9223372036854775807) : SPure Tryz.prog G 36 [.imm (dInts a), .imm (dInts b)] (sB (decide (a = b))) := by
  refine spure_enter Tryz.func36 rfl (by rw [Tryz.ntmps36]; simp) rfl rfl ?_; intro E hH hK
  have hla : (a.map fun n => [dI n]).length = a.length := by simp
  have hlb : (b.map fun n => [dI n]).length = b.length := by simp
  (refine sgo_sound [] 1000 ?_; conv => whnf)
  repeat' ((first | with_reducible refine bdec (fun h => ?_) (fun h => ?_) | with_reducible refine bndec (fun h => ?_) (fun h => ?_) | with_reducible refine bwtd (fun h => ?_) (fun h => ?_) | with_reducible refine bwfd (fun h => ?_) (fun h => ?_) | with_reducible refine bwtn (fun h => ?_) (fun h => ?_) | with_reducible refine bwfn (fun h => ?_) (fun h => ?_) | with_reducible refine bwtb (fun h => ?_) (fun h => ?_) | with_reducible refine bwfb (fun h => ?_) (fun h => ?_) | with_reducible refine bwt (fun h => ?_) (fun h => ?_) | with_reducible refine bwf (fun h => ?_) (fun h => ?_) | with_reducible refine bnt (fun h => ?_) (fun h => ?_) | with_reducible refine bcase (fun h => ?_) (fun h => ?_)) <;> (conv => whnf))
  any_goals exact kB hK (by simp; intro e; subst e; exact h rfl)
  refine sw_keep [0, 1, 12, 13] ?_
  refine sw_loop_ind (σ := List Int × List Int × List Int) (fun x => [(0, .imm (dInts a)), (1, .imm (dInts b)), (12, sI (a.map fun n => [dI n]).length), (13, sI x.1.length)])
    (fun _ => []) (fun x => a = x.1 ++ x.2.1 ∧ b = x.1 ++ x.2.2) (fun x => x.2.1.length) ?_ ([], a, b) ⟨rfl, rfl⟩
  rintro ⟨done, ra, rb⟩ ⟨ha, hb⟩ ih
  dsimp only at ha hb ih ⊢
  have hl1 : done.length + ra.length = a.length := by rw [ha]; simp
  have hl2 : done.length + rb.length = b.length := by rw [hb]; simp
  cases ra with
  | nil =>
    simp at hl1
    have : rb = [] := List.length_eq_zero_iff.1 (by omega)
    (refine sgo_sound [] 1000 ?_; conv => whnf)
    repeat' ((first | with_reducible refine bdec (fun h => ?_) (fun h => ?_) | with_reducible refine bndec (fun h => ?_) (fun h => ?_) | with_reducible refine bwtd (fun h => ?_) (fun h => ?_) | with_reducible refine bwfd (fun h => ?_) (fun h => ?_) | with_reducible refine bwtn (fun h => ?_) (fun h => ?_) | with_reducible refine bwfn (fun h => ?_) (fun h => ?_) | with_reducible refine bwtb (fun h => ?_) (fun h => ?_) | with_reducible refine bwfb (fun h => ?_) (fun h => ?_) | with_reducible refine bwt (fun h => ?_) (fun h => ?_) | with_reducible refine bwf (fun h => ?_) (fun h => ?_) | with_reducible refine bnt (fun h => ?_) (fun h => ?_) | with_reducible refine bcase (fun h => ?_) (fun h => ?_)) <;> (conv => whnf))
    all_goals try (exfalso; omega)
    exact kB hK (by rw [ha, hb, this]; simp)
  | cons p ra =>
    cases rb with
    | nil => simp at hl1 hl2; omega
    | cons q rb =>
      simp at hl1 hl2
      have hw : IntKind.i64.wrap ((done.length : Int) + 1) = (((done ++ [p]).length : Nat) : Int) := by rw [wrap_succ (by omega)]; simp
      have next : q = p → _ := fun e => ih (done ++ [p], ra, rb) ⟨by simp [ha], by simp [hb, e]⟩ (by simp)
      have bad : q ≠ p → decide (a = b) = false := fun e => by simp [ha, hb, Ne.symm e]
      (refine sgo_sound [] 1000 ?_; conv => whnf)
      repeat' ((first | with_reducible refine bdec (fun h => ?_) (fun h => ?_) | with_reducible refine bndec (fun h => ?_) (fun h => ?_) | with_reducible refine bwtd (fun h => ?_) (fun h => ?_) | with_reducible refine bwfd (fun h => ?_) (fun h => ?_) | with_reducible refine bwtn (fun h => ?_) (fun h => ?_) | with_reducible refine bwfn (fun h => ?_) (fun h => ?_) | with_reducible refine bwtb (fun h => ?_) (fun h => ?_) | with_reducible refine bwfb (fun h => ?_) (fun h => ?_) | with_reducible refine bwt (fun h => ?_) (fun h => ?_) | with_reducible refine bwf (fun h => ?_) (fun h => ?_) | with_reducible refine bnt (fun h => ?_) (fun h => ?_) | with_reducible refine bcase (fun h => ?_) (fun h => ?_)) <;> (conv => whnf))
      all_goals try (exfalso; omega)
      (refine swd_start mixed rfl ?_; refine sgod_sound [] ?_; conv => whnf)
      refine swd_index rfl rfl rfl rfl rfl rfl rfl rfl  (row := [dI p]) (by simp [ha]) ?_
      (refine sgod_sound [] ?_; conv => whnf)
      refine swd_index rfl rfl rfl rfl rfl rfl rfl rfl  (row := [dI q]) (by simp [hb]) ?_
      (refine sgod_sound [] ?_; conv => whnf)
      (refine sgo_sound [] 1000 ?_; conv => whnf)
      repeat' ((first | with_reducible refine bdec (fun h => ?_) (fun h => ?_) | with_reducible refine bndec (fun h => ?_) (fun h => ?_) | with_reducible refine bwtd (fun h => ?_) (fun h => ?_) | with_reducible refine bwfd (fun h => ?_) (fun h => ?_) | with_reducible refine bwtn (fun h => ?_) (fun h => ?_) | with_reducible refine bwfn (fun h => ?_) (fun h => ?_) | with_reducible refine bwtb (fun h => ?_) (fun h => ?_) | with_reducible refine bwfb (fun h => ?_) (fun h => ?_) | with_reducible refine bwt (fun h => ?_) (fun h => ?_) | with_reducible refine bwf (fun h => ?_) (fun h => ?_) | with_reducible refine bnt (fun h => ?_) (fun h => ?_) | with_reducible refine bcase (fun h => ?_) (fun h => ?_)) <;> (conv => whnf))
      · exact kB hK (bad (fun e => h e.symm))
      · rw [hw]; exact sw_keep [0, 1, 12, 13] (next h.symm)

theorem equalBools_spec (a b : List Bool) (hsz : a.length ≤ 9223372036854775807) : SPure Tryz.prog G 35 [.imm (dBools a), .imm (dBools b)] (sB (decide (a = b))) := by
  refine spure_enter Tryz.func35 rfl (by rw [Tryz.ntmps35]; simp) rfl rfl ?_; intro E hH hK
  have hla : (a.map fun n => [dB n]).length = a.length := by simp
  have hlb : (b.map fun n => [dB n]).length = b.length := by simp
  (refine sgo_sound [] 1000 ?_; conv => whnf)
  repeat' ((first | with_reducible refine bdec (fun h => ?_) (fun h => ?_) | with_reducible refine bndec (fun h => ?_) (fun h => ?_) | with_reducible refine bwtd (fun h => ?_) (fun h => ?_) | with_reducible refine bwfd (fun h => ?_) (fun h => ?_) | with_reducible refine bwtn (fun h => ?_) (fun h => ?_) | with_reducible refine bwfn (fun h => ?_) (fun h => ?_) | with_reducible refine bwtb (fun h => ?_) (fun h => ?_) | with_reducible refine bwfb (fun h => ?_) (fun h => ?_) | with_reducible refine bwt (fun h => ?_) (fun h => ?_) | with_reducible refine bwf (fun h => ?_) (fun h => ?_) | with_reducible refine bnt (fun h => ?_) (fun h => ?_) | with_reducible refine bcase (fun h => ?_) (fun h => ?_)) <;> (conv => whnf))
  any_goals exact kB hK (by simp; intro e; subst e; exact h rfl)
  refine sw_keep [0, 1, 12, 13] ?_
  refine sw_loop_ind (σ := List Bool × List Bool × List Bool) (fun x => [(0, .imm (dBools a)), (1, .imm (dBools b)), (12, sI (a.map fun n => [dB n]).length), (13, sI x.1.length)])
    (fun _ => []) (fun x => a = x.1 ++ x.2.1 ∧ b = x.1 ++ x.2.2) (fun x => x.2.1.length) ?_ ([], a, b) ⟨rfl, rfl⟩
  rintro ⟨done, ra, rb⟩ ⟨ha, hb⟩ ih
  dsimp only at ha hb ih ⊢
  have hl1 : done.length + ra.length = a.length := by rw [ha]; simp
  have hl2 : done.length + rb.length = b.length := by rw [hb]; simp
  cases ra with
  | nil =>
    simp at hl1
    have : rb = [] := List.length_eq_zero_iff.1 (by omega)
    (refine sgo_sound [] 1000 ?_; conv => whnf)
    repeat' ((first | with_reducible refine bdec (fun h => ?_) (fun h => ?_) | with_reducible refine bndec (fun h => ?_) (fun h => ?_) | with_reducible refine bwtd (fun h => ?_) (fun h => ?_) | with_reducible refine bwfd (fun h => ?_) (fun h => ?_) | with_reducible refine bwtn (fun h => ?_) (fun h => ?_) | with_reducible refine bwfn (fun h => ?_) (fun h => ?_) | with_reducible refine bwtb (fun h => ?_) (fun h => ?_) | with_reducible refine bwfb (fun h => ?_) (fun h => ?_) | with_reducible refine bwt (fun h => ?_) (fun h => ?_) | with_reducible refine bwf (fun h => ?_) (fun h => ?_) | with_reducible refine bnt (fun h => ?_) (fun h => ?_) | with_reducible refine bcase (fun h => ?_) (fun h => ?_)) <;> (conv => whnf))
    all_goals try (exfalso; omega)
    exact kB hK (by rw [ha, hb, this]; simp)
  | cons p ra =>
    cases rb with
    | nil => simp at hl1 hl2; omega
    | cons q rb =>
      simp at hl1 hl2
      have hw : IntKind.i64.wrap ((done.length : Int) + 1) = (((done ++ [p]).length : Nat) : Int) := by rw [wrap_succ (by omega)]; simp
      have next : q = p → _ := fun e => ih (done ++ [p], ra, rb) ⟨by simp [ha], by simp [hb, e]⟩ (by simp)
      have bad : q ≠ p → decide (a = b) = false := fun e => by simp [ha, hb, Ne.symm e]
      (refine sgo_sound [] 1000 ?_; conv => whnf)
      repeat' ((first | with_reducible refine bdec (fun h => ?_) (fun h => ?_) | with_reducible refine bndec (fun h => ?_) (fun h => ?_) | with_reducible refine bwtd (fun h => ?_) (fun h => ?_) | with_reducible refine bwfd (fun h => ?_) (fun h => ?_) | with_reducible refine bwtn (fun h => ?_) (fun h => ?_) | with_reducible refine bwfn (fun h => ?_) (fun h => ?_) | with_reducible refine bwtb (fun h => ?_) (fun h => ?_) | with_reducible refine bwfb (fun h => ?_) (fun h => ?_) | with_reducible refine bwt (fun h => ?_) (fun h => ?_) | with_reducible refine bwf (fun h => ?_) (fun h => ?_) | with_reducible refine bnt (fun h => ?_) (fun h => ?_) | with_reducible refine bcase (fun h => ?_) (fun h => ?_)) <;> (conv => whnf))
      all_goals try (exfalso; omega)
      (refine swd_start mixed rfl ?_; refine sgod_sound [] ?_; conv => whnf)
      refine swd_index rfl rfl rfl rfl rfl rfl rfl rfl  (row := [dB p]) (by simp [ha]) ?_
      (refine sgod_sound [] ?_; conv => whnf)
      refine swd_index rfl rfl rfl rfl rfl rfl rfl rfl  (row := [dB q]) (by simp [hb]) ?_
      (refine sgod_sound [] ?_; conv => whnf)
      (refine sgo_sound [] 1000 ?_; conv => whnf)
      repeat' ((first | with_reducible refine bdec (fun h => ?_) (fun h => ?_) | with_reducible refine bndec (fun h => ?_) (fun h => ?_) | with_reducible refine bwtd (fun h => ?_) (fun h => ?_) | with_reducible refine bwfd (fun h => ?_) (fun h => ?_) | with_reducible refine bwtn (fun h => ?_) (fun h => ?_) | with_reducible refine bwfn (fun h => ?_) (fun h => ?_) | with_reducible refine bwtb (fun h => ?_) (fun h => ?_) | with_reducible refine bwfb (fun h => ?_) (fun h => ?_) | with_reducible refine bwt (fun h => ?_) (fun h => ?_) | with_reducible refine bwf (fun h => ?_) (fun h => ?_) | with_reducible refine bnt (fun h => ?_) (fun h => ?_) | with_reducible refine bcase (fun h => ?_) (fun h => ?_)) <;> (conv => whnf))
      · exact kB hK (bad (by intro e; subst e; simp at h))
      · rw [hw]; exact sw_keep [0, 1, 12, 13] (next (by first | exact h.symm | exact (by simpa using h : p = q).symm))

theorem sameInts_spec (a b : List Int) (hsz : a.length ≤ 9223372036854775807) : SPure Tryz.prog G 20 [.imm (dInts a), .imm (dInts b)] (sB (decide (a = b))) := by
  refine spure_enter Tryz.func20 rfl (by rw [Tryz.ntmps20]; simp) rfl rfl ?_; intro E hH hK
  have hla : (a.map fun n => [dI n]).length = a.length := by simp
  have hlb : (b.map fun n => [dI n]).length = b.length := by simp
  (refine sgo_sound [] 1000 ?_; conv => whnf)
  repeat' ((first | with_reducible refine bdec (fun h => ?_) (fun h => ?_) | with_reducible refine bndec (fun h => ?_) (fun h => ?_) | with_reducible refine bwtd (fun h => ?_) (fun h => ?_) | with_reducible refine bwfd (fun h => ?_) (fun h => ?_) | with_reducible refine bwtn (fun h => ?_) (fun h => ?_) | with_reducible refine bwfn (fun h => ?_) (fun h => ?_) | with_reducible refine bwtb (fun h => ?_) (fun h => ?_) | with_reducible refine bwfb (fun h => ?_) (fun h => ?_) | with_reducible refine bwt (fun h => ?_) (fun h => ?_) | with_reducible refine bwf (fun h => ?_) (fun h => ?_) | with_reducible refine bnt (fun h => ?_) (fun h => ?_) | with_reducible refine bcase (fun h => ?_) (fun h => ?_)) <;> (conv => whnf))
  any_goals exact kB hK (by simp; intro e; subst e; exact h rfl)
  refine sw_keep [0, 1, 5] ?_
  refine sw_loop_ind (σ := List Int × List Int × List Int) (fun x => [(0, .imm (dInts a)), (1, .imm (dInts b)), (5, sI x.1.length)])
    (fun _ => []) (fun x => a = x.1 ++ x.2.1 ∧ b = x.1 ++ x.2.2) (fun x => x.2.1.length) ?_ ([], a, b) ⟨rfl, rfl⟩
  rintro ⟨done, ra, rb⟩ ⟨ha, hb⟩ ih
  dsimp only at ha hb ih ⊢
  have hl1 : done.length + ra.length = a.length := by rw [ha]; simp
  have hl2 : done.length + rb.length = b.length := by rw [hb]; simp
  cases ra with
  | nil =>
    simp at hl1
    have : rb = [] := List.length_eq_zero_iff.1 (by omega)
    (refine sgo_sound [] 1000 ?_; conv => whnf)
    repeat' ((first | with_reducible refine bdec (fun h => ?_) (fun h => ?_) | with_reducible refine bndec (fun h => ?_) (fun h => ?_) | with_reducible refine bwtd (fun h => ?_) (fun h => ?_) | with_reducible refine bwfd (fun h => ?_) (fun h => ?_) | with_reducible refine bwtn (fun h => ?_) (fun h => ?_) | with_reducible refine bwfn (fun h => ?_) (fun h => ?_) | with_reducible refine bwtb (fun h => ?_) (fun h => ?_) | with_reducible refine bwfb (fun h => ?_) (fun h => ?_) | with_reducible refine bwt (fun h => ?_) (fun h => ?_) | with_reducible refine bwf (fun h => ?_) (fun h => ?_) | with_reducible refine bnt (fun h => ?_) (fun h => ?_) | with_reducible refine bcase (fun h => ?_) (fun h => ?_)) <;> (conv => whnf))
    all_goals try (exfalso; omega)
    exact kB hK (by rw [ha, hb, this]; simp)
  | cons p ra =>
    cases rb with
    | nil => simp at hl1 hl2; omega
    | cons q rb =>
      simp at hl1 hl2
      have hw : IntKind.i64.wrap ((done.length : Int) + 1) = (((done ++ [p]).length : Nat) : Int) := by rw [wrap_succ (by omega)]; simp
      have next : q = p → _ := fun e => ih (done ++ [p], ra, rb) ⟨by simp [ha], by simp [hb, e]⟩ (by simp)
      have bad : q ≠ p → decide (a = b) = false := fun e => by simp [ha, hb, Ne.symm e]
      (refine sgo_sound [] 1000 ?_; conv => whnf)
      repeat' ((first | with_reducible refine bdec (fun h => ?_) (fun h => ?_) | with_reducible refine bndec (fun h => ?_) (fun h => ?_) | with_reducible refine bwtd (fun h => ?_) (fun h => ?_) | with_reducible refine bwfd (fun h => ?_) (fun h => ?_) | with_reducible refine bwtn (fun h => ?_) (fun h => ?_) | with_reducible refine bwfn (fun h => ?_) (fun h => ?_) | with_reducible refine bwtb (fun h => ?_) (fun h => ?_) | with_reducible refine bwfb (fun h => ?_) (fun h => ?_) | with_reducible refine bwt (fun h => ?_) (fun h => ?_) | with_reducible refine bwf (fun h => ?_) (fun h => ?_) | with_reducible refine bnt (fun h => ?_) (fun h => ?_) | with_reducible refine bcase (fun h => ?_) (fun h => ?_)) <;> (conv => whnf))
      all_goals try (exfalso; omega)
      (refine swd_start mixed rfl ?_; refine sgod_sound [] ?_; conv => whnf)
      refine swd_index rfl rfl rfl rfl rfl rfl rfl rfl  (row := [dI p]) (by simp [ha]) ?_
      (refine sgod_sound [] ?_; conv => whnf)
      refine swd_index rfl rfl rfl rfl rfl rfl rfl rfl  (row := [dI q]) (by simp [hb]) ?_
      (refine sgod_sound [] ?_; conv => whnf)
      (refine sgo_sound [] 1000 ?_; conv => whnf)
      repeat' ((first | with_reducible refine bdec (fun h => ?_) (fun h => ?_) | with_reducible refine bndec (fun h => ?_) (fun h => ?_) | with_reducible refine bwtd (fun h => ?_) (fun h => ?_) | with_reducible refine bwfd (fun h => ?_) (fun h => ?_) | with_reducible refine bwtn (fun h => ?_) (fun h => ?_) | with_reducible refine bwfn (fun h => ?_) (fun h => ?_) | with_reducible refine bwtb (fun h => ?_) (fun h => ?_) | with_reducible refine bwfb (fun h => ?_) (fun h => ?_) | with_reducible refine bwt (fun h => ?_) (fun h => ?_) | with_reducible refine bwf (fun h => ?_) (fun h => ?_) | with_reducible refine bnt (fun h => ?_) (fun h => ?_) | with_reducible refine bcase (fun h => ?_) (fun h => ?_)) <;> (conv => whnf))
      · exact kB hK (bad (fun e => h e.symm))
      · rw [hw]; exact sw_keep [0, 1, 5] (next h.symm)


theorem viewSame_spec (v w : View) (hv : v.fit) : SPure Tryz.prog G 16 [v.sv, w.sv] (sB (v.same w)) := by
  refine spure_enter Tryz.func16 rfl (by rw [Tryz.ntmps16]; simp) rfl rfl ?_; intro E hH hK
  (refine sgo_sound [] 1000 ?_; conv => whnf)
  refine swr_pure rfl rfl rfl rfl rfl rfl  (equalBools_spec G v.has w.has hv.1) ?_
  (refine sgor_sound [] 1000 ?_; conv => whnf)
  repeat' ((first | with_reducible refine bdec (fun h => ?_) (fun h => ?_) | with_reducible refine bndec (fun h => ?_) (fun h => ?_) | with_reducible refine bwtd (fun h => ?_) (fun h => ?_) | with_reducible refine bwfd (fun h => ?_) (fun h => ?_) | with_reducible refine bwtn (fun h => ?_) (fun h => ?_) | with_reducible refine bwfn (fun h => ?_) (fun h => ?_) | with_reducible refine bwtb (fun h => ?_) (fun h => ?_) | with_reducible refine bwfb (fun h => ?_) (fun h => ?_) | with_reducible refine bwt (fun h => ?_) (fun h => ?_) | with_reducible refine bwf (fun h => ?_) (fun h => ?_) | with_reducible refine bnt (fun h => ?_) (fun h => ?_) | with_reducible refine bcase (fun h => ?_) (fun h => ?_)) <;> (conv => whnf))
  · refine swr_pure rfl rfl rfl rfl rfl rfl  (equalInts_spec G v.value w.value hv.2.1) ?_
    (refine sgor_sound [] 1000 ?_; conv => whnf)
    repeat' ((first | with_reducible refine bdec (fun h => ?_) (fun h => ?_) | with_reducible refine bndec (fun h => ?_) (fun h => ?_) | with_reducible refine bwtd (fun h => ?_) (fun h => ?_) | with_reducible refine bwfd (fun h => ?_) (fun h => ?_) | with_reducible refine bwtn (fun h => ?_) (fun h => ?_) | with_reducible refine bwfn (fun h => ?_) (fun h => ?_) | with_reducible refine bwtb (fun h => ?_) (fun h => ?_) | with_reducible refine bwfb (fun h => ?_) (fun h => ?_) | with_reducible refine bwt (fun h => ?_) (fun h => ?_) | with_reducible refine bwf (fun h => ?_) (fun h => ?_) | with_reducible refine bnt (fun h => ?_) (fun h => ?_) | with_reducible refine bcase (fun h => ?_) (fun h => ?_)) <;> (conv => whnf))
    · refine swr_pure rfl rfl rfl rfl rfl rfl  (equalInts_spec G v.arts w.arts hv.2.2) ?_
      (refine sgor_sound [] 1000 ?_; conv => whnf)
      exact kB hK (by simp_all [View.same])
    · exact kB hK (by simp_all [View.same])
  · exact kB hK (by simp_all [View.same])

theorem refSame13_spec (v w : View) (hv : v.fit) : SPure Tryz.prog G 17 [v.sv, w.sv] (sB (v.same w)) := by
  obtain ⟨hv1, hv2, hv3⟩ := hv
  refine spure_enter Tryz.func17 rfl (by rw [Tryz.ntmps17]; simp) rfl rfl ?_; intro E hH hK
  have hla : (v.has.map fun n => [dB n]).length = v.has.length := by simp
  have hlb : (w.has.map fun n => [dB n]).length = w.has.length := by simp
  have hlc : (v.value.map fun n => [dI n]).length = v.value.length := by simp
  have hld : (w.value.map fun n => [dI n]).length = w.value.length := by simp
  have hle : (v.arts.map fun n => [dI n]).length = v.arts.length := by simp
  have hlf : (w.arts.map fun n => [dI n]).length = w.arts.length := by simp
  (refine sgo_sound [] 1000 ?_; conv => whnf)
  repeat' ((first | with_reducible refine bdec (fun h => ?_) (fun h => ?_) | with_reducible refine bndec (fun h => ?_) (fun h => ?_) | with_reducible refine bwtd (fun h => ?_) (fun h => ?_) | with_reducible refine bwfd (fun h => ?_) (fun h => ?_) | with_reducible refine bwtn (fun h => ?_) (fun h => ?_) | with_reducible refine bwfn (fun h => ?_) (fun h => ?_) | with_reducible refine bwtb (fun h => ?_) (fun h => ?_) | with_reducible refine bwfb (fun h => ?_) (fun h => ?_) | with_reducible refine bwt (fun h => ?_) (fun h => ?_) | with_reducible refine bwf (fun h => ?_) (fun h => ?_) | with_reducible refine bnt (fun h => ?_) (fun h => ?_) | with_reducible refine bcase (fun h => ?_) (fun h => ?_)) <;> (conv => whnf))
  any_goals exact kB hK (by simp [View.same]; intro e1 e2 e3; first | (rw [e1] at h; exact h rfl) | (rw [e2] at h; exact h rfl) | (rw [e3] at h; exact h rfl))
  refine sw_kc [2, 3, 5] 2 (by simp [hH]) (by simp) rfl rfl ?_
  refine sw_loop_ind (σ := List Bool × List Bool × List Bool) (fun x => [(2, .ptr 0 0), (3, .ptr 1 0), (5, sI x.1.length)])
    (fun _ => [.cells [sI v.day, .imm (dBools v.has), .imm (dInts v.value), .imm (dInts v.arts)], .cells [sI w.day, .imm (dBools w.has), .imm (dInts w.value), .imm (dInts w.arts)]])
    (fun x => v.has = x.1 ++ x.2.1 ∧ w.has = x.1 ++ x.2.2) (fun x => x.2.1.length) ?_ ([], v.has, w.has) ⟨rfl, rfl⟩
  rintro ⟨done, ra, rb⟩ ⟨ha, hb⟩ ih
  dsimp only at ha hb ih ⊢
  have hl1 : done.length + ra.length = v.has.length := by rw [ha]; simp
  have hl2 : done.length + rb.length = w.has.length := by rw [hb]; simp
  cases ra with
  | cons p ra =>
    cases rb with
    | nil => simp at hl1 hl2; omega
    | cons q rb =>
      simp at hl1 hl2
      have hw : IntKind.i64.wrap ((done.length : Int) + 1) = (((done ++ [p]).length : Nat) : Int) := by rw [wrap_succ (by omega)]; simp
      have next : q = p → _ := fun e => ih (done ++ [p], ra, rb) ⟨by simp [ha], by simp [hb, e]⟩ (by simp)
      have bad : q ≠ p → v.same w = false := fun e => by simp [View.same, ha, hb, Ne.symm e]
      (refine sgo_sound [] 1000 ?_; conv => whnf)
      repeat' ((first | with_reducible refine bdec (fun h => ?_) (fun h => ?_) | with_reducible refine bndec (fun h => ?_) (fun h => ?_) | with_reducible refine bwtd (fun h => ?_) (fun h => ?_) | with_reducible refine bwfd (fun h => ?_) (fun h => ?_) | with_reducible refine bwtn (fun h => ?_) (fun h => ?_) | with_reducible refine bwfn (fun h => ?_) (fun h => ?_) | with_reducible refine bwtb (fun h => ?_) (fun h => ?_) | with_reducible refine bwfb (fun h => ?_) (fun h => ?_) | with_reducible refine bwt (fun h => ?_) (fun h => ?_) | with_reducible refine bwf (fun h => ?_) (fun h => ?_) | with_reducible refine bnt (fun h => ?_) (fun h => ?_) | with_reducible refine bcase (fun h => ?_) (fun h => ?_)) <;> (conv => whnf))
      all_goals try (exfalso; omega)
      (refine swd_start mixed rfl ?_; refine sgod_sound [] ?_; conv => whnf)
      refine swd_index rfl rfl rfl rfl rfl rfl rfl rfl  (row := [dB p]) (by simp [ha]) ?_
      (refine sgod_sound [] ?_; conv => whnf)
      refine swd_index rfl rfl rfl rfl rfl rfl rfl rfl  (row := [dB q]) (by simp [hb]) ?_
      (refine sgod_sound [] ?_; conv => whnf)
      (refine sgo_sound [] 1000 ?_; conv => whnf)
      repeat' ((first | with_reducible refine bdec (fun h => ?_) (fun h => ?_) | with_reducible refine bndec (fun h => ?_) (fun h => ?_) | with_reducible refine bwtd (fun h => ?_) (fun h => ?_) | with_reducible refine bwfd (fun h => ?_) (fun h => ?_) | with_reducible refine bwtn (fun h => ?_) (fun h => ?_) | with_reducible refine bwfn (fun h => ?_) (fun h => ?_) | with_reducible refine bwtb (fun h => ?_) (fun h => ?_) | with_reducible refine bwfb (fun h => ?_) (fun h => ?_) | with_reducible refine bwt (fun h => ?_) (fun h => ?_) | with_reducible refine bwf (fun h => ?_) (fun h => ?_) | with_reducible refine bnt (fun h => ?_) (fun h => ?_) | with_reducible refine bcase (fun h => ?_) (fun h => ?_)) <;> (conv => whnf))
      · exact kB hK (bad (by intro e; subst e; simp at h))
      · rw [hw]; exact sw_kc [2, 3, 5] 2 (by simp [hH]) (by simp) rfl rfl (next (by first | exact h.symm | exact (by simpa using h : p = q).symm))
  | nil =>
  simp at hl1
  obtain rfl : rb = [] := List.length_eq_zero_iff.1 (by omega)
  have e1 : v.has = w.has := by rw [ha, hb]
  clear ih ha hb hl2
  (refine sgo_sound [] 1000 ?_; conv => whnf)
  repeat' ((first | with_reducible refine bdec (fun h => ?_) (fun h => ?_) | with_reducible refine bndec (fun h => ?_) (fun h => ?_) | with_reducible refine bwtd (fun h => ?_) (fun h => ?_) | with_reducible refine bwfd (fun h => ?_) (fun h => ?_) | with_reducible refine bwtn (fun h => ?_) (fun h => ?_) | with_reducible refine bwfn (fun h => ?_) (fun h => ?_) | with_reducible refine bwtb (fun h => ?_) (fun h => ?_) | with_reducible refine bwfb (fun h => ?_) (fun h => ?_) | with_reducible refine bwt (fun h => ?_) (fun h => ?_) | with_reducible refine bwf (fun h => ?_) (fun h => ?_) | with_reducible refine bnt (fun h => ?_) (fun h => ?_) | with_reducible refine bcase (fun h => ?_) (fun h => ?_)) <;> (conv => whnf))
  all_goals try (exfalso; omega)
  refine sw_kc [2, 3, 6] 2 (by simp [hH]) (by simp) rfl rfl ?_
  refine sw_loop_ind (σ := List Int × List Int × List Int) (fun x => [(2, .ptr 0 0), (3, .ptr 1 0), (6, sI x.1.length)])
    (fun _ => [.cells [sI v.day, .imm (dBools v.has), .imm (dInts v.value), .imm (dInts v.arts)], .cells [sI w.day, .imm (dBools w.has), .imm (dInts w.value), .imm (dInts w.arts)]])
    (fun x => v.value = x.1 ++ x.2.1 ∧ w.value = x.1 ++ x.2.2) (fun x => x.2.1.length) ?_ ([], v.value, w.value) ⟨rfl, rfl⟩
  rintro ⟨done, ra, rb⟩ ⟨ha, hb⟩ ih
  dsimp only at ha hb ih ⊢
  have hl1 : done.length + ra.length = v.value.length := by rw [ha]; simp
  have hl2 : done.length + rb.length = w.value.length := by rw [hb]; simp
  cases ra with
  | cons p ra =>
    cases rb with
    | nil => simp at hl1 hl2; omega
    | cons q rb =>
      simp at hl1 hl2
      have hw : IntKind.i64.wrap ((done.length : Int) + 1) = (((done ++ [p]).length : Nat) : Int) := by rw [wrap_succ (by omega)]; simp
      have next : q = p → _ := fun e => ih (done ++ [p], ra, rb) ⟨by simp [ha], by simp [hb, e]⟩ (by simp)
      have bad : q ≠ p → v.same w = false := fun e => by simp [View.same, ha, hb, Ne.symm e]
      (refine sgo_sound [] 1000 ?_; conv => whnf)
      repeat' ((first | with_reducible refine bdec (fun h => ?_) (fun h => ?_) | with_reducible refine bndec (fun h => ?_) (fun h => ?_) | with_reducible refine bwtd (fun h => ?_) (fun h => ?_) | with_reducible refine bwfd (fun h => ?_) (fun h => ?_) | with_reducible refine bwtn (fun h => ?_) (fun h => ?_) | with_reducible refine bwfn (fun h => ?_) (fun h => ?_) | with_reducible refine bwtb (fun h => ?_) (fun h => ?_) | with_reducible refine bwfb (fun h => ?_) (fun h => ?_) | with_reducible refine bwt (fun h => ?_) (fun h => ?_) | with_reducible refine bwf (fun h => ?_) (fun h => ?_) | with_reducible refine bnt (fun h => ?_) (fun h => ?_) | with_reducible refine bcase (fun h => ?_) (fun h => ?_)) <;> (conv => whnf))
      all_goals try (exfalso; omega)
      (refine swd_start mixed rfl ?_; refine sgod_sound [] ?_; conv => whnf)
      refine swd_index rfl rfl rfl rfl rfl rfl rfl rfl  (row := [dI p]) (by simp [ha]) ?_
      (refine sgod_sound [] ?_; conv => whnf)
      refine swd_index rfl rfl rfl rfl rfl rfl rfl rfl  (row := [dI q]) (by simp [hb]) ?_
      (refine sgod_sound [] ?_; conv => whnf)
      (refine sgo_sound [] 1000 ?_; conv => whnf)
      repeat' ((first | with_reducible refine bdec (fun h => ?_) (fun h => ?_) | with_reducible refine bndec (fun h => ?_) (fun h => ?_) | with_reducible refine bwtd (fun h => ?_) (fun h => ?_) | with_reducible refine bwfd (fun h => ?_) (fun h => ?_) | with_reducible refine bwtn (fun h => ?_) (fun h => ?_) | with_reducible refine bwfn (fun h => ?_) (fun h => ?_) | with_reducible refine bwtb (fun h => ?_) (fun h => ?_) | with_reducible refine bwfb (fun h => ?_) (fun h => ?_) | with_reducible refine bwt (fun h => ?_) (fun h => ?_) | with_reducible refine bwf (fun h => ?_) (fun h => ?_) | with_reducible refine bnt (fun h => ?_) (fun h => ?_) | with_reducible refine bcase (fun h => ?_) (fun h => ?_)) <;> (conv => whnf))
      · exact kB hK (bad (by intro e; subst e; simp at h))
      · rw [hw]; exact sw_kc [2, 3, 6] 2 (by simp [hH]) (by simp) rfl rfl (next (by first | exact h.symm | exact (by simpa using h : p = q).symm))
  | nil =>
  simp at hl1
  obtain rfl : rb = [] := List.length_eq_zero_iff.1 (by omega)
  have e2 : v.value = w.value := by rw [ha, hb]
  clear ih ha hb hl2
  (refine sgo_sound [] 1000 ?_; conv => whnf)
  repeat' ((first | with_reducible refine bdec (fun h => ?_) (fun h => ?_) | with_reducible refine bndec (fun h => ?_) (fun h => ?_) | with_reducible refine bwtd (fun h => ?_) (fun h => ?_) | with_reducible refine bwfd (fun h => ?_) (fun h => ?_) | with_reducible refine bwtn (fun h => ?_) (fun h => ?_) | with_reducible refine bwfn (fun h => ?_) (fun h => ?_) | with_reducible refine bwtb (fun h => ?_) (fun h => ?_) | with_reducible refine bwfb (fun h => ?_) (fun h => ?_) | with_reducible refine bwt (fun h => ?_) (fun h => ?_) | with_reducible refine bwf (fun h => ?_) (fun h => ?_) | with_reducible refine bnt (fun h => ?_) (fun h => ?_) | with_reducible refine bcase (fun h => ?_) (fun h => ?_)) <;> (conv => whnf))
  all_goals try (exfalso; omega)
  refine sw_kc [2, 3, 7] 2 (by simp [hH]) (by simp) rfl rfl ?_
  refine sw_loop_ind (σ := List Int × List Int × List Int) (fun x => [(2, .ptr 0 0), (3, .ptr 1 0), (7, sI x.1.length)])
    (fun _ => [.cells [sI v.day, .imm (dBools v.has), .imm (dInts v.value), .imm (dInts v.arts)], .cells [sI w.day, .imm (dBools w.has), .imm (dInts w.value), .imm (dInts w.arts)]])
    (fun x => v.arts = x.1 ++ x.2.1 ∧ w.arts = x.1 ++ x.2.2) (fun x => x.2.1.length) ?_ ([], v.arts, w.arts) ⟨rfl, rfl⟩
  rintro ⟨done, ra, rb⟩ ⟨ha, hb⟩ ih
  dsimp only at ha hb ih ⊢
  have hl1 : done.length + ra.length = v.arts.length := by rw [ha]; simp
  have hl2 : done.length + rb.length = w.arts.length := by rw [hb]; simp
  cases ra with
  | cons p ra =>
    cases rb with
    | nil => simp at hl1 hl2; omega
    | cons q rb =>
      simp at hl1 hl2
      have hw : IntKind.i64.wrap ((done.length : Int) + 1) = (((done ++ [p]).length : Nat) : Int) := by rw [wrap_succ (by omega)]; simp
      have next : q = p → _ := fun e => ih (done ++ [p], ra, rb) ⟨by simp [ha], by simp [hb, e]⟩ (by simp)
      have bad : q ≠ p → v.same w = false := fun e => by simp [View.same, ha, hb, Ne.symm e]
      (refine sgo_sound [] 1000 ?_; conv => whnf)
      repeat' ((first | with_reducible refine bdec (fun h => ?_) (fun h => ?_) | with_reducible refine bndec (fun h => ?_) (fun h => ?_) | with_reducible refine bwtd (fun h => ?_) (fun h => ?_) | with_reducible refine bwfd (fun h => ?_) (fun h => ?_) | with_reducible refine bwtn (fun h => ?_) (fun h => ?_) | with_reducible refine bwfn (fun h => ?_) (fun h => ?_) | with_reducible refine bwtb (fun h => ?_) (fun h => ?_) | with_reducible refine bwfb (fun h => ?_) (fun h => ?_) | with_reducible refine bwt (fun h => ?_) (fun h => ?_) | with_reducible refine bwf (fun h => ?_) (fun h => ?_) | with_reducible refine bnt (fun h => ?_) (fun h => ?_) | with_reducible refine bcase (fun h => ?_) (fun h => ?_)) <;> (conv => whnf))
      all_goals try (exfalso; omega)
      (refine swd_start mixed rfl ?_; refine sgod_sound [] ?_; conv => whnf)
      refine swd_index rfl rfl rfl rfl rfl rfl rfl rfl  (row := [dI p]) (by simp [ha]) ?_
      (refine sgod_sound [] ?_; conv => whnf)
      refine swd_index rfl rfl rfl rfl rfl rfl rfl rfl  (row := [dI q]) (by simp [hb]) ?_
      (refine sgod_sound [] ?_; conv => whnf)
      (refine sgo_sound [] 1000 ?_; conv => whnf)
      repeat' ((first | with_reducible refine bdec (fun h => ?_) (fun h => ?_) | with_reducible refine bndec (fun h => ?_) (fun h => ?_) | with_reducible refine bwtd (fun h => ?_) (fun h => ?_) | with_reducible refine bwfd (fun h => ?_) (fun h => ?_) | with_reducible refine bwtn (fun h => ?_) (fun h => ?_) | with_reducible refine bwfn (fun h => ?_) (fun h => ?_) | with_reducible refine bwtb (fun h => ?_) (fun h => ?_) | with_reducible refine bwfb (fun h => ?_) (fun h => ?_) | with_reducible refine bwt (fun h => ?_) (fun h => ?_) | with_reducible refine bwf (fun h => ?_) (fun h => ?_) | with_reducible refine bnt (fun h => ?_) (fun h => ?_) | with_reducible refine bcase (fun h => ?_) (fun h => ?_)) <;> (conv => whnf))
      · exact kB hK (bad (by intro e; subst e; simp at h))
      · rw [hw]; exact sw_kc [2, 3, 7] 2 (by simp [hH]) (by simp) rfl rfl (next (by first | exact h.symm | exact (by simpa using h : p = q).symm))
  | nil =>
  simp at hl1
  obtain rfl : rb = [] := List.length_eq_zero_iff.1 (by omega)
  have e3 : v.arts = w.arts := by rw [ha, hb]
  clear ih ha hb hl2
  (refine sgo_sound [] 1000 ?_; conv => whnf)
  repeat' ((first | with_reducible refine bdec (fun h => ?_) (fun h => ?_) | with_reducible refine bndec (fun h => ?_) (fun h => ?_) | with_reducible refine bwtd (fun h => ?_) (fun h => ?_) | with_reducible refine bwfd (fun h => ?_) (fun h => ?_) | with_reducible refine bwtn (fun h => ?_) (fun h => ?_) | with_reducible refine bwfn (fun h => ?_) (fun h => ?_) | with_reducible refine bwtb (fun h => ?_) (fun h => ?_) | with_reducible refine bwfb (fun h => ?_) (fun h => ?_) | with_reducible refine bwt (fun h => ?_) (fun h => ?_) | with_reducible refine bwf (fun h => ?_) (fun h => ?_) | with_reducible refine bnt (fun h => ?_) (fun h => ?_) | with_reducible refine bcase (fun h => ?_) (fun h => ?_)) <;> (conv => whnf))
  all_goals try (exfalso; omega)
  exact kB hK (by simp [View.same, e1, e2, e3])

theorem refEqual13_spec (v w : View) (hv : v.fit) : SPure Tryz.prog G 15 [v.sv, w.sv] (sB (v.same' w)) := by
  refine spure_enter Tryz.func15 rfl (by rw [Tryz.ntmps15]; simp) rfl rfl ?_; intro E hH hK
  (refine sgo_sound [] 1000 ?_; conv => whnf)
  repeat' ((first | with_reducible refine bdec (fun h => ?_) (fun h => ?_) | with_reducible refine bndec (fun h => ?_) (fun h => ?_) | with_reducible refine bwtd (fun h => ?_) (fun h => ?_) | with_reducible refine bwfd (fun h => ?_) (fun h => ?_) | with_reducible refine bwtn (fun h => ?_) (fun h => ?_) | with_reducible refine bwfn (fun h => ?_) (fun h => ?_) | with_reducible refine bwtb (fun h => ?_) (fun h => ?_) | with_reducible refine bwfb (fun h => ?_) (fun h => ?_) | with_reducible refine bwt (fun h => ?_) (fun h => ?_) | with_reducible refine bwf (fun h => ?_) (fun h => ?_) | with_reducible refine bnt (fun h => ?_) (fun h => ?_) | with_reducible refine bcase (fun h => ?_) (fun h => ?_)) <;> (conv => whnf))
  · refine swr_pure rfl rfl rfl rfl rfl rfl  (refSame13_spec G v w hv) ?_
    (refine sgor_sound [] 1000 ?_; conv => whnf)
    exact kB hK (by simp [View.same', h])
  · exact kB hK (by simp [View.same', h])

end Go.Proofs.YthmkdghoaifkbaaGreatDoor

/- Contracts, part h: the version of an article. -/
namespace Go.Proofs.YthmkdghoaifkbaaGreatDoor
open Go Go.Sh
set_option maxRecDepth 10000
variable (G : List (Nat × D))

def live (number day known : Int) (a : Article) : Bool := decide (a.number = number ∧ a.lo ≤ day ∧ day < a.hi ∧ a.known ≤ known)
/-- one step: `found` is the version found so far, with its known day -/
def verStep (number day known : Int) (i : Nat) (a : Article) : Option (Nat × Int) → Option (Nat × Int)
  | none => if live number day known a then some (i, a.known) else none
  | some (j, k) => if live number day known a && decide (k ≤ a.known) then some (i, a.known) else some (j, k)
def verLoop (number day known : Int) : List Article → Nat → Option (Nat × Int) → Option (Nat × Int)
  | [], _, found => found
  | a :: r, i, found => verLoop number day known r (i + 1) (verStep number day known i a found)
def version (arts : List Article) (number day known : Int) : Option Nat := (verLoop number day known arts 0 none).map (·.1)
def verI : Option (Nat × Int) → Int
  | none => -1
  | some (i, _) => i
def versionSV (r : Option Nat) : SV := .tup [sI (match r with | none => 0 | some i => i), sB r.isSome]

theorem version_spec (c : Codex) (number day known : Int) (hsz : c.arts.length ≤ 1073741824) :
    SPure Tryz.prog G 19 [c.sv, sI number, sI day, sI known] (versionSV (version c.arts number day known)) := by
  refine spure_enter Tryz.func19 rfl (by rw [Tryz.ntmps19]; simp) rfl rfl ?_; intro E hH hK
  have hlen : (c.arts.map Article.cells).length = c.arts.length := by simp
  (refine sgo_sound [] 1000 ?_; conv => whnf)
  refine sw_keep [1, 2, 3, 4, 10, 14, 15, 16] ?_
  refine sw_loop_ind (σ := List Article × List Article × Option (Nat × Int))
    (fun x => [(1, sI number), (2, sI day), (3, sI known), (4, .ptr 0 0), (10, sI (verI x.2.2)), (14, .imm (dArts c.arts)), (15, sI (c.arts.map Article.cells).length), (16, sI x.1.length)])
    (fun _ => [.cells [.imm (dDecls c.facts), .imm (dDecls c.lines), .imm (dArts c.arts)]])
    (fun x => c.arts = x.1 ++ x.2.1 ∧ verLoop number day known c.arts 0 none = verLoop number day known x.2.1 x.1.length x.2.2 ∧ ∀ i k, x.2.2 = some (i, k) → ∃ a, x.1[i]? = some a ∧ a.known = k)
    (fun x => x.2.1.length) ?_ ([], c.arts, none) ⟨rfl, rfl, by simp⟩
  rintro ⟨done, rest, found⟩ ⟨ha, hv, hf⟩ ih
  dsimp only at ha hv hf ih ⊢
  have hl2 : done.length + rest.length = c.arts.length := by rw [ha]; simp
  cases rest with
  | nil =>
    simp at hl2
    have hres : version c.arts number day known = found.map (·.1) := by rw [version, hv]; rfl
    rw [hres] at hK
    rcases found with _ | ⟨j, k⟩
    all_goals (refine sgo_sound [] 1000 ?_; conv => whnf)
    all_goals repeat' ((first | with_reducible refine bdec (fun h => ?_) (fun h => ?_) | with_reducible refine bndec (fun h => ?_) (fun h => ?_) | with_reducible refine bwtd (fun h => ?_) (fun h => ?_) | with_reducible refine bwfd (fun h => ?_) (fun h => ?_) | with_reducible refine bwtn (fun h => ?_) (fun h => ?_) | with_reducible refine bwfn (fun h => ?_) (fun h => ?_) | with_reducible refine bwtb (fun h => ?_) (fun h => ?_) | with_reducible refine bwfb (fun h => ?_) (fun h => ?_) | with_reducible refine bwt (fun h => ?_) (fun h => ?_) | with_reducible refine bwf (fun h => ?_) (fun h => ?_) | with_reducible refine bnt (fun h => ?_) (fun h => ?_) | with_reducible refine bcase (fun h => ?_) (fun h => ?_)) <;> (conv => whnf))
    all_goals try (exfalso; omega)
    · exact hK _
    · exact hK _
  | cons a rest =>
    simp at hl2
    have hw : IntKind.i64.wrap ((done.length : Int) + 1) = (((done ++ [a]).length : Nat) : Int) := by rw [wrap_succ (by omega)]; simp
    have grow : ∀ i k, found = some (i, k) → ∃ x, (done ++ [a])[i]? = some x ∧ x.known = k := fun i k e => by
      obtain ⟨x, h1, h2⟩ := hf i k e
      exact ⟨x, by rw [List.getElem?_append_left (List.getElem?_eq_some_iff.1 h1).1]; exact h1, h2⟩
    have keep : verStep number day known done.length a found = found → _ := fun h => ih (done ++ [a], rest, found) ⟨by simp [ha], by rw [hv, verLoop, h]; simp, grow⟩ (by simp)
    have take : verStep number day known done.length a found = some (done.length, a.known) → _ := fun h => ih (done ++ [a], rest, some (done.length, a.known)) ⟨by simp [ha], by rw [hv, verLoop, h]; simp, by simp⟩ (by simp)
    rcases found with _ | ⟨j, k⟩
    · (refine sgo_sound [] 1000 ?_; conv => whnf)
      repeat' ((first | with_reducible refine bdec (fun h => ?_) (fun h => ?_) | with_reducible refine bndec (fun h => ?_) (fun h => ?_) | with_reducible refine bwtd (fun h => ?_) (fun h => ?_) | with_reducible refine bwfd (fun h => ?_) (fun h => ?_) | with_reducible refine bwtn (fun h => ?_) (fun h => ?_) | with_reducible refine bwfn (fun h => ?_) (fun h => ?_) | with_reducible refine bwtb (fun h => ?_) (fun h => ?_) | with_reducible refine bwfb (fun h => ?_) (fun h => ?_) | with_reducible refine bwt (fun h => ?_) (fun h => ?_) | with_reducible refine bwf (fun h => ?_) (fun h => ?_) | with_reducible refine bnt (fun h => ?_) (fun h => ?_) | with_reducible refine bcase (fun h => ?_) (fun h => ?_)) <;> (conv => whnf))
      all_goals try (exfalso; omega)
      refine swr_index rfl rfl rfl rfl rfl rfl rfl rfl  (row := a.cells) (by simp [ha]) ?_
      (refine sgor_sound [] 1000 ?_; conv => whnf)
      repeat' ((first | with_reducible refine bdec (fun h => ?_) (fun h => ?_) | with_reducible refine bndec (fun h => ?_) (fun h => ?_) | with_reducible refine bwtd (fun h => ?_) (fun h => ?_) | with_reducible refine bwfd (fun h => ?_) (fun h => ?_) | with_reducible refine bwtn (fun h => ?_) (fun h => ?_) | with_reducible refine bwfn (fun h => ?_) (fun h => ?_) | with_reducible refine bwtb (fun h => ?_) (fun h => ?_) | with_reducible refine bwfb (fun h => ?_) (fun h => ?_) | with_reducible refine bwt (fun h => ?_) (fun h => ?_) | with_reducible refine bwf (fun h => ?_) (fun h => ?_) | with_reducible refine bnt (fun h => ?_) (fun h => ?_) | with_reducible refine bcase (fun h => ?_) (fun h => ?_)) <;> (conv => whnf))
      any_goals (rw [hw]; exact sw_kc [1, 2, 3, 4, 10, 14, 15, 16] 1 (by simp [hH]) (by simp) rfl rfl (keep (by simp [verStep, live]; omega)))
      (refine swd_start mixed rfl ?_; refine sgod_sound [] ?_; conv => whnf)
      (refine sgo_sound [] 1000 ?_; conv => whnf)
      rw [hw]; exact sw_kc [1, 2, 3, 4, 10, 14, 15, 16] 1 (by simp [hH]) (by simp) rfl rfl (take (by simp [verStep, live]; omega))
    · obtain ⟨x, hx1, hx2⟩ := hf j k rfl
      have hj : c.arts[j]? = some x := by rw [ha, List.getElem?_append_left (List.getElem?_eq_some_iff.1 hx1).1]; exact hx1
      (refine sgo_sound [] 1000 ?_; conv => whnf)
      repeat' ((first | with_reducible refine bdec (fun h => ?_) (fun h => ?_) | with_reducible refine bndec (fun h => ?_) (fun h => ?_) | with_reducible refine bwtd (fun h => ?_) (fun h => ?_) | with_reducible refine bwfd (fun h => ?_) (fun h => ?_) | with_reducible refine bwtn (fun h => ?_) (fun h => ?_) | with_reducible refine bwfn (fun h => ?_) (fun h => ?_) | with_reducible refine bwtb (fun h => ?_) (fun h => ?_) | with_reducible refine bwfb (fun h => ?_) (fun h => ?_) | with_reducible refine bwt (fun h => ?_) (fun h => ?_) | with_reducible refine bwf (fun h => ?_) (fun h => ?_) | with_reducible refine bnt (fun h => ?_) (fun h => ?_) | with_reducible refine bcase (fun h => ?_) (fun h => ?_)) <;> (conv => whnf))
      all_goals try (exfalso; omega)
      refine swr_index rfl rfl rfl rfl rfl rfl rfl rfl  (row := a.cells) (by simp [ha]) ?_
      (refine sgor_sound [] 1000 ?_; conv => whnf)
      repeat' ((first | with_reducible refine bdec (fun h => ?_) (fun h => ?_) | with_reducible refine bndec (fun h => ?_) (fun h => ?_) | with_reducible refine bwtd (fun h => ?_) (fun h => ?_) | with_reducible refine bwfd (fun h => ?_) (fun h => ?_) | with_reducible refine bwtn (fun h => ?_) (fun h => ?_) | with_reducible refine bwfn (fun h => ?_) (fun h => ?_) | with_reducible refine bwtb (fun h => ?_) (fun h => ?_) | with_reducible refine bwfb (fun h => ?_) (fun h => ?_) | with_reducible refine bwt (fun h => ?_) (fun h => ?_) | with_reducible refine bwf (fun h => ?_) (fun h => ?_) | with_reducible refine bnt (fun h => ?_) (fun h => ?_) | with_reducible refine bcase (fun h => ?_) (fun h => ?_)) <;> (conv => whnf))
      any_goals (rw [hw]; exact sw_kc [1, 2, 3, 4, 10, 14, 15, 16] 1 (by simp [hH]) (by simp) rfl rfl (keep (by simp [verStep, live]; omega)))
      (refine swd_start mixed rfl ?_; refine sgod_sound [] ?_; conv => whnf)
      repeat' ((first | with_reducible refine bdec (fun h => ?_) (fun h => ?_) | with_reducible refine bndec (fun h => ?_) (fun h => ?_) | with_reducible refine bwtd (fun h => ?_) (fun h => ?_) | with_reducible refine bwfd (fun h => ?_) (fun h => ?_) | with_reducible refine bwtn (fun h => ?_) (fun h => ?_) | with_reducible refine bwfn (fun h => ?_) (fun h => ?_) | with_reducible refine bwtb (fun h => ?_) (fun h => ?_) | with_reducible refine bwfb (fun h => ?_) (fun h => ?_) | with_reducible refine bwt (fun h => ?_) (fun h => ?_) | with_reducible refine bwf (fun h => ?_) (fun h => ?_) | with_reducible refine bnt (fun h => ?_) (fun h => ?_) | with_reducible refine bcase (fun h => ?_) (fun h => ?_)) <;> (conv => whnf))
      all_goals try (exfalso; omega)
      refine swd_index rfl rfl rfl rfl rfl rfl rfl rfl  (row := x.cells) (by simp [hj]) ?_
      (refine sgod_sound [] ?_; conv => whnf)
      (refine sgo_sound [] 1000 ?_; conv => whnf)
      repeat' ((first | with_reducible refine bdec (fun h => ?_) (fun h => ?_) | with_reducible refine bndec (fun h => ?_) (fun h => ?_) | with_reducible refine bwtd (fun h => ?_) (fun h => ?_) | with_reducible refine bwfd (fun h => ?_) (fun h => ?_) | with_reducible refine bwtn (fun h => ?_) (fun h => ?_) | with_reducible refine bwfn (fun h => ?_) (fun h => ?_) | with_reducible refine bwtb (fun h => ?_) (fun h => ?_) | with_reducible refine bwfb (fun h => ?_) (fun h => ?_) | with_reducible refine bwt (fun h => ?_) (fun h => ?_) | with_reducible refine bwf (fun h => ?_) (fun h => ?_) | with_reducible refine bnt (fun h => ?_) (fun h => ?_) | with_reducible refine bcase (fun h => ?_) (fun h => ?_)) <;> (conv => whnf))
      · rw [hw]; exact sw_kc [1, 2, 3, 4, 10, 14, 15, 16] 1 (by simp [hH]) (by simp) rfl rfl (take (by simp [verStep, live]; omega))
      · rw [hw]; exact sw_kc [1, 2, 3, 4, 10, 14, 15, 16] 1 (by simp [hH]) (by simp) rfl rfl (keep (by simp [verStep, live]; omega))

theorem refVersion_spec (c : Codex) (number day known : Int) (hsz : c.arts.length ≤ 1073741824) :
    SPure Tryz.prog G 51 [c.sv, sI number, sI day, sI known] (versionSV (version c.arts number day known)) := by
  refine spure_enter Tryz.func51 rfl (by rw [Tryz.ntmps51]; simp) rfl rfl ?_; intro E hH hK
  have hlen : (c.arts.map Article.cells).length = c.arts.length := by simp
  (refine sgo_sound [] 1000 ?_; conv => whnf)
  refine sw_keep [1, 2, 3, 4, 10, 11] ?_
  refine sw_loop_ind (σ := List Article × List Article × Option (Nat × Int))
    (fun x => [(1, sI number), (2, sI day), (3, sI known), (4, .ptr 0 0), (10, sI (verI x.2.2)), (11, sI x.1.length)])
    (fun _ => [.cells [.imm (dDecls c.facts), .imm (dDecls c.lines), .imm (dArts c.arts)]])
    (fun x => c.arts = x.1 ++ x.2.1 ∧ verLoop number day known c.arts 0 none = verLoop number day known x.2.1 x.1.length x.2.2 ∧ ∀ i k, x.2.2 = some (i, k) → ∃ a, x.1[i]? = some a ∧ a.known = k)
    (fun x => x.2.1.length) ?_ ([], c.arts, none) ⟨rfl, rfl, by simp⟩
  rintro ⟨done, rest, found⟩ ⟨ha, hv, hf⟩ ih
  dsimp only at ha hv hf ih ⊢
  have hl2 : done.length + rest.length = c.arts.length := by rw [ha]; simp
  cases rest with
  | nil =>
    simp at hl2
    have hres : version c.arts number day known = found.map (·.1) := by rw [version, hv]; rfl
    rw [hres] at hK
    rcases found with _ | ⟨j, k⟩
    all_goals (refine sgo_sound [] 1000 ?_; conv => whnf)
    all_goals repeat' ((first | with_reducible refine bdec (fun h => ?_) (fun h => ?_) | with_reducible refine bndec (fun h => ?_) (fun h => ?_) | with_reducible refine bwtd (fun h => ?_) (fun h => ?_) | with_reducible refine bwfd (fun h => ?_) (fun h => ?_) | with_reducible refine bwtn (fun h => ?_) (fun h => ?_) | with_reducible refine bwfn (fun h => ?_) (fun h => ?_) | with_reducible refine bwtb (fun h => ?_) (fun h => ?_) | with_reducible refine bwfb (fun h => ?_) (fun h => ?_) | with_reducible refine bwt (fun h => ?_) (fun h => ?_) | with_reducible refine bwf (fun h => ?_) (fun h => ?_) | with_reducible refine bnt (fun h => ?_) (fun h => ?_) | with_reducible refine bcase (fun h => ?_) (fun h => ?_)) <;> (conv => whnf))
    all_goals try (exfalso; omega)
    · exact hK _
    · exact kIB hK (by simp [verI]; intros; omega) (by simp [verI])
  | cons a rest =>
    simp at hl2
    have hw : IntKind.i64.wrap ((done.length : Int) + 1) = (((done ++ [a]).length : Nat) : Int) := by rw [wrap_succ (by omega)]; simp
    have grow : ∀ i k, found = some (i, k) → ∃ x, (done ++ [a])[i]? = some x ∧ x.known = k := fun i k e => by
      obtain ⟨x, h1, h2⟩ := hf i k e
      exact ⟨x, by rw [List.getElem?_append_left (List.getElem?_eq_some_iff.1 h1).1]; exact h1, h2⟩
    have keep : verStep number day known done.length a found = found → _ := fun h => ih (done ++ [a], rest, found) ⟨by simp [ha], by rw [hv, verLoop, h]; simp, grow⟩ (by simp)
    have take : verStep number day known done.length a found = some (done.length, a.known) → _ := fun h => ih (done ++ [a], rest, some (done.length, a.known)) ⟨by simp [ha], by rw [hv, verLoop, h]; simp, by simp⟩ (by simp)
    rcases found with _ | ⟨j, k⟩
    · (refine sgo_sound [] 1000 ?_; conv => whnf)
      repeat' ((first | with_reducible refine bdec (fun h => ?_) (fun h => ?_) | with_reducible refine bndec (fun h => ?_) (fun h => ?_) | with_reducible refine bwtd (fun h => ?_) (fun h => ?_) | with_reducible refine bwfd (fun h => ?_) (fun h => ?_) | with_reducible refine bwtn (fun h => ?_) (fun h => ?_) | with_reducible refine bwfn (fun h => ?_) (fun h => ?_) | with_reducible refine bwtb (fun h => ?_) (fun h => ?_) | with_reducible refine bwfb (fun h => ?_) (fun h => ?_) | with_reducible refine bwt (fun h => ?_) (fun h => ?_) | with_reducible refine bwf (fun h => ?_) (fun h => ?_) | with_reducible refine bnt (fun h => ?_) (fun h => ?_) | with_reducible refine bcase (fun h => ?_) (fun h => ?_)) <;> (conv => whnf))
      all_goals try (exfalso; omega)
      refine swr_index rfl rfl rfl rfl rfl rfl rfl rfl  (row := a.cells) (by simp [ha]) ?_
      (refine sgor_sound [] 1000 ?_; conv => whnf)
      (refine swd_start mixed rfl ?_; refine sgod_sound [] ?_; conv => whnf)
      repeat' ((first | with_reducible refine bdec (fun h => ?_) (fun h => ?_) | with_reducible refine bndec (fun h => ?_) (fun h => ?_) | with_reducible refine bwtd (fun h => ?_) (fun h => ?_) | with_reducible refine bwfd (fun h => ?_) (fun h => ?_) | with_reducible refine bwtn (fun h => ?_) (fun h => ?_) | with_reducible refine bwfn (fun h => ?_) (fun h => ?_) | with_reducible refine bwtb (fun h => ?_) (fun h => ?_) | with_reducible refine bwfb (fun h => ?_) (fun h => ?_) | with_reducible refine bwt (fun h => ?_) (fun h => ?_) | with_reducible refine bwf (fun h => ?_) (fun h => ?_) | with_reducible refine bnt (fun h => ?_) (fun h => ?_) | with_reducible refine bcase (fun h => ?_) (fun h => ?_)) <;> (conv => whnf))
      all_goals (refine sgo_sound [] 1000 ?_; conv => whnf)
      all_goals rw [hw]
      all_goals first
        | exact sw_kc [1, 2, 3, 4, 10, 11] 1 (by simp [hH]) (by simp) rfl rfl (keep (by simp [verStep, live]; intros; omega))
        | exact sw_kc [1, 2, 3, 4, 10, 11] 1 (by simp [hH]) (by simp) rfl rfl (take (by simp [verStep, live]; omega))
    · obtain ⟨x, hx1, hx2⟩ := hf j k rfl
      have hj : c.arts[j]? = some x := by rw [ha, List.getElem?_append_left (List.getElem?_eq_some_iff.1 hx1).1]; exact hx1
      (refine sgo_sound [] 1000 ?_; conv => whnf)
      repeat' ((first | with_reducible refine bdec (fun h => ?_) (fun h => ?_) | with_reducible refine bndec (fun h => ?_) (fun h => ?_) | with_reducible refine bwtd (fun h => ?_) (fun h => ?_) | with_reducible refine bwfd (fun h => ?_) (fun h => ?_) | with_reducible refine bwtn (fun h => ?_) (fun h => ?_) | with_reducible refine bwfn (fun h => ?_) (fun h => ?_) | with_reducible refine bwtb (fun h => ?_) (fun h => ?_) | with_reducible refine bwfb (fun h => ?_) (fun h => ?_) | with_reducible refine bwt (fun h => ?_) (fun h => ?_) | with_reducible refine bwf (fun h => ?_) (fun h => ?_) | with_reducible refine bnt (fun h => ?_) (fun h => ?_) | with_reducible refine bcase (fun h => ?_) (fun h => ?_)) <;> (conv => whnf))
      all_goals try (exfalso; omega)
      refine swr_index rfl rfl rfl rfl rfl rfl rfl rfl  (row := a.cells) (by simp [ha]) ?_
      (refine sgor_sound [] 1000 ?_; conv => whnf)
      (refine swd_start mixed rfl ?_; refine sgod_sound [] ?_; conv => whnf)
      repeat' ((first | with_reducible refine bdec (fun h => ?_) (fun h => ?_) | with_reducible refine bndec (fun h => ?_) (fun h => ?_) | with_reducible refine bwtd (fun h => ?_) (fun h => ?_) | with_reducible refine bwfd (fun h => ?_) (fun h => ?_) | with_reducible refine bwtn (fun h => ?_) (fun h => ?_) | with_reducible refine bwfn (fun h => ?_) (fun h => ?_) | with_reducible refine bwtb (fun h => ?_) (fun h => ?_) | with_reducible refine bwfb (fun h => ?_) (fun h => ?_) | with_reducible refine bwt (fun h => ?_) (fun h => ?_) | with_reducible refine bwf (fun h => ?_) (fun h => ?_) | with_reducible refine bnt (fun h => ?_) (fun h => ?_) | with_reducible refine bcase (fun h => ?_) (fun h => ?_)) <;> (conv => whnf))
      all_goals try (exfalso; omega)
      any_goals refine swd_index rfl rfl rfl rfl rfl rfl rfl rfl  (row := x.cells) (by simp [hj]) ?_
      any_goals (refine sgod_sound [] ?_; conv => whnf)
      all_goals (refine sgo_sound [] 1000 ?_; conv => whnf)
      all_goals repeat' ((first | with_reducible refine bdec (fun h => ?_) (fun h => ?_) | with_reducible refine bndec (fun h => ?_) (fun h => ?_) | with_reducible refine bwtd (fun h => ?_) (fun h => ?_) | with_reducible refine bwfd (fun h => ?_) (fun h => ?_) | with_reducible refine bwtn (fun h => ?_) (fun h => ?_) | with_reducible refine bwfn (fun h => ?_) (fun h => ?_) | with_reducible refine bwtb (fun h => ?_) (fun h => ?_) | with_reducible refine bwfb (fun h => ?_) (fun h => ?_) | with_reducible refine bwt (fun h => ?_) (fun h => ?_) | with_reducible refine bwf (fun h => ?_) (fun h => ?_) | with_reducible refine bnt (fun h => ?_) (fun h => ?_) | with_reducible refine bcase (fun h => ?_) (fun h => ?_)) <;> (conv => whnf))
      all_goals rw [hw]
      all_goals first
        | exact sw_kc [1, 2, 3, 4, 10, 11] 1 (by simp [hH]) (by simp) rfl rfl (keep (by simp [verStep, live]; intros; omega))
        | exact sw_kc [1, 2, 3, 4, 10, 11] 1 (by simp [hH]) (by simp) rfl rfl (take (by simp [verStep, live]; omega))

end Go.Proofs.YthmkdghoaifkbaaGreatDoor

/- Contracts, part i: units, proper names of the reference; the calendar. -/
namespace Go.Proofs.YthmkdghoaifkbaaGreatDoor
open Go Go.Sh
set_option maxRecDepth 10000
variable (G : List (Nat × D))

theorem goodUnit_spec (s : ByteArray) : SPure Tryz.prog G 116 [sS s] (sB (unitOK s)) := by
  refine spure_enter Tryz.func116 rfl (by rw [Tryz.ntmps116]; simp) rfl rfl ?_; intro E hH hK
  (refine sgo_sound [] 1000 ?_; conv => whnf)
  repeat' ((first | with_reducible refine bdec (fun h => ?_) (fun h => ?_) | with_reducible refine bndec (fun h => ?_) (fun h => ?_) | with_reducible refine bwtd (fun h => ?_) (fun h => ?_) | with_reducible refine bwfd (fun h => ?_) (fun h => ?_) | with_reducible refine bwtn (fun h => ?_) (fun h => ?_) | with_reducible refine bwfn (fun h => ?_) (fun h => ?_) | with_reducible refine bwtb (fun h => ?_) (fun h => ?_) | with_reducible refine bwfb (fun h => ?_) (fun h => ?_) | with_reducible refine bwt (fun h => ?_) (fun h => ?_) | with_reducible refine bwf (fun h => ?_) (fun h => ?_) | with_reducible refine bnt (fun h => ?_) (fun h => ?_) | with_reducible refine bcase (fun h => ?_) (fun h => ?_)) <;> (conv => whnf))
  · refine swr_pure rfl rfl rfl rfl rfl rfl  (goodCur_spec G s) ?_
    (refine sgor_sound [] 1000 ?_; conv => whnf)
    exact kB hK (by simp [unitOK, *])
  all_goals exact kB hK (by simp [unitOK, *])

def leap (y : Int) : Bool := decide (y.tmod 4 = 0 ∧ (y.tmod 100 ≠ 0 ∨ y.tmod 400 = 0))
theorem long_spec (y : Int) : SPure Tryz.prog G 55 [sI y] (sB (leap y)) := by
  refine spure_enter Tryz.func55 rfl (by rw [Tryz.ntmps55]; simp) rfl rfl ?_; intro E hH hK
  (refine sgo_sound [] 1000 ?_; conv => whnf)
  repeat' ((first | with_reducible refine bdec (fun h => ?_) (fun h => ?_) | with_reducible refine bndec (fun h => ?_) (fun h => ?_) | with_reducible refine bwtd (fun h => ?_) (fun h => ?_) | with_reducible refine bwfd (fun h => ?_) (fun h => ?_) | with_reducible refine bwtn (fun h => ?_) (fun h => ?_) | with_reducible refine bwfn (fun h => ?_) (fun h => ?_) | with_reducible refine bwtb (fun h => ?_) (fun h => ?_) | with_reducible refine bwfb (fun h => ?_) (fun h => ?_) | with_reducible refine bwt (fun h => ?_) (fun h => ?_) | with_reducible refine bwf (fun h => ?_) (fun h => ?_) | with_reducible refine bnt (fun h => ?_) (fun h => ?_) | with_reducible refine bcase (fun h => ?_) (fun h => ?_)) <;> (conv => whnf))
  all_goals exact kB hK (by simp [leap, *])

theorem leap_iff {y : Int} (hy : 2000 ≤ y ∧ y ≤ 2099) : leap y = decide (y.tmod 4 = 0) := by
  have e1 := Int.tmod_eq_emod_of_nonneg (a := y) (b := 4) (by omega)
  have e2 := Int.tmod_eq_emod_of_nonneg (a := y) (b := 100) (by omega)
  have e3 := Int.tmod_eq_emod_of_nonneg (a := y) (b := 400) (by omega)
  unfold leap
  rw [decide_eq_decide, e1, e2, e3]
  omega

def daysIn (y m : Int) : Int := if m = 4 ∨ m = 6 ∨ m = 9 ∨ m = 11 then 30 else if m = 2 then (if leap y then 29 else 28) else 31
theorem days_spec (y m : Int) : SPure Tryz.prog G 37 [sI y, sI m] (sI (daysIn y m)) := by
  refine spure_enter Tryz.func37 rfl (by rw [Tryz.ntmps37]; simp) rfl rfl ?_; intro E hH hK
  (refine sgo_sound [] 1000 ?_; conv => whnf)
  repeat' ((first | with_reducible refine bdec (fun h => ?_) (fun h => ?_) | with_reducible refine bndec (fun h => ?_) (fun h => ?_) | with_reducible refine bwtd (fun h => ?_) (fun h => ?_) | with_reducible refine bwfd (fun h => ?_) (fun h => ?_) | with_reducible refine bwtn (fun h => ?_) (fun h => ?_) | with_reducible refine bwfn (fun h => ?_) (fun h => ?_) | with_reducible refine bwtb (fun h => ?_) (fun h => ?_) | with_reducible refine bwfb (fun h => ?_) (fun h => ?_) | with_reducible refine bwt (fun h => ?_) (fun h => ?_) | with_reducible refine bwf (fun h => ?_) (fun h => ?_) | with_reducible refine bnt (fun h => ?_) (fun h => ?_) | with_reducible refine bcase (fun h => ?_) (fun h => ?_)) <;> (conv => whnf))
  any_goals refine swr_pure rfl rfl rfl rfl rfl rfl  (long_spec G y) ?_
  any_goals (refine sgor_sound [] 1000 ?_; conv => whnf)
  all_goals repeat' ((first | with_reducible refine bdec (fun h => ?_) (fun h => ?_) | with_reducible refine bndec (fun h => ?_) (fun h => ?_) | with_reducible refine bwtd (fun h => ?_) (fun h => ?_) | with_reducible refine bwfd (fun h => ?_) (fun h => ?_) | with_reducible refine bwtn (fun h => ?_) (fun h => ?_) | with_reducible refine bwfn (fun h => ?_) (fun h => ?_) | with_reducible refine bwtb (fun h => ?_) (fun h => ?_) | with_reducible refine bwfb (fun h => ?_) (fun h => ?_) | with_reducible refine bwt (fun h => ?_) (fun h => ?_) | with_reducible refine bwf (fun h => ?_) (fun h => ?_) | with_reducible refine bnt (fun h => ?_) (fun h => ?_) | with_reducible refine bcase (fun h => ?_) (fun h => ?_)) <;> (conv => whnf))
  all_goals exact kI hK (by simp [daysIn, *])

theorem yearStart_spec (y : Int) (h : 2000 ≤ y ∧ y ≤ 2100) : SPure Tryz.prog G 69 [sI y] (sI ((y - 2000) * 365 + (y - 2000 + 3) / 4)) := by
  refine spure_enter Tryz.func69 rfl (by rw [Tryz.ntmps69]; simp) rfl rfl ?_; intro E hH hK
  (refine sgo_sound [] 1000 ?_; conv => whnf)
  refine kI hK ?_
  rw [wrap64 (c := y - 2000) (by omega) (by omega), wrap64 (c := (y - 2000) * 365) (by omega) (by omega), wrap64 (c := y - 2000 + 3) (by omega) (by omega),
    Int.tdiv_eq_ediv_of_nonneg (by omega), wrap64 (c := (y - 2000 + 3) / 4) (by omega) (by omega), wrap64 (by omega) (by omega)]

def dBefore : D := .row ([0, 31, 59, 90, 120, 151, 181, 212, 243, 273, 304, 334, 365].map dI) 0
def G0 : List (Nat × D) := [(0, dBefore)]
theorem lengthOf_spec (y m : Int) (hm : 0 ≤ m ∧ m < 12) (hy : 2000 ≤ y ∧ y ≤ 2099) : SPure Tryz.prog G0 70 [sI y, sI m] (sI (daysIn y (m + 1))) := by
  refine spure_enter Tryz.func70 rfl (by rw [Tryz.ntmps70]; simp) rfl rfl ?_; intro E hH hK
  have hc : m = 0 ∨ m = 1 ∨ m = 2 ∨ m = 3 ∨ m = 4 ∨ m = 5 ∨ m = 6 ∨ m = 7 ∨ m = 8 ∨ m = 9 ∨ m = 10 ∨ m = 11 := by omega
  rcases hc with rfl | rfl | rfl | rfl | rfl | rfl | rfl | rfl | rfl | rfl | rfl | rfl
  all_goals (refine sgo_sound [] 1000 ?_; conv => whnf)
  all_goals (refine swd_start mixed rfl ?_; refine sgod_sound [] ?_; conv => whnf)
  all_goals (refine sgo_sound [] 1000 ?_; conv => whnf)
  all_goals repeat' ((first | with_reducible refine bdec (fun h => ?_) (fun h => ?_) | with_reducible refine bndec (fun h => ?_) (fun h => ?_) | with_reducible refine bwtd (fun h => ?_) (fun h => ?_) | with_reducible refine bwfd (fun h => ?_) (fun h => ?_) | with_reducible refine bwtn (fun h => ?_) (fun h => ?_) | with_reducible refine bwfn (fun h => ?_) (fun h => ?_) | with_reducible refine bwtb (fun h => ?_) (fun h => ?_) | with_reducible refine bwfb (fun h => ?_) (fun h => ?_) | with_reducible refine bwt (fun h => ?_) (fun h => ?_) | with_reducible refine bwf (fun h => ?_) (fun h => ?_) | with_reducible refine bnt (fun h => ?_) (fun h => ?_) | with_reducible refine bcase (fun h => ?_) (fun h => ?_)) <;> (conv => whnf))
  any_goals exact kI hK rfl
  · exact kI hK (by rw [daysIn, leap_iff hy, h]; rfl)
  · exact kI hK (by rw [daysIn, leap_iff hy, decide_eq_false h]; rfl)

end Go.Proofs.YthmkdghoaifkbaaGreatDoor
