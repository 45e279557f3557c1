/- Contracts of functions of the program, joined from TSh15, TSh16, TSh17, TSh18, TSh19, TSh20, TSh21, TSh22, TSh23, TSh24, TSh25, TSh26, TSh27, TSh28: no condition. -/
import Derived.Test.YtblpjknmhajcgaaGreatDoorJ1
import Derived.Orders
set_option linter.unusedSimpArgs false
set_option linter.unusedVariables false
/- The shadow machine, part 15: calls, contracts, and heaps cut short. -/
namespace Go.Sh

section
variable {P : Program} {G : List (Nat × D)} {fn : Func} {rd : Bool} {E : En P G fn rd} {t : List (Nat × SV)} {H : List SObj} {k : List Item}

theorem SCall.mono {f : FuncId} {args : List SV} {K K' : SV → List SObj → Prop} (h : SCall P G f args H K) (hK : ∀ r H', K r H' → K' r H') : SCall P G f args H K' :=
  fun w I β vs hH hr => (h w I β vs hH hr).mono fun _ _ ⟨v, r, I', β', H', h1, h2, h3⟩ => ⟨v, r, I', β', H', h1, hK _ _ h2, h3⟩

/-- a function that the program has with a body -/
def hasBody (P : Program) (f : FuncId) : Bool :=
  match P.funcs[f]? with
  | some fn => fn.body.isSome && !(fn.name == "runtime.NumGoroutine")
  | none => false

theorem run_callFunc {f : FuncId} {vs : Array Value} {w : World} (h : hasBody P f = true) : (callFunc f vs).run P w = .ok (.enter f vs) w := by
  unfold hasBody at h
  cases hf : P.funcs[f]? with
  | none => simp [hf] at h
  | some fn =>
    simp [hf] at h
    obtain ⟨c, hc⟩ := Option.isSome_iff_exists.1 h.1
    simp [callFunc, hf, h.2, hc]

theorem sw_call_at {ops : Array Oper} {i : Nat} {rest : List Nat} {o : Oper} {fx : Operand} {args : Array Operand} {tys : Array TypeId} {f : FuncId} {first captured : List SV} (ho : ops[i]? = some o)
    (hw : swant ops t o.guard = some true) (hd : dstOK fn.ntmps o.dst = true) (hop : o.op = .call ⟨.value fx, args, tys⟩) (hf : evalS G t fx = .fn (.func f) first captured) (hb : hasBody P f = true)
    (hc : SCall P G f (first ++ args.toList.map (evalS G t) ++ captured) H (fun r H' => H.length ≤ H'.length ∧ SW E (.inRegion ops rest :: k) (tput t o.dst r) H')) :
    SW E (.inRegion ops (i :: rest) :: k) t H := by
  refine ⟨fun a w I β cs hs => ?_⟩
  have hwant := swant_sound hw hs
  have hfr := hs.eval fx
  rw [hf] at hfr
  generalize hfv : a.eval fx = fv at hfr
  cases hfr with
  | fn _ fs cps _ _ l1 l2 r1 r2 =>
  have hrun : (execOp a.eval o).run P w = .ok (.enter f (fs ++ args.map a.eval ++ cps)) w := by
    obtain ⟨dst, op, type, pos, after, guard⟩ := o
    simp only at hop
    subst hop
    simp only [execOp, resolve, hfv, Deferred.ofValue, Sem.run_bind, Sem.run_pure, Result.andThen_ok, invoke]
    exact run_callFunc hb
  have hreps : Reps w I β (fs ++ args.map a.eval ++ cps).toList (first ++ args.toList.map (evalS G t) ++ captured) := by
    have e1 : Reps w I β fs.toList first := .of_get l1 r1
    have e2 : Reps w I β (args.map a.eval).toList (args.toList.map (evalS G t)) := by simpa using reps_map hs.eval args.toList
    have e3 : Reps w I β cps.toList captured := .of_get l2 r2
    simpa using (e1.append e2).append e3
  obtain ⟨e, w', fr, hpost, hcomes, hfn, hleave⟩ := hc w I β _ hs.heap hreps (E.at a (.inRegion ops (i :: rest) :: k) :: cs)
  obtain ⟨v, r, I', β', H', rfl, ⟨hl, hsw⟩, hv, hH', hext⟩ := hpost
  have hg := rstepG_op (P := P) (b := E.base) (ro := E.ro) (k := k) (cs := cs) (w := w) (rest := rest) ho hwant (.inr fun c e => by rw [hop] at e; cases e)
  have henter : step P (lone (E.at a (.inRegion ops (i :: rest) :: k)) cs w) =
      .next (lone (Frame.enter P f (fs ++ args.map a.eval ++ cps) .normal) (E.at a (.inRegion ops (i :: rest) :: k) :: cs) w) :=
    step_lone_go (by unfold En.at; rw [hg]; simp [stepG.apply, hrun, atR, Frame.at])
  have hfin : (E.at a (.inRegion ops (i :: rest) :: k)).finish v = E.at (a.put o.dst v) (.inRegion ops rest :: k) := by
    unfold En.at; rw [rfinish_at, ho]; rfl
  have hsteps : Steps P (lone (E.at a (.inRegion ops (i :: rest) :: k)) cs w) (lone (E.at (a.put o.dst v) (.inRegion ops rest :: k)) cs w') := by
    refine .head henter (Steps.trans hcomes (.one ?_))
    rw [← hfin]
    exact step_leave_returned hleave
  exact .of_steps hsteps (hsw.run _ w' I' β' cs (hs.put hd hv hH' hext hl))

/-- A call, by its contract. -/
theorem swr_call {all : Array Oper} {o : Oper} {rest : List Oper} {fx : Operand} {args : Array Operand} {tys : Array TypeId} {f : FuncId} {first captured : List SV}
    (hop : o.op = .call ⟨.value fx, args, tys⟩) (hw : swant all t o.guard = some true) (hd : dstOK fn.ntmps o.dst = true) (hf : evalS G t fx = .fn (.func f) first captured) (hb : hasBody P f = true)
    {argv : List SV} (hargs : first ++ args.toList.map (evalS G t) ++ captured = argv)
    (hc : SCall P G f argv H (fun r H' => H.length ≤ H'.length ∧ SWr E all rest k (tput t o.dst r) H')) : SWr E all (o :: rest) k t H := by
  refine ⟨fun j hj hdrop => ?_⟩
  obtain ⟨h1, h2, h3⟩ := drop_cons_parts hdrop
  rw [range_drop h1]
  subst hargs
  exact sw_call_at h2 hw hd hop hf hb (hc.mono fun r H' ⟨a, b⟩ => ⟨a, b.run (j + 1) h1 h3⟩)

/-- A function that takes and gives immutable data, and leaves what was there alone. -/
def SPure (P : Program) (G : List (Nat × D)) (f : FuncId) (args : List SV) (r : SV) : Prop := ∀ H, SCall P G f args H (fun r' H' => r' = r ∧ H' = H)

theorem swr_pure {all : Array Oper} {o : Oper} {rest : List Oper} {fx : Operand} {args : Array Operand} {tys : Array TypeId} {f : FuncId} {first captured : List SV} {r : SV}
    (hop : o.op = .call ⟨.value fx, args, tys⟩) (hw : swant all t o.guard = some true) (hd : dstOK fn.ntmps o.dst = true) (hf : evalS G t fx = .fn (.func f) first captured) (hb : hasBody P f = true)
    {argv : List SV} (hargs : first ++ args.toList.map (evalS G t) ++ captured = argv)
    (hc : SPure P G f argv r) (h : SWr E all rest k (tput t o.dst r) H) : SWr E all (o :: rest) k t H :=
  swr_call hop hw hd hf hb hargs ((hc H).mono fun r' H' ⟨e1, e2⟩ => by subst e1 e2; exact ⟨Nat.le_refl _, h⟩)

theorem reps_under {w : World} {I : Imm} {β : List Bnd} {vs : List Value} {ss : List SV} (h : Reps w I β vs ss) (hu : ss.all (SV.under 0) = true) : Reps w I [] vs ss :=
  ⟨h.len, fun j v s hv hs => (h.rep j v s hv hs).mono_below (m := 0) (fun _ _ h => h) (fun _ _ _ => rfl) (fun b _ hb => absurd hb (Nat.not_lt_zero b)) (List.all_eq_true.1 hu s (List.mem_of_getElem? hs))⟩

theorem not_owns_nil (b c : Nat) : ¬ owns [] [] b c := fun ⟨_, _, h, _⟩ => by simp at h

/-- What is proved over an empty heap holds over every heap. -/
theorem spure_of {f : FuncId} {args : List SV} {r : SV} (hargs : args.all (SV.under 0) = true) (hr : r.under 0 = true) (h : SCall P G f args [] (fun r' _ => r' = r)) : SPure P G f args r := by
  intro H w I β vs hH hv
  have h0 : HeapOK G w I [] [] := ⟨rfl, fun b o x h => by simp at h, fun b b' c h => absurd h (not_owns_nil b c), hH.inI, hH.glob⟩
  refine (h w I [] vs h0 (reps_under hv hargs)).mono ?_
  rintro e w' ⟨v, r', I', β', H', rfl, rfl, h1, h2, h3⟩
  have hold : ∀ c, c < w.heap.size → w'.heap[c]? = w.heap[c]? := fun c hc => h3.old c hc (fun b => not_owns_nil b c)
  have hI' : ∀ c o, I' c o → I c o ∨ w.heap.size ≤ c := fun c o hi => by
    rcases h3.new c o hi with h | ⟨b, h⟩ | h
    · exact .inl h
    · exact absurd h (not_owns_nil b c)
    · exact .inr h
  refine ⟨v, r', I', β, H, rfl, ⟨rfl, rfl⟩, ?_, hH.grow hold h3.imm hI' h2.inI, .grow hH hold h3.size h3.imm hI' h3.env⟩
  exact h1.mono_below (m := 0) (fun _ _ h => h) (fun _ _ _ => rfl) (fun b _ hb => absurd hb (Nat.not_lt_zero b)) hr

/-! ### into a function -/
def slots : Nat → List SV → List (Nat × SV)
  | _, [] => []
  | n, s :: r => (n, s) :: slots (n + 1) r

theorem tget_slots (ss : List SV) : ∀ (m n : Nat), tget (slots m ss) n = if m ≤ n then (ss[n - m]?).getD .any else .any := by
  induction ss with
  | nil => intro m n; simp [slots, tget]
  | cons s ss ih =>
    intro m n
    simp only [slots, tget, ih]
    by_cases e : m = n
    · subst e; simp
    · rw [if_neg e]
      by_cases hle : m ≤ n
      · rw [if_pos hle, if_pos (by omega), show n - m = (n - (m + 1)) + 1 by omega]
        simp
      · rw [if_neg hle, if_neg (by omega)]

theorem scall_enter_at {f : FuncId} {args : List SV} {K : SV → List SObj → Prop} {c : Code} (hfn : P.funcs[f]? = some fn) (hb : fn.body = some c) (hn : args.length ≤ fn.ntmps)
    (w : World) (I : Imm) (β : List Bnd) (vs : Array Value) (hH : HeapOK G w I β H) (hv : Reps w I β vs.toList args)
    (h : ∀ E : En P G fn false, E.H.length = H.length → E.w = w → E.I = I → E.β = β → (∀ r H', K r H' → E.K r H') → SW E [.code c] (slots 0 args) H) : Calls P f vs w (Post G w I β H K) := by
  intro cs
  have hsz : vs.size = args.length := by have := hv.len; simpa using this
  have := (h ⟨f, hfn, w, I, β, H, K, 0, fun _ _ => False⟩ rfl rfl rfl rfl (fun _ _ h => h)).run { tmps := vs ++ Array.replicate (fn.ntmps - vs.size) undef, defers := [] } w I β cs
    { heap := hH, size := by simp; omega, defers := .nil, ext := .refl, hlen := Nat.le_refl _
      tmps := fun n => by
        rw [tget_slots]
        simp only [Nat.zero_le, if_true, Nat.sub_zero]
        rcases Nat.lt_or_ge n args.length with hlt | hge
        · have h1 : n < vs.size := by omega
          rw [List.getElem?_eq_getElem hlt]
          simp only [Option.getD_some]
          have h2 : (vs ++ Array.replicate (fn.ntmps - vs.size) undef).getD n undef = vs[n] := by
            rw [Array.getD_eq_getD_getElem?, Array.getElem?_append_left h1]
            simp [h1]
          rw [h2]
          exact hv.get.2 n hlt h1
        · rw [List.getElem?_eq_none hge]; exact .any _ }
  have henter : Frame.enter P f vs .normal = En.at (⟨f, hfn, w, I, β, H, K, 0, fun _ _ => False⟩ : En P G fn false) { tmps := vs ++ Array.replicate (fn.ntmps - vs.size) undef, defers := [] } [.code c] := by
    simp [Frame.enter, Frame.at, hfn, hb, En.base, En.at, atR, En.ro]
  rw [henter]
  exact this

theorem scall_enter {f : FuncId} {args : List SV} {K : SV → List SObj → Prop} {c : Code} (hfn : P.funcs[f]? = some fn) (hb : fn.body = some c) (hn : args.length ≤ fn.ntmps)
    (h : ∀ E : En P G fn false, E.H.length = H.length → (∀ r H', K r H' → E.K r H') → SW E [.code c] (slots 0 args) H) : SCall P G f args H K :=
  fun w I β vs hH hv => scall_enter_at hfn hb hn w I β vs hH hv (fun E h1 _ _ _ h5 => h E h1 h5)

/-- The usual way to a pure contract. -/
theorem spure_enter {f : FuncId} {args : List SV} {r : SV} {c : Code} (hfn : P.funcs[f]? = some fn) (hb : fn.body = some c) (hn : args.length ≤ fn.ntmps) (hargs : args.all (SV.under 0) = true) (hr : r.under 0 = true)
    (h : ∀ E : En P G fn false, E.H = [] → (∀ H', E.K r H') → SW E [.code c] (slots 0 args) []) : SPure P G f args r :=
  spure_of hargs hr (scall_enter hfn hb hn fun E hH hK => h E (List.length_eq_zero_iff.1 (by simpa using hH)) (fun H' => hK r H' rfl))

/-! ### a heap cut short -/
def SObj.under (m : Nat) : SObj → Bool
  | .cells cs => SV.under.allUnder m cs
  | .mapI _ es => es.all fun e => e.2.under m
  | .mapS es => es.all fun e => e.2.under m
  | .loop _ _ _ t _ _ _ => t.all fun e => e.2.under m
  | .vec _ cs => SV.under.allUnder m cs
  | .pin _ es _ => es.all fun e => e.2.2.under m
  | .iter b _ _ _ => b < m
  | _ => true

theorem tget_under {m : Nat} : ∀ {t : List (Nat × SV)}, t.all (fun e => e.2.under m) = true → ∀ n, (tget t n).under m = true
  | [], _, _ => rfl
  | x :: t, h, n => by
    simp only [List.all_cons, Bool.and_eq_true] at h
    simp only [tget]
    split
    · exact h.1
    · exact tget_under h.2 n

theorem take_get {α : Type} {l : List α} {n b : Nat} {x : α} (h : (l.take n)[b]? = some x) : b < n ∧ l[b]? = some x := by
  rw [List.getElem?_take] at h
  split at h
  · rename_i hlt; exact ⟨hlt, h⟩
  · cases h

theorem keeps_take (n : Nat) (β : List Bnd) : Keeps n β (β.take n) := fun b x hb hx => ⟨x, by rw [List.getElem?_take, if_pos hb]; exact hx, x.le_refl⟩

theorem sw_cut (n : Nat) (hE : E.H.length ≤ n) (hn : n ≤ H.length) (ht : t.all (fun x => x.2.under n) = true) (hH : (H.take n).all (SObj.under n) = true) (h : SW E k t (H.take n)) : SW E k t H := by
  refine ⟨fun a w I β cs hs => ?_⟩
  have hk := keeps_take n β
  have hmono : ∀ {v s}, Rep w I β v s → s.under n = true → Rep w I (β.take n) v s := fun hr hu => hr.mono_below (fun _ _ h => h) (fun _ _ _ => rfl) hk hu
  have hown : ∀ b c, owns (H.take n) (β.take n) b c → owns H β b c := by
    rintro b c ⟨o, x, h1, h2, h3, h4⟩
    exact ⟨o, x, (take_get h1).2, h2, (take_get h3).2, h4⟩
  have hlook : ∀ m, (tget t m).under n = true := by
    intro m
    clear hs h
    induction t with
    | nil => rfl
    | cons x t ih =>
      simp only [List.all_cons, Bool.and_eq_true] at ht
      simp only [tget]
      split
      · exact ht.1
      · exact ih ht.2
  refine h.run a w I (β.take n) cs ⟨⟨?_, ?_, ?_, hs.heap.inI, hs.heap.glob⟩, fun m => hmono (hs.tmps m) (hlook m), hs.size, ?_, ?_, ?_⟩
  · simp [hs.heap.len]
  · intro b o x h1 h2
    have ho := hs.heap.obj b o x (take_get h1).2 (take_get h2).2
    have hu := List.all_eq_true.1 hH o (List.mem_of_getElem? h1)
    cases o with
    | cells l =>
      cases x with
      | blk c =>
        obtain ⟨vs, T, a1, a2, a3, a4⟩ := ho
        exact ⟨vs, T, a1, a2, fun j hj hj' => hmono (a3 j hj hj') (allUnder_get hu j hj), a4⟩
      | tok u => exact ho
    | mapI kk es =>
      cases x with
      | blk c =>
        obtain ⟨vs, T, a1, a2, a3, a4⟩ := ho
        exact ⟨vs, T, a1, a2, fun j hj hj' => ⟨(a3 j hj hj').1, hmono (a3 j hj hj').2 (List.all_eq_true.1 hu _ (List.getElem_mem hj))⟩, a4⟩
      | tok u => exact ho
    | mapS es =>
      cases x with
      | blk c =>
        obtain ⟨vs, T, a1, a2, a3, a4⟩ := ho
        exact ⟨vs, T, a1, a2, fun j hj hj' => ⟨(a3 j hj hj').1, hmono (a3 j hj hj').2 (List.all_eq_true.1 hu _ (List.getElem_mem hj))⟩, a4⟩
      | tok u => exact ho
    | tok kk m =>
      cases x with
      | blk c => exact ho
      | tok u => exact ho
    | loop s f m' tt ps as bd =>
      cases x with
      | blk c =>
        obtain ⟨r, a1, a2, a3, a4, a5, a6, a7, a8, a9⟩ := ho
        exact ⟨r, a1, a2, a3, a4, a5, a6, a7, fun m => hmono (a8 m) (tget_under hu m), a9⟩
      | tok u => exact ho
    | vec kk l =>
      cases x with
      | blk c => exact ho
      | tok u =>
        rcases ho with ho | ⟨c, n', cap, vs, T, rfl, a1, a2, a3, a4, a5, a6, a7⟩
        · exact .inl ho
        · exact .inr ⟨c, n', cap, vs, T, rfl, a1, a2, a3, a4, a5, fun j hj hj' => hmono (a6 j hj hj') (allUnder_get hu j hj), a7⟩
    | dead => trivial
    | free => cases x <;> exact ho
    | pin kk es clock =>
      cases x with
      | blk c =>
        obtain ⟨vs, a1, a2, a3, a4⟩ := ho
        exact ⟨vs, a1, a2, fun j hj hj' => ⟨(a3 j hj hj').1, (a3 j hj hj').2.1, hmono (a3 j hj hj').2.2 (List.all_eq_true.1 hu _ (List.getElem_mem hj))⟩, a4⟩
      | tok u => exact ho
    | iter m' since seen last =>
      cases x with
      | blk c =>
        obtain ⟨cm, a1, a2⟩ := ho
        obtain ⟨y, hy, hl⟩ := hk m' _ (by simpa [SObj.under] using hu) a1
        cases hl
        exact ⟨cm, hy, a2⟩
      | tok u => exact ho
  · intro b b' c h1 h2; exact hs.heap.inj b b' c (hown b c h1) (hown b' c h2)
  · obtain ⟨bs, d1, d2, d3⟩ := hs.defers
    exact ⟨bs, d1, d2, fun c hc => ⟨(d3 c hc).1, (d3 c hc).2.1, fun b hb => (d3 c hc).2.2 b (hown b c hb)⟩⟩
  · exact { hs.ext with keep := hs.ext.keep.trans (hk.mono hE), own := fun b c ho => hs.ext.own b c (hown b c ho) }
  · simp; omega

/-- A nil slice that is going to be appended to. -/
theorem sw_tok {n kk : Nat} (hn : tget t n = .imm (.val (.slice none 0 0))) (h : SW E k ((n, .asl H.length kk []) :: t) (H ++ [.tok kk 0])) : SW E k t H := by
  refine ⟨fun a w I β cs hs => ?_⟩
  have hv : a.tmps.getD n undef = .slice none 0 0 := by
    have := hs.tmps n
    rw [hn] at this
    generalize a.tmps.getD n undef = v at this
    cases this with | imm this =>
    cases this with | val _ => rfl
  have hobj : ObjOK w I (β ++ [.tok (.slice none 0 0)]) (.tok kk 0) (.tok (.slice none 0 0)) := .inl ⟨rfl, rfl⟩
  have hext : Ext H.length w I β H w I (β ++ [.tok (.slice none 0 0)]) (H ++ [.tok kk 0]) := .push hs.heap (fun c hc => by cases hc)
  refine h.run a w I _ cs ⟨hs.heap.push hobj (fun b c hc => by cases hc), fun m => ?_, hs.size, hs.defers.ext hext, hs.ext.trans (hext.weaken hs.hlen), by simp; have := hs.hlen; omega⟩
  simp only [tget]
  split
  · rename_i e
    subst e
    rw [hv]
    exact .asl H.length kk [] _ _ 0 (.islNil kk) (by rw [← hs.heap.len]; simp) ⟨_, _, rfl⟩ (Nat.le_refl _) (fun _ => rfl)
  · exact (hs.tmps m).ext (by rw [hs.heap.len]; exact hext)

end
end Go.Sh

/- The shadow machine, part 16: a statement whose operations Go may carry out in several orders. -/
namespace Go.Sh

section
variable {P : Program} {G : List (Nat × D)} {fn : Func} {rd : Bool} {E : En P G fn rd} {t : List (Nat × SV)} {H : List SObj} {k : List Item}

/-- which operations must come before one -/
def befores (o : Oper) : List Nat := (o.after.toList.filter (Region.binds .any)).map (·.on)

/-- Each operation that writes a temporary that another one looks at is ordered against it; no two write one temporary; edges lead back. -/
def noDefer (op : Op) : Bool :=
  match op with
  | .defer _ => false
  | _ => true
def depOK (ops : Array Oper) : Bool :=
  ops.toList.zipIdx.all fun (o, i) => noDefer o.op &&
    (befores o).all (fun j => decide (j < i)) &&
    ops.toList.zipIdx.all fun (p, j) =>
      match p.dst with
      | none => true
      | some d => (!(o.looksAt ops).contains d || i == j || (decide (j < i) && (befores o).contains j) || (decide (i < j) && (befores p).contains i)) && (i == j || o.dst != some d)

/-- The values of the operations, one after the other as they stand in the text; the heap stays as it is. -/
inductive Draws (P : Program) (G : List (Nat × D)) (N : Nat) (all : Array Oper) (H : List SObj) : List Oper → List (Nat × SV) → List (Nat × SV) → Prop
  | nil (t : List (Nat × SV)) : Draws P G N all H [] t t
  | skip {o : Oper} {rest : List Oper} {t t' : List (Nat × SV)} : swant all t o.guard = some false → dstOK N o.dst = true → Draws P G N all H rest (tput t o.dst sU) t' → Draws P G N all H (o :: rest) t t'
  | op {o : Oper} {rest : List Oper} {t t' : List (Nat × SV)} {r : SV} : swant all t o.guard = some true → dstOK N o.dst = true → sop P o.op (evalS G t) H = some (r, H) → Draws P G N all H rest (tput t o.dst r) t' → Draws P G N all H (o :: rest) t t'
  | call {o : Oper} {rest : List Oper} {t t' : List (Nat × SV)} {r : SV} {fx : Operand} {args : Array Operand} {tys : Array TypeId} {f : FuncId} {first captured : List SV} : swant all t o.guard = some true → dstOK N o.dst = true →
      o.op = .call ⟨.value fx, args, tys⟩ → evalS G t fx = .fn (.func f) first captured → hasBody P f = true → SPure P G f (first ++ args.toList.map (evalS G t) ++ captured) r →
      Draws P G N all H rest (tput t o.dst r) t' → Draws P G N all H (o :: rest) t t'

/-- the shadow value that an operation yields in the text's order -/
structure Val (P : Program) (G : List (Nat × D)) (N : Nat) (all : Array Oper) (H : List SObj) (o : Oper) (t : List (Nat × SV)) (r : SV) : Prop where
  dst : dstOK N o.dst = true
  how : (swant all t o.guard = some false ∧ r = sU) ∨ (swant all t o.guard = some true ∧ (sop P o.op (evalS G t) H = some (r, H) ∨
    ∃ fx args tys f first captured, o.op = .call ⟨.value fx, args, tys⟩ ∧ evalS G t fx = .fn (.func f) first captured ∧ hasBody P f = true ∧ SPure P G f (first ++ args.toList.map (evalS G t) ++ captured) r))

/-- the temporaries before operation i -/
def tAt (ops : List Oper) (vals : List SV) (t : List (Nat × SV)) : Nat → List (Nat × SV)
  | 0 => t
  | i + 1 => tput (tAt ops vals t i) ((ops[i]?).bind (·.dst)) ((vals[i]?).getD .any)

theorem tAt_cons (o : Oper) (ops : List Oper) (v : SV) (vals : List SV) (t : List (Nat × SV)) : ∀ i, tAt (o :: ops) (v :: vals) t (i + 1) = tAt ops vals (tput t o.dst v) i
  | 0 => by simp [tAt]
  | i + 1 => by
    rw [tAt, tAt_cons o ops v vals t i]
    simp [tAt]

theorem draws_vals {N : Nat} {all : Array Oper} {rest : List Oper} {t t' : List (Nat × SV)} (h : Draws P G N all H rest t t') :
    ∃ vals : List SV, vals.length = rest.length ∧ t' = tAt rest vals t rest.length ∧ ∀ (i : Nat) o, rest[i]? = some o → ∃ v, vals[i]? = some v ∧ Val P G N all H o (tAt rest vals t i) v := by
  have step : ∀ (o : Oper) (rest : List Oper) (t t' : List (Nat × SV)) (r : SV), Val P G N all H o t r → (∃ vals : List SV, vals.length = rest.length ∧ t' = tAt rest vals (tput t o.dst r) rest.length ∧ ∀ (i : Nat) o', rest[i]? = some o' → ∃ v, vals[i]? = some v ∧ Val P G N all H o' (tAt rest vals (tput t o.dst r) i) v) →
      ∃ vals : List SV, vals.length = (o :: rest).length ∧ t' = tAt (o :: rest) vals t (o :: rest).length ∧ ∀ (i : Nat) o', (o :: rest)[i]? = some o' → ∃ v, vals[i]? = some v ∧ Val P G N all H o' (tAt (o :: rest) vals t i) v := by
    rintro o rest t t' r hv ⟨vals, h1, h2, h3⟩
    refine ⟨r :: vals, by simp [h1], by rw [List.length_cons, tAt_cons]; exact h2, fun i o' ho' => ?_⟩
    cases i with
    | zero => simp at ho'; subst ho'; exact ⟨r, by simp, hv⟩
    | succ i => simp at ho'; rw [tAt_cons]; obtain ⟨v, a, b⟩ := h3 i o' ho'; exact ⟨v, by simpa using a, b⟩
  induction h with
  | nil t => exact ⟨[], rfl, rfl, fun i o h => by simp at h⟩
  | skip h1 h2 _ ih => exact step _ _ _ _ _ ⟨h2, .inl ⟨h1, rfl⟩⟩ ih
  | op h1 h2 h3 _ ih => exact step _ _ _ _ _ ⟨h2, .inr ⟨h1, .inl h3⟩⟩ ih
  | call h1 h2 h3 h4 h5 h6 _ ih => exact step _ _ _ _ _ ⟨h2, .inr ⟨h1, .inr ⟨_, _, _, _, _, _, h3, h4, h5, h6⟩⟩⟩ ih

theorem map_congr_mem {α γ : Type} {f g : α → γ} {l : Array α} (h : ∀ x ∈ l, f x = g x) : l.toList.map f = l.toList.map g :=
  List.map_congr_left fun x hx => h x (by simpa using hx)

theorem sop_congr {op : Op} {ev ev' : Operand → SV} (h : ∀ x ∈ op.operands, ev x = ev' x) : sop P op ev H = sop P op ev' H := by
  have parts : ∀ ps : Array (Nat × Operand), (∀ x ∈ (ps.toList.map (·.2)).toArray, ev x = ev' x) → (ps.toList.map fun p => (p.1, ev p.2)) = (ps.toList.map fun p => (p.1, ev' p.2)) := by
    intro ps hp
    refine List.map_congr_left fun p hx => ?_
    rw [hp p.2 (by simp; exact ⟨p.1, by simpa using hx⟩)]
  cases op <;> simp only [Op.operands] at h <;> simp only [sop]
  case move x => rw [h x (by simp)]
  case assign x => rw [h x (by simp)]
  case pick c a b => rw [h c (by simp), h a (by simp), h b (by simp)]
  case box e x => rw [h x (by simp)]
  case build t ps => rw [parts ps h]
  case buildSlice t n ps => rw [parts ps h]
  case load t a => rw [h a (by simp)]
  case store t a x => rw [h a (by simp), h x (by simp)]
  case nilCheck x => rw [h x (by simp)]
  case binOp op t x y yt => rw [h x (by simp), h y (by simp)]
  case unOp op t x => rw [h x (by simp)]
  case convert a b x => rw [h x (by simp)]
  case makeFunc f first captured =>
    rw [map_congr_mem (l := first) (fun x hx => h x (by simp [hx])), map_congr_mem (l := captured) (fun x hx => h x (by simp [hx]))]
  case makeMap t rs => cases rs <;> rfl
  case makeSlice t l c => rw [h l (by simp), h c (by simp)]
  case slice t x lo hi mx =>
    cases mx with
    | some m => rfl
    | none =>
      have o1 : lo.map ev = lo.map ev' := by
        cases lo with
        | none => rfl
        | some y => simp [h y (by simp)]
      have o2 : hi.map ev = hi.map ev' := by
        cases hi with
        | none => rfl
        | some y => simp [h y (by simp)]
      simp only [o1, o2, h x (by simp)]
  case fieldAddr a x f => rw [h x (by simp)]
  case field a x f => rw [h x (by simp)]
  case indexAddr t x i => rw [h x (by simp), h i (by simp)]
  case index t x i => rw [h x (by simp), h i (by simp)]
  case lookup t x i ok => rw [h x (by simp), h i (by simp)]
  case mapUpdate t m kk x => rw [h m (by simp), h kk (by simp), h x (by simp)]
  case extract x i => rw [h x (by simp)]
  case call c =>
    obtain ⟨callee, args, tys⟩ := c
    cases callee with
    | value f => rfl
    | invoke r m => rfl
    | builtin b =>
      simp only
      rw [map_congr_mem (l := args) (fun x hx => h x (by simp [Call.operands, hx]))]

theorem tget_tput_ne {d : Option Tmp} {s : SV} {n : Nat} (h : d ≠ some n) : tget (tput t d s) n = tget t n := by
  cases d with
  | none => rfl
  | some m => simp only [tput, tget]; rw [if_neg (fun e => h (by rw [e]))]

structure Uniq (ops : Array Oper) : Prop where
  edge : ∀ (i : Nat) o, ops[i]? = some o → ∀ j ∈ befores o, j < i
  dep : ∀ (i j : Nat) o p d, ops[i]? = some o → ops[j]? = some p → p.dst = some d → d ∈ o.looksAt ops → i = j ∨ (j < i ∧ j ∈ befores o) ∨ (i < j ∧ i ∈ befores p)
  uniq : ∀ (i j : Nat) o p d, ops[i]? = some o → ops[j]? = some p → o.dst = some d → p.dst = some d → i = j

theorem noDefer_of {ops : Array Oper} (h : depOK ops = true) (i : Nat) (o : Oper) (ho : ops[i]? = some o) (c : Call) : o.op ≠ .defer c := by
  unfold depOK at h
  have m1 : (o, i) ∈ ops.toList.zipIdx := by
    rw [List.mem_zipIdx_iff_getElem?]; simpa using ho
  have h1 := List.all_eq_true.1 h (o, i) m1
  simp only [Bool.and_eq_true] at h1
  intro e
  rw [e] at h1
  simp [noDefer] at h1

theorem uniq_of {ops : Array Oper} (h : depOK ops = true) : Uniq ops := by
  have key : ∀ (i j : Nat) o p, ops[i]? = some o → ops[j]? = some p → ((befores o).all (fun j => decide (j < i)) && (match p.dst with
      | none => true
      | some d => (!(o.looksAt ops).contains d || i == j || (decide (j < i) && (befores o).contains j) || (decide (i < j) && (befores p).contains i)) && (i == j || o.dst != some d))) = true := by
    intro i j o p ho hp
    unfold depOK at h
    have m1 : (o, i) ∈ ops.toList.zipIdx := by
      rw [List.mem_zipIdx_iff_getElem?]; simpa using ho
    have m2 : (p, j) ∈ ops.toList.zipIdx := by
      rw [List.mem_zipIdx_iff_getElem?]; simpa using hp
    have h1 := List.all_eq_true.1 h (o, i) m1
    simp only [Bool.and_eq_true] at h1 ⊢
    exact ⟨h1.1.2, List.all_eq_true.1 h1.2 (p, j) m2⟩
  refine ⟨fun i o ho j hj => ?_, fun i j o p d ho hp hd hl => ?_, fun i j o p d ho hp hod hpd => ?_⟩
  · have := key i i o o ho ho
    simp only [Bool.and_eq_true] at this
    simpa using List.all_eq_true.1 this.1 j hj
  · have := key i j o p ho hp
    rw [hd] at this
    simp only [Bool.and_eq_true, Bool.or_eq_true, Bool.not_eq_true', beq_iff_eq, decide_eq_true_eq, List.contains_iff_mem] at this
    rcases this.2.1 with ((h1 | h1) | h1) | h1
    · exact absurd hl (by simpa using h1)
    · exact .inl h1
    · exact .inr (.inl h1)
    · exact .inr (.inr h1)
  · have := key i j o p ho hp
    rw [hpd, hod] at this
    simp only [Bool.and_eq_true, Bool.or_eq_true, beq_iff_eq] at this
    rcases this.2.2 with h1 | h1
    · exact h1
    · simp at h1

theorem tAt_written {ops : Array Oper} (hu : Uniq ops) (vals : List SV) {j : Nat} {p : Oper} {d : Nat} (hp : ops[j]? = some p) (hd : p.dst = some d) : ∀ i, j < i → tget (tAt ops.toList vals t i) d = (vals[j]?).getD .any
  | 0, h => by omega
  | i + 1, h => by
    simp only [tAt]
    by_cases e : j = i
    · subst e
      have : (ops.toList[j]?).bind (·.dst) = some d := by simp [hp, hd]
      rw [this]
      simp [tput, tget]
    · rw [tget_tput_ne, tAt_written hu vals hp hd i (by omega)]
      intro hc
      cases ho : ops[i]? with
      | none => simp [ho] at hc
      | some o => simp [ho] at hc; exact e (hu.uniq i j o p d ho hp hc hd).symm

theorem tAt_old {ops : Array Oper} (vals : List SV) {d : Nat} : ∀ i, (∀ j p, j < i → ops[j]? = some p → p.dst ≠ some d) → tget (tAt ops.toList vals t i) d = tget t d
  | 0, _ => rfl
  | i + 1, h => by
    simp only [tAt]
    rw [tget_tput_ne, tAt_old vals i (fun j p hj => h j p (by omega))]
    intro hc
    cases ho : ops[i]? with
    | none => simp [ho] at hc
    | some o => simp [ho] at hc; exact h i o (by omega) ho hc

/-- The state while some of the operations, those that are listed, have been carried out. -/
structure Mid (E : En P G fn rd) (ops : Array Oper) (vals : List SV) (t : List (Nat × SV)) (H : List SObj) (listed : Array Bool) (a : Act) (w : World) (I : Imm) (β : List Bnd) : Prop where
  heap : HeapOK G w I β H
  wrote : ∀ (j : Nat) p d, ops[j]? = some p → p.dst = some d → listed.getD j false = true → Rep w I β (a.tmps.getD d undef) ((vals[j]?).getD .any)
  old : ∀ d, (∀ (j : Nat) p, ops[j]? = some p → p.dst = some d → listed.getD j false = false) → Rep w I β (a.tmps.getD d undef) (tget t d)
  size : a.tmps.size = fn.ntmps
  defers : Marks E.w.heap.size w β H a.defers
  ext : Ext E.H.length E.w E.I E.β E.H w I β H
  hlen : E.H.length ≤ H.length
  lsize : listed.size = ops.size
  closed : ∀ (i : Nat) o, ops[i]? = some o → listed.getD i false = true → ∀ j ∈ befores o, listed.getD j false = true

theorem ready_spec {ops : Array Oper} {listed : Array Bool} {i : Nat} (hl : listed.size = ops.size) (h : i ∈ Region.ready .any ops listed) :
    ∃ o, ops[i]? = some o ∧ listed.getD i false = false ∧ ∀ j ∈ befores o, listed.getD j false = true := by
  unfold Region.ready at h
  obtain ⟨h1, h2⟩ := List.mem_filter.1 h
  have hi : i < ops.size := by simpa using h1
  simp only [Bool.and_eq_true, Bool.not_eq_true'] at h2
  obtain ⟨h2, h3⟩ := h2
  have ho : ops[i]? = some ops[i] := by simp [hi]
  refine ⟨ops[i], ho, ?_, ?_⟩
  · have : i < listed.size := by omega
    simp [Array.getD, this] at h2 ⊢; exact h2
  · intro j hj
    rw [ho] at h3
    simp only [Option.map_some, Option.getD_some] at h3
    obtain ⟨e, he, rfl⟩ := List.mem_map.1 hj
    obtain ⟨he1, he2⟩ := List.mem_filter.1 he
    have := Array.all_eq_true_iff_forall_mem.1 h3 e (by simpa using he1)
    simp only [he2, Bool.not_true, Bool.false_or] at this
    exact this

theorem ready_all {ops : Array Oper} {listed : Array Bool} (hu : Uniq ops) (hl : listed.size = ops.size) (h : Region.ready .any ops listed = []) : ∀ i, i < ops.size → listed.getD i false = true := by
  intro i
  induction i using Nat.strongRecOn with
  | _ i ih =>
    intro hi
    apply Classical.byContradiction
    intro hn
    have hn' : listed.getD i false = false := by simpa using hn
    have hli : i < listed.size := by omega
    have : i ∈ Region.ready .any ops listed := by
      unfold Region.ready
      refine List.mem_filter.2 ⟨by simpa using hi, ?_⟩
      have ho : ops[i]? = some ops[i] := by simp [hi]
      simp only [Bool.and_eq_true, Bool.not_eq_true', ho, Option.map_some, Option.getD_some]
      refine ⟨by simp [Array.getD, hli] at hn' ⊢; exact hn', Array.all_eq_true_iff_forall_mem.2 fun e he => ?_⟩
      cases hb : Region.binds .any e with
      | false => simp
      | true =>
        have hmem : e.on ∈ befores ops[i] := List.mem_map.2 ⟨e, List.mem_filter.2 ⟨by simpa using he, hb⟩, rfl⟩
        have hlt := hu.edge i _ ho _ hmem
        simp only [Bool.not_true, Bool.false_or]
        exact ih e.on hlt (by omega)
    rw [h] at this
    cases this

theorem getD_set_self {l : Array Bool} {i : Nat} (h : i < l.size) : (l.setIfInBounds i true).getD i false = true := by simp [Array.getD, h]
theorem getD_set_ne {l : Array Bool} {i j : Nat} (h : i ≠ j) : (l.setIfInBounds i true).getD j false = l.getD j false := by
  rw [Array.getD_eq_getD_getElem?, Array.getD_eq_getD_getElem?, Array.getElem?_setIfInBounds_ne h]

/-- what an operation finds in its operands -/
theorem Mid.operand {ops : Array Oper} {vals : List SV} {listed : Array Bool} {a : Act} {w : World} {I : Imm} {β : List Bnd} (hu : Uniq ops) (h : Mid E ops vals t H listed a w I β) {i : Nat} {o : Oper} (ho : ops[i]? = some o)
    (hn : listed.getD i false = false) (hb : ∀ j ∈ befores o, listed.getD j false = true) {d : Nat} (hd : d ∈ o.looksAt ops) : Rep w I β (a.tmps.getD d undef) (tget (tAt ops.toList vals t i) d) := by
  by_cases hw : ∃ (j : Nat) (p : Oper), ops[j]? = some p ∧ p.dst = some d
  · obtain ⟨j, p, hp, hpd⟩ := hw
    have only : ∀ (j' : Nat) p', ops[j']? = some p' → p'.dst = some d → j' = j := fun j' p' h1 h2 => hu.uniq j' j p' p d h1 hp h2 hpd
    rcases hu.dep i j o p d ho hp hpd hd with e | ⟨hlt, hm⟩ | ⟨hlt, hm⟩
    · subst e
      rw [tAt_old vals i (fun j' p' hj' h1 h2 => by have := only j' p' h1 h2; omega)]
      exact h.old d (fun j' p' h1 h2 => by rw [only j' p' h1 h2]; exact hn)
    · rw [tAt_written hu vals hp hpd i hlt]
      exact h.wrote j p d hp hpd (hb j hm)
    · rw [tAt_old vals i (fun j' p' hj' h1 h2 => by have := only j' p' h1 h2; omega)]
      refine h.old d (fun j' p' h1 h2 => ?_)
      rw [only j' p' h1 h2]
      cases hx : listed.getD j false with
      | false => rfl
      | true => have := h.closed j p hp hx i hm; rw [hn] at this; cases this
  · have no : ∀ (j : Nat) p, ops[j]? = some p → p.dst ≠ some d := fun j p h1 h2 => hw ⟨j, p, h1, h2⟩
    rw [tAt_old vals i (fun j p _ h1 => no j p h1)]
    exact h.old d (fun j p h1 h2 => absurd h2 (no j p h1))

theorem Mid.put {ops : Array Oper} {vals : List SV} {listed : Array Bool} {a : Act} {w w' : World} {I I' : Imm} {β β' : List Bnd} (hu : Uniq ops) (h : Mid E ops vals t H listed a w I β) {i : Nat} {o : Oper} (ho : ops[i]? = some o)
    (hb : ∀ j ∈ befores o, listed.getD j false = true) (hd : dstOK fn.ntmps o.dst = true) {v : Value} {s : SV} (hs : vals[i]? = some s)
    (hv : Rep w' I' β' v s) (hH : HeapOK G w' I' β' H) (he : Ext H.length w I β H w' I' β' H) : Mid E ops vals t H (listed.setIfInBounds i true) (a.put o.dst v) w' I' β' := by
  have hi : i < listed.size := by
    rw [h.lsize]
    rcases Nat.lt_or_ge i ops.size with h' | h'
    · exact h'
    · simp [Array.getElem?_eq_none h'] at ho
  have hsz : (a.put o.dst v).tmps.size = fn.ntmps := by cases o.dst <;> simp [Act.put, h.size]
  have same : ∀ d, o.dst ≠ some d → (a.put o.dst v).tmps.getD d undef = a.tmps.getD d undef := by
    intro d hne
    cases hod : o.dst with
    | none => rfl
    | some m =>
      simp only [Act.put]
      rw [Array.getD_eq_getD_getElem?, Array.getD_eq_getD_getElem?, Array.getElem?_setIfInBounds_ne (fun e => hne (by rw [hod, e]))]
  have mine : ∀ d, o.dst = some d → (a.put o.dst v).tmps.getD d undef = v := by
    intro d hod
    rw [hod] at hd ⊢
    have : d < a.tmps.size := by rw [h.size]; simpa [dstOK] using hd
    simp [Act.put, Array.getD, this]
  refine ⟨hH, fun j p d hp hpd hl => ?_, fun d hno => ?_, hsz, by cases o.dst <;> exact h.defers.ext he, h.ext.trans (he.weaken h.hlen), h.hlen, by simp [h.lsize], fun j p hp hl j' hj' => ?_⟩
  · by_cases e : i = j
    · subst e
      rw [ho] at hp; cases hp
      rw [mine d hpd, hs]
      exact hv
    · rw [getD_set_ne e] at hl
      rw [same d (fun hod => e (hu.uniq i j o p d ho hp hod hpd))]
      exact (h.wrote j p d hp hpd hl).ext (by rw [h.heap.len]; exact he)
  · have hne : o.dst ≠ some d := fun hod => by have := hno i o ho hod; rw [getD_set_self hi] at this; cases this
    rw [same d hne]
    refine (h.old d (fun j p hp hpd => ?_)).ext (by rw [h.heap.len]; exact he)
    have := hno j p hp hpd
    by_cases e : i = j
    · subst e; rw [getD_set_self hi] at this; cases this
    · rwa [getD_set_ne e] at this
  · by_cases e : i = j
    · subst e
      rw [ho] at hp; cases hp
      have := hb j' hj'
      by_cases e' : i = j'
      · subst e'; exact getD_set_self hi
      · rw [getD_set_ne e']; exact this
    · rw [getD_set_ne e] at hl
      have := h.closed j p hp hl j' hj'
      by_cases e' : i = j'
      · subst e'; exact getD_set_self hi
      · rw [getD_set_ne e']; exact this

theorem Mid.eval {ops : Array Oper} {vals : List SV} {listed : Array Bool} {a : Act} {w : World} {I : Imm} {β : List Bnd} (hu : Uniq ops) (h : Mid E ops vals t H listed a w I β) {i : Nat} {o : Oper} (ho : ops[i]? = some o)
    (hn : listed.getD i false = false) (hb : ∀ j ∈ befores o, listed.getD j false = true) (x : Operand) (hx : x ∈ o.op.operands) : Rep w I β (a.eval x) (evalS G (tAt ops.toList vals t i) x) := by
  cases x with
  | tmp n =>
    refine h.operand hu ho hn hb ?_
    unfold Oper.looksAt
    exact List.mem_append_left _ (List.mem_filterMap.2 ⟨.tmp n, by simpa using hx, rfl⟩)
  | const v => exact rep_ofVal ..
  | global g => exact rep_gget h.heap g
  | func f => exact .fn _ #[] #[] [] [] rfl rfl (fun j h => by simp at h) (fun j h => by simp at h)

theorem Mid.want {ops : Array Oper} {vals : List SV} {listed : Array Bool} {a : Act} {w : World} {I : Imm} {β : List Bnd} (hu : Uniq ops) (h : Mid E ops vals t H listed a w I β) {i : Nat} {o : Oper} (ho : ops[i]? = some o)
    (hn : listed.getD i false = false) (hb : ∀ j ∈ befores o, listed.getD j false = true) {c : Bool} (hw : swant ops (tAt ops.toList vals t i) o.guard = some c) : Region.wanted o (yielded ops a.tmps) = c := by
  unfold Region.wanted
  cases hg : o.guard with
  | none => rw [hg] at hw; simp [swant] at hw; simp [hw]
  | some x =>
    obtain ⟨j, want⟩ := x
    rw [hg] at hw
    simp only [swant] at hw
    split at hw <;> first | (cases hw; done) | skip
    rename_i d hd
    have key : ∀ v : Value, tget (tAt ops.toList vals t i) d = .imm (.val v) → a.tmps.getD d undef = v := by
      intro v hv
      have hr := h.operand hu ho hn hb (d := d) (by
        unfold Oper.looksAt
        refine List.mem_append_right _ ?_
        rw [hg]; simp [hd])
      rw [hv] at hr
      generalize a.tmps.getD d undef = u at hr
      cases hr with | imm hr =>
      cases hr with | val _ => rfl
    split at hw <;> first | (cases hw; done) | skip
    · rename_i b hbv
      have hc : c = (b == want) := by cases want <;> cases b <;> simp_all
      subst hc
      have hv := key _ hbv
      have hv' : a.tmps[d]? = some (.bool b) := by
        cases hx : a.tmps[d]? with
        | none => rw [Array.getD_eq_getD_getElem?, hx] at hv; simp [undef] at hv
        | some y => rw [Array.getD_eq_getD_getElem?, hx] at hv; simpa using hv
      simp [yielded, hd, hv']
    · rename_i vs hbv
      cases hw
      have hv := key _ hbv
      cases hx : a.tmps[d]? with
      | none => simp [yielded, hd, hx]
      | some y =>
        rw [Array.getD_eq_getD_getElem?, hx] at hv
        simp at hv
        subst hv
        simp [yielded, hd, hx]

def unlisted (l : Array Bool) : Nat := l.toList.countP (fun b => !b)

theorem unlisted_set {l : Array Bool} {i : Nat} (hi : i < l.size) (h : l.getD i false = false) : unlisted (l.setIfInBounds i true) + 1 = unlisted l := by
  unfold unlisted
  have hi' : i < l.toList.length := by simpa using hi
  have hv : l.toList[i] = false := by simpa [Array.getD, hi] using h
  have hpos : 0 < l.toList.countP (fun b => !b) := List.countP_pos_iff.2 ⟨false, hv ▸ List.getElem_mem hi', rfl⟩
  rw [Array.toList_setIfInBounds, List.countP_set hi', if_pos (by simp [hv]), if_neg (by simp)]
  omega

theorem mid_any {ops : Array Oper} {vals : List SV} (hu : Uniq ops) (hvals : ∀ (i : Nat) o, ops[i]? = some o → ∃ v, vals[i]? = some v ∧ Val P G fn.ntmps ops H o (tAt ops.toList vals t i) v) :
    ∀ (fuel : Nat) (listed : Array Bool) (a : Act) (w : World) (I : Imm) (β : List Bnd), Mid E ops vals t H listed a w I β → unlisted listed ≤ fuel →
      wpAny P .any ops (fun e a' w' => e = .normal ∧ ∃ I' β', Sim E (tAt ops.toList vals t ops.size) H a' w' I' β') fuel listed a w := by
  have fin : ∀ (listed : Array Bool) (a : Act) (w : World) (I : Imm) (β : List Bnd), Mid E ops vals t H listed a w I β → (∀ i, i < ops.size → listed.getD i false = true) → Sim E (tAt ops.toList vals t ops.size) H a w I β := by
    intro listed a w I β h hall
    refine ⟨h.heap, fun d => ?_, h.size, h.defers, h.ext, h.hlen⟩
    have lt : ∀ (j : Nat) p, ops[j]? = some p → j < ops.size := fun j p hp => by
      rcases Nat.lt_or_ge j ops.size with h' | h'
      · exact h'
      · simp [Array.getElem?_eq_none h'] at hp
    by_cases hw : ∃ (j : Nat) (p : Oper), ops[j]? = some p ∧ p.dst = some d
    · obtain ⟨j, p, hp, hpd⟩ := hw
      rw [tAt_written hu vals hp hpd _ (lt j p hp)]
      exact h.wrote j p d hp hpd (hall j (lt j p hp))
    · rw [tAt_old vals _ (fun j p _ hp hpd => hw ⟨j, p, hp, hpd⟩)]
      exact h.old d (fun j p hp hpd => absurd ⟨j, p, hp, hpd⟩ hw)
  intro fuel
  induction fuel with
  | zero =>
    intro listed a w I β h hf
    have hall : ∀ i, i < ops.size → listed.getD i false = true := by
      intro i hi
      have hli : i < listed.size := by rw [h.lsize]; exact hi
      cases hx : listed.getD i false with
      | true => rfl
      | false => have := unlisted_set hli hx; omega
    refine ⟨?_, rfl, I, β, fin listed a w I β h hall⟩
    cases hr : Region.ready .any ops listed with
    | nil => rfl
    | cons x l =>
      exfalso
      obtain ⟨o, ho, hn, _⟩ := ready_spec h.lsize (i := x) (by rw [hr]; simp)
      have : x < ops.size := by
        rcases Nat.lt_or_ge x ops.size with h' | h'
        · exact h'
        · simp [Array.getElem?_eq_none h'] at ho
      rw [hall x this] at hn; cases hn
  | succ fuel ih =>
    intro listed a w I β h hf
    refine ⟨fun hr => ⟨rfl, I, β, fin listed a w I β h (ready_all hu h.lsize hr)⟩, fun i hi => ?_⟩
    obtain ⟨o, ho, hn, hb⟩ := ready_spec h.lsize hi
    obtain ⟨s, hs, hval⟩ := hvals i o ho
    have hil : i < listed.size := by
      rw [h.lsize]
      rcases Nat.lt_or_ge i ops.size with h' | h'
      · exact h'
      · simp [Array.getElem?_eq_none h'] at ho
    have hcount := unlisted_set hil hn
    have next : ∀ (v : Value) (w' : World) (I' : Imm) (β' : List Bnd), Rep w' I' β' v s → HeapOK G w' I' β' H → Ext H.length w I β H w' I' β' H →
        wpAny P .any ops (fun e a' w' => e = .normal ∧ ∃ I' β', Sim E (tAt ops.toList vals t ops.size) H a' w' I' β') fuel (listed.setIfInBounds i true) (a.put o.dst v) w' :=
      fun v w' I' β' h1 h2 h3 => ih _ _ _ I' β' (h.put hu ho hb hval.dst hs h1 h2 h3) (by omega)
    unfold wpOp
    rw [ho]
    simp only
    rcases hval.how with ⟨hw, rfl⟩ | ⟨hw, hop | hcall⟩
    · rw [h.want hu ho hn hb hw]
      exact next undef w I β (.imm (.val _)) h.heap .refl
    · rw [h.want hu ho hn hb hw]
      simp only [if_true]
      left
      classical
      have hop' : sop P o.op (fun x => if x ∈ o.op.operands then evalS G (tAt ops.toList vals t i) x else .any) H = some (s, H) := by
        rw [← hop]
        exact sop_congr fun x hx => by simp [hx]
      obtain ⟨n, v, w', I', β', h1, h2, h3, h4, h5⟩ := run_sop (o := o) (ρ := a.eval) hop' h.heap (fun x => by
        split
        · rename_i hx; exact h.eval hu ho hn hb x hx
        · exact .any _)
      unfold Oper.wp
      rw [h1]
      rcases h2 with rfl | ⟨rfl, rfl⟩
      · exact next v w' I' β' h3 h4 h5
      · exact next undef w' I' β' h3 h4 h5
    · obtain ⟨fx, args, tys, f, first, captured, hopc, hfx, hbody, hpure⟩ := hcall
      rw [h.want hu ho hn hb hw]
      simp only [if_true]
      left
      have hmem : ∀ x ∈ args, x ∈ o.op.operands := fun x hx => by rw [hopc]; simp [Op.operands, Call.operands, hx]
      have hfr := h.eval hu ho hn hb fx (by rw [hopc]; simp [Op.operands, Call.operands])
      rw [hfx] at hfr
      generalize hfv : a.eval fx = fv at hfr
      cases hfr with
      | fn _ fs cps _ _ l1 l2 r1 r2 =>
      have hrun : (execOp a.eval o).run P w = .ok (.enter f (fs ++ args.map a.eval ++ cps)) w := by
        obtain ⟨dst, op, type, pos, after, guard⟩ := o
        simp only at hopc
        subst hopc
        simp only [execOp, resolve, hfv, Deferred.ofValue, Sem.run_bind, Sem.run_pure, Result.andThen_ok, invoke]
        exact run_callFunc hbody
      have hreps : Reps w I β (fs ++ args.map a.eval ++ cps).toList (first ++ args.toList.map (evalS G (tAt ops.toList vals t i)) ++ captured) := by
        have e1 : Reps w I β fs.toList first := .of_get l1 r1
        have e2 : Reps w I β (args.map a.eval).toList (args.toList.map (evalS G (tAt ops.toList vals t i))) := by
          have : ∀ l : List Operand, (∀ x ∈ l, x ∈ args.toList) → Reps w I β (l.map a.eval) (l.map (evalS G (tAt ops.toList vals t i))) := by
            intro l
            induction l with
            | nil => intro _; exact .nil
            | cons x l ihl => intro hl; exact .cons (h.eval hu ho hn hb x (hmem x (by simpa using hl x (by simp)))) (ihl fun y hy => hl y (by simp [hy]))
          simpa using this args.toList (fun _ h => h)
        have e3 : Reps w I β cps.toList captured := .of_get l2 r2
        simpa using (e1.append e2).append e3
      unfold Oper.wp
      rw [hrun]
      refine (hpure H w I β _ h.heap hreps).mono ?_
      rintro e w' ⟨v, r', I', β', H', rfl, ⟨rfl, rfl⟩, h1, h2, h3⟩
      exact next v w' I' β' h1 h2 h3

theorem wpOps_run {ops : Array Oper} (hnd : ∀ (i : Nat) o, ops[i]? = some o → ∀ c, o.op ≠ .defer c) {R : Act → World → Prop} {b : Frame} {ro : Option Nat} {cs : List Frame} :
    ∀ (order : List Nat) (a : Act) (w : World), wpOps P ops (fun e a' w' => e = .normal ∧ R a' w') order a w →
      ∃ a' w', R a' w' ∧ Steps P (lone (atR b ro a (.inRegion ops order :: k)) cs w) (lone (atR b ro a' k) cs w') := by
  intro order
  induction order with
  | nil => intro a w h; exact ⟨a, w, h.2, .one rstep_region_end⟩
  | cons i rest ih =>
    intro a w h
    have go : ∀ a1 w1, step P (lone (atR b ro a (.inRegion ops (i :: rest) :: k)) cs w) = .next (lone (atR b ro a1 (.inRegion ops rest :: k)) cs w1) → wpOps P ops (fun e a' w' => e = .normal ∧ R a' w') rest a1 w1 →
        ∃ a' w', R a' w' ∧ Steps P (lone (atR b ro a (.inRegion ops (i :: rest) :: k)) cs w) (lone (atR b ro a' k) cs w') := by
      intro a1 w1 h1 h2
      obtain ⟨a', w', h3, h4⟩ := ih a1 w1 h2
      exact ⟨a', w', h3, .head h1 h4⟩
    cases ho : ops[i]? with
    | none =>
      simp only [wpOps, ho] at h
      refine go a w ?_ h
      have := rstep_op_skip (P := P) (b := b) (ro := ro) (a := a) (k := k) (cs := cs) (w := w) (ops := ops) (i := i) (rest := rest) (by simp [ho])
      simpa [ho, Act.put] using this
    | some o =>
      simp only [wpOps, ho] at h
      by_cases hw : Region.wanted o (yielded ops a.tmps) = true
      · rw [if_pos hw] at h
        have hg := rstepG_op (P := P) (b := b) (ro := ro) (k := k) (cs := cs) (w := w) (rest := rest) ho hw (.inr (hnd i o ho))
        have hfin : ∀ v, (atR b ro a (.inRegion ops (i :: rest) :: k)).finish v = atR b ro (a.put o.dst v) (.inRegion ops rest :: k) := fun v => by rw [rfinish_at, ho]; rfl
        rcases h with h | ⟨_, a0, w0, h0, _⟩
        · unfold Oper.wp at h
          generalize hres : (execOp a.eval o).run P w = res at h
          cases res with
          | halt x w' => cases x <;> simp [Oper.upon] at h
          | ok n w' =>
            cases n <;> simp only [Oper.upon] at h <;> first | (exact h.elim) | skip
            case value v => exact go _ _ (step_lone_go (by rw [hg, ← hfin]; simp [stepG.apply, hres])) h
            case skip => exact go _ _ (step_lone_go (by rw [hg, ← hfin]; simp [stepG.apply, hres])) h
            case defer d =>
              have hfd : ({ atR b ro a (.inRegion ops (i :: rest) :: k) with defers := d :: a.defers } : Frame).finish undef = atR b ro ({ a with defers := d :: a.defers }.put o.dst undef) (.inRegion ops rest :: k) := by
                cases hd : o.dst <;> simp [Frame.finish, atR, Frame.at, Act.put, ho, hd]
              exact go _ _ (step_lone_go (by rw [hg, ← hfd]; simp [stepG.apply, hres, atR, Frame.at])) h
            case enter f args =>
              obtain ⟨e, w2, fr, h1, h2, h3, h4⟩ := h (atR b ro a (.inRegion ops (i :: rest) :: k) :: cs)
              cases e with
              | panicked ch => cases h1.1
              | outgrown => obtain ⟨_, _, h5, _⟩ := h1; cases h5
              | returned v =>
                obtain ⟨a', w3, h5, h6⟩ := ih _ _ h1
                have henter : step P (lone (atR b ro a (.inRegion ops (i :: rest) :: k)) cs w) = .next (lone (Frame.enter P f args .normal) (atR b ro a (.inRegion ops (i :: rest) :: k) :: cs) w') :=
                  step_lone_go (by rw [hg]; simp [stepG.apply, hres, atR, Frame.at])
                refine ⟨a', w3, h5, .head henter (Steps.trans h2 (.head ?_ h6))⟩
                rw [← hfin]
                exact step_leave_returned h4
            case row row args =>
              obtain ⟨v, w2, h1, h2⟩ := h (atR b ro a (.inRegion ops (i :: rest) :: k)) cs
              obtain ⟨a', w3, h5, h6⟩ := ih _ _ h1
              have henter : step P (lone (atR b ro a (.inRegion ops (i :: rest) :: k)) cs w) = .next (lone (Frame.ofRow P row args .normal) (atR b ro a (.inRegion ops (i :: rest) :: k) :: cs) w') :=
                step_lone_go (by rw [hg]; simp [stepG.apply, hres, atR, Frame.at])
              rw [hfin] at h2
              exact ⟨a', w3, h5, .head henter (Steps.trans h2 h6)⟩
        · cases h0
      · rw [if_neg hw] at h
        have := rstep_op_skip (P := P) (b := b) (ro := ro) (a := a) (k := k) (cs := cs) (w := w) (ops := ops) (i := i) (rest := rest) (by simpa [ho] using hw)
        simp only [ho, Option.bind_some] at this
        exact go _ _ this h

/-- A statement in an open order. -/
theorem sw_draws {id : Nat} {all : Array Oper} {t' : List (Nat × SV)} (hm : P.follows .mixedOrders = true) (hdep : depOK all = true) (hd : Draws P G fn.ntmps all H all.toList t t') (h : SW E k t' H) :
    SW E (.code (.region id all true) :: k) t H := by
  obtain ⟨vals, hl, rfl, hvals⟩ := draws_vals hd
  have hu := uniq_of hdep
  refine ⟨fun a w I β cs hs => ?_⟩
  have hH : HeapOK G { w with drawn := w.drawn + 1 } I β H := hs.heap.grow (fun _ _ => rfl) (fun _ _ h => h) (fun _ _ h => .inl h) hs.heap.inI
  have hE : Ext H.length w I β H { w with drawn := w.drawn + 1 } I β H := .grow hs.heap (fun _ _ => rfl) (Nat.le_refl _) (fun _ _ h => h) (fun _ _ h => .inl h)
  have mid : Mid E all vals t H (Array.replicate all.size false) a { w with drawn := w.drawn + 1 } I β := by
    have none : ∀ j, (Array.replicate all.size false).getD j false = false := fun j => by
      rw [Array.getD_eq_getD_getElem?, Array.getElem?_replicate]; split <;> rfl
    refine ⟨hH, fun j p d _ _ hl => ?_, fun d _ => (hs.tmps d).ext (by rw [hs.heap.len]; exact hE), hs.size, hs.defers.ext hE, hs.ext.trans (hE.weaken hs.hlen), hs.hlen, by simp, fun i o _ hl => ?_⟩
    · rw [none] at hl; cases hl
    · rw [none] at hl; cases hl
  have hcnt : unlisted (Array.replicate all.size false) ≤ all.size := by
    unfold unlisted
    exact Nat.le_trans List.countP_le_length (by simp)
  have hany := mid_any hu (fun i o ho => hvals i o (by simpa using ho)) all.size _ a _ I β mid hcnt
  have hops := wpAny_sound (md := .any) all.size (w.tape w.drawn (.order E.base.fn id)) _ a _ hany
  obtain ⟨a', w', ⟨I', β', hsim⟩, harr⟩ := wpOps_run (b := E.base) (ro := E.ro) (k := k) (cs := cs) (noDefer_of hdep) _ a _ hops
  refine .of_steps (.head rstep_region_draw ?_) (h.run a' w' I' β' cs ?_)
  · simp only [Region.schedule, hm, Bool.true_or, if_true]
    exact harr
  · simpa using hsim

/-- In a statement in an open order: the operations 'rest' are still to be given their values. -/
structure SWd (E : En P G fn rd) (all : Array Oper) (rest : List Oper) (k : List Item) (t : List (Nat × SV)) (H : List SObj) : Prop where
  run : ∃ t', Draws P G fn.ntmps all H rest t t' ∧ SW E k t' H

theorem swd_start {id : Nat} {all : Array Oper} (hm : P.follows .mixedOrders = true) (hdep : depOK all = true) (h : SWd E all all.toList k t H) : SW E (.code (.region id all true) :: k) t H := by
  obtain ⟨t', h1, h2⟩ := h.run
  exact sw_draws hm hdep h1 h2
theorem swd_nil {all : Array Oper} (h : SW E k t H) : SWd E all [] k t H := ⟨t, .nil t, h⟩
theorem swd_skip {all : Array Oper} {o : Oper} {rest : List Oper} (hw : swant all t o.guard = some false) (hd : dstOK fn.ntmps o.dst = true) (h : SWd E all rest k (tput t o.dst sU) H) : SWd E all (o :: rest) k t H := by
  obtain ⟨t', h1, h2⟩ := h.run
  exact ⟨t', .skip hw hd h1, h2⟩
theorem swd_op {all : Array Oper} {o : Oper} {rest : List Oper} {r : SV} (hw : swant all t o.guard = some true) (hd : dstOK fn.ntmps o.dst = true)
    (hop : sop P o.op (evalS G t) H = some (r, H)) (h : SWd E all rest k (tput t o.dst r) H) : SWd E all (o :: rest) k t H := by
  obtain ⟨t', h1, h2⟩ := h.run
  exact ⟨t', .op hw hd hop h1, h2⟩
theorem swd_pure {all : Array Oper} {o : Oper} {rest : List Oper} {fx : Operand} {args : Array Operand} {tys : Array TypeId} {f : FuncId} {first captured : List SV} {r : SV}
    (hop : o.op = .call ⟨.value fx, args, tys⟩) (hw : swant all t o.guard = some true) (hd : dstOK fn.ntmps o.dst = true) (hf : evalS G t fx = .fn (.func f) first captured) (hb : hasBody P f = true)
    {argv : List SV} (hargs : first ++ args.toList.map (evalS G t) ++ captured = argv)
    (hc : SPure P G f argv r) (h : SWd E all rest k (tput t o.dst r) H) : SWd E all (o :: rest) k t H := by
  obtain ⟨t', h1, h2⟩ := h.run
  subst hargs
  exact ⟨t', .call hw hd hop hf hb hc h1, h2⟩

/-- the operations that yield a value and leave the heap alone -/
def sval (P : Program) (op : Op) (ev : Operand → SV) (H : List SObj) : Option SV :=
  match op with
  | .move x => some (ev x)
  | .assign x => some (ev x)
  | .pick c a b => match ev c with
    | .imm (.val (.bool v)) => some (if v then ev a else ev b)
    | _ => none
  | .build t parts => sbuild P t (parts.toList.map fun p => (p.1, ev p.2))
  | .load t a => sopLoad P t H (ev a)
  | .nilCheck x => match ev x with
    | .ptr b o => some (.ptr b o)
    | .imm (.row c o) => some (.imm (.row c o))
    | _ => none
  | .binOp op t x y _ => match ev x, ev y with
    | .imm (.val a), .imm (.val b) => (sbin P op t a b).map fun v => .imm (.val v)
    | _, _ => none
  | .unOp op _ x => match ev x with
    | .imm (.val a) => (sun op a).map fun v => .imm (.val v)
    | _ => none
  | .convert s d x => match ev x with
    | .imm (.val a) => (sconv P s d a).map fun v => .imm (.val v)
    | _ => none
  | .makeFunc fn first captured => some (.fn fn (first.toList.map ev) (captured.toList.map ev))
  | .slice t x lo hi none => sslice P t (ev x) (lo.map ev) (hi.map ev)
  | .fieldAddr s x f => sfieldAddr P s f (ev x)
  | .field t x f => sfield P t f (ev x)
  | .indexAddr t x ix => match ev ix with
    | .imm (.val (.int _ i)) => sindexAddr P t i (ev x)
    | _ => none
  | .index t x ix => match ev ix with
    | .imm (.val (.int _ i)) => sindex P t i (ev x)
    | _ => none
  | .lookup t x ix ok => slook P t H (ev x) (ev ix) ok
  | .extract t i => sextract i (ev t)
  | .buildSlice t (n + 1) parts => match sbuildSlice P t (n + 1) (parts.toList.map fun p => (p.1, ev p.2)) H with
    | some (r, _) => some r
    | none => none
  | .call { callee := .builtin b, args, argTypes } => match b, args.toList.map ev, argTypes.toList with
    | .len, [x], [t] => (slen P t H x).map fun n => .imm (.val (.int .i64 n))
    | .min, [.imm (.val (.int k x)), .imm (.val (.int _ y))], _ => some (.imm (.val (.int k (if y < x then y else x))))
    | .max, [.imm (.val (.int k x)), .imm (.val (.int _ y))], _ => some (.imm (.val (.int k (if y > x then y else x))))
    | _, _, _ => none
  | _ => none

theorem sbuildSlice_heap {t : TypeId} {n : Nat} {ps : List (Nat × SV)} {r : SV} {H' : List SObj} (h : sbuildSlice P t (n + 1) ps H = some (r, H')) : H' = H := by
  unfold sbuildSlice at h
  split at h <;> first | (cases h; done) | skip
  split at h <;> first | (cases h; done) | skip
  split at h <;> first | (cases h; done) | skip
  split at h
  · rename_i h0; cases h0
  · split at h <;> first | (cases h; done) | skip
    split at h <;> first | (cases h; done) | skip
    cases h; rfl

theorem sval_sop {op : Op} {ev : Operand → SV} {r : SV} (h : sval P op ev H = some r) : sop P op ev H = some (r, H) := by
  cases op <;> simp only [sval] at h <;> first | (cases h; done) | (simp only [sop, h, Option.map_some]; done) | skip
  case move x => cases h; rfl
  case assign x => cases h; rfl
  case pick c a b => simp only [sop]; split at h <;> first | (cases h; done) | (rename_i hc; cases h; rw [hc])
  case nilCheck x => simp only [sop]; split at h <;> first | (cases h; done) | (rename_i hc; cases h; rw [hc])
  case binOp op t x y yt =>
    simp only [sop]
    split at h <;> first | (cases h; done) | skip
    rename_i a b ha hb
    rw [ha, hb]
    cases hz : sbin P op t a b with
    | none => simp [hz] at h
    | some v => simp [hz] at h; simp [hz, h]
  case unOp op t x =>
    simp only [sop]
    split at h <;> first | (cases h; done) | skip
    rename_i a ha
    rw [ha]
    cases hz : sun op a with
    | none => simp [hz] at h
    | some v => simp [hz] at h; simp [hz, h]
  case convert s d x =>
    simp only [sop]
    split at h <;> first | (cases h; done) | skip
    rename_i a ha
    rw [ha]
    cases hz : sconv P s d a with
    | none => simp [hz] at h
    | some v => simp [hz] at h; simp [hz, h]
  case makeFunc => cases h; rfl
  case slice t x lo hi mx =>
    cases mx with
    | some m => simp at h
    | none => simp only at h; simp only [sop, h, Option.map_some]
  case indexAddr t x i =>
    simp only [sop]
    split at h <;> first | (cases h; done) | skip
    rename_i hi
    rw [hi]; simp only [h, Option.map_some]
  case index t x i =>
    simp only [sop]
    split at h <;> first | (cases h; done) | skip
    rename_i hi
    rw [hi]; simp only [h, Option.map_some]
  case buildSlice t n ps =>
    cases n with
    | zero => simp at h
    | succ n =>
      simp only at h
      simp only [sop]
      split at h
      · rename_i r' H' hs
        cases h
        rw [hs, sbuildSlice_heap hs]
      · cases h
  case call c =>
    obtain ⟨callee, args, tys⟩ := c
    cases callee with
    | value f => simp at h
    | invoke r m => simp at h
    | builtin b =>
      simp only [sop, sbuiltin] at h ⊢
      split at h <;> first | (cases h; done) | skip
      · rename_i x t h1 h2
        rw [h1, h2]
        cases hz : slen P t H x with
        | none => simp [hz] at h
        | some v => simp [hz] at h; simp [hz, h]
      · rename_i h1; cases h; rw [h1]
      · rename_i h1; cases h; rw [h1]

theorem swd_same {all : Array Oper} {rest : List Oper} {t' : List (Nat × SV)} (ht : ∀ n, tget t' n = tget t n) (h : SWd E all rest k t' H) : SWd E all rest k t H := by
  obtain ⟨t2, h1, h2⟩ := h.run
  have ev : ∀ {u u' : List (Nat × SV)}, (∀ n, tget u' n = tget u n) → evalS G u' = evalS G u := fun hu => by
    funext x; cases x <;> first | exact hu _ | rfl
  have pt : ∀ {u u' : List (Nat × SV)} (d : Option Tmp) (s : SV), (∀ n, tget u' n = tget u n) → ∀ n, tget (tput u' d s) n = tget (tput u d s) n := fun d s hu n => by
    cases d with
    | none => exact hu n
    | some d => simp only [tput, tget]; split <;> first | rfl | exact hu n
  have key : ∀ {rest : List Oper} {u' u2 : List (Nat × SV)}, Draws P G fn.ntmps all H rest u' u2 → ∀ u, (∀ n, tget u' n = tget u n) → ∃ u3, Draws P G fn.ntmps all H rest u u3 ∧ ∀ n, tget u2 n = tget u3 n := by
    intro rest u' u2 hd
    induction hd with
    | nil t => intro u hu; exact ⟨u, .nil u, hu⟩
    | skip a1 a2 _ ih =>
      intro u hu
      obtain ⟨u3, b1, b2⟩ := ih _ (pt _ _ hu)
      exact ⟨u3, .skip (by rw [← swant_same hu]; exact a1) a2 b1, b2⟩
    | op a1 a2 a3 _ ih =>
      intro u hu
      obtain ⟨u3, b1, b2⟩ := ih _ (pt _ _ hu)
      exact ⟨u3, .op (by rw [← swant_same hu]; exact a1) a2 (by rw [← ev hu]; exact a3) b1, b2⟩
    | call a1 a2 a3 a4 a5 a6 _ ih =>
      intro u hu
      obtain ⟨u3, b1, b2⟩ := ih _ (pt _ _ hu)
      exact ⟨u3, .call (by rw [← swant_same hu]; exact a1) a2 a3 (by rw [← ev hu]; exact a4) a5 (by rw [← ev hu]; exact a6) b1, b2⟩
  obtain ⟨u3, b1, b2⟩ := key h1 t ht
  exact ⟨u3, b1, sw_same b2 h2⟩

/-- Evaluation of a statement in an open order, operation by operation as it stands in the text. -/
def sgod (E : En P G fn rd) (st : List Nat) (all : Array Oper) : List Oper → List Item → List (Nat × SV) → List SObj → Prop
  | [], k, t, H => SW E k t H
  | o :: rest, k, t, H => match dstOK fn.ntmps o.dst with
    | false => SWd E all (o :: rest) k t H
    | true => match gslot all t o.guard with
      | .bad => SWd E all (o :: rest) k t H
      | .off => match o.dst with
        | some d => sgod E st all rest k ((d, sU) :: t) H
        | none => sgod E st all rest k t H
      | .free => match stopOp o.op (evalS G t) st o.dst with
        | true => SWd E all (o :: rest) k t H
        | false => match sval P o.op (evalS G t) H with
          | some r => fS r fun r => match o.dst with
            | some d => sgod E st all rest k ((d, r) :: t) H
            | none => sgod E st all rest k t H
          | none => SWd E all (o :: rest) k t H
      | .on g b want => BCase (wants b want)
        (match stopOp o.op (evalS G (sgbool g want :: t)) st o.dst with
        | true => SWd E all (o :: rest) k (sgbool g want :: t) H
        | false => match sval P o.op (evalS G (sgbool g want :: t)) H with
          | some r => fS r fun r => match o.dst with
            | some d => sgod E st all rest k ((d, r) :: sgbool g want :: t) H
            | none => sgod E st all rest k (sgbool g want :: t) H
          | none => SWd E all (o :: rest) k (sgbool g want :: t) H)
        (match o.dst with
        | some d => sgod E st all rest k ((d, sU) :: sgbool g (!want) :: t) H
        | none => sgod E st all rest k (sgbool g (!want) :: t) H)

theorem sgod_sound (st : List Nat) {all : Array Oper} : ∀ {rest : List Oper} {t : List (Nat × SV)}, sgod E st all rest k t H → SWd E all rest k t H
  | [], t, h => swd_nil (by simpa [sgod] using h)
  | o :: rest, t, h => by
    simp only [sgod] at h
    split at h
    · exact h
    rename_i hd
    split at h
    · exact h
    · rename_i hg
      refine swd_skip (gslot_off hg) hd ?_
      cases hdst : o.dst with
      | none => rw [hdst] at h; exact sgod_sound st h
      | some d => rw [hdst] at h; exact sgod_sound st h
    · rename_i hg
      split at h
      · exact h
      split at h
      · rename_i r hop
        rw [fS_eq] at h
        refine swd_op (gslot_free hg) hd (sval_sop hop) ?_
        cases hdst : o.dst with
        | none => rw [hdst] at h; exact sgod_sound st h
        | some d => rw [hdst] at h; exact sgod_sound st h
      · exact h
    · rename_i g b want hg
      obtain ⟨hw, htd⟩ := gslot_on hg
      cases hwb : wants b want with
      | true =>
        rw [hwb] at h hw
        simp only [BCase] at h
        have e : b = want := by cases b <;> cases want <;> simp_all [wants]
        subst e
        refine swd_same (tget_learnt htd) ?_
        have hw' : swant all (sgbool g b :: t) o.guard = some true := by rw [swant_same (tget_learnt htd)]; exact hw
        split at h
        · exact h
        split at h
        · rename_i r hop
          rw [fS_eq] at h
          refine swd_op hw' hd (sval_sop hop) ?_
          cases hdst : o.dst with
          | none => rw [hdst] at h; exact sgod_sound st h
          | some d => rw [hdst] at h; exact sgod_sound st h
        · exact h
      | false =>
        rw [hwb] at h hw
        simp only [BCase] at h
        have e : b = !want := by cases b <;> cases want <;> simp_all [wants]
        subst e
        refine swd_same (tget_learnt htd) (swd_skip (by rw [swant_same (tget_learnt htd)]; exact hw) hd ?_)
        cases hdst : o.dst with
        | none => rw [hdst] at h; exact sgod_sound st h
        | some d => rw [hdst] at h; exact sgod_sound st h

end
end Go.Sh

/- The shadow machine, part 17: laws for everyday steps. -/
namespace Go.Sh

theorem wrap64 {c : Int} (h0 : -9223372036854775808 ≤ c) (h1 : c ≤ 9223372036854775807) : IntKind.i64.wrap c = c := by
  have hb : IntKind.i64.bits = 64 := rfl
  have hs : IntKind.i64.signed = true := rfl
  unfold IntKind.wrap
  simp [hb, hs]
  omega

theorem wrap_succ {n : Nat} (h : n ≤ 9223372036854775806) : IntKind.i64.wrap ((n : Int) + 1) = ((n + 1 : Nat) : Int) := by
  rw [wrap64 (by omega) (by omega)]; omega

section
variable {P : Program} {G : List (Nat × D)} {fn : Func} {rd : Bool} {E : En P G fn rd} {t : List (Nat × SV)} {H : List SObj} {k : List Item}

theorem sop_index {ty e n : Nat} {x ix : Operand} {rows : List (List D)} {i : Nat} {m : Int} {kk : IntKind} {row : List D} (hx : (evalS G t x).rows = some (n, rows)) (hi : evalS G t ix = .imm (.val (.int kk m)))
    (hu : P.underlying ty = some (.slice e)) (hn : psize P e = some n) (hm : m = (i : Int)) (hr : rows[i]? = some row) : sop P (.indexAddr ty x ix) (evalS G t) H = some (.imm (.row row 0), H) := by
  subst hm
  simp only [sop, hi, sindexAddr, hu, hn]
  generalize evalS G t x = v at hx
  unfold SV.rows at hx
  split at hx <;> first | (cases hx; done) | skip
  all_goals (cases hx; simp [SV.rows, hr])
  simp at hr

theorem sw_kc (ks : List Nat) (n : Nat) (hE : E.H.length ≤ n) (hn : n ≤ H.length) (ht : (keep ks t).all (fun x => x.2.under n) = true) (hH : (H.take n).all (SObj.under n) = true) (h : SW E k (keep ks t) (H.take n)) : SW E k t H :=
  sw_keep ks (sw_cut n hE hn ht hH h)

/-- x[i] on an immutable slice, at an index that is in range -/
theorem swr_index {all : Array Oper} {o : Oper} {rest : List Oper} {ty e n : Nat} {x ix : Operand} {rows : List (List D)} {i : Nat} {m : Int} {kk : IntKind} {row : List D} (hop : o.op = .indexAddr ty x ix)
    (hw : swant all t o.guard = some true) (hd : dstOK fn.ntmps o.dst = true) (hx : (evalS G t x).rows = some (n, rows)) (hi : evalS G t ix = .imm (.val (.int kk m)))
    (hu : P.underlying ty = some (.slice e)) (hn : psize P e = some n) (hm : m = (i : Int)) (hr : rows[i]? = some row) (h : SWr E all rest k (tput t o.dst (.imm (.row row 0))) H) : SWr E all (o :: rest) k t H :=
  swr_op hw hd (by rw [hop]; exact sop_index hx hi hu hn hm hr) (Nat.le_refl _) h

theorem swd_index {all : Array Oper} {o : Oper} {rest : List Oper} {ty e n : Nat} {x ix : Operand} {rows : List (List D)} {i : Nat} {m : Int} {kk : IntKind} {row : List D} (hop : o.op = .indexAddr ty x ix)
    (hw : swant all t o.guard = some true) (hd : dstOK fn.ntmps o.dst = true) (hx : (evalS G t x).rows = some (n, rows)) (hi : evalS G t ix = .imm (.val (.int kk m)))
    (hu : P.underlying ty = some (.slice e)) (hn : psize P e = some n) (hm : m = (i : Int)) (hr : rows[i]? = some row) (h : SWd E all rest k (tput t o.dst (.imm (.row row 0))) H) : SWd E all (o :: rest) k t H :=
  swd_op hw hd (by rw [hop]; exact sop_index hx hi hu hn hm hr) h

theorem bytes_get (s : ByteArray) (i : Nat) : s[i]? = s.data.toList[i]? := by
  by_cases h : i < s.size
  · rw [getElem?_pos s i h]
    have h' : i < s.data.toList.length := by simpa using h
    rw [List.getElem?_eq_getElem h']
    rfl
  · rw [getElem?_neg s i h]
    have h' : s.data.toList.length ≤ i := by simpa using h
    rw [List.getElem?_eq_none h']

theorem sop_byte {ty : Nat} {x ix : Operand} {s : ByteArray} {i : Nat} {kk : IntKind} {b : UInt8} (hx : evalS G t x = .imm (.val (.string s))) (hi : evalS G t ix = .imm (.val (.int kk (i : Int))))
    (hu : P.underlying ty = some .string) (hr : s.data.toList[i]? = some b) : sop P (.index ty x ix) (evalS G t) H = some (.imm (.val (.int .u8 (b.toNat : Int))), H) := by
  simp only [sop, hi, hx, sindex, hu]
  simp [bytes_get, hr]

/-- s[i] on a string, at an index that is in range -/
theorem swr_byte {all : Array Oper} {o : Oper} {rest : List Oper} {ty : Nat} {x ix : Operand} {s : ByteArray} {i : Nat} {kk : IntKind} {b : UInt8} (hop : o.op = .index ty x ix)
    (hw : swant all t o.guard = some true) (hd : dstOK fn.ntmps o.dst = true) (hx : evalS G t x = .imm (.val (.string s))) (hi : evalS G t ix = .imm (.val (.int kk (i : Int))))
    (hu : P.underlying ty = some .string) (hr : s.data.toList[i]? = some b) (h : SWr E all rest k (tput t o.dst (.imm (.val (.int .u8 (b.toNat : Int))))) H) : SWr E all (o :: rest) k t H :=
  swr_op hw hd (by rw [hop]; exact sop_byte hx hi hu hr) (Nat.le_refl _) h

theorem kB {b b' : Bool} (hK : ∀ H', E.K (.imm (.val (.bool b))) H') (h : b = b') : E.K (.imm (.val (.bool b'))) H := h ▸ hK H
theorem kI {n n' : Int} {kk : IntKind} (hK : ∀ H', E.K (.imm (.val (.int kk n))) H') (h : n = n') : E.K (.imm (.val (.int kk n'))) H := h ▸ hK H
end
end Go.Sh

/- The shadow machine, part 18: loops over lists; calls over a part of the heap; slices that are shut or opened again. -/
namespace Go.Sh

section
variable {P : Program} {G : List (Nat × D)} {fn : Func} {rd : Bool} {E : En P G fn rd} {t : List (Nat × SV)} {H : List SObj} {k : List Item}

/-- A loop that goes through a list. -/
theorem sw_each {α σ : Type} {c : Code} (xs : List α) (T : Nat → σ → List (Nat × SV)) (Hh : Nat → σ → List SObj) (Iv : List α → List α → σ → Prop) (s0 : σ) (h0 : Iv [] xs s0)
    (hnil : ∀ s, Iv xs [] s → SW E (.code c :: .inLoop c :: k) (T xs.length s) (Hh xs.length s))
    (hcons : ∀ done x rest s, xs = done ++ x :: rest → xs.length = done.length + 1 + rest.length → Iv done (x :: rest) s →
      (∀ s', Iv (done ++ [x]) rest s' → SW E (.inLoop c :: k) (T (done.length + 1) s') (Hh (done.length + 1) s')) → SW E (.code c :: .inLoop c :: k) (T done.length s) (Hh done.length s)) :
    SW E (.code (.loop c) :: k) (T 0 s0) (Hh 0 s0) := by
  refine sw_loop ?_
  have key : ∀ (rest done : List α) (s : σ), xs = done ++ rest → Iv done rest s → SW E (.code c :: .inLoop c :: k) (T done.length s) (Hh done.length s) := by
    intro rest
    induction rest with
    | nil => intro done s hx hi; rw [List.append_nil] at hx; subst hx; exact hnil s hi
    | cons x rest ih =>
      intro done s hx hi
      refine hcons done x rest s hx (by rw [hx]; simp; omega) hi (fun s' hi' => sw_inLoop ?_)
      have := ih (done ++ [x]) s' (by simp [hx]) hi'
      simpa using this
  exact key xs [] s0 rfl h0

/-- A contract over the first part of the heap; the rest is as it was. -/
def SPre (P : Program) (G : List (Nat × D)) (f : FuncId) (args : List SV) (H0 : List SObj) (K : SV → List SObj → Prop) : Prop :=
  ∀ X, SCall P G f args (H0 ++ X) (fun r H' => ∃ H1, K r H1 ∧ H1.length = H0.length ∧ H' = H1 ++ X)

theorem owns_take {n : Nat} {β : List Bnd} {b c : Nat} (h : owns (H.take n) (β.take n) b c) : b < n ∧ owns H β b c := by
  obtain ⟨o, x, h1, h2, h3, h4⟩ := h
  exact ⟨(take_get h1).1, o, x, (take_get h1).2, h2, (take_get h3).2, h4⟩

/-- An object under other bindings: those below n are kept. -/
theorem ObjOK.below {w : World} {I : Imm} {β β' : List Bnd} {n : Nat} {o : SObj} {x : Bnd} (h : ObjOK w I β o x) (hu : o.under n = true) (hk : Keeps n β β') : ObjOK w I β' o x := by
  have hmono : ∀ {v s}, Rep w I β v s → s.under n = true → Rep w I β' v s := fun hr hu => hr.mono_below (fun _ _ h => h) (fun _ _ _ => rfl) hk hu
  cases o with
  | cells l =>
    cases x with
    | blk c =>
      obtain ⟨vs, T, a1, a2, a3, a4⟩ := h
      exact ⟨vs, T, a1, a2, fun j hj hj' => hmono (a3 j hj hj') (allUnder_get hu j hj), a4⟩
    | tok u => exact h
  | mapI kk es =>
    cases x with
    | blk c =>
      obtain ⟨vs, T, a1, a2, a3, a4⟩ := h
      exact ⟨vs, T, a1, a2, fun j hj hj' => ⟨(a3 j hj hj').1, hmono (a3 j hj hj').2 (List.all_eq_true.1 hu _ (List.getElem_mem hj))⟩, a4⟩
    | tok u => exact h
  | mapS es =>
    cases x with
    | blk c =>
      obtain ⟨vs, T, a1, a2, a3, a4⟩ := h
      exact ⟨vs, T, a1, a2, fun j hj hj' => ⟨(a3 j hj hj').1, hmono (a3 j hj hj').2 (List.all_eq_true.1 hu _ (List.getElem_mem hj))⟩, a4⟩
    | tok u => exact h
  | tok kk m => cases x <;> exact h
  | loop s f m' tt ps as bd =>
    cases x with
    | blk c =>
      obtain ⟨r, a1, a2, a3, a4, a5, a6, a7, a8, a9⟩ := h
      exact ⟨r, a1, a2, a3, a4, a5, a6, a7, fun m => hmono (a8 m) (tget_under hu m), a9⟩
    | tok u => exact h
  | vec kk l =>
    cases x with
    | blk c => exact h
    | tok u =>
      rcases h with h | ⟨c, n', cap, vs, T, rfl, a1, a2, a3, a4, a5, a6, a7⟩
      · exact .inl h
      · exact .inr ⟨c, n', cap, vs, T, rfl, a1, a2, a3, a4, a5, fun j hj hj' => hmono (a6 j hj hj') (allUnder_get hu j hj), a7⟩
  | dead => trivial
  | free => cases x <;> exact h
  | pin kk es clock =>
    cases x with
    | blk c =>
      obtain ⟨vs, a1, a2, a3, a4⟩ := h
      exact ⟨vs, a1, a2, fun j hj hj' => ⟨(a3 j hj hj').1, (a3 j hj hj').2.1, hmono (a3 j hj hj').2.2 (List.all_eq_true.1 hu _ (List.getElem_mem hj))⟩, a4⟩
    | tok u => exact h
  | iter m' since seen last =>
    cases x with
    | blk c =>
      obtain ⟨cm, a1, a2⟩ := h
      obtain ⟨y, hy, hl⟩ := hk m' _ (by simpa [SObj.under] using hu) a1
      cases hl
      exact ⟨cm, hy, a2⟩
    | tok u => exact h

theorem HeapOK.small {w : World} {I : Imm} {β : List Bnd} {H0 X : List SObj} (h : HeapOK G w I β (H0 ++ X)) (hu : H0.all (SObj.under H0.length) = true) : HeapOK G w I (β.take H0.length) H0 := by
  have hl : β.length = H0.length + X.length := by rw [h.len]; simp
  have hown : ∀ b c, owns H0 (β.take H0.length) b c → owns (H0 ++ X) β b c := fun b c ho => by
    have : H0 = (H0 ++ X).take H0.length := by simp
    rw [this] at ho
    simp only [List.length_take, List.length_append] at ho
    rw [show min H0.length (H0.length + X.length) = H0.length by omega] at ho
    exact (owns_take ho).2
  refine ⟨by simp; omega, fun b o x h1 h2 => ?_, fun b b' c h1 h2 => h.inj b b' c (hown b c h1) (hown b' c h2), h.inI, h.glob⟩
  have hb := lt_of_getElem? h1
  exact (h.obj b o x (by rw [List.getElem?_append_left hb]; exact h1) (take_get h2).2).below (List.all_eq_true.1 hu _ (List.mem_of_getElem? h1)) (keeps_take _ _)

/-- What a step over the first part of the heap leaves, seen over the whole. -/
theorem HeapOK.whole {w w' : World} {I I' : Imm} {β β1 : List Bnd} {H0 X H1 : List SObj} (h : HeapOK G w I β (H0 ++ X)) (hn : H0.length ≤ H1.length) (hu1 : (H1.take H0.length).all (SObj.under H0.length) = true)
    (h1 : HeapOK G w' I' β1 H1) (he : Ext H0.length w I (β.take H0.length) H0 w' I' β1 H1) :
    HeapOK G w' I' (β1.take H0.length ++ β.drop H0.length) (H1.take H0.length ++ X) ∧ Ext (H0 ++ X).length w I β (H0 ++ X) w' I' (β1.take H0.length ++ β.drop H0.length) (H1.take H0.length ++ X) := by
  have hl : β.length = H0.length + X.length := by rw [h.len]; simp
  have hl1 : β1.length = H1.length := h1.len
  have hbt : (β1.take H0.length).length = H0.length := by simp; omega
  have hHt : (H1.take H0.length).length = H0.length := by simp; omega
  have hsm : ∀ b c, owns H0 (β.take H0.length) b c → b < H0.length ∧ owns (H0 ++ X) β b c := fun b c ho => by
    have : H0 = (H0 ++ X).take H0.length := by simp
    rw [this] at ho
    simp only [List.length_take, List.length_append] at ho
    rw [show min H0.length (H0.length + X.length) = H0.length by omega] at ho
    exact owns_take ho
  -- owners behind
  have hown : ∀ b c, owns (H1.take H0.length ++ X) (β1.take H0.length ++ β.drop H0.length) b c → (b < H0.length ∧ owns H1 β1 b c) ∨ (H0.length ≤ b ∧ owns (H0 ++ X) β b c) := by
    rintro b c ⟨o, x, a1, a2, a3, a4⟩
    rcases Nat.lt_or_ge b H0.length with hb | hb
    · rw [List.getElem?_append_left (by omega)] at a1 a3
      exact .inl ⟨hb, o, x, (take_get a1).2, a2, (take_get a3).2, a4⟩
    · rw [List.getElem?_append_right (by omega), hHt] at a1
      rw [List.getElem?_append_right (by omega), hbt, List.getElem?_drop, show H0.length + (b - H0.length) = b by omega] at a3
      exact .inr ⟨hb, o, x, by rw [List.getElem?_append_right hb]; exact a1, a2, a3, a4⟩
  have hkeep : Keeps β.length β (β1.take H0.length ++ β.drop H0.length) := by
    intro b x hb hx
    rcases Nat.lt_or_ge b H0.length with hlt | hge
    · obtain ⟨y, hy, hxy⟩ := he.keep b x hlt (by rw [List.getElem?_take, if_pos hlt]; exact hx)
      exact ⟨y, by rw [List.getElem?_append_left (by omega), List.getElem?_take, if_pos hlt]; exact hy, hxy⟩
    · exact ⟨x, by rw [List.getElem?_append_right (by omega), hbt, List.getElem?_drop, show H0.length + (b - H0.length) = b by omega]; exact hx, x.le_refl⟩
  have hX : ∀ b c, H0.length ≤ b → owns (H0 ++ X) β b c → ∀ b', ¬ owns H0 (β.take H0.length) b' c := fun b c hb ho b' ho' => by
    obtain ⟨h2, h3⟩ := hsm b' c ho'
    have := h.inj b b' c ho h3
    omega
  refine ⟨⟨by simp; omega, fun b o x a1 a2 => ?_, fun b b' c a1 a2 => ?_, h1.inI, h1.glob⟩, ⟨he.imm, he.cell, ?_, fun c hc hno => he.old c hc (fun b hb => hno b (hsm b c hb).2), fun b c ho => ?_, fun c o hi => ?_, he.size, he.env⟩⟩
  · rcases Nat.lt_or_ge b H0.length with hb | hb
    · rw [List.getElem?_append_left (by omega)] at a1 a2
      refine (h1.obj b o x (take_get a1).2 (take_get a2).2).below (n := H0.length) (List.all_eq_true.1 hu1 _ (List.mem_of_getElem? a1)) (fun b' x' hb' hx' => ⟨x', ?_, x'.le_refl⟩)
      rw [List.getElem?_append_left (by omega), List.getElem?_take, if_pos hb']; exact hx'
    · rw [List.getElem?_append_right (by omega), hHt] at a1
      rw [List.getElem?_append_right (by omega), hbt, List.getElem?_drop, show H0.length + (b - H0.length) = b by omega] at a2
      have a1' : (H0 ++ X)[b]? = some o := by rw [List.getElem?_append_right hb]; exact a1
      by_cases hd : o = .dead
      · subst hd; trivial
      refine (h.obj b o x a1' a2).mono (fun c hc => ?_) he.imm he.cell hkeep (fun c o' hc hi => ?_)
      · exact he.old c ((h.obj b o x a1' a2).block_lt hd hc) (hX b c hb ⟨o, x, a1', hd, a2, hc⟩)
      · rcases he.new c o' hi with h2 | ⟨b', h2⟩ | h2
        · exact h2
        · exact absurd h2 (hX b c hb ⟨o, x, a1', hd, a2, hc⟩ b')
        · have := (h.obj b o x a1' a2).block_lt hd hc; omega
  · have mixed : ∀ b b', b < H0.length → owns H1 β1 b c → H0.length ≤ b' → owns (H0 ++ X) β b' c → False := by
      intro b b' _ ho hb' ho'
      rcases he.own b c ho with ⟨b2, h2⟩ | h2
      · exact hX b' c hb' ho' b2 h2
      · have := h.owns_lt ho'; omega
    rcases hown b c a1 with ⟨hb, ho⟩ | ⟨hb, ho⟩ <;> rcases hown b' c a2 with ⟨hb', ho'⟩ | ⟨hb', ho'⟩
    · exact h1.inj b b' c ho ho'
    · exact (mixed b b' hb ho hb' ho').elim
    · exact (mixed b' b hb' ho' hb ho).elim
    · exact h.inj b b' c ho ho'
  · exact hkeep.mono (by rw [h.len]; exact Nat.le_refl _)
  · rcases hown b c ho with ⟨_, h2⟩ | ⟨_, h2⟩
    · rcases he.own b c h2 with ⟨b', h3⟩ | h3
      · exact .inl ⟨b', (hsm b' c h3).2⟩
      · exact .inr h3
    · exact .inl ⟨b, h2⟩
  · rcases he.new c o hi with h2 | ⟨b, h2⟩ | h2
    · exact .inl h2
    · exact .inr (.inl ⟨b, (hsm b c h2).2⟩)
    · exact .inr (.inr h2)

theorem rep_small {w : World} {I : Imm} {β : List Bnd} {n : Nat} {v : Value} {s : SV} (h : Rep w I β v s) (hu : s.under n = true) : Rep w I (β.take n) v s :=
  h.mono_below (fun _ _ h => h) (fun _ _ _ => rfl) (keeps_take n β) hu
theorem reps_small {w : World} {I : Imm} {β : List Bnd} {n : Nat} {vs : List Value} {ss : List SV} (h : Reps w I β vs ss) (hu : ss.all (SV.under n) = true) : Reps w I (β.take n) vs ss :=
  ⟨h.len, fun j v s hv hs => rep_small (h.rep j v s hv hs) (List.all_eq_true.1 hu s (List.mem_of_getElem? hs))⟩

/-- The usual way to such a contract. -/
theorem spre_enter {f : FuncId} {args : List SV} {H0 : List SObj} {K : SV → List SObj → Prop} {c : Code} (hfn : P.funcs[f]? = some fn) (hb : fn.body = some c) (hn : args.length ≤ fn.ntmps)
    (hargs : args.all (SV.under H0.length) = true) (hH0 : H0.all (SObj.under H0.length) = true)
    (h : ∀ E : En P G fn false, E.H.length = H0.length → (∀ r H', H0.length ≤ H'.length → r.under H0.length = true → (H'.take H0.length).all (SObj.under H0.length) = true → K r (H'.take H0.length) → E.K r H') → SW E [.code c] (slots 0 args) H0) :
    SPre P G f args H0 K := by
  intro X w I β vs hH hv
  have hc : SCall P G f args H0 (fun r H' => H0.length ≤ H'.length ∧ r.under H0.length = true ∧ (H'.take H0.length).all (SObj.under H0.length) = true ∧ K r (H'.take H0.length)) :=
    scall_enter hfn hb hn fun E hE hK => h E hE (fun r H' a b c d => hK r H' ⟨a, b, c, d⟩)
  refine (hc w I (β.take H0.length) vs (hH.small hH0) (reps_small hv hargs)).mono ?_
  rintro e w' ⟨v, r, I', β1, H1, rfl, ⟨k1, k2, k3, k4⟩, h1, h2, h3⟩
  obtain ⟨g1, g2⟩ := hH.whole k1 k3 h2 h3
  refine ⟨v, r, I', _, _, rfl, ⟨H1.take H0.length, k4, by simp; omega, rfl⟩, ?_, g1, g2⟩
  have hl1 : β1.length = H1.length := h2.len
  refine h1.mono_below (m := H0.length) (fun _ _ h => h) (fun _ _ _ => rfl) (fun b x hb hx => ⟨x, ?_, x.le_refl⟩) k2
  rw [List.getElem?_append_left (by simp; omega), List.getElem?_take, if_pos hb]; exact hx

theorem SPre.mono {f : FuncId} {args : List SV} {H0 : List SObj} {K K' : SV → List SObj → Prop} (h : SPre P G f args H0 K) (hK : ∀ r H1, K r H1 → K' r H1) : SPre P G f args H0 K' :=
  fun X => (h X).mono fun _ _ ⟨H1, h1, h2⟩ => ⟨H1, hK _ _ h1, h2⟩

/-- A call by such a contract: the first n objects are its part. -/
theorem swr_pre (n : Nat) {all : Array Oper} {o : Oper} {rest : List Oper} {fx : Operand} {args : Array Operand} {tys : Array TypeId} {f : FuncId} {first captured : List SV} {K : SV → List SObj → Prop}
    (hop : o.op = .call ⟨.value fx, args, tys⟩) (hw : swant all t o.guard = some true) (hd : dstOK fn.ntmps o.dst = true) (hf : evalS G t fx = .fn (.func f) first captured) (hb : hasBody P f = true)
    {argv : List SV} (hargs : first ++ args.toList.map (evalS G t) ++ captured = argv)
    (hc : SPre P G f argv (H.take n) K) (h : ∀ r H1, K r H1 → H1.length = (H.take n).length → SWr E all rest k (tput t o.dst r) (H1 ++ H.drop n)) : SWr E all (o :: rest) k t H := by
  have hH : H = H.take n ++ H.drop n := by simp
  refine swr_call hop hw hd hf hb hargs ?_
  have := hc (H.drop n)
  rw [← hH] at this
  refine this.mono ?_
  rintro r H' ⟨H1, h1, h2, rfl⟩
  refine ⟨?_, h r H1 h1 h2⟩
  simp at h2 ⊢
  omega

end
end Go.Sh

/- The shadow machine, part 19: a range over a function; slices that are written no more. -/
namespace Go.Sh

section
variable {P : Program} {G : List (Nat × D)} {fn : Func} {rd : Bool} {E : En P G fn rd} {t : List (Nat × SV)} {H : List SObj} {k : List Item}

theorem ext_nothing {w w' : World} {I : Imm} {β : List Bnd} {m : Nat} (hH : HeapOK G w I β H) (ob : Obj) (hw : w' = w.alloc ob) : HeapOK G w' I β H ∧ Ext m w I β H w' I β H := by
  subst hw
  have hold : ∀ c, c < w.heap.size → (w.alloc ob).heap[c]? = w.heap[c]? := fun c hc => by
    show (w.heap.push ob)[c]? = _
    rw [Array.getElem?_push, if_neg (by omega)]
  exact ⟨hH.grow hold (fun _ _ h => h) (fun _ _ h => .inl h) (fun c o hc => by have := hH.inI c o hc; simp; omega), .grow hH hold (by simp) (fun _ _ h => h) (fun _ _ h => .inl h) ⟨rfl, rfl⟩⟩

/-- the frame that carries it all -/
def En.baseR {P : Program} {G : List (Nat × D)} {fn : Func} {rd : Bool} (E : En P G fn rd) : Frame := { E.base with roundOf := E.ro }

/-- for x := range f: by the contract of the call of f. -/
theorem sw_rangeFunc {E : En P G fn false} {fx : Operand} {params : Array Tmp} {assign body : Code} {g : FuncId} {first captured : List SV} (hf : evalS G t fx = .fn (.func g) first captured) (hb : hasBody P g = true)
    (hc : SCall P G g (first ++ [.yld H.length] ++ captured) (H ++ [.loop .ready E.f fn.ntmps t params assign body]) (fun _ H' => H.length + 1 ≤ H'.length ∧ ∃ s t', H'[H.length]? = some (.loop s E.f fn.ntmps t' params assign body) ∧
      ((s = .ready ∧ SW E k t (H'.set H.length .dead)) ∨ ∃ j, s = .done j ∧ SW E (.code j :: k) t (H'.set H.length .dead)))) :
    SW E (.code (.rangeFunc fx params assign body) :: k) t H := by
  refine ⟨fun a w I β cs hs => ?_⟩
  have hfr := hs.eval fx
  rw [hf] at hfr
  generalize hfv : a.eval fx = fv at hfr
  cases hfr with
  | fn _ fs cps _ _ l1 l2 r1 r2 =>
  -- the two blocks
  obtain ⟨hH1, hE1⟩ := ext_nothing (m := H.length) hs.heap (.deferred (some [])) rfl
  have hsz1 : (w.alloc (.deferred (some []))).heap.size = w.heap.size + 1 := by simp
  let r0 : Loop := { state := .ready, pending := none, fn := E.f, tmps := a.tmps, params := params, assign := assign, body := body, defers := w.heap.size }
  have hobj : ObjOK ((w.alloc (.deferred (some []))).alloc (.loop r0)) I (β ++ [.blk (w.alloc (.deferred (some []))).heap.size]) (.loop .ready E.f fn.ntmps t params assign body) (.blk (w.alloc (.deferred (some []))).heap.size) := by
    obtain ⟨_, hE2⟩ := ext_nothing (m := β.length) hH1 (.loop r0) rfl
    refine ⟨r0, heap_alloc_self _, ⟨rfl, rfl⟩, rfl, hs.size, rfl, rfl, rfl, fun m => ?_, fun o ho => ?_⟩
    · refine (hs.tmps m).mono (fun _ _ h => h) (fun c o hc => (hE2.cell c o hc).trans (hE1.cell c o hc)) (.push _ _ _)
    · have := hH1.inI _ o ho; omega
  obtain ⟨hH2, hE2⟩ := hH1.alloc (m := H.length) (ob := .loop r0) hobj
  have hc0 : ∀ v, a.eval (.const v) = v := fun v => by simp [Act.eval]
  have hen := run_enterLoop_outer (P := P) (w := w) E.f a.tmps params assign body
  have hstep := stepR_rangeFunc (P := P) (b := E.baseR) (a := a) (k := k) (cs := cs) (w := w) (g := fx) (l := w.heap.size + 1) (d := { target := .fn (.func g) cps, args := fs ++ #[.func (.yield (w.heap.size + 1)) #[] #[]] })
    (f := g) (args := fs ++ #[.func (.yield (w.heap.size + 1)) #[] #[]] ++ cps) (w₁' := (w.alloc (.deferred (some []))).alloc (.loop r0)) (w₂ := (w.alloc (.deferred (some []))).alloc (.loop r0)) hen (by simp only [resolve, hfv, Deferred.ofValue]; simp [hc0, r0]) (by simp only [invoke]; exact run_callFunc hb)
  have hreps : Reps ((w.alloc (.deferred (some []))).alloc (.loop r0)) I (β ++ [.blk (w.alloc (.deferred (some []))).heap.size]) (fs ++ #[Value.func (.yield (w.heap.size + 1)) #[] #[]] ++ cps).toList (first ++ [.yld H.length] ++ captured) := by
    have hm : ∀ {v s}, Rep w I β v s → Rep ((w.alloc (.deferred (some []))).alloc (.loop r0)) I (β ++ [.blk (w.alloc (.deferred (some []))).heap.size]) v s := fun hr =>
      hr.mono (fun _ _ h => h) (fun c o hc => (hE2.cell c o hc).trans (hE1.cell c o hc)) (.push _ _ _)
    have e1 : Reps ((w.alloc (.deferred (some []))).alloc (.loop r0)) I (β ++ [.blk (w.alloc (.deferred (some []))).heap.size]) fs.toList first := .of_get l1 (fun j h h' => hm (r1 j h h'))
    have e3 : Reps ((w.alloc (.deferred (some []))).alloc (.loop r0)) I (β ++ [.blk (w.alloc (.deferred (some []))).heap.size]) cps.toList captured := .of_get l2 (fun j h h' => hm (r2 j h h'))
    have e2 : Reps ((w.alloc (.deferred (some []))).alloc (.loop r0)) I (β ++ [.blk (w.alloc (.deferred (some []))).heap.size]) [.func (.yield (w.heap.size + 1)) #[] #[]] [.yld H.length] := by
      refine .cons (hsz1 ▸ .yld H.length _ ?_) .nil
      rw [← hs.heap.len]; simp
    simpa using (e1.append e2).append e3
  obtain ⟨e, w3, fr, hpost, hcomes, hfn, hleave⟩ := hc _ I _ _ hH2 hreps (E.at { a with defers := { target := .collected w.heap.size, args := #[] } :: a.defers } (.inRangeFunc (w.heap.size + 1) :: k) :: cs)
  obtain ⟨v, r, I3, β3, H3, rfl, ⟨hlen3, s, t', hget, hway⟩, hv, hH3, hE3⟩ := hpost
  -- the record behind the call
  obtain ⟨y, hy, hle⟩ := hE3.keep H.length (.blk (w.alloc (.deferred (some []))).heap.size) (by simp) (by rw [← hs.heap.len]; simp)
  cases hle
  rw [hsz1] at hy
  obtain ⟨r3, q1, q2, q3, q4, q5, q6, q7, q8, q9⟩ := hH3.obj H.length _ _ hget hy
  have hnb : r3.state ≠ .busy := by
    rcases hway with ⟨rfl, _⟩ | ⟨j, rfl, _⟩
    · rw [q2.1]; simp
    · rw [q2.1]; simp
  obtain ⟨hH4, hE4⟩ := hH3.change (m := H3.length) (o' := .dead) (w' := w3.putObj (w.heap.size + 1) (.loop { r3 with state := .exhausted })) hget (by simp) hy (fun c' hc' => World.putObj_heap_other hc') (by simp) q9 trivial
  have hEall : Ext H.length w I β H (w3.putObj (w.heap.size + 1) (.loop { r3 with state := .exhausted })) I3 β3 (H3.set H.length .dead) :=
    (hE1.trans hE2).trans ((hE3.weaken (by simp)).trans (hE4.weaken (by omega)))
  have hsim : Sim E t (H3.set H.length .dead) { a with defers := { target := .collected w.heap.size, args := #[] } :: a.defers } (w3.putObj (w.heap.size + 1) (.loop { r3 with state := .exhausted })) I3 β3 := by
    refine ⟨hH4, fun n => (hs.tmps n).ext (by rw [hs.heap.len]; exact hEall), hs.size, ?_, hs.ext.trans (hEall.weaken hs.hlen), by have := hs.hlen; simp; omega⟩
    have m1 : Marks E.w.heap.size (w.alloc (.deferred (some []))) β H ({ target := .collected w.heap.size, args := #[] } :: a.defers) := by
      obtain ⟨bs, d1, d2, d3⟩ := hs.defers.ext hE1
      obtain ⟨bs', d1', d2', d3'⟩ := hs.defers
      have hbb : bs' = bs := by
        rw [d1] at d1'
        have := congrArg (List.map fun d : Deferred => match d.target with | .collected c => c | _ => 0) d1'
        simpa [Function.comp_def] using this.symm
      subst hbb
      refine ⟨w.heap.size :: bs', by simp [d1], List.nodup_cons.2 ⟨fun hm => ?_, d2⟩, fun c hc => ?_⟩
      · have := heap_lt (d3' _ hm).2.1; omega
      · rcases List.mem_cons.1 hc with rfl | hc
        · exact ⟨hs.ext.size, heap_alloc_self _, fun b hb => by have := hs.heap.owns_lt hb; omega⟩
        · exact d3 c hc
    exact ((m1.ext hE2).ext hE3).ext hE4
  have back : Steps P (lone (E.at a (.code (.rangeFunc fx params assign body) :: k)) cs w) (lone (E.at { a with defers := { target := .collected w.heap.size, args := #[] } :: a.defers } ((r3.pending.map Item.code).toList ++ k)) cs (w3.putObj (w.heap.size + 1) (.loop { r3 with state := .exhausted }))) := by
    refine .head hstep (Steps.trans hcomes (.head (step_leave_returned hleave) (.one ?_)))
    have hfin := finish_atR_inRangeFunc (b := E.baseR) (a := { a with defers := { target := .collected w.heap.size, args := #[] } :: a.defers }) (k := k) (w.heap.size + 1) v
    have hend := stepR_endRangeFunc (b := E.baseR) (a := { a with defers := { target := .collected w.heap.size, args := #[] } :: a.defers }) (k := k) (cs := cs) (run_endLoop (P := P) q1 hnb)
    rw [← hfin] at hend
    exact hend
  refine .of_steps back ?_
  rcases hway with ⟨rfl, hsw⟩ | ⟨j, rfl, hsw⟩
  · have e : (r3.pending.map Item.code).toList ++ k = k := by rw [q2.2]; rfl
    rw [e]; exact hsw.run _ _ _ _ _ hsim
  · have e : (r3.pending.map Item.code).toList ++ k = .code j :: k := by rw [q2.2]; rfl
    rw [e]; exact hsw.run _ _ _ _ _ hsim

/-! ### rounds -/
/-- What a call of yield does. -/
def SYield (P : Program) (G : List (Nat × D)) (b : Nat) (args : List SV) (H : List SObj) (K : Bool → List SObj → Prop) : Prop :=
  ∀ w I β l r (vs : Array Value), HeapOK G w I β H → β[b]? = some (.blk l) → w.heap[l]? = some (.loop r) → Reps w I β vs.toList args → ∀ c cs,
    ∃ res w', (∃ I' β' H', K res H' ∧ HeapOK G w' I' β' H' ∧ Ext H.length w I β H w' I' β' H') ∧
      Steps P (lone (Frame.round l r.fn ((r.params.zip vs).foldl (fun tmps (t, a) => tmps.setIfInBounds t a) r.tmps) r.assign r.body .normal) (c :: cs) w) (lone (c.finish (.bool res)) cs w')

/-- A call of yield in a region. -/
theorem swr_yield {b : Nat} {all : Array Oper} {o : Oper} {rest : List Oper} {fx : Operand} {args : Array Operand} {tys : Array TypeId} {s : LS} {f : FuncId} {n : Nat} {tL : List (Nat × SV)} {ps : Array Tmp} {as bd : Code}
    (hop : o.op = .call ⟨.value fx, args, tys⟩) (hw : swant all t o.guard = some true) (hd : dstOK fn.ntmps o.dst = true) (hf : evalS G t fx = .yld b) (hH : H[b]? = some (.loop s f n tL ps as bd)) (hps : args.size = ps.size)
    {argv : List SV} (hargs : args.toList.map (evalS G t) = argv)
    (hc : SYield P G b argv H (fun res H' => H.length ≤ H'.length ∧ SWr E all rest k (tput t o.dst (.imm (.val (.bool res)))) H')) : SWr E all (o :: rest) k t H := by
  refine ⟨fun j hj hdrop => ?_⟩
  obtain ⟨h1, ho, h3⟩ := drop_cons_parts hdrop
  rw [range_drop h1]
  subst hargs
  refine ⟨fun a w I β cs hs => ?_⟩
  have hwant := swant_sound hw hs
  have hfr := hs.eval fx
  rw [hf] at hfr
  generalize hfv : a.eval fx = fv at hfr
  cases hfr with
  | yld _ l hbl =>
  obtain ⟨r, q1, q2, q3, q4, q5, q6, q7, q8, q9⟩ := hs.heap.obj b _ _ hH hbl
  have hrun : (execOp a.eval o).run P w = .ok (.round l r.fn ((r.params.zip (args.map a.eval)).foldl (fun tmps (t, a) => tmps.setIfInBounds t a) r.tmps) r.assign r.body) w := by
    obtain ⟨dst, op, type, pos, after, guard⟩ := o
    simp only at hop
    subst hop
    simp only [execOp, resolve, hfv, Deferred.ofValue, Sem.run_bind, Sem.run_pure, Result.andThen_ok, invoke]
    have := run_yield (P := P) (args := #[] ++ args.map a.eval) q1 (by simp [hps, q5])
    simpa using this
  have hreps : Reps w I β (args.map a.eval).toList (args.toList.map (evalS G t)) := by simpa using reps_map hs.eval args.toList
  obtain ⟨res, w', ⟨I', β', H', ⟨hl, hsw⟩, hH', hext⟩, hsteps⟩ := hc w I β l r _ hs.heap hbl q1 hreps (E.at a (.inRegion all (j :: (List.range all.size).drop (j + 1)) :: k)) cs
  have hg := rstepG_op (P := P) (b := E.base) (ro := E.ro) (k := k) (cs := cs) (w := w) (rest := (List.range all.size).drop (j + 1)) ho hwant (.inr fun c e => by rw [hop] at e; cases e)
  have henter : step P (lone (E.at a (.inRegion all (j :: (List.range all.size).drop (j + 1)) :: k)) cs w) =
      .next (lone (Frame.round l r.fn ((r.params.zip (args.map a.eval)).foldl (fun tmps (t, a) => tmps.setIfInBounds t a) r.tmps) r.assign r.body .normal) (E.at a (.inRegion all (j :: (List.range all.size).drop (j + 1)) :: k) :: cs) w) :=
    step_lone_go (by unfold En.at; rw [hg]; simp only [stepG.apply, Sem.runT_eq, hrun, if_true, GStep.bare_after]; rfl)
  have hfin : (E.at a (.inRegion all (j :: (List.range all.size).drop (j + 1)) :: k)).finish (.bool res) = E.at (a.put o.dst (.bool res)) (.inRegion all ((List.range all.size).drop (j + 1)) :: k) := by
    unfold En.at; rw [rfinish_at, ho]; rfl
  rw [hfin] at hsteps
  exact .of_steps (.head henter hsteps) ((hsw.run (j + 1) h1 h3).run _ w' I' β' cs (hs.put hd (.imm (.val _)) hH' hext hl))

def LS.of : Option Code → LS
  | none => .ready
  | some j => .done j

def putsL : List Tmp → List SV → List (Nat × SV) → List (Nat × SV)
  | p :: ps, s :: ss, t => putsL ps ss ((p, s) :: t)
  | _, _, t => t

/-- the record of the loop that a round belongs to -/
structure En.Own {P : Program} {G : List (Nat × D)} {fn : Func} {rd : Bool} (E : En P G fn rd) (b : Nat) : Prop where
  at_ : E.β[b]? = some (.blk E.l)
  lt : b < E.H.length

theorem sim_record {E : En P G fn rd} {b : Nat} {a : Act} {w : World} {I : Imm} {β : List Bnd} (hE : E.Own b) (hs : Sim E t H a w I β) : β[b]? = some (.blk E.l) := by
  obtain ⟨y, hy, hle⟩ := hs.ext.keep b _ hE.lt hE.at_
  cases hle
  exact hy

theorem sw_begin {E : En P G fn true} {b : Nat} {f : FuncId} {n : Nat} {tL : List (Nat × SV)} {ps : Array Tmp} {as bd : Code} (hE : E.Own b) (hH : H[b]? = some (.loop .ready f n tL ps as bd))
    (h : SW E k t (H.set b (.loop .busy f n tL ps as bd))) : SW E (.beginRound :: k) t H := by
  refine ⟨fun a w I β cs hs => ?_⟩
  have hbl := sim_record hE hs
  obtain ⟨r, q1, q2, q3, q4, q5, q6, q7, q8, q9⟩ := hs.heap.obj b _ _ hH hbl
  have hcell : ∀ c o, I c o → (w.putObj E.l (.loop { r with state := .busy })).cell? ⟨c, o, none⟩ = w.cell? ⟨c, o, none⟩ := fun c o hc =>
    cell_congr (World.putObj_heap_other (k := c) (r := E.l) (fun e => q9 o (e ▸ hc))) o
  obtain ⟨hH4, hE4⟩ := hs.heap.change (m := H.length) (o' := .loop .busy f n tL ps as bd) (w' := w.putObj E.l (.loop { r with state := .busy })) hH (by simp) hbl (fun c' hc' => World.putObj_heap_other hc') (by simp) q9
    ⟨_, World.putObj_heap_same (heap_lt q1), rfl, q3, q4, q5, q6, q7, fun m => (q8 m).mono (fun _ _ h => h) hcell (.refl _ _), q9⟩
  have hst := stepR_beginRound (P := P) (b := E.baseR) (a := a) (k := k) (cs := cs) (w := w) (l := E.l) rfl (run_beginRound q1 q2.1)
  exact .of_steps (.one hst) (h.run a _ I β cs ⟨hH4, fun n => (hs.tmps n).ext (by rw [hs.heap.len]; exact hE4), hs.size, hs.defers.ext hE4, hs.ext.trans (hE4.weaken hs.hlen), by simpa using hs.hlen⟩)

theorem rep_puts {w : World} {I : Imm} {β : List Bnd} : ∀ (ps : List Tmp) (vs : List Value) (ss : List SV) (tm : Array Value) (t : List (Nat × SV)), Reps w I β vs ss → (∀ p ∈ ps, p < tm.size) → (∀ m, Rep w I β (tm.getD m undef) (tget t m)) →
    ((ps.zip vs).foldl (fun tmps (x : Tmp × Value) => tmps.setIfInBounds x.1 x.2) tm).size = tm.size ∧ ∀ m, Rep w I β (((ps.zip vs).foldl (fun tmps (x : Tmp × Value) => tmps.setIfInBounds x.1 x.2) tm).getD m undef) (tget (putsL ps ss t) m)
  | [], vs, ss, tm, t, _, _, h => by
    cases ss <;> exact ⟨by simp, fun m => by simpa [putsL] using h m⟩
  | p :: ps, [], ss, tm, t, hr, _, h => by
    have : ss = [] := by have := hr.len; simpa using this.symm
    subst this
    exact ⟨by simp, fun m => by simpa [putsL] using h m⟩
  | p :: ps, v :: vs, ss, tm, t, hr, hp, h => by
    cases ss with
    | nil => have := hr.len; simp at this
    | cons s ss =>
      have h1 := hr.rep 0 v s rfl rfl
      have h2 : Reps w I β vs ss := ⟨by have := hr.len; simpa using this, fun j v' s' hv hs => hr.rep (j + 1) v' s' (by simpa using hv) (by simpa using hs)⟩
      have hp0 := hp p (by simp)
      obtain ⟨g1, g2⟩ := rep_puts ps vs ss (tm.setIfInBounds p v) ((p, s) :: t) h2 (fun q hq => by simpa using hp q (by simp [hq])) (fun m => by
        simp only [tget]
        split
        · rename_i e
          subst e
          have : (tm.setIfInBounds p v).getD p undef = v := by simp [Array.getD, hp0]
          rw [this]; exact h1
        · rename_i hne
          have : (tm.setIfInBounds p v).getD m undef = tm.getD m undef := by simp [Array.getElem?_setIfInBounds_ne hne]
          rw [this]; exact h m)
      exact ⟨by simpa using g1, fun m => by simpa [putsL] using g2 m⟩

theorem zip_foldl (ps : Array Tmp) (vs tm : Array Value) : (ps.zip vs).foldl (fun tmps (t, a) => tmps.setIfInBounds t a) tm = (ps.toList.zip vs.toList).foldl (fun tmps (x : Tmp × Value) => tmps.setIfInBounds x.1 x.2) tm := by
  rw [← Array.foldl_toList, Array.toList_zip]

/-- Into a round. -/
theorem syield_enter {b : Nat} {f : FuncId} {n : Nat} {tL : List (Nat × SV)} {ps : Array Tmp} {as bd : Code} {args : List SV} {K : Bool → List SObj → Prop} (hH : H[b]? = some (.loop .ready f n tL ps as bd)) (hfn : P.funcs[f]? = some fn) (hn : n = fn.ntmps)
    (hps : ∀ p ∈ ps.toList, p < n)
    (h : ∀ E : En P G fn true, E.H.length = H.length → E.Own b →
      (∀ jump H' t', H.length ≤ H'.length → H'[b]? = some (.loop .busy f n t' ps as bd) → K jump.isNone (H'.set b (.loop (.of jump) f n t' ps as bd)) → E.KR jump H') →
      SW E [.code as, .beginRound, .code bd] (putsL ps.toList args tL) H) : SYield P G b args H K := by
  intro w I β l r vs hheap hbl hl hr c cs
  obtain ⟨r', q1, q2, q3, q4, q5, q6, q7, q8, q9⟩ := hheap.obj b _ _ hH hbl
  rw [hl] at q1
  cases q1
  let E : En P G fn true := ⟨f, hfn, w, I, β, H, fun _ _ => False, l, fun jump H' => ∃ t', H.length ≤ H'.length ∧ H'[b]? = some (.loop .busy f n t' ps as bd) ∧ K jump.isNone (H'.set b (.loop (.of jump) f n t' ps as bd))⟩
  have hbH := lt_of_getElem? hH
  obtain ⟨g1, g2⟩ := rep_puts ps.toList vs.toList args r.tmps tL hr (fun p hp => by rw [q4]; exact hps p hp) q8
  have hgoal := (h E rfl ⟨hbl, hbH⟩ (fun jump H' t' a b c => ⟨t', a, b, c⟩)).run { tmps := (r.params.zip vs).foldl (fun tmps (t, a) => tmps.setIfInBounds t a) r.tmps, defers := [] } w I β (c :: cs)
    ⟨hheap, fun m => by rw [zip_foldl, q5]; exact g2 m, by rw [zip_foldl, q5]; rw [g1, q4, hn], .nil, .refl, Nat.le_refl _⟩
  obtain ⟨jump, w1, I1, β1, H1, ⟨t', hlen, hget, hK⟩, hheap1, hext1, hrun⟩ := hgoal
  obtain ⟨y, hy, hle⟩ := hext1.keep b _ hbH hbl
  cases hle
  obtain ⟨r1, p1, p2, p3, p4, p5, p6, p7, p8, p9⟩ := hheap1.obj b _ _ hget hy
  have hend := run_endRound (P := P) jump p1
  have hcell : ∀ c o, I1 c o → (w1.putObj l (.loop { r1 with state := if jump.isNone then .ready else .done, pending := jump })).cell? ⟨c, o, none⟩ = w1.cell? ⟨c, o, none⟩ := fun c o hc =>
    cell_congr (World.putObj_heap_other (k := c) (r := l) (fun e => p9 o (e ▸ hc))) o
  obtain ⟨hH4, hE4⟩ := hheap1.change (m := H1.length) (o' := .loop (.of jump) f n t' ps as bd) (w' := w1.putObj l (.loop { r1 with state := if jump.isNone then .ready else .done, pending := jump })) hget (by simp) hy (fun c' hc' => World.putObj_heap_other hc') (by simp) p9
    ⟨_, World.putObj_heap_same (heap_lt p1), by cases jump <;> exact ⟨rfl, rfl⟩, p3, p4, p5, p6, p7, fun m => (p8 m).mono (fun _ _ h => h) hcell (.refl _ _), p9⟩
  refine ⟨jump.isNone, _, ⟨I1, β1, _, hK, hH4, Ext.trans hext1 (hE4.weaken hlen)⟩, ?_⟩
  have := hrun _ _ hend c cs rfl
  have hframe : Frame.round l r.fn ((r.params.zip vs).foldl (fun tmps (t, a) => tmps.setIfInBounds t a) r.tmps) r.assign r.body .normal = E.at { tmps := (r.params.zip vs).foldl (fun tmps (t, a) => tmps.setIfInBounds t a) r.tmps, defers := [] } [.code as, .beginRound, .code bd] := by
    rw [q3, q6, q7]; rfl
  rw [hframe]
  exact this

end
end Go.Sh

/- The shadow machine, part 20: a slice that is written no more becomes data. -/
namespace Go.Sh

/-- Block b is data from now on: the slice of its first len elements is d; other ways into it are forgotten. -/
def SV.shut (b len : Nat) (d : D) : SV → SV
  | .ptr c o => if c = b then .any else .ptr c o
  | .osl c o l => if c = b then (if o = 0 ∧ l = len then .imm d else .any) else .osl c o l
  | .fn f first captured => .fn f (shutL b len d first) (shutL b len d captured)
  | .iface t v => .iface t (v.shut b len d)
  | .agg cs => .agg (shutL b len d cs)
  | .tup vs => .tup (shutL b len d vs)
  | s => s
where shutL (b len : Nat) (d : D) : List SV → List SV
  | [] => []
  | s :: r => s.shut b len d :: shutL b len d r

theorem shutL_length (b len : Nat) (d : D) : ∀ l, (SV.shut.shutL b len d l).length = l.length
  | [] => rfl
  | s :: r => by simp [SV.shut.shutL, shutL_length b len d r]
theorem shutL_get (b len : Nat) (d : D) : ∀ (l : List SV) (j : Nat) (h : j < l.length) (h' : j < (SV.shut.shutL b len d l).length), (SV.shut.shutL b len d l)[j]'h' = (l[j]'h).shut b len d
  | s :: r, 0, _, _ => rfl
  | s :: r, j + 1, h, h' => by
    simp only [SV.shut.shutL, List.getElem_cons_succ]
    exact shutL_get b len d r j (by simpa using h) (by simpa [SV.shut.shutL] using h')

def SObj.shut (b len : Nat) (d : D) : SObj → SObj
  | .cells cs => .cells (SV.shut.shutL b len d cs)
  | .mapI k es => .mapI k (es.map fun e => (e.1, e.2.shut b len d))
  | .mapS es => .mapS (es.map fun e => (e.1, e.2.shut b len d))
  | .loop s f n t ps as bd => .loop s f n (t.map fun x => (x.1, x.2.shut b len d)) ps as bd
  | .vec k cs => .vec k (SV.shut.shutL b len d cs)
  | .pin k es c => .pin k (es.map fun e => (e.1, e.2.1, e.2.2.shut b len d)) c
  | o => o

theorem tget_shut (b len : Nat) (d : D) (t : List (Nat × SV)) (n : Nat) : tget (t.map fun x => (x.1, x.2.shut b len d)) n = (tget t n).shut b len d := by
  induction t with
  | nil => simp [tget, SV.shut]
  | cons x t ih =>
    simp only [List.map_cons, tget]
    split
    · rfl
    · exact ih

section
variable {P : Program} {G : List (Nat × D)} {fn : Func} {rd : Bool} {E : En P G fn rd} {t : List (Nat × SV)} {H : List SObj} {k : List Item}

theorem Rep.shut {w : World} {I I' : Imm} {β : List Bnd} {v : Value} {s : SV} {b len c : Nat} {d : D} (h : Rep w I β v s) (hb : β[b]? = some (.blk c)) (hI : ∀ b o, I b o → I' b o)
    (hd : ∀ cap, len ≤ cap → cap ≤ maxLen → DRep w I' (.slice (some ⟨c, 0, none⟩) len cap) d) : Rep w I' β v (s.shut b len d) := by
  induction h with
  | any v => exact .any v
  | imm h => exact .imm (h.mono hI (fun _ _ _ => rfl))
  | ptr b' c' off h =>
    simp only [SV.shut]
    split
    · exact .any _
    · exact .ptr b' c' off h
  | osl b' c' off l cap h h1 h2 =>
    simp only [SV.shut]
    split
    · rename_i e
      subst e
      split
      · rename_i e
        obtain ⟨rfl, rfl⟩ := e
        rw [hb] at h
        cases h
        exact .imm (hd cap h1 h2)
      · exact .any _
    · exact .osl b' c' off l cap h h1 h2
  | asl b' k rows v u n h hu hs hle heq => exact .asl b' k rows v u n (h.mono hI (fun _ _ _ => rfl)) hu hs hle heq
  | map b' c' h => exact .map b' c' h
  | yld b' c' h => exact .yld b' c' h
  | vec b' n v u q h hs hle hv heq => exact .vec b' n v u q h hs hle hv heq
  | vptr b' n off v a q cap h hle hv heq => exact .vptr b' n off v a q cap h hle hv heq
  | fn f fs cs first captured h1 h2 _ _ ih1 ih2 =>
    refine .fn f fs cs _ _ (by rw [shutL_length]; exact h1) (by rw [shutL_length]; exact h2) (fun j hj hj' => ?_) (fun j hj hj' => ?_)
    · have hj2 : j < first.length := by rw [shutL_length] at hj; exact hj
      rw [shutL_get _ _ _ _ _ hj2]; exact ih1 j hj2 hj'
    · have hj2 : j < captured.length := by rw [shutL_length] at hj; exact hj
      rw [shutL_get _ _ _ _ _ hj2]; exact ih2 j hj2 hj'
  | iface t v s _ ih => exact .iface t v _ ih
  | agg vs cs h1 _ ih =>
    refine .agg vs _ (by rw [shutL_length]; exact h1) (fun j hj hj' => ?_)
    have hj2 : j < cs.length := by rw [shutL_length] at hj; exact hj
    rw [shutL_get _ _ _ _ _ hj2]; exact ih j hj2 hj'
  | tup vs ss h1 _ ih =>
    refine .tup vs _ (by rw [shutL_length]; exact h1) (fun j hj hj' => ?_)
    have hj2 : j < ss.length := by rw [shutL_length] at hj; exact hj
    rw [shutL_get _ _ _ _ _ hj2]; exact ih j hj2 hj'

theorem ObjOK.shut {w : World} {I I' : Imm} {β : List Bnd} {o : SObj} {x : Bnd} {b len c : Nat} {d : D} (h : ObjOK w I β o x) (hb : β[b]? = some (.blk c)) (hI : ∀ b o, I b o → I' b o)
    (hd : ∀ cap, len ≤ cap → cap ≤ maxLen → DRep w I' (.slice (some ⟨c, 0, none⟩) len cap) d) (hn : ∀ c' o, x.block = some c' → I' c' o → I c' o) : ObjOK w I' β (o.shut b len d) x := by
  cases o with
  | cells l =>
    cases x with
    | blk c' =>
      obtain ⟨vs, T, a1, a2, a3, a4⟩ := h
      refine ⟨vs, T, a1, by rw [shutL_length]; exact a2, fun j hj hj' => ?_, fun o ho => a4 o (hn c' o rfl ho)⟩
      have hj2 : j < l.length := by rw [shutL_length] at hj; exact hj
      rw [shutL_get _ _ _ _ _ hj2]; exact (a3 j hj2 hj').shut hb hI hd
    | tok u => exact h
  | mapI kk es =>
    cases x with
    | blk c' =>
      obtain ⟨vs, T, a1, a2, a3, a4⟩ := h
      refine ⟨vs, T, a1, by simpa using a2, fun j hj hj' => ?_, fun o ho => a4.1 o (hn c' o rfl ho), a4.2⟩
      have hj2 : j < es.length := by simpa using hj
      simp only [List.getElem_map]
      exact ⟨(a3 j hj2 hj').1, (a3 j hj2 hj').2.shut hb hI hd⟩
    | tok u => exact h
  | mapS es =>
    cases x with
    | blk c' =>
      obtain ⟨vs, T, a1, a2, a3, a4⟩ := h
      refine ⟨vs, T, a1, by simpa using a2, fun j hj hj' => ?_, fun o ho => a4.1 o (hn c' o rfl ho), a4.2⟩
      have hj2 : j < es.length := by simpa using hj
      simp only [List.getElem_map]
      exact ⟨(a3 j hj2 hj').1, (a3 j hj2 hj').2.shut hb hI hd⟩
    | tok u => exact h
  | tok kk m =>
    cases x with
    | blk c' => exact h
    | tok u =>
      rcases h with h | ⟨c', cap, vs, T, rfl, h1, h2, h3, h4, h5⟩
      · exact .inl h
      · exact .inr ⟨c', cap, vs, T, rfl, h1, h2, h3, h4, fun o ho hi => h5 o ho (hn c' o rfl hi)⟩
  | loop s f m' tt ps as bd =>
    cases x with
    | blk c' =>
      obtain ⟨r, a1, a2, a3, a4, a5, a6, a7, a8, a9⟩ := h
      exact ⟨r, a1, a2, a3, a4, a5, a6, a7, fun m => by rw [tget_shut]; exact (a8 m).shut hb hI hd, fun o ho => a9 o (hn c' o rfl ho)⟩
    | tok u => exact h
  | vec kk l =>
    cases x with
    | blk c' => exact h
    | tok u =>
      rcases h with ⟨rfl, h⟩ | ⟨c', n', cap, vs, T, rfl, a1, a2, a3, a4, a5, a6, a7⟩
      · exact .inl ⟨rfl, h⟩
      · refine .inr ⟨c', n', cap, vs, T, rfl, a1, a2, a3, a4, by rw [shutL_length]; exact a5, fun j hj hj' => ?_, fun o ho => a7 o (hn c' o rfl ho)⟩
        have hj2 : j < l.length := by rw [shutL_length] at hj; exact hj
        rw [shutL_get _ _ _ _ _ hj2]; exact (a6 j hj2 hj').shut hb hI hd
  | dead => trivial
  | free => cases x <;> exact h
  | pin kk es clock =>
    cases x with
    | blk c' =>
      obtain ⟨vs, a1, a2, a3, a4⟩ := h
      refine ⟨vs, a1, by simpa using a2, fun j hj hj' => ?_, fun o ho => a4.1 o (hn c' o rfl ho), a4.2⟩
      have hj2 : j < es.length := by simpa using hj
      simp only [List.getElem_map]
      exact ⟨(a3 j hj2 hj').1, (a3 j hj2 hj').2.1, (a3 j hj2 hj').2.2.shut hb hI hd⟩
    | tok u => exact h
  | iter m' since seen last =>
    cases x with
    | blk c' =>
      obtain ⟨cm, a1, a2, a3⟩ := h
      exact ⟨cm, a1, a2, fun o ho => a3 o (hn c' o rfl ho)⟩
    | tok u => exact h

theorem shut_dead {b len : Nat} {d : D} {o : SObj} (h : o.shut b len d ≠ .dead) : o ≠ .dead := fun e => h (by rw [e]; rfl)

/-- The cells of block b are data from now on. -/
theorem sw_shutJ (b len kk : Nat) {cs junk : List SV} {ds : List D} (hb : H[b]? = some (.cells (cs ++ junk))) (hone : cs.all SV.one = true) (hds : cs.mapM SV.toD = some ds) (hlen : cs.length = len * kk)
    (h : SW E k (t.map fun x => (x.1, x.2.shut b len (.isl kk (chunks kk ds len)))) ((H.set b .dead).map (SObj.shut b len (.isl kk (chunks kk ds len))))) : SW E k t H := by
  refine ⟨fun a w I β cs' hs => ?_⟩
  have hbl := lt_of_getElem? hb
  obtain ⟨x, hx⟩ : ∃ x, β[b]? = some x := ⟨β[b]'(by rw [hs.heap.len]; exact hbl), List.getElem?_eq_getElem _⟩
  have hob := hs.heap.obj b _ _ hb hx
  cases x with
  | tok u => exact hob.elim
  | blk c =>
  obtain ⟨vs, T, a1, a2', a3', a4⟩ := hob
  obtain ⟨hdl, hdg⟩ := mapM_get hds
  have a2 : cs.length ≤ vs.size := by rw [a2']; simp
  have a3 : ∀ j (h : j < cs.length) (h' : j < vs.size), Rep w I β (vs[j]'h') (cs[j]'h) := fun j h h' => by
    have := a3' j (by simp; omega) h'
    rwa [List.getElem_append_left h] at this
  have hI : ∀ b o, I b o → (I.plus c cs.length) b o := fun _ _ h => .inl h
  have hown : owns H β b c := ⟨_, _, hb, by simp, hx, rfl⟩
  have hd : ∀ cap, len ≤ cap → cap ≤ maxLen → DRep w (I.plus c cs.length) (.slice (some ⟨c, 0, none⟩) len cap) (.isl kk (chunks kk ds len)) := by
    intro cap h1 h2
    refine drep_chunks (vs := vs.toList.take cs.length) (by rw [hdl, hlen]) (fun o ho => .inr ⟨rfl, by omega⟩) (fun o ho => ?_) (by simp; omega) (fun v hv => ?_) (fun o v d hv hd => ?_) h1 h2
    · rw [cell_of_heap a1, List.getElem?_take_of_lt (by omega)]; simp
    · obtain ⟨j, hj, rfl⟩ := List.mem_iff_getElem.1 hv
      have hjj : j < cs.length ∧ j < vs.size := by simp at hj; omega
      have hj' := hjj.2
      have := (a3 j (by omega) hj').oneCell (List.all_eq_true.1 hone _ (List.getElem_mem (by omega)))
      simpa using this
    · have hvv : o < cs.length ∧ o < vs.size := by have := lt_of_getElem? hv; simp at this; omega
      have hv' := hvv.2
      have ho : o < cs.length := hvv.1
      rw [List.getElem?_take_of_lt ho] at hv
      obtain ⟨d', hd', hs'⟩ := hdg o _ (List.getElem?_eq_getElem ho)
      rw [hd] at hd'
      cases hd'
      have hvv : v = vs[o] := by simpa [hv'] using hv.symm
      subst hvv
      exact ((a3 o ho hv').toD hs').mono hI (fun _ _ _ => rfl)
  have hnew : ∀ c' o, (I.plus c cs.length) c' o → I c' o ∨ c' = c := fun c' o hi => hi.imp id (·.1)
  have hown' : ∀ b' c', owns ((H.set b .dead).map (SObj.shut b len (.isl kk (chunks kk ds len)))) β b' c' → b' ≠ b ∧ owns H β b' c' := by
    rintro b' c' ⟨o, x, h1, h2, h3, h4⟩
    rw [List.getElem?_map] at h1
    have hne : b' ≠ b := by
      rintro rfl
      rw [List.getElem?_set_self hbl] at h1
      simp [SObj.shut] at h1
      exact h2 h1.symm
    rw [List.getElem?_set_ne (Ne.symm hne)] at h1
    cases ho : H[b']? with
    | none => simp [ho] at h1
    | some o0 =>
      simp [ho] at h1
      subst h1
      exact ⟨hne, o0, x, ho, shut_dead h2, h3, h4⟩
  refine h.run a w (I.plus c cs.length) β cs' ⟨⟨by simp [hs.heap.len], fun b' o x h1 h2 => ?_, fun b1 b2 c' h1 h2 => hs.heap.inj b1 b2 c' (hown' b1 c' h1).2 (hown' b2 c' h2).2, fun c' o hi => ?_, fun g d hg => (hs.heap.glob g d hg).mono hI (fun _ _ _ => rfl)⟩,
    fun n => by rw [tget_shut]; exact (hs.tmps n).shut hx hI hd, hs.size, ?_, ?_, by simpa using hs.hlen⟩
  · rw [List.getElem?_map] at h1
    by_cases hne : b' = b
    · subst hne
      rw [List.getElem?_set_self hbl] at h1
      simp [SObj.shut] at h1
      subst h1
      trivial
    · rw [List.getElem?_set_ne (Ne.symm hne)] at h1
      cases ho : H[b']? with
      | none => simp [ho] at h1
      | some o0 =>
        simp [ho] at h1
        subst h1
        by_cases hdead : o0 = .dead
        · subst hdead; trivial
        · refine (hs.heap.obj b' o0 x ho h2).shut hx hI hd (fun c' o hc hi => ?_)
          rcases hnew c' o hi with h3 | rfl
          · exact h3
          · exact absurd (hs.heap.inj b' b c' ⟨o0, x, ho, hdead, h2, hc⟩ hown) hne
  · rcases hnew c' o hi with h3 | rfl
    · exact hs.heap.inI c' o h3
    · exact heap_lt a1
  · obtain ⟨bs, d1, d2, d3⟩ := hs.defers
    exact ⟨bs, d1, d2, fun c' hc => ⟨(d3 c' hc).1, (d3 c' hc).2.1, fun b' hb' => (d3 c' hc).2.2 b' (hown' b' c' hb').2⟩⟩
  · exact { hs.ext with
      imm := fun c' o hi => hI _ _ (hs.ext.imm c' o hi)
      own := fun b' c' ho => hs.ext.own b' c' (hown' b' c' ho).2
      new := fun c' o hi => by
        rcases hnew c' o hi with h3 | rfl
        · exact hs.ext.new c' o h3
        · exact .inr (hs.ext.own b c' hown) }

theorem sw_shut (b len kk : Nat) {cs : List SV} {ds : List D} (hb : H[b]? = some (.cells cs)) (hone : cs.all SV.one = true) (hds : cs.mapM SV.toD = some ds) (hlen : cs.length = len * kk)
    (h : SW E k (t.map fun x => (x.1, x.2.shut b len (.isl kk (chunks kk ds len)))) ((H.set b .dead).map (SObj.shut b len (.isl kk (chunks kk ds len))))) : SW E k t H :=
  sw_shutJ b len kk (junk := []) (by simpa using hb) hone hds hlen h

theorem chunks_one (ds : List D) : chunks 1 ds ds.length = ds.map fun d => [d] := by
  induction ds with
  | nil => rfl
  | cons d ds ih => simp [chunks, ih]

theorem mapM_imm (ds : List D) : (ds.map SV.imm).mapM SV.toD = some ds := by
  induction ds with
  | nil => rfl
  | cons d ds ih => rw [List.map_cons, List.mapM_cons]; simp [SV.toD, ih]

end
end Go.Sh

/- The shadow machine, part 21: a slice that was appended to is written again; sorting. -/
namespace Go.Sh

/-- values that name no data in memory -/
def SV.free : SV → Bool
  | .any => true
  | .imm (.val _) => true
  | .imm _ => false
  | .ptr _ _ => true
  | .osl _ _ _ => true
  | .asl _ _ _ => false
  | .map _ => true
  | .yld _ => true
  | .vec _ _ => false
  | .vptr _ _ _ => false
  | .fn _ first captured => freeL first && freeL captured
  | .iface _ v => v.free
  | .agg cs => freeL cs
  | .tup vs => freeL vs
where freeL : List SV → Bool
  | [] => true
  | s :: r => s.free && freeL r

theorem freeL_get : ∀ {l : List SV}, SV.free.freeL l = true → ∀ j (h : j < l.length), (l[j]'h).free = true
  | s :: r, h, 0, _ => by simp [SV.free.freeL] at h; exact h.1
  | s :: r, h, j + 1, hj => by
    simp [SV.free.freeL] at h
    exact freeL_get h.2 j (by simpa using hj)

section
variable {P : Program} {G : List (Nat × D)} {fn : Func} {rd : Bool} {E : En P G fn rd} {t : List (Nat × SV)} {H : List SObj} {k : List Item}

theorem Rep.freed {w : World} {I I' : Imm} {β : List Bnd} {v : Value} {s : SV} {b c : Nat} {u : Value} (h : Rep w I β v s) (hf : s.free = true) (hb : β[b]? = some (.tok u)) : Rep w I' (β.set b (.blk c)) v s := by
  have other : ∀ {b' c' : Nat}, β[b']? = some (.blk c') → (β.set b (.blk c))[b']? = some (.blk c') := fun {b' c'} h => by
    have hne : b ≠ b' := by rintro rfl; rw [hb] at h; cases h
    rw [List.getElem?_set_ne hne]; exact h
  induction h with
  | any v => exact .any v
  | imm h =>
    cases h with
    | val _ => exact .imm (.val _)
    | _ => simp [SV.free] at hf
  | ptr b' c' off h => exact .ptr b' c' off (other h)
  | osl b' c' off l cap h h1 h2 => exact .osl b' c' off l cap (other h) h1 h2
  | asl => simp [SV.free] at hf
  | map b' c' h => exact .map b' c' (other h)
  | yld b' c' h => exact .yld b' c' (other h)
  | vec => simp [SV.free] at hf
  | vptr => simp [SV.free] at hf
  | fn f fs cs first captured h1 h2 _ _ ih1 ih2 =>
    simp [SV.free] at hf
    exact .fn f fs cs first captured h1 h2 (fun j hj hj' => ih1 j hj hj' (freeL_get hf.1 j hj)) (fun j hj hj' => ih2 j hj hj' (freeL_get hf.2 j hj))
  | iface t v s _ ih => exact .iface t v s (ih (by simpa [SV.free] using hf))
  | agg vs cs h1 _ ih =>
    simp [SV.free] at hf
    exact .agg vs cs h1 (fun j hj hj' => ih j hj hj' (freeL_get hf j hj))
  | tup vs ss h1 _ ih =>
    simp [SV.free] at hf
    exact .tup vs ss h1 (fun j hj hj' => ih j hj hj' (freeL_get hf j hj))

def freed (s : SV) : SV := if s.free then s else .any
end
end Go.Sh

/- The shadow machine, part 22: maps. -/
namespace Go.Sh

def encM {κ α : Type} (f : α → SV) (l : List (κ × α)) : List (κ × SV) := l.map fun p => (p.1, f p.2)
def alook {κ α : Type} [BEq κ] (k : κ) : List (κ × α) → Option α
  | [] => none
  | (k', s) :: r => if k == k' then some s else alook k r
def ains {κ α : Type} [BEq κ] (k : κ) (s : α) : List (κ × α) → List (κ × α)
  | [] => [(k, s)]
  | (k', s') :: r => if k == k' then (k, s) :: r else (k', s') :: ains k s r

instance : LawfulBEq ByteArray where
  eq_of_beq h := (beq_bytes _ _).1 h
  rfl := (beq_bytes _ _).2 rfl

theorem aget_enc {κ α : Type} [BEq κ] (f : α → SV) (k : κ) (l : List (κ × α)) : aget k (encM f l) = (alook k l).map f := by
  induction l with
  | nil => rfl
  | cons p l ih =>
    simp only [encM, List.map_cons, aget, alook]
    split
    · rfl
    · exact ih
theorem aset_enc {κ α : Type} [BEq κ] (f : α → SV) (k : κ) (s : α) (l : List (κ × α)) : aset k (f s) (encM f l) = encM f (ains k s l) := by
  induction l with
  | nil => rfl
  | cons p l ih =>
    simp only [encM, List.map_cons, aset, ains]
    split
    · rfl
    · simp only [List.map_cons]; congr 1
theorem alook_ains {κ α : Type} [BEq κ] [LawfulBEq κ] (k k' : κ) (s : α) (l : List (κ × α)) : alook k (ains k' s l) = if k == k' then some s else alook k l := by
  induction l with
  | nil => simp [ains, alook]
  | cons p l ih =>
    obtain ⟨q, v⟩ := p
    simp only [ains]
    by_cases h1 : k' == q
    · rw [if_pos h1]
      have := eq_of_beq h1
      subst this
      simp only [alook]
      by_cases h2 : k == k' <;> simp [h2]
    · rw [if_neg h1]
      simp only [alook, ih]
      by_cases h2 : k == q
      · have := eq_of_beq h2
        subst this
        have h3 : (k == k') = false := by
          cases h : k == k' with
          | false => rfl
          | true => have := eq_of_beq h; subst this; simp at h1
        simp [h3]
      · simp [h2]

section
variable {P : Program} {G : List (Nat × D)} {fn : Func} {rd : Bool} {E : En P G fn rd} {t : List (Nat × SV)} {H : List SObj} {k : List Item}
variable {all : Array Oper} {o : Oper} {rest : List Oper} {ty kt et : Nat} {x ix : Operand} {b : Nat} {z : Value} {α : Type} {f : α → SV}

theorem sop_lookI {kk : IntKind} {i : Int} {l : List (Int × α)} {ok : Bool} (hx : evalS G t x = .map b) (hi : evalS G t ix = .imm (.val (.int kk i))) (hb : H[b]? = some (.mapI kk (encM f l)))
    (hu : P.underlying ty = some (.map kt et)) (hk : P.underlying kt = some (.int kk)) (hz : pzero P et = some z) :
    sop P (.lookup ty x ix ok) (evalS G t) H = some (if ok then .tup [((alook i l).map f).getD (ofWhole z), .imm (.val (.bool (alook i l).isSome))] else ((alook i l).map f).getD (ofWhole z), H) := by
  simp only [sop, slook, hu, hk, hz, hx, hi, hb, and_self, if_true, aget_enc, Option.isSome_map]
  cases ok <;> rfl

theorem sop_lookS {i : ByteArray} {l : List (ByteArray × α)} {ok : Bool} (hx : evalS G t x = .map b) (hi : evalS G t ix = .imm (.val (.string i))) (hb : H[b]? = some (.mapS (encM f l)))
    (hu : P.underlying ty = some (.map kt et)) (hk : P.underlying kt = some .string) (hz : pzero P et = some z) :
    sop P (.lookup ty x ix ok) (evalS G t) H = some (if ok then .tup [((alook i l).map f).getD (ofWhole z), .imm (.val (.bool (alook i l).isSome))] else ((alook i l).map f).getD (ofWhole z), H) := by
  simp only [sop, slook, hu, hk, hz, hx, hi, hb, aget_enc, Option.isSome_map]
  cases ok <;> rfl

/-- m[i], m an own map of integers -/
theorem swr_lookI {kk : IntKind} {i : Int} {l : List (Int × α)} (f : α → SV) {v : SV} (hop : o.op = .lookup ty x ix false) (hw : swant all t o.guard = some true) (hd : dstOK fn.ntmps o.dst = true)
    (hx : evalS G t x = .map b) (hi : evalS G t ix = .imm (.val (.int kk i))) (hu : P.underlying ty = some (.map kt et)) (hk : P.underlying kt = some (.int kk)) (hz : pzero P et = some z)
    (hb : H[b]? = some (.mapI kk (encM f l))) (hv : ((alook i l).map f).getD (ofWhole z) = v) (h : SWr E all rest k (tput t o.dst v) H) : SWr E all (o :: rest) k t H :=
  swr_op hw hd (by rw [hop, sop_lookI hx hi hb hu hk hz, hv]; rfl) (Nat.le_refl _) h
theorem swr_lookI2 {kk : IntKind} {i : Int} {l : List (Int × α)} (f : α → SV) {v : SV} {p : Bool} (hop : o.op = .lookup ty x ix true) (hw : swant all t o.guard = some true) (hd : dstOK fn.ntmps o.dst = true)
    (hx : evalS G t x = .map b) (hi : evalS G t ix = .imm (.val (.int kk i))) (hu : P.underlying ty = some (.map kt et)) (hk : P.underlying kt = some (.int kk)) (hz : pzero P et = some z)
    (hb : H[b]? = some (.mapI kk (encM f l))) (hv : ((alook i l).map f).getD (ofWhole z) = v) (hp : (alook i l).isSome = p) (h : SWr E all rest k (tput t o.dst (.tup [v, .imm (.val (.bool p))])) H) : SWr E all (o :: rest) k t H :=
  swr_op hw hd (by rw [hop, sop_lookI hx hi hb hu hk hz, hv, hp]; rfl) (Nat.le_refl _) h
theorem swr_lookS {i : ByteArray} {l : List (ByteArray × α)} (f : α → SV) {v : SV} (hop : o.op = .lookup ty x ix false) (hw : swant all t o.guard = some true) (hd : dstOK fn.ntmps o.dst = true)
    (hx : evalS G t x = .map b) (hi : evalS G t ix = .imm (.val (.string i))) (hu : P.underlying ty = some (.map kt et)) (hk : P.underlying kt = some .string) (hz : pzero P et = some z)
    (hb : H[b]? = some (.mapS (encM f l))) (hv : ((alook i l).map f).getD (ofWhole z) = v) (h : SWr E all rest k (tput t o.dst v) H) : SWr E all (o :: rest) k t H :=
  swr_op hw hd (by rw [hop, sop_lookS hx hi hb hu hk hz, hv]; rfl) (Nat.le_refl _) h
theorem swd_lookI2 {kk : IntKind} {i : Int} {l : List (Int × α)} (f : α → SV) {v : SV} {p : Bool} (hop : o.op = .lookup ty x ix true) (hw : swant all t o.guard = some true) (hd : dstOK fn.ntmps o.dst = true)
    (hx : evalS G t x = .map b) (hi : evalS G t ix = .imm (.val (.int kk i))) (hu : P.underlying ty = some (.map kt et)) (hk : P.underlying kt = some (.int kk)) (hz : pzero P et = some z)
    (hb : H[b]? = some (.mapI kk (encM f l))) (hv : ((alook i l).map f).getD (ofWhole z) = v) (hp : (alook i l).isSome = p) (h : SWd E all rest k (tput t o.dst (.tup [v, .imm (.val (.bool p))])) H) : SWd E all (o :: rest) k t H :=
  swd_op hw hd (by rw [hop, sop_lookI hx hi hb hu hk hz, hv, hp]; rfl) h

/-- m[i] = v -/
theorem swr_setI {kk : IntKind} {i : Int} {l : List (Int × α)} (f : α → SV) {vx : Operand} (v : α) (hop : o.op = .mapUpdate ty x ix vx) (hw : swant all t o.guard = some true) (hd : dstOK fn.ntmps o.dst = true)
    (hx : evalS G t x = .map b) (hi : evalS G t ix = .imm (.val (.int kk i))) (hv : evalS G t vx = f v) (hu : P.underlying ty = some (.map kt et)) (hk : P.underlying kt = some (.int kk))
    (hb : H[b]? = some (.mapI kk (encM f l))) (h : SWr E all rest k (tput t o.dst .any) (H.set b (.mapI kk (encM f (ains i v l))))) : SWr E all (o :: rest) k t H :=
  swr_op hw hd (by rw [hop]; simp [sop, smapSet, hu, hk, hx, hi, hb, hv, aset_enc]) (by simp) h
theorem swr_setS {i : ByteArray} {l : List (ByteArray × α)} (f : α → SV) {vx : Operand} (v : α) (hop : o.op = .mapUpdate ty x ix vx) (hw : swant all t o.guard = some true) (hd : dstOK fn.ntmps o.dst = true)
    (hx : evalS G t x = .map b) (hi : evalS G t ix = .imm (.val (.string i))) (hv : evalS G t vx = f v) (hu : P.underlying ty = some (.map kt et)) (hk : P.underlying kt = some .string)
    (hb : H[b]? = some (.mapS (encM f l))) (h : SWr E all rest k (tput t o.dst .any) (H.set b (.mapS (encM f (ains i v l))))) : SWr E all (o :: rest) k t H :=
  swr_op hw hd (by rw [hop]; simp [sop, smapSet, hu, hk, hx, hi, hb, hv, aset_enc]) (by simp) h

end
end Go.Sh

/- The shadow machine, part 23: a statement in an open order whose operations write or make memory. -/
namespace Go.Sh

/-- what an object that is still to be made is bound to: nothing refers to it -/
def dummyB : Bnd := .tok (.bool false)

section
variable {w w' : World} {I I' : Imm} {β β' : List Bnd} {v : Value} {s : SV}

theorem Rep.under {w : World} {I : Imm} {β : List Bnd} {v : Value} {s : SV} (h : Rep w I β v s) : s.under β.length = true := by
  have all : ∀ l : List SV, (∀ j (h : j < l.length), (l[j]'h).under β.length = true) → SV.under.allUnder β.length l = true := by
    intro l
    induction l with
    | nil => intro _; rfl
    | cons x l ih => intro h; simp only [SV.under.allUnder, Bool.and_eq_true]; exact ⟨h 0 (by simp), ih fun j hj => h (j + 1) (by simpa using hj)⟩
  induction h with
  | any => rfl
  | imm => rfl
  | ptr b c off h => simpa [SV.under] using lt_of_getElem? h
  | osl b c off l cap h => simpa [SV.under] using lt_of_getElem? h
  | asl b k rows v u n h hu => simpa [SV.under] using lt_of_getElem? hu
  | map b c h => simpa [SV.under] using lt_of_getElem? h
  | yld b c h => simpa [SV.under] using lt_of_getElem? h
  | vec b n v u q h => simpa [SV.under] using lt_of_getElem? h
  | vptr b n off v a q cap h => simpa [SV.under] using lt_of_getElem? h
  | fn f fs cs first captured h1 h2 _ _ ih1 ih2 =>
    simp only [SV.under, Bool.and_eq_true]
    exact ⟨all _ fun j hj => ih1 j hj (by omega), all _ fun j hj => ih2 j hj (by omega)⟩
  | iface t v s _ ih => exact ih
  | agg vs cs h1 _ ih => exact all _ fun j hj => ih j hj (by omega)
  | tup vs ss h1 _ ih => exact all _ fun j hj => ih j hj (by omega)

/-- Bindings below m that are no dummies are kept. -/
def KeepsD (m : Nat) (β β' : List Bnd) : Prop := ∀ b x, b < m → β[b]? = some x → x ≠ dummyB → ∃ y, β'[b]? = some y ∧ x.le y

theorem Rep.monoD {m : Nat} (h : Rep w I β v s) (hI : ∀ b o, I b o → I' b o) (hw : ∀ b o, I b o → w'.cell? ⟨b, o, none⟩ = w.cell? ⟨b, o, none⟩) (hβ : KeepsD m β β') (hb : s.under m = true) : Rep w' I' β' v s := by
  induction h with
  | any v => exact .any v
  | imm h => exact .imm (h.mono hI hw)
  | ptr b c off h =>
    obtain ⟨y, hy, hl⟩ := hβ b _ (by simpa [SV.under] using hb) h (by simp [dummyB])
    cases hl; exact .ptr b c off hy
  | osl b c off len cap h h1 h2 =>
    obtain ⟨y, hy, hl⟩ := hβ b _ (by simpa [SV.under] using hb) h (by simp [dummyB])
    cases hl; exact .osl b c off len cap hy h1 h2
  | asl b k rows v u n h hu hs hle heq =>
    obtain ⟨y, hy, hl0⟩ := hβ b _ (by simpa [SV.under] using hb) hu (by obtain ⟨a, cap, rfl⟩ := hs; simp [dummyB])
    obtain ⟨u', rfl, hl⟩ := hl0.resolve_left (by obtain ⟨a, cap, rfl⟩ := hs; simp)
    rcases hl with rfl | ⟨a, n1, cap, a', n', cap', rfl, rfl, hn⟩
    · exact .asl b k rows v _ n (h.mono hI hw) hy hs hle heq
    · obtain ⟨a2, cap2, e⟩ := hs
      cases e
      exact .asl b k rows v _ n' (h.mono hI hw) hy ⟨a', cap', rfl⟩ (by omega) (by omega)
  | map b c h =>
    obtain ⟨y, hy, hl⟩ := hβ b _ (by simpa [SV.under] using hb) h (by simp [dummyB])
    cases hl; exact .map b c hy
  | yld b c h =>
    obtain ⟨y, hy, hl⟩ := hβ b _ (by simpa [SV.under] using hb) h (by simp [dummyB])
    cases hl; exact .yld b c hy
  | vec b n v u q h hs hle hv heq =>
    obtain ⟨y, hy, hl0⟩ := hβ b _ (by simpa [SV.under] using hb) h (by obtain ⟨a, cap, rfl⟩ := hs; simp [dummyB])
    obtain ⟨u', rfl, hl⟩ := hl0.resolve_left (by obtain ⟨a, cap, rfl⟩ := hs; simp)
    rcases hl with rfl | ⟨a, n1, cap, a', n', cap', rfl, rfl, hn⟩
    · exact .vec b n v _ q hy hs hle hv heq
    · obtain ⟨a2, cap2, e⟩ := hs
      cases e
      exact .vec b n v _ n' hy ⟨a', cap', rfl⟩ (by omega) hv (by omega)
  | vptr b n off v a q cap h hle hv heq =>
    obtain ⟨y, hy, hl0⟩ := hβ b _ (by simpa [SV.under] using hb) h (by simp [dummyB])
    obtain ⟨u', rfl, hl⟩ := hl0.resolve_left (by simp)
    rcases hl with rfl | ⟨a1, n1, cap1, a', n', cap', e, rfl, hn⟩
    · exact .vptr b n off v a q cap hy hle hv heq
    · cases e
      exact .vptr b n off v a' n' cap' hy (by omega) hv (by omega)
  | fn f fs cs first captured h1 h2 _ _ ih1 ih2 =>
    simp [SV.under] at hb
    exact .fn f fs cs first captured h1 h2 (fun j hj hj' => ih1 j hj hj' (allUnder_get hb.1 j hj)) (fun j hj hj' => ih2 j hj hj' (allUnder_get hb.2 j hj))
  | iface t v s _ ih => exact .iface t v s (ih (by simpa [SV.under] using hb))
  | agg vs cs h1 _ ih =>
    simp [SV.under] at hb
    exact .agg vs cs h1 (fun j hj hj' => ih j hj hj' (allUnder_get hb j hj))
  | tup vs ss h1 _ ih =>
    simp [SV.under] at hb
    exact .tup vs ss h1 (fun j hj hj' => ih j hj hj' (allUnder_get hb j hj))

theorem ObjOK.belowD {n : Nat} {o : SObj} {x : Bnd} (h : ObjOK w I β o x) (hu : o.under n = true) (hk : KeepsD n β β') : ObjOK w I β' o x := by
  have hmono : ∀ {v s}, Rep w I β v s → s.under n = true → Rep w I β' v s := fun hr hu => hr.monoD (fun _ _ h => h) (fun _ _ _ => rfl) hk hu
  cases o with
  | cells l =>
    cases x with
    | blk c =>
      obtain ⟨vs, T, a1, a2, a3, a4⟩ := h
      exact ⟨vs, T, a1, a2, fun j hj hj' => hmono (a3 j hj hj') (allUnder_get hu j hj), a4⟩
    | tok u => exact h
  | mapI kk es =>
    cases x with
    | blk c =>
      obtain ⟨vs, T, a1, a2, a3, a4⟩ := h
      exact ⟨vs, T, a1, a2, fun j hj hj' => ⟨(a3 j hj hj').1, hmono (a3 j hj hj').2 (List.all_eq_true.1 hu _ (List.getElem_mem hj))⟩, a4⟩
    | tok u => exact h
  | mapS es =>
    cases x with
    | blk c =>
      obtain ⟨vs, T, a1, a2, a3, a4⟩ := h
      exact ⟨vs, T, a1, a2, fun j hj hj' => ⟨(a3 j hj hj').1, hmono (a3 j hj hj').2 (List.all_eq_true.1 hu _ (List.getElem_mem hj))⟩, a4⟩
    | tok u => exact h
  | tok kk m => cases x <;> exact h
  | loop s f m' tt ps as bd =>
    cases x with
    | blk c =>
      obtain ⟨r, a1, a2, a3, a4, a5, a6, a7, a8, a9⟩ := h
      exact ⟨r, a1, a2, a3, a4, a5, a6, a7, fun m => hmono (a8 m) (tget_under hu m), a9⟩
    | tok u => exact h
  | vec kk l =>
    cases x with
    | blk c => exact h
    | tok u =>
      rcases h with h | ⟨c, n', cap, vs, T, rfl, a1, a2, a3, a4, a5, a6, a7⟩
      · exact .inl h
      · exact .inr ⟨c, n', cap, vs, T, rfl, a1, a2, a3, a4, a5, fun j hj hj' => hmono (a6 j hj hj') (allUnder_get hu j hj), a7⟩
  | dead => trivial
  | free => cases x <;> exact h
  | pin kk es clock =>
    cases x with
    | blk c =>
      obtain ⟨vs, a1, a2, a3, a4⟩ := h
      exact ⟨vs, a1, a2, fun j hj hj' => ⟨(a3 j hj hj').1, (a3 j hj hj').2.1, hmono (a3 j hj hj').2.2 (List.all_eq_true.1 hu _ (List.getElem_mem hj))⟩, a4⟩
    | tok u => exact h
  | iter m' since seen last =>
    cases x with
    | blk c =>
      obtain ⟨cm, a1, a2⟩ := h
      obtain ⟨y, hy, hl⟩ := hk m' _ (by simpa [SObj.under] using hu) a1 (by simp [dummyB])
      cases hl
      exact ⟨cm, hy, a2⟩
    | tok u => exact h

theorem ObjOK.under {o : SObj} {x : Bnd} (h : ObjOK w I β o x) : o.under β.length = true ∨ ∃ s f n t ps as bd, o = .loop s f n t ps as bd := by
  have all : ∀ l : List SV, (∀ j (h : j < l.length), (l[j]'h).under β.length = true) → SV.under.allUnder β.length l = true := by
    intro l
    induction l with
    | nil => intro _; rfl
    | cons x l ih => intro h; simp only [SV.under.allUnder, Bool.and_eq_true]; exact ⟨h 0 (by simp), ih fun j hj => h (j + 1) (by simpa using hj)⟩
  cases o with
  | cells l =>
    cases x with
    | blk c => obtain ⟨vs, T, a1, a2, a3, a4⟩ := h; exact .inl (all l fun j hj => (a3 j hj (by omega)).under)
    | tok u => exact h.elim
  | mapI kk es =>
    cases x with
    | blk c =>
      obtain ⟨vs, T, a1, a2, a3, a4⟩ := h
      refine .inl (List.all_eq_true.2 fun e he => ?_)
      obtain ⟨j, hj, rfl⟩ := List.mem_iff_getElem.1 he
      exact (a3 j hj (by omega)).2.under
    | tok u => exact h.elim
  | mapS es =>
    cases x with
    | blk c =>
      obtain ⟨vs, T, a1, a2, a3, a4⟩ := h
      refine .inl (List.all_eq_true.2 fun e he => ?_)
      obtain ⟨j, hj, rfl⟩ := List.mem_iff_getElem.1 he
      exact (a3 j hj (by omega)).2.under
    | tok u => exact h.elim
  | tok kk m => exact .inl rfl
  | vec kk l =>
    cases x with
    | blk c => exact h.elim
    | tok u =>
      rcases h with ⟨rfl, _⟩ | ⟨c, n', cap, vs, T, rfl, a1, a2, a3, a4, a5, a6, a7⟩
      · exact .inl rfl
      · exact .inl (all l fun j hj => (a6 j hj (by rw [a2]; rw [a5] at hj; exact Nat.lt_of_lt_of_le hj (Nat.mul_le_mul_right kk a3))).under)
  | loop s f n t ps as bd => exact .inr ⟨_, _, _, _, _, _, _, rfl⟩
  | dead => exact .inl rfl
  | free => exact .inl rfl
  | pin kk es clock =>
    cases x with
    | blk c =>
      obtain ⟨vs, a1, a2, a3, a4⟩ := h
      refine .inl (List.all_eq_true.2 fun e he => ?_)
      obtain ⟨j, hj, rfl⟩ := List.mem_iff_getElem.1 he
      exact (a3 j hj (by omega)).2.2.under
    | tok u => exact h.elim
  | iter m' since seen last =>
    cases x with
    | blk c =>
      obtain ⟨cm, a1, a2⟩ := h
      exact .inl (by simpa [SObj.under] using lt_of_getElem? a1)
    | tok u => exact h.elim

theorem KeepsD.refl (m : Nat) (β : List Bnd) : KeepsD m β β := fun _ x _ h _ => ⟨x, h, x.le_refl⟩
theorem Keeps.toD {m : Nat} (h : Keeps m β β') : KeepsD m β β' := fun b x hb hx _ => h b x hb hx
theorem Keeps.dummy {m b : Nat} (h : Keeps m β β') (hb : b < m) (hx : β[b]? = some dummyB) : β'[b]? = some dummyB := by
  obtain ⟨y, hy, h0⟩ := h b _ hb hx
  rcases h0 with h0 | ⟨u', rfl, h1 | ⟨a, n, cap, a', n', cap', e, _⟩⟩
  · cases h0
  · subst h1; exact hy
  · cases e

end

/-- What an operation does: its value, the objects that it looks at, the object that it writes. -/
structure Eff where
  val : SV
  foot : List Nat
  wr : Option (Nat × SObj)

def setw (K : List SObj) : Option (Nat × SObj) → List SObj
  | none => K
  | some (b, o) => K.set b o
theorem setw_length (K : List SObj) (x : Option (Nat × SObj)) : (setw K x).length = K.length := by
  cases x with
  | none => rfl
  | some p => simp [setw]

section
variable {P : Program} {G : List (Nat × D)} {fn : Func} {rd : Bool} {E : En P G fn rd} {t : List (Nat × SV)} {H K : List SObj} {k : List Item}

structure Gain (G : List (Nat × D)) (m : Nat) (w : World) (I : Imm) (β : List Bnd) (K : List SObj) (wr : Option (Nat × SObj)) (w' : World) (I' : Imm) (β' : List Bnd) : Prop where
  heap : HeapOK G w' I' β' (setw K wr)
  ext : Ext m w I β K w' I' β' (setw K wr)
  keep : KeepsD β.length β β'
  dum : ∀ b, β[b]? = some dummyB → (∀ o, wr ≠ some (b, o)) → β'[b]? = some dummyB

/-- an operation, carried out in whatever memory that fits -/
def OpEff (P : Program) (G : List (Nat × D)) (m : Nat) (o : Oper) (ev : Operand → SV) (K : List SObj) (e : Eff) : Prop :=
  ∀ (ρ : Operand → Value) w I β, HeapOK G w I β K → (∀ b, m ≤ b → K[b]? = some .dead → β[b]? = some dummyB) → (∀ x ∈ o.op.operands, Rep w I β (ρ x) (ev x)) →
    (∃ n v w' I' β', (execOp ρ o).run P w = .ok n w' ∧ (n = .value v ∨ (n = .skip ∧ v = undef)) ∧ Rep w' I' β' v e.val ∧ Gain G m w I β K e.wr w' I' β') ∨
    (∃ f vs, (execOp ρ o).run P w = .ok (.enter f vs) w ∧ Calls P f vs w fun en w' => ∃ v I' β', en = .returned v ∧ Rep w' I' β' v e.val ∧ Gain G m w I β K e.wr w' I' β')

/-- from what the shadow machine says of an operation that makes nothing -/
theorem opEff_sop {m : Nat} {o : Oper} {ev : Operand → SV} {e : Eff} (hm : m ≤ K.length) (h : sop P o.op ev K = some (e.val, setw K e.wr)) : OpEff P G m o ev K e := by
  intro ρ w I β hH _ hop
  classical
  have hop' : sop P o.op (fun x => if x ∈ o.op.operands then ev x else .any) K = some (e.val, setw K e.wr) := by
    rw [← h]
    exact sop_congr fun x hx => by simp [hx]
  obtain ⟨n, v, w', I', β', h1, h2, h3, h4, h5⟩ := run_sop (o := o) (ρ := ρ) hop' hH (fun x => by
    split
    · rename_i hx; exact hop x hx
    · exact .any _)
  have hk : Keeps β.length β β' := by rw [hH.len]; exact h5.keep
  exact .inl ⟨n, v, w', I', β', h1, h2, h3, h4, h5.weaken hm, hk.toD, fun b hb _ => hk.dummy (lt_of_getElem? hb) hb⟩

def SV.mv (N b : Nat) : SV → SV
  | .ptr c o => .ptr (if c = N then b else c) o
  | .osl c o l => .osl (if c = N then b else c) o l
  | .asl c kk rows => .asl (if c = N then b else c) kk rows
  | .map c => .map (if c = N then b else c)
  | s => s

def SV.isNew (N : Nat) : SV → Bool
  | .ptr c _ => c == N
  | .osl c _ _ => c == N
  | .asl c _ _ => c == N
  | .map c => c == N
  | _ => false

/-- from what the shadow machine says of an operation that makes an object: it is put where its place is -/
theorem opEff_new {m nx : Nat} {o : Oper} {ev : Operand → SV} {r : SV} {ob : SObj} (hm : m ≤ nx) (hnx : K[nx]? = some .dead) (h : sop P o.op ev K = some (r, K ++ [ob])) (hr : r.isNew K.length = true) (hob : ob.under K.length = true) :
    OpEff P G m o ev K ⟨r.mv K.length nx, [], some (nx, ob)⟩ := by
  intro ρ w I β hH hph hop
  classical
  have hop' : sop P o.op (fun x => if x ∈ o.op.operands then ev x else .any) K = some (r, K ++ [ob]) := by
    rw [← h]
    exact sop_congr fun x hx => by simp [hx]
  obtain ⟨n, v, w', I', β1, h1, h2, h3, h4, h5⟩ := run_sop (o := o) (ρ := ρ) hop' hH (fun x => by
    split
    · rename_i hx; exact hop x hx
    · exact .any _)
  have hnl := lt_of_getElem? hnx
  have hdum := hph nx hm hnx
  have hl1 : β1.length = K.length + 1 := by rw [h4.len]; simp
  have hl0 : β.length = K.length := hH.len
  have hkeep : Keeps K.length β β1 := h5.keep
  have hdum1 : β1[nx]? = some dummyB := hkeep.dummy hnl hdum
  obtain ⟨x, hx⟩ : ∃ x, β1[K.length]? = some x := ⟨β1[K.length]'(by omega), List.getElem?_eq_getElem _⟩
  have hlen2 : ((β1.take K.length).set nx x).length = K.length := by simp; omega
  have get2 : ∀ b, b ≠ nx → b < K.length → ((β1.take K.length).set nx x)[b]? = β1[b]? := fun b hne hlt => by
    rw [List.getElem?_set_ne (Ne.symm hne), List.getElem?_take, if_pos hlt]
  have getnx : ((β1.take K.length).set nx x)[nx]? = some x := List.getElem?_set_self (by simp; omega)
  -- bindings
  have kd1 : KeepsD K.length β1 ((β1.take K.length).set nx x) := fun b y hb hy hne => by
    have hbn : b ≠ nx := by rintro rfl; rw [hdum1] at hy; cases hy; exact hne rfl
    exact ⟨y, by rw [get2 b hbn hb]; exact hy, y.le_refl⟩
  have kd0 : KeepsD β.length β ((β1.take K.length).set nx x) := fun b y hb hy hne => by
    rw [hl0] at hb
    obtain ⟨z, hz, hle⟩ := hkeep b y hb hy
    have hbn : b ≠ nx := by rintro rfl; rw [hdum] at hy; cases hy; exact hne rfl
    exact ⟨z, by rw [get2 b hbn hb]; exact hz, hle⟩
  have hown : ∀ b c, owns (K.set nx ob) ((β1.take K.length).set nx x) b c → owns (K ++ [ob]) β1 (if b = nx then K.length else b) c := by
    rintro b c ⟨o, y, g1, g2, g3, g4⟩
    by_cases e : b = nx
    · subst e
      rw [if_pos rfl]
      rw [List.getElem?_set_self hnl] at g1
      rw [getnx] at g3
      cases g1; cases g3
      exact ⟨ob, x, by simp, g2, hx, g4⟩
    · rw [if_neg e]
      rw [List.getElem?_set_ne (Ne.symm e)] at g1
      have hlt := lt_of_getElem? g1
      rw [get2 b e hlt] at g3
      exact ⟨o, y, by rw [List.getElem?_append_left hlt]; exact g1, g2, g3, g4⟩
  have hheap : HeapOK G w' I' ((β1.take K.length).set nx x) (K.set nx ob) := by
    refine ⟨by simp; omega, fun b o y g1 g2 => ?_, fun b b' c g1 g2 => ?_, h4.inI, h4.glob⟩
    · by_cases e : b = nx
      · subst e
        rw [List.getElem?_set_self hnl] at g1
        rw [getnx] at g2
        cases g1; cases g2
        exact (h4.obj K.length ob x (by simp) hx).belowD hob kd1
      · rw [List.getElem?_set_ne (Ne.symm e)] at g1
        have hlt := lt_of_getElem? g1
        rw [get2 b e hlt] at g2
        have hb1 : b < β.length := by omega
        have hob1 := h4.obj b o y (by rw [List.getElem?_append_left hlt]; exact g1) g2
        have hob0 := hH.obj b o _ g1 (List.getElem?_eq_getElem hb1)
        rcases hob0.under with hu | ⟨s, f, n', tt, ps, as, bd, rfl⟩
        · exact hob1.belowD (by rw [hl0] at hu; exact hu) kd1
        · cases y with
          | tok u => exact hob1
          | blk c =>
            cases hbb : β[b] with
            | tok u => rw [hbb] at hob0; exact hob0.elim
            | blk c' =>
              rw [hbb] at hob0
              obtain ⟨r0, b1, b2, b3, b4, b5, b6, b7, b8, b9⟩ := hob0
              obtain ⟨r1, a1, a2, a3, a4, a5, a6, a7, a8, a9⟩ := hob1
              refine ⟨r1, a1, a2, a3, a4, a5, a6, a7, fun m' => ?_, a9⟩
              have hu := (b8 m').under
              rw [hl0] at hu
              exact (a8 m').monoD (fun _ _ h => h) (fun _ _ _ => rfl) kd1 hu
    · have := h4.inj _ _ c (hown b c g1) (hown b' c g2)
      have l1 : b < K.length := by obtain ⟨o, y, g, _⟩ := g1; have := lt_of_getElem? g; simpa using this
      have l2 : b' < K.length := by obtain ⟨o, y, g, _⟩ := g2; have := lt_of_getElem? g; simpa using this
      split at this <;> split at this <;> omega
  refine .inl ⟨n, v, w', I', (β1.take K.length).set nx x, h1, h2, ?_, hheap, ?_, kd0, fun b hb hne => ?_⟩
  · cases r with
    | ptr c o =>
      have : c = K.length := by simpa [SV.isNew] using hr
      subst this
      simp only [SV.mv, if_true]
      cases h3 with
      | ptr _ c' _ hc => rw [hx] at hc; cases hc; exact .ptr nx c' o getnx
    | osl c o l =>
      have : c = K.length := by simpa [SV.isNew] using hr
      subst this
      simp only [SV.mv, if_true]
      cases h3 with
      | osl _ c' _ _ cap hc g1 g2 => rw [hx] at hc; cases hc; exact .osl nx c' o l cap getnx g1 g2
    | asl c kk rows =>
      have : c = K.length := by simpa [SV.isNew] using hr
      subst this
      simp only [SV.mv, if_true]
      cases h3 with
      | asl _ _ _ _ u n' hd hc g1 g2 g3 => rw [hx] at hc; cases hc; exact .asl nx kk rows v u n' hd getnx g1 g2 g3
    | map c =>
      have : c = K.length := by simpa [SV.isNew] using hr
      subst this
      simp only [SV.mv, if_true]
      cases h3 with
      | map _ c' hc => rw [hx] at hc; cases hc; exact .map nx c' getnx
    | _ => simp [SV.isNew] at hr
  · refine ⟨h5.imm, h5.cell, fun b y hb hy => ?_, h5.old, fun b c ho => h5.own _ c (hown b c ho), h5.new, h5.size, h5.env⟩
    have hlt := lt_of_getElem? hy
    obtain ⟨z, hz, hle⟩ := hkeep b y (by omega) hy
    exact ⟨z, by rw [get2 b (by omega) (by omega)]; exact hz, hle⟩
  · have hbn : b ≠ nx := fun e => hne ob (by rw [e])
    have hlt := lt_of_getElem? hb
    rw [get2 b hbn (by omega)]
    exact hkeep.dummy (by omega) hb

/-- a call by a pure contract -/
theorem opEff_pure {m : Nat} {o : Oper} {ev : Operand → SV} {fx : Operand} {args : Array Operand} {tys : Array TypeId} {f : FuncId} {first captured argv : List SV} {r : SV} (hm : m ≤ K.length)
    (hop : o.op = .call ⟨.value fx, args, tys⟩) (hf : ev fx = .fn (.func f) first captured) (hb : hasBody P f = true) (hargs : first ++ args.toList.map ev ++ captured = argv) (hc : SPure P G f argv r) : OpEff P G m o ev K ⟨r, [], none⟩ := by
  intro ρ w I β hH hph hops
  subst hargs
  have hmem : ∀ x ∈ args, x ∈ o.op.operands := fun x hx => by rw [hop]; simp [Op.operands, Call.operands, hx]
  have hfr := hops fx (by rw [hop]; simp [Op.operands, Call.operands])
  rw [hf] at hfr
  generalize hfv : ρ fx = fv at hfr
  cases hfr with
  | fn _ fs cps _ _ l1 l2 r1 r2 =>
  have hrun : (execOp ρ o).run P w = .ok (.enter f (fs ++ args.map ρ ++ cps)) w := by
    obtain ⟨dst, op, type, pos, after, guard⟩ := o
    simp only at hop
    subst hop
    simp only [execOp, resolve, hfv, Deferred.ofValue, Sem.run_bind, Sem.run_pure, Result.andThen_ok, invoke]
    exact run_callFunc hb
  have hreps : Reps w I β (fs ++ args.map ρ ++ cps).toList (first ++ args.toList.map ev ++ captured) := by
    have e1 : Reps w I β fs.toList first := .of_get l1 r1
    have e2 : Reps w I β (args.map ρ).toList (args.toList.map ev) := by
      have : ∀ l : List Operand, (∀ x ∈ l, x ∈ args.toList) → Reps w I β (l.map ρ) (l.map ev) := by
        intro l
        induction l with
        | nil => intro _; exact .nil
        | cons x l ihl => intro hl; exact .cons (hops x (hmem x (by simpa using hl x (by simp)))) (ihl fun y hy => hl y (by simp [hy]))
      simpa using this args.toList (fun _ h => h)
    have e3 : Reps w I β cps.toList captured := .of_get l2 r2
    simpa using (e1.append e2).append e3
  refine .inr ⟨f, _, hrun, (hc K w I β _ hH hreps).mono ?_⟩
  rintro e w' ⟨v, r', I', β', H', rfl, ⟨rfl, rfl⟩, g1, g2, g3⟩
  have hk : Keeps β.length β β' := by rw [hH.len]; exact g3.keep
  exact ⟨v, I', β', rfl, g1, g2, g3.weaken hm, hk.toD, fun b hb _ => hk.dummy (lt_of_getElem? hb) hb⟩

/-- a call by a contract over the first n objects, of which it writes one -/
theorem opEff_pre {m : Nat} (n : Nat) {o : Oper} {ev : Operand → SV} {fx : Operand} {args : Array Operand} {tys : Array TypeId} {f : FuncId} {first captured argv : List SV} {r : SV} {wr : Option (Nat × SObj)} (hm : m ≤ K.length)
    (hop : o.op = .call ⟨.value fx, args, tys⟩) (hf : ev fx = .fn (.func f) first captured) (hb : hasBody P f = true) (hargs : first ++ args.toList.map ev ++ captured = argv) (hwr : ∀ b ob, wr = some (b, ob) → b < n) (hn : n ≤ K.length)
    (hc : SPre P G f argv (K.take n) (fun r' H1 => r' = r ∧ H1 = setw (K.take n) wr)) : OpEff P G m o ev K ⟨r, List.range n, wr⟩ := by
  intro ρ w I β hH hph hops
  subst hargs
  have hmem : ∀ x ∈ args, x ∈ o.op.operands := fun x hx => by rw [hop]; simp [Op.operands, Call.operands, hx]
  have hfr := hops fx (by rw [hop]; simp [Op.operands, Call.operands])
  rw [hf] at hfr
  generalize hfv : ρ fx = fv at hfr
  cases hfr with
  | fn _ fs cps _ _ l1 l2 r1 r2 =>
  have hrun : (execOp ρ o).run P w = .ok (.enter f (fs ++ args.map ρ ++ cps)) w := by
    obtain ⟨dst, op, type, pos, after, guard⟩ := o
    simp only at hop
    subst hop
    simp only [execOp, resolve, hfv, Deferred.ofValue, Sem.run_bind, Sem.run_pure, Result.andThen_ok, invoke]
    exact run_callFunc hb
  have hreps : Reps w I β (fs ++ args.map ρ ++ cps).toList (first ++ args.toList.map ev ++ captured) := by
    have e1 : Reps w I β fs.toList first := .of_get l1 r1
    have e2 : Reps w I β (args.map ρ).toList (args.toList.map ev) := by
      have : ∀ l : List Operand, (∀ x ∈ l, x ∈ args.toList) → Reps w I β (l.map ρ) (l.map ev) := by
        intro l
        induction l with
        | nil => intro _; exact .nil
        | cons x l ihl => intro hl; exact .cons (hops x (hmem x (by simpa using hl x (by simp)))) (ihl fun y hy => hl y (by simp [hy]))
      simpa using this args.toList (fun _ h => h)
    have e3 : Reps w I β cps.toList captured := .of_get l2 r2
    simpa using (e1.append e2).append e3
  have hK : K.take n ++ K.drop n = K := by simp
  have hset : setw (K.take n) wr ++ K.drop n = setw K wr := by
    cases wr with
    | none => exact hK
    | some p =>
      obtain ⟨b, ob⟩ := p
      have hbn := hwr b ob rfl
      simp only [setw]
      rw [← List.set_append_left _ _ (by simp; omega), hK]
  have hcall := hc (K.drop n)
  rw [hK] at hcall
  refine .inr ⟨f, _, hrun, (hcall w I β _ hH hreps).mono ?_⟩
  rintro e w' ⟨v, r', I', β', H', rfl, ⟨H1, ⟨rfl, rfl⟩, _, rfl⟩, g1, g2, g3⟩
  rw [hset] at g2 g3
  have hk : Keeps β.length β β' := by rw [hH.len]; exact g3.keep
  exact ⟨v, I', β', rfl, g1, g2, g3.weaken hm, hk.toD, fun b hb _ => hk.dummy (lt_of_getElem? hb) hb⟩

end
end Go.Sh

/- The shadow machine, part 24: statements in an open order with effects: soundness, rules, evaluation. -/
namespace Go.Sh

def wrAt (es : List Eff) (i : Nat) : Option (Nat × SObj) := (es[i]?).bind (·.wr)
/-- the heap before operation i, in the text's order -/
def KAt (es : List Eff) (K0 : List SObj) : Nat → List SObj
  | 0 => K0
  | i + 1 => setw (KAt es K0 i) (wrAt es i)
/-- the heap when just these have been carried out -/
def KL (es : List Eff) (listed : Array Bool) (K0 : List SObj) : Nat → List SObj
  | 0 => K0
  | i + 1 => if listed.getD i false then setw (KL es listed K0 i) (wrAt es i) else KL es listed K0 i

theorem KAt_length (es : List Eff) (K0 : List SObj) : ∀ i, (KAt es K0 i).length = K0.length
  | 0 => rfl
  | i + 1 => by rw [KAt, setw_length, KAt_length es K0 i]
theorem KL_length (es : List Eff) (listed : Array Bool) (K0 : List SObj) : ∀ i, (KL es listed K0 i).length = K0.length
  | 0 => rfl
  | i + 1 => by
    rw [KL]
    split
    · rw [setw_length, KL_length es listed K0 i]
    · exact KL_length es listed K0 i

/-- does it write this object? -/
def Hits (x : Option (Nat × SObj)) (b : Nat) : Prop := ∃ o, x = some (b, o)
theorem setw_get_ne {K : List SObj} {x : Option (Nat × SObj)} {b : Nat} (h : ¬ Hits x b) : (setw K x)[b]? = K[b]? := by
  cases x with
  | none => rfl
  | some p =>
    obtain ⟨b', o⟩ := p
    have : b' ≠ b := fun e => h ⟨o, by rw [e]⟩
    simp only [setw]
    rw [List.getElem?_set_ne this]
theorem setw_get_eq {K K' : List SObj} {x : Option (Nat × SObj)} {b : Nat} (h : Hits x b) (hl : K.length = K'.length) : (setw K x)[b]? = (setw K' x)[b]? := by
  obtain ⟨o, rfl⟩ := h
  simp only [setw]
  by_cases hb : b < K.length
  · rw [List.getElem?_set_self hb, List.getElem?_set_self (by omega)]
  · rw [List.getElem?_eq_none (by simp; omega), List.getElem?_eq_none (by simp; omega)]

/-- i comes before j, by a chain -/
inductive Before (ops : Array Oper) : Nat → Nat → Prop
  | one {i j : Nat} {o : Oper} : ops[j]? = some o → i ∈ befores o → Before ops i j
  | step {i k j : Nat} {o : Oper} : ops[j]? = some o → k ∈ befores o → Before ops i k → Before ops i j

def reachB (ops : Array Oper) (i : Nat) : Nat → Nat → Bool
  | 0, _ => false
  | f + 1, j => match ops[j]? with
    | some o => (befores o).any fun k => k == i || (decide (i < k) && reachB ops i f k)
    | none => false
theorem reachB_sound {ops : Array Oper} {i : Nat} : ∀ {f j : Nat}, reachB ops i f j = true → Before ops i j
  | 0, _, h => by simp [reachB] at h
  | f + 1, j, h => by
    simp only [reachB] at h
    split at h
    · rename_i o ho
      obtain ⟨k, hk, h2⟩ := List.any_eq_true.1 h
      simp only [Bool.or_eq_true, beq_iff_eq, Bool.and_eq_true] at h2
      rcases h2 with rfl | ⟨_, h2⟩
      · exact .one ho hk
      · exact .step ho hk (reachB_sound h2)
    · cases h

def touches (e : Eff) (b : Nat) : Bool := e.foot.contains b || (match e.wr with | some (c, _) => c == b | none => false)
def clash (x y : Eff) : Bool := (match x.wr with | some (b, _) => touches y b | none => false) || (match y.wr with | some (b, _) => touches x b | none => false)
def commGo (ops : Array Oper) (x : Eff) (i : Nat) : Nat → List Eff → Bool
  | _, [] => true
  | j, y :: r => (!clash x y || reachB ops i ops.size j) && commGo ops x i (j + 1) r
def liveE (x : Eff) : Bool :=
  match x.wr with
  | some (_, .dead) => false
  | _ => true
def commOK (ops : Array Oper) : Nat → List Eff → Bool
  | _, [] => true
  | i, x :: r => liveE x && commGo ops x i (i + 1) r && commOK ops (i + 1) r
theorem commOK_live {ops : Array Oper} : ∀ {l : List Eff} {i0 : Nat}, commOK ops i0 l = true → ∀ (i : Nat) x b ob, l[i]? = some x → x.wr = some (b, ob) → ob ≠ .dead
  | z :: l, i0, h, 0, x, b, ob, hx, hw => by
    simp only [commOK, Bool.and_eq_true] at h
    simp at hx
    subst hx
    have := h.1.1
    unfold liveE at this
    rw [hw] at this
    rintro rfl
    simp at this
  | z :: l, i0, h, i + 1, x, b, ob, hx, hw => by
    simp only [commOK, Bool.and_eq_true] at h
    exact commOK_live h.2 i x b ob (by simpa using hx) hw

theorem commGo_spec {ops : Array Oper} {x : Eff} {i : Nat} : ∀ {l : List Eff} {j0 : Nat}, commGo ops x i j0 l = true → ∀ (j : Nat) y, l[j]? = some y → clash x y = true → Before ops i (j0 + j)
  | z :: l, j0, h, 0, y, hy, hc => by
    simp only [commGo, Bool.and_eq_true, Bool.or_eq_true, Bool.not_eq_true'] at h
    simp at hy
    subst hy
    rcases h.1 with h1 | h1
    · rw [hc] at h1; cases h1
    · exact reachB_sound h1
  | z :: l, j0, h, j + 1, y, hy, hc => by
    simp only [commGo, Bool.and_eq_true] at h
    have := commGo_spec h.2 j y (by simpa using hy) hc
    rwa [Nat.add_assoc, Nat.add_comm 1] at this
theorem commOK_spec {ops : Array Oper} {l : List Eff} : ∀ {i0 : Nat}, commOK ops i0 l = true → ∀ (i j : Nat) x y, i < j → l[i]? = some x → l[j]? = some y → clash x y = true → Before ops (i0 + i) (i0 + j) := by
  induction l with
  | nil => intro i0 _ i j x y _ hx; cases hx
  | cons z l ih =>
    intro i0 h i j x y hij hx hy hc
    rw [commOK, Bool.and_eq_true, Bool.and_eq_true] at h
    cases j with
    | zero => omega
    | succ j =>
      rw [List.getElem?_cons_succ] at hy
      cases i with
      | zero =>
        rw [List.getElem?_cons_zero] at hx
        cases hx
        have := commGo_spec h.1.2 j y hy hc
        rwa [Nat.add_assoc, Nat.add_comm 1] at this
      | succ i =>
        rw [List.getElem?_cons_succ] at hx
        have := ih h.2 i j x y (by omega) hx hy hc
        rw [show i0 + (i + 1) = i0 + 1 + i by omega, show i0 + (j + 1) = i0 + 1 + j by omega]
        exact this

theorem clash_wr {x y : Eff} {b : Nat} (hx : Hits x.wr b) (hy : b ∈ y.foot ∨ Hits y.wr b) : clash x y = true := by
  obtain ⟨o, ho⟩ := hx
  unfold clash
  rw [ho]
  simp only [touches, Bool.or_eq_true]
  left
  rcases hy with hy | ⟨o', ho'⟩
  · left; simpa using hy
  · right; rw [ho']; simp
theorem clash_rw {x y : Eff} {b : Nat} (hx : b ∈ x.foot ∨ Hits x.wr b) (hy : Hits y.wr b) : clash x y = true := by
  obtain ⟨o, ho⟩ := hy
  unfold clash
  rw [ho]
  simp only [touches, Bool.or_eq_true]
  right
  rcases hx with hx | ⟨o', ho'⟩
  · left; simpa using hx
  · right; rw [ho']; simp

section
variable {ops : Array Oper} {es : List Eff} {listed : Array Bool} {K0 : List SObj}

theorem before_listed (hcl : ∀ (i : Nat) o, ops[i]? = some o → listed.getD i false = true → ∀ j ∈ befores o, listed.getD j false = true) {i j : Nat} (h : Before ops i j) :
    (∀ o, ops[j]? = some o → ∀ k ∈ befores o, listed.getD k false = true) → listed.getD i false = true := by
  induction h with
  | one ho hi => intro hb; exact hb _ ho _ hi
  | step ho hk _ ih =>
    intro hb
    exact ih fun o' ho' k' hk' => hcl _ _ ho' (hb _ ho _ hk) k' hk'

theorem KL_at (hc : commOK ops 0 es = true) (hcl : ∀ (i : Nat) o, ops[i]? = some o → listed.getD i false = true → ∀ j ∈ befores o, listed.getD j false = true) {i : Nat} {o : Oper} {e : Eff} (ho : ops[i]? = some o) (he : es[i]? = some e)
    (hn : listed.getD i false = false) (hb : ∀ j ∈ befores o, listed.getD j false = true) (hlen : es.length = ops.size) {b : Nat} (ht : b ∈ e.foot ∨ Hits e.wr b) :
    ∀ p, p ≤ ops.size → (KL es listed K0 p)[b]? = (KAt es K0 (min p i))[b]? := by
  intro p
  induction p with
  | zero => intro _; simp [KL, KAt]
  | succ p ih =>
    intro hp
    have ih := ih (by omega)
    obtain ⟨ep, hep⟩ : ∃ ep, es[p]? = some ep := ⟨es[p]'(by omega), List.getElem?_eq_getElem _⟩
    obtain ⟨op, hop⟩ : ∃ op, ops[p]? = some op := ⟨ops[p]'(by omega), Array.getElem?_eq_getElem _⟩
    have hwr : wrAt es p = ep.wr := by simp [wrAt, hep]
    rcases Nat.lt_trichotomy p i with hlt | rfl | hgt
    · rw [show min (p + 1) i = p + 1 by omega]
      rw [show min p i = p by omega] at ih
      simp only [KL, KAt, hwr]
      by_cases hh : Hits ep.wr b
      · have hbef := commOK_spec hc p i ep e hlt hep he (clash_wr hh ht)
        simp only [Nat.zero_add] at hbef
        have : listed.getD p false = true := before_listed hcl hbef (fun o' ho' => by rw [ho] at ho'; cases ho'; exact hb)
        rw [if_pos this]
        exact setw_get_eq hh (by rw [KL_length, KAt_length])
      · rw [setw_get_ne hh]
        split
        · rw [setw_get_ne hh]; exact ih
        · exact ih
    · rw [show min (p + 1) p = p by omega]
      rw [Nat.min_self] at ih
      simp only [KL]
      rw [if_neg (by rw [hn]; simp)]
      exact ih
    · rw [show min (p + 1) i = i by omega]
      rw [show min p i = i by omega] at ih
      simp only [KL, hwr]
      split
      · rename_i hl
        by_cases hh : Hits ep.wr b
        · exfalso
          have hbef := commOK_spec hc i p e ep hgt he hep (clash_rw ht hh)
          simp only [Nat.zero_add] at hbef
          have : listed.getD i false = true := before_listed hcl hbef (fun o' ho' => by rw [hop] at ho'; cases ho'; exact hcl p op hop hl)
          rw [hn] at this; cases this
        · rw [setw_get_ne hh]; exact ih
      · exact ih

theorem KL_set (hc : commOK ops 0 es = true) (hcl : ∀ (i : Nat) o, ops[i]? = some o → listed.getD i false = true → ∀ j ∈ befores o, listed.getD j false = true) {i : Nat} {e : Eff} (hi : i < ops.size) (he : es[i]? = some e)
    (hn : listed.getD i false = false) (hlen : es.length = ops.size) (hls : listed.size = ops.size) : KL es (listed.setIfInBounds i true) K0 ops.size = setw (KL es listed K0 ops.size) e.wr := by
  have hset : ∀ p, p ≠ i → (listed.setIfInBounds i true).getD p false = listed.getD p false := fun p hp => getD_set_ne (Ne.symm hp)
  have hself : (listed.setIfInBounds i true).getD i false = true := getD_set_self (by omega)
  have hwri : wrAt es i = e.wr := by simp [wrAt, he]
  have low : ∀ p, p ≤ i → KL es (listed.setIfInBounds i true) K0 p = KL es listed K0 p := by
    intro p
    induction p with
    | zero => intro _; rfl
    | succ p ih => intro hp; simp only [KL, ih (by omega), hset p (by omega)]
  have high : ∀ p, i < p → p ≤ ops.size → ∀ b : Nat, (KL es (listed.setIfInBounds i true) K0 p)[b]? = (setw (KL es listed K0 p) e.wr)[b]? := by
    intro p
    induction p with
    | zero => intro h; omega
    | succ p ih =>
      intro hp hps b
      rcases Nat.lt_or_ge i p with hip | hip
      · have ih := ih hip (by omega) b
        obtain ⟨ep, hep⟩ : ∃ ep, es[p]? = some ep := ⟨es[p]'(by omega), List.getElem?_eq_getElem _⟩
        obtain ⟨op, hop⟩ : ∃ op, ops[p]? = some op := ⟨ops[p]'(by omega), Array.getElem?_eq_getElem _⟩
        have hwr : wrAt es p = ep.wr := by simp [wrAt, hep]
        simp only [KL, hset p (by omega), hwr]
        split
        · rename_i hl
          have nb : ∀ b, Hits e.wr b → ¬ Hits ep.wr b := fun b h1 h2 => by
            have hbef := commOK_spec hc i p e ep hip he hep (clash_wr h1 (.inr h2))
            simp only [Nat.zero_add] at hbef
            have : listed.getD i false = true := before_listed hcl hbef (fun o' ho' => by rw [hop] at ho'; cases ho'; exact hcl p op hop hl)
            rw [hn] at this; cases this
          by_cases h1 : Hits ep.wr b
          · have h2 : ¬ Hits e.wr b := fun h => nb b h h1
            rw [setw_get_ne h2]
            exact setw_get_eq h1 (by rw [KL_length, KL_length])
          · rw [setw_get_ne h1, ih]
            by_cases h2 : Hits e.wr b
            · exact setw_get_eq h2 (by rw [setw_length])
            · rw [setw_get_ne h2, setw_get_ne h2, setw_get_ne h1]
        · exact ih
      · have : p = i := by omega
        subst this
        simp only [KL, hself, if_true, hn, hwri]
        rw [low p (Nat.le_refl _)]
        rfl
  exact List.ext_getElem? (high ops.size hi (Nat.le_refl _))

theorem KL_all (h : ∀ i, i < ops.size → listed.getD i false = true) : ∀ p, p ≤ ops.size → KL es listed K0 p = KAt es K0 p
  | 0, _ => rfl
  | p + 1, hp => by
    simp only [KL, KAt]
    rw [if_pos (h p (by omega)), KL_all h p (by omega)]
theorem KL_none (h : ∀ i, listed.getD i false = false) : ∀ p, KL es listed K0 p = K0
  | 0 => rfl
  | p + 1 => by
    simp only [KL]
    rw [if_neg (by rw [h p]; simp), KL_none h p]

end

section
variable {P : Program} {G : List (Nat × D)} {fn : Func} {rd : Bool} {E : En P G fn rd} {t : List (Nat × SV)} {H K : List SObj} {k : List Item}

structure ValE (P : Program) (G : List (Nat × D)) (N m : Nat) (all : Array Oper) (o : Oper) (t : List (Nat × SV)) (K : List SObj) (e : Eff) : Prop where
  dst : dstOK N o.dst = true
  how : (swant all t o.guard = some false ∧ e = ⟨sU, [], none⟩) ∨ (swant all t o.guard = some true ∧
    ∀ K', K'.length = K.length → (∀ b, b ∈ e.foot ∨ Hits e.wr b → K'[b]? = K[b]?) → OpEff P G m o (evalS G t) K' e)

inductive DrawsE (P : Program) (G : List (Nat × D)) (N m : Nat) (all : Array Oper) : List Oper → List (Nat × SV) → List SObj → List Eff → List (Nat × SV) → List SObj → Prop
  | nil (t : List (Nat × SV)) (K : List SObj) : DrawsE P G N m all [] t K [] t K
  | cons {o : Oper} {rest : List Oper} {t t' : List (Nat × SV)} {K K' : List SObj} {e : Eff} {es : List Eff} : ValE P G N m all o t K e → DrawsE P G N m all rest (tput t o.dst e.val) (setw K e.wr) es t' K' → DrawsE P G N m all (o :: rest) t K (e :: es) t' K'

theorem KAt_cons (e : Eff) (es : List Eff) (K : List SObj) : ∀ i, KAt (e :: es) K (i + 1) = KAt es (setw K e.wr) i
  | 0 => by simp [KAt, wrAt]
  | i + 1 => by rw [KAt, KAt_cons e es K i]; simp [KAt, wrAt]

theorem drawsE_vals {N m : Nat} {all : Array Oper} {rest : List Oper} {t t' : List (Nat × SV)} {K K' : List SObj} {es : List Eff} (h : DrawsE P G N m all rest t K es t' K') :
    es.length = rest.length ∧ t' = tAt rest (es.map (·.val)) t rest.length ∧ K' = KAt es K rest.length ∧ ∀ (i : Nat) o, rest[i]? = some o → ∃ e, es[i]? = some e ∧ ValE P G N m all o (tAt rest (es.map (·.val)) t i) (KAt es K i) e := by
  induction h with
  | nil t K => exact ⟨rfl, rfl, rfl, fun i o h => by simp at h⟩
  | @cons o rest t t' K K' e es hv _ ih =>
    obtain ⟨h1, h2, h3, h4⟩ := ih
    refine ⟨by simp [h1], ?_, ?_, fun i o' ho' => ?_⟩
    · rw [List.length_cons, List.map_cons, tAt_cons]; exact h2
    · rw [List.length_cons, KAt_cons]; exact h3
    · cases i with
      | zero => simp at ho'; subst ho'; exact ⟨e, by simp, hv⟩
      | succ i =>
        simp at ho'
        obtain ⟨e', a, b⟩ := h4 i o' ho'
        exact ⟨e', by simpa using a, by rw [List.map_cons, tAt_cons, KAt_cons]; exact b⟩

theorem Mid.putE {ops : Array Oper} {vals : List SV} {listed : Array Bool} {a : Act} {w w' : World} {I I' : Imm} {β β' : List Bnd} {K' : List SObj} (hu : Uniq ops) (h : Mid E ops vals t K listed a w I β) {i : Nat} {o : Oper} (ho : ops[i]? = some o)
    (hb : ∀ j ∈ befores o, listed.getD j false = true) (hd : dstOK fn.ntmps o.dst = true) {v : Value} {s : SV} (hs : vals[i]? = some s)
    (hv : Rep w' I' β' v s) (hH : HeapOK G w' I' β' K') (he : Ext E.H.length w I β K w' I' β' K') (hk : KeepsD β.length β β') (hl : K'.length = K.length) : Mid E ops vals t K' (listed.setIfInBounds i true) (a.put o.dst v) w' I' β' := by
  have hi : i < listed.size := by
    rw [h.lsize]
    rcases Nat.lt_or_ge i ops.size with h' | h'
    · exact h'
    · simp [Array.getElem?_eq_none h'] at ho
  have hsz : (a.put o.dst v).tmps.size = fn.ntmps := by cases o.dst <;> simp [Act.put, h.size]
  have same : ∀ d, o.dst ≠ some d → (a.put o.dst v).tmps.getD d undef = a.tmps.getD d undef := by
    intro d hne
    cases hod : o.dst with
    | none => rfl
    | some m =>
      simp only [Act.put]
      rw [Array.getD_eq_getD_getElem?, Array.getD_eq_getD_getElem?, Array.getElem?_setIfInBounds_ne (fun e => hne (by rw [hod, e]))]
  have mine : ∀ d, o.dst = some d → (a.put o.dst v).tmps.getD d undef = v := by
    intro d hod
    rw [hod] at hd ⊢
    have : d < a.tmps.size := by rw [h.size]; simpa [dstOK] using hd
    simp [Act.put, Array.getD, this]
  have mono : ∀ {v s}, Rep w I β v s → Rep w' I' β' v s := fun hr => hr.monoD he.imm he.cell hk hr.under
  refine ⟨hH, fun j p d hp hpd hl => ?_, fun d hno => ?_, hsz, by cases o.dst <;> exact h.defers.ext he, h.ext.trans he, by rw [hl]; exact h.hlen, by simp [h.lsize], fun j p hp hl j' hj' => ?_⟩
  · by_cases e : i = j
    · subst e
      rw [ho] at hp; cases hp
      rw [mine d hpd, hs]
      exact hv
    · rw [getD_set_ne e] at hl
      rw [same d (fun hod => e (hu.uniq i j o p d ho hp hod hpd))]
      exact mono (h.wrote j p d hp hpd hl)
  · have hne : o.dst ≠ some d := fun hod => by have := hno i o ho hod; rw [getD_set_self hi] at this; cases this
    rw [same d hne]
    refine mono (h.old d (fun j p hp hpd => ?_))
    have := hno j p hp hpd
    by_cases e : i = j
    · subst e; rw [getD_set_self hi] at this; cases this
    · rwa [getD_set_ne e] at this
  · by_cases e : i = j
    · subst e
      rw [ho] at hp; cases hp
      have := hb j' hj'
      by_cases e' : i = j'
      · subst e'; exact getD_set_self hi
      · rw [getD_set_ne e']; exact this
    · rw [getD_set_ne e] at hl
      have := h.closed j p hp hl j' hj'
      by_cases e' : i = j'
      · subst e'; exact getD_set_self hi
      · rw [getD_set_ne e']; exact this

theorem mid_anyE {ops : Array Oper} {es : List Eff} {K0 : List SObj} {m : Nat} (hm : E.H.length ≤ m) (hu : Uniq ops) (hc : commOK ops 0 es = true) (hlen : es.length = ops.size)
    (hvals : ∀ (i : Nat) o, ops[i]? = some o → ∃ e, es[i]? = some e ∧ ValE P G fn.ntmps m ops o (tAt ops.toList (es.map (·.val)) t i) (KAt es K0 i) e) :
    ∀ (fuel : Nat) (listed : Array Bool) (a : Act) (w : World) (I : Imm) (β : List Bnd), Mid E ops (es.map (·.val)) t (KL es listed K0 ops.size) listed a w I β →
      (∀ b, m ≤ b → (KL es listed K0 ops.size)[b]? = some .dead → β[b]? = some dummyB) → unlisted listed ≤ fuel →
      wpAny P .any ops (fun e a' w' => e = .normal ∧ ∃ I' β', Sim E (tAt ops.toList (es.map (·.val)) t ops.size) (KAt es K0 ops.size) a' w' I' β') fuel listed a w := by
  have fin : ∀ (listed : Array Bool) (a : Act) (w : World) (I : Imm) (β : List Bnd), Mid E ops (es.map (·.val)) t (KL es listed K0 ops.size) listed a w I β → (∀ i, i < ops.size → listed.getD i false = true) → Sim E (tAt ops.toList (es.map (·.val)) t ops.size) (KAt es K0 ops.size) a w I β := by
    intro listed a w I β h hall
    rw [KL_all hall _ (Nat.le_refl _)] at h
    refine ⟨h.heap, fun d => ?_, h.size, h.defers, h.ext, h.hlen⟩
    have lt : ∀ (j : Nat) p, ops[j]? = some p → j < ops.size := fun j p hp => by
      rcases Nat.lt_or_ge j ops.size with h' | h'
      · exact h'
      · simp [Array.getElem?_eq_none h'] at hp
    by_cases hw : ∃ (j : Nat) (p : Oper), ops[j]? = some p ∧ p.dst = some d
    · obtain ⟨j, p, hp, hpd⟩ := hw
      rw [tAt_written hu _ hp hpd _ (lt j p hp)]
      exact h.wrote j p d hp hpd (hall j (lt j p hp))
    · rw [tAt_old _ _ (fun j p _ hp hpd => hw ⟨j, p, hp, hpd⟩)]
      exact h.old d (fun j p hp hpd => absurd ⟨j, p, hp, hpd⟩ hw)
  intro fuel
  induction fuel with
  | zero =>
    intro listed a w I β h _ hf
    have hall : ∀ i, i < ops.size → listed.getD i false = true := by
      intro i hi
      have hli : i < listed.size := by rw [h.lsize]; exact hi
      cases hx : listed.getD i false with
      | true => rfl
      | false => have := unlisted_set hli hx; omega
    refine ⟨?_, rfl, I, β, fin listed a w I β h hall⟩
    cases hr : Region.ready .any ops listed with
    | nil => rfl
    | cons x l =>
      exfalso
      obtain ⟨o, ho, hn, _⟩ := ready_spec h.lsize (i := x) (by rw [hr]; simp)
      have : x < ops.size := by
        rcases Nat.lt_or_ge x ops.size with h' | h'
        · exact h'
        · simp [Array.getElem?_eq_none h'] at ho
      rw [hall x this] at hn; cases hn
  | succ fuel ih =>
    intro listed a w I β h hph hf
    refine ⟨fun hr => ⟨rfl, I, β, fin listed a w I β h (ready_all hu h.lsize hr)⟩, fun i hi => ?_⟩
    obtain ⟨o, ho, hn, hb⟩ := ready_spec h.lsize hi
    obtain ⟨e, he, hval⟩ := hvals i o ho
    have hios : i < ops.size := by
      rcases Nat.lt_or_ge i ops.size with h' | h'
      · exact h'
      · simp [Array.getElem?_eq_none h'] at ho
    have hil : i < listed.size := by rw [h.lsize]; exact hios
    have hcount := unlisted_set hil hn
    have hsv : (es.map (·.val))[i]? = some e.val := by simp [he]
    have hset := KL_set (K0 := K0) hc h.closed hios he hn hlen h.lsize
    have next : ∀ (v : Value) (w' : World) (I' : Imm) (β' : List Bnd), Rep w' I' β' v e.val → Gain G m w I β (KL es listed K0 ops.size) e.wr w' I' β' →
        wpAny P .any ops (fun e a' w' => e = .normal ∧ ∃ I' β', Sim E (tAt ops.toList (es.map (·.val)) t ops.size) (KAt es K0 ops.size) a' w' I' β') fuel (listed.setIfInBounds i true) (a.put o.dst v) w' := by
      intro v w' I' β' h1 h2
      refine ih _ _ _ I' β' ?_ ?_ (by omega)
      · rw [hset]
        exact h.putE hu ho hb hval.dst hsv h1 h2.heap (h2.ext.weaken hm) h2.keep (setw_length _ _)
      · rw [hset]
        intro b hmb hdead
        by_cases hh : Hits e.wr b
        · obtain ⟨ob, hob⟩ := hh
          obtain ⟨ee, hee⟩ : ∃ x, β'[b]? = some x := ⟨β'[b]'(by rw [h2.heap.len]; exact lt_of_getElem? hdead), List.getElem?_eq_getElem _⟩
          -- a dead object that was written stays what it was
          rw [hob] at hdead
          simp only [setw] at hdead
          have hlt : b < (KL es listed K0 ops.size).length := by have := lt_of_getElem? hdead; simpa using this
          rw [List.getElem?_set_self hlt] at hdead
          cases hdead
          exact absurd rfl (commOK_live hc i e b _ he hob)
        · rw [setw_get_ne hh] at hdead
          exact h2.dum b (hph b hmb hdead) (fun o' ho' => hh ⟨o', ho'⟩)
    unfold wpOp
    rw [ho]
    simp only
    rcases hval.how with ⟨hw, rfl⟩ | ⟨hw, hop⟩
    · rw [h.want hu ho hn hb hw]
      exact next undef w I β (.imm (.val _)) ⟨h.heap, .refl, .refl _ _, fun b hb _ => hb⟩
    · rw [h.want hu ho hn hb hw]
      simp only [if_true]
      left
      have hagree : ∀ b, b ∈ e.foot ∨ Hits e.wr b → (KL es listed K0 ops.size)[b]? = (KAt es K0 i)[b]? := fun b ht => by
        have := KL_at (K0 := K0) hc h.closed ho he hn hb hlen ht ops.size (Nat.le_refl _)
        rwa [show min ops.size i = i by omega] at this
      have hrun := hop (KL es listed K0 ops.size) (by rw [KL_length, KAt_length]) hagree a.eval w I β h.heap hph (fun x hx => h.eval hu ho hn hb x hx)
      unfold Oper.wp
      rcases hrun with ⟨n, v, w', I', β', h1, h2, h3, h4⟩ | ⟨f, vs, h1, h2⟩
      · rw [h1]
        rcases h2 with rfl | ⟨rfl, rfl⟩
        · exact next v w' I' β' h3 h4
        · exact next undef w' I' β' h3 h4
      · rw [h1]
        refine h2.mono ?_
        rintro en w' ⟨v, I', β', rfl, h3, h4⟩
        exact next v w' I' β' h3 h4

/-- In a statement in an open order, with effects: the operations 'rest' are still to be given what they do. -/
structure SWe (E : En P G fn rd) (m : Nat) (all : Array Oper) (rest : List Oper) (k : List Item) (t : List (Nat × SV)) (K : List SObj) (done : List Eff) : Prop where
  run : ∃ es t' K', DrawsE P G fn.ntmps m all rest t K es t' K' ∧ commOK all 0 (done ++ es) = true ∧ SW E k t' K'

theorem heap_dead {w : World} {I : Imm} {β : List Bnd} (hH : HeapOK G w I β H) : ∀ q, HeapOK G w I (β ++ List.replicate q dummyB) (H ++ List.replicate q .dead) ∧ ∀ m, Ext m w I β H w I (β ++ List.replicate q dummyB) (H ++ List.replicate q .dead)
  | 0 => by simp only [List.replicate_zero, List.append_nil]; exact ⟨hH, fun _ => .refl⟩
  | q + 1 => by
    obtain ⟨h1, h2⟩ := heap_dead hH q
    have hp := h1.push (o := .dead) (x := dummyB) trivial (fun b c hc => by simp [dummyB, Bnd.block] at hc)
    have he : ∀ m, Ext m w I (β ++ List.replicate q dummyB) (H ++ List.replicate q .dead) w I _ _ := fun m => Ext.push (m := m) (o := .dead) (x := dummyB) h1 (fun c hc => by simp [dummyB, Bnd.block] at hc)
    rw [List.append_assoc, List.append_assoc, ← List.replicate_succ', ← List.replicate_succ'] at hp
    refine ⟨hp, fun m => ?_⟩
    have := (h2 m).trans (he m)
    rwa [List.append_assoc, List.append_assoc, ← List.replicate_succ', ← List.replicate_succ'] at this

/-- q objects are going to be made. -/
theorem swe_start (q : Nat) {id : Nat} {all : Array Oper} (hm : P.follows .mixedOrders = true) (hdep : depOK all = true) (h : SWe E H.length all all.toList k t (H ++ List.replicate q .dead) []) : SW E (.code (.region id all true) :: k) t H := by
  obtain ⟨es, t', K', hd, hc, hsw⟩ := h.run
  obtain ⟨hl, rfl, rfl, hvals⟩ := drawsE_vals hd
  rw [List.nil_append] at hc
  have hu := uniq_of hdep
  refine ⟨fun a w I β cs hs => ?_⟩
  have hH1 : HeapOK G { w with drawn := w.drawn + 1 } I β H := hs.heap.grow (fun _ _ => rfl) (fun _ _ h => h) (fun _ _ h => .inl h) hs.heap.inI
  have hE1 : Ext H.length w I β H { w with drawn := w.drawn + 1 } I β H := .grow hs.heap (fun _ _ => rfl) (Nat.le_refl _) (fun _ _ h => h) (fun _ _ h => .inl h)
  obtain ⟨hH, hE2⟩ := heap_dead hH1 q
  have hE := hE1.trans (hE2 H.length)
  have none : ∀ j, (Array.replicate all.size false).getD j false = false := fun j => by
    rw [Array.getD_eq_getD_getElem?, Array.getElem?_replicate]; split <;> rfl
  have mid : Mid E all (es.map (·.val)) t (KL es (Array.replicate all.size false) (H ++ List.replicate q .dead) all.size) (Array.replicate all.size false) a { w with drawn := w.drawn + 1 } I (β ++ List.replicate q dummyB) := by
    rw [KL_none none]
    refine ⟨hH, fun j p d _ _ hl => ?_, fun d _ => (hs.tmps d).ext (by rw [hs.heap.len]; exact hE), hs.size, hs.defers.ext hE, hs.ext.trans (hE.weaken hs.hlen), by have := hs.hlen; simp; omega, by simp, fun i o _ hl => ?_⟩
    · rw [none] at hl; cases hl
    · rw [none] at hl; cases hl
  have hph : ∀ b, H.length ≤ b → (KL es (Array.replicate all.size false) (H ++ List.replicate q .dead) all.size)[b]? = some .dead → (β ++ List.replicate q dummyB)[b]? = some dummyB := by
    intro b hb hdead
    rw [KL_none none] at hdead
    have hlt := lt_of_getElem? hdead
    simp at hlt
    rw [List.getElem?_append_right (by rw [hs.heap.len]; exact hb), List.getElem?_replicate, if_pos (by rw [hs.heap.len]; omega)]
  have hcnt : unlisted (Array.replicate all.size false) ≤ all.size := by
    unfold unlisted
    exact Nat.le_trans List.countP_le_length (by simp)
  have hany := mid_anyE hs.hlen hu hc (by simpa using hl) (fun i o ho => hvals i o (by simpa using ho)) all.size _ a _ I _ mid hph hcnt
  have hops := wpAny_sound (md := .any) all.size (w.tape w.drawn (.order E.base.fn id)) _ a _ hany
  obtain ⟨a', w', ⟨I', β', hsim⟩, harr⟩ := wpOps_run (b := E.base) (ro := E.ro) (k := k) (cs := cs) (noDefer_of hdep) _ a _ hops
  refine .of_steps (.head rstep_region_draw ?_) (hsw.run a' w' I' β' cs ?_)
  · simp only [Region.schedule, hm, Bool.true_or, if_true]
    exact harr
  · simpa using hsim

variable {m : Nat} {all : Array Oper} {o : Oper} {rest : List Oper} {done : List Eff}

theorem swe_nil (hc : commOK all 0 done = true) (h : SW E k t K) : SWe E m all [] k t K done := ⟨[], t, K, .nil t K, by simpa using hc, h⟩
theorem swe_val {e : Eff} (hv : ValE P G fn.ntmps m all o t K e) (h : SWe E m all rest k (tput t o.dst e.val) (setw K e.wr) (done ++ [e])) : SWe E m all (o :: rest) k t K done := by
  obtain ⟨es, t', K', h1, h2, h3⟩ := h.run
  exact ⟨e :: es, t', K', .cons hv h1, by simpa using h2, h3⟩
theorem swe_skip (hw : swant all t o.guard = some false) (hd : dstOK fn.ntmps o.dst = true) (h : SWe E m all rest k (tput t o.dst sU) K (done ++ [⟨sU, [], none⟩])) : SWe E m all (o :: rest) k t K done :=
  swe_val ⟨hd, .inl ⟨hw, rfl⟩⟩ h
theorem swe_op (e : Eff) (hw : swant all t o.guard = some true) (hd : dstOK fn.ntmps o.dst = true) (hm : m ≤ K.length)
    (hop : ∀ K', K'.length = K.length → (∀ b, b ∈ e.foot ∨ Hits e.wr b → K'[b]? = K[b]?) → sop P o.op (evalS G t) K' = some (e.val, setw K' e.wr))
    (h : SWe E m all rest k (tput t o.dst e.val) (setw K e.wr) (done ++ [e])) : SWe E m all (o :: rest) k t K done :=
  swe_val ⟨hd, .inr ⟨hw, fun K' hl ha => opEff_sop (by omega) (hop K' hl ha)⟩⟩ h
theorem swe_new (nx : Nat) {r : SV} {ob : SObj} (hw : swant all t o.guard = some true) (hd : dstOK fn.ntmps o.dst = true) (hm : m ≤ nx) (hnx : K[nx]? = some .dead) (hr : r.isNew K.length = true) (hob : ob.under K.length = true)
    (hop : ∀ K', K'.length = K.length → sop P o.op (evalS G t) K' = some (r, K' ++ [ob]))
    (h : SWe E m all rest k (tput t o.dst (r.mv K.length nx)) (K.set nx ob) (done ++ [⟨r.mv K.length nx, [], some (nx, ob)⟩])) : SWe E m all (o :: rest) k t K done :=
  swe_val (e := ⟨r.mv K.length nx, [], some (nx, ob)⟩) ⟨hd, .inr ⟨hw, fun K' hl ha => by
    have := opEff_new (G := G) (K := K') (nx := nx) (ob := ob) (m := m) (o := o) (ev := evalS G t) (r := r) hm (by rw [ha nx (.inr ⟨ob, rfl⟩)]; exact hnx) (hop K' hl) (by rw [hl]; exact hr) (by rw [hl]; exact hob)
    rw [hl] at this
    exact this⟩⟩ h
theorem swe_pure {fx : Operand} {args : Array Operand} {tys : Array TypeId} {f : FuncId} {first captured : List SV} {r : SV} (hop : o.op = .call ⟨.value fx, args, tys⟩) (hw : swant all t o.guard = some true) (hd : dstOK fn.ntmps o.dst = true)
    (hf : evalS G t fx = .fn (.func f) first captured) (hb : hasBody P f = true) {argv : List SV} (hargs : first ++ args.toList.map (evalS G t) ++ captured = argv) (hm : m ≤ K.length) (hc : SPure P G f argv r)
    (h : SWe E m all rest k (tput t o.dst r) K (done ++ [⟨r, [], none⟩])) : SWe E m all (o :: rest) k t K done :=
  swe_val (e := ⟨r, [], none⟩) ⟨hd, .inr ⟨hw, fun K' hl _ => opEff_pure (by omega) hop hf hb hargs hc⟩⟩ h
theorem swe_pre (n : Nat) {fx : Operand} {args : Array Operand} {tys : Array TypeId} {f : FuncId} {first captured : List SV} {r : SV} {wr : Option (Nat × SObj)} (hop : o.op = .call ⟨.value fx, args, tys⟩) (hw : swant all t o.guard = some true) (hd : dstOK fn.ntmps o.dst = true)
    (hf : evalS G t fx = .fn (.func f) first captured) (hb : hasBody P f = true) {argv : List SV} (hargs : first ++ args.toList.map (evalS G t) ++ captured = argv) (hm : m ≤ K.length) (hn : n ≤ K.length) (hwr : ∀ b ob, wr = some (b, ob) → b < n)
    (hc : SPre P G f argv (K.take n) (fun r' H1 => r' = r ∧ H1 = setw (K.take n) wr))
    (h : SWe E m all rest k (tput t o.dst r) (setw K wr) (done ++ [⟨r, List.range n, wr⟩])) : SWe E m all (o :: rest) k t K done :=
  swe_val (e := ⟨r, List.range n, wr⟩) ⟨hd, .inr ⟨hw, fun K' hl ha => by
    have ht : K'.take n = K.take n := by
      apply List.ext_getElem?
      intro b
      rw [List.getElem?_take, List.getElem?_take]
      split
      · rename_i hb; exact ha b (.inl (List.mem_range.2 hb))
      · rfl
    exact opEff_pre n (by omega) hop hf hb hargs hwr (by omega) (by rw [ht]; exact hc)⟩⟩ h

/-! ### evaluation -/
def seff (P : Program) (op : Op) (ev : Operand → SV) (K : List SObj) (nx : Nat) : Option (Eff × Bool) :=
  match op with
  | .load t a => match ev a with
    | .ptr b o => match sopLoad P t K (.ptr b o) with
      | some r => some (⟨r, [b], none⟩, false)
      | none => none
    | x => match sopLoad P t [] x with
      | some r => some (⟨r, [], none⟩, false)
      | none => none
  | .store t a x => match ev a with
    | .ptr b o => match sopStore P t K (.ptr b o) (ev x) with
      | some K' => match K'[b]? with
        | some ob => some (⟨.any, [b], some (b, ob)⟩, false)
        | none => none
      | none => none
    | _ => none
  | .alloc e => match pzero P e with
    | some z => some (⟨.ptr nx 0, [], some (nx, .cells (zcells z))⟩, true)
    | none => none
  | op => match sval P op ev [] with
    | some r => some (⟨r, [], none⟩, false)
    | none => none

theorem sval_nil {op : Op} {ev : Operand → SV} {r : SV} (h : sval P op ev [] = some r) (H : List SObj) : sop P op ev H = some (r, H) := by
  refine sval_sop ?_
  cases op <;> simp only [sval] at h ⊢ <;> first | (cases h; done) | exact h | skip
  case load t a =>
    revert h
    generalize ev a = x
    intro h
    unfold sopLoad at h ⊢
    split at h <;> first | (cases h; done) | skip
    exact h
  case slice ty x lo hi mx =>
    cases mx with
    | none => exact h
    | some _ => simp at h
  case lookup t x ix ok =>
    revert h
    generalize ev x = m
    generalize ev ix = key
    intro h
    unfold slook at h ⊢
    split at h <;> first | (cases h; done) | skip
    split at h <;> first | (cases h; done) | skip
    · split at h <;> first | (cases h; done) | skip
      simp_all
    · split at h <;> first | (cases h; done) | skip
      simp_all
  case buildSlice t n ps =>
    cases n with
    | zero => simp at h
    | succ n =>
      simp only at h ⊢
      split at h <;> first | (cases h; done) | skip
      rename_i r' H' hs
      cases h
      have : ∀ H, sbuildSlice P t (n + 1) (ps.toList.map fun p => (p.1, ev p.2)) H = some (r, H) := by
        intro H
        unfold sbuildSlice at hs ⊢
        split at hs <;> first | (cases hs; done) | skip
        split at hs <;> first | (cases hs; done) | skip
        split at hs <;> first | (cases hs; done) | skip
        rename_i hcond
        simp only [Nat.add_eq_zero_iff, Nat.succ_ne_self, and_false, if_false] at hs
        split at hs <;> first | (cases hs; done) | skip
        split at hs <;> first | (cases hs; done) | skip
        cases hs
        simp_all
      rw [this H]
  case call c =>
    obtain ⟨callee, args, tys⟩ := c
    cases callee with
    | value f => simp at h
    | invoke r m => simp at h
    | builtin b =>
      simp only at h ⊢
      split at h <;> first | (cases h; done) | skip
      · rename_i x t h1 h2
        cases hz : slen P t [] x with
        | none => simp [hz] at h
        | some v =>
          have : slen P t H x = some v := by
            unfold slen at hz ⊢
            split at hz <;> first | (cases hz; done) | skip
            all_goals simp_all
            split at hz <;> first | (cases hz; done) | skip
            all_goals simp_all
          simp [hz] at h
          simp [this, h]
      · rename_i h1; exact h
      · rename_i h1; exact h

end
end Go.Sh

/- The shadow machine, part 25: evaluation of statements in an open order with effects. -/
namespace Go.Sh

section
variable {P : Program} {G : List (Nat × D)} {fn : Func} {rd : Bool} {E : En P G fn rd} {t : List (Nat × SV)} {H K : List SObj} {k : List Item}
variable {m : Nat} {all : Array Oper} {o : Oper} {rest : List Oper} {done : List Eff}

theorem swe_same {t' : List (Nat × SV)} (ht : ∀ n, tget t' n = tget t n) (h : SWe E m all rest k t' K done) : SWe E m all rest k t K done := by
  obtain ⟨es, t1, K1, h1, h2, h3⟩ := h.run
  have eval : ∀ {t t' : List (Nat × SV)}, (∀ n, tget t' n = tget t n) → evalS G t' = evalS G t := fun {t t'} ht => funext fun x => by cases x <;> simp [evalS, ht]
  have key : ∀ {rest : List Oper} {t1' t1 tA : List (Nat × SV)} {K1 K2 : List SObj} {es : List Eff}, DrawsE P G fn.ntmps m all rest t1' K1 es tA K2 → (∀ n, tget t1' n = tget t1 n) → ∃ tB, DrawsE P G fn.ntmps m all rest t1 K1 es tB K2 ∧ ∀ n, tget tA n = tget tB n := by
    intro rest t1' t1 tA K1 K2 es h
    induction h generalizing t1 with
    | nil t0 K0 => intro ht; exact ⟨t1, .nil t1 K0, ht⟩
    | @cons o rest ta tb Ka Kb e es hv _ ih =>
      intro ht
      have hv' : ValE P G fn.ntmps m all o t1 Ka e := ⟨hv.dst, by
        rcases hv.how with ⟨h1, h2⟩ | ⟨h1, h2⟩
        · exact .inl ⟨by rw [← h1]; exact (swant_same (fun n => (ht n).symm)), h2⟩
        · exact .inr ⟨by rw [← h1]; exact (swant_same (fun n => (ht n).symm)), by rw [← eval ht]; exact h2⟩⟩
      obtain ⟨tB, g1, g2⟩ := ih (t1 := tput t1 o.dst e.val) (fun n => by
        cases hd : o.dst with
        | none => exact ht n
        | some d =>
          simp only [tput, tget]
          split
          · rfl
          · exact ht n)
      exact ⟨tB, .cons hv' g1, g2⟩
  obtain ⟨tB, g1, g2⟩ := key h1 ht
  exact ⟨es, tB, K1, g1, h2, sw_same g2 h3⟩

def isDead : Option SObj → Bool
  | some .dead => true
  | _ => false

def sgoe (E : En P G fn rd) (m : Nat) (st : List Nat) (all : Array Oper) : List Oper → List Item → List (Nat × SV) → List SObj → Nat → List Eff → Prop
  | [], k, t, K, _, done => match commOK all 0 done with
    | true => SW E k t K
    | false => SWe E m all [] k t K done
  | o :: rest, k, t, K, nx, done => match dstOK fn.ntmps o.dst && Nat.ble m K.length with
    | false => SWe E m all (o :: rest) k t K done
    | true => match gslot all t o.guard with
      | .bad => SWe E m all (o :: rest) k t K done
      | .off => match o.dst with
        | some d => sgoe E m st all rest k ((d, sU) :: t) K nx (done ++ [⟨sU, [], none⟩])
        | none => sgoe E m st all rest k t K nx (done ++ [⟨sU, [], none⟩])
      | .free => match stopOp o.op (evalS G t) st o.dst with
        | true => SWe E m all (o :: rest) k t K done
        | false => match seff P o.op (evalS G t) K nx with
          | some (e, false) => fS e.val fun r => fH st (setw K e.wr) fun K' => match o.dst with
            | some d => sgoe E m st all rest k ((d, r) :: t) K' nx (done ++ [e])
            | none => sgoe E m st all rest k t K' nx (done ++ [e])
          | some (e, true) => match isDead K[nx]? && Nat.ble m nx with
            | false => SWe E m all (o :: rest) k t K done
            | true => fS e.val fun r => fH st (setw K e.wr) fun K' => match o.dst with
              | some d => sgoe E m st all rest k ((d, r) :: t) K' (nx + 1) (done ++ [e])
              | none => sgoe E m st all rest k t K' (nx + 1) (done ++ [e])
          | none => SWe E m all (o :: rest) k t K done
      | .on g b want => BCase (wants b want)
        (match stopOp o.op (evalS G (sgbool g want :: t)) st o.dst with
        | true => SWe E m all (o :: rest) k (sgbool g want :: t) K done
        | false => match seff P o.op (evalS G (sgbool g want :: t)) K nx with
          | some (e, false) => fS e.val fun r => fH st (setw K e.wr) fun K' => match o.dst with
            | some d => sgoe E m st all rest k ((d, r) :: sgbool g want :: t) K' nx (done ++ [e])
            | none => sgoe E m st all rest k (sgbool g want :: t) K' nx (done ++ [e])
          | _ => SWe E m all (o :: rest) k (sgbool g want :: t) K done)
        (match o.dst with
        | some d => sgoe E m st all rest k ((d, sU) :: sgbool g (!want) :: t) K nx (done ++ [⟨sU, [], none⟩])
        | none => sgoe E m st all rest k (sgbool g (!want) :: t) K nx (done ++ [⟨sU, [], none⟩]))

theorem seff_op {op : Op} {ev : Operand → SV} {nx : Nat} {e : Eff} (h : seff P op ev K nx = some (e, false)) (K' : List SObj) (ha : ∀ b, b ∈ e.foot ∨ Hits e.wr b → K'[b]? = K[b]?) : sop P op ev K' = some (e.val, setw K' e.wr) := by
  have dflt : (match sval P op ev [] with | some r => some ((⟨r, [], none⟩ : Eff), false) | none => none) = some (e, false) → sop P op ev K' = some (e.val, setw K' e.wr) := by
    intro h
    split at h <;> first | (cases h; done) | skip
    rename_i r hr
    cases h
    exact sval_nil hr K'
  cases op <;> simp only [seff] at h <;> first | exact dflt h | skip
  case alloc x => split at h <;> cases h
  case load t a =>
    split at h
    · rename_i b o hx
      split at h <;> first | (cases h; done) | skip
      rename_i r hr
      cases h
      have hb := ha b (.inl (by simp))
      simp only [sop, hx, setw]
      unfold sopLoad at hr ⊢
      simp only at hr ⊢
      rw [hb, hr]; rfl
    · split at h <;> first | (cases h; done) | skip
      rename_i hne r hr
      cases h
      simp only [sop, setw]
      generalize ev a = x at hr hne
      unfold sopLoad at hr ⊢
      split at hr <;> first | (cases hr; done) | skip
      rw [hr]; rfl
  case store t a x =>
    split at h <;> first | (cases h; done) | skip
    rename_i b o hx
    split at h <;> first | (cases h; done) | skip
    rename_i K1 hr
    split at h <;> first | (cases h; done) | skip
    rename_i ob hob
    cases h
    have hb := ha b (.inl (by simp))
    simp only [sop, hx, setw]
    unfold sopStore at hr ⊢
    split at hr <;> first | (cases hr; done) | skip
    rename_i b' off new n h1 h2 h3
    cases h1
    split at hr <;> first | (cases hr; done) | skip
    rename_i cs hcs
    split at hr <;> first | (cases hr; done) | skip
    rename_i hcond
    rw [hcs] at hb
    simp only [hb]
    rw [if_pos hcond]
    cases hr
    rw [List.getElem?_set_self (lt_of_getElem? hcs)] at hob
    cases hob
    rfl

theorem seff_new {op : Op} {ev : Operand → SV} {nx : Nat} {e : Eff} (h : seff P op ev K nx = some (e, true)) : ∃ ob, e = ⟨.ptr nx 0, [], some (nx, ob)⟩ ∧ ob.under K.length = true ∧ ∀ K' : List SObj, sop P op ev K' = some (.ptr K'.length 0, K' ++ [ob]) := by
  have dflt : (match sval P op ev [] with | some r => some ((⟨r, [], none⟩ : Eff), false) | none => none) = some (e, true) → False := by
    intro h
    split at h <;> simp at h
  cases op <;> simp only [seff] at h <;> first | exact (dflt h).elim | skip
  case load t a =>
    split at h <;> (split at h <;> cases h)
  case store t a x =>
    split at h <;> first | (cases h; done) | skip
    split at h <;> first | (cases h; done) | skip
    split at h <;> cases h
  case alloc x =>
    split at h <;> first | (cases h; done) | skip
    rename_i z hz
    cases h
    refine ⟨_, rfl, ?_, fun K' => by simp only [sop, hz]; rfl⟩
    have all : ∀ l : List Value, SV.under.allUnder K.length (l.map ofVal) = true := by
      intro l
      induction l with
      | nil => rfl
      | cons v l ih =>
        simp only [List.map_cons, SV.under.allUnder, Bool.and_eq_true]
        refine ⟨?_, ih⟩
        unfold ofVal
        split
        · split <;> rfl
        · rfl
    exact all _

theorem sgoe_sound (st : List Nat) : ∀ {rest : List Oper} {t : List (Nat × SV)} {K : List SObj} {nx : Nat} {done : List Eff}, sgoe E m st all rest k t K nx done → SWe E m all rest k t K done
  | [], t, K, nx, done, h => by
    simp only [sgoe] at h
    split at h
    · rename_i hc; exact swe_nil hc h
    · exact h
  | o :: rest, t, K, nx, done, h => by
    simp only [sgoe] at h
    split at h
    · exact h
    rename_i hdm
    simp only [Bool.and_eq_true] at hdm
    obtain ⟨hd, hm⟩ := hdm
    have hm := Nat.le_of_ble_eq_true hm
    split at h
    · exact h
    · rename_i hg
      refine swe_skip (gslot_off hg) hd ?_
      cases hdst : o.dst with
      | none => rw [hdst] at h; exact sgoe_sound st h
      | some d => rw [hdst] at h; exact sgoe_sound st h
    · rename_i hg
      split at h
      · exact h
      split at h
      · rename_i e hop
        rw [fS_eq, fH_eq] at h
        refine swe_op e (gslot_free hg) hd hm (fun K' _ ha => seff_op hop K' ha) ?_
        cases hdst : o.dst with
        | none => rw [hdst] at h; exact sgoe_sound st h
        | some d => rw [hdst] at h; exact sgoe_sound st h
      · rename_i e hop
        split at h
        · exact h
        rename_i hdead
        simp only [Bool.and_eq_true] at hdead
        have hnx : K[nx]? = some .dead := by
          have := hdead.1
          unfold isDead at this
          split at this
          · assumption
          · cases this
        rw [fS_eq, fH_eq] at h
        obtain ⟨ob, rfl, hob, hs⟩ := seff_new hop
        refine swe_new nx (r := .ptr K.length 0) (gslot_free hg) hd (Nat.le_of_ble_eq_true hdead.2) hnx (by simp [SV.isNew]) hob (fun K' hl => by rw [hs K', hl]) ?_
        simp only [SV.mv, if_true]
        cases hdst : o.dst with
        | none => rw [hdst] at h; exact sgoe_sound st h
        | some d => rw [hdst] at h; exact sgoe_sound st h
      · exact h
    · rename_i g b want hg
      obtain ⟨hw, htd⟩ := gslot_on hg
      cases hwb : wants b want with
      | true =>
        rw [hwb] at h hw
        simp only [BCase] at h
        have e : b = want := by cases b <;> cases want <;> simp_all [wants]
        subst e
        refine swe_same (tget_learnt htd) ?_
        have hw' : swant all (sgbool g b :: t) o.guard = some true := by rw [swant_same (tget_learnt htd)]; exact hw
        split at h
        · exact h
        split at h
        · rename_i e hop
          rw [fS_eq, fH_eq] at h
          refine swe_op e hw' hd hm (fun K' _ ha => seff_op hop K' ha) ?_
          cases hdst : o.dst with
          | none => rw [hdst] at h; exact sgoe_sound st h
          | some d => rw [hdst] at h; exact sgoe_sound st h
        · exact h
      | false =>
        rw [hwb] at h hw
        simp only [BCase] at h
        have e : b = !want := by cases b <;> cases want <;> simp_all [wants]
        subst e
        refine swe_same (tget_learnt htd) (swe_skip (by rw [swant_same (tget_learnt htd)]; exact hw) hd ?_)
        cases hdst : o.dst with
        | none => rw [hdst] at h; exact sgoe_sound st h
        | some d => rw [hdst] at h; exact sgoe_sound st h

/-- x[i] on immutable data -/
theorem swe_index {ty e n : Nat} {x ix : Operand} {rows : List (List D)} {i : Nat} {mm : Int} {kk : IntKind} {row : List D} (hop : o.op = .indexAddr ty x ix)
    (hw : swant all t o.guard = some true) (hd : dstOK fn.ntmps o.dst = true) (hx : (evalS G t x).rows = some (n, rows)) (hi : evalS G t ix = .imm (.val (.int kk mm)))
    (hu : P.underlying ty = some (.slice e)) (hn : psize P e = some n) (hm : m ≤ K.length) (hmm : mm = (i : Int)) (hr : rows[i]? = some row)
    (h : SWe E m all rest k (tput t o.dst (.imm (.row row 0))) K (done ++ [⟨.imm (.row row 0), [], none⟩])) : SWe E m all (o :: rest) k t K done :=
  swe_op ⟨.imm (.row row 0), [], none⟩ hw hd hm (fun K' _ _ => by rw [hop]; exact sop_index hx hi hu hn hmm hr) h

/-- x[i] on an own slice -/
theorem swe_own {ty e n : Nat} {x ix : Operand} {b off len i : Nat} {mm : Int} {kk : IntKind} (hop : o.op = .indexAddr ty x ix)
    (hw : swant all t o.guard = some true) (hd : dstOK fn.ntmps o.dst = true) (hx : evalS G t x = .osl b off len) (hi : evalS G t ix = .imm (.val (.int kk mm)))
    (hu : P.underlying ty = some (.slice e)) (hn : psize P e = some n) (hm : m ≤ K.length) (hmm : mm = (i : Int)) (hr : i < len)
    (h : SWe E m all rest k (tput t o.dst (.ptr b (off + i * n))) K (done ++ [⟨.ptr b (off + i * n), [], none⟩])) : SWe E m all (o :: rest) k t K done :=
  swe_op ⟨.ptr b (off + i * n), [], none⟩ hw hd hm (fun K' _ _ => by
    subst hmm
    rw [hop]
    simp only [sop, hi, sindexAddr, hu, hn, hx]
    rw [if_pos (by omega)]
    simp [setw]) h

theorem flat_rep {α : Type} (n : Nat) (x : α) : (List.replicate n [x]).flatten = List.replicate n x := by simp

end
end Go.Sh

/- The shadow machine, part 26: append, stores into own slices, values taken as data. -/
namespace Go.Sh

def SV.solid : SV → SV
  | .asl _ kk rows => .imm (.isl kk rows)
  | .fn f first captured => .fn f (solidL first) (solidL captured)
  | .iface t v => .iface t v.solid
  | .agg cs => .agg (solidL cs)
  | .tup vs => .tup (solidL vs)
  | s => s
where solidL : List SV → List SV
  | [] => []
  | s :: r => s.solid :: solidL r

theorem solidL_length : ∀ l, (SV.solid.solidL l).length = l.length
  | [] => rfl
  | s :: r => by simp [SV.solid.solidL, solidL_length r]
theorem solidL_get : ∀ (l : List SV) (j : Nat) (h : j < l.length) (h' : j < (SV.solid.solidL l).length), (SV.solid.solidL l)[j]'h' = (l[j]'h).solid
  | s :: r, 0, _, _ => rfl
  | s :: r, j + 1, h, h' => by
    simp only [SV.solid.solidL, List.getElem_cons_succ]
    exact solidL_get r j (by simpa using h) (by simpa [SV.solid.solidL] using h')

def SObj.solid : SObj → SObj
  | .cells cs => .cells (SV.solid.solidL cs)
  | o => o

section
variable {P : Program} {G : List (Nat × D)} {fn : Func} {rd : Bool} {E : En P G fn rd} {t : List (Nat × SV)} {H : List SObj} {k : List Item}
variable {all : Array Oper} {o : Oper} {rest : List Oper}

theorem Rep.solid {w : World} {I : Imm} {β : List Bnd} {v : Value} {s : SV} (h : Rep w I β v s) : Rep w I β v s.solid := by
  induction h with
  | any v => exact .any v
  | imm h => exact .imm h
  | ptr b c off h => exact .ptr b c off h
  | osl b c off l cap h h1 h2 => exact .osl b c off l cap h h1 h2
  | asl b kk rows v u n h hu hs hle heq => exact .imm h
  | map b c h => exact .map b c h
  | yld b c h => exact .yld b c h
  | vec b n v u q h hs hle hv heq => exact .vec b n v u q h hs hle hv heq
  | vptr b n off v a q cap h hle hv heq => exact .vptr b n off v a q cap h hle hv heq
  | fn f fs cs first captured h1 h2 _ _ ih1 ih2 =>
    refine .fn f fs cs _ _ (by rw [solidL_length]; exact h1) (by rw [solidL_length]; exact h2) (fun j hj hj' => ?_) (fun j hj hj' => ?_)
    · have hj2 : j < first.length := by rw [solidL_length] at hj; exact hj
      rw [solidL_get _ _ hj2]; exact ih1 j hj2 hj'
    · have hj2 : j < captured.length := by rw [solidL_length] at hj; exact hj
      rw [solidL_get _ _ hj2]; exact ih2 j hj2 hj'
  | iface t v s _ ih => exact .iface t v _ ih
  | agg vs cs h1 _ ih =>
    refine .agg vs _ (by rw [solidL_length]; exact h1) (fun j hj hj' => ?_)
    have hj2 : j < cs.length := by rw [solidL_length] at hj; exact hj
    rw [solidL_get _ _ hj2]; exact ih j hj2 hj'
  | tup vs ss h1 _ ih =>
    refine .tup vs _ (by rw [solidL_length]; exact h1) (fun j hj hj' => ?_)
    have hj2 : j < ss.length := by rw [solidL_length] at hj; exact hj
    rw [solidL_get _ _ hj2]; exact ih j hj2 hj'

theorem tget_solid (t : List (Nat × SV)) (n : Nat) : tget (t.map fun x => (x.1, x.2.solid)) n = (tget t n).solid := by
  induction t with
  | nil => simp [tget, SV.solid]
  | cons x t ih =>
    simp only [List.map_cons, tget]
    split
    · rfl
    · exact ih

theorem ObjOK.solid {w : World} {I : Imm} {β : List Bnd} {o : SObj} {x : Bnd} (h : ObjOK w I β o x) : ObjOK w I β o.solid x := by
  cases o with
  | cells l =>
    cases x with
    | blk c =>
      obtain ⟨vs, T, a1, a2, a3, a4⟩ := h
      refine ⟨vs, T, a1, by rw [solidL_length]; exact a2, fun j hj hj' => ?_, a4⟩
      have hj2 : j < l.length := by rw [solidL_length] at hj; exact hj
      rw [solidL_get _ _ hj2]; exact (a3 j hj2 hj').solid
    | tok u => exact h
  | _ => exact h

/-- Slices that were appended to are taken as data. -/
theorem sw_solid (h : SW E k (t.map fun x => (x.1, x.2.solid)) (H.map SObj.solid)) : SW E k t H := by
  refine ⟨fun a w I β cs hs => ?_⟩
  have hget : ∀ (b : Nat) o, (H.map SObj.solid)[b]? = some o → ∃ o0, H[b]? = some o0 ∧ o = o0.solid := by
    intro b o h1
    rw [List.getElem?_map] at h1
    cases ho : H[b]? with
    | none => simp [ho] at h1
    | some o0 => simp [ho] at h1; exact ⟨o0, rfl, h1.symm⟩
  have hown : ∀ b c, owns (H.map SObj.solid) β b c → owns H β b c := by
    rintro b c ⟨o, x, h1, h2, h3, h4⟩
    obtain ⟨o0, g1, rfl⟩ := hget b o h1
    exact ⟨o0, x, g1, fun e => h2 (by rw [e]; rfl), h3, h4⟩
  refine h.run a w I β cs ⟨⟨by simp [hs.heap.len], fun b o x h1 h2 => ?_, fun b b' c h1 h2 => hs.heap.inj b b' c (hown b c h1) (hown b' c h2), hs.heap.inI, hs.heap.glob⟩, fun n => by rw [tget_solid]; exact (hs.tmps n).solid, hs.size, ?_, ?_, by simpa using hs.hlen⟩
  · obtain ⟨o0, g1, rfl⟩ := hget b o h1
    exact (hs.heap.obj b o0 x g1 h2).solid
  · obtain ⟨bs, d1, d2, d3⟩ := hs.defers
    exact ⟨bs, d1, d2, fun c hc => ⟨(d3 c hc).1, (d3 c hc).2.1, fun b hb => (d3 c hc).2.2 b (hown b c hb)⟩⟩
  · exact { hs.ext with own := fun b c ho => hs.ext.own b c (hown b c ho) }

/-- A rule that holds at every place holds within a region. -/
theorem swr_lift {t' : List (Nat × SV)} {H' : List SObj} (f : ∀ k, SW E k t' H' → SW E k t H) (h : SWr E all rest k t' H') : SWr E all rest k t H := ⟨fun j hj hd => f _ (h.run j hj hd)⟩

/-- append(s, x...), s own -/
theorem swr_append {b kk by_ e e' : Nat} {z : Value} {sx xx : Operand} {sT xT : Nat} {rows new : List (List D)} (hop : o.op = .call ⟨.builtin .append, #[sx, xx], #[sT, xT]⟩)
    (hw : swant all t o.guard = some true) (hd : dstOK fn.ntmps o.dst = true) (hs : evalS G t sx = .asl b kk rows) (hx : (evalS G t xx).rows = some (kk, new)) (hu : P.underlying sT = some (.slice e)) (hu' : P.underlying xT = some (.slice e'))
    (hk : psize P e = some kk) (hby : pbytes P e = some by_) (hz : pzero P e = some z) (hcond : by_ ≤ 65536 ∧ z.cells.size = kk) (hb : H[b]? = some (.tok kk rows.length)) (hlen : rows.length + new.length ≤ 1073741824)
    (h : SWr E all rest k (tput t o.dst (.asl b kk (rows ++ new))) (H.set b (.tok kk (rows.length + new.length)))) : SWr E all (o :: rest) k t H := by
  refine swr_op hw hd (r := .asl b kk (rows ++ new)) (H' := H.set b (.tok kk (rows.length + new.length))) ?_ (by simp) h
  rw [hop]
  simp only [sop, sbuiltin, List.map_cons, List.map_nil, sappend, hu, hu', hx, hk, hby, hz]
  rw [if_pos ⟨hcond.1, hcond.2, .inl trivial⟩]
  simp only [sappendTo, hs, hb]
  rw [if_pos ⟨trivial, trivial, trivial, hlen⟩]

variable {m : Nat} {K : List SObj} {done : List Eff}

theorem sop_storeAt {ty : Nat} {ax vx : Operand} {b off : Nat} {v zz : SV} {d r : List SV} (ha : evalS G t ax = .ptr b off) (hv : evalS G t vx = v) (hone : v.cells = some [v]) (hone' : v.one = true) (hsz : psize P ty = some 1)
    (hb : K[b]? = some (.cells (d ++ zz :: r))) (hoff : off = d.length) : sop P (.store ty ax vx) (evalS G t) K = some (.any, K.set b (.cells (d ++ v :: r))) := by
  subst hoff
  simp only [sop, sopStore, ha, hv, hone, hsz, hb]
  rw [if_pos ⟨by simp, by simp, by simp [hone']⟩]
  simp

/-- x[i] = v on an own slice, in an open order -/
theorem swe_storeAt {ty : Nat} {ax vx : Operand} {b off : Nat} {v zz : SV} {d r : List SV} (hop : o.op = .store ty ax vx) (hw : swant all t o.guard = some true) (hd : dstOK fn.ntmps o.dst = true) (ha : evalS G t ax = .ptr b off) (hv : evalS G t vx = v) (hone : v.cells = some [v]) (hone' : v.one = true) (hsz : psize P ty = some 1)
    (hm : m ≤ K.length) (hb : K[b]? = some (.cells (d ++ zz :: r))) (hoff : off = d.length)
    (h : SWe E m all rest k (tput t o.dst .any) (K.set b (.cells (d ++ v :: r))) (done ++ [⟨.any, [b], some (b, .cells (d ++ v :: r))⟩])) : SWe E m all (o :: rest) k t K done :=
  swe_op ⟨.any, [b], some (b, .cells (d ++ v :: r))⟩ hw hd hm (fun K' _ hagree => by
    rw [hop, sop_storeAt ha hv hone hone' hsz (by rw [hagree b (.inl (by simp))]; exact hb) hoff]
    rfl) h
theorem swr_storeAt {ty : Nat} {ax vx : Operand} {b off : Nat} {v zz : SV} {d r : List SV} (hop : o.op = .store ty ax vx) (hw : swant all t o.guard = some true) (hd : dstOK fn.ntmps o.dst = true) (ha : evalS G t ax = .ptr b off) (hv : evalS G t vx = v) (hone : v.cells = some [v]) (hone' : v.one = true) (hsz : psize P ty = some 1)
    (hb : H[b]? = some (.cells (d ++ zz :: r))) (hoff : off = d.length)
    (h : SWr E all rest k (tput t o.dst .any) (H.set b (.cells (d ++ v :: r)))) : SWr E all (o :: rest) k t H :=
  swr_op hw hd (by rw [hop]; exact sop_storeAt ha hv hone hone' hsz hb hoff) (by simp) h

end
end Go.Sh

/- The shadow machine, part 27: slices that are appended to and written: nobody else sees them till they are shut. -/
namespace Go.Sh
section
variable {P : Program} {G : List (Nat × D)} {w : World} {I : Imm} {β : List Bnd} {H : List SObj}

theorem HeapOK.moveVec {m n n' b : Nat} {o0 o1 : SObj} {u u' : Value} {w' : World} {I' : Imm} (h : HeapOK G w I β H) (hb : H[b]? = some o0) (hod : o0 ≠ .dead) (hx : β[b]? = some (.tok u))
    (hu : ∃ a cap a' cap', u = .slice a n cap ∧ u' = .slice a' n' cap') (hnn : n < n') (hsz : w.heap.size ≤ w'.heap.size)
    (hold : ∀ c, c < w.heap.size → (Bnd.tok u).block ≠ some c → w'.heap[c]? = w.heap[c]?)
    (hcell : ∀ c o, I c o → w'.cell? ⟨c, o, none⟩ = w.cell? ⟨c, o, none⟩)
    (hI : ∀ c o, I c o → I' c o) (hI' : ∀ c o, I' c o → I c o ∨ (Bnd.tok u').block = some c) (hlt : ∀ c o, I' c o → c < w'.heap.size)
    (hblk : ∀ c, (Bnd.tok u').block = some c → (Bnd.tok u).block = some c ∨ w.heap.size ≤ c)
    (ho : ObjOK w' I' (β.set b (.tok u')) o1 (.tok u')) (hen : SameEnv w w' := by exact ⟨rfl, rfl⟩) :
    HeapOK G w' I' (β.set b (.tok u')) (H.set b o1) ∧ Ext m w I β H w' I' (β.set b (.tok u')) (H.set b o1) := by
  have hblt := lt_of_getElem? hb
  have hxlt := lt_of_getElem? hx
  have hkeep : ∀ m, Keeps m β (β.set b (.tok u')) := by
    intro m b' x _ hb'
    by_cases e : b' = b
    · subst e
      rw [hx] at hb'; cases hb'
      obtain ⟨a, cap, a', cap', rfl, rfl⟩ := hu
      exact ⟨_, List.getElem?_set_self hxlt, .inr ⟨_, rfl, .inr ⟨_, _, _, _, _, _, rfl, rfl, hnn⟩⟩⟩
    · exact ⟨x, by rw [List.getElem?_set_ne (Ne.symm e)]; exact hb', x.le_refl⟩
  have key : ∀ b' c', owns (H.set b o1) (β.set b (.tok u')) b' c' → (b' ≠ b ∧ owns H β b' c') ∨ (b' = b ∧ (Bnd.tok u').block = some c') := by
    rintro b' c' ⟨p, x, h1, h2, h3, h4⟩
    by_cases e : b' = b
    · subst e
      rw [List.getElem?_set_self hxlt] at h3; cases h3
      exact .inr ⟨rfl, h4⟩
    · rw [List.getElem?_set_ne (Ne.symm e)] at h1 h3; exact .inl ⟨e, p, x, h1, h2, h3, h4⟩
  have hownb : ∀ c, (Bnd.tok u).block = some c → owns H β b c := fun c hc => ⟨_, _, hb, hod, hx, hc⟩
  have notblk : ∀ b' c, b' ≠ b → owns H β b' c → (Bnd.tok u).block ≠ some c := fun b' c hne ho hc => hne (h.inj b' b c ho (hownb c hc))
  refine ⟨{ len := by simp [h.len], obj := ?_, inj := ?_, inI := hlt, glob := fun g d hg => (h.glob g d hg).mono hI hcell },
    { imm := hI, cell := hcell, keep := hkeep m, old := fun c hc hn => hold c hc (fun e => hn b (hownb c e)), own := ?_, new := ?_, size := hsz, env := hen }⟩
  · intro b' p x h1 h2
    by_cases e : b' = b
    · subst e
      rw [List.getElem?_set_self hxlt] at h2; cases h2
      rw [List.getElem?_set_self hblt] at h1; cases h1
      exact ho
    · rw [List.getElem?_set_ne (Ne.symm e)] at h1 h2
      by_cases hpd : p = .dead
      · subst hpd; trivial
      · have hob := h.obj b' p x h1 h2
        refine hob.mono (fun c hc => hold c (hob.block_lt hpd hc) (notblk b' c e ⟨p, x, h1, hpd, h2, hc⟩)) hI hcell (hkeep _) ?_
        intro c o hc hi
        rcases hI' c o hi with h3 | h3
        · exact h3
        · rcases hblk c h3 with h4 | h4
          · exact absurd h4 (notblk b' c e ⟨p, x, h1, hpd, h2, hc⟩)
          · have := hob.block_lt hpd hc; omega
  · intro a b' c h1 h2
    rcases key a c h1 with ⟨n1, k1⟩ | ⟨e1, k1⟩ <;> rcases key b' c h2 with ⟨n2, k2⟩ | ⟨e2, k2⟩
    · exact h.inj a b' c k1 k2
    · rcases hblk c k2 with h3 | h3
      · exact absurd h3 (notblk a c n1 k1)
      · have := h.owns_lt k1; omega
    · rcases hblk c k1 with h3 | h3
      · exact absurd h3 (notblk b' c n2 k2)
      · have := h.owns_lt k2; omega
    · rw [e1, e2]
  · intro b' c h1
    rcases key b' c h1 with ⟨_, h1⟩ | ⟨_, h1⟩
    · exact .inl ⟨b', h1⟩
    · rcases hblk c h1 with h3 | h3
      · exact .inl ⟨b, hownb c h3⟩
      · exact .inr h3
  · intro c o hi
    rcases hI' c o hi with h3 | h3
    · exact .inl h3
    · rcases hblk c h3 with h4 | h4
      · exact .inr (.inl ⟨b, hownb c h4⟩)
      · exact .inr (.inr h4)


/-- A block that is owned gets other contents; bindings stay. -/
theorem HeapOK.changeB {w' : World} {m : Nat} (h : HeapOK G w I β H) {b c : Nat} {o o' : SObj} {x : Bnd} (hb : H[b]? = some o) (hd : o ≠ .dead) (hx : β[b]? = some x) (hxc : x.block = some c)
    (hold : ∀ c', c' ≠ c → w'.heap[c']? = w.heap[c']?) (hsz : w'.heap.size = w.heap.size) (hnI : ∀ o, ¬ I c o)
    (ho : ObjOK w' I β o' x) (hen : SameEnv w w' := by exact ⟨rfl, rfl⟩) : HeapOK G w' I β (H.set b o') ∧ Ext m w I β H w' I β (H.set b o') := by
  have hblt := lt_of_getElem? hb
  have hown : owns H β b c := ⟨o, _, hb, hd, hx, hxc⟩
  have hcell : ∀ c' o, I c' o → w'.cell? ⟨c', o, none⟩ = w.cell? ⟨c', o, none⟩ := fun c' o hc => by
    have hne : c' ≠ c := fun e => hnI o (e ▸ hc)
    exact cell_congr (hold c' hne) o
  have key : ∀ b' c', owns (H.set b o') β b' c' → owns H β b' c' := by
    rintro b' c' ⟨p, x', h1, h2, h3, h4⟩
    by_cases e : b' = b
    · subst e
      rw [hx] at h3; cases h3
      rw [hxc] at h4; cases h4; exact hown
    · rw [List.getElem?_set_ne (Ne.symm e)] at h1; exact ⟨p, x', h1, h2, h3, h4⟩
  refine ⟨?_, ?_⟩
  · refine { len := by simp [h.len], obj := ?_, inj := fun a b' c' h1 h2 => h.inj a b' c' (key a c' h1) (key b' c' h2), inI := fun c o hc => hsz ▸ h.inI c o hc, glob := fun g d hg => (h.glob g d hg).mono (fun _ _ h => h) hcell }
    intro b' p x' h1 h2
    by_cases e : b' = b
    · subst e
      rw [hx] at h2; cases h2
      rw [List.getElem?_set_self hblt] at h1; cases h1
      exact ho
    · rw [List.getElem?_set_ne (Ne.symm e)] at h1
      by_cases hpd : p = .dead
      · subst hpd; trivial
      · refine (h.obj b' p x' h1 h2).mono (fun c' hc' => hold c' ?_) (fun _ _ h => h) hcell (.refl _ _) (fun _ _ _ h => h)
        rintro rfl
        exact e (h.inj b' b _ ⟨p, x', h1, hpd, h2, hc'⟩ hown)
  · refine { imm := fun _ _ h => h, cell := hcell, keep := .refl _ _, old := fun c' hc' hn => hold c' (fun e => hn b (e ▸ hown)), own := fun b' c' h => .inl ⟨b', key b' c' h⟩, new := fun _ _ h => .inl h, size := by omega, env := hen }
end

section
variable {P : Program} {G : List (Nat × D)} {fn : Func} {rd : Bool} {E : En P G fn rd} {t : List (Nat × SV)} {H : List SObj} {k : List Item}
variable {all : Array Oper} {o : Oper} {rest : List Oper}

/-- an operation, by what it does -/
theorem swr_exec {r : SV} {H' : List SObj} (hw : swant all t o.guard = some true) (hd : dstOK fn.ntmps o.dst = true) (hnd : ∀ c, o.op ≠ .defer c) (hl : H.length ≤ H'.length)
    (hrun : ∀ (ρ : Operand → Value) w I β, HeapOK G w I β H → (∀ x, Rep w I β (ρ x) (evalS G t x)) → OpRun P G (execOp ρ o) w I β H r H')
    (h : SWr E all rest k (tput t o.dst r) H') : SWr E all (o :: rest) k t H := by
  refine ⟨fun j hj hdrop => ?_⟩
  obtain ⟨h1, ho, h3⟩ := drop_cons_parts hdrop
  rw [range_drop h1]
  refine ⟨fun a w I β cs hsim => ?_⟩
  have hwant := swant_sound hw hsim
  obtain ⟨n, v, w', I', β', g1, g2, g3, g4, g5⟩ := hrun a.eval w I β hsim.heap hsim.eval
  have hg := rstepG_op (P := P) (b := E.base) (ro := E.ro) (k := k) (cs := cs) (w := w) (rest := (List.range all.size).drop (j + 1)) ho hwant (.inr hnd)
  have hfin : ∀ v, (E.at a (.inRegion all (j :: (List.range all.size).drop (j + 1)) :: k)).finish v = E.at (a.put o.dst v) (.inRegion all ((List.range all.size).drop (j + 1)) :: k) := by
    intro v; unfold En.at; rw [rfinish_at, ho]; rfl
  have hstep : step P (lone (E.at a (.inRegion all (j :: (List.range all.size).drop (j + 1)) :: k)) cs w) = .next (lone (E.at (a.put o.dst v) (.inRegion all ((List.range all.size).drop (j + 1)) :: k)) cs w') := by
    refine step_lone_go ?_
    rw [← hfin]
    unfold En.at
    rw [hg]
    rcases g2 with rfl | ⟨rfl, rfl⟩ <;> simp [stepG.apply, g1]
  exact .of_steps (.one hstep) ((h.run (j + 1) h1 h3).run _ w' I' β' cs (hsim.put hd g3 g4 g5 hl))

/-- A nil slice in a box that is going to be appended to and written. -/
theorem sw_vecCell (b0 j kk : Nat) {cs : List SV} (hb : H[b0]? = some (.cells cs)) (hj : cs[j]? = some (.imm (.val (.slice none 0 0)))) (h : SW E k t (H.set b0 (.cells (cs.set j (.vec H.length 0))) ++ [.vec kk []])) : SW E k t H := by
  refine ⟨fun a w I β cs' hs => ?_⟩
  have hbl := lt_of_getElem? hb
  have hp := hs.heap.push (o := .vec kk []) (x := .tok (.slice none 0 0)) (.inl ⟨rfl, rfl⟩) (fun b c hc => by cases hc)
  have he : Ext H.length w I β H w I (β ++ [.tok (.slice none 0 0)]) (H ++ [.vec kk []]) := .push hs.heap (fun c hc => by cases hc)
  obtain ⟨x, hx⟩ : ∃ x, β[b0]? = some x := ⟨β[b0]'(by rw [hs.heap.len]; exact hbl), List.getElem?_eq_getElem _⟩
  have hob := hp.obj b0 (.cells cs) x (by rw [List.getElem?_append_left hbl]; exact hb) (by rw [List.getElem?_append_left (lt_of_getElem? hx)]; exact hx)
  cases x with
  | tok u => exact hob.elim
  | blk c =>
  obtain ⟨vs, T, a1, a2, a3, a4⟩ := hob
  have hnew : ObjOK w I (β ++ [.tok (.slice none 0 0)]) (.cells (cs.set j (.vec H.length 0))) (.blk c) := by
    refine ⟨vs, T, a1, by simpa using a2, fun q hq hq' => ?_, a4⟩
    by_cases e : j = q
    · subst e
      have hq2 : j < cs.length := by simpa using hq
      have hr := a3 j hq2 hq'
      have : cs[j] = .imm (.val (.slice none 0 0)) := by simpa [List.getElem?_eq_getElem hq2] using hj
      rw [this] at hr
      simp only [List.getElem_set_self]
      generalize vs[j] = v at hr
      cases hr with | imm hr =>
      cases hr with | val _ =>
      exact .vec H.length 0 _ _ 0 (by rw [← hs.heap.len]; simp) ⟨_, _, rfl⟩ (Nat.le_refl _) ⟨_, _, _, rfl⟩ (fun _ => rfl)
    · rw [List.getElem_set_ne e]
      exact a3 q (by simpa using hq) hq'
  obtain ⟨g1, g2⟩ := hp.changeB (m := H.length) (w' := w) (b := b0) (o := .cells cs) (o' := .cells (cs.set j (.vec H.length 0))) (x := .blk c) (by rw [List.getElem?_append_left hbl]; exact hb) (by simp) (by rw [List.getElem?_append_left (lt_of_getElem? hx)]; exact hx) rfl (fun _ _ => rfl) rfl a4 hnew
  rw [List.set_append_left _ _ hbl] at g1 g2
  have hE := he.trans g2
  exact h.run a w I _ cs' ⟨g1, fun n => (hs.tmps n).ext (by rw [hs.heap.len]; exact hE), hs.size, hs.defers.ext hE, hs.ext.trans (hE.weaken hs.hlen), by have := hs.hlen; simp; omega⟩

/-- what a live own slice is -/
theorem vec_now {w : World} {I : Imm} {β : List Bnd} {v : Value} {b n kk : Nat} {cs : List SV} (hH : HeapOK G w I β H) (hb : H[b]? = some (.vec kk cs)) (hr : Rep w I β v (.vec b n)) (hlen : cs.length = n * kk) (hk : 1 ≤ kk) :
    β[b]? = some (.tok v) ∧ ((n = 0 ∧ v = .slice none 0 0 ∧ cs = []) ∨ ∃ c cap vs T, v = .slice (some ⟨c, 0, none⟩) n cap ∧ w.heap[c]? = some (.cells vs T (0, 0)) ∧ vs.size = cap * kk ∧ n ≤ cap ∧ cap ≤ maxLen ∧ (∀ j (h : j < cs.length) (h' : j < vs.size), Rep w I β (vs[j]'h') (cs[j]'h)) ∧ ∀ o, ¬ I c o) := by
  cases hr with
  | vec _ _ _ u m hbu hus hle hv heq =>
  obtain ⟨a, cap, rfl⟩ := hus
  rcases hH.obj b _ _ hb hbu with ⟨rfl, e⟩ | ⟨c, n', cap', vs, T, e, a1, a2, a3, a4, a5, a6, a7⟩
  · cases e
    have hn : n = 0 := by omega
    subst hn
    rw [heq rfl]
    exact ⟨hbu, .inl ⟨rfl, rfl, rfl⟩⟩
  · cases e
    have hn : n = m := by
      rw [hlen] at a5
      exact Nat.eq_of_mul_eq_mul_right hk a5
    subst hn
    rw [heq rfl]
    exact ⟨hbu, .inr ⟨c, cap, vs, T, rfl, a1, a2, a3, a4, a6, a7⟩⟩

/-- s[i] -/
theorem swr_vidx {b n kk i : Nat} {cs : List SV} {x ix : Operand} {ty e : Nat} {q : IntKind} {mm : Int} (hop : o.op = .indexAddr ty x ix) (hw : swant all t o.guard = some true) (hd : dstOK fn.ntmps o.dst = true) (hx : evalS G t x = .vec b n) (hi : evalS G t ix = .imm (.val (.int q mm)))
    (hu : P.underlying ty = some (.slice e)) (hn : psize P e = some kk) (hb : H[b]? = some (.vec kk cs)) (hlen : cs.length = n * kk) (hk : 1 ≤ kk) (hmm : mm = (i : Int)) (hin : i < n) (h : SWr E all rest k (tput t o.dst (.vptr b n (i * kk))) H) : SWr E all (o :: rest) k t H := by
  refine swr_exec hw hd (fun c e => by rw [hop] at e; cases e) (Nat.le_refl _) (fun ρ w I β hH hev => ?_) h
  have hr := hev x
  rw [hx] at hr
  have hri := hev ix
  rw [hi] at hri
  obtain ⟨hbv, hnow⟩ := vec_now hH hb hr hlen hk
  rcases hnow with ⟨rfl, _⟩ | ⟨c, cap, vs, T, hv, a1, a2, a3, a4, a5, a6⟩
  · omega
  have hiv : ρ ix = .int q mm := by
    generalize ρ ix = v at hri
    cases hri with | imm hri => cases hri; rfl
  obtain ⟨dst, op, type, pos, after, guard⟩ := o
  simp only at hop
  subst hop
  rw [hv] at hbv
  refine OpRun.same (v := .pointer (some ⟨c, i * kk, none⟩)) ?_ (.vptr b n (i * kk) _ _ n cap hbv (Nat.le_refl _) ⟨_, rfl⟩ (fun _ => ⟨c, rfl, rfl⟩)) hH
  subst hmm
  simp [Instr.indexAt, asIntOf, hv, hiv, run_underlying hu, run_psize hn, hin, addr_add]

/-- s[i].f -/
theorem swr_vfield {b n off f : Nat} {x : Operand} {sT : Nat} {fs : Array Field} {fd : Field} {kk : Nat} {cs : List SV} (hop : o.op = .fieldAddr sT x f) (hw : swant all t o.guard = some true) (hd : dstOK fn.ntmps o.dst = true) (hx : evalS G t x = .vptr b n off)
    (hu : P.underlying sT = some (.struct fs)) (hf : fs[f]? = some fd) {sz : Nat} (hsz : psize P fd.type = some (sz + 1)) (hb : H[b]? = some (.vec kk cs)) (hlen : cs.length = n * kk) (hk : 1 ≤ kk) (hn : 1 ≤ n) (h : SWr E all rest k (tput t o.dst (.vptr b n (off + fd.offset))) H) : SWr E all (o :: rest) k t H := by
  refine swr_exec hw hd (fun c e => by rw [hop] at e; cases e) (Nat.le_refl _) (fun ρ w I β hH hev => ?_) h
  have hr := hev x
  rw [hx] at hr
  generalize hpv : ρ x = pv at hr
  cases hr with
  | vptr _ _ _ _ a m cap hbu hle hv heq =>
  rcases hH.obj b _ _ hb hbu with ⟨rfl, e⟩ | ⟨c, n', cap', vs, T, e, a1, a2, a3, a4, a5, a6, a7⟩
  · exfalso
    rw [List.length_nil] at hlen
    have := Nat.mul_le_mul hn hk
    omega
  · cases e
    have hn' : n = m := by
      rw [hlen] at a5
      exact Nat.eq_of_mul_eq_mul_right hk a5
    subst hn'
    obtain ⟨c', e, rfl⟩ := heq rfl
    cases e
    obtain ⟨dst, op, type, pos, after, guard⟩ := o
    simp only at hop
    subst hop
    refine OpRun.same (v := .pointer (some ⟨c, off + fd.offset, none⟩)) ?_ (.vptr b n (off + fd.offset) _ _ n cap hbu (Nat.le_refl _) ⟨_, rfl⟩ (fun _ => ⟨c, rfl, rfl⟩)) hH
    rw [hpv]
    exact run_fieldAt (b := c) (o := off) hu hf hsz

theorem flat_get {w : World} {I : Imm} {kk : Nat} {new : List (List D)} {B : List Value} (hB : Flat w I kk new B) (hk : 1 ≤ kk) {j : Nat} {x : Value} (hx : B[j]? = some x) : ∃ d, new.flatten[j]? = some d ∧ DRep w I x d := by
  have hj : j < new.length * kk := by rw [← hB.len]; exact lt_of_getElem? hx
  obtain ⟨a1, a2, a3⟩ := split_lt hj
  have hrow := hB.row _ a1
  have hr := hB.rep (j / kk) (j % kk) a1 (by rw [hrow]; exact a2) x (by rw [a3]; exact hx)
  refine ⟨_, ?_, hr⟩
  have key : ∀ (L : List (List D)) (q i : Nat) (hq : q < L.length) (hall : ∀ i (h : i < L.length), (L[i]'h).length = kk) (hi : i < (L[q]'hq).length), L.flatten[q * kk + i]? = some ((L[q]'hq)[i]'hi) := by
    intro L
    induction L with
    | nil => intro q i hq; simp at hq
    | cons r L ih =>
      intro q i hq hall hi
      have hr0 : r.length = kk := hall 0 (by simp)
      cases q with
      | zero =>
        simp only [List.getElem_cons_zero] at hi ⊢
        simp only [List.flatten_cons, Nat.zero_mul, Nat.zero_add]
        rw [List.getElem?_append_left hi]
        exact List.getElem?_eq_getElem hi
      | succ q =>
        simp only [List.getElem_cons_succ] at hi ⊢
        simp only [List.flatten_cons]
        rw [List.getElem?_append_right (by rw [hr0, Nat.succ_mul]; omega), hr0, show (q + 1) * kk + i - kk = q * kk + i by rw [Nat.succ_mul]; omega]
        exact ih q i (by simpa using hq) (fun i h => by have := hall (i + 1) (by simpa using h); simpa using this) hi
  have := key new (j / kk) (j % kk) a1 hB.row (by rw [hrow]; exact a2)
  rw [a3] at this
  exact this

/-- append(s, x...) -/
theorem swr_vappend {b n kk by_ e e' : Nat} {z : Value} {sx xx : Operand} {sT xT : Nat} {cs : List SV} {new : List (List D)} (hop : o.op = .call ⟨.builtin .append, #[sx, xx], #[sT, xT]⟩)
    (hw : swant all t o.guard = some true) (hd : dstOK fn.ntmps o.dst = true) (hs : evalS G t sx = .vec b n) (hx : evalS G t xx = .imm (.isl kk new)) (hu : P.underlying sT = some (.slice e)) (hxu : P.underlying xT = some (.slice e'))
    (hpk : psize P e = some kk) (hby : pbytes P e = some by_) (hz : pzero P e = some z) (hcond : by_ ≤ 65536 ∧ z.cells.size = kk) (hb : H[b]? = some (.vec kk cs)) (hlen : cs.length = n * kk) (hk : 1 ≤ kk) (hnew : 1 ≤ new.length) (hsmall : n + new.length ≤ 1073741824)
    (h : SWr E all rest k (tput t o.dst (.vec b (n + new.length))) (H.set b (.vec kk (cs ++ new.flatten.map .imm)))) : SWr E all (o :: rest) k t H := by
  refine swr_exec hw hd (fun c e => by rw [hop] at e; cases e) (by simp) (fun ρ w I β hH hev => ?_) h
  have hr := hev sx
  rw [hs] at hr
  have hrx := hev xx
  rw [hx] at hrx
  obtain ⟨hbu, hnow⟩ := vec_now hH hb hr hlen hk
  generalize hxv : ρ xx = xv at hrx
  cases hrx with | imm hrx =>
  obtain ⟨B, hB, hxl, hxc⟩ := hrx.flat (P := P)
  have hBs : B.length = new.length * kk := hB.len
  have hfl : (new.flatten.map SV.imm).length = new.length * kk := by
    rw [List.length_map]
    have : ∀ L : List (List D), (∀ i (h : i < L.length), (L[i]'h).length = kk) → L.flatten.length = L.length * kk := by
      intro L
      induction L with
      | nil => intro _; simp
      | cons r L ih =>
        intro hall
        have h0 : r.length = kk := hall 0 (by simp)
        have h1 := ih (fun i h => by have := hall (i + 1) (by simpa using h); simpa using this)
        simp only [List.flatten_cons, List.length_append, List.length_cons, h0, h1, Nat.succ_mul]; omega
    exact this new hB.row
  have hblt := lt_of_getElem? hb
  have hbxlt := lt_of_getElem? hbu
  have hnl : (cs ++ new.flatten.map SV.imm).length = (n + new.length) * kk := by rw [List.length_append, hlen, hfl, Nat.add_mul]
  obtain ⟨dst, op, type, pos, after, guard⟩ := o
  simp only at hop
  subst hop
  -- a row of the values, whatever the way
  have rowsOK : ∀ (w' : World) (β' : List Bnd) (vs : List Value) (vs' : Array Value), (∀ c o, I c o → w'.cell? ⟨c, o, none⟩ = w.cell? ⟨c, o, none⟩) → Keeps β.length β β' → vs.length = n * kk →
      (∀ j (h : j < cs.length) (h' : j < vs.length), Rep w I β (vs[j]'h') (cs[j]'h)) → (∀ j, j < n * kk + new.length * kk → vs'[j]? = (vs ++ B)[j]?) →
      ∀ j (h : j < (cs ++ new.flatten.map SV.imm).length) (h' : j < vs'.size), Rep w' I β' (vs'[j]'h') ((cs ++ new.flatten.map SV.imm)[j]'h) := by
    intro w' β' vs vs' hcell hkeep hvl hrep hget j hj hj'
    have hj2 : j < n * kk + new.length * kk := by rw [hnl, Nat.add_mul] at hj; exact hj
    have hg := hget j hj2
    rw [Array.getElem?_eq_getElem hj'] at hg
    rcases Nat.lt_or_ge j (n * kk) with hlt | hge
    · have hjc : j < cs.length := by omega
      have hjv : j < vs.length := by omega
      rw [List.getElem_append_left hjc]
      rw [List.getElem?_append_left hjv, List.getElem?_eq_getElem hjv] at hg
      rw [Option.some.inj hg]
      exact (hrep j hjc hjv).mono (fun _ _ h => h) hcell hkeep
    · rw [List.getElem?_append_right (by omega), hvl] at hg
      obtain ⟨d, hd1, hd2⟩ := flat_get hB hk hg.symm
      have : (cs ++ new.flatten.map SV.imm)[j]? = some (.imm d) := by
        rw [List.getElem?_append_right (by omega), hlen, List.getElem?_map, hd1]; rfl
      rw [List.getElem?_eq_getElem hj] at this
      rw [Option.some.inj this]
      exact .imm (hd2.mono (fun _ _ h => h) hcell)
  have grow : ∀ (A : List Value) (ua : Option Addr) (ucap : Nat), ρ sx = .slice ua n ucap → A.length = n * kk → (∀ j (h : j < cs.length) (h' : j < A.length), Rep w I β (A[j]'h') (cs[j]'h)) →
      (∀ w' : World, w'.heap = w.heap → (Builtin.firstCells kk n (.slice ua n ucap)).run P w' = .ok A.toArray w') → ¬ n + new.length ≤ ucap →
      OpRun P G (execOp ρ ⟨dst, .call ⟨.builtin .append, #[sx, xx], #[sT, xT]⟩, type, pos, after, guard⟩) w I β H (.vec b (n + new.length)) (H.set b (.vec kk (cs ++ new.flatten.map .imm))) := by
    intro A ua ucap hsv hAs hArep hsc hg
    obtain ⟨newCap, rest', hc1, hc2, hrest, hrun⟩ := run_append_grows (w := w) (ty := type) hu hxu hpk hby hz (base := ua) (n := n) (cap := ucap) (A := A) (B := B) hxl (fun w' hw' => hxc w' (fun c o _ => by simp [World.cell?, hw'])) hsc hg hsmall hcond.1
    have hrs : rest'.size = (newCap - (n + new.length)) * kk := by rw [hrest]; simp [Builtin.zeroCells, hcond.2]
    have hvs : (A.toArray ++ B.toArray ++ rest').size = newCap * kk := by
      simp only [Array.size_append, List.size_toArray, hAs, hBs, hrs]
      rw [← Nat.add_mul, ← Nat.add_mul]; congr 1; omega
    have hnewblk : (w.drew.alloc (.cells (A.toArray ++ B.toArray ++ rest') e)).heap[w.heap.size]? = some (.cells (A.toArray ++ B.toArray ++ rest') e (0, 0)) := heap_alloc_self (w := w.drew) _
    have hold : ∀ c, c < w.heap.size → (w.drew.alloc (.cells (A.toArray ++ B.toArray ++ rest') e)).heap[c]? = w.heap[c]? := fun c hc => by
      show (w.heap.push _)[c]? = _
      rw [Array.getElem?_push, if_neg (by omega)]
    have hcell : ∀ c o, I c o → (w.drew.alloc (.cells (A.toArray ++ B.toArray ++ rest') e)).cell? ⟨c, o, none⟩ = w.cell? ⟨c, o, none⟩ := fun c o hc => cell_congr (hold c (hH.inI c o hc)) o
    rw [hsv] at hbu
    have hkeep : Keeps β.length β (β.set b (.tok (.slice (some ⟨w.heap.size, 0, none⟩) (n + new.length) newCap))) := by
      intro b' x _ hb'
      by_cases e : b' = b
      · subst e
        rw [hbu] at hb'; cases hb'
        exact ⟨_, List.getElem?_set_self hbxlt, .inr ⟨_, rfl, .inr ⟨_, _, _, _, _, _, rfl, rfl, by omega⟩⟩⟩
      · exact ⟨x, by rw [List.getElem?_set_ne (Ne.symm e)]; exact hb', x.le_refl⟩
    obtain ⟨g1, g2⟩ := hH.moveVec (m := H.length) (n := n) (n' := n + new.length) (u' := .slice (some ⟨w.heap.size, 0, none⟩) (n + new.length) newCap) (w' := w.drew.alloc (.cells (A.toArray ++ B.toArray ++ rest') e)) (I' := I) (o1 := .vec kk (cs ++ new.flatten.map .imm)) hb (by simp) hbu ⟨_, _, _, _, rfl, rfl⟩ (by omega)
      (by simp) (fun c hc _ => hold c hc) hcell (fun _ _ h => h) (fun _ _ h => .inl h) (fun c o hi => by have := hH.inI c o hi; simp; omega) (fun c hc => by cases hc; exact .inr (Nat.le_refl _))
      (.inr ⟨w.heap.size, n + new.length, newCap, _, e, rfl, hnewblk, hvs, hc1, hc2, hnl, rowsOK _ _ A _ hcell hkeep hAs hArep (fun j hj => by
        rw [Array.getElem?_append_left (by simp [hAs, hBs]; omega)]; simp), fun o hi => by have := hH.inI _ o hi; omega⟩)
    exact .value (by rw [← hsv] at hrun; simpa [builtin, hxv] using hrun) (.vec b _ _ _ (n + new.length) (List.getElem?_set_self hbxlt) ⟨_, _, rfl⟩ (Nat.le_refl _) ⟨_, _, _, rfl⟩ (fun _ => rfl)) g1 g2
  rcases hnow with ⟨hn0, hsv, hcs⟩ | ⟨c, cap, vs, T, hsv, h2, h3, h4, h5, h6, h7⟩
  · subst hn0
    exact grow [] none 0 hsv (by simp) (fun j h h' => by simp at h') (fun w' _ => by rfl) (by omega)
  · by_cases hfit : n + new.length ≤ cap
    · have hle2 : n * kk + new.length * kk ≤ vs.size := by rw [h3, ← Nat.add_mul]; exact Nat.mul_le_mul_right kk hfit
      have hrun := run_append_fits (w := w) (ty := type) hu hxu hpk (n := n) (cap := cap) (m := new.length) (c := c) hxl (hxc w (fun _ _ _ => rfl)) hfit h2 hB.len hB.one h3
      generalize hW : w.setRow c (vs.toList.take (n * kk) ++ B ++ vs.toList.drop (n * kk + new.length * kk)).toArray = W at hrun
      have hnb : W.heap[c]? = some (.cells (vs.toList.take (n * kk) ++ B ++ vs.toList.drop (n * kk + new.length * kk)).toArray T (0, 0)) := by rw [← hW]; exact setRow_heap w c vs _ T _ h2
      have hother : ∀ c', c' ≠ c → W.heap[c']? = w.heap[c']? := by
        intro c' hne
        rw [← hW]; simp [World.setRow, Array.getElem?_modify, Ne.symm hne]
      have hsz : W.heap.size = w.heap.size := by rw [← hW]; simp [World.setRow]
      have hcell : ∀ c' o, I c' o → W.cell? ⟨c', o, none⟩ = w.cell? ⟨c', o, none⟩ := fun c' o hi => cell_congr (hother c' (fun e => h7 o (e ▸ hi))) o
      rw [hsv] at hbu
      have hkeep : Keeps β.length β (β.set b (.tok (.slice (some ⟨c, 0, none⟩) (n + new.length) cap))) := by
        intro b' x _ hb'
        by_cases e : b' = b
        · subst e
          rw [hbu] at hb'; cases hb'
          exact ⟨_, List.getElem?_set_self hbxlt, .inr ⟨_, rfl, .inr ⟨_, _, _, _, _, _, rfl, rfl, by omega⟩⟩⟩
        · exact ⟨x, by rw [List.getElem?_set_ne (Ne.symm e)]; exact hb', x.le_refl⟩
      have hAl : (vs.toList.take (n * kk)).length = n * kk := by simp; omega
      obtain ⟨g1, g2⟩ := hH.moveVec (m := H.length) (n := n) (n' := n + new.length) (u' := .slice (some ⟨c, 0, none⟩) (n + new.length) cap) (w' := W) (I' := I) (o1 := .vec kk (cs ++ new.flatten.map .imm)) hb (by simp) hbu ⟨_, _, _, _, rfl, rfl⟩ (by omega)
        (by omega) (fun c' _ hne => hother c' (fun e => hne (by rw [e]; rfl))) hcell (fun _ _ h => h) (fun _ _ h => .inl h) (fun c' o hi => by rw [hsz]; exact hH.inI c' o hi) (fun c' hc => by cases hc; exact .inl rfl)
        (.inr ⟨c, n + new.length, cap, _, T, rfl, hnb, by simp only [List.size_toArray, List.length_append, List.length_take, List.length_drop, Array.length_toList, hBs]; omega, hfit, h5, hnl,
          rowsOK _ _ (vs.toList.take (n * kk)) _ hcell hkeep hAl (fun j h h' => by
            have hj : j < vs.size := by simp at h'; omega
            have := h6 j h hj
            simpa using this) (fun j hj => by
            rw [List.getElem?_toArray, List.getElem?_append_left (by rw [List.length_append, hAl, hBs]; exact hj)]), h7⟩) (by rw [← hW]; exact ⟨rfl, rfl⟩)
      exact .value (by rw [← hsv] at hrun; simpa [builtin, hxv] using hrun) (.vec b _ _ _ (n + new.length) (List.getElem?_set_self hbxlt) ⟨_, _, rfl⟩ (Nat.le_refl _) ⟨_, _, _, rfl⟩ (fun _ => rfl)) g1 g2
    · have hAl : (vs.toList.take (n * kk)).length = n * kk := by
        have : n * kk ≤ vs.size := by rw [h3]; exact Nat.mul_le_mul_right kk h4
        simp; omega
      refine grow (vs.toList.take (n * kk)) _ cap hsv hAl (fun j h h' => by
            have hj : j < vs.size := by simp at h'; omega
            have := h6 j h hj
            simpa using this) (fun w' hw' => ?_) hfit
      have := run_loadCells_list (P := P) w' ⟨c, 0, none⟩ (vs.toList.take (n * kk)) (fun j x hx => by
        have hj : j < n * kk := by rw [← hAl]; exact lt_of_getElem? hx
        rw [addr_add, cell_congr (w := w) (by rw [hw']), cell_of_heap h2]
        rw [List.getElem?_take_of_lt hj] at hx
        simpa using hx)
      rw [hAl] at this
      simpa [Builtin.firstCells] using this

/-- The slice in slot s is data from now on; nobody writes it any more. -/
theorem sw_vshut (s b n kk : Nat) {cs : List SV} {ds : List D} (hs : tget t s = .vec b n) (hb : H[b]? = some (.vec kk cs)) (hone : cs.all SV.one = true) (hds : cs.mapM SV.toD = some ds) (hlen : cs.length = n * kk) (hk : 1 ≤ kk)
    (h : SW E k ((s, .imm (.isl kk (chunks kk ds n))) :: t) (H.set b .dead)) : SW E k t H := by
  refine ⟨fun a w I β cs' hsim => ?_⟩
  have hbl := lt_of_getElem? hb
  have hr := hsim.tmps s
  rw [hs] at hr
  obtain ⟨hbu, hnow⟩ := vec_now hsim.heap hb hr hlen hk
  obtain ⟨hdl, hdg⟩ := mapM_get hds
  have hsub : ∀ b' c', owns (H.set b .dead) β b' c' → b' ≠ b ∧ owns H β b' c' := by
    rintro b' c' ⟨o, x, h1, h2, h3, h4⟩
    have hne : b' ≠ b := by
      rintro rfl
      rw [List.getElem?_set_self hbl] at h1
      cases h1; exact h2 rfl
    rw [List.getElem?_set_ne (Ne.symm hne)] at h1
    exact ⟨hne, o, x, h1, h2, h3, h4⟩
  have fin : ∀ (I' : Imm), (∀ c o, I c o → I' c o) → (∀ c' o, I' c' o → I c' o ∨ owns H β b c') → DRep w I' (a.tmps.getD s undef) (.isl kk (chunks kk ds n)) → E.Goal (lone (E.at a k) cs' w) cs' := by
    intro I' hI hnew hd
    refine h.run a w I' β cs' ⟨⟨by simp [hsim.heap.len], fun b' o x h1 h2 => ?_, fun b1 b2 c' h1 h2 => hsim.heap.inj b1 b2 c' (hsub b1 c' h1).2 (hsub b2 c' h2).2, fun c' o hi => ?_, fun g d hg => (hsim.heap.glob g d hg).mono hI (fun _ _ _ => rfl)⟩,
      fun m => ?_, hsim.size, ?_, ?_, by simpa using hsim.hlen⟩
    · by_cases hne : b' = b
      · subst hne
        rw [List.getElem?_set_self hbl] at h1
        cases h1; trivial
      · rw [List.getElem?_set_ne (Ne.symm hne)] at h1
        by_cases hdead : o = .dead
        · subst hdead; trivial
        · refine (hsim.heap.obj b' o x h1 h2).mono (fun _ _ => rfl) hI (fun _ _ _ => rfl) (.refl _ _) (fun c' q hc hi => ?_)
          rcases hnew c' q hi with h3 | h3
          · exact h3
          · exact absurd (hsim.heap.inj b' b c' ⟨o, x, h1, hdead, h2, hc⟩ h3) hne
    · rcases hnew c' o hi with h3 | h3
      · exact hsim.heap.inI c' o h3
      · exact hsim.heap.owns_lt h3
    · by_cases e : s = m
      · subst e
        simp only [tget, if_true]
        exact .imm hd
      · simp only [tget, if_neg e]
        exact (hsim.tmps m).mono hI (fun _ _ _ => rfl) (.refl _ _)
    · obtain ⟨bs, d1, d2, d3⟩ := hsim.defers
      exact ⟨bs, d1, d2, fun c' hc => ⟨(d3 c' hc).1, (d3 c' hc).2.1, fun b' hb' => (d3 c' hc).2.2 b' (hsub b' c' hb').2⟩⟩
    · exact { hsim.ext with
        imm := fun c' o hi => hI _ _ (hsim.ext.imm c' o hi)
        own := fun b' c' ho => hsim.ext.own b' c' (hsub b' c' ho).2
        new := fun c' o hi => by
          rcases hnew c' o hi with h3 | h3
          · exact hsim.ext.new c' o h3
          · exact .inr (hsim.ext.own b c' h3) }
  rcases hnow with ⟨hn0, hsv, hcs⟩ | ⟨c, cap, vs, T, hsv, a1, a2, a3, a4, a5, a6⟩
  · subst hn0
    exact fin I (fun _ _ h => h) (fun _ _ h => .inl h) (by rw [hsv]; exact .islNil kk)
  · have hown : owns H β b c := ⟨_, _, hb, by simp, hbu, by rw [hsv]; rfl⟩
    have hle : cs.length ≤ vs.size := by rw [hlen, a2]; exact Nat.mul_le_mul_right kk a3
    refine fin (I.plus c cs.length) (fun _ _ h => .inl h) (fun c' o hi => hi.imp id (fun h => by rw [h.1]; exact hown)) ?_
    rw [hsv]
    refine drep_chunks (vs := vs.toList.take cs.length) (by rw [hdl, hlen]) (fun o ho => .inr ⟨rfl, by omega⟩) (fun o ho => ?_) (by simp; omega) (fun v hv => ?_) (fun o v d hv hd => ?_) a3 a4
    · rw [cell_of_heap a1, List.getElem?_take_of_lt (by omega)]; simp
    · obtain ⟨j, hj, rfl⟩ := List.mem_iff_getElem.1 hv
      have hjj : j < cs.length ∧ j < vs.size := by simp at hj; omega
      have hj' := hjj.2
      have := (a5 j (by omega) hj').oneCell (List.all_eq_true.1 hone _ (List.getElem_mem (by omega)))
      simpa using this
    · have hvv : o < cs.length ∧ o < vs.size := by have := lt_of_getElem? hv; simp at this; omega
      have hv' := hvv.2
      have ho : o < cs.length := hvv.1
      rw [List.getElem?_take_of_lt ho] at hv
      obtain ⟨d', hd', hs'⟩ := hdg o _ (List.getElem?_eq_getElem ho)
      rw [hd] at hd'
      cases hd'
      have hvv : v = vs[o] := by simpa [hv'] using hv.symm
      subst hvv
      exact ((a5 o ho hv').toD hs').mono (fun _ _ h => .inl h) (fun _ _ _ => rfl)
end
end Go.Sh

/- The shadow machine, part 28: a result seen as other data. -/
namespace Go.Sh
section
variable {P : Program} {G : List (Nat × D)}

/-- Whatever is an s is an s'. -/
def SV.Is (s s' : SV) : Prop := ∀ w I β v, Rep w I β v s → Rep w I β v s'

theorem SV.Is.refl (s : SV) : s.Is s := fun _ _ _ _ h => h
theorem SV.Is.nil (k : Nat) : (SV.imm (.val (.slice none 0 0))).Is (.imm (.isl k [])) := fun w I β v h => by
  cases h with | imm h => cases h with | val _ => exact .imm (.islNil k)

inductive SIs : List SV → List SV → Prop
  | nil : SIs [] []
  | cons {s s' : SV} {l l' : List SV} : s.Is s' → SIs l l' → SIs (s :: l) (s' :: l')

theorem SIs.len {l l' : List SV} (h : SIs l l') : l.length = l'.length := by
  induction h with
  | nil => rfl
  | cons _ _ ih => simp [ih]
theorem SIs.get {l l' : List SV} (h : SIs l l') : ∀ j (h1 : j < l.length) (h2 : j < l'.length), (l[j]'h1).Is (l'[j]'h2) := by
  induction h with
  | nil => intro j h1; simp at h1
  | cons h0 _ ih =>
    intro j h1 h2
    cases j with
    | zero => exact h0
    | succ j => exact ih j (by simpa using h1) (by simpa using h2)

theorem SIs.agg {l l' : List SV} (h : SIs l l') : (SV.agg l).Is (.agg l') := fun w I β v hr => by
  cases hr with
  | agg vs _ h1 h2 => exact .agg vs l' (by rw [h1, h.len]) (fun j hj hj' => h.get j (by rw [h.len]; exact hj) hj w I β _ (h2 j (by rw [h.len]; exact hj) hj'))
theorem SIs.tup {l l' : List SV} (h : SIs l l') : (SV.tup l).Is (.tup l') := fun w I β v hr => by
  cases hr with
  | tup vs _ h1 h2 => exact .tup vs l' (by rw [h1, h.len]) (fun j hj hj' => h.get j (by rw [h.len]; exact hj) hj w I β _ (h2 j (by rw [h.len]; exact hj) hj'))

theorem spure_is {f : FuncId} {args : List SV} {r r' : SV} (h : SPure P G f args r) (hr : r.Is r') : SPure P G f args r' :=
  fun H w I β vs hH hv => (h H w I β vs hH hv).mono fun _ _ ⟨v, _, I', β', H', h1, ⟨h2, h2'⟩, h3, h4⟩ => ⟨v, r', I', β', H', h1, ⟨rfl, h2'⟩, hr _ _ _ _ (h2 ▸ h3), h4⟩

theorem SYield.mono {b : Nat} {args : List SV} {H : List SObj} {K K' : Bool → List SObj → Prop} (h : SYield P G b args H K) (hK : ∀ r H', K r H' → K' r H') : SYield P G b args H K' :=
  fun w I β l r vs hH hb hl hv c cs => by
    obtain ⟨res, w', ⟨I', β', H', h1, h2⟩, h3⟩ := h w I β l r vs hH hb hl hv c cs
    exact ⟨res, w', ⟨I', β', H', hK _ _ h1, h2⟩, h3⟩

end
section
variable {P : Program} {G : List (Nat × D)} {fn : Func} {rd : Bool} {E : En P G fn rd} {t : List (Nat × SV)} {H : List SObj} {k : List Item}

/-- A slot seen as other data. -/
theorem sw_is (s : Nat) {x y : SV} (hs : tget t s = x) (hy : x.Is y) (h : SW E k ((s, y) :: t) H) : SW E k t H := by
  refine ⟨fun a w I β cs hsim => h.run a w I β cs { hsim with tmps := fun m => ?_ }⟩
  by_cases e : s = m
  · subst e
    simp only [tget, if_true]
    have := hsim.tmps s
    rw [hs] at this
    exact hy _ _ _ _ this
  · simp only [tget, if_neg e]
    exact hsim.tmps m

end
end Go.Sh
