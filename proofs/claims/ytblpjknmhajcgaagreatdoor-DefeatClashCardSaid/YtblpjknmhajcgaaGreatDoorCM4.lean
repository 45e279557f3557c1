/- Contracts of functions of the program, joined from TKa, TKb, TKc, TKp, TKq, TKe, TKf, TKg, TKh, TKi, TSh43, TKj, TKk, TKl, TSh44, TKm, TKn, TKt, TBc, TBd: no condition. -/
import Derived.Test.YtblpjknmhajcgaaGreatDoorCM3
set_option linter.unusedSimpArgs false
set_option linter.unusedVariables false
set_option maxRecDepth 10000
set_option maxHeartbeats 4000000
namespace Go.Proofs.YtblpjknmhajcgaaGreatDoor
open Go Go.Sh
variable (G : List (Nat × D))
theorem zix (b : Bool) : zx Tryz.prog G 139 [.imm (.val (.bool b))] (.imm (iv (zjx b))) := by
 cases b
 ·refine zd Tryz.func139 rfl (by rw [Tryz.ntmps139]; simp) rfl rfl ?_; intro E hH hK
  (refine zi ?_; conv => whnf)
  exact hK _
 ·refine zd Tryz.func139 rfl (by rw [Tryz.ntmps139]; simp) rfl rfl ?_; intro E hH hK
  (refine zi ?_; conv => whnf)
  exact hK _
theorem zae {P : Program} {G : List (Nat × D)} {fn : Func} {rd : Bool} {E : En P G fn rd} {t : List (Nat × SV)} {K : List SObj} {k : List Item} {m : Nat} {all : Array Oper} {rest : List Oper} {done : List Eff} {o : Oper}
  {ty b off : Nat} {a : Operand} {cs : List SV} {v : SV} (hop : o.op = .load ty a) (hw : yg all t o.guard = some true) (hd : yi fn.ntmps o.dst = true) (hm : m <= K.length) (ha : zo G t a = .ptr b off) (hb : K[b]? = some (.cells cs))
  (hv : zmn P ty cs off = some v) (h : SWe E m all rest k (wq t o.dst v) K (done ++ [⟨v, [b], none⟩])) : SWe E m all (o :: rest) k t K done := by
 refine qw ⟨v, [b], none⟩ hw hd hm (fun K' _ hK => ?_) h
 have hb' : K'[b]? = some (.cells cs) := by rw [hK b (.inl (by simp))]; exact hb
 rw [hop]
 have : ql P ty K' (.ptr b off) = some v := by
  unfold ql
  simp only [hb', hv]
 simp only [sop, ha, this]
 rfl
abbrev bvS (b : Bool) : SV := .imm (.val (.bool b))
abbrev ivS (n : Int) : SV := .imm (.val (.int .i64 n))
def WH (X : Nat -> SObj) (s : St) : List SObj :=
  [X 0, X 1, X 2, X 3, X 4, X 5, X 6, X 7, X 8, X 9, X 10, X 11, X 12, X 13, X 14, X 15, X 16, X 17, X 18, X 19, X 20, .cells (s.ch.map bvS), .cells (s.vs.map ivS),
   .cells [ivS s.p.1, ivS s.p.2.1, ivS s.p.2.2.1, ivS s.p.2.2.2.1, ivS s.p.2.2.2.2, .osl 21 0 s.ch.length, .osl 22 0 s.vs.length]]
theorem zaf {α : Type} {f : α -> SV} {m : Nat} (hf : ∀ a, (f a).under m = true) : ∀ l : List α, SV.under.allUnder m (l.map f) = true
 | [] => rfl
 | a :: l => by simp only [List.map_cons, SV.under.allUnder, hf a, zaf hf l, Bool.and_self]
theorem zyl (m : Nat) (cs : List SV) : (SObj.cells cs).under m = SV.under.allUnder m cs := rfl
theorem zbk {X : Nat -> SObj} (hX : ∀ i, (X i).under 24 = true) (s : St) : (WH X s).all (SObj.under 24) = true := by
 simp only [WH, List.all_cons, hX, List.all_nil, Bool.true_and, Bool.and_true, zyl, zaf (f := bvS) (m := 24) (fun _ => rfl), zaf (f := ivS) (m := 24) (fun _ => rfl)]
 rfl
theorem yra {α : Type} {f : α -> SV} {l : List α} {n : Nat} {d : α} {P : Program} {ty : TypeId} (h : n < l.length) (hp : ysm P ty = some false) : zmn P ty (l.map f) (0 + n * 1) = some (f (l.getD n d)) := by
 simp only [zmn, hp, Nat.zero_add, Nat.mul_one, List.getElem?_map]
 rw [List.getElem?_eq_getElem h, List.getD_eq_getElem?_getD, List.getElem?_eq_getElem h]
 rfl
theorem zbl {P : Program} {G : List (Nat × D)} {fn : Func} {f : FuncId} {args : List SV} {c : Code} {X : Nat -> SObj} {s : St} {K : SV -> List SObj -> Prop} (hX : ∀ i, (X i).under 24 = true)
  (hfn : P.funcs[f]? = some fn) (hb : fn.body = some c) (hn : args.length <= fn.ntmps) (hargs : args.all (SV.under 24) = true)
  (h : ∀ E : En P G fn false, E.H.length = 24 -> (∀ r Y s', r.under 24 = true -> K r (WH X s') -> E.K r (WH X s' ++ Y)) -> SW E [.code c] (zuz 0 args) (WH X s)) : SPre P G f args (WH X s) K := by
 refine wo hfn hb hn hargs (zbk hX s) (fun E hH hK => h E hH (fun r Y s' hr hk => ?_))
 have e : (WH X s' ++ Y).take 24 = WH X s' := rfl
 exact hK r _ (by simp [WH]) hr (by show ((WH X s' ++ Y).take 24).all (SObj.under 24) = true; rw [e]; exact zbk hX s') (by show K r ((WH X s' ++ Y).take 24); rw [e]; exact hk)
theorem zne {X : Nat -> SObj} (hX : ∀ i, (X i).under 24 = true) (oo on : Int) (s : St) (hl : s.ch.length = s.vs.length) (ho : Opd.ok s.vs.length ⟨oo, on⟩) :
  SPre Tryz.prog G 138 [.agg [ivS oo, ivS on], .ptr 23 0] (WH X s) (fun r H' => r = .tup [ivS (Opd.val ⟨oo, on⟩ s).1, bvS (Opd.val ⟨oo, on⟩ s).2] /\ H' = WH X s) := by
 refine zbl hX Tryz.func138 rfl (by rw [Tryz.ntmps138]; simp) rfl ?_; intro E hH hK
 unfold WH
 obtain ⟨ho1, ho2⟩ := ho
 simp only at ho1 ho2
 (refine zf ?_; conv => whnf)
 repeat' ((with_reducible refine way ?_ ?_) <;> (intro h; conv => whnf))
 ·have hb := ho1 (by assumption)
  (refine zu 0 mixed rfl ?_; refine zb [777, 17, 25] (nx := 25) ?_; conv => whnf)
  refine zqe (i := on.toNat) rfl rfl rfl rfl rfl rfl rfl (by simp [yj]) (by omega) (by omega) ?_
  (refine zb [777, 17, 25] (nx := 25) ?_; conv => whnf)
  refine zae (v := ivS (s.vs.getD on.toNat 0)) rfl rfl rfl (by simp [yj]) rfl rfl (yra (f := ivS) (by omega) rfl) ?_
  (refine zb [777, 17, 25] (nx := 25) ?_; conv => whnf)
  refine zqe (i := on.toNat) rfl rfl rfl rfl rfl rfl rfl (by simp [yj]) (by omega) (by omega) ?_
  (refine zb [777, 17, 25] (nx := 25) ?_; conv => whnf)
  refine zae (v := bvS (s.ch.getD on.toNat false)) rfl rfl rfl (by simp [yj]) rfl rfl (yra (f := bvS) (by omega) rfl) ?_
  (refine zb [777] (nx := 25) ?_; conv => whnf)
  (refine zf ?_; conv => whnf)
  have e : Opd.val ⟨oo, on⟩ s = (s.vs.getD on.toNat 0, s.ch.getD on.toNat false) := by simp [Opd.val, *]
  exact hK (.tup [ivS (s.vs.getD on.toNat 0), bvS (s.ch.getD on.toNat false)]) [_] s rfl ⟨by rw [e], rfl⟩
 ·have hb := ho2 (by assumption)
  have h5 : on = 0 \/ on = 1 \/ on = 2 \/ on = 3 \/ on = 4 := by omega
  rcases h5 with rfl | rfl | rfl | rfl | rfl <;> (refine zu 0 mixed rfl ?_; refine zb [777] (nx := 25) ?_; conv => whnf) <;> ((refine zf ?_; conv => whnf))
  ·exact hK (.tup [ivS s.p.1, bvS true]) [_] s rfl ⟨by simp [Opd.val, St.part, *], rfl⟩
  ·exact hK (.tup [ivS s.p.2.1, bvS true]) [_] s rfl ⟨by simp [Opd.val, St.part, *], rfl⟩
  ·exact hK (.tup [ivS s.p.2.2.1, bvS true]) [_] s rfl ⟨by simp [Opd.val, St.part, *], rfl⟩
  ·exact hK (.tup [ivS s.p.2.2.2.1, bvS true]) [_] s rfl ⟨by simp [Opd.val, St.part, *], rfl⟩
  ·exact hK (.tup [ivS s.p.2.2.2.2, bvS true]) [_] s rfl ⟨by simp [Opd.val, St.part, *], rfl⟩
 ·exact hK (.tup [ivS on, bvS true]) [_] s rfl ⟨by simp [Opd.val, *], rfl⟩
section
variable {P : Program} {G : List (Nat × D)} {fn : Func} {rd : Bool} {E : En P G fn rd} {t : List (Nat × SV)} {H : List SObj} {k : List Item} {all : Array Oper} {rest : List Oper} {o : Oper}
theorem Rep.aggs {w : World} {I : Imm} {β : List Bnd} {v : Value} {ds : List D} (h : Rep w I β v (.imm (.agg ds))) : Rep w I β v (.agg (ds.map .imm)) := by
 cases h with | imm h =>
 cases h with | agg vs _ h1 h2 =>
 refine .agg vs _ (by simp [h1]) (fun j hj hj' => ?_)
 simp only [List.getElem_map]
 exact .imm (h2 j (by simpa using hj) hj')
theorem ykv {f : FuncId} {ds : List D} {args : List SV} {K : SV -> List SObj -> Prop} (h : SCall P G f (.agg (ds.map .imm) :: args) H K) : SCall P G f (.imm (.agg ds) :: args) H K := by
 intro w I β vs hH hr
 refine h w I β vs hH ⟨by simpa using hr.len, fun j v s hv hs => ?_⟩
 cases j with
 | zero =>
  simp only [List.getElem?_cons_zero, Option.some.injEq] at hs
  subst hs
  exact Rep.aggs (hr.rep 0 v _ hv rfl)
 | succ j => exact hr.rep (j + 1) v s hv hs
theorem zgm (n : Nat) {rx : Operand} {name : String} {args : Array Operand} {tys : Array TypeId} {ty : TypeId} {ds : List D} {f : FuncId} {K : SV -> List SObj -> Prop} (hop : o.op = .call ⟨.invoke rx name, args, tys⟩)
  (hw : yg all t o.guard = some true) (hd : yi fn.ntmps o.dst = true) (hx : zo G t rx = .imm (.iface ty (.agg ds))) (hm : ydt P ty name = some f) (hb : qs P f = true) {argv : List SV}
  (hargs : .agg (ds.map .imm) :: args.toList.map (zo G t) = argv) (hc : SPre P G f argv (H.take n) K) (h : ∀ r H1, K r H1 -> H1.length = (H.take n).length -> SWr E all rest k (wq t o.dst r) (H1 ++ H.drop n)) :
  SWr E all (o :: rest) k t H := by
 refine ygm hop hw hd (by rw [hx]; rfl) hm hb rfl ?_
 refine ykv ?_
 rw [hargs]
 have := hc (H.drop n)
 rw [List.take_append_drop] at this
 refine this.mono (fun r H' ⟨H1, h1, h2, h3⟩ => ?_)
 subst h3
 refine ⟨?_, h r H1 h1 h2⟩
 simp only [List.length_take, List.length_append, List.length_drop] at h2 ⊢
 omega
end
def Cond.fn : Cond -> Nat
 | .none => 0
 | .plain _ => 197
 | .cmp _ _ _ => 100
 | .neg _ => 198
 | .conn _ _ _ => 199
def Cond.cells : Cond -> List SV
 | .none => []
 | .plain o => [ivS o.op, ivS o.n]
 | .cmp op l r => [ivS op, ivS l.op, ivS l.n, ivS r.op, ivS r.n]
 | .neg c => [.imm c.d]
 | .conn d l r => [ivS d, .imm l.d, .imm r.d]
def ygt (X : Nat -> SObj) (s : St) (c : Cond) : Prop := SPre Tryz.prog G c.fn [.agg c.cells, .ptr 23 0] (WH X s) (fun r H' => r = ivS (c.dec s) /\ H' = WH X s)
theorem ziy {fn : Func} {rd : Bool} {E : En Tryz.prog G fn rd} {t : List (Nat × SV)} {H : List SObj} {k : List Item} {all : Array Oper} {rest : List Oper} {o : Oper} {rx : Operand} {args : Array Operand} {tys : Array TypeId}
  {X : Nat -> SObj} {s : St} {c : Cond} {n : Nat} (hc : c.ok n) (hP : ygt G X s c) (hop : o.op = .call ⟨.invoke rx "wageoffice/defeat.decide", args, tys⟩) (hw : yg all t o.guard = some true) (hd : yi fn.ntmps o.dst = true)
  (hx : zo G t rx = .imm c.d) (ha : args.toList.map (zo G t) = [.ptr 23 0]) (hH : H.take 24 = WH X s) (h : SWr E all rest k (wq t o.dst (ivS (c.dec s))) H) : SWr E all (o :: rest) k t H := by
 have fin : ∀ r H1, (r = ivS (c.dec s) /\ H1 = WH X s) -> H1.length = (H.take 24).length -> SWr E all rest k (wq t o.dst r) (H1 ++ H.drop 24) := by
  intro r H1 h1 _
  obtain ⟨rfl, rfl⟩ := h1
  rw [<- hH, List.take_append_drop]
  exact h
 cases c with
 | none => exact hc.elim
 | plain q => exact zgm 24 hop hw hd hx (by kernel_rfl) rfl (by rw [ha]) (by rw [hH]; exact hP) fin
 | cmp op l r => exact zgm 24 hop hw hd hx (by kernel_rfl) rfl (by rw [ha]) (by rw [hH]; exact hP) fin
 | neg q => exact zgm 24 hop hw hd hx (by kernel_rfl) rfl (by rw [ha]) (by rw [hH]; exact hP) fin
 | conn d l r => exact zgm 24 hop hw hd hx (by kernel_rfl) rfl (by rw [ha]) (by rw [hH]; exact hP) fin
theorem ykw {X : Nat -> SObj} (hX : ∀ i, (X i).under 24 = true) (q : Opd) (s : St) (hl : s.ch.length = s.vs.length) (ho : q.ok s.vs.length) : ygt G X s (.plain q) := by
 unfold ygt
 refine zbl hX Tryz.func197 rfl (by rw [Tryz.ntmps197]; simp) rfl ?_; intro E hH hK
 (refine zf ?_; conv => whnf)
 refine yx 24 rfl rfl rfl rfl rfl rfl (zne G hX q.op q.n s hl ho) ?_
 intro r H1 hr _
 obtain ⟨rfl, rfl⟩ := hr
 (refine za ?_; conv => whnf)
 repeat' ((with_reducible refine way ?_ ?_) <;> (intro h; conv => whnf))
 ·exact hK (ivS 2) [_] s rfl ⟨by simp [Cond.dec, *], rfl⟩
 ·refine ze rfl  (zix G _) ?_
  (refine za ?_; conv => whnf)
  exact hK (ivS _) [_] s rfl ⟨by simp [Cond.dec, *], rfl⟩
theorem yrb {X : Nat -> SObj} (hX : ∀ i, (X i).under 24 = true) (op : Int) (l r : Opd) (s : St) (hl : s.ch.length = s.vs.length) (h1 : l.ok s.vs.length) (h2 : r.ok s.vs.length) : ygt G X s (.cmp op l r) := by
 unfold ygt
 refine zbl hX Tryz.func100 rfl (by rw [Tryz.ntmps100]; simp) rfl ?_; intro E hH hK
 (refine zf ?_; conv => whnf)
 refine yx 24 rfl rfl rfl rfl rfl rfl (zne G hX l.op l.n s hl h1) ?_
 intro r1 H1 hr _
 obtain ⟨rfl, rfl⟩ := hr
 (refine za ?_; conv => whnf)
 refine yx 24 rfl rfl rfl rfl rfl rfl (zne G hX r.op r.n s hl h2) ?_
 intro r2 H2 hr _
 obtain ⟨rfl, rfl⟩ := hr
 have e : Cond.dec s (.cmp op l r) = if (l.val s).2 && (r.val s).2 then zjx (zsf op (l.val s).1 (r.val s).1) else 2 := rfl
 rw [e] at hK
 change ∀ (r_1 : SV) (Y : List SObj) (s' : St), r_1.under 24 = true -> (r_1 = ivS (if (Opd.val ⟨l.op, l.n⟩ s).2 && (Opd.val ⟨r.op, r.n⟩ s).2 then zjx (zsf op (Opd.val ⟨l.op, l.n⟩ s).1 (Opd.val ⟨r.op, r.n⟩ s).1) else 2) /\ WH X s' = WH X s) -> _ at hK
 generalize Opd.val ⟨l.op, l.n⟩ s = a at hK ⊢
 generalize Opd.val ⟨r.op, r.n⟩ s = b at hK ⊢
 obtain ⟨a, ka⟩ := a
 obtain ⟨b, kb⟩ := b
 cases ka
 ·(refine za ?_; conv => whnf)
  exact hK (ivS 2) [_] s rfl ⟨rfl, rfl⟩
 cases kb
 ·(refine za ?_; conv => whnf)
  exact hK (ivS 2) [_] s rfl ⟨rfl, rfl⟩
 (refine za ?_; conv => whnf)
 repeat' ((with_reducible refine way ?_ ?_) <;> (intro h; conv => whnf))
 ·refine ze rfl  (zix G _) ?_
  (refine za ?_; conv => whnf)
  exact hK (ivS _) [_] s rfl ⟨by simp [zsf, *], rfl⟩
 ·refine ze rfl  (zix G _) ?_
  (refine za ?_; conv => whnf)
  exact hK (ivS _) [_] s rfl ⟨by simp [zsf, *], rfl⟩
 ·refine ze rfl  (zix G _) ?_
  (refine za ?_; conv => whnf)
  exact hK (ivS _) [_] s rfl ⟨by simp [zsf, *], rfl⟩
theorem yrc {X : Nat -> SObj} (hX : ∀ i, (X i).under 24 = true) (c : Cond) (s : St) {n : Nat} (hc : c.ok n) (hP : ygt G X s c) : ygt G X s (.neg c) := by
 unfold ygt
 refine zbl hX Tryz.func198 rfl (by rw [Tryz.ntmps198]; simp) rfl ?_; intro E hH hK
 (refine ww [777, 6] 1000 ?_; conv => whnf)
 refine xz (v := .imm c.d) rfl rfl rfl rfl rfl rfl ?_
 (refine za ?_; conv => whnf)
 refine ziy G hc hP rfl rfl rfl rfl (by rfl) (by rfl) ?_
 have e : Cond.dec s (.neg c) = if c.dec s = 0 then 1 else if c.dec s = 1 then 0 else 2 := rfl
 rw [e] at hK
 (refine za ?_; conv => whnf)
 repeat' ((with_reducible refine way ?_ ?_) <;> (intro h; conv => whnf))
 ·exact hK (ivS 1) [_] s rfl ⟨by simp [*], rfl⟩
 ·exact hK (ivS 0) [_] s rfl ⟨by simp [*], rfl⟩
 ·exact hK (ivS 2) [_] s rfl ⟨by simp [*], rfl⟩
theorem yom {X : Nat -> SObj} (hX : ∀ i, (X i).under 24 = true) (d : Int) (l r : Cond) (s : St) {n : Nat} (hl : l.ok n) (hr : r.ok n) (hP : ygt G X s l) (hQ : ygt G X s r) : ygt G X s (.conn d l r) := by
 unfold ygt
 refine zbl hX Tryz.func199 rfl (by rw [Tryz.ntmps199]; simp) rfl ?_; intro E hH hK
 (refine ww [777, 8] 1000 ?_; conv => whnf)
 refine xz (v := .imm l.d) rfl rfl rfl rfl rfl rfl ?_
 (refine za ?_; conv => whnf)
 refine ziy G hl hP rfl rfl rfl rfl (by rfl) (by rfl) ?_
 have e : Cond.dec s (.conn d l r) = if l.dec s = d then l.dec s else if r.dec s = d \/ l.dec s ≠ 2 then r.dec s else 2 := rfl
 rw [e] at hK
 (refine xl [777, 17] 1000 ?_; conv => whnf)
 repeat' ((with_reducible refine way ?_ ?_) <;> (intro h; conv => whnf))
 ·exact hK (ivS (l.dec s)) [_] s rfl ⟨by simp [*], rfl⟩
 ·refine xz (v := .imm r.d) rfl rfl rfl rfl rfl rfl ?_
  (refine za ?_; conv => whnf)
  refine ziy G hr hQ rfl rfl rfl rfl (by rfl) (by rfl) ?_
  (refine za ?_; conv => whnf)
  repeat' ((with_reducible refine way ?_ ?_) <;> (intro h; conv => whnf))
  all_goals first | exact hK (ivS (r.dec s)) [_] s rfl ⟨by simp [*], rfl⟩ | exact hK (ivS 2) [_] s rfl ⟨by simp [*], rfl⟩ | exact hK (ivS 2) [_] s rfl ⟨by simp [*]; omega, rfl⟩
theorem zlr {X : Nat -> SObj} (hX : ∀ i, (X i).under 24 = true) (s : St) (hl : s.ch.length = s.vs.length) : ∀ c : Cond, c.ok s.vs.length -> ygt G X s c
 | .none, h => h.elim
 | .plain q, h => ykw G hX q s hl h
 | .cmp op l r, h => yrb G hX op l r s hl h.1 h.2
 | .neg c, h => yrc G hX c s h (zlr hX s hl c h)
 | .conn d l r, h => yom G hX d l r s h.1 h.2 (zlr hX s hl l h.1) (zlr hX s hl r h.2)
def Cond.row : Cond -> List D
 | .cmp op l r => [iv op, iv l.op, iv l.n, iv r.op, iv r.n]
 | _ => [iv 0, iv 0, iv 0, iv 0, iv 0]
def yc (c : Codex) (vers : List Int) (s : Sr) : List SV :=
  [.imm (zk c.facts), .imm (zk c.lines), .imm (ys c.arts), .imm (zl vers), .asl 15 1 (s.conds.map fun c => [c.d]), .asl 16 5 (s.atoms.map Cond.row),
   sB (s.dates.getD 0 false), sB (s.dates.getD 1 false), sB (s.dates.getD 2 false), sB (s.dates.getD 3 false), sB (s.dates.getD 4 false), .map 1]
def XS (Y : Nat -> SObj) (cs : List SV) (i : Nat) : SObj := if i = 2 then .cells cs else Y i
theorem zdo {Y : Nat -> SObj} (hY : ∀ i, (Y i).under 24 = true) (c : Codex) (vers : List Int) (s : Sr) (i : Nat) : (XS Y (yc c vers s) i).under 24 = true := by
 unfold XS
 split
 ·rfl
 ·exact hY i
theorem zhx {Y : Nat -> SObj} (hY : ∀ i, (Y i).under 24 = true) (c : Codex) (vers : List Int) (q : Sr) (s : St) (hl : s.ch.length = s.vs.length) (hc : ∀ x ∈ q.conds, x.ok s.vs.length) (hsz : q.conds.length <= 1073741824) :
  SPre Tryz.prog G 69 [.ptr 2 0, .ptr 23 0] (WH (XS Y (yc c vers q)) s) (fun r H' => r = ivS (zah q.conds s) /\ H' = WH (XS Y (yc c vers q)) s) := by
 have hX := zdo hY c vers q
 refine zbl hX Tryz.func69 rfl (by rw [Tryz.ntmps69]; simp) rfl ?_; intro E hH hK
 (refine zf ?_; conv => whnf)
 refine zg [0, 1, 5, 11, 12, 13] ?_
 refine zq q.conds (fun i (r : Int) => [(0, .ptr 2 0), (1, .ptr 23 0), (5, ivS r), (11, .asl 15 1 (q.conds.map fun c => [c.d])), (12, ivS (q.conds.map fun c : Cond => [c.d]).length), (13, ivS i)])
  (fun _ _ => WH (XS Y (yc c vers q)) s) (fun _ rest r => zam s q.conds 1 = zam s rest r) 1 rfl ?_ ?_
 ·intro r h1
  simp only [zam] at h1
  have hll : (q.conds.map fun c : Cond => [c.d]).length = q.conds.length := by simp
  (refine zf ?_; conv => whnf)
  repeat' ((with_reducible refine way ?_ ?_) <;> (intro h; conv => whnf))
  all_goals try (exfalso; omega)
  exact hK (ivS r) [] s rfl ⟨by rw [zah, h1], rfl⟩
 ·intro done x rest r ha hlen h1 ih
  have hll : (q.conds.map fun c : Cond => [c.d]).length = q.conds.length := by simp
  have hw := zm (n := done.length) (by omega)
  simp only [zam] at h1
  have hx := hc x (by rw [ha]; simp)
  have hrow : (q.conds.map fun c : Cond => [c.d])[((done.length : Nat) : Int).toNat]? = some [x.d] := by simp [ha]
  have hdx := zlr G hX s hl x hx
  generalize hdv : x.dec s = dv at h1
  rcases x with _ | o | ⟨op, l, r'⟩ | c' | ⟨d, l, r'⟩
  ·exact hx.elim
  all_goals
   (refine zf ?_; conv => whnf)
   repeat' ((with_reducible refine way ?_ ?_) <;> (intro h; conv => whnf))
   all_goals try (exfalso; omega)
   refine zh rfl rfl  hrow ?_
   (refine za ?_; conv => whnf)
   refine ziy G hx hdx rfl rfl rfl rfl (by rfl) (by rfl) ?_
   rw [hdv]
   (refine za ?_; conv => whnf)
   repeat' ((with_reducible refine way ?_ ?_) <;> (intro h; conv => whnf))
   ·exact hK (ivS 0) [] s rfl ⟨by rw [zah, h1, if_pos (by assumption)], rfl⟩
   ·rw [hw]
    exact yr [0, 1, 5, 11, 12, 13] 24 (by omega) (by simp [WH]) rfl (zbk hX s) (ih 2 (by rw [h1, if_neg (by assumption), if_pos (by assumption)]))
   ·rw [hw]
    exact yr [0, 1, 5, 11, 12, 13] 24 (by omega) (by simp [WH]) rfl (zbk hX s) (ih r (by rw [h1, if_neg (by assumption), if_neg (by assumption)]))
theorem ziz (d : Int) : zx Tryz.prog G 136 [sI d] (sB (decide (0 <= d) && decide (d <= 36524))) := by
 refine zd Tryz.func136 rfl (by rw [Tryz.ntmps136]; simp) rfl rfl ?_; intro E hH hK
 (refine zi ?_; conv => whnf)
 repeat' ((with_reducible refine way ?_ ?_) <;> (intro h; conv => whnf))
 all_goals exact kB hK (by simp [*])
theorem zym (d : Int) : zx Tryz.prog G 99 [sI d] (sI (jy d)) := by
 by_cases hd : 0 <= d /\ d <= 36524
 ·refine zd Tryz.func99 rfl (by rw [Tryz.ntmps99]; simp) rfl rfl ?_; intro E hH hK
  (refine zi ?_; conv => whnf)
  refine ze rfl  (ziz G d) ?_
  rw [show (decide (0 <= d) && decide (d <= 36524)) = true by simp [hd]]
  (refine zj ?_; conv => whnf)
  refine kI hK ?_
  rw [jy, if_pos hd, xh (c := d + 5) (by omega) (by omega), Int.tmod_eq_emod_of_nonneg (by omega), xh (by omega) (by omega)]
 ·refine zd Tryz.func99 rfl (by rw [Tryz.ntmps99]; simp) rfl rfl ?_; intro E hH hK
  (refine zi ?_; conv => whnf)
  refine ze rfl  (ziz G d) ?_
  rw [show (decide (0 <= d) && decide (d <= 36524)) = false by simp; omega]
  (refine zj ?_; conv => whnf)
  exact kI hK (by rw [jy, if_neg hd])
abbrev ypy (r : Int × Int × Int) : SV := .tup [sI r.1, sI r.2.1, sI r.2.2]
theorem ybb (y m : Nat) (hm : m < 12) (hy : y <= 99) : zx Tryz.prog G0 137 [sI (2000 + (y : Int)), sI (m : Int)] (sI (lenOf (12 * y + m))) := by
 have h := zvl (2000 + (y : Int)) (m : Int) (by omega) (by omega)
 have e : lenOf (12 * y + m) = zht (2000 + (y : Int)) ((m : Int) + 1) := by
  unfold lenOf
  rw [show (12 * y + m) / 12 = y by omega, show (12 * y + m) % 12 = m by omega]
 rw [e]
 exact h
theorem ykx (d : Int) : zx Tryz.prog G0 98 [sI d] (ypy (wj d)) := by
 by_cases hd : 0 <= d /\ d <= 36524
 case neg =>
  refine zd Tryz.func98 rfl (by rw [Tryz.ntmps98]; simp) rfl rfl ?_; intro E hH hK
  (refine zi ?_; conv => whnf)
  refine ydx ?_
  (refine zi ?_; conv => whnf)
  refine ze rfl  (ziz G0 d) ?_
  rw [show (decide (0 <= d) && decide (d <= 36524)) = false by simp; omega]
  rw [wj, if_neg hd] at hK
  (refine zj ?_; conv => whnf)
  exact hK _
 refine zd Tryz.func98 rfl (by rw [Tryz.ntmps98]; simp) rfl rfl ?_; intro E hH hK
 (refine zi ?_; conv => whnf)
 refine ydx ?_
 (refine zi ?_; conv => whnf)
 refine ze rfl  (ziz G0 d) ?_
 rw [show (decide (0 <= d) && decide (d <= 36524)) = true by simp [hd]]
 (refine zj ?_; conv => whnf)
 obtain ⟨q, hq⟩ : ∃ q : Nat, d / 1461 = q := ⟨(d / 1461).toNat, by omega⟩
 have hq25 : q <= 25 := by omega
 have e5 : IntKind.i64.wrap (2000 + IntKind.i64.wrap (IntKind.i64.wrap (d.tdiv 1461) * 4)) = 2000 + ((4 * q : Nat) : Int) := by
  rw [Int.tdiv_eq_ediv_of_nonneg hd.1, hq, xh (c := (q : Int)) (by omega) (by omega), xh (c := (q : Int) * 4) (by omega) (by omega), xh (by omega) (by omega)]
  omega
 have e6 : d.tmod 1461 = d - zv (12 * (4 * q)) := by
  rw [Int.tmod_eq_emod_of_nonneg hd.1, show 12 * (4 * q) = 48 * q by omega, zob q hq25]
  omega
 rw [e5, e6]
 refine ynq ?_
 (refine zi ?_; conv => whnf)
 refine zg [5, 6, 7] ?_
 refine xr (σ := Nat) (fun y => [(5, sI (2000 + (y : Int))), (6, sI (d - zv (12 * y))), (7, sI 0)]) (fun _ => []) (fun y => y <= 99 /\ zv (12 * y) <= d) (fun y => 100 - y) ?_ (4 * q) ⟨by omega, by rw [show 12 * (4 * q) = 48 * q by omega, zob q hq25]; omega⟩
 intro y ⟨hy, hle⟩ ih
 (refine zi ?_; conv => whnf)
 refine zg [5, 6, 7, 19] ?_
 refine xr (σ := Nat) (fun m => [(5, sI (2000 + (y : Int))), (6, sI (d - zv (12 * y + m))), (7, sI 0), (19, sI (m : Int))]) (fun _ => []) (fun m => m <= 12 /\ zv (12 * y + m) <= d) (fun m => 13 - m) ?_ 0 ⟨by omega, hle⟩
 intro m ⟨hm, hle2⟩ ih2
 have hst : zv (12 * y + m + 1) = zv (12 * y + m) + lenOf (12 * y + m) := rfl
 have hlr := zec (12 * y + m)
 have hfb := zgi (12 * y + m)
 (refine zi ?_; conv => whnf)
 repeat' ((with_reducible refine way ?_ ?_) <;> (intro h; conv => whnf))
 ·refine ze rfl  (ybb y m (by omega) hy) ?_
  (refine zj ?_; conv => whnf)
  repeat' ((with_reducible refine way ?_ ?_) <;> (intro h; conv => whnf))
  ·have := zhv (d := d) (y := y) (m := m) (r := d - zv (12 * y + m)) hd (by omega) (by omega) (by omega) (by omega)
   rw [this] at hK
   rw [xh (c := (m : Int) + 1) (by omega) (by omega), xh (c := d - zv (12 * y + m) + 1) (by omega) (by omega)]
   exact hK _
  ·rw [xh (c := (m : Int) + 1) (by omega) (by omega), xh (c := d - zv (12 * y + m) - lenOf (12 * y + m)) (by omega) (by omega)]
   have e : d - zv (12 * y + m) - lenOf (12 * y + m) = d - zv (12 * y + (m + 1)) := by
    rw [show 12 * y + (m + 1) = 12 * y + m + 1 by omega]
    omega
   rw [e]
   refine zg [5, 6, 7, 19] ?_
   exact ih2 (m + 1) ⟨by omega, by rw [show 12 * y + (m + 1) = 12 * y + m + 1 by omega]; omega⟩ (by omega)
 ·have hm12 : m = 12 := by omega
  subst hm12
  have hlt := zti (d := d) (y := y + 1) (m := 0) (r := d - zv (12 * y + 12)) hd.2 (by omega) (by rw [show 12 * (y + 1) + 0 = 12 * y + 12 by omega]; omega)
  rw [xh (by omega) (by omega)]
  refine zg [5, 6, 7] ?_
  have := ih (y + 1) ⟨by omega, by rw [show 12 * (y + 1) = 12 * y + 12 by omega]; exact hle2⟩ (by omega)
  rw [show 12 * (y + 1) = 12 * y + 12 by omega, show 2000 + ((y + 1 : Nat) : Int) = 2000 + (y : Int) + 1 by omega] at this
  exact this
abbrev zep := Int × Int × Int × Int × Int
def zhy (p : zep) (i : Int) : Int := if i = 0 then p.1 else if i = 1 then p.2.1 else if i = 2 then p.2.2.1 else if i = 3 then p.2.2.2.1 else p.2.2.2.2
theorem yky (s : St) (i : Int) : s.part i = zhy s.p i := rfl
def Opd.tv (o : Opd) (p : zep) (vs : List Int) : Int := if o.op = 2 then vs.getD o.n.toNat 0 else if o.op = 4 then zhy p o.n else o.n
def Cond.tru (p : zep) (vs : List Int) : Cond -> Bool
 | .none => false
 | .plain o => !decide (o.tv p vs = 0)
 | .cmp op l r => zsf op (l.tv p vs) (r.tv p vs)
 | .neg c => !c.tru p vs
 | .conn d l r => if d = 1 then l.tru p vs || r.tru p vs else l.tru p vs && r.tru p vs
def Cond.good : Cond -> Prop
 | .none => False
 | .plain _ => True
 | .cmp _ _ _ => True
 | .neg c => c.good
 | .conn d l r => (d = 0 \/ d = 1) /\ l.good /\ r.good
def Opd.inF (F : Int -> Prop) (o : Opd) : Prop := o.op = 2 -> F o.n
def Cond.inF (F : Int -> Prop) : Cond -> Prop
 | .none => True
 | .plain o => o.inF F
 | .cmp _ l r => l.inF F /\ r.inF F
 | .neg c => c.inF F
 | .conn _ l r => l.inF F /\ r.inF F
theorem Opd.inF_mono {F F' : Int -> Prop} (h : ∀ f, F f -> F' f) {o : Opd} (ho : o.inF F) : o.inF F' := fun e => h _ (ho e)
theorem Cond.inF_mono {F F' : Int -> Prop} (h : ∀ f, F f -> F' f) : ∀ (c : Cond), c.inF F -> c.inF F'
 | .none, _ => trivial
 | .plain _, hc => Opd.inF_mono h hc
 | .cmp _ _ _, hc => ⟨Opd.inF_mono h hc.1, Opd.inF_mono h hc.2⟩
 | .neg c, hc => Cond.inF_mono h c hc
 | .conn _ l r, hc => ⟨Cond.inF_mono h l hc.1, Cond.inF_mono h r hc.2⟩
def St.part_of (s : St) (vs : List Int) : Prop := ∀ i : Nat, s.ch.getD i false = true -> s.vs.getD i 0 = vs.getD i 0
theorem ykz {s : St} {vs : List Int} (h : s.part_of vs) (o : Opd) (hk : (o.val s).2 = true) : (o.val s).1 = o.tv s.p vs := by
 unfold Opd.val Opd.tv at *
 split
 ·rename_i e
  rw [if_pos e] at hk
  exact h _ hk
 ·split
  ·exact yky _ _
  ·rfl
theorem zax (b : Bool) : (zjx b = 0 /\ b = false) \/ (zjx b = 1 /\ b = true) := by cases b <;> simp [zjx]
theorem znf {s : St} {vs : List Int} (h : s.part_of vs) : ∀ c : Cond, c.good -> (c.dec s = 0 /\ c.tru s.p vs = false) \/ (c.dec s = 1 /\ c.tru s.p vs = true) \/ c.dec s = 2
 | .none, hg => hg.elim
 | .plain o, _ => by
  simp only [Cond.dec, Cond.tru]
  by_cases hk : (o.val s).2 = true
  ·rw [if_pos hk, ykz h o hk]
   rcases zax (!decide (o.tv s.p vs = 0)) with e | e
   ·exact .inl e
   ·exact .inr (.inl e)
  ·rw [if_neg hk]; exact .inr (.inr rfl)
 | .cmp op l r, _ => by
  simp only [Cond.dec, Cond.tru]
  by_cases hk : ((l.val s).2 && (r.val s).2) = true
  ·rw [if_pos hk]
   simp only [Bool.and_eq_true] at hk
   rw [ykz h l hk.1, ykz h r hk.2]
   rcases zax (zsf op (l.tv s.p vs) (r.tv s.p vs)) with e | e
   ·exact .inl e
   ·exact .inr (.inl e)
  ·rw [if_neg hk]; exact .inr (.inr rfl)
 | .neg c, hg => by
  simp only [Cond.dec, Cond.tru]
  rcases znf h c hg with ⟨e1, e2⟩ | ⟨e1, e2⟩ | e1
  ·simp [e1, e2]
  ·simp [e1, e2]
  ·simp [e1]
 | .conn d l r, hg => by
  simp only [Cond.dec, Cond.tru]
  obtain ⟨hd, h1, h2⟩ := hg
  rcases hd with rfl | rfl <;> rcases znf h l h1 with ⟨e1, e2⟩ | ⟨e1, e2⟩ | e1 <;> rcases znf h r h2 with ⟨e3, e4⟩ | ⟨e3, e4⟩ | e3 <;> simp_all
theorem zls {s : St} : ∀ c : Cond, c.good -> c.inF (fun f => s.ch.getD f.toNat false = true) -> c.dec s ≠ 2
 | .none, hg, _ => hg.elim
 | .plain o, _, hf => by
  simp only [Cond.dec]
  have : (o.val s).2 = true := by
   unfold Opd.val
   split
   ·rename_i e; exact hf e
   ·split <;> rfl
  rw [if_pos this]
  rcases zax (!decide ((o.val s).1 = 0)) with e | e <;> rw [e.1] <;> omega
 | .cmp op l r, _, hf => by
  simp only [Cond.dec]
  have h1 : (l.val s).2 = true := by
   unfold Opd.val
   split
   ·rename_i e; exact hf.1 e
   ·split <;> rfl
  have h2 : (r.val s).2 = true := by
   unfold Opd.val
   split
   ·rename_i e; exact hf.2 e
   ·split <;> rfl
  rw [if_pos (by rw [h1, h2]; rfl)]
  rcases zax (zsf op (l.val s).1 (r.val s).1) with e | e <;> rw [e.1] <;> omega
 | .neg c, hg, hf => by
  simp only [Cond.dec]
  have := zls c hg hf
  rcases znf (s := s) (vs := s.vs) (fun _ _ => rfl) c hg with ⟨e1, _⟩ | ⟨e1, _⟩ | e1
  ·simp [e1]
  ·simp [e1]
  ·exact absurd e1 this
 | .conn d l r, hg, hf => by
  simp only [Cond.dec]
  have h1 := zls l hg.2.1 hf.1
  have h2 := zls r hg.2.2 hf.2
  split
  ·exact h1
  ·rw [if_pos (.inr h1)]; exact h2
theorem zfh (s : St) : ∀ (l : List Cond) (r : Int), r ≠ 0 -> (zam s l r = 0 ↔ ∃ c ∈ l, c.dec s = 0)
 | [], r, h => by simp [zam, h]
 | c :: l, r, h => by
  simp only [zam]
  by_cases h0 : c.dec s = 0
  ·simp [h0]
  ·rw [if_neg h0]
   by_cases h2 : c.dec s = 2
   ·rw [if_pos h2, zfh s l 2 (by omega)]
    simp [h0]
   ·rw [if_neg h2, zfh s l r h]
    simp [h0]
theorem zoe (s : St) (l : List Cond) : zah l s = 0 ↔ ∃ c ∈ l, c.dec s = 0 := zfh s l 1 (by omega)
def yon (conds : List Cond) (p : zep) (vs : List Int) : Prop := ∀ c ∈ conds, c.tru p vs = true
theorem zkr {conds : List Cond} {s : St} {vs : List Int} (hg : ∀ c ∈ conds, c.good) (h : s.part_of vs) (hs : yon conds s.p vs) : zah conds s ≠ 0 := fun h0 => by
 obtain ⟨c, hc, h1⟩ := (zoe s conds).1 h0
 have := hs c hc
 rcases znf h c (hg c hc) with ⟨_, e⟩ | ⟨e, _⟩ | e
 ·rw [e] at this; cases this
 ·omega
 ·omega
theorem ybc {conds : List Cond} {s : St} {vs : List Int} (hg : ∀ c ∈ conds, c.good) (h : s.part_of vs) (hf : ∀ c ∈ conds, c.inF (fun f => s.ch.getD f.toNat false = true)) (hv : zah conds s ≠ 0) : yon conds s.p vs := fun c hc => by
 rcases znf h c (hg c hc) with ⟨e, _⟩ | ⟨_, e⟩ | e
 ·exact absurd ((zoe s conds).2 ⟨c, hc, e⟩) hv
 ·exact e
 ·exact absurd e (zls c (hg c hc) (hf c hc))
def zqw : List Int -> List Int -> List Int -> Bool
 | [], _, _ => false
 | f :: r, a, b => if a.getD f.toNat 0 ≠ b.getD f.toNat 0 then decide (a.getD f.toNat 0 < b.getD f.toNat 0) else zqw r a b
theorem zeu {α : Type} (l : List α) (i j : Nat) (a d : α) : (l.set i a).getD j d = if i = j /\ j < l.length then a else l.getD j d := by
 rw [List.getD_eq_getElem?_getD, List.getD_eq_getElem?_getD, List.getElem?_set]
 by_cases h : i = j
 ·subst h
  by_cases h2 : i < l.length
  ·simp [h2]
  ·simp [h2, List.getElem?_eq_none (Nat.le_of_not_lt h2)]
 ·simp [h]
structure CandV (rest : List (Int × List Int)) (s : St) (v : List Int) : Prop where
 len : v.length = s.vs.length
 mem : ∀ e ∈ rest, v.getD e.1.toNat 0 ∈ e.2
 oth : ∀ i : Nat, (∀ e ∈ rest, e.1.toNat ≠ i) -> v.getD i 0 = s.vs.getD i 0
structure RestOK (conds : List Cond) (rest : List (Int × List Int)) (s : St) : Prop where
 len : s.ch.length = s.vs.length
 rng : ∀ e ∈ rest, 0 <= e.1 /\ e.1 < s.vs.length
 nd : (rest.map (·.1)).Nodup
 off : ∀ e ∈ rest, s.ch.getD e.1.toNat false = false
 inF : ∀ c ∈ conds, c.inF fun f => s.ch.getD f.toNat false = true \/ ∃ e ∈ rest, e.1 = f
 ord : ∀ e ∈ rest, e.2.Pairwise (· < ·)
theorem RestOK.put {conds : List Cond} {f : Int} {vals : List Int} {rest : List (Int × List Int)} {s : St} (h : RestOK conds ((f, vals) :: rest) s) (w : Int) : RestOK conds rest (s.put f w) := by
 have hf := h.rng (f, vals) (by simp)
 have hnd := h.nd
 simp only [List.map_cons, List.nodup_cons] at hnd
 have hne : ∀ e ∈ rest, f ≠ e.1 := fun e he eq => hnd.1 (List.mem_map.2 ⟨e, he, eq.symm⟩)
 refine ⟨by simp [St.put, h.len], fun e he => ?_, hnd.2, fun e he => ?_, fun c hc => Cond.inF_mono (fun g hg => ?_) c (h.inF c hc), fun e he => h.ord e (by simp [he])⟩
 ·have := h.rng e (by simp [he]); simpa [St.put] using this
 ·have h1 := h.rng e (by simp [he])
  have h2 := hne e he
  simp only [St.put]
  rw [zeu, if_neg (by omega)]
  exact h.off e (by simp [he])
 ·rcases hg with hg | ⟨e, he, hg⟩
  ·left
   simp only [St.put]
   rw [zeu]
   split
   ·rfl
   ·exact hg
  ·rcases List.mem_cons.1 he with rfl | he
   ·left
    simp only at hg
    subst hg
    simp only [St.put]
    rw [zeu, if_pos ⟨rfl, by rw [h.len]; simp only at hf; omega⟩]
   ·exact .inr ⟨e, he, hg⟩
theorem CandV.cons {conds : List Cond} {f : Int} {vals : List Int} {rest : List (Int × List Int)} {s : St} (h : RestOK conds ((f, vals) :: rest) s) {v : List Int} : CandV ((f, vals) :: rest) s v ↔ ∃ w ∈ vals, v.getD f.toNat 0 = w /\ CandV rest (s.put f w) v := by
 have hf := h.rng (f, vals) (by simp)
 simp only at hf
 have hnd := h.nd
 simp only [List.map_cons, List.nodup_cons] at hnd
 constructor
 ·intro hv
  refine ⟨_, hv.mem (f, vals) (by simp), rfl, by simp [St.put, hv.len], fun e he => hv.mem e (by simp [he]), fun i hi => ?_⟩
  simp only [St.put]
  rw [zeu]
  split
  ·rename_i e; rw [<- e.1]
  ·rename_i e
   refine hv.oth i fun e' he' => ?_
   rcases List.mem_cons.1 he' with rfl | he'
   ·intro eq
    simp only at eq
    exact e ⟨eq, by omega⟩
   ·exact hi e' he'
 ·rintro ⟨w, hw, he, hv⟩
  refine ⟨by simpa [St.put] using hv.len, fun e he' => ?_, fun i hi => ?_⟩
  ·rcases List.mem_cons.1 he' with rfl | he'
   ·simp only; rw [he]; exact hw
   ·exact hv.mem e he'
  ·have h1 := hv.oth i (fun e he' => hi e (by simp [he']))
   have h2 := hi (f, vals) (by simp)
   simp only [St.put] at h1
   rw [zeu, if_neg (fun h => h2 h.1)] at h1
   exact h1
theorem CandV.agree {conds : List Cond} {rest : List (Int × List Int)} {s : St} (h : RestOK conds rest s) {v : List Int} (hv : CandV rest s v) : s.part_of v := fun i hi => by
 refine (hv.oth i fun e he eq => ?_).symm
 have := h.off e he
 rw [eq, hi] at this
 cases this
theorem zgn {conds : List Cond} (hg : ∀ c ∈ conds, c.good) : ∀ (rest : List (Int × List Int)) (s : St), RestOK conds rest s ->
  (∀ v, qa conds rest s = some v -> CandV rest s v /\ yon conds s.p v /\ ∀ v', CandV rest s v' -> yon conds s.p v' -> zqw (rest.map (·.1)) v' v = false) /\
  (qa conds rest s = none -> ∀ v', CandV rest s v' -> ¬ yon conds s.p v')
 | [], s, h => by
  have hf : ∀ c ∈ conds, c.inF fun f => s.ch.getD f.toNat false = true := fun c hc => Cond.inF_mono (fun f hf => by rcases hf with hf | ⟨e, he, _⟩; exact hf; cases he) c (h.inF c hc)
  simp only [qa]
  by_cases h0 : zah conds s = 0
  ·rw [if_pos h0]
   refine ⟨fun v hv => (by cases hv), fun _ v' hv' hs => ?_⟩
   exact zkr hg (hv'.agree h) hs h0
  ·rw [if_neg h0]
   refine ⟨fun v hv => ?_, fun hv => by cases hv⟩
   cases hv
   have hc : CandV [] s s.vs := ⟨rfl, fun e he => (by cases he), fun _ _ => rfl⟩
   exact ⟨hc, ybc hg (hc.agree h) hf h0, fun v' _ _ => rfl⟩
 | (f, vals) :: rest, s, h => by
  simp only [qa]
  by_cases h0 : zah conds s = 0
  ·rw [if_pos h0]
   refine ⟨fun v hv => (by cases hv), fun _ v' hv' hs => ?_⟩
   exact zkr hg (hv'.agree h) hs h0
  ·rw [if_neg h0]
   constructor
   ·intro v hv
    obtain ⟨pre, w, post, he, hw, hpre⟩ := List.findSome?_eq_some_iff.1 hv
    obtain ⟨h1, h2, h3⟩ := (zgn hg rest (s.put f w) (h.put w)).1 v hw
    have hwm : w ∈ vals := by rw [he]; simp
    have hvw : v.getD f.toNat 0 = w := by
     have hf := h.rng (f, vals) (by simp)
     simp only at hf
     have hnd := h.nd
     simp only [List.map_cons, List.nodup_cons] at hnd
     have := h1.oth f.toNat (fun e he eq => by
      have hr := h.rng e (by simp [he])
      exact hnd.1 (List.mem_map.2 ⟨e, he, by omega⟩))
     simp only [St.put] at this
     rw [zeu, if_pos ⟨rfl, by omega⟩] at this
     exact this
    refine ⟨(CandV.cons h).2 ⟨w, hwm, hvw, h1⟩, h2, fun v' hv' hs => ?_⟩
    obtain ⟨w', hw', hvw', hc'⟩ := (CandV.cons h).1 hv'
    simp only [List.map_cons, zqw]
    by_cases e : w' = w
    ·subst e
     rw [if_neg (by rw [hvw, hvw']; simp)]
     exact h3 v' hc' hs
    ·rw [if_pos (by rw [hvw, hvw']; exact e), hvw, hvw']
     have hord := h.ord (f, vals) (by simp)
     simp only [he, List.pairwise_append, List.pairwise_cons] at hord
     rw [he] at hw'
     rcases List.mem_append.1 hw' with hp | hp
     ·exact absurd hs ((zgn hg rest (s.put f w') (h.put w')).2 (hpre w' hp) v' hc')
     ·rcases List.mem_cons.1 hp with hp | hp
      ·exact absurd hp e
      ·have := hord.2.1.1 w' hp
       simp only [decide_eq_false_iff_not]
       omega
   ·intro hv v' hv' hs
    obtain ⟨w', hw', hvw', hc'⟩ := (CandV.cons h).1 hv'
    exact (zgn hg rest (s.put f w') (h.put w')).2 ((List.findSome?_eq_none_iff.1 hv) w' hw') v' hc' hs
theorem ytd (l : List Int) : ∀ b : ByteArray, (l.foldl (fun r n => r.push (UInt8.ofNat n.toNat)) b).data.toList = b.data.toList ++ l.map fun n => UInt8.ofNat n.toNat := by
 induction l with
 | nil => intro b; simp
 | cons x l ih =>
  intro b
  rw [List.foldl_cons, ih]
  simp [ByteArray.push]
theorem zhz (s : St) : ∀ c : Cond, c.dec s = 0 \/ c.dec s = 1 \/ c.dec s = 2
 | .none => .inr (.inr rfl)
 | .plain o => by
  simp only [Cond.dec]
  split
  ·rcases zax (!decide ((o.val s).1 = 0)) with e | e <;> rw [e.1] <;> omega
  ·omega
 | .cmp op l r => by
  simp only [Cond.dec]
  split
  ·rcases zax (zsf op (l.val s).1 (r.val s).1) with e | e <;> rw [e.1] <;> omega
  ·omega
 | .neg c => by
  simp only [Cond.dec]
  split
  ·omega
  ·split <;> omega
 | .conn d l r => by
  simp only [Cond.dec]
  have h1 := zhz s l
  have h2 := zhz s r
  split
  ·exact h1
  ·split
   ·exact h2
   ·omega
theorem yte {atoms : List Cond} {s s' : St} (h : zna atoms s = zna atoms s') : ∀ a ∈ atoms, a.dec s = a.dec s' := by
 have h1 := congrArg (fun b : ByteArray => b.data.toList) h
 simp only [zna, ytd] at h1
 have h2 := List.append_cancel_left h1
 rw [List.map_map, List.map_map] at h2
 intro a ha
 have h3 := (List.map_inj_left.1 h2) a ha
 simp only [Function.comp] at h3
 rcases zhz s a with e | e | e <;> rcases zhz s' a with e' | e' | e' <;> rw [e, e'] at h3 ⊢ <;> first | rfl | (exact absurd h3 (by decide))
def Cond.cov (atoms : List Cond) : Cond -> Prop
 | .none => True
 | .plain o => o.op ≠ 4
 | .cmp op l r => l.op = 4 \/ r.op = 4 -> Cond.cmp op l r ∈ atoms /\ l.op ≠ 2 /\ r.op ≠ 2
 | .neg c => c.cov atoms
 | .conn _ l r => l.cov atoms /\ r.cov atoms
theorem ybd {o : Opd} (h : o.op ≠ 4) (p p' : zep) (vs : List Int) : o.tv p vs = o.tv p' vs := by
 unfold Opd.tv
 simp [h]
theorem zja {o : Opd} (h : o.op ≠ 2) (s : St) (vs : List Int) : (o.val s).2 = true /\ (o.val s).1 = o.tv s.p vs := by
 unfold Opd.val Opd.tv
 rw [if_neg h, if_neg h]
 split
 ·exact ⟨rfl, yky _ _⟩
 ·exact ⟨rfl, rfl⟩
theorem ygu {a b : Bool} (h : zjx a = zjx b) : a = b := by cases a <;> cases b <;> first | rfl | (exact absurd h (by decide))
theorem zvq {atoms : List Cond} {s s' : St} (h : ∀ a ∈ atoms, a.dec s = a.dec s') (vs : List Int) : ∀ c : Cond, c.cov atoms -> c.tru s.p vs = c.tru s'.p vs
 | .none, _ => rfl
 | .plain o, hc => by simp only [Cond.tru]; rw [ybd hc s.p s'.p]
 | .cmp op l r, hc => by
  simp only [Cond.tru]
  by_cases hd : l.op = 4 \/ r.op = 4
  ·obtain ⟨hm, h1, h2⟩ := hc hd
   have := h _ hm
   simp only [Cond.dec] at this
   obtain ⟨a1, a2⟩ := zja h1 s vs
   obtain ⟨b1, b2⟩ := zja h2 s vs
   obtain ⟨c1, c2⟩ := zja h1 s' vs
   obtain ⟨d1, d2⟩ := zja h2 s' vs
   rw [a1, b1, c1, d1, a2, b2, c2, d2] at this
   simp only [Bool.and_true, if_true] at this
   exact ygu this
  ·rw [ybd (fun e => hd (.inl e)) s.p s'.p, ybd (fun e => hd (.inr e)) s.p s'.p]
 | .neg c, hc => by simp only [Cond.tru]; rw [zvq h vs c hc]
 | .conn d l r, hc => by simp only [Cond.tru]; rw [zvq h vs l hc.1, zvq h vs r hc.2]
structure SrOK (s : Sr) (nf : Nat) : Prop where
 good : ∀ c ∈ s.conds, c.good
 rest : ∀ day, RestOK s.conds (yb s.cands) (st0 nf day)
 cov : ∀ c ∈ s.conds, c.cov s.atoms
abbrev zgo (s : Sr) (nf : Nat) (v : List Int) : Prop := CandV (yb s.cands) (st0 nf 0) v
abbrev zwt (s : Sr) (day : Int) (v : List Int) : Prop := yon s.conds (xe day) v
def zqx (s : Sr) : List Int := (yb s.cands).map (·.1)
theorem zlt {s : Sr} {nf : Nat} {v : List Int} (day : Int) : zgo s nf v ↔ CandV (yb s.cands) (st0 nf day) v := ⟨fun h => ⟨h.len, h.mem, h.oth⟩, fun h => ⟨h.len, h.mem, h.oth⟩⟩
theorem ztm {s : Sr} {nf : Nat} (hs : SrOK s nf) : ∀ (n : Nat) (day : Int) (failed : List ByteArray),
  (∀ g ∈ failed, ∃ d, zna s.atoms (st0 nf d) = g /\ ∀ v, zgo s nf v -> ¬ zwt s d v) ->
  (∀ d v, zcc s nf n day failed = some (d, v) -> day <= d /\ d < day + n /\ zgo s nf v /\ zwt s d v /\ (∀ d' v', day <= d' -> d' < d -> zgo s nf v' -> ¬ zwt s d' v') /\ ∀ v', zgo s nf v' -> zwt s d v' -> zqw (zqx s) v' v = false) /\
  (zcc s nf n day failed = none -> ∀ d v, day <= d -> d < day + n -> zgo s nf v -> ¬ zwt s d v)
 | 0, day, failed, _ => ⟨fun d v h => by simp [zcc] at h, fun _ d v h1 h2 => by omega⟩
 | n + 1, day, failed, hf => by
  have skip : (∀ v, zgo s nf v -> ¬ zwt s day v) -> ∀ failed', (∀ g ∈ failed', ∃ d, zna s.atoms (st0 nf d) = g /\ ∀ v, zgo s nf v -> ¬ zwt s d v) -> zcc s nf (n + 1) day failed = zcc s nf n (day + 1) failed' ->
    (∀ d v, zcc s nf (n + 1) day failed = some (d, v) -> day <= d /\ d < day + ((n + 1 : Nat) : Int) /\ zgo s nf v /\ zwt s d v /\ (∀ d' v', day <= d' -> d' < d -> zgo s nf v' -> ¬ zwt s d' v') /\ ∀ v', zgo s nf v' -> zwt s d v' -> zqw (zqx s) v' v = false) /\
    (zcc s nf (n + 1) day failed = none -> ∀ d v, day <= d -> d < day + ((n + 1 : Nat) : Int) -> zgo s nf v -> ¬ zwt s d v) := by
   intro h0 failed' hf' e
   rw [e]
   obtain ⟨h1, h2⟩ := ztm hs n (day + 1) failed' hf'
   refine ⟨fun d v hv => ?_, fun hv d v g1 g2 g3 => ?_⟩
   ·obtain ⟨a1, a2, a3, a4, a5, a6⟩ := h1 d v hv
    refine ⟨by omega, by omega, a3, a4, fun d' v' g1 g2 g3 => ?_, a6⟩
    by_cases e : d' = day
    ·subst e; exact h0 v' g3
    ·exact a5 d' v' (by omega) g2 g3
   ·by_cases e : d = day
    ·subst e; exact h0 v g3
    ·exact h2 hv d v (by omega) (by omega) g3
  by_cases h0 : zah s.conds (st0 nf day) = 0
  ·exact skip (fun v hv hsat => zkr hs.good (((zlt day).1 hv).agree (hs.rest day)) hsat h0) failed hf (by simp only [zcc]; rw [if_pos h0])
  ·by_cases h1 : zna s.atoms (st0 nf day) ∈ failed
   ·refine skip (fun v hv hsat => ?_) failed hf (by simp only [zcc]; rw [if_neg h0, if_pos h1])
    obtain ⟨d, hd, hno⟩ := hf _ h1
    have he := yte hd
    refine hno v hv fun c hc => ?_
    have := zvq he v c (hs.cov c hc)
    exact this.trans (hsat c hc)
   ·obtain ⟨g1, g2⟩ := zgn hs.good (yb s.cands) (st0 nf day) (hs.rest day)
    cases ha : qa s.conds (yb s.cands) (st0 nf day) with
    | some vs =>
     have e : zcc s nf (n + 1) day failed = some (day, vs) := by simp only [zcc]; rw [if_neg h0, if_neg h1, ha]
     rw [e]
     refine ⟨fun d v hv => ?_, fun hv => by cases hv⟩
     cases hv
     obtain ⟨a1, a2, a3⟩ := g1 vs ha
     exact ⟨Int.le_refl _, by omega, (zlt day).2 a1, a2, fun d' v' b1 b2 => by omega, fun v' hv' hsat => a3 v' ((zlt day).1 hv') hsat⟩
    | none =>
     have hno : ∀ v, zgo s nf v -> ¬ zwt s day v := fun v hv => g2 ha v ((zlt day).1 hv)
     refine skip hno (failed ++ [zna s.atoms (st0 nf day)]) (fun g hg => ?_) (by simp only [zcc]; rw [if_neg h0, if_neg h1, ha])
     rcases List.mem_append.1 hg with hg | hg
     ·exact hf g hg
     ·simp only [List.mem_singleton] at hg
      exact ⟨day, hg.symm, hno⟩
theorem zng {m : Nat} (h : m + 48 <= 1200) : zv (m + 48) = zv m + 1461 := by
 rw [<- zlk (m + 48) h, <- zlk m (by omega)]
 unfold zvm
 have e1 : (m + 48) / 12 = m / 12 + 4 := by omega
 have e2 : (m + 48) % 12 = m % 12 := by omega
 have e3 : (m / 12 + 4) % 4 = m / 12 % 4 := by omega
 rw [e1, e2, e3]
 generalize (if 1 < m % 12 /\ m / 12 % 4 = 0 then (1 : Int) else 0) = q
 omega
theorem ydz {d : Int} (h0 : 0 <= d) : ∀ {N : Nat}, d < zv N -> ∃ M, M < N /\ zv M <= d /\ d < zv (M + 1)
 | 0, h => by simp [zv] at h; omega
 | N + 1, h => by
  rcases Int.lt_or_le d (zv N) with h1 | h1
  ·obtain ⟨M, g1, g2, g3⟩ := ydz h0 h1
   exact ⟨M, by omega, g2, g3⟩
  ·exact ⟨N, by omega, h1, h⟩
theorem ybe {d : Int} (h : 0 <= d /\ d <= 36524) : ∃ M : Nat, M < 1200 /\ zv M <= d /\ d < zv (M + 1) /\ wj d = (2000 + ((M / 12 : Nat) : Int), ((M % 12 : Nat) : Int) + 1, d - zv M + 1) := by
 obtain ⟨M, h1, h2, h3⟩ := ydz h.1 (N := 1200) (by rw [zet]; omega)
 refine ⟨M, h1, h2, h3, ?_⟩
 have h4 : zv (M + 1) = zv M + lenOf M := rfl
 have e : 12 * (M / 12) + M % 12 = M := by omega
 exact zhv (y := M / 12) (m := M % 12) (r := d - zv M) h (by omega) (by omega) (by rw [e]; omega) (by rw [e]; omega)
theorem yla {d : Int} (h : 0 <= d /\ d + 1461 <= 36524) : (wj (d + 1461)).2 = (wj d).2 := by
 obtain ⟨M, h1, h2, h3, e⟩ := ybe (d := d) (by omega)
 have hM : M + 48 < 1200 := by
  rcases Nat.lt_or_ge (M + 48) 1200 with h' | h'
  ·exact h'
  ·have := zng (m := 1152) (by omega)
   have h5 := zds (m := 1152) (n := M) (by omega)
   rw [show 1152 + 48 = 1200 by omega, zet] at this
   omega
 have a1 := zng (m := M) (by omega)
 have a2 := zng (m := M + 1) (by omega)
 have h4 : zv (M + 1) = zv M + lenOf M := rfl
 have h5 : zv (M + 48 + 1) = zv (M + 48) + lenOf (M + 48) := rfl
 have h6 : M + 1 + 48 = M + 48 + 1 := by omega
 rw [h6] at a2
 have := zhv (d := d + 1461) (y := (M + 48) / 12) (m := (M + 48) % 12) (r := d - zv M) (by omega) (by omega) (by omega) (by rw [show 12 * ((M + 48) / 12) + (M + 48) % 12 = M + 48 by omega]; omega) (by rw [show 12 * ((M + 48) / 12) + (M + 48) % 12 = M + 48 by omega]; omega)
 rw [this, e, show (M + 48) % 12 = M % 12 by omega]
theorem ytf {d : Int} (h : 0 <= d /\ d + 7 <= 36524) : jy (d + 7) = jy d := by
 unfold jy
 rw [if_pos (by omega), if_pos (by omega), Int.tmod_eq_emod_of_nonneg (by omega), Int.tmod_eq_emod_of_nonneg (by omega)]
 omega
theorem zvr {d : Int} (h0 : 0 <= d) : ∀ k : Nat, d + 7 * k <= 36524 -> jy (d + 7 * k) = jy d
 | 0, _ => by simp
 | k + 1, h => by
  rw [<- zvr h0 k (by omega), <- ytf (d := d + 7 * k) (by omega)]
  congr 1
  omega
theorem yea {d : Int} (h0 : 0 <= d) : ∀ k : Nat, d + 1461 * k <= 36524 -> (wj (d + 1461 * k)).2 = (wj d).2
 | 0, _ => by simp
 | k + 1, h => by
  rw [<- yea h0 k (by omega), <- yla (d := d + 1461 * k) (by omega)]
  congr 2
  omega
def zqy (d : List Bool) (p p' : zep) : Prop := ∀ i : Int, 1 <= i -> i <= 4 -> d.getD i.toNat false = true -> zhy p i = zhy p' i
def Opd.dateIn (d : List Bool) (o : Opd) : Prop := o.op = 4 -> 1 <= o.n /\ o.n <= 4 /\ d.getD o.n.toNat false = true
def Cond.dateIn (d : List Bool) : Cond -> Prop
 | .none => True
 | .plain o => o.dateIn d
 | .cmp _ l r => l.dateIn d /\ r.dateIn d
 | .neg c => c.dateIn d
 | .conn _ l r => l.dateIn d /\ r.dateIn d
theorem ybf {d : List Bool} {p p' : zep} (h : zqy d p p') {o : Opd} (ho : o.dateIn d) (vs : List Int) : o.tv p vs = o.tv p' vs := by
 unfold Opd.tv
 split
 ·rfl
 ·split
  ·rename_i e
   obtain ⟨h1, h2, h3⟩ := ho e
   exact h _ h1 h2 h3
  ·rfl
theorem zpa {d : List Bool} {p p' : zep} (h : zqy d p p') (vs : List Int) : ∀ c : Cond, c.dateIn d -> c.tru p vs = c.tru p' vs
 | .none, _ => rfl
 | .plain o, hc => by simp only [Cond.tru]; rw [ybf h hc]
 | .cmp op l r, hc => by simp only [Cond.tru]; rw [ybf h hc.1, ybf h hc.2]
 | .neg c, hc => by simp only [Cond.tru]; rw [zpa h vs c hc]
 | .conn _ l r, hc => by simp only [Cond.tru]; rw [zpa h vs l hc.1, zpa h vs r hc.2]
theorem zpb (d : Int) : zhy (xe d) 1 = jy d := rfl
theorem yeb (d : Int) : zhy (xe d) 2 = (wj d).2.2 := rfl
theorem yec (d : Int) : zhy (xe d) 3 = (wj d).2.1 := rfl
theorem ygv {fl : List Bool} {a : Int} (h0 : 0 <= a) (k : Nat) (h : a + yw fl * k <= 36524) : zqy fl (xe (a + yw fl * k)) (xe a) := by
 intro i h1 h4 hi
 have hc : i = 1 \/ i = 2 \/ i = 3 \/ i = 4 := by omega
 unfold yw at h ⊢
 by_cases h4' : fl.getD 4 false = true
 ·rw [if_pos h4'] at h ⊢
  have : k = 0 := by omega
  subst this
  simp
 rw [if_neg h4'] at h ⊢
 have hc' : i = 1 \/ i = 2 \/ i = 3 := by
  rcases hc with rfl | rfl | rfl | rfl
  ·omega
  ·omega
  ·omega
  ·exact absurd hi h4'
 have md : ∀ q : Nat, a + 1461 * q <= 36524 -> (i = 2 \/ i = 3) -> zhy (xe (a + 1461 * q)) i = zhy (xe a) i := by
  intro q hq hi
  have := yea h0 q hq
  rcases hi with rfl | rfl
  ·rw [yeb, yeb, this]
  ·rw [yec, yec, this]
 by_cases h12 : (fl.getD 1 false && (fl.getD 2 false || fl.getD 3 false)) = true
 ·rw [if_pos h12] at h ⊢
  rcases hc' with rfl | hc'
  ·rw [zpb, zpb]
   have := zvr h0 (1461 * k) (by omega)
   rw [<- this]
   congr 1
   omega
  ·have := md (7 * k) (by omega) hc'
   rw [<- this]
   congr 2
   omega
 rw [if_neg h12] at h ⊢
 by_cases h23 : (fl.getD 2 false || fl.getD 3 false) = true
 ·rw [if_pos h23] at h ⊢
  rcases hc' with rfl | hc'
  ·exfalso
   have h1' : fl.getD 1 false = true := hi
   rw [h1', h23] at h12
   exact h12 rfl
  ·exact md k h hc'
 rw [if_neg h23] at h ⊢
 by_cases h1' : fl.getD 1 false = true
 ·rw [if_pos h1'] at h ⊢
  rcases hc' with rfl | hc'
  ·rw [zpb, zpb]
   exact zvr h0 k h
  ·exfalso
   rcases hc' with rfl | rfl
   ·exact h23 (by rw [show fl.getD 2 false = true from hi]; rfl)
   ·exact h23 (by rw [show fl.getD 3 false = true from hi]; simp)
 ·exfalso
  rcases hc' with rfl | rfl | rfl
  ·exact h1' hi
  ·exact h23 (by rw [show fl.getD 2 false = true from hi]; rfl)
  ·exact h23 (by rw [show fl.getD 3 false = true from hi]; simp)
theorem zks (fl : List Bool) : 1 <= yw fl := by
 unfold yw
 split
 ·omega
 ·split
  ·omega
  ·split
   ·omega
   ·split <;> omega
theorem ylb {s : Sr} {nf : Nat} (hs : SrOK s nf) (hd : ∀ c ∈ s.conds, c.dateIn s.dates) {lo hi : Int} (h0 : 0 <= lo) (h1 : hi <= 36525) :
  (∀ d v, zcc s nf (min hi (lo + yw s.dates) - lo).toNat lo [] = some (d, v) -> lo <= d /\ d < hi /\ zgo s nf v /\ zwt s d v /\ ∀ d' v', lo <= d' -> d' < hi -> zgo s nf v' -> zwt s d' v' -> d <= d' /\ (d = d' -> zqw (zqx s) v' v = false)) /\
  (zcc s nf (min hi (lo + yw s.dates) - lo).toNat lo [] = none -> ∀ d v, lo <= d -> d < hi -> zgo s nf v -> ¬ zwt s d v) := by
 have hp := zks s.dates
 obtain ⟨g1, g2⟩ := ztm hs (min hi (lo + yw s.dates) - lo).toNat lo [] (fun g hg => by cases hg)
 have back : ∀ d v, lo <= d -> d < hi -> zwt s d v -> ∃ d', lo <= d' /\ d' <= d /\ d' < min hi (lo + yw s.dates) /\ zwt s d' v := by
  intro d v hd1 hd2 hsat
  generalize hH : yw s.dates = H at *
  have hm := Int.emod_def (d - lo) H
  have hr0 := Int.emod_nonneg (d - lo) (show H ≠ 0 by omega)
  have hr1 := Int.emod_lt_of_pos (d - lo) (show 0 < H by omega)
  have hq : 0 <= (d - lo) / H := Int.ediv_nonneg (by omega) (by omega)
  obtain ⟨k, hk⟩ : ∃ k : Nat, (d - lo) / H = k := ⟨((d - lo) / H).toNat, by omega⟩
  rw [hk] at hm
  have hle : 0 <= H * (k : Int) := Int.mul_nonneg (by omega) (by omega)
  have e : d = lo + (d - lo) % H + H * k := by omega
  refine ⟨lo + (d - lo) % H, by omega, by omega, by omega, fun c hc => ?_⟩
  have hb := ygv (fl := s.dates) (a := lo + (d - lo) % H) (by omega) k (by rw [hH]; omega)
  rw [hH, <- e] at hb
  rw [<- zpa hb v c (hd c hc)]
  exact hsat c hc
 constructor
 ·intro d v hv
  obtain ⟨a1, a2, a3, a4, a5, a6⟩ := g1 d v hv
  refine ⟨a1, by omega, a3, a4, fun d' v' b1 b2 b3 b4 => ?_⟩
  obtain ⟨d2, c1, c2, c3, c4⟩ := back d' v' b1 b2 b4
  have hle : d <= d2 := by
   rcases Int.lt_or_le d2 d with h | h
   ·exact absurd c4 (a5 d2 v' c1 h b3)
   ·exact h
  refine ⟨by omega, fun e => ?_⟩
  have : d2 = d := by omega
  subst this
  exact a6 v' b3 c4
 ·intro hv d v b1 b2 b3 b4
  obtain ⟨d2, c1, c2, c3, c4⟩ := back d v b1 b2 b4
  exact g2 hv d2 v c1 (by omega) b3 c4
theorem ylc {d : Int} (h : 1 <= d /\ d <= 36524) (hlt : (wj (d - 1)).2.2 < 28) : wj d = ((wj (d - 1)).1, (wj (d - 1)).2.1, (wj (d - 1)).2.2 + 1) := by
 obtain ⟨M, h1, h2, h3, e⟩ := ybe (d := d - 1) (by omega)
 rw [e] at hlt ⊢
 simp only at hlt ⊢
 have hr := zec M
 have := zhv (d := d) (y := M / 12) (m := M % 12) (r := d - zv M) (by omega) (by omega) (by omega) (by rw [show 12 * (M / 12) + M % 12 = M by omega]; omega) (by rw [show 12 * (M / 12) + M % 12 = M by omega]; omega)
 rw [this]
 congr 2
 omega
theorem yle {d : Int} (h : 1 <= d /\ d <= 36524) : jy d = (jy (d - 1)).tmod 7 + 1 := by
 unfold jy
 rw [if_pos (by omega), if_pos (by omega), Int.tmod_eq_emod_of_nonneg (a := d + 5) (by omega), Int.tmod_eq_emod_of_nonneg (a := d - 1 + 5) (by omega), Int.tmod_eq_emod_of_nonneg (by omega)]
 omega
theorem yoo {d : Int} (h : 0 <= d /\ d <= 36524) : 2000 <= (wj d).1 /\ (wj d).1 <= 2099 /\ 1 <= (wj d).2.1 /\ (wj d).2.1 <= 12 /\ 1 <= (wj d).2.2 /\ (wj d).2.2 <= 31 := by
 obtain ⟨M, h1, h2, h3, e⟩ := ybe h
 rw [e]
 simp only
 have hr := zec M
 have hst : zv (M + 1) = zv M + lenOf M := rfl
 omega
theorem yop {d : Int} (h : 0 <= d /\ d <= 36524) : 1 <= jy d /\ jy d <= 7 := by
 unfold jy
 rw [if_pos h, Int.tmod_eq_emod_of_nonneg (by omega)]
 omega
def WHL (X : Nat -> SObj) (p0 p1 p2 p3 p4 : Int) (ch : List Bool) (vs : List Int) : List SObj :=
  [X 0, X 1, X 2, X 3, X 4, X 5, X 6, X 7, X 8, X 9, X 10, X 11, X 12, X 13, X 14, X 15, X 16, X 17, X 18, X 19, X 20, .cells (ch.map bvS), .cells (vs.map ivS),
   .cells [ivS p0, ivS p1, ivS p2, ivS p3, ivS p4, .osl 21 0 ch.length, .osl 22 0 vs.length]]
theorem ytg (X : Nat -> SObj) (p0 p1 p2 p3 p4 : Int) (ch : List Bool) (vs : List Int) : WH X ⟨(p0, p1, p2, p3, p4), ch, vs⟩ = WHL X p0 p1 p2 p3 p4 ch vs := rfl
theorem zlu {X : Nat -> SObj} (hX : ∀ i, (X i).under 24 = true) (p0 p1 p2 p3 p4 : Int) (ch : List Bool) (vs : List Int) (day : Int) (hp : p4 = 0 \/ 28 <= p2) :
  SPre Tryz.prog G0 68 [.ptr 23 0, sI day] (WH X ⟨(p0, p1, p2, p3, p4), ch, vs⟩) (fun r H' => r = .tup [] /\ H' = WH X ⟨xe day, ch, vs⟩) := by
 refine zbl hX Tryz.func68 rfl (by rw [Tryz.ntmps68]; simp) rfl ?_; intro E hH hK
 rw [ytg]
 (refine zf ?_; conv => whnf)
 repeat' ((with_reducible refine way ?_ ?_) <;> (intro h; conv => whnf))
 all_goals try (exfalso; omega)
 all_goals refine ze rfl  (ykx day) ?_
 all_goals (refine za ?_; conv => whnf)
 all_goals refine ze rfl  (zym G0 day) ?_
 all_goals (refine za ?_; conv => whnf)
 all_goals exact hK (.tup []) [] ⟨xe day, ch, vs⟩ rfl ⟨rfl, rfl⟩
theorem zyn {X : Nat -> SObj} (hX : ∀ i, (X i).under 24 = true) (p0 p1 p2 p3 p4 : Int) (ch : List Bool) (vs : List Int) (day : Int) (hp : 0 < p4 /\ p2 < 28) (h1 : 1 <= p1 /\ p1 <= 7) (h2 : 0 <= p2) :
  SPre Tryz.prog G0 68 [.ptr 23 0, sI day] (WH X ⟨(p0, p1, p2, p3, p4), ch, vs⟩) (fun r H' => r = .tup [] /\ H' = WH X ⟨(p0, p1.tmod 7 + 1, p2 + 1, p3, p4), ch, vs⟩) := by
 refine zbl hX Tryz.func68 rfl (by rw [Tryz.ntmps68]; simp) rfl ?_; intro E hH hK
 rw [ytg]
 (refine zf ?_; conv => whnf)
 repeat' ((with_reducible refine way ?_ ?_) <;> (intro h; conv => whnf))
 all_goals try (exfalso; omega)
 (refine zu 0 mixed rfl ?_; refine zb [777] (nx := 24) ?_; conv => whnf)
 (refine zf ?_; conv => whnf)
 (refine zu 0 mixed rfl ?_; refine zb [777] (nx := 24) ?_; conv => whnf)
 (refine zf ?_; conv => whnf)
 have e1 : IntKind.i64.wrap (p2 + 1) = p2 + 1 := xh (by omega) (by omega)
 have e2 : IntKind.i64.wrap (p1.tmod 7 + 1) = p1.tmod 7 + 1 := by
  have := Int.tmod_eq_emod_of_nonneg (a := p1) (b := 7) (by omega)
  rw [this]
  exact xh (by omega) (by omega)
 have := hK (.tup []) [] ⟨(p0, IntKind.i64.wrap (p1.tmod 7 + 1), IntKind.i64.wrap (p2 + 1), p3, p4), ch, vs⟩ rfl ⟨rfl, by rw [e1, e2]⟩
 exact this
theorem zyo {X : Nat -> SObj} (hX : ∀ i, (X i).under 24 = true) (s : St) (day : Int) (hd : 0 <= day /\ day <= 36524) (hp : s.p = (0, 0, 0, 0, 0) \/ (1 <= day /\ s.p = xe (day - 1))) :
  SPre Tryz.prog G0 68 [.ptr 23 0, sI day] (WH X s) (fun r H' => r = .tup [] /\ H' = WH X ⟨xe day, s.ch, s.vs⟩) := by
 obtain ⟨p, ch, vs⟩ := s
 simp only at hp
 rcases hp with rfl | ⟨h1, rfl⟩
 ·exact zlu hX 0 0 0 0 0 ch vs day (.inl rfl)
 ·have hw := yop (d := day - 1) (by omega)
  have hr := yoo (d := day - 1) (by omega)
  by_cases h28 : (wj (day - 1)).2.2 < 28
  ·have hn := ylc (d := day) ⟨h1, hd.2⟩ h28
   have hnw := yle (d := day) ⟨h1, hd.2⟩
   have := zyn hX 0 (jy (day - 1)) (wj (day - 1)).2.2 (wj (day - 1)).2.1 (wj (day - 1)).1 ch vs day ⟨by omega, h28⟩ hw (by omega)
   refine this.mono fun r H1 ⟨e1, e2⟩ => ⟨e1, ?_⟩
   rw [e2, <- hnw]
   unfold xe
   rw [hn]
  ·exact zlu hX 0 (jy (day - 1)) (wj (day - 1)).2.2 (wj (day - 1)).2.1 (wj (day - 1)).1 ch vs day (.inr (by omega))
abbrev yS (n : Int) : SV := .imm (.val (.int .u8 n))
theorem yth {n : Int} (h : n = 0 \/ n = 1 \/ n = 2) : IntKind.u8.wrap (IntKind.i64.wrap (48 + n)) = 48 + n := by
 rcases h with rfl | rfl | rfl <;> rfl
theorem zso {Y : Nat -> SObj} (hY : ∀ i, (Y i).under 24 = true) (c : Codex) (vers : List Int) (q : Sr) (s : St) (hl : s.ch.length = s.vs.length) (hc : ∀ x ∈ q.atoms, x.ok s.vs.length /\ ∃ op l r, x = .cmp op l r) (hsz : q.atoms.length <= 1073741824) :
  SPre Tryz.prog G 70 [.ptr 2 0, .ptr 23 0] (WH (XS Y (yc c vers q)) s) (fun r H' => r = sS (zna q.atoms s) /\ H' = WH (XS Y (yc c vers q)) s) := by
 have hX := zdo hY c vers q
 have hll : (q.atoms.map Cond.row).length = q.atoms.length := by simp
 refine zbl hX Tryz.func70 rfl (by rw [Tryz.ntmps70]; simp) rfl ?_; intro E hH hK
 (refine zf ?_; conv => whnf)
 refine ykt (n := q.atoms.length) (zz := yS 0) rfl rfl rfl rfl rfl rfl rfl rfl rfl ⟨by decide, rfl⟩ rfl (by rw [hll]) (by rw [hll]) hsz ?_
 (refine za ?_; conv => whnf)
 refine zg [0, 1, 5, 17, 18, 19] ?_
 rw [show List.replicate q.atoms.length (yS 0) = ([] : List Cond).map (fun a => yS (48 + a.dec s)) ++ List.replicate q.atoms.length (yS 0) from rfl]
 refine zq q.atoms (fun i (_ : List Cond × Nat) => [(0, .ptr 2 0), (1, .ptr 23 0), (5, .osl 24 0 q.atoms.length), (17, .asl 16 5 (q.atoms.map Cond.row)), (18, ivS (q.atoms.map Cond.row).length), (19, ivS i)])
  (fun _ d => WH (XS Y (yc c vers q)) s ++ [.cells (d.1.map (fun a => yS (48 + a.dec s)) ++ List.replicate d.2 (yS 0))]) (fun done rest d => d = (done, rest.length)) ([], q.atoms.length) rfl ?_ ?_
 ·rintro _ rfl
  (refine zf ?_; conv => whnf)
  repeat' ((with_reducible refine way ?_ ?_) <;> (intro h; conv => whnf))
  all_goals try (exfalso; omega)
  refine ykr (ns := q.atoms.map fun a => 48 + a.dec s) rfl rfl rfl rfl (by show some (SObj.cells (q.atoms.map (fun a => yS (48 + a.dec s)) ++ [])) = _; rw [List.append_nil, List.map_map]; rfl) (by simp) rfl rfl rfl ?_
  (refine za ?_; conv => whnf)
  exact hK (sS _) [_] s rfl ⟨rfl, rfl⟩
 ·rintro done x rest _ ha hlen rfl ih
  have hw := zm (n := done.length) (by omega)
  obtain ⟨hx, op, l, r, rfl⟩ := hc x (by rw [ha]; simp)
  have hrow : (q.atoms.map Cond.row)[((done.length : Nat) : Int).toNat]? = some (Cond.row (.cmp op l r)) := by simp [ha]
  have hdx := zlr G hX s hl _ hx
  (refine zf ?_; conv => whnf)
  repeat' ((with_reducible refine way ?_ ?_) <;> (intro h; conv => whnf))
  all_goals try (exfalso; omega)
  refine zh rfl rfl  hrow ?_
  (refine za ?_; conv => whnf)
  refine yx 24 rfl rfl rfl rfl rfl rfl hdx ?_
  intro r1 H1 hr _
  obtain ⟨rfl, rfl⟩ := hr
  (refine za ?_; conv => whnf)
  rw [yth (zhz s _)]
  refine zgk (i := done.length) rfl rfl rfl rfl rfl rfl rfl rfl (by omega) ?_
  refine ju (d := done.map fun a => yS (48 + a.dec s)) (zz := yS 0) (r := List.replicate rest.length (yS 0)) (v := yS (48 + Cond.dec s (.cmp op l r))) rfl rfl rfl rfl rfl rfl rfl rfl rfl (by show 0 + done.length * 1 = _; simp) ?_
  (refine za ?_; conv => whnf)
  rw [hw]
  have := ih (done ++ [.cmp op l r], rest.length) rfl
  simp only [List.map_append, List.map_cons, List.map_nil, List.append_assoc, List.cons_append, List.nil_append] at this
  refine yr [0, 1, 5, 17, 18, 19] 25 (by omega) (by simp [WH]) rfl ?_ this
  show (WH (XS Y (yc c vers q)) s ++ [SObj.cells (done.map (fun a => yS (48 + a.dec s)) ++ yS (48 + Cond.dec s (.cmp op l r)) :: List.replicate rest.length (yS 0))]).all (SObj.under 25) = true
  rw [List.all_append, xb (by omega) (zbk hX s)]
  simp only [List.all_cons, List.all_nil, Bool.and_true, Bool.true_and, zyl]
  exact zkq _ _ _ (zaf (f := fun a : Cond => yS (48 + a.dec s)) (fun _ => rfl) _) (by simp only [SV.under.allUnder, zhw 25 (zz := yS 0) rfl]; rfl)
theorem zyp {Y : Nat -> SObj} (hY : ∀ i, (Y i).under 24 = true) (c : Codex) (vers : List Int) (q : Sr) (s : St) :
  SPre Tryz.prog G 97 [.ptr 2 0] (WH (XS Y (yc c vers q)) s) (fun r H' => r = sI (yw q.dates) /\ H' = WH (XS Y (yc c vers q)) s) := by
 have hX := zdo hY c vers q
 refine zbl hX Tryz.func97 rfl (by rw [Tryz.ntmps97]; simp) rfl ?_; intro E hH hK
 have hz : yw q.dates = if q.dates.getD 4 false then 36525 else if q.dates.getD 1 false && (q.dates.getD 2 false || q.dates.getD 3 false) then 10227 else if q.dates.getD 2 false || q.dates.getD 3 false then 1461 else if q.dates.getD 1 false then 7 else 1 := rfl
 rw [hz] at hK
 generalize hcs : yc c vers q = cs at hK ⊢
 unfold yc at hcs
 generalize q.dates.getD 0 false = d0 at hcs
 generalize q.dates.getD 1 false = d1 at hK hcs
 generalize q.dates.getD 2 false = d2 at hK hcs
 generalize q.dates.getD 3 false = d3 at hK hcs
 generalize q.dates.getD 4 false = d4 at hK hcs
 subst hcs
 cases d1 <;> cases d2 <;> cases d3 <;> cases d4 <;> ((refine zf ?_; conv => whnf)) <;> exact hK (sI _) [] s rfl ⟨rfl, rfl⟩
abbrev zev (c : Codex) (r : Int × Int) (v : Int) : Int × Int := match wy c v with | some a => (max r.1 a.lo, min r.2 a.hi) | none => r
def ylf (c : Codex) : Prop := ∀ a ∈ c.arts, 0 <= a.lo /\ a.lo <= 36525 /\ 0 <= a.hi /\ a.hi <= 36525
theorem zfs {c : Codex} {v : Int} {a : Article} (h : wy c v = some a) : a ∈ c.arts := by
 obtain ⟨j, _, h2⟩ := zln h
 exact List.mem_of_getElem? h2
theorem zyq {c : Codex} (hd : ylf c) : ∀ (vs : List Int) (r : Int × Int), 0 <= r.1 /\ r.1 <= 36525 /\ 0 <= r.2 /\ r.2 <= 36525 -> 0 <= (vs.foldl (zev c) r).1 /\ (vs.foldl (zev c) r).1 <= 36525 /\ 0 <= (vs.foldl (zev c) r).2 /\ (vs.foldl (zev c) r).2 <= 36525
 | [], r, h => h
 | v :: vs, r, h => by
  rw [List.foldl_cons]
  refine zyq hd vs _ ?_
  unfold zev
  split
  ·rename_i a ha
   have := hd a (zfs ha)
   simp only
   omega
  ·exact h
theorem ygw {Y : Nat -> SObj} (hY : ∀ i, (Y i).under 24 = true) (c : Codex) (vers : List Int) (q : Sr) (s : St) (hd : ylf c) (hv : ∀ v ∈ vers, 0 <= v /\ v < c.arts.length) (hsz : vers.length <= 1073741824) :
  SPre Tryz.prog G 67 [.ptr 2 0] (WH (XS Y (yc c vers q)) s) (fun r H' => r = .tup [sI (ym c vers).1, sI (min (ym c vers).2 ((ym c vers).1 + yw q.dates))] /\ H' = WH (XS Y (yc c vers q)) s) := by
 have hX := zdo hY c vers q
 have hll : (vers.map fun n => [dI n]).length = vers.length := by simp
 have hhor : yw q.dates <= 36525 /\ 0 <= yw q.dates := by
  have := zks q.dates
  unfold yw at *
  split <;> (try split) <;> (try split) <;> (try split) <;> simp_all
 refine zbl hX Tryz.func67 rfl (by rw [Tryz.ntmps67]; simp) rfl ?_; intro E hH hK
 (refine zf ?_; conv => whnf)
 refine zg [0, 4, 5, 11, 12, 13] ?_
 refine zq vers (fun i (r : Int × Int) => [(0, .ptr 2 0), (4, sI r.1), (5, sI r.2), (11, .imm (zl vers)), (12, ivS (vers.map fun n => [dI n]).length), (13, ivS i)])
  (fun _ _ => WH (XS Y (yc c vers q)) s) (fun _ rest r => ym c vers = rest.foldl (zev c) r /\ 0 <= r.1 /\ r.1 <= 36525 /\ 0 <= r.2 /\ r.2 <= 36525) (0, 36525) ⟨rfl, by decide⟩ ?_ ?_
 ·rintro ⟨r1, r2⟩ ⟨h1, hr⟩
  simp only [List.foldl_nil] at h1 hr
  rw [h1] at hK
  (refine zf ?_; conv => whnf)
  repeat' ((with_reducible refine way ?_ ?_) <;> (intro h; conv => whnf))
  all_goals try (exfalso; omega)
  refine yx 24 rfl rfl rfl rfl rfl rfl (zyp G hY c vers q s) ?_
  intro r3 H1 h3 _
  obtain ⟨rfl, rfl⟩ := h3
  (refine za ?_; conv => whnf)
  have e : (if IntKind.i64.wrap (r1 + yw q.dates) < r2 then IntKind.i64.wrap (r1 + yw q.dates) else r2) = min r2 (r1 + yw q.dates) := by
   rw [xh (by omega) (by omega)]
   omega
  exact hK (.tup [sI r1, sI (if IntKind.i64.wrap (r1 + yw q.dates) < r2 then IntKind.i64.wrap (r1 + yw q.dates) else r2)]) [] s rfl ⟨by rw [e], rfl⟩
 ·rintro done v rest ⟨r1, r2⟩ ha hlen ⟨h1, hr⟩ ih
  have hw := zm (n := done.length) (by omega)
  have hvr := hv v (by rw [ha]; simp)
  obtain ⟨a, haa⟩ : ∃ a, wy c v = some a := by
   refine ⟨c.arts[v.toNat]'(by omega), ?_⟩
   unfold wy
   rw [if_neg (by omega), List.getElem?_eq_getElem]
  have hrow : (vers.map fun n => [dI n])[((done.length : Nat) : Int).toNat]? = some [dI v] := by simp [ha]
  have harow : (c.arts.map Article.cells)[v.toNat]? = some a.cells := by
   obtain ⟨j, rfl, h2⟩ := zln haa
   simp [h2]
  rw [List.foldl_cons, zev, haa] at h1
  (refine zf ?_; conv => whnf)
  repeat' ((with_reducible refine way ?_ ?_) <;> (intro h; conv => whnf))
  all_goals try (exfalso; omega)
  refine zh rfl rfl  hrow ?_
  (refine za ?_; conv => whnf)
  refine zh (i := v.toNat) rfl (by omega) harow ?_
  (refine za ?_; conv => whnf)
  refine zh (i := v.toNat) rfl (by omega) harow ?_
  (refine za ?_; conv => whnf)
  rw [hw]
  have had := hd a (zfs haa)
  simp only at hr h1
  have e1 : (if r1 < a.lo then a.lo else r1) = max r1 a.lo := by omega
  have e2 : (if a.hi < r2 then a.hi else r2) = min r2 a.hi := by omega
  exact yr [0, 4, 5, 11, 12, 13] 24 (by omega) (by simp [WH]) rfl (zbk hX s) (ih (if r1 < a.lo then a.lo else r1, if a.hi < r2 then a.hi else r2) ⟨by rw [e1, e2]; exact h1, by simp only; omega⟩)
theorem ylg (m : Nat) : ydy Tryz.prog G 103 [.map m] 142 [.map m] := by
 intro H
 refine xa Tryz.func103 rfl (by rw [Tryz.ntmps103]; simp) ?_
 intro E hH hK
 (refine zf ?_; conv => whnf)
 exact hK _ _ ⟨rfl, rfl⟩
theorem ylh (m : Nat) : ydy Tryz.prog G 102 [.map m] 141 [.map m] := by
 intro H
 refine xa Tryz.func102 rfl (by rw [Tryz.ntmps102]; simp) ?_
 intro E hH hK
 (refine zf ?_; conv => whnf)
 exact hK _ _ ⟨rfl, rfl⟩
structure KeyH (Hf : SObj -> List Int -> List SObj) (es : List (Int × SV)) (N m b L : Nat) (lp : SObj) : Prop where
 len : ∀ o d, (Hf o d).length = N
 box : ∀ o d, (Hf o d)[b]? = some (.cells [.map m])
 map : ∀ o d, (Hf o d)[m]? = some o
 set : ∀ o o' d, (Hf o d).set m o' = Hf o' d
 loop : ∀ o d, (Hf o d)[L]? = some lp
 und : ∀ es' clock d, es'.map (·.2) = es -> (Hf (.pin .i64 es' clock) d).all (SObj.under N) = true
theorem ybg {Hf : SObj -> List Int -> List SObj} {es : List (Int × SV)} {N m b L : Nat} {f : FuncId} {n : Nat} {tL : List (Nat × SV)} {ps : Array Tmp} {asg bd : Code} (hf : KeyH Hf es N m b L (.loop .ready f n tL ps asg bd)) (hps : 1 = ps.size) (hLN : L < N) (hbN : b < N)
  (hy : ∀ es' clock done x it, es'.map (·.2) = es -> done.length < es.length -> SYield Tryz.prog G L [sI x] (Hf (.pin .i64 es' clock) done ++ [.iter m clock it clock]) (fun res H' => res = true /\ N + 1 <= H'.length /\ H'.take (N + 1) = Hf (.pin .i64 es' clock) (done ++ [x]) ++ [.iter m clock it clock])) :
  SCall Tryz.prog G 142 [.yld L, .ptr b 0] (Hf (.mapI .i64 es) []) (fun _ H' => ∃ ks, ks.Perm (es.map (·.1)) /\ N <= H'.length /\ H'.take N = Hf (.mapI .i64 es) ks) := by
 refine xa Tryz.func142 rfl (by rw [Tryz.ntmps142]; simp) ?_
 intro E hH hK
 rw [hf.len] at hH
 refine ydv (b := m) (hf.map _ _) ?_
 intro es' clock hes hst
 rw [hf.set]
 (refine ww [777, 4] 1000 ?_; conv => whnf)
 refine xz (v := .map m) rfl rfl rfl rfl (hf.box _ _) rfl ?_
 (refine za ?_; conv => whnf)
 refine zlo rfl rfl rfl rfl rfl (hf.map _ _) ?_
 rw [hf.len]
 (refine za ?_; conv => whnf)
 refine zg [0, 1, 5] ?_
 have hlen : es'.length = es.length := by rw [<- hes]; simp
 refine xr (σ := List Nat × List Int) (fun _ => [(0, .yld L), (1, .ptr b 0), (5, .ptr N 0)]) (fun x => Hf (.pin .i64 es' clock) x.2 ++ [.iter m clock x.1 clock])
  (fun x => (x.2 ++ (zbj es' x.1).map (·.2.1)).Perm (es'.map (·.2.1))) (fun x => (zbj es' x.1).length) ?_ ([], []) (by simp [zlp])
 rintro ⟨seen, done⟩ hp ih
 simp only at hp ih
 have hbi : (Hf (.pin .i64 es' clock) done ++ [SObj.iter m clock seen clock])[N]? = some (.iter m clock seen clock) := by
  rw [List.getElem?_append_right (by rw [hf.len]; exact Nat.le_refl _), hf.len]; simp
 have hbm : (Hf (.pin .i64 es' clock) done ++ [SObj.iter m clock seen clock])[m]? = some (.pin .i64 es' clock) := by
  rw [List.getElem?_append_left (by have := lt_of_getElem? (hf.map (.pin .i64 es' clock) done); exact this), hf.map]
 have hmN : m < N := by have := lt_of_getElem? (hf.map (.pin .i64 es' clock) done); rwa [hf.len] at this
 have hes1 : es'.map (·.2.1) = es.map (·.1) := by rw [<- hes, List.map_map]; rfl
 show SW E _ _ (Hf (.pin .i64 es' clock) done ++ [.iter m clock seen clock])
 (refine zf ?_; conv => whnf)
 refine zoz rfl rfl rfl rfl hbi hbm hst (Nat.le_refl _) (fun h0 => ?_) (fun e he => ?_)
 ·refine jf (fun k h => zvo (b := m) hbm h) ?_
  (refine za ?_; conv => whnf)
  have e : ((Hf (.pin .i64 es' clock) done ++ [SObj.iter m clock seen clock]).set m (.mapI .i64 (es'.map (·.2)))) = Hf (.mapI .i64 es) done ++ [SObj.iter m clock seen clock] := by
   rw [List.set_append_left _ _ (by rw [hf.len]; exact hmN), hf.set, hes]
  rw [e]
  rw [h0, hes1] at hp
  refine hK _ _ ⟨done, by simpa using hp, by simp [hf.len], ?_⟩
  rw [List.take_append_of_le_length (by rw [hf.len]; exact Nat.le_refl _), List.take_of_length_le (by rw [hf.len]; exact Nat.le_refl _)]
 ·have hset : ∀ it, (Hf (.pin .i64 es' clock) done ++ [SObj.iter m clock seen clock]).set N (.iter m clock it clock) = Hf (.pin .i64 es' clock) done ++ [SObj.iter m clock it clock] := by
   intro it
   rw [List.set_append_right _ _ (by rw [hf.len]; exact Nat.le_refl _), hf.len]
   simp
  rw [hset]
  have hbi2 : (Hf (.pin .i64 es' clock) done ++ [SObj.iter m clock (seen ++ [e.1]) clock])[N]? = some (.iter m clock (seen ++ [e.1]) clock) := by
   rw [List.getElem?_append_right (by rw [hf.len]; exact Nat.le_refl _), hf.len]; simp
  have hbm2 : (Hf (.pin .i64 es' clock) done ++ [SObj.iter m clock (seen ++ [e.1]) clock])[m]? = some (.pin .i64 es' clock) := by
   rw [List.getElem?_append_left (by rw [hf.len]; exact hmN), hf.map]
  have hloop : (Hf (.pin .i64 es' clock) done ++ [SObj.iter m clock (seen ++ [e.1]) clock])[L]? = some (.loop .ready f n tL ps asg bd) := by
   rw [List.getElem?_append_left (by rw [hf.len]; exact hLN), hf.loop]
  obtain ⟨e1, e2, e3⟩ := e
  have hperm := ziw hst.1 he
  have hpl := hperm.length_eq
  have hpm := hperm.map (·.2.1)
  simp only [List.map_cons, List.length_cons] at hpm hpl
  have hdl : done.length < es.length := by
   have := hp.length_eq
   simp only [List.length_append, List.length_map] at this
   omega
  (refine xl [777, 9] 1000 ?_; conv => whnf)
  refine zlq rfl rfl rfl rfl hbi2 hbm2 (zfq he) ?_
  (refine za ?_; conv => whnf)
  refine zxo rfl rfl rfl rfl hloop hps rfl ?_
  refine (hy es' clock done e2 (seen ++ [e1]) hes hdl).mono ?_
  rintro _ H' ⟨rfl, hl', ht⟩
  refine ⟨by simp only [List.length_append, hf.len, List.length_singleton]; omega, ?_⟩
  (refine za ?_; conv => whnf)
  refine yr [0, 1, 5] (N + 1) (by omega) hl' (by show ((decide (L < N + 1)) && (decide (b < N + 1) && (decide (N < N + 1) && true))) = true; simp; omega) ?_ ?_
  ·rw [ht, List.all_append, xb (by omega) (hf.und es' clock _ hes)]
   simp [SObj.under]
   omega
  ·rw [ht]
   exact ih (seen ++ [e1], done ++ [e2]) (by
    refine List.Perm.trans ?_ hp
    simp only [List.append_assoc, List.cons_append, List.nil_append]
    exact (List.Perm.refl done).append hpm.symm) (by simp only; omega)
theorem ybh {Hf : SObj -> List Int -> List SObj} {es : List (Int × SV)} {N m b L : Nat} {f : FuncId} {n : Nat} {tL : List (Nat × SV)} {ps : Array Tmp} {asg bd : Code} (hf : KeyH Hf es N m b L (.loop .ready f n tL ps asg bd)) (hps : 1 = ps.size) (hLN : L < N) (hbN : b < N)
  (hy : ∀ es' clock done x it, es'.map (·.2) = es -> done.length < es.length -> SYield Tryz.prog G L [sI x] (Hf (.pin .i64 es' clock) done ++ [.iter m clock it clock]) (fun res H' => res = true /\ N + 1 <= H'.length /\ H'.take (N + 1) = Hf (.pin .i64 es' clock) (done ++ [x]) ++ [.iter m clock it clock])) :
  SCall Tryz.prog G 141 [.yld L, .ptr b 0] (Hf (.mapI .i64 es) []) (fun _ H' => ∃ ks, ks.Perm (es.map (·.1)) /\ N <= H'.length /\ H'.take N = Hf (.mapI .i64 es) ks) := by
 refine xa Tryz.func141 rfl (by rw [Tryz.ntmps141]; simp) ?_
 intro E hH hK
 rw [hf.len] at hH
 refine ydv (b := m) (hf.map _ _) ?_
 intro es' clock hes hst
 rw [hf.set]
 (refine ww [777, 4] 1000 ?_; conv => whnf)
 refine xz (v := .map m) rfl rfl rfl rfl (hf.box _ _) rfl ?_
 (refine za ?_; conv => whnf)
 refine zlo rfl rfl rfl rfl rfl (hf.map _ _) ?_
 rw [hf.len]
 (refine za ?_; conv => whnf)
 refine zg [0, 1, 5] ?_
 have hlen : es'.length = es.length := by rw [<- hes]; simp
 refine xr (σ := List Nat × List Int) (fun _ => [(0, .yld L), (1, .ptr b 0), (5, .ptr N 0)]) (fun x => Hf (.pin .i64 es' clock) x.2 ++ [.iter m clock x.1 clock])
  (fun x => (x.2 ++ (zbj es' x.1).map (·.2.1)).Perm (es'.map (·.2.1))) (fun x => (zbj es' x.1).length) ?_ ([], []) (by simp [zlp])
 rintro ⟨seen, done⟩ hp ih
 simp only at hp ih
 have hbi : (Hf (.pin .i64 es' clock) done ++ [SObj.iter m clock seen clock])[N]? = some (.iter m clock seen clock) := by
  rw [List.getElem?_append_right (by rw [hf.len]; exact Nat.le_refl _), hf.len]; simp
 have hbm : (Hf (.pin .i64 es' clock) done ++ [SObj.iter m clock seen clock])[m]? = some (.pin .i64 es' clock) := by
  rw [List.getElem?_append_left (by have := lt_of_getElem? (hf.map (.pin .i64 es' clock) done); exact this), hf.map]
 have hmN : m < N := by have := lt_of_getElem? (hf.map (.pin .i64 es' clock) done); rwa [hf.len] at this
 have hes1 : es'.map (·.2.1) = es.map (·.1) := by rw [<- hes, List.map_map]; rfl
 show SW E _ _ (Hf (.pin .i64 es' clock) done ++ [.iter m clock seen clock])
 (refine zf ?_; conv => whnf)
 refine zoz rfl rfl rfl rfl hbi hbm hst (Nat.le_refl _) (fun h0 => ?_) (fun e he => ?_)
 ·refine jf (fun k h => zvo (b := m) hbm h) ?_
  (refine za ?_; conv => whnf)
  have e : ((Hf (.pin .i64 es' clock) done ++ [SObj.iter m clock seen clock]).set m (.mapI .i64 (es'.map (·.2)))) = Hf (.mapI .i64 es) done ++ [SObj.iter m clock seen clock] := by
   rw [List.set_append_left _ _ (by rw [hf.len]; exact hmN), hf.set, hes]
  rw [e]
  rw [h0, hes1] at hp
  refine hK _ _ ⟨done, by simpa using hp, by simp [hf.len], ?_⟩
  rw [List.take_append_of_le_length (by rw [hf.len]; exact Nat.le_refl _), List.take_of_length_le (by rw [hf.len]; exact Nat.le_refl _)]
 ·have hset : ∀ it, (Hf (.pin .i64 es' clock) done ++ [SObj.iter m clock seen clock]).set N (.iter m clock it clock) = Hf (.pin .i64 es' clock) done ++ [SObj.iter m clock it clock] := by
   intro it
   rw [List.set_append_right _ _ (by rw [hf.len]; exact Nat.le_refl _), hf.len]
   simp
  rw [hset]
  have hbi2 : (Hf (.pin .i64 es' clock) done ++ [SObj.iter m clock (seen ++ [e.1]) clock])[N]? = some (.iter m clock (seen ++ [e.1]) clock) := by
   rw [List.getElem?_append_right (by rw [hf.len]; exact Nat.le_refl _), hf.len]; simp
  have hbm2 : (Hf (.pin .i64 es' clock) done ++ [SObj.iter m clock (seen ++ [e.1]) clock])[m]? = some (.pin .i64 es' clock) := by
   rw [List.getElem?_append_left (by rw [hf.len]; exact hmN), hf.map]
  have hloop : (Hf (.pin .i64 es' clock) done ++ [SObj.iter m clock (seen ++ [e.1]) clock])[L]? = some (.loop .ready f n tL ps asg bd) := by
   rw [List.getElem?_append_left (by rw [hf.len]; exact hLN), hf.loop]
  obtain ⟨e1, e2, e3⟩ := e
  have hperm := ziw hst.1 he
  have hpl := hperm.length_eq
  have hpm := hperm.map (·.2.1)
  simp only [List.map_cons, List.length_cons] at hpm hpl
  have hdl : done.length < es.length := by
   have := hp.length_eq
   simp only [List.length_append, List.length_map] at this
   omega
  (refine xl [777, 9] 1000 ?_; conv => whnf)
  refine zlq rfl rfl rfl rfl hbi2 hbm2 (zfq he) ?_
  (refine za ?_; conv => whnf)
  refine zxo rfl rfl rfl rfl hloop hps rfl ?_
  refine (hy es' clock done e2 (seen ++ [e1]) hes hdl).mono ?_
  rintro _ H' ⟨rfl, hl', ht⟩
  refine ⟨by simp only [List.length_append, hf.len, List.length_singleton]; omega, ?_⟩
  (refine za ?_; conv => whnf)
  refine yr [0, 1, 5] (N + 1) (by omega) hl' (by show ((decide (L < N + 1)) && (decide (b < N + 1) && (decide (N < N + 1) && true))) = true; simp; omega) ?_ ?_
  ·rw [ht, List.all_append, xb (by omega) (hf.und es' clock _ hes)]
   simp [SObj.under]
   omega
  ·rw [ht]
   exact ih (seen ++ [e1], done ++ [e2]) (by
    refine List.Perm.trans ?_ hp
    simp only [List.append_assoc, List.cons_append, List.nil_append]
    exact (List.Perm.refl done).append hpm.symm) (by simp only; omega)
theorem znh (b : Nat) (l : List Int) (H : List SObj) (hb : H[b]? = some (.vec 1 (l.map sI))) (hsz : l.length <= 1073741824) :
  SCall Tryz.prog G 64 [.vec b l.length] H (fun r H' => r = .tup [] /\ H' = H.set b (.vec 1 ((jj l).map sI))) := by
 intro w I β vs hH hv
 obtain ⟨v, hvs, hr⟩ := hv.one
 have hvv : vs = #[v] := by apply Array.ext'; simpa using hvs
 subst hvv
 obtain ⟨hbu, hcase⟩ := zkl hH hb hr (by simp) (Nat.le_refl _)
 rcases hcase with ⟨h0, rfl, _⟩ | ⟨c, cap, cur, T, rfl, a1, a2, a2', hmax, a3, a4⟩
 ·have hl : l = [] := List.length_eq_zero_iff.1 h0
  subst hl
  refine (Go.Proofs.Tryz.slices_Sort_int_none none 0 w).mono ?_
  rintro e w' ⟨rfl, rfl⟩
  refine ⟨_, .tup [], I, β, _, rfl, ⟨rfl, rfl⟩, .tup #[] [] rfl (fun j h => by simp at h), ?_⟩
  have e : H.set b (.vec 1 ((jj ([] : List Int)).map sI)) = H := by
   have : (jj ([] : List Int)).map sI = ([] : List Int).map sI := by simp
   rw [this]
   obtain ⟨hlt, he⟩ := List.getElem?_eq_some_iff.1 hb
   rw [<- he]
   exact List.set_getElem_self hlt
  rw [e]
  exact ⟨hH, .refl⟩
 have hsl : (jj l).length = l.length := by simp
 have htake : cur.toList.take l.length = l.map (Value.int .i64) := by
  apply List.ext_getElem
  ·simp [a2]; omega
  ·intro j h1 h2
   have hj : j < l.length := by simpa using h2
   have hjc : j < cur.size := by rw [a2]; omega
   have := a3 j (by simpa using hj) hjc
   simp only [List.getElem_map] at this
   simp only [List.getElem_take, Array.getElem_toList, List.getElem_map]
   generalize cur[j] = q at this
   cases this with | imm h => cases h; rfl
 refine (Go.Proofs.Tryz.slices_Sort_int c 0 cap l w (holds_of_blockI a1 htake) (qq a1) (by omega)).mono ?_
 rintro e w' ⟨rfl, n, os, rfl⟩
 have hblk := heap_sortedI (w := w) (n := n) (os := os) (jj l).toArray a1
 have hgrow := grownBy_sortedI (w := w) (g := c) (n := n) (os := os) (jj l).toArray
 generalize Go.Sort.grow (Go.Sort.putRow (Value.int .i64) (Go.Sort.ahead w n) c 0 (jj l).toArray) os = w' at hblk hgrow
 have hold : ∀ c', c' < w.heap.size -> c' ≠ c -> w'.heap[c']? = w.heap[c']? := fun c' h1 h2 => hgrow.block c' h1 (fun e => h2 (by cases e; rfl))
 have hcellI : ∀ c' o, I c' o -> w'.cell? ⟨c', o, none⟩ = w.cell? ⟨c', o, none⟩ := fun c' o hi => yv (hold c' (hH.inI c' o hi) (fun e => a4 o (e ▸ hi))) o
 have hown : qp H β b c := ⟨_, _, hb, by simp, hbu, rfl⟩
 have hbl := lt_of_getElem? hb
 have key : ∀ b' c', qp (H.set b (.vec 1 ((jj l).map sI))) β b' c' -> qp H β b' c' := by
  rintro b' c' ⟨p, x, g1, g2, g3, g4⟩
  by_cases e : b' = b
  ·subst e; rw [hbu] at g3; cases g3; cases g4; exact hown
  ·rw [List.getElem?_set_ne (Ne.symm e)] at g1; exact ⟨p, x, g1, g2, g3, g4⟩
 have hnew : ObjOK w' I β (.vec 1 ((jj l).map sI)) (.tok (.slice (some ⟨c, 0, none⟩) l.length cap)) := by
  refine .inr ⟨c, l.length, cap, _, T, rfl, hblk, by simp [Go.Sort.putCells, a2], a2', hmax, by simp, fun j hj hj' => ?_, a4⟩
  have hjc : j < cur.size := by simpa [Go.Sort.putCells] using hj'
  have hjl : j < l.length := by simpa using hj
  simp only [Go.Sort.putCells, Array.getElem_mapIdx]
  rw [if_pos ⟨Nat.zero_le _, by simp; omega⟩]
  simp only [List.getElem_map, Nat.sub_zero]
  have : (jj l).toArray[j]! = (jj l)[j]'(by omega) := by simp [hjl]
  rw [this]
  exact .imm (.val _)
 refine ⟨_, .tup [], I, β, _, rfl, ⟨rfl, rfl⟩, .tup #[] [] rfl (fun j h => by simp at h), ⟨by simp [hH.len], fun b' p x g1 g2 => ?_, fun x y c' g1 g2 => hH.inj x y c' (key x c' g1) (key y c' g2), fun c' o hi => Nat.lt_of_lt_of_le (hH.inI c' o hi) hgrow.size, fun g d hg => (hH.glob g d hg).mono (fun _ _ h => h) hcellI⟩,
  ⟨fun _ _ h => h, hcellI, .refl _ _, fun c' hc' hn => hold c' hc' (fun e => hn b (e ▸ hown)), fun b' c' g => .inl ⟨b', key b' c' g⟩, fun _ _ h => .inl h, hgrow.size, ⟨hgrow.os, hgrow.output⟩⟩⟩
 by_cases e : b' = b
 ·subst e
  rw [hbu] at g2; cases g2
  rw [List.getElem?_set_self hbl] at g1; cases g1
  exact hnew
 ·rw [List.getElem?_set_ne (Ne.symm e)] at g1
  by_cases hpd : p = .dead
  ·subst hpd; trivial
  ·refine (hH.obj b' p x g1 g2).mono (fun c' hc' => hold c' ((hH.obj b' p x g1 g2).block_lt hpd hc') ?_) (fun _ _ h => h) hcellI (.refl _ _) (fun _ _ _ h => h)
   rintro rfl
   exact e (hH.inj b' b _ ⟨p, x, g1, hpd, g2, hc'⟩ hown)
abbrev zdp : SV := .imm (.val (.slice none 0 0))
theorem zvs {p : SObj -> Bool} {H : List SObj} {m : Nat} {o : SObj} (hH : H.all p = true) (ho : p o = true) : (H.set m o).all p = true := by
 simp only [List.all_eq_true] at hH ⊢
 intro x hx
 rcases List.mem_or_eq_of_mem_set hx with h | rfl
 ·exact hH x h
 ·exact ho
theorem yed {H : List SObj} {m : Nat} {o : SObj} (h : H[m]? = some o) : H.set m o = H := by
 obtain ⟨hlt, he⟩ := List.getElem?_eq_some_iff.1 h
 rw [<- he]
 exact List.set_getElem_self hlt
theorem zlv {es : List (Int × SV)} {es' : List (Nat × Int × SV)} {clock n : Nat} (h : (SObj.mapI .i64 es).under n = true) (he : es'.map (·.2) = es) : (SObj.pin .i64 es' clock).under n = true := by
 subst he
 simp only [SObj.under, List.all_eq_true, List.mem_map, forall_exists_index, and_imp] at h ⊢
 intro e he
 exact h e.2 e he rfl
theorem yli {H : List SObj} {m : Nat} {o : SObj} (h : H[m]? = some o) : o ∈ H := List.mem_of_getElem? h
section
variable {A : List SObj} {n : Nat} (hn : A.length = n) (a a' c l it : SObj)
include hn
theorem yvn : (A ++ [a, c, l] ++ [it]).set n a' = A ++ [a', c, l] ++ [it] := by subst hn; simp
theorem yvo : (A ++ [a, c, l] ++ [it]).set (n + 1) a' = A ++ [a, a', l] ++ [it] := by subst hn; simp
theorem yuh : (A ++ [a, c, l] ++ [it]).set (n + 2) a' = A ++ [a, c, a'] ++ [it] := by subst hn; simp
theorem yui : (A ++ [a, c, l] ++ [it])[n]? = some a := by subst hn; simp
theorem yvp : (A ++ [a, c, l] ++ [it])[n + 1]? = some c := by subst hn; simp
theorem ysl : (A ++ [a, c, l] ++ [it])[n + 2]? = some l := by subst hn; simp
end
theorem zyr {H : List SObj} {es : List (Int × SV)} {m b : Nat} (hb : H[b]? = some (.cells [.map m])) (hm : H[m]? = some (.mapI .i64 es)) (hmb : m ≠ b) (hu : H.all (SObj.under H.length) = true) (hsz : es.length <= 1073741824) :
  SCall Tryz.prog G 165 [zdp, .fn (.func 142) [] [.ptr b 0]] H (fun r H' => ∃ ks : List Int, ks.Perm (es.map (·.1)) /\ r = .vec (H.length + 1) ks.length /\ H.length + 2 <= H'.length /\ H'.take (H.length + 2) = H ++ [.cells [.vec (H.length + 1) ks.length], .vec 1 (ks.map sI)]) := by
 refine xa Tryz.func165 rfl (by rw [Tryz.ntmps165]; simp) ?_
 intro E hH hK
 have hbl := lt_of_getElem? hb
 have hml := lt_of_getElem? hm
 (refine zf ?_; conv => whnf)
 refine zmu H.length 0 1 (cs := [zdp]) (by show (H ++ [SObj.cells [zdp]])[H.length]? = _; simp) rfl ?_
 have e1 : (H ++ [SObj.cells [zdp]]).set H.length (.cells ([zdp].set 0 (.vec (H ++ [SObj.cells [zdp]]).length 0))) ++ [.vec 1 []] = H ++ [SObj.cells [.vec (H.length + 1) 0], .vec 1 []] := by simp
 refine zg [2, 6] ?_
 refine Eq.mpr (congrArg (fun h => SW E _ _ h) e1) ?_
 show SW E _ [(2, .ptr H.length 0), (6, .fn (.func 142) [] [.ptr b 0])] _
 refine zhr rfl rfl ?_
 generalize hlp : SObj.loop .ready E.f _ [(2, SV.ptr H.length 0), (6, SV.fn (.func 142) [] [.ptr b 0])] _ _ _ = lp
 have hset : H.set m (.mapI .i64 es) = H := yed hm
 have hAl : ∀ o, (H.set m o).length = H.length := fun o => by simp
 have hf : KeyH (fun o (d : List Int) => H.set m o ++ [.cells [.vec (H.length + 1) d.length], .vec 1 (d.map sI), lp]) es (H.length + 3) m b (H.length + 2) lp := by
  refine ⟨fun o d => by simp, fun o d => ?_, fun o d => ?_, fun o o' d => ?_, fun o d => ?_, fun es' clock d he => ?_⟩
  ·rw [List.getElem?_append_left (by rw [hAl]; exact hbl), List.getElem?_set_ne hmb]; exact hb
  ·rw [List.getElem?_append_left (by rw [hAl]; exact hml), List.getElem?_set_self hml]
  ·rw [List.set_append_left _ _ (by rw [hAl]; exact hml), List.set_set]
  ·rw [List.getElem?_append_right (by rw [hAl]; omega), hAl]; simp
  ·rw [List.all_append, zvs (xb (m := H.length) (n := H.length + 3) (by omega) hu) (zlv (SObj.under_mono (m := H.length) (by omega) _ (by rw [List.all_eq_true] at hu; exact hu _ (yli hm))) he)]
   subst hlp
   simp only [List.all_cons, List.all_nil, SObj.under, SV.under.allUnder, SV.under, zaf (f := sI) (fun _ => rfl), Bool.and_true, Bool.true_and, SV.under.allUnder, Bool.and_eq_true, decide_eq_true_eq]
   omega
 have harg : H ++ [SObj.cells [.vec (H.length + 1) 0], SObj.vec 1 []] ++ [lp] = (fun o (d : List Int) => H.set m o ++ [.cells [.vec (H.length + 1) d.length], .vec 1 (d.map sI), lp]) (.mapI .i64 es) [] := by
  simp [hset]
 have hlen : (H ++ [SObj.cells [.vec (H.length + 1) 0], SObj.vec 1 []]).length = H.length + 2 := by simp
 rw [harg, hlen]
 subst hlp
 refine (ybg G hf rfl (by omega) (by omega) ?_).mono ?_
 ·intro es' clock done x it hes hdl
  refine zhs (ysl (hAl _) _ _ _ _) E.hfn rfl (by decide) ?_
  intro E3 hl3 hOwn hKR
  (refine zf ?_; conv => whnf)
  refine zvb hOwn (ysl (hAl _) _ _ _ _) ?_
  refine Eq.mpr (congrArg (fun h => SW E3 _ _ h) (yuh (hAl _) _ _ _ _ _)) ?_
  (refine ww [777, 8] 1000 ?_; conv => whnf)
  refine xz (v := .vec (H.length + 1) done.length) rfl rfl rfl rfl (yui (hAl _) _ _ _ _) rfl ?_
  (refine za ?_; conv => whnf)
  refine zqg (kk := 1) (new := [[dI x]]) rfl rfl rfl rfl rfl rfl rfl rfl rfl rfl ⟨by decide, rfl⟩ (yvp (hAl _) _ _ _ _) (by simp) (Nat.le_refl _) (by simp) (by simp; omega) ?_
  refine Eq.mpr (congrArg (fun h => SWr E3 _ _ _ _ h) (yvo (hAl _) _ _ _ _ _)) ?_
  refine ju (d := []) (zz := .vec (H.length + 1) done.length) (r := []) (v := .vec (H.length + 1) (done.length + 1)) rfl rfl rfl rfl rfl rfl rfl rfl (yui (hAl _) _ _ _ _) rfl ?_
  refine Eq.mpr (congrArg (fun h => SWr E3 _ _ _ _ h) (yvn (hAl _) _ _ _ _ _)) ?_
  (refine za ?_; conv => whnf)
  refine hKR none _ _ (by simp) (ysl (hAl _) _ _ _ _) ⟨rfl, by simp, ?_⟩
  rw [yuh (hAl _), List.take_of_length_le (by simp)]
  simp [LS.of]
 ·rintro r H' ⟨ks, hp, hl', ht⟩
  have hkl : ks.length = es.length := by rw [hp.length_eq]; simp
  have hg2 : H'[H.length + 2]? = (H'.take (H.length + 3))[H.length + 2]? := by rw [List.getElem?_take, if_pos (by omega)]
  refine ⟨by omega, .ready, [(2, .ptr H.length 0), (6, .fn (.func 142) [] [.ptr b 0])], ?_, .inl ⟨rfl, ?_⟩⟩
  ·rw [hg2, ht, List.getElem?_append_right (by rw [hAl]; omega), hAl]
   simp
  ·have ht2 : (H'.set (H.length + 2) .dead).take (H.length + 2) = H ++ [.cells [.vec (H.length + 1) ks.length], .vec 1 (ks.map sI)] := by
    rw [List.take_set_of_le (Nat.le_refl _)]
    have : H'.take (H.length + 2) = (H'.take (H.length + 3)).take (H.length + 2) := by rw [List.take_take]; congr 1; omega
    rw [this, ht, hset, List.take_append]
    simp
    exact List.take_of_length_le (by omega)
   refine yr [2] (H.length + 2) (by omega) (by simp; omega) (by show (decide (H.length < H.length + 2) && true) = true; simp) ?_ ?_
   ·rw [ht2, List.all_append, xb (m := H.length) (by omega) hu]
    simp [SObj.under, SV.under, SV.under.allUnder, zaf (f := sI) (fun _ => rfl)]
   ·rw [ht2]
    (refine ww [777, 12] 1000 ?_; conv => whnf)
    refine xz (v := .vec (H.length + 1) ks.length) (cs := [.vec (H.length + 1) ks.length]) rfl rfl rfl rfl (by simp) rfl ?_
    (refine za ?_; conv => whnf)
    exact hK _ _ ⟨ks, hp, rfl, by simp, by rw [List.take_of_length_le (by simp)]⟩
theorem zys {a b : List Int} (h : a.Perm b) : jj a = jj b := by
 have ha := List.mergeSort_perm a fun x y => decide (x <= y)
 have hb := List.mergeSort_perm b fun x y => decide (x <= y)
 have sa : (jj a).Pairwise fun x y => x <= y := by
  have := List.pairwise_mergeSort (le := fun (x y : Int) => decide (x <= y)) (fun a b c h1 h2 => by simp at *; omega) (fun a b => by simp; omega) a
  simpa using this
 have sb : (jj b).Pairwise fun x y => x <= y := by
  have := List.pairwise_mergeSort (le := fun (x y : Int) => decide (x <= y)) (fun a b c h1 h2 => by simp at *; omega) (fun a b => by simp; omega) b
  simpa using this
 exact List.Perm.eq_of_pairwise (fun x y _ _ h1 h2 => by omega) sa sb ((ha.trans h).trans hb.symm)
theorem zyt {H : List SObj} {es : List (Int × SV)} {m b : Nat} (hb : H[b]? = some (.cells [.map m])) (hm : H[m]? = some (.mapI .i64 es)) (hmb : m ≠ b) (hu : H.all (SObj.under H.length) = true) (hsz : es.length <= 1073741824) :
  SCall Tryz.prog G 165 [zdp, .fn (.func 141) [] [.ptr b 0]] H (fun r H' => ∃ ks : List Int, ks.Perm (es.map (·.1)) /\ r = .vec (H.length + 1) ks.length /\ H.length + 2 <= H'.length /\ H'.take (H.length + 2) = H ++ [.cells [.vec (H.length + 1) ks.length], .vec 1 (ks.map sI)]) := by
 refine xa Tryz.func165 rfl (by rw [Tryz.ntmps165]; simp) ?_
 intro E hH hK
 have hbl := lt_of_getElem? hb
 have hml := lt_of_getElem? hm
 (refine zf ?_; conv => whnf)
 refine zmu H.length 0 1 (cs := [zdp]) (by show (H ++ [SObj.cells [zdp]])[H.length]? = _; simp) rfl ?_
 have e1 : (H ++ [SObj.cells [zdp]]).set H.length (.cells ([zdp].set 0 (.vec (H ++ [SObj.cells [zdp]]).length 0))) ++ [.vec 1 []] = H ++ [SObj.cells [.vec (H.length + 1) 0], .vec 1 []] := by simp
 refine zg [2, 6] ?_
 refine Eq.mpr (congrArg (fun h => SW E _ _ h) e1) ?_
 show SW E _ [(2, .ptr H.length 0), (6, .fn (.func 141) [] [.ptr b 0])] _
 refine zhr rfl rfl ?_
 generalize hlp : SObj.loop .ready E.f _ [(2, SV.ptr H.length 0), (6, SV.fn (.func 141) [] [.ptr b 0])] _ _ _ = lp
 have hset : H.set m (.mapI .i64 es) = H := yed hm
 have hAl : ∀ o, (H.set m o).length = H.length := fun o => by simp
 have hf : KeyH (fun o (d : List Int) => H.set m o ++ [.cells [.vec (H.length + 1) d.length], .vec 1 (d.map sI), lp]) es (H.length + 3) m b (H.length + 2) lp := by
  refine ⟨fun o d => by simp, fun o d => ?_, fun o d => ?_, fun o o' d => ?_, fun o d => ?_, fun es' clock d he => ?_⟩
  ·rw [List.getElem?_append_left (by rw [hAl]; exact hbl), List.getElem?_set_ne hmb]; exact hb
  ·rw [List.getElem?_append_left (by rw [hAl]; exact hml), List.getElem?_set_self hml]
  ·rw [List.set_append_left _ _ (by rw [hAl]; exact hml), List.set_set]
  ·rw [List.getElem?_append_right (by rw [hAl]; omega), hAl]; simp
  ·rw [List.all_append, zvs (xb (m := H.length) (n := H.length + 3) (by omega) hu) (zlv (SObj.under_mono (m := H.length) (by omega) _ (by rw [List.all_eq_true] at hu; exact hu _ (yli hm))) he)]
   subst hlp
   simp only [List.all_cons, List.all_nil, SObj.under, SV.under.allUnder, SV.under, zaf (f := sI) (fun _ => rfl), Bool.and_true, Bool.true_and, SV.under.allUnder, Bool.and_eq_true, decide_eq_true_eq]
   omega
 have harg : H ++ [SObj.cells [.vec (H.length + 1) 0], SObj.vec 1 []] ++ [lp] = (fun o (d : List Int) => H.set m o ++ [.cells [.vec (H.length + 1) d.length], .vec 1 (d.map sI), lp]) (.mapI .i64 es) [] := by
  simp [hset]
 have hlen : (H ++ [SObj.cells [.vec (H.length + 1) 0], SObj.vec 1 []]).length = H.length + 2 := by simp
 rw [harg, hlen]
 subst hlp
 refine (ybh G hf rfl (by omega) (by omega) ?_).mono ?_
 ·intro es' clock done x it hes hdl
  refine zhs (ysl (hAl _) _ _ _ _) E.hfn rfl (by decide) ?_
  intro E3 hl3 hOwn hKR
  (refine zf ?_; conv => whnf)
  refine zvb hOwn (ysl (hAl _) _ _ _ _) ?_
  refine Eq.mpr (congrArg (fun h => SW E3 _ _ h) (yuh (hAl _) _ _ _ _ _)) ?_
  (refine ww [777, 8] 1000 ?_; conv => whnf)
  refine xz (v := .vec (H.length + 1) done.length) rfl rfl rfl rfl (yui (hAl _) _ _ _ _) rfl ?_
  (refine za ?_; conv => whnf)
  refine zqg (kk := 1) (new := [[dI x]]) rfl rfl rfl rfl rfl rfl rfl rfl rfl rfl ⟨by decide, rfl⟩ (yvp (hAl _) _ _ _ _) (by simp) (Nat.le_refl _) (by simp) (by simp; omega) ?_
  refine Eq.mpr (congrArg (fun h => SWr E3 _ _ _ _ h) (yvo (hAl _) _ _ _ _ _)) ?_
  refine ju (d := []) (zz := .vec (H.length + 1) done.length) (r := []) (v := .vec (H.length + 1) (done.length + 1)) rfl rfl rfl rfl rfl rfl rfl rfl (yui (hAl _) _ _ _ _) rfl ?_
  refine Eq.mpr (congrArg (fun h => SWr E3 _ _ _ _ h) (yvn (hAl _) _ _ _ _ _)) ?_
  (refine za ?_; conv => whnf)
  refine hKR none _ _ (by simp) (ysl (hAl _) _ _ _ _) ⟨rfl, by simp, ?_⟩
  rw [yuh (hAl _), List.take_of_length_le (by simp)]
  simp [LS.of]
 ·rintro r H' ⟨ks, hp, hl', ht⟩
  have hkl : ks.length = es.length := by rw [hp.length_eq]; simp
  have hg2 : H'[H.length + 2]? = (H'.take (H.length + 3))[H.length + 2]? := by rw [List.getElem?_take, if_pos (by omega)]
  refine ⟨by omega, .ready, [(2, .ptr H.length 0), (6, .fn (.func 141) [] [.ptr b 0])], ?_, .inl ⟨rfl, ?_⟩⟩
  ·rw [hg2, ht, List.getElem?_append_right (by rw [hAl]; omega), hAl]
   simp
  ·have ht2 : (H'.set (H.length + 2) .dead).take (H.length + 2) = H ++ [.cells [.vec (H.length + 1) ks.length], .vec 1 (ks.map sI)] := by
    rw [List.take_set_of_le (Nat.le_refl _)]
    have : H'.take (H.length + 2) = (H'.take (H.length + 3)).take (H.length + 2) := by rw [List.take_take]; congr 1; omega
    rw [this, ht, hset, List.take_append]
    simp
    exact List.take_of_length_le (by omega)
   refine yr [2] (H.length + 2) (by omega) (by simp; omega) (by show (decide (H.length < H.length + 2) && true) = true; simp) ?_ ?_
   ·rw [ht2, List.all_append, xb (m := H.length) (by omega) hu]
    simp [SObj.under, SV.under, SV.under.allUnder, zaf (f := sI) (fun _ => rfl)]
   ·rw [ht2]
    (refine ww [777, 12] 1000 ?_; conv => whnf)
    refine xz (v := .vec (H.length + 1) ks.length) (cs := [.vec (H.length + 1) ks.length]) rfl rfl rfl rfl (by simp) rfl ?_
    (refine za ?_; conv => whnf)
    exact hK _ _ ⟨ks, hp, rfl, by simp, by rw [List.take_of_length_le (by simp)]⟩
theorem zvt {H : List SObj} {es : List (Int × SV)} {m b : Nat} (hb : H[b]? = some (.cells [.map m])) (hm : H[m]? = some (.mapI .i64 es)) (hmb : m ≠ b) (hu : H.all (SObj.under H.length) = true) (hsz : es.length <= 1073741824) :
  SCall Tryz.prog G 140 [.fn (.func 142) [] [.ptr b 0]] H (fun r H' => ∃ ks : List Int, ks.Perm (es.map (·.1)) /\ r = .vec (H.length + 1) ks.length /\ H.length + 2 <= H'.length /\ H'.take (H.length + 2) = H ++ [.cells [.vec (H.length + 1) ks.length], .vec 1 (ks.map sI)]) := by
 refine xa Tryz.func140 rfl (by rw [Tryz.ntmps140]; simp) ?_
 intro E hH hK
 (refine zf ?_; conv => whnf)
 refine wh rfl rfl rfl rfl rfl rfl ((zyr G hb hm hmb hu hsz).mono ?_)
 rintro r H' ⟨ks, hp, rfl, hl, ht⟩
 refine ⟨by omega, ?_⟩
 (refine za ?_; conv => whnf)
 exact hK _ _ ⟨ks, hp, rfl, hl, ht⟩
theorem zyu {H : List SObj} {es : List (Int × SV)} {m b : Nat} (hb : H[b]? = some (.cells [.map m])) (hm : H[m]? = some (.mapI .i64 es)) (hmb : m ≠ b) (hu : H.all (SObj.under H.length) = true) (hsz : es.length <= 1073741824) :
  SCall Tryz.prog G 101 [.fn (.func 142) [] [.ptr b 0]] H (fun r H' => r = .imm (zl (jj (es.map (·.1)))) /\ H' = H) := by
 refine xa Tryz.func101 rfl (by rw [Tryz.ntmps101]; simp) ?_
 intro E hH hK
 (refine zf ?_; conv => whnf)
 refine wh rfl rfl rfl rfl rfl rfl ((zvt G hb hm hmb hu hsz).mono ?_)
 rintro r H' ⟨ks, hp, rfl, hl, ht⟩
 refine ⟨by omega, ?_⟩
 have hkl : ks.length = es.length := by rw [hp.length_eq]; simp
 have hg1 : H'[H.length + 1]? = some (.vec 1 (ks.map sI)) := by
  have : H'[H.length + 1]? = (H'.take (H.length + 2))[H.length + 1]? := by rw [List.getElem?_take, if_pos (by omega)]
  rw [this, ht]
  simp
 (refine za ?_; conv => whnf)
 refine wh rfl rfl rfl rfl rfl rfl ((znh G (H.length + 1) ks H' hg1 (by omega)).mono ?_)
 rintro r H2 ⟨rfl, rfl⟩
 refine ⟨by simp, ?_⟩
 have hsl : (jj ks).length = ks.length := by simp
 rw [<- zys hp] at hK
 generalize jj ks = ss at hK hsl ⊢
 have hg2 : (H'.set (H.length + 1) (.vec 1 (ss.map sI)))[H.length + 1]? = some (.vec 1 (ss.map sI)) := List.getElem?_set_self (by omega)
 have hc := zms (ss.map dI)
 rw [List.length_map, hsl] at hc
 have ht2 : ((H'.set (H.length + 1) (.vec 1 (ss.map sI))).set (H.length + 1) .dead).take H.length = H := by
  rw [List.set_set, List.take_set_of_le (by omega)]
  have : H'.take H.length = (H'.take (H.length + 2)).take H.length := by rw [List.take_take]; congr 1; omega
  rw [this, ht]
  simp
 refine jf (t' := [(3, .imm (zl ss))]) (H' := H) (fun k h => ydo 3 (H.length + 1) ks.length 1 (cs := ss.map sI) (ds := ss.map dI) rfl hg2 (by simp [SV.one]) (by rw [show ss.map sI = (ss.map dI).map SV.imm by simp]; exact zvc _) (by simp [hsl]) (Nat.le_refl _) ?_) ?_
 ·refine yr [3] H.length (by omega) (by simp; omega) rfl (by rw [ht2]; exact hu) ?_
  rw [ht2, hc]
  exact cast (by simp [zl]; rfl) h
 ·(refine za ?_; conv => whnf)
  exact hK _ _ ⟨rfl, rfl⟩
theorem zvu {H : List SObj} {es : List (Int × SV)} {m b : Nat} (hb : H[b]? = some (.cells [.map m])) (hm : H[m]? = some (.mapI .i64 es)) (hmb : m ≠ b) (hu : H.all (SObj.under H.length) = true) (hsz : es.length <= 1073741824) :
  SCall Tryz.prog G 140 [.fn (.func 141) [] [.ptr b 0]] H (fun r H' => ∃ ks : List Int, ks.Perm (es.map (·.1)) /\ r = .vec (H.length + 1) ks.length /\ H.length + 2 <= H'.length /\ H'.take (H.length + 2) = H ++ [.cells [.vec (H.length + 1) ks.length], .vec 1 (ks.map sI)]) := by
 refine xa Tryz.func140 rfl (by rw [Tryz.ntmps140]; simp) ?_
 intro E hH hK
 (refine zf ?_; conv => whnf)
 refine wh rfl rfl rfl rfl rfl rfl ((zyt G hb hm hmb hu hsz).mono ?_)
 rintro r H' ⟨ks, hp, rfl, hl, ht⟩
 refine ⟨by omega, ?_⟩
 (refine za ?_; conv => whnf)
 exact hK _ _ ⟨ks, hp, rfl, hl, ht⟩
theorem zyv {H : List SObj} {es : List (Int × SV)} {m b : Nat} (hb : H[b]? = some (.cells [.map m])) (hm : H[m]? = some (.mapI .i64 es)) (hmb : m ≠ b) (hu : H.all (SObj.under H.length) = true) (hsz : es.length <= 1073741824) :
  SCall Tryz.prog G 101 [.fn (.func 141) [] [.ptr b 0]] H (fun r H' => r = .imm (zl (jj (es.map (·.1)))) /\ H' = H) := by
 refine xa Tryz.func101 rfl (by rw [Tryz.ntmps101]; simp) ?_
 intro E hH hK
 (refine zf ?_; conv => whnf)
 refine wh rfl rfl rfl rfl rfl rfl ((zvu G hb hm hmb hu hsz).mono ?_)
 rintro r H' ⟨ks, hp, rfl, hl, ht⟩
 refine ⟨by omega, ?_⟩
 have hkl : ks.length = es.length := by rw [hp.length_eq]; simp
 have hg1 : H'[H.length + 1]? = some (.vec 1 (ks.map sI)) := by
  have : H'[H.length + 1]? = (H'.take (H.length + 2))[H.length + 1]? := by rw [List.getElem?_take, if_pos (by omega)]
  rw [this, ht]
  simp
 (refine za ?_; conv => whnf)
 refine wh rfl rfl rfl rfl rfl rfl ((znh G (H.length + 1) ks H' hg1 (by omega)).mono ?_)
 rintro r H2 ⟨rfl, rfl⟩
 refine ⟨by simp, ?_⟩
 have hsl : (jj ks).length = ks.length := by simp
 rw [<- zys hp] at hK
 generalize jj ks = ss at hK hsl ⊢
 have hg2 : (H'.set (H.length + 1) (.vec 1 (ss.map sI)))[H.length + 1]? = some (.vec 1 (ss.map sI)) := List.getElem?_set_self (by omega)
 have hc := zms (ss.map dI)
 rw [List.length_map, hsl] at hc
 have ht2 : ((H'.set (H.length + 1) (.vec 1 (ss.map sI))).set (H.length + 1) .dead).take H.length = H := by
  rw [List.set_set, List.take_set_of_le (by omega)]
  have : H'.take H.length = (H'.take (H.length + 2)).take H.length := by rw [List.take_take]; congr 1; omega
  rw [this, ht]
  simp
 refine jf (t' := [(3, .imm (zl ss))]) (H' := H) (fun k h => ydo 3 (H.length + 1) ks.length 1 (cs := ss.map sI) (ds := ss.map dI) rfl hg2 (by simp [SV.one]) (by rw [show ss.map sI = (ss.map dI).map SV.imm by simp]; exact zvc _) (by simp [hsl]) (Nat.le_refl _) ?_) ?_
 ·refine yr [3] H.length (by omega) (by simp; omega) rfl (by rw [ht2]; exact hu) ?_
  rw [ht2, hc]
  exact cast (by simp [zl]; rfl) h
 ·(refine za ?_; conv => whnf)
  exact hK _ _ ⟨rfl, rfl⟩
end Go.Proofs.YtblpjknmhajcgaaGreatDoor
namespace Go.Sh
def zof (ops : Array Oper) (listed : Array Bool) : List Nat :=
 (List.range ops.size).filter fun i => !listed.getD i true && ((ops[i]?).map (·.after.all fun e => !Region.binds .any e || listed.getD e.on false)).getD false
def zyw (ops : Array Oper) : Nat -> Array Bool -> List (List Nat)
 | 0, _ => [[]]
 | n + 1, listed => match zof ops listed with
  | [] => [[]]
  | r :: rs => (r :: rs).flatMap fun i => (zyw ops n (listed.setIfInBounds i true)).map (i :: ·)
theorem ypz (ops : Array Oper) : ∀ (fuel t : Nat) (listed : Array Bool), Region.linearise.go .any ops fuel t listed [] ∈ zyw ops fuel listed
  | 0, t, listed => by simp [Region.linearise.go, zyw]
  | fuel + 1, t, listed => by
    simp only [Region.linearise.go, zyw]
    change (match (zof ops listed)[t % (zof ops listed).length]? with
      | some i => Region.linearise.go .any ops fuel (t / (zof ops listed).length) (listed.setIfInBounds i true) [i]
      | none => [].reverse) ∈ _
    cases hi : (zof ops listed)[t % (zof ops listed).length]? with
    | none =>
      cases hr : zof ops listed with
      | nil => simp
      | cons x xs =>
        rw [hr] at hi
        have hlt : t % (x :: xs).length < (x :: xs).length := Nat.mod_lt _ (by simp)
        simp at hi
        simp at hlt
        omega
    | some i =>
      have hm := List.mem_of_getElem? hi
      cases hr : zof ops listed with
      | nil => rw [hr] at hm; cases hm
      | cons x xs =>
        rw [hr] at hm
        simp only []
        rw [linearise_go_acc, List.reverse_singleton, List.singleton_append]
        refine List.mem_flatMap.2 ⟨i, hm, List.mem_map.2 ⟨_, ypz ops fuel _ _, rfl⟩⟩
def runsOf (ops : Array Oper) : List (List Nat) := zyw ops ops.size (Array.replicate ops.size false)
section
variable {P : Program} {G : List (Nat × D)} {fn : Func} {rd : Bool} {E : En P G fn rd} {t : List (Nat × SV)} {H : List SObj} {k : List Item}
theorem ylj {id : Nat} {all : Array Oper} (hm : P.follows .mixedOrders = true) {L : List (List Nat)} (hL : runsOf all = L) (h : ∀ l ∈ L, SW E (.inRegion all l :: k) t H) : SW E (.code (.region id all true) :: k) t H := by
 subst hL
 refine ⟨fun a w I β cs hs => ?_⟩
 have hH1 : HeapOK G { w with drawn := w.drawn + 1 } I β H := hs.heap.grow (fun _ _ => rfl) (fun _ _ h => h) (fun _ _ h => .inl h) hs.heap.inI
 have hE1 : Ext H.length w I β H { w with drawn := w.drawn + 1 } I β H := .grow hs.heap (fun _ _ => rfl) (Nat.le_refl _) (fun _ _ h => h) (fun _ _ h => .inl h)
 refine .of_steps (.one zbu) ?_
 simp only [Region.schedule, hm, Bool.true_or, if_true]
 refine (h _ (ypz all _ _ _)).run a _ I β cs ?_
 exact ⟨hH1, fun n => (hs.tmps n).ext (by rw [hs.heap.len]; exact hE1), hs.size, hs.defers.ext hE1, hs.ext.trans (hE1.weaken hs.hlen), hs.hlen⟩
theorem ybi {b j : Nat} {all : Array Oper} {o : Oper} {rest : List Nat} {fx : Operand} {args : Array Operand} {tys : Array TypeId} {s : LS} {f : FuncId} {n : Nat} {tL : List (Nat × SV)} {ps : Array Tmp} {asg bd : Code}
  (ho : all[j]? = some o) (hop : o.op = .call ⟨.value fx, args, tys⟩) (hw : yg all t o.guard = some true) (hd : yi fn.ntmps o.dst = true) (hf : zo G t fx = .yld b) (hH : H[b]? = some (.loop s f n tL ps asg bd)) (hps : args.size = ps.size)
  {argv : List SV} (hargs : args.toList.map (zo G t) = argv)
  (hc : SYield P G b argv H (fun res H' => H.length <= H'.length /\ SW E (.inRegion all rest :: k) (wq t o.dst (.imm (.val (.bool res)))) H')) : SW E (.inRegion all (j :: rest) :: k) t H := by
 subst hargs
 refine ⟨fun a w I β cs hs => ?_⟩
 have hwant := js hw hs
 have hfr := hs.eval fx
 rw [hf] at hfr
 generalize hfv : a.eval fx = fv at hfr
 cases hfr with
 | yld _ l hbl =>
 obtain ⟨r, q1, q2, q3, q4, q5, q6, q7, q8, q9⟩ := hs.heap.obj b _ _ hH hbl
 have hrun : (execOp a.eval o).run P w = .ok (.round l r.fn ((r.params.zip (args.map a.eval)).foldl (fun tmps (t, a) => tmps.setIfInBounds t a) r.tmps) r.assign r.body) w := by
  obtain ⟨dst, op, type, pos, after, guard⟩ := o
  simp only at hop
  subst hop
  simp only [execOp, resolve, hfv, Deferred.ofValue, Sem.run_bind, Sem.run_pure, Result.andThen_ok, invoke]
  have := run_yield (P := P) (args := #[] ++ args.map a.eval) q1 (by simp [hps, q5])
  simpa using this
 have hreps : Reps w I β (args.map a.eval).toList (args.toList.map (zo G t)) := by simpa using zer hs.eval args.toList
 obtain ⟨res, w', ⟨I', β', H', ⟨hl, hsw⟩, hH', hext⟩, hsteps⟩ := hc w I β l r _ hs.heap hbl q1 hreps (E.at a (.inRegion all (j :: rest) :: k)) cs
 have hg := zcp (P := P) (b := E.base) (ro := E.ro) (k := k) (cs := cs) (w := w) (rest := rest) ho hwant (.inr fun c e => by rw [hop] at e; cases e)
 have henter : step P (lone (E.at a (.inRegion all (j :: rest) :: k)) cs w) =
   .next (lone (Frame.round l r.fn ((r.params.zip (args.map a.eval)).foldl (fun tmps (t, a) => tmps.setIfInBounds t a) r.tmps) r.assign r.body .normal) (E.at a (.inRegion all (j :: rest) :: k) :: cs) w) :=
  step_lone_go (by unfold En.at; rw [hg]; simp only [stepG.apply, Sem.runT_eq, hrun, if_true, GStep.bare_after]; rfl)
 have hfin : (E.at a (.inRegion all (j :: rest) :: k)).finish (.bool res) = E.at (a.put o.dst (.bool res)) (.inRegion all rest :: k) := by
  unfold En.at; rw [zac, ho]; rfl
 rw [hfin] at hsteps
 exact .of_steps (.head henter hsteps) (hsw.run _ w' I' β' cs (hs.put hd (.imm (.val _)) hH' hext hl))
theorem yrd {f : FuncId} {args : List SV} {H0 : List SObj} {K : SV -> List SObj -> Prop} (hargs : args.all (SV.under H0.length) = true) (hH0 : H0.all (SObj.under H0.length) = true)
  (h : SCall P G f args H0 (fun r H' => H0.length <= H'.length /\ r.under H0.length = true /\ (H'.take H0.length).all (SObj.under H0.length) = true /\ K r (H'.take H0.length))) : SPre P G f args H0 K := by
 intro X w I β vs hH hv
 have hs := hH.small hH0
 refine (h w I (β.take H0.length) vs hs (zta hv hargs)).mono ?_
 rintro e w' ⟨v, r, I', β1, H', rfl, ⟨hl, hr, hu1, hK⟩, g1, g2, g3⟩
 obtain ⟨q1, q2⟩ := hH.whole (H1 := H') hl hu1 g2 g3
 have hlen1 : β1.length = H'.length := g2.len
 refine ⟨v, r, I', _, _, rfl, ⟨H'.take H0.length, hK, by simp; omega, rfl⟩, ?_, q1, q2⟩
 refine (zxn g1 hr).mono_below (fun _ _ h => h) (fun _ _ _ => rfl) (m := H0.length) (fun b x hb hx => ?_) hr
 exact ⟨x, by rw [List.getElem?_append_left (lt_of_getElem? hx)]; exact hx, x.le_refl⟩
theorem ylk {all : Array Oper} {o : Oper} {rest : List Oper} {done : List Eff} {K : List SObj} {mm ty kt et b : Nat} {z : Value} {x ix : Operand} {α : Type} {kk : IntKind} {i : Int} {l : List (Int × α)} (f : α -> SV) {v : SV} (hop : o.op = .lookup ty x ix false)
  (hw : yg all t o.guard = some true) (hd : yi fn.ntmps o.dst = true) (hx : zo G t x = .map b) (hi : zo G t ix = .imm (.val (.int kk i))) (hu : P.underlying ty = some (.map kt et)) (hk : P.underlying kt = some (.int kk)) (hz : zag P et = some z)
  (hm : mm <= K.length) (hb : K[b]? = some (.mapI kk (zby f l))) (hv : ((zt i l).map f).getD (qk z) = v) (h : SWe E mm all rest k (wq t o.dst v) K (done ++ [⟨v, [b], none⟩])) : SWe E mm all (o :: rest) k t K done := by
 refine qw ⟨v, [b], none⟩ hw hd hm (fun K' _ ha => ?_) h
 have hb' : K'[b]? = some (.mapI kk (zby f l)) := by rw [ha b (.inl (by simp))]; exact hb
 rw [hop]
 have := zli (G := G) (t := t) (P := P) (ok := false) (f := f) hx hi hb' hu hk hz
 rw [this, hv]
 rfl
end
open Go.RowKit
section
variable {P : Program} {G : List (Nat × D)} {w w' : World} {I : Imm} {β : List Bnd} {H : List SObj}
theorem zyx (h : Below w.heap.size w w') : ∀ c, c < w.heap.size -> w'.heap[c]? = w.heap[c]? := fun c hc => h.block c hc
theorem yll {e : TypeId} {v : Value} {n : Nat} {l : List Int} (hH : HeapOK G w I β H) (hrow : w'.ownsRow w.heap.size e 1 v n (l.map (Value.int .i64))) (hb : Below w.heap.size w w') :
  ∃ I', Rep w' I' β v (.imm (zl l)) /\ HeapOK G w' I' β H /\ Ext H.length w I β H w' I' β H := by
 obtain ⟨hlen, hcase⟩ := hrow
 have hn : l.length = n := by simpa using hlen
 have hold := zyx hb
 have hen : zfe w w' := ⟨hb.os, hb.output⟩
 rcases hcase with ⟨rfl, h0⟩ | ⟨g, cap, cur, rfl, hg, hc, h1, h2, h3, h4⟩
 ·have : l = [] := List.length_eq_zero_iff.1 (by omega)
  subst this
  refine ⟨I, .imm (.islNil 1), hH.grow hold (fun _ _ h => h) (fun _ _ h => .inl h) (fun c o hc => Nat.lt_of_lt_of_le (hH.inI c o hc) hb.size), .grow hH hold hb.size (fun _ _ h => h) (fun _ _ h => .inl h) hen⟩
 ·have hlt := qq hc
  refine ⟨fun c o => I c o \/ c = g, ?_, hH.grow hold (fun _ _ h => .inl h) (fun c o h => h.imp id (fun e => by omega)) (fun c o h => ?_), .grow hH hold hb.size (fun _ _ h => .inl h) (fun c o h => h.imp id (fun e => by omega)) hen⟩
  ·subst hn
   have key : ∀ i (hi : i < l.length), w'.cell? ⟨g, 0 + i * 1 + 0, none⟩ = some (.int .i64 (l[i]'hi)) := by
    intro i hi
    rw [xg hc]
    have h5 : (cur.toList.take (l.length * 1))[i]? = some (.int .i64 (l[i]'hi)) := by rw [h4, List.getElem?_map, List.getElem?_eq_getElem hi]; rfl
    rw [List.getElem?_take, if_pos (by omega)] at h5
    simpa using h5
   have hr : DRep w' (fun c o => I c o \/ c = g) (.slice (some ⟨g, 0, none⟩) (l.map fun n => [dI n]).length cap) (.isl 1 (l.map fun n => [dI n])) := by
    refine .isl g 0 cap 1 _ (fun i _ => .int .i64 (l.getD i 0)) (by simpa using h1) h2 (fun i h => by simp) (fun i j hi hj => ?_) (fun i j hi hj => ?_)
    ·have hi' : i < l.length := by simpa using hi
     have hj0 : j = 0 := by omega
     subst hj0
     refine ⟨.inr rfl, ?_, rfl⟩
     rw [key i hi']
     simp [hi']
    ·have hi' : i < l.length := by simpa using hi
     have hj0 : j = 0 := by simp at hj; omega
     subst hj0
     simp [hi']
     exact .val _
   rw [List.length_map] at hr
   exact .imm hr
  ·rcases h with h | rfl
   ·exact Nat.lt_of_lt_of_le (hH.inI c o h) hb.size
   ·exact hlt
theorem yre {e : TypeId} {v : Value} {n : Nat} {l : List Int} (hH : HeapOK G w I β H) (hrow : w'.ownsRow w.heap.size e 1 v n (l.map (Value.int .i64))) (hb : Below w.heap.size w w') :
  Rep w' I (β ++ [.tok v]) v (.vec H.length l.length) /\ HeapOK G w' I (β ++ [.tok v]) (H ++ [.vec 1 (l.map sI)]) /\ Ext H.length w I β H w' I (β ++ [.tok v]) (H ++ [.vec 1 (l.map sI)]) := by
 obtain ⟨hlen, hcase⟩ := hrow
 have hn : l.length = n := by simpa using hlen
 have hold := zyx hb
 have hen : zfe w w' := ⟨hb.os, hb.output⟩
 have hg1 : HeapOK G w' I β H := hH.grow hold (fun _ _ h => h) (fun _ _ h => .inl h) (fun c o hc => Nat.lt_of_lt_of_le (hH.inI c o hc) hb.size)
 have he1 : Ext H.length w I β H w' I β H := .grow hH hold hb.size (fun _ _ h => h) (fun _ _ h => .inl h) hen
 have hbl : (β ++ [Bnd.tok v])[H.length]? = some (.tok v) := by rw [<- hH.len]; simp
 rcases hcase with ⟨rfl, h0⟩ | ⟨g, cap, cur, rfl, hg, hc, h1, h2, h3, h4⟩
 ·have : l = [] := List.length_eq_zero_iff.1 (by omega)
  subst this
  refine ⟨.vec H.length 0 _ _ 0 hbl ⟨_, _, rfl⟩ (Nat.le_refl _) ⟨_, _, _, rfl⟩ (fun _ => rfl), hg1.push (.inl ⟨rfl, rfl⟩) (fun b c h => by cases h), he1.trans (.push hg1 (fun c h => by cases h))⟩
 ·subst hn
  have hno : ∀ o, ¬ I g o := fun o hi => by have := hH.inI g o hi; omega
  refine ⟨.vec H.length _ _ _ l.length hbl ⟨_, _, rfl⟩ (Nat.le_refl _) ⟨_, _, _, rfl⟩ (fun _ => rfl), hg1.push (.inr ⟨g, l.length, cap, cur, e, rfl, hc, h3, h1, h2, by simp, fun j hj hj' => ?_, hno⟩) (fun b c h ho => ?_), ?_⟩
  ·have hjl : j < l.length := by simpa using hj
   have h5 : (cur.toList.take (l.length * 1))[j]? = some (.int .i64 (l[j]'hjl)) := by rw [h4, List.getElem?_map, List.getElem?_eq_getElem hjl]; rfl
   rw [List.getElem?_take, if_pos (by omega)] at h5
   have h6 : cur[j]'hj' = .int .i64 (l[j]'hjl) := by
    have : cur.toList[j]? = some (cur[j]'hj') := by simp
    rw [this] at h5
    exact Option.some.inj h5
   rw [h6]
   simp only [List.getElem_map]
   exact .imm (.val _)
  ·cases h
   have := hH.owns_lt ho
   exact absurd hg (Nat.not_le.2 this)
  ·refine { imm := fun _ _ h => h, cell := he1.cell, keep := .push _ _ _, old := fun c hc _ => hold c hc, own := ?_, new := fun _ _ h => .inl h, size := hb.size, env := hen }
   rintro b c ⟨o', x', q1, q2, q3, q4⟩
   rcases zaa q3 with ⟨hlt, q3⟩ | ⟨rfl, rfl⟩
   ·rcases zaa q1 with ⟨_, q1⟩ | ⟨rfl, rfl⟩
    ·exact .inl ⟨b, o', x', q1, q2, q3, q4⟩
    ·exact absurd hlt (by rw [hH.len]; omega)
   ·cases q4; exact .inr hg
end
end Go.Sh
namespace Go.Proofs.YtblpjknmhajcgaaGreatDoor
open Go Go.Sh Go.RowKit
variable (G : List (Nat × D))
theorem zvv {H : List SObj} {b : Nat} {l : List Int} (hb : H[b]? = some (.cells (l.map sI))) (hsz : l.length <= 1073741824) :
  SCall Tryz.prog G 63 [.osl b 0 l.length] H (fun r H' => r = .imm (zl l) /\ H' = H) := by
 intro w I β vs hH hv
 obtain ⟨v, hvs, hr⟩ := hv.one
 have hvv : vs = #[v] := by apply Array.ext'; simpa using hvs
 subst hvv
 cases hr with
 | osl _ c _ _ cap hbc hcap hmax =>
 obtain ⟨cur, T, a1, a2, a3, a4⟩ := hH.obj b _ _ hb hbc
 refine (Go.Proofs.Tryz.slices_Clone_int c 0 l.length cap l w (Nat.le_refl _) (by omega) (fun j hj => ?_)).mono ?_
 ·rw [Nat.zero_add, xg a1]
  have hjc : j < cur.size := by rw [a2]; simpa using hj
  have := a3 j (by simpa using hj) hjc
  rw [Array.getElem?_eq_getElem hjc]
  simp only [List.getElem_map] at this
  generalize cur[j] = q at this
  cases this with | imm h => cases h; simp [hj]
 ·rintro e w' ⟨v', rfl, hrow, _, hbel⟩
  rw [List.take_of_length_le (Nat.le_refl _)] at hrow
  obtain ⟨I', g1, g2, g3⟩ := yll hH hrow hbel
  exact ⟨v', _, I', β, H, rfl, ⟨rfl, rfl⟩, g1, g2, g3⟩
theorem yee {w : World} {I : Imm} {v : Value} {l : List Int} (hd : DRep w I v (zl l)) (hsz : l.length <= 1073741824) :
  Calls Tryz.prog 63 #[v] w fun e w' => ∃ v', e = .returned v' /\ w'.ownsRow w.heap.size 3 1 v' l.length (l.map (Value.int .i64)) /\ Below w.heap.size w w' := by
 unfold zl at hd
 generalize hrows : (l.map fun n => [dI n]) = rows at hd
 cases hd with
 | islNil =>
  have : l = [] := by simpa using hrows
  subst this
  refine (Go.Proofs.Tryz.slices_Clone_int_nil 0 0 w).mono ?_
  rintro e w' ⟨rfl, rfl⟩
  exact ⟨_, rfl, ⟨rfl, .inl ⟨rfl, rfl⟩⟩, .refl _ _⟩
 | islEmpty a =>
  have : l = [] := by simpa using hrows
  subst this
  refine (Go.Proofs.Tryz.slices_Clone_int_zero a 0 w).mono ?_
  rintro e w' ⟨v', rfl, h1, _, h2⟩
  exact ⟨_, rfl, h1, h2⟩
 | isl b o cap _ _ V h1 h2 h3 h4 h5 =>
  subst hrows
  rw [List.length_map]
  refine (Go.Proofs.Tryz.slices_Clone_int b o l.length cap l w (Nat.le_refl _) (by omega) (fun j hj => ?_)).mono ?_
  ·have hj' : j < (l.map fun n => [dI n]).length := by simpa using hj
   obtain ⟨_, g2, _⟩ := h4 j 0 hj' (by omega)
   have g3 := h5 j 0 hj' (by simp)
   simp only [Nat.mul_one, Nat.add_zero] at g2
   rw [g2]
   simp only [List.getElem_map, List.getElem_cons_zero] at g3
   generalize V j 0 = q at g3
   cases g3
   simp [hj]
  ·rintro e w' ⟨v', rfl, hrow, _, hbel⟩
   rw [List.take_of_length_le (Nat.le_refl _)] at hrow
   exact ⟨v', rfl, hrow, hbel⟩
theorem zvw (l : List Int) (hsz : l.length <= 1073741824) : zx Tryz.prog G 63 [.imm (zl l)] (.imm (zl l)) := by
 intro H w I β vs hH hv
 obtain ⟨v, hvs, hr⟩ := hv.one
 have hvv : vs = #[v] := by apply Array.ext'; simpa using hvs
 subst hvv
 cases hr with | imm hd =>
 refine (yee hd hsz).mono ?_
 rintro e w' ⟨v', rfl, hrow, hbel⟩
 obtain ⟨I', g1, g2, g3⟩ := yll hH hrow hbel
 exact ⟨v', _, I', β, H, rfl, ⟨rfl, rfl⟩, g1, g2, g3⟩
theorem zvx (l : List Int) (H : List SObj) (hsz : l.length <= 1073741824) : SCall Tryz.prog G 63 [.imm (zl l)] H (fun r H' => r = .vec H.length l.length /\ H' = H ++ [.vec 1 (l.map sI)]) := by
 intro w I β vs hH hv
 obtain ⟨v, hvs, hr⟩ := hv.one
 have hvv : vs = #[v] := by apply Array.ext'; simpa using hvs
 subst hvv
 cases hr with | imm hd =>
 refine (yee hd hsz).mono ?_
 rintro e w' ⟨v', rfl, hrow, hbel⟩
 obtain ⟨g1, g2, g3⟩ := yre hH hrow hbel
 exact ⟨v', _, I, _, _, rfl, ⟨rfl, rfl⟩, g1, g2, g3⟩
theorem ybj (l : List Int) : (Go.Lib.compact l).length <= l.length := by
 unfold Go.Lib.compact Go.Lib.compactUpTo
 rw [List.length_map]
 exact Nat.le_trans (List.length_filter_le _ _) (by simp)
theorem ylm {G : List (Nat × D)} {w w' : World} {I : Imm} {β : List Bnd} {H : List SObj} {b c : Nat} {o0 : SObj} {x0 : Bnd} (hH : HeapOK G w I β H) (hb : H[b]? = some o0) (hd : o0 ≠ .dead) (hx : β[b]? = some x0) (hxc : x0.block = some c)
  (hold : ∀ c', c' < w.heap.size -> c' ≠ c -> w'.heap[c']? = w.heap[c']?) (hsz : w.heap.size <= w'.heap.size) (hnI : ∀ o, ¬ I c o) (hen : zfe w w') :
  HeapOK G w' (fun c' o => I c' o \/ c' = c) β (H.set b .dead) /\ Ext H.length w I β H w' (fun c' o => I c' o \/ c' = c) β (H.set b .dead) := by
 have hbl := lt_of_getElem? hb
 have hown : qp H β b c := ⟨_, _, hb, hd, hx, hxc⟩
 have hcellI : ∀ c' o, I c' o -> w'.cell? ⟨c', o, none⟩ = w.cell? ⟨c', o, none⟩ := fun c' o hi => yv (hold c' (hH.inI c' o hi) (fun e => hnI o (e ▸ hi))) o
 have hsub : ∀ b' c', qp (H.set b .dead) β b' c' -> b' ≠ b /\ qp H β b' c' := by
  rintro b' c' ⟨o, x, h1, h2, h3, h4⟩
  have hne : b' ≠ b := by
   rintro rfl
   rw [List.getElem?_set_self hbl] at h1
   cases h1; exact h2 rfl
  rw [List.getElem?_set_ne (Ne.symm hne)] at h1
  exact ⟨hne, o, x, h1, h2, h3, h4⟩
 refine ⟨⟨by simp [hH.len], fun b' o x h1 h2 => ?_, fun b1 b2 c' h1 h2 => hH.inj b1 b2 c' (hsub b1 c' h1).2 (hsub b2 c' h2).2, fun c' o hi => ?_, fun g d hg => (hH.glob g d hg).mono (fun _ _ h => .inl h) hcellI⟩,
  { imm := fun _ _ h => .inl h, cell := hcellI, keep := .refl _ _, old := fun c' hc' hn => hold c' hc' (fun e => hn b (e ▸ hown)), own := fun b' c' g => .inl ⟨b', (hsub b' c' g).2⟩, new := fun c' o hi => ?_, size := hsz, env := hen }⟩
 ·by_cases hne : b' = b
  ·subst hne
   rw [List.getElem?_set_self hbl] at h1
   cases h1; trivial
  ·rw [List.getElem?_set_ne (Ne.symm hne)] at h1
   by_cases hdead : o = .dead
   ·subst hdead; trivial
   ·have hcc : ∀ c', x.block = some c' -> c' ≠ c := fun c' hc e => by
     subst e
     exact hne (hH.inj b' b _ ⟨o, x, h1, hdead, h2, hc⟩ hown)
    refine (hH.obj b' o x h1 h2).mono (fun c' hc => hold c' ((hH.obj b' o x h1 h2).block_lt hdead hc) (hcc c' hc)) (fun _ _ h => .inl h) hcellI (.refl _ _) (fun c' q hc hi => ?_)
    rcases hi with h3 | h3
    ·exact h3
    ·exact absurd h3 (hcc c' hc)
 ·rcases hi with h3 | rfl
  ·exact Nat.lt_of_lt_of_le (hH.inI c' o h3) hsz
  ·exact Nat.lt_of_lt_of_le (hH.owns_lt hown) hsz
 ·rcases hi with h3 | rfl
  ·exact .inl h3
  ·exact .inr (.inl ⟨b, hown⟩)
theorem zqz (b : Nat) (l : List Int) (H : List SObj) (hb : H[b]? = some (.vec 1 (l.map sI))) (hsz : l.length <= 1073741824) :
  SCall Tryz.prog G 65 [.vec b l.length] H (fun r H' => r = .imm (zl (Go.Lib.compact l)) /\ H' = H.set b .dead) := by
 intro w I β vs hH hv
 obtain ⟨v, hvs, hr⟩ := hv.one
 have hvv : vs = #[v] := by apply Array.ext'; simpa using hvs
 subst hvv
 obtain ⟨hbu, hcase⟩ := zkl hH hb hr (by simp) (Nat.le_refl _)
 have hcl := ybj l
 rcases hcase with ⟨h0, rfl, _⟩ | ⟨c, cap, cur, T, rfl, a1, a2, a2', hmax, a3, a4⟩
 ·have hl : l = [] := List.length_eq_zero_iff.1 h0
  subst hl
  refine (Go.Proofs.Tryz.slices_Compact_int_empty none 0 w).mono ?_
  rintro e w' ⟨rfl, rfl⟩
  refine ⟨_, .imm (zl (Go.Lib.compact [])), I, β, _, rfl, ⟨rfl, rfl⟩, .imm (.islNil 1), ?_⟩
  have hbl := lt_of_getElem? hb
  have hsub : ∀ b' c', qp (H.set b .dead) β b' c' -> qp H β b' c' := by
   rintro b' c' ⟨o, x, h1, h2, h3, h4⟩
   have hne : b' ≠ b := by
    rintro rfl
    rw [List.getElem?_set_self hbl] at h1
    cases h1; exact h2 rfl
   rw [List.getElem?_set_ne (Ne.symm hne)] at h1
   exact ⟨o, x, h1, h2, h3, h4⟩
  refine ⟨⟨by simp [hH.len], fun b' o x h1 h2 => ?_, fun b1 b2 c' h1 h2 => hH.inj b1 b2 c' (hsub b1 c' h1) (hsub b2 c' h2), hH.inI, hH.glob⟩,
   { (Ext.refl : Ext H.length w' I β H w' I β H) with own := fun b' c' g => .inl ⟨b', hsub b' c' g⟩ }⟩
  by_cases hne : b' = b
  ·subst hne
   rw [List.getElem?_set_self hbl] at h1
   cases h1; trivial
  ·rw [List.getElem?_set_ne (Ne.symm hne)] at h1
   exact hH.obj b' o x h1 h2
 have htake : cur.toList.take l.length = l.map (Value.int .i64) := by
  apply List.ext_getElem
  ·simp [a2]; omega
  ·intro j h1 h2
   have hj : j < l.length := by simpa using h2
   have hjc : j < cur.size := by rw [a2]; omega
   have := a3 j (by simpa using hj) hjc
   simp only [List.getElem_map] at this
   simp only [List.getElem_take, Array.getElem_toList, List.getElem_map]
   generalize cur[j] = q at this
   cases this with | imm h => cases h; rfl
 refine (Go.Proofs.Tryz.slices_Compact_int c 0 cap l w (holds_of_blockI a1 htake) (by omega) a2').mono ?_
 rintro e w' ⟨rfl, q, rfl⟩
 have hblk := heap_sortedI (w := w) (n := q) (os := #[]) (Go.Lib.compact l ++ List.replicate (l.length - (Go.Lib.compact l).length) 0).toArray a1
 have hgrow := grownBy_sortedI (w := w) (g := c) (n := q) (os := #[]) (Go.Lib.compact l ++ List.replicate (l.length - (Go.Lib.compact l).length) 0).toArray
 rw [Go.Sort.grow_empty] at hblk hgrow
 generalize Go.Sort.putRow (Value.int .i64) (Go.Sort.ahead w q) c 0 (Go.Lib.compact l ++ List.replicate (l.length - (Go.Lib.compact l).length) 0).toArray = w' at hblk hgrow
 have hold : ∀ c', c' < w.heap.size -> c' ≠ c -> w'.heap[c']? = w.heap[c']? := fun c' h1 h2 => hgrow.block c' h1 (fun e => h2 (by cases e; rfl))
 obtain ⟨k1, k2⟩ := ylm hH hb (by simp) hbu rfl hold hgrow.size a4 ⟨hgrow.os, hgrow.output⟩
 refine ⟨_, .imm (zl (Go.Lib.compact l)), _, β, _, rfl, ⟨rfl, rfl⟩, .imm ?_, k1, k2⟩
 have hr : DRep w' (fun c' o => I c' o \/ c' = c) (.slice (some ⟨c, 0, none⟩) ((Go.Lib.compact l).map fun n => [dI n]).length cap) (.isl 1 ((Go.Lib.compact l).map fun n => [dI n])) := by
  refine .isl c 0 cap 1 _ (fun i _ => .int .i64 ((Go.Lib.compact l).getD i 0)) (by simp; omega) hmax (fun i h => by simp) (fun i j hi hj => ?_) (fun i j hi hj => ?_)
  ·have hi' : i < (Go.Lib.compact l).length := by simpa using hi
   have hj0 : j = 0 := by omega
   subst hj0
   refine ⟨.inr rfl, ?_, rfl⟩
   rw [xg hblk]
   have hic : i < cur.size := by rw [a2]; omega
   simp only [Nat.zero_add, Nat.mul_one, Nat.add_zero, Go.Sort.putCells]
   rw [Array.getElem?_mapIdx, Array.getElem?_eq_getElem hic]
   simp only [Option.map_some]
   rw [if_pos ⟨Nat.zero_le _, by simp; omega⟩]
   simp [hi', List.getElem_append_left, List.getElem?_append_left hi']
  ·have hi' : i < (Go.Lib.compact l).length := by simpa using hi
   have hj0 : j = 0 := by simp at hj; omega
   subst hj0
   simp [hi']
   exact .val _
 rw [List.length_map] at hr
 exact hr
open Go Go.Sh
def fnA : SV := .fn (.func 105) [] [.ptr 26 0, .ptr 27 0, .ptr 29 0, .ptr 33 0, .ptr 31 0, .ptr 34 0]
def WA (X : Nat -> SObj) (s : St) (ch : List (Int × List Int)) (lp : SObj) : List SObj :=
 WH X s ++ [X 24, X 25, .cells [.ptr 2 0], .cells [.ptr 23 0], X 28, .cells [.imm (zl (ch.map (·.1)))], .cells (ch.map fun e => .imm (zl e.2)), .cells [.osl 30 0 ch.length], lp, .cells [.yld 32], .cells [fnA]]
theorem yef {X : Nat -> SObj} (hX : ∀ i, (X i).under 24 = true) (s : St) (ch : List (Int × List Int)) {lp : SObj} (hlp : lp.under 35 = true) : (WA X s ch lp).all (SObj.under 35) = true := by
 unfold WA
 rw [List.all_append, xb (m := 24) (by omega) (zbk hX s)]
 simp only [List.all_cons, List.all_nil, hlp, SObj.under_mono (m := 24) (n := 35) (by omega) _ (hX _), Bool.and_true, Bool.true_and, zyl, zaf (f := fun e : Int × List Int => SV.imm (zl e.2)) (fun _ => rfl)]
 rfl
theorem yeg (X : Nat -> SObj) (s : St) (ch : List (Int × List Int)) (lp : SObj) : (WA X s ch lp).length = 35 := rfl
theorem yln (X : Nat -> SObj) (s : St) (ch : List (Int × List Int)) (lp : SObj) (i : Nat) (b : Bool) : (WA X s ch lp).set 21 (.cells ((s.ch.set i b).map bvS)) = WA X ⟨s.p, s.ch.set i b, s.vs⟩ ch lp := by simp [WA, WH]
theorem ylo (X : Nat -> SObj) (s : St) (ch : List (Int × List Int)) (lp : SObj) (i : Nat) (v : Int) : (WA X s ch lp).set 22 (.cells ((s.vs.set i v).map ivS)) = WA X ⟨s.p, s.ch, s.vs.set i v⟩ ch lp := by simp [WA, WH]
theorem zcv {α : Type} (g : α -> SV) (l : List α) (i : Nat) (h : i < l.length) : l.map g = (l.take i).map g ++ g (l[i]'h) :: (l.drop (i + 1)).map g := by
 have e : l = l.take i ++ l[i]'h :: l.drop (i + 1) := by rw [<- List.drop_eq_getElem_cons h, List.take_append_drop]
 have := congrArg (List.map g) e
 rw [List.map_append, List.map_cons] at this
 exact this
theorem zkt {α : Type} (g : α -> SV) (l : List α) (i : Nat) (h : i < l.length) (a : α) : (l.take i).map g ++ g a :: (l.drop (i + 1)).map g = (l.set i a).map g := by
 have h' : i < (l.set i a).length := by simpa using h
 rw [zcv g (l.set i a) i h']
 simp [List.take_set_of_le, List.drop_set_of_lt]
theorem ylp (X : Nat -> SObj) (s : St) (ch : List (Int × List Int)) (lp : SObj) : WH X s ++ List.drop 24 (WA X s ch lp) = WA X s ch lp := rfl
def yrf (X : Nat -> SObj) (q : Sr) (ch : List (Int × List Int)) (lp : SObj) (Q : List Int -> List SObj -> Prop) (p : Nat) (rest : List (Int × List Int)) (s : St) : Prop :=
 SCall Tryz.prog G 105 [sI p, .ptr 26 0, .ptr 27 0, .ptr 29 0, .ptr 33 0, .ptr 31 0, .ptr 34 0] (WA X s ch lp)
  (fun r H' => 35 <= H'.length /\ (∀ vs, qa q.conds rest s = some vs -> r = sB false /\ Q vs H') /\ (qa q.conds rest s = none -> r = sB true /\ H'.take 35 = WA X s ch lp))
theorem ygx {Y : Nat -> SObj} (hY : ∀ i, (Y i).under 24 = true) (c : Codex) (vers : List Int) (q : Sr) (ch : List (Int × List Int)) {f0 : FuncId} {n0 : Nat} {tL : List (Nat × SV)} {ps : Array Tmp} {asg bd : Code} (Q : List Int -> List SObj -> Prop)
  (hlp : (SObj.loop .ready f0 n0 tL ps asg bd).under 35 = true) (hps : 1 = ps.size) (hch : ch.length <= 1073741824) (hcz : q.conds.length <= 1073741824) (s : St) (hl : s.ch.length = s.vs.length) (hsz : s.vs.length <= 1073741824) (hc : ∀ x ∈ q.conds, x.ok s.vs.length)
  (hy : SYield Tryz.prog G 32 [.imm (zl s.vs)] (WA (XS Y (yc c vers q)) s ch (.loop .ready f0 n0 tL ps asg bd)) (fun res H' => res = false /\ 35 <= H'.length /\ Q s.vs H')) :
  yrf G (XS Y (yc c vers q)) q ch (.loop .ready f0 n0 tL ps asg bd) Q ch.length [] s := by
 have hX := zdo hY c vers q
 unfold yrf
 refine xa Tryz.func105 rfl (by rw [Tryz.ntmps105]; simp) ?_
 intro E hH hK
 simp only [qa] at hK
 (refine zf ?_; conv => whnf)
 refine yx 24 rfl rfl rfl rfl rfl rfl (zhx G hY c vers q s hl hc hcz) ?_
 intro r1 H1 hr _
 obtain ⟨rfl, rfl⟩ := hr
 rw [ylp]
 generalize hv : zah q.conds s = vd at hK
 (refine za ?_; conv => whnf)
 repeat' ((with_reducible refine way ?_ ?_) <;> (intro h; conv => whnf))
 ·rw [if_pos (by assumption)] at hK
  exact hK (sB true) _ ⟨Nat.le_refl _, ⟨fun vs hv => (by cases hv), fun _ => ⟨rfl, rfl⟩⟩⟩
 ·rw [if_neg (by assumption)] at hK
  refine ylj (L := [[0, 1, 2, 3, 4, 5, 6, 7], [1, 0, 2, 3, 4, 5, 6, 7], [1, 2, 0, 3, 4, 5, 6, 7], [1, 2, 3, 0, 4, 5, 6, 7], [1, 2, 3, 4, 0, 5, 6, 7], [1, 2, 3, 4, 5, 0, 6, 7]]) rfl (by kernel_rfl) ?_
  intro l hlm
  simp only [List.mem_cons, List.not_mem_nil, or_false] at hlm
  rcases hlm with rfl | rfl | rfl | rfl | rfl | rfl
  all_goals
   repeat (refine yns rfl rfl rfl rfl (Nat.le_refl _) ?_)
   refine zsx rfl rfl rfl rfl rfl rfl ((zvv G (b := 22) (l := s.vs) rfl hsz).mono ?_)
   rintro r H' ⟨rfl, rfl⟩
   refine ⟨Nat.le_refl _, ?_⟩
   repeat (refine yns rfl rfl rfl rfl (Nat.le_refl _) ?_)
   refine ybi rfl rfl rfl rfl rfl rfl hps rfl (hy.mono ?_)
   rintro _ H' ⟨rfl, hl', hQ⟩
   refine ⟨hl', ?_⟩
   refine yns rfl rfl rfl rfl (Nat.le_refl _) ?_
   refine zlg ?_
   (refine zf ?_; conv => whnf)
   exact hK (sB false) H' ⟨hl', ⟨fun vs hv => by cases hv; exact ⟨rfl, hQ⟩, fun hv => by cases hv⟩⟩
 ·exfalso
  have : ¬ ((ch.length : Int) = (((ch.map (·.1)).map fun n => [dI n]).length : Int)) := by assumption
  simp at this
theorem yeh {s : St} {f : Nat} (h : s.vs.getD f 0 = 0) : s.vs.set f 0 = s.vs := by
 by_cases hf : f < s.vs.length
 ·have : s.vs[f]'hf = 0 := by simpa [hf] using h
  rw [<- this]
  exact List.set_getElem_self hf
 ·rw [List.set_eq_of_length_le (by omega)]
theorem yrg {s : St} {f : Nat} (h : s.ch.getD f false = false) : s.ch.set f false = s.ch := by
 by_cases hf : f < s.ch.length
 ·have : s.ch[f]'hf = false := by simpa [hf] using h
  rw [<- this]
  exact List.set_getElem_self hf
 ·rw [List.set_eq_of_length_le (by omega)]
theorem ybk {Y : Nat -> SObj} (hY : ∀ i, (Y i).under 24 = true) (c : Codex) (vers : List Int) (q : Sr) (ch : List (Int × List Int)) {f0 : FuncId} {n0 : Nat} {tL : List (Nat × SV)} {ps : Array Tmp} {asg bd : Code} (Q : List Int -> List SObj -> Prop)
  (hlp : (SObj.loop .ready f0 n0 tL ps asg bd).under 35 = true) (hch : ch.length <= 1073741824) (hcz : q.conds.length <= 1073741824) (s : St) (hl : s.ch.length = s.vs.length) (hsz : s.vs.length <= 1073741824) (hc : ∀ x ∈ q.conds, x.ok s.vs.length)
  (done : List (Int × List Int)) (f : Int) (vals : List Int) (rest : List (Int × List Int)) (hd : ch = done ++ (f, vals) :: rest) (hf : 0 <= f /\ f < s.vs.length) (hoff : s.ch.getD f.toNat false = false) (hz : s.vs.getD f.toNat 0 = 0) (hvz : vals.length <= 1073741824)
  (ih : ∀ v, yrf G (XS Y (yc c vers q)) q ch (.loop .ready f0 n0 tL ps asg bd) Q (done.length + 1) rest (s.put f v)) :
  yrf G (XS Y (yc c vers q)) q ch (.loop .ready f0 n0 tL ps asg bd) Q done.length ((f, vals) :: rest) s := by
 have hX := zdo hY c vers q
 have hdl : ch.length = done.length + 1 + rest.length := by rw [hd]; simp; omega
 have hrow : ((ch.map (·.1)).map fun n => [dI n])[((done.length : Nat) : Int).toNat]? = some [dI f] := by simp [hd]
 have hle : ((ch.map (·.1)).map fun n => [dI n]).length = ch.length := by simp
 have hvl : (vals.map fun n => [dI n]).length = vals.length := by simp
 have hfc : f.toNat < s.ch.length := by omega
 have hfv : f.toNat < s.vs.length := by omega
 unfold yrf
 refine xa Tryz.func105 rfl (by rw [Tryz.ntmps105]; simp) ?_
 intro E hH hK
 simp only [qa] at hK
 (refine zf ?_; conv => whnf)
 refine yx 24 rfl rfl rfl rfl rfl rfl (zhx G hY c vers q s hl hc hcz) ?_
 intro r1 H1 hr _
 obtain ⟨rfl, rfl⟩ := hr
 rw [ylp]
 generalize hv : zah q.conds s = vd at hK
 generalize hXX : XS Y (yc c vers q) = X at hK hX ih hH ⊢
 (refine za ?_; conv => whnf)
 repeat' ((with_reducible refine way ?_ ?_) <;> (intro h; conv => whnf))
 ·rw [if_pos (by assumption)] at hK
  exact hK (sB true) _ ⟨Nat.le_refl _, ⟨fun vs hv => (by cases hv), fun _ => ⟨rfl, rfl⟩⟩⟩
 ·exfalso
  omega
 rw [if_neg (by assumption)] at hK
 refine zh rfl rfl  hrow ?_
 (refine za ?_; conv => whnf)
 refine zgk (i := f.toNat) rfl rfl rfl rfl rfl rfl rfl (by omega) hfc ?_
 refine ju (d := (s.ch.take f.toNat).map bvS) (zz := bvS (s.ch[f.toNat]'hfc)) (r := (s.ch.drop (f.toNat + 1)).map bvS) (v := bvS true) rfl rfl rfl rfl rfl rfl rfl rfl (by show some (SObj.cells (s.ch.map bvS)) = _; rw [<- zcv]) (by show 0 + f.toNat * 1 = _; simp; omega) ?_
 refine Eq.mpr (congrArg (fun h => SWr E _ _ _ _ h) (show _ = WA X ⟨s.p, s.ch.set f.toNat true, s.vs⟩ ch _ by rw [zkt _ _ _ hfc]; exact yln ..)) ?_
 (refine za ?_; conv => whnf)
 refine zgk (i := done.length) rfl rfl rfl rfl rfl rfl rfl rfl (by omega) ?_
 refine xz (v := .imm (zl vals)) rfl rfl rfl rfl rfl (by
  have := yra (P := Tryz.prog) (ty := 26) (f := fun e : Int × List Int => SV.imm (zl e.2)) (l := ch) (n := done.length) (d := (0, [])) (by omega) rfl
  rw [show ch.getD done.length (0, []) = (f, vals) by simp [hd]] at this
  exact this) ?_
 (refine za ?_; conv => whnf)
 have e0 : s.put f 0 = ⟨s.p, s.ch.set f.toNat true, s.vs⟩ := by unfold St.put; rw [yeh hz]
 rw [<- e0]
 have hw1 := zm (n := done.length) (by omega)
 refine zg [0, 1, 2, 3, 4, 5, 6, 9, 40, 41, 42] ?_
 refine zq vals (fun i (_ : Int) => [(0, sI done.length), (1, .ptr 26 0), (2, .ptr 27 0), (3, .ptr 29 0), (4, .ptr 33 0), (5, .ptr 31 0), (6, .ptr 34 0), (9, sI f), (40, .imm (zl vals)), (41, sI (vals.map fun n => [dI n]).length), (42, sI i)])
  (fun _ w => WA X (s.put f w) ch (.loop .ready f0 n0 tL ps asg bd)) (fun dn _ _ => ∀ v ∈ dn, qa q.conds rest (s.put f v) = none) 0 (by simp) ?_ ?_
 ·intro w hno
  have hfc1 : f.toNat < (s.put f w).ch.length := by simp [St.put]; omega
  have hfv1 : f.toNat < (s.put f w).vs.length := by simp [St.put]; omega
  have hnone : List.findSome? (fun v => qa q.conds rest (s.put f v)) vals = none := List.findSome?_eq_none_iff.2 hno
  rw [hnone] at hK
  (refine zf ?_; conv => whnf)
  repeat' ((with_reducible refine way ?_ ?_) <;> (intro h; conv => whnf))
  all_goals try (exfalso; omega)
  (refine zu 0 mixed rfl ?_; refine zb [777, 999] (nx := 35) ?_; conv => whnf)
  refine zqe (i := f.toNat) rfl rfl rfl rfl rfl rfl rfl (by simp [yj, yeg]) (by omega) hfc1 ?_
  (refine zb [777, 999] (nx := 35) ?_; conv => whnf)
  refine zgf (d := ((s.put f w).ch.take f.toNat).map bvS) (zz := bvS ((s.put f w).ch[f.toNat]'hfc1)) (r := ((s.put f w).ch.drop (f.toNat + 1)).map bvS) (v := bvS false) rfl rfl rfl rfl rfl rfl rfl rfl (by simp [yj, yeg]) (by show some (SObj.cells ((s.put f w).ch.map bvS)) = _; rw [<- zcv]) (by show 0 + f.toNat * 1 = _; rw [List.length_map, List.length_take]; omega) ?_
  (refine zb [777, 999] (nx := 35) ?_; conv => whnf)
  refine zqe (i := f.toNat) rfl rfl rfl rfl rfl rfl rfl (by simp [yj, yeg]) (by omega) hfv1 ?_
  refine zgf (d := ((s.put f w).vs.take f.toNat).map ivS) (zz := ivS ((s.put f w).vs[f.toNat]'hfv1)) (r := ((s.put f w).vs.drop (f.toNat + 1)).map ivS) (v := ivS 0) rfl rfl rfl rfl rfl rfl rfl rfl (by simp [yj, yeg]) (by show some (SObj.cells ((s.put f w).vs.map ivS)) = _; rw [<- zcv]) (by show 0 + f.toNat * 1 = _; rw [List.length_map, List.length_take]; omega) ?_
  (refine zb [777] (nx := 35) ?_; conv => whnf)
  have e : ((WA X (s.put f w) ch (.loop .ready f0 n0 tL ps asg bd)).set 21 (.cells (((s.put f w).ch.take f.toNat).map bvS ++ bvS false :: ((s.put f w).ch.drop (f.toNat + 1)).map bvS))).set 22 (.cells (((s.put f w).vs.take f.toNat).map ivS ++ ivS 0 :: ((s.put f w).vs.drop (f.toNat + 1)).map ivS)) = WA X s ch (.loop .ready f0 n0 tL ps asg bd) := by
   rw [zkt _ _ _ hfc1, zkt _ _ _ hfv1, yln]
   have := ylo X ⟨(s.put f w).p, (s.put f w).ch.set f.toNat false, (s.put f w).vs⟩ ch (.loop .ready f0 n0 tL ps asg bd) f.toNat 0
   rw [this]
   unfold St.put
   simp only [List.set_set]
   rw [yrg hoff, yeh hz]
  refine Eq.mpr (congrArg (fun h => SW E _ _ h) e) ?_
  (refine zf ?_; conv => whnf)
  exact hK (sB true) _ ⟨Nat.le_refl _, ⟨fun vs hv => (by cases hv), fun _ => ⟨rfl, rfl⟩⟩⟩
 ·intro dn v rs w ha hlen hno ihl
  have hw2 := zm (n := dn.length) (by omega)
  have hfv1 : f.toNat < (s.put f w).vs.length := by simp [St.put]; omega
  have hvrow : (vals.map fun n => [dI n])[((dn.length : Nat) : Int).toNat]? = some [dI v] := by simp [ha]
  (refine zf ?_; conv => whnf)
  repeat' ((with_reducible refine way ?_ ?_) <;> (intro h; conv => whnf))
  all_goals try (exfalso; omega)
  refine zh rfl rfl  hvrow ?_
  (refine za ?_; conv => whnf)
  refine zgk (i := f.toNat) rfl rfl rfl rfl rfl rfl rfl (by omega) hfv1 ?_
  refine ju (d := ((s.put f w).vs.take f.toNat).map ivS) (zz := ivS ((s.put f w).vs[f.toNat]'hfv1)) (r := ((s.put f w).vs.drop (f.toNat + 1)).map ivS) (v := ivS v) rfl rfl rfl rfl rfl rfl rfl rfl (by show some (SObj.cells ((s.put f w).vs.map ivS)) = _; rw [<- zcv]) (by show 0 + f.toNat * 1 = _; rw [List.length_map, List.length_take]; omega) ?_
  have e : (WA X (s.put f w) ch (.loop .ready f0 n0 tL ps asg bd)).set 22 (.cells (((s.put f w).vs.take f.toNat).map ivS ++ ivS v :: ((s.put f w).vs.drop (f.toNat + 1)).map ivS)) = WA X (s.put f v) ch (.loop .ready f0 n0 tL ps asg bd) := by
   rw [zkt _ _ _ hfv1, ylo]
   unfold St.put
   simp only [List.set_set]
  refine Eq.mpr (congrArg (fun h => SWr E _ _ _ _ h) e) ?_
  (refine za ?_; conv => whnf)
  rw [hw1]
  refine wh rfl rfl rfl rfl rfl rfl ((ih v).mono ?_)
  rintro r H' ⟨hl', hsome, hnone⟩
  refine ⟨hl', ?_⟩
  cases hres : qa q.conds rest (s.put f v) with
  | none =>
   obtain ⟨rfl, ht⟩ := hnone hres
   (refine za ?_; conv => whnf)
   rw [hw2]
   refine yr [0, 1, 2, 3, 4, 5, 6, 9, 40, 41, 42] 35 (by rw [hH]; exact Nat.le_refl _) hl' rfl (by rw [ht]; exact yef hX _ _ hlp) ?_
   rw [ht]
   exact ihl v (fun x hx => by
    rcases List.mem_append.1 hx with h | h
    ·exact hno x h
    ·simp only [List.mem_singleton] at h
     subst h
     exact hres)
  | some vs0 =>
   obtain ⟨rfl, hQ⟩ := hsome _ hres
   have hfs : List.findSome? (fun v => qa q.conds rest (s.put f v)) vals = some vs0 := by
    rw [ha, List.findSome?_append, List.findSome?_eq_none_iff.2 hno]
    simp [hres]
   rw [hfs] at hK
   (refine za ?_; conv => whnf)
   exact hK (sB false) H' ⟨hl', ⟨fun vs hv => by cases hv; exact ⟨rfl, hQ⟩, fun hv => by cases hv⟩⟩
theorem ztn {Y : Nat -> SObj} (hY : ∀ i, (Y i).under 24 = true) (c : Codex) (vers : List Int) (q : Sr) (ch : List (Int × List Int)) {f0 : FuncId} {n0 : Nat} {tL : List (Nat × SV)} {ps : Array Tmp} {asg bd : Code} (Q : List Int -> List SObj -> Prop)
  (hlp : (SObj.loop .ready f0 n0 tL ps asg bd).under 35 = true) (hps : 1 = ps.size) (hch : ch.length <= 1073741824) (hcz : q.conds.length <= 1073741824) (nf : Nat) (hsz : nf <= 1073741824) (hc : ∀ x ∈ q.conds, x.ok nf) (hvz : ∀ e ∈ ch, e.2.length <= 1073741824)
  (hy : ∀ s : St, s.ch.length = nf -> s.vs.length = nf -> SYield Tryz.prog G 32 [.imm (zl s.vs)] (WA (XS Y (yc c vers q)) s ch (.loop .ready f0 n0 tL ps asg bd)) (fun res H' => res = false /\ 35 <= H'.length /\ Q s.vs H')) :
  ∀ (rest done : List (Int × List Int)) (s : St), ch = done ++ rest -> s.vs.length = nf -> RestOK q.conds rest s -> (∀ e ∈ rest, s.vs.getD e.1.toNat 0 = 0) -> yrf G (XS Y (yc c vers q)) q ch (.loop .ready f0 n0 tL ps asg bd) Q done.length rest s
 | [], done, s, hd, hn, hR, _ => by
  rw [List.append_nil] at hd
  subst hd
  exact ygx G hY c vers q ch Q hlp hps hch hcz s hR.len (by omega) (by rw [hn]; exact hc) (hy s (by rw [hR.len, hn]) hn)
 | (f, vals) :: rest, done, s, hd, hn, hR, hz => by
  have hr := hR.rng (f, vals) (by simp)
  refine ybk G hY c vers q ch Q hlp hch hcz s hR.len (by omega) (by rw [hn]; exact hc) done f vals rest hd hr (hR.off (f, vals) (by simp)) (hz (f, vals) (by simp)) (hvz (f, vals) (by rw [hd]; simp)) (fun v => ?_)
  have := ztn hY c vers q ch Q hlp hps hch hcz nf hsz hc hvz hy rest (done ++ [(f, vals)]) (s.put f v) (by rw [hd]; simp) (by simp [St.put, hn]) (hR.put v) (fun e he => by
   have hnd := hR.nd
   simp only [List.map_cons, List.nodup_cons] at hnd
   have hre := hR.rng e (by simp [he])
   have hne : f ≠ e.1 := fun eq => hnd.1 (List.mem_map.2 ⟨e, he, eq.symm⟩)
   simp only at hr
   unfold St.put
   simp only
   rw [zeu, if_neg (by omega)]
   exact hz e (by simp [he]))
  rw [List.length_append] at this
  exact this
structure MapsOK (Y : Nat -> SObj) (m : List (Int × List Int)) : Prop where
 out : Y 1 = .mapI .i64 (zby (fun n : Nat => SV.map n) (m.map fun e => (e.1, 3 + e.1.toNat)))
 rng : ∀ e ∈ m, 0 <= e.1 /\ e.1 < 12
 inn : ∀ e ∈ m, Y (3 + e.1.toNat) = .mapI .i64 (zby sB (e.2.map fun v => (v, true)))
 nd : (m.map (·.1)).Nodup
 sz : ∀ e ∈ m, e.2.length <= 1000000000
theorem zcw {α : Type} {k : Int} {v : α} : ∀ {l : List (Int × α)}, (l.map (·.1)).Nodup -> (k, v) ∈ l -> zt k l = some v
 | [], _, h => by cases h
 | (k', v') :: l, hn, h => by
  simp only [List.map_cons, List.nodup_cons] at hn
  simp only [zt]
  rcases List.mem_cons.1 h with h | h
  ·cases h; simp
  ·have : ¬ k = k' := fun e => hn.1 (e ▸ List.mem_map.2 ⟨(k, v), h, rfl⟩)
   simp [this]
   exact zcw hn.2 h
theorem zcd {α : Type} {k : Int} {v : α} : ∀ {l : List (Int × α)}, zt k l = some v -> (k, v) ∈ l
 | [], h => by simp [zt] at h
 | (k', v') :: l, h => by
  simp only [zt] at h
  split at h
  ·rename_i e
   simp only [beq_iff_eq] at e
   cases h; subst e; simp
  ·exact List.mem_cons_of_mem _ (zcd h)
theorem yti {X : Nat -> SObj} {s : St} {i : Nat} (h : i < 21) (Z : List SObj) : (WH X s ++ Z)[i]? = some (X i) := by
 have : i = 0 \/ i = 1 \/ i = 2 \/ i = 3 \/ i = 4 \/ i = 5 \/ i = 6 \/ i = 7 \/ i = 8 \/ i = 9 \/ i = 10 \/ i = 11 \/ i = 12 \/ i = 13 \/ i = 14 \/ i = 15 \/ i = 16 \/ i = 17 \/ i = 18 \/ i = 19 \/ i = 20 := by omega
 rcases this with rfl | rfl | rfl | rfl | rfl | rfl | rfl | rfl | rfl | rfl | rfl | rfl | rfl | rfl | rfl | rfl | rfl | rfl | rfl | rfl | rfl <;> rfl
def WB (X : Nat -> SObj) (s : St) (F : List Int) (cs : List SV) (n : Nat) : List SObj :=
 WH X s ++ [X 24, X 25, .cells [.ptr 2 0], .cells [.ptr 23 0], .cells [.map 1], .cells [.imm (zl F)], .cells cs, .cells [.osl 30 0 n]]
abbrev chS (m : List (Int × List Int)) (f : Int) : SV := .imm (zl (jj ((zt f m).getD [])))
theorem zvy {X : Nat -> SObj} (hX : ∀ i, (X i).under 24 = true) (s : St) (F : List Int) {cs : List SV} (n : Nat) {N : Nat} (hN : 32 <= N) (hcs : SV.under.allUnder N cs = true) : (WB X s F cs n).all (SObj.under N) = true := by
 unfold WB
 rw [List.all_append, xb (m := 24) (by omega) (zbk hX s)]
 simp only [List.all_cons, List.all_nil, SObj.under_mono (m := 24) (n := N) (by omega) _ (hX _), Bool.and_true, Bool.true_and, zyl, hcs, SV.under.allUnder, SV.under, Bool.and_eq_true, decide_eq_true_eq]
 omega
theorem zou {Y : Nat -> SObj} (hY : ∀ i, (Y i).under 24 = true) (c : Codex) (vers : List Int) (q : Sr) (s : St) (hM : MapsOK Y q.cands) (hsz : q.cands.length <= 1000000) :
  SCall Tryz.prog G 71 [.ptr 2 0, .ptr 23 0] (WH (XS Y (yc c vers q)) s ++ [XS Y (yc c vers q) 24, XS Y (yc c vers q) 25])
   (fun r H' => r = .fn (.func 104) [] [.ptr 26 0, .ptr 27 0, .ptr 29 0, .ptr 31 0] /\ 32 <= H'.length /\
    H'.take 32 = WB (XS Y (yc c vers q)) s ((yb q.cands).map (·.1)) ((yb q.cands).map fun e => .imm (zl e.2)) (yb q.cands).length) := by
 have hX := zdo hY c vers q
 have hX1 : XS Y (yc c vers q) 1 = .mapI .i64 (zby (fun n : Nat => SV.map n) (q.cands.map fun e => (e.1, 3 + e.1.toNat))) := hM.out
 have hXf : ∀ e ∈ q.cands, XS Y (yc c vers q) (3 + e.1.toNat) = .mapI .i64 (zby sB (e.2.map fun v => (v, true))) := fun e he => by
  unfold XS
  rw [if_neg (by omega)]
  exact hM.inn e he
 have hkeys : (zby (fun n : Nat => SV.map n) (q.cands.map fun e => (e.1, 3 + e.1.toNat))).map (·.1) = q.cands.map (·.1) := by simp [zby]
 have hF : (yb q.cands).map (·.1) = jj (q.cands.map (·.1)) := by unfold yb; rw [List.map_map]; exact List.map_id _
 have hC : (yb q.cands).map (fun e => SV.imm (zl e.2)) = (jj (q.cands.map (·.1))).map (chS q.cands) := by simp [yb]
 have hCl : (yb q.cands).length = (jj (q.cands.map (·.1))).length := by simp [yb]
 rw [hF, hC, hCl]
 have hFm : ∀ f ∈ jj (q.cands.map (·.1)), ∃ vals, (f, vals) ∈ q.cands := fun f hf => by
  have := (List.mergeSort_perm (q.cands.map (·.1)) fun x y => decide (x <= y)).mem_iff.1 hf
  obtain ⟨e, he, rfl⟩ := List.mem_map.1 this
  exact ⟨e.2, he⟩
 have hFl : (jj (q.cands.map (·.1))).length = q.cands.length := by simp
 generalize hXX : XS Y (yc c vers q) = X at hX hX1 hXf ⊢
 refine xa Tryz.func71 rfl (by rw [Tryz.ntmps71]; simp) ?_
 intro E hH hK
 have hX2 : X 2 = .cells (yc c vers q) := by rw [<- hXX]; rfl
 (refine ww [777, 12] 1000 ?_; conv => whnf)
 refine xz (v := .map 1) (cs := yc c vers q) rfl rfl rfl rfl (by show some (X 2) = _; rw [hX2]) rfl ?_
 refine ygr rfl rfl rfl rfl rfl rfl (ylh G 1) ?_
 refine Eq.mpr (congrArg (fun h => SWr E _ _ _ _ h) (show _ = WH X s ++ [X 24, X 25, .cells [.ptr 2 0], .cells [.ptr 23 0], .cells [.map 1]] from rfl)) ?_
 have hu29 : (WH X s ++ [X 24, X 25, SObj.cells [.ptr 2 0], .cells [.ptr 23 0], .cells [.map 1]]).all (SObj.under 29) = true := by
  rw [List.all_append, xb (m := 24) (by omega) (zbk hX s)]
  simp only [List.all_cons, List.all_nil, SObj.under_mono (m := 24) (n := 29) (by omega) _ (hX _), Bool.and_true, Bool.true_and]
  rfl
 refine wh rfl rfl rfl rfl rfl rfl ((zyv G (m := 1) (b := 28) (es := zby (fun n : Nat => SV.map n) (q.cands.map fun e => (e.1, 3 + e.1.toNat))) rfl (by show some (X 1) = _; rw [hX1]) (by decide) hu29 (by simp [zby]; omega)).mono ?_)
 rintro r H' ⟨rfl, rfl⟩
 refine ⟨Nat.le_refl _, ?_⟩
 rw [hkeys]
 generalize jj (q.cands.map (·.1)) = F at hK hFm hFl ⊢
 have hFll : (F.map fun n => [dI n]).length = F.length := by simp
 (refine za ?_; conv => whnf)
 refine ykt (n := F.length) (zz := zdp) rfl rfl rfl rfl rfl rfl rfl rfl rfl ⟨by decide, rfl⟩ rfl (by rw [hFll]) (by rw [hFll]) (by omega) ?_
 (refine za ?_; conv => whnf)
 refine zg [2, 3, 5, 6, 18, 19, 20] ?_
 refine Eq.mpr (congrArg (fun h => SW E _ _ h) (show _ = WB X s F (([] : List Int).map (chS q.cands) ++ List.replicate F.length zdp) F.length from rfl)) ?_
 refine zq F (fun i (_ : List Int × Nat) => [(2, .ptr 26 0), (3, .ptr 27 0), (5, .ptr 29 0), (6, .ptr 31 0), (18, .imm (zl F)), (19, sI (F.map fun n => [dI n]).length), (20, sI i)])
  (fun _ d => WB X s F (d.1.map (chS q.cands) ++ List.replicate d.2 zdp) F.length) (fun done rest d => d = (done, rest.length)) ([], F.length) rfl ?_ ?_
 ·rintro _ rfl
  (refine zf ?_; conv => whnf)
  repeat' ((with_reducible refine way ?_ ?_) <;> (intro h; conv => whnf))
  all_goals try (exfalso; omega)
  refine hK _ _ ⟨rfl, Nat.le_refl _, ?_⟩
  show WB X s F (F.map (chS q.cands) ++ []) F.length = _
  rw [List.append_nil]
 ·rintro done f rest _ ha hlen rfl ih
  have hw := zm (n := done.length) (by omega)
  have hrow : (F.map fun n => [dI n])[((done.length : Nat) : Int).toNat]? = some [dI f] := by simp [ha]
  obtain ⟨vals, hvm⟩ := hFm f (by rw [ha]; simp)
  have hfr := hM.rng _ hvm
  have hXv := hXf _ hvm
  simp only at hfr hXv
  have hal : zt f q.cands = some vals := zcw hM.nd hvm
  (refine zf ?_; conv => whnf)
  repeat' ((with_reducible refine way ?_ ?_) <;> (intro h; conv => whnf))
  all_goals try (exfalso; omega)
  refine zh rfl rfl  hrow ?_
  (refine za ?_; conv => whnf)
  (refine zu 1 mixed rfl ?_; refine zb [777, 30, 999] (nx := 32) ?_; conv => whnf)
  refine zae (v := .map 1) (cs := yc c vers q) rfl rfl rfl (by simp [yj, WB, WH]) rfl (by show some (X 2) = _; rw [hX2]) rfl ?_
  (refine zb [777, 999] (nx := 32) ?_; conv => whnf)
  have hlk : ((zt f (q.cands.map fun e => (e.1, 3 + e.1.toNat))).map fun n : Nat => SV.map n).getD (qk (.map none)) = .map (3 + f.toNat) := by
   have : zt f (q.cands.map fun e => (e.1, 3 + e.1.toNat)) = some (3 + f.toNat) := zcw (by rw [List.map_map]; exact hM.nd) (List.mem_map.2 ⟨_, hvm, rfl⟩)
   rw [this]
   rfl
  refine ylk (b := 1) (l := q.cands.map fun e => (e.1, 3 + e.1.toNat)) (fun n : Nat => SV.map n) rfl rfl rfl rfl rfl rfl rfl rfl (by simp [yj, WB, WH]) (by show some (X 1) = _; rw [hX1]) hlk ?_
  refine ygs 32 rfl rfl rfl rfl rfl rfl (Nat.le_refl 32) rfl (by show (decide (3 + f.toNat < 33) && true) = true; simp; omega) (ylg G (3 + f.toNat)) ?_
  have huK : (WB X s F (done.map (chS q.cands) ++ List.replicate (rest.length + 1) zdp) F.length ++ [SObj.cells [.map (3 + f.toNat)]]).all (SObj.under 33) = true := by
   rw [List.all_append, zvy hX s F F.length (by omega) (zkq _ _ _ (zaf (f := chS q.cands) (fun _ => rfl) _) (zhw 33 (zz := zdp) rfl _))]
   show (decide (3 + f.toNat < 33) && true && true) = true
   simp
   omega
  have hes : (zby sB (vals.map fun v => (v, true))).map (·.1) = vals := by
   simp only [zby, List.map_map]
   exact List.map_id _
  have hvz := hM.sz _ hvm
  simp only at hvz
  have hsp : SPre Tryz.prog G 101 [.fn (.func 142) [] [.ptr 32 0]] (WB X s F (done.map (chS q.cands) ++ List.replicate (rest.length + 1) zdp) F.length ++ [SObj.cells [.map (3 + f.toNat)]])
    (fun r' H1 => r' = .imm (zl (jj vals)) /\ H1 = WB X s F (done.map (chS q.cands) ++ List.replicate (rest.length + 1) zdp) F.length ++ [SObj.cells [.map (3 + f.toNat)]]) := by
   refine yrd rfl huK ((zyu G (m := 3 + f.toNat) (b := 32) (es := zby sB (vals.map fun v => (v, true))) rfl ?_ (by omega) huK (by simp [zby]; omega)).mono ?_)
   ·have := yti (X := X) (s := s) (i := 3 + f.toNat) (by omega) ([X 24, X 25, .cells [.ptr 2 0], .cells [.ptr 23 0], .cells [.map 1], .cells [.imm (zl F)], .cells (done.map (chS q.cands) ++ List.replicate (rest.length + 1) zdp), .cells [.osl 30 0 F.length]] ++ [SObj.cells [.map (3 + f.toNat)]])
    rw [<- List.append_assoc] at this
    rw [hXv] at this
    exact this
   ·rintro r H' ⟨rfl, rfl⟩
    rw [hes]
    exact ⟨Nat.le_refl _, rfl, by rw [List.take_length]; exact huK, rfl, List.take_length⟩
  refine yjr 33 (wr := none) rfl rfl rfl rfl rfl rfl (by simp [yj, WB, WH]) (by simp [yj, WB, WH]) (fun b ob h => by cases h) hsp ?_
  (refine zb [777, 999] (nx := 33) ?_; conv => whnf)
  refine zqe (i := done.length) rfl rfl rfl rfl rfl rfl rfl (by simp [yj, WB, WH]) rfl (by omega) ?_
  refine zgf (d := done.map (chS q.cands)) (zz := zdp) (r := List.replicate rest.length zdp) (v := .imm (zl (jj vals))) rfl rfl rfl rfl rfl rfl rfl rfl (by simp [yj, WB, WH]) rfl (by show 0 + done.length * 1 = _; simp) ?_
  (refine zb [777] (nx := 33) ?_; conv => whnf)
  (refine zf ?_; conv => whnf)
  rw [hw]
  have hchf : chS q.cands f = .imm (zl (jj vals)) := by rw [chS, hal]; rfl
  have := ih (done ++ [f], rest.length) rfl
  simp only [List.map_append, List.map_cons, List.map_nil, List.append_assoc, List.cons_append, List.nil_append, hchf] at this
  refine yr [2, 3, 5, 6, 18, 19, 20] 32 (by rw [hH]; exact (by decide : 26 <= 32)) (Nat.le_succ 32) rfl ?_ this
  exact zvy hX s F F.length (Nat.le_refl _) (zkq _ _ _ (zaf (f := chS q.cands) (fun _ => rfl) _) (by simp only [SV.under.allUnder, zhw 32 (zz := zdp) rfl]; rfl))
end Go.Proofs.YtblpjknmhajcgaaGreatDoor
namespace Go.Sh
mutual
theorem SV.ren_id {m : Nat} {σ : Nat -> Nat} (hσ : ∀ b, b < m -> σ b = b) : ∀ s : SV, s.under m = true -> s.ren σ = s
 | .any, _ => rfl
 | .imm _, _ => rfl
 | .ptr b _, h => by simp only [SV.under, decide_eq_true_eq] at h; simp only [SV.ren, hσ b h]
 | .osl b _ _, h => by simp only [SV.under, decide_eq_true_eq] at h; simp only [SV.ren, hσ b h]
 | .asl b _ _, h => by simp only [SV.under, decide_eq_true_eq] at h; simp only [SV.ren, hσ b h]
 | .map b, h => by simp only [SV.under, decide_eq_true_eq] at h; simp only [SV.ren, hσ b h]
 | .yld b, h => by simp only [SV.under, decide_eq_true_eq] at h; simp only [SV.ren, hσ b h]
 | .vec b _, h => by simp only [SV.under, decide_eq_true_eq] at h; simp only [SV.ren, hσ b h]
 | .vptr b _ _, h => by simp only [SV.under, decide_eq_true_eq] at h; simp only [SV.ren, hσ b h]
 | .fn _ x y, h => by
  simp only [SV.under, Bool.and_eq_true] at h
  simp only [SV.ren, zku hσ x h.1, zku hσ y h.2]
 | .iface _ v, h => by
  simp only [SV.under] at h
  simp only [SV.ren, SV.ren_id hσ v h]
 | .agg cs, h => by
  simp only [SV.under] at h
  simp only [SV.ren, zku hσ cs h]
 | .tup vs, h => by
  simp only [SV.under] at h
  simp only [SV.ren, zku hσ vs h]
theorem zku {m : Nat} {σ : Nat -> Nat} (hσ : ∀ b, b < m -> σ b = b) : ∀ l : List SV, SV.under.allUnder m l = true -> SV.ren.renL σ l = l
 | [], _ => rfl
 | s :: r, h => by
  simp only [SV.under.allUnder, Bool.and_eq_true] at h
  simp only [SV.ren.renL, SV.ren_id hσ s h.1, zku hσ r h.2]
end
theorem zpc {α : Type} {f : α -> α} {l : List α} (h : ∀ a ∈ l, f a = a) : l.map f = l := by
 conv => rhs; rw [<- List.map_id l]
 exact List.map_congr_left h
theorem SObj.ren_id {m : Nat} {σ : Nat -> Nat} (hσ : ∀ b, b < m -> σ b = b) (o : SObj) (h : o.under m = true) : o.ren σ = o := by
 cases o with
 | cells cs => simp only [SObj.ren]; rw [<- zgj, zku hσ cs h]
 | mapI kk es =>
  simp only [SObj.under, List.all_eq_true] at h
  simp only [SObj.ren]
  rw [zpc fun e he => by rw [SV.ren_id hσ e.2 (h e he)]]
 | mapS es =>
  simp only [SObj.under, List.all_eq_true] at h
  simp only [SObj.ren]
  rw [zpc fun e he => by rw [SV.ren_id hσ e.2 (h e he)]]
 | loop s f n t ps a b =>
  simp only [SObj.under, List.all_eq_true] at h
  simp only [SObj.ren]
  rw [zpc fun e he => by rw [SV.ren_id hσ e.2 (h e he)]]
 | vec kk cs => simp only [SObj.ren]; rw [<- zgj, zku hσ cs h]
 | pin kk es c =>
  simp only [SObj.under, List.all_eq_true] at h
  simp only [SObj.ren]
  rw [zpc fun e he => by rw [SV.ren_id hσ e.2.2 (h e he)]]
 | iter b s seen l => simp only [SObj.under, decide_eq_true_eq] at h; simp only [SObj.ren, hσ b h]
 | tok _ _ => rfl
 | dead => rfl
 | free => rfl
section
variable {P : Program} {G : List (Nat × D)} {fn : Func} {rd : Bool} {E : En P G fn rd} {t : List (Nat × SV)} {H : List SObj} {k : List Item}
theorem yrh (σ : Nat -> Nat) {t' : List (Nat × SV)} {H' : List SObj} (hfix : ∀ b, b < E.H.length -> σ b = b) (hinj : ∀ b b', b < H'.length -> b' < H'.length -> σ b = σ b' -> b = b') (hlen : E.H.length <= H'.length)
    (hobj : ∀ b o, H'[b]? = some o -> H[σ b]? = some (o.ren σ)) (hu : H'.all (SObj.under H'.length) = true) (ht : ∀ n, wu t n = (wu t' n).ren σ \/ wu t' n = .any) (htu : t'.all (fun e => e.2.under H'.length) = true) (h : SW E k t' H') : SW E k t H := by
  refine ⟨fun a w I β cs hs => ?_⟩
  have hH := hs.heap
  have hσlt : ∀ b, b < H'.length -> σ b < H.length := fun b hb => lt_of_getElem? (hobj b _ (List.getElem?_eq_getElem hb))
  obtain ⟨β0, hl0, hβ0⟩ : ∃ β0 : List Bnd, β0.length = H'.length /\ ∀ b, b < H'.length -> β0[b]? = β[σ b]? := by
    refine ⟨(List.range H'.length).map (fun b => β.getD (σ b) freeB), by simp, fun b hb => ?_⟩
    have hlt : σ b < β.length := by rw [hH.len]; exact hσlt b hb
    rw [List.getElem?_map, List.getElem?_range hb]
    simp [List.getD_eq_getElem?_getD, List.getElem?_eq_getElem hlt]
  have up0 : ∀ b x, β0[b]? = some x -> β[σ b]? = some x := fun b x hx => by rw [<- hβ0 b (by rw [<- hl0]; exact lt_of_getElem? hx)]; exact hx
  have un0 : ∀ b x, b < H'.length -> β[σ b]? = some x -> β0[b]? = some x := fun b x hb hx => by rw [hβ0 b hb]; exact hx
  have up : ∀ b c, qp H' β0 b c -> qp H β (σ b) c := by
    rintro b c ⟨o, x, h1, h2, h3, h4⟩
    exact ⟨o.ren σ, x, hobj b o h1, fun e => h2 (SObj.ren_dead.1 e), up0 b x h3, h4⟩
  have olt : ∀ {b c}, qp H' β0 b c -> b < H'.length := fun ⟨_, _, h1, _⟩ => lt_of_getElem? h1
  refine h.run a w I β0 cs ⟨⟨hl0, fun b o x h1 h2 => ?_, fun b b' c h1 h2 => hinj b b' (olt h1) (olt h2) (hH.inj _ _ c (up b c h1) (up b' c h2)), hH.inI, hH.glob⟩, fun n => ?_, hs.size, ?_, ?_, hlen⟩
  · exact (hH.obj (σ b) (o.ren σ) x (hobj b o h1) (up0 b x h2)).unren un0 (List.all_eq_true.1 hu o (List.mem_of_getElem? h1))
  · rcases ht n with h1 | h1
    · have := hs.tmps n
      rw [h1] at this
      exact this.unren un0 rfl (zbx htu n)
    · rw [h1]; exact .any _
  · obtain ⟨bs, d1, d2, d3⟩ := hs.defers
    exact ⟨bs, d1, d2, fun c hc => ⟨(d3 c hc).1, (d3 c hc).2.1, fun b hb => (d3 c hc).2.2 (σ b) (up b c hb)⟩⟩
  · exact { hs.ext with
      keep := fun b x hb hx => by
        obtain ⟨y, hy, hle⟩ := hs.ext.keep b x hb hx
        exact ⟨y, un0 b y (by omega) (by rw [hfix b hb]; exact hy), hle⟩
      own := fun b c ho => hs.ext.own (σ b) c (up b c ho) }
theorem yri (nx : Nat) {all : Array Oper} {o : Oper} {rest : List Oper} {done : List Eff} {K : List SObj} {m e : Nat} {x : Operand} {cs : List SV} (hop : o.op = .box e x) (hw : yg all t o.guard = some true) (hd : yi fn.ntmps o.dst = true)
  (hx : (zo G t x).cells = some cs) (hu : SV.under.allUnder K.length cs = true) (hm : m <= nx) (hnx : K[nx]? = some .dead)
  (h : SWe E m all rest k (wq t o.dst (.ptr nx 0)) (K.set nx (.cells cs)) (done ++ [⟨.ptr nx 0, [], some (nx, .cells cs)⟩])) : SWe E m all (o :: rest) k t K done := by
 have := yaq (E := E) (m := m) (all := all) (rest := rest) (k := k) (t := t) (K := K) (done := done) nx (r := .ptr K.length 0) (ob := .cells cs) hw hd hm hnx (by simp [SV.isNew]) hu
  (fun K' hl' => by
   rw [hop]
   simp only [sop, hx, hl']
   rfl)
 simp only [SV.mv, if_true] at this
 exact this h
theorem zlw (n m : Nat) (s : SV) : ∀ t0 : List (Nat × SV), (wu (t0 ++ [(m, s)]) n = wu t0 n /\ wu t0 n ≠ .any) \/ (wu t0 n = .any /\ (wu (t0 ++ [(m, s)]) n = .any \/ (m = n /\ wu (t0 ++ [(m, s)]) n = s)))
 | [] => by
  right
  refine ⟨rfl, ?_⟩
  simp only [List.nil_append, wu]
  split
  ·rename_i e; exact .inr ⟨e, rfl⟩
  ·exact .inl rfl
 | (m', s') :: t0 => by
  simp only [List.cons_append, wu]
  by_cases e : m' = n
  ·rw [if_pos e, if_pos e]
   by_cases h : s' = .any
   ·right; exact ⟨h, .inl h⟩
   ·left; exact ⟨rfl, h⟩
  ·rw [if_neg e, if_neg e]
   exact zlw n m s t0
theorem zra {n0 v : Nat} {t0 : List (Nat × SV)} {A : List SObj} {c0 c1 : SObj} (hA : A.length = n0) (hE : E.H.length <= n0) (hu : A.all (SObj.under n0) = true) (hc : c1.under n0 = true) (ht : t0.all (fun e => e.2.under n0) = true)
  (h : SW E k (t0 ++ [(v, .ptr n0 0)]) (A ++ [c1])) : SW E k (t0 ++ [(v, .ptr (n0 + 1) 0)]) (A ++ [c0, c1]) := by
 subst hA
 have hid : ∀ b, b < A.length -> (if b = A.length then A.length + 1 else b) = b := fun b hb => by rw [if_neg (by omega)]
 refine yrh (fun b => if b = A.length then A.length + 1 else b) (fun b hb => hid b (by omega)) (fun b b' hb hb' e => ?_) (by simp; omega) (fun b o ho => ?_) ?_ (fun n => ?_) ?_ h
 ·simp only [List.length_append, List.length_singleton] at hb hb'
  split at e <;> split at e <;> omega
 ·have hlt := lt_of_getElem? ho
  simp only [List.length_append, List.length_singleton] at hlt
  by_cases e : b = A.length
  ·subst e
   rw [List.getElem?_append_right (Nat.le_refl _)] at ho
   simp only [Nat.sub_self, List.getElem?_cons_zero, Option.some.injEq] at ho
   subst ho
   rw [if_pos rfl, SObj.ren_id hid _ hc, List.getElem?_append_right (by omega)]
   simp
  ·have hb : b < A.length := by omega
   rw [List.getElem?_append_left hb] at ho
   rw [if_neg e, SObj.ren_id hid _ (List.all_eq_true.1 hu _ (List.mem_of_getElem? ho)), List.getElem?_append_left hb]
   exact ho
 ·rw [List.all_append, xb (m := A.length) (by simp) hu]
  simp only [List.all_cons, List.all_nil, Bool.and_true, Bool.true_and]
  exact SObj.under_mono (by simp) _ hc
 ·rcases zlw n v (.ptr (A.length + 1) 0) t0 with ⟨h1, h2⟩ | ⟨h1, h2⟩
  ·rcases zlw n v (.ptr A.length 0) t0 with ⟨g1, g2⟩ | ⟨g1, g2⟩
   ·left
    rw [h1, g1, SV.ren_id hid _ (zbx ht n)]
   ·exact absurd g1 h2
  ·rcases zlw n v (.ptr A.length 0) t0 with ⟨g1, g2⟩ | ⟨g1, g2⟩
   ·exact absurd h1 g2
   ·rcases g2 with g2 | ⟨g2, g3⟩
    ·right; exact g2
    ·subst g2
     rcases h2 with h2 | ⟨_, h3⟩
     ·exfalso
      have : ∀ (t0 : List (Nat × SV)) (x y : SV), wu (t0 ++ [(v, x)]) v = .any -> x ≠ .any -> y ≠ .any -> wu (t0 ++ [(v, y)]) v = .any := by
       intro t0
       induction t0 with
       | nil =>
        intro x y hx hxn hyn
        simp only [List.nil_append, wu, if_true] at hx
        exact absurd hx hxn
       | cons e t0 ih =>
        intro x y hx hxn hyn
        simp only [List.cons_append, wu] at hx ⊢
        split
        ·rename_i e'; rw [if_pos e'] at hx; exact hx
        ·rename_i e'; rw [if_neg e'] at hx; exact ih x y hx hxn hyn
      have := this t0 _ (.ptr A.length 0) h2 (by simp) (by simp)
      rw [this] at g3
      cases g3
     ·left
      rw [h3, g3]
      simp [SV.ren]
 ·rw [List.all_append]
  simp only [List.all_cons, List.all_nil, Bool.and_true, Bool.and_eq_true]
  refine ⟨?_, ?_⟩
  ·simp only [List.all_eq_true] at ht ⊢
   exact fun e he => SV.under_mono (by simp) _ (ht e he)
  ·simp [SV.under]
theorem zia {all : Array Oper} {o : Oper} {rest : List Oper} {ty b n : Nat} {ax vx : Operand} {new old : List SV} (hop : o.op = .store ty ax vx) (hw : yg all t o.guard = some true) (hd : yi fn.ntmps o.dst = true) (ha : zo G t ax = .ptr b 0)
  (hv : (zo G t vx).cells = some new) (hone : new.all SV.one = true) (hsz : wv P ty = some n) (hn : new.length = n) (hb : H[b]? = some (.cells old)) (hol : old.length = n) (h : SWr E all rest k (wq t o.dst .any) (H.set b (.cells new))) : SWr E all (o :: rest) k t H := by
 refine zbe (r := .any) (H' := H.set b (.cells new)) hw hd ?_ (by simp) h
 rw [hop]
 subst hn
 simp only [sop, zch, ha, hv, hsz, hb]
 rw [if_pos ⟨trivial, by omega, hone⟩]
 simp [<- hol]
end
end Go.Sh
namespace Go.Proofs.YtblpjknmhajcgaaGreatDoor
open Go Go.Sh
variable (G : List (Nat × D))
theorem yoq {Y : Nat -> SObj} (hY : ∀ i, (Y i).under 24 = true) (hY28 : Y 28 = .cells [.map 1]) (c : Codex) (vers : List Int) (q : Sr) (ch : List (Int × List Int)) {f0 : FuncId} {n0 : Nat} {tL : List (Nat × SV)} {ps : Array Tmp} {asg bd : Code} (Q : List Int -> List SObj -> Prop)
  (hlp : (SObj.loop .ready f0 n0 tL ps asg bd).under 33 = true) (hps : 1 = ps.size) (hch : ch.length <= 1073741824) (hcz : q.conds.length <= 1073741824) (nf : Nat) (hsz : nf <= 1073741824) (hc : ∀ x ∈ q.conds, x.ok nf) (hvz : ∀ e ∈ ch, e.2.length <= 1073741824)
  (hy : ∀ s : St, s.ch.length = nf -> s.vs.length = nf -> SYield Tryz.prog G 32 [.imm (zl s.vs)] (WA (XS Y (yc c vers q)) s ch (.loop .ready f0 n0 tL ps asg bd)) (fun res H' => res = false /\ 35 <= H'.length /\ Q s.vs H'))
  (s : St) (hn : s.vs.length = nf) (hR : RestOK q.conds ch s) (hz : ∀ e ∈ ch, s.vs.getD e.1.toNat 0 = 0) :
  SCall Tryz.prog G 104 [.yld 32, .ptr 26 0, .ptr 27 0, .ptr 29 0, .ptr 31 0] (WB (XS Y (yc c vers q)) s (ch.map (·.1)) (ch.map fun e => .imm (zl e.2)) ch.length ++ [.loop .ready f0 n0 tL ps asg bd])
   (fun _ H' => 33 <= H'.length /\ (∀ vs, qa q.conds ch s = some vs -> Q vs H') /\ (qa q.conds ch s = none -> H'.take 33 = WB (XS Y (yc c vers q)) s (ch.map (·.1)) (ch.map fun e => .imm (zl e.2)) ch.length ++ [.loop .ready f0 n0 tL ps asg bd])) := by
 have hX28 : XS Y (yc c vers q) 28 = .cells [.map 1] := by unfold XS; rw [if_neg (by omega)]; exact hY28
 have hrec := ztn G hY c vers q ch Q (SObj.under_mono (m := 33) (by omega) _ hlp) hps hch hcz nf hsz hc hvz hy ch [] s rfl hn hR hz
 generalize XS Y (yc c vers q) = X at hX28 hrec ⊢
 refine xa Tryz.func104 rfl (by rw [Tryz.ntmps104]; simp) ?_
 intro E hH hK
 have e : WA X s ch (.loop .ready f0 n0 tL ps asg bd) = WB X s (ch.map (·.1)) (ch.map fun e => .imm (zl e.2)) ch.length ++ [.loop .ready f0 n0 tL ps asg bd, .cells [.yld 32], .cells [fnA]] := by
  unfold WA WB
  rw [hX28]
  rfl
 unfold yrf at hrec
 rw [e] at hrec
 (refine zf ?_; conv => whnf)
 refine wh rfl rfl rfl rfl rfl rfl (hrec.mono ?_)
 rintro r H' ⟨hl', hs, hnone⟩
 refine ⟨hl', ?_⟩
 (refine za ?_; conv => whnf)
 refine hK _ _ ⟨by omega, fun vs hv => (hs vs hv).2, fun hv => ?_⟩
 have := (hnone hv).2
 have e2 : H'.take 33 = (H'.take 35).take 33 := by rw [List.take_take]; rfl
 rw [e2, this]
 rfl
def NSH (Y : Nat -> SObj) (cs : List SV) : List SObj := [Y 0, Y 1, .cells cs, Y 3, Y 4, Y 5, Y 6, Y 7, Y 8, Y 9, Y 10, Y 11, Y 12, Y 13, Y 14, Y 15, Y 16]
def zyy (failed : List ByteArray) : SObj := .mapS (zby sB (failed.map fun g => (g, true)))
def zao : List SV := [sI 0, zdp, zdp, zdp]
def YW (Y : Nat -> SObj) (nf : Nat) (failed : List ByteArray) (day : Int) (i : Nat) : SObj :=
 if i = 17 then .cells [.ptr 2 0] else if i = 18 then .cells zao else if i = 19 then .cells [sB false] else if i = 20 then .cells [sI nf] else if i = 24 then zyy failed else if i = 25 then .cells [sI day] else if i = 28 then .cells [.map 1] else Y i
theorem zkv (failed : List ByteArray) (n : Nat) : (zyy failed).under n = true := by
 simp only [zyy, SObj.under, zby, List.map_map, List.all_map, List.all_eq_true]
 intro x _
 rfl
theorem zvz {Y : Nat -> SObj} (hY : ∀ i, (Y i).under 17 = true) (nf : Nat) (failed : List ByteArray) (day : Int) (i : Nat) : (YW Y nf failed day i).under 24 = true := by
 unfold YW
 split
 ·rfl
 split
 ·rfl
 split
 ·rfl
 split
 ·rfl
 split
 ·exact zkv _ _
 split
 ·rfl
 split
 ·rfl
 ·exact SObj.under_mono (by omega) _ (hY i)
theorem yqa {Y : Nat -> SObj} {nf : Nat} {failed : List ByteArray} {day : Int} {i : Nat} (h : i < 17) : YW Y nf failed day i = Y i := by
 unfold YW
 repeat rw [if_neg (by omega)]
theorem yrj {Y : Nat -> SObj} {m : List (Int × List Int)} (h : MapsOK Y m) (nf : Nat) (failed : List ByteArray) (day : Int) : MapsOK (YW Y nf failed day) m :=
 ⟨by rw [yqa (by omega)]; exact h.out, h.rng, fun e he => by have := h.rng e he; rw [yqa (by omega)]; exact h.inn e he, h.nd, h.sz⟩
abbrev XW (Y : Nat -> SObj) (c : Codex) (vers : List Int) (q : Sr) (failed : List ByteArray) (day : Int) : Nat -> SObj := XS (YW Y c.facts.length failed day) (yc c vers q)
abbrev s00 (nf : Nat) (p : zep) : St := ⟨p, List.replicate nf false, List.replicate nf 0⟩
def WD (Y : Nat -> SObj) (c : Codex) (vers : List Int) (q : Sr) (failed : List ByteArray) (day : Int) (p : zep) : List SObj :=
 WH (XW Y c vers q failed day) (s00 c.facts.length p) ++ [zyy failed, .cells [sI day]]
theorem yei {g : ByteArray} : ∀ {failed : List ByteArray}, ¬ g ∈ failed -> ains g true (failed.map fun g => (g, true)) = (failed ++ [g]).map fun g => (g, true)
 | [], _ => rfl
 | x :: l, h => by
  simp only [List.mem_cons, not_or] at h
  simp only [List.map_cons, ains, List.cons_append]
  have : ¬ (g == x) = true := by simpa using h.1
  rw [if_neg this, yei h.2]
def ytj : SObj -> List (Nat × SV) -> SObj
 | .loop _ f n _ ps a b, t => .loop (.done .ret) f n t ps a b
 | o, _ => o
section
variable {A : List SObj} {n : Nat} (hn : A.length = n) (a a' c l : SObj)
include hn
theorem yvq : (A ++ [a, c, l])[n]? = some a := by subst hn; simp
theorem yvr : (A ++ [a, c, l])[n + 1]? = some c := by subst hn; simp
theorem yvs : (A ++ [a, c, l])[n + 2]? = some l := by subst hn; simp
theorem yvt : (A ++ [a, c, l]).set n a' = A ++ [a', c, l] := by subst hn; simp
theorem yvz : (A ++ [a, c, l]).set (n + 2) a' = A ++ [a, c, a'] := by subst hn; simp
theorem ytk {i : Nat} (h : i < n) : (A ++ [a, c, l])[i]? = A[i]? := by subst hn; rw [List.getElem?_append_left h]
end
def zwa (nf : Nat) (done : List Int) : List Bool := (List.range nf).map fun (i : Nat) => decide ((i : Int) ∈ done)
theorem yej (nf : Nat) (done : List Int) : (zwa nf done).length = nf := by simp [zwa]
theorem yor (nf : Nat) : (zwa nf []).map bvS = List.replicate nf (bvS false) := by
 apply List.ext_getElem
 ·simp [zwa]
 ·intro i h1 h2
  simp [zwa]
theorem yos {nf : Nat} {done : List Int} {f : Int} (h : 0 <= f /\ f < nf) : (zwa nf done).set f.toNat true = zwa nf (done ++ [f]) := by
 apply List.ext_getElem
 ·simp [zwa]
 ·intro i h1 h2
  rw [List.getElem_set]
  simp only [zwa, List.getElem_map, List.getElem_range, List.mem_append, List.mem_singleton]
  split
  ·rename_i e
   have : (i : Int) = f := by omega
   simp [this]
  ·rename_i e
   have : ¬ (i : Int) = f := by omega
   simp [this]
theorem zew {α : Type} {k : Int} : ∀ {l : List (Int × α)}, (zt k l).isSome = decide (k ∈ l.map (·.1))
 | [] => by simp [zt]
 | (k', v) :: l => by
  simp only [zt, List.map_cons, List.mem_cons]
  by_cases e : k = k'
  ·subst e; simp
  ·have : ¬ (k == k') = true := by simpa using e
   rw [if_neg this, zew]
   simp [e]
theorem yot {nf : Nat} {done : List Int} {m : List (Int × List Int)} (h : done.Perm (m.map (·.1))) : zwa nf done = (List.range nf).map fun (i : Nat) => (zt (i : Int) m).isSome := by
 unfold zwa
 refine List.map_congr_left fun i _ => ?_
 rw [zew]
 exact decide_eq_decide.2 h.mem_iff
theorem zrb (g : ByteArray) : ∀ failed : List ByteArray, ((zt g (failed.map fun g => (g, true))).map sB).getD (qk (.bool false)) = sB (decide (g ∈ failed))
 | [] => by simp [zt]; rfl
 | x :: l => by
  simp only [List.map_cons, zt]
  by_cases e : g = x
  ·subst e; simp
  ·have : ¬ (g == x) = true := by simpa using e
   rw [if_neg this, zrb g l]
   simp [e]
theorem ytl (X : Nat -> SObj) (nf : Nat) (p : zep) : WH X (s00 nf p) = [X 0, X 1, X 2, X 3, X 4, X 5, X 6, X 7, X 8, X 9, X 10, X 11, X 12, X 13, X 14, X 15, X 16, X 17, X 18, X 19, X 20, .cells (List.replicate nf (bvS false)), .cells (List.replicate nf (ivS 0)),
   .cells [ivS p.1, ivS p.2.1, ivS p.2.2.1, ivS p.2.2.2.1, ivS p.2.2.2.2, .osl 21 0 nf, .osl 22 0 nf]] := by simp [WH]
structure WitOK (Y : Nat -> SObj) (c : Codex) (vers : List Int) (q : Sr) : Prop where
 und : ∀ i, (Y i).under 17 = true
 maps : MapsOK Y q.cands
 nf : c.facts.length <= 1000
 arts : c.arts.length <= 1000
 days : ylf c
 versR : ∀ v ∈ vers, 0 <= v /\ v < c.arts.length
 vsz : vers.length <= 1000000
 cz : q.conds.length <= 1000000
 az : q.atoms.length <= 1000000
 conds : ∀ x ∈ q.conds, x.ok c.facts.length
 atoms : ∀ x ∈ q.atoms, x.ok c.facts.length /\ ∃ op l r, x = .cmp op l r
 sr : SrOK q c.facts.length
 csz : q.cands.length <= 1000
def you (c : Codex) (vers : List Int) (q : Sr) : SV :=
 match qy c vers q with
 | some v => .tup [.agg [sI v.day, .imm (qg v.has), .imm (zl v.value), .imm (zl v.arts)], sB true]
 | none => .tup [.agg zao, sB false]
theorem zyz {Y : Nat -> SObj} {c : Codex} {vers : List Int} {q : Sr} (hW : WitOK Y c vers q) :
    SCall Tryz.prog G0 41 [.ptr 2 0] (NSH Y (yc c vers q)) (fun r _ => r = you c vers q) := by
  have hfl : (c.facts.map Decl.cells).length = c.facts.length := by simp
  have hnf := hW.nf
  refine xa Tryz.func41 rfl (by rw [Tryz.ntmps41]; simp) ?_
  intro E hH hK
  (refine zf ?_; conv => whnf)
  rw [hfl]
  (refine zu 3 mixed rfl ?_; refine zb [777] (nx := 21) ?_; conv => whnf)
  refine yku 21 (n := c.facts.length) (zz := bvS false) rfl rfl rfl rfl rfl rfl rfl rfl rfl ⟨by decide, rfl⟩ rfl (fun _ => rfl) (Nat.le_refl 21) rfl rfl rfl (by omega) ?_
  (refine zb [777] (nx := 22) ?_; conv => whnf)
  refine yku 22 (n := c.facts.length) (zz := ivS 0) rfl rfl rfl rfl rfl rfl rfl rfl rfl ⟨by decide, rfl⟩ rfl (fun _ => rfl) (by decide : 21 <= 22) rfl rfl rfl (by omega) ?_
  (refine zb [777] (nx := 23) ?_; conv => whnf)
  refine yri 23 (cs := [ivS 0, ivS 0, ivS 0, ivS 0, ivS 0, .osl 21 0 c.facts.length, .osl 22 0 c.facts.length]) rfl rfl rfl rfl rfl (by decide : 21 <= 23) rfl ?_
  (refine zb [777] (nx := 24) ?_; conv => whnf)
  refine zg [1, 2, 3, 4, 5] ?_
  refine Eq.mpr (congrArg (fun h => SW E _ _ h) (show _ = WH (XW Y c vers q [] 0) (s00 c.facts.length (0, 0, 0, 0, 0)) by rw [ytl]; rfl)) ?_
  show SW E _ [(1, .ptr 17 0), (2, .ptr 18 0), (3, .ptr 19 0), (4, .ptr 20 0), (5, .ptr 23 0)] _
  have hlen0 : (s00 c.facts.length (0, 0, 0, 0, 0)).ch.length = (s00 c.facts.length (0, 0, 0, 0, 0)).vs.length := by simp
  (refine zf ?_; conv => whnf)
  refine yx 24 rfl rfl rfl rfl rfl rfl (ygw G0 (zvz hW.und c.facts.length [] 0) c vers q _ hW.days hW.versR (by have := hW.vsz; omega)) ?_
  intro r1 H1 hr _
  obtain ⟨rfl, rfl⟩ := hr
  have hfr := zyq hW.days vers (0, 36525) (by decide)
  have hhz := zks q.dates
  have hwit : you c vers q = match (match zcc q c.facts.length (min (ym c vers).2 ((ym c vers).1 + yw q.dates) - (ym c vers).1).toNat (ym c vers).1 [] with
      | some (day, vs) => some (⟨day, (List.range c.facts.length).map fun (i : Nat) => (zt (i : Int) q.cands).isSome, vs, vers⟩ : View)
      | none => none) with
    | some v => .tup [.agg [sI v.day, .imm (qg v.has), .imm (zl v.value), .imm (zl v.arts)], sB true]
    | none => .tup [.agg zao, sB false] := rfl
  rw [hwit] at hK
  have hfr' : 0 <= (ym c vers).1 /\ (ym c vers).1 <= 36525 /\ 0 <= (ym c vers).2 /\ (ym c vers).2 <= 36525 := hfr
  generalize hlo : (ym c vers).1 = lo at hK hfr' ⊢
  generalize hto : min (ym c vers).2 (lo + yw q.dates) = to at hK ⊢
  have hto' : to <= 36525 := by omega
  (refine za ?_; conv => whnf)
  refine zg [1, 2, 3, 4, 5, 6, 8, 9] ?_
  refine xr (σ := Nat × Int × List ByteArray × zep) (fun _ => [(1, .ptr 17 0), (2, .ptr 18 0), (3, .ptr 19 0), (4, .ptr 20 0), (5, .ptr 23 0), (6, .map 24), (8, sI to)] ++ [(9, .ptr 25 0)]) (fun x => WD Y c vers q x.2.2.1 x.2.1 x.2.2.2)
    (fun x => lo <= x.2.1 /\ (x.1 : Int) = max 0 (to - x.2.1) /\ (x.2.2.2 = (0, 0, 0, 0, 0) \/ (1 <= x.2.1 /\ x.2.2.2 = xe (x.2.1 - 1))) /\ zcc q c.facts.length (to - lo).toNat lo [] = zcc q c.facts.length x.1 x.2.1 x.2.2.1) (fun x => x.1) ?_ ((to - lo).toNat, lo, [], (0, 0, 0, 0, 0)) ⟨Int.le_refl _, by simp only; omega, .inl rfl, rfl⟩
  rintro ⟨n, day, failed, p⟩ ⟨h1, h2, h3, h4⟩ ih
  simp only at h1 h2 h3 h4
  show SW E _ _ (WD Y c vers q failed day p)
  have hYW := zvz hW.und c.facts.length failed day
  have hXW := zdo hYW c vers q
  have huA : ∀ FF, (WH (XW Y c vers q FF day) (s00 c.facts.length (xe day)) ++ [zyy FF]).all (SObj.under 25) = true := fun FF => by
    rw [List.all_append, xb (m := 24) (by omega) (zbk (zdo (zvz hW.und c.facts.length FF day) c vers q) _)]
    simp only [List.all_cons, List.all_nil, zkv, Bool.and_true, Bool.true_and]
  have hst : (st0 c.facts.length day).ch.length = (st0 c.facts.length day).vs.length := by simp [st0]
  have hstv : (st0 c.facts.length day).vs.length = c.facts.length := by simp [st0]
  have hcz := hW.cz
  have haz := hW.az
  have hcsz := hW.csz
  (refine zf ?_; conv => whnf)
  repeat' ((with_reducible refine way ?_ ?_) <;> (intro h; conv => whnf))
  · obtain ⟨n', rfl⟩ : ∃ n', n = n' + 1 := ⟨n - 1, by omega⟩
    simp only [zcc] at h4
    refine yx 24 rfl rfl rfl rfl rfl rfl (zyo hXW (s00 c.facts.length p) day ⟨by omega, by omega⟩ h3) ?_
    intro r1 H1 hr _
    obtain ⟨rfl, rfl⟩ := hr
    refine Eq.mpr (congrArg (fun h => SWr E _ _ _ _ h) (show _ = WD Y c vers q failed day (xe day) from rfl)) ?_
    (refine za ?_; conv => whnf)
    refine yx 24 rfl rfl rfl rfl rfl rfl (zhx G0 hYW c vers q (st0 c.facts.length day) hst (by rw [hstv]; exact hW.conds) (by omega)) ?_
    intro r1 H1 hr _
    obtain ⟨rfl, rfl⟩ := hr
    refine Eq.mpr (congrArg (fun h => SWr E _ _ _ _ h) (show _ = WD Y c vers q failed day (xe day) from rfl)) ?_
    generalize hv : zah q.conds (st0 c.facts.length day) = vd at h4
    (refine za ?_; conv => whnf)
    repeat' ((with_reducible refine way ?_ ?_) <;> (intro h; conv => whnf))
    · rw [if_pos (by assumption)] at h4
      rw [xh (c := day + 1) (by omega) (by omega)]
      refine zg [1, 2, 3, 4, 5, 6, 8, 9] ?_
      refine Eq.mpr (congrArg (fun h => SW E _ _ h) (show _ = (WH (XW Y c vers q failed day) (s00 c.facts.length (xe day)) ++ [zyy failed]) ++ [.cells [sI day], .cells [sI (day + 1)]] from rfl)) ?_
      refine zra (n0 := 25) (t0 := [(1, .ptr 17 0), (2, .ptr 18 0), (3, .ptr 19 0), (4, .ptr 20 0), (5, .ptr 23 0), (6, .map 24), (8, sI to)]) (v := 9) rfl (by rw [hH]; exact (by decide : 17 <= 25)) (huA failed) rfl rfl ?_
      exact ih (n', day + 1, failed, xe day) ⟨by simp only; omega, by simp only; omega, .inr ⟨by simp only; omega, by simp only; rw [show day + 1 - 1 = day by omega]⟩, h4⟩ (by simp only; omega)
    rw [if_neg (by assumption)] at h4
    refine yx 24 rfl rfl rfl rfl rfl rfl (zso G0 hYW c vers q (st0 c.facts.length day) hst (by rw [hstv]; exact hW.atoms) (by omega)) ?_
    intro r1 H1 hr _
    obtain ⟨rfl, rfl⟩ := hr
    refine Eq.mpr (congrArg (fun h => SWr E _ _ _ _ h) (show _ = WD Y c vers q failed day (xe day) from rfl)) ?_
    generalize hsg : zna q.atoms (st0 c.facts.length day) = g at h4
    (refine za ?_; conv => whnf)
    refine zqb (b := 24) (l := failed.map fun g => (g, true)) sB rfl rfl rfl rfl rfl rfl rfl rfl rfl (zrb g failed) ?_
    by_cases hm : g ∈ failed
    · rw [if_pos hm] at h4
      rw [show decide (g ∈ failed) = true by simp [hm]]
      (refine za ?_; conv => whnf)
      rw [xh (c := day + 1) (by omega) (by omega)]
      refine zg [1, 2, 3, 4, 5, 6, 8, 9] ?_
      refine Eq.mpr (congrArg (fun h => SW E _ _ h) (show _ = (WH (XW Y c vers q failed day) (s00 c.facts.length (xe day)) ++ [zyy failed]) ++ [.cells [sI day], .cells [sI (day + 1)]] from rfl)) ?_
      refine zra (n0 := 25) (t0 := [(1, .ptr 17 0), (2, .ptr 18 0), (3, .ptr 19 0), (4, .ptr 20 0), (5, .ptr 23 0), (6, .map 24), (8, sI to)]) (v := 9) rfl (by rw [hH]; exact (by decide : 17 <= 25)) (huA failed) rfl rfl ?_
      exact ih (n', day + 1, failed, xe day) ⟨by simp only; omega, by simp only; omega, .inr ⟨by simp only; omega, by simp only; rw [show day + 1 - 1 = day by omega]⟩, h4⟩ (by simp only; omega)
    rw [if_neg hm] at h4
    rw [show decide (g ∈ failed) = false by simp [hm]]
    (refine za ?_; conv => whnf)
    refine wh rfl rfl rfl rfl rfl rfl ((zou G0 hYW c vers q (st0 c.facts.length day) (yrj hW.maps _ _ _) (by omega)).mono ?_)
    rintro r H' ⟨rfl, hl', ht⟩
    refine ⟨Nat.le_trans (by decide : 26 <= 32) hl', ?_⟩
    (refine za ?_; conv => whnf)
    have hWBu : ∀ N, 32 <= N -> (WB (XS (YW Y c.facts.length failed day) (yc c vers q)) (st0 c.facts.length day) ((yb q.cands).map (·.1)) ((yb q.cands).map fun e => .imm (zl e.2)) (yb q.cands).length).all (SObj.under N) = true := fun N hN =>
      zvy hXW _ _ _ hN (zaf (f := fun e : Int × List Int => SV.imm (zl e.2)) (fun _ => rfl) _)
    refine yr [1, 2, 3, 4, 5, 6, 8, 9, 10, 53] 32 (by rw [hH]; exact (by decide : 17 <= 32)) hl' rfl (by rw [ht]; exact hWBu 32 (Nat.le_refl _)) ?_
    rw [ht]
    show SW E _ [(1, .ptr 17 0), (2, .ptr 18 0), (3, .ptr 19 0), (4, .ptr 20 0), (5, .ptr 23 0), (6, .map 24), (8, sI to), (9, .ptr 25 0), (10, sS g), (53, .fn (.func 104) [] [.ptr 26 0, .ptr 27 0, .ptr 29 0, .ptr 31 0])] _
    refine zhr rfl rfl ?_
    clear ht hl'
    have hvz : ∀ e ∈ yb q.cands, e.2.length <= 1073741824 := fun e he => by
      obtain ⟨f, hf, rfl⟩ := List.mem_map.1 he
      have := (List.mergeSort_perm (q.cands.map (·.1)) fun x y => decide (x <= y)).mem_iff.1 hf
      obtain ⟨e2, he2, rfl⟩ := List.mem_map.1 this
      have := zcw hW.maps.nd he2
      simp only [this, Option.getD_some, List.length_mergeSort]
      have := hW.maps.sz e2 he2
      omega
    have hz : ∀ e ∈ yb q.cands, (st0 c.facts.length day).vs.getD e.1.toNat 0 = 0 := fun e _ => by
      simp only [st0, List.getD_eq_getElem?_getD, List.getElem?_replicate]
      split <;> rfl
    generalize hlp : SObj.loop .ready E.f _ _ _ _ _ = lp
    obtain ⟨Q, hQ⟩ : ∃ Q : List Int -> List SObj -> Prop, Q = fun vs H' => (∃ t', H'[32]? = some (ytj lp t')) /\ H'[18]? = some (.cells [sI day, .imm (qg ((List.range c.facts.length).map fun (i : Nat) => (zt (i : Int) q.cands).isSome)), .imm (zl vs), .imm (zl vers)]) /\ H'[19]? = some (.cells [sB true]) := ⟨_, rfl⟩
    subst hlp
    refine (yoq G0 hYW rfl c vers q (yb q.cands) Q rfl rfl (by simp [yb]; omega) (by omega) c.facts.length (by omega) hW.conds hvz ?_ (st0 c.facts.length day) hstv (hW.sr.rest day) hz).mono ?_
    · intro s hs1 hs2
      rw [hQ]
      clear hQ hK h4 ih
      refine zhs (b := 32) rfl E.hfn rfl (by decide) ?_
      intro E3 hl3 hOwn hKR
      (refine zf ?_; conv => whnf)
      refine zvb hOwn rfl ?_
      refine Eq.mpr (congrArg (fun h => SW E3 _ _ h) (show _ = WA (XS (YW Y c.facts.length failed day) (yc c vers q)) s (yb q.cands) _ from rfl)) ?_
      refine zg [1, 2, 3, 4, 9, 11] ?_
      show SW E3 _ [(1, .ptr 17 0), (2, .ptr 18 0), (3, .ptr 19 0), (4, .ptr 20 0), (9, .ptr 25 0), (11, .imm (zl s.vs))] _
      (refine zf ?_; conv => whnf)
      (refine zu 2 mixed rfl ?_; refine zb [777] (nx := 35) ?_; conv => whnf)
      refine yku 35 (n := c.facts.length) (zz := bvS false) rfl rfl rfl rfl rfl rfl rfl rfl rfl ⟨by decide, rfl⟩ rfl (fun _ => rfl) (Nat.le_refl 35) rfl rfl rfl (by omega) ?_
      (refine zb [777] (nx := 36) ?_; conv => whnf)
      refine yq rfl (by simp [yj, WA, WH]) (zvw G0 vers (by have := hW.vsz; omega)) ?_
      (refine zb [777] (nx := 36) ?_; conv => whnf)
      refine zg [1, 2, 3, 12] ?_
      refine Eq.mpr (congrArg (fun h => SW E3 _ _ h) (show _ = WA (XS (YW Y c.facts.length failed day) (yc c vers q)) s (yb q.cands) _ ++ [.cells (List.replicate c.facts.length (bvS false)), .cells [sI day, .osl 35 0 c.facts.length, .imm (zl s.vs), .imm (zl vers)]] from rfl)) ?_
      show SW E3 _ [(1, .ptr 17 0), (2, .ptr 18 0), (3, .ptr 19 0), (12, .ptr 36 0)] _
      refine ydv (b := 1) (es := zby (fun n : Nat => SV.map n) (q.cands.map fun e => (e.1, 3 + e.1.toNat))) (by show some (Y 1) = _; rw [hW.maps.out]) ?_
      intro es' clock hes hst2
      (refine zf ?_; conv => whnf)
      refine zlo rfl rfl rfl rfl rfl rfl ?_
      (refine za ?_; conv => whnf)
      refine zg [1, 2, 3, 12, 69] ?_
      generalize hlpb : SObj.loop .busy E.f _ _ _ _ _ = lpb at hKR ⊢
      refine Eq.mpr (congrArg (fun h => SW E3 _ _ h) (show _ = (WA (XS (YW Y c.facts.length failed day) (yc c vers q)) s (yb q.cands) lpb).set 1 (.pin .i64 es' clock) ++ [.cells (List.replicate c.facts.length (bvS false)), .cells [sI day, .osl 35 0 c.facts.length, .imm (zl s.vs), .imm (zl vers)], .iter 1 clock [] clock] from rfl)) ?_
      have hX := hXW
      have aL : ((WA (XS (YW Y c.facts.length failed day) (yc c vers q)) s (yb q.cands) lpb).set 1 (.pin .i64 es' clock)).length = 35 := by rw [List.length_set]; rfl
      have a1 : ((WA (XS (YW Y c.facts.length failed day) (yc c vers q)) s (yb q.cands) lpb).set 1 (.pin .i64 es' clock))[1]? = some (.pin .i64 es' clock) := rfl
      have a18 : ((WA (XS (YW Y c.facts.length failed day) (yc c vers q)) s (yb q.cands) lpb).set 1 (.pin .i64 es' clock))[18]? = some (.cells zao) := rfl
      have a19 : ((WA (XS (YW Y c.facts.length failed day) (yc c vers q)) s (yb q.cands) lpb).set 1 (.pin .i64 es' clock))[19]? = some (.cells [sB false]) := rfl
      have a32 : ((WA (XS (YW Y c.facts.length failed day) (yc c vers q)) s (yb q.cands) lpb).set 1 (.pin .i64 es' clock))[32]? = some lpb := rfl
      have aU : ((WA (XS (YW Y c.facts.length failed day) (yc c vers q)) s (yb q.cands) lpb).set 1 (.pin .i64 es' clock)).all (SObj.under 35) = true := by
        refine zvs (yef hX s _ (by subst hlpb; rfl)) (zlv ?_ hes)
        have := SObj.under_mono (m := 24) (n := 35) (by omega) _ (hX 1)
        rw [show XS (YW Y c.facts.length failed day) (yc c vers q) 1 = .mapI .i64 (zby (fun n : Nat => SV.map n) (q.cands.map fun e => (e.1, 3 + e.1.toNat))) from hW.maps.out] at this
        exact this
      generalize (WA (XS (YW Y c.facts.length failed day) (yc c vers q)) s (yb q.cands) lpb).set 1 (.pin .i64 es' clock) = A at aL a1 a18 a19 a32 aU ⊢
      have hk1 : es'.map (·.2.1) = q.cands.map (·.1) := by
        have : es'.map (·.2.1) = (es'.map (·.2)).map (·.1) := by rw [List.map_map]; rfl
        rw [this, hes]
        simp [zby]
      have hk2 : ∀ x ∈ es', 0 <= x.2.1 /\ x.2.1 < c.facts.length := fun x hx => by
        have h1 : x.2.1 ∈ q.cands.map (·.1) := by rw [<- hk1]; exact List.mem_map.2 ⟨x, hx, rfl⟩
        have h2 : x.2.1 ∈ zed (q.cands.map (·.1)) := (List.mergeSort_perm (q.cands.map (·.1)) fun x y => decide (x <= y)).mem_iff.2 h1
        have h3 := (hW.sr.rest day).rng (x.2.1, zed ((zt x.2.1 q.cands).getD [])) (List.mem_map.2 ⟨_, h2, rfl⟩)
        rw [hstv] at h3
        exact h3
      rw [<- yor]
      show SW E3 _ [(1, .ptr 17 0), (2, .ptr 18 0), (3, .ptr 19 0), (12, .ptr 36 0), (69, .ptr 37 0)] _
      refine xr (σ := List Nat × List Int) (fun _ => [(1, .ptr 17 0), (2, .ptr 18 0), (3, .ptr 19 0), (12, .ptr 36 0), (69, .ptr 37 0)]) (fun x => A ++ [.cells ((zwa c.facts.length x.2).map bvS), .cells [sI day, .osl 35 0 c.facts.length, .imm (zl s.vs), .imm (zl vers)], .iter 1 clock x.1 clock])
        (fun x => (x.2 ++ (zbj es' x.1).map (·.2.1)).Perm (es'.map (·.2.1))) (fun x => (zbj es' x.1).length) ?_ ([], []) (by simp [zlp])
      rintro ⟨seen, done⟩ hp2 ih2
      simp only at hp2 ih2
      show SW E3 _ _ (A ++ [.cells ((zwa c.facts.length done).map bvS), .cells [sI day, .osl 35 0 c.facts.length, .imm (zl s.vs), .imm (zl vers)], .iter 1 clock seen clock])
      (refine zf ?_; conv => whnf)
      refine zoz rfl rfl rfl rfl (yvs aL _ _ _) (by rw [ytk aL _ _ _ (by omega)]; exact a1) hst2 (Nat.le_refl _) (fun h0 => ?_) (fun e he => ?_)
      · have hdn : done.Perm (q.cands.map (·.1)) := by
          rw [h0, hk1] at hp2
          simpa using hp2
        have hall := yot (nf := c.facts.length) hdn
        have hhl : (zwa c.facts.length done).length = c.facts.length := yej _ _
        rw [<- hall] at hKR
        generalize zwa c.facts.length done = has at hKR hhl ⊢
        have hck := zms (has.map dB)
        rw [List.length_map, hhl] at hck
        refine jf (fun k h => yqn 35 c.facts.length 1 (cs := has.map bvS) (ds := has.map dB) (yvq aL _ _ _) (by simp [SV.one]) (by rw [show has.map bvS = (has.map dB).map SV.imm by simp]; exact zvc _) (by simp [hhl]) h) ?_
        rw [hck, yvt aL, List.map_append]
        have hdb : (D.isl 1 ((has.map dB).map fun d => [d])) = qg has := by simp [qg]
        rw [hdb]
        have hvw : [SObj.dead, .cells [sI day, .osl 35 0 c.facts.length, .imm (zl s.vs), .imm (zl vers)], .iter 1 clock seen clock].map (SObj.shut 35 c.facts.length (qg has)) = [.dead, .cells [sI day, .imm (qg has), .imm (zl s.vs), .imm (zl vers)], .iter 1 clock seen clock] := by
          simp [SObj.shut, SV.shut, SV.shut.shutL]
        rw [hvw]
        have bL : (A.map (SObj.shut 35 c.facts.length (qg has))).length = 35 := by rw [List.length_map, aL]
        have b18 : (A.map (SObj.shut 35 c.facts.length (qg has)))[18]? = some (.cells zao) := by rw [List.getElem?_map, a18]; rfl
        have b19 : (A.map (SObj.shut 35 c.facts.length (qg has)))[19]? = some (.cells [sB false]) := by rw [List.getElem?_map, a19]; rfl
        have b32 : (A.map (SObj.shut 35 c.facts.length (qg has)))[32]? = some (lpb.shut 35 c.facts.length (qg has)) := by rw [List.getElem?_map, a32]; rfl
        generalize A.map (SObj.shut 35 c.facts.length (qg has)) = B at bL b18 b19 b32 ⊢
        (refine xl [777, 78, 999] 1000 ?_; conv => whnf)
        refine xz (v := .agg [sI day, .imm (qg has), .imm (zl s.vs), .imm (zl vers)]) rfl rfl rfl rfl (yvr bL _ _ _) rfl ?_
        refine zia (b := 18) (n := 4) rfl rfl rfl rfl rfl rfl rfl rfl (by rw [ytk bL _ _ _ (by omega)]; exact b18) rfl ?_
        refine zia (b := 19) (n := 1) rfl rfl rfl rfl rfl rfl rfl rfl (by rw [List.getElem?_set_ne (by decide), ytk bL _ _ _ (by omega)]; exact b19) rfl ?_
        (refine za ?_; conv => whnf)
        subst hlpb
        have hne : ∀ x y : SObj, ∀ i, i ≠ 18 -> i ≠ 19 -> (((B ++ [SObj.dead, .cells [sI day, .imm (qg has), .imm (zl s.vs), .imm (zl vers)], .iter 1 clock seen clock]).set 18 x).set 19 y)[i]? = (B ++ [SObj.dead, .cells [sI day, .imm (qg has), .imm (zl s.vs), .imm (zl vers)], .iter 1 clock seen clock])[i]? := fun x y i h1 h2 => by
          rw [List.getElem?_set_ne (Ne.symm h2), List.getElem?_set_ne (Ne.symm h1)]
        have hBl : (B ++ [SObj.dead, .cells [sI day, .imm (qg has), .imm (zl s.vs), .imm (zl vers)], .iter 1 clock seen clock]).length = 38 := by simp [bL]
        refine hKR (some .ret) _ _ ?_ ((hne _ _ 32 (by decide) (by decide)).trans ((ytk bL _ _ _ (by decide)).trans b32)) ⟨rfl, ?_, ⟨_, List.getElem?_set_self ?_⟩, ?_, ?_⟩
        · rw [List.length_set, List.length_set, hBl]
          exact (by decide : 35 <= 38)
        · rw [List.length_set, List.length_set, List.length_set, hBl]
          decide
        · rw [List.length_set, List.length_set, hBl]
          decide
        · rw [List.getElem?_set_ne (by decide), List.getElem?_set_ne (by decide), List.getElem?_set_self (by rw [hBl]; decide)]
        · rw [List.getElem?_set_ne (by decide), List.getElem?_set_self (by rw [List.length_set, hBl]; decide)]
          rfl
      · rw [yvz aL]
        obtain ⟨e1, f, e3⟩ := e
        have hperm := ziw hst2.1 he
        have hpl := hperm.length_eq
        have hpm := hperm.map (·.2.1)
        simp only [List.map_cons, List.length_cons] at hpm hpl
        have hfr := hk2 _ (zfq he)
        simp only at hfr
        have hfl2 : f.toNat < (zwa c.facts.length done).length := by rw [yej]; omega
        (refine xl [777, 73] 1000 ?_; conv => whnf)
        refine zlq rfl rfl rfl rfl (yvs aL _ _ _) (by rw [ytk aL _ _ _ (by omega)]; exact a1) (zfq he) ?_
        (refine xl [777, 75] 1000 ?_; conv => whnf)
        refine xz (v := .osl 35 0 c.facts.length) rfl rfl rfl rfl (yvr aL _ _ _) rfl ?_
        (refine xl [777, 999] 1000 ?_; conv => whnf)
        refine zgk (i := f.toNat) rfl rfl rfl rfl rfl rfl rfl (show f = ((f.toNat : Nat) : Int) by omega) (by omega) ?_
        refine ju (d := ((zwa c.facts.length done).take f.toNat).map bvS) (zz := bvS ((zwa c.facts.length done)[f.toNat]'hfl2)) (r := ((zwa c.facts.length done).drop (f.toNat + 1)).map bvS) (v := bvS true) rfl rfl rfl rfl rfl rfl rfl rfl (by rw [<- zcv]; exact yvq aL _ _ _) (by show 0 + f.toNat * 1 = _; rw [List.length_map, List.length_take]; omega) ?_
        rw [yvt aL, zkt _ _ _ hfl2, yos hfr]
        (refine za ?_; conv => whnf)
        refine yr [1, 2, 3, 12, 69] 38 (by rw [hl3]; exact (by decide : 35 <= 38)) (by simp [aL]) rfl ?_ ?_
        · rw [List.take_of_length_le (by simp [aL]), List.all_append, xb (m := 35) (by omega) aU]
          simp only [List.all_cons, List.all_nil, zyl, zaf (f := bvS) (fun _ => rfl), Bool.and_true, Bool.true_and]
          rfl
        · rw [List.take_of_length_le (by simp [aL])]
          exact ih2 (seen ++ [e1], done ++ [f]) (by
            refine List.Perm.trans ?_ hp2
            simp only [List.append_assoc, List.cons_append, List.nil_append]
            exact (List.Perm.refl done).append hpm.symm) (by simp only; omega)
    · rintro r H' ⟨hl', hs, hnone⟩
      refine ⟨hl', ?_⟩
      cases hres : qa q.conds (yb q.cands) (st0 c.facts.length day) with
      | some vs =>
        have hs' := hs vs hres
        rw [hQ] at hs'
        obtain ⟨⟨t', g1⟩, g2, g3⟩ := hs'
        rw [hres] at h4
        simp only at h4
        rw [h4] at hK
        refine ⟨.done .ret, t', g1, .inr ⟨.ret, rfl, ?_⟩⟩
        have k2 : (H'.set 32 .dead)[18]? = some (.cells [sI day, .imm (qg ((List.range c.facts.length).map fun (i : Nat) => (zt (i : Int) q.cands).isSome)), .imm (zl vs), .imm (zl vers)]) := by rw [List.getElem?_set_ne (by decide)]; exact g2
        have k3 : (H'.set 32 .dead)[19]? = some (.cells [sB true]) := by rw [List.getElem?_set_ne (by decide)]; exact g3
        show SW E _ _ (H'.set 32 .dead)
        generalize H'.set 32 .dead = H2 at k2 k3
        have l2 : ql Tryz.prog 31 H2 (.ptr 18 0) = some (.agg [sI day, .imm (qg ((List.range c.facts.length).map fun (i : Nat) => (zt (i : Int) q.cands).isSome)), .imm (zl vs), .imm (zl vers)]) := by
          unfold ql
          simp only [k2]
          rfl
        have l3 : ql Tryz.prog 4 H2 (.ptr 19 0) = some (sB true) := by
          unfold ql
          simp only [k3]
          rfl
        refine ypo (r := .tup [.agg [sI day, .imm (qg ((List.range c.facts.length).map fun (i : Nat) => (zt (i : Int) q.cands).isSome)), .imm (zl vs), .imm (zl vers)], sB true]) ?_ (hK _ _ rfl)
        show (match List.mapM (zff Tryz.prog H2 _) [ResultVar.cell 2 31, ResultVar.cell 3 4] with | some [s] => some s | some l => some (.tup l) | none => none) = _
        simp only [List.mapM_cons, List.mapM_nil, zff]
        show (match (do let a <- ql Tryz.prog 31 H2 (.ptr 18 0); let b <- (do let a <- ql Tryz.prog 4 H2 (.ptr 19 0); let b <- (some []); some (a :: b)); some (a :: b)) with | some [s] => some s | some l => some (.tup l) | none => none) = _
        rw [l2, l3]
        rfl
      | none =>
        have ht := hnone hres
        rw [hres] at h4
        simp only at h4
        have hg : H'[32]? = (H'.take 33)[32]? := by rw [List.getElem?_take, if_pos (by omega)]
        refine ⟨.ready, _, by show H'[32]? = _; rw [hg, ht]; rfl, .inl ⟨rfl, ?_⟩⟩
        show SW E _ _ (H'.set 32 .dead)
        have ht2 : (H'.set 32 .dead).take 26 = WD Y c vers q failed day (xe day) := by
          rw [List.take_set_of_le (by omega)]
          have : H'.take 26 = (H'.take 33).take 26 := by rw [List.take_take]; rfl
          rw [this, ht]
          rfl
        refine yr [1, 2, 3, 4, 5, 6, 8, 9, 10] 26 (by rw [hH]; exact (by decide : 17 <= 26)) (by rw [List.length_set]; omega) rfl ?_ ?_
        · rw [ht2]
          unfold WD
          rw [List.all_append, xb (m := 24) (by omega) (zbk hXW _)]
          simp only [List.all_cons, List.all_nil, zkv, Bool.and_true, Bool.true_and]
          rfl
        · rw [ht2]
          show SW E _ [(1, .ptr 17 0), (2, .ptr 18 0), (3, .ptr 19 0), (4, .ptr 20 0), (5, .ptr 23 0), (6, .map 24), (8, sI to), (9, .ptr 25 0), (10, sS g)] _
          (refine zf ?_; conv => whnf)
          refine ydh (b := 24) (l := failed.map fun g => (g, true)) sB true rfl rfl rfl rfl rfl rfl rfl rfl rfl ?_
          rw [yei hm]
          (refine za ?_; conv => whnf)
          rw [xh (c := day + 1) (by omega) (by omega)]
          refine zg [1, 2, 3, 4, 5, 6, 8, 9] ?_
          refine Eq.mpr (congrArg (fun h => SW E _ _ h) (show _ = (WH (XW Y c vers q (failed ++ [g]) day) (s00 c.facts.length (xe day)) ++ [zyy (failed ++ [g])]) ++ [.cells [sI day], .cells [sI (day + 1)]] from rfl)) ?_
          refine zra (n0 := 25) (t0 := [(1, .ptr 17 0), (2, .ptr 18 0), (3, .ptr 19 0), (4, .ptr 20 0), (5, .ptr 23 0), (6, .map 24), (8, sI to)]) (v := 9) rfl (by rw [hH]; exact (by decide : 17 <= 25)) (huA (failed ++ [g])) rfl rfl ?_
          exact ih (n', day + 1, failed ++ [g], xe day) ⟨by simp only; omega, by simp only; omega, .inr ⟨by simp only; omega, by simp only; rw [show day + 1 - 1 = day by omega]⟩, h4⟩ (by simp only; omega)
  · have hn0 : n = 0 := by omega
    subst hn0
    simp only [zcc] at h4
    rw [h4] at hK
    exact hK _ _ rfl
def yek (m : List (Int × List Int)) : SObj := .mapI .i64 (zby (fun n : Nat => SV.map n) (m.map fun e => (e.1, 3 + e.1.toNat)))
def yrk (vals : List Int) : SObj := .mapI .i64 (zby sB (vals.map fun v => (v, true)))
def ygy (m : List (Int × List Int)) (i : Nat) : SObj :=
 match zt (i : Int) m with
 | some vals => yrk vals
 | none => .free
def NSm (o0 o1 o2 : SObj) (m : List (Int × List Int)) (ta tb : Nat) : List SObj := [o0, o1, o2] ++ ((List.range 12).map (ygy m) ++ [.tok 1 ta, .tok 5 tb])
def zdi (c : Codex) : SObj := .cells [.imm (zk c.facts), .imm (zk c.lines), .imm (ys c.arts)]
def NS (c : Codex) (vers : List Int) (q : Sr) : List SObj := NSm (zdi c) (yek q.cands) (.cells (yc c vers q)) q.cands q.conds.length q.atoms.length
theorem ygz (vals : List Int) (n : Nat) : (yrk vals).under n = true := by
 simp only [yrk, SObj.under, zby, List.map_map, List.all_map, List.all_eq_true]
 intro x _
 rfl
theorem yha (m : List (Int × List Int)) (i n : Nat) : (ygy m i).under n = true := by
 unfold ygy
 split
 ·exact ygz _ _
 ·rfl
theorem zto {m : List (Int × List Int)} (h : ∀ e ∈ m, 0 <= e.1 /\ e.1 < 12) : (yek m).under 17 = true := by
 simp only [yek, SObj.under, zby, List.map_map, List.all_map, List.all_eq_true]
 intro e he
 have := h e he
 simp only [Function.comp, SV.under, decide_eq_true_eq]
 omega
theorem zas {c : Codex} {vers : List Int} {q : Sr} (h : ∀ e ∈ q.cands, 0 <= e.1 /\ e.1 < 12) : (NS c vers q).all (SObj.under 17) = true := by
 unfold NS NSm
 rw [List.all_append, List.all_append]
 simp only [List.all_cons, List.all_nil, zto h, Bool.and_true, Bool.true_and]
 have : ((List.range 12).map (ygy q.cands)).all (SObj.under 17) = true := by
  rw [List.all_map, List.all_eq_true]
  intro i _
  exact yha _ _ _
 rw [this]
 rfl
theorem yrl {o0 o1 o2 : SObj} {m : List (Int × List Int)} {ta tb i : Nat} (h : i < 12) : (NSm o0 o1 o2 m ta tb)[3 + i]? = some (ygy m i) := by
 unfold NSm
 rw [List.getElem?_append_right (by simp), List.getElem?_append_left (by simp; omega)]
 simp only [List.length_cons, List.length_nil, List.getElem?_map]
 rw [show 3 + i - (0 + 1 + 1 + 1) = i by omega, List.getElem?_range (by omega)]
 rfl
theorem yrm {o0 o1 o2 ob : SObj} {m m' : List (Int × List Int)} {ta tb i : Nat} (h : i < 12) (h1 : ygy m' i = ob) (h2 : ∀ j : Nat, j ≠ i -> ygy m' j = ygy m j) : (NSm o0 o1 o2 m ta tb).set (3 + i) ob = NSm o0 o1 o2 m' ta tb := by
 unfold NSm
 rw [List.set_append_right _ _ (by simp), List.set_append_left _ _ (by simp; omega)]
 congr 2
 apply List.ext_getElem
 ·simp
 ·intro j g1 g2
  rw [List.getElem_set]
  simp only [List.length_cons, List.length_nil, List.getElem_map, List.getElem_range]
  split
  ·rename_i e
   have : j = i := by omega
   rw [this, h1]
  ·rename_i e
   rw [h2 j (by omega)]
theorem qz {α : Type} (k : Int) (v : α) (m : List (Int × α)) : zt k (ains k v m) = some v := by rw [jm]; simp
theorem yhb {m : List (Int × List Int)} {f : Int} {vals : List Int} {i j : Nat} (hf : f = i) (h : j ≠ i) : ygy (ains f vals m) j = ygy m j := by
 unfold ygy
 rw [jm]
 have : ¬ ((j : Int) == f) = true := by simp; omega
 rw [if_neg this]
theorem zpd (f : Int) (vals : List Int) : ∀ m : List (Int × List Int), ((ains f vals m).map fun e => (e.1, 3 + e.1.toNat)) = ains f (3 + f.toNat) (m.map fun e => (e.1, 3 + e.1.toNat))
 | [] => rfl
 | (k, v) :: m => by
  simp only [ains, List.map_cons]
  by_cases h : (f == k) = true
  ·rw [if_pos h, if_pos h]; rfl
  ·rw [if_neg h, if_neg h, List.map_cons, zpd f vals m]
theorem zrc {α : Type} {k : Int} {v : α} : ∀ {m : List (Int × α)}, zt k m = some v -> (m.map (·.1)).Nodup -> ains k v m = m
 | [], h, _ => by simp [zt] at h
 | (k', v') :: m, h, hn => by
  simp only [zt] at h
  simp only [ains]
  simp only [List.map_cons, List.nodup_cons] at hn
  split
  ·rename_i e
   rw [if_pos e] at h
   cases h
   have : k = k' := by simpa using e
   rw [this]
  ·rename_i e
   rw [if_neg e] at h
   rw [zrc h hn.2]
theorem zwb (v : Int) : ∀ vals : List Int, ains v true (vals.map fun v => (v, true)) = (if v ∈ vals then vals else vals ++ [v]).map fun v => (v, true)
 | [] => rfl
 | x :: l => by
  simp only [List.map_cons, ains, List.mem_cons]
  by_cases h : v = x
  ·subst h; simp
  ·have : ¬ (v == x) = true := by simpa using h
   rw [if_neg this, zwb v l]
   by_cases hm : v ∈ l
   ·simp [h, hm]
   ·simp [h, hm]
theorem zrd {α : Type} (k : Int) (v : α) : ∀ m : List (Int × α), (ains k v m).map (·.1) = if k ∈ m.map (·.1) then m.map (·.1) else m.map (·.1) ++ [k]
 | [] => rfl
 | (k', v') :: m => by
  simp only [ains, List.map_cons, List.mem_cons]
  by_cases h : k = k'
  ·subst h; simp
  ·have : ¬ (k == k') = true := by simpa using h
   rw [if_neg this, List.map_cons, zrd k v m]
   by_cases hm : k ∈ m.map (·.1)
   ·rw [if_pos hm, if_pos (.inr hm)]
   ·rw [if_neg hm, if_neg (fun e => e.elim h hm)]; rfl
structure CandsOK (m : List (Int × List Int)) : Prop where
 rng : ∀ e ∈ m, 0 <= e.1 /\ e.1 < 12
 nd : (m.map (·.1)).Nodup
theorem zjb {α : Type} {k : Int} {v : α} {e : Int × α} : ∀ {m : List (Int × α)}, e ∈ ains k v m -> e = (k, v) \/ e ∈ m
 | [], h => by simp [ains] at h; exact .inl h
 | (k', v') :: m, h => by
  simp only [ains] at h
  split at h
  ·rcases List.mem_cons.1 h with h | h
   ·exact .inl h
   ·exact .inr (List.mem_cons_of_mem _ h)
  ·rcases List.mem_cons.1 h with h | h
   ·exact .inr (h ▸ List.mem_cons_self ..)
   ·rcases zjb h with h | h
    ·exact .inl h
    ·exact .inr (List.mem_cons_of_mem _ h)
theorem CandsOK.ains {m : List (Int × List Int)} (h : CandsOK m) {f : Int} (hf : 0 <= f /\ f < 12) (vals : List Int) : CandsOK (ains f vals m) := by
 refine ⟨fun e he => ?_, ?_⟩
 ·rcases zjb he with rfl | he
  ·exact hf
  ·exact h.rng e he
 ·rw [zrd]
  split
  ·exact h.nd
  ·rename_i hn
   rw [List.nodup_append]
   exact ⟨h.nd, by simp, fun a ha b hb => by simp at hb; subst hb; rintro rfl; exact hn ha⟩
theorem zjc {α : Type} (k : Int) (v v' : α) : ∀ m : List (Int × α), ains k v (ains k v' m) = ains k v m
 | [] => by simp [ains]
 | (k', x) :: m => by
  simp only [ains]
  split
  ·rename_i h
   simp [ains]
  ·rename_i h
   simp only [ains]
   rw [if_neg h, zjc k v v' m]
theorem zib (f : Int) : ∀ m : List (Int × List Int), zt f (m.map fun e => (e.1, 3 + e.1.toNat)) = (zt f m).map fun _ => 3 + f.toNat
 | [] => rfl
 | (k, v) :: m => by
  simp only [List.map_cons, zt]
  by_cases h : (f == k) = true
  ·rw [if_pos h, if_pos h]
   have : f = k := by simpa using h
   subst this
   rfl
  ·rw [if_neg h, if_neg h, zib f m]
theorem zza (f : Int) (a b : List Int) (m : List (Int × List Int)) : yek (ains f a m) = yek (ains f b m) := by unfold yek; rw [zpd, zpd]
theorem zzb {c : Codex} {vers : List Int} {q : Sr} {f : Int} (hf : 0 <= f /\ f < 12) : (NS c vers q)[3 + f.toNat]? = some (match zt f q.cands with | some vals => yrk vals | none => .free) := by
 unfold NS
 rw [yrl (by omega)]
 unfold ygy
 rw [Int.toNat_of_nonneg hf.1]
theorem ylq {c : Codex} {vers : List Int} {q : Sr} {f : Int} {vals : List Int} (hf : 0 <= f /\ f < 12) :
  (NSm (zdi c) (yek q.cands) (.cells (yc c vers q)) q.cands q.conds.length q.atoms.length).set (3 + f.toNat) (yrk vals)
   = NSm (zdi c) (yek q.cands) (.cells (yc c vers q)) (ains f vals q.cands) q.conds.length q.atoms.length := by
 refine yrm (by omega) ?_ (fun j hj => yhb (i := f.toNat) (by omega) hj)
 unfold ygy
 rw [Int.toNat_of_nonneg hf.1, qz]
theorem zap (c : Codex) (vers : List Int) (q : Sr) (f : Int) (vs : List Int) (hf : 0 <= f /\ f < 12) (hq : CandsOK q.cands) (hsz : vs.length <= 1000) :
  SPre Tryz.prog G 95 [.ptr 2 0, sI f, .imm (zl vs)] (NS c vers q) (fun r H' => r = .tup [] /\ H' = NS c vers (q.cand f vs)) := by
 refine wo Tryz.func95 rfl (by rw [Tryz.ntmps95]; simp) rfl (zas hq.rng) ?_
 intro E hH hK
 (refine zf ?_; conv => whnf)
 cases hlk : zt f q.cands with
 | none =>
  refine zfm (b := 1) (fun n : Nat => SV.map n) rfl rfl rfl rfl rfl rfl rfl rfl rfl (v := .imm (.val (.map none))) (by rw [zib, hlk]; rfl) ?_
  refine yaz rfl rfl rfl rfl rfl rfl ?_
  (refine xl [777, 20] 1000 ?_; conv => whnf)
  refine yol (3 + f.toNat) (r := .map (NS c vers q).length) (ob := .mapI .i64 []) rfl rfl ?_ (show (NS c vers q)[3 + f.toNat]? = some .free from by rw [zzb hf, hlk]) rfl (by rw [show (NS c vers q).length = 17 from rfl]; rfl) rfl ?_
  ·intro c e; cases e
  have hsv : (SV.map (NS c vers q).length).mv (NS c vers q).length (3 + f.toNat) = .map (3 + f.toNat) := by simp [SV.mv]
  rw [hsv]
  rw [show (SObj.mapI .i64 []) = yrk [] from rfl]
  rw [show NS c vers q = NSm (zdi c) (yek q.cands) (.cells (yc c vers q)) q.cands q.conds.length q.atoms.length from rfl, ylq hf]
  refine zgc (b := 1) (fun n : Nat => SV.map n) (3 + f.toNat) rfl rfl rfl rfl rfl rfl rfl rfl rfl ?_
  rw [<- zpd f []]
  refine Eq.mpr (congrArg (fun h => SWr E _ _ _ _ h) (show _ = NS c vers { q with cands := ains f [] q.cands } from rfl)) ?_
  (refine za ?_; conv => whnf)
  obtain ⟨q1, vals1, hq1, hal1, hc1, hr1⟩ : ∃ (q1 : Sr) (vals1 : List Int), { q with cands := ains f [] q.cands } = q1 /\ zt f q1.cands = some vals1 /\ CandsOK q1.cands /\ ∀ vs', q.cand f vs' = { q1 with cands := ains f (vs'.foldl wz vals1) q1.cands } := by
   refine ⟨_, [], rfl, qz _ _ _, hq.ains hf _, fun vs' => ?_⟩
   simp only [Sr.cand, yav, hlk, Option.getD_none, zjc]
  rw [hq1]
  refine zg [0, 1, 21, 22, 23] ?_
  have hvl : ∀ l : List Int, ({ q1 with cands := ains f vals1 q1.cands } : Sr) = q1 := fun _ => by rw [zrc hal1 hc1.nd]
  clear hq1 hlk
  have hml : (vs.map fun n => [dI n]).length = vs.length := by simp
  refine Eq.mpr (congrArg (fun h => SW E _ _ h) (show _ = NS c vers { q1 with cands := ains f vals1 q1.cands } by rw [hvl []])) ?_
  refine zq vs (fun i (_ : List Int) => [(0, .ptr 2 0), (1, sI f), (21, .imm (zl vs)), (22, sI (vs.map fun n => [dI n]).length), (23, sI i)])
   (fun _ l => NS c vers { q1 with cands := ains f l q1.cands }) (fun done rest l => l = done.foldl wz vals1) vals1 rfl ?_ ?_
  ·rintro _ rfl
   (refine zf ?_; conv => whnf)
   repeat' ((with_reducible refine way ?_ ?_) <;> (intro h; conv => whnf))
   all_goals try (exfalso; omega)
   refine hK _ _ (Nat.le_refl _) rfl (by rw [show (NS c vers q).length = 17 from rfl]; exact zas (q := { q1 with cands := ains f _ q1.cands }) (hc1.ains hf _).rng) ⟨rfl, ?_⟩
   rw [hr1]
   exact List.take_of_length_le (Nat.le_refl 17)
  ·rintro done v rest _ ha hlen rfl ih
   have hw := zm (n := done.length) (by omega)
   have hrow : (vs.map fun n => [dI n])[((done.length : Nat) : Int).toNat]? = some [dI v] := by simp [ha]
   generalize hl : done.foldl wz vals1 = l at ih ⊢
   have hfold : (done ++ [v]).foldl wz vals1 = wz l v := by rw [List.foldl_append, hl]; rfl
   (refine zf ?_; conv => whnf)
   repeat' ((with_reducible refine way ?_ ?_) <;> (intro h; conv => whnf))
   all_goals try (exfalso; omega)
   refine zh rfl rfl  hrow ?_
   (refine za ?_; conv => whnf)
   repeat' ((with_reducible refine way ?_ ?_) <;> (intro h; conv => whnf))
   ·have hs : wz l v = if v ∈ l then l else l ++ [v] := by unfold wz; rw [if_pos (by assumption)]
    refine zfm (b := 1) (fun n : Nat => SV.map n) rfl rfl rfl rfl rfl rfl rfl rfl rfl (v := .map (3 + f.toNat)) (by rw [zib, qz]; rfl) ?_
    (refine za ?_; conv => whnf)
    refine zgc (b := 3 + f.toNat) (l := l.map fun v => (v, true)) sB true rfl rfl rfl rfl rfl rfl rfl rfl (by rw [zzb hf]; simp only [qz]; rfl) ?_
    rw [zwb, <- hs]
    refine Eq.mpr (congrArg (fun h => SWr E _ _ _ _ h) (show _ = NS c vers { q1 with cands := ains f (wz l v) q1.cands } from (ylq (q := { q1 with cands := ains f l q1.cands }) hf).trans (by simp only [zjc]; rw [zza f l (wz l v)]; rfl))) ?_
    (refine za ?_; conv => whnf)
    rw [hw]
    refine zg [0, 1, 21, 22, 23] ?_
    exact ih _ hfold.symm
   ·have hs : wz l v = l := by unfold wz; rw [if_neg (by assumption)]
    rw [hw]
    refine zg [0, 1, 21, 22, 23] ?_
    exact ih _ (by rw [hfold, hs])
 | some vals =>
  refine zfm (b := 1) (fun n : Nat => SV.map n) rfl rfl rfl rfl rfl rfl rfl rfl rfl (v := .map (3 + f.toNat)) (by rw [zib, hlk]; rfl) ?_
  refine ygp (b := 3 + f.toNat) rfl rfl rfl rfl rfl rfl ?_
  (refine za ?_; conv => whnf)
  obtain ⟨q1, vals1, hq1, hal1, hc1, hr1⟩ : ∃ (q1 : Sr) (vals1 : List Int), q = q1 /\ zt f q1.cands = some vals1 /\ CandsOK q1.cands /\ ∀ vs', q.cand f vs' = { q1 with cands := ains f (vs'.foldl wz vals1) q1.cands } :=
   ⟨q, vals, rfl, hlk, hq, fun vs' => by simp only [Sr.cand, yav, hlk, Option.getD_some]⟩
  refine zg [0, 1, 21, 22, 23] ?_
  rw [show NS c vers q = NS c vers q1 by rw [hq1]]
  have hvl : ∀ l : List Int, ({ q1 with cands := ains f vals1 q1.cands } : Sr) = q1 := fun _ => by rw [zrc hal1 hc1.nd]
  clear hq1 hlk
  have hml : (vs.map fun n => [dI n]).length = vs.length := by simp
  refine Eq.mpr (congrArg (fun h => SW E _ _ h) (show _ = NS c vers { q1 with cands := ains f vals1 q1.cands } by rw [hvl []])) ?_
  refine zq vs (fun i (_ : List Int) => [(0, .ptr 2 0), (1, sI f), (21, .imm (zl vs)), (22, sI (vs.map fun n => [dI n]).length), (23, sI i)])
   (fun _ l => NS c vers { q1 with cands := ains f l q1.cands }) (fun done rest l => l = done.foldl wz vals1) vals1 rfl ?_ ?_
  ·rintro _ rfl
   (refine zf ?_; conv => whnf)
   repeat' ((with_reducible refine way ?_ ?_) <;> (intro h; conv => whnf))
   all_goals try (exfalso; omega)
   refine hK _ _ (Nat.le_refl _) rfl (by rw [show (NS c vers q).length = 17 from rfl]; exact zas (q := { q1 with cands := ains f _ q1.cands }) (hc1.ains hf _).rng) ⟨rfl, ?_⟩
   rw [hr1]
   exact List.take_of_length_le (Nat.le_refl 17)
  ·rintro done v rest _ ha hlen rfl ih
   have hw := zm (n := done.length) (by omega)
   have hrow : (vs.map fun n => [dI n])[((done.length : Nat) : Int).toNat]? = some [dI v] := by simp [ha]
   generalize hl : done.foldl wz vals1 = l at ih ⊢
   have hfold : (done ++ [v]).foldl wz vals1 = wz l v := by rw [List.foldl_append, hl]; rfl
   (refine zf ?_; conv => whnf)
   repeat' ((with_reducible refine way ?_ ?_) <;> (intro h; conv => whnf))
   all_goals try (exfalso; omega)
   refine zh rfl rfl  hrow ?_
   (refine za ?_; conv => whnf)
   repeat' ((with_reducible refine way ?_ ?_) <;> (intro h; conv => whnf))
   ·have hs : wz l v = if v ∈ l then l else l ++ [v] := by unfold wz; rw [if_pos (by assumption)]
    refine zfm (b := 1) (fun n : Nat => SV.map n) rfl rfl rfl rfl rfl rfl rfl rfl rfl (v := .map (3 + f.toNat)) (by rw [zib, qz]; rfl) ?_
    (refine za ?_; conv => whnf)
    refine zgc (b := 3 + f.toNat) (l := l.map fun v => (v, true)) sB true rfl rfl rfl rfl rfl rfl rfl rfl (by rw [zzb hf]; simp only [qz]; rfl) ?_
    rw [zwb, <- hs]
    refine Eq.mpr (congrArg (fun h => SWr E _ _ _ _ h) (show _ = NS c vers { q1 with cands := ains f (wz l v) q1.cands } from (ylq (q := { q1 with cands := ains f l q1.cands }) hf).trans (by simp only [zjc]; rw [zza f l (wz l v)]; rfl))) ?_
    (refine za ?_; conv => whnf)
    rw [hw]
    refine zg [0, 1, 21, 22, 23] ?_
    exact ih _ hfold.symm
   ·have hs : wz l v = l := by unfold wz; rw [if_neg (by assumption)]
    rw [hw]
    refine zg [0, 1, 21, 22, 23] ?_
    exact ih _ (by rw [hfold, hs])
def wk (m : List (Int × Bool)) (ns : List Int) : List (Int × Bool) := ns.foldl (fun m n => ains n true m) m
theorem zce (m : List (Int × Bool)) (a b : List Int) : wk m (a ++ b) = wk (wk m a) b := List.foldl_append
theorem zic (k : Int) : ∀ (ns : List Int) (m : List (Int × Bool)), zt k (wk m ns) = if k ∈ ns then some true else zt k m
 | [], m => by simp [wk]
 | n :: ns, m => by
  show zt k (wk (ains n true m) ns) = _
  rw [zic k ns, jm]
  by_cases h : k ∈ ns
  ·simp [h]
  ·rw [if_neg h]
   by_cases h2 : k = n
   ·subst h2; simp
   ·have : ¬ (k == n) = true := by simpa using h2
    rw [if_neg this, if_neg (by simp [h, h2])]
def MH (o0 o1 : SObj) (m : List (Int × Bool)) : List SObj := [o0, o1, .mapI .i64 (zby sB m)]
theorem ztp (m : List (Int × Bool)) (n : Nat) : (SObj.mapI .i64 (zby sB m)).under n = true := by
 simp only [SObj.under, zby, List.all_map, List.all_eq_true]
 intro x _
 rfl
theorem zgp {o0 o1 : SObj} (h0 : o0.under 3 = true) (h1 : o1.under 3 = true) (m : List (Int × Bool)) : (MH o0 o1 m).all (SObj.under 3) = true := by
 simp only [MH, List.all_cons, List.all_nil, h0, h1, ztp, Bool.and_true]
theorem zcl (o0 o1 : SObj) (h0 : o0.under 3 = true) (h1 : o1.under 3 = true) : ∀ (N : Nat) (e : Ex) (m : List (Int × Bool)), SizeOf.sizeOf e < N -> zhi e ->
  SPre Tryz.prog G 91 [e.sv, .map 2] (MH o0 o1 m) (fun r H' => r = .tup [] /\ H' = MH o0 o1 (wk m (zdf e)))
 | 0, _, _, h, _ => by omega
 | N + 1, .mk op n u den ps ks, m, hN, hl => by
  unfold zhi at hl
  obtain ⟨l1, l2, l3⟩ := hl
  simp only [Ex.mk.sizeOf_spec] at hN
  refine wo Tryz.func91 rfl (by rw [Tryz.ntmps91]; simp) ?_ (zgp h0 h1 m) ?_
  ·simp only [List.all_cons, List.all_nil, Ex.sv, SV.under, zfr]
   rfl
  intro E hH hK
  have hks : zc ks = ks.map Ex.cells := zp ks
  have hla : (zc ks).length = ks.length := by rw [hks]; simp
  have hm : zdf (.mk op n u den ps ks) = (if op = 3 then [n] else []) ++ jr ks := by rw [zdf]
  (refine zf ?_; conv => whnf)
  repeat' ((with_reducible refine way ?_ ?_) <;> (intro h; conv => whnf))
  ·refine zgc (l := m) sB true rfl rfl rfl rfl rfl rfl rfl rfl rfl ?_
   (refine za ?_; conv => whnf)
   refine zg [1, 13, 14, 15] ?_
   refine Eq.mpr (congrArg (fun h => SW E _ _ h) (show _ = MH o0 o1 (ains n true m) ++ [.cells ((Ex.mk op n u den ps ks).cells.map SV.imm)] from rfl)) ?_
   change SW E _ [(1, .map 2), (13, .imm (.isl 6 (zc ks))), (14, sI (zc ks).length), (15, sI 0)] _
   refine zq ks (fun i (_ : List (Int × Bool)) => [(1, .map 2), (13, .imm (.isl 6 (zc ks))), (14, sI (zc ks).length), (15, sI i)]) (fun _ m' => MH o0 o1 m' ++ [.cells ((Ex.mk op n u den ps ks).cells.map SV.imm)])
    (fun done rest m' => wk m (zdf (.mk op n u den ps ks)) = wk m' (jr rest)) (ains n true m) (by rw [hm, if_pos h, zce]; rfl) ?_ ?_
   ·rintro m' h2
    rw [jr] at h2
    (refine zf ?_; conv => whnf)
    repeat' ((with_reducible refine way ?_ ?_) <;> (intro h; conv => whnf))
    all_goals try (exfalso; omega)
    refine hK _ _ (by show 3 <= 4; decide) rfl ?_ ⟨rfl, ?_⟩
    ·show (MH o0 o1 m').all _ = true
     exact zgp h0 h1 m'
    ·rw [h2]
     rfl
   ·rintro done x rest m' hda hdl h2 ih
    have hw := zm (n := done.length) (by omega)
    have hrx : (zc ks)[((done.length : Nat) : Int).toNat]? = some x.cells := by rw [hks]; simp [hda]
    have hxm : x ∈ ks := by rw [hda]; simp
    have hsz := List.sizeOf_lt_of_mem hxm
    have hcall := zcl o0 o1 h0 h1 N x m' (by omega) (qn l3 x hxm)
    rw [jr, zce] at h2
    generalize wk m' (zdf x) = m2 at h2 hcall
    obtain ⟨xo, xn, xu, xd, xp, xk⟩ := x
    (refine zf ?_; conv => whnf)
    repeat' ((with_reducible refine way ?_ ?_) <;> (intro h; conv => whnf))
    all_goals try (exfalso; omega)
    refine zh rfl rfl  hrx ?_
    (refine za ?_; conv => whnf)
    refine yx 3 rfl rfl rfl rfl rfl rfl hcall ?_
    rintro r9 H9 ⟨rfl, rfl⟩ _
    (refine za ?_; conv => whnf)
    rw [hw]
    refine yr [1, 13, 14, 15] 4 (by rw [hH]; show 3 <= 4; decide) (by show 4 <= 5; decide) rfl ?_ (ih m2 h2)
    show (MH o0 o1 m2 ++ [SObj.cells ((Ex.mk op n u den ps ks).cells.map SV.imm)]).all (SObj.under 4) = true
    rw [List.all_append, xb (m := 3) (by omega) (zgp h0 h1 m2)]
    simp only [List.all_cons, List.all_nil, SObj.under, zfr, Bool.and_true]
  ·have _hz : True := trivial
   refine zg [1, 13, 14, 15] ?_
   refine Eq.mpr (congrArg (fun h => SW E _ _ h) (show _ = MH o0 o1 (m) ++ [.cells ((Ex.mk op n u den ps ks).cells.map SV.imm)] from rfl)) ?_
   change SW E _ [(1, .map 2), (13, .imm (.isl 6 (zc ks))), (14, sI (zc ks).length), (15, sI 0)] _
   refine zq ks (fun i (_ : List (Int × Bool)) => [(1, .map 2), (13, .imm (.isl 6 (zc ks))), (14, sI (zc ks).length), (15, sI i)]) (fun _ m' => MH o0 o1 m' ++ [.cells ((Ex.mk op n u den ps ks).cells.map SV.imm)])
    (fun done rest m' => wk m (zdf (.mk op n u den ps ks)) = wk m' (jr rest)) (m) (by rw [hm, if_neg h, List.nil_append]) ?_ ?_
   ·rintro m' h2
    rw [jr] at h2
    (refine zf ?_; conv => whnf)
    repeat' ((with_reducible refine way ?_ ?_) <;> (intro h; conv => whnf))
    all_goals try (exfalso; omega)
    refine hK _ _ (by show 3 <= 4; decide) rfl ?_ ⟨rfl, ?_⟩
    ·show (MH o0 o1 m').all _ = true
     exact zgp h0 h1 m'
    ·rw [h2]
     rfl
   ·rintro done x rest m' hda hdl h2 ih
    have hw := zm (n := done.length) (by omega)
    have hrx : (zc ks)[((done.length : Nat) : Int).toNat]? = some x.cells := by rw [hks]; simp [hda]
    have hxm : x ∈ ks := by rw [hda]; simp
    have hsz := List.sizeOf_lt_of_mem hxm
    have hcall := zcl o0 o1 h0 h1 N x m' (by omega) (qn l3 x hxm)
    rw [jr, zce] at h2
    generalize wk m' (zdf x) = m2 at h2 hcall
    obtain ⟨xo, xn, xu, xd, xp, xk⟩ := x
    (refine zf ?_; conv => whnf)
    repeat' ((with_reducible refine way ?_ ?_) <;> (intro h; conv => whnf))
    all_goals try (exfalso; omega)
    refine zh rfl rfl  hrx ?_
    (refine za ?_; conv => whnf)
    refine yx 3 rfl rfl rfl rfl rfl rfl hcall ?_
    rintro r9 H9 ⟨rfl, rfl⟩ _
    (refine za ?_; conv => whnf)
    rw [hw]
    refine yr [1, 13, 14, 15] 4 (by rw [hH]; show 3 <= 4; decide) (by show 4 <= 5; decide) rfl ?_ (ih m2 h2)
    show (MH o0 o1 m2 ++ [SObj.cells ((Ex.mk op n u den ps ks).cells.map SV.imm)]).all (SObj.under 4) = true
    rw [List.all_append, xb (m := 3) (by omega) (zgp h0 h1 m2)]
    simp only [List.all_cons, List.all_nil, SObj.under, zfr, Bool.and_true]
theorem zzc (m : List (Int × Bool)) (a : List Int) (n : Int) : wk m (a ++ [n]) = ains n true (wk m a) := by rw [zce]; rfl
structure NeedC (c : Codex) : Prop extends BeatC c where
 uls : ∀ a ∈ c.arts, a.unless_.length <= 1000000
 amt : ∀ a ∈ c.arts, zhi a.amount
theorem yhc (c : Codex) (hc : NeedC c) (v : Int) (hv0 : 0 <= v) (hv1 : v < c.arts.length) : zx Tryz.prog G 60 [c.sv, sI v] (.imm (zl (wb c v))) := by
 have hal : (c.arts.map Article.cells).length = c.arts.length := by simp
 have hz := hc.arts
 obtain ⟨a, ha⟩ : ∃ a, c.arts[v.toNat]? = some a := ⟨_, List.getElem?_eq_getElem (by omega)⟩
 have hav : wy c v = some a := by unfold wy; rw [if_neg (by omega)]; exact ha
 have ham := List.mem_of_getElem? ha
 obtain ⟨op, n, u, den, ps, ks, hamt⟩ := jk a
 have hra := zhf c ha hamt
 have hul := hc.uls a ham
 have hwl := hc.len a ham
 have hno : wb c v = zfo c (zcb a) v c.arts 0 := by unfold wb; rw [hav]
 rw [hno]
 have hnm : zcb a = a.unless_ ++ jr a.when_ ++ zdf (.mk op n u den ps ks) := by rw [zcb, hamt]
 have hexs := hc.exs a ham
 have hamk := hc.amt a ham
 rw [hamt] at hamk
 refine zd Tryz.func60 rfl (by rw [Tryz.ntmps60]; simp) rfl rfl ?_; intro E hH hK
 rw [show c.sv = .agg [.imm (zk c.facts), .imm (zk c.lines), .imm (ys c.arts)] from rfl]
 obtain ⟨AC, hAC⟩ : ∃ AC : List SV, AC = [.imm (dI a.number), .imm (dI a.line), .imm (dI a.rank), .imm (dI a.lo), .imm (dI a.hi), .imm (dI a.known), .imm (ye a.when_), .imm (zl a.unless_), .imm (dI op), .imm (dI n), .imm (dS u), .imm (dI den), .imm (.isl 3 (ps.map Piece.cells)), .imm (.isl 6 (zc ks))] := ⟨_, rfl⟩
 (refine zf ?_; conv => whnf)
 refine zh rfl  (Int.toNat_of_nonneg hv0).symm (row := [dI a.number, dI a.line, dI a.rank, dI a.lo, dI a.hi, dI a.known, ye a.when_, zl a.unless_, dI op, dI n, dS u, dI den, .isl 3 (ps.map Piece.cells), .isl 6 (zc ks)]) hra ?_
 (refine za ?_; conv => whnf)
 refine zg [1, 2, 5, 6, 21, 22, 23] ?_
 have hO0 : (zdi c).under 3 = true := rfl
 have hO1 : (SObj.cells AC).under 3 = true := by rw [hAC]; rfl
 refine Eq.mpr (congrArg (fun h => SW E _ _ h) (show _ = MH (zdi c) (.cells AC) [] by rw [hAC]; rfl)) ?_
 change SW E _ [(1, sI v), (2, .ptr 0 0), (5, .ptr 1 0), (6, .map 2), (21, .imm (zl a.unless_)), (22, sI (a.unless_.map fun n => [dI n]).length), (23, sI 0)] _
 have hll : (a.unless_.map fun n => [dI n]).length = a.unless_.length := by simp
 have hlw : (a.when_.map Ex.cells).length = a.when_.length := by simp
 refine zq a.unless_ (fun i (_ : Unit) => [(1, sI v), (2, .ptr 0 0), (5, .ptr 1 0), (6, .map 2), (21, .imm (zl a.unless_)), (22, sI (a.unless_.map fun n => [dI n]).length), (23, sI i)]) (fun i _ => MH (zdi c) (.cells AC) (wk [] (a.unless_.take i)))
  (fun _ _ _ => True) () trivial ?_ ?_
 ·rintro _ _
  rw [List.take_length]
  subst hAC
  (refine zf ?_; conv => whnf)
  repeat' ((with_reducible refine way ?_ ?_) <;> (intro h; conv => whnf))
  all_goals try (exfalso; omega)
  refine zg [1, 2, 5, 6, 31, 32, 33] ?_
  refine Eq.mpr (congrArg (fun h => SW E _ _ h) (show _ = MH (zdi c) (.cells [.imm (dI a.number), .imm (dI a.line), .imm (dI a.rank), .imm (dI a.lo), .imm (dI a.hi), .imm (dI a.known), .imm (ye a.when_), .imm (zl a.unless_), .imm (dI op), .imm (dI n), .imm (dS u), .imm (dI den), .imm (.isl 3 (ps.map Piece.cells)), .imm (.isl 6 (zc ks))]) (wk [] a.unless_) from rfl)) ?_
  generalize hAC : ([.imm (dI a.number), .imm (dI a.line), .imm (dI a.rank), .imm (dI a.lo), .imm (dI a.hi), .imm (dI a.known), .imm (ye a.when_), .imm (zl a.unless_), .imm (dI op), .imm (dI n), .imm (dS u), .imm (dI den), .imm (.isl 3 (ps.map Piece.cells)), .imm (.isl 6 (zc ks))] : List SV) = AC at hO1 ⊢
  refine zq a.when_ (fun i (_ : List (Int × Bool)) => [(1, sI v), (2, .ptr 0 0), (5, .ptr 1 0), (6, .map 2), (31, .imm (ye a.when_)), (32, sI (a.when_.map Ex.cells).length), (33, sI i)]) (fun _ m => MH (zdi c) (.cells AC) m)
   (fun done rest m => wk [] (zcb a) = wk m (jr rest ++ zdf (.mk op n u den ps ks))) (wk [] a.unless_) (by rw [hnm, List.append_assoc, zce]) ?_ ?_
  ·rintro m h2
   rw [jr, List.nil_append] at h2
   have hcall := zcl G (zdi c) (.cells AC) hO0 hO1 _ (.mk op n u den ps ks) m (Nat.lt_succ_self _) hamk
   rw [<- h2] at hcall
   subst hAC
   (refine zf ?_; conv => whnf)
   repeat' ((with_reducible refine way ?_ ?_) <;> (intro h; conv => whnf))
   all_goals try (exfalso; omega)
   refine yx 3 rfl rfl rfl rfl rfl rfl hcall ?_
   rintro r9 H9 ⟨rfl, rfl⟩ _
   refine Eq.mpr (congrArg (fun h => SWr E _ _ _ _ h) (show _ = MH (zdi c) (.cells [.imm (dI a.number), .imm (dI a.line), .imm (dI a.rank), .imm (dI a.lo), .imm (dI a.hi), .imm (dI a.known), .imm (ye a.when_), .imm (zl a.unless_), .imm (dI op), .imm (dI n), .imm (dS u), .imm (dI den), .imm (.isl 3 (ps.map Piece.cells)), .imm (.isl 6 (zc ks))]) (wk [] (zcb a)) from rfl)) ?_
   generalize hAC : ([.imm (dI a.number), .imm (dI a.line), .imm (dI a.rank), .imm (dI a.lo), .imm (dI a.hi), .imm (dI a.known), .imm (ye a.when_), .imm (zl a.unless_), .imm (dI op), .imm (dI n), .imm (dS u), .imm (dI den), .imm (.isl 3 (ps.map Piece.cells)), .imm (.isl 6 (zc ks))] : List SV) = AC at hO1 ⊢
   have hlook : ∀ k, ((zt k (wk [] (zcb a))).map sB).getD (qk (.bool false)) = sB (decide (k ∈ zcb a)) := fun k => by
    rw [zic]
    by_cases hk : k ∈ zcb a
    ·rw [if_pos hk, decide_eq_true hk]; rfl
    ·rw [if_neg hk, decide_eq_false hk]; rfl
   have hMu := zgp hO0 hO1 (wk [] (zcb a))
   clear h2 hcall
   generalize wk [] (zcb a) = M at hlook hMu ⊢
   generalize zcb a = names at hlook hK
   (refine za ?_; conv => whnf)
   refine zsy (n := 11) (kk := 1) rfl ?_
   refine zg [1, 2, 6, 11, 46, 47, 48] ?_
   change SW E _ [(1, sI v), (2, .ptr 0 0), (6, .map 2), (11, .asl 3 1 []), (46, .imm (ys c.arts)), (47, sI (c.arts.map Article.cells).length), (48, sI 0)] (MH (zdi c) (.cells AC) M ++ [.tok 1 0])
   refine zq c.arts (fun i (l : List Int) => [(1, sI v), (2, .ptr 0 0), (6, .map 2), (11, .asl 3 1 (l.map fun n => [dI n])), (46, .imm (ys c.arts)), (47, sI (c.arts.map Article.cells).length), (48, sI i)]) (fun _ l => MH (zdi c) (.cells AC) M ++ [.tok 1 (l.map fun n => [dI n]).length])
    (fun done rest l => zfo c names v c.arts 0 = l ++ zfo c names v rest done.length /\ l.length <= done.length) [] ⟨rfl, by simp⟩ ?_ ?_
   ·rintro l ⟨h2, _⟩
    rw [zfo, List.append_nil] at h2
    rw [h2] at hK
    refine zdl ?_
    change SW E _ [(1, sI v), (2, .ptr 0 0), (6, .map 2), (11, .imm (zl l)), (46, .imm (ys c.arts)), (47, sI (c.arts.map Article.cells).length), (48, sI c.arts.length)] _
    (refine zf ?_; conv => whnf)
    repeat' ((with_reducible refine way ?_ ?_) <;> (intro h; conv => whnf))
    all_goals try (exfalso; omega)
    exact hK _
   ·rintro done x rest l hda hdl ⟨h2, h3⟩ ih
    have hw := zm (n := done.length) (by omega)
    obtain ⟨op', n', u', den', ps', ks', hxm⟩ := jk x
    have hgx : c.arts[done.length]? = some x := by rw [hda]; simp
    have hrx := zhf c hgx hxm
    have hrx2 : (c.arts.map Article.cells)[((done.length : Nat) : Int).toNat]? = _ := hrx
    have hbt := znd G c hc.toBeatC (done.length : Int) v
    rw [zfo] at h2
    have hkc : ∀ m, (MH (zdi c) (.cells AC) M ++ [SObj.tok 1 m]).all (SObj.under 4) = true := fun m => by
     rw [List.all_append, xb (m := 3) (by omega) hMu]
     rfl
    generalize qm c (done.length : Int) v = bb at hbt h2
    (refine zf ?_; conv => whnf)
    repeat' ((with_reducible refine way ?_ ?_) <;> (intro h; conv => whnf))
    all_goals try (exfalso; omega)
    refine zh rfl rfl  (row := [dI x.number, dI x.line, dI x.rank, dI x.lo, dI x.hi, dI x.known, ye x.when_, zl x.unless_, dI op', dI n', dS u', dI den', .isl 3 (ps'.map Piece.cells), .isl 6 (zc ks')]) hrx2 ?_
    (refine za ?_; conv => whnf)
    refine zfm (l := M) sB rfl rfl rfl rfl rfl rfl rfl rfl rfl (v := sB (decide (x.number ∈ names))) (hlook _) ?_
    cases hd : decide (x.number ∈ names) <;> ((refine za ?_; conv => whnf))
    ·have hd := of_decide_eq_false hd
     refine ze rfl  hbt ?_
     cases bb <;> ((refine za ?_; conv => whnf))
     ·rw [hw]
      refine yr [1, 2, 6, 11, 46, 47, 48] 4 (by rw [hH]; exact Nat.zero_le 4) (by show 4 <= 5; decide) rfl (hkc _) ?_
      refine ih l ⟨?_, ?_⟩
      ·rw [h2, if_neg (by simp [*]), List.length_append]
       rfl
      ·simp only [List.length_append, List.length_cons, List.length_nil]; omega
     refine wd (b := 3) (kk := 1) (rows := l.map fun n => [dI n]) (new := [[dI done.length]]) rfl ⟨by decide, rfl⟩ rfl (by rw [List.length_map]; simp only [List.length_cons, List.length_nil]; omega) ?_
     have e5 : (l.map fun n => [dI n]) ++ [[dI done.length]] = (l ++ [(done.length : Int)]).map fun n => [dI n] := by simp
     have e6 : (l.map fun n => [dI n]).length + [[dI done.length]].length = ((l ++ [(done.length : Int)]).map fun n => [dI n]).length := by simp
     refine Eq.mpr (congrArg (fun v => SWr E _ _ _ (wq _ _ (.asl 3 1 v)) _) e5) ?_
     refine Eq.mpr (congrArg (fun v => SWr E _ _ _ _ (List.set _ 3 (.tok 1 v))) e6) ?_
     (refine za ?_; conv => whnf)
     rw [hw]
     refine yr [1, 2, 6, 11, 46, 47, 48] 4 (by rw [hH]; exact Nat.zero_le 4) (by show 4 <= 5; decide) rfl (hkc _) ?_
     refine ih (l ++ [(done.length : Int)]) ⟨?_, ?_⟩
     ·rw [h2, if_pos (by simp [*]), List.length_append]
      simp
     ·simp only [List.length_append, List.length_cons, List.length_nil]; omega
    ·have hd := of_decide_eq_true hd
     refine wd (b := 3) (kk := 1) (rows := l.map fun n => [dI n]) (new := [[dI done.length]]) rfl ⟨by decide, rfl⟩ rfl (by rw [List.length_map]; simp only [List.length_cons, List.length_nil]; omega) ?_
     have e5 : (l.map fun n => [dI n]) ++ [[dI done.length]] = (l ++ [(done.length : Int)]).map fun n => [dI n] := by simp
     have e6 : (l.map fun n => [dI n]).length + [[dI done.length]].length = ((l ++ [(done.length : Int)]).map fun n => [dI n]).length := by simp
     refine Eq.mpr (congrArg (fun v => SWr E _ _ _ (wq _ _ (.asl 3 1 v)) _) e5) ?_
     refine Eq.mpr (congrArg (fun v => SWr E _ _ _ _ (List.set _ 3 (.tok 1 v))) e6) ?_
     (refine za ?_; conv => whnf)
     rw [hw]
     refine yr [1, 2, 6, 11, 46, 47, 48] 4 (by rw [hH]; exact Nat.zero_le 4) (by show 4 <= 5; decide) rfl (hkc _) ?_
     refine ih (l ++ [(done.length : Int)]) ⟨?_, ?_⟩
     ·rw [h2, if_pos (by simp [*]), List.length_append]
      simp
     ·simp only [List.length_append, List.length_cons, List.length_nil]; omega
  ·rintro done x rest m hda hdl h2 ih
   have hw := zm (n := done.length) (by omega)
   have hrx : (a.when_.map Ex.cells)[((done.length : Nat) : Int).toNat]? = some x.cells := by simp [hda]
   have hxm : x ∈ a.when_ := by rw [hda]; simp
   have hcall := zcl G (zdi c) (.cells AC) hO0 hO1 _ x m (Nat.lt_succ_self _) (qn hexs x hxm)
   rw [jr, List.append_assoc, zce] at h2
   generalize wk m (zdf x) = m2 at h2 hcall
   obtain ⟨xo, xn, xu, xd, xp, xk⟩ := x
   (refine zf ?_; conv => whnf)
   repeat' ((with_reducible refine way ?_ ?_) <;> (intro h; conv => whnf))
   all_goals try (exfalso; omega)
   refine zh rfl rfl  hrx ?_
   (refine za ?_; conv => whnf)
   refine yx 3 rfl rfl rfl rfl rfl rfl hcall ?_
   rintro r9 H9 ⟨rfl, rfl⟩ _
   (refine za ?_; conv => whnf)
   rw [hw]
   refine yr [1, 2, 5, 6, 31, 32, 33] 3 (by rw [hH]; exact Nat.zero_le 3) (by show 3 <= 4; decide) rfl ?_ (ih m2 h2)
   exact zgp hO0 hO1 m2
 ·rintro done x rest _ hda hdl _ ih
  have hw := zm (n := done.length) (by omega)
  have hrx : (a.unless_.map fun n => [dI n])[((done.length : Nat) : Int).toNat]? = some [dI x] := by simp [hda]
  have htk : a.unless_.take (done.length + 1) = a.unless_.take done.length ++ [x] := by rw [List.take_add_one]; simp [hda]
  rw [htk, zzc] at ih
  (refine zf ?_; conv => whnf)
  repeat' ((with_reducible refine way ?_ ?_) <;> (intro h; conv => whnf))
  all_goals try (exfalso; omega)
  refine zh rfl rfl  hrx ?_
  (refine za ?_; conv => whnf)
  refine zgc (l := wk [] (a.unless_.take done.length)) sB true rfl rfl rfl rfl rfl rfl rfl rfl rfl ?_
  (refine za ?_; conv => whnf)
  rw [hw]
  refine zg [1, 2, 5, 6, 21, 22, 23] ?_
  exact ih () trivial
theorem yhd (l : List Int) (x : Int) (hz : l.length <= 1000000000) : SPre Tryz.prog G 110 [.imm (zl l), sI x] [] (fun r _ => ∃ i : Int, r = sI i /\ (0 <= i ↔ x ∈ l)) := by
 refine wo Tryz.func110 rfl (by rw [Tryz.ntmps110]; simp) rfl rfl ?_
 intro E hH hK
 have hla : (l.map fun n => [dI n]).length = l.length := by simp
 (refine zf ?_; conv => whnf)
 refine zg [0, 1, 7, 8] ?_
 refine zq l (fun i (_ : Unit) => [(0, .imm (zl l)), (1, sI x), (7, sI (l.map fun n => [dI n]).length), (8, sI i)]) (fun _ _ => []) (fun done _ _ => x ∉ done) () (by simp) ?_ ?_
 ·rintro _ h1
  (refine zf ?_; conv => whnf)
  repeat' ((with_reducible refine way ?_ ?_) <;> (intro h; conv => whnf))
  all_goals try (exfalso; omega)
  exact hK _ _ (Nat.le_refl _) rfl rfl ⟨-1, rfl, ⟨fun h => by omega, fun h => absurd h h1⟩⟩
 ·rintro done y rest _ hda hdl h1 ih
  have hw := zm (n := done.length) (by omega)
  have hrx : (l.map fun n => [dI n])[((done.length : Nat) : Int).toNat]? = some [dI y] := by simp [hda]
  (refine zf ?_; conv => whnf)
  repeat' ((with_reducible refine way ?_ ?_) <;> (intro h; conv => whnf))
  all_goals try (exfalso; omega)
  refine zh rfl rfl  hrx ?_
  (refine za ?_; conv => whnf)
  repeat' ((with_reducible refine way ?_ ?_) <;> (intro h; conv => whnf))
  ·exact hK _ _ (Nat.le_refl _) rfl rfl ⟨done.length, rfl, ⟨fun _ => by rw [hda, h]; simp, fun _ => by omega⟩⟩
  ·rw [hw]
   refine zg [0, 1, 7, 8] ?_
   exact ih () (by simp only [List.mem_append, List.mem_cons, List.not_mem_nil, or_false, not_or]; exact ⟨h1, h⟩)
theorem zlx (l : List Int) (x : Int) (hz : l.length <= 1000000000) : zx Tryz.prog G 78 [.imm (zl l), sI x] (sB (decide (x ∈ l))) := by
 refine zd Tryz.func78 rfl (by rw [Tryz.ntmps78]; simp) rfl rfl ?_; intro E hH hK
 (refine zf ?_; conv => whnf)
 refine yx 0 rfl rfl rfl rfl rfl rfl (yhd G l x hz) ?_
 rintro r9 H9 ⟨i, rfl, hi⟩ _
 (refine za ?_; conv => whnf)
 have : decide (x ∈ l) = decide (0 <= i) := decide_eq_decide.2 hi.symm
 rw [this] at hK
 exact hK _
theorem ybl (c : Codex) (hfit : Codex.fit c) (hN : zw c = true -> NeedC c) (hz : c.arts.length <= 1000000000) (v : Int) :
  zx Tryz.prog G 34 [c.sv, sI v] (.imm (zl (if 0 <= v /\ v < c.arts.length /\ zw c = true then wb c v else []))) := by
 have hal : (c.arts.map Article.cells).length = c.arts.length := by simp
 have hV := jx G c hfit
 have h : zx Tryz.prog G 34 [c.sv, sI v] (if 0 <= v /\ v < c.arts.length /\ zw c = true then .imm (zl (wb c v)) else .imm (.val (.slice none 0 0))) := by
  refine zd Tryz.func34 rfl (by rw [Tryz.ntmps34]; simp) rfl (by split <;> rfl) ?_
  intro E hH hK
  generalize hz2 : zw c = z at hV hK hN
  rw [show c.sv = .agg [.imm (zk c.facts), .imm (zk c.lines), .imm (ys c.arts)] from rfl]
  (refine zf ?_; conv => whnf)
  repeat' ((with_reducible refine way ?_ ?_) <;> (intro h; conv => whnf))
  ·refine ze rfl  hV ?_
   cases z <;> ((refine za ?_; conv => whnf))
   ·rw [if_neg (by simp)] at hK
    exact hK _
   ·refine ze rfl  (yhc G c (hN rfl) v (by omega) (by omega)) ?_
    (refine za ?_; conv => whnf)
    rw [if_pos ⟨by omega, by omega, rfl⟩] at hK
    exact hK _
  ·rw [if_neg (by omega)] at hK
   exact hK _
  ·rw [if_neg (by omega)] at hK
   exact hK _
 split at h
 ·rename_i hh; rw [if_pos hh]; exact h
 ·rename_i hh; rw [if_neg hh]; exact zcj h (SV.Is.nil 1)
theorem zre (c : Codex) (hc : NeedC c) (i j : Int) (hi0 : 0 <= i) (hi1 : i < c.arts.length) (hj0 : 0 <= j) (hj1 : j < c.arts.length) : zx Tryz.prog G 48 [c.sv, sI i, sI j] (sB (zad c i j)) := by
 have hal : (c.arts.map Article.cells).length = c.arts.length := by simp
 have hz := hc.arts
 obtain ⟨a, ha⟩ : ∃ a, c.arts[i.toNat]? = some a := ⟨_, List.getElem?_eq_getElem (by omega)⟩
 obtain ⟨b, hb⟩ : ∃ b, c.arts[j.toNat]? = some b := ⟨_, List.getElem?_eq_getElem (by omega)⟩
 have hai : wy c i = some a := by unfold wy; rw [if_neg (by omega)]; exact ha
 have hbj : wy c j = some b := by unfold wy; rw [if_neg (by omega)]; exact hb
 have hbe : zad c i j = (decide (a.line = b.line) && !decide (a.number = b.number) && !qm c i j && !qm c j i && !decide (b.number ∈ a.unless_) && !decide (a.number ∈ b.unless_)) := by unfold zad; rw [hai, hbj]
 have ham := List.mem_of_getElem? ha
 have hbm := List.mem_of_getElem? hb
 have c1 := znd G c hc.toBeatC i j
 have c2 := znd G c hc.toBeatC j i
 have c3 := zlx G a.unless_ b.number (by have := hc.uls a ham; omega)
 have c4 := zlx G b.unless_ a.number (by have := hc.uls b hbm; omega)
 rw [hbe]
 generalize qm c i j = z1 at c1
 generalize qm c j i = z2 at c2
 generalize decide (b.number ∈ a.unless_) = z3 at c3
 generalize decide (a.number ∈ b.unless_) = z4 at c4
 obtain ⟨op, n, u, den, ps, ks, hamt⟩ := jk a
 obtain ⟨op', n', u', den', ps', ks', hbmt⟩ := jk b
 have hra := zhf c ha hamt
 have hrb := zhf c hb hbmt
 refine zd Tryz.func48 rfl (by rw [Tryz.ntmps48]; simp) rfl rfl ?_; intro E hH hK
 rw [show c.sv = .agg [.imm (zk c.facts), .imm (zk c.lines), .imm (ys c.arts)] from rfl]
 (refine zf ?_; conv => whnf)
 refine zg [1, 2, 3] ?_
 change SW E _ [(1, sI i), (2, sI j), (3, .ptr 0 0)] [.cells [.imm (zk c.facts), .imm (zk c.lines), .imm (ys c.arts)]]
 (refine zu 2 mixed rfl ?_; refine zb [777] (nx := 1) ?_; conv => whnf)
 refine zr (row := [dI a.number, dI a.line, dI a.rank, dI a.lo, dI a.hi, dI a.known, ye a.when_, zl a.unless_, dI op, dI n, dS u, dI den, .isl 3 (ps.map Piece.cells), .isl 6 (zc ks)]) rfl (show 1 <= 3 by decide) (Int.toNat_of_nonneg hi0).symm hra ?_
 (refine zb [777] (nx := 1) ?_; conv => whnf)
 refine zr (row := [dI b.number, dI b.line, dI b.rank, dI b.lo, dI b.hi, dI b.known, ye b.when_, zl b.unless_, dI op', dI n', dS u', dI den', .isl 3 (ps'.map Piece.cells), .isl 6 (zc ks')]) rfl (show 1 <= 3 by decide) (Int.toNat_of_nonneg hj0).symm hrb ?_
 (refine zb [777] (nx := 1) ?_; conv => whnf)
 refine zg [1, 2, 3, 7, 8] ?_
 change SW E _ [(1, sI i), (2, sI j), (3, .ptr 0 0), (7, .ptr 1 0), (8, .ptr 2 0)] [.cells [.imm (zk c.facts), .imm (zk c.lines), .imm (ys c.arts)], .cells [.imm (dI a.number), .imm (dI a.line), .imm (dI a.rank), .imm (dI a.lo), .imm (dI a.hi), .imm (dI a.known), .imm (ye a.when_), .imm (zl a.unless_), .imm (dI op), .imm (dI n), .imm (dS u), .imm (dI den), .imm (.isl 3 (ps.map Piece.cells)), .imm (.isl 6 (zc ks))],
  .cells [.imm (dI b.number), .imm (dI b.line), .imm (dI b.rank), .imm (dI b.lo), .imm (dI b.hi), .imm (dI b.known), .imm (ye b.when_), .imm (zl b.unless_), .imm (dI op'), .imm (dI n'), .imm (dS u'), .imm (dI den'), .imm (.isl 3 (ps'.map Piece.cells)), .imm (.isl 6 (zc ks'))]]
 (refine zf ?_; conv => whnf)
 repeat' ((with_reducible refine way ?_ ?_) <;> (intro h; conv => whnf))
 ·rename_i g1
  rw [decide_eq_true g1, decide_eq_false h] at hK
  refine ze rfl  c1 ?_
  cases z1 <;> ((refine za ?_; conv => whnf))
  ·refine ze rfl  c2 ?_
   cases z2 <;> ((refine za ?_; conv => whnf))
   ·refine ze rfl  c3 ?_
    cases z3 <;> ((refine za ?_; conv => whnf))
    ·refine ze rfl  c4 ?_
     (refine za ?_; conv => whnf)
     cases z4 <;> exact hK _
    ·exact hK _
   ·exact hK _
  ·exact hK _
 ·rw [decide_eq_true h, Bool.not_true, Bool.and_false, Bool.false_and, Bool.false_and, Bool.false_and, Bool.false_and] at hK
  exact hK _
 ·rw [decide_eq_false h] at hK
  exact hK _
end Go.Proofs.YtblpjknmhajcgaaGreatDoor