/- Contracts of functions of the program, joined from TKa, TKb, TKc, TKp, TKq, TKe, TKf, TKg, TKh, TKi, TSh43, TKj, TKk, TKl, TSh44, TKm, TKn, TKt, TBc, TBd: no condition. -/
import Derived.Test.YtblpjknmhajcgaaGreatDoorCN3
set_option linter.unusedSimpArgs false
set_option linter.unusedVariables false
set_option maxRecDepth 10000
set_option maxHeartbeats 4000000
namespace Go.Proofs.YtblpjknmhajcgaaGreatDoor
open Go Go.Sh
variable (G : List (Nat × D))
theorem zin (b : Bool) : yb Tryz.prog G 139 [.imm (.val (.bool b))] (.imm (iv (zjn b))) := by
 cases b
 ·refine ze Tryz.func139 rfl (by rw [Tryz.ntmps139]; simp) rfl rfl ?_; intro E hH hK
  (refine zi ?_; conv => whnf)
  exact hK _
 ·refine ze Tryz.func139 rfl (by rw [Tryz.ntmps139]; simp) rfl rfl ?_; intro E hH hK
  (refine zi ?_; conv => whnf)
  exact hK _
theorem jy {P : Program} {G : List (Nat × D)} {fn : Func} {rd : Bool} {E : En P G fn rd} {t : List (Nat × SV)} {K : List SObj} {k : List Item} {m : Nat} {all : Array Oper} {rest : List Oper} {done : List Eff} {o : Oper}
  {ty b off : Nat} {a : Operand} {cs : List SV} {v : SV} (hop : o.op = .load ty a) (hw : zy all t o.guard = some true) (hd : yf fn.ntmps o.dst = true) (hm : m <= K.length) (ha : zn G t a = .ptr b off) (hb : K[b]? = some (.cells cs))
  (hv : zju P ty cs off = some v) (h : SWe E m all rest k (wm t o.dst v) K (done ++ [⟨v, [b], none⟩])) : SWe E m all (o :: rest) k t K done := by
 refine jn ⟨v, [b], none⟩ hw hd hm (fun K' _ hK => ?_) h
 have hb' : K'[b]? = some (.cells cs) := by rw [hK b (.inl (by simp))]; exact hb
 rw [hop]
 have : ql P ty K' (.ptr b off) = some v := by
  unfold ql
  simp only [hb', hv]
 simp only [sop, ha, this]
 rfl
abbrev bvS (b : Bool) : SV := .imm (.val (.bool b))
abbrev ivS (n : Int) : SV := .imm (.val (.int .i64 n))
def WH (X : Nat -> SObj) (s : St) : List SObj :=
  [X 0, X 1, X 2, X 3, X 4, X 5, X 6, X 7, X 8, X 9, X 10, X 11, X 12, X 13, X 14, X 15, X 16, X 17, X 18, X 19, X 20, .cells (s.ch.map bvS), .cells (s.vs.map ivS),
   .cells [ivS s.p.1, ivS s.p.2.1, ivS s.p.2.2.1, ivS s.p.2.2.2.1, ivS s.p.2.2.2.2, .osl 21 0 s.ch.length, .osl 22 0 s.vs.length]]
theorem jz {α : Type} {f : α -> SV} {m : Nat} (hf : ∀ a, (f a).under m = true) : ∀ l : List α, SV.under.allUnder m (l.map f) = true
 | [] => rfl
 | a :: l => by simp only [List.map_cons, SV.under.allUnder, hf a, jz hf l, Bool.and_self]
theorem zyc (m : Nat) (cs : List SV) : (SObj.cells cs).under m = SV.under.allUnder m cs := rfl
theorem zbk {X : Nat -> SObj} (hX : ∀ i, (X i).under 24 = true) (s : St) : (WH X s).all (SObj.under 24) = true := by
 simp only [WH, List.all_cons, hX, List.all_nil, Bool.true_and, Bool.and_true, zyc, jz (f := bvS) (m := 24) (fun _ => rfl), jz (f := ivS) (m := 24) (fun _ => rfl)]
 rfl
theorem yqv {α : Type} {f : α -> SV} {l : List α} {n : Nat} {d : α} {P : Program} {ty : TypeId} (h : n < l.length) (hp : ysi P ty = some false) : zju P ty (l.map f) (0 + n * 1) = some (f (l.getD n d)) := by
 simp only [zju, hp, Nat.zero_add, Nat.mul_one, List.getElem?_map]
 rw [List.getElem?_eq_getElem h, List.getD_eq_getElem?_getD, List.getElem?_eq_getElem h]
 rfl
theorem zbl {P : Program} {G : List (Nat × D)} {fn : Func} {f : FuncId} {args : List SV} {c : Code} {X : Nat -> SObj} {s : St} {K : SV -> List SObj -> Prop} (hX : ∀ i, (X i).under 24 = true)
  (hfn : P.funcs[f]? = some fn) (hb : fn.body = some c) (hn : args.length <= fn.ntmps) (hargs : args.all (SV.under 24) = true)
  (h : ∀ E : En P G fn false, E.H.length = 24 -> (∀ r Y s', r.under 24 = true -> K r (WH X s') -> E.K r (WH X s' ++ Y)) -> SW E [.code c] (zup 0 args) (WH X s)) : SPre P G f args (WH X s) K := by
 refine wk hfn hb hn hargs (zbk hX s) (fun E hH hK => h E hH (fun r Y s' hr hk => ?_))
 have e : (WH X s' ++ Y).take 24 = WH X s' := rfl
 exact hK r _ (by simp [WH]) hr (by show ((WH X s' ++ Y).take 24).all (SObj.under 24) = true; rw [e]; exact zbk hX s') (by show K r ((WH X s' ++ Y).take 24); rw [e]; exact hk)
theorem zmv {X : Nat -> SObj} (hX : ∀ i, (X i).under 24 = true) (oo on : Int) (s : St) (hl : s.ch.length = s.vs.length) (ho : Opd.ok s.vs.length ⟨oo, on⟩) :
  SPre Tryz.prog G 138 [.agg [ivS oo, ivS on], .ptr 23 0] (WH X s) (fun r H' => r = .tup [ivS (Opd.val ⟨oo, on⟩ s).1, bvS (Opd.val ⟨oo, on⟩ s).2] /\ H' = WH X s) := by
 refine zbl hX Tryz.func138 rfl (by rw [Tryz.ntmps138]; simp) rfl ?_; intro E hH hK
 unfold WH
 obtain ⟨ho1, ho2⟩ := ho
 simp only at ho1 ho2
 (refine zh ?_; conv => whnf)
 repeat' ((with_reducible refine way ?_ ?_) <;> (intro h; conv => whnf))
 ·have hb := ho1 (by assumption)
  (refine ya 0 mixed rfl ?_; refine zc [777, 17, 25] (nx := 25) ?_; conv => whnf)
  refine zqb (i := on.toNat) rfl rfl rfl rfl rfl rfl rfl (by simp [yi]) (by omega) (by omega) ?_
  (refine zc [777, 17, 25] (nx := 25) ?_; conv => whnf)
  refine jy (v := ivS (s.vs.getD on.toNat 0)) rfl rfl rfl (by simp [yi]) rfl rfl (yqv (f := ivS) (by omega) rfl) ?_
  (refine zc [777, 17, 25] (nx := 25) ?_; conv => whnf)
  refine zqb (i := on.toNat) rfl rfl rfl rfl rfl rfl rfl (by simp [yi]) (by omega) (by omega) ?_
  (refine zc [777, 17, 25] (nx := 25) ?_; conv => whnf)
  refine jy (v := bvS (s.ch.getD on.toNat false)) rfl rfl rfl (by simp [yi]) rfl rfl (yqv (f := bvS) (by omega) rfl) ?_
  (refine zc [777] (nx := 25) ?_; conv => whnf)
  (refine zh ?_; conv => whnf)
  have e : Opd.val ⟨oo, on⟩ s = (s.vs.getD on.toNat 0, s.ch.getD on.toNat false) := by simp [Opd.val, *]
  exact hK (.tup [ivS (s.vs.getD on.toNat 0), bvS (s.ch.getD on.toNat false)]) [_] s rfl ⟨by rw [e], rfl⟩
 ·have hb := ho2 (by assumption)
  have h5 : on = 0 \/ on = 1 \/ on = 2 \/ on = 3 \/ on = 4 := by omega
  rcases h5 with rfl | rfl | rfl | rfl | rfl <;> (refine ya 0 mixed rfl ?_; refine zc [777] (nx := 25) ?_; conv => whnf) <;> ((refine zh ?_; conv => whnf))
  ·exact hK (.tup [ivS s.p.1, bvS true]) [_] s rfl ⟨by simp [Opd.val, St.part, *], rfl⟩
  ·exact hK (.tup [ivS s.p.2.1, bvS true]) [_] s rfl ⟨by simp [Opd.val, St.part, *], rfl⟩
  ·exact hK (.tup [ivS s.p.2.2.1, bvS true]) [_] s rfl ⟨by simp [Opd.val, St.part, *], rfl⟩
  ·exact hK (.tup [ivS s.p.2.2.2.1, bvS true]) [_] s rfl ⟨by simp [Opd.val, St.part, *], rfl⟩
  ·exact hK (.tup [ivS s.p.2.2.2.2, bvS true]) [_] s rfl ⟨by simp [Opd.val, St.part, *], rfl⟩
 ·exact hK (.tup [ivS on, bvS true]) [_] s rfl ⟨by simp [Opd.val, *], rfl⟩
section
variable {P : Program} {G : List (Nat × D)} {fn : Func} {rd : Bool} {E : En P G fn rd} {t : List (Nat × SV)} {H : List SObj} {k : List Item} {all : Array Oper} {rest : List Oper} {o : Oper}
theorem Rep.aggs {w : World} {I : Imm} {β : List Bnd} {v : Value} {ds : List D} (h : Rep w I β v (.imm (.agg ds))) : Rep w I β v (.agg (ds.map .imm)) := by
 cases h with | imm h =>
 cases h with | agg vs _ h1 h2 =>
 refine .agg vs _ (by simp [h1]) (fun j hj hj' => ?_)
 simp only [List.getElem_map]
 exact .imm (h2 j (by simpa using hj) hj')
theorem ykg {f : FuncId} {ds : List D} {args : List SV} {K : SV -> List SObj -> Prop} (h : SCall P G f (.agg (ds.map .imm) :: args) H K) : SCall P G f (.imm (.agg ds) :: args) H K := by
 intro w I β vs hH hr
 refine h w I β vs hH ⟨by simpa using hr.len, fun j v s hv hs => ?_⟩
 cases j with
 | zero =>
  simp only [List.getElem?_cons_zero, Option.some.injEq] at hs
  subst hs
  exact Rep.aggs (hr.rep 0 v _ hv rfl)
 | succ j => exact hr.rep (j + 1) v s hv hs
theorem zgg (n : Nat) {rx : Operand} {name : String} {args : Array Operand} {tys : Array TypeId} {ty : TypeId} {ds : List D} {f : FuncId} {K : SV -> List SObj -> Prop} (hop : o.op = .call ⟨.invoke rx name, args, tys⟩)
  (hw : zy all t o.guard = some true) (hd : yf fn.ntmps o.dst = true) (hx : zn G t rx = .imm (.iface ty (.agg ds))) (hm : ydk P ty name = some f) (hb : qp P f = true) {argv : List SV}
  (hargs : .agg (ds.map .imm) :: args.toList.map (zn G t) = argv) (hc : SPre P G f argv (H.take n) K) (h : ∀ r H1, K r H1 -> H1.length = (H.take n).length -> SWr E all rest k (wm t o.dst r) (H1 ++ H.drop n)) :
  SWr E all (o :: rest) k t H := by
 refine ygf hop hw hd (by rw [hx]; rfl) hm hb rfl ?_
 refine ykg ?_
 rw [hargs]
 have := hc (H.drop n)
 rw [List.take_append_drop] at this
 refine this.mono (fun r H' ⟨H1, h1, h2, h3⟩ => ?_)
 subst h3
 refine ⟨?_, h r H1 h1 h2⟩
 simp only [List.length_take, List.length_append, List.length_drop] at h2 ⊢
 omega
end
def Cond.fn : Cond -> Nat
 | .none => 0
 | .plain _ => 197
 | .cmp _ _ _ => 100
 | .neg _ => 198
 | .conn _ _ _ => 199
def Cond.cells : Cond -> List SV
 | .none => []
 | .plain o => [ivS o.op, ivS o.n]
 | .cmp op l r => [ivS op, ivS l.op, ivS l.n, ivS r.op, ivS r.n]
 | .neg c => [.imm c.d]
 | .conn d l r => [ivS d, .imm l.d, .imm r.d]
def ygm (X : Nat -> SObj) (s : St) (c : Cond) : Prop := SPre Tryz.prog G c.fn [.agg c.cells, .ptr 23 0] (WH X s) (fun r H' => r = ivS (c.dec s) /\ H' = WH X s)
theorem zio {fn : Func} {rd : Bool} {E : En Tryz.prog G fn rd} {t : List (Nat × SV)} {H : List SObj} {k : List Item} {all : Array Oper} {rest : List Oper} {o : Oper} {rx : Operand} {args : Array Operand} {tys : Array TypeId}
  {X : Nat -> SObj} {s : St} {c : Cond} {n : Nat} (hc : c.ok n) (hP : ygm G X s c) (hop : o.op = .call ⟨.invoke rx "wageoffice/defeat.decide", args, tys⟩) (hw : zy all t o.guard = some true) (hd : yf fn.ntmps o.dst = true)
  (hx : zn G t rx = .imm c.d) (ha : args.toList.map (zn G t) = [.ptr 23 0]) (hH : H.take 24 = WH X s) (h : SWr E all rest k (wm t o.dst (ivS (c.dec s))) H) : SWr E all (o :: rest) k t H := by
 have fin : ∀ r H1, (r = ivS (c.dec s) /\ H1 = WH X s) -> H1.length = (H.take 24).length -> SWr E all rest k (wm t o.dst r) (H1 ++ H.drop 24) := by
  intro r H1 h1 _
  obtain ⟨rfl, rfl⟩ := h1
  rw [<- hH, List.take_append_drop]
  exact h
 cases c with
 | none => exact hc.elim
 | plain q => exact zgg 24 hop hw hd hx (by kernel_rfl) rfl (by rw [ha]) (by rw [hH]; exact hP) fin
 | cmp op l r => exact zgg 24 hop hw hd hx (by kernel_rfl) rfl (by rw [ha]) (by rw [hH]; exact hP) fin
 | neg q => exact zgg 24 hop hw hd hx (by kernel_rfl) rfl (by rw [ha]) (by rw [hH]; exact hP) fin
 | conn d l r => exact zgg 24 hop hw hd hx (by kernel_rfl) rfl (by rw [ha]) (by rw [hH]; exact hP) fin
theorem ykh {X : Nat -> SObj} (hX : ∀ i, (X i).under 24 = true) (q : Opd) (s : St) (hl : s.ch.length = s.vs.length) (ho : q.ok s.vs.length) : ygm G X s (.plain q) := by
 unfold ygm
 refine zbl hX Tryz.func197 rfl (by rw [Tryz.ntmps197]; simp) rfl ?_; intro E hH hK
 (refine zh ?_; conv => whnf)
 refine ys 24 rfl rfl rfl rfl rfl rfl (zmv G hX q.op q.n s hl ho) ?_
 intro r H1 hr _
 obtain ⟨rfl, rfl⟩ := hr
 (refine za ?_; conv => whnf)
 repeat' ((with_reducible refine way ?_ ?_) <;> (intro h; conv => whnf))
 ·exact hK (ivS 2) [_] s rfl ⟨by simp [Cond.dec, *], rfl⟩
 ·refine zd rfl  (zin G _) ?_
  (refine za ?_; conv => whnf)
  exact hK (ivS _) [_] s rfl ⟨by simp [Cond.dec, *], rfl⟩
theorem yqw {X : Nat -> SObj} (hX : ∀ i, (X i).under 24 = true) (op : Int) (l r : Opd) (s : St) (hl : s.ch.length = s.vs.length) (h1 : l.ok s.vs.length) (h2 : r.ok s.vs.length) : ygm G X s (.cmp op l r) := by
 unfold ygm
 refine zbl hX Tryz.func100 rfl (by rw [Tryz.ntmps100]; simp) rfl ?_; intro E hH hK
 (refine zh ?_; conv => whnf)
 refine ys 24 rfl rfl rfl rfl rfl rfl (zmv G hX l.op l.n s hl h1) ?_
 intro r1 H1 hr _
 obtain ⟨rfl, rfl⟩ := hr
 (refine za ?_; conv => whnf)
 refine ys 24 rfl rfl rfl rfl rfl rfl (zmv G hX r.op r.n s hl h2) ?_
 intro r2 H2 hr _
 obtain ⟨rfl, rfl⟩ := hr
 have e : Cond.dec s (.cmp op l r) = if (l.val s).2 && (r.val s).2 then zjn (zsh op (l.val s).1 (r.val s).1) else 2 := rfl
 rw [e] at hK
 change ∀ (r_1 : SV) (Y : List SObj) (s' : St), r_1.under 24 = true -> (r_1 = ivS (if (Opd.val ⟨l.op, l.n⟩ s).2 && (Opd.val ⟨r.op, r.n⟩ s).2 then zjn (zsh op (Opd.val ⟨l.op, l.n⟩ s).1 (Opd.val ⟨r.op, r.n⟩ s).1) else 2) /\ WH X s' = WH X s) -> _ at hK
 generalize Opd.val ⟨l.op, l.n⟩ s = a at hK ⊢
 generalize Opd.val ⟨r.op, r.n⟩ s = b at hK ⊢
 obtain ⟨a, ka⟩ := a
 obtain ⟨b, kb⟩ := b
 cases ka
 ·(refine za ?_; conv => whnf)
  exact hK (ivS 2) [_] s rfl ⟨rfl, rfl⟩
 cases kb
 ·(refine za ?_; conv => whnf)
  exact hK (ivS 2) [_] s rfl ⟨rfl, rfl⟩
 (refine za ?_; conv => whnf)
 repeat' ((with_reducible refine way ?_ ?_) <;> (intro h; conv => whnf))
 ·refine zd rfl  (zin G _) ?_
  (refine za ?_; conv => whnf)
  exact hK (ivS _) [_] s rfl ⟨by simp [zsh, *], rfl⟩
 ·refine zd rfl  (zin G _) ?_
  (refine za ?_; conv => whnf)
  exact hK (ivS _) [_] s rfl ⟨by simp [zsh, *], rfl⟩
 ·refine zd rfl  (zin G _) ?_
  (refine za ?_; conv => whnf)
  exact hK (ivS _) [_] s rfl ⟨by simp [zsh, *], rfl⟩
theorem yqx {X : Nat -> SObj} (hX : ∀ i, (X i).under 24 = true) (c : Cond) (s : St) {n : Nat} (hc : c.ok n) (hP : ygm G X s c) : ygm G X s (.neg c) := by
 unfold ygm
 refine zbl hX Tryz.func198 rfl (by rw [Tryz.ntmps198]; simp) rfl ?_; intro E hH hK
 (refine wv [777, 6] 1000 ?_; conv => whnf)
 refine xq (v := .imm c.d) rfl rfl rfl rfl rfl rfl ?_
 (refine za ?_; conv => whnf)
 refine zio G hc hP rfl rfl rfl rfl (by rfl) (by rfl) ?_
 have e : Cond.dec s (.neg c) = if c.dec s = 0 then 1 else if c.dec s = 1 then 0 else 2 := rfl
 rw [e] at hK
 (refine za ?_; conv => whnf)
 repeat' ((with_reducible refine way ?_ ?_) <;> (intro h; conv => whnf))
 ·exact hK (ivS 1) [_] s rfl ⟨by simp [*], rfl⟩
 ·exact hK (ivS 0) [_] s rfl ⟨by simp [*], rfl⟩
 ·exact hK (ivS 2) [_] s rfl ⟨by simp [*], rfl⟩
theorem yob {X : Nat -> SObj} (hX : ∀ i, (X i).under 24 = true) (d : Int) (l r : Cond) (s : St) {n : Nat} (hl : l.ok n) (hr : r.ok n) (hP : ygm G X s l) (hQ : ygm G X s r) : ygm G X s (.conn d l r) := by
 unfold ygm
 refine zbl hX Tryz.func199 rfl (by rw [Tryz.ntmps199]; simp) rfl ?_; intro E hH hK
 (refine wv [777, 8] 1000 ?_; conv => whnf)
 refine xq (v := .imm l.d) rfl rfl rfl rfl rfl rfl ?_
 (refine za ?_; conv => whnf)
 refine zio G hl hP rfl rfl rfl rfl (by rfl) (by rfl) ?_
 have e : Cond.dec s (.conn d l r) = if l.dec s = d then l.dec s else if r.dec s = d \/ l.dec s ≠ 2 then r.dec s else 2 := rfl
 rw [e] at hK
 (refine ym [777, 17] 1000 ?_; conv => whnf)
 repeat' ((with_reducible refine way ?_ ?_) <;> (intro h; conv => whnf))
 ·exact hK (ivS (l.dec s)) [_] s rfl ⟨by simp [*], rfl⟩
 ·refine xq (v := .imm r.d) rfl rfl rfl rfl rfl rfl ?_
  (refine za ?_; conv => whnf)
  refine zio G hr hQ rfl rfl rfl rfl (by rfl) (by rfl) ?_
  (refine za ?_; conv => whnf)
  repeat' ((with_reducible refine way ?_ ?_) <;> (intro h; conv => whnf))
  all_goals first | exact hK (ivS (r.dec s)) [_] s rfl ⟨by simp [*], rfl⟩ | exact hK (ivS 2) [_] s rfl ⟨by simp [*], rfl⟩ | exact hK (ivS 2) [_] s rfl ⟨by simp [*]; omega, rfl⟩
theorem zlj {X : Nat -> SObj} (hX : ∀ i, (X i).under 24 = true) (s : St) (hl : s.ch.length = s.vs.length) : ∀ c : Cond, c.ok s.vs.length -> ygm G X s c
 | .none, h => h.elim
 | .plain q, h => ykh G hX q s hl h
 | .cmp op l r, h => yqw G hX op l r s hl h.1 h.2
 | .neg c, h => yqx G hX c s h (zlj hX s hl c h)
 | .conn d l r, h => yob G hX d l r s h.1 h.2 (zlj hX s hl l h.1) (zlj hX s hl r h.2)
def Cond.row : Cond -> List D
 | .cmp op l r => [iv op, iv l.op, iv l.n, iv r.op, iv r.n]
 | _ => [iv 0, iv 0, iv 0, iv 0, iv 0]
def zx (c : Codex) (vers : List Int) (s : Sr) : List SV :=
  [.imm (zk c.facts), .imm (zk c.lines), .imm (xw c.arts), .imm (dInts vers), .asl 15 1 (s.conds.map fun c => [c.d]), .asl 16 5 (s.atoms.map Cond.row),
   sB (s.dates.getD 0 false), sB (s.dates.getD 1 false), sB (s.dates.getD 2 false), sB (s.dates.getD 3 false), sB (s.dates.getD 4 false), .map 1]
def XS (Y : Nat -> SObj) (cs : List SV) (i : Nat) : SObj := if i = 2 then .cells cs else Y i
theorem zdl {Y : Nat -> SObj} (hY : ∀ i, (Y i).under 24 = true) (c : Codex) (vers : List Int) (s : Sr) (i : Nat) : (XS Y (zx c vers s) i).under 24 = true := by
 unfold XS
 split
 ·rfl
 ·exact hY i
theorem zhr {Y : Nat -> SObj} (hY : ∀ i, (Y i).under 24 = true) (c : Codex) (vers : List Int) (q : Sr) (s : St) (hl : s.ch.length = s.vs.length) (hc : ∀ x ∈ q.conds, x.ok s.vs.length) (hsz : q.conds.length <= 1073741824) :
  SPre Tryz.prog G 69 [.ptr 2 0, .ptr 23 0] (WH (XS Y (zx c vers q)) s) (fun r H' => r = ivS (zab q.conds s) /\ H' = WH (XS Y (zx c vers q)) s) := by
 have hX := zdl hY c vers q
 refine zbl hX Tryz.func69 rfl (by rw [Tryz.ntmps69]; simp) rfl ?_; intro E hH hK
 (refine zh ?_; conv => whnf)
 refine zf [0, 1, 5, 11, 12, 13] ?_
 refine zt q.conds (fun i (r : Int) => [(0, .ptr 2 0), (1, .ptr 23 0), (5, ivS r), (11, .asl 15 1 (q.conds.map fun c => [c.d])), (12, ivS (q.conds.map fun c : Cond => [c.d]).length), (13, ivS i)])
  (fun _ _ => WH (XS Y (zx c vers q)) s) (fun _ rest r => zah s q.conds 1 = zah s rest r) 1 rfl ?_ ?_
 ·intro r h1
  simp only [zah] at h1
  have hll : (q.conds.map fun c : Cond => [c.d]).length = q.conds.length := by simp
  (refine zh ?_; conv => whnf)
  repeat' ((with_reducible refine way ?_ ?_) <;> (intro h; conv => whnf))
  all_goals try (exfalso; omega)
  exact hK (ivS r) [] s rfl ⟨by rw [zab, h1], rfl⟩
 ·intro done x rest r ha hlen h1 ih
  have hll : (q.conds.map fun c : Cond => [c.d]).length = q.conds.length := by simp
  have hw := zm (n := done.length) (by omega)
  simp only [zah] at h1
  have hx := hc x (by rw [ha]; simp)
  have hrow : (q.conds.map fun c : Cond => [c.d])[((done.length : Nat) : Int).toNat]? = some [x.d] := by simp [ha]
  have hdx := zlj G hX s hl x hx
  generalize hdv : x.dec s = dv at h1
  rcases x with _ | o | ⟨op, l, r'⟩ | c' | ⟨d, l, r'⟩
  ·exact hx.elim
  all_goals
   (refine zh ?_; conv => whnf)
   repeat' ((with_reducible refine way ?_ ?_) <;> (intro h; conv => whnf))
   all_goals try (exfalso; omega)
   refine zg rfl rfl  hrow ?_
   (refine za ?_; conv => whnf)
   refine zio G hx hdx rfl rfl rfl rfl (by rfl) (by rfl) ?_
   rw [hdv]
   (refine za ?_; conv => whnf)
   repeat' ((with_reducible refine way ?_ ?_) <;> (intro h; conv => whnf))
   ·exact hK (ivS 0) [] s rfl ⟨by rw [zab, h1, if_pos (by assumption)], rfl⟩
   ·rw [hw]
    exact yr [0, 1, 5, 11, 12, 13] 24 (by omega) (by simp [WH]) rfl (zbk hX s) (ih 2 (by rw [h1, if_neg (by assumption), if_pos (by assumption)]))
   ·rw [hw]
    exact yr [0, 1, 5, 11, 12, 13] 24 (by omega) (by simp [WH]) rfl (zbk hX s) (ih r (by rw [h1, if_neg (by assumption), if_neg (by assumption)]))
theorem ziq (d : Int) : yb Tryz.prog G 136 [sI d] (sB (decide (0 <= d) && decide (d <= 36524))) := by
 refine ze Tryz.func136 rfl (by rw [Tryz.ntmps136]; simp) rfl rfl ?_; intro E hH hK
 (refine zi ?_; conv => whnf)
 repeat' ((with_reducible refine way ?_ ?_) <;> (intro h; conv => whnf))
 all_goals exact kB hK (by simp [*])
theorem zyd (d : Int) : yb Tryz.prog G 99 [sI d] (sI (zbi d)) := by
 by_cases hd : 0 <= d /\ d <= 36524
 ·refine ze Tryz.func99 rfl (by rw [Tryz.ntmps99]; simp) rfl rfl ?_; intro E hH hK
  (refine zi ?_; conv => whnf)
  refine zd rfl  (ziq G d) ?_
  rw [show (decide (0 <= d) && decide (d <= 36524)) = true by simp [hd]]
  (refine zj ?_; conv => whnf)
  refine kI hK ?_
  rw [zbi, if_pos hd, wo (c := d + 5) (by omega) (by omega), Int.tmod_eq_emod_of_nonneg (by omega), wo (by omega) (by omega)]
 ·refine ze Tryz.func99 rfl (by rw [Tryz.ntmps99]; simp) rfl rfl ?_; intro E hH hK
  (refine zi ?_; conv => whnf)
  refine zd rfl  (ziq G d) ?_
  rw [show (decide (0 <= d) && decide (d <= 36524)) = false by simp; omega]
  (refine zj ?_; conv => whnf)
  exact kI hK (by rw [zbi, if_neg hd])
abbrev ysz (r : Int × Int × Int) : SV := .tup [sI r.1, sI r.2.1, sI r.2.2]
theorem yau (y m : Nat) (hm : m < 12) (hy : y <= 99) : yb Tryz.prog G0 137 [sI (2000 + (y : Int)), sI (m : Int)] (sI (lenOf (12 * y + m))) := by
 have h := zva (2000 + (y : Int)) (m : Int) (by omega) (by omega)
 have e : lenOf (12 * y + m) = znp (2000 + (y : Int)) ((m : Int) + 1) := by
  unfold lenOf
  rw [show (12 * y + m) / 12 = y by omega, show (12 * y + m) % 12 = m by omega]
 rw [e]
 exact h
theorem yki (d : Int) : yb Tryz.prog G0 98 [sI d] (ysz (wt d)) := by
 by_cases hd : 0 <= d /\ d <= 36524
 case neg =>
  refine ze Tryz.func98 rfl (by rw [Tryz.ntmps98]; simp) rfl rfl ?_; intro E hH hK
  (refine zi ?_; conv => whnf)
  refine ydo ?_
  (refine zi ?_; conv => whnf)
  refine zd rfl  (ziq G0 d) ?_
  rw [show (decide (0 <= d) && decide (d <= 36524)) = false by simp; omega]
  rw [wt, if_neg hd] at hK
  (refine zj ?_; conv => whnf)
  exact hK _
 refine ze Tryz.func98 rfl (by rw [Tryz.ntmps98]; simp) rfl rfl ?_; intro E hH hK
 (refine zi ?_; conv => whnf)
 refine ydo ?_
 (refine zi ?_; conv => whnf)
 refine zd rfl  (ziq G0 d) ?_
 rw [show (decide (0 <= d) && decide (d <= 36524)) = true by simp [hd]]
 (refine zj ?_; conv => whnf)
 obtain ⟨q, hq⟩ : ∃ q : Nat, d / 1461 = q := ⟨(d / 1461).toNat, by omega⟩
 have hq25 : q <= 25 := by omega
 have e5 : IntKind.i64.wrap (2000 + IntKind.i64.wrap (IntKind.i64.wrap (d.tdiv 1461) * 4)) = 2000 + ((4 * q : Nat) : Int) := by
  rw [Int.tdiv_eq_ediv_of_nonneg hd.1, hq, wo (c := (q : Int)) (by omega) (by omega), wo (c := (q : Int) * 4) (by omega) (by omega), wo (by omega) (by omega)]
  omega
 have e6 : d.tmod 1461 = d - zw (12 * (4 * q)) := by
  rw [Int.tmod_eq_emod_of_nonneg hd.1, show 12 * (4 * q) = 48 * q by omega, zns q hq25]
  omega
 rw [e5, e6]
 refine ynf ?_
 (refine zi ?_; conv => whnf)
 refine zf [5, 6, 7] ?_
 refine xy (σ := Nat) (fun y => [(5, sI (2000 + (y : Int))), (6, sI (d - zw (12 * y))), (7, sI 0)]) (fun _ => []) (fun y => y <= 99 /\ zw (12 * y) <= d) (fun y => 100 - y) ?_ (4 * q) ⟨by omega, by rw [show 12 * (4 * q) = 48 * q by omega, zns q hq25]; omega⟩
 intro y ⟨hy, hle⟩ ih
 (refine zi ?_; conv => whnf)
 refine zf [5, 6, 7, 19] ?_
 refine xy (σ := Nat) (fun m => [(5, sI (2000 + (y : Int))), (6, sI (d - zw (12 * y + m))), (7, sI 0), (19, sI (m : Int))]) (fun _ => []) (fun m => m <= 12 /\ zw (12 * y + m) <= d) (fun m => 13 - m) ?_ 0 ⟨by omega, hle⟩
 intro m ⟨hm, hle2⟩ ih2
 have hst : zw (12 * y + m + 1) = zw (12 * y + m) + lenOf (12 * y + m) := rfl
 have hlr := zgb (12 * y + m)
 have hfb := zlc (12 * y + m)
 (refine zi ?_; conv => whnf)
 repeat' ((with_reducible refine way ?_ ?_) <;> (intro h; conv => whnf))
 ·refine zd rfl  (yau y m (by omega) hy) ?_
  (refine zj ?_; conv => whnf)
  repeat' ((with_reducible refine way ?_ ?_) <;> (intro h; conv => whnf))
  ·have := zle (d := d) (y := y) (m := m) (r := d - zw (12 * y + m)) hd (by omega) (by omega) (by omega) (by omega)
   rw [this] at hK
   rw [wo (c := (m : Int) + 1) (by omega) (by omega), wo (c := d - zw (12 * y + m) + 1) (by omega) (by omega)]
   exact hK _
  ·rw [wo (c := (m : Int) + 1) (by omega) (by omega), wo (c := d - zw (12 * y + m) - lenOf (12 * y + m)) (by omega) (by omega)]
   have e : d - zw (12 * y + m) - lenOf (12 * y + m) = d - zw (12 * y + (m + 1)) := by
    rw [show 12 * y + (m + 1) = 12 * y + m + 1 by omega]
    omega
   rw [e]
   refine zf [5, 6, 7, 19] ?_
   exact ih2 (m + 1) ⟨by omega, by rw [show 12 * y + (m + 1) = 12 * y + m + 1 by omega]; omega⟩ (by omega)
 ·have hm12 : m = 12 := by omega
  subst hm12
  have hlt := ygc (d := d) (y := y + 1) (m := 0) (r := d - zw (12 * y + 12)) hd.2 (by omega) (by rw [show 12 * (y + 1) + 0 = 12 * y + 12 by omega]; omega)
  rw [wo (by omega) (by omega)]
  refine zf [5, 6, 7] ?_
  have := ih (y + 1) ⟨by omega, by rw [show 12 * (y + 1) = 12 * y + 12 by omega]; exact hle2⟩ (by omega)
  rw [show 12 * (y + 1) = 12 * y + 12 by omega, show 2000 + ((y + 1 : Nat) : Int) = 2000 + (y : Int) + 1 by omega] at this
  exact this
abbrev zgh := Int × Int × Int × Int × Int
def zjo (p : zgh) (i : Int) : Int := if i = 0 then p.1 else if i = 1 then p.2.1 else if i = 2 then p.2.2.1 else if i = 3 then p.2.2.2.1 else p.2.2.2.2
theorem ykj (s : St) (i : Int) : s.part i = zjo s.p i := rfl
def Opd.tv (o : Opd) (p : zgh) (vs : List Int) : Int := if o.op = 2 then vs.getD o.n.toNat 0 else if o.op = 4 then zjo p o.n else o.n
def Cond.tru (p : zgh) (vs : List Int) : Cond -> Bool
 | .none => false
 | .plain o => !decide (o.tv p vs = 0)
 | .cmp op l r => zsh op (l.tv p vs) (r.tv p vs)
 | .neg c => !c.tru p vs
 | .conn d l r => if d = 1 then l.tru p vs || r.tru p vs else l.tru p vs && r.tru p vs
def Cond.good : Cond -> Prop
 | .none => False
 | .plain _ => True
 | .cmp _ _ _ => True
 | .neg c => c.good
 | .conn d l r => (d = 0 \/ d = 1) /\ l.good /\ r.good
def Opd.inF (F : Int -> Prop) (o : Opd) : Prop := o.op = 2 -> F o.n
def Cond.inF (F : Int -> Prop) : Cond -> Prop
 | .none => True
 | .plain o => o.inF F
 | .cmp _ l r => l.inF F /\ r.inF F
 | .neg c => c.inF F
 | .conn _ l r => l.inF F /\ r.inF F
theorem Opd.inF_mono {F F' : Int -> Prop} (h : ∀ f, F f -> F' f) {o : Opd} (ho : o.inF F) : o.inF F' := fun e => h _ (ho e)
theorem Cond.inF_mono {F F' : Int -> Prop} (h : ∀ f, F f -> F' f) : ∀ (c : Cond), c.inF F -> c.inF F'
 | .none, _ => trivial
 | .plain _, hc => Opd.inF_mono h hc
 | .cmp _ _ _, hc => ⟨Opd.inF_mono h hc.1, Opd.inF_mono h hc.2⟩
 | .neg c, hc => Cond.inF_mono h c hc
 | .conn _ l r, hc => ⟨Cond.inF_mono h l hc.1, Cond.inF_mono h r hc.2⟩
def St.part_of (s : St) (vs : List Int) : Prop := ∀ i : Nat, s.ch.getD i false = true -> s.vs.getD i 0 = vs.getD i 0
theorem ykk {s : St} {vs : List Int} (h : s.part_of vs) (o : Opd) (hk : (o.val s).2 = true) : (o.val s).1 = o.tv s.p vs := by
 unfold Opd.val Opd.tv at *
 split
 ·rename_i e
  rw [if_pos e] at hk
  exact h _ hk
 ·split
  ·exact ykj _ _
  ·rfl
theorem zax (b : Bool) : (zjn b = 0 /\ b = false) \/ (zjn b = 1 /\ b = true) := by cases b <;> simp [zjn]
theorem zmw {s : St} {vs : List Int} (h : s.part_of vs) : ∀ c : Cond, c.good -> (c.dec s = 0 /\ c.tru s.p vs = false) \/ (c.dec s = 1 /\ c.tru s.p vs = true) \/ c.dec s = 2
 | .none, hg => hg.elim
 | .plain o, _ => by
  simp only [Cond.dec, Cond.tru]
  by_cases hk : (o.val s).2 = true
  ·rw [if_pos hk, ykk h o hk]
   rcases zax (!decide (o.tv s.p vs = 0)) with e | e
   ·exact .inl e
   ·exact .inr (.inl e)
  ·rw [if_neg hk]; exact .inr (.inr rfl)
 | .cmp op l r, _ => by
  simp only [Cond.dec, Cond.tru]
  by_cases hk : ((l.val s).2 && (r.val s).2) = true
  ·rw [if_pos hk]
   simp only [Bool.and_eq_true] at hk
   rw [ykk h l hk.1, ykk h r hk.2]
   rcases zax (zsh op (l.tv s.p vs) (r.tv s.p vs)) with e | e
   ·exact .inl e
   ·exact .inr (.inl e)
  ·rw [if_neg hk]; exact .inr (.inr rfl)
 | .neg c, hg => by
  simp only [Cond.dec, Cond.tru]
  rcases zmw h c hg with ⟨e1, e2⟩ | ⟨e1, e2⟩ | e1
  ·simp [e1, e2]
  ·simp [e1, e2]
  ·simp [e1]
 | .conn d l r, hg => by
  simp only [Cond.dec, Cond.tru]
  obtain ⟨hd, h1, h2⟩ := hg
  rcases hd with rfl | rfl <;> rcases zmw h l h1 with ⟨e1, e2⟩ | ⟨e1, e2⟩ | e1 <;> rcases zmw h r h2 with ⟨e3, e4⟩ | ⟨e3, e4⟩ | e3 <;> simp_all
theorem zlk {s : St} : ∀ c : Cond, c.good -> c.inF (fun f => s.ch.getD f.toNat false = true) -> c.dec s ≠ 2
 | .none, hg, _ => hg.elim
 | .plain o, _, hf => by
  simp only [Cond.dec]
  have : (o.val s).2 = true := by
   unfold Opd.val
   split
   ·rename_i e; exact hf e
   ·split <;> rfl
  rw [if_pos this]
  rcases zax (!decide ((o.val s).1 = 0)) with e | e <;> rw [e.1] <;> omega
 | .cmp op l r, _, hf => by
  simp only [Cond.dec]
  have h1 : (l.val s).2 = true := by
   unfold Opd.val
   split
   ·rename_i e; exact hf.1 e
   ·split <;> rfl
  have h2 : (r.val s).2 = true := by
   unfold Opd.val
   split
   ·rename_i e; exact hf.2 e
   ·split <;> rfl
  rw [if_pos (by rw [h1, h2]; rfl)]
  rcases zax (zsh op (l.val s).1 (r.val s).1) with e | e <;> rw [e.1] <;> omega
 | .neg c, hg, hf => by
  simp only [Cond.dec]
  have := zlk c hg hf
  rcases zmw (s := s) (vs := s.vs) (fun _ _ => rfl) c hg with ⟨e1, _⟩ | ⟨e1, _⟩ | e1
  ·simp [e1]
  ·simp [e1]
  ·exact absurd e1 this
 | .conn d l r, hg, hf => by
  simp only [Cond.dec]
  have h1 := zlk l hg.2.1 hf.1
  have h2 := zlk r hg.2.2 hf.2
  split
  ·exact h1
  ·rw [if_pos (.inr h1)]; exact h2
theorem zet (s : St) : ∀ (l : List Cond) (r : Int), r ≠ 0 -> (zah s l r = 0 ↔ ∃ c ∈ l, c.dec s = 0)
 | [], r, h => by simp [zah, h]
 | c :: l, r, h => by
  simp only [zah]
  by_cases h0 : c.dec s = 0
  ·simp [h0]
  ·rw [if_neg h0]
   by_cases h2 : c.dec s = 2
   ·rw [if_pos h2, zet s l 2 (by omega)]
    simp [h0]
   ·rw [if_neg h2, zet s l r h]
    simp [h0]
theorem znv (s : St) (l : List Cond) : zab l s = 0 ↔ ∃ c ∈ l, c.dec s = 0 := zet s l 1 (by omega)
def yoc (conds : List Cond) (p : zgh) (vs : List Int) : Prop := ∀ c ∈ conds, c.tru p vs = true
theorem zkg {conds : List Cond} {s : St} {vs : List Int} (hg : ∀ c ∈ conds, c.good) (h : s.part_of vs) (hs : yoc conds s.p vs) : zab conds s ≠ 0 := fun h0 => by
 obtain ⟨c, hc, h1⟩ := (znv s conds).1 h0
 have := hs c hc
 rcases zmw h c (hg c hc) with ⟨_, e⟩ | ⟨e, _⟩ | e
 ·rw [e] at this; cases this
 ·omega
 ·omega
theorem yav {conds : List Cond} {s : St} {vs : List Int} (hg : ∀ c ∈ conds, c.good) (h : s.part_of vs) (hf : ∀ c ∈ conds, c.inF (fun f => s.ch.getD f.toNat false = true)) (hv : zab conds s ≠ 0) : yoc conds s.p vs := fun c hc => by
 rcases zmw h c (hg c hc) with ⟨e, _⟩ | ⟨_, e⟩ | e
 ·exact absurd ((znv s conds).2 ⟨c, hc, e⟩) hv
 ·exact e
 ·exact absurd e (zlk c (hg c hc) (hf c hc))
def zmx : List Int -> List Int -> List Int -> Bool
 | [], _, _ => false
 | f :: r, a, b => if a.getD f.toNat 0 ≠ b.getD f.toNat 0 then decide (a.getD f.toNat 0 < b.getD f.toNat 0) else zmx r a b
theorem zel {α : Type} (l : List α) (i j : Nat) (a d : α) : (l.set i a).getD j d = if i = j /\ j < l.length then a else l.getD j d := by
 rw [List.getD_eq_getElem?_getD, List.getD_eq_getElem?_getD, List.getElem?_set]
 by_cases h : i = j
 ·subst h
  by_cases h2 : i < l.length
  ·simp [h2]
  ·simp [h2, List.getElem?_eq_none (Nat.le_of_not_lt h2)]
 ·simp [h]
structure CandV (rest : List (Int × List Int)) (s : St) (v : List Int) : Prop where
 len : v.length = s.vs.length
 mem : ∀ e ∈ rest, v.getD e.1.toNat 0 ∈ e.2
 oth : ∀ i : Nat, (∀ e ∈ rest, e.1.toNat ≠ i) -> v.getD i 0 = s.vs.getD i 0
structure RestOK (conds : List Cond) (rest : List (Int × List Int)) (s : St) : Prop where
 len : s.ch.length = s.vs.length
 rng : ∀ e ∈ rest, 0 <= e.1 /\ e.1 < s.vs.length
 nd : (rest.map (·.1)).Nodup
 off : ∀ e ∈ rest, s.ch.getD e.1.toNat false = false
 inF : ∀ c ∈ conds, c.inF fun f => s.ch.getD f.toNat false = true \/ ∃ e ∈ rest, e.1 = f
 ord : ∀ e ∈ rest, e.2.Pairwise (· < ·)
theorem RestOK.put {conds : List Cond} {f : Int} {vals : List Int} {rest : List (Int × List Int)} {s : St} (h : RestOK conds ((f, vals) :: rest) s) (w : Int) : RestOK conds rest (s.put f w) := by
 have hf := h.rng (f, vals) (by simp)
 have hnd := h.nd
 simp only [List.map_cons, List.nodup_cons] at hnd
 have hne : ∀ e ∈ rest, f ≠ e.1 := fun e he eq => hnd.1 (List.mem_map.2 ⟨e, he, eq.symm⟩)
 refine ⟨by simp [St.put, h.len], fun e he => ?_, hnd.2, fun e he => ?_, fun c hc => Cond.inF_mono (fun g hg => ?_) c (h.inF c hc), fun e he => h.ord e (by simp [he])⟩
 ·have := h.rng e (by simp [he]); simpa [St.put] using this
 ·have h1 := h.rng e (by simp [he])
  have h2 := hne e he
  simp only [St.put]
  rw [zel, if_neg (by omega)]
  exact h.off e (by simp [he])
 ·rcases hg with hg | ⟨e, he, hg⟩
  ·left
   simp only [St.put]
   rw [zel]
   split
   ·rfl
   ·exact hg
  ·rcases List.mem_cons.1 he with rfl | he
   ·left
    simp only at hg
    subst hg
    simp only [St.put]
    rw [zel, if_pos ⟨rfl, by rw [h.len]; simp only at hf; omega⟩]
   ·exact .inr ⟨e, he, hg⟩
theorem CandV.cons {conds : List Cond} {f : Int} {vals : List Int} {rest : List (Int × List Int)} {s : St} (h : RestOK conds ((f, vals) :: rest) s) {v : List Int} : CandV ((f, vals) :: rest) s v ↔ ∃ w ∈ vals, v.getD f.toNat 0 = w /\ CandV rest (s.put f w) v := by
 have hf := h.rng (f, vals) (by simp)
 simp only at hf
 have hnd := h.nd
 simp only [List.map_cons, List.nodup_cons] at hnd
 constructor
 ·intro hv
  refine ⟨_, hv.mem (f, vals) (by simp), rfl, by simp [St.put, hv.len], fun e he => hv.mem e (by simp [he]), fun i hi => ?_⟩
  simp only [St.put]
  rw [zel]
  split
  ·rename_i e; rw [<- e.1]
  ·rename_i e
   refine hv.oth i fun e' he' => ?_
   rcases List.mem_cons.1 he' with rfl | he'
   ·intro eq
    simp only at eq
    exact e ⟨eq, by omega⟩
   ·exact hi e' he'
 ·rintro ⟨w, hw, he, hv⟩
  refine ⟨by simpa [St.put] using hv.len, fun e he' => ?_, fun i hi => ?_⟩
  ·rcases List.mem_cons.1 he' with rfl | he'
   ·simp only; rw [he]; exact hw
   ·exact hv.mem e he'
  ·have h1 := hv.oth i (fun e he' => hi e (by simp [he']))
   have h2 := hi (f, vals) (by simp)
   simp only [St.put] at h1
   rw [zel, if_neg (fun h => h2 h.1)] at h1
   exact h1
theorem CandV.agree {conds : List Cond} {rest : List (Int × List Int)} {s : St} (h : RestOK conds rest s) {v : List Int} (hv : CandV rest s v) : s.part_of v := fun i hi => by
 refine (hv.oth i fun e he eq => ?_).symm
 have := h.off e he
 rw [eq, hi] at this
 cases this
theorem zgi {conds : List Cond} (hg : ∀ c ∈ conds, c.good) : ∀ (rest : List (Int × List Int)) (s : St), RestOK conds rest s ->
  (∀ v, wx conds rest s = some v -> CandV rest s v /\ yoc conds s.p v /\ ∀ v', CandV rest s v' -> yoc conds s.p v' -> zmx (rest.map (·.1)) v' v = false) /\
  (wx conds rest s = none -> ∀ v', CandV rest s v' -> ¬ yoc conds s.p v')
 | [], s, h => by
  have hf : ∀ c ∈ conds, c.inF fun f => s.ch.getD f.toNat false = true := fun c hc => Cond.inF_mono (fun f hf => by rcases hf with hf | ⟨e, he, _⟩; exact hf; cases he) c (h.inF c hc)
  simp only [wx]
  by_cases h0 : zab conds s = 0
  ·rw [if_pos h0]
   refine ⟨fun v hv => (by cases hv), fun _ v' hv' hs => ?_⟩
   exact zkg hg (hv'.agree h) hs h0
  ·rw [if_neg h0]
   refine ⟨fun v hv => ?_, fun hv => by cases hv⟩
   cases hv
   have hc : CandV [] s s.vs := ⟨rfl, fun e he => (by cases he), fun _ _ => rfl⟩
   exact ⟨hc, yav hg (hc.agree h) hf h0, fun v' _ _ => rfl⟩
 | (f, vals) :: rest, s, h => by
  simp only [wx]
  by_cases h0 : zab conds s = 0
  ·rw [if_pos h0]
   refine ⟨fun v hv => (by cases hv), fun _ v' hv' hs => ?_⟩
   exact zkg hg (hv'.agree h) hs h0
  ·rw [if_neg h0]
   constructor
   ·intro v hv
    obtain ⟨pre, w, post, he, hw, hpre⟩ := List.findSome?_eq_some_iff.1 hv
    obtain ⟨h1, h2, h3⟩ := (zgi hg rest (s.put f w) (h.put w)).1 v hw
    have hwm : w ∈ vals := by rw [he]; simp
    have hvw : v.getD f.toNat 0 = w := by
     have hf := h.rng (f, vals) (by simp)
     simp only at hf
     have hnd := h.nd
     simp only [List.map_cons, List.nodup_cons] at hnd
     have := h1.oth f.toNat (fun e he eq => by
      have hr := h.rng e (by simp [he])
      exact hnd.1 (List.mem_map.2 ⟨e, he, by omega⟩))
     simp only [St.put] at this
     rw [zel, if_pos ⟨rfl, by omega⟩] at this
     exact this
    refine ⟨(CandV.cons h).2 ⟨w, hwm, hvw, h1⟩, h2, fun v' hv' hs => ?_⟩
    obtain ⟨w', hw', hvw', hc'⟩ := (CandV.cons h).1 hv'
    simp only [List.map_cons, zmx]
    by_cases e : w' = w
    ·subst e
     rw [if_neg (by rw [hvw, hvw']; simp)]
     exact h3 v' hc' hs
    ·rw [if_pos (by rw [hvw, hvw']; exact e), hvw, hvw']
     have hord := h.ord (f, vals) (by simp)
     simp only [he, List.pairwise_append, List.pairwise_cons] at hord
     rw [he] at hw'
     rcases List.mem_append.1 hw' with hp | hp
     ·exact absurd hs ((zgi hg rest (s.put f w') (h.put w')).2 (hpre w' hp) v' hc')
     ·rcases List.mem_cons.1 hp with hp | hp
      ·exact absurd hp e
      ·have := hord.2.1.1 w' hp
       simp only [decide_eq_false_iff_not]
       omega
   ·intro hv v' hv' hs
    obtain ⟨w', hw', hvw', hc'⟩ := (CandV.cons h).1 hv'
    exact (zgi hg rest (s.put f w') (h.put w')).2 ((List.findSome?_eq_none_iff.1 hv) w' hw') v' hc' hs
theorem yta (l : List Int) : ∀ b : ByteArray, (l.foldl (fun r n => r.push (UInt8.ofNat n.toNat)) b).data.toList = b.data.toList ++ l.map fun n => UInt8.ofNat n.toNat := by
 induction l with
 | nil => intro b; simp
 | cons x l ih =>
  intro b
  rw [List.foldl_cons, ih]
  simp [ByteArray.push]
theorem zhs (s : St) : ∀ c : Cond, c.dec s = 0 \/ c.dec s = 1 \/ c.dec s = 2
 | .none => .inr (.inr rfl)
 | .plain o => by
  simp only [Cond.dec]
  split
  ·rcases zax (!decide ((o.val s).1 = 0)) with e | e <;> rw [e.1] <;> omega
  ·omega
 | .cmp op l r => by
  simp only [Cond.dec]
  split
  ·rcases zax (zsh op (l.val s).1 (r.val s).1) with e | e <;> rw [e.1] <;> omega
  ·omega
 | .neg c => by
  simp only [Cond.dec]
  split
  ·omega
  ·split <;> omega
 | .conn d l r => by
  simp only [Cond.dec]
  have h1 := zhs s l
  have h2 := zhs s r
  split
  ·exact h1
  ·split
   ·exact h2
   ·omega
theorem ytb {atoms : List Cond} {s s' : St} (h : zmr atoms s = zmr atoms s') : ∀ a ∈ atoms, a.dec s = a.dec s' := by
 have h1 := congrArg (fun b : ByteArray => b.data.toList) h
 simp only [zmr, yta] at h1
 have h2 := List.append_cancel_left h1
 rw [List.map_map, List.map_map] at h2
 intro a ha
 have h3 := (List.map_inj_left.1 h2) a ha
 simp only [Function.comp] at h3
 rcases zhs s a with e | e | e <;> rcases zhs s' a with e' | e' | e' <;> rw [e, e'] at h3 ⊢ <;> first | rfl | (exact absurd h3 (by decide))
def Cond.cov (atoms : List Cond) : Cond -> Prop
 | .none => True
 | .plain o => o.op ≠ 4
 | .cmp op l r => l.op = 4 \/ r.op = 4 -> Cond.cmp op l r ∈ atoms /\ l.op ≠ 2 /\ r.op ≠ 2
 | .neg c => c.cov atoms
 | .conn _ l r => l.cov atoms /\ r.cov atoms
theorem yaw {o : Opd} (h : o.op ≠ 4) (p p' : zgh) (vs : List Int) : o.tv p vs = o.tv p' vs := by
 unfold Opd.tv
 simp [h]
theorem zir {o : Opd} (h : o.op ≠ 2) (s : St) (vs : List Int) : (o.val s).2 = true /\ (o.val s).1 = o.tv s.p vs := by
 unfold Opd.val Opd.tv
 rw [if_neg h, if_neg h]
 split
 ·exact ⟨rfl, ykj _ _⟩
 ·exact ⟨rfl, rfl⟩
theorem ygn {a b : Bool} (h : zjn a = zjn b) : a = b := by cases a <;> cases b <;> first | rfl | (exact absurd h (by decide))
theorem zvf {atoms : List Cond} {s s' : St} (h : ∀ a ∈ atoms, a.dec s = a.dec s') (vs : List Int) : ∀ c : Cond, c.cov atoms -> c.tru s.p vs = c.tru s'.p vs
 | .none, _ => rfl
 | .plain o, hc => by simp only [Cond.tru]; rw [yaw hc s.p s'.p]
 | .cmp op l r, hc => by
  simp only [Cond.tru]
  by_cases hd : l.op = 4 \/ r.op = 4
  ·obtain ⟨hm, h1, h2⟩ := hc hd
   have := h _ hm
   simp only [Cond.dec] at this
   obtain ⟨a1, a2⟩ := zir h1 s vs
   obtain ⟨b1, b2⟩ := zir h2 s vs
   obtain ⟨c1, c2⟩ := zir h1 s' vs
   obtain ⟨d1, d2⟩ := zir h2 s' vs
   rw [a1, b1, c1, d1, a2, b2, c2, d2] at this
   simp only [Bool.and_true, if_true] at this
   exact ygn this
  ·rw [yaw (fun e => hd (.inl e)) s.p s'.p, yaw (fun e => hd (.inr e)) s.p s'.p]
 | .neg c, hc => by simp only [Cond.tru]; rw [zvf h vs c hc]
 | .conn d l r, hc => by simp only [Cond.tru]; rw [zvf h vs l hc.1, zvf h vs r hc.2]
structure SrOK (s : Sr) (nf : Nat) : Prop where
 good : ∀ c ∈ s.conds, c.good
 rest : ∀ day, RestOK s.conds (zu s.cands) (st0 nf day)
 cov : ∀ c ∈ s.conds, c.cov s.atoms
abbrev zgj (s : Sr) (nf : Nat) (v : List Int) : Prop := CandV (zu s.cands) (st0 nf 0) v
abbrev zwj (s : Sr) (day : Int) (v : List Int) : Prop := yoc s.conds (xe day) v
def zht (s : Sr) : List Int := (zu s.cands).map (·.1)
theorem zll {s : Sr} {nf : Nat} {v : List Int} (day : Int) : zgj s nf v ↔ CandV (zu s.cands) (st0 nf day) v := ⟨fun h => ⟨h.len, h.mem, h.oth⟩, fun h => ⟨h.len, h.mem, h.oth⟩⟩
theorem ztb {s : Sr} {nf : Nat} (hs : SrOK s nf) : ∀ (n : Nat) (day : Int) (failed : List ByteArray),
  (∀ g ∈ failed, ∃ d, zmr s.atoms (st0 nf d) = g /\ ∀ v, zgj s nf v -> ¬ zwj s d v) ->
  (∀ d v, zcd s nf n day failed = some (d, v) -> day <= d /\ d < day + n /\ zgj s nf v /\ zwj s d v /\ (∀ d' v', day <= d' -> d' < d -> zgj s nf v' -> ¬ zwj s d' v') /\ ∀ v', zgj s nf v' -> zwj s d v' -> zmx (zht s) v' v = false) /\
  (zcd s nf n day failed = none -> ∀ d v, day <= d -> d < day + n -> zgj s nf v -> ¬ zwj s d v)
 | 0, day, failed, _ => ⟨fun d v h => by simp [zcd] at h, fun _ d v h1 h2 => by omega⟩
 | n + 1, day, failed, hf => by
  have skip : (∀ v, zgj s nf v -> ¬ zwj s day v) -> ∀ failed', (∀ g ∈ failed', ∃ d, zmr s.atoms (st0 nf d) = g /\ ∀ v, zgj s nf v -> ¬ zwj s d v) -> zcd s nf (n + 1) day failed = zcd s nf n (day + 1) failed' ->
    (∀ d v, zcd s nf (n + 1) day failed = some (d, v) -> day <= d /\ d < day + ((n + 1 : Nat) : Int) /\ zgj s nf v /\ zwj s d v /\ (∀ d' v', day <= d' -> d' < d -> zgj s nf v' -> ¬ zwj s d' v') /\ ∀ v', zgj s nf v' -> zwj s d v' -> zmx (zht s) v' v = false) /\
    (zcd s nf (n + 1) day failed = none -> ∀ d v, day <= d -> d < day + ((n + 1 : Nat) : Int) -> zgj s nf v -> ¬ zwj s d v) := by
   intro h0 failed' hf' e
   rw [e]
   obtain ⟨h1, h2⟩ := ztb hs n (day + 1) failed' hf'
   refine ⟨fun d v hv => ?_, fun hv d v g1 g2 g3 => ?_⟩
   ·obtain ⟨a1, a2, a3, a4, a5, a6⟩ := h1 d v hv
    refine ⟨by omega, by omega, a3, a4, fun d' v' g1 g2 g3 => ?_, a6⟩
    by_cases e : d' = day
    ·subst e; exact h0 v' g3
    ·exact a5 d' v' (by omega) g2 g3
   ·by_cases e : d = day
    ·subst e; exact h0 v g3
    ·exact h2 hv d v (by omega) (by omega) g3
  by_cases h0 : zab s.conds (st0 nf day) = 0
  ·exact skip (fun v hv hsat => zkg hs.good (((zll day).1 hv).agree (hs.rest day)) hsat h0) failed hf (by simp only [zcd]; rw [if_pos h0])
  ·by_cases h1 : zmr s.atoms (st0 nf day) ∈ failed
   ·refine skip (fun v hv hsat => ?_) failed hf (by simp only [zcd]; rw [if_neg h0, if_pos h1])
    obtain ⟨d, hd, hno⟩ := hf _ h1
    have he := ytb hd
    refine hno v hv fun c hc => ?_
    have := zvf he v c (hs.cov c hc)
    exact this.trans (hsat c hc)
   ·obtain ⟨g1, g2⟩ := zgi hs.good (zu s.cands) (st0 nf day) (hs.rest day)
    cases ha : wx s.conds (zu s.cands) (st0 nf day) with
    | some vs =>
     have e : zcd s nf (n + 1) day failed = some (day, vs) := by simp only [zcd]; rw [if_neg h0, if_neg h1, ha]
     rw [e]
     refine ⟨fun d v hv => ?_, fun hv => by cases hv⟩
     cases hv
     obtain ⟨a1, a2, a3⟩ := g1 vs ha
     exact ⟨Int.le_refl _, by omega, (zll day).2 a1, a2, fun d' v' b1 b2 => by omega, fun v' hv' hsat => a3 v' ((zll day).1 hv') hsat⟩
    | none =>
     have hno : ∀ v, zgj s nf v -> ¬ zwj s day v := fun v hv => g2 ha v ((zll day).1 hv)
     refine skip hno (failed ++ [zmr s.atoms (st0 nf day)]) (fun g hg => ?_) (by simp only [zcd]; rw [if_neg h0, if_neg h1, ha])
     rcases List.mem_append.1 hg with hg | hg
     ·exact hf g hg
     ·simp only [List.mem_singleton] at hg
      exact ⟨day, hg.symm, hno⟩
theorem zmy {m : Nat} (h : m + 48 <= 1200) : zw (m + 48) = zw m + 1461 := by
 rw [<- zlb (m + 48) h, <- zlb m (by omega)]
 unfold zvb
 have e1 : (m + 48) / 12 = m / 12 + 4 := by omega
 have e2 : (m + 48) % 12 = m % 12 := by omega
 have e3 : (m / 12 + 4) % 4 = m / 12 % 4 := by omega
 rw [e1, e2, e3]
 generalize (if 1 < m % 12 /\ m / 12 % 4 = 0 then (1 : Int) else 0) = q
 omega
theorem ydq {d : Int} (h0 : 0 <= d) : ∀ {N : Nat}, d < zw N -> ∃ M, M < N /\ zw M <= d /\ d < zw (M + 1)
 | 0, h => by simp [zw] at h; omega
 | N + 1, h => by
  rcases Int.lt_or_le d (zw N) with h1 | h1
  ·obtain ⟨M, g1, g2, g3⟩ := ydq h0 h1
   exact ⟨M, by omega, g2, g3⟩
  ·exact ⟨N, by omega, h1, h⟩
theorem yax {d : Int} (h : 0 <= d /\ d <= 36524) : ∃ M : Nat, M < 1200 /\ zw M <= d /\ d < zw (M + 1) /\ wt d = (2000 + ((M / 12 : Nat) : Int), ((M % 12 : Nat) : Int) + 1, d - zw M + 1) := by
 obtain ⟨M, h1, h2, h3⟩ := ydq h.1 (N := 1200) (by rw [zek]; omega)
 refine ⟨M, h1, h2, h3, ?_⟩
 have h4 : zw (M + 1) = zw M + lenOf M := rfl
 have e : 12 * (M / 12) + M % 12 = M := by omega
 exact zle (y := M / 12) (m := M % 12) (r := d - zw M) h (by omega) (by omega) (by rw [e]; omega) (by rw [e]; omega)
theorem ykl {d : Int} (h : 0 <= d /\ d + 1461 <= 36524) : (wt (d + 1461)).2 = (wt d).2 := by
 obtain ⟨M, h1, h2, h3, e⟩ := yax (d := d) (by omega)
 have hM : M + 48 < 1200 := by
  rcases Nat.lt_or_ge (M + 48) 1200 with h' | h'
  ·exact h'
  ·have := zmy (m := 1152) (by omega)
   have h5 := zdn (m := 1152) (n := M) (by omega)
   rw [show 1152 + 48 = 1200 by omega, zek] at this
   omega
 have a1 := zmy (m := M) (by omega)
 have a2 := zmy (m := M + 1) (by omega)
 have h4 : zw (M + 1) = zw M + lenOf M := rfl
 have h5 : zw (M + 48 + 1) = zw (M + 48) + lenOf (M + 48) := rfl
 have h6 : M + 1 + 48 = M + 48 + 1 := by omega
 rw [h6] at a2
 have := zle (d := d + 1461) (y := (M + 48) / 12) (m := (M + 48) % 12) (r := d - zw M) (by omega) (by omega) (by omega) (by rw [show 12 * ((M + 48) / 12) + (M + 48) % 12 = M + 48 by omega]; omega) (by rw [show 12 * ((M + 48) / 12) + (M + 48) % 12 = M + 48 by omega]; omega)
 rw [this, e, show (M + 48) % 12 = M % 12 by omega]
theorem ytc {d : Int} (h : 0 <= d /\ d + 7 <= 36524) : zbi (d + 7) = zbi d := by
 unfold zbi
 rw [if_pos (by omega), if_pos (by omega), Int.tmod_eq_emod_of_nonneg (by omega), Int.tmod_eq_emod_of_nonneg (by omega)]
 omega
theorem zvg {d : Int} (h0 : 0 <= d) : ∀ k : Nat, d + 7 * k <= 36524 -> zbi (d + 7 * k) = zbi d
 | 0, _ => by simp
 | k + 1, h => by
  rw [<- zvg h0 k (by omega), <- ytc (d := d + 7 * k) (by omega)]
  congr 1
  omega
theorem ydr {d : Int} (h0 : 0 <= d) : ∀ k : Nat, d + 1461 * k <= 36524 -> (wt (d + 1461 * k)).2 = (wt d).2
 | 0, _ => by simp
 | k + 1, h => by
  rw [<- ydr h0 k (by omega), <- ykl (d := d + 1461 * k) (by omega)]
  congr 2
  omega
def zqt (d : List Bool) (p p' : zgh) : Prop := ∀ i : Int, 1 <= i -> i <= 4 -> d.getD i.toNat false = true -> zjo p i = zjo p' i
def Opd.dateIn (d : List Bool) (o : Opd) : Prop := o.op = 4 -> 1 <= o.n /\ o.n <= 4 /\ d.getD o.n.toNat false = true
def Cond.dateIn (d : List Bool) : Cond -> Prop
 | .none => True
 | .plain o => o.dateIn d
 | .cmp _ l r => l.dateIn d /\ r.dateIn d
 | .neg c => c.dateIn d
 | .conn _ l r => l.dateIn d /\ r.dateIn d
theorem yay {d : List Bool} {p p' : zgh} (h : zqt d p p') {o : Opd} (ho : o.dateIn d) (vs : List Int) : o.tv p vs = o.tv p' vs := by
 unfold Opd.tv
 split
 ·rfl
 ·split
  ·rename_i e
   obtain ⟨h1, h2, h3⟩ := ho e
   exact h _ h1 h2 h3
  ·rfl
theorem zov {d : List Bool} {p p' : zgh} (h : zqt d p p') (vs : List Int) : ∀ c : Cond, c.dateIn d -> c.tru p vs = c.tru p' vs
 | .none, _ => rfl
 | .plain o, hc => by simp only [Cond.tru]; rw [yay h hc]
 | .cmp op l r, hc => by simp only [Cond.tru]; rw [yay h hc.1, yay h hc.2]
 | .neg c, hc => by simp only [Cond.tru]; rw [zov h vs c hc]
 | .conn _ l r, hc => by simp only [Cond.tru]; rw [zov h vs l hc.1, zov h vs r hc.2]
theorem zow (d : Int) : zjo (xe d) 1 = zbi d := rfl
theorem yds (d : Int) : zjo (xe d) 2 = (wt d).2.2 := rfl
theorem ydt (d : Int) : zjo (xe d) 3 = (wt d).2.1 := rfl
theorem ygo {fl : List Bool} {a : Int} (h0 : 0 <= a) (k : Nat) (h : a + yq fl * k <= 36524) : zqt fl (xe (a + yq fl * k)) (xe a) := by
 intro i h1 h4 hi
 have hc : i = 1 \/ i = 2 \/ i = 3 \/ i = 4 := by omega
 unfold yq at h ⊢
 by_cases h4' : fl.getD 4 false = true
 ·rw [if_pos h4'] at h ⊢
  have : k = 0 := by omega
  subst this
  simp
 rw [if_neg h4'] at h ⊢
 have hc' : i = 1 \/ i = 2 \/ i = 3 := by
  rcases hc with rfl | rfl | rfl | rfl
  ·omega
  ·omega
  ·omega
  ·exact absurd hi h4'
 have md : ∀ q : Nat, a + 1461 * q <= 36524 -> (i = 2 \/ i = 3) -> zjo (xe (a + 1461 * q)) i = zjo (xe a) i := by
  intro q hq hi
  have := ydr h0 q hq
  rcases hi with rfl | rfl
  ·rw [yds, yds, this]
  ·rw [ydt, ydt, this]
 by_cases h12 : (fl.getD 1 false && (fl.getD 2 false || fl.getD 3 false)) = true
 ·rw [if_pos h12] at h ⊢
  rcases hc' with rfl | hc'
  ·rw [zow, zow]
   have := zvg h0 (1461 * k) (by omega)
   rw [<- this]
   congr 1
   omega
  ·have := md (7 * k) (by omega) hc'
   rw [<- this]
   congr 2
   omega
 rw [if_neg h12] at h ⊢
 by_cases h23 : (fl.getD 2 false || fl.getD 3 false) = true
 ·rw [if_pos h23] at h ⊢
  rcases hc' with rfl | hc'
  ·exfalso
   have h1' : fl.getD 1 false = true := hi
   rw [h1', h23] at h12
   exact h12 rfl
  ·exact md k h hc'
 rw [if_neg h23] at h ⊢
 by_cases h1' : fl.getD 1 false = true
 ·rw [if_pos h1'] at h ⊢
  rcases hc' with rfl | hc'
  ·rw [zow, zow]
   exact zvg h0 k h
  ·exfalso
   rcases hc' with rfl | rfl
   ·exact h23 (by rw [show fl.getD 2 false = true from hi]; rfl)
   ·exact h23 (by rw [show fl.getD 3 false = true from hi]; simp)
 ·exfalso
  rcases hc' with rfl | rfl | rfl
  ·exact h1' hi
  ·exact h23 (by rw [show fl.getD 2 false = true from hi]; rfl)
  ·exact h23 (by rw [show fl.getD 3 false = true from hi]; simp)
theorem zkh (fl : List Bool) : 1 <= yq fl := by
 unfold yq
 split
 ·omega
 ·split
  ·omega
  ·split
   ·omega
   ·split <;> omega
theorem ykm {s : Sr} {nf : Nat} (hs : SrOK s nf) (hd : ∀ c ∈ s.conds, c.dateIn s.dates) {lo hi : Int} (h0 : 0 <= lo) (h1 : hi <= 36525) :
  (∀ d v, zcd s nf (min hi (lo + yq s.dates) - lo).toNat lo [] = some (d, v) -> lo <= d /\ d < hi /\ zgj s nf v /\ zwj s d v /\ ∀ d' v', lo <= d' -> d' < hi -> zgj s nf v' -> zwj s d' v' -> d <= d' /\ (d = d' -> zmx (zht s) v' v = false)) /\
  (zcd s nf (min hi (lo + yq s.dates) - lo).toNat lo [] = none -> ∀ d v, lo <= d -> d < hi -> zgj s nf v -> ¬ zwj s d v) := by
 have hp := zkh s.dates
 obtain ⟨g1, g2⟩ := ztb hs (min hi (lo + yq s.dates) - lo).toNat lo [] (fun g hg => by cases hg)
 have back : ∀ d v, lo <= d -> d < hi -> zwj s d v -> ∃ d', lo <= d' /\ d' <= d /\ d' < min hi (lo + yq s.dates) /\ zwj s d' v := by
  intro d v hd1 hd2 hsat
  generalize hH : yq s.dates = H at *
  have hm := Int.emod_def (d - lo) H
  have hr0 := Int.emod_nonneg (d - lo) (show H ≠ 0 by omega)
  have hr1 := Int.emod_lt_of_pos (d - lo) (show 0 < H by omega)
  have hq : 0 <= (d - lo) / H := Int.ediv_nonneg (by omega) (by omega)
  obtain ⟨k, hk⟩ : ∃ k : Nat, (d - lo) / H = k := ⟨((d - lo) / H).toNat, by omega⟩
  rw [hk] at hm
  have hle : 0 <= H * (k : Int) := Int.mul_nonneg (by omega) (by omega)
  have e : d = lo + (d - lo) % H + H * k := by omega
  refine ⟨lo + (d - lo) % H, by omega, by omega, by omega, fun c hc => ?_⟩
  have hb := ygo (fl := s.dates) (a := lo + (d - lo) % H) (by omega) k (by rw [hH]; omega)
  rw [hH, <- e] at hb
  rw [<- zov hb v c (hd c hc)]
  exact hsat c hc
 constructor
 ·intro d v hv
  obtain ⟨a1, a2, a3, a4, a5, a6⟩ := g1 d v hv
  refine ⟨a1, by omega, a3, a4, fun d' v' b1 b2 b3 b4 => ?_⟩
  obtain ⟨d2, c1, c2, c3, c4⟩ := back d' v' b1 b2 b4
  have hle : d <= d2 := by
   rcases Int.lt_or_le d2 d with h | h
   ·exact absurd c4 (a5 d2 v' c1 h b3)
   ·exact h
  refine ⟨by omega, fun e => ?_⟩
  have : d2 = d := by omega
  subst this
  exact a6 v' b3 c4
 ·intro hv d v b1 b2 b3 b4
  obtain ⟨d2, c1, c2, c3, c4⟩ := back d v b1 b2 b4
  exact g2 hv d2 v c1 (by omega) b3 c4
theorem ykn {d : Int} (h : 1 <= d /\ d <= 36524) (hlt : (wt (d - 1)).2.2 < 28) : wt d = ((wt (d - 1)).1, (wt (d - 1)).2.1, (wt (d - 1)).2.2 + 1) := by
 obtain ⟨M, h1, h2, h3, e⟩ := yax (d := d - 1) (by omega)
 rw [e] at hlt ⊢
 simp only at hlt ⊢
 have hr := zgb M
 have := zle (d := d) (y := M / 12) (m := M % 12) (r := d - zw M) (by omega) (by omega) (by omega) (by rw [show 12 * (M / 12) + M % 12 = M by omega]; omega) (by rw [show 12 * (M / 12) + M % 12 = M by omega]; omega)
 rw [this]
 congr 2
 omega
theorem yko {d : Int} (h : 1 <= d /\ d <= 36524) : zbi d = (zbi (d - 1)).tmod 7 + 1 := by
 unfold zbi
 rw [if_pos (by omega), if_pos (by omega), Int.tmod_eq_emod_of_nonneg (a := d + 5) (by omega), Int.tmod_eq_emod_of_nonneg (a := d - 1 + 5) (by omega), Int.tmod_eq_emod_of_nonneg (by omega)]
 omega
theorem yod {d : Int} (h : 0 <= d /\ d <= 36524) : 2000 <= (wt d).1 /\ (wt d).1 <= 2099 /\ 1 <= (wt d).2.1 /\ (wt d).2.1 <= 12 /\ 1 <= (wt d).2.2 /\ (wt d).2.2 <= 31 := by
 obtain ⟨M, h1, h2, h3, e⟩ := yax h
 rw [e]
 simp only
 have hr := zgb M
 have hst : zw (M + 1) = zw M + lenOf M := rfl
 omega
theorem yoe {d : Int} (h : 0 <= d /\ d <= 36524) : 1 <= zbi d /\ zbi d <= 7 := by
 unfold zbi
 rw [if_pos h, Int.tmod_eq_emod_of_nonneg (by omega)]
 omega
def WHL (X : Nat -> SObj) (p0 p1 p2 p3 p4 : Int) (ch : List Bool) (vs : List Int) : List SObj :=
  [X 0, X 1, X 2, X 3, X 4, X 5, X 6, X 7, X 8, X 9, X 10, X 11, X 12, X 13, X 14, X 15, X 16, X 17, X 18, X 19, X 20, .cells (ch.map bvS), .cells (vs.map ivS),
   .cells [ivS p0, ivS p1, ivS p2, ivS p3, ivS p4, .osl 21 0 ch.length, .osl 22 0 vs.length]]
theorem ytd (X : Nat -> SObj) (p0 p1 p2 p3 p4 : Int) (ch : List Bool) (vs : List Int) : WH X ⟨(p0, p1, p2, p3, p4), ch, vs⟩ = WHL X p0 p1 p2 p3 p4 ch vs := rfl
theorem zlm {X : Nat -> SObj} (hX : ∀ i, (X i).under 24 = true) (p0 p1 p2 p3 p4 : Int) (ch : List Bool) (vs : List Int) (day : Int) (hp : p4 = 0 \/ 28 <= p2) :
  SPre Tryz.prog G0 68 [.ptr 23 0, sI day] (WH X ⟨(p0, p1, p2, p3, p4), ch, vs⟩) (fun r H' => r = .tup [] /\ H' = WH X ⟨xe day, ch, vs⟩) := by
 refine zbl hX Tryz.func68 rfl (by rw [Tryz.ntmps68]; simp) rfl ?_; intro E hH hK
 rw [ytd]
 (refine zh ?_; conv => whnf)
 repeat' ((with_reducible refine way ?_ ?_) <;> (intro h; conv => whnf))
 all_goals try (exfalso; omega)
 all_goals refine zd rfl  (yki day) ?_
 all_goals (refine za ?_; conv => whnf)
 all_goals refine zd rfl  (zyd G0 day) ?_
 all_goals (refine za ?_; conv => whnf)
 all_goals exact hK (.tup []) [] ⟨xe day, ch, vs⟩ rfl ⟨rfl, rfl⟩
theorem zye {X : Nat -> SObj} (hX : ∀ i, (X i).under 24 = true) (p0 p1 p2 p3 p4 : Int) (ch : List Bool) (vs : List Int) (day : Int) (hp : 0 < p4 /\ p2 < 28) (h1 : 1 <= p1 /\ p1 <= 7) (h2 : 0 <= p2) :
  SPre Tryz.prog G0 68 [.ptr 23 0, sI day] (WH X ⟨(p0, p1, p2, p3, p4), ch, vs⟩) (fun r H' => r = .tup [] /\ H' = WH X ⟨(p0, p1.tmod 7 + 1, p2 + 1, p3, p4), ch, vs⟩) := by
 refine zbl hX Tryz.func68 rfl (by rw [Tryz.ntmps68]; simp) rfl ?_; intro E hH hK
 rw [ytd]
 (refine zh ?_; conv => whnf)
 repeat' ((with_reducible refine way ?_ ?_) <;> (intro h; conv => whnf))
 all_goals try (exfalso; omega)
 (refine ya 0 mixed rfl ?_; refine zc [777] (nx := 24) ?_; conv => whnf)
 (refine zh ?_; conv => whnf)
 (refine ya 0 mixed rfl ?_; refine zc [777] (nx := 24) ?_; conv => whnf)
 (refine zh ?_; conv => whnf)
 have e1 : IntKind.i64.wrap (p2 + 1) = p2 + 1 := wo (by omega) (by omega)
 have e2 : IntKind.i64.wrap (p1.tmod 7 + 1) = p1.tmod 7 + 1 := by
  have := Int.tmod_eq_emod_of_nonneg (a := p1) (b := 7) (by omega)
  rw [this]
  exact wo (by omega) (by omega)
 have := hK (.tup []) [] ⟨(p0, IntKind.i64.wrap (p1.tmod 7 + 1), IntKind.i64.wrap (p2 + 1), p3, p4), ch, vs⟩ rfl ⟨rfl, by rw [e1, e2]⟩
 exact this
theorem zyf {X : Nat -> SObj} (hX : ∀ i, (X i).under 24 = true) (s : St) (day : Int) (hd : 0 <= day /\ day <= 36524) (hp : s.p = (0, 0, 0, 0, 0) \/ (1 <= day /\ s.p = xe (day - 1))) :
  SPre Tryz.prog G0 68 [.ptr 23 0, sI day] (WH X s) (fun r H' => r = .tup [] /\ H' = WH X ⟨xe day, s.ch, s.vs⟩) := by
 obtain ⟨p, ch, vs⟩ := s
 simp only at hp
 rcases hp with rfl | ⟨h1, rfl⟩
 ·exact zlm hX 0 0 0 0 0 ch vs day (.inl rfl)
 ·have hw := yoe (d := day - 1) (by omega)
  have hr := yod (d := day - 1) (by omega)
  by_cases h28 : (wt (day - 1)).2.2 < 28
  ·have hn := ykn (d := day) ⟨h1, hd.2⟩ h28
   have hnw := yko (d := day) ⟨h1, hd.2⟩
   have := zye hX 0 (zbi (day - 1)) (wt (day - 1)).2.2 (wt (day - 1)).2.1 (wt (day - 1)).1 ch vs day ⟨by omega, h28⟩ hw (by omega)
   refine this.mono fun r H1 ⟨e1, e2⟩ => ⟨e1, ?_⟩
   rw [e2, <- hnw]
   unfold xe
   rw [hn]
  ·exact zlm hX 0 (zbi (day - 1)) (wt (day - 1)).2.2 (wt (day - 1)).2.1 (wt (day - 1)).1 ch vs day (.inr (by omega))
abbrev yS (n : Int) : SV := .imm (.val (.int .u8 n))
theorem yte {n : Int} (h : n = 0 \/ n = 1 \/ n = 2) : IntKind.u8.wrap (IntKind.i64.wrap (48 + n)) = 48 + n := by
 rcases h with rfl | rfl | rfl <;> rfl
theorem zsj {Y : Nat -> SObj} (hY : ∀ i, (Y i).under 24 = true) (c : Codex) (vers : List Int) (q : Sr) (s : St) (hl : s.ch.length = s.vs.length) (hc : ∀ x ∈ q.atoms, x.ok s.vs.length /\ ∃ op l r, x = .cmp op l r) (hsz : q.atoms.length <= 1073741824) :
  SPre Tryz.prog G 70 [.ptr 2 0, .ptr 23 0] (WH (XS Y (zx c vers q)) s) (fun r H' => r = sS (zmr q.atoms s) /\ H' = WH (XS Y (zx c vers q)) s) := by
 have hX := zdl hY c vers q
 have hll : (q.atoms.map Cond.row).length = q.atoms.length := by simp
 refine zbl hX Tryz.func70 rfl (by rw [Tryz.ntmps70]; simp) rfl ?_; intro E hH hK
 (refine zh ?_; conv => whnf)
 refine yke (n := q.atoms.length) (zz := yS 0) rfl rfl rfl rfl rfl rfl rfl rfl rfl ⟨by decide, rfl⟩ rfl (by rw [hll]) (by rw [hll]) hsz ?_
 (refine za ?_; conv => whnf)
 refine zf [0, 1, 5, 17, 18, 19] ?_
 rw [show List.replicate q.atoms.length (yS 0) = ([] : List Cond).map (fun a => yS (48 + a.dec s)) ++ List.replicate q.atoms.length (yS 0) from rfl]
 refine zt q.atoms (fun i (_ : List Cond × Nat) => [(0, .ptr 2 0), (1, .ptr 23 0), (5, .osl 24 0 q.atoms.length), (17, .asl 16 5 (q.atoms.map Cond.row)), (18, ivS (q.atoms.map Cond.row).length), (19, ivS i)])
  (fun _ d => WH (XS Y (zx c vers q)) s ++ [.cells (d.1.map (fun a => yS (48 + a.dec s)) ++ List.replicate d.2 (yS 0))]) (fun done rest d => d = (done, rest.length)) ([], q.atoms.length) rfl ?_ ?_
 ·rintro _ rfl
  (refine zh ?_; conv => whnf)
  repeat' ((with_reducible refine way ?_ ?_) <;> (intro h; conv => whnf))
  all_goals try (exfalso; omega)
  refine ykc (ns := q.atoms.map fun a => 48 + a.dec s) rfl rfl rfl rfl (by show some (SObj.cells (q.atoms.map (fun a => yS (48 + a.dec s)) ++ [])) = _; rw [List.append_nil, List.map_map]; rfl) (by simp) rfl rfl rfl ?_
  (refine za ?_; conv => whnf)
  exact hK (sS _) [_] s rfl ⟨rfl, rfl⟩
 ·rintro done x rest _ ha hlen rfl ih
  have hw := zm (n := done.length) (by omega)
  obtain ⟨hx, op, l, r, rfl⟩ := hc x (by rw [ha]; simp)
  have hrow : (q.atoms.map Cond.row)[((done.length : Nat) : Int).toNat]? = some (Cond.row (.cmp op l r)) := by simp [ha]
  have hdx := zlj G hX s hl _ hx
  (refine zh ?_; conv => whnf)
  repeat' ((with_reducible refine way ?_ ?_) <;> (intro h; conv => whnf))
  all_goals try (exfalso; omega)
  refine zg rfl rfl  hrow ?_
  (refine za ?_; conv => whnf)
  refine ys 24 rfl rfl rfl rfl rfl rfl hdx ?_
  intro r1 H1 hr _
  obtain ⟨rfl, rfl⟩ := hr
  (refine za ?_; conv => whnf)
  rw [yte (zhs s _)]
  refine zge (i := done.length) rfl rfl rfl rfl rfl rfl rfl rfl (by omega) ?_
  refine jo (d := done.map fun a => yS (48 + a.dec s)) (zz := yS 0) (r := List.replicate rest.length (yS 0)) (v := yS (48 + Cond.dec s (.cmp op l r))) rfl rfl rfl rfl rfl rfl rfl rfl rfl (by show 0 + done.length * 1 = _; simp) ?_
  (refine za ?_; conv => whnf)
  rw [hw]
  have := ih (done ++ [.cmp op l r], rest.length) rfl
  simp only [List.map_append, List.map_cons, List.map_nil, List.append_assoc, List.cons_append, List.nil_append] at this
  refine yr [0, 1, 5, 17, 18, 19] 25 (by omega) (by simp [WH]) rfl ?_ this
  show (WH (XS Y (zx c vers q)) s ++ [SObj.cells (done.map (fun a => yS (48 + a.dec s)) ++ yS (48 + Cond.dec s (.cmp op l r)) :: List.replicate rest.length (yS 0))]).all (SObj.under 25) = true
  rw [List.all_append, yz (by omega) (zbk hX s)]
  simp only [List.all_cons, List.all_nil, Bool.and_true, Bool.true_and, zyc]
  exact zke _ _ _ (jz (f := fun a : Cond => yS (48 + a.dec s)) (fun _ => rfl) _) (by simp only [SV.under.allUnder, zhq 25 (zz := yS 0) rfl]; rfl)
theorem zyg {Y : Nat -> SObj} (hY : ∀ i, (Y i).under 24 = true) (c : Codex) (vers : List Int) (q : Sr) (s : St) :
  SPre Tryz.prog G 97 [.ptr 2 0] (WH (XS Y (zx c vers q)) s) (fun r H' => r = sI (yq q.dates) /\ H' = WH (XS Y (zx c vers q)) s) := by
 have hX := zdl hY c vers q
 refine zbl hX Tryz.func97 rfl (by rw [Tryz.ntmps97]; simp) rfl ?_; intro E hH hK
 have hz : yq q.dates = if q.dates.getD 4 false then 36525 else if q.dates.getD 1 false && (q.dates.getD 2 false || q.dates.getD 3 false) then 10227 else if q.dates.getD 2 false || q.dates.getD 3 false then 1461 else if q.dates.getD 1 false then 7 else 1 := rfl
 rw [hz] at hK
 generalize hcs : zx c vers q = cs at hK ⊢
 unfold zx at hcs
 generalize q.dates.getD 0 false = d0 at hcs
 generalize q.dates.getD 1 false = d1 at hK hcs
 generalize q.dates.getD 2 false = d2 at hK hcs
 generalize q.dates.getD 3 false = d3 at hK hcs
 generalize q.dates.getD 4 false = d4 at hK hcs
 subst hcs
 cases d1 <;> cases d2 <;> cases d3 <;> cases d4 <;> ((refine zh ?_; conv => whnf)) <;> exact hK (sI _) [] s rfl ⟨rfl, rfl⟩
abbrev js (c : Codex) (r : Int × Int) (v : Int) : Int × Int := match qf c v with | some a => (max r.1 a.lo, min r.2 a.hi) | none => r
def ykp (c : Codex) : Prop := ∀ a ∈ c.arts, 0 <= a.lo /\ a.lo <= 36525 /\ 0 <= a.hi /\ a.hi <= 36525
theorem zfh {c : Codex} {v : Int} {a : Article} (h : qf c v = some a) : a ∈ c.arts := by
 obtain ⟨j, _, h2⟩ := zlf h
 exact List.mem_of_getElem? h2
theorem zyh {c : Codex} (hd : ykp c) : ∀ (vs : List Int) (r : Int × Int), 0 <= r.1 /\ r.1 <= 36525 /\ 0 <= r.2 /\ r.2 <= 36525 -> 0 <= (vs.foldl (js c) r).1 /\ (vs.foldl (js c) r).1 <= 36525 /\ 0 <= (vs.foldl (js c) r).2 /\ (vs.foldl (js c) r).2 <= 36525
 | [], r, h => h
 | v :: vs, r, h => by
  rw [List.foldl_cons]
  refine zyh hd vs _ ?_
  unfold js
  split
  ·rename_i a ha
   have := hd a (zfh ha)
   simp only
   omega
  ·exact h
theorem ygp {Y : Nat -> SObj} (hY : ∀ i, (Y i).under 24 = true) (c : Codex) (vers : List Int) (q : Sr) (s : St) (hd : ykp c) (hv : ∀ v ∈ vers, 0 <= v /\ v < c.arts.length) (hsz : vers.length <= 1073741824) :
  SPre Tryz.prog G 67 [.ptr 2 0] (WH (XS Y (zx c vers q)) s) (fun r H' => r = .tup [sI (yj c vers).1, sI (min (yj c vers).2 ((yj c vers).1 + yq q.dates))] /\ H' = WH (XS Y (zx c vers q)) s) := by
 have hX := zdl hY c vers q
 have hll : (vers.map fun n => [dI n]).length = vers.length := by simp
 have hhor : yq q.dates <= 36525 /\ 0 <= yq q.dates := by
  have := zkh q.dates
  unfold yq at *
  split <;> (try split) <;> (try split) <;> (try split) <;> simp_all
 refine zbl hX Tryz.func67 rfl (by rw [Tryz.ntmps67]; simp) rfl ?_; intro E hH hK
 (refine zh ?_; conv => whnf)
 refine zf [0, 4, 5, 11, 12, 13] ?_
 refine zt vers (fun i (r : Int × Int) => [(0, .ptr 2 0), (4, sI r.1), (5, sI r.2), (11, .imm (dInts vers)), (12, ivS (vers.map fun n => [dI n]).length), (13, ivS i)])
  (fun _ _ => WH (XS Y (zx c vers q)) s) (fun _ rest r => yj c vers = rest.foldl (js c) r /\ 0 <= r.1 /\ r.1 <= 36525 /\ 0 <= r.2 /\ r.2 <= 36525) (0, 36525) ⟨rfl, by decide⟩ ?_ ?_
 ·rintro ⟨r1, r2⟩ ⟨h1, hr⟩
  simp only [List.foldl_nil] at h1 hr
  rw [h1] at hK
  (refine zh ?_; conv => whnf)
  repeat' ((with_reducible refine way ?_ ?_) <;> (intro h; conv => whnf))
  all_goals try (exfalso; omega)
  refine ys 24 rfl rfl rfl rfl rfl rfl (zyg G hY c vers q s) ?_
  intro r3 H1 h3 _
  obtain ⟨rfl, rfl⟩ := h3
  (refine za ?_; conv => whnf)
  have e : (if IntKind.i64.wrap (r1 + yq q.dates) < r2 then IntKind.i64.wrap (r1 + yq q.dates) else r2) = min r2 (r1 + yq q.dates) := by
   rw [wo (by omega) (by omega)]
   omega
  exact hK (.tup [sI r1, sI (if IntKind.i64.wrap (r1 + yq q.dates) < r2 then IntKind.i64.wrap (r1 + yq q.dates) else r2)]) [] s rfl ⟨by rw [e], rfl⟩
 ·rintro done v rest ⟨r1, r2⟩ ha hlen ⟨h1, hr⟩ ih
  have hw := zm (n := done.length) (by omega)
  have hvr := hv v (by rw [ha]; simp)
  obtain ⟨a, haa⟩ : ∃ a, qf c v = some a := by
   refine ⟨c.arts[v.toNat]'(by omega), ?_⟩
   unfold qf
   rw [if_neg (by omega), List.getElem?_eq_getElem]
  have hrow : (vers.map fun n => [dI n])[((done.length : Nat) : Int).toNat]? = some [dI v] := by simp [ha]
  have harow : (c.arts.map Article.cells)[v.toNat]? = some a.cells := by
   obtain ⟨j, rfl, h2⟩ := zlf haa
   simp [h2]
  rw [List.foldl_cons, js, haa] at h1
  (refine zh ?_; conv => whnf)
  repeat' ((with_reducible refine way ?_ ?_) <;> (intro h; conv => whnf))
  all_goals try (exfalso; omega)
  refine zg rfl rfl  hrow ?_
  (refine za ?_; conv => whnf)
  refine zg (i := v.toNat) rfl (by omega) harow ?_
  (refine za ?_; conv => whnf)
  refine zg (i := v.toNat) rfl (by omega) harow ?_
  (refine za ?_; conv => whnf)
  rw [hw]
  have had := hd a (zfh haa)
  simp only at hr h1
  have e1 : (if r1 < a.lo then a.lo else r1) = max r1 a.lo := by omega
  have e2 : (if a.hi < r2 then a.hi else r2) = min r2 a.hi := by omega
  exact yr [0, 4, 5, 11, 12, 13] 24 (by omega) (by simp [WH]) rfl (zbk hX s) (ih (if r1 < a.lo then a.lo else r1, if a.hi < r2 then a.hi else r2) ⟨by rw [e1, e2]; exact h1, by simp only; omega⟩)
theorem ykq (m : Nat) : ydp Tryz.prog G 103 [.map m] 142 [.map m] := by
 intro H
 refine yy Tryz.func103 rfl (by rw [Tryz.ntmps103]; simp) ?_
 intro E hH hK
 (refine zh ?_; conv => whnf)
 exact hK _ _ ⟨rfl, rfl⟩
theorem ykr (m : Nat) : ydp Tryz.prog G 102 [.map m] 141 [.map m] := by
 intro H
 refine yy Tryz.func102 rfl (by rw [Tryz.ntmps102]; simp) ?_
 intro E hH hK
 (refine zh ?_; conv => whnf)
 exact hK _ _ ⟨rfl, rfl⟩
structure KeyH (Hf : SObj -> List Int -> List SObj) (es : List (Int × SV)) (N m b L : Nat) (lp : SObj) : Prop where
 len : ∀ o d, (Hf o d).length = N
 box : ∀ o d, (Hf o d)[b]? = some (.cells [.map m])
 map : ∀ o d, (Hf o d)[m]? = some o
 set : ∀ o o' d, (Hf o d).set m o' = Hf o' d
 loop : ∀ o d, (Hf o d)[L]? = some lp
 und : ∀ es' clock d, es'.map (·.2) = es -> (Hf (.pin .i64 es' clock) d).all (SObj.under N) = true
theorem yaz {Hf : SObj -> List Int -> List SObj} {es : List (Int × SV)} {N m b L : Nat} {f : FuncId} {n : Nat} {tL : List (Nat × SV)} {ps : Array Tmp} {asg bd : Code} (hf : KeyH Hf es N m b L (.loop .ready f n tL ps asg bd)) (hps : 1 = ps.size) (hLN : L < N) (hbN : b < N)
  (hy : ∀ es' clock done x it, es'.map (·.2) = es -> done.length < es.length -> SYield Tryz.prog G L [sI x] (Hf (.pin .i64 es' clock) done ++ [.iter m clock it clock]) (fun res H' => res = true /\ N + 1 <= H'.length /\ H'.take (N + 1) = Hf (.pin .i64 es' clock) (done ++ [x]) ++ [.iter m clock it clock])) :
  SCall Tryz.prog G 142 [.yld L, .ptr b 0] (Hf (.mapI .i64 es) []) (fun _ H' => ∃ ks, ks.Perm (es.map (·.1)) /\ N <= H'.length /\ H'.take N = Hf (.mapI .i64 es) ks) := by
 refine yy Tryz.func142 rfl (by rw [Tryz.ntmps142]; simp) ?_
 intro E hH hK
 rw [hf.len] at hH
 refine ydm (b := m) (hf.map _ _) ?_
 intro es' clock hes hst
 rw [hf.set]
 (refine wv [777, 4] 1000 ?_; conv => whnf)
 refine xq (v := .map m) rfl rfl rfl rfl (hf.box _ _) rfl ?_
 (refine za ?_; conv => whnf)
 refine zlg rfl rfl rfl rfl rfl (hf.map _ _) ?_
 rw [hf.len]
 (refine za ?_; conv => whnf)
 refine zf [0, 1, 5] ?_
 have hlen : es'.length = es.length := by rw [<- hes]; simp
 refine xy (σ := List Nat × List Int) (fun _ => [(0, .yld L), (1, .ptr b 0), (5, .ptr N 0)]) (fun x => Hf (.pin .i64 es' clock) x.2 ++ [.iter m clock x.1 clock])
  (fun x => (x.2 ++ (zbj es' x.1).map (·.2.1)).Perm (es'.map (·.2.1))) (fun x => (zbj es' x.1).length) ?_ ([], []) (by simp [zlh])
 rintro ⟨seen, done⟩ hp ih
 simp only at hp ih
 have hbi : (Hf (.pin .i64 es' clock) done ++ [SObj.iter m clock seen clock])[N]? = some (.iter m clock seen clock) := by
  rw [List.getElem?_append_right (by rw [hf.len]; exact Nat.le_refl _), hf.len]; simp
 have hbm : (Hf (.pin .i64 es' clock) done ++ [SObj.iter m clock seen clock])[m]? = some (.pin .i64 es' clock) := by
  rw [List.getElem?_append_left (by have := lt_of_getElem? (hf.map (.pin .i64 es' clock) done); exact this), hf.map]
 have hmN : m < N := by have := lt_of_getElem? (hf.map (.pin .i64 es' clock) done); rwa [hf.len] at this
 have hes1 : es'.map (·.2.1) = es.map (·.1) := by rw [<- hes, List.map_map]; rfl
 show SW E _ _ (Hf (.pin .i64 es' clock) done ++ [.iter m clock seen clock])
 (refine zh ?_; conv => whnf)
 refine zou rfl rfl rfl rfl hbi hbm hst (Nat.le_refl _) (fun h0 => ?_) (fun e he => ?_)
 ·refine qi (fun k h => zvd (b := m) hbm h) ?_
  (refine za ?_; conv => whnf)
  have e : ((Hf (.pin .i64 es' clock) done ++ [SObj.iter m clock seen clock]).set m (.mapI .i64 (es'.map (·.2)))) = Hf (.mapI .i64 es) done ++ [SObj.iter m clock seen clock] := by
   rw [List.set_append_left _ _ (by rw [hf.len]; exact hmN), hf.set, hes]
  rw [e]
  rw [h0, hes1] at hp
  refine hK _ _ ⟨done, by simpa using hp, by simp [hf.len], ?_⟩
  rw [List.take_append_of_le_length (by rw [hf.len]; exact Nat.le_refl _), List.take_of_length_le (by rw [hf.len]; exact Nat.le_refl _)]
 ·have hset : ∀ it, (Hf (.pin .i64 es' clock) done ++ [SObj.iter m clock seen clock]).set N (.iter m clock it clock) = Hf (.pin .i64 es' clock) done ++ [SObj.iter m clock it clock] := by
   intro it
   rw [List.set_append_right _ _ (by rw [hf.len]; exact Nat.le_refl _), hf.len]
   simp
  rw [hset]
  have hbi2 : (Hf (.pin .i64 es' clock) done ++ [SObj.iter m clock (seen ++ [e.1]) clock])[N]? = some (.iter m clock (seen ++ [e.1]) clock) := by
   rw [List.getElem?_append_right (by rw [hf.len]; exact Nat.le_refl _), hf.len]; simp
  have hbm2 : (Hf (.pin .i64 es' clock) done ++ [SObj.iter m clock (seen ++ [e.1]) clock])[m]? = some (.pin .i64 es' clock) := by
   rw [List.getElem?_append_left (by rw [hf.len]; exact hmN), hf.map]
  have hloop : (Hf (.pin .i64 es' clock) done ++ [SObj.iter m clock (seen ++ [e.1]) clock])[L]? = some (.loop .ready f n tL ps asg bd) := by
   rw [List.getElem?_append_left (by rw [hf.len]; exact hLN), hf.loop]
  obtain ⟨e1, e2, e3⟩ := e
  have hperm := zim hst.1 he
  have hpl := hperm.length_eq
  have hpm := hperm.map (·.2.1)
  simp only [List.map_cons, List.length_cons] at hpm hpl
  have hdl : done.length < es.length := by
   have := hp.length_eq
   simp only [List.length_append, List.length_map] at this
   omega
  (refine ym [777, 9] 1000 ?_; conv => whnf)
  refine zli rfl rfl rfl rfl hbi2 hbm2 (zff he) ?_
  (refine za ?_; conv => whnf)
  refine zxd rfl rfl rfl rfl hloop hps rfl ?_
  refine (hy es' clock done e2 (seen ++ [e1]) hes hdl).mono ?_
  rintro _ H' ⟨rfl, hl', ht⟩
  refine ⟨by simp only [List.length_append, hf.len, List.length_singleton]; omega, ?_⟩
  (refine za ?_; conv => whnf)
  refine yr [0, 1, 5] (N + 1) (by omega) hl' (by show ((decide (L < N + 1)) && (decide (b < N + 1) && (decide (N < N + 1) && true))) = true; simp; omega) ?_ ?_
  ·rw [ht, List.all_append, yz (by omega) (hf.und es' clock _ hes)]
   simp [SObj.under]
   omega
  ·rw [ht]
   exact ih (seen ++ [e1], done ++ [e2]) (by
    refine List.Perm.trans ?_ hp
    simp only [List.append_assoc, List.cons_append, List.nil_append]
    exact (List.Perm.refl done).append hpm.symm) (by simp only; omega)
theorem yba {Hf : SObj -> List Int -> List SObj} {es : List (Int × SV)} {N m b L : Nat} {f : FuncId} {n : Nat} {tL : List (Nat × SV)} {ps : Array Tmp} {asg bd : Code} (hf : KeyH Hf es N m b L (.loop .ready f n tL ps asg bd)) (hps : 1 = ps.size) (hLN : L < N) (hbN : b < N)
  (hy : ∀ es' clock done x it, es'.map (·.2) = es -> done.length < es.length -> SYield Tryz.prog G L [sI x] (Hf (.pin .i64 es' clock) done ++ [.iter m clock it clock]) (fun res H' => res = true /\ N + 1 <= H'.length /\ H'.take (N + 1) = Hf (.pin .i64 es' clock) (done ++ [x]) ++ [.iter m clock it clock])) :
  SCall Tryz.prog G 141 [.yld L, .ptr b 0] (Hf (.mapI .i64 es) []) (fun _ H' => ∃ ks, ks.Perm (es.map (·.1)) /\ N <= H'.length /\ H'.take N = Hf (.mapI .i64 es) ks) := by
 refine yy Tryz.func141 rfl (by rw [Tryz.ntmps141]; simp) ?_
 intro E hH hK
 rw [hf.len] at hH
 refine ydm (b := m) (hf.map _ _) ?_
 intro es' clock hes hst
 rw [hf.set]
 (refine wv [777, 4] 1000 ?_; conv => whnf)
 refine xq (v := .map m) rfl rfl rfl rfl (hf.box _ _) rfl ?_
 (refine za ?_; conv => whnf)
 refine zlg rfl rfl rfl rfl rfl (hf.map _ _) ?_
 rw [hf.len]
 (refine za ?_; conv => whnf)
 refine zf [0, 1, 5] ?_
 have hlen : es'.length = es.length := by rw [<- hes]; simp
 refine xy (σ := List Nat × List Int) (fun _ => [(0, .yld L), (1, .ptr b 0), (5, .ptr N 0)]) (fun x => Hf (.pin .i64 es' clock) x.2 ++ [.iter m clock x.1 clock])
  (fun x => (x.2 ++ (zbj es' x.1).map (·.2.1)).Perm (es'.map (·.2.1))) (fun x => (zbj es' x.1).length) ?_ ([], []) (by simp [zlh])
 rintro ⟨seen, done⟩ hp ih
 simp only at hp ih
 have hbi : (Hf (.pin .i64 es' clock) done ++ [SObj.iter m clock seen clock])[N]? = some (.iter m clock seen clock) := by
  rw [List.getElem?_append_right (by rw [hf.len]; exact Nat.le_refl _), hf.len]; simp
 have hbm : (Hf (.pin .i64 es' clock) done ++ [SObj.iter m clock seen clock])[m]? = some (.pin .i64 es' clock) := by
  rw [List.getElem?_append_left (by have := lt_of_getElem? (hf.map (.pin .i64 es' clock) done); exact this), hf.map]
 have hmN : m < N := by have := lt_of_getElem? (hf.map (.pin .i64 es' clock) done); rwa [hf.len] at this
 have hes1 : es'.map (·.2.1) = es.map (·.1) := by rw [<- hes, List.map_map]; rfl
 show SW E _ _ (Hf (.pin .i64 es' clock) done ++ [.iter m clock seen clock])
 (refine zh ?_; conv => whnf)
 refine zou rfl rfl rfl rfl hbi hbm hst (Nat.le_refl _) (fun h0 => ?_) (fun e he => ?_)
 ·refine qi (fun k h => zvd (b := m) hbm h) ?_
  (refine za ?_; conv => whnf)
  have e : ((Hf (.pin .i64 es' clock) done ++ [SObj.iter m clock seen clock]).set m (.mapI .i64 (es'.map (·.2)))) = Hf (.mapI .i64 es) done ++ [SObj.iter m clock seen clock] := by
   rw [List.set_append_left _ _ (by rw [hf.len]; exact hmN), hf.set, hes]
  rw [e]
  rw [h0, hes1] at hp
  refine hK _ _ ⟨done, by simpa using hp, by simp [hf.len], ?_⟩
  rw [List.take_append_of_le_length (by rw [hf.len]; exact Nat.le_refl _), List.take_of_length_le (by rw [hf.len]; exact Nat.le_refl _)]
 ·have hset : ∀ it, (Hf (.pin .i64 es' clock) done ++ [SObj.iter m clock seen clock]).set N (.iter m clock it clock) = Hf (.pin .i64 es' clock) done ++ [SObj.iter m clock it clock] := by
   intro it
   rw [List.set_append_right _ _ (by rw [hf.len]; exact Nat.le_refl _), hf.len]
   simp
  rw [hset]
  have hbi2 : (Hf (.pin .i64 es' clock) done ++ [SObj.iter m clock (seen ++ [e.1]) clock])[N]? = some (.iter m clock (seen ++ [e.1]) clock) := by
   rw [List.getElem?_append_right (by rw [hf.len]; exact Nat.le_refl _), hf.len]; simp
  have hbm2 : (Hf (.pin .i64 es' clock) done ++ [SObj.iter m clock (seen ++ [e.1]) clock])[m]? = some (.pin .i64 es' clock) := by
   rw [List.getElem?_append_left (by rw [hf.len]; exact hmN), hf.map]
  have hloop : (Hf (.pin .i64 es' clock) done ++ [SObj.iter m clock (seen ++ [e.1]) clock])[L]? = some (.loop .ready f n tL ps asg bd) := by
   rw [List.getElem?_append_left (by rw [hf.len]; exact hLN), hf.loop]
  obtain ⟨e1, e2, e3⟩ := e
  have hperm := zim hst.1 he
  have hpl := hperm.length_eq
  have hpm := hperm.map (·.2.1)
  simp only [List.map_cons, List.length_cons] at hpm hpl
  have hdl : done.length < es.length := by
   have := hp.length_eq
   simp only [List.length_append, List.length_map] at this
   omega
  (refine ym [777, 9] 1000 ?_; conv => whnf)
  refine zli rfl rfl rfl rfl hbi2 hbm2 (zff he) ?_
  (refine za ?_; conv => whnf)
  refine zxd rfl rfl rfl rfl hloop hps rfl ?_
  refine (hy es' clock done e2 (seen ++ [e1]) hes hdl).mono ?_
  rintro _ H' ⟨rfl, hl', ht⟩
  refine ⟨by simp only [List.length_append, hf.len, List.length_singleton]; omega, ?_⟩
  (refine za ?_; conv => whnf)
  refine yr [0, 1, 5] (N + 1) (by omega) hl' (by show ((decide (L < N + 1)) && (decide (b < N + 1) && (decide (N < N + 1) && true))) = true; simp; omega) ?_ ?_
  ·rw [ht, List.all_append, yz (by omega) (hf.und es' clock _ hes)]
   simp [SObj.under]
   omega
  ·rw [ht]
   exact ih (seen ++ [e1], done ++ [e2]) (by
    refine List.Perm.trans ?_ hp
    simp only [List.append_assoc, List.cons_append, List.nil_append]
    exact (List.Perm.refl done).append hpm.symm) (by simp only; omega)
theorem zmz (b : Nat) (l : List Int) (H : List SObj) (hb : H[b]? = some (.vec 1 (l.map sI))) (hsz : l.length <= 1073741824) :
  SCall Tryz.prog G 64 [.vec b l.length] H (fun r H' => r = .tup [] /\ H' = H.set b (.vec 1 ((jf l).map sI))) := by
 intro w I β vs hH hv
 obtain ⟨v, hvs, hr⟩ := hv.one
 have hvv : vs = #[v] := by apply Array.ext'; simpa using hvs
 subst hvv
 obtain ⟨hbu, hcase⟩ := zho hH hb hr (by simp) (Nat.le_refl _)
 rcases hcase with ⟨h0, rfl, _⟩ | ⟨c, cap, cur, T, rfl, a1, a2, a2', hmax, a3, a4⟩
 ·have hl : l = [] := List.length_eq_zero_iff.1 h0
  subst hl
  refine (Go.Proofs.Tryz.slices_Sort_int_none none 0 w).mono ?_
  rintro e w' ⟨rfl, rfl⟩
  refine ⟨_, .tup [], I, β, _, rfl, ⟨rfl, rfl⟩, .tup #[] [] rfl (fun j h => by simp at h), ?_⟩
  have e : H.set b (.vec 1 ((jf ([] : List Int)).map sI)) = H := by
   have : (jf ([] : List Int)).map sI = ([] : List Int).map sI := by simp
   rw [this]
   obtain ⟨hlt, he⟩ := List.getElem?_eq_some_iff.1 hb
   rw [<- he]
   exact List.set_getElem_self hlt
  rw [e]
  exact ⟨hH, .refl⟩
 have hsl : (jf l).length = l.length := by simp
 have htake : cur.toList.take l.length = l.map (Value.int .i64) := by
  apply List.ext_getElem
  ·simp [a2]; omega
  ·intro j h1 h2
   have hj : j < l.length := by simpa using h2
   have hjc : j < cur.size := by rw [a2]; omega
   have := a3 j (by simpa using hj) hjc
   simp only [List.getElem_map] at this
   simp only [List.getElem_take, Array.getElem_toList, List.getElem_map]
   generalize cur[j] = q at this
   cases this with | imm h => cases h; rfl
 refine (Go.Proofs.Tryz.slices_Sort_int c 0 cap l w (holds_of_blockI a1 htake) (qn a1) (by omega)).mono ?_
 rintro e w' ⟨rfl, n, os, rfl⟩
 have hblk := heap_sortedI (w := w) (n := n) (os := os) (jf l).toArray a1
 have hgrow := grownBy_sortedI (w := w) (g := c) (n := n) (os := os) (jf l).toArray
 generalize Go.Sort.grow (Go.Sort.putRow (Value.int .i64) (Go.Sort.ahead w n) c 0 (jf l).toArray) os = w' at hblk hgrow
 have hold : ∀ c', c' < w.heap.size -> c' ≠ c -> w'.heap[c']? = w.heap[c']? := fun c' h1 h2 => hgrow.block c' h1 (fun e => h2 (by cases e; rfl))
 have hcellI : ∀ c' o, I c' o -> w'.cell? ⟨c', o, none⟩ = w.cell? ⟨c', o, none⟩ := fun c' o hi => yl (hold c' (hH.inI c' o hi) (fun e => a4 o (e ▸ hi))) o
 have hown : qj H β b c := ⟨_, _, hb, by simp, hbu, rfl⟩
 have hbl := lt_of_getElem? hb
 have key : ∀ b' c', qj (H.set b (.vec 1 ((jf l).map sI))) β b' c' -> qj H β b' c' := by
  rintro b' c' ⟨p, x, g1, g2, g3, g4⟩
  by_cases e : b' = b
  ·subst e; rw [hbu] at g3; cases g3; cases g4; exact hown
  ·rw [List.getElem?_set_ne (Ne.symm e)] at g1; exact ⟨p, x, g1, g2, g3, g4⟩
 have hnew : ObjOK w' I β (.vec 1 ((jf l).map sI)) (.tok (.slice (some ⟨c, 0, none⟩) l.length cap)) := by
  refine .inr ⟨c, l.length, cap, _, T, rfl, hblk, by simp [Go.Sort.putCells, a2], a2', hmax, by simp, fun j hj hj' => ?_, a4⟩
  have hjc : j < cur.size := by simpa [Go.Sort.putCells] using hj'
  have hjl : j < l.length := by simpa using hj
  simp only [Go.Sort.putCells, Array.getElem_mapIdx]
  rw [if_pos ⟨Nat.zero_le _, by simp; omega⟩]
  simp only [List.getElem_map, Nat.sub_zero]
  have : (jf l).toArray[j]! = (jf l)[j]'(by omega) := by simp [hjl]
  rw [this]
  exact .imm (.val _)
 refine ⟨_, .tup [], I, β, _, rfl, ⟨rfl, rfl⟩, .tup #[] [] rfl (fun j h => by simp at h), ⟨by simp [hH.len], fun b' p x g1 g2 => ?_, fun x y c' g1 g2 => hH.inj x y c' (key x c' g1) (key y c' g2), fun c' o hi => Nat.lt_of_lt_of_le (hH.inI c' o hi) hgrow.size, fun g d hg => (hH.glob g d hg).mono (fun _ _ h => h) hcellI⟩,
  ⟨fun _ _ h => h, hcellI, .refl _ _, fun c' hc' hn => hold c' hc' (fun e => hn b (e ▸ hown)), fun b' c' g => .inl ⟨b', key b' c' g⟩, fun _ _ h => .inl h, hgrow.size, ⟨hgrow.os, hgrow.output⟩⟩⟩
 by_cases e : b' = b
 ·subst e
  rw [hbu] at g2; cases g2
  rw [List.getElem?_set_self hbl] at g1; cases g1
  exact hnew
 ·rw [List.getElem?_set_ne (Ne.symm e)] at g1
  by_cases hpd : p = .dead
  ·subst hpd; trivial
  ·refine (hH.obj b' p x g1 g2).mono (fun c' hc' => hold c' ((hH.obj b' p x g1 g2).block_lt hpd hc') ?_) (fun _ _ h => h) hcellI (.refl _ _) (fun _ _ _ h => h)
   rintro rfl
   exact e (hH.inj b' b _ ⟨p, x, g1, hpd, g2, hc'⟩ hown)
abbrev zev : SV := .imm (.val (.slice none 0 0))
theorem zvh {p : SObj -> Bool} {H : List SObj} {m : Nat} {o : SObj} (hH : H.all p = true) (ho : p o = true) : (H.set m o).all p = true := by
 simp only [List.all_eq_true] at hH ⊢
 intro x hx
 rcases List.mem_or_eq_of_mem_set hx with h | rfl
 ·exact hH x h
 ·exact ho
theorem ydu {H : List SObj} {m : Nat} {o : SObj} (h : H[m]? = some o) : H.set m o = H := by
 obtain ⟨hlt, he⟩ := List.getElem?_eq_some_iff.1 h
 rw [<- he]
 exact List.set_getElem_self hlt
theorem zln {es : List (Int × SV)} {es' : List (Nat × Int × SV)} {clock n : Nat} (h : (SObj.mapI .i64 es).under n = true) (he : es'.map (·.2) = es) : (SObj.pin .i64 es' clock).under n = true := by
 subst he
 simp only [SObj.under, List.all_eq_true, List.mem_map, forall_exists_index, and_imp] at h ⊢
 intro e he
 exact h e.2 e he rfl
theorem yks {H : List SObj} {m : Nat} {o : SObj} (h : H[m]? = some o) : o ∈ H := List.mem_of_getElem? h
section
variable {A : List SObj} {n : Nat} (hn : A.length = n) (a a' c l it : SObj)
include hn
theorem yvl : (A ++ [a, c, l] ++ [it]).set n a' = A ++ [a', c, l] ++ [it] := by subst hn; simp
theorem yvm : (A ++ [a, c, l] ++ [it]).set (n + 1) a' = A ++ [a, a', l] ++ [it] := by subst hn; simp
theorem yuf : (A ++ [a, c, l] ++ [it]).set (n + 2) a' = A ++ [a, c, a'] ++ [it] := by subst hn; simp
theorem yug : (A ++ [a, c, l] ++ [it])[n]? = some a := by subst hn; simp
theorem yvn : (A ++ [a, c, l] ++ [it])[n + 1]? = some c := by subst hn; simp
theorem ysh : (A ++ [a, c, l] ++ [it])[n + 2]? = some l := by subst hn; simp
end
theorem zyi {H : List SObj} {es : List (Int × SV)} {m b : Nat} (hb : H[b]? = some (.cells [.map m])) (hm : H[m]? = some (.mapI .i64 es)) (hmb : m ≠ b) (hu : H.all (SObj.under H.length) = true) (hsz : es.length <= 1073741824) :
  SCall Tryz.prog G 165 [zev, .fn (.func 142) [] [.ptr b 0]] H (fun r H' => ∃ ks : List Int, ks.Perm (es.map (·.1)) /\ r = .vec (H.length + 1) ks.length /\ H.length + 2 <= H'.length /\ H'.take (H.length + 2) = H ++ [.cells [.vec (H.length + 1) ks.length], .vec 1 (ks.map sI)]) := by
 refine yy Tryz.func165 rfl (by rw [Tryz.ntmps165]; simp) ?_
 intro E hH hK
 have hbl := lt_of_getElem? hb
 have hml := lt_of_getElem? hm
 (refine zh ?_; conv => whnf)
 refine zml H.length 0 1 (cs := [zev]) (by show (H ++ [SObj.cells [zev]])[H.length]? = _; simp) rfl ?_
 have e1 : (H ++ [SObj.cells [zev]]).set H.length (.cells ([zev].set 0 (.vec (H ++ [SObj.cells [zev]]).length 0))) ++ [.vec 1 []] = H ++ [SObj.cells [.vec (H.length + 1) 0], .vec 1 []] := by simp
 refine zf [2, 6] ?_
 refine Eq.mpr (congrArg (fun h => SW E _ _ h) e1) ?_
 show SW E _ [(2, .ptr H.length 0), (6, .fn (.func 142) [] [.ptr b 0])] _
 refine zhm rfl rfl ?_
 generalize hlp : SObj.loop .ready E.f _ [(2, SV.ptr H.length 0), (6, SV.fn (.func 142) [] [.ptr b 0])] _ _ _ = lp
 have hset : H.set m (.mapI .i64 es) = H := ydu hm
 have hAl : ∀ o, (H.set m o).length = H.length := fun o => by simp
 have hf : KeyH (fun o (d : List Int) => H.set m o ++ [.cells [.vec (H.length + 1) d.length], .vec 1 (d.map sI), lp]) es (H.length + 3) m b (H.length + 2) lp := by
  refine ⟨fun o d => by simp, fun o d => ?_, fun o d => ?_, fun o o' d => ?_, fun o d => ?_, fun es' clock d he => ?_⟩
  ·rw [List.getElem?_append_left (by rw [hAl]; exact hbl), List.getElem?_set_ne hmb]; exact hb
  ·rw [List.getElem?_append_left (by rw [hAl]; exact hml), List.getElem?_set_self hml]
  ·rw [List.set_append_left _ _ (by rw [hAl]; exact hml), List.set_set]
  ·rw [List.getElem?_append_right (by rw [hAl]; omega), hAl]; simp
  ·rw [List.all_append, zvh (yz (m := H.length) (n := H.length + 3) (by omega) hu) (zln (SObj.under_mono (m := H.length) (by omega) _ (by rw [List.all_eq_true] at hu; exact hu _ (yks hm))) he)]
   subst hlp
   simp only [List.all_cons, List.all_nil, SObj.under, SV.under.allUnder, SV.under, jz (f := sI) (fun _ => rfl), Bool.and_true, Bool.true_and, SV.under.allUnder, Bool.and_eq_true, decide_eq_true_eq]
   omega
 have harg : H ++ [SObj.cells [.vec (H.length + 1) 0], SObj.vec 1 []] ++ [lp] = (fun o (d : List Int) => H.set m o ++ [.cells [.vec (H.length + 1) d.length], .vec 1 (d.map sI), lp]) (.mapI .i64 es) [] := by
  simp [hset]
 have hlen : (H ++ [SObj.cells [.vec (H.length + 1) 0], SObj.vec 1 []]).length = H.length + 2 := by simp
 rw [harg, hlen]
 subst hlp
 refine (yaz G hf rfl (by omega) (by omega) ?_).mono ?_
 ·intro es' clock done x it hes hdl
  refine zhn (ysh (hAl _) _ _ _ _) E.hfn rfl (by decide) ?_
  intro E3 hl3 hOwn hKR
  (refine zh ?_; conv => whnf)
  refine zur hOwn (ysh (hAl _) _ _ _ _) ?_
  refine Eq.mpr (congrArg (fun h => SW E3 _ _ h) (yuf (hAl _) _ _ _ _ _)) ?_
  (refine wv [777, 8] 1000 ?_; conv => whnf)
  refine xq (v := .vec (H.length + 1) done.length) rfl rfl rfl rfl (yug (hAl _) _ _ _ _) rfl ?_
  (refine za ?_; conv => whnf)
  refine zqd (kk := 1) (new := [[dI x]]) rfl rfl rfl rfl rfl rfl rfl rfl rfl rfl ⟨by decide, rfl⟩ (yvn (hAl _) _ _ _ _) (by simp) (Nat.le_refl _) (by simp) (by simp; omega) ?_
  refine Eq.mpr (congrArg (fun h => SWr E3 _ _ _ _ h) (yvm (hAl _) _ _ _ _ _)) ?_
  refine jo (d := []) (zz := .vec (H.length + 1) done.length) (r := []) (v := .vec (H.length + 1) (done.length + 1)) rfl rfl rfl rfl rfl rfl rfl rfl (yug (hAl _) _ _ _ _) rfl ?_
  refine Eq.mpr (congrArg (fun h => SWr E3 _ _ _ _ h) (yvl (hAl _) _ _ _ _ _)) ?_
  (refine za ?_; conv => whnf)
  refine hKR none _ _ (by simp) (ysh (hAl _) _ _ _ _) ⟨rfl, by simp, ?_⟩
  rw [yuf (hAl _), List.take_of_length_le (by simp)]
  simp [LS.of]
 ·rintro r H' ⟨ks, hp, hl', ht⟩
  have hkl : ks.length = es.length := by rw [hp.length_eq]; simp
  have hg2 : H'[H.length + 2]? = (H'.take (H.length + 3))[H.length + 2]? := by rw [List.getElem?_take, if_pos (by omega)]
  refine ⟨by omega, .ready, [(2, .ptr H.length 0), (6, .fn (.func 142) [] [.ptr b 0])], ?_, .inl ⟨rfl, ?_⟩⟩
  ·rw [hg2, ht, List.getElem?_append_right (by rw [hAl]; omega), hAl]
   simp
  ·have ht2 : (H'.set (H.length + 2) .dead).take (H.length + 2) = H ++ [.cells [.vec (H.length + 1) ks.length], .vec 1 (ks.map sI)] := by
    rw [List.take_set_of_le (Nat.le_refl _)]
    have : H'.take (H.length + 2) = (H'.take (H.length + 3)).take (H.length + 2) := by rw [List.take_take]; congr 1; omega
    rw [this, ht, hset, List.take_append]
    simp
    exact List.take_of_length_le (by omega)
   refine yr [2] (H.length + 2) (by omega) (by simp; omega) (by show (decide (H.length < H.length + 2) && true) = true; simp) ?_ ?_
   ·rw [ht2, List.all_append, yz (m := H.length) (by omega) hu]
    simp [SObj.under, SV.under, SV.under.allUnder, jz (f := sI) (fun _ => rfl)]
   ·rw [ht2]
    (refine wv [777, 12] 1000 ?_; conv => whnf)
    refine xq (v := .vec (H.length + 1) ks.length) (cs := [.vec (H.length + 1) ks.length]) rfl rfl rfl rfl (by simp) rfl ?_
    (refine za ?_; conv => whnf)
    exact hK _ _ ⟨ks, hp, rfl, by simp, by rw [List.take_of_length_le (by simp)]⟩
theorem zyj {a b : List Int} (h : a.Perm b) : jf a = jf b := by
 have ha := List.mergeSort_perm a fun x y => decide (x <= y)
 have hb := List.mergeSort_perm b fun x y => decide (x <= y)
 have sa : (jf a).Pairwise fun x y => x <= y := by
  have := List.pairwise_mergeSort (le := fun (x y : Int) => decide (x <= y)) (fun a b c h1 h2 => by simp at *; omega) (fun a b => by simp; omega) a
  simpa using this
 have sb : (jf b).Pairwise fun x y => x <= y := by
  have := List.pairwise_mergeSort (le := fun (x y : Int) => decide (x <= y)) (fun a b c h1 h2 => by simp at *; omega) (fun a b => by simp; omega) b
  simpa using this
 exact List.Perm.eq_of_pairwise (fun x y _ _ h1 h2 => by omega) sa sb ((ha.trans h).trans hb.symm)
theorem zyk {H : List SObj} {es : List (Int × SV)} {m b : Nat} (hb : H[b]? = some (.cells [.map m])) (hm : H[m]? = some (.mapI .i64 es)) (hmb : m ≠ b) (hu : H.all (SObj.under H.length) = true) (hsz : es.length <= 1073741824) :
  SCall Tryz.prog G 165 [zev, .fn (.func 141) [] [.ptr b 0]] H (fun r H' => ∃ ks : List Int, ks.Perm (es.map (·.1)) /\ r = .vec (H.length + 1) ks.length /\ H.length + 2 <= H'.length /\ H'.take (H.length + 2) = H ++ [.cells [.vec (H.length + 1) ks.length], .vec 1 (ks.map sI)]) := by
 refine yy Tryz.func165 rfl (by rw [Tryz.ntmps165]; simp) ?_
 intro E hH hK
 have hbl := lt_of_getElem? hb
 have hml := lt_of_getElem? hm
 (refine zh ?_; conv => whnf)
 refine zml H.length 0 1 (cs := [zev]) (by show (H ++ [SObj.cells [zev]])[H.length]? = _; simp) rfl ?_
 have e1 : (H ++ [SObj.cells [zev]]).set H.length (.cells ([zev].set 0 (.vec (H ++ [SObj.cells [zev]]).length 0))) ++ [.vec 1 []] = H ++ [SObj.cells [.vec (H.length + 1) 0], .vec 1 []] := by simp
 refine zf [2, 6] ?_
 refine Eq.mpr (congrArg (fun h => SW E _ _ h) e1) ?_
 show SW E _ [(2, .ptr H.length 0), (6, .fn (.func 141) [] [.ptr b 0])] _
 refine zhm rfl rfl ?_
 generalize hlp : SObj.loop .ready E.f _ [(2, SV.ptr H.length 0), (6, SV.fn (.func 141) [] [.ptr b 0])] _ _ _ = lp
 have hset : H.set m (.mapI .i64 es) = H := ydu hm
 have hAl : ∀ o, (H.set m o).length = H.length := fun o => by simp
 have hf : KeyH (fun o (d : List Int) => H.set m o ++ [.cells [.vec (H.length + 1) d.length], .vec 1 (d.map sI), lp]) es (H.length + 3) m b (H.length + 2) lp := by
  refine ⟨fun o d => by simp, fun o d => ?_, fun o d => ?_, fun o o' d => ?_, fun o d => ?_, fun es' clock d he => ?_⟩
  ·rw [List.getElem?_append_left (by rw [hAl]; exact hbl), List.getElem?_set_ne hmb]; exact hb
  ·rw [List.getElem?_append_left (by rw [hAl]; exact hml), List.getElem?_set_self hml]
  ·rw [List.set_append_left _ _ (by rw [hAl]; exact hml), List.set_set]
  ·rw [List.getElem?_append_right (by rw [hAl]; omega), hAl]; simp
  ·rw [List.all_append, zvh (yz (m := H.length) (n := H.length + 3) (by omega) hu) (zln (SObj.under_mono (m := H.length) (by omega) _ (by rw [List.all_eq_true] at hu; exact hu _ (yks hm))) he)]
   subst hlp
   simp only [List.all_cons, List.all_nil, SObj.under, SV.under.allUnder, SV.under, jz (f := sI) (fun _ => rfl), Bool.and_true, Bool.true_and, SV.under.allUnder, Bool.and_eq_true, decide_eq_true_eq]
   omega
 have harg : H ++ [SObj.cells [.vec (H.length + 1) 0], SObj.vec 1 []] ++ [lp] = (fun o (d : List Int) => H.set m o ++ [.cells [.vec (H.length + 1) d.length], .vec 1 (d.map sI), lp]) (.mapI .i64 es) [] := by
  simp [hset]
 have hlen : (H ++ [SObj.cells [.vec (H.length + 1) 0], SObj.vec 1 []]).length = H.length + 2 := by simp
 rw [harg, hlen]
 subst hlp
 refine (yba G hf rfl (by omega) (by omega) ?_).mono ?_
 ·intro es' clock done x it hes hdl
  refine zhn (ysh (hAl _) _ _ _ _) E.hfn rfl (by decide) ?_
  intro E3 hl3 hOwn hKR
  (refine zh ?_; conv => whnf)
  refine zur hOwn (ysh (hAl _) _ _ _ _) ?_
  refine Eq.mpr (congrArg (fun h => SW E3 _ _ h) (yuf (hAl _) _ _ _ _ _)) ?_
  (refine wv [777, 8] 1000 ?_; conv => whnf)
  refine xq (v := .vec (H.length + 1) done.length) rfl rfl rfl rfl (yug (hAl _) _ _ _ _) rfl ?_
  (refine za ?_; conv => whnf)
  refine zqd (kk := 1) (new := [[dI x]]) rfl rfl rfl rfl rfl rfl rfl rfl rfl rfl ⟨by decide, rfl⟩ (yvn (hAl _) _ _ _ _) (by simp) (Nat.le_refl _) (by simp) (by simp; omega) ?_
  refine Eq.mpr (congrArg (fun h => SWr E3 _ _ _ _ h) (yvm (hAl _) _ _ _ _ _)) ?_
  refine jo (d := []) (zz := .vec (H.length + 1) done.length) (r := []) (v := .vec (H.length + 1) (done.length + 1)) rfl rfl rfl rfl rfl rfl rfl rfl (yug (hAl _) _ _ _ _) rfl ?_
  refine Eq.mpr (congrArg (fun h => SWr E3 _ _ _ _ h) (yvl (hAl _) _ _ _ _ _)) ?_
  (refine za ?_; conv => whnf)
  refine hKR none _ _ (by simp) (ysh (hAl _) _ _ _ _) ⟨rfl, by simp, ?_⟩
  rw [yuf (hAl _), List.take_of_length_le (by simp)]
  simp [LS.of]
 ·rintro r H' ⟨ks, hp, hl', ht⟩
  have hkl : ks.length = es.length := by rw [hp.length_eq]; simp
  have hg2 : H'[H.length + 2]? = (H'.take (H.length + 3))[H.length + 2]? := by rw [List.getElem?_take, if_pos (by omega)]
  refine ⟨by omega, .ready, [(2, .ptr H.length 0), (6, .fn (.func 141) [] [.ptr b 0])], ?_, .inl ⟨rfl, ?_⟩⟩
  ·rw [hg2, ht, List.getElem?_append_right (by rw [hAl]; omega), hAl]
   simp
  ·have ht2 : (H'.set (H.length + 2) .dead).take (H.length + 2) = H ++ [.cells [.vec (H.length + 1) ks.length], .vec 1 (ks.map sI)] := by
    rw [List.take_set_of_le (Nat.le_refl _)]
    have : H'.take (H.length + 2) = (H'.take (H.length + 3)).take (H.length + 2) := by rw [List.take_take]; congr 1; omega
    rw [this, ht, hset, List.take_append]
    simp
    exact List.take_of_length_le (by omega)
   refine yr [2] (H.length + 2) (by omega) (by simp; omega) (by show (decide (H.length < H.length + 2) && true) = true; simp) ?_ ?_
   ·rw [ht2, List.all_append, yz (m := H.length) (by omega) hu]
    simp [SObj.under, SV.under, SV.under.allUnder, jz (f := sI) (fun _ => rfl)]
   ·rw [ht2]
    (refine wv [777, 12] 1000 ?_; conv => whnf)
    refine xq (v := .vec (H.length + 1) ks.length) (cs := [.vec (H.length + 1) ks.length]) rfl rfl rfl rfl (by simp) rfl ?_
    (refine za ?_; conv => whnf)
    exact hK _ _ ⟨ks, hp, rfl, by simp, by rw [List.take_of_length_le (by simp)]⟩
theorem zvi {H : List SObj} {es : List (Int × SV)} {m b : Nat} (hb : H[b]? = some (.cells [.map m])) (hm : H[m]? = some (.mapI .i64 es)) (hmb : m ≠ b) (hu : H.all (SObj.under H.length) = true) (hsz : es.length <= 1073741824) :
  SCall Tryz.prog G 140 [.fn (.func 142) [] [.ptr b 0]] H (fun r H' => ∃ ks : List Int, ks.Perm (es.map (·.1)) /\ r = .vec (H.length + 1) ks.length /\ H.length + 2 <= H'.length /\ H'.take (H.length + 2) = H ++ [.cells [.vec (H.length + 1) ks.length], .vec 1 (ks.map sI)]) := by
 refine yy Tryz.func140 rfl (by rw [Tryz.ntmps140]; simp) ?_
 intro E hH hK
 (refine zh ?_; conv => whnf)
 refine we rfl rfl rfl rfl rfl rfl ((zyi G hb hm hmb hu hsz).mono ?_)
 rintro r H' ⟨ks, hp, rfl, hl, ht⟩
 refine ⟨by omega, ?_⟩
 (refine za ?_; conv => whnf)
 exact hK _ _ ⟨ks, hp, rfl, hl, ht⟩
theorem zyl {H : List SObj} {es : List (Int × SV)} {m b : Nat} (hb : H[b]? = some (.cells [.map m])) (hm : H[m]? = some (.mapI .i64 es)) (hmb : m ≠ b) (hu : H.all (SObj.under H.length) = true) (hsz : es.length <= 1073741824) :
  SCall Tryz.prog G 101 [.fn (.func 142) [] [.ptr b 0]] H (fun r H' => r = .imm (dInts (jf (es.map (·.1)))) /\ H' = H) := by
 refine yy Tryz.func101 rfl (by rw [Tryz.ntmps101]; simp) ?_
 intro E hH hK
 (refine zh ?_; conv => whnf)
 refine we rfl rfl rfl rfl rfl rfl ((zvi G hb hm hmb hu hsz).mono ?_)
 rintro r H' ⟨ks, hp, rfl, hl, ht⟩
 refine ⟨by omega, ?_⟩
 have hkl : ks.length = es.length := by rw [hp.length_eq]; simp
 have hg1 : H'[H.length + 1]? = some (.vec 1 (ks.map sI)) := by
  have : H'[H.length + 1]? = (H'.take (H.length + 2))[H.length + 1]? := by rw [List.getElem?_take, if_pos (by omega)]
  rw [this, ht]
  simp
 (refine za ?_; conv => whnf)
 refine we rfl rfl rfl rfl rfl rfl ((zmz G (H.length + 1) ks H' hg1 (by omega)).mono ?_)
 rintro r H2 ⟨rfl, rfl⟩
 refine ⟨by simp, ?_⟩
 have hsl : (jf ks).length = ks.length := by simp
 rw [<- zyj hp] at hK
 generalize jf ks = ss at hK hsl ⊢
 have hg2 : (H'.set (H.length + 1) (.vec 1 (ss.map sI)))[H.length + 1]? = some (.vec 1 (ss.map sI)) := List.getElem?_set_self (by omega)
 have hc := zmj (ss.map dI)
 rw [List.length_map, hsl] at hc
 have ht2 : ((H'.set (H.length + 1) (.vec 1 (ss.map sI))).set (H.length + 1) .dead).take H.length = H := by
  rw [List.set_set, List.take_set_of_le (by omega)]
  have : H'.take H.length = (H'.take (H.length + 2)).take H.length := by rw [List.take_take]; congr 1; omega
  rw [this, ht]
  simp
 refine qi (t' := [(3, .imm (dInts ss))]) (H' := H) (fun k h => ydf 3 (H.length + 1) ks.length 1 (cs := ss.map sI) (ds := ss.map dI) rfl hg2 (by simp [SV.one]) (by rw [show ss.map sI = (ss.map dI).map SV.imm by simp]; exact zos _) (by simp [hsl]) (Nat.le_refl _) ?_) ?_
 ·refine yr [3] H.length (by omega) (by simp; omega) rfl (by rw [ht2]; exact hu) ?_
  rw [ht2, hc]
  exact cast (by simp [dInts]; rfl) h
 ·(refine za ?_; conv => whnf)
  exact hK _ _ ⟨rfl, rfl⟩
theorem zvj {H : List SObj} {es : List (Int × SV)} {m b : Nat} (hb : H[b]? = some (.cells [.map m])) (hm : H[m]? = some (.mapI .i64 es)) (hmb : m ≠ b) (hu : H.all (SObj.under H.length) = true) (hsz : es.length <= 1073741824) :
  SCall Tryz.prog G 140 [.fn (.func 141) [] [.ptr b 0]] H (fun r H' => ∃ ks : List Int, ks.Perm (es.map (·.1)) /\ r = .vec (H.length + 1) ks.length /\ H.length + 2 <= H'.length /\ H'.take (H.length + 2) = H ++ [.cells [.vec (H.length + 1) ks.length], .vec 1 (ks.map sI)]) := by
 refine yy Tryz.func140 rfl (by rw [Tryz.ntmps140]; simp) ?_
 intro E hH hK
 (refine zh ?_; conv => whnf)
 refine we rfl rfl rfl rfl rfl rfl ((zyk G hb hm hmb hu hsz).mono ?_)
 rintro r H' ⟨ks, hp, rfl, hl, ht⟩
 refine ⟨by omega, ?_⟩
 (refine za ?_; conv => whnf)
 exact hK _ _ ⟨ks, hp, rfl, hl, ht⟩
theorem zym {H : List SObj} {es : List (Int × SV)} {m b : Nat} (hb : H[b]? = some (.cells [.map m])) (hm : H[m]? = some (.mapI .i64 es)) (hmb : m ≠ b) (hu : H.all (SObj.under H.length) = true) (hsz : es.length <= 1073741824) :
  SCall Tryz.prog G 101 [.fn (.func 141) [] [.ptr b 0]] H (fun r H' => r = .imm (dInts (jf (es.map (·.1)))) /\ H' = H) := by
 refine yy Tryz.func101 rfl (by rw [Tryz.ntmps101]; simp) ?_
 intro E hH hK
 (refine zh ?_; conv => whnf)
 refine we rfl rfl rfl rfl rfl rfl ((zvj G hb hm hmb hu hsz).mono ?_)
 rintro r H' ⟨ks, hp, rfl, hl, ht⟩
 refine ⟨by omega, ?_⟩
 have hkl : ks.length = es.length := by rw [hp.length_eq]; simp
 have hg1 : H'[H.length + 1]? = some (.vec 1 (ks.map sI)) := by
  have : H'[H.length + 1]? = (H'.take (H.length + 2))[H.length + 1]? := by rw [List.getElem?_take, if_pos (by omega)]
  rw [this, ht]
  simp
 (refine za ?_; conv => whnf)
 refine we rfl rfl rfl rfl rfl rfl ((zmz G (H.length + 1) ks H' hg1 (by omega)).mono ?_)
 rintro r H2 ⟨rfl, rfl⟩
 refine ⟨by simp, ?_⟩
 have hsl : (jf ks).length = ks.length := by simp
 rw [<- zyj hp] at hK
 generalize jf ks = ss at hK hsl ⊢
 have hg2 : (H'.set (H.length + 1) (.vec 1 (ss.map sI)))[H.length + 1]? = some (.vec 1 (ss.map sI)) := List.getElem?_set_self (by omega)
 have hc := zmj (ss.map dI)
 rw [List.length_map, hsl] at hc
 have ht2 : ((H'.set (H.length + 1) (.vec 1 (ss.map sI))).set (H.length + 1) .dead).take H.length = H := by
  rw [List.set_set, List.take_set_of_le (by omega)]
  have : H'.take H.length = (H'.take (H.length + 2)).take H.length := by rw [List.take_take]; congr 1; omega
  rw [this, ht]
  simp
 refine qi (t' := [(3, .imm (dInts ss))]) (H' := H) (fun k h => ydf 3 (H.length + 1) ks.length 1 (cs := ss.map sI) (ds := ss.map dI) rfl hg2 (by simp [SV.one]) (by rw [show ss.map sI = (ss.map dI).map SV.imm by simp]; exact zos _) (by simp [hsl]) (Nat.le_refl _) ?_) ?_
 ·refine yr [3] H.length (by omega) (by simp; omega) rfl (by rw [ht2]; exact hu) ?_
  rw [ht2, hc]
  exact cast (by simp [dInts]; rfl) h
 ·(refine za ?_; conv => whnf)
  exact hK _ _ ⟨rfl, rfl⟩
end Go.Proofs.YtblpjknmhajcgaaGreatDoor
namespace Go.Sh
def znw (ops : Array Oper) (listed : Array Bool) : List Nat :=
 (List.range ops.size).filter fun i => !listed.getD i true && ((ops[i]?).map (·.after.all fun e => !Region.binds .any e || listed.getD e.on false)).getD false
def zyn (ops : Array Oper) : Nat -> Array Bool -> List (List Nat)
 | 0, _ => [[]]
 | n + 1, listed => match znw ops listed with
  | [] => [[]]
  | r :: rs => (r :: rs).flatMap fun i => (zyn ops n (listed.setIfInBounds i true)).map (i :: ·)
theorem ypq (ops : Array Oper) : ∀ (fuel t : Nat) (listed : Array Bool), Region.linearise.go .any ops fuel t listed [] ∈ zyn ops fuel listed
  | 0, t, listed => by simp [Region.linearise.go, zyn]
  | fuel + 1, t, listed => by
    simp only [Region.linearise.go, zyn]
    change (match (znw ops listed)[t % (znw ops listed).length]? with
      | some i => Region.linearise.go .any ops fuel (t / (znw ops listed).length) (listed.setIfInBounds i true) [i]
      | none => [].reverse) ∈ _
    cases hi : (znw ops listed)[t % (znw ops listed).length]? with
    | none =>
      cases hr : znw ops listed with
      | nil => simp
      | cons x xs =>
        rw [hr] at hi
        have hlt : t % (x :: xs).length < (x :: xs).length := Nat.mod_lt _ (by simp)
        simp at hi
        simp at hlt
        omega
    | some i =>
      have hm := List.mem_of_getElem? hi
      cases hr : znw ops listed with
      | nil => rw [hr] at hm; cases hm
      | cons x xs =>
        rw [hr] at hm
        simp only []
        rw [linearise_go_acc, List.reverse_singleton, List.singleton_append]
        refine List.mem_flatMap.2 ⟨i, hm, List.mem_map.2 ⟨_, ypq ops fuel _ _, rfl⟩⟩
def runsOf (ops : Array Oper) : List (List Nat) := zyn ops ops.size (Array.replicate ops.size false)
section
variable {P : Program} {G : List (Nat × D)} {fn : Func} {rd : Bool} {E : En P G fn rd} {t : List (Nat × SV)} {H : List SObj} {k : List Item}
theorem ykt {id : Nat} {all : Array Oper} (hm : P.follows .mixedOrders = true) {L : List (List Nat)} (hL : runsOf all = L) (h : ∀ l ∈ L, SW E (.inRegion all l :: k) t H) : SW E (.code (.region id all true) :: k) t H := by
 subst hL
 refine ⟨fun a w I β cs hs => ?_⟩
 have hH1 : HeapOK G { w with drawn := w.drawn + 1 } I β H := hs.heap.grow (fun _ _ => rfl) (fun _ _ h => h) (fun _ _ h => .inl h) hs.heap.inI
 have hE1 : Ext H.length w I β H { w with drawn := w.drawn + 1 } I β H := .grow hs.heap (fun _ _ => rfl) (Nat.le_refl _) (fun _ _ h => h) (fun _ _ h => .inl h)
 refine .of_steps (.one zbu) ?_
 simp only [Region.schedule, hm, Bool.true_or, if_true]
 refine (h _ (ypq all _ _ _)).run a _ I β cs ?_
 exact ⟨hH1, fun n => (hs.tmps n).ext (by rw [hs.heap.len]; exact hE1), hs.size, hs.defers.ext hE1, hs.ext.trans (hE1.weaken hs.hlen), hs.hlen⟩
theorem ybb {b j : Nat} {all : Array Oper} {o : Oper} {rest : List Nat} {fx : Operand} {args : Array Operand} {tys : Array TypeId} {s : LS} {f : FuncId} {n : Nat} {tL : List (Nat × SV)} {ps : Array Tmp} {asg bd : Code}
  (ho : all[j]? = some o) (hop : o.op = .call ⟨.value fx, args, tys⟩) (hw : zy all t o.guard = some true) (hd : yf fn.ntmps o.dst = true) (hf : zn G t fx = .yld b) (hH : H[b]? = some (.loop s f n tL ps asg bd)) (hps : args.size = ps.size)
  {argv : List SV} (hargs : args.toList.map (zn G t) = argv)
  (hc : SYield P G b argv H (fun res H' => H.length <= H'.length /\ SW E (.inRegion all rest :: k) (wm t o.dst (.imm (.val (.bool res)))) H')) : SW E (.inRegion all (j :: rest) :: k) t H := by
 subst hargs
 refine ⟨fun a w I β cs hs => ?_⟩
 have hwant := jl hw hs
 have hfr := hs.eval fx
 rw [hf] at hfr
 generalize hfv : a.eval fx = fv at hfr
 cases hfr with
 | yld _ l hbl =>
 obtain ⟨r, q1, q2, q3, q4, q5, q6, q7, q8, q9⟩ := hs.heap.obj b _ _ hH hbl
 have hrun : (execOp a.eval o).run P w = .ok (.round l r.fn ((r.params.zip (args.map a.eval)).foldl (fun tmps (t, a) => tmps.setIfInBounds t a) r.tmps) r.assign r.body) w := by
  obtain ⟨dst, op, type, pos, after, guard⟩ := o
  simp only at hop
  subst hop
  simp only [execOp, resolve, hfv, Deferred.ofValue, Sem.run_bind, Sem.run_pure, Result.andThen_ok, invoke]
  have := run_yield (P := P) (args := #[] ++ args.map a.eval) q1 (by simp [hps, q5])
  simpa using this
 have hreps : Reps w I β (args.map a.eval).toList (args.toList.map (zn G t)) := by simpa using zei hs.eval args.toList
 obtain ⟨res, w', ⟨I', β', H', ⟨hl, hsw⟩, hH', hext⟩, hsteps⟩ := hc w I β l r _ hs.heap hbl q1 hreps (E.at a (.inRegion all (j :: rest) :: k)) cs
 have hg := zcs (P := P) (b := E.base) (ro := E.ro) (k := k) (cs := cs) (w := w) (rest := rest) ho hwant (.inr fun c e => by rw [hop] at e; cases e)
 have henter : step P (lone (E.at a (.inRegion all (j :: rest) :: k)) cs w) =
   .next (lone (Frame.round l r.fn ((r.params.zip (args.map a.eval)).foldl (fun tmps (t, a) => tmps.setIfInBounds t a) r.tmps) r.assign r.body .normal) (E.at a (.inRegion all (j :: rest) :: k) :: cs) w) :=
  step_lone_go (by unfold En.at; rw [hg]; simp only [stepG.apply, Sem.runT_eq, hrun, if_true, GStep.bare_after]; rfl)
 have hfin : (E.at a (.inRegion all (j :: rest) :: k)).finish (.bool res) = E.at (a.put o.dst (.bool res)) (.inRegion all rest :: k) := by
  unfold En.at; rw [jx, ho]; rfl
 rw [hfin] at hsteps
 exact .of_steps (.head henter hsteps) (hsw.run _ w' I' β' cs (hs.put hd (.imm (.val _)) hH' hext hl))
theorem yqy {f : FuncId} {args : List SV} {H0 : List SObj} {K : SV -> List SObj -> Prop} (hargs : args.all (SV.under H0.length) = true) (hH0 : H0.all (SObj.under H0.length) = true)
  (h : SCall P G f args H0 (fun r H' => H0.length <= H'.length /\ r.under H0.length = true /\ (H'.take H0.length).all (SObj.under H0.length) = true /\ K r (H'.take H0.length))) : SPre P G f args H0 K := by
 intro X w I β vs hH hv
 have hs := hH.small hH0
 refine (h w I (β.take H0.length) vs hs (zss hv hargs)).mono ?_
 rintro e w' ⟨v, r, I', β1, H', rfl, ⟨hl, hr, hu1, hK⟩, g1, g2, g3⟩
 obtain ⟨q1, q2⟩ := hH.whole (H1 := H') hl hu1 g2 g3
 have hlen1 : β1.length = H'.length := g2.len
 refine ⟨v, r, I', _, _, rfl, ⟨H'.take H0.length, hK, by simp; omega, rfl⟩, ?_, q1, q2⟩
 refine (zxc g1 hr).mono_below (fun _ _ h => h) (fun _ _ _ => rfl) (m := H0.length) (fun b x hb hx => ?_) hr
 exact ⟨x, by rw [List.getElem?_append_left (lt_of_getElem? hx)]; exact hx, x.le_refl⟩
theorem yku {all : Array Oper} {o : Oper} {rest : List Oper} {done : List Eff} {K : List SObj} {mm ty kt et b : Nat} {z : Value} {x ix : Operand} {α : Type} {kk : IntKind} {i : Int} {l : List (Int × α)} (f : α -> SV) {v : SV} (hop : o.op = .lookup ty x ix false)
  (hw : zy all t o.guard = some true) (hd : yf fn.ntmps o.dst = true) (hx : zn G t x = .map b) (hi : zn G t ix = .imm (.val (.int kk i))) (hu : P.underlying ty = some (.map kt et)) (hk : P.underlying kt = some (.int kk)) (hz : je P et = some z)
  (hm : mm <= K.length) (hb : K[b]? = some (.mapI kk (zby f l))) (hv : ((zo i l).map f).getD (qk z) = v) (h : SWe E mm all rest k (wm t o.dst v) K (done ++ [⟨v, [b], none⟩])) : SWe E mm all (o :: rest) k t K done := by
 refine jn ⟨v, [b], none⟩ hw hd hm (fun K' _ ha => ?_) h
 have hb' : K'[b]? = some (.mapI kk (zby f l)) := by rw [ha b (.inl (by simp))]; exact hb
 rw [hop]
 have := zkz (G := G) (t := t) (P := P) (ok := false) (f := f) hx hi hb' hu hk hz
 rw [this, hv]
 rfl
end
open Go.RowKit
section
variable {P : Program} {G : List (Nat × D)} {w w' : World} {I : Imm} {β : List Bnd} {H : List SObj}
theorem zyo (h : Below w.heap.size w w') : ∀ c, c < w.heap.size -> w'.heap[c]? = w.heap[c]? := fun c hc => h.block c hc
theorem ykv {e : TypeId} {v : Value} {n : Nat} {l : List Int} (hH : HeapOK G w I β H) (hrow : w'.ownsRow w.heap.size e 1 v n (l.map (Value.int .i64))) (hb : Below w.heap.size w w') :
  ∃ I', Rep w' I' β v (.imm (dInts l)) /\ HeapOK G w' I' β H /\ Ext H.length w I β H w' I' β H := by
 obtain ⟨hlen, hcase⟩ := hrow
 have hn : l.length = n := by simpa using hlen
 have hold := zyo hb
 have hen : zeq w w' := ⟨hb.os, hb.output⟩
 rcases hcase with ⟨rfl, h0⟩ | ⟨g, cap, cur, rfl, hg, hc, h1, h2, h3, h4⟩
 ·have : l = [] := List.length_eq_zero_iff.1 (by omega)
  subst this
  refine ⟨I, .imm (.islNil 1), hH.grow hold (fun _ _ h => h) (fun _ _ h => .inl h) (fun c o hc => Nat.lt_of_lt_of_le (hH.inI c o hc) hb.size), .grow hH hold hb.size (fun _ _ h => h) (fun _ _ h => .inl h) hen⟩
 ·have hlt := qn hc
  refine ⟨fun c o => I c o \/ c = g, ?_, hH.grow hold (fun _ _ h => .inl h) (fun c o h => h.imp id (fun e => by omega)) (fun c o h => ?_), .grow hH hold hb.size (fun _ _ h => .inl h) (fun c o h => h.imp id (fun e => by omega)) hen⟩
  ·subst hn
   have key : ∀ i (hi : i < l.length), w'.cell? ⟨g, 0 + i * 1 + 0, none⟩ = some (.int .i64 (l[i]'hi)) := by
    intro i hi
    rw [yv hc]
    have h5 : (cur.toList.take (l.length * 1))[i]? = some (.int .i64 (l[i]'hi)) := by rw [h4, List.getElem?_map, List.getElem?_eq_getElem hi]; rfl
    rw [List.getElem?_take, if_pos (by omega)] at h5
    simpa using h5
   have hr : DRep w' (fun c o => I c o \/ c = g) (.slice (some ⟨g, 0, none⟩) (l.map fun n => [dI n]).length cap) (.isl 1 (l.map fun n => [dI n])) := by
    refine .isl g 0 cap 1 _ (fun i _ => .int .i64 (l.getD i 0)) (by simpa using h1) h2 (fun i h => by simp) (fun i j hi hj => ?_) (fun i j hi hj => ?_)
    ·have hi' : i < l.length := by simpa using hi
     have hj0 : j = 0 := by omega
     subst hj0
     refine ⟨.inr rfl, ?_, rfl⟩
     rw [key i hi']
     simp [hi']
    ·have hi' : i < l.length := by simpa using hi
     have hj0 : j = 0 := by simp at hj; omega
     subst hj0
     simp [hi']
     exact .val _
   rw [List.length_map] at hr
   exact .imm hr
  ·rcases h with h | rfl
   ·exact Nat.lt_of_lt_of_le (hH.inI c o h) hb.size
   ·exact hlt
theorem yqz {e : TypeId} {v : Value} {n : Nat} {l : List Int} (hH : HeapOK G w I β H) (hrow : w'.ownsRow w.heap.size e 1 v n (l.map (Value.int .i64))) (hb : Below w.heap.size w w') :
  Rep w' I (β ++ [.tok v]) v (.vec H.length l.length) /\ HeapOK G w' I (β ++ [.tok v]) (H ++ [.vec 1 (l.map sI)]) /\ Ext H.length w I β H w' I (β ++ [.tok v]) (H ++ [.vec 1 (l.map sI)]) := by
 obtain ⟨hlen, hcase⟩ := hrow
 have hn : l.length = n := by simpa using hlen
 have hold := zyo hb
 have hen : zeq w w' := ⟨hb.os, hb.output⟩
 have hg1 : HeapOK G w' I β H := hH.grow hold (fun _ _ h => h) (fun _ _ h => .inl h) (fun c o hc => Nat.lt_of_lt_of_le (hH.inI c o hc) hb.size)
 have he1 : Ext H.length w I β H w' I β H := .grow hH hold hb.size (fun _ _ h => h) (fun _ _ h => .inl h) hen
 have hbl : (β ++ [Bnd.tok v])[H.length]? = some (.tok v) := by rw [<- hH.len]; simp
 rcases hcase with ⟨rfl, h0⟩ | ⟨g, cap, cur, rfl, hg, hc, h1, h2, h3, h4⟩
 ·have : l = [] := List.length_eq_zero_iff.1 (by omega)
  subst this
  refine ⟨.vec H.length 0 _ _ 0 hbl ⟨_, _, rfl⟩ (Nat.le_refl _) ⟨_, _, _, rfl⟩ (fun _ => rfl), hg1.push (.inl ⟨rfl, rfl⟩) (fun b c h => by cases h), he1.trans (.push hg1 (fun c h => by cases h))⟩
 ·subst hn
  have hno : ∀ o, ¬ I g o := fun o hi => by have := hH.inI g o hi; omega
  refine ⟨.vec H.length _ _ _ l.length hbl ⟨_, _, rfl⟩ (Nat.le_refl _) ⟨_, _, _, rfl⟩ (fun _ => rfl), hg1.push (.inr ⟨g, l.length, cap, cur, e, rfl, hc, h3, h1, h2, by simp, fun j hj hj' => ?_, hno⟩) (fun b c h ho => ?_), ?_⟩
  ·have hjl : j < l.length := by simpa using hj
   have h5 : (cur.toList.take (l.length * 1))[j]? = some (.int .i64 (l[j]'hjl)) := by rw [h4, List.getElem?_map, List.getElem?_eq_getElem hjl]; rfl
   rw [List.getElem?_take, if_pos (by omega)] at h5
   have h6 : cur[j]'hj' = .int .i64 (l[j]'hjl) := by
    have : cur.toList[j]? = some (cur[j]'hj') := by simp
    rw [this] at h5
    exact Option.some.inj h5
   rw [h6]
   simp only [List.getElem_map]
   exact .imm (.val _)
  ·cases h
   have := hH.owns_lt ho
   exact absurd hg (Nat.not_le.2 this)
  ·refine { imm := fun _ _ h => h, cell := he1.cell, keep := .push _ _ _, old := fun c hc _ => hold c hc, own := ?_, new := fun _ _ h => .inl h, size := hb.size, env := hen }
   rintro b c ⟨o', x', q1, q2, q3, q4⟩
   rcases ju q3 with ⟨hlt, q3⟩ | ⟨rfl, rfl⟩
   ·rcases ju q1 with ⟨_, q1⟩ | ⟨rfl, rfl⟩
    ·exact .inl ⟨b, o', x', q1, q2, q3, q4⟩
    ·exact absurd hlt (by rw [hH.len]; omega)
   ·cases q4; exact .inr hg
end
end Go.Sh
namespace Go.Proofs.YtblpjknmhajcgaaGreatDoor
open Go Go.Sh Go.RowKit
variable (G : List (Nat × D))
theorem zvk {H : List SObj} {b : Nat} {l : List Int} (hb : H[b]? = some (.cells (l.map sI))) (hsz : l.length <= 1073741824) :
  SCall Tryz.prog G 63 [.osl b 0 l.length] H (fun r H' => r = .imm (dInts l) /\ H' = H) := by
 intro w I β vs hH hv
 obtain ⟨v, hvs, hr⟩ := hv.one
 have hvv : vs = #[v] := by apply Array.ext'; simpa using hvs
 subst hvv
 cases hr with
 | osl _ c _ _ cap hbc hcap hmax =>
 obtain ⟨cur, T, a1, a2, a3, a4⟩ := hH.obj b _ _ hb hbc
 refine (Go.Proofs.Tryz.slices_Clone_int c 0 l.length cap l w (Nat.le_refl _) (by omega) (fun j hj => ?_)).mono ?_
 ·rw [Nat.zero_add, yv a1]
  have hjc : j < cur.size := by rw [a2]; simpa using hj
  have := a3 j (by simpa using hj) hjc
  rw [Array.getElem?_eq_getElem hjc]
  simp only [List.getElem_map] at this
  generalize cur[j] = q at this
  cases this with | imm h => cases h; simp [hj]
 ·rintro e w' ⟨v', rfl, hrow, _, hbel⟩
  rw [List.take_of_length_le (Nat.le_refl _)] at hrow
  obtain ⟨I', g1, g2, g3⟩ := ykv hH hrow hbel
  exact ⟨v', _, I', β, H, rfl, ⟨rfl, rfl⟩, g1, g2, g3⟩
theorem ydv {w : World} {I : Imm} {v : Value} {l : List Int} (hd : DRep w I v (dInts l)) (hsz : l.length <= 1073741824) :
  Calls Tryz.prog 63 #[v] w fun e w' => ∃ v', e = .returned v' /\ w'.ownsRow w.heap.size 3 1 v' l.length (l.map (Value.int .i64)) /\ Below w.heap.size w w' := by
 unfold dInts at hd
 generalize hrows : (l.map fun n => [dI n]) = rows at hd
 cases hd with
 | islNil =>
  have : l = [] := by simpa using hrows
  subst this
  refine (Go.Proofs.Tryz.slices_Clone_int_nil 0 0 w).mono ?_
  rintro e w' ⟨rfl, rfl⟩
  exact ⟨_, rfl, ⟨rfl, .inl ⟨rfl, rfl⟩⟩, .refl _ _⟩
 | islEmpty a =>
  have : l = [] := by simpa using hrows
  subst this
  refine (Go.Proofs.Tryz.slices_Clone_int_zero a 0 w).mono ?_
  rintro e w' ⟨v', rfl, h1, _, h2⟩
  exact ⟨_, rfl, h1, h2⟩
 | isl b o cap _ _ V h1 h2 h3 h4 h5 =>
  subst hrows
  rw [List.length_map]
  refine (Go.Proofs.Tryz.slices_Clone_int b o l.length cap l w (Nat.le_refl _) (by omega) (fun j hj => ?_)).mono ?_
  ·have hj' : j < (l.map fun n => [dI n]).length := by simpa using hj
   obtain ⟨_, g2, _⟩ := h4 j 0 hj' (by omega)
   have g3 := h5 j 0 hj' (by simp)
   simp only [Nat.mul_one, Nat.add_zero] at g2
   rw [g2]
   simp only [List.getElem_map, List.getElem_cons_zero] at g3
   generalize V j 0 = q at g3
   cases g3
   simp [hj]
  ·rintro e w' ⟨v', rfl, hrow, _, hbel⟩
   rw [List.take_of_length_le (Nat.le_refl _)] at hrow
   exact ⟨v', rfl, hrow, hbel⟩
theorem zvl (l : List Int) (hsz : l.length <= 1073741824) : yb Tryz.prog G 63 [.imm (dInts l)] (.imm (dInts l)) := by
 intro H w I β vs hH hv
 obtain ⟨v, hvs, hr⟩ := hv.one
 have hvv : vs = #[v] := by apply Array.ext'; simpa using hvs
 subst hvv
 cases hr with | imm hd =>
 refine (ydv hd hsz).mono ?_
 rintro e w' ⟨v', rfl, hrow, hbel⟩
 obtain ⟨I', g1, g2, g3⟩ := ykv hH hrow hbel
 exact ⟨v', _, I', β, H, rfl, ⟨rfl, rfl⟩, g1, g2, g3⟩
theorem zvm (l : List Int) (H : List SObj) (hsz : l.length <= 1073741824) : SCall Tryz.prog G 63 [.imm (dInts l)] H (fun r H' => r = .vec H.length l.length /\ H' = H ++ [.vec 1 (l.map sI)]) := by
 intro w I β vs hH hv
 obtain ⟨v, hvs, hr⟩ := hv.one
 have hvv : vs = #[v] := by apply Array.ext'; simpa using hvs
 subst hvv
 cases hr with | imm hd =>
 refine (ydv hd hsz).mono ?_
 rintro e w' ⟨v', rfl, hrow, hbel⟩
 obtain ⟨g1, g2, g3⟩ := yqz hH hrow hbel
 exact ⟨v', _, I, _, _, rfl, ⟨rfl, rfl⟩, g1, g2, g3⟩
theorem ybc (l : List Int) : (Go.Lib.compact l).length <= l.length := by
 unfold Go.Lib.compact Go.Lib.compactUpTo
 rw [List.length_map]
 exact Nat.le_trans (List.length_filter_le _ _) (by simp)
theorem ykw {G : List (Nat × D)} {w w' : World} {I : Imm} {β : List Bnd} {H : List SObj} {b c : Nat} {o0 : SObj} {x0 : Bnd} (hH : HeapOK G w I β H) (hb : H[b]? = some o0) (hd : o0 ≠ .dead) (hx : β[b]? = some x0) (hxc : x0.block = some c)
  (hold : ∀ c', c' < w.heap.size -> c' ≠ c -> w'.heap[c']? = w.heap[c']?) (hsz : w.heap.size <= w'.heap.size) (hnI : ∀ o, ¬ I c o) (hen : zeq w w') :
  HeapOK G w' (fun c' o => I c' o \/ c' = c) β (H.set b .dead) /\ Ext H.length w I β H w' (fun c' o => I c' o \/ c' = c) β (H.set b .dead) := by
 have hbl := lt_of_getElem? hb
 have hown : qj H β b c := ⟨_, _, hb, hd, hx, hxc⟩
 have hcellI : ∀ c' o, I c' o -> w'.cell? ⟨c', o, none⟩ = w.cell? ⟨c', o, none⟩ := fun c' o hi => yl (hold c' (hH.inI c' o hi) (fun e => hnI o (e ▸ hi))) o
 have hsub : ∀ b' c', qj (H.set b .dead) β b' c' -> b' ≠ b /\ qj H β b' c' := by
  rintro b' c' ⟨o, x, h1, h2, h3, h4⟩
  have hne : b' ≠ b := by
   rintro rfl
   rw [List.getElem?_set_self hbl] at h1
   cases h1; exact h2 rfl
  rw [List.getElem?_set_ne (Ne.symm hne)] at h1
  exact ⟨hne, o, x, h1, h2, h3, h4⟩
 refine ⟨⟨by simp [hH.len], fun b' o x h1 h2 => ?_, fun b1 b2 c' h1 h2 => hH.inj b1 b2 c' (hsub b1 c' h1).2 (hsub b2 c' h2).2, fun c' o hi => ?_, fun g d hg => (hH.glob g d hg).mono (fun _ _ h => .inl h) hcellI⟩,
  { imm := fun _ _ h => .inl h, cell := hcellI, keep := .refl _ _, old := fun c' hc' hn => hold c' hc' (fun e => hn b (e ▸ hown)), own := fun b' c' g => .inl ⟨b', (hsub b' c' g).2⟩, new := fun c' o hi => ?_, size := hsz, env := hen }⟩
 ·by_cases hne : b' = b
  ·subst hne
   rw [List.getElem?_set_self hbl] at h1
   cases h1; trivial
  ·rw [List.getElem?_set_ne (Ne.symm hne)] at h1
   by_cases hdead : o = .dead
   ·subst hdead; trivial
   ·have hcc : ∀ c', x.block = some c' -> c' ≠ c := fun c' hc e => by
     subst e
     exact hne (hH.inj b' b _ ⟨o, x, h1, hdead, h2, hc⟩ hown)
    refine (hH.obj b' o x h1 h2).mono (fun c' hc => hold c' ((hH.obj b' o x h1 h2).block_lt hdead hc) (hcc c' hc)) (fun _ _ h => .inl h) hcellI (.refl _ _) (fun c' q hc hi => ?_)
    rcases hi with h3 | h3
    ·exact h3
    ·exact absurd h3 (hcc c' hc)
 ·rcases hi with h3 | rfl
  ·exact Nat.lt_of_lt_of_le (hH.inI c' o h3) hsz
  ·exact Nat.lt_of_lt_of_le (hH.owns_lt hown) hsz
 ·rcases hi with h3 | rfl
  ·exact .inl h3
  ·exact .inr (.inl ⟨b, hown⟩)
theorem zqu (b : Nat) (l : List Int) (H : List SObj) (hb : H[b]? = some (.vec 1 (l.map sI))) (hsz : l.length <= 1073741824) :
  SCall Tryz.prog G 65 [.vec b l.length] H (fun r H' => r = .imm (dInts (Go.Lib.compact l)) /\ H' = H.set b .dead) := by
 intro w I β vs hH hv
 obtain ⟨v, hvs, hr⟩ := hv.one
 have hvv : vs = #[v] := by apply Array.ext'; simpa using hvs
 subst hvv
 obtain ⟨hbu, hcase⟩ := zho hH hb hr (by simp) (Nat.le_refl _)
 have hcl := ybc l
 rcases hcase with ⟨h0, rfl, _⟩ | ⟨c, cap, cur, T, rfl, a1, a2, a2', hmax, a3, a4⟩
 ·have hl : l = [] := List.length_eq_zero_iff.1 h0
  subst hl
  refine (Go.Proofs.Tryz.slices_Compact_int_empty none 0 w).mono ?_
  rintro e w' ⟨rfl, rfl⟩
  refine ⟨_, .imm (dInts (Go.Lib.compact [])), I, β, _, rfl, ⟨rfl, rfl⟩, .imm (.islNil 1), ?_⟩
  have hbl := lt_of_getElem? hb
  have hsub : ∀ b' c', qj (H.set b .dead) β b' c' -> qj H β b' c' := by
   rintro b' c' ⟨o, x, h1, h2, h3, h4⟩
   have hne : b' ≠ b := by
    rintro rfl
    rw [List.getElem?_set_self hbl] at h1
    cases h1; exact h2 rfl
   rw [List.getElem?_set_ne (Ne.symm hne)] at h1
   exact ⟨o, x, h1, h2, h3, h4⟩
  refine ⟨⟨by simp [hH.len], fun b' o x h1 h2 => ?_, fun b1 b2 c' h1 h2 => hH.inj b1 b2 c' (hsub b1 c' h1) (hsub b2 c' h2), hH.inI, hH.glob⟩,
   { (Ext.refl : Ext H.length w' I β H w' I β H) with own := fun b' c' g => .inl ⟨b', hsub b' c' g⟩ }⟩
  by_cases hne : b' = b
  ·subst hne
   rw [List.getElem?_set_self hbl] at h1
   cases h1; trivial
  ·rw [List.getElem?_set_ne (Ne.symm hne)] at h1
   exact hH.obj b' o x h1 h2
 have htake : cur.toList.take l.length = l.map (Value.int .i64) := by
  apply List.ext_getElem
  ·simp [a2]; omega
  ·intro j h1 h2
   have hj : j < l.length := by simpa using h2
   have hjc : j < cur.size := by rw [a2]; omega
   have := a3 j (by simpa using hj) hjc
   simp only [List.getElem_map] at this
   simp only [List.getElem_take, Array.getElem_toList, List.getElem_map]
   generalize cur[j] = q at this
   cases this with | imm h => cases h; rfl
 refine (Go.Proofs.Tryz.slices_Compact_int c 0 cap l w (holds_of_blockI a1 htake) (by omega) a2').mono ?_
 rintro e w' ⟨rfl, q, rfl⟩
 have hblk := heap_sortedI (w := w) (n := q) (os := #[]) (Go.Lib.compact l ++ List.replicate (l.length - (Go.Lib.compact l).length) 0).toArray a1
 have hgrow := grownBy_sortedI (w := w) (g := c) (n := q) (os := #[]) (Go.Lib.compact l ++ List.replicate (l.length - (Go.Lib.compact l).length) 0).toArray
 rw [Go.Sort.grow_empty] at hblk hgrow
 generalize Go.Sort.putRow (Value.int .i64) (Go.Sort.ahead w q) c 0 (Go.Lib.compact l ++ List.replicate (l.length - (Go.Lib.compact l).length) 0).toArray = w' at hblk hgrow
 have hold : ∀ c', c' < w.heap.size -> c' ≠ c -> w'.heap[c']? = w.heap[c']? := fun c' h1 h2 => hgrow.block c' h1 (fun e => h2 (by cases e; rfl))
 obtain ⟨k1, k2⟩ := ykw hH hb (by simp) hbu rfl hold hgrow.size a4 ⟨hgrow.os, hgrow.output⟩
 refine ⟨_, .imm (dInts (Go.Lib.compact l)), _, β, _, rfl, ⟨rfl, rfl⟩, .imm ?_, k1, k2⟩
 have hr : DRep w' (fun c' o => I c' o \/ c' = c) (.slice (some ⟨c, 0, none⟩) ((Go.Lib.compact l).map fun n => [dI n]).length cap) (.isl 1 ((Go.Lib.compact l).map fun n => [dI n])) := by
  refine .isl c 0 cap 1 _ (fun i _ => .int .i64 ((Go.Lib.compact l).getD i 0)) (by simp; omega) hmax (fun i h => by simp) (fun i j hi hj => ?_) (fun i j hi hj => ?_)
  ·have hi' : i < (Go.Lib.compact l).length := by simpa using hi
   have hj0 : j = 0 := by omega
   subst hj0
   refine ⟨.inr rfl, ?_, rfl⟩
   rw [yv hblk]
   have hic : i < cur.size := by rw [a2]; omega
   simp only [Nat.zero_add, Nat.mul_one, Nat.add_zero, Go.Sort.putCells]
   rw [Array.getElem?_mapIdx, Array.getElem?_eq_getElem hic]
   simp only [Option.map_some]
   rw [if_pos ⟨Nat.zero_le _, by simp; omega⟩]
   simp [hi', List.getElem_append_left, List.getElem?_append_left hi']
  ·have hi' : i < (Go.Lib.compact l).length := by simpa using hi
   have hj0 : j = 0 := by simp at hj; omega
   subst hj0
   simp [hi']
   exact .val _
 rw [List.length_map] at hr
 exact hr
open Go Go.Sh
def fnA : SV := .fn (.func 105) [] [.ptr 26 0, .ptr 27 0, .ptr 29 0, .ptr 33 0, .ptr 31 0, .ptr 34 0]
def WA (X : Nat -> SObj) (s : St) (ch : List (Int × List Int)) (lp : SObj) : List SObj :=
 WH X s ++ [X 24, X 25, .cells [.ptr 2 0], .cells [.ptr 23 0], X 28, .cells [.imm (dInts (ch.map (·.1)))], .cells (ch.map fun e => .imm (dInts e.2)), .cells [.osl 30 0 ch.length], lp, .cells [.yld 32], .cells [fnA]]
theorem ydw {X : Nat -> SObj} (hX : ∀ i, (X i).under 24 = true) (s : St) (ch : List (Int × List Int)) {lp : SObj} (hlp : lp.under 35 = true) : (WA X s ch lp).all (SObj.under 35) = true := by
 unfold WA
 rw [List.all_append, yz (m := 24) (by omega) (zbk hX s)]
 simp only [List.all_cons, List.all_nil, hlp, SObj.under_mono (m := 24) (n := 35) (by omega) _ (hX _), Bool.and_true, Bool.true_and, zyc, jz (f := fun e : Int × List Int => SV.imm (dInts e.2)) (fun _ => rfl)]
 rfl
theorem ydx (X : Nat -> SObj) (s : St) (ch : List (Int × List Int)) (lp : SObj) : (WA X s ch lp).length = 35 := rfl
theorem ykx (X : Nat -> SObj) (s : St) (ch : List (Int × List Int)) (lp : SObj) (i : Nat) (b : Bool) : (WA X s ch lp).set 21 (.cells ((s.ch.set i b).map bvS)) = WA X ⟨s.p, s.ch.set i b, s.vs⟩ ch lp := by simp [WA, WH]
theorem yky (X : Nat -> SObj) (s : St) (ch : List (Int × List Int)) (lp : SObj) (i : Nat) (v : Int) : (WA X s ch lp).set 22 (.cells ((s.vs.set i v).map ivS)) = WA X ⟨s.p, s.ch, s.vs.set i v⟩ ch lp := by simp [WA, WH]
theorem zcx {α : Type} (g : α -> SV) (l : List α) (i : Nat) (h : i < l.length) : l.map g = (l.take i).map g ++ g (l[i]'h) :: (l.drop (i + 1)).map g := by
 have e : l = l.take i ++ l[i]'h :: l.drop (i + 1) := by rw [<- List.drop_eq_getElem_cons h, List.take_append_drop]
 have := congrArg (List.map g) e
 rw [List.map_append, List.map_cons] at this
 exact this
theorem zki {α : Type} (g : α -> SV) (l : List α) (i : Nat) (h : i < l.length) (a : α) : (l.take i).map g ++ g a :: (l.drop (i + 1)).map g = (l.set i a).map g := by
 have h' : i < (l.set i a).length := by simpa using h
 rw [zcx g (l.set i a) i h']
 simp [List.take_set_of_le, List.drop_set_of_lt]
theorem ykz (X : Nat -> SObj) (s : St) (ch : List (Int × List Int)) (lp : SObj) : WH X s ++ List.drop 24 (WA X s ch lp) = WA X s ch lp := rfl
def yra (X : Nat -> SObj) (q : Sr) (ch : List (Int × List Int)) (lp : SObj) (Q : List Int -> List SObj -> Prop) (p : Nat) (rest : List (Int × List Int)) (s : St) : Prop :=
 SCall Tryz.prog G 105 [sI p, .ptr 26 0, .ptr 27 0, .ptr 29 0, .ptr 33 0, .ptr 31 0, .ptr 34 0] (WA X s ch lp)
  (fun r H' => 35 <= H'.length /\ (∀ vs, wx q.conds rest s = some vs -> r = sB false /\ Q vs H') /\ (wx q.conds rest s = none -> r = sB true /\ H'.take 35 = WA X s ch lp))
theorem ygq {Y : Nat -> SObj} (hY : ∀ i, (Y i).under 24 = true) (c : Codex) (vers : List Int) (q : Sr) (ch : List (Int × List Int)) {f0 : FuncId} {n0 : Nat} {tL : List (Nat × SV)} {ps : Array Tmp} {asg bd : Code} (Q : List Int -> List SObj -> Prop)
  (hlp : (SObj.loop .ready f0 n0 tL ps asg bd).under 35 = true) (hps : 1 = ps.size) (hch : ch.length <= 1073741824) (hcz : q.conds.length <= 1073741824) (s : St) (hl : s.ch.length = s.vs.length) (hsz : s.vs.length <= 1073741824) (hc : ∀ x ∈ q.conds, x.ok s.vs.length)
  (hy : SYield Tryz.prog G 32 [.imm (dInts s.vs)] (WA (XS Y (zx c vers q)) s ch (.loop .ready f0 n0 tL ps asg bd)) (fun res H' => res = false /\ 35 <= H'.length /\ Q s.vs H')) :
  yra G (XS Y (zx c vers q)) q ch (.loop .ready f0 n0 tL ps asg bd) Q ch.length [] s := by
 have hX := zdl hY c vers q
 unfold yra
 refine yy Tryz.func105 rfl (by rw [Tryz.ntmps105]; simp) ?_
 intro E hH hK
 simp only [wx] at hK
 (refine zh ?_; conv => whnf)
 refine ys 24 rfl rfl rfl rfl rfl rfl (zhr G hY c vers q s hl hc hcz) ?_
 intro r1 H1 hr _
 obtain ⟨rfl, rfl⟩ := hr
 rw [ykz]
 generalize hv : zab q.conds s = vd at hK
 (refine za ?_; conv => whnf)
 repeat' ((with_reducible refine way ?_ ?_) <;> (intro h; conv => whnf))
 ·rw [if_pos (by assumption)] at hK
  exact hK (sB true) _ ⟨Nat.le_refl _, ⟨fun vs hv => (by cases hv), fun _ => ⟨rfl, rfl⟩⟩⟩
 ·rw [if_neg (by assumption)] at hK
  refine ykt (L := [[0, 1, 2, 3, 4, 5, 6, 7], [1, 0, 2, 3, 4, 5, 6, 7], [1, 2, 0, 3, 4, 5, 6, 7], [1, 2, 3, 0, 4, 5, 6, 7], [1, 2, 3, 4, 0, 5, 6, 7], [1, 2, 3, 4, 5, 0, 6, 7]]) rfl (by kernel_rfl) ?_
  intro l hlm
  simp only [List.mem_cons, List.not_mem_nil, or_false] at hlm
  rcases hlm with rfl | rfl | rfl | rfl | rfl | rfl
  all_goals
   repeat (refine ynh rfl rfl rfl rfl (Nat.le_refl _) ?_)
   refine zsq rfl rfl rfl rfl rfl rfl ((zvk G (b := 22) (l := s.vs) rfl hsz).mono ?_)
   rintro r H' ⟨rfl, rfl⟩
   refine ⟨Nat.le_refl _, ?_⟩
   repeat (refine ynh rfl rfl rfl rfl (Nat.le_refl _) ?_)
   refine ybb rfl rfl rfl rfl rfl rfl hps rfl (hy.mono ?_)
   rintro _ H' ⟨rfl, hl', hQ⟩
   refine ⟨hl', ?_⟩
   refine ynh rfl rfl rfl rfl (Nat.le_refl _) ?_
   refine zkx ?_
   (refine zh ?_; conv => whnf)
   exact hK (sB false) H' ⟨hl', ⟨fun vs hv => by cases hv; exact ⟨rfl, hQ⟩, fun hv => by cases hv⟩⟩
 ·exfalso
  have : ¬ ((ch.length : Int) = (((ch.map (·.1)).map fun n => [dI n]).length : Int)) := by assumption
  simp at this
theorem ydy {s : St} {f : Nat} (h : s.vs.getD f 0 = 0) : s.vs.set f 0 = s.vs := by
 by_cases hf : f < s.vs.length
 ·have : s.vs[f]'hf = 0 := by simpa [hf] using h
  rw [<- this]
  exact List.set_getElem_self hf
 ·rw [List.set_eq_of_length_le (by omega)]
theorem yrb {s : St} {f : Nat} (h : s.ch.getD f false = false) : s.ch.set f false = s.ch := by
 by_cases hf : f < s.ch.length
 ·have : s.ch[f]'hf = false := by simpa [hf] using h
  rw [<- this]
  exact List.set_getElem_self hf
 ·rw [List.set_eq_of_length_le (by omega)]
theorem ybd {Y : Nat -> SObj} (hY : ∀ i, (Y i).under 24 = true) (c : Codex) (vers : List Int) (q : Sr) (ch : List (Int × List Int)) {f0 : FuncId} {n0 : Nat} {tL : List (Nat × SV)} {ps : Array Tmp} {asg bd : Code} (Q : List Int -> List SObj -> Prop)
  (hlp : (SObj.loop .ready f0 n0 tL ps asg bd).under 35 = true) (hch : ch.length <= 1073741824) (hcz : q.conds.length <= 1073741824) (s : St) (hl : s.ch.length = s.vs.length) (hsz : s.vs.length <= 1073741824) (hc : ∀ x ∈ q.conds, x.ok s.vs.length)
  (done : List (Int × List Int)) (f : Int) (vals : List Int) (rest : List (Int × List Int)) (hd : ch = done ++ (f, vals) :: rest) (hf : 0 <= f /\ f < s.vs.length) (hoff : s.ch.getD f.toNat false = false) (hz : s.vs.getD f.toNat 0 = 0) (hvz : vals.length <= 1073741824)
  (ih : ∀ v, yra G (XS Y (zx c vers q)) q ch (.loop .ready f0 n0 tL ps asg bd) Q (done.length + 1) rest (s.put f v)) :
  yra G (XS Y (zx c vers q)) q ch (.loop .ready f0 n0 tL ps asg bd) Q done.length ((f, vals) :: rest) s := by
 have hX := zdl hY c vers q
 have hdl : ch.length = done.length + 1 + rest.length := by rw [hd]; simp; omega
 have hrow : ((ch.map (·.1)).map fun n => [dI n])[((done.length : Nat) : Int).toNat]? = some [dI f] := by simp [hd]
 have hle : ((ch.map (·.1)).map fun n => [dI n]).length = ch.length := by simp
 have hvl : (vals.map fun n => [dI n]).length = vals.length := by simp
 have hfc : f.toNat < s.ch.length := by omega
 have hfv : f.toNat < s.vs.length := by omega
 unfold yra
 refine yy Tryz.func105 rfl (by rw [Tryz.ntmps105]; simp) ?_
 intro E hH hK
 simp only [wx] at hK
 (refine zh ?_; conv => whnf)
 refine ys 24 rfl rfl rfl rfl rfl rfl (zhr G hY c vers q s hl hc hcz) ?_
 intro r1 H1 hr _
 obtain ⟨rfl, rfl⟩ := hr
 rw [ykz]
 generalize hv : zab q.conds s = vd at hK
 generalize hXX : XS Y (zx c vers q) = X at hK hX ih hH ⊢
 (refine za ?_; conv => whnf)
 repeat' ((with_reducible refine way ?_ ?_) <;> (intro h; conv => whnf))
 ·rw [if_pos (by assumption)] at hK
  exact hK (sB true) _ ⟨Nat.le_refl _, ⟨fun vs hv => (by cases hv), fun _ => ⟨rfl, rfl⟩⟩⟩
 ·exfalso
  omega
 rw [if_neg (by assumption)] at hK
 refine zg rfl rfl  hrow ?_
 (refine za ?_; conv => whnf)
 refine zge (i := f.toNat) rfl rfl rfl rfl rfl rfl rfl (by omega) hfc ?_
 refine jo (d := (s.ch.take f.toNat).map bvS) (zz := bvS (s.ch[f.toNat]'hfc)) (r := (s.ch.drop (f.toNat + 1)).map bvS) (v := bvS true) rfl rfl rfl rfl rfl rfl rfl rfl (by show some (SObj.cells (s.ch.map bvS)) = _; rw [<- zcx]) (by show 0 + f.toNat * 1 = _; simp; omega) ?_
 refine Eq.mpr (congrArg (fun h => SWr E _ _ _ _ h) (show _ = WA X ⟨s.p, s.ch.set f.toNat true, s.vs⟩ ch _ by rw [zki _ _ _ hfc]; exact ykx ..)) ?_
 (refine za ?_; conv => whnf)
 refine zge (i := done.length) rfl rfl rfl rfl rfl rfl rfl rfl (by omega) ?_
 refine xq (v := .imm (dInts vals)) rfl rfl rfl rfl rfl (by
  have := yqv (P := Tryz.prog) (ty := 26) (f := fun e : Int × List Int => SV.imm (dInts e.2)) (l := ch) (n := done.length) (d := (0, [])) (by omega) rfl
  rw [show ch.getD done.length (0, []) = (f, vals) by simp [hd]] at this
  exact this) ?_
 (refine za ?_; conv => whnf)
 have e0 : s.put f 0 = ⟨s.p, s.ch.set f.toNat true, s.vs⟩ := by unfold St.put; rw [ydy hz]
 rw [<- e0]
 have hw1 := zm (n := done.length) (by omega)
 refine zf [0, 1, 2, 3, 4, 5, 6, 9, 40, 41, 42] ?_
 refine zt vals (fun i (_ : Int) => [(0, sI done.length), (1, .ptr 26 0), (2, .ptr 27 0), (3, .ptr 29 0), (4, .ptr 33 0), (5, .ptr 31 0), (6, .ptr 34 0), (9, sI f), (40, .imm (dInts vals)), (41, sI (vals.map fun n => [dI n]).length), (42, sI i)])
  (fun _ w => WA X (s.put f w) ch (.loop .ready f0 n0 tL ps asg bd)) (fun dn _ _ => ∀ v ∈ dn, wx q.conds rest (s.put f v) = none) 0 (by simp) ?_ ?_
 ·intro w hno
  have hfc1 : f.toNat < (s.put f w).ch.length := by simp [St.put]; omega
  have hfv1 : f.toNat < (s.put f w).vs.length := by simp [St.put]; omega
  have hnone : List.findSome? (fun v => wx q.conds rest (s.put f v)) vals = none := List.findSome?_eq_none_iff.2 hno
  rw [hnone] at hK
  (refine zh ?_; conv => whnf)
  repeat' ((with_reducible refine way ?_ ?_) <;> (intro h; conv => whnf))
  all_goals try (exfalso; omega)
  (refine ya 0 mixed rfl ?_; refine zc [777, 999] (nx := 35) ?_; conv => whnf)
  refine zqb (i := f.toNat) rfl rfl rfl rfl rfl rfl rfl (by simp [yi, ydx]) (by omega) hfc1 ?_
  (refine zc [777, 999] (nx := 35) ?_; conv => whnf)
  refine zdv (d := ((s.put f w).ch.take f.toNat).map bvS) (zz := bvS ((s.put f w).ch[f.toNat]'hfc1)) (r := ((s.put f w).ch.drop (f.toNat + 1)).map bvS) (v := bvS false) rfl rfl rfl rfl rfl rfl rfl rfl (by simp [yi, ydx]) (by show some (SObj.cells ((s.put f w).ch.map bvS)) = _; rw [<- zcx]) (by show 0 + f.toNat * 1 = _; rw [List.length_map, List.length_take]; omega) ?_
  (refine zc [777, 999] (nx := 35) ?_; conv => whnf)
  refine zqb (i := f.toNat) rfl rfl rfl rfl rfl rfl rfl (by simp [yi, ydx]) (by omega) hfv1 ?_
  refine zdv (d := ((s.put f w).vs.take f.toNat).map ivS) (zz := ivS ((s.put f w).vs[f.toNat]'hfv1)) (r := ((s.put f w).vs.drop (f.toNat + 1)).map ivS) (v := ivS 0) rfl rfl rfl rfl rfl rfl rfl rfl (by simp [yi, ydx]) (by show some (SObj.cells ((s.put f w).vs.map ivS)) = _; rw [<- zcx]) (by show 0 + f.toNat * 1 = _; rw [List.length_map, List.length_take]; omega) ?_
  (refine zc [777] (nx := 35) ?_; conv => whnf)
  have e : ((WA X (s.put f w) ch (.loop .ready f0 n0 tL ps asg bd)).set 21 (.cells (((s.put f w).ch.take f.toNat).map bvS ++ bvS false :: ((s.put f w).ch.drop (f.toNat + 1)).map bvS))).set 22 (.cells (((s.put f w).vs.take f.toNat).map ivS ++ ivS 0 :: ((s.put f w).vs.drop (f.toNat + 1)).map ivS)) = WA X s ch (.loop .ready f0 n0 tL ps asg bd) := by
   rw [zki _ _ _ hfc1, zki _ _ _ hfv1, ykx]
   have := yky X ⟨(s.put f w).p, (s.put f w).ch.set f.toNat false, (s.put f w).vs⟩ ch (.loop .ready f0 n0 tL ps asg bd) f.toNat 0
   rw [this]
   unfold St.put
   simp only [List.set_set]
   rw [yrb hoff, ydy hz]
  refine Eq.mpr (congrArg (fun h => SW E _ _ h) e) ?_
  (refine zh ?_; conv => whnf)
  exact hK (sB true) _ ⟨Nat.le_refl _, ⟨fun vs hv => (by cases hv), fun _ => ⟨rfl, rfl⟩⟩⟩
 ·intro dn v rs w ha hlen hno ihl
  have hw2 := zm (n := dn.length) (by omega)
  have hfv1 : f.toNat < (s.put f w).vs.length := by simp [St.put]; omega
  have hvrow : (vals.map fun n => [dI n])[((dn.length : Nat) : Int).toNat]? = some [dI v] := by simp [ha]
  (refine zh ?_; conv => whnf)
  repeat' ((with_reducible refine way ?_ ?_) <;> (intro h; conv => whnf))
  all_goals try (exfalso; omega)
  refine zg rfl rfl  hvrow ?_
  (refine za ?_; conv => whnf)
  refine zge (i := f.toNat) rfl rfl rfl rfl rfl rfl rfl (by omega) hfv1 ?_
  refine jo (d := ((s.put f w).vs.take f.toNat).map ivS) (zz := ivS ((s.put f w).vs[f.toNat]'hfv1)) (r := ((s.put f w).vs.drop (f.toNat + 1)).map ivS) (v := ivS v) rfl rfl rfl rfl rfl rfl rfl rfl (by show some (SObj.cells ((s.put f w).vs.map ivS)) = _; rw [<- zcx]) (by show 0 + f.toNat * 1 = _; rw [List.length_map, List.length_take]; omega) ?_
  have e : (WA X (s.put f w) ch (.loop .ready f0 n0 tL ps asg bd)).set 22 (.cells (((s.put f w).vs.take f.toNat).map ivS ++ ivS v :: ((s.put f w).vs.drop (f.toNat + 1)).map ivS)) = WA X (s.put f v) ch (.loop .ready f0 n0 tL ps asg bd) := by
   rw [zki _ _ _ hfv1, yky]
   unfold St.put
   simp only [List.set_set]
  refine Eq.mpr (congrArg (fun h => SWr E _ _ _ _ h) e) ?_
  (refine za ?_; conv => whnf)
  rw [hw1]
  refine we rfl rfl rfl rfl rfl rfl ((ih v).mono ?_)
  rintro r H' ⟨hl', hsome, hnone⟩
  refine ⟨hl', ?_⟩
  cases hres : wx q.conds rest (s.put f v) with
  | none =>
   obtain ⟨rfl, ht⟩ := hnone hres
   (refine za ?_; conv => whnf)
   rw [hw2]
   refine yr [0, 1, 2, 3, 4, 5, 6, 9, 40, 41, 42] 35 (by rw [hH]; exact Nat.le_refl _) hl' rfl (by rw [ht]; exact ydw hX _ _ hlp) ?_
   rw [ht]
   exact ihl v (fun x hx => by
    rcases List.mem_append.1 hx with h | h
    ·exact hno x h
    ·simp only [List.mem_singleton] at h
     subst h
     exact hres)
  | some vs0 =>
   obtain ⟨rfl, hQ⟩ := hsome _ hres
   have hfs : List.findSome? (fun v => wx q.conds rest (s.put f v)) vals = some vs0 := by
    rw [ha, List.findSome?_append, List.findSome?_eq_none_iff.2 hno]
    simp [hres]
   rw [hfs] at hK
   (refine za ?_; conv => whnf)
   exact hK (sB false) H' ⟨hl', ⟨fun vs hv => by cases hv; exact ⟨rfl, hQ⟩, fun hv => by cases hv⟩⟩
theorem ztc {Y : Nat -> SObj} (hY : ∀ i, (Y i).under 24 = true) (c : Codex) (vers : List Int) (q : Sr) (ch : List (Int × List Int)) {f0 : FuncId} {n0 : Nat} {tL : List (Nat × SV)} {ps : Array Tmp} {asg bd : Code} (Q : List Int -> List SObj -> Prop)
  (hlp : (SObj.loop .ready f0 n0 tL ps asg bd).under 35 = true) (hps : 1 = ps.size) (hch : ch.length <= 1073741824) (hcz : q.conds.length <= 1073741824) (nf : Nat) (hsz : nf <= 1073741824) (hc : ∀ x ∈ q.conds, x.ok nf) (hvz : ∀ e ∈ ch, e.2.length <= 1073741824)
  (hy : ∀ s : St, s.ch.length = nf -> s.vs.length = nf -> SYield Tryz.prog G 32 [.imm (dInts s.vs)] (WA (XS Y (zx c vers q)) s ch (.loop .ready f0 n0 tL ps asg bd)) (fun res H' => res = false /\ 35 <= H'.length /\ Q s.vs H')) :
  ∀ (rest done : List (Int × List Int)) (s : St), ch = done ++ rest -> s.vs.length = nf -> RestOK q.conds rest s -> (∀ e ∈ rest, s.vs.getD e.1.toNat 0 = 0) -> yra G (XS Y (zx c vers q)) q ch (.loop .ready f0 n0 tL ps asg bd) Q done.length rest s
 | [], done, s, hd, hn, hR, _ => by
  rw [List.append_nil] at hd
  subst hd
  exact ygq G hY c vers q ch Q hlp hps hch hcz s hR.len (by omega) (by rw [hn]; exact hc) (hy s (by rw [hR.len, hn]) hn)
 | (f, vals) :: rest, done, s, hd, hn, hR, hz => by
  have hr := hR.rng (f, vals) (by simp)
  refine ybd G hY c vers q ch Q hlp hch hcz s hR.len (by omega) (by rw [hn]; exact hc) done f vals rest hd hr (hR.off (f, vals) (by simp)) (hz (f, vals) (by simp)) (hvz (f, vals) (by rw [hd]; simp)) (fun v => ?_)
  have := ztc hY c vers q ch Q hlp hps hch hcz nf hsz hc hvz hy rest (done ++ [(f, vals)]) (s.put f v) (by rw [hd]; simp) (by simp [St.put, hn]) (hR.put v) (fun e he => by
   have hnd := hR.nd
   simp only [List.map_cons, List.nodup_cons] at hnd
   have hre := hR.rng e (by simp [he])
   have hne : f ≠ e.1 := fun eq => hnd.1 (List.mem_map.2 ⟨e, he, eq.symm⟩)
   simp only at hr
   unfold St.put
   simp only
   rw [zel, if_neg (by omega)]
   exact hz e (by simp [he]))
  rw [List.length_append] at this
  exact this
structure MapsOK (Y : Nat -> SObj) (m : List (Int × List Int)) : Prop where
 out : Y 1 = .mapI .i64 (zby (fun n : Nat => SV.map n) (m.map fun e => (e.1, 3 + e.1.toNat)))
 rng : ∀ e ∈ m, 0 <= e.1 /\ e.1 < 12
 inn : ∀ e ∈ m, Y (3 + e.1.toNat) = .mapI .i64 (zby sB (e.2.map fun v => (v, true)))
 nd : (m.map (·.1)).Nodup
 sz : ∀ e ∈ m, e.2.length <= 1000000000
theorem zbm {α : Type} {k : Int} {v : α} : ∀ {l : List (Int × α)}, (l.map (·.1)).Nodup -> (k, v) ∈ l -> zo k l = some v
 | [], _, h => by cases h
 | (k', v') :: l, hn, h => by
  simp only [List.map_cons, List.nodup_cons] at hn
  simp only [zo]
  rcases List.mem_cons.1 h with h | h
  ·cases h; simp
  ·have : ¬ k = k' := fun e => hn.1 (e ▸ List.mem_map.2 ⟨(k, v), h, rfl⟩)
   simp [this]
   exact zbm hn.2 h
theorem zcf {α : Type} {k : Int} {v : α} : ∀ {l : List (Int × α)}, zo k l = some v -> (k, v) ∈ l
 | [], h => by simp [zo] at h
 | (k', v') :: l, h => by
  simp only [zo] at h
  split at h
  ·rename_i e
   simp only [beq_iff_eq] at e
   cases h; subst e; simp
  ·exact List.mem_cons_of_mem _ (zcf h)
theorem ytf {X : Nat -> SObj} {s : St} {i : Nat} (h : i < 21) (Z : List SObj) : (WH X s ++ Z)[i]? = some (X i) := by
 have : i = 0 \/ i = 1 \/ i = 2 \/ i = 3 \/ i = 4 \/ i = 5 \/ i = 6 \/ i = 7 \/ i = 8 \/ i = 9 \/ i = 10 \/ i = 11 \/ i = 12 \/ i = 13 \/ i = 14 \/ i = 15 \/ i = 16 \/ i = 17 \/ i = 18 \/ i = 19 \/ i = 20 := by omega
 rcases this with rfl | rfl | rfl | rfl | rfl | rfl | rfl | rfl | rfl | rfl | rfl | rfl | rfl | rfl | rfl | rfl | rfl | rfl | rfl | rfl | rfl <;> rfl
def WB (X : Nat -> SObj) (s : St) (F : List Int) (cs : List SV) (n : Nat) : List SObj :=
 WH X s ++ [X 24, X 25, .cells [.ptr 2 0], .cells [.ptr 23 0], .cells [.map 1], .cells [.imm (dInts F)], .cells cs, .cells [.osl 30 0 n]]
abbrev chS (m : List (Int × List Int)) (f : Int) : SV := .imm (dInts (jf ((zo f m).getD [])))
theorem zvn {X : Nat -> SObj} (hX : ∀ i, (X i).under 24 = true) (s : St) (F : List Int) {cs : List SV} (n : Nat) {N : Nat} (hN : 32 <= N) (hcs : SV.under.allUnder N cs = true) : (WB X s F cs n).all (SObj.under N) = true := by
 unfold WB
 rw [List.all_append, yz (m := 24) (by omega) (zbk hX s)]
 simp only [List.all_cons, List.all_nil, SObj.under_mono (m := 24) (n := N) (by omega) _ (hX _), Bool.and_true, Bool.true_and, zyc, hcs, SV.under.allUnder, SV.under, Bool.and_eq_true, decide_eq_true_eq]
 omega
theorem zom {Y : Nat -> SObj} (hY : ∀ i, (Y i).under 24 = true) (c : Codex) (vers : List Int) (q : Sr) (s : St) (hM : MapsOK Y q.cands) (hsz : q.cands.length <= 1000000) :
  SCall Tryz.prog G 71 [.ptr 2 0, .ptr 23 0] (WH (XS Y (zx c vers q)) s ++ [XS Y (zx c vers q) 24, XS Y (zx c vers q) 25])
   (fun r H' => r = .fn (.func 104) [] [.ptr 26 0, .ptr 27 0, .ptr 29 0, .ptr 31 0] /\ 32 <= H'.length /\
    H'.take 32 = WB (XS Y (zx c vers q)) s ((zu q.cands).map (·.1)) ((zu q.cands).map fun e => .imm (dInts e.2)) (zu q.cands).length) := by
 have hX := zdl hY c vers q
 have hX1 : XS Y (zx c vers q) 1 = .mapI .i64 (zby (fun n : Nat => SV.map n) (q.cands.map fun e => (e.1, 3 + e.1.toNat))) := hM.out
 have hXf : ∀ e ∈ q.cands, XS Y (zx c vers q) (3 + e.1.toNat) = .mapI .i64 (zby sB (e.2.map fun v => (v, true))) := fun e he => by
  unfold XS
  rw [if_neg (by omega)]
  exact hM.inn e he
 have hkeys : (zby (fun n : Nat => SV.map n) (q.cands.map fun e => (e.1, 3 + e.1.toNat))).map (·.1) = q.cands.map (·.1) := by simp [zby]
 have hF : (zu q.cands).map (·.1) = jf (q.cands.map (·.1)) := by unfold zu; rw [List.map_map]; exact List.map_id _
 have hC : (zu q.cands).map (fun e => SV.imm (dInts e.2)) = (jf (q.cands.map (·.1))).map (chS q.cands) := by simp [zu]
 have hCl : (zu q.cands).length = (jf (q.cands.map (·.1))).length := by simp [zu]
 rw [hF, hC, hCl]
 have hFm : ∀ f ∈ jf (q.cands.map (·.1)), ∃ vals, (f, vals) ∈ q.cands := fun f hf => by
  have := (List.mergeSort_perm (q.cands.map (·.1)) fun x y => decide (x <= y)).mem_iff.1 hf
  obtain ⟨e, he, rfl⟩ := List.mem_map.1 this
  exact ⟨e.2, he⟩
 have hFl : (jf (q.cands.map (·.1))).length = q.cands.length := by simp
 generalize hXX : XS Y (zx c vers q) = X at hX hX1 hXf ⊢
 refine yy Tryz.func71 rfl (by rw [Tryz.ntmps71]; simp) ?_
 intro E hH hK
 have hX2 : X 2 = .cells (zx c vers q) := by rw [<- hXX]; rfl
 (refine wv [777, 12] 1000 ?_; conv => whnf)
 refine xq (v := .map 1) (cs := zx c vers q) rfl rfl rfl rfl (by show some (X 2) = _; rw [hX2]) rfl ?_
 refine ygk rfl rfl rfl rfl rfl rfl (ykr G 1) ?_
 refine Eq.mpr (congrArg (fun h => SWr E _ _ _ _ h) (show _ = WH X s ++ [X 24, X 25, .cells [.ptr 2 0], .cells [.ptr 23 0], .cells [.map 1]] from rfl)) ?_
 have hu29 : (WH X s ++ [X 24, X 25, SObj.cells [.ptr 2 0], .cells [.ptr 23 0], .cells [.map 1]]).all (SObj.under 29) = true := by
  rw [List.all_append, yz (m := 24) (by omega) (zbk hX s)]
  simp only [List.all_cons, List.all_nil, SObj.under_mono (m := 24) (n := 29) (by omega) _ (hX _), Bool.and_true, Bool.true_and]
  rfl
 refine we rfl rfl rfl rfl rfl rfl ((zym G (m := 1) (b := 28) (es := zby (fun n : Nat => SV.map n) (q.cands.map fun e => (e.1, 3 + e.1.toNat))) rfl (by show some (X 1) = _; rw [hX1]) (by decide) hu29 (by simp [zby]; omega)).mono ?_)
 rintro r H' ⟨rfl, rfl⟩
 refine ⟨Nat.le_refl _, ?_⟩
 rw [hkeys]
 generalize jf (q.cands.map (·.1)) = F at hK hFm hFl ⊢
 have hFll : (F.map fun n => [dI n]).length = F.length := by simp
 (refine za ?_; conv => whnf)
 refine yke (n := F.length) (zz := zev) rfl rfl rfl rfl rfl rfl rfl rfl rfl ⟨by decide, rfl⟩ rfl (by rw [hFll]) (by rw [hFll]) (by omega) ?_
 (refine za ?_; conv => whnf)
 refine zf [2, 3, 5, 6, 18, 19, 20] ?_
 refine Eq.mpr (congrArg (fun h => SW E _ _ h) (show _ = WB X s F (([] : List Int).map (chS q.cands) ++ List.replicate F.length zev) F.length from rfl)) ?_
 refine zt F (fun i (_ : List Int × Nat) => [(2, .ptr 26 0), (3, .ptr 27 0), (5, .ptr 29 0), (6, .ptr 31 0), (18, .imm (dInts F)), (19, sI (F.map fun n => [dI n]).length), (20, sI i)])
  (fun _ d => WB X s F (d.1.map (chS q.cands) ++ List.replicate d.2 zev) F.length) (fun done rest d => d = (done, rest.length)) ([], F.length) rfl ?_ ?_
 ·rintro _ rfl
  (refine zh ?_; conv => whnf)
  repeat' ((with_reducible refine way ?_ ?_) <;> (intro h; conv => whnf))
  all_goals try (exfalso; omega)
  refine hK _ _ ⟨rfl, Nat.le_refl _, ?_⟩
  show WB X s F (F.map (chS q.cands) ++ []) F.length = _
  rw [List.append_nil]
 ·rintro done f rest _ ha hlen rfl ih
  have hw := zm (n := done.length) (by omega)
  have hrow : (F.map fun n => [dI n])[((done.length : Nat) : Int).toNat]? = some [dI f] := by simp [ha]
  obtain ⟨vals, hvm⟩ := hFm f (by rw [ha]; simp)
  have hfr := hM.rng _ hvm
  have hXv := hXf _ hvm
  simp only at hfr hXv
  have hal : zo f q.cands = some vals := zbm hM.nd hvm
  (refine zh ?_; conv => whnf)
  repeat' ((with_reducible refine way ?_ ?_) <;> (intro h; conv => whnf))
  all_goals try (exfalso; omega)
  refine zg rfl rfl  hrow ?_
  (refine za ?_; conv => whnf)
  (refine ya 1 mixed rfl ?_; refine zc [777, 30, 999] (nx := 32) ?_; conv => whnf)
  refine jy (v := .map 1) (cs := zx c vers q) rfl rfl rfl (by simp [yi, WB, WH]) rfl (by show some (X 2) = _; rw [hX2]) rfl ?_
  (refine zc [777, 999] (nx := 32) ?_; conv => whnf)
  have hlk : ((zo f (q.cands.map fun e => (e.1, 3 + e.1.toNat))).map fun n : Nat => SV.map n).getD (qk (.map none)) = .map (3 + f.toNat) := by
   have : zo f (q.cands.map fun e => (e.1, 3 + e.1.toNat)) = some (3 + f.toNat) := zbm (by rw [List.map_map]; exact hM.nd) (List.mem_map.2 ⟨_, hvm, rfl⟩)
   rw [this]
   rfl
  refine yku (b := 1) (l := q.cands.map fun e => (e.1, 3 + e.1.toNat)) (fun n : Nat => SV.map n) rfl rfl rfl rfl rfl rfl rfl rfl (by simp [yi, WB, WH]) (by show some (X 1) = _; rw [hX1]) hlk ?_
  refine ygl 32 rfl rfl rfl rfl rfl rfl (Nat.le_refl 32) rfl (by show (decide (3 + f.toNat < 33) && true) = true; simp; omega) (ykq G (3 + f.toNat)) ?_
  have huK : (WB X s F (done.map (chS q.cands) ++ List.replicate (rest.length + 1) zev) F.length ++ [SObj.cells [.map (3 + f.toNat)]]).all (SObj.under 33) = true := by
   rw [List.all_append, zvn hX s F F.length (by omega) (zke _ _ _ (jz (f := chS q.cands) (fun _ => rfl) _) (zhq 33 (zz := zev) rfl _))]
   show (decide (3 + f.toNat < 33) && true && true) = true
   simp
   omega
  have hes : (zby sB (vals.map fun v => (v, true))).map (·.1) = vals := by
   simp only [zby, List.map_map]
   exact List.map_id _
  have hvz := hM.sz _ hvm
  simp only at hvz
  have hsp : SPre Tryz.prog G 101 [.fn (.func 142) [] [.ptr 32 0]] (WB X s F (done.map (chS q.cands) ++ List.replicate (rest.length + 1) zev) F.length ++ [SObj.cells [.map (3 + f.toNat)]])
    (fun r' H1 => r' = .imm (dInts (jf vals)) /\ H1 = WB X s F (done.map (chS q.cands) ++ List.replicate (rest.length + 1) zev) F.length ++ [SObj.cells [.map (3 + f.toNat)]]) := by
   refine yqy rfl huK ((zyl G (m := 3 + f.toNat) (b := 32) (es := zby sB (vals.map fun v => (v, true))) rfl ?_ (by omega) huK (by simp [zby]; omega)).mono ?_)
   ·have := ytf (X := X) (s := s) (i := 3 + f.toNat) (by omega) ([X 24, X 25, .cells [.ptr 2 0], .cells [.ptr 23 0], .cells [.map 1], .cells [.imm (dInts F)], .cells (done.map (chS q.cands) ++ List.replicate (rest.length + 1) zev), .cells [.osl 30 0 F.length]] ++ [SObj.cells [.map (3 + f.toNat)]])
    rw [<- List.append_assoc] at this
    rw [hXv] at this
    exact this
   ·rintro r H' ⟨rfl, rfl⟩
    rw [hes]
    exact ⟨Nat.le_refl _, rfl, by rw [List.take_length]; exact huK, rfl, List.take_length⟩
  refine yjf 33 (wr := none) rfl rfl rfl rfl rfl rfl (by simp [yi, WB, WH]) (by simp [yi, WB, WH]) (fun b ob h => by cases h) hsp ?_
  (refine zc [777, 999] (nx := 33) ?_; conv => whnf)
  refine zqb (i := done.length) rfl rfl rfl rfl rfl rfl rfl (by simp [yi, WB, WH]) rfl (by omega) ?_
  refine zdv (d := done.map (chS q.cands)) (zz := zev) (r := List.replicate rest.length zev) (v := .imm (dInts (jf vals))) rfl rfl rfl rfl rfl rfl rfl rfl (by simp [yi, WB, WH]) rfl (by show 0 + done.length * 1 = _; simp) ?_
  (refine zc [777] (nx := 33) ?_; conv => whnf)
  (refine zh ?_; conv => whnf)
  rw [hw]
  have hchf : chS q.cands f = .imm (dInts (jf vals)) := by rw [chS, hal]; rfl
  have := ih (done ++ [f], rest.length) rfl
  simp only [List.map_append, List.map_cons, List.map_nil, List.append_assoc, List.cons_append, List.nil_append, hchf] at this
  refine yr [2, 3, 5, 6, 18, 19, 20] 32 (by rw [hH]; exact (by decide : 26 <= 32)) (Nat.le_succ 32) rfl ?_ this
  exact zvn hX s F F.length (Nat.le_refl _) (zke _ _ _ (jz (f := chS q.cands) (fun _ => rfl) _) (by simp only [SV.under.allUnder, zhq 32 (zz := zev) rfl]; rfl))
end Go.Proofs.YtblpjknmhajcgaaGreatDoor
namespace Go.Sh
mutual
theorem SV.ren_id {m : Nat} {σ : Nat -> Nat} (hσ : ∀ b, b < m -> σ b = b) : ∀ s : SV, s.under m = true -> s.ren σ = s
 | .any, _ => rfl
 | .imm _, _ => rfl
 | .ptr b _, h => by simp only [SV.under, decide_eq_true_eq] at h; simp only [SV.ren, hσ b h]
 | .osl b _ _, h => by simp only [SV.under, decide_eq_true_eq] at h; simp only [SV.ren, hσ b h]
 | .asl b _ _, h => by simp only [SV.under, decide_eq_true_eq] at h; simp only [SV.ren, hσ b h]
 | .map b, h => by simp only [SV.under, decide_eq_true_eq] at h; simp only [SV.ren, hσ b h]
 | .yld b, h => by simp only [SV.under, decide_eq_true_eq] at h; simp only [SV.ren, hσ b h]
 | .vec b _, h => by simp only [SV.under, decide_eq_true_eq] at h; simp only [SV.ren, hσ b h]
 | .vptr b _ _, h => by simp only [SV.under, decide_eq_true_eq] at h; simp only [SV.ren, hσ b h]
 | .fn _ x y, h => by
  simp only [SV.under, Bool.and_eq_true] at h
  simp only [SV.ren, zkj hσ x h.1, zkj hσ y h.2]
 | .iface _ v, h => by
  simp only [SV.under] at h
  simp only [SV.ren, SV.ren_id hσ v h]
 | .agg cs, h => by
  simp only [SV.under] at h
  simp only [SV.ren, zkj hσ cs h]
 | .tup vs, h => by
  simp only [SV.under] at h
  simp only [SV.ren, zkj hσ vs h]
theorem zkj {m : Nat} {σ : Nat -> Nat} (hσ : ∀ b, b < m -> σ b = b) : ∀ l : List SV, SV.under.allUnder m l = true -> SV.ren.renL σ l = l
 | [], _ => rfl
 | s :: r, h => by
  simp only [SV.under.allUnder, Bool.and_eq_true] at h
  simp only [SV.ren.renL, SV.ren_id hσ s h.1, zkj hσ r h.2]
end
theorem zox {α : Type} {f : α -> α} {l : List α} (h : ∀ a ∈ l, f a = a) : l.map f = l := by
 conv => rhs; rw [<- List.map_id l]
 exact List.map_congr_left h
theorem SObj.ren_id {m : Nat} {σ : Nat -> Nat} (hσ : ∀ b, b < m -> σ b = b) (o : SObj) (h : o.under m = true) : o.ren σ = o := by
 cases o with
 | cells cs => simp only [SObj.ren]; rw [<- zgd, zkj hσ cs h]
 | mapI kk es =>
  simp only [SObj.under, List.all_eq_true] at h
  simp only [SObj.ren]
  rw [zox fun e he => by rw [SV.ren_id hσ e.2 (h e he)]]
 | mapS es =>
  simp only [SObj.under, List.all_eq_true] at h
  simp only [SObj.ren]
  rw [zox fun e he => by rw [SV.ren_id hσ e.2 (h e he)]]
 | loop s f n t ps a b =>
  simp only [SObj.under, List.all_eq_true] at h
  simp only [SObj.ren]
  rw [zox fun e he => by rw [SV.ren_id hσ e.2 (h e he)]]
 | vec kk cs => simp only [SObj.ren]; rw [<- zgd, zkj hσ cs h]
 | pin kk es c =>
  simp only [SObj.under, List.all_eq_true] at h
  simp only [SObj.ren]
  rw [zox fun e he => by rw [SV.ren_id hσ e.2.2 (h e he)]]
 | iter b s seen l => simp only [SObj.under, decide_eq_true_eq] at h; simp only [SObj.ren, hσ b h]
 | tok _ _ => rfl
 | dead => rfl
 | free => rfl
section
variable {P : Program} {G : List (Nat × D)} {fn : Func} {rd : Bool} {E : En P G fn rd} {t : List (Nat × SV)} {H : List SObj} {k : List Item}
theorem yrc (σ : Nat -> Nat) {t' : List (Nat × SV)} {H' : List SObj} (hfix : ∀ b, b < E.H.length -> σ b = b) (hinj : ∀ b b', b < H'.length -> b' < H'.length -> σ b = σ b' -> b = b') (hlen : E.H.length <= H'.length)
    (hobj : ∀ b o, H'[b]? = some o -> H[σ b]? = some (o.ren σ)) (hu : H'.all (SObj.under H'.length) = true) (ht : ∀ n, wu t n = (wu t' n).ren σ \/ wu t' n = .any) (htu : t'.all (fun e => e.2.under H'.length) = true) (h : SW E k t' H') : SW E k t H := by
  refine ⟨fun a w I β cs hs => ?_⟩
  have hH := hs.heap
  have hσlt : ∀ b, b < H'.length -> σ b < H.length := fun b hb => lt_of_getElem? (hobj b _ (List.getElem?_eq_getElem hb))
  obtain ⟨β0, hl0, hβ0⟩ : ∃ β0 : List Bnd, β0.length = H'.length /\ ∀ b, b < H'.length -> β0[b]? = β[σ b]? := by
    refine ⟨(List.range H'.length).map (fun b => β.getD (σ b) freeB), by simp, fun b hb => ?_⟩
    have hlt : σ b < β.length := by rw [hH.len]; exact hσlt b hb
    rw [List.getElem?_map, List.getElem?_range hb]
    simp [List.getD_eq_getElem?_getD, List.getElem?_eq_getElem hlt]
  have up0 : ∀ b x, β0[b]? = some x -> β[σ b]? = some x := fun b x hx => by rw [<- hβ0 b (by rw [<- hl0]; exact lt_of_getElem? hx)]; exact hx
  have un0 : ∀ b x, b < H'.length -> β[σ b]? = some x -> β0[b]? = some x := fun b x hb hx => by rw [hβ0 b hb]; exact hx
  have up : ∀ b c, qj H' β0 b c -> qj H β (σ b) c := by
    rintro b c ⟨o, x, h1, h2, h3, h4⟩
    exact ⟨o.ren σ, x, hobj b o h1, fun e => h2 (SObj.ren_dead.1 e), up0 b x h3, h4⟩
  have olt : ∀ {b c}, qj H' β0 b c -> b < H'.length := fun ⟨_, _, h1, _⟩ => lt_of_getElem? h1
  refine h.run a w I β0 cs ⟨⟨hl0, fun b o x h1 h2 => ?_, fun b b' c h1 h2 => hinj b b' (olt h1) (olt h2) (hH.inj _ _ c (up b c h1) (up b' c h2)), hH.inI, hH.glob⟩, fun n => ?_, hs.size, ?_, ?_, hlen⟩
  · exact (hH.obj (σ b) (o.ren σ) x (hobj b o h1) (up0 b x h2)).unren un0 (List.all_eq_true.1 hu o (List.mem_of_getElem? h1))
  · rcases ht n with h1 | h1
    · have := hs.tmps n
      rw [h1] at this
      exact this.unren un0 rfl (zbx htu n)
    · rw [h1]; exact .any _
  · obtain ⟨bs, d1, d2, d3⟩ := hs.defers
    exact ⟨bs, d1, d2, fun c hc => ⟨(d3 c hc).1, (d3 c hc).2.1, fun b hb => (d3 c hc).2.2 (σ b) (up b c hb)⟩⟩
  · exact { hs.ext with
      keep := fun b x hb hx => by
        obtain ⟨y, hy, hle⟩ := hs.ext.keep b x hb hx
        exact ⟨y, un0 b y (by omega) (by rw [hfix b hb]; exact hy), hle⟩
      own := fun b c ho => hs.ext.own (σ b) c (up b c ho) }
theorem yrd (nx : Nat) {all : Array Oper} {o : Oper} {rest : List Oper} {done : List Eff} {K : List SObj} {m e : Nat} {x : Operand} {cs : List SV} (hop : o.op = .box e x) (hw : zy all t o.guard = some true) (hd : yf fn.ntmps o.dst = true)
  (hx : (zn G t x).cells = some cs) (hu : SV.under.allUnder K.length cs = true) (hm : m <= nx) (hnx : K[nx]? = some .dead)
  (h : SWe E m all rest k (wm t o.dst (.ptr nx 0)) (K.set nx (.cells cs)) (done ++ [⟨.ptr nx 0, [], some (nx, .cells cs)⟩])) : SWe E m all (o :: rest) k t K done := by
 have := yah (E := E) (m := m) (all := all) (rest := rest) (k := k) (t := t) (K := K) (done := done) nx (r := .ptr K.length 0) (ob := .cells cs) hw hd hm hnx (by simp [SV.isNew]) hu
  (fun K' hl' => by
   rw [hop]
   simp only [sop, hx, hl']
   rfl)
 simp only [SV.mv, if_true] at this
 exact this h
theorem zlo (n m : Nat) (s : SV) : ∀ t0 : List (Nat × SV), (wu (t0 ++ [(m, s)]) n = wu t0 n /\ wu t0 n ≠ .any) \/ (wu t0 n = .any /\ (wu (t0 ++ [(m, s)]) n = .any \/ (m = n /\ wu (t0 ++ [(m, s)]) n = s)))
 | [] => by
  right
  refine ⟨rfl, ?_⟩
  simp only [List.nil_append, wu]
  split
  ·rename_i e; exact .inr ⟨e, rfl⟩
  ·exact .inl rfl
 | (m', s') :: t0 => by
  simp only [List.cons_append, wu]
  by_cases e : m' = n
  ·rw [if_pos e, if_pos e]
   by_cases h : s' = .any
   ·right; exact ⟨h, .inl h⟩
   ·left; exact ⟨rfl, h⟩
  ·rw [if_neg e, if_neg e]
   exact zlo n m s t0
theorem zqv {n0 v : Nat} {t0 : List (Nat × SV)} {A : List SObj} {c0 c1 : SObj} (hA : A.length = n0) (hE : E.H.length <= n0) (hu : A.all (SObj.under n0) = true) (hc : c1.under n0 = true) (ht : t0.all (fun e => e.2.under n0) = true)
  (h : SW E k (t0 ++ [(v, .ptr n0 0)]) (A ++ [c1])) : SW E k (t0 ++ [(v, .ptr (n0 + 1) 0)]) (A ++ [c0, c1]) := by
 subst hA
 have hid : ∀ b, b < A.length -> (if b = A.length then A.length + 1 else b) = b := fun b hb => by rw [if_neg (by omega)]
 refine yrc (fun b => if b = A.length then A.length + 1 else b) (fun b hb => hid b (by omega)) (fun b b' hb hb' e => ?_) (by simp; omega) (fun b o ho => ?_) ?_ (fun n => ?_) ?_ h
 ·simp only [List.length_append, List.length_singleton] at hb hb'
  split at e <;> split at e <;> omega
 ·have hlt := lt_of_getElem? ho
  simp only [List.length_append, List.length_singleton] at hlt
  by_cases e : b = A.length
  ·subst e
   rw [List.getElem?_append_right (Nat.le_refl _)] at ho
   simp only [Nat.sub_self, List.getElem?_cons_zero, Option.some.injEq] at ho
   subst ho
   rw [if_pos rfl, SObj.ren_id hid _ hc, List.getElem?_append_right (by omega)]
   simp
  ·have hb : b < A.length := by omega
   rw [List.getElem?_append_left hb] at ho
   rw [if_neg e, SObj.ren_id hid _ (List.all_eq_true.1 hu _ (List.mem_of_getElem? ho)), List.getElem?_append_left hb]
   exact ho
 ·rw [List.all_append, yz (m := A.length) (by simp) hu]
  simp only [List.all_cons, List.all_nil, Bool.and_true, Bool.true_and]
  exact SObj.under_mono (by simp) _ hc
 ·rcases zlo n v (.ptr (A.length + 1) 0) t0 with ⟨h1, h2⟩ | ⟨h1, h2⟩
  ·rcases zlo n v (.ptr A.length 0) t0 with ⟨g1, g2⟩ | ⟨g1, g2⟩
   ·left
    rw [h1, g1, SV.ren_id hid _ (zbx ht n)]
   ·exact absurd g1 h2
  ·rcases zlo n v (.ptr A.length 0) t0 with ⟨g1, g2⟩ | ⟨g1, g2⟩
   ·exact absurd h1 g2
   ·rcases g2 with g2 | ⟨g2, g3⟩
    ·right; exact g2
    ·subst g2
     rcases h2 with h2 | ⟨_, h3⟩
     ·exfalso
      have : ∀ (t0 : List (Nat × SV)) (x y : SV), wu (t0 ++ [(v, x)]) v = .any -> x ≠ .any -> y ≠ .any -> wu (t0 ++ [(v, y)]) v = .any := by
       intro t0
       induction t0 with
       | nil =>
        intro x y hx hxn hyn
        simp only [List.nil_append, wu, if_true] at hx
        exact absurd hx hxn
       | cons e t0 ih =>
        intro x y hx hxn hyn
        simp only [List.cons_append, wu] at hx ⊢
        split
        ·rename_i e'; rw [if_pos e'] at hx; exact hx
        ·rename_i e'; rw [if_neg e'] at hx; exact ih x y hx hxn hyn
      have := this t0 _ (.ptr A.length 0) h2 (by simp) (by simp)
      rw [this] at g3
      cases g3
     ·left
      rw [h3, g3]
      simp [SV.ren]
 ·rw [List.all_append]
  simp only [List.all_cons, List.all_nil, Bool.and_true, Bool.and_eq_true]
  refine ⟨?_, ?_⟩
  ·simp only [List.all_eq_true] at ht ⊢
   exact fun e he => SV.under_mono (by simp) _ (ht e he)
  ·simp [SV.under]
theorem zhu {all : Array Oper} {o : Oper} {rest : List Oper} {ty b n : Nat} {ax vx : Operand} {new old : List SV} (hop : o.op = .store ty ax vx) (hw : zy all t o.guard = some true) (hd : yf fn.ntmps o.dst = true) (ha : zn G t ax = .ptr b 0)
  (hv : (zn G t vx).cells = some new) (hone : new.all SV.one = true) (hsz : wb P ty = some n) (hn : new.length = n) (hb : H[b]? = some (.cells old)) (hol : old.length = n) (h : SWr E all rest k (wm t o.dst .any) (H.set b (.cells new))) : SWr E all (o :: rest) k t H := by
 refine zas (r := .any) (H' := H.set b (.cells new)) hw hd ?_ (by simp) h
 rw [hop]
 subst hn
 simp only [sop, zck, ha, hv, hsz, hb]
 rw [if_pos ⟨trivial, by omega, hone⟩]
 simp [<- hol]
end
end Go.Sh
namespace Go.Proofs.YtblpjknmhajcgaaGreatDoor
open Go Go.Sh
variable (G : List (Nat × D))
theorem yof {Y : Nat -> SObj} (hY : ∀ i, (Y i).under 24 = true) (hY28 : Y 28 = .cells [.map 1]) (c : Codex) (vers : List Int) (q : Sr) (ch : List (Int × List Int)) {f0 : FuncId} {n0 : Nat} {tL : List (Nat × SV)} {ps : Array Tmp} {asg bd : Code} (Q : List Int -> List SObj -> Prop)
  (hlp : (SObj.loop .ready f0 n0 tL ps asg bd).under 33 = true) (hps : 1 = ps.size) (hch : ch.length <= 1073741824) (hcz : q.conds.length <= 1073741824) (nf : Nat) (hsz : nf <= 1073741824) (hc : ∀ x ∈ q.conds, x.ok nf) (hvz : ∀ e ∈ ch, e.2.length <= 1073741824)
  (hy : ∀ s : St, s.ch.length = nf -> s.vs.length = nf -> SYield Tryz.prog G 32 [.imm (dInts s.vs)] (WA (XS Y (zx c vers q)) s ch (.loop .ready f0 n0 tL ps asg bd)) (fun res H' => res = false /\ 35 <= H'.length /\ Q s.vs H'))
  (s : St) (hn : s.vs.length = nf) (hR : RestOK q.conds ch s) (hz : ∀ e ∈ ch, s.vs.getD e.1.toNat 0 = 0) :
  SCall Tryz.prog G 104 [.yld 32, .ptr 26 0, .ptr 27 0, .ptr 29 0, .ptr 31 0] (WB (XS Y (zx c vers q)) s (ch.map (·.1)) (ch.map fun e => .imm (dInts e.2)) ch.length ++ [.loop .ready f0 n0 tL ps asg bd])
   (fun _ H' => 33 <= H'.length /\ (∀ vs, wx q.conds ch s = some vs -> Q vs H') /\ (wx q.conds ch s = none -> H'.take 33 = WB (XS Y (zx c vers q)) s (ch.map (·.1)) (ch.map fun e => .imm (dInts e.2)) ch.length ++ [.loop .ready f0 n0 tL ps asg bd])) := by
 have hX28 : XS Y (zx c vers q) 28 = .cells [.map 1] := by unfold XS; rw [if_neg (by omega)]; exact hY28
 have hrec := ztc G hY c vers q ch Q (SObj.under_mono (m := 33) (by omega) _ hlp) hps hch hcz nf hsz hc hvz hy ch [] s rfl hn hR hz
 generalize XS Y (zx c vers q) = X at hX28 hrec ⊢
 refine yy Tryz.func104 rfl (by rw [Tryz.ntmps104]; simp) ?_
 intro E hH hK
 have e : WA X s ch (.loop .ready f0 n0 tL ps asg bd) = WB X s (ch.map (·.1)) (ch.map fun e => .imm (dInts e.2)) ch.length ++ [.loop .ready f0 n0 tL ps asg bd, .cells [.yld 32], .cells [fnA]] := by
  unfold WA WB
  rw [hX28]
  rfl
 unfold yra at hrec
 rw [e] at hrec
 (refine zh ?_; conv => whnf)
 refine we rfl rfl rfl rfl rfl rfl (hrec.mono ?_)
 rintro r H' ⟨hl', hs, hnone⟩
 refine ⟨hl', ?_⟩
 (refine za ?_; conv => whnf)
 refine hK _ _ ⟨by omega, fun vs hv => (hs vs hv).2, fun hv => ?_⟩
 have := (hnone hv).2
 have e2 : H'.take 33 = (H'.take 35).take 33 := by rw [List.take_take]; rfl
 rw [e2, this]
 rfl
def NSH (Y : Nat -> SObj) (cs : List SV) : List SObj := [Y 0, Y 1, .cells cs, Y 3, Y 4, Y 5, Y 6, Y 7, Y 8, Y 9, Y 10, Y 11, Y 12, Y 13, Y 14, Y 15, Y 16]
def zyp (failed : List ByteArray) : SObj := .mapS (zby sB (failed.map fun g => (g, true)))
def zaj : List SV := [sI 0, zev, zev, zev]
def YW (Y : Nat -> SObj) (nf : Nat) (failed : List ByteArray) (day : Int) (i : Nat) : SObj :=
 if i = 17 then .cells [.ptr 2 0] else if i = 18 then .cells zaj else if i = 19 then .cells [sB false] else if i = 20 then .cells [sI nf] else if i = 24 then zyp failed else if i = 25 then .cells [sI day] else if i = 28 then .cells [.map 1] else Y i
theorem zkk (failed : List ByteArray) (n : Nat) : (zyp failed).under n = true := by
 simp only [zyp, SObj.under, zby, List.map_map, List.all_map, List.all_eq_true]
 intro x _
 rfl
theorem zvo {Y : Nat -> SObj} (hY : ∀ i, (Y i).under 17 = true) (nf : Nat) (failed : List ByteArray) (day : Int) (i : Nat) : (YW Y nf failed day i).under 24 = true := by
 unfold YW
 split
 ·rfl
 split
 ·rfl
 split
 ·rfl
 split
 ·rfl
 split
 ·exact zkk _ _
 split
 ·rfl
 split
 ·rfl
 ·exact SObj.under_mono (by omega) _ (hY i)
theorem ypr {Y : Nat -> SObj} {nf : Nat} {failed : List ByteArray} {day : Int} {i : Nat} (h : i < 17) : YW Y nf failed day i = Y i := by
 unfold YW
 repeat rw [if_neg (by omega)]
theorem yre {Y : Nat -> SObj} {m : List (Int × List Int)} (h : MapsOK Y m) (nf : Nat) (failed : List ByteArray) (day : Int) : MapsOK (YW Y nf failed day) m :=
 ⟨by rw [ypr (by omega)]; exact h.out, h.rng, fun e he => by have := h.rng e he; rw [ypr (by omega)]; exact h.inn e he, h.nd, h.sz⟩
abbrev XW (Y : Nat -> SObj) (c : Codex) (vers : List Int) (q : Sr) (failed : List ByteArray) (day : Int) : Nat -> SObj := XS (YW Y c.facts.length failed day) (zx c vers q)
abbrev s00 (nf : Nat) (p : zgh) : St := ⟨p, List.replicate nf false, List.replicate nf 0⟩
def WD (Y : Nat -> SObj) (c : Codex) (vers : List Int) (q : Sr) (failed : List ByteArray) (day : Int) (p : zgh) : List SObj :=
 WH (XW Y c vers q failed day) (s00 c.facts.length p) ++ [zyp failed, .cells [sI day]]
theorem ydz {g : ByteArray} : ∀ {failed : List ByteArray}, ¬ g ∈ failed -> ains g true (failed.map fun g => (g, true)) = (failed ++ [g]).map fun g => (g, true)
 | [], _ => rfl
 | x :: l, h => by
  simp only [List.mem_cons, not_or] at h
  simp only [List.map_cons, ains, List.cons_append]
  have : ¬ (g == x) = true := by simpa using h.1
  rw [if_neg this, ydz h.2]
def ytg : SObj -> List (Nat × SV) -> SObj
 | .loop _ f n _ ps a b, t => .loop (.done .ret) f n t ps a b
 | o, _ => o
section
variable {A : List SObj} {n : Nat} (hn : A.length = n) (a a' c l : SObj)
include hn
theorem yvo : (A ++ [a, c, l])[n]? = some a := by subst hn; simp
theorem yvp : (A ++ [a, c, l])[n + 1]? = some c := by subst hn; simp
theorem yvq : (A ++ [a, c, l])[n + 2]? = some l := by subst hn; simp
theorem yvr : (A ++ [a, c, l]).set n a' = A ++ [a', c, l] := by subst hn; simp
theorem yvx : (A ++ [a, c, l]).set (n + 2) a' = A ++ [a, c, a'] := by subst hn; simp
theorem yth {i : Nat} (h : i < n) : (A ++ [a, c, l])[i]? = A[i]? := by subst hn; rw [List.getElem?_append_left h]
end
def zvp (nf : Nat) (done : List Int) : List Bool := (List.range nf).map fun (i : Nat) => decide ((i : Int) ∈ done)
theorem yea (nf : Nat) (done : List Int) : (zvp nf done).length = nf := by simp [zvp]
theorem yog (nf : Nat) : (zvp nf []).map bvS = List.replicate nf (bvS false) := by
 apply List.ext_getElem
 ·simp [zvp]
 ·intro i h1 h2
  simp [zvp]
theorem yoh {nf : Nat} {done : List Int} {f : Int} (h : 0 <= f /\ f < nf) : (zvp nf done).set f.toNat true = zvp nf (done ++ [f]) := by
 apply List.ext_getElem
 ·simp [zvp]
 ·intro i h1 h2
  rw [List.getElem_set]
  simp only [zvp, List.getElem_map, List.getElem_range, List.mem_append, List.mem_singleton]
  split
  ·rename_i e
   have : (i : Int) = f := by omega
   simp [this]
  ·rename_i e
   have : ¬ (i : Int) = f := by omega
   simp [this]
theorem zcy {α : Type} {k : Int} : ∀ {l : List (Int × α)}, (zo k l).isSome = decide (k ∈ l.map (·.1))
 | [] => by simp [zo]
 | (k', v) :: l => by
  simp only [zo, List.map_cons, List.mem_cons]
  by_cases e : k = k'
  ·subst e; simp
  ·have : ¬ (k == k') = true := by simpa using e
   rw [if_neg this, zcy]
   simp [e]
theorem yoi {nf : Nat} {done : List Int} {m : List (Int × List Int)} (h : done.Perm (m.map (·.1))) : zvp nf done = (List.range nf).map fun (i : Nat) => (zo (i : Int) m).isSome := by
 unfold zvp
 refine List.map_congr_left fun i _ => ?_
 rw [zcy]
 exact decide_eq_decide.2 h.mem_iff
theorem zqw (g : ByteArray) : ∀ failed : List ByteArray, ((zo g (failed.map fun g => (g, true))).map sB).getD (qk (.bool false)) = sB (decide (g ∈ failed))
 | [] => by simp [zo]; rfl
 | x :: l => by
  simp only [List.map_cons, zo]
  by_cases e : g = x
  ·subst e; simp
  ·have : ¬ (g == x) = true := by simpa using e
   rw [if_neg this, zqw g l]
   simp [e]
theorem yti (X : Nat -> SObj) (nf : Nat) (p : zgh) : WH X (s00 nf p) = [X 0, X 1, X 2, X 3, X 4, X 5, X 6, X 7, X 8, X 9, X 10, X 11, X 12, X 13, X 14, X 15, X 16, X 17, X 18, X 19, X 20, .cells (List.replicate nf (bvS false)), .cells (List.replicate nf (ivS 0)),
   .cells [ivS p.1, ivS p.2.1, ivS p.2.2.1, ivS p.2.2.2.1, ivS p.2.2.2.2, .osl 21 0 nf, .osl 22 0 nf]] := by simp [WH]
structure WitOK (Y : Nat -> SObj) (c : Codex) (vers : List Int) (q : Sr) : Prop where
 und : ∀ i, (Y i).under 17 = true
 maps : MapsOK Y q.cands
 nf : c.facts.length <= 1000
 arts : c.arts.length <= 1000
 days : ykp c
 versR : ∀ v ∈ vers, 0 <= v /\ v < c.arts.length
 vsz : vers.length <= 1000000
 cz : q.conds.length <= 1000000
 az : q.atoms.length <= 1000000
 conds : ∀ x ∈ q.conds, x.ok c.facts.length
 atoms : ∀ x ∈ q.atoms, x.ok c.facts.length /\ ∃ op l r, x = .cmp op l r
 sr : SrOK q c.facts.length
 csz : q.cands.length <= 1000
def yoj (c : Codex) (vers : List Int) (q : Sr) : SV :=
 match qw c vers q with
 | some v => .tup [.agg [sI v.day, .imm (xm v.has), .imm (dInts v.value), .imm (dInts v.arts)], sB true]
 | none => .tup [.agg zaj, sB false]
theorem zyq {Y : Nat -> SObj} {c : Codex} {vers : List Int} {q : Sr} (hW : WitOK Y c vers q) :
    SCall Tryz.prog G0 41 [.ptr 2 0] (NSH Y (zx c vers q)) (fun r _ => r = yoj c vers q) := by
  have hfl : (c.facts.map Decl.cells).length = c.facts.length := by simp
  have hnf := hW.nf
  refine yy Tryz.func41 rfl (by rw [Tryz.ntmps41]; simp) ?_
  intro E hH hK
  (refine zh ?_; conv => whnf)
  rw [hfl]
  (refine ya 3 mixed rfl ?_; refine zc [777] (nx := 21) ?_; conv => whnf)
  refine ykf 21 (n := c.facts.length) (zz := bvS false) rfl rfl rfl rfl rfl rfl rfl rfl rfl ⟨by decide, rfl⟩ rfl (fun _ => rfl) (Nat.le_refl 21) rfl rfl rfl (by omega) ?_
  (refine zc [777] (nx := 22) ?_; conv => whnf)
  refine ykf 22 (n := c.facts.length) (zz := ivS 0) rfl rfl rfl rfl rfl rfl rfl rfl rfl ⟨by decide, rfl⟩ rfl (fun _ => rfl) (by decide : 21 <= 22) rfl rfl rfl (by omega) ?_
  (refine zc [777] (nx := 23) ?_; conv => whnf)
  refine yrd 23 (cs := [ivS 0, ivS 0, ivS 0, ivS 0, ivS 0, .osl 21 0 c.facts.length, .osl 22 0 c.facts.length]) rfl rfl rfl rfl rfl (by decide : 21 <= 23) rfl ?_
  (refine zc [777] (nx := 24) ?_; conv => whnf)
  refine zf [1, 2, 3, 4, 5] ?_
  refine Eq.mpr (congrArg (fun h => SW E _ _ h) (show _ = WH (XW Y c vers q [] 0) (s00 c.facts.length (0, 0, 0, 0, 0)) by rw [yti]; rfl)) ?_
  show SW E _ [(1, .ptr 17 0), (2, .ptr 18 0), (3, .ptr 19 0), (4, .ptr 20 0), (5, .ptr 23 0)] _
  have hlen0 : (s00 c.facts.length (0, 0, 0, 0, 0)).ch.length = (s00 c.facts.length (0, 0, 0, 0, 0)).vs.length := by simp
  (refine zh ?_; conv => whnf)
  refine ys 24 rfl rfl rfl rfl rfl rfl (ygp G0 (zvo hW.und c.facts.length [] 0) c vers q _ hW.days hW.versR (by have := hW.vsz; omega)) ?_
  intro r1 H1 hr _
  obtain ⟨rfl, rfl⟩ := hr
  have hfr := zyh hW.days vers (0, 36525) (by decide)
  have hhz := zkh q.dates
  have hwit : yoj c vers q = match (match zcd q c.facts.length (min (yj c vers).2 ((yj c vers).1 + yq q.dates) - (yj c vers).1).toNat (yj c vers).1 [] with
      | some (day, vs) => some (⟨day, (List.range c.facts.length).map fun (i : Nat) => (zo (i : Int) q.cands).isSome, vs, vers⟩ : View)
      | none => none) with
    | some v => .tup [.agg [sI v.day, .imm (xm v.has), .imm (dInts v.value), .imm (dInts v.arts)], sB true]
    | none => .tup [.agg zaj, sB false] := rfl
  rw [hwit] at hK
  have hfr' : 0 <= (yj c vers).1 /\ (yj c vers).1 <= 36525 /\ 0 <= (yj c vers).2 /\ (yj c vers).2 <= 36525 := hfr
  generalize hlo : (yj c vers).1 = lo at hK hfr' ⊢
  generalize hto : min (yj c vers).2 (lo + yq q.dates) = to at hK ⊢
  have hto' : to <= 36525 := by omega
  (refine za ?_; conv => whnf)
  refine zf [1, 2, 3, 4, 5, 6, 8, 9] ?_
  refine xy (σ := Nat × Int × List ByteArray × zgh) (fun _ => [(1, .ptr 17 0), (2, .ptr 18 0), (3, .ptr 19 0), (4, .ptr 20 0), (5, .ptr 23 0), (6, .map 24), (8, sI to)] ++ [(9, .ptr 25 0)]) (fun x => WD Y c vers q x.2.2.1 x.2.1 x.2.2.2)
    (fun x => lo <= x.2.1 /\ (x.1 : Int) = max 0 (to - x.2.1) /\ (x.2.2.2 = (0, 0, 0, 0, 0) \/ (1 <= x.2.1 /\ x.2.2.2 = xe (x.2.1 - 1))) /\ zcd q c.facts.length (to - lo).toNat lo [] = zcd q c.facts.length x.1 x.2.1 x.2.2.1) (fun x => x.1) ?_ ((to - lo).toNat, lo, [], (0, 0, 0, 0, 0)) ⟨Int.le_refl _, by simp only; omega, .inl rfl, rfl⟩
  rintro ⟨n, day, failed, p⟩ ⟨h1, h2, h3, h4⟩ ih
  simp only at h1 h2 h3 h4
  show SW E _ _ (WD Y c vers q failed day p)
  have hYW := zvo hW.und c.facts.length failed day
  have hXW := zdl hYW c vers q
  have huA : ∀ FF, (WH (XW Y c vers q FF day) (s00 c.facts.length (xe day)) ++ [zyp FF]).all (SObj.under 25) = true := fun FF => by
    rw [List.all_append, yz (m := 24) (by omega) (zbk (zdl (zvo hW.und c.facts.length FF day) c vers q) _)]
    simp only [List.all_cons, List.all_nil, zkk, Bool.and_true, Bool.true_and]
  have hst : (st0 c.facts.length day).ch.length = (st0 c.facts.length day).vs.length := by simp [st0]
  have hstv : (st0 c.facts.length day).vs.length = c.facts.length := by simp [st0]
  have hcz := hW.cz
  have haz := hW.az
  have hcsz := hW.csz
  (refine zh ?_; conv => whnf)
  repeat' ((with_reducible refine way ?_ ?_) <;> (intro h; conv => whnf))
  · obtain ⟨n', rfl⟩ : ∃ n', n = n' + 1 := ⟨n - 1, by omega⟩
    simp only [zcd] at h4
    refine ys 24 rfl rfl rfl rfl rfl rfl (zyf hXW (s00 c.facts.length p) day ⟨by omega, by omega⟩ h3) ?_
    intro r1 H1 hr _
    obtain ⟨rfl, rfl⟩ := hr
    refine Eq.mpr (congrArg (fun h => SWr E _ _ _ _ h) (show _ = WD Y c vers q failed day (xe day) from rfl)) ?_
    (refine za ?_; conv => whnf)
    refine ys 24 rfl rfl rfl rfl rfl rfl (zhr G0 hYW c vers q (st0 c.facts.length day) hst (by rw [hstv]; exact hW.conds) (by omega)) ?_
    intro r1 H1 hr _
    obtain ⟨rfl, rfl⟩ := hr
    refine Eq.mpr (congrArg (fun h => SWr E _ _ _ _ h) (show _ = WD Y c vers q failed day (xe day) from rfl)) ?_
    generalize hv : zab q.conds (st0 c.facts.length day) = vd at h4
    (refine za ?_; conv => whnf)
    repeat' ((with_reducible refine way ?_ ?_) <;> (intro h; conv => whnf))
    · rw [if_pos (by assumption)] at h4
      rw [wo (c := day + 1) (by omega) (by omega)]
      refine zf [1, 2, 3, 4, 5, 6, 8, 9] ?_
      refine Eq.mpr (congrArg (fun h => SW E _ _ h) (show _ = (WH (XW Y c vers q failed day) (s00 c.facts.length (xe day)) ++ [zyp failed]) ++ [.cells [sI day], .cells [sI (day + 1)]] from rfl)) ?_
      refine zqv (n0 := 25) (t0 := [(1, .ptr 17 0), (2, .ptr 18 0), (3, .ptr 19 0), (4, .ptr 20 0), (5, .ptr 23 0), (6, .map 24), (8, sI to)]) (v := 9) rfl (by rw [hH]; exact (by decide : 17 <= 25)) (huA failed) rfl rfl ?_
      exact ih (n', day + 1, failed, xe day) ⟨by simp only; omega, by simp only; omega, .inr ⟨by simp only; omega, by simp only; rw [show day + 1 - 1 = day by omega]⟩, h4⟩ (by simp only; omega)
    rw [if_neg (by assumption)] at h4
    refine ys 24 rfl rfl rfl rfl rfl rfl (zsj G0 hYW c vers q (st0 c.facts.length day) hst (by rw [hstv]; exact hW.atoms) (by omega)) ?_
    intro r1 H1 hr _
    obtain ⟨rfl, rfl⟩ := hr
    refine Eq.mpr (congrArg (fun h => SWr E _ _ _ _ h) (show _ = WD Y c vers q failed day (xe day) from rfl)) ?_
    generalize hsg : zmr q.atoms (st0 c.facts.length day) = g at h4
    (refine za ?_; conv => whnf)
    refine zpx (b := 24) (l := failed.map fun g => (g, true)) sB rfl rfl rfl rfl rfl rfl rfl rfl rfl (zqw g failed) ?_
    by_cases hm : g ∈ failed
    · rw [if_pos hm] at h4
      rw [show decide (g ∈ failed) = true by simp [hm]]
      (refine za ?_; conv => whnf)
      rw [wo (c := day + 1) (by omega) (by omega)]
      refine zf [1, 2, 3, 4, 5, 6, 8, 9] ?_
      refine Eq.mpr (congrArg (fun h => SW E _ _ h) (show _ = (WH (XW Y c vers q failed day) (s00 c.facts.length (xe day)) ++ [zyp failed]) ++ [.cells [sI day], .cells [sI (day + 1)]] from rfl)) ?_
      refine zqv (n0 := 25) (t0 := [(1, .ptr 17 0), (2, .ptr 18 0), (3, .ptr 19 0), (4, .ptr 20 0), (5, .ptr 23 0), (6, .map 24), (8, sI to)]) (v := 9) rfl (by rw [hH]; exact (by decide : 17 <= 25)) (huA failed) rfl rfl ?_
      exact ih (n', day + 1, failed, xe day) ⟨by simp only; omega, by simp only; omega, .inr ⟨by simp only; omega, by simp only; rw [show day + 1 - 1 = day by omega]⟩, h4⟩ (by simp only; omega)
    rw [if_neg hm] at h4
    rw [show decide (g ∈ failed) = false by simp [hm]]
    (refine za ?_; conv => whnf)
    refine we rfl rfl rfl rfl rfl rfl ((zom G0 hYW c vers q (st0 c.facts.length day) (yre hW.maps _ _ _) (by omega)).mono ?_)
    rintro r H' ⟨rfl, hl', ht⟩
    refine ⟨Nat.le_trans (by decide : 26 <= 32) hl', ?_⟩
    (refine za ?_; conv => whnf)
    have hWBu : ∀ N, 32 <= N -> (WB (XS (YW Y c.facts.length failed day) (zx c vers q)) (st0 c.facts.length day) ((zu q.cands).map (·.1)) ((zu q.cands).map fun e => .imm (dInts e.2)) (zu q.cands).length).all (SObj.under N) = true := fun N hN =>
      zvn hXW _ _ _ hN (jz (f := fun e : Int × List Int => SV.imm (dInts e.2)) (fun _ => rfl) _)
    refine yr [1, 2, 3, 4, 5, 6, 8, 9, 10, 53] 32 (by rw [hH]; exact (by decide : 17 <= 32)) hl' rfl (by rw [ht]; exact hWBu 32 (Nat.le_refl _)) ?_
    rw [ht]
    show SW E _ [(1, .ptr 17 0), (2, .ptr 18 0), (3, .ptr 19 0), (4, .ptr 20 0), (5, .ptr 23 0), (6, .map 24), (8, sI to), (9, .ptr 25 0), (10, sS g), (53, .fn (.func 104) [] [.ptr 26 0, .ptr 27 0, .ptr 29 0, .ptr 31 0])] _
    refine zhm rfl rfl ?_
    clear ht hl'
    have hvz : ∀ e ∈ zu q.cands, e.2.length <= 1073741824 := fun e he => by
      obtain ⟨f, hf, rfl⟩ := List.mem_map.1 he
      have := (List.mergeSort_perm (q.cands.map (·.1)) fun x y => decide (x <= y)).mem_iff.1 hf
      obtain ⟨e2, he2, rfl⟩ := List.mem_map.1 this
      have := zbm hW.maps.nd he2
      simp only [this, Option.getD_some, List.length_mergeSort]
      have := hW.maps.sz e2 he2
      omega
    have hz : ∀ e ∈ zu q.cands, (st0 c.facts.length day).vs.getD e.1.toNat 0 = 0 := fun e _ => by
      simp only [st0, List.getD_eq_getElem?_getD, List.getElem?_replicate]
      split <;> rfl
    generalize hlp : SObj.loop .ready E.f _ _ _ _ _ = lp
    obtain ⟨Q, hQ⟩ : ∃ Q : List Int -> List SObj -> Prop, Q = fun vs H' => (∃ t', H'[32]? = some (ytg lp t')) /\ H'[18]? = some (.cells [sI day, .imm (xm ((List.range c.facts.length).map fun (i : Nat) => (zo (i : Int) q.cands).isSome)), .imm (dInts vs), .imm (dInts vers)]) /\ H'[19]? = some (.cells [sB true]) := ⟨_, rfl⟩
    subst hlp
    refine (yof G0 hYW rfl c vers q (zu q.cands) Q rfl rfl (by simp [zu]; omega) (by omega) c.facts.length (by omega) hW.conds hvz ?_ (st0 c.facts.length day) hstv (hW.sr.rest day) hz).mono ?_
    · intro s hs1 hs2
      rw [hQ]
      clear hQ hK h4 ih
      refine zhn (b := 32) rfl E.hfn rfl (by decide) ?_
      intro E3 hl3 hOwn hKR
      (refine zh ?_; conv => whnf)
      refine zur hOwn rfl ?_
      refine Eq.mpr (congrArg (fun h => SW E3 _ _ h) (show _ = WA (XS (YW Y c.facts.length failed day) (zx c vers q)) s (zu q.cands) _ from rfl)) ?_
      refine zf [1, 2, 3, 4, 9, 11] ?_
      show SW E3 _ [(1, .ptr 17 0), (2, .ptr 18 0), (3, .ptr 19 0), (4, .ptr 20 0), (9, .ptr 25 0), (11, .imm (dInts s.vs))] _
      (refine zh ?_; conv => whnf)
      (refine ya 2 mixed rfl ?_; refine zc [777] (nx := 35) ?_; conv => whnf)
      refine ykf 35 (n := c.facts.length) (zz := bvS false) rfl rfl rfl rfl rfl rfl rfl rfl rfl ⟨by decide, rfl⟩ rfl (fun _ => rfl) (Nat.le_refl 35) rfl rfl rfl (by omega) ?_
      (refine zc [777] (nx := 36) ?_; conv => whnf)
      refine zae rfl (by simp [yi, WA, WH]) (zvl G0 vers (by have := hW.vsz; omega)) ?_
      (refine zc [777] (nx := 36) ?_; conv => whnf)
      refine zf [1, 2, 3, 12] ?_
      refine Eq.mpr (congrArg (fun h => SW E3 _ _ h) (show _ = WA (XS (YW Y c.facts.length failed day) (zx c vers q)) s (zu q.cands) _ ++ [.cells (List.replicate c.facts.length (bvS false)), .cells [sI day, .osl 35 0 c.facts.length, .imm (dInts s.vs), .imm (dInts vers)]] from rfl)) ?_
      show SW E3 _ [(1, .ptr 17 0), (2, .ptr 18 0), (3, .ptr 19 0), (12, .ptr 36 0)] _
      refine ydm (b := 1) (es := zby (fun n : Nat => SV.map n) (q.cands.map fun e => (e.1, 3 + e.1.toNat))) (by show some (Y 1) = _; rw [hW.maps.out]) ?_
      intro es' clock hes hst2
      (refine zh ?_; conv => whnf)
      refine zlg rfl rfl rfl rfl rfl rfl ?_
      (refine za ?_; conv => whnf)
      refine zf [1, 2, 3, 12, 69] ?_
      generalize hlpb : SObj.loop .busy E.f _ _ _ _ _ = lpb at hKR ⊢
      refine Eq.mpr (congrArg (fun h => SW E3 _ _ h) (show _ = (WA (XS (YW Y c.facts.length failed day) (zx c vers q)) s (zu q.cands) lpb).set 1 (.pin .i64 es' clock) ++ [.cells (List.replicate c.facts.length (bvS false)), .cells [sI day, .osl 35 0 c.facts.length, .imm (dInts s.vs), .imm (dInts vers)], .iter 1 clock [] clock] from rfl)) ?_
      have hX := hXW
      have aL : ((WA (XS (YW Y c.facts.length failed day) (zx c vers q)) s (zu q.cands) lpb).set 1 (.pin .i64 es' clock)).length = 35 := by rw [List.length_set]; rfl
      have a1 : ((WA (XS (YW Y c.facts.length failed day) (zx c vers q)) s (zu q.cands) lpb).set 1 (.pin .i64 es' clock))[1]? = some (.pin .i64 es' clock) := rfl
      have a18 : ((WA (XS (YW Y c.facts.length failed day) (zx c vers q)) s (zu q.cands) lpb).set 1 (.pin .i64 es' clock))[18]? = some (.cells zaj) := rfl
      have a19 : ((WA (XS (YW Y c.facts.length failed day) (zx c vers q)) s (zu q.cands) lpb).set 1 (.pin .i64 es' clock))[19]? = some (.cells [sB false]) := rfl
      have a32 : ((WA (XS (YW Y c.facts.length failed day) (zx c vers q)) s (zu q.cands) lpb).set 1 (.pin .i64 es' clock))[32]? = some lpb := rfl
      have aU : ((WA (XS (YW Y c.facts.length failed day) (zx c vers q)) s (zu q.cands) lpb).set 1 (.pin .i64 es' clock)).all (SObj.under 35) = true := by
        refine zvh (ydw hX s _ (by subst hlpb; rfl)) (zln ?_ hes)
        have := SObj.under_mono (m := 24) (n := 35) (by omega) _ (hX 1)
        rw [show XS (YW Y c.facts.length failed day) (zx c vers q) 1 = .mapI .i64 (zby (fun n : Nat => SV.map n) (q.cands.map fun e => (e.1, 3 + e.1.toNat))) from hW.maps.out] at this
        exact this
      generalize (WA (XS (YW Y c.facts.length failed day) (zx c vers q)) s (zu q.cands) lpb).set 1 (.pin .i64 es' clock) = A at aL a1 a18 a19 a32 aU ⊢
      have hk1 : es'.map (·.2.1) = q.cands.map (·.1) := by
        have : es'.map (·.2.1) = (es'.map (·.2)).map (·.1) := by rw [List.map_map]; rfl
        rw [this, hes]
        simp [zby]
      have hk2 : ∀ x ∈ es', 0 <= x.2.1 /\ x.2.1 < c.facts.length := fun x hx => by
        have h1 : x.2.1 ∈ q.cands.map (·.1) := by rw [<- hk1]; exact List.mem_map.2 ⟨x, hx, rfl⟩
        have h2 : x.2.1 ∈ zdk (q.cands.map (·.1)) := (List.mergeSort_perm (q.cands.map (·.1)) fun x y => decide (x <= y)).mem_iff.2 h1
        have h3 := (hW.sr.rest day).rng (x.2.1, zdk ((zo x.2.1 q.cands).getD [])) (List.mem_map.2 ⟨_, h2, rfl⟩)
        rw [hstv] at h3
        exact h3
      rw [<- yog]
      show SW E3 _ [(1, .ptr 17 0), (2, .ptr 18 0), (3, .ptr 19 0), (12, .ptr 36 0), (69, .ptr 37 0)] _
      refine xy (σ := List Nat × List Int) (fun _ => [(1, .ptr 17 0), (2, .ptr 18 0), (3, .ptr 19 0), (12, .ptr 36 0), (69, .ptr 37 0)]) (fun x => A ++ [.cells ((zvp c.facts.length x.2).map bvS), .cells [sI day, .osl 35 0 c.facts.length, .imm (dInts s.vs), .imm (dInts vers)], .iter 1 clock x.1 clock])
        (fun x => (x.2 ++ (zbj es' x.1).map (·.2.1)).Perm (es'.map (·.2.1))) (fun x => (zbj es' x.1).length) ?_ ([], []) (by simp [zlh])
      rintro ⟨seen, done⟩ hp2 ih2
      simp only at hp2 ih2
      show SW E3 _ _ (A ++ [.cells ((zvp c.facts.length done).map bvS), .cells [sI day, .osl 35 0 c.facts.length, .imm (dInts s.vs), .imm (dInts vers)], .iter 1 clock seen clock])
      (refine zh ?_; conv => whnf)
      refine zou rfl rfl rfl rfl (yvq aL _ _ _) (by rw [yth aL _ _ _ (by omega)]; exact a1) hst2 (Nat.le_refl _) (fun h0 => ?_) (fun e he => ?_)
      · have hdn : done.Perm (q.cands.map (·.1)) := by
          rw [h0, hk1] at hp2
          simpa using hp2
        have hall := yoi (nf := c.facts.length) hdn
        have hhl : (zvp c.facts.length done).length = c.facts.length := yea _ _
        rw [<- hall] at hKR
        generalize zvp c.facts.length done = has at hKR hhl ⊢
        have hck := zmj (has.map dB)
        rw [List.length_map, hhl] at hck
        refine qi (fun k h => yqh 35 c.facts.length 1 (cs := has.map bvS) (ds := has.map dB) (yvo aL _ _ _) (by simp [SV.one]) (by rw [show has.map bvS = (has.map dB).map SV.imm by simp]; exact zos _) (by simp [hhl]) h) ?_
        rw [hck, yvr aL, List.map_append]
        have hdb : (D.isl 1 ((has.map dB).map fun d => [d])) = xm has := by simp [xm]
        rw [hdb]
        have hvw : [SObj.dead, .cells [sI day, .osl 35 0 c.facts.length, .imm (dInts s.vs), .imm (dInts vers)], .iter 1 clock seen clock].map (SObj.shut 35 c.facts.length (xm has)) = [.dead, .cells [sI day, .imm (xm has), .imm (dInts s.vs), .imm (dInts vers)], .iter 1 clock seen clock] := by
          simp [SObj.shut, SV.shut, SV.shut.shutL]
        rw [hvw]
        have bL : (A.map (SObj.shut 35 c.facts.length (xm has))).length = 35 := by rw [List.length_map, aL]
        have b18 : (A.map (SObj.shut 35 c.facts.length (xm has)))[18]? = some (.cells zaj) := by rw [List.getElem?_map, a18]; rfl
        have b19 : (A.map (SObj.shut 35 c.facts.length (xm has)))[19]? = some (.cells [sB false]) := by rw [List.getElem?_map, a19]; rfl
        have b32 : (A.map (SObj.shut 35 c.facts.length (xm has)))[32]? = some (lpb.shut 35 c.facts.length (xm has)) := by rw [List.getElem?_map, a32]; rfl
        generalize A.map (SObj.shut 35 c.facts.length (xm has)) = B at bL b18 b19 b32 ⊢
        (refine ym [777, 78, 999] 1000 ?_; conv => whnf)
        refine xq (v := .agg [sI day, .imm (xm has), .imm (dInts s.vs), .imm (dInts vers)]) rfl rfl rfl rfl (yvp bL _ _ _) rfl ?_
        refine zhu (b := 18) (n := 4) rfl rfl rfl rfl rfl rfl rfl rfl (by rw [yth bL _ _ _ (by omega)]; exact b18) rfl ?_
        refine zhu (b := 19) (n := 1) rfl rfl rfl rfl rfl rfl rfl rfl (by rw [List.getElem?_set_ne (by decide), yth bL _ _ _ (by omega)]; exact b19) rfl ?_
        (refine za ?_; conv => whnf)
        subst hlpb
        have hne : ∀ x y : SObj, ∀ i, i ≠ 18 -> i ≠ 19 -> (((B ++ [SObj.dead, .cells [sI day, .imm (xm has), .imm (dInts s.vs), .imm (dInts vers)], .iter 1 clock seen clock]).set 18 x).set 19 y)[i]? = (B ++ [SObj.dead, .cells [sI day, .imm (xm has), .imm (dInts s.vs), .imm (dInts vers)], .iter 1 clock seen clock])[i]? := fun x y i h1 h2 => by
          rw [List.getElem?_set_ne (Ne.symm h2), List.getElem?_set_ne (Ne.symm h1)]
        have hBl : (B ++ [SObj.dead, .cells [sI day, .imm (xm has), .imm (dInts s.vs), .imm (dInts vers)], .iter 1 clock seen clock]).length = 38 := by simp [bL]
        refine hKR (some .ret) _ _ ?_ ((hne _ _ 32 (by decide) (by decide)).trans ((yth bL _ _ _ (by decide)).trans b32)) ⟨rfl, ?_, ⟨_, List.getElem?_set_self ?_⟩, ?_, ?_⟩
        · rw [List.length_set, List.length_set, hBl]
          exact (by decide : 35 <= 38)
        · rw [List.length_set, List.length_set, List.length_set, hBl]
          decide
        · rw [List.length_set, List.length_set, hBl]
          decide
        · rw [List.getElem?_set_ne (by decide), List.getElem?_set_ne (by decide), List.getElem?_set_self (by rw [hBl]; decide)]
        · rw [List.getElem?_set_ne (by decide), List.getElem?_set_self (by rw [List.length_set, hBl]; decide)]
          rfl
      · rw [yvx aL]
        obtain ⟨e1, f, e3⟩ := e
        have hperm := zim hst2.1 he
        have hpl := hperm.length_eq
        have hpm := hperm.map (·.2.1)
        simp only [List.map_cons, List.length_cons] at hpm hpl
        have hfr := hk2 _ (zff he)
        simp only at hfr
        have hfl2 : f.toNat < (zvp c.facts.length done).length := by rw [yea]; omega
        (refine ym [777, 73] 1000 ?_; conv => whnf)
        refine zli rfl rfl rfl rfl (yvq aL _ _ _) (by rw [yth aL _ _ _ (by omega)]; exact a1) (zff he) ?_
        (refine ym [777, 75] 1000 ?_; conv => whnf)
        refine xq (v := .osl 35 0 c.facts.length) rfl rfl rfl rfl (yvp aL _ _ _) rfl ?_
        (refine ym [777, 999] 1000 ?_; conv => whnf)
        refine zge (i := f.toNat) rfl rfl rfl rfl rfl rfl rfl (show f = ((f.toNat : Nat) : Int) by omega) (by omega) ?_
        refine jo (d := ((zvp c.facts.length done).take f.toNat).map bvS) (zz := bvS ((zvp c.facts.length done)[f.toNat]'hfl2)) (r := ((zvp c.facts.length done).drop (f.toNat + 1)).map bvS) (v := bvS true) rfl rfl rfl rfl rfl rfl rfl rfl (by rw [<- zcx]; exact yvo aL _ _ _) (by show 0 + f.toNat * 1 = _; rw [List.length_map, List.length_take]; omega) ?_
        rw [yvr aL, zki _ _ _ hfl2, yoh hfr]
        (refine za ?_; conv => whnf)
        refine yr [1, 2, 3, 12, 69] 38 (by rw [hl3]; exact (by decide : 35 <= 38)) (by simp [aL]) rfl ?_ ?_
        · rw [List.take_of_length_le (by simp [aL]), List.all_append, yz (m := 35) (by omega) aU]
          simp only [List.all_cons, List.all_nil, zyc, jz (f := bvS) (fun _ => rfl), Bool.and_true, Bool.true_and]
          rfl
        · rw [List.take_of_length_le (by simp [aL])]
          exact ih2 (seen ++ [e1], done ++ [f]) (by
            refine List.Perm.trans ?_ hp2
            simp only [List.append_assoc, List.cons_append, List.nil_append]
            exact (List.Perm.refl done).append hpm.symm) (by simp only; omega)
    · rintro r H' ⟨hl', hs, hnone⟩
      refine ⟨hl', ?_⟩
      cases hres : wx q.conds (zu q.cands) (st0 c.facts.length day) with
      | some vs =>
        have hs' := hs vs hres
        rw [hQ] at hs'
        obtain ⟨⟨t', g1⟩, g2, g3⟩ := hs'
        rw [hres] at h4
        simp only at h4
        rw [h4] at hK
        refine ⟨.done .ret, t', g1, .inr ⟨.ret, rfl, ?_⟩⟩
        have k2 : (H'.set 32 .dead)[18]? = some (.cells [sI day, .imm (xm ((List.range c.facts.length).map fun (i : Nat) => (zo (i : Int) q.cands).isSome)), .imm (dInts vs), .imm (dInts vers)]) := by rw [List.getElem?_set_ne (by decide)]; exact g2
        have k3 : (H'.set 32 .dead)[19]? = some (.cells [sB true]) := by rw [List.getElem?_set_ne (by decide)]; exact g3
        show SW E _ _ (H'.set 32 .dead)
        generalize H'.set 32 .dead = H2 at k2 k3
        have l2 : ql Tryz.prog 31 H2 (.ptr 18 0) = some (.agg [sI day, .imm (xm ((List.range c.facts.length).map fun (i : Nat) => (zo (i : Int) q.cands).isSome)), .imm (dInts vs), .imm (dInts vers)]) := by
          unfold ql
          simp only [k2]
          rfl
        have l3 : ql Tryz.prog 4 H2 (.ptr 19 0) = some (sB true) := by
          unfold ql
          simp only [k3]
          rfl
        refine ypg (r := .tup [.agg [sI day, .imm (xm ((List.range c.facts.length).map fun (i : Nat) => (zo (i : Int) q.cands).isSome)), .imm (dInts vs), .imm (dInts vers)], sB true]) ?_ (hK _ _ rfl)
        show (match List.mapM (zes Tryz.prog H2 _) [ResultVar.cell 2 31, ResultVar.cell 3 4] with | some [s] => some s | some l => some (.tup l) | none => none) = _
        simp only [List.mapM_cons, List.mapM_nil, zes]
        show (match (do let a <- ql Tryz.prog 31 H2 (.ptr 18 0); let b <- (do let a <- ql Tryz.prog 4 H2 (.ptr 19 0); let b <- (some []); some (a :: b)); some (a :: b)) with | some [s] => some s | some l => some (.tup l) | none => none) = _
        rw [l2, l3]
        rfl
      | none =>
        have ht := hnone hres
        rw [hres] at h4
        simp only at h4
        have hg : H'[32]? = (H'.take 33)[32]? := by rw [List.getElem?_take, if_pos (by omega)]
        refine ⟨.ready, _, by show H'[32]? = _; rw [hg, ht]; rfl, .inl ⟨rfl, ?_⟩⟩
        show SW E _ _ (H'.set 32 .dead)
        have ht2 : (H'.set 32 .dead).take 26 = WD Y c vers q failed day (xe day) := by
          rw [List.take_set_of_le (by omega)]
          have : H'.take 26 = (H'.take 33).take 26 := by rw [List.take_take]; rfl
          rw [this, ht]
          rfl
        refine yr [1, 2, 3, 4, 5, 6, 8, 9, 10] 26 (by rw [hH]; exact (by decide : 17 <= 26)) (by rw [List.length_set]; omega) rfl ?_ ?_
        · rw [ht2]
          unfold WD
          rw [List.all_append, yz (m := 24) (by omega) (zbk hXW _)]
          simp only [List.all_cons, List.all_nil, zkk, Bool.and_true, Bool.true_and]
          rfl
        · rw [ht2]
          show SW E _ [(1, .ptr 17 0), (2, .ptr 18 0), (3, .ptr 19 0), (4, .ptr 20 0), (5, .ptr 23 0), (6, .map 24), (8, sI to), (9, .ptr 25 0), (10, sS g)] _
          (refine zh ?_; conv => whnf)
          refine ycy (b := 24) (l := failed.map fun g => (g, true)) sB true rfl rfl rfl rfl rfl rfl rfl rfl rfl ?_
          rw [ydz hm]
          (refine za ?_; conv => whnf)
          rw [wo (c := day + 1) (by omega) (by omega)]
          refine zf [1, 2, 3, 4, 5, 6, 8, 9] ?_
          refine Eq.mpr (congrArg (fun h => SW E _ _ h) (show _ = (WH (XW Y c vers q (failed ++ [g]) day) (s00 c.facts.length (xe day)) ++ [zyp (failed ++ [g])]) ++ [.cells [sI day], .cells [sI (day + 1)]] from rfl)) ?_
          refine zqv (n0 := 25) (t0 := [(1, .ptr 17 0), (2, .ptr 18 0), (3, .ptr 19 0), (4, .ptr 20 0), (5, .ptr 23 0), (6, .map 24), (8, sI to)]) (v := 9) rfl (by rw [hH]; exact (by decide : 17 <= 25)) (huA (failed ++ [g])) rfl rfl ?_
          exact ih (n', day + 1, failed ++ [g], xe day) ⟨by simp only; omega, by simp only; omega, .inr ⟨by simp only; omega, by simp only; rw [show day + 1 - 1 = day by omega]⟩, h4⟩ (by simp only; omega)
  · have hn0 : n = 0 := by omega
    subst hn0
    simp only [zcd] at h4
    rw [h4] at hK
    exact hK _ _ rfl
def yeb (m : List (Int × List Int)) : SObj := .mapI .i64 (zby (fun n : Nat => SV.map n) (m.map fun e => (e.1, 3 + e.1.toNat)))
def yrf (vals : List Int) : SObj := .mapI .i64 (zby sB (vals.map fun v => (v, true)))
def ygr (m : List (Int × List Int)) (i : Nat) : SObj :=
 match zo (i : Int) m with
 | some vals => yrf vals
 | none => .free
def NSm (o0 o1 o2 : SObj) (m : List (Int × List Int)) (ta tb : Nat) : List SObj := [o0, o1, o2] ++ ((List.range 12).map (ygr m) ++ [.tok 1 ta, .tok 5 tb])
def zdo (c : Codex) : SObj := .cells [.imm (zk c.facts), .imm (zk c.lines), .imm (xw c.arts)]
def NS (c : Codex) (vers : List Int) (q : Sr) : List SObj := NSm (zdo c) (yeb q.cands) (.cells (zx c vers q)) q.cands q.conds.length q.atoms.length
theorem ygs (vals : List Int) (n : Nat) : (yrf vals).under n = true := by
 simp only [yrf, SObj.under, zby, List.map_map, List.all_map, List.all_eq_true]
 intro x _
 rfl
theorem ygt (m : List (Int × List Int)) (i n : Nat) : (ygr m i).under n = true := by
 unfold ygr
 split
 ·exact ygs _ _
 ·rfl
theorem ztd {m : List (Int × List Int)} (h : ∀ e ∈ m, 0 <= e.1 /\ e.1 < 12) : (yeb m).under 17 = true := by
 simp only [yeb, SObj.under, zby, List.map_map, List.all_map, List.all_eq_true]
 intro e he
 have := h e he
 simp only [Function.comp, SV.under, decide_eq_true_eq]
 omega
theorem zao {c : Codex} {vers : List Int} {q : Sr} (h : ∀ e ∈ q.cands, 0 <= e.1 /\ e.1 < 12) : (NS c vers q).all (SObj.under 17) = true := by
 unfold NS NSm
 rw [List.all_append, List.all_append]
 simp only [List.all_cons, List.all_nil, ztd h, Bool.and_true, Bool.true_and]
 have : ((List.range 12).map (ygr q.cands)).all (SObj.under 17) = true := by
  rw [List.all_map, List.all_eq_true]
  intro i _
  exact ygt _ _ _
 rw [this]
 rfl
theorem yrg {o0 o1 o2 : SObj} {m : List (Int × List Int)} {ta tb i : Nat} (h : i < 12) : (NSm o0 o1 o2 m ta tb)[3 + i]? = some (ygr m i) := by
 unfold NSm
 rw [List.getElem?_append_right (by simp), List.getElem?_append_left (by simp; omega)]
 simp only [List.length_cons, List.length_nil, List.getElem?_map]
 rw [show 3 + i - (0 + 1 + 1 + 1) = i by omega, List.getElem?_range (by omega)]
 rfl
theorem yrh {o0 o1 o2 ob : SObj} {m m' : List (Int × List Int)} {ta tb i : Nat} (h : i < 12) (h1 : ygr m' i = ob) (h2 : ∀ j : Nat, j ≠ i -> ygr m' j = ygr m j) : (NSm o0 o1 o2 m ta tb).set (3 + i) ob = NSm o0 o1 o2 m' ta tb := by
 unfold NSm
 rw [List.set_append_right _ _ (by simp), List.set_append_left _ _ (by simp; omega)]
 congr 2
 apply List.ext_getElem
 ·simp
 ·intro j g1 g2
  rw [List.getElem_set]
  simp only [List.length_cons, List.length_nil, List.getElem_map, List.getElem_range]
  split
  ·rename_i e
   have : j = i := by omega
   rw [this, h1]
  ·rename_i e
   rw [h2 j (by omega)]
theorem qx {α : Type} (k : Int) (v : α) (m : List (Int × α)) : zo k (ains k v m) = some v := by rw [jh]; simp
theorem ygu {m : List (Int × List Int)} {f : Int} {vals : List Int} {i j : Nat} (hf : f = i) (h : j ≠ i) : ygr (ains f vals m) j = ygr m j := by
 unfold ygr
 rw [jh]
 have : ¬ ((j : Int) == f) = true := by simp; omega
 rw [if_neg this]
theorem zoy (f : Int) (vals : List Int) : ∀ m : List (Int × List Int), ((ains f vals m).map fun e => (e.1, 3 + e.1.toNat)) = ains f (3 + f.toNat) (m.map fun e => (e.1, 3 + e.1.toNat))
 | [] => rfl
 | (k, v) :: m => by
  simp only [ains, List.map_cons]
  by_cases h : (f == k) = true
  ·rw [if_pos h, if_pos h]; rfl
  ·rw [if_neg h, if_neg h, List.map_cons, zoy f vals m]
theorem zqx {α : Type} {k : Int} {v : α} : ∀ {m : List (Int × α)}, zo k m = some v -> (m.map (·.1)).Nodup -> ains k v m = m
 | [], h, _ => by simp [zo] at h
 | (k', v') :: m, h, hn => by
  simp only [zo] at h
  simp only [ains]
  simp only [List.map_cons, List.nodup_cons] at hn
  split
  ·rename_i e
   rw [if_pos e] at h
   cases h
   have : k = k' := by simpa using e
   rw [this]
  ·rename_i e
   rw [if_neg e] at h
   rw [zqx h hn.2]
theorem zvq (v : Int) : ∀ vals : List Int, ains v true (vals.map fun v => (v, true)) = (if v ∈ vals then vals else vals ++ [v]).map fun v => (v, true)
 | [] => rfl
 | x :: l => by
  simp only [List.map_cons, ains, List.mem_cons]
  by_cases h : v = x
  ·subst h; simp
  ·have : ¬ (v == x) = true := by simpa using h
   rw [if_neg this, zvq v l]
   by_cases hm : v ∈ l
   ·simp [h, hm]
   ·simp [h, hm]
theorem zqy {α : Type} (k : Int) (v : α) : ∀ m : List (Int × α), (ains k v m).map (·.1) = if k ∈ m.map (·.1) then m.map (·.1) else m.map (·.1) ++ [k]
 | [] => rfl
 | (k', v') :: m => by
  simp only [ains, List.map_cons, List.mem_cons]
  by_cases h : k = k'
  ·subst h; simp
  ·have : ¬ (k == k') = true := by simpa using h
   rw [if_neg this, List.map_cons, zqy k v m]
   by_cases hm : k ∈ m.map (·.1)
   ·rw [if_pos hm, if_pos (.inr hm)]
   ·rw [if_neg hm, if_neg (fun e => e.elim h hm)]; rfl
structure CandsOK (m : List (Int × List Int)) : Prop where
 rng : ∀ e ∈ m, 0 <= e.1 /\ e.1 < 12
 nd : (m.map (·.1)).Nodup
theorem zis {α : Type} {k : Int} {v : α} {e : Int × α} : ∀ {m : List (Int × α)}, e ∈ ains k v m -> e = (k, v) \/ e ∈ m
 | [], h => by simp [ains] at h; exact .inl h
 | (k', v') :: m, h => by
  simp only [ains] at h
  split at h
  ·rcases List.mem_cons.1 h with h | h
   ·exact .inl h
   ·exact .inr (List.mem_cons_of_mem _ h)
  ·rcases List.mem_cons.1 h with h | h
   ·exact .inr (h ▸ List.mem_cons_self ..)
   ·rcases zis h with h | h
    ·exact .inl h
    ·exact .inr (List.mem_cons_of_mem _ h)
theorem CandsOK.ains {m : List (Int × List Int)} (h : CandsOK m) {f : Int} (hf : 0 <= f /\ f < 12) (vals : List Int) : CandsOK (ains f vals m) := by
 refine ⟨fun e he => ?_, ?_⟩
 ·rcases zis he with rfl | he
  ·exact hf
  ·exact h.rng e he
 ·rw [zqy]
  split
  ·exact h.nd
  ·rename_i hn
   rw [List.nodup_append]
   exact ⟨h.nd, by simp, fun a ha b hb => by simp at hb; subst hb; rintro rfl; exact hn ha⟩
theorem zit {α : Type} (k : Int) (v v' : α) : ∀ m : List (Int × α), ains k v (ains k v' m) = ains k v m
 | [] => by simp [ains]
 | (k', x) :: m => by
  simp only [ains]
  split
  ·rename_i h
   simp [ains]
  ·rename_i h
   simp only [ains]
   rw [if_neg h, zit k v v' m]
theorem zhv (f : Int) : ∀ m : List (Int × List Int), zo f (m.map fun e => (e.1, 3 + e.1.toNat)) = (zo f m).map fun _ => 3 + f.toNat
 | [] => rfl
 | (k, v) :: m => by
  simp only [List.map_cons, zo]
  by_cases h : (f == k) = true
  ·rw [if_pos h, if_pos h]
   have : f = k := by simpa using h
   subst this
   rfl
  ·rw [if_neg h, if_neg h, zhv f m]
theorem zyr (f : Int) (a b : List Int) (m : List (Int × List Int)) : yeb (ains f a m) = yeb (ains f b m) := by unfold yeb; rw [zoy, zoy]
theorem zys {c : Codex} {vers : List Int} {q : Sr} {f : Int} (hf : 0 <= f /\ f < 12) : (NS c vers q)[3 + f.toNat]? = some (match zo f q.cands with | some vals => yrf vals | none => .free) := by
 unfold NS
 rw [yrg (by omega)]
 unfold ygr
 rw [Int.toNat_of_nonneg hf.1]
theorem yla {c : Codex} {vers : List Int} {q : Sr} {f : Int} {vals : List Int} (hf : 0 <= f /\ f < 12) :
  (NSm (zdo c) (yeb q.cands) (.cells (zx c vers q)) q.cands q.conds.length q.atoms.length).set (3 + f.toNat) (yrf vals)
   = NSm (zdo c) (yeb q.cands) (.cells (zx c vers q)) (ains f vals q.cands) q.conds.length q.atoms.length := by
 refine yrh (by omega) ?_ (fun j hj => ygu (i := f.toNat) (by omega) hj)
 unfold ygr
 rw [Int.toNat_of_nonneg hf.1, qx]
theorem zak (c : Codex) (vers : List Int) (q : Sr) (f : Int) (vs : List Int) (hf : 0 <= f /\ f < 12) (hq : CandsOK q.cands) (hsz : vs.length <= 1000) :
  SPre Tryz.prog G 95 [.ptr 2 0, sI f, .imm (dInts vs)] (NS c vers q) (fun r H' => r = .tup [] /\ H' = NS c vers (q.cand f vs)) := by
 refine wk Tryz.func95 rfl (by rw [Tryz.ntmps95]; simp) rfl (zao hq.rng) ?_
 intro E hH hK
 (refine zh ?_; conv => whnf)
 cases hlk : zo f q.cands with
 | none =>
  refine zez (b := 1) (fun n : Nat => SV.map n) rfl rfl rfl rfl rfl rfl rfl rfl rfl (v := .imm (.val (.map none))) (by rw [zhv, hlk]; rfl) ?_
  refine yas rfl rfl rfl rfl rfl rfl ?_
  (refine ym [777, 20] 1000 ?_; conv => whnf)
  refine yoa (3 + f.toNat) (r := .map (NS c vers q).length) (ob := .mapI .i64 []) rfl rfl ?_ (show (NS c vers q)[3 + f.toNat]? = some .free from by rw [zys hf, hlk]) rfl (by rw [show (NS c vers q).length = 17 from rfl]; rfl) rfl ?_
  ·intro c e; cases e
  have hsv : (SV.map (NS c vers q).length).mv (NS c vers q).length (3 + f.toNat) = .map (3 + f.toNat) := by simp [SV.mv]
  rw [hsv]
  rw [show (SObj.mapI .i64 []) = yrf [] from rfl]
  rw [show NS c vers q = NSm (zdo c) (yeb q.cands) (.cells (zx c vers q)) q.cands q.conds.length q.atoms.length from rfl, yla hf]
  refine zfv (b := 1) (fun n : Nat => SV.map n) (3 + f.toNat) rfl rfl rfl rfl rfl rfl rfl rfl rfl ?_
  rw [<- zoy f []]
  refine Eq.mpr (congrArg (fun h => SWr E _ _ _ _ h) (show _ = NS c vers { q with cands := ains f [] q.cands } from rfl)) ?_
  (refine za ?_; conv => whnf)
  obtain ⟨q1, vals1, hq1, hal1, hc1, hr1⟩ : ∃ (q1 : Sr) (vals1 : List Int), { q with cands := ains f [] q.cands } = q1 /\ zo f q1.cands = some vals1 /\ CandsOK q1.cands /\ ∀ vs', q.cand f vs' = { q1 with cands := ains f (vs'.foldl ww vals1) q1.cands } := by
   refine ⟨_, [], rfl, qx _ _ _, hq.ains hf _, fun vs' => ?_⟩
   simp only [Sr.cand, yan, hlk, Option.getD_none, zit]
  rw [hq1]
  refine zf [0, 1, 21, 22, 23] ?_
  have hvl : ∀ l : List Int, ({ q1 with cands := ains f vals1 q1.cands } : Sr) = q1 := fun _ => by rw [zqx hal1 hc1.nd]
  clear hq1 hlk
  have hml : (vs.map fun n => [dI n]).length = vs.length := by simp
  refine Eq.mpr (congrArg (fun h => SW E _ _ h) (show _ = NS c vers { q1 with cands := ains f vals1 q1.cands } by rw [hvl []])) ?_
  refine zt vs (fun i (_ : List Int) => [(0, .ptr 2 0), (1, sI f), (21, .imm (dInts vs)), (22, sI (vs.map fun n => [dI n]).length), (23, sI i)])
   (fun _ l => NS c vers { q1 with cands := ains f l q1.cands }) (fun done rest l => l = done.foldl ww vals1) vals1 rfl ?_ ?_
  ·rintro _ rfl
   (refine zh ?_; conv => whnf)
   repeat' ((with_reducible refine way ?_ ?_) <;> (intro h; conv => whnf))
   all_goals try (exfalso; omega)
   refine hK _ _ (Nat.le_refl _) rfl (by rw [show (NS c vers q).length = 17 from rfl]; exact zao (q := { q1 with cands := ains f _ q1.cands }) (hc1.ains hf _).rng) ⟨rfl, ?_⟩
   rw [hr1]
   exact List.take_of_length_le (Nat.le_refl 17)
  ·rintro done v rest _ ha hlen rfl ih
   have hw := zm (n := done.length) (by omega)
   have hrow : (vs.map fun n => [dI n])[((done.length : Nat) : Int).toNat]? = some [dI v] := by simp [ha]
   generalize hl : done.foldl ww vals1 = l at ih ⊢
   have hfold : (done ++ [v]).foldl ww vals1 = ww l v := by rw [List.foldl_append, hl]; rfl
   (refine zh ?_; conv => whnf)
   repeat' ((with_reducible refine way ?_ ?_) <;> (intro h; conv => whnf))
   all_goals try (exfalso; omega)
   refine zg rfl rfl  hrow ?_
   (refine za ?_; conv => whnf)
   repeat' ((with_reducible refine way ?_ ?_) <;> (intro h; conv => whnf))
   ·have hs : ww l v = if v ∈ l then l else l ++ [v] := by unfold ww; rw [if_pos (by assumption)]
    refine zez (b := 1) (fun n : Nat => SV.map n) rfl rfl rfl rfl rfl rfl rfl rfl rfl (v := .map (3 + f.toNat)) (by rw [zhv, qx]; rfl) ?_
    (refine za ?_; conv => whnf)
    refine zfv (b := 3 + f.toNat) (l := l.map fun v => (v, true)) sB true rfl rfl rfl rfl rfl rfl rfl rfl (by rw [zys hf]; simp only [qx]; rfl) ?_
    rw [zvq, <- hs]
    refine Eq.mpr (congrArg (fun h => SWr E _ _ _ _ h) (show _ = NS c vers { q1 with cands := ains f (ww l v) q1.cands } from (yla (q := { q1 with cands := ains f l q1.cands }) hf).trans (by simp only [zit]; rw [zyr f l (ww l v)]; rfl))) ?_
    (refine za ?_; conv => whnf)
    rw [hw]
    refine zf [0, 1, 21, 22, 23] ?_
    exact ih _ hfold.symm
   ·have hs : ww l v = l := by unfold ww; rw [if_neg (by assumption)]
    rw [hw]
    refine zf [0, 1, 21, 22, 23] ?_
    exact ih _ (by rw [hfold, hs])
 | some vals =>
  refine zez (b := 1) (fun n : Nat => SV.map n) rfl rfl rfl rfl rfl rfl rfl rfl rfl (v := .map (3 + f.toNat)) (by rw [zhv, hlk]; rfl) ?_
  refine ygi (b := 3 + f.toNat) rfl rfl rfl rfl rfl rfl ?_
  (refine za ?_; conv => whnf)
  obtain ⟨q1, vals1, hq1, hal1, hc1, hr1⟩ : ∃ (q1 : Sr) (vals1 : List Int), q = q1 /\ zo f q1.cands = some vals1 /\ CandsOK q1.cands /\ ∀ vs', q.cand f vs' = { q1 with cands := ains f (vs'.foldl ww vals1) q1.cands } :=
   ⟨q, vals, rfl, hlk, hq, fun vs' => by simp only [Sr.cand, yan, hlk, Option.getD_some]⟩
  refine zf [0, 1, 21, 22, 23] ?_
  rw [show NS c vers q = NS c vers q1 by rw [hq1]]
  have hvl : ∀ l : List Int, ({ q1 with cands := ains f vals1 q1.cands } : Sr) = q1 := fun _ => by rw [zqx hal1 hc1.nd]
  clear hq1 hlk
  have hml : (vs.map fun n => [dI n]).length = vs.length := by simp
  refine Eq.mpr (congrArg (fun h => SW E _ _ h) (show _ = NS c vers { q1 with cands := ains f vals1 q1.cands } by rw [hvl []])) ?_
  refine zt vs (fun i (_ : List Int) => [(0, .ptr 2 0), (1, sI f), (21, .imm (dInts vs)), (22, sI (vs.map fun n => [dI n]).length), (23, sI i)])
   (fun _ l => NS c vers { q1 with cands := ains f l q1.cands }) (fun done rest l => l = done.foldl ww vals1) vals1 rfl ?_ ?_
  ·rintro _ rfl
   (refine zh ?_; conv => whnf)
   repeat' ((with_reducible refine way ?_ ?_) <;> (intro h; conv => whnf))
   all_goals try (exfalso; omega)
   refine hK _ _ (Nat.le_refl _) rfl (by rw [show (NS c vers q).length = 17 from rfl]; exact zao (q := { q1 with cands := ains f _ q1.cands }) (hc1.ains hf _).rng) ⟨rfl, ?_⟩
   rw [hr1]
   exact List.take_of_length_le (Nat.le_refl 17)
  ·rintro done v rest _ ha hlen rfl ih
   have hw := zm (n := done.length) (by omega)
   have hrow : (vs.map fun n => [dI n])[((done.length : Nat) : Int).toNat]? = some [dI v] := by simp [ha]
   generalize hl : done.foldl ww vals1 = l at ih ⊢
   have hfold : (done ++ [v]).foldl ww vals1 = ww l v := by rw [List.foldl_append, hl]; rfl
   (refine zh ?_; conv => whnf)
   repeat' ((with_reducible refine way ?_ ?_) <;> (intro h; conv => whnf))
   all_goals try (exfalso; omega)
   refine zg rfl rfl  hrow ?_
   (refine za ?_; conv => whnf)
   repeat' ((with_reducible refine way ?_ ?_) <;> (intro h; conv => whnf))
   ·have hs : ww l v = if v ∈ l then l else l ++ [v] := by unfold ww; rw [if_pos (by assumption)]
    refine zez (b := 1) (fun n : Nat => SV.map n) rfl rfl rfl rfl rfl rfl rfl rfl rfl (v := .map (3 + f.toNat)) (by rw [zhv, qx]; rfl) ?_
    (refine za ?_; conv => whnf)
    refine zfv (b := 3 + f.toNat) (l := l.map fun v => (v, true)) sB true rfl rfl rfl rfl rfl rfl rfl rfl (by rw [zys hf]; simp only [qx]; rfl) ?_
    rw [zvq, <- hs]
    refine Eq.mpr (congrArg (fun h => SWr E _ _ _ _ h) (show _ = NS c vers { q1 with cands := ains f (ww l v) q1.cands } from (yla (q := { q1 with cands := ains f l q1.cands }) hf).trans (by simp only [zit]; rw [zyr f l (ww l v)]; rfl))) ?_
    (refine za ?_; conv => whnf)
    rw [hw]
    refine zf [0, 1, 21, 22, 23] ?_
    exact ih _ hfold.symm
   ·have hs : ww l v = l := by unfold ww; rw [if_neg (by assumption)]
    rw [hw]
    refine zf [0, 1, 21, 22, 23] ?_
    exact ih _ (by rw [hfold, hs])
def wh (m : List (Int × Bool)) (ns : List Int) : List (Int × Bool) := ns.foldl (fun m n => ains n true m) m
theorem zcg (m : List (Int × Bool)) (a b : List Int) : wh m (a ++ b) = wh (wh m a) b := List.foldl_append
theorem zhw (k : Int) : ∀ (ns : List Int) (m : List (Int × Bool)), zo k (wh m ns) = if k ∈ ns then some true else zo k m
 | [], m => by simp [wh]
 | n :: ns, m => by
  show zo k (wh (ains n true m) ns) = _
  rw [zhw k ns, jh]
  by_cases h : k ∈ ns
  ·simp [h]
  ·rw [if_neg h]
   by_cases h2 : k = n
   ·subst h2; simp
   ·have : ¬ (k == n) = true := by simpa using h2
    rw [if_neg this, if_neg (by simp [h, h2])]
def MH (o0 o1 : SObj) (m : List (Int × Bool)) : List SObj := [o0, o1, .mapI .i64 (zby sB m)]
theorem zte (m : List (Int × Bool)) (n : Nat) : (SObj.mapI .i64 (zby sB m)).under n = true := by
 simp only [SObj.under, zby, List.all_map, List.all_eq_true]
 intro x _
 rfl
theorem zgk {o0 o1 : SObj} (h0 : o0.under 3 = true) (h1 : o1.under 3 = true) (m : List (Int × Bool)) : (MH o0 o1 m).all (SObj.under 3) = true := by
 simp only [MH, List.all_cons, List.all_nil, h0, h1, zte, Bool.and_true]
theorem zco (o0 o1 : SObj) (h0 : o0.under 3 = true) (h1 : o1.under 3 = true) : ∀ (N : Nat) (e : Ex) (m : List (Int × Bool)), SizeOf.sizeOf e < N -> zkf e ->
  SPre Tryz.prog G 91 [e.sv, .map 2] (MH o0 o1 m) (fun r H' => r = .tup [] /\ H' = MH o0 o1 (wh m (zde e)))
 | 0, _, _, h, _ => by omega
 | N + 1, .mk op n u den ps ks, m, hN, hl => by
  unfold zkf at hl
  obtain ⟨l1, l2, l3⟩ := hl
  simp only [Ex.mk.sizeOf_spec] at hN
  refine wk Tryz.func91 rfl (by rw [Tryz.ntmps91]; simp) ?_ (zgk h0 h1 m) ?_
  ·simp only [List.all_cons, List.all_nil, Ex.sv, SV.under, zfg]
   rfl
  intro E hH hK
  have hks : zb ks = ks.map Ex.cells := zp ks
  have hla : (zb ks).length = ks.length := by rw [hks]; simp
  have hm : zde (.mk op n u den ps ks) = (if op = 3 then [n] else []) ++ jj ks := by rw [zde]
  (refine zh ?_; conv => whnf)
  repeat' ((with_reducible refine way ?_ ?_) <;> (intro h; conv => whnf))
  ·refine zfv (l := m) sB true rfl rfl rfl rfl rfl rfl rfl rfl rfl ?_
   (refine za ?_; conv => whnf)
   refine zf [1, 13, 14, 15] ?_
   refine Eq.mpr (congrArg (fun h => SW E _ _ h) (show _ = MH o0 o1 (ains n true m) ++ [.cells ((Ex.mk op n u den ps ks).cells.map SV.imm)] from rfl)) ?_
   change SW E _ [(1, .map 2), (13, .imm (.isl 6 (zb ks))), (14, sI (zb ks).length), (15, sI 0)] _
   refine zt ks (fun i (_ : List (Int × Bool)) => [(1, .map 2), (13, .imm (.isl 6 (zb ks))), (14, sI (zb ks).length), (15, sI i)]) (fun _ m' => MH o0 o1 m' ++ [.cells ((Ex.mk op n u den ps ks).cells.map SV.imm)])
    (fun done rest m' => wh m (zde (.mk op n u den ps ks)) = wh m' (jj rest)) (ains n true m) (by rw [hm, if_pos h, zcg]; rfl) ?_ ?_
   ·rintro m' h2
    rw [jj] at h2
    (refine zh ?_; conv => whnf)
    repeat' ((with_reducible refine way ?_ ?_) <;> (intro h; conv => whnf))
    all_goals try (exfalso; omega)
    refine hK _ _ (by show 3 <= 4; decide) rfl ?_ ⟨rfl, ?_⟩
    ·show (MH o0 o1 m').all _ = true
     exact zgk h0 h1 m'
    ·rw [h2]
     rfl
   ·rintro done x rest m' hda hdl h2 ih
    have hw := zm (n := done.length) (by omega)
    have hrx : (zb ks)[((done.length : Nat) : Int).toNat]? = some x.cells := by rw [hks]; simp [hda]
    have hxm : x ∈ ks := by rw [hda]; simp
    have hsz := List.sizeOf_lt_of_mem hxm
    have hcall := zco o0 o1 h0 h1 N x m' (by omega) (zaw l3 x hxm)
    rw [jj, zcg] at h2
    generalize wh m' (zde x) = m2 at h2 hcall
    obtain ⟨xo, xn, xu, xd, xp, xk⟩ := x
    (refine zh ?_; conv => whnf)
    repeat' ((with_reducible refine way ?_ ?_) <;> (intro h; conv => whnf))
    all_goals try (exfalso; omega)
    refine zg rfl rfl  hrx ?_
    (refine za ?_; conv => whnf)
    refine ys 3 rfl rfl rfl rfl rfl rfl hcall ?_
    rintro r9 H9 ⟨rfl, rfl⟩ _
    (refine za ?_; conv => whnf)
    rw [hw]
    refine yr [1, 13, 14, 15] 4 (by rw [hH]; show 3 <= 4; decide) (by show 4 <= 5; decide) rfl ?_ (ih m2 h2)
    show (MH o0 o1 m2 ++ [SObj.cells ((Ex.mk op n u den ps ks).cells.map SV.imm)]).all (SObj.under 4) = true
    rw [List.all_append, yz (m := 3) (by omega) (zgk h0 h1 m2)]
    simp only [List.all_cons, List.all_nil, SObj.under, zfg, Bool.and_true]
  ·have _hz : True := trivial
   refine zf [1, 13, 14, 15] ?_
   refine Eq.mpr (congrArg (fun h => SW E _ _ h) (show _ = MH o0 o1 (m) ++ [.cells ((Ex.mk op n u den ps ks).cells.map SV.imm)] from rfl)) ?_
   change SW E _ [(1, .map 2), (13, .imm (.isl 6 (zb ks))), (14, sI (zb ks).length), (15, sI 0)] _
   refine zt ks (fun i (_ : List (Int × Bool)) => [(1, .map 2), (13, .imm (.isl 6 (zb ks))), (14, sI (zb ks).length), (15, sI i)]) (fun _ m' => MH o0 o1 m' ++ [.cells ((Ex.mk op n u den ps ks).cells.map SV.imm)])
    (fun done rest m' => wh m (zde (.mk op n u den ps ks)) = wh m' (jj rest)) (m) (by rw [hm, if_neg h, List.nil_append]) ?_ ?_
   ·rintro m' h2
    rw [jj] at h2
    (refine zh ?_; conv => whnf)
    repeat' ((with_reducible refine way ?_ ?_) <;> (intro h; conv => whnf))
    all_goals try (exfalso; omega)
    refine hK _ _ (by show 3 <= 4; decide) rfl ?_ ⟨rfl, ?_⟩
    ·show (MH o0 o1 m').all _ = true
     exact zgk h0 h1 m'
    ·rw [h2]
     rfl
   ·rintro done x rest m' hda hdl h2 ih
    have hw := zm (n := done.length) (by omega)
    have hrx : (zb ks)[((done.length : Nat) : Int).toNat]? = some x.cells := by rw [hks]; simp [hda]
    have hxm : x ∈ ks := by rw [hda]; simp
    have hsz := List.sizeOf_lt_of_mem hxm
    have hcall := zco o0 o1 h0 h1 N x m' (by omega) (zaw l3 x hxm)
    rw [jj, zcg] at h2
    generalize wh m' (zde x) = m2 at h2 hcall
    obtain ⟨xo, xn, xu, xd, xp, xk⟩ := x
    (refine zh ?_; conv => whnf)
    repeat' ((with_reducible refine way ?_ ?_) <;> (intro h; conv => whnf))
    all_goals try (exfalso; omega)
    refine zg rfl rfl  hrx ?_
    (refine za ?_; conv => whnf)
    refine ys 3 rfl rfl rfl rfl rfl rfl hcall ?_
    rintro r9 H9 ⟨rfl, rfl⟩ _
    (refine za ?_; conv => whnf)
    rw [hw]
    refine yr [1, 13, 14, 15] 4 (by rw [hH]; show 3 <= 4; decide) (by show 4 <= 5; decide) rfl ?_ (ih m2 h2)
    show (MH o0 o1 m2 ++ [SObj.cells ((Ex.mk op n u den ps ks).cells.map SV.imm)]).all (SObj.under 4) = true
    rw [List.all_append, yz (m := 3) (by omega) (zgk h0 h1 m2)]
    simp only [List.all_cons, List.all_nil, SObj.under, zfg, Bool.and_true]
theorem zyt (m : List (Int × Bool)) (a : List Int) (n : Int) : wh m (a ++ [n]) = ains n true (wh m a) := by rw [zcg]; rfl
structure NeedC (c : Codex) : Prop extends BeatC c where
 uls : ∀ a ∈ c.arts, a.unless_.length <= 1000000
 amt : ∀ a ∈ c.arts, zkf a.amount
theorem ygv (c : Codex) (hc : NeedC c) (v : Int) (hv0 : 0 <= v) (hv1 : v < c.arts.length) : yb Tryz.prog G 60 [c.sv, sI v] (.imm (dInts (xt c v))) := by
 have hal : (c.arts.map Article.cells).length = c.arts.length := by simp
 have hz := hc.arts
 obtain ⟨a, ha⟩ : ∃ a, c.arts[v.toNat]? = some a := ⟨_, List.getElem?_eq_getElem (by omega)⟩
 have hav : qf c v = some a := by unfold qf; rw [if_neg (by omega)]; exact ha
 have ham := List.mem_of_getElem? ha
 obtain ⟨op, n, u, den, ps, ks, hamt⟩ := zdz a
 have hra := zqs c ha hamt
 have hul := hc.uls a ham
 have hwl := hc.len a ham
 have hno : xt c v = zfc c (zcc a) v c.arts 0 := by unfold xt; rw [hav]
 rw [hno]
 have hnm : zcc a = a.unless_ ++ jj a.when_ ++ zde (.mk op n u den ps ks) := by rw [zcc, hamt]
 have hexs := hc.exs a ham
 have hamk := hc.amt a ham
 rw [hamt] at hamk
 refine ze Tryz.func60 rfl (by rw [Tryz.ntmps60]; simp) rfl rfl ?_; intro E hH hK
 rw [show c.sv = .agg [.imm (zk c.facts), .imm (zk c.lines), .imm (xw c.arts)] from rfl]
 obtain ⟨AC, hAC⟩ : ∃ AC : List SV, AC = [.imm (dI a.number), .imm (dI a.line), .imm (dI a.rank), .imm (dI a.lo), .imm (dI a.hi), .imm (dI a.known), .imm (xb a.when_), .imm (dInts a.unless_), .imm (dI op), .imm (dI n), .imm (dS u), .imm (dI den), .imm (.isl 3 (ps.map Piece.cells)), .imm (.isl 6 (zb ks))] := ⟨_, rfl⟩
 (refine zh ?_; conv => whnf)
 refine zg rfl  (Int.toNat_of_nonneg hv0).symm (row := [dI a.number, dI a.line, dI a.rank, dI a.lo, dI a.hi, dI a.known, xb a.when_, dInts a.unless_, dI op, dI n, dS u, dI den, .isl 3 (ps.map Piece.cells), .isl 6 (zb ks)]) hra ?_
 (refine za ?_; conv => whnf)
 refine zf [1, 2, 5, 6, 21, 22, 23] ?_
 have hO0 : (zdo c).under 3 = true := rfl
 have hO1 : (SObj.cells AC).under 3 = true := by rw [hAC]; rfl
 refine Eq.mpr (congrArg (fun h => SW E _ _ h) (show _ = MH (zdo c) (.cells AC) [] by rw [hAC]; rfl)) ?_
 change SW E _ [(1, sI v), (2, .ptr 0 0), (5, .ptr 1 0), (6, .map 2), (21, .imm (dInts a.unless_)), (22, sI (a.unless_.map fun n => [dI n]).length), (23, sI 0)] _
 have hll : (a.unless_.map fun n => [dI n]).length = a.unless_.length := by simp
 have hlw : (a.when_.map Ex.cells).length = a.when_.length := by simp
 refine zt a.unless_ (fun i (_ : Unit) => [(1, sI v), (2, .ptr 0 0), (5, .ptr 1 0), (6, .map 2), (21, .imm (dInts a.unless_)), (22, sI (a.unless_.map fun n => [dI n]).length), (23, sI i)]) (fun i _ => MH (zdo c) (.cells AC) (wh [] (a.unless_.take i)))
  (fun _ _ _ => True) () trivial ?_ ?_
 ·rintro _ _
  rw [List.take_length]
  subst hAC
  (refine zh ?_; conv => whnf)
  repeat' ((with_reducible refine way ?_ ?_) <;> (intro h; conv => whnf))
  all_goals try (exfalso; omega)
  refine zf [1, 2, 5, 6, 31, 32, 33] ?_
  refine Eq.mpr (congrArg (fun h => SW E _ _ h) (show _ = MH (zdo c) (.cells [.imm (dI a.number), .imm (dI a.line), .imm (dI a.rank), .imm (dI a.lo), .imm (dI a.hi), .imm (dI a.known), .imm (xb a.when_), .imm (dInts a.unless_), .imm (dI op), .imm (dI n), .imm (dS u), .imm (dI den), .imm (.isl 3 (ps.map Piece.cells)), .imm (.isl 6 (zb ks))]) (wh [] a.unless_) from rfl)) ?_
  generalize hAC : ([.imm (dI a.number), .imm (dI a.line), .imm (dI a.rank), .imm (dI a.lo), .imm (dI a.hi), .imm (dI a.known), .imm (xb a.when_), .imm (dInts a.unless_), .imm (dI op), .imm (dI n), .imm (dS u), .imm (dI den), .imm (.isl 3 (ps.map Piece.cells)), .imm (.isl 6 (zb ks))] : List SV) = AC at hO1 ⊢
  refine zt a.when_ (fun i (_ : List (Int × Bool)) => [(1, sI v), (2, .ptr 0 0), (5, .ptr 1 0), (6, .map 2), (31, .imm (xb a.when_)), (32, sI (a.when_.map Ex.cells).length), (33, sI i)]) (fun _ m => MH (zdo c) (.cells AC) m)
   (fun done rest m => wh [] (zcc a) = wh m (jj rest ++ zde (.mk op n u den ps ks))) (wh [] a.unless_) (by rw [hnm, List.append_assoc, zcg]) ?_ ?_
  ·rintro m h2
   rw [jj, List.nil_append] at h2
   have hcall := zco G (zdo c) (.cells AC) hO0 hO1 _ (.mk op n u den ps ks) m (Nat.lt_succ_self _) hamk
   rw [<- h2] at hcall
   subst hAC
   (refine zh ?_; conv => whnf)
   repeat' ((with_reducible refine way ?_ ?_) <;> (intro h; conv => whnf))
   all_goals try (exfalso; omega)
   refine ys 3 rfl rfl rfl rfl rfl rfl hcall ?_
   rintro r9 H9 ⟨rfl, rfl⟩ _
   refine Eq.mpr (congrArg (fun h => SWr E _ _ _ _ h) (show _ = MH (zdo c) (.cells [.imm (dI a.number), .imm (dI a.line), .imm (dI a.rank), .imm (dI a.lo), .imm (dI a.hi), .imm (dI a.known), .imm (xb a.when_), .imm (dInts a.unless_), .imm (dI op), .imm (dI n), .imm (dS u), .imm (dI den), .imm (.isl 3 (ps.map Piece.cells)), .imm (.isl 6 (zb ks))]) (wh [] (zcc a)) from rfl)) ?_
   generalize hAC : ([.imm (dI a.number), .imm (dI a.line), .imm (dI a.rank), .imm (dI a.lo), .imm (dI a.hi), .imm (dI a.known), .imm (xb a.when_), .imm (dInts a.unless_), .imm (dI op), .imm (dI n), .imm (dS u), .imm (dI den), .imm (.isl 3 (ps.map Piece.cells)), .imm (.isl 6 (zb ks))] : List SV) = AC at hO1 ⊢
   have hlook : ∀ k, ((zo k (wh [] (zcc a))).map sB).getD (qk (.bool false)) = sB (decide (k ∈ zcc a)) := fun k => by
    rw [zhw]
    by_cases hk : k ∈ zcc a
    ·rw [if_pos hk, decide_eq_true hk]; rfl
    ·rw [if_neg hk, decide_eq_false hk]; rfl
   have hMu := zgk hO0 hO1 (wh [] (zcc a))
   clear h2 hcall
   generalize wh [] (zcc a) = M at hlook hMu ⊢
   generalize zcc a = names at hlook hK
   (refine za ?_; conv => whnf)
   refine yiu (n := 11) (kk := 1) rfl ?_
   refine zf [1, 2, 6, 11, 46, 47, 48] ?_
   change SW E _ [(1, sI v), (2, .ptr 0 0), (6, .map 2), (11, .asl 3 1 []), (46, .imm (xw c.arts)), (47, sI (c.arts.map Article.cells).length), (48, sI 0)] (MH (zdo c) (.cells AC) M ++ [.tok 1 0])
   refine zt c.arts (fun i (l : List Int) => [(1, sI v), (2, .ptr 0 0), (6, .map 2), (11, .asl 3 1 (l.map fun n => [dI n])), (46, .imm (xw c.arts)), (47, sI (c.arts.map Article.cells).length), (48, sI i)]) (fun _ l => MH (zdo c) (.cells AC) M ++ [.tok 1 (l.map fun n => [dI n]).length])
    (fun done rest l => zfc c names v c.arts 0 = l ++ zfc c names v rest done.length /\ l.length <= done.length) [] ⟨rfl, by simp⟩ ?_ ?_
   ·rintro l ⟨h2, _⟩
    rw [zfc, List.append_nil] at h2
    rw [h2] at hK
    refine zfx ?_
    change SW E _ [(1, sI v), (2, .ptr 0 0), (6, .map 2), (11, .imm (dInts l)), (46, .imm (xw c.arts)), (47, sI (c.arts.map Article.cells).length), (48, sI c.arts.length)] _
    (refine zh ?_; conv => whnf)
    repeat' ((with_reducible refine way ?_ ?_) <;> (intro h; conv => whnf))
    all_goals try (exfalso; omega)
    exact hK _
   ·rintro done x rest l hda hdl ⟨h2, h3⟩ ih
    have hw := zm (n := done.length) (by omega)
    obtain ⟨op', n', u', den', ps', ks', hxm⟩ := zdz x
    have hgx : c.arts[done.length]? = some x := by rw [hda]; simp
    have hrx := zqs c hgx hxm
    have hrx2 : (c.arts.map Article.cells)[((done.length : Nat) : Int).toNat]? = _ := hrx
    have hbt := zmu G c hc.toBeatC (done.length : Int) v
    rw [zfc] at h2
    have hkc : ∀ m, (MH (zdo c) (.cells AC) M ++ [SObj.tok 1 m]).all (SObj.under 4) = true := fun m => by
     rw [List.all_append, yz (m := 3) (by omega) hMu]
     rfl
    generalize zar c (done.length : Int) v = bb at hbt h2
    (refine zh ?_; conv => whnf)
    repeat' ((with_reducible refine way ?_ ?_) <;> (intro h; conv => whnf))
    all_goals try (exfalso; omega)
    refine zg rfl rfl  (row := [dI x.number, dI x.line, dI x.rank, dI x.lo, dI x.hi, dI x.known, xb x.when_, dInts x.unless_, dI op', dI n', dS u', dI den', .isl 3 (ps'.map Piece.cells), .isl 6 (zb ks')]) hrx2 ?_
    (refine za ?_; conv => whnf)
    refine zez (l := M) sB rfl rfl rfl rfl rfl rfl rfl rfl rfl (v := sB (decide (x.number ∈ names))) (hlook _) ?_
    cases hd : decide (x.number ∈ names) <;> ((refine za ?_; conv => whnf))
    ·have hd := of_decide_eq_false hd
     refine zd rfl  hbt ?_
     cases bb <;> ((refine za ?_; conv => whnf))
     ·rw [hw]
      refine yr [1, 2, 6, 11, 46, 47, 48] 4 (by rw [hH]; exact Nat.zero_le 4) (by show 4 <= 5; decide) rfl (hkc _) ?_
      refine ih l ⟨?_, ?_⟩
      ·rw [h2, if_neg (by simp [*]), List.length_append]
       rfl
      ·simp only [List.length_append, List.length_cons, List.length_nil]; omega
     refine zaq (b := 3) (kk := 1) (rows := l.map fun n => [dI n]) (new := [[dI done.length]]) rfl ⟨by decide, rfl⟩ rfl (by rw [List.length_map]; simp only [List.length_cons, List.length_nil]; omega) ?_
     have e5 : (l.map fun n => [dI n]) ++ [[dI done.length]] = (l ++ [(done.length : Int)]).map fun n => [dI n] := by simp
     have e6 : (l.map fun n => [dI n]).length + [[dI done.length]].length = ((l ++ [(done.length : Int)]).map fun n => [dI n]).length := by simp
     refine Eq.mpr (congrArg (fun v => SWr E _ _ _ (wm _ _ (.asl 3 1 v)) _) e5) ?_
     refine Eq.mpr (congrArg (fun v => SWr E _ _ _ _ (List.set _ 3 (.tok 1 v))) e6) ?_
     (refine za ?_; conv => whnf)
     rw [hw]
     refine yr [1, 2, 6, 11, 46, 47, 48] 4 (by rw [hH]; exact Nat.zero_le 4) (by show 4 <= 5; decide) rfl (hkc _) ?_
     refine ih (l ++ [(done.length : Int)]) ⟨?_, ?_⟩
     ·rw [h2, if_pos (by simp [*]), List.length_append]
      simp
     ·simp only [List.length_append, List.length_cons, List.length_nil]; omega
    ·have hd := of_decide_eq_true hd
     refine zaq (b := 3) (kk := 1) (rows := l.map fun n => [dI n]) (new := [[dI done.length]]) rfl ⟨by decide, rfl⟩ rfl (by rw [List.length_map]; simp only [List.length_cons, List.length_nil]; omega) ?_
     have e5 : (l.map fun n => [dI n]) ++ [[dI done.length]] = (l ++ [(done.length : Int)]).map fun n => [dI n] := by simp
     have e6 : (l.map fun n => [dI n]).length + [[dI done.length]].length = ((l ++ [(done.length : Int)]).map fun n => [dI n]).length := by simp
     refine Eq.mpr (congrArg (fun v => SWr E _ _ _ (wm _ _ (.asl 3 1 v)) _) e5) ?_
     refine Eq.mpr (congrArg (fun v => SWr E _ _ _ _ (List.set _ 3 (.tok 1 v))) e6) ?_
     (refine za ?_; conv => whnf)
     rw [hw]
     refine yr [1, 2, 6, 11, 46, 47, 48] 4 (by rw [hH]; exact Nat.zero_le 4) (by show 4 <= 5; decide) rfl (hkc _) ?_
     refine ih (l ++ [(done.length : Int)]) ⟨?_, ?_⟩
     ·rw [h2, if_pos (by simp [*]), List.length_append]
      simp
     ·simp only [List.length_append, List.length_cons, List.length_nil]; omega
  ·rintro done x rest m hda hdl h2 ih
   have hw := zm (n := done.length) (by omega)
   have hrx : (a.when_.map Ex.cells)[((done.length : Nat) : Int).toNat]? = some x.cells := by simp [hda]
   have hxm : x ∈ a.when_ := by rw [hda]; simp
   have hcall := zco G (zdo c) (.cells AC) hO0 hO1 _ x m (Nat.lt_succ_self _) (zaw hexs x hxm)
   rw [jj, List.append_assoc, zcg] at h2
   generalize wh m (zde x) = m2 at h2 hcall
   obtain ⟨xo, xn, xu, xd, xp, xk⟩ := x
   (refine zh ?_; conv => whnf)
   repeat' ((with_reducible refine way ?_ ?_) <;> (intro h; conv => whnf))
   all_goals try (exfalso; omega)
   refine zg rfl rfl  hrx ?_
   (refine za ?_; conv => whnf)
   refine ys 3 rfl rfl rfl rfl rfl rfl hcall ?_
   rintro r9 H9 ⟨rfl, rfl⟩ _
   (refine za ?_; conv => whnf)
   rw [hw]
   refine yr [1, 2, 5, 6, 31, 32, 33] 3 (by rw [hH]; exact Nat.zero_le 3) (by show 3 <= 4; decide) rfl ?_ (ih m2 h2)
   exact zgk hO0 hO1 m2
 ·rintro done x rest _ hda hdl _ ih
  have hw := zm (n := done.length) (by omega)
  have hrx : (a.unless_.map fun n => [dI n])[((done.length : Nat) : Int).toNat]? = some [dI x] := by simp [hda]
  have htk : a.unless_.take (done.length + 1) = a.unless_.take done.length ++ [x] := by rw [List.take_add_one]; simp [hda]
  rw [htk, zyt] at ih
  (refine zh ?_; conv => whnf)
  repeat' ((with_reducible refine way ?_ ?_) <;> (intro h; conv => whnf))
  all_goals try (exfalso; omega)
  refine zg rfl rfl  hrx ?_
  (refine za ?_; conv => whnf)
  refine zfv (l := wh [] (a.unless_.take done.length)) sB true rfl rfl rfl rfl rfl rfl rfl rfl rfl ?_
  (refine za ?_; conv => whnf)
  rw [hw]
  refine zf [1, 2, 5, 6, 21, 22, 23] ?_
  exact ih () trivial
theorem ygw (l : List Int) (x : Int) (hz : l.length <= 1000000000) : SPre Tryz.prog G 110 [.imm (dInts l), sI x] [] (fun r _ => ∃ i : Int, r = sI i /\ (0 <= i ↔ x ∈ l)) := by
 refine wk Tryz.func110 rfl (by rw [Tryz.ntmps110]; simp) rfl rfl ?_
 intro E hH hK
 have hla : (l.map fun n => [dI n]).length = l.length := by simp
 (refine zh ?_; conv => whnf)
 refine zf [0, 1, 7, 8] ?_
 refine zt l (fun i (_ : Unit) => [(0, .imm (dInts l)), (1, sI x), (7, sI (l.map fun n => [dI n]).length), (8, sI i)]) (fun _ _ => []) (fun done _ _ => x ∉ done) () (by simp) ?_ ?_
 ·rintro _ h1
  (refine zh ?_; conv => whnf)
  repeat' ((with_reducible refine way ?_ ?_) <;> (intro h; conv => whnf))
  all_goals try (exfalso; omega)
  exact hK _ _ (Nat.le_refl _) rfl rfl ⟨-1, rfl, ⟨fun h => by omega, fun h => absurd h h1⟩⟩
 ·rintro done y rest _ hda hdl h1 ih
  have hw := zm (n := done.length) (by omega)
  have hrx : (l.map fun n => [dI n])[((done.length : Nat) : Int).toNat]? = some [dI y] := by simp [hda]
  (refine zh ?_; conv => whnf)
  repeat' ((with_reducible refine way ?_ ?_) <;> (intro h; conv => whnf))
  all_goals try (exfalso; omega)
  refine zg rfl rfl  hrx ?_
  (refine za ?_; conv => whnf)
  repeat' ((with_reducible refine way ?_ ?_) <;> (intro h; conv => whnf))
  ·exact hK _ _ (Nat.le_refl _) rfl rfl ⟨done.length, rfl, ⟨fun _ => by rw [hda, h]; simp, fun _ => by omega⟩⟩
  ·rw [hw]
   refine zf [0, 1, 7, 8] ?_
   exact ih () (by simp only [List.mem_append, List.mem_cons, List.not_mem_nil, or_false, not_or]; exact ⟨h1, h⟩)
theorem zlp (l : List Int) (x : Int) (hz : l.length <= 1000000000) : yb Tryz.prog G 78 [.imm (dInts l), sI x] (sB (decide (x ∈ l))) := by
 refine ze Tryz.func78 rfl (by rw [Tryz.ntmps78]; simp) rfl rfl ?_; intro E hH hK
 (refine zh ?_; conv => whnf)
 refine ys 0 rfl rfl rfl rfl rfl rfl (ygw G l x hz) ?_
 rintro r9 H9 ⟨i, rfl, hi⟩ _
 (refine za ?_; conv => whnf)
 have : decide (x ∈ l) = decide (0 <= i) := decide_eq_decide.2 hi.symm
 rw [this] at hK
 exact hK _
theorem ybe (c : Codex) (hfit : Codex.fit c) (hN : zq c = true -> NeedC c) (hz : c.arts.length <= 1000000000) (v : Int) :
  yb Tryz.prog G 34 [c.sv, sI v] (.imm (dInts (if 0 <= v /\ v < c.arts.length /\ zq c = true then xt c v else []))) := by
 have hal : (c.arts.map Article.cells).length = c.arts.length := by simp
 have hV := jr G c hfit
 have h : yb Tryz.prog G 34 [c.sv, sI v] (if 0 <= v /\ v < c.arts.length /\ zq c = true then .imm (dInts (xt c v)) else .imm (.val (.slice none 0 0))) := by
  refine ze Tryz.func34 rfl (by rw [Tryz.ntmps34]; simp) rfl (by split <;> rfl) ?_
  intro E hH hK
  generalize hz2 : zq c = z at hV hK hN
  rw [show c.sv = .agg [.imm (zk c.facts), .imm (zk c.lines), .imm (xw c.arts)] from rfl]
  (refine zh ?_; conv => whnf)
  repeat' ((with_reducible refine way ?_ ?_) <;> (intro h; conv => whnf))
  ·refine zd rfl  hV ?_
   cases z <;> ((refine za ?_; conv => whnf))
   ·rw [if_neg (by simp)] at hK
    exact hK _
   ·refine zd rfl  (ygv G c (hN rfl) v (by omega) (by omega)) ?_
    (refine za ?_; conv => whnf)
    rw [if_pos ⟨by omega, by omega, rfl⟩] at hK
    exact hK _
  ·rw [if_neg (by omega)] at hK
   exact hK _
  ·rw [if_neg (by omega)] at hK
   exact hK _
 split at h
 ·rename_i hh; rw [if_pos hh]; exact h
 ·rename_i hh; rw [if_neg hh]; exact zcm h (SV.Is.nil 1)
theorem zqz (c : Codex) (hc : NeedC c) (i j : Int) (hi0 : 0 <= i) (hi1 : i < c.arts.length) (hj0 : 0 <= j) (hj1 : j < c.arts.length) : yb Tryz.prog G 48 [c.sv, sI i, sI j] (sB (zgc c i j)) := by
 have hal : (c.arts.map Article.cells).length = c.arts.length := by simp
 have hz := hc.arts
 obtain ⟨a, ha⟩ : ∃ a, c.arts[i.toNat]? = some a := ⟨_, List.getElem?_eq_getElem (by omega)⟩
 obtain ⟨b, hb⟩ : ∃ b, c.arts[j.toNat]? = some b := ⟨_, List.getElem?_eq_getElem (by omega)⟩
 have hai : qf c i = some a := by unfold qf; rw [if_neg (by omega)]; exact ha
 have hbj : qf c j = some b := by unfold qf; rw [if_neg (by omega)]; exact hb
 have hbe : zgc c i j = (decide (a.line = b.line) && !decide (a.number = b.number) && !zar c i j && !zar c j i && !decide (b.number ∈ a.unless_) && !decide (a.number ∈ b.unless_)) := by unfold zgc; rw [hai, hbj]
 have ham := List.mem_of_getElem? ha
 have hbm := List.mem_of_getElem? hb
 have c1 := zmu G c hc.toBeatC i j
 have c2 := zmu G c hc.toBeatC j i
 have c3 := zlp G a.unless_ b.number (by have := hc.uls a ham; omega)
 have c4 := zlp G b.unless_ a.number (by have := hc.uls b hbm; omega)
 rw [hbe]
 generalize zar c i j = z1 at c1
 generalize zar c j i = z2 at c2
 generalize decide (b.number ∈ a.unless_) = z3 at c3
 generalize decide (a.number ∈ b.unless_) = z4 at c4
 obtain ⟨op, n, u, den, ps, ks, hamt⟩ := zdz a
 obtain ⟨op', n', u', den', ps', ks', hbmt⟩ := zdz b
 have hra := zqs c ha hamt
 have hrb := zqs c hb hbmt
 refine ze Tryz.func48 rfl (by rw [Tryz.ntmps48]; simp) rfl rfl ?_; intro E hH hK
 rw [show c.sv = .agg [.imm (zk c.facts), .imm (zk c.lines), .imm (xw c.arts)] from rfl]
 (refine zh ?_; conv => whnf)
 refine zf [1, 2, 3] ?_
 change SW E _ [(1, sI i), (2, sI j), (3, .ptr 0 0)] [.cells [.imm (zk c.facts), .imm (zk c.lines), .imm (xw c.arts)]]
 (refine ya 2 mixed rfl ?_; refine zc [777] (nx := 1) ?_; conv => whnf)
 refine yc (row := [dI a.number, dI a.line, dI a.rank, dI a.lo, dI a.hi, dI a.known, xb a.when_, dInts a.unless_, dI op, dI n, dS u, dI den, .isl 3 (ps.map Piece.cells), .isl 6 (zb ks)]) rfl (show 1 <= 3 by decide) (Int.toNat_of_nonneg hi0).symm hra ?_
 (refine zc [777] (nx := 1) ?_; conv => whnf)
 refine yc (row := [dI b.number, dI b.line, dI b.rank, dI b.lo, dI b.hi, dI b.known, xb b.when_, dInts b.unless_, dI op', dI n', dS u', dI den', .isl 3 (ps'.map Piece.cells), .isl 6 (zb ks')]) rfl (show 1 <= 3 by decide) (Int.toNat_of_nonneg hj0).symm hrb ?_
 (refine zc [777] (nx := 1) ?_; conv => whnf)
 refine zf [1, 2, 3, 7, 8] ?_
 change SW E _ [(1, sI i), (2, sI j), (3, .ptr 0 0), (7, .ptr 1 0), (8, .ptr 2 0)] [.cells [.imm (zk c.facts), .imm (zk c.lines), .imm (xw c.arts)], .cells [.imm (dI a.number), .imm (dI a.line), .imm (dI a.rank), .imm (dI a.lo), .imm (dI a.hi), .imm (dI a.known), .imm (xb a.when_), .imm (dInts a.unless_), .imm (dI op), .imm (dI n), .imm (dS u), .imm (dI den), .imm (.isl 3 (ps.map Piece.cells)), .imm (.isl 6 (zb ks))],
  .cells [.imm (dI b.number), .imm (dI b.line), .imm (dI b.rank), .imm (dI b.lo), .imm (dI b.hi), .imm (dI b.known), .imm (xb b.when_), .imm (dInts b.unless_), .imm (dI op'), .imm (dI n'), .imm (dS u'), .imm (dI den'), .imm (.isl 3 (ps'.map Piece.cells)), .imm (.isl 6 (zb ks'))]]
 (refine zh ?_; conv => whnf)
 repeat' ((with_reducible refine way ?_ ?_) <;> (intro h; conv => whnf))
 ·rename_i g1
  rw [decide_eq_true g1, decide_eq_false h] at hK
  refine zd rfl  c1 ?_
  cases z1 <;> ((refine za ?_; conv => whnf))
  ·refine zd rfl  c2 ?_
   cases z2 <;> ((refine za ?_; conv => whnf))
   ·refine zd rfl  c3 ?_
    cases z3 <;> ((refine za ?_; conv => whnf))
    ·refine zd rfl  c4 ?_
     (refine za ?_; conv => whnf)
     cases z4 <;> exact hK _
    ·exact hK _
   ·exact hK _
  ·exact hK _
 ·rw [decide_eq_true h, Bool.not_true, Bool.and_false, Bool.false_and, Bool.false_and, Bool.false_and, Bool.false_and] at hK
  exact hK _
 ·rw [decide_eq_false h] at hK
  exact hK _
end Go.Proofs.YtblpjknmhajcgaaGreatDoor