/- DefeatMore: the law returns true. -/
import Derived.Test.YtblpjknmhajcgaaGreatDoorCN6
set_option linter.unusedSimpArgs false
set_option linter.unusedVariables false
namespace Go.Proofs.YtblpjknmhajcgaaGreatDoor
open Go Go.Sh
set_option maxRecDepth 10000
set_option maxHeartbeats 8000000
theorem zwi {kk : Nat} : ∀ rows : List (List D), (∀ r ∈ rows, r.length = kk) -> rows.flatten.length = rows.length * kk
 | [], _ => by simp
 | r :: l, h => by
  simp only [List.flatten_cons, List.length_append, List.length_cons, zwi l fun x hx => h x (by simp [hx]), h r (by simp), Nat.succ_mul]
  omega
theorem yeu {kk : Nat} : ∀ (rows : List (List D)) (i : Nat) (r : List D), (∀ r ∈ rows, r.length = kk) -> rows[i]? = some r -> (rows.flatten.drop (i * kk)).take kk = r
 | [], _, _, _, h => by simp at h
 | x :: l, 0, r, hk, h => by
  simp only [List.getElem?_cons_zero, Option.some.injEq] at h
  subst h
  have := hk x (by simp)
  subst this
  simp
 | x :: l, i + 1, r, hk, h => by
  have hx := hk x (by simp)
  have := yeu l i r (fun y hy => hk y (by simp [hy])) (by simpa using h)
  have t2 : (x ++ l.flatten).drop ((i + 1) * kk) = l.flatten.drop (i * kk) := by
   rw [show (i + 1) * kk = x.length + i * kk by rw [hx, Nat.succ_mul]; omega, List.drop_append, List.drop_of_length_le (by omega), List.nil_append]
   congr 1
   omega
  rw [List.flatten_cons, t2]
  exact this
theorem yev {kk : Nat} : ∀ (rows : List (List D)) (i : Nat) (r : List D), (∀ r ∈ rows, r.length = kk) -> i < rows.length -> (rows.set i r).flatten = rows.flatten.take (i * kk) ++ r ++ rows.flatten.drop (i * kk + kk)
 | [], _, _, _, h => by simp at h
 | x :: l, 0, r, hk, _ => by
  have := hk x (by simp)
  subst this
  simp
 | x :: l, i + 1, r, hk, h => by
  have hx := hk x (by simp)
  have := yev l i r (fun y hy => hk y (by simp [hy])) (by simpa using h)
  have e1 : (i + 1) * kk = x.length + i * kk := by rw [hx, Nat.succ_mul]; omega
  have t1 : (x ++ l.flatten).take (x.length + i * kk) = x ++ l.flatten.take (i * kk) := by
   rw [List.take_append, List.take_of_length_le (by omega)]
   congr 2
   omega
  have t2 : (x ++ l.flatten).drop (x.length + i * kk + kk) = l.flatten.drop (i * kk + kk) := by
   rw [List.drop_append, List.drop_of_length_le (by omega), List.nil_append]
   congr 1
   omega
  rw [List.set_cons_succ, List.flatten_cons, List.flatten_cons, this, e1, t1, t2]
  simp only [List.append_assoc]
theorem yms (c : Codex) : ∀ r ∈ c.arts.map Article.cells, r.length = 14 := fun r hr => by
 obtain ⟨a, _, rfl⟩ := List.mem_map.1 hr
 rfl
def zfo (a : Article) (e : Ex) : Article := { a with when_ := a.when_ ++ [e] }
def yuc (c : Codex) (i : Nat) (a : Article) (e : Ex) : Codex := ⟨c.facts, c.lines, c.arts.set i (zfo a e)⟩
theorem yia {c : Codex} {i : Nat} {a : Article} {e : Ex} (hi : c.arts[i]? = some a) (v : Int) {b : Article} (hb : qf c v = some b) :
  ∃ b', qf (yuc c i a e) v = some b' /\ b'.lo = b.lo /\ b'.hi = b.hi /\ ∀ x ∈ b.when_, x ∈ b'.when_ := by
 unfold qf at hb ⊢
 split at hb
 ·cases hb
 ·rename_i h0
  rw [if_neg h0]
  have hlt := (List.getElem?_eq_some_iff.1 hb).1
  show ∃ b', (c.arts.set i (zfo a e))[v.toNat]? = some b' /\ _
  rw [List.getElem?_set]
  by_cases e' : i = v.toNat
  ·rw [if_pos e', if_pos (by omega)]
   rw [<- e', hi] at hb
   simp only [Option.some.injEq] at hb
   subst hb
   exact ⟨_, rfl, rfl, rfl, fun x hx => List.mem_append_left _ hx⟩
  ·rw [if_neg e']
   exact ⟨b, hb, rfl, rfl, fun x hx => hx⟩
theorem ymt {c : Codex} {i : Nat} {a : Article} {e : Ex} {P : Article -> Prop} (h : ∀ b ∈ c.arts, P b) (ha : P (zfo a e)) : ∀ b ∈ (yuc c i a e).arts, P b := fun b hb => by
 rcases List.mem_or_eq_of_mem_set hb with hb | rfl
 ·exact h b hb
 ·exact ha
theorem yib {c : Codex} {vs : List Int} {w : View} (h : ye c vs = some w) : zq c = true := by
 unfold ye at h
 split at h
 ·rename_i g
  rw [Bool.and_eq_true] at g
  exact g.1
 ·cases h
theorem ysf (a : Article) : (a.cells.map SV.imm).all SV.one = true := rfl
theorem yew : ∀ l : List Article, ((l.map Article.cells).flatten.map SV.imm).all SV.one = true
 | [] => rfl
 | a :: l => by
  rw [List.map_cons, List.flatten_cons, List.map_append, List.all_append, ysf, yew l]
  rfl
theorem yvi {c : Codex} (h : ypw c = true) : ∀ a ∈ c.arts, a.when_.length <= 40 := fun a ha => by
 unfold ypw at h
 simp only [Bool.and_eq_true, decide_eq_true_eq] at h
 have h1 := h.1.1
 unfold zrs at h1
 simp only [Bool.and_eq_true, decide_eq_true_eq, List.all_eq_true] at h1
 have := h1.2 a ha
 unfold zhe at this
 simp only [Bool.and_eq_true, decide_eq_true_eq, List.all_eq_true] at this
 exact this.1.1.1
theorem ymu {P : Program} {G : List (Nat × D)} {fn : Func} {rd : Bool} {E : En P G fn rd} {all : Array Oper} {rest : List Oper} {T : List (Nat × SV)} {H : List SObj} {R : Prop} {k : List Item} (h1 : SWr E all rest k T H -> R) (h2 : SWr E all rest k T H) : R := h1 h2
theorem moreLaw_spec (c : Codex) (hfit : Codex.fit c) (hsz : c.facts.length <= 9223372036854775807 /\ c.lines.length <= 9223372036854775807 /\ c.arts.length <= 9223372036854775807) (vs : List Int) (hvz : vs.length <= 17592186043904) (more from_ : Int)
  (hm0 : -9223372036854775808 <= more /\ more <= 9223372036854775807) (hf0 : -9223372036854775808 <= from_ /\ from_ <= 9223372036854775807) :
  yb Tryz.prog G0 7 [c.sv, .imm (dInts vs), sI more, sI from_] (sB true) := by
 have hal : (c.arts.map Article.cells).length = c.arts.length := by simp
 have hfl : (c.facts.map Decl.cells).length = c.facts.length := by simp
 have hvl : (vs.map fun n => [dI n]).length = vs.length := by simp
 have hfw := yhp c
 have hV := zsm G0 c hsz.1 hsz.2.1 hsz.2.2 hfit
 rw [ypa] at hV
 have hlen := zgw
 have hL := yhx G0 c vs (by omega) hsz.2.2 fun n _ => by have := zgw n vs; omega
 have hll : (zwa c vs).length <= vs.length := zgw c.arts.length vs
 refine ze Tryz.func7 rfl (by rw [Tryz.ntmps7]; simp) rfl rfl ?_; intro E hH hK
 rw [show c.sv = .agg [.imm (zk c.facts), .imm (zk c.lines), .imm (xw c.arts)] from rfl]
 unfold ztz at hL
 (refine zh ?_; conv => whnf)
 refine zd rfl  yts ?_
 (refine za ?_; conv => whnf)
 refine zd rfl  hfw ?_
 (refine za ?_; conv => whnf)
 refine zd rfl  hV ?_
 (refine za ?_; conv => whnf)
 cases hin : vs.all (zeg c) with
 | false =>
  rw [hin, if_neg (by simp)] at hL
  refine zd rfl  hL ?_
  cases ypw c <;> cases zq c <;> ((refine za ?_; conv => whnf)) <;> exact hK _
 | true =>
  rw [hin, if_pos rfl] at hL
  cases hb1 : ypw c
  ·refine zd rfl  hL ?_
   cases zq c <;> ((refine za ?_; conv => whnf)) <;> exact hK _
  cases hb2 : zq c
  ·refine zd rfl  hL ?_
   (refine za ?_; conv => whnf)
   exact hK _
  obtain ⟨f1, f2, f3, f4⟩ := ymh hb1
  have hw41 : ∀ a ∈ c.arts, a.when_.length <= 41 := fun a ha => (f4 a ha).1
  have hSC := zjb hb2 f2 f4
  have hv := yhz hin
  have hvL : ∀ v ∈ zwa c vs, 0 <= v /\ v < c.arts.length := ylz
  have hvo : zr (zwa c vs) = zwa c vs := ybr (yly c vs)
  generalize zwa c vs = l at *
  have hlm : (l.map fun n => [dI n]).length = l.length := by simp
  refine zd rfl  hL ?_
  (refine za ?_; conv => whnf)
  by_cases h3 : vs.length > 3
  ·repeat' ((with_reducible refine way ?_ ?_) <;> (intro h; conv => whnf))
   all_goals try (exfalso; omega)
   all_goals exact hK _
  cases l with
  | nil =>
   repeat' ((with_reducible refine way ?_ ?_) <;> (intro h; conv => whnf))
   all_goals try (exfalso; omega)
   all_goals exact hK _
  | cons l0 lr =>
   repeat' ((with_reducible refine way ?_ ?_) <;> (intro h; conv => whnf))
   all_goals try (exfalso; omega)
   have hll2 : (l0 :: lr).length <= 3 := by omega
   have hW := zbn c hfit (fun _ => hSC) (by omega) (l0 :: lr) (by omega)
   have hl0 := hvL l0 (by simp)
   generalize hl : l0 :: lr = l at *
   have hpk := zrt G0 more c.arts.length hm0.1 hm0.2 (by omega)
   have hpr := zzi (c := more) (n := c.arts.length) (by omega)
   generalize zwd more c.arts.length = k at hpk hpr
   rw [<- hal] at hpk
   have hvB : ∀ v ∈ l ++ [k], 0 <= v /\ v < c.arts.length := fun v hv => by
    rcases List.mem_append.1 hv with h | h
    ·exact hvL v h
    ·simp at h; rw [h]; exact hpr
   have hA : ∀ w, ye c (l ++ [k]) = some w -> _ := fun w hw => zzs hb2 hb2 rfl f2 hw41 hw41 hvL hvB
    (zud (fun v hv => zfn.2 (List.mem_append_left _ (zfn.1 hv))) fun v _ e he => he) (zuc (fun v hv => zfn.2 (List.mem_append_left _ (zfn.1 hv))) fun v _ a ha => ⟨a, ha, rfl, rfl⟩) hw
   have hWB := zbn c hfit (fun _ => hSC) (by omega) (l ++ [k]) (by simp; omega)
   obtain ⟨o, ho⟩ : ∃ o, ye c l = o := ⟨_, rfl⟩
   rw [ho] at hW hA
   have hA2 : ∀ w, ye c (l ++ [k]) = some w -> o.isSome = true /\ ∃ z : List (Int × Int × Bool), w.value = z.map (·.1) /\ (o.getD zqp).value = z.map (·.2.1) /\ (o.getD zqp).has = z.map (·.2.2) /\ z.length = c.facts.length /\ zzj w.day (o.getD zqp).day z = false := fun w hw => by
    obtain ⟨v, rfl, z, hz⟩ := hA w hw
    exact ⟨rfl, z, hz⟩
   have hO : ∀ v', o = some v' -> o.isSome = true /\ o.getD zqp = v' := by
    rintro v' rfl
    exact ⟨rfl, rfl⟩
   unfold yrj at hW
   generalize o.isSome = ob at hW hA2 hO
   generalize o.getD zqp = v at hW hA2 hO
   obtain ⟨vday, vhas, vval, varts⟩ := v
   change yb _ _ _ _ (.tup [.agg [sI vday, .imm (xm vhas), .imm (dInts vval), .imm (dInts varts)], sB ob]) at hW
   simp only at hA2
   refine zd rfl  hW ?_
   (refine za ?_; conv => whnf)
   refine zd rfl  hpk ?_
   (refine za ?_; conv => whnf)
   refine ymq rfl rfl rfl rfl rfl rfl rfl rfl rfl ⟨show 8 <= 65536 by decide, rfl, by decide⟩ (by decide) ?_
   (refine za ?_; conv => whnf)
   refine zaq (b := 2) (kk := 1) (rows := []) (new := l.map fun n => [dI n]) rfl ⟨show 8 <= 65536 by decide, rfl⟩ rfl (by simp; omega) ?_
   (refine za ?_; conv => whnf)
   refine zaq (b := 2) (kk := 1) (rows := l.map fun n => [dI n]) (new := [[dI k]]) rfl ⟨show 8 <= 65536 by decide, rfl⟩ (by simp) (by simp; omega) ?_
   have e5 : (l.map fun n => [dI n]) ++ [[dI k]] = (l ++ [k]).map fun n => [dI n] := by simp
   refine Eq.mpr (congrArg (fun v => SWr E _ _ _ (wm _ _ (.asl 2 1 v)) _) e5) ?_
   (refine ym [777, 74] 1000 ?_; conv => whnf)
   refine qi (fun _ h => zfx h) ?_
   refine qi (fun _ h => yr [3, 4, 9, 12, 14, 15, 16, 17] 2 (by rw [hH]; exact Nat.zero_le 2) (Nat.succ_le_succ (Nat.succ_le_succ (Nat.zero_le _))) rfl rfl h) ?_
   (refine za ?_; conv => whnf)
   obtain ⟨oB, hoB⟩ : ∃ x, ye c (l ++ [k]) = x := ⟨_, rfl⟩
   rw [hoB] at hWB hA2
   refine zd rfl  hWB ?_
   apply ymu (T := [(3, sI from_), (4, .ptr 0 0), (9, sB true), (12, .imm (dInts l)), (14, .ptr 1 0), (15, sB ob), (16, sI k)]) (H := [zdo c, .cells [sI vday, .imm (xm vhas), .imm (dInts vval), .imm (dInts varts)]])
   case h1 =>
    intro key
    cases oB with
    | none =>
     (refine ym [777, 93] 1000 ?_; conv => whnf)
     refine qi (fun _ h => yr [3, 4, 9, 12, 14, 15, 16] 2 (by rw [hH]; exact Nat.zero_le 2) (Nat.succ_le_succ (Nat.succ_le_succ (Nat.zero_le _))) rfl rfl h) ?_
     exact key
    | some w =>
     obtain ⟨rfl, z, e1, e2, e3, e4, e5⟩ := hA2 w rfl
     obtain ⟨wday, whas, wval, warts⟩ := w
     simp only at e1 e5
     have hLs := zru G0 wday vday z (by omega) varts
     rw [e5, <- e1, <- e2, <- e3] at hLs
     (refine za ?_; conv => whnf)
     refine zd rfl  hLs ?_
     (refine ym [777, 93] 1000 ?_; conv => whnf)
     refine qi (fun _ h => yr [3, 4, 9, 12, 14, 15, 16] 2 (by rw [hH]; exact Nat.zero_le 2) (Nat.succ_le_succ (Nat.succ_le_succ (Nat.zero_le _))) rfl rfl h) ?_
     exact key
   case h2 =>
    (refine za ?_; conv => whnf)
    refine zf [3, 4, 9, 12, 14, 15, 16, 20] ?_
    obtain ⟨rows, hrows⟩ : ∃ rows, c.arts.map Article.cells = rows := ⟨_, rfl⟩
    have hrl : rows.length = c.arts.length := by rw [<- hrows]; simp
    have hr14 : ∀ r ∈ rows, r.length = 14 := by rw [<- hrows]; exact yms c
    have hfl14 := zwi rows hr14
    change SW E _ [(3, sI from_), (4, .ptr 0 0), (9, sB true), (12, .imm (dInts l)), (14, .ptr 1 0), (15, sB ob), (16, sI k), (20, .ptr 2 0)] [.cells [.imm (zk c.facts), .imm (zk c.lines), .imm (.isl 14 (c.arts.map Article.cells))], .cells [sI vday, .imm (xm vhas), .imm (dInts vval), .imm (dInts varts)], .cells [.imm (zk c.facts), .imm (zk c.lines), .imm (.isl 14 (c.arts.map Article.cells))]]
    rw [hrows]
    refine ya 1 mixed rfl ?_
    refine ymo 3 rfl rfl rfl rfl rfl rfl rfl rfl rfl ⟨show 184 <= 65536 by decide, rfl, by decide⟩ (show 3 <= 3 by decide) rfl (by decide) ?_
    (refine zc [777, 97] (nx := 3) ?_; conv => whnf)
    refine zrh (b := 3) (kk := 14) (cs := []) (n := 0) (new := rows) rfl rfl rfl rfl rfl rfl rfl rfl rfl rfl ⟨show 184 <= 65536 by decide, rfl⟩ (show 3 <= 4 by decide) rfl rfl (by decide) (by omega) (by omega) ?_
    (refine zc [777] (nx := 3) ?_; conv => whnf)
    refine zf [3, 4, 9, 12, 14, 15, 16, 20] ?_
    change SW E _ [(3, sI from_), (4, .ptr 0 0), (9, sB true), (12, .imm (dInts l)), (14, .ptr 1 0), (15, sB ob), (16, sI k), (20, .ptr 2 0)] [.cells [.imm (zk c.facts), .imm (zk c.lines), .imm (.isl 14 rows)], .cells [sI vday, .imm (xm vhas), .imm (dInts vval), .imm (dInts varts)], .cells [.imm (zk c.facts), .imm (zk c.lines), .vec 3 (0 + rows.length)], .vec 14 (rows.flatten.map .imm)]
    rw [Nat.zero_add]
    obtain ⟨ak, hak⟩ : ∃ a, c.arts[k.toNat]? = some a := ⟨_, List.getElem?_eq_getElem (by omega)⟩
    obtain ⟨op, n, u, den, ps, ks, hamt⟩ := zdz ak
    have hrk := zqs c hak hamt
    rw [hrows] at hrk
    have hkm := List.mem_of_getElem? hak
    have hkw : (ak.when_.map Ex.cells).length = ak.when_.length := by simp
    have hkl := (f4 ak hkm).1
    (refine zh ?_; conv => whnf)
    refine zg (i := k.toNat) (row := [dI ak.number, dI ak.line, dI ak.rank, dI ak.lo, dI ak.hi, dI ak.known, xb ak.when_, dInts ak.unless_, dI op, dI n, dS u, dI den, .isl 3 (ps.map Piece.cells), .isl 6 (zb ks)]) rfl (by omega) hrk ?_
    (refine za ?_; conv => whnf)
    repeat' ((with_reducible refine way ?_ ?_) <;> (intro h; conv => whnf))
    ·exact hK _
    refine zf [3, 4, 9, 12, 14, 15, 16, 20] ?_
    change SW E _ [(3, sI from_), (4, .ptr 0 0), (9, sB true), (12, .imm (dInts l)), (14, .ptr 1 0), (15, sB ob), (16, sI k), (20, .ptr 2 0)] [.cells [.imm (zk c.facts), .imm (zk c.lines), .imm (.isl 14 rows)], .cells [sI vday, .imm (xm vhas), .imm (dInts vval), .imm (dInts varts)], .cells [.imm (zk c.facts), .imm (zk c.lines), .vec 3 rows.length], .vec 14 (rows.flatten.map .imm)]
    obtain ⟨a0, ha0⟩ : ∃ a, c.arts[l0.toNat]? = some a := ⟨_, List.getElem?_eq_getElem (by omega)⟩
    have hr0 : rows[l0.toNat]? = some a0.cells := by rw [<- hrows]; simp [ha0]
    have hfr0 := yeu rows l0.toNat a0.cells hr14 hr0
    have hl0r : (l.map fun n => [dI n])[0]? = some [dI l0] := by rw [<- hl]; rfl
    refine ya 1 mixed rfl ?_
    (refine zc [777, 111] (nx := 4) ?_; conv => whnf)
    refine yc (i := 0) (row := [dI l0]) rfl (show 4 <= 5 by decide) rfl hl0r ?_
    (refine zc [777, 113] (nx := 4) ?_; conv => whnf)
    refine yes (b := 3) (n := rows.length) (kk := 14) (i := l0.toNat) (cs := rows.flatten.map .imm) rfl rfl rfl rfl rfl rfl rfl (show 4 <= 5 by decide) rfl (by rw [List.length_map]; exact hfl14) (by decide) (by omega) (by omega) ?_
    refine ymr (b := 3) (n := rows.length) (off := l0.toNat * 14) (kk := 14) (cs := rows.flatten.map .imm) (row := a0.cells.map .imm) rfl rfl rfl rfl (show 4 <= 5 by decide) rfl (by rw [List.length_map]; exact hfl14) (by decide) (by
     rw [<- List.map_drop, <- List.map_take]
     show ((rows.flatten.drop (l0.toNat * 14)).take 14).map SV.imm = _
     rw [hfr0]) (show 1 <= 14 by decide) rfl ?_
    (refine zc [777] (nx := 4) ?_; conv => whnf)
    refine zf [3, 4, 9, 12, 14, 15, 16, 20, 21] ?_
    change SW E _ [(3, sI from_), (4, .ptr 0 0), (9, sB true), (12, .imm (dInts l)), (14, .ptr 1 0), (15, sB ob), (16, sI k), (20, .ptr 2 0), (21, .ptr 4 0)] [.cells [.imm (zk c.facts), .imm (zk c.lines), .imm (.isl 14 rows)], .cells [sI vday, .imm (xm vhas), .imm (dInts vval), .imm (dInts varts)], .cells [.imm (zk c.facts), .imm (zk c.lines), .vec 3 rows.length], .vec 14 (rows.flatten.map .imm), .cells (a0.cells.map .imm)]
    have hkpos : 0 < ak.when_.length := by omega
    have hpf := zrt G0 from_ ak.when_.length hf0.1 hf0.2 (by omega)
    have hpfr := zzi (c := from_) (n := ak.when_.length) (by omega)
    generalize zwd from_ ak.when_.length = pf at hpf hpfr
    rw [<- hkw] at hpf
    obtain ⟨e, he⟩ : ∃ e, ak.when_[pf.toNat]? = some e := ⟨_, List.getElem?_eq_getElem (by omega)⟩
    have hre : (ak.when_.map Ex.cells)[pf.toNat]? = some e.cells := by simp [he]
    have ha0l := (f4 a0 (List.mem_of_getElem? ha0)).1
    (refine zh ?_; conv => whnf)
    refine ya 1 mixed rfl ?_
    refine ymp 5 rfl rfl rfl rfl rfl rfl rfl rfl rfl ⟨show 88 <= 65536 by decide, rfl, by decide⟩ (show 5 <= 5 by decide) rfl (by decide) ?_
    (refine zc [777, 118] (nx := 5) ?_; conv => whnf)
    refine zfe (b := 5) (kk := 6) (rows := []) (new := a0.when_.map Ex.cells) rfl rfl rfl rfl rfl rfl rfl rfl rfl rfl ⟨show 88 <= 65536 by decide, rfl⟩ (show 5 <= 6 by decide) rfl (by simp; omega) ?_
    (refine zc [777, 122] (nx := 5) ?_; conv => whnf)
    refine yc (i := k.toNat) (row := [dI ak.number, dI ak.line, dI ak.rank, dI ak.lo, dI ak.hi, dI ak.known, xb ak.when_, dInts ak.unless_, dI op, dI n, dS u, dI den, .isl 3 (ps.map Piece.cells), .isl 6 (zb ks)]) rfl (show 5 <= 6 by decide) (by omega) hrk ?_
    (refine zc [777, 129] (nx := 5) ?_; conv => whnf)
    refine yc (i := k.toNat) (row := [dI ak.number, dI ak.line, dI ak.rank, dI ak.lo, dI ak.hi, dI ak.known, xb ak.when_, dInts ak.unless_, dI op, dI n, dS u, dI den, .isl 3 (ps.map Piece.cells), .isl 6 (zb ks)]) rfl (show 5 <= 6 by decide) (by omega) hrk ?_
    (refine zc [777, 133] (nx := 5) ?_; conv => whnf)
    refine zae rfl (show 5 <= 6 by decide) hpf ?_
    refine yc (i := pf.toNat) (row := e.cells) rfl (show 5 <= 6 by decide) (by omega) hre ?_
    obtain ⟨eop, en, eu, eden, eps, eks⟩ := e
    (refine zc [777, 137] (nx := 5) ?_; conv => whnf)
    refine zfe (b := 5) (kk := 6) (rows := a0.when_.map Ex.cells) (new := [[dI eop, dI en, dS eu, dI eden, .isl 3 (eps.map Piece.cells), .isl 6 (zb eks)]]) rfl rfl rfl rfl rfl rfl rfl rfl rfl rfl ⟨show 88 <= 65536 by decide, rfl⟩ (show 5 <= 6 by decide) rfl (by simp; omega) ?_
    (refine zc [777, 999] (nx := 5) ?_; conv => whnf)
    refine zdv (b := 4) (off := 6) (v := .asl 5 6 (a0.when_.map Ex.cells ++ [[dI eop, dI en, dS eu, dI eden, .isl 3 (eps.map Piece.cells), .isl 6 (zb eks)]])) (zz := .imm (xb a0.when_)) (d := [sI a0.number, sI a0.line, sI a0.rank, sI a0.lo, sI a0.hi, sI a0.known]) (r := (a0.cells.drop 7).map .imm) rfl rfl rfl rfl rfl rfl rfl rfl (show 5 <= 6 by decide) rfl rfl ?_
    refine zbz (by kernel_rfl) ?_
    refine zfx ?_
    refine yqi 5 ?_
    refine zf [3, 4, 9, 12, 14, 15, 16, 20, 21] ?_
    obtain ⟨e, hee⟩ : ∃ e, Ex.mk eop en eu eden eps eks = e := ⟨_, rfl⟩
    have hW1 : a0.when_.map Ex.cells ++ [[dI eop, dI en, dS eu, dI eden, .isl 3 (eps.map Piece.cells), .isl 6 (zb eks)]] = (a0.when_ ++ [e]).map Ex.cells := by rw [List.map_append, <- hee]; rfl
    refine Eq.mpr (congrArg (fun z => SW E _ _ [.cells [.imm (zk c.facts), .imm (zk c.lines), .imm (.isl 14 rows)], .cells [sI vday, .imm (xm vhas), .imm (dInts vval), .imm (dInts varts)], .cells [.imm (zk c.facts), .imm (zk c.lines), .vec 3 rows.length], .vec 14 (rows.flatten.map .imm), .cells ([sI a0.number, sI a0.line, sI a0.rank, sI a0.lo, sI a0.hi, sI a0.known, .imm (.isl 6 z)] ++ (a0.cells.drop 7).map .imm), .dead]) hW1) ?_
    change SW E _ [(3, sI from_), (4, .ptr 0 0), (9, sB true), (12, .imm (dInts l)), (14, .ptr 1 0), (15, sB ob), (16, sI k), (20, .ptr 2 0), (21, .ptr 4 0)] [.cells [.imm (zk c.facts), .imm (zk c.lines), .imm (.isl 14 rows)], .cells [sI vday, .imm (xm vhas), .imm (dInts vval), .imm (dInts varts)], .cells [.imm (zk c.facts), .imm (zk c.lines), .vec 3 rows.length], .vec 14 (rows.flatten.map .imm), .cells ((zfo a0 e).cells.map .imm), .dead]
    (refine zh ?_; conv => whnf)
    refine ya 0 mixed rfl ?_
    (refine zc [777, 142] (nx := 6) ?_; conv => whnf)
    refine yc (i := 0) (row := [dI l0]) rfl (show 6 <= 6 by decide) rfl hl0r ?_
    (refine zc [777, 145] (nx := 6) ?_; conv => whnf)
    refine yes (b := 3) (n := rows.length) (kk := 14) (i := l0.toNat) (cs := rows.flatten.map .imm) rfl rfl rfl rfl rfl rfl rfl (show 6 <= 6 by decide) rfl (by rw [List.length_map]; exact hfl14) (by decide) (by omega) (by omega) ?_
    refine yce (b := 3) (n := rows.length) (off := l0.toNat * 14) (ns := 14) (kk := 14) (cs := rows.flatten.map .imm) (v := .agg ((zfo a0 e).cells.map .imm)) (vcs := (zfo a0 e).cells.map .imm) rfl rfl rfl rfl rfl rfl rfl rfl rfl (show 6 <= 6 by decide) rfl (by rw [List.length_map]; exact hfl14) (by decide) (by
     rw [List.length_map, hfl14]
     have : (l0.toNat + 1) * 14 <= rows.length * 14 := Nat.mul_le_mul_right 14 (by omega)
     omega) (by decide) ?_
    refine zbz (by kernel_rfl) ?_
    refine zf [3, 4, 9, 12, 14, 15, 16, 20] ?_
    have hflat := yev rows l0.toNat (zfo a0 e).cells hr14 (by omega)
    have hset : rows.set l0.toNat (zfo a0 e).cells = (yuc c l0.toNat a0 e).arts.map Article.cells := by
     show _ = (c.arts.set l0.toNat (zfo a0 e)).map Article.cells
     rw [List.map_set, hrows]
    have hW2 : (rows.flatten.map SV.imm).take (l0.toNat * 14) ++ (zfo a0 e).cells.map SV.imm ++ (rows.flatten.map SV.imm).drop (l0.toNat * 14 + 14) = ((yuc c l0.toNat a0 e).arts.map Article.cells).flatten.map SV.imm := by
     rw [<- hset, hflat, List.map_append, List.map_append, List.map_take, List.map_drop]
    obtain ⟨d, hd⟩ : ∃ d, yuc c l0.toNat a0 e = d := ⟨_, rfl⟩
    rw [hd] at hW2
    refine Eq.mpr (congrArg (fun z => SW E _ _ [.cells [.imm (zk c.facts), .imm (zk c.lines), .imm (.isl 14 rows)], .cells [sI vday, .imm (xm vhas), .imm (dInts vval), .imm (dInts varts)], .cells [.imm (zk c.facts), .imm (zk c.lines), .vec 3 rows.length], .vec 14 z, .cells ((zfo a0 e).cells.map .imm), .dead]) hW2) ?_
    have hdr := yms d
    have hdl : d.arts.length = rows.length := by rw [<- hd, hrl]; show (c.arts.set _ _).length = _; simp
    have hdl2 : (d.arts.map Article.cells).length = rows.length := by simp [hdl]
    have hdf := zwi _ hdr
    refine zoa 2 2 3 rows.length 14 (cs := (d.arts.map Article.cells).flatten.map .imm) (ds := (d.arts.map Article.cells).flatten) rfl rfl rfl (yew d.arts) (zos _) (by rw [List.length_map, hdf, hdl2]) (by decide) ?_
    have hch : qt 14 (d.arts.map Article.cells).flatten rows.length = d.arts.map Article.cells := by rw [<- hdl2]; exact yal 14 _ hdr
    refine Eq.mpr (congrArg (fun z => SW E _ _ [.cells [.imm (zk c.facts), .imm (zk c.lines), .imm (.isl 14 rows)], .cells [sI vday, .imm (xm vhas), .imm (dInts vval), .imm (dInts varts)], .cells [.imm (zk c.facts), .imm (zk c.lines), .imm (.isl 14 z)], .dead, .cells ((zfo a0 e).cells.map .imm), .dead]) hch) ?_
    have hdfa : d.facts = c.facts := by rw [<- hd]; rfl
    have hda : ∀ b ∈ d.arts, b.when_.length <= 41 /\ b.unless_.length <= 80 := by
     rw [<- hd]
     refine ymt f4 ⟨?_, (f4 a0 (List.mem_of_getElem? ha0)).2⟩
     have := yvi hb1 a0 (List.mem_of_getElem? ha0)
     show (a0.when_ ++ [e]).length <= 41
     simp
     omega
    have hWD := zbn d (fun b hb => by have := hda b hb; omega) (fun h => zjb h (by rw [hdfa]; exact f2) hda) (by omega) l (by omega)
    rw [show d.sv = .agg [.imm (zk c.facts), .imm (zk c.lines), .imm (xw d.arts)] from by rw [<- hd]; rfl] at hWD
    have hvD : ∀ v ∈ l, 0 <= v /\ v < d.arts.length := fun v hv => by have := hvL v hv; omega
    have hD : ∀ x, ye d l = some x -> ob = true /\ ∃ z : List (Int × Int × Bool), x.value = z.map (·.1) /\ vval = z.map (·.2.1) /\ vhas = z.map (·.2.2) /\ z.length = c.facts.length /\ zzj x.day vday z = false := fun x hx => by
     have hat : ∀ v b, qf c v = some b -> ∃ b', qf d v = some b' /\ b'.lo = b.lo /\ b'.hi = b.hi /\ ∀ y ∈ b.when_, y ∈ b'.when_ := fun v b hb => by rw [<- hd]; exact yia ha0 v hb
     obtain ⟨v', hv', z, hz⟩ := zzs hb2 (yib hx) hdfa f2 hw41 (fun b hb => (hda b hb).1) hvL hvD
      (zud (fun v hv => hv) fun v _ y hy => by
       unfold zlv at hy ⊢
       cases hb : qf c v with
       | none => rw [hb] at hy; cases hy
       | some b =>
        rw [hb] at hy
        obtain ⟨b', g1, _, _, g4⟩ := hat v b hb
        rw [g1]
        exact g4 y hy)
      (zuc (fun v hv => hv) fun v _ b hb => by obtain ⟨b', g1, g2, g3, _⟩ := hat v b hb; exact ⟨b', g1, g2, g3⟩) hx
     rw [ho] at hv'
     obtain ⟨g1, g2⟩ := hO v' hv'
     subst g2
     exact ⟨g1, z, hz⟩
    obtain ⟨oD, hoD⟩ : ∃ x, ye d l = x := ⟨_, rfl⟩
    rw [hoD] at hWD hD
    change SW E _ [(3, sI from_), (4, .ptr 0 0), (9, sB true), (12, .imm (dInts l)), (14, .ptr 1 0), (15, sB ob), (16, sI k), (20, .ptr 2 0)] [.cells [.imm (zk c.facts), .imm (zk c.lines), .imm (.isl 14 rows)], .cells [sI vday, .imm (xm vhas), .imm (dInts vval), .imm (dInts varts)], .cells [.imm (zk c.facts), .imm (zk c.lines), .imm (xw d.arts)], .dead, .cells ((zfo a0 e).cells.map .imm), .dead]
    (refine zh ?_; conv => whnf)
    refine zd rfl  hWD ?_
    cases oD with
    | none =>
     (refine za ?_; conv => whnf)
     exact hK _
    | some x =>
     obtain ⟨rfl, z, e1, e2, e3, e4, e5⟩ := hD x rfl
     obtain ⟨wday, whas, wval, warts⟩ := x
     simp only at e1 e5
     have hLs := zru G0 wday vday z (by omega) varts
     rw [e5, <- e1, <- e2, <- e3] at hLs
     (refine za ?_; conv => whnf)
     refine zd rfl  hLs ?_
     (refine za ?_; conv => whnf)
     exact hK _
end Go.Proofs.YtblpjknmhajcgaaGreatDoor
