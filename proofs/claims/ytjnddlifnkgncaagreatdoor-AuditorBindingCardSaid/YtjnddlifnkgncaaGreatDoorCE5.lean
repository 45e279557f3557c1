/- Contracts of functions of the program, joined from TYx, TYy, TZq, TZc, TSh54, TZd, TZe, TZi, TSh55, TZj, TZr, TZg, TZh, TZk, TZl, TZm, TZn, TZo, TZp, TZs, TZf, TZt, TLh, TLi, TZu, TZv, TZw, TZx, TZy, TZz, TUa: no condition. -/
import Derived.Test.YtjnddlifnkgncaaGreatDoorCE4
import Derived.Lib.MakeNoZero
import Derived.Shelf.Strings.Builder1
import Derived.Test.YtjnddlifnkgncaaGreatDoorProg
import Derived.Test.YtjnddlifnkgncaaGreatDoorRows
import Derived.WalkKit
import Derived.ProofKit
import Derived.OpenShut
import Derived.Deep.DeepHandedRow
import Derived.Deep.CondSized
import Derived.Lib.LaidTab
set_option linter.unusedSimpArgs false
set_option linter.unusedVariables false
set_option maxRecDepth 100000
set_option maxHeartbeats 8000000
namespace Go.Proofs.YtjnddlifnkgncaaGreatDoor
open Go Go.Sh
variable {G:List (Nat × D)}
structure MFit (c:Codex) (m:List (Int × Int)):Prop where
 arts:c.arts.length<=1000
 fit:∀a∈c.arts,ArtFit a
 amt:∀a∈c.arts,zxd c m a.amount/\zbh a.amount<=1000000
 whn:∀a∈c.arts,∀w∈a.when_,zxd c m w/\zbh w<=1000000
theorem yqp {c:Codex} {m:List (Int × Int)} {S:AM} (hS:AFit c S) (inF:List Int) (st am:List (Int × Int)) {e:Ex} (he:zxd c m e) (hz:zbh e<=1000000):
  SPre Tryz.prog G 107 [.ptr 0 0,e.sv] (MH c S inF st am) (fun r H1=>r= .tup [sI ((zbv S am e).getD 0),sB (zbv S am e).isSome]/\H1=MH c S inF st am):=
 ydy (by rfl) (jj c S inF st am) (ygn hS inF st am _ e (Nat.lt_succ_self _) he hz)
theorem yku (c:Codex) (S:AM) (inF:List Int) (st am:List (Int × Int)) (a:Article):(MH c S inF st am++[SObj.cells (a.cells.map .imm)]).all (SObj.under 4)=true:=by
 rw [List.all_append,zbt (m:=3) (n:=4) (by omega) (jj c S inF st am)];simp only [List.all_cons,List.all_nil,zhm];rfl
def okW (S:AM) (am:List (Int × Int)) (w:Ex):Bool:=(zbv S am w).isSome&& !decide ((zbv S am w).getD 0=0)
theorem yph {c : Codex} {m : List (Int × Int)} {S : AM} (hS : AFit c S) (hM : MFit c m) (inF seq : List Int) (hin : ∀ o ∈ inF, 0 <= o /\ o < c.arts.length) (hiz : inF.length <= 1000000) (hsq : ∀ v ∈ seq, 0 <= v /\ v < c.arts.length) (hsz : seq.length <= 1000000) (st am : List (Int × Int)) :
    SPre Tryz.prog G 68 [.ptr 0 0, .imm (yb seq)] (MH c S inF st am) (fun r H1 => r = .tup [] /\ H1 = MH c S inF (seq.foldl (zrk c S inF) (st, am)).1 (seq.foldl (zrk c S inF) (st, am)).2) := by
  have hal : (c.arts.map Article.cells).length = c.arts.length := by simp
  have hsl : (seq.map fun n => [dI n]).length = seq.length := by simp
  have hil : (inF.map fun n => [dI n]).length = inF.length := by simp
  refine qs Tryz.func68 rfl (by rw [Tryz.ntmps68]; simp) rfl (jj c S inF st am) ?_
  intro E hH hK
  generalize hT : seq.foldl (zrk c S inF) (st, am) = T at hK
  have hH3 : E.H.length = 3 := hH
  have fin : E.K (.tup []) (MH c S inF T.1 T.2) := hK _ _ (Nat.le_refl 3) rfl (jj c S inF T.1 T.2) ⟨rfl, rfl⟩
  clear hK hH
  (refine ze ?_; conv => whnf)
  refine zh [0, 16, 17, 18] ?_
  change SW E _ [(0, .ptr 0 0), (16, .imm (yb seq)), (17, sI ((seq.map fun n => [dI n]).length : Nat)), (18, sI (0 : Nat))] (MH c S inF st am)
  rw [hsl]
  refine zp seq (fun i (_ : List (Int × Int) × List (Int × Int)) => [(0, .ptr 0 0), (16, .imm (yb seq)), (17, sI (seq.length : Nat)), (18, sI (i : Nat))]) (fun _ s => MH c S inF s.1 s.2) (fun _ rest s => rest.foldl (zrk c S inF) s = T) (st, am) hT ?_ ?_
  · rintro ⟨st, am⟩ hs
    have hs : (st, am) = T := hs
    subst hs
    change SW E _ [(0, .ptr 0 0), (16, .imm (yb seq)), (17, sI (seq.length : Nat)), (18, sI (seq.length : Nat))] (MH c S inF st am)
    (refine ze ?_; conv => whnf)
    repeat' ((with_reducible refine way ?_ ?_) <;> (intro h; conv => whnf))
    all_goals try (exfalso; omega)
    exact fin
  · clear hT st am
    rintro done v rest ⟨st, am⟩ hda hdl hs ih
    rw [List.foldl_cons] at hs
    have hvr := hsq v (by rw [hda]; simp)
    obtain ⟨a, ha⟩ : ∃ a, c.arts[v.toNat]? = some a := ⟨_, List.getElem?_eq_getElem (by omega)⟩
    have ham := List.mem_of_getElem? ha
    have hva : zcl c v = some a := by unfold zcl; rw [if_neg (by omega)]; exact ha
    have hvn : v = (v.toNat : Int) := by omega
    have ih := fun s' (h : zrk c S inF (st, am) v = s') => ih s' (by rw [<- h]; exact hs)
    have zbn : zrk c S inF (st, am) v = (if v ∈ inF then
      if ykd S am a = true then
        (inF.foldl (zfi c a v) (zco v 2 (zco v 0 st)), if (zv v (inF.foldl (zfi c a v) (zco v 2 (zco v 0 st)))).getD 0 = 2 then zco a.number ((zbv S am a.amount).getD 0) am else am)
      else (zco v 0 st, am) else (st, am)) := by unfold zrk; rw [hva]
    rw [zbn] at ih
    clear zbn hs
    have hrs : (seq.map fun n => [dI n])[done.length]? = some [dI v] := by rw [hda]; simp
    have hw := zk (n := done.length) (by omega)
    have hcon := ziz G inF v (by omega)
    change SW E _ [(0, .ptr 0 0), (16, .imm (yb seq)), (17, sI (seq.length : Nat)), (18, sI (done.length : Nat))] (MH c S inF st am)
    (refine ze ?_; conv => whnf)
    repeat' ((with_reducible refine way ?_ ?_) <;> (intro h; conv => whnf))
    all_goals try (exfalso; omega)
    refine zi (i := done.length) (row := [dI v]) rfl rfl hrs ?_
    (refine zc ?_; conv => whnf)
    refine zd rfl  hcon ?_
    by_cases hvin : v ∈ inF
    case neg =>
      rw [if_neg hvin] at ih
      rw [decide_eq_false hvin]
      have ih := ih _ rfl
      (refine zc ?_; conv => whnf)
      rw [hw]
      exact zh [0, 16, 17, 18] ih
    rw [if_pos hvin] at ih
    rw [decide_eq_true hvin]
    obtain ⟨aop, an, au, ad, ap, ak, hma⟩ : ∃ op n u den ps ks, a.amount = .mk op n u den ps ks := by cases h : a.amount; exact ⟨_, _, _, _, _, _, rfl⟩
    have hrx : (c.arts.map Article.cells)[v.toNat]? = some a.cells := by rw [List.getElem?_map, ha]; rfl
    rw [zgw hma] at hrx
    (refine zj [777, 35] 1000 ?_; conv => whnf)
    refine zi (i := v.toNat) (row := ynf a aop an au ad ap ak) rfl hvn hrx ?_
    have hbx : a.cells.map SV.imm = qx a aop an au ad ap ak := zec hma
    have hbu := fun st am => yku c S inF st am a
    rw [hbx] at hbu
    (refine zj [777, 37] 1000 ?_; conv => whnf)
    (refine zj [777, 999] 1000 ?_; conv => whnf)
    refine zdo (l := st) sI 0 rfl rfl rfl rfl rfl rfl rfl rfl rfl ?_
    refine (fun (hs : ∀ H2, H2 = MH c S inF (zco v 0 st) am ++ [SObj.cells (qx a aop an au ad ap ak)] -> SWr E _ _ _ _ H2) => hs _ rfl) ?_
    rintro _ rfl
    generalize zco v 0 st = st1 at ih
    have hamt := yqp (G := G) hS inF st1 am (hM.amt a ham).1 (hM.amt a ham).2
    have hho : ykd S am a = ((zbv S am a.amount).isSome && a.when_.all (okW S am)) := rfl
    rw [hma] at hamt
    rw [hho] at ih
    clear hho
    rw [hma] at ih
    generalize zbv S am (.mk aop an au ad ap ak) = amt at hamt ih
    (refine zc ?_; conv => whnf)
    refine zbb 3 rfl rfl rfl rfl rfl rfl hamt ?_
    rintro r9 H9 ⟨rfl, rfl⟩ _
    refine (fun (hs : ∀ H2, H2 = MH c S inF st1 am ++ [SObj.cells (qx a aop an au ad ap ak)] -> SWr E _ _ _ _ H2) => hs _ rfl) ?_
    rintro _ rfl
    have hwl : (a.when_.map Ex.cells).length = a.when_.length := by simp
    have hwz := (hM.fit a ham).len
    (refine zc ?_; conv => whnf)
    refine zh [0, 5, 6, 7, 8, 16, 17, 18, 50, 51, 52] ?_
    change SW E _ [(0, .ptr 0 0), (5, sI v), (6, .ptr 3 0), (7, sI (amt.getD 0)), (8, sB amt.isSome), (16, .imm (yb seq)), (17, sI (seq.length : Nat)), (18, sI (done.length : Nat)), (50, .imm (qt a.when_)), (51, sI ((a.when_.map Ex.cells).length : Nat)), (52, sI (0 : Nat))] (MH c S inF st1 am ++ [SObj.cells (qx a aop an au ad ap ak)])
    rw [hwl]
    refine zp a.when_ (fun i (b : Bool) => [(0, .ptr 0 0), (5, sI v), (6, .ptr 3 0), (7, sI (amt.getD 0)), (8, sB b), (16, .imm (yb seq)), (17, sI (seq.length : Nat)), (18, sI (done.length : Nat)), (50, .imm (qt a.when_)), (51, sI (a.when_.length : Nat)), (52, sI (i : Nat))]) (fun _ _ => MH c S inF st1 am ++ [SObj.cells (qx a aop an au ad ap ak)])
      (fun _ rest b => (amt.isSome && a.when_.all (okW S am)) = (b && rest.all (okW S am))) amt.isSome rfl ?_ ?_
    · rintro b hb
      have hb : (amt.isSome && a.when_.all (okW S am)) = b := by rw [hb]; exact Bool.and_true b
      rw [hb] at ih
      cases b with
      | false =>
        have ih := ih (st1, am) rfl
        (refine ze ?_; conv => whnf)
        repeat' ((with_reducible refine way ?_ ?_) <;> (intro h; conv => whnf))
        all_goals try (exfalso; omega)
        rw [hw]
        exact ys [0, 16, 17, 18] 3 (by rw [hH3]; exact Nat.le_refl 3) (by show 3 <= 4; decide) (by rfl) (jj c S inF st1 am) ih
      | true =>
        rw [if_pos rfl] at ih
        have hlk : ∀ (k : Int) (q : List (Int × Int)), ((zv k q).map sI).getD (jc (.int .i64 0)) = sI ((zv k q).getD 0) := fun k q => by cases zv k q <;> rfl
        clear hb
        change SW E _ [(0, .ptr 0 0), (5, sI v), (6, .ptr 3 0), (7, sI (amt.getD 0)), (8, sB true), (16, .imm (yb seq)), (17, sI (seq.length : Nat)), (18, sI (done.length : Nat)), (50, .imm (qt a.when_)), (51, sI (a.when_.length : Nat)), (52, sI (a.when_.length : Nat))] (MH c S inF st1 am ++ [SObj.cells (qx a aop an au ad ap ak)])
        (refine zo [777, 73] 1000 ?_; conv => whnf)
        repeat' ((with_reducible refine way ?_ ?_) <;> (intro h; conv => whnf))
        all_goals try (exfalso; omega)
        (refine zj [777, 999] 1000 ?_; conv => whnf)
        refine zdo (l := st1) sI 2 rfl rfl rfl rfl rfl rfl rfl rfl rfl ?_
        refine (fun (hs : ∀ H2, H2 = MH c S inF (zco v 2 st1) am ++ [SObj.cells (qx a aop an au ad ap ak)] -> SWr E _ _ _ _ H2) => hs _ rfl) ?_
        rintro _ rfl
        generalize zco v 2 st1 = st2 at ih
        (refine zc ?_; conv => whnf)
        refine zh [0, 5, 6, 7, 16, 17, 18, 81, 82, 83] ?_
        change SW E _ [(0, .ptr 0 0), (5, sI v), (6, .ptr 3 0), (7, sI (amt.getD 0)), (16, .imm (yb seq)), (17, sI (seq.length : Nat)), (18, sI (done.length : Nat)), (81, .imm (yb inF)), (82, sI ((inF.map fun n => [dI n]).length : Nat)), (83, sI (0 : Nat))] (MH c S inF st2 am ++ [SObj.cells (qx a aop an au ad ap ak)])
        rw [hil]
        refine zp inF (fun i (_ : List (Int × Int)) => [(0, .ptr 0 0), (5, sI v), (6, .ptr 3 0), (7, sI (amt.getD 0)), (16, .imm (yb seq)), (17, sI (seq.length : Nat)), (18, sI (done.length : Nat)), (81, .imm (yb inF)), (82, sI (inF.length : Nat)), (83, sI (i : Nat))]) (fun _ q => MH c S inF q am ++ [SObj.cells (qx a aop an au ad ap ak)])
          (fun _ rest q => inF.foldl (zfi c a v) st2 = rest.foldl (zfi c a v) q) st2 rfl ?_ ?_
        · rintro st3 h3
          have h3 : inF.foldl (zfi c a v) st2 = st3 := h3
          rw [h3] at ih
          clear h3
          have hlv := hlk v st3
          generalize (zv v st3).getD 0 = x at hlv ih
          (refine zo [777, 130] 1000 ?_; conv => whnf)
          repeat' ((with_reducible refine way ?_ ?_) <;> (intro h; conv => whnf))
          all_goals try (exfalso; omega)
          refine zjo (l := st3) (v := sI x) sI rfl rfl rfl rfl rfl rfl rfl rfl rfl hlv ?_
          (refine zc ?_; conv => whnf)
          repeat' ((with_reducible refine way ?_ ?_) <;> (intro h; conv => whnf))
          · rw [if_pos ‹x = 2›] at ih
            have ih := ih _ rfl
            refine zh [0, 6, 7, 16, 17, 18] ?_
            change SW E _ [(0, .ptr 0 0), (6, .ptr 3 0), (7, sI (amt.getD 0)), (16, .imm (yb seq)), (17, sI (seq.length : Nat)), (18, sI (done.length : Nat))] (MH c S inF st3 am ++ [SObj.cells (qx a aop an au ad ap ak)])
            (refine wk 0 mixed rfl ?_; refine zn [777, 999] (nx := 4) ?_; conv => whnf)
            refine yog (l := am) sI (amt.getD 0) rfl rfl rfl rfl rfl rfl rfl rfl (show 4 <= 4 by decide) rfl ?_
            refine jh (by kernel_rfl) ?_
            refine (fun (hs : ∀ H2, H2 = MH c S inF st3 (zco a.number (amt.getD 0) am) ++ [SObj.cells (qx a aop an au ad ap ak)] -> SW E _ _ H2) => hs _ rfl) ?_
            rintro _ rfl
            (refine ze ?_; conv => whnf)
            rw [hw]
            exact ys [0, 16, 17, 18] 3 (by rw [hH3]; exact Nat.le_refl 3) (by show 3 <= 4; decide) (by rfl) (jj c S inF st3 _) ih
          · rw [if_neg ‹¬ x = 2›] at ih
            have ih := ih _ rfl
            rw [hw]
            exact ys [0, 16, 17, 18] 3 (by rw [hH3]; exact Nat.le_refl 3) (by show 3 <= 4; decide) (by rfl) (jj c S inF st3 _) ih
        · clear ih
          rintro di o ri q hdi hdli hq ih3
          rw [List.foldl_cons] at hq
          have hor := hin o (by rw [hdi]; simp)
          obtain ⟨b, hb⟩ : ∃ b, c.arts[o.toNat]? = some b := ⟨_, List.getElem?_eq_getElem (by omega)⟩
          have hbm := List.mem_of_getElem? hb
          have hob : zcl c o = some b := by unfold zcl; rw [if_neg (by omega)]; exact hb
          have hon : o = (o.toNat : Int) := by omega
          have ih3 := fun q' (h : zfi c a v q o = q') => ih3 q' (by rw [<- h]; exact hq)
          have hst : zfi c a v q o = if (zv o q).getD 0 = 2 /\ ¬ o = v /\ (decide (b.number ∈ a.unless_) || zuv b a) = true then zco v 1 q else q := by
            unfold zfi yun
            rw [hob]
          rw [hst] at ih3
          clear hst hq
          have hw3 := zk (n := di.length) (by omega)
          have hri : (inF.map fun n => [dI n])[di.length]? = some [dI o] := by rw [hdi]; simp
          have c1 := ziz G a.unless_ b.number (by have := (hM.fit a ham).uls; omega)
          have c2 := zpg G b a (hM.fit b hbm) (hM.fit a ham)
          obtain ⟨bop, bn, bu, bd, bp, bk, hmb⟩ : ∃ op n u den ps ks, b.amount = .mk op n u den ps ks := by cases h : b.amount; exact ⟨_, _, _, _, _, _, rfl⟩
          have hrb : (c.arts.map Article.cells)[o.toNat]? = some b.cells := by rw [List.getElem?_map, hb]; rfl
          rw [zgw hmb] at hrb
          rw [znc hma, znc hmb] at c2
          generalize decide (b.number ∈ a.unless_) = z1 at c1 ih3
          generalize zuv b a = z2 at c2 ih3
          have hlv := hlk o q
          generalize (zv o q).getD 0 = x at hlv ih3
          change SW E _ [(0, .ptr 0 0), (5, sI v), (6, .ptr 3 0), (7, sI (amt.getD 0)), (16, .imm (yb seq)), (17, sI (seq.length : Nat)), (18, sI (done.length : Nat)), (81, .imm (yb inF)), (82, sI (inF.length : Nat)), (83, sI (di.length : Nat))] (MH c S inF q am ++ [SObj.cells (qx a aop an au ad ap ak)])
          (refine ze ?_; conv => whnf)
          repeat' ((with_reducible refine way ?_ ?_) <;> (intro h; conv => whnf))
          all_goals try (exfalso; omega)
          refine zi (i := di.length) (row := [dI o]) rfl rfl hri ?_
          (refine zj [777, 93] 1000 ?_; conv => whnf)
          refine zi (i := o.toNat) (row := ynf b bop bn bu bd bp bk) rfl hon hrb ?_
          (refine zj [777, 100] 1000 ?_; conv => whnf)
          refine zjo (l := q) (v := sI x) sI rfl rfl rfl rfl rfl rfl rfl rfl rfl hlv ?_
          (refine zj [777, 112] 1000 ?_; conv => whnf)
          repeat' ((with_reducible refine way ?_ ?_) <;> (intro h; conv => whnf))
          · refine zd rfl  c1 ?_
            cases z1 with
            | true =>
              have ih3 := ih3 _ (if_pos ⟨‹x = 2›, ‹¬ o = v›, rfl⟩)
              (refine zj [777, 119] 1000 ?_; conv => whnf)
              (refine zj [777, 999] 1000 ?_; conv => whnf)
              refine zdo (l := q) sI 1 rfl rfl rfl rfl rfl rfl rfl rfl rfl ?_
              refine (fun (hs : ∀ H2, H2 = MH c S inF (zco v 1 q) am ++ [SObj.cells (qx a aop an au ad ap ak)] ++ [SObj.cells (qx b bop bn bu bd bp bk)] -> SWr E _ _ _ _ H2) => hs _ rfl) ?_
              rintro _ rfl
              (refine zc ?_; conv => whnf)
              rw [hw3]
              exact ys [0, 5, 6, 7, 16, 17, 18, 81, 82, 83] 4 (by rw [hH3]; decide) (by show 4 <= 5; decide) (by rfl) (hbu _ am) ih3
            | false =>
            (refine zc ?_; conv => whnf)
            refine zd rfl  c2 ?_
            cases z2 with
            | true =>
              have ih3 := ih3 _ (if_pos ⟨‹x = 2›, ‹¬ o = v›, rfl⟩)
              (refine zj [777, 119] 1000 ?_; conv => whnf)
              (refine zj [777, 999] 1000 ?_; conv => whnf)
              refine zdo (l := q) sI 1 rfl rfl rfl rfl rfl rfl rfl rfl rfl ?_
              refine (fun (hs : ∀ H2, H2 = MH c S inF (zco v 1 q) am ++ [SObj.cells (qx a aop an au ad ap ak)] ++ [SObj.cells (qx b bop bn bu bd bp bk)] -> SWr E _ _ _ _ H2) => hs _ rfl) ?_
              rintro _ rfl
              (refine zc ?_; conv => whnf)
              rw [hw3]
              exact ys [0, 5, 6, 7, 16, 17, 18, 81, 82, 83] 4 (by rw [hH3]; decide) (by show 4 <= 5; decide) (by rfl) (hbu _ am) ih3
            | false =>
              have ih3 := ih3 _ (if_neg (fun x => by cases x.2.2))
              (refine zc ?_; conv => whnf)
              rw [hw3]
              exact ys [0, 5, 6, 7, 16, 17, 18, 81, 82, 83] 4 (by rw [hH3]; decide) (by show 4 <= 5; decide) (by rfl) (hbu _ am) ih3
          · have ih3 := ih3 _ (if_neg (fun x => x.2.1 ‹o = v›))
            rw [hw3]
            exact ys [0, 5, 6, 7, 16, 17, 18, 81, 82, 83] 4 (by rw [hH3]; decide) (by show 4 <= 5; decide) (by rfl) (hbu _ am) ih3
          · have ih3 := ih3 _ (if_neg (fun y => absurd y.1 ‹¬ x = 2›))
            rw [hw3]
            exact ys [0, 5, 6, 7, 16, 17, 18, 81, 82, 83] 4 (by rw [hH3]; decide) (by show 4 <= 5; decide) (by rfl) (hbu _ am) ih3
    · rintro dw w rw_ b hdw hdlw hb ih2
      have hw2 := zk (n := dw.length) (by omega)
      have hwm : w ∈ a.when_ := by rw [hdw]; simp
      have htw := yqp (G := G) hS inF st1 am (hM.whn a ham w hwm).1 (hM.whn a ham w hwm).2
      have hb : (amt.isSome && a.when_.all (okW S am)) = ((b && ((zbv S am w).isSome && !decide ((zbv S am w).getD 0 = 0))) && rw_.all (okW S am)) := by
        rw [hb, List.all_cons]
        cases b <;> rfl
      have hrw : (a.when_.map Ex.cells)[dw.length]? = some w.cells := by rw [hdw]; simp
      have ih2 := fun b' (h : (b && ((zbv S am w).isSome && !decide ((zbv S am w).getD 0 = 0))) = b') => ih2 b' (by rw [<- h]; exact hb)
      clear hb
      obtain ⟨xo, xn, xu, xd, xp, xk⟩ := w
      generalize zbv S am (Ex.mk xo xn xu xd xp xk) = vx at htw ih2
      (refine ze ?_; conv => whnf)
      repeat' ((with_reducible refine way ?_ ?_) <;> (intro h; conv => whnf))
      all_goals try (exfalso; omega)
      refine zi (i := dw.length) (row := (Ex.mk xo xn xu xd xp xk).cells) rfl rfl hrw ?_
      (refine zc ?_; conv => whnf)
      refine zbb 3 rfl rfl rfl rfl rfl rfl htw ?_
      rintro r9 H9 ⟨rfl, rfl⟩ _
      cases b with
      | false =>
        have ih2 := ih2 false rfl
        (refine zc ?_; conv => whnf)
        rw [hw2]
        exact ys [0, 5, 6, 7, 8, 16, 17, 18, 50, 51, 52] 4 (by rw [hH3]; decide) (by show 4 <= 5; decide) (by rfl) (hbu st1 am) ih2
      | true =>
        cases vx with
        | none =>
          have ih2 := ih2 false rfl
          (refine zc ?_; conv => whnf)
          rw [hw2]
          exact ys [0, 5, 6, 7, 8, 16, 17, 18, 50, 51, 52] 4 (by rw [hH3]; decide) (by show 4 <= 5; decide) (by rfl) (hbu st1 am) ih2
        | some z =>
          have ih2 := ih2 (!decide (z = 0)) rfl
          (refine zc ?_; conv => whnf)
          rw [hw2]
          exact ys [0, 5, 6, 7, 8, 16, 17, 18, 50, 51, 52] 4 (by rw [hH3]; decide) (by show 4 <= 5; decide) (by rfl) (hbu st1 am) ih2
theorem zyc (σ:Nat->Nat) (l:List Bool):(SObj.cells (l.map sB)).ren σ= .cells (l.map sB):=by
 simp only [SObj.ren,zdz,List.map_map];rfl
theorem ykv {c:Codex} {m:List (Int × Int)} {e:Ex} (he:zxd c m e) (hz:zbh e<=1000000) {used:List Bool} (hul:used.length=c.facts.length) {H:List SObj} {b:Nat} (hb:H[b]?=some (.cells (used.map sB))):
  SCall Tryz.prog G 109 [e.sv,.osl b 0 used.length] H (fun r H'=>r= .tup []/\H'=H.set b (.cells ((zaj e used).map sB))):=by
 have hbl:=lt_of_getElem? hb;have hs:=ykq G _ e (Nat.lt_succ_self _) he hz used hul [];rw [List.append_nil] at hs;have her:∀σ,e.sv.ren σ=e.sv:=fun σ=>by cases e;rfl
 have hlen1:(bH used).length=1:=rfl;have:=zop (K':=fun r H'=>r= .tup []/\H'=H.set b (.cells ((zaj e used).map sB))) hs (H:=H) (fun i=>if i=0 then b else H.length+(i-1)) ?_ ?_ ?_ ?_ (zkb used) ?_
 ·have e1:([e.sv,.osl 0 0 used.length]:List SV).map (SV.ren (fun i=>if i=0 then b else H.length+(i-1)))=[e.sv,.osl b 0 used.length]:=by
   simp only [List.map_cons,List.map_nil,her];rfl
  rw [e1] at this;exact this
 ·intro i j hi hj _
  rw [hlen1] at hi hj;omega
 ·intro i
  simp only [hlen1];rw [if_neg (by omega)];omega
 ·intro i o hi
  match i,hi with
  |0,hi=>
   injection hi with hi
   subst hi;rw [zyc];exact hb
  |i+1,hi=>simp [bH] at hi
 ·have heu:e.sv.under 1=true:=by cases e;rfl
  simp only [List.all_cons,List.all_nil,hlen1,heu];rfl
 ·rintro r H1 H' ⟨H2,⟨rfl,rfl⟩,hl2,rfl⟩ hlen hl3 hsame hother
  refine ⟨rfl,?_⟩;rw [List.append_nil] at hl3 hsame hlen;have hl4:H'.length=H.length:=by
   have:(bH (zaj e used)).length=1:=rfl;rw [this,hlen1] at hl3;omega
  apply List.ext_getElem?
  intro i
  by_cases hi:i=b
  ·subst hi
   rw [List.getElem?_set_self hbl];have:=hsame 0 _ rfl;rw [zyc] at this;exact this
  ·rw [List.getElem?_set_ne (fun h=>hi h.symm)]
   rcases Nat.lt_or_ge i H.length with hlt|hge
   ·refine hother i hlt (fun j hj h=>?_)
    rw [hlen1] at hj;have:j=0:=by omega
    subst this;exact hi h.symm
   ·rw [List.getElem?_eq_none (by omega),List.getElem?_eq_none hge]
def Ln.sv (x:Ln):SV:=.agg [sI x.day,sI x.line,sI x.art,sI x.amount,.imm (yb x.facts),.imm (yb x.rests)]
def lnC (x:Ln):List SV:=[sI x.day,sI x.line,sI x.art,sI x.amount,.imm (yb x.facts),.imm (yb x.rests)]
def LH (c:Codex) (S:AM) (inF:List Int) (st am:List (Int × Int)) (B x:List SV) (U:List Bool):List SObj:=
 MH c S inF st am++[.cells [sI 0,sI 0,sI 0,sI 0,zjb,zjb]]++[.cells B]++[.cells x]++[.cells (U.map sB)]
theorem znf {c:Codex} {S:AM} {inF:List Int} {st am:List (Int × Int)} {B x:List SV} {U:List Bool} {N:Nat} (hN:7<=N) (hB:SV.under.allUnder N B=true) (hx:SV.under.allUnder N x=true):(LH c S inF st am B x U).all (SObj.under N)=true:=by
 have e1:SObj.under N (.cells B)=true:=hB;have e2:SObj.under N (.cells x)=true:=hx;have e3:SObj.under N (.cells (U.map sB))=true:=zfl N U;have e4:SObj.under N (.cells [sI 0,sI 0,sI 0,sI 0,zjb,zjb])=true:=rfl;rw [LH,List.all_append,List.all_append,List.all_append,List.all_append,zbt (m:=3) (n:=N) (by omega) (jj c S inF st am)];simp only [List.all_cons,List.all_nil,e1,e2,e3,e4];rfl
def zmn (S:AM) (U:List Bool) (n:Nat):List Int:=((List.range n).filter fun i=>U.getD i false&&S.has.getD i false).map fun i=>S.nums.getD i 0
theorem ygr (S:AM) (U:List Bool) (n:Nat):zmn S U (n+1)=zmn S U n++if (U.getD n false&&S.has.getD n false)=true then [S.nums.getD n 0] else []:=by
 unfold zmn;rw [List.range_succ,List.filter_append,List.map_append]
 by_cases h:(U.getD n false&&S.has.getD n false)=true
 ·rw [if_pos h]
  simp only [List.filter_cons,h,if_true,List.filter_nil,List.map_cons,List.map_nil]
 ·rw [if_neg h]
  simp only [List.filter_cons,h,List.filter_nil,List.map_nil];rfl
theorem zpr (S:AM) (U:List Bool) (n:Nat):(zmn S U n).length<=n:=by
 unfold zmn;have:=List.length_filter_le (fun i=>U.getD i false&&S.has.getD i false) (List.range n);simp only [List.length_map,List.length_range] at this ⊢;exact this
theorem ykw {c:Codex} {m:List (Int × Int)} {S:AM} (hS:AFit c S) (hM:MFit c m) (inF:List Int) (hin:∀o∈inF,0<=o/\o<c.arts.length) (hiz:inF.length<=1000000) (st am:List (Int × Int)) {v:Int} {a:Article} (hv:0<=v) (ha:c.arts[v.toNat]?=some a):
  SPre Tryz.prog G 69 [.ptr 0 0,sI v] (MH c S inF st am) (fun r H1=>r= .agg (lnC (zpc c S inF (st,am) v a))/\H1=MH c S inF st am):=by
 have hil:(inF.map fun n=>[dI n]).length=inF.length:=by simp
 have hwl:(a.when_.map Ex.cells).length=a.when_.length:=by simp
 have hhl:(S.has.map fun b=>[dB b]).length=S.has.length:=by simp
 have ham:=List.mem_of_getElem? ha;have hvl:=lt_of_getElem? ha;have hvn:v=(v.toNat:Int):=by omega
 have hwz:=(hM.fit a ham).len;refine qs Tryz.func69 rfl (by rw [Tryz.ntmps69];simp) rfl (jj c S inF st am) ?_;intro E hH hK;have hH3:E.H.length=3:=hH;have fin:∀X,E.K (.agg (lnC (zpc c S inF (st,am) v a))) (MH c S inF st am++X):=fun X=>hK _ _ (by show 3<=(MH c S inF st am++X).length;rw [List.length_append];show 3<=3+X.length;omega) rfl (jj c S inF st am) ⟨rfl,rfl⟩
 clear hK hH;obtain ⟨aop,an,au,ad,ap,ak,hma⟩:∃op n u den ps ks,a.amount= .mk op n u den ps ks:=by cases h:a.amount;exact ⟨_,_,_,_,_,_,rfl⟩
 have hrx:(c.arts.map Article.cells)[v.toNat]?=some a.cells:=by rw [List.getElem?_map,ha];rfl
 rw [zgw hma] at hrx;have hlk:∀(k:Int) (q:List (Int × Int)),((zv k q).map sI).getD (jc (.int .i64 0))=sI ((zv k q).getD 0):=fun k q=>by cases zv k q<;>rfl
 (refine zo [777,24] 1000 ?_;conv=>whnf);refine zi (i:=v.toNat) (row:=ynf a aop an au ad ap ak) rfl hvn hrx ?_;(refine zc ?_;conv=>whnf);refine zh [0,1,4,5] ?_;change SW E _ [(0,.ptr 0 0),(1,sI v),(4,.ptr 3 0),(5,.ptr 4 0)] (MH c S inF st am++[.cells [sI 0,sI 0,sI 0,sI 0,zjb,zjb]]++[.cells (qx a aop an au ad ap ak)]);(refine wk 1 mixed rfl ?_;refine zn [777,39] (nx:=5) ?_;conv=>whnf);have hla:=hlk a.number am;refine ykj (l:=am) (v:=sI ((zv a.number am).getD 0)) sI rfl rfl rfl rfl rfl rfl rfl rfl (show 5<=6 by decide) rfl hla ?_;(refine zn [777] (nx:=5) ?_;conv=>whnf);(refine ze ?_;conv=>whnf);refine zlu (n:=S.has.length) (zz:=sB false) rfl rfl rfl rfl rfl rfl rfl rfl rfl ⟨by decide,rfl⟩ rfl (by rw [<-hhl]) (by rw [<-hhl]) (by have:=hS.has;have:=hS.few;omega) ?_;have hBu:∀N,SV.under.allUnder N (qx a aop an au ad ap ak)=true:=fun N=>by
  have:=zhm a N;rw [zec hma] at this;exact this
 have hnf:=hS.has;have hnz:=hS.few;generalize hX:[sI S.day,sI a.line,sI v,sI ((zv a.number am).getD 0),zjb,zjb]=X0;have hXu:∀N,SV.under.allUnder N X0=true:=fun N=>by rw [<-hX];rfl
 refine (fun (hs:∀H2,H2=LH c S inF st am (qx a aop an au ad ap ak) X0 (List.replicate S.has.length false)->SWr E _ _ _ _ H2)=>hs _ (by rw [LH,List.map_replicate, <-hX];rfl)) ?_;rintro _ rfl;(refine zc ?_;conv=>whnf);have hua:ziy c a=zer a.when_ (zaj a.amount (List.replicate S.has.length false)):=by unfold ziy;rw [hnf]
 have hul:(List.replicate S.has.length false).length=S.has.length:=by simp
 generalize List.replicate S.has.length false=U0 at hua hul;have hmk:=ykv (G:=G) (hM.amt a ham).1 (hM.amt a ham).2 (used:=U0) (by omega) (H:=LH c S inF st am (qx a aop an au ad ap ak) X0 U0) (b:=6) rfl;have hul1:(zaj a.amount U0).length=S.has.length:=by rw [(zet _).1 a.amount (Nat.lt_succ_self _) U0];exact hul
 rw [hul] at hmk;generalize zaj a.amount U0=U1 at hmk hua hul1;rw [hma] at hmk;refine ye rfl rfl rfl rfl rfl rfl (hmk.mono ?_);rintro r9 H9 ⟨rfl,rfl⟩;refine ⟨by rw [List.length_set];exact Nat.le_refl _,?_⟩;refine (fun (hs:∀H2,H2=LH c S inF st am (qx a aop an au ad ap ak) X0 U1->SWr E _ _ _ _ H2)=>hs _ rfl) ?_;rintro _ rfl;clear hmk hul;(refine zc ?_;conv=>whnf);refine zh [0,1,4,5,6,7,52,53,54] ?_;change SW E _ [(0,.ptr 0 0),(1,sI v),(4,.ptr 3 0),(5,.ptr 4 0),(6,.ptr 5 0),(7,.osl 6 0 S.has.length),(52,.imm (qt a.when_)),(53,sI ((a.when_.map Ex.cells).length:Nat)),(54,sI (0:Nat))] (LH c S inF st am (qx a aop an au ad ap ak) X0 U1);rw [hwl];refine zp a.when_ (fun i (_:List Bool)=>[(0,.ptr 0 0),(1,sI v),(4,.ptr 3 0),(5,.ptr 4 0),(6,.ptr 5 0),(7,.osl 6 0 S.has.length),(52,.imm (qt a.when_)),(53,sI (a.when_.length:Nat)),(54,sI (i:Nat))]) (fun _ U=>LH c S inF st am (qx a aop an au ad ap ak) X0 U)
  (fun _ rest U=>U.length=S.has.length/\ziy c a=zer rest U) U1 ⟨hul1,hua⟩ ?_ ?_
 ·rintro U ⟨hUl,hU⟩
  have hU:ziy c a=U:=by rw [hU,zer]
  clear hua hul1 U1;have hfa:zgu S (ziy c a)=Go.Lib.compact (zbo (zmn S U U.length)):=by rw [hU];rfl
  change SW E _ [(0,.ptr 0 0),(1,sI v),(4,.ptr 3 0),(5,.ptr 4 0),(6,.ptr 5 0),(7,.osl 6 0 S.has.length),(52,.imm (qt a.when_)),(53,sI (a.when_.length:Nat)),(54,sI (a.when_.length:Nat))] (LH c S inF st am (qx a aop an au ad ap ak) X0 U);subst hX;(refine ze ?_;conv=>whnf)
  repeat' ((with_reducible refine way ?_ ?_)<;>(intro h;conv=>whnf))
  all_goals try (exfalso;omega)
  refine zkx 5 4 1 (cs:=[sI S.day,sI a.line,sI v,sI ((zv a.number am).getD 0),zjb,zjb]) rfl rfl ?_;refine zh [0,1,4,5,6,62,63,64] ?_;change SW E _ [(0,.ptr 0 0),(1,sI v),(4,.ptr 3 0),(5,.ptr 4 0),(6,.ptr 5 0),(62,.osl 6 0 S.has.length),(63,sI (S.has.length:Nat)),(64,sI (0:Nat))] (LH c S inF st am (qx a aop an au ad ap ak) [sI S.day,sI a.line,sI v,sI ((zv a.number am).getD 0),.vec 7 (zmn S U 0).length,zjb] U++[.vec 1 ((zmn S U 0).map sI)]);rw [<-hUl];refine zp U (fun i (_:List Int)=>[(0,.ptr 0 0),(1,sI v),(4,.ptr 3 0),(5,.ptr 4 0),(6,.ptr 5 0),(62,.osl 6 0 U.length),(63,sI (U.length:Nat)),(64,sI (i:Nat))])
   (fun _ fs=>LH c S inF st am (qx a aop an au ad ap ak) [sI S.day,sI a.line,sI v,sI ((zv a.number am).getD 0),.vec 7 fs.length,zjb] U++[.vec 1 (fs.map sI)]) (fun done _ fs=>fs=zmn S U done.length) (zmn S U 0) rfl ?_ ?_
  ·rintro fs rfl
   have hfl:=zpr S U U.length;generalize zmn S U U.length=fs at hfa hfl;change SW E _ [(0,.ptr 0 0),(1,sI v),(4,.ptr 3 0),(5,.ptr 4 0),(6,.ptr 5 0),(62,.osl 6 0 U.length),(63,sI (U.length:Nat)),(64,sI (U.length:Nat))] (LH c S inF st am (qx a aop an au ad ap ak) [sI S.day,sI a.line,sI v,sI ((zv a.number am).getD 0),.vec 7 fs.length,zjb] U++[SObj.vec 1 (fs.map sI)]);(refine ze ?_;conv=>whnf)
   repeat' ((with_reducible refine way ?_ ?_)<;>(intro h;conv=>whnf))
   all_goals try (exfalso;omega)
   refine ye rfl rfl rfl rfl rfl rfl ((zso G 7 fs _ rfl (by have:=hS.few;omega)).mono ?_);rintro r9 H9 ⟨rfl,rfl⟩;refine ⟨by rw [List.length_set];exact Nat.le_refl _,?_⟩;have hsl:fs.length=(zbo fs).length:=by simp
   refine (fun (hs:∀H2,H2=LH c S inF st am (qx a aop an au ad ap ak) [sI S.day,sI a.line,sI v,sI ((zv a.number am).getD 0),.vec 7 (zbo fs).length,zjb] U++[SObj.vec 1 ((zbo fs).map sI)]->SWr E _ _ _ _ H2)=>hs _ (by rw [<-hsl];rfl)) ?_;rintro _ rfl;have hfz:(zbo fs).length<=1073741824:=by have:=hS.few;omega
   generalize zbo fs=fs2 at hfa hfz;(refine zc ?_;conv=>whnf);refine ye rfl rfl rfl rfl rfl rfl ((zpk G 7 fs2 _ rfl hfz).mono ?_);rintro r9 H9 ⟨rfl,rfl⟩;refine ⟨by rw [List.length_set];exact Nat.le_refl _,?_⟩;rw [<-hfa];generalize hF:zgu S (ziy c a)=F;(refine zc ?_;conv=>whnf);refine zh [0,1,4,5,6,102,103,104] ?_;change SW E _ [(0,.ptr 0 0),(1,sI v),(4,.ptr 3 0),(5,.ptr 4 0),(6,.ptr 5 0),(102,.imm (yb inF)),(103,sI ((inF.map fun n=>[dI n]).length:Nat)),(104,sI (0:Nat))] (LH c S inF st am (qx a aop an au ad ap ak) [sI S.day,sI a.line,sI v,sI ((zv a.number am).getD 0),.imm (yb F),zjb] U++[SObj.dead]);rw [hil];refine zru 7 (by rw [hH3];decide) (by show 7<=8;decide) (by rfl) (znf (Nat.le_refl 7) (hBu 7) rfl) ?_;refine zkx 5 5 1 (cs:=[sI S.day,sI a.line,sI v,sI ((zv a.number am).getD 0),.imm (yb F),zjb]) rfl rfl ?_;change SW E _ [(0,.ptr 0 0),(1,sI v),(4,.ptr 3 0),(5,.ptr 4 0),(6,.ptr 5 0),(102,.imm (yb inF)),(103,sI (inF.length:Nat)),(104,sI (0:Nat))] (LH c S inF st am (qx a aop an au ad ap ak) [sI S.day,sI a.line,sI v,sI ((zv a.number am).getD 0),.imm (yb F),.vec 7 ([]:List Int).length] U++[SObj.vec 1 (([]:List Int).map sI)]);have hre:zjy c inF st a=inF.filter (fun o=>zsj a (ykb c o)&&decide ((zv o st).getD 0=2)):=rfl;have hlen8:∀rs:List Int,(LH c S inF st am (qx a aop an au ad ap ak) [sI S.day,sI a.line,sI v,sI ((zv a.number am).getD 0),.imm (yb F),.vec 7 rs.length] U++[SObj.vec 1 (rs.map sI)]).all (SObj.under 8)=true:=fun rs=>by
    have e1:SObj.under 8 (.vec 1 (rs.map sI))=true:=jp 8 rs;rw [List.all_append,znf (by omega) (hBu 8) rfl];simp only [List.all_cons,List.all_nil,e1];rfl
   refine zp inF (fun i (_:List Int)=>[(0,.ptr 0 0),(1,sI v),(4,.ptr 3 0),(5,.ptr 4 0),(6,.ptr 5 0),(102,.imm (yb inF)),(103,sI (inF.length:Nat)),(104,sI (i:Nat))])
    (fun _ rs=>LH c S inF st am (qx a aop an au ad ap ak) [sI S.day,sI a.line,sI v,sI ((zv a.number am).getD 0),.imm (yb F),.vec 7 rs.length] U++[SObj.vec 1 (rs.map sI)]) (fun done rest rs=>zjy c inF st a=rs++rest.filter (fun o=>zsj a (ykb c o)&&decide ((zv o st).getD 0=2))/\rs.length<=done.length) [] ⟨hre,Nat.le_refl 0⟩ ?_ ?_
   ·rintro rs ⟨hrs,hrl⟩
    rw [List.filter_nil,List.append_nil] at hrs;have hln:lnC (zpc c S inF (st,am) v a)=[sI S.day,sI a.line,sI v,sI ((zv a.number am).getD 0),.imm (yb F),.imm (yb rs)]:=by
     unfold lnC zpc;rw [hF,hrs]
    rw [hln] at fin;change SW E _ [(0,.ptr 0 0),(1,sI v),(4,.ptr 3 0),(5,.ptr 4 0),(6,.ptr 5 0),(102,.imm (yb inF)),(103,sI (inF.length:Nat)),(104,sI (inF.length:Nat))] (LH c S inF st am (qx a aop an au ad ap ak) [sI S.day,sI a.line,sI v,sI ((zv a.number am).getD 0),.imm (yb F),.vec 7 rs.length] U++[SObj.vec 1 (rs.map sI)]);refine zlv 5 5 7 rs.length 1 (cs0:=[sI S.day,sI a.line,sI v,sI ((zv a.number am).getD 0),.imm (yb F),.vec 7 rs.length]) (cs:=rs.map sI) (ds:=rs.map dI) rfl rfl rfl (znd rs) (zne rs) (by simp) (Nat.le_refl 1) ?_;rw [zfn];(refine ze ?_;conv=>whnf)
    repeat' ((with_reducible refine way ?_ ?_)<;>(intro h;conv=>whnf))
    all_goals try (exfalso;omega)
    exact fin _
   ·rintro di o ri rs hdi hdli ⟨hrs,hrl⟩ ih4
    have hor:=hin o (by rw [hdi];simp);obtain ⟨b,hb⟩:∃b,c.arts[o.toNat]?=some b:=⟨_,List.getElem?_eq_getElem (by omega)⟩;have hbm:=List.mem_of_getElem? hb;have hob:zcl c o=some b:=by unfold zcl;rw [if_neg (by omega)];exact hb
    have hon:o=(o.toNat:Int):=by omega
    have hnum:ykb c o=b.number:=by unfold ykb;rw [hob]
    have hw4:=zk (n:=di.length) (by omega);have hri:(inF.map fun n=>[dI n])[di.length]?=some [dI o]:=by rw [hdi];simp
    rw [List.filter_cons,hnum] at hrs
    have ih4:=fun rs' (h:(if (zsj a b.number&&decide ((zv o st).getD 0=2))=true then rs++[o] else rs)=rs')=>ih4 rs' ⟨by
     rw [hrs, <-h]
     split<;>simp,by rw [<-h];split<;>simp<;>omega⟩
    clear hrs;obtain ⟨bop,bn,bu,bd,bp,bk,hmb⟩:∃op n u den ps ks,b.amount= .mk op n u den ps ks:=by cases h:b.amount;exact ⟨_,_,_,_,_,_,rfl⟩
    have hrb:(c.arts.map Article.cells)[o.toNat]?=some b.cells:=by rw [List.getElem?_map,hb];rfl
    rw [zgw hmb] at hrb;have hnm:zsj a b.number=(decide (b.number∈wd a.amount)||a.when_.any fun w=>decide (b.number∈wd w)):=by
     unfold zsj;rw [zhl]
    rw [hnm] at ih4;clear hnm;have c3:=zcq G b.number _ a.amount (Nat.lt_succ_self _) (hM.fit a ham).amt;rw [hma] at c3 ih4;generalize decide (b.number∈wd (.mk aop an au ad ap ak))=z3 at c3 ih4;change SW E _ [(0,.ptr 0 0),(1,sI v),(4,.ptr 3 0),(5,.ptr 4 0),(6,.ptr 5 0),(102,.imm (yb inF)),(103,sI (inF.length:Nat)),(104,sI (di.length:Nat))] (LH c S inF st am (qx a aop an au ad ap ak) [sI S.day,sI a.line,sI v,sI ((zv a.number am).getD 0),.imm (yb F),.vec 7 rs.length] U++[SObj.vec 1 (rs.map sI)]);(refine ze ?_;conv=>whnf)
    repeat' ((with_reducible refine way ?_ ?_)<;>(intro h;conv=>whnf))
    all_goals try (exfalso;omega)
    refine zi (i:=di.length) (row:=[dI o]) rfl rfl hri ?_;(refine zj [777,114] 1000 ?_;conv=>whnf);refine zi (i:=o.toNat) (row:=ynf b bop bn bu bd bp bk) rfl hon hrb ?_;(refine zc ?_;conv=>whnf);refine zd rfl  c3 ?_;(refine zc ?_;conv=>whnf);refine zh [0,1,4,5,6,13,14,15,102,103,104,122,123,124] ?_;change SW E _ [(0,.ptr 0 0),(1,sI v),(4,.ptr 3 0),(5,.ptr 4 0),(6,.ptr 5 0),(13,sI o),(14,sI b.number),(15,sB z3),(102,.imm (yb inF)),(103,sI (inF.length:Nat)),(104,sI (di.length:Nat)),(122,.imm (qt a.when_)),(123,sI ((a.when_.map Ex.cells).length:Nat)),(124,sI (0:Nat))] (LH c S inF st am (qx a aop an au ad ap ak) [sI S.day,sI a.line,sI v,sI ((zv a.number am).getD 0),.imm (yb F),.vec 7 rs.length] U++[SObj.vec 1 (rs.map sI)]);rw [hwl];refine zp a.when_ (fun i (nm:Bool)=>[(0,.ptr 0 0),(1,sI v),(4,.ptr 3 0),(5,.ptr 4 0),(6,.ptr 5 0),(13,sI o),(14,sI b.number),(15,sB nm),(102,.imm (yb inF)),(103,sI (inF.length:Nat)),(104,sI (di.length:Nat)),(122,.imm (qt a.when_)),(123,sI (a.when_.length:Nat)),(124,sI (i:Nat))]) (fun _ _=>LH c S inF st am (qx a aop an au ad ap ak) [sI S.day,sI a.line,sI v,sI ((zv a.number am).getD 0),.imm (yb F),.vec 7 rs.length] U++[SObj.vec 1 (rs.map sI)])
     (fun _ rest nm=>(z3||a.when_.any fun w=>decide (b.number∈wd w))=(nm||rest.any fun w=>decide (b.number∈wd w))) z3 rfl ?_ ?_
    ·rintro nm hnm
     have hnm:(z3||a.when_.any fun w=>decide (b.number∈wd w))=nm:=by rw [hnm];exact Bool.or_false nm
     rw [hnm] at ih4;clear hnm;have hlv:=hlk o st;generalize (zv o st).getD 0=x at hlv ih4;change SW E _ [(0,.ptr 0 0),(1,sI v),(4,.ptr 3 0),(5,.ptr 4 0),(6,.ptr 5 0),(13,sI o),(14,sI b.number),(15,sB nm),(102,.imm (yb inF)),(103,sI (inF.length:Nat)),(104,sI (di.length:Nat)),(122,.imm (qt a.when_)),(123,sI (a.when_.length:Nat)),(124,sI (a.when_.length:Nat))] (LH c S inF st am (qx a aop an au ad ap ak) [sI S.day,sI a.line,sI v,sI ((zv a.number am).getD 0),.imm (yb F),.vec 7 rs.length] U++[SObj.vec 1 (rs.map sI)]);cases nm with
     |false=>
      have ih4:=ih4 rs (if_neg (by simp));(refine ze ?_;conv=>whnf)
      repeat' ((with_reducible refine way ?_ ?_)<;>(intro h;conv=>whnf))
      all_goals try (exfalso;omega)
      rw [hw4];exact zh [0,1,4,5,6,102,103,104] ih4
     |true=>
      (refine zo [777,142] 1000 ?_;conv=>whnf)
      repeat' ((with_reducible refine way ?_ ?_)<;>(intro h;conv=>whnf))
      all_goals try (exfalso;omega)
      refine zjo (l:=st) (v:=sI x) sI rfl rfl rfl rfl rfl rfl rfl rfl rfl hlv ?_;(refine zj [777,149] 1000 ?_;conv=>whnf)
      repeat' ((with_reducible refine way ?_ ?_)<;>(intro h;conv=>whnf))
      ·have ih4:=ih4 (rs++[o]) (if_pos (by rw [decide_eq_true ‹x=2›];rfl))
       refine zoi (b:=7) (n:=rs.length) (kk:=1) (cs:=rs.map sI) (new:=[[dI o]]) rfl rfl rfl rfl rfl rfl rfl rfl rfl rfl ⟨by decide,rfl⟩ rfl (by simp) (Nat.le_refl 1) (Nat.le_refl 1) (by show rs.length+1<=_;omega) ?_;(refine zc ?_;conv=>whnf);refine (fun (hs:∀H2,H2=LH c S inF st am (qx a aop an au ad ap ak) [sI S.day,sI a.line,sI v,sI ((zv a.number am).getD 0),.imm (yb F),.vec 7 (rs++[o]).length] U++[SObj.vec 1 ((rs++[o]).map sI)]->SW E _ _ H2)=>hs _ (by rw [List.length_append,List.map_append];rfl)) ?_;rintro _ rfl;rw [hw4];exact zh [0,1,4,5,6,102,103,104] ih4
      ·have ih4:=ih4 rs (if_neg (by rw [decide_eq_false ‹¬x=2›];simp))
       rw [hw4];exact zh [0,1,4,5,6,102,103,104] ih4
    ·rintro dw w rw_ nm hdw hdlw hnm ih5
     have hw5:=zk (n:=dw.length) (by omega);have hwm:w∈a.when_:=by rw [hdw];simp
     have c5:=zcq G b.number _ w (Nat.lt_succ_self _) (zav (hM.fit a ham).exs w hwm)
     have ih5:=fun nm' (h:(nm||decide (b.number∈wd w))=nm')=>ih5 nm' (by
      rw [hnm, <-h,List.any_cons,Bool.or_assoc])
     clear hnm ih4;have hrw:(a.when_.map Ex.cells)[dw.length]?=some w.cells:=by rw [hdw];simp
     generalize decide (b.number∈wd w)=zw at c5 ih5;obtain ⟨xo,xn,xu,xd,xp,xk⟩:=w;change SW E _ [(0,.ptr 0 0),(1,sI v),(4,.ptr 3 0),(5,.ptr 4 0),(6,.ptr 5 0),(13,sI o),(14,sI b.number),(15,sB nm),(102,.imm (yb inF)),(103,sI (inF.length:Nat)),(104,sI (di.length:Nat)),(122,.imm (qt a.when_)),(123,sI (a.when_.length:Nat)),(124,sI (dw.length:Nat))] (LH c S inF st am (qx a aop an au ad ap ak) [sI S.day,sI a.line,sI v,sI ((zv a.number am).getD 0),.imm (yb F),.vec 7 rs.length] U++[SObj.vec 1 (rs.map sI)]);cases nm with
     |true=>
      have ih5:=ih5 true rfl;(refine ze ?_;conv=>whnf)
      repeat' ((with_reducible refine way ?_ ?_)<;>(intro h;conv=>whnf))
      all_goals try (exfalso;omega)
      refine zi (i:=dw.length) (row:=(Ex.mk xo xn xu xd xp xk).cells) rfl rfl hrw ?_;(refine zc ?_;conv=>whnf);rw [hw5];exact ys [0,1,4,5,6,13,14,15,102,103,104,122,123,124] 8 (by rw [hH3];decide) (by show 8<=9;decide) (by rfl) (hlen8 rs) ih5
     |false=>
      have ih5:=ih5 zw rfl;(refine ze ?_;conv=>whnf)
      repeat' ((with_reducible refine way ?_ ?_)<;>(intro h;conv=>whnf))
      all_goals try (exfalso;omega)
      refine zi (i:=dw.length) (row:=(Ex.mk xo xn xu xd xp xk).cells) rfl rfl hrw ?_;(refine zc ?_;conv=>whnf);refine zd rfl  c5 ?_;(refine zc ?_;conv=>whnf);rw [hw5];exact ys [0,1,4,5,6,13,14,15,102,103,104,122,123,124] 8 (by rw [hH3];decide) (by show 8<=9;decide) (by rfl) (hlen8 rs) ih5
  ·rintro du u ru fs hdu hdlu rfl ih3
   have hw3:=zk (n:=du.length) (by omega);have hui:U[du.length]?=some u:=by rw [hdu];simp
   have hug:U.getD du.length false=u:=by rw [List.getD_eq_getElem?_getD,hui];rfl
   have hUm:(U.map sB)[0+du.length*1]?=some (sB u):=by rw [Nat.zero_add,Nat.mul_one,List.getElem?_map,hui];rfl
   have hhr:=zxy (l:=S.has) (n:=(du.length:Int)) (by omega) (by omega);have hnr:=yea (l:=S.nums) (n:=(du.length:Int)) (by omega) (by have:=hS.nums;omega);rw [Int.toNat_natCast] at hhr hnr;have ih3:=ih3 _ (by rw [List.length_append,List.length_singleton]);rw [ygr,hug] at ih3;have hfl:=zpr S U du.length;have hul:=hUl;generalize zmn S U du.length=fs at ih3 hfl;generalize S.has.getD du.length false=hb at hhr ih3;generalize S.nums.getD du.length 0=nn at hnr ih3;have hu8:∀fs:List Int,(LH c S inF st am (qx a aop an au ad ap ak) [sI S.day,sI a.line,sI v,sI ((zv a.number am).getD 0),.vec 7 fs.length,zjb] U++[SObj.vec 1 (fs.map sI)]).all (SObj.under 8)=true:=fun fs=>by
    have e1:SObj.under 8 (.vec 1 (fs.map sI))=true:=jp 8 fs;rw [List.all_append,znf (by omega) (hBu 8) rfl];simp only [List.all_cons,List.all_nil,e1];rfl
   change SW E _ [(0,.ptr 0 0),(1,sI v),(4,.ptr 3 0),(5,.ptr 4 0),(6,.ptr 5 0),(62,.osl 6 0 U.length),(63,sI (U.length:Nat)),(64,sI (du.length:Nat))] (LH c S inF st am (qx a aop an au ad ap ak) [sI S.day,sI a.line,sI v,sI ((zv a.number am).getD 0),.vec 7 fs.length,zjb] U++[SObj.vec 1 (fs.map sI)]);(refine zo [777,67] 1000 ?_;conv=>whnf)
   repeat' ((with_reducible refine way ?_ ?_)<;>(intro h;conv=>whnf))
   all_goals try (exfalso;omega)
   refine zap (i:=du.length) rfl rfl rfl rfl rfl rfl rfl rfl (by omega) ?_;refine xz (b:=6) (cs:=U.map sB) (v:=sB u) rfl rfl rfl rfl rfl hUm ?_;cases u with
   |false=>
    rw [if_neg (by simp),List.append_nil] at ih3;(refine zc ?_;conv=>whnf);rw [hw3];exact zh [0,1,4,5,6,62,63,64] ih3
   |true=>
    (refine zj [777,76] 1000 ?_;conv=>whnf);refine zi (i:=du.length) (row:=[dB hb]) rfl rfl hhr ?_;cases hb with
    |false=>
     rw [if_neg (by simp),List.append_nil] at ih3;(refine zc ?_;conv=>whnf);rw [hw3];exact zh [0,1,4,5,6,62,63,64] ih3
    |true=>
     rw [if_pos (show (true&&true)=true from rfl)] at ih3;(refine zc ?_;conv=>whnf);refine zh [0,1,4,5,6,10,62,63,64] ?_;change SW E _ [(0,.ptr 0 0),(1,sI v),(4,.ptr 3 0),(5,.ptr 4 0),(6,.ptr 5 0),(10,sI (du.length:Nat)),(62,.osl 6 0 U.length),(63,sI (U.length:Nat)),(64,sI (du.length:Nat))] (LH c S inF st am (qx a aop an au ad ap ak) [sI S.day,sI a.line,sI v,sI ((zv a.number am).getD 0),.vec 7 fs.length,zjb] U++[SObj.vec 1 (fs.map sI)]);(refine wk 0 mixed rfl ?_;refine zn [777,86] (nx:=8) ?_;conv=>whnf);refine qg (i:=du.length) (row:=[dI nn]) rfl (show 8<=8 by decide) rfl hnr ?_;(refine zn [777,89] (nx:=8) ?_;conv=>whnf);refine yae (b:=7) (n:=fs.length) (kk:=1) (cs:=fs.map sI) (new:=[[dI nn]]) rfl rfl rfl rfl rfl rfl rfl rfl rfl rfl ⟨by decide,rfl⟩ (show 8<=8 by decide) rfl (by simp) (Nat.le_refl 1) (Nat.le_refl 1) (by show fs.length+1<=_;omega) ?_;(refine zn [777,999] (nx:=8) ?_;conv=>whnf);refine yv (b:=5) (off:=4) (v:=.vec 7 (fs.length+1)) (d:=[sI S.day,sI a.line,sI v,sI ((zv a.number am).getD 0)]) (zz:=.vec 7 fs.length) (r:=[zjb]) rfl rfl rfl rfl rfl rfl rfl rfl (show 8<=8 by decide) rfl rfl ?_;refine jh (by kernel_rfl) ?_;refine (fun (hs:∀H2,H2=LH c S inF st am (qx a aop an au ad ap ak) [sI S.day,sI a.line,sI v,sI ((zv a.number am).getD 0),.vec 7 (fs++[nn]).length,zjb] U++[SObj.vec 1 ((fs++[nn]).map sI)]->SW E _ _ H2)=>hs _ (by rw [List.length_append,List.map_append];rfl)) ?_;rintro _ rfl;(refine ze ?_;conv=>whnf);rw [hw3];exact zh [0,1,4,5,6,62,63,64] ih3
 ·rintro dw w rw_ U hdw hdlw ⟨hUl,hU⟩ ih2
  rw [zer] at hU;have hw2:=zk (n:=dw.length) (by omega);have hwm:w∈a.when_:=by rw [hdw];simp
  have hmk:=ykv (G:=G) (hM.whn a ham w hwm).1 (hM.whn a ham w hwm).2 (used:=U) (by omega) (H:=LH c S inF st am (qx a aop an au ad ap ak) X0 U++[.cells (w.cells.map .imm)]) (b:=6) rfl;have hul2:(zaj w U).length=S.has.length:=by rw [(zet _).1 w (Nat.lt_succ_self _) U];exact hUl
  have ih2:=ih2 _ ⟨hul2,hU⟩;rw [hUl] at hmk;have hrw:(a.when_.map Ex.cells)[dw.length]?=some w.cells:=by rw [hdw];simp
  generalize zaj w U=U2 at hmk ih2;obtain ⟨xo,xn,xu,xd,xp,xk⟩:=w;change SW E _ [(0,.ptr 0 0),(1,sI v),(4,.ptr 3 0),(5,.ptr 4 0),(6,.ptr 5 0),(7,.osl 6 0 S.has.length),(52,.imm (qt a.when_)),(53,sI (a.when_.length:Nat)),(54,sI (dw.length:Nat))] (LH c S inF st am (qx a aop an au ad ap ak) X0 U);(refine ze ?_;conv=>whnf)
  repeat' ((with_reducible refine way ?_ ?_)<;>(intro h;conv=>whnf))
  all_goals try (exfalso;omega)
  refine zi (i:=dw.length) (row:=(Ex.mk xo xn xu xd xp xk).cells) rfl rfl hrw ?_;(refine zc ?_;conv=>whnf);refine (fun (hs:∀H2,H2=LH c S inF st am (qx a aop an au ad ap ak) X0 U++[.cells ((Ex.mk xo xn xu xd xp xk).cells.map .imm)]->SWr E _ _ _ _ H2)=>hs _ rfl) ?_;rintro _ rfl;refine ye rfl rfl rfl rfl rfl rfl (hmk.mono ?_);rintro r9 H9 ⟨rfl,rfl⟩;refine ⟨by rw [List.length_set];exact Nat.le_refl _,?_⟩;refine (fun (hs:∀H2,H2=LH c S inF st am (qx a aop an au ad ap ak) X0 U2++[.cells ((Ex.mk xo xn xu xd xp xk).cells.map .imm)]->SWr E _ _ _ _ H2)=>hs _ rfl) ?_;rintro _ rfl;(refine zc ?_;conv=>whnf);rw [hw2];exact ys [0,1,4,5,6,7,52,53,54] 7 (by rw [hH3];decide) (by show 7<=8;decide) (by rfl) (znf (Nat.le_refl 7) (hBu 7) (hXu 7)) ih2
open Go Go.Sh Go.RowKit
theorem ygs (b n:Nat) (p:Value) (T:Nat) (w:World) (hbk:w.heap[b]?=some (.cells #[p,.slice none 0 0] T (0,0))) (hn:n<=281474976710656):
  Calls Tryz.prog 194 #[.pointer (some ⟨b,0,none⟩),.int .i64 n] w fun e w'=>e= .returned (.tuple #[])/\
   ∃cs:Array Value,n<=cs.size/\cs.size<=maxLen/\w'=((w.setCell ⟨b,1,none⟩ (.slice (some ⟨w.heap.size,0,none⟩) 0 cs.size)).alloc (.cells cs 5)).drew.drew.drew:=by
 obtain ⟨cs,hrun,hle,hmax⟩:=Lib.run_makeNoZero (P:=Tryz.prog) w.drew #[3] 159 5 rfl n hn;have hw:IntKind.i64.wrap (IntKind.i64.wrap 0+(n:Int))=n:=by
  rw [IntKind.wrap_i64,IntKind.wrap_i64];omega
 have hcall:(callFunc 210 #[.int .i64 (IntKind.i64.wrap (IntKind.i64.wrap 0+(n:Int)))]).run Tryz.prog w.drew= .ok (.value (.slice (some ⟨w.drew.heap.size,0,none⟩) n cs.size)) (w.drew.drew.drew.alloc (.cells cs 5)):=by
  rw [hw,run_callFunc_extern Tryz.func210 (by kernel_rfl) (by kernel_rfl) (by kernel_rfl) (e:=Extern.BytealgMakeNoZero.makeNoZero #[3] #[159]) (by kernel_rfl),hrun];rfl
 have hlt:b<w.heap.size:=by
  rcases Nat.lt_or_ge b w.heap.size with h'|h'
  ·exact h'
  ·simp [Array.getElem?_eq_none h'] at hbk
 have c1:w.drew.cell? ⟨b,1,none⟩=some (.slice none 0 0):=by
  have:w.drew.heap[b]?=_:=hbk;rw [Lib.cell_of_heap this];rfl
 have c2:(w.alloc (.cells cs 5)).cell? ⟨b,1,none⟩=some (.slice none 0 0):=by
  have:(w.alloc (.cells cs 5)).heap[b]?=_:=(Lib.alloc_old w _ b hlt).trans hbk;rw [Lib.cell_of_heap this];rfl
 have f2:(w.alloc (.cells cs 5)).frozen? ⟨b,1,none⟩=false:=Lib.frozen_of_heap ((Lib.alloc_old w _ b hlt).trans hbk) 1;have hcopy:∀W:World,(Builtin.copy_ #[159,159] 3 #[.slice (some ⟨w.heap.size,0,none⟩) 0 cs.size,.slice none 0 0]).run Tryz.prog W= .ok (goInt 0) W:=
  fun W=>run_copy_none W 159 159 3 5 _ _ 0 cs.size 0 0 rfl (by kernel_rfl) rfl
 clear hw;have mixed:=mixed;have hm:=hmax (by unfold maxLen;omega)
 go_enter Tryz.func194,Tryz.ntmps194
 go_wp2
 go_region_o
 all_goals (go_wp2;go_end0;exact ⟨rfl,cs,hle,hm,rfl⟩)
variable (G:List (Nat × D))
theorem ygt (x:Nat) (c:UInt8) (hx:x<18446744073709551616):zq Tryz.prog G 123 [yy x,.imm (dU8 c)] (yy (zbn x c.toNat)):=by
 refine zg Tryz.func123 rfl (by rw [Tryz.ntmps123];simp) rfl rfl ?_;intro E hH hK;have hb:c.toNat<18446744073709551616:=Nat.lt_trans c.toNat_lt (by decide);(refine ze ?_;conv=>whnf);rw [yfw hb,ynb hx hb,yub,ywq,ynb (Nat.mod_lt _ (by decide)) (zgl _ (Nat.mod_lt _ (by decide)))];exact hK _
theorem ybh (x:Nat) (hx:x<18446744073709551616):zq Tryz.prog G 124 [yy x] (yy (mix x 2147483648 13787848793156543929)):=by
 refine zg Tryz.func124 rfl (by rw [Tryz.ntmps124];simp) rfl rfl ?_;intro E hH hK;(refine ze ?_;conv=>whnf);rw [ywo,yue hx,yuc];exact hK _
theorem zyd (x:Nat) (hx:x<18446744073709551616):zq Tryz.prog G 125 [yy x] (yy (mix x 134217728 10723151780598845931)):=by
 refine zg Tryz.func125 rfl (by rw [Tryz.ntmps125];simp) rfl rfl ?_;intro E hH hK;(refine ze ?_;conv=>whnf);rw [ywp,yuf hx,yud];exact hK _
theorem jy (s:ByteArray) (hs:s.size<=9223372036854775807):zq Tryz.prog G 79 [sS s] (yy (wx s)):=by
 have hl:=zjs s;refine zg Tryz.func79 rfl (by rw [Tryz.ntmps79];simp) rfl rfl ?_;intro E hH hK;(refine ze ?_;conv=>whnf);refine zh [0,3,7,8] ?_;change SW E _ [(0,sS s),(3,yy 2611923443488327891),(7,sI s.size),(8,sI (0:Nat))] [];unfold wx at hK;have hz:2611923443488327891<18446744073709551616:=by decide
 generalize (2611923443488327891:Nat)=z0 at hK hz ⊢;refine Eq.mpr (congrArg (fun n:Nat=>SW E _ [(0,sS s),(3,yy z0),(7,sI n),(8,sI (0:Nat))] []) hl.symm) ?_;refine zp s.data.toList (fun i x=>[(0,sS s),(3,yy x),(7,sI s.data.toList.length),(8,sI i)]) (fun _ _=>[]) (fun _ rest x=>x<18446744073709551616/\yab z0 s.data.toList=yab x rest) z0 ⟨hz,rfl⟩ ?_ ?_
 ·rintro x ⟨h1,h2⟩
  have h2:yab z0 s.data.toList=x:=h2;rw [h2] at hK;have hsz:s.size<18446744073709551616:=by omega
  have hx:=yde h1 hsz;have c1:=ybh G (x ^^^ s.size) hx;have c2:=zyd G (mix (x ^^^ s.size) 2147483648 13787848793156543929) (zwp _ _ _);(refine ze ?_;conv=>whnf)
  repeat' ((with_reducible refine way ?_ ?_)<;>(intro h;conv=>whnf))
  all_goals try (exfalso;omega)
  rw [yfw hsz,ynb h1 hsz];refine zd rfl  c1 ?_;(refine zc ?_;conv=>whnf);refine zd rfl  c2 ?_;(refine zc ?_;conv=>whnf);refine Eq.mpr (congrArg (fun a:Int=>E.K (.imm (.val (.int .u64 a))) []) ?_) (hK []);rw [ywr,ynb (zwp _ _ _) (zgl _ (zwp _ _ _))];rfl
 ·rintro done b rest x hda hdl ⟨h1,h2⟩ ih
  have hw:=zk (n:=done.length) (by omega);have hget:s.data.toList[done.length]?=some b:=by rw [hda];simp
  have hnext:=ih (zbn x b.toNat) ⟨ydf _ _,h2⟩;have c1:=ygt G x b h1;(refine ze ?_;conv=>whnf)
  repeat' ((with_reducible refine way ?_ ?_)<;>(intro h;conv=>whnf))
  all_goals try (exfalso;omega)
  refine zba rfl rfl rfl rfl rfl rfl  hget ?_;(refine zc ?_;conv=>whnf);refine zd rfl  c1 ?_;(refine zc ?_;conv=>whnf);rw [hw];exact zh [0,3,7,8] hnext
end Go.Proofs.YtjnddlifnkgncaaGreatDoor
namespace Go.Sh
section
variable {P:Program} {G:List (Nat × D)} {fn:Func} {rd:Bool} {E:En P G fn rd} {t:List (Nat × SV)} {H:List SObj} {k:List Item} {all:Array Oper} {rest:List Oper} {o:Oper}
theorem ygu {ty e n len off i:Nat} {x ix:Operand} {cells:List D} {mm:Int} {kk:IntKind} (hop:o.op= .indexAddr ty x ix)
  (hw:zt all t o.guard=some true) (hd:zy fn.ntmps o.dst=true) (hx:zl G t x= .imm (.row cells off)) (hi:zl G t ix= .imm (.val (.int kk mm)))
  (hu:P.underlying ty=some (.array len e)) (hn:xj P e=some n) (hmm:mm=(i:Int)) (hr:i<len)
  (h:SWr E all rest k (xg t o.dst (.imm (.row cells (off+i*n)))) H):SWr E all (o::rest) k t H:=by
 refine qo hw hd (r:=.imm (.row cells (off+i*n))) ?_ (Nat.le_refl _) h;subst hmm;rw [hop];simp only [sop,hi,jo,hu,hn,hx];rw [if_pos (by omega)];simp
theorem ybi {ty off:Nat} {x:Operand} {cells:List D} {d:D} (hop:o.op= .load ty x)
  (hw:zt all t o.guard=some true) (hd:zy fn.ntmps o.dst=true) (hx:zl G t x= .imm (.row cells off)) (hp:yqy P ty=some false) (hr:cells[off]?=some d)
  (h:SWr E all rest k (xg t o.dst (.imm d)) H):SWr E all (o::rest) k t H:=by
 refine qo hw hd (r:=.imm d) ?_ (Nat.le_refl _) h;rw [hop];simp only [sop,hx,zan,zij,hp,List.getElem?_map,hr];rfl
theorem zmb {ty e n len b off:Nat} {x:Operand} (hx:zl G t x= .ptr b off) (hu:P.underlying ty=some (.array len e)) (hn:xj P e=some n) (hlen:len<=maxLen) (H:List SObj):
  sop P (.slice ty x none none none) (zl G t) H=some (.osl b off len,H):=by
 simp only [sop,Option.map_none,zlo,hu,hx,hn,if_pos hlen,Option.map_some]
theorem zmc {ty e n len b off:Nat} {x:Operand} (hop:o.op= .slice ty x none none none) (hw:zt all t o.guard=some true) (hd:zy fn.ntmps o.dst=true) (hx:zl G t x= .ptr b off)
  (hu:P.underlying ty=some (.array len e)) (hn:xj P e=some n) (hlen:len<=maxLen) (h:SWr E all rest k (xg t o.dst (.osl b off len)) H):SWr E all (o::rest) k t H:=
 qo hw hd (by rw [hop];exact zmb hx hu hn hlen H) (Nat.le_refl _) h
theorem zmd {ty e n len b off:Nat} {x:Operand} (hop:o.op= .slice ty x none none none) (hw:zt all t o.guard=some true) (hd:zy fn.ntmps o.dst=true) (hx:zl G t x= .ptr b off)
  (hu:P.underlying ty=some (.array len e)) (hn:xj P e=some n) (hlen:len<=maxLen) (h:SWd E all rest k (xg t o.dst (.osl b off len)) H):SWd E all (o::rest) k t H:=
 zlq hw hd (by rw [hop];exact zmb hx hu hn hlen H) h
theorem zss {s d e:TypeId} {b n:Nat} {ns:List Int} (hb:H[b]?=some (.cells (ns.map fun i=>.imm (.val (.int .u8 i))))) (hn:n=ns.length) (hs:P.underlying s=some (.slice e)) (hde:P.underlying e=some (.int .u8)) (hdd:P.underlying d=some .string):
  zef P s d H (.osl b 0 n)=some (.string (zaz ns)):=by
 simp only [zef,hs,hde,hdd,hb,znr,hn,if_true]
theorem zst {s d e:TypeId} {x:Operand} {b n:Nat} {ns:List Int} (hop:o.op= .convert s d x) (hw:zt all t o.guard=some true) (hd:zy fn.ntmps o.dst=true)
  (hx:zl G t x= .osl b 0 n) (hb:H[b]?=some (.cells (ns.map fun i=>.imm (.val (.int .u8 i))))) (hn:n=ns.length) (hs:P.underlying s=some (.slice e)) (hde:P.underlying e=some (.int .u8)) (hdd:P.underlying d=some .string)
  (h:SWr E all rest k (xg t o.dst (.imm (.val (.string (zaz ns))))) H):SWr E all (o::rest) k t H:=
 qo hw hd (by rw [hop];simp only [sop,hx,zss hb hn hs hde hdd,Option.map_some]) (Nat.le_refl _) h
theorem zsu {s d e:TypeId} {x:Operand} {b n:Nat} {ns:List Int} (hop:o.op= .convert s d x) (hw:zt all t o.guard=some true) (hd:zy fn.ntmps o.dst=true)
  (hx:zl G t x= .osl b 0 n) (hb:H[b]?=some (.cells (ns.map fun i=>.imm (.val (.int .u8 i))))) (hn:n=ns.length) (hs:P.underlying s=some (.slice e)) (hde:P.underlying e=some (.int .u8)) (hdd:P.underlying d=some .string)
  (h:SWd E all rest k (xg t o.dst (.imm (.val (.string (zaz ns))))) H):SWd E all (o::rest) k t H:=
 zlq hw hd (by rw [hop];simp only [sop,hx,zss hb hn hs hde hdd,Option.map_some]) h
theorem zdf (h:SW E k (t.map fun x=>(x.1,x.2.solid)) H):SW E k t H:=
 ⟨fun a w I β cs hs=>h.run a w I β cs ⟨hs.heap,fun n=>by rw [zrw];exact (hs.tmps n).solid,hs.size,hs.defers,hs.ext,hs.hlen⟩⟩
end
end Go.Sh
namespace Go.Proofs.YtjnddlifnkgncaaGreatDoor
open Go Go.Sh
def yss:D:=.row (([48,49,50,51,52,53,54,55,56,57,97,98,99,100,101,102]:List UInt8).map dU8) 0
def ywf:D:=.row (([4,9]:List Int).map dI) 0
def G37:List (Nat × D):=[(2,.tab (Lib.pow10Tab.map fun z=>Value.int .u64 z)),(0,ywf),(1,yss)]
abbrev bS (c:UInt8):SV:=.imm (dU8 c)
theorem ykx:∀x,x<16->((([48,49,50,51,52,53,54,55,56,57,97,98,99,100,101,102]:List UInt8).map dU8))[0+x*1]?=some (dU8 (ync x)):=by
 intro x hx;have:x=0\/x=1\/x=2\/x=3\/x=4\/x=5\/x=6\/x=7\/x=8\/x=9\/x=10\/x=11\/x=12\/x=13\/x=14\/x=15:=by omega
 rcases this with rfl|rfl|rfl|rfl|rfl|rfl|rfl|rfl|rfl|rfl|rfl|rfl|rfl|rfl|rfl|rfl<;>rfl
theorem yky (d i:Nat) (h:i<16):(zxb d).drop (15-i)=ync (d / 16 ^ i % 16)::(zxb d).drop (16-i):=by
 have hl:(zxb d).length=16:=by simp [zxb,zsa]
 rw [List.drop_eq_getElem_cons (by omega)]
 congr 1
 ·simp only [zxb,zsa,List.getElem_map,List.getElem_range,nib]
  rw [show 15-(15-i)=i by omega]
 ·rw [show 15-i+1=16-i by omega]
theorem sh4 (a:Nat):(a:Int).fdiv (2 ^ min (Int.toNat 4) IntKind.u64.bits)=((a / 16:Nat):Int):=ytp a rfl
theorem yqq (l:List UInt8):∀b:ByteArray,(l.map fun c=>(c.toNat:Int)).foldl (fun r n=>r.push (UInt8.ofNat n.toNat)) b=⟨b.data++l.toArray⟩:=by
 induction l with
 |nil=>intro b;simp
 |cons x l ih=>
  intro b;rw [List.map_cons,List.foldl_cons,ih]
  congr 1
  show b.data.push _++_=_;simp
theorem zps (d:Nat) (hd:d<18446744073709551616):zq Tryz.prog G37 89 [yy d] (sS (zea d)):=by
 have hl:(zxb d).length=16:=by simp [zxb,zsa]
 refine zg Tryz.func89 rfl (by rw [Tryz.ntmps89];simp) rfl rfl ?_;intro E hH hK;(refine ze ?_;conv=>whnf);refine zh [0,3,6] ?_;change SW E _ [(0,yy d),(3,.ptr 0 0),(6,sI (0:Nat))] [.cells (List.replicate 16 (bS 0)++[].map bS)];refine zp (List.range 16) (fun j (x:Nat × List UInt8)=>[(0,yy x.1),(3,.ptr 0 0),(6,sI j)]) (fun i x=>[.cells (List.replicate (16-i) (bS 0)++x.2.map bS)]) (fun done _ x=>x.1=d / 16 ^ done.length/\x.2=(zxb d).drop (16-done.length)) (d,[]) ⟨by simp,by simp [hl]⟩ ?_ ?_
 ·rintro ⟨x,l⟩ ⟨_,h⟩
  have h:l=zxb d:=h;subst h;clear ‹x=_›;(refine ze ?_;conv=>whnf)
  repeat' ((with_reducible refine way ?_ ?_)<;>(intro h;conv=>whnf))
  all_goals try (exfalso;omega)
  refine zmc rfl rfl rfl rfl rfl rfl (by unfold maxLen;decide) ?_;refine zst (b:=0) (n:=16) (ns:=(zxb d).map fun c=>(c.toNat:Int)) rfl rfl rfl rfl (by show some (SObj.cells ((zxb d).map bS))=_;rw [List.map_map];rfl) (by simp [hl]) rfl rfl rfl ?_;unfold zaz;rw [yqq];(refine zc ?_;conv=>whnf);refine Eq.mpr (congrArg (fun b=>E.K (sS b) _) ?_) (hK _);show (⟨#[]++(zxb d).toArray⟩:ByteArray)=_;simp [zea]
 ·rintro done j rest ⟨x,l⟩ hda hdl ⟨h,h'⟩ ih
  simp only at h h';have hj:done.length<16:=by simp at hdl;omega
  have hw:=zk (n:=done.length) (by omega);have hx:x<18446744073709551616:=by rw [h];exact zgl _ hd
  have hnx:=ih (x / 16,ync (x % 16)::l) ⟨by simp only;rw [h,List.length_append,List.length_cons,List.length_nil,Nat.zero_add,Nat.pow_succ,Nat.div_div_eq_div_mul],by simp only;rw [h,h',List.length_append,List.length_cons,List.length_nil, <-yky d done.length hj,show 16-(done.length+(0+1))=15-done.length by omega]⟩;have hw2:IntKind.i64.wrap (15-(done.length:Int))=((15-done.length:Nat):Int):=by rw [zr (by omega) (by omega)];omega
  have hrep:List.replicate (16-done.length) (bS 0)=List.replicate (15-done.length) (bS 0)++[bS 0]:=by rw [show 16-done.length=15-done.length+1 by omega,List.replicate_succ']
  rw [hrep];(refine zo [777,13] 1000 ?_;conv=>whnf)
  repeat' ((with_reducible refine way ?_ ?_)<;>(intro h;conv=>whnf))
  all_goals try (exfalso;omega)
  rw [yrv hx];refine ygu (i:=x % 16) rfl rfl rfl rfl rfl rfl rfl rfl (Nat.mod_lt _ (by decide)) ?_;refine ybi rfl rfl rfl rfl rfl (ykx _ (Nat.mod_lt _ (by decide))) ?_;generalize ync (x % 16)=c at hnx ⊢;refine zlb (i:=15-done.length) rfl rfl rfl rfl rfl rfl rfl hw2 (by omega) ?_;refine zao (d:=List.replicate (15-done.length) (bS 0)) (zz:=bS 0) (r:=l.map bS) (v:=bS c) rfl rfl rfl rfl rfl rfl rfl rfl (by simp) (by show 0+(15-done.length)*1=_;simp) ?_;(refine zc ?_;conv=>whnf);rw [sh4,hw];refine zh [0,3,6] ?_;have he:16-(done.length+1)=15-done.length:=by omega
  rw [he] at hnx;exact hnx
theorem zng (d:Nat):(zmy d).length=8:=by simp [zmy]
theorem ykz (d i:Nat) (h:i<8):(zmy d).drop (7-i)=UInt8.ofNat (d / 256 ^ i % 256)::(zmy d).drop (8-i):=by
 have hl:=zng d;rw [List.drop_eq_getElem_cons (by omega)]
 congr 1
 ·simp only [zmy,List.getElem_map,List.getElem_range,yol]
  rw [show 7-(7-i)=i by omega]
 ·rw [show 7-i+1=8-i by omega]
theorem sh8 (a:Nat):(a:Int).fdiv (2 ^ min (Int.toNat 8) IntKind.u64.bits)=((a / 256:Nat):Int):=ytp a rfl
theorem zye (n:Nat):(UInt8.ofNat (n % 256)).toNat=n % 256:=by
 rw [UInt8.toNat_ofNat'];exact Nat.mod_eq_of_lt (Nat.mod_lt _ (by decide))
theorem zsv (G:List (Nat × D)) (d:Nat) (hd:d<18446744073709551616):zq Tryz.prog G 165 [yy d] (.agg ((zmy d).map bS)):=by
 have hl:=zng d;refine zg Tryz.func165 rfl (by rw [Tryz.ntmps165];simp) rfl rfl ?_;intro E hH hK;(refine ze ?_;conv=>whnf);refine zh [0,2,3,6] ?_;change SW E _ [(0,yy d),(2,.ptr 0 0),(3,.ptr 1 0),(6,sI (0:Nat))] [.cells (List.replicate 8 (bS 0)),.cells (List.replicate 8 (bS 0)++[].map bS)];refine zp (List.range 8) (fun j (x:Nat × List UInt8)=>[(0,yy x.1),(2,.ptr 0 0),(3,.ptr 1 0),(6,sI j)]) (fun i x=>[.cells (List.replicate 8 (bS 0)),.cells (List.replicate (8-i) (bS 0)++x.2.map bS)]) (fun done _ x=>x.1=d / 256 ^ done.length/\x.2=(zmy d).drop (8-done.length)) (d,[]) ⟨by simp,by simp [hl]⟩ ?_ ?_
 ·rintro ⟨x,l⟩ ⟨_,h⟩
  have h:l=zmy d:=h;rw [<-h] at hK hl
  match l,hl with
  |[a0,a1,a2,a3,a4,a5,a6,a7],_=>
  (refine ze ?_;conv=>whnf)
  repeat' ((with_reducible refine way ?_ ?_)<;>(intro h;conv=>whnf))
  all_goals try (exfalso;omega)
  exact hK _
 ·rintro done j rest ⟨x,l⟩ hda hdl ⟨h,h'⟩ ih
  simp only at h h';have hj:done.length<8:=by simp at hdl;omega
  have hw:=zk (n:=done.length) (by omega);have hx:x<18446744073709551616:=by rw [h];exact zgl _ hd
  have hnx:=ih (x / 256,UInt8.ofNat (x % 256)::l) ⟨by simp only;rw [h,List.length_append,List.length_cons,List.length_nil,Nat.zero_add,Nat.pow_succ,Nat.div_div_eq_div_mul],by simp only;rw [h,h',List.length_append,List.length_cons,List.length_nil, <-ykz d done.length hj,show 8-(done.length+(0+1))=7-done.length by omega]⟩;have hw2:IntKind.i64.wrap (7-(done.length:Int))=((7-done.length:Nat):Int):=by rw [zr (by omega) (by omega)];omega
  have hrep:List.replicate (8-done.length) (bS 0)=List.replicate (7-done.length) (bS 0)++[bS 0]:=by rw [show 8-done.length=7-done.length+1 by omega,List.replicate_succ']
  have hc:(x:Nat) % 256=(UInt8.ofNat (x % 256)).toNat:=(zye x).symm;rw [hrep];(refine zo [777,13] 1000 ?_;conv=>whnf)
  repeat' ((with_reducible refine way ?_ ?_)<;>(intro h;conv=>whnf))
  all_goals try (exfalso;omega)
  rw [yom,hc];generalize UInt8.ofNat (x % 256)=c at hnx ⊢;refine zlb (i:=7-done.length) rfl rfl rfl rfl rfl rfl rfl hw2 (by omega) ?_;refine zao (d:=List.replicate (7-done.length) (bS 0)) (zz:=bS 0) (r:=l.map bS) (v:=bS c) rfl rfl rfl rfl rfl rfl rfl rfl (by simp) (by show 0+(7-done.length)*1=_;simp) ?_;(refine zc ?_;conv=>whnf);rw [sh8,hw];refine zh [0,2,3,6] ?_;have he:8-(done.length+1)=7-done.length:=by omega
  rw [he] at hnx;exact hnx
theorem zfo (l:List UInt8):zaz (l.map fun c=>(c.toNat:Int))=⟨l.toArray⟩:=by
 unfold zaz;rw [yqq];show (⟨#[]++l.toArray⟩:ByteArray)=_;simp
theorem zgy (d:Nat):(zhq d).size=8:=by
 show (zmy d).toArray.size=8;simp [zmy]
theorem ylb (G:List (Nat × D)) (a b:Nat) (ha:a<18446744073709551616) (hb:b<18446744073709551616):zq Tryz.prog G 132 [yy a,yy b] (yy (zbu a b)):=by
 have c1:=zsv G a ha;have c2:=zsv G b hb;have ra:zhq a=zaz ((zmy a).map fun c=>(c.toNat:Int)):=(zfo _).symm;have rb:zhq b=zaz ((zmy b).map fun c=>(c.toNat:Int)):=(zfo _).symm;have za:=zgy a;have zb:=zgy b;have c3:=jy G (⟨#[1]⟩++zhq a++zhq b) (by rw [ByteArray.size_append,ByteArray.size_append,za,zb];decide);change zq _ _ _ _ (yy (zbu a b)) at c3;have la:=zng a;have lb:=zng b;generalize zbu a b=r at c3 ⊢;generalize zhq a=sa at*;generalize zhq b=sb at*;generalize zmy a=x at*;generalize zmy b=y at*
 match x,la,y,lb with
 |[a0,a1,a2,a3,a4,a5,a6,a7],_,[b0,b1,b2,b3,b4,b5,b6,b7],_=>
 refine zg Tryz.func132 rfl (by rw [Tryz.ntmps132];simp) rfl rfl ?_;intro E hH hK;(refine ze ?_;conv=>whnf);refine zd rfl  c1 ?_;(refine zc ?_;conv=>whnf);refine zd rfl  c2 ?_;(refine zc ?_;conv=>whnf);refine zh [5,6] ?_;change SW E _ [(5,.ptr 0 0),(6,.ptr 1 0)] [.cells ([a0,a1,a2,a3,a4,a5,a6,a7].map bS),.cells ([b0,b1,b2,b3,b4,b5,b6,b7].map bS)];(refine zx mixed rfl ?_;refine zf [] ?_;conv=>whnf);refine zmd rfl rfl rfl rfl rfl rfl (by unfold maxLen;decide) ?_;refine zsu (b:=0) (n:=8) (ns:=[a0,a1,a2,a3,a4,a5,a6,a7].map fun c=>(c.toNat:Int)) rfl rfl rfl rfl rfl rfl rfl rfl rfl ?_;rw [<-ra];(refine zf [13] ?_;conv=>whnf);refine zaq rfl rfl rfl rfl rfl (by rw [za];decide) ?_;refine zmd rfl rfl rfl rfl rfl rfl (by unfold maxLen;decide) ?_;refine zsu (b:=1) (n:=8) (ns:=[b0,b1,b2,b3,b4,b5,b6,b7].map fun c=>(c.toNat:Int)) rfl rfl rfl rfl rfl rfl rfl rfl rfl ?_;rw [<-rb];refine zaq rfl rfl rfl rfl rfl (by rw [ByteArray.size_append,za,zb];decide) ?_;refine yf rfl  c3 ?_;(refine zf [] ?_;conv=>whnf);(refine ze ?_;conv=>whnf);exact hK _
theorem zdg:yrz G37:=⟨_,List.Mem.head _,by kernel_rfl⟩
theorem ybj (n c:Nat):chainN n (zuo c)=chainN (n+1) c:=by
 induction n with
 |zero=>rw [zdb,zar,zdb]
 |succ n ih=>rw [zar,ih,zar (n+1)]
theorem zyf {c:Nat} (hc:c<18446744073709551616) (n:Nat):chainN n c<18446744073709551616:=by
 cases n with
 |zero=>rw [zdb];exact hc
 |succ n=>rw [zar];exact zup _
def HW (r c n:Nat) (lp:SObj):List SObj:=[.cells [yy r],.cells [yy c],.cells [sI n],lp]
theorem ygv (G:List (Nat × D)) (c n:Nat) (H:List SObj):SCall Tryz.prog G 129 [yy c,sI n] H (fun r H'=>r= .fn (.func 164) [] [.ptr H.length 0,.ptr (H.length+1) 0]/\H'=H++[.cells [yy c],.cells [sI n]]):=by
 refine yr Tryz.func129 rfl (by rw [Tryz.ntmps129];simp) ?_;intro E hH hK;(refine ze ?_;conv=>whnf);exact hK _ _ ⟨by simp;rfl,by simp;exact ⟨rfl,rfl⟩⟩
theorem zvb {f:FuncId} {n0:Nat} {tL:List (Nat × SV)} {ps:Array Tmp} {asg bd:Code} (hps:1=ps.size)
  (hy:∀r c n,c<18446744073709551616->SYield Tryz.prog G37 3 [yy c] (HW r c n (.loop .ready f n0 tL ps asg bd)) (fun res H'=>res=true/\H'=HW c c n (.loop .ready f n0 tL ps asg bd)))
  (r c n:Nat) (hc:c<18446744073709551616) (hn:n<=15):
  SCall Tryz.prog G37 164 [.yld 3,.ptr 1 0,.ptr 2 0] (HW r c n (.loop .ready f n0 tL ps asg bd)) (fun _ H'=>H'=HW (chainN n c) (chainN n c) 0 (.loop .ready f n0 tL ps asg bd)):=by
 refine yr Tryz.func164 rfl (by rw [Tryz.ntmps164];simp) ?_;intro E hH hK;generalize hR:chainN n c=R at hK;(refine ze ?_;conv=>whnf);refine zh [0,1,2] ?_;change SW E _ [(0,.yld 3),(1,.ptr 1 0),(2,.ptr 2 0)] _;refine yq (σ:=Nat × Nat × Nat) (fun _=>[(0,.yld 3),(1,.ptr 1 0),(2,.ptr 2 0)]) (fun x=>HW x.1 x.2.1 x.2.2 (.loop .ready f n0 tL ps asg bd)) (fun x=>chainN x.2.2 x.2.1=R/\x.2.1<18446744073709551616/\x.2.2<=15) (fun x=>x.2.2) ?_ (r,c,n) ⟨hR,hc,hn⟩;clear hR hc hn;rintro ⟨r,c,n⟩ ⟨i1,i2,i3⟩ ih;simp only at i1 i2 i3;have hyy:=hy r c n i2;have c1:=zps c i2;have c2:=jy G37 (⟨#[2]⟩++zea c) (by rw [ByteArray.size_append,jn];decide);change zq _ _ _ _ (yy (zuo c)) at c2;show SW E _ _ (HW r c n (.loop .ready f n0 tL ps asg bd));(refine ze ?_;conv=>whnf);refine zoc rfl rfl rfl rfl rfl hps rfl (hyy.mono ?_);rintro _ _ ⟨rfl,rfl⟩;refine ⟨Nat.le_refl _,?_⟩;cases n with
 |zero=>
  (refine zc ?_;conv=>whnf);rw [<-i1] at hK;exact hK _ _ rfl
 |succ n=>
  have hw:IntKind.i64.wrap (((n+1:Nat):Int)-1)=(n:Int):=by rw [zr (by omega) (by omega)];omega
  have hnx:=ih (c,zuo c,n) ⟨by rw [<-i1];exact ybj n c,zup _,by simp only;omega⟩ (by simp only;omega);have h0:0<((n+1:Nat):Int):=by omega
  (refine zc ?_;conv=>whnf)
  repeat' ((with_reducible refine way ?_ ?_)<;>(intro h;conv=>whnf))
  all_goals try (exfalso;omega)
  refine zd rfl  c1 ?_;(refine zj [777,13] 1000 ?_;conv=>whnf);refine wq rfl rfl rfl rfl rfl (by rw [jn];decide) ?_;(refine zc ?_;conv=>whnf);refine zd rfl  c2 ?_;(refine zc ?_;conv=>whnf);rw [hw];exact zh [0,1,2] hnx
theorem zyg (c n:Nat) (hc:c<18446744073709551616) (hn:n<=15):zq Tryz.prog G37 87 [yy c,sI n] (yy (chainN n c)):=by
 refine zg Tryz.func87 rfl (by rw [Tryz.ntmps87];simp) rfl rfl ?_;intro E hH hK;(refine ze ?_;conv=>whnf);refine ye rfl rfl rfl rfl rfl rfl ((ygv G37 c n _).mono ?_);rintro _ _ ⟨rfl,rfl⟩;refine ⟨by simp,?_⟩;(refine zc ?_;conv=>whnf);refine zh [5,9] ?_;change SW E _ [(5,.ptr 0 0),(9,.fn (.func 164) [] [.ptr 1 0,.ptr 2 0])] [.cells [yy (0:Nat)],.cells [yy c],.cells [sI n]];refine zcd rfl rfl ?_;refine (zvb (tL:=[(5,.ptr 0 0),(9,.fn (.func 164) [] [.ptr 1 0,.ptr 2 0])]) rfl ?_ 0 c n hc hn).mono ?_
 ·intro r c n hc
  refine zce (b:=3) rfl E.hfn rfl (by decide) ?_;intro E3 hl3 hOwn hKR;(refine ze ?_;conv=>whnf);refine zjm hOwn rfl ?_;(refine ze ?_;conv=>whnf);exact hKR none _ _ (Nat.le_refl _) rfl ⟨rfl,rfl⟩
 ·rintro r H' rfl
  refine ⟨Nat.le_refl _,.ready,_,rfl,.inl ⟨rfl,?_⟩⟩;(refine ze ?_;conv=>whnf);exact hK _
def yvl (seed:ByteArray) (j k:Int):ByteArray:=⟨#[3]⟩++wn j++⟨#[32]⟩++wn k++⟨#[32]⟩++seed
def yed (seed:ByteArray) (j k:Int):Nat:=wx (yvl seed j k)
theorem zpt (seed:ByteArray) (j k:Int) (hs:seed.size<=1000000000000) (hj:0<=j/\j<=1000000000) (hk:0<=k/\k<=1000000000):zq Tryz.prog G37 88 [sS seed,sI j,sI k] (yy (yed seed j k)):=by
 have c1:=zrh zdg j (by omega) (by omega);have c2:=zrh zdg k (by omega) (by omega);have z1:=xb j (by omega) (by omega);have z2:=xb k (by omega) (by omega);have c3:=jy G37 (yvl seed j k) (by unfold yvl;simp only [ByteArray.size_append];show 1+(wn j).size+1+(wn k).size+1+seed.size<=_;omega);change zq _ _ _ _ (yy (yed seed j k)) at c3;unfold yvl at c3;generalize yed seed j k=r at c3 ⊢;generalize wn j=sj at*;generalize wn k=sk at*;refine zg Tryz.func88 rfl (by rw [Tryz.ntmps88];simp) rfl rfl ?_;intro E hH hK;(refine ze ?_;conv=>whnf);refine zd rfl  c1 ?_;refine wq rfl rfl rfl rfl rfl (by show 1+sj.size<=_;omega) ?_;refine wq rfl rfl rfl rfl rfl (by simp only [ByteArray.size_append];show 1+sj.size+1<=_;omega) ?_;(refine zj [777,13] 1000 ?_;conv=>whnf);refine zd rfl  c2 ?_;refine wq rfl rfl rfl rfl rfl (by simp only [ByteArray.size_append];show 1+sj.size+1+sk.size<=_;omega) ?_;refine wq rfl rfl rfl rfl rfl (by simp only [ByteArray.size_append];show 1+sj.size+1+sk.size+1<=_;omega) ?_;(refine zj [777,16] 1000 ?_;conv=>whnf);refine wq rfl rfl rfl rfl rfl (by simp only [ByteArray.size_append];show 1+sj.size+1+sk.size+1+seed.size<=_;omega) ?_;refine zd rfl  c3 ?_;(refine zc ?_;conv=>whnf);exact hK _
end Go.Proofs.YtjnddlifnkgncaaGreatDoor
namespace Go.Sh
section
variable {P:Program} {G:List (Nat × D)} {w:World} {I:Imm} {β:List Bnd} {H:List SObj}
section
variable {sT xT ty e:TypeId} {k by_:Nat} {z:Value}
variable (hu:P.underlying sT=some (.slice e)) (hx:P.underlying xT=some .string) (hk:xj P e=some k) (hby:jk P e=some by_) (hz:jv P e=some z)
include hu hx hk
theorem zfw {n cap m c:Nat} {xv:Value} {B:List Value} {cur:Array Value} {T:TypeId} (hxl:∃s0:ByteArray,xv= .string s0/\s0.size=m) (hxc:(Builtin.firstCells k m xv).run P w= .ok B.toArray w)
  (hfit:n+m<=cap) (hg:w.heap[c]?=some (.cells cur T (0,0))) (hB:B.length=m*k) (hone:∀x∈B,x.oneCell'=true) (hcur:cur.size=cap*k):
  (Builtin.append_ #[sT,xT] ty #[.slice (some ⟨c,0,none⟩) n cap,xv]).run P w=
   .ok (.slice (some ⟨c,0,none⟩) (n+m) cap) (w.setRow c (cur.toList.take (n*k)++B++cur.toList.drop (n*k+m*k)).toArray):=by
 obtain ⟨s0,rfl,hs0⟩:=hxl;have hle:n*k+m*k<=cur.size:=by rw [hcur, <-Nat.add_mul];exact Nat.mul_le_mul_right k hfit
 have hst:=run_storeCells_at (P:=P) c (n*k) T B 0 cur w hg (by rw [hB];omega) hone;simp only [Nat.add_zero,hB] at hst;simp only [Builtin.append_,Sem.run_bind,run_underlying hu,Result.andThen_ok,ym hk,run_underlying hx,Sem.run_pure,Bool.false_eq_true,if_false,Builtin.lenOf,hs0,hfit,if_true,Bool.not_false,hxc,wy,Nat.zero_add,hst,List.getElem?_toArray,List.getElem?_cons_zero,List.getElem?_cons_succ]
theorem zmo {ty:TypeId} {xv:Value} (hxl:∃s0:ByteArray,xv= .string s0/\s0.size=0) (hxc:(Builtin.firstCells k 0 xv).run P w= .ok #[] w):
  (Builtin.append_ #[sT,xT] ty #[.slice none 0 0,xv]).run P w= .ok (.slice none 0 0) w:=by
 obtain ⟨s0,rfl,hs0⟩:=hxl;simp only [Builtin.append_,Sem.run_bind,run_underlying hu,Result.andThen_ok,ym hk,run_underlying hx,Sem.run_pure,Bool.false_eq_true,if_false,Builtin.lenOf,hs0,Nat.add_zero,Nat.le_refl,if_true,Bool.not_false,hxc,List.getElem?_toArray,List.getElem?_cons_zero,List.getElem?_cons_succ]
include hby hz
theorem zkf {ty:TypeId} {n cap m:Nat} {base:Option Addr} {xv:Value} {A B:List Value} (hxl:∃s0:ByteArray,xv= .string s0/\s0.size=m) (hxc:∀w':World,w'.heap=w.heap->(Builtin.firstCells k m xv).run P w'= .ok B.toArray w')
  (hsc:∀w':World,w'.heap=w.heap->(Builtin.firstCells k n (.slice base n cap)).run P w'= .ok A.toArray w') (hgrow:¬n+m<=cap) (hsmall:n+m<=4611686018427387904) (hcap:(2*(n+m)+192)*by_<=281474976710656):
  ∃newCap rest,n+m<=newCap/\newCap<=maxLen/\rest=Builtin.zeroCells z.cells (newCap-(n+m))/\
   (Builtin.append_ #[sT,xT] ty #[.slice base n cap,xv]).run P w= .ok (.slice (some ⟨w.heap.size,0,none⟩) (n+m) newCap) (w.drew.alloc (.cells (A.toArray++B.toArray++rest) e)):=by
 obtain ⟨s0,rfl,hs0⟩:=hxl;have hinfo:(typeInfo e).run P w= .ok ((P.info? e).getD default) w/\((P.info? e).getD default).bytes=by_:=by
  unfold jk at hby;cases hi:P.info? e with
  |none=>simp [hi] at hby
  |some i=>simp [hi] at hby;simp [typeInfo,hi,hby]
 have hinfo2:(typeInfo e).run P w.drew= .ok ((P.info? e).getD default) w.drew:=by
  unfold jk at hby;cases hi:P.info? e with
  |none=>simp [hi] at hby
  |some i=>simp [typeInfo,hi]
 have hmax:¬((n+m:Nat):Int)>IntKind.i64.max:=by
  have:IntKind.i64.max=9223372036854775807:=by decide
  rw [this];omega
 have hcapb:¬Builtin.nextslicecap (n+m) cap*by_>2 ^ 48:=by
  have h1:=zga hgrow;have h2:Builtin.nextslicecap (n+m) cap*by_<=(2*(n+m)+192)*by_:=Nat.mul_le_mul_right _ h1;omega
 refine ⟨Question.cut (.appendCap (n+m) cap e) (w.tape w.drawn (.appendCap (n+m) cap e)),_,?_,?_,rfl,?_⟩
 ·simp [Question.cut]
 ·unfold maxLen
  simp only [Question.cut];have:w.tape w.drawn (.appendCap (n+m) cap e) % (2 ^ 63-(n+m))<2 ^ 63-(n+m):=Nat.mod_lt _ (by omega);omega
 ·have hx':=hxc w.drew rfl
  have hs':=hsc w.drew rfl
  simp only [Builtin.append_,Sem.run_bind,run_underlying hu,Result.andThen_ok,ym hk,run_underlying hx,Sem.run_pure,Builtin.lenOf,hs0,hgrow,Bool.false_eq_true,if_false,
   Bool.not_false,if_true,hinfo.1,List.getElem?_toArray,List.getElem?_cons_zero,List.getElem?_cons_succ,false_or]
  rw [if_neg (fun h=>hmax h.1)];simp only [Sem.run_bind,Result.andThen_ok,hinfo.1,hinfo.2];rw [if_neg hcapb];simp only [Sem.run_bind,Sem.run_pure,run_choose,Question.forced,Bool.false_eq_true,if_false,World.drew_eq,Result.andThen_ok,hinfo2,run_askRoom,hs',hx',zaf hz,newRow,run_newObj,World.alloc_eq,World.size_drew]
end
theorem zmp {sT xT ty e : TypeId} {by_ : Nat} {z : Value} {xv : Value} {new : List (List D)}
    (hu : P.underlying sT = some (.slice e)) (hxu : P.underlying xT = some .string) (hk : xj P e = some 1) (hby : jk P e = some by_) (hz : jv P e = some z)
    (hzk : z.cells.size = 1) (hxl : ∃ s0 : ByteArray, xv = .string s0 /\ s0.size = new.length) :
    ∀ (w : World) (I : Imm) (β : List Bnd) (H : List SObj) (b n : Nat) (rows : List (List D)) (sv : Value) (B : List Value), HeapOK G w I β H -> Rep w I β sv (.asl b 1 rows) -> H[b]? = some (.btok e n) -> n = rows.length ->
      n + new.length <= 4611686018427387904 -> (2 * (n + new.length) + 192) * by_ <= 281474976710656 -> Flat w I 1 new B -> (∀ w' : World, (∀ c o, I c o -> w'.cell? ⟨c, o, none⟩ = w.cell? ⟨c, o, none⟩) -> (Builtin.firstCells 1 new.length xv).run P w' = .ok B.toArray w') ->
      ∃ u w' I' β', (Builtin.append_ #[sT, xT] ty #[sv, xv]).run P w = .ok u w' /\ Rep w' I' β' u (.asl b 1 (rows ++ new)) /\ HeapOK G w' I' β' (H.set b (.btok e (n + new.length))) /\
        ∀ m, Ext m w I β H w' I' β' (H.set b (.btok e (n + new.length))) := by
  intro w I β H b n rows sv B hH hs hb hn hsmall hcap hB hxc
  cases hs with
  | asl _ _ _ _ u n' hd hbu hus hle heq =>
  obtain ⟨ua, ucap, rfl⟩ := hus
  have hob := hH.obj b _ _ hb hbu
  have hn' : n' = n := by
    rcases hob with ⟨h1, h2⟩ | ⟨c, cap, vs, h1, _⟩
    · cases h2; exact h1.symm
    · cases h1; rfl
  subst hn'
  have hsv := heq hn.symm
  subst hsv
  have hblt := lt_of_getElem? hb
  have hbxlt := lt_of_getElem? hbu
  obtain ⟨A, hA, hsl, hsc⟩ := hd.flat (P := P)
  have hlenR : (rows ++ new).length = n' + new.length := by simp [hn]
  by_cases hm0 : new.length = 0
  · -- nothing is appended
    have hnil : new = [] := List.length_eq_zero_iff.1 hm0
    subst hnil
    have hrun : (Builtin.append_ #[sT, xT] ty #[.slice ua n' ucap, xv]).run P w = .ok (.slice ua n' ucap) w := by
      have hBn : B = [] := List.length_eq_zero_iff.1 (by rw [hB.len]; simp)
      subst hBn
      rcases hob with ⟨h1, h2⟩ | ⟨c, cap, vs, h1, h2, h3, h4, h5, h6⟩
      · cases h2
        exact zmo hu hxu hk hxl (by simpa using hxc w (fun _ _ _ => rfl))
      · cases h1
        have := zfw (w := w) (ty := ty) hu hxu hk (n := n') (cap := ucap) (m := 0) (c := c) hxl (by simpa using hxc w (fun _ _ _ => rfl)) (by omega) h2 (by simp) (by simp) h3
        rw [this]
        have ee : (vs.toList.take (n' * 1) ++ [] ++ vs.toList.drop (n' * 1 + 0 * 1)).toArray = vs := by simp
        rw [ee, setRow_self w c vs e (0, 0) h2]
        simp
    refine ⟨_, w, I, β, hrun, ?_, ?_, ?_⟩
    · rw [List.append_nil]; exact .asl b 1 rows _ _ n' hd hbu ⟨_, _, rfl⟩ hle heq
    · rw [List.length_nil, Nat.add_zero, set_self hb]; exact hH
    · rw [List.length_nil, Nat.add_zero, set_self hb]; exact fun m => .refl
  · -- it grows, or there is room
    have grow : ¬ n' + new.length <= ucap -> (Bnd.tok (.slice ua n' ucap)).block = none \/ True ->
        ∃ u w' I' β', (Builtin.append_ #[sT, xT] ty #[.slice ua n' ucap, xv]).run P w = .ok u w' /\ Rep w' I' β' u (.asl b 1 (rows ++ new)) /\ HeapOK G w' I' β' (H.set b (.btok e (n' + new.length))) /\
          ∀ m, Ext m w I β H w' I' β' (H.set b (.btok e (n' + new.length))) := by
      intro hg _
      obtain ⟨newCap, rest, hc1, hc2, hrest, hrun⟩ := zkf (w := w) (ty := ty) hu hxu hk hby hz (base := ua) (n := n') (cap := ucap) (A := A) (B := B) hxl (fun w' hw' => hxc w' (fun c o _ => by simp [World.cell?, hw']))
        (fun w' hw' => by have := hsc w' (fun c o _ => by simp [World.cell?, hw']); rw [<- hn] at this; exact this) hg hsmall hcap
      have hAs : A.length = n' * 1 := by rw [hA.len, hn]
      have hBs : B.length = new.length * 1 := hB.len
      have hrs : rest.size = (newCap - (n' + new.length)) * 1 := by rw [hrest]; simp [Builtin.zeroCells, hzk]
      have hvs : (A.toArray ++ B.toArray ++ rest).size = newCap * 1 := by
        simp only [Array.size_append, List.size_toArray, hAs, hBs, hrs]
        rw [<- Nat.add_mul, <- Nat.add_mul]; congr 1; omega
      have hsize : w.drew.heap.size = w.heap.size := rfl
      have hnewblk : (w.drew.alloc (.cells (A.toArray ++ B.toArray ++ rest) e)).heap[w.heap.size]? = some (.cells (A.toArray ++ B.toArray ++ rest) e (0, 0)) := yg (w := w.drew) _
      have hold : ∀ c, c < w.heap.size -> (w.drew.alloc (.cells (A.toArray ++ B.toArray ++ rest) e)).heap[c]? = w.heap[c]? := fun c hc => by
        show (w.heap.push _)[c]? = _
        rw [Array.getElem?_push, if_neg (by omega)]
      have hcell : ∀ c o, I c o -> (w.drew.alloc (.cells (A.toArray ++ B.toArray ++ rest) e)).cell? ⟨c, o, none⟩ = w.cell? ⟨c, o, none⟩ := fun c o hc => ya (hold c (hH.inI c o hc)) o
      have hIm : ∀ c o, I c o -> (I.plus w.heap.size ((n' + new.length) * 1)) c o := fun _ _ h => .inl h
      have hmv := fun m => hH.moveBtok (m := m) (n' := n' + new.length) (u' := .slice (some ⟨w.heap.size, 0, none⟩) (n' + new.length) newCap) (w' := w.drew.alloc (.cells (A.toArray ++ B.toArray ++ rest) e)) (I' := I.plus w.heap.size ((n' + new.length) * 1)) hb hbu ⟨_, _, _, _, rfl, rfl⟩ (by omega)
        (by simp) (fun c hc _ => hold c hc) hcell hIm
        (by rintro c o (hi | ⟨rfl, _⟩)
            · exact .inl hi
            · exact .inr rfl)
        (by rintro c o (hi | ⟨rfl, _⟩)
            · have := hH.inI c o hi; simp; omega
            · simp)
        (fun c hc => by cases hc; exact .inr (Nat.le_refl _))
        (.inr ⟨w.heap.size, newCap, _, rfl, hnewblk, hvs, hc1, hc2, fun o ho => by
          rintro (hi | ⟨_, hi⟩)
          · have := hH.inI _ o hi; omega
          · omega⟩)
      refine ⟨_, _, _, _, hrun, ?_, (hmv 0).1, fun m => (hmv m).2⟩
      refine .asl b 1 (rows ++ new) _ _ (n' + new.length) ?_ (List.getElem?_set_self hbxlt) ⟨_, _, rfl⟩ (by omega) (fun _ => rfl)
      refine ((hA.mono hIm hcell).append (hB.mono hIm hcell)).drep hlenR.symm (fun t ht => ⟨.inr ⟨rfl, ht⟩, ?_⟩) hc1 hc2
      rw [cell_of_heap hnewblk]
      have : t < A.length + B.length := by rw [hAs, hBs, <- Nat.add_mul]; exact ht
      rw [Array.getElem?_append_left (by simpa using this)]
      simp
    rcases hob with ⟨h1, h2⟩ | ⟨c, cap, vs, h1, h2, h3, h4, h5, h6⟩
    · cases h2
      exact grow (by omega) (.inr trivial)
    · cases h1
      by_cases hfit : n' + new.length <= ucap
      · have hrun := zfw (w := w) (ty := ty) hu hxu hk (n := n') (cap := ucap) (m := new.length) (c := c) hxl (hxc w (fun _ _ _ => rfl)) hfit h2 hB.len hB.one h3
        have hBs : B.length = new.length * 1 := hB.len
        obtain ⟨A', hA', _, _, _, hcells⟩ := hd.flatAt
        have hAs : A'.length = n' * 1 := by rw [hA'.len, hn]
        have hle2 : n' * 1 + new.length * 1 <= vs.size := by rw [h3, <- Nat.add_mul]; exact Nat.mul_le_mul_right 1 hfit
        generalize hW : w.setRow c (vs.toList.take (n' * 1) ++ B ++ vs.toList.drop (n' * 1 + new.length * 1)).toArray = W at hrun
        have hnb : W.heap[c]? = some (.cells (vs.toList.take (n' * 1) ++ B ++ vs.toList.drop (n' * 1 + new.length * 1)).toArray e (0, 0)) := by rw [<- hW]; exact setRow_heap w c vs _ e _ h2
        have hother : ∀ c', c' ≠ c -> W.heap[c']? = w.heap[c']? := by
          intro c' hne
          rw [<- hW]; simp [World.setRow, Array.getElem?_modify, Ne.symm hne]
        have hsz : W.heap.size = w.heap.size := by rw [<- hW]; simp [World.setRow]
        have hlow : ∀ o, o < n' * 1 -> W.cell? ⟨c, o, none⟩ = w.cell? ⟨c, o, none⟩ := by
          intro o ho
          rw [cell_of_heap hnb, cell_of_heap h2]
          simp only [List.getElem?_toArray, List.append_assoc]
          rw [List.getElem?_append_left (by simp; omega), List.getElem?_take, if_pos ho]
          simp
        have hcell : ∀ c' o, I c' o -> W.cell? ⟨c', o, none⟩ = w.cell? ⟨c', o, none⟩ := by
          intro c' o hi
          by_cases e : c' = c
          · subst e
            exact hlow o (Nat.lt_of_not_le fun h => h6 o h hi)
          · exact ya (hother c' e) o
        have hIm : ∀ c' o, I c' o -> (fun b' o => I b' o \/ (b' = c /\ n' * 1 <= o /\ o < (n' + new.length) * 1)) c' o := fun _ _ h => .inl h
        have hmv := fun m => hH.moveBtok (m := m) (n' := n' + new.length) (u' := .slice (some ⟨c, 0, none⟩) (n' + new.length) ucap) (w' := W) (I' := fun b' o => I b' o \/ (b' = c /\ n' * 1 <= o /\ o < (n' + new.length) * 1)) hb hbu ⟨_, _, _, _, rfl, rfl⟩ (by omega)
          (by omega) (fun c' _ hne => hother c' (fun e => hne (by rw [e]; rfl))) hcell hIm
          (by rintro c' o (hi | ⟨rfl, _⟩)
              · exact .inl hi
              · exact .inr rfl)
          (by rintro c' o (hi | ⟨rfl, _⟩)
              · rw [hsz]; exact hH.inI c' o hi
              · rw [hsz]; exact xl h2)
          (fun c' hc => by cases hc; exact .inl rfl)
          (.inr ⟨c, ucap, _, rfl, hnb, by simp only [List.size_toArray, List.length_append, List.length_take, List.length_drop, Array.length_toList, hBs]; omega, hfit, h5, fun o ho => by
            rintro (hi | ⟨_, _, hi⟩)
            · exact h6 o (Nat.le_trans (Nat.mul_le_mul_right 1 (Nat.le_add_right _ _)) ho) hi
            · omega⟩) (by rw [<- hW]; exact ⟨rfl, rfl⟩)
        refine ⟨_, W, _, _, hrun, ?_, (hmv 0).1, fun m => (hmv m).2⟩
        refine .asl b 1 (rows ++ new) _ _ (n' + new.length) ?_ (List.getElem?_set_self hbxlt) ⟨_, _, rfl⟩ (by omega) (fun _ => rfl)
        refine ((hA'.mono hIm hcell).append (hB.mono hIm hcell)).drep hlenR.symm (fun t ht => ?_) hfit h5
        rcases Nat.lt_or_ge t (n' * 1) with hlt | hge
        · have := hcells t (by rw [<- hn]; exact hlt)
          rw [Nat.zero_add] at this
          exact ⟨.inl this.1, by rw [hlow t hlt, this.2, List.getElem?_append_left (by omega)]⟩
        · refine ⟨.inr ⟨rfl, hge, ht⟩, ?_⟩
          rw [cell_of_heap hnb]
          have hlt2 : t - n' * 1 < B.length := by rw [hBs]; rw [Nat.add_mul] at ht; omega
          rw [List.getElem?_append_right (by omega), hAs]
          simp only [List.getElem?_toArray, List.append_assoc]
          have hlt3 : (List.take (n' * 1) vs.toList).length = n' * 1 := by simp; omega
          rw [List.getElem?_append_right (by omega), hlt3, List.getElem?_append_left hlt2]
      · exact grow hfit (.inr trivial)
end
theorem ygw (w:World) (I:Imm) (l:List UInt8):Flat w I 1 (l.map fun c=>[D.val (.int .u8 c.toNat)]) (l.map fun c=>Value.int .u8 c.toNat):=by
 refine ⟨by simp,fun i hi=>by simp,fun v hv=>?_,fun i j hi hj x hx=>?_⟩
 ·obtain ⟨c,_,rfl⟩:=List.mem_map.1 hv
  rfl
 ·have hj0:j=0:=by simp at hj;omega
  subst hj0;simp only [Nat.mul_one,Nat.add_zero,List.getElem?_map] at hx;have hil:i<l.length:=by simpa using hi
  rw [List.getElem?_eq_getElem hil] at hx;simp only [Option.map_some,Option.some.injEq] at hx;subst hx;simp only [List.getElem_map,List.getElem_cons_zero];exact .val _
section
variable {P:Program} {G:List (Nat × D)} {fn:Func} {rd:Bool} {E:En P G fn rd} {t:List (Nat × SV)} {H:List SObj} {k:List Item} {all:Array Oper} {rest:List Oper} {o:Oper}
theorem zpu {b by_ e:Nat} {z:Value} {sx xx:Operand} {sT xT:Nat} {rows:List (List D)} {s:ByteArray} (hop:o.op= .call ⟨.builtin .append,#[sx,xx],#[sT,xT]⟩)
  (hw:zt all t o.guard=some true) (hd:zy fn.ntmps o.dst=true) (hs:zl G t sx= .asl b 1 rows) (hx:zl G t xx= .imm (.val (.string s))) (hu:P.underlying sT=some (.slice e)) (hu':P.underlying xT=some .string)
  (hk:xj P e=some 1) (hby:jk P e=some by_) (hz:jv P e=some z) (hcond:by_<=65536/\z.cells.size=1) (hb:H[b]?=some (.btok e rows.length)) (hlen:rows.length+s.size<=1073741824)
  (h:SWr E all rest k (xg t o.dst (.asl b 1 (rows++s.data.toList.map fun c=>[D.val (.int .u8 c.toNat)]))) (H.set b (.btok e (rows.length+s.size)))):SWr E all (o::rest) k t H:=by
 refine qq (r:=.asl b 1 (rows++s.data.toList.map fun c=>[D.val (.int .u8 c.toNat)])) (H':=H.set b (.btok e (rows.length+s.size))) hw hd (fun c e=>by rw [hop] at e;cases e) (by simp) (fun ρ w I β hH hev=>?_) h;obtain ⟨dst,op,type,pos,after,guard⟩:=o;simp only at hop;subst hop;have h1:=hev sx;rw [hs] at h1;have h2:=hev xx;rw [hx] at h2;generalize hxv:ρ xx=xv at h2;cases h2 with|imm h2=>cases h2 with|val _=>
 have hl:(s.data.toList.map fun c=>[D.val (.int .u8 c.toNat)]).length=s.size:=by simp
 have hcap:(2*(rows.length+s.size)+192)*by_<=281474976710656:=by
  have h2:(2*(rows.length+s.size)+192)*by_<=(2*1073741824+192)*65536:=Nat.mul_le_mul (by omega) hcond.1;omega
 obtain ⟨u,w',I',β',g1,g2,g3,g4⟩:=zmp (ty:=type) (xv:=.string s) (new:=s.data.toList.map fun c=>[D.val (.int .u8 c.toNat)]) hu hu' hk hby hz hcond.2 ⟨s,rfl,hl.symm⟩ w I β H b _ rows (ρ sx) _ hH h1 hb rfl (by rw [hl];omega) (by rw [hl];exact hcap) (ygw w I _)
  (fun w' _=>by
   rw [hl];simp only [Builtin.firstCells,Sem.run_pure]
   congr 1
   apply Array.ext'
   simp)
 rw [hl] at g3 g4;refine OpRun.value (u:=u) ?_ g2 g3 (g4 _);show Sem.run P (Builtin.append_ #[sT,xT] type (Array.map ρ #[sx,xx])) w=_;rw [show Array.map ρ #[sx,xx]=#[ρ sx,ρ xx] by simp,hxv];exact g1
end
end Go.Sh
namespace Go.Proofs.YtjnddlifnkgncaaGreatDoor
open Go Go.Sh
theorem jz (G:List (Nat × D)) (l:List UInt8) (s:ByteArray) (hl:l.length+s.size<=1000000):SCall Tryz.prog G 93 [.ptr 0 0,sS s] (zqz l) (fun r H'=>r= .tup [sI s.size,.imm (.val .nilIface)]/\H'=zqz (l++s.data.toList)):=by
 refine yr Tryz.func93 rfl (by rw [Tryz.ntmps93];simp) fun E hH hK=>?_
 have e5:(l.map fun c=>[dU8 c])++(s.data.toList.map fun c=>[dU8 c])=(l++s.data.toList).map fun c=>[dU8 c]:=by simp
 have e6:(l.map fun c=>[dU8 c]).length+s.size=((l++s.data.toList).map fun c=>[dU8 c]).length:=by simp
 have hlm:(l.map fun c=>[dU8 c]).length=l.length:=by simp
 (refine ze ?_;conv=>whnf);refine ye rfl rfl rfl rfl rfl rfl ((ydk G (.asl 1 1 (l.map fun c=>[dU8 c])) rfl [.btok 5 (l.map fun c=>[dU8 c]).length]).mono fun r H' ⟨h1,h2⟩=>⟨by rw [h2];exact Nat.le_refl _,?_⟩);subst h1 h2;(refine zc ?_;conv=>whnf);refine zpu (b:=1) (rows:=l.map fun c=>[dU8 c]) (s:=s) rfl rfl rfl rfl rfl rfl rfl rfl rfl rfl ⟨show 1<=65536 by decide,rfl⟩ rfl (by rw [hlm];omega) ?_;refine Eq.mpr (congrArg (fun v=>SWr E _ _ _ (xg _ _ (.asl 1 1 v)) _) e5) ?_;refine Eq.mpr (congrArg (fun v=>SWr E _ _ _ _ (List.set _ 1 (.btok 5 v))) e6) ?_;(refine zc ?_;conv=>whnf);exact hK _ _ ⟨rfl,rfl⟩
theorem zvc (G:List (Nat × D)) (s:ByteArray) (hl:s.size<=1000000):SCall Tryz.prog G 93 [.ptr 0 0,sS s] [.bld 161] (fun r H'=>r= .tup [sI s.size,.imm (.val .nilIface)]/\H'=zqz s.data.toList):=by
 refine yr Tryz.func93 rfl (by rw [Tryz.ntmps93];simp) fun E hH hK=>?_
 have e6:0+s.size=(s.data.toList.map fun c=>[dU8 c]).length:=by simp
 (refine ze ?_;conv=>whnf);refine ye rfl rfl rfl rfl rfl rfl ((zou G).mono fun r H' ⟨h1,h2⟩=>⟨by rw [h2];exact Nat.le_refl _,?_⟩);subst h1 h2;refine zbc (fun _ h=>zot 0 1 5 (cs:=[.ptr 0 0,yrw]) rfl rfl h) ?_;change SWr E _ _ _ _ [.cells [.ptr 0 0,.asl 1 1 []],.btok 5 0];(refine zc ?_;conv=>whnf);refine zpu (b:=1) (rows:=[]) (s:=s) rfl rfl rfl rfl rfl rfl rfl rfl rfl rfl ⟨show 1<=65536 by decide,rfl⟩ rfl (by simp;omega) ?_;refine Eq.mpr (congrArg (fun v=>SWr E _ _ _ _ (List.set _ 1 (.btok 5 v))) e6) ?_;(refine zc ?_;conv=>whnf);exact hK _ _ ⟨rfl,rfl⟩
theorem ylc (G:List (Nat × D)) (n:Nat) (hn:n<=281474976710656):SCall Tryz.prog G 194 [.ptr 0 0,sI n] [.cells [.ptr 0 0,yrw]] (fun r H'=>r= .tup []/\H'=[.cells [.ptr 0 0,.asl 1 1 []],.btok 5 0]):=by
 intro w I β vs hH hv;obtain ⟨a,b,e1,ha,hb⟩:=hv.two;cases ha with
 |ptr _ c _ hc=>
 cases hb with|imm hb=>
 cases hb with|val _=>
 obtain rfl:vs=#[.pointer (some ⟨c,0,none⟩),.int .i64 n]:=by
  apply Array.ext'
  rw [e1]
 obtain ⟨us,T,h1,h2,h3,h4⟩:=hH.obj 0 _ _ rfl hc;have hβl:β.length=1:=hH.len;have h2:us.size=2:=h2;have q0:=h3 0 (by decide) (by omega);have q1:=h3 1 (by decide) (by omega);obtain ⟨p,hp⟩:∃p,p=us[0]'(by omega):=⟨_,rfl⟩;have hus:us=#[p,.slice none 0 0]:=by
  apply Array.ext
  ·rw [h2];rfl
  ·intro j hj hj'
   match j,hj with
   |0,_=>exact hp.symm
   |1,_=>
    have q1':Rep w I β (us[1]'(by omega)) yrw:=q1;generalize us[1]'(by omega)=u at q1' ⊢;cases q1' with|imm q=>cases q;rfl
   |j+2,hj=>omega
 have q0:Rep w I β p (.ptr 0 0):=by rw [hp];exact q0
 subst hus;have hlt:c<w.heap.size:=xl h1;refine (ygs c n p T w h1 hn).mono ?_;rintro e w' ⟨rfl,cs,hle,hm,rfl⟩;obtain ⟨v,hv'⟩:∃v,v=Value.slice (some ⟨w.heap.size,0,none⟩) 0 cs.size:=⟨_,rfl⟩;rw [<-hv'];have hs1:(w.setCell ⟨c,1,none⟩ v).heap.size=w.heap.size:=by simp [World.setCell]
 obtain ⟨W,hW⟩:∃W,W=((w.setCell ⟨c,1,none⟩ v).alloc (.cells cs 5)).drew.drew.drew:=⟨_,rfl⟩;have hWh:W.heap=(w.setCell ⟨c,1,none⟩ v).heap.push (.cells cs 5):=by rw [hW];rfl
 have hWe:zdy w W:=by rw [hW];exact ⟨rfl,rfl⟩
 rw [<-hW];clear hW;have hsz:W.heap.size=w.heap.size+1:=by rw [hWh,Array.size_push,hs1]
 have hW0:W.heap[c]?=some (.cells #[p,v] T (0,0)):=by
  rw [hWh,Array.getElem?_push,if_neg (by omega)];simp [World.setCell,Array.getElem?_modify,h1]
 have hW1:W.heap[w.heap.size]?=some (.cells cs 5 (0,0)):=by
  rw [hWh,Array.getElem?_push,if_pos (by omega)]
 have hold:∀c',c'<w.heap.size->c'≠c->W.heap[c']?=w.heap[c']?:=fun c' hc' hne=>by
  rw [hWh,Array.getElem?_push,if_neg (by omega)];simp [World.setCell,Array.getElem?_modify,Ne.symm hne]
 have hcell:∀c' o,I c' o->W.cell? ⟨c',o,none⟩=w.cell? ⟨c',o,none⟩:=fun c' o hi=>ya (hold c' (hH.inI c' o hi) (fun e=>h4 o (e ▸ hi))) o
 have o0:wu [SObj.cells [.ptr 0 0,yrw]] β 0 c:=⟨_,_,rfl,by simp,hc,rfl⟩;have hb0:(β++[Bnd.tok v])[0]?=some (.blk c):=by rw [List.getElem?_append_left (by omega)];exact hc
 have hb1:(β++[Bnd.tok v])[1]?=some (.tok v):=by rw [List.getElem?_append_right (by omega),hβl];rfl
 have hown:∀b c',wu [SObj.cells [.ptr 0 0,.asl 1 1 []],.btok 5 0] (β++[Bnd.tok v]) b c'->(b=0/\c'=c)\/(b=1/\c'=w.heap.size):=by
  rintro b c' ⟨o,x,g1,g2,g3,g4⟩
  match b,g1 with
  |0,_=>rw [hb0] at g3;cases g3;cases g4;exact .inl ⟨rfl,rfl⟩
  |1,_=>rw [hb1] at g3;cases g3;rw [hv'] at g4;cases g4;exact .inr ⟨rfl,rfl⟩
 refine ⟨_,.tup [],I,β++[.tok v],_,rfl,⟨rfl,rfl⟩,.tup #[] [] rfl (fun j h=>by simp at h),⟨by simp [hβl],fun b o x g1 g2=>?_,fun b b' c' g1 g2=>?_,fun c' o hi=>by rw [hsz];have:=hH.inI c' o hi;omega,fun gg d hg=>(hH.glob gg d hg).mono (fun _ _ h=>h) hcell⟩,?_⟩
 ·match b,g1 with
  |0,g1=>
   cases g1;rw [hb0] at g2;cases g2;refine ⟨#[p,v],T,hW0,rfl,fun j hj hj'=>?_,h4⟩
   match j,hj with
   |0,_=>exact q0.mono (fun _ _ h=>h) hcell (.push _ _ _)
   |1,_=>
    refine Rep.asl 1 1 [] v v 0 ?_ hb1 ⟨_,_,hv'⟩ (Nat.le_refl _) (fun _=>rfl);rw [hv'];exact DRep.isl w.heap.size 0 cs.size 1 [] (fun _ _=>undef) (Nat.zero_le _) hm (fun i h=>by simp at h) (fun i j h=>by simp at h) (fun i j h=>by simp at h)
  |1,g1=>
   cases g1;rw [hb1] at g2;cases g2;exact .inr ⟨w.heap.size,cs.size,cs,hv',hW1,(Nat.mul_one _).symm,Nat.zero_le _,hm,fun o _ hi=>Nat.lt_irrefl _ (hH.inI _ o hi)⟩
 ·rcases hown _ _ g1 with ⟨rfl,rfl⟩|⟨rfl,rfl⟩
  ·rcases hown _ _ g2 with ⟨rfl,_⟩|⟨_,e⟩
   ·rfl
   ·omega
  ·rcases hown _ _ g2 with ⟨_,e⟩|⟨rfl,_⟩
   ·omega
   ·rfl
 ·exact {imm:=fun _ _ h=>h,cell:=hcell,keep:=.push _ _ _,old:=fun c' hc' hn=>hold c' hc' (fun e=>hn 0 (e ▸ o0)),own:=fun b c' h=>(hown b c' h).elim (fun ⟨_,e⟩=>.inl ⟨0,e ▸ o0⟩) (fun ⟨_,e⟩=>.inr (by omega)),new:=fun _ _ h=>.inl h,size:=by omega,env:=hWe}
def yh (l:List ByteArray):D:=.isl 1 (l.map fun s=>[dS s])
def zbq:List Nat->List Nat
 |a::b::r=>zbu a b::zbq r
 |l=>l
theorem zcf:∀l:List Nat,(zbq l).length=(l.length+1) / 2
 |[]=>rfl
 |[_]=>by simp [zbq]
 |a::b::r=>by
  rw [zbq,List.length_cons,zcf r];simp only [List.length_cons];omega
def ww:Nat->List Nat->List (List Nat)
 |0,r=>[r]
 |f+1,r=>if 1<r.length then r::ww f (zbq r) else [r]
theorem zsw (f:Nat) {r:List Nat} (h:¬1<r.length):ww f r=[r]:=by
 cases f with
 |zero=>rfl
 |succ f=>rw [ww,if_neg h]
theorem zpv {f:Nat} {r:List Nat} (hf:r.length<=f) (h:1<r.length):∃f',ww f r=r::ww f' (zbq r)/\(zbq r).length<=f':=by
 obtain ⟨f,rfl⟩:∃f',f=f'+1:=⟨f-1,by omega⟩;refine ⟨f,by rw [ww,if_pos h],?_⟩;rw [zcf];omega
theorem zvd {l:List Nat} (h:∀x∈l,x<18446744073709551616):∀x∈zbq l,x<18446744073709551616:=by
 match l,h with
 |[],h=>exact h
 |[_],h=>exact h
 |a::b::r,h=>
  intro x hx;rw [zbq] at hx;rcases List.mem_cons.1 hx with rfl|hx
  ·exact js _
  ·exact zvd (fun y hy=>h y (by simp [hy])) x hx
theorem zve (G:List (Nat × D)) (s:ByteArray) (hs:s.size<=1000000000000):zq Tryz.prog G 131 [sS s] (sS (⟨#[0]⟩++s)):=by
 refine zg Tryz.func131 rfl (by rw [Tryz.ntmps131];simp) rfl rfl ?_;intro E hH hK;(refine zo [777,4] 1000 ?_;conv=>whnf);refine wq rfl rfl rfl rfl rfl (by show 1+s.size<=_;omega) ?_;(refine zc ?_;conv=>whnf);exact hK _
theorem zpw (G:List (Nat × D)) (l:List ByteArray) (h1:1<=l.length) (h2:l.length<=1024):zq Tryz.prog G 91 [.imm (yh l)] (sI (0:Nat)):=by
 have hl:(l.map fun s=>[dS s]).length=l.length:=by simp
 refine zg Tryz.func91 rfl (by rw [Tryz.ntmps91];simp) rfl rfl ?_;intro E hH hK;(refine ze ?_;conv=>whnf)
 repeat' ((with_reducible refine way ?_ ?_)<;>(intro h;conv=>whnf))
 all_goals try (exfalso;omega)
 exact hK _
theorem zyh (G:List (Nat × D)) (l:List ByteArray) (H:List SObj):SCall Tryz.prog G 92 [.imm (yh l)] H (fun r H'=>r= .fn (.func 130) [] [.ptr H.length 0]/\H'=H++[.cells [.imm (yh l)]]):=by
 refine yr Tryz.func92 rfl (by rw [Tryz.ntmps92];simp) ?_;intro E hH hK;(refine ze ?_;conv=>whnf);exact hK _ _ ⟨rfl,rfl⟩
structure RowH {σ:Type} (Hf:σ->List SObj) (N b L:Nat) (leaves:List ByteArray) (lp:SObj):Prop where
 len:∀s,(Hf s).length=N
 box:∀s,(Hf s)[b]?=some (.cells [.imm (yh leaves)])
 loop:∀s,(Hf s)[L]?=some lp
 und:∀s,(Hf s).all (SObj.under N)=true
 lb:b<N
 lL:L<N
theorem zme (G:List (Nat × D)) {σ:Type} {Hf:σ->List SObj} {N b L:Nat} {leaves:List ByteArray} {f:FuncId} {n:Nat} {tL:List (Nat × SV)} {ps:Array Tmp} {asg bd:Code} (hf:RowH Hf N b L leaves (.loop .ready f n tL ps asg bd)) (hps:1=ps.size) (step:σ->List Nat->σ)
  (hl1:1<=leaves.length) (hl2:leaves.length<=1024) (hsz:∀x∈leaves,x.size<=1000000000000)
  (Iv:σ->List Nat->Prop) (hiv:∀s row,Iv s row->Iv (step s row) (zbq row))
  (hy:∀s row,Iv s row->1<=row.length->row.length<=1024->(∀x∈row,x<18446744073709551616)->SYield Tryz.prog G L [.imm (zaw row)] (Hf s) (fun res H'=>res=true/\N<=H'.length/\H'.take N=Hf (step s row)))
  (s0:σ) (h0:Iv s0 (leaves.map qj)):
  SCall Tryz.prog G 130 [.yld L,.ptr b 0] (Hf s0) (fun _ H'=>N<=H'.length/\H'.take N=Hf ((ww 1024 (leaves.map qj)).foldl step s0)):=by
 refine yr Tryz.func130 rfl (by rw [Tryz.ntmps130];simp) ?_;intro E hH hK;rw [hf.len] at hH;have hlN:=hf.lL;have hbN:=hf.lb;have hlm:(leaves.map fun s=>[dS s]).length=leaves.length:=by simp
 have hund:=hf.und s0;have hlen:=hf.len s0;(refine zo [777,8] 1000 ?_;conv=>whnf);refine xz (v:=.imm (yh leaves)) rfl rfl rfl rfl (hf.box _) rfl ?_;(refine zc ?_;conv=>whnf);refine zhy (n:=3) (kk:=1) rfl ?_;refine zh [0,3,8,9,10] ?_;rw [hlen];change SW E _ [(0,.yld L),(3,.asl N 1 (([]:List Nat).map fun n=>[dU n])),(8,.imm (yh leaves)),(9,sI (leaves.map fun s=>[dS s]).length),(10,sI (0:Nat))] (Hf s0++[.tok 1 (([]:List Nat).map fun n=>[dU n]).length]);refine zp leaves (fun i (l:List Nat)=>[(0,.yld L),(3,.asl N 1 (l.map fun n=>[dU n])),(8,.imm (yh leaves)),(9,sI (leaves.map fun s=>[dS s]).length),(10,sI i)]) (fun _ l=>Hf s0++[.tok 1 (l.map fun n=>[dU n]).length]) (fun done rest l=>l=done.map qj) [] rfl ?_ ?_
 ·rintro l h
  have h:l=leaves.map qj:=h;subst h;(refine ze ?_;conv=>whnf)
  repeat' ((with_reducible refine way ?_ ?_)<;>(intro h;conv=>whnf))
  all_goals try (exfalso;omega)
  refine zdf ?_;refine ys [0,3] N (by omega) (by simp [hlen]) (by show ((decide (L<N))&&(true&&true))=true;simp;omega) (by rw [List.take_append_of_le_length (by omega),List.take_of_length_le (by omega)];exact hund) ?_;rw [List.take_append_of_le_length (by omega),List.take_of_length_le (by omega)];obtain ⟨row0,hrow0⟩:∃r,r=leaves.map qj:=⟨_,rfl⟩;rw [<-hrow0] at h0 hK;change SW E _ [(0,.yld L),(3,.imm (zaw (leaves.map qj)))] (Hf s0);rw [<-hrow0];have hr1:1<=row0.length:=by rw [hrow0,List.length_map];exact hl1
  have hr2:row0.length<=1024:=by rw [hrow0,List.length_map];exact hl2
  have hr3:∀x∈row0,x<18446744073709551616:=by
   rw [hrow0];intro x hx;obtain ⟨y,_,rfl⟩:=List.mem_map.1 hx;exact js _
  generalize hR:(ww 1024 row0).foldl step s0=R at hK;refine yq (σ:=σ × List Nat × Nat) (fun y=>[(0,.yld L),(3,.imm (zaw y.2.1))]) (fun y=>Hf y.1)
   (fun y=>(ww y.2.2 y.2.1).foldl step y.1=R/\Iv y.1 y.2.1/\y.2.1.length<=y.2.2/\1<=y.2.1.length/\y.2.1.length<=1024/\(∀x∈y.2.1,x<18446744073709551616)) (fun y=>y.2.1.length) ?_ (s0,row0,1024) ⟨hR,h0,hr2,hr1,hr2,hr3⟩
  clear hR h0 hr1 hr2 hr3 hrow0 hund hlen;rintro ⟨s,row,fu⟩ ⟨i1,i2,i3,i4,i5,i6⟩ ih;simp only at i1 i2 i3 i4 i5 i6;change SW E _ [(0,.yld L),(3,.imm (zaw row))] (Hf s);have hrl:(row.map fun n=>[dU n]).length=row.length:=by simp
  have hyy:=hy s row i2 i4 i5 i6;have hund:=hf.und (step s row);have hlen:=hf.len (step s row);(refine ze ?_;conv=>whnf);refine zoc rfl rfl rfl rfl (hf.loop s) hps rfl (hyy.mono ?_);rintro _ H' ⟨rfl,hl',ht⟩;refine ⟨by rw [hf.len];exact hl',?_⟩
  by_cases hmore:1<row.length
  ·obtain ⟨f',g1,g2⟩:=zpv i3 hmore
   rw [g1,List.foldl_cons] at i1;have hnext:=ih (step s row,zbq row,f') ⟨i1,hiv s row i2,g2,by simp only;rw [zcf];omega,by simp only;rw [zcf];omega,zvd i6⟩ (by simp only;rw [zcf];omega);clear i1 hyy ih;simp only at hnext;generalize step s row=s' at hnext ht hund hlen;(refine zc ?_;conv=>whnf)
   repeat' ((with_reducible refine way ?_ ?_)<;>(intro h;conv=>whnf))
   all_goals try (exfalso;omega)
   refine ys [0,3,6,7] N (by omega) hl' (by show ((decide (L<N))&&(true&&(true&&(true&&true))))=true;simp;omega) (by rw [ht];exact hund) ?_;rw [ht];refine zhy (n:=6) (kk:=1) rfl ?_;rw [hlen];refine zh [0,3,6,7] ?_;change SW E _ [(0,.yld L),(3,.imm (zaw row)),(6,.asl N 1 (([]:List Nat).map fun n=>[dU n])),(7,sI (0:Nat))] (Hf s'++[.tok 1 (([]:List Nat).map fun n=>[dU n]).length]);refine yq (σ:=List Nat × List Nat × Nat) (fun y=>[(0,.yld L),(3,.imm (zaw row)),(6,.asl N 1 (y.1.map fun n=>[dU n])),(7,sI y.2.2)]) (fun y=>Hf s'++[.tok 1 (y.1.map fun n=>[dU n]).length])
    (fun y=>row.drop y.2.2=y.2.1/\zbq row=y.1++zbq y.2.1/\y.2.2+y.2.1.length=row.length/\y.1.length<=y.2.2/\y.2.2 % 2=0) (fun y=>y.2.1.length) ?_ ([],row,0) ⟨rfl,rfl,by simp,Nat.le_refl _,rfl⟩
   rintro ⟨nx,rs,i⟩ ⟨j1,j2,j3,j4,j5⟩ ih2;simp only at j1 j2 j3 j4 j5;change SW E _ [(0,.yld L),(3,.imm (zaw row)),(6,.asl N 1 (nx.map fun n=>[dU n])),(7,sI i)] (Hf s'++[.tok 1 (nx.map fun n=>[dU n]).length]);have hget:∀j,row[i+j]?=rs[j]?:=fun j=>by rw [<-j1,List.getElem?_drop]
   have hw1:=zk (n:=i) (by omega);have htok:∀n,(Hf s'++[SObj.tok 1 n])[N]?=some (.tok 1 n):=fun n=>by rw [List.getElem?_append_right (by omega),hlen];simp
   match rs,j1,j2,j3,ih2,hget with
   |a::b::r,j1,j2,j3,ih2,hget=>
    simp only [List.length_cons] at j3;have ha:(row.map fun n=>[dU n])[i]?=some [dU a]:=by rw [List.getElem?_map,show i=i+0 from rfl,hget 0];rfl
    have hb:(row.map fun n=>[dU n])[i+1]?=some [dU b]:=by rw [List.getElem?_map,hget 1];rfl
    have ra:a<18446744073709551616:=i6 a (List.mem_of_getElem? (hget 0));have rb:b<18446744073709551616:=i6 b (List.mem_of_getElem? (hget 1));have c1:=ylb G a b ra rb;have hnx:=ih2 (nx++[zbu a b],r,i+2) ⟨by rw [show i+2=i+1+1 from rfl, <-List.drop_drop, <-List.drop_drop,j1];rfl,by rw [j2,zbq];simp,by simp only;omega,by simp only [List.length_append,List.length_cons,List.length_nil];omega,by simp only;omega⟩ (by simp only [List.length_cons];omega);have hw2:IntKind.i64.wrap ((i:Int)+2)=((i+2:Nat):Int):=by rw [zr (by omega) (by omega)];omega
    rw [List.map_append,List.length_append] at hnx;(refine ze ?_;conv=>whnf);rw [hw1]
    repeat' ((with_reducible refine way ?_ ?_)<;>(intro h;conv=>whnf))
    all_goals try (exfalso;omega)
    refine wk 0 mixed rfl ?_;have hK1:N+1<=(Hf s'++[SObj.tok 1 (nx.map fun n=>[dU n]).length]++List.replicate 0 SObj.dead).length:=by simp;omega
    have hK2:(Hf s'++[SObj.tok 1 (nx.map fun n=>[dU n]).length]).length<=(Hf s'++[SObj.tok 1 (nx.map fun n=>[dU n]).length]++List.replicate 0 SObj.dead).length:=by simp
    refine jw ⟨_,[],none⟩ rfl rfl hK2 (fun _ _ _=>rfl) ?_;refine jw ⟨_,[],none⟩ rfl rfl hK2 (fun _ _ _=>rfl) ?_;refine jw ⟨_,[],none⟩ rfl rfl hK2 (fun _ _ _=>rfl) ?_;refine qg (i:=i) (row:=[dU a]) rfl hK2 rfl ha ?_;refine jw ⟨_,[],none⟩ rfl rfl hK2 (fun _ _ _=>rfl) ?_;refine jw ⟨_,[],none⟩ rfl rfl hK2 (fun _ _ _=>rfl) ?_;refine jw ⟨_,[],none⟩ rfl rfl hK2 (fun _ _ _=>rfl) ?_;refine jw ⟨_,[],none⟩ rfl rfl hK2 (fun _ _ _=>rfl) ?_;refine qg (i:=i+1) (row:=[dU b]) rfl hK2 hw1 hb ?_;refine jw ⟨_,[],none⟩ rfl rfl hK2 (fun _ _ _=>rfl) ?_;refine zof rfl hK2 c1 ?_;refine jw ⟨_,[],none⟩ rfl rfl hK2 (fun _ _ _=>rfl) ?_;refine zel (b:=N) (kk:=1) (rows:=nx.map fun n=>[dU n]) (new:=[[dU (zbu a b)]]) rfl rfl rfl rfl rfl rfl rfl rfl rfl rfl ⟨show 8<=65536 by decide,rfl⟩ hK2 (by rw [List.replicate_zero,List.append_nil];exact htok _) (by simp;omega) ?_;refine jw ⟨_,[],none⟩ rfl rfl (by rw [List.length_set];exact hK2) (fun _ _ _=>rfl) ?_;refine jh (by kernel_rfl) ?_;(refine ze ?_;conv=>whnf);rw [hw2];refine zh [0,3,6,7] ?_;have eH:zfu (Hf s'++[SObj.tok 1 (nx.map fun n=>[dU n]).length]++List.replicate 0 SObj.dead) (some (N,.tok 1 ((nx.map fun n=>[dU n])++[[dU (zbu a b)]]).length))=Hf s'++[.tok 1 ((nx.map fun n=>[dU n]).length+([zbu a b].map fun n=>[dU n]).length)]:=by
     show (Hf s'++[SObj.tok 1 (nx.map fun n=>[dU n]).length]++List.replicate 0 SObj.dead).set N _=_;rw [List.replicate_zero,List.append_nil,List.set_append_right _ _ (by omega),hlen,Nat.sub_self,List.length_append];rfl
    refine Eq.mpr (congrArg (fun h=>SW E _ _ h) eH) ?_;exact hnx
   |[x],j1,j2,j3,ih2,hget=>
    simp only [List.length_cons,List.length_nil] at j3;have hm:(((row.map fun n=>[dU n]).length:Nat):Int).tmod 2=1:=by rw [Int.tmod_eq_emod_of_nonneg (by omega)];omega
    have hx:(row.map fun n=>[dU n])[i]?=some [dU x]:=by rw [List.getElem?_map,show i=i+0 from rfl,hget 0];rfl
    have hw3:IntKind.i64.wrap ((((row.map fun n=>[dU n]).length:Nat):Int)-1)=(i:Int):=by rw [zr (by omega) (by omega)];omega
    (refine ze ?_;conv=>whnf);rw [hw1]
    repeat' ((with_reducible refine way ?_ ?_)<;>(intro h;conv=>whnf))
    all_goals try (exfalso;omega)
    ·refine zi (i:=i) (row:=[dU x]) rfl hw3 hx ?_
     (refine zj [777,61] 1000 ?_;conv=>whnf);refine yj (b:=N) (kk:=1) (rows:=nx.map fun n=>[dU n]) (new:=[[dU x]]) rfl ⟨by decide,rfl⟩ (htok _) (by simp;omega) ?_;(refine zc ?_;conv=>whnf);refine zdf ?_;refine ys [0,3] N (by omega) (by simp [hlen]) (by show ((decide (L<N))&&(true&&true))=true;simp;omega) ?_ ?_
     all_goals rw [List.set_append_right _ _ (by omega),List.take_append_of_le_length (by omega),List.take_of_length_le (by omega)]
     ·exact hund
     ·have e:zbq row=nx++[x]:=j2
      rw [e] at hnext;have e5:(nx.map fun n=>[dU n])++[[dU x]]=(nx++[x]).map fun n=>[dU n]:=by simp
      refine Eq.mpr (congrArg (fun v=>SW E _ [(0,.yld L),(3,.imm (.isl 1 v))] _) e5) ?_;exact hnext
   |[],j1,j2,j3,ih2,hget=>
    simp only [List.length_nil] at j3;have hm:¬(((row.map fun n=>[dU n]).length:Nat):Int).tmod 2=1:=by rw [Int.tmod_eq_emod_of_nonneg (by omega)];omega
    (refine ze ?_;conv=>whnf);rw [hw1]
    repeat' ((with_reducible refine way ?_ ?_)<;>(intro h;conv=>whnf))
    all_goals try (exfalso;omega)
    ·refine zdf ?_
     refine ys [0,3] N (by omega) (by simp [hlen]) (by show ((decide (L<N))&&(true&&true))=true;simp;omega) ?_ ?_
     all_goals rw [List.take_append_of_le_length (by omega),List.take_of_length_le (by omega)]
     ·exact hund
     ·have e:zbq row=nx:=by rw [j2];simp [zbq]
      rw [e] at hnext;exact hnext
  ·rw [zsw _ hmore] at i1
   (refine zc ?_;conv=>whnf)
   repeat' ((with_reducible refine way ?_ ?_)<;>(intro h;conv=>whnf))
   all_goals try (exfalso;omega)
   exact hK _ _ ⟨hl',by rw [ht, <-i1];rfl⟩
 ·rintro done x rest l hda hdl h ih
  have hdn:l=done.map qj:=h;have hw:=zk (n:=done.length) (by omega);have hrow:(leaves.map fun s=>[dS s])[((done.length:Nat):Int).toNat]?=some [dS x]:=by simp [hda]
  have hxs:=hsz x (by rw [hda];simp);have c1:=zve G x hxs;have c2:=jy G (⟨#[0]⟩++x) (by rw [ByteArray.size_append];show 1+x.size<=_;omega);change zq _ _ _ _ (yy (qj x)) at c2;have hll:l.length=done.length:=by rw [hdn];simp
  (refine ze ?_;conv=>whnf)
  repeat' ((with_reducible refine way ?_ ?_)<;>(intro h;conv=>whnf))
  all_goals try (exfalso;omega)
  refine zi rfl rfl  hrow ?_;(refine zc ?_;conv=>whnf);refine zd rfl  c1 ?_;(refine zc ?_;conv=>whnf);refine zd rfl  c2 ?_;(refine zc ?_;conv=>whnf);refine yj (b:=N) (kk:=1) (rows:=l.map fun n=>[dU n]) (new:=[[dU (qj x)]]) rfl ⟨by decide,rfl⟩ (by rw [List.getElem?_append_right (by omega),hlen];simp) (by rw [List.length_map];simp only [List.length_cons,List.length_nil];omega) ?_;(refine zc ?_;conv=>whnf);rw [hw,List.set_append_right _ _ (by omega),hlen,Nat.sub_self];refine zh [0,3,8,9,10] ?_;have:=ih (l++[qj x]) (by show l++[qj x]=(done++[x]).map qj;rw [hdn];simp);rw [List.map_append,List.length_append] at this;exact this
def zjc (leaves:List ByteArray):Nat:=(ww 1024 (leaves.map qj)).foldl (fun _ r=>r.getD 0 0) 0
def RH (leaves:List ByteArray) (lp:SObj) (v:Nat):List SObj:=[.cells [yy v],.cells [.imm (yh leaves)],lp]
theorem zpx (G : List (Nat × D)) (leaves : List ByteArray) (hl1 : 1 <= leaves.length) (hl2 : leaves.length <= 1024) (hsz : ∀ x ∈ leaves, x.size <= 1000000000000) :
    zq Tryz.prog G 50 [.imm (yh leaves)] (.tup [yy (zjc leaves), sI (0 : Nat)]) := by
  have c0 := zpw G leaves hl1 hl2
  refine zg Tryz.func50 rfl (by rw [Tryz.ntmps50]; simp) rfl rfl ?_; intro E hH hK
  (refine ze ?_; conv => whnf)
  refine zd rfl  c0 ?_
  (refine zc ?_; conv => whnf)
  refine ye rfl rfl rfl rfl rfl rfl ((zyh G leaves _).mono ?_)
  rintro _ _ ⟨rfl, rfl⟩
  refine ⟨by simp, ?_⟩
  (refine zc ?_; conv => whnf)
  refine zh [5, 13] ?_
  change SW E _ [(5, .ptr 0 0), (13, .fn (.func 130) [] [.ptr 1 0])] [.cells [yy (0 : Nat)], .cells [.imm (yh leaves)]]
  refine zcd rfl rfl ?_
  refine (zme G (σ := Nat) (Hf := RH leaves (.loop .ready E.f _ [(5, .ptr 0 0), (13, .fn (.func 130) [] [.ptr 1 0])] _ _ _)) (N := 3) (b := 1) (L := 2) (leaves := leaves)
    ⟨fun _ => rfl, fun _ => rfl, fun _ => rfl, fun _ => rfl, by decide, by decide⟩ rfl (fun _ r => r.getD 0 0) hl1 hl2 hsz (fun _ _ => True) (fun _ _ _ => trivial) ?_ 0 trivial).mono ?_
  · intro v row _ h1 h2 h3
    have hrow : (row.map fun n => [dU n])[((0 : Nat) : Int).toNat]? = some [dU (row.getD 0 0)] := by
      cases row with
      | nil => simp at h1
      | cons a r => rfl
    refine zce (b := 2) rfl E.hfn rfl (by decide) ?_
    intro E3 hl3 hOwn hKR
    (refine ze ?_; conv => whnf)
    refine zjm hOwn rfl ?_
    (refine ze ?_; conv => whnf)
    refine zi rfl rfl  hrow ?_
    (refine zc ?_; conv => whnf)
    exact hKR none _ _ (Nat.le_refl _) rfl ⟨rfl, Nat.le_refl _, rfl⟩
  · rintro r H' ⟨hl, ht⟩
    have hg2 : H'[2]? = (H'.take 3)[2]? := by rw [List.getElem?_take, if_pos (by decide)]
    refine ⟨hl, .ready, [(5, .ptr 0 0), (13, .fn (.func 130) [] [.ptr 1 0])], by show H'[2]? = _; rw [hg2, ht]; rfl, .inl ⟨rfl, ?_⟩⟩
    have ht2 : (H'.set 2 .dead).take 2 = [.cells [yy (zjc leaves)], .cells [.imm (yh leaves)]] := by
      rw [List.take_set_of_le (Nat.le_refl _)]
      have : H'.take 2 = (H'.take 3).take 2 := by rw [List.take_take]; rfl
      rw [this, ht]
      rfl
    refine ys [5] 2 (by rw [hH]; exact Nat.zero_le _) (by simp; omega) rfl (by show (List.take 2 (H'.set 2 .dead)).all (SObj.under 2) = true; rw [ht2]; rfl) ?_
    show SW E _ _ ((H'.set 2 .dead).take 2)
    rw [ht2]
    (refine ze ?_; conv => whnf)
    exact hK _
def zkg (s:Nat × List Frk) (row:List Nat):Nat × List Frk:=
 (s.1 / 2,if s.1 % 2=1 then s.2++[⟨row.getD (s.1-1) 0,true⟩] else if s.1+1<row.length then s.2++[⟨row.getD (s.1+1) 0,false⟩] else s.2)
def zkh (leaves:List ByteArray) (i:Nat):List Frk:=((ww 1024 (leaves.map qj)).foldl zkg (i,[])).2
def PH (leaves:List ByteArray) (lp:SObj) (s:Nat × List Frk):List SObj:=[.cells [sI s.1],.cells [.asl 2 2 (s.2.map Frk.cells)],.tok 2 (s.2.map Frk.cells).length,.cells [.imm (yh leaves)],lp]
theorem zyi (G : List (Nat × D)) (leaves : List ByteArray) (i : Nat) (hi : i < leaves.length) (hl2 : leaves.length <= 1024) (hsz : ∀ x ∈ leaves, x.size <= 1000000000000) :
    zq Tryz.prog G 48 [.imm (yh leaves), sI i] (.tup [.imm (xh (zkh leaves i)), sI (0 : Nat)]) := by
  have c0 := zpw G leaves (by omega) hl2
  have hlm : (leaves.map fun s => [dS s]).length = leaves.length := by simp
  refine zg Tryz.func48 rfl (by rw [Tryz.ntmps48]; simp) rfl rfl ?_; intro E hH hK
  (refine ze ?_; conv => whnf)
  refine zd rfl  c0 ?_
  (refine zc ?_; conv => whnf)
  repeat' ((with_reducible refine way ?_ ?_) <;> (intro h; conv => whnf))
  all_goals try (exfalso; omega)
  refine zbc (fun _ h => zek 1 0 2 (cs := [.imm (.val (.slice none 0 0))]) rfl rfl h) ?_
  refine ye rfl rfl rfl rfl rfl rfl ((zyh G leaves _).mono ?_)
  rintro _ _ ⟨rfl, rfl⟩
  refine ⟨by simp, ?_⟩
  (refine zc ?_; conv => whnf)
  refine zh [3, 7, 23] ?_
  change SW E _ [(3, .ptr 0 0), (7, .ptr 1 0), (23, .fn (.func 130) [] [.ptr 3 0])] [.cells [sI i], .cells [.asl 2 2 (([] : List Frk).map Frk.cells)], .tok 2 (([] : List Frk).map Frk.cells).length, .cells [.imm (yh leaves)]]
  refine zcd rfl rfl ?_
  refine (zme G (σ := Nat × List Frk) (Hf := PH leaves (.loop .ready E.f _ [(3, .ptr 0 0), (7, .ptr 1 0), (23, .fn (.func 130) [] [.ptr 3 0])] _ _ _)) (N := 5) (b := 3) (L := 4) (leaves := leaves)
    ⟨fun _ => rfl, fun _ => rfl, fun _ => rfl, fun _ => rfl, by decide, by decide⟩ rfl zkg (by omega) hl2 hsz (fun s row => s.1 < row.length /\ s.2.length + row.length <= 2000) ?_ ?_ (i, []) ⟨by simp only [List.length_map]; exact hi, by simp only [List.length_map, List.length_nil]; omega⟩).mono ?_
  · rintro ⟨i, p⟩ row ⟨h1, h2⟩
    simp only at h1 h2
    refine ⟨by simp only [zkg]; rw [zcf]; omega, ?_⟩
    simp only [zkg]
    rw [zcf]
    split
    · rw [List.length_append]; simp only [List.length_cons, List.length_nil]; omega
    · split
      · rw [List.length_append]; simp only [List.length_cons, List.length_nil]; omega
      · omega
  · rintro ⟨i, p⟩ row ⟨h1, h2⟩ h3 h4 h5
    simp only at h1 h2
    have hrl : (row.map fun n => [dU n]).length = row.length := by simp
    have hm : (i : Int).tmod 2 = ((i % 2 : Nat) : Int) := by rw [Int.tmod_eq_emod_of_nonneg (by omega)]; rfl
    have hq : (i : Int).tdiv 2 = ((i / 2 : Nat) : Int) := by rw [Int.tdiv_eq_ediv_of_nonneg (by omega)]; rfl
    refine zce (b := 4) rfl E.hfn rfl (by decide) ?_
    intro E3 hl3 hOwn hKR
    (refine ze ?_; conv => whnf)
    refine zjm hOwn rfl ?_
    (refine ze ?_; conv => whnf)
    have hwq : IntKind.i64.wrap ((i : Int).tdiv 2) = ((i / 2 : Nat) : Int) := by rw [hq, zr (by omega) (by omega)]
    have hw2 := zk (n := i) (by omega)
    rw [hm]
    repeat' ((with_reducible refine way ?_ ?_) <;> (intro h; conv => whnf))
    · have hodd : i % 2 = 1 := by omega
      have hw1 : IntKind.i64.wrap ((i : Int) - 1) = ((i - 1 : Nat) : Int) := by rw [zr (by omega) (by omega)]; omega
      have hs2 : zkg (i, p) row = (i / 2, p ++ [⟨row.getD (i - 1) 0, true⟩]) := by simp only [zkg, if_pos hodd]
      rw [hs2] at hKR
      have hg : (row.map fun n => [dU n])[i - 1]? = some [dU (row.getD (i - 1) 0)] := by
        rw [List.getElem?_map, List.getD_eq_getElem?_getD, List.getElem?_eq_getElem (by omega)]
        rfl
      generalize row.getD (i - 1) 0 = v at hg hKR hs2 ⊢
      refine zh [3, 7, 8] ?_
      change SW E3 _ [(3, .ptr 0 0), (7, .ptr 1 0), (8, .imm (zaw row))] [.cells [sI i], .cells [.asl 2 2 (p.map Frk.cells)], .tok 2 (p.map Frk.cells).length, .cells [.imm (yh leaves)], _]
      (refine wk 0 mixed rfl ?_; refine zn [777] (nx := 5) ?_; conv => whnf)
      refine qg (i := i - 1) (row := [dU v]) rfl (show 5 <= 5 by decide) hw1 hg ?_
      (refine zn [777] (nx := 5) ?_; conv => whnf)
      refine zel (b := 2) (kk := 2) (rows := p.map Frk.cells) (new := [[dU v, dB true]]) rfl rfl rfl rfl rfl rfl rfl rfl rfl rfl ⟨show 16 <= 65536 by decide, rfl⟩ (show 5 <= 5 by decide) rfl (by simp; omega) ?_
      refine yv (b := 1) (off := 0) (d := []) (zz := .asl 2 2 (p.map Frk.cells)) (r := []) (v := .asl 2 2 (p.map Frk.cells ++ [[dU v, dB true]])) rfl rfl rfl rfl rfl rfl rfl rfl (show 5 <= 5 by decide) rfl rfl ?_
      refine jh (by kernel_rfl) ?_
      (refine ze ?_; conv => whnf)
      refine hKR none _ _ (Nat.le_refl _) rfl ⟨rfl, Nat.le_refl _, ?_⟩
      simp only [PH, List.map_append]
      rw [<- hwq]
      rfl
    · have h2 : IntKind.i64.wrap ((i : Int) + 1) < (((row.map fun n => [dU n]).length : Nat) : Int) := h
      rw [hw2, hrl] at h2
      have hodd : ¬ i % 2 = 1 := by omega
      have h3 : i + 1 < row.length := by omega
      have hs2 : zkg (i, p) row = (i / 2, p ++ [⟨row.getD (i + 1) 0, false⟩]) := by simp only [zkg, if_neg hodd, if_pos h3]
      rw [hs2] at hKR
      have hg : (row.map fun n => [dU n])[i + 1]? = some [dU (row.getD (i + 1) 0)] := by
        rw [List.getElem?_map, List.getD_eq_getElem?_getD, List.getElem?_eq_getElem (by omega)]
        rfl
      generalize row.getD (i + 1) 0 = v at hg hKR hs2 ⊢
      refine zh [3, 7, 8] ?_
      change SW E3 _ [(3, .ptr 0 0), (7, .ptr 1 0), (8, .imm (zaw row))] [.cells [sI i], .cells [.asl 2 2 (p.map Frk.cells)], .tok 2 (p.map Frk.cells).length, .cells [.imm (yh leaves)], _]
      (refine wk 0 mixed rfl ?_; refine zn [777] (nx := 5) ?_; conv => whnf)
      refine qg (i := i + 1) (row := [dU v]) rfl (show 5 <= 5 by decide) hw2 hg ?_
      (refine zn [777] (nx := 5) ?_; conv => whnf)
      refine zel (b := 2) (kk := 2) (rows := p.map Frk.cells) (new := [[dU v, dB false]]) rfl rfl rfl rfl rfl rfl rfl rfl rfl rfl ⟨show 16 <= 65536 by decide, rfl⟩ (show 5 <= 5 by decide) rfl (by simp; omega) ?_
      refine yv (b := 1) (off := 0) (d := []) (zz := .asl 2 2 (p.map Frk.cells)) (r := []) (v := .asl 2 2 (p.map Frk.cells ++ [[dU v, dB false]])) rfl rfl rfl rfl rfl rfl rfl rfl (show 5 <= 5 by decide) rfl rfl ?_
      refine jh (by kernel_rfl) ?_
      (refine ze ?_; conv => whnf)
      refine hKR none _ _ (Nat.le_refl _) rfl ⟨rfl, Nat.le_refl _, ?_⟩
      simp only [PH, List.map_append]
      rw [<- hwq]
      rfl
    · have h2 : ¬ IntKind.i64.wrap ((i : Int) + 1) < (((row.map fun n => [dU n]).length : Nat) : Int) := h
      rw [hw2, hrl] at h2
      have hodd : ¬ i % 2 = 1 := by omega
      have h3 : ¬ i + 1 < row.length := by omega
      have hs2 : zkg (i, p) row = (i / 2, p) := by simp only [zkg, if_neg hodd, if_neg h3]
      rw [hs2] at hKR
      refine hKR none _ _ (Nat.le_refl _) rfl ⟨rfl, Nat.le_refl _, ?_⟩
      simp only [PH]
      rw [<- hwq]
      rfl
  · rintro r H' ⟨hl, ht⟩
    have hg2 : H'[4]? = (H'.take 5)[4]? := by rw [List.getElem?_take, if_pos (by decide)]
    refine ⟨hl, .ready, [(3, .ptr 0 0), (7, .ptr 1 0), (23, .fn (.func 130) [] [.ptr 3 0])], by show H'[4]? = _; rw [hg2, ht]; rfl, .inl ⟨rfl, ?_⟩⟩
    obtain ⟨⟨ie, pe⟩, hse⟩ : ∃ s, (ww 1024 (leaves.map qj)).foldl zkg (i, []) = s := ⟨_, rfl⟩
    have hpe : zkh leaves i = pe := by unfold zkh; rw [hse]
    rw [hse] at ht
    rw [hpe] at hK
    have ht2 : (H'.set 4 .dead).take 3 = [.cells [sI ie], .cells [.asl 2 2 (pe.map Frk.cells)], .tok 2 (pe.map Frk.cells).length] := by
      rw [List.take_set_of_le (by decide)]
      have : H'.take 3 = (H'.take 5).take 3 := by rw [List.take_take]; rfl
      rw [this, ht]
      rfl
    refine ys [7] 3 (by rw [hH]; exact Nat.zero_le _) (by simp; omega) rfl (by show (List.take 3 (H'.set 4 .dead)).all (SObj.under 3) = true; rw [ht2]; rfl) ?_
    show SW E _ _ ((H'.set 4 .dead).take 3)
    rw [ht2]
    refine zdp ?_
    (refine ze ?_; conv => whnf)
    exact hK _
theorem ypi (G:List (Nat × D)) (l:List UInt8) (s:ByteArray) (h0:s.data.toList≠[]) (hl:l.length+s.size<=1000000):SCall Tryz.prog G 93 [.ptr 0 0,sS s] (zun l) (fun r H'=>r= .tup [sI s.size,.imm (.val .nilIface)]/\H'=zun (l++s.data.toList)):=by
 cases l with
 |nil=>
  have hb:zun ([]++s.data.toList)=zqz s.data.toList:=by
   rw [List.nil_append];generalize s.data.toList=x at h0;cases x with
   |nil=>exact absurd rfl h0
   |cons y x=>rfl
  rw [hb];exact zvc G s (by omega)
 |cons x l=>exact jz G (x::l) s hl
theorem yst (l x:List UInt8):(zun l).length<=(zun (l++x)).length:=by
 cases l with
 |nil=>cases x with
  |nil=>exact Nat.le_refl _
  |cons y x=>exact Nat.le_succ 1
 |cons y l=>exact Nat.le_refl 2
noncomputable def leafK (seed:ByteArray) (j:Int):List UInt8:=(List.range 18).flatMap fun (k:Nat)=>(zea (chainN 15 (yed seed j k))).data.toList
noncomputable def leavesN (seed:ByteArray) (h:Nat):List ByteArray:=(List.range (2 ^ h)).map fun (j:Nat)=>⟨(leafK seed j).toArray⟩
theorem zaa (seed:ByteArray) (h:Nat):(leavesN seed h).length=2 ^ h:=by simp [leavesN]
theorem zpy (d:Nat):(zea d).data.toList.length=16:=by
 have:=jn d;rw [Array.length_toList];exact this
theorem zpz (seed:ByteArray) (h:Nat) (hs:seed.size<=1000000000000) (hh:h<=8):zq Tryz.prog G37 51 [sS seed,sI h] (.imm (yh (leavesN seed h))):=by
 have hp:=yvx h hh;have h256:2 ^ h<=256:=Nat.le_trans (Nat.pow_le_pow_right (by decide) hh) (by decide);have hlen:=zaa seed h;unfold leavesN at hlen ⊢;generalize hL:2 ^ h=L at hp h256 hlen ⊢;refine zg Tryz.func51 rfl (by rw [Tryz.ntmps51];simp) rfl rfl ?_;intro E hH hK;(refine zo [777,10] 1000 ?_;conv=>whnf);refine yjv rfl rfl rfl rfl rfl (by omega) ?_;rw [Int.toNat_natCast,hp];(refine zc ?_;conv=>whnf);refine zhy (n:=5) (kk:=1) rfl ?_;refine zh [0,5,10,11] ?_;change SW E _ [(0,sS seed),(5,.asl 0 1 (([]:List ByteArray).map fun s=>[dS s])),(10,sI L),(11,sI (0:Nat))] [.tok 1 (([]:List ByteArray).map fun s=>[dS s]).length];have hrl:(List.range L).length=L:=List.length_range;rw [show sI (L:Nat)=sI ((List.range L).length:Nat) by rw [hrl]];refine zp (List.range L) (fun i (l:List ByteArray)=>[(0,sS seed),(5,.asl 0 1 (l.map fun s=>[dS s])),(10,sI (List.range L).length),(11,sI i)]) (fun _ l=>[.tok 1 (l.map fun s=>[dS s]).length])
  (fun done _ l=>l=done.map fun (j:Nat)=>(⟨(leafK seed j).toArray⟩:ByteArray)) [] rfl ?_ ?_
 ·rintro l h1
  have h1:l=(List.range L).map fun (j:Nat)=>(⟨(leafK seed j).toArray⟩:ByteArray):=h1
  subst h1;refine zdf ?_;change SW E _ [(0,sS seed),(5,.imm (yh ((List.range L).map fun (j:Nat)=>(⟨(leafK seed j).toArray⟩:ByteArray)))),(10,sI (List.range L).length),(11,sI (List.range L).length)] _;generalize ((List.range L).map fun (j:Nat)=>(⟨(leafK seed j).toArray⟩:ByteArray))=ls at hK ⊢;(refine ze ?_;conv=>whnf)
  repeat' ((with_reducible refine way ?_ ?_)<;>(intro h;conv=>whnf))
  all_goals try (exfalso;omega)
  exact hK _
 ·rintro done j rest l hda hdl h1 ih
  have h1:l=done.map fun (j:Nat)=>(⟨(leafK seed j).toArray⟩:ByteArray):=h1
  have hj:j=done.length:=by
   have h2:(List.range L)[done.length]?=some j:=by rw [hda];simp
   rw [List.getElem?_range (by omega)] at h2;exact (Option.some.inj h2).symm
  have hw:=zk (n:=done.length) (by omega);have hll:l.length=done.length:=by rw [h1];simp
  have hnx:=ih (l++[⟨(leafK seed j).toArray⟩]) (by show l++_=(done++[j]).map _;rw [h1];simp);rw [List.map_append,List.length_append] at hnx;clear ih h1;(refine zo [777,7] 1000 ?_;conv=>whnf)
  repeat' ((with_reducible refine way ?_ ?_)<;>(intro h;conv=>whnf))
  all_goals try (exfalso;omega)
  refine zen rfl rfl rfl rfl rfl ?_;(refine zc ?_;conv=>whnf);refine zh [0,5,6,7,10,11,14] ?_;change SW E _ [(0,sS seed),(5,.asl 0 1 (l.map fun s=>[dS s])),(6,sI done.length),(7,.ptr 1 0),(10,sI (List.range L).length),(11,sI done.length),(14,sI (0:Nat))] ([.tok 1 (l.map fun s=>[dS s]).length]++(zun []).map (SObj.sh 1));refine zp (List.range 18) (fun i (_:List UInt8)=>[(0,sS seed),(5,.asl 0 1 (l.map fun s=>[dS s])),(6,sI done.length),(7,.ptr 1 0),(10,sI (List.range L).length),(11,sI done.length),(14,sI i)]) (fun _ l2=>[.tok 1 (l.map fun s=>[dS s]).length]++(zun l2).map (SObj.sh 1))
   (fun done2 _ l2=>l2=done2.flatMap (fun (k:Nat)=>(zea (chainN 15 (yed seed done.length k))).data.toList)/\l2.length=16*done2.length) [] ⟨rfl,rfl⟩ ?_ ?_
  ·rintro l2 ⟨h2,h3⟩
   have h2:l2=leafK seed done.length:=h2;rw [hj, <-h2] at hnx;have h3:l2.length=16*18:=h3;have h0:l2≠[]:=by intro e;rw [e] at h3;cases h3
   have hstr:=zit (zeo G37 l2 h0 (by omega)) [.tok 1 (l.map fun s=>[dS s]).length];have hb:zun l2=zqz l2:=by cases l2 with|nil=>exact absurd rfl h0|cons x l=>rfl
   rw [hb];(refine ze ?_;conv=>whnf)
   repeat' ((with_reducible refine way ?_ ?_)<;>(intro h;conv=>whnf))
   all_goals try (exfalso;omega)
   refine ye rfl rfl rfl rfl rfl rfl (hstr.mono ?_);rintro _ _ ⟨_,_,⟨rfl,rfl⟩,rfl,rfl⟩;refine ⟨Nat.le_refl _,?_⟩;(refine zc ?_;conv=>whnf);refine yj (b:=0) (kk:=1) (rows:=l.map fun s=>[dS s]) (new:=[[dS ⟨l2.toArray⟩]]) rfl ⟨by decide,rfl⟩ rfl (by rw [List.length_map];simp only [List.length_cons,List.length_nil];omega) ?_;(refine zc ?_;conv=>whnf);rw [hw];exact ys [0,5,10,11] 1 (by rw [hH];exact Nat.zero_le _) (Nat.succ_le_succ (Nat.zero_le _)) rfl rfl hnx
  ·rintro done2 k rest2 l2 hda2 hdl2 ⟨h2,h3⟩ ih2
   have hk:k=done2.length:=by
    have h4:(List.range 18)[done2.length]?=some k:=by rw [hda2];simp
    rw [List.getElem?_range (by simp at hdl2;omega)] at h4;exact (Option.some.inj h4).symm
   have hk18:done2.length<18:=by simp at hdl2;omega
   have hw2:=zk (n:=done2.length) (by omega);have c1:=zpt seed (done.length:Int) (done2.length:Int) hs (by omega) (by omega);have hsl:yed seed done.length done2.length<18446744073709551616:=js _;have hnx2:=ih2 (l2++(zea (chainN 15 (yed seed done.length done2.length))).data.toList) ⟨by rw [h2,hk,List.flatMap_append];simp,by rw [List.length_append,zpy,List.length_append,h3];simp only [List.length_cons,List.length_nil];omega⟩;generalize yed seed done.length done2.length=sec at c1 hsl hnx2;have c2:=zyg sec 15 hsl (by decide);have hcl:=zyf hsl 15;generalize chainN 15 sec=cc at c2 hcl hnx2;have c3:=zps cc hcl;have hhx:=zpy cc;have hhz:=jn cc;generalize zea cc=hx at c3 hhx hhz hnx2;have c4:=zit (ypi G37 l2 hx (by intro e;rw [e] at hhx;cases hhx) (by omega)) [.tok 1 (l.map fun s=>[dS s]).length];(refine ze ?_;conv=>whnf)
   repeat' ((with_reducible refine way ?_ ?_)<;>(intro h;conv=>whnf))
   all_goals try (exfalso;omega)
   refine zd rfl  c1 ?_;(refine zc ?_;conv=>whnf);refine zd rfl  c2 ?_;(refine zc ?_;conv=>whnf);refine zd rfl  c3 ?_;(refine zc ?_;conv=>whnf);refine ye rfl rfl rfl rfl rfl rfl (c4.mono ?_);rintro _ _ ⟨_,_,⟨rfl,rfl⟩,rfl,rfl⟩;refine ⟨by have:=yst l2 hx.data.toList;simp only [List.length_append,List.length_map];omega,?_⟩;(refine zc ?_;conv=>whnf);rw [hw2];exact zh [0,5,6,7,10,11,14] hnx2
theorem zqa (G:List (Nat × D)) (seed:ByteArray) (h:Nat) (hs:seed.size<=64) (hh:h<=8):zq Tryz.prog G 49 [sS seed,sI h] (sB true):=by
 have h1:((seed.size:Nat):Int)<=64:=by omega
 have h2:0<=(h:Int):=by omega
 have h3:(h:Int)<=8:=by omega
 refine zg Tryz.func49 rfl (by rw [Tryz.ntmps49];simp) rfl rfl ?_;intro E hH hK;(refine ze ?_;conv=>whnf)
 repeat' ((with_reducible refine way ?_ ?_)<;>(intro h;conv=>whnf))
 all_goals try (exfalso;omega)
 exact kB hK (by simp [h1,h2,h3])
noncomputable def keyN (seed:ByteArray) (h:Nat):Nat:=zjc (leavesN seed h)
theorem yle (seed:ByteArray) (j:Int):(⟨(leafK seed j).toArray⟩:ByteArray).size=288:=by
 show (leafK seed j).toArray.size=288;rw [List.size_toArray];unfold leafK;rw [List.length_flatMap];simp only [zpy];rfl
theorem zmf (seed:ByteArray) (h:Nat):∀x∈leavesN seed h,x.size=288:=by
 intro x hx;unfold leavesN at hx;obtain ⟨j,_,rfl⟩:=List.mem_map.1 hx;exact yle seed j
theorem ypj (seed:ByteArray) (h:Nat) (hs:seed.size<=64) (hh:h<=8):zq Tryz.prog G37 12 [sS seed,sI h] (.tup [yy (keyN seed h),sI (0:Nat)]):=by
 have c1:=zqa G37 seed h hs hh;have c2:=zpz seed h (by omega) hh;have h256:2 ^ h<=256:=Nat.le_trans (Nat.pow_le_pow_right (by decide) hh) (by decide);have hpos:0<2 ^ h:=Nat.pow_pos (by decide);have c3:=zpx G37 (leavesN seed h) (by rw [zaa];omega) (by rw [zaa];omega) (fun x hx=>by rw [zmf seed h x hx];decide);change zq _ _ _ _ (.tup [yy (keyN seed h),_]) at c3;generalize keyN seed h=key at c3 ⊢;generalize leavesN seed h=ls at c2 c3;refine zg Tryz.func12 rfl (by rw [Tryz.ntmps12];simp) rfl rfl ?_;intro E hH hK;(refine ze ?_;conv=>whnf);refine zd rfl  c1 ?_;(refine zc ?_;conv=>whnf);refine zd rfl  c2 ?_;(refine zc ?_;conv=>whnf);refine zd rfl  c3 ?_;(refine zc ?_;conv=>whnf);exact hK _
theorem yus {a:Nat} (ha:a<18446744073709551616):IntKind.i64.wrap ((BitVec.ofInt IntKind.i64.bits (IntKind.i64.wrap (a:Int))&&&BitVec.ofInt IntKind.i64.bits 15).toNat:Int)=((a % 16:Nat):Int):=by
 have h1:BitVec.ofInt 64 (IntKind.i64.wrap (a:Int))=BitVec.ofNat 64 a:=by
  apply BitVec.eq_of_toNat_eq
  rw [BitVec.toNat_ofInt,BitVec.toNat_ofNat];have hb:IntKind.i64.bits=64:=rfl;have hs:IntKind.i64.signed=true:=rfl;unfold IntKind.wrap;simp only [hb,hs,Bool.true_and];split<;>omega
 have h:(BitVec.ofInt IntKind.i64.bits (IntKind.i64.wrap (a:Int))&&&BitVec.ofInt IntKind.i64.bits 15).toNat=a % 16:=by
  show (BitVec.ofInt 64 (IntKind.i64.wrap (a:Int))&&&BitVec.ofInt 64 ((15:Nat):Int)).toNat=a % 16;rw [h1,zfg,BitVec.toNat_and,BitVec.toNat_ofNat,BitVec.toNat_ofNat,Nat.mod_eq_of_lt (show a<2 ^ 64 by omega),Nat.mod_eq_of_lt (by decide)];exact Nat.and_two_pow_sub_one_eq_mod a 4
 rw [h,zr (by omega) (by omega)]
theorem ylf {cs:List SV} {i:Nat} {v:SV} (h:cs[i]?=some v):zij Tryz.prog 3 cs i=some v:=by
 have hp:yqy Tryz.prog 3=some false:=rfl;simp only [zij,hp];exact h
theorem zvf (G:List (Nat × D)) (s:ByteArray) (hs:s.size<=9223372036854775807):zq Tryz.prog G 86 [sS s] (.agg ((zsb s).map fun (n:Nat)=>sI n)):=by
 have hh:=jy G s hs;have hlt:=js s;unfold zsb;generalize wx s=d at hh hlt;refine zg Tryz.func86 rfl (by rw [Tryz.ntmps86];simp) rfl rfl ?_;intro E hH hK;(refine ze ?_;conv=>whnf);refine zd rfl  hh ?_;(refine zc ?_;conv=>whnf);refine zh [2,3,4,5,10] ?_;change SW E _ [(2,.ptr 0 0),(3,.ptr 1 0),(4,yy d),(5,sI (0:Nat)),(10,sI (0:Nat))] [.cells (List.replicate 18 (sI 0)),.cells (([]:List Nat).map (fun (n:Nat)=>sI n)++List.replicate 18 (sI 0))];refine zp (List.range 16) (fun j (l:List Nat)=>[(2,.ptr 0 0),(3,.ptr 1 0),(4,yy d),(5,sI (wm l)),(10,sI j)]) (fun i l=>[.cells (List.replicate 18 (sI 0)),.cells (l.map (fun (n:Nat)=>sI n)++List.replicate (18-i) (sI 0))])
  (fun done _ l=>l=(List.range done.length).map (nib d)) [] rfl ?_ ?_
 ·rintro l h
  have h:l=zsa d:=h;have hr:wm (zsa d)<=240:=zem 16 (nib d);have hn:(zsa d).length=16:=by simp [zsa]
  rw [<-h] at hr hn hK;clear h;have d1:IntKind.i64.wrap ((wm l:Int).tdiv 16)=((wm l / 16:Nat):Int):=by
   rw [Int.tdiv_eq_ediv_of_nonneg (by omega),zr (by omega) (by omega)];rfl
  have d2:(wm l:Int).tmod 16=((wm l % 16:Nat):Int):=by
   rw [Int.tmod_eq_emod_of_nonneg (by omega)];rfl
  generalize wm l=c at*
  match l,hn with
  |[a0,a1,a2,a3,a4,a5,a6,a7,a8,a9,a10,a11,a12,a13,a14,a15],_=>
  (refine ze ?_;conv=>whnf)
  repeat' ((with_reducible refine way ?_ ?_)<;>(intro h;conv=>whnf))
  all_goals try (exfalso;omega)
  rw [d1,d2];exact hK _
 ·rintro done j rest l hda hdl h ih
  have hj:done.length<16:=by simp at hdl;omega
  have hsh:=yag d done.length hj;have hll:l.length=done.length:=by rw [h];simp
  have hr:wm l<=15*done.length:=by rw [h];exact zem _ _
  have hnx:=ih (l++[nib d done.length]) (by rw [List.length_append,List.length_cons,List.length_nil,List.range_succ,List.map_append, <-h];rfl);have hq:d / 16 ^ (15-done.length)<18446744073709551616:=zgl _ hlt;have hw0:IntKind.i64.wrap (60-IntKind.i64.wrap (4*(done.length:Int)))=60-4*(done.length:Int):=by rw [zr (c:=4*(done.length:Int)) (by omega) (by omega),zr (by omega) (by omega)]
  have hw1:=zk (n:=done.length) (by omega);have hrep:List.replicate (18-done.length) (sI 0)=sI 0::List.replicate (18-(done.length+1)) (sI 0):=by rw [show 18-done.length=18-(done.length+1)+1 by omega];rfl
  rw [hrep];(refine zo [777,18] 1000 ?_;conv=>whnf)
  repeat' ((with_reducible refine way ?_ ?_)<;>(intro h;conv=>whnf))
  all_goals try (exfalso;omega)
  rw [hw0];refine zoq rfl rfl rfl rfl rfl (by omega) ?_;rw [hsh];(refine zj [777,21] 1000 ?_;conv=>whnf);rw [yus hq];have hnl:=ydj d done.length;rw [show d / 16 ^ (15-done.length) % 16=nib d done.length from rfl];rw [ziu] at hnx;generalize nib d done.length=x at hnx hnl ⊢;have w2:IntKind.i64.wrap (15-(x:Int))=((15-x:Nat):Int):=by rw [zr (by omega) (by omega)];omega
  have w3:IntKind.i64.wrap ((wm l:Int)+((15-x:Nat):Int))=((wm l+(15-x):Nat):Int):=by rw [zr (by omega) (by omega)];omega
  refine zlb (i:=done.length) rfl rfl rfl rfl rfl rfl rfl rfl (by omega) ?_;refine zao (d:=l.map (fun (n:Nat)=>sI n)) (zz:=sI 0) (r:=List.replicate (18-(done.length+1)) (sI 0)) (v:=sI x) rfl rfl rfl rfl rfl rfl rfl rfl rfl (by show 0+done.length*1=_;simp [hll]) ?_;(refine zj [777,24] 1000 ?_;conv=>whnf);refine zlb (i:=done.length) rfl rfl rfl rfl rfl rfl rfl rfl (by omega) ?_;refine xz (v:=sI x) rfl rfl rfl rfl rfl (show zij Tryz.prog 3 _ (0+done.length*1)=_ from ylf (by rw [Nat.zero_add,Nat.mul_one,List.getElem?_append_right (by simp [hll])];simp [hll])) ?_;(refine zc ?_;conv=>whnf);rw [w2,w3,hw1];refine zh [2,3,4,5,10] ?_;rw [List.map_append,List.append_assoc] at hnx;exact hnx
end Go.Proofs.YtjnddlifnkgncaaGreatDoor
namespace Go.Sh
section
variable {P:Program} {G:List (Nat × D)} {fn:Func} {rd:Bool} {E:En P G fn rd} {t:List (Nat × SV)} {H:List SObj} {k:List Item} {all:Array Oper} {rest:List Oper} {o:Oper}
theorem ygx {ty e len i:Nat} {x ix:Operand} {cs:List SV} {v:SV} {mm:Int} {kk:IntKind} (hop:o.op= .index ty x ix) (hw:zt all t o.guard=some true) (hd:zy fn.ntmps o.dst=true) (hx:zl G t x= .agg cs)
  (hi:zl G t ix= .imm (.val (.int kk mm))) (hu:P.underlying ty=some (.array len e)) (hn:xj P e=some 1) (hp:yqy P e=some false) (hmm:mm=(i:Int)) (hr:i<len) (hv:cs[i]?=some v) (h:SWr E all rest k (xg t o.dst v) H):SWr E all (o::rest) k t H:=by
 refine qo hw hd (r:=v) ?_ (Nat.le_refl _) h;rw [hop];subst hmm;have hs:zln P ty (i:Int) (.agg cs)=some v:=by
  simp only [zln,hu,hn];rw [if_pos (by omega),Int.toNat_natCast,Nat.mul_one];simp only [zij,hp,hv]
 simp only [sop,hi,hx,hs,Option.map_some]
end
end Go.Sh
namespace Go.Proofs.YtjnddlifnkgncaaGreatDoor
open Go Go.Sh
noncomputable def chainsN (seed:ByteArray) (i:Int) (text:ByteArray):List Nat:=(List.range 18).map fun (k:Nat)=>chainN ((zsb text).getD k 0) (yed seed i k)
noncomputable def signN (seed:ByteArray) (h i:Nat) (text:ByteArray):Sg:=⟨i,chainsN seed i text,zkh (leavesN seed h) i⟩
theorem ylg (seed:ByteArray) (n i:Nat) (text:ByteArray) (hs:seed.size<=64) (hh:n<=8) (hi:i<2 ^ n) (ht:text.size<=9223372036854775807):
  zq Tryz.prog G37 41 [sS seed,sI n,sI i,sS text] (.tup [.agg ((signN seed n i text).cells.map .imm),sI (0:Nat)]):=by
 have hp:=yvx n hh;have h256:2 ^ n<=256:=Nat.le_trans (Nat.pow_le_pow_right (by decide) hh) (by decide);have c1:=zqa G37 seed n hs hh;have c2:=zvf G37 text ht;have c3:=zpz seed n (by omega) hh;have c4:=zyi G37 (leavesN seed n) i (by rw [zaa];exact hi) (by rw [zaa];omega) (fun x hx=>by rw [zmf seed n x hx];decide);have hfl:=zuq text;have hfle:=yam text;unfold signN chainsN;generalize leavesN seed n=ls at c3 c4 ⊢;generalize zkh ls i=pa at c4 ⊢;generalize zsb text=fg at c2 hfl hfle ⊢;refine zg Tryz.func41 rfl (by rw [Tryz.ntmps41];simp) rfl rfl ?_;intro E hH hK;(refine ze ?_;conv=>whnf);refine zd rfl  c1 ?_;(refine zj [777,26] 1000 ?_;conv=>whnf);refine yjv rfl rfl rfl rfl rfl (by omega) ?_;rw [Int.toNat_natCast,hp];(refine zc ?_;conv=>whnf)
 repeat' ((with_reducible refine way ?_ ?_)<;>(intro h;conv=>whnf))
 all_goals try (exfalso;omega)
 refine zd rfl  c2 ?_;(refine zc ?_;conv=>whnf);refine zek 1 1 1 (cs:=[sI i,.imm (.val (.slice none 0 0)),.imm (.val (.slice none 0 0))]) rfl rfl ?_;refine zh [0,1,2,8,9,10,33,34] ?_;obtain ⟨F,hF⟩:∃F:Nat->Nat,F=fun k=>chainN (fg.getD k 0) (yed seed i k):=⟨_,rfl⟩
 rw [<-hF] at hK;change SW E _ [(0,sS seed),(1,sI n),(2,sI i),(8,.ptr 0 0),(9,sI (0:Nat)),(10,.ptr 1 0),(33,.agg (fg.map fun (n:Nat)=>sI n)),(34,sI (0:Nat))]
  [.cells [sI (0:Nat),.imm (.val (.slice none 0 0)),.imm (.val (.slice none 0 0))],.cells [sI i,.asl 2 1 (([]:List Nat).map fun (n:Nat)=>[dU n]),.imm (.val (.slice none 0 0))],.tok 1 (([]:List Nat).map fun (n:Nat)=>[dU n]).length]
 refine zp (List.range 18) (fun j (_:List Nat)=>[(0,sS seed),(1,sI n),(2,sI i),(8,.ptr 0 0),(9,sI (0:Nat)),(10,.ptr 1 0),(33,.agg (fg.map fun (n:Nat)=>sI n)),(34,sI j)])
  (fun _ l=>[.cells [sI (0:Nat),.imm (.val (.slice none 0 0)),.imm (.val (.slice none 0 0))],.cells [sI i,.asl 2 1 (l.map fun (n:Nat)=>[dU n]),.imm (.val (.slice none 0 0))],.tok 1 (l.map fun (n:Nat)=>[dU n]).length])
  (fun done _ l=>l=done.map F) [] rfl ?_ ?_
 ·rintro l h1
  have h1:l=(List.range 18).map F:=h1;rw [<-h1] at hK;clear h1 hF;refine zdp ?_;change SW E _ [(0,sS seed),(1,sI n),(2,sI i),(8,.ptr 0 0),(9,sI (0:Nat)),(10,.ptr 1 0),(33,.agg (SV.solid.solidL (fg.map fun (n:Nat)=>sI n))),(34,sI (List.range 18).length)]
   [.cells [sI (0:Nat),.imm (.val (.slice none 0 0)),.imm (.val (.slice none 0 0))],.cells [sI i,.imm (zaw l),.imm (.val (.slice none 0 0))],.tok 1 (l.map fun (n:Nat)=>[dU n]).length]
  (refine ze ?_;conv=>whnf)
  repeat' ((with_reducible refine way ?_ ?_)<;>(intro h;conv=>whnf))
  all_goals try (exfalso;omega)
  refine zd rfl  c3 ?_;(refine zc ?_;conv=>whnf);refine zd rfl  c4 ?_;(refine zc ?_;conv=>whnf);exact hK _
 ·rintro done j rest l hda hdl h1 ih
  have h1:l=done.map F:=h1;have hj:j=done.length:=by
   have h2:(List.range 18)[done.length]?=some j:=by rw [hda];simp
   rw [List.getElem?_range (by simp at hdl;omega)] at h2;exact (Option.some.inj h2).symm
  have h18:done.length<18:=by simp at hdl;omega
  have hw:=zk (n:=done.length) (by omega);have hll:l.length=done.length:=by rw [h1];simp
  have hnx:=ih (l++[F done.length]) (by show l++_=(done++[j]).map F;rw [h1,hj];simp);have hFd:F done.length=chainN (fg.getD done.length 0) (yed seed i done.length):=by rw [hF]
  have hdg:fg.getD done.length 0<=15:=hfle _ (by rw [List.getD_eq_getElem?_getD,List.getElem?_eq_getElem (by omega)];exact List.getElem_mem _);have hgt:(fg.map fun (n:Nat)=>sI n)[done.length]?=some (sI (fg.getD done.length 0)):=by
   rw [List.getElem?_map,List.getD_eq_getElem?_getD,List.getElem?_eq_getElem (by omega)];rfl
  have d1:=zpt seed (i:Int) (done.length:Int) (by omega) (by omega) (by omega);have d2:=zyg (yed seed i done.length) (fg.getD done.length 0) (js _) hdg;rw [<-hFd] at d2;generalize yed seed i done.length=sec at d1 d2;generalize fg.getD done.length 0=dg at hdg hgt d2;generalize F done.length=v at d2 hnx;rw [List.map_append] at hnx;clear ih h1 hF hFd;(refine zo [777,37] 1000 ?_;conv=>whnf)
  repeat' ((with_reducible refine way ?_ ?_)<;>(intro h;conv=>whnf))
  all_goals try (exfalso;omega)
  refine ygx (v:=sI dg) rfl rfl rfl rfl rfl rfl rfl rfl rfl h18 hgt ?_;(refine zc ?_;conv=>whnf);(refine wk 0 mixed rfl ?_;refine zn [777] (nx:=3) ?_;conv=>whnf);refine zof rfl (show 3<=3 by decide) d1 ?_;(refine zn [777] (nx:=3) ?_;conv=>whnf);refine zof rfl (show 3<=3 by decide) d2 ?_;(refine zn [777] (nx:=3) ?_;conv=>whnf);refine zel (b:=2) (kk:=1) (rows:=l.map fun (n:Nat)=>[dU n]) (new:=[[dU v]]) rfl rfl rfl rfl rfl rfl rfl rfl rfl rfl ⟨show 8<=65536 by decide,rfl⟩ (show 3<=3 by decide) rfl (by simp;omega) ?_;refine jw ⟨_,[],none⟩ rfl rfl (show 3<=3 by decide) (fun _ _ _=>rfl) ?_;refine yv (b:=1) (off:=1) (d:=[sI i]) (zz:=.asl 2 1 (l.map fun (n:Nat)=>[dU n])) (r:=[.imm (.val (.slice none 0 0))]) (v:=.asl 2 1 ((l.map fun (n:Nat)=>[dU n])++[[dU v]])) rfl rfl rfl rfl rfl rfl rfl rfl (show 3<=3 by decide) rfl rfl ?_;refine jh (by kernel_rfl) ?_;(refine ze ?_;conv=>whnf);rw [hw];refine zh [0,1,2,8,9,10,33,34] ?_;exact hnx
variable (G:List (Nat × D))
theorem zvg (s : ByteArray) : zq Tryz.prog G 80 [sS s] (sB (qd s)) := by
  refine zg Tryz.func80 rfl (by rw [Tryz.ntmps80]; simp) rfl rfl ?_; intro E hH hK
  have hl := zjs s
  (refine xa ?_; conv => whnf)
  repeat' ((with_reducible refine way ?_ ?_) <;> (intro h; conv => whnf))
  · cases hs : s.data.toList with
    | nil => exact absurd (zom hs) ‹_›
    | cons b0 r0 =>
      have h0 : s.data.toList[0]? = some b0 := by rw [hs]; rfl
      have bad : zdq b0 = false -> qd s = false := fun h => by simp [qd, hs, zcz, h]
      refine zba rfl rfl rfl rfl rfl rfl  h0 ?_
      (refine xr ?_; conv => whnf)
      repeat' ((with_reducible refine way ?_ ?_) <;> (intro h; conv => whnf))
      · refine zba rfl rfl rfl rfl rfl rfl  h0 ?_
        (refine xr ?_; conv => whnf)
        repeat' ((with_reducible refine way ?_ ?_) <;> (intro h; conv => whnf))
        · exact kB hK (bad (by simp [zdq]; omega))
        · have hhead : zcz s.data.toList = true := by rw [hs]; simp [zcz, zdq]; omega
          have hsz : s.size <= 16 := by omega
          clear hs
          refine zh [0, 23, 24] ?_
          refine yq (σ := List UInt8 × List UInt8) (fun x => [(0, sS s), (23, sI s.size), (24, sI x.1.length)]) (fun _ => [])
            (fun x => s.data.toList = x.1 ++ x.2 /\ x.1.all zuk = true) (fun x => x.2.length) ?_ ([], s.data.toList) ⟨rfl, rfl⟩
          rintro ⟨done, rest⟩ ⟨ha, hv⟩ ih
          dsimp only at ha hv ih ⊢
          have hlen : done.length + rest.length = s.size := by rw [<- hl, ha]; simp
          (refine xa ?_; conv => whnf)
          repeat' ((with_reducible refine way ?_ ?_) <;> (intro h; conv => whnf))
          · cases rest with
            | nil => simp at hlen; omega
            | cons b rest =>
              have hget : s.data.toList[done.length]? = some b := by rw [ha]; simp
              have hw : IntKind.i64.wrap ((done.length : Int) + 1) = (((done ++ [b]).length : Nat) : Int) := by rw [zk (by omega)]; simp
              have bad : zuk b = false -> qd s = false := fun h => by simp [qd, ha, h]
              refine zba rfl rfl rfl rfl rfl rfl  hget ?_
              (refine xr ?_; conv => whnf)
              repeat' ((with_reducible refine way ?_ ?_) <;> (intro h; conv => whnf))
              all_goals first
                | exact kB hK (bad (by simp [zuk, zdq, zwn]; omega))
                | (rw [hw]
                   refine zh [0, 23, 24] (ih (done ++ [b], rest) ⟨by simp [ha], ?_⟩ (by simp))
                   simp [hv, zuk, zdq, zwn]; omega)
          · cases rest with
            | nil => exact kB hK (by rw [List.append_nil] at ha; unfold qd; rw [hhead, ha, hv]; simp [hsz])
            | cons b rest => simp at hlen; omega
      · exact kB hK (bad (by simp [zdq]; omega))
  · exact kB hK (by simp [qd]; omega)
  · exact kB hK (by rw [h]; rfl)
structure Rw where
 label:ByteArray
 cents:Int
 reason:ByteArray
def Rw.cells (r:Rw):List D:=[zep r.label,dI r.cents,zep r.reason]
def zmq (l:List Rw):D:=.isl 3 (l.map Rw.cells)
theorem zmg (c:Int):zq Tryz.prog G 126 [sI c] (sB (decide (-500000000<=c)&&decide (c<=500000000))):=by
 refine zg Tryz.func126 rfl (by rw [Tryz.ntmps126];simp) rfl rfl ?_;intro E hH hK;(refine ze ?_;conv=>whnf)
 repeat' ((with_reducible refine way ?_ ?_)<;>(intro h;conv=>whnf))
 ·exact kB hK (by simp [*])
 ·exact kB hK (by simp [*])
def yut:Option Int->Int->Bool
 |none,_=>true
 |some q,v=>decide (q<v)
def zjd (n:Int):Option Int->List Int->Bool
 |_,[]=>true
 |p,v::r=>decide (0<=v)&&decide (v<n)&&yut p v&&zjd n (some v) r
theorem zrm (l:List Int) (n:Int) (hl:l.length<=1000000):zq Tryz.prog G 38 [.imm (yz l),sI n] (sB (zjd n none l)):=by
 have hml:(l.map fun (n:Int)=>[dI n]).length=l.length:=by simp
 refine zg Tryz.func38 rfl (by rw [Tryz.ntmps38];simp) rfl rfl ?_;intro E hH hK;(refine ze ?_;conv=>whnf);refine zh [0,1,7,8,9] ?_;change SW E _ [(0,.imm (yz l)),(1,sI n),(7,.imm (yz l)),(8,sI (l.map fun (n:Int)=>[dI n]).length),(9,sI (0:Nat))] [];refine zp l (fun i (_:Option Int)=>[(0,.imm (yz l)),(1,sI n),(7,.imm (yz l)),(8,sI (l.map fun (n:Int)=>[dI n]).length),(9,sI i)]) (fun _ _=>[])
  (fun done rest p=>zjd n none l=zjd n p rest/\p=done.getLast?) none ⟨rfl,rfl⟩ ?_ ?_
 ·rintro p ⟨h1,_⟩
  rw [h1] at hK;(refine ze ?_;conv=>whnf)
  repeat' ((with_reducible refine way ?_ ?_)<;>(intro h;conv=>whnf))
  all_goals try (exfalso;omega)
  exact hK _
 ·rintro done v rest p hda hdl ⟨h1,h2⟩ ih
  have hw:=zk (n:=done.length) (by omega);have hrow:(l.map fun (n:Int)=>[dI n])[((done.length:Nat):Int).toNat]?=some [dI v]:=by simp [hda]
  have hnx:zjd n none l=zjd n (some v) rest->SW E _ _ _:=fun h=>ih (some v) ⟨h,by simp⟩
  rw [zjd] at h1;have hbad:∀b,b=false->zjd n none l=b->E.K (sB false) []:=fun b hb h=>by
   have:=hK [];rw [h,hb] at this;exact this
  rcases List.eq_nil_or_concat done with rfl|⟨d',q,hdq⟩
  ·have h2:p=none:=h2
   subst h2;(refine ze ?_;conv=>whnf)
   repeat' ((with_reducible refine way ?_ ?_)<;>(intro h;conv=>whnf))
   all_goals try (exfalso;omega)
   refine zi rfl rfl  hrow ?_;(refine zc ?_;conv=>whnf)
   repeat' ((with_reducible refine way ?_ ?_)<;>(intro h;conv=>whnf))
   all_goals try (exfalso;omega)
   ·rw [hw]
    refine zh [0,1,7,8,9] (hnx ?_);rw [h1,decide_eq_true (show 0<=v by omega),decide_eq_true (show v<n by omega)];rfl
   ·exact hbad _ (by rw [decide_eq_false (show ¬v<n by omega)];simp) h1
   ·exact hbad _ (by rw [decide_eq_false (show ¬0<=v by omega)];simp) h1
  ·rw [List.concat_eq_append] at hdq
   have h2:p=some q:=by rw [h2,hdq];simp
   subst h2;have hql:done.length=d'.length+1:=by rw [hdq];simp
   have hq:(l.map fun (n:Int)=>[dI n])[d'.length]?=some [dI q]:=by simp [hda,hdq]
   have hwm:IntKind.i64.wrap ((done.length:Int)-1)=(d'.length:Int):=by rw [zr (by omega) (by omega)];omega
   (refine ze ?_;conv=>whnf)
   repeat' ((with_reducible refine way ?_ ?_)<;>(intro h;conv=>whnf))
   all_goals try (exfalso;omega)
   refine zi rfl rfl  hrow ?_;(refine zc ?_;conv=>whnf)
   repeat' ((with_reducible refine way ?_ ?_)<;>(intro h;conv=>whnf))
   all_goals try (exfalso;omega)
   ·refine zi (i:=d'.length) (row:=[dI q]) rfl hwm hq ?_
    (refine zc ?_;conv=>whnf)
    repeat' ((with_reducible refine way ?_ ?_)<;>(intro h;conv=>whnf))
    ·exact hbad _ (by rw [show yut (some q) v=decide (q<v) from rfl,decide_eq_false (show ¬q<v by omega)];simp) h1
    ·rw [hw]
     refine zh [0,1,7,8,9] (hnx ?_);rw [h1,decide_eq_true (show 0<=v by omega),decide_eq_true (show v<n by omega),show yut (some q) v=decide (q<v) from rfl,decide_eq_true (show q<v by omega)];rfl
   ·exact hbad _ (by rw [decide_eq_false (show ¬v<n by omega)];simp) h1
   ·exact hbad _ (by rw [decide_eq_false (show ¬0<=v by omega)];simp) h1
theorem zki (n:Int):∀(l:List Int) (p:Option Int),zjd n p l=true->l.Pairwise (· < ·)/\(∀x∈l,0<=x/\x<n)/\(∀q∈p,∀x∈l,q<x)
 |[],p,_=>⟨.nil,fun x hx=>(by cases hx),fun q _ x hx=>(by cases hx)⟩
 |v::r,p,h=>by
  have h:(decide (0<=v)&&decide (v<n)&&yut p v&&zjd n (some v) r)=true:=h;simp only [Bool.and_eq_true,decide_eq_true_eq] at h;obtain ⟨⟨⟨h1,h2⟩,h3⟩,h4⟩:=h;obtain ⟨g1,g2,g3⟩:=zki n r (some v) h4;have g3:=g3 v rfl;refine ⟨List.pairwise_cons.2 ⟨g3,g1⟩,fun x hx=>?_,fun q hq x hx=>?_⟩
  ·rcases List.mem_cons.1 hx with rfl|hx
   ·exact ⟨h1,h2⟩
   ·exact g2 x hx
  ·cases hq
   have h3:q<v:=by simpa [yut] using h3
   rcases List.mem_cons.1 hx with rfl|hx
   ·exact h3
   ·have:=g3 x hx;omega
def zmr (n:Nat) (l:List Int):List Bool:=(List.range n).map fun (i:Nat)=> !decide ((i:Int)∈l)
theorem ygy (l:List Int) (n:Nat) (hs:zjd n none l=true) (hl:l.length<=1000000) (hn:n<=1000000):zq Tryz.prog G 43 [.imm (yz l),sI n] (.imm (jx (zmr n l))):=by
 obtain ⟨hp,hb,_⟩:=zki n l none hs;have hml:(l.map fun (n:Int)=>[dI n]).length=l.length:=by simp
 refine zg Tryz.func43 rfl (by rw [Tryz.ntmps43];simp) rfl rfl ?_;intro E hH hK;(refine ze ?_;conv=>whnf);refine ydi ?_;(refine ze ?_;conv=>whnf);refine zlu (n:=n) (zz:=sB false) rfl rfl rfl rfl rfl rfl rfl rfl rfl ⟨show 1<=65536 by decide,rfl⟩ rfl rfl rfl (by omega) ?_;(refine zc ?_;conv=>whnf);refine ycn ?_;(refine ze ?_;conv=>whnf);refine zh [0,5,6,11,12] ?_;change SW E _ [(0,.imm (yz l)),(5,.osl 0 0 n),(6,sI (0:Nat)),(11,sI n),(12,sI (0:Nat))] [.cells (([]:List Bool).map sB++List.replicate n (sB false))];have hrl:(List.range n).length=n:=List.length_range;have hrn:sI (n:Nat)=sI ((List.range n).length:Nat):=by rw [hrl]
 rw [hrn];refine zp (List.range n) (fun i (y:List Int × List Int × List Bool)=>[(0,.imm (yz l)),(5,.osl 0 0 n),(6,sI y.1.length),(11,sI (List.range n).length),(12,sI i)]) (fun i y=>[.cells (y.2.2.map sB++List.replicate (n-i) (sB false))])
  (fun done _ y=>l=y.1++y.2.1/\(∀x∈y.1,x<done.length)/\(∀x∈y.2.1,(done.length:Int)<=x)/\y.2.2=(List.range done.length).map fun (i:Nat)=> !decide ((i:Int)∈l)) ([],l,[]) ⟨rfl,fun x hx=>(by cases hx),fun x hx=>(hb x hx).1,rfl⟩ ?_ ?_
 ·rintro ⟨pre,post,mk⟩ ⟨h1,h2,h3,h4⟩
  have h4:mk=zmr n l:=by unfold zmr;rw [<-hrl];exact h4
  have hmk:mk.length=n:=by rw [h4];simp [zmr]
  have hch:jl 1 (mk.map dB) n=mk.map fun b=>[dB b]:=by
   have:=zku (mk.map dB);rw [List.length_map,hmk,List.map_map] at this;exact this
  rw [<-h4] at hK;have h0:List.replicate (n-(List.range n).length) (sB false)=[]:=by rw [hrl,Nat.sub_self];rfl
  refine zjp 0 n 1 (cs:=mk.map sB) (junk:=[]) (ds:=mk.map dB) (t':=[(0,.imm (yz l)),(5,.imm (jx mk)),(6,sI pre.length),(11,sI (List.range n).length),(12,sI (List.range n).length)]) (H':=[.dead]) (by simp) (by simp [SV.one]) (by rw [show mk.map sB=(mk.map dB).map SV.imm by simp];exact zug _) (by simp [hmk]) (by rw [hch];simp [SV.shut,jx]) (by simp [SObj.shut]) ?_;(refine ze ?_;conv=>whnf)
  repeat' ((with_reducible refine way ?_ ?_)<;>(intro h;conv=>whnf))
  all_goals try (exfalso;omega)
  exact hK _
 ·rintro done j rest ⟨pre,post,mk⟩ hda hdl ⟨h1,h2,h3,h4⟩ ih
  simp only at h1 h2 h3 h4;have hdn:done.length<n:=by omega
  have hw:=zk (n:=done.length) (by omega);have hmk:mk.length=done.length:=by rw [h4];simp
  have hpl:pre.length+post.length=l.length:=by rw [h1];simp
  have hdl1:(done++[j]).length=done.length+1:=by simp
  have hrep:List.replicate (n-done.length) (sB false)=sB false::List.replicate (n-(done.length+1)) (sB false):=by rw [show n-done.length=n-(done.length+1)+1 by omega];rfl
  have hin:∀post',post=(done.length:Int)::post'->SW E _ [(0,.imm (yz l)),(5,.osl 0 0 n),(6,sI (pre.length+1:Nat)),(11,sI (List.range n).length),(12,sI (done.length+1:Nat))] [.cells (mk.map sB++sB false::List.replicate (n-(done.length+1)) (sB false))]:=fun post' e=>by
   subst e;have hmem:((done.length:Nat):Int)∈l:=by rw [h1];simp
   have:=ih (pre++[(done.length:Int)],post',mk++[false]) ⟨by rw [h1];simp,fun x hx=>by
     rw [hdl1];rcases List.mem_append.1 hx with hx|hx
     ·have:=h2 x hx;omega
     ·have:x=(done.length:Int):=by simpa using hx
      omega,fun x hx=>by
     rw [hdl1];rw [h1] at hp;have:=(List.pairwise_cons.1 (List.pairwise_append.1 hp).2.1).1 x hx
     omega,by rw [hdl1,List.range_succ,List.map_append, <-h4];simp [hmem]⟩
   simpa using this
  have hout:(∀x∈post,(done.length:Int)≠x)->SW E _ [(0,.imm (yz l)),(5,.osl 0 0 n),(6,sI pre.length),(11,sI (List.range n).length),(12,sI (done.length+1:Nat))] [.cells (mk.map sB++sB true::List.replicate (n-(done.length+1)) (sB false))]:=fun hne=>by
   have hmem:¬((done.length:Nat):Int)∈l:=by
    rw [h1];intro hm;rcases List.mem_append.1 hm with hm|hm
    ·have:=h2 _ hm;omega
    ·exact hne _ hm rfl
   have:=ih (pre,post,mk++[true]) ⟨h1,fun x hx=>by rw [hdl1];have:=h2 x hx;omega,fun x hx=>by
     rw [hdl1];have h5:=h3 x hx;have h6:=hne x hx
     omega,by rw [hdl1,List.range_succ,List.map_append, <-h4];simp [hmem]⟩
   simpa using this
  clear ih h4;rw [hrep];cases post with
  |nil=>
   simp only [List.length_nil] at hpl;(refine ze ?_;conv=>whnf)
   repeat' ((with_reducible refine way ?_ ?_)<;>(intro h;conv=>whnf))
   all_goals try (exfalso;omega)
   ·exfalso
    have h':((pre.length:Nat):Int)<(((l.map fun (n:Int)=>[dI n]).length:Nat):Int):=h;omega
   ·refine zap (i:=done.length) rfl rfl rfl rfl rfl rfl rfl rfl (by omega) ?_
    refine zao (d:=mk.map sB) (zz:=sB false) (r:=List.replicate (n-(done.length+1)) (sB false)) (v:=sB true) rfl rfl rfl rfl rfl rfl rfl rfl rfl (by show 0+done.length*1=_;simp [hmk]) ?_;(refine zc ?_;conv=>whnf);rw [hw];refine zh [0,5,6,11,12] (hout ?_);intro x hx;cases hx
  |cons x post=>
   simp only [List.length_cons] at hpl;have hx:(l.map fun (n:Int)=>[dI n])[pre.length]?=some [dI x]:=by rw [h1];simp
   have hwp:=zk (n:=pre.length) (by omega);rw [h1] at hp;have hgt:=(List.pairwise_cons.1 (List.pairwise_append.1 hp).2.1).1;have hge:=h3 x (by simp);(refine ze ?_;conv=>whnf)
   repeat' ((with_reducible refine way ?_ ?_)<;>(intro h;conv=>whnf))
   all_goals try (exfalso;omega)
   refine zi (i:=pre.length) (row:=[dI x]) rfl rfl hx ?_;(refine zc ?_;conv=>whnf)
   repeat' ((with_reducible refine way ?_ ?_)<;>(intro h;conv=>whnf))
   ·rw [hw,hwp]
    exact zh [0,5,6,11,12] (hin post (by rw [h]))
   ·refine zap (i:=done.length) rfl rfl rfl rfl rfl rfl rfl rfl (by omega) ?_
    refine zao (d:=mk.map sB) (zz:=sB false) (r:=List.replicate (n-(done.length+1)) (sB false)) (v:=sB true) rfl rfl rfl rfl rfl rfl rfl rfl rfl (by show 0+done.length*1=_;simp [hmk]) ?_;(refine zc ?_;conv=>whnf);rw [hw];refine zh [0,5,6,11,12] (hout ?_);intro y hy;rcases List.mem_cons.1 hy with rfl|hy
    ·omega
    ·have:=hgt y hy;omega
   ·exfalso
    have h':¬((pre.length:Nat):Int)<(((l.map fun (n:Int)=>[dI n]).length:Nat):Int):=h;omega
theorem zvh (r:Rw):zq Tryz.prog G 45 [.agg (r.cells.map .imm)] (sI r.cents):=by
 obtain ⟨a,c,b⟩:=r;refine zg Tryz.func45 rfl (by rw [Tryz.ntmps45];simp) rfl rfl ?_;intro E hH hK;(refine ze ?_;conv=>whnf);exact hK _
theorem ygz (n:Int):zq Tryz.prog G 47 [sI n] (sI n):=by
 refine zg Tryz.func47 rfl (by rw [Tryz.ntmps47];simp) rfl rfl ?_;intro E hH hK;(refine ze ?_;conv=>whnf);exact hK _
def wt:List Int->List Bool->Int
 |c::cs,b::bs=>(if b then c else 0)+wt cs bs
 |_,_=>0
theorem zyj (rows:List Rw) (mk:List Bool) (hl:mk.length=rows.length) (hn:rows.length<=1000000) (hb:∀r∈rows, -2000000000<=r.cents/\r.cents<=2000000000):
  zq Tryz.prog G 44 [.imm (zmq rows),.imm (jx mk),.fn (.func 45) [] []] (sI (wt (rows.map Rw.cents) mk)):=by
 have hml:(rows.map Rw.cells).length=rows.length:=by simp
 have hkl:(mk.map fun b=>[dB b]).length=mk.length:=by simp
 refine zg Tryz.func44 rfl (by rw [Tryz.ntmps44];simp) rfl rfl ?_;intro E hH hK;(refine ze ?_;conv=>whnf);refine zh [1,2,7,10,11,12] ?_;change SW E _ [(1,.imm (jx mk)),(2,.fn (.func 45) [] []),(7,sI 0),(10,.imm (zmq rows)),(11,sI (rows.map Rw.cells).length),(12,sI (0:Nat))] [];refine zp rows (fun i (s:Int)=>[(1,.imm (jx mk)),(2,.fn (.func 45) [] []),(7,sI s),(10,.imm (zmq rows)),(11,sI (rows.map Rw.cells).length),(12,sI i)]) (fun _ _=>[])
  (fun done rest s=>wt (rows.map Rw.cents) mk=s+wt (rest.map Rw.cents) (mk.drop done.length)/\ -2000000000*(done.length:Int)<=s/\s<=2000000000*(done.length:Int)) 0 ⟨by simp,by simp,by simp⟩ ?_ ?_
 ·rintro s ⟨h1,_,_⟩
  have h0:wt ([].map Rw.cents) (mk.drop rows.length)=0:=by cases mk.drop rows.length<;>rfl
  rw [h0,Int.add_zero] at h1;rw [h1] at hK;(refine ze ?_;conv=>whnf)
  repeat' ((with_reducible refine way ?_ ?_)<;>(intro h;conv=>whnf))
  all_goals try (exfalso;omega)
  exact hK _
 ·rintro done r rest s hda hdl ⟨h1,h2,h3⟩ ih
  have hw:=zk (n:=done.length) (by omega);have hrow:(rows.map Rw.cells)[((done.length:Nat):Int).toNat]?=some r.cells:=by simp [hda]
  obtain ⟨b,hbb⟩:∃b,mk[done.length]?=some b:=⟨_,List.getElem?_eq_getElem (by omega)⟩;have hrb:(mk.map fun b=>[dB b])[((done.length:Nat):Int).toNat]?=some [dB b]:=by simp [hbb]
  have hbr:=hb r (by rw [hda];simp);have hc:=zvh G r;have hdr:mk.drop done.length=b::mk.drop (done.length+1):=by
   rw [List.drop_eq_getElem_cons (by omega)];rw [List.getElem?_eq_getElem (by omega)] at hbb;rw [Option.some.inj hbb]
  rw [hdr,List.map_cons,wt] at h1;have hnx:SW E _ _ _:=ih (s+(if b then r.cents else 0)) ⟨by rw [h1,Int.add_assoc];congr 2;simp,by rw [List.length_append];simp only [List.length_cons,List.length_nil];split<;>omega,by rw [List.length_append];simp only [List.length_cons,List.length_nil];split<;>omega⟩;clear ih h1 hdr;obtain ⟨la,ce,re⟩:=r;have hws:IntKind.i64.wrap (s+ce)=s+ce:=zr (by simp only at hbr;omega) (by simp only at hbr;omega);(refine ze ?_;conv=>whnf)
  repeat' ((with_reducible refine way ?_ ?_)<;>(intro h;conv=>whnf))
  all_goals try (exfalso;omega)
  refine zi rfl rfl  hrow ?_;(refine zc ?_;conv=>whnf);refine zi rfl rfl  hrb ?_;(refine zc ?_;conv=>whnf);cases b with
  |false=>
   conv=>whnf
   rw [hw];refine ys [1,2,7,10,11,12] 0 (by rw [hH];exact Nat.zero_le 0) (Nat.zero_le _) rfl rfl ?_;rw [if_neg (by decide),Int.add_zero] at hnx;exact hnx
  |true=>
   conv=>whnf
   refine zd rfl  hc ?_;(refine zc ?_;conv=>whnf);rw [hw,hws];refine ys [1,2,7,10,11,12] 0 (by rw [hH];exact Nat.zero_le 0) (Nat.zero_le _) rfl rfl ?_;exact hnx
theorem zyk (rows:List Int) (mk:List Bool) (hl:mk.length=rows.length) (hn:rows.length<=1000000) (hb:∀r∈rows, -2000000000<=r/\r<=2000000000):
  zq Tryz.prog G 46 [.imm (yz rows),.imm (jx mk),.fn (.func 47) [] []] (sI (wt rows mk)):=by
 have hml:(rows.map fun (n:Int)=>[dI n]).length=rows.length:=by simp
 have hkl:(mk.map fun b=>[dB b]).length=mk.length:=by simp
 refine zg Tryz.func46 rfl (by rw [Tryz.ntmps46];simp) rfl rfl ?_;intro E hH hK;(refine ze ?_;conv=>whnf);refine zh [1,2,7,10,11,12] ?_;change SW E _ [(1,.imm (jx mk)),(2,.fn (.func 47) [] []),(7,sI 0),(10,.imm (yz rows)),(11,sI (rows.map fun (n:Int)=>[dI n]).length),(12,sI (0:Nat))] [];refine zp rows (fun i (s:Int)=>[(1,.imm (jx mk)),(2,.fn (.func 47) [] []),(7,sI s),(10,.imm (yz rows)),(11,sI (rows.map fun (n:Int)=>[dI n]).length),(12,sI i)]) (fun _ _=>[])
  (fun done rest s=>wt rows mk=s+wt rest (mk.drop done.length)/\ -2000000000*(done.length:Int)<=s/\s<=2000000000*(done.length:Int)) 0 ⟨by simp,by simp,by simp⟩ ?_ ?_
 ·rintro s ⟨h1,_,_⟩
  have h0:wt [] (mk.drop rows.length)=0:=by cases mk.drop rows.length<;>rfl
  rw [h0,Int.add_zero] at h1;rw [h1] at hK;(refine ze ?_;conv=>whnf)
  repeat' ((with_reducible refine way ?_ ?_)<;>(intro h;conv=>whnf))
  all_goals try (exfalso;omega)
  exact hK _
 ·rintro done r rest s hda hdl ⟨h1,h2,h3⟩ ih
  have hw:=zk (n:=done.length) (by omega);have hrow:(rows.map fun (n:Int)=>[dI n])[((done.length:Nat):Int).toNat]?=some [dI r]:=by simp [hda]
  obtain ⟨b,hbb⟩:∃b,mk[done.length]?=some b:=⟨_,List.getElem?_eq_getElem (by omega)⟩;have hrb:(mk.map fun b=>[dB b])[((done.length:Nat):Int).toNat]?=some [dB b]:=by simp [hbb]
  have hbr:=hb r (by rw [hda];simp);have hc:=ygz G r;have hdr:mk.drop done.length=b::mk.drop (done.length+1):=by
   rw [List.drop_eq_getElem_cons (by omega)];rw [List.getElem?_eq_getElem (by omega)] at hbb;rw [Option.some.inj hbb]
  rw [hdr,wt] at h1;have hnx:SW E _ _ _:=ih (s+(if b then r else 0)) ⟨by rw [h1,Int.add_assoc];congr 2;simp,by rw [List.length_append];simp only [List.length_cons,List.length_nil];split<;>omega,by rw [List.length_append];simp only [List.length_cons,List.length_nil];split<;>omega⟩;clear ih h1 hdr;have hws:IntKind.i64.wrap (s+r)=s+r:=zr (by omega) (by omega);(refine ze ?_;conv=>whnf)
  repeat' ((with_reducible refine way ?_ ?_)<;>(intro h;conv=>whnf))
  all_goals try (exfalso;omega)
  refine zi rfl rfl  hrow ?_;(refine zc ?_;conv=>whnf);refine zi rfl rfl  hrb ?_;(refine zc ?_;conv=>whnf);cases b with
  |false=>
   conv=>whnf
   rw [hw];refine ys [1,2,7,10,11,12] 0 (by rw [hH];exact Nat.zero_le 0) (Nat.zero_le _) rfl rfl ?_;rw [if_neg (by decide),Int.add_zero] at hnx;exact hnx
  |true=>
   conv=>whnf
   refine zd rfl  hc ?_;(refine zc ?_;conv=>whnf);rw [hw,hws];refine ys [1,2,7,10,11,12] 0 (by rw [hH];exact Nat.zero_le 0) (Nat.zero_le _) rfl rfl ?_;exact hnx
theorem zsx (G:List (Nat × D)) (n:Nat) (h1:1<=n) (hn:n<=1000000):SCall Tryz.prog G 163 [.ptr 0 0,sI n] [.bld 161] (fun r H'=>r= .tup []/\H'=zqz []):=by
 have hg:=ylc G n (by omega);refine yr Tryz.func163 rfl (by rw [Tryz.ntmps163];simp) fun E hH hK=>?_
 (refine ze ?_;conv=>whnf);refine ye rfl rfl rfl rfl rfl rfl ((zou G).mono fun r H' ⟨h1,h2⟩=>⟨by rw [h2];exact Nat.le_refl _,?_⟩);subst h1 h2;(refine zc ?_;conv=>whnf)
 repeat' ((with_reducible refine way ?_ ?_)<;>(intro h;conv=>whnf))
 all_goals try (exfalso;omega)
 (refine zx mixed rfl ?_;refine zf [] ?_;conv=>whnf);(refine ze ?_;conv=>whnf)
 repeat' ((with_reducible refine way ?_ ?_)<;>(intro h;conv=>whnf))
 ·refine ye rfl rfl rfl rfl rfl rfl (hg.mono fun r H' ⟨h1,h2⟩=>⟨by rw [h2];decide,?_⟩)
  subst h1 h2;(refine zc ?_;conv=>whnf);exact hK _ _ ⟨rfl,rfl⟩
 ·exact absurd (show (0:Int)<(n:Int) by omega) h
def szs (l:List ByteArray):Nat:=(l.map ByteArray.size).sum
def zfy (sep:ByteArray):List ByteArray->ByteArray
 |[]=>⟨#[]⟩
 |x::r=>r.foldl (fun s y=>s++sep++y) x
theorem ju (x:ByteArray) (l:List ByteArray):szs (x::l)=x.size+szs l:=by simp [szs]
theorem zlh (a b:List ByteArray):szs (a++b)=szs a+szs b:=by simp [szs]
def zcn (sep:ByteArray) (x:List UInt8) (r:List ByteArray):List UInt8:=r.foldl (fun s y=>s++sep.data.toList++y.data.toList) x
theorem zdh (sep:ByteArray):∀(r:List ByteArray) (x:List UInt8),(zcn sep x r).length=x.length+sep.size*r.length+szs r
 |[],x=>by simp [zcn,szs]
 |y::r,x=>by
  show (zcn sep (x++sep.data.toList++y.data.toList) r).length=_;rw [zdh sep r,ju];have h1:sep.data.toList.length=sep.size:=by simp
  have h2:y.data.toList.length=y.size:=by simp
  simp only [List.length_append,List.length_cons,h1,h2,Nat.mul_add,Nat.mul_one];omega
theorem zsy (sep:ByteArray) (x:List UInt8) (r:List ByteArray) (y:ByteArray):zcn sep x (r++[y])=zcn sep x r++sep.data.toList++y.data.toList:=by
 unfold zcn;rw [List.foldl_append];rfl
theorem yee (sep x:ByteArray) (r:List ByteArray):(zfy sep (x::r)).data.toList=zcn sep x.data.toList r:=by
 show (r.foldl (fun s y=>s++sep++y) x).data.toList=_
 induction r generalizing x with
 |nil=>rfl
 |cons y r ih=>
  rw [List.foldl_cons,ih];show zcn sep (x++sep++y).data.toList r=zcn sep (x.data.toList++sep.data.toList++y.data.toList) r
  congr 1
theorem zsz (G:List (Nat × D)) (sep x:ByteArray) (r:List ByteArray) (hr:r≠[]) (h1:1<=(zcn sep x.data.toList r).length) (h2:(zcn sep x.data.toList r).length<=1000000) (h3:r.length<=100000):
  zq Tryz.prog G 128 [.imm (yh (x::r)),sS sep] (sS (zfy sep (x::r))):=by
 have hjl:=zdh sep r x.data.toList;have hxs:x.data.toList.length=x.size:=by simp
 have hrl:1<=r.length:=List.length_pos_iff.2 hr;have hres:zfy sep (x::r)=⟨(zcn sep x.data.toList r).toArray⟩:=by
  have:=yee sep x r;rw [<-this]
 rw [hres];have hlm:((x::r).map fun s=>[dS s]).length=r.length+1:=by simp
 have hll:((x::r).map fun s=>[dS s]).length=(x::r).length:=by simp
 obtain ⟨n0,hn0⟩:∃n,n=sep.size*r.length:=⟨_,rfl⟩;have hz0:sep.size<=n0:=by rw [hn0];exact Nat.le_mul_of_pos_right _ hrl
 have hsep0:¬0<(sep.size:Int)->n0=0:=fun h=>by
  have:sep.size=0:=by omega
  rw [hn0,this,Nat.zero_mul]
 have hjl2:(zcn sep x.data.toList r).length=x.size+n0+szs r:=by rw [hjl,hxs,hn0]
 refine zg Tryz.func128 rfl (by rw [Tryz.ntmps128];simp) rfl rfl ?_;intro E hH hK;(refine zo [777,28] 1000 ?_;conv=>whnf)
 repeat' ((with_reducible refine way ?_ ?_)<;>(intro h;conv=>whnf))
 ·exact absurd h (by rw [hlm];omega)
 ·have hw1:IntKind.i64.wrap ((((x::r).map fun s=>[dS s]).length:Nat)-1:Int)=(r.length:Int):=by rw [hlm,zr (by omega) (by omega)];omega
  have hq1:(9223372036854775807:Nat) / 100000<=9223372036854775807 / r.length:=Nat.div_le_div_left h3 hrl;have hq:IntKind.i64.wrap ((9223372036854775807:Int).tdiv (r.length:Int))=((9223372036854775807 / r.length:Nat):Int):=by
   have hle:9223372036854775807 / r.length<=9223372036854775807:=Nat.div_le_self _ _;rw [Int.tdiv_eq_ediv_of_nonneg (by omega),show (9223372036854775807:Int) / (r.length:Int)=((9223372036854775807 / r.length:Nat):Int) from rfl,zr (by omega) (by omega)]
  have hmul:IntKind.i64.wrap ((sep.size:Int)*(r.length:Int))=(n0:Int):=by
   rw [<-Int.natCast_mul, <-hn0,zr (by omega) (by omega)]
  have hadd:IntKind.i64.wrap (0+(n0:Int))=(n0:Int):=by rw [zr (by omega) (by omega)];omega
  rw [hw1];refine ybe rfl rfl rfl rfl rfl (by omega) ?_;rw [hq];(refine zc ?_;conv=>whnf)
  repeat' ((with_reducible refine way ?_ ?_)<;>(intro h;conv=>whnf))
  all_goals try (exfalso;omega)
  rw [hw1,hmul,hadd];refine zh [0,1,5,39,40,41] ?_;change SW E _ [(0,.imm (yh (x::r))),(1,sS sep),(5,sI n0),(39,.imm (yh (x::r))),(40,sI ((x::r).map fun s=>[dS s]).length),(41,sI (0:Nat))] [];refine zp (x::r) (fun i (s:Nat)=>[(0,.imm (yh (x::r))),(1,sS sep),(5,sI s),(39,.imm (yh (x::r))),(40,sI ((x::r).map fun s=>[dS s]).length),(41,sI i)]) (fun _ _=>[]) (fun done _ s=>s=n0+szs done) n0 rfl ?_ ?_
  ·rintro s hs
   have hs:s=(zcn sep x.data.toList r).length:=by rw [hs,ju,hjl2];omega
   subst hs;have c1:=zsx G (zcn sep x.data.toList r).length h1 h2;have c2:=jz G [] x (by simp;omega);(refine zo [777,8] 1000 ?_;conv=>whnf)
   repeat' ((with_reducible refine way ?_ ?_)<;>(intro h;conv=>whnf))
   all_goals try (exfalso;omega)
   refine zen rfl rfl rfl rfl rfl ?_;(refine zc ?_;conv=>whnf);refine ye rfl rfl rfl rfl rfl rfl (c1.mono fun r H' ⟨h1,h2⟩=>⟨by rw [h2];decide,?_⟩);subst h1 h2;(refine zc ?_;conv=>whnf);refine zi (i:=0) (row:=[dS x]) rfl rfl rfl ?_;(refine zc ?_;conv=>whnf);refine ye rfl rfl rfl rfl rfl rfl (c2.mono fun r H' ⟨h1,h2⟩=>⟨by rw [h2];exact Nat.le_refl _,?_⟩);subst h1 h2;(refine zc ?_;conv=>whnf);refine zju (m:=1) rfl rfl rfl rfl rfl rfl rfl (by simp) ?_;(refine zc ?_;conv=>whnf);refine zh [1,8,63,64,65] ?_;change SW E _ [(1,sS sep),(8,.ptr 0 0),(63,.imm (yh r)),(64,sI (r.map fun s=>[dS s]).length),(65,sI (0:Nat))] (zqz x.data.toList);have hlr:(r.map fun s=>[dS s]).length=r.length:=by simp
   refine zp r (fun i (_:List UInt8)=>[(1,sS sep),(8,.ptr 0 0),(63,.imm (yh r)),(64,sI (r.map fun s=>[dS s]).length),(65,sI i)]) (fun _ l=>zqz l) (fun done _ l=>l=zcn sep x.data.toList done) x.data.toList rfl ?_ ?_
   ·rintro l hl
    have hl:l=zcn sep x.data.toList r:=hl;rw [<-hl] at hK;have hne:l≠[]:=by intro e;rw [hl] at e;rw [e] at h1;simp at h1
    have c5:=zeo G l hne (by rw [hl];exact h2);(refine ze ?_;conv=>whnf)
    repeat' ((with_reducible refine way ?_ ?_)<;>(intro h;conv=>whnf))
    all_goals try (exfalso;omega)
    refine ye rfl rfl rfl rfl rfl rfl (c5.mono fun r H' ⟨h1,h2⟩=>⟨by rw [h2];exact Nat.le_refl _,?_⟩);subst h1 h2;(refine zc ?_;conv=>whnf);exact hK _
   ·rintro done y rest l hda hdl hl ih
    have hl:l=zcn sep x.data.toList done:=hl;have hw:=zk (n:=done.length) (by omega);have hrow:(r.map fun s=>[dS s])[((done.length:Nat):Int).toNat]?=some [dS y]:=by rw [hda];simp
    have hbound:l.length+sep.size+y.size<=1000000:=by
     have e1:=zdh sep done x.data.toList;have e2:szs r=szs done+y.size+szs rest:=by rw [hda,zlh,ju];omega
     rw [<-hl] at e1;rw [hdl,Nat.mul_add,Nat.mul_add,Nat.mul_one] at hjl;omega
    have hsl:sep.data.toList.length=sep.size:=by simp
    have c3:=jz G l sep (by omega);have c4:=jz G (l++sep.data.toList) y (by rw [List.length_append,hsl];exact hbound);have hnx:=ih (l++sep.data.toList++y.data.toList) (by show _=zcn sep x.data.toList (done++[y]);rw [zsy,hl]);(refine ze ?_;conv=>whnf)
    repeat' ((with_reducible refine way ?_ ?_)<;>(intro h;conv=>whnf))
    all_goals try (exfalso;omega)
    refine zi rfl rfl  hrow ?_;(refine zc ?_;conv=>whnf);refine ye rfl rfl rfl rfl rfl rfl (c3.mono fun r H' ⟨h1,h2⟩=>⟨by rw [h2];exact Nat.le_refl _,?_⟩);subst h1 h2;(refine zc ?_;conv=>whnf);refine ye rfl rfl rfl rfl rfl rfl (c4.mono fun r H' ⟨h1,h2⟩=>⟨by rw [h2];exact Nat.le_refl _,?_⟩);subst h1 h2;(refine zc ?_;conv=>whnf);rw [hw];exact zh [1,8,63,64,65] hnx
  ·rintro done y rest s hda hdl hs ih
   have hdl2:r.length+1=done.length+1+rest.length:=by simpa using hdl
   have hw:=zk (n:=done.length) (by omega);have hrow:((x::r).map fun s=>[dS s])[((done.length:Nat):Int).toNat]?=some [dS y]:=by rw [hda];simp
   have hsum:szs (x::r)=szs done+y.size+szs rest:=by rw [hda,zlh,ju];omega
   rw [ju] at hsum;have hs:s=n0+szs done:=hs;have hnx:=ih (s+y.size) (by show s+y.size=n0+szs (done++[y]);rw [zlh,hs];simp [szs];omega);have hw2:IntKind.i64.wrap (9223372036854775807-(s:Int))=9223372036854775807-(s:Int):=zr (by omega) (by omega);have hw3:IntKind.i64.wrap ((s:Int)+(y.size:Int))=((s+y.size:Nat):Int):=by rw [zr (by omega) (by omega)];omega
   (refine ze ?_;conv=>whnf)
   repeat' ((with_reducible refine way ?_ ?_)<;>(intro h;conv=>whnf))
   all_goals try (exfalso;omega)
   refine zi rfl rfl  hrow ?_;(refine zc ?_;conv=>whnf);rw [hw2]
   repeat' ((with_reducible refine way ?_ ?_)<;>(intro h;conv=>whnf))
   all_goals try (exfalso;omega)
   rw [hw,hw3];exact zh [0,1,5,39,40,41] hnx
 ·have hn00:=hsep0 h
  have hz:∀t' H',SW E t' [(0,.imm (yh (x::r))),(1,sS sep),(5,sI n0),(39,.imm (yh (x::r))),(40,sI ((x::r).map fun s=>[dS s]).length),(41,sI (0:Nat))] H'->SW E t' [(0,.imm (yh (x::r))),(1,sS sep),(5,sI 0),(39,.imm (yh (x::r))),(40,sI ((x::r).map fun s=>[dS s]).length),(41,sI (0:Nat))] H':=fun _ _ h=>by rw [hn00] at h;exact h
  refine zh [0,1,5,39,40,41] ?_;refine hz _ _ ?_;change SW E _ [(0,.imm (yh (x::r))),(1,sS sep),(5,sI n0),(39,.imm (yh (x::r))),(40,sI ((x::r).map fun s=>[dS s]).length),(41,sI (0:Nat))] [];refine zp (x::r) (fun i (s:Nat)=>[(0,.imm (yh (x::r))),(1,sS sep),(5,sI s),(39,.imm (yh (x::r))),(40,sI ((x::r).map fun s=>[dS s]).length),(41,sI i)]) (fun _ _=>[]) (fun done _ s=>s=n0+szs done) n0 rfl ?_ ?_
  ·rintro s hs
   have hs:s=(zcn sep x.data.toList r).length:=by rw [hs,ju,hjl2];omega
   subst hs;have c1:=zsx G (zcn sep x.data.toList r).length h1 h2;have c2:=jz G [] x (by simp;omega);(refine zo [777,8] 1000 ?_;conv=>whnf)
   repeat' ((with_reducible refine way ?_ ?_)<;>(intro h;conv=>whnf))
   all_goals try (exfalso;omega)
   refine zen rfl rfl rfl rfl rfl ?_;(refine zc ?_;conv=>whnf);refine ye rfl rfl rfl rfl rfl rfl (c1.mono fun r H' ⟨h1,h2⟩=>⟨by rw [h2];decide,?_⟩);subst h1 h2;(refine zc ?_;conv=>whnf);refine zi (i:=0) (row:=[dS x]) rfl rfl rfl ?_;(refine zc ?_;conv=>whnf);refine ye rfl rfl rfl rfl rfl rfl (c2.mono fun r H' ⟨h1,h2⟩=>⟨by rw [h2];exact Nat.le_refl _,?_⟩);subst h1 h2;(refine zc ?_;conv=>whnf);refine zju (m:=1) rfl rfl rfl rfl rfl rfl rfl (by simp) ?_;(refine zc ?_;conv=>whnf);refine zh [1,8,63,64,65] ?_;change SW E _ [(1,sS sep),(8,.ptr 0 0),(63,.imm (yh r)),(64,sI (r.map fun s=>[dS s]).length),(65,sI (0:Nat))] (zqz x.data.toList);have hlr:(r.map fun s=>[dS s]).length=r.length:=by simp
   refine zp r (fun i (_:List UInt8)=>[(1,sS sep),(8,.ptr 0 0),(63,.imm (yh r)),(64,sI (r.map fun s=>[dS s]).length),(65,sI i)]) (fun _ l=>zqz l) (fun done _ l=>l=zcn sep x.data.toList done) x.data.toList rfl ?_ ?_
   ·rintro l hl
    have hl:l=zcn sep x.data.toList r:=hl;rw [<-hl] at hK;have hne:l≠[]:=by intro e;rw [hl] at e;rw [e] at h1;simp at h1
    have c5:=zeo G l hne (by rw [hl];exact h2);(refine ze ?_;conv=>whnf)
    repeat' ((with_reducible refine way ?_ ?_)<;>(intro h;conv=>whnf))
    all_goals try (exfalso;omega)
    refine ye rfl rfl rfl rfl rfl rfl (c5.mono fun r H' ⟨h1,h2⟩=>⟨by rw [h2];exact Nat.le_refl _,?_⟩);subst h1 h2;(refine zc ?_;conv=>whnf);exact hK _
   ·rintro done y rest l hda hdl hl ih
    have hl:l=zcn sep x.data.toList done:=hl;have hw:=zk (n:=done.length) (by omega);have hrow:(r.map fun s=>[dS s])[((done.length:Nat):Int).toNat]?=some [dS y]:=by rw [hda];simp
    have hbound:l.length+sep.size+y.size<=1000000:=by
     have e1:=zdh sep done x.data.toList;have e2:szs r=szs done+y.size+szs rest:=by rw [hda,zlh,ju];omega
     rw [<-hl] at e1;rw [hdl,Nat.mul_add,Nat.mul_add,Nat.mul_one] at hjl;omega
    have hsl:sep.data.toList.length=sep.size:=by simp
    have c3:=jz G l sep (by omega);have c4:=jz G (l++sep.data.toList) y (by rw [List.length_append,hsl];exact hbound);have hnx:=ih (l++sep.data.toList++y.data.toList) (by show _=zcn sep x.data.toList (done++[y]);rw [zsy,hl]);(refine ze ?_;conv=>whnf)
    repeat' ((with_reducible refine way ?_ ?_)<;>(intro h;conv=>whnf))
    all_goals try (exfalso;omega)
    refine zi rfl rfl  hrow ?_;(refine zc ?_;conv=>whnf);refine ye rfl rfl rfl rfl rfl rfl (c3.mono fun r H' ⟨h1,h2⟩=>⟨by rw [h2];exact Nat.le_refl _,?_⟩);subst h1 h2;(refine zc ?_;conv=>whnf);refine ye rfl rfl rfl rfl rfl rfl (c4.mono fun r H' ⟨h1,h2⟩=>⟨by rw [h2];exact Nat.le_refl _,?_⟩);subst h1 h2;(refine zc ?_;conv=>whnf);rw [hw];exact zh [1,8,63,64,65] hnx
  ·rintro done y rest s hda hdl hs ih
   have hdl2:r.length+1=done.length+1+rest.length:=by simpa using hdl
   have hw:=zk (n:=done.length) (by omega);have hrow:((x::r).map fun s=>[dS s])[((done.length:Nat):Int).toNat]?=some [dS y]:=by rw [hda];simp
   have hsum:szs (x::r)=szs done+y.size+szs rest:=by rw [hda,zlh,ju];omega
   rw [ju] at hsum;have hs:s=n0+szs done:=hs;have hnx:=ih (s+y.size) (by show s+y.size=n0+szs (done++[y]);rw [zlh,hs];simp [szs];omega);have hw2:IntKind.i64.wrap (9223372036854775807-(s:Int))=9223372036854775807-(s:Int):=zr (by omega) (by omega);have hw3:IntKind.i64.wrap ((s:Int)+(y.size:Int))=((s+y.size:Nat):Int):=by rw [zr (by omega) (by omega)];omega
   (refine ze ?_;conv=>whnf)
   repeat' ((with_reducible refine way ?_ ?_)<;>(intro h;conv=>whnf))
   all_goals try (exfalso;omega)
   refine zi rfl rfl  hrow ?_;(refine zc ?_;conv=>whnf);rw [hw2]
   repeat' ((with_reducible refine way ?_ ?_)<;>(intro h;conv=>whnf))
   all_goals try (exfalso;omega)
   rw [hw,hw3];exact zh [0,1,5,39,40,41] hnx
def HP (b r e:Nat) (lp:SObj):List SObj:=[.cells [sI b],.cells [sI r],.cells [sI e],lp]
theorem ylh (G:List (Nat × D)) (n:Nat) (H:List SObj):SCall Tryz.prog G 127 [sI n] H (fun r H'=>r= .fn (.func 162) [] [.ptr H.length 0]/\H'=H++[.cells [sI n]]):=by
 refine yr Tryz.func127 rfl (by rw [Tryz.ntmps127];simp) ?_;intro E hH hK;(refine ze ?_;conv=>whnf);exact hK _ _ ⟨rfl,rfl⟩
theorem zyl (G:List (Nat × D)) {f:FuncId} {n:Nat} {tL:List (Nat × SV)} {ps:Array Tmp} {asg bd:Code} (hps:1=ps.size)
  (hy:∀b r e,b<prm->r<prm->e<9223372036854775808->SYield Tryz.prog G 3 [sB (decide (e % 2=1))] (HP b r e (.loop .ready f n tL ps asg bd)) (fun res H'=>res=true/\H'=HP (b*b % prm) (if e % 2=1 then r*b % prm else r) e (.loop .ready f n tL ps asg bd)))
  (b r e:Nat) (hb:b<prm) (hr:r<prm) (he:e<9223372036854775808):
  SCall Tryz.prog G 162 [.yld 3,.ptr 2 0] (HP b r e (.loop .ready f n tL ps asg bd)) (fun _ H'=>∃b',H'=HP b' (r*b ^ e % prm) 0 (.loop .ready f n tL ps asg bd)):=by
 refine yr Tryz.func162 rfl (by rw [Tryz.ntmps162];simp) ?_;intro E hH hK;generalize hR:r*b ^ e % prm=R at hK;(refine ze ?_;conv=>whnf);refine zh [0,1] ?_;change SW E _ [(0,.yld 3),(1,.ptr 2 0)] _;refine yq (σ:=Nat × Nat × Nat) (fun _=>[(0,.yld 3),(1,.ptr 2 0)]) (fun x=>HP x.1 x.2.1 x.2.2 (.loop .ready f n tL ps asg bd)) (fun x=>x.2.1*x.1 ^ x.2.2 % prm=R/\x.1<prm/\x.2.1<prm/\x.2.2<9223372036854775808) (fun x=>x.2.2) ?_ (b,r,e) ⟨hR,hb,hr,he⟩;clear hR hb hr he;rintro ⟨b,r,e⟩ ⟨i1,i2,i3,i4⟩ ih;simp only at i1 i2 i3 i4;have w3:=yvu (a:=e) i4;have w4:(e:Int).fdiv (2 ^ min (1:Int).toNat IntKind.i64.bits)=((e / 2:Nat):Int):=yaa e 1;have hend:e=0->r=R:=fun h=>by rw [<-i1,h,Nat.pow_zero,Nat.mul_one];exact (Nat.mod_eq_of_lt i3).symm
 have hnext:¬e=0->SW E _ [(0,.yld 3),(1,.ptr 2 0)] (HP (b*b % prm) (if e % 2=1 then r*b % prm else r) (e / 2) (.loop .ready f n tL ps asg bd)):=fun h0=>by
  refine ih (b*b % prm,(if e % 2=1 then r*b % prm else r),e / 2) ⟨?_,Nat.mod_lt _ (by decide),?_,by simp only;omega⟩ (by simp only;omega)
  ·simp only
   rw [<-i1,Nat.mul_mod, <-Nat.pow_mod, <-Nat.mul_mod, <-Nat.pow_two, <-Nat.pow_mul];split
   ·rw [Nat.mod_mul_mod,Nat.mul_assoc, <-Nat.pow_succ',Nat.succ_eq_add_one,show 2*(e / 2)+1=e by omega]
   ·rw [show 2*(e / 2)=e by omega]
  ·simp only
   split
   ·exact Nat.mod_lt _ (by decide)
   ·exact i3
 have hyy:=hy b r e i2 i3 i4;show SW E _ _ (HP b r e (.loop .ready f n tL ps asg bd));have hdec:decide (((e % 2:Nat):Int)=1)=decide (e % 2=1):=by
  congr 1
  exact propext (by omega)
 (refine ze ?_;conv=>whnf)
 repeat' ((with_reducible refine way ?_ ?_)<;>(intro h;conv=>whnf))
 ·have h0:¬e=0:=by omega
  rw [w3,hdec];refine zoc rfl rfl rfl rfl rfl hps rfl (hyy.mono ?_);rintro _ _ ⟨rfl,rfl⟩;refine ⟨Nat.le_refl _,?_⟩;(refine zc ?_;conv=>whnf);rw [w4];exact zh [0,1] (hnext h0)
 ·have h0:e=0:=by omega
  subst h0;rw [hend rfl];exact hK _ _ ⟨b,rfl⟩
theorem zqb (G:List (Nat × D)) (b e:Nat) (hb:b<prm) (he:e<9223372036854775808):zq Tryz.prog G 84 [sI b,sI e] (sI (zko b e)):=by
 have hpe:zko b e=b ^ e % prm:=zgk (by omega);have hb':b<2147483579:=hb;refine zg Tryz.func84 rfl (by rw [Tryz.ntmps84];simp) rfl rfl ?_;intro E hH hK;(refine ze ?_;conv=>whnf)
 repeat' ((with_reducible refine way ?_ ?_)<;>(intro h;conv=>whnf))
 all_goals try (exfalso;omega)
 refine ye rfl rfl rfl rfl rfl rfl ((ylh G e _).mono ?_);rintro _ _ ⟨rfl,rfl⟩;refine ⟨by simp,?_⟩;(refine zc ?_;conv=>whnf);refine zh [2,5,18] ?_;change SW E _ [(2,.ptr 0 0),(5,.ptr 1 0),(18,.fn (.func 162) [] [.ptr 2 0])] [.cells [sI b],.cells [sI (1:Nat)],.cells [sI e]];refine zcd rfl rfl ?_;refine (zyl G (tL:=[(2,.ptr 0 0),(5,.ptr 1 0),(18,.fn (.func 162) [] [.ptr 2 0])]) rfl ?_ b 1 e hb (by decide) he).mono ?_
 ·intro b r e hb hr he
  have hbb:b*b<9223372036854775808:=Nat.lt_of_le_of_lt (Nat.mul_le_mul (Nat.le_of_lt hb) (Nat.le_of_lt hb)) (by decide);have hrb:r*b<9223372036854775808:=Nat.lt_of_le_of_lt (Nat.mul_le_mul (Nat.le_of_lt hr) (Nat.le_of_lt hb)) (by decide);have w1:(IntKind.i64.wrap ((b:Int)*(b:Int))).tmod 2147483579=((b*b % prm:Nat):Int):=by
   rw [zr (by rw [<-Int.natCast_mul];omega) (by rw [<-Int.natCast_mul];omega),Int.tmod_eq_emod_of_nonneg (by rw [<-Int.natCast_mul];omega)];rfl
  have w2:(IntKind.i64.wrap ((r:Int)*(b:Int))).tmod 2147483579=((r*b % prm:Nat):Int):=by
   rw [zr (by rw [<-Int.natCast_mul];omega) (by rw [<-Int.natCast_mul];omega),Int.tmod_eq_emod_of_nonneg (by rw [<-Int.natCast_mul];omega)];rfl
  refine zce (b:=3) rfl E.hfn rfl (by decide) ?_;intro E3 hl3 hOwn hKR;(refine ze ?_;conv=>whnf);refine zjm hOwn rfl ?_;(refine ze ?_;conv=>whnf)
  repeat' ((with_reducible refine way ?_ ?_)<;>(intro h;conv=>whnf))
  ·refine hKR none _ _ (Nat.le_refl _) rfl ⟨rfl,?_⟩
   rw [if_pos h];unfold HP;rw [<-w1, <-w2];rfl
  ·refine hKR none _ _ (Nat.le_refl _) rfl ⟨rfl,?_⟩
   rw [if_neg h];unfold HP;rw [<-w1];rfl
 ·rintro r H' ⟨b',rfl⟩
  refine ⟨Nat.le_refl _,.ready,_,rfl,.inl ⟨rfl,?_⟩⟩;rw [Nat.one_mul, <-hpe];(refine ze ?_;conv=>whnf);exact hK _
def yli (v x:Nat):Nat:=zko 4 v*zko 9 x % 2147483579
theorem zje (v x:Nat) (hv:v<ord) (hx:x<ord):zq Tryz.prog G37 39 [sI v,sI x] (.tup [sI (yli v x),sI (0:Nat)]):=by
 have hv':v<1073741789:=hv;have hx':x<1073741789:=hx;have c1:=zqb G37 4 v (by decide) (by omega);have c2:=zqb G37 9 x (by decide) (by omega);have l1:=zul 4 v;have l2:=zul 9 x;have hm:zko 4 v*zko 9 x<9223372036854775808:=Nat.lt_of_le_of_lt (Nat.mul_le_mul (Nat.le_of_lt l1) (Nat.le_of_lt l2)) (by decide);have hw:(IntKind.i64.wrap (((zko 4 v:Nat):Int)*((zko 9 x:Nat):Int))).tmod 2147483579=((yli v x:Nat):Int):=by
  rw [zr (by rw [<-Int.natCast_mul];omega) (by rw [<-Int.natCast_mul];omega),Int.tmod_eq_emod_of_nonneg (by rw [<-Int.natCast_mul];omega)];rfl
 generalize yli v x=c at hw ⊢;generalize zko 4 v=p at*;generalize zko 9 x=q at*;refine zg Tryz.func39 rfl (by rw [Tryz.ntmps39];simp) rfl rfl ?_;intro E hH hK;(refine ze ?_;conv=>whnf)
 repeat' ((with_reducible refine way ?_ ?_)<;>(intro h;conv=>whnf))
 all_goals try (exfalso;omega)
 (refine zx mixed rfl ?_;refine zf [] ?_;conv=>whnf);refine yf rfl  c1 ?_;(refine zf [] ?_;conv=>whnf);refine yf rfl  c2 ?_;(refine zf [] ?_;conv=>whnf);rw [hw];(refine ze ?_;conv=>whnf);exact hK _
theorem ysu (s:ByteArray):s++(⟨#[]⟩:ByteArray)=s:=by
 apply ByteArray.ext
 simp [ByteArray.data_append]
theorem zfp (label:ByteArray) (c:Int) (reason:ByteArray) (h1:label.size<=100000) (h2:reason.size<=100000) (h3: -9000000000000000000<=c/\c<=9000000000000000000):
  zq Tryz.prog G37 40 [sS label,sI c,sS reason] (sS (qk label c reason)):=by
 have c1:=zrh zdg (label.size:Int) (by omega) (by omega);have c2:=zrh zdg c (by omega) (by omega);have z1:=xb (label.size:Int) (by omega) (by omega);have z2:=xb c (by omega) (by omega);have e:qk label c reason=zfy ⟨#[]⟩ [wn label.size,⟨#[58]⟩,label,wn c,⟨#[32]⟩,reason]:=by
  unfold qk zfy;simp only [List.foldl_cons,List.foldl_nil,ysu]
 rw [e];generalize wn label.size=s1 at*;generalize wn c=s2 at*;have hl:=zdh ⟨#[]⟩ [(⟨#[58]⟩:ByteArray),label,s2,⟨#[32]⟩,reason] s1.data.toList;have hs1:s1.data.toList.length=s1.size:=by simp
 have hz:szs [(⟨#[58]⟩:ByteArray),label,s2,⟨#[32]⟩,reason]=1+(label.size+(s2.size+(1+reason.size))):=by
  simp only [ju];show 1+(label.size+(s2.size+(1+(reason.size+0))))=_;omega
 have h0:(⟨#[]⟩:ByteArray).size=0:=rfl;rw [hs1,hz,h0,Nat.zero_mul] at hl;have c3:=zsz G37 ⟨#[]⟩ s1 [(⟨#[58]⟩:ByteArray),label,s2,⟨#[32]⟩,reason] (by simp) (by omega) (by omega) (by simp);generalize zfy ⟨#[]⟩ [s1,(⟨#[58]⟩:ByteArray),label,s2,⟨#[32]⟩,reason]=res at c3 ⊢;have c4:zq Tryz.prog G37 85 [.imm (yh [s1,(⟨#[58]⟩:ByteArray),label,s2,⟨#[32]⟩,reason])] (sS res):=by
  refine zg Tryz.func85 rfl (by rw [Tryz.ntmps85];simp) rfl rfl ?_;intro E hH hK;(refine ze ?_;conv=>whnf);refine zd rfl  c3 ?_;(refine zc ?_;conv=>whnf);exact hK _
 refine zg Tryz.func40 rfl (by rw [Tryz.ntmps40];simp) rfl rfl ?_;intro E hH hK;(refine ze ?_;conv=>whnf);refine zd rfl  c1 ?_;(refine zc ?_;conv=>whnf);refine zd rfl  c2 ?_;(refine zc ?_;conv=>whnf);refine zd rfl  c4 ?_;(refine zc ?_;conv=>whnf);exact hK _
structure Slip where
 person:ByteArray
 month:Int
 rows:List Rw
 blinds:List Int
 root:Nat
def Slip.cells (s:Slip):List D:=[zep s.person,dI s.month,zmq s.rows,yz s.blinds,dU s.root]
def Slip.sv (s:Slip):SV:=.agg (s.cells.map .imm)
def zta (r:Rw) (b:Int):Nat:=zjt r.cents b
def znh:List Rw->List Int->List Int
 |r::rs,b::bs=>(zta r b:Int)::znh rs bs
 |_,_=>[]
def zak:List Rw->List Int->List ByteArray
 |r::rs,b::bs=>qk r.label (zta r b) r.reason::zak rs bs
 |_,_=>[]
theorem zni:∀(rs:List Rw) (bs:List Int),bs.length=rs.length->(znh rs bs).length=rs.length
 |[],[],_=>rfl
 |_::rs,_::bs,h=>by simp [znh,zni rs bs (by simpa using h)]
 |[],_::_,h=>by simp at h
 |_::_,[],h=>by simp at h
theorem zdi:∀(rs:List Rw) (bs:List Int),bs.length=rs.length->(zak rs bs).length=rs.length
 |[],[],_=>rfl
 |_::rs,_::bs,h=>by simp [zak,zdi rs bs (by simpa using h)]
 |[],_::_,h=>by simp at h
 |_::_,[],h=>by simp at h
def ywg (r:Rw):Prop:=r.label.size<=100000/\r.reason.size<=100000/\ -500000000<=r.cents/\r.cents<=500000000
theorem zqc (r:Rw) (b:Int):zta r b<2147483579:=Nat.mod_lt _ (by decide)
theorem zgz (c b:Int) (hc: -500000000<=c/\c<=500000000) (hb:0<=b/\b<1073741789):zq Tryz.prog G37 39 [sI ((c+1073741789).tmod 1073741789),sI b] (.tup [sI (zjt c b),sI (0:Nat)]):=by
 have h1:(c+1073741789).tmod 1073741789=((zia c:Nat):Int):=by
  rw [Int.tmod_eq_emod_of_nonneg (by omega)];unfold zia;omega
 have h2:b=((b.toNat:Nat):Int):=by omega
 have h:=zje (zia c) b.toNat (by unfold zia ord;omega) (by unfold ord;omega);rw [h1];rw [h2];exact h
theorem zym (rows:List Rw) (blinds:List Int) (hl:blinds.length=rows.length) (hn:rows.length<=1024) (hr:∀r∈rows,ywg r) (hb:∀b∈blinds,0<=b/\b<1073741789):
  zq Tryz.prog G37 83 [.imm (zmq rows),.imm (yz blinds)] (.tup [.imm (yh (zak rows blinds)),sB true]):=by
 have hml:(rows.map Rw.cells).length=rows.length:=by simp
 refine zg Tryz.func83 rfl (by rw [Tryz.ntmps83];simp) rfl rfl ?_;intro E hH hK;(refine ze ?_;conv=>whnf);refine zhy (n:=6) (kk:=1) rfl ?_;refine zh [1,6,11,12,13] ?_;change SW E _ [(1,.imm (yz blinds)),(6,.asl 0 1 (([]:List ByteArray).map fun s=>[dS s])),(11,.imm (zmq rows)),(12,sI (rows.map Rw.cells).length),(13,sI (0:Nat))] [.tok 1 (([]:List ByteArray).map fun s=>[dS s]).length];refine zp rows (fun i (l:List ByteArray)=>[(1,.imm (yz blinds)),(6,.asl 0 1 (l.map fun s=>[dS s])),(11,.imm (zmq rows)),(12,sI (rows.map Rw.cells).length),(13,sI i)]) (fun _ l=>[.tok 1 (l.map fun s=>[dS s]).length])
  (fun done rest l=>zak rows blinds=l++zak rest (blinds.drop done.length)/\l.length=done.length) [] ⟨rfl,rfl⟩ ?_ ?_
 ·rintro l ⟨h1,h2⟩
  have h1:zak rows blinds=l:=by rw [h1];simp [zak]
  rw [h1] at hK;refine zdf ?_;change SW E _ [(1,.imm (yz blinds)),(6,.imm (yh l)),(11,.imm (zmq rows)),(12,sI (rows.map Rw.cells).length),(13,sI rows.length)] _;(refine ze ?_;conv=>whnf)
  repeat' ((with_reducible refine way ?_ ?_)<;>(intro h;conv=>whnf))
  all_goals try (exfalso;omega)
  exact hK _
 ·rintro done r rest l hda hdl ⟨h1,h2⟩ ih
  have hw:=zk (n:=done.length) (by omega);have hrow:(rows.map Rw.cells)[((done.length:Nat):Int).toNat]?=some r.cells:=by simp [hda]
  obtain ⟨b,hbb⟩:∃b,blinds[done.length]?=some b:=⟨_,List.getElem?_eq_getElem (by omega)⟩;have hrb:(blinds.map fun (n:Int)=>[dI n])[((done.length:Nat):Int).toNat]?=some [dI b]:=by simp [hbb]
  have hdr:blinds.drop done.length=b::blinds.drop (done.length+1):=by
   rw [List.drop_eq_getElem_cons (by omega)];rw [List.getElem?_eq_getElem (by omega)] at hbb;rw [Option.some.inj hbb]
  have hbr:=hb b (List.mem_of_getElem? hbb);obtain ⟨f1,f2,f3,f4⟩:=hr r (by rw [hda];simp);rw [hdr,zak] at h1;have hlt:=zqc r b;have hnx:=ih (l++[qk r.label (zta r b) r.reason]) ⟨by rw [h1];simp,by simp [h2]⟩;rw [List.map_append,List.length_append] at hnx;have c0:=zmg G37 r.cents;rw [decide_eq_true f3,decide_eq_true f4] at c0;have c1:=zgz r.cents b ⟨f3,f4⟩ hbr;change zq _ _ _ _ (.tup [sI (zta r b),_]) at c1;have c2:=zfp r.label (zta r b) r.reason f1 f2 ⟨by omega,by omega⟩;generalize qk r.label (zta r b) r.reason=lf at c2 hnx;generalize zta r b=cm at c1 c2 hlt;clear ih h1 hdr;obtain ⟨la,ce,re⟩:=r;simp only at f3 f4 c0 c1 c2;have hws:IntKind.i64.wrap (ce+1073741789)=ce+1073741789:=zr (by omega) (by omega);(refine ze ?_;conv=>whnf)
  repeat' ((with_reducible refine way ?_ ?_)<;>(intro h;conv=>whnf))
  all_goals try (exfalso;omega)
  refine zi rfl rfl  hrow ?_;(refine zc ?_;conv=>whnf);refine zd rfl  c0 ?_;(refine zc ?_;conv=>whnf);(refine zx mixed rfl ?_;refine zf [] ?_;conv=>whnf);refine yx rfl rfl  hrb ?_;(refine zf [] ?_;conv=>whnf);rw [hws];refine yf rfl  c1 ?_;(refine zf [] ?_;conv=>whnf);(refine ze ?_;conv=>whnf);refine zd rfl  c2 ?_;(refine zc ?_;conv=>whnf);refine yj (b:=0) (kk:=1) (rows:=l.map fun s=>[dS s]) (new:=[[dS lf]]) rfl ⟨by decide,rfl⟩ rfl (by rw [List.length_map];simp only [List.length_cons,List.length_nil];omega) ?_;(refine zc ?_;conv=>whnf);rw [hw];exact ys [1,6,11,12,13] 1 (by rw [hH];exact Nat.zero_le _) (Nat.succ_le_succ (Nat.zero_le _)) rfl rfl hnx
section
variable {H:Type} {enc:TypeId × Value->H} {w:World} {fuel:Nat} {cs:List Value} {x:DataW H × List MemPlace}
def i64 (n:Int):Prop:= -9223372036854775808<=n/\n<=9223372036854775807
abbrev big:Nat:=9223372036854775807
structure Decl.ok (d:Decl):Prop where
 name:d.name.size<=9223372036854775807
 unit:d.unit.size<=9223372036854775807
 role:i64 d.role
structure Piece.ok (p:Piece):Prop where
 lo:i64 p.lo
 at_:i64 p.at_
 slope:i64 p.slope
inductive ExOK:Ex->Prop
 |mk {op n:Int} {u:ByteArray} {den:Int} {ps:List Piece} {ks:List Ex}:i64 op->i64 n->u.size<=9223372036854775807->i64 den->ps.length<=9223372036854775807->(∀p∈ps,Piece.ok p)->ks.length<=9223372036854775807->(∀k∈ks,ExOK k)->ExOK (.mk op n u den ps ks)
structure Article.ok (a:Article):Prop where
 number:i64 a.number
 line:i64 a.line
 rank:i64 a.rank
 lo:i64 a.lo
 hi:i64 a.hi
 known:i64 a.known
 when_:a.when_.length<=9223372036854775807
 whens:∀e∈a.when_,ExOK e
 unless_:a.unless_.length<=9223372036854775807
 unlesss:∀n∈a.unless_,i64 n
 amount:ExOK a.amount
structure Fact.ok (f:Fact):Prop where
 person:f.person.size<=9223372036854775807
 name:f.name.size<=9223372036854775807
 lo:i64 f.lo
 hi:i64 f.hi
 known:i64 f.known
 value:i64 f.value
structure Codex.ok (c:Codex):Prop where
 facts:c.facts.length<=9223372036854775807
 fact:∀d∈c.facts,Decl.ok d
 lines:c.lines.length<=9223372036854775807
 line:∀d∈c.lines,Decl.ok d
 arts:c.arts.length<=9223372036854775807
 art:∀a∈c.arts,Article.ok a
theorem rdb (h:DataW.trod enc Tryz.prog w 0 (fun _=>true) true fuel 4 cs=some x):∃b:Bool,Cs w cs [dB b]/\True:=by
 obtain ⟨b,h1⟩:=yrr Tryz.underlying4 h;exact ⟨b,h1,trivial⟩
abbrev zhs:Nat:=140737488351232
theorem yqr (h:DataW.trod enc Tryz.prog w 0 (fun _=>true) true fuel 157 cs=some x) (hz:zky Tryz.prog 157 x.1):∃d:Frk,Cs w cs d.cells/\d.sib<18446744073709551616:=by
 obtain ⟨hl,n,_,hf⟩:=zgi Tryz.underlying157 h hz;rw [show Tryz.prog.cellsOf 157=2 by kernel_rfl] at hl;obtain ⟨a0,a1,rfl⟩:∃a0 a1,cs=[a0,a1]:=by match cs,hl with|[a0,a1],_=>exact ⟨a0,a1,rfl⟩
 obtain ⟨y0,h0,z0⟩:=hf 0 25 0 1 rfl (by kernel_rfl);obtain ⟨y1,h1,z1⟩:=hf 1 4 1 1 rfl (by kernel_rfl);obtain ⟨s0,g0,e0⟩:=ydd Tryz.underlying25 h0;obtain ⟨s1,g1,e1⟩:=rdb h1;exact ⟨⟨s0,s1⟩,g0.append g1,e0⟩
structure Rw.ok (r:Rw):Prop where
 label:r.label.size<=zhs
 cents:i64 r.cents
 reason:r.reason.size<=zhs
theorem yxe (h:DataW.trod enc Tryz.prog w 0 (fun _=>true) true fuel 72 cs=some x) (hz:zky Tryz.prog 72 x.1):∃d:Rw,Cs w cs d.cells/\Rw.ok d:=by
 obtain ⟨hl,n,_,hf⟩:=zgi Tryz.underlying72 h hz;rw [show Tryz.prog.cellsOf 72=3 by kernel_rfl] at hl;obtain ⟨a0,a1,a2,rfl⟩:∃a0 a1 a2,cs=[a0,a1,a2]:=by match cs,hl with|[a0,a1,a2],_=>exact ⟨a0,a1,a2,rfl⟩
 obtain ⟨y0,h0,z0⟩:=hf 0 9 0 1 rfl (by kernel_rfl);obtain ⟨y1,h1,z1⟩:=hf 1 3 1 1 rfl (by kernel_rfl);obtain ⟨y2,h2,z2⟩:=hf 2 9 2 1 rfl (by kernel_rfl);obtain ⟨s0,g0,e0⟩:=zkz Tryz.underlying9 h0 z0;obtain ⟨s1,g1,e1⟩:=zjq Tryz.underlying3 h1;obtain ⟨s2,g2,e2⟩:=zkz Tryz.underlying9 h2 z2;exact ⟨⟨s0,s1,s2⟩,g0.append (g1.append g2),e0,e1,e2⟩
structure Shw.ok (s:Shw):Prop where
 index:i64 s.index
 label:s.label.size<=zhs
 cents:i64 s.cents
 reason:s.reason.size<=zhs
 blind:i64 s.blind
 path:s.path.length<=zhs/\∀x∈s.path,x.sib<18446744073709551616
theorem ywh (h:DataW.trod enc Tryz.prog w 0 (fun _=>true) true fuel 74 cs=some x) (hz:zky Tryz.prog 74 x.1):∃d:Shw,Cs w cs d.cells/\Shw.ok d:=by
 obtain ⟨hl,n,_,hf⟩:=zgi Tryz.underlying74 h hz;rw [show Tryz.prog.cellsOf 74=6 by kernel_rfl] at hl;obtain ⟨a0,a1,a2,a3,a4,a5,rfl⟩:∃a0 a1 a2 a3 a4 a5,cs=[a0,a1,a2,a3,a4,a5]:=by match cs,hl with|[a0,a1,a2,a3,a4,a5],_=>exact ⟨a0,a1,a2,a3,a4,a5,rfl⟩
 obtain ⟨y0,h0,z0⟩:=hf 0 3 0 1 rfl (by kernel_rfl);obtain ⟨y1,h1,z1⟩:=hf 1 72 1 3 rfl (by kernel_rfl);obtain ⟨y2,h2,z2⟩:=hf 2 3 4 1 rfl (by kernel_rfl);obtain ⟨y3,h3,z3⟩:=hf 3 32 5 1 rfl (by kernel_rfl);obtain ⟨s0,g0,e0⟩:=zjq Tryz.underlying3 h0;obtain ⟨s1,g1,e1⟩:=yxe h1 z1;obtain ⟨s2,g2,e2⟩:=zjq Tryz.underlying3 h2;obtain ⟨s3,g3,e3⟩:=zgj Frk.cells (fun d=>d.sib<18446744073709551616) Tryz.underlying32 (show Tryz.prog.cellsOf 157=2 by kernel_rfl) (by decide) (Nat.le_of_ble_eq_true (by kernel_rfl)) h3 z3 (fun _ _ _ _ h z=>yqr h z);exact ⟨⟨s0,s1.label,s1.cents,s1.reason,s2,s3⟩,g0.append (g1.append (g2.append g3)),e0,e1.label,e1.cents,e1.reason,e2,e3⟩
structure Sg.ok (s:Sg):Prop where
 index:i64 s.index
 chains:s.chains.length<=zhs/\∀x∈s.chains,x<18446744073709551616
 path:s.path.length<=zhs/\∀x∈s.path,x.sib<18446744073709551616
theorem yxf (h:DataW.trod enc Tryz.prog w 0 (fun _=>true) true fuel 34 cs=some x) (hz:zky Tryz.prog 34 x.1):∃d:Sg,Cs w cs d.cells/\Sg.ok d:=by
 obtain ⟨hl,n,_,hf⟩:=zgi Tryz.underlying34 h hz;rw [show Tryz.prog.cellsOf 34=3 by kernel_rfl] at hl;obtain ⟨a0,a1,a2,rfl⟩:∃a0 a1 a2,cs=[a0,a1,a2]:=by match cs,hl with|[a0,a1,a2],_=>exact ⟨a0,a1,a2,rfl⟩
 obtain ⟨y0,h0,z0⟩:=hf 0 3 0 1 rfl (by kernel_rfl);obtain ⟨y1,h1,z1⟩:=hf 1 31 1 1 rfl (by kernel_rfl);obtain ⟨y2,h2,z2⟩:=hf 2 32 2 1 rfl (by kernel_rfl);obtain ⟨s0,g0,e0⟩:=zjq Tryz.underlying3 h0;obtain ⟨s1,g1,e1⟩:=zgj (fun (n:Nat)=>[dU n]) (fun n=>n<18446744073709551616) Tryz.underlying31 (show Tryz.prog.cellsOf 25=1 by kernel_rfl) (by decide) (Nat.le_of_ble_eq_true (by kernel_rfl)) h1 z1 (fun _ _ _ _ h _=>ydd Tryz.underlying25 h);obtain ⟨s2,g2,e2⟩:=zgj Frk.cells (fun d=>d.sib<18446744073709551616) Tryz.underlying32 (show Tryz.prog.cellsOf 157=2 by kernel_rfl) (by decide) (Nat.le_of_ble_eq_true (by kernel_rfl)) h2 z2 (fun _ _ _ _ h z=>yqr h z);exact ⟨⟨s0,s1,s2⟩,g0.append (g1.append g2),e0,e1,e2⟩
structure Disc.ok (d:Disc):Prop where
 person:d.person.size<=zhs
 month:i64 d.month
 root:d.root<18446744073709551616
 commit:d.commit.length<=zhs/\∀x∈d.commit,i64 x
 shown:d.shown.length<=zhs/\∀s∈d.shown,Shw.ok s
 hidden:i64 d.hidden
 blind:i64 d.blind
 sig:Sg.ok d.sig
theorem Disc.ok.fit {d:Disc} (h:Disc.ok d):DFit d where
 person:=Nat.le_trans h.person (by decide)
 root:=h.root
 commit:=Nat.le_trans h.commit.1 (by decide)
 shown:=Nat.le_trans h.shown.1 (by decide)
 row:=fun s hs=>⟨Nat.le_trans (h.shown.2 s hs).label (by decide),Nat.le_trans (h.shown.2 s hs).reason (by decide),Nat.le_trans (h.shown.2 s hs).path.1 (by decide),(h.shown.2 s hs).path.2⟩
 chains:=h.sig.chains.2
 path:=⟨Nat.le_trans h.sig.path.1 (by decide),h.sig.path.2⟩
theorem yuu (h:DataW.trod enc Tryz.prog w 0 (fun _=>true) true fuel 36 cs=some x) (hz:zky Tryz.prog 36 x.1):∃d:Disc,Cs w cs d.cells/\Disc.ok d:=by
 obtain ⟨hl,n,_,hf⟩:=zgi Tryz.underlying36 h hz;rw [show Tryz.prog.cellsOf 36=10 by kernel_rfl] at hl;obtain ⟨a0,a1,a2,a3,a4,a5,a6,a7,a8,a9,rfl⟩:∃a0 a1 a2 a3 a4 a5 a6 a7 a8 a9,cs=[a0,a1,a2,a3,a4,a5,a6,a7,a8,a9]:=by match cs,hl with|[a0,a1,a2,a3,a4,a5,a6,a7,a8,a9],_=>exact ⟨a0,a1,a2,a3,a4,a5,a6,a7,a8,a9,rfl⟩
 obtain ⟨y0,h0,z0⟩:=hf 0 9 0 1 rfl (by kernel_rfl);obtain ⟨y1,h1,z1⟩:=hf 1 3 1 1 rfl (by kernel_rfl);obtain ⟨y2,h2,z2⟩:=hf 2 25 2 1 rfl (by kernel_rfl);obtain ⟨y3,h3,z3⟩:=hf 3 23 3 1 rfl (by kernel_rfl);obtain ⟨y4,h4,z4⟩:=hf 4 30 4 1 rfl (by kernel_rfl);obtain ⟨y5,h5,z5⟩:=hf 5 3 5 1 rfl (by kernel_rfl);obtain ⟨y6,h6,z6⟩:=hf 6 3 6 1 rfl (by kernel_rfl);obtain ⟨y7,h7,z7⟩:=hf 7 34 7 3 rfl (by kernel_rfl);obtain ⟨s0,g0,e0⟩:=zkz Tryz.underlying9 h0 z0;obtain ⟨s1,g1,e1⟩:=zjq Tryz.underlying3 h1;obtain ⟨s2,g2,e2⟩:=ydd Tryz.underlying25 h2;obtain ⟨s3,g3,e3⟩:=zgj (fun (n:Int)=>[dI n]) i64 Tryz.underlying23 (show Tryz.prog.cellsOf 3=1 by kernel_rfl) (by decide) (Nat.le_of_ble_eq_true (by kernel_rfl)) h3 z3 (fun _ _ _ _ h _=>by obtain ⟨n,h1,h2⟩:=zjq Tryz.underlying3 h;exact ⟨n,h1,h2⟩);obtain ⟨s4,g4,e4⟩:=zgj Shw.cells Shw.ok Tryz.underlying30 (show Tryz.prog.cellsOf 74=6 by kernel_rfl) (by decide) (Nat.le_of_ble_eq_true (by kernel_rfl)) h4 z4 (fun _ _ _ _ h z=>ywh h z);obtain ⟨s5,g5,e5⟩:=zjq Tryz.underlying3 h5;obtain ⟨s6,g6,e6⟩:=zjq Tryz.underlying3 h6;obtain ⟨s7,g7,e7⟩:=yxf h7 z7;exact ⟨⟨s0,s1,s2,s3,s4,s5,s6,s7⟩,g0.append (g1.append (g2.append (g3.append (g4.append (g5.append (g6.append g7)))))),e0,e1,e2,e3,e4,e5,e6,e7⟩
structure Slip.ok (s:Slip):Prop where
 person:s.person.size<=zhs
 month:i64 s.month
 rows:s.rows.length<=zhs/\∀r∈s.rows,Rw.ok r
 blinds:s.blinds.length<=zhs/\∀b∈s.blinds,i64 b
 root:s.root<18446744073709551616
structure Ln.ok (l:Ln):Prop where
 day:i64 l.day
 line:i64 l.line
 art:i64 l.art
 amount:i64 l.amount
 facts:l.facts.length<=zhs/\∀x∈l.facts,i64 x
 rests:l.rests.length<=zhs/\∀x∈l.rests,i64 x
def Ln.cells (l:Ln):List D:=[dI l.day,dI l.line,dI l.art,dI l.amount,yb l.facts,yb l.rests]
section
variable {v:Value} {d:DataW H} {ps:List MemPlace} {b0:Nat} {r:Reach}
theorem yha {t:TypeId} {fs:Array Field} (ht:Tryz.prog.underlying t=some (.struct fs)) (hval:Value.okWide Tryz.prog w r b0 t v):∃vs,v= .agg vs:=by
 unfold Value.okWide at hval;rw [ht] at hval;obtain ⟨vs,h,_⟩:=hval;exact ⟨vs,h⟩
theorem openInt (hval:Value.okWide Tryz.prog w r b0 3 v) (h:DataW.Trod enc Tryz.prog w 0 (fun _=>true) true 3 v d ps):∃n:Int,i64 n/\Rep w (yft w) [] v (sI n):=by
 obtain ⟨n,rfl⟩:∃n,v= .int .i64 n:=by
  unfold Value.okWide at hval;rw [Tryz.underlying3] at hval;unfold Cell.okWide at hval;rw [Tryz.underlying3] at hval;cases v<;>simp [Cell.ok,Tryz.underlying3] at hval;obtain ⟨rfl,_⟩:=hval;exact ⟨_,rfl⟩
 obtain ⟨fuel,h⟩:=h;obtain ⟨m,h1,h2⟩:=zjq Tryz.underlying3 h;exact ⟨m,h2,ydc rfl h1⟩
theorem openDisc (hval:Value.okWide Tryz.prog w r b0 36 v) (h:DataW.Trod enc Tryz.prog w 0 (fun _=>true) true 36 v d ps) (hz:zky Tryz.prog 36 d):∃a:Disc,Disc.ok a/\Rep w (yft w) [] v (.agg ((Disc.cells a).map .imm)):=by
 obtain ⟨vs,rfl⟩:=yha Tryz.underlying36 hval;obtain ⟨fuel,h⟩:=h;obtain ⟨a,h1,h2⟩:=yuu h hz;exact ⟨a,h2,yjc (ds:=Disc.cells a) rfl h1⟩
theorem openDig (hval:Value.okWide Tryz.prog w r b0 25 v) (h:DataW.Trod enc Tryz.prog w 0 (fun _=>true) true 25 v d ps):∃n:Nat,n<18446744073709551616/\Rep w (yft w) [] v (yy n):=by
 obtain ⟨n,rfl⟩:∃n,v= .int .u64 n:=by
  unfold Value.okWide at hval;rw [Tryz.underlying25] at hval;unfold Cell.okWide at hval;rw [Tryz.underlying25] at hval;cases v<;>simp [Cell.ok,Tryz.underlying25] at hval;obtain ⟨rfl,_⟩:=hval;exact ⟨_,rfl⟩
 obtain ⟨fuel,h⟩:=h;obtain ⟨m,h1,h2⟩:=ydd Tryz.underlying25 h;exact ⟨m,h2,ydc rfl h1⟩
end
end
open Go Go.Sh Go.ChangeShapes Go.WideShapes Go.ChangeAt Go.RowKit
theorem own:ownKnob Tryz.prog.godebug=none:=by kernel_rfl
theorem kids:Kids Tryz.prog (· <Tryz.prog.types.size):=kids_rows (by kernel_rfl) (by kernel_rfl)
theorem full:∀t e,t<Tryz.prog.types.size->Tryz.prog.underlying t=some (.slice e)->0<Tryz.prog.cellsOf e:=slices_full_of Tryz.prog (by kernel_rfl)
theorem resBool:Tryz.prog.underlying 4=some .bool:=Tryz.underlying4
abbrev zqd:List (String × DataW Unit):=[("math/bits.deBruijn32tab",Rows.laid_math_bits_deBruijn32tab),("math/bits.deBruijn64tab",Rows.laid_math_bits_deBruijn64tab),("internal/strconv.uint64pow10",Rows.laid_internal_strconv_uint64pow10),("wageoffice/commitment.generators",Rows.laid_wageoffice_commitment_generators),("wageoffice/digest.digits",Rows.laid_wageoffice_digest_digits)]
theorem zbj {P:Program} {x:String × DataW Unit} {rest:List (String × DataW Unit)} {W:World} (h:laidMet P (x::rest) W):laidMet P rest W:=by
 obtain ⟨ps,⟨_,_,_,_,_,q,_,_,_,_,hr,e⟩,hn,hc⟩:=h;subst e;exact ⟨q,hr,(List.nodup_append.1 hn).2.1,fun b off hb=>hc b off (List.mem_append_right _ hb)⟩
theorem zli {W:World} (h:laidMetH Tryz.prog zqd W):laidMet Tryz.prog zqd W:=h
theorem yqs {W:World} (h:laidMetH Tryz.prog zqd W):Lib.TabIs Tryz.prog W "internal/strconv.uint64pow10" .u64 Lib.pow10Tab:=
 Lib.tabIs_of_head (g:=2) (t:=254) (e:=24) (n:=20) (by kernel_rfl) (by kernel_rfl) Tryz.underlying254 Tryz.underlying24 (by kernel_rfl) (by kernel_rfl) (zbj (zbj (zli h)))
theorem yuv {W:World} (h:laidMetH Tryz.prog zqd W):Lib.TabIs Tryz.prog W "wageoffice/commitment.generators" .i64 [4,9]:=
 Lib.tabIs_of_head (g:=0) (t:=146) (e:=3) (n:=2) (by kernel_rfl) (by kernel_rfl) Tryz.underlying146 Tryz.underlying3 (by kernel_rfl) (by kernel_rfl) (zbj (zbj (zbj (zli h))))
theorem yuw {W:World} (h:laidMetH Tryz.prog zqd W):Lib.TabIs Tryz.prog W "wageoffice/digest.digits" .u8 [48,49,50,51,52,53,54,55,56,57,97,98,99,100,101,102]:=
 Lib.tabIs_of_head (g:=1) (t:=197) (e:=5) (n:=16) (by kernel_rfl) (by kernel_rfl) Tryz.underlying197 Tryz.underlying5 (by kernel_rfl) (by kernel_rfl) (zbj (zbj (zbj (zbj (zli h)))))
theorem ztb {W:World} {name:String} {k:IntKind} {zs:List Int} {g:Nat} (h:Lib.TabIs Tryz.prog W name k zs) (hg:Tryz.prog.globalNamed name=some g) (h0:0<zs.length):DRep W (yft W) (.pointer (some ⟨g,0,none⟩)) (.row (zs.map fun z=>.val (.int k z)) 0):=by
 have hc:=fun i hi=>h.cell hg i hi
 have hb:g<W.heap.size:=(zoj (hc 0 h0)).2;refine .row g 0 _ 0 (fun j=>.int k (zs.getD j 0)) (fun j hj=>?_) (fun j hj=>?_)
 ·have hj':j<zs.length:=by simpa using hj
  rw [Nat.zero_add];exact ⟨hb,hc j hj',rfl⟩
 ·have hj':j<zs.length:=by simpa using hj
  have e:(zs.map fun z=>D.val (.int k z))[j]'hj= .val (.int k (zs.getD j 0)):=by
   simp only [List.getElem_map];rw [List.getD_eq_getElem?_getD,List.getElem?_eq_getElem hj'];rfl
  rw [e];exact .val _
theorem globals_ok {W:World} (h:laidMetH Tryz.prog zqd W):∀g d,(g,d)∈G37->DRep W (yft W) (.pointer (some ⟨g,0,none⟩)) d:=by
 intro g d hg;simp only [G37,List.mem_cons,List.not_mem_nil,or_false] at hg;rcases hg with hg|hg|hg
 ·cases hg
  have hb:2<W.heap.size:=(zoj ((yqs h).cell (show Tryz.prog.globalNamed "internal/strconv.uint64pow10" =some 2 by kernel_rfl) 0 (by decide))).2;refine .tab _ _ fun o=>⟨hb,?_⟩
  have h1:=World.var?_cell (show Tryz.prog.globalNamed "internal/strconv.uint64pow10" =some 2 by kernel_rfl) (yqs h) o;rw [h1];simp
 ·cases hg
  exact ztb (yuv h) (by kernel_rfl) (by decide)
 ·cases hg
  exact ztb (yuw h) (by kernel_rfl) (by decide)
def ylj (k:IntKind) (zs:List Int):Array Value:=(zs.map fun z=>Value.int k z).toArray
def ywi:List Int:=[0,1,28,2,29,14,24,3,30,22,20,15,25,17,4,8,31,27,13,23,21,19,16,7,26,12,18,6,11,5,10,9]
def ywj:List Int:=[0,1,56,2,57,49,28,3,61,58,42,50,38,29,17,4,62,47,59,36,45,43,51,22,53,39,33,30,24,18,12,5,63,55,48,27,60,41,37,16,46,35,44,21,52,32,23,11,54,26,40,15,34,20,31,10,25,14,19,9,13,8,7,6]
def lay (g:Nat) (cs:Array Value) (h:Array Obj):Array Obj:=h.modify g fun
 | .cells _ t frozen=>.cells cs t frozen
 |o=>o
noncomputable def laidWorld (os : Os) : World :=
  { World.holding Tryz.prog os ⟨#[], #[], []⟩ with heap := lay 4 (ylj .u8 ywi) (lay 5 (ylj .u8 ywj) (lay 2 (ylj .u64 Lib.pow10Tab) (lay 0 (ylj .i64 [4, 9])
      (lay 1 (ylj .u8 [48, 49, 50, 51, 52, 53, 54, 55, 56, 57, 97, 98, 99, 100, 101, 102]) (World.holding Tryz.prog os ⟨#[], #[], []⟩).heap)))) }
theorem laid_met (os:Os) (args:Array Value):laidMet Tryz.prog zqd ((laidWorld os).forCall (fun _ _=>0) ⟨#[],args,[]⟩).memory:=
 laidMet_of_run' 8 (by kernel_rfl) (by kernel_rfl)
theorem zrn (rows:List Rw) (blinds:List Int) (hl:blinds.length=rows.length) (hn:rows.length<=1024) (hr:∀r∈rows,r.label.size<=100000/\r.reason.size<=100000) (hbad:¬∀r∈rows, -500000000<=r.cents/\r.cents<=500000000) (hb:∀b∈blinds,0<=b/\b<1073741789):
  zq Tryz.prog G37 83 [.imm (zmq rows),.imm (yz blinds)] (.tup [.imm (.val (.slice none 0 0)),sB false]):=by
 have hml:(rows.map Rw.cells).length=rows.length:=by simp
 refine zg Tryz.func83 rfl (by rw [Tryz.ntmps83];simp) rfl rfl ?_;intro E hH hK;(refine ze ?_;conv=>whnf);refine zhy (n:=6) (kk:=1) rfl ?_;refine zh [1,6,11,12,13] ?_;change SW E _ [(1,.imm (yz blinds)),(6,.asl 0 1 (([]:List ByteArray).map fun s=>[dS s])),(11,.imm (zmq rows)),(12,sI (rows.map Rw.cells).length),(13,sI (0:Nat))] [.tok 1 (([]:List ByteArray).map fun s=>[dS s]).length];refine zp rows (fun i (l:List ByteArray)=>[(1,.imm (yz blinds)),(6,.asl 0 1 (l.map fun s=>[dS s])),(11,.imm (zmq rows)),(12,sI (rows.map Rw.cells).length),(13,sI i)]) (fun _ l=>[.tok 1 (l.map fun s=>[dS s]).length])
  (fun done rest l=>(∀r∈done, -500000000<=r.cents/\r.cents<=500000000)/\l.length=done.length) [] ⟨fun r hr=>(by cases hr),rfl⟩ ?_ ?_
 ·rintro l ⟨h1,h2⟩
  exact absurd h1 hbad
 ·rintro done r rest l hda hdl ⟨h1,h2⟩ ih
  have hw:=zk (n:=done.length) (by omega);have hrow:(rows.map Rw.cells)[((done.length:Nat):Int).toNat]?=some r.cells:=by simp [hda]
  obtain ⟨b,hbb⟩:∃b,blinds[done.length]?=some b:=⟨_,List.getElem?_eq_getElem (by omega)⟩;have hrb:(blinds.map fun (n:Int)=>[dI n])[((done.length:Nat):Int).toNat]?=some [dI b]:=by simp [hbb]
  have hdr:blinds.drop done.length=b::blinds.drop (done.length+1):=by
   rw [List.drop_eq_getElem_cons (by omega)];rw [List.getElem?_eq_getElem (by omega)] at hbb;rw [Option.some.inj hbb]
  have hbr:=hb b (List.mem_of_getElem? hbb);obtain ⟨f1,f2⟩:=hr r (by rw [hda];simp);have hlt:=zqc r b;have c0:=zmg G37 r.cents
  by_cases hin: -500000000<=r.cents/\r.cents<=500000000
  case neg=>
   have hd:(decide (-500000000<=r.cents)&&decide (r.cents<=500000000))=false:=by
    cases hx:(decide (-500000000<=r.cents)&&decide (r.cents<=500000000)) with
    |false=>rfl
    |true=>simp only [Bool.and_eq_true,decide_eq_true_eq] at hx;exact absurd hx hin
   rw [hd] at c0;clear hd hin ih hlt;obtain ⟨la,ce,re⟩:=r;simp only at c0;(refine ze ?_;conv=>whnf)
   repeat' ((with_reducible refine way ?_ ?_)<;>(intro h;conv=>whnf))
   all_goals try (exfalso;omega)
   refine zi rfl rfl  hrow ?_;(refine zc ?_;conv=>whnf);refine zd rfl  c0 ?_;(refine zc ?_;conv=>whnf);exact hK _
  obtain ⟨f3,f4⟩:=hin
  have hnx:=ih (l++[qk r.label (zta r b) r.reason]) ⟨fun r' hr'=>by
   rcases List.mem_append.1 hr' with h|h
   ·exact h1 r' h
   ·rw [List.mem_singleton.1 h];exact ⟨f3,f4⟩,by simp [h2]⟩
  rw [List.map_append,List.length_append] at hnx;rw [decide_eq_true f3,decide_eq_true f4] at c0;have c1:=zgz r.cents b ⟨f3,f4⟩ hbr;change zq _ _ _ _ (.tup [sI (zta r b),_]) at c1;have c2:=zfp r.label (zta r b) r.reason f1 f2 ⟨by omega,by omega⟩;generalize qk r.label (zta r b) r.reason=lf at c2 hnx;generalize zta r b=cm at c1 c2 hlt;clear ih h1 hdr;obtain ⟨la,ce,re⟩:=r;simp only at f3 f4 c0 c1 c2;have hws:IntKind.i64.wrap (ce+1073741789)=ce+1073741789:=zr (by omega) (by omega);(refine ze ?_;conv=>whnf)
  repeat' ((with_reducible refine way ?_ ?_)<;>(intro h;conv=>whnf))
  all_goals try (exfalso;omega)
  refine zi rfl rfl  hrow ?_;(refine zc ?_;conv=>whnf);refine zd rfl  c0 ?_;(refine zc ?_;conv=>whnf);(refine zx mixed rfl ?_;refine zf [] ?_;conv=>whnf);refine yx rfl rfl  hrb ?_;(refine zf [] ?_;conv=>whnf);rw [hws];refine yf rfl  c1 ?_;(refine zf [] ?_;conv=>whnf);(refine ze ?_;conv=>whnf);refine zd rfl  c2 ?_;(refine zc ?_;conv=>whnf);refine yj (b:=0) (kk:=1) (rows:=l.map fun s=>[dS s]) (new:=[[dS lf]]) rfl ⟨by decide,rfl⟩ rfl (by rw [List.length_map];simp only [List.length_cons,List.length_nil];omega) ?_;(refine zc ?_;conv=>whnf);rw [hw];exact ys [1,6,11,12,13] 1 (by rw [hH];exact Nat.zero_le _) (Nat.succ_le_succ (Nat.zero_le _)) rfl rfl hnx
def yqt (x:Int) (r:List Int):Int:=r.foldl (fun m y=>if y<m then y else m) x
def yqu (x:Int) (r:List Int):Int:=r.foldl (fun m y=>if y>m then y else m) x
theorem ypk (G:List (Nat × D)) (x:Int) (r:List Int) (hl:r.length<=1000000):zq Tryz.prog G 81 [.imm (yz (x::r))] (sI (yqt x r)):=by
 have hml:((x::r).map fun (n:Int)=>[dI n]).length=r.length+1:=by simp
 refine zg Tryz.func81 rfl (by rw [Tryz.ntmps81];simp) rfl rfl ?_;intro E hH hK;(refine ze ?_;conv=>whnf)
 repeat' ((with_reducible refine way ?_ ?_)<;>(intro h;conv=>whnf))
 all_goals try (exfalso;omega)
 refine zi (i:=0) (row:=[dI x]) rfl rfl rfl ?_;(refine zc ?_;conv=>whnf);refine zh [0,3,4] ?_;change SW E _ [(0,.imm (yz (x::r))),(3,sI x),(4,sI (1:Nat))] [];refine zp r (fun i (m:Int)=>[(0,.imm (yz (x::r))),(3,sI m),(4,sI (i+1:Nat))]) (fun _ _=>[]) (fun done rest m=>yqt x r=yqt m rest) x rfl ?_ ?_
 ·rintro m h1
  have h1:yqt x r=m:=h1;rw [h1] at hK;(refine ze ?_;conv=>whnf)
  repeat' ((with_reducible refine way ?_ ?_)<;>(intro h;conv=>whnf))
  all_goals try (exfalso;omega)
  exact hK _
 ·rintro done y rest m hda hdl h1 ih
  have hw:=zk (n:=done.length+1) (by omega);have hrow:((x::r).map fun (n:Int)=>[dI n])[done.length+1]?=some [dI y]:=by simp [hda]
  have hnx:=ih (if y<m then y else m) h1;(refine ze ?_;conv=>whnf)
  repeat' ((with_reducible refine way ?_ ?_)<;>(intro h;conv=>whnf))
  all_goals try (exfalso;omega)
  refine zi (i:=done.length+1) (row:=[dI y]) rfl rfl hrow ?_;(refine zc ?_;conv=>whnf);rw [hw];exact zh [0,3,4] hnx
theorem ypl (G:List (Nat × D)) (x:Int) (r:List Int) (hl:r.length<=1000000):zq Tryz.prog G 82 [.imm (yz (x::r))] (sI (yqu x r)):=by
 have hml:((x::r).map fun (n:Int)=>[dI n]).length=r.length+1:=by simp
 refine zg Tryz.func82 rfl (by rw [Tryz.ntmps82];simp) rfl rfl ?_;intro E hH hK;(refine ze ?_;conv=>whnf)
 repeat' ((with_reducible refine way ?_ ?_)<;>(intro h;conv=>whnf))
 all_goals try (exfalso;omega)
 refine zi (i:=0) (row:=[dI x]) rfl rfl rfl ?_;(refine zc ?_;conv=>whnf);refine zh [0,3,4] ?_;change SW E _ [(0,.imm (yz (x::r))),(3,sI x),(4,sI (1:Nat))] [];refine zp r (fun i (m:Int)=>[(0,.imm (yz (x::r))),(3,sI m),(4,sI (i+1:Nat))]) (fun _ _=>[]) (fun done rest m=>yqu x r=yqu m rest) x rfl ?_ ?_
 ·rintro m h1
  have h1:yqu x r=m:=h1;rw [h1] at hK;(refine ze ?_;conv=>whnf)
  repeat' ((with_reducible refine way ?_ ?_)<;>(intro h;conv=>whnf))
  all_goals try (exfalso;omega)
  exact hK _
 ·rintro done y rest m hda hdl h1 ih
  have hw:=zk (n:=done.length+1) (by omega);have hrow:((x::r).map fun (n:Int)=>[dI n])[done.length+1]?=some [dI y]:=by simp [hda]
  have hnx:=ih (if y>m then y else m) h1;(refine ze ?_;conv=>whnf)
  repeat' ((with_reducible refine way ?_ ?_)<;>(intro h;conv=>whnf))
  all_goals try (exfalso;omega)
  refine zi (i:=done.length+1) (row:=[dI y]) rfl rfl hrow ?_;(refine zc ?_;conv=>whnf);rw [hw];exact zh [0,3,4] hnx
theorem ylk (c:Int):∀(r:List Int) (x:Int),yqt x r<c ↔ ∃y∈x::r,y<c
 |[],x=>by simp [yqt]
 |y::r,x=>by
  show yqt (if y<x then y else x) r<c ↔ _;rw [ylk c r];simp only [List.mem_cons,exists_eq_or_imp];split
  ·constructor
   ·rintro (h|h)
    ·exact .inr (.inl h)
    ·exact .inr (.inr h)
   ·rintro (h|h|h)
    ·exact .inl (by omega)
    ·exact .inl h
    ·exact .inr h
  ·constructor
   ·rintro (h|h)
    ·exact .inl h
    ·exact .inr (.inr h)
   ·rintro (h|h|h)
    ·exact .inl h
    ·exact .inl (by omega)
    ·exact .inr h
theorem yll (c:Int):∀(r:List Int) (x:Int),c<=yqu x r ↔ ∃y∈x::r,c<=y
 |[],x=>by simp [yqu]
 |y::r,x=>by
  show c<=yqu (if y>x then y else x) r ↔ _;rw [yll c r];simp only [List.mem_cons,exists_eq_or_imp];split
  ·constructor
   ·rintro (h|h)
    ·exact .inr (.inl h)
    ·exact .inr (.inr h)
   ·rintro (h|h|h)
    ·exact .inl (by omega)
    ·exact .inl h
    ·exact .inr h
  ·constructor
   ·rintro (h|h)
    ·exact .inl h
    ·exact .inr (.inr h)
   ·rintro (h|h|h)
    ·exact .inl h
    ·exact .inl (by omega)
    ·exact .inr h
structure SlipGood (s:Slip):Prop where
 name:qd s.person=true
 month:0<=s.month/\s.month<=1199
 rows:1<=s.rows.length/\s.rows.length<=1024
 blinds:s.blinds.length=s.rows.length
 blind:∀b∈s.blinds,0<=b/\b<1073741789
 cents:∀r∈s.rows, -500000000<=r.cents/\r.cents<=500000000
 root:zjc (zak s.rows s.blinds)=s.root
theorem yhb (la:ByteArray) (c:Int) (re:ByteArray) (h1:la.size<=100000) (h2:re.size<=100000) (h3: -9000000000000000000<=c/\c<=9000000000000000000):(qk la c re).size<=300000:=by
 have z1:=xb (la.size:Int) (by omega) (by omega);have z2:=xb c (by omega) (by omega);unfold qk;simp only [ByteArray.size_append];show (wn la.size).size+1+la.size+(wn c).size+1+re.size<=_;omega
theorem zho:∀(rs:List Rw) (bs:List Int),(∀r∈rs,r.label.size<=100000/\r.reason.size<=100000)->∀x∈zak rs bs,x.size<=300000
 |[],_,_,x,hx=>by cases hx
 |_::_,[],_,x,hx=>by cases hx
 |r::rs,b::bs,h,x,hx=>by
  rcases List.mem_cons.1 hx with rfl|hx
  ·have:=zqc r b
   exact yhb _ _ _ (h r (by simp)).1 (h r (by simp)).2 ⟨by omega,by omega⟩
  ·exact zho rs bs (fun r hr=>h r (by simp [hr])) x hx
theorem zro (s:Slip) (hr:∀r∈s.rows,r.label.size<=100000/\r.reason.size<=100000) (hn:s.rows.length<=1000000) (hbn:s.blinds.length<=1000000) (b:Bool) (hb:b=true ↔ SlipGood s):
  zq Tryz.prog G37 37 [s.sv] (sB b):=by
 have no:¬SlipGood s->b=false:=fun h=>by cases hbb:b with|false=>rfl|true=>exact absurd (hb.1 hbb) h
 have c0:=zvg G37 s.person;obtain ⟨nm,hnm⟩:∃x,x=qd s.person:=⟨_,rfl⟩;rw [<-hnm] at c0;obtain ⟨person,month,rows,blinds,root⟩:=s;simp only at c0 hr hn hbn hnm;have hml:(rows.map Rw.cells).length=rows.length:=by simp
 have hbl:(blinds.map fun (n:Int)=>[dI n]).length=blinds.length:=by simp
 refine zg Tryz.func37 rfl (by rw [Tryz.ntmps37];simp) rfl rfl ?_;intro E hH hK;(refine ze ?_;conv=>whnf);refine zd rfl  c0 ?_;cases nm with
 |false=>
  rw [no (fun h=>by have:=h.name;rw [<-hnm] at this;cases this)] at hK;(refine zc ?_;conv=>whnf);exact hK _
 |true=>
 have hno:¬(0<=month/\month<=1199/\1<=rows.length/\rows.length<=1024/\blinds.length=rows.length)->∀X,E.K (sB false) X:=fun h X=>by
  have:=hK X;rw [no (fun g=>h ⟨g.month.1,g.month.2,g.rows.1,g.rows.2,g.blinds⟩)] at this;exact this
 have hno2:¬(∀b∈blinds,0<=b/\b<1073741789)->∀X,E.K (sB false) X:=fun h X=>by
  have:=hK X;rw [no (fun g=>h g.blind)] at this;exact this
 have hno3:¬(∀r∈rows, -500000000<=r.cents/\r.cents<=500000000)->∀X,E.K (sB false) X:=fun h X=>by
  have:=hK X;rw [no (fun g=>h g.cents)] at this;exact this
 (refine zc ?_;conv=>whnf)
 repeat' ((with_reducible refine way ?_ ?_)<;>(intro h;conv=>whnf))
 ·have h':1199<month:=h
  exact hno (by omega) _
 ·have h':¬(((blinds.map fun (n:Int)=>[dI n]).length:Nat):Int)=(((rows.map Rw.cells).length:Nat):Int):=h
  exact hno (by omega) _
 ·have k1:¬month<0:=by assumption
  have k2:¬1199<month:=by assumption
  have k3:¬(((rows.map Rw.cells).length:Nat):Int)<1:=by assumption
  have k4:¬1024<(((rows.map Rw.cells).length:Nat):Int):=by assumption
  have k5:(((blinds.map fun (n:Int)=>[dI n]).length:Nat):Int)=(((rows.map Rw.cells).length:Nat):Int):=h;have hlen:blinds.length=rows.length:=by omega
  obtain ⟨x,r,hxr⟩:∃x r,blinds=x::r:=by
   cases blinds with
   |nil=>simp only [List.length_nil] at hlen;omega
   |cons x r=>exact ⟨x,r,rfl⟩
  have c1:=ypk G37 x r (by rw [hxr] at hlen;simp only [List.length_cons] at hlen;omega);have c2:=ypl G37 x r (by rw [hxr] at hlen;simp only [List.length_cons] at hlen;omega);rw [<-hxr] at c1 c2;have m1:=ylk 0 r x;have m2:=yll 1073741789 r x;rw [<-hxr] at m1 m2;generalize yqt x r=mi at c1 m1;generalize yqu x r=ma at c2 m2;refine zd rfl  c1 ?_;(refine zc ?_;conv=>whnf)
  repeat' ((with_reducible refine way ?_ ?_)<;>(intro h;conv=>whnf))
  ·refine zd rfl  c2 ?_
   (refine zc ?_;conv=>whnf)
   repeat' ((with_reducible refine way ?_ ?_)<;>(intro h;conv=>whnf))
   ·exact hno2 (fun g=>by
     obtain ⟨y,hy,hy2⟩:=m2.1 h;have:=g y hy
     omega) _
   ·have hbg:∀b∈blinds,0<=b/\b<1073741789:=fun y hy=>by
     have n1:¬mi<0:=by assumption
     have n2:¬1073741789<=ma:=h;rw [m1] at n1;rw [m2] at n2;have e1:¬y<0:=fun e=>n1 ⟨y,hy,e⟩
     have e2:¬1073741789<=y:=fun e=>n2 ⟨y,hy,e⟩
     omega
    by_cases hc:∀r∈rows, -500000000<=r.cents/\r.cents<=500000000
    case neg=>
     have c3:=zrn rows blinds hlen (by omega) hr hc hbg;refine zd rfl  c3 ?_;(refine zc ?_;conv=>whnf);exact hno3 hc _
    have c3:=zym rows blinds hlen (by omega) (fun r hx=>⟨(hr r hx).1,(hr r hx).2,(hc r hx).1,(hc r hx).2⟩) hbg;have hll:=zdi rows blinds hlen;have c4:=zpx G37 (zak rows blinds) (by rw [hll];omega) (by rw [hll];omega) (fun x hx=>by have:=zho rows blinds hr x hx;omega);have hbb:b=decide (zjc (zak rows blinds)=root):=by
     cases hx:decide (zjc (zak rows blinds)=root) with
     |true=>exact hb.2 ⟨hnm.symm,⟨show 0<=month by omega,show month<=1199 by omega⟩,⟨show 1<=rows.length by omega,show rows.length<=1024 by omega⟩,hlen,hbg,hc,of_decide_eq_true hx⟩
     |false=>exact no fun g=>(of_decide_eq_false hx) g.root
    rw [hbb] at hK;generalize zjc (zak rows blinds)=rt at c4 hK;generalize zak rows blinds=lv at c3 c4;refine zd rfl  c3 ?_;(refine zc ?_;conv=>whnf);refine zd rfl  c4 ?_;(refine zc ?_;conv=>whnf);exact kB hK (decide_eq_decide.2 ⟨fun h=>(by show ((rt:Nat):Int)=((root:Nat):Int);omega),fun h=>(by have h':((rt:Nat):Int)=((root:Nat):Int):=h;omega)⟩)
  ·exact hno2 (fun g=>by
    obtain ⟨y,hy,hy2⟩:=m1.1 h;have:=g y hy
    omega) _
 ·have h':1024<(((rows.map Rw.cells).length:Nat):Int):=h
  exact hno (by omega) _
 ·have h':(((rows.map Rw.cells).length:Nat):Int)<1:=h
  exact hno (by omega) _
 ·have h':month<0:=h
  exact hno (by omega) _
def paysT:ByteArray:=⟨#[112,97,121,115,108,105,112]⟩
def spT:ByteArray:=⟨#[32]⟩
def zii (person:ByteArray) (month:Int) (root:Nat) (cs:List Int):List ByteArray:=[paysT,person,wn month,zea root]++cs.map wn
theorem zvi (person:ByteArray) (month:Int) (root:Nat) (cs:List Int) (hp:person.size<=1000) (hm:0<=month/\month<=1199) (hr:root<18446744073709551616) (hc:∀c∈cs,0<=c/\c<=9000000000000000000) (hn:cs.length<=1024):
  zq Tryz.prog G37 42 [sS person,sI month,yy root,.imm (yz cs)] (sS (zfy spT (zii person month root cs))):=by
 have c1:=zrh zdg month (by omega) (by omega);have z1:=xb month (by omega) (by omega);have c2:=zps root hr;have z2:=jn root;have hml:(cs.map fun (n:Int)=>[dI n]).length=cs.length:=by simp
 have hsz:szs (cs.map wn)<=21*cs.length:=by
  clear hn hml
  induction cs with
  |nil=>simp [szs]
  |cons c cs ih=>
   have h1:=hc c (by simp);have h2:=xb c (by omega) (by omega);have h3:=ih (fun c h=>hc c (by simp [h]));rw [List.map_cons,ju,List.length_cons];omega
 have hj:=zdh spT ([person,wn month,zea root]++cs.map wn) paysT.data.toList;have hsp:spT.size=1:=rfl;have hpl:paysT.data.toList.length=7:=rfl;have hss:szs ([person,wn month,zea root]++cs.map wn)=person.size+((wn month).size+((zea root).size+szs (cs.map wn))):=by
  show szs (person::wn month::zea root::cs.map wn)=_;simp only [ju]
 have hll:([person,wn month,zea root]++cs.map wn).length=3+cs.length:=by simp;omega
 rw [hsp,hpl,hss,hll,Nat.one_mul] at hj;have c3:=zsz G37 spT paysT ([person,wn month,zea root]++cs.map wn) (by simp) (by omega) (by omega) (by omega);change zq _ _ _ [.imm (yh (zii person month root cs)),_] (sS (zfy spT (zii person month root cs))) at c3;unfold zii at c3 ⊢;generalize wn month=s1 at*;generalize zea root=s2 at*;generalize hres:zfy spT ([paysT,person,s1,s2]++cs.map wn)=res at c3 ⊢;have c4:zq Tryz.prog G37 90 [.imm (yh ([paysT,person,s1,s2]++cs.map wn))] (sS res):=by
  refine zg Tryz.func90 rfl (by rw [Tryz.ntmps90];simp) rfl rfl ?_;intro E hH hK;(refine ze ?_;conv=>whnf);refine zd rfl  c3 ?_;(refine zc ?_;conv=>whnf);exact hK _
 refine zg Tryz.func42 rfl (by rw [Tryz.ntmps42];simp) rfl rfl ?_;intro E hH hK;(refine ze ?_;conv=>whnf);refine zd rfl  c1 ?_;(refine zc ?_;conv=>whnf);refine zd rfl  c2 ?_;(refine zj [777,17] 1000 ?_;conv=>whnf);refine zrz (kk:=1) (rows:=[[dS paysT],[dS person],[dS s1],[dS s2]]) rfl rfl rfl rfl rfl ?_;(refine zc ?_;conv=>whnf);refine zh [3,9,18,19,20] ?_;change SW E _ [(3,.imm (yz cs)),(9,.asl 0 1 (([paysT,person,s1,s2]++([]:List Int).map wn).map fun s=>[dS s])),(18,.imm (yz cs)),(19,sI (cs.map fun (n:Int)=>[dI n]).length),(20,sI (0:Nat))] [.tok 1 (([paysT,person,s1,s2]++([]:List Int).map wn).map fun s=>[dS s]).length];refine zp cs (fun i (l:List ByteArray)=>[(3,.imm (yz cs)),(9,.asl 0 1 (l.map fun s=>[dS s])),(18,.imm (yz cs)),(19,sI (cs.map fun (n:Int)=>[dI n]).length),(20,sI i)]) (fun _ l=>[.tok 1 (l.map fun s=>[dS s]).length])
  (fun done _ l=>l=[paysT,person,s1,s2]++done.map wn) _ rfl ?_ ?_
 ·rintro l hl
  have hl:l=[paysT,person,s1,s2]++cs.map wn:=hl;rw [<-hl] at c4;refine zdf ?_;change SW E _ [(3,.imm (yz cs)),(9,.imm (yh l)),(18,.imm (yz cs)),(19,sI (cs.map fun (n:Int)=>[dI n]).length),(20,sI cs.length)] _;(refine ze ?_;conv=>whnf)
  repeat' ((with_reducible refine way ?_ ?_)<;>(intro h;conv=>whnf))
  all_goals try (exfalso;omega)
  refine zd rfl  c4 ?_;(refine zc ?_;conv=>whnf);exact hK _
 ·rintro done c rest l hda hdl hl ih
  have hl:l=[paysT,person,s1,s2]++done.map wn:=hl;have hw:=zk (n:=done.length) (by omega);have hrow:(cs.map fun (n:Int)=>[dI n])[((done.length:Nat):Int).toNat]?=some [dI c]:=by simp [hda]
  have hcc:=hc c (by rw [hda];simp);have d1:=zrh zdg c (by omega) (by omega);have hlen:l.length=4+done.length:=by rw [hl];simp;omega
  have hnx:=ih (l++[wn c]) (by show l++[wn c]=_++(done++[c]).map wn;rw [hl];simp);rw [List.map_append,List.length_append] at hnx;generalize wn c=s3 at d1 hnx;(refine ze ?_;conv=>whnf)
  repeat' ((with_reducible refine way ?_ ?_)<;>(intro h;conv=>whnf))
  all_goals try (exfalso;omega)
  refine zi rfl rfl  hrow ?_;(refine zc ?_;conv=>whnf);refine zd rfl  d1 ?_;(refine zc ?_;conv=>whnf);refine yj (b:=0) (kk:=1) (rows:=l.map fun s=>[dS s]) (new:=[[dS s3]]) rfl ⟨by decide,rfl⟩ rfl (by rw [List.length_map];simp only [List.length_cons,List.length_nil];omega) ?_;(refine zc ?_;conv=>whnf);rw [hw];exact zh [3,9,18,19,20] hnx
theorem ylm (i:Int):zaz [i]=⟨#[UInt8.ofNat i.toNat]⟩:=rfl
theorem yhc (n:Nat) (h:n<10):wn n=zaz [48+(n:Int)]:=by
 rw [zov _ (by omega) (by omega),Lib.itoa_nonneg,Lib.decDigits,dif_pos h,ylm,show (48+(n:Int)).toNat=48+n by omega]
theorem ypm (n:Nat) (h:¬n<10) (hn:n<=1000000000000000000):wn n=wn (n / 10:Nat)++zaz [48+((n % 10:Nat):Int)]:=by
 rw [zov _ (by omega) (by omega),zov _ (by omega) (by omega),Lib.itoa_nonneg,Lib.itoa_nonneg,Lib.decDigits,dif_neg h,ylm,show (48+((n % 10:Nat):Int)).toNat=48+n % 10 by omega]
 apply ByteArray.ext
 simp [ByteArray.data_append]
theorem w8 (n:Nat) (h:n<10):IntKind.u8.wrap (IntKind.i64.wrap (48+(n:Int)))=48+(n:Int):=by
 have e:48+(n:Int)=((48+n:Nat):Int):=by omega
 rw [zr (by omega) (by omega),e,yom];omega
theorem zdj:∀(k n:Nat),n<k->n<=1000000000000000000->zq Tryz.prog G 118 [sI n] (sS (wn n))
 |0,n,h,_=>by omega
 |k+1,n,h,hn=>by
  by_cases h10:n<10
  ·have e:=yhc n h10
   have hw:=w8 n h10;rw [e];refine zg Tryz.func118 rfl (by rw [Tryz.ntmps118];simp) rfl rfl ?_;intro E hH hK;rw [<-hw] at hK;(refine ze ?_;conv=>whnf)
   repeat' ((with_reducible refine way ?_ ?_)<;>(intro h;conv=>whnf))
   all_goals try (exfalso;omega)
   exact hK _
  ·have e:=ypm n h10 hn
   have ih:=zdj k (n / 10) (by omega) (by omega);have hz:=xb (n / 10:Nat) (by omega) (by omega);have hw:=w8 (n % 10) (by omega);have hm:(n:Int).tmod 10=((n % 10:Nat):Int):=by rw [Int.tmod_eq_emod_of_nonneg (by omega)];rfl
   have hq:IntKind.i64.wrap ((n:Int).tdiv 10)=((n / 10:Nat):Int):=by rw [Int.tdiv_eq_ediv_of_nonneg (by omega),zr (by omega) (by omega)];rfl
   rw [e];generalize wn (n / 10:Nat)=pre at ih hz ⊢;refine zg Tryz.func118 rfl (by rw [Tryz.ntmps118];simp) rfl rfl ?_;intro E hH hK;(refine ze ?_;conv=>whnf)
   repeat' ((with_reducible refine way ?_ ?_)<;>(intro h;conv=>whnf))
   all_goals try (exfalso;omega)
   (refine zx mixed rfl ?_;refine zf [37] ?_;conv=>whnf);rw [hq];refine yf rfl  ih ?_;(refine zf [37] ?_;conv=>whnf);rw [hm,hw];refine zaq rfl rfl rfl rfl rfl (by show pre.size+1<=_;omega) ?_;(refine zf [] ?_;conv=>whnf);(refine ze ?_;conv=>whnf);exact hK _
theorem zmh (label:ByteArray) (c:Nat) (reason:ByteArray) (h1:label.size<=100000) (h2:reason.size<=100000) (h3:c<=1000000000000000000):
  zq Tryz.prog G 77 [sS label,sI c,sS reason] (sS (qk label c reason)):=by
 have c1:=zdj G (label.size+1) label.size (by omega) (by omega);have c2:=zdj G (c+1) c (by omega) h3;have z1:=xb (label.size:Int) (by omega) (by omega);have z2:=xb (c:Int) (by omega) (by omega);unfold qk;generalize wn (label.size:Int)=s1 at*;generalize wn (c:Int)=s2 at*;refine zg Tryz.func77 rfl (by rw [Tryz.ntmps77];simp) rfl rfl ?_;intro E hH hK;(refine ze ?_;conv=>whnf);refine zd rfl  c1 ?_;refine wq rfl rfl rfl rfl rfl (by show s1.size+1<=_;omega) ?_;(refine zj [777,12] 1000 ?_;conv=>whnf);refine wq rfl rfl rfl rfl rfl (by simp only [ByteArray.size_append];show s1.size+1+label.size<=_;omega) ?_;(refine zj [777,15] 1000 ?_;conv=>whnf);refine zd rfl  c2 ?_;refine wq rfl rfl rfl rfl rfl (by simp only [ByteArray.size_append];show s1.size+1+label.size+s2.size<=_;omega) ?_;refine wq rfl rfl rfl rfl rfl (by simp only [ByteArray.size_append];show s1.size+1+label.size+s2.size+1<=_;omega) ?_;(refine zj [777,18] 1000 ?_;conv=>whnf);refine wq rfl rfl rfl rfl rfl (by simp only [ByteArray.size_append];show s1.size+1+label.size+s2.size+1+reason.size<=_;omega) ?_;(refine zc ?_;conv=>whnf);exact hK _
def yhz:ByteArray:=⟨#[97,110,110]⟩
def shRows:List Rw:=[⟨⟨#[103,114,111,115,115]⟩,300000,⟨#[115,117,109]⟩⟩,⟨⟨#[116,97,120]⟩,30000,⟨#[116,97,120]⟩⟩]
def zfq:List Int:=[5,7]
def yln:Nat:=zjc (zak shRows zfq)
def shSlip:Slip:=⟨yhz,288,shRows,zfq,yln⟩
theorem yhd:zq Tryz.prog G37 34 [] shSlip.sv:=by
 have c1:=zje 300000 5 (by decide) (by decide);have c2:=zje 30000 7 (by decide) (by decide);have d1:=zmh G37 ⟨#[103,114,111,115,115]⟩ (yli 300000 5) ⟨#[115,117,109]⟩ (by decide) (by decide) (Nat.le_trans (Nat.le_of_lt (Nat.mod_lt _ (by decide))) (by decide:2147483579<=1000000000000000000));have d2:=zmh G37 ⟨#[116,97,120]⟩ (yli 30000 7) ⟨#[116,97,120]⟩ (by decide) (by decide) (Nat.le_trans (Nat.le_of_lt (Nat.mod_lt _ (by decide))) (by decide:2147483579<=1000000000000000000));have hl:zak shRows zfq=[qk ⟨#[103,114,111,115,115]⟩ (yli 300000 5:Nat) ⟨#[115,117,109]⟩,qk ⟨#[116,97,120]⟩ (yli 30000 7:Nat) ⟨#[116,97,120]⟩]:=rfl
 have c3:=zpx G37 (zak shRows zfq) (by rw [hl];decide) (by rw [hl];decide) (fun x hx=>by
  have:=zho shRows zfq (by decide) x hx
  omega)
 change zq _ _ _ _ (.tup [yy yln,_]) at c3;rw [hl] at c3;unfold shSlip;generalize yln=rt at c3 ⊢;generalize qk ⟨#[103,114,111,115,115]⟩ (yli 300000 5:Nat) ⟨#[115,117,109]⟩=l1 at*;generalize qk ⟨#[116,97,120]⟩ (yli 30000 7:Nat) ⟨#[116,97,120]⟩=l2 at*;clear hl;generalize yli 300000 5=m1 at*;generalize yli 30000 7=m2 at*;refine zg Tryz.func34 rfl (by rw [Tryz.ntmps34];simp) rfl rfl ?_;intro E hH hK;(refine ze ?_;conv=>whnf);refine zhy (n:=2) (kk:=1) rfl ?_;refine zh [0,1,2,13,14,15] ?_;change SW E _ [(0,.ptr 0 0),(1,.ptr 1 0),(2,.asl 2 1 (([]:List ByteArray).map fun s=>[dS s])),(13,.imm (zmq shRows)),(14,sI ((shRows.map Rw.cells).length:Nat)),(15,sI (0:Nat))]
  [.cells [.imm (zep ⟨#[]⟩),sI 0,.imm (.val (.slice none 0 0)),.imm (.val (.slice none 0 0)),yy (0:Nat)],.cells [.imm (zep yhz),sI 288,.imm (zmq shRows),.imm (yz zfq),yy (0:Nat)],.tok 1 (([]:List ByteArray).map fun s=>[dS s]).length]
 refine zp [0,1] (fun i (l:List ByteArray)=>[(0,.ptr 0 0),(1,.ptr 1 0),(2,.asl 2 1 (l.map fun s=>[dS s])),(13,.imm (zmq shRows)),(14,sI ((shRows.map Rw.cells).length:Nat)),(15,sI i)])
  (fun _ l=>[.cells [.imm (zep ⟨#[]⟩),sI 0,.imm (.val (.slice none 0 0)),.imm (.val (.slice none 0 0)),yy (0:Nat)],.cells [.imm (zep yhz),sI 288,.imm (zmq shRows),.imm (yz zfq),yy (0:Nat)],.tok 1 (l.map fun s=>[dS s]).length])
  (fun (done:List Nat) _ l=>l=[l1,l2].take done.length) [] rfl ?_ ?_
 ·rintro l h
  have h:l=[l1,l2]:=h;subst h;refine zdf ?_;change SW E _ [(0,.ptr 0 0),(1,.ptr 1 0),(2,.imm (yh [l1,l2])),(13,.imm (zmq shRows)),(14,sI ((shRows.map Rw.cells).length:Nat)),(15,sI (2:Nat))] _;(refine ze ?_;conv=>whnf);refine zd rfl  c3 ?_;(refine zc ?_;conv=>whnf);exact hK _
 ·rintro done x rest l hda hdl h ih
  have h:l=[l1,l2].take done.length:=h
  match done,hda,h,ih with
  |[],hda,h,ih=>
   have h:l=[]:=h;subst h;have hnx:=ih [l1] rfl;(refine ze ?_;conv=>whnf);refine zi (i:=0) (row:=[dS ⟨#[103,114,111,115,115]⟩,dI 300000,dS ⟨#[115,117,109]⟩]) rfl rfl rfl ?_;(refine zc ?_;conv=>whnf);(refine zx mixed rfl ?_;refine zf [] ?_;conv=>whnf);refine yx (i:=0) (row:=[dI 5]) rfl rfl rfl ?_;(refine zf [] ?_;conv=>whnf);refine yf rfl  c1 ?_;(refine zf [] ?_;conv=>whnf);(refine ze ?_;conv=>whnf);refine zd rfl  d1 ?_;(refine zc ?_;conv=>whnf);refine yj (b:=2) (kk:=1) (rows:=([]:List ByteArray).map fun s=>[dS s]) (new:=[[dS l1]]) rfl ⟨show 16<=65536 by decide,rfl⟩ rfl (by simp) ?_;(refine zc ?_;conv=>whnf);exact ys [0,1,2,13,14,15] 3 (by rw [hH];exact Nat.zero_le _) (by show 3<=4;decide) rfl rfl hnx
  |[y],hda,h,ih=>
   have h:l=[l1]:=h;subst h;have hnx:=ih [l1,l2] rfl;(refine ze ?_;conv=>whnf);refine zi (i:=1) (row:=[dS ⟨#[116,97,120]⟩,dI 30000,dS ⟨#[116,97,120]⟩]) rfl rfl rfl ?_;(refine zc ?_;conv=>whnf);(refine zx mixed rfl ?_;refine zf [] ?_;conv=>whnf);refine yx (i:=1) (row:=[dI 7]) rfl rfl rfl ?_;(refine zf [] ?_;conv=>whnf);refine yf rfl  c2 ?_;(refine zf [] ?_;conv=>whnf);(refine ze ?_;conv=>whnf);refine zd rfl  d2 ?_;(refine zc ?_;conv=>whnf);refine yj (b:=2) (kk:=1) (rows:=[l1].map fun s=>[dS s]) (new:=[[dS l2]]) rfl ⟨show 16<=65536 by decide,rfl⟩ rfl (by simp) ?_;(refine zc ?_;conv=>whnf);exact ys [0,1,2,13,14,15] 3 (by rw [hH];exact Nat.zero_le _) (by show 3<=4;decide) rfl rfl hnx
  |a::b::c,hda,h,ih=>
   have:=congrArg List.length hda;simp at this
def ylo:ByteArray:=⟨#[104,111,117,114,115]⟩
def ywk:ByteArray:=⟨#[109,105,110,117,116,101,115]⟩
def yux:ByteArray:=⟨#[98,97,115,105,99]⟩
def yuy:ByteArray:=⟨#[69,85,82]⟩
def ywl:ByteArray:=⟨#[98,111,98]⟩
def offC:Codex:=⟨[⟨ylo,ywk,0⟩],[⟨yux,yuy,1⟩],[⟨1,0,0,8766,9000,8700,[],[],.mk 15 0 yuy 0 [] [.mk 2 0 ywk 0 [] [],.mk 1 1200 yuy 0 [] []]⟩]⟩
def yia:List Fact:=[⟨ywl,ylo,8766,8800,8760,60,false⟩,⟨yhz,ylo,8770,8771,8771,480,false⟩]
abbrev yng:D:=.val (.slice none 0 0)
def yqv:List D:=[dI 1,dI 0,dI 0,dI 8766,dI 9000,dI 8700,yng,yng,dI 15,dI 0,dS yuy,dI 0,yng,.isl 6 [[dI 2,dI 0,dS ywk,dI 0,yng,yng],[dI 1,dI 1200,dS yuy,dI 0,yng,yng]]]
theorem ylp:(D.isl 14 [yqv]).Is (wa offC.arts):=DIss.isl (.cons (.cons (D.Is.refl _) (.cons (D.Is.refl _) (.cons (D.Is.refl _) (.cons (D.Is.refl _) (.cons (D.Is.refl _) (.cons (D.Is.refl _) (.cons (D.Is.nil 6) (.cons (D.Is.nil 1) (.cons (D.Is.refl _) (.cons (D.Is.refl _) (.cons (D.Is.refl _) (.cons (D.Is.refl _) (.cons (D.Is.nil 3) (.cons (DIss.isl (.cons (.cons (D.Is.refl _) (.cons (D.Is.refl _) (.cons (D.Is.refl _) (.cons (D.Is.refl _) (.cons (D.Is.nil 3) (.cons (D.Is.nil 6) .nil)))))) (.cons (.cons (D.Is.refl _) (.cons (D.Is.refl _) (.cons (D.Is.refl _) (.cons (D.Is.refl _) (.cons (D.Is.nil 3) (.cons (D.Is.nil 6) .nil)))))) .nil))) .nil)))))))))))))) .nil)
theorem ybk (G:List (Nat × D)):zq Tryz.prog G 35 [] (.tup [offC.sv,.imm (qu yia)]):=by
 refine yof (r:=.tup [.agg [.imm (zu offC.facts),.imm (zu offC.lines),.imm (.isl 14 [yqv])],.imm (qu yia)]) ?_
  (SIs.tup (.cons (SIs.agg (.cons (SV.Is.refl _) (.cons (SV.Is.refl _) (.cons (D.Is.imm ylp) .nil)))) (.cons (SV.Is.refl _) .nil)))
 refine zg Tryz.func35 rfl (by rw [Tryz.ntmps35];simp) rfl rfl ?_;intro E hH hK;(refine ze ?_;conv=>whnf);exact hK _
theorem zqe:∀(f:Nat) (r:List Nat),(∀x∈r,x<18446744073709551616)->∀l∈ww f r,∀x∈l,x<18446744073709551616
 |0,r,h,l,hl=>by
  rw [ww,List.mem_singleton] at hl;subst hl;exact h
 |f+1,r,h,l,hl=>by
  rw [ww] at hl;split at hl
  ·rcases List.mem_cons.1 hl with rfl|hl
   ·exact h
   ·exact zqe f _ (zvd h) l hl
  ·rw [List.mem_singleton] at hl
   subst hl;exact h
theorem yef (leaves:List ByteArray):zjc leaves<18446744073709551616:=by
 have h:=zqe 1024 (leaves.map qj) (fun x hx=>by
  obtain ⟨y,_,rfl⟩:=List.mem_map.1 hx
  exact js _)
 unfold zjc;generalize ww 1024 (leaves.map qj)=ls at h;have key:∀(ls:List (List Nat)) (v:Nat),v<18446744073709551616->(∀l∈ls,∀x∈l,x<18446744073709551616)->ls.foldl (fun _ r=>r.getD 0 0) v<18446744073709551616:=by
  intro ls
  induction ls with
  |nil=>intro v hv _;exact hv
  |cons l ls ih=>
   intro v hv hl;rw [List.foldl_cons];refine ih _ ?_ fun l' h'=>hl l' (by simp [h'])
   cases l with
   |nil=>show (0:Nat)<_;decide
   |cons a l=>exact hl (a::l) (by simp) a (by simp)
 exact key ls 0 (by decide) h
noncomputable def showRow (s:Slip) (i:Int):Shw:=
 let r:=s.rows.getD i.toNat ⟨⟨#[]⟩,0,⟨#[]⟩⟩
 ⟨i,r.label,r.cents,r.reason,s.blinds.getD i.toNat 0,zkh (zak s.rows s.blinds) i.toNat⟩
noncomputable def showN (s:Slip) (sel:List Int) (seed:ByteArray) (h i:Nat):Disc:=
 ⟨s.person,s.month,s.root,znh s.rows s.blinds,sel.map (showRow s),wt (s.rows.map Rw.cents) (zmr s.rows.length sel),(wt s.blinds (zmr s.rows.length sel)).tmod 1073741789,
  signN seed h i (zfy spT (zii s.person s.month s.root (znh s.rows s.blinds)))⟩
end Go.Proofs.YtjnddlifnkgncaaGreatDoor