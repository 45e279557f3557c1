/- Contracts of functions of the program, joined from TYx, TYy, TZq, TZc, TSh54, TZd, TZe, TZi, TSh55, TZj, TZr, TZg, TZh, TZk, TZl, TZm, TZn, TZo, TZp, TZs, TZf, TZt, TLh, TLi, TZu, TZv, TZw, TZx, TZy, TZz, TUa: no condition. -/
import Derived.Test.YtjnddlifnkgncaaGreatDoorCF4
import Derived.Lib.MakeNoZero
import Derived.Shelf.Strings.Builder1
import Derived.Test.YtjnddlifnkgncaaGreatDoorProg
import Derived.Test.YtjnddlifnkgncaaGreatDoorRows
import Derived.WalkKit
import Derived.ProofKit
import Derived.OpenShut
import Derived.Deep.DeepHandedRow
import Derived.Deep.CondSized
import Derived.Lib.LaidTab
set_option linter.unusedSimpArgs false
set_option linter.unusedVariables false
set_option maxRecDepth 100000
set_option maxHeartbeats 8000000
namespace Go.Proofs.YtjnddlifnkgncaaGreatDoor
open Go Go.Sh
variable {G:List (Nat × D)}
structure MFit (c:Codex) (m:List (Int × Int)):Prop where
 arts:c.arts.length<=1000
 fit:∀a∈c.arts,ArtFit a
 amt:∀a∈c.arts,zyh c m a.amount/\zbq a.amount<=1000000
 whn:∀a∈c.arts,∀w∈a.when_,zyh c m w/\zbq w<=1000000
theorem yte {c:Codex} {m:List (Int × Int)} {S:AM} (hS:AFit c S) (inF:List Int) (st am:List (Int × Int)) {e:Ex} (he:zyh c m e) (hz:zbq e<=1000000):
  SPre Tryz.prog G 107 [.ptr 0 0,e.sv] (MH c S inF st am) (fun r H1=>r= .tup [sI ((zcg S am e).getD 0),sB (zcg S am e).isSome]/\H1=MH c S inF st am):=
 yfu (by rfl) (jr c S inF st am) (yim hS inF st am _ e (Nat.lt_succ_self _) he hz)
theorem ymy (c:Codex) (S:AM) (inF:List Int) (st am:List (Int × Int)) (a:Article):(MH c S inF st am++[SObj.cells (a.cells.map .imm)]).all (SObj.under 4)=true:=by
 rw [List.all_append,zcd (m:=3) (n:=4) (by omega) (jr c S inF st am)];simp only [List.all_cons,List.all_nil,zic];rfl
def okW (S:AM) (am:List (Int × Int)) (w:Ex):Bool:=(zcg S am w).isSome&& !decide ((zcg S am w).getD 0=0)
theorem yrq {c : Codex} {m : List (Int × Int)} {S : AM} (hS : AFit c S) (hM : MFit c m) (inF seq : List Int) (hin : ∀ o ∈ inF, 0 <= o /\ o < c.arts.length) (hiz : inF.length <= 1000000) (hsq : ∀ v ∈ seq, 0 <= v /\ v < c.arts.length) (hsz : seq.length <= 1000000) (st am : List (Int × Int)) :
    SPre Tryz.prog G 68 [.ptr 0 0, .imm (yh seq)] (MH c S inF st am) (fun r H1 => r = .tup [] /\ H1 = MH c S inF (seq.foldl (zsk c S inF) (st, am)).1 (seq.foldl (zsk c S inF) (st, am)).2) := by
  have hal : (c.arts.map Article.cells).length = c.arts.length := by simp
  have hsl : (seq.map fun n => [dI n]).length = seq.length := by simp
  have hil : (inF.map fun n => [dI n]).length = inF.length := by simp
  refine xc Tryz.func68 rfl (by rw [Tryz.ntmps68]; simp) rfl (jr c S inF st am) ?_
  intro E hH hK
  generalize hT : seq.foldl (zsk c S inF) (st, am) = T at hK
  have hH3 : E.H.length = 3 := hH
  have fin : E.K (.tup []) (MH c S inF T.1 T.2) := hK _ _ (Nat.le_refl 3) rfl (jr c S inF T.1 T.2) ⟨rfl, rfl⟩
  clear hK hH
  (refine ze ?_; conv => whnf)
  refine zg [0, 16, 17, 18] ?_
  change SW E _ [(0, .ptr 0 0), (16, .imm (yh seq)), (17, sI ((seq.map fun n => [dI n]).length : Nat)), (18, sI (0 : Nat))] (MH c S inF st am)
  rw [hsl]
  refine zp seq (fun i (_ : List (Int × Int) × List (Int × Int)) => [(0, .ptr 0 0), (16, .imm (yh seq)), (17, sI (seq.length : Nat)), (18, sI (i : Nat))]) (fun _ s => MH c S inF s.1 s.2) (fun _ rest s => rest.foldl (zsk c S inF) s = T) (st, am) hT ?_ ?_
  · rintro ⟨st, am⟩ hs
    have hs : (st, am) = T := hs
    subst hs
    change SW E _ [(0, .ptr 0 0), (16, .imm (yh seq)), (17, sI (seq.length : Nat)), (18, sI (seq.length : Nat))] (MH c S inF st am)
    (refine ze ?_; conv => whnf)
    repeat' ((with_reducible refine way ?_ ?_) <;> (intro h; conv => whnf))
    all_goals try (exfalso; omega)
    exact fin
  · clear hT st am
    rintro done v rest ⟨st, am⟩ hda hdl hs ih
    rw [List.foldl_cons] at hs
    have hvr := hsq v (by rw [hda]; simp)
    obtain ⟨a, ha⟩ : ∃ a, c.arts[v.toNat]? = some a := ⟨_, List.getElem?_eq_getElem (by omega)⟩
    have ham := List.mem_of_getElem? ha
    have hva : zcw c v = some a := by unfold zcw; rw [if_neg (by omega)]; exact ha
    have hvn : v = (v.toNat : Int) := by omega
    have ih := fun s' (h : zsk c S inF (st, am) v = s') => ih s' (by rw [<- h]; exact hs)
    have zby : zsk c S inF (st, am) v = (if v ∈ inF then
      if ymh S am a = true then
        (inF.foldl (zfs c a v) (zcz v 2 (zcz v 0 st)), if (yf v (inF.foldl (zfs c a v) (zcz v 2 (zcz v 0 st)))).getD 0 = 2 then zcz a.number ((zcg S am a.amount).getD 0) am else am)
      else (zcz v 0 st, am) else (st, am)) := by unfold zsk; rw [hva]
    rw [zby] at ih
    clear zby hs
    have hrs : (seq.map fun n => [dI n])[done.length]? = some [dI v] := by rw [hda]; simp
    have hw := zk (n := done.length) (by omega)
    have hcon := zjo G inF v (by omega)
    change SW E _ [(0, .ptr 0 0), (16, .imm (yh seq)), (17, sI (seq.length : Nat)), (18, sI (done.length : Nat))] (MH c S inF st am)
    (refine ze ?_; conv => whnf)
    repeat' ((with_reducible refine way ?_ ?_) <;> (intro h; conv => whnf))
    all_goals try (exfalso; omega)
    refine zi (i := done.length) (row := [dI v]) rfl rfl hrs ?_
    (refine zc ?_; conv => whnf)
    refine zd rfl  hcon ?_
    by_cases hvin : v ∈ inF
    case neg =>
      rw [if_neg hvin] at ih
      rw [decide_eq_false hvin]
      have ih := ih _ rfl
      (refine zc ?_; conv => whnf)
      rw [hw]
      exact zg [0, 16, 17, 18] ih
    rw [if_pos hvin] at ih
    rw [decide_eq_true hvin]
    obtain ⟨aop, an, au, ad, ap, ak, hma⟩ : ∃ op n u den ps ks, a.amount = .mk op n u den ps ks := by cases h : a.amount; exact ⟨_, _, _, _, _, _, rfl⟩
    have hrx : (c.arts.map Article.cells)[v.toNat]? = some a.cells := by rw [List.getElem?_map, ha]; rfl
    rw [zhh hma] at hrx
    (refine zj [777, 35] 1000 ?_; conv => whnf)
    refine zi (i := v.toNat) (row := ypm a aop an au ad ap ak) rfl hvn hrx ?_
    have hbx : a.cells.map SV.imm = jg a aop an au ad ap ak := zem hma
    have hbu := fun st am => ymy c S inF st am a
    rw [hbx] at hbu
    (refine zj [777, 37] 1000 ?_; conv => whnf)
    (refine zj [777, 999] 1000 ?_; conv => whnf)
    refine zea (l := st) sI 0 rfl rfl rfl rfl rfl rfl rfl rfl rfl ?_
    refine (fun (hs : ∀ H2, H2 = MH c S inF (zcz v 0 st) am ++ [SObj.cells (jg a aop an au ad ap ak)] -> SWr E _ _ _ _ H2) => hs _ rfl) ?_
    rintro _ rfl
    generalize zcz v 0 st = st1 at ih
    have hamt := yte (G := G) hS inF st1 am (hM.amt a ham).1 (hM.amt a ham).2
    have hho : ymh S am a = ((zcg S am a.amount).isSome && a.when_.all (okW S am)) := rfl
    rw [hma] at hamt
    rw [hho] at ih
    clear hho
    rw [hma] at ih
    generalize zcg S am (.mk aop an au ad ap ak) = amt at hamt ih
    (refine zc ?_; conv => whnf)
    refine zbn 3 rfl rfl rfl rfl rfl rfl hamt ?_
    rintro r9 H9 ⟨rfl, rfl⟩ _
    refine (fun (hs : ∀ H2, H2 = MH c S inF st1 am ++ [SObj.cells (jg a aop an au ad ap ak)] -> SWr E _ _ _ _ H2) => hs _ rfl) ?_
    rintro _ rfl
    have hwl : (a.when_.map Ex.cells).length = a.when_.length := by simp
    have hwz := (hM.fit a ham).len
    (refine zc ?_; conv => whnf)
    refine zg [0, 5, 6, 7, 8, 16, 17, 18, 50, 51, 52] ?_
    change SW E _ [(0, .ptr 0 0), (5, sI v), (6, .ptr 3 0), (7, sI (amt.getD 0)), (8, sB amt.isSome), (16, .imm (yh seq)), (17, sI (seq.length : Nat)), (18, sI (done.length : Nat)), (50, .imm (jc a.when_)), (51, sI ((a.when_.map Ex.cells).length : Nat)), (52, sI (0 : Nat))] (MH c S inF st1 am ++ [SObj.cells (jg a aop an au ad ap ak)])
    rw [hwl]
    refine zp a.when_ (fun i (b : Bool) => [(0, .ptr 0 0), (5, sI v), (6, .ptr 3 0), (7, sI (amt.getD 0)), (8, sB b), (16, .imm (yh seq)), (17, sI (seq.length : Nat)), (18, sI (done.length : Nat)), (50, .imm (jc a.when_)), (51, sI (a.when_.length : Nat)), (52, sI (i : Nat))]) (fun _ _ => MH c S inF st1 am ++ [SObj.cells (jg a aop an au ad ap ak)])
      (fun _ rest b => (amt.isSome && a.when_.all (okW S am)) = (b && rest.all (okW S am))) amt.isSome rfl ?_ ?_
    · rintro b hb
      have hb : (amt.isSome && a.when_.all (okW S am)) = b := by rw [hb]; exact Bool.and_true b
      rw [hb] at ih
      cases b with
      | false =>
        have ih := ih (st1, am) rfl
        (refine ze ?_; conv => whnf)
        repeat' ((with_reducible refine way ?_ ?_) <;> (intro h; conv => whnf))
        all_goals try (exfalso; omega)
        rw [hw]
        exact yz [0, 16, 17, 18] 3 (by rw [hH3]; exact Nat.le_refl 3) (by show 3 <= 4; decide) (by rfl) (jr c S inF st1 am) ih
      | true =>
        rw [if_pos rfl] at ih
        have hlk : ∀ (k : Int) (q : List (Int × Int)), ((yf k q).map sI).getD (jl (.int .i64 0)) = sI ((yf k q).getD 0) := fun k q => by cases yf k q <;> rfl
        clear hb
        change SW E _ [(0, .ptr 0 0), (5, sI v), (6, .ptr 3 0), (7, sI (amt.getD 0)), (8, sB true), (16, .imm (yh seq)), (17, sI (seq.length : Nat)), (18, sI (done.length : Nat)), (50, .imm (jc a.when_)), (51, sI (a.when_.length : Nat)), (52, sI (a.when_.length : Nat))] (MH c S inF st1 am ++ [SObj.cells (jg a aop an au ad ap ak)])
        (refine zm [777, 73] 1000 ?_; conv => whnf)
        repeat' ((with_reducible refine way ?_ ?_) <;> (intro h; conv => whnf))
        all_goals try (exfalso; omega)
        (refine zj [777, 999] 1000 ?_; conv => whnf)
        refine zea (l := st1) sI 2 rfl rfl rfl rfl rfl rfl rfl rfl rfl ?_
        refine (fun (hs : ∀ H2, H2 = MH c S inF (zcz v 2 st1) am ++ [SObj.cells (jg a aop an au ad ap ak)] -> SWr E _ _ _ _ H2) => hs _ rfl) ?_
        rintro _ rfl
        generalize zcz v 2 st1 = st2 at ih
        (refine zc ?_; conv => whnf)
        refine zg [0, 5, 6, 7, 16, 17, 18, 81, 82, 83] ?_
        change SW E _ [(0, .ptr 0 0), (5, sI v), (6, .ptr 3 0), (7, sI (amt.getD 0)), (16, .imm (yh seq)), (17, sI (seq.length : Nat)), (18, sI (done.length : Nat)), (81, .imm (yh inF)), (82, sI ((inF.map fun n => [dI n]).length : Nat)), (83, sI (0 : Nat))] (MH c S inF st2 am ++ [SObj.cells (jg a aop an au ad ap ak)])
        rw [hil]
        refine zp inF (fun i (_ : List (Int × Int)) => [(0, .ptr 0 0), (5, sI v), (6, .ptr 3 0), (7, sI (amt.getD 0)), (16, .imm (yh seq)), (17, sI (seq.length : Nat)), (18, sI (done.length : Nat)), (81, .imm (yh inF)), (82, sI (inF.length : Nat)), (83, sI (i : Nat))]) (fun _ q => MH c S inF q am ++ [SObj.cells (jg a aop an au ad ap ak)])
          (fun _ rest q => inF.foldl (zfs c a v) st2 = rest.foldl (zfs c a v) q) st2 rfl ?_ ?_
        · rintro st3 h3
          have h3 : inF.foldl (zfs c a v) st2 = st3 := h3
          rw [h3] at ih
          clear h3
          have hlv := hlk v st3
          generalize (yf v st3).getD 0 = x at hlv ih
          (refine zm [777, 130] 1000 ?_; conv => whnf)
          repeat' ((with_reducible refine way ?_ ?_) <;> (intro h; conv => whnf))
          all_goals try (exfalso; omega)
          refine zkh (l := st3) (v := sI x) sI rfl rfl rfl rfl rfl rfl rfl rfl rfl hlv ?_
          (refine zc ?_; conv => whnf)
          repeat' ((with_reducible refine way ?_ ?_) <;> (intro h; conv => whnf))
          · rw [if_pos ‹x = 2›] at ih
            have ih := ih _ rfl
            refine zg [0, 6, 7, 16, 17, 18] ?_
            change SW E _ [(0, .ptr 0 0), (6, .ptr 3 0), (7, sI (amt.getD 0)), (16, .imm (yh seq)), (17, sI (seq.length : Nat)), (18, sI (done.length : Nat))] (MH c S inF st3 am ++ [SObj.cells (jg a aop an au ad ap ak)])
            (refine xf 0 mixed rfl ?_; refine zn [777, 999] (nx := 4) ?_; conv => whnf)
            refine yqn (l := am) sI (amt.getD 0) rfl rfl rfl rfl rfl rfl rfl rfl (show 4 <= 4 by decide) rfl ?_
            refine qf (by kernel_rfl) ?_
            refine (fun (hs : ∀ H2, H2 = MH c S inF st3 (zcz a.number (amt.getD 0) am) ++ [SObj.cells (jg a aop an au ad ap ak)] -> SW E _ _ H2) => hs _ rfl) ?_
            rintro _ rfl
            (refine ze ?_; conv => whnf)
            rw [hw]
            exact yz [0, 16, 17, 18] 3 (by rw [hH3]; exact Nat.le_refl 3) (by show 3 <= 4; decide) (by rfl) (jr c S inF st3 _) ih
          · rw [if_neg ‹¬ x = 2›] at ih
            have ih := ih _ rfl
            rw [hw]
            exact yz [0, 16, 17, 18] 3 (by rw [hH3]; exact Nat.le_refl 3) (by show 3 <= 4; decide) (by rfl) (jr c S inF st3 _) ih
        · clear ih
          rintro di o ri q hdi hdli hq ih3
          rw [List.foldl_cons] at hq
          have hor := hin o (by rw [hdi]; simp)
          obtain ⟨b, hb⟩ : ∃ b, c.arts[o.toNat]? = some b := ⟨_, List.getElem?_eq_getElem (by omega)⟩
          have hbm := List.mem_of_getElem? hb
          have hob : zcw c o = some b := by unfold zcw; rw [if_neg (by omega)]; exact hb
          have hon : o = (o.toNat : Int) := by omega
          have ih3 := fun q' (h : zfs c a v q o = q') => ih3 q' (by rw [<- h]; exact hq)
          have hst : zfs c a v q o = if (yf o q).getD 0 = 2 /\ ¬ o = v /\ (decide (b.number ∈ a.unless_) || zvv b a) = true then zcz v 1 q else q := by
            unfold zfs yxg
            rw [hob]
          rw [hst] at ih3
          clear hst hq
          have hw3 := zk (n := di.length) (by omega)
          have hri : (inF.map fun n => [dI n])[di.length]? = some [dI o] := by rw [hdi]; simp
          have c1 := zjo G a.unless_ b.number (by have := (hM.fit a ham).uls; omega)
          have c2 := zqe G b a (hM.fit b hbm) (hM.fit a ham)
          obtain ⟨bop, bn, bu, bd, bp, bk, hmb⟩ : ∃ op n u den ps ks, b.amount = .mk op n u den ps ks := by cases h : b.amount; exact ⟨_, _, _, _, _, _, rfl⟩
          have hrb : (c.arts.map Article.cells)[o.toNat]? = some b.cells := by rw [List.getElem?_map, hb]; rfl
          rw [zhh hmb] at hrb
          rw [zoc hma, zoc hmb] at c2
          generalize decide (b.number ∈ a.unless_) = z1 at c1 ih3
          generalize zvv b a = z2 at c2 ih3
          have hlv := hlk o q
          generalize (yf o q).getD 0 = x at hlv ih3
          change SW E _ [(0, .ptr 0 0), (5, sI v), (6, .ptr 3 0), (7, sI (amt.getD 0)), (16, .imm (yh seq)), (17, sI (seq.length : Nat)), (18, sI (done.length : Nat)), (81, .imm (yh inF)), (82, sI (inF.length : Nat)), (83, sI (di.length : Nat))] (MH c S inF q am ++ [SObj.cells (jg a aop an au ad ap ak)])
          (refine ze ?_; conv => whnf)
          repeat' ((with_reducible refine way ?_ ?_) <;> (intro h; conv => whnf))
          all_goals try (exfalso; omega)
          refine zi (i := di.length) (row := [dI o]) rfl rfl hri ?_
          (refine zj [777, 93] 1000 ?_; conv => whnf)
          refine zi (i := o.toNat) (row := ypm b bop bn bu bd bp bk) rfl hon hrb ?_
          (refine zj [777, 100] 1000 ?_; conv => whnf)
          refine zkh (l := q) (v := sI x) sI rfl rfl rfl rfl rfl rfl rfl rfl rfl hlv ?_
          (refine zj [777, 112] 1000 ?_; conv => whnf)
          repeat' ((with_reducible refine way ?_ ?_) <;> (intro h; conv => whnf))
          · refine zd rfl  c1 ?_
            cases z1 with
            | true =>
              have ih3 := ih3 _ (if_pos ⟨‹x = 2›, ‹¬ o = v›, rfl⟩)
              (refine zj [777, 119] 1000 ?_; conv => whnf)
              (refine zj [777, 999] 1000 ?_; conv => whnf)
              refine zea (l := q) sI 1 rfl rfl rfl rfl rfl rfl rfl rfl rfl ?_
              refine (fun (hs : ∀ H2, H2 = MH c S inF (zcz v 1 q) am ++ [SObj.cells (jg a aop an au ad ap ak)] ++ [SObj.cells (jg b bop bn bu bd bp bk)] -> SWr E _ _ _ _ H2) => hs _ rfl) ?_
              rintro _ rfl
              (refine zc ?_; conv => whnf)
              rw [hw3]
              exact yz [0, 5, 6, 7, 16, 17, 18, 81, 82, 83] 4 (by rw [hH3]; decide) (by show 4 <= 5; decide) (by rfl) (hbu _ am) ih3
            | false =>
            (refine zc ?_; conv => whnf)
            refine zd rfl  c2 ?_
            cases z2 with
            | true =>
              have ih3 := ih3 _ (if_pos ⟨‹x = 2›, ‹¬ o = v›, rfl⟩)
              (refine zj [777, 119] 1000 ?_; conv => whnf)
              (refine zj [777, 999] 1000 ?_; conv => whnf)
              refine zea (l := q) sI 1 rfl rfl rfl rfl rfl rfl rfl rfl rfl ?_
              refine (fun (hs : ∀ H2, H2 = MH c S inF (zcz v 1 q) am ++ [SObj.cells (jg a aop an au ad ap ak)] ++ [SObj.cells (jg b bop bn bu bd bp bk)] -> SWr E _ _ _ _ H2) => hs _ rfl) ?_
              rintro _ rfl
              (refine zc ?_; conv => whnf)
              rw [hw3]
              exact yz [0, 5, 6, 7, 16, 17, 18, 81, 82, 83] 4 (by rw [hH3]; decide) (by show 4 <= 5; decide) (by rfl) (hbu _ am) ih3
            | false =>
              have ih3 := ih3 _ (if_neg (fun x => by cases x.2.2))
              (refine zc ?_; conv => whnf)
              rw [hw3]
              exact yz [0, 5, 6, 7, 16, 17, 18, 81, 82, 83] 4 (by rw [hH3]; decide) (by show 4 <= 5; decide) (by rfl) (hbu _ am) ih3
          · have ih3 := ih3 _ (if_neg (fun x => x.2.1 ‹o = v›))
            rw [hw3]
            exact yz [0, 5, 6, 7, 16, 17, 18, 81, 82, 83] 4 (by rw [hH3]; decide) (by show 4 <= 5; decide) (by rfl) (hbu _ am) ih3
          · have ih3 := ih3 _ (if_neg (fun y => absurd y.1 ‹¬ x = 2›))
            rw [hw3]
            exact yz [0, 5, 6, 7, 16, 17, 18, 81, 82, 83] 4 (by rw [hH3]; decide) (by show 4 <= 5; decide) (by rfl) (hbu _ am) ih3
    · rintro dw w rw_ b hdw hdlw hb ih2
      have hw2 := zk (n := dw.length) (by omega)
      have hwm : w ∈ a.when_ := by rw [hdw]; simp
      have htw := yte (G := G) hS inF st1 am (hM.whn a ham w hwm).1 (hM.whn a ham w hwm).2
      have hb : (amt.isSome && a.when_.all (okW S am)) = ((b && ((zcg S am w).isSome && !decide ((zcg S am w).getD 0 = 0))) && rw_.all (okW S am)) := by
        rw [hb, List.all_cons]
        cases b <;> rfl
      have hrw : (a.when_.map Ex.cells)[dw.length]? = some w.cells := by rw [hdw]; simp
      have ih2 := fun b' (h : (b && ((zcg S am w).isSome && !decide ((zcg S am w).getD 0 = 0))) = b') => ih2 b' (by rw [<- h]; exact hb)
      clear hb
      obtain ⟨xo, xn, xu, xd, xp, xk⟩ := w
      generalize zcg S am (Ex.mk xo xn xu xd xp xk) = vx at htw ih2
      (refine ze ?_; conv => whnf)
      repeat' ((with_reducible refine way ?_ ?_) <;> (intro h; conv => whnf))
      all_goals try (exfalso; omega)
      refine zi (i := dw.length) (row := (Ex.mk xo xn xu xd xp xk).cells) rfl rfl hrw ?_
      (refine zc ?_; conv => whnf)
      refine zbn 3 rfl rfl rfl rfl rfl rfl htw ?_
      rintro r9 H9 ⟨rfl, rfl⟩ _
      cases b with
      | false =>
        have ih2 := ih2 false rfl
        (refine zc ?_; conv => whnf)
        rw [hw2]
        exact yz [0, 5, 6, 7, 8, 16, 17, 18, 50, 51, 52] 4 (by rw [hH3]; decide) (by show 4 <= 5; decide) (by rfl) (hbu st1 am) ih2
      | true =>
        cases vx with
        | none =>
          have ih2 := ih2 false rfl
          (refine zc ?_; conv => whnf)
          rw [hw2]
          exact yz [0, 5, 6, 7, 8, 16, 17, 18, 50, 51, 52] 4 (by rw [hH3]; decide) (by show 4 <= 5; decide) (by rfl) (hbu st1 am) ih2
        | some z =>
          have ih2 := ih2 (!decide (z = 0)) rfl
          (refine zc ?_; conv => whnf)
          rw [hw2]
          exact yz [0, 5, 6, 7, 8, 16, 17, 18, 50, 51, 52] 4 (by rw [hH3]; decide) (by show 4 <= 5; decide) (by rfl) (hbu st1 am) ih2
theorem zzg (σ:Nat->Nat) (l:List Bool):(SObj.cells (l.map sB)).ren σ= .cells (l.map sB):=by
 simp only [SObj.ren,zej,List.map_map];rfl
theorem ymz {c:Codex} {m:List (Int × Int)} {e:Ex} (he:zyh c m e) (hz:zbq e<=1000000) {used:List Bool} (hul:used.length=c.facts.length) {H:List SObj} {b:Nat} (hb:H[b]?=some (.cells (used.map sB))):
  SCall Tryz.prog G 109 [e.sv,.osl b 0 used.length] H (fun r H'=>r= .tup []/\H'=H.set b (.cells ((zav e used).map sB))):=by
 have hbl:=lt_of_getElem? hb;have hs:=ymu G _ e (Nat.lt_succ_self _) he hz used hul [];rw [List.append_nil] at hs;have her:∀σ,e.sv.ren σ=e.sv:=fun σ=>by cases e;rfl
 have hlen1:(bH used).length=1:=rfl;have:=zpm (K':=fun r H'=>r= .tup []/\H'=H.set b (.cells ((zav e used).map sB))) hs (H:=H) (fun i=>if i=0 then b else H.length+(i-1)) ?_ ?_ ?_ ?_ (zkw used) ?_
 ·have e1:([e.sv,.osl 0 0 used.length]:List SV).map (SV.ren (fun i=>if i=0 then b else H.length+(i-1)))=[e.sv,.osl b 0 used.length]:=by
   simp only [List.map_cons,List.map_nil,her];rfl
  rw [e1] at this;exact this
 ·intro i j hi hj _
  rw [hlen1] at hi hj;omega
 ·intro i
  simp only [hlen1];rw [if_neg (by omega)];omega
 ·intro i o hi
  match i,hi with
  |0,hi=>
   injection hi with hi
   subst hi;rw [zzg];exact hb
  |i+1,hi=>simp [bH] at hi
 ·have heu:e.sv.under 1=true:=by cases e;rfl
  simp only [List.all_cons,List.all_nil,hlen1,heu];rfl
 ·rintro r H1 H' ⟨H2,⟨rfl,rfl⟩,hl2,rfl⟩ hlen hl3 hsame hother
  refine ⟨rfl,?_⟩;rw [List.append_nil] at hl3 hsame hlen;have hl4:H'.length=H.length:=by
   have:(bH (zav e used)).length=1:=rfl;rw [this,hlen1] at hl3;omega
  apply List.ext_getElem?
  intro i
  by_cases hi:i=b
  ·subst hi
   rw [List.getElem?_set_self hbl];have:=hsame 0 _ rfl;rw [zzg] at this;exact this
  ·rw [List.getElem?_set_ne (fun h=>hi h.symm)]
   rcases Nat.lt_or_ge i H.length with hlt|hge
   ·refine hother i hlt (fun j hj h=>?_)
    rw [hlen1] at hj;have:j=0:=by omega
    subst this;exact hi h.symm
   ·rw [List.getElem?_eq_none (by omega),List.getElem?_eq_none hge]
def Ln.sv (x:Ln):SV:=.agg [sI x.day,sI x.line,sI x.art,sI x.amount,.imm (yh x.facts),.imm (yh x.rests)]
def lnC (x:Ln):List SV:=[sI x.day,sI x.line,sI x.art,sI x.amount,.imm (yh x.facts),.imm (yh x.rests)]
def LH (c:Codex) (S:AM) (inF:List Int) (st am:List (Int × Int)) (B x:List SV) (U:List Bool):List SObj:=
 MH c S inF st am++[.cells [sI 0,sI 0,sI 0,sI 0,zjq,zjq]]++[.cells B]++[.cells x]++[.cells (U.map sB)]
theorem zof {c:Codex} {S:AM} {inF:List Int} {st am:List (Int × Int)} {B x:List SV} {U:List Bool} {N:Nat} (hN:7<=N) (hB:SV.under.allUnder N B=true) (hx:SV.under.allUnder N x=true):(LH c S inF st am B x U).all (SObj.under N)=true:=by
 have e1:SObj.under N (.cells B)=true:=hB;have e2:SObj.under N (.cells x)=true:=hx;have e3:SObj.under N (.cells (U.map sB))=true:=zfv N U;have e4:SObj.under N (.cells [sI 0,sI 0,sI 0,sI 0,zjq,zjq])=true:=rfl;rw [LH,List.all_append,List.all_append,List.all_append,List.all_append,zcd (m:=3) (n:=N) (by omega) (jr c S inF st am)];simp only [List.all_cons,List.all_nil,e1,e2,e3,e4];rfl
def znm (S:AM) (U:List Bool) (n:Nat):List Int:=((List.range n).filter fun i=>U.getD i false&&S.has.getD i false).map fun i=>S.nums.getD i 0
theorem yiq (S:AM) (U:List Bool) (n:Nat):znm S U (n+1)=znm S U n++if (U.getD n false&&S.has.getD n false)=true then [S.nums.getD n 0] else []:=by
 unfold znm;rw [List.range_succ,List.filter_append,List.map_append]
 by_cases h:(U.getD n false&&S.has.getD n false)=true
 ·rw [if_pos h]
  simp only [List.filter_cons,h,if_true,List.filter_nil,List.map_cons,List.map_nil]
 ·rw [if_neg h]
  simp only [List.filter_cons,h,List.filter_nil,List.map_nil];rfl
theorem zqp (S:AM) (U:List Bool) (n:Nat):(znm S U n).length<=n:=by
 unfold znm;have:=List.length_filter_le (fun i=>U.getD i false&&S.has.getD i false) (List.range n);simp only [List.length_map,List.length_range] at this ⊢;exact this
theorem yna {c:Codex} {m:List (Int × Int)} {S:AM} (hS:AFit c S) (hM:MFit c m) (inF:List Int) (hin:∀o∈inF,0<=o/\o<c.arts.length) (hiz:inF.length<=1000000) (st am:List (Int × Int)) {v:Int} {a:Article} (hv:0<=v) (ha:c.arts[v.toNat]?=some a):
  SPre Tryz.prog G 69 [.ptr 0 0,sI v] (MH c S inF st am) (fun r H1=>r= .agg (lnC (zqa c S inF (st,am) v a))/\H1=MH c S inF st am):=by
 have hil:(inF.map fun n=>[dI n]).length=inF.length:=by simp
 have hwl:(a.when_.map Ex.cells).length=a.when_.length:=by simp
 have hhl:(S.has.map fun b=>[dB b]).length=S.has.length:=by simp
 have ham:=List.mem_of_getElem? ha;have hvl:=lt_of_getElem? ha;have hvn:v=(v.toNat:Int):=by omega
 have hwz:=(hM.fit a ham).len;refine xc Tryz.func69 rfl (by rw [Tryz.ntmps69];simp) rfl (jr c S inF st am) ?_;intro E hH hK;have hH3:E.H.length=3:=hH;have fin:∀X,E.K (.agg (lnC (zqa c S inF (st,am) v a))) (MH c S inF st am++X):=fun X=>hK _ _ (by show 3<=(MH c S inF st am++X).length;rw [List.length_append];show 3<=3+X.length;omega) rfl (jr c S inF st am) ⟨rfl,rfl⟩
 clear hK hH;obtain ⟨aop,an,au,ad,ap,ak,hma⟩:∃op n u den ps ks,a.amount= .mk op n u den ps ks:=by cases h:a.amount;exact ⟨_,_,_,_,_,_,rfl⟩
 have hrx:(c.arts.map Article.cells)[v.toNat]?=some a.cells:=by rw [List.getElem?_map,ha];rfl
 rw [zhh hma] at hrx;have hlk:∀(k:Int) (q:List (Int × Int)),((yf k q).map sI).getD (jl (.int .i64 0))=sI ((yf k q).getD 0):=fun k q=>by cases yf k q<;>rfl
 (refine zm [777,24] 1000 ?_;conv=>whnf);refine zi (i:=v.toNat) (row:=ypm a aop an au ad ap ak) rfl hvn hrx ?_;(refine zc ?_;conv=>whnf);refine zg [0,1,4,5] ?_;change SW E _ [(0,.ptr 0 0),(1,sI v),(4,.ptr 3 0),(5,.ptr 4 0)] (MH c S inF st am++[.cells [sI 0,sI 0,sI 0,sI 0,zjq,zjq]]++[.cells (jg a aop an au ad ap ak)]);(refine xf 1 mixed rfl ?_;refine zn [777,39] (nx:=5) ?_;conv=>whnf);have hla:=hlk a.number am;refine ymn (l:=am) (v:=sI ((yf a.number am).getD 0)) sI rfl rfl rfl rfl rfl rfl rfl rfl (show 5<=6 by decide) rfl hla ?_;(refine zn [777] (nx:=5) ?_;conv=>whnf);(refine ze ?_;conv=>whnf);refine zms (n:=S.has.length) (zz:=sB false) rfl rfl rfl rfl rfl rfl rfl rfl rfl ⟨by decide,rfl⟩ rfl (by rw [<-hhl]) (by rw [<-hhl]) (by have:=hS.has;have:=hS.few;omega) ?_;have hBu:∀N,SV.under.allUnder N (jg a aop an au ad ap ak)=true:=fun N=>by
  have:=zic a N;rw [zem hma] at this;exact this
 have hnf:=hS.has;have hnz:=hS.few;generalize hX:[sI S.day,sI a.line,sI v,sI ((yf a.number am).getD 0),zjq,zjq]=X0;have hXu:∀N,SV.under.allUnder N X0=true:=fun N=>by rw [<-hX];rfl
 refine (fun (hs:∀H2,H2=LH c S inF st am (jg a aop an au ad ap ak) X0 (List.replicate S.has.length false)->SWr E _ _ _ _ H2)=>hs _ (by rw [LH,List.map_replicate, <-hX];rfl)) ?_;rintro _ rfl;(refine zc ?_;conv=>whnf);have hua:zjn c a=zfa a.when_ (zav a.amount (List.replicate S.has.length false)):=by unfold zjn;rw [hnf]
 have hul:(List.replicate S.has.length false).length=S.has.length:=by simp
 generalize List.replicate S.has.length false=U0 at hua hul;have hmk:=ymz (G:=G) (hM.amt a ham).1 (hM.amt a ham).2 (used:=U0) (by omega) (H:=LH c S inF st am (jg a aop an au ad ap ak) X0 U0) (b:=6) rfl;have hul1:(zav a.amount U0).length=S.has.length:=by rw [(zfc _).1 a.amount (Nat.lt_succ_self _) U0];exact hul
 rw [hul] at hmk;generalize zav a.amount U0=U1 at hmk hua hul1;rw [hma] at hmk;refine zv rfl rfl rfl rfl rfl rfl (hmk.mono ?_);rintro r9 H9 ⟨rfl,rfl⟩;refine ⟨by rw [List.length_set];exact Nat.le_refl _,?_⟩;refine (fun (hs:∀H2,H2=LH c S inF st am (jg a aop an au ad ap ak) X0 U1->SWr E _ _ _ _ H2)=>hs _ rfl) ?_;rintro _ rfl;clear hmk hul;(refine zc ?_;conv=>whnf);refine zg [0,1,4,5,6,7,52,53,54] ?_;change SW E _ [(0,.ptr 0 0),(1,sI v),(4,.ptr 3 0),(5,.ptr 4 0),(6,.ptr 5 0),(7,.osl 6 0 S.has.length),(52,.imm (jc a.when_)),(53,sI ((a.when_.map Ex.cells).length:Nat)),(54,sI (0:Nat))] (LH c S inF st am (jg a aop an au ad ap ak) X0 U1);rw [hwl];refine zp a.when_ (fun i (_:List Bool)=>[(0,.ptr 0 0),(1,sI v),(4,.ptr 3 0),(5,.ptr 4 0),(6,.ptr 5 0),(7,.osl 6 0 S.has.length),(52,.imm (jc a.when_)),(53,sI (a.when_.length:Nat)),(54,sI (i:Nat))]) (fun _ U=>LH c S inF st am (jg a aop an au ad ap ak) X0 U)
  (fun _ rest U=>U.length=S.has.length/\zjn c a=zfa rest U) U1 ⟨hul1,hua⟩ ?_ ?_
 ·rintro U ⟨hUl,hU⟩
  have hU:zjn c a=U:=by rw [hU,zfa]
  clear hua hul1 U1;have hfa:zhf S (zjn c a)=Go.Lib.compact (zbz (znm S U U.length)):=by rw [hU];rfl
  change SW E _ [(0,.ptr 0 0),(1,sI v),(4,.ptr 3 0),(5,.ptr 4 0),(6,.ptr 5 0),(7,.osl 6 0 S.has.length),(52,.imm (jc a.when_)),(53,sI (a.when_.length:Nat)),(54,sI (a.when_.length:Nat))] (LH c S inF st am (jg a aop an au ad ap ak) X0 U);subst hX;(refine ze ?_;conv=>whnf)
  repeat' ((with_reducible refine way ?_ ?_)<;>(intro h;conv=>whnf))
  all_goals try (exfalso;omega)
  refine zlu 5 4 1 (cs:=[sI S.day,sI a.line,sI v,sI ((yf a.number am).getD 0),zjq,zjq]) rfl rfl ?_;refine zg [0,1,4,5,6,62,63,64] ?_;change SW E _ [(0,.ptr 0 0),(1,sI v),(4,.ptr 3 0),(5,.ptr 4 0),(6,.ptr 5 0),(62,.osl 6 0 S.has.length),(63,sI (S.has.length:Nat)),(64,sI (0:Nat))] (LH c S inF st am (jg a aop an au ad ap ak) [sI S.day,sI a.line,sI v,sI ((yf a.number am).getD 0),.vec 7 (znm S U 0).length,zjq] U++[.vec 1 ((znm S U 0).map sI)]);rw [<-hUl];refine zp U (fun i (_:List Int)=>[(0,.ptr 0 0),(1,sI v),(4,.ptr 3 0),(5,.ptr 4 0),(6,.ptr 5 0),(62,.osl 6 0 U.length),(63,sI (U.length:Nat)),(64,sI (i:Nat))])
   (fun _ fs=>LH c S inF st am (jg a aop an au ad ap ak) [sI S.day,sI a.line,sI v,sI ((yf a.number am).getD 0),.vec 7 fs.length,zjq] U++[.vec 1 (fs.map sI)]) (fun done _ fs=>fs=znm S U done.length) (znm S U 0) rfl ?_ ?_
  ·rintro fs rfl
   have hfl:=zqp S U U.length;generalize znm S U U.length=fs at hfa hfl;change SW E _ [(0,.ptr 0 0),(1,sI v),(4,.ptr 3 0),(5,.ptr 4 0),(6,.ptr 5 0),(62,.osl 6 0 U.length),(63,sI (U.length:Nat)),(64,sI (U.length:Nat))] (LH c S inF st am (jg a aop an au ad ap ak) [sI S.day,sI a.line,sI v,sI ((yf a.number am).getD 0),.vec 7 fs.length,zjq] U++[SObj.vec 1 (fs.map sI)]);(refine ze ?_;conv=>whnf)
   repeat' ((with_reducible refine way ?_ ?_)<;>(intro h;conv=>whnf))
   all_goals try (exfalso;omega)
   refine zv rfl rfl rfl rfl rfl rfl ((zto G 7 fs _ rfl (by have:=hS.few;omega)).mono ?_);rintro r9 H9 ⟨rfl,rfl⟩;refine ⟨by rw [List.length_set];exact Nat.le_refl _,?_⟩;have hsl:fs.length=(zbz fs).length:=by simp
   refine (fun (hs:∀H2,H2=LH c S inF st am (jg a aop an au ad ap ak) [sI S.day,sI a.line,sI v,sI ((yf a.number am).getD 0),.vec 7 (zbz fs).length,zjq] U++[SObj.vec 1 ((zbz fs).map sI)]->SWr E _ _ _ _ H2)=>hs _ (by rw [<-hsl];rfl)) ?_;rintro _ rfl;have hfz:(zbz fs).length<=1073741824:=by have:=hS.few;omega
   generalize zbz fs=fs2 at hfa hfz;(refine zc ?_;conv=>whnf);refine zv rfl rfl rfl rfl rfl rfl ((zqi G 7 fs2 _ rfl hfz).mono ?_);rintro r9 H9 ⟨rfl,rfl⟩;refine ⟨by rw [List.length_set];exact Nat.le_refl _,?_⟩;rw [<-hfa];generalize hF:zhf S (zjn c a)=F;(refine zc ?_;conv=>whnf);refine zg [0,1,4,5,6,102,103,104] ?_;change SW E _ [(0,.ptr 0 0),(1,sI v),(4,.ptr 3 0),(5,.ptr 4 0),(6,.ptr 5 0),(102,.imm (yh inF)),(103,sI ((inF.map fun n=>[dI n]).length:Nat)),(104,sI (0:Nat))] (LH c S inF st am (jg a aop an au ad ap ak) [sI S.day,sI a.line,sI v,sI ((yf a.number am).getD 0),.imm (yh F),zjq] U++[SObj.dead]);rw [hil];refine zsu 7 (by rw [hH3];decide) (by show 7<=8;decide) (by rfl) (zof (Nat.le_refl 7) (hBu 7) rfl) ?_;refine zlu 5 5 1 (cs:=[sI S.day,sI a.line,sI v,sI ((yf a.number am).getD 0),.imm (yh F),zjq]) rfl rfl ?_;change SW E _ [(0,.ptr 0 0),(1,sI v),(4,.ptr 3 0),(5,.ptr 4 0),(6,.ptr 5 0),(102,.imm (yh inF)),(103,sI (inF.length:Nat)),(104,sI (0:Nat))] (LH c S inF st am (jg a aop an au ad ap ak) [sI S.day,sI a.line,sI v,sI ((yf a.number am).getD 0),.imm (yh F),.vec 7 ([]:List Int).length] U++[SObj.vec 1 (([]:List Int).map sI)]);have hre:zkt c inF st a=inF.filter (fun o=>ztj a (ymf c o)&&decide ((yf o st).getD 0=2)):=rfl;have hlen8:∀rs:List Int,(LH c S inF st am (jg a aop an au ad ap ak) [sI S.day,sI a.line,sI v,sI ((yf a.number am).getD 0),.imm (yh F),.vec 7 rs.length] U++[SObj.vec 1 (rs.map sI)]).all (SObj.under 8)=true:=fun rs=>by
    have e1:SObj.under 8 (.vec 1 (rs.map sI))=true:=jw 8 rs;rw [List.all_append,zof (by omega) (hBu 8) rfl];simp only [List.all_cons,List.all_nil,e1];rfl
   refine zp inF (fun i (_:List Int)=>[(0,.ptr 0 0),(1,sI v),(4,.ptr 3 0),(5,.ptr 4 0),(6,.ptr 5 0),(102,.imm (yh inF)),(103,sI (inF.length:Nat)),(104,sI (i:Nat))])
    (fun _ rs=>LH c S inF st am (jg a aop an au ad ap ak) [sI S.day,sI a.line,sI v,sI ((yf a.number am).getD 0),.imm (yh F),.vec 7 rs.length] U++[SObj.vec 1 (rs.map sI)]) (fun done rest rs=>zkt c inF st a=rs++rest.filter (fun o=>ztj a (ymf c o)&&decide ((yf o st).getD 0=2))/\rs.length<=done.length) [] ⟨hre,Nat.le_refl 0⟩ ?_ ?_
   ·rintro rs ⟨hrs,hrl⟩
    rw [List.filter_nil,List.append_nil] at hrs;have hln:lnC (zqa c S inF (st,am) v a)=[sI S.day,sI a.line,sI v,sI ((yf a.number am).getD 0),.imm (yh F),.imm (yh rs)]:=by
     unfold lnC zqa;rw [hF,hrs]
    rw [hln] at fin;change SW E _ [(0,.ptr 0 0),(1,sI v),(4,.ptr 3 0),(5,.ptr 4 0),(6,.ptr 5 0),(102,.imm (yh inF)),(103,sI (inF.length:Nat)),(104,sI (inF.length:Nat))] (LH c S inF st am (jg a aop an au ad ap ak) [sI S.day,sI a.line,sI v,sI ((yf a.number am).getD 0),.imm (yh F),.vec 7 rs.length] U++[SObj.vec 1 (rs.map sI)]);refine zai 5 5 7 rs.length 1 (cs0:=[sI S.day,sI a.line,sI v,sI ((yf a.number am).getD 0),.imm (yh F),.vec 7 rs.length]) (cs:=rs.map sI) (ds:=rs.map dI) rfl rfl rfl (zod rs) (zoe rs) (by simp) (Nat.le_refl 1) ?_;rw [zfx];(refine ze ?_;conv=>whnf)
    repeat' ((with_reducible refine way ?_ ?_)<;>(intro h;conv=>whnf))
    all_goals try (exfalso;omega)
    exact fin _
   ·rintro di o ri rs hdi hdli ⟨hrs,hrl⟩ ih4
    have hor:=hin o (by rw [hdi];simp);obtain ⟨b,hb⟩:∃b,c.arts[o.toNat]?=some b:=⟨_,List.getElem?_eq_getElem (by omega)⟩;have hbm:=List.mem_of_getElem? hb;have hob:zcw c o=some b:=by unfold zcw;rw [if_neg (by omega)];exact hb
    have hon:o=(o.toNat:Int):=by omega
    have hnum:ymf c o=b.number:=by unfold ymf;rw [hob]
    have hw4:=zk (n:=di.length) (by omega);have hri:(inF.map fun n=>[dI n])[di.length]?=some [dI o]:=by rw [hdi];simp
    rw [List.filter_cons,hnum] at hrs
    have ih4:=fun rs' (h:(if (ztj a b.number&&decide ((yf o st).getD 0=2))=true then rs++[o] else rs)=rs')=>ih4 rs' ⟨by
     rw [hrs, <-h]
     split<;>simp,by rw [<-h];split<;>simp<;>omega⟩
    clear hrs;obtain ⟨bop,bn,bu,bd,bp,bk,hmb⟩:∃op n u den ps ks,b.amount= .mk op n u den ps ks:=by cases h:b.amount;exact ⟨_,_,_,_,_,_,rfl⟩
    have hrb:(c.arts.map Article.cells)[o.toNat]?=some b.cells:=by rw [List.getElem?_map,hb];rfl
    rw [zhh hmb] at hrb;have hnm:ztj a b.number=(decide (b.number∈wn a.amount)||a.when_.any fun w=>decide (b.number∈wn w)):=by
     unfold ztj;rw [zib]
    rw [hnm] at ih4;clear hnm;have c3:=zdb G b.number _ a.amount (Nat.lt_succ_self _) (hM.fit a ham).amt;rw [hma] at c3 ih4;generalize decide (b.number∈wn (.mk aop an au ad ap ak))=z3 at c3 ih4;change SW E _ [(0,.ptr 0 0),(1,sI v),(4,.ptr 3 0),(5,.ptr 4 0),(6,.ptr 5 0),(102,.imm (yh inF)),(103,sI (inF.length:Nat)),(104,sI (di.length:Nat))] (LH c S inF st am (jg a aop an au ad ap ak) [sI S.day,sI a.line,sI v,sI ((yf a.number am).getD 0),.imm (yh F),.vec 7 rs.length] U++[SObj.vec 1 (rs.map sI)]);(refine ze ?_;conv=>whnf)
    repeat' ((with_reducible refine way ?_ ?_)<;>(intro h;conv=>whnf))
    all_goals try (exfalso;omega)
    refine zi (i:=di.length) (row:=[dI o]) rfl rfl hri ?_;(refine zj [777,114] 1000 ?_;conv=>whnf);refine zi (i:=o.toNat) (row:=ypm b bop bn bu bd bp bk) rfl hon hrb ?_;(refine zc ?_;conv=>whnf);refine zd rfl  c3 ?_;(refine zc ?_;conv=>whnf);refine zg [0,1,4,5,6,13,14,15,102,103,104,122,123,124] ?_;change SW E _ [(0,.ptr 0 0),(1,sI v),(4,.ptr 3 0),(5,.ptr 4 0),(6,.ptr 5 0),(13,sI o),(14,sI b.number),(15,sB z3),(102,.imm (yh inF)),(103,sI (inF.length:Nat)),(104,sI (di.length:Nat)),(122,.imm (jc a.when_)),(123,sI ((a.when_.map Ex.cells).length:Nat)),(124,sI (0:Nat))] (LH c S inF st am (jg a aop an au ad ap ak) [sI S.day,sI a.line,sI v,sI ((yf a.number am).getD 0),.imm (yh F),.vec 7 rs.length] U++[SObj.vec 1 (rs.map sI)]);rw [hwl];refine zp a.when_ (fun i (nm:Bool)=>[(0,.ptr 0 0),(1,sI v),(4,.ptr 3 0),(5,.ptr 4 0),(6,.ptr 5 0),(13,sI o),(14,sI b.number),(15,sB nm),(102,.imm (yh inF)),(103,sI (inF.length:Nat)),(104,sI (di.length:Nat)),(122,.imm (jc a.when_)),(123,sI (a.when_.length:Nat)),(124,sI (i:Nat))]) (fun _ _=>LH c S inF st am (jg a aop an au ad ap ak) [sI S.day,sI a.line,sI v,sI ((yf a.number am).getD 0),.imm (yh F),.vec 7 rs.length] U++[SObj.vec 1 (rs.map sI)])
     (fun _ rest nm=>(z3||a.when_.any fun w=>decide (b.number∈wn w))=(nm||rest.any fun w=>decide (b.number∈wn w))) z3 rfl ?_ ?_
    ·rintro nm hnm
     have hnm:(z3||a.when_.any fun w=>decide (b.number∈wn w))=nm:=by rw [hnm];exact Bool.or_false nm
     rw [hnm] at ih4;clear hnm;have hlv:=hlk o st;generalize (yf o st).getD 0=x at hlv ih4;change SW E _ [(0,.ptr 0 0),(1,sI v),(4,.ptr 3 0),(5,.ptr 4 0),(6,.ptr 5 0),(13,sI o),(14,sI b.number),(15,sB nm),(102,.imm (yh inF)),(103,sI (inF.length:Nat)),(104,sI (di.length:Nat)),(122,.imm (jc a.when_)),(123,sI (a.when_.length:Nat)),(124,sI (a.when_.length:Nat))] (LH c S inF st am (jg a aop an au ad ap ak) [sI S.day,sI a.line,sI v,sI ((yf a.number am).getD 0),.imm (yh F),.vec 7 rs.length] U++[SObj.vec 1 (rs.map sI)]);cases nm with
     |false=>
      have ih4:=ih4 rs (if_neg (by simp));(refine ze ?_;conv=>whnf)
      repeat' ((with_reducible refine way ?_ ?_)<;>(intro h;conv=>whnf))
      all_goals try (exfalso;omega)
      rw [hw4];exact zg [0,1,4,5,6,102,103,104] ih4
     |true=>
      (refine zm [777,142] 1000 ?_;conv=>whnf)
      repeat' ((with_reducible refine way ?_ ?_)<;>(intro h;conv=>whnf))
      all_goals try (exfalso;omega)
      refine zkh (l:=st) (v:=sI x) sI rfl rfl rfl rfl rfl rfl rfl rfl rfl hlv ?_;(refine zj [777,149] 1000 ?_;conv=>whnf)
      repeat' ((with_reducible refine way ?_ ?_)<;>(intro h;conv=>whnf))
      ·have ih4:=ih4 (rs++[o]) (if_pos (by rw [decide_eq_true ‹x=2›];rfl))
       refine zbb (b:=7) (n:=rs.length) (kk:=1) (cs:=rs.map sI) (new:=[[dI o]]) rfl rfl rfl rfl rfl rfl rfl rfl rfl rfl ⟨by decide,rfl⟩ rfl (by simp) (Nat.le_refl 1) (Nat.le_refl 1) (by show rs.length+1<=_;omega) ?_;(refine zc ?_;conv=>whnf);refine (fun (hs:∀H2,H2=LH c S inF st am (jg a aop an au ad ap ak) [sI S.day,sI a.line,sI v,sI ((yf a.number am).getD 0),.imm (yh F),.vec 7 (rs++[o]).length] U++[SObj.vec 1 ((rs++[o]).map sI)]->SW E _ _ H2)=>hs _ (by rw [List.length_append,List.map_append];rfl)) ?_;rintro _ rfl;rw [hw4];exact zg [0,1,4,5,6,102,103,104] ih4
      ·have ih4:=ih4 rs (if_neg (by rw [decide_eq_false ‹¬x=2›];simp))
       rw [hw4];exact zg [0,1,4,5,6,102,103,104] ih4
    ·rintro dw w rw_ nm hdw hdlw hnm ih5
     have hw5:=zk (n:=dw.length) (by omega);have hwm:w∈a.when_:=by rw [hdw];simp
     have c5:=zdb G b.number _ w (Nat.lt_succ_self _) (zbi (hM.fit a ham).exs w hwm)
     have ih5:=fun nm' (h:(nm||decide (b.number∈wn w))=nm')=>ih5 nm' (by
      rw [hnm, <-h,List.any_cons,Bool.or_assoc])
     clear hnm ih4;have hrw:(a.when_.map Ex.cells)[dw.length]?=some w.cells:=by rw [hdw];simp
     generalize decide (b.number∈wn w)=zw at c5 ih5;obtain ⟨xo,xn,xu,xd,xp,xk⟩:=w;change SW E _ [(0,.ptr 0 0),(1,sI v),(4,.ptr 3 0),(5,.ptr 4 0),(6,.ptr 5 0),(13,sI o),(14,sI b.number),(15,sB nm),(102,.imm (yh inF)),(103,sI (inF.length:Nat)),(104,sI (di.length:Nat)),(122,.imm (jc a.when_)),(123,sI (a.when_.length:Nat)),(124,sI (dw.length:Nat))] (LH c S inF st am (jg a aop an au ad ap ak) [sI S.day,sI a.line,sI v,sI ((yf a.number am).getD 0),.imm (yh F),.vec 7 rs.length] U++[SObj.vec 1 (rs.map sI)]);cases nm with
     |true=>
      have ih5:=ih5 true rfl;(refine ze ?_;conv=>whnf)
      repeat' ((with_reducible refine way ?_ ?_)<;>(intro h;conv=>whnf))
      all_goals try (exfalso;omega)
      refine zi (i:=dw.length) (row:=(Ex.mk xo xn xu xd xp xk).cells) rfl rfl hrw ?_;(refine zc ?_;conv=>whnf);rw [hw5];exact yz [0,1,4,5,6,13,14,15,102,103,104,122,123,124] 8 (by rw [hH3];decide) (by show 8<=9;decide) (by rfl) (hlen8 rs) ih5
     |false=>
      have ih5:=ih5 zw rfl;(refine ze ?_;conv=>whnf)
      repeat' ((with_reducible refine way ?_ ?_)<;>(intro h;conv=>whnf))
      all_goals try (exfalso;omega)
      refine zi (i:=dw.length) (row:=(Ex.mk xo xn xu xd xp xk).cells) rfl rfl hrw ?_;(refine zc ?_;conv=>whnf);refine zd rfl  c5 ?_;(refine zc ?_;conv=>whnf);rw [hw5];exact yz [0,1,4,5,6,13,14,15,102,103,104,122,123,124] 8 (by rw [hH3];decide) (by show 8<=9;decide) (by rfl) (hlen8 rs) ih5
  ·rintro du u ru fs hdu hdlu rfl ih3
   have hw3:=zk (n:=du.length) (by omega);have hui:U[du.length]?=some u:=by rw [hdu];simp
   have hug:U.getD du.length false=u:=by rw [List.getD_eq_getElem?_getD,hui];rfl
   have hUm:(U.map sB)[0+du.length*1]?=some (sB u):=by rw [Nat.zero_add,Nat.mul_one,List.getElem?_map,hui];rfl
   have hhr:=zzc (l:=S.has) (n:=(du.length:Int)) (by omega) (by omega);have hnr:=yfw (l:=S.nums) (n:=(du.length:Int)) (by omega) (by have:=hS.nums;omega);rw [Int.toNat_natCast] at hhr hnr;have ih3:=ih3 _ (by rw [List.length_append,List.length_singleton]);rw [yiq,hug] at ih3;have hfl:=zqp S U du.length;have hul:=hUl;generalize znm S U du.length=fs at ih3 hfl;generalize S.has.getD du.length false=hb at hhr ih3;generalize S.nums.getD du.length 0=nn at hnr ih3;have hu8:∀fs:List Int,(LH c S inF st am (jg a aop an au ad ap ak) [sI S.day,sI a.line,sI v,sI ((yf a.number am).getD 0),.vec 7 fs.length,zjq] U++[SObj.vec 1 (fs.map sI)]).all (SObj.under 8)=true:=fun fs=>by
    have e1:SObj.under 8 (.vec 1 (fs.map sI))=true:=jw 8 fs;rw [List.all_append,zof (by omega) (hBu 8) rfl];simp only [List.all_cons,List.all_nil,e1];rfl
   change SW E _ [(0,.ptr 0 0),(1,sI v),(4,.ptr 3 0),(5,.ptr 4 0),(6,.ptr 5 0),(62,.osl 6 0 U.length),(63,sI (U.length:Nat)),(64,sI (du.length:Nat))] (LH c S inF st am (jg a aop an au ad ap ak) [sI S.day,sI a.line,sI v,sI ((yf a.number am).getD 0),.vec 7 fs.length,zjq] U++[SObj.vec 1 (fs.map sI)]);(refine zm [777,67] 1000 ?_;conv=>whnf)
   repeat' ((with_reducible refine way ?_ ?_)<;>(intro h;conv=>whnf))
   all_goals try (exfalso;omega)
   refine zah (i:=du.length) rfl rfl rfl rfl rfl rfl rfl rfl (by omega) ?_;refine wh (b:=6) (cs:=U.map sB) (v:=sB u) rfl rfl rfl rfl rfl hUm ?_;cases u with
   |false=>
    rw [if_neg (by simp),List.append_nil] at ih3;(refine zc ?_;conv=>whnf);rw [hw3];exact zg [0,1,4,5,6,62,63,64] ih3
   |true=>
    (refine zj [777,76] 1000 ?_;conv=>whnf);refine zi (i:=du.length) (row:=[dB hb]) rfl rfl hhr ?_;cases hb with
    |false=>
     rw [if_neg (by simp),List.append_nil] at ih3;(refine zc ?_;conv=>whnf);rw [hw3];exact zg [0,1,4,5,6,62,63,64] ih3
    |true=>
     rw [if_pos (show (true&&true)=true from rfl)] at ih3;(refine zc ?_;conv=>whnf);refine zg [0,1,4,5,6,10,62,63,64] ?_;change SW E _ [(0,.ptr 0 0),(1,sI v),(4,.ptr 3 0),(5,.ptr 4 0),(6,.ptr 5 0),(10,sI (du.length:Nat)),(62,.osl 6 0 U.length),(63,sI (U.length:Nat)),(64,sI (du.length:Nat))] (LH c S inF st am (jg a aop an au ad ap ak) [sI S.day,sI a.line,sI v,sI ((yf a.number am).getD 0),.vec 7 fs.length,zjq] U++[SObj.vec 1 (fs.map sI)]);(refine xf 0 mixed rfl ?_;refine zn [777,86] (nx:=8) ?_;conv=>whnf);refine qn (i:=du.length) (row:=[dI nn]) rfl (show 8<=8 by decide) rfl hnr ?_;(refine zn [777,89] (nx:=8) ?_;conv=>whnf);refine ybv (b:=7) (n:=fs.length) (kk:=1) (cs:=fs.map sI) (new:=[[dI nn]]) rfl rfl rfl rfl rfl rfl rfl rfl rfl rfl ⟨by decide,rfl⟩ (show 8<=8 by decide) rfl (by simp) (Nat.le_refl 1) (Nat.le_refl 1) (by show fs.length+1<=_;omega) ?_;(refine zn [777,999] (nx:=8) ?_;conv=>whnf);refine xa (b:=5) (off:=4) (v:=.vec 7 (fs.length+1)) (d:=[sI S.day,sI a.line,sI v,sI ((yf a.number am).getD 0)]) (zz:=.vec 7 fs.length) (r:=[zjq]) rfl rfl rfl rfl rfl rfl rfl rfl (show 8<=8 by decide) rfl rfl ?_;refine qf (by kernel_rfl) ?_;refine (fun (hs:∀H2,H2=LH c S inF st am (jg a aop an au ad ap ak) [sI S.day,sI a.line,sI v,sI ((yf a.number am).getD 0),.vec 7 (fs++[nn]).length,zjq] U++[SObj.vec 1 ((fs++[nn]).map sI)]->SW E _ _ H2)=>hs _ (by rw [List.length_append,List.map_append];rfl)) ?_;rintro _ rfl;(refine ze ?_;conv=>whnf);rw [hw3];exact zg [0,1,4,5,6,62,63,64] ih3
 ·rintro dw w rw_ U hdw hdlw ⟨hUl,hU⟩ ih2
  rw [zfa] at hU;have hw2:=zk (n:=dw.length) (by omega);have hwm:w∈a.when_:=by rw [hdw];simp
  have hmk:=ymz (G:=G) (hM.whn a ham w hwm).1 (hM.whn a ham w hwm).2 (used:=U) (by omega) (H:=LH c S inF st am (jg a aop an au ad ap ak) X0 U++[.cells (w.cells.map .imm)]) (b:=6) rfl;have hul2:(zav w U).length=S.has.length:=by rw [(zfc _).1 w (Nat.lt_succ_self _) U];exact hUl
  have ih2:=ih2 _ ⟨hul2,hU⟩;rw [hUl] at hmk;have hrw:(a.when_.map Ex.cells)[dw.length]?=some w.cells:=by rw [hdw];simp
  generalize zav w U=U2 at hmk ih2;obtain ⟨xo,xn,xu,xd,xp,xk⟩:=w;change SW E _ [(0,.ptr 0 0),(1,sI v),(4,.ptr 3 0),(5,.ptr 4 0),(6,.ptr 5 0),(7,.osl 6 0 S.has.length),(52,.imm (jc a.when_)),(53,sI (a.when_.length:Nat)),(54,sI (dw.length:Nat))] (LH c S inF st am (jg a aop an au ad ap ak) X0 U);(refine ze ?_;conv=>whnf)
  repeat' ((with_reducible refine way ?_ ?_)<;>(intro h;conv=>whnf))
  all_goals try (exfalso;omega)
  refine zi (i:=dw.length) (row:=(Ex.mk xo xn xu xd xp xk).cells) rfl rfl hrw ?_;(refine zc ?_;conv=>whnf);refine (fun (hs:∀H2,H2=LH c S inF st am (jg a aop an au ad ap ak) X0 U++[.cells ((Ex.mk xo xn xu xd xp xk).cells.map .imm)]->SWr E _ _ _ _ H2)=>hs _ rfl) ?_;rintro _ rfl;refine zv rfl rfl rfl rfl rfl rfl (hmk.mono ?_);rintro r9 H9 ⟨rfl,rfl⟩;refine ⟨by rw [List.length_set];exact Nat.le_refl _,?_⟩;refine (fun (hs:∀H2,H2=LH c S inF st am (jg a aop an au ad ap ak) X0 U2++[.cells ((Ex.mk xo xn xu xd xp xk).cells.map .imm)]->SWr E _ _ _ _ H2)=>hs _ rfl) ?_;rintro _ rfl;(refine zc ?_;conv=>whnf);rw [hw2];exact yz [0,1,4,5,6,7,52,53,54] 7 (by rw [hH3];decide) (by show 7<=8;decide) (by rfl) (zof (Nat.le_refl 7) (hBu 7) (hXu 7)) ih2
open Go Go.Sh Go.RowKit
theorem yir (b n:Nat) (p:Value) (T:Nat) (w:World) (hbk:w.heap[b]?=some (.cells #[p,.slice none 0 0] T (0,0))) (hn:n<=281474976710656):
  Calls Tryz.prog 194 #[.pointer (some ⟨b,0,none⟩),.int .i64 n] w fun e w'=>e= .returned (.tuple #[])/\
   ∃cs:Array Value,n<=cs.size/\cs.size<=maxLen/\w'=((w.setCell ⟨b,1,none⟩ (.slice (some ⟨w.heap.size,0,none⟩) 0 cs.size)).alloc (.cells cs 5)).drew.drew.drew:=by
 obtain ⟨cs,hrun,hle,hmax⟩:=Lib.run_makeNoZero (P:=Tryz.prog) w.drew #[3] 159 5 rfl n hn;have hw:IntKind.i64.wrap (IntKind.i64.wrap 0+(n:Int))=n:=by
  rw [IntKind.wrap_i64,IntKind.wrap_i64];omega
 have hcall:(callFunc 210 #[.int .i64 (IntKind.i64.wrap (IntKind.i64.wrap 0+(n:Int)))]).run Tryz.prog w.drew= .ok (.value (.slice (some ⟨w.drew.heap.size,0,none⟩) n cs.size)) (w.drew.drew.drew.alloc (.cells cs 5)):=by
  rw [hw,run_callFunc_extern Tryz.func210 (by kernel_rfl) (by kernel_rfl) (by kernel_rfl) (e:=Extern.BytealgMakeNoZero.makeNoZero #[3] #[159]) (by kernel_rfl),hrun];rfl
 have hlt:b<w.heap.size:=by
  rcases Nat.lt_or_ge b w.heap.size with h'|h'
  ·exact h'
  ·simp [Array.getElem?_eq_none h'] at hbk
 have c1:w.drew.cell? ⟨b,1,none⟩=some (.slice none 0 0):=by
  have:w.drew.heap[b]?=_:=hbk;rw [Lib.cell_of_heap this];rfl
 have c2:(w.alloc (.cells cs 5)).cell? ⟨b,1,none⟩=some (.slice none 0 0):=by
  have:(w.alloc (.cells cs 5)).heap[b]?=_:=(Lib.alloc_old w _ b hlt).trans hbk;rw [Lib.cell_of_heap this];rfl
 have f2:(w.alloc (.cells cs 5)).frozen? ⟨b,1,none⟩=false:=Lib.frozen_of_heap ((Lib.alloc_old w _ b hlt).trans hbk) 1;have hcopy:∀W:World,(Builtin.copy_ #[159,159] 3 #[.slice (some ⟨w.heap.size,0,none⟩) 0 cs.size,.slice none 0 0]).run Tryz.prog W= .ok (goInt 0) W:=
  fun W=>run_copy_none W 159 159 3 5 _ _ 0 cs.size 0 0 rfl (by kernel_rfl) rfl
 clear hw;have mixed:=mixed;have hm:=hmax (by unfold maxLen;omega)
 go_enter Tryz.func194,Tryz.ntmps194
 go_wp2
 go_region_o
 all_goals (go_wp2;go_end0;exact ⟨rfl,cs,hle,hm,rfl⟩)
variable (G:List (Nat × D))
theorem yis (x:Nat) (c:UInt8) (hx:x<18446744073709551616):zq Tryz.prog G 123 [yg x,.imm (dU8 c)] (yg (zby x c.toNat)):=by
 refine zh Tryz.func123 rfl (by rw [Tryz.ntmps123];simp) rfl rfl ?_;intro E hH hK;have hb:c.toNat<18446744073709551616:=Nat.lt_trans c.toNat_lt (by decide);(refine ze ?_;conv=>whnf);rw [yhu hb,ypi hx hb,ywu,yzn,ypi (Nat.mod_lt _ (by decide)) (zgw _ (Nat.mod_lt _ (by decide)))];exact hK _
theorem ydc (x:Nat) (hx:x<18446744073709551616):zq Tryz.prog G 124 [yg x] (yg (mix x 2147483648 13787848793156543929)):=by
 refine zh Tryz.func124 rfl (by rw [Tryz.ntmps124];simp) rfl rfl ?_;intro E hH hK;(refine ze ?_;conv=>whnf);rw [yzl,ywx hx,ywv];exact hK _
theorem zzh (x:Nat) (hx:x<18446744073709551616):zq Tryz.prog G 125 [yg x] (yg (mix x 134217728 10723151780598845931)):=by
 refine zh Tryz.func125 rfl (by rw [Tryz.ntmps125];simp) rfl rfl ?_;intro E hH hK;(refine ze ?_;conv=>whnf);rw [yzm,ywy hx,yww];exact hK _
theorem zak (s:ByteArray) (hs:s.size<=9223372036854775807):zq Tryz.prog G 79 [sS s] (yg (qi s)):=by
 have hl:=zkm s;refine zh Tryz.func79 rfl (by rw [Tryz.ntmps79];simp) rfl rfl ?_;intro E hH hK;(refine ze ?_;conv=>whnf);refine zg [0,3,7,8] ?_;change SW E _ [(0,sS s),(3,yg 2611923443488327891),(7,sI s.size),(8,sI (0:Nat))] [];unfold qi at hK;have hz:2611923443488327891<18446744073709551616:=by decide
 generalize (2611923443488327891:Nat)=z0 at hK hz ⊢;refine Eq.mpr (congrArg (fun n:Nat=>SW E _ [(0,sS s),(3,yg z0),(7,sI n),(8,sI (0:Nat))] []) hl.symm) ?_;refine zp s.data.toList (fun i x=>[(0,sS s),(3,yg x),(7,sI s.data.toList.length),(8,sI i)]) (fun _ _=>[]) (fun _ rest x=>x<18446744073709551616/\ybq z0 s.data.toList=ybq x rest) z0 ⟨hz,rfl⟩ ?_ ?_
 ·rintro x ⟨h1,h2⟩
  have h2:ybq z0 s.data.toList=x:=h2;rw [h2] at hK;have hsz:s.size<18446744073709551616:=by omega
  have hx:=yfa h1 hsz;have c1:=ydc G (x ^^^ s.size) hx;have c2:=zzh G (mix (x ^^^ s.size) 2147483648 13787848793156543929) (zxt _ _ _);(refine ze ?_;conv=>whnf)
  repeat' ((with_reducible refine way ?_ ?_)<;>(intro h;conv=>whnf))
  all_goals try (exfalso;omega)
  rw [yhu hsz,ypi h1 hsz];refine zd rfl  c1 ?_;(refine zc ?_;conv=>whnf);refine zd rfl  c2 ?_;(refine zc ?_;conv=>whnf);refine Eq.mpr (congrArg (fun a:Int=>E.K (.imm (.val (.int .u64 a))) []) ?_) (hK []);rw [yzo,ypi (zxt _ _ _) (zgw _ (zxt _ _ _))];rfl
 ·rintro done b rest x hda hdl ⟨h1,h2⟩ ih
  have hw:=zk (n:=done.length) (by omega);have hget:s.data.toList[done.length]?=some b:=by rw [hda];simp
  have hnext:=ih (zby x b.toNat) ⟨yfb _ _,h2⟩;have c1:=yis G x b h1;(refine ze ?_;conv=>whnf)
  repeat' ((with_reducible refine way ?_ ?_)<;>(intro h;conv=>whnf))
  all_goals try (exfalso;omega)
  refine zbm rfl rfl rfl rfl rfl rfl  hget ?_;(refine zc ?_;conv=>whnf);refine zd rfl  c1 ?_;(refine zc ?_;conv=>whnf);rw [hw];exact zg [0,3,7,8] hnext
end Go.Proofs.YtjnddlifnkgncaaGreatDoor
namespace Go.Sh
section
variable {P:Program} {G:List (Nat × D)} {fn:Func} {rd:Bool} {E:En P G fn rd} {t:List (Nat × SV)} {H:List SObj} {k:List Item} {all:Array Oper} {rest:List Oper} {o:Oper}
theorem yit {ty e n len off i:Nat} {x ix:Operand} {cells:List D} {mm:Int} {kk:IntKind} (hop:o.op= .indexAddr ty x ix)
  (hw:zu all t o.guard=some true) (hd:yb fn.ntmps o.dst=true) (hx:zl G t x= .imm (.row cells off)) (hi:zl G t ix= .imm (.val (.int kk mm)))
  (hu:P.underlying ty=some (.array len e)) (hn:xe P e=some n) (hmm:mm=(i:Int)) (hr:i<len)
  (h:SWr E all rest k (xj t o.dst (.imm (.row cells (off+i*n)))) H):SWr E all (o::rest) k t H:=by
 refine qy hw hd (r:=.imm (.row cells (off+i*n))) ?_ (Nat.le_refl _) h;subst hmm;rw [hop];simp only [sop,hi,jv,hu,hn,hx];rw [if_pos (by omega)];simp
theorem ydd {ty off:Nat} {x:Operand} {cells:List D} {d:D} (hop:o.op= .load ty x)
  (hw:zu all t o.guard=some true) (hd:yb fn.ntmps o.dst=true) (hx:zl G t x= .imm (.row cells off)) (hp:ytq P ty=some false) (hr:cells[off]?=some d)
  (h:SWr E all rest k (xj t o.dst (.imm d)) H):SWr E all (o::rest) k t H:=by
 refine qy hw hd (r:=.imm d) ?_ (Nat.le_refl _) h;rw [hop];simp only [sop,hx,zaz,ziz,hp,List.getElem?_map,hr];rfl
theorem zmy {ty e n len b off:Nat} {x:Operand} (hx:zl G t x= .ptr b off) (hu:P.underlying ty=some (.array len e)) (hn:xe P e=some n) (hlen:len<=maxLen) (H:List SObj):
  sop P (.slice ty x none none none) (zl G t) H=some (.osl b off len,H):=by
 simp only [sop,Option.map_none,zmm,hu,hx,hn,if_pos hlen,Option.map_some]
theorem zmz {ty e n len b off:Nat} {x:Operand} (hop:o.op= .slice ty x none none none) (hw:zu all t o.guard=some true) (hd:yb fn.ntmps o.dst=true) (hx:zl G t x= .ptr b off)
  (hu:P.underlying ty=some (.array len e)) (hn:xe P e=some n) (hlen:len<=maxLen) (h:SWr E all rest k (xj t o.dst (.osl b off len)) H):SWr E all (o::rest) k t H:=
 qy hw hd (by rw [hop];exact zmy hx hu hn hlen H) (Nat.le_refl _) h
theorem zna {ty e n len b off:Nat} {x:Operand} (hop:o.op= .slice ty x none none none) (hw:zu all t o.guard=some true) (hd:yb fn.ntmps o.dst=true) (hx:zl G t x= .ptr b off)
  (hu:P.underlying ty=some (.array len e)) (hn:xe P e=some n) (hlen:len<=maxLen) (h:SWd E all rest k (xj t o.dst (.osl b off len)) H):SWd E all (o::rest) k t H:=
 zmo hw hd (by rw [hop];exact zmy hx hu hn hlen H) h
theorem zts {s d e:TypeId} {b n:Nat} {ns:List Int} (hb:H[b]?=some (.cells (ns.map fun i=>.imm (.val (.int .u8 i))))) (hn:n=ns.length) (hs:P.underlying s=some (.slice e)) (hde:P.underlying e=some (.int .u8)) (hdd:P.underlying d=some .string):
  zep P s d H (.osl b 0 n)=some (.string (zbl ns)):=by
 simp only [zep,hs,hde,hdd,hb,zoq,hn,if_true]
theorem ztt {s d e:TypeId} {x:Operand} {b n:Nat} {ns:List Int} (hop:o.op= .convert s d x) (hw:zu all t o.guard=some true) (hd:yb fn.ntmps o.dst=true)
  (hx:zl G t x= .osl b 0 n) (hb:H[b]?=some (.cells (ns.map fun i=>.imm (.val (.int .u8 i))))) (hn:n=ns.length) (hs:P.underlying s=some (.slice e)) (hde:P.underlying e=some (.int .u8)) (hdd:P.underlying d=some .string)
  (h:SWr E all rest k (xj t o.dst (.imm (.val (.string (zbl ns))))) H):SWr E all (o::rest) k t H:=
 qy hw hd (by rw [hop];simp only [sop,hx,zts hb hn hs hde hdd,Option.map_some]) (Nat.le_refl _) h
theorem ztu {s d e:TypeId} {x:Operand} {b n:Nat} {ns:List Int} (hop:o.op= .convert s d x) (hw:zu all t o.guard=some true) (hd:yb fn.ntmps o.dst=true)
  (hx:zl G t x= .osl b 0 n) (hb:H[b]?=some (.cells (ns.map fun i=>.imm (.val (.int .u8 i))))) (hn:n=ns.length) (hs:P.underlying s=some (.slice e)) (hde:P.underlying e=some (.int .u8)) (hdd:P.underlying d=some .string)
  (h:SWd E all rest k (xj t o.dst (.imm (.val (.string (zbl ns))))) H):SWd E all (o::rest) k t H:=
 zmo hw hd (by rw [hop];simp only [sop,hx,zts hb hn hs hde hdd,Option.map_some]) h
theorem zdr (h:SW E k (t.map fun x=>(x.1,x.2.solid)) H):SW E k t H:=
 ⟨fun a w I β cs hs=>h.run a w I β cs ⟨hs.heap,fun n=>by rw [zsx];exact (hs.tmps n).solid,hs.size,hs.defers,hs.ext,hs.hlen⟩⟩
end
end Go.Sh
namespace Go.Proofs.YtjnddlifnkgncaaGreatDoor
open Go Go.Sh
def yvj:D:=.row (([48,49,50,51,52,53,54,55,56,57,97,98,99,100,101,102]:List UInt8).map dU8) 0
def yzc:D:=.row (([4,9]:List Int).map dI) 0
def G37:List (Nat × D):=[(2,.tab (Lib.pow10Tab.map fun z=>Value.int .u64 z)),(0,yzc),(1,yvj)]
abbrev bS (c:UInt8):SV:=.imm (dU8 c)
theorem ynb:∀x,x<16->((([48,49,50,51,52,53,54,55,56,57,97,98,99,100,101,102]:List UInt8).map dU8))[0+x*1]?=some (dU8 (ypj x)):=by
 intro x hx;have:x=0\/x=1\/x=2\/x=3\/x=4\/x=5\/x=6\/x=7\/x=8\/x=9\/x=10\/x=11\/x=12\/x=13\/x=14\/x=15:=by omega
 rcases this with rfl|rfl|rfl|rfl|rfl|rfl|rfl|rfl|rfl|rfl|rfl|rfl|rfl|rfl|rfl|rfl<;>rfl
theorem ync (d i:Nat) (h:i<16):(zyf d).drop (15-i)=ypj (d / 16 ^ i % 16)::(zyf d).drop (16-i):=by
 have hl:(zyf d).length=16:=by simp [zyf,ztb]
 rw [List.drop_eq_getElem_cons (by omega)]
 congr 1
 ·simp only [zyf,ztb,List.getElem_map,List.getElem_range,nib]
  rw [show 15-(15-i)=i by omega]
 ·rw [show 15-i+1=16-i by omega]
theorem sh4 (a:Nat):(a:Int).fdiv (2 ^ min (Int.toNat 4) IntKind.u64.bits)=((a / 16:Nat):Int):=ywi a rfl
theorem ytf (l:List UInt8):∀b:ByteArray,(l.map fun c=>(c.toNat:Int)).foldl (fun r n=>r.push (UInt8.ofNat n.toNat)) b=⟨b.data++l.toArray⟩:=by
 induction l with
 |nil=>intro b;simp
 |cons x l ih=>
  intro b;rw [List.map_cons,List.foldl_cons,ih]
  congr 1
  show b.data.push _++_=_;simp
theorem zqq (d:Nat) (hd:d<18446744073709551616):zq Tryz.prog G37 89 [yg d] (sS (zek d)):=by
 have hl:(zyf d).length=16:=by simp [zyf,ztb]
 refine zh Tryz.func89 rfl (by rw [Tryz.ntmps89];simp) rfl rfl ?_;intro E hH hK;(refine ze ?_;conv=>whnf);refine zg [0,3,6] ?_;change SW E _ [(0,yg d),(3,.ptr 0 0),(6,sI (0:Nat))] [.cells (List.replicate 16 (bS 0)++[].map bS)];refine zp (List.range 16) (fun j (x:Nat × List UInt8)=>[(0,yg x.1),(3,.ptr 0 0),(6,sI j)]) (fun i x=>[.cells (List.replicate (16-i) (bS 0)++x.2.map bS)]) (fun done _ x=>x.1=d / 16 ^ done.length/\x.2=(zyf d).drop (16-done.length)) (d,[]) ⟨by simp,by simp [hl]⟩ ?_ ?_
 ·rintro ⟨x,l⟩ ⟨_,h⟩
  have h:l=zyf d:=h;subst h;clear ‹x=_›;(refine ze ?_;conv=>whnf)
  repeat' ((with_reducible refine way ?_ ?_)<;>(intro h;conv=>whnf))
  all_goals try (exfalso;omega)
  refine zmz rfl rfl rfl rfl rfl rfl (by unfold maxLen;decide) ?_;refine ztt (b:=0) (n:=16) (ns:=(zyf d).map fun c=>(c.toNat:Int)) rfl rfl rfl rfl (by show some (SObj.cells ((zyf d).map bS))=_;rw [List.map_map];rfl) (by simp [hl]) rfl rfl rfl ?_;unfold zbl;rw [ytf];(refine zc ?_;conv=>whnf);refine Eq.mpr (congrArg (fun b=>E.K (sS b) _) ?_) (hK _);show (⟨#[]++(zyf d).toArray⟩:ByteArray)=_;simp [zek]
 ·rintro done j rest ⟨x,l⟩ hda hdl ⟨h,h'⟩ ih
  simp only at h h';have hj:done.length<16:=by simp at hdl;omega
  have hw:=zk (n:=done.length) (by omega);have hx:x<18446744073709551616:=by rw [h];exact zgw _ hd
  have hnx:=ih (x / 16,ypj (x % 16)::l) ⟨by simp only;rw [h,List.length_append,List.length_cons,List.length_nil,Nat.zero_add,Nat.pow_succ,Nat.div_div_eq_div_mul],by simp only;rw [h,h',List.length_append,List.length_cons,List.length_nil, <-ync d done.length hj,show 16-(done.length+(0+1))=15-done.length by omega]⟩;have hw2:IntKind.i64.wrap (15-(done.length:Int))=((15-done.length:Nat):Int):=by rw [zt (by omega) (by omega)];omega
  have hrep:List.replicate (16-done.length) (bS 0)=List.replicate (15-done.length) (bS 0)++[bS 0]:=by rw [show 16-done.length=15-done.length+1 by omega,List.replicate_succ']
  rw [hrep];(refine zm [777,13] 1000 ?_;conv=>whnf)
  repeat' ((with_reducible refine way ?_ ?_)<;>(intro h;conv=>whnf))
  all_goals try (exfalso;omega)
  rw [yun hx];refine yit (i:=x % 16) rfl rfl rfl rfl rfl rfl rfl rfl (Nat.mod_lt _ (by decide)) ?_;refine ydd rfl rfl rfl rfl rfl (ynb _ (Nat.mod_lt _ (by decide))) ?_;generalize ypj (x % 16)=c at hnx ⊢;refine zlx (i:=15-done.length) rfl rfl rfl rfl rfl rfl rfl hw2 (by omega) ?_;refine zba (d:=List.replicate (15-done.length) (bS 0)) (zz:=bS 0) (r:=l.map bS) (v:=bS c) rfl rfl rfl rfl rfl rfl rfl rfl (by simp) (by show 0+(15-done.length)*1=_;simp) ?_;(refine zc ?_;conv=>whnf);rw [sh4,hw];refine zg [0,3,6] ?_;have he:16-(done.length+1)=15-done.length:=by omega
  rw [he] at hnx;exact hnx
theorem zog (d:Nat):(zny d).length=8:=by simp [zny]
theorem ynd (d i:Nat) (h:i<8):(zny d).drop (7-i)=UInt8.ofNat (d / 256 ^ i % 256)::(zny d).drop (8-i):=by
 have hl:=zog d;rw [List.drop_eq_getElem_cons (by omega)]
 congr 1
 ·simp only [zny,List.getElem_map,List.getElem_range,yqu]
  rw [show 7-(7-i)=i by omega]
 ·rw [show 7-i+1=8-i by omega]
theorem sh8 (a:Nat):(a:Int).fdiv (2 ^ min (Int.toNat 8) IntKind.u64.bits)=((a / 256:Nat):Int):=ywi a rfl
theorem zzi (n:Nat):(UInt8.ofNat (n % 256)).toNat=n % 256:=by
 rw [UInt8.toNat_ofNat'];exact Nat.mod_eq_of_lt (Nat.mod_lt _ (by decide))
theorem ztv (G:List (Nat × D)) (d:Nat) (hd:d<18446744073709551616):zq Tryz.prog G 165 [yg d] (.agg ((zny d).map bS)):=by
 have hl:=zog d;refine zh Tryz.func165 rfl (by rw [Tryz.ntmps165];simp) rfl rfl ?_;intro E hH hK;(refine ze ?_;conv=>whnf);refine zg [0,2,3,6] ?_;change SW E _ [(0,yg d),(2,.ptr 0 0),(3,.ptr 1 0),(6,sI (0:Nat))] [.cells (List.replicate 8 (bS 0)),.cells (List.replicate 8 (bS 0)++[].map bS)];refine zp (List.range 8) (fun j (x:Nat × List UInt8)=>[(0,yg x.1),(2,.ptr 0 0),(3,.ptr 1 0),(6,sI j)]) (fun i x=>[.cells (List.replicate 8 (bS 0)),.cells (List.replicate (8-i) (bS 0)++x.2.map bS)]) (fun done _ x=>x.1=d / 256 ^ done.length/\x.2=(zny d).drop (8-done.length)) (d,[]) ⟨by simp,by simp [hl]⟩ ?_ ?_
 ·rintro ⟨x,l⟩ ⟨_,h⟩
  have h:l=zny d:=h;rw [<-h] at hK hl
  match l,hl with
  |[a0,a1,a2,a3,a4,a5,a6,a7],_=>
  (refine ze ?_;conv=>whnf)
  repeat' ((with_reducible refine way ?_ ?_)<;>(intro h;conv=>whnf))
  all_goals try (exfalso;omega)
  exact hK _
 ·rintro done j rest ⟨x,l⟩ hda hdl ⟨h,h'⟩ ih
  simp only at h h';have hj:done.length<8:=by simp at hdl;omega
  have hw:=zk (n:=done.length) (by omega);have hx:x<18446744073709551616:=by rw [h];exact zgw _ hd
  have hnx:=ih (x / 256,UInt8.ofNat (x % 256)::l) ⟨by simp only;rw [h,List.length_append,List.length_cons,List.length_nil,Nat.zero_add,Nat.pow_succ,Nat.div_div_eq_div_mul],by simp only;rw [h,h',List.length_append,List.length_cons,List.length_nil, <-ynd d done.length hj,show 8-(done.length+(0+1))=7-done.length by omega]⟩;have hw2:IntKind.i64.wrap (7-(done.length:Int))=((7-done.length:Nat):Int):=by rw [zt (by omega) (by omega)];omega
  have hrep:List.replicate (8-done.length) (bS 0)=List.replicate (7-done.length) (bS 0)++[bS 0]:=by rw [show 8-done.length=7-done.length+1 by omega,List.replicate_succ']
  have hc:(x:Nat) % 256=(UInt8.ofNat (x % 256)).toNat:=(zzi x).symm;rw [hrep];(refine zm [777,13] 1000 ?_;conv=>whnf)
  repeat' ((with_reducible refine way ?_ ?_)<;>(intro h;conv=>whnf))
  all_goals try (exfalso;omega)
  rw [yqv,hc];generalize UInt8.ofNat (x % 256)=c at hnx ⊢;refine zlx (i:=7-done.length) rfl rfl rfl rfl rfl rfl rfl hw2 (by omega) ?_;refine zba (d:=List.replicate (7-done.length) (bS 0)) (zz:=bS 0) (r:=l.map bS) (v:=bS c) rfl rfl rfl rfl rfl rfl rfl rfl (by simp) (by show 0+(7-done.length)*1=_;simp) ?_;(refine zc ?_;conv=>whnf);rw [sh8,hw];refine zg [0,2,3,6] ?_;have he:8-(done.length+1)=7-done.length:=by omega
  rw [he] at hnx;exact hnx
theorem zfy (l:List UInt8):zbl (l.map fun c=>(c.toNat:Int))=⟨l.toArray⟩:=by
 unfold zbl;rw [ytf];show (⟨#[]++l.toArray⟩:ByteArray)=_;simp
theorem zhj (d:Nat):(zig d).size=8:=by
 show (zny d).toArray.size=8;simp [zny]
theorem yne (G:List (Nat × D)) (a b:Nat) (ha:a<18446744073709551616) (hb:b<18446744073709551616):zq Tryz.prog G 132 [yg a,yg b] (yg (zce a b)):=by
 have c1:=ztv G a ha;have c2:=ztv G b hb;have ra:zig a=zbl ((zny a).map fun c=>(c.toNat:Int)):=(zfy _).symm;have rb:zig b=zbl ((zny b).map fun c=>(c.toNat:Int)):=(zfy _).symm;have za:=zhj a;have zb:=zhj b;have c3:=zak G (⟨#[1]⟩++zig a++zig b) (by rw [ByteArray.size_append,ByteArray.size_append,za,zb];decide);change zq _ _ _ _ (yg (zce a b)) at c3;have la:=zog a;have lb:=zog b;generalize zce a b=r at c3 ⊢;generalize zig a=sa at*;generalize zig b=sb at*;generalize zny a=x at*;generalize zny b=y at*
 match x,la,y,lb with
 |[a0,a1,a2,a3,a4,a5,a6,a7],_,[b0,b1,b2,b3,b4,b5,b6,b7],_=>
 refine zh Tryz.func132 rfl (by rw [Tryz.ntmps132];simp) rfl rfl ?_;intro E hH hK;(refine ze ?_;conv=>whnf);refine zd rfl  c1 ?_;(refine zc ?_;conv=>whnf);refine zd rfl  c2 ?_;(refine zc ?_;conv=>whnf);refine zg [5,6] ?_;change SW E _ [(5,.ptr 0 0),(6,.ptr 1 0)] [.cells ([a0,a1,a2,a3,a4,a5,a6,a7].map bS),.cells ([b0,b1,b2,b3,b4,b5,b6,b7].map bS)];(refine yc mixed rfl ?_;refine zf [] ?_;conv=>whnf);refine zna rfl rfl rfl rfl rfl rfl (by unfold maxLen;decide) ?_;refine ztu (b:=0) (n:=8) (ns:=[a0,a1,a2,a3,a4,a5,a6,a7].map fun c=>(c.toNat:Int)) rfl rfl rfl rfl rfl rfl rfl rfl rfl ?_;rw [<-ra];(refine zf [13] ?_;conv=>whnf);refine zbd rfl rfl rfl rfl rfl (by rw [za];decide) ?_;refine zna rfl rfl rfl rfl rfl rfl (by unfold maxLen;decide) ?_;refine ztu (b:=1) (n:=8) (ns:=[b0,b1,b2,b3,b4,b5,b6,b7].map fun c=>(c.toNat:Int)) rfl rfl rfl rfl rfl rfl rfl rfl rfl ?_;rw [<-rb];refine zbd rfl rfl rfl rfl rfl (by rw [ByteArray.size_append,za,zb];decide) ?_;refine ym rfl  c3 ?_;(refine zf [] ?_;conv=>whnf);(refine ze ?_;conv=>whnf);exact hK _
theorem jz:yur G37:=⟨_,List.Mem.head _,by kernel_rfl⟩
theorem yde (n c:Nat):chainN n (zvp c)=chainN (n+1) c:=by
 induction n with
 |zero=>rw [zdn,zbe,zdn]
 |succ n ih=>rw [zbe,ih,zbe (n+1)]
theorem zzj {c:Nat} (hc:c<18446744073709551616) (n:Nat):chainN n c<18446744073709551616:=by
 cases n with
 |zero=>rw [zdn];exact hc
 |succ n=>rw [zbe];exact zvq _
def HW (r c n:Nat) (lp:SObj):List SObj:=[.cells [yg r],.cells [yg c],.cells [sI n],lp]
theorem yiu (G:List (Nat × D)) (c n:Nat) (H:List SObj):SCall Tryz.prog G 129 [yg c,sI n] H (fun r H'=>r= .fn (.func 164) [] [.ptr H.length 0,.ptr (H.length+1) 0]/\H'=H++[.cells [yg c],.cells [sI n]]):=by
 refine ya Tryz.func129 rfl (by rw [Tryz.ntmps129];simp) ?_;intro E hH hK;(refine ze ?_;conv=>whnf);exact hK _ _ ⟨by simp;rfl,by simp;exact ⟨rfl,rfl⟩⟩
theorem zwb {f:FuncId} {n0:Nat} {tL:List (Nat × SV)} {ps:Array Tmp} {asg bd:Code} (hps:1=ps.size)
  (hy:∀r c n,c<18446744073709551616->SYield Tryz.prog G37 3 [yg c] (HW r c n (.loop .ready f n0 tL ps asg bd)) (fun res H'=>res=true/\H'=HW c c n (.loop .ready f n0 tL ps asg bd)))
  (r c n:Nat) (hc:c<18446744073709551616) (hn:n<=15):
  SCall Tryz.prog G37 164 [.yld 3,.ptr 1 0,.ptr 2 0] (HW r c n (.loop .ready f n0 tL ps asg bd)) (fun _ H'=>H'=HW (chainN n c) (chainN n c) 0 (.loop .ready f n0 tL ps asg bd)):=by
 refine ya Tryz.func164 rfl (by rw [Tryz.ntmps164];simp) ?_;intro E hH hK;generalize hR:chainN n c=R at hK;(refine ze ?_;conv=>whnf);refine zg [0,1,2] ?_;change SW E _ [(0,.yld 3),(1,.ptr 1 0),(2,.ptr 2 0)] _;refine yy (σ:=Nat × Nat × Nat) (fun _=>[(0,.yld 3),(1,.ptr 1 0),(2,.ptr 2 0)]) (fun x=>HW x.1 x.2.1 x.2.2 (.loop .ready f n0 tL ps asg bd)) (fun x=>chainN x.2.2 x.2.1=R/\x.2.1<18446744073709551616/\x.2.2<=15) (fun x=>x.2.2) ?_ (r,c,n) ⟨hR,hc,hn⟩;clear hR hc hn;rintro ⟨r,c,n⟩ ⟨i1,i2,i3⟩ ih;simp only at i1 i2 i3;have hyy:=hy r c n i2;have c1:=zqq c i2;have c2:=zak G37 (⟨#[2]⟩++zek c) (by rw [ByteArray.size_append,ju];decide);change zq _ _ _ _ (yg (zvp c)) at c2;show SW E _ _ (HW r c n (.loop .ready f n0 tL ps asg bd));(refine ze ?_;conv=>whnf);refine zpb rfl rfl rfl rfl rfl hps rfl (hyy.mono ?_);rintro _ _ ⟨rfl,rfl⟩;refine ⟨Nat.le_refl _,?_⟩;cases n with
 |zero=>
  (refine zc ?_;conv=>whnf);rw [<-i1] at hK;exact hK _ _ rfl
 |succ n=>
  have hw:IntKind.i64.wrap (((n+1:Nat):Int)-1)=(n:Int):=by rw [zt (by omega) (by omega)];omega
  have hnx:=ih (c,zvp c,n) ⟨by rw [<-i1];exact yde n c,zvq _,by simp only;omega⟩ (by simp only;omega);have h0:0<((n+1:Nat):Int):=by omega
  (refine zc ?_;conv=>whnf)
  repeat' ((with_reducible refine way ?_ ?_)<;>(intro h;conv=>whnf))
  all_goals try (exfalso;omega)
  refine zd rfl  c1 ?_;(refine zj [777,13] 1000 ?_;conv=>whnf);refine wx rfl rfl rfl rfl rfl (by rw [ju];decide) ?_;(refine zc ?_;conv=>whnf);refine zd rfl  c2 ?_;(refine zc ?_;conv=>whnf);rw [hw];exact zg [0,1,2] hnx
theorem zzk (c n:Nat) (hc:c<18446744073709551616) (hn:n<=15):zq Tryz.prog G37 87 [yg c,sI n] (yg (chainN n c)):=by
 refine zh Tryz.func87 rfl (by rw [Tryz.ntmps87];simp) rfl rfl ?_;intro E hH hK;(refine ze ?_;conv=>whnf);refine zv rfl rfl rfl rfl rfl rfl ((yiu G37 c n _).mono ?_);rintro _ _ ⟨rfl,rfl⟩;refine ⟨by simp,?_⟩;(refine zc ?_;conv=>whnf);refine zg [5,9] ?_;change SW E _ [(5,.ptr 0 0),(9,.fn (.func 164) [] [.ptr 1 0,.ptr 2 0])] [.cells [yg (0:Nat)],.cells [yg c],.cells [sI n]];refine zco rfl rfl ?_;refine (zwb (tL:=[(5,.ptr 0 0),(9,.fn (.func 164) [] [.ptr 1 0,.ptr 2 0])]) rfl ?_ 0 c n hc hn).mono ?_
 ·intro r c n hc
  refine zcp (b:=3) rfl E.hfn rfl (by decide) ?_;intro E3 hl3 hOwn hKR;(refine ze ?_;conv=>whnf);refine zke hOwn rfl ?_;(refine ze ?_;conv=>whnf);exact hKR none _ _ (Nat.le_refl _) rfl ⟨rfl,rfl⟩
 ·rintro r H' rfl
  refine ⟨Nat.le_refl _,.ready,_,rfl,.inl ⟨rfl,?_⟩⟩;(refine ze ?_;conv=>whnf);exact hK _
def yyh (seed:ByteArray) (j k:Int):ByteArray:=⟨#[3]⟩++wu j++⟨#[32]⟩++wu k++⟨#[32]⟩++seed
def yfz (seed:ByteArray) (j k:Int):Nat:=qi (yyh seed j k)
theorem zqr (seed:ByteArray) (j k:Int) (hs:seed.size<=1000000000000) (hj:0<=j/\j<=1000000000) (hk:0<=k/\k<=1000000000):zq Tryz.prog G37 88 [sS seed,sI j,sI k] (yg (yfz seed j k)):=by
 have c1:=zsh jz j (by omega) (by omega);have c2:=zsh jz k (by omega) (by omega);have z1:=xh j (by omega) (by omega);have z2:=xh k (by omega) (by omega);have c3:=zak G37 (yyh seed j k) (by unfold yyh;simp only [ByteArray.size_append];show 1+(wu j).size+1+(wu k).size+1+seed.size<=_;omega);change zq _ _ _ _ (yg (yfz seed j k)) at c3;unfold yyh at c3;generalize yfz seed j k=r at c3 ⊢;generalize wu j=sj at*;generalize wu k=sk at*;refine zh Tryz.func88 rfl (by rw [Tryz.ntmps88];simp) rfl rfl ?_;intro E hH hK;(refine ze ?_;conv=>whnf);refine zd rfl  c1 ?_;refine wx rfl rfl rfl rfl rfl (by show 1+sj.size<=_;omega) ?_;refine wx rfl rfl rfl rfl rfl (by simp only [ByteArray.size_append];show 1+sj.size+1<=_;omega) ?_;(refine zj [777,13] 1000 ?_;conv=>whnf);refine zd rfl  c2 ?_;refine wx rfl rfl rfl rfl rfl (by simp only [ByteArray.size_append];show 1+sj.size+1+sk.size<=_;omega) ?_;refine wx rfl rfl rfl rfl rfl (by simp only [ByteArray.size_append];show 1+sj.size+1+sk.size+1<=_;omega) ?_;(refine zj [777,16] 1000 ?_;conv=>whnf);refine wx rfl rfl rfl rfl rfl (by simp only [ByteArray.size_append];show 1+sj.size+1+sk.size+1+seed.size<=_;omega) ?_;refine zd rfl  c3 ?_;(refine zc ?_;conv=>whnf);exact hK _
end Go.Proofs.YtjnddlifnkgncaaGreatDoor
namespace Go.Sh
section
variable {P:Program} {G:List (Nat × D)} {w:World} {I:Imm} {β:List Bnd} {H:List SObj}
section
variable {sT xT ty e:TypeId} {k by_:Nat} {z:Value}
variable (hu:P.underlying sT=some (.slice e)) (hx:P.underlying xT=some .string) (hk:xe P e=some k) (hby:js P e=some by_) (hz:jx P e=some z)
include hu hx hk
theorem zgg {n cap m c:Nat} {xv:Value} {B:List Value} {cur:Array Value} {T:TypeId} (hxl:∃s0:ByteArray,xv= .string s0/\s0.size=m) (hxc:(Builtin.firstCells k m xv).run P w= .ok B.toArray w)
  (hfit:n+m<=cap) (hg:w.heap[c]?=some (.cells cur T (0,0))) (hB:B.length=m*k) (hone:∀x∈B,x.oneCell'=true) (hcur:cur.size=cap*k):
  (Builtin.append_ #[sT,xT] ty #[.slice (some ⟨c,0,none⟩) n cap,xv]).run P w=
   .ok (.slice (some ⟨c,0,none⟩) (n+m) cap) (w.setRow c (cur.toList.take (n*k)++B++cur.toList.drop (n*k+m*k)).toArray):=by
 obtain ⟨s0,rfl,hs0⟩:=hxl;have hle:n*k+m*k<=cur.size:=by rw [hcur, <-Nat.add_mul];exact Nat.mul_le_mul_right k hfit
 have hst:=run_storeCells_at (P:=P) c (n*k) T B 0 cur w hg (by rw [hB];omega) hone;simp only [Nat.add_zero,hB] at hst;simp only [Builtin.append_,Sem.run_bind,run_underlying hu,Result.andThen_ok,ys hk,run_underlying hx,Sem.run_pure,Bool.false_eq_true,if_false,Builtin.lenOf,hs0,hfit,if_true,Bool.not_false,hxc,qe,Nat.zero_add,hst,List.getElem?_toArray,List.getElem?_cons_zero,List.getElem?_cons_succ]
theorem znn {ty:TypeId} {xv:Value} (hxl:∃s0:ByteArray,xv= .string s0/\s0.size=0) (hxc:(Builtin.firstCells k 0 xv).run P w= .ok #[] w):
  (Builtin.append_ #[sT,xT] ty #[.slice none 0 0,xv]).run P w= .ok (.slice none 0 0) w:=by
 obtain ⟨s0,rfl,hs0⟩:=hxl;simp only [Builtin.append_,Sem.run_bind,run_underlying hu,Result.andThen_ok,ys hk,run_underlying hx,Sem.run_pure,Bool.false_eq_true,if_false,Builtin.lenOf,hs0,Nat.add_zero,Nat.le_refl,if_true,Bool.not_false,hxc,List.getElem?_toArray,List.getElem?_cons_zero,List.getElem?_cons_succ]
include hby hz
theorem zla {ty:TypeId} {n cap m:Nat} {base:Option Addr} {xv:Value} {A B:List Value} (hxl:∃s0:ByteArray,xv= .string s0/\s0.size=m) (hxc:∀w':World,w'.heap=w.heap->(Builtin.firstCells k m xv).run P w'= .ok B.toArray w')
  (hsc:∀w':World,w'.heap=w.heap->(Builtin.firstCells k n (.slice base n cap)).run P w'= .ok A.toArray w') (hgrow:¬n+m<=cap) (hsmall:n+m<=4611686018427387904) (hcap:(2*(n+m)+192)*by_<=281474976710656):
  ∃newCap rest,n+m<=newCap/\newCap<=maxLen/\rest=Builtin.zeroCells z.cells (newCap-(n+m))/\
   (Builtin.append_ #[sT,xT] ty #[.slice base n cap,xv]).run P w= .ok (.slice (some ⟨w.heap.size,0,none⟩) (n+m) newCap) (w.drew.alloc (.cells (A.toArray++B.toArray++rest) e)):=by
 obtain ⟨s0,rfl,hs0⟩:=hxl;have hinfo:(typeInfo e).run P w= .ok ((P.info? e).getD default) w/\((P.info? e).getD default).bytes=by_:=by
  unfold js at hby;cases hi:P.info? e with
  |none=>simp [hi] at hby
  |some i=>simp [hi] at hby;simp [typeInfo,hi,hby]
 have hinfo2:(typeInfo e).run P w.drew= .ok ((P.info? e).getD default) w.drew:=by
  unfold js at hby;cases hi:P.info? e with
  |none=>simp [hi] at hby
  |some i=>simp [typeInfo,hi]
 have hmax:¬((n+m:Nat):Int)>IntKind.i64.max:=by
  have:IntKind.i64.max=9223372036854775807:=by decide
  rw [this];omega
 have hcapb:¬Builtin.nextslicecap (n+m) cap*by_>2 ^ 48:=by
  have h1:=zgl hgrow;have h2:Builtin.nextslicecap (n+m) cap*by_<=(2*(n+m)+192)*by_:=Nat.mul_le_mul_right _ h1;omega
 refine ⟨Question.cut (.appendCap (n+m) cap e) (w.tape w.drawn (.appendCap (n+m) cap e)),_,?_,?_,rfl,?_⟩
 ·simp [Question.cut]
 ·unfold maxLen
  simp only [Question.cut];have:w.tape w.drawn (.appendCap (n+m) cap e) % (2 ^ 63-(n+m))<2 ^ 63-(n+m):=Nat.mod_lt _ (by omega);omega
 ·have hx':=hxc w.drew rfl
  have hs':=hsc w.drew rfl
  simp only [Builtin.append_,Sem.run_bind,run_underlying hu,Result.andThen_ok,ys hk,run_underlying hx,Sem.run_pure,Builtin.lenOf,hs0,hgrow,Bool.false_eq_true,if_false,
   Bool.not_false,if_true,hinfo.1,List.getElem?_toArray,List.getElem?_cons_zero,List.getElem?_cons_succ,false_or]
  rw [if_neg (fun h=>hmax h.1)];simp only [Sem.run_bind,Result.andThen_ok,hinfo.1,hinfo.2];rw [if_neg hcapb];simp only [Sem.run_bind,Sem.run_pure,run_choose,Question.forced,Bool.false_eq_true,if_false,World.drew_eq,Result.andThen_ok,hinfo2,run_askRoom,hs',hx',zae hz,newRow,run_newObj,World.alloc_eq,World.size_drew]
end
theorem zno {sT xT ty e : TypeId} {by_ : Nat} {z : Value} {xv : Value} {new : List (List D)}
    (hu : P.underlying sT = some (.slice e)) (hxu : P.underlying xT = some .string) (hk : xe P e = some 1) (hby : js P e = some by_) (hz : jx P e = some z)
    (hzk : z.cells.size = 1) (hxl : ∃ s0 : ByteArray, xv = .string s0 /\ s0.size = new.length) :
    ∀ (w : World) (I : Imm) (β : List Bnd) (H : List SObj) (b n : Nat) (rows : List (List D)) (sv : Value) (B : List Value), HeapOK G w I β H -> Rep w I β sv (.asl b 1 rows) -> H[b]? = some (.btok e n) -> n = rows.length ->
      n + new.length <= 4611686018427387904 -> (2 * (n + new.length) + 192) * by_ <= 281474976710656 -> Flat w I 1 new B -> (∀ w' : World, (∀ c o, I c o -> w'.cell? ⟨c, o, none⟩ = w.cell? ⟨c, o, none⟩) -> (Builtin.firstCells 1 new.length xv).run P w' = .ok B.toArray w') ->
      ∃ u w' I' β', (Builtin.append_ #[sT, xT] ty #[sv, xv]).run P w = .ok u w' /\ Rep w' I' β' u (.asl b 1 (rows ++ new)) /\ HeapOK G w' I' β' (H.set b (.btok e (n + new.length))) /\
        ∀ m, Ext m w I β H w' I' β' (H.set b (.btok e (n + new.length))) := by
  intro w I β H b n rows sv B hH hs hb hn hsmall hcap hB hxc
  cases hs with
  | asl _ _ _ _ u n' hd hbu hus hle heq =>
  obtain ⟨ua, ucap, rfl⟩ := hus
  have hob := hH.obj b _ _ hb hbu
  have hn' : n' = n := by
    rcases hob with ⟨h1, h2⟩ | ⟨c, cap, vs, h1, _⟩
    · cases h2; exact h1.symm
    · cases h1; rfl
  subst hn'
  have hsv := heq hn.symm
  subst hsv
  have hblt := lt_of_getElem? hb
  have hbxlt := lt_of_getElem? hbu
  obtain ⟨A, hA, hsl, hsc⟩ := hd.flat (P := P)
  have hlenR : (rows ++ new).length = n' + new.length := by simp [hn]
  by_cases hm0 : new.length = 0
  · -- nothing is appended
    have hnil : new = [] := List.length_eq_zero_iff.1 hm0
    subst hnil
    have hrun : (Builtin.append_ #[sT, xT] ty #[.slice ua n' ucap, xv]).run P w = .ok (.slice ua n' ucap) w := by
      have hBn : B = [] := List.length_eq_zero_iff.1 (by rw [hB.len]; simp)
      subst hBn
      rcases hob with ⟨h1, h2⟩ | ⟨c, cap, vs, h1, h2, h3, h4, h5, h6⟩
      · cases h2
        exact znn hu hxu hk hxl (by simpa using hxc w (fun _ _ _ => rfl))
      · cases h1
        have := zgg (w := w) (ty := ty) hu hxu hk (n := n') (cap := ucap) (m := 0) (c := c) hxl (by simpa using hxc w (fun _ _ _ => rfl)) (by omega) h2 (by simp) (by simp) h3
        rw [this]
        have ee : (vs.toList.take (n' * 1) ++ [] ++ vs.toList.drop (n' * 1 + 0 * 1)).toArray = vs := by simp
        rw [ee, setRow_self w c vs e (0, 0) h2]
        simp
    refine ⟨_, w, I, β, hrun, ?_, ?_, ?_⟩
    · rw [List.append_nil]; exact .asl b 1 rows _ _ n' hd hbu ⟨_, _, rfl⟩ hle heq
    · rw [List.length_nil, Nat.add_zero, set_self hb]; exact hH
    · rw [List.length_nil, Nat.add_zero, set_self hb]; exact fun m => .refl
  · -- it grows, or there is room
    have grow : ¬ n' + new.length <= ucap -> (Bnd.tok (.slice ua n' ucap)).block = none \/ True ->
        ∃ u w' I' β', (Builtin.append_ #[sT, xT] ty #[.slice ua n' ucap, xv]).run P w = .ok u w' /\ Rep w' I' β' u (.asl b 1 (rows ++ new)) /\ HeapOK G w' I' β' (H.set b (.btok e (n' + new.length))) /\
          ∀ m, Ext m w I β H w' I' β' (H.set b (.btok e (n' + new.length))) := by
      intro hg _
      obtain ⟨newCap, rest, hc1, hc2, hrest, hrun⟩ := zla (w := w) (ty := ty) hu hxu hk hby hz (base := ua) (n := n') (cap := ucap) (A := A) (B := B) hxl (fun w' hw' => hxc w' (fun c o _ => by simp [World.cell?, hw']))
        (fun w' hw' => by have := hsc w' (fun c o _ => by simp [World.cell?, hw']); rw [<- hn] at this; exact this) hg hsmall hcap
      have hAs : A.length = n' * 1 := by rw [hA.len, hn]
      have hBs : B.length = new.length * 1 := hB.len
      have hrs : rest.size = (newCap - (n' + new.length)) * 1 := by rw [hrest]; simp [Builtin.zeroCells, hzk]
      have hvs : (A.toArray ++ B.toArray ++ rest).size = newCap * 1 := by
        simp only [Array.size_append, List.size_toArray, hAs, hBs, hrs]
        rw [<- Nat.add_mul, <- Nat.add_mul]; congr 1; omega
      have hsize : w.drew.heap.size = w.heap.size := rfl
      have hnewblk : (w.drew.alloc (.cells (A.toArray ++ B.toArray ++ rest) e)).heap[w.heap.size]? = some (.cells (A.toArray ++ B.toArray ++ rest) e (0, 0)) := yq (w := w.drew) _
      have hold : ∀ c, c < w.heap.size -> (w.drew.alloc (.cells (A.toArray ++ B.toArray ++ rest) e)).heap[c]? = w.heap[c]? := fun c hc => by
        show (w.heap.push _)[c]? = _
        rw [Array.getElem?_push, if_neg (by omega)]
      have hcell : ∀ c o, I c o -> (w.drew.alloc (.cells (A.toArray ++ B.toArray ++ rest) e)).cell? ⟨c, o, none⟩ = w.cell? ⟨c, o, none⟩ := fun c o hc => ye (hold c (hH.inI c o hc)) o
      have hIm : ∀ c o, I c o -> (I.plus w.heap.size ((n' + new.length) * 1)) c o := fun _ _ h => .inl h
      have hmv := fun m => hH.moveBtok (m := m) (n' := n' + new.length) (u' := .slice (some ⟨w.heap.size, 0, none⟩) (n' + new.length) newCap) (w' := w.drew.alloc (.cells (A.toArray ++ B.toArray ++ rest) e)) (I' := I.plus w.heap.size ((n' + new.length) * 1)) hb hbu ⟨_, _, _, _, rfl, rfl⟩ (by omega)
        (by simp) (fun c hc _ => hold c hc) hcell hIm
        (by rintro c o (hi | ⟨rfl, _⟩)
            · exact .inl hi
            · exact .inr rfl)
        (by rintro c o (hi | ⟨rfl, _⟩)
            · have := hH.inI c o hi; simp; omega
            · simp)
        (fun c hc => by cases hc; exact .inr (Nat.le_refl _))
        (.inr ⟨w.heap.size, newCap, _, rfl, hnewblk, hvs, hc1, hc2, fun o ho => by
          rintro (hi | ⟨_, hi⟩)
          · have := hH.inI _ o hi; omega
          · omega⟩)
      refine ⟨_, _, _, _, hrun, ?_, (hmv 0).1, fun m => (hmv m).2⟩
      refine .asl b 1 (rows ++ new) _ _ (n' + new.length) ?_ (List.getElem?_set_self hbxlt) ⟨_, _, rfl⟩ (by omega) (fun _ => rfl)
      refine ((hA.mono hIm hcell).append (hB.mono hIm hcell)).drep hlenR.symm (fun t ht => ⟨.inr ⟨rfl, ht⟩, ?_⟩) hc1 hc2
      rw [cell_of_heap hnewblk]
      have : t < A.length + B.length := by rw [hAs, hBs, <- Nat.add_mul]; exact ht
      rw [Array.getElem?_append_left (by simpa using this)]
      simp
    rcases hob with ⟨h1, h2⟩ | ⟨c, cap, vs, h1, h2, h3, h4, h5, h6⟩
    · cases h2
      exact grow (by omega) (.inr trivial)
    · cases h1
      by_cases hfit : n' + new.length <= ucap
      · have hrun := zgg (w := w) (ty := ty) hu hxu hk (n := n') (cap := ucap) (m := new.length) (c := c) hxl (hxc w (fun _ _ _ => rfl)) hfit h2 hB.len hB.one h3
        have hBs : B.length = new.length * 1 := hB.len
        obtain ⟨A', hA', _, _, _, hcells⟩ := hd.flatAt
        have hAs : A'.length = n' * 1 := by rw [hA'.len, hn]
        have hle2 : n' * 1 + new.length * 1 <= vs.size := by rw [h3, <- Nat.add_mul]; exact Nat.mul_le_mul_right 1 hfit
        generalize hW : w.setRow c (vs.toList.take (n' * 1) ++ B ++ vs.toList.drop (n' * 1 + new.length * 1)).toArray = W at hrun
        have hnb : W.heap[c]? = some (.cells (vs.toList.take (n' * 1) ++ B ++ vs.toList.drop (n' * 1 + new.length * 1)).toArray e (0, 0)) := by rw [<- hW]; exact setRow_heap w c vs _ e _ h2
        have hother : ∀ c', c' ≠ c -> W.heap[c']? = w.heap[c']? := by
          intro c' hne
          rw [<- hW]; simp [World.setRow, Array.getElem?_modify, Ne.symm hne]
        have hsz : W.heap.size = w.heap.size := by rw [<- hW]; simp [World.setRow]
        have hlow : ∀ o, o < n' * 1 -> W.cell? ⟨c, o, none⟩ = w.cell? ⟨c, o, none⟩ := by
          intro o ho
          rw [cell_of_heap hnb, cell_of_heap h2]
          simp only [List.getElem?_toArray, List.append_assoc]
          rw [List.getElem?_append_left (by simp; omega), List.getElem?_take, if_pos ho]
          simp
        have hcell : ∀ c' o, I c' o -> W.cell? ⟨c', o, none⟩ = w.cell? ⟨c', o, none⟩ := by
          intro c' o hi
          by_cases e : c' = c
          · subst e
            exact hlow o (Nat.lt_of_not_le fun h => h6 o h hi)
          · exact ye (hother c' e) o
        have hIm : ∀ c' o, I c' o -> (fun b' o => I b' o \/ (b' = c /\ n' * 1 <= o /\ o < (n' + new.length) * 1)) c' o := fun _ _ h => .inl h
        have hmv := fun m => hH.moveBtok (m := m) (n' := n' + new.length) (u' := .slice (some ⟨c, 0, none⟩) (n' + new.length) ucap) (w' := W) (I' := fun b' o => I b' o \/ (b' = c /\ n' * 1 <= o /\ o < (n' + new.length) * 1)) hb hbu ⟨_, _, _, _, rfl, rfl⟩ (by omega)
          (by omega) (fun c' _ hne => hother c' (fun e => hne (by rw [e]; rfl))) hcell hIm
          (by rintro c' o (hi | ⟨rfl, _⟩)
              · exact .inl hi
              · exact .inr rfl)
          (by rintro c' o (hi | ⟨rfl, _⟩)
              · rw [hsz]; exact hH.inI c' o hi
              · rw [hsz]; exact xw h2)
          (fun c' hc => by cases hc; exact .inl rfl)
          (.inr ⟨c, ucap, _, rfl, hnb, by simp only [List.size_toArray, List.length_append, List.length_take, List.length_drop, Array.length_toList, hBs]; omega, hfit, h5, fun o ho => by
            rintro (hi | ⟨_, _, hi⟩)
            · exact h6 o (Nat.le_trans (Nat.mul_le_mul_right 1 (Nat.le_add_right _ _)) ho) hi
            · omega⟩) (by rw [<- hW]; exact ⟨rfl, rfl⟩)
        refine ⟨_, W, _, _, hrun, ?_, (hmv 0).1, fun m => (hmv m).2⟩
        refine .asl b 1 (rows ++ new) _ _ (n' + new.length) ?_ (List.getElem?_set_self hbxlt) ⟨_, _, rfl⟩ (by omega) (fun _ => rfl)
        refine ((hA'.mono hIm hcell).append (hB.mono hIm hcell)).drep hlenR.symm (fun t ht => ?_) hfit h5
        rcases Nat.lt_or_ge t (n' * 1) with hlt | hge
        · have := hcells t (by rw [<- hn]; exact hlt)
          rw [Nat.zero_add] at this
          exact ⟨.inl this.1, by rw [hlow t hlt, this.2, List.getElem?_append_left (by omega)]⟩
        · refine ⟨.inr ⟨rfl, hge, ht⟩, ?_⟩
          rw [cell_of_heap hnb]
          have hlt2 : t - n' * 1 < B.length := by rw [hBs]; rw [Nat.add_mul] at ht; omega
          rw [List.getElem?_append_right (by omega), hAs]
          simp only [List.getElem?_toArray, List.append_assoc]
          have hlt3 : (List.take (n' * 1) vs.toList).length = n' * 1 := by simp; omega
          rw [List.getElem?_append_right (by omega), hlt3, List.getElem?_append_left hlt2]
      · exact grow hfit (.inr trivial)
end
theorem yiv (w:World) (I:Imm) (l:List UInt8):Flat w I 1 (l.map fun c=>[D.val (.int .u8 c.toNat)]) (l.map fun c=>Value.int .u8 c.toNat):=by
 refine ⟨by simp,fun i hi=>by simp,fun v hv=>?_,fun i j hi hj x hx=>?_⟩
 ·obtain ⟨c,_,rfl⟩:=List.mem_map.1 hv
  rfl
 ·have hj0:j=0:=by simp at hj;omega
  subst hj0;simp only [Nat.mul_one,Nat.add_zero,List.getElem?_map] at hx;have hil:i<l.length:=by simpa using hi
  rw [List.getElem?_eq_getElem hil] at hx;simp only [Option.map_some,Option.some.injEq] at hx;subst hx;simp only [List.getElem_map,List.getElem_cons_zero];exact .val _
section
variable {P:Program} {G:List (Nat × D)} {fn:Func} {rd:Bool} {E:En P G fn rd} {t:List (Nat × SV)} {H:List SObj} {k:List Item} {all:Array Oper} {rest:List Oper} {o:Oper}
theorem zqs {b by_ e:Nat} {z:Value} {sx xx:Operand} {sT xT:Nat} {rows:List (List D)} {s:ByteArray} (hop:o.op= .call ⟨.builtin .append,#[sx,xx],#[sT,xT]⟩)
  (hw:zu all t o.guard=some true) (hd:yb fn.ntmps o.dst=true) (hs:zl G t sx= .asl b 1 rows) (hx:zl G t xx= .imm (.val (.string s))) (hu:P.underlying sT=some (.slice e)) (hu':P.underlying xT=some .string)
  (hk:xe P e=some 1) (hby:js P e=some by_) (hz:jx P e=some z) (hcond:by_<=65536/\z.cells.size=1) (hb:H[b]?=some (.btok e rows.length)) (hlen:rows.length+s.size<=1073741824)
  (h:SWr E all rest k (xj t o.dst (.asl b 1 (rows++s.data.toList.map fun c=>[D.val (.int .u8 c.toNat)]))) (H.set b (.btok e (rows.length+s.size)))):SWr E all (o::rest) k t H:=by
 refine qq (r:=.asl b 1 (rows++s.data.toList.map fun c=>[D.val (.int .u8 c.toNat)])) (H':=H.set b (.btok e (rows.length+s.size))) hw hd (fun c e=>by rw [hop] at e;cases e) (by simp) (fun ρ w I β hH hev=>?_) h;obtain ⟨dst,op,type,pos,after,guard⟩:=o;simp only at hop;subst hop;have h1:=hev sx;rw [hs] at h1;have h2:=hev xx;rw [hx] at h2;generalize hxv:ρ xx=xv at h2;cases h2 with|imm h2=>cases h2 with|val _=>
 have hl:(s.data.toList.map fun c=>[D.val (.int .u8 c.toNat)]).length=s.size:=by simp
 have hcap:(2*(rows.length+s.size)+192)*by_<=281474976710656:=by
  have h2:(2*(rows.length+s.size)+192)*by_<=(2*1073741824+192)*65536:=Nat.mul_le_mul (by omega) hcond.1;omega
 obtain ⟨u,w',I',β',g1,g2,g3,g4⟩:=zno (ty:=type) (xv:=.string s) (new:=s.data.toList.map fun c=>[D.val (.int .u8 c.toNat)]) hu hu' hk hby hz hcond.2 ⟨s,rfl,hl.symm⟩ w I β H b _ rows (ρ sx) _ hH h1 hb rfl (by rw [hl];omega) (by rw [hl];exact hcap) (yiv w I _)
  (fun w' _=>by
   rw [hl];simp only [Builtin.firstCells,Sem.run_pure]
   congr 1
   apply Array.ext'
   simp)
 rw [hl] at g3 g4;refine OpRun.value (u:=u) ?_ g2 g3 (g4 _);show Sem.run P (Builtin.append_ #[sT,xT] type (Array.map ρ #[sx,xx])) w=_;rw [show Array.map ρ #[sx,xx]=#[ρ sx,ρ xx] by simp,hxv];exact g1
end
end Go.Sh
namespace Go.Proofs.YtjnddlifnkgncaaGreatDoor
open Go Go.Sh
theorem zal (G:List (Nat × D)) (l:List UInt8) (s:ByteArray) (hl:l.length+s.size<=1000000):SCall Tryz.prog G 93 [.ptr 0 0,sS s] (zrz l) (fun r H'=>r= .tup [sI s.size,.imm (.val .nilIface)]/\H'=zrz (l++s.data.toList)):=by
 refine ya Tryz.func93 rfl (by rw [Tryz.ntmps93];simp) fun E hH hK=>?_
 have e5:(l.map fun c=>[dU8 c])++(s.data.toList.map fun c=>[dU8 c])=(l++s.data.toList).map fun c=>[dU8 c]:=by simp
 have e6:(l.map fun c=>[dU8 c]).length+s.size=((l++s.data.toList).map fun c=>[dU8 c]).length:=by simp
 have hlm:(l.map fun c=>[dU8 c]).length=l.length:=by simp
 (refine ze ?_;conv=>whnf);refine zv rfl rfl rfl rfl rfl rfl ((yfg G (.asl 1 1 (l.map fun c=>[dU8 c])) rfl [.btok 5 (l.map fun c=>[dU8 c]).length]).mono fun r H' ⟨h1,h2⟩=>⟨by rw [h2];exact Nat.le_refl _,?_⟩);subst h1 h2;(refine zc ?_;conv=>whnf);refine zqs (b:=1) (rows:=l.map fun c=>[dU8 c]) (s:=s) rfl rfl rfl rfl rfl rfl rfl rfl rfl rfl ⟨show 1<=65536 by decide,rfl⟩ rfl (by rw [hlm];omega) ?_;refine Eq.mpr (congrArg (fun v=>SWr E _ _ _ (xj _ _ (.asl 1 1 v)) _) e5) ?_;refine Eq.mpr (congrArg (fun v=>SWr E _ _ _ _ (List.set _ 1 (.btok 5 v))) e6) ?_;(refine zc ?_;conv=>whnf);exact hK _ _ ⟨rfl,rfl⟩
theorem zwc (G:List (Nat × D)) (s:ByteArray) (hl:s.size<=1000000):SCall Tryz.prog G 93 [.ptr 0 0,sS s] [.bld 161] (fun r H'=>r= .tup [sI s.size,.imm (.val .nilIface)]/\H'=zrz s.data.toList):=by
 refine ya Tryz.func93 rfl (by rw [Tryz.ntmps93];simp) fun E hH hK=>?_
 have e6:0+s.size=(s.data.toList.map fun c=>[dU8 c]).length:=by simp
 (refine ze ?_;conv=>whnf);refine zv rfl rfl rfl rfl rfl rfl ((zps G).mono fun r H' ⟨h1,h2⟩=>⟨by rw [h2];exact Nat.le_refl _,?_⟩);subst h1 h2;refine yw (fun _ h=>zpr 0 1 5 (cs:=[.ptr 0 0,yuo]) rfl rfl h) ?_;change SWr E _ _ _ _ [.cells [.ptr 0 0,.asl 1 1 []],.btok 5 0];(refine zc ?_;conv=>whnf);refine zqs (b:=1) (rows:=[]) (s:=s) rfl rfl rfl rfl rfl rfl rfl rfl rfl rfl ⟨show 1<=65536 by decide,rfl⟩ rfl (by simp;omega) ?_;refine Eq.mpr (congrArg (fun v=>SWr E _ _ _ _ (List.set _ 1 (.btok 5 v))) e6) ?_;(refine zc ?_;conv=>whnf);exact hK _ _ ⟨rfl,rfl⟩
theorem ynf (G:List (Nat × D)) (n:Nat) (hn:n<=281474976710656):SCall Tryz.prog G 194 [.ptr 0 0,sI n] [.cells [.ptr 0 0,yuo]] (fun r H'=>r= .tup []/\H'=[.cells [.ptr 0 0,.asl 1 1 []],.btok 5 0]):=by
 intro w I β vs hH hv;obtain ⟨a,b,e1,ha,hb⟩:=hv.two;cases ha with
 |ptr _ c _ hc=>
 cases hb with|imm hb=>
 cases hb with|val _=>
 obtain rfl:vs=#[.pointer (some ⟨c,0,none⟩),.int .i64 n]:=by
  apply Array.ext'
  rw [e1]
 obtain ⟨us,T,h1,h2,h3,h4⟩:=hH.obj 0 _ _ rfl hc;have hβl:β.length=1:=hH.len;have h2:us.size=2:=h2;have q0:=h3 0 (by decide) (by omega);have q1:=h3 1 (by decide) (by omega);obtain ⟨p,hp⟩:∃p,p=us[0]'(by omega):=⟨_,rfl⟩;have hus:us=#[p,.slice none 0 0]:=by
  apply Array.ext
  ·rw [h2];rfl
  ·intro j hj hj'
   match j,hj with
   |0,_=>exact hp.symm
   |1,_=>
    have q1':Rep w I β (us[1]'(by omega)) yuo:=q1;generalize us[1]'(by omega)=u at q1' ⊢;cases q1' with|imm q=>cases q;rfl
   |j+2,hj=>omega
 have q0:Rep w I β p (.ptr 0 0):=by rw [hp];exact q0
 subst hus;have hlt:c<w.heap.size:=xw h1;refine (yir c n p T w h1 hn).mono ?_;rintro e w' ⟨rfl,cs,hle,hm,rfl⟩;obtain ⟨v,hv'⟩:∃v,v=Value.slice (some ⟨w.heap.size,0,none⟩) 0 cs.size:=⟨_,rfl⟩;rw [<-hv'];have hs1:(w.setCell ⟨c,1,none⟩ v).heap.size=w.heap.size:=by simp [World.setCell]
 obtain ⟨W,hW⟩:∃W,W=((w.setCell ⟨c,1,none⟩ v).alloc (.cells cs 5)).drew.drew.drew:=⟨_,rfl⟩;have hWh:W.heap=(w.setCell ⟨c,1,none⟩ v).heap.push (.cells cs 5):=by rw [hW];rfl
 have hWe:zeh w W:=by rw [hW];exact ⟨rfl,rfl⟩
 rw [<-hW];clear hW;have hsz:W.heap.size=w.heap.size+1:=by rw [hWh,Array.size_push,hs1]
 have hW0:W.heap[c]?=some (.cells #[p,v] T (0,0)):=by
  rw [hWh,Array.getElem?_push,if_neg (by omega)];simp [World.setCell,Array.getElem?_modify,h1]
 have hW1:W.heap[w.heap.size]?=some (.cells cs 5 (0,0)):=by
  rw [hWh,Array.getElem?_push,if_pos (by omega)]
 have hold:∀c',c'<w.heap.size->c'≠c->W.heap[c']?=w.heap[c']?:=fun c' hc' hne=>by
  rw [hWh,Array.getElem?_push,if_neg (by omega)];simp [World.setCell,Array.getElem?_modify,Ne.symm hne]
 have hcell:∀c' o,I c' o->W.cell? ⟨c',o,none⟩=w.cell? ⟨c',o,none⟩:=fun c' o hi=>ye (hold c' (hH.inI c' o hi) (fun e=>h4 o (e ▸ hi))) o
 have o0:wv [SObj.cells [.ptr 0 0,yuo]] β 0 c:=⟨_,_,rfl,by simp,hc,rfl⟩;have hb0:(β++[Bnd.tok v])[0]?=some (.blk c):=by rw [List.getElem?_append_left (by omega)];exact hc
 have hb1:(β++[Bnd.tok v])[1]?=some (.tok v):=by rw [List.getElem?_append_right (by omega),hβl];rfl
 have hown:∀b c',wv [SObj.cells [.ptr 0 0,.asl 1 1 []],.btok 5 0] (β++[Bnd.tok v]) b c'->(b=0/\c'=c)\/(b=1/\c'=w.heap.size):=by
  rintro b c' ⟨o,x,g1,g2,g3,g4⟩
  match b,g1 with
  |0,_=>rw [hb0] at g3;cases g3;cases g4;exact .inl ⟨rfl,rfl⟩
  |1,_=>rw [hb1] at g3;cases g3;rw [hv'] at g4;cases g4;exact .inr ⟨rfl,rfl⟩
 refine ⟨_,.tup [],I,β++[.tok v],_,rfl,⟨rfl,rfl⟩,.tup #[] [] rfl (fun j h=>by simp at h),⟨by simp [hβl],fun b o x g1 g2=>?_,fun b b' c' g1 g2=>?_,fun c' o hi=>by rw [hsz];have:=hH.inI c' o hi;omega,fun gg d hg=>(hH.glob gg d hg).mono (fun _ _ h=>h) hcell⟩,?_⟩
 ·match b,g1 with
  |0,g1=>
   cases g1;rw [hb0] at g2;cases g2;refine ⟨#[p,v],T,hW0,rfl,fun j hj hj'=>?_,h4⟩
   match j,hj with
   |0,_=>exact q0.mono (fun _ _ h=>h) hcell (.push _ _ _)
   |1,_=>
    refine Rep.asl 1 1 [] v v 0 ?_ hb1 ⟨_,_,hv'⟩ (Nat.le_refl _) (fun _=>rfl);rw [hv'];exact DRep.isl w.heap.size 0 cs.size 1 [] (fun _ _=>undef) (Nat.zero_le _) hm (fun i h=>by simp at h) (fun i j h=>by simp at h) (fun i j h=>by simp at h)
  |1,g1=>
   cases g1;rw [hb1] at g2;cases g2;exact .inr ⟨w.heap.size,cs.size,cs,hv',hW1,(Nat.mul_one _).symm,Nat.zero_le _,hm,fun o _ hi=>Nat.lt_irrefl _ (hH.inI _ o hi)⟩
 ·rcases hown _ _ g1 with ⟨rfl,rfl⟩|⟨rfl,rfl⟩
  ·rcases hown _ _ g2 with ⟨rfl,_⟩|⟨_,e⟩
   ·rfl
   ·omega
  ·rcases hown _ _ g2 with ⟨_,e⟩|⟨rfl,_⟩
   ·omega
   ·rfl
 ·exact {imm:=fun _ _ h=>h,cell:=hcell,keep:=.push _ _ _,old:=fun c' hc' hn=>hold c' hc' (fun e=>hn 0 (e ▸ o0)),own:=fun b c' h=>(hown b c' h).elim (fun ⟨_,e⟩=>.inl ⟨0,e ▸ o0⟩) (fun ⟨_,e⟩=>.inr (by omega)),new:=fun _ _ h=>.inl h,size:=by omega,env:=hWe}
def yr (l:List ByteArray):D:=.isl 1 (l.map fun s=>[dS s])
def zcb:List Nat->List Nat
 |a::b::r=>zce a b::zcb r
 |l=>l
theorem zcq:∀l:List Nat,(zcb l).length=(l.length+1) / 2
 |[]=>rfl
 |[_]=>by simp [zcb]
 |a::b::r=>by
  rw [zcb,List.length_cons,zcq r];simp only [List.length_cons];omega
def qg:Nat->List Nat->List (List Nat)
 |0,r=>[r]
 |f+1,r=>if 1<r.length then r::qg f (zcb r) else [r]
theorem ztw (f:Nat) {r:List Nat} (h:¬1<r.length):qg f r=[r]:=by
 cases f with
 |zero=>rfl
 |succ f=>rw [qg,if_neg h]
theorem zqt {f:Nat} {r:List Nat} (hf:r.length<=f) (h:1<r.length):∃f',qg f r=r::qg f' (zcb r)/\(zcb r).length<=f':=by
 obtain ⟨f,rfl⟩:∃f',f=f'+1:=⟨f-1,by omega⟩;refine ⟨f,by rw [qg,if_pos h],?_⟩;rw [zcq];omega
theorem zwd {l:List Nat} (h:∀x∈l,x<18446744073709551616):∀x∈zcb l,x<18446744073709551616:=by
 match l,h with
 |[],h=>exact h
 |[_],h=>exact h
 |a::b::r,h=>
  intro x hx;rw [zcb] at hx;rcases List.mem_cons.1 hx with rfl|hx
  ·exact zab _
  ·exact zwd (fun y hy=>h y (by simp [hy])) x hx
theorem zwe (G:List (Nat × D)) (s:ByteArray) (hs:s.size<=1000000000000):zq Tryz.prog G 131 [sS s] (sS (⟨#[0]⟩++s)):=by
 refine zh Tryz.func131 rfl (by rw [Tryz.ntmps131];simp) rfl rfl ?_;intro E hH hK;(refine zm [777,4] 1000 ?_;conv=>whnf);refine wx rfl rfl rfl rfl rfl (by show 1+s.size<=_;omega) ?_;(refine zc ?_;conv=>whnf);exact hK _
theorem zqu (G:List (Nat × D)) (l:List ByteArray) (h1:1<=l.length) (h2:l.length<=1024):zq Tryz.prog G 91 [.imm (yr l)] (sI (0:Nat)):=by
 have hl:(l.map fun s=>[dS s]).length=l.length:=by simp
 refine zh Tryz.func91 rfl (by rw [Tryz.ntmps91];simp) rfl rfl ?_;intro E hH hK;(refine ze ?_;conv=>whnf)
 repeat' ((with_reducible refine way ?_ ?_)<;>(intro h;conv=>whnf))
 all_goals try (exfalso;omega)
 exact hK _
theorem zzl (G:List (Nat × D)) (l:List ByteArray) (H:List SObj):SCall Tryz.prog G 92 [.imm (yr l)] H (fun r H'=>r= .fn (.func 130) [] [.ptr H.length 0]/\H'=H++[.cells [.imm (yr l)]]):=by
 refine ya Tryz.func92 rfl (by rw [Tryz.ntmps92];simp) ?_;intro E hH hK;(refine ze ?_;conv=>whnf);exact hK _ _ ⟨rfl,rfl⟩
structure RowH {σ:Type} (Hf:σ->List SObj) (N b L:Nat) (leaves:List ByteArray) (lp:SObj):Prop where
 len:∀s,(Hf s).length=N
 box:∀s,(Hf s)[b]?=some (.cells [.imm (yr leaves)])
 loop:∀s,(Hf s)[L]?=some lp
 und:∀s,(Hf s).all (SObj.under N)=true
 lb:b<N
 lL:L<N
theorem znb (G:List (Nat × D)) {σ:Type} {Hf:σ->List SObj} {N b L:Nat} {leaves:List ByteArray} {f:FuncId} {n:Nat} {tL:List (Nat × SV)} {ps:Array Tmp} {asg bd:Code} (hf:RowH Hf N b L leaves (.loop .ready f n tL ps asg bd)) (hps:1=ps.size) (step:σ->List Nat->σ)
  (hl1:1<=leaves.length) (hl2:leaves.length<=1024) (hsz:∀x∈leaves,x.size<=1000000000000)
  (Iv:σ->List Nat->Prop) (hiv:∀s row,Iv s row->Iv (step s row) (zcb row))
  (hy:∀s row,Iv s row->1<=row.length->row.length<=1024->(∀x∈row,x<18446744073709551616)->SYield Tryz.prog G L [.imm (xq row)] (Hf s) (fun res H'=>res=true/\N<=H'.length/\H'.take N=Hf (step s row)))
  (s0:σ) (h0:Iv s0 (leaves.map qs)):
  SCall Tryz.prog G 130 [.yld L,.ptr b 0] (Hf s0) (fun _ H'=>N<=H'.length/\H'.take N=Hf ((qg 1024 (leaves.map qs)).foldl step s0)):=by
 refine ya Tryz.func130 rfl (by rw [Tryz.ntmps130];simp) ?_;intro E hH hK;rw [hf.len] at hH;have hlN:=hf.lL;have hbN:=hf.lb;have hlm:(leaves.map fun s=>[dS s]).length=leaves.length:=by simp
 have hund:=hf.und s0;have hlen:=hf.len s0;(refine zm [777,8] 1000 ?_;conv=>whnf);refine wh (v:=.imm (yr leaves)) rfl rfl rfl rfl (hf.box _) rfl ?_;(refine zc ?_;conv=>whnf);refine zin (n:=3) (kk:=1) rfl ?_;refine zg [0,3,8,9,10] ?_;rw [hlen];change SW E _ [(0,.yld L),(3,.asl N 1 (([]:List Nat).map fun n=>[dU n])),(8,.imm (yr leaves)),(9,sI (leaves.map fun s=>[dS s]).length),(10,sI (0:Nat))] (Hf s0++[.tok 1 (([]:List Nat).map fun n=>[dU n]).length]);refine zp leaves (fun i (l:List Nat)=>[(0,.yld L),(3,.asl N 1 (l.map fun n=>[dU n])),(8,.imm (yr leaves)),(9,sI (leaves.map fun s=>[dS s]).length),(10,sI i)]) (fun _ l=>Hf s0++[.tok 1 (l.map fun n=>[dU n]).length]) (fun done rest l=>l=done.map qs) [] rfl ?_ ?_
 ·rintro l h
  have h:l=leaves.map qs:=h;subst h;(refine ze ?_;conv=>whnf)
  repeat' ((with_reducible refine way ?_ ?_)<;>(intro h;conv=>whnf))
  all_goals try (exfalso;omega)
  refine zdr ?_;refine yz [0,3] N (by omega) (by simp [hlen]) (by show ((decide (L<N))&&(true&&true))=true;simp;omega) (by rw [List.take_append_of_le_length (by omega),List.take_of_length_le (by omega)];exact hund) ?_;rw [List.take_append_of_le_length (by omega),List.take_of_length_le (by omega)];obtain ⟨row0,hrow0⟩:∃r,r=leaves.map qs:=⟨_,rfl⟩;rw [<-hrow0] at h0 hK;change SW E _ [(0,.yld L),(3,.imm (xq (leaves.map qs)))] (Hf s0);rw [<-hrow0];have hr1:1<=row0.length:=by rw [hrow0,List.length_map];exact hl1
  have hr2:row0.length<=1024:=by rw [hrow0,List.length_map];exact hl2
  have hr3:∀x∈row0,x<18446744073709551616:=by
   rw [hrow0];intro x hx;obtain ⟨y,_,rfl⟩:=List.mem_map.1 hx;exact zab _
  generalize hR:(qg 1024 row0).foldl step s0=R at hK;refine yy (σ:=σ × List Nat × Nat) (fun y=>[(0,.yld L),(3,.imm (xq y.2.1))]) (fun y=>Hf y.1)
   (fun y=>(qg y.2.2 y.2.1).foldl step y.1=R/\Iv y.1 y.2.1/\y.2.1.length<=y.2.2/\1<=y.2.1.length/\y.2.1.length<=1024/\(∀x∈y.2.1,x<18446744073709551616)) (fun y=>y.2.1.length) ?_ (s0,row0,1024) ⟨hR,h0,hr2,hr1,hr2,hr3⟩
  clear hR h0 hr1 hr2 hr3 hrow0 hund hlen;rintro ⟨s,row,fu⟩ ⟨i1,i2,i3,i4,i5,i6⟩ ih;simp only at i1 i2 i3 i4 i5 i6;change SW E _ [(0,.yld L),(3,.imm (xq row))] (Hf s);have hrl:(row.map fun n=>[dU n]).length=row.length:=by simp
  have hyy:=hy s row i2 i4 i5 i6;have hund:=hf.und (step s row);have hlen:=hf.len (step s row);(refine ze ?_;conv=>whnf);refine zpb rfl rfl rfl rfl (hf.loop s) hps rfl (hyy.mono ?_);rintro _ H' ⟨rfl,hl',ht⟩;refine ⟨by rw [hf.len];exact hl',?_⟩
  by_cases hmore:1<row.length
  ·obtain ⟨f',g1,g2⟩:=zqt i3 hmore
   rw [g1,List.foldl_cons] at i1;have hnext:=ih (step s row,zcb row,f') ⟨i1,hiv s row i2,g2,by simp only;rw [zcq];omega,by simp only;rw [zcq];omega,zwd i6⟩ (by simp only;rw [zcq];omega);clear i1 hyy ih;simp only at hnext;generalize step s row=s' at hnext ht hund hlen;(refine zc ?_;conv=>whnf)
   repeat' ((with_reducible refine way ?_ ?_)<;>(intro h;conv=>whnf))
   all_goals try (exfalso;omega)
   refine yz [0,3,6,7] N (by omega) hl' (by show ((decide (L<N))&&(true&&(true&&(true&&true))))=true;simp;omega) (by rw [ht];exact hund) ?_;rw [ht];refine zin (n:=6) (kk:=1) rfl ?_;rw [hlen];refine zg [0,3,6,7] ?_;change SW E _ [(0,.yld L),(3,.imm (xq row)),(6,.asl N 1 (([]:List Nat).map fun n=>[dU n])),(7,sI (0:Nat))] (Hf s'++[.tok 1 (([]:List Nat).map fun n=>[dU n]).length]);refine yy (σ:=List Nat × List Nat × Nat) (fun y=>[(0,.yld L),(3,.imm (xq row)),(6,.asl N 1 (y.1.map fun n=>[dU n])),(7,sI y.2.2)]) (fun y=>Hf s'++[.tok 1 (y.1.map fun n=>[dU n]).length])
    (fun y=>row.drop y.2.2=y.2.1/\zcb row=y.1++zcb y.2.1/\y.2.2+y.2.1.length=row.length/\y.1.length<=y.2.2/\y.2.2 % 2=0) (fun y=>y.2.1.length) ?_ ([],row,0) ⟨rfl,rfl,by simp,Nat.le_refl _,rfl⟩
   rintro ⟨nx,rs,i⟩ ⟨j1,j2,j3,j4,j5⟩ ih2;simp only at j1 j2 j3 j4 j5;change SW E _ [(0,.yld L),(3,.imm (xq row)),(6,.asl N 1 (nx.map fun n=>[dU n])),(7,sI i)] (Hf s'++[.tok 1 (nx.map fun n=>[dU n]).length]);have hget:∀j,row[i+j]?=rs[j]?:=fun j=>by rw [<-j1,List.getElem?_drop]
   have hw1:=zk (n:=i) (by omega);have htok:∀n,(Hf s'++[SObj.tok 1 n])[N]?=some (.tok 1 n):=fun n=>by rw [List.getElem?_append_right (by omega),hlen];simp
   match rs,j1,j2,j3,ih2,hget with
   |a::b::r,j1,j2,j3,ih2,hget=>
    simp only [List.length_cons] at j3;have ha:(row.map fun n=>[dU n])[i]?=some [dU a]:=by rw [List.getElem?_map,show i=i+0 from rfl,hget 0];rfl
    have hb:(row.map fun n=>[dU n])[i+1]?=some [dU b]:=by rw [List.getElem?_map,hget 1];rfl
    have ra:a<18446744073709551616:=i6 a (List.mem_of_getElem? (hget 0));have rb:b<18446744073709551616:=i6 b (List.mem_of_getElem? (hget 1));have c1:=yne G a b ra rb;have hnx:=ih2 (nx++[zce a b],r,i+2) ⟨by rw [show i+2=i+1+1 from rfl, <-List.drop_drop, <-List.drop_drop,j1];rfl,by rw [j2,zcb];simp,by simp only;omega,by simp only [List.length_append,List.length_cons,List.length_nil];omega,by simp only;omega⟩ (by simp only [List.length_cons];omega);have hw2:IntKind.i64.wrap ((i:Int)+2)=((i+2:Nat):Int):=by rw [zt (by omega) (by omega)];omega
    rw [List.map_append,List.length_append] at hnx;(refine ze ?_;conv=>whnf);rw [hw1]
    repeat' ((with_reducible refine way ?_ ?_)<;>(intro h;conv=>whnf))
    all_goals try (exfalso;omega)
    refine xf 0 mixed rfl ?_;have hK1:N+1<=(Hf s'++[SObj.tok 1 (nx.map fun n=>[dU n]).length]++List.replicate 0 SObj.dead).length:=by simp;omega
    have hK2:(Hf s'++[SObj.tok 1 (nx.map fun n=>[dU n]).length]).length<=(Hf s'++[SObj.tok 1 (nx.map fun n=>[dU n]).length]++List.replicate 0 SObj.dead).length:=by simp
    refine zaf ⟨_,[],none⟩ rfl rfl hK2 (fun _ _ _=>rfl) ?_;refine zaf ⟨_,[],none⟩ rfl rfl hK2 (fun _ _ _=>rfl) ?_;refine zaf ⟨_,[],none⟩ rfl rfl hK2 (fun _ _ _=>rfl) ?_;refine qn (i:=i) (row:=[dU a]) rfl hK2 rfl ha ?_;refine zaf ⟨_,[],none⟩ rfl rfl hK2 (fun _ _ _=>rfl) ?_;refine zaf ⟨_,[],none⟩ rfl rfl hK2 (fun _ _ _=>rfl) ?_;refine zaf ⟨_,[],none⟩ rfl rfl hK2 (fun _ _ _=>rfl) ?_;refine zaf ⟨_,[],none⟩ rfl rfl hK2 (fun _ _ _=>rfl) ?_;refine qn (i:=i+1) (row:=[dU b]) rfl hK2 hw1 hb ?_;refine zaf ⟨_,[],none⟩ rfl rfl hK2 (fun _ _ _=>rfl) ?_;refine zpe rfl hK2 c1 ?_;refine zaf ⟨_,[],none⟩ rfl rfl hK2 (fun _ _ _=>rfl) ?_;refine zev (b:=N) (kk:=1) (rows:=nx.map fun n=>[dU n]) (new:=[[dU (zce a b)]]) rfl rfl rfl rfl rfl rfl rfl rfl rfl rfl ⟨show 8<=65536 by decide,rfl⟩ hK2 (by rw [List.replicate_zero,List.append_nil];exact htok _) (by simp;omega) ?_;refine zaf ⟨_,[],none⟩ rfl rfl (by rw [List.length_set];exact hK2) (fun _ _ _=>rfl) ?_;refine qf (by kernel_rfl) ?_;(refine ze ?_;conv=>whnf);rw [hw2];refine zg [0,3,6,7] ?_;have eH:zfl (Hf s'++[SObj.tok 1 (nx.map fun n=>[dU n]).length]++List.replicate 0 SObj.dead) (some (N,.tok 1 ((nx.map fun n=>[dU n])++[[dU (zce a b)]]).length))=Hf s'++[.tok 1 ((nx.map fun n=>[dU n]).length+([zce a b].map fun n=>[dU n]).length)]:=by
     show (Hf s'++[SObj.tok 1 (nx.map fun n=>[dU n]).length]++List.replicate 0 SObj.dead).set N _=_;rw [List.replicate_zero,List.append_nil,List.set_append_right _ _ (by omega),hlen,Nat.sub_self,List.length_append];rfl
    refine Eq.mpr (congrArg (fun h=>SW E _ _ h) eH) ?_;exact hnx
   |[x],j1,j2,j3,ih2,hget=>
    simp only [List.length_cons,List.length_nil] at j3;have hm:(((row.map fun n=>[dU n]).length:Nat):Int).tmod 2=1:=by rw [Int.tmod_eq_emod_of_nonneg (by omega)];omega
    have hx:(row.map fun n=>[dU n])[i]?=some [dU x]:=by rw [List.getElem?_map,show i=i+0 from rfl,hget 0];rfl
    have hw3:IntKind.i64.wrap ((((row.map fun n=>[dU n]).length:Nat):Int)-1)=(i:Int):=by rw [zt (by omega) (by omega)];omega
    (refine ze ?_;conv=>whnf);rw [hw1]
    repeat' ((with_reducible refine way ?_ ?_)<;>(intro h;conv=>whnf))
    all_goals try (exfalso;omega)
    ·refine zi (i:=i) (row:=[dU x]) rfl hw3 hx ?_
     (refine zj [777,61] 1000 ?_;conv=>whnf);refine zr (b:=N) (kk:=1) (rows:=nx.map fun n=>[dU n]) (new:=[[dU x]]) rfl ⟨by decide,rfl⟩ (htok _) (by simp;omega) ?_;(refine zc ?_;conv=>whnf);refine zdr ?_;refine yz [0,3] N (by omega) (by simp [hlen]) (by show ((decide (L<N))&&(true&&true))=true;simp;omega) ?_ ?_
     all_goals rw [List.set_append_right _ _ (by omega),List.take_append_of_le_length (by omega),List.take_of_length_le (by omega)]
     ·exact hund
     ·have e:zcb row=nx++[x]:=j2
      rw [e] at hnext;have e5:(nx.map fun n=>[dU n])++[[dU x]]=(nx++[x]).map fun n=>[dU n]:=by simp
      refine Eq.mpr (congrArg (fun v=>SW E _ [(0,.yld L),(3,.imm (.isl 1 v))] _) e5) ?_;exact hnext
   |[],j1,j2,j3,ih2,hget=>
    simp only [List.length_nil] at j3;have hm:¬(((row.map fun n=>[dU n]).length:Nat):Int).tmod 2=1:=by rw [Int.tmod_eq_emod_of_nonneg (by omega)];omega
    (refine ze ?_;conv=>whnf);rw [hw1]
    repeat' ((with_reducible refine way ?_ ?_)<;>(intro h;conv=>whnf))
    all_goals try (exfalso;omega)
    ·refine zdr ?_
     refine yz [0,3] N (by omega) (by simp [hlen]) (by show ((decide (L<N))&&(true&&true))=true;simp;omega) ?_ ?_
     all_goals rw [List.take_append_of_le_length (by omega),List.take_of_length_le (by omega)]
     ·exact hund
     ·have e:zcb row=nx:=by rw [j2];simp [zcb]
      rw [e] at hnext;exact hnext
  ·rw [ztw _ hmore] at i1
   (refine zc ?_;conv=>whnf)
   repeat' ((with_reducible refine way ?_ ?_)<;>(intro h;conv=>whnf))
   all_goals try (exfalso;omega)
   exact hK _ _ ⟨hl',by rw [ht, <-i1];rfl⟩
 ·rintro done x rest l hda hdl h ih
  have hdn:l=done.map qs:=h;have hw:=zk (n:=done.length) (by omega);have hrow:(leaves.map fun s=>[dS s])[((done.length:Nat):Int).toNat]?=some [dS x]:=by simp [hda]
  have hxs:=hsz x (by rw [hda];simp);have c1:=zwe G x hxs;have c2:=zak G (⟨#[0]⟩++x) (by rw [ByteArray.size_append];show 1+x.size<=_;omega);change zq _ _ _ _ (yg (qs x)) at c2;have hll:l.length=done.length:=by rw [hdn];simp
  (refine ze ?_;conv=>whnf)
  repeat' ((with_reducible refine way ?_ ?_)<;>(intro h;conv=>whnf))
  all_goals try (exfalso;omega)
  refine zi rfl rfl  hrow ?_;(refine zc ?_;conv=>whnf);refine zd rfl  c1 ?_;(refine zc ?_;conv=>whnf);refine zd rfl  c2 ?_;(refine zc ?_;conv=>whnf);refine zr (b:=N) (kk:=1) (rows:=l.map fun n=>[dU n]) (new:=[[dU (qs x)]]) rfl ⟨by decide,rfl⟩ (by rw [List.getElem?_append_right (by omega),hlen];simp) (by rw [List.length_map];simp only [List.length_cons,List.length_nil];omega) ?_;(refine zc ?_;conv=>whnf);rw [hw,List.set_append_right _ _ (by omega),hlen,Nat.sub_self];refine zg [0,3,8,9,10] ?_;have:=ih (l++[qs x]) (by show l++[qs x]=(done++[x]).map qs;rw [hdn];simp);rw [List.map_append,List.length_append] at this;exact this
def zjr (leaves:List ByteArray):Nat:=(qg 1024 (leaves.map qs)).foldl (fun _ r=>r.getD 0 0) 0
def RH (leaves:List ByteArray) (lp:SObj) (v:Nat):List SObj:=[.cells [yg v],.cells [.imm (yr leaves)],lp]
theorem zqv (G : List (Nat × D)) (leaves : List ByteArray) (hl1 : 1 <= leaves.length) (hl2 : leaves.length <= 1024) (hsz : ∀ x ∈ leaves, x.size <= 1000000000000) :
    zq Tryz.prog G 50 [.imm (yr leaves)] (.tup [yg (zjr leaves), sI (0 : Nat)]) := by
  have c0 := zqu G leaves hl1 hl2
  refine zh Tryz.func50 rfl (by rw [Tryz.ntmps50]; simp) rfl rfl ?_; intro E hH hK
  (refine ze ?_; conv => whnf)
  refine zd rfl  c0 ?_
  (refine zc ?_; conv => whnf)
  refine zv rfl rfl rfl rfl rfl rfl ((zzl G leaves _).mono ?_)
  rintro _ _ ⟨rfl, rfl⟩
  refine ⟨by simp, ?_⟩
  (refine zc ?_; conv => whnf)
  refine zg [5, 13] ?_
  change SW E _ [(5, .ptr 0 0), (13, .fn (.func 130) [] [.ptr 1 0])] [.cells [yg (0 : Nat)], .cells [.imm (yr leaves)]]
  refine zco rfl rfl ?_
  refine (znb G (σ := Nat) (Hf := RH leaves (.loop .ready E.f _ [(5, .ptr 0 0), (13, .fn (.func 130) [] [.ptr 1 0])] _ _ _)) (N := 3) (b := 1) (L := 2) (leaves := leaves)
    ⟨fun _ => rfl, fun _ => rfl, fun _ => rfl, fun _ => rfl, by decide, by decide⟩ rfl (fun _ r => r.getD 0 0) hl1 hl2 hsz (fun _ _ => True) (fun _ _ _ => trivial) ?_ 0 trivial).mono ?_
  · intro v row _ h1 h2 h3
    have hrow : (row.map fun n => [dU n])[((0 : Nat) : Int).toNat]? = some [dU (row.getD 0 0)] := by
      cases row with
      | nil => simp at h1
      | cons a r => rfl
    refine zcp (b := 2) rfl E.hfn rfl (by decide) ?_
    intro E3 hl3 hOwn hKR
    (refine ze ?_; conv => whnf)
    refine zke hOwn rfl ?_
    (refine ze ?_; conv => whnf)
    refine zi rfl rfl  hrow ?_
    (refine zc ?_; conv => whnf)
    exact hKR none _ _ (Nat.le_refl _) rfl ⟨rfl, Nat.le_refl _, rfl⟩
  · rintro r H' ⟨hl, ht⟩
    have hg2 : H'[2]? = (H'.take 3)[2]? := by rw [List.getElem?_take, if_pos (by decide)]
    refine ⟨hl, .ready, [(5, .ptr 0 0), (13, .fn (.func 130) [] [.ptr 1 0])], by show H'[2]? = _; rw [hg2, ht]; rfl, .inl ⟨rfl, ?_⟩⟩
    have ht2 : (H'.set 2 .dead).take 2 = [.cells [yg (zjr leaves)], .cells [.imm (yr leaves)]] := by
      rw [List.take_set_of_le (Nat.le_refl _)]
      have : H'.take 2 = (H'.take 3).take 2 := by rw [List.take_take]; rfl
      rw [this, ht]
      rfl
    refine yz [5] 2 (by rw [hH]; exact Nat.zero_le _) (by simp; omega) rfl (by show (List.take 2 (H'.set 2 .dead)).all (SObj.under 2) = true; rw [ht2]; rfl) ?_
    show SW E _ _ ((H'.set 2 .dead).take 2)
    rw [ht2]
    (refine ze ?_; conv => whnf)
    exact hK _
def zlb (s:Nat × List Frk) (row:List Nat):Nat × List Frk:=
 (s.1 / 2,if s.1 % 2=1 then s.2++[⟨row.getD (s.1-1) 0,true⟩] else if s.1+1<row.length then s.2++[⟨row.getD (s.1+1) 0,false⟩] else s.2)
def zlc (leaves:List ByteArray) (i:Nat):List Frk:=((qg 1024 (leaves.map qs)).foldl zlb (i,[])).2
def PH (leaves:List ByteArray) (lp:SObj) (s:Nat × List Frk):List SObj:=[.cells [sI s.1],.cells [.asl 2 2 (s.2.map Frk.cells)],.tok 2 (s.2.map Frk.cells).length,.cells [.imm (yr leaves)],lp]
theorem zzm (G : List (Nat × D)) (leaves : List ByteArray) (i : Nat) (hi : i < leaves.length) (hl2 : leaves.length <= 1024) (hsz : ∀ x ∈ leaves, x.size <= 1000000000000) :
    zq Tryz.prog G 48 [.imm (yr leaves), sI i] (.tup [.imm (zy (zlc leaves i)), sI (0 : Nat)]) := by
  have c0 := zqu G leaves (by omega) hl2
  have hlm : (leaves.map fun s => [dS s]).length = leaves.length := by simp
  refine zh Tryz.func48 rfl (by rw [Tryz.ntmps48]; simp) rfl rfl ?_; intro E hH hK
  (refine ze ?_; conv => whnf)
  refine zd rfl  c0 ?_
  (refine zc ?_; conv => whnf)
  repeat' ((with_reducible refine way ?_ ?_) <;> (intro h; conv => whnf))
  all_goals try (exfalso; omega)
  refine yw (fun _ h => zeu 1 0 2 (cs := [.imm (.val (.slice none 0 0))]) rfl rfl h) ?_
  refine zv rfl rfl rfl rfl rfl rfl ((zzl G leaves _).mono ?_)
  rintro _ _ ⟨rfl, rfl⟩
  refine ⟨by simp, ?_⟩
  (refine zc ?_; conv => whnf)
  refine zg [3, 7, 23] ?_
  change SW E _ [(3, .ptr 0 0), (7, .ptr 1 0), (23, .fn (.func 130) [] [.ptr 3 0])] [.cells [sI i], .cells [.asl 2 2 (([] : List Frk).map Frk.cells)], .tok 2 (([] : List Frk).map Frk.cells).length, .cells [.imm (yr leaves)]]
  refine zco rfl rfl ?_
  refine (znb G (σ := Nat × List Frk) (Hf := PH leaves (.loop .ready E.f _ [(3, .ptr 0 0), (7, .ptr 1 0), (23, .fn (.func 130) [] [.ptr 3 0])] _ _ _)) (N := 5) (b := 3) (L := 4) (leaves := leaves)
    ⟨fun _ => rfl, fun _ => rfl, fun _ => rfl, fun _ => rfl, by decide, by decide⟩ rfl zlb (by omega) hl2 hsz (fun s row => s.1 < row.length /\ s.2.length + row.length <= 2000) ?_ ?_ (i, []) ⟨by simp only [List.length_map]; exact hi, by simp only [List.length_map, List.length_nil]; omega⟩).mono ?_
  · rintro ⟨i, p⟩ row ⟨h1, h2⟩
    simp only at h1 h2
    refine ⟨by simp only [zlb]; rw [zcq]; omega, ?_⟩
    simp only [zlb]
    rw [zcq]
    split
    · rw [List.length_append]; simp only [List.length_cons, List.length_nil]; omega
    · split
      · rw [List.length_append]; simp only [List.length_cons, List.length_nil]; omega
      · omega
  · rintro ⟨i, p⟩ row ⟨h1, h2⟩ h3 h4 h5
    simp only at h1 h2
    have hrl : (row.map fun n => [dU n]).length = row.length := by simp
    have hm : (i : Int).tmod 2 = ((i % 2 : Nat) : Int) := by rw [Int.tmod_eq_emod_of_nonneg (by omega)]; rfl
    have hq : (i : Int).tdiv 2 = ((i / 2 : Nat) : Int) := by rw [Int.tdiv_eq_ediv_of_nonneg (by omega)]; rfl
    refine zcp (b := 4) rfl E.hfn rfl (by decide) ?_
    intro E3 hl3 hOwn hKR
    (refine ze ?_; conv => whnf)
    refine zke hOwn rfl ?_
    (refine ze ?_; conv => whnf)
    have hwq : IntKind.i64.wrap ((i : Int).tdiv 2) = ((i / 2 : Nat) : Int) := by rw [hq, zt (by omega) (by omega)]
    have hw2 := zk (n := i) (by omega)
    rw [hm]
    repeat' ((with_reducible refine way ?_ ?_) <;> (intro h; conv => whnf))
    · have hodd : i % 2 = 1 := by omega
      have hw1 : IntKind.i64.wrap ((i : Int) - 1) = ((i - 1 : Nat) : Int) := by rw [zt (by omega) (by omega)]; omega
      have hs2 : zlb (i, p) row = (i / 2, p ++ [⟨row.getD (i - 1) 0, true⟩]) := by simp only [zlb, if_pos hodd]
      rw [hs2] at hKR
      have hg : (row.map fun n => [dU n])[i - 1]? = some [dU (row.getD (i - 1) 0)] := by
        rw [List.getElem?_map, List.getD_eq_getElem?_getD, List.getElem?_eq_getElem (by omega)]
        rfl
      generalize row.getD (i - 1) 0 = v at hg hKR hs2 ⊢
      refine zg [3, 7, 8] ?_
      change SW E3 _ [(3, .ptr 0 0), (7, .ptr 1 0), (8, .imm (xq row))] [.cells [sI i], .cells [.asl 2 2 (p.map Frk.cells)], .tok 2 (p.map Frk.cells).length, .cells [.imm (yr leaves)], _]
      (refine xf 0 mixed rfl ?_; refine zn [777] (nx := 5) ?_; conv => whnf)
      refine qn (i := i - 1) (row := [dU v]) rfl (show 5 <= 5 by decide) hw1 hg ?_
      (refine zn [777] (nx := 5) ?_; conv => whnf)
      refine zev (b := 2) (kk := 2) (rows := p.map Frk.cells) (new := [[dU v, dB true]]) rfl rfl rfl rfl rfl rfl rfl rfl rfl rfl ⟨show 16 <= 65536 by decide, rfl⟩ (show 5 <= 5 by decide) rfl (by simp; omega) ?_
      refine xa (b := 1) (off := 0) (d := []) (zz := .asl 2 2 (p.map Frk.cells)) (r := []) (v := .asl 2 2 (p.map Frk.cells ++ [[dU v, dB true]])) rfl rfl rfl rfl rfl rfl rfl rfl (show 5 <= 5 by decide) rfl rfl ?_
      refine qf (by kernel_rfl) ?_
      (refine ze ?_; conv => whnf)
      refine hKR none _ _ (Nat.le_refl _) rfl ⟨rfl, Nat.le_refl _, ?_⟩
      simp only [PH, List.map_append]
      rw [<- hwq]
      rfl
    · have h2 : IntKind.i64.wrap ((i : Int) + 1) < (((row.map fun n => [dU n]).length : Nat) : Int) := h
      rw [hw2, hrl] at h2
      have hodd : ¬ i % 2 = 1 := by omega
      have h3 : i + 1 < row.length := by omega
      have hs2 : zlb (i, p) row = (i / 2, p ++ [⟨row.getD (i + 1) 0, false⟩]) := by simp only [zlb, if_neg hodd, if_pos h3]
      rw [hs2] at hKR
      have hg : (row.map fun n => [dU n])[i + 1]? = some [dU (row.getD (i + 1) 0)] := by
        rw [List.getElem?_map, List.getD_eq_getElem?_getD, List.getElem?_eq_getElem (by omega)]
        rfl
      generalize row.getD (i + 1) 0 = v at hg hKR hs2 ⊢
      refine zg [3, 7, 8] ?_
      change SW E3 _ [(3, .ptr 0 0), (7, .ptr 1 0), (8, .imm (xq row))] [.cells [sI i], .cells [.asl 2 2 (p.map Frk.cells)], .tok 2 (p.map Frk.cells).length, .cells [.imm (yr leaves)], _]
      (refine xf 0 mixed rfl ?_; refine zn [777] (nx := 5) ?_; conv => whnf)
      refine qn (i := i + 1) (row := [dU v]) rfl (show 5 <= 5 by decide) hw2 hg ?_
      (refine zn [777] (nx := 5) ?_; conv => whnf)
      refine zev (b := 2) (kk := 2) (rows := p.map Frk.cells) (new := [[dU v, dB false]]) rfl rfl rfl rfl rfl rfl rfl rfl rfl rfl ⟨show 16 <= 65536 by decide, rfl⟩ (show 5 <= 5 by decide) rfl (by simp; omega) ?_
      refine xa (b := 1) (off := 0) (d := []) (zz := .asl 2 2 (p.map Frk.cells)) (r := []) (v := .asl 2 2 (p.map Frk.cells ++ [[dU v, dB false]])) rfl rfl rfl rfl rfl rfl rfl rfl (show 5 <= 5 by decide) rfl rfl ?_
      refine qf (by kernel_rfl) ?_
      (refine ze ?_; conv => whnf)
      refine hKR none _ _ (Nat.le_refl _) rfl ⟨rfl, Nat.le_refl _, ?_⟩
      simp only [PH, List.map_append]
      rw [<- hwq]
      rfl
    · have h2 : ¬ IntKind.i64.wrap ((i : Int) + 1) < (((row.map fun n => [dU n]).length : Nat) : Int) := h
      rw [hw2, hrl] at h2
      have hodd : ¬ i % 2 = 1 := by omega
      have h3 : ¬ i + 1 < row.length := by omega
      have hs2 : zlb (i, p) row = (i / 2, p) := by simp only [zlb, if_neg hodd, if_neg h3]
      rw [hs2] at hKR
      refine hKR none _ _ (Nat.le_refl _) rfl ⟨rfl, Nat.le_refl _, ?_⟩
      simp only [PH]
      rw [<- hwq]
      rfl
  · rintro r H' ⟨hl, ht⟩
    have hg2 : H'[4]? = (H'.take 5)[4]? := by rw [List.getElem?_take, if_pos (by decide)]
    refine ⟨hl, .ready, [(3, .ptr 0 0), (7, .ptr 1 0), (23, .fn (.func 130) [] [.ptr 3 0])], by show H'[4]? = _; rw [hg2, ht]; rfl, .inl ⟨rfl, ?_⟩⟩
    obtain ⟨⟨ie, pe⟩, hse⟩ : ∃ s, (qg 1024 (leaves.map qs)).foldl zlb (i, []) = s := ⟨_, rfl⟩
    have hpe : zlc leaves i = pe := by unfold zlc; rw [hse]
    rw [hse] at ht
    rw [hpe] at hK
    have ht2 : (H'.set 4 .dead).take 3 = [.cells [sI ie], .cells [.asl 2 2 (pe.map Frk.cells)], .tok 2 (pe.map Frk.cells).length] := by
      rw [List.take_set_of_le (by decide)]
      have : H'.take 3 = (H'.take 5).take 3 := by rw [List.take_take]; rfl
      rw [this, ht]
      rfl
    refine yz [7] 3 (by rw [hH]; exact Nat.zero_le _) (by simp; omega) rfl (by show (List.take 3 (H'.set 4 .dead)).all (SObj.under 3) = true; rw [ht2]; rfl) ?_
    show SW E _ _ ((H'.set 4 .dead).take 3)
    rw [ht2]
    refine ja ?_
    (refine ze ?_; conv => whnf)
    exact hK _
theorem yrr (G:List (Nat × D)) (l:List UInt8) (s:ByteArray) (h0:s.data.toList≠[]) (hl:l.length+s.size<=1000000):SCall Tryz.prog G 93 [.ptr 0 0,sS s] (zvo l) (fun r H'=>r= .tup [sI s.size,.imm (.val .nilIface)]/\H'=zvo (l++s.data.toList)):=by
 cases l with
 |nil=>
  have hb:zvo ([]++s.data.toList)=zrz s.data.toList:=by
   rw [List.nil_append];generalize s.data.toList=x at h0;cases x with
   |nil=>exact absurd rfl h0
   |cons y x=>rfl
  rw [hb];exact zwc G s (by omega)
 |cons x l=>exact zal G (x::l) s hl
theorem yvk (l x:List UInt8):(zvo l).length<=(zvo (l++x)).length:=by
 cases l with
 |nil=>cases x with
  |nil=>exact Nat.le_refl _
  |cons y x=>exact Nat.le_succ 1
 |cons y l=>exact Nat.le_refl 2
noncomputable def leafK (seed:ByteArray) (j:Int):List UInt8:=(List.range 18).flatMap fun (k:Nat)=>(zek (chainN 15 (yfz seed j k))).data.toList
noncomputable def leavesN (seed:ByteArray) (h:Nat):List ByteArray:=(List.range (2 ^ h)).map fun (j:Nat)=>⟨(leafK seed j).toArray⟩
theorem zam (seed:ByteArray) (h:Nat):(leavesN seed h).length=2 ^ h:=by simp [leavesN]
theorem zqw (d:Nat):(zek d).data.toList.length=16:=by
 have:=ju d;rw [Array.length_toList];exact this
theorem zqx (seed:ByteArray) (h:Nat) (hs:seed.size<=1000000000000) (hh:h<=8):zq Tryz.prog G37 51 [sS seed,sI h] (.imm (yr (leavesN seed h))):=by
 have hp:=yyu h hh;have h256:2 ^ h<=256:=Nat.le_trans (Nat.pow_le_pow_right (by decide) hh) (by decide);have hlen:=zam seed h;unfold leavesN at hlen ⊢;generalize hL:2 ^ h=L at hp h256 hlen ⊢;refine zh Tryz.func51 rfl (by rw [Tryz.ntmps51];simp) rfl rfl ?_;intro E hH hK;(refine zm [777,10] 1000 ?_;conv=>whnf);refine ylz rfl rfl rfl rfl rfl (by omega) ?_;rw [Int.toNat_natCast,hp];(refine zc ?_;conv=>whnf);refine zin (n:=5) (kk:=1) rfl ?_;refine zg [0,5,10,11] ?_;change SW E _ [(0,sS seed),(5,.asl 0 1 (([]:List ByteArray).map fun s=>[dS s])),(10,sI L),(11,sI (0:Nat))] [.tok 1 (([]:List ByteArray).map fun s=>[dS s]).length];have hrl:(List.range L).length=L:=List.length_range;rw [show sI (L:Nat)=sI ((List.range L).length:Nat) by rw [hrl]];refine zp (List.range L) (fun i (l:List ByteArray)=>[(0,sS seed),(5,.asl 0 1 (l.map fun s=>[dS s])),(10,sI (List.range L).length),(11,sI i)]) (fun _ l=>[.tok 1 (l.map fun s=>[dS s]).length])
  (fun done _ l=>l=done.map fun (j:Nat)=>(⟨(leafK seed j).toArray⟩:ByteArray)) [] rfl ?_ ?_
 ·rintro l h1
  have h1:l=(List.range L).map fun (j:Nat)=>(⟨(leafK seed j).toArray⟩:ByteArray):=h1
  subst h1;refine zdr ?_;change SW E _ [(0,sS seed),(5,.imm (yr ((List.range L).map fun (j:Nat)=>(⟨(leafK seed j).toArray⟩:ByteArray)))),(10,sI (List.range L).length),(11,sI (List.range L).length)] _;generalize ((List.range L).map fun (j:Nat)=>(⟨(leafK seed j).toArray⟩:ByteArray))=ls at hK ⊢;(refine ze ?_;conv=>whnf)
  repeat' ((with_reducible refine way ?_ ?_)<;>(intro h;conv=>whnf))
  all_goals try (exfalso;omega)
  exact hK _
 ·rintro done j rest l hda hdl h1 ih
  have h1:l=done.map fun (j:Nat)=>(⟨(leafK seed j).toArray⟩:ByteArray):=h1
  have hj:j=done.length:=by
   have h2:(List.range L)[done.length]?=some j:=by rw [hda];simp
   rw [List.getElem?_range (by omega)] at h2;exact (Option.some.inj h2).symm
  have hw:=zk (n:=done.length) (by omega);have hll:l.length=done.length:=by rw [h1];simp
  have hnx:=ih (l++[⟨(leafK seed j).toArray⟩]) (by show l++_=(done++[j]).map _;rw [h1];simp);rw [List.map_append,List.length_append] at hnx;clear ih h1;(refine zm [777,7] 1000 ?_;conv=>whnf)
  repeat' ((with_reducible refine way ?_ ?_)<;>(intro h;conv=>whnf))
  all_goals try (exfalso;omega)
  refine zex rfl rfl rfl rfl rfl ?_;(refine zc ?_;conv=>whnf);refine zg [0,5,6,7,10,11,14] ?_;change SW E _ [(0,sS seed),(5,.asl 0 1 (l.map fun s=>[dS s])),(6,sI done.length),(7,.ptr 1 0),(10,sI (List.range L).length),(11,sI done.length),(14,sI (0:Nat))] ([.tok 1 (l.map fun s=>[dS s]).length]++(zvo []).map (SObj.sh 1));refine zp (List.range 18) (fun i (_:List UInt8)=>[(0,sS seed),(5,.asl 0 1 (l.map fun s=>[dS s])),(6,sI done.length),(7,.ptr 1 0),(10,sI (List.range L).length),(11,sI done.length),(14,sI i)]) (fun _ l2=>[.tok 1 (l.map fun s=>[dS s]).length]++(zvo l2).map (SObj.sh 1))
   (fun done2 _ l2=>l2=done2.flatMap (fun (k:Nat)=>(zek (chainN 15 (yfz seed done.length k))).data.toList)/\l2.length=16*done2.length) [] ⟨rfl,rfl⟩ ?_ ?_
  ·rintro l2 ⟨h2,h3⟩
   have h2:l2=leafK seed done.length:=h2;rw [hj, <-h2] at hnx;have h3:l2.length=16*18:=h3;have h0:l2≠[]:=by intro e;rw [e] at h3;cases h3
   have hstr:=zji (zey G37 l2 h0 (by omega)) [.tok 1 (l.map fun s=>[dS s]).length];have hb:zvo l2=zrz l2:=by cases l2 with|nil=>exact absurd rfl h0|cons x l=>rfl
   rw [hb];(refine ze ?_;conv=>whnf)
   repeat' ((with_reducible refine way ?_ ?_)<;>(intro h;conv=>whnf))
   all_goals try (exfalso;omega)
   refine zv rfl rfl rfl rfl rfl rfl (hstr.mono ?_);rintro _ _ ⟨_,_,⟨rfl,rfl⟩,rfl,rfl⟩;refine ⟨Nat.le_refl _,?_⟩;(refine zc ?_;conv=>whnf);refine zr (b:=0) (kk:=1) (rows:=l.map fun s=>[dS s]) (new:=[[dS ⟨l2.toArray⟩]]) rfl ⟨by decide,rfl⟩ rfl (by rw [List.length_map];simp only [List.length_cons,List.length_nil];omega) ?_;(refine zc ?_;conv=>whnf);rw [hw];exact yz [0,5,10,11] 1 (by rw [hH];exact Nat.zero_le _) (Nat.succ_le_succ (Nat.zero_le _)) rfl rfl hnx
  ·rintro done2 k rest2 l2 hda2 hdl2 ⟨h2,h3⟩ ih2
   have hk:k=done2.length:=by
    have h4:(List.range 18)[done2.length]?=some k:=by rw [hda2];simp
    rw [List.getElem?_range (by simp at hdl2;omega)] at h4;exact (Option.some.inj h4).symm
   have hk18:done2.length<18:=by simp at hdl2;omega
   have hw2:=zk (n:=done2.length) (by omega);have c1:=zqr seed (done.length:Int) (done2.length:Int) hs (by omega) (by omega);have hsl:yfz seed done.length done2.length<18446744073709551616:=zab _;have hnx2:=ih2 (l2++(zek (chainN 15 (yfz seed done.length done2.length))).data.toList) ⟨by rw [h2,hk,List.flatMap_append];simp,by rw [List.length_append,zqw,List.length_append,h3];simp only [List.length_cons,List.length_nil];omega⟩;generalize yfz seed done.length done2.length=sec at c1 hsl hnx2;have c2:=zzk sec 15 hsl (by decide);have hcl:=zzj hsl 15;generalize chainN 15 sec=cc at c2 hcl hnx2;have c3:=zqq cc hcl;have hhx:=zqw cc;have hhz:=ju cc;generalize zek cc=hx at c3 hhx hhz hnx2;have c4:=zji (yrr G37 l2 hx (by intro e;rw [e] at hhx;cases hhx) (by omega)) [.tok 1 (l.map fun s=>[dS s]).length];(refine ze ?_;conv=>whnf)
   repeat' ((with_reducible refine way ?_ ?_)<;>(intro h;conv=>whnf))
   all_goals try (exfalso;omega)
   refine zd rfl  c1 ?_;(refine zc ?_;conv=>whnf);refine zd rfl  c2 ?_;(refine zc ?_;conv=>whnf);refine zd rfl  c3 ?_;(refine zc ?_;conv=>whnf);refine zv rfl rfl rfl rfl rfl rfl (c4.mono ?_);rintro _ _ ⟨_,_,⟨rfl,rfl⟩,rfl,rfl⟩;refine ⟨by have:=yvk l2 hx.data.toList;simp only [List.length_append,List.length_map];omega,?_⟩;(refine zc ?_;conv=>whnf);rw [hw2];exact zg [0,5,6,7,10,11,14] hnx2
theorem zqy (G:List (Nat × D)) (seed:ByteArray) (h:Nat) (hs:seed.size<=64) (hh:h<=8):zq Tryz.prog G 49 [sS seed,sI h] (sB true):=by
 have h1:((seed.size:Nat):Int)<=64:=by omega
 have h2:0<=(h:Int):=by omega
 have h3:(h:Int)<=8:=by omega
 refine zh Tryz.func49 rfl (by rw [Tryz.ntmps49];simp) rfl rfl ?_;intro E hH hK;(refine ze ?_;conv=>whnf)
 repeat' ((with_reducible refine way ?_ ?_)<;>(intro h;conv=>whnf))
 all_goals try (exfalso;omega)
 exact kB hK (by simp [h1,h2,h3])
noncomputable def keyN (seed:ByteArray) (h:Nat):Nat:=zjr (leavesN seed h)
theorem yng (seed:ByteArray) (j:Int):(⟨(leafK seed j).toArray⟩:ByteArray).size=288:=by
 show (leafK seed j).toArray.size=288;rw [List.size_toArray];unfold leafK;rw [List.length_flatMap];simp only [zqw];rfl
theorem znc (seed:ByteArray) (h:Nat):∀x∈leavesN seed h,x.size=288:=by
 intro x hx;unfold leavesN at hx;obtain ⟨j,_,rfl⟩:=List.mem_map.1 hx;exact yng seed j
theorem yrs (seed:ByteArray) (h:Nat) (hs:seed.size<=64) (hh:h<=8):zq Tryz.prog G37 12 [sS seed,sI h] (.tup [yg (keyN seed h),sI (0:Nat)]):=by
 have c1:=zqy G37 seed h hs hh;have c2:=zqx seed h (by omega) hh;have h256:2 ^ h<=256:=Nat.le_trans (Nat.pow_le_pow_right (by decide) hh) (by decide);have hpos:0<2 ^ h:=Nat.pow_pos (by decide);have c3:=zqv G37 (leavesN seed h) (by rw [zam];omega) (by rw [zam];omega) (fun x hx=>by rw [znc seed h x hx];decide);change zq _ _ _ _ (.tup [yg (keyN seed h),_]) at c3;generalize keyN seed h=key at c3 ⊢;generalize leavesN seed h=ls at c2 c3;refine zh Tryz.func12 rfl (by rw [Tryz.ntmps12];simp) rfl rfl ?_;intro E hH hK;(refine ze ?_;conv=>whnf);refine zd rfl  c1 ?_;(refine zc ?_;conv=>whnf);refine zd rfl  c2 ?_;(refine zc ?_;conv=>whnf);refine zd rfl  c3 ?_;(refine zc ?_;conv=>whnf);exact hK _
theorem yxl {a:Nat} (ha:a<18446744073709551616):IntKind.i64.wrap ((BitVec.ofInt IntKind.i64.bits (IntKind.i64.wrap (a:Int))&&&BitVec.ofInt IntKind.i64.bits 15).toNat:Int)=((a % 16:Nat):Int):=by
 have h1:BitVec.ofInt 64 (IntKind.i64.wrap (a:Int))=BitVec.ofNat 64 a:=by
  apply BitVec.eq_of_toNat_eq
  rw [BitVec.toNat_ofInt,BitVec.toNat_ofNat];have hb:IntKind.i64.bits=64:=rfl;have hs:IntKind.i64.signed=true:=rfl;unfold IntKind.wrap;simp only [hb,hs,Bool.true_and];split<;>omega
 have h:(BitVec.ofInt IntKind.i64.bits (IntKind.i64.wrap (a:Int))&&&BitVec.ofInt IntKind.i64.bits 15).toNat=a % 16:=by
  show (BitVec.ofInt 64 (IntKind.i64.wrap (a:Int))&&&BitVec.ofInt 64 ((15:Nat):Int)).toNat=a % 16;rw [h1,zfp,BitVec.toNat_and,BitVec.toNat_ofNat,BitVec.toNat_ofNat,Nat.mod_eq_of_lt (show a<2 ^ 64 by omega),Nat.mod_eq_of_lt (by decide)];exact Nat.and_two_pow_sub_one_eq_mod a 4
 rw [h,zt (by omega) (by omega)]
theorem ynh {cs:List SV} {i:Nat} {v:SV} (h:cs[i]?=some v):ziz Tryz.prog 3 cs i=some v:=by
 have hp:ytq Tryz.prog 3=some false:=rfl;simp only [ziz,hp];exact h
theorem zwf (G:List (Nat × D)) (s:ByteArray) (hs:s.size<=9223372036854775807):zq Tryz.prog G 86 [sS s] (.agg ((ztc s).map fun (n:Nat)=>sI n)):=by
 have hh:=zak G s hs;have hlt:=zab s;unfold ztc;generalize qi s=d at hh hlt;refine zh Tryz.func86 rfl (by rw [Tryz.ntmps86];simp) rfl rfl ?_;intro E hH hK;(refine ze ?_;conv=>whnf);refine zd rfl  hh ?_;(refine zc ?_;conv=>whnf);refine zg [2,3,4,5,10] ?_;change SW E _ [(2,.ptr 0 0),(3,.ptr 1 0),(4,yg d),(5,sI (0:Nat)),(10,sI (0:Nat))] [.cells (List.replicate 18 (sI 0)),.cells (([]:List Nat).map (fun (n:Nat)=>sI n)++List.replicate 18 (sI 0))];refine zp (List.range 16) (fun j (l:List Nat)=>[(2,.ptr 0 0),(3,.ptr 1 0),(4,yg d),(5,sI (wt l)),(10,sI j)]) (fun i l=>[.cells (List.replicate 18 (sI 0)),.cells (l.map (fun (n:Nat)=>sI n)++List.replicate (18-i) (sI 0))])
  (fun done _ l=>l=(List.range done.length).map (nib d)) [] rfl ?_ ?_
 ·rintro l h
  have h:l=ztb d:=h;have hr:wt (ztb d)<=240:=zew 16 (nib d);have hn:(ztb d).length=16:=by simp [ztb]
  rw [<-h] at hr hn hK;clear h;have d1:IntKind.i64.wrap ((wt l:Int).tdiv 16)=((wt l / 16:Nat):Int):=by
   rw [Int.tdiv_eq_ediv_of_nonneg (by omega),zt (by omega) (by omega)];rfl
  have d2:(wt l:Int).tmod 16=((wt l % 16:Nat):Int):=by
   rw [Int.tmod_eq_emod_of_nonneg (by omega)];rfl
  generalize wt l=c at*
  match l,hn with
  |[a0,a1,a2,a3,a4,a5,a6,a7,a8,a9,a10,a11,a12,a13,a14,a15],_=>
  (refine ze ?_;conv=>whnf)
  repeat' ((with_reducible refine way ?_ ?_)<;>(intro h;conv=>whnf))
  all_goals try (exfalso;omega)
  rw [d1,d2];exact hK _
 ·rintro done j rest l hda hdl h ih
  have hj:done.length<16:=by simp at hdl;omega
  have hsh:=ybx d done.length hj;have hll:l.length=done.length:=by rw [h];simp
  have hr:wt l<=15*done.length:=by rw [h];exact zew _ _
  have hnx:=ih (l++[nib d done.length]) (by rw [List.length_append,List.length_cons,List.length_nil,List.range_succ,List.map_append, <-h];rfl);have hq:d / 16 ^ (15-done.length)<18446744073709551616:=zgw _ hlt;have hw0:IntKind.i64.wrap (60-IntKind.i64.wrap (4*(done.length:Int)))=60-4*(done.length:Int):=by rw [zt (c:=4*(done.length:Int)) (by omega) (by omega),zt (by omega) (by omega)]
  have hw1:=zk (n:=done.length) (by omega);have hrep:List.replicate (18-done.length) (sI 0)=sI 0::List.replicate (18-(done.length+1)) (sI 0):=by rw [show 18-done.length=18-(done.length+1)+1 by omega];rfl
  rw [hrep];(refine zm [777,18] 1000 ?_;conv=>whnf)
  repeat' ((with_reducible refine way ?_ ?_)<;>(intro h;conv=>whnf))
  all_goals try (exfalso;omega)
  rw [hw0];refine zpo rfl rfl rfl rfl rfl (by omega) ?_;rw [hsh];(refine zj [777,21] 1000 ?_;conv=>whnf);rw [yxl hq];have hnl:=yff d done.length;rw [show d / 16 ^ (15-done.length) % 16=nib d done.length from rfl];rw [zjj] at hnx;generalize nib d done.length=x at hnx hnl ⊢;have w2:IntKind.i64.wrap (15-(x:Int))=((15-x:Nat):Int):=by rw [zt (by omega) (by omega)];omega
  have w3:IntKind.i64.wrap ((wt l:Int)+((15-x:Nat):Int))=((wt l+(15-x):Nat):Int):=by rw [zt (by omega) (by omega)];omega
  refine zlx (i:=done.length) rfl rfl rfl rfl rfl rfl rfl rfl (by omega) ?_;refine zba (d:=l.map (fun (n:Nat)=>sI n)) (zz:=sI 0) (r:=List.replicate (18-(done.length+1)) (sI 0)) (v:=sI x) rfl rfl rfl rfl rfl rfl rfl rfl rfl (by show 0+done.length*1=_;simp [hll]) ?_;(refine zj [777,24] 1000 ?_;conv=>whnf);refine zlx (i:=done.length) rfl rfl rfl rfl rfl rfl rfl rfl (by omega) ?_;refine wh (v:=sI x) rfl rfl rfl rfl rfl (show ziz Tryz.prog 3 _ (0+done.length*1)=_ from ynh (by rw [Nat.zero_add,Nat.mul_one,List.getElem?_append_right (by simp [hll])];simp [hll])) ?_;(refine zc ?_;conv=>whnf);rw [w2,w3,hw1];refine zg [2,3,4,5,10] ?_;rw [List.map_append,List.append_assoc] at hnx;exact hnx
end Go.Proofs.YtjnddlifnkgncaaGreatDoor
namespace Go.Sh
section
variable {P:Program} {G:List (Nat × D)} {fn:Func} {rd:Bool} {E:En P G fn rd} {t:List (Nat × SV)} {H:List SObj} {k:List Item} {all:Array Oper} {rest:List Oper} {o:Oper}
theorem yiw {ty e len i:Nat} {x ix:Operand} {cs:List SV} {v:SV} {mm:Int} {kk:IntKind} (hop:o.op= .index ty x ix) (hw:zu all t o.guard=some true) (hd:yb fn.ntmps o.dst=true) (hx:zl G t x= .agg cs)
  (hi:zl G t ix= .imm (.val (.int kk mm))) (hu:P.underlying ty=some (.array len e)) (hn:xe P e=some 1) (hp:ytq P e=some false) (hmm:mm=(i:Int)) (hr:i<len) (hv:cs[i]?=some v) (h:SWr E all rest k (xj t o.dst v) H):SWr E all (o::rest) k t H:=by
 refine qy hw hd (r:=v) ?_ (Nat.le_refl _) h;rw [hop];subst hmm;have hs:zml P ty (i:Int) (.agg cs)=some v:=by
  simp only [zml,hu,hn];rw [if_pos (by omega),Int.toNat_natCast,Nat.mul_one];simp only [ziz,hp,hv]
 simp only [sop,hi,hx,hs,Option.map_some]
end
end Go.Sh
namespace Go.Proofs.YtjnddlifnkgncaaGreatDoor
open Go Go.Sh
noncomputable def chainsN (seed:ByteArray) (i:Int) (text:ByteArray):List Nat:=(List.range 18).map fun (k:Nat)=>chainN ((ztc text).getD k 0) (yfz seed i k)
noncomputable def signN (seed:ByteArray) (h i:Nat) (text:ByteArray):Sg:=⟨i,chainsN seed i text,zlc (leavesN seed h) i⟩
theorem yni (seed:ByteArray) (n i:Nat) (text:ByteArray) (hs:seed.size<=64) (hh:n<=8) (hi:i<2 ^ n) (ht:text.size<=9223372036854775807):
  zq Tryz.prog G37 41 [sS seed,sI n,sI i,sS text] (.tup [.agg ((signN seed n i text).cells.map .imm),sI (0:Nat)]):=by
 have hp:=yyu n hh;have h256:2 ^ n<=256:=Nat.le_trans (Nat.pow_le_pow_right (by decide) hh) (by decide);have c1:=zqy G37 seed n hs hh;have c2:=zwf G37 text ht;have c3:=zqx seed n (by omega) hh;have c4:=zzm G37 (leavesN seed n) i (by rw [zam];exact hi) (by rw [zam];omega) (fun x hx=>by rw [znc seed n x hx];decide);have hfl:=zvr text;have hfle:=ycd text;unfold signN chainsN;generalize leavesN seed n=ls at c3 c4 ⊢;generalize zlc ls i=pa at c4 ⊢;generalize ztc text=fg at c2 hfl hfle ⊢;refine zh Tryz.func41 rfl (by rw [Tryz.ntmps41];simp) rfl rfl ?_;intro E hH hK;(refine ze ?_;conv=>whnf);refine zd rfl  c1 ?_;(refine zj [777,26] 1000 ?_;conv=>whnf);refine ylz rfl rfl rfl rfl rfl (by omega) ?_;rw [Int.toNat_natCast,hp];(refine zc ?_;conv=>whnf)
 repeat' ((with_reducible refine way ?_ ?_)<;>(intro h;conv=>whnf))
 all_goals try (exfalso;omega)
 refine zd rfl  c2 ?_;(refine zc ?_;conv=>whnf);refine zeu 1 1 1 (cs:=[sI i,.imm (.val (.slice none 0 0)),.imm (.val (.slice none 0 0))]) rfl rfl ?_;refine zg [0,1,2,8,9,10,33,34] ?_;obtain ⟨F,hF⟩:∃F:Nat->Nat,F=fun k=>chainN (fg.getD k 0) (yfz seed i k):=⟨_,rfl⟩
 rw [<-hF] at hK;change SW E _ [(0,sS seed),(1,sI n),(2,sI i),(8,.ptr 0 0),(9,sI (0:Nat)),(10,.ptr 1 0),(33,.agg (fg.map fun (n:Nat)=>sI n)),(34,sI (0:Nat))]
  [.cells [sI (0:Nat),.imm (.val (.slice none 0 0)),.imm (.val (.slice none 0 0))],.cells [sI i,.asl 2 1 (([]:List Nat).map fun (n:Nat)=>[dU n]),.imm (.val (.slice none 0 0))],.tok 1 (([]:List Nat).map fun (n:Nat)=>[dU n]).length]
 refine zp (List.range 18) (fun j (_:List Nat)=>[(0,sS seed),(1,sI n),(2,sI i),(8,.ptr 0 0),(9,sI (0:Nat)),(10,.ptr 1 0),(33,.agg (fg.map fun (n:Nat)=>sI n)),(34,sI j)])
  (fun _ l=>[.cells [sI (0:Nat),.imm (.val (.slice none 0 0)),.imm (.val (.slice none 0 0))],.cells [sI i,.asl 2 1 (l.map fun (n:Nat)=>[dU n]),.imm (.val (.slice none 0 0))],.tok 1 (l.map fun (n:Nat)=>[dU n]).length])
  (fun done _ l=>l=done.map F) [] rfl ?_ ?_
 ·rintro l h1
  have h1:l=(List.range 18).map F:=h1;rw [<-h1] at hK;clear h1 hF;refine ja ?_;change SW E _ [(0,sS seed),(1,sI n),(2,sI i),(8,.ptr 0 0),(9,sI (0:Nat)),(10,.ptr 1 0),(33,.agg (SV.solid.solidL (fg.map fun (n:Nat)=>sI n))),(34,sI (List.range 18).length)]
   [.cells [sI (0:Nat),.imm (.val (.slice none 0 0)),.imm (.val (.slice none 0 0))],.cells [sI i,.imm (xq l),.imm (.val (.slice none 0 0))],.tok 1 (l.map fun (n:Nat)=>[dU n]).length]
  (refine ze ?_;conv=>whnf)
  repeat' ((with_reducible refine way ?_ ?_)<;>(intro h;conv=>whnf))
  all_goals try (exfalso;omega)
  refine zd rfl  c3 ?_;(refine zc ?_;conv=>whnf);refine zd rfl  c4 ?_;(refine zc ?_;conv=>whnf);exact hK _
 ·rintro done j rest l hda hdl h1 ih
  have h1:l=done.map F:=h1;have hj:j=done.length:=by
   have h2:(List.range 18)[done.length]?=some j:=by rw [hda];simp
   rw [List.getElem?_range (by simp at hdl;omega)] at h2;exact (Option.some.inj h2).symm
  have h18:done.length<18:=by simp at hdl;omega
  have hw:=zk (n:=done.length) (by omega);have hll:l.length=done.length:=by rw [h1];simp
  have hnx:=ih (l++[F done.length]) (by show l++_=(done++[j]).map F;rw [h1,hj];simp);have hFd:F done.length=chainN (fg.getD done.length 0) (yfz seed i done.length):=by rw [hF]
  have hdg:fg.getD done.length 0<=15:=hfle _ (by rw [List.getD_eq_getElem?_getD,List.getElem?_eq_getElem (by omega)];exact List.getElem_mem _);have hgt:(fg.map fun (n:Nat)=>sI n)[done.length]?=some (sI (fg.getD done.length 0)):=by
   rw [List.getElem?_map,List.getD_eq_getElem?_getD,List.getElem?_eq_getElem (by omega)];rfl
  have d1:=zqr seed (i:Int) (done.length:Int) (by omega) (by omega) (by omega);have d2:=zzk (yfz seed i done.length) (fg.getD done.length 0) (zab _) hdg;rw [<-hFd] at d2;generalize yfz seed i done.length=sec at d1 d2;generalize fg.getD done.length 0=dg at hdg hgt d2;generalize F done.length=v at d2 hnx;rw [List.map_append] at hnx;clear ih h1 hF hFd;(refine zm [777,37] 1000 ?_;conv=>whnf)
  repeat' ((with_reducible refine way ?_ ?_)<;>(intro h;conv=>whnf))
  all_goals try (exfalso;omega)
  refine yiw (v:=sI dg) rfl rfl rfl rfl rfl rfl rfl rfl rfl h18 hgt ?_;(refine zc ?_;conv=>whnf);(refine xf 0 mixed rfl ?_;refine zn [777] (nx:=3) ?_;conv=>whnf);refine zpe rfl (show 3<=3 by decide) d1 ?_;(refine zn [777] (nx:=3) ?_;conv=>whnf);refine zpe rfl (show 3<=3 by decide) d2 ?_;(refine zn [777] (nx:=3) ?_;conv=>whnf);refine zev (b:=2) (kk:=1) (rows:=l.map fun (n:Nat)=>[dU n]) (new:=[[dU v]]) rfl rfl rfl rfl rfl rfl rfl rfl rfl rfl ⟨show 8<=65536 by decide,rfl⟩ (show 3<=3 by decide) rfl (by simp;omega) ?_;refine zaf ⟨_,[],none⟩ rfl rfl (show 3<=3 by decide) (fun _ _ _=>rfl) ?_;refine xa (b:=1) (off:=1) (d:=[sI i]) (zz:=.asl 2 1 (l.map fun (n:Nat)=>[dU n])) (r:=[.imm (.val (.slice none 0 0))]) (v:=.asl 2 1 ((l.map fun (n:Nat)=>[dU n])++[[dU v]])) rfl rfl rfl rfl rfl rfl rfl rfl (show 3<=3 by decide) rfl rfl ?_;refine qf (by kernel_rfl) ?_;(refine ze ?_;conv=>whnf);rw [hw];refine zg [0,1,2,8,9,10,33,34] ?_;exact hnx
variable (G:List (Nat × D))
theorem zwg (s : ByteArray) : zq Tryz.prog G 80 [sS s] (sB (qj s)) := by
  refine zh Tryz.func80 rfl (by rw [Tryz.ntmps80]; simp) rfl rfl ?_; intro E hH hK
  have hl := zkm s
  (refine xg ?_; conv => whnf)
  repeat' ((with_reducible refine way ?_ ?_) <;> (intro h; conv => whnf))
  · cases hs : s.data.toList with
    | nil => exact absurd (zpj hs) ‹_›
    | cons b0 r0 =>
      have h0 : s.data.toList[0]? = some b0 := by rw [hs]; rfl
      have bad : zeb b0 = false -> qj s = false := fun h => by simp [qj, hs, zdk, h]
      refine zbm rfl rfl rfl rfl rfl rfl  h0 ?_
      (refine wa ?_; conv => whnf)
      repeat' ((with_reducible refine way ?_ ?_) <;> (intro h; conv => whnf))
      · refine zbm rfl rfl rfl rfl rfl rfl  h0 ?_
        (refine wa ?_; conv => whnf)
        repeat' ((with_reducible refine way ?_ ?_) <;> (intro h; conv => whnf))
        · exact kB hK (bad (by simp [zeb]; omega))
        · have hhead : zdk s.data.toList = true := by rw [hs]; simp [zdk, zeb]; omega
          have hsz : s.size <= 16 := by omega
          clear hs
          refine zg [0, 23, 24] ?_
          refine yy (σ := List UInt8 × List UInt8) (fun x => [(0, sS s), (23, sI s.size), (24, sI x.1.length)]) (fun _ => [])
            (fun x => s.data.toList = x.1 ++ x.2 /\ x.1.all zvl = true) (fun x => x.2.length) ?_ ([], s.data.toList) ⟨rfl, rfl⟩
          rintro ⟨done, rest⟩ ⟨ha, hv⟩ ih
          dsimp only at ha hv ih ⊢
          have hlen : done.length + rest.length = s.size := by rw [<- hl, ha]; simp
          (refine xg ?_; conv => whnf)
          repeat' ((with_reducible refine way ?_ ?_) <;> (intro h; conv => whnf))
          · cases rest with
            | nil => simp at hlen; omega
            | cons b rest =>
              have hget : s.data.toList[done.length]? = some b := by rw [ha]; simp
              have hw : IntKind.i64.wrap ((done.length : Int) + 1) = (((done ++ [b]).length : Nat) : Int) := by rw [zk (by omega)]; simp
              have bad : zvl b = false -> qj s = false := fun h => by simp [qj, ha, h]
              refine zbm rfl rfl rfl rfl rfl rfl  hget ?_
              (refine wa ?_; conv => whnf)
              repeat' ((with_reducible refine way ?_ ?_) <;> (intro h; conv => whnf))
              all_goals first
                | exact kB hK (bad (by simp [zvl, zeb, zxr]; omega))
                | (rw [hw]
                   refine zg [0, 23, 24] (ih (done ++ [b], rest) ⟨by simp [ha], ?_⟩ (by simp))
                   simp [hv, zvl, zeb, zxr]; omega)
          · cases rest with
            | nil => exact kB hK (by rw [List.append_nil] at ha; unfold qj; rw [hhead, ha, hv]; simp [hsz])
            | cons b rest => simp at hlen; omega
      · exact kB hK (bad (by simp [zeb]; omega))
  · exact kB hK (by simp [qj]; omega)
  · exact kB hK (by rw [h]; rfl)
structure Rw where
 label:ByteArray
 cents:Int
 reason:ByteArray
def Rw.cells (r:Rw):List D:=[zfq r.label,dI r.cents,zfq r.reason]
def znp (l:List Rw):D:=.isl 3 (l.map Rw.cells)
theorem znd (c:Int):zq Tryz.prog G 126 [sI c] (sB (decide (-500000000<=c)&&decide (c<=500000000))):=by
 refine zh Tryz.func126 rfl (by rw [Tryz.ntmps126];simp) rfl rfl ?_;intro E hH hK;(refine ze ?_;conv=>whnf)
 repeat' ((with_reducible refine way ?_ ?_)<;>(intro h;conv=>whnf))
 ·exact kB hK (by simp [*])
 ·exact kB hK (by simp [*])
def yxm:Option Int->Int->Bool
 |none,_=>true
 |some q,v=>decide (q<v)
def zjs (n:Int):Option Int->List Int->Bool
 |_,[]=>true
 |p,v::r=>decide (0<=v)&&decide (v<n)&&yxm p v&&zjs n (some v) r
theorem zsm (l:List Int) (n:Int) (hl:l.length<=1000000):zq Tryz.prog G 38 [.imm (yv l),sI n] (sB (zjs n none l)):=by
 have hml:(l.map fun (n:Int)=>[dI n]).length=l.length:=by simp
 refine zh Tryz.func38 rfl (by rw [Tryz.ntmps38];simp) rfl rfl ?_;intro E hH hK;(refine ze ?_;conv=>whnf);refine zg [0,1,7,8,9] ?_;change SW E _ [(0,.imm (yv l)),(1,sI n),(7,.imm (yv l)),(8,sI (l.map fun (n:Int)=>[dI n]).length),(9,sI (0:Nat))] [];refine zp l (fun i (_:Option Int)=>[(0,.imm (yv l)),(1,sI n),(7,.imm (yv l)),(8,sI (l.map fun (n:Int)=>[dI n]).length),(9,sI i)]) (fun _ _=>[])
  (fun done rest p=>zjs n none l=zjs n p rest/\p=done.getLast?) none ⟨rfl,rfl⟩ ?_ ?_
 ·rintro p ⟨h1,_⟩
  rw [h1] at hK;(refine ze ?_;conv=>whnf)
  repeat' ((with_reducible refine way ?_ ?_)<;>(intro h;conv=>whnf))
  all_goals try (exfalso;omega)
  exact hK _
 ·rintro done v rest p hda hdl ⟨h1,h2⟩ ih
  have hw:=zk (n:=done.length) (by omega);have hrow:(l.map fun (n:Int)=>[dI n])[((done.length:Nat):Int).toNat]?=some [dI v]:=by simp [hda]
  have hnx:zjs n none l=zjs n (some v) rest->SW E _ _ _:=fun h=>ih (some v) ⟨h,by simp⟩
  rw [zjs] at h1;have hbad:∀b,b=false->zjs n none l=b->E.K (sB false) []:=fun b hb h=>by
   have:=hK [];rw [h,hb] at this;exact this
  rcases List.eq_nil_or_concat done with rfl|⟨d',q,hdq⟩
  ·have h2:p=none:=h2
   subst h2;(refine ze ?_;conv=>whnf)
   repeat' ((with_reducible refine way ?_ ?_)<;>(intro h;conv=>whnf))
   all_goals try (exfalso;omega)
   refine zi rfl rfl  hrow ?_;(refine zc ?_;conv=>whnf)
   repeat' ((with_reducible refine way ?_ ?_)<;>(intro h;conv=>whnf))
   all_goals try (exfalso;omega)
   ·rw [hw]
    refine zg [0,1,7,8,9] (hnx ?_);rw [h1,decide_eq_true (show 0<=v by omega),decide_eq_true (show v<n by omega)];rfl
   ·exact hbad _ (by rw [decide_eq_false (show ¬v<n by omega)];simp) h1
   ·exact hbad _ (by rw [decide_eq_false (show ¬0<=v by omega)];simp) h1
  ·rw [List.concat_eq_append] at hdq
   have h2:p=some q:=by rw [h2,hdq];simp
   subst h2;have hql:done.length=d'.length+1:=by rw [hdq];simp
   have hq:(l.map fun (n:Int)=>[dI n])[d'.length]?=some [dI q]:=by simp [hda,hdq]
   have hwm:IntKind.i64.wrap ((done.length:Int)-1)=(d'.length:Int):=by rw [zt (by omega) (by omega)];omega
   (refine ze ?_;conv=>whnf)
   repeat' ((with_reducible refine way ?_ ?_)<;>(intro h;conv=>whnf))
   all_goals try (exfalso;omega)
   refine zi rfl rfl  hrow ?_;(refine zc ?_;conv=>whnf)
   repeat' ((with_reducible refine way ?_ ?_)<;>(intro h;conv=>whnf))
   all_goals try (exfalso;omega)
   ·refine zi (i:=d'.length) (row:=[dI q]) rfl hwm hq ?_
    (refine zc ?_;conv=>whnf)
    repeat' ((with_reducible refine way ?_ ?_)<;>(intro h;conv=>whnf))
    ·exact hbad _ (by rw [show yxm (some q) v=decide (q<v) from rfl,decide_eq_false (show ¬q<v by omega)];simp) h1
    ·rw [hw]
     refine zg [0,1,7,8,9] (hnx ?_);rw [h1,decide_eq_true (show 0<=v by omega),decide_eq_true (show v<n by omega),show yxm (some q) v=decide (q<v) from rfl,decide_eq_true (show q<v by omega)];rfl
   ·exact hbad _ (by rw [decide_eq_false (show ¬v<n by omega)];simp) h1
   ·exact hbad _ (by rw [decide_eq_false (show ¬0<=v by omega)];simp) h1
theorem zld (n:Int):∀(l:List Int) (p:Option Int),zjs n p l=true->l.Pairwise (· < ·)/\(∀x∈l,0<=x/\x<n)/\(∀q∈p,∀x∈l,q<x)
 |[],p,_=>⟨.nil,fun x hx=>(by cases hx),fun q _ x hx=>(by cases hx)⟩
 |v::r,p,h=>by
  have h:(decide (0<=v)&&decide (v<n)&&yxm p v&&zjs n (some v) r)=true:=h;simp only [Bool.and_eq_true,decide_eq_true_eq] at h;obtain ⟨⟨⟨h1,h2⟩,h3⟩,h4⟩:=h;obtain ⟨g1,g2,g3⟩:=zld n r (some v) h4;have g3:=g3 v rfl;refine ⟨List.pairwise_cons.2 ⟨g3,g1⟩,fun x hx=>?_,fun q hq x hx=>?_⟩
  ·rcases List.mem_cons.1 hx with rfl|hx
   ·exact ⟨h1,h2⟩
   ·exact g2 x hx
  ·cases hq
   have h3:q<v:=by simpa [yxm] using h3
   rcases List.mem_cons.1 hx with rfl|hx
   ·exact h3
   ·have:=g3 x hx;omega
def znq (n:Nat) (l:List Int):List Bool:=(List.range n).map fun (i:Nat)=> !decide ((i:Int)∈l)
theorem yix (l:List Int) (n:Nat) (hs:zjs n none l=true) (hl:l.length<=1000000) (hn:n<=1000000):zq Tryz.prog G 43 [.imm (yv l),sI n] (.imm (zag (znq n l))):=by
 obtain ⟨hp,hb,_⟩:=zld n l none hs;have hml:(l.map fun (n:Int)=>[dI n]).length=l.length:=by simp
 refine zh Tryz.func43 rfl (by rw [Tryz.ntmps43];simp) rfl rfl ?_;intro E hH hK;(refine ze ?_;conv=>whnf);refine yfe ?_;(refine ze ?_;conv=>whnf);refine zms (n:=n) (zz:=sB false) rfl rfl rfl rfl rfl rfl rfl rfl rfl ⟨show 1<=65536 by decide,rfl⟩ rfl rfl rfl (by omega) ?_;(refine zc ?_;conv=>whnf);refine yel ?_;(refine ze ?_;conv=>whnf);refine zg [0,5,6,11,12] ?_;change SW E _ [(0,.imm (yv l)),(5,.osl 0 0 n),(6,sI (0:Nat)),(11,sI n),(12,sI (0:Nat))] [.cells (([]:List Bool).map sB++List.replicate n (sB false))];have hrl:(List.range n).length=n:=List.length_range;have hrn:sI (n:Nat)=sI ((List.range n).length:Nat):=by rw [hrl]
 rw [hrn];refine zp (List.range n) (fun i (y:List Int × List Int × List Bool)=>[(0,.imm (yv l)),(5,.osl 0 0 n),(6,sI y.1.length),(11,sI (List.range n).length),(12,sI i)]) (fun i y=>[.cells (y.2.2.map sB++List.replicate (n-i) (sB false))])
  (fun done _ y=>l=y.1++y.2.1/\(∀x∈y.1,x<done.length)/\(∀x∈y.2.1,(done.length:Int)<=x)/\y.2.2=(List.range done.length).map fun (i:Nat)=> !decide ((i:Int)∈l)) ([],l,[]) ⟨rfl,fun x hx=>(by cases hx),fun x hx=>(hb x hx).1,rfl⟩ ?_ ?_
 ·rintro ⟨pre,post,mk⟩ ⟨h1,h2,h3,h4⟩
  have h4:mk=znq n l:=by unfold znq;rw [<-hrl];exact h4
  have hmk:mk.length=n:=by rw [h4];simp [znq]
  have hch:qo 1 (mk.map dB) n=mk.map fun b=>[dB b]:=by
   have:=zhv (mk.map dB);rw [List.length_map,hmk,List.map_map] at this;exact this
  rw [<-h4] at hK;have h0:List.replicate (n-(List.range n).length) (sB false)=[]:=by rw [hrl,Nat.sub_self];rfl
  refine zki 0 n 1 (cs:=mk.map sB) (junk:=[]) (ds:=mk.map dB) (t':=[(0,.imm (yv l)),(5,.imm (zag mk)),(6,sI pre.length),(11,sI (List.range n).length),(12,sI (List.range n).length)]) (H':=[.dead]) (by simp) (by simp [SV.one]) (by rw [show mk.map sB=(mk.map dB).map SV.imm by simp];exact zkf _) (by simp [hmk]) (by rw [hch];simp [SV.shut,zag]) (by simp [SObj.shut]) ?_;(refine ze ?_;conv=>whnf)
  repeat' ((with_reducible refine way ?_ ?_)<;>(intro h;conv=>whnf))
  all_goals try (exfalso;omega)
  exact hK _
 ·rintro done j rest ⟨pre,post,mk⟩ hda hdl ⟨h1,h2,h3,h4⟩ ih
  simp only at h1 h2 h3 h4;have hdn:done.length<n:=by omega
  have hw:=zk (n:=done.length) (by omega);have hmk:mk.length=done.length:=by rw [h4];simp
  have hpl:pre.length+post.length=l.length:=by rw [h1];simp
  have hdl1:(done++[j]).length=done.length+1:=by simp
  have hrep:List.replicate (n-done.length) (sB false)=sB false::List.replicate (n-(done.length+1)) (sB false):=by rw [show n-done.length=n-(done.length+1)+1 by omega];rfl
  have hin:∀post',post=(done.length:Int)::post'->SW E _ [(0,.imm (yv l)),(5,.osl 0 0 n),(6,sI (pre.length+1:Nat)),(11,sI (List.range n).length),(12,sI (done.length+1:Nat))] [.cells (mk.map sB++sB false::List.replicate (n-(done.length+1)) (sB false))]:=fun post' e=>by
   subst e;have hmem:((done.length:Nat):Int)∈l:=by rw [h1];simp
   have:=ih (pre++[(done.length:Int)],post',mk++[false]) ⟨by rw [h1];simp,fun x hx=>by
     rw [hdl1];rcases List.mem_append.1 hx with hx|hx
     ·have:=h2 x hx;omega
     ·have:x=(done.length:Int):=by simpa using hx
      omega,fun x hx=>by
     rw [hdl1];rw [h1] at hp;have:=(List.pairwise_cons.1 (List.pairwise_append.1 hp).2.1).1 x hx
     omega,by rw [hdl1,List.range_succ,List.map_append, <-h4];simp [hmem]⟩
   simpa using this
  have hout:(∀x∈post,(done.length:Int)≠x)->SW E _ [(0,.imm (yv l)),(5,.osl 0 0 n),(6,sI pre.length),(11,sI (List.range n).length),(12,sI (done.length+1:Nat))] [.cells (mk.map sB++sB true::List.replicate (n-(done.length+1)) (sB false))]:=fun hne=>by
   have hmem:¬((done.length:Nat):Int)∈l:=by
    rw [h1];intro hm;rcases List.mem_append.1 hm with hm|hm
    ·have:=h2 _ hm;omega
    ·exact hne _ hm rfl
   have:=ih (pre,post,mk++[true]) ⟨h1,fun x hx=>by rw [hdl1];have:=h2 x hx;omega,fun x hx=>by
     rw [hdl1];have h5:=h3 x hx;have h6:=hne x hx
     omega,by rw [hdl1,List.range_succ,List.map_append, <-h4];simp [hmem]⟩
   simpa using this
  clear ih h4;rw [hrep];cases post with
  |nil=>
   simp only [List.length_nil] at hpl;(refine ze ?_;conv=>whnf)
   repeat' ((with_reducible refine way ?_ ?_)<;>(intro h;conv=>whnf))
   all_goals try (exfalso;omega)
   ·exfalso
    have h':((pre.length:Nat):Int)<(((l.map fun (n:Int)=>[dI n]).length:Nat):Int):=h;omega
   ·refine zah (i:=done.length) rfl rfl rfl rfl rfl rfl rfl rfl (by omega) ?_
    refine zba (d:=mk.map sB) (zz:=sB false) (r:=List.replicate (n-(done.length+1)) (sB false)) (v:=sB true) rfl rfl rfl rfl rfl rfl rfl rfl rfl (by show 0+done.length*1=_;simp [hmk]) ?_;(refine zc ?_;conv=>whnf);rw [hw];refine zg [0,5,6,11,12] (hout ?_);intro x hx;cases hx
  |cons x post=>
   simp only [List.length_cons] at hpl;have hx:(l.map fun (n:Int)=>[dI n])[pre.length]?=some [dI x]:=by rw [h1];simp
   have hwp:=zk (n:=pre.length) (by omega);rw [h1] at hp;have hgt:=(List.pairwise_cons.1 (List.pairwise_append.1 hp).2.1).1;have hge:=h3 x (by simp);(refine ze ?_;conv=>whnf)
   repeat' ((with_reducible refine way ?_ ?_)<;>(intro h;conv=>whnf))
   all_goals try (exfalso;omega)
   refine zi (i:=pre.length) (row:=[dI x]) rfl rfl hx ?_;(refine zc ?_;conv=>whnf)
   repeat' ((with_reducible refine way ?_ ?_)<;>(intro h;conv=>whnf))
   ·rw [hw,hwp]
    exact zg [0,5,6,11,12] (hin post (by rw [h]))
   ·refine zah (i:=done.length) rfl rfl rfl rfl rfl rfl rfl rfl (by omega) ?_
    refine zba (d:=mk.map sB) (zz:=sB false) (r:=List.replicate (n-(done.length+1)) (sB false)) (v:=sB true) rfl rfl rfl rfl rfl rfl rfl rfl rfl (by show 0+done.length*1=_;simp [hmk]) ?_;(refine zc ?_;conv=>whnf);rw [hw];refine zg [0,5,6,11,12] (hout ?_);intro y hy;rcases List.mem_cons.1 hy with rfl|hy
    ·omega
    ·have:=hgt y hy;omega
   ·exfalso
    have h':¬((pre.length:Nat):Int)<(((l.map fun (n:Int)=>[dI n]).length:Nat):Int):=h;omega
theorem zwh (r:Rw):zq Tryz.prog G 45 [.agg (r.cells.map .imm)] (sI r.cents):=by
 obtain ⟨a,c,b⟩:=r;refine zh Tryz.func45 rfl (by rw [Tryz.ntmps45];simp) rfl rfl ?_;intro E hH hK;(refine ze ?_;conv=>whnf);exact hK _
theorem yiy (n:Int):zq Tryz.prog G 47 [sI n] (sI n):=by
 refine zh Tryz.func47 rfl (by rw [Tryz.ntmps47];simp) rfl rfl ?_;intro E hH hK;(refine ze ?_;conv=>whnf);exact hK _
def qd:List Int->List Bool->Int
 |c::cs,b::bs=>(if b then c else 0)+qd cs bs
 |_,_=>0
theorem zzn (rows:List Rw) (mk:List Bool) (hl:mk.length=rows.length) (hn:rows.length<=1000000) (hb:∀r∈rows, -2000000000<=r.cents/\r.cents<=2000000000):
  zq Tryz.prog G 44 [.imm (znp rows),.imm (zag mk),.fn (.func 45) [] []] (sI (qd (rows.map Rw.cents) mk)):=by
 have hml:(rows.map Rw.cells).length=rows.length:=by simp
 have hkl:(mk.map fun b=>[dB b]).length=mk.length:=by simp
 refine zh Tryz.func44 rfl (by rw [Tryz.ntmps44];simp) rfl rfl ?_;intro E hH hK;(refine ze ?_;conv=>whnf);refine zg [1,2,7,10,11,12] ?_;change SW E _ [(1,.imm (zag mk)),(2,.fn (.func 45) [] []),(7,sI 0),(10,.imm (znp rows)),(11,sI (rows.map Rw.cells).length),(12,sI (0:Nat))] [];refine zp rows (fun i (s:Int)=>[(1,.imm (zag mk)),(2,.fn (.func 45) [] []),(7,sI s),(10,.imm (znp rows)),(11,sI (rows.map Rw.cells).length),(12,sI i)]) (fun _ _=>[])
  (fun done rest s=>qd (rows.map Rw.cents) mk=s+qd (rest.map Rw.cents) (mk.drop done.length)/\ -2000000000*(done.length:Int)<=s/\s<=2000000000*(done.length:Int)) 0 ⟨by simp,by simp,by simp⟩ ?_ ?_
 ·rintro s ⟨h1,_,_⟩
  have h0:qd ([].map Rw.cents) (mk.drop rows.length)=0:=by cases mk.drop rows.length<;>rfl
  rw [h0,Int.add_zero] at h1;rw [h1] at hK;(refine ze ?_;conv=>whnf)
  repeat' ((with_reducible refine way ?_ ?_)<;>(intro h;conv=>whnf))
  all_goals try (exfalso;omega)
  exact hK _
 ·rintro done r rest s hda hdl ⟨h1,h2,h3⟩ ih
  have hw:=zk (n:=done.length) (by omega);have hrow:(rows.map Rw.cells)[((done.length:Nat):Int).toNat]?=some r.cells:=by simp [hda]
  obtain ⟨b,hbb⟩:∃b,mk[done.length]?=some b:=⟨_,List.getElem?_eq_getElem (by omega)⟩;have hrb:(mk.map fun b=>[dB b])[((done.length:Nat):Int).toNat]?=some [dB b]:=by simp [hbb]
  have hbr:=hb r (by rw [hda];simp);have hc:=zwh G r;have hdr:mk.drop done.length=b::mk.drop (done.length+1):=by
   rw [List.drop_eq_getElem_cons (by omega)];rw [List.getElem?_eq_getElem (by omega)] at hbb;rw [Option.some.inj hbb]
  rw [hdr,List.map_cons,qd] at h1;have hnx:SW E _ _ _:=ih (s+(if b then r.cents else 0)) ⟨by rw [h1,Int.add_assoc];congr 2;simp,by rw [List.length_append];simp only [List.length_cons,List.length_nil];split<;>omega,by rw [List.length_append];simp only [List.length_cons,List.length_nil];split<;>omega⟩;clear ih h1 hdr;obtain ⟨la,ce,re⟩:=r;have hws:IntKind.i64.wrap (s+ce)=s+ce:=zt (by simp only at hbr;omega) (by simp only at hbr;omega);(refine ze ?_;conv=>whnf)
  repeat' ((with_reducible refine way ?_ ?_)<;>(intro h;conv=>whnf))
  all_goals try (exfalso;omega)
  refine zi rfl rfl  hrow ?_;(refine zc ?_;conv=>whnf);refine zi rfl rfl  hrb ?_;(refine zc ?_;conv=>whnf);cases b with
  |false=>
   conv=>whnf
   rw [hw];refine yz [1,2,7,10,11,12] 0 (by rw [hH];exact Nat.zero_le 0) (Nat.zero_le _) rfl rfl ?_;rw [if_neg (by decide),Int.add_zero] at hnx;exact hnx
  |true=>
   conv=>whnf
   refine zd rfl  hc ?_;(refine zc ?_;conv=>whnf);rw [hw,hws];refine yz [1,2,7,10,11,12] 0 (by rw [hH];exact Nat.zero_le 0) (Nat.zero_le _) rfl rfl ?_;exact hnx
theorem zzo (rows:List Int) (mk:List Bool) (hl:mk.length=rows.length) (hn:rows.length<=1000000) (hb:∀r∈rows, -2000000000<=r/\r<=2000000000):
  zq Tryz.prog G 46 [.imm (yv rows),.imm (zag mk),.fn (.func 47) [] []] (sI (qd rows mk)):=by
 have hml:(rows.map fun (n:Int)=>[dI n]).length=rows.length:=by simp
 have hkl:(mk.map fun b=>[dB b]).length=mk.length:=by simp
 refine zh Tryz.func46 rfl (by rw [Tryz.ntmps46];simp) rfl rfl ?_;intro E hH hK;(refine ze ?_;conv=>whnf);refine zg [1,2,7,10,11,12] ?_;change SW E _ [(1,.imm (zag mk)),(2,.fn (.func 47) [] []),(7,sI 0),(10,.imm (yv rows)),(11,sI (rows.map fun (n:Int)=>[dI n]).length),(12,sI (0:Nat))] [];refine zp rows (fun i (s:Int)=>[(1,.imm (zag mk)),(2,.fn (.func 47) [] []),(7,sI s),(10,.imm (yv rows)),(11,sI (rows.map fun (n:Int)=>[dI n]).length),(12,sI i)]) (fun _ _=>[])
  (fun done rest s=>qd rows mk=s+qd rest (mk.drop done.length)/\ -2000000000*(done.length:Int)<=s/\s<=2000000000*(done.length:Int)) 0 ⟨by simp,by simp,by simp⟩ ?_ ?_
 ·rintro s ⟨h1,_,_⟩
  have h0:qd [] (mk.drop rows.length)=0:=by cases mk.drop rows.length<;>rfl
  rw [h0,Int.add_zero] at h1;rw [h1] at hK;(refine ze ?_;conv=>whnf)
  repeat' ((with_reducible refine way ?_ ?_)<;>(intro h;conv=>whnf))
  all_goals try (exfalso;omega)
  exact hK _
 ·rintro done r rest s hda hdl ⟨h1,h2,h3⟩ ih
  have hw:=zk (n:=done.length) (by omega);have hrow:(rows.map fun (n:Int)=>[dI n])[((done.length:Nat):Int).toNat]?=some [dI r]:=by simp [hda]
  obtain ⟨b,hbb⟩:∃b,mk[done.length]?=some b:=⟨_,List.getElem?_eq_getElem (by omega)⟩;have hrb:(mk.map fun b=>[dB b])[((done.length:Nat):Int).toNat]?=some [dB b]:=by simp [hbb]
  have hbr:=hb r (by rw [hda];simp);have hc:=yiy G r;have hdr:mk.drop done.length=b::mk.drop (done.length+1):=by
   rw [List.drop_eq_getElem_cons (by omega)];rw [List.getElem?_eq_getElem (by omega)] at hbb;rw [Option.some.inj hbb]
  rw [hdr,qd] at h1;have hnx:SW E _ _ _:=ih (s+(if b then r else 0)) ⟨by rw [h1,Int.add_assoc];congr 2;simp,by rw [List.length_append];simp only [List.length_cons,List.length_nil];split<;>omega,by rw [List.length_append];simp only [List.length_cons,List.length_nil];split<;>omega⟩;clear ih h1 hdr;have hws:IntKind.i64.wrap (s+r)=s+r:=zt (by omega) (by omega);(refine ze ?_;conv=>whnf)
  repeat' ((with_reducible refine way ?_ ?_)<;>(intro h;conv=>whnf))
  all_goals try (exfalso;omega)
  refine zi rfl rfl  hrow ?_;(refine zc ?_;conv=>whnf);refine zi rfl rfl  hrb ?_;(refine zc ?_;conv=>whnf);cases b with
  |false=>
   conv=>whnf
   rw [hw];refine yz [1,2,7,10,11,12] 0 (by rw [hH];exact Nat.zero_le 0) (Nat.zero_le _) rfl rfl ?_;rw [if_neg (by decide),Int.add_zero] at hnx;exact hnx
  |true=>
   conv=>whnf
   refine zd rfl  hc ?_;(refine zc ?_;conv=>whnf);rw [hw,hws];refine yz [1,2,7,10,11,12] 0 (by rw [hH];exact Nat.zero_le 0) (Nat.zero_le _) rfl rfl ?_;exact hnx
theorem ztx (G:List (Nat × D)) (n:Nat) (h1:1<=n) (hn:n<=1000000):SCall Tryz.prog G 163 [.ptr 0 0,sI n] [.bld 161] (fun r H'=>r= .tup []/\H'=zrz []):=by
 have hg:=ynf G n (by omega);refine ya Tryz.func163 rfl (by rw [Tryz.ntmps163];simp) fun E hH hK=>?_
 (refine ze ?_;conv=>whnf);refine zv rfl rfl rfl rfl rfl rfl ((zps G).mono fun r H' ⟨h1,h2⟩=>⟨by rw [h2];exact Nat.le_refl _,?_⟩);subst h1 h2;(refine zc ?_;conv=>whnf)
 repeat' ((with_reducible refine way ?_ ?_)<;>(intro h;conv=>whnf))
 all_goals try (exfalso;omega)
 (refine yc mixed rfl ?_;refine zf [] ?_;conv=>whnf);(refine ze ?_;conv=>whnf)
 repeat' ((with_reducible refine way ?_ ?_)<;>(intro h;conv=>whnf))
 ·refine zv rfl rfl rfl rfl rfl rfl (hg.mono fun r H' ⟨h1,h2⟩=>⟨by rw [h2];decide,?_⟩)
  subst h1 h2;(refine zc ?_;conv=>whnf);exact hK _ _ ⟨rfl,rfl⟩
 ·exact absurd (show (0:Int)<(n:Int) by omega) h
def szs (l:List ByteArray):Nat:=(l.map ByteArray.size).sum
def zgi (sep:ByteArray):List ByteArray->ByteArray
 |[]=>⟨#[]⟩
 |x::r=>r.foldl (fun s y=>s++sep++y) x
theorem zad (x:ByteArray) (l:List ByteArray):szs (x::l)=x.size+szs l:=by simp [szs]
theorem zmc (a b:List ByteArray):szs (a++b)=szs a+szs b:=by simp [szs]
def zcy (sep:ByteArray) (x:List UInt8) (r:List ByteArray):List UInt8:=r.foldl (fun s y=>s++sep.data.toList++y.data.toList) x
theorem zds (sep:ByteArray):∀(r:List ByteArray) (x:List UInt8),(zcy sep x r).length=x.length+sep.size*r.length+szs r
 |[],x=>by simp [zcy,szs]
 |y::r,x=>by
  show (zcy sep (x++sep.data.toList++y.data.toList) r).length=_;rw [zds sep r,zad];have h1:sep.data.toList.length=sep.size:=by simp
  have h2:y.data.toList.length=y.size:=by simp
  simp only [List.length_append,List.length_cons,h1,h2,Nat.mul_add,Nat.mul_one];omega
theorem zty (sep:ByteArray) (x:List UInt8) (r:List ByteArray) (y:ByteArray):zcy sep x (r++[y])=zcy sep x r++sep.data.toList++y.data.toList:=by
 unfold zcy;rw [List.foldl_append];rfl
theorem yga (sep x:ByteArray) (r:List ByteArray):(zgi sep (x::r)).data.toList=zcy sep x.data.toList r:=by
 show (r.foldl (fun s y=>s++sep++y) x).data.toList=_
 induction r generalizing x with
 |nil=>rfl
 |cons y r ih=>
  rw [List.foldl_cons,ih];show zcy sep (x++sep++y).data.toList r=zcy sep (x.data.toList++sep.data.toList++y.data.toList) r
  congr 1
theorem ztz (G:List (Nat × D)) (sep x:ByteArray) (r:List ByteArray) (hr:r≠[]) (h1:1<=(zcy sep x.data.toList r).length) (h2:(zcy sep x.data.toList r).length<=1000000) (h3:r.length<=100000):
  zq Tryz.prog G 128 [.imm (yr (x::r)),sS sep] (sS (zgi sep (x::r))):=by
 have hjl:=zds sep r x.data.toList;have hxs:x.data.toList.length=x.size:=by simp
 have hrl:1<=r.length:=List.length_pos_iff.2 hr;have hres:zgi sep (x::r)=⟨(zcy sep x.data.toList r).toArray⟩:=by
  have:=yga sep x r;rw [<-this]
 rw [hres];have hlm:((x::r).map fun s=>[dS s]).length=r.length+1:=by simp
 have hll:((x::r).map fun s=>[dS s]).length=(x::r).length:=by simp
 obtain ⟨n0,hn0⟩:∃n,n=sep.size*r.length:=⟨_,rfl⟩;have hz0:sep.size<=n0:=by rw [hn0];exact Nat.le_mul_of_pos_right _ hrl
 have hsep0:¬0<(sep.size:Int)->n0=0:=fun h=>by
  have:sep.size=0:=by omega
  rw [hn0,this,Nat.zero_mul]
 have hjl2:(zcy sep x.data.toList r).length=x.size+n0+szs r:=by rw [hjl,hxs,hn0]
 refine zh Tryz.func128 rfl (by rw [Tryz.ntmps128];simp) rfl rfl ?_;intro E hH hK;(refine zm [777,28] 1000 ?_;conv=>whnf)
 repeat' ((with_reducible refine way ?_ ?_)<;>(intro h;conv=>whnf))
 ·exact absurd h (by rw [hlm];omega)
 ·have hw1:IntKind.i64.wrap ((((x::r).map fun s=>[dS s]).length:Nat)-1:Int)=(r.length:Int):=by rw [hlm,zt (by omega) (by omega)];omega
  have hq1:(9223372036854775807:Nat) / 100000<=9223372036854775807 / r.length:=Nat.div_le_div_left h3 hrl;have hq:IntKind.i64.wrap ((9223372036854775807:Int).tdiv (r.length:Int))=((9223372036854775807 / r.length:Nat):Int):=by
   have hle:9223372036854775807 / r.length<=9223372036854775807:=Nat.div_le_self _ _;rw [Int.tdiv_eq_ediv_of_nonneg (by omega),show (9223372036854775807:Int) / (r.length:Int)=((9223372036854775807 / r.length:Nat):Int) from rfl,zt (by omega) (by omega)]
  have hmul:IntKind.i64.wrap ((sep.size:Int)*(r.length:Int))=(n0:Int):=by
   rw [<-Int.natCast_mul, <-hn0,zt (by omega) (by omega)]
  have hadd:IntKind.i64.wrap (0+(n0:Int))=(n0:Int):=by rw [zt (by omega) (by omega)];omega
  rw [hw1];refine ycy rfl rfl rfl rfl rfl (by omega) ?_;rw [hq];(refine zc ?_;conv=>whnf)
  repeat' ((with_reducible refine way ?_ ?_)<;>(intro h;conv=>whnf))
  all_goals try (exfalso;omega)
  rw [hw1,hmul,hadd];refine zg [0,1,5,39,40,41] ?_;change SW E _ [(0,.imm (yr (x::r))),(1,sS sep),(5,sI n0),(39,.imm (yr (x::r))),(40,sI ((x::r).map fun s=>[dS s]).length),(41,sI (0:Nat))] [];refine zp (x::r) (fun i (s:Nat)=>[(0,.imm (yr (x::r))),(1,sS sep),(5,sI s),(39,.imm (yr (x::r))),(40,sI ((x::r).map fun s=>[dS s]).length),(41,sI i)]) (fun _ _=>[]) (fun done _ s=>s=n0+szs done) n0 rfl ?_ ?_
  ·rintro s hs
   have hs:s=(zcy sep x.data.toList r).length:=by rw [hs,zad,hjl2];omega
   subst hs;have c1:=ztx G (zcy sep x.data.toList r).length h1 h2;have c2:=zal G [] x (by simp;omega);(refine zm [777,8] 1000 ?_;conv=>whnf)
   repeat' ((with_reducible refine way ?_ ?_)<;>(intro h;conv=>whnf))
   all_goals try (exfalso;omega)
   refine zex rfl rfl rfl rfl rfl ?_;(refine zc ?_;conv=>whnf);refine zv rfl rfl rfl rfl rfl rfl (c1.mono fun r H' ⟨h1,h2⟩=>⟨by rw [h2];decide,?_⟩);subst h1 h2;(refine zc ?_;conv=>whnf);refine zi (i:=0) (row:=[dS x]) rfl rfl rfl ?_;(refine zc ?_;conv=>whnf);refine zv rfl rfl rfl rfl rfl rfl (c2.mono fun r H' ⟨h1,h2⟩=>⟨by rw [h2];exact Nat.le_refl _,?_⟩);subst h1 h2;(refine zc ?_;conv=>whnf);refine zkp (m:=1) rfl rfl rfl rfl rfl rfl rfl (by simp) ?_;(refine zc ?_;conv=>whnf);refine zg [1,8,63,64,65] ?_;change SW E _ [(1,sS sep),(8,.ptr 0 0),(63,.imm (yr r)),(64,sI (r.map fun s=>[dS s]).length),(65,sI (0:Nat))] (zrz x.data.toList);have hlr:(r.map fun s=>[dS s]).length=r.length:=by simp
   refine zp r (fun i (_:List UInt8)=>[(1,sS sep),(8,.ptr 0 0),(63,.imm (yr r)),(64,sI (r.map fun s=>[dS s]).length),(65,sI i)]) (fun _ l=>zrz l) (fun done _ l=>l=zcy sep x.data.toList done) x.data.toList rfl ?_ ?_
   ·rintro l hl
    have hl:l=zcy sep x.data.toList r:=hl;rw [<-hl] at hK;have hne:l≠[]:=by intro e;rw [hl] at e;rw [e] at h1;simp at h1
    have c5:=zey G l hne (by rw [hl];exact h2);(refine ze ?_;conv=>whnf)
    repeat' ((with_reducible refine way ?_ ?_)<;>(intro h;conv=>whnf))
    all_goals try (exfalso;omega)
    refine zv rfl rfl rfl rfl rfl rfl (c5.mono fun r H' ⟨h1,h2⟩=>⟨by rw [h2];exact Nat.le_refl _,?_⟩);subst h1 h2;(refine zc ?_;conv=>whnf);exact hK _
   ·rintro done y rest l hda hdl hl ih
    have hl:l=zcy sep x.data.toList done:=hl;have hw:=zk (n:=done.length) (by omega);have hrow:(r.map fun s=>[dS s])[((done.length:Nat):Int).toNat]?=some [dS y]:=by rw [hda];simp
    have hbound:l.length+sep.size+y.size<=1000000:=by
     have e1:=zds sep done x.data.toList;have e2:szs r=szs done+y.size+szs rest:=by rw [hda,zmc,zad];omega
     rw [<-hl] at e1;rw [hdl,Nat.mul_add,Nat.mul_add,Nat.mul_one] at hjl;omega
    have hsl:sep.data.toList.length=sep.size:=by simp
    have c3:=zal G l sep (by omega);have c4:=zal G (l++sep.data.toList) y (by rw [List.length_append,hsl];exact hbound);have hnx:=ih (l++sep.data.toList++y.data.toList) (by show _=zcy sep x.data.toList (done++[y]);rw [zty,hl]);(refine ze ?_;conv=>whnf)
    repeat' ((with_reducible refine way ?_ ?_)<;>(intro h;conv=>whnf))
    all_goals try (exfalso;omega)
    refine zi rfl rfl  hrow ?_;(refine zc ?_;conv=>whnf);refine zv rfl rfl rfl rfl rfl rfl (c3.mono fun r H' ⟨h1,h2⟩=>⟨by rw [h2];exact Nat.le_refl _,?_⟩);subst h1 h2;(refine zc ?_;conv=>whnf);refine zv rfl rfl rfl rfl rfl rfl (c4.mono fun r H' ⟨h1,h2⟩=>⟨by rw [h2];exact Nat.le_refl _,?_⟩);subst h1 h2;(refine zc ?_;conv=>whnf);rw [hw];exact zg [1,8,63,64,65] hnx
  ·rintro done y rest s hda hdl hs ih
   have hdl2:r.length+1=done.length+1+rest.length:=by simpa using hdl
   have hw:=zk (n:=done.length) (by omega);have hrow:((x::r).map fun s=>[dS s])[((done.length:Nat):Int).toNat]?=some [dS y]:=by rw [hda];simp
   have hsum:szs (x::r)=szs done+y.size+szs rest:=by rw [hda,zmc,zad];omega
   rw [zad] at hsum;have hs:s=n0+szs done:=hs;have hnx:=ih (s+y.size) (by show s+y.size=n0+szs (done++[y]);rw [zmc,hs];simp [szs];omega);have hw2:IntKind.i64.wrap (9223372036854775807-(s:Int))=9223372036854775807-(s:Int):=zt (by omega) (by omega);have hw3:IntKind.i64.wrap ((s:Int)+(y.size:Int))=((s+y.size:Nat):Int):=by rw [zt (by omega) (by omega)];omega
   (refine ze ?_;conv=>whnf)
   repeat' ((with_reducible refine way ?_ ?_)<;>(intro h;conv=>whnf))
   all_goals try (exfalso;omega)
   refine zi rfl rfl  hrow ?_;(refine zc ?_;conv=>whnf);rw [hw2]
   repeat' ((with_reducible refine way ?_ ?_)<;>(intro h;conv=>whnf))
   all_goals try (exfalso;omega)
   rw [hw,hw3];exact zg [0,1,5,39,40,41] hnx
 ·have hn00:=hsep0 h
  have hz:∀t' H',SW E t' [(0,.imm (yr (x::r))),(1,sS sep),(5,sI n0),(39,.imm (yr (x::r))),(40,sI ((x::r).map fun s=>[dS s]).length),(41,sI (0:Nat))] H'->SW E t' [(0,.imm (yr (x::r))),(1,sS sep),(5,sI 0),(39,.imm (yr (x::r))),(40,sI ((x::r).map fun s=>[dS s]).length),(41,sI (0:Nat))] H':=fun _ _ h=>by rw [hn00] at h;exact h
  refine zg [0,1,5,39,40,41] ?_;refine hz _ _ ?_;change SW E _ [(0,.imm (yr (x::r))),(1,sS sep),(5,sI n0),(39,.imm (yr (x::r))),(40,sI ((x::r).map fun s=>[dS s]).length),(41,sI (0:Nat))] [];refine zp (x::r) (fun i (s:Nat)=>[(0,.imm (yr (x::r))),(1,sS sep),(5,sI s),(39,.imm (yr (x::r))),(40,sI ((x::r).map fun s=>[dS s]).length),(41,sI i)]) (fun _ _=>[]) (fun done _ s=>s=n0+szs done) n0 rfl ?_ ?_
  ·rintro s hs
   have hs:s=(zcy sep x.data.toList r).length:=by rw [hs,zad,hjl2];omega
   subst hs;have c1:=ztx G (zcy sep x.data.toList r).length h1 h2;have c2:=zal G [] x (by simp;omega);(refine zm [777,8] 1000 ?_;conv=>whnf)
   repeat' ((with_reducible refine way ?_ ?_)<;>(intro h;conv=>whnf))
   all_goals try (exfalso;omega)
   refine zex rfl rfl rfl rfl rfl ?_;(refine zc ?_;conv=>whnf);refine zv rfl rfl rfl rfl rfl rfl (c1.mono fun r H' ⟨h1,h2⟩=>⟨by rw [h2];decide,?_⟩);subst h1 h2;(refine zc ?_;conv=>whnf);refine zi (i:=0) (row:=[dS x]) rfl rfl rfl ?_;(refine zc ?_;conv=>whnf);refine zv rfl rfl rfl rfl rfl rfl (c2.mono fun r H' ⟨h1,h2⟩=>⟨by rw [h2];exact Nat.le_refl _,?_⟩);subst h1 h2;(refine zc ?_;conv=>whnf);refine zkp (m:=1) rfl rfl rfl rfl rfl rfl rfl (by simp) ?_;(refine zc ?_;conv=>whnf);refine zg [1,8,63,64,65] ?_;change SW E _ [(1,sS sep),(8,.ptr 0 0),(63,.imm (yr r)),(64,sI (r.map fun s=>[dS s]).length),(65,sI (0:Nat))] (zrz x.data.toList);have hlr:(r.map fun s=>[dS s]).length=r.length:=by simp
   refine zp r (fun i (_:List UInt8)=>[(1,sS sep),(8,.ptr 0 0),(63,.imm (yr r)),(64,sI (r.map fun s=>[dS s]).length),(65,sI i)]) (fun _ l=>zrz l) (fun done _ l=>l=zcy sep x.data.toList done) x.data.toList rfl ?_ ?_
   ·rintro l hl
    have hl:l=zcy sep x.data.toList r:=hl;rw [<-hl] at hK;have hne:l≠[]:=by intro e;rw [hl] at e;rw [e] at h1;simp at h1
    have c5:=zey G l hne (by rw [hl];exact h2);(refine ze ?_;conv=>whnf)
    repeat' ((with_reducible refine way ?_ ?_)<;>(intro h;conv=>whnf))
    all_goals try (exfalso;omega)
    refine zv rfl rfl rfl rfl rfl rfl (c5.mono fun r H' ⟨h1,h2⟩=>⟨by rw [h2];exact Nat.le_refl _,?_⟩);subst h1 h2;(refine zc ?_;conv=>whnf);exact hK _
   ·rintro done y rest l hda hdl hl ih
    have hl:l=zcy sep x.data.toList done:=hl;have hw:=zk (n:=done.length) (by omega);have hrow:(r.map fun s=>[dS s])[((done.length:Nat):Int).toNat]?=some [dS y]:=by rw [hda];simp
    have hbound:l.length+sep.size+y.size<=1000000:=by
     have e1:=zds sep done x.data.toList;have e2:szs r=szs done+y.size+szs rest:=by rw [hda,zmc,zad];omega
     rw [<-hl] at e1;rw [hdl,Nat.mul_add,Nat.mul_add,Nat.mul_one] at hjl;omega
    have hsl:sep.data.toList.length=sep.size:=by simp
    have c3:=zal G l sep (by omega);have c4:=zal G (l++sep.data.toList) y (by rw [List.length_append,hsl];exact hbound);have hnx:=ih (l++sep.data.toList++y.data.toList) (by show _=zcy sep x.data.toList (done++[y]);rw [zty,hl]);(refine ze ?_;conv=>whnf)
    repeat' ((with_reducible refine way ?_ ?_)<;>(intro h;conv=>whnf))
    all_goals try (exfalso;omega)
    refine zi rfl rfl  hrow ?_;(refine zc ?_;conv=>whnf);refine zv rfl rfl rfl rfl rfl rfl (c3.mono fun r H' ⟨h1,h2⟩=>⟨by rw [h2];exact Nat.le_refl _,?_⟩);subst h1 h2;(refine zc ?_;conv=>whnf);refine zv rfl rfl rfl rfl rfl rfl (c4.mono fun r H' ⟨h1,h2⟩=>⟨by rw [h2];exact Nat.le_refl _,?_⟩);subst h1 h2;(refine zc ?_;conv=>whnf);rw [hw];exact zg [1,8,63,64,65] hnx
  ·rintro done y rest s hda hdl hs ih
   have hdl2:r.length+1=done.length+1+rest.length:=by simpa using hdl
   have hw:=zk (n:=done.length) (by omega);have hrow:((x::r).map fun s=>[dS s])[((done.length:Nat):Int).toNat]?=some [dS y]:=by rw [hda];simp
   have hsum:szs (x::r)=szs done+y.size+szs rest:=by rw [hda,zmc,zad];omega
   rw [zad] at hsum;have hs:s=n0+szs done:=hs;have hnx:=ih (s+y.size) (by show s+y.size=n0+szs (done++[y]);rw [zmc,hs];simp [szs];omega);have hw2:IntKind.i64.wrap (9223372036854775807-(s:Int))=9223372036854775807-(s:Int):=zt (by omega) (by omega);have hw3:IntKind.i64.wrap ((s:Int)+(y.size:Int))=((s+y.size:Nat):Int):=by rw [zt (by omega) (by omega)];omega
   (refine ze ?_;conv=>whnf)
   repeat' ((with_reducible refine way ?_ ?_)<;>(intro h;conv=>whnf))
   all_goals try (exfalso;omega)
   refine zi rfl rfl  hrow ?_;(refine zc ?_;conv=>whnf);rw [hw2]
   repeat' ((with_reducible refine way ?_ ?_)<;>(intro h;conv=>whnf))
   all_goals try (exfalso;omega)
   rw [hw,hw3];exact zg [0,1,5,39,40,41] hnx
def HP (b r e:Nat) (lp:SObj):List SObj:=[.cells [sI b],.cells [sI r],.cells [sI e],lp]
theorem ynj (G:List (Nat × D)) (n:Nat) (H:List SObj):SCall Tryz.prog G 127 [sI n] H (fun r H'=>r= .fn (.func 162) [] [.ptr H.length 0]/\H'=H++[.cells [sI n]]):=by
 refine ya Tryz.func127 rfl (by rw [Tryz.ntmps127];simp) ?_;intro E hH hK;(refine ze ?_;conv=>whnf);exact hK _ _ ⟨rfl,rfl⟩
theorem zzp (G:List (Nat × D)) {f:FuncId} {n:Nat} {tL:List (Nat × SV)} {ps:Array Tmp} {asg bd:Code} (hps:1=ps.size)
  (hy:∀b r e,b<prm->r<prm->e<9223372036854775808->SYield Tryz.prog G 3 [sB (decide (e % 2=1))] (HP b r e (.loop .ready f n tL ps asg bd)) (fun res H'=>res=true/\H'=HP (b*b % prm) (if e % 2=1 then r*b % prm else r) e (.loop .ready f n tL ps asg bd)))
  (b r e:Nat) (hb:b<prm) (hr:r<prm) (he:e<9223372036854775808):
  SCall Tryz.prog G 162 [.yld 3,.ptr 2 0] (HP b r e (.loop .ready f n tL ps asg bd)) (fun _ H'=>∃b',H'=HP b' (r*b ^ e % prm) 0 (.loop .ready f n tL ps asg bd)):=by
 refine ya Tryz.func162 rfl (by rw [Tryz.ntmps162];simp) ?_;intro E hH hK;generalize hR:r*b ^ e % prm=R at hK;(refine ze ?_;conv=>whnf);refine zg [0,1] ?_;change SW E _ [(0,.yld 3),(1,.ptr 2 0)] _;refine yy (σ:=Nat × Nat × Nat) (fun _=>[(0,.yld 3),(1,.ptr 2 0)]) (fun x=>HP x.1 x.2.1 x.2.2 (.loop .ready f n tL ps asg bd)) (fun x=>x.2.1*x.1 ^ x.2.2 % prm=R/\x.1<prm/\x.2.1<prm/\x.2.2<9223372036854775808) (fun x=>x.2.2) ?_ (b,r,e) ⟨hR,hb,hr,he⟩;clear hR hb hr he;rintro ⟨b,r,e⟩ ⟨i1,i2,i3,i4⟩ ih;simp only at i1 i2 i3 i4;have w3:=yyr (a:=e) i4;have w4:(e:Int).fdiv (2 ^ min (1:Int).toNat IntKind.i64.bits)=((e / 2:Nat):Int):=ybp e 1;have hend:e=0->r=R:=fun h=>by rw [<-i1,h,Nat.pow_zero,Nat.mul_one];exact (Nat.mod_eq_of_lt i3).symm
 have hnext:¬e=0->SW E _ [(0,.yld 3),(1,.ptr 2 0)] (HP (b*b % prm) (if e % 2=1 then r*b % prm else r) (e / 2) (.loop .ready f n tL ps asg bd)):=fun h0=>by
  refine ih (b*b % prm,(if e % 2=1 then r*b % prm else r),e / 2) ⟨?_,Nat.mod_lt _ (by decide),?_,by simp only;omega⟩ (by simp only;omega)
  ·simp only
   rw [<-i1,Nat.mul_mod, <-Nat.pow_mod, <-Nat.mul_mod, <-Nat.pow_two, <-Nat.pow_mul];split
   ·rw [Nat.mod_mul_mod,Nat.mul_assoc, <-Nat.pow_succ',Nat.succ_eq_add_one,show 2*(e / 2)+1=e by omega]
   ·rw [show 2*(e / 2)=e by omega]
  ·simp only
   split
   ·exact Nat.mod_lt _ (by decide)
   ·exact i3
 have hyy:=hy b r e i2 i3 i4;show SW E _ _ (HP b r e (.loop .ready f n tL ps asg bd));have hdec:decide (((e % 2:Nat):Int)=1)=decide (e % 2=1):=by
  congr 1
  exact propext (by omega)
 (refine ze ?_;conv=>whnf)
 repeat' ((with_reducible refine way ?_ ?_)<;>(intro h;conv=>whnf))
 ·have h0:¬e=0:=by omega
  rw [w3,hdec];refine zpb rfl rfl rfl rfl rfl hps rfl (hyy.mono ?_);rintro _ _ ⟨rfl,rfl⟩;refine ⟨Nat.le_refl _,?_⟩;(refine zc ?_;conv=>whnf);rw [w4];exact zg [0,1] (hnext h0)
 ·have h0:e=0:=by omega
  subst h0;rw [hend rfl];exact hK _ _ ⟨b,rfl⟩
theorem zqz (G:List (Nat × D)) (b e:Nat) (hb:b<prm) (he:e<9223372036854775808):zq Tryz.prog G 84 [sI b,sI e] (sI (zlm b e)):=by
 have hpe:zlm b e=b ^ e % prm:=zgv (by omega);have hb':b<2147483579:=hb;refine zh Tryz.func84 rfl (by rw [Tryz.ntmps84];simp) rfl rfl ?_;intro E hH hK;(refine ze ?_;conv=>whnf)
 repeat' ((with_reducible refine way ?_ ?_)<;>(intro h;conv=>whnf))
 all_goals try (exfalso;omega)
 refine zv rfl rfl rfl rfl rfl rfl ((ynj G e _).mono ?_);rintro _ _ ⟨rfl,rfl⟩;refine ⟨by simp,?_⟩;(refine zc ?_;conv=>whnf);refine zg [2,5,18] ?_;change SW E _ [(2,.ptr 0 0),(5,.ptr 1 0),(18,.fn (.func 162) [] [.ptr 2 0])] [.cells [sI b],.cells [sI (1:Nat)],.cells [sI e]];refine zco rfl rfl ?_;refine (zzp G (tL:=[(2,.ptr 0 0),(5,.ptr 1 0),(18,.fn (.func 162) [] [.ptr 2 0])]) rfl ?_ b 1 e hb (by decide) he).mono ?_
 ·intro b r e hb hr he
  have hbb:b*b<9223372036854775808:=Nat.lt_of_le_of_lt (Nat.mul_le_mul (Nat.le_of_lt hb) (Nat.le_of_lt hb)) (by decide);have hrb:r*b<9223372036854775808:=Nat.lt_of_le_of_lt (Nat.mul_le_mul (Nat.le_of_lt hr) (Nat.le_of_lt hb)) (by decide);have w1:(IntKind.i64.wrap ((b:Int)*(b:Int))).tmod 2147483579=((b*b % prm:Nat):Int):=by
   rw [zt (by rw [<-Int.natCast_mul];omega) (by rw [<-Int.natCast_mul];omega),Int.tmod_eq_emod_of_nonneg (by rw [<-Int.natCast_mul];omega)];rfl
  have w2:(IntKind.i64.wrap ((r:Int)*(b:Int))).tmod 2147483579=((r*b % prm:Nat):Int):=by
   rw [zt (by rw [<-Int.natCast_mul];omega) (by rw [<-Int.natCast_mul];omega),Int.tmod_eq_emod_of_nonneg (by rw [<-Int.natCast_mul];omega)];rfl
  refine zcp (b:=3) rfl E.hfn rfl (by decide) ?_;intro E3 hl3 hOwn hKR;(refine ze ?_;conv=>whnf);refine zke hOwn rfl ?_;(refine ze ?_;conv=>whnf)
  repeat' ((with_reducible refine way ?_ ?_)<;>(intro h;conv=>whnf))
  ·refine hKR none _ _ (Nat.le_refl _) rfl ⟨rfl,?_⟩
   rw [if_pos h];unfold HP;rw [<-w1, <-w2];rfl
  ·refine hKR none _ _ (Nat.le_refl _) rfl ⟨rfl,?_⟩
   rw [if_neg h];unfold HP;rw [<-w1];rfl
 ·rintro r H' ⟨b',rfl⟩
  refine ⟨Nat.le_refl _,.ready,_,rfl,.inl ⟨rfl,?_⟩⟩;rw [Nat.one_mul, <-hpe];(refine ze ?_;conv=>whnf);exact hK _
def ynk (v x:Nat):Nat:=zlm 4 v*zlm 9 x % 2147483579
theorem zjt (v x:Nat) (hv:v<ord) (hx:x<ord):zq Tryz.prog G37 39 [sI v,sI x] (.tup [sI (ynk v x),sI (0:Nat)]):=by
 have hv':v<1073741789:=hv;have hx':x<1073741789:=hx;have c1:=zqz G37 4 v (by decide) (by omega);have c2:=zqz G37 9 x (by decide) (by omega);have l1:=zvm 4 v;have l2:=zvm 9 x;have hm:zlm 4 v*zlm 9 x<9223372036854775808:=Nat.lt_of_le_of_lt (Nat.mul_le_mul (Nat.le_of_lt l1) (Nat.le_of_lt l2)) (by decide);have hw:(IntKind.i64.wrap (((zlm 4 v:Nat):Int)*((zlm 9 x:Nat):Int))).tmod 2147483579=((ynk v x:Nat):Int):=by
  rw [zt (by rw [<-Int.natCast_mul];omega) (by rw [<-Int.natCast_mul];omega),Int.tmod_eq_emod_of_nonneg (by rw [<-Int.natCast_mul];omega)];rfl
 generalize ynk v x=c at hw ⊢;generalize zlm 4 v=p at*;generalize zlm 9 x=q at*;refine zh Tryz.func39 rfl (by rw [Tryz.ntmps39];simp) rfl rfl ?_;intro E hH hK;(refine ze ?_;conv=>whnf)
 repeat' ((with_reducible refine way ?_ ?_)<;>(intro h;conv=>whnf))
 all_goals try (exfalso;omega)
 (refine yc mixed rfl ?_;refine zf [] ?_;conv=>whnf);refine ym rfl  c1 ?_;(refine zf [] ?_;conv=>whnf);refine ym rfl  c2 ?_;(refine zf [] ?_;conv=>whnf);rw [hw];(refine ze ?_;conv=>whnf);exact hK _
theorem yvl (s:ByteArray):s++(⟨#[]⟩:ByteArray)=s:=by
 apply ByteArray.ext
 simp [ByteArray.data_append]
theorem zfz (label:ByteArray) (c:Int) (reason:ByteArray) (h1:label.size<=100000) (h2:reason.size<=100000) (h3: -9000000000000000000<=c/\c<=9000000000000000000):
  zq Tryz.prog G37 40 [sS label,sI c,sS reason] (sS (qk label c reason)):=by
 have c1:=zsh jz (label.size:Int) (by omega) (by omega);have c2:=zsh jz c (by omega) (by omega);have z1:=xh (label.size:Int) (by omega) (by omega);have z2:=xh c (by omega) (by omega);have e:qk label c reason=zgi ⟨#[]⟩ [wu label.size,⟨#[58]⟩,label,wu c,⟨#[32]⟩,reason]:=by
  unfold qk zgi;simp only [List.foldl_cons,List.foldl_nil,yvl]
 rw [e];generalize wu label.size=s1 at*;generalize wu c=s2 at*;have hl:=zds ⟨#[]⟩ [(⟨#[58]⟩:ByteArray),label,s2,⟨#[32]⟩,reason] s1.data.toList;have hs1:s1.data.toList.length=s1.size:=by simp
 have hz:szs [(⟨#[58]⟩:ByteArray),label,s2,⟨#[32]⟩,reason]=1+(label.size+(s2.size+(1+reason.size))):=by
  simp only [zad];show 1+(label.size+(s2.size+(1+(reason.size+0))))=_;omega
 have h0:(⟨#[]⟩:ByteArray).size=0:=rfl;rw [hs1,hz,h0,Nat.zero_mul] at hl;have c3:=ztz G37 ⟨#[]⟩ s1 [(⟨#[58]⟩:ByteArray),label,s2,⟨#[32]⟩,reason] (by simp) (by omega) (by omega) (by simp);generalize zgi ⟨#[]⟩ [s1,(⟨#[58]⟩:ByteArray),label,s2,⟨#[32]⟩,reason]=res at c3 ⊢;have c4:zq Tryz.prog G37 85 [.imm (yr [s1,(⟨#[58]⟩:ByteArray),label,s2,⟨#[32]⟩,reason])] (sS res):=by
  refine zh Tryz.func85 rfl (by rw [Tryz.ntmps85];simp) rfl rfl ?_;intro E hH hK;(refine ze ?_;conv=>whnf);refine zd rfl  c3 ?_;(refine zc ?_;conv=>whnf);exact hK _
 refine zh Tryz.func40 rfl (by rw [Tryz.ntmps40];simp) rfl rfl ?_;intro E hH hK;(refine ze ?_;conv=>whnf);refine zd rfl  c1 ?_;(refine zc ?_;conv=>whnf);refine zd rfl  c2 ?_;(refine zc ?_;conv=>whnf);refine zd rfl  c4 ?_;(refine zc ?_;conv=>whnf);exact hK _
structure Slip where
 person:ByteArray
 month:Int
 rows:List Rw
 blinds:List Int
 root:Nat
def Slip.cells (s:Slip):List D:=[zfq s.person,dI s.month,znp s.rows,yv s.blinds,dU s.root]
def Slip.sv (s:Slip):SV:=.agg (s.cells.map .imm)
def zua (r:Rw) (b:Int):Nat:=zkn r.cents b
def zoh:List Rw->List Int->List Int
 |r::rs,b::bs=>(zua r b:Int)::zoh rs bs
 |_,_=>[]
def zaw:List Rw->List Int->List ByteArray
 |r::rs,b::bs=>qk r.label (zua r b) r.reason::zaw rs bs
 |_,_=>[]
theorem zoi:∀(rs:List Rw) (bs:List Int),bs.length=rs.length->(zoh rs bs).length=rs.length
 |[],[],_=>rfl
 |_::rs,_::bs,h=>by simp [zoh,zoi rs bs (by simpa using h)]
 |[],_::_,h=>by simp at h
 |_::_,[],h=>by simp at h
theorem zdt:∀(rs:List Rw) (bs:List Int),bs.length=rs.length->(zaw rs bs).length=rs.length
 |[],[],_=>rfl
 |_::rs,_::bs,h=>by simp [zaw,zdt rs bs (by simpa using h)]
 |[],_::_,h=>by simp at h
 |_::_,[],h=>by simp at h
def yzd (r:Rw):Prop:=r.label.size<=100000/\r.reason.size<=100000/\ -500000000<=r.cents/\r.cents<=500000000
theorem zra (r:Rw) (b:Int):zua r b<2147483579:=Nat.mod_lt _ (by decide)
theorem zhk (c b:Int) (hc: -500000000<=c/\c<=500000000) (hb:0<=b/\b<1073741789):zq Tryz.prog G37 39 [sI ((c+1073741789).tmod 1073741789),sI b] (.tup [sI (zkn c b),sI (0:Nat)]):=by
 have h1:(c+1073741789).tmod 1073741789=((ziq c:Nat):Int):=by
  rw [Int.tmod_eq_emod_of_nonneg (by omega)];unfold ziq;omega
 have h2:b=((b.toNat:Nat):Int):=by omega
 have h:=zjt (ziq c) b.toNat (by unfold ziq ord;omega) (by unfold ord;omega);rw [h1];rw [h2];exact h
theorem zzq (rows:List Rw) (blinds:List Int) (hl:blinds.length=rows.length) (hn:rows.length<=1024) (hr:∀r∈rows,yzd r) (hb:∀b∈blinds,0<=b/\b<1073741789):
  zq Tryz.prog G37 83 [.imm (znp rows),.imm (yv blinds)] (.tup [.imm (yr (zaw rows blinds)),sB true]):=by
 have hml:(rows.map Rw.cells).length=rows.length:=by simp
 refine zh Tryz.func83 rfl (by rw [Tryz.ntmps83];simp) rfl rfl ?_;intro E hH hK;(refine ze ?_;conv=>whnf);refine zin (n:=6) (kk:=1) rfl ?_;refine zg [1,6,11,12,13] ?_;change SW E _ [(1,.imm (yv blinds)),(6,.asl 0 1 (([]:List ByteArray).map fun s=>[dS s])),(11,.imm (znp rows)),(12,sI (rows.map Rw.cells).length),(13,sI (0:Nat))] [.tok 1 (([]:List ByteArray).map fun s=>[dS s]).length];refine zp rows (fun i (l:List ByteArray)=>[(1,.imm (yv blinds)),(6,.asl 0 1 (l.map fun s=>[dS s])),(11,.imm (znp rows)),(12,sI (rows.map Rw.cells).length),(13,sI i)]) (fun _ l=>[.tok 1 (l.map fun s=>[dS s]).length])
  (fun done rest l=>zaw rows blinds=l++zaw rest (blinds.drop done.length)/\l.length=done.length) [] ⟨rfl,rfl⟩ ?_ ?_
 ·rintro l ⟨h1,h2⟩
  have h1:zaw rows blinds=l:=by rw [h1];simp [zaw]
  rw [h1] at hK;refine zdr ?_;change SW E _ [(1,.imm (yv blinds)),(6,.imm (yr l)),(11,.imm (znp rows)),(12,sI (rows.map Rw.cells).length),(13,sI rows.length)] _;(refine ze ?_;conv=>whnf)
  repeat' ((with_reducible refine way ?_ ?_)<;>(intro h;conv=>whnf))
  all_goals try (exfalso;omega)
  exact hK _
 ·rintro done r rest l hda hdl ⟨h1,h2⟩ ih
  have hw:=zk (n:=done.length) (by omega);have hrow:(rows.map Rw.cells)[((done.length:Nat):Int).toNat]?=some r.cells:=by simp [hda]
  obtain ⟨b,hbb⟩:∃b,blinds[done.length]?=some b:=⟨_,List.getElem?_eq_getElem (by omega)⟩;have hrb:(blinds.map fun (n:Int)=>[dI n])[((done.length:Nat):Int).toNat]?=some [dI b]:=by simp [hbb]
  have hdr:blinds.drop done.length=b::blinds.drop (done.length+1):=by
   rw [List.drop_eq_getElem_cons (by omega)];rw [List.getElem?_eq_getElem (by omega)] at hbb;rw [Option.some.inj hbb]
  have hbr:=hb b (List.mem_of_getElem? hbb);obtain ⟨f1,f2,f3,f4⟩:=hr r (by rw [hda];simp);rw [hdr,zaw] at h1;have hlt:=zra r b;have hnx:=ih (l++[qk r.label (zua r b) r.reason]) ⟨by rw [h1];simp,by simp [h2]⟩;rw [List.map_append,List.length_append] at hnx;have c0:=znd G37 r.cents;rw [decide_eq_true f3,decide_eq_true f4] at c0;have c1:=zhk r.cents b ⟨f3,f4⟩ hbr;change zq _ _ _ _ (.tup [sI (zua r b),_]) at c1;have c2:=zfz r.label (zua r b) r.reason f1 f2 ⟨by omega,by omega⟩;generalize qk r.label (zua r b) r.reason=lf at c2 hnx;generalize zua r b=cm at c1 c2 hlt;clear ih h1 hdr;obtain ⟨la,ce,re⟩:=r;simp only at f3 f4 c0 c1 c2;have hws:IntKind.i64.wrap (ce+1073741789)=ce+1073741789:=zt (by omega) (by omega);(refine ze ?_;conv=>whnf)
  repeat' ((with_reducible refine way ?_ ?_)<;>(intro h;conv=>whnf))
  all_goals try (exfalso;omega)
  refine zi rfl rfl  hrow ?_;(refine zc ?_;conv=>whnf);refine zd rfl  c0 ?_;(refine zc ?_;conv=>whnf);(refine yc mixed rfl ?_;refine zf [] ?_;conv=>whnf);refine yx rfl rfl  hrb ?_;(refine zf [] ?_;conv=>whnf);rw [hws];refine ym rfl  c1 ?_;(refine zf [] ?_;conv=>whnf);(refine ze ?_;conv=>whnf);refine zd rfl  c2 ?_;(refine zc ?_;conv=>whnf);refine zr (b:=0) (kk:=1) (rows:=l.map fun s=>[dS s]) (new:=[[dS lf]]) rfl ⟨by decide,rfl⟩ rfl (by rw [List.length_map];simp only [List.length_cons,List.length_nil];omega) ?_;(refine zc ?_;conv=>whnf);rw [hw];exact yz [1,6,11,12,13] 1 (by rw [hH];exact Nat.zero_le _) (Nat.succ_le_succ (Nat.zero_le _)) rfl rfl hnx
section
variable {H:Type} {enc:TypeId × Value->H} {w:World} {fuel:Nat} {cs:List Value} {x:DataW H × List MemPlace}
def i64 (n:Int):Prop:= -9223372036854775808<=n/\n<=9223372036854775807
abbrev big:Nat:=9223372036854775807
structure Decl.ok (d:Decl):Prop where
 name:d.name.size<=9223372036854775807
 unit:d.unit.size<=9223372036854775807
 role:i64 d.role
structure Piece.ok (p:Piece):Prop where
 lo:i64 p.lo
 at_:i64 p.at_
 slope:i64 p.slope
inductive ExOK:Ex->Prop
 |mk {op n:Int} {u:ByteArray} {den:Int} {ps:List Piece} {ks:List Ex}:i64 op->i64 n->u.size<=9223372036854775807->i64 den->ps.length<=9223372036854775807->(∀p∈ps,Piece.ok p)->ks.length<=9223372036854775807->(∀k∈ks,ExOK k)->ExOK (.mk op n u den ps ks)
structure Article.ok (a:Article):Prop where
 number:i64 a.number
 line:i64 a.line
 rank:i64 a.rank
 lo:i64 a.lo
 hi:i64 a.hi
 known:i64 a.known
 when_:a.when_.length<=9223372036854775807
 whens:∀e∈a.when_,ExOK e
 unless_:a.unless_.length<=9223372036854775807
 unlesss:∀n∈a.unless_,i64 n
 amount:ExOK a.amount
structure Fact.ok (f:Fact):Prop where
 person:f.person.size<=9223372036854775807
 name:f.name.size<=9223372036854775807
 lo:i64 f.lo
 hi:i64 f.hi
 known:i64 f.known
 value:i64 f.value
structure Codex.ok (c:Codex):Prop where
 facts:c.facts.length<=9223372036854775807
 fact:∀d∈c.facts,Decl.ok d
 lines:c.lines.length<=9223372036854775807
 line:∀d∈c.lines,Decl.ok d
 arts:c.arts.length<=9223372036854775807
 art:∀a∈c.arts,Article.ok a
theorem rdb (h:DataW.trod enc Tryz.prog w 0 (fun _=>true) true fuel 4 cs=some x):∃b:Bool,Cs w cs [dB b]/\True:=by
 obtain ⟨b,h1⟩:=yui Tryz.underlying4 h;exact ⟨b,h1,trivial⟩
abbrev zhl:Nat:=140737488351232
theorem ytg (h:DataW.trod enc Tryz.prog w 0 (fun _=>true) true fuel 157 cs=some x) (hz:zkk Tryz.prog 157 x.1):∃d:Frk,Cs w cs d.cells/\d.sib<18446744073709551616:=by
 obtain ⟨hl,n,_,hf⟩:=zgt Tryz.underlying157 h hz;rw [show Tryz.prog.cellsOf 157=2 by kernel_rfl] at hl;obtain ⟨a0,a1,rfl⟩:∃a0 a1,cs=[a0,a1]:=by match cs,hl with|[a0,a1],_=>exact ⟨a0,a1,rfl⟩
 obtain ⟨y0,h0,z0⟩:=hf 0 25 0 1 rfl (by kernel_rfl);obtain ⟨y1,h1,z1⟩:=hf 1 4 1 1 rfl (by kernel_rfl);obtain ⟨s0,g0,e0⟩:=yez Tryz.underlying25 h0;obtain ⟨s1,g1,e1⟩:=rdb h1;exact ⟨⟨s0,s1⟩,g0.append g1,e0⟩
structure Rw.ok (r:Rw):Prop where
 label:r.label.size<=zhl
 cents:i64 r.cents
 reason:r.reason.size<=zhl
theorem xaa (h:DataW.trod enc Tryz.prog w 0 (fun _=>true) true fuel 72 cs=some x) (hz:zkk Tryz.prog 72 x.1):∃d:Rw,Cs w cs d.cells/\Rw.ok d:=by
 obtain ⟨hl,n,_,hf⟩:=zgt Tryz.underlying72 h hz;rw [show Tryz.prog.cellsOf 72=3 by kernel_rfl] at hl;obtain ⟨a0,a1,a2,rfl⟩:∃a0 a1 a2,cs=[a0,a1,a2]:=by match cs,hl with|[a0,a1,a2],_=>exact ⟨a0,a1,a2,rfl⟩
 obtain ⟨y0,h0,z0⟩:=hf 0 9 0 1 rfl (by kernel_rfl);obtain ⟨y1,h1,z1⟩:=hf 1 3 1 1 rfl (by kernel_rfl);obtain ⟨y2,h2,z2⟩:=hf 2 9 2 1 rfl (by kernel_rfl);obtain ⟨s0,g0,e0⟩:=zhw Tryz.underlying9 h0 z0;obtain ⟨s1,g1,e1⟩:=zkj Tryz.underlying3 h1;obtain ⟨s2,g2,e2⟩:=zhw Tryz.underlying9 h2 z2;exact ⟨⟨s0,s1,s2⟩,g0.append (g1.append g2),e0,e1,e2⟩
structure Shw.ok (s:Shw):Prop where
 index:i64 s.index
 label:s.label.size<=zhl
 cents:i64 s.cents
 reason:s.reason.size<=zhl
 blind:i64 s.blind
 path:s.path.length<=zhl/\∀x∈s.path,x.sib<18446744073709551616
theorem yze (h:DataW.trod enc Tryz.prog w 0 (fun _=>true) true fuel 74 cs=some x) (hz:zkk Tryz.prog 74 x.1):∃d:Shw,Cs w cs d.cells/\Shw.ok d:=by
 obtain ⟨hl,n,_,hf⟩:=zgt Tryz.underlying74 h hz;rw [show Tryz.prog.cellsOf 74=6 by kernel_rfl] at hl;obtain ⟨a0,a1,a2,a3,a4,a5,rfl⟩:∃a0 a1 a2 a3 a4 a5,cs=[a0,a1,a2,a3,a4,a5]:=by match cs,hl with|[a0,a1,a2,a3,a4,a5],_=>exact ⟨a0,a1,a2,a3,a4,a5,rfl⟩
 obtain ⟨y0,h0,z0⟩:=hf 0 3 0 1 rfl (by kernel_rfl);obtain ⟨y1,h1,z1⟩:=hf 1 72 1 3 rfl (by kernel_rfl);obtain ⟨y2,h2,z2⟩:=hf 2 3 4 1 rfl (by kernel_rfl);obtain ⟨y3,h3,z3⟩:=hf 3 32 5 1 rfl (by kernel_rfl);obtain ⟨s0,g0,e0⟩:=zkj Tryz.underlying3 h0;obtain ⟨s1,g1,e1⟩:=xaa h1 z1;obtain ⟨s2,g2,e2⟩:=zkj Tryz.underlying3 h2;obtain ⟨s3,g3,e3⟩:=zgu Frk.cells (fun d=>d.sib<18446744073709551616) Tryz.underlying32 (show Tryz.prog.cellsOf 157=2 by kernel_rfl) (by decide) (Nat.le_of_ble_eq_true (by kernel_rfl)) h3 z3 (fun _ _ _ _ h z=>ytg h z);exact ⟨⟨s0,s1.label,s1.cents,s1.reason,s2,s3⟩,g0.append (g1.append (g2.append g3)),e0,e1.label,e1.cents,e1.reason,e2,e3⟩
structure Sg.ok (s:Sg):Prop where
 index:i64 s.index
 chains:s.chains.length<=zhl/\∀x∈s.chains,x<18446744073709551616
 path:s.path.length<=zhl/\∀x∈s.path,x.sib<18446744073709551616
theorem xab (h:DataW.trod enc Tryz.prog w 0 (fun _=>true) true fuel 34 cs=some x) (hz:zkk Tryz.prog 34 x.1):∃d:Sg,Cs w cs d.cells/\Sg.ok d:=by
 obtain ⟨hl,n,_,hf⟩:=zgt Tryz.underlying34 h hz;rw [show Tryz.prog.cellsOf 34=3 by kernel_rfl] at hl;obtain ⟨a0,a1,a2,rfl⟩:∃a0 a1 a2,cs=[a0,a1,a2]:=by match cs,hl with|[a0,a1,a2],_=>exact ⟨a0,a1,a2,rfl⟩
 obtain ⟨y0,h0,z0⟩:=hf 0 3 0 1 rfl (by kernel_rfl);obtain ⟨y1,h1,z1⟩:=hf 1 31 1 1 rfl (by kernel_rfl);obtain ⟨y2,h2,z2⟩:=hf 2 32 2 1 rfl (by kernel_rfl);obtain ⟨s0,g0,e0⟩:=zkj Tryz.underlying3 h0;obtain ⟨s1,g1,e1⟩:=zgu (fun (n:Nat)=>[dU n]) (fun n=>n<18446744073709551616) Tryz.underlying31 (show Tryz.prog.cellsOf 25=1 by kernel_rfl) (by decide) (Nat.le_of_ble_eq_true (by kernel_rfl)) h1 z1 (fun _ _ _ _ h _=>yez Tryz.underlying25 h);obtain ⟨s2,g2,e2⟩:=zgu Frk.cells (fun d=>d.sib<18446744073709551616) Tryz.underlying32 (show Tryz.prog.cellsOf 157=2 by kernel_rfl) (by decide) (Nat.le_of_ble_eq_true (by kernel_rfl)) h2 z2 (fun _ _ _ _ h z=>ytg h z);exact ⟨⟨s0,s1,s2⟩,g0.append (g1.append g2),e0,e1,e2⟩
structure Disc.ok (d:Disc):Prop where
 person:d.person.size<=zhl
 month:i64 d.month
 root:d.root<18446744073709551616
 commit:d.commit.length<=zhl/\∀x∈d.commit,i64 x
 shown:d.shown.length<=zhl/\∀s∈d.shown,Shw.ok s
 hidden:i64 d.hidden
 blind:i64 d.blind
 sig:Sg.ok d.sig
theorem Disc.ok.fit {d:Disc} (h:Disc.ok d):DFit d where
 person:=Nat.le_trans h.person (by decide)
 root:=h.root
 commit:=Nat.le_trans h.commit.1 (by decide)
 shown:=Nat.le_trans h.shown.1 (by decide)
 row:=fun s hs=>⟨Nat.le_trans (h.shown.2 s hs).label (by decide),Nat.le_trans (h.shown.2 s hs).reason (by decide),Nat.le_trans (h.shown.2 s hs).path.1 (by decide),(h.shown.2 s hs).path.2⟩
 chains:=h.sig.chains.2
 path:=⟨Nat.le_trans h.sig.path.1 (by decide),h.sig.path.2⟩
theorem yxn (h:DataW.trod enc Tryz.prog w 0 (fun _=>true) true fuel 36 cs=some x) (hz:zkk Tryz.prog 36 x.1):∃d:Disc,Cs w cs d.cells/\Disc.ok d:=by
 obtain ⟨hl,n,_,hf⟩:=zgt Tryz.underlying36 h hz;rw [show Tryz.prog.cellsOf 36=10 by kernel_rfl] at hl;obtain ⟨a0,a1,a2,a3,a4,a5,a6,a7,a8,a9,rfl⟩:∃a0 a1 a2 a3 a4 a5 a6 a7 a8 a9,cs=[a0,a1,a2,a3,a4,a5,a6,a7,a8,a9]:=by match cs,hl with|[a0,a1,a2,a3,a4,a5,a6,a7,a8,a9],_=>exact ⟨a0,a1,a2,a3,a4,a5,a6,a7,a8,a9,rfl⟩
 obtain ⟨y0,h0,z0⟩:=hf 0 9 0 1 rfl (by kernel_rfl);obtain ⟨y1,h1,z1⟩:=hf 1 3 1 1 rfl (by kernel_rfl);obtain ⟨y2,h2,z2⟩:=hf 2 25 2 1 rfl (by kernel_rfl);obtain ⟨y3,h3,z3⟩:=hf 3 23 3 1 rfl (by kernel_rfl);obtain ⟨y4,h4,z4⟩:=hf 4 30 4 1 rfl (by kernel_rfl);obtain ⟨y5,h5,z5⟩:=hf 5 3 5 1 rfl (by kernel_rfl);obtain ⟨y6,h6,z6⟩:=hf 6 3 6 1 rfl (by kernel_rfl);obtain ⟨y7,h7,z7⟩:=hf 7 34 7 3 rfl (by kernel_rfl);obtain ⟨s0,g0,e0⟩:=zhw Tryz.underlying9 h0 z0;obtain ⟨s1,g1,e1⟩:=zkj Tryz.underlying3 h1;obtain ⟨s2,g2,e2⟩:=yez Tryz.underlying25 h2;obtain ⟨s3,g3,e3⟩:=zgu (fun (n:Int)=>[dI n]) i64 Tryz.underlying23 (show Tryz.prog.cellsOf 3=1 by kernel_rfl) (by decide) (Nat.le_of_ble_eq_true (by kernel_rfl)) h3 z3 (fun _ _ _ _ h _=>by obtain ⟨n,h1,h2⟩:=zkj Tryz.underlying3 h;exact ⟨n,h1,h2⟩);obtain ⟨s4,g4,e4⟩:=zgu Shw.cells Shw.ok Tryz.underlying30 (show Tryz.prog.cellsOf 74=6 by kernel_rfl) (by decide) (Nat.le_of_ble_eq_true (by kernel_rfl)) h4 z4 (fun _ _ _ _ h z=>yze h z);obtain ⟨s5,g5,e5⟩:=zkj Tryz.underlying3 h5;obtain ⟨s6,g6,e6⟩:=zkj Tryz.underlying3 h6;obtain ⟨s7,g7,e7⟩:=xab h7 z7;exact ⟨⟨s0,s1,s2,s3,s4,s5,s6,s7⟩,g0.append (g1.append (g2.append (g3.append (g4.append (g5.append (g6.append g7)))))),e0,e1,e2,e3,e4,e5,e6,e7⟩
structure Slip.ok (s:Slip):Prop where
 person:s.person.size<=zhl
 month:i64 s.month
 rows:s.rows.length<=zhl/\∀r∈s.rows,Rw.ok r
 blinds:s.blinds.length<=zhl/\∀b∈s.blinds,i64 b
 root:s.root<18446744073709551616
structure Ln.ok (l:Ln):Prop where
 day:i64 l.day
 line:i64 l.line
 art:i64 l.art
 amount:i64 l.amount
 facts:l.facts.length<=zhl/\∀x∈l.facts,i64 x
 rests:l.rests.length<=zhl/\∀x∈l.rests,i64 x
def Ln.cells (l:Ln):List D:=[dI l.day,dI l.line,dI l.art,dI l.amount,yh l.facts,yh l.rests]
section
variable {v:Value} {d:DataW H} {ps:List MemPlace} {b0:Nat} {r:Reach}
theorem yiz {t:TypeId} {fs:Array Field} (ht:Tryz.prog.underlying t=some (.struct fs)) (hval:Value.okWide Tryz.prog w r b0 t v):∃vs,v= .agg vs:=by
 unfold Value.okWide at hval;rw [ht] at hval;obtain ⟨vs,h,_⟩:=hval;exact ⟨vs,h⟩
theorem openInt (hval:Value.okWide Tryz.prog w r b0 3 v) (h:DataW.Trod enc Tryz.prog w 0 (fun _=>true) true 3 v d ps):∃n:Int,i64 n/\Rep w (ybn w) [] v (sI n):=by
 obtain ⟨n,rfl⟩:∃n,v= .int .i64 n:=by
  unfold Value.okWide at hval;rw [Tryz.underlying3] at hval;unfold Cell.okWide at hval;rw [Tryz.underlying3] at hval;cases v<;>simp [Cell.ok,Tryz.underlying3] at hval;obtain ⟨rfl,_⟩:=hval;exact ⟨_,rfl⟩
 obtain ⟨fuel,h⟩:=h;obtain ⟨m,h1,h2⟩:=zkj Tryz.underlying3 h;exact ⟨m,h2,znx rfl h1⟩
theorem openDisc (hval:Value.okWide Tryz.prog w r b0 36 v) (h:DataW.Trod enc Tryz.prog w 0 (fun _=>true) true 36 v d ps) (hz:zkk Tryz.prog 36 d):∃a:Disc,Disc.ok a/\Rep w (ybn w) [] v (.agg ((Disc.cells a).map .imm)):=by
 obtain ⟨vs,rfl⟩:=yiz Tryz.underlying36 hval;obtain ⟨fuel,h⟩:=h;obtain ⟨a,h1,h2⟩:=yxn h hz;exact ⟨a,h2,ylh (ds:=Disc.cells a) rfl h1⟩
theorem openDig (hval:Value.okWide Tryz.prog w r b0 25 v) (h:DataW.Trod enc Tryz.prog w 0 (fun _=>true) true 25 v d ps):∃n:Nat,n<18446744073709551616/\Rep w (ybn w) [] v (yg n):=by
 obtain ⟨n,rfl⟩:∃n,v= .int .u64 n:=by
  unfold Value.okWide at hval;rw [Tryz.underlying25] at hval;unfold Cell.okWide at hval;rw [Tryz.underlying25] at hval;cases v<;>simp [Cell.ok,Tryz.underlying25] at hval;obtain ⟨rfl,_⟩:=hval;exact ⟨_,rfl⟩
 obtain ⟨fuel,h⟩:=h;obtain ⟨m,h1,h2⟩:=yez Tryz.underlying25 h;exact ⟨m,h2,znx rfl h1⟩
theorem openByte (hval:Value.okWide Tryz.prog w r b0 5 v) (h:DataW.Trod enc Tryz.prog w 0 (fun _=>true) true 5 v d ps):∃n:Int,(0<=n/\n<=255)/\Rep w (ybn w) [] v (.imm (.val (.int .u8 n))):=by
 obtain ⟨n,rfl⟩:∃n,v= .int .u8 n:=by
  unfold Value.okWide at hval;rw [Tryz.underlying5] at hval;unfold Cell.okWide at hval;rw [Tryz.underlying5] at hval;cases v<;>simp [Cell.ok,Tryz.underlying5] at hval;obtain ⟨rfl,_⟩:=hval;exact ⟨_,rfl⟩
 obtain ⟨fuel,h⟩:=h;obtain ⟨m,h1,h2⟩:=yyq Tryz.underlying5 h;exact ⟨m,h2,znx rfl h1⟩
theorem openText (hval:Value.okWide Tryz.prog w r b0 9 v) (h:DataW.Trod enc Tryz.prog w 0 (fun _=>true) true 9 v d ps) (hz:zkk Tryz.prog 9 d):∃s:ByteArray,s.size<=zhl/\Rep w (ybn w) [] v (sS s):=by
 obtain ⟨n,rfl⟩:∃n,v= .string n:=by
  unfold Value.okWide at hval;rw [Tryz.underlying9] at hval;unfold Cell.okWide at hval;rw [Tryz.underlying9] at hval;cases v<;>simp [Cell.ok,Tryz.underlying9] at hval;exact ⟨_,rfl⟩
 obtain ⟨fuel,h⟩:=h;obtain ⟨m,h1,h2⟩:=zhw Tryz.underlying9 h hz;exact ⟨m,h2,znx rfl h1⟩
end
end
open Go Go.Sh Go.ChangeShapes Go.WideShapes Go.ChangeAt Go.RowKit
theorem own:ownKnob Tryz.prog.godebug=none:=by kernel_rfl
theorem kids:Kids Tryz.prog (· <Tryz.prog.types.size):=kids_rows (by kernel_rfl) (by kernel_rfl)
theorem full:∀t e,t<Tryz.prog.types.size->Tryz.prog.underlying t=some (.slice e)->0<Tryz.prog.cellsOf e:=slices_full_of Tryz.prog (by kernel_rfl)
theorem resBool:Tryz.prog.underlying 4=some .bool:=Tryz.underlying4
abbrev zrb:List (String × DataW Unit):=[("math/bits.deBruijn32tab",Rows.laid_math_bits_deBruijn32tab),("math/bits.deBruijn64tab",Rows.laid_math_bits_deBruijn64tab),("internal/strconv.uint64pow10",Rows.laid_internal_strconv_uint64pow10),("wageoffice/commitment.generators",Rows.laid_wageoffice_commitment_generators),("wageoffice/digest.digits",Rows.laid_wageoffice_digest_digits)]
theorem zbs {P:Program} {x:String × DataW Unit} {rest:List (String × DataW Unit)} {W:World} (h:laidMet P (x::rest) W):laidMet P rest W:=by
 obtain ⟨ps,⟨_,_,_,_,_,q,_,_,_,_,hr,e⟩,hn,hc⟩:=h;subst e;exact ⟨q,hr,(List.nodup_append.1 hn).2.1,fun b off hb=>hc b off (List.mem_append_right _ hb)⟩
theorem zmd {W:World} (h:laidMetH Tryz.prog zrb W):laidMet Tryz.prog zrb W:=h
theorem yth {W:World} (h:laidMetH Tryz.prog zrb W):Lib.TabIs Tryz.prog W "internal/strconv.uint64pow10" .u64 Lib.pow10Tab:=
 Lib.tabIs_of_head (g:=2) (t:=254) (e:=24) (n:=20) (by kernel_rfl) (by kernel_rfl) Tryz.underlying254 Tryz.underlying24 (by kernel_rfl) (by kernel_rfl) (zbs (zbs (zmd h)))
theorem yxo {W:World} (h:laidMetH Tryz.prog zrb W):Lib.TabIs Tryz.prog W "wageoffice/commitment.generators" .i64 [4,9]:=
 Lib.tabIs_of_head (g:=0) (t:=146) (e:=3) (n:=2) (by kernel_rfl) (by kernel_rfl) Tryz.underlying146 Tryz.underlying3 (by kernel_rfl) (by kernel_rfl) (zbs (zbs (zbs (zmd h))))
theorem yxp {W:World} (h:laidMetH Tryz.prog zrb W):Lib.TabIs Tryz.prog W "wageoffice/digest.digits" .u8 [48,49,50,51,52,53,54,55,56,57,97,98,99,100,101,102]:=
 Lib.tabIs_of_head (g:=1) (t:=197) (e:=5) (n:=16) (by kernel_rfl) (by kernel_rfl) Tryz.underlying197 Tryz.underlying5 (by kernel_rfl) (by kernel_rfl) (zbs (zbs (zbs (zbs (zmd h)))))
theorem zub {W:World} {name:String} {k:IntKind} {zs:List Int} {g:Nat} (h:Lib.TabIs Tryz.prog W name k zs) (hg:Tryz.prog.globalNamed name=some g) (h0:0<zs.length):DRep W (ybn W) (.pointer (some ⟨g,0,none⟩)) (.row (zs.map fun z=>.val (.int k z)) 0):=by
 have hc:=fun i hi=>h.cell hg i hi
 have hb:g<W.heap.size:=(zpg (hc 0 h0)).2;refine .row g 0 _ 0 (fun j=>.int k (zs.getD j 0)) (fun j hj=>?_) (fun j hj=>?_)
 ·have hj':j<zs.length:=by simpa using hj
  rw [Nat.zero_add];exact ⟨hb,hc j hj',rfl⟩
 ·have hj':j<zs.length:=by simpa using hj
  have e:(zs.map fun z=>D.val (.int k z))[j]'hj= .val (.int k (zs.getD j 0)):=by
   simp only [List.getElem_map];rw [List.getD_eq_getElem?_getD,List.getElem?_eq_getElem hj'];rfl
  rw [e];exact .val _
theorem globals_ok {W:World} (h:laidMetH Tryz.prog zrb W):∀g d,(g,d)∈G37->DRep W (ybn W) (.pointer (some ⟨g,0,none⟩)) d:=by
 intro g d hg;simp only [G37,List.mem_cons,List.not_mem_nil,or_false] at hg;rcases hg with hg|hg|hg
 ·cases hg
  have hb:2<W.heap.size:=(zpg ((yth h).cell (show Tryz.prog.globalNamed "internal/strconv.uint64pow10" =some 2 by kernel_rfl) 0 (by decide))).2;refine .tab _ _ fun o=>⟨hb,?_⟩
  have h1:=World.var?_cell (show Tryz.prog.globalNamed "internal/strconv.uint64pow10" =some 2 by kernel_rfl) (yth h) o;rw [h1];simp
 ·cases hg
  exact zub (yxo h) (by kernel_rfl) (by decide)
 ·cases hg
  exact zub (yxp h) (by kernel_rfl) (by decide)
def ynl (k:IntKind) (zs:List Int):Array Value:=(zs.map fun z=>Value.int k z).toArray
def yzf:List Int:=[0,1,28,2,29,14,24,3,30,22,20,15,25,17,4,8,31,27,13,23,21,19,16,7,26,12,18,6,11,5,10,9]
def yzg:List Int:=[0,1,56,2,57,49,28,3,61,58,42,50,38,29,17,4,62,47,59,36,45,43,51,22,53,39,33,30,24,18,12,5,63,55,48,27,60,41,37,16,46,35,44,21,52,32,23,11,54,26,40,15,34,20,31,10,25,14,19,9,13,8,7,6]
def lay (g:Nat) (cs:Array Value) (h:Array Obj):Array Obj:=h.modify g fun
 | .cells _ t frozen=>.cells cs t frozen
 |o=>o
noncomputable def laidWorld (os : Os) : World :=
  { World.holding Tryz.prog os ⟨#[], #[], []⟩ with heap := lay 4 (ynl .u8 yzf) (lay 5 (ynl .u8 yzg) (lay 2 (ynl .u64 Lib.pow10Tab) (lay 0 (ynl .i64 [4, 9])
      (lay 1 (ynl .u8 [48, 49, 50, 51, 52, 53, 54, 55, 56, 57, 97, 98, 99, 100, 101, 102]) (World.holding Tryz.prog os ⟨#[], #[], []⟩).heap)))) }
theorem laid_met (os:Os) (args:Array Value):laidMet Tryz.prog zrb ((laidWorld os).forCall (fun _ _=>0) ⟨#[],args,[]⟩).memory:=
 laidMet_of_run' 8 (by kernel_rfl) (by kernel_rfl)
theorem zsn (rows:List Rw) (blinds:List Int) (hl:blinds.length=rows.length) (hn:rows.length<=1024) (hr:∀r∈rows,r.label.size<=100000/\r.reason.size<=100000) (hbad:¬∀r∈rows, -500000000<=r.cents/\r.cents<=500000000) (hb:∀b∈blinds,0<=b/\b<1073741789):
  zq Tryz.prog G37 83 [.imm (znp rows),.imm (yv blinds)] (.tup [.imm (.val (.slice none 0 0)),sB false]):=by
 have hml:(rows.map Rw.cells).length=rows.length:=by simp
 refine zh Tryz.func83 rfl (by rw [Tryz.ntmps83];simp) rfl rfl ?_;intro E hH hK;(refine ze ?_;conv=>whnf);refine zin (n:=6) (kk:=1) rfl ?_;refine zg [1,6,11,12,13] ?_;change SW E _ [(1,.imm (yv blinds)),(6,.asl 0 1 (([]:List ByteArray).map fun s=>[dS s])),(11,.imm (znp rows)),(12,sI (rows.map Rw.cells).length),(13,sI (0:Nat))] [.tok 1 (([]:List ByteArray).map fun s=>[dS s]).length];refine zp rows (fun i (l:List ByteArray)=>[(1,.imm (yv blinds)),(6,.asl 0 1 (l.map fun s=>[dS s])),(11,.imm (znp rows)),(12,sI (rows.map Rw.cells).length),(13,sI i)]) (fun _ l=>[.tok 1 (l.map fun s=>[dS s]).length])
  (fun done rest l=>(∀r∈done, -500000000<=r.cents/\r.cents<=500000000)/\l.length=done.length) [] ⟨fun r hr=>(by cases hr),rfl⟩ ?_ ?_
 ·rintro l ⟨h1,h2⟩
  exact absurd h1 hbad
 ·rintro done r rest l hda hdl ⟨h1,h2⟩ ih
  have hw:=zk (n:=done.length) (by omega);have hrow:(rows.map Rw.cells)[((done.length:Nat):Int).toNat]?=some r.cells:=by simp [hda]
  obtain ⟨b,hbb⟩:∃b,blinds[done.length]?=some b:=⟨_,List.getElem?_eq_getElem (by omega)⟩;have hrb:(blinds.map fun (n:Int)=>[dI n])[((done.length:Nat):Int).toNat]?=some [dI b]:=by simp [hbb]
  have hdr:blinds.drop done.length=b::blinds.drop (done.length+1):=by
   rw [List.drop_eq_getElem_cons (by omega)];rw [List.getElem?_eq_getElem (by omega)] at hbb;rw [Option.some.inj hbb]
  have hbr:=hb b (List.mem_of_getElem? hbb);obtain ⟨f1,f2⟩:=hr r (by rw [hda];simp);have hlt:=zra r b;have c0:=znd G37 r.cents
  by_cases hin: -500000000<=r.cents/\r.cents<=500000000
  case neg=>
   have hd:(decide (-500000000<=r.cents)&&decide (r.cents<=500000000))=false:=by
    cases hx:(decide (-500000000<=r.cents)&&decide (r.cents<=500000000)) with
    |false=>rfl
    |true=>simp only [Bool.and_eq_true,decide_eq_true_eq] at hx;exact absurd hx hin
   rw [hd] at c0;clear hd hin ih hlt;obtain ⟨la,ce,re⟩:=r;simp only at c0;(refine ze ?_;conv=>whnf)
   repeat' ((with_reducible refine way ?_ ?_)<;>(intro h;conv=>whnf))
   all_goals try (exfalso;omega)
   refine zi rfl rfl  hrow ?_;(refine zc ?_;conv=>whnf);refine zd rfl  c0 ?_;(refine zc ?_;conv=>whnf);exact hK _
  obtain ⟨f3,f4⟩:=hin
  have hnx:=ih (l++[qk r.label (zua r b) r.reason]) ⟨fun r' hr'=>by
   rcases List.mem_append.1 hr' with h|h
   ·exact h1 r' h
   ·rw [List.mem_singleton.1 h];exact ⟨f3,f4⟩,by simp [h2]⟩
  rw [List.map_append,List.length_append] at hnx;rw [decide_eq_true f3,decide_eq_true f4] at c0;have c1:=zhk r.cents b ⟨f3,f4⟩ hbr;change zq _ _ _ _ (.tup [sI (zua r b),_]) at c1;have c2:=zfz r.label (zua r b) r.reason f1 f2 ⟨by omega,by omega⟩;generalize qk r.label (zua r b) r.reason=lf at c2 hnx;generalize zua r b=cm at c1 c2 hlt;clear ih h1 hdr;obtain ⟨la,ce,re⟩:=r;simp only at f3 f4 c0 c1 c2;have hws:IntKind.i64.wrap (ce+1073741789)=ce+1073741789:=zt (by omega) (by omega);(refine ze ?_;conv=>whnf)
  repeat' ((with_reducible refine way ?_ ?_)<;>(intro h;conv=>whnf))
  all_goals try (exfalso;omega)
  refine zi rfl rfl  hrow ?_;(refine zc ?_;conv=>whnf);refine zd rfl  c0 ?_;(refine zc ?_;conv=>whnf);(refine yc mixed rfl ?_;refine zf [] ?_;conv=>whnf);refine yx rfl rfl  hrb ?_;(refine zf [] ?_;conv=>whnf);rw [hws];refine ym rfl  c1 ?_;(refine zf [] ?_;conv=>whnf);(refine ze ?_;conv=>whnf);refine zd rfl  c2 ?_;(refine zc ?_;conv=>whnf);refine zr (b:=0) (kk:=1) (rows:=l.map fun s=>[dS s]) (new:=[[dS lf]]) rfl ⟨by decide,rfl⟩ rfl (by rw [List.length_map];simp only [List.length_cons,List.length_nil];omega) ?_;(refine zc ?_;conv=>whnf);rw [hw];exact yz [1,6,11,12,13] 1 (by rw [hH];exact Nat.zero_le _) (Nat.succ_le_succ (Nat.zero_le _)) rfl rfl hnx
def yti (x:Int) (r:List Int):Int:=r.foldl (fun m y=>if y<m then y else m) x
def ytj (x:Int) (r:List Int):Int:=r.foldl (fun m y=>if y>m then y else m) x
theorem yrt (G:List (Nat × D)) (x:Int) (r:List Int) (hl:r.length<=1000000):zq Tryz.prog G 81 [.imm (yv (x::r))] (sI (yti x r)):=by
 have hml:((x::r).map fun (n:Int)=>[dI n]).length=r.length+1:=by simp
 refine zh Tryz.func81 rfl (by rw [Tryz.ntmps81];simp) rfl rfl ?_;intro E hH hK;(refine ze ?_;conv=>whnf)
 repeat' ((with_reducible refine way ?_ ?_)<;>(intro h;conv=>whnf))
 all_goals try (exfalso;omega)
 refine zi (i:=0) (row:=[dI x]) rfl rfl rfl ?_;(refine zc ?_;conv=>whnf);refine zg [0,3,4] ?_;change SW E _ [(0,.imm (yv (x::r))),(3,sI x),(4,sI (1:Nat))] [];refine zp r (fun i (m:Int)=>[(0,.imm (yv (x::r))),(3,sI m),(4,sI (i+1:Nat))]) (fun _ _=>[]) (fun done rest m=>yti x r=yti m rest) x rfl ?_ ?_
 ·rintro m h1
  have h1:yti x r=m:=h1;rw [h1] at hK;(refine ze ?_;conv=>whnf)
  repeat' ((with_reducible refine way ?_ ?_)<;>(intro h;conv=>whnf))
  all_goals try (exfalso;omega)
  exact hK _
 ·rintro done y rest m hda hdl h1 ih
  have hw:=zk (n:=done.length+1) (by omega);have hrow:((x::r).map fun (n:Int)=>[dI n])[done.length+1]?=some [dI y]:=by simp [hda]
  have hnx:=ih (if y<m then y else m) h1;(refine ze ?_;conv=>whnf)
  repeat' ((with_reducible refine way ?_ ?_)<;>(intro h;conv=>whnf))
  all_goals try (exfalso;omega)
  refine zi (i:=done.length+1) (row:=[dI y]) rfl rfl hrow ?_;(refine zc ?_;conv=>whnf);rw [hw];exact zg [0,3,4] hnx
theorem yru (G:List (Nat × D)) (x:Int) (r:List Int) (hl:r.length<=1000000):zq Tryz.prog G 82 [.imm (yv (x::r))] (sI (ytj x r)):=by
 have hml:((x::r).map fun (n:Int)=>[dI n]).length=r.length+1:=by simp
 refine zh Tryz.func82 rfl (by rw [Tryz.ntmps82];simp) rfl rfl ?_;intro E hH hK;(refine ze ?_;conv=>whnf)
 repeat' ((with_reducible refine way ?_ ?_)<;>(intro h;conv=>whnf))
 all_goals try (exfalso;omega)
 refine zi (i:=0) (row:=[dI x]) rfl rfl rfl ?_;(refine zc ?_;conv=>whnf);refine zg [0,3,4] ?_;change SW E _ [(0,.imm (yv (x::r))),(3,sI x),(4,sI (1:Nat))] [];refine zp r (fun i (m:Int)=>[(0,.imm (yv (x::r))),(3,sI m),(4,sI (i+1:Nat))]) (fun _ _=>[]) (fun done rest m=>ytj x r=ytj m rest) x rfl ?_ ?_
 ·rintro m h1
  have h1:ytj x r=m:=h1;rw [h1] at hK;(refine ze ?_;conv=>whnf)
  repeat' ((with_reducible refine way ?_ ?_)<;>(intro h;conv=>whnf))
  all_goals try (exfalso;omega)
  exact hK _
 ·rintro done y rest m hda hdl h1 ih
  have hw:=zk (n:=done.length+1) (by omega);have hrow:((x::r).map fun (n:Int)=>[dI n])[done.length+1]?=some [dI y]:=by simp [hda]
  have hnx:=ih (if y>m then y else m) h1;(refine ze ?_;conv=>whnf)
  repeat' ((with_reducible refine way ?_ ?_)<;>(intro h;conv=>whnf))
  all_goals try (exfalso;omega)
  refine zi (i:=done.length+1) (row:=[dI y]) rfl rfl hrow ?_;(refine zc ?_;conv=>whnf);rw [hw];exact zg [0,3,4] hnx
theorem ynm (c:Int):∀(r:List Int) (x:Int),yti x r<c ↔ ∃y∈x::r,y<c
 |[],x=>by simp [yti]
 |y::r,x=>by
  show yti (if y<x then y else x) r<c ↔ _;rw [ynm c r];simp only [List.mem_cons,exists_eq_or_imp];split
  ·constructor
   ·rintro (h|h)
    ·exact .inr (.inl h)
    ·exact .inr (.inr h)
   ·rintro (h|h|h)
    ·exact .inl (by omega)
    ·exact .inl h
    ·exact .inr h
  ·constructor
   ·rintro (h|h)
    ·exact .inl h
    ·exact .inr (.inr h)
   ·rintro (h|h|h)
    ·exact .inl h
    ·exact .inl (by omega)
    ·exact .inr h
theorem ynn (c:Int):∀(r:List Int) (x:Int),c<=ytj x r ↔ ∃y∈x::r,c<=y
 |[],x=>by simp [ytj]
 |y::r,x=>by
  show c<=ytj (if y>x then y else x) r ↔ _;rw [ynn c r];simp only [List.mem_cons,exists_eq_or_imp];split
  ·constructor
   ·rintro (h|h)
    ·exact .inr (.inl h)
    ·exact .inr (.inr h)
   ·rintro (h|h|h)
    ·exact .inl (by omega)
    ·exact .inl h
    ·exact .inr h
  ·constructor
   ·rintro (h|h)
    ·exact .inl h
    ·exact .inr (.inr h)
   ·rintro (h|h|h)
    ·exact .inl h
    ·exact .inl (by omega)
    ·exact .inr h
structure SlipGood (s:Slip):Prop where
 name:qj s.person=true
 month:0<=s.month/\s.month<=1199
 rows:1<=s.rows.length/\s.rows.length<=1024
 blinds:s.blinds.length=s.rows.length
 blind:∀b∈s.blinds,0<=b/\b<1073741789
 cents:∀r∈s.rows, -500000000<=r.cents/\r.cents<=500000000
 root:zjr (zaw s.rows s.blinds)=s.root
theorem yja (la:ByteArray) (c:Int) (re:ByteArray) (h1:la.size<=100000) (h2:re.size<=100000) (h3: -9000000000000000000<=c/\c<=9000000000000000000):(qk la c re).size<=300000:=by
 have z1:=xh (la.size:Int) (by omega) (by omega);have z2:=xh c (by omega) (by omega);unfold qk;simp only [ByteArray.size_append];show (wu la.size).size+1+la.size+(wu c).size+1+re.size<=_;omega
theorem zie:∀(rs:List Rw) (bs:List Int),(∀r∈rs,r.label.size<=100000/\r.reason.size<=100000)->∀x∈zaw rs bs,x.size<=300000
 |[],_,_,x,hx=>by cases hx
 |_::_,[],_,x,hx=>by cases hx
 |r::rs,b::bs,h,x,hx=>by
  rcases List.mem_cons.1 hx with rfl|hx
  ·have:=zra r b
   exact yja _ _ _ (h r (by simp)).1 (h r (by simp)).2 ⟨by omega,by omega⟩
  ·exact zie rs bs (fun r hr=>h r (by simp [hr])) x hx
theorem zso (s:Slip) (hr:∀r∈s.rows,r.label.size<=100000/\r.reason.size<=100000) (hn:s.rows.length<=1000000) (hbn:s.blinds.length<=1000000) (b:Bool) (hb:b=true ↔ SlipGood s):
  zq Tryz.prog G37 37 [s.sv] (sB b):=by
 have no:¬SlipGood s->b=false:=fun h=>by cases hbb:b with|false=>rfl|true=>exact absurd (hb.1 hbb) h
 have c0:=zwg G37 s.person;obtain ⟨nm,hnm⟩:∃x,x=qj s.person:=⟨_,rfl⟩;rw [<-hnm] at c0;obtain ⟨person,month,rows,blinds,root⟩:=s;simp only at c0 hr hn hbn hnm;have hml:(rows.map Rw.cells).length=rows.length:=by simp
 have hbl:(blinds.map fun (n:Int)=>[dI n]).length=blinds.length:=by simp
 refine zh Tryz.func37 rfl (by rw [Tryz.ntmps37];simp) rfl rfl ?_;intro E hH hK;(refine ze ?_;conv=>whnf);refine zd rfl  c0 ?_;cases nm with
 |false=>
  rw [no (fun h=>by have:=h.name;rw [<-hnm] at this;cases this)] at hK;(refine zc ?_;conv=>whnf);exact hK _
 |true=>
 have hno:¬(0<=month/\month<=1199/\1<=rows.length/\rows.length<=1024/\blinds.length=rows.length)->∀X,E.K (sB false) X:=fun h X=>by
  have:=hK X;rw [no (fun g=>h ⟨g.month.1,g.month.2,g.rows.1,g.rows.2,g.blinds⟩)] at this;exact this
 have hno2:¬(∀b∈blinds,0<=b/\b<1073741789)->∀X,E.K (sB false) X:=fun h X=>by
  have:=hK X;rw [no (fun g=>h g.blind)] at this;exact this
 have hno3:¬(∀r∈rows, -500000000<=r.cents/\r.cents<=500000000)->∀X,E.K (sB false) X:=fun h X=>by
  have:=hK X;rw [no (fun g=>h g.cents)] at this;exact this
 (refine zc ?_;conv=>whnf)
 repeat' ((with_reducible refine way ?_ ?_)<;>(intro h;conv=>whnf))
 ·have h':1199<month:=h
  exact hno (by omega) _
 ·have h':¬(((blinds.map fun (n:Int)=>[dI n]).length:Nat):Int)=(((rows.map Rw.cells).length:Nat):Int):=h
  exact hno (by omega) _
 ·have k1:¬month<0:=by assumption
  have k2:¬1199<month:=by assumption
  have k3:¬(((rows.map Rw.cells).length:Nat):Int)<1:=by assumption
  have k4:¬1024<(((rows.map Rw.cells).length:Nat):Int):=by assumption
  have k5:(((blinds.map fun (n:Int)=>[dI n]).length:Nat):Int)=(((rows.map Rw.cells).length:Nat):Int):=h;have hlen:blinds.length=rows.length:=by omega
  obtain ⟨x,r,hxr⟩:∃x r,blinds=x::r:=by
   cases blinds with
   |nil=>simp only [List.length_nil] at hlen;omega
   |cons x r=>exact ⟨x,r,rfl⟩
  have c1:=yrt G37 x r (by rw [hxr] at hlen;simp only [List.length_cons] at hlen;omega);have c2:=yru G37 x r (by rw [hxr] at hlen;simp only [List.length_cons] at hlen;omega);rw [<-hxr] at c1 c2;have m1:=ynm 0 r x;have m2:=ynn 1073741789 r x;rw [<-hxr] at m1 m2;generalize yti x r=mi at c1 m1;generalize ytj x r=ma at c2 m2;refine zd rfl  c1 ?_;(refine zc ?_;conv=>whnf)
  repeat' ((with_reducible refine way ?_ ?_)<;>(intro h;conv=>whnf))
  ·refine zd rfl  c2 ?_
   (refine zc ?_;conv=>whnf)
   repeat' ((with_reducible refine way ?_ ?_)<;>(intro h;conv=>whnf))
   ·exact hno2 (fun g=>by
     obtain ⟨y,hy,hy2⟩:=m2.1 h;have:=g y hy
     omega) _
   ·have hbg:∀b∈blinds,0<=b/\b<1073741789:=fun y hy=>by
     have n1:¬mi<0:=by assumption
     have n2:¬1073741789<=ma:=h;rw [m1] at n1;rw [m2] at n2;have e1:¬y<0:=fun e=>n1 ⟨y,hy,e⟩
     have e2:¬1073741789<=y:=fun e=>n2 ⟨y,hy,e⟩
     omega
    by_cases hc:∀r∈rows, -500000000<=r.cents/\r.cents<=500000000
    case neg=>
     have c3:=zsn rows blinds hlen (by omega) hr hc hbg;refine zd rfl  c3 ?_;(refine zc ?_;conv=>whnf);exact hno3 hc _
    have c3:=zzq rows blinds hlen (by omega) (fun r hx=>⟨(hr r hx).1,(hr r hx).2,(hc r hx).1,(hc r hx).2⟩) hbg;have hll:=zdt rows blinds hlen;have c4:=zqv G37 (zaw rows blinds) (by rw [hll];omega) (by rw [hll];omega) (fun x hx=>by have:=zie rows blinds hr x hx;omega);have hbb:b=decide (zjr (zaw rows blinds)=root):=by
     cases hx:decide (zjr (zaw rows blinds)=root) with
     |true=>exact hb.2 ⟨hnm.symm,⟨show 0<=month by omega,show month<=1199 by omega⟩,⟨show 1<=rows.length by omega,show rows.length<=1024 by omega⟩,hlen,hbg,hc,of_decide_eq_true hx⟩
     |false=>exact no fun g=>(of_decide_eq_false hx) g.root
    rw [hbb] at hK;generalize zjr (zaw rows blinds)=rt at c4 hK;generalize zaw rows blinds=lv at c3 c4;refine zd rfl  c3 ?_;(refine zc ?_;conv=>whnf);refine zd rfl  c4 ?_;(refine zc ?_;conv=>whnf);exact kB hK (decide_eq_decide.2 ⟨fun h=>(by show ((rt:Nat):Int)=((root:Nat):Int);omega),fun h=>(by have h':((rt:Nat):Int)=((root:Nat):Int):=h;omega)⟩)
  ·exact hno2 (fun g=>by
    obtain ⟨y,hy,hy2⟩:=m1.1 h;have:=g y hy
    omega) _
 ·have h':1024<(((rows.map Rw.cells).length:Nat):Int):=h
  exact hno (by omega) _
 ·have h':(((rows.map Rw.cells).length:Nat):Int)<1:=h
  exact hno (by omega) _
 ·have h':month<0:=h
  exact hno (by omega) _
def paysT:ByteArray:=⟨#[112,97,121,115,108,105,112]⟩
def spT:ByteArray:=⟨#[32]⟩
def ziy (person:ByteArray) (month:Int) (root:Nat) (cs:List Int):List ByteArray:=[paysT,person,wu month,zek root]++cs.map wu
theorem zwi (person:ByteArray) (month:Int) (root:Nat) (cs:List Int) (hp:person.size<=1000) (hm:0<=month/\month<=1199) (hr:root<18446744073709551616) (hc:∀c∈cs,0<=c/\c<=9000000000000000000) (hn:cs.length<=1024):
  zq Tryz.prog G37 42 [sS person,sI month,yg root,.imm (yv cs)] (sS (zgi spT (ziy person month root cs))):=by
 have c1:=zsh jz month (by omega) (by omega);have z1:=xh month (by omega) (by omega);have c2:=zqq root hr;have z2:=ju root;have hml:(cs.map fun (n:Int)=>[dI n]).length=cs.length:=by simp
 have hsz:szs (cs.map wu)<=21*cs.length:=by
  clear hn hml
  induction cs with
  |nil=>simp [szs]
  |cons c cs ih=>
   have h1:=hc c (by simp);have h2:=xh c (by omega) (by omega);have h3:=ih (fun c h=>hc c (by simp [h]));rw [List.map_cons,zad,List.length_cons];omega
 have hj:=zds spT ([person,wu month,zek root]++cs.map wu) paysT.data.toList;have hsp:spT.size=1:=rfl;have hpl:paysT.data.toList.length=7:=rfl;have hss:szs ([person,wu month,zek root]++cs.map wu)=person.size+((wu month).size+((zek root).size+szs (cs.map wu))):=by
  show szs (person::wu month::zek root::cs.map wu)=_;simp only [zad]
 have hll:([person,wu month,zek root]++cs.map wu).length=3+cs.length:=by simp;omega
 rw [hsp,hpl,hss,hll,Nat.one_mul] at hj;have c3:=ztz G37 spT paysT ([person,wu month,zek root]++cs.map wu) (by simp) (by omega) (by omega) (by omega);change zq _ _ _ [.imm (yr (ziy person month root cs)),_] (sS (zgi spT (ziy person month root cs))) at c3;unfold ziy at c3 ⊢;generalize wu month=s1 at*;generalize zek root=s2 at*;generalize hres:zgi spT ([paysT,person,s1,s2]++cs.map wu)=res at c3 ⊢;have c4:zq Tryz.prog G37 90 [.imm (yr ([paysT,person,s1,s2]++cs.map wu))] (sS res):=by
  refine zh Tryz.func90 rfl (by rw [Tryz.ntmps90];simp) rfl rfl ?_;intro E hH hK;(refine ze ?_;conv=>whnf);refine zd rfl  c3 ?_;(refine zc ?_;conv=>whnf);exact hK _
 refine zh Tryz.func42 rfl (by rw [Tryz.ntmps42];simp) rfl rfl ?_;intro E hH hK;(refine ze ?_;conv=>whnf);refine zd rfl  c1 ?_;(refine zc ?_;conv=>whnf);refine zd rfl  c2 ?_;(refine zj [777,17] 1000 ?_;conv=>whnf);refine zta (kk:=1) (rows:=[[dS paysT],[dS person],[dS s1],[dS s2]]) rfl rfl rfl rfl rfl ?_;(refine zc ?_;conv=>whnf);refine zg [3,9,18,19,20] ?_;change SW E _ [(3,.imm (yv cs)),(9,.asl 0 1 (([paysT,person,s1,s2]++([]:List Int).map wu).map fun s=>[dS s])),(18,.imm (yv cs)),(19,sI (cs.map fun (n:Int)=>[dI n]).length),(20,sI (0:Nat))] [.tok 1 (([paysT,person,s1,s2]++([]:List Int).map wu).map fun s=>[dS s]).length];refine zp cs (fun i (l:List ByteArray)=>[(3,.imm (yv cs)),(9,.asl 0 1 (l.map fun s=>[dS s])),(18,.imm (yv cs)),(19,sI (cs.map fun (n:Int)=>[dI n]).length),(20,sI i)]) (fun _ l=>[.tok 1 (l.map fun s=>[dS s]).length])
  (fun done _ l=>l=[paysT,person,s1,s2]++done.map wu) _ rfl ?_ ?_
 ·rintro l hl
  have hl:l=[paysT,person,s1,s2]++cs.map wu:=hl;rw [<-hl] at c4;refine zdr ?_;change SW E _ [(3,.imm (yv cs)),(9,.imm (yr l)),(18,.imm (yv cs)),(19,sI (cs.map fun (n:Int)=>[dI n]).length),(20,sI cs.length)] _;(refine ze ?_;conv=>whnf)
  repeat' ((with_reducible refine way ?_ ?_)<;>(intro h;conv=>whnf))
  all_goals try (exfalso;omega)
  refine zd rfl  c4 ?_;(refine zc ?_;conv=>whnf);exact hK _
 ·rintro done c rest l hda hdl hl ih
  have hl:l=[paysT,person,s1,s2]++done.map wu:=hl;have hw:=zk (n:=done.length) (by omega);have hrow:(cs.map fun (n:Int)=>[dI n])[((done.length:Nat):Int).toNat]?=some [dI c]:=by simp [hda]
  have hcc:=hc c (by rw [hda];simp);have d1:=zsh jz c (by omega) (by omega);have hlen:l.length=4+done.length:=by rw [hl];simp;omega
  have hnx:=ih (l++[wu c]) (by show l++[wu c]=_++(done++[c]).map wu;rw [hl];simp);rw [List.map_append,List.length_append] at hnx;generalize wu c=s3 at d1 hnx;(refine ze ?_;conv=>whnf)
  repeat' ((with_reducible refine way ?_ ?_)<;>(intro h;conv=>whnf))
  all_goals try (exfalso;omega)
  refine zi rfl rfl  hrow ?_;(refine zc ?_;conv=>whnf);refine zd rfl  d1 ?_;(refine zc ?_;conv=>whnf);refine zr (b:=0) (kk:=1) (rows:=l.map fun s=>[dS s]) (new:=[[dS s3]]) rfl ⟨by decide,rfl⟩ rfl (by rw [List.length_map];simp only [List.length_cons,List.length_nil];omega) ?_;(refine zc ?_;conv=>whnf);rw [hw];exact zg [3,9,18,19,20] hnx
theorem yno (i:Int):zbl [i]=⟨#[UInt8.ofNat i.toNat]⟩:=rfl
theorem yjb (n:Nat) (h:n<10):wu n=zbl [48+(n:Int)]:=by
 rw [zpt _ (by omega) (by omega),Lib.itoa_nonneg,Lib.decDigits,dif_pos h,yno,show (48+(n:Int)).toNat=48+n by omega]
theorem yrv (n:Nat) (h:¬n<10) (hn:n<=1000000000000000000):wu n=wu (n / 10:Nat)++zbl [48+((n % 10:Nat):Int)]:=by
 rw [zpt _ (by omega) (by omega),zpt _ (by omega) (by omega),Lib.itoa_nonneg,Lib.itoa_nonneg,Lib.decDigits,dif_neg h,yno,show (48+((n % 10:Nat):Int)).toNat=48+n % 10 by omega]
 apply ByteArray.ext
 simp [ByteArray.data_append]
theorem w8 (n:Nat) (h:n<10):IntKind.u8.wrap (IntKind.i64.wrap (48+(n:Int)))=48+(n:Int):=by
 have e:48+(n:Int)=((48+n:Nat):Int):=by omega
 rw [zt (by omega) (by omega),e,yqv];omega
theorem zdu:∀(k n:Nat),n<k->n<=1000000000000000000->zq Tryz.prog G 118 [sI n] (sS (wu n))
 |0,n,h,_=>by omega
 |k+1,n,h,hn=>by
  by_cases h10:n<10
  ·have e:=yjb n h10
   have hw:=w8 n h10;rw [e];refine zh Tryz.func118 rfl (by rw [Tryz.ntmps118];simp) rfl rfl ?_;intro E hH hK;rw [<-hw] at hK;(refine ze ?_;conv=>whnf)
   repeat' ((with_reducible refine way ?_ ?_)<;>(intro h;conv=>whnf))
   all_goals try (exfalso;omega)
   exact hK _
  ·have e:=yrv n h10 hn
   have ih:=zdu k (n / 10) (by omega) (by omega);have hz:=xh (n / 10:Nat) (by omega) (by omega);have hw:=w8 (n % 10) (by omega);have hm:(n:Int).tmod 10=((n % 10:Nat):Int):=by rw [Int.tmod_eq_emod_of_nonneg (by omega)];rfl
   have hq:IntKind.i64.wrap ((n:Int).tdiv 10)=((n / 10:Nat):Int):=by rw [Int.tdiv_eq_ediv_of_nonneg (by omega),zt (by omega) (by omega)];rfl
   rw [e];generalize wu (n / 10:Nat)=pre at ih hz ⊢;refine zh Tryz.func118 rfl (by rw [Tryz.ntmps118];simp) rfl rfl ?_;intro E hH hK;(refine ze ?_;conv=>whnf)
   repeat' ((with_reducible refine way ?_ ?_)<;>(intro h;conv=>whnf))
   all_goals try (exfalso;omega)
   (refine yc mixed rfl ?_;refine zf [37] ?_;conv=>whnf);rw [hq];refine ym rfl  ih ?_;(refine zf [37] ?_;conv=>whnf);rw [hm,hw];refine zbd rfl rfl rfl rfl rfl (by show pre.size+1<=_;omega) ?_;(refine zf [] ?_;conv=>whnf);(refine ze ?_;conv=>whnf);exact hK _
theorem zne (label:ByteArray) (c:Nat) (reason:ByteArray) (h1:label.size<=100000) (h2:reason.size<=100000) (h3:c<=1000000000000000000):
  zq Tryz.prog G 77 [sS label,sI c,sS reason] (sS (qk label c reason)):=by
 have c1:=zdu G (label.size+1) label.size (by omega) (by omega);have c2:=zdu G (c+1) c (by omega) h3;have z1:=xh (label.size:Int) (by omega) (by omega);have z2:=xh (c:Int) (by omega) (by omega);unfold qk;generalize wu (label.size:Int)=s1 at*;generalize wu (c:Int)=s2 at*;refine zh Tryz.func77 rfl (by rw [Tryz.ntmps77];simp) rfl rfl ?_;intro E hH hK;(refine ze ?_;conv=>whnf);refine zd rfl  c1 ?_;refine wx rfl rfl rfl rfl rfl (by show s1.size+1<=_;omega) ?_;(refine zj [777,12] 1000 ?_;conv=>whnf);refine wx rfl rfl rfl rfl rfl (by simp only [ByteArray.size_append];show s1.size+1+label.size<=_;omega) ?_;(refine zj [777,15] 1000 ?_;conv=>whnf);refine zd rfl  c2 ?_;refine wx rfl rfl rfl rfl rfl (by simp only [ByteArray.size_append];show s1.size+1+label.size+s2.size<=_;omega) ?_;refine wx rfl rfl rfl rfl rfl (by simp only [ByteArray.size_append];show s1.size+1+label.size+s2.size+1<=_;omega) ?_;(refine zj [777,18] 1000 ?_;conv=>whnf);refine wx rfl rfl rfl rfl rfl (by simp only [ByteArray.size_append];show s1.size+1+label.size+s2.size+1+reason.size<=_;omega) ?_;(refine zc ?_;conv=>whnf);exact hK _
def ykd:ByteArray:=⟨#[97,110,110]⟩
def shRows:List Rw:=[⟨⟨#[103,114,111,115,115]⟩,300000,⟨#[115,117,109]⟩⟩,⟨⟨#[116,97,120]⟩,30000,⟨#[116,97,120]⟩⟩]
def zga:List Int:=[5,7]
def ynp:Nat:=zjr (zaw shRows zga)
def shSlip:Slip:=⟨ykd,288,shRows,zga,ynp⟩
theorem yjc:zq Tryz.prog G37 34 [] shSlip.sv:=by
 have c1:=zjt 300000 5 (by decide) (by decide);have c2:=zjt 30000 7 (by decide) (by decide);have d1:=zne G37 ⟨#[103,114,111,115,115]⟩ (ynk 300000 5) ⟨#[115,117,109]⟩ (by decide) (by decide) (Nat.le_trans (Nat.le_of_lt (Nat.mod_lt _ (by decide))) (by decide:2147483579<=1000000000000000000));have d2:=zne G37 ⟨#[116,97,120]⟩ (ynk 30000 7) ⟨#[116,97,120]⟩ (by decide) (by decide) (Nat.le_trans (Nat.le_of_lt (Nat.mod_lt _ (by decide))) (by decide:2147483579<=1000000000000000000));have hl:zaw shRows zga=[qk ⟨#[103,114,111,115,115]⟩ (ynk 300000 5:Nat) ⟨#[115,117,109]⟩,qk ⟨#[116,97,120]⟩ (ynk 30000 7:Nat) ⟨#[116,97,120]⟩]:=rfl
 have c3:=zqv G37 (zaw shRows zga) (by rw [hl];decide) (by rw [hl];decide) (fun x hx=>by
  have:=zie shRows zga (by decide) x hx
  omega)
 change zq _ _ _ _ (.tup [yg ynp,_]) at c3;rw [hl] at c3;unfold shSlip;generalize ynp=rt at c3 ⊢;generalize qk ⟨#[103,114,111,115,115]⟩ (ynk 300000 5:Nat) ⟨#[115,117,109]⟩=l1 at*;generalize qk ⟨#[116,97,120]⟩ (ynk 30000 7:Nat) ⟨#[116,97,120]⟩=l2 at*;clear hl;generalize ynk 300000 5=m1 at*;generalize ynk 30000 7=m2 at*;refine zh Tryz.func34 rfl (by rw [Tryz.ntmps34];simp) rfl rfl ?_;intro E hH hK;(refine ze ?_;conv=>whnf);refine zin (n:=2) (kk:=1) rfl ?_;refine zg [0,1,2,13,14,15] ?_;change SW E _ [(0,.ptr 0 0),(1,.ptr 1 0),(2,.asl 2 1 (([]:List ByteArray).map fun s=>[dS s])),(13,.imm (znp shRows)),(14,sI ((shRows.map Rw.cells).length:Nat)),(15,sI (0:Nat))]
  [.cells [.imm (zfq ⟨#[]⟩),sI 0,.imm (.val (.slice none 0 0)),.imm (.val (.slice none 0 0)),yg (0:Nat)],.cells [.imm (zfq ykd),sI 288,.imm (znp shRows),.imm (yv zga),yg (0:Nat)],.tok 1 (([]:List ByteArray).map fun s=>[dS s]).length]
 refine zp [0,1] (fun i (l:List ByteArray)=>[(0,.ptr 0 0),(1,.ptr 1 0),(2,.asl 2 1 (l.map fun s=>[dS s])),(13,.imm (znp shRows)),(14,sI ((shRows.map Rw.cells).length:Nat)),(15,sI i)])
  (fun _ l=>[.cells [.imm (zfq ⟨#[]⟩),sI 0,.imm (.val (.slice none 0 0)),.imm (.val (.slice none 0 0)),yg (0:Nat)],.cells [.imm (zfq ykd),sI 288,.imm (znp shRows),.imm (yv zga),yg (0:Nat)],.tok 1 (l.map fun s=>[dS s]).length])
  (fun (done:List Nat) _ l=>l=[l1,l2].take done.length) [] rfl ?_ ?_
 ·rintro l h
  have h:l=[l1,l2]:=h;subst h;refine zdr ?_;change SW E _ [(0,.ptr 0 0),(1,.ptr 1 0),(2,.imm (yr [l1,l2])),(13,.imm (znp shRows)),(14,sI ((shRows.map Rw.cells).length:Nat)),(15,sI (2:Nat))] _;(refine ze ?_;conv=>whnf);refine zd rfl  c3 ?_;(refine zc ?_;conv=>whnf);exact hK _
 ·rintro done x rest l hda hdl h ih
  have h:l=[l1,l2].take done.length:=h
  match done,hda,h,ih with
  |[],hda,h,ih=>
   have h:l=[]:=h;subst h;have hnx:=ih [l1] rfl;(refine ze ?_;conv=>whnf);refine zi (i:=0) (row:=[dS ⟨#[103,114,111,115,115]⟩,dI 300000,dS ⟨#[115,117,109]⟩]) rfl rfl rfl ?_;(refine zc ?_;conv=>whnf);(refine yc mixed rfl ?_;refine zf [] ?_;conv=>whnf);refine yx (i:=0) (row:=[dI 5]) rfl rfl rfl ?_;(refine zf [] ?_;conv=>whnf);refine ym rfl  c1 ?_;(refine zf [] ?_;conv=>whnf);(refine ze ?_;conv=>whnf);refine zd rfl  d1 ?_;(refine zc ?_;conv=>whnf);refine zr (b:=2) (kk:=1) (rows:=([]:List ByteArray).map fun s=>[dS s]) (new:=[[dS l1]]) rfl ⟨show 16<=65536 by decide,rfl⟩ rfl (by simp) ?_;(refine zc ?_;conv=>whnf);exact yz [0,1,2,13,14,15] 3 (by rw [hH];exact Nat.zero_le _) (by show 3<=4;decide) rfl rfl hnx
  |[y],hda,h,ih=>
   have h:l=[l1]:=h;subst h;have hnx:=ih [l1,l2] rfl;(refine ze ?_;conv=>whnf);refine zi (i:=1) (row:=[dS ⟨#[116,97,120]⟩,dI 30000,dS ⟨#[116,97,120]⟩]) rfl rfl rfl ?_;(refine zc ?_;conv=>whnf);(refine yc mixed rfl ?_;refine zf [] ?_;conv=>whnf);refine yx (i:=1) (row:=[dI 7]) rfl rfl rfl ?_;(refine zf [] ?_;conv=>whnf);refine ym rfl  c2 ?_;(refine zf [] ?_;conv=>whnf);(refine ze ?_;conv=>whnf);refine zd rfl  d2 ?_;(refine zc ?_;conv=>whnf);refine zr (b:=2) (kk:=1) (rows:=[l1].map fun s=>[dS s]) (new:=[[dS l2]]) rfl ⟨show 16<=65536 by decide,rfl⟩ rfl (by simp) ?_;(refine zc ?_;conv=>whnf);exact yz [0,1,2,13,14,15] 3 (by rw [hH];exact Nat.zero_le _) (by show 3<=4;decide) rfl rfl hnx
  |a::b::c,hda,h,ih=>
   have:=congrArg List.length hda;simp at this
def ynq:ByteArray:=⟨#[104,111,117,114,115]⟩
def yzh:ByteArray:=⟨#[109,105,110,117,116,101,115]⟩
def yxq:ByteArray:=⟨#[98,97,115,105,99]⟩
def yxr:ByteArray:=⟨#[69,85,82]⟩
def yzi:ByteArray:=⟨#[98,111,98]⟩
def offC:Codex:=⟨[⟨ynq,yzh,0⟩],[⟨yxq,yxr,1⟩],[⟨1,0,0,8766,9000,8700,[],[],.mk 15 0 yxr 0 [] [.mk 2 0 yzh 0 [] [],.mk 1 1200 yxr 0 [] []]⟩]⟩
def yke:List Fact:=[⟨yzi,ynq,8766,8800,8760,60,false⟩,⟨ykd,ynq,8770,8771,8771,480,false⟩]
abbrev ypn:D:=.val (.slice none 0 0)
def ytk:List D:=[dI 1,dI 0,dI 0,dI 8766,dI 9000,dI 8700,ypn,ypn,dI 15,dI 0,dS yxr,dI 0,ypn,.isl 6 [[dI 2,dI 0,dS yzh,dI 0,ypn,ypn],[dI 1,dI 1200,dS yxr,dI 0,ypn,ypn]]]
theorem ynr:(D.isl 14 [ytk]).Is (wm offC.arts):=DIss.isl (.cons (.cons (D.Is.refl _) (.cons (D.Is.refl _) (.cons (D.Is.refl _) (.cons (D.Is.refl _) (.cons (D.Is.refl _) (.cons (D.Is.refl _) (.cons (D.Is.nil 6) (.cons (D.Is.nil 1) (.cons (D.Is.refl _) (.cons (D.Is.refl _) (.cons (D.Is.refl _) (.cons (D.Is.refl _) (.cons (D.Is.nil 3) (.cons (DIss.isl (.cons (.cons (D.Is.refl _) (.cons (D.Is.refl _) (.cons (D.Is.refl _) (.cons (D.Is.refl _) (.cons (D.Is.nil 3) (.cons (D.Is.nil 6) .nil)))))) (.cons (.cons (D.Is.refl _) (.cons (D.Is.refl _) (.cons (D.Is.refl _) (.cons (D.Is.refl _) (.cons (D.Is.nil 3) (.cons (D.Is.nil 6) .nil)))))) .nil))) .nil)))))))))))))) .nil)
theorem ydf (G:List (Nat × D)):zq Tryz.prog G 35 [] (.tup [offC.sv,.imm (jd yke)]):=by
 refine yqm (r:=.tup [.agg [.imm (zx offC.facts),.imm (zx offC.lines),.imm (.isl 14 [ytk])],.imm (jd yke)]) ?_
  (SIs.tup (.cons (SIs.agg (.cons (SV.Is.refl _) (.cons (SV.Is.refl _) (.cons (D.Is.imm ynr) .nil)))) (.cons (SV.Is.refl _) .nil)))
 refine zh Tryz.func35 rfl (by rw [Tryz.ntmps35];simp) rfl rfl ?_;intro E hH hK;(refine ze ?_;conv=>whnf);exact hK _
theorem zrc:∀(f:Nat) (r:List Nat),(∀x∈r,x<18446744073709551616)->∀l∈qg f r,∀x∈l,x<18446744073709551616
 |0,r,h,l,hl=>by
  rw [qg,List.mem_singleton] at hl;subst hl;exact h
 |f+1,r,h,l,hl=>by
  rw [qg] at hl;split at hl
  ·rcases List.mem_cons.1 hl with rfl|hl
   ·exact h
   ·exact zrc f _ (zwd h) l hl
  ·rw [List.mem_singleton] at hl
   subst hl;exact h
theorem ygb (leaves:List ByteArray):zjr leaves<18446744073709551616:=by
 have h:=zrc 1024 (leaves.map qs) (fun x hx=>by
  obtain ⟨y,_,rfl⟩:=List.mem_map.1 hx
  exact zab _)
 unfold zjr;generalize qg 1024 (leaves.map qs)=ls at h;have key:∀(ls:List (List Nat)) (v:Nat),v<18446744073709551616->(∀l∈ls,∀x∈l,x<18446744073709551616)->ls.foldl (fun _ r=>r.getD 0 0) v<18446744073709551616:=by
  intro ls
  induction ls with
  |nil=>intro v hv _;exact hv
  |cons l ls ih=>
   intro v hv hl;rw [List.foldl_cons];refine ih _ ?_ fun l' h'=>hl l' (by simp [h'])
   cases l with
   |nil=>show (0:Nat)<_;decide
   |cons a l=>exact hl (a::l) (by simp) a (by simp)
 exact key ls 0 (by decide) h
noncomputable def showRow (s:Slip) (i:Int):Shw:=
 let r:=s.rows.getD i.toNat ⟨⟨#[]⟩,0,⟨#[]⟩⟩
 ⟨i,r.label,r.cents,r.reason,s.blinds.getD i.toNat 0,zlc (zaw s.rows s.blinds) i.toNat⟩
noncomputable def showN (s:Slip) (sel:List Int) (seed:ByteArray) (h i:Nat):Disc:=
 ⟨s.person,s.month,s.root,zoh s.rows s.blinds,sel.map (showRow s),qd (s.rows.map Rw.cents) (znq s.rows.length sel),(qd s.blinds (znq s.rows.length sel)).tmod 1073741789,
  signN seed h i (zgi spT (ziy s.person s.month s.root (zoh s.rows s.blinds)))⟩
end Go.Proofs.YtjnddlifnkgncaaGreatDoor