/- Contracts of functions of the program, joined from TCd, THb, TDc: no condition. -/
import Derived.Test.YtblpjknmhajcgaaGreatDoorJ6
set_option linter.unusedSimpArgs false
set_option linter.unusedVariables false
/- The examples of law 11 are as they are said to be (contract of head). -/
namespace Go.Proofs.YtblpjknmhajcgaaGreatDoor
open Go Go.Sh
set_option maxRecDepth 10000
set_option maxHeartbeats 8000000

theorem fit11 (w : List (List Ex)) (h : ∀ es ∈ w, es.length ≤ 40) : Codex.fit (cod11 w) ∧ ∀ a ∈ (cod11 w).arts, a.when_.length ≤ 40 ∧ a.unless_.length ≤ 80 := by
  have hm : ∀ a ∈ (cod11 w).arts, a.when_.length ≤ 40 ∧ a.unless_.length ≤ 80 := fun a ha => by
    obtain ⟨i, hi, rfl⟩ := List.mem_mapIdx.1 ha
    exact ⟨h _ (List.getElem_mem hi), Nat.zero_le _⟩
  exact ⟨fun a ha => by have := hm a ha; omega, hm⟩
theorem xC_all : Codex.fit xC ∧ SearchC xC ∧ xC.arts.length ≤ 1000000 := by
  obtain ⟨h1, h2⟩ := fit11 [[xLong, xSunday], [eT 6 xYoung xAdult], [eF 1 tT], [xOld]] (by simp)
  exact ⟨h1, searchC_of xC_ok (by decide) h2, by decide⟩
theorem xD_all : Codex.fit xD ∧ SearchC xD ∧ xD.arts.length ≤ 1000000 := by
  obtain ⟨h1, h2⟩ := fit11 [[eF 1 tT], [xOld]] (by simp)
  exact ⟨h1, searchC_of xD_ok (by decide) h2, by decide⟩
theorem xR_all : Codex.fit xR ∧ NeedC xR ∧ xR.arts.length ≤ 60 := by
  have h : ∀ a ∈ xR.arts, a.when_.length ≤ 1000000 ∧ a.unless_.length ≤ 1000000 := by simp [xR]
  exact ⟨fun a ha => by have := h a ha; omega, needC_of xR_ok h, by decide⟩

abbrev bx (x : Ex) : SObj := .cells (x.cells.map SV.imm)
abbrev bv (v : View) : SObj := .cells [sI v.day, .imm (dBools v.has), .imm (dInts v.value), .imm (dInts v.arts)]
def rawR (i : Nat) (n : Int) : List D := [dI ((i : Int) + 1), dI 0, dI 1, dI 8766, dI 36525, dI 8766, dnil, dnil, dI 3, dI n, dS cur11, dI 0, dnil, dnil]
abbrev hd11 (x y z : SObj) (cs : List SV) : List SObj := [bx xLong, bx xSunday, bx xYoung, bx xAdult, bx xOld, cdxO xC, bv ⟨8772, [true, false, false], [481, 0, 0], [0]⟩, bv zView, bv ⟨8766, [false, true, true], [0, 1, 31], [0, 1]⟩, x, y, z, .cells cs]
theorem xR_is : (SV.agg [.imm (dDecls decl11), .imm (dDecls line11), .imm (.isl 14 [rawR 0 2, rawR 1 1])]).Is xR.sv := by
  refine SIs.agg (.cons (SV.Is.refl _) (.cons (SV.Is.refl _) (.cons (D.Is.imm (DIss.isl (k := 14) (.cons ?_ (.cons ?_ .nil)))) .nil)))
  all_goals exact .cons (D.Is.refl _) (.cons (D.Is.refl _) (.cons (D.Is.refl _) (.cons (D.Is.refl _) (.cons (D.Is.refl _) (.cons (D.Is.refl _) (.cons (D.Is.nil 6) (.cons (D.Is.nil 1) (.cons (D.Is.refl _) (.cons (D.Is.refl _) (.cons (D.Is.refl _) (.cons (D.Is.refl _) (.cons (D.Is.nil 3) (.cons (D.Is.nil 6) .nil)))))))))))))
theorem head11 : SPure Tryz.prog G0 9 [] (sB true) := by
  have k480 := konst11 G0 480 tM
  have f0 := fact11 G0 0 tM
  have tLong := two11 G0 9 (eK 480 tM) (eF 0 tM)
  have k7 := konst11 G0 7 tN
  have tSun := two11 G0 8 (.mk 4 1 tN 0 [] []) (eK 7 tN)
  have f2 := fact11 G0 2 tN
  have k18 := konst11 G0 18 tN
  have tYoung := two11 G0 9 (eF 2 tN) (eK 18 tN)
  have tAdult := two11 G0 10 (eK 18 tN) (eF 2 tN)
  have k30 := konst11 G0 30 tN
  have tOld := two11 G0 9 (eK 30 tN) (eF 2 tN)
  have tAnd := two11 G0 6 xYoung xAdult
  have f1 := fact11 G0 1 tT
  have eC := ex11_spec G0 [[xLong, xSunday], [eT 6 xYoung xAdult], [eF 1 tT], [xOld]] (by decide)
  have eD := ex11_spec G0 [[eF 1 tT], [xOld]] (by decide)
  have w0 := witnessP_spec xC xC_all.1 (fun _ => xC_all.2.1) xC_all.2.2 [0] (by decide)
  have w1 := witnessP_spec xC xC_all.1 (fun _ => xC_all.2.1) xC_all.2.2 [1] (by decide)
  rw [xC_w0] at w0
  rw [xC_w1] at w1
  have cl := clashP_spec xD xD_all.1 (fun _ => xD_all.2.1) xD_all.2.2
  rw [xD_clash] at cl
  have s1 := sameView11_spec G0 ⟨8772, [true, false, false], [481, 0, 0], [0]⟩ ⟨8772, [true, false, false], [481, 0, 0], [0]⟩ ⟨by decide, by decide, by decide⟩ ⟨by decide, by decide, by decide⟩ (by decide) (by decide)
  rw [show View.same' ⟨8772, [true, false, false], [481, 0, 0], [0]⟩ ⟨8772, [true, false, false], [481, 0, 0], [0]⟩ = true by decide] at s1
  have s2 := sameView11_spec G0 ⟨8766, [false, true, true], [0, 1, 31], [0, 1]⟩ ⟨8766, [false, true, true], [0, 1, 31], [0, 1]⟩ ⟨by decide, by decide, by decide⟩ ⟨by decide, by decide, by decide⟩ (by decide) (by decide)
  rw [show View.same' ⟨8766, [false, true, true], [0, 1, 31], [0, 1]⟩ ⟨8766, [false, true, true], [0, 1, 31], [0, 1]⟩ = true by decide] at s2
  have dd := deadP_spec xC xC_all.1 (fun _ => xC_all.2.1) xC_all.2.2
  rw [xC_dead] at dd
  have s3 := same11_spec G0 [1] [1] (by decide) (by decide)
  rw [show decide (([1] : List Int) = [1]) = true by decide] at s3
  have rr := ringP_spec G0 xR xR_all.1 (fun _ => xR_all.2.1) (fun _ => xR_all.2.2) (fun _ => ndOK_of xR_all.2.2) (fun j => Nat.le_trans (needsOf_len _ _) (by decide)) (by decide)
  rw [if_pos xR_ok, xR_ring] at rr
  have s4 := same11_spec G0 [0, 1] [0, 1] (by decide) (by decide)
  rw [show decide (([0, 1] : List Int) = [0, 1]) = true by decide] at s4
  have rc := ringP_spec G0 xC xC_all.1 (fun _ => xC_all.2.1.need) (fun _ => by decide) (fun _ => ndOK_of (by decide)) (fun j => Nat.le_trans (needsOf_len _ _) (by decide)) (by decide)
  rw [if_pos xC_ok, xC_ring] at rc
  refine spure_enter Tryz.func9 rfl (by rw [Tryz.ntmps9]; simp) rfl rfl ?_; intro E hH hK
  (refine sgo_sound [777] 1000 ?_; conv => whnf)
  refine swr_pure rfl rfl rfl rfl rfl rfl  k480 ?_
  (refine sgor_sound [777] 1000 ?_; conv => whnf)
  refine swr_pure rfl rfl rfl rfl rfl rfl  f0 ?_
  (refine sgor_sound [777] 1000 ?_; conv => whnf)
  refine swr_pure rfl rfl rfl rfl rfl rfl  tLong ?_
  (refine sgor_sound [777] 1000 ?_; conv => whnf)
  refine swr_lift (fun k h => sw_is 20 rfl (raw11_is0 4 1 tN) h) ?_
  (refine sgor_sound [777] 1000 ?_; conv => whnf)
  refine swr_pure rfl rfl rfl rfl rfl rfl  k7 ?_
  (refine sgor_sound [777] 1000 ?_; conv => whnf)
  refine swr_pure rfl rfl rfl rfl rfl rfl  tSun ?_
  (refine sgor_sound [777] 1000 ?_; conv => whnf)
  refine swr_pure rfl rfl rfl rfl rfl rfl  f2 ?_
  (refine sgor_sound [777] 1000 ?_; conv => whnf)
  refine swr_pure rfl rfl rfl rfl rfl rfl  k18 ?_
  (refine sgor_sound [777] 1000 ?_; conv => whnf)
  refine swr_pure rfl rfl rfl rfl rfl rfl  tYoung ?_
  (refine sgor_sound [777] 1000 ?_; conv => whnf)
  refine swr_pure rfl rfl rfl rfl rfl rfl  k18 ?_
  (refine sgor_sound [777] 1000 ?_; conv => whnf)
  refine swr_pure rfl rfl rfl rfl rfl rfl  f2 ?_
  (refine sgor_sound [777] 1000 ?_; conv => whnf)
  refine swr_pure rfl rfl rfl rfl rfl rfl  tAdult ?_
  (refine sgor_sound [777] 1000 ?_; conv => whnf)
  refine swr_pure rfl rfl rfl rfl rfl rfl  k30 ?_
  (refine sgor_sound [777] 1000 ?_; conv => whnf)
  refine swr_pure rfl rfl rfl rfl rfl rfl  f2 ?_
  (refine sgor_sound [777] 1000 ?_; conv => whnf)
  refine swr_pure rfl rfl rfl rfl rfl rfl  tOld ?_
  (refine sgor_sound [777] 1000 ?_; conv => whnf)
  refine sw_keep [1, 2, 3, 4, 5] ?_
  change SW E _ [(1, .ptr 0 0), (2, .ptr 1 0), (3, .ptr 2 0), (4, .ptr 3 0), (5, .ptr 4 0)] [bx xLong, bx xSunday, bx xYoung, bx xAdult, bx xOld]
  (refine swe_start 1 mixed rfl ?_; refine sgoe_sound [777] (nx := 5) ?_; conv => whnf)
  refine swe_pure rfl rfl rfl rfl rfl rfl (show 5 ≤ 6 by decide) tAnd ?_
  (refine sgoe_sound [777] (nx := 5) ?_; conv => whnf)
  refine swe_pure rfl rfl rfl rfl rfl rfl (show 5 ≤ 6 by decide) f1 ?_
  (refine sgoe_sound [777] (nx := 5) ?_; conv => whnf)
  refine swe_pure rfl rfl rfl rfl rfl rfl (show 5 ≤ 6 by decide) eC ?_
  (refine sgoe_sound [777] (nx := 5) ?_; conv => whnf)
  refine sw_keep [5, 6] ?_
  change SW E _ [(5, .ptr 4 0), (6, .ptr 5 0)] [bx xLong, bx xSunday, bx xYoung, bx xAdult, bx xOld, cdxO xC]
  (refine sgo_sound [777] 1000 ?_; conv => whnf)
  refine swr_pure rfl rfl rfl rfl rfl rfl  w0 ?_
  (refine sgor_sound [777] 1000 ?_; conv => whnf)
  refine swr_pure rfl rfl rfl rfl rfl rfl  w1 ?_
  (refine sgor_sound [777] 1000 ?_; conv => whnf)
  refine sw_keep [5, 6, 7, 8, 10] ?_
  change SW E _ [(5, .ptr 4 0), (6, .ptr 5 0), (7, .ptr 6 0), (8, sB true), (10, sB false)] [bx xLong, bx xSunday, bx xYoung, bx xAdult, bx xOld, cdxO xC, bv ⟨8772, [true, false, false], [481, 0, 0], [0]⟩, bv zView]
  (refine swe_start 1 mixed rfl ?_; refine sgoe_sound [777] (nx := 8) ?_; conv => whnf)
  refine swe_pure rfl rfl rfl rfl rfl rfl (show 8 ≤ 9 by decide) f1 ?_
  (refine sgoe_sound [777] (nx := 8) ?_; conv => whnf)
  refine swe_pure rfl rfl rfl rfl rfl rfl (show 8 ≤ 9 by decide) eD ?_
  (refine sgoe_sound [777] (nx := 8) ?_; conv => whnf)
  refine swe_pure rfl rfl rfl rfl rfl rfl (show 8 ≤ 9 by decide) cl ?_
  (refine sgoe_sound [777] (nx := 8) ?_; conv => whnf)
  refine sw_keep [6, 7, 8, 10, 11, 12, 13, 14] ?_
  change SW E _ [(6, .ptr 5 0), (7, .ptr 6 0), (8, sB true), (10, sB false), (11, sI 0), (12, sI 1), (13, .ptr 8 0), (14, sB true)] [bx xLong, bx xSunday, bx xYoung, bx xAdult, bx xOld, cdxO xC, bv ⟨8772, [true, false, false], [481, 0, 0], [0]⟩, bv zView, bv ⟨8766, [false, true, true], [0, 1, 31], [0, 1]⟩]
  have hV := scall_shift (ex11_vecs G0 [dnil, dnil] (by decide) (by simp)) [bx xLong, bx xSunday, bx xYoung, bx xAdult, bx xOld, cdxO xC, bv ⟨8772, [true, false, false], [481, 0, 0], [0]⟩, bv zView, bv ⟨8766, [false, true, true], [0, 1, 31], [0, 1]⟩]
  (refine sgo_sound [777] 1000 ?_; conv => whnf)
  refine swr_call (argv := [.imm (.isl 1 [[dnil], [dnil]])]) rfl rfl rfl rfl rfl rfl (hV.mono ?_)
  rintro r H' ⟨r1, H1, ⟨rfl, x, y, rfl⟩, rfl, rfl⟩
  refine ⟨by rw [List.length_append]; exact Nat.le_add_right _ _, ?_⟩
  (refine sgor_sound [777] 1000 ?_; conv => whnf)
  refine swr_lift (t' := [(6, .ptr 5 0), (7, .ptr 6 0), (8, sB true), (10, sB false), (11, sI 0), (12, sI 1), (13, .ptr 8 0), (14, sB true), (15, .ptr 12 0), (72, .vec 11 2), (73, raw11 3 2 cur11 dnil)]) (H' := hd11 (x.sh 9) (y.sh 9) (.vec 14 (nil11 0 dnil ++ nil11 1 dnil)) [.imm (dDecls decl11), .imm (dDecls line11), .vec 11 2]) (fun k h => sw_keep [6, 7, 8, 10, 11, 12, 13, 14, 15, 72, 73] h) ?_
  generalize x.sh 9 = x'
  generalize y.sh 9 = y'
  refine swr_vidx (i := 0) (kk := 14) (n := 2) (b := 11) (cs := nil11 0 dnil ++ nil11 1 dnil) rfl rfl rfl rfl rfl rfl (by rfl) rfl rfl (by decide) rfl (by decide) ?_
  refine swr_vfield (b := 11) (n := 2) (kk := 14) (cs := nil11 0 dnil ++ nil11 1 dnil) rfl rfl rfl rfl rfl rfl (sz := 5) (by rfl) rfl rfl (by decide) (by decide) ?_
  refine swr_vstoreN (b := 11) (n := 2) (off := 8) (ns := 6) (vcs := [sI 3, sI 2, sS cur11, sI 0, .imm dnil, .imm dnil]) (kk := 14) (cs := nil11 0 dnil ++ nil11 1 dnil) rfl rfl rfl rfl rfl rfl (by rfl) rfl rfl rfl (by decide) (by decide) (by decide) ?_
  refine swr_lift (t' := [(6, .ptr 5 0), (7, .ptr 6 0), (8, sB true), (10, sB false), (11, sI 0), (12, sI 1), (13, .ptr 8 0), (14, sB true), (15, .ptr 12 0)]) (H' := hd11 x' y' (.vec 14 ((rawR 0 2).map SV.imm ++ nil11 1 dnil)) [.imm (dDecls decl11), .imm (dDecls line11), .vec 11 2]) (fun k h => sw_keep [6, 7, 8, 10, 11, 12, 13, 14, 15] h) ?_
  (refine sgor_sound [777] 1000 ?_; conv => whnf)
  refine swr_vidx (i := 1) (kk := 14) (n := 2) (b := 11) (cs := (rawR 0 2).map SV.imm ++ nil11 1 dnil) rfl rfl rfl rfl rfl rfl (by rfl) rfl rfl (by decide) rfl (by decide) ?_
  refine swr_vfield (b := 11) (n := 2) (kk := 14) (cs := (rawR 0 2).map SV.imm ++ nil11 1 dnil) rfl rfl rfl rfl rfl rfl (sz := 5) (by rfl) rfl rfl (by decide) (by decide) ?_
  refine swr_vstoreN (b := 11) (n := 2) (off := 22) (ns := 6) (vcs := [sI 3, sI 1, sS cur11, sI 0, .imm dnil, .imm dnil]) (kk := 14) (cs := (rawR 0 2).map SV.imm ++ nil11 1 dnil) rfl rfl rfl rfl rfl rfl (by rfl) rfl rfl rfl (by decide) (by decide) (by decide) ?_
  refine swr_lift (t' := [(6, .ptr 5 0), (7, .ptr 6 0), (8, sB true), (10, sB false), (11, sI 0), (12, sI 1), (13, .ptr 8 0), (14, sB true), (15, .ptr 12 0)]) (H' := hd11 x' y' .dead [.imm (dDecls decl11), .imm (dDecls line11), .imm (.isl 14 [rawR 0 2, rawR 1 1])]) (fun k h => sw_keep [6, 7, 8, 10, 11, 12, 13, 14, 15]
    (sw_vshutCell 12 2 11 2 14 (cs0 := [.imm (dDecls decl11), .imm (dDecls line11), .vec 11 2]) (cs := (rawR 0 2 ++ rawR 1 1).map SV.imm) (ds := rawR 0 2 ++ rawR 1 1) rfl rfl rfl rfl rfl rfl (by decide) h)) ?_
  (refine sgor_sound [777] 1000 ?_; conv => whnf)
  refine swr_pure rfl rfl rfl rfl rfl rfl  s1 ?_
  (refine sgor_sound [777] 1000 ?_; conv => whnf)
  refine swr_pure rfl rfl rfl rfl rfl rfl  s2 ?_
  (refine sgor_sound [777] 1000 ?_; conv => whnf)
  refine swr_pure rfl rfl rfl rfl rfl rfl  dd ?_
  (refine sgor_sound [777] 1000 ?_; conv => whnf)
  refine swr_pure rfl rfl rfl rfl rfl rfl  s3 ?_
  (refine sgor_sound [777] 1000 ?_; conv => whnf)
  refine swr_lift (fun k h => sw_is 122 rfl xR_is h) ?_
  refine swr_pure rfl rfl rfl rfl rfl rfl  rr ?_
  (refine sgor_sound [777] 1000 ?_; conv => whnf)
  refine swr_pure rfl rfl rfl rfl rfl rfl  s4 ?_
  (refine sgor_sound [777] 1000 ?_; conv => whnf)
  refine swr_pure rfl rfl rfl rfl rfl rfl  rc ?_
  (refine sgor_sound [777] 1000 ?_; conv => whnf)
  exact hK _
end Go.Proofs.YtblpjknmhajcgaaGreatDoor

/- Contracts, part Hb: small codices; numbers of articles. -/
namespace Go.Proofs.YtblpjknmhajcgaaGreatDoor
open Go Go.Sh
set_option maxRecDepth 10000
set_option maxHeartbeats 2000000
variable (G : List (Nat × D))

def artIx (n : Int) : List Article → Nat → Int
  | [], _ => -1
  | d :: r, i => if d.number = n then i else artIx n r (i + 1)

def artFew (L : Int) (a : Article) : Bool := decide (a.when_.length ≤ 40) && decide (a.unless_.length ≤ 80) && decide ((exSize a.amount : Int) ≤ L) && a.when_.all (fun e => decide ((exSize e : Int) ≤ L))
def fewOK (c : Codex) (L : Int) : Bool := decide (c.facts.length ≤ 40) && decide (c.lines.length ≤ 40) && decide (c.arts.length ≤ 70) && c.arts.all (artFew L)

theorem few_spec (c : Codex) (L : Int) (h0 : 0 ≤ L) (h1 : L ≤ 999999) : SPure Tryz.prog G 39 [c.sv, sI L] (sB (fewOK c L)) := by
  refine spure_enter Tryz.func39 rfl (by rw [Tryz.ntmps39]; simp) rfl rfl ?_; intro E hH hK
  have hlf : (c.facts.map Decl.cells).length = c.facts.length := by simp
  have hll : (c.lines.map Decl.cells).length = c.lines.length := by simp
  have hla : (c.arts.map Article.cells).length = c.arts.length := by simp
  (refine sgo_sound [] 1000 ?_; conv => whnf)
  repeat' ((with_reducible first | refine bdec (fun h => ?_) (fun h => ?_) | refine bndec (fun h => ?_) (fun h => ?_) | refine bwtd (fun h => ?_) (fun h => ?_) | refine bwfd (fun h => ?_) (fun h => ?_) | refine bwtn (fun h => ?_) (fun h => ?_) | refine bwfn (fun h => ?_) (fun h => ?_) | refine bwtb (fun h => ?_) (fun h => ?_) | refine bwfb (fun h => ?_) (fun h => ?_) | refine bwt (fun h => ?_) (fun h => ?_) | refine bwf (fun h => ?_) (fun h => ?_) | refine bnt (fun h => ?_) (fun h => ?_) | refine bcase (fun h => ?_) (fun h => ?_)) <;> (conv => whnf))
  all_goals try exact kB hK (by simp [fewOK]; intros; omega)
  have hsz : c.facts.length ≤ 40 ∧ c.lines.length ≤ 40 ∧ c.arts.length ≤ 70 := by omega
  have hok : fewOK c L = c.arts.all (artFew L) := by simp [fewOK, hsz]
  refine sw_keep [1, 2, 5] ?_
  refine sw_each c.arts (fun i (_ : Unit) => [(1, sI L), (2, .ptr 0 0), (5, sI i)]) (fun _ _ => [.cells [.imm (dDecls c.facts), .imm (dDecls c.lines), .imm (dArts c.arts)]])
    (fun done rest _ => c.arts.all (artFew L) = rest.all (artFew L)) () rfl ?_ ?_
  · rintro _ h1
    (refine sgo_sound [] 1000 ?_; conv => whnf)
    repeat' ((with_reducible first | refine bdec (fun h => ?_) (fun h => ?_) | refine bndec (fun h => ?_) (fun h => ?_) | refine bwtd (fun h => ?_) (fun h => ?_) | refine bwfd (fun h => ?_) (fun h => ?_) | refine bwtn (fun h => ?_) (fun h => ?_) | refine bwfn (fun h => ?_) (fun h => ?_) | refine bwtb (fun h => ?_) (fun h => ?_) | refine bwfb (fun h => ?_) (fun h => ?_) | refine bwt (fun h => ?_) (fun h => ?_) | refine bwf (fun h => ?_) (fun h => ?_) | refine bnt (fun h => ?_) (fun h => ?_) | refine bcase (fun h => ?_) (fun h => ?_)) <;> (conv => whnf))
    all_goals try (exfalso; omega)
    exact kB hK (by rw [hok, h1]; rfl)
  · rintro done a rest _ ha hl hinv ih
    have hw := wrap_succ (n := done.length) (by omega)
    simp only [List.all_cons] at hinv
    obtain ⟨op, n, u, den, ps, ks, ham⟩ : ∃ op n u den ps ks, a.amount = .mk op n u den ps ks := by cases h : a.amount; exact ⟨_, _, _, _, _, _, rfl⟩
    have hrow : (c.arts.map Article.cells)[((done.length : Nat) : Int).toNat]? = some [dI a.number, dI a.line, dI a.rank, dI a.lo, dI a.hi, dI a.known, dExprs a.when_, dInts a.unless_, dI op, dI n, dS u, dI den, .isl 3 (ps.map Piece.cells), .isl 6 (exprRows ks)] := by
      simp [ha, Article.cells, ham, exprRows_eq, Ex.op, Ex.n, Ex.unit, Ex.den, Ex.pieces, Ex.kids]
    have hwl : (a.when_.map Ex.cells).length = a.when_.length := by simp
    have hul : (a.unless_.map fun n => [dI n]).length = a.unless_.length := by simp
    have bad : artFew L a = false → fewOK c L = false := fun h => by rw [hok, hinv, h]; rfl
    (refine sgo_sound [] 1000 ?_; conv => whnf)
    repeat' ((with_reducible first | refine bdec (fun h => ?_) (fun h => ?_) | refine bndec (fun h => ?_) (fun h => ?_) | refine bwtd (fun h => ?_) (fun h => ?_) | refine bwfd (fun h => ?_) (fun h => ?_) | refine bwtn (fun h => ?_) (fun h => ?_) | refine bwfn (fun h => ?_) (fun h => ?_) | refine bwtb (fun h => ?_) (fun h => ?_) | refine bwfb (fun h => ?_) (fun h => ?_) | refine bwt (fun h => ?_) (fun h => ?_) | refine bwf (fun h => ?_) (fun h => ?_) | refine bnt (fun h => ?_) (fun h => ?_) | refine bcase (fun h => ?_) (fun h => ?_)) <;> (conv => whnf))
    all_goals try (exfalso; omega)
    refine swr_index rfl rfl rfl rfl rfl rfl rfl rfl  (row := [dI a.number, dI a.line, dI a.rank, dI a.lo, dI a.hi, dI a.known, dExprs a.when_, dInts a.unless_, dI op, dI n, dS u, dI den, .isl 3 (ps.map Piece.cells), .isl 6 (exprRows ks)]) hrow ?_
    (refine sgor_sound [] 1000 ?_; conv => whnf)
    repeat' ((with_reducible first | refine bdec (fun h => ?_) (fun h => ?_) | refine bndec (fun h => ?_) (fun h => ?_) | refine bwtd (fun h => ?_) (fun h => ?_) | refine bwfd (fun h => ?_) (fun h => ?_) | refine bwtn (fun h => ?_) (fun h => ?_) | refine bwfn (fun h => ?_) (fun h => ?_) | refine bwtb (fun h => ?_) (fun h => ?_) | refine bwfb (fun h => ?_) (fun h => ?_) | refine bwt (fun h => ?_) (fun h => ?_) | refine bwf (fun h => ?_) (fun h => ?_) | refine bnt (fun h => ?_) (fun h => ?_) | refine bcase (fun h => ?_) (fun h => ?_)) <;> (conv => whnf))
    all_goals try exact kB hK (bad (by simp [artFew]; intros; omega))
    refine swr_pure rfl rfl rfl rfl rfl rfl  (small_spec G (.mk op n u den ps ks) L h0 h1) ?_
    (refine sgor_sound [] 1000 ?_; conv => whnf)
    repeat' ((with_reducible first | refine bdec (fun h => ?_) (fun h => ?_) | refine bndec (fun h => ?_) (fun h => ?_) | refine bwtd (fun h => ?_) (fun h => ?_) | refine bwfd (fun h => ?_) (fun h => ?_) | refine bwtn (fun h => ?_) (fun h => ?_) | refine bwfn (fun h => ?_) (fun h => ?_) | refine bwtb (fun h => ?_) (fun h => ?_) | refine bwfb (fun h => ?_) (fun h => ?_) | refine bwt (fun h => ?_) (fun h => ?_) | refine bwf (fun h => ?_) (fun h => ?_) | refine bnt (fun h => ?_) (fun h => ?_) | refine bcase (fun h => ?_) (fun h => ?_)) <;> (conv => whnf))
    · exact kB hK (bad (by simp [artFew, ham]; intros; omega))
    have hgood : artFew L a = a.when_.all (fun e => decide ((exSize e : Int) ≤ L)) := by
      simp only [artFew, ham]
      rw [decide_eq_true (by omega), decide_eq_true (by omega), decide_eq_true h]; rfl
    refine sw_keep [1, 2, 5, 6, 7] ?_
    refine sw_each a.when_ (fun i (_ : Unit) => [(1, sI L), (2, .ptr 0 0), (5, sI done.length), (6, .ptr 1 0), (7, sI i)])
      (fun _ _ => [.cells [.imm (dDecls c.facts), .imm (dDecls c.lines), .imm (dArts c.arts)], .cells (artList a op n u den ps ks)])
      (fun done rest _ => a.when_.all (fun e => decide ((exSize e : Int) ≤ L)) = rest.all (fun e => decide ((exSize e : Int) ≤ L))) () rfl ?_ ?_
    · rintro _ h2
      (refine sgo_sound [] 1000 ?_; conv => whnf)
      repeat' ((with_reducible first | refine bdec (fun h => ?_) (fun h => ?_) | refine bndec (fun h => ?_) (fun h => ?_) | refine bwtd (fun h => ?_) (fun h => ?_) | refine bwfd (fun h => ?_) (fun h => ?_) | refine bwtn (fun h => ?_) (fun h => ?_) | refine bwfn (fun h => ?_) (fun h => ?_) | refine bwtb (fun h => ?_) (fun h => ?_) | refine bwfb (fun h => ?_) (fun h => ?_) | refine bwt (fun h => ?_) (fun h => ?_) | refine bwf (fun h => ?_) (fun h => ?_) | refine bnt (fun h => ?_) (fun h => ?_) | refine bcase (fun h => ?_) (fun h => ?_)) <;> (conv => whnf))
      all_goals try (exfalso; omega)
      rw [hw]
      exact sw_kc [1, 2, 5] 1 (by simp [hH]) (by simp) rfl rfl (ih () (by rw [hinv, hgood, h2]; rfl))
    · rintro d2 e r2 _ ha2 hl2 h2 ih2
      have hw2 := wrap_succ (n := d2.length) (by omega)
      simp only [List.all_cons] at h2
      obtain ⟨o1, n1, u1, d1, p1, q1⟩ := e
      (refine sgo_sound [] 1000 ?_; conv => whnf)
      repeat' ((with_reducible first | refine bdec (fun h => ?_) (fun h => ?_) | refine bndec (fun h => ?_) (fun h => ?_) | refine bwtd (fun h => ?_) (fun h => ?_) | refine bwfd (fun h => ?_) (fun h => ?_) | refine bwtn (fun h => ?_) (fun h => ?_) | refine bwfn (fun h => ?_) (fun h => ?_) | refine bwtb (fun h => ?_) (fun h => ?_) | refine bwfb (fun h => ?_) (fun h => ?_) | refine bwt (fun h => ?_) (fun h => ?_) | refine bwf (fun h => ?_) (fun h => ?_) | refine bnt (fun h => ?_) (fun h => ?_) | refine bcase (fun h => ?_) (fun h => ?_)) <;> (conv => whnf))
      all_goals try (exfalso; omega)
      refine swr_index rfl rfl rfl rfl rfl rfl rfl rfl  (row := (Ex.mk o1 n1 u1 d1 p1 q1).cells) (by simp [ha2]) ?_
      (refine sgor_sound [] 1000 ?_; conv => whnf)
      refine swr_pure rfl rfl rfl rfl rfl rfl  (small_spec G (.mk o1 n1 u1 d1 p1 q1) L h0 h1) ?_
      (refine sgor_sound [] 1000 ?_; conv => whnf)
      repeat' ((with_reducible first | refine bdec (fun h => ?_) (fun h => ?_) | refine bndec (fun h => ?_) (fun h => ?_) | refine bwtd (fun h => ?_) (fun h => ?_) | refine bwfd (fun h => ?_) (fun h => ?_) | refine bwtn (fun h => ?_) (fun h => ?_) | refine bwfn (fun h => ?_) (fun h => ?_) | refine bwtb (fun h => ?_) (fun h => ?_) | refine bwfb (fun h => ?_) (fun h => ?_) | refine bwt (fun h => ?_) (fun h => ?_) | refine bwf (fun h => ?_) (fun h => ?_) | refine bnt (fun h => ?_) (fun h => ?_) | refine bcase (fun h => ?_) (fun h => ?_)) <;> (conv => whnf))
      · exact kB hK (bad (by rw [hgood, h2, decide_eq_false h]; rfl))
      · rw [hw2]
        exact sw_kc [1, 2, 5, 6, 7] 2 (by simp [hH]) (by simp) rfl rfl (ih2 () (by rw [h2, decide_eq_true h]; rfl))

def smallOK (c : Codex) (l : List Fact) : Bool := fewOK c 420 && decide (l.length ≤ 402)
end Go.Proofs.YtblpjknmhajcgaaGreatDoor

/- DefeatRing: the law returns true. -/
namespace Go.Proofs.YtblpjknmhajcgaaGreatDoor
open Go Go.Sh
set_option maxRecDepth 10000
set_option maxHeartbeats 8000000

section
variable {P : Program} {G : List (Nat × D)} {fn : Func} {rd : Bool} {E : En P G fn rd} {t : List (Nat × SV)} {H : List SObj} {k : List Item} {all : Array Oper} {rest : List Oper} {o : Oper}
/-- the rest of a division -/
theorem swr_rem {ty ty' : Nat} {x y : Operand} {a b : Int} (hop : o.op = .binOp .rem ty x y ty') (hw : swant all t o.guard = some true) (hd : dstOK fn.ntmps o.dst = true) (hx : evalS G t x = sI a) (hy : evalS G t y = sI b) (hb : b ≠ 0)
    (h : SWr E all rest k (tput t o.dst (sI (a.tmod b))) H) : SWr E all (o :: rest) k t H := by
  refine swr_op (r := sI (a.tmod b)) (H' := H) hw hd ?_ (Nat.le_refl _) h
  have hs : sbin P .rem ty (.int .i64 a) (.int .i64 b) = some (.int .i64 (a.tmod b)) := by
    show (if b = 0 then none else some (Value.int .i64 (a.tmod b))) = _
    rw [if_neg hb]
  rw [hop]
  simp only [sop, hx, hy, hs, Option.map_some]
end
def fewC (c : Codex) : Bool := fewOK c 400 && decide (c.arts.length ≤ 12) && decide (c.facts.length ≤ 12)
theorem few11_spec (c : Codex) : SPure Tryz.prog G0 10 [c.sv] (sB (fewC c)) := by
  have hal : (c.arts.map Article.cells).length = c.arts.length := by simp
  have hfl : (c.facts.map Decl.cells).length = c.facts.length := by simp
  have hfw := few_spec G0 c 400 (by decide) (by decide)
  have hu : fewC c = (fewOK c 400 && decide (c.arts.length ≤ 12) && decide (c.facts.length ≤ 12)) := rfl
  rw [hu]
  generalize fewOK c 400 = b at hfw
  refine spure_enter Tryz.func10 rfl (by rw [Tryz.ntmps10]; simp) rfl rfl ?_; intro E hH hK
  rw [show c.sv = .agg [.imm (dDecls c.facts), .imm (dDecls c.lines), .imm (dArts c.arts)] from rfl]
  (refine sgo_sound [777] 1000 ?_; conv => whnf)
  refine swr_pure rfl rfl rfl rfl rfl rfl  hfw ?_
  cases b <;> ((refine sgor_sound [777] 1000 ?_; conv => whnf))
  · exact hK _
  · repeat' ((with_reducible first | refine bdec (fun h => ?_) (fun h => ?_) | refine bndec (fun h => ?_) (fun h => ?_) | refine bwtd (fun h => ?_) (fun h => ?_) | refine bwfd (fun h => ?_) (fun h => ?_) | refine bwtn (fun h => ?_) (fun h => ?_) | refine bwfn (fun h => ?_) (fun h => ?_) | refine bwtb (fun h => ?_) (fun h => ?_) | refine bwfb (fun h => ?_) (fun h => ?_) | refine bwt (fun h => ?_) (fun h => ?_) | refine bwf (fun h => ?_) (fun h => ?_) | refine bnt (fun h => ?_) (fun h => ?_) | refine bcase (fun h => ?_) (fun h => ?_)) <;> (conv => whnf))
    · have h1 : c.arts.length ≤ 12 := by omega
      rw [decide_eq_true h1, Bool.true_and, Bool.true_and] at hK
      have : decide (((c.facts.map Decl.cells).length : Int) ≤ 12) = decide (c.facts.length ≤ 12) := by rw [hfl]; exact decide_eq_decide.2 (by omega)
      rw [← this] at hK
      exact hK _
    · have h1 : ¬ c.arts.length ≤ 12 := by omega
      rw [decide_eq_false h1, Bool.and_false, Bool.false_and] at hK
      exact hK _
theorem few_facts {c : Codex} (h : fewC c = true) : c.arts.length ≤ 12 ∧ c.facts.length ≤ 12 ∧ fewOK c 420 = true ∧ ∀ a ∈ c.arts, a.when_.length ≤ 40 ∧ a.unless_.length ≤ 80 := by
  unfold fewC at h
  simp only [Bool.and_eq_true, decide_eq_true_eq] at h
  obtain ⟨⟨h1, h2⟩, h3⟩ := h
  unfold fewOK at h1 ⊢
  simp only [Bool.and_eq_true, decide_eq_true_eq, List.all_eq_true] at h1 ⊢
  refine ⟨h2, h3, ⟨h1.1, fun a ha => ?_⟩, fun a ha => ?_⟩
  · have := h1.2 a ha
    unfold artFew at this ⊢
    simp only [Bool.and_eq_true, decide_eq_true_eq, List.all_eq_true] at this ⊢
    exact ⟨⟨this.1.1, by omega⟩, fun e he => by have := this.2 e he; omega⟩
  · have := h1.2 a ha
    unfold artFew at this
    simp only [Bool.and_eq_true, decide_eq_true_eq, List.all_eq_true] at this
    exact ⟨this.1.1.1, this.1.1.2⟩

theorem ringLaw_spec (c : Codex) (hfit : Codex.fit c) : SPure Tryz.prog G0 8 [c.sv] (sB true) := by
  have hal : (c.arts.map Article.cells).length = c.arts.length := by simp
  have hfw := few11_spec c
  have hV := codexValid_spec G0 c hfit
  refine spure_enter Tryz.func8 rfl (by rw [Tryz.ntmps8]; simp) rfl rfl ?_; intro E hH hK
  rw [show c.sv = .agg [.imm (dDecls c.facts), .imm (dDecls c.lines), .imm (dArts c.arts)] from rfl]
  cases hb1 : fewC c <;> rw [hb1] at hfw <;> cases hb2 : codexOK c <;> rw [hb2] at hV
  case true.true =>
    obtain ⟨f1, f2, _, f4⟩ := few_facts hb1
    have hNd := needC_of hb2 (fun a ha => by have := f4 a ha; omega)
    have hR := ringP_spec G0 c hfit (fun _ => hNd) (fun _ => by omega) (fun _ => ndOK_of (by omega)) (fun j => Nat.le_trans (needsOf_len _ _) (by omega)) (by omega)
    have hO := orderP0 G0 c hfit (fun _ => hNd) (fun j => Nat.le_trans (needsOf_len _ _) (by omega)) (by omega)
    have hiff := ring_iff (c := c) (by omega)
    have hok := ring_ok (ndOK_of (c := c) (by omega))
    rw [if_pos hb2] at hR
    rw [hb2] at hO
    generalize hRR : ringOf (allNeeds c) = R at hR hiff hok
    have hRl : (R.map fun n => [dI n]).length = R.length := by simp
    have hlen := hok.len
    rw [allNeeds_len] at hlen
    (refine sgo_sound [777] 1000 ?_; conv => whnf)
    refine swr_pure rfl rfl rfl rfl rfl rfl  head11 ?_
    (refine sgor_sound [777] 1000 ?_; conv => whnf)
    refine swr_pure rfl rfl rfl rfl rfl rfl  hfw ?_
    (refine sgor_sound [777] 1000 ?_; conv => whnf)
    refine swr_pure rfl rfl rfl rfl rfl rfl  hV ?_
    (refine sgor_sound [777] 1000 ?_; conv => whnf)
    refine swr_pure rfl rfl rfl rfl rfl rfl  hR ?_
    (refine sgor_sound [777] 1000 ?_; conv => whnf)
    refine swr_pure rfl rfl rfl rfl rfl rfl  hO ?_
    skip
    have hq : (orderOf c).isSome = decide (((R.map fun n => [dI n]).length : Int) = 0) := by
      rw [hRl]
      cases hb : (orderOf c).isSome with
      | true => rw [hiff.2 hb]; rfl
      | false =>
        have hne : R ≠ [] := fun h => by rw [hiff.1 h] at hb; cases hb
        cases R with
        | nil => exact absurd rfl hne
        | cons x l => rw [decide_eq_false]; simp only [List.length_cons]; omega
    have hres : ∃ sl, orderR0 true (orderOf c) = .tup [sl, sB (orderOf c).isSome] ∧ (sl = nilV ∨ ∃ l, sl = .imm (dInts l)) := by
      cases orderOf c with
      | some l => exact ⟨_, rfl, .inr ⟨l, rfl⟩⟩
      | none => exact ⟨_, rfl, .inl rfl⟩
    obtain ⟨sl, hsl, hsl2⟩ := hres
    rw [hsl, hq]
    have hgoal : ∀ b : Bool, (b == b) = true := by decide
    rcases hsl2 with rfl | ⟨l, rfl⟩
    all_goals
      (refine sgor_sound [777] 1000 ?_; conv => whnf)
      repeat' ((with_reducible first | refine bdec (fun h => ?_) (fun h => ?_) | refine bndec (fun h => ?_) (fun h => ?_) | refine bwtd (fun h => ?_) (fun h => ?_) | refine bwfd (fun h => ?_) (fun h => ?_) | refine bwtn (fun h => ?_) (fun h => ?_) | refine bwfn (fun h => ?_) (fun h => ?_) | refine bwtb (fun h => ?_) (fun h => ?_) | refine bwfb (fun h => ?_) (fun h => ?_) | refine bwt (fun h => ?_) (fun h => ?_) | refine bwf (fun h => ?_) (fun h => ?_) | refine bnt (fun h => ?_) (fun h => ?_) | refine bcase (fun h => ?_) (fun h => ?_)) <;> (conv => whnf))
      all_goals try (exfalso; omega)
      refine sw_keep [1, 3, 6, 9] ?_
      refine sw_is 3 (x := sB (decide (((R.map fun n => [dI n]).length : Int) = 0) == decide (((R.map fun n => [dI n]).length : Int) = 0))) (y := sB true) rfl (by rw [hgoal]; exact SV.Is.refl _) ?_
      refine sw_keep [1, 3, 6, 9] ?_
      change SW E _ [(1, .ptr 0 0), (3, sB true), (6, .imm (dInts R)), (9, sI 0)] [cdxO c]
      refine sw_each R (fun i (_ : Unit) => [(1, .ptr 0 0), (3, sB true), (6, .imm (dInts R)), (9, sI i)]) (fun _ _ => [cdxO c]) (fun _ _ _ => True) () trivial ?_ ?_
      · rintro _ _
        (refine sgo_sound [777] 1000 ?_; conv => whnf)
        repeat' ((with_reducible first | refine bdec (fun h => ?_) (fun h => ?_) | refine bndec (fun h => ?_) (fun h => ?_) | refine bwtd (fun h => ?_) (fun h => ?_) | refine bwfd (fun h => ?_) (fun h => ?_) | refine bwtn (fun h => ?_) (fun h => ?_) | refine bwfn (fun h => ?_) (fun h => ?_) | refine bwtb (fun h => ?_) (fun h => ?_) | refine bwfb (fun h => ?_) (fun h => ?_) | refine bwt (fun h => ?_) (fun h => ?_) | refine bwf (fun h => ?_) (fun h => ?_) | refine bnt (fun h => ?_) (fun h => ?_) | refine bcase (fun h => ?_) (fun h => ?_)) <;> (conv => whnf))
        all_goals try (exfalso; omega)
        exact hK _
      · rintro done x rest _ hda hdl _ ih
        have hw := wrap_succ (n := done.length) (by omega)
        have hx : R[done.length]? = some x := by simp [hda]
        obtain ⟨x0, hx0⟩ : ∃ x0, R[0]? = some x0 := ⟨_, List.getElem?_eq_getElem (by omega)⟩
        have hrx : (R.map fun n => [dI n])[done.length]? = some [dI x] := by simp [hx]
        have hrx0 : (R.map fun n => [dI n])[0]? = some [dI x0] := by simp [hx0]
        have hfx := hok.fst _ _ _ hx0 hx
        have hrg := hok.rng _ _ hx
        rw [allNeeds_len] at hrg
        have hNe := needsP_spec G0 c hfit (fun _ => hNd) (by omega) x
        rw [if_pos ⟨hrg.1, hrg.2, hb2⟩] at hNe
        have hgd : (allNeeds c).getD x.toNat [] = needsOf c x := by
          rw [List.getD_eq_getElem?_getD, allNeeds_get (by omega), Int.toNat_of_nonneg hrg.1]; rfl
        have hnl := needsOf_len c x
        have hed := fun k y => hok.edge done.length k x y hx
        rw [hgd] at hed
        generalize needsOf c x = nx at hNe hnl hed
        (refine sgo_sound [777] 1000 ?_; conv => whnf)
        repeat' ((with_reducible first | refine bdec (fun h => ?_) (fun h => ?_) | refine bndec (fun h => ?_) (fun h => ?_) | refine bwtd (fun h => ?_) (fun h => ?_) | refine bwfd (fun h => ?_) (fun h => ?_) | refine bwtn (fun h => ?_) (fun h => ?_) | refine bwfn (fun h => ?_) (fun h => ?_) | refine bwtb (fun h => ?_) (fun h => ?_) | refine bwfb (fun h => ?_) (fun h => ?_) | refine bwt (fun h => ?_) (fun h => ?_) | refine bwf (fun h => ?_) (fun h => ?_) | refine bnt (fun h => ?_) (fun h => ?_) | refine bcase (fun h => ?_) (fun h => ?_)) <;> (conv => whnf))
        all_goals try (exfalso; omega)
        (refine swe_start 0 mixed rfl ?_; refine sgoe_sound [777] (nx := 1) ?_; conv => whnf)
        refine swe_index (i := done.length) (row := [dI x]) rfl rfl rfl rfl rfl rfl rfl (show 1 ≤ 1 by decide) rfl hrx ?_
        (refine sgoe_sound [777] (nx := 1) ?_; conv => whnf)
        refine swe_index (i := 0) (row := [dI x0]) rfl rfl rfl rfl rfl rfl rfl (show 1 ≤ 1 by decide) rfl hrx0 ?_
        (refine sgoe_sound [777, 59] (nx := 1) ?_; conv => whnf)
        refine swe_op ⟨sB (decide (x < x0)), [], none⟩ rfl rfl (show 1 ≤ 1 by decide) (fun _ _ _ => rfl) ?_
        rw [decide_eq_false (show ¬ x < x0 by omega)]
        (refine sgoe_sound [777] (nx := 1) ?_; conv => whnf)
        refine swe_index (i := done.length) (row := [dI x]) rfl rfl rfl rfl rfl rfl rfl (show 1 ≤ 1 by decide) rfl hrx ?_
        (refine sgoe_sound [777, 68] (nx := 1) ?_; conv => whnf)
        refine swe_op ⟨sB (decide (((c.arts.map Article.cells).length : Int) ≤ x)), [], none⟩ rfl rfl (show 1 ≤ 1 by decide) (fun _ _ _ => rfl) ?_
        rw [decide_eq_false (show ¬ ((c.arts.map Article.cells).length : Int) ≤ x by omega)]
        refine swe_op ⟨sB false, [], none⟩ rfl rfl (show 1 ≤ 1 by decide) (fun _ _ _ => rfl) ?_
        refine swe_nil (by kernel_rfl) ?_
        refine sw_keep [1, 3, 6, 9, 69] ?_
        change SW E _ [(1, .ptr 0 0), (3, sB true), (6, .imm (dInts R)), (9, sI done.length), (69, sB false)] [cdxO c]
        (refine sgo_sound [777, 70] 1000 ?_; conv => whnf)
        (refine swe_start 0 mixed rfl ?_; refine sgoe_sound [777] (nx := 1) ?_; conv => whnf)
        refine swe_index (i := done.length) (row := [dI x]) rfl rfl rfl rfl rfl rfl rfl (show 1 ≤ 1 by decide) rfl hrx ?_
        (refine sgoe_sound [777] (nx := 1) ?_; conv => whnf)
        refine swe_pure rfl rfl rfl rfl rfl rfl (show 1 ≤ 1 by decide) hNe ?_
        (refine sgoe_sound [777] (nx := 1) ?_; conv => whnf)
        (refine sgo_sound [777] 1000 ?_; conv => whnf)
        refine sw_keep [1, 3, 6, 9, 10, 11] ?_
        change SW E _ [(1, .ptr 0 0), (3, sB true), (6, .imm (dInts R)), (9, sI done.length), (10, .imm (dInts nx)), (11, sI 0)] [cdxO c]
        refine sw_each R (fun i (_ : Unit) => [(1, .ptr 0 0), (3, sB true), (6, .imm (dInts R)), (9, sI done.length), (10, .imm (dInts nx)), (11, sI i)]) (fun _ _ => [cdxO c]) (fun _ _ _ => True) () trivial ?_ ?_
        · rintro _ _
          (refine sgo_sound [777] 1000 ?_; conv => whnf)
          repeat' ((with_reducible first | refine bdec (fun h => ?_) (fun h => ?_) | refine bndec (fun h => ?_) (fun h => ?_) | refine bwtd (fun h => ?_) (fun h => ?_) | refine bwfd (fun h => ?_) (fun h => ?_) | refine bwtn (fun h => ?_) (fun h => ?_) | refine bwfn (fun h => ?_) (fun h => ?_) | refine bwtb (fun h => ?_) (fun h => ?_) | refine bwfb (fun h => ?_) (fun h => ?_) | refine bwt (fun h => ?_) (fun h => ?_) | refine bwf (fun h => ?_) (fun h => ?_) | refine bnt (fun h => ?_) (fun h => ?_) | refine bcase (fun h => ?_) (fun h => ?_)) <;> (conv => whnf))
          all_goals try (exfalso; omega)
          rw [hw]
          refine sw_keep [1, 3, 6, 9] ?_
          exact ih () trivial
        · rintro dk y rk _ hdak hdlk _ ihk
          have hwk := wrap_succ (n := dk.length) (by omega)
          have hy : R[dk.length]? = some y := by simp [hdak]
          have hry : (R.map fun n => [dI n])[dk.length]? = some [dI y] := by simp [hy]
          have hin := in11_spec G0 nx y (by omega)
          have hyed := hed dk.length y hy
          have hsame := hok.inj done.length dk.length x hx
          (refine sgo_sound [777, 87] 1000 ?_; conv => whnf)
          repeat' ((with_reducible first | refine bdec (fun h => ?_) (fun h => ?_) | refine bndec (fun h => ?_) (fun h => ?_) | refine bwtd (fun h => ?_) (fun h => ?_) | refine bwfd (fun h => ?_) (fun h => ?_) | refine bwtn (fun h => ?_) (fun h => ?_) | refine bwfn (fun h => ?_) (fun h => ?_) | refine bwtb (fun h => ?_) (fun h => ?_) | refine bwfb (fun h => ?_) (fun h => ?_) | refine bwt (fun h => ?_) (fun h => ?_) | refine bwf (fun h => ?_) (fun h => ?_) | refine bnt (fun h => ?_) (fun h => ?_) | refine bcase (fun h => ?_) (fun h => ?_)) <;> (conv => whnf))
          all_goals try (exfalso; omega)
          refine swr_rem (a := IntKind.i64.wrap ((done.length : Int) + 1)) (b := (R.map fun n => [dI n]).length) rfl rfl rfl rfl rfl (by omega) ?_
          have hrem : (IntKind.i64.wrap ((done.length : Int) + 1)).tmod ((R.map fun n => [dI n]).length : Int) = (((done.length + 1) % R.length : Nat) : Int) := by
            rw [hw, hRl, Int.tmod_eq_emod_of_nonneg (by omega)]
            rfl
          rw [hrem]
          generalize (done.length + 1) % R.length = md at hyed ⊢
          (refine sgor_sound [777] 1000 ?_; conv => whnf)
          have hbb : decide (y ∈ nx) = decide (((dk.length : Nat) : Int) = ((md : Nat) : Int)) := decide_eq_decide.2 (hyed.trans ⟨fun h => by omega, fun h => by omega⟩)
          rw [hbb] at hin
          refine sw_keep [1, 3, 6, 9, 10, 11, 12] ?_
          change SW E _ [(1, .ptr 0 0), (3, sB true), (6, .imm (dInts R)), (9, sI done.length), (10, .imm (dInts nx)), (11, sI dk.length), (12, sB (decide (((dk.length : Nat) : Int) = ((md : Nat) : Int))))] [cdxO c]
          generalize decide (((dk.length : Nat) : Int) = ((md : Nat) : Int)) = b at hin ⊢
          (refine swe_start 0 mixed rfl ?_; refine sgoe_sound [777] (nx := 1) ?_; conv => whnf)
          refine swe_index (i := dk.length) (row := [dI y]) rfl rfl rfl rfl rfl rfl rfl (show 1 ≤ 1 by decide) rfl hry ?_
          (refine sgoe_sound [777] (nx := 1) ?_; conv => whnf)
          refine swe_pure rfl rfl rfl rfl rfl rfl (show 1 ≤ 1 by decide) hin ?_
          cases b
          all_goals
            (refine sgoe_sound [777, 103] (nx := 1) ?_; conv => whnf)
            refine swe_op ⟨sB (decide (((done.length : Nat) : Int) = ((dk.length : Nat) : Int))), [], none⟩ rfl rfl (show 1 ≤ 1 by decide) (fun _ _ _ => rfl) ?_
            by_cases e : done.length = dk.length
            · rw [decide_eq_true (show ((done.length : Nat) : Int) = ((dk.length : Nat) : Int) by omega)]
              (refine sgoe_sound [777, 3] (nx := 1) ?_; conv => whnf)
              refine swe_op ⟨sB true, [], none⟩ rfl rfl (show 1 ≤ 1 by decide) (fun _ _ _ => rfl) ?_
              refine swe_nil (by kernel_rfl) ?_
              refine sw_keep [1, 3, 6, 9, 10, 11] ?_
              change SW E _ [(1, .ptr 0 0), (3, sB true), (6, .imm (dInts R)), (9, sI done.length), (10, .imm (dInts nx)), (11, sI dk.length)] [cdxO c]
              (refine sgo_sound [777] 1000 ?_; conv => whnf)
              rw [hwk]
              refine sw_keep [1, 3, 6, 9, 10, 11] ?_
              exact ihk () trivial
            · rw [decide_eq_false (show ¬ ((done.length : Nat) : Int) = ((dk.length : Nat) : Int) by omega)]
              (refine sgoe_sound [777] (nx := 1) ?_; conv => whnf)
              refine swe_index (i := done.length) (row := [dI x]) rfl rfl rfl rfl rfl rfl rfl (show 1 ≤ 1 by decide) rfl hrx ?_
              (refine sgoe_sound [777] (nx := 1) ?_; conv => whnf)
              refine swe_index (i := dk.length) (row := [dI y]) rfl rfl rfl rfl rfl rfl rfl (show 1 ≤ 1 by decide) rfl hry ?_
              (refine sgoe_sound [777, 113] (nx := 1) ?_; conv => whnf)
              refine swe_op ⟨sB (!decide (x = y)), [], none⟩ rfl rfl (show 1 ≤ 1 by decide) (fun _ _ _ => rfl) ?_
              rw [decide_eq_false (show ¬ x = y by rintro rfl; exact e (hsame hy)), Bool.not_false]
              (refine sgoe_sound [777, 3] (nx := 1) ?_; conv => whnf)
              refine swe_op ⟨sB true, [], none⟩ rfl rfl (show 1 ≤ 1 by decide) (fun _ _ _ => rfl) ?_
              refine swe_nil (by kernel_rfl) ?_
              refine sw_keep [1, 3, 6, 9, 10, 11] ?_
              change SW E _ [(1, .ptr 0 0), (3, sB true), (6, .imm (dInts R)), (9, sI done.length), (10, .imm (dInts nx)), (11, sI dk.length)] [cdxO c]
              (refine sgo_sound [777] 1000 ?_; conv => whnf)
              rw [hwk]
              refine sw_keep [1, 3, 6, 9, 10, 11] ?_
              exact ihk () trivial
  all_goals
    (refine sgo_sound [777] 1000 ?_; conv => whnf)
    refine swr_pure rfl rfl rfl rfl rfl rfl  head11 ?_
    (refine sgor_sound [777] 1000 ?_; conv => whnf)
    refine swr_pure rfl rfl rfl rfl rfl rfl  hfw ?_
    (refine sgor_sound [777] 1000 ?_; conv => whnf)
    refine swr_pure rfl rfl rfl rfl rfl rfl  hV ?_
    (refine sgor_sound [777] 1000 ?_; conv => whnf)
    exact hK _
end Go.Proofs.YtblpjknmhajcgaaGreatDoor
