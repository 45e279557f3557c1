/- Contracts of functions of the program, joined from TFa, TFb, TFc, TFd, TFe, TFf, TFg, TFh, TFi, TFj, TLc, TLb, TFk, TFl, TFm, TFn, TFo, TShelf, TFp, TFq, TFr, TFs, TFt, TFu, TFv, TFw, THa, TIa, TIb, TIc, TId, TKd, TSh32, TSh33, TSh45, TSh34, TSh35, TSh37, TSh38, TSh39, TSh40, TSh41, TSh42, TBa, TBb: no condition. -/
import Derived.Test.YtblpjknmhajcgaaGreatDoorCN2
import Derived.Test.YtblpjknmhajcgaaGreatDoorProg
import Derived.Test.YtblpjknmhajcgaaGreatDoorRows
import Derived.WalkKit
import Derived.ProofKit
import Derived.OpenShut
import Derived.Deep.DeepHandedRow
import Derived.Lib.LaidTab
import Derived.Shelf.Small.Bits
import Derived.Shelf.Small.Wraps
import Derived.Shelf.Strconv.Itoa0
import Derived.Shelf.Sort.Plain
import Derived.Shelf.Slices.Turned
import Derived.Ground.Names2Prog
import Derived.Shelf.Slices.Clone
import Derived.Shelf.Slices.CompactI
import Derived.Shelf.Slices.SearchI
import Derived.Shelf.Slices.Cells
import Derived.Shelf.Slices.In.SortNone
import Derived.Sort.OwnSortedInts
import Derived.Lib.SlicesCompact
import Derived.Maps.RangeRun
import Derived.Laws.BytesArg
set_option linter.unusedSimpArgs false
set_option linter.unusedVariables false
set_option maxRecDepth 100000
set_option maxHeartbeats 4000000
namespace Go.Proofs.YtblpjknmhajcgaaGreatDoor
open Go Go.Sh
theorem mixed : Tryz.prog.follows .mixedOrders = true := by kernel_rfl
variable (G : List (Nat × D))
def zqg (b : UInt8) : Bool := decide (65 <= b.toNat) && decide (b.toNat <= 90)
def zeh (s : ByteArray) : Bool := decide (s.size = 3) && s.data.toList.all zqg
def wq (s : ByteArray) : Bool := decide (s = ⟨#[116, 114, 117, 116, 104]⟩) || decide (s = ⟨#[110, 117, 109, 98, 101, 114]⟩) || decide (s = ⟨#[109, 105, 110, 117, 116, 101, 115]⟩) || zeh s
theorem zmm (s : ByteArray) : yb Tryz.prog G 123 [sS s] (sB (zeh s)) := by
 refine ze Tryz.func123 rfl (by rw [Tryz.ntmps123]; simp) rfl rfl ?_; intro E hH hK
 (refine zi ?_; conv => whnf)
 repeat' ((with_reducible refine way ?_ ?_) <;> (intro h; conv => whnf))
 ·exact kB hK (by simp [zeh]; omega)
 ·have hs : s.size = 3 := by omega
  have hl : s.data.toList.length = 3 := by simpa using hs
  refine zf [0, 8, 9] ?_
  refine xy (σ := List UInt8 × List UInt8) (fun x => [(0, sS s), (8, sI s.size), (9, sI x.1.length)]) (fun _ => [])
   (fun x => s.data.toList = x.1 ++ x.2 /\ x.1.all zqg = true) (fun x => x.2.length) ?_ ([], s.data.toList) ⟨rfl, rfl⟩
  rintro ⟨done, rest⟩ ⟨ha, hv⟩ ih
  dsimp only at ha hv ih ⊢
  have hlen : done.length + rest.length = 3 := by rw [ha] at hl; simpa using hl
  (refine zi ?_; conv => whnf)
  repeat' ((with_reducible refine way ?_ ?_) <;> (intro h; conv => whnf))
  ·cases rest with
   | nil => simp at hlen; omega
   | cons b rest =>
    have hget : s.data.toList[done.length]? = some b := by rw [ha]; simp
    have hw : IntKind.i64.wrap ((done.length : Int) + 1) = (((done ++ [b]).length : Nat) : Int) := by rw [zm (by omega)]; simp
    have bad : zqg b = false -> zeh s = false := fun h => by simp [zeh, ha, h]
    refine zam rfl rfl rfl rfl rfl rfl  hget ?_
    (refine zj ?_; conv => whnf)
    repeat' ((with_reducible refine way ?_ ?_) <;> (intro h; conv => whnf))
    ·refine zam rfl rfl rfl rfl rfl rfl  hget ?_
     (refine zj ?_; conv => whnf)
     repeat' ((with_reducible refine way ?_ ?_) <;> (intro h; conv => whnf))
     ·exact kB hK (bad (by simp [zqg]; omega))
     ·rw [hw]
      refine zf [0, 8, 9] (ih (done ++ [b], rest) ⟨by simp [ha], ?_⟩ (by simp))
      simp [hv, zqg]; omega
    ·exact kB hK (bad (by simp [zqg]; omega))
  ·cases rest with
   | nil => exact kB hK (by simp [zeh, hs, ha]; simpa using hv)
   | cons b rest => simp at hlen; omega
theorem zqh (s : ByteArray) : yb Tryz.prog G 89 [sS s] (sB (wq s)) := by
 refine ze Tryz.func89 rfl (by rw [Tryz.ntmps89]; simp) rfl rfl ?_; intro E hH hK
 (refine zi ?_; conv => whnf)
 repeat' ((with_reducible refine way ?_ ?_) <;> (intro h; conv => whnf))
 ·refine zd rfl  (zmm G s) ?_
  (refine zj ?_; conv => whnf)
  exact kB hK (by simp [wq, *])
 all_goals exact kB hK (by simp [wq, *])
def zhc (b : UInt8) : Bool := decide (97 <= b.toNat) && decide (b.toNat <= 122)
def zxl (b : UInt8) : Bool := decide (48 <= b.toNat) && decide (b.toNat <= 57)
def zoj (b : UInt8) : Bool := zhc b || zxl b || decide (b.toNat = 95)
def zcu : List UInt8 -> Bool
 | [] => false
 | b :: _ => zhc b
def zjl (s : ByteArray) : Bool := decide (s.size <= 16) && zcu s.data.toList && s.data.toList.all zoj
theorem zla (s : ByteArray) : s.data.toList.length = s.size := by simp
theorem yai {s : ByteArray} (h : s.data.toList = []) : s = ⟨#[]⟩ := ByteArray.ext (Array.ext' h)
def keys : List ByteArray := [⟨#[102, 97, 99, 116]⟩, ⟨#[108, 105, 110, 101]⟩, ⟨#[97, 114, 116, 105, 99, 108, 101]⟩, ⟨#[102, 111, 114]⟩, ⟨#[114, 97, 110, 107]⟩, ⟨#[102, 114, 111, 109]⟩, ⟨#[116, 111]⟩, ⟨#[107, 110, 111, 119, 110]⟩, ⟨#[119, 104, 101, 110]⟩, ⟨#[117, 110, 108, 101, 115, 115]⟩, ⟨#[97, 109, 111, 117, 110, 116]⟩, ⟨#[116, 114, 117, 116, 104]⟩, ⟨#[110, 117, 109, 98, 101, 114]⟩, ⟨#[109, 105, 110, 117, 116, 101, 115]⟩, ⟨#[109, 105, 110]⟩, ⟨#[101, 97, 114, 110]⟩, ⟨#[100, 101, 100, 117, 99, 116]⟩, ⟨#[102, 108, 111, 111, 114]⟩, ⟨#[105, 110, 102, 111]⟩, ⟨#[111, 114]⟩, ⟨#[97, 110, 100]⟩, ⟨#[110, 111, 116]⟩, ⟨#[97, 116]⟩, ⟨#[116, 114, 117, 101]⟩, ⟨#[102, 97, 108, 115, 101]⟩, ⟨#[97, 114, 116]⟩, ⟨#[119, 101, 101, 107, 100, 97, 121]⟩, ⟨#[100, 97, 121]⟩, ⟨#[109, 111, 110, 116, 104]⟩, ⟨#[121, 101, 97, 114]⟩, ⟨#[108, 101, 97, 115, 116]⟩, ⟨#[103, 114, 101, 97, 116, 101, 115, 116]⟩, ⟨#[116, 97, 98, 108, 101]⟩]
def yfw (s : ByteArray) : Bool := keys.any fun k => decide (s = k)
theorem yfx (s : ByteArray) : yb Tryz.prog G 179 [sS s] (sB (yfw s)) := by
 refine ze Tryz.func179 rfl (by rw [Tryz.ntmps179]; simp) rfl rfl ?_; intro E hH hK
 (refine zi ?_; conv => whnf)
 repeat' ((with_reducible refine way ?_ ?_) <;> (intro h; conv => whnf))
 all_goals exact kB hK (by simp [yfw, keys, *])
def yx (s : ByteArray) : Bool := zjl s && !yfw s
theorem zuw (s : ByteArray) : yb Tryz.prog G 168 [sS s] (sB (yx s)) := by
  refine ze Tryz.func168 rfl (by rw [Tryz.ntmps168]; simp) rfl rfl ?_; intro E hH hK
  have hl := zla s
  (refine zi ?_; conv => whnf)
  repeat' ((with_reducible refine way ?_ ?_) <;> (intro h; conv => whnf))
  · cases hs : s.data.toList with
    | nil => exact absurd (yai hs) ‹_›
    | cons b0 r0 =>
      have h0 : s.data.toList[0]? = some b0 := by rw [hs]; rfl
      have bad : zhc b0 = false -> yx s = false := fun h => by simp [yx, zjl, hs, zcu, h]
      refine zam rfl rfl rfl rfl rfl rfl  h0 ?_
      (refine zj ?_; conv => whnf)
      repeat' ((with_reducible refine way ?_ ?_) <;> (intro h; conv => whnf))
      · refine zam rfl rfl rfl rfl rfl rfl  h0 ?_
        (refine zj ?_; conv => whnf)
        repeat' ((with_reducible refine way ?_ ?_) <;> (intro h; conv => whnf))
        · refine zd rfl  (yfx G s) ?_
          (refine zj ?_; conv => whnf)
          repeat' ((with_reducible refine way ?_ ?_) <;> (intro h; conv => whnf))
          · exact kB hK (by simp [yx, *])
          · have hhead : zcu s.data.toList = true := by rw [hs]; simp [zcu, zhc]; omega
            have hsz : s.size <= 16 := by omega
            have hkey : yfw s = false := h
            clear hs
            refine zf [0, 27, 28] ?_
            refine xy (σ := List UInt8 × List UInt8) (fun x => [(0, sS s), (27, sI s.size), (28, sI x.1.length)]) (fun _ => [])
              (fun x => s.data.toList = x.1 ++ x.2 /\ x.1.all zoj = true) (fun x => x.2.length) ?_ ([], s.data.toList) ⟨rfl, rfl⟩
            rintro ⟨done, rest⟩ ⟨ha, hv⟩ ih
            dsimp only at ha hv ih ⊢
            have hlen : done.length + rest.length = s.size := by rw [<- hl, ha]; simp
            (refine zi ?_; conv => whnf)
            repeat' ((with_reducible refine way ?_ ?_) <;> (intro h; conv => whnf))
            · cases rest with
              | nil => simp at hlen; omega
              | cons b rest =>
                have hget : s.data.toList[done.length]? = some b := by rw [ha]; simp
                have hw : IntKind.i64.wrap ((done.length : Int) + 1) = (((done ++ [b]).length : Nat) : Int) := by rw [zm (by omega)]; simp
                have bad : zoj b = false -> yx s = false := fun h => by simp [yx, zjl, ha, h]
                refine zam rfl rfl rfl rfl rfl rfl  hget ?_
                (refine zj ?_; conv => whnf)
                repeat' ((with_reducible refine way ?_ ?_) <;> (intro h; conv => whnf))
                all_goals first
                  | exact kB hK (bad (by simp [zoj, zhc, zxl]; omega))
                  | (rw [hw]
                     refine zf [0, 27, 28] (ih (done ++ [b], rest) ⟨by simp [ha], ?_⟩ (by simp))
                     simp [hv, zoj, zhc, zxl]; omega)
            · cases rest with
              | nil => exact kB hK (by rw [List.append_nil] at ha; unfold yx zjl; rw [hhead, ha, hv, hkey]; simp [hsz])
              | cons b rest => simp at hlen; omega
        · exact kB hK (bad (by simp [zhc]; omega))
      · exact kB hK (bad (by simp [zhc]; omega))
  · exact kB hK (by simp [yx, zjl]; omega)
  · exact kB hK (by rw [h]; rfl)
abbrev sY (b : UInt8) : SV := .imm (.val (.int .u8 (b.toNat : Int)))
theorem zsw (b : UInt8) : yb Tryz.prog G 112 [sY b] (sB (zhc b)) := by
 refine ze Tryz.func112 rfl (by rw [Tryz.ntmps112]; simp) rfl rfl ?_; intro E hH hK
 (refine zi ?_; conv => whnf)
 repeat' ((with_reducible refine way ?_ ?_) <;> (intro h; conv => whnf))
 all_goals exact kB hK (by rw [Bool.eq_iff_iff]; simp [zhc]; omega)
theorem zmn (b : UInt8) : yb Tryz.prog G 148 [sY b] (sB (zqg b)) := by
 refine ze Tryz.func148 rfl (by rw [Tryz.ntmps148]; simp) rfl rfl ?_; intro E hH hK
 (refine zi ?_; conv => whnf)
 repeat' ((with_reducible refine way ?_ ?_) <;> (intro h; conv => whnf))
 all_goals exact kB hK (by rw [Bool.eq_iff_iff]; simp [zqg]; omega)
theorem yfy (b : UInt8) : yb Tryz.prog G 115 [sY b] (sB (zxl b)) := by
 refine ze Tryz.func115 rfl (by rw [Tryz.ntmps115]; simp) rfl rfl ?_; intro E hH hK
 (refine zi ?_; conv => whnf)
 repeat' ((with_reducible refine way ?_ ?_) <;> (intro h; conv => whnf))
 all_goals exact kB hK (by rw [Bool.eq_iff_iff]; simp [zxl]; omega)
theorem yaj {s : ByteArray} {a b c : UInt8} (h : s.data.toList = [a, b, c]) : zeh s = (zqg a && (zqg b && zqg c)) := by
 have hs : s.size = 3 := by rw [<- zla, h]; rfl
 unfold zeh
 rw [h, hs]
 simp
theorem zux (s : ByteArray) : yb Tryz.prog G 116 [sS s] (sB (zeh s)) := by
 refine ze Tryz.func116 rfl (by rw [Tryz.ntmps116]; simp) rfl rfl ?_; intro E hH hK
 have hl := zla s
 (refine zi ?_; conv => whnf)
 repeat' ((with_reducible refine way ?_ ?_) <;> (intro h; conv => whnf))
 ·have hs : s.data.toList.length = 3 := by omega
  match hm : s.data.toList, hs with
  | [a, b, c], _ =>
   have e := yaj hm
   refine zam rfl rfl rfl rfl rfl rfl  (b := a) (i := 0) (by rw [hm]; rfl) ?_
   (refine zj ?_; conv => whnf)
   refine zd rfl  (zmn G a) ?_
   (refine zj ?_; conv => whnf)
   repeat' ((with_reducible refine way ?_ ?_) <;> (intro h; conv => whnf))
   ·refine zam rfl rfl rfl rfl rfl rfl  (b := b) (i := 1) (by rw [hm]; rfl) ?_
    (refine zj ?_; conv => whnf)
    refine zd rfl  (zmn G b) ?_
    (refine zj ?_; conv => whnf)
    repeat' ((with_reducible refine way ?_ ?_) <;> (intro h; conv => whnf))
    ·refine zam rfl rfl rfl rfl rfl rfl  (b := c) (i := 2) (by rw [hm]; rfl) ?_
     (refine zj ?_; conv => whnf)
     refine zd rfl  (zmn G c) ?_
     (refine zj ?_; conv => whnf)
     exact kB hK (by rw [e]; simp only [*, Bool.true_and])
    ·exact kB hK (by rw [e]; simp only [*, Bool.false_and, Bool.and_false])
   ·exact kB hK (by rw [e]; simp only [*, Bool.false_and])
 ·exact kB hK (by simp [zeh]; omega)
theorem zxm (s : ByteArray) : yb Tryz.prog G 81 [sS s] (sB (wq s)) := by
 refine ze Tryz.func81 rfl (by rw [Tryz.ntmps81]; simp) rfl rfl ?_; intro E hH hK
 (refine zi ?_; conv => whnf)
 repeat' ((with_reducible refine way ?_ ?_) <;> (intro h; conv => whnf))
 ·refine zd rfl  (zux G s) ?_
  (refine zj ?_; conv => whnf)
  exact kB hK (by simp [wq, *])
 all_goals exact kB hK (by simp [wq, *])
theorem yjm : yb Tryz.prog G 114 [] (.imm (.isl 1 (keys.map fun k => [dS k]))) := by
 refine ze Tryz.func114 rfl (by rw [Tryz.ntmps114]; simp) rfl rfl ?_; intro E hH hK
 (refine zi ?_; conv => whnf)
 exact kR hK (by kernel_rfl)
theorem yqm (l : List ByteArray) (s : ByteArray) (hl : l.length <= 1073741824) : yb Tryz.prog G 113 [.imm (.isl 1 (l.map fun k => [dS k])), sS s] (sB (l.any fun k => decide (s = k))) := by
 refine ze Tryz.func113 rfl (by rw [Tryz.ntmps113]; simp) rfl rfl ?_; intro E hH hK
 (refine zi ?_; conv => whnf)
 refine zf [0, 1, 5] ?_
 refine xy (σ := List ByteArray × List ByteArray) (fun x => [(0, .imm (.isl 1 (l.map fun k => [dS k]))), (1, sS s), (5, sI x.1.length)]) (fun _ => [])
  (fun x => l = x.1 ++ x.2 /\ (x.1.any fun k => decide (s = k)) = false) (fun x => x.2.length) ?_ ([], l) ⟨rfl, rfl⟩
 rintro ⟨done, rest⟩ ⟨ha, hv⟩ ih
 dsimp only at ha hv ih ⊢
 (refine zi ?_; conv => whnf)
 repeat' ((with_reducible refine way ?_ ?_) <;> (intro h; conv => whnf))
 ·cases rest with
  | nil => simp [ha] at h
  | cons b rest =>
   have hw : IntKind.i64.wrap ((done.length : Int) + 1) = (((done ++ [b]).length : Nat) : Int) := by rw [zm (by simp [ha] at hl; omega)]; simp
   refine zg rfl rfl  (row := [dS b]) (by simp [ha]) ?_
   (refine zj ?_; conv => whnf)
   repeat' ((with_reducible refine way ?_ ?_) <;> (intro h; conv => whnf))
   ·exact kB hK (by rw [ha]; simp [h])
   ·rw [hw]
    refine zf [0, 1, 5] (ih (done ++ [b], rest) ⟨by simp [ha], ?_⟩ (by simp))
    simp [hv]; exact fun e => by simp_all
 ·cases rest with
  | nil => exact kB hK (by rw [ha, List.append_nil]; exact hv)
  | cons b rest => exfalso; simp [ha] at h; omega
def zbf (prev : Option Int) (p : Piece) : Bool :=
  (match prev with
   | none => decide (p.lo = 0)
   | some q => decide (q < p.lo) && decide (p.lo <= 1000000000000)) &&
  decide (-1000000 <= p.slope) && decide (p.slope <= 1000000) && decide (-1000000000000000000 <= p.at_) && decide (p.at_ <= 1000000000000000000)
def qs : Option Int -> List Piece -> Bool
 | _, [] => true
 | prev, p :: r => zbf prev p && qs (some p.lo) r
def jp (den : Int) (ps : List Piece) : Bool := decide (1 <= den) && decide (den <= 1000000) && decide (1 <= ps.length) && decide (ps.length <= 64) && qs none ps
def zbg (l : List Piece) : Option Int := l.getLast?.map (·.lo)
theorem zsx {α : Type} (l : List α) : l = [] \/ ∃ i x, l = i ++ [x] := by
 rcases List.eq_nil_or_concat l with h | ⟨i, x, h⟩
 ·exact .inl h
 ·exact .inr ⟨i, x, by simpa using h⟩
theorem zqi (l : List Piece) (p : Piece) : zbg (l ++ [p]) = some p.lo := by simp [zbg]
theorem zqj (den : Int) (ps : List Piece) : yb Tryz.prog G 156 [.agg [sI den, .imm (.isl 3 (ps.map Piece.cells))]] (sB (jp den ps)) := by
 refine ze Tryz.func156 rfl (by rw [Tryz.ntmps156]; simp) rfl rfl ?_; intro E hH hK
 have hlen : (ps.map Piece.cells).length = ps.length := by simp
 (refine zi ?_; conv => whnf)
 repeat' ((with_reducible refine way ?_ ?_) <;> (intro h; conv => whnf))
 any_goals exact kB hK (by simp [jp]; intros; omega)
 ·have hok : jp den ps = qs none ps := by
   unfold jp
   rw [show decide (1 <= den) = true by simp; omega, show decide (den <= 1000000) = true by simp; omega, show decide (1 <= ps.length) = true by simp; omega, show decide (ps.length <= 64) = true by simp; omega]
   simp
  refine zf [1, 26, 27, 28] ?_
  refine xy (σ := List Piece × List Piece) (fun x => [(1, .ptr 0 0), (26, .imm (.isl 3 (ps.map Piece.cells))), (27, sI (ps.map Piece.cells).length), (28, sI x.1.length)])
   (fun _ => [.cells [sI den, .imm (.isl 3 (ps.map Piece.cells))]])
   (fun x => ps = x.1 ++ x.2 /\ qs none ps = qs (zbg x.1) x.2) (fun x => x.2.length) ?_ ([], ps) ⟨rfl, rfl⟩
  rintro ⟨done, rest⟩ ⟨ha, hv⟩ ih
  dsimp only at ha hv ih ⊢
  have hl2 : done.length + rest.length = ps.length := by rw [ha]; simp
  (refine zi ?_; conv => whnf)
  repeat' ((with_reducible refine way ?_ ?_) <;> (intro h; conv => whnf))
  ·cases rest with
   | nil => simp at hl2; omega
   | cons p rest =>
    have hw : IntKind.i64.wrap ((done.length : Int) + 1) = (((done ++ [p]).length : Nat) : Int) := by rw [zm (by omega)]; simp
    have bad : zbf (zbg done) p = false -> jp den ps = false := fun h => by rw [hok, hv, qs, h]; rfl
    have good : zbf (zbg done) p = true -> qs none ps = qs (zbg (done ++ [p])) rest := fun h => by rw [hv, qs, h, zqi]; rfl
    rcases zsx done with rfl | ⟨init, q, rfl⟩
    ·refine zg rfl rfl  (row := p.cells) (by simp [ha]) ?_
     (refine zj ?_; conv => whnf)
     repeat' ((with_reducible refine way ?_ ?_) <;> (intro h; conv => whnf))
     any_goals exact kB hK (bad (by simp [zbg, zbf]; intros; omega))
     (refine yw mixed rfl ?_; refine zl [] ?_; conv => whnf)
     (refine zi ?_; conv => whnf)
     repeat' ((with_reducible refine way ?_ ?_) <;> (intro h; conv => whnf))
     any_goals exact kB hK (bad (by simp [zbg, zbf]; intros; omega))
     rw [hw]
     exact yr [1, 26, 27, 28] 1 (by simp [hH]) (by simp) rfl rfl (ih ([] ++ [p], rest) ⟨by simp [ha], good (by simp [zbg, zbf]; omega)⟩ (by simp))
    ·have hil : (init ++ [q]).length = init.length + 1 := by simp
     have hm : IntKind.i64.wrap (((init ++ [q]).length : Int) - 1) = ((init.length : Nat) : Int) := by rw [wo (by omega) (by omega)]; omega
     refine zg rfl rfl  (row := p.cells) (by simp [ha]) ?_
     (refine zj ?_; conv => whnf)
     repeat' ((with_reducible refine way ?_ ?_) <;> (intro h; conv => whnf))
     any_goals (exfalso; omega)
     (refine yw mixed rfl ?_; refine zl [] ?_; conv => whnf)
     repeat' ((with_reducible refine way ?_ ?_) <;> (intro h; conv => whnf))
     any_goals (exfalso; omega)
     refine xh rfl  hm (row := q.cells) (by simp [ha]) ?_
     (refine zl [] ?_; conv => whnf)
     repeat' ((with_reducible refine way ?_ ?_) <;> (intro h; conv => whnf))
     all_goals (refine zi ?_; conv => whnf)
     all_goals repeat' ((with_reducible refine way ?_ ?_) <;> (intro h; conv => whnf))
     any_goals exact kB hK (bad (by simp [zbg, zbf]; intros; omega))
     rw [hw]
     exact yr [1, 26, 27, 28] 1 (by simp [hH]) (by simp) rfl rfl (ih (init ++ [q] ++ [p], rest) ⟨by simp [ha], good (by simp [zbg, zbf]; omega)⟩ (by simp))
  ·cases rest with
   | nil => exact kB hK (by rw [hok, hv]; rfl)
   | cons p rest => simp at hl2; omega
theorem zfz (n limit : Int) (h0 : 0 <= limit) (h1 : limit <= 1000000000000000000) : yb Tryz.prog G 149 [sI n, sI limit] (sB (decide (-limit <= n /\ n <= limit))) := by
 have hneg : IntKind.i64.wrap (0 - limit) = -limit := by rw [wo (by omega) (by omega)]; omega
 refine ze Tryz.func149 rfl (by rw [Tryz.ntmps149]; simp) rfl rfl ?_; intro E hH hK
 (refine zi ?_; conv => whnf)
 rw [hneg]
 repeat' ((with_reducible refine way ?_ ?_) <;> (intro h; conv => whnf))
 all_goals exact kB hK (by rw [Bool.eq_iff_iff]; simp; try omega)
theorem zuy (den : Int) (ps : List Piece) : yb Tryz.prog G 119 [.agg [sI den, .imm (.isl 3 (ps.map Piece.cells))]] (sB (jp den ps)) := by
 refine ze Tryz.func119 rfl (by rw [Tryz.ntmps119]; simp) rfl rfl ?_; intro E hH hK
 have hlen : (ps.map Piece.cells).length = ps.length := by simp
 (refine zi ?_; conv => whnf)
 repeat' ((with_reducible refine way ?_ ?_) <;> (intro h; conv => whnf))
 any_goals exact kB hK (by simp [jp]; intros; omega)
 ·have hok : jp den ps = qs none ps := by
   unfold jp
   rw [show decide (1 <= den) = true by simp; omega, show decide (den <= 1000000) = true by simp; omega, show decide (1 <= ps.length) = true by simp; omega, show decide (ps.length <= 64) = true by simp; omega]
   simp
  refine zf [1, 3] ?_
  refine xy (σ := List Piece × List Piece) (fun x => [(1, .ptr 0 0), (3, sI x.1.length)])
   (fun _ => [.cells [sI den, .imm (.isl 3 (ps.map Piece.cells))]])
   (fun x => ps = x.1 ++ x.2 /\ qs none ps = qs (zbg x.1) x.2) (fun x => x.2.length) ?_ ([], ps) ⟨rfl, rfl⟩
  rintro ⟨done, rest⟩ ⟨ha, hv⟩ ih
  dsimp only at ha hv ih ⊢
  have hl2 : done.length + rest.length = ps.length := by rw [ha]; simp
  (refine zi ?_; conv => whnf)
  repeat' ((with_reducible refine way ?_ ?_) <;> (intro h; conv => whnf))
  ·cases rest with
   | nil => simp at hl2; omega
   | cons p rest =>
    have hw : IntKind.i64.wrap ((done.length : Int) + 1) = (((done ++ [p]).length : Nat) : Int) := by rw [zm (by omega)]; simp
    have bad : zbf (zbg done) p = false -> jp den ps = false := fun h => by rw [hok, hv, qs, h]; rfl
    have good : zbf (zbg done) p = true -> qs none ps = qs (zbg (done ++ [p])) rest := fun h => by rw [hv, qs, h, zqi]; rfl
    rcases zsx done with rfl | ⟨init, q, rfl⟩
    ·refine zg rfl rfl  (row := p.cells) (by simp [ha]) ?_
     (refine zj ?_; conv => whnf)
     refine zd rfl  (zfz G p.slope 1000000 (by omega) (by omega)) ?_
     (refine zj ?_; conv => whnf)
     refine zd rfl  (zfz G p.at_ 1000000000000000000 (by omega) (by omega)) ?_
     (refine zj ?_; conv => whnf)
     (refine yw mixed rfl ?_; refine zl [] ?_; conv => whnf)
     repeat' ((with_reducible refine way ?_ ?_) <;> (intro h; conv => whnf))
     all_goals (refine zi ?_; conv => whnf)
     any_goals exact kB hK (bad (by simp [zbg, zbf]; intros; omega))
     rw [hw]
     exact yr [1, 3] 1 (by simp [hH]) (by simp) rfl rfl (ih ([] ++ [p], rest) ⟨by simp [ha], good (by simp [zbg, zbf]; omega)⟩ (by simp))
    ·have hil : (init ++ [q]).length = init.length + 1 := by simp
     have hm : IntKind.i64.wrap (((init ++ [q]).length : Int) - 1) = ((init.length : Nat) : Int) := by rw [wo (by omega) (by omega)]; omega
     refine zg rfl rfl  (row := p.cells) (by simp [ha]) ?_
     (refine zj ?_; conv => whnf)
     refine zd rfl  (zfz G p.slope 1000000 (by omega) (by omega)) ?_
     (refine zj ?_; conv => whnf)
     refine zd rfl  (zfz G p.at_ 1000000000000000000 (by omega) (by omega)) ?_
     (refine zj ?_; conv => whnf)
     (refine yw mixed rfl ?_; refine zl [] ?_; conv => whnf)
     repeat' ((with_reducible refine way ?_ ?_) <;> (intro h; conv => whnf))
     any_goals (exfalso; omega)
     any_goals (refine xh rfl  hm (row := q.cells) (by simp [ha]) ?_; (refine zl [] ?_; conv => whnf))
     all_goals (refine zi ?_; conv => whnf)
     all_goals repeat' ((with_reducible refine way ?_ ?_) <;> (intro h; conv => whnf))
     any_goals exact kB hK (bad (by simp [zbg, zbf]; intros; omega))
     rw [hw]
     exact yr [1, 3] 1 (by simp [hH]) (by simp) rfl rfl (ih (init ++ [q] ++ [p], rest) ⟨by simp [ha], good (by simp [zbg, zbf]; omega)⟩ (by simp))
  ·cases rest with
   | nil => exact kB hK (by rw [hok, hv]; rfl)
   | cons p rest => simp at hl2; omega
def Fact.sv (f : Fact) : SV := .agg [sS f.person, sS f.name, sI f.lo, sI f.hi, sI f.known, sI f.value, sB f.gone]
def hit (person name : ByteArray) (day known : Int) (f : Fact) : Bool :=
 decide (f.known <= known /\ f.lo <= day /\ day < f.hi /\ f.name = name /\ f.person = person)
def yjn (q : Fact -> Bool) : Nat -> List Fact -> Option (Nat × Fact)
 | _, [] => none
 | i, f :: r => match yjn q (i + 1) r with
  | some x => some x
  | none => if q f then some (i, f) else none
def look (person name : ByteArray) (day known : Int) (l : List Fact) : Int × Int × Bool :=
 match yjn (hit person name day known) 0 l with
 | none => (0, -1, false)
 | some (i, f) => if f.gone then (0, -1, false) else (f.value, i, true)
def yvj (number day known : Int) (a : Article) : Bool := decide (a.number = number /\ a.lo <= day /\ day < a.hi /\ a.known <= known)
def yqn (number day known : Int) (i : Nat) (a : Article) : Option (Nat × Int) -> Option (Nat × Int)
 | none => if yvj number day known a then some (i, a.known) else none
 | some (j, k) => if yvj number day known a && decide (k <= a.known) then some (i, a.known) else some (j, k)
def yjo (number day known : Int) : List Article -> Nat -> Option (Nat × Int) -> Option (Nat × Int)
 | [], _, found => found
 | a :: r, i, found => yjo number day known r (i + 1) (yqn number day known i a found)
def yak (arts : List Article) (number day known : Int) : Option Nat := (yjo number day known arts 0 none).map (·.1)
def yuq (y : Int) : Bool := decide (y.tmod 4 = 0 /\ (y.tmod 100 ≠ 0 \/ y.tmod 400 = 0))
theorem zuz {y : Int} (hy : 2000 <= y /\ y <= 2099) : yuq y = decide (y.tmod 4 = 0) := by
 have e1 := Int.tmod_eq_emod_of_nonneg (a := y) (b := 4) (by omega)
 have e2 := Int.tmod_eq_emod_of_nonneg (a := y) (b := 100) (by omega)
 have e3 := Int.tmod_eq_emod_of_nonneg (a := y) (b := 400) (by omega)
 unfold yuq
 rw [decide_eq_decide, e1, e2, e3]
 omega
def znp (y m : Int) : Int := if m = 4 \/ m = 6 \/ m = 9 \/ m = 11 then 30 else if m = 2 then (if yuq y then 29 else 28) else 31
def yqo : D := .row ([0, 31, 59, 90, 120, 151, 181, 212, 243, 273, 304, 334, 365].map dI) 0
def G0 : List (Nat × D) := [(0, yqo)]
theorem zva (y m : Int) (hm : 0 <= m /\ m < 12) (hy : 2000 <= y /\ y <= 2099) : yb Tryz.prog G0 137 [sI y, sI m] (sI (znp y (m + 1))) := by
 refine ze Tryz.func137 rfl (by rw [Tryz.ntmps137]; simp) rfl rfl ?_; intro E hH hK
 have hc : m = 0 \/ m = 1 \/ m = 2 \/ m = 3 \/ m = 4 \/ m = 5 \/ m = 6 \/ m = 7 \/ m = 8 \/ m = 9 \/ m = 10 \/ m = 11 := by omega
 rcases hc with rfl | rfl | rfl | rfl | rfl | rfl | rfl | rfl | rfl | rfl | rfl | rfl
 all_goals (refine zi ?_; conv => whnf)
 all_goals (refine yw mixed rfl ?_; refine zl [] ?_; conv => whnf)
 all_goals (refine zi ?_; conv => whnf)
 all_goals repeat' ((with_reducible refine way ?_ ?_) <;> (intro h; conv => whnf))
 any_goals exact kI hK rfl
 ·exact kI hK (by rw [znp, zuz hy, h]; rfl)
 ·exact kI hK (by rw [znp, zuz hy, decide_eq_false h]; rfl)
def lenOf (m : Nat) : Int := znp (2000 + (m / 12 : Nat)) ((m % 12 : Nat) + 1)
def zw : Nat -> Int
 | 0 => 0
 | m + 1 => zw m + lenOf m
def zqk (k : Nat) : Int := ([0, 31, 59, 90, 120, 151, 181, 212, 243, 273, 304, 334, 365] : List Int).getD k 0
def zvb (m : Nat) : Int := (m / 12 : Nat) * 365 + (((m / 12 : Nat) : Int) + 3) / 4 + zqk (m % 12) + (if 1 < m % 12 /\ (m / 12) % 4 = 0 then 1 else 0)
theorem ynw (m : Nat) (hm : m < 1200) : lenOf m = zqk (m % 12 + 1) - zqk (m % 12) + (if m % 12 = 1 /\ (m / 12) % 4 = 0 then 1 else 0) := by
 have hy : 2000 <= 2000 + ((m / 12 : Nat) : Int) /\ 2000 + ((m / 12 : Nat) : Int) <= 2099 := by omega
 have hl := zuz hy
 have e : (2000 + ((m / 12 : Nat) : Int)).tmod 4 = 0 ↔ (m / 12) % 4 = 0 := by
  rw [Int.tmod_eq_emod_of_nonneg (by omega)]; omega
 have hc : m % 12 = 0 \/ m % 12 = 1 \/ m % 12 = 2 \/ m % 12 = 3 \/ m % 12 = 4 \/ m % 12 = 5 \/ m % 12 = 6 \/ m % 12 = 7 \/ m % 12 = 8 \/ m % 12 = 9 \/ m % 12 = 10 \/ m % 12 = 11 := by omega
 unfold lenOf znp
 rw [hl]
 rw [show decide ((2000 + ((m / 12 : Nat) : Int)).tmod 4 = 0) = decide ((m / 12) % 4 = 0) from decide_eq_decide.2 e]
 rcases hc with h | h | h | h | h | h | h | h | h | h | h | h <;> rw [h] <;> simp [zqk]
 split <;> rfl
theorem zlb (m : Nat) (hm : m <= 1200) : zvb m = zw m := by
 induction m with
 | zero => rfl
 | succ m ih =>
  rw [zw, <- ih (by omega), ynw m (by omega)]
  unfold zvb
  have hc : m % 12 = 0 \/ m % 12 = 1 \/ m % 12 = 2 \/ m % 12 = 3 \/ m % 12 = 4 \/ m % 12 = 5 \/ m % 12 = 6 \/ m % 12 = 7 \/ m % 12 = 8 \/ m % 12 = 9 \/ m % 12 = 10 \/ m % 12 = 11 := by omega
  rcases hc with h | h | h | h | h | h | h | h | h | h | h | h
  case inr.inr.inr.inr.inr.inr.inr.inr.inr.inr.inr =>
   have h1 : (m + 1) % 12 = 0 := by omega
   have h2 : (m + 1) / 12 = m / 12 + 1 := by omega
   rw [h, h1, h2]
   simp [zqk]
   split <;> omega
  all_goals
   have h1 : (m + 1) % 12 = m % 12 + 1 := by omega
   have h2 : (m + 1) / 12 = m / 12 := by omega
   rw [h1, h2, h]
   simp [zqk]
   try omega
theorem zlc : ∀ m : Nat, 28 * (m : Int) <= zw m /\ zw m <= 31 * (m : Int)
 | 0 => by simp [zw]
 | m + 1 => by
  have := zlc m
  have h : 28 <= lenOf m /\ lenOf m <= 31 := by
   unfold lenOf znp
   split
   ·omega
   ·split
    ·split <;> omega
    ·omega
  simp only [zw]
  omega
open Go Go.Sh Go.ChangeShapes Go.WideShapes Go.ChangeAt Go.RowKit
theorem own : ownKnob Tryz.prog.godebug = none := by kernel_rfl
theorem yvk : Tryz.prog.globalNamed "wageoffice/calendar.before" = some 0 := by kernel_rfl
theorem ynx : (Tryz.prog.globals[0]?).map (·.type) = some 203 := by kernel_rfl
theorem yur : Tryz.prog.cellsOf 203 = 13 := by kernel_rfl
theorem kids : Kids Tryz.prog (· < Tryz.prog.types.size) := kids_rows (by kernel_rfl) (by kernel_rfl)
theorem full : ∀ t e, t < Tryz.prog.types.size -> Tryz.prog.underlying t = some (.slice e) -> 0 < Tryz.prog.cellsOf e := slices_full_of Tryz.prog (by kernel_rfl)
def tabNums : List Int := [0, 31, 59, 90, 120, 151, 181, 212, 243, 273, 304, 334, 365]
theorem yjp {W : World} (h : laidMetH Tryz.prog [("wageoffice/calendar.before", Rows.laid_wageoffice_calendar_before)] W) : Lib.TabIs Tryz.prog W "wageoffice/calendar.before" .i64 tabNums :=
 Lib.tabIs_of_head (rest := []) yvk ynx Tryz.underlying203 Tryz.underlying3 zka yur h
theorem globals_ok {W : World} (h : laidMetH Tryz.prog [("wageoffice/calendar.before", Rows.laid_wageoffice_calendar_before)] W) : ∀ g d, (g, d) ∈ G0 -> DRep W (allI W) (.pointer (some ⟨g, 0, none⟩)) d := by
 intro g d hg
 simp only [G0, List.mem_singleton] at hg
 cases hg
 have hc := fun i hi => (yjp h).cell yvk i hi
 have hb : 0 < W.heap.size := (zxk (hc 0 (by decide))).2
 refine .row 0 0 _ 0 (fun j => .int .i64 (tabNums.getD j 0)) (fun j hj => ?_) (fun j hj => ?_)
 ·have hj' : j < tabNums.length := by simpa [tabNums] using hj
  rw [Nat.zero_add]
  exact ⟨hb, hc j hj', rfl⟩
 ·have hj' : j < tabNums.length := by simpa [tabNums] using hj
  have e : ([0, 31, 59, 90, 120, 151, 181, 212, 243, 273, 304, 334, 365].map dI)[j]'hj = dI (tabNums.getD j 0) := by
   simp only [List.getElem_map]
   rw [List.getD_eq_getElem?_getD, List.getElem?_eq_getElem hj']
   rfl
  rw [e]
  exact .val _
noncomputable def laidWorld (os : Os) : World :=
  { World.holding Tryz.prog os ⟨#[], #[], []⟩ with heap := (World.holding Tryz.prog os ⟨#[], #[], []⟩).heap.modify 0 fun
      | .cells _ t frozen => .cells #[.int .i64 0, .int .i64 31, .int .i64 59, .int .i64 90, .int .i64 120, .int .i64 151, .int .i64 181, .int .i64 212, .int .i64 243, .int .i64 273, .int .i64 304, .int .i64 334, .int .i64 365] t frozen
      | o => o }
theorem laid_met (os : Os) (args : Array Value) : laidMet Tryz.prog [("wageoffice/calendar.before", Rows.laid_wageoffice_calendar_before)] ((laidWorld os).forCall (fun _ _ => 0) ⟨#[], args, []⟩).memory :=
 laidMet_of_run' 8 (by kernel_rfl) (by kernel_rfl)
theorem resBool : Tryz.prog.underlying 4 = some .bool := Tryz.underlying4
section
variable {H : Type} {enc : TypeId × Value -> H} {w : World}
variable {v : Value} {d : DataW H} {ps : List MemPlace} {b0 : Nat} {r : Reach}
theorem openInts (hval : Value.okWide Tryz.prog w r b0 26 v) (h : DataW.Trod enc Tryz.prog w 0 (fun _ => true) true 26 v d ps) : ∃ l : List Int, (l.length <= 9223372036854775807 /\ ∀ n ∈ l, i64 n) /\ Rep w (allI w) [] v (.imm (dInts l)) := by
 obtain ⟨p, a, b, rfl⟩ : ∃ p a b, v = .slice p a b := by
  unfold Value.okWide at hval
  rw [Tryz.underlying26] at hval
  unfold Cell.okWide at hval
  rw [Tryz.underlying26] at hval
  cases v <;> simp [Cell.ok, Tryz.underlying26] at hval
  exact ⟨_, _, _, rfl⟩
 obtain ⟨fuel, h⟩ := h
 obtain ⟨l, h1, h2, h3⟩ := ypj h
 exact ⟨l, ⟨h2, h3⟩, ydg rfl h1⟩
end
def zhp (s : ByteArray) : List SV := [sI 12, sS s, sS ⟨#[]⟩, sI 0, sI 0, sI 0, sI 0, sI 0, .imm (.val (.slice none 0 0)), .imm (.val (.slice none 0 0)), sI 0]
def yny (s : ByteArray) : List SV := [sI 0, sS s, sS ⟨#[]⟩, sI 0, sI 0, sI 0, sI 0, sI 0, .imm (.val (.slice none 0 0)), .imm (.val (.slice none 0 0)), sI 0]
theorem zql : yb Tryz.prog G 146 [.imm (.val (.slice none 0 0)), .imm (.val (.slice none 0 0))] (sB true) := by
 refine ze Tryz.func146 rfl (by rw [Tryz.ntmps146]; simp) rfl rfl ?_; intro E hH hK
 (refine zi ?_; conv => whnf)
 refine yaa ?_
 (refine zi ?_; conv => whnf)
 exact hK _
theorem yjq (s : ByteArray) : yb Tryz.prog G 153 [.agg (zhp s), .agg (yny s)] (sB true) := by
 refine ze Tryz.func153 rfl (by rw [Tryz.ntmps153]; simp) rfl rfl ?_; intro E hH hK
 (refine zi ?_; conv => whnf)
 repeat' ((with_reducible refine way ?_ ?_) <;> (intro h; conv => whnf))
 all_goals try (exact absurd rfl ‹¬ _›)
 all_goals try (exfalso; omega)
 refine zd rfl  (zql G) ?_
 (refine zj ?_; conv => whnf)
 exact hK _
theorem yjr (s : ByteArray) : SPre Tryz.prog G 152 [.ptr 1 0, .agg (zhp s), sI 1] [.cells (zhp s), .cells [sI 0]] (fun r H1 => r = sB true /\ H1 = [.cells (zhp s), .cells [sI 1]]) := by
 refine wk Tryz.func152 rfl (by rw [Tryz.ntmps152]; simp) rfl rfl ?_
 intro E hH hK
 (refine zi ?_; conv => whnf)
 exact hK _ _ (by simp) rfl rfl ⟨rfl, rfl⟩
theorem zxn (s : ByteArray) : SPre Tryz.prog G 151 [.ptr 1 0, .agg (zhp s), sI 1] [.cells (zhp s), .cells [sI 0]] (fun r H1 => r = sB (yx s) /\ H1 = [.cells (zhp s), .cells [sI 1]]) := by
 refine wk Tryz.func151 rfl (by rw [Tryz.ntmps151]; simp) rfl rfl ?_
 intro E hH hK
 (refine zi ?_; conv => whnf)
 refine ys 2 rfl rfl rfl rfl rfl rfl (yjr G s) ?_
 rintro r H1 ⟨rfl, rfl⟩ _
 (refine zj ?_; conv => whnf)
 refine zd rfl  (zuw G s) ?_
 (refine zj ?_; conv => whnf)
 repeat' ((with_reducible refine way ?_ ?_) <;> (intro h; conv => whnf))
 ·refine zd rfl  (yjq G s) ?_
  (refine zj ?_; conv => whnf)
  rw [h] at hK
  exact hK _ _ (by simp) rfl rfl ⟨rfl, rfl⟩
 ·rw [h] at hK
  exact hK _ _ (by simp) rfl rfl ⟨rfl, rfl⟩
theorem zok (s : ByteArray) : yb Tryz.prog G 122 [.agg (zhp s)] (sB (yx s)) := by
 refine ze Tryz.func122 rfl (by rw [Tryz.ntmps122]; simp) rfl rfl ?_; intro E hH hK
 (refine zi ?_; conv => whnf)
 refine ys 2 rfl rfl rfl rfl rfl rfl (zxn G s) ?_
 rintro r H1 ⟨rfl, rfl⟩ _
 (refine zj ?_; conv => whnf)
 exact hK _
theorem zse (s : ByteArray) : yb Tryz.prog G 88 [sS s] (sB (yx s)) := by
 refine ze Tryz.func88 rfl (by rw [Tryz.ntmps88]; simp) rfl rfl ?_; intro E hH hK
 (refine zi ?_; conv => whnf)
 refine zd rfl  (zok G s) ?_
 (refine zj ?_; conv => whnf)
 exact hK _
theorem zxo (s : ByteArray) : yb Tryz.prog G 80 [sS s] (sB (yx s)) := by
 refine ze Tryz.func80 rfl (by rw [Tryz.ntmps80]; simp) rfl rfl ?_; intro E hH hK
 have hl := zla s
 (refine zi ?_; conv => whnf)
 repeat' ((with_reducible refine way ?_ ?_) <;> (intro h; conv => whnf))
 ·cases hs : s.data.toList with
  | nil => rw [hs] at hl; simp at hl; omega
  | cons b0 r0 =>
   have h0 : s.data.toList[0]? = some b0 := by rw [hs]; rfl
   have bad : zhc b0 = false -> yx s = false := fun h => by simp [yx, zjl, hs, zcu, h]
   refine zam rfl rfl rfl rfl rfl rfl  h0 ?_
   (refine zj ?_; conv => whnf)
   refine zd rfl  (zsw G b0) ?_
   (refine zj ?_; conv => whnf)
   repeat' ((with_reducible refine way ?_ ?_) <;> (intro h; conv => whnf))
   ·have hlow : zhc b0 = true := h
    refine zd rfl  (yjm G) ?_
    (refine zj ?_; conv => whnf)
    refine zd rfl  (yqm G keys s (by decide)) ?_
    (refine zj ?_; conv => whnf)
    repeat' ((with_reducible refine way ?_ ?_) <;> (intro h; conv => whnf))
    ·exact kB hK (by simp only [yx, yfw, h]; simp)
    ·have hkey : yfw s = false := h
     have hhead : zcu s.data.toList = true := by rw [hs]; simp [zcu, hlow]
     have hsz : s.size <= 16 := by omega
     clear hs
     refine zf [0, 3] ?_
     refine zt s.data.toList (fun i _ => [(0, sS s), (3, sI i)]) (fun _ _ => []) (fun d _ (_ : Unit) => d.all zoj = true) () rfl ?_ ?_
     ·intro _ hv
      rw [hl]
      (refine zi ?_; conv => whnf)
      repeat' ((with_reducible refine way ?_ ?_) <;> (intro h; conv => whnf))
      all_goals try (exfalso; omega)
      exact kB hK (by unfold yx zjl; rw [hhead, hv, hkey]; simp [hsz])
     ·intro done b rest _ ha hlen hv ih
      have hget : s.data.toList[done.length]? = some b := by rw [ha]; simp
      have hw := zm (n := done.length) (by omega)
      have bad : zoj b = false -> yx s = false := fun h => by simp [yx, zjl, ha, h]
      have next : zoj b = true -> _ := fun h => ih () (by simp [hv, h])
      (refine zi ?_; conv => whnf)
      repeat' ((with_reducible refine way ?_ ?_) <;> (intro h; conv => whnf))
      all_goals try (exfalso; omega)
      refine zam rfl rfl rfl rfl rfl rfl  hget ?_
      (refine zj ?_; conv => whnf)
      refine zd rfl  (zsw G b) ?_
      (refine zj ?_; conv => whnf)
      repeat' ((with_reducible refine way ?_ ?_) <;> (intro h; conv => whnf))
      ·refine zam rfl rfl rfl rfl rfl rfl  hget ?_
       (refine zj ?_; conv => whnf)
       refine zd rfl  (yfy G b) ?_
       (refine zj ?_; conv => whnf)
       repeat' ((with_reducible refine way ?_ ?_) <;> (intro h; conv => whnf))
       ·refine zam rfl rfl rfl rfl rfl rfl  hget ?_
        (refine zj ?_; conv => whnf)
        repeat' ((with_reducible refine way ?_ ?_) <;> (intro h; conv => whnf))
        ·exact kB hK (bad (by simp [zoj, *]; omega))
        ·rw [hw]; exact zf [0, 3] (next (by simp [zoj]; omega))
       ·rw [hw]; exact zf [0, 3] (next (by simp [zoj, *]))
      ·rw [hw]; exact zf [0, 3] (next (by simp [zoj, *]))
   ·exact kB hK (bad h)
 ·exact kB hK (by simp [yx, zjl]; intros; omega)
 ·exact kB hK (by have : s.data.toList = [] := List.length_eq_zero_iff.1 (by omega); simp [yx, zjl, this, zcu])
theorem zxp {κ α : Type} (n : Nat) (f : α -> SV) (hf : ∀ a, (f a).under n = true) (l : List (κ × α)) : (zby f l).all (fun e => e.2.under n) = true := by
 simp only [zby, List.all_map]
 exact List.all_eq_true.2 fun p _ => hf p.2
theorem yqp (n : Nat) (l : List (ByteArray × Bool)) : SObj.under n (.mapS (zby sB l)) = true := zxp n sB (fun _ => rfl) l
theorem zmo (n : Nat) (l : List (Int × Int)) : SObj.under n (.mapI .i64 (zby sI l)) = true := zxp n sI (fun _ => rfl) l
def jq (lo hi : Int) (d : Decl) : Bool := yx d.name && wq d.unit && decide (lo <= d.role /\ d.role <= hi)
def qv (lo hi : Int) (l : List Decl) : Bool := l.all (jq lo hi) && decide ((l.map (·.name)).Nodup)
theorem zqm {lo hi : Int} {done rest : List Decl} {d : Decl} (h : jq lo hi d = false \/ d.name ∈ done.map (·.name)) : qv lo hi (done ++ d :: rest) = false := by
 rcases h with h | h
 ·simp [qv, h]
 ·simp only [qv, Bool.and_eq_false_iff, decide_eq_false_iff_not]
  right
  rw [List.map_append, List.map_cons, List.nodup_append]
  exact fun ⟨_, _, h3⟩ => h3 _ h _ (by simp) rfl
theorem zjm (l : List Decl) (lo hi : Int) (hsz : l.length <= 1073741824) : yb Tryz.prog G 58 [.imm (zk l), sI lo, sI hi] (sB (qv lo hi l)) := by
 refine ze Tryz.func58 rfl (by rw [Tryz.ntmps58]; simp) rfl rfl ?_; intro E hH hK
 have hlen : (l.map Decl.cells).length = l.length := by simp
 (refine zi ?_; conv => whnf)
 refine zf [1, 2, 7, 11, 12, 13] ?_
 refine zt l (fun i (_ : List (ByteArray × Bool)) => [(1, sI lo), (2, sI hi), (7, .map 0), (11, .imm (zk l)), (12, sI (l.map Decl.cells).length), (13, sI i)]) (fun _ m => [.mapS (zby sB m)])
  (fun done _ m => done.all (jq lo hi) = true /\ (done.map (·.name)).Nodup /\ ∀ s, zo s m = if s ∈ done.map (·.name) then some true else none) [] ⟨rfl, List.nodup_nil, fun s => rfl⟩ ?_ ?_
 ·rintro m ⟨h1, h2, _⟩
  (refine zi ?_; conv => whnf)
  repeat' ((with_reducible refine way ?_ ?_) <;> (intro h; conv => whnf))
  all_goals try (exfalso; omega)
  exact kB hK (by simp only [qv, h1, h2]; rfl)
 ·rintro done d rest m ha hl ⟨h1, h2, h3⟩ ih
  have hw := zm (n := done.length) (by omega)
  have bad : jq lo hi d = false \/ d.name ∈ done.map (·.name) -> qv lo hi l = false := fun h => by rw [ha]; exact zqm h
  have next : jq lo hi d = true -> d.name ∉ done.map (·.name) -> _ := fun g1 g2 => ih (ains d.name true m) ⟨by simp [h1, g1], by
   rw [List.map_append, List.nodup_append]; exact ⟨h2, by simp, fun a ha b hb e => g2 (by simp at hb; rw [<- hb, <- e]; exact ha)⟩, fun s => by
   rw [jh, h3]; simp only [List.map_append, List.mem_append, List.map_cons, List.map_nil, List.mem_singleton]
   by_cases e : s = d.name
   ·subst e; simp
   ·simp [e]⟩
  have hl3 := h3 d.name
  (refine zi ?_; conv => whnf)
  repeat' ((with_reducible refine way ?_ ?_) <;> (intro h; conv => whnf))
  all_goals try (exfalso; omega)
  refine zg rfl rfl  (row := d.cells) (by simp [ha]) ?_
  (refine zj ?_; conv => whnf)
  refine zd rfl  (zse G d.name) ?_
  (refine zj ?_; conv => whnf)
  repeat' ((with_reducible refine way ?_ ?_) <;> (intro h; conv => whnf))
  ·have hname : yx d.name = true := h
   by_cases hin : d.name ∈ done.map (·.name)
   ·rw [if_pos hin] at hl3
    refine zpx sB rfl rfl rfl rfl rfl rfl rfl rfl rfl (v := sB true) (by rw [hl3]; rfl) ?_
    (refine zj ?_; conv => whnf)
    exact kB hK (bad (.inr hin))
   ·rw [if_neg hin] at hl3
    refine zpx sB rfl rfl rfl rfl rfl rfl rfl rfl rfl (v := sB false) (by rw [hl3]; rfl) ?_
    (refine zj ?_; conv => whnf)
    refine zd rfl  (zqh G d.unit) ?_
    (refine zj ?_; conv => whnf)
    repeat' ((with_reducible refine way ?_ ?_) <;> (intro h; conv => whnf))
    any_goals exact kB hK (bad (.inl (by simp [jq, *]; try omega)))
    refine ycy sB true rfl rfl rfl rfl rfl rfl rfl rfl rfl ?_
    (refine zj ?_; conv => whnf)
    rw [hw]
    exact yr [1, 2, 7, 11, 12, 13] 1 (by simp [hH]) (by simp) rfl (by simp [yqp]) (next (by simp [jq, *]; omega) hin)
  ·exact kB hK (bad (.inl (by simp [jq, h])))
def znq (s : ByteArray) : List Decl -> Nat -> Int
 | [], _ => -1
 | d :: r, i => if d.name = s then i else znq s r (i + 1)
theorem zxq (s : ByteArray) : ∀ (done : List Decl) (d : Decl) (rest : List Decl) (i : Nat), d.name = s -> (znq s (done ++ d :: rest) i = i + done.length ↔ s ∉ done.map (·.name))
 | [], d, rest, i, h => by simp [znq, h]
 | x :: done, d, rest, i, h => by
  simp only [List.cons_append, znq]
  by_cases e : x.name = s
  ·simp [e]; omega
  ·rw [if_neg e]
   have := zxq s done d rest (i + 1) h
   rw [show ((i : Int) + ((x :: done).length : Int)) = ((i + 1 : Nat) : Int) + (done.length : Int) by simp; omega, this]
   simp [Ne.symm e]
abbrev tT : ByteArray := ⟨#[116, 114, 117, 116, 104]⟩
abbrev tN : ByteArray := ⟨#[110, 117, 109, 98, 101, 114]⟩
abbrev tM : ByteArray := ⟨#[109, 105, 110, 117, 116, 101, 115]⟩
def zbr : List Ex -> Bool
 | [] => true
 | k0 :: r => (k0 :: r).all fun x => decide (x.unit = k0.unit)
theorem yjs (ks : List Ex) (hsz : ks.length <= 1073741824) : yb Tryz.prog G 175 [.imm (.isl 6 (zb ks))] (sB (zbr ks)) := by
 refine ze Tryz.func175 rfl (by rw [Tryz.ntmps175]; simp) rfl rfl ?_; intro E hH hK
 rw [zp]
 have hlen : (ks.map Ex.cells).length = ks.length := by simp
 (refine zi ?_; conv => whnf)
 refine zf [0, 5, 6, 7] ?_
 refine zt ks (fun i (_ : Unit) => [(0, .imm (.isl 6 (ks.map Ex.cells))), (5, .imm (.isl 6 (ks.map Ex.cells))), (6, sI (ks.map Ex.cells).length), (7, sI i)]) (fun _ _ => [])
  (fun done rest _ => zbr ks = true \/ ∃ k0, ks.head? = some k0 /\ zbr ks = rest.all fun x => decide (x.unit = k0.unit)) () (by
   cases ks with
   | nil => exact .inl rfl
   | cons k0 r => exact .inr ⟨k0, rfl, rfl⟩) ?_ ?_
 ·rintro _ h1
  (refine zi ?_; conv => whnf)
  repeat' ((with_reducible refine way ?_ ?_) <;> (intro h; conv => whnf))
  all_goals try (exfalso; omega)
  exact kB hK (by rcases h1 with h1 | ⟨k0, _, h1⟩ <;> rw [h1]; rfl)
 ·rintro done x rest _ ha hl h1 ih
  have hw := zm (n := done.length) (by omega)
  obtain ⟨k0, hk0, hs⟩ : ∃ k0, ks.head? = some k0 /\ (zbr ks = true \/ zbr ks = (x :: rest).all fun x => decide (x.unit = k0.unit)) := by
   rcases h1 with h1 | ⟨k0, h2, h3⟩
   ·cases ks with
    | nil => simp at ha
    | cons k0 r => exact ⟨k0, rfl, .inl h1⟩
   ·exact ⟨k0, h2, .inr h3⟩
  have h0 : (ks.map Ex.cells)[0]? = some k0.cells := by
   cases ks with
   | nil => simp at hk0
   | cons a r => simp at hk0; simp [hk0]
  have hxk : zbr ks = true -> x.unit = k0.unit := fun h => by
   cases ks with
   | nil => simp at ha
   | cons a r =>
    simp at hk0; subst hk0
    have := List.all_eq_true.1 h x (by rw [ha]; simp)
    simpa using this
  obtain ⟨o1, n1, u1, d1, p1, q1⟩ := x
  obtain ⟨o0, n0, u0, d0, p0, q0⟩ := k0
  (refine zi ?_; conv => whnf)
  repeat' ((with_reducible refine way ?_ ?_) <;> (intro h; conv => whnf))
  all_goals try (exfalso; omega)
  refine zg rfl rfl  (row := (Ex.mk o1 n1 u1 d1 p1 q1).cells) (by simp [ha]) ?_
  (refine zj ?_; conv => whnf)
  (refine yw mixed rfl ?_; refine zl [] ?_; conv => whnf)
  refine xh rfl rfl  (row := (Ex.mk o0 n0 u0 d0 p0 q0).cells) h0 ?_
  (refine zl [] ?_; conv => whnf)
  (refine zi ?_; conv => whnf)
  repeat' ((with_reducible refine way ?_ ?_) <;> (intro h; conv => whnf))
  ·exact kB hK (by
    cases hsk : zbr ks with
    | false => rfl
    | true => exact absurd (hxk hsk) h)
  ·rw [hw]
   refine yr [0, 5, 6, 7] 0 (by simp [hH]) (by simp) rfl rfl (ih () ?_)
   rcases hs with hs | hs
   ·exact .inl hs
   ·exact .inr ⟨_, hk0, by rw [hs]; simp [Ex.unit, h]⟩
theorem zxr (a b : ByteArray) : yb Tryz.prog G 176 [sS a, sS b] (sS (if a = tN then b else a)) := by
 refine ze Tryz.func176 rfl (by rw [Tryz.ntmps176]; simp) rfl rfl ?_; intro E hH hK
 (refine zi ?_; conv => whnf)
 repeat' ((with_reducible refine way ?_ ?_) <;> (intro h; conv => whnf))
 ·rw [if_pos h] at hK; exact hK _
 ·rw [if_neg h] at hK; exact hK _
def zaf (op : Int) (u : ByteArray) (f l : Ex) (len : Int) (same : Bool) : Bool :=
 if op = 5 then decide (len = 1) && decide (u = tT) && decide (f.unit = tT)
 else if op = 6 \/ op = 7 then decide (len = 2) && decide (u = tT) && same && decide (f.unit = tT)
 else if op = 8 then decide (len = 2) && decide (u = tT) && same
 else if op = 9 \/ op = 10 then decide (len = 2) && decide (u = tT) && (same && !decide (f.unit = tT))
 else if op = 11 \/ op = 12 then decide (len = 2) && (same && !decide (f.unit = tT)) && decide (u = f.unit)
 else if op = 16 \/ op = 17 then decide (2 <= len) && (same && !decide (f.unit = tT)) && decide (u = f.unit)
 else if op = 13 then decide (len = 2) && !decide (f.unit = tT) && !decide (l.unit = tT) && (decide (f.unit = tN) || decide (l.unit = tN)) && decide (u = if f.unit = tN then l.unit else f.unit)
 else if op = 14 then decide (len = 2) && decide (l.op = 1) && decide (l.unit = tN) && (!decide (l.n < 1) && !decide (1000000 < l.n)) && !decide (f.unit = tT) && decide (u = f.unit)
 else if op = 15 then decide (len = 2) && decide (f.unit = tM) && zeh l.unit && decide (u = l.unit)
 else false
theorem zsf (op n : Int) (u : ByteArray) (den : Int) (ps : List Piece) (ks : List Ex) (f l : Ex) (hf : ks.head? = some f) (hl : ks.getLast? = some l) (hsz : ks.length <= 1073741824) :
  yb Tryz.prog G 158 [(Ex.mk op n u den ps ks).sv] (sB (zaf op u f l ks.length (zbr ks))) := by
 refine ze Tryz.func158 rfl (by rw [Tryz.ntmps158]; simp) rfl rfl ?_; intro E hH hK
 have hsame := yjs G ks hsz
 have hrows := zp ks
 have hlen : (zb ks).length = ks.length := by rw [hrows]; simp
 have hpos : 1 <= ks.length := by cases ks with | nil => simp at hf | cons a r => simp
 have h0 : (zb ks)[0]? = some f.cells := by
  rw [hrows]
  cases ks with
  | nil => simp at hf
  | cons a r => simp at hf; simp [hf]
 have h1 : (zb ks)[ks.length - 1]? = some l.cells := by
  rw [hrows, List.getElem?_map]
  rw [List.getLast?_eq_getElem?] at hl
  rw [hl]; rfl
 have hm : IntKind.i64.wrap (((zb ks).length : Int) - 1) = ((ks.length - 1 : Nat) : Int) := by rw [wo (by omega) (by omega)]; omega
 obtain ⟨o0, n0, u0, d0, p0, q0⟩ := f
 obtain ⟨o1, n1, u1, d1, p1, q1⟩ := l
 (refine zi ?_; conv => whnf)
 (refine ya 2 mixed rfl ?_; refine zc [] (nx := 1) ?_; conv => whnf)
 refine yc rfl (by simp) rfl  (row := (Ex.mk o0 n0 u0 d0 p0 q0).cells) h0 ?_
 (refine zc [] (nx := 1) ?_; conv => whnf)
 refine yc rfl (by simp) hm (row := (Ex.mk o1 n1 u1 d1 p1 q1).cells) h1 ?_
 (refine zc [] (nx := 1) ?_; conv => whnf)
 (refine zi ?_; conv => whnf)
 refine zd rfl  hsame ?_
 (refine zj ?_; conv => whnf)
 generalize zbr ks = sm at hK hsame ⊢
 rw [<- hlen] at hK
 clear hm h0 h1 hf hl hlen hpos hrows
 repeat' ((with_reducible refine way ?_ ?_) <;> (intro h; conv => whnf))
 all_goals try (refine kB hK ?_; (try simp [zaf, tT, tN, tM, Ex.unit, Ex.op, Ex.n, *]); (try exact decide_eq_decide.2 Iff.rfl); (try omega); (try (exfalso; exact Bool.noConfusion (‹sm = true›.symm.trans ‹sm = false›))))
 any_goals refine zd rfl  hsame ?_
 any_goals (refine zj ?_; conv => whnf)
 any_goals refine zd rfl  (zmm G u1) ?_
 any_goals (refine zj ?_; conv => whnf)
 any_goals (refine yw mixed rfl ?_; refine zl [] ?_; conv => whnf)
 any_goals repeat' ((with_reducible refine way ?_ ?_) <;> (intro h; conv => whnf))
 any_goals refine zad rfl  (zxr G u0 u1) ?_
 any_goals (refine zl [] ?_; conv => whnf)
 any_goals (refine zi ?_; conv => whnf)
 any_goals repeat' ((with_reducible refine way ?_ ?_) <;> (intro h; conv => whnf))
 all_goals try (refine kB hK ?_; (try simp [zaf, tT, tN, tM, Ex.unit, Ex.op, Ex.n, *]); (try exact decide_eq_decide.2 Iff.rfl); (try omega); (try (exfalso; exact Bool.noConfusion (‹sm = true›.symm.trans ‹sm = false›))))
 all_goals trace_state
def zcv (l : List Decl) (i : Int) (u : ByteArray) : Bool :=
 match l[i.toNat]? with
 | some d => decide (u = d.unit)
 | none => false
def zau (facts lines : List Decl) (m : List (Int × Int)) (op n : Int) (u : ByteArray) : Bool :=
  if op = 1 then decide (0 <= n) && decide (n <= 999999999999) && (!decide (u = tT) || decide (n <= 1))
  else if op = 2 then decide (0 <= n) && decide (n < facts.length) && zcv facts n u
  else if op = 3 then (match zo n m with
    | some line => zcv lines line u
    | none => false)
  else decide (1 <= n) && decide (n <= 4) && decide (u = tN)
def zeu (c : Codex) (m : List (Int × Int)) (n : Int) : List SObj :=
 [.cells [.imm (zk c.facts), .imm (zk c.lines), .imm (xw c.arts)], .mapI .i64 (zby sI m), .cells [.imm (zk c.facts), .imm (zk c.lines), .imm (xw c.arts), .map 1, sI n]]
theorem zav (c : Codex) (m : List (Int × Int)) (n : Int) : (zeu c m n).all (SObj.under 3) = true := by
 simp only [zeu, List.all_cons, zmo]; rfl
theorem yjt (c : Codex) (m : List (Int × Int)) (nodes : Int) (op n : Int) (u : ByteArray) (den : Int) (ps : List Piece) (ks : List Ex) (hm : ∀ k v, zo k m = some v -> 0 <= v /\ v < c.lines.length) (hop : 1 <= op /\ op <= 4) :
  SPre Tryz.prog G 157 [.ptr 2 0, (Ex.mk op n u den ps ks).sv] (zeu c m nodes) (fun r H1 => r = sB (zau c.facts c.lines m op n u) /\ H1 = zeu c m nodes) := by
 refine wk Tryz.func157 rfl (by rw [Tryz.ntmps157]; simp) rfl (zav c m nodes) ?_
 intro E hH hK
 have hf : (c.facts.map Decl.cells).length = c.facts.length := by simp
 have hl : (c.lines.map Decl.cells).length = c.lines.length := by simp
 have fin : ∀ H', H'.take 3 = zeu c m nodes -> 3 <= H'.length -> ∀ b, zau c.facts c.lines m op n u = b -> E.K (sB b) H' := fun H' h1 h2 b h3 =>
  hK _ _ h2 rfl (by show (List.take 3 H').all _ = true; rw [h1]; exact zav c m nodes) ⟨by rw [h3], h1⟩
 (refine zi ?_; conv => whnf)
 repeat' ((with_reducible refine way ?_ ?_) <;> (intro h; conv => whnf))
 all_goals try exact fin _ rfl (by simp) _ (by simp [zau, tT, tN, *])
 ·(refine yw mixed rfl ?_; refine zl [] ?_; conv => whnf)
  repeat' ((with_reducible refine way ?_ ?_) <;> (intro h; conv => whnf))
  ·have hlt : n.toNat < c.facts.length := by omega
   obtain ⟨d, hd⟩ : ∃ d, c.facts[n.toNat]? = some d := ⟨c.facts[n.toNat], List.getElem?_eq_getElem hlt⟩
   refine xh rfl (i := n.toNat) (by omega) (row := d.cells) (by simp [hd]) ?_
   (refine zl [] ?_; conv => whnf)
   (refine zi ?_; conv => whnf)
   refine fin _ rfl (by simp) _ ?_
   have hua : zcv c.facts n u = decide (u = d.unit) := by simp only [zcv, hd]
   simp [zau, hua, *]; omega
  all_goals (refine zi ?_; conv => whnf)
  all_goals refine fin _ rfl (by simp) _ ?_
  all_goals (simp [zau, *]; try omega)
 ·cases hlk : zo n m with
  | none =>
   (refine yw mixed rfl ?_; refine zl [] ?_; conv => whnf)
   refine zst sI rfl rfl rfl rfl rfl rfl rfl rfl rfl (v := sI 0) (p := false) (by rw [hlk]; rfl) (by rw [hlk]; rfl) ?_
   (refine zl [] ?_; conv => whnf)
   (refine zi ?_; conv => whnf)
   (refine yw mixed rfl ?_; refine zl [] ?_; conv => whnf)
   (refine zi ?_; conv => whnf)
   exact fin _ rfl (by simp) _ (by simp [zau, hlk, *])
  | some line =>
   obtain ⟨hl0, hl1⟩ := hm n line hlk
   obtain ⟨d, hd⟩ : ∃ d, c.lines[line.toNat]? = some d := ⟨c.lines[line.toNat]'(by omega), List.getElem?_eq_getElem _⟩
   (refine yw mixed rfl ?_; refine zl [] ?_; conv => whnf)
   refine zst sI rfl rfl rfl rfl rfl rfl rfl rfl rfl (v := sI line) (p := true) (by rw [hlk]; rfl) (by rw [hlk]; rfl) ?_
   (refine zl [] ?_; conv => whnf)
   (refine zi ?_; conv => whnf)
   (refine yw mixed rfl ?_; refine zl [] ?_; conv => whnf)
   refine xh rfl (i := line.toNat) (by omega) (row := d.cells) (by simp [hd]) ?_
   (refine zl [] ?_; conv => whnf)
   (refine zi ?_; conv => whnf)
   have hua : zcv c.lines line u = decide (u = d.unit) := by simp only [zcv, hd]
   exact fin _ rfl (by simp) _ (by simp [zau, hlk, hua, *])
def qm (c : Codex) (m : List (Int × Int)) (op n : Int) (u : ByteArray) (den : Int) (ps : List Piece) (ks : List Ex) : Bool :=
 if op = 18 then decide (n = 0) && decide (ks.length = 1) && zeh u && (match ks with | k :: _ => decide (u = k.unit) | [] => false) && jp den ps
 else if ¬ den = 0 \/ 0 < ps.length then false
 else if 1 <= op /\ op <= 4 then decide (ks.length = 0) && zau c.facts c.lines m op n u
 else decide (n = 0) && (match ks.head?, ks.getLast? with | some f, some l => zaf op u f l ks.length (zbr ks) | _, _ => false)
mutual
def qz (c : Codex) (m : List (Int × Int)) : Ex -> Int -> Int -> Bool × Int
 | .mk op n u den ps ks, depth, cnt =>
  if 400 < cnt + 1 \/ 40 < depth \/ wq u = false then (false, cnt + 1)
  else match qc c m ks (depth + 1) (cnt + 1) with
   | (true, cnt') => (qm c m op n u den ps ks, cnt')
   | (false, cnt') => (false, cnt')
def qc (c : Codex) (m : List (Int × Int)) : List Ex -> Int -> Int -> Bool × Int
 | [], _, cnt => (true, cnt)
 | k :: r, depth, cnt => match qz c m k depth cnt with
  | (true, cnt') => qc c m r depth cnt'
  | (false, cnt') => (false, cnt')
end
theorem zxs (c : Codex) (m : List (Int × Int)) (N : Nat) : (∀ e : Ex, SizeOf.sizeOf e < N -> ∀ d cnt : Int, cnt + 1 <= (qz c m e d cnt).2 /\ ((qz c m e d cnt).1 = true -> (qz c m e d cnt).2 <= 400)) /\
  (∀ ks : List Ex, SizeOf.sizeOf ks < N -> ∀ d cnt : Int, cnt <= (qc c m ks d cnt).2 /\ (cnt <= 400 -> (qc c m ks d cnt).1 = true -> (qc c m ks d cnt).2 <= 400)) := by
 induction N with
 | zero => exact ⟨fun e h => by omega, fun e h => by omega⟩
 | succ N ih =>
  refine ⟨fun e he d cnt => ?_, fun ks hk d cnt => ?_⟩
  ·obtain ⟨op, n, u, den, ps, ks⟩ := e
   simp only [Ex.mk.sizeOf_spec] at he
   have := ih.2 ks (by omega) (d + 1) (cnt + 1)
   simp only [qz]
   split
   ·exact ⟨Int.le_refl _, fun h => by cases h⟩
   ·rename_i hc
    revert this
    cases qc c m ks (d + 1) (cnt + 1) with
    | mk b q =>
     cases b with
     | true => simp only; intro h; exact ⟨h.1, fun _ => h.2 (by omega) trivial⟩
     | false => simp only; intro h; exact ⟨h.1, fun h => by cases h⟩
  ·cases ks with
   | nil => simp [qc]
   | cons k r =>
    simp only [List.cons.sizeOf_spec] at hk
    have h1 := ih.1 k (by omega) d cnt
    simp only [qc]
    revert h1
    cases qz c m k d cnt with
    | mk b q =>
     cases b with
     | true =>
      simp only
      intro h1
      have h2 := ih.2 r (by omega) d q
      exact ⟨by omega, fun hc h => h2.2 (h1.2 trivial) h⟩
     | false => simp only; intro h1; exact ⟨by omega, fun _ h => by cases h⟩
theorem yju (c : Codex) (m : List (Int × Int)) (hm : ∀ k v, zo k m = some v -> 0 <= v /\ v < c.lines.length) (N : Nat) : ∀ (e : Ex), SizeOf.sizeOf e < N -> ∀ (depth cnt : Int), 0 <= depth -> depth <= 41 -> 0 <= cnt -> cnt <= 400 ->
    SPre Tryz.prog G 124 [.ptr 2 0, e.sv, sI depth] (zeu c m cnt) (fun r H1 => r = sB (qz c m e depth cnt).1 /\ H1 = zeu c m (qz c m e depth cnt).2) := by
  induction N with
  | zero => intro e h; omega
  | succ N IH =>
  intro e he depth cnt hd0 hd1 hc0 hc1
  obtain ⟨op, n, u, den, ps, ks⟩ := e
  simp only [Ex.mk.sizeOf_spec] at he
  refine wk Tryz.func124 rfl (by rw [Tryz.ntmps124]; simp) rfl (zav c m cnt) ?_
  intro E hH hK
  have fin : ∀ H' q, H'.take 3 = zeu c m q -> 3 <= H'.length -> ∀ b, qz c m (.mk op n u den ps ks) depth cnt = (b, q) -> E.K (sB b) H' := fun H' q h1 h2 b h3 =>
    hK _ _ h2 rfl (by show (List.take 3 H').all _ = true; rw [h1]; exact zav c m q) ⟨by rw [h3], by rw [h3]; exact h1⟩
  have hw1 : IntKind.i64.wrap (cnt + 1) = cnt + 1 := wo (by omega) (by omega)
  have hrows := zp ks
  have hlen : (zb ks).length = ks.length := by rw [hrows]; simp
  refine wv [19] 1000 ?_; conv => whnf
  rw [hw1]
  (refine zj ?_; conv => whnf)
  repeat' ((with_reducible refine way ?_ ?_) <;> (intro h; conv => whnf))
  case' refine_2 => skip
  all_goals try exact fin _ _ rfl (by simp) _ (by simp only [qz]; rw [if_pos (by omega)])
  refine zd rfl  (zqh G u) ?_
  (refine zj ?_; conv => whnf)
  repeat' ((with_reducible refine way ?_ ?_) <;> (intro h; conv => whnf))
  case refine_1.refine_1 => exact fin _ _ rfl (by simp) _ (by simp only [qz]; rw [if_pos (.inr (.inr h))])
  have hstart : qz c m (.mk op n u den ps ks) depth cnt = (match qc c m ks (depth + 1) (cnt + 1) with | (true, cnt') => (qm c m op n u den ps ks, cnt') | (false, cnt') => (false, cnt')) := by
    simp only [qz]; rw [if_neg (by rw [h]; simp; omega)]
  have hup := zxs c m (N + 1)
  have hwd : IntKind.i64.wrap (depth + 1) = depth + 1 := wo (by omega) (by omega)
  refine zf [0, 2, 4, 32, 33, 34] ?_
  refine zt ks (fun i (_ : Int) => [(0, .ptr 2 0), (2, sI depth), (4, .ptr 3 0), (32, .imm (.isl 6 (zb ks))), (33, sI (zb ks).length), (34, sI i)])
    (fun _ q => zeu c m q ++ [.cells ((Ex.mk op n u den ps ks).cells.map .imm)])
    (fun done rest q => qc c m ks (depth + 1) (cnt + 1) = qc c m rest (depth + 1) q /\ cnt + 1 + done.length <= q /\ q <= 400) (cnt + 1) ⟨rfl, by simp, by omega⟩ ?_ ?_
  · rintro q ⟨h1, h2, h3⟩
    simp only [qc] at h1
    rw [h1] at hstart
    simp only at hstart
    have hsz : ks.length <= 400 := by omega
    have fin2 : ∀ H' b, H'.take 3 = zeu c m q -> 3 <= H'.length -> qm c m op n u den ps ks = b -> E.K (sB b) H' := fun H' b g1 g2 g3 => fin H' q g1 g2 b (by rw [hstart, g3])
    have hpl : (ps.map Piece.cells).length = ps.length := by simp
    clear IH hup hstart hK fin ‹wq u = true›
    rw [<- hlen]
    by_cases h18 : op = 18
    · subst h18
      cases ks with
      | nil =>
        (refine zi ?_; conv => whnf)
        repeat' ((with_reducible refine way ?_ ?_) <;> (intro h; conv => whnf))
        all_goals try (exfalso; omega)
        (refine yw mixed rfl ?_; refine zl [] ?_; conv => whnf)
        repeat' ((with_reducible refine way ?_ ?_) <;> (intro h; conv => whnf))
        all_goals (refine zi ?_; conv => whnf)
        all_goals exact fin2 _ _ rfl (by simp [zeu]) (by simp [qm])
      | cons k0 kr =>
        obtain ⟨o0, n0, u0, d0, p0, q0⟩ := k0
        have h0 : (zb (Ex.mk o0 n0 u0 d0 p0 q0 :: kr))[0]? = some (Ex.mk o0 n0 u0 d0 p0 q0).cells := by simp [zb]
        (refine zi ?_; conv => whnf)
        repeat' ((with_reducible refine way ?_ ?_) <;> (intro h; conv => whnf))
        all_goals try (exfalso; omega)
        (refine yw mixed rfl ?_; refine zl [] ?_; conv => whnf)
        repeat' ((with_reducible refine way ?_ ?_) <;> (intro h; conv => whnf))
        · refine zad rfl  (zmm G u) ?_
          (refine zl [] ?_; conv => whnf)
          repeat' ((with_reducible refine way ?_ ?_) <;> (intro h; conv => whnf))
          · refine xh rfl rfl  (row := (Ex.mk o0 n0 u0 d0 p0 q0).cells) h0 ?_
            (refine zl [] ?_; conv => whnf)
            repeat' ((with_reducible refine way ?_ ?_) <;> (intro h; conv => whnf))
            · refine zad rfl  (zqj G den ps) ?_
              (refine zl [] ?_; conv => whnf)
              (refine zi ?_; conv => whnf)
              exact fin2 _ _ rfl (by simp [zeu]) (by
                have hq : (Ex.mk o0 n0 u0 d0 p0 q0 :: kr).length = 1 := by omega
                simp only [qm, if_true, Ex.unit, hq, ‹zeh u = true›, decide_eq_true ‹n = 0›]; simp; intro _; first | exact h | exact decide_eq_true h)
            · (refine zi ?_; conv => whnf)
              exact fin2 _ _ rfl (by simp [zeu]) (by simp [qm, Ex.unit, h])
          · (refine zi ?_; conv => whnf)
            exact fin2 _ _ rfl (by simp [zeu]) (by simp [qm, h])
        · (refine zi ?_; conv => whnf)
          exact fin2 _ _ rfl (by simp [zeu]) (by
            have hq : ¬ (Ex.mk o0 n0 u0 d0 p0 q0 :: kr).length = 1 := by omega
            simp only [qm, if_true, decide_eq_false hq]; simp)
        · (refine zi ?_; conv => whnf)
          exact fin2 _ _ rfl (by simp [zeu]) (by simp [qm, h])
    by_cases htab : ¬ den = 0 \/ 0 < ps.length
    · (refine zi ?_; conv => whnf)
      repeat' ((with_reducible refine way ?_ ?_) <;> (intro h; conv => whnf))
      all_goals try (exfalso; omega)
      all_goals exact fin2 _ _ rfl (by simp [zeu]) (by unfold qm; rw [if_neg h18, if_pos htab])
    have hnode : qm c m op n u den ps ks = if 1 <= op /\ op <= 4 then decide (ks.length = 0) && zau c.facts c.lines m op n u else decide (n = 0) && (match ks.head?, ks.getLast? with | some f, some l => zaf op u f l ks.length (zbr ks) | _, _ => false) := by
      unfold qm; rw [if_neg h18, if_neg htab]
    by_cases hop : 1 <= op /\ op <= 4
    · rw [if_pos hop] at hnode
      (refine zi ?_; conv => whnf)
      repeat' ((with_reducible refine way ?_ ?_) <;> (intro h; conv => whnf))
      all_goals try (exfalso; omega)
      · refine ys 3 rfl rfl rfl rfl rfl rfl (yjt G c m q op n u den ps ks hm hop) ?_
        rintro r H1 ⟨rfl, rfl⟩ _
        (refine zj ?_; conv => whnf)
        exact fin2 _ _ rfl (by simp [zeu]) (by rw [hnode, decide_eq_true (by omega)]; rfl)
      · exact fin2 _ _ rfl (by simp [zeu]) (by rw [hnode, decide_eq_false (by omega)]; rfl)
    · rw [if_neg hop] at hnode
      cases ks with
      | nil =>
        (refine zi ?_; conv => whnf)
        repeat' ((with_reducible refine way ?_ ?_) <;> (intro h; conv => whnf))
        all_goals try (exfalso; omega)
        all_goals exact fin2 _ _ rfl (by simp [zeu]) (by rw [hnode]; simp)
      | cons k0 kr =>
        obtain ⟨l, hl⟩ : ∃ l, (k0 :: kr).getLast? = some l := ⟨_, List.getLast?_eq_some_getLast (by simp)⟩
        have hopr := zsf G op n u den ps (k0 :: kr) k0 l rfl hl (by omega)
        rw [hl] at hnode
        simp only [List.head?_cons] at hnode
        have hpos : 0 < (zb (k0 :: kr)).length := by simp [zb]
        (refine zi ?_; conv => whnf)
        repeat' ((with_reducible refine way ?_ ?_) <;> (intro h; conv => whnf))
        all_goals try (exfalso; omega)
        all_goals first
          | exact fin2 _ _ rfl (by simp [zeu]) (by rw [hnode, decide_eq_false ‹¬ n = 0›]; rfl)
          | (refine zd rfl  hopr ?_
             (refine zj ?_; conv => whnf)
             exact fin2 _ _ rfl (by simp [zeu]) (by rw [hnode, decide_eq_true ‹n = 0›]; rfl))
  · rintro done kid rest q ha hl ⟨h1, h2, h3⟩ ih
    have hw := zm (n := done.length) (by omega)
    have hks : SizeOf.sizeOf kid < SizeOf.sizeOf ks := List.sizeOf_lt_of_mem (by rw [ha]; simp)
    have hcall := IH kid (by omega) (depth + 1) q (by omega) (by omega) (by omega) h3
    simp only [qc] at h1
    have hkup := hup.1 kid (by omega) (depth + 1) q
    obtain ⟨o1, n1, u1, d1, p1, q1⟩ := kid
    (refine zi ?_; conv => whnf)
    repeat' ((with_reducible refine way ?_ ?_) <;> (intro h; conv => whnf))
    all_goals try (exfalso; omega)
    refine zg rfl rfl  (row := (Ex.mk o1 n1 u1 d1 p1 q1).cells) (by rw [hrows]; simp [ha]) ?_
    (refine zj ?_; conv => whnf)
    rw [hwd]
    refine ys 3 rfl rfl rfl rfl rfl rfl hcall ?_
    rintro r H1 ⟨rfl, rfl⟩ _
    revert h1 hkup
    cases qz c m (.mk o1 n1 u1 d1 p1 q1) (depth + 1) q with
    | mk b q' =>
      cases b with
      | true =>
        simp only
        intro h1 hkup
        (refine zj ?_; conv => whnf)
        rw [hw]
        exact yr [0, 2, 4, 32, 33, 34] 4 (by rw [hH]; simp [zeu]) (by simp [zeu]) rfl (by simp [zeu, zmo]; exact ⟨rfl, rfl, rfl⟩) (ih q' ⟨h1, by simp; omega, hkup.2 trivial⟩)
      | false =>
        simp only
        intro h1 hkup
        (refine zj ?_; conv => whnf)
        refine fin _ q' rfl (by simp [zeu]) _ ?_
        rw [hstart, h1]
def qd (c : Codex) (m : List (Int × Int)) (e : Ex) (u : ByteArray) : Bool × Int := if e.unit = u then qz c m e 1 0 else (false, 0)
theorem zsy (c : Codex) (m : List (Int × Int)) (hm : ∀ k v, zo k m = some v -> 0 <= v /\ v < c.lines.length) (e : Ex) (u : ByteArray) (q : Int) :
  SPre Tryz.prog G 90 [.ptr 2 0, e.sv, sS u] (zeu c m q) (fun r H1 => r = sB (qd c m e u).1 /\ H1 = zeu c m (qd c m e u).2) := by
 have hfit := yju G c m hm (SizeOf.sizeOf e + 1) e (by omega) 1 0 (by omega) (by omega) (by omega) (by omega)
 obtain ⟨op, n, u0, den, ps, ks⟩ := e
 refine wk Tryz.func90 rfl (by rw [Tryz.ntmps90]; simp) rfl (zav c m q) ?_
 intro E hH hK
 have fin : ∀ H' q', H'.take 3 = zeu c m q' -> 3 <= H'.length -> ∀ b, qd c m (.mk op n u0 den ps ks) u = (b, q') -> E.K (sB b) H' := fun H' q' h1 h2 b h3 =>
  hK _ _ h2 rfl (by show (List.take 3 H').all _ = true; rw [h1]; exact zav c m q') ⟨by rw [h3], by rw [h3]; exact h1⟩
 (refine zi ?_; conv => whnf)
 repeat' ((with_reducible refine way ?_ ?_) <;> (intro h; conv => whnf))
 ·refine ys 3 rfl rfl rfl rfl rfl rfl hfit ?_
  rintro r H1 ⟨rfl, rfl⟩ _
  (refine zj ?_; conv => whnf)
  exact fin _ _ rfl (by simp [zeu]) _ (by rw [qd, if_pos (by exact h)])
 ·exact fin _ _ rfl (by simp) _ (by rw [qd, if_neg (by exact h)])
def zca (a : Article) : Bool := decide (0 <= a.rank) && decide (a.rank <= 1000000) && decide (0 <= a.lo) && decide (a.lo < a.hi) && decide (a.hi <= 36525) && decide (0 <= a.known) && decide (a.known <= 36524)
def zdi (c : Codex) (i : Int) : ByteArray := match c.lines[i.toNat]? with | some d => d.unit | none => ⟨#[]⟩
def zkb (c : Codex) (m : List (Int × Int)) (a : Article) : Bool :=
 zca a && a.unless_.all (fun n => (zo n m).isSome) && a.when_.all (fun e => (qd c m e tT).1) && (qd c m a.amount (zdi c a.line)).1
def zkc (a : Article) (op n : Int) (u : ByteArray) (den : Int) (ps : List Piece) (ks : List Ex) : List SV :=
 [sI a.number, sI a.line, sI a.rank, sI a.lo, sI a.hi, sI a.known, .imm (xb a.when_), .imm (dInts a.unless_), sI op, sI n, sS u, sI den, .imm (.isl 3 (ps.map Piece.cells)), .imm (.isl 6 (zb ks))]
theorem ydi {a : Article} {op n : Int} {u : ByteArray} {den : Int} {ps : List Piece} {ks : List Ex} (h : a.amount = .mk op n u den ps ks) : a.cells.map SV.imm = zkc a op n u den ps ks := by
 simp [Article.cells, h, zkc, zp, Ex.op, Ex.n, Ex.unit, Ex.den, Ex.pieces, Ex.kids]
theorem zxt (c : Codex) (m : List (Int × Int)) (hm : ∀ k v, zo k m = some v -> 0 <= v /\ v < c.lines.length) (a : Article) (q : Int) (hline : 0 <= a.line /\ a.line < c.lines.length) (hun : a.unless_.length <= 9223372036854775807) (hwh : a.when_.length <= 9223372036854775807) :
  SPre Tryz.prog G 59 [.ptr 2 0, .agg (a.cells.map .imm)] (zeu c m q) (fun r H1 => r = sB (zkb c m a) /\ ∃ q', H1 = zeu c m q') := by
 have hamount := zsy G c m hm a.amount (zdi c a.line)
 obtain ⟨op, n, u, den, ps, ks, ham⟩ : ∃ op n u den ps ks, a.amount = .mk op n u den ps ks := by cases h : a.amount; exact ⟨_, _, _, _, _, _, rfl⟩
 rw [ydi ham]
 rw [ham] at hamount
 refine wk Tryz.func59 rfl (by rw [Tryz.ntmps59]; simp) rfl (zav c m q) ?_
 intro E hH hK
 generalize hart : zkb c m a = ok at hK
 have fin : ∀ H' b, (∃ q', H'.take 3 = zeu c m q') -> 3 <= H'.length -> ok = b -> E.K (sB b) H' := fun H' b ⟨q', h1⟩ h2 h3 =>
  hK _ _ h2 rfl (by show (List.take 3 H').all _ = true; rw [h1]; exact zav c m q') ⟨by rw [h3], q', h1⟩
 have hwl : (a.when_.map Ex.cells).length = a.when_.length := by simp
 have hul : (a.unless_.map fun n => [dI n]).length = a.unless_.length := by simp
 have bad : zca a = false -> ok = false := fun h => by rw [<- hart, zkb, h]; rfl
 (refine zi ?_; conv => whnf)
 repeat' ((with_reducible refine way ?_ ?_) <;> (intro h; conv => whnf))
 all_goals try exact fin _ _ ⟨_, rfl⟩ (by simp) (bad (by simp [zca]; intros; omega))
 have good : zca a = true := by simp [zca]; omega
 refine zf [0, 3, 45, 46, 47] ?_
 refine zt a.unless_ (fun i (_ : Unit) => [(0, .ptr 2 0), (3, .ptr 3 0), (45, .imm (dInts a.unless_)), (46, sI (a.unless_.map fun n => [dI n]).length), (47, sI i)])
  (fun _ _ => zeu c m q ++ [.cells (zkc a op n u den ps ks)])
  (fun done _ _ => done.all (fun n => (zo n m).isSome) = true) () rfl ?_ ?_
 ·rintro _ hu1
  (refine zi ?_; conv => whnf)
  repeat' ((with_reducible refine way ?_ ?_) <;> (intro h; conv => whnf))
  all_goals try (exfalso; omega)
  refine zf [0, 3, 64, 65, 66] ?_
  refine zt a.when_ (fun i (_ : Int) => [(0, .ptr 2 0), (3, .ptr 3 0), (64, .imm (xb a.when_)), (65, sI (a.when_.map Ex.cells).length), (66, sI i)])
   (fun _ q => zeu c m q ++ [.cells (zkc a op n u den ps ks)])
   (fun done _ _ => done.all (fun e => (qd c m e tT).1) = true) q rfl ?_ ?_
  ·rintro q1 hw1
   have hres : ok = (qd c m (.mk op n u den ps ks) (zdi c a.line)).1 := by rw [<- hart, zkb, good, ham]; simp only [hu1, hw1]; rfl
   obtain ⟨d, hd⟩ : ∃ d, c.lines[a.line.toNat]? = some d := ⟨c.lines[a.line.toNat]'(by omega), List.getElem?_eq_getElem _⟩
   have hlu : zdi c a.line = d.unit := by simp only [zdi, hd]
   rw [hlu] at hamount hres
   (refine zi ?_; conv => whnf)
   repeat' ((with_reducible refine way ?_ ?_) <;> (intro h; conv => whnf))
   all_goals try (exfalso; omega)
   (refine ya 0 mixed rfl ?_; refine zc [] (nx := 4) ?_; conv => whnf)
   refine yc rfl (by simp) (i := a.line.toNat) (by omega) (row := d.cells) (by simp [hd]) ?_
   (refine zc [] (nx := 4) ?_; conv => whnf)
   refine yjf 3 (r := sB (qd c m (.mk op n u den ps ks) d.unit).1) (wr := some (2, .cells [.imm (zk c.facts), .imm (zk c.lines), .imm (xw c.arts), .map 1, sI (qd c m (.mk op n u den ps ks) d.unit).2])) rfl rfl rfl rfl rfl rfl (by simp) (by simp) (by rintro b ob h; cases h; omega) ((hamount q1).mono ?_) ?_
   ·rintro r H1 ⟨rfl, rfl⟩; exact ⟨rfl, rfl⟩
   (refine zc [] (nx := 4) ?_; conv => whnf)
   (refine zi ?_; conv => whnf)
   exact fin _ _ ⟨_, rfl⟩ (by simp) hres
  ·rintro done e rest q1 ha hl hw1 ih
   have hw := zm (n := done.length) (by omega)
   have hcall := zsy G c m hm e tT q1
   have bad2 : (qd c m e tT).1 = false -> ok = false := fun h => by rw [<- hart, zkb, good]; simp [ha, h]
   obtain ⟨o1, n1, u1, d1, p1, q1'⟩ := e
   (refine zi ?_; conv => whnf)
   repeat' ((with_reducible refine way ?_ ?_) <;> (intro h; conv => whnf))
   all_goals try (exfalso; omega)
   refine zg rfl rfl  (row := (Ex.mk o1 n1 u1 d1 p1 q1').cells) (by simp [ha]) ?_
   (refine zj ?_; conv => whnf)
   refine ys 3 rfl rfl rfl rfl rfl rfl hcall ?_
   rintro r H1 ⟨rfl, rfl⟩ _
   cases hb : (qd c m (.mk o1 n1 u1 d1 p1 q1') tT).1 with
   | true =>
    (refine zj ?_; conv => whnf)
    rw [hw]
    exact yr [0, 3, 64, 65, 66] 4 (by rw [hH]; simp [zeu]) (by simp [zeu]) rfl (by simp [zeu, zmo]; exact ⟨rfl, rfl, rfl⟩) (ih _ (by simp [hw1, hb]))
   | false =>
    (refine zj ?_; conv => whnf)
    exact fin _ _ ⟨_, rfl⟩ (by simp [zeu]) (bad2 hb)
 ·rintro done x rest _ ha hl hu1 ih
  have hw := zm (n := done.length) (by omega)
  have bad2 : (zo x m).isSome = false -> ok = false := fun h => by rw [<- hart, zkb, good]; simp at h; simp [ha, h]
  (refine zi ?_; conv => whnf)
  repeat' ((with_reducible refine way ?_ ?_) <;> (intro h; conv => whnf))
  all_goals try (exfalso; omega)
  refine zg rfl rfl  (row := [dI x]) (by simp [ha]) ?_
  (refine zj ?_; conv => whnf)
  cases hlk : zo x m with
  | none =>
   refine zik sI rfl rfl rfl rfl rfl rfl rfl rfl rfl (v := sI 0) (p := false) (by rw [hlk]; rfl) (by rw [hlk]; rfl) ?_
   (refine zj ?_; conv => whnf)
   exact fin _ _ ⟨_, rfl⟩ (by simp) (bad2 (by rw [hlk]; rfl))
  | some v =>
   refine zik sI rfl rfl rfl rfl rfl rfl rfl rfl rfl (v := sI v) (p := true) (by rw [hlk]; rfl) (by rw [hlk]; rfl) ?_
   (refine zj ?_; conv => whnf)
   rw [hw]
   exact zf [0, 3, 45, 46, 47] (ih () (by simp [hu1, hlk]))
def wn (nl : Int) : List Article -> List (Int × Int) -> Option (List (Int × Int))
  | [], m => some m
  | a :: r, m => if 1 <= a.number /\ a.number <= 1000000 /\ 0 <= a.line /\ a.line < nl then
      (match zo a.number m with
      | some l => if l = a.line then wn nl r (ains a.number a.line m) else none
      | none => wn nl r (ains a.number a.line m))
    else none
def zq (c : Codex) : Bool :=
  decide (c.facts.length <= 32) && decide (c.lines.length <= 32) && decide (c.arts.length <= 60) && qv 0 0 c.facts && qv 1 4 c.lines &&
  (match wn c.lines.length c.arts [] with
  | some m => c.arts.all (zkb c m)
  | none => false)
def Codex.fit (c : Codex) : Prop := ∀ a ∈ c.arts, a.unless_.length <= 9223372036854775807 /\ a.when_.length <= 9223372036854775807
theorem zld (nl : Int) : ∀ (l : List Article) (m0 m : List (Int × Int)), wn nl l m0 = some m -> (∀ k v, zo k m0 = some v -> 0 <= v /\ v < nl) -> (∀ k v, zo k m = some v -> 0 <= v /\ v < nl) /\ ∀ a ∈ l, 0 <= a.line /\ a.line < nl
 | [], m0, m, h, h0 => by simp [wn] at h; subst h; exact ⟨h0, by simp⟩
 | a :: r, m0, m, h, h0 => by
  simp only [wn] at h
  split at h
  ·rename_i hc
   have h1 : ∀ k v, zo k (ains a.number a.line m0) = some v -> 0 <= v /\ v < nl := fun k v hk => by
    rw [jh] at hk
    split at hk
    ·cases hk; exact ⟨hc.2.2.1, hc.2.2.2⟩
    ·exact h0 k v hk
   have key : wn nl r (ains a.number a.line m0) = some m -> _ := fun h => zld nl r _ m h h1
   have hm : wn nl r (ains a.number a.line m0) = some m := by
    split at h
    ·split at h
     ·exact h
     ·cases h
    ·exact h
   obtain ⟨g1, g2⟩ := key hm
   refine ⟨g1, fun x hx => ?_⟩
   rcases List.mem_cons.1 hx with rfl | hx
   ·exact ⟨hc.2.2.1, hc.2.2.2⟩
   ·exact g2 x hx
  ·cases h
theorem jr (c : Codex) (hfit : Codex.fit c) : yb Tryz.prog G 32 [c.sv] (sB (zq c)) := by
 refine ze Tryz.func32 rfl (by rw [Tryz.ntmps32]; simp) rfl rfl ?_; intro E hH hK
 have hlf : (c.facts.map Decl.cells).length = c.facts.length := by simp
 have hll : (c.lines.map Decl.cells).length = c.lines.length := by simp
 have hla : (c.arts.map Article.cells).length = c.arts.length := by simp
 (refine zi ?_; conv => whnf)
 repeat' ((with_reducible refine way ?_ ?_) <;> (intro h; conv => whnf))
 all_goals try exact kB hK (by simp [zq]; intros; omega)
 have hsz : c.facts.length <= 32 /\ c.lines.length <= 32 /\ c.arts.length <= 60 := by omega
 refine zd rfl  (zjm G c.facts 0 0 (by omega)) ?_
 (refine zj ?_; conv => whnf)
 repeat' ((with_reducible refine way ?_ ?_) <;> (intro h; conv => whnf))
 case refine_2 => exact kB hK (by simp [zq, h])
 have hdf : qv 0 0 c.facts = true := h
 refine zd rfl  (zjm G c.lines 1 4 (by omega)) ?_
 (refine zj ?_; conv => whnf)
 repeat' ((with_reducible refine way ?_ ?_) <;> (intro h; conv => whnf))
 case refine_1.refine_1 => exact kB hK (by simp [zq, h])
 have hok : zq c = (match wn c.lines.length c.arts [] with | some m => c.arts.all (zkb c m) | none => false) := by
  unfold zq; rw [hdf, h, decide_eq_true hsz.1, decide_eq_true hsz.2.1, decide_eq_true hsz.2.2]; rfl
 clear hdf
 refine zf [1, 3, 39, 40, 41] ?_
 refine zt c.arts (fun i (_ : List (Int × Int)) => [(1, .ptr 0 0), (3, .map 1), (39, .imm (xw c.arts)), (40, sI (c.arts.map Article.cells).length), (41, sI i)])
  (fun _ m => [.cells [.imm (zk c.facts), .imm (zk c.lines), .imm (xw c.arts)], .mapI .i64 (zby sI m)])
  (fun _ rest m => wn c.lines.length c.arts [] = wn c.lines.length rest m) [] rfl ?_ ?_
 ·rintro m h1
  simp only [wn] at h1
  rw [h1] at hok
  simp only at hok
  obtain ⟨hm, hlines⟩ := zld _ _ _ _ h1 (by intro k v h; simp [zo] at h)
  (refine zi ?_; conv => whnf)
  repeat' ((with_reducible refine way ?_ ?_) <;> (intro h; conv => whnf))
  all_goals try (exfalso; omega)
  refine zf [1, 8, 90, 91, 92] ?_
  refine zt c.arts (fun i (_ : Int) => [(1, .ptr 0 0), (8, .ptr 2 0), (90, .imm (xw c.arts)), (91, sI (c.arts.map Article.cells).length), (92, sI i)])
   (fun _ q => zeu c m q) (fun done rest _ => zq c = rest.all (zkb c m)) 0 hok ?_ ?_
  ·rintro q h2
   (refine zi ?_; conv => whnf)
   repeat' ((with_reducible refine way ?_ ?_) <;> (intro h; conv => whnf))
   all_goals try (exfalso; omega)
   exact kB hK (by rw [h2]; rfl)
  ·rintro done a rest q ha hl h2 ih
   have hmem : a ∈ c.arts := by rw [ha]; simp
   have hw := zm (n := done.length) (by omega)
   have hcall := zxt G c m hm a q (hlines a hmem) (hfit a hmem).1 (hfit a hmem).2
   obtain ⟨op, n, u, den, ps, ks, ham⟩ : ∃ op n u den ps ks, a.amount = .mk op n u den ps ks := by cases h : a.amount; exact ⟨_, _, _, _, _, _, rfl⟩
   have hrow : (c.arts.map Article.cells)[((done.length : Nat) : Int).toNat]? = some [dI a.number, dI a.line, dI a.rank, dI a.lo, dI a.hi, dI a.known, xb a.when_, dInts a.unless_, dI op, dI n, dS u, dI den, .isl 3 (ps.map Piece.cells), .isl 6 (zb ks)] := by
    simp [ha, Article.cells, ham, zp, Ex.op, Ex.n, Ex.unit, Ex.den, Ex.pieces, Ex.kids]
   rw [ydi ham] at hcall
   (refine zi ?_; conv => whnf)
   repeat' ((with_reducible refine way ?_ ?_) <;> (intro h; conv => whnf))
   all_goals try (exfalso; omega)
   refine zg rfl rfl  (row := [dI a.number, dI a.line, dI a.rank, dI a.lo, dI a.hi, dI a.known, xb a.when_, dInts a.unless_, dI op, dI n, dS u, dI den, .isl 3 (ps.map Piece.cells), .isl 6 (zb ks)]) hrow ?_
   (refine zj ?_; conv => whnf)
   refine ys 3 rfl rfl rfl rfl rfl rfl hcall ?_
   rintro r H1 ⟨rfl, q', rfl⟩ _
   cases hb : zkb c m a with
   | true =>
    (refine zj ?_; conv => whnf)
    rw [hw]
    exact yr [1, 8, 90, 91, 92] 3 (by simp [hH]) (by simp [zeu]) rfl (by simp [zeu, zmo]; exact ⟨rfl, rfl⟩) (ih q' (by rw [h2]; simp [hb]))
   | false =>
    (refine zj ?_; conv => whnf)
    exact kB hK (by rw [h2]; simp [hb])
 ·rintro done a rest m ha hl h1 ih
  have hw := zm (n := done.length) (by omega)
  obtain ⟨op, n, u, den, ps, ks, ham⟩ : ∃ op n u den ps ks, a.amount = .mk op n u den ps ks := by cases h : a.amount; exact ⟨_, _, _, _, _, _, rfl⟩
  have hrow : (c.arts.map Article.cells)[((done.length : Nat) : Int).toNat]? = some [dI a.number, dI a.line, dI a.rank, dI a.lo, dI a.hi, dI a.known, xb a.when_, dInts a.unless_, dI op, dI n, dS u, dI den, .isl 3 (ps.map Piece.cells), .isl 6 (zb ks)] := by
   simp [ha, Article.cells, ham, zp, Ex.op, Ex.n, Ex.unit, Ex.den, Ex.pieces, Ex.kids]
  simp only [wn] at h1
  have bad : wn c.lines.length c.arts [] = none -> zq c = false := fun h => by rw [hok, h]
  (refine zi ?_; conv => whnf)
  repeat' ((with_reducible refine way ?_ ?_) <;> (intro h; conv => whnf))
  all_goals try (exfalso; omega)
  refine zg rfl rfl  (row := [dI a.number, dI a.line, dI a.rank, dI a.lo, dI a.hi, dI a.known, xb a.when_, dInts a.unless_, dI op, dI n, dS u, dI den, .isl 3 (ps.map Piece.cells), .isl 6 (zb ks)]) hrow ?_
  (refine zj ?_; conv => whnf)
  repeat' ((with_reducible refine way ?_ ?_) <;> (intro h; conv => whnf))
  all_goals try exact kB hK (bad (by rw [h1, if_neg (by omega)]))
  rw [if_pos (by omega)] at h1
  cases hlk : zo a.number m with
  | none =>
   rw [hlk] at h1
   refine zik sI rfl rfl rfl rfl rfl rfl rfl rfl rfl (v := sI 0) (p := false) (by rw [hlk]; rfl) (by rw [hlk]; rfl) ?_
   (refine zj ?_; conv => whnf)
   refine zfv sI a.line rfl rfl rfl rfl rfl rfl rfl rfl rfl ?_
   (refine zj ?_; conv => whnf)
   rw [hw]
   exact yr [1, 3, 39, 40, 41] 2 (by simp [hH]) (by simp) rfl (by simp [zmo]; rfl) (ih _ h1)
  | some l =>
   rw [hlk] at h1
   refine zik sI rfl rfl rfl rfl rfl rfl rfl rfl rfl (v := sI l) (p := true) (by rw [hlk]; rfl) (by rw [hlk]; rfl) ?_
   (refine zj ?_; conv => whnf)
   repeat' ((with_reducible refine way ?_ ?_) <;> (intro h; conv => whnf))
   ·exact kB hK (bad (by rw [h1]; simp only; rw [if_neg h]))
   ·simp only at h1
    rw [if_pos h] at h1
    refine zfv sI a.line rfl rfl rfl rfl rfl rfl rfl rfl rfl ?_
    (refine zj ?_; conv => whnf)
    rw [hw]
    exact yr [1, 3, 39, 40, 41] 2 (by simp [hH]) (by simp) rfl (by simp [zmo]; rfl) (ih _ h1)
end Go.Proofs.YtblpjknmhajcgaaGreatDoor
namespace Go.Proofs
open Go.Shelf
open Go.RowKit in
def Tryz.lays189_ren : Go.Shelf.Ren := ⟨fun | 189 => 64 | 125 => 94 | 257 => 93 | 128 => 134 | 129 => 135 | 294 => 125 | 295 => 126 | 296 => 127 | 297 => 128 | 298 => 129 | 299 => 130 | 216 => 131 | 300 => 132 | 301 => 133 | 328 => 159 | 329 => 160 | 330 => 161 | 331 => 162 | 332 => 163 | 215 => 164 | 343 => 177 | n => n, fun | 28 => 26 | 3 => 3 | 46 => 139 | 0 => 0 | 51 => 179 | 53 => 181 | 4 => 4 | 183 => 172 | 182 => 171 | 131 => 94 | 5 => 5 | 9 => 9 | 218 => 197 | 222 => 201 | 228 => 209 | 229 => 47 | n => n, fun | n => n⟩
theorem Tryz.lays189 : Go.Proofs.Lays.n189 Tryz.prog Tryz.lays189_ren := {
  mixed := by kernel_rfl
  f125 := Tryz.func94.trans (congrArg some (by kernel_rfl))
  f128 := Tryz.func134.trans (congrArg some (by kernel_rfl))
  f129 := Tryz.func135.trans (congrArg some (by kernel_rfl))
  f189 := Tryz.func64.trans (congrArg some (by kernel_rfl))
  f215 := Tryz.func164.trans (congrArg some (by kernel_rfl))
  f216 := Tryz.func131.trans (congrArg some (by kernel_rfl))
  f257 := Tryz.func93.trans (congrArg some (by kernel_rfl))
  f294 := Tryz.func125.trans (congrArg some (by kernel_rfl))
  f295 := Tryz.func126.trans (congrArg some (by kernel_rfl))
  f296 := Tryz.func127.trans (congrArg some (by kernel_rfl))
  f297 := Tryz.func128.trans (congrArg some (by kernel_rfl))
  f298 := Tryz.func129.trans (congrArg some (by kernel_rfl))
  f299 := Tryz.func130.trans (congrArg some (by kernel_rfl))
  f300 := Tryz.func132.trans (congrArg some (by kernel_rfl))
  f301 := Tryz.func133.trans (congrArg some (by kernel_rfl))
  f328 := Tryz.func159.trans (congrArg some (by kernel_rfl))
  f329 := Tryz.func160.trans (congrArg some (by kernel_rfl))
  f330 := Tryz.func161.trans (congrArg some (by kernel_rfl))
  f331 := Tryz.func162.trans (congrArg some (by kernel_rfl))
  f332 := Tryz.func163.trans (congrArg some (by kernel_rfl))
  f343 := Tryz.func177.trans (congrArg some (by kernel_rfl))
  t0 := Tryz.underlying0
  a0 := Tryz.isAgg0
  z0 := Tryz.sizeOf0
  v0 := Tryz.zeroValue0
  t3 := Tryz.underlying3
  a3 := Tryz.isAgg3
  z3 := Tryz.sizeOf3
  v3 := Tryz.zeroValue3
  t4 := Tryz.underlying4
  a4 := Tryz.isAgg4
  z4 := Tryz.sizeOf4
  v4 := Tryz.zeroValue4
  t5 := Tryz.underlying5
  a5 := Tryz.isAgg5
  z5 := Tryz.sizeOf5
  v5 := Tryz.zeroValue5
  t9 := Tryz.underlying9
  a9 := Tryz.isAgg9
  z9 := Tryz.sizeOf9
  v9 := Tryz.zeroValue9
  t28 := Tryz.underlying26
  a28 := Tryz.isAgg26
  z28 := Tryz.sizeOf26
  v28 := Tryz.zeroValue26
  t46 := Tryz.underlying139
  a46 := Tryz.isAgg139
  z46 := Tryz.sizeOf139
  v46 := Tryz.zeroValue139
  t51 := Tryz.underlying179
  a51 := Tryz.isAgg179
  z51 := Tryz.sizeOf179
  v51 := Tryz.zeroValue179
  t53 := Tryz.underlying181
  a53 := Tryz.isAgg181
  z53 := Tryz.sizeOf181
  v53 := Tryz.zeroValue181
  t131 := Tryz.underlying94
  a131 := Tryz.isAgg94
  z131 := Tryz.sizeOf94
  v131 := Tryz.zeroValue94
  t182 := Tryz.underlying171
  a182 := Tryz.isAgg171
  z182 := Tryz.sizeOf171
  v182 := Tryz.zeroValue171
  t183 := Tryz.underlying172
  a183 := Tryz.isAgg172
  z183 := Tryz.sizeOf172
  v183 := Tryz.zeroValue172
  t218 := Tryz.underlying197
  a218 := Tryz.isAgg197
  z218 := Tryz.sizeOf197
  v218 := Tryz.zeroValue197
  t222 := Tryz.underlying201
  a222 := Tryz.isAgg201
  z222 := Tryz.sizeOf201
  v222 := Tryz.zeroValue201
  t228 := Tryz.underlying209
  a228 := Tryz.isAgg209
  z228 := Tryz.sizeOf209
  v228 := Tryz.zeroValue209
  t229 := Tryz.underlying47
  a229 := Tryz.isAgg47
  z229 := Tryz.sizeOf47
  v229 := Tryz.zeroValue47 }
open Go.Sort Go.RowKit in
theorem Tryz.slices_Sort_int (blk off cap : Nat) (zs : List Int) (w : World) (hH : Holds (Value.int .i64) w blk off zs.toArray) (hblk : blk < w.heap.size) (hsz : zs.length < 4611686018427387904) :
  Calls Tryz.prog 64 #[.slice (some ⟨blk, off, none⟩) zs.length cap] w fun e w' =>
   e = .returned (.tuple #[]) /\ ∃ n os, w' = grow (putRow (Value.int .i64) (Sort.ahead w n) blk off (zs.mergeSort fun x y => decide (x <= y)).toArray) os := Any.slices_Sort_int Tryz.lays189 blk off cap zs w hH hblk hsz
open Go.Lib in
open Go.Lib in
open Go.Lib in
open Go.Lib in
def Tryz.laysNm215_ren : Go.Shelf.Ren := ⟨fun | 15 => 63 | n => n, fun | 22 => 26 | 3 => 3 | 4 => 4 | n => n, fun | n => n⟩
theorem Tryz.laysNm215 : Go.Proofs.Lays2.n15 Tryz.prog Tryz.laysNm215_ren := {
  mixed := by kernel_rfl
  f15 := Tryz.func63.trans (congrArg some (by kernel_rfl))
  t3 := Tryz.underlying3
  a3 := Tryz.isAgg3
  z3 := Tryz.sizeOf3
  v3 := Tryz.zeroValue3
  t4 := Tryz.underlying4
  a4 := Tryz.isAgg4
  z4 := Tryz.sizeOf4
  v4 := Tryz.zeroValue4
  t22 := Tryz.underlying26
  a22 := Tryz.isAgg26
  z22 := Tryz.sizeOf26
  v22 := Tryz.zeroValue26
  i3 := by kernel_rfl }
open Go.RowKit Go.Lib in
theorem Tryz.slices_Clone_int (b off n c : Nat) (zs : List Int) (w : World) (hz : n <= zs.length) (hbig : n * 8 <= 140737488355328) (hc : ∀ j, j < zs.length -> w.cell? ⟨b, off + j, none⟩ = some (.int .i64 (zs.getD j 0))) :
  Calls Tryz.prog 63 #[.slice (some ⟨b, off, none⟩) n c] w fun e w' => ∃ v', e = .returned v' /\ w'.ownsRow w.heap.size 3 1 v' n ((zs.take n).map (Value.int .i64)) /\ v' ≠ .slice none 0 0 /\ Below w.heap.size w w' := Any.slices_Clone_int Tryz.laysNm215 b off n c zs w hz hbig hc
open Go.RowKit Go.Lib in
theorem Tryz.slices_Clone_int_nil (n c : Nat) (w : World) :
  Calls Tryz.prog 63 #[.slice none n c] w fun e w' => e = .returned (.slice none 0 0) /\ w' = w := Any.slices_Clone_int_nil Tryz.laysNm215 n c w
open Go.RowKit Go.Lib in
theorem Tryz.slices_Clone_int_zero (a : Addr) (c : Nat) (w : World) :
  Calls Tryz.prog 63 #[.slice (some a) 0 c] w fun e w' => ∃ v', e = .returned v' /\ w'.ownsRow w.heap.size 3 1 v' 0 [] /\ v' ≠ .slice none 0 0 /\ Below w.heap.size w w' := Any.slices_Clone_int_zero Tryz.laysNm215 a c w
def Tryz.laysNm220_ren : Go.Shelf.Ren := ⟨fun | 20 => 65 | n => n, fun | 22 => 26 | 3 => 3 | 4 => 4 | 0 => 0 | n => n, fun | n => n⟩
theorem Tryz.laysNm220 : Go.Proofs.Lays2.n20 Tryz.prog Tryz.laysNm220_ren := {
  mixed := by kernel_rfl
  f20 := Tryz.func65.trans (congrArg some (by kernel_rfl))
  t0 := Tryz.underlying0
  a0 := Tryz.isAgg0
  z0 := Tryz.sizeOf0
  v0 := Tryz.zeroValue0
  t3 := Tryz.underlying3
  a3 := Tryz.isAgg3
  z3 := Tryz.sizeOf3
  v3 := Tryz.zeroValue3
  t4 := Tryz.underlying4
  a4 := Tryz.isAgg4
  z4 := Tryz.sizeOf4
  v4 := Tryz.zeroValue4
  t22 := Tryz.underlying26
  a22 := Tryz.isAgg26
  z22 := Tryz.sizeOf26
  v22 := Tryz.zeroValue26
  i3 := by kernel_rfl }
open Go.RowKit Go.Lib Go.Sort in
open Go.RowKit Go.Lib Go.Sort in
theorem Tryz.slices_Compact_int (blk off cap : Nat) (zs : List Int) (w : World) (hH : Holds (Value.int .i64) w blk off zs.toArray) (hsz : zs.length <= 9223372036854775807) (hcap : zs.length <= cap) :
  Calls Tryz.prog 65 #[.slice (some ⟨blk, off, none⟩) zs.length cap] w fun e w' => e = .returned (.slice (some ⟨blk, off, none⟩) (Lib.compact zs).length cap) /\ ∃ q, w' = putRow (Value.int .i64) (Sort.ahead w q) blk off (Lib.compact zs ++ List.replicate (zs.length - (Lib.compact zs).length) 0).toArray := Any.slices_Compact_int Tryz.laysNm220 blk off cap zs w hH hsz hcap
open Go.RowKit Go.Lib Go.Sort in
theorem Tryz.slices_Compact_int_empty (a : Option Addr) (cap : Nat) (w : World) :
  Calls Tryz.prog 65 #[.slice a 0 cap] w fun e w' => e = .returned (.slice a 0 cap) /\ w' = w := Any.slices_Compact_int_empty Tryz.laysNm220 a cap w
open Go.RowKit Go.Lib in
open Go.RowKit Go.Lib in
open Go.RowKit Go.Lib Go.Sort in
open Go.RowKit Go.Sort in
theorem Tryz.slices_Sort_int_none (p : Option Addr) (cap : Nat) (w : World) :
  Calls Tryz.prog 64 #[.slice p 0 cap] w fun e w' => e = .returned (.tuple #[]) /\ w' = w := Any.slices_Sort_int_none Tryz.lays189 p cap w
end Go.Proofs
namespace Go.Proofs.YtblpjknmhajcgaaGreatDoor
open Go Go.Sh
variable (G : List (Nat × D))
abbrev jf (l : List Int) : List Int := l.mergeSort fun x y => decide (x <= y)
def yjv : List (Int × Int) -> Int -> List (Int × Int)
 | [], _ => []
 | [r], x => [(r.1, x)]
 | r :: q :: l, x => r :: yjv (q :: l) x
def ysw (rs : List (Int × Int)) (b : Option View) (v : View) : List (Int × Int) :=
 match b with
 | some u => if u.same v then yjv rs (v.day + 1) else rs ++ [(v.day, v.day + 1)]
 | none => rs ++ [(v.day, v.day + 1)]
def runsOf (vs : List View) : List (Int × Int) := (vs.foldl (fun s v => (ysw s.1 s.2 v, some v)) (([], none) : List (Int × Int) × Option View)).1
theorem yal (k : Nat) (rows : List (List D)) (h : ∀ r ∈ rows, r.length = k) : qt k rows.flatten rows.length = rows := by
 induction rows with
 | nil => rfl
 | cons r rows ih =>
  have hr := h r (by simp)
  simp only [List.flatten_cons, List.length_cons, qt]
  rw [List.take_append_of_le_length (by omega), List.take_of_length_le (by omega), List.drop_append_of_le_length (by omega), List.drop_of_length_le (by omega), List.nil_append, ih (fun r hr => h r (by simp [hr]))]
def View.cs (v : View) : List SV := [sI v.day, .imm (xm v.has), .imm (dInts v.value), .imm (dInts v.arts)]
def bs (l : List UInt8) : ByteArray := ⟨l.toArray⟩
mutual
def wa : Ex -> Nat
 | .mk _ _ _ _ _ ks => yg ks + 1
def yg : List Ex -> Nat
 | [] => 0
 | k :: r => wa k + yg r
end
mutual
def zcb : Ex -> Nat
 | .mk _ _ _ _ _ ks => zbh ks + 1
def zbh : List Ex -> Nat
 | [] => 0
 | k :: r => max (zcb k) (zbh r)
end
theorem yfz (e : Ex) : 1 <= wa e := by cases e; simp [wa]
theorem zqn (a b : List Ex) : yg (a ++ b) = yg a + yg b := by
 induction a with
 | nil => simp [yg]
 | cons k a ih => simp [yg, ih]; omega
theorem zga (a : List Ex) : a.length <= yg a := by
 induction a with
 | nil => simp
 | cons k a ih => have := yfz k; simp [yg]; omega
theorem zqo {a : List Ex} {k : Ex} (h : k ∈ a) : wa k <= yg a := by
 induction a with
 | nil => cases h
 | cons x a ih =>
  rcases List.mem_cons.1 h with rfl | h
  ·simp [yg]
  ·have := ih h; simp [yg]; omega
theorem znr (a : List Ex) (n : Nat) : zbh a <= n ↔ ∀ k ∈ a, zcb k <= n := by
 induction a with
 | nil => simp [zbh]
 | cons x a ih => simp [zbh, Nat.max_le, ih]
def xr (n : Nat) (L : Int) : Int := if L <= 0 then 0 else if (n : Int) <= L then n else L
theorem zdj (n : Nat) (L : Int) (h : 0 < L) : ((n : Int) <= L /\ xr n L = n) \/ (L < n /\ xr n L = L) := by
 simp only [xr]
 rw [if_neg (by omega)]
 split <;> omega
theorem zxu (a s : Nat) (L : Int) (h0 : 0 < L) (h : xr (a + 1) L < L) : xr (a + 1) L + xr s (L - xr (a + 1) L) = xr (a + s + 1) L /\ xr (a + 1) L = ((a + 1 : Nat) : Int) /\ xr (a + s + 1) L <= L /\ 0 <= xr (a + s + 1) L := by
 have h1 := zdj (a + 1) L h0
 have h2 := zdj s (L - xr (a + 1) L) (by omega)
 have h3 := zdj (a + s + 1) L h0
 omega
theorem yga (N : Nat) : ∀ (e : Ex), SizeOf.sizeOf e < N -> ∀ L : Int, 0 <= L -> L <= 1000000 -> yb Tryz.prog G 92 [e.sv, sI L] (sI (xr (wa e) L)) := by
 induction N with
 | zero => intro e h; omega
 | succ N IH =>
 intro e he L hL0 hL
 obtain ⟨op, n, u, den, ps, ks⟩ := e
 simp only [Ex.mk.sizeOf_spec] at he
 have hrows := zp ks
 have hlen : (zb ks).length = ks.length := by rw [hrows]; simp
 refine ze Tryz.func92 rfl (by rw [Tryz.ntmps92]; simp) rfl rfl ?_; intro E hH hK
 (refine zi ?_; conv => whnf)
 repeat' ((with_reducible refine way ?_ ?_) <;> (intro h; conv => whnf))
 ·exact kI hK (by simp only [xr]; rw [if_pos h])
 refine zf [1, 2, 5, 6] ?_
 refine xy (σ := List Ex × List Ex × Int) (fun x => [(1, sI L), (2, .ptr 0 0), (5, sI x.2.2), (6, sI x.1.length)])
  (fun _ => [.cells ((Ex.mk op n u den ps ks).cells.map .imm)])
  (fun x => ks = x.1 ++ x.2.1 /\ (x.1.length : Int) <= L /\ x.2.2 = xr (yg x.1 + 1) L) (fun x => x.2.1.length) ?_ ([], ks, 1) ⟨rfl, by simp; omega, by have := zdj (0 + 1) L (by omega); simp only [yg]; omega⟩
 rintro ⟨done, rest, cnt⟩ ⟨ha, hl, hcnt⟩ ih
 dsimp only at ha hl hcnt ih ⊢
 subst hcnt
 have hl1 : done.length + rest.length = ks.length := by rw [ha]; simp
 have hsz : yg ks = yg done + yg rest := by rw [ha, zqn]
 have hdl := zga done
 have hfin : ∀ H, (rest = [] \/ L <= xr (yg done + 1) L) -> E.K (sI (xr (yg done + 1) L)) H := fun H hc => by
  have : xr (wa (.mk op n u den ps ks)) L = xr (yg done + 1) L := by
   simp only [wa, hsz]
   rcases hc with rfl | hc
   ·simp [yg]
   ·revert hc
    simp only [xr]
    split
    ·intro hc; rfl
    ·split <;> split <;> intros <;> omega
  rw [this] at hK
  exact hK H
 cases rest with
 | nil =>
  simp at hl1
  (refine zi ?_; conv => whnf)
  repeat' ((with_reducible refine way ?_ ?_) <;> (intro h; conv => whnf))
  all_goals try (exfalso; omega)
  exact hfin _ (.inl rfl)
 | cons k rest =>
  simp at hl1
  have hkm : SizeOf.sizeOf k < SizeOf.sizeOf ks := List.sizeOf_lt_of_mem (by rw [ha]; simp)
  have hrow : (zb ks)[((done.length : Nat) : Int).toNat]? = some k.cells := by rw [hrows]; simp [ha]
  have hcc : 0 < L -> 1 <= xr (yg done + 1) L /\ xr (yg done + 1) L <= L := fun h0 => by
   simp only [xr]
   split
   ·omega
   ·split <;> omega
  (refine zi ?_; conv => whnf)
  repeat' ((with_reducible refine way ?_ ?_) <;> (intro h; conv => whnf))
  all_goals try (exfalso; omega)
  ·have h3 := hcc (by omega)
   have hw1 : IntKind.i64.wrap (L - xr (yg done + 1) L) = L - xr (yg done + 1) L := wo (by omega) (by omega)
   have hw : IntKind.i64.wrap ((done.length : Int) + 1) = (((done ++ [k]).length : Nat) : Int) := by rw [wo (by omega) (by omega)]; simp
   obtain ⟨o1, n1, u1, d1, p1, q1⟩ := k
   refine zg rfl rfl  (row := (Ex.mk o1 n1 u1 d1 p1 q1).cells) hrow ?_
   (refine zj ?_; conv => whnf)
   rw [hw1]
   refine zd rfl  (IH (.mk o1 n1 u1 d1 p1 q1) (by omega) (L - xr (yg done + 1) L) (by omega) (by omega)) ?_
   (refine zj ?_; conv => whnf)
   have hst := zxu (yg done) (wa (.mk o1 n1 u1 d1 p1 q1)) L (by omega) (by assumption)
   have e1 : yg (done ++ [Ex.mk o1 n1 u1 d1 p1 q1]) = yg done + wa (.mk o1 n1 u1 d1 p1 q1) := by rw [zqn]; simp [yg]
   have hsum : IntKind.i64.wrap (xr (yg done + 1) L + xr (wa (.mk o1 n1 u1 d1 p1 q1)) (L - xr (yg done + 1) L)) = xr (yg (done ++ [.mk o1 n1 u1 d1 p1 q1]) + 1) L := by
    rw [hst.1, e1, wo (by omega) (by omega)]
   rw [hsum, hw]
   refine yr [1, 2, 5, 6] 1 (by simp [hH]) (by simp) rfl rfl (ih (done ++ [Ex.mk o1 n1 u1 d1 p1 q1], rest, xr (yg (done ++ [Ex.mk o1 n1 u1 d1 p1 q1]) + 1) L) ⟨by simp [ha], ?_, rfl⟩ (by simp))
   have h9 := hst.2.1
   simp
   omega
  ·exact hfin _ (.inr (by omega))
theorem zmp (e : Ex) (L : Int) (h0 : 0 <= L) (h1 : L <= 999999) : yb Tryz.prog G 62 [e.sv, sI L] (sB (decide ((wa e : Int) <= L))) := by
 have hc := yga G (SizeOf.sizeOf e + 1) e (by omega) (L + 1) (by omega) (by omega)
 obtain ⟨op, n, u, den, ps, ks⟩ := e
 refine ze Tryz.func62 rfl (by rw [Tryz.ntmps62]; simp) rfl rfl ?_; intro E hH hK
 have hw : IntKind.i64.wrap (L + 1) = L + 1 := wo (by omega) (by omega)
 (refine zi ?_; conv => whnf)
 rw [hw]
 refine zd rfl  hc ?_
 (refine zj ?_; conv => whnf)
 exact kB hK (decide_eq_decide.2 (by
  simp only [xr]
  rw [if_neg (by omega)]
  split <;> omega))
theorem yjw (N : Nat) : ∀ (e : Ex), SizeOf.sizeOf e < N -> wa e <= 1000 -> ∀ L : Int, 0 <= L -> L <= 1000000 -> yb Tryz.prog G 117 [e.sv, sI L] (sB (decide ((zcb e : Int) <= L))) := by
 induction N with
 | zero => intro e h; omega
 | succ N IH =>
 intro e he hs L hL0 hL
 obtain ⟨op, n, u, den, ps, ks⟩ := e
 simp only [Ex.mk.sizeOf_spec] at he
 simp only [wa] at hs
 have hrows := zp ks
 have hlen : (zb ks).length = ks.length := by rw [hrows]; simp
 have hkl := zga ks
 refine ze Tryz.func117 rfl (by rw [Tryz.ntmps117]; simp) rfl rfl ?_; intro E hH hK
 (refine zi ?_; conv => whnf)
 repeat' ((with_reducible refine way ?_ ?_) <;> (intro h; conv => whnf))
 ·exact kB hK (decide_eq_false (by simp only [zcb]; omega))
 have hw1 : IntKind.i64.wrap (L - 1) = L - 1 := wo (by omega) (by omega)
 refine zf [1, 2, 5] ?_
 refine zt ks (fun i (_ : Unit) => [(1, sI L), (2, .ptr 0 0), (5, sI i)]) (fun _ _ => [.cells ((Ex.mk op n u den ps ks).cells.map .imm)])
  (fun done _ _ => zbh done <= (L - 1).toNat) () (by simp [zbh]) ?_ ?_
 ·rintro _ h1
  (refine zi ?_; conv => whnf)
  repeat' ((with_reducible refine way ?_ ?_) <;> (intro h; conv => whnf))
  all_goals try (exfalso; omega)
  exact kB hK (decide_eq_true (by simp only [zcb]; omega))
 ·rintro done k rest _ ha hl h1 ih
  have hkm : SizeOf.sizeOf k < SizeOf.sizeOf ks := List.sizeOf_lt_of_mem (by rw [ha]; simp)
  have hks : wa k <= yg ks := zqo (by rw [ha]; simp)
  have hw := zm (n := done.length) (by omega)
  have hrow : (zb ks)[((done.length : Nat) : Int).toNat]? = some k.cells := by rw [hrows]; simp [ha]
  have hcall := IH k (by omega) (by omega) (L - 1) (by omega) (by omega)
  have hbad : ¬ ((zcb k : Int) <= L - 1) -> decide ((zcb (.mk op n u den ps ks) : Int) <= L) = false := fun hb => by
   refine decide_eq_false ?_
   simp only [zcb]
   intro hc
   have := (znr ks (L - 1).toNat).1 (by omega) k (by rw [ha]; simp)
   omega
  have hgood : (zcb k : Int) <= L - 1 -> zbh (done ++ [k]) <= (L - 1).toNat := fun hb => by
   rw [znr] at h1 ⊢
   intro x hx
   rcases List.mem_append.1 hx with hx | hx
   ·exact h1 x hx
   ·simp at hx; subst hx; omega
  obtain ⟨o1, n1, u1, d1, p1, q1⟩ := k
  (refine zi ?_; conv => whnf)
  repeat' ((with_reducible refine way ?_ ?_) <;> (intro h; conv => whnf))
  all_goals try (exfalso; omega)
  refine zg rfl rfl  (row := (Ex.mk o1 n1 u1 d1 p1 q1).cells) hrow ?_
  (refine zj ?_; conv => whnf)
  rw [hw1]
  refine zd rfl  hcall ?_
  (refine zj ?_; conv => whnf)
  repeat' ((with_reducible refine way ?_ ?_) <;> (intro h; conv => whnf))
  ·exact kB hK (hbad h)
  ·rw [hw]
   exact yr [1, 2, 5] 1 (by simp [hH]) (by simp) rfl rfl (ih () (hgood h))
def zcn (e : Ex) : Bool := decide (wa e <= 400) && decide (zcb e <= 40)
theorem zvc (e : Ex) : yb Tryz.prog G 83 [e.sv] (sB (zcn e)) := by
 have hs := zmp G e 400 (by omega) (by omega)
 have hf := fun h => yjw G (SizeOf.sizeOf e + 1) e (by omega) h 40 (by omega) (by omega)
 have hw : zcn e = (decide ((wa e : Int) <= 400) && decide ((zcb e : Int) <= 40)) := by
  simp only [zcn]
  congr 1
  ·exact decide_eq_decide.2 (by omega)
  ·exact decide_eq_decide.2 (by omega)
 rw [hw]
 obtain ⟨op, n, u, den, ps, ks⟩ := e
 refine ze Tryz.func83 rfl (by rw [Tryz.ntmps83]; simp) rfl rfl ?_; intro E hH hK
 (refine zi ?_; conv => whnf)
 refine zd rfl  hs ?_
 (refine zj ?_; conv => whnf)
 repeat' ((with_reducible refine way ?_ ?_) <;> (intro h; conv => whnf))
 ·refine zd rfl  (hf (by omega)) ?_
  (refine zj ?_; conv => whnf)
  exact kB hK (by simp only [decide_eq_true h, Bool.true_and])
 ·exact kB hK (by simp only [decide_eq_false h, Bool.false_and])
theorem zgb (m : Nat) : 28 <= lenOf m /\ lenOf m <= 31 := by
 unfold lenOf znp
 split
 ·omega
 ·split
  ·split <;> omega
  ·omega
theorem zdn : ∀ {m n : Nat}, m <= n -> zw m + 28 * ((n : Int) - m) <= zw n
 | m, 0, h => by
  have : m = 0 := by omega
  subst this
  omega
 | m, n + 1, h => by
  by_cases e : m = n + 1
  ·subst e
   omega
  ·have := zdn (m := m) (n := n) (by omega)
   have h2 := zgb n
   have h3 : zw (n + 1) = zw n + lenOf n := rfl
   omega
theorem zxv (M : Nat) : ∀ n : Nat, ((List.range n).filter fun m => decide (m < M)).length = min n M
 | 0 => by simp
 | n + 1 => by
  rw [List.range_succ, List.filter_append, List.length_append, zxv M n]
  by_cases h : n < M
  ·simp [h]; omega
  ·simp [h]; omega
def zmq (d : Int) : Nat := ((List.range 1200).filter fun m => decide (zw (m + 1) <= d)).length
theorem ygb {M : Nat} {d : Int} (hM : M <= 1200) (h1 : zw M <= d) (h2 : d < zw (M + 1)) : zmq d = M := by
 have : (List.range 1200).filter (fun m => decide (zw (m + 1) <= d)) = (List.range 1200).filter fun m => decide (m < M) := by
  refine List.filter_congr fun m _ => decide_eq_decide.2 ⟨fun h => ?_, fun h => ?_⟩
  ·rcases Nat.lt_or_ge m M with h' | h'
   ·exact h'
   ·have := zdn (m := M + 1) (n := m + 1) (by omega)
    omega
  ·have := zdn (m := m + 1) (n := M) (by omega)
   omega
 rw [zmq, this, zxv]
 omega
theorem zek : zw 1200 = 36525 := by
 rw [<- zlb 1200 (by omega)]
 decide
theorem zns (q : Nat) (h : q <= 25) : zw (48 * q) = 1461 * q := by
 rw [<- zlb (48 * q) (by omega)]
 unfold zvb
 rw [show 48 * q % 12 = 0 by omega, show 48 * q / 12 = 4 * q by omega]
 simp [zqk]
 omega
def wt (d : Int) : Int × Int × Int :=
 if 0 <= d /\ d <= 36524 then (2000 + (zmq d / 12 : Nat), (zmq d % 12 : Nat) + 1, d - zw (zmq d) + 1) else (0, 0, 0)
theorem zle {d : Int} {y m : Nat} {r : Int} (hd : 0 <= d /\ d <= 36524) (hm : m < 12) (hr : 0 <= r) (h : zw (12 * y + m) + r = d) (hl : r < lenOf (12 * y + m)) : wt d = (2000 + (y : Int), (m : Int) + 1, r + 1) := by
 have h3 : zw (12 * y + m + 1) = zw (12 * y + m) + lenOf (12 * y + m) := rfl
 have hM : 12 * y + m <= 1200 := by
  rcases Nat.lt_or_ge 1200 (12 * y + m) with h' | h'
  ·have := zdn (m := 1200) (n := 12 * y + m) (by omega)
   rw [zek] at this
   omega
  ·exact h'
 have hmo : zmq d = 12 * y + m := ygb hM (by omega) (by omega)
 rw [wt, if_pos hd, hmo]
 have e1 : (12 * y + m) / 12 = y := by omega
 have e2 : (12 * y + m) % 12 = m := by omega
 rw [e1, e2]
 have e3 : d - zw (12 * y + m) + 1 = r + 1 := by omega
 rw [e3]
theorem ygc {d : Int} {y m : Nat} {r : Int} (hd : d <= 36524) (hr : 0 <= r) (h : zw (12 * y + m) + r = d) : 12 * y + m < 1200 := by
 rcases Nat.lt_or_ge (12 * y + m) 1200 with h' | h'
 ·exact h'
 ·have := zdn (m := 1200) (n := 12 * y + m) (by omega)
  rw [zek] at this
  omega
def zbi (d : Int) : Int := if 0 <= d /\ d <= 36524 then (d + 5).tmod 7 + 1 else 0
def inR (n : Int) : Bool := decide (-1000000000000 <= n) && decide (n <= 1000000000000)
def b2i (b : Bool) : Int := if b then 1 else 0
abbrev PV := Int × Bool
def noV : PV := (0, false)
def yus (a b : Int) : PV := if b ≠ 0 /\ Int.tdiv 1000000000000 (max b (-b)) < max a (-a) then noV else (a * b, true)
def yut (a b : Int) : PV := if b <= 0 then noV else (if a.tmod b < 0 then a.tdiv b - 1 else a.tdiv b, true)
def ypm (p den : Int) : Int :=
 let q := if p.tmod den < 0 then p.tdiv den - 1 else p.tdiv den
 let r := if p.tmod den < 0 then p.tmod den + den else p.tmod den
 if 2 * r = den then (if q.tmod 2 ≠ 0 then q + 1 else q) else if den < 2 * r then q + 1 else q
def ypn (cents num den : Int) : Int × Int :=
 if inR cents = false \/ num < -1000000 \/ 1000000 < num \/ den < 1 \/ 1000000 < den then (0, 1)
 else if inR (ypm (cents * num) den) then (ypm (cents * num) den, 0) else (0, 3)
def ynz (minutes cents : Int) : PV := ((ypn cents minutes 60).1, decide ((ypn cents minutes 60).2 = 0))
def yqq (ps : List Piece) (x : Int) : Option Piece := (ps.filter fun p => decide (p.lo <= x)).getLast?
def yqr (ps : List Piece) (x : Int) : Int := match yqq ps x with | some p => p.at_ + p.slope * (x - p.lo) | none => 0
def yqs (a b : Int) : Int := if a.tmod b < 0 then a.tdiv b - 1 else a.tdiv b
def ypo (den : Int) (ps : List Piece) (x : Int) : Int × Int :=
 if jp den ps = false \/ x < 0 \/ 1000000000000 < x then (0, 1)
 else
  let n := yqr ps x
  let q := yqs n den
  let t := 2 * (n - q * den)
  let r := if den < t \/ (t = den /\ q.tmod 2 ≠ 0) then q + 1 else q
  if inR r then (r, 0) else (0, 3)
def yuu (op a b : Int) : PV :=
 if op = 8 then (b2i (decide (a = b)), true) else if op = 9 then (b2i (decide (a < b)), true) else if op = 10 then (b2i (decide (a <= b)), true)
 else if op = 11 then (a + b, true) else if op = 12 then (a - b, true) else if op = 13 then yus a b else if op = 14 then yut a b else if op = 15 then ynz a b else noV
def yjx (and_ : Bool) (x y : PV) : PV :=
 if (x.2 && (decide (x.1 = 0) == and_)) || (y.2 && (decide (y.1 = 0) == and_)) then (b2i (!and_), true) else (b2i and_, x.2 && y.2)
def ysx (least : Bool) : Int -> List PV -> PV
 | acc, [] => (acc, true)
 | acc, x :: r => if x.2 then ysx least (if least then min acc x.1 else max acc x.1) r else noV
def yjy (least : Bool) : List PV -> PV
 | [] => noV
 | x :: r => if x.2 then ysx least x.1 r else noV
def ysy (V : View) (am : List (Int × Int)) (op n : Int) : PV :=
 if op = 1 then (n, true)
 else if op = 2 then
  (if n < 0 \/ (V.has.length : Int) <= n \/ (V.value.length : Int) <= n \/ V.has.getD n.toNat false = false then noV else (V.value.getD n.toNat 0, true))
 else if op = 3 then ((zo n am).getD 0, true)
 else if (wt V.day).1 = 0 then noV
 else if n = 1 then (zbi V.day, true) else if n = 2 then ((wt V.day).2.2, true) else if n = 3 then ((wt V.day).2.1, true) else if n = 4 then ((wt V.day).1, true) else noV
def yuv (op den : Int) (ps : List Piece) (a : Int) : PV :=
 if op = 5 then (b2i (decide (a = 0)), true) else ((ypo den ps (max a 0)).1, decide ((ypo den ps (max a 0)).2 = 0))
def yuw (V : View) (am : List (Int × Int)) (op n den : Int) (ps : List Piece) (vs : List PV) : PV :=
 if 1 <= op /\ op <= 4 then (if vs.length = 0 then ysy V am op n else noV)
 else if op = 16 \/ op = 17 then yjy (decide (op = 16)) vs
 else if op = 5 \/ op = 18 then (match vs with | [x] => if x.2 then yuv op den ps x.1 else noV | _ => noV)
 else match vs with
  | [x, y] => if op = 6 \/ op = 7 then yjx (decide (op = 6)) x y else if x.2 && y.2 then yuu op x.1 y.1 else noV
  | _ => noV
def yvw (x : PV) : PV := if x.2 && inR x.1 then x else noV
mutual
def yux (V : View) (am : List (Int × Int)) : Ex -> PV
 | .mk op n _ den ps ks => yvw (yuw V am op n den ps (ypp V am ks))
def ypp (V : View) (am : List (Int × Int)) : List Ex -> List PV
 | [] => []
 | e :: r => yux V am e :: ypp V am r
end
def Piece.key (p : Piece) : Int × Int × Int := (p.lo, p.at_, p.slope)
mutual
def zot : Ex -> Ex -> Bool
 | .mk op n u den ps ks, .mk op' n' u' den' ps' ks' => decide (op = op') && decide (n = n') && decide (u = u') && decide (den = den') && decide (ps.map Piece.key = ps'.map Piece.key) && zsg ks ks'
def zsg : List Ex -> List Ex -> Bool
 | [], [] => true
 | a :: r, b :: s => zot a b && zsg r s
 | [], _ :: _ => false
 | _ :: _, [] => false
end
def zol (list parts : List Ex) : Bool := parts.all fun p => list.any fun e => zot e p
def qf (c : Codex) (i : Int) : Option Article := if i < 0 then none else c.arts[i.toNat]?
def zar (c : Codex) (i j : Int) : Bool :=
 match qf c i, qf c j with
 | some x, some y =>
  if x.line ≠ y.line \/ x.number = y.number then false
  else if x.rank ≠ y.rank then decide (y.rank < x.rank)
  else if zol x.when_ y.when_ ≠ zol y.when_ x.when_ then zol x.when_ y.when_
  else decide (y.known < x.known)
 | _, _ => false
mutual
def zde : Ex -> List Int
 | .mk op n _ _ _ ks => (if op = 3 then [n] else []) ++ jj ks
def jj : List Ex -> List Int
 | [] => []
 | e :: r => zde e ++ jj r
end
def zcc (a : Article) : List Int := a.unless_ ++ jj a.when_ ++ zde a.amount
def zfc (c : Codex) (names : List Int) (v : Int) : List Article -> Nat -> List Int
 | [], _ => []
 | a :: r, i => (if a.number ∈ names \/ zar c i v = true then [(i : Int)] else []) ++ zfc c names v r (i + 1)
def xt (c : Codex) (v : Int) : List Int := match qf c v with | some a => zfc c (zcc a) v c.arts 0 | none => []
def zv (c : Codex) : List (List Int) := (List.range c.arts.length).map fun (i : Nat) => xt c i
structure Efct where
 art : Int
 state : Int
 by_ : Int
 amount : Int
def Efct.cells (e : Efct) : List D := [dI e.art, dI e.state, dI e.by_, dI e.amount]
def Efct.sv (e : Efct) : SV := .agg [sI e.art, sI e.state, sI e.by_, sI e.amount]
theorem zsz (c : Codex) (names : List Int) (v : Int) : ∀ (l : List Article) (i : Nat) (x : Int), x ∈ zfc c names v l i ↔ ∃ j : Nat, ∃ a, l[j]? = some a /\ x = ((i + j : Nat) : Int) /\ (a.number ∈ names \/ zar c x v = true)
 | [], i, x => by simp [zfc]
 | a :: r, i, x => by
  simp only [zfc, List.mem_append, zsz c names v r (i + 1) x]
  constructor
  ·rintro (h | ⟨j, b, h1, h2, h3⟩)
   ·split at h
    ·rename_i hv
     simp at h
     subst h
     exact ⟨0, a, by simp, by simp, hv⟩
    ·cases h
   ·exact ⟨j + 1, b, by simpa using h1, by rw [h2]; congr 1; omega, h3⟩
  ·rintro ⟨j, b, h1, h2, h3⟩
   cases j with
   | zero =>
    left
    simp only [List.getElem?_cons_zero, Option.some.injEq] at h1
    subst h1
    simp only [Nat.add_zero] at h2
    subst h2
    rw [if_pos h3]
    simp
   | succ j =>
    right
    exact ⟨j, b, by simpa using h1, by rw [h2]; congr 1; omega, h3⟩
theorem zlf {c : Codex} {i : Int} {a : Article} (h : qf c i = some a) : ∃ j : Nat, i = j /\ c.arts[j]? = some a := by
 unfold qf at h
 split at h
 ·cases h
 ·exact ⟨i.toNat, by omega, h⟩
theorem ydj {c : Codex} {j : Nat} {a : Article} (h : c.arts[j]? = some a) : qf c (j : Int) = some a := by
 unfold qf
 rw [if_neg (by omega)]
 simpa using h
theorem yam {c : Codex} {v : Int} {a : Article} (ha : qf c v = some a) (x : Int) : x ∈ xt c v ↔ ∃ b, qf c x = some b /\ (b.number ∈ zcc a \/ zar c x v = true) := by
 unfold xt
 rw [ha]
 simp only
 rw [zsz]
 constructor
 ·rintro ⟨j, b, h1, h2, h3⟩
  rw [Nat.zero_add] at h2
  subst h2
  exact ⟨b, ydj h1, h3⟩
 ·rintro ⟨b, h1, h2⟩
  obtain ⟨j, rfl, h3⟩ := zlf h1
  exact ⟨j, b, h3, by simp, h2⟩
structure Opd where
 op : Int
 n : Int
inductive Cond where
 | none
 | plain (o : Opd)
 | cmp (op : Int) (l r : Opd)
 | neg (c : Cond)
 | conn (d : Int) (l r : Cond)
def iv (n : Int) : D := .val (.int .i64 n)
def Cond.d : Cond -> D
 | .none => .val .nilIface
 | .plain o => .iface 143 (.agg [iv o.op, iv o.n])
 | .cmp op l r => .iface 152 (.agg [iv op, iv l.op, iv l.n, iv r.op, iv r.n])
 | .neg c => .iface 146 (.agg [c.d])
 | .conn d l r => .iface 148 (.agg [iv d, l.d, r.d])
structure St where
 p : Int × Int × Int × Int × Int
 ch : List Bool
 vs : List Int
def St.part (s : St) (i : Int) : Int := if i = 0 then s.p.1 else if i = 1 then s.p.2.1 else if i = 2 then s.p.2.2.1 else if i = 3 then s.p.2.2.2.1 else s.p.2.2.2.2
def Opd.val (o : Opd) (s : St) : Int × Bool :=
 if o.op = 2 then (s.vs.getD o.n.toNat 0, s.ch.getD o.n.toNat false) else if o.op = 4 then (s.part o.n, true) else (o.n, true)
def Opd.ok (n : Nat) (o : Opd) : Prop := (o.op = 2 -> 0 <= o.n /\ o.n < n) /\ (o.op = 4 -> 0 <= o.n /\ o.n <= 4)
def zjn (b : Bool) : Int := if b then 1 else 0
def zsh (op a b : Int) : Bool := if op = 9 then decide (a < b) else if op = 10 then decide (a <= b) else decide (a = b)
def Cond.dec (s : St) : Cond -> Int
 | .none => 2
 | .plain o => if (o.val s).2 then zjn (!decide ((o.val s).1 = 0)) else 2
 | .cmp op l r => if (l.val s).2 && (r.val s).2 then zjn (zsh op (l.val s).1 (r.val s).1) else 2
 | .neg c => if c.dec s = 0 then 1 else if c.dec s = 1 then 0 else 2
 | .conn d l r => if l.dec s = d then l.dec s else if r.dec s = d \/ l.dec s ≠ 2 then r.dec s else 2
def Cond.ok (n : Nat) : Cond -> Prop
 | .none => False
 | .plain o => o.ok n
 | .cmp _ l r => l.ok n /\ r.ok n
 | .neg c => c.ok n
 | .conn _ l r => l.ok n /\ r.ok n
structure Sr where
 conds : List Cond
 atoms : List Cond
 dates : List Bool
 cands : List (Int × List Int)
def ww (vals : List Int) (v : Int) : List Int := if v <= 1000000000000 then (if v ∈ vals then vals else vals ++ [v]) else vals
def yan (m : List (Int × List Int)) (f : Int) (vs : List Int) : List (Int × List Int) := ains f (vs.foldl ww ((zo f m).getD [])) m
def Sr.cand (s : Sr) (f : Int) (vs : List Int) : Sr := { s with cands := yan s.cands f vs }
def Sr.date (s : Sr) (i : Int) : Sr := { s with dates := s.dates.set i.toNat true }
def xg : List Ex -> Sr -> Int -> Bool × Sr × Int
 | [], s, n => (true, s, n)
 | k :: r, s, n => if k.op = 1 then xg r s (n + 1) else if k.op = 4 then xg r (s.date k.n) n else if k.op = 2 then xg r s n else (false, s, n)
def cmpCand (s : Sr) (f c : Ex) : Sr := if f.op ≠ 2 then s else if f.unit = tT then s.cand f.n [0, 1] else s.cand f.n [0, c.n, c.n + 1]
def cmpOf (s : Sr) (op : Int) (kids : List Ex) : Cond × Bool × Sr :=
 match xg kids s 0 with
 | (false, s1, _) => (.none, false, s1)
 | (true, s1, n) => if n = 0 then (.none, false, s1) else match kids with
  | l :: r :: _ =>
   let s2 := cmpCand (cmpCand s1 l r) r l
   let c := Cond.cmp op ⟨l.op, l.n⟩ ⟨r.op, r.n⟩
   (c, true, if l.op = 4 \/ r.op = 4 then { s2 with atoms := s2.atoms ++ [c] } else s2)
  | _ => (.none, false, s1)
def simpleOf : Ex -> Sr -> Cond × Bool × Sr
 | .mk op n _ _ _ ks, s =>
  if op = 1 then (.plain ⟨1, n⟩, true, s)
  else if op = 2 then (.plain ⟨2, n⟩, true, s.cand n [0, 1])
  else if op = 8 \/ op = 9 \/ op = 10 then cmpOf s op ks
  else if op = 5 then match ks with
   | k :: _ => let r := simpleOf k s; (.neg r.1, r.2.1, r.2.2)
   | [] => (.none, false, s)
  else if op = 6 \/ op = 7 then match ks with
   | k :: l :: _ => let r := simpleOf k s; let q := simpleOf l r.2.2; (.conn (if op = 7 then 1 else 0) r.1 q.1, r.2.1 && q.2.1, q.2.2)
   | _ => (.none, false, s)
  else (.none, false, s)
def zdf : List Ex -> Sr -> Option Sr
 | [], s => some s
 | e :: r, s => match simpleOf e s with
  | (c, true, s1) => zdf r { s1 with conds := s1.conds ++ [c] }
  | (_, false, _) => none
def zag (c : Codex) : List Int -> Sr -> Option Sr
 | [], s => some s
 | v :: r, s => match qf c v with
  | some a => match zdf a.when_ s with
   | some s1 => zag c r s1
   | none => none
  | none => none
def sr0 : Sr := ⟨[], [], [false, false, false, false, false], []⟩
def zfd (m : List (Int × List Int)) : Int := m.foldl (fun p e => min (p * e.2.length) 4097) 1
def zr (vs : List Int) : List Int := Go.Lib.compact (vs.mergeSort fun x y => decide (x <= y))
def xc (c : Codex) (vs : List Int) : Option Sr :=
 match zag c (zr vs) sr0 with
 | some s => if zfd s.cands <= 4096 then some s else none
 | none => none
def xe (day : Int) : Int × Int × Int × Int × Int := (0, zbi day, (wt day).2.2, (wt day).2.1, (wt day).1)
def zah (s : St) : List Cond -> Int -> Int
 | [], r => r
 | c :: l, r => if c.dec s = 0 then 0 else if c.dec s = 2 then zah s l 2 else zah s l r
def zab (conds : List Cond) (s : St) : Int := zah s conds 1
def zmr (atoms : List Cond) (s : St) : ByteArray := (atoms.map fun a => 48 + a.dec s).foldl (fun r n => r.push (UInt8.ofNat n.toNat)) ByteArray.empty
def St.put (s : St) (f v : Int) : St := ⟨s.p, s.ch.set f.toNat true, s.vs.set f.toNat v⟩
def wx (conds : List Cond) : List (Int × List Int) -> St -> Option (List Int)
 | [], s => if zab conds s = 0 then none else some s.vs
 | (f, vals) :: rest, s => if zab conds s = 0 then none else vals.findSome? fun v => wx conds rest (s.put f v)
abbrev zdk (l : List Int) : List Int := l.mergeSort fun x y => decide (x <= y)
def zu (m : List (Int × List Int)) : List (Int × List Int) := (zdk (m.map (·.1))).map fun f => (f, zdk ((zo f m).getD []))
def yq (d : List Bool) : Int :=
 if d.getD 4 false then 36525 else if d.getD 1 false && (d.getD 2 false || d.getD 3 false) then 10227 else if d.getD 2 false || d.getD 3 false then 1461 else if d.getD 1 false then 7 else 1
def yj (c : Codex) (vs : List Int) : Int × Int := vs.foldl (fun r v => match qf c v with | some a => (max r.1 a.lo, min r.2 a.hi) | none => r) (0, 36525)
def st0 (nf : Nat) (day : Int) : St := ⟨xe day, List.replicate nf false, List.replicate nf 0⟩
def zcd (s : Sr) (nf : Nat) : Nat -> Int -> List ByteArray -> Option (Int × List Int)
 | 0, _, _ => none
 | n + 1, day, failed =>
  if zab s.conds (st0 nf day) = 0 then zcd s nf n (day + 1) failed
  else if zmr s.atoms (st0 nf day) ∈ failed then zcd s nf n (day + 1) failed
  else match wx s.conds (zu s.cands) (st0 nf day) with
   | some vs => some (day, vs)
   | none => zcd s nf n (day + 1) (failed ++ [zmr s.atoms (st0 nf day)])
def qw (c : Codex) (vers : List Int) (s : Sr) : Option View :=
 let fr := yj c vers
 let to := min fr.2 (fr.1 + yq s.dates)
 match zcd s c.facts.length (to - fr.1).toNat fr.1 [] with
 | some (day, vs) => some ⟨day, (List.range c.facts.length).map fun (i : Nat) => (zo (i : Int) s.cands).isSome, vs, vers⟩
 | none => none
def zqp : View := ⟨0, [], [], []⟩
def ye (c : Codex) (vs : List Int) : Option View :=
 if zq c && vs.all (fun v => decide (0 <= v) && decide (v < c.arts.length)) then
  match xc c vs with
  | some s => qw c (zr vs) s
  | none => none
 else none
def zgc (c : Codex) (i j : Int) : Bool :=
 match qf c i, qf c j with
 | some a, some b => decide (a.line = b.line) && !decide (a.number = b.number) && !zar c i j && !zar c j i && !decide (b.number ∈ a.unless_) && !decide (a.number ∈ b.unless_)
 | _, _ => false
def yao (n : Nat) : List (Int × Int) := (List.range n).flatMap fun (i : Nat) => ((List.range n).filter fun j => decide (i < j)).map fun (j : Nat) => ((i : Int), (j : Int))
def zce (c : Codex) : Option (Int × Int × View) :=
 if zq c then (yao c.arts.length).findSome? fun p => if zgc c p.1 p.2 then (ye c [p.1, p.2]).map fun v => (p.1, p.2, v) else none
 else none
def znt (c : Codex) : List Int :=
 if zq c then ((List.range c.arts.length).map fun (i : Nat) => (i : Int)).filter fun i => (xc c [i]).isSome && (ye c [i]).isNone
 else []
end Go.Proofs.YtblpjknmhajcgaaGreatDoor
namespace Go.Sh
section
variable {P : Program} {G : List (Nat × D)} {fn : Func} {rd : Bool} {E : En P G fn rd} {t : List (Nat × SV)} {K : List SObj} {k : List Item} {m : Nat} {all : Array Oper} {rest : List Oper} {done : List Eff} {o : Oper}
variable {H : List SObj}
theorem zms (b0 j kk : Nat) {cs : List SV} (hb : H[b0]? = some (.cells cs)) (hj : cs[j]? = some (.imm (.val (.slice none 0 0)))) (h : SW E k t (H.set b0 (.cells (cs.set j (.asl H.length kk []))) ++ [.tok kk 0])) : SW E k t H := by
 refine ⟨fun a w I β cs' hs => ?_⟩
 have hbl := lt_of_getElem? hb
 have hp := hs.heap.push (o := .tok kk 0) (x := .tok (.slice none 0 0)) (.inl ⟨rfl, rfl⟩) (fun b c hc => by cases hc)
 have he : Ext H.length w I β H w I (β ++ [.tok (.slice none 0 0)]) (H ++ [.tok kk 0]) := .push hs.heap (fun c hc => by cases hc)
 obtain ⟨x, hx⟩ : ∃ x, β[b0]? = some x := ⟨β[b0]'(by rw [hs.heap.len]; exact hbl), List.getElem?_eq_getElem _⟩
 have hob := hp.obj b0 (.cells cs) x (by rw [List.getElem?_append_left hbl]; exact hb) (by rw [List.getElem?_append_left (lt_of_getElem? hx)]; exact hx)
 cases x with
 | tok u => exact hob.elim
 | blk c =>
 obtain ⟨vs, T, a1, a2, a3, a4⟩ := hob
 have hnew : ObjOK w I (β ++ [.tok (.slice none 0 0)]) (.cells (cs.set j (.asl H.length kk []))) (.blk c) := by
  refine ⟨vs, T, a1, by simpa using a2, fun q hq hq' => ?_, a4⟩
  by_cases e : j = q
  ·subst e
   have hq2 : j < cs.length := by simpa using hq
   have hr := a3 j hq2 hq'
   have : cs[j] = .imm (.val (.slice none 0 0)) := by simpa [List.getElem?_eq_getElem hq2] using hj
   rw [this] at hr
   simp only [List.getElem_set_self]
   generalize vs[j] = v at hr
   cases hr with | imm hr =>
   cases hr with | val _ =>
   exact .asl H.length kk [] _ _ 0 (.islNil kk) (by rw [<- hs.heap.len]; simp) ⟨_, _, rfl⟩ (Nat.le_refl _) (fun _ => rfl)
  ·rw [List.getElem_set_ne e]
   exact a3 q (by simpa using hq) hq'
 obtain ⟨g1, g2⟩ := hp.changeB (m := H.length) (w' := w) (b := b0) (o := .cells cs) (o' := .cells (cs.set j (.asl H.length kk []))) (x := .blk c) (by rw [List.getElem?_append_left hbl]; exact hb) (by simp) (by rw [List.getElem?_append_left (lt_of_getElem? hx)]; exact hx) rfl (fun _ _ => rfl) rfl a4 hnew
 rw [List.set_append_left _ _ hbl] at g1 g2
 have hE := he.trans g2
 exact h.run a w I _ cs' ⟨g1, fun n => (hs.tmps n).ext (by rw [hs.heap.len]; exact hE), hs.size, hs.defers.ext hE, hs.ext.trans (hE.weaken hs.hlen), by have := hs.hlen; simp; omega⟩
end
section
variable {P : Program} {G : List (Nat × D)} {fn : Func} {rd : Bool} {E : En P G fn rd} {t : List (Nat × SV)} {H K : List SObj} {k : List Item} {m : Nat} {all : Array Oper} {rest : List Oper} {done : List Eff} {o : Oper}
def yqt (P : Program) (G : List (Nat × D)) (t : List (Nat × SV)) (o : Oper) (r : SV) : Prop :=
 ∀ (ρ : Operand -> Value) w I β, (∀ x ∈ o.op.operands, Rep w I β (ρ x) (zn G t x)) -> ∃ v, (execOp ρ o).run P w = .ok (.value v) w /\ Rep w I β v r
theorem yqu {r : SV} (hw : zy all t o.guard = some true) (hd : yf fn.ntmps o.dst = true) (hsem : yqt P G t o r)
  (h : SWe E m all rest k (wm t o.dst r) K (done ++ [⟨r, [], none⟩])) : SWe E m all (o :: rest) k t K done :=
 zbe (e := ⟨r, [], none⟩) ⟨hd, .inr ⟨hw, fun K' hl ha ρ w I β hH hdum hop => by
  obtain ⟨v, h1, h2⟩ := hsem ρ w I β hop
  exact .inl ⟨.value v, v, w, I, β, h1, .inl rfl, h2, ⟨hH, .refl, fun b y hb hy hne => ⟨y, hy, y.le_refl⟩, fun b hb _ => hb⟩⟩⟩⟩ h
theorem yap {r : SV} (hw : zy all t o.guard = some true) (hd : yf fn.ntmps o.dst = true) (hnd : ∀ c, o.op ≠ .defer c) (hsem : yqt P G t o r)
  (h : SWr E all rest k (wm t o.dst r) H) : SWr E all (o :: rest) k t H :=
 zan hw hd hnd (Nat.le_refl _) (fun ρ w I β hH hev => by
  obtain ⟨v, h1, h2⟩ := hsem ρ w I β (fun x _ => hev x)
  exact ⟨.value v, v, w, I, β, h1, .inl rfl, h2, hH, .refl⟩) h
end
section
variable {P : Program} {w : World}
theorem zqq {t : TypeId} {f0 f1 f2 : Field} {k0 k1 k2 : IntKind} {a b c a' b' c' : Int} {x y z : IntKind} (hu : P.underlying t = some (.struct #[f0, f1, f2])) (hs : P.stoodInHeld t = false)
  (hn0 : f0.name ≠ "_") (hn1 : f1.name ≠ "_") (hn2 : f2.name ≠ "_") (ho0 : f0.offset = 0) (ho1 : f1.offset = 1) (ho2 : f2.offset = 2)
  (hi0 : P.underlying f0.type = some (.int k0)) (hi1 : P.underlying f1.type = some (.int k1)) (hi2 : P.underlying f2.type = some (.int k2)) :
  (Op.equal t (.agg #[.int x a, .int y b, .int z c]) (.agg #[.int x a', .int y b', .int z c'])).run P w = .ok (decide (a = a') && (decide (b = b') && decide (c = c'))) w := by
 show (Op.equalIn (9998 + 1 + 1) t _ _).run P w = _
 generalize 9998 = n
 rw [Op.equalIn]
 simp only [Sem.run_bind, run_underlying hu, Result.andThen_ok]
 simp [hs, hn0, hn1, hn2, ho0, ho1, ho2, zat hi0 (cs := #[.int x a, .int y b, .int z c]) (off := 0) rfl, zat hi0 (cs := #[.int x a', .int y b', .int z c']) (off := 0) rfl,
  zat hi1 (cs := #[.int x a, .int y b, .int z c]) (off := 1) rfl, zat hi1 (cs := #[.int x a', .int y b', .int z c']) (off := 1) rfl,
  zat hi2 (cs := #[.int x a, .int y b, .int z c]) (off := 2) rfl, zat hi2 (cs := #[.int x a', .int y b', .int z c']) (off := 2) rfl, zdw hi0, zdw hi1, zdw hi2, program, zuv]
 by_cases h1 : a = a' <;> by_cases h2 : b = b' <;> by_cases h3 : c = c' <;> simp [h1, h2, h3]
end
section
variable {P : Program} {G : List (Nat × D)} {fn : Func} {rd : Bool} {E : En P G fn rd} {t : List (Nat × SV)} {H : List SObj} {k : List Item}
variable {all : Array Oper} {o : Oper} {rest : List Oper}
theorem zxw {w : World} {I : Imm} {β : List Bnd} {v : Value} {a b c : Int} (h : Rep w I β v (.agg [.imm (.val (.int .i64 a)), .imm (.val (.int .i64 b)), .imm (.val (.int .i64 c))])) : v = .agg #[.int .i64 a, .int .i64 b, .int .i64 c] := by
 cases h with
 | agg vs _ h1 h2 =>
  have key : ∀ (j : Nat) (h : j < vs.size) (x : Value) (hj : [SV.imm (.val (.int .i64 a)), SV.imm (.val (.int .i64 b)), SV.imm (.val (.int .i64 c))][j]? = some (.imm (.val x))), vs[j] = x := by
   intro j h x hj
   have h3 := h2 j (by rw [<- h1]; exact h) h
   rw [List.getElem?_eq_getElem (by rw [<- h1]; exact h)] at hj
   rw [Option.some.inj hj] at h3
   generalize vs[j] = v at h3
   cases h3 with | imm h3 => cases h3; rfl
  have hs : vs.size = 3 := by simpa using h1
  congr 1
  apply Array.ext (by simp [hs])
  intro i hi1 hi2
  have : i = 0 \/ i = 1 \/ i = 2 := by omega
  rcases this with rfl | rfl | rfl
  ·exact key 0 hi1 _ rfl
  ·exact key 1 hi1 _ rfl
  ·exact key 2 hi1 _ rfl
theorem ygd {ty ty' : TypeId} {x y : Operand} {f0 f1 f2 : Field} {k0 k1 k2 : IntKind} {a b c a' b' c' : Int} (hop : o.op = .binOp .neq ty x y ty')
  (hx : zn G t x = .agg [.imm (.val (.int .i64 a)), .imm (.val (.int .i64 b)), .imm (.val (.int .i64 c))]) (hy : zn G t y = .agg [.imm (.val (.int .i64 a')), .imm (.val (.int .i64 b')), .imm (.val (.int .i64 c'))])
  (hu : P.underlying ty = some (.struct #[f0, f1, f2])) (hs : P.stoodInHeld ty = false) (hn0 : f0.name ≠ "_") (hn1 : f1.name ≠ "_") (hn2 : f2.name ≠ "_") (ho0 : f0.offset = 0) (ho1 : f1.offset = 1) (ho2 : f2.offset = 2)
  (hi0 : P.underlying f0.type = some (.int k0)) (hi1 : P.underlying f1.type = some (.int k1)) (hi2 : P.underlying f2.type = some (.int k2)) (hg : P.eqGuardType P.depth ty = false) :
  yqt P G t o (.imm (.val (.bool (!(decide (a = a') && (decide (b = b') && decide (c = c'))))))) := by
 intro ρ w I β hev
 have hrx := hev x (by rw [hop]; simp [Op.operands])
 rw [hx] at hrx
 have hry := hev y (by rw [hop]; simp [Op.operands])
 rw [hy] at hry
 have ex := zxw hrx
 have ey := zxw hry
 obtain ⟨dst, op, type, pos, after, guard⟩ := o
 simp only at hop
 subst hop
 refine ⟨.bool (!(decide (a = a') && (decide (b = b') && decide (c = c')))), ?_, .imm (.val _)⟩
 simp only [execOp]
 rw [ex, ey]
 have hgd : (eqGuard .neq ty x y (.agg #[.int .i64 a, .int .i64 b, .int .i64 c]) (.agg #[.int .i64 a', .int .i64 b', .int .i64 c'])).run P w = .ok () w := by
  simp [eqGuard, program, hg, zuv]
 simp only [Sem.run_bind, hgd, Result.andThen_ok, binOp, zqq hu hs hn0 hn1 hn2 ho0 ho1 ho2 hi0 hi1 hi2, Sem.run_pure]
end
section
variable {P : Program} {G : List (Nat × D)} {fn : Func} {rd : Bool} {E : En P G fn rd} {t : List (Nat × SV)} {H K : List SObj} {k : List Item} {m : Nat} {all : Array Oper} {rest : List Oper} {done : List Eff} {o : Oper}
theorem zxx {nx : Nat} {r : SV} {ob : SObj} {w w' : World} {I I' : Imm} {β β1 : List Bnd} {v : Value} (hm : m <= nx) (hnx : K[nx]? = some .dead) (hH : HeapOK G w I β K) (hdum : β[nx]? = some qq) (h3 : Rep w' I' β1 v r)
  (h4 : HeapOK G w' I' β1 (K ++ [ob])) (h5 : Ext K.length w I β K w' I' β1 (K ++ [ob])) (hr : r.isNew K.length = true) (hob : ob.under K.length = true) :
  ∃ β', Rep w' I' β' v (r.mv K.length nx) /\ Gain G m w I β K (some (nx, ob)) w' I' β' := by
 have hnl := lt_of_getElem? hnx
 have hl1 : β1.length = K.length + 1 := by rw [h4.len]; simp
 have hl0 : β.length = K.length := hH.len
 have hkeep : Keeps K.length β β1 := h5.keep
 have hdum1 : β1[nx]? = some qq := hkeep.dummy hnl hdum
 obtain ⟨x, hx⟩ : ∃ x, β1[K.length]? = some x := ⟨β1[K.length]'(by omega), List.getElem?_eq_getElem _⟩
 have hlen2 : ((β1.take K.length).set nx x).length = K.length := by simp; omega
 have get2 : ∀ b, b ≠ nx -> b < K.length -> ((β1.take K.length).set nx x)[b]? = β1[b]? := fun b hne hlt => by
  rw [List.getElem?_set_ne (Ne.symm hne), List.getElem?_take, if_pos hlt]
 have getnx : ((β1.take K.length).set nx x)[nx]? = some x := List.getElem?_set_self (by simp; omega)
 have kd1 : KeepsD K.length β1 ((β1.take K.length).set nx x) := fun b y hb hy hne => by
  have hbn : b ≠ nx := by rintro rfl; rw [hdum1] at hy; cases hy; exact hne rfl
  exact ⟨y, by rw [get2 b hbn hb]; exact hy, y.le_refl⟩
 have kd0 : KeepsD β.length β ((β1.take K.length).set nx x) := fun b y hb hy hne => by
  rw [hl0] at hb
  obtain ⟨z, hz, hle⟩ := hkeep b y hb hy
  have hbn : b ≠ nx := by rintro rfl; rw [hdum] at hy; cases hy; exact hne rfl
  exact ⟨z, by rw [get2 b hbn hb]; exact hz, hle⟩
 have hown : ∀ b c, qj (K.set nx ob) ((β1.take K.length).set nx x) b c -> qj (K ++ [ob]) β1 (if b = nx then K.length else b) c := by
  rintro b c ⟨o, y, g1, g2, g3, g4⟩
  by_cases e : b = nx
  ·subst e
   rw [if_pos rfl]
   rw [List.getElem?_set_self hnl] at g1
   rw [getnx] at g3
   cases g1; cases g3
   exact ⟨ob, x, by simp, g2, hx, g4⟩
  ·rw [if_neg e]
   rw [List.getElem?_set_ne (Ne.symm e)] at g1
   have hlt := lt_of_getElem? g1
   rw [get2 b e hlt] at g3
   exact ⟨o, y, by rw [List.getElem?_append_left hlt]; exact g1, g2, g3, g4⟩
 have hheap : HeapOK G w' I' ((β1.take K.length).set nx x) (K.set nx ob) := by
  refine ⟨by simp; omega, fun b o y g1 g2 => ?_, fun b b' c g1 g2 => ?_, h4.inI, h4.glob⟩
  ·by_cases e : b = nx
   ·subst e
    rw [List.getElem?_set_self hnl] at g1
    rw [getnx] at g2
    cases g1; cases g2
    exact (h4.obj K.length ob x (by simp) hx).belowD hob kd1
   ·rw [List.getElem?_set_ne (Ne.symm e)] at g1
    have hlt := lt_of_getElem? g1
    rw [get2 b e hlt] at g2
    have hb1 : b < β.length := by omega
    have hob1 := h4.obj b o y (by rw [List.getElem?_append_left hlt]; exact g1) g2
    have hob0 := hH.obj b o _ g1 (List.getElem?_eq_getElem hb1)
    rcases hob0.under with hu | ⟨s, f, n', tt, ps, asg, bd, rfl⟩
    ·exact hob1.belowD (by rw [hl0] at hu; exact hu) kd1
    ·cases y with
     | tok u => exact hob1
     | blk c =>
      cases hbb : β[b] with
      | tok u => rw [hbb] at hob0; exact hob0.elim
      | blk c' =>
       rw [hbb] at hob0
       obtain ⟨r0, b1, b2, b3, b4, b5, b6, b7, b8, b9⟩ := hob0
       obtain ⟨r1, a1, a2, a3, a4, a5, a6, a7, a8, a9⟩ := hob1
       refine ⟨r1, a1, a2, a3, a4, a5, a6, a7, fun m' => ?_, a9⟩
       have hu := (b8 m').under
       rw [hl0] at hu
       exact (a8 m').monoD (fun _ _ h => h) (fun _ _ _ => rfl) kd1 hu
  ·have := h4.inj _ _ c (hown b c g1) (hown b' c g2)
   have l1 : b < K.length := by obtain ⟨o, y, g, _⟩ := g1; have := lt_of_getElem? g; simpa using this
   have l2 : b' < K.length := by obtain ⟨o, y, g, _⟩ := g2; have := lt_of_getElem? g; simpa using this
   split at this <;> split at this <;> omega
 refine ⟨(β1.take K.length).set nx x, ?_, hheap, ?_, kd0, fun b hb hne => ?_⟩
 ·cases r with
  | ptr c o =>
   have : c = K.length := by simpa [SV.isNew] using hr
   subst this
   simp only [SV.mv, if_true]
   cases h3 with
   | ptr _ c' _ hc => rw [hx] at hc; cases hc; exact .ptr nx c' o getnx
  | osl c o l =>
   have : c = K.length := by simpa [SV.isNew] using hr
   subst this
   simp only [SV.mv, if_true]
   cases h3 with
   | osl _ c' _ _ cap hc g1 g2 => rw [hx] at hc; cases hc; exact .osl nx c' o l cap getnx g1 g2
  | asl c kk rows =>
   have : c = K.length := by simpa [SV.isNew] using hr
   subst this
   simp only [SV.mv, if_true]
   cases h3 with
   | asl _ _ _ _ u n' hd hc g1 g2 g3 => rw [hx] at hc; cases hc; exact .asl nx kk rows v u n' hd getnx g1 g2 g3
  | map c =>
   have : c = K.length := by simpa [SV.isNew] using hr
   subst this
   simp only [SV.mv, if_true]
   cases h3 with
   | map _ c' hc => rw [hx] at hc; cases hc; exact .map nx c' getnx
  | _ => simp [SV.isNew] at hr
 ·refine ⟨h5.imm, h5.cell, fun b y hb hy => ?_, h5.old, fun b c ho => h5.own _ c (hown b c ho), h5.new, h5.size, h5.env⟩
  have hlt := lt_of_getElem? hy
  obtain ⟨z, hz, hle⟩ := hkeep b y (by omega) hy
  exact ⟨z, by rw [get2 b (by omega) (by omega)]; exact hz, hle⟩
 ·have hbn : b ≠ nx := fun e => hne ob (by rw [e])
  have hlt := lt_of_getElem? hb
  rw [get2 b hbn (by omega)]
  exact hkeep.dummy (by omega) hb
theorem zfe {b kk by_ e e' : Nat} {z : Value} {sx xx : Operand} {sT xT : Nat} {rows new : List (List D)} (hop : o.op = .call ⟨.builtin .append, #[sx, xx], #[sT, xT]⟩)
  (hw : zy all t o.guard = some true) (hd : yf fn.ntmps o.dst = true) (hs : zn G t sx = .asl b kk rows) (hx : (zn G t xx).rows = some (kk, new)) (hu : P.underlying sT = some (.slice e)) (hu' : P.underlying xT = some (.slice e'))
  (hk : wb P e = some kk) (hby : jk P e = some by_) (hz : je P e = some z) (hcond : by_ <= 65536 /\ z.cells.size = kk) (hm : m <= K.length) (hb : K[b]? = some (.tok kk rows.length)) (hlen : rows.length + new.length <= 1073741824)
  (h : SWe E m all rest k (wm t o.dst (.asl b kk (rows ++ new))) (K.set b (.tok kk (rows ++ new).length)) (done ++ [⟨.asl b kk (rows ++ new), [b], some (b, .tok kk (rows ++ new).length)⟩])) : SWe E m all (o :: rest) k t K done :=
 jn ⟨.asl b kk (rows ++ new), [b], some (b, .tok kk (rows ++ new).length)⟩ hw hd hm (fun K' _ ha => by
  have hb' : K'[b]? = some (.tok kk rows.length) := by rw [ha b (.inl (by simp))]; exact hb
  rw [hop, List.length_append]
  simp only [sop, zdg, List.map_cons, List.map_nil, zmf, hu, hu', hx, hk, hby, hz]
  rw [if_pos ⟨hcond.1, hcond.2, .inl trivial⟩]
  simp only [zdr, hs, hb']
  rw [if_pos ⟨trivial, trivial, trivial, hlen⟩]
  rfl) h
end
section
variable {P : Program} {G : List (Nat × D)} {fn : Func} {rd : Bool} {E : En P G fn rd} {t : List (Nat × SV)} {H K : List SObj} {k : List Item} {m : Nat} {all : Array Oper} {rest : List Oper} {done : List Eff} {o : Oper}
theorem xq {ty b off : Nat} {a : Operand} {cs : List SV} {v : SV} (hop : o.op = .load ty a) (hw : zy all t o.guard = some true) (hd : yf fn.ntmps o.dst = true) (ha : zn G t a = .ptr b off) (hb : H[b]? = some (.cells cs))
  (hv : zju P ty cs off = some v) (h : SWr E all rest k (wm t o.dst v) H) : SWr E all (o :: rest) k t H := by
 refine zas hw hd (r := v) ?_ (Nat.le_refl _) h
 rw [hop]
 have : ql P ty H (.ptr b off) = some v := by
  unfold ql
  simp only [hb, hv]
 simp only [sop, ha, this]
 rfl
end
section
variable {P : Program} {G : List (Nat × D)} {fn : Func} {rd : Bool} {E : En P G fn rd} {t : List (Nat × SV)} {H : List SObj} {k : List Item} {all : Array Oper} {rest : List Oper} {o : Oper}
theorem yjz {f : FuncId} {argv : List SV} (hw : zy all t o.guard = some true) (hd : yf fn.ntmps o.dst = true) (hnd : ∀ c, o.op ≠ .defer c)
  (hrun : ∀ (ρ : Operand -> Value) w I β, HeapOK G w I β H -> (∀ x, Rep w I β (ρ x) (zn G t x)) -> ∃ vs : Array Value, (execOp ρ o).run P w = .ok (.enter f vs) w /\ Reps w I β vs.toList argv)
  (hc : SCall P G f argv H (fun r H' => H.length <= H'.length /\ SWr E all rest k (wm t o.dst r) H')) : SWr E all (o :: rest) k t H := by
 refine ⟨fun j hj hdrop => ?_⟩
 obtain ⟨h1, ho, h3⟩ := qg hdrop
 rw [zbv h1]
 refine ⟨fun a w I β cs hs => ?_⟩
 have hwant := jl hw hs
 obtain ⟨vs, hr, hreps⟩ := hrun a.eval w I β hs.heap hs.eval
 obtain ⟨e, w', fr, hpost, hcomes, hfn, hleave⟩ := hc w I β _ hs.heap hreps (E.at a (.inRegion all (j :: (List.range all.size).drop (j + 1)) :: k) :: cs)
 obtain ⟨v, r, I', β', H', rfl, ⟨hl, hsw⟩, hv, hH', hext⟩ := hpost
 have hg := zcs (P := P) (b := E.base) (ro := E.ro) (k := k) (cs := cs) (w := w) (rest := (List.range all.size).drop (j + 1)) ho hwant (.inr hnd)
 have henter : step P (lone (E.at a (.inRegion all (j :: (List.range all.size).drop (j + 1)) :: k)) cs w) =
   .next (lone (Frame.enter P f vs .normal) (E.at a (.inRegion all (j :: (List.range all.size).drop (j + 1)) :: k) :: cs) w) :=
  step_lone_go (by unfold En.at; rw [hg]; simp [stepG.apply, hr, atR, Frame.at])
 have hfin : (E.at a (.inRegion all (j :: (List.range all.size).drop (j + 1)) :: k)).finish v = E.at (a.put o.dst v) (.inRegion all ((List.range all.size).drop (j + 1)) :: k) := by
  unfold En.at; rw [jx, ho]; rfl
 have hsteps : Steps P (lone (E.at a (.inRegion all (j :: (List.range all.size).drop (j + 1)) :: k)) cs w) (lone (E.at (a.put o.dst v) (.inRegion all ((List.range all.size).drop (j + 1)) :: k)) cs w') := by
  refine .head henter (Steps.trans hcomes (.one ?_))
  rw [<- hfin]
  exact step_leave_returned hleave
 exact .of_steps hsteps ((hsw.run (j + 1) h1 h3).run _ w' I' β' cs (hs.put hd hv hH' hext hl))
def SV.ifaceOf : SV -> Option (TypeId × SV)
 | .imm (.iface t d) => some (t, .imm d)
 | .iface t s => some (t, s)
 | _ => none
theorem Rep.ifaceOf {w : World} {I : Imm} {β : List Bnd} {v : Value} {s x : SV} {ty : TypeId} (h : Rep w I β v s) (hs : s.ifaceOf = some (ty, x)) : ∃ u, v = .iface ty u /\ Rep w I β u x := by
  cases h with
  | imm h => cases h <;> simp [SV.ifaceOf] at hs
             rename_i h; obtain ⟨rfl, rfl⟩ := hs; exact ⟨_, rfl, .imm h⟩
  | iface t v s h => simp [SV.ifaceOf] at hs; obtain ⟨rfl, rfl⟩ := hs; exact ⟨_, rfl, h⟩
  | _ => simp [SV.ifaceOf] at hs
def ydk (P : Program) (ty : TypeId) (name : String) : Option FuncId :=
 match P.info? ty with
 | some i => match i.methods.find? (·.name == name) with
  | some m => match m.path.toList, m.func, P.underlying ty with
   | [], some (f, false), some (.struct _) => some f
   | _, _, _ => none
  | none => none
 | none => none
theorem yge {ty : TypeId} {name : String} {f : FuncId} {v : Value} {w : World} {n : Nat} (h : ydk P ty name = some f) : (method (n + 1) ty v name).run P w = .ok (f, v) w := by
 unfold ydk at h
 split at h <;> first | (cases h; done) | skip
 rename_i i hi
 split at h <;> first | (cases h; done) | skip
 rename_i m hm
 split at h <;> first | (cases h; done) | skip
 rename_i f' fs hp hf hu
 cases h
 have hti : (typeInfo ty).run P w = .ok i w := by simp [typeInfo, program, Sem.run, hi]
 have hun : (underlying ty).run P w = .ok (.struct fs) w := run_underlying hu w
 simp only [method, Sem.run_bind, hti, Result.andThen_ok, hm, hp, follow, Sem.run_pure, hf, receiverAt, hun, Place.get]
theorem ygf {rx : Operand} {name : String} {args : Array Operand} {tys : Array TypeId} {ty : TypeId} {x : SV} {f : FuncId} (hop : o.op = .call ⟨.invoke rx name, args, tys⟩)
  (hw : zy all t o.guard = some true) (hd : yf fn.ntmps o.dst = true) (hx : (zn G t rx).ifaceOf = some (ty, x)) (hm : ydk P ty name = some f) (hb : qp P f = true)
  {argv : List SV} (hargs : x :: args.toList.map (zn G t) = argv)
  (hc : SCall P G f argv H (fun r H' => H.length <= H'.length /\ SWr E all rest k (wm t o.dst r) H')) : SWr E all (o :: rest) k t H := by
 refine yjz hw hd (fun c e => by rw [hop] at e; cases e) (fun ρ w I β hH hev => ?_) hc
 obtain ⟨u, hu, hr⟩ := (hev rx).ifaceOf hx
 subst hargs
 refine ⟨#[u] ++ args.map ρ, ?_, ?_⟩
 ·obtain ⟨dst, op, type, pos, after, guard⟩ := o
  simp only at hop
  subst hop
  have e0 : (#[Value.iface ty u] ++ args.map ρ)[0]? = some (.iface ty u) := by rw [Array.getElem?_append_left (by simp)]; rfl
  have e1 : (#[Value.iface ty u] ++ args.map ρ).extract 1 (#[Value.iface ty u] ++ args.map ρ).size = args.map ρ := by
   apply Array.ext'
   simp [List.take_of_length_le]
  simp only [execOp, resolve, Sem.run_bind, Sem.run_pure, Result.andThen_ok, invoke, hu, e0, e1, callMethod, program, zuv]
  rw [show P.types.size + Made.depth = (P.types.size + 99) + 1 from rfl, yge hm]
  simp only [Result.andThen_ok]
  exact jm hb
 ·have e2 : Reps w I β (args.map ρ).toList (args.toList.map (zn G t)) := by simpa using zei hev args.toList
  simpa using Reps.cons hr e2
def SV.asD : SV -> Option D
 | .imm d => some d
 | .agg cs => (asDL cs).map .agg
 | .iface t s => s.asD.map (.iface t)
 | _ => none
where asDL : List SV -> Option (List D)
 | [] => some []
 | s :: r => match s.asD, asDL r with
  | some d, some l => some (d :: l)
  | _, _ => none
theorem ydl : ∀ {cs : List SV} {ds : List D}, SV.asD.asDL cs = some ds -> ds.length = cs.length /\ ∀ j (h : j < cs.length) (h' : j < ds.length), (cs[j]'h).asD = some (ds[j]'h')
 | [], ds, h => by simp [SV.asD.asDL] at h; subst h; simp
 | s :: r, ds, h => by
  simp only [SV.asD.asDL] at h
  split at h <;> first | (cases h; done) | skip
  rename_i d l hd hl
  cases h
  obtain ⟨h1, h2⟩ := ydl hl
  refine ⟨by simp [h1], fun j hj hj' => ?_⟩
  cases j with
  | zero => exact hd
  | succ j => exact h2 j (by simpa using hj) (by simpa using hj')
theorem Rep.asD {w : World} {I : Imm} {β : List Bnd} {v : Value} {s : SV} (h : Rep w I β v s) : ∀ {d : D}, s.asD = some d -> DRep w I v d := by
 induction h with
 | imm h => intro d hd; simp [SV.asD] at hd; subst hd; exact h
 | iface t v s _ ih =>
  intro d hd
  simp only [SV.asD, Option.map_eq_some_iff] at hd
  obtain ⟨d', h1, rfl⟩ := hd
  exact .iface t v d' (ih h1)
 | agg vs cs h1 _ ih =>
  intro d hd
  simp only [SV.asD, Option.map_eq_some_iff] at hd
  obtain ⟨ds, h2, rfl⟩ := hd
  obtain ⟨h3, h4⟩ := ydl h2
  exact .agg vs ds (by omega) (fun j hj hj' => ih j (by omega) hj' (h4 j (by omega) hj))
 | _ => intro d hd; simp [SV.asD] at hd
theorem zcw {ty : TypeId} {x : Operand} {fs : Array Field} {d : D} (hop : o.op = .makeInterface ty x) (hw : zy all t o.guard = some true) (hd : yf fn.ntmps o.dst = true) (hu : P.underlying ty = some (.struct fs)) (hx : (zn G t x).asD = some d)
  (h : SWr E all rest k (wm t o.dst (.imm (.iface ty d))) H) : SWr E all (o :: rest) k t H := by
 refine yap hw hd (fun c e => by rw [hop] at e; cases e) (fun ρ w I β hev => ?_) h
 have hr := hev x (by rw [hop]; simp [Op.operands])
 obtain ⟨dst, op, type, pos, after, guard⟩ := o
 simp only at hop
 subst hop
 refine ⟨.iface ty (ρ x), ?_, .imm (.iface ty _ d (hr.asD hx))⟩
 simp [execOp, Instr.makeInterface, run_underlying hu]
theorem ygg {nx : Nat} {r : SV} {ob : SObj} {w w' : World} {I I' : Imm} {β β1 : List Bnd} {v : Value} (hnx : H[nx]? = some .free) (hH : HeapOK G w I β H) (h3 : Rep w' I' β1 v r)
  (h4 : HeapOK G w' I' β1 (H ++ [ob])) (h5 : Ext H.length w I β H w' I' β1 (H ++ [ob])) (hr : r.isNew H.length = true) (hob : ob.under H.length = true) :
  ∃ β', Rep w' I' β' v (r.mv H.length nx) /\ HeapOK G w' I' β' (H.set nx ob) /\ Ext H.length w I β H w' I' β' (H.set nx ob) := by
 have hnl := lt_of_getElem? hnx
 have hl1 : β1.length = H.length + 1 := by rw [h4.len]; simp
 have hl0 : β.length = H.length := hH.len
 have isFree : ∀ {β0 : List Bnd} {H0 : List SObj} {w0 I0}, HeapOK G w0 I0 β0 H0 -> H0[nx]? = some .free -> nx < β0.length -> β0[nx]? = some freeB := by
  intro β0 H0 w0 I0 h0 hf hlt
  have := h0.obj nx .free _ hf (List.getElem?_eq_getElem hlt)
  rw [List.getElem?_eq_getElem hlt]
  cases hx : β0[nx] with
  | blk c => rw [hx] at this; exact this.elim
  | tok u => rw [hx] at this; cases (this : u = .bool true); rfl
 have hf1 : β1[nx]? = some freeB := isFree h4 (zpe hnx) (by omega)
 have hf0 : β[nx]? = some freeB := isFree hH hnx (by omega)
 obtain ⟨x, hx⟩ : ∃ x, β1[H.length]? = some x := ⟨β1[H.length]'(by omega), List.getElem?_eq_getElem _⟩
 have get2 : ∀ b, b ≠ nx -> b < H.length -> ((β1.take H.length).set nx x)[b]? = β1[b]? := fun b hne hlt => by
  rw [List.getElem?_set_ne (Ne.symm hne), List.getElem?_take, if_pos hlt]
 have getnx : ((β1.take H.length).set nx x)[nx]? = some x := List.getElem?_set_self (by simp; omega)
 have lef : ∀ y, freeB.le y := fun y => .inl rfl
 have kd1 : Keeps H.length β1 ((β1.take H.length).set nx x) := fun b y hb hy => by
  by_cases e : b = nx
  ·subst e
   rw [hf1] at hy; cases hy
   exact ⟨x, getnx, lef x⟩
  ·exact ⟨y, by rw [get2 b e hb]; exact hy, y.le_refl⟩
 have kd0 : Keeps H.length β ((β1.take H.length).set nx x) := h5.keep.trans kd1
 have hown : ∀ b c, qj (H.set nx ob) ((β1.take H.length).set nx x) b c -> qj (H ++ [ob]) β1 (if b = nx then H.length else b) c := by
  rintro b c ⟨o, y, g1, g2, g3, g4⟩
  by_cases e : b = nx
  ·subst e
   rw [if_pos rfl]
   rw [List.getElem?_set_self hnl] at g1
   rw [getnx] at g3
   cases g1; cases g3
   exact ⟨ob, x, by simp, g2, hx, g4⟩
  ·rw [if_neg e]
   rw [List.getElem?_set_ne (Ne.symm e)] at g1
   have hlt := lt_of_getElem? g1
   rw [get2 b e hlt] at g3
   exact ⟨o, y, by rw [List.getElem?_append_left hlt]; exact g1, g2, g3, g4⟩
 have hheap : HeapOK G w' I' ((β1.take H.length).set nx x) (H.set nx ob) := by
  refine ⟨by simp; omega, fun b o y g1 g2 => ?_, fun b b' c g1 g2 => ?_, h4.inI, h4.glob⟩
  ·by_cases e : b = nx
   ·subst e
    rw [List.getElem?_set_self hnl] at g1
    rw [getnx] at g2
    cases g1; cases g2
    exact (h4.obj H.length ob x (by simp) hx).below hob kd1
   ·rw [List.getElem?_set_ne (Ne.symm e)] at g1
    have hlt := lt_of_getElem? g1
    rw [get2 b e hlt] at g2
    have hb1 : b < β.length := by omega
    have hob1 := h4.obj b o y (by rw [List.getElem?_append_left hlt]; exact g1) g2
    have hob0 := hH.obj b o _ g1 (List.getElem?_eq_getElem hb1)
    rcases hob0.under with hu | ⟨s, f, n', tt, ps, asg, bd, rfl⟩
    ·exact hob1.below (by rw [hl0] at hu; exact hu) kd1
    ·cases y with
     | tok u => exact hob1
     | blk c =>
      cases hbb : β[b] with
      | tok u => rw [hbb] at hob0; exact hob0.elim
      | blk c' =>
       rw [hbb] at hob0
       obtain ⟨r0, b1, b2, b3, b4, b5, b6, b7, b8, b9⟩ := hob0
       obtain ⟨r1, a1, a2, a3, a4, a5, a6, a7, a8, a9⟩ := hob1
       refine ⟨r1, a1, a2, a3, a4, a5, a6, a7, fun m' => ?_, a9⟩
       have hu := (b8 m').under
       rw [hl0] at hu
       exact (a8 m').mono_below (fun _ _ h => h) (fun _ _ _ => rfl) kd1 hu
  ·have := h4.inj _ _ c (hown b c g1) (hown b' c g2)
   have l1 : b < H.length := by obtain ⟨o, y, g, _⟩ := g1; have := lt_of_getElem? g; simpa using this
   have l2 : b' < H.length := by obtain ⟨o, y, g, _⟩ := g2; have := lt_of_getElem? g; simpa using this
   split at this <;> split at this <;> omega
 refine ⟨(β1.take H.length).set nx x, ?_, hheap, ?_⟩
 ·cases r with
  | ptr c o =>
   have : c = H.length := by simpa [SV.isNew] using hr
   subst this
   simp only [SV.mv, if_true]
   cases h3 with
   | ptr _ c' _ hc => rw [hx] at hc; cases hc; exact .ptr nx c' o getnx
  | osl c o l =>
   have : c = H.length := by simpa [SV.isNew] using hr
   subst this
   simp only [SV.mv, if_true]
   cases h3 with
   | osl _ c' _ _ cap hc g1 g2 => rw [hx] at hc; cases hc; exact .osl nx c' o l cap getnx g1 g2
  | asl c kk rows =>
   have : c = H.length := by simpa [SV.isNew] using hr
   subst this
   simp only [SV.mv, if_true]
   cases h3 with
   | asl _ _ _ _ u n' hd hc g1 g2 g3 => rw [hx] at hc; cases hc; exact .asl nx kk rows v u n' hd getnx g1 g2 g3
  | map c =>
   have : c = H.length := by simpa [SV.isNew] using hr
   subst this
   simp only [SV.mv, if_true]
   cases h3 with
   | map _ c' hc => rw [hx] at hc; cases hc; exact .map nx c' getnx
  | _ => simp [SV.isNew] at hr
 ·exact ⟨h5.imm, h5.cell, kd0, h5.old, fun b c ho => h5.own _ c (hown b c ho), h5.new, h5.size, h5.env⟩
theorem yoa (nx : Nat) {r : SV} {ob : SObj} (hw : zy all t o.guard = some true) (hd : yf fn.ntmps o.dst = true) (hnd : ∀ c, o.op ≠ .defer c) (hnx : H[nx]? = some .free)
  (hop : sop P o.op (zn G t) H = some (r, H ++ [ob])) (hr : r.isNew H.length = true) (hob : ob.under H.length = true)
  (h : SWr E all rest k (wm t o.dst (r.mv H.length nx)) (H.set nx ob)) : SWr E all (o :: rest) k t H := by
 refine zan hw hd hnd (by simp) (fun ρ w I β hH hev => ?_) h
 obtain ⟨n, v, w', I', β1, h1, h2, h3, h4, h5⟩ := zpp (o := o) (ρ := ρ) hop hH hev
 obtain ⟨β', g1, g2, g3⟩ := ygg hnx hH h3 h4 h5 hr hob
 exact ⟨n, v, w', I', β', h1, h2, g1, g2, g3⟩
theorem yaq (h : SW E k t (H ++ [.free])) : SW E k t H := by
 refine ⟨fun a w I β cs hs => ?_⟩
 have hp := hs.heap.push (o := .free) (x := freeB) rfl (fun b c hc => by cases hc)
 have he : ∀ m, Ext m w I β H w I (β ++ [freeB]) (H ++ [.free]) := fun m => Ext.push hs.heap (fun c hc => by cases hc)
 exact h.run a w I _ cs ⟨hp, fun n => (hs.tmps n).ext (he _), hs.size, hs.defers.ext (he 0), hs.ext.trans (he _), by simp; have := hs.hlen; omega⟩
theorem ygh (n : Nat) (h : SW E k t (H ++ List.replicate n .free)) : SW E k t H := by
 induction n generalizing H with
 | zero => simpa using h
 | succ n ih =>
  refine yaq (ih ?_)
  rw [List.append_assoc, List.singleton_append, <- List.replicate_succ]
  exact h
theorem zxy {σ : Type} {b : Nat} {ob : SObj} (hb : H[b]? = some ob) (hd : ob ≠ .dead) (f : σ -> SObj) (hfd : ∀ s, f s ≠ .dead) (Q : σ -> Prop) (hf : ∀ w I β x, ObjOK w I β ob x -> ∃ s, Q s /\ ObjOK w I β (f s) x)
  (h : ∀ s, Q s -> SW E k t (H.set b (f s))) : SW E k t H := by
 refine ⟨fun a w I β cs hs => ?_⟩
 have hblt := lt_of_getElem? hb
 have hblt' : b < β.length := by rw [hs.heap.len]; exact hblt
 obtain ⟨s, hq, hok⟩ := hf w I β _ (hs.heap.obj b ob _ hb (List.getElem?_eq_getElem hblt'))
 have key : ∀ b' c', qj (H.set b (f s)) β b' c' -> qj H β b' c' := by
  rintro b' c' ⟨p, x, h1, h2, h3, h4⟩
  by_cases e : b' = b
  ·subst e; exact ⟨ob, x, hb, hd, h3, h4⟩
  ·rw [List.getElem?_set_ne (Ne.symm e)] at h1; exact ⟨p, x, h1, h2, h3, h4⟩
 have hheap : HeapOK G w I β (H.set b (f s)) := by
  refine ⟨by simp [hs.heap.len], fun b' p x h1 h2 => ?_, fun b1 b2 c h1 h2 => hs.heap.inj b1 b2 c (key b1 c h1) (key b2 c h2), hs.heap.inI, hs.heap.glob⟩
  by_cases e : b' = b
  ·subst e
   rw [List.getElem?_set_self hblt] at h1; cases h1
   rw [List.getElem?_eq_getElem hblt'] at h2; cases h2
   exact hok
  ·rw [List.getElem?_set_ne (Ne.symm e)] at h1
   exact hs.heap.obj b' p x h1 h2
 have he : ∀ m, Ext m w I β H w I β (H.set b (f s)) := fun m =>
  { imm := fun _ _ h => h, cell := fun _ _ _ => rfl, keep := .refl _ _, old := fun _ _ _ => rfl, own := fun b' c' h => .inl ⟨b', key b' c' h⟩, new := fun _ _ h => .inl h, size := Nat.le_refl _, env := ⟨rfl, rfl⟩ }
 exact (h s hq).run a w I β cs ⟨hheap, hs.tmps, hs.size, hs.defers.ext (he 0), hs.ext.trans (he _), by simpa using hs.hlen⟩
def yar (es : List (Nat × Int × SV)) (clock : Nat) : Prop := (es.map (·.1)).Nodup /\ ∀ e ∈ es, e.1 < clock
theorem ydm {b : Nat} {kk : IntKind} {es : List (Int × SV)} (hb : H[b]? = some (.mapI kk es))
  (h : ∀ es' clock, es'.map (·.2) = es -> yar es' clock -> SW E k t (H.set b (.pin kk es' clock))) : SW E k t H := by
 refine zxy (σ := List (Nat × Int × SV) × Nat) hb (by simp) (fun s => .pin kk s.1 s.2) (by simp) (fun s => s.1.map (·.2) = es /\ yar s.1 s.2) (fun w I β x hx => ?_) (fun s hs => h s.1 s.2 hs.1 hs.2)
 cases x with
 | tok u => exact hx.elim
 | blk c =>
  obtain ⟨ents, clock, h1, h2, h3, h4, h5⟩ := hx
  have hlz : (List.zipWith (fun (e : MapEntry) (x : Int × SV) => (e.born, x.1, x.2)) ents.toList es).length = es.length := by simp; omega
  refine ⟨(List.zipWith (fun e x => (e.born, x.1, x.2)) ents.toList es, clock), ⟨?_, ?_, ?_⟩, ents, h1, by rw [hlz]; exact h2, fun j hj hj' => ?_, h4, h5⟩
  ·refine List.ext_getElem (by simp; omega) fun j a b => by simp
  ·have e : (List.zipWith (fun (e : MapEntry) (x : Int × SV) => (e.born, x.1, x.2)) ents.toList es).map (·.1) = ents.toList.map (·.born) := by
    refine List.ext_getElem (by simp; omega) fun j a b => by simp
   rw [e]; exact h5.1
  ·intro e he
   obtain ⟨j, hj, rfl⟩ := List.mem_iff_getElem.1 he
   simp only [List.getElem_zipWith]
   exact h5.2 _ (List.getElem_mem _)
  ·have := h3 j (by omega) hj'
   simp only [List.getElem_zipWith, Array.getElem_toList]
   exact ⟨trivial, this.1, this.2⟩
theorem zvd {b : Nat} {kk : IntKind} {es : List (Nat × Int × SV)} {clock : Nat} (hb : H[b]? = some (.pin kk es clock)) (h : SW E k t (H.set b (.mapI kk (es.map (·.2))))) : SW E k t H := by
 refine zxy (σ := Unit) hb (by simp) (fun _ => .mapI kk (es.map (·.2))) (by simp) (fun _ => True) (fun w I β x hx => ⟨(), trivial, ?_⟩) (fun _ _ => h)
 cases x with
 | tok u => exact hx.elim
 | blk c =>
  obtain ⟨ents, h1, h2, h3, h4⟩ := hx
  refine ⟨ents, clock, h1, by simpa using h2, fun j hj hj' => ?_, h4⟩
  have := h3 j (by simpa using hj) hj'
  simp only [List.getElem_map]
  exact this.2
theorem yka {K : SV -> List SObj -> Prop} (hw : zy all t o.guard = some true) (hd : yf fn.ntmps o.dst = true) (hnd : ∀ c, o.op ≠ .defer c)
  (hrun : ∀ (ρ : Operand -> Value) w I β, HeapOK G w I β H -> (∀ x, Rep w I β (ρ x) (zn G t x)) -> ∃ r H', K r H' /\ OpRun P G (execOp ρ o) w I β H r H')
  (h : ∀ r H', K r H' -> H.length <= H'.length /\ SWr E all rest k (wm t o.dst r) H') : SWr E all (o :: rest) k t H := by
 refine ⟨fun j hj hdrop => ?_⟩
 have hdrop' := hdrop
 obtain ⟨h1, ho, h3⟩ := qg hdrop
 refine ⟨fun a w I β cs hsim => ?_⟩
 obtain ⟨r, H', hK, hop⟩ := hrun a.eval w I β hsim.heap hsim.eval
 have hwant := jl hw hsim
 obtain ⟨n, v, w', I', β', g1, g2, g3, g4, g5⟩ := hop
 rw [zbv h1]
 have hg := zcs (P := P) (b := E.base) (ro := E.ro) (k := k) (cs := cs) (w := w) (rest := (List.range all.size).drop (j + 1)) ho hwant (.inr hnd)
 have hfin : ∀ v, (E.at a (.inRegion all (j :: (List.range all.size).drop (j + 1)) :: k)).finish v = E.at (a.put o.dst v) (.inRegion all ((List.range all.size).drop (j + 1)) :: k) := by
  intro v; unfold En.at; rw [jx, ho]; rfl
 have hstep : step P (lone (E.at a (.inRegion all (j :: (List.range all.size).drop (j + 1)) :: k)) cs w) = .next (lone (E.at (a.put o.dst v) (.inRegion all ((List.range all.size).drop (j + 1)) :: k)) cs w') := by
  refine step_lone_go ?_
  rw [<- hfin]
  unfold En.at
  rw [hg]
  rcases g2 with rfl | ⟨rfl, rfl⟩ <;> simp [stepG.apply, g1]
 obtain ⟨hl, hsw⟩ := h r H' hK
 exact .of_steps (.one hstep) ((hsw.run (j + 1) h1 h3).run _ w' I' β' cs (hsim.put hd g3 g4 g5 hl))
theorem zlg {ty kt et : TypeId} {x : Operand} {b : Nat} {kk : IntKind} {es : List (Nat × Int × SV)} {clock : Nat} (hop : o.op = .range ty x) (hw : zy all t o.guard = some true) (hd : yf fn.ntmps o.dst = true)
  (hu : P.underlying ty = some (.map kt et)) (hx : zn G t x = .map b) (hb : H[b]? = some (.pin kk es clock))
  (h : SWr E all rest k (wm t o.dst (.ptr H.length 0)) (H ++ [.iter b clock [] clock])) : SWr E all (o :: rest) k t H := by
 refine zan hw hd (fun c e => by rw [hop] at e; cases e) (by simp) (fun ρ w I β hH hev => ?_) h
 have hr := hev x
 rw [hx] at hr
 obtain ⟨dst, op, type, pos, after, guard⟩ := o
 simp only at hop
 subst hop
 generalize hv : ρ x = v at hr
 cases hr with
 | map _ c hc =>
 obtain ⟨ents, h1, h2, h3, h4, h5⟩ := hH.obj _ _ _ hb hc
 have hal := hH.alloc (m := H.length) (o := .iter b clock [] clock) (ob := .mapIter (some c) clock #[] clock) ⟨c, zpe hc, xf _, fun o hi => by have := hH.inI _ o hi; omega⟩
 refine ⟨.value (.pointer (some ⟨w.heap.size, 0, none⟩)), _, w.alloc (.mapIter (some c) clock #[] clock), I, _, ?_, .inl rfl, .ptr _ w.heap.size 0 (by rw [<- hH.len]; simp), hal.1, hal.2⟩
 simp [execOp, Instr.range, run_underlying hu, hv, qo h1]
end
section
variable {P : Program} {G : List (Nat × D)} {fn : Func} {rd : Bool} {E : En P G fn rd} {t : List (Nat × SV)} {H : List SObj} {k : List Item} {all : Array Oper} {rest : List Oper} {o : Oper}
def zbj (es : List (Nat × Int × SV)) (seen : List Nat) : List (Nat × Int × SV) := es.filter fun e => !seen.contains e.1
theorem zlh (es : List (Nat × Int × SV)) : zbj es [] = es := by simp [zbj]
theorem zim {es : List (Nat × Int × SV)} {seen : List Nat} {e : Nat × Int × SV} (hn : (es.map (·.1)).Nodup) (he : e ∈ zbj es seen) : (zbj es seen).Perm (e :: zbj es (seen ++ [e.1])) := by
 induction es with
 | nil => simp [zbj] at he
 | cons x l ih =>
  simp only [List.map_cons, List.nodup_cons] at hn
  have hx : ∀ y ∈ l, y.1 ≠ x.1 := fun y hy e1 => hn.1 (by rw [<- e1]; exact List.mem_map_of_mem hy)
  have hstep : ∀ s, zbj (x :: l) s = if s.contains x.1 then zbj l s else x :: zbj l s := fun s => by
   simp only [zbj, List.filter_cons]
   cases s.contains x.1 <;> simp
  rw [hstep, hstep]
  rw [hstep] at he
  by_cases hs : seen.contains x.1 = true
  ·rw [if_pos hs] at he ⊢
   rw [if_pos (by simp at hs ⊢; exact .inl hs)]
   exact ih hn.2 he
  ·rw [if_neg hs] at he ⊢
   rcases List.mem_cons.1 he with rfl | he
   ·rw [if_pos (by simp)]
    refine List.Perm.cons _ ?_
    have : zbj l seen = zbj l (seen ++ [e.1]) := by
     unfold zbj
     refine List.filter_congr fun y hy => ?_
     have := hx y hy
     simp [this]
    rw [<- this]
   ·have hne : e.1 ≠ x.1 := hx e (List.mem_filter.1 he).1
    rw [if_neg (by simp at hs ⊢; exact ⟨hs, fun h => hne h.symm⟩)]
    exact (List.Perm.cons x (ih hn.2 he)).trans (List.Perm.swap _ _ _)
theorem zff {es : List (Nat × Int × SV)} {seen : List Nat} {e : Nat × Int × SV} (he : e ∈ zbj es seen) : e ∈ es := (List.mem_filter.1 he).1
section
variable {w : World} {I : Imm} {β : List Bnd}
open Go.ChangeMaps (setBlock)
theorem zxz (hH : HeapOK G w I β H) {bi b c cm since last : Nat} {seen : List Nat} (hbi : H[bi]? = some (.iter b since seen last)) (hc : β[bi]? = some (.blk c)) (hcm : β[b]? = some (.blk cm)) {w1 : World} (hw1 : w1 = w \/ w1 = w.drew) (seen' : List Nat) (last' : Nat) :
  HeapOK G (setBlock w1 c (.mapIter (some cm) since seen'.toArray last')) I β (H.set bi (.iter b since seen' last')) /\ Ext H.length w I β H (setBlock w1 c (.mapIter (some cm) since seen'.toArray last')) I β (H.set bi (.iter b since seen' last')) := by
 obtain ⟨cm', g1, g2, g3⟩ := hH.obj _ _ _ hbi hc
 have hheap : w1.heap = w.heap := by rcases hw1 with rfl | rfl <;> rfl
 have hlt := qn g2
 refine hH.change hbi (by simp) hc (fun c' hne => ?_) (by simp [setBlock, hheap]) g3 ⟨cm, hcm, ?_, g3⟩ ⟨?_, ?_⟩
 ·simp [setBlock, hheap, Ne.symm hne]
 ·simp [setBlock, hheap, hlt]
 ·rcases hw1 with rfl | rfl <;> rfl
 ·rcases hw1 with rfl | rfl <;> rfl
end
open Go.ChangeMaps (setBlock)
theorem ykb {w : World} {I : Imm} {β : List Bnd} {kk : IntKind} {es : List (Nat × Int × SV)} {ents : Array MapEntry} (h2 : ents.size = es.length)
  (h3 : ∀ j (h : j < es.length) (h' : j < ents.size), (ents[j]'h').born = (es[j]'h).1 /\ (ents[j]'h').key = .int kk (es[j]'h).2.1 /\ Rep w I β (ents[j]'h').val (es[j]'h).2.2) (seen : List Nat) :
  ((leftOf ents seen.toArray).size = 0 ↔ zbj es seen = []) /\ ∀ e ∈ (leftOf ents seen.toArray).toList, e ∈ ents.toList /\ ∃ x ∈ zbj es seen, e.born = x.1 /\ e.key = .int kk x.2.1 /\ Rep w I β e.val x.2.2 := by
 have hmem : ∀ e ∈ (leftOf ents seen.toArray).toList, e ∈ ents.toList /\ ∃ x ∈ zbj es seen, e.born = x.1 /\ e.key = .int kk x.2.1 /\ Rep w I β e.val x.2.2 := by
  intro e he
  simp only [leftOf, Array.toList_filter, List.mem_filter] at he
  obtain ⟨he, hs⟩ := he
  refine ⟨he, ?_⟩
  obtain ⟨j, hj, rfl⟩ := List.mem_iff_getElem.1 he
  have hj' : j < ents.size := by simpa using hj
  obtain ⟨a1, a2, a3⟩ := h3 j (by omega) hj'
  refine ⟨es[j]'(by omega), List.mem_filter.2 ⟨List.getElem_mem _, ?_⟩, by simpa using a1, by simpa using a2, by simpa using a3⟩
  rw [<- a1]
  simpa using hs
 refine ⟨⟨fun h0 => ?_, fun h0 => ?_⟩, hmem⟩
 ·refine List.filter_eq_nil_iff.2 fun x hx => ?_
  obtain ⟨j, hj, rfl⟩ := List.mem_iff_getElem.1 hx
  obtain ⟨a1, a2, a3⟩ := h3 j hj (by omega)
  have hnil : (leftOf ents seen.toArray).toList = [] := by
   apply List.eq_nil_of_length_eq_zero; simpa using h0
  simp only [leftOf, Array.toList_filter] at hnil
  have := List.filter_eq_nil_iff.1 hnil (ents[j]'(by omega)) (by simp)
  rw [a1] at this
  simpa using this
 ·rcases Nat.eq_zero_or_pos (leftOf ents seen.toArray).size with h | h
  ·exact h
  ·have hm : (leftOf ents seen.toArray)[0] ∈ (leftOf ents seen.toArray).toList := by simp
   obtain ⟨_, x, hx, _⟩ := hmem _ hm
   rw [h0] at hx
   cases hx
theorem zou {it : Operand} {bi b since last clock : Nat} {seen : List Nat} {kk : IntKind} {es : List (Nat × Int × SV)} (hop : o.op = .next it false) (hw : zy all t o.guard = some true) (hd : yf fn.ntmps o.dst = true)
  (hx : zn G t it = .ptr bi 0) (hbi : H[bi]? = some (.iter b since seen last)) (hb : H[b]? = some (.pin kk es clock)) (hs : yar es since) (hsl : since <= last)
  (h0 : zbj es seen = [] -> SWr E all rest k (wm t o.dst (.tup [.imm (.val (.bool false))])) H)
  (h1 : ∀ e ∈ zbj es seen, SWr E all rest k (wm t o.dst (.tup [.imm (.val (.bool true)), .imm (.val (.int kk e.2.1)), e.2.2])) (H.set bi (.iter b since (seen ++ [e.1]) clock))) :
  SWr E all (o :: rest) k t H := by
 refine yka (K := fun r H' => (zbj es seen = [] /\ r = .tup [.imm (.val (.bool false))] /\ H' = H) \/ ∃ e ∈ zbj es seen, r = .tup [.imm (.val (.bool true)), .imm (.val (.int kk e.2.1)), e.2.2] /\ H' = H.set bi (.iter b since (seen ++ [e.1]) clock))
  hw hd (fun c e => by rw [hop] at e; cases e) (fun ρ w I β hH hev => ?_) ?_
 ·have hr := hev it
  rw [hx] at hr
  obtain ⟨dst, op, type, pos, after, guard⟩ := o
  simp only at hop
  subst hop
  generalize hv : ρ it = v at hr
  cases hr with
  | ptr _ c _ hc =>
  obtain ⟨cm, g1, g2, g3⟩ := hH.obj _ _ _ hbi hc
  obtain ⟨ents, a1, a2, a3, a4, a5⟩ := hH.obj _ _ _ hb g1
  obtain ⟨l1, l2⟩ := ykb a2 a3 seen
  have hold : ∀ x ∈ ents.toList, x.born < since := by
   intro x hx
   obtain ⟨j, hj, rfl⟩ := List.mem_iff_getElem.1 hx
   have hj' : j < ents.size := by simpa using hj
   have := (a3 j (by omega) hj').1
   simp only [Array.getElem_toList, this]
   exact hs.2 _ (List.getElem_mem _)
  rcases run_next_at (P := P) w type c cm since last seen.toArray ents clock g2 a1 hold hsl with ⟨b1, b2⟩ | ⟨e, b1, w1, b2, b3⟩
  ·refine ⟨_, H, .inl ⟨l1.1 b1, rfl, rfl⟩, .value _, .tuple #[.bool false], w, I, β, ?_, .inl rfl, .tup #[.bool false] [.imm (.val (.bool false))] rfl (fun j hj hj' => ?_), hH, .refl⟩
   ·simp only [execOp, hv, Sem.run_bind, b2, Result.andThen_ok, Sem.run_pure]
   ·have : j = 0 := by simp at hj; omega
    subst this; exact .imm (.val _)
  ·obtain ⟨c1, x, c2, c3, c4, c5⟩ := l2 e b1
   have hres := zxz hH hbi hc g1 b2 (seen ++ [x.1]) clock
   refine ⟨_, _, .inr ⟨x, c2, rfl, rfl⟩, .value _, .tuple #[.bool true, e.key, e.val], setBlock w1 c (.mapIter (some cm) since (seen ++ [x.1]).toArray clock), I, β, ?_, .inl rfl, ?_, hres.1, hres.2⟩
   ·simp only [execOp, hv, Sem.run_bind, b3, Result.andThen_ok, Sem.run_pure, c3]
    simp
   ·refine .tup _ _ rfl (fun j hj hj' => ?_)
    match j, hj with
    | 0, _ => exact .imm (.val _)
    | 1, _ => simp only [c4]; exact .imm (.val _)
    | 2, _ => exact c5.ext (by rw [hH.len]; exact hres.2)
 ·rintro r H' (⟨e1, rfl, rfl⟩ | ⟨e, he, rfl, rfl⟩)
  ·exact ⟨Nat.le_refl _, h0 e1⟩
  ·exact ⟨by simp, h1 e he⟩
end
section
variable {P : Program} {G : List (Nat × D)} {fn : Func} {rd : Bool} {E : En P G fn rd} {t : List (Nat × SV)} {H : List SObj} {k : List Item} {all : Array Oper} {rest : List Oper} {o : Oper}
theorem zli {it : Operand} {bi b since clock : Nat} {seen : List Nat} {kk : IntKind} {es : List (Nat × Int × SV)} {e : Nat × Int × SV} (hop : o.op = .entry it) (hw : zy all t o.guard = some true) (hd : yf fn.ntmps o.dst = true)
  (hx : zn G t it = .ptr bi 0) (hbi : H[bi]? = some (.iter b since (seen ++ [e.1]) clock)) (hb : H[b]? = some (.pin kk es clock)) (he : e ∈ es)
  (h : SWr E all rest k (wm t o.dst (.tup [.imm (.val (.int kk e.2.1)), e.2.2])) H) : SWr E all (o :: rest) k t H := by
 refine zan hw hd (fun c e => by rw [hop] at e; cases e) (Nat.le_refl _) (fun ρ w I β hH hev => ?_) h
 have hr := hev it
 rw [hx] at hr
 obtain ⟨dst, op, type, pos, after, guard⟩ := o
 simp only at hop
 subst hop
 generalize hv : ρ it = v at hr
 cases hr with
 | ptr _ c _ hc =>
 obtain ⟨cm, g1, g2, g3⟩ := hH.obj _ _ _ hbi hc
 obtain ⟨ents, a1, a2, a3, a4, a5⟩ := hH.obj _ _ _ hb g1
 obtain ⟨j, hj, rfl⟩ := List.mem_iff_getElem.1 he
 obtain ⟨c1, c2, c3⟩ := a3 j hj (by omega)
 have hrun := run_entry_at (P := P) w c cm since seen.toArray ents clock (ents[j]'(by omega)) (by rw [g2, c1]; simp) a1 (by simp) a5.1
 refine ⟨.value _, .tuple #[(ents[j]'(by omega)).key, (ents[j]'(by omega)).val], w, I, β, ?_, .inl rfl, .tup _ _ rfl (fun i hi hi' => ?_), hH, .refl⟩
 ·simp only [execOp, hv, Sem.run_bind, hrun, Result.andThen_ok, Sem.run_pure]
 ·match i, hi with
  | 0, _ => simp only [c2]; exact .imm (.val _)
  | 1, _ => exact c3
theorem ygi {ty ty' kt et : TypeId} {x y : Operand} {b : Nat} (hop : o.op = .binOp .eql ty x y ty') (hw : zy all t o.guard = some true) (hd : yf fn.ntmps o.dst = true)
  (hx : zn G t x = .map b) (hy : zn G t y = .imm (.val (.map none))) (hu : P.underlying ty = some (.map kt et))
  (h : SWr E all rest k (wm t o.dst (.imm (.val (.bool false)))) H) : SWr E all (o :: rest) k t H := by
 refine yap hw hd (fun c e => by rw [hop] at e; cases e) (fun ρ w I β hev => ?_) h
 have hrx := hev x (by rw [hop]; simp [Op.operands])
 rw [hx] at hrx
 have hry := hev y (by rw [hop]; simp [Op.operands])
 rw [hy] at hry
 obtain ⟨dst, op, type, pos, after, guard⟩ := o
 simp only at hop
 subst hop
 have ey : ρ y = .map none := by
  generalize ρ y = v at hry
  cases hry with | imm hr => cases hr; rfl
 generalize hv : ρ x = v at hrx
 cases hrx with
 | map _ c hc =>
 have hgd : (eqGuard .eql ty x y (.map (some c)) (.map none)).run P w = .ok () w := by simp [eqGuard]
 have heq : (Op.equal ty (.map (some c)) (.map none)).run P w = .ok false w := by
  show (Op.equalIn (9999 + 1) ty _ _).run P w = _
  generalize 9999 = n
  rw [Op.equalIn]
  simp only [Sem.run_bind, run_underlying hu, Result.andThen_ok]
  simp
 refine ⟨.bool false, ?_, .imm (.val _)⟩
 simp only [execOp]
 rw [hv, ey]
 simp only [Sem.run_bind, hgd, Result.andThen_ok, binOp, heq, Sem.run_pure]
theorem yas {ty ty' kt et : TypeId} {x y : Operand} (hop : o.op = .binOp .eql ty x y ty') (hw : zy all t o.guard = some true) (hd : yf fn.ntmps o.dst = true)
  (hx : zn G t x = .imm (.val (.map none))) (hy : zn G t y = .imm (.val (.map none))) (hu : P.underlying ty = some (.map kt et))
  (h : SWr E all rest k (wm t o.dst (.imm (.val (.bool true)))) H) : SWr E all (o :: rest) k t H := by
 refine yap hw hd (fun c e => by rw [hop] at e; cases e) (fun ρ w I β hev => ?_) h
 have hrx := hev x (by rw [hop]; simp [Op.operands])
 rw [hx] at hrx
 have hry := hev y (by rw [hop]; simp [Op.operands])
 rw [hy] at hry
 obtain ⟨dst, op, type, pos, after, guard⟩ := o
 simp only at hop
 subst hop
 have ey : ρ y = .map none := by
  generalize ρ y = v at hry
  cases hry with | imm hr => cases hr; rfl
 have ex : ρ x = .map none := by
  generalize ρ x = v at hrx
  cases hrx with | imm hr => cases hr; rfl
 have hgd : (eqGuard .eql ty x y (.map none) (.map none)).run P w = .ok () w := by simp [eqGuard]
 have heq : (Op.equal ty (.map none) (.map none)).run P w = .ok true w := by
  show (Op.equalIn (9999 + 1) ty _ _).run P w = _
  generalize 9999 = n
  rw [Op.equalIn]
  simp only [Sem.run_bind, run_underlying hu, Result.andThen_ok]
  simp
 refine ⟨.bool true, ?_, .imm (.val _)⟩
 simp only [execOp]
 rw [ex, ey]
 simp only [Sem.run_bind, hgd, Result.andThen_ok, binOp, heq, Sem.run_pure]
theorem ykc {s d e : TypeId} {x : Operand} {b n : Nat} {ns : List Int} (hop : o.op = .convert s d x) (hw : zy all t o.guard = some true) (hd : yf fn.ntmps o.dst = true)
  (hx : zn G t x = .osl b 0 n) (hb : H[b]? = some (.cells (ns.map fun i => .imm (.val (.int .u8 i))))) (hn : n = ns.length) (hs : P.underlying s = some (.slice e)) (hde : P.underlying e = some (.int .u8)) (hdd : P.underlying d = some .string)
  (h : SWr E all rest k (wm t o.dst (.imm (.val (.string (ns.foldl (fun r n => r.push (UInt8.ofNat n.toNat)) ByteArray.empty))))) H) : SWr E all (o :: rest) k t H := by
 subst hn
 refine zan hw hd (fun c e => by rw [hop] at e; cases e) (Nat.le_refl _) (fun ρ w I β hH hev => ?_) h
 have hr := hev x
 rw [hx] at hr
 obtain ⟨dst, op, type, pos, after, guard⟩ := o
 simp only at hop
 subst hop
 generalize hv : ρ x = v at hr
 cases hr with
 | osl _ c _ _ cap hc l1 l2 =>
 obtain ⟨vs, T, h1, h2, h3, h4⟩ := hH.obj _ _ _ hb hc
 have hvs : ∀ j (hj : j < ns.length), vs[j]? = some (.int .u8 (ns[j]'hj)) := by
  intro j hj
  have hj' : j < vs.size := by simp at h2; omega
  have := h3 j (by simpa using hj) hj'
  simp only [List.getElem_map] at this
  rw [Array.getElem?_eq_getElem hj']
  generalize vs[j] = u at this
  cases this with | imm hr => cases hr; rfl
 have hl : (loadCells ⟨c, 0, none⟩ ns.length).run P w = .ok (ns.map (Value.int .u8)).toArray w := by
  have := run_loadCells_list (P := P) w ⟨c, 0, none⟩ (ns.map (Value.int .u8)) (fun j v hj => by
   have hjl : j < ns.length := by have := lt_of_getElem? hj; simpa using this
   rw [List.getElem?_map, List.getElem?_eq_getElem hjl] at hj
   cases hj
   rw [qr, yv h1, Nat.zero_add, hvs j hjl])
  simpa using this
 refine OpRun.same (v := .string _) ?_ (.imm (.val _)) hH
 simp only [execOp, hv, Sem.run_bind]
 rw [run_convert_bytes_string w s d e _ _ cap hs hde hdd, run_bytesToString w _ _ cap ns hl]
end
def SV.sh (n : Nat) : SV -> SV
 | .any => .any
 | .imm d => .imm d
 | .ptr b o => .ptr (b + n) o
 | .osl b o l => .osl (b + n) o l
 | .asl b kk rows => .asl (b + n) kk rows
 | .map b => .map (b + n)
 | .yld b => .yld (b + n)
 | .vec b m => .vec (b + n) m
 | .vptr b m o => .vptr (b + n) m o
 | .fn f x y => .fn f (shL n x) (shL n y)
 | .iface t v => .iface t (v.sh n)
 | .agg cs => .agg (shL n cs)
 | .tup vs => .tup (shL n vs)
where shL (n : Nat) : List SV -> List SV
 | [] => []
 | s :: r => s.sh n :: shL n r
theorem zqr (n : Nat) : ∀ l : List SV, SV.sh.shL n l = l.map (SV.sh n)
 | [] => rfl
 | s :: r => by simp only [SV.sh.shL, List.map_cons, zqr n r]
def SObj.sh (n : Nat) : SObj -> SObj
 | .cells cs => .cells (cs.map (SV.sh n))
 | .mapI kk es => .mapI kk (es.map fun e => (e.1, e.2.sh n))
 | .mapS es => .mapS (es.map fun e => (e.1, e.2.sh n))
 | .loop s f m t ps asg bd => .loop s f m (t.map fun e => (e.1, e.2.sh n)) ps asg bd
 | .vec kk cs => .vec kk (cs.map (SV.sh n))
 | .pin kk es c => .pin kk (es.map fun e => (e.1, e.2.1, e.2.2.sh n)) c
 | .iter m s seen l => .iter (m + n) s seen l
 | .tok kk m => .tok kk m
 | .dead => .dead
 | .free => .free
theorem SObj.sh_dead {n : Nat} {o : SObj} : o.sh n = .dead ↔ o = .dead := by cases o <;> simp [SObj.sh]
section
variable {w : World} {I : Imm} {βX β0 : List Bnd} {n : Nat}
theorem zai (hn : βX.length = n) (b : Nat) : (βX ++ β0)[b + n]? = β0[b]? := by
 rw [List.getElem?_append_right (by omega)]; congr 1; omega
theorem Rep.sh {v : Value} {s : SV} (hn : βX.length = n) (h : Rep w I β0 v s) : Rep w I (βX ++ β0) v (s.sh n) := by
 have g := fun b => zai (β0 := β0) hn b
 induction h with
 | any v => exact .any v
 | imm h => exact .imm h
 | ptr b c off h => exact .ptr _ c off (by rw [g]; exact h)
 | osl b c off len cap h h1 h2 => exact .osl _ c off len cap (by rw [g]; exact h) h1 h2
 | asl b kk rows v u m h hu hs hle heq => exact .asl _ kk rows v u m h (by rw [g]; exact hu) hs hle heq
 | map b c h => exact .map _ c (by rw [g]; exact h)
 | yld b c h => exact .yld _ c (by rw [g]; exact h)
 | vec b m v u q h hs hle hv heq => exact .vec _ m v u q (by rw [g]; exact h) hs hle hv heq
 | vptr b m off v a q cap h hle hv heq => exact .vptr _ m off v a q cap (by rw [g]; exact h) hle hv heq
 | fn f fs cs first captured h1 h2 _ _ ih1 ih2 =>
  simp only [SV.sh, zqr]
  exact .fn f fs cs _ _ (by simpa using h1) (by simpa using h2) (fun j hj hj' => by simpa using ih1 j (by simpa using hj) hj') (fun j hj hj' => by simpa using ih2 j (by simpa using hj) hj')
 | iface t v s _ ih => exact .iface t v _ ih
 | agg vs cs h1 _ ih =>
  simp only [SV.sh, zqr]
  exact .agg vs _ (by simpa using h1) (fun j hj hj' => by simpa using ih j (by simpa using hj) hj')
 | tup vs ss h1 _ ih =>
  simp only [SV.sh, zqr]
  exact .tup vs _ (by simpa using h1) (fun j hj hj' => by simpa using ih j (by simpa using hj) hj')
theorem Rep.unsh {v : Value} {s' : SV} (hn : βX.length = n) (h : Rep w I (βX ++ β0) v s') : ∀ {s : SV}, s' = s.sh n -> Rep w I β0 v s := by
 have g := fun b => zai (β0 := β0) hn b
 induction h with
 | any v => intro s hs; cases s <;> simp [SV.sh] at hs; exact .any v
 | imm h => intro s hs; cases s <;> simp [SV.sh] at hs; subst hs; exact .imm h
 | ptr b c off h => intro s hs; cases s <;> simp [SV.sh] at hs; obtain ⟨rfl, rfl⟩ := hs; exact .ptr _ c _ (by rw [g] at h; exact h)
 | osl b c off len cap h h1 h2 => intro s hs; cases s <;> simp [SV.sh] at hs; obtain ⟨rfl, rfl, rfl⟩ := hs; exact .osl _ c _ _ cap (by rw [g] at h; exact h) h1 h2
 | asl b kk rows v u m h hu hs' hle heq => intro s hs; cases s <;> simp [SV.sh] at hs; obtain ⟨rfl, rfl, rfl⟩ := hs; exact .asl _ _ _ v u m h (by rw [g] at hu; exact hu) hs' hle heq
 | map b c h => intro s hs; cases s <;> simp [SV.sh] at hs; subst hs; exact .map _ c (by rw [g] at h; exact h)
 | yld b c h => intro s hs; cases s <;> simp [SV.sh] at hs; subst hs; exact .yld _ c (by rw [g] at h; exact h)
 | vec b m v u q h hs' hle hv heq => intro s hs; cases s <;> simp [SV.sh] at hs; obtain ⟨rfl, rfl⟩ := hs; exact .vec _ _ v u q (by rw [g] at h; exact h) hs' hle hv heq
 | vptr b m off v a q cap h hle hv heq => intro s hs; cases s <;> simp [SV.sh] at hs; obtain ⟨rfl, rfl, rfl⟩ := hs; exact .vptr _ _ _ v a q cap (by rw [g] at h; exact h) hle hv heq
 | fn f fs cs first captured h1 h2 _ _ ih1 ih2 =>
  intro s hs
  cases s <;> simp [SV.sh, zqr] at hs
  obtain ⟨rfl, rfl, rfl⟩ := hs
  exact .fn _ fs cs _ _ (by simpa using h1) (by simpa using h2) (fun j hj hj' => ih1 j (by simpa using hj) hj' (by simp)) (fun j hj hj' => ih2 j (by simpa using hj) hj' (by simp))
 | iface t v s _ ih => intro s hs; cases s <;> simp [SV.sh] at hs; obtain ⟨rfl, rfl⟩ := hs; exact .iface _ v _ (ih rfl)
 | agg vs cs h1 _ ih =>
  intro s hs
  cases s <;> simp [SV.sh, zqr] at hs
  subst hs
  exact .agg vs _ (by simpa using h1) (fun j hj hj' => ih j (by simpa using hj) hj' (by simp))
 | tup vs ss h1 _ ih =>
  intro s hs
  cases s <;> simp [SV.sh, zqr] at hs
  subst hs
  exact .tup vs _ (by simpa using h1) (fun j hj hj' => ih j (by simpa using hj) hj' (by simp))
theorem ykd (n : Nat) (t : List (Nat × SV)) (m : Nat) : wu (t.map fun e => (e.1, e.2.sh n)) m = (wu t m).sh n := by
 induction t with
 | nil => rfl
 | cons x t ih =>
  simp only [List.map_cons, wu]
  split
  ·rfl
  ·exact ih
theorem ObjOK.sh {o : SObj} {x : Bnd} (hn : βX.length = n) (h : ObjOK w I β0 o x) : ObjOK w I (βX ++ β0) (o.sh n) x := by
 cases o with
 | cells cs =>
  cases x with
  | blk c =>
   obtain ⟨vs, T, h1, h2, h3, h4⟩ := h
   exact ⟨vs, T, h1, by simpa using h2, fun j hj hj' => by simpa using (h3 j (by simpa using hj) hj').sh hn, h4⟩
  | tok u => exact h.elim
 | mapI kk es =>
  cases x with
  | blk c =>
   obtain ⟨ents, clock, h1, h2, h3, h4⟩ := h
   exact ⟨ents, clock, h1, by simpa using h2, fun j hj hj' => by
    have := h3 j (by simpa using hj) hj'
    simp only [List.getElem_map]
    exact ⟨this.1, this.2.sh hn⟩, h4⟩
  | tok u => exact h.elim
 | mapS es =>
  cases x with
  | blk c =>
   obtain ⟨ents, clock, h1, h2, h3, h4⟩ := h
   exact ⟨ents, clock, h1, by simpa using h2, fun j hj hj' => by
    have := h3 j (by simpa using hj) hj'
    simp only [List.getElem_map]
    exact ⟨this.1, this.2.sh hn⟩, h4⟩
  | tok u => exact h.elim
 | tok kk m => cases x <;> exact h
 | loop s f m t ps asg bd =>
  cases x with
  | blk c =>
   obtain ⟨r, a1, a2, a3, a4, a5, a6, a7, a8, a9⟩ := h
   exact ⟨r, a1, a2, a3, a4, a5, a6, a7, fun m => by rw [ykd]; exact (a8 m).sh hn, a9⟩
  | tok u => exact h.elim
 | vec kk cs =>
  cases x with
  | blk c => exact h.elim
  | tok u =>
   rcases h with ⟨rfl, h⟩ | ⟨c, m, cap, vs, T, rfl, a1, a2, a3, a4, a5, a6, a7⟩
   ·exact .inl ⟨rfl, h⟩
   ·exact .inr ⟨c, m, cap, vs, T, rfl, a1, a2, a3, a4, by simpa using a5, fun j hj hj' => by simpa using (a6 j (by simpa using hj) hj').sh hn, a7⟩
 | dead => trivial
 | free => cases x <;> exact h
 | pin kk es clock =>
  cases x with
  | blk c =>
   obtain ⟨ents, h1, h2, h3, h4⟩ := h
   exact ⟨ents, h1, by simpa using h2, fun j hj hj' => by
    have := h3 j (by simpa using hj) hj'
    simp only [List.getElem_map]
    exact ⟨this.1, this.2.1, this.2.2.sh hn⟩, h4⟩
  | tok u => exact h.elim
 | iter m s seen l =>
  cases x with
  | blk c =>
   obtain ⟨cm, h1, h2⟩ := h
   exact ⟨cm, by rw [zai hn]; exact h1, h2⟩
  | tok u => exact h.elim
theorem ObjOK.unsh {o : SObj} {x : Bnd} (hn : βX.length = n) (h : ObjOK w I (βX ++ β0) (o.sh n) x) : ObjOK w I β0 o x := by
 cases o with
 | cells cs =>
  cases x with
  | blk c =>
   obtain ⟨vs, T, h1, h2, h3, h4⟩ := h
   exact ⟨vs, T, h1, by simpa using h2, fun j hj hj' => (h3 j (by simpa using hj) hj').unsh hn (by simp), h4⟩
  | tok u => exact h.elim
 | mapI kk es =>
  cases x with
  | blk c =>
   obtain ⟨ents, clock, h1, h2, h3, h4⟩ := h
   exact ⟨ents, clock, h1, by simpa using h2, fun j hj hj' => by
    have := h3 j (by simpa using hj) hj'
    simp only [List.getElem_map] at this
    exact ⟨this.1, this.2.unsh hn rfl⟩, h4⟩
  | tok u => exact h.elim
 | mapS es =>
  cases x with
  | blk c =>
   obtain ⟨ents, clock, h1, h2, h3, h4⟩ := h
   exact ⟨ents, clock, h1, by simpa using h2, fun j hj hj' => by
    have := h3 j (by simpa using hj) hj'
    simp only [List.getElem_map] at this
    exact ⟨this.1, this.2.unsh hn rfl⟩, h4⟩
  | tok u => exact h.elim
 | tok kk m => cases x <;> exact h
 | loop s f m t ps asg bd =>
  cases x with
  | blk c =>
   obtain ⟨r, a1, a2, a3, a4, a5, a6, a7, a8, a9⟩ := h
   exact ⟨r, a1, a2, a3, a4, a5, a6, a7, fun m => (a8 m).unsh hn (ykd n t m), a9⟩
  | tok u => exact h.elim
 | vec kk cs =>
  cases x with
  | blk c => exact h.elim
  | tok u =>
   rcases h with ⟨h0, h⟩ | ⟨c, m, cap, vs, T, rfl, a1, a2, a3, a4, a5, a6, a7⟩
   ·exact .inl ⟨by simpa using h0, h⟩
   ·exact .inr ⟨c, m, cap, vs, T, rfl, a1, a2, a3, a4, by simpa using a5, fun j hj hj' => (a6 j (by simpa using hj) hj').unsh hn (by simp), a7⟩
 | dead => trivial
 | free => cases x <;> exact h
 | pin kk es clock =>
  cases x with
  | blk c =>
   obtain ⟨ents, h1, h2, h3, h4⟩ := h
   exact ⟨ents, h1, by simpa using h2, fun j hj hj' => by
    have := h3 j (by simpa using hj) hj'
    simp only [List.getElem_map] at this
    exact ⟨this.1, this.2.1, this.2.2.unsh hn rfl⟩, h4⟩
  | tok u => exact h.elim
 | iter m s seen l =>
  cases x with
  | blk c =>
   obtain ⟨cm, h1, h2⟩ := h
   exact ⟨cm, by rw [zai hn] at h1; exact h1, h2⟩
  | tok u => exact h.elim
end
section
variable {P : Program} {G : List (Nat × D)}
theorem zkd {f : FuncId} {args : List SV} {H0 : List SObj} {K : SV -> List SObj -> Prop} (h : SCall P G f args H0 K) (X : List SObj) :
  SCall P G f (args.map (SV.sh X.length)) (X ++ H0.map (SObj.sh X.length)) (fun r H' => ∃ r1 H1, K r1 H1 /\ r = r1.sh X.length /\ H' = X ++ H1.map (SObj.sh X.length)) := by
 intro w I β vs hH hargs
 obtain ⟨βX, β0, rfl, hn⟩ : ∃ βX β0, β = βX ++ β0 /\ βX.length = X.length := ⟨β.take X.length, β.drop X.length, by simp, by have := hH.len; simp at this ⊢; omega⟩
 have hl0 : β0.length = H0.length := by have := hH.len; simp at this; omega
 have getH : ∀ b, (X ++ H0.map (SObj.sh X.length))[b + X.length]? = (H0[b]?).map (SObj.sh X.length) := fun b => by
  rw [List.getElem?_append_right (by omega), show b + X.length - X.length = b by omega, List.getElem?_map]
 have up : ∀ b c, qj H0 β0 b c -> qj (X ++ H0.map (SObj.sh X.length)) (βX ++ β0) (b + X.length) c := by
  rintro b c ⟨o, x, h1, h2, h3, h4⟩
  exact ⟨o.sh X.length, x, by rw [getH, h1]; rfl, fun e => h2 (SObj.sh_dead.1 e), by rw [zai hn]; exact h3, h4⟩
 have hH0 : HeapOK G w I β0 H0 := by
  refine ⟨hl0, fun b o x h1 h2 => ?_, fun b b' c h1 h2 => ?_, hH.inI, hH.glob⟩
  ·exact (hH.obj (b + X.length) (o.sh X.length) x (by rw [getH, h1]; rfl) (by rw [zai hn]; exact h2)).unsh hn
  ·have := hH.inj _ _ c (up b c h1) (up b' c h2); omega
 have hargs0 : Reps w I β0 vs.toList args := by
  refine ⟨by simpa using hargs.len, fun j v s hv hs => ?_⟩
  exact (hargs.rep j v (s.sh X.length) hv (by rw [List.getElem?_map, hs]; rfl)).unsh hn rfl
 refine (h w I β0 vs hH0 hargs0).mono ?_
 rintro e w' ⟨v, r, I', β', H', rfl, hK, hv, hH', hext⟩
 have hl' : β'.length = H'.length := hH'.len
 have getH' : ∀ b, (X ++ H'.map (SObj.sh X.length))[b + X.length]? = (H'[b]?).map (SObj.sh X.length) := fun b => by
  rw [List.getElem?_append_right (by omega), show b + X.length - X.length = b by omega, List.getElem?_map]
 have split : ∀ b c, qj (X ++ H'.map (SObj.sh X.length)) (βX ++ β') b c -> (b < X.length /\ qj (X ++ H0.map (SObj.sh X.length)) (βX ++ β0) b c) \/ (X.length <= b /\ qj H' β' (b - X.length) c) := by
  rintro b c ⟨o, x, h1, h2, h3, h4⟩
  rcases Nat.lt_or_ge b X.length with hb | hb
  ·rw [List.getElem?_append_left hb] at h1
   rw [List.getElem?_append_left (by omega)] at h3
   exact .inl ⟨hb, o, x, by rw [List.getElem?_append_left hb]; exact h1, h2, by rw [List.getElem?_append_left (by omega)]; exact h3, h4⟩
  ·obtain ⟨i, rfl⟩ : ∃ i, b = i + X.length := ⟨b - X.length, by omega⟩
   rw [getH'] at h1
   rw [zai hn] at h3
   cases ho : H'[i]? with
   | none => rw [ho] at h1; cases h1
   | some o' =>
    rw [ho] at h1; cases h1
    refine .inr ⟨hb, o', x, ?_, fun e => h2 (SObj.sh_dead.2 e), ?_, h4⟩
    ·rw [show i + X.length - X.length = i by omega]; exact ho
    ·rw [show i + X.length - X.length = i by omega]; exact h3
 have ownX : ∀ b c, b < X.length -> qj (X ++ H0.map (SObj.sh X.length)) (βX ++ β0) b c -> c < w.heap.size /\ ∀ b', ¬ qj H0 β0 b' c := by
  intro b c hb ho
  refine ⟨hH.owns_lt ho, fun b' ho' => ?_⟩
  have := hH.inj _ _ c ho (up b' c ho'); omega
 have keep : Keeps (βX ++ β0).length (βX ++ β0) (βX ++ β') := fun b x hb hx => by
  rcases Nat.lt_or_ge b X.length with hb' | hb'
  ·rw [List.getElem?_append_left (by omega)] at hx
   exact ⟨x, by rw [List.getElem?_append_left (by omega)]; exact hx, x.le_refl⟩
  ·obtain ⟨i, rfl⟩ : ∃ i, b = i + X.length := ⟨b - X.length, by omega⟩
   rw [zai hn] at hx
   obtain ⟨y, hy, hle⟩ := hext.keep i x (by rw [<- hl0]; exact lt_of_getElem? hx) hx
   exact ⟨y, by rw [zai hn]; exact hy, hle⟩
 have hheap : HeapOK G w' I' (βX ++ β') (X ++ H'.map (SObj.sh X.length)) := by
  refine ⟨by simp; omega, fun b o x h1 h2 => ?_, fun b b' c h1 h2 => ?_, hH'.inI, hH'.glob⟩
  ·rcases Nat.lt_or_ge b X.length with hb | hb
   ·rw [List.getElem?_append_left hb] at h1
    rw [List.getElem?_append_left (by omega)] at h2
    have hob := hH.obj b o x (by rw [List.getElem?_append_left hb]; exact h1) (by rw [List.getElem?_append_left (by omega)]; exact h2)
    by_cases hd : o = .dead
    ·subst hd; trivial
    ·have hox : ∀ c, x.block = some c -> c < w.heap.size /\ ∀ b', ¬ qj H0 β0 b' c := fun c hc =>
      ownX b c hb ⟨o, x, by rw [List.getElem?_append_left hb]; exact h1, hd, by rw [List.getElem?_append_left (by omega)]; exact h2, hc⟩
     refine hob.mono (fun c hc => hext.old c (hox c hc).1 (hox c hc).2) hext.imm hext.cell keep (fun c o' hc hi => ?_)
     rcases hext.new c o' hi with h3 | ⟨b', h3⟩ | h3
     ·exact h3
     ·exact absurd h3 ((hox c hc).2 b')
     ·have := (hox c hc).1; omega
   ·obtain ⟨i, rfl⟩ : ∃ i, b = i + X.length := ⟨b - X.length, by omega⟩
    rw [getH'] at h1
    rw [zai hn] at h2
    cases ho : H'[i]? with
    | none => rw [ho] at h1; cases h1
    | some o' =>
     rw [ho] at h1; cases h1
     exact (hH'.obj i o' x ho h2).sh hn
  ·have cross : ∀ b b' c, b < X.length -> qj (X ++ H0.map (SObj.sh X.length)) (βX ++ β0) b c -> qj H' β' b' c -> False := by
    intro b b' c hb h1 h2
    obtain ⟨l1, l2⟩ := ownX b c hb h1
    rcases hext.own b' c h2 with ⟨b'', h3⟩ | h3
    ·exact l2 b'' h3
    ·omega
   rcases split b c h1 with ⟨a1, a2⟩ | ⟨a1, a2⟩ <;> rcases split b' c h2 with ⟨c1, c2⟩ | ⟨c1, c2⟩
   ·exact hH.inj b b' c a2 c2
   ·exact (cross _ _ c a1 a2 c2).elim
   ·exact (cross _ _ c c1 c2 a2).elim
   ·have := hH'.inj _ _ c a2 c2; omega
 refine ⟨v, r.sh X.length, I', βX ++ β', _, rfl, ⟨r, H', hK, rfl, rfl⟩, hv.sh hn, hheap, hext.imm, hext.cell, keep.mono (by have := hH.len; omega), fun c hc hno => hext.old c hc (fun b hb => hno _ (up b c hb)), fun b c ho => ?_, fun c o hi => ?_, hext.size, hext.env⟩
 ·rcases split b c ho with ⟨_, a2⟩ | ⟨_, a2⟩
  ·exact .inl ⟨b, a2⟩
  ·rcases hext.own _ c a2 with ⟨b', h3⟩ | h3
   ·exact .inl ⟨_, up b' c h3⟩
   ·exact .inr h3
 ·rcases hext.new c o hi with h3 | ⟨b, h3⟩ | h3
  ·exact .inl h3
  ·exact .inr (.inl ⟨_, up b c h3⟩)
  ·exact .inr (.inr h3)
end
def SV.ren (σ : Nat -> Nat) : SV -> SV
 | .any => .any
 | .imm d => .imm d
 | .ptr b o => .ptr (σ b) o
 | .osl b o l => .osl (σ b) o l
 | .asl b kk rows => .asl (σ b) kk rows
 | .map b => .map (σ b)
 | .yld b => .yld (σ b)
 | .vec b m => .vec (σ b) m
 | .vptr b m o => .vptr (σ b) m o
 | .fn f x y => .fn f (renL σ x) (renL σ y)
 | .iface t v => .iface t (v.ren σ)
 | .agg cs => .agg (renL σ cs)
 | .tup vs => .tup (renL σ vs)
where renL (σ : Nat -> Nat) : List SV -> List SV
 | [] => []
 | s :: r => s.ren σ :: renL σ r
theorem zgd (σ : Nat -> Nat) : ∀ l : List SV, SV.ren.renL σ l = l.map (SV.ren σ)
 | [] => rfl
 | s :: r => by simp only [SV.ren.renL, List.map_cons, zgd σ r]
def SObj.ren (σ : Nat -> Nat) : SObj -> SObj
 | .cells cs => .cells (cs.map (SV.ren σ))
 | .mapI kk es => .mapI kk (es.map fun e => (e.1, e.2.ren σ))
 | .mapS es => .mapS (es.map fun e => (e.1, e.2.ren σ))
 | .loop s f m t ps asg bd => .loop s f m (t.map fun e => (e.1, e.2.ren σ)) ps asg bd
 | .vec kk cs => .vec kk (cs.map (SV.ren σ))
 | .pin kk es c => .pin kk (es.map fun e => (e.1, e.2.1, e.2.2.ren σ)) c
 | .iter m s seen l => .iter (σ m) s seen l
 | .tok kk m => .tok kk m
 | .dead => .dead
 | .free => .free
theorem SObj.ren_dead {σ : Nat -> Nat} {o : SObj} : o.ren σ = .dead ↔ o = .dead := by cases o <;> simp [SObj.ren]
section
variable {w : World} {I : Imm} {β β0 : List Bnd} {σ : Nat -> Nat} {m0 : Nat}
theorem Rep.ren {v : Value} {s : SV} (hg : ∀ b x, β0[b]? = some x -> β[σ b]? = some x) (h : Rep w I β0 v s) : Rep w I β v (s.ren σ) := by
 induction h with
 | any v => exact .any v
 | imm h => exact .imm h
 | ptr b c off h => exact .ptr _ c off (hg _ _ h)
 | osl b c off len cap h h1 h2 => exact .osl _ c off len cap (hg _ _ h) h1 h2
 | asl b kk rows v u m h hu hs hle heq => exact .asl _ kk rows v u m h (hg _ _ hu) hs hle heq
 | map b c h => exact .map _ c (hg _ _ h)
 | yld b c h => exact .yld _ c (hg _ _ h)
 | vec b m v u q h hs hle hv heq => exact .vec _ m v u q (hg _ _ h) hs hle hv heq
 | vptr b m off v a q cap h hle hv heq => exact .vptr _ m off v a q cap (hg _ _ h) hle hv heq
 | fn f fs cs first captured h1 h2 _ _ ih1 ih2 =>
  simp only [SV.ren, zgd]
  exact .fn f fs cs _ _ (by simpa using h1) (by simpa using h2) (fun j hj hj' => by simpa using ih1 j (by simpa using hj) hj') (fun j hj hj' => by simpa using ih2 j (by simpa using hj) hj')
 | iface t v s _ ih => exact .iface t v _ ih
 | agg vs cs h1 _ ih =>
  simp only [SV.ren, zgd]
  exact .agg vs _ (by simpa using h1) (fun j hj hj' => by simpa using ih j (by simpa using hj) hj')
 | tup vs ss h1 _ ih =>
  simp only [SV.ren, zgd]
  exact .tup vs _ (by simpa using h1) (fun j hj hj' => by simpa using ih j (by simpa using hj) hj')
theorem Rep.unren {v : Value} {s' : SV} (hg : ∀ b x, b < m0 -> β[σ b]? = some x -> β0[b]? = some x) (h : Rep w I β v s') : ∀ {s : SV}, s' = s.ren σ -> s.under m0 = true -> Rep w I β0 v s := by
 induction h with
 | any v => intro s hs hb; cases s <;> simp [SV.ren] at hs; exact .any v
 | imm h => intro s hs hb; cases s <;> simp [SV.ren] at hs; subst hs; exact .imm h
 | ptr b c off h => intro s hs hb; cases s <;> simp [SV.ren] at hs; obtain ⟨rfl, rfl⟩ := hs; exact .ptr _ c _ (hg _ _ (by simpa [SV.under] using hb) h)
 | osl b c off len cap h h1 h2 => intro s hs hb; cases s <;> simp [SV.ren] at hs; obtain ⟨rfl, rfl, rfl⟩ := hs; exact .osl _ c _ _ cap (hg _ _ (by simpa [SV.under] using hb) h) h1 h2
 | asl b kk rows v u m h hu hs' hle heq => intro s hs hb; cases s <;> simp [SV.ren] at hs; obtain ⟨rfl, rfl, rfl⟩ := hs; exact .asl _ _ _ v u m h (hg _ _ (by simpa [SV.under] using hb) hu) hs' hle heq
 | map b c h => intro s hs hb; cases s <;> simp [SV.ren] at hs; subst hs; exact .map _ c (hg _ _ (by simpa [SV.under] using hb) h)
 | yld b c h => intro s hs hb; cases s <;> simp [SV.ren] at hs; subst hs; exact .yld _ c (hg _ _ (by simpa [SV.under] using hb) h)
 | vec b m v u q h hs' hle hv heq => intro s hs hb; cases s <;> simp [SV.ren] at hs; obtain ⟨rfl, rfl⟩ := hs; exact .vec _ _ v u q (hg _ _ (by simpa [SV.under] using hb) h) hs' hle hv heq
 | vptr b m off v a q cap h hle hv heq => intro s hs hb; cases s <;> simp [SV.ren] at hs; obtain ⟨rfl, rfl, rfl⟩ := hs; exact .vptr _ _ _ v a q cap (hg _ _ (by simpa [SV.under] using hb) h) hle hv heq
 | fn f fs cs first captured h1 h2 _ _ ih1 ih2 =>
  intro s hs hb
  cases s <;> simp [SV.ren, zgd] at hs
  obtain ⟨rfl, rfl, rfl⟩ := hs
  exact .fn _ fs cs _ _ (by simpa using h1) (by simpa using h2) (fun j hj hj' => ih1 j (by simpa using hj) hj' (by simp) (yh (by simp [SV.under] at hb; exact hb.1) j hj)) (fun j hj hj' => ih2 j (by simpa using hj) hj' (by simp) (yh (by simp [SV.under] at hb; exact hb.2) j hj))
 | iface t v s _ ih => intro s hs hb; cases s <;> simp [SV.ren] at hs; obtain ⟨rfl, rfl⟩ := hs; exact .iface _ v _ (ih rfl (by simpa [SV.under] using hb))
 | agg vs cs h1 _ ih =>
  intro s hs hb
  cases s <;> simp [SV.ren, zgd] at hs
  subst hs
  exact .agg vs _ (by simpa using h1) (fun j hj hj' => ih j (by simpa using hj) hj' (by simp) (yh (by simpa [SV.under] using hb) j hj))
 | tup vs ss h1 _ ih =>
  intro s hs hb
  cases s <;> simp [SV.ren, zgd] at hs
  subst hs
  exact .tup vs _ (by simpa using h1) (fun j hj hj' => ih j (by simpa using hj) hj' (by simp) (yh (by simpa [SV.under] using hb) j hj))
theorem ydn (σ : Nat -> Nat) (t : List (Nat × SV)) (m : Nat) : wu (t.map fun e => (e.1, e.2.ren σ)) m = (wu t m).ren σ := by
 induction t with
 | nil => rfl
 | cons x t ih =>
  simp only [List.map_cons, wu]
  split
  ·rfl
  ·exact ih
theorem ObjOK.ren {o : SObj} {x : Bnd} (hg : ∀ b x, β0[b]? = some x -> β[σ b]? = some x) (h : ObjOK w I β0 o x) : ObjOK w I β (o.ren σ) x := by
 cases o with
 | cells cs =>
  cases x with
  | blk c =>
   obtain ⟨vs, T, h1, h2, h3, h4⟩ := h
   exact ⟨vs, T, h1, by simpa using h2, fun j hj hj' => by simpa using (h3 j (by simpa using hj) hj').ren hg, h4⟩
  | tok u => exact h.elim
 | mapI kk es =>
  cases x with
  | blk c =>
   obtain ⟨ents, clock, h1, h2, h3, h4⟩ := h
   exact ⟨ents, clock, h1, by simpa using h2, fun j hj hj' => by
    have := h3 j (by simpa using hj) hj'
    simp only [List.getElem_map]
    exact ⟨this.1, this.2.ren hg⟩, h4⟩
  | tok u => exact h.elim
 | mapS es =>
  cases x with
  | blk c =>
   obtain ⟨ents, clock, h1, h2, h3, h4⟩ := h
   exact ⟨ents, clock, h1, by simpa using h2, fun j hj hj' => by
    have := h3 j (by simpa using hj) hj'
    simp only [List.getElem_map]
    exact ⟨this.1, this.2.ren hg⟩, h4⟩
  | tok u => exact h.elim
 | tok kk m => cases x <;> exact h
 | loop s f m t ps asg bd =>
  cases x with
  | blk c =>
   obtain ⟨r, a1, a2, a3, a4, a5, a6, a7, a8, a9⟩ := h
   exact ⟨r, a1, a2, a3, a4, a5, a6, a7, fun m => by rw [ydn]; exact (a8 m).ren hg, a9⟩
  | tok u => exact h.elim
 | vec kk cs =>
  cases x with
  | blk c => exact h.elim
  | tok u =>
   rcases h with ⟨rfl, h⟩ | ⟨c, m, cap, vs, T, rfl, a1, a2, a3, a4, a5, a6, a7⟩
   ·exact .inl ⟨rfl, h⟩
   ·exact .inr ⟨c, m, cap, vs, T, rfl, a1, a2, a3, a4, by simpa using a5, fun j hj hj' => by simpa using (a6 j (by simpa using hj) hj').ren hg, a7⟩
 | dead => trivial
 | free => cases x <;> exact h
 | pin kk es clock =>
  cases x with
  | blk c =>
   obtain ⟨ents, h1, h2, h3, h4⟩ := h
   exact ⟨ents, h1, by simpa using h2, fun j hj hj' => by
    have := h3 j (by simpa using hj) hj'
    simp only [List.getElem_map]
    exact ⟨this.1, this.2.1, this.2.2.ren hg⟩, h4⟩
  | tok u => exact h.elim
 | iter m s seen l =>
  cases x with
  | blk c =>
   obtain ⟨cm, h1, h2⟩ := h
   exact ⟨cm, hg _ _ h1, h2⟩
  | tok u => exact h.elim
theorem ObjOK.unren {o : SObj} {x : Bnd} (hg : ∀ b x, b < m0 -> β[σ b]? = some x -> β0[b]? = some x) (h : ObjOK w I β (o.ren σ) x) (hu : o.under m0 = true) : ObjOK w I β0 o x := by
 cases o with
 | cells cs =>
  cases x with
  | blk c =>
   obtain ⟨vs, T, h1, h2, h3, h4⟩ := h
   exact ⟨vs, T, h1, by simpa using h2, fun j hj hj' => (h3 j (by simpa using hj) hj').unren hg (by simp) (yh hu j hj), h4⟩
  | tok u => exact h.elim
 | mapI kk es =>
  cases x with
  | blk c =>
   obtain ⟨ents, clock, h1, h2, h3, h4⟩ := h
   exact ⟨ents, clock, h1, by simpa using h2, fun j hj hj' => by
    have := h3 j (by simpa using hj) hj'
    simp only [List.getElem_map] at this
    exact ⟨this.1, this.2.unren hg rfl (List.all_eq_true.1 hu _ (List.getElem_mem hj))⟩, h4⟩
  | tok u => exact h.elim
 | mapS es =>
  cases x with
  | blk c =>
   obtain ⟨ents, clock, h1, h2, h3, h4⟩ := h
   exact ⟨ents, clock, h1, by simpa using h2, fun j hj hj' => by
    have := h3 j (by simpa using hj) hj'
    simp only [List.getElem_map] at this
    exact ⟨this.1, this.2.unren hg rfl (List.all_eq_true.1 hu _ (List.getElem_mem hj))⟩, h4⟩
  | tok u => exact h.elim
 | tok kk m => cases x <;> exact h
 | loop s f m t ps asg bd =>
  cases x with
  | blk c =>
   obtain ⟨r, a1, a2, a3, a4, a5, a6, a7, a8, a9⟩ := h
   exact ⟨r, a1, a2, a3, a4, a5, a6, a7, fun m => (a8 m).unren hg (ydn σ t m) (zbx hu m), a9⟩
  | tok u => exact h.elim
 | vec kk cs =>
  cases x with
  | blk c => exact h.elim
  | tok u =>
   rcases h with ⟨h0, h⟩ | ⟨c, m, cap, vs, T, rfl, a1, a2, a3, a4, a5, a6, a7⟩
   ·exact .inl ⟨by simpa using h0, h⟩
   ·exact .inr ⟨c, m, cap, vs, T, rfl, a1, a2, a3, a4, by simpa using a5, fun j hj hj' => (a6 j (by simpa using hj) hj').unren hg (by simp) (yh hu j hj), a7⟩
 | dead => trivial
 | free => cases x <;> exact h
 | pin kk es clock =>
  cases x with
  | blk c =>
   obtain ⟨ents, h1, h2, h3, h4⟩ := h
   exact ⟨ents, h1, by simpa using h2, fun j hj hj' => by
    have := h3 j (by simpa using hj) hj'
    simp only [List.getElem_map] at this
    exact ⟨this.1, this.2.1, this.2.2.unren hg rfl (List.all_eq_true.1 hu _ (List.getElem_mem hj))⟩, h4⟩
  | tok u => exact h.elim
 | iter m s seen l =>
  cases x with
  | blk c =>
   obtain ⟨cm, h1, h2⟩ := h
   exact ⟨cm, hg _ _ (by simpa [SObj.under] using hu) h1, h2⟩
  | tok u => exact h.elim
end
section
variable {P : Program} {G : List (Nat × D)}
end
mutual
theorem SV.under_mono {m n : Nat} (h : m <= n) : ∀ s : SV, s.under m = true -> s.under n = true
 | .any, _ => rfl
 | .imm _, _ => rfl
 | .ptr b _, hs => by simp only [SV.under, decide_eq_true_eq] at hs ⊢; omega
 | .osl b _ _, hs => by simp only [SV.under, decide_eq_true_eq] at hs ⊢; omega
 | .asl b _ _, hs => by simp only [SV.under, decide_eq_true_eq] at hs ⊢; omega
 | .map b, hs => by simp only [SV.under, decide_eq_true_eq] at hs ⊢; omega
 | .yld b, hs => by simp only [SV.under, decide_eq_true_eq] at hs ⊢; omega
 | .vec b _, hs => by simp only [SV.under, decide_eq_true_eq] at hs ⊢; omega
 | .vptr b _ _, hs => by simp only [SV.under, decide_eq_true_eq] at hs ⊢; omega
 | .fn _ x y, hs => by
  simp only [SV.under, Bool.and_eq_true] at hs ⊢
  exact ⟨jc h x hs.1, jc h y hs.2⟩
 | .iface _ v, hs => by
  simp only [SV.under] at hs ⊢
  exact SV.under_mono h v hs
 | .agg cs, hs => by
  simp only [SV.under] at hs ⊢
  exact jc h cs hs
 | .tup vs, hs => by
  simp only [SV.under] at hs ⊢
  exact jc h vs hs
theorem jc {m n : Nat} (h : m <= n) : ∀ l : List SV, SV.under.allUnder m l = true -> SV.under.allUnder n l = true
 | [], _ => rfl
 | s :: r, hs => by
  simp only [SV.under.allUnder, Bool.and_eq_true] at hs ⊢
  exact ⟨SV.under_mono h s hs.1, jc h r hs.2⟩
end
theorem SObj.under_mono {m n : Nat} (h : m <= n) (o : SObj) (ho : o.under m = true) : o.under n = true := by
 cases o with
 | cells cs => exact jc h cs ho
 | mapI _ es =>
  simp only [SObj.under, List.all_eq_true] at ho ⊢
  exact fun e he => SV.under_mono h _ (ho e he)
 | mapS es =>
  simp only [SObj.under, List.all_eq_true] at ho ⊢
  exact fun e he => SV.under_mono h _ (ho e he)
 | loop s f n t ps a b =>
  simp only [SObj.under, List.all_eq_true] at ho ⊢
  exact fun e he => SV.under_mono h _ (ho e he)
 | vec _ cs => exact jc h cs ho
 | pin _ es _ =>
  simp only [SObj.under, List.all_eq_true] at ho ⊢
  exact fun e he => SV.under_mono h _ (ho e he)
 | iter b _ _ _ => simp only [SObj.under, decide_eq_true_eq] at ho ⊢; omega
 | tok _ _ => rfl
 | dead => rfl
 | free => rfl
theorem yz {m n : Nat} (h : m <= n) {l : List SObj} (hl : l.all (SObj.under m) = true) : l.all (SObj.under n) = true := by
 simp only [List.all_eq_true] at hl ⊢
 exact fun o ho => SObj.under_mono h o (hl o ho)
theorem zke (N : Nat) (a b : List SV) (ha : SV.under.allUnder N a = true) (hb : SV.under.allUnder N b = true) : SV.under.allUnder N (a ++ b) = true := by
 induction a with
 | nil => exact hb
 | cons x a ih => simp only [SV.under.allUnder, Bool.and_eq_true, List.cons_append] at ha ⊢; exact ⟨ha.1, ih ha.2⟩
section
variable {P : Program} {G : List (Nat × D)} {fn : Func} {rd : Bool} {E : En P G fn rd} {t : List (Nat × SV)} {H K : List SObj} {k : List Item} {m : Nat} {all : Array Oper} {rest : List Oper} {done : List Eff} {o : Oper}
theorem ydo {c : Code} (h : SW E (.code c :: .inScope c :: k) t H) : SW E (.code (.scope c) :: k) t H := zds (fun _ _ _ => step_lone_go (by simp [stepG, stepG.exec, En.at, atR, Frame.at])) h
theorem zge {ty e n : Nat} {x ix : Operand} {b off len i : Nat} {mm : Int} {kk : IntKind} (hop : o.op = .indexAddr ty x ix)
  (hw : zy all t o.guard = some true) (hd : yf fn.ntmps o.dst = true) (hx : zn G t x = .osl b off len) (hi : zn G t ix = .imm (.val (.int kk mm)))
  (hu : P.underlying ty = some (.slice e)) (hn : wb P e = some n) (hmm : mm = (i : Int)) (hr : i < len)
  (h : SWr E all rest k (wm t o.dst (.ptr b (off + i * n))) H) : SWr E all (o :: rest) k t H :=
 zas hw hd (by
  subst hmm
  rw [hop]
  simp only [sop, hi, jv, hu, hn, hx]
  rw [if_pos (by omega)]
  simp) (Nat.le_refl _) h
theorem ygj {t e kk by_ : Nat} {z : Value} {k1 k2 : IntKind} (hu : P.underlying t = some (.slice e)) (hk : wb P e = some kk) (hby : jk P e = some by_) (w : World) :
  (Instr.makeSlice t (.int k1 0) (.int k2 0)).run P w = .ok (.slice (some ⟨w.heap.size, 0, none⟩) 0 0) (w.alloc (.cells ((Array.range (0 * kk)).map (z.cells[· % z.cells.size]!)) e)) := by
 have hinfo : ∀ w : World, (typeInfo e).run P w = .ok ((P.info? e).getD default) w /\ ((P.info? e).getD default).bytes = by_ := by
  intro w
  unfold jk at hby
  cases hi : P.info? e with
  | none => simp [hi] at hby
  | some i => simp [hi] at hby; simp [typeInfo, hi, hby]
 have wc := zmg (c := 0) (by omega) (by omega)
 have hinf := hinfo w
 simp only [Instr.makeSlice, Sem.run_bind, run_underlying hu, Result.andThen_ok, asInt, asIntOf, Sem.run_pure, hinf.1, hinf.2, wc]
 rw [if_neg (by simp)]
 simp only [Sem.run_bind, Result.andThen_ok, run_askRoom, xa hk]
 have hn0 : (0 : Int).toNat * kk = 0 := by simp
 rw [if_pos hn0]
 have ha : ((Array.range ((0 : Int).toNat * kk)).map fun x => (#[] : Array Value)[x % (#[] : Array Value).size]!) = ((Array.range (0 * kk)).map (z.cells[· % z.cells.size]!)) := by
  apply Array.ext'; simp
 simp only [Sem.run_pure, Result.andThen_ok, newRow, Sem.run_bind, run_newObj, ha]
 rfl
theorem znu {w : World} {I : Imm} {β : List Bnd} {ρ : Operand -> Value} {ty e kk by_ : Nat} {lx cx : Operand} {k1 k2 : IntKind} (hop : o.op = .makeSlice ty lx cx) (hH : HeapOK G w I β H)
  (hl : Rep w I β (ρ lx) (.imm (.val (.int k1 0)))) (hc : Rep w I β (ρ cx) (.imm (.val (.int k2 0)))) (hu : P.underlying ty = some (.slice e)) (hk : wb P e = some kk) (hby : jk P e = some by_) :
  OpRun P G (execOp ρ o) w I β H (.osl H.length 0 0) (H ++ [.cells []]) := by
 obtain ⟨dst, op, type, pos, after, guard⟩ := o
 simp only at hop
 subst hop
 generalize hvl : ρ lx = vl at hl
 generalize hvc : ρ cx = vc at hc
 cases hl with | imm hl => cases hl with | val _ =>
 cases hc with | imm hc => cases hc with | val _ =>
 have hr := ygj (k1 := k1) (k2 := k2) (z := undef) hu hk hby w
 have hemp : ((Array.range (0 * kk)).map (undef.cells[· % undef.cells.size]!)) = #[] := by apply Array.ext'; simp
 rw [hemp] at hr
 obtain ⟨h1, h2, _⟩ := zku (T := e) (vs := #[]) (cs := []) hH .nil
 have := OpRun.value (P := P) (H' := H ++ [.cells []]) hr (.osl H.length w.heap.size 0 0 0 (by rw [<- hH.len]; simp) (Nat.le_refl _) (by unfold maxLen; omega)) h1 h2
 simp only [execOp, hvl, hvc]
 exact this
theorem yke {ty e by_ : Nat} {z : Value} {lx cx : Operand} {n : Nat} {k1 k2 : IntKind} {l1 l2 : Int} {zz : SV} (hop : o.op = .makeSlice ty lx cx)
  (hw : zy all t o.guard = some true) (hd : yf fn.ntmps o.dst = true) (hl : zn G t lx = .imm (.val (.int k1 l1))) (hc : zn G t cx = .imm (.val (.int k2 l2)))
  (hu : P.underlying ty = some (.slice e)) (hk : wb P e = some 1) (hby : jk P e = some by_) (hz : je P e = some z) (hb : by_ <= 65536 /\ z.cells.size = 1) (hzz : zcp z = [zz])
  (h1 : l1 = (n : Int)) (h2 : l2 = (n : Int)) (hn2 : n <= 1073741824)
  (h : SWr E all rest k (wm t o.dst (.osl H.length 0 n)) (H ++ [.cells (List.replicate n zz)])) : SWr E all (o :: rest) k t H := by
 subst h1 h2
 cases n with
 | zero =>
  refine zan hw hd (fun c e => by rw [hop] at e; cases e) (by simp) (fun ρ w I β hH hev => ?_) h
  have a1 := hev lx
  have a2 := hev cx
  rw [hl] at a1
  rw [hc] at a2
  exact znu hop hH a1 a2 hu hk hby
 | succ n =>
  refine zas (H' := H ++ [.cells (List.replicate (n + 1) zz)]) hw hd ?_ (by simp) h
  rw [hop]
  simp only [sop, hl, hc, jw, hu, hk, hby, hz]
  rw [if_pos ⟨hb.1, hb.2, by omega, by omega, Nat.le_refl _⟩, if_neg (by omega), if_pos trivial, hzz, ydc]
  rfl
theorem zhq (N : Nat) {zz : SV} (h : zz.under N = true) : ∀ n, SV.under.allUnder N (List.replicate n zz) = true
 | 0 => rfl
 | n + 1 => by simp only [List.replicate_succ, SV.under.allUnder, h, zhq N h n, Bool.and_self]
theorem ykf (nx : Nat) {ty e by_ : Nat} {z : Value} {lx cx : Operand} {n : Nat} {k1 k2 : IntKind} {l1 l2 : Int} {zz : SV} (hop : o.op = .makeSlice ty lx cx)
  (hw : zy all t o.guard = some true) (hd : yf fn.ntmps o.dst = true) (hl : zn G t lx = .imm (.val (.int k1 l1))) (hc : zn G t cx = .imm (.val (.int k2 l2)))
  (hu : P.underlying ty = some (.slice e)) (hk : wb P e = some 1) (hby : jk P e = some by_) (hz : je P e = some z) (hb : by_ <= 65536 /\ z.cells.size = 1) (hzz : zcp z = [zz]) (hzu : ∀ N, zz.under N = true)
  (hm : m <= nx) (hnx : K[nx]? = some .dead) (h1 : l1 = (n : Int)) (h2 : l2 = (n : Int)) (hn2 : n <= 1073741824)
  (h : SWe E m all rest k (wm t o.dst (.osl nx 0 n)) (K.set nx (.cells (List.replicate n zz))) (done ++ [⟨.osl nx 0 n, [], some (nx, .cells (List.replicate n zz))⟩])) : SWe E m all (o :: rest) k t K done := by
 subst h1 h2
 cases n with
 | zero =>
  refine zbe (e := ⟨.osl nx 0 0, [], some (nx, .cells [])⟩) ⟨hd, .inr ⟨hw, fun K' hl' ha => ?_⟩⟩ h
  intro ρ w I β hH hph hops
  have a1 := hops lx (by rw [hop]; simp [Op.operands])
  have a2 := hops cx (by rw [hop]; simp [Op.operands])
  rw [hl] at a1
  rw [hc] at a2
  obtain ⟨q, v, w', I', β1, g1, g2, g3, g4, g5⟩ := znu hop hH a1 a2 hu hk hby
  have hnx' : K'[nx]? = some .dead := by rw [ha nx (.inr ⟨_, rfl⟩)]; exact hnx
  obtain ⟨β2, q1, q2⟩ := zxx (m := m) hm hnx' hH (hph nx hm hnx') g3 g4 g5 (by simp [SV.isNew]) rfl
  simp only [SV.mv, if_true] at q1
  exact .inl ⟨q, v, w', I', β2, g1, g2, q1, q2⟩
 | succ n =>
  have := yah (E := E) (m := m) (all := all) (rest := rest) (k := k) (t := t) (K := K) (done := done) nx (r := .osl K.length 0 (n + 1)) (ob := .cells (List.replicate (n + 1) zz)) hw hd hm hnx (by simp [SV.isNew]) (zhq _ (hzu _) _)
   (fun K' hl' => by
    rw [hop]
    simp only [sop, hl, hc, jw, hu, hk, hby, hz]
    rw [if_pos ⟨hb.1, hb.2, by omega, by omega, Nat.le_refl _⟩, if_neg (by omega), if_pos trivial, hzz, ydc, hl']
    rfl)
  simp only [SV.mv, if_true] at this
  exact this h
def ydp (P : Program) (G : List (Nat × D)) (f : FuncId) (args : List SV) (g : FuncId) (cs : List SV) : Prop :=
 ∀ H, SCall P G f args H (fun r' H' => r' = .fn (.func g) [] [.ptr H.length 0] /\ H' = H ++ [.cells cs])
theorem ygk {fx : Operand} {args : Array Operand} {tys : Array TypeId} {f g : FuncId} {first captured cs : List SV} (hop : o.op = .call ⟨.value fx, args, tys⟩) (hw : zy all t o.guard = some true) (hd : yf fn.ntmps o.dst = true)
  (hf : zn G t fx = .fn (.func f) first captured) (hb : qp P f = true) {argv : List SV} (hargs : first ++ args.toList.map (zn G t) ++ captured = argv) (hc : ydp P G f argv g cs)
  (h : SWr E all rest k (wm t o.dst (.fn (.func g) [] [.ptr H.length 0])) (H ++ [.cells cs])) : SWr E all (o :: rest) k t H :=
 we hop hw hd hf hb hargs ((hc H).mono fun r' H' ⟨e1, e2⟩ => by subst e1 e2; exact ⟨by simp, h⟩)
theorem ygl (nx : Nat) {fx : Operand} {args : Array Operand} {tys : Array TypeId} {f g : FuncId} {first captured cs : List SV} (hop : o.op = .call ⟨.value fx, args, tys⟩) (hw : zy all t o.guard = some true) (hd : yf fn.ntmps o.dst = true)
  (hf : zn G t fx = .fn (.func f) first captured) (hb : qp P f = true) {argv : List SV} (hargs : first ++ args.toList.map (zn G t) ++ captured = argv) (hm : m <= nx) (hnx : K[nx]? = some .dead) (hcs : SV.under.allUnder K.length cs = true) (hc : ydp P G f argv g cs)
  (h : SWe E m all rest k (wm t o.dst (.fn (.func g) [] [.ptr nx 0])) (K.set nx (.cells cs)) (done ++ [⟨.fn (.func g) [] [.ptr nx 0], [], some (nx, .cells cs)⟩])) : SWe E m all (o :: rest) k t K done := by
 refine zbe (e := ⟨.fn (.func g) [] [.ptr nx 0], [], some (nx, .cells cs)⟩) ⟨hd, .inr ⟨hw, fun K' hl' ha => ?_⟩⟩ h
 intro ρ w I β hH hph hops
 have hmem : ∀ x, x = fx \/ x ∈ args.toList -> x ∈ o.op.operands := fun x hx => by rw [hop]; rcases hx with rfl | hx <;> simp_all [Op.operands, Call.operands]
 have hfr := hops fx (hmem fx (.inl rfl))
 rw [hf] at hfr
 generalize hfv : ρ fx = fv at hfr
 cases hfr with
 | fn _ fs cps _ _ l1 l2 r1 r2 =>
 have hrun : (execOp ρ o).run P w = .ok (.enter f (fs ++ args.map ρ ++ cps)) w := by
  obtain ⟨dst, op, type, pos, after, guard⟩ := o
  simp only at hop
  subst hop
  simp only [execOp, resolve, hfv, Deferred.ofValue, Sem.run_bind, Sem.run_pure, Result.andThen_ok, invoke]
  exact jm hb
 have hreps : Reps w I β (fs ++ args.map ρ ++ cps).toList argv := by
  rw [<- hargs]
  have e1 : Reps w I β fs.toList first := .of_get l1 r1
  have e2 : Reps w I β (args.map ρ).toList (args.toList.map (zn G t)) := by
   have : ∀ l : List Operand, (∀ x ∈ l, x ∈ args.toList) -> Reps w I β (l.map ρ) (l.map (zn G t)) := by
    intro l
    induction l with
    | nil => intro _; exact .nil
    | cons x l ihl => intro hl; exact .cons (hops x (hmem x (.inr (hl x (by simp))))) (ihl fun y hy => hl y (by simp [hy]))
   simpa using this args.toList (fun _ h => h)
  have e3 : Reps w I β cps.toList captured := .of_get l2 r2
  simpa using (e1.append e2).append e3
 have hnx' : K'[nx]? = some .dead := by rw [ha nx (.inr ⟨_, rfl⟩)]; exact hnx
 refine .inr ⟨f, _, hrun, (hc K' w I β _ hH hreps).mono ?_⟩
 rintro e w' ⟨v, r', I', β', H', rfl, ⟨rfl, rfl⟩, g1, g2, g3⟩
 cases g1 with
 | fn _ fs' cs' _ _ k1 k2 k3 k4 =>
 have hp := k4 0 (by simp) (by simp at k2; omega)
 simp only [List.getElem_cons_zero] at hp
 obtain ⟨β2, q1, q2⟩ := zxx (m := m) hm hnx' hH (hph nx hm hnx') hp g2 g3 (by simp [SV.isNew]) (by simp only [SObj.under]; rw [hl']; exact hcs)
 simp only [SV.mv, if_true] at q1
 refine ⟨_, I', β2, rfl, .fn _ fs' cs' [] [.ptr nx 0] k1 k2 (fun j h => by simp at h) (fun j h h' => ?_), q2⟩
 have : j = 0 := by simp at h; omega
 subst this
 exact q1
end
end Go.Sh
namespace Go.Proofs.YtblpjknmhajcgaaGreatDoor
open Go Go.Sh
variable (G : List (Nat × D))
mutual
def zkf : Ex -> Prop
 | .mk _ _ _ _ ps ks => ps.length <= 1000000 /\ ks.length <= 1000000 /\ zdy ks
def zdy : List Ex -> Prop
 | [] => True
 | e :: r => zkf e /\ zdy r
end
theorem zaw : ∀ {ks : List Ex}, zdy ks -> ∀ k ∈ ks, zkf k
 | _ :: _, h, k, hk => by
  unfold zdy at h
  rcases List.mem_cons.1 hk with rfl | hk
  ·exact h.1
  ·exact zaw h.2 k hk
theorem zya : ∀ {a b : List Ex}, a.length ≠ b.length -> zsg a b = false
 | [], [], h => by simp at h
 | [], _ :: _, _ => rfl
 | _ :: _, [], _ => rfl
 | x :: a, y :: b, h => by
  rw [zsg, zya (a := a) (b := b) (by simpa using h), Bool.and_false]
theorem zve (a b : List Piece) (ha : a.length <= 1000000) (hb : b.length <= 1000000) :
  yb Tryz.prog G 146 [.imm (.isl 3 (a.map Piece.cells)), .imm (.isl 3 (b.map Piece.cells))] (sB (decide (a.map Piece.key = b.map Piece.key))) := by
 refine ze Tryz.func146 rfl (by rw [Tryz.ntmps146]; simp) rfl rfl ?_; intro E hH hK
 have hla : (a.map Piece.cells).length = a.length := by simp
 have hlb : (b.map Piece.cells).length = b.length := by simp
 (refine zh ?_; conv => whnf)
 repeat' ((with_reducible refine way ?_ ?_) <;> (intro h; conv => whnf))
 ·have : decide (a.map Piece.key = b.map Piece.key) = false := by
   rw [decide_eq_false_iff_not]
   intro he
   have := congrArg List.length he
   simp only [List.length_map] at this
   omega
  rw [this] at hK
  exact hK _
 have hll : a.length = b.length := by omega
 refine zf [0, 1, 11, 12, 13] ?_
 refine zt a (fun i (_ : Unit) => [(0, .imm (.isl 3 (a.map Piece.cells))), (1, .imm (.isl 3 (b.map Piece.cells))), (11, .imm (.isl 3 (a.map Piece.cells))), (12, sI (a.map Piece.cells).length), (13, sI i)]) (fun _ _ => [])
  (fun done _ _ => done.map Piece.key = (b.take done.length).map Piece.key) () (by simp) ?_ ?_
 ·rintro _ h1
  (refine zh ?_; conv => whnf)
  repeat' ((with_reducible refine way ?_ ?_) <;> (intro h; conv => whnf))
  all_goals try (exfalso; omega)
  rw [hll, List.take_length] at h1
  rw [decide_eq_true h1] at hK
  exact hK _
 ·rintro done x rest _ hda hdl h1 ih
  have hw := zm (n := done.length) (by omega)
  have hlt : done.length < b.length := by rw [<- hll, hda]; simp
  obtain ⟨y, hy⟩ : ∃ y, b[done.length]? = some y := ⟨_, List.getElem?_eq_getElem hlt⟩
  (refine zh ?_; conv => whnf)
  repeat' ((with_reducible refine way ?_ ?_) <;> (intro h; conv => whnf))
  all_goals try (exfalso; omega)
  (refine ya 0 mixed rfl ?_; refine zc [777] (nx := 0) ?_; conv => whnf)
  refine yc rfl (by simp) rfl  (row := x.cells) (by simp [hda]) ?_
  (refine zc [777] (nx := 0) ?_; conv => whnf)
  refine yc rfl (by simp) rfl  (row := y.cells) (by simp [hy]) ?_
  (refine zc [777] (nx := 0) ?_; conv => whnf)
  refine yqu rfl rfl (ygd rfl rfl rfl rfl Tryz.stoodInHeld189 (by decide) (by decide) (by decide) rfl rfl rfl rfl rfl rfl Tryz.eqGuardType189) ?_
  have htk : b.take (done.length + 1) = b.take done.length ++ [y] := by rw [List.take_add_one, hy]; rfl
  by_cases he : Piece.key x = Piece.key y
  ·have : (!(decide (x.lo = y.lo) && (decide (x.at_ = y.at_) && decide (x.slope = y.slope)))) = false := by
    simp only [Piece.key, Prod.mk.injEq] at he
    simp [he]
   rw [this]
   (refine zc [777] (nx := 0) ?_; conv => whnf)
   (refine zh ?_; conv => whnf)
   rw [hw]
   refine yr [0, 1, 11, 12, 13] 0 (by simp [hH]) (by simp) rfl rfl (ih () ?_)
   rw [List.map_append, h1, List.length_append]
   show _ = List.map Piece.key (b.take (done.length + 1))
   rw [htk]
   simp [he]
  ·have : (!(decide (x.lo = y.lo) && (decide (x.at_ = y.at_) && decide (x.slope = y.slope)))) = true := by
    simp only [Piece.key, Prod.mk.injEq] at he
    simp only [Bool.not_eq_true', Bool.and_eq_false_iff, decide_eq_false_iff_not]
    by_cases h2 : x.lo = y.lo
    ·by_cases h3 : x.at_ = y.at_
     ·exact .inr (.inr fun h4 => he ⟨h2, h3, h4⟩)
     ·exact .inr (.inl h3)
    ·exact .inl h2
   rw [this]
   (refine zc [777] (nx := 0) ?_; conv => whnf)
   (refine zh ?_; conv => whnf)
   have : decide (a.map Piece.key = b.map Piece.key) = false := by
    rw [decide_eq_false_iff_not]
    intro h2
    apply he
    have h3 : (a.map Piece.key)[done.length]? = some (Piece.key x) := by simp [hda]
    rw [h2, List.getElem?_map, hy] at h3
    exact (Option.some.inj h3).symm
   rw [this] at hK
   exact hK _
theorem yat (a b : List Ex) (hE : ∀ e ∈ a, ∀ e' ∈ b, yb Tryz.prog G 109 [e.sv, e'.sv] (sB (zot e e'))) (ha : a.length <= 1000000) (hb : b.length <= 1000000) :
  yb Tryz.prog G 147 [.imm (.isl 6 (zb a)), .imm (.isl 6 (zb b)), .fn (.func 109) [] []] (sB (zsg a b)) := by
 rw [zp, zp]
 refine ze Tryz.func147 rfl (by rw [Tryz.ntmps147]; simp) rfl rfl ?_; intro E hH hK
 have hla : (a.map Ex.cells).length = a.length := by simp
 have hlb : (b.map Ex.cells).length = b.length := by simp
 (refine zh ?_; conv => whnf)
 repeat' ((with_reducible refine way ?_ ?_) <;> (intro h; conv => whnf))
 ·rw [zya (by omega)] at hK
  exact hK _
 have hll : a.length = b.length := by omega
 refine zf [1, 2, 15, 16, 17] ?_
 refine zt a (fun i (_ : Unit) => [(1, .imm (.isl 6 (b.map Ex.cells))), (2, .fn (.func 109) [] []), (15, .imm (.isl 6 (a.map Ex.cells))), (16, sI (a.map Ex.cells).length), (17, sI i)]) (fun _ _ => [])
  (fun done rest _ => zsg a b = zsg rest (b.drop done.length)) () (by simp) ?_ ?_
 ·rintro _ h1
  (refine zh ?_; conv => whnf)
  repeat' ((with_reducible refine way ?_ ?_) <;> (intro h; conv => whnf))
  all_goals try (exfalso; omega)
  rw [hll, List.drop_length] at h1
  rw [h1] at hK
  exact hK _
 ·rintro done x rest _ hda hdl h1 ih
  have hw := zm (n := done.length) (by omega)
  have hlt : done.length < b.length := by rw [<- hll, hda]; simp
  obtain ⟨y, hy⟩ : ∃ y, b[done.length]? = some y := ⟨_, List.getElem?_eq_getElem hlt⟩
  have hym := List.mem_of_getElem? hy
  have hcall := hE x (by rw [hda]; simp) y hym
  have hdr : b.drop done.length = y :: b.drop (done.length + 1) := by
   rw [List.drop_eq_getElem_cons hlt]
   rw [List.getElem?_eq_getElem hlt] at hy
   rw [Option.some.inj hy]
  rw [hdr, zsg] at h1
  have hrx : (a.map Ex.cells)[((done.length : Nat) : Int).toNat]? = some x.cells := by simp [hda]
  have hry : (b.map Ex.cells)[((done.length : Nat) : Int).toNat]? = some y.cells := by simp [hy]
  generalize zot x y = z at hcall h1
  obtain ⟨xo, xn, xu, xd, xp, xk⟩ := x
  obtain ⟨yo, yn, yu, yd, yp, yk⟩ := y
  (refine zh ?_; conv => whnf)
  repeat' ((with_reducible refine way ?_ ?_) <;> (intro h; conv => whnf))
  all_goals try (exfalso; omega)
  refine zg rfl rfl  hrx ?_
  (refine za ?_; conv => whnf)
  refine zg rfl rfl  hry ?_
  (refine za ?_; conv => whnf)
  refine zd rfl  hcall ?_
  cases z <;> ((refine za ?_; conv => whnf))
  ·rw [h1, Bool.false_and] at hK
   exact hK _
  ·rw [hw]
   refine yr [1, 2, 15, 16, 17] 0 (by simp [hH]) (by simp) rfl rfl (ih () ?_)
   rw [h1, Bool.true_and, List.length_append]
   rfl
theorem zta : ∀ (N : Nat) (e e' : Ex), SizeOf.sizeOf e < N -> zkf e -> zkf e' -> yb Tryz.prog G 109 [e.sv, e'.sv] (sB (zot e e'))
 | 0, _, _, h, _, _ => by omega
 | N + 1, .mk op n u den ps ks, .mk op' n' u' den' ps' ks', hN, hl, hl' => by
  unfold zkf at hl hl'
  obtain ⟨l1, l2, l3⟩ := hl
  obtain ⟨m1, m2, m3⟩ := hl'
  simp only [Ex.mk.sizeOf_spec] at hN
  have hk : ∀ e ∈ ks, ∀ e' ∈ ks', yb Tryz.prog G 109 [e.sv, e'.sv] (sB (zot e e')) := fun e he e' he' => by
   have := List.sizeOf_lt_of_mem he
   exact zta N e e' (by omega) (zaw l3 e he) (zaw m3 e' he')
  have h1 := zve G ps ps' l1 m1
  have h2 := yat G ks ks' hk l2 m2
  have hx : zot (.mk op n u den ps ks) (.mk op' n' u' den' ps' ks') = (decide (op = op') && decide (n = n') && decide (u = u') && decide (den = den') && decide (ps.map Piece.key = ps'.map Piece.key) && zsg ks ks') := by rw [zot]
  rw [hx]
  generalize decide (ps.map Piece.key = ps'.map Piece.key) = z1 at h1
  generalize zsg ks ks' = z2 at h2
  refine ze Tryz.func109 rfl (by rw [Tryz.ntmps109]; simp) rfl rfl ?_; intro E hH hK
  (refine zh ?_; conv => whnf)
  repeat' ((with_reducible refine way ?_ ?_) <;> (intro h; conv => whnf))
  case' refine_1.refine_1.refine_1.refine_2 =>
   rename_i g1 g2 g3
   subst g1 g2 g3
   rw [show (decide (op = op) && decide (n = n) && decide (u = u) && decide (den = den') && z1 && z2) = (z1 && z2) by simp [*]] at hK
   refine zd rfl  h1 ?_
   cases z1 <;> ((refine za ?_; conv => whnf))
  case refine_1.refine_1.refine_1.refine_2.false => exact hK _
  case' refine_1.refine_1.refine_1.refine_2.true =>
   refine zd rfl  h2 ?_
   (refine za ?_; conv => whnf)
  case refine_1.refine_1.refine_1.refine_2.true => exact hK _
  all_goals
   rw [show (decide (op = op') && decide (n = n') && decide (u = u') && decide (den = den') && z1 && z2) = false by simp [*]] at hK
   exact hK _
def eqF : SV := .fn (.func 109) [] []
def HC (p : Ex) : List SObj := [.cells [eqF], .cells (p.cells.map SV.imm)]
theorem zfg (l : List D) (n : Nat) : SV.under.allUnder n (l.map SV.imm) = true := by
 induction l with
 | nil => rfl
 | cons a l ih => simp [SV.under.allUnder, SV.under, ih]
theorem zgf (p : Ex) : (HC p).all (SObj.under 2) = true := by
 simp only [HC, List.all_cons, List.all_nil, SObj.under, zfg, Bool.and_true]
 rfl
theorem zyb (p e : Ex) (hp : zkf p) (he : zkf e) :
  SPre Tryz.prog G 145 [e.sv, .ptr 0 0, .ptr 1 0] (HC p) (fun r H' => r = sB (zot e p) /\ H' = HC p) := by
 have h1 := zta G _ e p (Nat.lt_succ_self _) he hp
 generalize zot e p = z at h1 ⊢
 obtain ⟨op, n, u, den, ps, ks⟩ := e
 obtain ⟨op', n', u', den', ps', ks'⟩ := p
 refine wk Tryz.func145 rfl (by rw [Tryz.ntmps145]; simp) ?_ (zgf _) ?_
 ·simp only [List.all_cons, List.all_nil, Ex.sv, SV.under, zfg]
  rfl
 intro E hH hK
 (refine zi ?_; conv => whnf)
 refine zd rfl  h1 ?_
 (refine zj ?_; conv => whnf)
 exact hK _ _ (by show 2 <= 3; decide) rfl (zgf (.mk op' n' u' den' ps' ks')) ⟨rfl, rfl⟩
theorem zsi (l : List Ex) (p : Ex) (hp : zkf p) (hl : zdy l) (hz : l.length <= 1000000) :
  SPre Tryz.prog G 166 [.imm (.isl 6 (l.map Ex.cells)), .fn (.func 145) [] [.ptr 0 0, .ptr 1 0]] (HC p)
   (fun r H' => (∃ i : Int, r = sI i /\ (0 <= i ↔ l.any (fun e => zot e p) = true)) /\ H' = HC p) := by
 refine wk Tryz.func166 rfl (by rw [Tryz.ntmps166]; simp) rfl (zgf _) ?_
 intro E hH hK
 have hla : (l.map Ex.cells).length = l.length := by simp
 (refine zh ?_; conv => whnf)
 refine zf [0, 1, 7, 8] ?_
 refine Eq.mpr (congrArg (fun h => SW E _ _ h) (show _ = HC p from rfl)) ?_
 refine zt l (fun i (_ : Unit) => [(0, .imm (.isl 6 (l.map Ex.cells))), (1, .fn (.func 145) [] [.ptr 0 0, .ptr 1 0]), (7, sI (l.map Ex.cells).length), (8, sI i)]) (fun _ _ => HC p)
  (fun done rest _ => ∀ e ∈ done, zot e p = false) () (by simp) ?_ ?_
 ·rintro _ h1
  (refine zh ?_; conv => whnf)
  repeat' ((with_reducible refine way ?_ ?_) <;> (intro h; conv => whnf))
  all_goals try (exfalso; omega)
  refine hK _ _ (Nat.le_refl _) rfl (zgf p) ⟨⟨-1, rfl, ⟨fun h => by omega, fun h => ?_⟩⟩, rfl⟩
  obtain ⟨e, he, h2⟩ := List.any_eq_true.1 h
  rw [h1 e he] at h2
  cases h2
 ·rintro done x rest _ hda hdl h1 ih
  have hw := zm (n := done.length) (by omega)
  have hrx : (l.map Ex.cells)[((done.length : Nat) : Int).toNat]? = some x.cells := by simp [hda]
  have hxm : x ∈ l := by rw [hda]; simp
  have hcall := zyb G p x hp (zaw hl x hxm)
  have hany : zot x p = true -> l.any (fun e => zot e p) = true := fun h => List.any_eq_true.2 ⟨x, hxm, h⟩
  have hnxt : zot x p = false -> ∀ e ∈ done ++ [x], zot e p = false := fun h e he => by
   rcases List.mem_append.1 he with he | he
   ·exact h1 e he
   ·simp at he; rw [he]; exact h
  generalize zot x p = z at hcall hany hnxt
  obtain ⟨xo, xn, xu, xd, xp, xk⟩ := x
  (refine zh ?_; conv => whnf)
  repeat' ((with_reducible refine way ?_ ?_) <;> (intro h; conv => whnf))
  all_goals try (exfalso; omega)
  refine zg rfl rfl  hrx ?_
  (refine za ?_; conv => whnf)
  refine ys 2 rfl rfl rfl rfl rfl rfl hcall ?_
  rintro r9 H9 ⟨rfl, rfl⟩ _
  refine Eq.mpr (congrArg (fun h => SWr E _ _ _ _ h) (show _ = HC p from rfl)) ?_
  cases z <;> ((refine za ?_; conv => whnf))
  ·rw [hw]
   refine zf [0, 1, 7, 8] ?_
   exact ih () (hnxt rfl)
  ·refine hK _ _ (Nat.le_refl _) rfl (zgf p) ⟨⟨done.length, rfl, ⟨fun _ => hany rfl, fun _ => by omega⟩⟩, rfl⟩
theorem zmt (l : List Ex) (p : Ex) (hp : zkf p) (hl : zdy l) (hz : l.length <= 1000000) :
  SPre Tryz.prog G 144 [.imm (.isl 6 (l.map Ex.cells)), .fn (.func 145) [] [.ptr 0 0, .ptr 1 0]] (HC p)
   (fun r H' => r = sB (l.any fun e => zot e p) /\ H' = HC p) := by
 refine wk Tryz.func144 rfl (by rw [Tryz.ntmps144]; simp) rfl (zgf _) ?_
 intro E hH hK
 (refine zh ?_; conv => whnf)
 refine ys 2 rfl rfl rfl rfl rfl rfl (zsi G l p hp hl hz) ?_
 rintro r9 H9 ⟨⟨i, rfl, hi⟩, rfl⟩ _
 refine Eq.mpr (congrArg (fun h => SWr E _ _ _ _ h) (show _ = HC p from rfl)) ?_
 (refine za ?_; conv => whnf)
 refine hK _ _ (Nat.le_refl _) rfl (zgf p) ⟨?_, rfl⟩
 show sB (decide (0 <= i)) = _
 by_cases h : 0 <= i
 ·rw [decide_eq_true h, hi.1 h]
 ·rw [decide_eq_false h]
  cases h2 : l.any (fun e => zot e p) with
  | false => rfl
  | true => exact absurd (hi.2 h2) h
theorem zhd (l ps : List Ex) (hp : zdy ps) (hl : zdy l) (hz : l.length <= 1000000) (hpz : ps.length <= 1000000) :
  yb Tryz.prog G 108 [.imm (xb l), .imm (xb ps), .fn (.func 109) [] []] (sB (zol l ps)) := by
 refine ze Tryz.func108 rfl (by rw [Tryz.ntmps108]; simp) rfl rfl ?_; intro E hH hK
 have hla : (ps.map Ex.cells).length = ps.length := by simp
 (refine zh ?_; conv => whnf)
 refine zf [0, 5, 9, 10, 11] ?_
 refine zt ps (fun i (_ : Unit) => [(0, .imm (xb l)), (5, .ptr 0 0), (9, .imm (xb ps)), (10, sI (ps.map Ex.cells).length), (11, sI i)]) (fun _ _ => [.cells [eqF]])
  (fun done rest _ => ∀ p ∈ done, l.any (fun e => zot e p) = true) () (by simp) ?_ ?_
 ·rintro _ h1
  (refine zh ?_; conv => whnf)
  repeat' ((with_reducible refine way ?_ ?_) <;> (intro h; conv => whnf))
  all_goals try (exfalso; omega)
  have : zol l ps = true := List.all_eq_true.2 h1
  rw [this] at hK
  exact hK _
 ·rintro done x rest _ hda hdl h1 ih
  have hw := zm (n := done.length) (by omega)
  have hrx : (ps.map Ex.cells)[((done.length : Nat) : Int).toNat]? = some x.cells := by simp [hda]
  have hxm : x ∈ ps := by rw [hda]; simp
  have hcall := zmt G l x (zaw hp x hxm) hl hz
  have hno : l.any (fun e => zot e x) = false -> zol l ps = false := fun h => by
   cases h2 : zol l ps with
   | false => rfl
   | true => rw [List.all_eq_true.1 h2 x hxm] at h; cases h
  have hnxt : l.any (fun e => zot e x) = true -> ∀ p ∈ done ++ [x], l.any (fun e => zot e p) = true := fun h e he => by
   rcases List.mem_append.1 he with he | he
   ·exact h1 e he
   ·simp at he; rw [he]; exact h
  generalize l.any (fun e => zot e x) = z at hcall hno hnxt
  obtain ⟨xo, xn, xu, xd, xp, xk⟩ := x
  (refine zh ?_; conv => whnf)
  repeat' ((with_reducible refine way ?_ ?_) <;> (intro h; conv => whnf))
  all_goals try (exfalso; omega)
  refine zg rfl rfl  hrx ?_
  (refine za ?_; conv => whnf)
  refine ys 2 rfl rfl rfl rfl rfl rfl hcall ?_
  rintro r9 H9 ⟨rfl, rfl⟩ _
  cases z <;> ((refine za ?_; conv => whnf))
  ·rw [hno rfl] at hK
   exact hK _
  ·rw [hw]
   refine yr [0, 5, 9, 10, 11] 1 (by simp [hH]) (by show 1 <= 2; decide) rfl rfl (ih () (hnxt rfl))
structure BeatC (c : Codex) : Prop where
 arts : c.arts.length <= 1000000
 len : ∀ a ∈ c.arts, a.when_.length <= 1000000
 exs : ∀ a ∈ c.arts, zdy a.when_
theorem zqs (c : Codex) {i : Nat} {a : Article} (h : c.arts[i]? = some a) {op n : Int} {u : ByteArray} {den : Int} {ps : List Piece} {ks : List Ex} (hm : a.amount = .mk op n u den ps ks) :
  (c.arts.map Article.cells)[i]? = some [dI a.number, dI a.line, dI a.rank, dI a.lo, dI a.hi, dI a.known, xb a.when_, dInts a.unless_, dI op, dI n, dS u, dI den, .isl 3 (ps.map Piece.cells), .isl 6 (zb ks)] := by
 rw [List.getElem?_map, h]
 simp [Article.cells, hm, zp, Ex.op, Ex.n, Ex.unit, Ex.den, Ex.pieces, Ex.kids]
theorem zdz (a : Article) : ∃ op n u den ps ks, a.amount = .mk op n u den ps ks := by cases h : a.amount; exact ⟨_, _, _, _, _, _, rfl⟩
theorem zmu (c : Codex) (hc : BeatC c) (i j : Int) : yb Tryz.prog G 77 [c.sv, sI i, sI j] (sB (zar c i j)) := by
  have hal : (c.arts.map Article.cells).length = c.arts.length := by simp
  have hz := hc.arts
  refine ze Tryz.func77 rfl (by rw [Tryz.ntmps77]; simp) rfl rfl ?_; intro E hH hK
  rw [show c.sv = .agg [.imm (zk c.facts), .imm (zk c.lines), .imm (xw c.arts)] from rfl]
  by_cases hin : 0 <= i /\ 0 <= j /\ i < c.arts.length /\ j < c.arts.length
  · obtain ⟨hi0, hj0, hi1, hj1⟩ := hin
    obtain ⟨a, ha⟩ : ∃ a, c.arts[i.toNat]? = some a := ⟨_, List.getElem?_eq_getElem (by omega)⟩
    obtain ⟨b, hb⟩ : ∃ b, c.arts[j.toNat]? = some b := ⟨_, List.getElem?_eq_getElem (by omega)⟩
    have hai : qf c i = some a := by unfold qf; rw [if_neg (by omega)]; exact ha
    have hbj : qf c j = some b := by unfold qf; rw [if_neg (by omega)]; exact hb
    have hbe : zar c i j = (if a.line ≠ b.line \/ a.number = b.number then false
      else if a.rank ≠ b.rank then decide (b.rank < a.rank)
      else if zol a.when_ b.when_ ≠ zol b.when_ a.when_ then zol a.when_ b.when_
      else decide (b.known < a.known)) := by unfold zar; rw [hai, hbj]
    have ham := List.mem_of_getElem? ha
    have hbm := List.mem_of_getElem? hb
    have c1 := zhd G a.when_ b.when_ (hc.exs b hbm) (hc.exs a ham) (hc.len a ham) (hc.len b hbm)
    have c2 := zhd G b.when_ a.when_ (hc.exs a ham) (hc.exs b hbm) (hc.len b hbm) (hc.len a ham)
    rw [hbe] at hK
    generalize zol a.when_ b.when_ = z1 at c1 hK
    generalize zol b.when_ a.when_ = z2 at c2 hK
    obtain ⟨op, n, u, den, ps, ks, hamt⟩ := zdz a
    obtain ⟨op', n', u', den', ps', ks', hbmt⟩ := zdz b
    have hra := zqs c ha hamt
    have hrb := zqs c hb hbmt
    (refine zh ?_; conv => whnf)
    repeat' ((with_reducible refine way ?_ ?_) <;> (intro h; conv => whnf))
    all_goals try (exfalso; omega)
    refine zf [1, 2, 3] ?_
    change SW E _ [(1, sI i), (2, sI j), (3, .ptr 0 0)] [.cells [.imm (zk c.facts), .imm (zk c.lines), .imm (xw c.arts)]]
    (refine ya 2 mixed rfl ?_; refine zc [777] (nx := 1) ?_; conv => whnf)
    refine yc (row := [dI a.number, dI a.line, dI a.rank, dI a.lo, dI a.hi, dI a.known, xb a.when_, dInts a.unless_, dI op, dI n, dS u, dI den, .isl 3 (ps.map Piece.cells), .isl 6 (zb ks)]) rfl (show 1 <= 3 by decide) (Int.toNat_of_nonneg hi0).symm hra ?_
    (refine zc [777] (nx := 1) ?_; conv => whnf)
    refine yc (row := [dI b.number, dI b.line, dI b.rank, dI b.lo, dI b.hi, dI b.known, xb b.when_, dInts b.unless_, dI op', dI n', dS u', dI den', .isl 3 (ps'.map Piece.cells), .isl 6 (zb ks')]) rfl (show 1 <= 3 by decide) (Int.toNat_of_nonneg hj0).symm hrb ?_
    (refine zc [777] (nx := 1) ?_; conv => whnf)
    refine zf [7, 8] ?_
    change SW E _ [(7, .ptr 1 0), (8, .ptr 2 0)] [.cells [.imm (zk c.facts), .imm (zk c.lines), .imm (xw c.arts)], .cells [.imm (dI a.number), .imm (dI a.line), .imm (dI a.rank), .imm (dI a.lo), .imm (dI a.hi), .imm (dI a.known), .imm (xb a.when_), .imm (dInts a.unless_), .imm (dI op), .imm (dI n), .imm (dS u), .imm (dI den), .imm (.isl 3 (ps.map Piece.cells)), .imm (.isl 6 (zb ks))],
      .cells [.imm (dI b.number), .imm (dI b.line), .imm (dI b.rank), .imm (dI b.lo), .imm (dI b.hi), .imm (dI b.known), .imm (xb b.when_), .imm (dInts b.unless_), .imm (dI op'), .imm (dI n'), .imm (dS u'), .imm (dI den'), .imm (.isl 3 (ps'.map Piece.cells)), .imm (.isl 6 (zb ks'))]]
    (refine zh ?_; conv => whnf)
    repeat' ((with_reducible refine way ?_ ?_) <;> (intro h; conv => whnf))
    · rw [if_pos (.inr h)] at hK
      exact hK _
    · rename_i g1 g2
      rw [if_neg (fun x => x.elim (fun x => x g1) g2), if_pos h] at hK
      exact hK _
    · rename_i g1 g2
      rw [if_neg (fun x => x.elim (fun x => x g1) g2), if_neg (fun x => x h)] at hK
      refine zd rfl  c1 ?_
      (refine za ?_; conv => whnf)
      refine zd rfl  c2 ?_
      (refine za ?_; conv => whnf)
      cases z1 <;> cases z2 <;> (conv => whnf) <;> exact hK _
    · rw [if_pos (.inl h)] at hK
      exact hK _
  · have hbe : zar c i j = false := by
      have : qf c i = none \/ qf c j = none := by
        unfold qf
        by_cases h1 : i < 0
        · left; rw [if_pos h1]
        · by_cases h2 : j < 0
          · right; rw [if_pos h2]
          · rw [if_neg h1, if_neg h2]
            by_cases h3 : i < c.arts.length
            · right; rw [List.getElem?_eq_none]; omega
            · left; rw [List.getElem?_eq_none]; omega
      unfold zar
      rcases this with h | h
      · rw [h]
      · rw [h]; split <;> first | rfl | simp_all
    rw [hbe] at hK
    (refine zh ?_; conv => whnf)
    repeat' ((with_reducible refine way ?_ ?_) <;> (intro h; conv => whnf))
    all_goals try (exfalso; omega)
    all_goals exact hK _
end Go.Proofs.YtblpjknmhajcgaaGreatDoor