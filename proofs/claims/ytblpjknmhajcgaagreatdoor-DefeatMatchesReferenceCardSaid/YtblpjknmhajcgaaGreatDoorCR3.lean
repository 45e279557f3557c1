/- Contracts of functions of the program, joined from TFj, TLc, TLb, TFk, TFl, TFm, TFn, TFo, TShelf, TFp, TFq, TFr, TFs, TFt, TFu, TFv, TFw, THa, TIa, TIb, TIc, TId, TKd, TSh32, TSh33, TSh45, TSh34, TSh35, TSh37, TSh38, TSh39, TSh40, TSh41, TSh42, TBa, TBb, TKa, TKb, TKc, TKp, TKq: no condition. -/
import Derived.Test.YtblpjknmhajcgaaGreatDoorCR2
import Derived.Test.YtblpjknmhajcgaaGreatDoorRows
import Derived.WalkKit
import Derived.ProofKit
import Derived.OpenShut
import Derived.Deep.DeepHandedRow
import Derived.Lib.LaidTab
import Derived.Shelf.Small.Bits
import Derived.Shelf.Small.Wraps
import Derived.Shelf.Strconv.Itoa0
import Derived.Shelf.Sort.Plain
import Derived.Shelf.Slices.Turned
import Derived.Ground.Names2Prog
import Derived.Shelf.Slices.Clone
import Derived.Shelf.Slices.CompactI
import Derived.Shelf.Slices.SearchI
import Derived.Shelf.Slices.Cells
import Derived.Shelf.Slices.In.SortNone
import Derived.Test.YtblpjknmhajcgaaGreatDoorProg
import Derived.Sort.OwnSortedInts
import Derived.Lib.SlicesCompact
import Derived.Maps.RangeRun
import Derived.Laws.BytesArg
set_option linter.unusedSimpArgs false
set_option linter.unusedVariables false
set_option maxRecDepth 100000
set_option maxHeartbeats 4000000
namespace Go.Proofs.YtblpjknmhajcgaaGreatDoor
open Go Go.Sh
def lenOf (m:Nat):Int:=zjv (2000+(m / 12:Nat)) ((m % 12:Nat)+1)
def zy:Nat->Int
 |0=>0
 |m+1=>zy m+lenOf m
def ztg (k:Nat):Int:=([0,31,59,90,120,151,181,212,243,273,304,334,365]:List Int).getD k 0
def zyq (m:Nat):Int:=(m / 12:Nat)*365+(((m / 12:Nat):Int)+3) / 4+ztg (m % 12)+(if 1<m % 12/\(m / 12) % 4=0 then 1 else 0)
theorem ysu (m:Nat) (hm:m<1200):lenOf m=ztg (m % 12+1)-ztg (m % 12)+(if m % 12=1/\(m / 12) % 4=0 then 1 else 0):=by
 have hy:2000<=2000+((m / 12:Nat):Int)/\2000+((m / 12:Nat):Int)<=2099:=by omega
 have hl:=zyo hy;have e:(2000+((m / 12:Nat):Int)).tmod 4=0 ↔ (m / 12) % 4=0:=by
  rw [Int.tmod_eq_emod_of_nonneg (by omega)];omega
 have hc:m % 12=0\/m % 12=1\/m % 12=2\/m % 12=3\/m % 12=4\/m % 12=5\/m % 12=6\/m % 12=7\/m % 12=8\/m % 12=9\/m % 12=10\/m % 12=11:=by omega
 unfold lenOf zjv;rw [hl];rw [show decide ((2000+((m / 12:Nat):Int)).tmod 4=0)=decide ((m / 12) % 4=0) from decide_eq_decide.2 e];rcases hc with h|h|h|h|h|h|h|h|h|h|h|h<;>rw [h]<;>simp [ztg]
 split<;>rfl
theorem znt (m:Nat) (hm:m<=1200):zyq m=zy m:=by
 induction m with
 |zero=>rfl
 |succ m ih=>
  rw [zy, <-ih (by omega),ysu m (by omega)];unfold zyq;have hc:m % 12=0\/m % 12=1\/m % 12=2\/m % 12=3\/m % 12=4\/m % 12=5\/m % 12=6\/m % 12=7\/m % 12=8\/m % 12=9\/m % 12=10\/m % 12=11:=by omega
  rcases hc with h|h|h|h|h|h|h|h|h|h|h|h
  case inr.inr.inr.inr.inr.inr.inr.inr.inr.inr.inr=>
   have h1:(m+1) % 12=0:=by omega
   have h2:(m+1) / 12=m / 12+1:=by omega
   rw [h,h1,h2];simp [ztg];split<;>omega
  all_goals
   have h1:(m+1) % 12=m % 12+1:=by omega
   have h2:(m+1) / 12=m / 12:=by omega
   rw [h1,h2,h];simp [ztg]
   try omega
def zgp (m:Int):Int:=if 0<=m/\m<=1199 then lenOf m.toNat else 0
theorem zie:∀m:Nat,28*(m:Int)<=zy m/\zy m<=31*(m:Int)
 |0=>by simp [zy]
 |m+1=>by
  have:=zie m;have h:28<=lenOf m/\lenOf m<=31:=by
   unfold lenOf zjv;split
   ·omega
   ·split
    ·split<;>omega
    ·omega
  simp only [zy];omega
variable (G:List (Nat × D))
theorem zvm (m:Int):zw Tryz.prog G 74 [sI m] (sI (zgp m)):=by
 refine zc Tryz.func74 rfl (by rw [Tryz.ntmps74];simp) rfl rfl ?_;intro E hH hK;(refine zl ?_;conv=>whnf)
 repeat' ((with_reducible refine way ?_ ?_)<;>(intro h;conv=>whnf))
 any_goals exact kI hK (by simp [zgp];intros;omega)
 have e1:IntKind.i64.wrap (m.tdiv 12)=((m.toNat / 12:Nat):Int):=by rw [Int.tdiv_eq_ediv_of_nonneg (by omega),yz (by omega) (by omega)];omega
 have e2:m.tmod 12=((m.toNat % 12:Nat):Int):=by rw [Int.tmod_eq_emod_of_nonneg (by omega)];omega
 rw [e1,e2,yz (c:=2000+((m.toNat / 12:Nat):Int)) (by omega) (by omega),yz (c:=((m.toNat % 12:Nat):Int)+1) (by omega) (by omega)];refine ze rfl  (ybf G (2000+((m.toNat / 12:Nat):Int)) (((m.toNat % 12:Nat):Int)+1)) ?_;(refine zm ?_;conv=>whnf);exact kI hK (by simp [zgp,lenOf];omega)
open Go Go.Sh Go.ChangeShapes Go.WideShapes Go.ChangeAt Go.RowKit
theorem own:ownKnob Tryz.prog.godebug=none:=by kernel_rfl
theorem yzy:Tryz.prog.globalNamed "wageoffice/calendar.before" =some 0:=by kernel_rfl
theorem ysv:(Tryz.prog.globals[0]?).map (·.type)=some 203:=by kernel_rfl
theorem yzg:Tryz.prog.cellsOf 203=13:=by kernel_rfl
theorem kids:Kids Tryz.prog (· <Tryz.prog.types.size):=kids_rows (by kernel_rfl) (by kernel_rfl)
theorem full:∀t e,t<Tryz.prog.types.size->Tryz.prog.underlying t=some (.slice e)->0<Tryz.prog.cellsOf e:=slices_full_of Tryz.prog (by kernel_rfl)
def tabNums:List Int:=[0,31,59,90,120,151,181,212,243,273,304,334,365]
theorem yoo {W:World} (h:laidMetH Tryz.prog [("wageoffice/calendar.before",Rows.laid_wageoffice_calendar_before)] W):Lib.TabIs Tryz.prog W "wageoffice/calendar.before" .i64 tabNums:=
 Lib.tabIs_of_head (rest:=[]) yzy ysv Tryz.underlying203 Tryz.underlying3 zms yzg h
theorem globals_ok {W:World} (h:laidMetH Tryz.prog [("wageoffice/calendar.before",Rows.laid_wageoffice_calendar_before)] W):∀g d,(g,d)∈G0->DRep W (yof W) (.pointer (some ⟨g,0,none⟩)) d:=by
 intro g d hg;simp only [G0,List.mem_singleton] at hg;cases hg;have hc:=fun i hi=>(yoo h).cell yzy i hi
 have hb:0<W.heap.size:=(ybc (hc 0 (by decide))).2;refine .row 0 0 _ 0 (fun j=>.int .i64 (tabNums.getD j 0)) (fun j hj=>?_) (fun j hj=>?_)
 ·have hj':j<tabNums.length:=by simpa [tabNums] using hj
  rw [Nat.zero_add];exact ⟨hb,hc j hj',rfl⟩
 ·have hj':j<tabNums.length:=by simpa [tabNums] using hj
  have e:([0,31,59,90,120,151,181,212,243,273,304,334,365].map dI)[j]'hj=dI (tabNums.getD j 0):=by
   simp only [List.getElem_map];rw [List.getD_eq_getElem?_getD,List.getElem?_eq_getElem hj'];rfl
  rw [e];exact .val _
noncomputable def laidWorld (os : Os) : World :=
  { World.holding Tryz.prog os ⟨#[], #[], []⟩ with heap := (World.holding Tryz.prog os ⟨#[], #[], []⟩).heap.modify 0 fun
      | .cells _ t frozen => .cells #[.int .i64 0, .int .i64 31, .int .i64 59, .int .i64 90, .int .i64 120, .int .i64 151, .int .i64 181, .int .i64 212, .int .i64 243, .int .i64 273, .int .i64 304, .int .i64 334, .int .i64 365] t frozen
      | o => o }
theorem laid_met (os:Os) (args:Array Value):laidMet Tryz.prog [("wageoffice/calendar.before",Rows.laid_wageoffice_calendar_before)] ((laidWorld os).forCall (fun _ _=>0) ⟨#[],args,[]⟩).memory:=
 laidMet_of_run' 8 (by kernel_rfl) (by kernel_rfl)
theorem resBool:Tryz.prog.underlying 4=some .bool:=Tryz.underlying4
section
variable {H:Type} {enc:TypeId × Value->H} {w:World}
variable {v:Value} {d:DataW H} {ps:List MemPlace} {b0:Nat} {r:Reach}
theorem openInts (hval:Value.okWide Tryz.prog w r b0 26 v) (h:DataW.Trod enc Tryz.prog w 0 (fun _=>true) true 26 v d ps):∃l:List Int,(l.length<=9223372036854775807/\∀n∈l,i64 n)/\Rep w (yof w) [] v (.imm (zi l)):=by
 obtain ⟨p,a,b,rfl⟩:∃p a b,v= .slice p a b:=by
  unfold Value.okWide at hval;rw [Tryz.underlying26] at hval;unfold Cell.okWide at hval;rw [Tryz.underlying26] at hval;cases v<;>simp [Cell.ok,Tryz.underlying26] at hval;exact ⟨_,_,_,rfl⟩
 obtain ⟨fuel,h⟩:=h;obtain ⟨l,h1,h2,h3⟩:=yua h;exact ⟨l,⟨h2,h3⟩,yst rfl h1⟩
end
def zjw (s:ByteArray):List SV:=[sI 12,sS s,sS ⟨#[]⟩,sI 0,sI 0,sI 0,sI 0,sI 0,.imm (.val (.slice none 0 0)),.imm (.val (.slice none 0 0)),sI 0]
def ysw (s:ByteArray):List SV:=[sI 0,sS s,sS ⟨#[]⟩,sI 0,sI 0,sI 0,sI 0,sI 0,.imm (.val (.slice none 0 0)),.imm (.val (.slice none 0 0)),sI 0]
theorem zth:zw Tryz.prog G 146 [.imm (.val (.slice none 0 0)),.imm (.val (.slice none 0 0))] (sB true):=by
 refine zc Tryz.func146 rfl (by rw [Tryz.ntmps146];simp) rfl rfl ?_;intro E hH hK;(refine zl ?_;conv=>whnf);refine yel ?_;(refine zl ?_;conv=>whnf);exact hK _
theorem yoq (s:ByteArray):zw Tryz.prog G 153 [.agg (zjw s),.agg (ysw s)] (sB true):=by
 refine zc Tryz.func153 rfl (by rw [Tryz.ntmps153];simp) rfl rfl ?_;intro E hH hK;(refine zl ?_;conv=>whnf)
 repeat' ((with_reducible refine way ?_ ?_)<;>(intro h;conv=>whnf))
 all_goals try (exact absurd rfl ‹¬_›)
 all_goals try (exfalso;omega)
 refine ze rfl  (zth G) ?_;(refine zm ?_;conv=>whnf);exact hK _
theorem yor (s:ByteArray):SPre Tryz.prog G 152 [.ptr 1 0,.agg (zjw s),sI 1] [.cells (zjw s),.cells [sI 0]] (fun r H1=>r=sB true/\H1=[.cells (zjw s),.cells [sI 1]]):=by
 refine qg Tryz.func152 rfl (by rw [Tryz.ntmps152];simp) rfl rfl ?_;intro E hH hK;(refine zl ?_;conv=>whnf);exact hK _ _ (by simp) rfl rfl ⟨rfl,rfl⟩
theorem ybg (s:ByteArray):SPre Tryz.prog G 151 [.ptr 1 0,.agg (zjw s),sI 1] [.cells (zjw s),.cells [sI 0]] (fun r H1=>r=sB (xt s)/\H1=[.cells (zjw s),.cells [sI 1]]):=by
 refine qg Tryz.func151 rfl (by rw [Tryz.ntmps151];simp) rfl rfl ?_;intro E hH hK;(refine zl ?_;conv=>whnf);refine xm 2 rfl rfl rfl rfl rfl rfl (yor G s) ?_;rintro r H1 ⟨rfl,rfl⟩ _;(refine zm ?_;conv=>whnf);refine ze rfl  (zyk G s) ?_;(refine zm ?_;conv=>whnf)
 repeat' ((with_reducible refine way ?_ ?_)<;>(intro h;conv=>whnf))
 ·refine ze rfl  (yoq G s) ?_
  (refine zm ?_;conv=>whnf);rw [h] at hK;exact hK _ _ (by simp) rfl rfl ⟨rfl,rfl⟩
 ·rw [h] at hK
  exact hK _ _ (by simp) rfl rfl ⟨rfl,rfl⟩
theorem zrj (s:ByteArray):zw Tryz.prog G 122 [.agg (zjw s)] (sB (xt s)):=by
 refine zc Tryz.func122 rfl (by rw [Tryz.ntmps122];simp) rfl rfl ?_;intro E hH hK;(refine zl ?_;conv=>whnf);refine xm 2 rfl rfl rfl rfl rfl rfl (ybg G s) ?_;rintro r H1 ⟨rfl,rfl⟩ _;(refine zm ?_;conv=>whnf);exact hK _
theorem zvn (s:ByteArray):zw Tryz.prog G 88 [sS s] (sB (xt s)):=by
 refine zc Tryz.func88 rfl (by rw [Tryz.ntmps88];simp) rfl rfl ?_;intro E hH hK;(refine zl ?_;conv=>whnf);refine ze rfl  (zrj G s) ?_;(refine zm ?_;conv=>whnf);exact hK _
theorem ybh (s:ByteArray):zw Tryz.prog G 80 [sS s] (sB (xt s)):=by
 refine zc Tryz.func80 rfl (by rw [Tryz.ntmps80];simp) rfl rfl ?_;intro E hH hK;have hl:=zns s;(refine zl ?_;conv=>whnf)
 repeat' ((with_reducible refine way ?_ ?_)<;>(intro h;conv=>whnf))
 ·cases hs:s.data.toList with
  |nil=>rw [hs] at hl;simp at hl;omega
  |cons b0 r0=>
   have h0:s.data.toList[0]?=some b0:=by rw [hs];rfl
   have bad:zjc b0=false->xt s=false:=fun h=>by simp [xt,zmd,hs,zep,h]
   refine zcd rfl rfl rfl rfl rfl rfl  h0 ?_;(refine zm ?_;conv=>whnf);refine ze rfl  (zwd G b0) ?_;(refine zm ?_;conv=>whnf)
   repeat' ((with_reducible refine way ?_ ?_)<;>(intro h;conv=>whnf))
   ·have hlow:zjc b0=true:=h
    refine ze rfl  (yok G) ?_;(refine zm ?_;conv=>whnf);refine ze rfl  (yvb G keys s (by decide)) ?_;(refine zm ?_;conv=>whnf)
    repeat' ((with_reducible refine way ?_ ?_)<;>(intro h;conv=>whnf))
    ·exact kB hK (by simp only [xt,yku,h];simp)
    ·have hkey:yku s=false:=h
     have hhead:zep s.data.toList=true:=by rw [hs];simp [zep,hlow]
     have hsz:s.size<=16:=by omega
     clear hs;refine zg [0,3] ?_;refine zo s.data.toList (fun i _=>[(0,sS s),(3,sI i)]) (fun _ _=>[]) (fun d _ (_:Unit)=>d.all zri=true) () rfl ?_ ?_
     ·intro _ hv
      rw [hl];(refine zl ?_;conv=>whnf)
      repeat' ((with_reducible refine way ?_ ?_)<;>(intro h;conv=>whnf))
      all_goals try (exfalso;omega)
      exact kB hK (by unfold xt zmd;rw [hhead,hv,hkey];simp [hsz])
     ·intro done b rest _ ha hlen hv ih
      have hget:s.data.toList[done.length]?=some b:=by rw [ha];simp
      have hw:=zk (n:=done.length) (by omega);have bad:zri b=false->xt s=false:=fun h=>by simp [xt,zmd,ha,h]
      have next:zri b=true->_:=fun h=>ih () (by simp [hv,h])
      (refine zl ?_;conv=>whnf)
      repeat' ((with_reducible refine way ?_ ?_)<;>(intro h;conv=>whnf))
      all_goals try (exfalso;omega)
      refine zcd rfl rfl rfl rfl rfl rfl  hget ?_;(refine zm ?_;conv=>whnf);refine ze rfl  (zwd G b) ?_;(refine zm ?_;conv=>whnf)
      repeat' ((with_reducible refine way ?_ ?_)<;>(intro h;conv=>whnf))
      ·refine zcd rfl rfl rfl rfl rfl rfl  hget ?_
       (refine zm ?_;conv=>whnf);refine ze rfl  (ykw G b) ?_;(refine zm ?_;conv=>whnf)
       repeat' ((with_reducible refine way ?_ ?_)<;>(intro h;conv=>whnf))
       ·refine zcd rfl rfl rfl rfl rfl rfl  hget ?_
        (refine zm ?_;conv=>whnf)
        repeat' ((with_reducible refine way ?_ ?_)<;>(intro h;conv=>whnf))
        ·exact kB hK (bad (by simp [zri, *];omega))
        ·rw [hw];exact zg [0,3] (next (by simp [zri];omega))
       ·rw [hw];exact zg [0,3] (next (by simp [zri, *]))
      ·rw [hw];exact zg [0,3] (next (by simp [zri, *]))
   ·exact kB hK (bad h)
 ·exact kB hK (by simp [xt,zmd];intros;omega)
 ·exact kB hK (by have:s.data.toList=[]:=List.length_eq_zero_iff.1 (by omega);simp [xt,zmd,this,zep])
theorem ybi {κ α:Type} (n:Nat) (f:α->SV) (hf:∀a,(f a).under n=true) (l:List (κ × α)):(zdw f l).all (fun e=>e.2.under n)=true:=by
 simp only [zdw,List.all_map];exact List.all_eq_true.2 fun p _=>hf p.2
theorem yve (n:Nat) (l:List (ByteArray × Bool)):SObj.under n (.mapS (zdw sB l))=true:=ybi n sB (fun _=>rfl) l
theorem zph (n:Nat) (l:List (Int × Int)):SObj.under n (.mapI .i64 (zdw sI l))=true:=ybi n sI (fun _=>rfl) l
def zbg (lo hi:Int) (d:Decl):Bool:=xt d.name&&ql d.unit&&decide (lo<=d.role/\d.role<=hi)
def zab (lo hi:Int) (l:List Decl):Bool:=l.all (zbg lo hi)&&decide ((l.map (·.name)).Nodup)
theorem zti {lo hi:Int} {done rest:List Decl} {d:Decl} (h:zbg lo hi d=false\/d.name∈done.map (·.name)):zab lo hi (done++d::rest)=false:=by
 rcases h with h|h
 ·simp [zab,h]
 ·simp only [zab,Bool.and_eq_false_iff,decide_eq_false_iff_not]
  right
  rw [List.map_append,List.map_cons,List.nodup_append];exact fun ⟨_,_,h3⟩=>h3 _ h _ (by simp) rfl
theorem zme (l:List Decl) (lo hi:Int) (hsz:l.length<=1073741824):zw Tryz.prog G 58 [.imm (zj l),sI lo,sI hi] (sB (zab lo hi l)):=by
 refine zc Tryz.func58 rfl (by rw [Tryz.ntmps58];simp) rfl rfl ?_;intro E hH hK;have hlen:(l.map Decl.cells).length=l.length:=by simp
 (refine zl ?_;conv=>whnf);refine zg [1,2,7,11,12,13] ?_;refine zo l (fun i (_:List (ByteArray × Bool))=>[(1,sI lo),(2,sI hi),(7,.map 0),(11,.imm (zj l)),(12,sI (l.map Decl.cells).length),(13,sI i)]) (fun _ m=>[.mapS (zdw sB m)])
  (fun done _ m=>done.all (zbg lo hi)=true/\(done.map (·.name)).Nodup/\∀s,zx s m=if s∈done.map (·.name) then some true else none) [] ⟨rfl,List.nodup_nil,fun s=>rfl⟩ ?_ ?_
 ·rintro m ⟨h1,h2,_⟩
  (refine zl ?_;conv=>whnf)
  repeat' ((with_reducible refine way ?_ ?_)<;>(intro h;conv=>whnf))
  all_goals try (exfalso;omega)
  exact kB hK (by simp only [zab,h1,h2];rfl)
 ·rintro done d rest m ha hl ⟨h1,h2,h3⟩ ih
  have hw:=zk (n:=done.length) (by omega);have bad:zbg lo hi d=false\/d.name∈done.map (·.name)->zab lo hi l=false:=fun h=>by rw [ha];exact zti h
  have next:zbg lo hi d=true->d.name ∉ done.map (·.name)->_:=fun g1 g2=>ih (ains d.name true m) ⟨by simp [h1,g1],by
   rw [List.map_append,List.nodup_append];exact ⟨h2,by simp,fun a ha b hb e=>g2 (by simp at hb;rw [<-hb, <-e];exact ha)⟩,fun s=>by
   rw [zau,h3];simp only [List.map_append,List.mem_append,List.map_cons,List.map_nil,List.mem_singleton]
   by_cases e:s=d.name
   ·subst e;simp
   ·simp [e]⟩
  have hl3:=h3 d.name;(refine zl ?_;conv=>whnf)
  repeat' ((with_reducible refine way ?_ ?_)<;>(intro h;conv=>whnf))
  all_goals try (exfalso;omega)
  refine zh rfl rfl  (row:=d.cells) (by simp [ha]) ?_;(refine zm ?_;conv=>whnf);refine ze rfl  (zvn G d.name) ?_;(refine zm ?_;conv=>whnf)
  repeat' ((with_reducible refine way ?_ ?_)<;>(intro h;conv=>whnf))
  ·have hname:xt d.name=true:=h
   by_cases hin:d.name∈done.map (·.name)
   ·rw [if_pos hin] at hl3
    refine zsv sB rfl rfl rfl rfl rfl rfl rfl rfl rfl (v:=sB true) (by rw [hl3];rfl) ?_;(refine zm ?_;conv=>whnf);exact kB hK (bad (.inr hin))
   ·rw [if_neg hin] at hl3
    refine zsv sB rfl rfl rfl rfl rfl rfl rfl rfl rfl (v:=sB false) (by rw [hl3];rfl) ?_;(refine zm ?_;conv=>whnf);refine ze rfl  (ztd G d.unit) ?_;(refine zm ?_;conv=>whnf)
    repeat' ((with_reducible refine way ?_ ?_)<;>(intro h;conv=>whnf))
    any_goals exact kB hK (bad (.inl (by simp [zbg, *];try omega)))
    refine yhq sB true rfl rfl rfl rfl rfl rfl rfl rfl rfl ?_;(refine zm ?_;conv=>whnf);rw [hw];exact yy [1,2,7,11,12,13] 1 (by simp [hH]) (by simp) rfl (by simp [yve]) (next (by simp [zbg, *];omega) hin)
  ·exact kB hK (bad (.inl (by simp [zbg,h])))
def zqs (s:ByteArray):List Decl->Nat->Int
 |[],_=> -1
 |d::r,i=>if d.name=s then i else zqs s r (i+1)
theorem ybj (s:ByteArray):∀(done:List Decl) (d:Decl) (rest:List Decl) (i:Nat),d.name=s->(zqs s (done++d::rest) i=i+done.length ↔ s ∉ done.map (·.name))
 |[],d,rest,i,h=>by simp [zqs,h]
 |x::done,d,rest,i,h=>by
  simp only [List.cons_append,zqs]
  by_cases e:x.name=s
  ·simp [e];omega
  ·rw [if_neg e]
   have:=ybj s done d rest (i+1) h;rw [show ((i:Int)+((x::done).length:Int))=((i+1:Nat):Int)+(done.length:Int) by simp;omega,this];simp [Ne.symm e]
abbrev tT:ByteArray:=⟨#[116,114,117,116,104]⟩
abbrev tN:ByteArray:=⟨#[110,117,109,98,101,114]⟩
abbrev tM:ByteArray:=⟨#[109,105,110,117,116,101,115]⟩
def zdl:List Ex->Bool
 |[]=>true
 |k0::r=>(k0::r).all fun x=>decide (x.unit=k0.unit)
theorem yos (ks:List Ex) (hsz:ks.length<=1073741824):zw Tryz.prog G 175 [.imm (.isl 6 (zd ks))] (sB (zdl ks)):=by
 refine zc Tryz.func175 rfl (by rw [Tryz.ntmps175];simp) rfl rfl ?_;intro E hH hK;rw [zp];have hlen:(ks.map Ex.cells).length=ks.length:=by simp
 (refine zl ?_;conv=>whnf);refine zg [0,5,6,7] ?_;refine zo ks (fun i (_:Unit)=>[(0,.imm (.isl 6 (ks.map Ex.cells))),(5,.imm (.isl 6 (ks.map Ex.cells))),(6,sI (ks.map Ex.cells).length),(7,sI i)]) (fun _ _=>[])
  (fun done rest _=>zdl ks=true\/∃k0,ks.head?=some k0/\zdl ks=rest.all fun x=>decide (x.unit=k0.unit)) () (by
   cases ks with
   |nil=>exact .inl rfl
   |cons k0 r=>exact .inr ⟨k0,rfl,rfl⟩) ?_ ?_
 ·rintro _ h1
  (refine zl ?_;conv=>whnf)
  repeat' ((with_reducible refine way ?_ ?_)<;>(intro h;conv=>whnf))
  all_goals try (exfalso;omega)
  exact kB hK (by rcases h1 with h1|⟨k0,_,h1⟩<;>rw [h1];rfl)
 ·rintro done x rest _ ha hl h1 ih
  have hw:=zk (n:=done.length) (by omega);obtain ⟨k0,hk0,hs⟩:∃k0,ks.head?=some k0/\(zdl ks=true\/zdl ks=(x::rest).all fun x=>decide (x.unit=k0.unit)):=by
   rcases h1 with h1|⟨k0,h2,h3⟩
   ·cases ks with
    |nil=>simp at ha
    |cons k0 r=>exact ⟨k0,rfl,.inl h1⟩
   ·exact ⟨k0,h2,.inr h3⟩
  have h0:(ks.map Ex.cells)[0]?=some k0.cells:=by
   cases ks with
   |nil=>simp at hk0
   |cons a r=>simp at hk0;simp [hk0]
  have hxk:zdl ks=true->x.unit=k0.unit:=fun h=>by
   cases ks with
   |nil=>simp at ha
   |cons a r=>
    simp at hk0;subst hk0;have:=List.all_eq_true.1 h x (by rw [ha];simp);simpa using this
  obtain ⟨o1,n1,u1,d1,p1,q1⟩:=x;obtain ⟨o0,n0,u0,d0,p0,q0⟩:=k0;(refine zl ?_;conv=>whnf)
  repeat' ((with_reducible refine way ?_ ?_)<;>(intro h;conv=>whnf))
  all_goals try (exfalso;omega)
  refine zh rfl rfl  (row:=(Ex.mk o1 n1 u1 d1 p1 q1).cells) (by simp [ha]) ?_;(refine zm ?_;conv=>whnf);(refine xq mixed rfl ?_;refine zn [] ?_;conv=>whnf);refine wq rfl rfl  (row:=(Ex.mk o0 n0 u0 d0 p0 q0).cells) h0 ?_;(refine zn [] ?_;conv=>whnf);(refine zl ?_;conv=>whnf)
  repeat' ((with_reducible refine way ?_ ?_)<;>(intro h;conv=>whnf))
  ·exact kB hK (by
    cases hsk:zdl ks with
    |false=>rfl
    |true=>exact absurd (hxk hsk) h)
  ·rw [hw]
   refine yy [0,5,6,7] 0 (by simp [hH]) (by simp) rfl rfl (ih () ?_);rcases hs with hs|hs
   ·exact .inl hs
   ·exact .inr ⟨_,hk0,by rw [hs];simp [Ex.unit,h]⟩
theorem ybk (a b:ByteArray):zw Tryz.prog G 176 [sS a,sS b] (sS (if a=tN then b else a)):=by
 refine zc Tryz.func176 rfl (by rw [Tryz.ntmps176];simp) rfl rfl ?_;intro E hH hK;(refine zl ?_;conv=>whnf)
 repeat' ((with_reducible refine way ?_ ?_)<;>(intro h;conv=>whnf))
 ·rw [if_pos h] at hK;exact hK _
 ·rw [if_neg h] at hK;exact hK _
def zbu (op:Int) (u:ByteArray) (f l:Ex) (len:Int) (same:Bool):Bool:=
 if op=5 then decide (len=1)&&decide (u=tT)&&decide (f.unit=tT)
 else if op=6\/op=7 then decide (len=2)&&decide (u=tT)&&same&&decide (f.unit=tT)
 else if op=8 then decide (len=2)&&decide (u=tT)&&same
 else if op=9\/op=10 then decide (len=2)&&decide (u=tT)&&(same&& !decide (f.unit=tT))
 else if op=11\/op=12 then decide (len=2)&&(same&& !decide (f.unit=tT))&&decide (u=f.unit)
 else if op=16\/op=17 then decide (2<=len)&&(same&& !decide (f.unit=tT))&&decide (u=f.unit)
 else if op=13 then decide (len=2)&& !decide (f.unit=tT)&& !decide (l.unit=tT)&&(decide (f.unit=tN)||decide (l.unit=tN))&&decide (u=if f.unit=tN then l.unit else f.unit)
 else if op=14 then decide (len=2)&&decide (l.op=1)&&decide (l.unit=tN)&&(!decide (l.n<1)&& !decide (1000000<l.n))&& !decide (f.unit=tT)&&decide (u=f.unit)
 else if op=15 then decide (len=2)&&decide (f.unit=tM)&&zgk l.unit&&decide (u=l.unit)
 else false
theorem zvo (op n:Int) (u:ByteArray) (den:Int) (ps:List Piece) (ks:List Ex) (f l:Ex) (hf:ks.head?=some f) (hl:ks.getLast?=some l) (hsz:ks.length<=1073741824):
  zw Tryz.prog G 158 [(Ex.mk op n u den ps ks).sv] (sB (zbu op u f l ks.length (zdl ks))):=by
 refine zc Tryz.func158 rfl (by rw [Tryz.ntmps158];simp) rfl rfl ?_;intro E hH hK;have hsame:=yos G ks hsz;have hrows:=zp ks;have hlen:(zd ks).length=ks.length:=by rw [hrows];simp
 have hpos:1<=ks.length:=by cases ks with|nil=>simp at hf|cons a r=>simp
 have h0:(zd ks)[0]?=some f.cells:=by
  rw [hrows];cases ks with
  |nil=>simp at hf
  |cons a r=>simp at hf;simp [hf]
 have h1:(zd ks)[ks.length-1]?=some l.cells:=by
  rw [hrows,List.getElem?_map];rw [List.getLast?_eq_getElem?] at hl;rw [hl];rfl
 have hm:IntKind.i64.wrap (((zd ks).length:Int)-1)=((ks.length-1:Nat):Int):=by rw [yz (by omega) (by omega)];omega
 obtain ⟨o0,n0,u0,d0,p0,q0⟩:=f;obtain ⟨o1,n1,u1,d1,p1,q1⟩:=l;(refine zl ?_;conv=>whnf);(refine zu 2 mixed rfl ?_;refine zb [] (nx:=1) ?_;conv=>whnf);refine zt rfl (by simp) rfl  (row:=(Ex.mk o0 n0 u0 d0 p0 q0).cells) h0 ?_;(refine zb [] (nx:=1) ?_;conv=>whnf);refine zt rfl (by simp) hm (row:=(Ex.mk o1 n1 u1 d1 p1 q1).cells) h1 ?_;(refine zb [] (nx:=1) ?_;conv=>whnf);(refine zl ?_;conv=>whnf);refine ze rfl  hsame ?_;(refine zm ?_;conv=>whnf);generalize zdl ks=sm at hK hsame ⊢;rw [<-hlen] at hK;clear hm h0 h1 hf hl hlen hpos hrows
 repeat' ((with_reducible refine way ?_ ?_)<;>(intro h;conv=>whnf))
 all_goals try (refine kB hK ?_;(try simp [zbu,tT,tN,tM,Ex.unit,Ex.op,Ex.n, *]);(try exact decide_eq_decide.2 Iff.rfl);(try omega);(try (exfalso;exact Bool.noConfusion (‹sm=true›.symm.trans ‹sm=false›))))
 any_goals refine ze rfl  hsame ?_
 any_goals (refine zm ?_;conv=>whnf)
 any_goals refine ze rfl  (zpf G u1) ?_
 any_goals (refine zm ?_;conv=>whnf)
 any_goals (refine xq mixed rfl ?_;refine zn [] ?_;conv=>whnf)
 any_goals repeat' ((with_reducible refine way ?_ ?_)<;>(intro h;conv=>whnf))
 any_goals refine zbt rfl  (ybk G u0 u1) ?_
 any_goals (refine zn [] ?_;conv=>whnf)
 any_goals (refine zl ?_;conv=>whnf)
 any_goals repeat' ((with_reducible refine way ?_ ?_)<;>(intro h;conv=>whnf))
 all_goals try (refine kB hK ?_;(try simp [zbu,tT,tN,tM,Ex.unit,Ex.op,Ex.n, *]);(try exact decide_eq_decide.2 Iff.rfl);(try omega);(try (exfalso;exact Bool.noConfusion (‹sm=true›.symm.trans ‹sm=false›))))
 all_goals trace_state
def zeq (l:List Decl) (i:Int) (u:ByteArray):Bool:=
 match l[i.toNat]? with
 |some d=>decide (u=d.unit)
 |none=>false
def zcn (facts lines : List Decl) (m : List (Int × Int)) (op n : Int) (u : ByteArray) : Bool :=
  if op = 1 then decide (0 <= n) && decide (n <= 999999999999) && (!decide (u = tT) || decide (n <= 1))
  else if op = 2 then decide (0 <= n) && decide (n < facts.length) && zeq facts n u
  else if op = 3 then (match zx n m with
    | some line => zeq lines line u
    | none => false)
  else decide (1 <= n) && decide (n <= 4) && decide (u = tN)
def zhg (c:Codex) (m:List (Int × Int)) (n:Int):List SObj:=
 [.cells [.imm (zj c.facts),.imm (zj c.lines),.imm (yl c.arts)],.mapI .i64 (zdw sI m),.cells [.imm (zj c.facts),.imm (zj c.lines),.imm (yl c.arts),.map 1,sI n]]
theorem zco (c:Codex) (m:List (Int × Int)) (n:Int):(zhg c m n).all (SObj.under 3)=true:=by
 simp only [zhg,List.all_cons,zph];rfl
theorem yot (c:Codex) (m:List (Int × Int)) (nodes:Int) (op n:Int) (u:ByteArray) (den:Int) (ps:List Piece) (ks:List Ex) (hm:∀k v,zx k m=some v->0<=v/\v<c.lines.length) (hop:1<=op/\op<=4):
  SPre Tryz.prog G 157 [.ptr 2 0,(Ex.mk op n u den ps ks).sv] (zhg c m nodes) (fun r H1=>r=sB (zcn c.facts c.lines m op n u)/\H1=zhg c m nodes):=by
 refine qg Tryz.func157 rfl (by rw [Tryz.ntmps157];simp) rfl (zco c m nodes) ?_;intro E hH hK;have hf:(c.facts.map Decl.cells).length=c.facts.length:=by simp
 have hl:(c.lines.map Decl.cells).length=c.lines.length:=by simp
 have fin:∀H',H'.take 3=zhg c m nodes->3<=H'.length->∀b,zcn c.facts c.lines m op n u=b->E.K (sB b) H':=fun H' h1 h2 b h3=>
  hK _ _ h2 rfl (by show (List.take 3 H').all _=true;rw [h1];exact zco c m nodes) ⟨by rw [h3],h1⟩
 (refine zl ?_;conv=>whnf)
 repeat' ((with_reducible refine way ?_ ?_)<;>(intro h;conv=>whnf))
 all_goals try exact fin _ rfl (by simp) _ (by simp [zcn,tT,tN, *])
 ·(refine xq mixed rfl ?_;refine zn [] ?_;conv=>whnf)
  repeat' ((with_reducible refine way ?_ ?_)<;>(intro h;conv=>whnf))
  ·have hlt:n.toNat<c.facts.length:=by omega
   obtain ⟨d,hd⟩:∃d,c.facts[n.toNat]?=some d:=⟨c.facts[n.toNat],List.getElem?_eq_getElem hlt⟩;refine wq rfl (i:=n.toNat) (by omega) (row:=d.cells) (by simp [hd]) ?_;(refine zn [] ?_;conv=>whnf);(refine zl ?_;conv=>whnf);refine fin _ rfl (by simp) _ ?_;have hua:zeq c.facts n u=decide (u=d.unit):=by simp only [zeq,hd]
   simp [zcn,hua, *];omega
  all_goals (refine zl ?_;conv=>whnf)
  all_goals refine fin _ rfl (by simp) _ ?_
  all_goals (simp [zcn, *];try omega)
 ·cases hlk:zx n m with
  |none=>
   (refine xq mixed rfl ?_;refine zn [] ?_;conv=>whnf);refine zwa sI rfl rfl rfl rfl rfl rfl rfl rfl rfl (v:=sI 0) (p:=false) (by rw [hlk];rfl) (by rw [hlk];rfl) ?_;(refine zn [] ?_;conv=>whnf);(refine zl ?_;conv=>whnf);(refine xq mixed rfl ?_;refine zn [] ?_;conv=>whnf);(refine zl ?_;conv=>whnf);exact fin _ rfl (by simp) _ (by simp [zcn,hlk, *])
  |some line=>
   obtain ⟨hl0,hl1⟩:=hm n line hlk;obtain ⟨d,hd⟩:∃d,c.lines[line.toNat]?=some d:=⟨c.lines[line.toNat]'(by omega),List.getElem?_eq_getElem _⟩;(refine xq mixed rfl ?_;refine zn [] ?_;conv=>whnf);refine zwa sI rfl rfl rfl rfl rfl rfl rfl rfl rfl (v:=sI line) (p:=true) (by rw [hlk];rfl) (by rw [hlk];rfl) ?_;(refine zn [] ?_;conv=>whnf);(refine zl ?_;conv=>whnf);(refine xq mixed rfl ?_;refine zn [] ?_;conv=>whnf);refine wq rfl (i:=line.toNat) (by omega) (row:=d.cells) (by simp [hd]) ?_;(refine zn [] ?_;conv=>whnf);(refine zl ?_;conv=>whnf);have hua:zeq c.lines line u=decide (u=d.unit):=by simp only [zeq,hd]
   exact fin _ rfl (by simp) _ (by simp [zcn,hlk,hua, *])
def jn (c:Codex) (m:List (Int × Int)) (op n:Int) (u:ByteArray) (den:Int) (ps:List Piece) (ks:List Ex):Bool:=
 if op=18 then decide (n=0)&&decide (ks.length=1)&&zgk u&&(match ks with|k::_=>decide (u=k.unit)|[]=>false)&&zbf den ps
 else if ¬den=0\/0<ps.length then false
 else if 1<=op/\op<=4 then decide (ks.length=0)&&zcn c.facts c.lines m op n u
 else decide (n=0)&&(match ks.head?,ks.getLast? with|some f,some l=>zbu op u f l ks.length (zdl ks)|_,_=>false)
mutual
def zai (c:Codex) (m:List (Int × Int)):Ex->Int->Int->Bool × Int
 | .mk op n u den ps ks,depth,cnt=>
  if 400<cnt+1\/40<depth\/ql u=false then (false,cnt+1)
  else match jf c m ks (depth+1) (cnt+1) with
   |(true,cnt')=>(jn c m op n u den ps ks,cnt')
   |(false,cnt')=>(false,cnt')
def jf (c:Codex) (m:List (Int × Int)):List Ex->Int->Int->Bool × Int
 |[],_,cnt=>(true,cnt)
 |k::r,depth,cnt=>match zai c m k depth cnt with
  |(true,cnt')=>jf c m r depth cnt'
  |(false,cnt')=>(false,cnt')
end
theorem ybl (c:Codex) (m:List (Int × Int)) (N:Nat):(∀e:Ex,SizeOf.sizeOf e<N->∀d cnt:Int,cnt+1<=(zai c m e d cnt).2/\((zai c m e d cnt).1=true->(zai c m e d cnt).2<=400))/\
  (∀ks:List Ex,SizeOf.sizeOf ks<N->∀d cnt:Int,cnt<=(jf c m ks d cnt).2/\(cnt<=400->(jf c m ks d cnt).1=true->(jf c m ks d cnt).2<=400)):=by
 induction N with
 |zero=>exact ⟨fun e h=>by omega,fun e h=>by omega⟩
 |succ N ih=>
  refine ⟨fun e he d cnt=>?_,fun ks hk d cnt=>?_⟩
  ·obtain ⟨op,n,u,den,ps,ks⟩:=e
   simp only [Ex.mk.sizeOf_spec] at he;have:=ih.2 ks (by omega) (d+1) (cnt+1);simp only [zai];split
   ·exact ⟨Int.le_refl _,fun h=>by cases h⟩
   ·rename_i hc
    revert this
    cases jf c m ks (d+1) (cnt+1) with
    |mk b q=>
     cases b with
     |true=>simp only;intro h;exact ⟨h.1,fun _=>h.2 (by omega) trivial⟩
     |false=>simp only;intro h;exact ⟨h.1,fun h=>by cases h⟩
  ·cases ks with
   |nil=>simp [jf]
   |cons k r=>
    simp only [List.cons.sizeOf_spec] at hk;have h1:=ih.1 k (by omega) d cnt;simp only [jf]
    revert h1
    cases zai c m k d cnt with
    |mk b q=>
     cases b with
     |true=>
      simp only;intro h1;have h2:=ih.2 r (by omega) d q;exact ⟨by omega,fun hc h=>h2.2 (h1.2 trivial) h⟩
     |false=>simp only;intro h1;exact ⟨by omega,fun _ h=>by cases h⟩
theorem you (c : Codex) (m : List (Int × Int)) (hm : ∀ k v, zx k m = some v -> 0 <= v /\ v < c.lines.length) (N : Nat) : ∀ (e : Ex), SizeOf.sizeOf e < N -> ∀ (depth cnt : Int), 0 <= depth -> depth <= 41 -> 0 <= cnt -> cnt <= 400 ->
    SPre Tryz.prog G 124 [.ptr 2 0, e.sv, sI depth] (zhg c m cnt) (fun r H1 => r = sB (zai c m e depth cnt).1 /\ H1 = zhg c m (zai c m e depth cnt).2) := by
  induction N with
  | zero => intro e h; omega
  | succ N IH =>
  intro e he depth cnt hd0 hd1 hc0 hc1
  obtain ⟨op, n, u, den, ps, ks⟩ := e
  simp only [Ex.mk.sizeOf_spec] at he
  refine qg Tryz.func124 rfl (by rw [Tryz.ntmps124]; simp) rfl (zco c m cnt) ?_
  intro E hH hK
  have fin : ∀ H' q, H'.take 3 = zhg c m q -> 3 <= H'.length -> ∀ b, zai c m (.mk op n u den ps ks) depth cnt = (b, q) -> E.K (sB b) H' := fun H' q h1 h2 b h3 =>
    hK _ _ h2 rfl (by show (List.take 3 H').all _ = true; rw [h1]; exact zco c m q) ⟨by rw [h3], by rw [h3]; exact h1⟩
  have hw1 : IntKind.i64.wrap (cnt + 1) = cnt + 1 := yz (by omega) (by omega)
  have hrows := zp ks
  have hlen : (zd ks).length = ks.length := by rw [hrows]; simp
  refine qs [19] 1000 ?_; conv => whnf
  rw [hw1]
  (refine zm ?_; conv => whnf)
  repeat' ((with_reducible refine way ?_ ?_) <;> (intro h; conv => whnf))
  case' refine_2 => skip
  all_goals try exact fin _ _ rfl (by simp) _ (by simp only [zai]; rw [if_pos (by omega)])
  refine ze rfl  (ztd G u) ?_
  (refine zm ?_; conv => whnf)
  repeat' ((with_reducible refine way ?_ ?_) <;> (intro h; conv => whnf))
  case refine_1.refine_1 => exact fin _ _ rfl (by simp) _ (by simp only [zai]; rw [if_pos (.inr (.inr h))])
  have hstart : zai c m (.mk op n u den ps ks) depth cnt = (match jf c m ks (depth + 1) (cnt + 1) with | (true, cnt') => (jn c m op n u den ps ks, cnt') | (false, cnt') => (false, cnt')) := by
    simp only [zai]; rw [if_neg (by rw [h]; simp; omega)]
  have hup := ybl c m (N + 1)
  have hwd : IntKind.i64.wrap (depth + 1) = depth + 1 := yz (by omega) (by omega)
  refine zg [0, 2, 4, 32, 33, 34] ?_
  refine zo ks (fun i (_ : Int) => [(0, .ptr 2 0), (2, sI depth), (4, .ptr 3 0), (32, .imm (.isl 6 (zd ks))), (33, sI (zd ks).length), (34, sI i)])
    (fun _ q => zhg c m q ++ [.cells ((Ex.mk op n u den ps ks).cells.map .imm)])
    (fun done rest q => jf c m ks (depth + 1) (cnt + 1) = jf c m rest (depth + 1) q /\ cnt + 1 + done.length <= q /\ q <= 400) (cnt + 1) ⟨rfl, by simp, by omega⟩ ?_ ?_
  · rintro q ⟨h1, h2, h3⟩
    simp only [jf] at h1
    rw [h1] at hstart
    simp only at hstart
    have hsz : ks.length <= 400 := by omega
    have fin2 : ∀ H' b, H'.take 3 = zhg c m q -> 3 <= H'.length -> jn c m op n u den ps ks = b -> E.K (sB b) H' := fun H' b g1 g2 g3 => fin H' q g1 g2 b (by rw [hstart, g3])
    have hpl : (ps.map Piece.cells).length = ps.length := by simp
    clear IH hup hstart hK fin ‹ql u = true›
    rw [<- hlen]
    by_cases h18 : op = 18
    · subst h18
      cases ks with
      | nil =>
        (refine zl ?_; conv => whnf)
        repeat' ((with_reducible refine way ?_ ?_) <;> (intro h; conv => whnf))
        all_goals try (exfalso; omega)
        (refine xq mixed rfl ?_; refine zn [] ?_; conv => whnf)
        repeat' ((with_reducible refine way ?_ ?_) <;> (intro h; conv => whnf))
        all_goals (refine zl ?_; conv => whnf)
        all_goals exact fin2 _ _ rfl (by simp [zhg]) (by simp [jn])
      | cons k0 kr =>
        obtain ⟨o0, n0, u0, d0, p0, q0⟩ := k0
        have h0 : (zd (Ex.mk o0 n0 u0 d0 p0 q0 :: kr))[0]? = some (Ex.mk o0 n0 u0 d0 p0 q0).cells := by simp [zd]
        (refine zl ?_; conv => whnf)
        repeat' ((with_reducible refine way ?_ ?_) <;> (intro h; conv => whnf))
        all_goals try (exfalso; omega)
        (refine xq mixed rfl ?_; refine zn [] ?_; conv => whnf)
        repeat' ((with_reducible refine way ?_ ?_) <;> (intro h; conv => whnf))
        · refine zbt rfl  (zpf G u) ?_
          (refine zn [] ?_; conv => whnf)
          repeat' ((with_reducible refine way ?_ ?_) <;> (intro h; conv => whnf))
          · refine wq rfl rfl  (row := (Ex.mk o0 n0 u0 d0 p0 q0).cells) h0 ?_
            (refine zn [] ?_; conv => whnf)
            repeat' ((with_reducible refine way ?_ ?_) <;> (intro h; conv => whnf))
            · refine zbt rfl  (ztf G den ps) ?_
              (refine zn [] ?_; conv => whnf)
              (refine zl ?_; conv => whnf)
              exact fin2 _ _ rfl (by simp [zhg]) (by
                have hq : (Ex.mk o0 n0 u0 d0 p0 q0 :: kr).length = 1 := by omega
                simp only [jn, if_true, Ex.unit, hq, ‹zgk u = true›, decide_eq_true ‹n = 0›]; simp; intro _; first | exact h | exact decide_eq_true h)
            · (refine zl ?_; conv => whnf)
              exact fin2 _ _ rfl (by simp [zhg]) (by simp [jn, Ex.unit, h])
          · (refine zl ?_; conv => whnf)
            exact fin2 _ _ rfl (by simp [zhg]) (by simp [jn, h])
        · (refine zl ?_; conv => whnf)
          exact fin2 _ _ rfl (by simp [zhg]) (by
            have hq : ¬ (Ex.mk o0 n0 u0 d0 p0 q0 :: kr).length = 1 := by omega
            simp only [jn, if_true, decide_eq_false hq]; simp)
        · (refine zl ?_; conv => whnf)
          exact fin2 _ _ rfl (by simp [zhg]) (by simp [jn, h])
    by_cases htab : ¬ den = 0 \/ 0 < ps.length
    · (refine zl ?_; conv => whnf)
      repeat' ((with_reducible refine way ?_ ?_) <;> (intro h; conv => whnf))
      all_goals try (exfalso; omega)
      all_goals exact fin2 _ _ rfl (by simp [zhg]) (by unfold jn; rw [if_neg h18, if_pos htab])
    have hnode : jn c m op n u den ps ks = if 1 <= op /\ op <= 4 then decide (ks.length = 0) && zcn c.facts c.lines m op n u else decide (n = 0) && (match ks.head?, ks.getLast? with | some f, some l => zbu op u f l ks.length (zdl ks) | _, _ => false) := by
      unfold jn; rw [if_neg h18, if_neg htab]
    by_cases hop : 1 <= op /\ op <= 4
    · rw [if_pos hop] at hnode
      (refine zl ?_; conv => whnf)
      repeat' ((with_reducible refine way ?_ ?_) <;> (intro h; conv => whnf))
      all_goals try (exfalso; omega)
      · refine xm 3 rfl rfl rfl rfl rfl rfl (yot G c m q op n u den ps ks hm hop) ?_
        rintro r H1 ⟨rfl, rfl⟩ _
        (refine zm ?_; conv => whnf)
        exact fin2 _ _ rfl (by simp [zhg]) (by rw [hnode, decide_eq_true (by omega)]; rfl)
      · exact fin2 _ _ rfl (by simp [zhg]) (by rw [hnode, decide_eq_false (by omega)]; rfl)
    · rw [if_neg hop] at hnode
      cases ks with
      | nil =>
        (refine zl ?_; conv => whnf)
        repeat' ((with_reducible refine way ?_ ?_) <;> (intro h; conv => whnf))
        all_goals try (exfalso; omega)
        all_goals exact fin2 _ _ rfl (by simp [zhg]) (by rw [hnode]; simp)
      | cons k0 kr =>
        obtain ⟨l, hl⟩ : ∃ l, (k0 :: kr).getLast? = some l := ⟨_, List.getLast?_eq_some_getLast (by simp)⟩
        have hopr := zvo G op n u den ps (k0 :: kr) k0 l rfl hl (by omega)
        rw [hl] at hnode
        simp only [List.head?_cons] at hnode
        have hpos : 0 < (zd (k0 :: kr)).length := by simp [zd]
        (refine zl ?_; conv => whnf)
        repeat' ((with_reducible refine way ?_ ?_) <;> (intro h; conv => whnf))
        all_goals try (exfalso; omega)
        all_goals first
          | exact fin2 _ _ rfl (by simp [zhg]) (by rw [hnode, decide_eq_false ‹¬ n = 0›]; rfl)
          | (refine ze rfl  hopr ?_
             (refine zm ?_; conv => whnf)
             exact fin2 _ _ rfl (by simp [zhg]) (by rw [hnode, decide_eq_true ‹n = 0›]; rfl))
  · rintro done kid rest q ha hl ⟨h1, h2, h3⟩ ih
    have hw := zk (n := done.length) (by omega)
    have hks : SizeOf.sizeOf kid < SizeOf.sizeOf ks := List.sizeOf_lt_of_mem (by rw [ha]; simp)
    have hcall := IH kid (by omega) (depth + 1) q (by omega) (by omega) (by omega) h3
    simp only [jf] at h1
    have hkup := hup.1 kid (by omega) (depth + 1) q
    obtain ⟨o1, n1, u1, d1, p1, q1⟩ := kid
    (refine zl ?_; conv => whnf)
    repeat' ((with_reducible refine way ?_ ?_) <;> (intro h; conv => whnf))
    all_goals try (exfalso; omega)
    refine zh rfl rfl  (row := (Ex.mk o1 n1 u1 d1 p1 q1).cells) (by rw [hrows]; simp [ha]) ?_
    (refine zm ?_; conv => whnf)
    rw [hwd]
    refine xm 3 rfl rfl rfl rfl rfl rfl hcall ?_
    rintro r H1 ⟨rfl, rfl⟩ _
    revert h1 hkup
    cases zai c m (.mk o1 n1 u1 d1 p1 q1) (depth + 1) q with
    | mk b q' =>
      cases b with
      | true =>
        simp only
        intro h1 hkup
        (refine zm ?_; conv => whnf)
        rw [hw]
        exact yy [0, 2, 4, 32, 33, 34] 4 (by rw [hH]; simp [zhg]) (by simp [zhg]) rfl (by simp [zhg, zph]; exact ⟨rfl, rfl, rfl⟩) (ih q' ⟨h1, by simp; omega, hkup.2 trivial⟩)
      | false =>
        simp only
        intro h1 hkup
        (refine zm ?_; conv => whnf)
        refine fin _ q' rfl (by simp [zhg]) _ ?_
        rw [hstart, h1]
def jg (c:Codex) (m:List (Int × Int)) (e:Ex) (u:ByteArray):Bool × Int:=if e.unit=u then zai c m e 1 0 else (false,0)
theorem zwf (c:Codex) (m:List (Int × Int)) (hm:∀k v,zx k m=some v->0<=v/\v<c.lines.length) (e:Ex) (u:ByteArray) (q:Int):
  SPre Tryz.prog G 90 [.ptr 2 0,e.sv,sS u] (zhg c m q) (fun r H1=>r=sB (jg c m e u).1/\H1=zhg c m (jg c m e u).2):=by
 have hfit:=you G c m hm (SizeOf.sizeOf e+1) e (by omega) 1 0 (by omega) (by omega) (by omega) (by omega);obtain ⟨op,n,u0,den,ps,ks⟩:=e;refine qg Tryz.func90 rfl (by rw [Tryz.ntmps90];simp) rfl (zco c m q) ?_;intro E hH hK;have fin:∀H' q',H'.take 3=zhg c m q'->3<=H'.length->∀b,jg c m (.mk op n u0 den ps ks) u=(b,q')->E.K (sB b) H':=fun H' q' h1 h2 b h3=>
  hK _ _ h2 rfl (by show (List.take 3 H').all _=true;rw [h1];exact zco c m q') ⟨by rw [h3],by rw [h3];exact h1⟩
 (refine zl ?_;conv=>whnf)
 repeat' ((with_reducible refine way ?_ ?_)<;>(intro h;conv=>whnf))
 ·refine xm 3 rfl rfl rfl rfl rfl rfl hfit ?_
  rintro r H1 ⟨rfl,rfl⟩ _;(refine zm ?_;conv=>whnf);exact fin _ _ rfl (by simp [zhg]) _ (by rw [jg,if_pos (by exact h)])
 ·exact fin _ _ rfl (by simp) _ (by rw [jg,if_neg (by exact h)])
def zda (a:Article):Bool:=decide (0<=a.rank)&&decide (a.rank<=1000000)&&decide (0<=a.lo)&&decide (a.lo<a.hi)&&decide (a.hi<=36525)&&decide (0<=a.known)&&decide (a.known<=36524)
def zfg (c:Codex) (i:Int):ByteArray:=match c.lines[i.toNat]? with|some d=>d.unit|none=>⟨#[]⟩
def zmt (c:Codex) (m:List (Int × Int)) (a:Article):Bool:=
 zda a&&a.unless_.all (fun n=>(zx n m).isSome)&&a.when_.all (fun e=>(jg c m e tT).1)&&(jg c m a.amount (zfg c a.line)).1
def zmu (a:Article) (op n:Int) (u:ByteArray) (den:Int) (ps:List Piece) (ks:List Ex):List SV:=
 [sI a.number,sI a.line,sI a.rank,sI a.lo,sI a.hi,sI a.known,.imm (ye a.when_),.imm (zi a.unless_),sI op,sI n,sS u,sI den,.imm (.isl 3 (ps.map Piece.cells)),.imm (.isl 6 (zd ks))]
theorem yhz {a:Article} {op n:Int} {u:ByteArray} {den:Int} {ps:List Piece} {ks:List Ex} (h:a.amount= .mk op n u den ps ks):a.cells.map SV.imm=zmu a op n u den ps ks:=by
 simp [Article.cells,h,zmu,zp,Ex.op,Ex.n,Ex.unit,Ex.den,Ex.pieces,Ex.kids]
theorem ybm (c:Codex) (m:List (Int × Int)) (hm:∀k v,zx k m=some v->0<=v/\v<c.lines.length) (a:Article) (q:Int) (hline:0<=a.line/\a.line<c.lines.length) (hun:a.unless_.length<=9223372036854775807) (hwh:a.when_.length<=9223372036854775807):
  SPre Tryz.prog G 59 [.ptr 2 0,.agg (a.cells.map .imm)] (zhg c m q) (fun r H1=>r=sB (zmt c m a)/\∃q',H1=zhg c m q'):=by
 have hamount:=zwf G c m hm a.amount (zfg c a.line);obtain ⟨op,n,u,den,ps,ks,ham⟩:∃op n u den ps ks,a.amount= .mk op n u den ps ks:=by cases h:a.amount;exact ⟨_,_,_,_,_,_,rfl⟩
 rw [yhz ham];rw [ham] at hamount;refine qg Tryz.func59 rfl (by rw [Tryz.ntmps59];simp) rfl (zco c m q) ?_;intro E hH hK;generalize hart:zmt c m a=ok at hK;have fin:∀H' b,(∃q',H'.take 3=zhg c m q')->3<=H'.length->ok=b->E.K (sB b) H':=fun H' b ⟨q',h1⟩ h2 h3=>
  hK _ _ h2 rfl (by show (List.take 3 H').all _=true;rw [h1];exact zco c m q') ⟨by rw [h3],q',h1⟩
 have hwl:(a.when_.map Ex.cells).length=a.when_.length:=by simp
 have hul:(a.unless_.map fun n=>[dI n]).length=a.unless_.length:=by simp
 have bad:zda a=false->ok=false:=fun h=>by rw [<-hart,zmt,h];rfl
 (refine zl ?_;conv=>whnf)
 repeat' ((with_reducible refine way ?_ ?_)<;>(intro h;conv=>whnf))
 all_goals try exact fin _ _ ⟨_,rfl⟩ (by simp) (bad (by simp [zda];intros;omega))
 have good:zda a=true:=by simp [zda];omega
 refine zg [0,3,45,46,47] ?_;refine zo a.unless_ (fun i (_:Unit)=>[(0,.ptr 2 0),(3,.ptr 3 0),(45,.imm (zi a.unless_)),(46,sI (a.unless_.map fun n=>[dI n]).length),(47,sI i)])
  (fun _ _=>zhg c m q++[.cells (zmu a op n u den ps ks)])
  (fun done _ _=>done.all (fun n=>(zx n m).isSome)=true) () rfl ?_ ?_
 ·rintro _ hu1
  (refine zl ?_;conv=>whnf)
  repeat' ((with_reducible refine way ?_ ?_)<;>(intro h;conv=>whnf))
  all_goals try (exfalso;omega)
  refine zg [0,3,64,65,66] ?_;refine zo a.when_ (fun i (_:Int)=>[(0,.ptr 2 0),(3,.ptr 3 0),(64,.imm (ye a.when_)),(65,sI (a.when_.map Ex.cells).length),(66,sI i)])
   (fun _ q=>zhg c m q++[.cells (zmu a op n u den ps ks)])
   (fun done _ _=>done.all (fun e=>(jg c m e tT).1)=true) q rfl ?_ ?_
  ·rintro q1 hw1
   have hres:ok=(jg c m (.mk op n u den ps ks) (zfg c a.line)).1:=by rw [<-hart,zmt,good,ham];simp only [hu1,hw1];rfl
   obtain ⟨d,hd⟩:∃d,c.lines[a.line.toNat]?=some d:=⟨c.lines[a.line.toNat]'(by omega),List.getElem?_eq_getElem _⟩;have hlu:zfg c a.line=d.unit:=by simp only [zfg,hd]
   rw [hlu] at hamount hres;(refine zl ?_;conv=>whnf)
   repeat' ((with_reducible refine way ?_ ?_)<;>(intro h;conv=>whnf))
   all_goals try (exfalso;omega)
   (refine zu 0 mixed rfl ?_;refine zb [] (nx:=4) ?_;conv=>whnf);refine zt rfl (by simp) (i:=a.line.toNat) (by omega) (row:=d.cells) (by simp [hd]) ?_;(refine zb [] (nx:=4) ?_;conv=>whnf);refine yob 3 (r:=sB (jg c m (.mk op n u den ps ks) d.unit).1) (wr:=some (2,.cells [.imm (zj c.facts),.imm (zj c.lines),.imm (yl c.arts),.map 1,sI (jg c m (.mk op n u den ps ks) d.unit).2])) rfl rfl rfl rfl rfl rfl (by simp) (by simp) (by rintro b ob h;cases h;omega) ((hamount q1).mono ?_) ?_
   ·rintro r H1 ⟨rfl,rfl⟩;exact ⟨rfl,rfl⟩
   (refine zb [] (nx:=4) ?_;conv=>whnf);(refine zl ?_;conv=>whnf);exact fin _ _ ⟨_,rfl⟩ (by simp) hres
  ·rintro done e rest q1 ha hl hw1 ih
   have hw:=zk (n:=done.length) (by omega);have hcall:=zwf G c m hm e tT q1;have bad2:(jg c m e tT).1=false->ok=false:=fun h=>by rw [<-hart,zmt,good];simp [ha,h]
   obtain ⟨o1,n1,u1,d1,p1,q1'⟩:=e;(refine zl ?_;conv=>whnf)
   repeat' ((with_reducible refine way ?_ ?_)<;>(intro h;conv=>whnf))
   all_goals try (exfalso;omega)
   refine zh rfl rfl  (row:=(Ex.mk o1 n1 u1 d1 p1 q1').cells) (by simp [ha]) ?_;(refine zm ?_;conv=>whnf);refine xm 3 rfl rfl rfl rfl rfl rfl hcall ?_;rintro r H1 ⟨rfl,rfl⟩ _;cases hb:(jg c m (.mk o1 n1 u1 d1 p1 q1') tT).1 with
   |true=>
    (refine zm ?_;conv=>whnf);rw [hw];exact yy [0,3,64,65,66] 4 (by rw [hH];simp [zhg]) (by simp [zhg]) rfl (by simp [zhg,zph];exact ⟨rfl,rfl,rfl⟩) (ih _ (by simp [hw1,hb]))
   |false=>
    (refine zm ?_;conv=>whnf);exact fin _ _ ⟨_,rfl⟩ (by simp [zhg]) (bad2 hb)
 ·rintro done x rest _ ha hl hu1 ih
  have hw:=zk (n:=done.length) (by omega);have bad2:(zx x m).isSome=false->ok=false:=fun h=>by rw [<-hart,zmt,good];simp at h;simp [ha,h]
  (refine zl ?_;conv=>whnf)
  repeat' ((with_reducible refine way ?_ ?_)<;>(intro h;conv=>whnf))
  all_goals try (exfalso;omega)
  refine zh rfl rfl  (row:=[dI x]) (by simp [ha]) ?_;(refine zm ?_;conv=>whnf);cases hlk:zx x m with
  |none=>
   refine zkx sI rfl rfl rfl rfl rfl rfl rfl rfl rfl (v:=sI 0) (p:=false) (by rw [hlk];rfl) (by rw [hlk];rfl) ?_;(refine zm ?_;conv=>whnf);exact fin _ _ ⟨_,rfl⟩ (by simp) (bad2 (by rw [hlk];rfl))
  |some v=>
   refine zkx sI rfl rfl rfl rfl rfl rfl rfl rfl rfl (v:=sI v) (p:=true) (by rw [hlk];rfl) (by rw [hlk];rfl) ?_;(refine zm ?_;conv=>whnf);rw [hw];exact zg [0,3,45,46,47] (ih () (by simp [hu1,hlk]))
def qi (nl : Int) : List Article -> List (Int × Int) -> Option (List (Int × Int))
  | [], m => some m
  | a :: r, m => if 1 <= a.number /\ a.number <= 1000000 /\ 0 <= a.line /\ a.line < nl then
      (match zx a.number m with
      | some l => if l = a.line then qi nl r (ains a.number a.line m) else none
      | none => qi nl r (ains a.number a.line m))
    else none
def zv (c : Codex) : Bool :=
  decide (c.facts.length <= 32) && decide (c.lines.length <= 32) && decide (c.arts.length <= 60) && zab 0 0 c.facts && zab 1 4 c.lines &&
  (match qi c.lines.length c.arts [] with
  | some m => c.arts.all (zmt c m)
  | none => false)
def Codex.fit (c:Codex):Prop:=∀a∈c.arts,a.unless_.length<=9223372036854775807/\a.when_.length<=9223372036854775807
theorem znu (nl:Int):∀(l:List Article) (m0 m:List (Int × Int)),qi nl l m0=some m->(∀k v,zx k m0=some v->0<=v/\v<nl)->(∀k v,zx k m=some v->0<=v/\v<nl)/\∀a∈l,0<=a.line/\a.line<nl
 |[],m0,m,h,h0=>by simp [qi] at h;subst h;exact ⟨h0,by simp⟩
 |a::r,m0,m,h,h0=>by
  simp only [qi] at h;split at h
  ·rename_i hc
   have h1:∀k v,zx k (ains a.number a.line m0)=some v->0<=v/\v<nl:=fun k v hk=>by
    rw [zau] at hk;split at hk
    ·cases hk;exact ⟨hc.2.2.1,hc.2.2.2⟩
    ·exact h0 k v hk
   have key:qi nl r (ains a.number a.line m0)=some m->_:=fun h=>znu nl r _ m h h1
   have hm:qi nl r (ains a.number a.line m0)=some m:=by
    split at h
    ·split at h
     ·exact h
     ·cases h
    ·exact h
   obtain ⟨g1,g2⟩:=key hm;refine ⟨g1,fun x hx=>?_⟩;rcases List.mem_cons.1 hx with rfl|hx
   ·exact ⟨hc.2.2.1,hc.2.2.2⟩
   ·exact g2 x hx
  ·cases h
theorem zbh (c:Codex) (hfit:Codex.fit c):zw Tryz.prog G 32 [c.sv] (sB (zv c)):=by
 refine zc Tryz.func32 rfl (by rw [Tryz.ntmps32];simp) rfl rfl ?_;intro E hH hK;have hlf:(c.facts.map Decl.cells).length=c.facts.length:=by simp
 have hll:(c.lines.map Decl.cells).length=c.lines.length:=by simp
 have hla:(c.arts.map Article.cells).length=c.arts.length:=by simp
 (refine zl ?_;conv=>whnf)
 repeat' ((with_reducible refine way ?_ ?_)<;>(intro h;conv=>whnf))
 all_goals try exact kB hK (by simp [zv];intros;omega)
 have hsz:c.facts.length<=32/\c.lines.length<=32/\c.arts.length<=60:=by omega
 refine ze rfl  (zme G c.facts 0 0 (by omega)) ?_;(refine zm ?_;conv=>whnf)
 repeat' ((with_reducible refine way ?_ ?_)<;>(intro h;conv=>whnf))
 case refine_2=>exact kB hK (by simp [zv,h])
 have hdf:zab 0 0 c.facts=true:=h;refine ze rfl  (zme G c.lines 1 4 (by omega)) ?_;(refine zm ?_;conv=>whnf)
 repeat' ((with_reducible refine way ?_ ?_)<;>(intro h;conv=>whnf))
 case refine_1.refine_1=>exact kB hK (by simp [zv,h])
 have hok:zv c=(match qi c.lines.length c.arts [] with|some m=>c.arts.all (zmt c m)|none=>false):=by
  unfold zv;rw [hdf,h,decide_eq_true hsz.1,decide_eq_true hsz.2.1,decide_eq_true hsz.2.2];rfl
 clear hdf;refine zg [1,3,39,40,41] ?_;refine zo c.arts (fun i (_:List (Int × Int))=>[(1,.ptr 0 0),(3,.map 1),(39,.imm (yl c.arts)),(40,sI (c.arts.map Article.cells).length),(41,sI i)])
  (fun _ m=>[.cells [.imm (zj c.facts),.imm (zj c.lines),.imm (yl c.arts)],.mapI .i64 (zdw sI m)])
  (fun _ rest m=>qi c.lines.length c.arts []=qi c.lines.length rest m) [] rfl ?_ ?_
 ·rintro m h1
  simp only [qi] at h1;rw [h1] at hok;simp only at hok;obtain ⟨hm,hlines⟩:=znu _ _ _ _ h1 (by intro k v h;simp [zx] at h);(refine zl ?_;conv=>whnf)
  repeat' ((with_reducible refine way ?_ ?_)<;>(intro h;conv=>whnf))
  all_goals try (exfalso;omega)
  refine zg [1,8,90,91,92] ?_;refine zo c.arts (fun i (_:Int)=>[(1,.ptr 0 0),(8,.ptr 2 0),(90,.imm (yl c.arts)),(91,sI (c.arts.map Article.cells).length),(92,sI i)])
   (fun _ q=>zhg c m q) (fun done rest _=>zv c=rest.all (zmt c m)) 0 hok ?_ ?_
  ·rintro q h2
   (refine zl ?_;conv=>whnf)
   repeat' ((with_reducible refine way ?_ ?_)<;>(intro h;conv=>whnf))
   all_goals try (exfalso;omega)
   exact kB hK (by rw [h2];rfl)
  ·rintro done a rest q ha hl h2 ih
   have hmem:a∈c.arts:=by rw [ha];simp
   have hw:=zk (n:=done.length) (by omega);have hcall:=ybm G c m hm a q (hlines a hmem) (hfit a hmem).1 (hfit a hmem).2;obtain ⟨op,n,u,den,ps,ks,ham⟩:∃op n u den ps ks,a.amount= .mk op n u den ps ks:=by cases h:a.amount;exact ⟨_,_,_,_,_,_,rfl⟩
   have hrow:(c.arts.map Article.cells)[((done.length:Nat):Int).toNat]?=some [dI a.number,dI a.line,dI a.rank,dI a.lo,dI a.hi,dI a.known,ye a.when_,zi a.unless_,dI op,dI n,dS u,dI den,.isl 3 (ps.map Piece.cells),.isl 6 (zd ks)]:=by
    simp [ha,Article.cells,ham,zp,Ex.op,Ex.n,Ex.unit,Ex.den,Ex.pieces,Ex.kids]
   rw [yhz ham] at hcall;(refine zl ?_;conv=>whnf)
   repeat' ((with_reducible refine way ?_ ?_)<;>(intro h;conv=>whnf))
   all_goals try (exfalso;omega)
   refine zh rfl rfl  (row:=[dI a.number,dI a.line,dI a.rank,dI a.lo,dI a.hi,dI a.known,ye a.when_,zi a.unless_,dI op,dI n,dS u,dI den,.isl 3 (ps.map Piece.cells),.isl 6 (zd ks)]) hrow ?_;(refine zm ?_;conv=>whnf);refine xm 3 rfl rfl rfl rfl rfl rfl hcall ?_;rintro r H1 ⟨rfl,q',rfl⟩ _;cases hb:zmt c m a with
   |true=>
    (refine zm ?_;conv=>whnf);rw [hw];exact yy [1,8,90,91,92] 3 (by simp [hH]) (by simp [zhg]) rfl (by simp [zhg,zph];exact ⟨rfl,rfl⟩) (ih q' (by rw [h2];simp [hb]))
   |false=>
    (refine zm ?_;conv=>whnf);exact kB hK (by rw [h2];simp [hb])
 ·rintro done a rest m ha hl h1 ih
  have hw:=zk (n:=done.length) (by omega);obtain ⟨op,n,u,den,ps,ks,ham⟩:∃op n u den ps ks,a.amount= .mk op n u den ps ks:=by cases h:a.amount;exact ⟨_,_,_,_,_,_,rfl⟩
  have hrow:(c.arts.map Article.cells)[((done.length:Nat):Int).toNat]?=some [dI a.number,dI a.line,dI a.rank,dI a.lo,dI a.hi,dI a.known,ye a.when_,zi a.unless_,dI op,dI n,dS u,dI den,.isl 3 (ps.map Piece.cells),.isl 6 (zd ks)]:=by
   simp [ha,Article.cells,ham,zp,Ex.op,Ex.n,Ex.unit,Ex.den,Ex.pieces,Ex.kids]
  simp only [qi] at h1;have bad:qi c.lines.length c.arts []=none->zv c=false:=fun h=>by rw [hok,h]
  (refine zl ?_;conv=>whnf)
  repeat' ((with_reducible refine way ?_ ?_)<;>(intro h;conv=>whnf))
  all_goals try (exfalso;omega)
  refine zh rfl rfl  (row:=[dI a.number,dI a.line,dI a.rank,dI a.lo,dI a.hi,dI a.known,ye a.when_,zi a.unless_,dI op,dI n,dS u,dI den,.isl 3 (ps.map Piece.cells),.isl 6 (zd ks)]) hrow ?_;(refine zm ?_;conv=>whnf)
  repeat' ((with_reducible refine way ?_ ?_)<;>(intro h;conv=>whnf))
  all_goals try exact kB hK (bad (by rw [h1,if_neg (by omega)]))
  rw [if_pos (by omega)] at h1;cases hlk:zx a.number m with
  |none=>
   rw [hlk] at h1;refine zkx sI rfl rfl rfl rfl rfl rfl rfl rfl rfl (v:=sI 0) (p:=false) (by rw [hlk];rfl) (by rw [hlk];rfl) ?_;(refine zm ?_;conv=>whnf);refine zhz sI a.line rfl rfl rfl rfl rfl rfl rfl rfl rfl ?_;(refine zm ?_;conv=>whnf);rw [hw];exact yy [1,3,39,40,41] 2 (by simp [hH]) (by simp) rfl (by simp [zph];rfl) (ih _ h1)
  |some l=>
   rw [hlk] at h1;refine zkx sI rfl rfl rfl rfl rfl rfl rfl rfl rfl (v:=sI l) (p:=true) (by rw [hlk];rfl) (by rw [hlk];rfl) ?_;(refine zm ?_;conv=>whnf)
   repeat' ((with_reducible refine way ?_ ?_)<;>(intro h;conv=>whnf))
   ·exact kB hK (bad (by rw [h1];simp only;rw [if_neg h]))
   ·simp only at h1
    rw [if_pos h] at h1;refine zhz sI a.line rfl rfl rfl rfl rfl rfl rfl rfl rfl ?_;(refine zm ?_;conv=>whnf);rw [hw];exact yy [1,3,39,40,41] 2 (by simp [hH]) (by simp) rfl (by simp [zph];rfl) (ih _ h1)
end Go.Proofs.YtblpjknmhajcgaaGreatDoor
namespace Go.Proofs
open Go.Shelf
open Go.RowKit in
def Tryz.lays189_ren:Go.Shelf.Ren:=⟨fun|189=>64|125=>94|257=>93|128=>134|129=>135|294=>125|295=>126|296=>127|297=>128|298=>129|299=>130|216=>131|300=>132|301=>133|328=>159|329=>160|330=>161|331=>162|332=>163|215=>164|343=>177|n=>n,fun|28=>26|3=>3|46=>139|0=>0|51=>179|53=>181|4=>4|183=>172|182=>171|131=>94|5=>5|9=>9|218=>197|222=>201|228=>209|229=>47|n=>n,fun|n=>n⟩
theorem Tryz.lays189 : Go.Proofs.Lays.n189 Tryz.prog Tryz.lays189_ren := {
  mixed := by kernel_rfl
  f125 := Tryz.func94.trans (congrArg some (by kernel_rfl))
  f128 := Tryz.func134.trans (congrArg some (by kernel_rfl))
  f129 := Tryz.func135.trans (congrArg some (by kernel_rfl))
  f189 := Tryz.func64.trans (congrArg some (by kernel_rfl))
  f215 := Tryz.func164.trans (congrArg some (by kernel_rfl))
  f216 := Tryz.func131.trans (congrArg some (by kernel_rfl))
  f257 := Tryz.func93.trans (congrArg some (by kernel_rfl))
  f294 := Tryz.func125.trans (congrArg some (by kernel_rfl))
  f295 := Tryz.func126.trans (congrArg some (by kernel_rfl))
  f296 := Tryz.func127.trans (congrArg some (by kernel_rfl))
  f297 := Tryz.func128.trans (congrArg some (by kernel_rfl))
  f298 := Tryz.func129.trans (congrArg some (by kernel_rfl))
  f299 := Tryz.func130.trans (congrArg some (by kernel_rfl))
  f300 := Tryz.func132.trans (congrArg some (by kernel_rfl))
  f301 := Tryz.func133.trans (congrArg some (by kernel_rfl))
  f328 := Tryz.func159.trans (congrArg some (by kernel_rfl))
  f329 := Tryz.func160.trans (congrArg some (by kernel_rfl))
  f330 := Tryz.func161.trans (congrArg some (by kernel_rfl))
  f331 := Tryz.func162.trans (congrArg some (by kernel_rfl))
  f332 := Tryz.func163.trans (congrArg some (by kernel_rfl))
  f343 := Tryz.func177.trans (congrArg some (by kernel_rfl))
  t0 := Tryz.underlying0
  a0 := Tryz.isAgg0
  z0 := Tryz.sizeOf0
  v0 := Tryz.zeroValue0
  t3 := Tryz.underlying3
  a3 := Tryz.isAgg3
  z3 := Tryz.sizeOf3
  v3 := Tryz.zeroValue3
  t4 := Tryz.underlying4
  a4 := Tryz.isAgg4
  z4 := Tryz.sizeOf4
  v4 := Tryz.zeroValue4
  t5 := Tryz.underlying5
  a5 := Tryz.isAgg5
  z5 := Tryz.sizeOf5
  v5 := Tryz.zeroValue5
  t9 := Tryz.underlying9
  a9 := Tryz.isAgg9
  z9 := Tryz.sizeOf9
  v9 := Tryz.zeroValue9
  t28 := Tryz.underlying26
  a28 := Tryz.isAgg26
  z28 := Tryz.sizeOf26
  v28 := Tryz.zeroValue26
  t46 := Tryz.underlying139
  a46 := Tryz.isAgg139
  z46 := Tryz.sizeOf139
  v46 := Tryz.zeroValue139
  t51 := Tryz.underlying179
  a51 := Tryz.isAgg179
  z51 := Tryz.sizeOf179
  v51 := Tryz.zeroValue179
  t53 := Tryz.underlying181
  a53 := Tryz.isAgg181
  z53 := Tryz.sizeOf181
  v53 := Tryz.zeroValue181
  t131 := Tryz.underlying94
  a131 := Tryz.isAgg94
  z131 := Tryz.sizeOf94
  v131 := Tryz.zeroValue94
  t182 := Tryz.underlying171
  a182 := Tryz.isAgg171
  z182 := Tryz.sizeOf171
  v182 := Tryz.zeroValue171
  t183 := Tryz.underlying172
  a183 := Tryz.isAgg172
  z183 := Tryz.sizeOf172
  v183 := Tryz.zeroValue172
  t218 := Tryz.underlying197
  a218 := Tryz.isAgg197
  z218 := Tryz.sizeOf197
  v218 := Tryz.zeroValue197
  t222 := Tryz.underlying201
  a222 := Tryz.isAgg201
  z222 := Tryz.sizeOf201
  v222 := Tryz.zeroValue201
  t228 := Tryz.underlying209
  a228 := Tryz.isAgg209
  z228 := Tryz.sizeOf209
  v228 := Tryz.zeroValue209
  t229 := Tryz.underlying47
  a229 := Tryz.isAgg47
  z229 := Tryz.sizeOf47
  v229 := Tryz.zeroValue47 }
open Go.Sort Go.RowKit in
theorem Tryz.slices_Sort_int (blk off cap:Nat) (zs:List Int) (w:World) (hH:Holds (Value.int .i64) w blk off zs.toArray) (hblk:blk<w.heap.size) (hsz:zs.length<4611686018427387904):
  Calls Tryz.prog 64 #[.slice (some ⟨blk,off,none⟩) zs.length cap] w fun e w'=>
   e= .returned (.tuple #[])/\∃n os,w'=grow (putRow (Value.int .i64) (Sort.ahead w n) blk off (zs.mergeSort fun x y=>decide (x<=y)).toArray) os:=Any.slices_Sort_int Tryz.lays189 blk off cap zs w hH hblk hsz
open Go.Lib in
open Go.Lib in
open Go.Lib in
open Go.Lib in
def Tryz.laysNm215_ren:Go.Shelf.Ren:=⟨fun|15=>63|n=>n,fun|22=>26|3=>3|4=>4|n=>n,fun|n=>n⟩
theorem Tryz.laysNm215 : Go.Proofs.Lays2.n15 Tryz.prog Tryz.laysNm215_ren := {
  mixed := by kernel_rfl
  f15 := Tryz.func63.trans (congrArg some (by kernel_rfl))
  t3 := Tryz.underlying3
  a3 := Tryz.isAgg3
  z3 := Tryz.sizeOf3
  v3 := Tryz.zeroValue3
  t4 := Tryz.underlying4
  a4 := Tryz.isAgg4
  z4 := Tryz.sizeOf4
  v4 := Tryz.zeroValue4
  t22 := Tryz.underlying26
  a22 := Tryz.isAgg26
  z22 := Tryz.sizeOf26
  v22 := Tryz.zeroValue26
  i3 := by kernel_rfl }
open Go.RowKit Go.Lib in
theorem Tryz.slices_Clone_int (b off n c:Nat) (zs:List Int) (w:World) (hz:n<=zs.length) (hbig:n*8<=140737488355328) (hc:∀j,j<zs.length->w.cell? ⟨b,off+j,none⟩=some (.int .i64 (zs.getD j 0))):
  Calls Tryz.prog 63 #[.slice (some ⟨b,off,none⟩) n c] w fun e w'=>∃v',e= .returned v'/\w'.ownsRow w.heap.size 3 1 v' n ((zs.take n).map (Value.int .i64))/\v'≠ .slice none 0 0/\Below w.heap.size w w':=Any.slices_Clone_int Tryz.laysNm215 b off n c zs w hz hbig hc
open Go.RowKit Go.Lib in
theorem Tryz.slices_Clone_int_nil (n c:Nat) (w:World):
  Calls Tryz.prog 63 #[.slice none n c] w fun e w'=>e= .returned (.slice none 0 0)/\w'=w:=Any.slices_Clone_int_nil Tryz.laysNm215 n c w
open Go.RowKit Go.Lib in
theorem Tryz.slices_Clone_int_zero (a:Addr) (c:Nat) (w:World):
  Calls Tryz.prog 63 #[.slice (some a) 0 c] w fun e w'=>∃v',e= .returned v'/\w'.ownsRow w.heap.size 3 1 v' 0 []/\v'≠ .slice none 0 0/\Below w.heap.size w w':=Any.slices_Clone_int_zero Tryz.laysNm215 a c w
def Tryz.laysNm220_ren:Go.Shelf.Ren:=⟨fun|20=>65|n=>n,fun|22=>26|3=>3|4=>4|0=>0|n=>n,fun|n=>n⟩
theorem Tryz.laysNm220 : Go.Proofs.Lays2.n20 Tryz.prog Tryz.laysNm220_ren := {
  mixed := by kernel_rfl
  f20 := Tryz.func65.trans (congrArg some (by kernel_rfl))
  t0 := Tryz.underlying0
  a0 := Tryz.isAgg0
  z0 := Tryz.sizeOf0
  v0 := Tryz.zeroValue0
  t3 := Tryz.underlying3
  a3 := Tryz.isAgg3
  z3 := Tryz.sizeOf3
  v3 := Tryz.zeroValue3
  t4 := Tryz.underlying4
  a4 := Tryz.isAgg4
  z4 := Tryz.sizeOf4
  v4 := Tryz.zeroValue4
  t22 := Tryz.underlying26
  a22 := Tryz.isAgg26
  z22 := Tryz.sizeOf26
  v22 := Tryz.zeroValue26
  i3 := by kernel_rfl }
open Go.RowKit Go.Lib Go.Sort in
open Go.RowKit Go.Lib Go.Sort in
theorem Tryz.slices_Compact_int (blk off cap:Nat) (zs:List Int) (w:World) (hH:Holds (Value.int .i64) w blk off zs.toArray) (hsz:zs.length<=9223372036854775807) (hcap:zs.length<=cap):
  Calls Tryz.prog 65 #[.slice (some ⟨blk,off,none⟩) zs.length cap] w fun e w'=>e= .returned (.slice (some ⟨blk,off,none⟩) (Lib.compact zs).length cap)/\∃q,w'=putRow (Value.int .i64) (Sort.ahead w q) blk off (Lib.compact zs++List.replicate (zs.length-(Lib.compact zs).length) 0).toArray:=Any.slices_Compact_int Tryz.laysNm220 blk off cap zs w hH hsz hcap
open Go.RowKit Go.Lib Go.Sort in
theorem Tryz.slices_Compact_int_empty (a:Option Addr) (cap:Nat) (w:World):
  Calls Tryz.prog 65 #[.slice a 0 cap] w fun e w'=>e= .returned (.slice a 0 cap)/\w'=w:=Any.slices_Compact_int_empty Tryz.laysNm220 a cap w
open Go.RowKit Go.Lib in
open Go.RowKit Go.Lib in
open Go.RowKit Go.Lib Go.Sort in
open Go.RowKit Go.Sort in
theorem Tryz.slices_Sort_int_none (p:Option Addr) (cap:Nat) (w:World):
  Calls Tryz.prog 64 #[.slice p 0 cap] w fun e w'=>e= .returned (.tuple #[])/\w'=w:=Any.slices_Sort_int_none Tryz.lays189 p cap w
end Go.Proofs
namespace Go.Proofs.YtblpjknmhajcgaaGreatDoor
open Go Go.Sh
variable (G:List (Nat × D))
abbrev zar (l:List Int):List Int:=l.mergeSort fun x y=>decide (x<=y)
def yov:List (Int × Int)->Int->List (Int × Int)
 |[],_=>[]
 |[r],x=>[(r.1,x)]
 |r::q::l,x=>r::yov (q::l) x
def yxk (rs:List (Int × Int)) (b:Option View) (v:View):List (Int × Int):=
 match b with
 |some u=>if u.same v then yov rs (v.day+1) else rs++[(v.day,v.day+1)]
 |none=>rs++[(v.day,v.day+1)]
def runsOf (vs:List View):List (Int × Int):=(vs.foldl (fun s v=>(yxk s.1 s.2 v,some v)) (([],none):List (Int × Int) × Option View)).1
def View.cs (v:View):List SV:=[sI v.day,.imm (qu v.has),.imm (zi v.value),.imm (zi v.arts)]
def bs (l:List UInt8):ByteArray:=⟨l.toArray⟩
mutual
def yx:Ex->Nat
 | .mk _ _ _ _ _ ks=>yb ks+1
def yb:List Ex->Nat
 |[]=>0
 |k::r=>yx k+yb r
end
mutual
def zdx:Ex->Nat
 | .mk _ _ _ _ _ ks=>zdb ks+1
def zdb:List Ex->Nat
 |[]=>0
 |k::r=>max (zdx k) (zdb r)
end
theorem zwg (e:Ex):1<=yx e:=by cases e;simp [yx]
theorem ztj (a b:List Ex):yb (a++b)=yb a+yb b:=by
 induction a with
 |nil=>simp [yb]
 |cons k a ih=>simp [yb,ih];omega
theorem zch (a:List Ex):a.length<=yb a:=by
 induction a with
 |nil=>simp
 |cons k a ih=>have:=zwg k;simp [yb];omega
theorem ztk {a:List Ex} {k:Ex} (h:k∈a):yx k<=yb a:=by
 induction a with
 |nil=>cases h
 |cons x a ih=>
  rcases List.mem_cons.1 h with rfl|h
  ·simp [yb]
  ·have:=ih h;simp [yb];omega
theorem zqt (a:List Ex) (n:Nat):zdb a<=n ↔ ∀k∈a,zdx k<=n:=by
 induction a with
 |nil=>simp [zdb]
 |cons x a ih=>simp [zdb,Nat.max_le,ih]
def wu (n:Nat) (L:Int):Int:=if L<=0 then 0 else if (n:Int)<=L then n else L
theorem zfh (n:Nat) (L:Int) (h:0<L):((n:Int)<=L/\wu n L=n)\/(L<n/\wu n L=L):=by
 simp only [wu];rw [if_neg (by omega)];split<;>omega
theorem ybn (a s:Nat) (L:Int) (h0:0<L) (h:wu (a+1) L<L):wu (a+1) L+wu s (L-wu (a+1) L)=wu (a+s+1) L/\wu (a+1) L=((a+1:Nat):Int)/\wu (a+s+1) L<=L/\0<=wu (a+s+1) L:=by
 have h1:=zfh (a+1) L h0;have h2:=zfh s (L-wu (a+1) L) (by omega);have h3:=zfh (a+s+1) L h0;omega
theorem ykx (N:Nat):∀(e:Ex),SizeOf.sizeOf e<N->∀L:Int,0<=L->L<=1000000->zw Tryz.prog G 92 [e.sv,sI L] (sI (wu (yx e) L)):=by
 induction N with
 |zero=>intro e h;omega
 |succ N IH=>
 intro e he L hL0 hL;obtain ⟨op,n,u,den,ps,ks⟩:=e;simp only [Ex.mk.sizeOf_spec] at he;have hrows:=zp ks;have hlen:(zd ks).length=ks.length:=by rw [hrows];simp
 refine zc Tryz.func92 rfl (by rw [Tryz.ntmps92];simp) rfl rfl ?_;intro E hH hK;(refine zl ?_;conv=>whnf)
 repeat' ((with_reducible refine way ?_ ?_)<;>(intro h;conv=>whnf))
 ·exact kI hK (by simp only [wu];rw [if_pos h])
 refine zg [1,2,5,6] ?_;refine xc (σ:=List Ex × List Ex × Int) (fun x=>[(1,sI L),(2,.ptr 0 0),(5,sI x.2.2),(6,sI x.1.length)])
  (fun _=>[.cells ((Ex.mk op n u den ps ks).cells.map .imm)])
  (fun x=>ks=x.1++x.2.1/\(x.1.length:Int)<=L/\x.2.2=wu (yb x.1+1) L) (fun x=>x.2.1.length) ?_ ([],ks,1) ⟨rfl,by simp;omega,by have:=zfh (0+1) L (by omega);simp only [yb];omega⟩
 rintro ⟨done,rest,cnt⟩ ⟨ha,hl,hcnt⟩ ih
 dsimp only at ha hl hcnt ih ⊢
 subst hcnt;have hl1:done.length+rest.length=ks.length:=by rw [ha];simp
 have hsz:yb ks=yb done+yb rest:=by rw [ha,ztj]
 have hdl:=zch done;have hfin:∀H,(rest=[]\/L<=wu (yb done+1) L)->E.K (sI (wu (yb done+1) L)) H:=fun H hc=>by
  have:wu (yx (.mk op n u den ps ks)) L=wu (yb done+1) L:=by
   simp only [yx,hsz];rcases hc with rfl|hc
   ·simp [yb]
   ·revert hc
    simp only [wu];split
    ·intro hc;rfl
    ·split<;>split<;>intros<;>omega
  rw [this] at hK;exact hK H
 cases rest with
 |nil=>
  simp at hl1;(refine zl ?_;conv=>whnf)
  repeat' ((with_reducible refine way ?_ ?_)<;>(intro h;conv=>whnf))
  all_goals try (exfalso;omega)
  exact hfin _ (.inl rfl)
 |cons k rest=>
  simp at hl1;have hkm:SizeOf.sizeOf k<SizeOf.sizeOf ks:=List.sizeOf_lt_of_mem (by rw [ha];simp);have hrow:(zd ks)[((done.length:Nat):Int).toNat]?=some k.cells:=by rw [hrows];simp [ha]
  have hcc:0<L->1<=wu (yb done+1) L/\wu (yb done+1) L<=L:=fun h0=>by
   simp only [wu];split
   ·omega
   ·split<;>omega
  (refine zl ?_;conv=>whnf)
  repeat' ((with_reducible refine way ?_ ?_)<;>(intro h;conv=>whnf))
  all_goals try (exfalso;omega)
  ·have h3:=hcc (by omega)
   have hw1:IntKind.i64.wrap (L-wu (yb done+1) L)=L-wu (yb done+1) L:=yz (by omega) (by omega);have hw:IntKind.i64.wrap ((done.length:Int)+1)=(((done++[k]).length:Nat):Int):=by rw [yz (by omega) (by omega)];simp
   obtain ⟨o1,n1,u1,d1,p1,q1⟩:=k;refine zh rfl rfl  (row:=(Ex.mk o1 n1 u1 d1 p1 q1).cells) hrow ?_;(refine zm ?_;conv=>whnf);rw [hw1];refine ze rfl  (IH (.mk o1 n1 u1 d1 p1 q1) (by omega) (L-wu (yb done+1) L) (by omega) (by omega)) ?_;(refine zm ?_;conv=>whnf);have hst:=ybn (yb done) (yx (.mk o1 n1 u1 d1 p1 q1)) L (by omega) (by assumption);have e1:yb (done++[Ex.mk o1 n1 u1 d1 p1 q1])=yb done+yx (.mk o1 n1 u1 d1 p1 q1):=by rw [ztj];simp [yb]
   have hsum:IntKind.i64.wrap (wu (yb done+1) L+wu (yx (.mk o1 n1 u1 d1 p1 q1)) (L-wu (yb done+1) L))=wu (yb (done++[.mk o1 n1 u1 d1 p1 q1])+1) L:=by
    rw [hst.1,e1,yz (by omega) (by omega)]
   rw [hsum,hw];refine yy [1,2,5,6] 1 (by simp [hH]) (by simp) rfl rfl (ih (done++[Ex.mk o1 n1 u1 d1 p1 q1],rest,wu (yb (done++[Ex.mk o1 n1 u1 d1 p1 q1])+1) L) ⟨by simp [ha],?_,rfl⟩ (by simp));have h9:=hst.2.1;simp;omega
  ·exact hfin _ (.inr (by omega))
theorem zpi (e:Ex) (L:Int) (h0:0<=L) (h1:L<=999999):zw Tryz.prog G 62 [e.sv,sI L] (sB (decide ((yx e:Int)<=L))):=by
 have hc:=ykx G (SizeOf.sizeOf e+1) e (by omega) (L+1) (by omega) (by omega);obtain ⟨op,n,u,den,ps,ks⟩:=e;refine zc Tryz.func62 rfl (by rw [Tryz.ntmps62];simp) rfl rfl ?_;intro E hH hK;have hw:IntKind.i64.wrap (L+1)=L+1:=yz (by omega) (by omega);(refine zl ?_;conv=>whnf);rw [hw];refine ze rfl  hc ?_;(refine zm ?_;conv=>whnf)
 exact kB hK (decide_eq_decide.2 (by
  simp only [wu];rw [if_neg (by omega)]
  split<;>omega))
theorem yow (N:Nat):∀(e:Ex),SizeOf.sizeOf e<N->yx e<=1000->∀L:Int,0<=L->L<=1000000->zw Tryz.prog G 117 [e.sv,sI L] (sB (decide ((zdx e:Int)<=L))):=by
 induction N with
 |zero=>intro e h;omega
 |succ N IH=>
 intro e he hs L hL0 hL;obtain ⟨op,n,u,den,ps,ks⟩:=e;simp only [Ex.mk.sizeOf_spec] at he;simp only [yx] at hs;have hrows:=zp ks;have hlen:(zd ks).length=ks.length:=by rw [hrows];simp
 have hkl:=zch ks;refine zc Tryz.func117 rfl (by rw [Tryz.ntmps117];simp) rfl rfl ?_;intro E hH hK;(refine zl ?_;conv=>whnf)
 repeat' ((with_reducible refine way ?_ ?_)<;>(intro h;conv=>whnf))
 ·exact kB hK (decide_eq_false (by simp only [zdx];omega))
 have hw1:IntKind.i64.wrap (L-1)=L-1:=yz (by omega) (by omega);refine zg [1,2,5] ?_;refine zo ks (fun i (_:Unit)=>[(1,sI L),(2,.ptr 0 0),(5,sI i)]) (fun _ _=>[.cells ((Ex.mk op n u den ps ks).cells.map .imm)])
  (fun done _ _=>zdb done<=(L-1).toNat) () (by simp [zdb]) ?_ ?_
 ·rintro _ h1
  (refine zl ?_;conv=>whnf)
  repeat' ((with_reducible refine way ?_ ?_)<;>(intro h;conv=>whnf))
  all_goals try (exfalso;omega)
  exact kB hK (decide_eq_true (by simp only [zdx];omega))
 ·rintro done k rest _ ha hl h1 ih
  have hkm:SizeOf.sizeOf k<SizeOf.sizeOf ks:=List.sizeOf_lt_of_mem (by rw [ha];simp);have hks:yx k<=yb ks:=ztk (by rw [ha];simp);have hw:=zk (n:=done.length) (by omega);have hrow:(zd ks)[((done.length:Nat):Int).toNat]?=some k.cells:=by rw [hrows];simp [ha]
  have hcall:=IH k (by omega) (by omega) (L-1) (by omega) (by omega);have hbad:¬((zdx k:Int)<=L-1)->decide ((zdx (.mk op n u den ps ks):Int)<=L)=false:=fun hb=>by
   refine decide_eq_false ?_;simp only [zdx];intro hc;have:=(zqt ks (L-1).toNat).1 (by omega) k (by rw [ha];simp);omega
  have hgood:(zdx k:Int)<=L-1->zdb (done++[k])<=(L-1).toNat:=fun hb=>by
   rw [zqt] at h1 ⊢;intro x hx;rcases List.mem_append.1 hx with hx|hx
   ·exact h1 x hx
   ·simp at hx;subst hx;omega
  obtain ⟨o1,n1,u1,d1,p1,q1⟩:=k;(refine zl ?_;conv=>whnf)
  repeat' ((with_reducible refine way ?_ ?_)<;>(intro h;conv=>whnf))
  all_goals try (exfalso;omega)
  refine zh rfl rfl  (row:=(Ex.mk o1 n1 u1 d1 p1 q1).cells) hrow ?_;(refine zm ?_;conv=>whnf);rw [hw1];refine ze rfl  hcall ?_;(refine zm ?_;conv=>whnf)
  repeat' ((with_reducible refine way ?_ ?_)<;>(intro h;conv=>whnf))
  ·exact kB hK (hbad h)
  ·rw [hw]
   exact yy [1,2,5] 1 (by simp [hH]) (by simp) rfl rfl (ih () (hgood h))
def zei (e:Ex):Bool:=decide (yx e<=400)&&decide (zdx e<=40)
theorem zyr (e:Ex):zw Tryz.prog G 83 [e.sv] (sB (zei e)):=by
 have hs:=zpi G e 400 (by omega) (by omega);have hf:=fun h=>yow G (SizeOf.sizeOf e+1) e (by omega) h 40 (by omega) (by omega)
 have hw:zei e=(decide ((yx e:Int)<=400)&&decide ((zdx e:Int)<=40)):=by
  simp only [zei]
  congr 1
  ·exact decide_eq_decide.2 (by omega)
  ·exact decide_eq_decide.2 (by omega)
 rw [hw];obtain ⟨op,n,u,den,ps,ks⟩:=e;refine zc Tryz.func83 rfl (by rw [Tryz.ntmps83];simp) rfl rfl ?_;intro E hH hK;(refine zl ?_;conv=>whnf);refine ze rfl  hs ?_;(refine zm ?_;conv=>whnf)
 repeat' ((with_reducible refine way ?_ ?_)<;>(intro h;conv=>whnf))
 ·refine ze rfl  (hf (by omega)) ?_
  (refine zm ?_;conv=>whnf);exact kB hK (by simp only [decide_eq_true h,Bool.true_and])
 ·exact kB hK (by simp only [decide_eq_false h,Bool.false_and])
theorem zci (m:Nat):28<=lenOf m/\lenOf m<=31:=by
 unfold lenOf zjv;split
 ·omega
 ·split
  ·split<;>omega
  ·omega
theorem zfn:∀{m n:Nat},m<=n->zy m+28*((n:Int)-m)<=zy n
 |m,0,h=>by
  have:m=0:=by omega
  subst this;omega
 |m,n+1,h=>by
  by_cases e:m=n+1
  ·subst e
   omega
  ·have:=zfn (m:=m) (n:=n) (by omega)
   have h2:=zci n;have h3:zy (n+1)=zy n+lenOf n:=rfl;omega
theorem ybo (M:Nat):∀n:Nat,((List.range n).filter fun m=>decide (m<M)).length=min n M
 |0=>by simp
 |n+1=>by
  rw [List.range_succ,List.filter_append,List.length_append,ybo M n]
  by_cases h:n<M
  ·simp [h];omega
  ·simp [h];omega
def zpj (d:Int):Nat:=((List.range 1200).filter fun m=>decide (zy (m+1)<=d)).length
theorem yky {M:Nat} {d:Int} (hM:M<=1200) (h1:zy M<=d) (h2:d<zy (M+1)):zpj d=M:=by
 have:(List.range 1200).filter (fun m=>decide (zy (m+1)<=d))=(List.range 1200).filter fun m=>decide (m<M):=by
  refine List.filter_congr fun m _=>decide_eq_decide.2 ⟨fun h=>?_,fun h=>?_⟩
  ·rcases Nat.lt_or_ge m M with h'|h'
   ·exact h'
   ·have:=zfn (m:=M+1) (n:=m+1) (by omega)
    omega
  ·have:=zfn (m:=m+1) (n:=M) (by omega)
   omega
 rw [zpj,this,ybo];omega
theorem zgq:zy 1200=36525:=by
 rw [<-znt 1200 (by omega)];decide
theorem zqu (q:Nat) (h:q<=25):zy (48*q)=1461*q:=by
 rw [<-znt (48*q) (by omega)];unfold zyq;rw [show 48*q % 12=0 by omega,show 48*q / 12=4*q by omega];simp [ztg];omega
def wn (d:Int):Int × Int × Int:=
 if 0<=d/\d<=36524 then (2000+(zpj d / 12:Nat),(zpj d % 12:Nat)+1,d-zy (zpj d)+1) else (0,0,0)
theorem zer {d:Int} {y m:Nat} {r:Int} (hd:0<=d/\d<=36524) (hm:m<12) (hr:0<=r) (h:zy (12*y+m)+r=d) (hl:r<lenOf (12*y+m)):wn d=(2000+(y:Int),(m:Int)+1,r+1):=by
 have h3:zy (12*y+m+1)=zy (12*y+m)+lenOf (12*y+m):=rfl;have hM:12*y+m<=1200:=by
  rcases Nat.lt_or_ge 1200 (12*y+m) with h'|h'
  ·have:=zfn (m:=1200) (n:=12*y+m) (by omega)
   rw [zgq] at this;omega
  ·exact h'
 have hmo:zpj d=12*y+m:=yky hM (by omega) (by omega);rw [wn,if_pos hd,hmo];have e1:(12*y+m) / 12=y:=by omega
 have e2:(12*y+m) % 12=m:=by omega
 rw [e1,e2];have e3:d-zy (12*y+m)+1=r+1:=by omega
 rw [e3]
theorem zwh {d:Int} {y m:Nat} {r:Int} (hd:d<=36524) (hr:0<=r) (h:zy (12*y+m)+r=d):12*y+m<1200:=by
 rcases Nat.lt_or_ge (12*y+m) 1200 with h'|h'
 ·exact h'
 ·have:=zfn (m:=1200) (n:=12*y+m) (by omega)
  rw [zgq] at this;omega
def zaj (d:Int):Int:=if 0<=d/\d<=36524 then (d+5).tmod 7+1 else 0
def inR (n:Int):Bool:=decide (-1000000000000<=n)&&decide (n<=1000000000000)
def b2i (b:Bool):Int:=if b then 1 else 0
abbrev PV:=Int × Bool
def noV:PV:=(0,false)
def yzh (a b:Int):PV:=if b≠0/\Int.tdiv 1000000000000 (max b (-b))<max a (-a) then noV else (a*b,true)
def yzi (a b:Int):PV:=if b<=0 then noV else (if a.tmod b<0 then a.tdiv b-1 else a.tdiv b,true)
def yud (p den:Int):Int:=
 let q:=if p.tmod den<0 then p.tdiv den-1 else p.tdiv den
 let r:=if p.tmod den<0 then p.tmod den+den else p.tmod den
 if 2*r=den then (if q.tmod 2≠0 then q+1 else q) else if den<2*r then q+1 else q
def yue (cents num den:Int):Int × Int:=
 if inR cents=false\/num< -1000000\/1000000<num\/den<1\/1000000<den then (0,1)
 else if inR (yud (cents*num) den) then (yud (cents*num) den,0) else (0,3)
def ysx (minutes cents:Int):PV:=((yue cents minutes 60).1,decide ((yue cents minutes 60).2=0))
def yvf (ps:List Piece) (x:Int):Option Piece:=(ps.filter fun p=>decide (p.lo<=x)).getLast?
def yvg (ps:List Piece) (x:Int):Int:=match yvf ps x with|some p=>p.at_+p.slope*(x-p.lo)|none=>0
def yvh (a b:Int):Int:=if a.tmod b<0 then a.tdiv b-1 else a.tdiv b
def yuf (den:Int) (ps:List Piece) (x:Int):Int × Int:=
 if zbf den ps=false\/x<0\/1000000000000<x then (0,1)
 else
  let n:=yvg ps x
  let q:=yvh n den
  let t:=2*(n-q*den)
  let r:=if den<t\/(t=den/\q.tmod 2≠0) then q+1 else q
  if inR r then (r,0) else (0,3)
def yzj (op a b:Int):PV:=
 if op=8 then (b2i (decide (a=b)),true) else if op=9 then (b2i (decide (a<b)),true) else if op=10 then (b2i (decide (a<=b)),true)
 else if op=11 then (a+b,true) else if op=12 then (a-b,true) else if op=13 then yzh a b else if op=14 then yzi a b else if op=15 then ysx a b else noV
def yox (and_:Bool) (x y:PV):PV:=
 if (x.2&&(decide (x.1=0)==and_))||(y.2&&(decide (y.1=0)==and_)) then (b2i (!and_),true) else (b2i and_,x.2&&y.2)
def yxl (least:Bool):Int->List PV->PV
 |acc,[]=>(acc,true)
 |acc,x::r=>if x.2 then yxl least (if least then min acc x.1 else max acc x.1) r else noV
def yoy (least:Bool):List PV->PV
 |[]=>noV
 |x::r=>if x.2 then yxl least x.1 r else noV
def yxm (V:View) (am:List (Int × Int)) (op n:Int):PV:=
 if op=1 then (n,true)
 else if op=2 then
  (if n<0\/(V.has.length:Int)<=n\/(V.value.length:Int)<=n\/V.has.getD n.toNat false=false then noV else (V.value.getD n.toNat 0,true))
 else if op=3 then ((zx n am).getD 0,true)
 else if (wn V.day).1=0 then noV
 else if n=1 then (zaj V.day,true) else if n=2 then ((wn V.day).2.2,true) else if n=3 then ((wn V.day).2.1,true) else if n=4 then ((wn V.day).1,true) else noV
def yzk (op den:Int) (ps:List Piece) (a:Int):PV:=
 if op=5 then (b2i (decide (a=0)),true) else ((yuf den ps (max a 0)).1,decide ((yuf den ps (max a 0)).2=0))
def yzl (V:View) (am:List (Int × Int)) (op n den:Int) (ps:List Piece) (vs:List PV):PV:=
 if 1<=op/\op<=4 then (if vs.length=0 then yxm V am op n else noV)
 else if op=16\/op=17 then yoy (decide (op=16)) vs
 else if op=5\/op=18 then (match vs with|[x]=>if x.2 then yzk op den ps x.1 else noV|_=>noV)
 else match vs with
  |[x,y]=>if op=6\/op=7 then yox (decide (op=6)) x y else if x.2&&y.2 then yzj op x.1 y.1 else noV
  |_=>noV
def xak (x:PV):PV:=if x.2&&inR x.1 then x else noV
mutual
def yzm (V:View) (am:List (Int × Int)):Ex->PV
 | .mk op n _ den ps ks=>xak (yzl V am op n den ps (yug V am ks))
def yug (V:View) (am:List (Int × Int)):List Ex->List PV
 |[]=>[]
 |e::r=>yzm V am e::yug V am r
end
def Piece.key (p:Piece):Int × Int × Int:=(p.lo,p.at_,p.slope)
mutual
def zjd:Ex->Ex->Bool
 | .mk op n u den ps ks,.mk op' n' u' den' ps' ks'=>decide (op=op')&&decide (n=n')&&decide (u=u')&&decide (den=den')&&decide (ps.map Piece.key=ps'.map Piece.key)&&znv ks ks'
def znv:List Ex->List Ex->Bool
 |[],[]=>true
 |a::r,b::s=>zjd a b&&znv r s
 |[],_::_=>false
 |_::_,[]=>false
end
def zhc (list parts:List Ex):Bool:=parts.all fun p=>list.any fun e=>zjd e p
def qj (c:Codex) (i:Int):Option Article:=if i<0 then none else c.arts[i.toNat]?
def qk (c:Codex) (i j:Int):Bool:=
 match qj c i,qj c j with
 |some x,some y=>
  if x.line≠y.line\/x.number=y.number then false
  else if x.rank≠y.rank then decide (y.rank<x.rank)
  else if zhc x.when_ y.when_≠zhc y.when_ x.when_ then zhc x.when_ y.when_
  else decide (y.known<x.known)
 |_,_=>false
mutual
def qn:Ex->List Int
 | .mk op n _ _ _ ks=>(if op=3 then [n] else [])++yr ks
def yr:List Ex->List Int
 |[]=>[]
 |e::r=>qn e++yr r
end
def jv (a:Article):List Int:=a.unless_++yr a.when_++qn a.amount
def zac (c:Codex) (names:List Int) (v:Int):List Article->Nat->List Int
 |[],_=>[]
 |a::r,i=>(if a.number∈names\/qk c i v=true then [(i:Int)] else [])++zac c names v r (i+1)
def xe (c:Codex) (v:Int):List Int:=match qj c v with|some a=>zac c (jv a) v c.arts 0|none=>[]
def yc (c:Codex):List (List Int):=(List.range c.arts.length).map fun (i:Nat)=>xe c i
structure Efct where
 art:Int
 state:Int
 by_:Int
 amount:Int
def Efct.cells (e:Efct):List D:=[dI e.art,dI e.state,dI e.by_,dI e.amount]
def Efct.sv (e:Efct):SV:=.agg [sI e.art,sI e.state,sI e.by_,sI e.amount]
theorem zwi (c:Codex) (names:List Int) (v:Int):∀(l:List Article) (i:Nat) (x:Int),x∈zac c names v l i ↔ ∃j:Nat,∃a,l[j]?=some a/\x=((i+j:Nat):Int)/\(a.number∈names\/qk c x v=true)
 |[],i,x=>by simp [zac]
 |a::r,i,x=>by
  simp only [zac,List.mem_append,zwi c names v r (i+1) x];constructor
  ·rintro (h|⟨j,b,h1,h2,h3⟩)
   ·split at h
    ·rename_i hv
     simp at h;subst h;exact ⟨0,a,by simp,by simp,hv⟩
    ·cases h
   ·exact ⟨j+1,b,by simpa using h1,by rw [h2];congr 1;omega,h3⟩
  ·rintro ⟨j,b,h1,h2,h3⟩
   cases j with
   |zero=>
    left
    simp only [List.getElem?_cons_zero,Option.some.injEq] at h1;subst h1;simp only [Nat.add_zero] at h2;subst h2;rw [if_pos h3];simp
   |succ j=>
    right
    exact ⟨j,b,by simpa using h1,by rw [h2];congr 1;omega,h3⟩
theorem znw {c:Codex} {i:Int} {a:Article} (h:qj c i=some a):∃j:Nat,i=j/\c.arts[j]?=some a:=by
 unfold qj at h;split at h
 ·cases h
 ·exact ⟨i.toNat,by omega,h⟩
theorem yia {c:Codex} {j:Nat} {a:Article} (h:c.arts[j]?=some a):qj c (j:Int)=some a:=by
 unfold qj;rw [if_neg (by omega)];simpa using h
theorem yev {c:Codex} {v:Int} {a:Article} (ha:qj c v=some a) (x:Int):x∈xe c v ↔ ∃b,qj c x=some b/\(b.number∈jv a\/qk c x v=true):=by
 unfold xe;rw [ha];simp only;rw [zwi];constructor
 ·rintro ⟨j,b,h1,h2,h3⟩
  rw [Nat.zero_add] at h2;subst h2;exact ⟨b,yia h1,h3⟩
 ·rintro ⟨b,h1,h2⟩
  obtain ⟨j,rfl,h3⟩:=znw h1;exact ⟨j,b,h3,by simp,h2⟩
structure Opd where
 op:Int
 n:Int
inductive Cond where
 |none
 |plain (o:Opd)
 |cmp (op:Int) (l r:Opd)
 |neg (c:Cond)
 |conn (d:Int) (l r:Cond)
def iv (n:Int):D:=.val (.int .i64 n)
def Cond.d:Cond->D
 | .none=>.val .nilIface
 | .plain o=>.iface 143 (.agg [iv o.op,iv o.n])
 | .cmp op l r=>.iface 152 (.agg [iv op,iv l.op,iv l.n,iv r.op,iv r.n])
 | .neg c=>.iface 146 (.agg [c.d])
 | .conn d l r=>.iface 148 (.agg [iv d,l.d,r.d])
structure St where
 p:Int × Int × Int × Int × Int
 ch:List Bool
 vs:List Int
def St.part (s:St) (i:Int):Int:=if i=0 then s.p.1 else if i=1 then s.p.2.1 else if i=2 then s.p.2.2.1 else if i=3 then s.p.2.2.2.1 else s.p.2.2.2.2
def Opd.val (o:Opd) (s:St):Int × Bool:=
 if o.op=2 then (s.vs.getD o.n.toNat 0,s.ch.getD o.n.toNat false) else if o.op=4 then (s.part o.n,true) else (o.n,true)
def Opd.ok (n:Nat) (o:Opd):Prop:=(o.op=2->0<=o.n/\o.n<n)/\(o.op=4->0<=o.n/\o.n<=4)
def zmf (b:Bool):Int:=if b then 1 else 0
def zrr (op a b:Int):Bool:=if op=9 then decide (a<b) else if op=10 then decide (a<=b) else decide (a=b)
def Cond.dec (s:St):Cond->Int
 | .none=>2
 | .plain o=>if (o.val s).2 then zmf (!decide ((o.val s).1=0)) else 2
 | .cmp op l r=>if (l.val s).2&&(r.val s).2 then zmf (zrr op (l.val s).1 (r.val s).1) else 2
 | .neg c=>if c.dec s=0 then 1 else if c.dec s=1 then 0 else 2
 | .conn d l r=>if l.dec s=d then l.dec s else if r.dec s=d\/l.dec s≠2 then r.dec s else 2
def Cond.ok (n:Nat):Cond->Prop
 | .none=>False
 | .plain o=>o.ok n
 | .cmp _ l r=>l.ok n/\r.ok n
 | .neg c=>c.ok n
 | .conn _ l r=>l.ok n/\r.ok n
structure Sr where
 conds:List Cond
 atoms:List Cond
 dates:List Bool
 cands:List (Int × List Int)
def qx (vals:List Int) (v:Int):List Int:=if v<=1000000000000 then (if v∈vals then vals else vals++[v]) else vals
def yew (m:List (Int × List Int)) (f:Int) (vs:List Int):List (Int × List Int):=ains f (vs.foldl qx ((zx f m).getD [])) m
def Sr.cand (s:Sr) (f:Int) (vs:List Int):Sr:={s with cands:=yew s.cands f vs}
def Sr.date (s:Sr) (i:Int):Sr:={s with dates:=s.dates.set i.toNat true}
def wo:List Ex->Sr->Int->Bool × Sr × Int
 |[],s,n=>(true,s,n)
 |k::r,s,n=>if k.op=1 then wo r s (n+1) else if k.op=4 then wo r (s.date k.n) n else if k.op=2 then wo r s n else (false,s,n)
def cmpCand (s:Sr) (f c:Ex):Sr:=if f.op≠2 then s else if f.unit=tT then s.cand f.n [0,1] else s.cand f.n [0,c.n,c.n+1]
def cmpOf (s:Sr) (op:Int) (kids:List Ex):Cond × Bool × Sr:=
 match wo kids s 0 with
 |(false,s1,_)=>(.none,false,s1)
 |(true,s1,n)=>if n=0 then (.none,false,s1) else match kids with
  |l::r::_=>
   let s2:=cmpCand (cmpCand s1 l r) r l
   let c:=Cond.cmp op ⟨l.op,l.n⟩ ⟨r.op,r.n⟩
   (c,true,if l.op=4\/r.op=4 then {s2 with atoms:=s2.atoms++[c]} else s2)
  |_=>(.none,false,s1)
def simpleOf:Ex->Sr->Cond × Bool × Sr
 | .mk op n _ _ _ ks,s=>
  if op=1 then (.plain ⟨1,n⟩,true,s)
  else if op=2 then (.plain ⟨2,n⟩,true,s.cand n [0,1])
  else if op=8\/op=9\/op=10 then cmpOf s op ks
  else if op=5 then match ks with
   |k::_=>let r:=simpleOf k s;(.neg r.1,r.2.1,r.2.2)
   |[]=>(.none,false,s)
  else if op=6\/op=7 then match ks with
   |k::l::_=>let r:=simpleOf k s;let q:=simpleOf l r.2.2;(.conn (if op=7 then 1 else 0) r.1 q.1,r.2.1&&q.2.1,q.2.2)
   |_=>(.none,false,s)
  else (.none,false,s)
def zfd:List Ex->Sr->Option Sr
 |[],s=>some s
 |e::r,s=>match simpleOf e s with
  |(c,true,s1)=>zfd r {s1 with conds:=s1.conds++[c]}
  |(_,false,_)=>none
def zbv (c:Codex):List Int->Sr->Option Sr
 |[],s=>some s
 |v::r,s=>match qj c v with
  |some a=>match zfd a.when_ s with
   |some s1=>zbv c r s1
   |none=>none
  |none=>none
def sr0:Sr:=⟨[],[],[false,false,false,false,false],[]⟩
def zhm (m:List (Int × List Int)):Int:=m.foldl (fun p e=>min (p*e.2.length) 4097) 1
def zr (vs:List Int):List Int:=Go.Lib.compact (vs.mergeSort fun x y=>decide (x<=y))
def ws (c:Codex) (vs:List Int):Option Sr:=
 match zbv c (zr vs) sr0 with
 |some s=>if zhm s.cands<=4096 then some s else none
 |none=>none
def yf (day:Int):Int × Int × Int × Int × Int:=(0,zaj day,(wn day).2.2,(wn day).2.1,(wn day).1)
def zbw (s:St):List Cond->Int->Int
 |[],r=>r
 |c::l,r=>if c.dec s=0 then 0 else if c.dec s=2 then zbw s l 2 else zbw s l r
def zbp (conds:List Cond) (s:St):Int:=zbw s conds 1
def zpk (atoms:List Cond) (s:St):ByteArray:=(atoms.map fun a=>48+a.dec s).foldl (fun r n=>r.push (UInt8.ofNat n.toNat)) ByteArray.empty
def St.put (s:St) (f v:Int):St:=⟨s.p,s.ch.set f.toNat true,s.vs.set f.toNat v⟩
def qy (conds:List Cond):List (Int × List Int)->St->Option (List Int)
 |[],s=>if zbp conds s=0 then none else some s.vs
 |(f,vals)::rest,s=>if zbp conds s=0 then none else vals.findSome? fun v=>qy conds rest (s.put f v)
abbrev zcs (l:List Int):List Int:=l.mergeSort fun x y=>decide (x<=y)
def yh (m:List (Int × List Int)):List (Int × List Int):=(zcs (m.map (·.1))).map fun f=>(f,zcs ((zx f m).getD []))
def xl (d:List Bool):Int:=
 if d.getD 4 false then 36525 else if d.getD 1 false&&(d.getD 2 false||d.getD 3 false) then 10227 else if d.getD 2 false||d.getD 3 false then 1461 else if d.getD 1 false then 7 else 1
def ym (c:Codex) (vs:List Int):Int × Int:=vs.foldl (fun r v=>match qj c v with|some a=>(max r.1 a.lo,min r.2 a.hi)|none=>r) (0,36525)
def st0 (nf:Nat) (day:Int):St:=⟨yf day,List.replicate nf false,List.replicate nf 0⟩
def zdy (s:Sr) (nf:Nat):Nat->Int->List ByteArray->Option (Int × List Int)
 |0,_,_=>none
 |n+1,day,failed=>
  if zbp s.conds (st0 nf day)=0 then zdy s nf n (day+1) failed
  else if zpk s.atoms (st0 nf day)∈failed then zdy s nf n (day+1) failed
  else match qy s.conds (yh s.cands) (st0 nf day) with
   |some vs=>some (day,vs)
   |none=>zdy s nf n (day+1) (failed++[zpk s.atoms (st0 nf day)])
def jb (c:Codex) (vers:List Int) (s:Sr):Option View:=
 let fr:=ym c vers
 let to:=min fr.2 (fr.1+xl s.dates)
 match zdy s c.facts.length (to-fr.1).toNat fr.1 [] with
 |some (day,vs)=>some ⟨day,(List.range c.facts.length).map fun (i:Nat)=>(zx (i:Int) s.cands).isSome,vs,vers⟩
 |none=>none
def zrk:View:=⟨0,[],[],[]⟩
def yg (c:Codex) (vs:List Int):Option View:=
 if zv c&&vs.all (fun v=>decide (0<=v)&&decide (v<c.arts.length)) then
  match ws c vs with
  |some s=>jb c (zr vs) s
  |none=>none
 else none
def zbl (c:Codex) (i j:Int):Bool:=
 match qj c i,qj c j with
 |some a,some b=>decide (a.line=b.line)&& !decide (a.number=b.number)&& !qk c i j&& !qk c j i&& !decide (b.number∈a.unless_)&& !decide (a.number∈b.unless_)
 |_,_=>false
def ztl (n:Nat):List (Int × Int):=(List.range n).flatMap fun (i:Nat)=>((List.range n).filter fun j=>decide (i<j)).map fun (j:Nat)=>((i:Int),(j:Int))
def wy (c:Codex):Option (Int × Int × View):=
 if zv c then (ztl c.arts.length).findSome? fun p=>if zbl c p.1 p.2 then (yg c [p.1,p.2]).map fun v=>(p.1,p.2,v) else none
 else none
def zdo (c:Codex):List Int:=
 if zv c then ((List.range c.arts.length).map fun (i:Nat)=>(i:Int)).filter fun i=>(ws c [i]).isSome&&(yg c [i]).isNone
 else []
end Go.Proofs.YtblpjknmhajcgaaGreatDoor
namespace Go.Sh
section
variable {P:Program} {G:List (Nat × D)} {fn:Func} {rd:Bool} {E:En P G fn rd} {t:List (Nat × SV)} {K:List SObj} {k:List Item} {m:Nat} {all:Array Oper} {rest:List Oper} {done:List Eff} {o:Oper}
variable {H:List SObj}
theorem zkz (b0 j kk:Nat) {cs:List SV} (hb:H[b0]?=some (.cells cs)) (hj:cs[j]?=some (.imm (.val (.slice none 0 0)))) (h:SW E k t (H.set b0 (.cells (cs.set j (.asl H.length kk [])))++[.tok kk 0])):SW E k t H:=by
 refine ⟨fun a w I β cs' hs=>?_⟩;have hbl:=lt_of_getElem? hb;have hp:=hs.heap.push (o:=.tok kk 0) (x:=.tok (.slice none 0 0)) (.inl ⟨rfl,rfl⟩) (fun b c hc=>by cases hc);have he:Ext H.length w I β H w I (β++[.tok (.slice none 0 0)]) (H++[.tok kk 0]):=.push hs.heap (fun c hc=>by cases hc);obtain ⟨x,hx⟩:∃x,β[b0]?=some x:=⟨β[b0]'(by rw [hs.heap.len];exact hbl),List.getElem?_eq_getElem _⟩;have hob:=hp.obj b0 (.cells cs) x (by rw [List.getElem?_append_left hbl];exact hb) (by rw [List.getElem?_append_left (lt_of_getElem? hx)];exact hx);cases x with
 |tok u=>exact hob.elim
 |blk c=>
 obtain ⟨vs,T,a1,a2,a3,a4⟩:=hob;have hnew:ObjOK w I (β++[.tok (.slice none 0 0)]) (.cells (cs.set j (.asl H.length kk []))) (.blk c):=by
  refine ⟨vs,T,a1,by simpa using a2,fun q hq hq'=>?_,a4⟩
  by_cases e:j=q
  ·subst e
   have hq2:j<cs.length:=by simpa using hq
   have hr:=a3 j hq2 hq';have:cs[j]= .imm (.val (.slice none 0 0)):=by simpa [List.getElem?_eq_getElem hq2] using hj
   rw [this] at hr;simp only [List.getElem_set_self];generalize vs[j]=v at hr;cases hr with|imm hr=>
   cases hr with|val _=>
   exact .asl H.length kk [] _ _ 0 (.islNil kk) (by rw [<-hs.heap.len];simp) ⟨_,_,rfl⟩ (Nat.le_refl _) (fun _=>rfl)
  ·rw [List.getElem_set_ne e]
   exact a3 q (by simpa using hq) hq'
 obtain ⟨g1,g2⟩:=hp.changeB (m:=H.length) (w':=w) (b:=b0) (o:=.cells cs) (o':=.cells (cs.set j (.asl H.length kk []))) (x:=.blk c) (by rw [List.getElem?_append_left hbl];exact hb) (by simp) (by rw [List.getElem?_append_left (lt_of_getElem? hx)];exact hx) rfl (fun _ _=>rfl) rfl a4 hnew;rw [List.set_append_left _ _ hbl] at g1 g2;have hE:=he.trans g2;exact h.run a w I _ cs' ⟨g1,fun n=>(hs.tmps n).ext (by rw [hs.heap.len];exact hE),hs.size,hs.defers.ext hE,hs.ext.trans (hE.weaken hs.hlen),by have:=hs.hlen;simp;omega⟩
end
section
variable {P:Program} {G:List (Nat × D)} {fn:Func} {rd:Bool} {E:En P G fn rd} {t:List (Nat × SV)} {H K:List SObj} {k:List Item} {m:Nat} {all:Array Oper} {rest:List Oper} {done:List Eff} {o:Oper}
def yvi (P:Program) (G:List (Nat × D)) (t:List (Nat × SV)) (o:Oper) (r:SV):Prop:=
 ∀(ρ:Operand->Value) w I β,(∀x∈o.op.operands,Rep w I β (ρ x) (zq G t x))->∃v,(execOp ρ o).run P w= .ok (.value v) w/\Rep w I β v r
theorem yoz {r:SV} (hw:yq all t o.guard=some true) (hd:yv fn.ntmps o.dst=true) (hsem:yvi P G t o r)
  (h:SWe E m all rest k (wz t o.dst r) K (done++[⟨r,[],none⟩])):SWe E m all (o::rest) k t K done:=
 zib (e:=⟨r,[],none⟩) ⟨hd,.inr ⟨hw,fun K' hl ha ρ w I β hH hdum hop=>by
  obtain ⟨v,h1,h2⟩:=hsem ρ w I β hop
  exact .inl ⟨.value v,v,w,I,β,h1,.inl rfl,h2,⟨hH,.refl,fun b y hb hy hne=>⟨y,hy,y.le_refl⟩,fun b hb _=>hb⟩⟩⟩⟩ h
theorem yex {r:SV} (hw:yq all t o.guard=some true) (hd:yv fn.ntmps o.dst=true) (hnd:∀c,o.op≠ .defer c) (hsem:yvi P G t o r)
  (h:SWr E all rest k (wz t o.dst r) H):SWr E all (o::rest) k t H:=
 zce hw hd hnd (Nat.le_refl _) (fun ρ w I β hH hev=>by
  obtain ⟨v,h1,h2⟩:=hsem ρ w I β (fun x _=>hev x)
  exact ⟨.value v,v,w,I,β,h1,.inl rfl,h2,hH,.refl⟩) h
end
section
variable {P:Program} {w:World}
theorem ztm {t:TypeId} {f0 f1 f2:Field} {k0 k1 k2:IntKind} {a b c a' b' c':Int} {x y z:IntKind} (hu:P.underlying t=some (.struct #[f0,f1,f2])) (hs:P.stoodInHeld t=false)
  (hn0:f0.name≠ "_") (hn1:f1.name≠ "_") (hn2:f2.name≠ "_") (ho0:f0.offset=0) (ho1:f1.offset=1) (ho2:f2.offset=2)
  (hi0:P.underlying f0.type=some (.int k0)) (hi1:P.underlying f1.type=some (.int k1)) (hi2:P.underlying f2.type=some (.int k2)):
  (Op.equal t (.agg #[.int x a,.int y b,.int z c]) (.agg #[.int x a',.int y b',.int z c'])).run P w= .ok (decide (a=a')&&(decide (b=b')&&decide (c=c'))) w:=by
 show (Op.equalIn (9998+1+1) t _ _).run P w=_;generalize 9998=n;rw [Op.equalIn];simp only [Sem.run_bind,run_underlying hu,Result.andThen_ok]
 simp [hs,hn0,hn1,hn2,ho0,ho1,ho2,zcm hi0 (cs:=#[.int x a,.int y b,.int z c]) (off:=0) rfl,zcm hi0 (cs:=#[.int x a',.int y b',.int z c']) (off:=0) rfl,
  zcm hi1 (cs:=#[.int x a,.int y b,.int z c]) (off:=1) rfl,zcm hi1 (cs:=#[.int x a',.int y b',.int z c']) (off:=1) rfl,
  zcm hi2 (cs:=#[.int x a,.int y b,.int z c]) (off:=2) rfl,zcm hi2 (cs:=#[.int x a',.int y b',.int z c']) (off:=2) rfl,zfx hi0,zfx hi1,zfx hi2,program,zyj]
 by_cases h1:a=a'<;>by_cases h2:b=b'<;>by_cases h3:c=c'<;>simp [h1,h2,h3]
end
section
variable {P:Program} {G:List (Nat × D)} {fn:Func} {rd:Bool} {E:En P G fn rd} {t:List (Nat × SV)} {H:List SObj} {k:List Item}
variable {all:Array Oper} {o:Oper} {rest:List Oper}
theorem ybp {w:World} {I:Imm} {β:List Bnd} {v:Value} {a b c:Int} (h:Rep w I β v (.agg [.imm (.val (.int .i64 a)),.imm (.val (.int .i64 b)),.imm (.val (.int .i64 c))])):v= .agg #[.int .i64 a,.int .i64 b,.int .i64 c]:=by
 cases h with
 |agg vs _ h1 h2=>
  have key:∀(j:Nat) (h:j<vs.size) (x:Value) (hj:[SV.imm (.val (.int .i64 a)),SV.imm (.val (.int .i64 b)),SV.imm (.val (.int .i64 c))][j]?=some (.imm (.val x))),vs[j]=x:=by
   intro j h x hj;have h3:=h2 j (by rw [<-h1];exact h) h;rw [List.getElem?_eq_getElem (by rw [<-h1];exact h)] at hj;rw [Option.some.inj hj] at h3;generalize vs[j]=v at h3;cases h3 with|imm h3=>cases h3;rfl
  have hs:vs.size=3:=by simpa using h1
  congr 1
  apply Array.ext (by simp [hs])
  intro i hi1 hi2;have:i=0\/i=1\/i=2:=by omega
  rcases this with rfl|rfl|rfl
  ·exact key 0 hi1 _ rfl
  ·exact key 1 hi1 _ rfl
  ·exact key 2 hi1 _ rfl
theorem zwj {ty ty':TypeId} {x y:Operand} {f0 f1 f2:Field} {k0 k1 k2:IntKind} {a b c a' b' c':Int} (hop:o.op= .binOp .neq ty x y ty')
  (hx:zq G t x= .agg [.imm (.val (.int .i64 a)),.imm (.val (.int .i64 b)),.imm (.val (.int .i64 c))]) (hy:zq G t y= .agg [.imm (.val (.int .i64 a')),.imm (.val (.int .i64 b')),.imm (.val (.int .i64 c'))])
  (hu:P.underlying ty=some (.struct #[f0,f1,f2])) (hs:P.stoodInHeld ty=false) (hn0:f0.name≠ "_") (hn1:f1.name≠ "_") (hn2:f2.name≠ "_") (ho0:f0.offset=0) (ho1:f1.offset=1) (ho2:f2.offset=2)
  (hi0:P.underlying f0.type=some (.int k0)) (hi1:P.underlying f1.type=some (.int k1)) (hi2:P.underlying f2.type=some (.int k2)) (hg:P.eqGuardType P.depth ty=false):
  yvi P G t o (.imm (.val (.bool (!(decide (a=a')&&(decide (b=b')&&decide (c=c'))))))):=by
 intro ρ w I β hev;have hrx:=hev x (by rw [hop];simp [Op.operands]);rw [hx] at hrx;have hry:=hev y (by rw [hop];simp [Op.operands]);rw [hy] at hry;have ex:=ybp hrx;have ey:=ybp hry;obtain ⟨dst,op,type,pos,after,guard⟩:=o;simp only at hop;subst hop;refine ⟨.bool (!(decide (a=a')&&(decide (b=b')&&decide (c=c')))),?_,.imm (.val _)⟩;simp only [execOp];rw [ex,ey];have hgd:(eqGuard .neq ty x y (.agg #[.int .i64 a,.int .i64 b,.int .i64 c]) (.agg #[.int .i64 a',.int .i64 b',.int .i64 c'])).run P w= .ok () w:=by
  simp [eqGuard,program,hg,zyj]
 simp only [Sem.run_bind,hgd,Result.andThen_ok,binOp,ztm hu hs hn0 hn1 hn2 ho0 ho1 ho2 hi0 hi1 hi2,Sem.run_pure]
end
section
variable {P:Program} {G:List (Nat × D)} {fn:Func} {rd:Bool} {E:En P G fn rd} {t:List (Nat × SV)} {H K:List SObj} {k:List Item} {m:Nat} {all:Array Oper} {rest:List Oper} {done:List Eff} {o:Oper}
theorem ybq {nx:Nat} {r:SV} {ob:SObj} {w w':World} {I I':Imm} {β β1:List Bnd} {v:Value} (hm:m<=nx) (hnx:K[nx]?=some .dead) (hH:HeapOK G w I β K) (hdum:β[nx]?=some jw) (h3:Rep w' I' β1 v r)
  (h4:HeapOK G w' I' β1 (K++[ob])) (h5:Ext K.length w I β K w' I' β1 (K++[ob])) (hr:r.isNew K.length=true) (hob:ob.under K.length=true):
  ∃β',Rep w' I' β' v (r.mv K.length nx)/\Gain G m w I β K (some (nx,ob)) w' I' β':=by
 have hnl:=lt_of_getElem? hnx;have hl1:β1.length=K.length+1:=by rw [h4.len];simp
 have hl0:β.length=K.length:=hH.len;have hkeep:Keeps K.length β β1:=h5.keep;have hdum1:β1[nx]?=some jw:=hkeep.dummy hnl hdum;obtain ⟨x,hx⟩:∃x,β1[K.length]?=some x:=⟨β1[K.length]'(by omega),List.getElem?_eq_getElem _⟩;have hlen2:((β1.take K.length).set nx x).length=K.length:=by simp;omega
 have get2:∀b,b≠nx->b<K.length->((β1.take K.length).set nx x)[b]?=β1[b]?:=fun b hne hlt=>by
  rw [List.getElem?_set_ne (Ne.symm hne),List.getElem?_take,if_pos hlt]
 have getnx:((β1.take K.length).set nx x)[nx]?=some x:=List.getElem?_set_self (by simp;omega);have kd1:KeepsD K.length β1 ((β1.take K.length).set nx x):=fun b y hb hy hne=>by
  have hbn:b≠nx:=by rintro rfl;rw [hdum1] at hy;cases hy;exact hne rfl
  exact ⟨y,by rw [get2 b hbn hb];exact hy,y.le_refl⟩
 have kd0:KeepsD β.length β ((β1.take K.length).set nx x):=fun b y hb hy hne=>by
  rw [hl0] at hb;obtain ⟨z,hz,hle⟩:=hkeep b y hb hy;have hbn:b≠nx:=by rintro rfl;rw [hdum] at hy;cases hy;exact hne rfl
  exact ⟨z,by rw [get2 b hbn hb];exact hz,hle⟩
 have hown:∀b c,jr (K.set nx ob) ((β1.take K.length).set nx x) b c->jr (K++[ob]) β1 (if b=nx then K.length else b) c:=by
  rintro b c ⟨o,y,g1,g2,g3,g4⟩
  by_cases e:b=nx
  ·subst e
   rw [if_pos rfl];rw [List.getElem?_set_self hnl] at g1;rw [getnx] at g3;cases g1;cases g3;exact ⟨ob,x,by simp,g2,hx,g4⟩
  ·rw [if_neg e]
   rw [List.getElem?_set_ne (Ne.symm e)] at g1;have hlt:=lt_of_getElem? g1;rw [get2 b e hlt] at g3;exact ⟨o,y,by rw [List.getElem?_append_left hlt];exact g1,g2,g3,g4⟩
 have hheap:HeapOK G w' I' ((β1.take K.length).set nx x) (K.set nx ob):=by
  refine ⟨by simp;omega,fun b o y g1 g2=>?_,fun b b' c g1 g2=>?_,h4.inI,h4.glob⟩
  ·by_cases e:b=nx
   ·subst e
    rw [List.getElem?_set_self hnl] at g1;rw [getnx] at g2;cases g1;cases g2;exact (h4.obj K.length ob x (by simp) hx).belowD hob kd1
   ·rw [List.getElem?_set_ne (Ne.symm e)] at g1
    have hlt:=lt_of_getElem? g1;rw [get2 b e hlt] at g2;have hb1:b<β.length:=by omega
    have hob1:=h4.obj b o y (by rw [List.getElem?_append_left hlt];exact g1) g2;have hob0:=hH.obj b o _ g1 (List.getElem?_eq_getElem hb1);rcases hob0.under with hu|⟨s,f,n',tt,ps,asg,bd,rfl⟩
    ·exact hob1.belowD (by rw [hl0] at hu;exact hu) kd1
    ·cases y with
     |tok u=>exact hob1
     |blk c=>
      cases hbb:β[b] with
      |tok u=>rw [hbb] at hob0;exact hob0.elim
      |blk c'=>
       rw [hbb] at hob0;obtain ⟨r0,b1,b2,b3,b4,b5,b6,b7,b8,b9⟩:=hob0;obtain ⟨r1,a1,a2,a3,a4,a5,a6,a7,a8,a9⟩:=hob1;refine ⟨r1,a1,a2,a3,a4,a5,a6,a7,fun m'=>?_,a9⟩;have hu:=(b8 m').under;rw [hl0] at hu;exact (a8 m').monoD (fun _ _ h=>h) (fun _ _ _=>rfl) kd1 hu
  ·have:=h4.inj _ _ c (hown b c g1) (hown b' c g2)
   have l1:b<K.length:=by obtain ⟨o,y,g,_⟩:=g1;have:=lt_of_getElem? g;simpa using this
   have l2:b'<K.length:=by obtain ⟨o,y,g,_⟩:=g2;have:=lt_of_getElem? g;simpa using this
   split at this<;>split at this<;>omega
 refine ⟨(β1.take K.length).set nx x,?_,hheap,?_,kd0,fun b hb hne=>?_⟩
 ·cases r with
  |ptr c o=>
   have:c=K.length:=by simpa [SV.isNew] using hr
   subst this;simp only [SV.mv,if_true];cases h3 with
   |ptr _ c' _ hc=>rw [hx] at hc;cases hc;exact .ptr nx c' o getnx
  |osl c o l=>
   have:c=K.length:=by simpa [SV.isNew] using hr
   subst this;simp only [SV.mv,if_true];cases h3 with
   |osl _ c' _ _ cap hc g1 g2=>rw [hx] at hc;cases hc;exact .osl nx c' o l cap getnx g1 g2
  |asl c kk rows=>
   have:c=K.length:=by simpa [SV.isNew] using hr
   subst this;simp only [SV.mv,if_true];cases h3 with
   |asl _ _ _ _ u n' hd hc g1 g2 g3=>rw [hx] at hc;cases hc;exact .asl nx kk rows v u n' hd getnx g1 g2 g3
  |map c=>
   have:c=K.length:=by simpa [SV.isNew] using hr
   subst this;simp only [SV.mv,if_true];cases h3 with
   |map _ c' hc=>rw [hx] at hc;cases hc;exact .map nx c' getnx
  |_=>simp [SV.isNew] at hr
 ·refine ⟨h5.imm,h5.cell,fun b y hb hy=>?_,h5.old,fun b c ho=>h5.own _ c (hown b c ho),h5.new,h5.size,h5.env⟩
  have hlt:=lt_of_getElem? hy;obtain ⟨z,hz,hle⟩:=hkeep b y (by omega) hy;exact ⟨z,by rw [get2 b (by omega) (by omega)];exact hz,hle⟩
 ·have hbn:b≠nx:=fun e=>hne ob (by rw [e])
  have hlt:=lt_of_getElem? hb;rw [get2 b hbn (by omega)];exact hkeep.dummy (by omega) hb
theorem zfo {b kk by_ e e':Nat} {z:Value} {sx xx:Operand} {sT xT:Nat} {rows new:List (List D)} (hop:o.op= .call ⟨.builtin .append,#[sx,xx],#[sT,xT]⟩)
  (hw:yq all t o.guard=some true) (hd:yv fn.ntmps o.dst=true) (hs:zq G t sx= .asl b kk rows) (hx:(zq G t xx).rows=some (kk,new)) (hu:P.underlying sT=some (.slice e)) (hu':P.underlying xT=some (.slice e'))
  (hk:qm P e=some kk) (hby:zcl P e=some by_) (hz:zbb P e=some z) (hcond:by_<=65536/\z.cells.size=kk) (hm:m<=K.length) (hb:K[b]?=some (.tok kk rows.length)) (hlen:rows.length+new.length<=1073741824)
  (h:SWe E m all rest k (wz t o.dst (.asl b kk (rows++new))) (K.set b (.tok kk (rows++new).length)) (done++[⟨.asl b kk (rows++new),[b],some (b,.tok kk (rows++new).length)⟩])):SWe E m all (o::rest) k t K done:=
 qp ⟨.asl b kk (rows++new),[b],some (b,.tok kk (rows++new).length)⟩ hw hd hm (fun K' _ ha=>by
  have hb':K'[b]?=some (.tok kk rows.length):=by rw [ha b (.inl (by simp))];exact hb
  rw [hop,List.length_append];simp only [sop,zfe,List.map_cons,List.map_nil,zoz,hu,hu',hx,hk,hby,hz];rw [if_pos ⟨hcond.1,hcond.2,.inl trivial⟩];simp only [zfs,hs,hb'];rw [if_pos ⟨trivial,trivial,trivial,hlen⟩]
  rfl) h
end
section
variable {P:Program} {G:List (Nat × D)} {fn:Func} {rd:Bool} {E:En P G fn rd} {t:List (Nat × SV)} {H K:List SObj} {k:List Item} {m:Nat} {all:Array Oper} {rest:List Oper} {done:List Eff} {o:Oper}
theorem wt {ty b off:Nat} {a:Operand} {cs:List SV} {v:SV} (hop:o.op= .load ty a) (hw:yq all t o.guard=some true) (hd:yv fn.ntmps o.dst=true) (ha:zq G t a= .ptr b off) (hb:H[b]?=some (.cells cs))
  (hv:znl P ty cs off=some v) (h:SWr E all rest k (wz t o.dst v) H):SWr E all (o::rest) k t H:=by
 refine zdn hw hd (r:=v) ?_ (Nat.le_refl _) h;rw [hop];have:jl P ty H (.ptr b off)=some v:=by
  unfold jl;simp only [hb,hv]
 simp only [sop,ha,this];rfl
end
section
variable {P:Program} {G:List (Nat × D)} {fn:Func} {rd:Bool} {E:En P G fn rd} {t:List (Nat × SV)} {H:List SObj} {k:List Item} {all:Array Oper} {rest:List Oper} {o:Oper}
theorem ypa {f:FuncId} {argv:List SV} (hw:yq all t o.guard=some true) (hd:yv fn.ntmps o.dst=true) (hnd:∀c,o.op≠ .defer c)
  (hrun:∀(ρ:Operand->Value) w I β,HeapOK G w I β H->(∀x,Rep w I β (ρ x) (zq G t x))->∃vs:Array Value,(execOp ρ o).run P w= .ok (.enter f vs) w/\Reps w I β vs.toList argv)
  (hc:SCall P G f argv H (fun r H'=>H.length<=H'.length/\SWr E all rest k (wz t o.dst r) H')):SWr E all (o::rest) k t H:=by
 refine ⟨fun j hj hdrop=>?_⟩;obtain ⟨h1,ho,h3⟩:=ji hdrop;rw [zdt h1];refine ⟨fun a w I β cs hs=>?_⟩;have hwant:=zbc hw hs;obtain ⟨vs,hr,hreps⟩:=hrun a.eval w I β hs.heap hs.eval;obtain ⟨e,w',fr,hpost,hcomes,hfn,hleave⟩:=hc w I β _ hs.heap hreps (E.at a (.inRegion all (j::(List.range all.size).drop (j+1))::k)::cs);obtain ⟨v,r,I',β',H',rfl,⟨hl,hsw⟩,hv,hH',hext⟩:=hpost;have hg:=zen (P:=P) (b:=E.base) (ro:=E.ro) (k:=k) (cs:=cs) (w:=w) (rest:=(List.range all.size).drop (j+1)) ho hwant (.inr hnd);have henter:step P (lone (E.at a (.inRegion all (j::(List.range all.size).drop (j+1))::k)) cs w)=
   .next (lone (Frame.enter P f vs .normal) (E.at a (.inRegion all (j::(List.range all.size).drop (j+1))::k)::cs) w):=
  step_lone_go (by unfold En.at;rw [hg];simp [stepG.apply,hr,atR,Frame.at])
 have hfin:(E.at a (.inRegion all (j::(List.range all.size).drop (j+1))::k)).finish v=E.at (a.put o.dst v) (.inRegion all ((List.range all.size).drop (j+1))::k):=by
  unfold En.at;rw [zbk,ho];rfl
 have hsteps:Steps P (lone (E.at a (.inRegion all (j::(List.range all.size).drop (j+1))::k)) cs w) (lone (E.at (a.put o.dst v) (.inRegion all ((List.range all.size).drop (j+1))::k)) cs w'):=by
  refine .head henter (Steps.trans hcomes (.one ?_));rw [<-hfin];exact step_leave_returned hleave
 exact .of_steps hsteps ((hsw.run (j+1) h1 h3).run _ w' I' β' cs (hs.put hd hv hH' hext hl))
def SV.ifaceOf:SV->Option (TypeId × SV)
 | .imm (.iface t d)=>some (t,.imm d)
 | .iface t s=>some (t,s)
 |_=>none
theorem Rep.ifaceOf {w : World} {I : Imm} {β : List Bnd} {v : Value} {s x : SV} {ty : TypeId} (h : Rep w I β v s) (hs : s.ifaceOf = some (ty, x)) : ∃ u, v = .iface ty u /\ Rep w I β u x := by
  cases h with
  | imm h => cases h <;> simp [SV.ifaceOf] at hs
             rename_i h; obtain ⟨rfl, rfl⟩ := hs; exact ⟨_, rfl, .imm h⟩
  | iface t v s h => simp [SV.ifaceOf] at hs; obtain ⟨rfl, rfl⟩ := hs; exact ⟨_, rfl, h⟩
  | _ => simp [SV.ifaceOf] at hs
def yib (P:Program) (ty:TypeId) (name:String):Option FuncId:=
 match P.info? ty with
 |some i=>match i.methods.find? (·.name==name) with
  |some m=>match m.path.toList,m.func,P.underlying ty with
   |[],some (f,false),some (.struct _)=>some f
   |_,_,_=>none
  |none=>none
 |none=>none
theorem ykz {ty:TypeId} {name:String} {f:FuncId} {v:Value} {w:World} {n:Nat} (h:yib P ty name=some f):(method (n+1) ty v name).run P w= .ok (f,v) w:=by
 unfold yib at h;split at h<;>first|(cases h;done)|skip
 rename_i i hi
 split at h<;>first|(cases h;done)|skip
 rename_i m hm
 split at h<;>first|(cases h;done)|skip
 rename_i f' fs hp hf hu
 cases h;have hti:(typeInfo ty).run P w= .ok i w:=by simp [typeInfo,program,Sem.run,hi]
 have hun:(underlying ty).run P w= .ok (.struct fs) w:=run_underlying hu w;simp only [method,Sem.run_bind,hti,Result.andThen_ok,hm,hp,follow,Sem.run_pure,hf,receiverAt,hun,Place.get]
theorem yla {rx:Operand} {name:String} {args:Array Operand} {tys:Array TypeId} {ty:TypeId} {x:SV} {f:FuncId} (hop:o.op= .call ⟨.invoke rx name,args,tys⟩)
  (hw:yq all t o.guard=some true) (hd:yv fn.ntmps o.dst=true) (hx:(zq G t rx).ifaceOf=some (ty,x)) (hm:yib P ty name=some f) (hb:ju P f=true)
  {argv:List SV} (hargs:x::args.toList.map (zq G t)=argv)
  (hc:SCall P G f argv H (fun r H'=>H.length<=H'.length/\SWr E all rest k (wz t o.dst r) H')):SWr E all (o::rest) k t H:=by
 refine ypa hw hd (fun c e=>by rw [hop] at e;cases e) (fun ρ w I β hH hev=>?_) hc;obtain ⟨u,hu,hr⟩:=(hev rx).ifaceOf hx;subst hargs;refine ⟨#[u]++args.map ρ,?_,?_⟩
 ·obtain ⟨dst,op,type,pos,after,guard⟩:=o
  simp only at hop;subst hop;have e0:(#[Value.iface ty u]++args.map ρ)[0]?=some (.iface ty u):=by rw [Array.getElem?_append_left (by simp)];rfl
  have e1:(#[Value.iface ty u]++args.map ρ).extract 1 (#[Value.iface ty u]++args.map ρ).size=args.map ρ:=by
   apply Array.ext'
   simp [List.take_of_length_le]
  simp only [execOp,resolve,Sem.run_bind,Sem.run_pure,Result.andThen_ok,invoke,hu,e0,e1,callMethod,program,zyj];rw [show P.types.size+Made.depth=(P.types.size+99)+1 from rfl,ykz hm];simp only [Result.andThen_ok];exact zbd hb
 ·have e2:Reps w I β (args.map ρ).toList (args.toList.map (zq G t)):=by simpa using zgm hev args.toList
  simpa using Reps.cons hr e2
def SV.asD:SV->Option D
 | .imm d=>some d
 | .agg cs=>(asDL cs).map .agg
 | .iface t s=>s.asD.map (.iface t)
 |_=>none
where asDL:List SV->Option (List D)
 |[]=>some []
 |s::r=>match s.asD,asDL r with
  |some d,some l=>some (d::l)
  |_,_=>none
theorem yic:∀{cs:List SV} {ds:List D},SV.asD.asDL cs=some ds->ds.length=cs.length/\∀j (h:j<cs.length) (h':j<ds.length),(cs[j]'h).asD=some (ds[j]'h')
 |[],ds,h=>by simp [SV.asD.asDL] at h;subst h;simp
 |s::r,ds,h=>by
  simp only [SV.asD.asDL] at h;split at h<;>first|(cases h;done)|skip
  rename_i d l hd hl
  cases h;obtain ⟨h1,h2⟩:=yic hl;refine ⟨by simp [h1],fun j hj hj'=>?_⟩;cases j with
  |zero=>exact hd
  |succ j=>exact h2 j (by simpa using hj) (by simpa using hj')
theorem Rep.asD {w:World} {I:Imm} {β:List Bnd} {v:Value} {s:SV} (h:Rep w I β v s):∀{d:D},s.asD=some d->DRep w I v d:=by
 induction h with
 |imm h=>intro d hd;simp [SV.asD] at hd;subst hd;exact h
 |iface t v s _ ih=>
  intro d hd;simp only [SV.asD,Option.map_eq_some_iff] at hd;obtain ⟨d',h1,rfl⟩:=hd;exact .iface t v d' (ih h1)
 |agg vs cs h1 _ ih=>
  intro d hd;simp only [SV.asD,Option.map_eq_some_iff] at hd;obtain ⟨ds,h2,rfl⟩:=hd;obtain ⟨h3,h4⟩:=yic h2;exact .agg vs ds (by omega) (fun j hj hj'=>ih j (by omega) hj' (h4 j (by omega) hj))
 |_=>intro d hd;simp [SV.asD] at hd
theorem zes {ty:TypeId} {x:Operand} {fs:Array Field} {d:D} (hop:o.op= .makeInterface ty x) (hw:yq all t o.guard=some true) (hd:yv fn.ntmps o.dst=true) (hu:P.underlying ty=some (.struct fs)) (hx:(zq G t x).asD=some d)
  (h:SWr E all rest k (wz t o.dst (.imm (.iface ty d))) H):SWr E all (o::rest) k t H:=by
 refine yex hw hd (fun c e=>by rw [hop] at e;cases e) (fun ρ w I β hev=>?_) h;have hr:=hev x (by rw [hop];simp [Op.operands]);obtain ⟨dst,op,type,pos,after,guard⟩:=o;simp only at hop;subst hop;refine ⟨.iface ty (ρ x),?_,.imm (.iface ty _ d (hr.asD hx))⟩;simp [execOp,Instr.makeInterface,run_underlying hu]
theorem ylb {nx:Nat} {r:SV} {ob:SObj} {w w':World} {I I':Imm} {β β1:List Bnd} {v:Value} (hnx:H[nx]?=some .free) (hH:HeapOK G w I β H) (h3:Rep w' I' β1 v r)
  (h4:HeapOK G w' I' β1 (H++[ob])) (h5:Ext H.length w I β H w' I' β1 (H++[ob])) (hr:r.isNew H.length=true) (hob:ob.under H.length=true):
  ∃β',Rep w' I' β' v (r.mv H.length nx)/\HeapOK G w' I' β' (H.set nx ob)/\Ext H.length w I β H w' I' β' (H.set nx ob):=by
 have hnl:=lt_of_getElem? hnx;have hl1:β1.length=H.length+1:=by rw [h4.len];simp
 have hl0:β.length=H.length:=hH.len;have isFree:∀{β0:List Bnd} {H0:List SObj} {w0 I0},HeapOK G w0 I0 β0 H0->H0[nx]?=some .free->nx<β0.length->β0[nx]?=some freeB:=by
  intro β0 H0 w0 I0 h0 hf hlt;have:=h0.obj nx .free _ hf (List.getElem?_eq_getElem hlt);rw [List.getElem?_eq_getElem hlt];cases hx:β0[nx] with
  |blk c=>rw [hx] at this;exact this.elim
  |tok u=>rw [hx] at this;cases (this:u= .bool true);rfl
 have hf1:β1[nx]?=some freeB:=isFree h4 (zsd hnx) (by omega);have hf0:β[nx]?=some freeB:=isFree hH hnx (by omega);obtain ⟨x,hx⟩:∃x,β1[H.length]?=some x:=⟨β1[H.length]'(by omega),List.getElem?_eq_getElem _⟩;have get2:∀b,b≠nx->b<H.length->((β1.take H.length).set nx x)[b]?=β1[b]?:=fun b hne hlt=>by
  rw [List.getElem?_set_ne (Ne.symm hne),List.getElem?_take,if_pos hlt]
 have getnx:((β1.take H.length).set nx x)[nx]?=some x:=List.getElem?_set_self (by simp;omega);have lef:∀y,freeB.le y:=fun y=>.inl rfl
 have kd1:Keeps H.length β1 ((β1.take H.length).set nx x):=fun b y hb hy=>by
  by_cases e:b=nx
  ·subst e
   rw [hf1] at hy;cases hy;exact ⟨x,getnx,lef x⟩
  ·exact ⟨y,by rw [get2 b e hb];exact hy,y.le_refl⟩
 have kd0:Keeps H.length β ((β1.take H.length).set nx x):=h5.keep.trans kd1;have hown:∀b c,jr (H.set nx ob) ((β1.take H.length).set nx x) b c->jr (H++[ob]) β1 (if b=nx then H.length else b) c:=by
  rintro b c ⟨o,y,g1,g2,g3,g4⟩
  by_cases e:b=nx
  ·subst e
   rw [if_pos rfl];rw [List.getElem?_set_self hnl] at g1;rw [getnx] at g3;cases g1;cases g3;exact ⟨ob,x,by simp,g2,hx,g4⟩
  ·rw [if_neg e]
   rw [List.getElem?_set_ne (Ne.symm e)] at g1;have hlt:=lt_of_getElem? g1;rw [get2 b e hlt] at g3;exact ⟨o,y,by rw [List.getElem?_append_left hlt];exact g1,g2,g3,g4⟩
 have hheap:HeapOK G w' I' ((β1.take H.length).set nx x) (H.set nx ob):=by
  refine ⟨by simp;omega,fun b o y g1 g2=>?_,fun b b' c g1 g2=>?_,h4.inI,h4.glob⟩
  ·by_cases e:b=nx
   ·subst e
    rw [List.getElem?_set_self hnl] at g1;rw [getnx] at g2;cases g1;cases g2;exact (h4.obj H.length ob x (by simp) hx).below hob kd1
   ·rw [List.getElem?_set_ne (Ne.symm e)] at g1
    have hlt:=lt_of_getElem? g1;rw [get2 b e hlt] at g2;have hb1:b<β.length:=by omega
    have hob1:=h4.obj b o y (by rw [List.getElem?_append_left hlt];exact g1) g2;have hob0:=hH.obj b o _ g1 (List.getElem?_eq_getElem hb1);rcases hob0.under with hu|⟨s,f,n',tt,ps,asg,bd,rfl⟩
    ·exact hob1.below (by rw [hl0] at hu;exact hu) kd1
    ·cases y with
     |tok u=>exact hob1
     |blk c=>
      cases hbb:β[b] with
      |tok u=>rw [hbb] at hob0;exact hob0.elim
      |blk c'=>
       rw [hbb] at hob0;obtain ⟨r0,b1,b2,b3,b4,b5,b6,b7,b8,b9⟩:=hob0;obtain ⟨r1,a1,a2,a3,a4,a5,a6,a7,a8,a9⟩:=hob1;refine ⟨r1,a1,a2,a3,a4,a5,a6,a7,fun m'=>?_,a9⟩;have hu:=(b8 m').under;rw [hl0] at hu;exact (a8 m').mono_below (fun _ _ h=>h) (fun _ _ _=>rfl) kd1 hu
  ·have:=h4.inj _ _ c (hown b c g1) (hown b' c g2)
   have l1:b<H.length:=by obtain ⟨o,y,g,_⟩:=g1;have:=lt_of_getElem? g;simpa using this
   have l2:b'<H.length:=by obtain ⟨o,y,g,_⟩:=g2;have:=lt_of_getElem? g;simpa using this
   split at this<;>split at this<;>omega
 refine ⟨(β1.take H.length).set nx x,?_,hheap,?_⟩
 ·cases r with
  |ptr c o=>
   have:c=H.length:=by simpa [SV.isNew] using hr
   subst this;simp only [SV.mv,if_true];cases h3 with
   |ptr _ c' _ hc=>rw [hx] at hc;cases hc;exact .ptr nx c' o getnx
  |osl c o l=>
   have:c=H.length:=by simpa [SV.isNew] using hr
   subst this;simp only [SV.mv,if_true];cases h3 with
   |osl _ c' _ _ cap hc g1 g2=>rw [hx] at hc;cases hc;exact .osl nx c' o l cap getnx g1 g2
  |asl c kk rows=>
   have:c=H.length:=by simpa [SV.isNew] using hr
   subst this;simp only [SV.mv,if_true];cases h3 with
   |asl _ _ _ _ u n' hd hc g1 g2 g3=>rw [hx] at hc;cases hc;exact .asl nx kk rows v u n' hd getnx g1 g2 g3
  |map c=>
   have:c=H.length:=by simpa [SV.isNew] using hr
   subst this;simp only [SV.mv,if_true];cases h3 with
   |map _ c' hc=>rw [hx] at hc;cases hc;exact .map nx c' getnx
  |_=>simp [SV.isNew] at hr
 ·exact ⟨h5.imm,h5.cell,kd0,h5.old,fun b c ho=>h5.own _ c (hown b c ho),h5.new,h5.size,h5.env⟩
theorem ysy (nx:Nat) {r:SV} {ob:SObj} (hw:yq all t o.guard=some true) (hd:yv fn.ntmps o.dst=true) (hnd:∀c,o.op≠ .defer c) (hnx:H[nx]?=some .free)
  (hop:sop P o.op (zq G t) H=some (r,H++[ob])) (hr:r.isNew H.length=true) (hob:ob.under H.length=true)
  (h:SWr E all rest k (wz t o.dst (r.mv H.length nx)) (H.set nx ob)):SWr E all (o::rest) k t H:=by
 refine zce hw hd hnd (by simp) (fun ρ w I β hH hev=>?_) h;obtain ⟨n,v,w',I',β1,h1,h2,h3,h4,h5⟩:=zsn (o:=o) (ρ:=ρ) hop hH hev;obtain ⟨β',g1,g2,g3⟩:=ylb hnx hH h3 h4 h5 hr hob;exact ⟨n,v,w',I',β',h1,h2,g1,g2,g3⟩
theorem yey (h:SW E k t (H++[.free])):SW E k t H:=by
 refine ⟨fun a w I β cs hs=>?_⟩;have hp:=hs.heap.push (o:=.free) (x:=freeB) rfl (fun b c hc=>by cases hc);have he:∀m,Ext m w I β H w I (β++[freeB]) (H++[.free]):=fun m=>Ext.push hs.heap (fun c hc=>by cases hc)
 exact h.run a w I _ cs ⟨hp,fun n=>(hs.tmps n).ext (he _),hs.size,hs.defers.ext (he 0),hs.ext.trans (he _),by simp;have:=hs.hlen;omega⟩
theorem ylc (n:Nat) (h:SW E k t (H++List.replicate n .free)):SW E k t H:=by
 induction n generalizing H with
 |zero=>simpa using h
 |succ n ih=>
  refine yey (ih ?_);rw [List.append_assoc,List.singleton_append, <-List.replicate_succ];exact h
theorem ybr {σ:Type} {b:Nat} {ob:SObj} (hb:H[b]?=some ob) (hd:ob≠ .dead) (f:σ->SObj) (hfd:∀s,f s≠ .dead) (Q:σ->Prop) (hf:∀w I β x,ObjOK w I β ob x->∃s,Q s/\ObjOK w I β (f s) x)
  (h:∀s,Q s->SW E k t (H.set b (f s))):SW E k t H:=by
 refine ⟨fun a w I β cs hs=>?_⟩;have hblt:=lt_of_getElem? hb;have hblt':b<β.length:=by rw [hs.heap.len];exact hblt
 obtain ⟨s,hq,hok⟩:=hf w I β _ (hs.heap.obj b ob _ hb (List.getElem?_eq_getElem hblt'));have key:∀b' c',jr (H.set b (f s)) β b' c'->jr H β b' c':=by
  rintro b' c' ⟨p,x,h1,h2,h3,h4⟩
  by_cases e:b'=b
  ·subst e;exact ⟨ob,x,hb,hd,h3,h4⟩
  ·rw [List.getElem?_set_ne (Ne.symm e)] at h1;exact ⟨p,x,h1,h2,h3,h4⟩
 have hheap:HeapOK G w I β (H.set b (f s)):=by
  refine ⟨by simp [hs.heap.len],fun b' p x h1 h2=>?_,fun b1 b2 c h1 h2=>hs.heap.inj b1 b2 c (key b1 c h1) (key b2 c h2),hs.heap.inI,hs.heap.glob⟩
  by_cases e:b'=b
  ·subst e
   rw [List.getElem?_set_self hblt] at h1;cases h1;rw [List.getElem?_eq_getElem hblt'] at h2;cases h2;exact hok
  ·rw [List.getElem?_set_ne (Ne.symm e)] at h1
   exact hs.heap.obj b' p x h1 h2
 have he:∀m,Ext m w I β H w I β (H.set b (f s)):=fun m=>
  {imm:=fun _ _ h=>h,cell:=fun _ _ _=>rfl,keep:=.refl _ _,old:=fun _ _ _=>rfl,own:=fun b' c' h=>.inl ⟨b',key b' c' h⟩,new:=fun _ _ h=>.inl h,size:=Nat.le_refl _,env:=⟨rfl,rfl⟩}
 exact (h s hq).run a w I β cs ⟨hheap,hs.tmps,hs.size,hs.defers.ext (he 0),hs.ext.trans (he _),by simpa using hs.hlen⟩
def yez (es:List (Nat × Int × SV)) (clock:Nat):Prop:=(es.map (·.1)).Nodup/\∀e∈es,e.1<clock
theorem yid {b:Nat} {kk:IntKind} {es:List (Int × SV)} (hb:H[b]?=some (.mapI kk es))
  (h:∀es' clock,es'.map (·.2)=es->yez es' clock->SW E k t (H.set b (.pin kk es' clock))):SW E k t H:=by
 refine ybr (σ:=List (Nat × Int × SV) × Nat) hb (by simp) (fun s=>.pin kk s.1 s.2) (by simp) (fun s=>s.1.map (·.2)=es/\yez s.1 s.2) (fun w I β x hx=>?_) (fun s hs=>h s.1 s.2 hs.1 hs.2);cases x with
 |tok u=>exact hx.elim
 |blk c=>
  obtain ⟨ents,clock,h1,h2,h3,h4,h5⟩:=hx;have hlz:(List.zipWith (fun (e:MapEntry) (x:Int × SV)=>(e.born,x.1,x.2)) ents.toList es).length=es.length:=by simp;omega
  refine ⟨(List.zipWith (fun e x=>(e.born,x.1,x.2)) ents.toList es,clock),⟨?_,?_,?_⟩,ents,h1,by rw [hlz];exact h2,fun j hj hj'=>?_,h4,h5⟩
  ·refine List.ext_getElem (by simp;omega) fun j a b=>by simp
  ·have e:(List.zipWith (fun (e:MapEntry) (x:Int × SV)=>(e.born,x.1,x.2)) ents.toList es).map (·.1)=ents.toList.map (·.born):=by
    refine List.ext_getElem (by simp;omega) fun j a b=>by simp
   rw [e];exact h5.1
  ·intro e he
   obtain ⟨j,hj,rfl⟩:=List.mem_iff_getElem.1 he;simp only [List.getElem_zipWith];exact h5.2 _ (List.getElem_mem _)
  ·have:=h3 j (by omega) hj'
   simp only [List.getElem_zipWith,Array.getElem_toList];exact ⟨trivial,this.1,this.2⟩
theorem zys {b:Nat} {kk:IntKind} {es:List (Nat × Int × SV)} {clock:Nat} (hb:H[b]?=some (.pin kk es clock)) (h:SW E k t (H.set b (.mapI kk (es.map (·.2))))):SW E k t H:=by
 refine ybr (σ:=Unit) hb (by simp) (fun _=>.mapI kk (es.map (·.2))) (by simp) (fun _=>True) (fun w I β x hx=>⟨(),trivial,?_⟩) (fun _ _=>h);cases x with
 |tok u=>exact hx.elim
 |blk c=>
  obtain ⟨ents,h1,h2,h3,h4⟩:=hx;refine ⟨ents,clock,h1,by simpa using h2,fun j hj hj'=>?_,h4⟩;have:=h3 j (by simpa using hj) hj';simp only [List.getElem_map];exact this.2
theorem ypb {K:SV->List SObj->Prop} (hw:yq all t o.guard=some true) (hd:yv fn.ntmps o.dst=true) (hnd:∀c,o.op≠ .defer c)
  (hrun:∀(ρ:Operand->Value) w I β,HeapOK G w I β H->(∀x,Rep w I β (ρ x) (zq G t x))->∃r H',K r H'/\OpRun P G (execOp ρ o) w I β H r H')
  (h:∀r H',K r H'->H.length<=H'.length/\SWr E all rest k (wz t o.dst r) H'):SWr E all (o::rest) k t H:=by
 refine ⟨fun j hj hdrop=>?_⟩;have hdrop':=hdrop;obtain ⟨h1,ho,h3⟩:=ji hdrop;refine ⟨fun a w I β cs hsim=>?_⟩;obtain ⟨r,H',hK,hop⟩:=hrun a.eval w I β hsim.heap hsim.eval;have hwant:=zbc hw hsim;obtain ⟨n,v,w',I',β',g1,g2,g3,g4,g5⟩:=hop;rw [zdt h1];have hg:=zen (P:=P) (b:=E.base) (ro:=E.ro) (k:=k) (cs:=cs) (w:=w) (rest:=(List.range all.size).drop (j+1)) ho hwant (.inr hnd);have hfin:∀v,(E.at a (.inRegion all (j::(List.range all.size).drop (j+1))::k)).finish v=E.at (a.put o.dst v) (.inRegion all ((List.range all.size).drop (j+1))::k):=by
  intro v;unfold En.at;rw [zbk,ho];rfl
 have hstep:step P (lone (E.at a (.inRegion all (j::(List.range all.size).drop (j+1))::k)) cs w)= .next (lone (E.at (a.put o.dst v) (.inRegion all ((List.range all.size).drop (j+1))::k)) cs w'):=by
  refine step_lone_go ?_;rw [<-hfin];unfold En.at;rw [hg];rcases g2 with rfl|⟨rfl,rfl⟩<;>simp [stepG.apply,g1]
 obtain ⟨hl,hsw⟩:=h r H' hK;exact .of_steps (.one hstep) ((hsw.run (j+1) h1 h3).run _ w' I' β' cs (hsim.put hd g3 g4 g5 hl))
theorem znx {ty kt et:TypeId} {x:Operand} {b:Nat} {kk:IntKind} {es:List (Nat × Int × SV)} {clock:Nat} (hop:o.op= .range ty x) (hw:yq all t o.guard=some true) (hd:yv fn.ntmps o.dst=true)
  (hu:P.underlying ty=some (.map kt et)) (hx:zq G t x= .map b) (hb:H[b]?=some (.pin kk es clock))
  (h:SWr E all rest k (wz t o.dst (.ptr H.length 0)) (H++[.iter b clock [] clock])):SWr E all (o::rest) k t H:=by
 refine zce hw hd (fun c e=>by rw [hop] at e;cases e) (by simp) (fun ρ w I β hH hev=>?_) h;have hr:=hev x;rw [hx] at hr;obtain ⟨dst,op,type,pos,after,guard⟩:=o;simp only at hop;subst hop;generalize hv:ρ x=v at hr;cases hr with
 |map _ c hc=>
 obtain ⟨ents,h1,h2,h3,h4,h5⟩:=hH.obj _ _ _ hb hc;have hal:=hH.alloc (m:=H.length) (o:=.iter b clock [] clock) (ob:=.mapIter (some c) clock #[] clock) ⟨c,zsd hc,wj _,fun o hi=>by have:=hH.inI _ o hi;omega⟩;refine ⟨.value (.pointer (some ⟨w.heap.size,0,none⟩)),_,w.alloc (.mapIter (some c) clock #[] clock),I,_,?_,.inl rfl,.ptr _ w.heap.size 0 (by rw [<-hH.len];simp),hal.1,hal.2⟩;simp [execOp,Instr.range,run_underlying hu,hv,jt h1]
end
section
variable {P:Program} {G:List (Nat × D)} {fn:Func} {rd:Bool} {E:En P G fn rd} {t:List (Nat × SV)} {H:List SObj} {k:List Item} {all:Array Oper} {rest:List Oper} {o:Oper}
def zdc (es:List (Nat × Int × SV)) (seen:List Nat):List (Nat × Int × SV):=es.filter fun e=> !seen.contains e.1
theorem zny (es:List (Nat × Int × SV)):zdc es []=es:=by simp [zdc]
theorem zla {es:List (Nat × Int × SV)} {seen:List Nat} {e:Nat × Int × SV} (hn:(es.map (·.1)).Nodup) (he:e∈zdc es seen):(zdc es seen).Perm (e::zdc es (seen++[e.1])):=by
 induction es with
 |nil=>simp [zdc] at he
 |cons x l ih=>
  simp only [List.map_cons,List.nodup_cons] at hn;have hx:∀y∈l,y.1≠x.1:=fun y hy e1=>hn.1 (by rw [<-e1];exact List.mem_map_of_mem hy)
  have hstep:∀s,zdc (x::l) s=if s.contains x.1 then zdc l s else x::zdc l s:=fun s=>by
   simp only [zdc,List.filter_cons];cases s.contains x.1<;>simp
  rw [hstep,hstep];rw [hstep] at he
  by_cases hs:seen.contains x.1=true
  ·rw [if_pos hs] at he ⊢
   rw [if_pos (by simp at hs ⊢;exact .inl hs)];exact ih hn.2 he
  ·rw [if_neg hs] at he ⊢
   rcases List.mem_cons.1 he with rfl|he
   ·rw [if_pos (by simp)]
    refine List.Perm.cons _ ?_;have:zdc l seen=zdc l (seen++[e.1]):=by
     unfold zdc;refine List.filter_congr fun y hy=>?_
     have:=hx y hy;simp [this]
    rw [<-this]
   ·have hne:e.1≠x.1:=hx e (List.mem_filter.1 he).1
    rw [if_neg (by simp at hs ⊢;exact ⟨hs,fun h=>hne h.symm⟩)];exact (List.Perm.cons x (ih hn.2 he)).trans (List.Perm.swap _ _ _)
theorem zhn {es:List (Nat × Int × SV)} {seen:List Nat} {e:Nat × Int × SV} (he:e∈zdc es seen):e∈es:=(List.mem_filter.1 he).1
section
variable {w:World} {I:Imm} {β:List Bnd}
open Go.ChangeMaps (setBlock)
theorem ybs (hH:HeapOK G w I β H) {bi b c cm since last:Nat} {seen:List Nat} (hbi:H[bi]?=some (.iter b since seen last)) (hc:β[bi]?=some (.blk c)) (hcm:β[b]?=some (.blk cm)) {w1:World} (hw1:w1=w\/w1=w.drew) (seen':List Nat) (last':Nat):
  HeapOK G (setBlock w1 c (.mapIter (some cm) since seen'.toArray last')) I β (H.set bi (.iter b since seen' last'))/\Ext H.length w I β H (setBlock w1 c (.mapIter (some cm) since seen'.toArray last')) I β (H.set bi (.iter b since seen' last')):=by
 obtain ⟨cm',g1,g2,g3⟩:=hH.obj _ _ _ hbi hc;have hheap:w1.heap=w.heap:=by rcases hw1 with rfl|rfl<;>rfl
 have hlt:=js g2;refine hH.change hbi (by simp) hc (fun c' hne=>?_) (by simp [setBlock,hheap]) g3 ⟨cm,hcm,?_,g3⟩ ⟨?_,?_⟩
 ·simp [setBlock,hheap,Ne.symm hne]
 ·simp [setBlock,hheap,hlt]
 ·rcases hw1 with rfl|rfl<;>rfl
 ·rcases hw1 with rfl|rfl<;>rfl
end
open Go.ChangeMaps (setBlock)
theorem ypc {w:World} {I:Imm} {β:List Bnd} {kk:IntKind} {es:List (Nat × Int × SV)} {ents:Array MapEntry} (h2:ents.size=es.length)
  (h3:∀j (h:j<es.length) (h':j<ents.size),(ents[j]'h').born=(es[j]'h).1/\(ents[j]'h').key= .int kk (es[j]'h).2.1/\Rep w I β (ents[j]'h').val (es[j]'h).2.2) (seen:List Nat):
  ((leftOf ents seen.toArray).size=0 ↔ zdc es seen=[])/\∀e∈(leftOf ents seen.toArray).toList,e∈ents.toList/\∃x∈zdc es seen,e.born=x.1/\e.key= .int kk x.2.1/\Rep w I β e.val x.2.2:=by
 have hmem:∀e∈(leftOf ents seen.toArray).toList,e∈ents.toList/\∃x∈zdc es seen,e.born=x.1/\e.key= .int kk x.2.1/\Rep w I β e.val x.2.2:=by
  intro e he;simp only [leftOf,Array.toList_filter,List.mem_filter] at he;obtain ⟨he,hs⟩:=he;refine ⟨he,?_⟩;obtain ⟨j,hj,rfl⟩:=List.mem_iff_getElem.1 he;have hj':j<ents.size:=by simpa using hj
  obtain ⟨a1,a2,a3⟩:=h3 j (by omega) hj';refine ⟨es[j]'(by omega),List.mem_filter.2 ⟨List.getElem_mem _,?_⟩,by simpa using a1,by simpa using a2,by simpa using a3⟩;rw [<-a1];simpa using hs
 refine ⟨⟨fun h0=>?_,fun h0=>?_⟩,hmem⟩
 ·refine List.filter_eq_nil_iff.2 fun x hx=>?_
  obtain ⟨j,hj,rfl⟩:=List.mem_iff_getElem.1 hx;obtain ⟨a1,a2,a3⟩:=h3 j hj (by omega);have hnil:(leftOf ents seen.toArray).toList=[]:=by
   apply List.eq_nil_of_length_eq_zero;simpa using h0
  simp only [leftOf,Array.toList_filter] at hnil;have:=List.filter_eq_nil_iff.1 hnil (ents[j]'(by omega)) (by simp);rw [a1] at this;simpa using this
 ·rcases Nat.eq_zero_or_pos (leftOf ents seen.toArray).size with h|h
  ·exact h
  ·have hm:(leftOf ents seen.toArray)[0]∈(leftOf ents seen.toArray).toList:=by simp
   obtain ⟨_,x,hx,_⟩:=hmem _ hm;rw [h0] at hx;cases hx
theorem zrs {it:Operand} {bi b since last clock:Nat} {seen:List Nat} {kk:IntKind} {es:List (Nat × Int × SV)} (hop:o.op= .next it false) (hw:yq all t o.guard=some true) (hd:yv fn.ntmps o.dst=true)
  (hx:zq G t it= .ptr bi 0) (hbi:H[bi]?=some (.iter b since seen last)) (hb:H[b]?=some (.pin kk es clock)) (hs:yez es since) (hsl:since<=last)
  (h0:zdc es seen=[]->SWr E all rest k (wz t o.dst (.tup [.imm (.val (.bool false))])) H)
  (h1:∀e∈zdc es seen,SWr E all rest k (wz t o.dst (.tup [.imm (.val (.bool true)),.imm (.val (.int kk e.2.1)),e.2.2])) (H.set bi (.iter b since (seen++[e.1]) clock))):
  SWr E all (o::rest) k t H:=by
 refine ypb (K:=fun r H'=>(zdc es seen=[]/\r= .tup [.imm (.val (.bool false))]/\H'=H)\/∃e∈zdc es seen,r= .tup [.imm (.val (.bool true)),.imm (.val (.int kk e.2.1)),e.2.2]/\H'=H.set bi (.iter b since (seen++[e.1]) clock))
  hw hd (fun c e=>by rw [hop] at e;cases e) (fun ρ w I β hH hev=>?_) ?_
 ·have hr:=hev it
  rw [hx] at hr;obtain ⟨dst,op,type,pos,after,guard⟩:=o;simp only at hop;subst hop;generalize hv:ρ it=v at hr;cases hr with
  |ptr _ c _ hc=>
  obtain ⟨cm,g1,g2,g3⟩:=hH.obj _ _ _ hbi hc;obtain ⟨ents,a1,a2,a3,a4,a5⟩:=hH.obj _ _ _ hb g1;obtain ⟨l1,l2⟩:=ypc a2 a3 seen;have hold:∀x∈ents.toList,x.born<since:=by
   intro x hx;obtain ⟨j,hj,rfl⟩:=List.mem_iff_getElem.1 hx;have hj':j<ents.size:=by simpa using hj
   have:=(a3 j (by omega) hj').1;simp only [Array.getElem_toList,this];exact hs.2 _ (List.getElem_mem _)
  rcases run_next_at (P:=P) w type c cm since last seen.toArray ents clock g2 a1 hold hsl with ⟨b1,b2⟩|⟨e,b1,w1,b2,b3⟩
  ·refine ⟨_,H,.inl ⟨l1.1 b1,rfl,rfl⟩,.value _,.tuple #[.bool false],w,I,β,?_,.inl rfl,.tup #[.bool false] [.imm (.val (.bool false))] rfl (fun j hj hj'=>?_),hH,.refl⟩
   ·simp only [execOp,hv,Sem.run_bind,b2,Result.andThen_ok,Sem.run_pure]
   ·have:j=0:=by simp at hj;omega
    subst this;exact .imm (.val _)
  ·obtain ⟨c1,x,c2,c3,c4,c5⟩:=l2 e b1
   have hres:=ybs hH hbi hc g1 b2 (seen++[x.1]) clock;refine ⟨_,_,.inr ⟨x,c2,rfl,rfl⟩,.value _,.tuple #[.bool true,e.key,e.val],setBlock w1 c (.mapIter (some cm) since (seen++[x.1]).toArray clock),I,β,?_,.inl rfl,?_,hres.1,hres.2⟩
   ·simp only [execOp,hv,Sem.run_bind,b3,Result.andThen_ok,Sem.run_pure,c3]
    simp
   ·refine .tup _ _ rfl (fun j hj hj'=>?_)
    match j,hj with
    |0,_=>exact .imm (.val _)
    |1,_=>simp only [c4];exact .imm (.val _)
    |2,_=>exact c5.ext (by rw [hH.len];exact hres.2)
 ·rintro r H' (⟨e1,rfl,rfl⟩|⟨e,he,rfl,rfl⟩)
  ·exact ⟨Nat.le_refl _,h0 e1⟩
  ·exact ⟨by simp,h1 e he⟩
end
section
variable {P:Program} {G:List (Nat × D)} {fn:Func} {rd:Bool} {E:En P G fn rd} {t:List (Nat × SV)} {H:List SObj} {k:List Item} {all:Array Oper} {rest:List Oper} {o:Oper}
theorem znz {it:Operand} {bi b since clock:Nat} {seen:List Nat} {kk:IntKind} {es:List (Nat × Int × SV)} {e:Nat × Int × SV} (hop:o.op= .entry it) (hw:yq all t o.guard=some true) (hd:yv fn.ntmps o.dst=true)
  (hx:zq G t it= .ptr bi 0) (hbi:H[bi]?=some (.iter b since (seen++[e.1]) clock)) (hb:H[b]?=some (.pin kk es clock)) (he:e∈es)
  (h:SWr E all rest k (wz t o.dst (.tup [.imm (.val (.int kk e.2.1)),e.2.2])) H):SWr E all (o::rest) k t H:=by
 refine zce hw hd (fun c e=>by rw [hop] at e;cases e) (Nat.le_refl _) (fun ρ w I β hH hev=>?_) h;have hr:=hev it;rw [hx] at hr;obtain ⟨dst,op,type,pos,after,guard⟩:=o;simp only at hop;subst hop;generalize hv:ρ it=v at hr;cases hr with
 |ptr _ c _ hc=>
 obtain ⟨cm,g1,g2,g3⟩:=hH.obj _ _ _ hbi hc;obtain ⟨ents,a1,a2,a3,a4,a5⟩:=hH.obj _ _ _ hb g1;obtain ⟨j,hj,rfl⟩:=List.mem_iff_getElem.1 he;obtain ⟨c1,c2,c3⟩:=a3 j hj (by omega);have hrun:=run_entry_at (P:=P) w c cm since seen.toArray ents clock (ents[j]'(by omega)) (by rw [g2,c1];simp) a1 (by simp) a5.1;refine ⟨.value _,.tuple #[(ents[j]'(by omega)).key,(ents[j]'(by omega)).val],w,I,β,?_,.inl rfl,.tup _ _ rfl (fun i hi hi'=>?_),hH,.refl⟩
 ·simp only [execOp,hv,Sem.run_bind,hrun,Result.andThen_ok,Sem.run_pure]
 ·match i,hi with
  |0,_=>simp only [c2];exact .imm (.val _)
  |1,_=>exact c3
theorem yle {ty ty' kt et:TypeId} {x y:Operand} {b:Nat} (hop:o.op= .binOp .eql ty x y ty') (hw:yq all t o.guard=some true) (hd:yv fn.ntmps o.dst=true)
  (hx:zq G t x= .map b) (hy:zq G t y= .imm (.val (.map none))) (hu:P.underlying ty=some (.map kt et))
  (h:SWr E all rest k (wz t o.dst (.imm (.val (.bool false)))) H):SWr E all (o::rest) k t H:=by
 refine yex hw hd (fun c e=>by rw [hop] at e;cases e) (fun ρ w I β hev=>?_) h;have hrx:=hev x (by rw [hop];simp [Op.operands]);rw [hx] at hrx;have hry:=hev y (by rw [hop];simp [Op.operands]);rw [hy] at hry;obtain ⟨dst,op,type,pos,after,guard⟩:=o;simp only at hop;subst hop;have ey:ρ y= .map none:=by
  generalize ρ y=v at hry;cases hry with|imm hr=>cases hr;rfl
 generalize hv:ρ x=v at hrx;cases hrx with
 |map _ c hc=>
 have hgd:(eqGuard .eql ty x y (.map (some c)) (.map none)).run P w= .ok () w:=by simp [eqGuard]
 have heq:(Op.equal ty (.map (some c)) (.map none)).run P w= .ok false w:=by
  show (Op.equalIn (9999+1) ty _ _).run P w=_;generalize 9999=n;rw [Op.equalIn];simp only [Sem.run_bind,run_underlying hu,Result.andThen_ok];simp
 refine ⟨.bool false,?_,.imm (.val _)⟩;simp only [execOp];rw [hv,ey];simp only [Sem.run_bind,hgd,Result.andThen_ok,binOp,heq,Sem.run_pure]
theorem yfa {ty ty' kt et:TypeId} {x y:Operand} (hop:o.op= .binOp .eql ty x y ty') (hw:yq all t o.guard=some true) (hd:yv fn.ntmps o.dst=true)
  (hx:zq G t x= .imm (.val (.map none))) (hy:zq G t y= .imm (.val (.map none))) (hu:P.underlying ty=some (.map kt et))
  (h:SWr E all rest k (wz t o.dst (.imm (.val (.bool true)))) H):SWr E all (o::rest) k t H:=by
 refine yex hw hd (fun c e=>by rw [hop] at e;cases e) (fun ρ w I β hev=>?_) h;have hrx:=hev x (by rw [hop];simp [Op.operands]);rw [hx] at hrx;have hry:=hev y (by rw [hop];simp [Op.operands]);rw [hy] at hry;obtain ⟨dst,op,type,pos,after,guard⟩:=o;simp only at hop;subst hop;have ey:ρ y= .map none:=by
  generalize ρ y=v at hry;cases hry with|imm hr=>cases hr;rfl
 have ex:ρ x= .map none:=by
  generalize ρ x=v at hrx;cases hrx with|imm hr=>cases hr;rfl
 have hgd:(eqGuard .eql ty x y (.map none) (.map none)).run P w= .ok () w:=by simp [eqGuard]
 have heq:(Op.equal ty (.map none) (.map none)).run P w= .ok true w:=by
  show (Op.equalIn (9999+1) ty _ _).run P w=_;generalize 9999=n;rw [Op.equalIn];simp only [Sem.run_bind,run_underlying hu,Result.andThen_ok];simp
 refine ⟨.bool true,?_,.imm (.val _)⟩;simp only [execOp];rw [ex,ey];simp only [Sem.run_bind,hgd,Result.andThen_ok,binOp,heq,Sem.run_pure]
theorem ypd {s d e:TypeId} {x:Operand} {b n:Nat} {ns:List Int} (hop:o.op= .convert s d x) (hw:yq all t o.guard=some true) (hd:yv fn.ntmps o.dst=true)
  (hx:zq G t x= .osl b 0 n) (hb:H[b]?=some (.cells (ns.map fun i=>.imm (.val (.int .u8 i))))) (hn:n=ns.length) (hs:P.underlying s=some (.slice e)) (hde:P.underlying e=some (.int .u8)) (hdd:P.underlying d=some .string)
  (h:SWr E all rest k (wz t o.dst (.imm (.val (.string (ns.foldl (fun r n=>r.push (UInt8.ofNat n.toNat)) ByteArray.empty))))) H):SWr E all (o::rest) k t H:=by
 subst hn;refine zce hw hd (fun c e=>by rw [hop] at e;cases e) (Nat.le_refl _) (fun ρ w I β hH hev=>?_) h;have hr:=hev x;rw [hx] at hr;obtain ⟨dst,op,type,pos,after,guard⟩:=o;simp only at hop;subst hop;generalize hv:ρ x=v at hr;cases hr with
 |osl _ c _ _ cap hc l1 l2=>
 obtain ⟨vs,T,h1,h2,h3,h4⟩:=hH.obj _ _ _ hb hc;have hvs:∀j (hj:j<ns.length),vs[j]?=some (.int .u8 (ns[j]'hj)):=by
  intro j hj;have hj':j<vs.size:=by simp at h2;omega
  have:=h3 j (by simpa using hj) hj';simp only [List.getElem_map] at this;rw [Array.getElem?_eq_getElem hj'];generalize vs[j]=u at this;cases this with|imm hr=>cases hr;rfl
 have hl:(loadCells ⟨c,0,none⟩ ns.length).run P w= .ok (ns.map (Value.int .u8)).toArray w:=by
  have:=run_loadCells_list (P:=P) w ⟨c,0,none⟩ (ns.map (Value.int .u8)) (fun j v hj=>by
   have hjl:j<ns.length:=by have:=lt_of_getElem? hj;simpa using this
   rw [List.getElem?_map,List.getElem?_eq_getElem hjl] at hj;cases hj
   rw [zal,wg h1,Nat.zero_add,hvs j hjl])
  simpa using this
 refine OpRun.same (v:=.string _) ?_ (.imm (.val _)) hH;simp only [execOp,hv,Sem.run_bind];rw [run_convert_bytes_string w s d e _ _ cap hs hde hdd,run_bytesToString w _ _ cap ns hl]
end
def SV.sh (n:Nat):SV->SV
 | .any=>.any
 | .imm d=>.imm d
 | .ptr b o=>.ptr (b+n) o
 | .osl b o l=>.osl (b+n) o l
 | .asl b kk rows=>.asl (b+n) kk rows
 | .map b=>.map (b+n)
 | .yld b=>.yld (b+n)
 | .vec b m=>.vec (b+n) m
 | .vptr b m o=>.vptr (b+n) m o
 | .fn f x y=>.fn f (shL n x) (shL n y)
 | .iface t v=>.iface t (v.sh n)
 | .agg cs=>.agg (shL n cs)
 | .tup vs=>.tup (shL n vs)
where shL (n:Nat):List SV->List SV
 |[]=>[]
 |s::r=>s.sh n::shL n r
theorem ztn (n:Nat):∀l:List SV,SV.sh.shL n l=l.map (SV.sh n)
 |[]=>rfl
 |s::r=>by simp only [SV.sh.shL,List.map_cons,ztn n r]
def SObj.sh (n:Nat):SObj->SObj
 | .cells cs=>.cells (cs.map (SV.sh n))
 | .mapI kk es=>.mapI kk (es.map fun e=>(e.1,e.2.sh n))
 | .mapS es=>.mapS (es.map fun e=>(e.1,e.2.sh n))
 | .loop s f m t ps asg bd=>.loop s f m (t.map fun e=>(e.1,e.2.sh n)) ps asg bd
 | .vec kk cs=>.vec kk (cs.map (SV.sh n))
 | .pin kk es c=>.pin kk (es.map fun e=>(e.1,e.2.1,e.2.2.sh n)) c
 | .iter m s seen l=>.iter (m+n) s seen l
 | .tok kk m=>.tok kk m
 | .dead=>.dead
 | .free=>.free
theorem SObj.sh_dead {n:Nat} {o:SObj}:o.sh n= .dead ↔ o= .dead:=by cases o<;>simp [SObj.sh]
section
variable {w:World} {I:Imm} {βX β0:List Bnd} {n:Nat}
theorem zbx (hn:βX.length=n) (b:Nat):(βX++β0)[b+n]?=β0[b]?:=by
 rw [List.getElem?_append_right (by omega)];congr 1;omega
theorem Rep.sh {v:Value} {s:SV} (hn:βX.length=n) (h:Rep w I β0 v s):Rep w I (βX++β0) v (s.sh n):=by
 have g:=fun b=>zbx (β0:=β0) hn b
 induction h with
 |any v=>exact .any v
 |imm h=>exact .imm h
 |ptr b c off h=>exact .ptr _ c off (by rw [g];exact h)
 |osl b c off len cap h h1 h2=>exact .osl _ c off len cap (by rw [g];exact h) h1 h2
 |asl b kk rows v u m h hu hs hle heq=>exact .asl _ kk rows v u m h (by rw [g];exact hu) hs hle heq
 |map b c h=>exact .map _ c (by rw [g];exact h)
 |yld b c h=>exact .yld _ c (by rw [g];exact h)
 |vec b m v u q h hs hle hv heq=>exact .vec _ m v u q (by rw [g];exact h) hs hle hv heq
 |vptr b m off v a q cap h hle hv heq=>exact .vptr _ m off v a q cap (by rw [g];exact h) hle hv heq
 |fn f fs cs first captured h1 h2 _ _ ih1 ih2=>
  simp only [SV.sh,ztn];exact .fn f fs cs _ _ (by simpa using h1) (by simpa using h2) (fun j hj hj'=>by simpa using ih1 j (by simpa using hj) hj') (fun j hj hj'=>by simpa using ih2 j (by simpa using hj) hj')
 |iface t v s _ ih=>exact .iface t v _ ih
 |agg vs cs h1 _ ih=>
  simp only [SV.sh,ztn];exact .agg vs _ (by simpa using h1) (fun j hj hj'=>by simpa using ih j (by simpa using hj) hj')
 |tup vs ss h1 _ ih=>
  simp only [SV.sh,ztn];exact .tup vs _ (by simpa using h1) (fun j hj hj'=>by simpa using ih j (by simpa using hj) hj')
theorem Rep.unsh {v:Value} {s':SV} (hn:βX.length=n) (h:Rep w I (βX++β0) v s'):∀{s:SV},s'=s.sh n->Rep w I β0 v s:=by
 have g:=fun b=>zbx (β0:=β0) hn b
 induction h with
 |any v=>intro s hs;cases s<;>simp [SV.sh] at hs;exact .any v
 |imm h=>intro s hs;cases s<;>simp [SV.sh] at hs;subst hs;exact .imm h
 |ptr b c off h=>intro s hs;cases s<;>simp [SV.sh] at hs;obtain ⟨rfl,rfl⟩:=hs;exact .ptr _ c _ (by rw [g] at h;exact h)
 |osl b c off len cap h h1 h2=>intro s hs;cases s<;>simp [SV.sh] at hs;obtain ⟨rfl,rfl,rfl⟩:=hs;exact .osl _ c _ _ cap (by rw [g] at h;exact h) h1 h2
 |asl b kk rows v u m h hu hs' hle heq=>intro s hs;cases s<;>simp [SV.sh] at hs;obtain ⟨rfl,rfl,rfl⟩:=hs;exact .asl _ _ _ v u m h (by rw [g] at hu;exact hu) hs' hle heq
 |map b c h=>intro s hs;cases s<;>simp [SV.sh] at hs;subst hs;exact .map _ c (by rw [g] at h;exact h)
 |yld b c h=>intro s hs;cases s<;>simp [SV.sh] at hs;subst hs;exact .yld _ c (by rw [g] at h;exact h)
 |vec b m v u q h hs' hle hv heq=>intro s hs;cases s<;>simp [SV.sh] at hs;obtain ⟨rfl,rfl⟩:=hs;exact .vec _ _ v u q (by rw [g] at h;exact h) hs' hle hv heq
 |vptr b m off v a q cap h hle hv heq=>intro s hs;cases s<;>simp [SV.sh] at hs;obtain ⟨rfl,rfl,rfl⟩:=hs;exact .vptr _ _ _ v a q cap (by rw [g] at h;exact h) hle hv heq
 |fn f fs cs first captured h1 h2 _ _ ih1 ih2=>
  intro s hs;cases s<;>simp [SV.sh,ztn] at hs;obtain ⟨rfl,rfl,rfl⟩:=hs;exact .fn _ fs cs _ _ (by simpa using h1) (by simpa using h2) (fun j hj hj'=>ih1 j (by simpa using hj) hj' (by simp)) (fun j hj hj'=>ih2 j (by simpa using hj) hj' (by simp))
 |iface t v s _ ih=>intro s hs;cases s<;>simp [SV.sh] at hs;obtain ⟨rfl,rfl⟩:=hs;exact .iface _ v _ (ih rfl)
 |agg vs cs h1 _ ih=>
  intro s hs;cases s<;>simp [SV.sh,ztn] at hs;subst hs;exact .agg vs _ (by simpa using h1) (fun j hj hj'=>ih j (by simpa using hj) hj' (by simp))
 |tup vs ss h1 _ ih=>
  intro s hs;cases s<;>simp [SV.sh,ztn] at hs;subst hs;exact .tup vs _ (by simpa using h1) (fun j hj hj'=>ih j (by simpa using hj) hj' (by simp))
theorem ype (n:Nat) (t:List (Nat × SV)) (m:Nat):qq (t.map fun e=>(e.1,e.2.sh n)) m=(qq t m).sh n:=by
 induction t with
 |nil=>rfl
 |cons x t ih=>
  simp only [List.map_cons,qq];split
  ·rfl
  ·exact ih
theorem ObjOK.sh {o:SObj} {x:Bnd} (hn:βX.length=n) (h:ObjOK w I β0 o x):ObjOK w I (βX++β0) (o.sh n) x:=by
 cases o with
 |cells cs=>
  cases x with
  |blk c=>
   obtain ⟨vs,T,h1,h2,h3,h4⟩:=h;exact ⟨vs,T,h1,by simpa using h2,fun j hj hj'=>by simpa using (h3 j (by simpa using hj) hj').sh hn,h4⟩
  |tok u=>exact h.elim
 |mapI kk es=>
  cases x with
  |blk c=>
   obtain ⟨ents,clock,h1,h2,h3,h4⟩:=h
   exact ⟨ents,clock,h1,by simpa using h2,fun j hj hj'=>by
    have:=h3 j (by simpa using hj) hj';simp only [List.getElem_map]
    exact ⟨this.1,this.2.sh hn⟩,h4⟩
  |tok u=>exact h.elim
 |mapS es=>
  cases x with
  |blk c=>
   obtain ⟨ents,clock,h1,h2,h3,h4⟩:=h
   exact ⟨ents,clock,h1,by simpa using h2,fun j hj hj'=>by
    have:=h3 j (by simpa using hj) hj';simp only [List.getElem_map]
    exact ⟨this.1,this.2.sh hn⟩,h4⟩
  |tok u=>exact h.elim
 |tok kk m=>cases x<;>exact h
 |loop s f m t ps asg bd=>
  cases x with
  |blk c=>
   obtain ⟨r,a1,a2,a3,a4,a5,a6,a7,a8,a9⟩:=h;exact ⟨r,a1,a2,a3,a4,a5,a6,a7,fun m=>by rw [ype];exact (a8 m).sh hn,a9⟩
  |tok u=>exact h.elim
 |vec kk cs=>
  cases x with
  |blk c=>exact h.elim
  |tok u=>
   rcases h with ⟨rfl,h⟩|⟨c,m,cap,vs,T,rfl,a1,a2,a3,a4,a5,a6,a7⟩
   ·exact .inl ⟨rfl,h⟩
   ·exact .inr ⟨c,m,cap,vs,T,rfl,a1,a2,a3,a4,by simpa using a5,fun j hj hj'=>by simpa using (a6 j (by simpa using hj) hj').sh hn,a7⟩
 |dead=>trivial
 |free=>cases x<;>exact h
 |pin kk es clock=>
  cases x with
  |blk c=>
   obtain ⟨ents,h1,h2,h3,h4⟩:=h
   exact ⟨ents,h1,by simpa using h2,fun j hj hj'=>by
    have:=h3 j (by simpa using hj) hj';simp only [List.getElem_map]
    exact ⟨this.1,this.2.1,this.2.2.sh hn⟩,h4⟩
  |tok u=>exact h.elim
 |iter m s seen l=>
  cases x with
  |blk c=>
   obtain ⟨cm,h1,h2⟩:=h;exact ⟨cm,by rw [zbx hn];exact h1,h2⟩
  |tok u=>exact h.elim
theorem ObjOK.unsh {o:SObj} {x:Bnd} (hn:βX.length=n) (h:ObjOK w I (βX++β0) (o.sh n) x):ObjOK w I β0 o x:=by
 cases o with
 |cells cs=>
  cases x with
  |blk c=>
   obtain ⟨vs,T,h1,h2,h3,h4⟩:=h;exact ⟨vs,T,h1,by simpa using h2,fun j hj hj'=>(h3 j (by simpa using hj) hj').unsh hn (by simp),h4⟩
  |tok u=>exact h.elim
 |mapI kk es=>
  cases x with
  |blk c=>
   obtain ⟨ents,clock,h1,h2,h3,h4⟩:=h
   exact ⟨ents,clock,h1,by simpa using h2,fun j hj hj'=>by
    have:=h3 j (by simpa using hj) hj';simp only [List.getElem_map] at this
    exact ⟨this.1,this.2.unsh hn rfl⟩,h4⟩
  |tok u=>exact h.elim
 |mapS es=>
  cases x with
  |blk c=>
   obtain ⟨ents,clock,h1,h2,h3,h4⟩:=h
   exact ⟨ents,clock,h1,by simpa using h2,fun j hj hj'=>by
    have:=h3 j (by simpa using hj) hj';simp only [List.getElem_map] at this
    exact ⟨this.1,this.2.unsh hn rfl⟩,h4⟩
  |tok u=>exact h.elim
 |tok kk m=>cases x<;>exact h
 |loop s f m t ps asg bd=>
  cases x with
  |blk c=>
   obtain ⟨r,a1,a2,a3,a4,a5,a6,a7,a8,a9⟩:=h;exact ⟨r,a1,a2,a3,a4,a5,a6,a7,fun m=>(a8 m).unsh hn (ype n t m),a9⟩
  |tok u=>exact h.elim
 |vec kk cs=>
  cases x with
  |blk c=>exact h.elim
  |tok u=>
   rcases h with ⟨h0,h⟩|⟨c,m,cap,vs,T,rfl,a1,a2,a3,a4,a5,a6,a7⟩
   ·exact .inl ⟨by simpa using h0,h⟩
   ·exact .inr ⟨c,m,cap,vs,T,rfl,a1,a2,a3,a4,by simpa using a5,fun j hj hj'=>(a6 j (by simpa using hj) hj').unsh hn (by simp),a7⟩
 |dead=>trivial
 |free=>cases x<;>exact h
 |pin kk es clock=>
  cases x with
  |blk c=>
   obtain ⟨ents,h1,h2,h3,h4⟩:=h
   exact ⟨ents,h1,by simpa using h2,fun j hj hj'=>by
    have:=h3 j (by simpa using hj) hj';simp only [List.getElem_map] at this
    exact ⟨this.1,this.2.1,this.2.2.unsh hn rfl⟩,h4⟩
  |tok u=>exact h.elim
 |iter m s seen l=>
  cases x with
  |blk c=>
   obtain ⟨cm,h1,h2⟩:=h;exact ⟨cm,by rw [zbx hn] at h1;exact h1,h2⟩
  |tok u=>exact h.elim
end
section
variable {P:Program} {G:List (Nat × D)}
theorem zmv {f:FuncId} {args:List SV} {H0:List SObj} {K:SV->List SObj->Prop} (h:SCall P G f args H0 K) (X:List SObj):
  SCall P G f (args.map (SV.sh X.length)) (X++H0.map (SObj.sh X.length)) (fun r H'=>∃r1 H1,K r1 H1/\r=r1.sh X.length/\H'=X++H1.map (SObj.sh X.length)):=by
 intro w I β vs hH hargs;obtain ⟨βX,β0,rfl,hn⟩:∃βX β0,β=βX++β0/\βX.length=X.length:=⟨β.take X.length,β.drop X.length,by simp,by have:=hH.len;simp at this ⊢;omega⟩;have hl0:β0.length=H0.length:=by have:=hH.len;simp at this;omega
 have getH:∀b,(X++H0.map (SObj.sh X.length))[b+X.length]?=(H0[b]?).map (SObj.sh X.length):=fun b=>by
  rw [List.getElem?_append_right (by omega),show b+X.length-X.length=b by omega,List.getElem?_map]
 have up:∀b c,jr H0 β0 b c->jr (X++H0.map (SObj.sh X.length)) (βX++β0) (b+X.length) c:=by
  rintro b c ⟨o,x,h1,h2,h3,h4⟩;exact ⟨o.sh X.length,x,by rw [getH,h1];rfl,fun e=>h2 (SObj.sh_dead.1 e),by rw [zbx hn];exact h3,h4⟩
 have hH0:HeapOK G w I β0 H0:=by
  refine ⟨hl0,fun b o x h1 h2=>?_,fun b b' c h1 h2=>?_,hH.inI,hH.glob⟩
  ·exact (hH.obj (b+X.length) (o.sh X.length) x (by rw [getH,h1];rfl) (by rw [zbx hn];exact h2)).unsh hn
  ·have:=hH.inj _ _ c (up b c h1) (up b' c h2);omega
 have hargs0:Reps w I β0 vs.toList args:=by
  refine ⟨by simpa using hargs.len,fun j v s hv hs=>?_⟩;exact (hargs.rep j v (s.sh X.length) hv (by rw [List.getElem?_map,hs];rfl)).unsh hn rfl
 refine (h w I β0 vs hH0 hargs0).mono ?_;rintro e w' ⟨v,r,I',β',H',rfl,hK,hv,hH',hext⟩;have hl':β'.length=H'.length:=hH'.len;have getH':∀b,(X++H'.map (SObj.sh X.length))[b+X.length]?=(H'[b]?).map (SObj.sh X.length):=fun b=>by
  rw [List.getElem?_append_right (by omega),show b+X.length-X.length=b by omega,List.getElem?_map]
 have split:∀b c,jr (X++H'.map (SObj.sh X.length)) (βX++β') b c->(b<X.length/\jr (X++H0.map (SObj.sh X.length)) (βX++β0) b c)\/(X.length<=b/\jr H' β' (b-X.length) c):=by
  rintro b c ⟨o,x,h1,h2,h3,h4⟩;rcases Nat.lt_or_ge b X.length with hb|hb
  ·rw [List.getElem?_append_left hb] at h1
   rw [List.getElem?_append_left (by omega)] at h3;exact .inl ⟨hb,o,x,by rw [List.getElem?_append_left hb];exact h1,h2,by rw [List.getElem?_append_left (by omega)];exact h3,h4⟩
  ·obtain ⟨i,rfl⟩:∃i,b=i+X.length:=⟨b-X.length,by omega⟩
   rw [getH'] at h1;rw [zbx hn] at h3;cases ho:H'[i]? with
   |none=>rw [ho] at h1;cases h1
   |some o'=>
    rw [ho] at h1;cases h1;refine .inr ⟨hb,o',x,?_,fun e=>h2 (SObj.sh_dead.2 e),?_,h4⟩
    ·rw [show i+X.length-X.length=i by omega];exact ho
    ·rw [show i+X.length-X.length=i by omega];exact h3
 have ownX:∀b c,b<X.length->jr (X++H0.map (SObj.sh X.length)) (βX++β0) b c->c<w.heap.size/\∀b',¬jr H0 β0 b' c:=by
  intro b c hb ho;refine ⟨hH.owns_lt ho,fun b' ho'=>?_⟩;have:=hH.inj _ _ c ho (up b' c ho');omega
 have keep:Keeps (βX++β0).length (βX++β0) (βX++β'):=fun b x hb hx=>by
  rcases Nat.lt_or_ge b X.length with hb'|hb'
  ·rw [List.getElem?_append_left (by omega)] at hx
   exact ⟨x,by rw [List.getElem?_append_left (by omega)];exact hx,x.le_refl⟩
  ·obtain ⟨i,rfl⟩:∃i,b=i+X.length:=⟨b-X.length,by omega⟩
   rw [zbx hn] at hx;obtain ⟨y,hy,hle⟩:=hext.keep i x (by rw [<-hl0];exact lt_of_getElem? hx) hx;exact ⟨y,by rw [zbx hn];exact hy,hle⟩
 have hheap:HeapOK G w' I' (βX++β') (X++H'.map (SObj.sh X.length)):=by
  refine ⟨by simp;omega,fun b o x h1 h2=>?_,fun b b' c h1 h2=>?_,hH'.inI,hH'.glob⟩
  ·rcases Nat.lt_or_ge b X.length with hb|hb
   ·rw [List.getElem?_append_left hb] at h1
    rw [List.getElem?_append_left (by omega)] at h2;have hob:=hH.obj b o x (by rw [List.getElem?_append_left hb];exact h1) (by rw [List.getElem?_append_left (by omega)];exact h2)
    by_cases hd:o= .dead
    ·subst hd;trivial
    ·have hox:∀c,x.block=some c->c<w.heap.size/\∀b',¬jr H0 β0 b' c:=fun c hc=>
      ownX b c hb ⟨o,x,by rw [List.getElem?_append_left hb];exact h1,hd,by rw [List.getElem?_append_left (by omega)];exact h2,hc⟩
     refine hob.mono (fun c hc=>hext.old c (hox c hc).1 (hox c hc).2) hext.imm hext.cell keep (fun c o' hc hi=>?_);rcases hext.new c o' hi with h3|⟨b',h3⟩|h3
     ·exact h3
     ·exact absurd h3 ((hox c hc).2 b')
     ·have:=(hox c hc).1;omega
   ·obtain ⟨i,rfl⟩:∃i,b=i+X.length:=⟨b-X.length,by omega⟩
    rw [getH'] at h1;rw [zbx hn] at h2;cases ho:H'[i]? with
    |none=>rw [ho] at h1;cases h1
    |some o'=>
     rw [ho] at h1;cases h1;exact (hH'.obj i o' x ho h2).sh hn
  ·have cross:∀b b' c,b<X.length->jr (X++H0.map (SObj.sh X.length)) (βX++β0) b c->jr H' β' b' c->False:=by
    intro b b' c hb h1 h2;obtain ⟨l1,l2⟩:=ownX b c hb h1;rcases hext.own b' c h2 with ⟨b'',h3⟩|h3
    ·exact l2 b'' h3
    ·omega
   rcases split b c h1 with ⟨a1,a2⟩|⟨a1,a2⟩<;>rcases split b' c h2 with ⟨c1,c2⟩|⟨c1,c2⟩
   ·exact hH.inj b b' c a2 c2
   ·exact (cross _ _ c a1 a2 c2).elim
   ·exact (cross _ _ c c1 c2 a2).elim
   ·have:=hH'.inj _ _ c a2 c2;omega
 refine ⟨v,r.sh X.length,I',βX++β',_,rfl,⟨r,H',hK,rfl,rfl⟩,hv.sh hn,hheap,hext.imm,hext.cell,keep.mono (by have:=hH.len;omega),fun c hc hno=>hext.old c hc (fun b hb=>hno _ (up b c hb)),fun b c ho=>?_,fun c o hi=>?_,hext.size,hext.env⟩
 ·rcases split b c ho with ⟨_,a2⟩|⟨_,a2⟩
  ·exact .inl ⟨b,a2⟩
  ·rcases hext.own _ c a2 with ⟨b',h3⟩|h3
   ·exact .inl ⟨_,up b' c h3⟩
   ·exact .inr h3
 ·rcases hext.new c o hi with h3|⟨b,h3⟩|h3
  ·exact .inl h3
  ·exact .inr (.inl ⟨_,up b c h3⟩)
  ·exact .inr (.inr h3)
end
def SV.ren (σ:Nat->Nat):SV->SV
 | .any=>.any
 | .imm d=>.imm d
 | .ptr b o=>.ptr (σ b) o
 | .osl b o l=>.osl (σ b) o l
 | .asl b kk rows=>.asl (σ b) kk rows
 | .map b=>.map (σ b)
 | .yld b=>.yld (σ b)
 | .vec b m=>.vec (σ b) m
 | .vptr b m o=>.vptr (σ b) m o
 | .fn f x y=>.fn f (renL σ x) (renL σ y)
 | .iface t v=>.iface t (v.ren σ)
 | .agg cs=>.agg (renL σ cs)
 | .tup vs=>.tup (renL σ vs)
where renL (σ:Nat->Nat):List SV->List SV
 |[]=>[]
 |s::r=>s.ren σ::renL σ r
theorem zif (σ:Nat->Nat):∀l:List SV,SV.ren.renL σ l=l.map (SV.ren σ)
 |[]=>rfl
 |s::r=>by simp only [SV.ren.renL,List.map_cons,zif σ r]
def SObj.ren (σ:Nat->Nat):SObj->SObj
 | .cells cs=>.cells (cs.map (SV.ren σ))
 | .mapI kk es=>.mapI kk (es.map fun e=>(e.1,e.2.ren σ))
 | .mapS es=>.mapS (es.map fun e=>(e.1,e.2.ren σ))
 | .loop s f m t ps asg bd=>.loop s f m (t.map fun e=>(e.1,e.2.ren σ)) ps asg bd
 | .vec kk cs=>.vec kk (cs.map (SV.ren σ))
 | .pin kk es c=>.pin kk (es.map fun e=>(e.1,e.2.1,e.2.2.ren σ)) c
 | .iter m s seen l=>.iter (σ m) s seen l
 | .tok kk m=>.tok kk m
 | .dead=>.dead
 | .free=>.free
theorem SObj.ren_dead {σ:Nat->Nat} {o:SObj}:o.ren σ= .dead ↔ o= .dead:=by cases o<;>simp [SObj.ren]
section
variable {w:World} {I:Imm} {β β0:List Bnd} {σ:Nat->Nat} {m0:Nat}
theorem Rep.ren {v:Value} {s:SV} (hg:∀b x,β0[b]?=some x->β[σ b]?=some x) (h:Rep w I β0 v s):Rep w I β v (s.ren σ):=by
 induction h with
 |any v=>exact .any v
 |imm h=>exact .imm h
 |ptr b c off h=>exact .ptr _ c off (hg _ _ h)
 |osl b c off len cap h h1 h2=>exact .osl _ c off len cap (hg _ _ h) h1 h2
 |asl b kk rows v u m h hu hs hle heq=>exact .asl _ kk rows v u m h (hg _ _ hu) hs hle heq
 |map b c h=>exact .map _ c (hg _ _ h)
 |yld b c h=>exact .yld _ c (hg _ _ h)
 |vec b m v u q h hs hle hv heq=>exact .vec _ m v u q (hg _ _ h) hs hle hv heq
 |vptr b m off v a q cap h hle hv heq=>exact .vptr _ m off v a q cap (hg _ _ h) hle hv heq
 |fn f fs cs first captured h1 h2 _ _ ih1 ih2=>
  simp only [SV.ren,zif];exact .fn f fs cs _ _ (by simpa using h1) (by simpa using h2) (fun j hj hj'=>by simpa using ih1 j (by simpa using hj) hj') (fun j hj hj'=>by simpa using ih2 j (by simpa using hj) hj')
 |iface t v s _ ih=>exact .iface t v _ ih
 |agg vs cs h1 _ ih=>
  simp only [SV.ren,zif];exact .agg vs _ (by simpa using h1) (fun j hj hj'=>by simpa using ih j (by simpa using hj) hj')
 |tup vs ss h1 _ ih=>
  simp only [SV.ren,zif];exact .tup vs _ (by simpa using h1) (fun j hj hj'=>by simpa using ih j (by simpa using hj) hj')
theorem Rep.unren {v:Value} {s':SV} (hg:∀b x,b<m0->β[σ b]?=some x->β0[b]?=some x) (h:Rep w I β v s'):∀{s:SV},s'=s.ren σ->s.under m0=true->Rep w I β0 v s:=by
 induction h with
 |any v=>intro s hs hb;cases s<;>simp [SV.ren] at hs;exact .any v
 |imm h=>intro s hs hb;cases s<;>simp [SV.ren] at hs;subst hs;exact .imm h
 |ptr b c off h=>intro s hs hb;cases s<;>simp [SV.ren] at hs;obtain ⟨rfl,rfl⟩:=hs;exact .ptr _ c _ (hg _ _ (by simpa [SV.under] using hb) h)
 |osl b c off len cap h h1 h2=>intro s hs hb;cases s<;>simp [SV.ren] at hs;obtain ⟨rfl,rfl,rfl⟩:=hs;exact .osl _ c _ _ cap (hg _ _ (by simpa [SV.under] using hb) h) h1 h2
 |asl b kk rows v u m h hu hs' hle heq=>intro s hs hb;cases s<;>simp [SV.ren] at hs;obtain ⟨rfl,rfl,rfl⟩:=hs;exact .asl _ _ _ v u m h (hg _ _ (by simpa [SV.under] using hb) hu) hs' hle heq
 |map b c h=>intro s hs hb;cases s<;>simp [SV.ren] at hs;subst hs;exact .map _ c (hg _ _ (by simpa [SV.under] using hb) h)
 |yld b c h=>intro s hs hb;cases s<;>simp [SV.ren] at hs;subst hs;exact .yld _ c (hg _ _ (by simpa [SV.under] using hb) h)
 |vec b m v u q h hs' hle hv heq=>intro s hs hb;cases s<;>simp [SV.ren] at hs;obtain ⟨rfl,rfl⟩:=hs;exact .vec _ _ v u q (hg _ _ (by simpa [SV.under] using hb) h) hs' hle hv heq
 |vptr b m off v a q cap h hle hv heq=>intro s hs hb;cases s<;>simp [SV.ren] at hs;obtain ⟨rfl,rfl,rfl⟩:=hs;exact .vptr _ _ _ v a q cap (hg _ _ (by simpa [SV.under] using hb) h) hle hv heq
 |fn f fs cs first captured h1 h2 _ _ ih1 ih2=>
  intro s hs hb;cases s<;>simp [SV.ren,zif] at hs;obtain ⟨rfl,rfl,rfl⟩:=hs;exact .fn _ fs cs _ _ (by simpa using h1) (by simpa using h2) (fun j hj hj'=>ih1 j (by simpa using hj) hj' (by simp) (ys (by simp [SV.under] at hb;exact hb.1) j hj)) (fun j hj hj'=>ih2 j (by simpa using hj) hj' (by simp) (ys (by simp [SV.under] at hb;exact hb.2) j hj))
 |iface t v s _ ih=>intro s hs hb;cases s<;>simp [SV.ren] at hs;obtain ⟨rfl,rfl⟩:=hs;exact .iface _ v _ (ih rfl (by simpa [SV.under] using hb))
 |agg vs cs h1 _ ih=>
  intro s hs hb;cases s<;>simp [SV.ren,zif] at hs;subst hs;exact .agg vs _ (by simpa using h1) (fun j hj hj'=>ih j (by simpa using hj) hj' (by simp) (ys (by simpa [SV.under] using hb) j hj))
 |tup vs ss h1 _ ih=>
  intro s hs hb;cases s<;>simp [SV.ren,zif] at hs;subst hs;exact .tup vs _ (by simpa using h1) (fun j hj hj'=>ih j (by simpa using hj) hj' (by simp) (ys (by simpa [SV.under] using hb) j hj))
theorem yie (σ:Nat->Nat) (t:List (Nat × SV)) (m:Nat):qq (t.map fun e=>(e.1,e.2.ren σ)) m=(qq t m).ren σ:=by
 induction t with
 |nil=>rfl
 |cons x t ih=>
  simp only [List.map_cons,qq];split
  ·rfl
  ·exact ih
theorem ObjOK.ren {o:SObj} {x:Bnd} (hg:∀b x,β0[b]?=some x->β[σ b]?=some x) (h:ObjOK w I β0 o x):ObjOK w I β (o.ren σ) x:=by
 cases o with
 |cells cs=>
  cases x with
  |blk c=>
   obtain ⟨vs,T,h1,h2,h3,h4⟩:=h;exact ⟨vs,T,h1,by simpa using h2,fun j hj hj'=>by simpa using (h3 j (by simpa using hj) hj').ren hg,h4⟩
  |tok u=>exact h.elim
 |mapI kk es=>
  cases x with
  |blk c=>
   obtain ⟨ents,clock,h1,h2,h3,h4⟩:=h
   exact ⟨ents,clock,h1,by simpa using h2,fun j hj hj'=>by
    have:=h3 j (by simpa using hj) hj';simp only [List.getElem_map]
    exact ⟨this.1,this.2.ren hg⟩,h4⟩
  |tok u=>exact h.elim
 |mapS es=>
  cases x with
  |blk c=>
   obtain ⟨ents,clock,h1,h2,h3,h4⟩:=h
   exact ⟨ents,clock,h1,by simpa using h2,fun j hj hj'=>by
    have:=h3 j (by simpa using hj) hj';simp only [List.getElem_map]
    exact ⟨this.1,this.2.ren hg⟩,h4⟩
  |tok u=>exact h.elim
 |tok kk m=>cases x<;>exact h
 |loop s f m t ps asg bd=>
  cases x with
  |blk c=>
   obtain ⟨r,a1,a2,a3,a4,a5,a6,a7,a8,a9⟩:=h;exact ⟨r,a1,a2,a3,a4,a5,a6,a7,fun m=>by rw [yie];exact (a8 m).ren hg,a9⟩
  |tok u=>exact h.elim
 |vec kk cs=>
  cases x with
  |blk c=>exact h.elim
  |tok u=>
   rcases h with ⟨rfl,h⟩|⟨c,m,cap,vs,T,rfl,a1,a2,a3,a4,a5,a6,a7⟩
   ·exact .inl ⟨rfl,h⟩
   ·exact .inr ⟨c,m,cap,vs,T,rfl,a1,a2,a3,a4,by simpa using a5,fun j hj hj'=>by simpa using (a6 j (by simpa using hj) hj').ren hg,a7⟩
 |dead=>trivial
 |free=>cases x<;>exact h
 |pin kk es clock=>
  cases x with
  |blk c=>
   obtain ⟨ents,h1,h2,h3,h4⟩:=h
   exact ⟨ents,h1,by simpa using h2,fun j hj hj'=>by
    have:=h3 j (by simpa using hj) hj';simp only [List.getElem_map]
    exact ⟨this.1,this.2.1,this.2.2.ren hg⟩,h4⟩
  |tok u=>exact h.elim
 |iter m s seen l=>
  cases x with
  |blk c=>
   obtain ⟨cm,h1,h2⟩:=h;exact ⟨cm,hg _ _ h1,h2⟩
  |tok u=>exact h.elim
theorem ObjOK.unren {o:SObj} {x:Bnd} (hg:∀b x,b<m0->β[σ b]?=some x->β0[b]?=some x) (h:ObjOK w I β (o.ren σ) x) (hu:o.under m0=true):ObjOK w I β0 o x:=by
 cases o with
 |cells cs=>
  cases x with
  |blk c=>
   obtain ⟨vs,T,h1,h2,h3,h4⟩:=h;exact ⟨vs,T,h1,by simpa using h2,fun j hj hj'=>(h3 j (by simpa using hj) hj').unren hg (by simp) (ys hu j hj),h4⟩
  |tok u=>exact h.elim
 |mapI kk es=>
  cases x with
  |blk c=>
   obtain ⟨ents,clock,h1,h2,h3,h4⟩:=h
   exact ⟨ents,clock,h1,by simpa using h2,fun j hj hj'=>by
    have:=h3 j (by simpa using hj) hj';simp only [List.getElem_map] at this
    exact ⟨this.1,this.2.unren hg rfl (List.all_eq_true.1 hu _ (List.getElem_mem hj))⟩,h4⟩
  |tok u=>exact h.elim
 |mapS es=>
  cases x with
  |blk c=>
   obtain ⟨ents,clock,h1,h2,h3,h4⟩:=h
   exact ⟨ents,clock,h1,by simpa using h2,fun j hj hj'=>by
    have:=h3 j (by simpa using hj) hj';simp only [List.getElem_map] at this
    exact ⟨this.1,this.2.unren hg rfl (List.all_eq_true.1 hu _ (List.getElem_mem hj))⟩,h4⟩
  |tok u=>exact h.elim
 |tok kk m=>cases x<;>exact h
 |loop s f m t ps asg bd=>
  cases x with
  |blk c=>
   obtain ⟨r,a1,a2,a3,a4,a5,a6,a7,a8,a9⟩:=h;exact ⟨r,a1,a2,a3,a4,a5,a6,a7,fun m=>(a8 m).unren hg (yie σ t m) (zdv hu m),a9⟩
  |tok u=>exact h.elim
 |vec kk cs=>
  cases x with
  |blk c=>exact h.elim
  |tok u=>
   rcases h with ⟨h0,h⟩|⟨c,m,cap,vs,T,rfl,a1,a2,a3,a4,a5,a6,a7⟩
   ·exact .inl ⟨by simpa using h0,h⟩
   ·exact .inr ⟨c,m,cap,vs,T,rfl,a1,a2,a3,a4,by simpa using a5,fun j hj hj'=>(a6 j (by simpa using hj) hj').unren hg (by simp) (ys hu j hj),a7⟩
 |dead=>trivial
 |free=>cases x<;>exact h
 |pin kk es clock=>
  cases x with
  |blk c=>
   obtain ⟨ents,h1,h2,h3,h4⟩:=h
   exact ⟨ents,h1,by simpa using h2,fun j hj hj'=>by
    have:=h3 j (by simpa using hj) hj';simp only [List.getElem_map] at this
    exact ⟨this.1,this.2.1,this.2.2.unren hg rfl (List.all_eq_true.1 hu _ (List.getElem_mem hj))⟩,h4⟩
  |tok u=>exact h.elim
 |iter m s seen l=>
  cases x with
  |blk c=>
   obtain ⟨cm,h1,h2⟩:=h;exact ⟨cm,hg _ _ (by simpa [SObj.under] using hu) h1,h2⟩
  |tok u=>exact h.elim
end
section
variable {P:Program} {G:List (Nat × D)}
end
mutual
theorem SV.under_mono {m n:Nat} (h:m<=n):∀s:SV,s.under m=true->s.under n=true
 | .any,_=>rfl
 | .imm _,_=>rfl
 | .ptr b _,hs=>by simp only [SV.under,decide_eq_true_eq] at hs ⊢;omega
 | .osl b _ _,hs=>by simp only [SV.under,decide_eq_true_eq] at hs ⊢;omega
 | .asl b _ _,hs=>by simp only [SV.under,decide_eq_true_eq] at hs ⊢;omega
 | .map b,hs=>by simp only [SV.under,decide_eq_true_eq] at hs ⊢;omega
 | .yld b,hs=>by simp only [SV.under,decide_eq_true_eq] at hs ⊢;omega
 | .vec b _,hs=>by simp only [SV.under,decide_eq_true_eq] at hs ⊢;omega
 | .vptr b _ _,hs=>by simp only [SV.under,decide_eq_true_eq] at hs ⊢;omega
 | .fn _ x y,hs=>by
  simp only [SV.under,Bool.and_eq_true] at hs ⊢;exact ⟨zap h x hs.1,zap h y hs.2⟩
 | .iface _ v,hs=>by
  simp only [SV.under] at hs ⊢;exact SV.under_mono h v hs
 | .agg cs,hs=>by
  simp only [SV.under] at hs ⊢;exact zap h cs hs
 | .tup vs,hs=>by
  simp only [SV.under] at hs ⊢;exact zap h vs hs
theorem zap {m n:Nat} (h:m<=n):∀l:List SV,SV.under.allUnder m l=true->SV.under.allUnder n l=true
 |[],_=>rfl
 |s::r,hs=>by
  simp only [SV.under.allUnder,Bool.and_eq_true] at hs ⊢;exact ⟨SV.under_mono h s hs.1,zap h r hs.2⟩
end
theorem SObj.under_mono {m n:Nat} (h:m<=n) (o:SObj) (ho:o.under m=true):o.under n=true:=by
 cases o with
 |cells cs=>exact zap h cs ho
 |mapI _ es=>
  simp only [SObj.under,List.all_eq_true] at ho ⊢;exact fun e he=>SV.under_mono h _ (ho e he)
 |mapS es=>
  simp only [SObj.under,List.all_eq_true] at ho ⊢;exact fun e he=>SV.under_mono h _ (ho e he)
 |loop s f n t ps a b=>
  simp only [SObj.under,List.all_eq_true] at ho ⊢;exact fun e he=>SV.under_mono h _ (ho e he)
 |vec _ cs=>exact zap h cs ho
 |pin _ es _=>
  simp only [SObj.under,List.all_eq_true] at ho ⊢;exact fun e he=>SV.under_mono h _ (ho e he)
 |iter b _ _ _=>simp only [SObj.under,decide_eq_true_eq] at ho ⊢;omega
 |tok _ _=>rfl
 |dead=>rfl
 |free=>rfl
theorem xy {m n:Nat} (h:m<=n) {l:List SObj} (hl:l.all (SObj.under m)=true):l.all (SObj.under n)=true:=by
 simp only [List.all_eq_true] at hl ⊢;exact fun o ho=>SObj.under_mono h o (hl o ho)
theorem zmw (N:Nat) (a b:List SV) (ha:SV.under.allUnder N a=true) (hb:SV.under.allUnder N b=true):SV.under.allUnder N (a++b)=true:=by
 induction a with
 |nil=>exact hb
 |cons x a ih=>simp only [SV.under.allUnder,Bool.and_eq_true,List.cons_append] at ha ⊢;exact ⟨ha.1,ih ha.2⟩
section
variable {P:Program} {G:List (Nat × D)} {fn:Func} {rd:Bool} {E:En P G fn rd} {t:List (Nat × SV)} {H K:List SObj} {k:List Item} {m:Nat} {all:Array Oper} {rest:List Oper} {done:List Eff} {o:Oper}
theorem yif {c:Code} (h:SW E (.code c:: .inScope c::k) t H):SW E (.code (.scope c)::k) t H:=zft (fun _ _ _=>step_lone_go (by simp [stepG,stepG.exec,En.at,atR,Frame.at])) h
theorem zfy {ty e n:Nat} {x ix:Operand} {b off len i:Nat} {mm:Int} {kk:IntKind} (hop:o.op= .indexAddr ty x ix)
  (hw:yq all t o.guard=some true) (hd:yv fn.ntmps o.dst=true) (hx:zq G t x= .osl b off len) (hi:zq G t ix= .imm (.val (.int kk mm)))
  (hu:P.underlying ty=some (.slice e)) (hn:qm P e=some n) (hmm:mm=(i:Int)) (hr:i<len)
  (h:SWr E all rest k (wz t o.dst (.ptr b (off+i*n))) H):SWr E all (o::rest) k t H:=
 zdn hw hd (by
  subst hmm;rw [hop];simp only [sop,hi,zbj,hu,hn,hx];rw [if_pos (by omega)]
  simp) (Nat.le_refl _) h
theorem ylf {t e kk by_:Nat} {z:Value} {k1 k2:IntKind} (hu:P.underlying t=some (.slice e)) (hk:qm P e=some kk) (hby:zcl P e=some by_) (w:World):
  (Instr.makeSlice t (.int k1 0) (.int k2 0)).run P w= .ok (.slice (some ⟨w.heap.size,0,none⟩) 0 0) (w.alloc (.cells ((Array.range (0*kk)).map (z.cells[· % z.cells.size]!)) e)):=by
 have hinfo:∀w:World,(typeInfo e).run P w= .ok ((P.info? e).getD default) w/\((P.info? e).getD default).bytes=by_:=by
  intro w;unfold zcl at hby;cases hi:P.info? e with
  |none=>simp [hi] at hby
  |some i=>simp [hi] at hby;simp [typeInfo,hi,hby]
 have wc:=zpa (c:=0) (by omega) (by omega);have hinf:=hinfo w;simp only [Instr.makeSlice,Sem.run_bind,run_underlying hu,Result.andThen_ok,asInt,asIntOf,Sem.run_pure,hinf.1,hinf.2,wc];rw [if_neg (by simp)];simp only [Sem.run_bind,Result.andThen_ok,run_askRoom,wi hk];have hn0:(0:Int).toNat*kk=0:=by simp
 rw [if_pos hn0];have ha:((Array.range ((0:Int).toNat*kk)).map fun x=>(#[]:Array Value)[x % (#[]:Array Value).size]!)=((Array.range (0*kk)).map (z.cells[· % z.cells.size]!)):=by
  apply Array.ext';simp
 simp only [Sem.run_pure,Result.andThen_ok,newRow,Sem.run_bind,run_newObj,ha];rfl
theorem zqv {w:World} {I:Imm} {β:List Bnd} {ρ:Operand->Value} {ty e kk by_:Nat} {lx cx:Operand} {k1 k2:IntKind} (hop:o.op= .makeSlice ty lx cx) (hH:HeapOK G w I β H)
  (hl:Rep w I β (ρ lx) (.imm (.val (.int k1 0)))) (hc:Rep w I β (ρ cx) (.imm (.val (.int k2 0)))) (hu:P.underlying ty=some (.slice e)) (hk:qm P e=some kk) (hby:zcl P e=some by_):
  OpRun P G (execOp ρ o) w I β H (.osl H.length 0 0) (H++[.cells []]):=by
 obtain ⟨dst,op,type,pos,after,guard⟩:=o;simp only at hop;subst hop;generalize hvl:ρ lx=vl at hl;generalize hvc:ρ cx=vc at hc;cases hl with|imm hl=>cases hl with|val _=>
 cases hc with|imm hc=>cases hc with|val _=>
 have hr:=ylf (k1:=k1) (k2:=k2) (z:=undef) hu hk hby w;have hemp:((Array.range (0*kk)).map (undef.cells[· % undef.cells.size]!))=#[]:=by apply Array.ext';simp
 rw [hemp] at hr;obtain ⟨h1,h2,_⟩:=znm (T:=e) (vs:=#[]) (cs:=[]) hH .nil;have:=OpRun.value (P:=P) (H':=H++[.cells []]) hr (.osl H.length w.heap.size 0 0 0 (by rw [<-hH.len];simp) (Nat.le_refl _) (by unfold maxLen;omega)) h1 h2;simp only [execOp,hvl,hvc];exact this
theorem yig {ty e by_:Nat} {z:Value} {lx cx:Operand} {n:Nat} {k1 k2:IntKind} {l1 l2:Int} {zz:SV} (hop:o.op= .makeSlice ty lx cx)
  (hw:yq all t o.guard=some true) (hd:yv fn.ntmps o.dst=true) (hl:zq G t lx= .imm (.val (.int k1 l1))) (hc:zq G t cx= .imm (.val (.int k2 l2)))
  (hu:P.underlying ty=some (.slice e)) (hk:qm P e=some 1) (hby:zcl P e=some by_) (hz:zbb P e=some z) (hb:by_<=65536/\z.cells.size=1) (hzz:zek z=[zz])
  (h1:l1=(n:Int)) (h2:l2=(n:Int)) (hn2:n<=1073741824)
  (h:SWr E all rest k (wz t o.dst (.osl H.length 0 n)) (H++[.cells (List.replicate n zz)])):SWr E all (o::rest) k t H:=by
 subst h1 h2;cases n with
 |zero=>
  refine zce hw hd (fun c e=>by rw [hop] at e;cases e) (by simp) (fun ρ w I β hH hev=>?_) h;have a1:=hev lx;have a2:=hev cx;rw [hl] at a1;rw [hc] at a2;exact zqv hop hH a1 a2 hu hk hby
 |succ n=>
  refine zdn (H':=H++[.cells (List.replicate (n+1) zz)]) hw hd ?_ (by simp) h;rw [hop];simp only [sop,hl,hc,zfl,hu,hk,hby,hz];rw [if_pos ⟨hb.1,hb.2,by omega,by omega,Nat.le_refl _⟩,if_neg (by omega),if_pos trivial,hzz,yhu];rfl
theorem zjx (N:Nat) {zz:SV} (h:zz.under N=true):∀n,SV.under.allUnder N (List.replicate n zz)=true
 |0=>rfl
 |n+1=>by simp only [List.replicate_succ,SV.under.allUnder,h,zjx N h n,Bool.and_self]
theorem ypf (nx:Nat) {ty e by_:Nat} {z:Value} {lx cx:Operand} {n:Nat} {k1 k2:IntKind} {l1 l2:Int} {zz:SV} (hop:o.op= .makeSlice ty lx cx)
  (hw:yq all t o.guard=some true) (hd:yv fn.ntmps o.dst=true) (hl:zq G t lx= .imm (.val (.int k1 l1))) (hc:zq G t cx= .imm (.val (.int k2 l2)))
  (hu:P.underlying ty=some (.slice e)) (hk:qm P e=some 1) (hby:zcl P e=some by_) (hz:zbb P e=some z) (hb:by_<=65536/\z.cells.size=1) (hzz:zek z=[zz]) (hzu:∀N,zz.under N=true)
  (hm:m<=nx) (hnx:K[nx]?=some .dead) (h1:l1=(n:Int)) (h2:l2=(n:Int)) (hn2:n<=1073741824)
  (h:SWe E m all rest k (wz t o.dst (.osl nx 0 n)) (K.set nx (.cells (List.replicate n zz))) (done++[⟨.osl nx 0 n,[],some (nx,.cells (List.replicate n zz))⟩])):SWe E m all (o::rest) k t K done:=by
 subst h1 h2;cases n with
 |zero=>
  refine zib (e:=⟨.osl nx 0 0,[],some (nx,.cells [])⟩) ⟨hd,.inr ⟨hw,fun K' hl' ha=>?_⟩⟩ h;intro ρ w I β hH hph hops;have a1:=hops lx (by rw [hop];simp [Op.operands]);have a2:=hops cx (by rw [hop];simp [Op.operands]);rw [hl] at a1;rw [hc] at a2;obtain ⟨q,v,w',I',β1,g1,g2,g3,g4,g5⟩:=zqv hop hH a1 a2 hu hk hby;have hnx':K'[nx]?=some .dead:=by rw [ha nx (.inr ⟨_,rfl⟩)];exact hnx
  obtain ⟨β2,q1,q2⟩:=ybq (m:=m) hm hnx' hH (hph nx hm hnx') g3 g4 g5 (by simp [SV.isNew]) rfl;simp only [SV.mv,if_true] at q1;exact .inl ⟨q,v,w',I',β2,g1,g2,q1,q2⟩
 |succ n=>
  have:=yes (E:=E) (m:=m) (all:=all) (rest:=rest) (k:=k) (t:=t) (K:=K) (done:=done) nx (r:=.osl K.length 0 (n+1)) (ob:=.cells (List.replicate (n+1) zz)) hw hd hm hnx (by simp [SV.isNew]) (zjx _ (hzu _) _)
   (fun K' hl'=>by
    rw [hop];simp only [sop,hl,hc,zfl,hu,hk,hby,hz];rw [if_pos ⟨hb.1,hb.2,by omega,by omega,Nat.le_refl _⟩,if_neg (by omega),if_pos trivial,hzz,yhu,hl']
    rfl)
  simp only [SV.mv,if_true] at this;exact this h
def yih (P:Program) (G:List (Nat × D)) (f:FuncId) (args:List SV) (g:FuncId) (cs:List SV):Prop:=
 ∀H,SCall P G f args H (fun r' H'=>r'= .fn (.func g) [] [.ptr H.length 0]/\H'=H++[.cells cs])
theorem ylg {fx:Operand} {args:Array Operand} {tys:Array TypeId} {f g:FuncId} {first captured cs:List SV} (hop:o.op= .call ⟨.value fx,args,tys⟩) (hw:yq all t o.guard=some true) (hd:yv fn.ntmps o.dst=true)
  (hf:zq G t fx= .fn (.func f) first captured) (hb:ju P f=true) {argv:List SV} (hargs:first++args.toList.map (zq G t)++captured=argv) (hc:yih P G f argv g cs)
  (h:SWr E all rest k (wz t o.dst (.fn (.func g) [] [.ptr H.length 0])) (H++[.cells cs])):SWr E all (o::rest) k t H:=
 qb hop hw hd hf hb hargs ((hc H).mono fun r' H' ⟨e1,e2⟩=>by subst e1 e2;exact ⟨by simp,h⟩)
theorem ylh (nx:Nat) {fx:Operand} {args:Array Operand} {tys:Array TypeId} {f g:FuncId} {first captured cs:List SV} (hop:o.op= .call ⟨.value fx,args,tys⟩) (hw:yq all t o.guard=some true) (hd:yv fn.ntmps o.dst=true)
  (hf:zq G t fx= .fn (.func f) first captured) (hb:ju P f=true) {argv:List SV} (hargs:first++args.toList.map (zq G t)++captured=argv) (hm:m<=nx) (hnx:K[nx]?=some .dead) (hcs:SV.under.allUnder K.length cs=true) (hc:yih P G f argv g cs)
  (h:SWe E m all rest k (wz t o.dst (.fn (.func g) [] [.ptr nx 0])) (K.set nx (.cells cs)) (done++[⟨.fn (.func g) [] [.ptr nx 0],[],some (nx,.cells cs)⟩])):SWe E m all (o::rest) k t K done:=by
 refine zib (e:=⟨.fn (.func g) [] [.ptr nx 0],[],some (nx,.cells cs)⟩) ⟨hd,.inr ⟨hw,fun K' hl' ha=>?_⟩⟩ h;intro ρ w I β hH hph hops;have hmem:∀x,x=fx\/x∈args.toList->x∈o.op.operands:=fun x hx=>by rw [hop];rcases hx with rfl|hx<;>simp_all [Op.operands,Call.operands]
 have hfr:=hops fx (hmem fx (.inl rfl));rw [hf] at hfr;generalize hfv:ρ fx=fv at hfr;cases hfr with
 |fn _ fs cps _ _ l1 l2 r1 r2=>
 have hrun:(execOp ρ o).run P w= .ok (.enter f (fs++args.map ρ++cps)) w:=by
  obtain ⟨dst,op,type,pos,after,guard⟩:=o;simp only at hop;subst hop;simp only [execOp,resolve,hfv,Deferred.ofValue,Sem.run_bind,Sem.run_pure,Result.andThen_ok,invoke];exact zbd hb
 have hreps:Reps w I β (fs++args.map ρ++cps).toList argv:=by
  rw [<-hargs];have e1:Reps w I β fs.toList first:=.of_get l1 r1
  have e2:Reps w I β (args.map ρ).toList (args.toList.map (zq G t)):=by
   have:∀l:List Operand,(∀x∈l,x∈args.toList)->Reps w I β (l.map ρ) (l.map (zq G t)):=by
    intro l
    induction l with
    |nil=>intro _;exact .nil
    |cons x l ihl=>intro hl;exact .cons (hops x (hmem x (.inr (hl x (by simp))))) (ihl fun y hy=>hl y (by simp [hy]))
   simpa using this args.toList (fun _ h=>h)
  have e3:Reps w I β cps.toList captured:=.of_get l2 r2;simpa using (e1.append e2).append e3
 have hnx':K'[nx]?=some .dead:=by rw [ha nx (.inr ⟨_,rfl⟩)];exact hnx
 refine .inr ⟨f,_,hrun,(hc K' w I β _ hH hreps).mono ?_⟩;rintro e w' ⟨v,r',I',β',H',rfl,⟨rfl,rfl⟩,g1,g2,g3⟩;cases g1 with
 |fn _ fs' cs' _ _ k1 k2 k3 k4=>
 have hp:=k4 0 (by simp) (by simp at k2;omega);simp only [List.getElem_cons_zero] at hp;obtain ⟨β2,q1,q2⟩:=ybq (m:=m) hm hnx' hH (hph nx hm hnx') hp g2 g3 (by simp [SV.isNew]) (by simp only [SObj.under];rw [hl'];exact hcs);simp only [SV.mv,if_true] at q1;refine ⟨_,I',β2,rfl,.fn _ fs' cs' [] [.ptr nx 0] k1 k2 (fun j h=>by simp at h) (fun j h h'=>?_),q2⟩;have:j=0:=by simp at h;omega
 subst this;exact q1
end
end Go.Sh
namespace Go.Proofs.YtblpjknmhajcgaaGreatDoor
open Go Go.Sh
variable (G:List (Nat × D))
mutual
def zjh:Ex->Prop
 | .mk _ _ _ _ ps ks=>ps.length<=1000000/\ks.length<=1000000/\zet ks
def zet:List Ex->Prop
 |[]=>True
 |e::r=>zjh e/\zet r
end
theorem jm:∀{ks:List Ex},zet ks->∀k∈ks,zjh k
 |_::_,h,k,hk=>by
  unfold zet at h;rcases List.mem_cons.1 hk with rfl|hk
  ·exact h.1
  ·exact jm h.2 k hk
theorem zto:∀{a b:List Ex},a.length≠b.length->znv a b=false
 |[],[],h=>by simp at h
 |[],_::_,_=>rfl
 |_::_,[],_=>rfl
 |x::a,y::b,h=>by
  rw [znv,zto (a:=a) (b:=b) (by simpa using h),Bool.and_false]
theorem zyt (a b:List Piece) (ha:a.length<=1000000) (hb:b.length<=1000000):
  zw Tryz.prog G 146 [.imm (.isl 3 (a.map Piece.cells)),.imm (.isl 3 (b.map Piece.cells))] (sB (decide (a.map Piece.key=b.map Piece.key))):=by
 refine zc Tryz.func146 rfl (by rw [Tryz.ntmps146];simp) rfl rfl ?_;intro E hH hK;have hla:(a.map Piece.cells).length=a.length:=by simp
 have hlb:(b.map Piece.cells).length=b.length:=by simp
 (refine zf ?_;conv=>whnf)
 repeat' ((with_reducible refine way ?_ ?_)<;>(intro h;conv=>whnf))
 ·have:decide (a.map Piece.key=b.map Piece.key)=false:=by
   rw [decide_eq_false_iff_not];intro he;have:=congrArg List.length he;simp only [List.length_map] at this;omega
  rw [this] at hK;exact hK _
 have hll:a.length=b.length:=by omega
 refine zg [0,1,11,12,13] ?_;refine zo a (fun i (_:Unit)=>[(0,.imm (.isl 3 (a.map Piece.cells))),(1,.imm (.isl 3 (b.map Piece.cells))),(11,.imm (.isl 3 (a.map Piece.cells))),(12,sI (a.map Piece.cells).length),(13,sI i)]) (fun _ _=>[])
  (fun done _ _=>done.map Piece.key=(b.take done.length).map Piece.key) () (by simp) ?_ ?_
 ·rintro _ h1
  (refine zf ?_;conv=>whnf)
  repeat' ((with_reducible refine way ?_ ?_)<;>(intro h;conv=>whnf))
  all_goals try (exfalso;omega)
  rw [hll,List.take_length] at h1;rw [decide_eq_true h1] at hK;exact hK _
 ·rintro done x rest _ hda hdl h1 ih
  have hw:=zk (n:=done.length) (by omega);have hlt:done.length<b.length:=by rw [<-hll,hda];simp
  obtain ⟨y,hy⟩:∃y,b[done.length]?=some y:=⟨_,List.getElem?_eq_getElem hlt⟩;(refine zf ?_;conv=>whnf)
  repeat' ((with_reducible refine way ?_ ?_)<;>(intro h;conv=>whnf))
  all_goals try (exfalso;omega)
  (refine zu 0 mixed rfl ?_;refine zb [777] (nx:=0) ?_;conv=>whnf);refine zt rfl (by simp) rfl  (row:=x.cells) (by simp [hda]) ?_;(refine zb [777] (nx:=0) ?_;conv=>whnf);refine zt rfl (by simp) rfl  (row:=y.cells) (by simp [hy]) ?_;(refine zb [777] (nx:=0) ?_;conv=>whnf);refine yoz rfl rfl (zwj rfl rfl rfl rfl Tryz.stoodInHeld189 (by decide) (by decide) (by decide) rfl rfl rfl rfl rfl rfl Tryz.eqGuardType189) ?_;have htk:b.take (done.length+1)=b.take done.length++[y]:=by rw [List.take_add_one,hy];rfl
  by_cases he:Piece.key x=Piece.key y
  ·have:(!(decide (x.lo=y.lo)&&(decide (x.at_=y.at_)&&decide (x.slope=y.slope))))=false:=by
    simp only [Piece.key,Prod.mk.injEq] at he;simp [he]
   rw [this];(refine zb [777] (nx:=0) ?_;conv=>whnf);(refine zf ?_;conv=>whnf);rw [hw];refine yy [0,1,11,12,13] 0 (by simp [hH]) (by simp) rfl rfl (ih () ?_);rw [List.map_append,h1,List.length_append];show _=List.map Piece.key (b.take (done.length+1));rw [htk];simp [he]
  ·have:(!(decide (x.lo=y.lo)&&(decide (x.at_=y.at_)&&decide (x.slope=y.slope))))=true:=by
    simp only [Piece.key,Prod.mk.injEq] at he;simp only [Bool.not_eq_true',Bool.and_eq_false_iff,decide_eq_false_iff_not]
    by_cases h2:x.lo=y.lo
    ·by_cases h3:x.at_=y.at_
     ·exact .inr (.inr fun h4=>he ⟨h2,h3,h4⟩)
     ·exact .inr (.inl h3)
    ·exact .inl h2
   rw [this];(refine zb [777] (nx:=0) ?_;conv=>whnf);(refine zf ?_;conv=>whnf);have:decide (a.map Piece.key=b.map Piece.key)=false:=by
    rw [decide_eq_false_iff_not];intro h2
    apply he
    have h3:(a.map Piece.key)[done.length]?=some (Piece.key x):=by simp [hda]
    rw [h2,List.getElem?_map,hy] at h3;exact (Option.some.inj h3).symm
   rw [this] at hK;exact hK _
theorem yfb (a b:List Ex) (hE:∀e∈a,∀e'∈b,zw Tryz.prog G 109 [e.sv,e'.sv] (sB (zjd e e'))) (ha:a.length<=1000000) (hb:b.length<=1000000):
  zw Tryz.prog G 147 [.imm (.isl 6 (zd a)),.imm (.isl 6 (zd b)),.fn (.func 109) [] []] (sB (znv a b)):=by
 rw [zp,zp];refine zc Tryz.func147 rfl (by rw [Tryz.ntmps147];simp) rfl rfl ?_;intro E hH hK;have hla:(a.map Ex.cells).length=a.length:=by simp
 have hlb:(b.map Ex.cells).length=b.length:=by simp
 (refine zf ?_;conv=>whnf)
 repeat' ((with_reducible refine way ?_ ?_)<;>(intro h;conv=>whnf))
 ·rw [zto (by omega)] at hK
  exact hK _
 have hll:a.length=b.length:=by omega
 refine zg [1,2,15,16,17] ?_;refine zo a (fun i (_:Unit)=>[(1,.imm (.isl 6 (b.map Ex.cells))),(2,.fn (.func 109) [] []),(15,.imm (.isl 6 (a.map Ex.cells))),(16,sI (a.map Ex.cells).length),(17,sI i)]) (fun _ _=>[])
  (fun done rest _=>znv a b=znv rest (b.drop done.length)) () (by simp) ?_ ?_
 ·rintro _ h1
  (refine zf ?_;conv=>whnf)
  repeat' ((with_reducible refine way ?_ ?_)<;>(intro h;conv=>whnf))
  all_goals try (exfalso;omega)
  rw [hll,List.drop_length] at h1;rw [h1] at hK;exact hK _
 ·rintro done x rest _ hda hdl h1 ih
  have hw:=zk (n:=done.length) (by omega);have hlt:done.length<b.length:=by rw [<-hll,hda];simp
  obtain ⟨y,hy⟩:∃y,b[done.length]?=some y:=⟨_,List.getElem?_eq_getElem hlt⟩;have hym:=List.mem_of_getElem? hy;have hcall:=hE x (by rw [hda];simp) y hym;have hdr:b.drop done.length=y::b.drop (done.length+1):=by
   rw [List.drop_eq_getElem_cons hlt];rw [List.getElem?_eq_getElem hlt] at hy;rw [Option.some.inj hy]
  rw [hdr,znv] at h1;have hrx:(a.map Ex.cells)[((done.length:Nat):Int).toNat]?=some x.cells:=by simp [hda]
  have hry:(b.map Ex.cells)[((done.length:Nat):Int).toNat]?=some y.cells:=by simp [hy]
  generalize zjd x y=z at hcall h1;obtain ⟨xo,xn,xu,xd,xp,xk⟩:=x;obtain ⟨yo,yn,yu,yd,yp,yk⟩:=y;(refine zf ?_;conv=>whnf)
  repeat' ((with_reducible refine way ?_ ?_)<;>(intro h;conv=>whnf))
  all_goals try (exfalso;omega)
  refine zh rfl rfl  hrx ?_;(refine za ?_;conv=>whnf);refine zh rfl rfl  hry ?_;(refine za ?_;conv=>whnf);refine ze rfl  hcall ?_;cases z<;>((refine za ?_;conv=>whnf))
  ·rw [h1,Bool.false_and] at hK
   exact hK _
  ·rw [hw]
   refine yy [1,2,15,16,17] 0 (by simp [hH]) (by simp) rfl rfl (ih () ?_);rw [h1,Bool.true_and,List.length_append];rfl
theorem zwk:∀(N:Nat) (e e':Ex),SizeOf.sizeOf e<N->zjh e->zjh e'->zw Tryz.prog G 109 [e.sv,e'.sv] (sB (zjd e e'))
 |0,_,_,h,_,_=>by omega
 |N+1,.mk op n u den ps ks,.mk op' n' u' den' ps' ks',hN,hl,hl'=>by
  unfold zjh at hl hl';obtain ⟨l1,l2,l3⟩:=hl;obtain ⟨m1,m2,m3⟩:=hl';simp only [Ex.mk.sizeOf_spec] at hN;have hk:∀e∈ks,∀e'∈ks',zw Tryz.prog G 109 [e.sv,e'.sv] (sB (zjd e e')):=fun e he e' he'=>by
   have:=List.sizeOf_lt_of_mem he;exact zwk N e e' (by omega) (jm l3 e he) (jm m3 e' he')
  have h1:=zyt G ps ps' l1 m1;have h2:=yfb G ks ks' hk l2 m2;have hx:zjd (.mk op n u den ps ks) (.mk op' n' u' den' ps' ks')=(decide (op=op')&&decide (n=n')&&decide (u=u')&&decide (den=den')&&decide (ps.map Piece.key=ps'.map Piece.key)&&znv ks ks'):=by rw [zjd]
  rw [hx];generalize decide (ps.map Piece.key=ps'.map Piece.key)=z1 at h1;generalize znv ks ks'=z2 at h2;refine zc Tryz.func109 rfl (by rw [Tryz.ntmps109];simp) rfl rfl ?_;intro E hH hK;(refine zf ?_;conv=>whnf)
  repeat' ((with_reducible refine way ?_ ?_)<;>(intro h;conv=>whnf))
  case' refine_1.refine_1.refine_1.refine_2=>
   rename_i g1 g2 g3
   subst g1 g2 g3;rw [show (decide (op=op)&&decide (n=n)&&decide (u=u)&&decide (den=den')&&z1&&z2)=(z1&&z2) by simp [*]] at hK;refine ze rfl  h1 ?_;cases z1<;>((refine za ?_;conv=>whnf))
  case refine_1.refine_1.refine_1.refine_2.false=>exact hK _
  case' refine_1.refine_1.refine_1.refine_2.true=>
   refine ze rfl  h2 ?_;(refine za ?_;conv=>whnf)
  case refine_1.refine_1.refine_1.refine_2.true=>exact hK _
  all_goals
   rw [show (decide (op=op')&&decide (n=n')&&decide (u=u')&&decide (den=den')&&z1&&z2)=false by simp [*]] at hK;exact hK _
def eqF:SV:=.fn (.func 109) [] []
def HC (p:Ex):List SObj:=[.cells [eqF],.cells (p.cells.map SV.imm)]
theorem zho (l:List D) (n:Nat):SV.under.allUnder n (l.map SV.imm)=true:=by
 induction l with
 |nil=>rfl
 |cons a l ih=>simp [SV.under.allUnder,SV.under,ih]
theorem zig (p:Ex):(HC p).all (SObj.under 2)=true:=by
 simp only [HC,List.all_cons,List.all_nil,SObj.under,zho,Bool.and_true];rfl
theorem ybt (p e:Ex) (hp:zjh p) (he:zjh e):
  SPre Tryz.prog G 145 [e.sv,.ptr 0 0,.ptr 1 0] (HC p) (fun r H'=>r=sB (zjd e p)/\H'=HC p):=by
 have h1:=zwk G _ e p (Nat.lt_succ_self _) he hp;generalize zjd e p=z at h1 ⊢;obtain ⟨op,n,u,den,ps,ks⟩:=e;obtain ⟨op',n',u',den',ps',ks'⟩:=p;refine qg Tryz.func145 rfl (by rw [Tryz.ntmps145];simp) ?_ (zig _) ?_
 ·simp only [List.all_cons,List.all_nil,Ex.sv,SV.under,zho]
  rfl
 intro E hH hK;(refine zl ?_;conv=>whnf);refine ze rfl  h1 ?_;(refine zm ?_;conv=>whnf);exact hK _ _ (by show 2<=3;decide) rfl (zig (.mk op' n' u' den' ps' ks')) ⟨rfl,rfl⟩
theorem zvp (l:List Ex) (p:Ex) (hp:zjh p) (hl:zet l) (hz:l.length<=1000000):
  SPre Tryz.prog G 166 [.imm (.isl 6 (l.map Ex.cells)),.fn (.func 145) [] [.ptr 0 0,.ptr 1 0]] (HC p)
   (fun r H'=>(∃i:Int,r=sI i/\(0<=i ↔ l.any (fun e=>zjd e p)=true))/\H'=HC p):=by
 refine qg Tryz.func166 rfl (by rw [Tryz.ntmps166];simp) rfl (zig _) ?_;intro E hH hK;have hla:(l.map Ex.cells).length=l.length:=by simp
 (refine zf ?_;conv=>whnf);refine zg [0,1,7,8] ?_;refine Eq.mpr (congrArg (fun h=>SW E _ _ h) (show _=HC p from rfl)) ?_;refine zo l (fun i (_:Unit)=>[(0,.imm (.isl 6 (l.map Ex.cells))),(1,.fn (.func 145) [] [.ptr 0 0,.ptr 1 0]),(7,sI (l.map Ex.cells).length),(8,sI i)]) (fun _ _=>HC p)
  (fun done rest _=>∀e∈done,zjd e p=false) () (by simp) ?_ ?_
 ·rintro _ h1
  (refine zf ?_;conv=>whnf)
  repeat' ((with_reducible refine way ?_ ?_)<;>(intro h;conv=>whnf))
  all_goals try (exfalso;omega)
  refine hK _ _ (Nat.le_refl _) rfl (zig p) ⟨⟨-1,rfl,⟨fun h=>by omega,fun h=>?_⟩⟩,rfl⟩;obtain ⟨e,he,h2⟩:=List.any_eq_true.1 h;rw [h1 e he] at h2;cases h2
 ·rintro done x rest _ hda hdl h1 ih
  have hw:=zk (n:=done.length) (by omega);have hrx:(l.map Ex.cells)[((done.length:Nat):Int).toNat]?=some x.cells:=by simp [hda]
  have hxm:x∈l:=by rw [hda];simp
  have hcall:=ybt G p x hp (jm hl x hxm);have hany:zjd x p=true->l.any (fun e=>zjd e p)=true:=fun h=>List.any_eq_true.2 ⟨x,hxm,h⟩
  have hnxt:zjd x p=false->∀e∈done++[x],zjd e p=false:=fun h e he=>by
   rcases List.mem_append.1 he with he|he
   ·exact h1 e he
   ·simp at he;rw [he];exact h
  generalize zjd x p=z at hcall hany hnxt;obtain ⟨xo,xn,xu,xd,xp,xk⟩:=x;(refine zf ?_;conv=>whnf)
  repeat' ((with_reducible refine way ?_ ?_)<;>(intro h;conv=>whnf))
  all_goals try (exfalso;omega)
  refine zh rfl rfl  hrx ?_;(refine za ?_;conv=>whnf);refine xm 2 rfl rfl rfl rfl rfl rfl hcall ?_;rintro r9 H9 ⟨rfl,rfl⟩ _;refine Eq.mpr (congrArg (fun h=>SWr E _ _ _ _ h) (show _=HC p from rfl)) ?_;cases z<;>((refine za ?_;conv=>whnf))
  ·rw [hw]
   refine zg [0,1,7,8] ?_;exact ih () (hnxt rfl)
  ·refine hK _ _ (Nat.le_refl _) rfl (zig p) ⟨⟨done.length,rfl,⟨fun _=>hany rfl,fun _=>by omega⟩⟩,rfl⟩
theorem zpl (l:List Ex) (p:Ex) (hp:zjh p) (hl:zet l) (hz:l.length<=1000000):
  SPre Tryz.prog G 144 [.imm (.isl 6 (l.map Ex.cells)),.fn (.func 145) [] [.ptr 0 0,.ptr 1 0]] (HC p)
   (fun r H'=>r=sB (l.any fun e=>zjd e p)/\H'=HC p):=by
 refine qg Tryz.func144 rfl (by rw [Tryz.ntmps144];simp) rfl (zig _) ?_;intro E hH hK;(refine zf ?_;conv=>whnf);refine xm 2 rfl rfl rfl rfl rfl rfl (zvp G l p hp hl hz) ?_;rintro r9 H9 ⟨⟨i,rfl,hi⟩,rfl⟩ _;refine Eq.mpr (congrArg (fun h=>SWr E _ _ _ _ h) (show _=HC p from rfl)) ?_;(refine za ?_;conv=>whnf);refine hK _ _ (Nat.le_refl _) rfl (zig p) ⟨?_,rfl⟩;show sB (decide (0<=i))=_
 by_cases h:0<=i
 ·rw [decide_eq_true h,hi.1 h]
 ·rw [decide_eq_false h]
  cases h2:l.any (fun e=>zjd e p) with
  |false=>rfl
  |true=>exact absurd (hi.2 h2) h
theorem zje (l ps:List Ex) (hp:zet ps) (hl:zet l) (hz:l.length<=1000000) (hpz:ps.length<=1000000):
  zw Tryz.prog G 108 [.imm (ye l),.imm (ye ps),.fn (.func 109) [] []] (sB (zhc l ps)):=by
 refine zc Tryz.func108 rfl (by rw [Tryz.ntmps108];simp) rfl rfl ?_;intro E hH hK;have hla:(ps.map Ex.cells).length=ps.length:=by simp
 (refine zf ?_;conv=>whnf);refine zg [0,5,9,10,11] ?_;refine zo ps (fun i (_:Unit)=>[(0,.imm (ye l)),(5,.ptr 0 0),(9,.imm (ye ps)),(10,sI (ps.map Ex.cells).length),(11,sI i)]) (fun _ _=>[.cells [eqF]])
  (fun done rest _=>∀p∈done,l.any (fun e=>zjd e p)=true) () (by simp) ?_ ?_
 ·rintro _ h1
  (refine zf ?_;conv=>whnf)
  repeat' ((with_reducible refine way ?_ ?_)<;>(intro h;conv=>whnf))
  all_goals try (exfalso;omega)
  have:zhc l ps=true:=List.all_eq_true.2 h1;rw [this] at hK;exact hK _
 ·rintro done x rest _ hda hdl h1 ih
  have hw:=zk (n:=done.length) (by omega);have hrx:(ps.map Ex.cells)[((done.length:Nat):Int).toNat]?=some x.cells:=by simp [hda]
  have hxm:x∈ps:=by rw [hda];simp
  have hcall:=zpl G l x (jm hp x hxm) hl hz;have hno:l.any (fun e=>zjd e x)=false->zhc l ps=false:=fun h=>by
   cases h2:zhc l ps with
   |false=>rfl
   |true=>rw [List.all_eq_true.1 h2 x hxm] at h;cases h
  have hnxt:l.any (fun e=>zjd e x)=true->∀p∈done++[x],l.any (fun e=>zjd e p)=true:=fun h e he=>by
   rcases List.mem_append.1 he with he|he
   ·exact h1 e he
   ·simp at he;rw [he];exact h
  generalize l.any (fun e=>zjd e x)=z at hcall hno hnxt;obtain ⟨xo,xn,xu,xd,xp,xk⟩:=x;(refine zf ?_;conv=>whnf)
  repeat' ((with_reducible refine way ?_ ?_)<;>(intro h;conv=>whnf))
  all_goals try (exfalso;omega)
  refine zh rfl rfl  hrx ?_;(refine za ?_;conv=>whnf);refine xm 2 rfl rfl rfl rfl rfl rfl hcall ?_;rintro r9 H9 ⟨rfl,rfl⟩ _;cases z<;>((refine za ?_;conv=>whnf))
  ·rw [hno rfl] at hK
   exact hK _
  ·rw [hw]
   refine yy [0,5,9,10,11] 1 (by simp [hH]) (by show 1<=2;decide) rfl rfl (ih () (hnxt rfl))
structure BeatC (c:Codex):Prop where
 arts:c.arts.length<=1000000
 len:∀a∈c.arts,a.when_.length<=1000000
 exs:∀a∈c.arts,zet a.when_
theorem zgr (c:Codex) {i:Nat} {a:Article} (h:c.arts[i]?=some a) {op n:Int} {u:ByteArray} {den:Int} {ps:List Piece} {ks:List Ex} (hm:a.amount= .mk op n u den ps ks):
  (c.arts.map Article.cells)[i]?=some [dI a.number,dI a.line,dI a.rank,dI a.lo,dI a.hi,dI a.known,ye a.when_,zi a.unless_,dI op,dI n,dS u,dI den,.isl 3 (ps.map Piece.cells),.isl 6 (zd ks)]:=by
 rw [List.getElem?_map,h];simp [Article.cells,hm,zp,Ex.op,Ex.n,Ex.unit,Ex.den,Ex.pieces,Ex.kids]
theorem jo (a:Article):∃op n u den ps ks,a.amount= .mk op n u den ps ks:=by cases h:a.amount;exact ⟨_,_,_,_,_,_,rfl⟩
theorem zpm (c : Codex) (hc : BeatC c) (i j : Int) : zw Tryz.prog G 77 [c.sv, sI i, sI j] (sB (qk c i j)) := by
  have hal : (c.arts.map Article.cells).length = c.arts.length := by simp
  have hz := hc.arts
  refine zc Tryz.func77 rfl (by rw [Tryz.ntmps77]; simp) rfl rfl ?_; intro E hH hK
  rw [show c.sv = .agg [.imm (zj c.facts), .imm (zj c.lines), .imm (yl c.arts)] from rfl]
  by_cases hin : 0 <= i /\ 0 <= j /\ i < c.arts.length /\ j < c.arts.length
  · obtain ⟨hi0, hj0, hi1, hj1⟩ := hin
    obtain ⟨a, ha⟩ : ∃ a, c.arts[i.toNat]? = some a := ⟨_, List.getElem?_eq_getElem (by omega)⟩
    obtain ⟨b, hb⟩ : ∃ b, c.arts[j.toNat]? = some b := ⟨_, List.getElem?_eq_getElem (by omega)⟩
    have hai : qj c i = some a := by unfold qj; rw [if_neg (by omega)]; exact ha
    have hbj : qj c j = some b := by unfold qj; rw [if_neg (by omega)]; exact hb
    have hbe : qk c i j = (if a.line ≠ b.line \/ a.number = b.number then false
      else if a.rank ≠ b.rank then decide (b.rank < a.rank)
      else if zhc a.when_ b.when_ ≠ zhc b.when_ a.when_ then zhc a.when_ b.when_
      else decide (b.known < a.known)) := by unfold qk; rw [hai, hbj]
    have ham := List.mem_of_getElem? ha
    have hbm := List.mem_of_getElem? hb
    have c1 := zje G a.when_ b.when_ (hc.exs b hbm) (hc.exs a ham) (hc.len a ham) (hc.len b hbm)
    have c2 := zje G b.when_ a.when_ (hc.exs a ham) (hc.exs b hbm) (hc.len b hbm) (hc.len a ham)
    rw [hbe] at hK
    generalize zhc a.when_ b.when_ = z1 at c1 hK
    generalize zhc b.when_ a.when_ = z2 at c2 hK
    obtain ⟨op, n, u, den, ps, ks, hamt⟩ := jo a
    obtain ⟨op', n', u', den', ps', ks', hbmt⟩ := jo b
    have hra := zgr c ha hamt
    have hrb := zgr c hb hbmt
    (refine zf ?_; conv => whnf)
    repeat' ((with_reducible refine way ?_ ?_) <;> (intro h; conv => whnf))
    all_goals try (exfalso; omega)
    refine zg [1, 2, 3] ?_
    change SW E _ [(1, sI i), (2, sI j), (3, .ptr 0 0)] [.cells [.imm (zj c.facts), .imm (zj c.lines), .imm (yl c.arts)]]
    (refine zu 2 mixed rfl ?_; refine zb [777] (nx := 1) ?_; conv => whnf)
    refine zt (row := [dI a.number, dI a.line, dI a.rank, dI a.lo, dI a.hi, dI a.known, ye a.when_, zi a.unless_, dI op, dI n, dS u, dI den, .isl 3 (ps.map Piece.cells), .isl 6 (zd ks)]) rfl (show 1 <= 3 by decide) (Int.toNat_of_nonneg hi0).symm hra ?_
    (refine zb [777] (nx := 1) ?_; conv => whnf)
    refine zt (row := [dI b.number, dI b.line, dI b.rank, dI b.lo, dI b.hi, dI b.known, ye b.when_, zi b.unless_, dI op', dI n', dS u', dI den', .isl 3 (ps'.map Piece.cells), .isl 6 (zd ks')]) rfl (show 1 <= 3 by decide) (Int.toNat_of_nonneg hj0).symm hrb ?_
    (refine zb [777] (nx := 1) ?_; conv => whnf)
    refine zg [7, 8] ?_
    change SW E _ [(7, .ptr 1 0), (8, .ptr 2 0)] [.cells [.imm (zj c.facts), .imm (zj c.lines), .imm (yl c.arts)], .cells [.imm (dI a.number), .imm (dI a.line), .imm (dI a.rank), .imm (dI a.lo), .imm (dI a.hi), .imm (dI a.known), .imm (ye a.when_), .imm (zi a.unless_), .imm (dI op), .imm (dI n), .imm (dS u), .imm (dI den), .imm (.isl 3 (ps.map Piece.cells)), .imm (.isl 6 (zd ks))],
      .cells [.imm (dI b.number), .imm (dI b.line), .imm (dI b.rank), .imm (dI b.lo), .imm (dI b.hi), .imm (dI b.known), .imm (ye b.when_), .imm (zi b.unless_), .imm (dI op'), .imm (dI n'), .imm (dS u'), .imm (dI den'), .imm (.isl 3 (ps'.map Piece.cells)), .imm (.isl 6 (zd ks'))]]
    (refine zf ?_; conv => whnf)
    repeat' ((with_reducible refine way ?_ ?_) <;> (intro h; conv => whnf))
    · rw [if_pos (.inr h)] at hK
      exact hK _
    · rename_i g1 g2
      rw [if_neg (fun x => x.elim (fun x => x g1) g2), if_pos h] at hK
      exact hK _
    · rename_i g1 g2
      rw [if_neg (fun x => x.elim (fun x => x g1) g2), if_neg (fun x => x h)] at hK
      refine ze rfl  c1 ?_
      (refine za ?_; conv => whnf)
      refine ze rfl  c2 ?_
      (refine za ?_; conv => whnf)
      cases z1 <;> cases z2 <;> (conv => whnf) <;> exact hK _
    · rw [if_pos (.inl h)] at hK
      exact hK _
  · have hbe : qk c i j = false := by
      have : qj c i = none \/ qj c j = none := by
        unfold qj
        by_cases h1 : i < 0
        · left; rw [if_pos h1]
        · by_cases h2 : j < 0
          · right; rw [if_pos h2]
          · rw [if_neg h1, if_neg h2]
            by_cases h3 : i < c.arts.length
            · right; rw [List.getElem?_eq_none]; omega
            · left; rw [List.getElem?_eq_none]; omega
      unfold qk
      rcases this with h | h
      · rw [h]
      · rw [h]; split <;> first | rfl | simp_all
    rw [hbe] at hK
    (refine zf ?_; conv => whnf)
    repeat' ((with_reducible refine way ?_ ?_) <;> (intro h; conv => whnf))
    all_goals try (exfalso; omega)
    all_goals exact hK _
theorem zlb (b:Bool):zw Tryz.prog G 139 [.imm (.val (.bool b))] (.imm (iv (zmf b))):=by
 cases b
 ·refine zc Tryz.func139 rfl (by rw [Tryz.ntmps139];simp) rfl rfl ?_;intro E hH hK
  (refine zl ?_;conv=>whnf);exact hK _
 ·refine zc Tryz.func139 rfl (by rw [Tryz.ntmps139];simp) rfl rfl ?_;intro E hH hK
  (refine zl ?_;conv=>whnf);exact hK _
theorem zad {P:Program} {G:List (Nat × D)} {fn:Func} {rd:Bool} {E:En P G fn rd} {t:List (Nat × SV)} {K:List SObj} {k:List Item} {m:Nat} {all:Array Oper} {rest:List Oper} {done:List Eff} {o:Oper}
  {ty b off:Nat} {a:Operand} {cs:List SV} {v:SV} (hop:o.op= .load ty a) (hw:yq all t o.guard=some true) (hd:yv fn.ntmps o.dst=true) (hm:m<=K.length) (ha:zq G t a= .ptr b off) (hb:K[b]?=some (.cells cs))
  (hv:znl P ty cs off=some v) (h:SWe E m all rest k (wz t o.dst v) K (done++[⟨v,[b],none⟩])):SWe E m all (o::rest) k t K done:=by
 refine qp ⟨v,[b],none⟩ hw hd hm (fun K' _ hK=>?_) h;have hb':K'[b]?=some (.cells cs):=by rw [hK b (.inl (by simp))];exact hb
 rw [hop];have:jl P ty K' (.ptr b off)=some v:=by
  unfold jl;simp only [hb',hv]
 simp only [sop,ha,this];rfl
abbrev bvS (b:Bool):SV:=.imm (.val (.bool b))
abbrev ivS (n:Int):SV:=.imm (.val (.int .i64 n))
def WH (X : Nat -> SObj) (s : St) : List SObj :=
  [X 0, X 1, X 2, X 3, X 4, X 5, X 6, X 7, X 8, X 9, X 10, X 11, X 12, X 13, X 14, X 15, X 16, X 17, X 18, X 19, X 20, .cells (s.ch.map bvS), .cells (s.vs.map ivS),
   .cells [ivS s.p.1, ivS s.p.2.1, ivS s.p.2.2.1, ivS s.p.2.2.2.1, ivS s.p.2.2.2.2, .osl 21 0 s.ch.length, .osl 22 0 s.vs.length]]
theorem zbm {α:Type} {f:α->SV} {m:Nat} (hf:∀a,(f a).under m=true):∀l:List α,SV.under.allUnder m (l.map f)=true
 |[]=>rfl
 |a::l=>by simp only [List.map_cons,SV.under.allUnder,hf a,zbm hf l,Bool.and_self]
theorem ybu (m:Nat) (cs:List SV):(SObj.cells cs).under m=SV.under.allUnder m cs:=rfl
theorem zdd {X:Nat->SObj} (hX:∀i,(X i).under 24=true) (s:St):(WH X s).all (SObj.under 24)=true:=by
 simp only [WH,List.all_cons,hX,List.all_nil,Bool.true_and,Bool.and_true,ybu,zbm (f:=bvS) (m:=24) (fun _=>rfl),zbm (f:=ivS) (m:=24) (fun _=>rfl)];rfl
theorem yvj {α:Type} {f:α->SV} {l:List α} {n:Nat} {d:α} {P:Program} {ty:TypeId} (h:n<l.length) (hp:yww P ty=some false):znl P ty (l.map f) (0+n*1)=some (f (l.getD n d)):=by
 simp only [znl,hp,Nat.zero_add,Nat.mul_one,List.getElem?_map];rw [List.getElem?_eq_getElem h,List.getD_eq_getElem?_getD,List.getElem?_eq_getElem h];rfl
theorem zde {P:Program} {G:List (Nat × D)} {fn:Func} {f:FuncId} {args:List SV} {c:Code} {X:Nat->SObj} {s:St} {K:SV->List SObj->Prop} (hX:∀i,(X i).under 24=true)
  (hfn:P.funcs[f]?=some fn) (hb:fn.body=some c) (hn:args.length<=fn.ntmps) (hargs:args.all (SV.under 24)=true)
  (h:∀E:En P G fn false,E.H.length=24->(∀r Y s',r.under 24=true->K r (WH X s')->E.K r (WH X s'++Y))->SW E [.code c] (zyd 0 args) (WH X s)):SPre P G f args (WH X s) K:=by
 refine qg hfn hb hn hargs (zdd hX s) (fun E hH hK=>h E hH (fun r Y s' hr hk=>?_));have e:(WH X s'++Y).take 24=WH X s':=rfl;exact hK r _ (by simp [WH]) hr (by show ((WH X s'++Y).take 24).all (SObj.under 24)=true;rw [e];exact zdd hX s') (by show K r ((WH X s'++Y).take 24);rw [e];exact hk)
theorem zpn {X:Nat->SObj} (hX:∀i,(X i).under 24=true) (oo on:Int) (s:St) (hl:s.ch.length=s.vs.length) (ho:Opd.ok s.vs.length ⟨oo,on⟩):
  SPre Tryz.prog G 138 [.agg [ivS oo,ivS on],.ptr 23 0] (WH X s) (fun r H'=>r= .tup [ivS (Opd.val ⟨oo,on⟩ s).1,bvS (Opd.val ⟨oo,on⟩ s).2]/\H'=WH X s):=by
 refine zde hX Tryz.func138 rfl (by rw [Tryz.ntmps138];simp) rfl ?_;intro E hH hK;unfold WH;obtain ⟨ho1,ho2⟩:=ho;simp only at ho1 ho2;(refine zf ?_;conv=>whnf)
 repeat' ((with_reducible refine way ?_ ?_)<;>(intro h;conv=>whnf))
 ·have hb:=ho1 (by assumption)
  (refine zu 0 mixed rfl ?_;refine zb [777,17,25] (nx:=25) ?_;conv=>whnf);refine zju (i:=on.toNat) rfl rfl rfl rfl rfl rfl rfl (by simp [yw]) (by omega) (by omega) ?_;(refine zb [777,17,25] (nx:=25) ?_;conv=>whnf);refine zad (v:=ivS (s.vs.getD on.toNat 0)) rfl rfl rfl (by simp [yw]) rfl rfl (yvj (f:=ivS) (by omega) rfl) ?_;(refine zb [777,17,25] (nx:=25) ?_;conv=>whnf);refine zju (i:=on.toNat) rfl rfl rfl rfl rfl rfl rfl (by simp [yw]) (by omega) (by omega) ?_;(refine zb [777,17,25] (nx:=25) ?_;conv=>whnf);refine zad (v:=bvS (s.ch.getD on.toNat false)) rfl rfl rfl (by simp [yw]) rfl rfl (yvj (f:=bvS) (by omega) rfl) ?_;(refine zb [777] (nx:=25) ?_;conv=>whnf);(refine zf ?_;conv=>whnf);have e:Opd.val ⟨oo,on⟩ s=(s.vs.getD on.toNat 0,s.ch.getD on.toNat false):=by simp [Opd.val, *]
  exact hK (.tup [ivS (s.vs.getD on.toNat 0),bvS (s.ch.getD on.toNat false)]) [_] s rfl ⟨by rw [e],rfl⟩
 ·have hb:=ho2 (by assumption)
  have h5:on=0\/on=1\/on=2\/on=3\/on=4:=by omega
  rcases h5 with rfl|rfl|rfl|rfl|rfl<;>(refine zu 0 mixed rfl ?_;refine zb [777] (nx:=25) ?_;conv=>whnf)<;>((refine zf ?_;conv=>whnf))
  ·exact hK (.tup [ivS s.p.1,bvS true]) [_] s rfl ⟨by simp [Opd.val,St.part, *],rfl⟩
  ·exact hK (.tup [ivS s.p.2.1,bvS true]) [_] s rfl ⟨by simp [Opd.val,St.part, *],rfl⟩
  ·exact hK (.tup [ivS s.p.2.2.1,bvS true]) [_] s rfl ⟨by simp [Opd.val,St.part, *],rfl⟩
  ·exact hK (.tup [ivS s.p.2.2.2.1,bvS true]) [_] s rfl ⟨by simp [Opd.val,St.part, *],rfl⟩
  ·exact hK (.tup [ivS s.p.2.2.2.2,bvS true]) [_] s rfl ⟨by simp [Opd.val,St.part, *],rfl⟩
 ·exact hK (.tup [ivS on,bvS true]) [_] s rfl ⟨by simp [Opd.val, *],rfl⟩
section
variable {P:Program} {G:List (Nat × D)} {fn:Func} {rd:Bool} {E:En P G fn rd} {t:List (Nat × SV)} {H:List SObj} {k:List Item} {all:Array Oper} {rest:List Oper} {o:Oper}
theorem Rep.aggs {w:World} {I:Imm} {β:List Bnd} {v:Value} {ds:List D} (h:Rep w I β v (.imm (.agg ds))):Rep w I β v (.agg (ds.map .imm)):=by
 cases h with|imm h=>
 cases h with|agg vs _ h1 h2=>
 refine .agg vs _ (by simp [h1]) (fun j hj hj'=>?_);simp only [List.getElem_map];exact .imm (h2 j (by simpa using hj) hj')
theorem ypg {f:FuncId} {ds:List D} {args:List SV} {K:SV->List SObj->Prop} (h:SCall P G f (.agg (ds.map .imm)::args) H K):SCall P G f (.imm (.agg ds)::args) H K:=by
 intro w I β vs hH hr;refine h w I β vs hH ⟨by simpa using hr.len,fun j v s hv hs=>?_⟩;cases j with
 |zero=>
  simp only [List.getElem?_cons_zero,Option.some.injEq] at hs;subst hs;exact Rep.aggs (hr.rep 0 v _ hv rfl)
 |succ j=>exact hr.rep (j+1) v s hv hs
theorem zih (n:Nat) {rx:Operand} {name:String} {args:Array Operand} {tys:Array TypeId} {ty:TypeId} {ds:List D} {f:FuncId} {K:SV->List SObj->Prop} (hop:o.op= .call ⟨.invoke rx name,args,tys⟩)
  (hw:yq all t o.guard=some true) (hd:yv fn.ntmps o.dst=true) (hx:zq G t rx= .imm (.iface ty (.agg ds))) (hm:yib P ty name=some f) (hb:ju P f=true) {argv:List SV}
  (hargs: .agg (ds.map .imm)::args.toList.map (zq G t)=argv) (hc:SPre P G f argv (H.take n) K) (h:∀r H1,K r H1->H1.length=(H.take n).length->SWr E all rest k (wz t o.dst r) (H1++H.drop n)):
  SWr E all (o::rest) k t H:=by
 refine yla hop hw hd (by rw [hx];rfl) hm hb rfl ?_;refine ypg ?_;rw [hargs];have:=hc (H.drop n);rw [List.take_append_drop] at this;refine this.mono (fun r H' ⟨H1,h1,h2,h3⟩=>?_);subst h3;refine ⟨?_,h r H1 h1 h2⟩;simp only [List.length_take,List.length_append,List.length_drop] at h2 ⊢;omega
end
def Cond.fn:Cond->Nat
 | .none=>0
 | .plain _=>197
 | .cmp _ _ _=>100
 | .neg _=>198
 | .conn _ _ _=>199
def Cond.cells:Cond->List SV
 | .none=>[]
 | .plain o=>[ivS o.op,ivS o.n]
 | .cmp op l r=>[ivS op,ivS l.op,ivS l.n,ivS r.op,ivS r.n]
 | .neg c=>[.imm c.d]
 | .conn d l r=>[ivS d,.imm l.d,.imm r.d]
def yli (X:Nat->SObj) (s:St) (c:Cond):Prop:=SPre Tryz.prog G c.fn [.agg c.cells,.ptr 23 0] (WH X s) (fun r H'=>r=ivS (c.dec s)/\H'=WH X s)
theorem zlc {fn:Func} {rd:Bool} {E:En Tryz.prog G fn rd} {t:List (Nat × SV)} {H:List SObj} {k:List Item} {all:Array Oper} {rest:List Oper} {o:Oper} {rx:Operand} {args:Array Operand} {tys:Array TypeId}
  {X:Nat->SObj} {s:St} {c:Cond} {n:Nat} (hc:c.ok n) (hP:yli G X s c) (hop:o.op= .call ⟨.invoke rx "wageoffice/defeat.decide",args,tys⟩) (hw:yq all t o.guard=some true) (hd:yv fn.ntmps o.dst=true)
  (hx:zq G t rx= .imm c.d) (ha:args.toList.map (zq G t)=[.ptr 23 0]) (hH:H.take 24=WH X s) (h:SWr E all rest k (wz t o.dst (ivS (c.dec s))) H):SWr E all (o::rest) k t H:=by
 have fin:∀r H1,(r=ivS (c.dec s)/\H1=WH X s)->H1.length=(H.take 24).length->SWr E all rest k (wz t o.dst r) (H1++H.drop 24):=by
  intro r H1 h1 _;obtain ⟨rfl,rfl⟩:=h1;rw [<-hH,List.take_append_drop];exact h
 cases c with
 |none=>exact hc.elim
 |plain q=>exact zih 24 hop hw hd hx (by kernel_rfl) rfl (by rw [ha]) (by rw [hH];exact hP) fin
 |cmp op l r=>exact zih 24 hop hw hd hx (by kernel_rfl) rfl (by rw [ha]) (by rw [hH];exact hP) fin
 |neg q=>exact zih 24 hop hw hd hx (by kernel_rfl) rfl (by rw [ha]) (by rw [hH];exact hP) fin
 |conn d l r=>exact zih 24 hop hw hd hx (by kernel_rfl) rfl (by rw [ha]) (by rw [hH];exact hP) fin
theorem yph {X:Nat->SObj} (hX:∀i,(X i).under 24=true) (q:Opd) (s:St) (hl:s.ch.length=s.vs.length) (ho:q.ok s.vs.length):yli G X s (.plain q):=by
 unfold yli;refine zde hX Tryz.func197 rfl (by rw [Tryz.ntmps197];simp) rfl ?_;intro E hH hK;(refine zf ?_;conv=>whnf);refine xm 24 rfl rfl rfl rfl rfl rfl (zpn G hX q.op q.n s hl ho) ?_;intro r H1 hr _;obtain ⟨rfl,rfl⟩:=hr;(refine za ?_;conv=>whnf)
 repeat' ((with_reducible refine way ?_ ?_)<;>(intro h;conv=>whnf))
 ·exact hK (ivS 2) [_] s rfl ⟨by simp [Cond.dec, *],rfl⟩
 ·refine ze rfl  (zlb G _) ?_
  (refine za ?_;conv=>whnf);exact hK (ivS _) [_] s rfl ⟨by simp [Cond.dec, *],rfl⟩
theorem yvk {X:Nat->SObj} (hX:∀i,(X i).under 24=true) (op:Int) (l r:Opd) (s:St) (hl:s.ch.length=s.vs.length) (h1:l.ok s.vs.length) (h2:r.ok s.vs.length):yli G X s (.cmp op l r):=by
 unfold yli;refine zde hX Tryz.func100 rfl (by rw [Tryz.ntmps100];simp) rfl ?_;intro E hH hK;(refine zf ?_;conv=>whnf);refine xm 24 rfl rfl rfl rfl rfl rfl (zpn G hX l.op l.n s hl h1) ?_;intro r1 H1 hr _;obtain ⟨rfl,rfl⟩:=hr;(refine za ?_;conv=>whnf);refine xm 24 rfl rfl rfl rfl rfl rfl (zpn G hX r.op r.n s hl h2) ?_;intro r2 H2 hr _;obtain ⟨rfl,rfl⟩:=hr;have e:Cond.dec s (.cmp op l r)=if (l.val s).2&&(r.val s).2 then zmf (zrr op (l.val s).1 (r.val s).1) else 2:=rfl
 rw [e] at hK;change ∀(r_1:SV) (Y:List SObj) (s':St),r_1.under 24=true->(r_1=ivS (if (Opd.val ⟨l.op,l.n⟩ s).2&&(Opd.val ⟨r.op,r.n⟩ s).2 then zmf (zrr op (Opd.val ⟨l.op,l.n⟩ s).1 (Opd.val ⟨r.op,r.n⟩ s).1) else 2)/\WH X s'=WH X s)->_ at hK;generalize Opd.val ⟨l.op,l.n⟩ s=a at hK ⊢;generalize Opd.val ⟨r.op,r.n⟩ s=b at hK ⊢;obtain ⟨a,ka⟩:=a;obtain ⟨b,kb⟩:=b;cases ka
 ·(refine za ?_;conv=>whnf)
  exact hK (ivS 2) [_] s rfl ⟨rfl,rfl⟩
 cases kb
 ·(refine za ?_;conv=>whnf)
  exact hK (ivS 2) [_] s rfl ⟨rfl,rfl⟩
 (refine za ?_;conv=>whnf)
 repeat' ((with_reducible refine way ?_ ?_)<;>(intro h;conv=>whnf))
 ·refine ze rfl  (zlb G _) ?_
  (refine za ?_;conv=>whnf);exact hK (ivS _) [_] s rfl ⟨by simp [zrr, *],rfl⟩
 ·refine ze rfl  (zlb G _) ?_
  (refine za ?_;conv=>whnf);exact hK (ivS _) [_] s rfl ⟨by simp [zrr, *],rfl⟩
 ·refine ze rfl  (zlb G _) ?_
  (refine za ?_;conv=>whnf);exact hK (ivS _) [_] s rfl ⟨by simp [zrr, *],rfl⟩
theorem yvl {X:Nat->SObj} (hX:∀i,(X i).under 24=true) (c:Cond) (s:St) {n:Nat} (hc:c.ok n) (hP:yli G X s c):yli G X s (.neg c):=by
 unfold yli;refine zde hX Tryz.func198 rfl (by rw [Tryz.ntmps198];simp) rfl ?_;intro E hH hK;(refine qs [777,6] 1000 ?_;conv=>whnf);refine wt (v:=.imm c.d) rfl rfl rfl rfl rfl rfl ?_;(refine za ?_;conv=>whnf);refine zlc G hc hP rfl rfl rfl rfl (by rfl) (by rfl) ?_;have e:Cond.dec s (.neg c)=if c.dec s=0 then 1 else if c.dec s=1 then 0 else 2:=rfl
 rw [e] at hK;(refine za ?_;conv=>whnf)
 repeat' ((with_reducible refine way ?_ ?_)<;>(intro h;conv=>whnf))
 ·exact hK (ivS 1) [_] s rfl ⟨by simp [*],rfl⟩
 ·exact hK (ivS 0) [_] s rfl ⟨by simp [*],rfl⟩
 ·exact hK (ivS 2) [_] s rfl ⟨by simp [*],rfl⟩
theorem ysz {X:Nat->SObj} (hX:∀i,(X i).under 24=true) (d:Int) (l r:Cond) (s:St) {n:Nat} (hl:l.ok n) (hr:r.ok n) (hP:yli G X s l) (hQ:yli G X s r):yli G X s (.conn d l r):=by
 unfold yli;refine zde hX Tryz.func199 rfl (by rw [Tryz.ntmps199];simp) rfl ?_;intro E hH hK;(refine qs [777,8] 1000 ?_;conv=>whnf);refine wt (v:=.imm l.d) rfl rfl rfl rfl rfl rfl ?_;(refine za ?_;conv=>whnf);refine zlc G hl hP rfl rfl rfl rfl (by rfl) (by rfl) ?_;have e:Cond.dec s (.conn d l r)=if l.dec s=d then l.dec s else if r.dec s=d\/l.dec s≠2 then r.dec s else 2:=rfl
 rw [e] at hK;(refine we [777,17] 1000 ?_;conv=>whnf)
 repeat' ((with_reducible refine way ?_ ?_)<;>(intro h;conv=>whnf))
 ·exact hK (ivS (l.dec s)) [_] s rfl ⟨by simp [*],rfl⟩
 ·refine wt (v:=.imm r.d) rfl rfl rfl rfl rfl rfl ?_
  (refine za ?_;conv=>whnf);refine zlc G hr hQ rfl rfl rfl rfl (by rfl) (by rfl) ?_;(refine za ?_;conv=>whnf)
  repeat' ((with_reducible refine way ?_ ?_)<;>(intro h;conv=>whnf))
  all_goals first|exact hK (ivS (r.dec s)) [_] s rfl ⟨by simp [*],rfl⟩|exact hK (ivS 2) [_] s rfl ⟨by simp [*],rfl⟩|exact hK (ivS 2) [_] s rfl ⟨by simp [*];omega,rfl⟩
theorem zoa {X:Nat->SObj} (hX:∀i,(X i).under 24=true) (s:St) (hl:s.ch.length=s.vs.length):∀c:Cond,c.ok s.vs.length->yli G X s c
 | .none,h=>h.elim
 | .plain q,h=>yph G hX q s hl h
 | .cmp op l r,h=>yvk G hX op l r s hl h.1 h.2
 | .neg c,h=>yvl G hX c s h (zoa hX s hl c h)
 | .conn d l r,h=>ysz G hX d l r s h.1 h.2 (zoa hX s hl l h.1) (zoa hX s hl r h.2)
def Cond.row:Cond->List D
 | .cmp op l r=>[iv op,iv l.op,iv l.n,iv r.op,iv r.n]
 |_=>[iv 0,iv 0,iv 0,iv 0,iv 0]
def yj (c : Codex) (vers : List Int) (s : Sr) : List SV :=
  [.imm (zj c.facts), .imm (zj c.lines), .imm (yl c.arts), .imm (zi vers), .asl 15 1 (s.conds.map fun c => [c.d]), .asl 16 5 (s.atoms.map Cond.row),
   sB (s.dates.getD 0 false), sB (s.dates.getD 1 false), sB (s.dates.getD 2 false), sB (s.dates.getD 3 false), sB (s.dates.getD 4 false), .map 1]
def XS (Y:Nat->SObj) (cs:List SV) (i:Nat):SObj:=if i=2 then .cells cs else Y i
theorem zfi {Y:Nat->SObj} (hY:∀i,(Y i).under 24=true) (c:Codex) (vers:List Int) (s:Sr) (i:Nat):(XS Y (yj c vers s) i).under 24=true:=by
 unfold XS;split
 ·rfl
 ·exact hY i
theorem zjy {Y:Nat->SObj} (hY:∀i,(Y i).under 24=true) (c:Codex) (vers:List Int) (q:Sr) (s:St) (hl:s.ch.length=s.vs.length) (hc:∀x∈q.conds,x.ok s.vs.length) (hsz:q.conds.length<=1073741824):
  SPre Tryz.prog G 69 [.ptr 2 0,.ptr 23 0] (WH (XS Y (yj c vers q)) s) (fun r H'=>r=ivS (zbp q.conds s)/\H'=WH (XS Y (yj c vers q)) s):=by
 have hX:=zfi hY c vers q;refine zde hX Tryz.func69 rfl (by rw [Tryz.ntmps69];simp) rfl ?_;intro E hH hK;(refine zf ?_;conv=>whnf);refine zg [0,1,5,11,12,13] ?_;refine zo q.conds (fun i (r:Int)=>[(0,.ptr 2 0),(1,.ptr 23 0),(5,ivS r),(11,.asl 15 1 (q.conds.map fun c=>[c.d])),(12,ivS (q.conds.map fun c:Cond=>[c.d]).length),(13,ivS i)])
  (fun _ _=>WH (XS Y (yj c vers q)) s) (fun _ rest r=>zbw s q.conds 1=zbw s rest r) 1 rfl ?_ ?_
 ·intro r h1
  simp only [zbw] at h1;have hll:(q.conds.map fun c:Cond=>[c.d]).length=q.conds.length:=by simp
  (refine zf ?_;conv=>whnf)
  repeat' ((with_reducible refine way ?_ ?_)<;>(intro h;conv=>whnf))
  all_goals try (exfalso;omega)
  exact hK (ivS r) [] s rfl ⟨by rw [zbp,h1],rfl⟩
 ·intro done x rest r ha hlen h1 ih
  have hll:(q.conds.map fun c:Cond=>[c.d]).length=q.conds.length:=by simp
  have hw:=zk (n:=done.length) (by omega);simp only [zbw] at h1;have hx:=hc x (by rw [ha];simp);have hrow:(q.conds.map fun c:Cond=>[c.d])[((done.length:Nat):Int).toNat]?=some [x.d]:=by simp [ha]
  have hdx:=zoa G hX s hl x hx;generalize hdv:x.dec s=dv at h1;rcases x with _|o|⟨op,l,r'⟩|c'|⟨d,l,r'⟩
  ·exact hx.elim
  all_goals
   (refine zf ?_;conv=>whnf)
   repeat' ((with_reducible refine way ?_ ?_)<;>(intro h;conv=>whnf))
   all_goals try (exfalso;omega)
   refine zh rfl rfl  hrow ?_;(refine za ?_;conv=>whnf);refine zlc G hx hdx rfl rfl rfl rfl (by rfl) (by rfl) ?_;rw [hdv];(refine za ?_;conv=>whnf)
   repeat' ((with_reducible refine way ?_ ?_)<;>(intro h;conv=>whnf))
   ·exact hK (ivS 0) [] s rfl ⟨by rw [zbp,h1,if_pos (by assumption)],rfl⟩
   ·rw [hw]
    exact yy [0,1,5,11,12,13] 24 (by omega) (by simp [WH]) rfl (zdd hX s) (ih 2 (by rw [h1,if_neg (by assumption),if_pos (by assumption)]))
   ·rw [hw]
    exact yy [0,1,5,11,12,13] 24 (by omega) (by simp [WH]) rfl (zdd hX s) (ih r (by rw [h1,if_neg (by assumption),if_neg (by assumption)]))
theorem zld (d:Int):zw Tryz.prog G 136 [sI d] (sB (decide (0<=d)&&decide (d<=36524))):=by
 refine zc Tryz.func136 rfl (by rw [Tryz.ntmps136];simp) rfl rfl ?_;intro E hH hK;(refine zl ?_;conv=>whnf)
 repeat' ((with_reducible refine way ?_ ?_)<;>(intro h;conv=>whnf))
 all_goals exact kB hK (by simp [*])
theorem ybv (d:Int):zw Tryz.prog G 99 [sI d] (sI (zaj d)):=by
 by_cases hd:0<=d/\d<=36524
 ·refine zc Tryz.func99 rfl (by rw [Tryz.ntmps99];simp) rfl rfl ?_;intro E hH hK
  (refine zl ?_;conv=>whnf);refine ze rfl  (zld G d) ?_;rw [show (decide (0<=d)&&decide (d<=36524))=true by simp [hd]];(refine zm ?_;conv=>whnf);refine kI hK ?_;rw [zaj,if_pos hd,yz (c:=d+5) (by omega) (by omega),Int.tmod_eq_emod_of_nonneg (by omega),yz (by omega) (by omega)]
 ·refine zc Tryz.func99 rfl (by rw [Tryz.ntmps99];simp) rfl rfl ?_;intro E hH hK
  (refine zl ?_;conv=>whnf);refine ze rfl  (zld G d) ?_;rw [show (decide (0<=d)&&decide (d<=36524))=false by simp;omega];(refine zm ?_;conv=>whnf);exact kI hK (by rw [zaj,if_neg hd])
abbrev yuh (r:Int × Int × Int):SV:=.tup [sI r.1,sI r.2.1,sI r.2.2]
theorem yfc (y m:Nat) (hm:m<12) (hy:y<=99):zw Tryz.prog G0 137 [sI (2000+(y:Int)),sI (m:Int)] (sI (lenOf (12*y+m))):=by
 have h:=zyp (2000+(y:Int)) (m:Int) (by omega) (by omega);have e:lenOf (12*y+m)=zjv (2000+(y:Int)) ((m:Int)+1):=by
  unfold lenOf;rw [show (12*y+m) / 12=y by omega,show (12*y+m) % 12=m by omega]
 rw [e];exact h
theorem ypi (d:Int):zw Tryz.prog G0 98 [sI d] (yuh (wn d)):=by
 by_cases hd:0<=d/\d<=36524
 case neg=>
  refine zc Tryz.func98 rfl (by rw [Tryz.ntmps98];simp) rfl rfl ?_;intro E hH hK;(refine zl ?_;conv=>whnf);refine yif ?_;(refine zl ?_;conv=>whnf);refine ze rfl  (zld G0 d) ?_;rw [show (decide (0<=d)&&decide (d<=36524))=false by simp;omega];rw [wn,if_neg hd] at hK;(refine zm ?_;conv=>whnf);exact hK _
 refine zc Tryz.func98 rfl (by rw [Tryz.ntmps98];simp) rfl rfl ?_;intro E hH hK;(refine zl ?_;conv=>whnf);refine yif ?_;(refine zl ?_;conv=>whnf);refine ze rfl  (zld G0 d) ?_;rw [show (decide (0<=d)&&decide (d<=36524))=true by simp [hd]];(refine zm ?_;conv=>whnf);obtain ⟨q,hq⟩:∃q:Nat,d / 1461=q:=⟨(d / 1461).toNat,by omega⟩;have hq25:q<=25:=by omega
 have e5:IntKind.i64.wrap (2000+IntKind.i64.wrap (IntKind.i64.wrap (d.tdiv 1461)*4))=2000+((4*q:Nat):Int):=by
  rw [Int.tdiv_eq_ediv_of_nonneg hd.1,hq,yz (c:=(q:Int)) (by omega) (by omega),yz (c:=(q:Int)*4) (by omega) (by omega),yz (by omega) (by omega)];omega
 have e6:d.tmod 1461=d-zy (12*(4*q)):=by
  rw [Int.tmod_eq_emod_of_nonneg hd.1,show 12*(4*q)=48*q by omega,zqu q hq25];omega
 rw [e5,e6];refine ysd ?_;(refine zl ?_;conv=>whnf);refine zg [5,6,7] ?_;refine xc (σ:=Nat) (fun y=>[(5,sI (2000+(y:Int))),(6,sI (d-zy (12*y))),(7,sI 0)]) (fun _=>[]) (fun y=>y<=99/\zy (12*y)<=d) (fun y=>100-y) ?_ (4*q) ⟨by omega,by rw [show 12*(4*q)=48*q by omega,zqu q hq25];omega⟩;intro y ⟨hy,hle⟩ ih;(refine zl ?_;conv=>whnf);refine zg [5,6,7,19] ?_;refine xc (σ:=Nat) (fun m=>[(5,sI (2000+(y:Int))),(6,sI (d-zy (12*y+m))),(7,sI 0),(19,sI (m:Int))]) (fun _=>[]) (fun m=>m<=12/\zy (12*y+m)<=d) (fun m=>13-m) ?_ 0 ⟨by omega,hle⟩;intro m ⟨hm,hle2⟩ ih2;have hst:zy (12*y+m+1)=zy (12*y+m)+lenOf (12*y+m):=rfl;have hlr:=zci (12*y+m);have hfb:=zie (12*y+m);(refine zl ?_;conv=>whnf)
 repeat' ((with_reducible refine way ?_ ?_)<;>(intro h;conv=>whnf))
 ·refine ze rfl  (yfc y m (by omega) hy) ?_
  (refine zm ?_;conv=>whnf)
  repeat' ((with_reducible refine way ?_ ?_)<;>(intro h;conv=>whnf))
  ·have:=zer (d:=d) (y:=y) (m:=m) (r:=d-zy (12*y+m)) hd (by omega) (by omega) (by omega) (by omega)
   rw [this] at hK;rw [yz (c:=(m:Int)+1) (by omega) (by omega),yz (c:=d-zy (12*y+m)+1) (by omega) (by omega)];exact hK _
  ·rw [yz (c:=(m:Int)+1) (by omega) (by omega),yz (c:=d-zy (12*y+m)-lenOf (12*y+m)) (by omega) (by omega)]
   have e:d-zy (12*y+m)-lenOf (12*y+m)=d-zy (12*y+(m+1)):=by
    rw [show 12*y+(m+1)=12*y+m+1 by omega];omega
   rw [e];refine zg [5,6,7,19] ?_;exact ih2 (m+1) ⟨by omega,by rw [show 12*y+(m+1)=12*y+m+1 by omega];omega⟩ (by omega)
 ·have hm12:m=12:=by omega
  subst hm12;have hlt:=zwh (d:=d) (y:=y+1) (m:=0) (r:=d-zy (12*y+12)) hd.2 (by omega) (by rw [show 12*(y+1)+0=12*y+12 by omega];omega);rw [yz (by omega) (by omega)];refine zg [5,6,7] ?_;have:=ih (y+1) ⟨by omega,by rw [show 12*(y+1)=12*y+12 by omega];exact hle2⟩ (by omega);rw [show 12*(y+1)=12*y+12 by omega,show 2000+((y+1:Nat):Int)=2000+(y:Int)+1 by omega] at this;exact this
abbrev zag:=Int × Int × Int × Int × Int
def zjz (p:zag) (i:Int):Int:=if i=0 then p.1 else if i=1 then p.2.1 else if i=2 then p.2.2.1 else if i=3 then p.2.2.2.1 else p.2.2.2.2
theorem ypj (s:St) (i:Int):s.part i=zjz s.p i:=rfl
def Opd.tv (o:Opd) (p:zag) (vs:List Int):Int:=if o.op=2 then vs.getD o.n.toNat 0 else if o.op=4 then zjz p o.n else o.n
def Cond.tru (p:zag) (vs:List Int):Cond->Bool
 | .none=>false
 | .plain o=> !decide (o.tv p vs=0)
 | .cmp op l r=>zrr op (l.tv p vs) (r.tv p vs)
 | .neg c=> !c.tru p vs
 | .conn d l r=>if d=1 then l.tru p vs||r.tru p vs else l.tru p vs&&r.tru p vs
def Cond.good:Cond->Prop
 | .none=>False
 | .plain _=>True
 | .cmp _ _ _=>True
 | .neg c=>c.good
 | .conn d l r=>(d=0\/d=1)/\l.good/\r.good
def Opd.inF (F:Int->Prop) (o:Opd):Prop:=o.op=2->F o.n
def Cond.inF (F:Int->Prop):Cond->Prop
 | .none=>True
 | .plain o=>o.inF F
 | .cmp _ l r=>l.inF F/\r.inF F
 | .neg c=>c.inF F
 | .conn _ l r=>l.inF F/\r.inF F
theorem Opd.inF_mono {F F':Int->Prop} (h:∀f,F f->F' f) {o:Opd} (ho:o.inF F):o.inF F':=fun e=>h _ (ho e)
theorem Cond.inF_mono {F F':Int->Prop} (h:∀f,F f->F' f):∀(c:Cond),c.inF F->c.inF F'
 | .none,_=>trivial
 | .plain _,hc=>Opd.inF_mono h hc
 | .cmp _ _ _,hc=>⟨Opd.inF_mono h hc.1,Opd.inF_mono h hc.2⟩
 | .neg c,hc=>Cond.inF_mono h c hc
 | .conn _ l r,hc=>⟨Cond.inF_mono h l hc.1,Cond.inF_mono h r hc.2⟩
def St.part_of (s:St) (vs:List Int):Prop:=∀i:Nat,s.ch.getD i false=true->s.vs.getD i 0=vs.getD i 0
theorem ypk {s:St} {vs:List Int} (h:s.part_of vs) (o:Opd) (hk:(o.val s).2=true):(o.val s).1=o.tv s.p vs:=by
 unfold Opd.val Opd.tv at*;split
 ·rename_i e
  rw [if_pos e] at hk;exact h _ hk
 ·split
  ·exact ypj _ _
  ·rfl
theorem zcp (b:Bool):(zmf b=0/\b=false)\/(zmf b=1/\b=true):=by cases b<;>simp [zmf]
theorem zpo {s:St} {vs:List Int} (h:s.part_of vs):∀c:Cond,c.good->(c.dec s=0/\c.tru s.p vs=false)\/(c.dec s=1/\c.tru s.p vs=true)\/c.dec s=2
 | .none,hg=>hg.elim
 | .plain o,_=>by
  simp only [Cond.dec,Cond.tru]
  by_cases hk:(o.val s).2=true
  ·rw [if_pos hk,ypk h o hk]
   rcases zcp (!decide (o.tv s.p vs=0)) with e|e
   ·exact .inl e
   ·exact .inr (.inl e)
  ·rw [if_neg hk];exact .inr (.inr rfl)
 | .cmp op l r,_=>by
  simp only [Cond.dec,Cond.tru]
  by_cases hk:((l.val s).2&&(r.val s).2)=true
  ·rw [if_pos hk]
   simp only [Bool.and_eq_true] at hk;rw [ypk h l hk.1,ypk h r hk.2];rcases zcp (zrr op (l.tv s.p vs) (r.tv s.p vs)) with e|e
   ·exact .inl e
   ·exact .inr (.inl e)
  ·rw [if_neg hk];exact .inr (.inr rfl)
 | .neg c,hg=>by
  simp only [Cond.dec,Cond.tru];rcases zpo h c hg with ⟨e1,e2⟩|⟨e1,e2⟩|e1
  ·simp [e1,e2]
  ·simp [e1,e2]
  ·simp [e1]
 | .conn d l r,hg=>by
  simp only [Cond.dec,Cond.tru];obtain ⟨hd,h1,h2⟩:=hg;rcases hd with rfl|rfl<;>rcases zpo h l h1 with ⟨e1,e2⟩|⟨e1,e2⟩|e1<;>rcases zpo h r h2 with ⟨e3,e4⟩|⟨e3,e4⟩|e3<;>simp_all
theorem zob {s:St}:∀c:Cond,c.good->c.inF (fun f=>s.ch.getD f.toNat false=true)->c.dec s≠2
 | .none,hg,_=>hg.elim
 | .plain o,_,hf=>by
  simp only [Cond.dec];have:(o.val s).2=true:=by
   unfold Opd.val;split
   ·rename_i e;exact hf e
   ·split<;>rfl
  rw [if_pos this];rcases zcp (!decide ((o.val s).1=0)) with e|e<;>rw [e.1]<;>omega
 | .cmp op l r,_,hf=>by
  simp only [Cond.dec];have h1:(l.val s).2=true:=by
   unfold Opd.val;split
   ·rename_i e;exact hf.1 e
   ·split<;>rfl
  have h2:(r.val s).2=true:=by
   unfold Opd.val;split
   ·rename_i e;exact hf.2 e
   ·split<;>rfl
  rw [if_pos (by rw [h1,h2];rfl)];rcases zcp (zrr op (l.val s).1 (r.val s).1) with e|e<;>rw [e.1]<;>omega
 | .neg c,hg,hf=>by
  simp only [Cond.dec];have:=zob c hg hf;rcases zpo (s:=s) (vs:=s.vs) (fun _ _=>rfl) c hg with ⟨e1,_⟩|⟨e1,_⟩|e1
  ·simp [e1]
  ·simp [e1]
  ·exact absurd e1 this
 | .conn d l r,hg,hf=>by
  simp only [Cond.dec];have h1:=zob l hg.2.1 hf.1;have h2:=zob r hg.2.2 hf.2;split
  ·exact h1
  ·rw [if_pos (.inr h1)];exact h2
theorem zhd (s:St):∀(l:List Cond) (r:Int),r≠0->(zbw s l r=0 ↔ ∃c∈l,c.dec s=0)
 |[],r,h=>by simp [zbw,h]
 |c::l,r,h=>by
  simp only [zbw]
  by_cases h0:c.dec s=0
  ·simp [h0]
  ·rw [if_neg h0]
   by_cases h2:c.dec s=2
   ·rw [if_pos h2,zhd s l 2 (by omega)]
    simp [h0]
   ·rw [if_neg h2,zhd s l r h]
    simp [h0]
theorem zqw (s:St) (l:List Cond):zbp l s=0 ↔ ∃c∈l,c.dec s=0:=zhd s l 1 (by omega)
def yta (conds:List Cond) (p:zag) (vs:List Int):Prop:=∀c∈conds,c.tru p vs=true
theorem zmx {conds:List Cond} {s:St} {vs:List Int} (hg:∀c∈conds,c.good) (h:s.part_of vs) (hs:yta conds s.p vs):zbp conds s≠0:=fun h0=>by
 obtain ⟨c,hc,h1⟩:=(zqw s conds).1 h0;have:=hs c hc;rcases zpo h c (hg c hc) with ⟨_,e⟩|⟨e,_⟩|e
 ·rw [e] at this;cases this
 ·omega
 ·omega
theorem yfd {conds:List Cond} {s:St} {vs:List Int} (hg:∀c∈conds,c.good) (h:s.part_of vs) (hf:∀c∈conds,c.inF (fun f=>s.ch.getD f.toNat false=true)) (hv:zbp conds s≠0):yta conds s.p vs:=fun c hc=>by
 rcases zpo h c (hg c hc) with ⟨e,_⟩|⟨_,e⟩|e
 ·exact absurd ((zqw s conds).2 ⟨c,hc,e⟩) hv
 ·exact e
 ·exact absurd e (zob c (hg c hc) (hf c hc))
def zpp:List Int->List Int->List Int->Bool
 |[],_,_=>false
 |f::r,a,b=>if a.getD f.toNat 0≠b.getD f.toNat 0 then decide (a.getD f.toNat 0<b.getD f.toNat 0) else zpp r a b
theorem zgs {α:Type} (l:List α) (i j:Nat) (a d:α):(l.set i a).getD j d=if i=j/\j<l.length then a else l.getD j d:=by
 rw [List.getD_eq_getElem?_getD,List.getD_eq_getElem?_getD,List.getElem?_set]
 by_cases h:i=j
 ·subst h
  by_cases h2:i<l.length
  ·simp [h2]
  ·simp [h2,List.getElem?_eq_none (Nat.le_of_not_lt h2)]
 ·simp [h]
structure CandV (rest:List (Int × List Int)) (s:St) (v:List Int):Prop where
 len:v.length=s.vs.length
 mem:∀e∈rest,v.getD e.1.toNat 0∈e.2
 oth:∀i:Nat,(∀e∈rest,e.1.toNat≠i)->v.getD i 0=s.vs.getD i 0
structure RestOK (conds:List Cond) (rest:List (Int × List Int)) (s:St):Prop where
 len:s.ch.length=s.vs.length
 rng:∀e∈rest,0<=e.1/\e.1<s.vs.length
 nd:(rest.map (·.1)).Nodup
 off:∀e∈rest,s.ch.getD e.1.toNat false=false
 inF:∀c∈conds,c.inF fun f=>s.ch.getD f.toNat false=true\/∃e∈rest,e.1=f
 ord:∀e∈rest,e.2.Pairwise (· < ·)
theorem RestOK.put {conds:List Cond} {f:Int} {vals:List Int} {rest:List (Int × List Int)} {s:St} (h:RestOK conds ((f,vals)::rest) s) (w:Int):RestOK conds rest (s.put f w):=by
 have hf:=h.rng (f,vals) (by simp);have hnd:=h.nd;simp only [List.map_cons,List.nodup_cons] at hnd;have hne:∀e∈rest,f≠e.1:=fun e he eq=>hnd.1 (List.mem_map.2 ⟨e,he,eq.symm⟩)
 refine ⟨by simp [St.put,h.len],fun e he=>?_,hnd.2,fun e he=>?_,fun c hc=>Cond.inF_mono (fun g hg=>?_) c (h.inF c hc),fun e he=>h.ord e (by simp [he])⟩
 ·have:=h.rng e (by simp [he]);simpa [St.put] using this
 ·have h1:=h.rng e (by simp [he])
  have h2:=hne e he;simp only [St.put];rw [zgs,if_neg (by omega)];exact h.off e (by simp [he])
 ·rcases hg with hg|⟨e,he,hg⟩
  ·left
   simp only [St.put];rw [zgs];split
   ·rfl
   ·exact hg
  ·rcases List.mem_cons.1 he with rfl|he
   ·left
    simp only at hg;subst hg;simp only [St.put];rw [zgs,if_pos ⟨rfl,by rw [h.len];simp only at hf;omega⟩]
   ·exact .inr ⟨e,he,hg⟩
theorem CandV.cons {conds:List Cond} {f:Int} {vals:List Int} {rest:List (Int × List Int)} {s:St} (h:RestOK conds ((f,vals)::rest) s) {v:List Int}:CandV ((f,vals)::rest) s v ↔ ∃w∈vals,v.getD f.toNat 0=w/\CandV rest (s.put f w) v:=by
 have hf:=h.rng (f,vals) (by simp);simp only at hf;have hnd:=h.nd;simp only [List.map_cons,List.nodup_cons] at hnd;constructor
 ·intro hv
  refine ⟨_,hv.mem (f,vals) (by simp),rfl,by simp [St.put,hv.len],fun e he=>hv.mem e (by simp [he]),fun i hi=>?_⟩;simp only [St.put];rw [zgs];split
  ·rename_i e;rw [<-e.1]
  ·rename_i e
   refine hv.oth i fun e' he'=>?_
   rcases List.mem_cons.1 he' with rfl|he'
   ·intro eq
    simp only at eq;exact e ⟨eq,by omega⟩
   ·exact hi e' he'
 ·rintro ⟨w,hw,he,hv⟩
  refine ⟨by simpa [St.put] using hv.len,fun e he'=>?_,fun i hi=>?_⟩
  ·rcases List.mem_cons.1 he' with rfl|he'
   ·simp only;rw [he];exact hw
   ·exact hv.mem e he'
  ·have h1:=hv.oth i (fun e he'=>hi e (by simp [he']))
   have h2:=hi (f,vals) (by simp);simp only [St.put] at h1;rw [zgs,if_neg (fun h=>h2 h.1)] at h1;exact h1
theorem CandV.agree {conds:List Cond} {rest:List (Int × List Int)} {s:St} (h:RestOK conds rest s) {v:List Int} (hv:CandV rest s v):s.part_of v:=fun i hi=>by
 refine (hv.oth i fun e he eq=>?_).symm;have:=h.off e he;rw [eq,hi] at this;cases this
theorem zii {conds:List Cond} (hg:∀c∈conds,c.good):∀(rest:List (Int × List Int)) (s:St),RestOK conds rest s->
  (∀v,qy conds rest s=some v->CandV rest s v/\yta conds s.p v/\∀v',CandV rest s v'->yta conds s.p v'->zpp (rest.map (·.1)) v' v=false)/\
  (qy conds rest s=none->∀v',CandV rest s v'->¬yta conds s.p v')
 |[],s,h=>by
  have hf:∀c∈conds,c.inF fun f=>s.ch.getD f.toNat false=true:=fun c hc=>Cond.inF_mono (fun f hf=>by rcases hf with hf|⟨e,he,_⟩;exact hf;cases he) c (h.inF c hc)
  simp only [qy]
  by_cases h0:zbp conds s=0
  ·rw [if_pos h0]
   refine ⟨fun v hv=>(by cases hv),fun _ v' hv' hs=>?_⟩;exact zmx hg (hv'.agree h) hs h0
  ·rw [if_neg h0]
   refine ⟨fun v hv=>?_,fun hv=>by cases hv⟩;cases hv;have hc:CandV [] s s.vs:=⟨rfl,fun e he=>(by cases he),fun _ _=>rfl⟩;exact ⟨hc,yfd hg (hc.agree h) hf h0,fun v' _ _=>rfl⟩
 |(f,vals)::rest,s,h=>by
  simp only [qy]
  by_cases h0:zbp conds s=0
  ·rw [if_pos h0]
   refine ⟨fun v hv=>(by cases hv),fun _ v' hv' hs=>?_⟩;exact zmx hg (hv'.agree h) hs h0
  ·rw [if_neg h0]
   constructor
   ·intro v hv
    obtain ⟨pre,w,post,he,hw,hpre⟩:=List.findSome?_eq_some_iff.1 hv;obtain ⟨h1,h2,h3⟩:=(zii hg rest (s.put f w) (h.put w)).1 v hw;have hwm:w∈vals:=by rw [he];simp
    have hvw:v.getD f.toNat 0=w:=by
     have hf:=h.rng (f,vals) (by simp);simp only at hf;have hnd:=h.nd;simp only [List.map_cons,List.nodup_cons] at hnd
     have:=h1.oth f.toNat (fun e he eq=>by
      have hr:=h.rng e (by simp [he])
      exact hnd.1 (List.mem_map.2 ⟨e,he,by omega⟩))
     simp only [St.put] at this;rw [zgs,if_pos ⟨rfl,by omega⟩] at this;exact this
    refine ⟨(CandV.cons h).2 ⟨w,hwm,hvw,h1⟩,h2,fun v' hv' hs=>?_⟩;obtain ⟨w',hw',hvw',hc'⟩:=(CandV.cons h).1 hv';simp only [List.map_cons,zpp]
    by_cases e:w'=w
    ·subst e
     rw [if_neg (by rw [hvw,hvw'];simp)];exact h3 v' hc' hs
    ·rw [if_pos (by rw [hvw,hvw'];exact e),hvw,hvw']
     have hord:=h.ord (f,vals) (by simp);simp only [he,List.pairwise_append,List.pairwise_cons] at hord;rw [he] at hw';rcases List.mem_append.1 hw' with hp|hp
     ·exact absurd hs ((zii hg rest (s.put f w') (h.put w')).2 (hpre w' hp) v' hc')
     ·rcases List.mem_cons.1 hp with hp|hp
      ·exact absurd hp e
      ·have:=hord.2.1.1 w' hp
       simp only [decide_eq_false_iff_not];omega
   ·intro hv v' hv' hs
    obtain ⟨w',hw',hvw',hc'⟩:=(CandV.cons h).1 hv';exact (zii hg rest (s.put f w') (h.put w')).2 ((List.findSome?_eq_none_iff.1 hv) w' hw') v' hc' hs
theorem yxn (l:List Int):∀b:ByteArray,(l.foldl (fun r n=>r.push (UInt8.ofNat n.toNat)) b).data.toList=b.data.toList++l.map fun n=>UInt8.ofNat n.toNat:=by
 induction l with
 |nil=>intro b;simp
 |cons x l ih=>
  intro b;rw [List.foldl_cons,ih];simp [ByteArray.push]
theorem zka (s:St):∀c:Cond,c.dec s=0\/c.dec s=1\/c.dec s=2
 | .none=>.inr (.inr rfl)
 | .plain o=>by
  simp only [Cond.dec];split
  ·rcases zcp (!decide ((o.val s).1=0)) with e|e<;>rw [e.1]<;>omega
  ·omega
 | .cmp op l r=>by
  simp only [Cond.dec];split
  ·rcases zcp (zrr op (l.val s).1 (r.val s).1) with e|e<;>rw [e.1]<;>omega
  ·omega
 | .neg c=>by
  simp only [Cond.dec];split
  ·omega
  ·split<;>omega
 | .conn d l r=>by
  simp only [Cond.dec];have h1:=zka s l;have h2:=zka s r;split
  ·exact h1
  ·split
   ·exact h2
   ·omega
theorem yxo {atoms:List Cond} {s s':St} (h:zpk atoms s=zpk atoms s'):∀a∈atoms,a.dec s=a.dec s':=by
 have h1:=congrArg (fun b:ByteArray=>b.data.toList) h;simp only [zpk,yxn] at h1;have h2:=List.append_cancel_left h1;rw [List.map_map,List.map_map] at h2;intro a ha;have h3:=(List.map_inj_left.1 h2) a ha;simp only [Function.comp] at h3;rcases zka s a with e|e|e<;>rcases zka s' a with e'|e'|e'<;>rw [e,e'] at h3 ⊢ <;>first|rfl|(exact absurd h3 (by decide))
def Cond.cov (atoms:List Cond):Cond->Prop
 | .none=>True
 | .plain o=>o.op≠4
 | .cmp op l r=>l.op=4\/r.op=4->Cond.cmp op l r∈atoms/\l.op≠2/\r.op≠2
 | .neg c=>c.cov atoms
 | .conn _ l r=>l.cov atoms/\r.cov atoms
theorem yfe {o:Opd} (h:o.op≠4) (p p':zag) (vs:List Int):o.tv p vs=o.tv p' vs:=by
 unfold Opd.tv;simp [h]
theorem zle {o:Opd} (h:o.op≠2) (s:St) (vs:List Int):(o.val s).2=true/\(o.val s).1=o.tv s.p vs:=by
 unfold Opd.val Opd.tv;rw [if_neg h,if_neg h];split
 ·exact ⟨rfl,ypj _ _⟩
 ·exact ⟨rfl,rfl⟩
theorem ylj {a b:Bool} (h:zmf a=zmf b):a=b:=by cases a<;>cases b<;>first|rfl|(exact absurd h (by decide))
theorem zyu {atoms:List Cond} {s s':St} (h:∀a∈atoms,a.dec s=a.dec s') (vs:List Int):∀c:Cond,c.cov atoms->c.tru s.p vs=c.tru s'.p vs
 | .none,_=>rfl
 | .plain o,hc=>by simp only [Cond.tru];rw [yfe hc s.p s'.p]
 | .cmp op l r,hc=>by
  simp only [Cond.tru]
  by_cases hd:l.op=4\/r.op=4
  ·obtain ⟨hm,h1,h2⟩:=hc hd
   have:=h _ hm;simp only [Cond.dec] at this;obtain ⟨a1,a2⟩:=zle h1 s vs;obtain ⟨b1,b2⟩:=zle h2 s vs;obtain ⟨c1,c2⟩:=zle h1 s' vs;obtain ⟨d1,d2⟩:=zle h2 s' vs;rw [a1,b1,c1,d1,a2,b2,c2,d2] at this;simp only [Bool.and_true,if_true] at this;exact ylj this
  ·rw [yfe (fun e=>hd (.inl e)) s.p s'.p,yfe (fun e=>hd (.inr e)) s.p s'.p]
 | .neg c,hc=>by simp only [Cond.tru];rw [zyu h vs c hc]
 | .conn d l r,hc=>by simp only [Cond.tru];rw [zyu h vs l hc.1,zyu h vs r hc.2]
structure SrOK (s:Sr) (nf:Nat):Prop where
 good:∀c∈s.conds,c.good
 rest:∀day,RestOK s.conds (yh s.cands) (st0 nf day)
 cov:∀c∈s.conds,c.cov s.atoms
abbrev zhp (s:Sr) (nf:Nat) (v:List Int):Prop:=CandV (yh s.cands) (st0 nf 0) v
abbrev yaa (s:Sr) (day:Int) (v:List Int):Prop:=yta s.conds (yf day) v
def zhe (s:Sr):List Int:=(yh s.cands).map (·.1)
theorem zoc {s:Sr} {nf:Nat} {v:List Int} (day:Int):zhp s nf v ↔ CandV (yh s.cands) (st0 nf day) v:=⟨fun h=>⟨h.len,h.mem,h.oth⟩,fun h=>⟨h.len,h.mem,h.oth⟩⟩
theorem zwl {s:Sr} {nf:Nat} (hs:SrOK s nf):∀(n:Nat) (day:Int) (failed:List ByteArray),
  (∀g∈failed,∃d,zpk s.atoms (st0 nf d)=g/\∀v,zhp s nf v->¬yaa s d v)->
  (∀d v,zdy s nf n day failed=some (d,v)->day<=d/\d<day+n/\zhp s nf v/\yaa s d v/\(∀d' v',day<=d'->d'<d->zhp s nf v'->¬yaa s d' v')/\∀v',zhp s nf v'->yaa s d v'->zpp (zhe s) v' v=false)/\
  (zdy s nf n day failed=none->∀d v,day<=d->d<day+n->zhp s nf v->¬yaa s d v)
 |0,day,failed,_=>⟨fun d v h=>by simp [zdy] at h,fun _ d v h1 h2=>by omega⟩
 |n+1,day,failed,hf=>by
  have skip:(∀v,zhp s nf v->¬yaa s day v)->∀failed',(∀g∈failed',∃d,zpk s.atoms (st0 nf d)=g/\∀v,zhp s nf v->¬yaa s d v)->zdy s nf (n+1) day failed=zdy s nf n (day+1) failed'->
    (∀d v,zdy s nf (n+1) day failed=some (d,v)->day<=d/\d<day+((n+1:Nat):Int)/\zhp s nf v/\yaa s d v/\(∀d' v',day<=d'->d'<d->zhp s nf v'->¬yaa s d' v')/\∀v',zhp s nf v'->yaa s d v'->zpp (zhe s) v' v=false)/\
    (zdy s nf (n+1) day failed=none->∀d v,day<=d->d<day+((n+1:Nat):Int)->zhp s nf v->¬yaa s d v):=by
   intro h0 failed' hf' e;rw [e];obtain ⟨h1,h2⟩:=zwl hs n (day+1) failed' hf';refine ⟨fun d v hv=>?_,fun hv d v g1 g2 g3=>?_⟩
   ·obtain ⟨a1,a2,a3,a4,a5,a6⟩:=h1 d v hv
    refine ⟨by omega,by omega,a3,a4,fun d' v' g1 g2 g3=>?_,a6⟩
    by_cases e:d'=day
    ·subst e;exact h0 v' g3
    ·exact a5 d' v' (by omega) g2 g3
   ·by_cases e:d=day
    ·subst e;exact h0 v g3
    ·exact h2 hv d v (by omega) (by omega) g3
  by_cases h0:zbp s.conds (st0 nf day)=0
  ·exact skip (fun v hv hsat=>zmx hs.good (((zoc day).1 hv).agree (hs.rest day)) hsat h0) failed hf (by simp only [zdy];rw [if_pos h0])
  ·by_cases h1:zpk s.atoms (st0 nf day)∈failed
   ·refine skip (fun v hv hsat=>?_) failed hf (by simp only [zdy];rw [if_neg h0,if_pos h1])
    obtain ⟨d,hd,hno⟩:=hf _ h1;have he:=yxo hd;refine hno v hv fun c hc=>?_
    have:=zyu he v c (hs.cov c hc);exact this.trans (hsat c hc)
   ·obtain ⟨g1,g2⟩:=zii hs.good (yh s.cands) (st0 nf day) (hs.rest day)
    cases ha:qy s.conds (yh s.cands) (st0 nf day) with
    |some vs=>
     have e:zdy s nf (n+1) day failed=some (day,vs):=by simp only [zdy];rw [if_neg h0,if_neg h1,ha]
     rw [e];refine ⟨fun d v hv=>?_,fun hv=>by cases hv⟩;cases hv;obtain ⟨a1,a2,a3⟩:=g1 vs ha;exact ⟨Int.le_refl _,by omega,(zoc day).2 a1,a2,fun d' v' b1 b2=>by omega,fun v' hv' hsat=>a3 v' ((zoc day).1 hv') hsat⟩
    |none=>
     have hno:∀v,zhp s nf v->¬yaa s day v:=fun v hv=>g2 ha v ((zoc day).1 hv)
     refine skip hno (failed++[zpk s.atoms (st0 nf day)]) (fun g hg=>?_) (by simp only [zdy];rw [if_neg h0,if_neg h1,ha]);rcases List.mem_append.1 hg with hg|hg
     ·exact hf g hg
     ·simp only [List.mem_singleton] at hg
      exact ⟨day,hg.symm,hno⟩
theorem zpq {m:Nat} (h:m+48<=1200):zy (m+48)=zy m+1461:=by
 rw [<-znt (m+48) h, <-znt m (by omega)];unfold zyq;have e1:(m+48) / 12=m / 12+4:=by omega
 have e2:(m+48) % 12=m % 12:=by omega
 have e3:(m / 12+4) % 4=m / 12 % 4:=by omega
 rw [e1,e2,e3];generalize (if 1<m % 12/\m / 12 % 4=0 then (1:Int) else 0)=q;omega
theorem yii {d:Int} (h0:0<=d):∀{N:Nat},d<zy N->∃M,M<N/\zy M<=d/\d<zy (M+1)
 |0,h=>by simp [zy] at h;omega
 |N+1,h=>by
  rcases Int.lt_or_le d (zy N) with h1|h1
  ·obtain ⟨M,g1,g2,g3⟩:=yii h0 h1
   exact ⟨M,by omega,g2,g3⟩
  ·exact ⟨N,by omega,h1,h⟩
theorem zyv {d:Int} (h:0<=d/\d<=36524):∃M:Nat,M<1200/\zy M<=d/\d<zy (M+1)/\wn d=(2000+((M / 12:Nat):Int),((M % 12:Nat):Int)+1,d-zy M+1):=by
 obtain ⟨M,h1,h2,h3⟩:=yii h.1 (N:=1200) (by rw [zgq];omega);refine ⟨M,h1,h2,h3,?_⟩;have h4:zy (M+1)=zy M+lenOf M:=rfl;have e:12*(M / 12)+M % 12=M:=by omega
 exact zer (y:=M / 12) (m:=M % 12) (r:=d-zy M) h (by omega) (by omega) (by rw [e];omega) (by rw [e];omega)
theorem ypl {d:Int} (h:0<=d/\d+1461<=36524):(wn (d+1461)).2=(wn d).2:=by
 obtain ⟨M,h1,h2,h3,e⟩:=zyv (d:=d) (by omega);have hM:M+48<1200:=by
  rcases Nat.lt_or_ge (M+48) 1200 with h'|h'
  ·exact h'
  ·have:=zpq (m:=1152) (by omega)
   have h5:=zfn (m:=1152) (n:=M) (by omega);rw [show 1152+48=1200 by omega,zgq] at this;omega
 have a1:=zpq (m:=M) (by omega);have a2:=zpq (m:=M+1) (by omega);have h4:zy (M+1)=zy M+lenOf M:=rfl;have h5:zy (M+48+1)=zy (M+48)+lenOf (M+48):=rfl;have h6:M+1+48=M+48+1:=by omega
 rw [h6] at a2;have:=zer (d:=d+1461) (y:=(M+48) / 12) (m:=(M+48) % 12) (r:=d-zy M) (by omega) (by omega) (by omega) (by rw [show 12*((M+48) / 12)+(M+48) % 12=M+48 by omega];omega) (by rw [show 12*((M+48) / 12)+(M+48) % 12=M+48 by omega];omega);rw [this,e,show (M+48) % 12=M % 12 by omega]
theorem yxp {d:Int} (h:0<=d/\d+7<=36524):zaj (d+7)=zaj d:=by
 unfold zaj;rw [if_pos (by omega),if_pos (by omega),Int.tmod_eq_emod_of_nonneg (by omega),Int.tmod_eq_emod_of_nonneg (by omega)];omega
theorem zyw {d:Int} (h0:0<=d):∀k:Nat,d+7*k<=36524->zaj (d+7*k)=zaj d
 |0,_=>by simp
 |k+1,h=>by
  rw [<-zyw h0 k (by omega), <-yxp (d:=d+7*k) (by omega)]
  congr 1
  omega
theorem yij {d:Int} (h0:0<=d):∀k:Nat,d+1461*k<=36524->(wn (d+1461*k)).2=(wn d).2
 |0,_=>by simp
 |k+1,h=>by
  rw [<-yij h0 k (by omega), <-ypl (d:=d+1461*k) (by omega)]
  congr 2
  omega
def ztp (d:List Bool) (p p':zag):Prop:=∀i:Int,1<=i->i<=4->d.getD i.toNat false=true->zjz p i=zjz p' i
def Opd.dateIn (d:List Bool) (o:Opd):Prop:=o.op=4->1<=o.n/\o.n<=4/\d.getD o.n.toNat false=true
def Cond.dateIn (d:List Bool):Cond->Prop
 | .none=>True
 | .plain o=>o.dateIn d
 | .cmp _ l r=>l.dateIn d/\r.dateIn d
 | .neg c=>c.dateIn d
 | .conn _ l r=>l.dateIn d/\r.dateIn d
theorem yff {d:List Bool} {p p':zag} (h:ztp d p p') {o:Opd} (ho:o.dateIn d) (vs:List Int):o.tv p vs=o.tv p' vs:=by
 unfold Opd.tv;split
 ·rfl
 ·split
  ·rename_i e
   obtain ⟨h1,h2,h3⟩:=ho e;exact h _ h1 h2 h3
  ·rfl
theorem zrt {d:List Bool} {p p':zag} (h:ztp d p p') (vs:List Int):∀c:Cond,c.dateIn d->c.tru p vs=c.tru p' vs
 | .none,_=>rfl
 | .plain o,hc=>by simp only [Cond.tru];rw [yff h hc]
 | .cmp op l r,hc=>by simp only [Cond.tru];rw [yff h hc.1,yff h hc.2]
 | .neg c,hc=>by simp only [Cond.tru];rw [zrt h vs c hc]
 | .conn _ l r,hc=>by simp only [Cond.tru];rw [zrt h vs l hc.1,zrt h vs r hc.2]
theorem zru (d:Int):zjz (yf d) 1=zaj d:=rfl
theorem yik (d:Int):zjz (yf d) 2=(wn d).2.2:=rfl
theorem yil (d:Int):zjz (yf d) 3=(wn d).2.1:=rfl
theorem ylk {fl:List Bool} {a:Int} (h0:0<=a) (k:Nat) (h:a+xl fl*k<=36524):ztp fl (yf (a+xl fl*k)) (yf a):=by
 intro i h1 h4 hi;have hc:i=1\/i=2\/i=3\/i=4:=by omega
 unfold xl at h ⊢
 by_cases h4':fl.getD 4 false=true
 ·rw [if_pos h4'] at h ⊢
  have:k=0:=by omega
  subst this;simp
 rw [if_neg h4'] at h ⊢;have hc':i=1\/i=2\/i=3:=by
  rcases hc with rfl|rfl|rfl|rfl
  ·omega
  ·omega
  ·omega
  ·exact absurd hi h4'
 have md:∀q:Nat,a+1461*q<=36524->(i=2\/i=3)->zjz (yf (a+1461*q)) i=zjz (yf a) i:=by
  intro q hq hi;have:=yij h0 q hq;rcases hi with rfl|rfl
  ·rw [yik,yik,this]
  ·rw [yil,yil,this]
 by_cases h12:(fl.getD 1 false&&(fl.getD 2 false||fl.getD 3 false))=true
 ·rw [if_pos h12] at h ⊢
  rcases hc' with rfl|hc'
  ·rw [zru,zru]
   have:=zyw h0 (1461*k) (by omega);rw [<-this]
   congr 1
   omega
  ·have:=md (7*k) (by omega) hc'
   rw [<-this]
   congr 2
   omega
 rw [if_neg h12] at h ⊢
 by_cases h23:(fl.getD 2 false||fl.getD 3 false)=true
 ·rw [if_pos h23] at h ⊢
  rcases hc' with rfl|hc'
  ·exfalso
   have h1':fl.getD 1 false=true:=hi;rw [h1',h23] at h12;exact h12 rfl
  ·exact md k h hc'
 rw [if_neg h23] at h ⊢
 by_cases h1':fl.getD 1 false=true
 ·rw [if_pos h1'] at h ⊢
  rcases hc' with rfl|hc'
  ·rw [zru,zru]
   exact zyw h0 k h
  ·exfalso
   rcases hc' with rfl|rfl
   ·exact h23 (by rw [show fl.getD 2 false=true from hi];rfl)
   ·exact h23 (by rw [show fl.getD 3 false=true from hi];simp)
 ·exfalso
  rcases hc' with rfl|rfl|rfl
  ·exact h1' hi
  ·exact h23 (by rw [show fl.getD 2 false=true from hi];rfl)
  ·exact h23 (by rw [show fl.getD 3 false=true from hi];simp)
theorem zmy (fl:List Bool):1<=xl fl:=by
 unfold xl;split
 ·omega
 ·split
  ·omega
  ·split
   ·omega
   ·split<;>omega
theorem ypm {s:Sr} {nf:Nat} (hs:SrOK s nf) (hd:∀c∈s.conds,c.dateIn s.dates) {lo hi:Int} (h0:0<=lo) (h1:hi<=36525):
  (∀d v,zdy s nf (min hi (lo+xl s.dates)-lo).toNat lo []=some (d,v)->lo<=d/\d<hi/\zhp s nf v/\yaa s d v/\∀d' v',lo<=d'->d'<hi->zhp s nf v'->yaa s d' v'->d<=d'/\(d=d'->zpp (zhe s) v' v=false))/\
  (zdy s nf (min hi (lo+xl s.dates)-lo).toNat lo []=none->∀d v,lo<=d->d<hi->zhp s nf v->¬yaa s d v):=by
 have hp:=zmy s.dates;obtain ⟨g1,g2⟩:=zwl hs (min hi (lo+xl s.dates)-lo).toNat lo [] (fun g hg=>by cases hg);have back:∀d v,lo<=d->d<hi->yaa s d v->∃d',lo<=d'/\d'<=d/\d'<min hi (lo+xl s.dates)/\yaa s d' v:=by
  intro d v hd1 hd2 hsat;generalize hH:xl s.dates=H at*;have hm:=Int.emod_def (d-lo) H;have hr0:=Int.emod_nonneg (d-lo) (show H≠0 by omega);have hr1:=Int.emod_lt_of_pos (d-lo) (show 0<H by omega);have hq:0<=(d-lo) / H:=Int.ediv_nonneg (by omega) (by omega);obtain ⟨k,hk⟩:∃k:Nat,(d-lo) / H=k:=⟨((d-lo) / H).toNat,by omega⟩;rw [hk] at hm;have hle:0<=H*(k:Int):=Int.mul_nonneg (by omega) (by omega);have e:d=lo+(d-lo) % H+H*k:=by omega
  refine ⟨lo+(d-lo) % H,by omega,by omega,by omega,fun c hc=>?_⟩;have hb:=ylk (fl:=s.dates) (a:=lo+(d-lo) % H) (by omega) k (by rw [hH];omega);rw [hH, <-e] at hb;rw [<-zrt hb v c (hd c hc)];exact hsat c hc
 constructor
 ·intro d v hv
  obtain ⟨a1,a2,a3,a4,a5,a6⟩:=g1 d v hv;refine ⟨a1,by omega,a3,a4,fun d' v' b1 b2 b3 b4=>?_⟩;obtain ⟨d2,c1,c2,c3,c4⟩:=back d' v' b1 b2 b4;have hle:d<=d2:=by
   rcases Int.lt_or_le d2 d with h|h
   ·exact absurd c4 (a5 d2 v' c1 h b3)
   ·exact h
  refine ⟨by omega,fun e=>?_⟩;have:d2=d:=by omega
  subst this;exact a6 v' b3 c4
 ·intro hv d v b1 b2 b3 b4
  obtain ⟨d2,c1,c2,c3,c4⟩:=back d v b1 b2 b4;exact g2 hv d2 v c1 (by omega) b3 c4
end Go.Proofs.YtblpjknmhajcgaaGreatDoor