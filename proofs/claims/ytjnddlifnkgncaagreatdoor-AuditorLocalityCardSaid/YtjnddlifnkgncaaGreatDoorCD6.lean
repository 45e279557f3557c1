/- Contracts of functions of the program, joined from TLh, TLi, TZu, TZv, TZw, TZx, TZy, TZz, TUa, TUb, TTa, TTb, TTc, TTd, TTe, TYc, TYd, TYe, TYf, TZa, TZb, TSh56, TUc, TTg, TVb, THb, THc, THd, THe: no condition. -/
import Derived.Test.YtjnddlifnkgncaaGreatDoorCD5
import Derived.Test.YtjnddlifnkgncaaGreatDoorProg
import Derived.Test.YtjnddlifnkgncaaGreatDoorRows
import Derived.WalkKit
import Derived.ProofKit
import Derived.OpenShut
import Derived.Deep.DeepHandedRow
import Derived.Deep.CondSized
import Derived.Lib.LaidTab
set_option linter.unusedSimpArgs false
set_option linter.unusedVariables false
set_option maxRecDepth 100000
set_option maxHeartbeats 8000000
namespace Go.Proofs.YtjnddlifnkgncaaGreatDoor
open Go Go.Sh
theorem ynr:Tryz.prog.cellsOf 68=3:=by kernel_rfl
theorem yns:Tryz.prog.cellsOf 234=3:=by kernel_rfl
theorem yfx:Tryz.prog.cellsOf 135=6:=by kernel_rfl
theorem ysw:Tryz.prog.cellsOf 133=2:=by kernel_rfl
theorem yxg:Tryz.prog.cellsOf 137=14:=by kernel_rfl
theorem ysx:Tryz.prog.cellsOf 58=7:=by kernel_rfl
theorem yvg:Tryz.prog.cellsOf 55=3:=by kernel_rfl
theorem zhh:Tryz.prog.cellsOf 3=1:=by kernel_rfl
theorem yxh:Tryz.prog.cellsOf 4=1:=by kernel_rfl
theorem ynt:Tryz.prog.cellsOf 9=1:=by kernel_rfl
theorem yxi:Tryz.prog.cellsOf 52=1:=by kernel_rfl
theorem yzf:Tryz.prog.cellsOf 131=1:=by kernel_rfl
theorem yxj:Tryz.prog.cellsOf 130=1:=by kernel_rfl
theorem yzg:Tryz.prog.cellsOf 53=1:=by kernel_rfl
theorem yzh:Tryz.prog.cellsOf 23=1:=by kernel_rfl
section
variable {H:Type} {enc:TypeId × Value->H} {w:World} {fuel:Nat} {cs:List Value} {x:DataW H × List MemPlace}
def i64 (n:Int):Prop:= -9223372036854775808<=n/\n<=9223372036854775807
theorem yxk (h:DataW.trod enc Tryz.prog w 0 (fun _=>true) true fuel 23 cs=some x):∃l:List Int,Cs w cs [ye l]/\l.length<=9223372036854775807/\∀n∈l,i64 n:=
 zel (fun n=>[dI n]) i64 Tryz.underlying23 zhh (by decide) h (fun _ _ _ _ h=>by obtain ⟨n,h1,h2⟩:=jy Tryz.underlying3 h;exact ⟨n,h1,h2⟩)
theorem cs3 {cs:List Value} (h:cs.length=3):∃a b c,cs=[a,b,c]:=by
 match cs,h with|[a,b,c],_=>exact ⟨a,b,c,rfl⟩
theorem zgv {t:TypeId} {fs:Array Field} {c:List Value} (ht:Tryz.prog.underlying t=some (.struct fs)) (h:DataW.trod enc Tryz.prog w 0 (fun _=>true) true fuel t c=some x):
  c.length=Tryz.prog.cellsOf t/\∃n,n<fuel/\∀(i:Nat) (u off k:Nat),(fs[i]?).map (fun f=>(f.type,f.offset))=some (u,off)->Tryz.prog.cellsOf u=k->∃y,DataW.trod enc Tryz.prog w 0 (fun _=>true) true n u ((c.drop off).take k)=some y:=by
 obtain ⟨xs,n,rfl,_,hl,hlen,hf⟩:=DataW.trod_struct ht h;refine ⟨hl,n,by omega,fun i u off k hi hk=>?_⟩;obtain ⟨f,hf1,hf2⟩:=Option.map_eq_some_iff.1 hi;cases hf2;subst hk;have:=hf i f hf1;have hlt:i<fs.size:=by
  rcases Nat.lt_or_ge i fs.size with h|h
  ·exact h
  ·simp [Array.getElem?_eq_none h] at hf1
 rw [List.getElem?_eq_getElem (by omega)] at this;exact ⟨_,this⟩
structure Decl.ok (d:Decl):Prop where
 name:d.name.size<=9223372036854775807
 unit:d.unit.size<=9223372036854775807
 role:i64 d.role
theorem ysy (h:DataW.trod enc Tryz.prog w 0 (fun _=>true) true fuel 68 cs=some x):∃d:Decl,Cs w cs d.cells/\Decl.ok d:=by
 obtain ⟨hl,n,_,hf⟩:=zgv Tryz.underlying68 h;rw [ynr] at hl;obtain ⟨a,b,c,rfl⟩:=cs3 hl;obtain ⟨y0,h0⟩:=hf 0 9 0 1 rfl ynt;obtain ⟨y1,h1⟩:=hf 1 9 1 1 rfl ynt;obtain ⟨y2,h2⟩:=hf 2 3 2 1 rfl zhh;obtain ⟨s0,g0,e0⟩:=zhr Tryz.underlying9 h0;obtain ⟨s1,g1,e1⟩:=zhr Tryz.underlying9 h1;obtain ⟨s2,g2,e2⟩:=jy Tryz.underlying3 h2;exact ⟨⟨s0,s1,s2⟩,g0.append (g1.append g2),e0,e1,e2⟩
structure Piece.ok (p:Piece):Prop where
 lo:i64 p.lo
 at_:i64 p.at_
 slope:i64 p.slope
theorem yvh (h:DataW.trod enc Tryz.prog w 0 (fun _=>true) true fuel 234 cs=some x):∃d:Piece,Cs w cs d.cells/\Piece.ok d:=by
 obtain ⟨hl,n,_,hf⟩:=zgv Tryz.underlying234 h;rw [yns] at hl;obtain ⟨a,b,c,rfl⟩:=cs3 hl;obtain ⟨y0,h0⟩:=hf 0 3 0 1 rfl zhh;obtain ⟨y1,h1⟩:=hf 1 3 1 1 rfl zhh;obtain ⟨y2,h2⟩:=hf 2 3 2 1 rfl zhh;obtain ⟨s0,g0,e0⟩:=jy Tryz.underlying3 h0;obtain ⟨s1,g1,e1⟩:=jy Tryz.underlying3 h1;obtain ⟨s2,g2,e2⟩:=jy Tryz.underlying3 h2;exact ⟨⟨s0,s1,s2⟩,g0.append (g1.append g2),e0,e1,e2⟩
inductive ExOK:Ex->Prop
 |mk {op n:Int} {u:ByteArray} {den:Int} {ps:List Piece} {ks:List Ex}:i64 op->i64 n->u.size<=9223372036854775807->i64 den->ps.length<=9223372036854775807->(∀p∈ps,Piece.ok p)->ks.length<=9223372036854775807->(∀k∈ks,ExOK k)->ExOK (.mk op n u den ps ks)
theorem yxl (h:DataW.trod enc Tryz.prog w 0 (fun _=>true) true fuel 133 cs=some x):∃(den:Int) (ps:List Piece),Cs w cs [dI den,.isl 3 (ps.map Piece.cells)]/\i64 den/\ps.length<=9223372036854775807/\∀p∈ps,Piece.ok p:=by
 obtain ⟨hl,n,_,hf⟩:=zgv Tryz.underlying133 h;rw [ysw] at hl;obtain ⟨a,b,rfl⟩:∃a b,cs=[a,b]:=by match cs,hl with|[a,b],_=>exact ⟨a,b,rfl⟩
 obtain ⟨y0,h0⟩:=hf 0 3 0 1 rfl zhh;obtain ⟨y1,h1⟩:=hf 1 131 1 1 rfl yzf;obtain ⟨s0,g0,e0⟩:=jy Tryz.underlying3 h0;obtain ⟨s1,g1,e1,e2⟩:=zel Piece.cells Piece.ok Tryz.underlying131 yns (by decide) h1 (fun _ _ _ _ h=>yvh h);exact ⟨s0,s1,g0.append g1,e0,e1,e2⟩
theorem ysz:∀(fuel:Nat) (cs:List Value) (x:DataW H × List MemPlace),DataW.trod enc Tryz.prog w 0 (fun _=>true) true fuel 135 cs=some x->∃d:Ex,Cs w cs d.cells/\ExOK d:=by
 intro fuel
 induction fuel using Nat.strongRecOn with
 |_ fuel ih=>
 intro cs x h;obtain ⟨hl,n,hn,hf⟩:=zgv Tryz.underlying135 h;rw [yfx] at hl;obtain ⟨a,b,c,d,e,f,rfl⟩:∃a b c d e f,cs=[a,b,c,d,e,f]:=by match cs,hl with|[a,b,c,d,e,f],_=>exact ⟨a,b,c,d,e,f,rfl⟩
 obtain ⟨y0,h0⟩:=hf 0 3 0 1 rfl zhh;obtain ⟨y1,h1⟩:=hf 1 3 1 1 rfl zhh;obtain ⟨y2,h2⟩:=hf 2 9 2 1 rfl ynt;obtain ⟨y3,h3⟩:=hf 3 133 3 2 rfl ysw;obtain ⟨y4,h4⟩:=hf 4 130 5 1 rfl yxj;obtain ⟨s0,g0,e0⟩:=jy Tryz.underlying3 h0;obtain ⟨s1,g1,e1⟩:=jy Tryz.underlying3 h1;obtain ⟨s2,g2,e2⟩:=zhr Tryz.underlying9 h2;obtain ⟨s3,s4,g3,e3,e4,e5⟩:=yxl h3;obtain ⟨s5,g5,e6,e7⟩:=zel Ex.cells ExOK Tryz.underlying130 yfx (by decide) h4 (fun m cs x hm h=>ih m (by omega) cs x h);refine ⟨.mk s0 s1 s2 s3 s4 s5,?_,.mk e0 e1 e2 e3 e4 e5 e6 e7⟩;rw [Ex.cells_eq];exact g0.append (g1.append (g2.append (g3.append g5)))
structure Article.ok (a:Article):Prop where
 number:i64 a.number
 line:i64 a.line
 rank:i64 a.rank
 lo:i64 a.lo
 hi:i64 a.hi
 known:i64 a.known
 when_:a.when_.length<=9223372036854775807
 whens:∀e∈a.when_,ExOK e
 unless_:a.unless_.length<=9223372036854775807
 unlesss:∀n∈a.unless_,i64 n
 amount:ExOK a.amount
theorem ynu (h:DataW.trod enc Tryz.prog w 0 (fun _=>true) true fuel 137 cs=some x):∃d:Article,Cs w cs d.cells/\Article.ok d:=by
 obtain ⟨hl,n,hn,hf⟩:=zgv Tryz.underlying137 h;rw [yxg] at hl;obtain ⟨a0,a1,a2,a3,a4,a5,a6,a7,a8,a9,a10,a11,a12,a13,rfl⟩:∃a0 a1 a2 a3 a4 a5 a6 a7 a8 a9 a10 a11 a12 a13,cs=[a0,a1,a2,a3,a4,a5,a6,a7,a8,a9,a10,a11,a12,a13]:=by
  match cs,hl with|[a0,a1,a2,a3,a4,a5,a6,a7,a8,a9,a10,a11,a12,a13],_=>exact ⟨a0,a1,a2,a3,a4,a5,a6,a7,a8,a9,a10,a11,a12,a13,rfl⟩
 obtain ⟨y0,h0⟩:=hf 0 3 0 1 rfl zhh;obtain ⟨y1,h1⟩:=hf 1 3 1 1 rfl zhh;obtain ⟨y2,h2⟩:=hf 2 3 2 1 rfl zhh;obtain ⟨y3,h3⟩:=hf 3 3 3 1 rfl zhh;obtain ⟨y4,h4⟩:=hf 4 3 4 1 rfl zhh;obtain ⟨y5,h5⟩:=hf 5 3 5 1 rfl zhh;obtain ⟨y6,h6⟩:=hf 6 130 6 1 rfl yxj;obtain ⟨y7,h7⟩:=hf 7 23 7 1 rfl yzh;obtain ⟨y8,h8⟩:=hf 8 135 8 6 rfl yfx;obtain ⟨s0,g0,e0⟩:=jy Tryz.underlying3 h0;obtain ⟨s1,g1,e1⟩:=jy Tryz.underlying3 h1;obtain ⟨s2,g2,e2⟩:=jy Tryz.underlying3 h2;obtain ⟨s3,g3,e3⟩:=jy Tryz.underlying3 h3;obtain ⟨s4,g4,e4⟩:=jy Tryz.underlying3 h4;obtain ⟨s5,g5,e5⟩:=jy Tryz.underlying3 h5;obtain ⟨s6,g6,e6,e6'⟩:=zel Ex.cells ExOK Tryz.underlying130 yfx (by decide) h6 (fun m cs x _ h=>ysz m cs x h);obtain ⟨s7,g7,e7,e7'⟩:=yxk h7;obtain ⟨s8,g8,e8⟩:=ysz _ _ _ h8;refine ⟨⟨s0,s1,s2,s3,s4,s5,s6,s7,s8⟩,?_,e0,e1,e2,e3,e4,e5,e6,e6',e7,e7',e8⟩;rw [Ex.cells_eq] at g8;exact g0.append (g1.append (g2.append (g3.append (g4.append (g5.append (g6.append (g7.append g8)))))))
structure Fact.ok (f:Fact):Prop where
 person:f.person.size<=9223372036854775807
 name:f.name.size<=9223372036854775807
 lo:i64 f.lo
 hi:i64 f.hi
 known:i64 f.known
 value:i64 f.value
theorem yta (h:DataW.trod enc Tryz.prog w 0 (fun _=>true) true fuel 58 cs=some x):∃d:Fact,Cs w cs d.cells/\Fact.ok d:=by
 obtain ⟨hl,n,hn,hf⟩:=zgv Tryz.underlying58 h;rw [ysx] at hl;obtain ⟨a0,a1,a2,a3,a4,a5,a6,rfl⟩:∃a0 a1 a2 a3 a4 a5 a6,cs=[a0,a1,a2,a3,a4,a5,a6]:=by match cs,hl with|[a0,a1,a2,a3,a4,a5,a6],_=>exact ⟨a0,a1,a2,a3,a4,a5,a6,rfl⟩
 obtain ⟨y0,h0⟩:=hf 0 9 0 1 rfl ynt;obtain ⟨y1,h1⟩:=hf 1 9 1 1 rfl ynt;obtain ⟨y2,h2⟩:=hf 2 3 2 1 rfl zhh;obtain ⟨y3,h3⟩:=hf 3 3 3 1 rfl zhh;obtain ⟨y4,h4⟩:=hf 4 3 4 1 rfl zhh;obtain ⟨y5,h5⟩:=hf 5 3 5 1 rfl zhh;obtain ⟨y6,h6⟩:=hf 6 4 6 1 rfl yxh;obtain ⟨s0,g0,e0⟩:=zhr Tryz.underlying9 h0;obtain ⟨s1,g1,e1⟩:=zhr Tryz.underlying9 h1;obtain ⟨s2,g2,e2⟩:=jy Tryz.underlying3 h2;obtain ⟨s3,g3,e3⟩:=jy Tryz.underlying3 h3;obtain ⟨s4,g4,e4⟩:=jy Tryz.underlying3 h4;obtain ⟨s5,g5,e5⟩:=jy Tryz.underlying3 h5;obtain ⟨s6,g6⟩:=ytx Tryz.underlying4 h6;exact ⟨⟨s0,s1,s2,s3,s4,s5,s6⟩,g0.append (g1.append (g2.append (g3.append (g4.append (g5.append g6))))),e0,e1,e2,e3,e4,e5⟩
structure Codex.ok (c:Codex):Prop where
 facts:c.facts.length<=9223372036854775807
 fact:∀d∈c.facts,Decl.ok d
 lines:c.lines.length<=9223372036854775807
 line:∀d∈c.lines,Decl.ok d
 arts:c.arts.length<=9223372036854775807
 art:∀a∈c.arts,Article.ok a
abbrev zid:Nat:=140737488351232
structure Rw.ok (r:Rw):Prop where
 label:r.label.size<=zid
 cents:i64 r.cents
 reason:r.reason.size<=zid
structure Shw.ok (s:Shw):Prop where
 index:i64 s.index
 label:s.label.size<=zid
 cents:i64 s.cents
 reason:s.reason.size<=zid
 blind:i64 s.blind
 path:s.path.length<=zid/\∀x∈s.path,x.sib<18446744073709551616
structure Sg.ok (s:Sg):Prop where
 index:i64 s.index
 chains:s.chains.length<=zid/\∀x∈s.chains,x<18446744073709551616
 path:s.path.length<=zid/\∀x∈s.path,x.sib<18446744073709551616
structure Disc.ok (d:Disc):Prop where
 person:d.person.size<=zid
 month:i64 d.month
 root:d.root<18446744073709551616
 commit:d.commit.length<=zid/\∀x∈d.commit,i64 x
 shown:d.shown.length<=zid/\∀s∈d.shown,Shw.ok s
 hidden:i64 d.hidden
 blind:i64 d.blind
 sig:Sg.ok d.sig
theorem Disc.ok.fit {d:Disc} (h:Disc.ok d):DFit d where
 person:=Nat.le_trans h.person (by decide)
 root:=h.root
 commit:=Nat.le_trans h.commit.1 (by decide)
 shown:=Nat.le_trans h.shown.1 (by decide)
 row:=fun s hs=>⟨Nat.le_trans (h.shown.2 s hs).label (by decide),Nat.le_trans (h.shown.2 s hs).reason (by decide),Nat.le_trans (h.shown.2 s hs).path.1 (by decide),(h.shown.2 s hs).path.2⟩
 chains:=h.sig.chains.2
 path:=⟨Nat.le_trans h.sig.path.1 (by decide),h.sig.path.2⟩
structure Slip.ok (s:Slip):Prop where
 person:s.person.size<=zid
 month:i64 s.month
 rows:s.rows.length<=zid/\∀r∈s.rows,Rw.ok r
 blinds:s.blinds.length<=zid/\∀b∈s.blinds,i64 b
 root:s.root<18446744073709551616
structure Ln.ok (l:Ln):Prop where
 day:i64 l.day
 line:i64 l.line
 art:i64 l.art
 amount:i64 l.amount
 facts:l.facts.length<=zid/\∀x∈l.facts,i64 x
 rests:l.rests.length<=zid/\∀x∈l.rests,i64 x
def Ln.cells (l:Ln):List D:=[dI l.day,dI l.line,dI l.art,dI l.amount,ye l.facts,ye l.rests]
theorem xaj (h:DataW.trod enc Tryz.prog w 0 (fun _=>true) true fuel 60 cs=some x) (hz:zsz Tryz.prog 60 x.1):∃d:Ln,Cs w cs d.cells/\Ln.ok d:=by
 obtain ⟨hl,n,_,hf⟩:=yli Tryz.underlying60 h hz;rw [show Tryz.prog.cellsOf 60=6 by kernel_rfl] at hl;obtain ⟨a0,a1,a2,a3,a4,a5,rfl⟩:∃a0 a1 a2 a3 a4 a5,cs=[a0,a1,a2,a3,a4,a5]:=by match cs,hl with|[a0,a1,a2,a3,a4,a5],_=>exact ⟨a0,a1,a2,a3,a4,a5,rfl⟩
 obtain ⟨y0,h0,z0⟩:=hf 0 3 0 1 rfl (by kernel_rfl);obtain ⟨y1,h1,z1⟩:=hf 1 3 1 1 rfl (by kernel_rfl);obtain ⟨y2,h2,z2⟩:=hf 2 3 2 1 rfl (by kernel_rfl);obtain ⟨y3,h3,z3⟩:=hf 3 3 3 1 rfl (by kernel_rfl);obtain ⟨y4,h4,z4⟩:=hf 4 23 4 1 rfl (by kernel_rfl);obtain ⟨y5,h5,z5⟩:=hf 5 23 5 1 rfl (by kernel_rfl);obtain ⟨s0,g0,e0⟩:=jy Tryz.underlying3 h0;obtain ⟨s1,g1,e1⟩:=jy Tryz.underlying3 h1;obtain ⟨s2,g2,e2⟩:=jy Tryz.underlying3 h2;obtain ⟨s3,g3,e3⟩:=jy Tryz.underlying3 h3;obtain ⟨s4,g4,e4⟩:=zyb (fun (n:Int)=>[dI n]) i64 Tryz.underlying23 (show Tryz.prog.cellsOf 3=1 by kernel_rfl) (by decide) (Nat.le_of_ble_eq_true (by kernel_rfl)) h4 z4 (fun _ _ _ _ h _=>by obtain ⟨n,h1,h2⟩:=jy Tryz.underlying3 h;exact ⟨n,h1,h2⟩);obtain ⟨s5,g5,e5⟩:=zyb (fun (n:Int)=>[dI n]) i64 Tryz.underlying23 (show Tryz.prog.cellsOf 3=1 by kernel_rfl) (by decide) (Nat.le_of_ble_eq_true (by kernel_rfl)) h5 z5 (fun _ _ _ _ h _=>by obtain ⟨n,h1,h2⟩:=jy Tryz.underlying3 h;exact ⟨n,h1,h2⟩);exact ⟨⟨s0,s1,s2,s3,s4,s5⟩,g0.append (g1.append (g2.append (g3.append (g4.append g5)))),e0,e1,e2,e3,e4,e5⟩
section
variable {v:Value} {d:DataW H} {ps:List MemPlace} {b0:Nat} {r:Reach}
theorem zmz {t:TypeId} {fs:Array Field} (ht:Tryz.prog.underlying t=some (.struct fs)) (hval:Value.okWide Tryz.prog w r b0 t v):∃vs,v= .agg vs:=by
 unfold Value.okWide at hval;rw [ht] at hval;obtain ⟨vs,h,_⟩:=hval;exact ⟨vs,h⟩
theorem openInt (hval:Value.okWide Tryz.prog w r b0 3 v) (h:DataW.Trod enc Tryz.prog w 0 (fun _=>true) true 3 v d ps):∃n:Int,i64 n/\Rep w (zya w) [] v (sI n):=by
 obtain ⟨n,rfl⟩:∃n,v= .int .i64 n:=by
  unfold Value.okWide at hval;rw [Tryz.underlying3] at hval;unfold Cell.okWide at hval;rw [Tryz.underlying3] at hval;cases v<;>simp [Cell.ok,Tryz.underlying3] at hval;obtain ⟨rfl,_⟩:=hval;exact ⟨_,rfl⟩
 obtain ⟨fuel,h⟩:=h;obtain ⟨m,h1,h2⟩:=jy Tryz.underlying3 h;exact ⟨m,h2,zvr rfl h1⟩
theorem openCodex (hval:Value.okWide Tryz.prog w r b0 55 v) (h:DataW.Trod enc Tryz.prog w 0 (fun _=>true) true 55 v d ps):∃a:Codex,Codex.ok a/\Rep w (zya w) [] v a.sv:=by
 obtain ⟨vs,rfl⟩:=zmz Tryz.underlying55 hval;obtain ⟨fuel,h⟩:=h;obtain ⟨hl,n,_,hf⟩:=zgv Tryz.underlying55 h;rw [yvg] at hl;obtain ⟨a,b,c,hvs⟩:=cs3 hl;rw [hvs] at hf;obtain ⟨y0,h0⟩:=hf 0 52 0 1 rfl yxi;obtain ⟨y1,h1⟩:=hf 1 52 1 1 rfl yxi;obtain ⟨y2,h2⟩:=hf 2 53 2 1 rfl yzg;obtain ⟨s0,g0,e0,e0'⟩:=zel Decl.cells Decl.ok Tryz.underlying52 ynr (by decide) h0 (fun _ _ _ _ h=>ysy h);obtain ⟨s1,g1,e1,e1'⟩:=zel Decl.cells Decl.ok Tryz.underlying52 ynr (by decide) h1 (fun _ _ _ _ h=>ysy h);obtain ⟨s2,g2,e2,e2'⟩:=zel Article.cells Article.ok Tryz.underlying53 yxg (by decide) h2 (fun _ _ _ _ h=>ynu h);refine ⟨⟨s0,s1,s2⟩,⟨e0,e0',e1,e1',e2,e2'⟩,zqh (ds:=[zp s0,zp s1,yv s2]) rfl ?_⟩;rw [show vs.toList=[a,b,c] from hvs];exact g0.append (g1.append g2)
theorem openFact (hval:Value.okWide Tryz.prog w r b0 58 v) (h:DataW.Trod enc Tryz.prog w 0 (fun _=>true) true 58 v d ps):∃a:Fact,Fact.ok a/\Rep w (zya w) [] v (.agg (a.cells.map .imm)):=by
 obtain ⟨vs,rfl⟩:=zmz Tryz.underlying58 hval;obtain ⟨fuel,h⟩:=h;obtain ⟨a,h1,h2⟩:=yta h;exact ⟨a,h2,zqh (ds:=a.cells) rfl h1⟩
theorem openLn (hval:Value.okWide Tryz.prog w r b0 60 v) (h:DataW.Trod enc Tryz.prog w 0 (fun _=>true) true 60 v d ps) (hz:zsz Tryz.prog 60 d):∃a:Ln,Ln.ok a/\Rep w (zya w) [] v (.agg ((Ln.cells a).map .imm)):=by
 obtain ⟨vs,rfl⟩:=zmz Tryz.underlying60 hval;obtain ⟨fuel,h⟩:=h;obtain ⟨a,h1,h2⟩:=xaj h hz;exact ⟨a,h2,zqh (ds:=Ln.cells a) rfl h1⟩
theorem openText (hval:Value.okWide Tryz.prog w r b0 9 v) (h:DataW.Trod enc Tryz.prog w 0 (fun _=>true) true 9 v d ps) (hz:zsz Tryz.prog 9 d):∃s:ByteArray,s.size<=zid/\Rep w (zya w) [] v (sS s):=by
 obtain ⟨n,rfl⟩:∃n,v= .string n:=by
  unfold Value.okWide at hval;rw [Tryz.underlying9] at hval;unfold Cell.okWide at hval;rw [Tryz.underlying9] at hval;cases v<;>simp [Cell.ok,Tryz.underlying9] at hval;exact ⟨_,rfl⟩
 obtain ⟨fuel,h⟩:=h;obtain ⟨m,h1,h2⟩:=yhl Tryz.underlying9 h hz;exact ⟨m,h2,zvr rfl h1⟩
theorem yvi {t e:TypeId} (ht:Tryz.prog.underlying t=some (.slice e)) (hval:Value.okWide Tryz.prog w r b0 t v):∃p a b,v= .slice p a b:=by
 unfold Value.okWide at hval;rw [ht] at hval;unfold Cell.okWide at hval;rw [ht] at hval;cases v<;>simp [Cell.ok,ht] at hval;exact ⟨_,_,_,rfl⟩
theorem openFacts (hval:Value.okWide Tryz.prog w r b0 56 v) (h:DataW.Trod enc Tryz.prog w 0 (fun _=>true) true 56 v d ps):∃l:List Fact,(l.length<=9223372036854775807/\∀f∈l,Fact.ok f)/\Rep w (zya w) [] v (.imm (yz l)):=by
 obtain ⟨p,a,b,rfl⟩:=yvi Tryz.underlying56 hval;obtain ⟨fuel,h⟩:=h;obtain ⟨l,h1,h2,h3⟩:=zel Fact.cells Fact.ok Tryz.underlying56 ysx (by decide) h (fun _ _ _ _ h=>yta h);exact ⟨l,⟨h2,h3⟩,zvr rfl h1⟩
end
end
open Go Go.Sh Go.ChangeShapes Go.WideShapes Go.ChangeAt Go.RowKit
theorem own:ownKnob Tryz.prog.godebug=none:=by kernel_rfl
theorem kids:Kids Tryz.prog (· <Tryz.prog.types.size):=kids_rows (by kernel_rfl) (by kernel_rfl)
theorem full:∀t e,t<Tryz.prog.types.size->Tryz.prog.underlying t=some (.slice e)->0<Tryz.prog.cellsOf e:=slices_full_of Tryz.prog (by kernel_rfl)
theorem resBool:Tryz.prog.underlying 4=some .bool:=Tryz.underlying4
abbrev zsb:List (String × DataW Unit):=[("math/bits.deBruijn32tab",Rows.laid_math_bits_deBruijn32tab),("math/bits.deBruijn64tab",Rows.laid_math_bits_deBruijn64tab),("internal/strconv.uint64pow10",Rows.laid_internal_strconv_uint64pow10),("wageoffice/commitment.generators",Rows.laid_wageoffice_commitment_generators),("wageoffice/digest.digits",Rows.laid_wageoffice_digest_digits)]
theorem zcb {P:Program} {x:String × DataW Unit} {rest:List (String × DataW Unit)} {W:World} (h:laidMet P (x::rest) W):laidMet P rest W:=by
 obtain ⟨ps,⟨_,_,_,_,_,q,_,_,_,_,hr,e⟩,hn,hc⟩:=h;subst e;exact ⟨q,hr,(List.nodup_append.1 hn).2.1,fun b off hb=>hc b off (List.mem_append_right _ hb)⟩
theorem zna {W:World} (h:laidMetH Tryz.prog zsb W):laidMet Tryz.prog zsb W:=h
theorem ytb {W:World} (h:laidMetH Tryz.prog zsb W):Lib.TabIs Tryz.prog W "internal/strconv.uint64pow10" .u64 Lib.pow10Tab:=
 Lib.tabIs_of_head (g:=2) (t:=254) (e:=24) (n:=20) (by kernel_rfl) (by kernel_rfl) Tryz.underlying254 Tryz.underlying24 (by kernel_rfl) (by kernel_rfl) (zcb (zcb (zna h)))
theorem yxm {W:World} (h:laidMetH Tryz.prog zsb W):Lib.TabIs Tryz.prog W "wageoffice/commitment.generators" .i64 [4,9]:=
 Lib.tabIs_of_head (g:=0) (t:=146) (e:=3) (n:=2) (by kernel_rfl) (by kernel_rfl) Tryz.underlying146 Tryz.underlying3 (by kernel_rfl) (by kernel_rfl) (zcb (zcb (zcb (zna h))))
theorem yxn {W:World} (h:laidMetH Tryz.prog zsb W):Lib.TabIs Tryz.prog W "wageoffice/digest.digits" .u8 [48,49,50,51,52,53,54,55,56,57,97,98,99,100,101,102]:=
 Lib.tabIs_of_head (g:=1) (t:=197) (e:=5) (n:=16) (by kernel_rfl) (by kernel_rfl) Tryz.underlying197 Tryz.underlying5 (by kernel_rfl) (by kernel_rfl) (zcb (zcb (zcb (zcb (zna h)))))
theorem zup {W:World} {name:String} {k:IntKind} {zs:List Int} {g:Nat} (h:Lib.TabIs Tryz.prog W name k zs) (hg:Tryz.prog.globalNamed name=some g) (h0:0<zs.length):DRep W (zya W) (.pointer (some ⟨g,0,none⟩)) (.row (zs.map fun z=>.val (.int k z)) 0):=by
 have hc:=fun i hi=>h.cell hg i hi
 have hb:g<W.heap.size:=(zkz (hc 0 h0)).2;refine .row g 0 _ 0 (fun j=>.int k (zs.getD j 0)) (fun j hj=>?_) (fun j hj=>?_)
 ·have hj':j<zs.length:=by simpa using hj
  rw [Nat.zero_add];exact ⟨hb,hc j hj',rfl⟩
 ·have hj':j<zs.length:=by simpa using hj
  have e:(zs.map fun z=>D.val (.int k z))[j]'hj= .val (.int k (zs.getD j 0)):=by
   simp only [List.getElem_map];rw [List.getD_eq_getElem?_getD,List.getElem?_eq_getElem hj'];rfl
  rw [e];exact .val _
theorem globals_ok {W:World} (h:laidMetH Tryz.prog zsb W):∀g d,(g,d)∈G37->DRep W (zya W) (.pointer (some ⟨g,0,none⟩)) d:=by
 intro g d hg;simp only [G37,List.mem_cons,List.not_mem_nil,or_false] at hg;rcases hg with hg|hg|hg
 ·cases hg
  have hb:2<W.heap.size:=(zkz ((ytb h).cell (show Tryz.prog.globalNamed "internal/strconv.uint64pow10" =some 2 by kernel_rfl) 0 (by decide))).2;refine .tab _ _ fun o=>⟨hb,?_⟩
  have h1:=World.var?_cell (show Tryz.prog.globalNamed "internal/strconv.uint64pow10" =some 2 by kernel_rfl) (ytb h) o;rw [h1];simp
 ·cases hg
  exact zup (yxm h) (by kernel_rfl) (by decide)
 ·cases hg
  exact zup (yxn h) (by kernel_rfl) (by decide)
def ynv (k:IntKind) (zs:List Int):Array Value:=(zs.map fun z=>Value.int k z).toArray
def yzi:List Int:=[0,1,28,2,29,14,24,3,30,22,20,15,25,17,4,8,31,27,13,23,21,19,16,7,26,12,18,6,11,5,10,9]
def yzj:List Int:=[0,1,56,2,57,49,28,3,61,58,42,50,38,29,17,4,62,47,59,36,45,43,51,22,53,39,33,30,24,18,12,5,63,55,48,27,60,41,37,16,46,35,44,21,52,32,23,11,54,26,40,15,34,20,31,10,25,14,19,9,13,8,7,6]
def lay (g:Nat) (cs:Array Value) (h:Array Obj):Array Obj:=h.modify g fun
 | .cells _ t frozen=>.cells cs t frozen
 |o=>o
noncomputable def laidWorld (os : Os) : World :=
  { World.holding Tryz.prog os ⟨#[], #[], []⟩ with heap := lay 4 (ynv .u8 yzi) (lay 5 (ynv .u8 yzj) (lay 2 (ynv .u64 Lib.pow10Tab) (lay 0 (ynv .i64 [4, 9])
      (lay 1 (ynv .u8 [48, 49, 50, 51, 52, 53, 54, 55, 56, 57, 97, 98, 99, 100, 101, 102]) (World.holding Tryz.prog os ⟨#[], #[], []⟩).heap)))) }
theorem laid_met (os:Os) (args:Array Value):laidMet Tryz.prog zsb ((laidWorld os).forCall (fun _ _=>0) ⟨#[],args,[]⟩).memory:=
 laidMet_of_run' 8 (by kernel_rfl) (by kernel_rfl)
theorem zth (rows:List Rw) (blinds:List Int) (hl:blinds.length=rows.length) (hn:rows.length<=1024) (hr:∀r∈rows,r.label.size<=100000/\r.reason.size<=100000) (hbad:¬∀r∈rows, -500000000<=r.cents/\r.cents<=500000000) (hb:∀b∈blinds,0<=b/\b<1073741789):
  zv Tryz.prog G37 83 [.imm (zok rows),.imm (xh blinds)] (.tup [.imm (.val (.slice none 0 0)),sB false]):=by
 have hml:(rows.map Rw.cells).length=rows.length:=by simp
 refine zf Tryz.func83 rfl (by rw [Tryz.ntmps83];simp) rfl rfl ?_;intro E hH hK;(refine zg ?_;conv=>whnf);refine zje (n:=6) (kk:=1) rfl ?_;refine zi [1,6,11,12,13] ?_;change SW E _ [(1,.imm (xh blinds)),(6,.asl 0 1 (([]:List ByteArray).map fun s=>[dS s])),(11,.imm (zok rows)),(12,sI (rows.map Rw.cells).length),(13,sI (0:Nat))] [.tok 1 (([]:List ByteArray).map fun s=>[dS s]).length];refine zr rows (fun i (l:List ByteArray)=>[(1,.imm (xh blinds)),(6,.asl 0 1 (l.map fun s=>[dS s])),(11,.imm (zok rows)),(12,sI (rows.map Rw.cells).length),(13,sI i)]) (fun _ l=>[.tok 1 (l.map fun s=>[dS s]).length])
  (fun done rest l=>(∀r∈done, -500000000<=r.cents/\r.cents<=500000000)/\l.length=done.length) [] ⟨fun r hr=>(by cases hr),rfl⟩ ?_ ?_
 ·rintro l ⟨h1,h2⟩
  exact absurd h1 hbad
 ·rintro done r rest l hda hdl ⟨h1,h2⟩ ih
  have hw:=zk (n:=done.length) (by omega);have hrow:(rows.map Rw.cells)[((done.length:Nat):Int).toNat]?=some r.cells:=by simp [hda]
  obtain ⟨b,hbb⟩:∃b,blinds[done.length]?=some b:=⟨_,List.getElem?_eq_getElem (by omega)⟩;have hrb:(blinds.map fun (n:Int)=>[dI n])[((done.length:Nat):Int).toNat]?=some [dI b]:=by simp [hbb]
  have hdr:blinds.drop done.length=b::blinds.drop (done.length+1):=by
   rw [List.drop_eq_getElem_cons (by omega)];rw [List.getElem?_eq_getElem (by omega)] at hbb;rw [Option.some.inj hbb]
  have hbr:=hb b (List.mem_of_getElem? hbb);obtain ⟨f1,f2⟩:=hr r (by rw [hda];simp);have hlt:=zsa r b;have c0:=zny G37 r.cents
  by_cases hin: -500000000<=r.cents/\r.cents<=500000000
  case neg=>
   have hd:(decide (-500000000<=r.cents)&&decide (r.cents<=500000000))=false:=by
    cases hx:(decide (-500000000<=r.cents)&&decide (r.cents<=500000000)) with
    |false=>rfl
    |true=>simp only [Bool.and_eq_true,decide_eq_true_eq] at hx;exact absurd hx hin
   rw [hd] at c0;clear hd hin ih hlt;obtain ⟨la,ce,re⟩:=r;simp only at c0;(refine zg ?_;conv=>whnf)
   repeat' ((with_reducible refine way ?_ ?_)<;>(intro h;conv=>whnf))
   all_goals try (exfalso;omega)
   refine zh rfl rfl  hrow ?_;(refine zc ?_;conv=>whnf);refine ze rfl  c0 ?_;(refine zc ?_;conv=>whnf);exact hK _
  obtain ⟨f3,f4⟩:=hin
  have hnx:=ih (l++[zdi r.label (zuo r b) r.reason]) ⟨fun r' hr'=>by
   rcases List.mem_append.1 hr' with h|h
   ·exact h1 r' h
   ·rw [List.mem_singleton.1 h];exact ⟨f3,f4⟩,by simp [h2]⟩
  rw [List.map_append,List.length_append] at hnx;rw [decide_eq_true f3,decide_eq_true f4] at c0;have c1:=zic r.cents b ⟨f3,f4⟩ hbr;change zv _ _ _ _ (.tup [sI (zuo r b),_]) at c1;have c2:=zgu r.label (zuo r b) r.reason f1 f2 ⟨by omega,by omega⟩;generalize zdi r.label (zuo r b) r.reason=lf at c2 hnx;generalize zuo r b=cm at c1 c2 hlt;clear ih h1 hdr;obtain ⟨la,ce,re⟩:=r;simp only at f3 f4 c0 c1 c2;have hws:IntKind.i64.wrap (ce+1073741789)=ce+1073741789:=yg (by omega) (by omega);(refine zg ?_;conv=>whnf)
  repeat' ((with_reducible refine way ?_ ?_)<;>(intro h;conv=>whnf))
  all_goals try (exfalso;omega)
  refine zh rfl rfl  hrow ?_;(refine zc ?_;conv=>whnf);refine ze rfl  c0 ?_;(refine zc ?_;conv=>whnf);(refine zt mixed rfl ?_;refine zd [] ?_;conv=>whnf);refine yc rfl rfl  hrb ?_;(refine zd [] ?_;conv=>whnf);rw [hws];refine zu rfl  c1 ?_;(refine zd [] ?_;conv=>whnf);(refine zg ?_;conv=>whnf);refine ze rfl  c2 ?_;(refine zc ?_;conv=>whnf);refine yy (b:=0) (kk:=1) (rows:=l.map fun s=>[dS s]) (new:=[[dS lf]]) rfl ⟨by decide,rfl⟩ rfl (by rw [List.length_map];simp only [List.length_cons,List.length_nil];omega) ?_;(refine zc ?_;conv=>whnf);rw [hw];exact yq [1,6,11,12,13] 1 (by rw [hH];exact Nat.zero_le _) (Nat.succ_le_succ (Nat.zero_le _)) rfl rfl hnx
def ytc (x:Int) (r:List Int):Int:=r.foldl (fun m y=>if y<m then y else m) x
def ytd (x:Int) (r:List Int):Int:=r.foldl (fun m y=>if y>m then y else m) x
theorem yrp (G:List (Nat × D)) (x:Int) (r:List Int) (hl:r.length<=1000000):zv Tryz.prog G 81 [.imm (xh (x::r))] (sI (ytc x r)):=by
 have hml:((x::r).map fun (n:Int)=>[dI n]).length=r.length+1:=by simp
 refine zf Tryz.func81 rfl (by rw [Tryz.ntmps81];simp) rfl rfl ?_;intro E hH hK;(refine zg ?_;conv=>whnf)
 repeat' ((with_reducible refine way ?_ ?_)<;>(intro h;conv=>whnf))
 all_goals try (exfalso;omega)
 refine zh (i:=0) (row:=[dI x]) rfl rfl rfl ?_;(refine zc ?_;conv=>whnf);refine zi [0,3,4] ?_;change SW E _ [(0,.imm (xh (x::r))),(3,sI x),(4,sI (1:Nat))] [];refine zr r (fun i (m:Int)=>[(0,.imm (xh (x::r))),(3,sI m),(4,sI (i+1:Nat))]) (fun _ _=>[]) (fun done rest m=>ytc x r=ytc m rest) x rfl ?_ ?_
 ·rintro m h1
  have h1:ytc x r=m:=h1;rw [h1] at hK;(refine zg ?_;conv=>whnf)
  repeat' ((with_reducible refine way ?_ ?_)<;>(intro h;conv=>whnf))
  all_goals try (exfalso;omega)
  exact hK _
 ·rintro done y rest m hda hdl h1 ih
  have hw:=zk (n:=done.length+1) (by omega);have hrow:((x::r).map fun (n:Int)=>[dI n])[done.length+1]?=some [dI y]:=by simp [hda]
  have hnx:=ih (if y<m then y else m) h1;(refine zg ?_;conv=>whnf)
  repeat' ((with_reducible refine way ?_ ?_)<;>(intro h;conv=>whnf))
  all_goals try (exfalso;omega)
  refine zh (i:=done.length+1) (row:=[dI y]) rfl rfl hrow ?_;(refine zc ?_;conv=>whnf);rw [hw];exact zi [0,3,4] hnx
theorem yrq (G:List (Nat × D)) (x:Int) (r:List Int) (hl:r.length<=1000000):zv Tryz.prog G 82 [.imm (xh (x::r))] (sI (ytd x r)):=by
 have hml:((x::r).map fun (n:Int)=>[dI n]).length=r.length+1:=by simp
 refine zf Tryz.func82 rfl (by rw [Tryz.ntmps82];simp) rfl rfl ?_;intro E hH hK;(refine zg ?_;conv=>whnf)
 repeat' ((with_reducible refine way ?_ ?_)<;>(intro h;conv=>whnf))
 all_goals try (exfalso;omega)
 refine zh (i:=0) (row:=[dI x]) rfl rfl rfl ?_;(refine zc ?_;conv=>whnf);refine zi [0,3,4] ?_;change SW E _ [(0,.imm (xh (x::r))),(3,sI x),(4,sI (1:Nat))] [];refine zr r (fun i (m:Int)=>[(0,.imm (xh (x::r))),(3,sI m),(4,sI (i+1:Nat))]) (fun _ _=>[]) (fun done rest m=>ytd x r=ytd m rest) x rfl ?_ ?_
 ·rintro m h1
  have h1:ytd x r=m:=h1;rw [h1] at hK;(refine zg ?_;conv=>whnf)
  repeat' ((with_reducible refine way ?_ ?_)<;>(intro h;conv=>whnf))
  all_goals try (exfalso;omega)
  exact hK _
 ·rintro done y rest m hda hdl h1 ih
  have hw:=zk (n:=done.length+1) (by omega);have hrow:((x::r).map fun (n:Int)=>[dI n])[done.length+1]?=some [dI y]:=by simp [hda]
  have hnx:=ih (if y>m then y else m) h1;(refine zg ?_;conv=>whnf)
  repeat' ((with_reducible refine way ?_ ?_)<;>(intro h;conv=>whnf))
  all_goals try (exfalso;omega)
  refine zh (i:=done.length+1) (row:=[dI y]) rfl rfl hrow ?_;(refine zc ?_;conv=>whnf);rw [hw];exact zi [0,3,4] hnx
theorem ynw (c:Int):∀(r:List Int) (x:Int),ytc x r<c ↔ ∃y∈x::r,y<c
 |[],x=>by simp [ytc]
 |y::r,x=>by
  show ytc (if y<x then y else x) r<c ↔ _;rw [ynw c r];simp only [List.mem_cons,exists_eq_or_imp];split
  ·constructor
   ·rintro (h|h)
    ·exact .inr (.inl h)
    ·exact .inr (.inr h)
   ·rintro (h|h|h)
    ·exact .inl (by omega)
    ·exact .inl h
    ·exact .inr h
  ·constructor
   ·rintro (h|h)
    ·exact .inl h
    ·exact .inr (.inr h)
   ·rintro (h|h|h)
    ·exact .inl h
    ·exact .inl (by omega)
    ·exact .inr h
theorem ynx (c:Int):∀(r:List Int) (x:Int),c<=ytd x r ↔ ∃y∈x::r,c<=y
 |[],x=>by simp [ytd]
 |y::r,x=>by
  show c<=ytd (if y>x then y else x) r ↔ _;rw [ynx c r];simp only [List.mem_cons,exists_eq_or_imp];split
  ·constructor
   ·rintro (h|h)
    ·exact .inr (.inl h)
    ·exact .inr (.inr h)
   ·rintro (h|h|h)
    ·exact .inl (by omega)
    ·exact .inl h
    ·exact .inr h
  ·constructor
   ·rintro (h|h)
    ·exact .inl h
    ·exact .inr (.inr h)
   ·rintro (h|h|h)
    ·exact .inl h
    ·exact .inl (by omega)
    ·exact .inr h
structure SlipGood (s:Slip):Prop where
 name:xq s.person=true
 month:0<=s.month/\s.month<=1199
 rows:1<=s.rows.length/\s.rows.length<=1024
 blinds:s.blinds.length=s.rows.length
 blind:∀b∈s.blinds,0<=b/\b<1073741789
 cents:∀r∈s.rows, -500000000<=r.cents/\r.cents<=500000000
 root:zki (zaz s.rows s.blinds)=s.root
theorem yiw (la:ByteArray) (c:Int) (re:ByteArray) (h1:la.size<=100000) (h2:re.size<=100000) (h3: -9000000000000000000<=c/\c<=9000000000000000000):(zdi la c re).size<=300000:=by
 have z1:=wy (la.size:Int) (by omega) (by omega);have z2:=wy c (by omega) (by omega);unfold zdi;simp only [ByteArray.size_append];show (ql la.size).size+1+la.size+(ql c).size+1+re.size<=_;omega
theorem ziu:∀(rs:List Rw) (bs:List Int),(∀r∈rs,r.label.size<=100000/\r.reason.size<=100000)->∀x∈zaz rs bs,x.size<=300000
 |[],_,_,x,hx=>by cases hx
 |_::_,[],_,x,hx=>by cases hx
 |r::rs,b::bs,h,x,hx=>by
  rcases List.mem_cons.1 hx with rfl|hx
  ·have:=zsa r b
   exact yiw _ _ _ (h r (by simp)).1 (h r (by simp)).2 ⟨by omega,by omega⟩
  ·exact ziu rs bs (fun r hr=>h r (by simp [hr])) x hx
theorem zti (s:Slip) (hr:∀r∈s.rows,r.label.size<=100000/\r.reason.size<=100000) (hn:s.rows.length<=1000000) (hbn:s.blinds.length<=1000000) (b:Bool) (hb:b=true ↔ SlipGood s):
  zv Tryz.prog G37 37 [s.sv] (sB b):=by
 have no:¬SlipGood s->b=false:=fun h=>by cases hbb:b with|false=>rfl|true=>exact absurd (hb.1 hbb) h
 have c0:=zwp G37 s.person;obtain ⟨nm,hnm⟩:∃x,x=xq s.person:=⟨_,rfl⟩;rw [<-hnm] at c0;obtain ⟨person,month,rows,blinds,root⟩:=s;simp only at c0 hr hn hbn hnm;have hml:(rows.map Rw.cells).length=rows.length:=by simp
 have hbl:(blinds.map fun (n:Int)=>[dI n]).length=blinds.length:=by simp
 refine zf Tryz.func37 rfl (by rw [Tryz.ntmps37];simp) rfl rfl ?_;intro E hH hK;(refine zg ?_;conv=>whnf);refine ze rfl  c0 ?_;cases nm with
 |false=>
  rw [no (fun h=>by have:=h.name;rw [<-hnm] at this;cases this)] at hK;(refine zc ?_;conv=>whnf);exact hK _
 |true=>
 have hno:¬(0<=month/\month<=1199/\1<=rows.length/\rows.length<=1024/\blinds.length=rows.length)->∀X,E.K (sB false) X:=fun h X=>by
  have:=hK X;rw [no (fun g=>h ⟨g.month.1,g.month.2,g.rows.1,g.rows.2,g.blinds⟩)] at this;exact this
 have hno2:¬(∀b∈blinds,0<=b/\b<1073741789)->∀X,E.K (sB false) X:=fun h X=>by
  have:=hK X;rw [no (fun g=>h g.blind)] at this;exact this
 have hno3:¬(∀r∈rows, -500000000<=r.cents/\r.cents<=500000000)->∀X,E.K (sB false) X:=fun h X=>by
  have:=hK X;rw [no (fun g=>h g.cents)] at this;exact this
 (refine zc ?_;conv=>whnf)
 repeat' ((with_reducible refine way ?_ ?_)<;>(intro h;conv=>whnf))
 ·have h':1199<month:=h
  exact hno (by omega) _
 ·have h':¬(((blinds.map fun (n:Int)=>[dI n]).length:Nat):Int)=(((rows.map Rw.cells).length:Nat):Int):=h
  exact hno (by omega) _
 ·have k1:¬month<0:=by assumption
  have k2:¬1199<month:=by assumption
  have k3:¬(((rows.map Rw.cells).length:Nat):Int)<1:=by assumption
  have k4:¬1024<(((rows.map Rw.cells).length:Nat):Int):=by assumption
  have k5:(((blinds.map fun (n:Int)=>[dI n]).length:Nat):Int)=(((rows.map Rw.cells).length:Nat):Int):=h;have hlen:blinds.length=rows.length:=by omega
  obtain ⟨x,r,hxr⟩:∃x r,blinds=x::r:=by
   cases blinds with
   |nil=>simp only [List.length_nil] at hlen;omega
   |cons x r=>exact ⟨x,r,rfl⟩
  have c1:=yrp G37 x r (by rw [hxr] at hlen;simp only [List.length_cons] at hlen;omega);have c2:=yrq G37 x r (by rw [hxr] at hlen;simp only [List.length_cons] at hlen;omega);rw [<-hxr] at c1 c2;have m1:=ynw 0 r x;have m2:=ynx 1073741789 r x;rw [<-hxr] at m1 m2;generalize ytc x r=mi at c1 m1;generalize ytd x r=ma at c2 m2;refine ze rfl  c1 ?_;(refine zc ?_;conv=>whnf)
  repeat' ((with_reducible refine way ?_ ?_)<;>(intro h;conv=>whnf))
  ·refine ze rfl  c2 ?_
   (refine zc ?_;conv=>whnf)
   repeat' ((with_reducible refine way ?_ ?_)<;>(intro h;conv=>whnf))
   ·exact hno2 (fun g=>by
     obtain ⟨y,hy,hy2⟩:=m2.1 h;have:=g y hy
     omega) _
   ·have hbg:∀b∈blinds,0<=b/\b<1073741789:=fun y hy=>by
     have n1:¬mi<0:=by assumption
     have n2:¬1073741789<=ma:=h;rw [m1] at n1;rw [m2] at n2;have e1:¬y<0:=fun e=>n1 ⟨y,hy,e⟩
     have e2:¬1073741789<=y:=fun e=>n2 ⟨y,hy,e⟩
     omega
    by_cases hc:∀r∈rows, -500000000<=r.cents/\r.cents<=500000000
    case neg=>
     have c3:=zth rows blinds hlen (by omega) hr hc hbg;refine ze rfl  c3 ?_;(refine zc ?_;conv=>whnf);exact hno3 hc _
    have c3:=yaf rows blinds hlen (by omega) (fun r hx=>⟨(hr r hx).1,(hr r hx).2,(hc r hx).1,(hc r hx).2⟩) hbg;have hll:=zef rows blinds hlen;have c4:=zrv G37 (zaz rows blinds) (by rw [hll];omega) (by rw [hll];omega) (fun x hx=>by have:=ziu rows blinds hr x hx;omega);have hbb:b=decide (zki (zaz rows blinds)=root):=by
     cases hx:decide (zki (zaz rows blinds)=root) with
     |true=>exact hb.2 ⟨hnm.symm,⟨show 0<=month by omega,show month<=1199 by omega⟩,⟨show 1<=rows.length by omega,show rows.length<=1024 by omega⟩,hlen,hbg,hc,of_decide_eq_true hx⟩
     |false=>exact no fun g=>(of_decide_eq_false hx) g.root
    rw [hbb] at hK;generalize zki (zaz rows blinds)=rt at c4 hK;generalize zaz rows blinds=lv at c3 c4;refine ze rfl  c3 ?_;(refine zc ?_;conv=>whnf);refine ze rfl  c4 ?_;(refine zc ?_;conv=>whnf);exact kB hK (decide_eq_decide.2 ⟨fun h=>(by show ((rt:Nat):Int)=((root:Nat):Int);omega),fun h=>(by have h':((rt:Nat):Int)=((root:Nat):Int):=h;omega)⟩)
  ·exact hno2 (fun g=>by
    obtain ⟨y,hy,hy2⟩:=m1.1 h;have:=g y hy
    omega) _
 ·have h':1024<(((rows.map Rw.cells).length:Nat):Int):=h
  exact hno (by omega) _
 ·have h':(((rows.map Rw.cells).length:Nat):Int)<1:=h
  exact hno (by omega) _
 ·have h':month<0:=h
  exact hno (by omega) _
def paysT:ByteArray:=⟨#[112,97,121,115,108,105,112]⟩
def spT:ByteArray:=⟨#[32]⟩
def zjo (person:ByteArray) (month:Int) (root:Nat) (cs:List Int):List ByteArray:=[paysT,person,ql month,zex root]++cs.map ql
theorem zwr (person:ByteArray) (month:Int) (root:Nat) (cs:List Int) (hp:person.size<=1000) (hm:0<=month/\month<=1199) (hr:root<18446744073709551616) (hc:∀c∈cs,0<=c/\c<=9000000000000000000) (hn:cs.length<=1024):
  zv Tryz.prog G37 42 [sS person,sI month,wu root,.imm (xh cs)] (sS (zhg spT (zjo person month root cs))):=by
 have c1:=ztc zgt month (by omega) (by omega);have z1:=wy month (by omega) (by omega);have c2:=zrq root hr;have z2:=jz root;have hml:(cs.map fun (n:Int)=>[dI n]).length=cs.length:=by simp
 have hsz:szs (cs.map ql)<=21*cs.length:=by
  clear hn hml
  induction cs with
  |nil=>simp [szs]
  |cons c cs ih=>
   have h1:=hc c (by simp);have h2:=wy c (by omega) (by omega);have h3:=ih (fun c h=>hc c (by simp [h]));rw [List.map_cons,zah,List.length_cons];omega
 have hj:=zee spT ([person,ql month,zex root]++cs.map ql) paysT.data.toList;have hsp:spT.size=1:=rfl;have hpl:paysT.data.toList.length=7:=rfl;have hss:szs ([person,ql month,zex root]++cs.map ql)=person.size+((ql month).size+((zex root).size+szs (cs.map ql))):=by
  show szs (person::ql month::zex root::cs.map ql)=_;simp only [zah]
 have hll:([person,ql month,zex root]++cs.map ql).length=3+cs.length:=by simp;omega
 rw [hsp,hpl,hss,hll,Nat.one_mul] at hj;have c3:=zun G37 spT paysT ([person,ql month,zex root]++cs.map ql) (by simp) (by omega) (by omega) (by omega);change zv _ _ _ [.imm (xf (zjo person month root cs)),_] (sS (zhg spT (zjo person month root cs))) at c3;unfold zjo at c3 ⊢;generalize ql month=s1 at*;generalize zex root=s2 at*;generalize hres:zhg spT ([paysT,person,s1,s2]++cs.map ql)=res at c3 ⊢;have c4:zv Tryz.prog G37 90 [.imm (xf ([paysT,person,s1,s2]++cs.map ql))] (sS res):=by
  refine zf Tryz.func90 rfl (by rw [Tryz.ntmps90];simp) rfl rfl ?_;intro E hH hK;(refine zg ?_;conv=>whnf);refine ze rfl  c3 ?_;(refine zc ?_;conv=>whnf);exact hK _
 refine zf Tryz.func42 rfl (by rw [Tryz.ntmps42];simp) rfl rfl ?_;intro E hH hK;(refine zg ?_;conv=>whnf);refine ze rfl  c1 ?_;(refine zc ?_;conv=>whnf);refine ze rfl  c2 ?_;(refine zl [777,17] 1000 ?_;conv=>whnf);refine yhr (kk:=1) (rows:=[[dS paysT],[dS person],[dS s1],[dS s2]]) rfl rfl rfl rfl rfl ?_;(refine zc ?_;conv=>whnf);refine zi [3,9,18,19,20] ?_;change SW E _ [(3,.imm (xh cs)),(9,.asl 0 1 (([paysT,person,s1,s2]++([]:List Int).map ql).map fun s=>[dS s])),(18,.imm (xh cs)),(19,sI (cs.map fun (n:Int)=>[dI n]).length),(20,sI (0:Nat))] [.tok 1 (([paysT,person,s1,s2]++([]:List Int).map ql).map fun s=>[dS s]).length];refine zr cs (fun i (l:List ByteArray)=>[(3,.imm (xh cs)),(9,.asl 0 1 (l.map fun s=>[dS s])),(18,.imm (xh cs)),(19,sI (cs.map fun (n:Int)=>[dI n]).length),(20,sI i)]) (fun _ l=>[.tok 1 (l.map fun s=>[dS s]).length])
  (fun done _ l=>l=[paysT,person,s1,s2]++done.map ql) _ rfl ?_ ?_
 ·rintro l hl
  have hl:l=[paysT,person,s1,s2]++cs.map ql:=hl;rw [<-hl] at c4;refine zed ?_;change SW E _ [(3,.imm (xh cs)),(9,.imm (xf l)),(18,.imm (xh cs)),(19,sI (cs.map fun (n:Int)=>[dI n]).length),(20,sI cs.length)] _;(refine zg ?_;conv=>whnf)
  repeat' ((with_reducible refine way ?_ ?_)<;>(intro h;conv=>whnf))
  all_goals try (exfalso;omega)
  refine ze rfl  c4 ?_;(refine zc ?_;conv=>whnf);exact hK _
 ·rintro done c rest l hda hdl hl ih
  have hl:l=[paysT,person,s1,s2]++done.map ql:=hl;have hw:=zk (n:=done.length) (by omega);have hrow:(cs.map fun (n:Int)=>[dI n])[((done.length:Nat):Int).toNat]?=some [dI c]:=by simp [hda]
  have hcc:=hc c (by rw [hda];simp);have d1:=ztc zgt c (by omega) (by omega);have hlen:l.length=4+done.length:=by rw [hl];simp;omega
  have hnx:=ih (l++[ql c]) (by show l++[ql c]=_++(done++[c]).map ql;rw [hl];simp);rw [List.map_append,List.length_append] at hnx;generalize ql c=s3 at d1 hnx;(refine zg ?_;conv=>whnf)
  repeat' ((with_reducible refine way ?_ ?_)<;>(intro h;conv=>whnf))
  all_goals try (exfalso;omega)
  refine zh rfl rfl  hrow ?_;(refine zc ?_;conv=>whnf);refine ze rfl  d1 ?_;(refine zc ?_;conv=>whnf);refine yy (b:=0) (kk:=1) (rows:=l.map fun s=>[dS s]) (new:=[[dS s3]]) rfl ⟨by decide,rfl⟩ rfl (by rw [List.length_map];simp only [List.length_cons,List.length_nil];omega) ?_;(refine zc ?_;conv=>whnf);rw [hw];exact zi [3,9,18,19,20] hnx
variable (G:List (Nat × D))
theorem yny (i:Int):zck [i]=⟨#[UInt8.ofNat i.toNat]⟩:=rfl
theorem yix (n:Nat) (h:n<10):ql n=zck [48+(n:Int)]:=by
 rw [zqs _ (by omega) (by omega),Lib.itoa_nonneg,Lib.decDigits,dif_pos h,yny,show (48+(n:Int)).toNat=48+n by omega]
theorem yrr (n:Nat) (h:¬n<10) (hn:n<=1000000000000000000):ql n=ql (n / 10:Nat)++zck [48+((n % 10:Nat):Int)]:=by
 rw [zqs _ (by omega) (by omega),zqs _ (by omega) (by omega),Lib.itoa_nonneg,Lib.itoa_nonneg,Lib.decDigits,dif_neg h,yny,show (48+((n % 10:Nat):Int)).toNat=48+n % 10 by omega]
 apply ByteArray.ext
 simp [ByteArray.data_append]
theorem w8 (n:Nat) (h:n<10):IntKind.u8.wrap (IntKind.i64.wrap (48+(n:Int)))=48+(n:Int):=by
 have e:48+(n:Int)=((48+n:Nat):Int):=by omega
 rw [yg (by omega) (by omega),e,yui];omega
theorem zkl:∀(k n:Nat),n<k->n<=1000000000000000000->zv Tryz.prog G 118 [sI n] (sS (ql n))
 |0,n,h,_=>by omega
 |k+1,n,h,hn=>by
  by_cases h10:n<10
  ·have e:=yix n h10
   have hw:=w8 n h10;rw [e];refine zf Tryz.func118 rfl (by rw [Tryz.ntmps118];simp) rfl rfl ?_;intro E hH hK;rw [<-hw] at hK;(refine zg ?_;conv=>whnf)
   repeat' ((with_reducible refine way ?_ ?_)<;>(intro h;conv=>whnf))
   all_goals try (exfalso;omega)
   exact hK _
  ·have e:=yrr n h10 hn
   have ih:=zkl k (n / 10) (by omega) (by omega);have hz:=wy (n / 10:Nat) (by omega) (by omega);have hw:=w8 (n % 10) (by omega);have hm:(n:Int).tmod 10=((n % 10:Nat):Int):=by rw [Int.tmod_eq_emod_of_nonneg (by omega)];rfl
   have hq:IntKind.i64.wrap ((n:Int).tdiv 10)=((n / 10:Nat):Int):=by rw [Int.tdiv_eq_ediv_of_nonneg (by omega),yg (by omega) (by omega)];rfl
   rw [e];generalize ql (n / 10:Nat)=pre at ih hz ⊢;refine zf Tryz.func118 rfl (by rw [Tryz.ntmps118];simp) rfl rfl ?_;intro E hH hK;(refine zg ?_;conv=>whnf)
   repeat' ((with_reducible refine way ?_ ?_)<;>(intro h;conv=>whnf))
   all_goals try (exfalso;omega)
   (refine zt mixed rfl ?_;refine zd [37] ?_;conv=>whnf);rw [hq];refine zu rfl  ih ?_;(refine zd [37] ?_;conv=>whnf);rw [hm,hw];refine zbh rfl rfl rfl rfl rfl (by show pre.size+1<=_;omega) ?_;(refine zd [] ?_;conv=>whnf);(refine zg ?_;conv=>whnf);exact hK _
theorem znz (label:ByteArray) (c:Nat) (reason:ByteArray) (h1:label.size<=100000) (h2:reason.size<=100000) (h3:c<=1000000000000000000):
  zv Tryz.prog G 77 [sS label,sI c,sS reason] (sS (zdi label c reason)):=by
 have c1:=zkl G (label.size+1) label.size (by omega) (by omega);have c2:=zkl G (c+1) c (by omega) h3;have z1:=wy (label.size:Int) (by omega) (by omega);have z2:=wy (c:Int) (by omega) (by omega);unfold zdi;generalize ql (label.size:Int)=s1 at*;generalize ql (c:Int)=s2 at*;refine zf Tryz.func77 rfl (by rw [Tryz.ntmps77];simp) rfl rfl ?_;intro E hH hK;(refine zg ?_;conv=>whnf);refine ze rfl  c1 ?_;refine jt rfl rfl rfl rfl rfl (by show s1.size+1<=_;omega) ?_;(refine zl [777,12] 1000 ?_;conv=>whnf);refine jt rfl rfl rfl rfl rfl (by simp only [ByteArray.size_append];show s1.size+1+label.size<=_;omega) ?_;(refine zl [777,15] 1000 ?_;conv=>whnf);refine ze rfl  c2 ?_;refine jt rfl rfl rfl rfl rfl (by simp only [ByteArray.size_append];show s1.size+1+label.size+s2.size<=_;omega) ?_;refine jt rfl rfl rfl rfl rfl (by simp only [ByteArray.size_append];show s1.size+1+label.size+s2.size+1<=_;omega) ?_;(refine zl [777,18] 1000 ?_;conv=>whnf);refine jt rfl rfl rfl rfl rfl (by simp only [ByteArray.size_append];show s1.size+1+label.size+s2.size+1+reason.size<=_;omega) ?_;(refine zc ?_;conv=>whnf);exact hK _
def yke:ByteArray:=⟨#[97,110,110]⟩
def shRows:List Rw:=[⟨⟨#[103,114,111,115,115]⟩,300000,⟨#[115,117,109]⟩⟩,⟨⟨#[116,97,120]⟩,30000,⟨#[116,97,120]⟩⟩]
def zgw:List Int:=[5,7]
def ynz:Nat:=zki (zaz shRows zgw)
def shSlip:Slip:=⟨yke,288,shRows,zgw,ynz⟩
theorem yiy:zv Tryz.prog G37 34 [] shSlip.sv:=by
 have c1:=zkk 300000 5 (by decide) (by decide);have c2:=zkk 30000 7 (by decide) (by decide);have d1:=znz G37 ⟨#[103,114,111,115,115]⟩ (ynq 300000 5) ⟨#[115,117,109]⟩ (by decide) (by decide) (Nat.le_trans (Nat.le_of_lt (Nat.mod_lt _ (by decide))) (by decide:2147483579<=1000000000000000000));have d2:=znz G37 ⟨#[116,97,120]⟩ (ynq 30000 7) ⟨#[116,97,120]⟩ (by decide) (by decide) (Nat.le_trans (Nat.le_of_lt (Nat.mod_lt _ (by decide))) (by decide:2147483579<=1000000000000000000));have hl:zaz shRows zgw=[zdi ⟨#[103,114,111,115,115]⟩ (ynq 300000 5:Nat) ⟨#[115,117,109]⟩,zdi ⟨#[116,97,120]⟩ (ynq 30000 7:Nat) ⟨#[116,97,120]⟩]:=rfl
 have c3:=zrv G37 (zaz shRows zgw) (by rw [hl];decide) (by rw [hl];decide) (fun x hx=>by
  have:=ziu shRows zgw (by decide) x hx
  omega)
 change zv _ _ _ _ (.tup [wu ynz,_]) at c3;rw [hl] at c3;unfold shSlip;generalize ynz=rt at c3 ⊢;generalize zdi ⟨#[103,114,111,115,115]⟩ (ynq 300000 5:Nat) ⟨#[115,117,109]⟩=l1 at*;generalize zdi ⟨#[116,97,120]⟩ (ynq 30000 7:Nat) ⟨#[116,97,120]⟩=l2 at*;clear hl;generalize ynq 300000 5=m1 at*;generalize ynq 30000 7=m2 at*;refine zf Tryz.func34 rfl (by rw [Tryz.ntmps34];simp) rfl rfl ?_;intro E hH hK;(refine zg ?_;conv=>whnf);refine zje (n:=2) (kk:=1) rfl ?_;refine zi [0,1,2,13,14,15] ?_;change SW E _ [(0,.ptr 0 0),(1,.ptr 1 0),(2,.asl 2 1 (([]:List ByteArray).map fun s=>[dS s])),(13,.imm (zok shRows)),(14,sI ((shRows.map Rw.cells).length:Nat)),(15,sI (0:Nat))]
  [.cells [.imm (zhf ⟨#[]⟩),sI 0,.imm (.val (.slice none 0 0)),.imm (.val (.slice none 0 0)),wu (0:Nat)],.cells [.imm (zhf yke),sI 288,.imm (zok shRows),.imm (xh zgw),wu (0:Nat)],.tok 1 (([]:List ByteArray).map fun s=>[dS s]).length]
 refine zr [0,1] (fun i (l:List ByteArray)=>[(0,.ptr 0 0),(1,.ptr 1 0),(2,.asl 2 1 (l.map fun s=>[dS s])),(13,.imm (zok shRows)),(14,sI ((shRows.map Rw.cells).length:Nat)),(15,sI i)])
  (fun _ l=>[.cells [.imm (zhf ⟨#[]⟩),sI 0,.imm (.val (.slice none 0 0)),.imm (.val (.slice none 0 0)),wu (0:Nat)],.cells [.imm (zhf yke),sI 288,.imm (zok shRows),.imm (xh zgw),wu (0:Nat)],.tok 1 (l.map fun s=>[dS s]).length])
  (fun (done:List Nat) _ l=>l=[l1,l2].take done.length) [] rfl ?_ ?_
 ·rintro l h
  have h:l=[l1,l2]:=h;subst h;refine zed ?_;change SW E _ [(0,.ptr 0 0),(1,.ptr 1 0),(2,.imm (xf [l1,l2])),(13,.imm (zok shRows)),(14,sI ((shRows.map Rw.cells).length:Nat)),(15,sI (2:Nat))] _;(refine zg ?_;conv=>whnf);refine ze rfl  c3 ?_;(refine zc ?_;conv=>whnf);exact hK _
 ·rintro done x rest l hda hdl h ih
  have h:l=[l1,l2].take done.length:=h
  match done,hda,h,ih with
  |[],hda,h,ih=>
   have h:l=[]:=h;subst h;have hnx:=ih [l1] rfl;(refine zg ?_;conv=>whnf);refine zh (i:=0) (row:=[dS ⟨#[103,114,111,115,115]⟩,dI 300000,dS ⟨#[115,117,109]⟩]) rfl rfl rfl ?_;(refine zc ?_;conv=>whnf);(refine zt mixed rfl ?_;refine zd [] ?_;conv=>whnf);refine yc (i:=0) (row:=[dI 5]) rfl rfl rfl ?_;(refine zd [] ?_;conv=>whnf);refine zu rfl  c1 ?_;(refine zd [] ?_;conv=>whnf);(refine zg ?_;conv=>whnf);refine ze rfl  d1 ?_;(refine zc ?_;conv=>whnf);refine yy (b:=2) (kk:=1) (rows:=([]:List ByteArray).map fun s=>[dS s]) (new:=[[dS l1]]) rfl ⟨show 16<=65536 by decide,rfl⟩ rfl (by simp) ?_;(refine zc ?_;conv=>whnf);exact yq [0,1,2,13,14,15] 3 (by rw [hH];exact Nat.zero_le _) (by show 3<=4;decide) rfl rfl hnx
  |[y],hda,h,ih=>
   have h:l=[l1]:=h;subst h;have hnx:=ih [l1,l2] rfl;(refine zg ?_;conv=>whnf);refine zh (i:=1) (row:=[dS ⟨#[116,97,120]⟩,dI 30000,dS ⟨#[116,97,120]⟩]) rfl rfl rfl ?_;(refine zc ?_;conv=>whnf);(refine zt mixed rfl ?_;refine zd [] ?_;conv=>whnf);refine yc (i:=1) (row:=[dI 7]) rfl rfl rfl ?_;(refine zd [] ?_;conv=>whnf);refine zu rfl  c2 ?_;(refine zd [] ?_;conv=>whnf);(refine zg ?_;conv=>whnf);refine ze rfl  d2 ?_;(refine zc ?_;conv=>whnf);refine yy (b:=2) (kk:=1) (rows:=[l1].map fun s=>[dS s]) (new:=[[dS l2]]) rfl ⟨show 16<=65536 by decide,rfl⟩ rfl (by simp) ?_;(refine zc ?_;conv=>whnf);exact yq [0,1,2,13,14,15] 3 (by rw [hH];exact Nat.zero_le _) (by show 3<=4;decide) rfl rfl hnx
  |a::b::c,hda,h,ih=>
   have:=congrArg List.length hda;simp at this
def yoa:ByteArray:=⟨#[104,111,117,114,115]⟩
def yzk:ByteArray:=⟨#[109,105,110,117,116,101,115]⟩
def yxo:ByteArray:=⟨#[98,97,115,105,99]⟩
def yxp:ByteArray:=⟨#[69,85,82]⟩
def yzl:ByteArray:=⟨#[98,111,98]⟩
def offC:Codex:=⟨[⟨yoa,yzk,0⟩],[⟨yxo,yxp,1⟩],[⟨1,0,0,8766,9000,8700,[],[],.mk 15 0 yxp 0 [] [.mk 2 0 yzk 0 [] [],.mk 1 1200 yxp 0 [] []]⟩]⟩
def ykf:List Fact:=[⟨yzl,yoa,8766,8800,8760,60,false⟩,⟨yke,yoa,8770,8771,8771,480,false⟩]
abbrev ypm:D:=.val (.slice none 0 0)
def yte:List D:=[dI 1,dI 0,dI 0,dI 8766,dI 9000,dI 8700,ypm,ypm,dI 15,dI 0,dS yxp,dI 0,ypm,.isl 6 [[dI 2,dI 0,dS yzk,dI 0,ypm,ypm],[dI 1,dI 1200,dS yxp,dI 0,ypm,ypm]]]
theorem yob:(D.isl 14 [yte]).Is (yv offC.arts):=DIss.isl (.cons (.cons (D.Is.refl _) (.cons (D.Is.refl _) (.cons (D.Is.refl _) (.cons (D.Is.refl _) (.cons (D.Is.refl _) (.cons (D.Is.refl _) (.cons (D.Is.nil 6) (.cons (D.Is.nil 1) (.cons (D.Is.refl _) (.cons (D.Is.refl _) (.cons (D.Is.refl _) (.cons (D.Is.refl _) (.cons (D.Is.nil 3) (.cons (DIss.isl (.cons (.cons (D.Is.refl _) (.cons (D.Is.refl _) (.cons (D.Is.refl _) (.cons (D.Is.refl _) (.cons (D.Is.nil 3) (.cons (D.Is.nil 6) .nil)))))) (.cons (.cons (D.Is.refl _) (.cons (D.Is.refl _) (.cons (D.Is.refl _) (.cons (D.Is.refl _) (.cons (D.Is.nil 3) (.cons (D.Is.nil 6) .nil)))))) .nil))) .nil)))))))))))))) .nil)
theorem ydg (G:List (Nat × D)):zv Tryz.prog G 35 [] (.tup [offC.sv,.imm (yz ykf)]):=by
 refine zky (r:=.tup [.agg [.imm (zp offC.facts),.imm (zp offC.lines),.imm (.isl 14 [yte])],.imm (yz ykf)]) ?_
  (SIs.tup (.cons (SIs.agg (.cons (SV.Is.refl _) (.cons (SV.Is.refl _) (.cons (D.Is.imm yob) .nil)))) (.cons (SV.Is.refl _) .nil)))
 refine zf Tryz.func35 rfl (by rw [Tryz.ntmps35];simp) rfl rfl ?_;intro E hH hK;(refine zg ?_;conv=>whnf);exact hK _
theorem zsc:∀(f:Nat) (r:List Nat),(∀x∈r,x<18446744073709551616)->∀l∈qn f r,∀x∈l,x<18446744073709551616
 |0,r,h,l,hl=>by
  rw [qn,List.mem_singleton] at hl;subst hl;exact h
 |f+1,r,h,l,hl=>by
  rw [qn] at hl;split at hl
  ·rcases List.mem_cons.1 hl with rfl|hl
   ·exact h
   ·exact zsc f _ (zwm h) l hl
  ·rw [List.mem_singleton] at hl
   subst hl;exact h
theorem yfy (leaves:List ByteArray):zki leaves<18446744073709551616:=by
 have h:=zsc 1024 (leaves.map zbq) (fun x hx=>by
  obtain ⟨y,_,rfl⟩:=List.mem_map.1 hx
  exact zbc _)
 unfold zki;generalize qn 1024 (leaves.map zbq)=ls at h;have key:∀(ls:List (List Nat)) (v:Nat),v<18446744073709551616->(∀l∈ls,∀x∈l,x<18446744073709551616)->ls.foldl (fun _ r=>r.getD 0 0) v<18446744073709551616:=by
  intro ls
  induction ls with
  |nil=>intro v hv _;exact hv
  |cons l ls ih=>
   intro v hv hl;rw [List.foldl_cons];refine ih _ ?_ fun l' h'=>hl l' (by simp [h'])
   cases l with
   |nil=>show (0:Nat)<_;decide
   |cons a l=>exact hl (a::l) (by simp) a (by simp)
 exact key ls 0 (by decide) h
noncomputable def showRow (s:Slip) (i:Int):Shw:=
 let r:=s.rows.getD i.toNat ⟨⟨#[]⟩,0,⟨#[]⟩⟩
 ⟨i,r.label,r.cents,r.reason,s.blinds.getD i.toNat 0,zls (zaz s.rows s.blinds) i.toNat⟩
noncomputable def showN (s:Slip) (sel:List Int) (seed:ByteArray) (h i:Nat):Disc:=
 ⟨s.person,s.month,s.root,zpd s.rows s.blinds,sel.map (showRow s),qj (s.rows.map Rw.cents) (zol s.rows.length sel),(qj s.blinds (zol s.rows.length sel)).tmod 1073741789,
  signN seed h i (zhg spT (zjo s.person s.month s.root (zpd s.rows s.blinds)))⟩
theorem zuq:∀(rs:List Rw) (bs:List Int),∀c∈zpd rs bs,0<=c/\c<=9000000000000000000
 |[],_,c,h=>by cases h
 |_::_,[],c,h=>by cases h
 |r::rs,b::bs,c,h=>by
  rcases List.mem_cons.1 h with rfl|h
  ·have:=zsa r b
   omega
  ·exact zuq rs bs c h
theorem yfz:∀cs:List Int,(∀c∈cs,0<=c/\c<=9000000000000000000)->szs (cs.map ql)<=21*cs.length
 |[],_=>by simp [szs]
 |c::cs,h=>by
  have h1:=h c (by simp);have h2:=wy c (by omega) (by omega);have h3:=yfz cs (fun c hc=>h c (by simp [hc]));rw [List.map_cons,zah,List.length_cons];omega
theorem ydh (person:ByteArray) (month:Int) (root:Nat) (cs:List Int) (hp:person.size<=1000) (hm:0<=month/\month<=1199) (hc:∀c∈cs,0<=c/\c<=9000000000000000000) (hn:cs.length<=1024):
  (zhg spT (zjo person month root cs)).size<=100000:=by
 have e:=yfw spT paysT ([person,ql month,zex root]++cs.map ql);have hj:=zee spT ([person,ql month,zex root]++cs.map ql) paysT.data.toList;rw [<-e] at hj;have hss:szs ([person,ql month,zex root]++cs.map ql)=person.size+((ql month).size+((zex root).size+szs (cs.map ql))):=by
  show szs (person::ql month::zex root::cs.map ql)=_;simp only [zah]
 have hll:([person,ql month,zex root]++cs.map ql).length=3+cs.length:=by simp;omega
 have hsp:spT.size=1:=rfl;have hpl:paysT.data.toList.length=7:=rfl;have h1:=yfz cs hc;have h2:=wy month (by omega) (by omega);have h3:=jz root;rw [hsp,hpl,hss,hll,Nat.one_mul] at hj;have hsz:(zhg spT (paysT::([person,ql month,zex root]++cs.map ql))).data.toList.length=(zhg spT (paysT::([person,ql month,zex root]++cs.map ql))).size:=by simp
 rw [hsz] at hj;show (zhg spT (paysT::([person,ql month,zex root]++cs.map ql))).size<=_;omega
theorem yoc (s:Slip) (hg:SlipGood s) (hr:∀r∈s.rows,r.label.size<=100000/\r.reason.size<=100000) (hp:s.person.size<=1000) (sel:List Int) (hsel:zkj s.rows.length none sel=true) (hsl:sel.length<=1000000) (seed:ByteArray) (n i:Nat) (hs:seed.size<=64) (hn:n<=8) (hi:i<2 ^ n)
  (hsum: -500000000<=qj (s.rows.map Rw.cents) (zol s.rows.length sel)/\qj (s.rows.map Rw.cents) (zol s.rows.length sel)<=500000000):
  zv Tryz.prog G37 11 [s.sv,.imm (xh sel),sS seed,sI n,sI i] (.tup [(showN s sel seed n i).sv,sI (0:Nat)]):=by
 have c1:=zti s hr (by have:=hg.rows;omega) (by have:=hg.rows;have:=hg.blinds;omega) true ⟨fun _=>hg,fun _=>rfl⟩;have c2:=ztg G37 sel s.rows.length hsl;rw [hsel] at c2;have hc:=hg.cents;have hb:=hg.blind;have hbl:=hg.blinds;have hrows:=hg.rows;obtain ⟨dd,hD⟩:∃d,d=showN s sel seed n i:=⟨_,rfl⟩;rw [<-hD];obtain ⟨person,month,rows,blinds,root⟩:=s;simp only at c2 hr hp hsel hsum hc hb hbl hrows;have hml:(rows.map Rw.cells).length=rows.length:=by simp
 have e2:((rows.map Rw.cells).length:Int)=(rows.length:Int):=by rw [hml]
 rw [<-e2] at c2;refine zf Tryz.func11 rfl (by rw [Tryz.ntmps11];simp) rfl rfl ?_;intro E hH hK;(refine zg ?_;conv=>whnf);refine ze rfl  c1 ?_;(refine zc ?_;conv=>whnf);refine ze rfl  c2 ?_;(refine zc ?_;conv=>whnf);have nil0:SV:=.imm (.val (.slice none 0 0));refine zfm 2 3 1 (cs:=[.imm (zhf person),sI month,wu root,.imm (.val (.slice none 0 0)),.imm (.val (.slice none 0 0)),sI 0,sI 0,sI 0,.imm (.val (.slice none 0 0)),.imm (.val (.slice none 0 0))]) rfl rfl ?_;refine zje (n:=13) (kk:=1) rfl ?_;refine zi [1,2,3,4,5,10,11,12,13,45,46,47] ?_;change SW E _ [(1,.imm (xh sel)),(2,sS seed),(3,sI n),(4,sI i),(5,.ptr 0 0),(10,.ptr 1 0),(11,sI (0:Nat)),(12,.ptr 2 0),(13,.asl 4 1 (([]:List ByteArray).map fun s=>[dS s])),(45,.imm (zok rows)),(46,sI (rows.map Rw.cells).length),(47,sI (0:Nat))]
  [.cells [.imm (zhf person),sI month,.imm (zok rows),.imm (xh blinds),wu root],.cells [.imm (zhf ⟨#[]⟩),sI 0,wu (0:Nat),.imm (.val (.slice none 0 0)),.imm (.val (.slice none 0 0)),sI 0,sI 0,sI 0,.imm (.val (.slice none 0 0)),.imm (.val (.slice none 0 0))],
   .cells [.imm (zhf person),sI month,wu root,.asl 3 1 (([]:List Int).map fun n=>[dI n]),.imm (.val (.slice none 0 0)),sI 0,sI 0,sI 0,.imm (.val (.slice none 0 0)),.imm (.val (.slice none 0 0))],.tok 1 (([]:List Int).map fun n=>[dI n]).length,.tok 1 (([]:List ByteArray).map fun s=>[dS s]).length]
 have hbl2:(blinds.map fun (n:Int)=>[dI n]).length=blinds.length:=by simp
 let T:Nat->List Int × List ByteArray->List (Nat × SV):=fun j y=>[(1,.imm (xh sel)),(2,sS seed),(3,sI n),(4,sI i),(5,.ptr 0 0),(10,.ptr 1 0),(11,sI (0:Nat)),(12,.ptr 2 0),(13,.asl 4 1 (y.2.map fun s=>[dS s])),(45,.imm (zok rows)),(46,sI (rows.map Rw.cells).length),(47,sI j)]
 let Hh:List Int × List ByteArray->List SObj:=fun y=>[.cells [.imm (zhf person),sI month,.imm (zok rows),.imm (xh blinds),wu root],.cells [.imm (zhf ⟨#[]⟩),sI 0,wu (0:Nat),.imm (.val (.slice none 0 0)),.imm (.val (.slice none 0 0)),sI 0,sI 0,sI 0,.imm (.val (.slice none 0 0)),.imm (.val (.slice none 0 0))],
   .cells [.imm (zhf person),sI month,wu root,.asl 3 1 (y.1.map fun n=>[dI n]),.imm (.val (.slice none 0 0)),sI 0,sI 0,sI 0,.imm (.val (.slice none 0 0)),.imm (.val (.slice none 0 0))],.tok 1 (y.1.map fun n=>[dI n]).length,.tok 1 (y.2.map fun s=>[dS s]).length]
 refine zr rows T (fun _ y=>Hh y) (fun done rest y=>zpd rows blinds=y.1++zpd rest (blinds.drop done.length)/\zaz rows blinds=y.2++zaz rest (blinds.drop done.length)/\y.1.length=done.length/\y.2.length=done.length) ([],[]) ⟨rfl,rfl,rfl,rfl⟩ ?_ ?_
 ·rintro ⟨cs,ls⟩ ⟨h1,h2,h3,h4⟩
  have h1:zpd rows blinds=cs:=by have h:zpd rows blinds=cs++zpd [] (blinds.drop rows.length):=h1;rw [h];simp [zpd]
  have h2:zaz rows blinds=ls:=by have h:zaz rows blinds=ls++zaz [] (blinds.drop rows.length):=h2;rw [h];simp [zaz]
  refine zbv ?_;change SW E _ [(1,.imm (xh sel)),(2,sS seed),(3,sI n),(4,sI i),(5,.ptr 0 0),(10,.ptr 1 0),(11,sI (0:Nat)),(12,.ptr 2 0),(13,.imm (xf ls)),(45,.imm (zok rows)),(46,sI (rows.map Rw.cells).length),(47,sI rows.length)]
   [.cells [.imm (zhf person),sI month,.imm (zok rows),.imm (xh blinds),wu root],.cells [.imm (zhf ⟨#[]⟩),sI 0,wu (0:Nat),.imm (.val (.slice none 0 0)),.imm (.val (.slice none 0 0)),sI 0,sI 0,sI 0,.imm (.val (.slice none 0 0)),.imm (.val (.slice none 0 0))],
   .cells [.imm (zhf person),sI month,wu root,.imm (xh cs),.imm (.val (.slice none 0 0)),sI 0,sI 0,sI 0,.imm (.val (.slice none 0 0)),.imm (.val (.slice none 0 0))],.tok 1 (cs.map fun n=>[dI n]).length,.tok 1 (ls.map fun s=>[dS s]).length]
  have hcr:∀c∈cs,0<=c/\c<=9000000000000000000:=fun c hcc=>zuq rows blinds c (by rw [h1];exact hcc)
  have hcl:cs.length=rows.length:=h3;have hrt:root<18446744073709551616:=by have h:zki (zaz rows blinds)=root:=hg.root;rw [<-h];exact yfy _
  have d1:=zwr person month root cs hp hg.month hrt hcr (by omega);have hts:(zhg spT (zjo person month root cs)).size<=9223372036854775807:=Nat.le_trans (ydh person month root cs hp hg.month hcr (by omega)) (by decide);have d2:=yno seed n i (zhg spT (zjo person month root cs)) hs hn hi hts;(refine zg ?_;conv=>whnf)
  repeat' ((with_reducible refine way ?_ ?_)<;>(intro h;conv=>whnf))
  all_goals try (exfalso;omega)
  refine ze rfl  d1 ?_;(refine zc ?_;conv=>whnf);obtain ⟨sg,hsg⟩:∃g,g=signN seed n i (zhg spT (zjo person month root cs)):=⟨_,rfl⟩;rw [<-hsg] at d2;have d3:=yiu G37 sel (rows.map Rw.cells).length (by rw [hml];exact hsel) hsl (by omega);have hmk:(zol (rows.map Rw.cells).length sel).length=rows.length:=by simp [zol]
  have hsum2: -500000000<=qj (rows.map Rw.cents) (zol (rows.map Rw.cells).length sel)/\qj (rows.map Rw.cents) (zol (rows.map Rw.cells).length sel)<=500000000:=by rw [hml];exact hsum
  generalize hmk0:zol (rows.map Rw.cells).length sel=mk at d3 hmk hsum2;have d4:=yac G37 rows mk hmk (by omega) (fun r hx=>by have:=hc r hx;omega);have d5:=yad G37 blinds mk (by omega) (by omega) (fun b hx=>by have:=hb b hx;omega);generalize hh1:qj (rows.map Rw.cents) mk=hs1 at d4 hsum2;generalize hh2:qj blinds mk=hs2 at d5;refine ze rfl  d2 ?_;(refine zc ?_;conv=>whnf);refine ze rfl  d3 ?_;(refine zc ?_;conv=>whnf);refine ze rfl  d4 ?_;(refine zc ?_;conv=>whnf)
  repeat' ((with_reducible refine way ?_ ?_)<;>(intro h;conv=>whnf))
  all_goals try (exfalso;omega)
  refine ze rfl  d5 ?_;(refine zc ?_;conv=>whnf);refine zfm 2 4 6 (cs:=[.imm (zhf person),sI month,wu root,.imm (xh cs),.imm (.val (.slice none 0 0)),sI hs1,sI (hs2.tmod 1073741789),sI sg.index,.imm (zcq sg.chains),.imm (jl sg.path)]) rfl rfl ?_;refine zi [5,10,12,13,127,128,129] ?_;have hsl2:(sel.map fun (n:Int)=>[dI n]).length=sel.length:=by simp
  change SW E _ [(5,.ptr 0 0),(10,.ptr 1 0),(12,.ptr 2 0),(13,.imm (xf ls)),(127,.imm (xh sel)),(128,sI (sel.map fun (n:Int)=>[dI n]).length),(129,sI (0:Nat))]
   [.cells [.imm (zhf person),sI month,.imm (zok rows),.imm (xh blinds),wu root],.cells [.imm (zhf ⟨#[]⟩),sI 0,wu (0:Nat),.imm (.val (.slice none 0 0)),.imm (.val (.slice none 0 0)),sI 0,sI 0,sI 0,.imm (.val (.slice none 0 0)),.imm (.val (.slice none 0 0))],
   .cells [.imm (zhf person),sI month,wu root,.imm (xh cs),.asl _ 6 (([]:List Shw).map Shw.cells),sI hs1,sI (hs2.tmod 1073741789),sI sg.index,.imm (zcq sg.chains),.imm (jl sg.path)],.tok 1 (cs.map fun n=>[dI n]).length,.tok 1 (ls.map fun s=>[dS s]).length,.cells [sI sg.index,.imm (zcq sg.chains),.imm (jl sg.path)],.tok 6 (([]:List Shw).map Shw.cells).length]
  let H2:List Shw->List SObj:=fun l=>[.cells [.imm (zhf person),sI month,.imm (zok rows),.imm (xh blinds),wu root],.cells [.imm (zhf ⟨#[]⟩),sI 0,wu (0:Nat),.imm (.val (.slice none 0 0)),.imm (.val (.slice none 0 0)),sI 0,sI 0,sI 0,.imm (.val (.slice none 0 0)),.imm (.val (.slice none 0 0))],
   .cells [.imm (zhf person),sI month,wu root,.imm (xh cs),.asl 6 6 (l.map Shw.cells),sI hs1,sI (hs2.tmod 1073741789),sI sg.index,.imm (zcq sg.chains),.imm (jl sg.path)],.tok 1 (cs.map fun n=>[dI n]).length,.tok 1 (ls.map fun s=>[dS s]).length,.cells [sI sg.index,.imm (zcq sg.chains),.imm (jl sg.path)],.tok 6 (l.map Shw.cells).length]
  refine zr sel (fun j (_:List Shw)=>[(5,.ptr 0 0),(10,.ptr 1 0),(12,.ptr 2 0),(13,.imm (xf ls)),(127,.imm (xh sel)),(128,sI (sel.map fun (n:Int)=>[dI n]).length),(129,sI j)]) (fun _ l=>H2 l) (fun done _ l=>l=done.map (showRow ⟨person,month,rows,blinds,root⟩)) [] rfl ?_ ?_
  ·rintro l hl
   have hl:l=sel.map (showRow ⟨person,month,rows,blinds,root⟩):=hl;have hdd:dd=⟨person,month,root,cs,l,hs1,hs2.tmod 1073741789,sg⟩:=by
    rw [hD,hsg, <-hh1, <-hh2, <-hmk0,hl,hml];simp only [showN,h1]
   rw [hdd] at hK;clear hdd hl hD;refine zbv ?_;change SW E _ [(5,.ptr 0 0),(10,.ptr 1 0),(12,.ptr 2 0),(13,.imm (xf ls)),(127,.imm (xh sel)),(128,sI (sel.map fun (n:Int)=>[dI n]).length),(129,sI sel.length)]
    [.cells [.imm (zhf person),sI month,.imm (zok rows),.imm (xh blinds),wu root],.cells [.imm (zhf ⟨#[]⟩),sI 0,wu (0:Nat),.imm (.val (.slice none 0 0)),.imm (.val (.slice none 0 0)),sI 0,sI 0,sI 0,.imm (.val (.slice none 0 0)),.imm (.val (.slice none 0 0))],
    .cells [.imm (zhf person),sI month,wu root,.imm (xh cs),.imm (zyq l),sI hs1,sI (hs2.tmod 1073741789),sI sg.index,.imm (zcq sg.chains),.imm (jl sg.path)],.tok 1 (cs.map fun n=>[dI n]).length,.tok 1 (ls.map fun s=>[dS s]).length,.cells [sI sg.index,.imm (zcq sg.chains),.imm (jl sg.path)],.tok 6 (l.map Shw.cells).length]
   (refine zg ?_;conv=>whnf)
   repeat' ((with_reducible refine way ?_ ?_)<;>(intro h;conv=>whnf))
   all_goals try (exfalso;omega)
   exact hK _
  ·rintro done x rest l hda hdl hl ih
   have hl:l=done.map (showRow ⟨person,month,rows,blinds,root⟩):=hl;have hw:=zk (n:=done.length) (by omega);have hrow:(sel.map fun (n:Int)=>[dI n])[((done.length:Nat):Int).toNat]?=some [dI x]:=by simp [hda]
   have hxr:=(zlt _ _ _ hsel).2.1 x (by rw [hda];simp);obtain ⟨k,rfl⟩:∃k:Nat,x=k:=⟨x.toNat,by omega⟩;have hk:k<rows.length:=by omega
   have hnx:=ih (l++[showRow ⟨person,month,rows,blinds,root⟩ k]) (by show l++_=(done++[_]).map _;rw [hl];simp);have e1:=yab G37 ls k (by rw [<-h2,zef rows blinds (by omega)];exact hk) (by rw [<-h2,zef rows blinds (by omega)];omega) (fun y hy=>by have:=ziu rows blinds hr y (by rw [h2];exact hy);omega);obtain ⟨r,hrk⟩:∃r,rows[k]?=some r:=⟨_,List.getElem?_eq_getElem hk⟩;obtain ⟨b,hbk⟩:∃b,blinds[k]?=some b:=⟨_,List.getElem?_eq_getElem (by omega)⟩;have hsh:showRow ⟨person,month,rows,blinds,root⟩ k=⟨k,r.label,r.cents,r.reason,b,zls ls k⟩:=by
    simp only [showRow,Int.toNat_natCast,List.getD_eq_getElem?_getD,hrk,hbk,Option.getD_some,h2]
   rw [hsh] at hnx;have g1:(rows.map Rw.cells)[k]?=some r.cells:=by simp [hrk]
   have g2:(blinds.map fun (n:Int)=>[dI n])[k]?=some [dI b]:=by simp [hbk]
   generalize zls ls k=pa at e1 hnx;clear ih hsh;obtain ⟨la,ce,re⟩:=r;have hll:l.length=done.length:=by rw [hl];simp
   clear hl;show SW E _ [(5,.ptr 0 0),(10,.ptr 1 0),(12,.ptr 2 0),(13,.imm (xf ls)),(127,.imm (xh sel)),(128,sI (sel.map fun (n:Int)=>[dI n]).length),(129,sI done.length)] (H2 l);simp only [H2,List.map_append] at hnx ⊢;(refine zg ?_;conv=>whnf)
   repeat' ((with_reducible refine way ?_ ?_)<;>(intro h;conv=>whnf))
   all_goals try (exfalso;omega)
   refine zh rfl rfl  hrow ?_;(refine zc ?_;conv=>whnf);refine ze rfl  e1 ?_;(refine zc ?_;conv=>whnf);(refine wd 0 mixed rfl ?_;refine zq [777] (nx:=7) ?_;conv=>whnf);refine qv (i:=k) (row:=[zhf la,dI ce,zhf re]) rfl (show 7<=7 by decide) rfl g1 ?_;(refine zq [777] (nx:=7) ?_;conv=>whnf);refine qv (i:=k) (row:=[dI b]) rfl (show 7<=7 by decide) rfl g2 ?_;(refine zq [777] (nx:=7) ?_;conv=>whnf);refine zco (b:=6) (kk:=6) (rows:=l.map Shw.cells) (new:=[[dI k,zhf la,dI ce,zhf re,dI b,jl pa]]) rfl rfl rfl rfl rfl rfl rfl rfl rfl rfl ⟨show 80<=65536 by decide,rfl⟩ (show 7<=7 by decide) rfl (by simp;omega) ?_;refine zaj ⟨_,[],none⟩ rfl rfl (show 7<=7 by decide) (fun _ _ _=>rfl) ?_;refine xc (b:=2) (off:=4) (d:=[.imm (zhf person),sI month,wu root,.imm (xh cs)]) (zz:=.asl 6 6 (l.map Shw.cells)) (r:=[sI hs1,sI (hs2.tmod 1073741789),sI sg.index,.imm (zcq sg.chains),.imm (jl sg.path)]) (v:=.asl 6 6 (l.map Shw.cells++[[dI k,zhf la,dI ce,zhf re,dI b,jl pa]])) rfl rfl rfl rfl rfl rfl rfl rfl (show 7<=7 by decide) rfl rfl ?_;refine jr (by kernel_rfl) ?_;(refine zg ?_;conv=>whnf);rw [hw];refine zi [5,10,12,13,127,128,129] ?_;exact hnx
 ·rintro done r rest ⟨cs,ls⟩ hda hdl ⟨h1,h2,h3,h4⟩ ih
  have hw:=zk (n:=done.length) (by omega);have hrow:(rows.map Rw.cells)[((done.length:Nat):Int).toNat]?=some r.cells:=by simp [hda]
  obtain ⟨b,hbb⟩:∃b,blinds[done.length]?=some b:=⟨_,List.getElem?_eq_getElem (by omega)⟩;have hrb:(blinds.map fun (n:Int)=>[dI n])[((done.length:Nat):Int).toNat]?=some [dI b]:=by simp [hbb]
  have hdr:blinds.drop done.length=b::blinds.drop (done.length+1):=by
   rw [List.drop_eq_getElem_cons (by omega)];rw [List.getElem?_eq_getElem (by omega)] at hbb;rw [Option.some.inj hbb]
  have hbr:=hb b (List.mem_of_getElem? hbb);have hrm:r∈rows:=by rw [hda];simp
  obtain ⟨f1,f2⟩:=hr r hrm;obtain ⟨f3,f4⟩:=hc r hrm;simp only at h1 h2 h3 h4;rw [hdr,zpd] at h1;rw [hdr,zaz] at h2;have hlt:=zsa r b;have hnx:=ih (cs++[(zuo r b:Int)],ls++[zdi r.label (zuo r b) r.reason]) ⟨by rw [h1];simp,by rw [h2];simp,by simp [h3],by simp [h4]⟩;have d1:=zic r.cents b ⟨f3,f4⟩ hbr;change zv _ _ _ _ (.tup [sI (zuo r b),_]) at d1;have d2:=zgu r.label (zuo r b) r.reason f1 f2 ⟨by omega,by omega⟩;generalize zdi r.label (zuo r b) r.reason=lf at d2 hnx;generalize zuo r b=cm at d1 d2 hlt hnx;clear ih h1 h2 hdr;obtain ⟨la,ce,re⟩:=r;simp only at f3 f4 d1 d2;have hws:IntKind.i64.wrap (ce+1073741789)=ce+1073741789:=yg (by omega) (by omega);show SW E _ (T done.length (cs,ls)) (Hh (cs,ls));simp only [T,Hh,List.map_append] at hnx ⊢;(refine zg ?_;conv=>whnf)
  repeat' ((with_reducible refine way ?_ ?_)<;>(intro h;conv=>whnf))
  all_goals try (exfalso;omega)
  refine zh rfl rfl  hrow ?_;(refine zc ?_;conv=>whnf);(refine zt mixed rfl ?_;refine zd [] ?_;conv=>whnf);refine yc rfl rfl  hrb ?_;(refine zd [] ?_;conv=>whnf);rw [hws];refine zu rfl  d1 ?_;(refine zd [] ?_;conv=>whnf);(refine zg ?_;conv=>whnf);refine yy (b:=3) (kk:=1) (rows:=cs.map fun n=>[dI n]) (new:=[[dI cm]]) rfl ⟨show 8<=65536 by decide,rfl⟩ rfl (by rw [List.length_map];simp only [List.length_cons,List.length_nil];omega) ?_;(refine zc ?_;conv=>whnf);refine ze rfl  d2 ?_;(refine zc ?_;conv=>whnf);refine yy (b:=4) (kk:=1) (rows:=ls.map fun s=>[dS s]) (new:=[[dS lf]]) rfl ⟨show 16<=65536 by decide,rfl⟩ rfl (by rw [List.length_map];simp only [List.length_cons,List.length_nil];omega) ?_;(refine zc ?_;conv=>whnf);rw [hw];simp only [List.length_append] at hnx;exact yq [1,2,3,4,5,10,11,12,13,45,46,47] 5 (by rw [hH];exact Nat.zero_le _) (by show 5<=6;decide) rfl rfl hnx
def zie (row:List Nat) (i:Nat):List Frk:=if i % 2=1 then [⟨row.getD (i-1) 0,true⟩] else if i+1<row.length then [⟨row.getD (i+1) 0,false⟩] else []
def pth:List (List Nat)->Nat->List Frk
 |[],_=>[]
 |row::rs,i=>zie row i++pth rs (i / 2)
theorem yrs (s:Nat × List Frk) (row:List Nat):zlr s row=(s.1 / 2,s.2++zie row s.1):=by
 unfold zlr zie;split
 ·rfl
 ·split
  ·rfl
  ·rw [List.append_nil]
theorem zsd:∀(rs:List (List Nat)) (i:Nat) (acc:List Frk),(rs.foldl zlr (i,acc)).2=acc++pth rs i
 |[],_,acc=>(List.append_nil acc).symm
 |row::rs,i,acc=>by
  rw [List.foldl_cons,yrs,zsd rs,pth,List.append_assoc]
def yga (rs:List (List Nat)) (v:Nat):Nat:=rs.foldl (fun _ r=>r.getD 0 0) v
theorem yrt:∀(rs:List (List Nat)),rs≠[]->∀v w,yga rs v=yga rs w
 |[],h,_,_=>absurd rfl h
 |_::_,_,_,_=>by rw [yga,yga,List.foldl_cons,List.foldl_cons]
theorem yod (f:Nat) (r:List Nat):qn f r≠[]:=by
 cases f with
 |zero=>simp [qn]
 |succ f=>
  rw [qn];split<;>simp
theorem yoe (a:Nat):zcg [a]=[a]:=rfl
theorem zse (a b:Nat) (r:List Nat):zcg (a::b::r)=zdo a b::zcg r:=by rw [zcg]
theorem yag:∀(r:List Nat) (i:Nat),i<r.length->
  (zcg r).getD (i / 2) 0=if i % 2=1 then zdo (r.getD (i-1) 0) (r.getD i 0) else if i+1<r.length then zdo (r.getD i 0) (r.getD (i+1) 0) else r.getD i 0
 |[],i,h=>absurd h (Nat.not_lt_zero i)
 |[a],i,h=>by
  have e:i=0:=by
   rw [List.length_singleton] at h;omega
  rw [e,yoe,if_neg (by decide),if_neg (by rw [List.length_singleton];decide),Nat.zero_div]
 |a::b::r,0,_=>by
  rw [zse,if_neg (by decide),if_pos (by rw [List.length_cons,List.length_cons];omega),Nat.zero_div,List.getD_cons_zero,List.getD_cons_zero,List.getD_cons_succ,List.getD_cons_zero]
 |a::b::r,1,_=>by
  rw [zse,if_pos (by decide),show 1 / 2=0 by decide,show 1-1=0 by decide,List.getD_cons_zero,List.getD_cons_zero,show (1:Nat)=0+1 by decide,List.getD_cons_succ,List.getD_cons_zero]
 |a::b::r,i+2,h=>by
  have ih:=yag r i (by rw [List.length_cons,List.length_cons] at h;omega);have g:∀j,(a::b::r).getD (j+2) 0=r.getD j 0:=fun j=>by
   rw [show j+2=j+1+1 by omega,List.getD_cons_succ,List.getD_cons_succ]
  rw [zse,show (i+2) / 2=i / 2+1 by omega,List.getD_cons_succ,ih,show (i+2) % 2=i % 2 by omega]
  by_cases h1:i % 2=1
  ·obtain ⟨j,rfl⟩:∃j,i=j+1:=⟨i-1,by omega⟩
   rw [if_pos h1,if_pos h1,show j+1-1=j by omega,show j+1+2-1=j+2 by omega,g,g]
  ·rw [if_neg h1,if_neg h1,show i+2+1=i+1+2 by omega,List.length_cons,List.length_cons,g,g]
   by_cases h2:i+1<r.length
   ·rw [if_pos h2,if_pos (by omega)]
   ·rw [if_neg h2,if_neg (by omega)]
theorem yah (k f:Nat) (r:List Nat) (i:Nat) (hi:i<r.length) (h1:¬1<r.length):zbw (k+1) r.length i (pth (qn f r) i) (r.getD i 0)=some (yga (qn f r) 0):=by
 have h3:i=0:=by omega
 have hp:pth [r] 0=[]:=by rw [pth,pth,zie,if_neg (by decide),if_neg (by omega),List.append_nil]
 have ht:yga [r] 0=r.getD 0 0:=by rw [yga,List.foldl_cons,List.foldl_nil]
 rw [h3,zuk f h1,hp,ht,zbw,if_pos (by omega),List.isEmpty_nil,if_pos rfl]
theorem zur (f size idx:Nat) (x:Frk) (r:List Frk) (cur:Nat) (h:¬size<=1) (h2:idx % 2=1\/idx+1<size):
  zbw (f+1) size idx (x::r) cur=if x.left=decide (idx % 2=1) then zbw f ((size+1) / 2) (idx / 2) r (if idx % 2=1 then zdo x.sib cur else zdo cur x.sib) else none:=by
 rw [zmp _ _ _ _ _ h,if_pos h2]
theorem yiz (f size idx:Nat) (s:Nat) (r:List Frk) (cur:Nat) (h:¬size<=1) (h2:idx % 2=1):zbw (f+1) size idx (⟨s,true⟩::r) cur=zbw f ((size+1) / 2) (idx / 2) r (zdo s cur):=by
 rw [zur _ _ _ _ _ _ h (.inl h2),decide_eq_true h2,if_pos rfl,if_pos h2]
theorem ydi (f size idx:Nat) (s:Nat) (r:List Frk) (cur:Nat) (h:¬size<=1) (h1:¬idx % 2=1) (h2:idx+1<size):zbw (f+1) size idx (⟨s,false⟩::r) cur=zbw f ((size+1) / 2) (idx / 2) r (zdo cur s):=by
 rw [zur _ _ _ _ _ _ h (.inr h2),decide_eq_false h1,if_pos rfl,if_neg h1]
theorem yja (f size idx:Nat) (r:List Frk) (cur:Nat) (h:¬size<=1) (h1:¬idx % 2=1) (h2:¬idx+1<size):zbw (f+1) size idx r cur=zbw f ((size+1) / 2) (idx / 2) r cur:=by
 rw [zmp _ _ _ _ _ h,if_neg (by omega)]
theorem yai (k:Nat):∀(f:Nat) (r:List Nat) (i:Nat),r.length<=f->i<r.length->r.length<=2 ^ k->zbw (k+1) r.length i (pth (qn f r) i) (r.getD i 0)=some (yga (qn f r) 0):=by
 induction k with
 |zero=>
  intro f r i _ hi hk;rw [Nat.pow_zero] at hk;exact yah 0 f r i hi (by omega)
 |succ k IH=>
  intro f r i hf hi hk
  by_cases h1:1<r.length
  ·obtain ⟨f',h2,h3⟩:=zrt hf h1
   have hup:=zde r;have ih:=IH f' (zcg r) (i / 2) h3 (by omega) (by rw [hup];rw [Nat.pow_succ] at hk;omega);clear IH;have ht:yga (r::qn f' (zcg r)) 0=yga (qn f' (zcg r)) 0:=by
    rw [yga,List.foldl_cons];exact yrt _ (yod _ _) _ _
   rw [yag r i hi,hup] at ih;rw [h2,pth,zie,ht];generalize yga (qn f' (zcg r)) 0=tp at ih ⊢;generalize pth (qn f' (zcg r)) (i / 2)=pp at ih ⊢;clear h2 h3 ht hup
   by_cases h4:i % 2=1
   ·rw [if_pos h4] at ih
    rw [if_pos h4,List.singleton_append,yiz _ _ _ _ _ _ (by omega) h4,ih]
   ·rw [if_neg h4] at ih
    rw [if_neg h4]
    by_cases h5:i+1<r.length
    ·rw [if_pos h5] at ih
     rw [if_pos h5,List.singleton_append,ydi _ _ _ _ _ _ (by omega) h4 h5,ih]
    ·rw [if_neg h5] at ih
     rw [if_neg h5,List.nil_append,yja _ _ _ _ _ (by omega) h4 h5,ih]
  ·exact yah (k+1) f r i hi h1
theorem yaj (l:List ByteArray) (i:Nat):zls l i=pth (qn 1024 (l.map zbq)) i:=by
 unfold zls;rw [zsd,List.nil_append]
theorem yof (l:List ByteArray):zki l=yga (qn 1024 (l.map zbq)) 0:=by
 unfold zki yga;rfl
theorem ydj (l:List ByteArray) (i:Nat) (hi:i<l.length) (hl:l.length<=1024):zbw 12 l.length i (zls l i) (zbq (l.getD i ⟨#[]⟩))=some (zki l):=by
 have hlm:(l.map zbq).length=l.length:=List.length_map _;have h:=yai 11 1024 (l.map zbq) i (by omega) (by omega) (by rw [hlm];exact Nat.le_trans hl (by decide));have e:(l.map zbq).getD i 0=zbq (l.getD i ⟨#[]⟩):=by
  rw [List.getD_eq_getElem?_getD,List.getD_eq_getElem?_getD,List.getElem?_map,List.getElem?_eq_getElem hi,Option.map_some,Option.getD_some,Option.getD_some]
 rw [<-yaj,hlm,e, <-yof] at h;exact h
theorem zsf (l:List ByteArray) (i:Nat) (hi:i<l.length) (hl:l.length<=1024):zap (zki l) l.length i (l.getD i ⟨#[]⟩) (zls l i)=true:=by
 have h:=ydj l i hi hl;unfold zap;rw [Int.toNat_natCast,Int.toNat_natCast,decide_eq_true h,decide_eq_true (by omega),decide_eq_true (by omega),decide_eq_true (by omega),decide_eq_true (by omega)];rfl
def chN:Nat->Nat->Nat
 |_,0=>1
 |0,_+1=>0
 |n+1,k+1=>chN n k+chN n (k+1)
theorem ziv:∀n k:Nat,n<k->chN n k=0
 |_,0,h=>absurd h (Nat.not_lt_zero _)
 |0,_+1,_=>rfl
 |n+1,k+1,h=>by rw [chN,ziv n k (by omega),ziv n (k+1) (by omega)]
theorem zsg (n:Nat):chN n 0=1:=by cases n<;>rfl
theorem ygb:∀n:Nat,chN n n=1
 |0=>rfl
 |n+1=>by rw [chN,ygb n,ziv n (n+1) (by omega)]
theorem zws:∀n k:Nat,(k+1)*chN (n+1) (k+1)=(n+1)*chN n k
 |0,0=>rfl
 |0,k+1=>by rw [ziv 1 (k+1+1) (by omega),ziv 0 (k+1) (by omega)];simp
 |n+1,0=>by
  have h:=zws n 0;rw [zsg] at h;rw [show chN (n+1+1) (0+1)=chN (n+1) 0+chN (n+1) (0+1) from rfl,zsg];omega
 |n+1,k+1=>by
  have h1:=zws n k;have h2:=zws n (k+1);have e:chN (n+1) (k+1)=chN n k+chN n (k+1):=rfl;rw [show chN (n+1+1) (k+1+1)=chN (n+1) (k+1)+chN (n+1) (k+1+1) from rfl,Nat.mul_add,h2,Nat.add_mul (k+1) 1,h1,Nat.one_mul,Nat.add_mul (n+1) 1,Nat.one_mul];have e2:(n+1)*chN (n+1) (k+1)=(n+1)*chN n k+(n+1)*chN n (k+1):=by rw [e,Nat.mul_add]
  omega
def yak (f:Nat->Nat):Nat->Nat
 |0=>0
 |m+1=>yak f m+f m
theorem yal (n a:Nat):∀m,yak (fun k=>chN (n+1) k*a ^ k) (m+1)=a*yak (fun k=>chN n k*a ^ k) m+yak (fun k=>chN n k*a ^ k) (m+1)
 |0=>by simp [yak,zsg]
 |m+1=>by
  have ih:=yal n a m;rw [yak,ih];show _+chN (n+1) (m+1)*a ^ (m+1)=a*(yak (fun k=>chN n k*a ^ k) m+chN n m*a ^ m)+(yak (fun k=>chN n k*a ^ k) (m+1)+chN n (m+1)*a ^ (m+1));have e:chN (n+1) (m+1)*a ^ (m+1)=a*(chN n m*a ^ m)+chN n (m+1)*a ^ (m+1):=by
   rw [show chN (n+1) (m+1)=chN n m+chN n (m+1) from rfl,Nat.add_mul,Nat.pow_succ,Nat.mul_comm (a ^ m) a,Nat.mul_left_comm]
  rw [e,Nat.mul_add];omega
theorem yxq (a:Nat):∀n,(a+1) ^ n=yak (fun k=>chN n k*a ^ k) (n+1)
 |0=>by simp [yak,zsg]
 |n+1=>by
  have h:yak (fun k=>chN n k*a ^ k) (n+1+1)=yak (fun k=>chN n k*a ^ k) (n+1):=by
   rw [yak,ziv n (n+1) (by omega),Nat.zero_mul,Nat.add_zero]
  rw [yal,h, <-yxq a n,Nat.pow_succ,Nat.mul_add,Nat.mul_one,Nat.mul_comm]
structure PrimeN (q:Nat):Prop where
 two:2<=q
 cop:∀k,0<k->k<q->Nat.Coprime q k
theorem yog {q:Nat} (hq:PrimeN q) {k:Nat} (h0:0<k) (h1:k<q):q ∣ chN q k:=by
 obtain ⟨k,rfl⟩:∃j,k=j+1:=⟨k-1,by omega⟩;obtain ⟨n,rfl⟩:∃n,q=n+1:=⟨q-1,by omega⟩;have h:n+1 ∣ (k+1)*chN (n+1) (k+1):=⟨chN n k,zws n k⟩;exact (hq.cop (k+1) h0 h1).dvd_of_dvd_mul_left h
theorem ygc {q:Nat} (hq:PrimeN q) (a:Nat):∀m,m<q->yak (fun k=>chN q k*a ^ k) (m+1) % q=1
 |0,_=>by
  have:=hq.two;simp [yak,zsg,Nat.mod_eq_of_lt (show 1<q by omega)]
 |m+1,h=>by
  rw [yak];obtain ⟨c,hc⟩:=yog hq (k:=m+1) (by omega) h;simp only [hc];rw [Nat.mul_assoc,Nat.add_mul_mod_self_left];exact ygc hq a m (by omega)
theorem zus {q:Nat} (hq:PrimeN q):∀a:Nat,a ^ q % q=a % q
 |0=>by
  have:=hq.two;rw [Nat.zero_pow (by omega)]
 |a+1=>by
  have h2:=hq.two;have h:=ygc hq a (q-1) (by omega);rw [show q-1+1=q by omega] at h;rw [yxq,yak,ygb,Nat.one_mul,Nat.add_mod,h,zus hq a,Nat.add_mod a 1,Nat.mod_eq_of_lt (show 1<q by omega),Nat.add_comm]
theorem ydk {a b q:Nat} (h:a % q=b % q):q ∣ a-b:=Nat.dvd_of_mod_eq_zero (Nat.sub_mod_eq_zero_of_mod_eq h)
theorem yjb {q:Nat} (hq:PrimeN q) {a:Nat} (ha:a % q≠0):a ^ (q-2)*a % q=1:=by
 have h2:=hq.two;have hp:0<a:=by
  rcases Nat.eq_zero_or_pos a with h|h
  ·rw [h,Nat.zero_mod] at ha
   exact absurd rfl ha
  ·exact h
 have hc:Nat.Coprime q a:=by
  have h:=hq.cop (a % q) (by omega) (Nat.mod_lt _ (by omega));unfold Nat.Coprime at h ⊢;rw [<-h,Nat.gcd_comm q (a % q), <-Nat.gcd_rec]
 have h3:q ∣ a*a ^ (q-1)-a*1:=by
  refine ydk ?_;rw [<-Nat.pow_succ',show Nat.succ (q-1)=q by omega,Nat.mul_one];exact zus hq a
 rw [<-Nat.mul_sub] at h3;obtain ⟨c,h4⟩:=hc.dvd_of_dvd_mul_left h3;have h5:a ^ (q-1)=1+q*c:=by
  have:0<a ^ (q-1):=Nat.pow_pos hp;omega
 rw [<-Nat.pow_succ,show Nat.succ (q-2)=q-1 by omega,h5,Nat.add_mul_mod_self_left,Nat.mod_eq_of_lt (by omega)]
theorem ywe {p a b c d:Nat} (h:a % p=b % p) (k:c % p=d % p):a*c % p=b*d % p:=by rw [Nat.mul_mod,h,k, <-Nat.mul_mod]
theorem yzm {p a b:Nat} (h:a % p=b % p) (n:Nat):a ^ n % p=b ^ n % p:=by rw [Nat.pow_mod,h, <-Nat.pow_mod]
theorem yoh {p a b c d:Nat} (hc:c*d % p=1 % p) (h:a*c % p=b*c % p):a % p=b % p:=by
 have h1:a*c*d % p=b*c*d % p:=ywe h rfl;have h2:∀x,x*c*d % p=x % p:=fun x=>by
  rw [Nat.mul_assoc];have:=ywe (p:=p) (a:=x) (b:=x) rfl hc
  rwa [Nat.mul_one] at this
 rwa [h2,h2] at h1
structure Elm (p q b:Nat):Prop where
 one:b ^ q % p=1 % p
theorem Elm.red {p q b:Nat} (h:Elm p q b) (e:Nat):b ^ e % p=b ^ (e % q) % p:=by
 have h1:b ^ (q*(e / q)) % p=1 % p:=by
  rw [Nat.pow_mul];have:=yzm h.one (e / q)
  rwa [Nat.one_pow] at this
 have h2:b ^ e=b ^ (q*(e / q))*b ^ (e % q):=by rw [<-Nat.pow_add,Nat.div_add_mod]
 rw [h2];have:=ywe h1 (rfl:b ^ (e % q) % p=b ^ (e % q) % p)
 rwa [Nat.one_mul] at this
theorem Elm.congr {p q b:Nat} (h:Elm p q b) {e f:Nat} (he:e % q=f % q):b ^ e % p=b ^ f % p:=by rw [h.red e,he, <-h.red f]
theorem Elm.inv {p q b:Nat} (h:Elm p q b) (hq:0<q) (e:Nat):b ^ e*b ^ (q-e % q) % p=1 % p:=by
 rw [<-Nat.pow_add,h.congr (f:=0) ?_,Nat.pow_zero];have h1:=Nat.mod_lt e hq;have h2:=Nat.div_add_mod e q;have h3:e+(q-e % q)=q+q*(e / q):=by omega
 rw [h3,Nat.add_mul_mod_self_left,Nat.mod_self,Nat.zero_mod]
theorem Elm.inj {p q b:Nat} (hq:PrimeN q) (h:Elm p q b) (hb:b % p≠1 % p) {e f:Nat} (he:e<q) (hf:f<q) (hef:b ^ e % p=b ^ f % p):e=f:=by
 have key:∀e f,e<f->f<q->b ^ e % p=b ^ f % p->False:=fun e f hlt hf hef=>by
  have h1:b ^ (f-e) % p=1 % p:=by
   refine yoh (h.inv (by omega) e) ?_;rw [<-Nat.pow_add,Nat.one_mul,show f-e+e=f by omega];exact hef.symm
  have h2:=yjb hq (a:=f-e) (by rw [Nat.mod_eq_of_lt (by omega)];omega);have h3:b ^ ((f-e) ^ (q-2)*(f-e)) % p=b ^ 1 % p:=h.congr (by rw [h2,Nat.mod_eq_of_lt (by omega)]);rw [Nat.mul_comm,Nat.pow_mul,yzm h1,Nat.one_pow,Nat.pow_one] at h3;exact hb h3.symm
 rcases Nat.lt_trichotomy e f with h1|h1|h1
 ·exact (key e f h1 hf hef).elim
 ·exact h1
 ·exact (key f e h1 he hef.symm).elim
def yjc (q:Nat):Nat->Nat->Bool
 |0,lo=>Nat.ble lo 1|| !(Nat.beq (q % lo) 0)
 |k+1,lo=>yjc q k lo&&yjc q k (lo+2 ^ k)
theorem znb (q:Nat):∀k lo,yjc q k lo=true->∀d,lo<=d->d<lo+2 ^ k->2<=d->¬d ∣ q
 |0,lo,h,d,h1,h2,h3,hd=>by
  have e:d=lo:=by omega
  subst e;have hm:=Nat.mod_eq_zero_of_dvd hd;unfold yjc at h;rw [hm] at h;rw [Bool.or_eq_true] at h;rcases h with h|h
  ·have:=Nat.le_of_ble_eq_true h
   omega
  ·exact absurd h (by decide)
 |k+1,lo,h,d,h1,h2,h3,hd=>by
  unfold yjc at h;rw [Bool.and_eq_true] at h;rw [Nat.pow_succ] at h2;rcases Nat.lt_or_ge d (lo+2 ^ k) with hlt|hge
  ·exact znb q k lo h.1 d h1 hlt h3 hd
  ·exact znb q k _ h.2 d hge (by omega) h3 hd
theorem ztj {q k:Nat} (h2:2<=q) (h:yjc q k 0=true) (hk:q<2 ^ k*2 ^ k):PrimeN q:=by
 have nd:∀d,2<=d->d<q->¬d ∣ q:=fun d hd hlt hdv=>by
  obtain ⟨c,hc⟩:=hdv;have hs:=znb q k 0 h;rcases Nat.lt_or_ge d (2 ^ k) with h1|h1
  ·exact hs d (by omega) (by omega) hd ⟨c,hc⟩
  ·rcases Nat.lt_or_ge c (2 ^ k) with h3|h3
   ·have hc2:2<=c:=by
     rcases c with _|_|c
     ·omega
     ·omega
     ·omega
    exact hs c (by omega) (by omega) hc2 ⟨d,by rw [hc,Nat.mul_comm]⟩
   ·have:=Nat.mul_le_mul h1 h3
    omega
 refine ⟨h2,fun k h0 h1=>?_⟩;have hg1:=Nat.gcd_dvd_left q k;have hg2:=Nat.gcd_dvd_right q k;have hg3:=Nat.le_of_dvd h0 hg2;have hg0:0<Nat.gcd q k:=Nat.gcd_pos_of_pos_right _ h0;unfold Nat.Coprime;rcases Nat.lt_or_ge (Nat.gcd q k) 2 with h3|h3
 ·omega
 ·exact (nd _ h3 (by omega) hg1).elim
theorem yoi:PrimeN 1073741789:=ztj (k:=15) (by decide) (by kernel_rfl) (by decide)
theorem ytf (b e:Nat) (he:e<18446744073709551616) (h:zog b e=1):Elm 2147483579 e b:=⟨by
 rw [zmm he] at h
 exact h⟩
theorem elm4:Elm 2147483579 1073741789 4:=ytf 4 1073741789 (by decide) (by kernel_rfl)
theorem elm9:Elm 2147483579 1073741789 9:=ytf 9 1073741789 (by decide) (by kernel_rfl)
theorem xak:(4:Nat) % 2147483579≠1 % 2147483579:=by decide
theorem yru {n m r:Nat} (hn:n<1073741789) (hm:m<1073741789) (h:4 ^ n*9 ^ r % 2147483579=4 ^ m*9 ^ r % 2147483579):n=m:=
 elm4.inj yoi xak hn hm (yoh (elm9.inv (by decide) r) h)
theorem ydl (c:Int):zss c<1073741789:=by unfold zss;omega
theorem zsh (c b:Int) (hb:b<1073741789):yhn c b=4 ^ zss c*9 ^ b.toNat % 2147483579:=by
 have hv:=ydl c;unfold yhn;rw [zmm (by omega),zmm (by omega)];exact (Nat.mul_mod _ _ _).symm
theorem yvj (c b:Int):yhn c b<2147483579:=Nat.mod_lt _ (by decide)
theorem yrv {c e:Int} (h1: -500000000<=c/\c<=500000000) (h2: -500000000<=e/\e<=500000000) (h:zss c=zss e):c=e:=by
 unfold zss at h;omega
theorem ydm {m c e b:Int} (h1:ja m c b=true) (h2:ja m e b=true):c=e:=by
 unfold ja at h1 h2;simp only [Bool.and_eq_true,zdz,decide_eq_true_eq] at h1 h2;obtain ⟨⟨a1,a2,a3,a4⟩,a5⟩:=h1;obtain ⟨⟨b1,b2,b3,b4⟩,b5⟩:=h2;rw [a5,zsh c b a4,zsh e b a4] at b5;exact yrv ⟨a1,a2⟩ ⟨b1,b2⟩ (yru (ydl c) (ydl e) (Int.ofNat_inj.1 b5))
theorem yvk {p q a b:Nat} (ha:Elm p q a) (hb:Elm p q b):Elm p q (a*b):=⟨by
 rw [Nat.mul_pow];have:=ywe ha.one hb.one
 rwa [Nat.one_mul] at this⟩
theorem yoj {p q a:Nat} (ha:Elm p q a) (n:Nat):Elm p q (a ^ n):=⟨by
 rw [<-Nat.pow_mul,Nat.mul_comm,Nat.pow_mul];have:=yzm ha.one n
 rwa [Nat.one_pow] at this⟩
theorem yvl {p q a:Nat} (ha:Elm p q a):Elm p q (a % p):=⟨by
 rw [<-Nat.pow_mod]
 exact ha.one⟩
theorem yxr (b e:Nat) (he:e<18446744073709551616) (h:Elm 2147483579 e b):zog b e=1:=by
 rw [zmm he];exact h.one
theorem yrw {x:Nat} (h:Elm 2147483579 1073741789 x) (hx:x<2147483579):zfl (x:Int)=true:=by
 have h1:zog x 1073741789=1:=yxr x 1073741789 (by decide) h;have h0:0<x:=by
  rcases Nat.eq_zero_or_pos x with h2|h2
  ·subst h2
   exact absurd h1 (by decide+kernel)
  ·exact h2
 unfold zfl;rw [Int.toNat_natCast,h1];simp;omega
theorem yvm (c b:Int) (hb:b<1073741789):Elm 2147483579 1073741789 (yhn c b):=by
 rw [zsh c b hb];exact yvl (yvk (yoj elm4 _) (yoj elm9 _))
theorem yrx (c b:Int) (hb:b<1073741789):zfl (yhn c b:Int)=true:=yrw (yvm c b hb) (yvj c b)
theorem yjd (c b:Nat) (a:Nat):chainN a (chainN b c)=chainN (a+b) c:=by
 induction a with
 |zero=>rw [zeb,Nat.zero_add]
 |succ a ih=>rw [zbi,ih,Nat.add_right_comm,zbi]
theorem yje (l:List (Nat × Nat)):(leafS l).data.toList=l.flatMap fun x=>(zex (chainN (15-x.1) x.2)).data.toList:=by
 have key:∀(l:List (Nat × Nat)) (s:ByteArray),(l.foldl (fun s x=>s++zex (chainN (15-x.1) x.2)) s).data.toList=s.data.toList++l.flatMap fun x=>(zex (chainN (15-x.1) x.2)).data.toList:=by
  intro l
  induction l with
  |nil=>intro s;exact (List.append_nil _).symm
  |cons x l ih=>
   intro s;rw [List.foldl_cons,ih,List.flatMap_cons,ByteArray.data_append,Array.toList_append,List.append_assoc]
 exact key l _
theorem yok {α:Type} (l:List Nat) (n:Nat) (g:Nat->α) (h:l.length=n):l.zip ((List.range n).map g)=(List.range n).map fun k=>(l.getD k 0,g k):=by
 apply List.ext_getElem?
 intro k;rcases Nat.lt_or_ge k n with hk|hk
 ·have hkl:k<l.length:=by omega
  have e:(l.zip ((List.range n).map g))[k]?=some (l[k]'hkl,g k):=List.getElem?_zip_eq_some.2 ⟨List.getElem?_eq_getElem hkl,by rw [List.getElem?_map,List.getElem?_range hk];rfl⟩;rw [e,List.getElem?_map,List.getElem?_range hk,Option.map_some,List.getD_eq_getElem?_getD,List.getElem?_eq_getElem hkl,Option.getD_some]
 ·rw [List.getElem?_eq_none (by simp;omega),List.getElem?_eq_none (by simp;omega)]
theorem yjf (seed:ByteArray) (i:Nat) (text:ByteArray):leafS ((zts text).zip (chainsN seed i text))=⟨(leafK seed i).toArray⟩:=by
 have hl:=zwa text;have hle:=ycj text;have e:(zts text).zip (chainsN seed i text)=(List.range 18).map fun (k:Nat)=>((zts text).getD k 0,chainN ((zts text).getD k 0) (yfv seed i k)):=yok _ 18 _ hl
 have h:(leafS ((zts text).zip (chainsN seed i text))).data.toList=leafK seed i:=by
  rw [yje,e,List.flatMap_map];unfold leafK;generalize zts text=fg at hl hle;generalize List.range 18=rg
  congr 1
  funext k
  have hk:fg.getD k 0<=15:=by
   rw [List.getD_eq_getElem?_getD];cases hg:fg[k]? with
   |none=>exact Nat.zero_le _
   |some x=>exact hle x (List.mem_of_getElem? hg)
  rw [yjd,Nat.sub_add_cancel hk]
 rw [<-h]
theorem ydn (seed:ByteArray) {h i:Nat} (hi:i<2 ^ h):(leavesN seed h).getD i ⟨#[]⟩=⟨(leafK seed i).toArray⟩:=by
 unfold leavesN;rw [List.getD_eq_getElem?_getD,List.getElem?_map,List.getElem?_range hi];rfl
theorem yvn (seed:ByteArray) (h i:Nat) (text:ByteArray) (hh:h<=8) (hi:i<2 ^ h):signedOK (keyN seed h) h text (signN seed h i text)=true:=by
 have hp:2 ^ h<=2 ^ 8:=Nat.pow_le_pow_right (by decide) hh;have hc:(chainsN seed i text).length=18:=by simp [chainsN]
 have hl:=zsf (leavesN seed h) i (by rw [zal];exact hi) (by rw [zal];omega);rw [ydn seed hi,zal] at hl;unfold signedOK signN;simp only [Int.toNat_natCast,hc,decide_true,Bool.and_true];rw [yjf,decide_eq_true (by omega),decide_eq_true (by omega)];exact hl
def yjg (fl:Nat->Bool):Nat->List Int->Nat
 |_,[]=>1
 |i,c::r=>(if fl i then 1 else c.toNat)*yjg fl (i+1) r
theorem zsi (l:List Shw):∀(cs:List Int) (i p:Nat),p<2147483579->zen l i cs p=p*yjg (zbx l) i cs % 2147483579
 |[],_,p,h=>by rw [zen,yjg,Nat.mul_one,Nat.mod_eq_of_lt h]
 |c::r,i,p,h=>by
  rw [zen,yjg];split
  ·rw [zsi l r _ _ h,Nat.one_mul]
  ·rw [zsi l r _ _ (Nat.mod_lt _ (by decide)),Nat.mod_mul_mod,Nat.mul_assoc]
theorem ygd (c:Int):(zss c:Int)=c % 1073741789:=by
 unfold zss;omega
theorem zsj (fl:Nat->Bool):∀(rs:List Rw) (bs:List Int) (mk:List Bool) (i:Nat),bs.length=rs.length->mk.length=rs.length->(∀k,k<rs.length->mk[k]?=some (!fl (i+k)))->(∀b∈bs,0<=b/\b<1073741789)->
  ∃A B:Nat,yjg fl i (zpd rs bs) % 2147483579=4 ^ A*9 ^ B % 2147483579/\(A:Int) % 1073741789=qj (rs.map Rw.cents) mk % 1073741789/\(B:Int)=qj bs mk
 |[],bs,mk,i,_,_,_,_=>⟨0,0,rfl,by simp [qj],by cases bs<;>cases mk<;>simp_all [qj]⟩
 |r::rs,[],mk,i,h,_,_,_=>by simp at h
 |r::rs,b::bs,[],i,_,h,_,_=>by simp at h
 |r::rs,b::bs,m::mk,i,h1,h2,h3,h4=>by
  have hb:=h4 b (by simp)
  obtain ⟨A,B,e1,e2,e3⟩:=zsj fl rs bs mk (i+1) (by simpa using h1) (by simpa using h2) (fun k hk=>by
   have:=h3 (k+1) (by rw [List.length_cons];omega);rw [List.getElem?_cons_succ,show i+(k+1)=i+1+k by omega] at this
   exact this) (fun b hb=>h4 b (by simp [hb]))
  have hm:m= !fl i:=by
   have:=h3 0 (by simp);simpa using this
  rw [zpd,yjg,List.map_cons,qj,qj];cases hf:fl i with
  |true=>
   rw [hf] at hm;subst hm;refine ⟨A,B,?_,?_,?_⟩
   ·simp only [if_true,Nat.one_mul]
    exact e1
   ·simp only [Bool.not_true,Bool.false_eq_true,if_false,Int.zero_add]
    exact e2
   ·simp only [Bool.not_true,Bool.false_eq_true,if_false,Int.zero_add]
    exact e3
  |false=>
   rw [hf] at hm;subst hm;refine ⟨zss r.cents+A,b.toNat+B,?_,?_,?_⟩
   ·simp only [Bool.false_eq_true,if_false,Int.toNat_natCast]
    have e4:zuo r b % 2147483579=4 ^ zss r.cents*9 ^ b.toNat % 2147483579:=by
     show yhn r.cents b % _=_;rw [zsh _ _ hb.2,Nat.mod_mod]
    rw [ywe e4 e1,Nat.pow_add,Nat.pow_add]
    congr 1
    simp only [Nat.mul_assoc,Nat.mul_left_comm,Nat.mul_comm]
   ·have:=ygd r.cents
    simp only [Bool.not_false,if_true];rw [Int.natCast_add];omega
   ·simp only [Bool.not_false,if_true]
    omega
theorem yge:∀(rs:List Rw) (bs:List Int),bs.length=rs.length->∀k,k<rs.length->(zpd rs bs).getD k 0=yhn (rs.getD k ⟨⟨#[]⟩,0,⟨#[]⟩⟩).cents (bs.getD k 0)
 |[],_,_,k,hk=>absurd hk (Nat.not_lt_zero k)
 |_::_,[],h,_,_=>by simp at h
 |r::rs,b::bs,_,0,_=>rfl
 |r::rs,b::bs,h,k+1,hk=>by
  have:=yge rs bs (by simpa using h) k (by simpa using hk);simpa [zpd] using this
theorem yam:∀(rs:List Rw) (bs:List Int),bs.length=rs.length->∀k,k<rs.length->(zaz rs bs).getD k ⟨#[]⟩=zdi (rs.getD k ⟨⟨#[]⟩,0,⟨#[]⟩⟩).label ((zpd rs bs).getD k 0) (rs.getD k ⟨⟨#[]⟩,0,⟨#[]⟩⟩).reason
 |[],_,_,k,hk=>absurd hk (Nat.not_lt_zero k)
 |_::_,[],h,_,_=>by simp at h
 |r::rs,b::bs,_,0,_=>rfl
 |r::rs,b::bs,h,k+1,hk=>by
  have:=yam rs bs (by simpa using h) k (by simpa using hk);simpa [zaz,zpd] using this
theorem yan:∀(rs:List Rw) (bs:List Int),(∀b∈bs,0<=b/\b<1073741789)->∀c∈zpd rs bs,zfl c=true
 |[],_,_,c,h=>by cases h
 |_::_,[],_,c,h=>by cases h
 |r::rs,b::bs,hb,c,h=>by
  rcases List.mem_cons.1 h with rfl|h
  ·exact yrx r.cents b (hb b (by simp)).2
  ·exact yan rs bs (fun b h=>hb b (by simp [h])) c h
theorem yol (d:Disc):zji d=zhg spT (zjo d.person d.month d.root d.commit):=by
 obtain ⟨person,month,root,commit,shown,hidden,blind,sig⟩:=d;show commit.foldl (fun s c=>s++(⟨#[32]⟩++ql c)) (⟨#[112,97,121,115,108,105,112,32]⟩++person++⟨#[32]⟩++ql month++⟨#[32]⟩++zex root)=
  ([person,ql month,zex root]++commit.map ql).foldl (fun s y=>s++spT++y) paysT
 rw [List.foldl_append,List.foldl_map];have h1:(fun (s:ByteArray) (c:Int)=>s++(⟨#[32]⟩++ql c))=fun s c=>s++spT++ql c:=by
  funext s c
  exact (ByteArray.append_assoc).symm
 rw [h1]
 congr 1
theorem ygf {s:Slip} (hg:SlipGood s) (d:Disc) (hr:d.root=s.root) (hc:d.commit=zpd s.rows s.blinds):∀(l:List Int) (last:Int),l.Pairwise (· < ·)->(∀x∈l,last<x/\0<=x/\x<s.rows.length)->shownOK d last (l.map (showRow s))=true
 |[],_,_,_=>rfl
 |x::l,last,hp,h=>by
  have hx:=h x (by simp);rw [List.pairwise_cons] at hp;have ih:=ygf hg d hr hc l x hp.2 (fun y hy=>⟨hp.1 y hy,(h y (by simp [hy])).2⟩);have hlen:d.commit.length=s.rows.length:=by rw [hc];exact zpe _ _ hg.blinds
  have hk:x.toNat<s.rows.length:=by omega
  rw [List.map_cons,shownOK];have hi:(showRow s x).index=x:=rfl;rw [hi,ih,Bool.and_true];unfold shwOK;rw [hi,hlen,decide_eq_true hx.1,decide_eq_true hx.2.2,Bool.true_and,Bool.true_and,Bool.and_eq_true];have e1:cAt d x=(yhn (showRow s x).cents (showRow s x).blind:Nat):=by
   unfold cAt;rw [hc,yge _ _ hg.blinds _ hk];rfl
  have hcm:∀r∈s.rows,r=r:=fun _ _=>rfl
  have hmem:s.rows.getD x.toNat ⟨⟨#[]⟩,0,⟨#[]⟩⟩∈s.rows:=by
   rw [List.getD_eq_getElem?_getD,List.getElem?_eq_getElem hk];exact List.getElem_mem hk
  have hbm:s.blinds.getD x.toNat 0∈s.blinds:=by
   rw [List.getD_eq_getElem?_getD,List.getElem?_eq_getElem (by rw [hg.blinds];exact hk)];exact List.getElem_mem _
  refine ⟨?_,?_⟩
  ·unfold ja
   rw [e1,Bool.and_eq_true,zdz];have b1:=hg.cents _ hmem;have b2:=hg.blind _ hbm;exact ⟨⟨b1.1,b1.2,b2.1,b2.2⟩,by simp⟩
  ·have h1:=zsf (zaz s.rows s.blinds) x.toNat (by rw [zef _ _ hg.blinds];exact hk) (by rw [zef _ _ hg.blinds];exact hg.rows.2)
   rw [hg.root,yam _ _ hg.blinds _ hk,zef _ _ hg.blinds] at h1;have e2:cAt d x=(zpd s.rows s.blinds).getD x.toNat 0:=by
    unfold cAt;rw [hc]
   have e3:(x.toNat:Int)=x:=by omega
   rw [e3] at h1;rw [hr,e2];exact h1
theorem ydo (s:Slip) (l:List Int) (i:Nat):zbx (l.map (showRow s)) i=decide ((i:Int)∈l):=by
 unfold zbx;rw [Bool.eq_iff_iff];simp only [List.any_map,List.any_eq_true,Function.comp,decide_eq_true_eq];constructor
 ·rintro ⟨x,hx,he⟩
  have he:x=i:=he;rw [<-he];exact hx
 ·intro h
  exact ⟨_,h,rfl⟩
theorem yvo {s:Slip} (hg:SlipGood s) {sel:List Int} (hsel:zkj s.rows.length none sel=true) (seed:ByteArray) {h i:Nat} (hh:h<=8) (hi:i<2 ^ h)
  (hsum: -500000000<=qj (s.rows.map Rw.cents) (zol s.rows.length sel)/\qj (s.rows.map Rw.cents) (zol s.rows.length sel)<=500000000):accOK (keyN seed h) h (showN s sel seed h i)=true:=by
 obtain ⟨p1,p2,_⟩:=zlt _ _ _ hsel;have hcl:=zpe _ _ hg.blinds;have h1:zix (showN s sel seed h i)=true:=by
  unfold zix showN;simp only [hg.name,hcl];rw [decide_eq_true hg.month.1,decide_eq_true hg.month.2,decide_eq_true hg.rows.1,decide_eq_true hg.rows.2];simp only [Bool.true_and,List.all_eq_true];exact yan _ _ hg.blind
 have h2:shownOK (showN s sel seed h i) (-1) (showN s sel seed h i).shown=true:=ygf hg _ rfl rfl sel (-1) p1 (fun x hx=>⟨by have:=p2 x hx;omega,p2 x hx⟩);have h3:signedOK (keyN seed h) h (zji (showN s sel seed h i)) (showN s sel seed h i).sig=true:=by
  rw [yol];exact yvn seed h i _ hh hi
 have hfl:∀k,k<s.rows.length->(zol s.rows.length sel)[k]?=some (!zbx (sel.map (showRow s)) (0+k)):=fun k hk=>by
  unfold zol;rw [List.getElem?_map,List.getElem?_range hk,Nat.zero_add,ydo];rfl
 obtain ⟨A,B,e1,e2,e3⟩:=zsj (zbx (sel.map (showRow s))) s.rows s.blinds (zol s.rows.length sel) 0 hg.blinds (by simp [zol]) hfl hg.blind;have h4:ja (zen (showN s sel seed h i).shown 0 (showN s sel seed h i).commit 1) (showN s sel seed h i).hidden (showN s sel seed h i).blind=true:=by
  show ja (zen (sel.map (showRow s)) 0 (zpd s.rows s.blinds) 1) (qj (s.rows.map Rw.cents) (zol s.rows.length sel)) ((qj s.blinds (zol s.rows.length sel)).tmod 1073741789)=true;rw [zsi _ _ _ _ (by decide),Nat.one_mul,e1, <-e3];generalize qj (s.rows.map Rw.cents) (zol s.rows.length sel)=hs1 at hsum e2 ⊢;have e4:(B:Int).tmod 1073741789=((B % 1073741789:Nat):Int):=by
   rw [Int.tmod_eq_emod_of_nonneg (by omega)];omega
  have hB:B % 1073741789<1073741789:=Nat.mod_lt _ (by decide);unfold ja;rw [e4,Bool.and_eq_true,zdz];refine ⟨⟨hsum.1,hsum.2,by omega,by omega⟩,?_⟩;rw [decide_eq_true_eq,zsh _ _ (by omega),Int.toNat_natCast];have e5:A % 1073741789=zss hs1 % 1073741789:=by
   have:=ygd hs1;omega
  rw [ywe (elm4.congr e5) (elm9.red B)]
 unfold accOK;rw [h1,h2,h3,h4];rfl
theorem yjh {root h:Nat} {idx:Int} {leaf:ByteArray} {path:List Frk} (hl:zap root (2 ^ h:Nat) idx leaf path=true):0<=idx/\idx<(2 ^ h:Nat)/\path.length=h:=by
 unfold zap at hl;simp only [Bool.and_eq_true,decide_eq_true_eq] at hl;obtain ⟨⟨⟨_,h3⟩,h4⟩,h5⟩:=hl;refine ⟨h3,h4,ztu 12 h idx.toNat path (zbq leaf) root (by omega) ?_⟩;rw [Int.toNat_natCast] at h5;exact h5
theorem zut {key:Nat} {height:Int} {text:ByteArray} {s:Sg} (h:signedOK key height text s=true):0<=height/\height<=8/\0<=s.index/\s.index<(2 ^ height.toNat:Nat)/\s.path.length=height.toNat:=by
 unfold signedOK at h;simp only [Bool.and_eq_true,decide_eq_true_eq] at h;obtain ⟨⟨⟨h1,h2⟩,_⟩,h4⟩:=h;exact ⟨h1,h2,yjh h4⟩
theorem zlu {key:Nat} {height:Int} {d:Disc} (h:accOK key height d=true):zix d=true/\shownOK d (-1) d.shown=true/\ja (zen d.shown 0 d.commit 1) d.hidden d.blind=true/\signedOK key height (zji d) d.sig=true:=by
 unfold accOK at h;simp only [Bool.and_eq_true] at h;exact ⟨h.1.1.1,h.1.1.2,h.1.2,h.2⟩
theorem yry {key key':Nat} {height h':Int} {d:Disc} (h:accOK key height d=true) (hne:h'≠height):accOK key' h' d=false:=by
 cases hb:accOK key' h' d with
 |false=>rfl
 |true=>
  obtain ⟨a1,_,_,_,a2⟩:=zut (zlu h).2.2.2;obtain ⟨b1,_,_,_,b2⟩:=zut (zlu hb).2.2.2;omega
theorem yvp {key:Nat} {height:Int} {d:Disc} (h:accOK key height d=true->False):accOK key height d=false:=by
 cases hb:accOK key height d with
 |false=>rfl
 |true=>exact (h hb).elim
theorem zwt {key:Nat} {height:Int} {d:Disc} (h:accOK key height d=true) {n:Int} (hn:n≠d.hidden):accOK key height {d with hidden:=n}=false:=
 yvp fun hb=>hn (ydm (zlu hb).2.2.1 (zlu h).2.2.1)
def ydp (x:Int):List Int->List Int
 |[]=>[x]
 |y::l=>if x<=y then x::y::l else y::ydp x l
def yji:List Int->List Int
 |[]=>[]
 |x::l=>ydp x (yji l)
theorem znc (x:Int):∀l,(ydp x l).Perm (x::l)
 |[]=>.refl _
 |y::l=>by
  rw [ydp];split
  ·exact .refl _
  ·exact ((znc x l).cons y).trans (.swap x y l)
theorem zuu:∀l,(yji l).Perm l
 |[]=>.refl _
 |x::l=>(znc x _).trans ((zuu l).cons x)
theorem zoa (x:Int):∀l,l.Pairwise (· <= ·)->(ydp x l).Pairwise (· <= ·)
 |[],_=>by simp [ydp]
 |y::l,h=>by
  rw [List.pairwise_cons] at h;rw [ydp];split
  ·rename_i hxy
   rw [List.pairwise_cons];refine ⟨fun z hz=>?_,List.pairwise_cons.2 h⟩;rcases List.mem_cons.1 hz with rfl|hz
   ·exact hxy
   ·have:=h.1 z hz;omega
  ·rename_i hxy
   rw [List.pairwise_cons];refine ⟨fun z hz=>?_,zoa x l h.2⟩;rcases List.mem_cons.1 ((znc x l).mem_iff.1 hz) with rfl|hz
   ·omega
   ·exact h.1 z hz
theorem zob:∀l,(yji l).Pairwise (· <= ·)
 |[]=>.nil
 |x::l=>zoa x _ (zob l)
theorem zlv:∀{a b:List Int},a.Perm b->a.Pairwise (· <= ·)->b.Pairwise (· <= ·)->a=b
 |[],b,h,_,_=>by rw [List.nil_perm.1 h]
 |x::a,[],h,_,_=>by cases (List.perm_nil.1 h)
 |x::a,y::b,h,ha,hb=>by
  rw [List.pairwise_cons] at ha hb;have hxy:x=y:=by
   have h1:x∈y::b:=h.mem_iff.1 (by simp);have h2:y∈x::a:=h.mem_iff.2 (by simp);rcases List.mem_cons.1 h1 with h1|h1
   ·exact h1
   ·rcases List.mem_cons.1 h2 with h2|h2
    ·exact h2.symm
    ·have:=ha.1 y h2
     have:=hb.1 x h1;omega
  subst hxy;rw [zlv h.cons_inv ha.2 hb.2]
theorem zsk (l:List Int):zce l=yji l:=by
 refine zlv ((List.mergeSort_perm l fun x y=>decide (x<=y)).trans (zuu l).symm) ?_ (zob l);have:=List.pairwise_mergeSort (le:=fun x y:Int=>decide (x<=y)) (fun a b c h1 h2=>by simp at*;omega) (fun a b=>by simp;omega) l;exact this.imp fun h=>by simpa using h
def inK (c:Codex) (day known:Int):List Int:=yji ((yqy c day known).map (·.2))
theorem yxs (c:Codex) (day known:Int):inA c day known=inK c day known:=zsk _
def yom (S:AM) (used:List Bool):List Int:=Go.Lib.compact (yji (((List.range used.length).filter fun i=>used.getD i false&&S.has.getD i false).map fun i=>S.nums.getD i 0))
theorem yon (S:AM) (used:List Bool):zhx S used=yom S used:=by
 unfold zhx yom;rw [zsk]
def yvq (c:Codex) (S:AM) (inF:List Int) (s:List (Int × Int) × List (Int × Int)) (v:Int) (a:Article):Ln:=
 ⟨S.day,a.line,v,(zy a.number s.2).getD 0,yom S (zke c a),zli c inF s.1 a⟩
theorem yrz (c:Codex) (S:AM) (inF:List Int) (s:List (Int × Int) × List (Int × Int)) (v:Int) (a:Article):zra c S inF s v a=yvq c S inF s v a:=by
 unfold zra yvq;rw [yon]
def ydq (c:Codex) (S:AM) (inF:List Int) (s:List (Int × Int) × List (Int × Int)) (line:Ln):Bool:=
 match zdj c line.art with
 |some a=>if line.art∈inF/\(zy line.art s.1).getD 0=2 then yfj (yvq c S inF s line.art a) line else false
 |none=>false
theorem yjj (c:Codex) (S:AM) (inF:List Int) (s:List (Int × Int) × List (Int × Int)) (line:Ln):zgo c S inF s line=ydq c S inF s line:=by
 unfold zgo ydq;cases zdj c line.art with
 |none=>rfl
 |some a=>simp only [yrz]
def yoo (c:Codex) (l:List Fact) (person:ByteArray) (known:Int) (line:Ln):Bool:=
 qd c&&qr l&&(decide (0<=line.day)&&decide (line.day<=36524))&&(decide (0<=known)&&decide (known<=36524))&&decide ((ybg c).length=c.arts.length)&&
  ydq c (zax c l person line.day known) (inK c line.day known) (yxa c (zax c l person line.day known) (inK c line.day known) (ybg c)) line
theorem zfx (c:Codex) (l:List Fact) (person:ByteArray) (known:Int) (line:Ln):qt c l person known line=yoo c l person known line:=by
 unfold qt yoo;rw [yxs,yjj]
theorem yxt {b:Nat} {H0:List SObj} {f:Ex} (l:List Ex) (hb:H0[b]?=some (.cells (f.cells.map .imm))) (hu:H0.all (SObj.under H0.length)=true):yxb G 171 b H0 (fun e=> !decide (e.unit=f.unit)) l:=by
 intro e _;have hbl:=lt_of_getElem? hb;obtain ⟨xo,xn,xu,xd,xp,xk⟩:=e
 refine jh Tryz.func171 rfl (by rw [Tryz.ntmps171];simp) (by
  have h1:(Ex.mk xo xn xu xd xp xk).sv.under H0.length=true:=rfl;have h2:(SV.ptr b 0).under H0.length=true:=by simp [SV.under,hbl]
  simp only [List.all_cons,List.all_nil,h1,h2,Bool.and_true]) hu ?_
 intro E hH hK;(refine yb [777,5,7] 1000 ?_;conv=>whnf);refine wk (cs:=(Ex.mk xo xn xu xd xp xk).cells.map .imm) (v:=sS xu) rfl rfl rfl rfl (by simp) rfl ?_;(refine zl [777,5,7] 1000 ?_;conv=>whnf);refine wk (cs:=f.cells.map .imm) (v:=sS f.unit) rfl rfl rfl rfl ((List.getElem?_append_left hbl).trans hb) ?_ ?_
 ·rw [Ex.cells_eq];rfl
 (refine zc ?_;conv=>whnf);refine hK _ _ (by simp) rfl (by rw [List.take_left'];exact hu;rfl) ⟨rfl,by rw [List.take_left'];rfl⟩
theorem yop {ks:List Ex} {f:Ex} (hf:ks.head?=some f):zdc ks= !(ks.any fun e=> !decide (e.unit=f.unit)):=by
 cases ks with
 |nil=>cases hf
 |cons a r=>
  injection hf with hf
  subst hf;rw [zdc,List.all_eq_not_any_not]
def yjk (op:Int) (u:ByteArray) (f l:Ex) (len:Int) (same:Bool):Bool:=
 if op=5 then decide (len=1)&&decide (u=tT)&&decide (f.unit=tT)
 else if op=6\/op=7 then decide (len=2)&&decide (u=tT)&&same&&decide (f.unit=tT)
 else if op=8 then decide (len=2)&&decide (u=tT)&&same
 else if op=9\/op=10 then decide (len=2)&&decide (u=tT)&&(same&& !decide (f.unit=tT))
 else if op=11\/op=12 then decide (len=2)&&(same&& !decide (f.unit=tT))&&decide (u=f.unit)
 else if op=16\/op=17 then decide (2<=len)&&(same&& !decide (f.unit=tT))&&decide (u=f.unit)
 else if op=13 then decide (len=2)&& !decide (f.unit=tT)&& !decide (l.unit=tT)&&(decide (f.unit=tN)||decide (l.unit=tN))&&decide (u=if f.unit=tN then l.unit else f.unit)
 else if op=14 then decide (len=2)&&decide (l.op=1)&&decide (l.unit=tN)&&(decide (1<=l.n)&&decide (l.n<=1000000))&& !decide (f.unit=tT)&&decide (u=f.unit)
 else if op=15 then decide (len=2)&&decide (f.unit=tM)&&zdn l.unit&&decide (u=l.unit)
 else false
theorem yvr (op:Int) (u:ByteArray) (f l:Ex) (len:Int) (same:Bool):zaw op u f l len same=yjk op u f l len same:=by
 unfold zaw yjk;rw [show (!decide (l.n<1)&& !decide (1000000<l.n))=(decide (1<=l.n)&&decide (l.n<=1000000)) from by rw [Bool.eq_iff_iff];simp]
theorem yao (op n:Int) (u:ByteArray) (den:Int) (ps:List Piece) (ks:List Ex) (f l:Ex) (hf:ks.head?=some f) (hl:ks.getLast?=some l) (hsz:ks.length<=1000000000):
  zv Tryz.prog G 140 [(Ex.mk op n u den ps ks).sv] (sB (zaw op u f l ks.length (zdc ks))):=by
 have hrows:=zx ks;have hlen:(zj ks).length=ks.length:=by rw [hrows];simp
 have hpos:1<=ks.length:=by cases ks with|nil=>simp at hf|cons a r=>simp
 have h0:(zj ks)[0]?=some f.cells:=by
  rw [hrows];cases ks with
  |nil=>simp at hf
  |cons a r=>simp at hf;simp [hf]
 have h1:(zj ks)[ks.length-1]?=some l.cells:=by
  rw [hrows,List.getElem?_map];rw [List.getLast?_eq_getElem?] at hl;rw [hl];rfl
 have hone:ks.length=1->zdc ks=true:=by
  intro h
  match ks,h with
  |[k],_=>simp [zdc]
 have hm:IntKind.i64.wrap (((zj ks).length:Int)-1)=((ks.length-1:Nat):Int):=by rw [yg (by omega) (by omega)];omega
 have hcon:=fun H0 hb hu=>zlk G (g:=171) (b:=1) (H0:=H0) (p:=fun e=> !decide (e.unit=f.unit)) (l:=ks) rfl (lt_of_getElem? hb) hu hsz (yxt G ks hb hu)
 rw [<-hrows] at hcon;have hsame:=yop hf;generalize (ks.any fun e=> !decide (e.unit=f.unit))=an at hcon hsame;obtain ⟨o0,n0,u0,d0,p0,q0⟩:=f;obtain ⟨o1,n1,u1,d1,p1,q1⟩:=l;have hcur:=zjy G u1;refine zf Tryz.func140 rfl (by rw [Tryz.ntmps140];simp) rfl rfl ?_;intro E hH hK;(refine zm ?_;conv=>whnf);(refine wd 2 mixed rfl ?_;refine zq [] (nx:=1) ?_;conv=>whnf);refine qv rfl (by simp) rfl  (row:=(Ex.mk o0 n0 u0 d0 p0 q0).cells) h0 ?_;(refine zq [] (nx:=1) ?_;conv=>whnf);refine qv rfl (by simp) hm (row:=(Ex.mk o1 n1 u1 d1 p1 q1).cells) h1 ?_;(refine zq [] (nx:=1) ?_;conv=>whnf);(refine zm ?_;conv=>whnf);refine zbu 3 rfl rfl rfl rfl rfl rfl (hcon _ rfl rfl) ?_;rintro r9 H9 ⟨rfl,rfl⟩ _;have hs2:an= !zdc ks:=by rw [hsame,Bool.not_not]
 clear hcon hsame;rw [yvr] at hK;generalize zdc ks=sm at hK hs2 hone;subst hs2;rw [<-hlen] at hK hone;clear hm h0 h1 hf hl hlen hpos hrows;cases sm with
 |false=>
  have hone:¬(zj ks).length=1:=fun h=>Bool.noConfusion (hone h)
  (refine zn ?_;conv=>whnf)
  repeat' ((with_reducible refine way ?_ ?_)<;>(intro h;conv=>whnf))
  all_goals try (refine kB hK ?_;(try simp [yjk,tT,tN,tM,Ex.unit,Ex.op,Ex.n, *]);(try exact decide_eq_decide.2 Iff.rfl);(try omega))
  any_goals refine ze rfl  hcur ?_
  any_goals (refine zn ?_;conv=>whnf)
  any_goals repeat' ((with_reducible refine way ?_ ?_)<;>(intro h;conv=>whnf))
  all_goals try (refine kB hK ?_;(try simp [yjk,tT,tN,tM,Ex.unit,Ex.op,Ex.n, *]);(try exact decide_eq_decide.2 Iff.rfl);(try omega))
  all_goals trace_state
 |true=>
  clear hone;(refine zn ?_;conv=>whnf)
  repeat' ((with_reducible refine way ?_ ?_)<;>(intro h;conv=>whnf))
  all_goals try (refine kB hK ?_;(try simp [yjk,tT,tN,tM,Ex.unit,Ex.op,Ex.n, *]);(try exact decide_eq_decide.2 Iff.rfl);(try omega))
  any_goals refine ze rfl  hcur ?_
  any_goals (refine zn ?_;conv=>whnf)
  any_goals repeat' ((with_reducible refine way ?_ ?_)<;>(intro h;conv=>whnf))
  all_goals try (refine kB hK ?_;(try simp [yjk,tT,tN,tM,Ex.unit,Ex.op,Ex.n, *]);(try exact decide_eq_decide.2 Iff.rfl);(try omega))
  all_goals trace_state
def zkm (m:List (Int × Int)) (n:Int):List SObj:=[.mapI .i64 (jp sI m),.cells [sI n]]
theorem znd (m:List (Int × Int)) (n:Int):(zkm m n).all (SObj.under 2)=true:=by
 simp only [zkm,List.all_cons,zhu];rfl
theorem yoq {op:Int} (u:ByteArray) (f l:Ex) (len:Int) (same:Bool) (h:1<=op/\op<=4):zaw op u f l len same=false:=by
 unfold zaw;rw [if_neg (by omega),if_neg (by omega),if_neg (by omega),if_neg (by omega),if_neg (by omega),if_neg (by omega),if_neg (by omega),if_neg (by omega),if_neg (by omega)]
theorem ydr {facts lines:List Decl} {m:List (Int × Int)} {n:Int} {u:ByteArray} (h:zy n m=none):zdm facts lines m 3 n u=false:=by
 unfold zdm;simp [h]
theorem yap (c : Codex) (hcs : c.facts.length <= 1000000) (m : List (Int × Int)) (hm : ∀ k v, zy k m = some v -> 0 <= v /\ v < c.lines.length) (N : Nat) : ∀ (e : Ex), SizeOf.sizeOf e < N -> ∀ (depth cnt : Int), 0 <= depth -> depth <= 41 -> 0 <= cnt -> cnt <= 400 ->
    SPre Tryz.prog G 103 [c.sv, .map 0, e.sv, sI depth, .ptr 1 0] (zkm m cnt) (fun r H1 => r = sB (wz c m e depth cnt).1 /\ H1 = zkm m (wz c m e depth cnt).2) := by
  induction N with
  | zero => intro e h; omega
  | succ N IH =>
  intro e he depth cnt hd0 hd1 hc0 hc1
  obtain ⟨op, n, u, den, ps, ks⟩ := e
  simp only [Ex.mk.sizeOf_spec] at he
  have hsv : (Ex.mk op n u den ps ks).sv = .agg [sI op, sI n, sS u, sI den, .imm (.isl 3 (ps.map Piece.cells)), .imm (.isl 6 (zj ks))] := rfl
  have hcv : c.sv = .agg [.imm (zp c.facts), .imm (zp c.lines), .imm (yv c.arts)] := rfl
  refine jh Tryz.func103 rfl (by rw [Tryz.ntmps103]; simp) rfl (znd m cnt) ?_
  intro E hH hK
  have fin : ∀ H' q, H'.take 2 = zkm m q -> 2 <= H'.length -> ∀ b, wz c m (.mk op n u den ps ks) depth cnt = (b, q) -> E.K (sB b) H' := fun H' q h1 h2 b h3 =>
    hK _ _ h2 rfl (by show (List.take 2 H').all _ = true; rw [h1]; exact znd m q) ⟨by rw [h3], by rw [h3]; exact h1⟩
  have hw1 : IntKind.i64.wrap (cnt + 1) = cnt + 1 := yg (by omega) (by omega)
  have hrows := zx ks
  have hlen : (zj ks).length = ks.length := by rw [hrows]; simp
  rw [hsv, hcv]
  refine yb [19] 1000 ?_; conv => whnf
  rw [hw1]
  (refine zn ?_; conv => whnf)
  repeat' ((with_reducible refine way ?_ ?_) <;> (intro h; conv => whnf))
  all_goals try exact fin _ _ rfl (by simp) _ (by simp only [wz]; rw [if_pos (by omega)])
  refine ze rfl  (znm G u) ?_
  cases huo : wg u with
  | false =>
    (refine zn ?_; conv => whnf)
    exact fin _ _ rfl (by simp) _ (by simp only [wz]; rw [if_pos (.inr (.inr huo))])
  | true =>
  (refine zn ?_; conv => whnf)
  have hstart : wz c m (.mk op n u den ps ks) depth cnt = (match qm c m ks (depth + 1) (cnt + 1) with | (true, cnt') => (zdd c m op n u den ps ks, cnt') | (false, cnt') => (false, cnt')) := by
    simp only [wz]; rw [if_neg (by rw [huo]; simp; omega)]; try rfl
  have hup := zyu c m (N + 1)
  have hwd : IntKind.i64.wrap (depth + 1) = depth + 1 := yg (by omega) (by omega)
  refine zi [1, 3, 4, 5, 7, 35, 36, 37] ?_
  change SW E _ [(1, .map 0), (3, sI depth), (4, .ptr 1 0), (5, .ptr 2 0), (7, .ptr 3 0), (35, .imm (.isl 6 (zj ks))), (36, sI ((zj ks).length : Nat)), (37, sI (0 : Nat))] (zkm m (cnt + 1) ++ [.cells [.imm (zp c.facts), .imm (zp c.lines), .imm (yv c.arts)], .cells [sI op, sI n, sS u, sI den, .imm (.isl 3 (ps.map Piece.cells)), .imm (.isl 6 (zj ks))]])
  rw [hlen]
  refine zr ks (fun i (_ : Int) => [(1, .map 0), (3, sI depth), (4, .ptr 1 0), (5, .ptr 2 0), (7, .ptr 3 0), (35, .imm (.isl 6 (zj ks))), (36, sI (ks.length : Nat)), (37, sI (i : Nat))])
    (fun _ q => zkm m q ++ [.cells [.imm (zp c.facts), .imm (zp c.lines), .imm (yv c.arts)], .cells [sI op, sI n, sS u, sI den, .imm (.isl 3 (ps.map Piece.cells)), .imm (.isl 6 (zj ks))]])
    (fun done rest q => qm c m ks (depth + 1) (cnt + 1) = qm c m rest (depth + 1) q /\ cnt + 1 + done.length <= q /\ q <= 400) (cnt + 1) ⟨rfl, by simp, by omega⟩ ?_ ?_
  · as_aux_lemma =>
      rintro q ⟨h1, h2, h3⟩
      simp only [qm] at h1
      rw [h1] at hstart
      simp only at hstart
      have hsz : ks.length <= 400 := by omega
      have fin2 : ∀ H' b, H'.take 2 = zkm m q -> 2 <= H'.length -> zdd c m op n u den ps ks = b -> E.K (sB b) H' := fun H' b g1 g2 g3 => fin H' q g1 g2 b (by rw [hstart, g3])
      have hpl : (ps.map Piece.cells).length = ps.length := by simp
      have hfl : (c.facts.map Decl.cells).length = c.facts.length := by simp
      clear IH hup hstart hK fin huo
      by_cases h18 : op = 18
      · subst h18
        have hn18 : zdd c m 18 n u den ps ks = (decide (n = 0) && decide (ks.length = 1) && zdn u && (match ks with | k :: _ => decide (u = k.unit) | [] => false) && jb den ps) := by unfold zdd; rw [if_pos rfl]; try rfl
        have hcur := zjy G u
        have htb := zwh G den ps
        generalize zdn u = b1 at hcur hn18
        generalize jb den ps = b2 at htb hn18
        cases ks with
        | nil =>
          (refine zm ?_; conv => whnf)
          repeat' ((with_reducible refine way ?_ ?_) <;> (intro h; conv => whnf))
          all_goals try (exfalso; omega)
          (refine zt mixed rfl ?_; refine zd [] ?_; conv => whnf)
          repeat' ((with_reducible refine way ?_ ?_) <;> (intro h; conv => whnf))
          all_goals (refine zm ?_; conv => whnf)
          all_goals exact fin2 _ _ rfl (by simp [zkm]) (by rw [hn18]; simp)
        | cons k0 kr =>
          obtain ⟨o0, n0, u0, d0, p0, q0⟩ := k0
          have h0 : (zj (Ex.mk o0 n0 u0 d0 p0 q0 :: kr))[0]? = some (Ex.mk o0 n0 u0 d0 p0 q0).cells := by simp [zj]
          (refine zm ?_; conv => whnf)
          repeat' ((with_reducible refine way ?_ ?_) <;> (intro h; conv => whnf))
          all_goals try (exfalso; omega)
          (refine zt mixed rfl ?_; refine zd [] ?_; conv => whnf)
          repeat' ((with_reducible refine way ?_ ?_) <;> (intro h; conv => whnf))
          · refine zu rfl  hcur ?_
            cases b1 with
            | false =>
              (refine zd [] ?_; conv => whnf)
              (refine zm ?_; conv => whnf)
              exact fin2 _ _ rfl (by simp [zkm]) (by rw [hn18]; simp)
            | true =>
            (refine zd [] ?_; conv => whnf)
            refine yc rfl rfl  (row := (Ex.mk o0 n0 u0 d0 p0 q0).cells) h0 ?_
            (refine zd [] ?_; conv => whnf)
            repeat' ((with_reducible refine way ?_ ?_) <;> (intro h; conv => whnf))
            · refine zu rfl  htb ?_
              (refine zd [] ?_; conv => whnf)
              (refine zm ?_; conv => whnf)
              refine fin2 _ _ rfl (by simp [zkm]) ?_
              rw [hn18, decide_eq_true ‹n = 0›, decide_eq_true (show (Ex.mk o0 n0 u0 d0 p0 q0 :: kr).length = 1 by omega)]
              have hu : decide (u = (Ex.mk o0 n0 u0 d0 p0 q0).unit) = true := decide_eq_true h.symm
              simp only [hu]
              try rfl
            · (refine zm ?_; conv => whnf)
              refine fin2 _ _ rfl (by simp [zkm]) ?_
              have hu : decide (u = (Ex.mk o0 n0 u0 d0 p0 q0).unit) = false := decide_eq_false (fun e => h (Eq.symm e))
              rw [hn18]
              simp only [hu]
              simp
          · (refine zm ?_; conv => whnf)
            exact fin2 _ _ rfl (by simp [zkm]) (by rw [hn18, decide_eq_false (show ¬ (Ex.mk o0 n0 u0 d0 p0 q0 :: kr).length = 1 by omega)]; simp)
          · (refine zm ?_; conv => whnf)
            exact fin2 _ _ rfl (by simp [zkm]) (by rw [hn18, decide_eq_false h]; simp)
      by_cases htab : ¬ den = 0 \/ 0 < ps.length
      · (refine zm ?_; conv => whnf)
        repeat' ((with_reducible refine way ?_ ?_) <;> (intro h; conv => whnf))
        all_goals try (exfalso; omega)
        all_goals exact fin2 _ _ rfl (by simp [zkm]) (by unfold zdd; rw [if_neg h18, if_pos htab])
      have hnode : zdd c m op n u den ps ks = if 1 <= op /\ op <= 4 then decide (ks.length = 0) && zdm c.facts c.lines m op n u else decide (n = 0) && (match ks.head?, ks.getLast? with | some f, some l => zaw op u f l ks.length (zdc ks) | _, _ => false) := by
        unfold zdd; rw [if_neg h18, if_neg htab]; try rfl
      cases ks with
      | cons k0 kr =>
        obtain ⟨l, hl⟩ : ∃ l, (k0 :: kr).getLast? = some l := ⟨_, List.getLast?_eq_some_getLast (by simp)⟩
        have hopr := yao G op n u den ps (k0 :: kr) k0 l rfl hl (by omega)
        rw [hl] at hnode
        simp only [List.head?_cons] at hnode
        have hnode : zdd c m op n u den ps (k0 :: kr) = (decide (n = 0) && zaw op u k0 l (k0 :: kr).length (zdc (k0 :: kr))) := by
          rw [hnode]
          split
          · rename_i h
            rw [yoq u k0 l _ _ h, Bool.and_false]
            rfl
          · rfl
        have hpos : 0 < (zj (k0 :: kr)).length := by simp [zj]
        rw [hsv] at hopr
        generalize zaw op u k0 l (k0 :: kr).length (zdc (k0 :: kr)) = b1 at hopr hnode
        (refine zm ?_; conv => whnf)
        repeat' ((with_reducible refine way ?_ ?_) <;> (intro h; conv => whnf))
        all_goals try (exfalso; omega)
        all_goals first
          | exact fin2 _ _ rfl (by simp [zkm]) (by rw [hnode, decide_eq_false ‹¬ n = 0›]; rfl)
          | (refine ze rfl  hopr ?_
             (refine zn ?_; conv => whnf)
             exact fin2 _ _ rfl (by simp [zkm]) (by rw [hnode, decide_eq_true ‹n = 0›]; rfl))
      | nil =>
        have hnode : zdd c m op n u den ps [] = if 1 <= op /\ op <= 4 then zdm c.facts c.lines m op n u else false := by
          rw [hnode]
          split
          · rfl
          · simp
        by_cases hop : 1 <= op /\ op <= 4
        · rw [if_pos hop] at hnode
          rcases (show op = 1 \/ op = 2 \/ op = 3 \/ op = 4 by omega) with rfl | rfl | rfl | rfl
          · (refine zm ?_; conv => whnf)
            repeat' ((with_reducible refine way ?_ ?_) <;> (intro h; conv => whnf))
            all_goals try (exfalso; omega)
            all_goals exact fin2 _ _ rfl (by simp [zkm]) (by rw [hnode]; simp [zdm, tT, *]; try omega)
          · (refine zm ?_; conv => whnf)
            repeat' ((with_reducible refine way ?_ ?_) <;> (intro h; conv => whnf))
            all_goals try (exfalso; omega)
            (refine zt mixed rfl ?_; refine zd [] ?_; conv => whnf)
            repeat' ((with_reducible refine way ?_ ?_) <;> (intro h; conv => whnf))
            · have hlt : n.toNat < c.facts.length := by omega
              obtain ⟨d, hd⟩ : ∃ d, c.facts[n.toNat]? = some d := ⟨c.facts[n.toNat], List.getElem?_eq_getElem hlt⟩
              refine yc rfl (i := n.toNat) (by omega) (row := d.cells) (by simp [hd]) ?_
              (refine zd [] ?_; conv => whnf)
              (refine zm ?_; conv => whnf)
              refine fin2 _ _ rfl (by simp [zkm]) ?_
              have hua : zdl c.facts n u = decide (u = d.unit) := by simp only [zdl, hd]
              rw [hnode]
              have : decide (d.unit = u) = decide (u = d.unit) := decide_eq_decide.2 ⟨Eq.symm, Eq.symm⟩
              rw [this]
              simp [zdm, hua, *]; omega
            all_goals (refine zm ?_; conv => whnf)
            all_goals refine fin2 _ _ rfl (by simp [zkm]) ?_
            all_goals (rw [hnode]; simp [zdm, *]; try omega)
          · cases hlk : zy n m with
            | none =>
              (refine zm ?_; conv => whnf)
              repeat' ((with_reducible refine way ?_ ?_) <;> (intro h; conv => whnf))
              all_goals try (exfalso; omega)
              refine zbl sI rfl rfl rfl rfl rfl rfl rfl rfl rfl (v := sI 0) (p := false) (by rw [hlk]; rfl) (by rw [hlk]; rfl) ?_
              (refine zn ?_; conv => whnf)
              (refine zt mixed rfl ?_; refine zd [] ?_; conv => whnf)
              (refine zm ?_; conv => whnf)
              exact fin2 _ _ rfl (by simp [zkm]) (by rw [hnode]; exact ydr hlk)
            | some line =>
              obtain ⟨hl0, hl1⟩ := hm n line hlk
              obtain ⟨d, hd⟩ : ∃ d, c.lines[line.toNat]? = some d := ⟨c.lines[line.toNat]'(by omega), List.getElem?_eq_getElem _⟩
              (refine zm ?_; conv => whnf)
              repeat' ((with_reducible refine way ?_ ?_) <;> (intro h; conv => whnf))
              all_goals try (exfalso; omega)
              refine zbl sI rfl rfl rfl rfl rfl rfl rfl rfl rfl (v := sI line) (p := true) (by rw [hlk]; rfl) (by rw [hlk]; rfl) ?_
              (refine zn ?_; conv => whnf)
              (refine zt mixed rfl ?_; refine zd [] ?_; conv => whnf)
              refine yc rfl (i := line.toNat) (by omega) (row := d.cells) (by simp [hd]) ?_
              (refine zd [] ?_; conv => whnf)
              (refine zm ?_; conv => whnf)
              have hua : zdl c.lines line u = decide (u = d.unit) := by simp only [zdl, hd]
              refine fin2 _ _ rfl (by simp [zkm]) ?_
              have : decide (d.unit = u) = decide (u = d.unit) := decide_eq_decide.2 ⟨Eq.symm, Eq.symm⟩
              rw [hnode, this]
              simp [zdm, hlk, hua, *]
          · (refine zm ?_; conv => whnf)
            repeat' ((with_reducible refine way ?_ ?_) <;> (intro h; conv => whnf))
            all_goals try (exfalso; omega)
            all_goals exact fin2 _ _ rfl (by simp [zkm]) (by rw [hnode]; simp [zdm, tN, *]; try omega)
        · rw [if_neg hop] at hnode
          (refine zm ?_; conv => whnf)
          repeat' ((with_reducible refine way ?_ ?_) <;> (intro h; conv => whnf))
          all_goals try (exfalso; omega)
          all_goals exact fin2 _ _ rfl (by simp [zkm]) hnode
  · as_aux_lemma =>
      rintro done kid rest q ha hl ⟨h1, h2, h3⟩ ih
      have hw := zk (n := done.length) (by omega)
      have hks : SizeOf.sizeOf kid < SizeOf.sizeOf ks := List.sizeOf_lt_of_mem (by rw [ha]; simp)
      have hcall := IH kid (by omega) (depth + 1) q (by omega) (by omega) (by omega) h3
      simp only [qm] at h1
      have hkup := hup.1 kid (by omega) (depth + 1) q
      obtain ⟨o1, n1, u1, d1, p1, q1⟩ := kid
      (refine zm ?_; conv => whnf)
      repeat' ((with_reducible refine way ?_ ?_) <;> (intro h; conv => whnf))
      all_goals try (exfalso; omega)
      refine zh rfl rfl  (row := (Ex.mk o1 n1 u1 d1 p1 q1).cells) (by rw [hrows]; simp [ha]) ?_
      (refine zn ?_; conv => whnf)
      rw [hwd]
      refine zbu 2 rfl rfl rfl rfl rfl rfl hcall ?_
      rintro r H1 ⟨rfl, rfl⟩ _
      revert h1 hkup
      cases wz c m (.mk o1 n1 u1 d1 p1 q1) (depth + 1) q with
      | mk b q' =>
        cases b with
        | true =>
          simp only
          intro h1 hkup
          (refine zn ?_; conv => whnf)
          rw [hw]
          exact yq [1, 3, 4, 5, 7, 35, 36, 37] 4 (by rw [hH]; simp [zkm]) (by simp [zkm]) rfl (by simp [zkm, zhu]; exact ⟨rfl, rfl, rfl⟩) (ih q' ⟨h1, by simp; omega, hkup.2 trivial⟩)
        | false =>
          simp only
          intro h1 hkup
          (refine zn ?_; conv => whnf)
          refine fin _ q' rfl (by simp [zkm]) _ ?_
          rw [hstart, h1]
theorem ygg (σ:Nat->Nat) (m:List (Int × Int)):(SObj.mapI .i64 (jp sI m)).ren σ= .mapI .i64 (jp sI m):=by
 simp [SObj.ren,jp,SV.ren]
theorem zuv (c:Codex) (hcs:c.facts.length<=1000000) (m:List (Int × Int)) (hm:∀k v,zy k m=some v->0<=v/\v<c.lines.length) (e:Ex) (depth cnt:Int) (h0:0<=depth) (h1:depth<=41) (h2:0<=cnt) (h3:cnt<=400) {H:List SObj} {mi ni:Nat} (hne:mi≠ni)
  (hmi:H[mi]?=some (.mapI .i64 (jp sI m))) (hni:H[ni]?=some (.cells [sI cnt])):
  SCall Tryz.prog G 103 [c.sv,.map mi,e.sv,sI depth,.ptr ni 0] H (fun r H'=>r=sB (wz c m e depth cnt).1/\H'=H.set ni (.cells [sI (wz c m e depth cnt).2])):=by
 have hml:=lt_of_getElem? hmi;have hnl:=lt_of_getElem? hni;have hs:=yap G c hcs m hm (SizeOf.sizeOf e+1) e (Nat.lt_succ_self _) depth cnt h0 h1 h2 h3 [];rw [List.append_nil] at hs;generalize wz c m e depth cnt=fr at hs;have hcr:∀σ,c.sv.ren σ=c.sv:=fun σ=>rfl
 have her:∀σ,e.sv.ren σ=e.sv:=fun σ=>by cases e;rfl
 have hlen2:(zkm m cnt).length=2:=rfl;have:=zqn (K':=fun r H'=>r=sB fr.1/\H'=H.set ni (.cells [sI fr.2])) hs (H:=H) (fun b=>if b=0 then mi else if b=1 then ni else H.length+(b-2)) ?_ ?_ ?_ ?_ (znd m cnt) ?_
 ·have e1:([c.sv,.map 0,e.sv,sI depth,.ptr 1 0]:List SV).map (SV.ren (fun b=>if b=0 then mi else if b=1 then ni else H.length+(b-2)))=[c.sv,.map mi,e.sv,sI depth,.ptr ni 0]:=by
   simp only [List.map_cons,List.map_nil,hcr,her];rfl
  rw [e1] at this;exact this
 ·intro b b' hb hb' h
  rw [hlen2] at hb hb';rcases (show b=0\/b=1 by omega) with rfl|rfl<;>rcases (show b'=0\/b'=1 by omega) with rfl|rfl<;>first|rfl|(exact absurd h hne)|(exact absurd h.symm hne)
 ·intro i
  simp only [hlen2];rw [if_neg (by omega),if_neg (by omega)];omega
 ·intro b o hb
  match b,hb with
  |0,hb=>
   injection hb with hb
   subst hb;rw [ygg];exact hmi
  |1,hb=>
   injection hb with hb
   subst hb;exact hni
  |b+2,hb=>simp [zkm] at hb
 ·have hcu:c.sv.under 2=true:=rfl
  have heu:e.sv.under 2=true:=by cases e;rfl
  simp only [List.all_cons,List.all_nil,hlen2,hcu,heu];rfl
 ·rintro r H1 H' ⟨H2,⟨rfl,rfl⟩,hl2,rfl⟩ hlen hl3 hsame hother
  refine ⟨rfl,?_⟩;rw [List.append_nil] at hl3 hsame hlen;have hl4:H'.length=H.length:=by
   have:(zkm m fr.2).length=2:=rfl;rw [this,hlen2] at hl3;omega
  apply List.ext_getElem?
  intro i
  by_cases hi:i=ni
  ·subst hi
   rw [List.getElem?_set_self hnl];exact hsame 1 _ rfl
  ·rw [List.getElem?_set_ne (fun h=>hi h.symm)]
   by_cases hi2:i=mi
   ·subst hi2
    have h5:=hsame 0 _ rfl;rw [ygg] at h5;exact h5.trans hmi.symm
   ·rcases Nat.lt_or_ge i H.length with hlt|hge
    ·refine hother i hlt (fun b hb h=>?_)
     rw [hlen2] at hb;rcases (show b=0\/b=1 by omega) with rfl|rfl
     ·exact hi2 h.symm
     ·exact hi h.symm
    ·rw [List.getElem?_eq_none (by omega),List.getElem?_eq_none hge]
theorem yds (c:Codex) (hcs:c.facts.length<=1000000) (m:List (Int × Int)) (hm:∀k v,zy k m=some v->0<=v/\v<c.lines.length) (e:Ex) (depth cnt:Int) (h0:0<=depth) (h1:depth<=41) (h2:0<=cnt) (h3:cnt<=400) {H:List SObj} {mi ni:Nat} (hne:mi≠ni)
  (hmi:H[mi]?=some (.mapI .i64 (jp sI m))) (hni:H[ni]?=some (.cells [sI cnt])):
  SPre Tryz.prog G 103 [c.sv,.map mi,e.sv,sI depth,.ptr ni 0] H (fun r H'=>r=sB (wz c m e depth cnt).1/\H'=H.set ni (.cells [sI (wz c m e depth cnt).2])):=by
 intro X;have hnl:=lt_of_getElem? hni;refine (zuv G c hcs m hm e depth cnt h0 h1 h2 h3 hne (H:=H++X) (by rw [List.getElem?_append_left (lt_of_getElem? hmi)];exact hmi) (by rw [List.getElem?_append_left hnl];exact hni)).mono ?_;rintro r H' ⟨rfl,rfl⟩;exact ⟨_,⟨rfl,rfl⟩,by simp,by rw [List.set_append_left _ _ hnl]⟩
theorem zwu (c:Codex) (hfit:Codex.fit c) (hcs:c.facts.length<=1000000) (hls:c.lines.length<=1000000) (has:c.arts.length<=1000000):zv Tryz.prog G 63 [c.sv] (sB (qd c)):=by
 have hlf:(c.facts.map Decl.cells).length=c.facts.length:=by simp
 have hll:(c.lines.map Decl.cells).length=c.lines.length:=by simp
 have hla:(c.arts.map Article.cells).length=c.arts.length:=by simp
 have hd1:=zlj G c.facts 0 0 (by omega);have hd2:=zlj G c.lines 1 4 (by omega);have hok0:qd c=((wt 0 0 c.facts&&decide (c.facts.length<=32))&&(wt 1 4 c.lines&&decide (c.lines.length<=32))&&decide (c.arts.length<=60)&&(match wo c.lines.length c.arts [] with|some m=>c.arts.all (zms c m)|none=>false)):=by
  unfold qd;cases wt 0 0 c.facts<;>cases wt 1 4 c.lines<;>cases decide (c.facts.length<=32)<;>cases decide (c.lines.length<=32)<;>cases decide (c.arts.length<=60)<;>rfl
 generalize qd c=ok at hok0;generalize (wt 0 0 c.facts&&decide (c.facts.length<=32))=b1 at hd1 hok0;generalize (wt 1 4 c.lines&&decide (c.lines.length<=32))=b2 at hd2 hok0;rw [show c.sv= .agg [.imm (zp c.facts),.imm (zp c.lines),.imm (yv c.arts)] from rfl];refine zf Tryz.func63 rfl (by rw [Tryz.ntmps63];simp) rfl rfl ?_;intro E hH hK;(refine zg ?_;conv=>whnf);refine ze rfl  hd1 ?_;cases b1 with
 |false=>
  (refine zc ?_;conv=>whnf);exact kB hK (by rw [hok0];rfl)
 |true=>
 (refine zc ?_;conv=>whnf);refine ze rfl  hd2 ?_;cases b2 with
 |false=>
  (refine zc ?_;conv=>whnf);exact kB hK (by rw [hok0];rfl)
 |true=>
 (refine zc ?_;conv=>whnf)
 repeat' ((with_reducible refine way ?_ ?_)<;>(intro h;conv=>whnf))
 ·exact kB hK (by rw [hok0,decide_eq_false (show ¬c.arts.length<=60 by omega)];rfl)
 have hok:ok=(match wo c.lines.length c.arts [] with|some m=>c.arts.all (zms c m)|none=>false):=by
  rw [hok0,decide_eq_true (show c.arts.length<=60 by omega)];rfl
 clear hok0 hd1 hd2;refine zi [1,3,36,37,38] ?_;change SW E _ [(1,.ptr 0 0),(3,.map 1),(36,.imm (yv c.arts)),(37,sI ((c.arts.map Article.cells).length:Nat)),(38,sI (0:Nat))] [.cells [.imm (zp c.facts),.imm (zp c.lines),.imm (yv c.arts)],.mapI .i64 (jp sI [])];rw [hla];refine zr c.arts (fun i (_:List (Int × Int))=>[(1,.ptr 0 0),(3,.map 1),(36,.imm (yv c.arts)),(37,sI (c.arts.length:Nat)),(38,sI (i:Nat))])
  (fun _ m=>[.cells [.imm (zp c.facts),.imm (zp c.lines),.imm (yv c.arts)],.mapI .i64 (jp sI m)])
  (fun _ rest m=>wo c.lines.length c.arts []=wo c.lines.length rest m) [] rfl ?_ ?_
 ·rintro m h1
  simp only [wo] at h1;rw [h1] at hok;simp only at hok;obtain ⟨hm,hlines⟩:=zlf _ _ _ _ h1 (by intro k v h;simp [zy] at h);(refine zg ?_;conv=>whnf)
  repeat' ((with_reducible refine way ?_ ?_)<;>(intro h;conv=>whnf))
  all_goals try (exfalso;omega)
  refine zi [1,3,84,85,86] ?_;change SW E _ [(1,.ptr 0 0),(3,.map 1),(84,.imm (yv c.arts)),(85,sI ((c.arts.map Article.cells).length:Nat)),(86,sI (0:Nat))] [.cells [.imm (zp c.facts),.imm (zp c.lines),.imm (yv c.arts)],.mapI .i64 (jp sI m)];rw [hla];refine zr c.arts (fun i (_:Unit)=>[(1,.ptr 0 0),(3,.map 1),(84,.imm (yv c.arts)),(85,sI (c.arts.length:Nat)),(86,sI (i:Nat))])
   (fun _ _=>[.cells [.imm (zp c.facts),.imm (zp c.lines),.imm (yv c.arts)],.mapI .i64 (jp sI m)]) (fun done rest _=>ok=rest.all (zms c m)) () hok ?_ ?_
  ·rintro _ h2
   (refine zg ?_;conv=>whnf)
   repeat' ((with_reducible refine way ?_ ?_)<;>(intro h;conv=>whnf))
   all_goals try (exfalso;omega)
   exact kB hK (by rw [h2];rfl)
  ·rintro done a rest _ ha hl h2 ih
   have hmem:a∈c.arts:=by rw [ha];simp
   have hw:=zk (n:=done.length) (by omega);obtain ⟨hun,hwh⟩:=hfit a hmem;have hline:=hlines a hmem;have hwl:(a.when_.map Ex.cells).length=a.when_.length:=by simp
   have hul:(a.unless_.map fun n=>[dI n]).length=a.unless_.length:=by simp
   obtain ⟨d,hd⟩:∃d,c.lines[a.line.toNat]?=some d:=⟨c.lines[a.line.toNat]'(by omega),List.getElem?_eq_getElem _⟩;have hlu:zgl c a.line=d.unit:=by simp only [zgl,hd]
   have hdr:(c.lines.map Decl.cells)[a.line.toNat]?=some d.cells:=by rw [List.getElem?_map,hd];rfl
   have bad:zms c m a=false->ok=false:=fun h=>by rw [h2,List.all_cons,h];rfl
   have good:zms c m a=true->ok=rest.all (zms c m):=fun h=>by rw [h2,List.all_cons,h];rfl
   have hart:zms c m a=(zbz a&&a.unless_.all (fun n=>(zy n m).isSome)&&a.when_.all (fun e=>(qy c m e tT).1)&&(qy c m a.amount d.unit).1):=by
    rw [<-hlu];rfl
   have hamt:∀{H:List SObj} {mi ni:Nat},mi≠ni->H[mi]?=some (.mapI .i64 (jp sI m))->H[ni]?=some (.cells [sI 0])->_:=fun {H mi ni} q1 q2 q3=>yds G c hcs m hm a.amount 1 0 (by omega) (by omega) (by omega) (by omega) (H:=H) (mi:=mi) (ni:=ni) q1 q2 q3
   have hday:=zgh G a.known
   have bad1:¬(0<=a.rank/\a.rank<=1000000/\0<=a.lo/\a.lo<a.hi/\a.hi<=36525/\zla a.known=true)->ok=false:=fun h=>bad (by
    rw [hart];have:zbz a=false:=by
     cases hb:zbz a with
     |false=>rfl
     |true=>
      unfold zbz at hb;simp only [Bool.and_eq_true,decide_eq_true_eq] at hb;exact absurd ⟨by omega,by omega,by omega,by omega,by omega,by unfold zla;simp;omega⟩ h
    rw [this];rfl)
   have good1:0<=a.rank/\a.rank<=1000000/\0<=a.lo/\a.lo<a.hi/\a.hi<=36525/\zla a.known=true->zbz a=true:=fun h=>by
    unfold zbz;have h5:=h.2.2.2.2.2;unfold zla at h5;simp only [decide_eq_true_eq] at h5;simp only [Bool.and_eq_true,decide_eq_true_eq];omega
   obtain ⟨op,n,u,den,ps,ks,ham⟩:∃op n u den ps ks,a.amount= .mk op n u den ps ks:=by cases h:a.amount;exact ⟨_,_,_,_,_,_,rfl⟩
   have hrow:(c.arts.map Article.cells)[done.length]?=some [dI a.number,dI a.line,dI a.rank,dI a.lo,dI a.hi,dI a.known,qp a.when_,ye a.unless_,dI op,dI n,dS u,dI den,.isl 3 (ps.map Piece.cells),.isl 6 (zj ks)]:=by
    simp [ha,Article.cells,ham,zx,Ex.op,Ex.n,Ex.unit,Ex.den,Ex.pieces,Ex.kids]
   rw [ham] at hamt hart;(refine zg ?_;conv=>whnf)
   repeat' ((with_reducible refine way ?_ ?_)<;>(intro h;conv=>whnf))
   all_goals try (exfalso;omega)
   refine zh (i:=done.length) (row:=[dI a.number,dI a.line,dI a.rank,dI a.lo,dI a.hi,dI a.known,qp a.when_,ye a.unless_,dI op,dI n,dS u,dI den,.isl 3 (ps.map Piece.cells),.isl 6 (zj ks)]) rfl rfl hrow ?_;(refine zc ?_;conv=>whnf)
   repeat' ((with_reducible refine way ?_ ?_)<;>(intro h;conv=>whnf))
   all_goals try exact kB hK (bad1 (by omega))
   refine ze rfl  hday ?_;cases hdk:zla a.known with
   |false=>
    (refine zc ?_;conv=>whnf);exact kB hK (bad1 (fun h=>by rw [hdk] at h;exact Bool.noConfusion h.2.2.2.2.2))
   |true=>
   have good1:=good1 ⟨by omega,by omega,by omega,by omega,by omega,hdk⟩;rw [good1,Bool.true_and] at hart;clear bad1;(refine zc ?_;conv=>whnf);refine zi [1,3,9,84,85,86,122,123,124] ?_;change SW E _ [(1,.ptr 0 0),(3,.map 1),(9,.ptr 2 0),(84,.imm (yv c.arts)),(85,sI (c.arts.length:Nat)),(86,sI (done.length:Nat)),(122,.imm (ye a.unless_)),(123,sI ((a.unless_.map fun n=>[dI n]).length:Nat)),(124,sI (0:Nat))]
    [.cells [.imm (zp c.facts),.imm (zp c.lines),.imm (yv c.arts)],.mapI .i64 (jp sI m),.cells (zkd a op n u den ps ks)]
   rw [hul];refine zr a.unless_ (fun i (_:Unit)=>[(1,.ptr 0 0),(3,.map 1),(9,.ptr 2 0),(84,.imm (yv c.arts)),(85,sI (c.arts.length:Nat)),(86,sI (done.length:Nat)),(122,.imm (ye a.unless_)),(123,sI (a.unless_.length:Nat)),(124,sI (i:Nat))])
    (fun _ _=>[.cells [.imm (zp c.facts),.imm (zp c.lines),.imm (yv c.arts)],.mapI .i64 (jp sI m),.cells (zkd a op n u den ps ks)])
    (fun dj _ _=>dj.all (fun n=>(zy n m).isSome)=true) () rfl ?_ ?_
   ·rintro _ hu1
    rw [hu1,Bool.true_and] at hart;(refine zg ?_;conv=>whnf)
    repeat' ((with_reducible refine way ?_ ?_)<;>(intro h;conv=>whnf))
    all_goals try (exfalso;omega)
    refine zi [1,3,9,84,85,86,138,139,140] ?_;change SW E _ [(1,.ptr 0 0),(3,.map 1),(9,.ptr 2 0),(84,.imm (yv c.arts)),(85,sI (c.arts.length:Nat)),(86,sI (done.length:Nat)),(138,.imm (qp a.when_)),(139,sI ((a.when_.map Ex.cells).length:Nat)),(140,sI (0:Nat))]
     [.cells [.imm (zp c.facts),.imm (zp c.lines),.imm (yv c.arts)],.mapI .i64 (jp sI m),.cells (zkd a op n u den ps ks)]
    rw [hwl];refine zr a.when_ (fun i (_:Unit)=>[(1,.ptr 0 0),(3,.map 1),(9,.ptr 2 0),(84,.imm (yv c.arts)),(85,sI (c.arts.length:Nat)),(86,sI (done.length:Nat)),(138,.imm (qp a.when_)),(139,sI (a.when_.length:Nat)),(140,sI (i:Nat))])
     (fun _ _=>[.cells [.imm (zp c.facts),.imm (zp c.lines),.imm (yv c.arts)],.mapI .i64 (jp sI m),.cells (zkd a op n u den ps ks)])
     (fun dj _ _=>dj.all (fun e=>(qy c m e tT).1)=true) () rfl ?_ ?_
    ·rintro _ hw1
     rw [hw1,Bool.true_and] at hart;(refine zg ?_;conv=>whnf)
     repeat' ((with_reducible refine way ?_ ?_)<;>(intro h;conv=>whnf))
     all_goals try (exfalso;omega)
     (refine wd 0 mixed rfl ?_;refine zq [777] (nx:=4) ?_;conv=>whnf);refine qv rfl (by exact (by decide:4<=4)) (i:=a.line.toNat) (by omega) (row:=d.cells) hdr ?_;(refine zq [777,173] (nx:=4) ?_;conv=>whnf);have hwr:(qy c m (.mk op n u den ps ks) d.unit).1=if u=d.unit then (wz c m (.mk op n u den ps ks) 1 0).1 else false:=by
      unfold qy;show (if u=d.unit then _ else _:Bool × Int).1=_;split<;>rfl
     rw [hwr] at hart
     repeat' ((with_reducible refine way ?_ ?_)<;>(intro h;conv=>whnf))
     ·rw [if_pos h] at hart
      refine ytv 4 (r:=sB (wz c m (.mk op n u den ps ks) 1 0).1) (wr:=some (3,.cells [sI (wz c m (.mk op n u den ps ks) 1 0).2])) rfl rfl rfl rfl rfl rfl (by exact (by decide:4<=4)) (by exact (by decide:4<=4)) (by rintro b ob h;cases h;exact (by decide:3<4)) ((hamt (mi:=1) (ni:=3) (by decide) rfl rfl).mono ?_) ?_
      ·rintro r H1 ⟨rfl,rfl⟩;exact ⟨rfl,rfl⟩
      rw [<-hart];cases hao:zms c m a with
      |true=>
       (refine zq [777,173] (nx:=4) ?_;conv=>whnf);refine zaj ⟨sB false,[],none⟩ rfl rfl (by exact (by decide:4<=4)) (fun _ _ _=>rfl) ?_;refine jr (by kernel_rfl) ?_;(refine zg ?_;conv=>whnf);rw [hw];have hu2:([.cells [.imm (zp c.facts),.imm (zp c.lines),.imm (yv c.arts)],.mapI .i64 (jp sI m)]:List SObj).all (SObj.under 2)=true:=by simp [zhu];rfl
       exact yq [1,3,84,85,86] 2 (by simp [hH]) (by exact (by decide:2<=4)) rfl hu2 (ih () (good hao))
      |false=>
       (refine zq [777,173] (nx:=4) ?_;conv=>whnf);refine zaj ⟨sB true,[],none⟩ rfl rfl (by exact (by decide:4<=4)) (fun _ _ _=>rfl) ?_;refine jr (by kernel_rfl) ?_;(refine zg ?_;conv=>whnf);exact kB hK (bad hao)
     ·rw [if_neg h] at hart
      refine zaj ⟨sB true,[],none⟩ rfl rfl (by exact (by decide:4<=4)) (fun _ _ _=>rfl) ?_;refine jr (by kernel_rfl) ?_;(refine zg ?_;conv=>whnf);exact kB hK (bad hart)
    ·rintro dj e rj _ hdj hdjl hw1 ih2
     have hwj:=zk (n:=dj.length) (by omega);have hcall:∀{H:List SObj} {mi ni:Nat},mi≠ni->H[mi]?=some (.mapI .i64 (jp sI m))->H[ni]?=some (.cells [sI 0])->_:=fun {H mi ni} q1 q2 q3=>zuv G c hcs m hm e 1 0 (by omega) (by omega) (by omega) (by omega) (H:=H) (mi:=mi) (ni:=ni) q1 q2 q3
     have bad2:(qy c m e tT).1=false->ok=false:=fun h=>bad (by rw [hart,hdj,List.all_append,List.all_cons,h,Bool.false_and,Bool.and_false,Bool.false_and])
     have hrx:(a.when_.map Ex.cells)[dj.length]?=some e.cells:=by rw [hdj];simp
     have hwr:(qy c m e tT).1=if e.unit=tT then (wz c m e 1 0).1 else false:=by unfold qy;split<;>rfl
     have ih2:(qy c m e tT).1=true->_:=fun h=>ih2 () (by rw [List.all_append,hw1,List.all_cons,h];rfl)
     generalize (qy c m e tT).1=wb at bad2 hwr ih2;obtain ⟨o1,n1,u1,d1,p1,q1⟩:=e;(refine zg ?_;conv=>whnf)
     repeat' ((with_reducible refine way ?_ ?_)<;>(intro h;conv=>whnf))
     all_goals try (exfalso;omega)
     refine zh (i:=dj.length) (row:=(Ex.mk o1 n1 u1 d1 p1 q1).cells) rfl rfl hrx ?_;(refine zc ?_;conv=>whnf)
     repeat' ((with_reducible refine way ?_ ?_)<;>(intro h;conv=>whnf))
     ·refine ym rfl rfl rfl rfl rfl rfl ((hcall (mi:=1) (ni:=4) (by decide) rfl rfl).mono ?_)
      rintro r H' ⟨rfl,rfl⟩;refine ⟨by rw [List.length_set];exact Nat.le_refl _,?_⟩;rw [if_pos (show (Ex.mk o1 n1 u1 d1 p1 q1).unit=tT from h)] at hwr;rw [<-hwr];cases wb with
      |false=>
       (refine zc ?_;conv=>whnf);exact kB hK (bad2 rfl)
      |true=>
       (refine zc ?_;conv=>whnf);rw [hwj];exact yq [1,3,9,84,85,86,138,139,140] 3 (by simp [hH]) (by simp) rfl (by simp [zhu];exact ⟨rfl,rfl⟩) (ih2 rfl)
     ·rw [if_neg (fun h':(Ex.mk o1 n1 u1 d1 p1 q1).unit=tT=>h h')] at hwr
      exact kB hK (bad2 hwr)
   ·rintro dj x rj _ hdj hdjl hu1 ih2
    have hwj:=zk (n:=dj.length) (by omega);have bad2:(zy x m).isSome=false->ok=false:=fun h=>bad (by rw [hart,hdj,List.all_append,List.all_cons,h,Bool.false_and,Bool.and_false,Bool.false_and,Bool.false_and])
    have hrx:(a.unless_.map fun n=>[dI n])[dj.length]?=some [dI x]:=by rw [hdj];simp
    (refine zg ?_;conv=>whnf)
    repeat' ((with_reducible refine way ?_ ?_)<;>(intro h;conv=>whnf))
    all_goals try (exfalso;omega)
    refine zh (i:=dj.length) (row:=[dI x]) rfl rfl hrx ?_;(refine zc ?_;conv=>whnf);cases hlk:zy x m with
    |none=>
     refine zbl sI rfl rfl rfl rfl rfl rfl rfl rfl rfl (v:=sI 0) (p:=false) (by rw [hlk];rfl) (by rw [hlk];rfl) ?_;(refine zc ?_;conv=>whnf);exact kB hK (bad2 (by rw [hlk];rfl))
    |some v=>
     refine zbl sI rfl rfl rfl rfl rfl rfl rfl rfl rfl (v:=sI v) (p:=true) (by rw [hlk];rfl) (by rw [hlk];rfl) ?_;(refine zc ?_;conv=>whnf);rw [hwj];exact zi [1,3,9,84,85,86,122,123,124] (ih2 () (by rw [List.all_append,hu1,List.all_cons,hlk];rfl))
 ·rintro done a rest m ha hl h1 ih
  have hw:=zk (n:=done.length) (by omega);obtain ⟨op,n,u,den,ps,ks,ham⟩:∃op n u den ps ks,a.amount= .mk op n u den ps ks:=by cases h:a.amount;exact ⟨_,_,_,_,_,_,rfl⟩
  have hrow:(c.arts.map Article.cells)[done.length]?=some [dI a.number,dI a.line,dI a.rank,dI a.lo,dI a.hi,dI a.known,qp a.when_,ye a.unless_,dI op,dI n,dS u,dI den,.isl 3 (ps.map Piece.cells),.isl 6 (zj ks)]:=by
   simp [ha,Article.cells,ham,zx,Ex.op,Ex.n,Ex.unit,Ex.den,Ex.pieces,Ex.kids]
  simp only [wo] at h1;have bad:wo c.lines.length c.arts []=none->ok=false:=fun h=>by rw [hok,h]
  (refine zg ?_;conv=>whnf)
  repeat' ((with_reducible refine way ?_ ?_)<;>(intro h;conv=>whnf))
  all_goals try (exfalso;omega)
  refine zh (i:=done.length) (row:=[dI a.number,dI a.line,dI a.rank,dI a.lo,dI a.hi,dI a.known,qp a.when_,ye a.unless_,dI op,dI n,dS u,dI den,.isl 3 (ps.map Piece.cells),.isl 6 (zj ks)]) rfl rfl hrow ?_;(refine zc ?_;conv=>whnf)
  repeat' ((with_reducible refine way ?_ ?_)<;>(intro h;conv=>whnf))
  all_goals try exact kB hK (bad (by rw [h1,if_neg (by omega)]))
  rw [if_pos (by omega)] at h1;cases hlk:zy a.number m with
  |none=>
   rw [hlk] at h1;refine zbl sI rfl rfl rfl rfl rfl rfl rfl rfl rfl (v:=sI 0) (p:=false) (by rw [hlk];rfl) (by rw [hlk];rfl) ?_;(refine zc ?_;conv=>whnf);refine zek sI a.line rfl rfl rfl rfl rfl rfl rfl rfl rfl ?_;(refine zc ?_;conv=>whnf);rw [hw];exact yq [1,3,36,37,38] 2 (by simp [hH]) (by simp) rfl (by simp [zhu];rfl) (ih _ h1)
  |some l=>
   rw [hlk] at h1;refine zbl sI rfl rfl rfl rfl rfl rfl rfl rfl rfl (v:=sI l) (p:=true) (by rw [hlk];rfl) (by rw [hlk];rfl) ?_;(refine zc ?_;conv=>whnf)
   repeat' ((with_reducible refine way ?_ ?_)<;>(intro h;conv=>whnf))
   ·exact kB hK (bad (by rw [h1];simp only;rw [if_neg h]))
   ·simp only at h1
    rw [if_pos (by omega)] at h1;refine zek sI a.line rfl rfl rfl rfl rfl rfl rfl rfl rfl ?_;(refine zc ?_;conv=>whnf);rw [hw];exact yq [1,3,36,37,38] 2 (by simp [hH]) (by simp) rfl (by simp [zhu];rfl) (ih _ h1)
def yaq (prev:Option Int) (p:Fact):Bool:=
 match prev with
 |none=>true
 |some k=>decide (k<=p.known)
theorem yar (prev:Option Int) (p:Fact) (r:List Fact):wn prev (p::r)=(zec p&&yaq prev p&&wn (some p.known) r):=by
 cases prev with
 |none=>rw [wn,yaq,Bool.and_true]
 |some k=>rw [wn,yaq]
theorem zwv (l:List Fact) (hl:l.length<=1000000000):zv Tryz.prog G 64 [.imm (yz l)] (sB (qr l)):=by
 have hlen:(l.map Fact.cells).length=l.length:=by simp
 have hok:qr l=(decide (l.length<=400)&&wn none l):=rfl;generalize qr l=ok at hok;refine zf Tryz.func64 rfl (by rw [Tryz.ntmps64];simp) rfl rfl ?_;intro E hH hK;(refine zg ?_;conv=>whnf)
 repeat' ((with_reducible refine way ?_ ?_)<;>(intro h;conv=>whnf))
 ·exact kB hK (by rw [hok,decide_eq_false (by omega)];rfl)
 rw [decide_eq_true (by omega),Bool.true_and] at hok;refine zi [0,8,9,10] ?_;change SW E _ [(0,.imm (yz l)),(8,.imm (yz l)),(9,sI ((l.map Fact.cells).length:Nat)),(10,sI (0:Nat))] [];rw [hlen];refine zr l (fun i (_:Unit)=>[(0,.imm (yz l)),(8,.imm (yz l)),(9,sI (l.length:Nat)),(10,sI (i:Nat))]) (fun _ _=>[]) (fun done rest _=>wn none l=wn (yi done) rest) () rfl ?_ ?_
 ·rintro _ hv
  (refine zg ?_;conv=>whnf)
  repeat' ((with_reducible refine way ?_ ?_)<;>(intro h;conv=>whnf))
  all_goals try (exfalso;omega)
  exact kB hK (by rw [hok,hv];rfl)
 ·rintro done p rest _ hda hdl hv ih
  have hw:=zk (n:=done.length) (by omega);have hp:(l.map Fact.cells)[done.length]?=some p.cells:=by rw [hda];simp
  have hn1:=zem G p.person;have hn2:=zem G p.name;have hday:=zgh G p.known;rw [yar] at hv;have bad:(zec p&&yaq (yi done) p)=false->ok=false:=fun h=>by rw [hok,hv,h];rfl
  have good:(zec p&&yaq (yi done) p)=true->wn none l=wn (yi (done++[p])) rest:=fun h=>by rw [hv,h,zjj];rfl
  have hform:zec p=(xq p.person&&xq p.name&&decide (0<=p.lo/\p.lo<p.hi/\p.hi<=36525/\0<=p.known/\p.known<=36524/\ -1000000000000<=p.value/\p.value<=1000000000000)&&(!p.gone||decide (p.value=0))):=rfl;have hdk:zla p.known=decide (0<=p.known/\p.known<=36524):=rfl;rw [hform] at bad good;generalize xq p.person=b1 at hn1 bad good;generalize xq p.name=b2 at hn2 bad good;generalize zla p.known=b3 at hday hdk;have ih:=fun h=>ih () (good h)
  have hseq:(done=[]/\yaq (yi done) p=true)\/∃q:Fact,1<=done.length/\(l.map Fact.cells)[done.length-1]?=some q.cells/\yaq (yi done) p=decide (q.known<=p.known):=by
   rcases zfr done with rfl|⟨init,q,rfl⟩
   ·exact .inl ⟨rfl,rfl⟩
   ·refine .inr ⟨q,by simp,?_,by rw [zjj];rfl⟩
    rw [hda,List.length_append,List.length_cons,List.length_nil,Nat.zero_add,Nat.add_sub_cancel,List.append_assoc];simp
  have w1:IntKind.i64.wrap ((done.length:Int)-1)=((done.length:Int)-1):=yg (by omega) (by omega);generalize yaq (yi done) p=sq at bad ih hseq;(refine zg ?_;conv=>whnf)
  repeat' ((with_reducible refine way ?_ ?_)<;>(intro h;conv=>whnf))
  all_goals try (exfalso;omega)
  refine zh (i:=done.length) (row:=p.cells) rfl rfl hp ?_;(refine zc ?_;conv=>whnf);refine zt mixed rfl ?_;(refine zd [] ?_;conv=>whnf);refine zu rfl  hn1 ?_;cases b1 with
  |false=>
   (refine zd [] ?_;conv=>whnf);(refine zg ?_;conv=>whnf);exact kB hK (bad rfl)
  |true=>
  (refine zd [] ?_;conv=>whnf);refine zu rfl  hn2 ?_;cases b2 with
  |false=>
   (refine zd [] ?_;conv=>whnf);(refine zg ?_;conv=>whnf);exact kB hK (bad rfl)
  |true=>
  (refine zd [] ?_;conv=>whnf);refine zu rfl  hday ?_;cases b3 with
  |false=>
   have hdk:=of_decide_eq_false hdk.symm;(refine zd [] ?_;conv=>whnf);(refine zg ?_;conv=>whnf);exact kB hK (bad (by rw [decide_eq_false (by omega)];rfl))
  |true=>
  have hdk:=of_decide_eq_true hdk.symm;(refine zd [] ?_;conv=>whnf)
  repeat' ((with_reducible refine way ?_ ?_)<;>(intro h;conv=>whnf))
  ·rcases hseq with ⟨h0,_⟩|⟨q,hq1,hq2,hq3⟩
   ·rw [h0] at h
    exact absurd h (by decide)
   rw [w1];refine yc (i:=done.length-1) (row:=q.cells) rfl (by omega) hq2 ?_;(refine zd [] ?_;conv=>whnf);(refine zg ?_;conv=>whnf)
   repeat' ((with_reducible refine way ?_ ?_)<;>(intro h;conv=>whnf))
   all_goals try exact kB hK (bad (by rw [hq3,decide_eq_false (show ¬q.known<=p.known by omega),Bool.and_false]))
   all_goals try exact kB hK (bad (by rw [decide_eq_false (by omega)];rfl))
   all_goals try exact kB hK (bad (by rw [‹p.gone=true›,decide_eq_false ‹¬p.value=0›];simp))
   all_goals
    rw [hw];refine yq [0,8,9,10] 0 (by simp [hH]) (Nat.zero_le _) rfl rfl (ih ?_);rw [hq3,decide_eq_true (show q.known<=p.known by omega),decide_eq_true (show 0<=p.lo/\p.lo<p.hi/\p.hi<=36525/\0<=p.known/\p.known<=36524/\ -1000000000000<=p.value/\p.value<=1000000000000 by omega)]
    first|(rw [‹p.gone=false›];rfl)|(rw [decide_eq_true ‹p.value=0›];simp)
  ·rcases hseq with ⟨h0,hq3⟩|⟨q,hq1,hq2,hq3⟩
   case inr=>exact absurd (show (0:Int)<(done.length:Int) by omega) h
   (refine zg ?_;conv=>whnf)
   repeat' ((with_reducible refine way ?_ ?_)<;>(intro h;conv=>whnf))
   all_goals try exact kB hK (bad (by rw [decide_eq_false (by omega)];rfl))
   all_goals try exact kB hK (bad (by rw [‹p.gone=true›,decide_eq_false ‹¬p.value=0›];simp))
   all_goals
    rw [hw];refine yq [0,8,9,10] 0 (by simp [hH]) (Nat.zero_le _) rfl rfl (ih ?_);rw [hq3,decide_eq_true (show 0<=p.lo/\p.lo<p.hi/\p.hi<=36525/\0<=p.known/\p.known<=36524/\ -1000000000000<=p.value/\p.value<=1000000000000 by omega)]
    first|(rw [‹p.gone=false›];rfl)|(rw [decide_eq_true ‹p.value=0›];simp)
variable {G:List (Nat × D)}
theorem yas (c:Codex) (m:List (Int × Int)) (N:Nat):(∀e:Ex,SizeOf.sizeOf e<N->zyw c m e->xg e<=1000000->zmv e)/\(∀ks:List Ex,SizeOf.sizeOf ks<N->zwe c m ks->yr ks<=1000000->zfu ks):=by
 induction N with
 |zero=>exact ⟨fun e h=>by omega,fun e h=>by omega⟩
 |succ N ih=>
  refine ⟨fun e he h hs=>?_,fun ks hk h hs=>?_⟩
  ·obtain ⟨op,n,u,den,ps,ks⟩:=e
   simp only [Ex.mk.sizeOf_spec] at he;unfold zyw at h;unfold xg at hs;have:=yuo h.1;have h2:=zcs ks;unfold zmv;exact ⟨by omega,by omega,ih.2 ks (by omega) h.2 (by omega)⟩
  ·cases ks with
   |nil=>unfold zfu;trivial
   |cons k r=>
    simp only [List.cons.sizeOf_spec] at hk;unfold zwe at h;unfold yr at hs;unfold zfu;exact ⟨ih.1 k (by omega) h.1 (by omega),ih.2 r (by omega) h.2 (by omega)⟩
theorem yat:∀{ks:List Ex},(∀k∈ks,zmv k)->zfu ks
 |[],_=>by unfold zfu;trivial
 |k::r,h=>by unfold zfu;exact ⟨h k (by simp),yat fun x hx=>h x (by simp [hx])⟩
theorem yvs {c:Codex} (h:qd c=true) (hfew:∀a∈c.arts,a.when_.length<=1000000/\a.unless_.length<=1000000):∃m,MFit c m:=by
 obtain ⟨_,h2,m,_,h4⟩:=zlg h;refine ⟨m,by omega,fun a ha=>⟨(hfew a ha).1,yat fun e he=>?_,(hfew a ha).2,?_⟩,fun a ha=>?_,fun a ha w hw=>?_⟩
 ·have:=(h4 a ha).2.2.1 e he
  exact (yas c m _).1 e (Nat.lt_succ_self _) this.1 (by omega)
 ·have:=(h4 a ha).2.2.2
  exact (yas c m _).1 a.amount (Nat.lt_succ_self _) this.1 (by omega)
 ·have:=(h4 a ha).2.2.2
  exact ⟨this.1,by omega⟩
 ·have:=(h4 a ha).2.2.1 w hw
  exact ⟨this.1,by omega⟩
theorem yvt {c:Codex} (hf:c.facts.length<=1000000) (l:List Fact) (person:ByteArray) {day:Int} (known:Int) (hd:0<=day/\day<=36524):AFit c (zax c l person day known):=
 ⟨hf,by simp [zax],by simp [zax],by simp [zax],hd⟩
theorem ydt {c:Codex} {s:List Int × List Int} {i:Int} (h:∀v∈s.2,0<=v/\v<c.arts.length) (hi:0<=i/\i<c.arts.length):∀v∈(zey s i).2,0<=v/\v<c.arts.length:=by
 intro v hv;unfold zey at hv;simp only at hv;split at hv
 ·rcases List.mem_append.1 hv with hv|hv
  ·exact h v hv
  ·rw [List.mem_singleton] at hv
   subst hv;exact hi
 ·exact h v hv
theorem zsl {c:Codex}:∀(l:List Int) {s:List Int × List Int},(∀v∈s.2,0<=v/\v<c.arts.length)->(∀i∈l,0<=i/\i<c.arts.length)->∀v∈(l.foldl zey s).2,0<=v/\v<c.arts.length
 |[],_,h,_=>h
 |i::l,_,h,hl=>zsl l (ydt h (hl i (by simp))) (fun j hj=>hl j (by simp [hj]))
theorem zsm {c:Codex}:∀(f next:Nat) {s:List Int × List Int},(∀v∈s.2,0<=v/\v<c.arts.length)->∀v∈(ju c f next s).2,0<=v/\v<c.arts.length
 |0,_,_,h=>h
 |f+1,next,s,h=>by
  rw [ju];split
  ·exact h
  ·exact zsm f (next+1) (zsl _ h (fun i hi=>yfk hi))
theorem ysa (c:Codex):∀v∈ybg c,0<=v/\v<c.arts.length:=zsm _ _ (ztz c).mem
theorem ygh {k v:Int}:∀{m:List (Int × Int)} {p:Int × Int},p∈zdg k v m->p=(k,v)\/p∈m
 |[],p,h=>by simp [zdg] at h;exact .inl h
 |q::r,p,h=>by
  obtain ⟨a,b⟩:=q;rw [zdg] at h;split at h
  ·rcases List.mem_cons.1 h with h|h
   ·exact .inl h
   ·exact .inr (by simp [h])
  ·rcases List.mem_cons.1 h with h|h
   ·exact .inr (by simp [h])
   ·rcases ygh h with h|h
    ·exact .inl h
    ·exact .inr (by simp [h])
theorem yau {c:Codex} {day known:Int} {m:List (Int × Int)} {x:Article × Nat} {n:Nat} (h:∀p∈m,0<=p.2/\p.2<n) (hx:x.2<n):∀p∈zbd c day known m x,0<=p.2/\p.2<n:=by
 have h2:∀p∈zdg x.1.number (x.2:Int) m,0<=p.2/\p.2<n:=fun p hp=>by
  rcases ygh hp with rfl|hp
  ·simp only
   omega
  ·exact h p hp
 intro p hp;unfold zbd at hp;split at hp
 ·exact h p hp
 ·split at hp
  ·exact h2 p hp
  ·split at hp
   ·split at hp
    ·exact h2 p hp
    ·exact h p hp
   ·exact h p hp
theorem zoc {c:Codex} {day known:Int} {n:Nat}:∀(l:List (Article × Nat)) {m:List (Int × Int)},(∀p∈m,0<=p.2/\p.2<n)->(∀x∈l,x.2<n)->(∀p∈l.foldl (zbd c day known) m,0<=p.2/\p.2<n)/\(l.foldl (zbd c day known) m).length<=m.length+l.length
 |[],_,h,_=>⟨h,Nat.le_refl _⟩
 |x::l,m,h,hl=>by
  have:=zoc (c:=c) (day:=day) (known:=known) l (yau (c:=c) (day:=day) (known:=known) h (hl x (by simp))) (fun y hy=>hl y (by simp [hy]));have h2:=yfu c day known m x;rw [List.foldl_cons,List.length_cons];exact ⟨this.1,by omega⟩
theorem yvu (c:Codex) (day known:Int):(∀o∈inA c day known,0<=o/\o<c.arts.length)/\(inA c day known).length<=c.arts.length:=by
 have h:=zoc (c:=c) (day:=day) (known:=known) (n:=c.arts.length) c.arts.zipIdx (m:=[]) (fun p hp=>by cases hp) (fun x hx=>by
  have:=List.snd_lt_of_mem_zipIdx hx
  omega)
 refine ⟨fun o ho=>?_,?_⟩
 ·unfold inA at ho
  rw [List.mem_mergeSort] at ho;obtain ⟨p,hp,rfl⟩:=List.mem_map.1 ho;exact h.1 p hp
 ·unfold inA
  rw [List.length_mergeSort,List.length_map];have:=h.2;rw [List.length_zipIdx,List.length_nil,Nat.zero_add] at this;exact this
theorem yjl (S:AM) (U:List Bool):(zhx S U).length<=U.length:=by
 unfold zhx;refine Nat.le_trans (zrh _) ?_;rw [List.length_mergeSort];exact zrp S U U.length
theorem yor (c:Codex) (a:Article):(zke c a).length=c.facts.length:=by
 unfold zke;rw [(zfv _).2 a.when_ (Nat.lt_succ_self _),(zfv _).1 a.amount (Nat.lt_succ_self _),List.length_replicate]
theorem yjm (c:Codex) (inF:List Int) (st:List (Int × Int)) (a:Article):(zli c inF st a).length<=inF.length:=List.length_filter_le _ _
def ygi (c:Codex) (S:AM) (inF:List Int) (q s:Nat):List SV:=[.imm (zp c.facts),.imm (zp c.lines),.imm (yv c.arts),sI S.day,.imm (zbn S.has),.imm (ye S.vals),.imm (ye S.nums),.imm (ye inF),.map q,.map s]
theorem zlw (σ:Nat->Nat) (m:List (Int × Int)):(SObj.mapI .i64 (jp sI m)).ren σ= .mapI .i64 (jp sI m):=by
 simp [SObj.ren,jp,SV.ren]
theorem yos {f:FuncId} {arg r0:SV} {c:Codex} {S:AM} {inF:List Int} {st am st' am':List (Int × Int)} (h:SPre Tryz.prog G f [.ptr 0 0,arg] (MH c S inF st am) (fun r H1=>r=r0/\H1=MH c S inF st' am'))
  (harg:∀σ,arg.ren σ=arg) (hau:arg.under 3=true) (hr:∀σ,r0.ren σ=r0) {H:List SObj} {p q s:Nat} (hpq:p≠q) (hps:p≠s) (hqs:q≠s)
  (hp:H[p]?=some (.cells (ygi c S inF q s))) (hq:H[q]?=some (.mapI .i64 (jp sI st))) (hs:H[s]?=some (.mapI .i64 (jp sI am))):
  SCall Tryz.prog G f [.ptr p 0,arg] H (fun r H'=>r=r0/\H'=(H.set q (.mapI .i64 (jp sI st'))).set s (.mapI .i64 (jp sI am'))):=by
 have hpl:=lt_of_getElem? hp;have hql:=lt_of_getElem? hq;have hsl:=lt_of_getElem? hs;have h0:=h [];rw [List.append_nil] at h0;have hlen:(MH c S inF st am).length=3:=rfl;have:=zqn (K':=fun r H'=>r=r0/\H'=(H.set q (.mapI .i64 (jp sI st'))).set s (.mapI .i64 (jp sI am'))) h0 (H:=H) (fun i=>if i=0 then p else if i=1 then q else if i=2 then s else H.length+(i-3)) ?_ ?_ ?_ ?_ (jv c S inF st am) ?_
 ·have e1:([.ptr 0 0,arg]:List SV).map (SV.ren (fun i=>if i=0 then p else if i=1 then q else if i=2 then s else H.length+(i-3)))=[.ptr p 0,arg]:=by
   simp only [List.map_cons,List.map_nil,harg];rfl
  rw [e1] at this;exact this
 ·intro b b' hb hb' h
  rw [hlen] at hb hb';rcases (show b=0\/b=1\/b=2 by omega) with rfl|rfl|rfl<;>rcases (show b'=0\/b'=1\/b'=2 by omega) with rfl|rfl|rfl<;>
   first|rfl|(exact absurd h hpq)|(exact absurd h hps)|(exact absurd h hqs)|(exact absurd h.symm hpq)|(exact absurd h.symm hps)|(exact absurd h.symm hqs)
 ·intro i
  simp only [hlen];rw [if_neg (by omega),if_neg (by omega),if_neg (by omega)];omega
 ·intro b o hb
  match b,hb with
  |0,hb=>
   injection hb with hb
   subst hb;exact hp
  |1,hb=>
   injection hb with hb
   subst hb;rw [zlw];exact hq
  |2,hb=>
   injection hb with hb
   subst hb;rw [zlw];exact hs
  |b+3,hb=>simp [MH] at hb
 ·simp only [List.all_cons,List.all_nil,hlen,hau]
  rfl
 ·rintro r H1 H' ⟨H2,⟨rfl,rfl⟩,hl2,rfl⟩ hle hl3 hsame hother
  refine ⟨hr _,?_⟩;rw [List.append_nil] at hl3 hsame hle;have hl4:H'.length=H.length:=by
   have:(MH c S inF st' am').length=3:=rfl;rw [this,hlen] at hl3;omega
  apply List.ext_getElem?
  intro i
  by_cases his:i=s
  ·subst his
   rw [List.getElem?_set_self (by rw [List.length_set];exact hsl)];have:=hsame 2 _ rfl;rw [zlw] at this;exact this
  ·rw [List.getElem?_set_ne (fun h=>his h.symm)]
   by_cases hiq:i=q
   ·subst hiq
    rw [List.getElem?_set_self hql];have:=hsame 1 _ rfl;rw [zlw] at this;exact this
   ·rw [List.getElem?_set_ne (fun h=>hiq h.symm)]
    by_cases hip:i=p
    ·subst hip
     have:=hsame 0 _ rfl;exact this.trans hp.symm
    ·rcases Nat.lt_or_ge i H.length with hlt|hge
     ·refine hother i hlt (fun b hb h=>?_)
      rw [hlen] at hb;rcases (show b=0\/b=1\/b=2 by omega) with rfl|rfl|rfl
      ·exact hip h.symm
      ·exact hiq h.symm
      ·exact his h.symm
     ·rw [List.getElem?_eq_none (by omega),List.getElem?_eq_none hge]
variable (G:List (Nat × D))
def ypn (x:Ln):SV:=.agg (lnC x)
def zww (c:Codex) (line:Ln) (S:AM) (inF:List Int) (st am:List (Int × Int)):List SObj:=
 [zcc c,.cells (lnC line),zcc c,.mapI .i64 (jp sI st),.mapI .i64 (jp sI am),.cells (ygi c S inF 3 4),.dead,.dead,.dead]
theorem yot {c:Codex} {S:AM} {inF:List Int} {s:List (Int × Int) × List (Int × Int)} {line:Ln} (h:∀o∈inF,¬(o=line.art/\(zy o s.1).getD 0=2)):zgo c S inF s line=false:=by
 unfold zgo;split
 ·rw [if_neg]
  rintro ⟨h1,h2⟩;exact h _ h1 ⟨rfl,h2⟩
 ·rfl
theorem zsn (c : Codex) (hfit : Codex.fit c) (hcs : c.facts.length <= 1000000) (hls : c.lines.length <= 1000000) (has : c.arts.length <= 1000000) (hfew : ∀ a ∈ c.arts, a.when_.length <= 1000000 /\ a.unless_.length <= 1000000)
    (l : List Fact) (hl : l.length <= 1000000) (person : ByteArray) (known : Int) (line : Ln) : zv Tryz.prog G 19 [c.sv, .imm (yz l), sS person, sI known, ypn line] (sB (qt c l person known line)) := by
  have hvc := zwu G c hfit hcs hls has
  have hvf := zwv G l (by omega)
  have hd1 := zgh G line.day
  have hd2 := zgh G known
  have hrep : qt c l person known line = (qd c && qr l && zla line.day && zla known && decide ((ybg c).length = c.arts.length) &&
      zgo c (zax c l person line.day known) (inA c line.day known) (yxa c (zax c l person line.day known) (inA c line.day known) (ybg c)) line) := by
    unfold qt zla
    simp only [Bool.decide_and]
  rw [hrep]
  clear hrep
  refine zf Tryz.func19 rfl (by rw [Tryz.ntmps19]; simp) rfl rfl ?_; intro E hH hK
  rw [show ypn line = .agg [sI line.day, sI line.line, sI line.art, sI line.amount, .imm (ye line.facts), .imm (ye line.rests)] from rfl]
  by_cases hc : qd c = true
  case neg =>
    rw [Bool.not_eq_true] at hc
    rw [hc] at hvc hK
    (refine zg ?_; conv => whnf)
    refine ze rfl  hvc ?_
    (refine zc ?_; conv => whnf)
    exact hK _
  rw [hc] at hvc hK
  by_cases hf : qr l = true
  case neg =>
    rw [Bool.not_eq_true] at hf
    rw [hf] at hvf hK
    (refine zg ?_; conv => whnf)
    refine ze rfl  hvc ?_
    (refine zc ?_; conv => whnf)
    refine ze rfl  hvf ?_
    (refine zc ?_; conv => whnf)
    exact hK _
  rw [hf] at hvf hK
  by_cases hld : zla line.day = true
  case neg =>
    rw [Bool.not_eq_true] at hld
    rw [hld] at hd1 hK
    (refine zg ?_; conv => whnf)
    refine ze rfl  hvc ?_
    (refine zc ?_; conv => whnf)
    refine ze rfl  hvf ?_
    (refine zc ?_; conv => whnf)
    refine ze rfl  hd1 ?_
    (refine zc ?_; conv => whnf)
    exact hK _
  rw [hld] at hd1 hK
  by_cases hkd : zla known = true
  case neg =>
    rw [Bool.not_eq_true] at hkd
    rw [hkd] at hd2 hK
    (refine zg ?_; conv => whnf)
    refine ze rfl  hvc ?_
    (refine zc ?_; conv => whnf)
    refine ze rfl  hvf ?_
    (refine zc ?_; conv => whnf)
    refine ze rfl  hd1 ?_
    (refine zc ?_; conv => whnf)
    refine ze rfl  hd2 ?_
    (refine zc ?_; conv => whnf)
    exact hK _
  rw [hkd] at hd2 hK
  have hday : 0 <= line.day /\ line.day <= 36524 := of_decide_eq_true hld
  obtain ⟨hc1, hc2, _, _, _⟩ := zlg hc
  obtain ⟨m, hM⟩ := yvs hc hfew
  have hseq := zrg G c hM.fit hM.arts
  (refine zg ?_; conv => whnf)
  refine ze rfl  hvc ?_
  (refine zc ?_; conv => whnf)
  refine ze rfl  hvf ?_
  (refine zc ?_; conv => whnf)
  refine ze rfl  hd1 ?_
  (refine zc ?_; conv => whnf)
  refine ze rfl  hd2 ?_
  (refine zc ?_; conv => whnf)
  refine ze rfl  hseq ?_
  by_cases hsl : (ybg c).length = c.arts.length
  case neg =>
    rw [decide_eq_false hsl] at hK ⊢
    (refine zc ?_; conv => whnf)
    exact hK _
  rw [decide_eq_true hsl] at hK ⊢
  have hS := yvt (c := c) hcs l person known hday
  have hnew := zro G c l person line.day known (by omega) hl hM.arts
  have hSd : (zax c l person line.day known).day = line.day := rfl
  obtain ⟨hin, hil⟩ := yvu c line.day known
  have hsm := ysa c
  have hK : ∀ H', E.K (sB (zgo c (zax c l person line.day known) (inA c line.day known) (yxa c (zax c l person line.day known) (inA c line.day known) (ybg c)) line)) H' := hK
  generalize zax c l person line.day known = S at hS hnew hSd hK
  generalize inA c line.day known = inF at hin hil hnew hK
  generalize ybg c = sq at hsl hsm hK ⊢
  have hrun := yrm (G := G) hS hM inF sq hin (by omega) hsm (by omega) [] []
  have hra : yxa c S inF sq = sq.foldl (zte c S inF) ([], []) := rfl
  rw [hra] at hK
  clear hra
  generalize sq.foldl (zte c S inF) ([], []) = T at hrun hK
  obtain ⟨st, am⟩ := T
  simp only at hrun
  have hnew2 : SCall Tryz.prog G 67 [c.sv, .imm (yz l), sS person, sI line.day, sI known] [zcc c, .cells (lnC line)] (fun r H' => r = .ptr 5 0 /\ H' = zww c line S inF [] []) := by
    refine SCall.mono (zka hnew [zcc c, .cells (lnC line)]) ?_
    rintro r H' ⟨r1, H1, ⟨rfl, rfl⟩, rfl, rfl⟩
    exact ⟨rfl, rfl⟩
  have hrun2 := yos hrun (fun σ => rfl) rfl (fun σ => rfl) (H := zww c line S inF [] []) (p := 5) (q := 3) (s := 4) (by decide) (by decide) (by decide) rfl rfl rfl
  have hcall : ∀ (a : Article), c.arts[line.art.toNat]? = some a -> 0 <= line.art -> SCall Tryz.prog G 69 [.ptr 5 0, sI line.art] (zww c line S inF st am) (fun r H' => r = ypn (zra c S inF (st, am) line.art a) /\ H' = zww c line S inF st am) := fun a ha h0 => by
    have := yos (ynf (G := G) hS hM inF hin (by omega) st am h0 ha) (fun σ => rfl) rfl (fun σ => rfl) (H := zww c line S inF st am) (p := 5) (q := 3) (s := 4) (by decide) (by decide) (by decide) rfl rfl rfl
    exact this
  clear hnew hrun
  (refine zc ?_; conv => whnf)
  refine ym rfl rfl rfl rfl rfl rfl (hnew2.mono ?_)
  rintro r9 H9 ⟨rfl, rfl⟩
  refine ⟨by show 2 <= 9; decide, ?_⟩
  (refine zc ?_; conv => whnf)
  refine ym rfl rfl rfl rfl rfl rfl (hrun2.mono ?_)
  rintro r9 H9 ⟨rfl, rfl⟩
  refine ⟨by show 9 <= 9; decide, ?_⟩
  refine (fun (hs : ∀ H2, H2 = zww c line S inF st am -> SWr E _ _ _ _ H2) => hs _ rfl) ?_
  rintro _ rfl
  have hifl : (inF.map fun n => [dI n]).length = inF.length := by simp
  (refine zc ?_; conv => whnf)
  refine zi [9, 13, 56, 57, 58] ?_
  change SW E _ [(9, .ptr 1 0), (13, .ptr 5 0), (56, .imm (ye inF)), (57, sI ((inF.map fun n => [dI n]).length : Nat)), (58, sI (0 : Nat))] (zww c line S inF st am)
  rw [hifl]
  refine zr inF (fun i (_ : Unit) => [(9, .ptr 1 0), (13, .ptr 5 0), (56, .imm (ye inF)), (57, sI (inF.length : Nat)), (58, sI (i : Nat))]) (fun _ _ => zww c line S inF st am)
    (fun done _ _ => ∀ o ∈ done, ¬ (o = line.art /\ (zy o st).getD 0 = 2)) () (fun o ho => by cases ho) ?_ ?_
  · rintro _ hn
    rw [yot (s := (st, am)) hn] at hK
    (refine zg ?_; conv => whnf)
    repeat' ((with_reducible refine way ?_ ?_) <;> (intro h; conv => whnf))
    all_goals try (exfalso; omega)
    exact hK _
  · rintro done o rest _ hda hdl hn ih
    have hom : o ∈ inF := by rw [hda]; simp
    have hor := hin o hom
    have hw := zk (n := done.length) (by omega)
    have hro : (inF.map fun n => [dI n])[done.length]? = some [dI o] := by rw [hda]; simp
    have hlk : ((zy o st).map sI).getD (jm (.int .i64 0)) = sI ((zy o st).getD 0) := by cases zy o st <;> rfl
    have ih := fun (h : ¬ (o = line.art /\ (zy o st).getD 0 = 2)) => ih () (fun x hx => by
      rcases List.mem_append.1 hx with hx | hx
      · exact hn x hx
      · rw [List.mem_singleton] at hx
        subst hx
        exact h)
    have hans : o = line.art -> (zy o st).getD 0 = 2 -> ∀ a, c.arts[line.art.toNat]? = some a -> zgo c S inF (st, am) line = yfj (zra c S inF (st, am) line.art a) line := fun h1 h2 a ha => by
      have hat : zdj c line.art = some a := by unfold zdj; rw [if_neg (by omega)]; exact ha
      unfold zgo
      rw [hat]
      exact if_pos ⟨h1 ▸ hom, h1 ▸ h2⟩
    generalize hx : (zy o st).getD 0 = x at hlk ih hans
    change SW E _ [(9, .ptr 1 0), (13, .ptr 5 0), (56, .imm (ye inF)), (57, sI (inF.length : Nat)), (58, sI (done.length : Nat))] (zww c line S inF st am)
    (refine zg ?_; conv => whnf)
    repeat' ((with_reducible refine way ?_ ?_) <;> (intro h; conv => whnf))
    all_goals try (exfalso; omega)
    refine zh (i := done.length) (row := [dI o]) rfl rfl hro ?_
    (refine zl [777, 72] 1000 ?_; conv => whnf)
    repeat' ((with_reducible refine way ?_ ?_) <;> (intro h; conv => whnf))
    · subst h
      refine zkw (l := st) (v := sI x) sI rfl rfl rfl rfl rfl rfl rfl rfl rfl hlk ?_
      (refine zc ?_; conv => whnf)
      repeat' ((with_reducible refine way ?_ ?_) <;> (intro h; conv => whnf))
      · rw [hw]
        exact zi [9, 13, 56, 57, 58] (ih fun y => absurd y.2 ‹¬ x = 2›)
      · obtain ⟨a, ha⟩ : ∃ a, c.arts[line.art.toNat]? = some a := ⟨_, List.getElem?_eq_getElem (by omega)⟩
        have ham := List.mem_of_getElem? ha
        rw [hans rfl ‹x = 2› a ha] at hK
        have hcl := hcall a ha (by omega)
        have hf1 := yjl S (zke c a)
        rw [yor] at hf1
        have hr1 := yjm c inF st a
        have e1 : yfj (zra c S inF (st, am) line.art a) line = (decide (a.line = line.line) && decide ((zy a.number am).getD 0 = line.amount) && decide (zhx S (zke c a) = line.facts) && decide (zli c inF st a = line.rests)) := rfl
        rw [e1] at hK
        have hs1 : ypn (zra c S inF (st, am) line.art a) = .agg [sI S.day, sI a.line, sI line.art, sI ((zy a.number am).getD 0), .imm (ye (zhx S (zke c a))), .imm (ye (zli c inF st a))] := rfl
        rw [hs1] at hcl
        have q1 := zjk G (zhx S (zke c a)) line.facts (by omega)
        have q2 := zjk G (zli c inF st a) line.rests (by omega)
        generalize zhx S (zke c a) = F at hcl hK q1
        generalize zli c inF st a = R at hcl hK q2
        generalize (zy a.number am).getD 0 = amt at hcl hK
        generalize decide (F = line.facts) = z1 at hK q1
        generalize decide (R = line.rests) = z2 at hK q2
        refine ym rfl rfl rfl rfl rfl rfl (hcl.mono ?_)
        rintro r9 H9 ⟨rfl, rfl⟩
        refine ⟨Nat.le_refl _, ?_⟩
        (refine zc ?_; conv => whnf)
        repeat' ((with_reducible refine way ?_ ?_) <;> (intro h; conv => whnf))
        · rw [decide_eq_true ‹a.line = line.line›, decide_eq_true ‹amt = line.amount›, Bool.true_and, Bool.true_and] at hK
          refine ze rfl  q1 ?_
          cases z1 with
          | false =>
            (refine zc ?_; conv => whnf)
            exact hK _
          | true =>
          (refine zc ?_; conv => whnf)
          refine ze rfl  q2 ?_
          (refine zc ?_; conv => whnf)
          exact hK _
        · rw [decide_eq_false ‹¬ amt = line.amount›, Bool.and_false] at hK
          exact hK _
        · rw [decide_eq_false ‹¬ a.line = line.line›] at hK
          exact hK _
    · rw [hw]
      exact zi [9, 13, 56, 57, 58] (ih fun y => absurd y.1 ‹¬ o = line.art›)
end Go.Proofs.YtjnddlifnkgncaaGreatDoor
namespace Go.Sh
variable {P:Program} {G:List (Nat × D)}
theorem yjn {f:FuncId} {args args':List SV} {r:SV} (h:zv P G f args' r) (ha:SIs args args'):zv P G f args r:=fun H w I β vs hH hv=>
 h H w I β vs hH ⟨by rw [hv.len,ha.len],fun j v s h1 h2=>by
  have hj:j<args'.length:=by
   rcases Nat.lt_or_ge j args'.length with h|h
   ·exact h
   ·rw [List.getElem?_eq_none h] at h2
    cases h2
  have hj':j<args.length:=by rw [ha.len];exact hj
  rw [List.getElem?_eq_getElem hj] at h2;cases h2
  exact ha.get j hj' hj w I β v (hv.rep j v _ h1 (List.getElem?_eq_getElem hj'))⟩
end Go.Sh
namespace Go.Proofs.YtjnddlifnkgncaaGreatDoor
open Go Go.Sh
theorem you {l:List Nat} (h:∀x∈l,x<18446744073709551616) (i:Nat):l.getD i 0<18446744073709551616:=by
 rw [List.getD_eq_getElem?_getD];cases hg:l[i]? with
 |none=>exact (by decide:(0:Nat)<18446744073709551616)
 |some x=>exact h x (List.mem_of_getElem? hg)
theorem yov:∀(rs:List (List Nat)) (i:Nat),(∀r∈rs,∀x∈r,x<18446744073709551616)->(pth rs i).length<=rs.length/\∀x∈pth rs i,x.sib<18446744073709551616
 |[],_,_=>⟨Nat.le_refl _,fun x hx=>by cases hx⟩
 |r::rs,i,h=>by
  obtain ⟨h1,h2⟩:=yov rs (i / 2) (fun r hr=>h r (by simp [hr]));have h3:(zie r i).length<=1/\∀x∈zie r i,x.sib<18446744073709551616:=by
   unfold zie;split
   ·refine ⟨Nat.le_refl _,fun x hx=>?_⟩
    rw [List.mem_singleton] at hx;subst hx;exact you (h r (by simp)) _
   ·split
    ·refine ⟨Nat.le_refl _,fun x hx=>?_⟩
     rw [List.mem_singleton] at hx;subst hx;exact you (h r (by simp)) _
    ·exact ⟨Nat.zero_le _,fun x hx=>by cases hx⟩
  rw [pth];refine ⟨by rw [List.length_append,List.length_cons];omega,fun x hx=>?_⟩;rcases List.mem_append.1 hx with hx|hx
  ·exact h3.2 x hx
  ·exact h2 x hx
theorem zuw:∀(f:Nat) (r:List Nat),(qn f r).length<=f+1
 |0,_=>Nat.le_refl _
 |f+1,r=>by
  rw [qn];split
  ·have:=zuw f (zcg r)
   rw [List.length_cons];omega
  ·rw [List.length_singleton]
   omega
theorem yav (l:List ByteArray) (i:Nat):(zls l i).length<=1025/\∀x∈zls l i,x.sib<18446744073709551616:=by
 have h1:=zuw 1024 (l.map zbq)
 have h2:=yov (qn 1024 (l.map zbq)) i (zsc 1024 _ (fun x hx=>by
  obtain ⟨y,_,rfl⟩:=List.mem_map.1 hx
  exact zbc _))
 rw [yaj];exact ⟨by omega,h2.2⟩
theorem yjo (seed:ByteArray) (i:Int) (text:ByteArray):∀x∈chainsN seed i text,x<18446744073709551616:=by
 intro x hx;unfold chainsN at hx;obtain ⟨k,_,rfl⟩:=List.mem_map.1 hx;exact zzy (zbc _) _
theorem yow {s:Slip} (hg:SlipGood s) (hr:∀r∈s.rows,r.label.size<=100000/\r.reason.size<=100000) (hp:s.person.size<=1000) {sel:List Int} (hsel:zkj s.rows.length none sel=true) (hsl:sel.length<=1000000) (seed:ByteArray) (h i:Nat):DFit (showN s sel seed h i) where
 person:=Nat.le_trans hp (by decide)
 root:=by
  show s.root<_;rw [<-hg.root];exact yfy _
 commit:=by
  show (zpd s.rows s.blinds).length<=_;rw [zpe _ _ hg.blinds];exact Nat.le_trans hg.rows.2 (by decide)
 shown:=by
  show (sel.map (showRow s)).length<=_;rw [List.length_map];exact Nat.le_trans hsl (by decide)
 row:=fun x hx=>by
  obtain ⟨k,hk,rfl⟩:=List.mem_map.1 (show x∈sel.map (showRow s) from hx);have hkr:=(zlt _ _ _ hsel).2.1 k hk;have hlt:k.toNat<s.rows.length:=by omega
  have hmem:s.rows.getD k.toNat ⟨⟨#[]⟩,0,⟨#[]⟩⟩∈s.rows:=by
   rw [List.getD_eq_getElem?_getD,List.getElem?_eq_getElem hlt];exact List.getElem_mem hlt
  have h1:=hr _ hmem;have h2:=yav (zaz s.rows s.blinds) k.toNat;exact ⟨Nat.le_trans h1.1 (by decide),Nat.le_trans h1.2 (by decide),Nat.le_trans h2.1 (by decide),h2.2⟩
 chains:=yjo _ _ _
 path:=by
  have h2:=yav (leavesN seed h) i;exact ⟨Nat.le_trans h2.1 (by decide),h2.2⟩
def ydu:ByteArray:=⟨#[115,101,101,100]⟩
theorem zkn:SlipGood shSlip:=⟨by kernel_rfl,by decide,by decide,rfl,by decide,by decide,rfl⟩
theorem zso:∀r∈shSlip.rows,r.label.size<=100000/\r.reason.size<=100000:=by decide
def zlx (amount:Int) (fs:List Int):Ln:=⟨8770,0,0,amount,fs,[]⟩
theorem yxu:qt offC ykf yke 8771 (zlx 9600 [1])=true:=by rw [zfx];kernel_rfl
theorem yvv:qt offC ykf yke 8771 (zlx 9601 [1])=false:=by rw [zfx];kernel_rfl
theorem yvw:qt offC ykf yke 8771 (zlx 9600 [])=false:=by rw [zfx];kernel_rfl
theorem ysb:qt offC ykf yke 8770 (zlx 9600 [1])=false:=by rw [zfx];kernel_rfl
theorem yxv:qt offC ykf yzl 8771 (zlx 9600 [1])=false:=by rw [zfx];kernel_rfl
theorem ysc:Codex.fit offC:=fun a ha=>by
 rw [show offC.arts=[_] from rfl,List.mem_singleton] at ha;subst ha;exact ⟨Nat.zero_le _,Nat.zero_le _⟩
theorem yox (person:ByteArray) (known:Int) (l:Ln) (b:Bool) (h:qt offC ykf person known l=b):zv Tryz.prog G37 19 [offC.sv,.imm (yz ykf),sS person,sI known,ypn l] (sB b):=by
 have:=zsn G37 offC ysc (by decide) (by decide) (by decide) (by decide) ykf (by decide) person known l;rw [h] at this;exact this
theorem yoy:zv Tryz.prog G37 9 [] (sB true):=by
 have hsel:zkj shSlip.rows.length none [0]=true:=by decide
 have hsum: -500000000<=qj (shSlip.rows.map Rw.cents) (zol shSlip.rows.length [0])/\qj (shSlip.rows.map Rw.cents) (zol shSlip.rows.length [0])<=500000000:=by decide
 have hok:=yvo zkn hsel ydu (h:=1) (i:=1) (by decide) (by decide) hsum;have hfit:=yow zkn zso (by decide) hsel (by decide) ydu 1 1;have c1:=yro ydu 1 (by decide) (by decide);have c2:=yiy;have c3:=yoc shSlip zkn zso (by decide) [0] hsel (by decide) ydu 1 1 (by decide) (by decide) (by decide) hsum;have hhid:(showN shSlip [0] ydu 1 1).hidden=30000:=by
  show qj (shSlip.rows.map Rw.cents) (zol shSlip.rows.length [0])=30000;decide
 generalize showN shSlip [0] ydu 1 1=d at hok hfit c3 hhid;generalize keyN ydu 1=key at hok c1;generalize shSlip=ss at c2 c3;have hbad:accOK key 1 {d with hidden:=29999}=false:=zwt hok (by rw [hhid];decide);have hzero:accOK key 0 d=false:=yry hok (by decide);have a1:=zkc zgt key 1 d hfit;have a2:=zkc zgt key 1 {d with hidden:=29999} ⟨hfit.person,hfit.root,hfit.commit,hfit.shown,hfit.row,hfit.chains,hfit.path⟩;have a3:=zkc zgt key 0 d hfit;have hok:accOK key 1 d=true:=hok;rw [hok] at a1;rw [hbad] at a2;rw [hzero] at a3;obtain ⟨person,month,root,commit,shown,hidden,blind,⟨index,chains,path⟩⟩:=d;simp only at hhid;subst hhid;clear hok hbad hzero hfit hsel hsum;have c4:=ydg G37;have nilR:SIs (lnC (zlx 9600 [1])) (lnC (zlx 9600 [1])):=.cons (SV.Is.refl _) (.cons (SV.Is.refl _) (.cons (SV.Is.refl _) (.cons (SV.Is.refl _) (.cons (SV.Is.refl _) (.cons (SV.Is.refl _) .nil)))));have isL:∀(am:Int) (fd:D) (fs:List Int),(SV.imm fd).Is (.imm (ye fs))->(SV.agg [sI 8770,sI 0,sI 0,sI am,.imm fd,.imm ypm]).Is (ypn (zlx am fs)):=fun am fd fs h=>
  SIs.agg (.cons (SV.Is.refl _) (.cons (SV.Is.refl _) (.cons (SV.Is.refl _) (.cons (SV.Is.refl _) (.cons h (.cons (SV.Is.nil 1) .nil))))))
 have rp:∀(person:ByteArray) (known am:Int) (fd:D) (fs:List Int) (b:Bool),(SV.imm fd).Is (.imm (ye fs))->qt offC ykf person known (zlx am fs)=b->
   zv Tryz.prog G37 19 [offC.sv,.imm (yz ykf),sS person,sI known,.agg [sI 8770,sI 0,sI 0,sI am,.imm fd,.imm ypm]] (sB b):=fun person known am fd fs b h1 h2=>
  yjn (yox person known _ b h2) (.cons (SV.Is.refl _) (.cons (SV.Is.refl _) (.cons (SV.Is.refl _) (.cons (SV.Is.refl _) (.cons (isL am fd fs h1) .nil)))))
 have r1:=rp yke 8771 9600 (ye [1]) [1] true (SV.Is.refl _) yxu;have r2:=rp yke 8771 9601 (ye [1]) [1] false (SV.Is.refl _) yvv;have r3:=rp yke 8771 9600 ypm [] false (SV.Is.nil 1) yvw;have r4:=rp yke 8770 9600 (ye [1]) [1] false (SV.Is.refl _) ysb;have r5:=rp yzl 8771 9600 (ye [1]) [1] false (SV.Is.refl _) yxv;clear rp isL nilR;refine zf Tryz.func9 rfl (by rw [Tryz.ntmps9];simp) rfl rfl ?_;intro E hH hK;(refine zg ?_;conv=>whnf);refine ze rfl  c1 ?_;(refine zc ?_;conv=>whnf);refine ze rfl  c2 ?_;(refine zc ?_;conv=>whnf);refine ze rfl  c3 ?_;(refine zc ?_;conv=>whnf);refine ze rfl  c4 ?_;(refine zc ?_;conv=>whnf);(refine wd 2 mixed rfl ?_;refine zq [] (nx:=4) ?_;conv=>whnf);(refine zg ?_;conv=>whnf);refine ze rfl  a1 ?_;(refine zc ?_;conv=>whnf);refine ze rfl  a2 ?_;(refine zc ?_;conv=>whnf);refine ze rfl  a3 ?_;(refine zc ?_;conv=>whnf);refine ze rfl  r1 ?_;(refine zc ?_;conv=>whnf);refine ze rfl  r2 ?_;(refine zc ?_;conv=>whnf);refine ze rfl  r3 ?_;(refine zc ?_;conv=>whnf);refine ze rfl  r4 ?_;(refine zc ?_;conv=>whnf);refine ze rfl  r5 ?_;(refine zc ?_;conv=>whnf);exact hK _
theorem yjp (l:List Fact) (f:Fact) (person:ByteArray) (day known:Int) (d:Decl) (h:f.person≠person\/known<f.known):zfs (l++[f]) person day known d=zfs l person day known d:=by
 unfold zfs;rw [List.zipIdx_append,List.foldl_append];show zlh d person day known _ (f,_)=_;unfold zlh;rw [if_pos];rcases h with h|h
 ·exact .inl h
 ·exact .inr (.inr (.inr (.inr h)))
theorem yjq (c:Codex) (l:List Fact) (f:Fact) (person:ByteArray) (day known:Int) (h:f.person≠person\/known<f.known):zax c (l++[f]) person day known=zax c l person day known:=by
 unfold zax;simp only [yjp _ _ _ _ _ _ h]
theorem yaw (c:Codex) (l:List Fact) (f:Fact) (person:ByteArray) (known:Int) (line:Ln) (h:f.person≠person\/known<f.known) (h1:qr l=true) (h2:qr (l++[f])=true):
  qt c (l++[f]) person known line=qt c l person known line:=by
 unfold qt;rw [yjq _ _ _ _ _ _ h,h1,h2]
variable (fs ls ks:List Decl) (as_:List Article)
theorem zly:∀(f next:Nat) (s:List Int × List Int),ju ⟨fs,ls,as_⟩ f next s=ju ⟨fs,ks,as_⟩ f next s
 |0,_,_=>rfl
 |f+1,next,s=>by
  rw [ju,ju];cases s.2[next]? with
  |none=>rfl
  |some v=>exact zly f (next+1) _
theorem yjr:ybg ⟨fs,ls,as_⟩=ybg ⟨fs,ks,as_⟩:=by
 unfold ybg;rw [zly fs ls ks as_];rfl
theorem zwx (l:List Fact) (person:ByteArray) (known:Int) (line:Ln) (h:qd ⟨fs,ls,as_⟩=qd ⟨fs,ks,as_⟩):qt ⟨fs,ls,as_⟩ l person known line=qt ⟨fs,ks,as_⟩ l person known line:=by
 unfold qt;rw [h,yjr fs ls ks as_];rfl
theorem zif (G:List (Nat × D)) (l:List Fact) (hlen:l.length<=1073741824):yyt Tryz.prog G 73 [.imm (yz l)] 7 (l.map Fact.cells):=by
 intro H;refine xb Tryz.func73 rfl (by rw [Tryz.ntmps73];simp) ?_;intro E hH hK;(refine zg ?_;conv=>whnf);refine ylo rfl rfl rfl rfl rfl rfl ?_ ?_
 ·intro he
  refine zl [777] 6 ?_;conv=>whnf
  refine zan (fun k=>zje (n:=2) (kk:=7) rfl) ?_;(refine zc ?_;conv=>whnf);exact hK _ _ ⟨by rw [he];rfl,by rw [he];rfl⟩
 ·(refine zc ?_;conv=>whnf)
  refine yy rfl ⟨by decide,rfl⟩ (by simp) (by simp;omega) ?_;(refine zc ?_;conv=>whnf);exact hK _ _ ⟨rfl,by simp;rfl⟩
def qs (l:List Fact) (f:Fact):List Fact × Int:=
 if qr l=false\/zec f=false then ([],1)
 else if 400<=l.length then ([],2)
 else if (yi l).any (fun k=>decide (f.known<k)) then ([],6)
 else (l++[f],0)
def ysd:SV:=.agg [xaf]
theorem zgx (n:Int):(yhz ysd n).Is (yhz (zml []) n):=
 (SIs.cons (SIs.cons (.nil 7) .nil).agg (.cons (.refl _) .nil)).tup
theorem ydv (G:List (Nat × D)) (l:List Fact) (f:Fact):zv Tryz.prog G 20 [zml l,Fact.sv f] (yhz (zml (qs l f).1) (qs l f).2):=by
 have hfl:(l.map Fact.cells).length=l.length:=by simp
 by_cases h0:qr l=true/\zec f=true/\l.length<400
 ·obtain ⟨h1,h2,h3⟩:=h0
  rcases zfr l with hl|⟨l',x,hl⟩
  ·subst hl
   have hr:qs [] f=([f],0):=by simp [qs,h1,h2,yi]
   rw [hr];refine zf Tryz.func20 rfl (by rw [Tryz.ntmps20];simp) rfl rfl ?_;intro E hH hK;(refine zm ?_;conv=>whnf);refine ze rfl  (ji G []) ?_;rw [h1];(refine zn ?_;conv=>whnf);refine ze rfl  (qq G f) ?_;rw [h2];(refine zn ?_;conv=>whnf);(refine zt mixed rfl ?_;refine zd [] ?_;conv=>whnf);(refine zm ?_;conv=>whnf);(refine wd 1 mixed rfl ?_;refine zq [] (nx:=3) ?_;conv=>whnf);refine zql 3 rfl rfl rfl rfl rfl rfl (by simp) rfl (zif G [] (by simp)) ?_;(refine zq [] (nx:=4) ?_;conv=>whnf);refine zco rfl rfl rfl rfl rfl rfl rfl rfl rfl rfl ⟨by decide,rfl⟩ (by simp) rfl (by simp) ?_;(refine zq [] (nx:=4) ?_;conv=>whnf);refine zbv ?_;(refine zm ?_;conv=>whnf);exact hK _
  ·subst hl
   have hlk:yi (l'++[x])=some x.known:=by simp [yi]
   have h400:¬400<=(l'++[x]).length:=by omega
   have hll:(l'++[x]).length=l'.length+1:=by simp
   have hm:IntKind.i64.wrap (((l'++[x]).map Fact.cells).length-1)=(l'.length:Int):=by
    rw [hfl,yg (by omega) (by omega)];omega
   by_cases hx:f.known<x.known
   ·have hr:qs (l'++[x]) f=([],6):=by
     rw [qs,if_neg (by simp [h1,h2]),if_neg h400,hlk,if_pos (by simpa using hx)]
    rw [hr];refine zky ?_ (zgx 6);refine zf Tryz.func20 rfl (by rw [Tryz.ntmps20];simp) rfl rfl ?_;intro E hH hK;(refine zm ?_;conv=>whnf);refine ze rfl  (ji G (l'++[x])) ?_;rw [h1];(refine zn ?_;conv=>whnf);refine ze rfl  (qq G f) ?_;rw [h2];(refine zn ?_;conv=>whnf)
    repeat' ((with_reducible refine way ?_ ?_)<;>(intro h;first|(exfalso;omega)|(conv=>whnf)))
    (refine zt mixed rfl ?_;refine zd [] ?_;conv=>whnf)
    repeat' ((with_reducible refine way ?_ ?_)<;>(intro h;first|(exfalso;omega)|(conv=>whnf)))
    refine yc rfl  hm (row:=x.cells) (by simp) ?_;(refine zd [] ?_;conv=>whnf);(refine zm ?_;conv=>whnf)
    repeat' ((with_reducible refine way ?_ ?_)<;>(intro h;first|(exfalso;omega)|(conv=>whnf)))
    exact hK _
   ·have hr:qs (l'++[x]) f=(l'++[x]++[f],0):=by
     rw [qs,if_neg (by simp [h1,h2]),if_neg h400,hlk,if_neg (by simpa using hx)]
    rw [hr];refine zf Tryz.func20 rfl (by rw [Tryz.ntmps20];simp) rfl rfl ?_;intro E hH hK;(refine zm ?_;conv=>whnf);refine ze rfl  (ji G (l'++[x])) ?_;rw [h1];(refine zn ?_;conv=>whnf);refine ze rfl  (qq G f) ?_;rw [h2];(refine zn ?_;conv=>whnf)
    repeat' ((with_reducible refine way ?_ ?_)<;>(intro h;first|(exfalso;omega)|(conv=>whnf)))
    (refine zt mixed rfl ?_;refine zd [] ?_;conv=>whnf)
    repeat' ((with_reducible refine way ?_ ?_)<;>(intro h;first|(exfalso;omega)|(conv=>whnf)))
    refine yc rfl  hm (row:=x.cells) (by simp) ?_;(refine zd [] ?_;conv=>whnf);(refine zm ?_;conv=>whnf)
    repeat' ((with_reducible refine way ?_ ?_)<;>(intro h;first|(exfalso;omega)|(conv=>whnf)))
    (refine wd 1 mixed rfl ?_;refine zq [] (nx:=3) ?_;conv=>whnf);refine zql 3 rfl rfl rfl rfl rfl rfl (by simp) rfl (zif G (l'++[x]) (by omega)) ?_;(refine zq [] (nx:=4) ?_;conv=>whnf);refine zco rfl rfl rfl rfl rfl rfl rfl rfl rfl rfl ⟨by decide,rfl⟩ (by simp) rfl (by simp;omega) ?_;(refine zq [] (nx:=4) ?_;conv=>whnf);refine zbv ?_;(refine zm ?_;conv=>whnf);have hst:(yhz (zml (l'++[x]++[f],(0:Int)).1) (l'++[x]++[f],(0:Int)).2)=yhz (.agg [.imm (.isl 7 ((l'++[x]).map Fact.cells++[f.cells]))]) 0:=by
     simp [yhz,zml,yz]
    rw [hst] at hK;exact hK _
 ·cases h1:qr l with
  |false=>
   have hr:qs l f=([],1):=by rw [qs,if_pos (.inl h1)]
   rw [hr];refine zky ?_ (zgx 1);refine zf Tryz.func20 rfl (by rw [Tryz.ntmps20];simp) rfl rfl ?_;intro E hH hK;(refine zm ?_;conv=>whnf);refine ze rfl  (ji G l) ?_;rw [h1];(refine zn ?_;conv=>whnf);exact hK _
  |true=>
   cases h2:zec f with
   |false=>
    have hr:qs l f=([],1):=by rw [qs,if_pos (.inr h2)]
    rw [hr];refine zky ?_ (zgx 1);refine zf Tryz.func20 rfl (by rw [Tryz.ntmps20];simp) rfl rfl ?_;intro E hH hK;(refine zm ?_;conv=>whnf);refine ze rfl  (ji G l) ?_;rw [h1];(refine zn ?_;conv=>whnf);refine ze rfl  (qq G f) ?_;rw [h2];(refine zn ?_;conv=>whnf);exact hK _
   |true=>
    have h3:400<=l.length:=by
     rcases Nat.lt_or_ge l.length 400 with h|h
     ·exact absurd ⟨h1,h2,h⟩ h0
     ·exact h
    have hr:qs l f=([],2):=by rw [qs,if_neg (by simp [h1,h2]),if_pos h3]
    rw [hr];refine zky ?_ (zgx 2);refine zf Tryz.func20 rfl (by rw [Tryz.ntmps20];simp) rfl rfl ?_;intro E hH hK;(refine zm ?_;conv=>whnf);refine ze rfl  (ji G l) ?_;rw [h1];(refine zn ?_;conv=>whnf);refine ze rfl  (qq G f) ?_;rw [h2];(refine zn ?_;conv=>whnf)
    repeat' ((with_reducible refine way ?_ ?_)<;>(intro h;first|(exfalso;omega)|(conv=>whnf)))
    exact hK _
theorem yax (y:Fact) (l:List Fact):∃z,yi (y::l)=some z:=⟨_,by unfold yi;rw [List.getLast?_eq_some_getLast (by simp),Option.map_some]⟩
theorem zig:∀(l:List Fact) (k:Option Int) (f:Fact),wn k l=true->zec f=true->(∀j∈(yi l).or k,j<=f.known)->wn k (l++[f])=true
 |[],none,f,_,hf,_=>by simp [wn,hf]
 |[],some k,f,_,hf,hk=>by
  have:=hk k (by simp [yi]);simp [wn,hf,this]
 |x::l,none,f,h,hf,hk=>by
  simp only [wn,List.cons_append,Bool.and_eq_true] at h ⊢;refine ⟨h.1,zig l (some x.known) f h.2 hf fun j hj=>hk j ?_⟩;cases l with
  |nil=>simpa [yi] using hj
  |cons y l=>
   obtain ⟨z,hz⟩:=yax y l;have e:yi (x::y::l)=yi (y::l):=by simp [yi]
   rw [e,hz];rw [hz] at hj;exact hj
 |x::l,some k,f,h,hf,hk=>by
  simp only [wn,List.cons_append,Bool.and_eq_true] at h ⊢;refine ⟨h.1,zig l (some x.known) f h.2 hf fun j hj=>hk j ?_⟩;cases l with
  |nil=>simpa [yi] using hj
  |cons y l=>
   obtain ⟨z,hz⟩:=yax y l;have e:yi (x::y::l)=yi (y::l):=by simp [yi]
   rw [e,hz];rw [hz] at hj;exact hj
theorem yay (l:List Fact) (f:Fact):(qs l f).2≠0\/(qs l f=(l++[f],0)/\qr l=true/\qr (l++[f])=true):=by
 unfold qs;split
 ·exact .inl (by simp)
 ·rename_i h1
  split
  ·exact .inl (by simp)
  ·rename_i h2
   split
   ·exact .inl (by simp)
   ·rename_i h3
    have hs:qr l=true:=by
     cases hb:qr l with
     |true=>rfl
     |false=>exact absurd (.inl hb) h1
    have hf:zec f=true:=by
     cases hb:zec f with
     |true=>rfl
     |false=>exact absurd (.inr hb) h1
    refine .inr ⟨rfl,hs,?_⟩;unfold qr at hs ⊢;rw [Bool.and_eq_true,decide_eq_true_eq] at hs ⊢;refine ⟨by rw [List.length_append,List.length_singleton];omega,zig l none f hs.2 hf fun j hj=>?_⟩;rw [Option.or_none] at hj;have hj:yi l=some j:=hj;rw [hj] at h3;simp at h3;exact h3
variable (G:List (Nat × D))
def zaa (n:Int):List Article->Nat->Int
 |[],_=> -1
 |d::r,i=>if d.number=n then i else zaa n r (i+1)
theorem zgy (c:Codex) (n:Int) (hsz:c.arts.length<=9223372036854775807):zv Tryz.prog G 75 [c.sv,sI n] (sI (zaa n c.arts 0)):=by
 refine zf Tryz.func75 rfl (by rw [Tryz.ntmps75];simp) rfl rfl ?_;intro E hH hK;have hlen:(c.arts.map Article.cells).length=c.arts.length:=by simp
 (refine zm ?_;conv=>whnf);refine zi [1,2,5] ?_;refine zr c.arts (fun i (_:Unit)=>[(1,sI n),(2,.ptr 0 0),(5,sI i)]) (fun _ _=>[.cells [.imm (zp c.facts),.imm (zp c.lines),.imm (yv c.arts)]])
  (fun done rest _=>zaa n c.arts 0=zaa n rest done.length) () rfl ?_ ?_
 ·rintro _ h1
  (refine zm ?_;conv=>whnf)
  repeat' ((with_reducible refine way ?_ ?_)<;>(intro h;conv=>whnf))
  all_goals try (exfalso;omega)
  exact kI hK (by rw [h1];rfl)
 ·rintro done d rest _ ha hl h1 ih
  have hw:=zk (n:=done.length) (by omega);simp only [zaa] at h1;(refine zm ?_;conv=>whnf)
  repeat' ((with_reducible refine way ?_ ?_)<;>(intro h;conv=>whnf))
  all_goals try (exfalso;omega)
  refine zh rfl rfl  (row:=d.cells) (by simp [ha]) ?_;(refine zn ?_;conv=>whnf)
  repeat' ((with_reducible refine way ?_ ?_)<;>(intro h;conv=>whnf))
  ·exact kI hK (by rw [h1,if_pos h])
  ·rw [hw];exact yq [1,2,5] 1 (by simp [hH]) (by simp) rfl rfl (ih () (by rw [h1,if_neg h];simp))
theorem zko (n:Int):∀(l:List Article) (i:Nat),zaa n l i= -1\/((i:Int)<=zaa n l i/\zaa n l i<i+l.length/\∃a,l[(zaa n l i).toNat-i]?=some a/\a.number=n)
 |[],i=>.inl rfl
 |a::r,i=>by
  simp only [zaa];split
  ·rename_i h
   right
   refine ⟨by omega,by simp;omega,a,by simp,h⟩
  ·rcases zko n r (i+1) with h|⟨h1,h2,x,h3,h4⟩
   ·exact .inl h
   ·right
    refine ⟨by omega,by simp;omega,x,?_,h4⟩;rw [show (zaa n r (i+1)).toNat-i=((zaa n r (i+1)).toNat-(i+1))+1 by omega];simpa using h3
theorem zne (n:Int):∀(l:List Article) (i:Nat),zaa n l i= -1 ↔ ∀a∈l,a.number≠n
 |[],i=>by simp [zaa]
 |a::r,i=>by
  simp only [zaa];split
  ·rename_i h
   constructor
   ·intro h';omega
   ·intro h';exact absurd h (h' a (by simp))
  ·rename_i h
   rw [zne n r (i+1)];simp [h]
def zer (L:Int) (a:Article):Bool:=decide (a.when_.length<=40)&&decide (a.unless_.length<=80)&&decide ((xg a.amount:Int)<=L)&&a.when_.all (fun e=>decide ((xg e:Int)<=L))
def zih (c:Codex) (L:Int):Bool:=decide (c.facts.length<=40)&&decide (c.lines.length<=40)&&decide (c.arts.length<=70)&&c.arts.all (zer L)
theorem yse (c:Codex) (L:Int) (h0:0<=L) (h1:L<=999999):zv Tryz.prog G 62 [c.sv,sI L] (sB (zih c L)):=by
 refine zf Tryz.func62 rfl (by rw [Tryz.ntmps62];simp) rfl rfl ?_;intro E hH hK;have hlf:(c.facts.map Decl.cells).length=c.facts.length:=by simp
 have hll:(c.lines.map Decl.cells).length=c.lines.length:=by simp
 have hla:(c.arts.map Article.cells).length=c.arts.length:=by simp
 (refine zm ?_;conv=>whnf)
 repeat' ((with_reducible refine way ?_ ?_)<;>(intro h;conv=>whnf))
 all_goals try exact kB hK (by simp [zih];intros;omega)
 have hsz:c.facts.length<=40/\c.lines.length<=40/\c.arts.length<=70:=by omega
 have hok:zih c L=c.arts.all (zer L):=by simp [zih,hsz]
 refine zi [1,2,5] ?_;refine zr c.arts (fun i (_:Unit)=>[(1,sI L),(2,.ptr 0 0),(5,sI i)]) (fun _ _=>[.cells [.imm (zp c.facts),.imm (zp c.lines),.imm (yv c.arts)]])
  (fun done rest _=>c.arts.all (zer L)=rest.all (zer L)) () rfl ?_ ?_
 ·rintro _ h1
  (refine zm ?_;conv=>whnf)
  repeat' ((with_reducible refine way ?_ ?_)<;>(intro h;conv=>whnf))
  all_goals try (exfalso;omega)
  exact kB hK (by rw [hok,h1];rfl)
 ·rintro done a rest _ ha hl hinv ih
  have hw:=zk (n:=done.length) (by omega);simp only [List.all_cons] at hinv;obtain ⟨op,n,u,den,ps,ks,ham⟩:∃op n u den ps ks,a.amount= .mk op n u den ps ks:=by cases h:a.amount;exact ⟨_,_,_,_,_,_,rfl⟩
  have hrow:(c.arts.map Article.cells)[((done.length:Nat):Int).toNat]?=some [dI a.number,dI a.line,dI a.rank,dI a.lo,dI a.hi,dI a.known,qp a.when_,ye a.unless_,dI op,dI n,dS u,dI den,.isl 3 (ps.map Piece.cells),.isl 6 (zj ks)]:=by
   simp [ha,Article.cells,ham,zx,Ex.op,Ex.n,Ex.unit,Ex.den,Ex.pieces,Ex.kids]
  have hwl:(a.when_.map Ex.cells).length=a.when_.length:=by simp
  have hul:(a.unless_.map fun n=>[dI n]).length=a.unless_.length:=by simp
  have bad:zer L a=false->zih c L=false:=fun h=>by rw [hok,hinv,h];rfl
  (refine zm ?_;conv=>whnf)
  repeat' ((with_reducible refine way ?_ ?_)<;>(intro h;conv=>whnf))
  all_goals try (exfalso;omega)
  refine zh rfl rfl  (row:=[dI a.number,dI a.line,dI a.rank,dI a.lo,dI a.hi,dI a.known,qp a.when_,ye a.unless_,dI op,dI n,dS u,dI den,.isl 3 (ps.map Piece.cells),.isl 6 (zj ks)]) hrow ?_;(refine zn ?_;conv=>whnf)
  repeat' ((with_reducible refine way ?_ ?_)<;>(intro h;conv=>whnf))
  all_goals try exact kB hK (bad (by simp [zer];intros;omega))
  refine ze rfl  (zmt G (.mk op n u den ps ks) L h0 h1) ?_;(refine zn ?_;conv=>whnf)
  repeat' ((with_reducible refine way ?_ ?_)<;>(intro h;conv=>whnf))
  ·exact kB hK (bad (by simp [zer,ham];intros;omega))
  have hgood:zer L a=a.when_.all (fun e=>decide ((xg e:Int)<=L)):=by
   simp only [zer,ham];rw [decide_eq_true (by omega),decide_eq_true (by omega),decide_eq_true h];rfl
  refine zi [1,2,5,6,7] ?_;refine zr a.when_ (fun i (_:Unit)=>[(1,sI L),(2,.ptr 0 0),(5,sI done.length),(6,.ptr 1 0),(7,sI i)])
   (fun _ _=>[.cells [.imm (zp c.facts),.imm (zp c.lines),.imm (yv c.arts)],.cells (zkd a op n u den ps ks)])
   (fun done rest _=>a.when_.all (fun e=>decide ((xg e:Int)<=L))=rest.all (fun e=>decide ((xg e:Int)<=L))) () rfl ?_ ?_
  ·rintro _ h2
   (refine zm ?_;conv=>whnf)
   repeat' ((with_reducible refine way ?_ ?_)<;>(intro h;conv=>whnf))
   all_goals try (exfalso;omega)
   rw [hw];exact yq [1,2,5] 1 (by simp [hH]) (by simp) rfl rfl (ih () (by rw [hinv,hgood,h2];rfl))
  ·rintro d2 e r2 _ ha2 hl2 h2 ih2
   have hw2:=zk (n:=d2.length) (by omega);simp only [List.all_cons] at h2;obtain ⟨o1,n1,u1,d1,p1,q1⟩:=e;(refine zm ?_;conv=>whnf)
   repeat' ((with_reducible refine way ?_ ?_)<;>(intro h;conv=>whnf))
   all_goals try (exfalso;omega)
   refine zh rfl rfl  (row:=(Ex.mk o1 n1 u1 d1 p1 q1).cells) (by simp [ha2]) ?_;(refine zn ?_;conv=>whnf);refine ze rfl  (zmt G (.mk o1 n1 u1 d1 p1 q1) L h0 h1) ?_;(refine zn ?_;conv=>whnf)
   repeat' ((with_reducible refine way ?_ ?_)<;>(intro h;conv=>whnf))
   ·exact kB hK (bad (by rw [hgood,h2,decide_eq_false h];rfl))
   ·rw [hw2]
    exact yq [1,2,5,6,7] 2 (by simp [hH]) (by simp) rfl rfl (ih2 () (by rw [h2,decide_eq_true h];rfl))
def zar (c : Codex) (op n : Int) (u : ByteArray) : Bool :=
  if op = 1 then wg u && decide (0 <= n) && decide (n <= 999999999999) && (!decide (u = tT) || decide (n <= 1))
  else if op = 2 then decide (0 <= n) && decide (n < c.facts.length) && zdl c.facts n u
  else if op = 3 then (match c.arts[(zaa n c.arts 0).toNat]? with
    | some a => decide (0 <= zaa n c.arts 0) && decide (0 <= a.line) && decide (a.line < c.lines.length) && zdl c.lines a.line u
    | none => false)
  else if op = 4 then decide (1 <= n) && decide (n <= 4) && decide (u = tN)
  else false
theorem ztk (c : Codex) (op n : Int) (u : ByteArray) (den : Int) (ps : List Piece) (ks : List Ex) (hsz : c.arts.length <= 9223372036854775807) :
    zv Tryz.prog G 156 [c.sv, (Ex.mk op n u den ps ks).sv] (sB (zar c op n u)) := by
  refine zf Tryz.func156 rfl (by rw [Tryz.ntmps156]; simp) rfl rfl ?_; intro E hH hK
  have hf : (c.facts.map Decl.cells).length = c.facts.length := by simp
  have hl : (c.lines.map Decl.cells).length = c.lines.length := by simp
  by_cases h1 : op = 1
  · subst h1
    have hr : zar c 1 n u = (wg u && decide (0 <= n) && decide (n <= 999999999999) && (!decide (u = tT) || decide (n <= 1))) := rfl
    rw [hr] at hK
    (refine zm ?_; conv => whnf)
    refine ze rfl  (zyr G u) ?_
    (refine zn ?_; conv => whnf)
    repeat' ((with_reducible refine way ?_ ?_) <;> (intro h; conv => whnf))
    all_goals exact kB hK (by first | (rw [‹wg u = true›]; simp [*]; done) | (simp [*]; done))
  by_cases h2 : op = 2
  · subst h2
    have hr : zar c 2 n u = (decide (0 <= n) && decide (n < c.facts.length) && zdl c.facts n u) := rfl
    rw [hr] at hK
    (refine zm ?_; conv => whnf)
    (refine zt mixed rfl ?_; refine zd [] ?_; conv => whnf)
    repeat' ((with_reducible refine way ?_ ?_) <;> (intro h; conv => whnf))
    · have hlt : n.toNat < c.facts.length := by omega
      obtain ⟨d, hd⟩ : ∃ d, c.facts[n.toNat]? = some d := ⟨c.facts[n.toNat], List.getElem?_eq_getElem hlt⟩
      refine yc rfl (i := n.toNat) (by omega) (row := d.cells) (by simp [hd]) ?_
      (refine zd [] ?_; conv => whnf)
      (refine zm ?_; conv => whnf)
      refine kB hK ?_
      have hua : zdl c.facts n u = decide (u = d.unit) := by simp only [zdl, hd]
      rw [hua, decide_eq_true (by omega), decide_eq_true (by omega)]
      rfl
    all_goals (refine zm ?_; conv => whnf)
    · exact kB hK (by rw [decide_eq_false (p := n < c.facts.length) (by omega)]; simp)
    · exact kB hK (by rw [decide_eq_false (p := 0 <= n) (by omega)]; simp)
  by_cases h3 : op = 3
  · subst h3
    have hr : zar c 3 n u = (match c.arts[(zaa n c.arts 0).toNat]? with
      | some a => decide (0 <= zaa n c.arts 0) && decide (0 <= a.line) && decide (a.line < c.lines.length) && zdl c.lines a.line u
      | none => false) := rfl
    rw [hr] at hK
    (refine zm ?_; conv => whnf)
    refine ze rfl  (zgy G c n hsz) ?_
    (refine zn ?_; conv => whnf)
    rcases zko n c.arts 0 with h | ⟨g1, g2, a, g3, g4⟩
    · rw [h] at hK ⊢
      (refine zt mixed rfl ?_; refine zd [] ?_; conv => whnf)
      (refine zm ?_; conv => whnf)
      refine kB hK ?_
      split <;> rfl
    · rw [Nat.sub_zero] at g3
      rw [g3] at hK
      simp only [decide_eq_true (show (0 : Int) <= zaa n c.arts 0 from g1), Bool.true_and] at hK
      generalize zaa n c.arts 0 = ix at hK g1 g2 g3 ⊢
      (refine zt mixed rfl ?_; refine zd [] ?_; conv => whnf)
      repeat' ((with_reducible refine way ?_ ?_) <;> (intro h; conv => whnf))
      all_goals try (exfalso; omega)
      refine yc rfl (i := ix.toNat) (by omega) (row := a.cells) (by simp [g3]) ?_
      (refine zd [] ?_; conv => whnf)
      repeat' ((with_reducible refine way ?_ ?_) <;> (intro h; conv => whnf))
      · refine yc rfl (i := ix.toNat) (by omega) (row := a.cells) (by simp [g3]) ?_
        (refine zd [] ?_; conv => whnf)
        repeat' ((with_reducible refine way ?_ ?_) <;> (intro h; conv => whnf))
        · refine yc rfl (i := ix.toNat) (by omega) (row := a.cells) (by simp [g3]) ?_
          (refine zd [] ?_; conv => whnf)
          obtain ⟨d, hd⟩ : ∃ d, c.lines[a.line.toNat]? = some d := ⟨c.lines[a.line.toNat]'(by omega), List.getElem?_eq_getElem _⟩
          refine yc rfl (i := a.line.toNat) (by omega) (row := d.cells) (by simp [hd]) ?_
          (refine zd [] ?_; conv => whnf)
          (refine zm ?_; conv => whnf)
          refine kB hK ?_
          have hua : zdl c.lines a.line u = decide (u = d.unit) := by simp only [zdl, hd]
          rw [hua, decide_eq_true (p := 0 <= a.line) (by omega), decide_eq_true (p := a.line < c.lines.length) (by omega)]
          rfl
        · (refine zm ?_; conv => whnf)
          exact kB hK (by rw [decide_eq_false (p := a.line < c.lines.length) (by omega)]; simp)
      · (refine zm ?_; conv => whnf)
        exact kB hK (by rw [decide_eq_false (p := 0 <= a.line) (by omega)]; simp)
  · (refine zm ?_; conv => whnf)
    repeat' ((with_reducible refine way ?_ ?_) <;> (intro h; conv => whnf))
    all_goals try (exfalso; omega)
    all_goals exact kB hK (by simp only [zar, if_neg h1, if_neg h2, if_neg h3]; simp [*])
theorem yxw (u:ByteArray) (f l:Ex) (len:Int) (h:2<=len):zaw 16 u f l len true=(!decide (f.unit=tT)&&decide (u=f.unit)):=by simp [zaw,h]
theorem yxx (u:ByteArray) (f l:Ex) (len:Int) (h:2<=len):zaw 17 u f l len true=(!decide (f.unit=tT)&&decide (u=f.unit)):=by simp [zaw,h]
theorem yzn (u:ByteArray) (f l:Ex):zaw 6 u f l 2 (decide (l.unit=f.unit))=(decide (u=tT)&&decide (f.unit=tT)&&decide (l.unit=tT)):=by
 by_cases e:f.unit=tT
 ·simp [zaw,e]
 ·simp [zaw,e]
theorem yzo (u:ByteArray) (f l:Ex):zaw 7 u f l 2 (decide (l.unit=f.unit))=(decide (u=tT)&&decide (f.unit=tT)&&decide (l.unit=tT)):=by
 by_cases e:f.unit=tT
 ·simp [zaw,e]
 ·simp [zaw,e]
theorem yzp (u:ByteArray) (f l:Ex):zaw 8 u f l 2 (decide (l.unit=f.unit))=(decide (u=tT)&&decide (f.unit=l.unit)):=by
 simp [zaw,eq_comm (a:=l.unit)]
theorem yzq (u:ByteArray) (f l:Ex):zaw 9 u f l 2 (decide (l.unit=f.unit))=(decide (u=tT)&&decide (f.unit=l.unit)&& !decide (f.unit=tT)):=by
 simp [zaw,Bool.and_assoc,eq_comm (a:=l.unit)]
theorem yxy (u:ByteArray) (f l:Ex):zaw 10 u f l 2 (decide (l.unit=f.unit))=(decide (u=tT)&&decide (f.unit=l.unit)&& !decide (f.unit=tT)):=by
 simp [zaw,Bool.and_assoc,eq_comm (a:=l.unit)]
theorem yxz (u:ByteArray) (f l:Ex):zaw 11 u f l 2 (decide (l.unit=f.unit))=(decide (u=f.unit)&&decide (f.unit=l.unit)&& !decide (f.unit=tT)):=by
 by_cases e1:u=f.unit<;>by_cases e2:l.unit=f.unit<;>simp [zaw,e1,e2,eq_comm (a:=f.unit)]
theorem yya (u:ByteArray) (f l:Ex):zaw 12 u f l 2 (decide (l.unit=f.unit))=(decide (u=f.unit)&&decide (f.unit=l.unit)&& !decide (f.unit=tT)):=by
 by_cases e1:u=f.unit<;>by_cases e2:l.unit=f.unit<;>simp [zaw,e1,e2,eq_comm (a:=f.unit)]
theorem yyb (u:ByteArray) (f l:Ex) (s:Bool):zaw 13 u f l 2 s=(!decide (f.unit=tT)&& !decide (l.unit=tT)&&((decide (f.unit=tN)&&decide (u=l.unit))||(decide (l.unit=tN)&&decide (u=f.unit)))):=by
 by_cases e1:f.unit=tN
 ·by_cases e2:l.unit=tN
  ·simp [zaw,e1,e2]
  ·simp [zaw,e1,e2]
 ·simp [zaw,e1,Bool.and_assoc]
theorem yyc (u:ByteArray) (f l:Ex) (s:Bool):zaw 14 u f l 2 s=(decide (u=f.unit)&& !decide (f.unit=tT)&&decide (l.op=1)&&decide (l.unit=tN)&&decide (1<=l.n)&&decide (l.n<=1000000)):=by
 have e1:(!decide (l.n<1))=decide (1<=l.n):=by rw [Bool.eq_iff_iff];simp
 have e2:(!decide (1000000<l.n))=decide (l.n<=1000000):=by rw [Bool.eq_iff_iff];simp
 simp only [zaw];rw [e1,e2]
 by_cases f1:u=f.unit<;>by_cases f2:f.unit=tT<;>simp [f1,f2,Bool.and_assoc]
theorem yyd (u:ByteArray) (f l:Ex) (s:Bool):zaw 15 u f l 2 s=(decide (f.unit=tM)&&zdn l.unit&&decide (u=l.unit)):=by simp [zaw]
theorem ysf (op:Int) (u:ByteArray) (f l:Ex) (s:Bool) (h:op<6\/17<op):zaw op u f l 2 s=false:=by
 by_cases e5:op=5
 ·subst e5;simp [zaw]
 ·simp only [zaw]
  rw [if_neg e5,if_neg (by omega),if_neg (by omega),if_neg (by omega),if_neg (by omega),if_neg (by omega),if_neg (by omega),if_neg (by omega),if_neg (by omega)]
theorem yjs (n:Int) (u:ByteArray) (den:Int) (ps:List Piece) (k0 k1:Ex):zv Tryz.prog G 158 [(Ex.mk 6 n u den ps [k0,k1]).sv] (sB (zaw 6 u k0 k1 2 (decide (k1.unit=k0.unit)))):=by
 have hrows:=zx [k0,k1];have hlen:(zj [k0,k1]).length=2:=by rw [hrows];rfl
 have h0:(zj [k0,k1])[0]?=some k0.cells:=by rw [hrows];rfl
 have h1:(zj [k0,k1])[1]?=some k1.cells:=by rw [hrows];rfl
 have hkl:[k0,k1].length=2:=rfl;generalize [k0,k1]=ks at hrows hlen h0 h1 hkl ⊢;refine zf Tryz.func158 rfl (by rw [Tryz.ntmps158];simp) rfl rfl ?_;intro E hH hK;obtain ⟨o0,n0,u0,d0,p0,q0⟩:=k0;obtain ⟨o1,n1,u1,d1,p1,q1⟩:=k1
 replace hK:∀H',E.K (sB (decide (u=tT)&&decide (u0=tT)&&decide (u1=tT))) H':=by
  intro H';have:=hK H';rw [yzn] at this;exact this
 (refine zm ?_;conv=>whnf);refine zh rfl rfl  (row:=(Ex.mk o0 n0 u0 d0 p0 q0).cells) h0 ?_;(refine zn ?_;conv=>whnf);refine zh rfl rfl  (row:=(Ex.mk o1 n1 u1 d1 p1 q1).cells) h1 ?_;(refine zn ?_;conv=>whnf);refine zi [1,3,4,5] ?_;refine zr ks (fun i (_:Unit)=>[(1,.ptr 0 0),(3,sS u0),(4,sS u1),(5,sI i)]) (fun _ _=>[.cells [sI 6,sI n,sS u,sI den,.imm (.isl 3 (ps.map Piece.cells)),.imm (.isl 6 (zj ks))]])
  (fun _ _ _=>True) () trivial ?_ ?_
 ·as_aux_lemma=>
   rintro _ _;(refine zm ?_;conv=>whnf)
   repeat' ((with_reducible refine way ?_ ?_)<;>(intro h;conv=>whnf))
   all_goals try (exfalso;omega)
   all_goals exact kB hK (by simp [tT,tN, *])
 ·as_aux_lemma=>
   rintro done k rest _ ha hl _ ih;have hw:=zk (n:=done.length) (by omega);(refine zm ?_;conv=>whnf)
   repeat' ((with_reducible refine way ?_ ?_)<;>(intro h;conv=>whnf))
   all_goals try (exfalso;omega)
   all_goals (rw [hw];exact yq [1,3,4,5] 1 (by simp [hH]) (by simp) rfl rfl (ih () trivial))
theorem yjt (n:Int) (u:ByteArray) (den:Int) (ps:List Piece) (k0 k1:Ex):zv Tryz.prog G 158 [(Ex.mk 7 n u den ps [k0,k1]).sv] (sB (zaw 7 u k0 k1 2 (decide (k1.unit=k0.unit)))):=by
 have hrows:=zx [k0,k1];have hlen:(zj [k0,k1]).length=2:=by rw [hrows];rfl
 have h0:(zj [k0,k1])[0]?=some k0.cells:=by rw [hrows];rfl
 have h1:(zj [k0,k1])[1]?=some k1.cells:=by rw [hrows];rfl
 have hkl:[k0,k1].length=2:=rfl;generalize [k0,k1]=ks at hrows hlen h0 h1 hkl ⊢;refine zf Tryz.func158 rfl (by rw [Tryz.ntmps158];simp) rfl rfl ?_;intro E hH hK;obtain ⟨o0,n0,u0,d0,p0,q0⟩:=k0;obtain ⟨o1,n1,u1,d1,p1,q1⟩:=k1
 replace hK:∀H',E.K (sB (decide (u=tT)&&decide (u0=tT)&&decide (u1=tT))) H':=by
  intro H';have:=hK H';rw [yzo] at this;exact this
 (refine zm ?_;conv=>whnf);refine zh rfl rfl  (row:=(Ex.mk o0 n0 u0 d0 p0 q0).cells) h0 ?_;(refine zn ?_;conv=>whnf);refine zh rfl rfl  (row:=(Ex.mk o1 n1 u1 d1 p1 q1).cells) h1 ?_;(refine zn ?_;conv=>whnf);refine zi [1,3,4,5] ?_;refine zr ks (fun i (_:Unit)=>[(1,.ptr 0 0),(3,sS u0),(4,sS u1),(5,sI i)]) (fun _ _=>[.cells [sI 7,sI n,sS u,sI den,.imm (.isl 3 (ps.map Piece.cells)),.imm (.isl 6 (zj ks))]])
  (fun _ _ _=>True) () trivial ?_ ?_
 ·as_aux_lemma=>
   rintro _ _;(refine zm ?_;conv=>whnf)
   repeat' ((with_reducible refine way ?_ ?_)<;>(intro h;conv=>whnf))
   all_goals try (exfalso;omega)
   all_goals exact kB hK (by simp [tT,tN, *])
 ·as_aux_lemma=>
   rintro done k rest _ ha hl _ ih;have hw:=zk (n:=done.length) (by omega);(refine zm ?_;conv=>whnf)
   repeat' ((with_reducible refine way ?_ ?_)<;>(intro h;conv=>whnf))
   all_goals try (exfalso;omega)
   all_goals (rw [hw];exact yq [1,3,4,5] 1 (by simp [hH]) (by simp) rfl rfl (ih () trivial))
theorem yju (n:Int) (u:ByteArray) (den:Int) (ps:List Piece) (k0 k1:Ex):zv Tryz.prog G 158 [(Ex.mk 8 n u den ps [k0,k1]).sv] (sB (zaw 8 u k0 k1 2 (decide (k1.unit=k0.unit)))):=by
 have hrows:=zx [k0,k1];have hlen:(zj [k0,k1]).length=2:=by rw [hrows];rfl
 have h0:(zj [k0,k1])[0]?=some k0.cells:=by rw [hrows];rfl
 have h1:(zj [k0,k1])[1]?=some k1.cells:=by rw [hrows];rfl
 have hkl:[k0,k1].length=2:=rfl;generalize [k0,k1]=ks at hrows hlen h0 h1 hkl ⊢;refine zf Tryz.func158 rfl (by rw [Tryz.ntmps158];simp) rfl rfl ?_;intro E hH hK;obtain ⟨o0,n0,u0,d0,p0,q0⟩:=k0;obtain ⟨o1,n1,u1,d1,p1,q1⟩:=k1
 replace hK:∀H',E.K (sB (decide (u=tT)&&decide (u0=u1))) H':=by
  intro H';have:=hK H';rw [yzp] at this;exact this
 (refine zm ?_;conv=>whnf);refine zh rfl rfl  (row:=(Ex.mk o0 n0 u0 d0 p0 q0).cells) h0 ?_;(refine zn ?_;conv=>whnf);refine zh rfl rfl  (row:=(Ex.mk o1 n1 u1 d1 p1 q1).cells) h1 ?_;(refine zn ?_;conv=>whnf);refine zi [1,3,4,5] ?_;refine zr ks (fun i (_:Unit)=>[(1,.ptr 0 0),(3,sS u0),(4,sS u1),(5,sI i)]) (fun _ _=>[.cells [sI 8,sI n,sS u,sI den,.imm (.isl 3 (ps.map Piece.cells)),.imm (.isl 6 (zj ks))]])
  (fun _ _ _=>True) () trivial ?_ ?_
 ·as_aux_lemma=>
   rintro _ _;(refine zm ?_;conv=>whnf)
   repeat' ((with_reducible refine way ?_ ?_)<;>(intro h;conv=>whnf))
   all_goals try (exfalso;omega)
   all_goals exact kB hK (by simp [tT,tN, *])
 ·as_aux_lemma=>
   rintro done k rest _ ha hl _ ih;have hw:=zk (n:=done.length) (by omega);(refine zm ?_;conv=>whnf)
   repeat' ((with_reducible refine way ?_ ?_)<;>(intro h;conv=>whnf))
   all_goals try (exfalso;omega)
   all_goals (rw [hw];exact yq [1,3,4,5] 1 (by simp [hH]) (by simp) rfl rfl (ih () trivial))
theorem yjv (n:Int) (u:ByteArray) (den:Int) (ps:List Piece) (k0 k1:Ex):zv Tryz.prog G 158 [(Ex.mk 9 n u den ps [k0,k1]).sv] (sB (zaw 9 u k0 k1 2 (decide (k1.unit=k0.unit)))):=by
 have hrows:=zx [k0,k1];have hlen:(zj [k0,k1]).length=2:=by rw [hrows];rfl
 have h0:(zj [k0,k1])[0]?=some k0.cells:=by rw [hrows];rfl
 have h1:(zj [k0,k1])[1]?=some k1.cells:=by rw [hrows];rfl
 have hkl:[k0,k1].length=2:=rfl;generalize [k0,k1]=ks at hrows hlen h0 h1 hkl ⊢;refine zf Tryz.func158 rfl (by rw [Tryz.ntmps158];simp) rfl rfl ?_;intro E hH hK;obtain ⟨o0,n0,u0,d0,p0,q0⟩:=k0;obtain ⟨o1,n1,u1,d1,p1,q1⟩:=k1
 replace hK:∀H',E.K (sB (decide (u=tT)&&decide (u0=u1)&& !decide (u0=tT))) H':=by
  intro H';have:=hK H';rw [yzq] at this;exact this
 (refine zm ?_;conv=>whnf);refine zh rfl rfl  (row:=(Ex.mk o0 n0 u0 d0 p0 q0).cells) h0 ?_;(refine zn ?_;conv=>whnf);refine zh rfl rfl  (row:=(Ex.mk o1 n1 u1 d1 p1 q1).cells) h1 ?_;(refine zn ?_;conv=>whnf);refine zi [1,3,4,5] ?_;refine zr ks (fun i (_:Unit)=>[(1,.ptr 0 0),(3,sS u0),(4,sS u1),(5,sI i)]) (fun _ _=>[.cells [sI 9,sI n,sS u,sI den,.imm (.isl 3 (ps.map Piece.cells)),.imm (.isl 6 (zj ks))]])
  (fun _ _ _=>True) () trivial ?_ ?_
 ·as_aux_lemma=>
   rintro _ _;(refine zm ?_;conv=>whnf)
   repeat' ((with_reducible refine way ?_ ?_)<;>(intro h;conv=>whnf))
   all_goals try (exfalso;omega)
   all_goals exact kB hK (by simp [tT,tN, *])
 ·as_aux_lemma=>
   rintro done k rest _ ha hl _ ih;have hw:=zk (n:=done.length) (by omega);(refine zm ?_;conv=>whnf)
   repeat' ((with_reducible refine way ?_ ?_)<;>(intro h;conv=>whnf))
   all_goals try (exfalso;omega)
   all_goals (rw [hw];exact yq [1,3,4,5] 1 (by simp [hH]) (by simp) rfl rfl (ih () trivial))
theorem ydw (n:Int) (u:ByteArray) (den:Int) (ps:List Piece) (k0 k1:Ex):zv Tryz.prog G 158 [(Ex.mk 10 n u den ps [k0,k1]).sv] (sB (zaw 10 u k0 k1 2 (decide (k1.unit=k0.unit)))):=by
 have hrows:=zx [k0,k1];have hlen:(zj [k0,k1]).length=2:=by rw [hrows];rfl
 have h0:(zj [k0,k1])[0]?=some k0.cells:=by rw [hrows];rfl
 have h1:(zj [k0,k1])[1]?=some k1.cells:=by rw [hrows];rfl
 have hkl:[k0,k1].length=2:=rfl;generalize [k0,k1]=ks at hrows hlen h0 h1 hkl ⊢;refine zf Tryz.func158 rfl (by rw [Tryz.ntmps158];simp) rfl rfl ?_;intro E hH hK;obtain ⟨o0,n0,u0,d0,p0,q0⟩:=k0;obtain ⟨o1,n1,u1,d1,p1,q1⟩:=k1
 replace hK:∀H',E.K (sB (decide (u=tT)&&decide (u0=u1)&& !decide (u0=tT))) H':=by
  intro H';have:=hK H';rw [yxy] at this;exact this
 (refine zm ?_;conv=>whnf);refine zh rfl rfl  (row:=(Ex.mk o0 n0 u0 d0 p0 q0).cells) h0 ?_;(refine zn ?_;conv=>whnf);refine zh rfl rfl  (row:=(Ex.mk o1 n1 u1 d1 p1 q1).cells) h1 ?_;(refine zn ?_;conv=>whnf);refine zi [1,3,4,5] ?_;refine zr ks (fun i (_:Unit)=>[(1,.ptr 0 0),(3,sS u0),(4,sS u1),(5,sI i)]) (fun _ _=>[.cells [sI 10,sI n,sS u,sI den,.imm (.isl 3 (ps.map Piece.cells)),.imm (.isl 6 (zj ks))]])
  (fun _ _ _=>True) () trivial ?_ ?_
 ·as_aux_lemma=>
   rintro _ _;(refine zm ?_;conv=>whnf)
   repeat' ((with_reducible refine way ?_ ?_)<;>(intro h;conv=>whnf))
   all_goals try (exfalso;omega)
   all_goals exact kB hK (by simp [tT,tN, *])
 ·as_aux_lemma=>
   rintro done k rest _ ha hl _ ih;have hw:=zk (n:=done.length) (by omega);(refine zm ?_;conv=>whnf)
   repeat' ((with_reducible refine way ?_ ?_)<;>(intro h;conv=>whnf))
   all_goals try (exfalso;omega)
   all_goals (rw [hw];exact yq [1,3,4,5] 1 (by simp [hH]) (by simp) rfl rfl (ih () trivial))
theorem ydx (n:Int) (u:ByteArray) (den:Int) (ps:List Piece) (k0 k1:Ex):zv Tryz.prog G 158 [(Ex.mk 11 n u den ps [k0,k1]).sv] (sB (zaw 11 u k0 k1 2 (decide (k1.unit=k0.unit)))):=by
 have hrows:=zx [k0,k1];have hlen:(zj [k0,k1]).length=2:=by rw [hrows];rfl
 have h0:(zj [k0,k1])[0]?=some k0.cells:=by rw [hrows];rfl
 have h1:(zj [k0,k1])[1]?=some k1.cells:=by rw [hrows];rfl
 have hkl:[k0,k1].length=2:=rfl;generalize [k0,k1]=ks at hrows hlen h0 h1 hkl ⊢;refine zf Tryz.func158 rfl (by rw [Tryz.ntmps158];simp) rfl rfl ?_;intro E hH hK;obtain ⟨o0,n0,u0,d0,p0,q0⟩:=k0;obtain ⟨o1,n1,u1,d1,p1,q1⟩:=k1
 replace hK:∀H',E.K (sB (decide (u=u0)&&decide (u0=u1)&& !decide (u0=tT))) H':=by
  intro H';have:=hK H';rw [yxz] at this;exact this
 (refine zm ?_;conv=>whnf);refine zh rfl rfl  (row:=(Ex.mk o0 n0 u0 d0 p0 q0).cells) h0 ?_;(refine zn ?_;conv=>whnf);refine zh rfl rfl  (row:=(Ex.mk o1 n1 u1 d1 p1 q1).cells) h1 ?_;(refine zn ?_;conv=>whnf);refine zi [1,3,4,5] ?_;refine zr ks (fun i (_:Unit)=>[(1,.ptr 0 0),(3,sS u0),(4,sS u1),(5,sI i)]) (fun _ _=>[.cells [sI 11,sI n,sS u,sI den,.imm (.isl 3 (ps.map Piece.cells)),.imm (.isl 6 (zj ks))]])
  (fun _ _ _=>True) () trivial ?_ ?_
 ·as_aux_lemma=>
   rintro _ _;(refine zm ?_;conv=>whnf)
   repeat' ((with_reducible refine way ?_ ?_)<;>(intro h;conv=>whnf))
   all_goals try (exfalso;omega)
   all_goals exact kB hK (by simp [tT,tN, *])
 ·as_aux_lemma=>
   rintro done k rest _ ha hl _ ih;have hw:=zk (n:=done.length) (by omega);(refine zm ?_;conv=>whnf)
   repeat' ((with_reducible refine way ?_ ?_)<;>(intro h;conv=>whnf))
   all_goals try (exfalso;omega)
   all_goals (rw [hw];exact yq [1,3,4,5] 1 (by simp [hH]) (by simp) rfl rfl (ih () trivial))
theorem ydy (n:Int) (u:ByteArray) (den:Int) (ps:List Piece) (k0 k1:Ex):zv Tryz.prog G 158 [(Ex.mk 12 n u den ps [k0,k1]).sv] (sB (zaw 12 u k0 k1 2 (decide (k1.unit=k0.unit)))):=by
 have hrows:=zx [k0,k1];have hlen:(zj [k0,k1]).length=2:=by rw [hrows];rfl
 have h0:(zj [k0,k1])[0]?=some k0.cells:=by rw [hrows];rfl
 have h1:(zj [k0,k1])[1]?=some k1.cells:=by rw [hrows];rfl
 have hkl:[k0,k1].length=2:=rfl;generalize [k0,k1]=ks at hrows hlen h0 h1 hkl ⊢;refine zf Tryz.func158 rfl (by rw [Tryz.ntmps158];simp) rfl rfl ?_;intro E hH hK;obtain ⟨o0,n0,u0,d0,p0,q0⟩:=k0;obtain ⟨o1,n1,u1,d1,p1,q1⟩:=k1
 replace hK:∀H',E.K (sB (decide (u=u0)&&decide (u0=u1)&& !decide (u0=tT))) H':=by
  intro H';have:=hK H';rw [yya] at this;exact this
 (refine zm ?_;conv=>whnf);refine zh rfl rfl  (row:=(Ex.mk o0 n0 u0 d0 p0 q0).cells) h0 ?_;(refine zn ?_;conv=>whnf);refine zh rfl rfl  (row:=(Ex.mk o1 n1 u1 d1 p1 q1).cells) h1 ?_;(refine zn ?_;conv=>whnf);refine zi [1,3,4,5] ?_;refine zr ks (fun i (_:Unit)=>[(1,.ptr 0 0),(3,sS u0),(4,sS u1),(5,sI i)]) (fun _ _=>[.cells [sI 12,sI n,sS u,sI den,.imm (.isl 3 (ps.map Piece.cells)),.imm (.isl 6 (zj ks))]])
  (fun _ _ _=>True) () trivial ?_ ?_
 ·as_aux_lemma=>
   rintro _ _;(refine zm ?_;conv=>whnf)
   repeat' ((with_reducible refine way ?_ ?_)<;>(intro h;conv=>whnf))
   all_goals try (exfalso;omega)
   all_goals exact kB hK (by simp [tT,tN, *])
 ·as_aux_lemma=>
   rintro done k rest _ ha hl _ ih;have hw:=zk (n:=done.length) (by omega);(refine zm ?_;conv=>whnf)
   repeat' ((with_reducible refine way ?_ ?_)<;>(intro h;conv=>whnf))
   all_goals try (exfalso;omega)
   all_goals (rw [hw];exact yq [1,3,4,5] 1 (by simp [hH]) (by simp) rfl rfl (ih () trivial))
theorem ydz (n:Int) (u:ByteArray) (den:Int) (ps:List Piece) (k0 k1:Ex):zv Tryz.prog G 158 [(Ex.mk 13 n u den ps [k0,k1]).sv] (sB (zaw 13 u k0 k1 2 (decide (k1.unit=k0.unit)))):=by
 have hrows:=zx [k0,k1];have hlen:(zj [k0,k1]).length=2:=by rw [hrows];rfl
 have h0:(zj [k0,k1])[0]?=some k0.cells:=by rw [hrows];rfl
 have h1:(zj [k0,k1])[1]?=some k1.cells:=by rw [hrows];rfl
 have hkl:[k0,k1].length=2:=rfl;generalize [k0,k1]=ks at hrows hlen h0 h1 hkl ⊢;refine zf Tryz.func158 rfl (by rw [Tryz.ntmps158];simp) rfl rfl ?_;intro E hH hK;obtain ⟨o0,n0,u0,d0,p0,q0⟩:=k0;obtain ⟨o1,n1,u1,d1,p1,q1⟩:=k1
 replace hK:∀H',E.K (sB (!decide (u0=tT)&& !decide (u1=tT)&&((decide (u0=tN)&&decide (u=u1))||(decide (u1=tN)&&decide (u=u0))))) H':=by
  intro H';have:=hK H';rw [yyb] at this;exact this
 (refine zm ?_;conv=>whnf);refine zh rfl rfl  (row:=(Ex.mk o0 n0 u0 d0 p0 q0).cells) h0 ?_;(refine zn ?_;conv=>whnf);refine zh rfl rfl  (row:=(Ex.mk o1 n1 u1 d1 p1 q1).cells) h1 ?_;(refine zn ?_;conv=>whnf);refine zi [1,3,4,5] ?_;refine zr ks (fun i (_:Unit)=>[(1,.ptr 0 0),(3,sS u0),(4,sS u1),(5,sI i)]) (fun _ _=>[.cells [sI 13,sI n,sS u,sI den,.imm (.isl 3 (ps.map Piece.cells)),.imm (.isl 6 (zj ks))]])
  (fun _ _ _=>True) () trivial ?_ ?_
 ·as_aux_lemma=>
   rintro _ _;(refine zm ?_;conv=>whnf)
   repeat' ((with_reducible refine way ?_ ?_)<;>(intro h;conv=>whnf))
   all_goals try (exfalso;omega)
   all_goals exact kB hK (by simp [tT,tN, *])
 ·as_aux_lemma=>
   rintro done k rest _ ha hl _ ih;have hw:=zk (n:=done.length) (by omega);(refine zm ?_;conv=>whnf)
   repeat' ((with_reducible refine way ?_ ?_)<;>(intro h;conv=>whnf))
   all_goals try (exfalso;omega)
   all_goals (rw [hw];exact yq [1,3,4,5] 1 (by simp [hH]) (by simp) rfl rfl (ih () trivial))
theorem yea (n:Int) (u:ByteArray) (den:Int) (ps:List Piece) (k0 k1:Ex):zv Tryz.prog G 158 [(Ex.mk 14 n u den ps [k0,k1]).sv] (sB (zaw 14 u k0 k1 2 (decide (k1.unit=k0.unit)))):=by
 have hrows:=zx [k0,k1];have hlen:(zj [k0,k1]).length=2:=by rw [hrows];rfl
 have h0:(zj [k0,k1])[0]?=some k0.cells:=by rw [hrows];rfl
 have h1:(zj [k0,k1])[1]?=some k1.cells:=by rw [hrows];rfl
 have hkl:[k0,k1].length=2:=rfl;generalize [k0,k1]=ks at hrows hlen h0 h1 hkl ⊢;refine zf Tryz.func158 rfl (by rw [Tryz.ntmps158];simp) rfl rfl ?_;intro E hH hK;obtain ⟨o0,n0,u0,d0,p0,q0⟩:=k0;obtain ⟨o1,n1,u1,d1,p1,q1⟩:=k1
 replace hK:∀H',E.K (sB (decide (u=u0)&& !decide (u0=tT)&&decide (o1=1)&&decide (u1=tN)&&decide (1<=n1)&&decide (n1<=1000000))) H':=by
  intro H';have:=hK H';rw [yyc] at this;exact this
 (refine zm ?_;conv=>whnf);refine zh rfl rfl  (row:=(Ex.mk o0 n0 u0 d0 p0 q0).cells) h0 ?_;(refine zn ?_;conv=>whnf);refine zh rfl rfl  (row:=(Ex.mk o1 n1 u1 d1 p1 q1).cells) h1 ?_;(refine zn ?_;conv=>whnf);refine zi [1,3,4,5] ?_;refine zr ks (fun i (_:Unit)=>[(1,.ptr 0 0),(3,sS u0),(4,sS u1),(5,sI i)]) (fun _ _=>[.cells [sI 14,sI n,sS u,sI den,.imm (.isl 3 (ps.map Piece.cells)),.imm (.isl 6 (zj ks))]])
  (fun _ _ _=>True) () trivial ?_ ?_
 ·as_aux_lemma=>
   rintro _ _;(refine zm ?_;conv=>whnf)
   repeat' ((with_reducible refine way ?_ ?_)<;>(intro h;conv=>whnf))
   all_goals try (exfalso;omega)
   all_goals try exact kB hK (by simp [tT, *];done)
   refine zh rfl rfl  (row:=(Ex.mk o1 n1 u1 d1 p1 q1).cells) h1 ?_;(refine zn ?_;conv=>whnf)
   repeat' ((with_reducible refine way ?_ ?_)<;>(intro h;conv=>whnf))
   all_goals try exact kB hK (by simp [tT, *];done)
   refine zh rfl rfl  (row:=(Ex.mk o1 n1 u1 d1 p1 q1).cells) h1 ?_;(refine zn ?_;conv=>whnf)
   repeat' ((with_reducible refine way ?_ ?_)<;>(intro h;conv=>whnf))
   all_goals try exact kB hK (by simp [tT, *];done)
   refine zh rfl rfl  (row:=(Ex.mk o1 n1 u1 d1 p1 q1).cells) h1 ?_;(refine zn ?_;conv=>whnf)
   repeat' ((with_reducible refine way ?_ ?_)<;>(intro h;conv=>whnf))
   all_goals exact kB hK (by simp [tT, *])
 ·as_aux_lemma=>
   rintro done k rest _ ha hl _ ih;have hw:=zk (n:=done.length) (by omega);(refine zm ?_;conv=>whnf)
   repeat' ((with_reducible refine way ?_ ?_)<;>(intro h;conv=>whnf))
   all_goals try (exfalso;omega)
   all_goals (rw [hw];exact yq [1,3,4,5] 1 (by simp [hH]) (by simp) rfl rfl (ih () trivial))
theorem yeb (n:Int) (u:ByteArray) (den:Int) (ps:List Piece) (k0 k1:Ex):zv Tryz.prog G 158 [(Ex.mk 15 n u den ps [k0,k1]).sv] (sB (zaw 15 u k0 k1 2 (decide (k1.unit=k0.unit)))):=by
 have hrows:=zx [k0,k1];have hlen:(zj [k0,k1]).length=2:=by rw [hrows];rfl
 have h0:(zj [k0,k1])[0]?=some k0.cells:=by rw [hrows];rfl
 have h1:(zj [k0,k1])[1]?=some k1.cells:=by rw [hrows];rfl
 have hkl:[k0,k1].length=2:=rfl;generalize [k0,k1]=ks at hrows hlen h0 h1 hkl ⊢;refine zf Tryz.func158 rfl (by rw [Tryz.ntmps158];simp) rfl rfl ?_;intro E hH hK;obtain ⟨o0,n0,u0,d0,p0,q0⟩:=k0;obtain ⟨o1,n1,u1,d1,p1,q1⟩:=k1
 replace hK:∀H',E.K (sB (decide (u0=tM)&&zdn u1&&decide (u=u1))) H':=by
  intro H';have:=hK H';rw [yyd] at this;exact this
 (refine zm ?_;conv=>whnf);refine zh rfl rfl  (row:=(Ex.mk o0 n0 u0 d0 p0 q0).cells) h0 ?_;(refine zn ?_;conv=>whnf);refine zh rfl rfl  (row:=(Ex.mk o1 n1 u1 d1 p1 q1).cells) h1 ?_;(refine zn ?_;conv=>whnf);refine zi [1,3,4,5] ?_;refine zr ks (fun i (_:Unit)=>[(1,.ptr 0 0),(3,sS u0),(4,sS u1),(5,sI i)]) (fun _ _=>[.cells [sI 15,sI n,sS u,sI den,.imm (.isl 3 (ps.map Piece.cells)),.imm (.isl 6 (zj ks))]])
  (fun _ _ _=>True) () trivial ?_ ?_
 ·as_aux_lemma=>
   rintro _ _;(refine zm ?_;conv=>whnf)
   repeat' ((with_reducible refine way ?_ ?_)<;>(intro h;conv=>whnf))
   all_goals try (exfalso;omega)
   all_goals try exact kB hK (by simp [tM, *];done)
   refine ze rfl  (zwb G u1) ?_;(refine zn ?_;conv=>whnf)
   repeat' ((with_reducible refine way ?_ ?_)<;>(intro h;conv=>whnf))
   all_goals exact kB hK (by simp [tM, *])
 ·as_aux_lemma=>
   rintro done k rest _ ha hl _ ih;have hw:=zk (n:=done.length) (by omega);(refine zm ?_;conv=>whnf)
   repeat' ((with_reducible refine way ?_ ?_)<;>(intro h;conv=>whnf))
   all_goals try (exfalso;omega)
   all_goals (rw [hw];exact yq [1,3,4,5] 1 (by simp [hH]) (by simp) rfl rfl (ih () trivial))
theorem zwy (op n:Int) (u:ByteArray) (den:Int) (ps:List Piece) (k0 k1:Ex) (hc:op<6\/17<op):zv Tryz.prog G 158 [(Ex.mk op n u den ps [k0,k1]).sv] (sB (zaw op u k0 k1 2 (decide (k1.unit=k0.unit)))):=by
 have hrows:=zx [k0,k1];have hlen:(zj [k0,k1]).length=2:=by rw [hrows];rfl
 have h0:(zj [k0,k1])[0]?=some k0.cells:=by rw [hrows];rfl
 have h1:(zj [k0,k1])[1]?=some k1.cells:=by rw [hrows];rfl
 have hkl:[k0,k1].length=2:=rfl;generalize [k0,k1]=ks at hrows hlen h0 h1 hkl ⊢;refine zf Tryz.func158 rfl (by rw [Tryz.ntmps158];simp) rfl rfl ?_;intro E hH hK;obtain ⟨o0,n0,u0,d0,p0,q0⟩:=k0;obtain ⟨o1,n1,u1,d1,p1,q1⟩:=k1;rw [ysf _ _ _ _ _ hc] at hK;(refine zm ?_;conv=>whnf);refine zh rfl rfl  (row:=(Ex.mk o0 n0 u0 d0 p0 q0).cells) h0 ?_;(refine zn ?_;conv=>whnf);refine zh rfl rfl  (row:=(Ex.mk o1 n1 u1 d1 p1 q1).cells) h1 ?_;(refine zn ?_;conv=>whnf);refine zi [1,3,4,5] ?_;refine zr ks (fun i (_:Unit)=>[(1,.ptr 0 0),(3,sS u0),(4,sS u1),(5,sI i)]) (fun _ _=>[.cells [sI op,sI n,sS u,sI den,.imm (.isl 3 (ps.map Piece.cells)),.imm (.isl 6 (zj ks))]])
  (fun _ _ _=>True) () trivial ?_ ?_
 ·as_aux_lemma=>
   rintro _ _;(refine zm ?_;conv=>whnf)
   repeat' ((with_reducible refine way ?_ ?_)<;>(intro h;conv=>whnf))
   all_goals try (exfalso;omega)
   all_goals exact hK _
 ·as_aux_lemma=>
   rintro done k rest _ ha hl _ ih;have hw:=zk (n:=done.length) (by omega);(refine zm ?_;conv=>whnf)
   repeat' ((with_reducible refine way ?_ ?_)<;>(intro h;conv=>whnf))
   all_goals try (exfalso;omega)
   all_goals (rw [hw];exact yq [1,3,4,5] 1 (by simp [hH]) (by simp) rfl rfl (ih () trivial))
theorem zwz (op n:Int) (u:ByteArray) (den:Int) (ps:List Piece) (k0 k1 k2:Ex) (kr:List Ex) (hsz:kr.length<=100000) (hop:¬(op=16\/op=17)):
  zv Tryz.prog G 158 [(Ex.mk op n u den ps (k0::k1::k2::kr)).sv] (sB false):=by
 have hrows:=zx (k0::k1::k2::kr);have hlen:(zj (k0::k1::k2::kr)).length=kr.length+3:=by rw [hrows];simp
 have h0:(zj (k0::k1::k2::kr))[0]?=some k0.cells:=by rw [hrows];rfl
 have h1:(zj (k0::k1::k2::kr))[1]?=some k1.cells:=by rw [hrows];rfl
 have hkl:(k0::k1::k2::kr).length=kr.length+3:=by simp
 generalize k0::k1::k2::kr=ks at hrows hlen h0 h1 hkl ⊢;refine zf Tryz.func158 rfl (by rw [Tryz.ntmps158];simp) rfl rfl ?_;intro E hH hK;obtain ⟨o0,n0,u0,d0,p0,q0⟩:=k0;obtain ⟨o1,n1,u1,d1,p1,q1⟩:=k1;(refine zm ?_;conv=>whnf);refine zh rfl rfl  (row:=(Ex.mk o0 n0 u0 d0 p0 q0).cells) h0 ?_;(refine zn ?_;conv=>whnf);refine zh rfl rfl  (row:=(Ex.mk o1 n1 u1 d1 p1 q1).cells) h1 ?_;(refine zn ?_;conv=>whnf);refine zi [1,3,4,5] ?_;refine zr ks (fun i (_:Unit)=>[(1,.ptr 0 0),(3,sS u0),(4,sS u1),(5,sI i)]) (fun _ _=>[.cells [sI op,sI n,sS u,sI den,.imm (.isl 3 (ps.map Piece.cells)),.imm (.isl 6 (zj ks))]])
  (fun _ _ _=>True) () trivial ?_ ?_
 ·as_aux_lemma=>
   rintro _ _;(refine zm ?_;conv=>whnf)
   repeat' ((with_reducible refine way ?_ ?_)<;>(intro h;conv=>whnf))
   all_goals try (exfalso;omega)
   all_goals exact hK _
 ·as_aux_lemma=>
   rintro done k rest _ ha hl _ ih;have hw:=zk (n:=done.length) (by omega);(refine zm ?_;conv=>whnf)
   repeat' ((with_reducible refine way ?_ ?_)<;>(intro h;conv=>whnf))
   all_goals try (exfalso;omega)
   all_goals (rw [hw];exact yq [1,3,4,5] 1 (by simp [hH]) (by simp) rfl rfl (ih () trivial))
theorem zxa (op n:Int) (u:ByteArray) (den:Int) (ps:List Piece) (k0 k1:Ex) (kr:List Ex) (hsz:kr.length<=100000) (hop:op=16\/op=17):
  zv Tryz.prog G 158 [(Ex.mk op n u den ps (k0::k1::kr)).sv] (sB (zdc (k0::k1::kr)&&(!decide (k0.unit=tT)&&decide (u=k0.unit)))):=by
 have hrows:=zx (k0::k1::kr);have hlen:(zj (k0::k1::kr)).length=kr.length+2:=by rw [hrows];simp
 have h0:(zj (k0::k1::kr))[0]?=some k0.cells:=by rw [hrows];rfl
 have h1:(zj (k0::k1::kr))[1]?=some k1.cells:=by rw [hrows];rfl
 have hkl:(k0::k1::kr).length=kr.length+2:=by simp
 have hsm:zdc (k0::k1::kr)=(k0::k1::kr).all fun x=>decide (x.unit=k0.unit):=rfl
 generalize k0::k1::kr=ks at hrows hlen h0 h1 hkl hsm ⊢;refine zf Tryz.func158 rfl (by rw [Tryz.ntmps158];simp) rfl rfl ?_;intro E hH hK;obtain ⟨o0,n0,u0,d0,p0,q0⟩:=k0;obtain ⟨o1,n1,u1,d1,p1,q1⟩:=k1
 replace hK:∀H',E.K (sB (zdc ks&&(!decide (u0=tT)&&decide (u=u0)))) H':=hK
 (refine zm ?_;conv=>whnf);refine zh rfl rfl  (row:=(Ex.mk o0 n0 u0 d0 p0 q0).cells) h0 ?_;(refine zn ?_;conv=>whnf);refine zh rfl rfl  (row:=(Ex.mk o1 n1 u1 d1 p1 q1).cells) h1 ?_;(refine zn ?_;conv=>whnf);refine zi [1,3,4,5] ?_;refine zr ks (fun i (_:Unit)=>[(1,.ptr 0 0),(3,sS u0),(4,sS u1),(5,sI i)]) (fun _ _=>[.cells [sI op,sI n,sS u,sI den,.imm (.isl 3 (ps.map Piece.cells)),.imm (.isl 6 (zj ks))]])
  (fun done rest _=>zdc ks=rest.all fun x=>decide (x.unit=u0)) () hsm ?_ ?_
 ·as_aux_lemma=>
   rintro _ hs;have hs':zdc ks=true:=by rw [hs];rfl
   rw [hs',Bool.true_and] at hK;(refine zm ?_;conv=>whnf)
   repeat' ((with_reducible refine way ?_ ?_)<;>(intro h;conv=>whnf))
   all_goals try (exfalso;omega)
   all_goals exact kB hK (by simp [tT, *])
 ·as_aux_lemma=>
   rintro done k rest _ ha hl hs ih;have hw:=zk (n:=done.length) (by omega);have hrow:(zj ks)[((done.length:Nat):Int).toNat]?=some k.cells:=by rw [hrows];simp [ha]
   obtain ⟨o2,n2,u2,d2,p2,q2⟩:=k;have hs':zdc ks=(decide (u2=u0)&&rest.all fun x=>decide (x.unit=u0)):=hs;have hbad:¬u2=u0->(zdc ks&&(!decide (u0=tT)&&decide (u=u0)))=false:=fun h=>by rw [hs',decide_eq_false h];rfl
   (refine zm ?_;conv=>whnf)
   repeat' ((with_reducible refine way ?_ ?_)<;>(intro h;conv=>whnf))
   all_goals try (exfalso;omega)
   all_goals refine zh rfl rfl  (row:=(Ex.mk o2 n2 u2 d2 p2 q2).cells) hrow ?_
   all_goals (refine zn ?_;conv=>whnf)
   all_goals repeat' ((with_reducible refine way ?_ ?_)<;>(intro h;conv=>whnf))
   all_goals first
    |exact kB hK (hbad (by assumption))
    |(rw [hw];exact yq [1,3,4,5] 1 (by simp [hH]) (by simp) rfl rfl (ih () (by rw [hs',decide_eq_true (by assumption)];rfl)))
theorem yoz (op n:Int) (u:ByteArray) (den:Int) (ps:List Piece) (k0 k1:Ex) (kr:List Ex) (hsz:kr.length<=100000):
  zv Tryz.prog G 158 [(Ex.mk op n u den ps (k0::k1::kr)).sv] (sB (zaw op u k0 (((k0::k1::kr).getLast?).getD k0) (k0::k1::kr).length (zdc (k0::k1::kr)))):=by
 by_cases hop:op=16\/op=17
 ·have:=zxa G op n u den ps k0 k1 kr hsz hop
  cases hs:zdc (k0::k1::kr) with
  |true=>
   rw [hs,Bool.true_and] at this;have h2:(2:Int)<=((k0::k1::kr).length:Nat):=by simp;omega
   rcases hop with rfl|rfl
   ·rw [yxw _ _ _ _ h2];exact this
   ·rw [yxx _ _ _ _ h2];exact this
  |false=>
   rw [hs,Bool.false_and] at this;have e:zaw op u k0 (((k0::k1::kr).getLast?).getD k0) (k0::k1::kr).length false=false:=by
    rcases hop with rfl|rfl<;>simp [zaw]
   rw [e];exact this
 ·cases kr with
  |cons k2 kr=>
   have e:zaw op u k0 (((k0::k1::k2::kr).getLast?).getD k0) (k0::k1::k2::kr).length (zdc (k0::k1::k2::kr))=false:=by
    simp only [zaw,if_neg hop];rw [decide_eq_false (p:=(((k0::k1::k2::kr).length:Nat):Int)=2) (by simp;omega),decide_eq_false (p:=(((k0::k1::k2::kr).length:Nat):Int)=1) (by simp;omega)];simp
   rw [e];exact zwz G op n u den ps k0 k1 k2 kr (by simp at hsz;omega) hop
  |nil=>
   have e1:([k0,k1].getLast?).getD k0=k1:=rfl;have e2:(([k0,k1].length:Nat):Int)=2:=rfl;have e3:zdc [k0,k1]=decide (k1.unit=k0.unit):=by simp [zdc]
   rw [e1,e2,e3];have hc:op=6\/op=7\/op=8\/op=9\/op=10\/op=11\/op=12\/op=13\/op=14\/op=15\/(op<6\/17<op):=by omega
   rcases hc with rfl|rfl|rfl|rfl|rfl|rfl|rfl|rfl|rfl|rfl|hc
   ·exact yjs G n u den ps k0 k1
   ·exact yjt G n u den ps k0 k1
   ·exact yju G n u den ps k0 k1
   ·exact yjv G n u den ps k0 k1
   ·exact ydw G n u den ps k0 k1
   ·exact ydx G n u den ps k0 k1
   ·exact ydy G n u den ps k0 k1
   ·exact ydz G n u den ps k0 k1
   ·exact yea G n u den ps k0 k1
   ·exact yeb G n u den ps k0 k1
   ·exact zwy G op n u den ps k0 k1 hc
def zhi (c:Codex) (op n:Int) (u:ByteArray) (den:Int) (ps:List Piece) (ks:List Ex):Bool:=
 if op=18 then decide (n=0)&&decide (ks.length=1)&&zdn u&&(match ks with|k::_=>decide (u=k.unit)|[]=>false)&&jb den ps
 else if ¬den=0\/0<ps.length then false
 else if 1<=op/\op<=4 then decide (ks.length=0)&&zar c op n u
 else decide (n=0)&&(match ks.head?,ks.getLast? with|some f,some l=>zaw op u f l ks.length (zdc ks)|_,_=>false)
mutual
def zes (c:Codex):Ex->Bool
 | .mk op n u den ps ks=>znf c ks&&zhi c op n u den ps ks
def znf (c:Codex):List Ex->Bool
 |[]=>true
 |k::r=>zes c k&&znf c r
end
theorem yjw (c:Codex) (ks:List Ex):znf c ks=ks.all (zes c):=by
 induction ks with
 |nil=>rfl
 |cons k r ih=>simp [znf,ih]
theorem zod (c:Codex) (op n:Int) (u:ByteArray) (h:¬(1<=op/\op<=4)):zar c op n u=false:=by
 simp only [zar];rw [if_neg (by omega),if_neg (by omega),if_neg (by omega),if_neg (by omega)]
theorem yaz (c:Codex) (op n:Int) (u:ByteArray) (den:Int) (ps:List Piece):
  zhi c op n u den ps []=if (¬(1<=op/\op<=4)/\¬n=0)\/(¬op=18/\(¬den=0\/0<ps.length)) then false else zar c op n u:=by
 simp only [zhi]
 by_cases h18:op=18
 ·subst h18
  rw [if_pos rfl,zod c 18 n u (by omega)];simp
 ·rw [if_neg h18]
  by_cases hd:¬den=0\/0<ps.length
  ·rw [if_pos hd,if_pos (.inr ⟨h18,hd⟩)]
  ·rw [if_neg hd]
   by_cases h4:1<=op/\op<=4
   ·rw [if_pos h4,if_neg (by simp [h4,hd])]
    simp
   ·rw [if_neg h4,zod c op n u h4]
    simp
theorem yba (c:Codex) (op n:Int) (u:ByteArray) (den:Int) (ps:List Piece) (k:Ex):
  zhi c op n u den ps [k]=if (¬(1<=op/\op<=4)/\¬n=0)\/(¬op=18/\(¬den=0\/0<ps.length)) then false
   else (decide (op=5)&&decide (u=tT)&&decide (k.unit=tT))||(decide (op=18)&&decide (u=k.unit)&&zdn u&&jb den ps):=by
 simp only [zhi]
 by_cases h18:op=18
 ·subst h18
  rw [if_pos rfl]
  by_cases hn:n=0
  ·rw [if_neg (by simp [hn])]
   simp [hn];cases zdn u<;>simp
  ·rw [if_pos (by left;exact ⟨by omega,hn⟩)]
   simp [hn]
 ·rw [if_neg h18]
  by_cases hd:¬den=0\/0<ps.length
  ·rw [if_pos hd,if_pos (.inr ⟨h18,hd⟩)]
  ·rw [if_neg hd]
   by_cases h4:1<=op/\op<=4
   ·rw [if_pos h4,if_neg (by simp [h4,hd])]
    have h5:¬op=5:=by omega
    simp [h18,h5]
   ·rw [if_neg h4]
    by_cases hn:n=0
    ·rw [if_neg (by simp [hn,hd])]
     by_cases h5:op=5
     ·subst h5;simp [zaw,hn]
     ·simp [zaw,hn,h5,h18]
    ·rw [if_pos (.inl ⟨h4,hn⟩)]
     simp [hn]
theorem zux (c:Codex) (op n:Int) (u:ByteArray) (den:Int) (ps:List Piece) (k0 k1:Ex) (kr:List Ex):
  zhi c op n u den ps (k0::k1::kr)=if (¬(1<=op/\op<=4)/\¬n=0)\/(¬op=18/\(¬den=0\/0<ps.length)) then false
   else zaw op u k0 (((k0::k1::kr).getLast?).getD k0) (k0::k1::kr).length (zdc (k0::k1::kr)):=by
 have hno:op=18\/(1<=op/\op<=4)->zaw op u k0 (((k0::k1::kr).getLast?).getD k0) (k0::k1::kr).length (zdc (k0::k1::kr))=false:=fun h=>by
  simp only [zaw];rw [if_neg (by omega),if_neg (by omega),if_neg (by omega),if_neg (by omega),if_neg (by omega),if_neg (by omega),if_neg (by omega),if_neg (by omega),if_neg (by omega)]
 have hlast:∃l,(k0::k1::kr).getLast?=some l:=⟨_,List.getLast?_eq_some_getLast (by simp)⟩;obtain ⟨l,hl⟩:=hlast;simp only [zhi]
 by_cases h18:op=18
 ·rw [if_pos h18,hno (.inl h18)]
  simp
 ·rw [if_neg h18]
  by_cases hd:¬den=0\/0<ps.length
  ·rw [if_pos hd,if_pos (.inr ⟨h18,hd⟩)]
  ·rw [if_neg hd]
   by_cases h4:1<=op/\op<=4
   ·rw [if_pos h4,if_neg (by simp [h4,hd]),hno (.inr h4)]
    simp
   ·rw [if_neg h4]
    by_cases hn:n=0
    ·rw [if_neg (by simp [hn,hd]),hl]
     simp [hn]
    ·rw [if_pos (.inl ⟨h4,hn⟩)]
     simp [hn]
theorem ybb (c:Codex) (hsz:c.arts.length<=9223372036854775807) (N:Nat):∀(e:Ex),SizeOf.sizeOf e<N->xg e<=1000->zv Tryz.prog G 117 [c.sv,e.sv] (sB (zes c e)):=by
 induction N with
 |zero=>intro e h;omega
 |succ N IH=>
 intro e he hs;obtain ⟨op,n,u,den,ps,ks⟩:=e;simp only [Ex.mk.sizeOf_spec] at he;simp only [xg] at hs;have hrows:=zx ks;have hlen:(zj ks).length=ks.length:=by rw [hrows];simp
 have hkl:=zcs ks;have hpl:(ps.map Piece.cells).length=ps.length:=by simp
 have hfit:zes c (.mk op n u den ps ks)=(ks.all (zes c)&&zhi c op n u den ps ks):=by simp only [zes,yjw]
 rw [hfit];refine zf Tryz.func117 rfl (by rw [Tryz.ntmps117];simp) rfl rfl ?_;intro E hH hK;(refine zm ?_;conv=>whnf);refine zi [2,3,5] ?_;refine zr ks (fun i (_:Unit)=>[(2,.ptr 0 0),(3,.ptr 1 0),(5,sI i)])
  (fun _ _=>[.cells [.imm (zp c.facts),.imm (zp c.lines),.imm (yv c.arts)],.cells [sI op,sI n,sS u,sI den,.imm (.isl 3 (ps.map Piece.cells)),.imm (.isl 6 (zj ks))]])
  (fun done rest _=>ks.all (zes c)=rest.all (zes c)) () rfl ?_ ?_
 ·as_aux_lemma=>
   rintro _ h1;have hall:ks.all (zes c)=true:=by rw [h1];rfl
   rw [hall,Bool.true_and] at hK;clear IH h1 hfit
   by_cases hbad:(¬(1<=op/\op<=4)/\¬n=0)\/(¬op=18/\(¬den=0\/0<ps.length))
   ·have hr:zhi c op n u den ps ks=false:=by
     match ks with
     |[]=>rw [yaz,if_pos hbad]
     |[k]=>rw [yba,if_pos hbad]
     |k0::k1::kr=>rw [zux,if_pos hbad]
    rw [hr] at hK
    as_aux_lemma=>
     (refine zm ?_;conv=>whnf)
     repeat' ((with_reducible refine way ?_ ?_)<;>(intro h;first|(exfalso;omega)|(conv=>whnf)))
     all_goals try (exfalso;omega)
     all_goals exact hK _
   ·match ks with
    |[]=>
     rw [yaz,if_neg hbad] at hK
     as_aux_lemma=>
      (refine zm ?_;conv=>whnf)
      repeat' ((with_reducible refine way ?_ ?_)<;>(intro h;first|(exfalso;omega)|(conv=>whnf)))
      all_goals try (exfalso;omega)
      all_goals refine ze rfl  (ztk G c op n u den ps [] hsz) ?_
      all_goals (refine zn ?_;conv=>whnf)
      all_goals exact hK _
    |[k]=>
     rw [yba,if_neg hbad] at hK;obtain ⟨o0,n0,u0,d0,p0,q0⟩:=k
     replace hK:∀H',E.K (sB ((decide (op=5)&&decide (u=tT)&&decide (u0=tT))||(decide (op=18)&&decide (u=u0)&&zdn u&&jb den ps))) H':=hK
     have h0:(zj [Ex.mk o0 n0 u0 d0 p0 q0])[0]?=some (Ex.mk o0 n0 u0 d0 p0 q0).cells:=by rw [zx];rfl
     have hlen1:(zj [Ex.mk o0 n0 u0 d0 p0 q0]).length=1:=by rw [zx];rfl
     generalize zj [Ex.mk o0 n0 u0 d0 p0 q0]=rows at h0 hlen hlen1 ⊢
     by_cases h5:op=5
     ·subst h5
      replace hK:∀H',E.K (sB (decide (u=tT)&&decide (u0=tT))) H':=by simpa using hK
      as_aux_lemma=>
       (refine zm ?_;conv=>whnf)
       repeat' ((with_reducible refine way ?_ ?_)<;>(intro h;first|(exfalso;omega)|(conv=>whnf)))
       all_goals try (exfalso;omega)
       all_goals (refine zt mixed rfl ?_;refine zd [] ?_;conv=>whnf)
       all_goals repeat' ((with_reducible refine way ?_ ?_)<;>(intro h;first|(exfalso;omega)|(conv=>whnf)))
       all_goals try refine yc rfl rfl  (row:=(Ex.mk o0 n0 u0 d0 p0 q0).cells) h0 ?_
       all_goals try (refine zd [] ?_;conv=>whnf)
       all_goals try repeat' ((with_reducible refine way ?_ ?_)<;>(intro h;first|(exfalso;omega)|(conv=>whnf)))
       all_goals try (refine zm ?_;conv=>whnf)
       all_goals exact kB hK (by simp [tT, *])
     by_cases h18:op=18
     ·subst h18
      replace hK:∀H',E.K (sB (decide (u=u0)&&zdn u&&jb den ps)) H':=by simpa using hK
      as_aux_lemma=>
       (refine zm ?_;conv=>whnf)
       repeat' ((with_reducible refine way ?_ ?_)<;>(intro h;first|(exfalso;omega)|(conv=>whnf)))
       all_goals try (exfalso;omega)
       (refine zt mixed rfl ?_;refine zd [] ?_;conv=>whnf);refine yc rfl rfl  (row:=(Ex.mk o0 n0 u0 d0 p0 q0).cells) h0 ?_;(refine zd [] ?_;conv=>whnf)
       repeat' ((with_reducible refine way ?_ ?_)<;>(intro h;first|(exfalso;omega)|(conv=>whnf)))
       ·refine zu rfl  (zwb G u) ?_
        cases hc:zdn u with
        |false=>
         (refine zd [] ?_;conv=>whnf);(refine zm ?_;conv=>whnf);exact kB hK (by simp [hc])
        |true=>
         (refine zd [] ?_;conv=>whnf);refine zu rfl  (zwc G den ps) ?_;(refine zd [] ?_;conv=>whnf);(refine zm ?_;conv=>whnf);exact kB hK (by rw [hc,decide_eq_true h];rfl)
       ·(refine zm ?_;conv=>whnf)
        exact kB hK (by rw [decide_eq_false h];rfl)
     ·replace hK:∀H',E.K (sB false) H':=by simpa [h5,h18] using hK
      as_aux_lemma=>
       (refine zm ?_;conv=>whnf)
       repeat' ((with_reducible refine way ?_ ?_)<;>(intro h;first|(exfalso;omega)|(conv=>whnf)))
       all_goals try (exfalso;omega)
       all_goals (refine zt mixed rfl ?_;refine zd [] ?_;conv=>whnf)
       all_goals repeat' ((with_reducible refine way ?_ ?_)<;>(intro h;first|(exfalso;omega)|(conv=>whnf)))
       all_goals try (exfalso;omega)
       all_goals (refine zm ?_;conv=>whnf)
       all_goals exact hK _
    |k0::k1::kr=>
     rw [zux,if_neg hbad] at hK
     as_aux_lemma=>
      (refine zm ?_;conv=>whnf)
      repeat' ((with_reducible refine way ?_ ?_)<;>(intro h;first|(exfalso;omega)|(conv=>whnf)))
      all_goals try (exfalso;omega)
      all_goals refine ze rfl  (yoz G op n u den ps k0 k1 kr (by simp at hkl;omega)) ?_
      all_goals (refine zn ?_;conv=>whnf)
      all_goals exact hK _
 ·as_aux_lemma=>
   rintro done k rest _ ha hl h1 ih;have hkm:SizeOf.sizeOf k<SizeOf.sizeOf ks:=List.sizeOf_lt_of_mem (by rw [ha];simp);have hks:xg k<=yr ks:=zgm (by rw [ha];simp);have hw:=zk (n:=done.length) (by omega);have hrow:(zj ks)[((done.length:Nat):Int).toNat]?=some k.cells:=by rw [hrows];simp [ha]
   have hcall:=IH k (by omega) (by omega);simp only [List.all_cons] at h1;obtain ⟨o1,n1,u1,d1,p1,q1⟩:=k;(refine zm ?_;conv=>whnf)
   repeat' ((with_reducible refine way ?_ ?_)<;>(intro h;first|(exfalso;omega)|(conv=>whnf)))
   all_goals try (exfalso;omega)
   (refine zt mixed rfl ?_;refine zd [] ?_;conv=>whnf);refine yc rfl rfl  (row:=(Ex.mk o1 n1 u1 d1 p1 q1).cells) hrow ?_;(refine zd [] ?_;conv=>whnf);refine zu rfl  hcall ?_;cases hb:zes c (.mk o1 n1 u1 d1 p1 q1) with
   |false=>
    (refine zd [] ?_;conv=>whnf);(refine zm ?_;conv=>whnf);exact kB hK (by rw [h1,hb];rfl)
   |true=>
    (refine zd [] ?_;conv=>whnf);(refine zm ?_;conv=>whnf);rw [hw];exact yq [2,3,5] 2 (by simp [hH]) (by simp) rfl rfl (ih () (by rw [h1,hb];rfl))
end Go.Proofs.YtjnddlifnkgncaaGreatDoor