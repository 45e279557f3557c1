/- Contracts of functions of the program, joined from TWb, TSh32, TSh33, TSh34, TSh35, TSh37, TSh38, TSh39, TSh40, TSh41, TSh42, TSh46, TSh47, TSh48, TWc, TSh49, TSh50, TWd, TWe, TWf, TWg, TWh, TWi, TShelf, TWj, TWk, TSh51, TWl, TWm, TWn, TWo, TWp, TFc, TFd, TFe, TFf, TFg, TFh, TFi, TFj, TFk, TFl, TFm, TFn, TFo, TFp, TFq, TFr, TFs, TFt, TFu, TFv, TFw, THa: no condition. -/
import Derived.Test.YtjnddlifnkgncaaGreatDoorCF2
import Derived.Maps.RangeRun
import Derived.Laws.BytesArg
import Derived.Lib.Builder
import Derived.Lib.UnsafeStr
import Derived.Laws.Externs
import Derived.WalkKit
import Derived.ProofKit
import Derived.Lib.Walk
import Derived.Shelf.RegionOpenPlain
import Derived.Shelf.Strings.Builder1
import Derived.Shelf.Small.Bits
import Derived.Shelf.Small.Wraps
import Derived.Shelf.Strconv.Itoa0
import Derived.Shelf.Strconv.Itoa1
import Derived.Shelf.LaysM
import Derived.Shelf.Strconv.Itoa2
import Derived.Shelf.Strconv.Itoa3
import Derived.Shelf.Sort.Plain
import Derived.Shelf.Slices.Turned
import Derived.Ground.Names2Prog
import Derived.Shelf.Slices.Clone
import Derived.Shelf.Slices.CompactI
import Derived.Shelf.Slices.SearchI
import Derived.Shelf.Slices.Cells
import Derived.Shelf.Slices.In.SortNone
import Derived.Test.YtjnddlifnkgncaaGreatDoorProg
import Derived.Lib.LaidTab
import Derived.Lib.ItoaLen
import Derived.Sort.OwnSortedInts
set_option linter.unusedSimpArgs false
set_option linter.unusedVariables false
set_option maxRecDepth 100000
set_option maxHeartbeats 8000000
namespace Go.Proofs.YtjnddlifnkgncaaGreatDoor
open Go Go.Sh
variable (G:List (Nat × D))
abbrev yg (n:Nat):SV:=.imm (.val (.int .u64 n))
def zby (x b:Nat):Nat:=((x ^^^ b)*1099511628211 % 18446744073709551616) ^^^ ((x ^^^ b)*1099511628211 % 18446744073709551616 / 4294967296)
def ybq (x:Nat) (l:List UInt8):Nat:=l.foldl (fun x b=>zby x b.toNat) x
def mix (x k m:Nat):Nat:=(x ^^^ (x / k))*m % 18446744073709551616
def qr (x n:Nat):Nat:=let z:=mix (mix (x ^^^ n) 2147483648 13787848793156543929) 134217728 10723151780598845931;z ^^^ (z / 8589934592)
def qi (s:ByteArray):Nat:=qr (ybq 2611923443488327891 s.data.toList) s.size
theorem yfa {a b:Nat} (ha:a<18446744073709551616) (hb:b<18446744073709551616):a ^^^ b<18446744073709551616:=Nat.xor_lt_two_pow (n:=64) ha hb
theorem yfb (x b:Nat):zby x b<18446744073709551616:=yfa (Nat.mod_lt _ (by decide)) (Nat.lt_of_le_of_lt (Nat.div_le_self _ _) (Nat.mod_lt _ (by decide)))
theorem zxt (x k m:Nat):mix x k m<18446744073709551616:=Nat.mod_lt _ (by decide)
theorem yuj (x n:Nat):qr x n<18446744073709551616:=yfa (zxt _ _ _) (Nat.lt_of_le_of_lt (Nat.div_le_self _ _) (zxt _ _ _))
theorem zab (s:ByteArray):qi s<18446744073709551616:=yuj _ _
theorem yys (a b:Nat):IntKind.u64.wrap ((a:Int)*(b:Int))=((a*b % 18446744073709551616:Nat):Int):=by
 rw [<-Int.natCast_mul,ylj]
theorem ywi (a:Nat) {k:Int} {m:Nat} (hm:2 ^ (min k.toNat IntKind.u64.bits)=m):(a:Int).fdiv (2 ^ min k.toNat IntKind.u64.bits)=((a / m:Nat):Int):=by
 rw [ybp,hm]
theorem ywu (a:Nat):IntKind.u64.wrap ((a:Int)*1099511628211)=((a*1099511628211 % 18446744073709551616:Nat):Int):=yys a 1099511628211
theorem ywv (a:Nat):IntKind.u64.wrap ((a:Int)*13787848793156543929)=((a*13787848793156543929 % 18446744073709551616:Nat):Int):=yys a 13787848793156543929
theorem yww (a:Nat):IntKind.u64.wrap ((a:Int)*10723151780598845931)=((a*10723151780598845931 % 18446744073709551616:Nat):Int):=yys a 10723151780598845931
theorem yzl (a:Nat):(a:Int).fdiv (2 ^ min (Int.toNat 31) IntKind.u64.bits)=((a / 2147483648:Nat):Int):=ywi a rfl
theorem yzm (a:Nat):(a:Int).fdiv (2 ^ min (Int.toNat 27) IntKind.u64.bits)=((a / 134217728:Nat):Int):=ywi a rfl
theorem yzn (a:Nat):(a:Int).fdiv (2 ^ min (Int.toNat 32) IntKind.u64.bits)=((a / 4294967296:Nat):Int):=ywi a rfl
theorem yzo (a:Nat):(a:Int).fdiv (2 ^ min (Int.toNat 33) IntKind.u64.bits)=((a / 8589934592:Nat):Int):=ywi a rfl
theorem zgw {a:Nat} (k:Nat) (h:a<18446744073709551616):a / k<18446744073709551616:=Nat.lt_of_le_of_lt (Nat.div_le_self _ _) h
theorem ywx {a:Nat} (h:a<18446744073709551616):IntKind.u64.wrap ((BitVec.ofInt IntKind.u64.bits (a:Int) ^^^ BitVec.ofInt IntKind.u64.bits ((a / 2147483648:Nat):Int)).toNat:Int)=((a ^^^ (a / 2147483648):Nat):Int):=ypi h (zgw _ h)
theorem ywy {a:Nat} (h:a<18446744073709551616):IntKind.u64.wrap ((BitVec.ofInt IntKind.u64.bits (a:Int) ^^^ BitVec.ofInt IntKind.u64.bits ((a / 134217728:Nat):Int)).toNat:Int)=((a ^^^ (a / 134217728):Nat):Int):=ypi h (zgw _ h)
theorem zgx (s:ByteArray) (hs:s.size<=9223372036854775807):zq Tryz.prog G 97 [sS s] (yg (qi s)):=by
 have hl:=zkm s;refine zh Tryz.func97 rfl (by rw [Tryz.ntmps97];simp) rfl rfl ?_;intro E hH hK;(refine ze ?_;conv=>whnf);refine zg [0,3,6,7] ?_;change SW E _ [(0,sS s),(3,yg 2611923443488327891),(6,sI s.size),(7,sI (0:Nat))] [];unfold qi at hK;have hz:2611923443488327891<18446744073709551616:=by decide
 generalize (2611923443488327891:Nat)=z0 at hK hz ⊢;refine Eq.mpr (congrArg (fun n:Nat=>SW E _ [(0,sS s),(3,yg z0),(6,sI n),(7,sI (0:Nat))] []) hl.symm) ?_;refine zp s.data.toList (fun i x=>[(0,sS s),(3,yg x),(6,sI s.data.toList.length),(7,sI i)]) (fun _ _=>[]) (fun _ rest x=>x<18446744073709551616/\ybq z0 s.data.toList=ybq x rest) z0 ⟨hz,rfl⟩ ?_ ?_
 ·rintro x ⟨h1,h2⟩
  have h2:ybq z0 s.data.toList=x:=h2;rw [h2] at hK;have hsz:s.size<18446744073709551616:=by omega
  have hx:=yfa h1 hsz;(refine ze ?_;conv=>whnf)
  repeat' ((with_reducible refine way ?_ ?_)<;>(intro h;conv=>whnf))
  all_goals try (exfalso;omega)
  refine Eq.mpr (congrArg (fun a:Int=>E.K (.imm (.val (.int .u64 a))) []) ?_) (hK []);rw [yhu hsz,ypi h1 hsz,yzl,ywx hx,ywv,yzm,ywy (Nat.mod_lt _ (by decide)),yww,yzo,ypi (Nat.mod_lt _ (by decide)) (zgw _ (Nat.mod_lt _ (by decide)))];rfl
 ·rintro done b rest x hda hdl ⟨h1,h2⟩ ih
  have hw:=zk (n:=done.length) (by omega);have hget:s.data.toList[done.length]?=some b:=by rw [hda];simp
  have hb:b.toNat<18446744073709551616:=Nat.lt_trans b.toNat_lt (by decide);have hnext:=ih (zby x b.toNat) ⟨yfb _ _,h2⟩;(refine ze ?_;conv=>whnf)
  repeat' ((with_reducible refine way ?_ ?_)<;>(intro h;conv=>whnf))
  all_goals try (exfalso;omega)
  refine zbm rfl rfl rfl rfl rfl rfl  hget ?_;(refine zc ?_;conv=>whnf);rw [yhu hb,ypi h1 hb,ywu,yzn,ypi (Nat.mod_lt _ (by decide)) (zgw _ (Nat.mod_lt _ (by decide))),hw];exact zg [0,3,6,7] hnext
end Go.Proofs.YtjnddlifnkgncaaGreatDoor
namespace Go.Sh
section
variable {P:Program} {G:List (Nat × D)} {fn:Func} {rd:Bool} {E:En P G fn rd} {t:List (Nat × SV)} {K:List SObj} {k:List Item} {m:Nat} {all:Array Oper} {rest:List Oper} {done:List Eff} {o:Oper}
theorem yqn {α:Type} {ty kt et b:Nat} {x ix:Operand} {kk:IntKind} {i:Int} {l:List (Int × α)} (f:α->SV) {vx:Operand} (v:α) (hop:o.op= .mapUpdate ty x ix vx) (hw:zu all t o.guard=some true) (hd:yb fn.ntmps o.dst=true)
  (hx:zl G t x= .map b) (hi:zl G t ix= .imm (.val (.int kk i))) (hv:zl G t vx=f v) (hu:P.underlying ty=some (.map kt et)) (hk:P.underlying kt=some (.int kk))
  (hm:m<=K.length) (hb:K[b]?=some (.mapI kk (jo f l)))
  (h:SWe E m all rest k (xj t o.dst .any) (K.set b (.mapI kk (jo f (zcz i v l)))) (done++[⟨.any,[b],some (b,.mapI kk (jo f (zcz i v l)))⟩])):SWe E m all (o::rest) k t K done:=
 zaf ⟨.any,[b],some (b,.mapI kk (jo f (zcz i v l)))⟩ hw hd hm (fun K' _ hag=>by
  have hb':K'[b]?=some (.mapI kk (jo f l)):=by rw [hag b (.inl (by simp))];exact hb
  rw [hop]
  simp [sop,zgo,hu,hk,hx,hi,hb',hv,yeu,zfl]) h
variable {H:List SObj}
theorem zeu (b0 j kk:Nat) {cs:List SV} (hb:H[b0]?=some (.cells cs)) (hj:cs[j]?=some (.imm (.val (.slice none 0 0)))) (h:SW E k t (H.set b0 (.cells (cs.set j (.asl H.length kk [])))++[.tok kk 0])):SW E k t H:=by
 refine ⟨fun a w I β cs' hs=>?_⟩;have hbl:=lt_of_getElem? hb;have hp:=hs.heap.push (o:=.tok kk 0) (x:=.tok (.slice none 0 0)) (.inl ⟨rfl,rfl⟩) (fun b c hc=>by cases hc);have he:Ext H.length w I β H w I (β++[.tok (.slice none 0 0)]) (H++[.tok kk 0]):=.push hs.heap (fun c hc=>by cases hc);obtain ⟨x,hx⟩:∃x,β[b0]?=some x:=⟨β[b0]'(by rw [hs.heap.len];exact hbl),List.getElem?_eq_getElem _⟩;have hob:=hp.obj b0 (.cells cs) x (by rw [List.getElem?_append_left hbl];exact hb) (by rw [List.getElem?_append_left (lt_of_getElem? hx)];exact hx);cases x with
 |tok u=>exact hob.elim
 |blk c=>
 obtain ⟨vs,T,a1,a2,a3,a4⟩:=hob;have hnew:ObjOK w I (β++[.tok (.slice none 0 0)]) (.cells (cs.set j (.asl H.length kk []))) (.blk c):=by
  refine ⟨vs,T,a1,by simpa using a2,fun q hq hq'=>?_,a4⟩
  by_cases e:j=q
  ·subst e
   have hq2:j<cs.length:=by simpa using hq
   have hr:=a3 j hq2 hq';have:cs[j]= .imm (.val (.slice none 0 0)):=by simpa [List.getElem?_eq_getElem hq2] using hj
   rw [this] at hr;simp only [List.getElem_set_self];generalize vs[j]=v at hr;cases hr with|imm hr=>
   cases hr with|val _=>
   exact .asl H.length kk [] _ _ 0 (.islNil kk) (by rw [<-hs.heap.len];simp) ⟨_,_,rfl⟩ (Nat.le_refl _) (fun _=>rfl)
  ·rw [List.getElem_set_ne e]
   exact a3 q (by simpa using hq) hq'
 obtain ⟨g1,g2⟩:=hp.changeB (m:=H.length) (w':=w) (b:=b0) (o:=.cells cs) (o':=.cells (cs.set j (.asl H.length kk []))) (x:=.blk c) (by rw [List.getElem?_append_left hbl];exact hb) (by simp) (by rw [List.getElem?_append_left (lt_of_getElem? hx)];exact hx) rfl (fun _ _=>rfl) rfl a4 hnew;rw [List.set_append_left _ _ hbl] at g1 g2;have hE:=he.trans g2;exact h.run a w I _ cs' ⟨g1,fun n=>(hs.tmps n).ext (by rw [hs.heap.len];exact hE),hs.size,hs.defers.ext hE,hs.ext.trans (hE.weaken hs.hlen),by have:=hs.hlen;simp;omega⟩
end
section
variable {P:Program} {G:List (Nat × D)} {fn:Func} {rd:Bool} {E:En P G fn rd} {t:List (Nat × SV)} {H K:List SObj} {k:List Item} {m:Nat} {all:Array Oper} {rest:List Oper} {done:List Eff} {o:Oper}
def yqo (P:Program) (G:List (Nat × D)) (t:List (Nat × SV)) (o:Oper) (r:SV):Prop:=
 ∀(ρ:Operand->Value) w I β,(∀x∈o.op.operands,Rep w I β (ρ x) (zl G t x))->∃v,(execOp ρ o).run P w= .ok (.value v) w/\Rep w I β v r
theorem yuk {r:SV} (hw:zu all t o.guard=some true) (hd:yb fn.ntmps o.dst=true) (hsem:yqo P G t o r)
  (h:SWe E m all rest k (xj t o.dst r) K (done++[⟨r,[],none⟩])):SWe E m all (o::rest) k t K done:=
 zei (e:=⟨r,[],none⟩) ⟨hd,.inr ⟨hw,fun K' hl ha ρ w I β hH hdum hop=>by
  obtain ⟨v,h1,h2⟩:=hsem ρ w I β hop
  exact .inl ⟨.value v,v,w,I,β,h1,.inl rfl,h2,⟨hH,.refl,fun b y hb hy hne=>⟨y,hy,y.le_refl⟩,fun b hb _=>hb⟩⟩⟩⟩ h
theorem ybr {r:SV} (hw:zu all t o.guard=some true) (hd:yb fn.ntmps o.dst=true) (hnd:∀c,o.op≠ .defer c) (hsem:yqo P G t o r)
  (h:SWr E all rest k (xj t o.dst r) H):SWr E all (o::rest) k t H:=
 qq hw hd hnd (Nat.le_refl _) (fun ρ w I β hH hev=>by
  obtain ⟨v,h1,h2⟩:=hsem ρ w I β (fun x _=>hev x)
  exact ⟨.value v,v,w,I,β,h1,.inl rfl,h2,hH,.refl⟩) h
end
section
variable {P:Program} {G:List (Nat × D)} {fn:Func} {rd:Bool} {E:En P G fn rd} {t:List (Nat × SV)} {H K:List SObj} {k:List Item} {m:Nat} {all:Array Oper} {rest:List Oper} {done:List Eff} {o:Oper}
theorem zev {b kk by_ e e':Nat} {z:Value} {sx xx:Operand} {sT xT:Nat} {rows new:List (List D)} (hop:o.op= .call ⟨.builtin .append,#[sx,xx],#[sT,xT]⟩)
  (hw:zu all t o.guard=some true) (hd:yb fn.ntmps o.dst=true) (hs:zl G t sx= .asl b kk rows) (hx:(zl G t xx).rows=some (kk,new)) (hu:P.underlying sT=some (.slice e)) (hu':P.underlying xT=some (.slice e'))
  (hk:xe P e=some kk) (hby:js P e=some by_) (hz:jx P e=some z) (hcond:by_<=65536/\z.cells.size=kk) (hm:m<=K.length) (hb:K[b]?=some (.tok kk rows.length)) (hlen:rows.length+new.length<=1073741824)
  (h:SWe E m all rest k (xj t o.dst (.asl b kk (rows++new))) (K.set b (.tok kk (rows++new).length)) (done++[⟨.asl b kk (rows++new),[b],some (b,.tok kk (rows++new).length)⟩])):SWe E m all (o::rest) k t K done:=
 zaf ⟨.asl b kk (rows++new),[b],some (b,.tok kk (rows++new).length)⟩ hw hd hm (fun K' _ ha=>by
  have hb':K'[b]?=some (.tok kk rows.length):=by rw [ha b (.inl (by simp))];exact hb
  rw [hop,List.length_append];simp only [sop,zfg,List.map_cons,List.map_nil,zln,hu,hu',hx,hk,hby,hz];rw [if_pos ⟨hcond.1,hcond.2,.inl trivial⟩];simp only [zdf,hs,hb'];rw [if_pos ⟨trivial,trivial,trivial,hlen⟩]
  rfl) h
theorem yqp {Q:SV->Prop} (hw:zu all t o.guard=some true) (hd:yb fn.ntmps o.dst=true) (hnd:∀c,o.op≠ .defer c)
  (hrun:∀(ρ:Operand->Value) w I β,HeapOK G w I β H->(∀x,Rep w I β (ρ x) (zl G t x))->∃r,Q r/\OpRun P G (execOp ρ o) w I β H r H)
  (h:∀r,Q r->SWr E all rest k (xj t o.dst r) H):SWr E all (o::rest) k t H:=by
 refine ⟨fun j hj hdrop=>?_⟩;obtain ⟨h1,ho,h3⟩:=xy hdrop;rw [zao h1];refine ⟨fun a w I β cs hsim=>?_⟩;have hwant:=qv hw hsim;obtain ⟨r,hq,n,v,w',I',β',g1,g2,g3,g4,g5⟩:=hrun a.eval w I β hsim.heap hsim.eval;have hg:=jt (P:=P) (b:=E.base) (ro:=E.ro) (k:=k) (cs:=cs) (w:=w) (rest:=(List.range all.size).drop (j+1)) ho hwant (.inr hnd);have qr:∀v,(E.at a (.inRegion all (j::(List.range all.size).drop (j+1))::k)).finish v=E.at (a.put o.dst v) (.inRegion all ((List.range all.size).drop (j+1))::k):=by
  intro v;unfold En.at;rw [qm,ho];rfl
 have zby:step P (lone (E.at a (.inRegion all (j::(List.range all.size).drop (j+1))::k)) cs w)= .next (lone (E.at (a.put o.dst v) (.inRegion all ((List.range all.size).drop (j+1))::k)) cs w'):=by
  refine step_lone_go ?_;rw [<-qr];unfold En.at;rw [hg];rcases g2 with rfl|⟨rfl,rfl⟩<;>simp [stepG.apply,g1]
 exact .of_steps (.one zby) (((h r hq).run (j+1) h1 h3).run _ w' I' β' cs (hsim.put hd g3 g4 g5 (Nat.le_refl _)))
theorem ylm {ty ty' e kk:Nat} {x y:Operand} {rows:List (List D)} (hop:o.op= .binOp .eql ty x y ty') (hw:zu all t o.guard=some true) (hd:yb fn.ntmps o.dst=true)
  (hx:zl G t x= .imm (.isl kk rows)) (hy:zl G t y= .imm (.val (.slice none 0 0))) (hu:P.underlying ty=some (.slice e))
  (h1:rows=[]->SWr E all rest k (xj t o.dst (.imm (.val (.bool true)))) H) (h2:SWr E all rest k (xj t o.dst (.imm (.val (.bool false)))) H):SWr E all (o::rest) k t H:=by
 refine yqp (Q:=fun r=>(rows=[]/\r= .imm (.val (.bool true)))\/r= .imm (.val (.bool false))) hw hd (fun c e=>by rw [hop] at e;cases e) (fun ρ w I β hH hev=>?_) (fun r hq=>?_)
 ·have hrx:=hev x
  rw [hx] at hrx;have hry:=hev y;rw [hy] at hry;obtain ⟨dst,op,type,pos,after,guard⟩:=o;simp only at hop;subst hop;have ey:ρ y= .slice none 0 0:=by
   generalize ρ y=v at hry;cases hry with|imm hr=>cases hr;rfl
  have key:∀(a:Option Addr) (l c:Nat),ρ x= .slice a l c->(a=none->rows=[])->∃r,((rows=[]/\r=SV.imm (.val (.bool true)))\/r= .imm (.val (.bool false)))/\OpRun P G (execOp ρ ⟨dst,.binOp .eql ty x y ty',type,pos,after,guard⟩) w I β H r H:=by
   intro a l c hv ha;refine ⟨.imm (.val (.bool a.isNone)),?_,?_⟩
   ·cases a with
    |none=>exact .inl ⟨ha rfl,rfl⟩
    |some a=>exact .inr rfl
   ·refine OpRun.same (v:=.bool a.isNone) ?_ (.imm (.val _)) hH
    rw [hv,ey];have hgd:(eqGuard .eql ty x y (.slice a l c) (.slice none 0 0)).run P w= .ok () w:=by simp [eqGuard]
    have heq:(Op.equal ty (.slice a l c) (.slice none 0 0)).run P w= .ok a.isNone w:=by
     show (Op.equalIn (9999+1) ty _ _).run P w=_;generalize 9999=n;rw [Op.equalIn];simp only [Sem.run_bind,run_underlying hu,Result.andThen_ok];cases a<;>simp
    simp only [Sem.run_bind,hgd,Result.andThen_ok,binOp,heq,Sem.run_pure]
  generalize ρ x=v at hrx key;cases hrx with
  |imm hr=>
   cases hr with
   |islNil=>exact key none 0 0 rfl (fun _=>rfl)
   |islEmpty a=>exact key (some a) 0 0 rfl (fun h=>by cases h)
   |isl b o' cap _ _ V q1 q2 q3 q4 q5=>exact key _ _ _ rfl (fun h=>by cases h)
 ·rcases hq with ⟨e0,rfl⟩|rfl
  ·exact h1 e0
  ·exact h2
end
section
variable {P:Program} {G:List (Nat × D)} {fn:Func} {rd:Bool} {E:En P G fn rd} {t:List (Nat × SV)} {H K:List SObj} {k:List Item} {m:Nat} {all:Array Oper} {rest:List Oper} {done:List Eff} {o:Oper}
theorem wh {ty b off:Nat} {a:Operand} {cs:List SV} {v:SV} (hop:o.op= .load ty a) (hw:zu all t o.guard=some true) (hd:yb fn.ntmps o.dst=true) (ha:zl G t a= .ptr b off) (hb:H[b]?=some (.cells cs))
  (hv:ziz P ty cs off=some v) (h:SWr E all rest k (xj t o.dst v) H):SWr E all (o::rest) k t H:=by
 refine qy hw hd (r:=v) ?_ (Nat.le_refl _) h;rw [hop];have:zaz P ty H (.ptr b off)=some v:=by
  unfold zaz;simp only [hb,hv]
 simp only [sop,ha,this];rfl
end
section
variable {P:Program} {G:List (Nat × D)} {fn:Func} {rd:Bool} {E:En P G fn rd} {t:List (Nat × SV)} {H:List SObj} {k:List Item} {all:Array Oper} {rest:List Oper} {o:Oper}
def yzp (P:Program) (ty:TypeId) (name:String):Option FuncId:=
 match P.info? ty with
 |some i=>match i.methods.find? (·.name==name) with
  |some m=>match m.path.toList,m.func,P.underlying ty with
   |[],some (f,false),some (.struct _)=>some f
   |_,_,_=>none
  |none=>none
 |none=>none
def SV.asD:SV->Option D
 | .imm d=>some d
 | .agg cs=>(asDL cs).map .agg
 | .iface t s=>s.asD.map (.iface t)
 |_=>none
where asDL:List SV->Option (List D)
 |[]=>some []
 |s::r=>match s.asD,asDL r with
  |some d,some l=>some (d::l)
  |_,_=>none
theorem yfc:∀{cs:List SV} {ds:List D},SV.asD.asDL cs=some ds->ds.length=cs.length/\∀j (h:j<cs.length) (h':j<ds.length),(cs[j]'h).asD=some (ds[j]'h')
 |[],ds,h=>by simp [SV.asD.asDL] at h;subst h;simp
 |s::r,ds,h=>by
  simp only [SV.asD.asDL] at h;split at h<;>first|(cases h;done)|skip
  rename_i d l hd hl
  cases h;obtain ⟨h1,h2⟩:=yfc hl;refine ⟨by simp [h1],fun j hj hj'=>?_⟩;cases j with
  |zero=>exact hd
  |succ j=>exact h2 j (by simpa using hj) (by simpa using hj')
theorem Rep.asD {w:World} {I:Imm} {β:List Bnd} {v:Value} {s:SV} (h:Rep w I β v s):∀{d:D},s.asD=some d->DRep w I v d:=by
 induction h with
 |imm h=>intro d hd;simp [SV.asD] at hd;subst hd;exact h
 |iface t v s _ ih=>
  intro d hd;simp only [SV.asD,Option.map_eq_some_iff] at hd;obtain ⟨d',h1,rfl⟩:=hd;exact .iface t v d' (ih h1)
 |agg vs cs h1 _ ih=>
  intro d hd;simp only [SV.asD,Option.map_eq_some_iff] at hd;obtain ⟨ds,h2,rfl⟩:=hd;obtain ⟨h3,h4⟩:=yfc h2;exact .agg vs ds (by omega) (fun j hj hj'=>ih j (by omega) hj' (h4 j (by omega) hj))
 |_=>intro d hd;simp [SV.asD] at hd
theorem yln {ty:TypeId} {x:Operand} {fs:Array Field} {d:D} (hop:o.op= .makeInterface ty x) (hw:zu all t o.guard=some true) (hd:yb fn.ntmps o.dst=true) (hu:P.underlying ty=some (.struct fs)) (hx:(zl G t x).asD=some d)
  (h:SWr E all rest k (xj t o.dst (.imm (.iface ty d))) H):SWr E all (o::rest) k t H:=by
 refine ybr hw hd (fun c e=>by rw [hop] at e;cases e) (fun ρ w I β hev=>?_) h;have hr:=hev x (by rw [hop];simp [Op.operands]);obtain ⟨dst,op,type,pos,after,guard⟩:=o;simp only at hop;subst hop;refine ⟨.iface ty (ρ x),?_,.imm (.iface ty _ d (hr.asD hx))⟩;simp [execOp,Instr.makeInterface,run_underlying hu]
theorem zxu {σ:Type} {b:Nat} {ob:SObj} (hb:H[b]?=some ob) (hd:ob≠ .dead) (f:σ->SObj) (hfd:∀s,f s≠ .dead) (Q:σ->Prop) (hf:∀w I β x,ObjOK w I β ob x->∃s,Q s/\ObjOK w I β (f s) x)
  (h:∀s,Q s->SW E k t (H.set b (f s))):SW E k t H:=by
 refine ⟨fun a w I β cs hs=>?_⟩;have hblt:=lt_of_getElem? hb;have hblt':b<β.length:=by rw [hs.heap.len];exact hblt
 obtain ⟨s,hq,hok⟩:=hf w I β _ (hs.heap.obj b ob _ hb (List.getElem?_eq_getElem hblt'));have key:∀b' c',wv (H.set b (f s)) β b' c'->wv H β b' c':=by
  rintro b' c' ⟨p,x,h1,h2,h3,h4⟩
  by_cases e:b'=b
  ·subst e;exact ⟨ob,x,hb,hd,h3,h4⟩
  ·rw [List.getElem?_set_ne (Ne.symm e)] at h1;exact ⟨p,x,h1,h2,h3,h4⟩
 have hheap:HeapOK G w I β (H.set b (f s)):=by
  refine ⟨by simp [hs.heap.len],fun b' p x h1 h2=>?_,fun b1 b2 c h1 h2=>hs.heap.inj b1 b2 c (key b1 c h1) (key b2 c h2),hs.heap.inI,hs.heap.glob⟩
  by_cases e:b'=b
  ·subst e
   rw [List.getElem?_set_self hblt] at h1;cases h1;rw [List.getElem?_eq_getElem hblt'] at h2;cases h2;exact hok
  ·rw [List.getElem?_set_ne (Ne.symm e)] at h1
   exact hs.heap.obj b' p x h1 h2
 have he:∀m,Ext m w I β H w I β (H.set b (f s)):=fun m=>
  {imm:=fun _ _ h=>h,cell:=fun _ _ _=>rfl,keep:=.refl _ _,old:=fun _ _ _=>rfl,own:=fun b' c' h=>.inl ⟨b',key b' c' h⟩,new:=fun _ _ h=>.inl h,size:=Nat.le_refl _,env:=⟨rfl,rfl⟩}
 exact (h s hq).run a w I β cs ⟨hheap,hs.tmps,hs.size,hs.defers.ext (he 0),hs.ext.trans (he _),by simpa using hs.hlen⟩
def ybs (es:List (Nat × Int × SV)) (clock:Nat):Prop:=(es.map (·.1)).Nodup/\∀e∈es,e.1<clock
theorem ywz {b:Nat} {kk:IntKind} {es:List (Int × SV)} (hb:H[b]?=some (.mapI kk es))
  (h:∀es' clock,es'.map (·.2)=es->ybs es' clock->SW E k t (H.set b (.pin kk es' clock))):SW E k t H:=by
 refine zxu (σ:=List (Nat × Int × SV) × Nat) hb (by simp) (fun s=>.pin kk s.1 s.2) (by simp) (fun s=>s.1.map (·.2)=es/\ybs s.1 s.2) (fun w I β x hx=>?_) (fun s hs=>h s.1 s.2 hs.1 hs.2);cases x with
 |tok u=>exact hx.elim
 |blk c=>
  obtain ⟨ents,clock,h1,h2,h3,h4,h5⟩:=hx;have hlz:(List.zipWith (fun (e:MapEntry) (x:Int × SV)=>(e.born,x.1,x.2)) ents.toList es).length=es.length:=by simp;omega
  refine ⟨(List.zipWith (fun e x=>(e.born,x.1,x.2)) ents.toList es,clock),⟨?_,?_,?_⟩,ents,h1,by rw [hlz];exact h2,fun j hj hj'=>?_,h4,h5⟩
  ·refine List.ext_getElem (by simp;omega) fun j a b=>by simp
  ·have e:(List.zipWith (fun (e:MapEntry) (x:Int × SV)=>(e.born,x.1,x.2)) ents.toList es).map (·.1)=ents.toList.map (·.born):=by
    refine List.ext_getElem (by simp;omega) fun j a b=>by simp
   rw [e];exact h5.1
  ·intro e he
   obtain ⟨j,hj,rfl⟩:=List.mem_iff_getElem.1 he;simp only [List.getElem_zipWith];exact h5.2 _ (List.getElem_mem _)
  ·have:=h3 j (by omega) hj'
   simp only [List.getElem_zipWith,Array.getElem_toList];exact ⟨trivial,this.1,this.2⟩
theorem ylo {K:SV->List SObj->Prop} (hw:zu all t o.guard=some true) (hd:yb fn.ntmps o.dst=true) (hnd:∀c,o.op≠ .defer c)
  (hrun:∀(ρ:Operand->Value) w I β,HeapOK G w I β H->(∀x,Rep w I β (ρ x) (zl G t x))->∃r H',K r H'/\OpRun P G (execOp ρ o) w I β H r H')
  (h:∀r H',K r H'->H.length<=H'.length/\SWr E all rest k (xj t o.dst r) H'):SWr E all (o::rest) k t H:=by
 refine ⟨fun j hj hdrop=>?_⟩;have hdrop':=hdrop;obtain ⟨h1,ho,h3⟩:=xy hdrop;refine ⟨fun a w I β cs hsim=>?_⟩;obtain ⟨r,H',hK,hop⟩:=hrun a.eval w I β hsim.heap hsim.eval;have hwant:=qv hw hsim;obtain ⟨n,v,w',I',β',g1,g2,g3,g4,g5⟩:=hop;rw [zao h1];have hg:=jt (P:=P) (b:=E.base) (ro:=E.ro) (k:=k) (cs:=cs) (w:=w) (rest:=(List.range all.size).drop (j+1)) ho hwant (.inr hnd);have qr:∀v,(E.at a (.inRegion all (j::(List.range all.size).drop (j+1))::k)).finish v=E.at (a.put o.dst v) (.inRegion all ((List.range all.size).drop (j+1))::k):=by
  intro v;unfold En.at;rw [qm,ho];rfl
 have zby:step P (lone (E.at a (.inRegion all (j::(List.range all.size).drop (j+1))::k)) cs w)= .next (lone (E.at (a.put o.dst v) (.inRegion all ((List.range all.size).drop (j+1))::k)) cs w'):=by
  refine step_lone_go ?_;rw [<-qr];unfold En.at;rw [hg];rcases g2 with rfl|⟨rfl,rfl⟩<;>simp [stepG.apply,g1]
 obtain ⟨hl,hsw⟩:=h r H' hK;exact .of_steps (.one zby) ((hsw.run (j+1) h1 h3).run _ w' I' β' cs (hsim.put hd g3 g4 g5 hl))
theorem ylp {ty kt et:TypeId} {x:Operand} {b:Nat} {kk:IntKind} {es:List (Nat × Int × SV)} {clock:Nat} (hop:o.op= .range ty x) (hw:zu all t o.guard=some true) (hd:yb fn.ntmps o.dst=true)
  (hu:P.underlying ty=some (.map kt et)) (hx:zl G t x= .map b) (hb:H[b]?=some (.pin kk es clock))
  (h:SWr E all rest k (xj t o.dst (.ptr H.length 0)) (H++[.iter b clock [] clock])):SWr E all (o::rest) k t H:=by
 refine qq hw hd (fun c e=>by rw [hop] at e;cases e) (by simp) (fun ρ w I β hH hev=>?_) h;have hr:=hev x;rw [hx] at hr;obtain ⟨dst,op,type,pos,after,guard⟩:=o;simp only at hop;subst hop;generalize hv:ρ x=v at hr;cases hr with
 |map _ c hc=>
 obtain ⟨ents,h1,h2,h3,h4,h5⟩:=hH.obj _ _ _ hb hc;have hal:=hH.alloc (m:=H.length) (o:=.iter b clock [] clock) (ob:=.mapIter (some c) clock #[] clock) ⟨c,yax hc,yq _,fun o hi=>by have:=hH.inI _ o hi;omega⟩;refine ⟨.value (.pointer (some ⟨w.heap.size,0,none⟩)),_,w.alloc (.mapIter (some c) clock #[] clock),I,_,?_,.inl rfl,.ptr _ w.heap.size 0 (by rw [<-hH.len];simp),hal.1,hal.2⟩;simp [execOp,Instr.range,run_underlying hu,hv,qu h1]
end
section
variable {P:Program} {G:List (Nat × D)} {fn:Func} {rd:Bool} {E:En P G fn rd} {t:List (Nat × SV)} {H:List SObj} {k:List Item} {all:Array Oper} {rest:List Oper} {o:Oper}
def zdl (es:List (Nat × Int × SV)) (seen:List Nat):List (Nat × Int × SV):=es.filter fun e=> !seen.contains e.1
theorem ylq (es:List (Nat × Int × SV)):zdl es []=es:=by simp [zdl]
theorem yhv {es:List (Nat × Int × SV)} {seen:List Nat} {e:Nat × Int × SV} (hn:(es.map (·.1)).Nodup) (he:e∈zdl es seen):(zdl es seen).Perm (e::zdl es (seen++[e.1])):=by
 induction es with
 |nil=>simp [zdl] at he
 |cons x l ih=>
  simp only [List.map_cons,List.nodup_cons] at hn;have hx:∀y∈l,y.1≠x.1:=fun y hy e1=>hn.1 (by rw [<-e1];exact List.mem_map_of_mem hy)
  have zby:∀s,zdl (x::l) s=if s.contains x.1 then zdl l s else x::zdl l s:=fun s=>by
   simp only [zdl,List.filter_cons];cases s.contains x.1<;>simp
  rw [zby,zby];rw [zby] at he
  by_cases hs:seen.contains x.1=true
  ·rw [if_pos hs] at he ⊢
   rw [if_pos (by simp at hs ⊢;exact .inl hs)];exact ih hn.2 he
  ·rw [if_neg hs] at he ⊢
   rcases List.mem_cons.1 he with rfl|he
   ·rw [if_pos (by simp)]
    refine List.Perm.cons _ ?_;have:zdl l seen=zdl l (seen++[e.1]):=by
     unfold zdl;refine List.filter_congr fun y hy=>?_
     have:=hx y hy;simp [this]
    rw [<-this]
   ·have hne:e.1≠x.1:=hx e (List.mem_filter.1 he).1
    rw [if_neg (by simp at hs ⊢;exact ⟨hs,fun h=>hne h.symm⟩)];exact (List.Perm.cons x (ih hn.2 he)).trans (List.Perm.swap _ _ _)
theorem zxv {es:List (Nat × Int × SV)} {seen:List Nat} {e:Nat × Int × SV} (he:e∈zdl es seen):e∈es:=(List.mem_filter.1 he).1
section
variable {w:World} {I:Imm} {β:List Bnd}
open Go.ChangeMaps (setBlock)
theorem zxw (hH:HeapOK G w I β H) {bi b c cm since last:Nat} {seen:List Nat} (hbi:H[bi]?=some (.iter b since seen last)) (hc:β[bi]?=some (.blk c)) (hcm:β[b]?=some (.blk cm)) {w1:World} (hw1:w1=w\/w1=w.drew) (seen':List Nat) (last':Nat):
  HeapOK G (setBlock w1 c (.mapIter (some cm) since seen'.toArray last')) I β (H.set bi (.iter b since seen' last'))/\Ext H.length w I β H (setBlock w1 c (.mapIter (some cm) since seen'.toArray last')) I β (H.set bi (.iter b since seen' last')):=by
 obtain ⟨cm',g1,g2,g3⟩:=hH.obj _ _ _ hbi hc;have hheap:w1.heap=w.heap:=by rcases hw1 with rfl|rfl<;>rfl
 have hlt:=xw g2;refine hH.change hbi (by simp) hc (fun c' hne=>?_) (by simp [setBlock,hheap]) g3 ⟨cm,hcm,?_,g3⟩ ⟨?_,?_⟩
 ·simp [setBlock,hheap,Ne.symm hne]
 ·simp [setBlock,hheap,hlt]
 ·rcases hw1 with rfl|rfl<;>rfl
 ·rcases hw1 with rfl|rfl<;>rfl
end
open Go.ChangeMaps (setBlock)
theorem ylr {w:World} {I:Imm} {β:List Bnd} {kk:IntKind} {es:List (Nat × Int × SV)} {ents:Array MapEntry} (h2:ents.size=es.length)
  (h3:∀j (h:j<es.length) (h':j<ents.size),(ents[j]'h').born=(es[j]'h).1/\(ents[j]'h').key= .int kk (es[j]'h).2.1/\Rep w I β (ents[j]'h').val (es[j]'h).2.2) (seen:List Nat):
  ((leftOf ents seen.toArray).size=0 ↔ zdl es seen=[])/\∀e∈(leftOf ents seen.toArray).toList,e∈ents.toList/\∃x∈zdl es seen,e.born=x.1/\e.key= .int kk x.2.1/\Rep w I β e.val x.2.2:=by
 have hmem:∀e∈(leftOf ents seen.toArray).toList,e∈ents.toList/\∃x∈zdl es seen,e.born=x.1/\e.key= .int kk x.2.1/\Rep w I β e.val x.2.2:=by
  intro e he;simp only [leftOf,Array.toList_filter,List.mem_filter] at he;obtain ⟨he,hs⟩:=he;refine ⟨he,?_⟩;obtain ⟨j,hj,rfl⟩:=List.mem_iff_getElem.1 he;have hj':j<ents.size:=by simpa using hj
  obtain ⟨a1,a2,a3⟩:=h3 j (by omega) hj';refine ⟨es[j]'(by omega),List.mem_filter.2 ⟨List.getElem_mem _,?_⟩,by simpa using a1,by simpa using a2,by simpa using a3⟩;rw [<-a1];simpa using hs
 refine ⟨⟨fun h0=>?_,fun h0=>?_⟩,hmem⟩
 ·refine List.filter_eq_nil_iff.2 fun x hx=>?_
  obtain ⟨j,hj,rfl⟩:=List.mem_iff_getElem.1 hx;obtain ⟨a1,a2,a3⟩:=h3 j hj (by omega);have hnil:(leftOf ents seen.toArray).toList=[]:=by
   apply List.eq_nil_of_length_eq_zero;simpa using h0
  simp only [leftOf,Array.toList_filter] at hnil;have:=List.filter_eq_nil_iff.1 hnil (ents[j]'(by omega)) (by simp);rw [a1] at this;simpa using this
 ·rcases Nat.eq_zero_or_pos (leftOf ents seen.toArray).size with h|h
  ·exact h
  ·have hm:(leftOf ents seen.toArray)[0]∈(leftOf ents seen.toArray).toList:=by simp
   obtain ⟨_,x,hx,_⟩:=hmem _ hm;rw [h0] at hx;cases hx
theorem yqq {it:Operand} {bi b since last clock:Nat} {seen:List Nat} {kk:IntKind} {es:List (Nat × Int × SV)} (hop:o.op= .next it false) (hw:zu all t o.guard=some true) (hd:yb fn.ntmps o.dst=true)
  (hx:zl G t it= .ptr bi 0) (hbi:H[bi]?=some (.iter b since seen last)) (hb:H[b]?=some (.pin kk es clock)) (hs:ybs es since) (hsl:since<=last)
  (h0:zdl es seen=[]->SWr E all rest k (xj t o.dst (.tup [.imm (.val (.bool false))])) H)
  (h1:∀e∈zdl es seen,SWr E all rest k (xj t o.dst (.tup [.imm (.val (.bool true)),.imm (.val (.int kk e.2.1)),e.2.2])) (H.set bi (.iter b since (seen++[e.1]) clock))):
  SWr E all (o::rest) k t H:=by
 refine ylo (K:=fun r H'=>(zdl es seen=[]/\r= .tup [.imm (.val (.bool false))]/\H'=H)\/∃e∈zdl es seen,r= .tup [.imm (.val (.bool true)),.imm (.val (.int kk e.2.1)),e.2.2]/\H'=H.set bi (.iter b since (seen++[e.1]) clock))
  hw hd (fun c e=>by rw [hop] at e;cases e) (fun ρ w I β hH hev=>?_) ?_
 ·have hr:=hev it
  rw [hx] at hr;obtain ⟨dst,op,type,pos,after,guard⟩:=o;simp only at hop;subst hop;generalize hv:ρ it=v at hr;cases hr with
  |ptr _ c _ hc=>
  obtain ⟨cm,g1,g2,g3⟩:=hH.obj _ _ _ hbi hc;obtain ⟨ents,a1,a2,a3,a4,a5⟩:=hH.obj _ _ _ hb g1;obtain ⟨l1,l2⟩:=ylr a2 a3 seen;have hold:∀x∈ents.toList,x.born<since:=by
   intro x hx;obtain ⟨j,hj,rfl⟩:=List.mem_iff_getElem.1 hx;have hj':j<ents.size:=by simpa using hj
   have:=(a3 j (by omega) hj').1;simp only [Array.getElem_toList,this];exact hs.2 _ (List.getElem_mem _)
  rcases run_next_at (P:=P) w type c cm since last seen.toArray ents clock g2 a1 hold hsl with ⟨b1,b2⟩|⟨e,b1,w1,b2,b3⟩
  ·refine ⟨_,H,.inl ⟨l1.1 b1,rfl,rfl⟩,.value _,.tuple #[.bool false],w,I,β,?_,.inl rfl,.tup #[.bool false] [.imm (.val (.bool false))] rfl (fun j hj hj'=>?_),hH,.refl⟩
   ·simp only [execOp,hv,Sem.run_bind,b2,Result.andThen_ok,Sem.run_pure]
   ·have:j=0:=by simp at hj;omega
    subst this;exact .imm (.val _)
  ·obtain ⟨c1,x,c2,c3,c4,c5⟩:=l2 e b1
   have hres:=zxw hH hbi hc g1 b2 (seen++[x.1]) clock;refine ⟨_,_,.inr ⟨x,c2,rfl,rfl⟩,.value _,.tuple #[.bool true,e.key,e.val],setBlock w1 c (.mapIter (some cm) since (seen++[x.1]).toArray clock),I,β,?_,.inl rfl,?_,hres.1,hres.2⟩
   ·simp only [execOp,hv,Sem.run_bind,b3,Result.andThen_ok,Sem.run_pure,c3]
    simp
   ·refine .tup _ _ rfl (fun j hj hj'=>?_)
    match j,hj with
    |0,_=>exact .imm (.val _)
    |1,_=>simp only [c4];exact .imm (.val _)
    |2,_=>exact c5.ext (by rw [hH.len];exact hres.2)
 ·rintro r H' (⟨e1,rfl,rfl⟩|⟨e,he,rfl,rfl⟩)
  ·exact ⟨Nat.le_refl _,h0 e1⟩
  ·exact ⟨by simp,h1 e he⟩
end
section
variable {P:Program} {G:List (Nat × D)} {fn:Func} {rd:Bool} {E:En P G fn rd} {t:List (Nat × SV)} {H:List SObj} {k:List Item} {all:Array Oper} {rest:List Oper} {o:Oper}
theorem yls {it:Operand} {bi b since clock:Nat} {seen:List Nat} {kk:IntKind} {es:List (Nat × Int × SV)} {e:Nat × Int × SV} (hop:o.op= .entry it) (hw:zu all t o.guard=some true) (hd:yb fn.ntmps o.dst=true)
  (hx:zl G t it= .ptr bi 0) (hbi:H[bi]?=some (.iter b since (seen++[e.1]) clock)) (hb:H[b]?=some (.pin kk es clock)) (he:e∈es)
  (h:SWr E all rest k (xj t o.dst (.tup [.imm (.val (.int kk e.2.1)),e.2.2])) H):SWr E all (o::rest) k t H:=by
 refine qq hw hd (fun c e=>by rw [hop] at e;cases e) (Nat.le_refl _) (fun ρ w I β hH hev=>?_) h;have hr:=hev it;rw [hx] at hr;obtain ⟨dst,op,type,pos,after,guard⟩:=o;simp only at hop;subst hop;generalize hv:ρ it=v at hr;cases hr with
 |ptr _ c _ hc=>
 obtain ⟨cm,g1,g2,g3⟩:=hH.obj _ _ _ hbi hc;obtain ⟨ents,a1,a2,a3,a4,a5⟩:=hH.obj _ _ _ hb g1;obtain ⟨j,hj,rfl⟩:=List.mem_iff_getElem.1 he;obtain ⟨c1,c2,c3⟩:=a3 j hj (by omega);have hrun:=run_entry_at (P:=P) w c cm since seen.toArray ents clock (ents[j]'(by omega)) (by rw [g2,c1];simp) a1 (by simp) a5.1;refine ⟨.value _,.tuple #[(ents[j]'(by omega)).key,(ents[j]'(by omega)).val],w,I,β,?_,.inl rfl,.tup _ _ rfl (fun i hi hi'=>?_),hH,.refl⟩
 ·simp only [execOp,hv,Sem.run_bind,hrun,Result.andThen_ok,Sem.run_pure]
 ·match i,hi with
  |0,_=>simp only [c2];exact .imm (.val _)
  |1,_=>exact c3
end
def SV.sh (n:Nat):SV->SV
 | .any=>.any
 | .imm d=>.imm d
 | .ptr b o=>.ptr (b+n) o
 | .osl b o l=>.osl (b+n) o l
 | .asl b kk rows=>.asl (b+n) kk rows
 | .map b=>.map (b+n)
 | .yld b=>.yld (b+n)
 | .vec b m=>.vec (b+n) m
 | .vptr b m o=>.vptr (b+n) m o
 | .fn f x y=>.fn f (shL n x) (shL n y)
 | .iface t v=>.iface t (v.sh n)
 | .agg cs=>.agg (shL n cs)
 | .tup vs=>.tup (shL n vs)
where shL (n:Nat):List SV->List SV
 |[]=>[]
 |s::r=>s.sh n::shL n r
theorem zpl (n:Nat):∀l:List SV,SV.sh.shL n l=l.map (SV.sh n)
 |[]=>rfl
 |s::r=>by simp only [SV.sh.shL,List.map_cons,zpl n r]
def SObj.sh (n:Nat):SObj->SObj
 | .cells cs=>.cells (cs.map (SV.sh n))
 | .mapI kk es=>.mapI kk (es.map fun e=>(e.1,e.2.sh n))
 | .mapS es=>.mapS (es.map fun e=>(e.1,e.2.sh n))
 | .loop s f m t ps asg bd=>.loop s f m (t.map fun e=>(e.1,e.2.sh n)) ps asg bd
 | .vec kk cs=>.vec kk (cs.map (SV.sh n))
 | .pin kk es c=>.pin kk (es.map fun e=>(e.1,e.2.1,e.2.2.sh n)) c
 | .iter m s seen l=>.iter (m+n) s seen l
 | .tok kk m=>.tok kk m
 | .dead=>.dead
 | .free=>.free
 | .bld T=>.bld T
 | .btok T n=>.btok T n
theorem SObj.sh_dead {n:Nat} {o:SObj}:o.sh n= .dead ↔ o= .dead:=by cases o<;>simp [SObj.sh]
section
variable {w:World} {I:Imm} {βX β0:List Bnd} {n:Nat}
theorem zat (hn:βX.length=n) (b:Nat):(βX++β0)[b+n]?=β0[b]?:=by
 rw [List.getElem?_append_right (by omega)];congr 1;omega
theorem Rep.sh {v:Value} {s:SV} (hn:βX.length=n) (h:Rep w I β0 v s):Rep w I (βX++β0) v (s.sh n):=by
 have g:=fun b=>zat (β0:=β0) hn b
 induction h with
 |any v=>exact .any v
 |imm h=>exact .imm h
 |ptr b c off h=>exact .ptr _ c off (by rw [g];exact h)
 |osl b c off len cap h h1 h2=>exact .osl _ c off len cap (by rw [g];exact h) h1 h2
 |asl b kk rows v u m h hu hs hle heq=>exact .asl _ kk rows v u m h (by rw [g];exact hu) hs hle heq
 |map b c h=>exact .map _ c (by rw [g];exact h)
 |yld b c h=>exact .yld _ c (by rw [g];exact h)
 |vec b m v u q h hs hle hv heq=>exact .vec _ m v u q (by rw [g];exact h) hs hle hv heq
 |vptr b m off v a q cap h hle hv heq=>exact .vptr _ m off v a q cap (by rw [g];exact h) hle hv heq
 |fn f fs cs first captured h1 h2 _ _ ih1 ih2=>
  simp only [SV.sh,zpl];exact .fn f fs cs _ _ (by simpa using h1) (by simpa using h2) (fun j hj hj'=>by simpa using ih1 j (by simpa using hj) hj') (fun j hj hj'=>by simpa using ih2 j (by simpa using hj) hj')
 |iface t v s _ ih=>exact .iface t v _ ih
 |agg vs cs h1 _ ih=>
  simp only [SV.sh,zpl];exact .agg vs _ (by simpa using h1) (fun j hj hj'=>by simpa using ih j (by simpa using hj) hj')
 |tup vs ss h1 _ ih=>
  simp only [SV.sh,zpl];exact .tup vs _ (by simpa using h1) (fun j hj hj'=>by simpa using ih j (by simpa using hj) hj')
theorem Rep.unsh {v:Value} {s':SV} (hn:βX.length=n) (h:Rep w I (βX++β0) v s'):∀{s:SV},s'=s.sh n->Rep w I β0 v s:=by
 have g:=fun b=>zat (β0:=β0) hn b
 induction h with
 |any v=>intro s hs;cases s<;>simp [SV.sh] at hs;exact .any v
 |imm h=>intro s hs;cases s<;>simp [SV.sh] at hs;subst hs;exact .imm h
 |ptr b c off h=>intro s hs;cases s<;>simp [SV.sh] at hs;obtain ⟨rfl,rfl⟩:=hs;exact .ptr _ c _ (by rw [g] at h;exact h)
 |osl b c off len cap h h1 h2=>intro s hs;cases s<;>simp [SV.sh] at hs;obtain ⟨rfl,rfl,rfl⟩:=hs;exact .osl _ c _ _ cap (by rw [g] at h;exact h) h1 h2
 |asl b kk rows v u m h hu hs' hle heq=>intro s hs;cases s<;>simp [SV.sh] at hs;obtain ⟨rfl,rfl,rfl⟩:=hs;exact .asl _ _ _ v u m h (by rw [g] at hu;exact hu) hs' hle heq
 |map b c h=>intro s hs;cases s<;>simp [SV.sh] at hs;subst hs;exact .map _ c (by rw [g] at h;exact h)
 |yld b c h=>intro s hs;cases s<;>simp [SV.sh] at hs;subst hs;exact .yld _ c (by rw [g] at h;exact h)
 |vec b m v u q h hs' hle hv heq=>intro s hs;cases s<;>simp [SV.sh] at hs;obtain ⟨rfl,rfl⟩:=hs;exact .vec _ _ v u q (by rw [g] at h;exact h) hs' hle hv heq
 |vptr b m off v a q cap h hle hv heq=>intro s hs;cases s<;>simp [SV.sh] at hs;obtain ⟨rfl,rfl,rfl⟩:=hs;exact .vptr _ _ _ v a q cap (by rw [g] at h;exact h) hle hv heq
 |fn f fs cs first captured h1 h2 _ _ ih1 ih2=>
  intro s hs;cases s<;>simp [SV.sh,zpl] at hs;obtain ⟨rfl,rfl,rfl⟩:=hs;exact .fn _ fs cs _ _ (by simpa using h1) (by simpa using h2) (fun j hj hj'=>ih1 j (by simpa using hj) hj' (by simp)) (fun j hj hj'=>ih2 j (by simpa using hj) hj' (by simp))
 |iface t v s _ ih=>intro s hs;cases s<;>simp [SV.sh] at hs;obtain ⟨rfl,rfl⟩:=hs;exact .iface _ v _ (ih rfl)
 |agg vs cs h1 _ ih=>
  intro s hs;cases s<;>simp [SV.sh,zpl] at hs;subst hs;exact .agg vs _ (by simpa using h1) (fun j hj hj'=>ih j (by simpa using hj) hj' (by simp))
 |tup vs ss h1 _ ih=>
  intro s hs;cases s<;>simp [SV.sh,zpl] at hs;subst hs;exact .tup vs _ (by simpa using h1) (fun j hj hj'=>ih j (by simpa using hj) hj' (by simp))
theorem ylt (n:Nat) (t:List (Nat × SV)) (m:Nat):qh (t.map fun e=>(e.1,e.2.sh n)) m=(qh t m).sh n:=by
 induction t with
 |nil=>rfl
 |cons x t ih=>
  simp only [List.map_cons,qh];split
  ·rfl
  ·exact ih
theorem ObjOK.sh {o:SObj} {x:Bnd} (hn:βX.length=n) (h:ObjOK w I β0 o x):ObjOK w I (βX++β0) (o.sh n) x:=by
 cases o with
 |cells cs=>
  cases x with
  |blk c=>
   obtain ⟨vs,T,h1,h2,h3,h4⟩:=h;exact ⟨vs,T,h1,by simpa using h2,fun j hj hj'=>by simpa using (h3 j (by simpa using hj) hj').sh hn,h4⟩
  |tok u=>exact h.elim
 |mapI kk es=>
  cases x with
  |blk c=>
   obtain ⟨ents,clock,h1,h2,h3,h4⟩:=h
   exact ⟨ents,clock,h1,by simpa using h2,fun j hj hj'=>by
    have:=h3 j (by simpa using hj) hj';simp only [List.getElem_map]
    exact ⟨this.1,this.2.sh hn⟩,h4⟩
  |tok u=>exact h.elim
 |mapS es=>
  cases x with
  |blk c=>
   obtain ⟨ents,clock,h1,h2,h3,h4⟩:=h
   exact ⟨ents,clock,h1,by simpa using h2,fun j hj hj'=>by
    have:=h3 j (by simpa using hj) hj';simp only [List.getElem_map]
    exact ⟨this.1,this.2.sh hn⟩,h4⟩
  |tok u=>exact h.elim
 |tok kk m=>cases x<;>exact h
 |loop s f m t ps asg bd=>
  cases x with
  |blk c=>
   obtain ⟨r,a1,a2,a3,a4,a5,a6,a7,a8,a9⟩:=h;exact ⟨r,a1,a2,a3,a4,a5,a6,a7,fun m=>by rw [ylt];exact (a8 m).sh hn,a9⟩
  |tok u=>exact h.elim
 |vec kk cs=>
  cases x with
  |blk c=>exact h.elim
  |tok u=>
   rcases h with ⟨rfl,h⟩|⟨c,m,cap,vs,T,rfl,a1,a2,a3,a4,a5,a6,a7⟩
   ·exact .inl ⟨rfl,h⟩
   ·exact .inr ⟨c,m,cap,vs,T,rfl,a1,a2,a3,a4,by simpa using a5,fun j hj hj'=>by simpa using (a6 j (by simpa using hj) hj').sh hn,a7⟩
 |dead=>trivial
 |free=>cases x<;>exact h
 |bld T=>cases x<;>exact h
 |btok T n=>cases x<;>exact h
 |pin kk es clock=>
  cases x with
  |blk c=>
   obtain ⟨ents,h1,h2,h3,h4⟩:=h
   exact ⟨ents,h1,by simpa using h2,fun j hj hj'=>by
    have:=h3 j (by simpa using hj) hj';simp only [List.getElem_map]
    exact ⟨this.1,this.2.1,this.2.2.sh hn⟩,h4⟩
  |tok u=>exact h.elim
 |iter m s seen l=>
  cases x with
  |blk c=>
   obtain ⟨cm,h1,h2⟩:=h;exact ⟨cm,by rw [zat hn];exact h1,h2⟩
  |tok u=>exact h.elim
theorem ObjOK.unsh {o:SObj} {x:Bnd} (hn:βX.length=n) (h:ObjOK w I (βX++β0) (o.sh n) x):ObjOK w I β0 o x:=by
 cases o with
 |cells cs=>
  cases x with
  |blk c=>
   obtain ⟨vs,T,h1,h2,h3,h4⟩:=h;exact ⟨vs,T,h1,by simpa using h2,fun j hj hj'=>(h3 j (by simpa using hj) hj').unsh hn (by simp),h4⟩
  |tok u=>exact h.elim
 |mapI kk es=>
  cases x with
  |blk c=>
   obtain ⟨ents,clock,h1,h2,h3,h4⟩:=h
   exact ⟨ents,clock,h1,by simpa using h2,fun j hj hj'=>by
    have:=h3 j (by simpa using hj) hj';simp only [List.getElem_map] at this
    exact ⟨this.1,this.2.unsh hn rfl⟩,h4⟩
  |tok u=>exact h.elim
 |mapS es=>
  cases x with
  |blk c=>
   obtain ⟨ents,clock,h1,h2,h3,h4⟩:=h
   exact ⟨ents,clock,h1,by simpa using h2,fun j hj hj'=>by
    have:=h3 j (by simpa using hj) hj';simp only [List.getElem_map] at this
    exact ⟨this.1,this.2.unsh hn rfl⟩,h4⟩
  |tok u=>exact h.elim
 |tok kk m=>cases x<;>exact h
 |loop s f m t ps asg bd=>
  cases x with
  |blk c=>
   obtain ⟨r,a1,a2,a3,a4,a5,a6,a7,a8,a9⟩:=h;exact ⟨r,a1,a2,a3,a4,a5,a6,a7,fun m=>(a8 m).unsh hn (ylt n t m),a9⟩
  |tok u=>exact h.elim
 |vec kk cs=>
  cases x with
  |blk c=>exact h.elim
  |tok u=>
   rcases h with ⟨h0,h⟩|⟨c,m,cap,vs,T,rfl,a1,a2,a3,a4,a5,a6,a7⟩
   ·exact .inl ⟨by simpa using h0,h⟩
   ·exact .inr ⟨c,m,cap,vs,T,rfl,a1,a2,a3,a4,by simpa using a5,fun j hj hj'=>(a6 j (by simpa using hj) hj').unsh hn (by simp),a7⟩
 |dead=>trivial
 |free=>cases x<;>exact h
 |bld T=>cases x<;>exact h
 |btok T n=>cases x<;>exact h
 |pin kk es clock=>
  cases x with
  |blk c=>
   obtain ⟨ents,h1,h2,h3,h4⟩:=h
   exact ⟨ents,h1,by simpa using h2,fun j hj hj'=>by
    have:=h3 j (by simpa using hj) hj';simp only [List.getElem_map] at this
    exact ⟨this.1,this.2.1,this.2.2.unsh hn rfl⟩,h4⟩
  |tok u=>exact h.elim
 |iter m s seen l=>
  cases x with
  |blk c=>
   obtain ⟨cm,h1,h2⟩:=h;exact ⟨cm,by rw [zat hn] at h1;exact h1,h2⟩
  |tok u=>exact h.elim
end
section
variable {P:Program} {G:List (Nat × D)}
theorem zji {f:FuncId} {args:List SV} {H0:List SObj} {K:SV->List SObj->Prop} (h:SCall P G f args H0 K) (X:List SObj):
  SCall P G f (args.map (SV.sh X.length)) (X++H0.map (SObj.sh X.length)) (fun r H'=>∃r1 H1,K r1 H1/\r=r1.sh X.length/\H'=X++H1.map (SObj.sh X.length)):=by
 intro w I β vs hH hargs;obtain ⟨βX,β0,rfl,hn⟩:∃βX β0,β=βX++β0/\βX.length=X.length:=⟨β.take X.length,β.drop X.length,by simp,by have:=hH.len;simp at this ⊢;omega⟩;have hl0:β0.length=H0.length:=by have:=hH.len;simp at this;omega
 have getH:∀b,(X++H0.map (SObj.sh X.length))[b+X.length]?=(H0[b]?).map (SObj.sh X.length):=fun b=>by
  rw [List.getElem?_append_right (by omega),show b+X.length-X.length=b by omega,List.getElem?_map]
 have up:∀b c,wv H0 β0 b c->wv (X++H0.map (SObj.sh X.length)) (βX++β0) (b+X.length) c:=by
  rintro b c ⟨o,x,h1,h2,h3,h4⟩;exact ⟨o.sh X.length,x,by rw [getH,h1];rfl,fun e=>h2 (SObj.sh_dead.1 e),by rw [zat hn];exact h3,h4⟩
 have hH0:HeapOK G w I β0 H0:=by
  refine ⟨hl0,fun b o x h1 h2=>?_,fun b b' c h1 h2=>?_,hH.inI,hH.glob⟩
  ·exact (hH.obj (b+X.length) (o.sh X.length) x (by rw [getH,h1];rfl) (by rw [zat hn];exact h2)).unsh hn
  ·have:=hH.inj _ _ c (up b c h1) (up b' c h2);omega
 have hargs0:Reps w I β0 vs.toList args:=by
  refine ⟨by simpa using hargs.len,fun j v s hv hs=>?_⟩;exact (hargs.rep j v (s.sh X.length) hv (by rw [List.getElem?_map,hs];rfl)).unsh hn rfl
 refine (h w I β0 vs hH0 hargs0).mono ?_;rintro e w' ⟨v,r,I',β',H',rfl,hK,hv,hH',hext⟩;have hl':β'.length=H'.length:=hH'.len;have getH':∀b,(X++H'.map (SObj.sh X.length))[b+X.length]?=(H'[b]?).map (SObj.sh X.length):=fun b=>by
  rw [List.getElem?_append_right (by omega),show b+X.length-X.length=b by omega,List.getElem?_map]
 have split:∀b c,wv (X++H'.map (SObj.sh X.length)) (βX++β') b c->(b<X.length/\wv (X++H0.map (SObj.sh X.length)) (βX++β0) b c)\/(X.length<=b/\wv H' β' (b-X.length) c):=by
  rintro b c ⟨o,x,h1,h2,h3,h4⟩;rcases Nat.lt_or_ge b X.length with hb|hb
  ·rw [List.getElem?_append_left hb] at h1
   rw [List.getElem?_append_left (by omega)] at h3;exact .inl ⟨hb,o,x,by rw [List.getElem?_append_left hb];exact h1,h2,by rw [List.getElem?_append_left (by omega)];exact h3,h4⟩
  ·obtain ⟨i,rfl⟩:∃i,b=i+X.length:=⟨b-X.length,by omega⟩
   rw [getH'] at h1;rw [zat hn] at h3;cases ho:H'[i]? with
   |none=>rw [ho] at h1;cases h1
   |some o'=>
    rw [ho] at h1;cases h1;refine .inr ⟨hb,o',x,?_,fun e=>h2 (SObj.sh_dead.2 e),?_,h4⟩
    ·rw [show i+X.length-X.length=i by omega];exact ho
    ·rw [show i+X.length-X.length=i by omega];exact h3
 have ownX:∀b c,b<X.length->wv (X++H0.map (SObj.sh X.length)) (βX++β0) b c->c<w.heap.size/\∀b',¬wv H0 β0 b' c:=by
  intro b c hb ho;refine ⟨hH.owns_lt ho,fun b' ho'=>?_⟩;have:=hH.inj _ _ c ho (up b' c ho');omega
 have keep:Keeps (βX++β0).length (βX++β0) (βX++β'):=fun b x hb hx=>by
  rcases Nat.lt_or_ge b X.length with hb'|hb'
  ·rw [List.getElem?_append_left (by omega)] at hx
   exact ⟨x,by rw [List.getElem?_append_left (by omega)];exact hx,x.le_refl⟩
  ·obtain ⟨i,rfl⟩:∃i,b=i+X.length:=⟨b-X.length,by omega⟩
   rw [zat hn] at hx;obtain ⟨y,hy,hle⟩:=hext.keep i x (by rw [<-hl0];exact lt_of_getElem? hx) hx;exact ⟨y,by rw [zat hn];exact hy,hle⟩
 have hheap:HeapOK G w' I' (βX++β') (X++H'.map (SObj.sh X.length)):=by
  refine ⟨by simp;omega,fun b o x h1 h2=>?_,fun b b' c h1 h2=>?_,hH'.inI,hH'.glob⟩
  ·rcases Nat.lt_or_ge b X.length with hb|hb
   ·rw [List.getElem?_append_left hb] at h1
    rw [List.getElem?_append_left (by omega)] at h2;have hob:=hH.obj b o x (by rw [List.getElem?_append_left hb];exact h1) (by rw [List.getElem?_append_left (by omega)];exact h2)
    by_cases hd:o= .dead
    ·subst hd;trivial
    ·have hox:∀c,x.block=some c->c<w.heap.size/\∀b',¬wv H0 β0 b' c:=fun c hc=>
      ownX b c hb ⟨o,x,by rw [List.getElem?_append_left hb];exact h1,hd,by rw [List.getElem?_append_left (by omega)];exact h2,hc⟩
     refine hob.mono (fun c hc=>hext.old c (hox c hc).1 (hox c hc).2) hext.imm hext.cell keep (fun c o' hc hi=>?_);rcases hext.new c o' hi with h3|⟨b',h3⟩|h3
     ·exact h3
     ·exact absurd h3 ((hox c hc).2 b')
     ·have:=(hox c hc).1;omega
   ·obtain ⟨i,rfl⟩:∃i,b=i+X.length:=⟨b-X.length,by omega⟩
    rw [getH'] at h1;rw [zat hn] at h2;cases ho:H'[i]? with
    |none=>rw [ho] at h1;cases h1
    |some o'=>
     rw [ho] at h1;cases h1;exact (hH'.obj i o' x ho h2).sh hn
  ·have cross:∀b b' c,b<X.length->wv (X++H0.map (SObj.sh X.length)) (βX++β0) b c->wv H' β' b' c->False:=by
    intro b b' c hb h1 h2;obtain ⟨l1,l2⟩:=ownX b c hb h1;rcases hext.own b' c h2 with ⟨b'',h3⟩|h3
    ·exact l2 b'' h3
    ·omega
   rcases split b c h1 with ⟨a1,a2⟩|⟨a1,a2⟩<;>rcases split b' c h2 with ⟨c1,c2⟩|⟨c1,c2⟩
   ·exact hH.inj b b' c a2 c2
   ·exact (cross _ _ c a1 a2 c2).elim
   ·exact (cross _ _ c c1 c2 a2).elim
   ·have:=hH'.inj _ _ c a2 c2;omega
 refine ⟨v,r.sh X.length,I',βX++β',_,rfl,⟨r,H',hK,rfl,rfl⟩,hv.sh hn,hheap,hext.imm,hext.cell,keep.mono (by have:=hH.len;omega),fun c hc hno=>hext.old c hc (fun b hb=>hno _ (up b c hb)),fun b c ho=>?_,fun c o hi=>?_,hext.size,hext.env⟩
 ·rcases split b c ho with ⟨_,a2⟩|⟨_,a2⟩
  ·exact .inl ⟨b,a2⟩
  ·rcases hext.own _ c a2 with ⟨b',h3⟩|h3
   ·exact .inl ⟨_,up b' c h3⟩
   ·exact .inr h3
 ·rcases hext.new c o hi with h3|⟨b,h3⟩|h3
  ·exact .inl h3
  ·exact .inr (.inl ⟨_,up b c h3⟩)
  ·exact .inr (.inr h3)
end
def SV.ren (σ:Nat->Nat):SV->SV
 | .any=>.any
 | .imm d=>.imm d
 | .ptr b o=>.ptr (σ b) o
 | .osl b o l=>.osl (σ b) o l
 | .asl b kk rows=>.asl (σ b) kk rows
 | .map b=>.map (σ b)
 | .yld b=>.yld (σ b)
 | .vec b m=>.vec (σ b) m
 | .vptr b m o=>.vptr (σ b) m o
 | .fn f x y=>.fn f (renL σ x) (renL σ y)
 | .iface t v=>.iface t (v.ren σ)
 | .agg cs=>.agg (renL σ cs)
 | .tup vs=>.tup (renL σ vs)
where renL (σ:Nat->Nat):List SV->List SV
 |[]=>[]
 |s::r=>s.ren σ::renL σ r
theorem zej (σ:Nat->Nat):∀l:List SV,SV.ren.renL σ l=l.map (SV.ren σ)
 |[]=>rfl
 |s::r=>by simp only [SV.ren.renL,List.map_cons,zej σ r]
def SObj.ren (σ:Nat->Nat):SObj->SObj
 | .cells cs=>.cells (cs.map (SV.ren σ))
 | .mapI kk es=>.mapI kk (es.map fun e=>(e.1,e.2.ren σ))
 | .mapS es=>.mapS (es.map fun e=>(e.1,e.2.ren σ))
 | .loop s f m t ps asg bd=>.loop s f m (t.map fun e=>(e.1,e.2.ren σ)) ps asg bd
 | .vec kk cs=>.vec kk (cs.map (SV.ren σ))
 | .pin kk es c=>.pin kk (es.map fun e=>(e.1,e.2.1,e.2.2.ren σ)) c
 | .iter m s seen l=>.iter (σ m) s seen l
 | .tok kk m=>.tok kk m
 | .dead=>.dead
 | .free=>.free
 | .bld T=>.bld T
 | .btok T n=>.btok T n
theorem SObj.ren_dead {σ:Nat->Nat} {o:SObj}:o.ren σ= .dead ↔ o= .dead:=by cases o<;>simp [SObj.ren]
section
variable {w:World} {I:Imm} {β β0:List Bnd} {σ:Nat->Nat} {m0:Nat}
theorem Rep.ren {v:Value} {s:SV} (hg:∀b x,β0[b]?=some x->β[σ b]?=some x) (h:Rep w I β0 v s):Rep w I β v (s.ren σ):=by
 induction h with
 |any v=>exact .any v
 |imm h=>exact .imm h
 |ptr b c off h=>exact .ptr _ c off (hg _ _ h)
 |osl b c off len cap h h1 h2=>exact .osl _ c off len cap (hg _ _ h) h1 h2
 |asl b kk rows v u m h hu hs hle heq=>exact .asl _ kk rows v u m h (hg _ _ hu) hs hle heq
 |map b c h=>exact .map _ c (hg _ _ h)
 |yld b c h=>exact .yld _ c (hg _ _ h)
 |vec b m v u q h hs hle hv heq=>exact .vec _ m v u q (hg _ _ h) hs hle hv heq
 |vptr b m off v a q cap h hle hv heq=>exact .vptr _ m off v a q cap (hg _ _ h) hle hv heq
 |fn f fs cs first captured h1 h2 _ _ ih1 ih2=>
  simp only [SV.ren,zej];exact .fn f fs cs _ _ (by simpa using h1) (by simpa using h2) (fun j hj hj'=>by simpa using ih1 j (by simpa using hj) hj') (fun j hj hj'=>by simpa using ih2 j (by simpa using hj) hj')
 |iface t v s _ ih=>exact .iface t v _ ih
 |agg vs cs h1 _ ih=>
  simp only [SV.ren,zej];exact .agg vs _ (by simpa using h1) (fun j hj hj'=>by simpa using ih j (by simpa using hj) hj')
 |tup vs ss h1 _ ih=>
  simp only [SV.ren,zej];exact .tup vs _ (by simpa using h1) (fun j hj hj'=>by simpa using ih j (by simpa using hj) hj')
theorem Rep.unren {v:Value} {s':SV} (hg:∀b x,b<m0->β[σ b]?=some x->β0[b]?=some x) (h:Rep w I β v s'):∀{s:SV},s'=s.ren σ->s.under m0=true->Rep w I β0 v s:=by
 induction h with
 |any v=>intro s hs hb;cases s<;>simp [SV.ren] at hs;exact .any v
 |imm h=>intro s hs hb;cases s<;>simp [SV.ren] at hs;subst hs;exact .imm h
 |ptr b c off h=>intro s hs hb;cases s<;>simp [SV.ren] at hs;obtain ⟨rfl,rfl⟩:=hs;exact .ptr _ c _ (hg _ _ (by simpa [SV.under] using hb) h)
 |osl b c off len cap h h1 h2=>intro s hs hb;cases s<;>simp [SV.ren] at hs;obtain ⟨rfl,rfl,rfl⟩:=hs;exact .osl _ c _ _ cap (hg _ _ (by simpa [SV.under] using hb) h) h1 h2
 |asl b kk rows v u m h hu hs' hle heq=>intro s hs hb;cases s<;>simp [SV.ren] at hs;obtain ⟨rfl,rfl,rfl⟩:=hs;exact .asl _ _ _ v u m h (hg _ _ (by simpa [SV.under] using hb) hu) hs' hle heq
 |map b c h=>intro s hs hb;cases s<;>simp [SV.ren] at hs;subst hs;exact .map _ c (hg _ _ (by simpa [SV.under] using hb) h)
 |yld b c h=>intro s hs hb;cases s<;>simp [SV.ren] at hs;subst hs;exact .yld _ c (hg _ _ (by simpa [SV.under] using hb) h)
 |vec b m v u q h hs' hle hv heq=>intro s hs hb;cases s<;>simp [SV.ren] at hs;obtain ⟨rfl,rfl⟩:=hs;exact .vec _ _ v u q (hg _ _ (by simpa [SV.under] using hb) h) hs' hle hv heq
 |vptr b m off v a q cap h hle hv heq=>intro s hs hb;cases s<;>simp [SV.ren] at hs;obtain ⟨rfl,rfl,rfl⟩:=hs;exact .vptr _ _ _ v a q cap (hg _ _ (by simpa [SV.under] using hb) h) hle hv heq
 |fn f fs cs first captured h1 h2 _ _ ih1 ih2=>
  intro s hs hb;cases s<;>simp [SV.ren,zej] at hs;obtain ⟨rfl,rfl,rfl⟩:=hs;exact .fn _ fs cs _ _ (by simpa using h1) (by simpa using h2) (fun j hj hj'=>ih1 j (by simpa using hj) hj' (by simp) (yj (by simp [SV.under] at hb;exact hb.1) j hj)) (fun j hj hj'=>ih2 j (by simpa using hj) hj' (by simp) (yj (by simp [SV.under] at hb;exact hb.2) j hj))
 |iface t v s _ ih=>intro s hs hb;cases s<;>simp [SV.ren] at hs;obtain ⟨rfl,rfl⟩:=hs;exact .iface _ v _ (ih rfl (by simpa [SV.under] using hb))
 |agg vs cs h1 _ ih=>
  intro s hs hb;cases s<;>simp [SV.ren,zej] at hs;subst hs;exact .agg vs _ (by simpa using h1) (fun j hj hj'=>ih j (by simpa using hj) hj' (by simp) (yj (by simpa [SV.under] using hb) j hj))
 |tup vs ss h1 _ ih=>
  intro s hs hb;cases s<;>simp [SV.ren,zej] at hs;subst hs;exact .tup vs _ (by simpa using h1) (fun j hj hj'=>ih j (by simpa using hj) hj' (by simp) (yj (by simpa [SV.under] using hb) j hj))
theorem yfd (σ:Nat->Nat) (t:List (Nat × SV)) (m:Nat):qh (t.map fun e=>(e.1,e.2.ren σ)) m=(qh t m).ren σ:=by
 induction t with
 |nil=>rfl
 |cons x t ih=>
  simp only [List.map_cons,qh];split
  ·rfl
  ·exact ih
theorem ObjOK.ren {o:SObj} {x:Bnd} (hg:∀b x,β0[b]?=some x->β[σ b]?=some x) (h:ObjOK w I β0 o x):ObjOK w I β (o.ren σ) x:=by
 cases o with
 |cells cs=>
  cases x with
  |blk c=>
   obtain ⟨vs,T,h1,h2,h3,h4⟩:=h;exact ⟨vs,T,h1,by simpa using h2,fun j hj hj'=>by simpa using (h3 j (by simpa using hj) hj').ren hg,h4⟩
  |tok u=>exact h.elim
 |mapI kk es=>
  cases x with
  |blk c=>
   obtain ⟨ents,clock,h1,h2,h3,h4⟩:=h
   exact ⟨ents,clock,h1,by simpa using h2,fun j hj hj'=>by
    have:=h3 j (by simpa using hj) hj';simp only [List.getElem_map]
    exact ⟨this.1,this.2.ren hg⟩,h4⟩
  |tok u=>exact h.elim
 |mapS es=>
  cases x with
  |blk c=>
   obtain ⟨ents,clock,h1,h2,h3,h4⟩:=h
   exact ⟨ents,clock,h1,by simpa using h2,fun j hj hj'=>by
    have:=h3 j (by simpa using hj) hj';simp only [List.getElem_map]
    exact ⟨this.1,this.2.ren hg⟩,h4⟩
  |tok u=>exact h.elim
 |tok kk m=>cases x<;>exact h
 |loop s f m t ps asg bd=>
  cases x with
  |blk c=>
   obtain ⟨r,a1,a2,a3,a4,a5,a6,a7,a8,a9⟩:=h;exact ⟨r,a1,a2,a3,a4,a5,a6,a7,fun m=>by rw [yfd];exact (a8 m).ren hg,a9⟩
  |tok u=>exact h.elim
 |vec kk cs=>
  cases x with
  |blk c=>exact h.elim
  |tok u=>
   rcases h with ⟨rfl,h⟩|⟨c,m,cap,vs,T,rfl,a1,a2,a3,a4,a5,a6,a7⟩
   ·exact .inl ⟨rfl,h⟩
   ·exact .inr ⟨c,m,cap,vs,T,rfl,a1,a2,a3,a4,by simpa using a5,fun j hj hj'=>by simpa using (a6 j (by simpa using hj) hj').ren hg,a7⟩
 |dead=>trivial
 |free=>cases x<;>exact h
 |bld T=>cases x<;>exact h
 |btok T n=>cases x<;>exact h
 |pin kk es clock=>
  cases x with
  |blk c=>
   obtain ⟨ents,h1,h2,h3,h4⟩:=h
   exact ⟨ents,h1,by simpa using h2,fun j hj hj'=>by
    have:=h3 j (by simpa using hj) hj';simp only [List.getElem_map]
    exact ⟨this.1,this.2.1,this.2.2.ren hg⟩,h4⟩
  |tok u=>exact h.elim
 |iter m s seen l=>
  cases x with
  |blk c=>
   obtain ⟨cm,h1,h2⟩:=h;exact ⟨cm,hg _ _ h1,h2⟩
  |tok u=>exact h.elim
theorem ObjOK.unren {o:SObj} {x:Bnd} (hg:∀b x,b<m0->β[σ b]?=some x->β0[b]?=some x) (h:ObjOK w I β (o.ren σ) x) (hu:o.under m0=true):ObjOK w I β0 o x:=by
 cases o with
 |cells cs=>
  cases x with
  |blk c=>
   obtain ⟨vs,T,h1,h2,h3,h4⟩:=h;exact ⟨vs,T,h1,by simpa using h2,fun j hj hj'=>(h3 j (by simpa using hj) hj').unren hg (by simp) (yj hu j hj),h4⟩
  |tok u=>exact h.elim
 |mapI kk es=>
  cases x with
  |blk c=>
   obtain ⟨ents,clock,h1,h2,h3,h4⟩:=h
   exact ⟨ents,clock,h1,by simpa using h2,fun j hj hj'=>by
    have:=h3 j (by simpa using hj) hj';simp only [List.getElem_map] at this
    exact ⟨this.1,this.2.unren hg rfl (List.all_eq_true.1 hu _ (List.getElem_mem hj))⟩,h4⟩
  |tok u=>exact h.elim
 |mapS es=>
  cases x with
  |blk c=>
   obtain ⟨ents,clock,h1,h2,h3,h4⟩:=h
   exact ⟨ents,clock,h1,by simpa using h2,fun j hj hj'=>by
    have:=h3 j (by simpa using hj) hj';simp only [List.getElem_map] at this
    exact ⟨this.1,this.2.unren hg rfl (List.all_eq_true.1 hu _ (List.getElem_mem hj))⟩,h4⟩
  |tok u=>exact h.elim
 |tok kk m=>cases x<;>exact h
 |loop s f m t ps asg bd=>
  cases x with
  |blk c=>
   obtain ⟨r,a1,a2,a3,a4,a5,a6,a7,a8,a9⟩:=h;exact ⟨r,a1,a2,a3,a4,a5,a6,a7,fun m=>(a8 m).unren hg (yfd σ t m) (zes hu m),a9⟩
  |tok u=>exact h.elim
 |vec kk cs=>
  cases x with
  |blk c=>exact h.elim
  |tok u=>
   rcases h with ⟨h0,h⟩|⟨c,m,cap,vs,T,rfl,a1,a2,a3,a4,a5,a6,a7⟩
   ·exact .inl ⟨by simpa using h0,h⟩
   ·exact .inr ⟨c,m,cap,vs,T,rfl,a1,a2,a3,a4,by simpa using a5,fun j hj hj'=>(a6 j (by simpa using hj) hj').unren hg (by simp) (yj hu j hj),a7⟩
 |dead=>trivial
 |free=>cases x<;>exact h
 |bld T=>cases x<;>exact h
 |btok T n=>cases x<;>exact h
 |pin kk es clock=>
  cases x with
  |blk c=>
   obtain ⟨ents,h1,h2,h3,h4⟩:=h
   exact ⟨ents,h1,by simpa using h2,fun j hj hj'=>by
    have:=h3 j (by simpa using hj) hj';simp only [List.getElem_map] at this
    exact ⟨this.1,this.2.1,this.2.2.unren hg rfl (List.all_eq_true.1 hu _ (List.getElem_mem hj))⟩,h4⟩
  |tok u=>exact h.elim
 |iter m s seen l=>
  cases x with
  |blk c=>
   obtain ⟨cm,h1,h2⟩:=h;exact ⟨cm,hg _ _ (by simpa [SObj.under] using hu) h1,h2⟩
  |tok u=>exact h.elim
end
section
variable {P:Program} {G:List (Nat × D)}
theorem zpm {f:FuncId} {args:List SV} {H0 H:List SObj} {K K':SV->List SObj->Prop} (h:SCall P G f args H0 K) (σ:Nat->Nat) (hσ:∀b b',b<H0.length->b'<H0.length->σ b=σ b'->b=b')
  (hσn:∀i,σ (H0.length+i)=H.length+i) (hget:∀b o,H0[b]?=some o->H[σ b]?=some (o.ren σ)) (hargs:args.all (SV.under H0.length)=true) (hu:H0.all (SObj.under H0.length)=true)
  (hK:∀r H1 H',K r H1->H0.length<=H1.length->H'.length=H.length+(H1.length-H0.length)->(∀b o,H1[b]?=some o->H'[σ b]?=some (o.ren σ))->(∀c,c<H.length->(∀b,b<H0.length->σ b≠c)->H'[c]?=H[c]?)->K' (r.ren σ) H'):
  SCall P G f (args.map (SV.ren σ)) H K':=by
 intro w I β vs hH hvs;have hσlt:∀b,b<H0.length->σ b<H.length:=fun b hb=>lt_of_getElem? (hget b _ (List.getElem?_eq_getElem hb))
 obtain ⟨β0,hl0,hβ0⟩:∃β0:List Bnd,β0.length=H0.length/\∀b,b<H0.length->β0[b]?=β[σ b]?:=by
  refine ⟨(List.range H0.length).map (fun b=>β.getD (σ b) yyj),by simp,fun b hb=>?_⟩;have hlt:σ b<β.length:=by rw [hH.len];exact hσlt b hb
  rw [List.getElem?_map,List.getElem?_range hb];simp [List.getD_eq_getElem?_getD,List.getElem?_eq_getElem hlt]
 have up0:∀b x,β0[b]?=some x->β[σ b]?=some x:=fun b x hx=>by rw [<-hβ0 b (by rw [<-hl0];exact lt_of_getElem? hx)];exact hx
 have un0:∀b x,b<H0.length->β[σ b]?=some x->β0[b]?=some x:=fun b x hb hx=>by rw [hβ0 b hb];exact hx
 have up:∀b c,wv H0 β0 b c->wv H β (σ b) c:=by
  rintro b c ⟨o,x,h1,h2,h3,h4⟩;exact ⟨o.ren σ,x,hget b o h1,fun e=>h2 (SObj.ren_dead.1 e),up0 b x h3,h4⟩
 have olt:∀{b c},wv H0 β0 b c->b<H0.length:=fun ⟨_,_,h1,_⟩=>lt_of_getElem? h1
 have hH0:HeapOK G w I β0 H0:=by
  refine ⟨hl0,fun b o x h1 h2=>?_,fun b b' c h1 h2=>hσ b b' (olt h1) (olt h2) (hH.inj _ _ c (up b c h1) (up b' c h2)),hH.inI,hH.glob⟩;exact (hH.obj (σ b) (o.ren σ) x (hget b o h1) (up0 b x h2)).unren un0 (List.all_eq_true.1 hu o (List.mem_of_getElem? h1))
 have hvs0:Reps w I β0 vs.toList args:=by
  refine ⟨by simpa using hvs.len,fun j v s hv hs=>?_⟩;exact (hvs.rep j v (s.ren σ) hv (by rw [List.getElem?_map,hs];rfl)).unren un0 rfl (List.all_eq_true.1 hargs s (List.mem_of_getElem? hs))
 refine (h w I β0 vs hH0 hvs0).mono ?_;rintro e w' ⟨v,r,I',β1,H1,rfl,hKr,hv,hH1,hext⟩;have hl1:β1.length=H1.length:=hH1.len;have hm:H0.length<=H1.length:=by
  rcases Nat.lt_or_ge H1.length H0.length with hlt|hge
  ·obtain ⟨y,hy,_⟩:=hext.keep H1.length _ hlt (List.getElem?_eq_getElem (by rw [hl0];exact hlt))
   have:=lt_of_getElem? hy;omega
  ·exact hge
 have hσ1:∀b b',b<H1.length->b'<H1.length->σ b=σ b'->b=b':=by
  intro b b' hb hb' he;rcases Nat.lt_or_ge b H0.length with l|l<;>rcases Nat.lt_or_ge b' H0.length with l'|l'
  ·exact hσ b b' l l' he
  ·have:=hσlt b l;have:=hσn (b'-H0.length);rw [show H0.length+(b'-H0.length)=b' by omega] at this;omega
  ·have:=hσlt b' l';have:=hσn (b-H0.length);rw [show H0.length+(b-H0.length)=b by omega] at this;omega
  ·have e1:=hσn (b'-H0.length);rw [show H0.length+(b'-H0.length)=b' by omega] at e1
   have e2:=hσn (b-H0.length);rw [show H0.length+(b-H0.length)=b by omega] at e2;omega
 have mk:∀{α:Type} (old:List α) (new:List α),old.length=H.length->new.length=H1.length->
   ∃l:List α,l.length=H.length+(H1.length-H0.length)/\(∀b,b<H1.length->l[σ b]?=new[b]?)/\∀c,c<H.length->(∀b,b<H0.length->σ b≠c)->l[c]?=old[c]?:=by
  intro α old new ho hnw
  classical
  have hσb:∀b,b<H1.length->σ b<H.length+(H1.length-H0.length):=fun b hb=>by
   rcases Nat.lt_or_ge b H0.length with l|l
   ·have:=hσlt b l;omega
   ·have:=hσn (b-H0.length);rw [show H0.length+(b-H0.length)=b by omega] at this;omega
  let g:Nat->Option α:=fun c=>if hc:∃b,b<H1.length/\σ b=c then new[hc.choose]? else old[c]?
  have hgs:∀c,c<H.length+(H1.length-H0.length)->∃a,g c=some a:=by
   intro c hc;simp only [g];split
   ·rename_i hx;exact ⟨_,List.getElem?_eq_getElem (by rw [hnw];exact hx.choose_spec.1)⟩
   ·rename_i hx
    have:c<H.length:=by
     rcases Nat.lt_or_ge c H.length with l|l
     ·exact l
     ·exact absurd ⟨H0.length+(c-H.length),by omega,by rw [hσn];omega⟩ hx
    exact ⟨_,List.getElem?_eq_getElem (by rw [ho];exact this)⟩
  have lst:∀n,n<=H.length+(H1.length-H0.length)->∃l:List α,l.length=n/\∀c,c<n->l[c]?=g c:=by
   intro n
   induction n with
   |zero=>intro _;exact ⟨[],rfl,fun c hc=>by omega⟩
   |succ n ih=>
    intro hn;obtain ⟨l,h1,h2⟩:=ih (by omega);obtain ⟨a,ha⟩:=hgs n (by omega);refine ⟨l++[a],by simp [h1],fun c hc=>?_⟩;rcases Nat.lt_or_ge c n with hlt|hge
    ·rw [List.getElem?_append_left (by omega)];exact h2 c hlt
    ·have:c=n:=by omega
     subst this;rw [List.getElem?_append_right (by omega),ha,h1];simp
  obtain ⟨l,h1,h2⟩:=lst _ (Nat.le_refl _);refine ⟨l,h1,fun b hb=>?_,fun c hc hne=>?_⟩
  ·rw [h2 _ (hσb b hb)]
   have hx:∃b',b'<H1.length/\σ b'=σ b:=⟨b,hb,rfl⟩;simp only [g,dif_pos hx];rw [hσ1 _ b hx.choose_spec.1 hb hx.choose_spec.2]
  ·rw [h2 c (by omega)]
   simp only [g];rw [dif_neg];rintro ⟨b,hb,rfl⟩;rcases Nat.lt_or_ge b H0.length with l|l
   ·exact hne b l rfl
   ·have:=hσn (b-H0.length);rw [show H0.length+(b-H0.length)=b by omega] at this;omega
 obtain ⟨H',hlH,gH,oH⟩:=mk H (H1.map (SObj.ren σ)) rfl (by simp);obtain ⟨β',hlβ,gβ,oβ⟩:=mk β β1 hH.len hl1;have cases_:∀c,c<H.length+(H1.length-H0.length)->(∃b,b<H1.length/\c=σ b)\/(c<H.length/\∀b,b<H0.length->σ b≠c):=by
  intro c hc
  by_cases hx:∃b,b<H0.length/\σ b=c
  ·obtain ⟨b,h1,h2⟩:=hx;exact .inl ⟨b,by omega,h2.symm⟩
  ·rcases Nat.lt_or_ge c H.length with l|l
   ·exact .inr ⟨l,fun b hb e=>hx ⟨b,hb,e⟩⟩
   ·exact .inl ⟨H0.length+(c-H.length),by omega,by rw [hσn];omega⟩
 have gH':∀b o,H1[b]?=some o->H'[σ b]?=some (o.ren σ):=fun b o ho=>by rw [gH b (lt_of_getElem? ho),List.getElem?_map,ho];rfl
 have gβ':∀b x,β1[b]?=some x->β'[σ b]?=some x:=fun b x hx=>by rw [gβ b (by rw [<-hl1];exact lt_of_getElem? hx)];exact hx
 have split:∀c q,wv H' β' c q->(∃b,b<H1.length/\c=σ b/\wv H1 β1 b q)\/((∀b,b<H0.length->σ b≠c)/\c<H.length/\wv H β c q):=by
  rintro c q ⟨o,x,h1,h2,h3,h4⟩;rcases cases_ c (by rw [<-hlH];exact lt_of_getElem? h1) with ⟨b,hb,rfl⟩|⟨hc,hne⟩
  ·rw [gH b hb,List.getElem?_map] at h1
   rw [gβ b hb] at h3;cases ho:H1[b]? with
   |none=>rw [ho] at h1;cases h1
   |some o'=>rw [ho] at h1;cases h1;exact .inl ⟨b,hb,rfl,o',x,ho,fun e=>h2 (SObj.ren_dead.2 e),h3,h4⟩
  ·rw [oH c hc hne] at h1
   rw [oβ c hc hne] at h3;exact .inr ⟨hne,hc,o,x,h1,h2,h3,h4⟩
 have ownX:∀c q,(∀b,b<H0.length->σ b≠c)->wv H β c q->q<w.heap.size/\∀b',¬wv H0 β0 b' q:=by
  intro c q hne ho;exact ⟨hH.owns_lt ho,fun b' ho'=>hne b' (olt ho') (hH.inj _ _ q (up b' q ho') ho)⟩
 have keep:Keeps β.length β β':=fun c x hc hx=>by
  rw [hH.len] at hc;rcases cases_ c (by omega) with ⟨b,hb,rfl⟩|⟨_,hne⟩
  ·have hb0:b<H0.length:=by
    rcases Nat.lt_or_ge b H0.length with l|l
    ·exact l
    ·have:=hσn (b-H0.length);rw [show H0.length+(b-H0.length)=b by omega] at this;omega
   obtain ⟨y,hy,hle⟩:=hext.keep b x hb0 (un0 b x hb0 hx);exact ⟨y,gβ' b y hy,hle⟩
  ·exact ⟨x,by rw [oβ c hc hne];exact hx,x.le_refl⟩
 have hheap:HeapOK G w' I' β' H':=by
  refine ⟨by rw [hlβ,hlH],fun c o x h1 h2=>?_,fun c c' q h1 h2=>?_,hH1.inI,hH1.glob⟩
  ·rcases cases_ c (by rw [<-hlH];exact lt_of_getElem? h1) with ⟨b,hb,rfl⟩|⟨hc,hne⟩
   ·rw [gH b hb,List.getElem?_map] at h1
    rw [gβ b hb] at h2;cases ho:H1[b]? with
    |none=>rw [ho] at h1;cases h1
    |some o'=>rw [ho] at h1;cases h1;exact (hH1.obj b o' x ho h2).ren gβ'
   ·rw [oH c hc hne] at h1
    rw [oβ c hc hne] at h2;have hob:=hH.obj c o x h1 h2
    by_cases hd:o= .dead
    ·subst hd;trivial
    ·have hox:∀q,x.block=some q->q<w.heap.size/\∀b',¬wv H0 β0 b' q:=fun q hq=>ownX c q hne ⟨o,x,h1,hd,h2,hq⟩
     refine hob.mono (fun q hq=>hext.old q (hox q hq).1 (hox q hq).2) hext.imm hext.cell keep (fun q o' hq hi=>?_);rcases hext.new q o' hi with h3|⟨b',h3⟩|h3
     ·exact h3
     ·exact absurd h3 ((hox q hq).2 b')
     ·have:=(hox q hq).1;omega
  ·have cross:∀b c q,(∀b,b<H0.length->σ b≠c)->wv H β c q->wv H1 β1 b q->False:=by
    intro b c q hne h1 h2;obtain ⟨l1,l2⟩:=ownX c q hne h1;rcases hext.own b q h2 with ⟨b'',h3⟩|h3
    ·exact l2 b'' h3
    ·omega
   rcases split c q h1 with ⟨b,_,rfl,a⟩|⟨a1,_,a⟩<;>rcases split c' q h2 with ⟨b',_,rfl,a'⟩|⟨a1',_,a'⟩
   ·rw [hH1.inj _ _ q a a']
   ·exact (cross _ _ q a1' a' a).elim
   ·exact (cross _ _ q a1 a a').elim
   ·exact hH.inj _ _ q a a'
 refine ⟨v,r.ren σ,I',β',H',rfl,hK r H1 H' hKr hm hlH gH' oH,hv.ren gβ',hheap,hext.imm,hext.cell,by rw [<-hH.len];exact keep,fun q hq hno=>hext.old q hq (fun b hb=>hno _ (up b q hb)),fun c q ho=>?_,fun q o hi=>?_,hext.size,hext.env⟩
 ·rcases split c q ho with ⟨b,_,_,a⟩|⟨_,_,a⟩
  ·rcases hext.own b q a with ⟨b',h3⟩|h3
   ·exact .inl ⟨_,up b' q h3⟩
   ·exact .inr h3
  ·exact .inl ⟨c,a⟩
 ·rcases hext.new q o hi with h3|⟨b,h3⟩|h3
  ·exact .inl h3
  ·exact .inr (.inl ⟨_,up b q h3⟩)
  ·exact .inr (.inr h3)
end
mutual
theorem SV.under_mono {m n:Nat} (h:m<=n):∀s:SV,s.under m=true->s.under n=true
 | .any,_=>rfl
 | .imm _,_=>rfl
 | .ptr b _,hs=>by simp only [SV.under,decide_eq_true_eq] at hs ⊢;omega
 | .osl b _ _,hs=>by simp only [SV.under,decide_eq_true_eq] at hs ⊢;omega
 | .asl b _ _,hs=>by simp only [SV.under,decide_eq_true_eq] at hs ⊢;omega
 | .map b,hs=>by simp only [SV.under,decide_eq_true_eq] at hs ⊢;omega
 | .yld b,hs=>by simp only [SV.under,decide_eq_true_eq] at hs ⊢;omega
 | .vec b _,hs=>by simp only [SV.under,decide_eq_true_eq] at hs ⊢;omega
 | .vptr b _ _,hs=>by simp only [SV.under,decide_eq_true_eq] at hs ⊢;omega
 | .fn _ x y,hs=>by
  simp only [SV.under,Bool.and_eq_true] at hs ⊢;exact ⟨jq h x hs.1,jq h y hs.2⟩
 | .iface _ v,hs=>by
  simp only [SV.under] at hs ⊢;exact SV.under_mono h v hs
 | .agg cs,hs=>by
  simp only [SV.under] at hs ⊢;exact jq h cs hs
 | .tup vs,hs=>by
  simp only [SV.under] at hs ⊢;exact jq h vs hs
theorem jq {m n:Nat} (h:m<=n):∀l:List SV,SV.under.allUnder m l=true->SV.under.allUnder n l=true
 |[],_=>rfl
 |s::r,hs=>by
  simp only [SV.under.allUnder,Bool.and_eq_true] at hs ⊢;exact ⟨SV.under_mono h s hs.1,jq h r hs.2⟩
end
theorem SObj.under_mono {m n:Nat} (h:m<=n) (o:SObj) (ho:o.under m=true):o.under n=true:=by
 cases o with
 |cells cs=>exact jq h cs ho
 |mapI _ es=>
  simp only [SObj.under,List.all_eq_true] at ho ⊢;exact fun e he=>SV.under_mono h _ (ho e he)
 |mapS es=>
  simp only [SObj.under,List.all_eq_true] at ho ⊢;exact fun e he=>SV.under_mono h _ (ho e he)
 |loop s f n t ps a b=>
  simp only [SObj.under,List.all_eq_true] at ho ⊢;exact fun e he=>SV.under_mono h _ (ho e he)
 |vec _ cs=>exact jq h cs ho
 |pin _ es _=>
  simp only [SObj.under,List.all_eq_true] at ho ⊢;exact fun e he=>SV.under_mono h _ (ho e he)
 |iter b _ _ _=>simp only [SObj.under,decide_eq_true_eq] at ho ⊢;omega
 |tok _ _=>rfl
 |dead=>rfl
 |free=>rfl
 |bld _=>rfl
 |btok _ _=>rfl
theorem zcd {m n:Nat} (h:m<=n) {l:List SObj} (hl:l.all (SObj.under m)=true):l.all (SObj.under n)=true:=by
 simp only [List.all_eq_true] at hl ⊢;exact fun o ho=>SObj.under_mono h o (hl o ho)
section
variable {P:Program} {G:List (Nat × D)} {fn:Func} {rd:Bool} {E:En P G fn rd} {t:List (Nat × SV)} {H K:List SObj} {k:List Item} {m:Nat} {all:Array Oper} {rest:List Oper} {done:List Eff} {o:Oper}
theorem yfe {c:Code} (h:SW E (.code c:: .inScope c::k) t H):SW E (.code (.scope c)::k) t H:=zdg (fun _ _ _=>step_lone_go (by simp [stepG,stepG.exec,En.at,atR,Frame.at])) h
theorem zah {ty e n:Nat} {x ix:Operand} {b off len i:Nat} {mm:Int} {kk:IntKind} (hop:o.op= .indexAddr ty x ix)
  (hw:zu all t o.guard=some true) (hd:yb fn.ntmps o.dst=true) (hx:zl G t x= .osl b off len) (hi:zl G t ix= .imm (.val (.int kk mm)))
  (hu:P.underlying ty=some (.slice e)) (hn:xe P e=some n) (hmm:mm=(i:Int)) (hr:i<len)
  (h:SWr E all rest k (xj t o.dst (.ptr b (off+i*n))) H):SWr E all (o::rest) k t H:=
 qy hw hd (by
  subst hmm;rw [hop];simp only [sop,hi,jv,hu,hn,hx];rw [if_pos (by omega)]
  simp) (Nat.le_refl _) h
theorem yhw {t e kk by_:Nat} {z:Value} {k1 k2:IntKind} (hu:P.underlying t=some (.slice e)) (hk:xe P e=some kk) (hby:js P e=some by_) (w:World):
  (Instr.makeSlice t (.int k1 0) (.int k2 0)).run P w= .ok (.slice (some ⟨w.heap.size,0,none⟩) 0 0) (w.alloc (.cells ((Array.range (0*kk)).map (z.cells[· % z.cells.size]!)) e)):=by
 have hinfo:∀w:World,(typeInfo e).run P w= .ok ((P.info? e).getD default) w/\((P.info? e).getD default).bytes=by_:=by
  intro w;unfold js at hby;cases hi:P.info? e with
  |none=>simp [hi] at hby
  |some i=>simp [hi] at hby;simp [typeInfo,hi,hby]
 have wc:=zlo (c:=0) (by omega) (by omega);have hinf:=hinfo w;simp only [Instr.makeSlice,Sem.run_bind,run_underlying hu,Result.andThen_ok,asInt,asIntOf,Sem.run_pure,hinf.1,hinf.2,wc];rw [if_neg (by simp)];simp only [Sem.run_bind,Result.andThen_ok,run_askRoom,ys hk];have hn0:(0:Int).toNat*kk=0:=by simp
 rw [if_pos hn0];have ha:((Array.range ((0:Int).toNat*kk)).map fun x=>(#[]:Array Value)[x % (#[]:Array Value).size]!)=((Array.range (0*kk)).map (z.cells[· % z.cells.size]!)):=by
  apply Array.ext';simp
 simp only [Sem.run_pure,Result.andThen_ok,newRow,Sem.run_bind,run_newObj,ha];rfl
theorem zxx {w:World} {I:Imm} {β:List Bnd} {ρ:Operand->Value} {ty e kk by_:Nat} {lx cx:Operand} {k1 k2:IntKind} (hop:o.op= .makeSlice ty lx cx) (hH:HeapOK G w I β H)
  (hl:Rep w I β (ρ lx) (.imm (.val (.int k1 0)))) (hc:Rep w I β (ρ cx) (.imm (.val (.int k2 0)))) (hu:P.underlying ty=some (.slice e)) (hk:xe P e=some kk) (hby:js P e=some by_):
  OpRun P G (execOp ρ o) w I β H (.osl H.length 0 0) (H++[.cells []]):=by
 obtain ⟨dst,op,type,pos,after,guard⟩:=o;simp only at hop;subst hop;generalize hvl:ρ lx=vl at hl;generalize hvc:ρ cx=vc at hc;cases hl with|imm hl=>cases hl with|val _=>
 cases hc with|imm hc=>cases hc with|val _=>
 have hr:=yhw (k1:=k1) (k2:=k2) (z:=undef) hu hk hby w;have hemp:((Array.range (0*kk)).map (undef.cells[· % undef.cells.size]!))=#[]:=by apply Array.ext';simp
 rw [hemp] at hr;obtain ⟨h1,h2,_⟩:=zgk (T:=e) (vs:=#[]) (cs:=[]) hH .nil;have:=OpRun.value (P:=P) (H':=H++[.cells []]) hr (.osl H.length w.heap.size 0 0 0 (by rw [<-hH.len];simp) (Nat.le_refl _) (by unfold maxLen;omega)) h1 h2;simp only [execOp,hvl,hvc];exact this
theorem zms {ty e by_:Nat} {z:Value} {lx cx:Operand} {n:Nat} {k1 k2:IntKind} {l1 l2:Int} {zz:SV} (hop:o.op= .makeSlice ty lx cx)
  (hw:zu all t o.guard=some true) (hd:yb fn.ntmps o.dst=true) (hl:zl G t lx= .imm (.val (.int k1 l1))) (hc:zl G t cx= .imm (.val (.int k2 l2)))
  (hu:P.underlying ty=some (.slice e)) (hk:xe P e=some 1) (hby:js P e=some by_) (hz:jx P e=some z) (hb:by_<=65536/\z.cells.size=1) (hzz:zdx z=[zz])
  (h1:l1=(n:Int)) (h2:l2=(n:Int)) (hn2:n<=1073741824)
  (h:SWr E all rest k (xj t o.dst (.osl H.length 0 n)) (H++[.cells (List.replicate n zz)])):SWr E all (o::rest) k t H:=by
 subst h1 h2;cases n with
 |zero=>
  refine qq hw hd (fun c e=>by rw [hop] at e;cases e) (by simp) (fun ρ w I β hH hev=>?_) h;have a1:=hev lx;have a2:=hev cx;rw [hl] at a1;rw [hc] at a2;exact zxx hop hH a1 a2 hu hk hby
 |succ n=>
  refine qy (H':=H++[.cells (List.replicate (n+1) zz)]) hw hd ?_ (by simp) h;rw [hop];simp only [sop,hl,hc,zeq,hu,hk,hby,hz];rw [if_pos ⟨hb.1,hb.2,by omega,by omega,Nat.le_refl _⟩,if_neg (by omega),if_pos trivial,hzz,yql];rfl
end
section
variable {P:Program} {G:List (Nat × D)} {w:World} {I:Imm} {β:List Bnd} {H:List SObj}
theorem yhx {t:TypeId} {len k:Nat} {ss:List (Nat × SV)} {ps:Array (Nat × Value)} {rows:List (List D)} (h:ww P t len ss H=some (.imm (.isl k rows),H)) (hrl:rows.length=len) (hH:HeapOK G w I β H) (hp:RepParts w I β ps.toList ss):
  ∃u w' I' β',(Instr.buildSlice t len ps).run P w= .ok u w'/\Rep w' I' β' u (.asl H.length k rows)/\HeapOK G w' I' β' (H++[.tok k len])/\Ext H.length w I β H w' I' β' (H++[.tok k len]):=by
 unfold ww at h;split at h<;>first|(cases h;done)|skip
 rename_i e hu
 split at h<;>first|(cases h;done)|skip
 rename_i k' z hk hz
 split at h
 ·cases h
 rename_i hbig
 split at h
 ·split at h<;>cases h
 ·rename_i h0
  split at h<;>first|(cases h;done)|skip
  rename_i rows' hf
  split at h<;>first|(cases h;done)|skip
  rename_i hpl
  cases h;have hz0:¬len*k=0:=by
   intro hc;rcases Nat.mul_eq_zero.1 hc with hc|hc
   ·exact h0 hc
   ·exact hbig (.inr hc)
  have hlk:len<=len*k:=Nat.le_mul_of_pos_right len (Nat.pos_of_ne_zero fun h=>hbig (.inr h));have hb24:¬len*k>2 ^ 24:=fun h=>hbig (.inl h)
  obtain ⟨vs',B,h1,h2,h3,h4⟩:=zuu (vs:=(Array.range (len*k)).map (z.cells[· % z.cells.size]!)) hf hp (by simp [hpl]);simp only [Nat.zero_mul,List.take_zero,List.nil_append] at h2;obtain ⟨h5,h6⟩:=hH.allocTok (m:=H.length) (k:=k) (n:=len) (cap:=len) (vs:=vs') (T:=e) (by rw [<-Array.length_toList,h2, <-hrl];exact h3.1) (Nat.le_refl _) (by unfold maxLen;omega);have hrun:(Instr.buildSlice t len ps).run P w= .ok (.slice (some ⟨w.heap.size,0,none⟩) len len) (w.alloc (.cells vs' e)):=by
   simp only [Instr.buildSlice,Sem.run_bind,run_underlying hu,Result.andThen_ok,ys hk];rw [if_neg (fun h=>hbig (.inl h)),if_neg hz0];simp only [Sem.run_pure,Sem.run_bind,Result.andThen_ok,zae hz,h1,newRow,run_newObj];rfl
  refine ⟨_,_,_,_,hrun,.asl H.length k rows _ _ len ?_ (by rw [<-hH.len];simp) ⟨_,len,rfl⟩ (by omega) (fun _=>rfl),h5,h6⟩;have:=(h3.mono h6.imm h6.cell).drep (by omega) (fun o ho=>⟨.inr ⟨rfl,ho⟩,by rw [cell_of_heap (yq _), <-h2];simp⟩) (Nat.le_refl _) (by unfold maxLen;omega);exact this
end
section
variable {P:Program} {G:List (Nat × D)} {fn:Func} {rd:Bool} {E:En P G fn rd} {t:List (Nat × SV)} {H K:List SObj} {k:List Item} {m:Nat} {all:Array Oper} {rest:List Oper} {done:List Eff} {o:Oper}
theorem zta {ty len kk:Nat} {ps:Array (Nat × Operand)} {rows:List (List D)} (hop:o.op= .buildSlice ty len ps) (hw:zu all t o.guard=some true) (hd:yb fn.ntmps o.dst=true)
  (hb:ww P ty len (ps.toList.map fun p=>(p.1,zl G t p.2)) H=some (.imm (.isl kk rows),H)) (hrl:rows.length=len)
  (h:SWr E all rest k (xj t o.dst (.asl H.length kk rows)) (H++[.tok kk len])):SWr E all (o::rest) k t H:=by
 refine qq hw hd (fun c e=>by rw [hop] at e;cases e) (by simp) (fun ρ w I β hH hev=>?_) h;obtain ⟨dst,op,type,pos,after,guard⟩:=o;simp only at hop;subst hop;obtain ⟨u,w',I',β',h1,h2,h3,h4⟩:=yhx (ps:=ps.map fun p=>(p.1,ρ p.2)) hb hrl hH (by simpa using zgp hev ps.toList);exact OpRun.value h1 h2 h3 h4
theorem yul {ty e n len:Nat} {x ix:Operand} {b off i:Nat} {mm:Int} {kk:IntKind} (hx:zl G t x= .ptr b off) (hi:zl G t ix= .imm (.val (.int kk mm)))
  (hu:P.underlying ty=some (.array len e)) (hn:xe P e=some n) (hmm:mm=(i:Int)) (hr:i<len) (H:List SObj):sop P (.indexAddr ty x ix) (zl G t) H=some (.ptr b (off+i*n),H):=by
 subst hmm;simp only [sop,hi,jv,hu,hn,hx];rw [if_pos (by omega)];simp
theorem zlx {ty e n len:Nat} {x ix:Operand} {b off i:Nat} {mm:Int} {kk:IntKind} (hop:o.op= .indexAddr ty x ix)
  (hw:zu all t o.guard=some true) (hd:yb fn.ntmps o.dst=true) (hx:zl G t x= .ptr b off) (hi:zl G t ix= .imm (.val (.int kk mm)))
  (hu:P.underlying ty=some (.array len e)) (hn:xe P e=some n) (hmm:mm=(i:Int)) (hr:i<len)
  (h:SWr E all rest k (xj t o.dst (.ptr b (off+i*n))) H):SWr E all (o::rest) k t H:=
 qy hw hd (by rw [hop];exact yul hx hi hu hn hmm hr H) (Nat.le_refl _) h
end
section
variable {P:Program} {G:List (Nat × D)} {w:World} {I:Imm} {β:List Bnd} {H:List SObj} {o:Oper} {ρ:Operand->Value}
theorem ybt {b n kk by_ e e':Nat} {z:Value} {sx xx:Operand} {sT xT:Nat} {cs:List SV} {new:List (List D)} (hop:o.op= .call ⟨.builtin .append,#[sx,xx],#[sT,xT]⟩)
  (hH:HeapOK G w I β H) (hr:Rep w I β (ρ sx) (.vec b n)) (hrx:Rep w I β (ρ xx) (.imm (.isl kk new))) (hu:P.underlying sT=some (.slice e)) (hxu:P.underlying xT=some (.slice e'))
  (hpk:xe P e=some kk) (hby:js P e=some by_) (hz:jx P e=some z) (hcond:by_<=65536/\z.cells.size=kk) (hb:H[b]?=some (.vec kk cs)) (hlen:cs.length=n*kk) (hk:1<=kk) (hnew:1<=new.length) (hsmall:n+new.length<=1073741824):
  OpRun P G (execOp ρ o) w I β H (.vec b (n+new.length)) (H.set b (.vec kk (cs++new.flatten.map SV.imm))):=by
 obtain ⟨hbu,hnow⟩:=zlv hH hb hr hlen hk;generalize hxv:ρ xx=xv at hrx;cases hrx with|imm hrx=>
 obtain ⟨B,hB,hxl,hxc⟩:=hrx.flat (P:=P);have hBs:B.length=new.length*kk:=hB.len;have hfl:(new.flatten.map SV.imm).length=new.length*kk:=by
  rw [List.length_map];have:∀L:List (List D),(∀i (h:i<L.length),(L[i]'h).length=kk)->L.flatten.length=L.length*kk:=by
   intro L
   induction L with
   |nil=>intro _;simp
   |cons r L ih=>
    intro hall;have h0:r.length=kk:=hall 0 (by simp);have h1:=ih (fun i h=>by have:=hall (i+1) (by simpa using h);simpa using this);simp only [List.flatten_cons,List.length_append,List.length_cons,h0,h1,Nat.succ_mul];omega
  exact this new hB.row
 have hblt:=lt_of_getElem? hb;have hbxlt:=lt_of_getElem? hbu;have hnl:(cs++new.flatten.map SV.imm).length=(n+new.length)*kk:=by rw [List.length_append,hlen,hfl,Nat.add_mul]
 obtain ⟨dst,op,type,pos,after,guard⟩:=o;simp only at hop;subst hop;have rowsOK:∀(w':World) (β':List Bnd) (vs:List Value) (vs':Array Value),(∀c o,I c o->w'.cell? ⟨c,o,none⟩=w.cell? ⟨c,o,none⟩)->Keeps β.length β β'->vs.length=n*kk->
   (∀j (h:j<cs.length) (h':j<vs.length),Rep w I β (vs[j]'h') (cs[j]'h))->(∀j,j<n*kk+new.length*kk->vs'[j]?=(vs++B)[j]?)->
   ∀j (h:j<(cs++new.flatten.map SV.imm).length) (h':j<vs'.size),Rep w' I β' (vs'[j]'h') ((cs++new.flatten.map SV.imm)[j]'h):=by
  intro w' β' vs vs' hcell hkeep hvl hrep hget j hj hj';have hj2:j<n*kk+new.length*kk:=by rw [hnl,Nat.add_mul] at hj;exact hj
  have hg:=hget j hj2;rw [Array.getElem?_eq_getElem hj'] at hg;rcases Nat.lt_or_ge j (n*kk) with hlt|hge
  ·have hjc:j<cs.length:=by omega
   have hjv:j<vs.length:=by omega
   rw [List.getElem_append_left hjc];rw [List.getElem?_append_left hjv,List.getElem?_eq_getElem hjv] at hg;rw [Option.some.inj hg];exact (hrep j hjc hjv).mono (fun _ _ h=>h) hcell hkeep
  ·rw [List.getElem?_append_right (by omega),hvl] at hg
   obtain ⟨d,hd1,hd2⟩:=yey hB hk hg.symm;have:(cs++new.flatten.map SV.imm)[j]?=some (.imm d):=by
    rw [List.getElem?_append_right (by omega),hlen,List.getElem?_map,hd1];rfl
   rw [List.getElem?_eq_getElem hj] at this;rw [Option.some.inj this];exact .imm (hd2.mono (fun _ _ h=>h) hcell)
 have grow:∀(A:List Value) (ua:Option Addr) (ucap:Nat),ρ sx= .slice ua n ucap->A.length=n*kk->(∀j (h:j<cs.length) (h':j<A.length),Rep w I β (A[j]'h') (cs[j]'h))->
   (∀w':World,w'.heap=w.heap->(Builtin.firstCells kk n (.slice ua n ucap)).run P w'= .ok A.toArray w')->¬n+new.length<=ucap->
   OpRun P G (execOp ρ ⟨dst,.call ⟨.builtin .append,#[sx,xx],#[sT,xT]⟩,type,pos,after,guard⟩) w I β H (.vec b (n+new.length)) (H.set b (.vec kk (cs++new.flatten.map .imm))):=by
  intro A ua ucap hsv hAs hArep hsc hg;obtain ⟨newCap,rest',hc1,hc2,hrest,hrun⟩:=zgc (w:=w) (ty:=type) hu hxu hpk hby hz (base:=ua) (n:=n) (cap:=ucap) (A:=A) (B:=B) hxl (fun w' hw'=>hxc w' (fun c o _=>by simp [World.cell?,hw'])) hsc hg hsmall hcond.1;have hrs:rest'.size=(newCap-(n+new.length))*kk:=by rw [hrest];simp [Builtin.zeroCells,hcond.2]
  have hvs:(A.toArray++B.toArray++rest').size=newCap*kk:=by
   simp only [Array.size_append,List.size_toArray,hAs,hBs,hrs];rw [<-Nat.add_mul, <-Nat.add_mul];congr 1;omega
  have hnewblk:(w.drew.alloc (.cells (A.toArray++B.toArray++rest') e)).heap[w.heap.size]?=some (.cells (A.toArray++B.toArray++rest') e (0,0)):=yq (w:=w.drew) _;have hold:∀c,c<w.heap.size->(w.drew.alloc (.cells (A.toArray++B.toArray++rest') e)).heap[c]?=w.heap[c]?:=fun c hc=>by
   show (w.heap.push _)[c]?=_;rw [Array.getElem?_push,if_neg (by omega)]
  have hcell:∀c o,I c o->(w.drew.alloc (.cells (A.toArray++B.toArray++rest') e)).cell? ⟨c,o,none⟩=w.cell? ⟨c,o,none⟩:=fun c o hc=>ye (hold c (hH.inI c o hc)) o
  rw [hsv] at hbu;have hkeep:Keeps β.length β (β.set b (.tok (.slice (some ⟨w.heap.size,0,none⟩) (n+new.length) newCap))):=by
   intro b' x _ hb'
   by_cases e:b'=b
   ·subst e
    rw [hbu] at hb';cases hb';exact ⟨_,List.getElem?_set_self hbxlt,.inr ⟨_,rfl,.inr ⟨_,_,_,_,_,_,rfl,rfl,by omega⟩⟩⟩
   ·exact ⟨x,by rw [List.getElem?_set_ne (Ne.symm e)];exact hb',x.le_refl⟩
  obtain ⟨g1,g2⟩:=hH.moveVec (m:=H.length) (n:=n) (n':=n+new.length) (u':=.slice (some ⟨w.heap.size,0,none⟩) (n+new.length) newCap) (w':=w.drew.alloc (.cells (A.toArray++B.toArray++rest') e)) (I':=I) (o1:=.vec kk (cs++new.flatten.map .imm)) hb (by simp) hbu ⟨_,_,_,_,rfl,rfl⟩ (by omega)
   (by simp) (fun c hc _=>hold c hc) hcell (fun _ _ h=>h) (fun _ _ h=>.inl h) (fun c o hi=>by have:=hH.inI c o hi;simp;omega) (fun c hc=>by cases hc;exact .inr (Nat.le_refl _))
   (.inr ⟨w.heap.size,n+new.length,newCap,_,e,rfl,hnewblk,hvs,hc1,hc2,hnl,rowsOK _ _ A _ hcell hkeep hAs hArep (fun j hj=>by
    rw [Array.getElem?_append_left (by simp [hAs,hBs];omega)];simp),fun o hi=>by have:=hH.inI _ o hi;omega⟩)
  exact .value (by rw [<-hsv] at hrun;simpa [builtin,hxv] using hrun) (.vec b _ _ _ (n+new.length) (List.getElem?_set_self hbxlt) ⟨_,_,rfl⟩ (Nat.le_refl _) ⟨_,_,_,rfl⟩ (fun _=>rfl)) g1 g2
 rcases hnow with ⟨hn0,hsv,hcs⟩|⟨c,cap,vs,T,hsv,h2,h3,h4,h5,h6,h7⟩
 ·subst hn0
  exact grow [] none 0 hsv (by simp) (fun j h h'=>by simp at h') (fun w' _=>by rfl) (by omega)
 ·by_cases hfit:n+new.length<=cap
  ·have hle2:n*kk+new.length*kk<=vs.size:=by rw [h3, <-Nat.add_mul];exact Nat.mul_le_mul_right kk hfit
   have hrun:=jb (w:=w) (ty:=type) hu hxu hpk (n:=n) (cap:=cap) (m:=new.length) (c:=c) hxl (hxc w (fun _ _ _=>rfl)) hfit h2 hB.len hB.one h3;generalize hW:w.setRow c (vs.toList.take (n*kk)++B++vs.toList.drop (n*kk+new.length*kk)).toArray=W at hrun;have hnb:W.heap[c]?=some (.cells (vs.toList.take (n*kk)++B++vs.toList.drop (n*kk+new.length*kk)).toArray T (0,0)):=by rw [<-hW];exact setRow_heap w c vs _ T _ h2
   have hother:∀c',c'≠c->W.heap[c']?=w.heap[c']?:=by
    intro c' hne;rw [<-hW];simp [World.setRow,Array.getElem?_modify,Ne.symm hne]
   have hsz:W.heap.size=w.heap.size:=by rw [<-hW];simp [World.setRow]
   have hcell:∀c' o,I c' o->W.cell? ⟨c',o,none⟩=w.cell? ⟨c',o,none⟩:=fun c' o hi=>ye (hother c' (fun e=>h7 o (e ▸ hi))) o
   rw [hsv] at hbu;have hkeep:Keeps β.length β (β.set b (.tok (.slice (some ⟨c,0,none⟩) (n+new.length) cap))):=by
    intro b' x _ hb'
    by_cases e:b'=b
    ·subst e
     rw [hbu] at hb';cases hb';exact ⟨_,List.getElem?_set_self hbxlt,.inr ⟨_,rfl,.inr ⟨_,_,_,_,_,_,rfl,rfl,by omega⟩⟩⟩
    ·exact ⟨x,by rw [List.getElem?_set_ne (Ne.symm e)];exact hb',x.le_refl⟩
   have hAl:(vs.toList.take (n*kk)).length=n*kk:=by simp;omega
   obtain ⟨g1,g2⟩:=hH.moveVec (m:=H.length) (n:=n) (n':=n+new.length) (u':=.slice (some ⟨c,0,none⟩) (n+new.length) cap) (w':=W) (I':=I) (o1:=.vec kk (cs++new.flatten.map .imm)) hb (by simp) hbu ⟨_,_,_,_,rfl,rfl⟩ (by omega)
    (by omega) (fun c' _ hne=>hother c' (fun e=>hne (by rw [e];rfl))) hcell (fun _ _ h=>h) (fun _ _ h=>.inl h) (fun c' o hi=>by rw [hsz];exact hH.inI c' o hi) (fun c' hc=>by cases hc;exact .inl rfl)
    (.inr ⟨c,n+new.length,cap,_,T,rfl,hnb,by simp only [List.size_toArray,List.length_append,List.length_take,List.length_drop,Array.length_toList,hBs];omega,hfit,h5,hnl,
     rowsOK _ _ (vs.toList.take (n*kk)) _ hcell hkeep hAl (fun j h h'=>by
      have hj:j<vs.size:=by simp at h';omega
      have:=h6 j h hj;simpa using this) (fun j hj=>by
      rw [List.getElem?_toArray,List.getElem?_append_left (by rw [List.length_append,hAl,hBs];exact hj)]),h7⟩) (by rw [<-hW];exact ⟨rfl,rfl⟩)
   exact .value (by rw [<-hsv] at hrun;simpa [builtin,hxv] using hrun) (.vec b _ _ _ (n+new.length) (List.getElem?_set_self hbxlt) ⟨_,_,rfl⟩ (Nat.le_refl _) ⟨_,_,_,rfl⟩ (fun _=>rfl)) g1 g2
  ·have hAl:(vs.toList.take (n*kk)).length=n*kk:=by
    have:n*kk<=vs.size:=by rw [h3];exact Nat.mul_le_mul_right kk h4
    simp;omega
   refine grow (vs.toList.take (n*kk)) _ cap hsv hAl (fun j h h'=>by
      have hj:j<vs.size:=by simp at h';omega
      have:=h6 j h hj
      simpa using this) (fun w' hw'=>?_) hfit
   have:=run_loadCells_list (P:=P) w' ⟨c,0,none⟩ (vs.toList.take (n*kk)) (fun j x hx=>by
    have hj:j<n*kk:=by rw [<-hAl];exact lt_of_getElem? hx
    rw [qe,ye (w:=w) (by rw [hw']),cell_of_heap h2];rw [List.getElem?_take_of_lt hj] at hx
    simpa using hx)
   rw [hAl] at this;simpa [Builtin.firstCells] using this
theorem ybu {b n off ns:Nat} {ax vx:Operand} {ty:Nat} {vcs:List SV} {kk:Nat} {cs:List SV} (hop:o.op= .store ty ax vx) (hH:HeapOK G w I β H) (hr:Rep w I β (ρ ax) (.vptr b n off)) (hrv:Reps w I β (ρ vx).cells.toList vcs)
  (hone:vcs.all SV.one=true) (hsz:xe P ty=some ns) (hns:vcs.length=ns) (hb:H[b]?=some (.vec kk cs)) (hlen:cs.length=n*kk) (hk:1<=kk) (hoff:off+ns<=cs.length) (hpos:1<=ns):
  OpRun P G (execOp ρ o) w I β H .any (H.set b (.vec kk (cs.take off++vcs++cs.drop (off+ns)))):=by
 generalize hpv:ρ ax=pv at hr;cases hr with
 |vptr _ _ _ _ a m cap hbu hle hv' heq=>
 rcases hH.obj b _ _ hb hbu with ⟨rfl,e⟩|⟨c,n',cap',vs,T,e,a1,a2,a3,a4,a5,a6,a7⟩
 ·simp at hoff
  omega
 ·cases e
  have hn':n=m:=by
   rw [hlen] at a5;exact Nat.eq_of_mul_eq_mul_right hk a5
  subst hn';obtain ⟨c',e,rfl⟩:=heq rfl;cases e;have hLl:(ρ vx).cells.toList.length=ns:=by rw [hrv.len];exact hns
  have hcsz:(ρ vx).cells.size=ns:=by simpa using hLl
  have hle2:off+ns<=vs.size:=by
   rw [a2];rw [a5] at hoff;exact Nat.le_trans hoff (Nat.mul_le_mul_right kk a3)
  generalize hL:(ρ vx).cells.toList=L at hrv hLl
  have hst:=run_storeCells_at (P:=P) c off T L 0 vs w a1 (by omega) (fun v hv=>by
   obtain ⟨j,hj,rfl⟩:=List.mem_iff_getElem.1 hv;have hj':j<vcs.length:=by rw [<-hrv.len];exact hj
   exact (hrv.rep j _ _ (List.getElem?_eq_getElem hj) (List.getElem?_eq_getElem hj')).oneCell (List.all_eq_true.1 hone _ (List.getElem_mem hj')))
  simp only [Nat.add_zero,hLl] at hst;generalize hW:(vs.toList.take off++L++vs.toList.drop (off+ns)).toArray=W at hst;have hWs:W.size=vs.size:=by rw [<-hW];simp;omega
  have hWj:∀j (hj:j<W.size),W[j]?=if off<=j/\j<off+ns then L[j-off]? else vs[j]?:=fun j hj=>by
   rw [<-hW,List.getElem?_toArray];rcases Nat.lt_or_ge j off with h1|h1
   ·rw [List.append_assoc,List.getElem?_append_left (by simp;omega),List.getElem?_take_of_lt h1,if_neg (by omega)];simp
   ·rcases Nat.lt_or_ge j (off+ns) with h2|h2
    ·rw [List.append_assoc,List.getElem?_append_right (by simp;omega),List.getElem?_append_left (by simp;omega),if_pos ⟨h1,h2⟩]
     congr 1
     simp;omega
    ·rw [List.getElem?_append_right (by simp;omega),List.getElem?_drop,if_neg (by omega)]
     simp
     congr 1
     omega
  have hnew':(w.setRow c W).heap[c]?=some (.cells W T (0,0)):=setRow_heap w c vs W T (0,0) a1;have hother:∀c',c'≠c->(w.setRow c W).heap[c']?=w.heap[c']?:=by
   intro c' hne;simp [World.setRow,Array.getElem?_modify,Ne.symm hne]
  have hIc:∀b o,I b o->(w.setRow c W).cell? ⟨b,o,none⟩=w.cell? ⟨b,o,none⟩:=fun b' o' hi=>ye (hother b' (fun e=>a7 o' (e ▸ hi))) o'
  have hcl:(cs.take off++vcs++cs.drop (off+ns)).length=cs.length:=by simp;omega
  obtain ⟨g1,g2⟩:=hH.changeB (m:=H.length) (w':=w.setRow c W) (o':=.vec kk (cs.take off++vcs++cs.drop (off+ns))) hb (by simp) hbu rfl hother (by simp [World.setRow]) a7
   (.inr ⟨c,n,cap,_,T,rfl,hnew',by rw [hWs];exact a2,a3,a4,by rw [hcl];exact a5,fun j hj hj'=>by
    have hj1:j<cs.length:=by rw [<-hcl];exact hj
    have hj2:j<vs.size:=by rw [<-hWs];exact hj'
    have h2:=Array.getElem?_eq_getElem hj';rw [hWj j hj'] at h2;have h3:=List.getElem?_eq_getElem hj;generalize (cs.take off++vcs++cs.drop (off+ns))[j]'hj=y at h3 ⊢
    by_cases hin:off<=j/\j<off+ns
    ·rw [if_pos hin] at h2
     rw [List.append_assoc,List.getElem?_append_right (by simp;omega),List.getElem?_append_left (by simp;omega)] at h3;have e1:j-(cs.take off).length=j-off:=by simp;omega
     rw [e1] at h3;exact (hrv.rep (j-off) _ _ h2 h3).mono (fun _ _ h=>h) hIc (.refl _ _)
    ·rw [if_neg hin,Array.getElem?_eq_getElem hj2] at h2
     have h4:(cs.take off++vcs++cs.drop (off+ns))[j]?=cs[j]?:=by
      rcases Nat.lt_or_ge j off with h1|h1
      ·rw [List.append_assoc,List.getElem?_append_left (by simp;omega),List.getElem?_take_of_lt h1]
      ·rw [List.getElem?_append_right (by simp;omega),List.getElem?_drop]
       congr 1
       simp;omega
     rw [h4,List.getElem?_eq_getElem hj1] at h3;rw [<-Option.some.inj h2, <-Option.some.inj h3]
     exact (a6 j hj1 hj2).mono (fun _ _ h=>h) hIc (.refl _ _),a7⟩)
  obtain ⟨dst,op,type,pos,after,guard⟩:=o;simp only at hop;subst hop;refine OpRun.unit (w':=w.setRow c W) ?_ g1 g2;rw [hpv];simp only [Instr.storeAt,Instr.sureAddr,storeVar,Sem.run_bind,Sem.run_pure,Result.andThen_ok,ys hsz];rw [if_neg (by rw [hcsz];simp),hL];exact hst
end
section
variable {P:Program} {G:List (Nat × D)} {fn:Func} {rd:Bool} {E:En P G fn rd} {t:List (Nat × SV)} {H K:List SObj} {k:List Item} {m:Nat} {all:Array Oper} {rest:List Oper} {done:List Eff} {o:Oper}
theorem ybv {b n kk by_ e e':Nat} {z:Value} {sx xx:Operand} {sT xT:Nat} {cs:List SV} {new:List (List D)} (hop:o.op= .call ⟨.builtin .append,#[sx,xx],#[sT,xT]⟩)
  (hw:zu all t o.guard=some true) (hd:yb fn.ntmps o.dst=true) (hs:zl G t sx= .vec b n) (hx:zl G t xx= .imm (.isl kk new)) (hu:P.underlying sT=some (.slice e)) (hxu:P.underlying xT=some (.slice e'))
  (hpk:xe P e=some kk) (hby:js P e=some by_) (hz:jx P e=some z) (hcond:by_<=65536/\z.cells.size=kk) (hm:m<=K.length) (hb:K[b]?=some (.vec kk cs)) (hlen:cs.length=n*kk) (hk:1<=kk) (hnew:1<=new.length) (hsmall:n+new.length<=1073741824)
  (h:SWe E m all rest k (xj t o.dst (.vec b (n+new.length))) (K.set b (.vec kk (cs++new.flatten.map SV.imm))) (done++[⟨.vec b (n+new.length),[b],some (b,.vec kk (cs++new.flatten.map SV.imm))⟩])):SWe E m all (o::rest) k t K done:=
 zei (e:=⟨.vec b (n+new.length),[b],some (b,.vec kk (cs++new.flatten.map SV.imm))⟩) ⟨hd,.inr ⟨hw,fun K' hl ha ρ w I β hH _ hops=>by
  have hr:=hops sx (by rw [hop];simp [Op.operands,Call.operands]);rw [hs] at hr;have hrx:=hops xx (by rw [hop];simp [Op.operands,Call.operands]);rw [hx] at hrx;have hb':K'[b]?=some (.vec kk cs):=by rw [ha b (.inl (by simp))];exact hb
  obtain ⟨nn,v,w',I',β',h1,h2,h3,h4,h5⟩:=ybt hop hH hr hrx hu hxu hpk hby hz hcond hb' hlen hk hnew hsmall;have hk:Keeps β.length β β':=by rw [hH.len];exact h5.keep
  exact .inl ⟨nn,v,w',I',β',h1,h2,h3,h4,h5.weaken (by omega),hk.toD,fun b hb _=>hk.dummy (lt_of_getElem? hb) hb⟩⟩⟩ h
theorem zai (b0 j b n kk : Nat) {cs0 cs : List SV} {ds : List D} (hb0 : H[b0]? = some (.cells cs0)) (hj : cs0[j]? = some (.vec b n)) (hb : H[b]? = some (.vec kk cs)) (hone : cs.all SV.one = true) (hds : cs.mapM SV.toD = some ds) (hlen : cs.length = n * kk) (hk : 1 <= kk)
    (h : SW E k t ((H.set b .dead).set b0 (.cells (cs0.set j (.imm (.isl kk (qo kk ds n))))))) : SW E k t H := by
  refine ⟨fun a w I β cs' hsim => ?_⟩
  have hbl := lt_of_getElem? hb
  have hbl0 := lt_of_getElem? hb0
  have hjl := lt_of_getElem? hj
  have hne0 : b0 ≠ b := by rintro rfl; rw [hb0] at hb; cases hb
  obtain ⟨x0, hx0⟩ : ∃ x0, β[b0]? = some x0 := ⟨_, List.getElem?_eq_getElem (by rw [hsim.heap.len]; exact hbl0)⟩
  have hobj := hsim.heap.obj b0 _ _ hb0 hx0
  cases x0 with
  | tok u => exact hobj.elim
  | blk c0 =>
  obtain ⟨vs0, T0, o1, o2, o3, o4⟩ := hobj
  have hj2 : j < vs0.size := by rw [o2]; exact hjl
  have hr := o3 j hjl hj2
  rw [show cs0[j] = .vec b n by rw [List.getElem?_eq_getElem hjl] at hj; exact Option.some.inj hj] at hr
  obtain ⟨hbu, hnow⟩ := zlv hsim.heap hb hr hlen hk
  obtain ⟨hdl, hdg⟩ := zns hds
  generalize hNC : SObj.cells (cs0.set j (.imm (.isl kk (qo kk ds n)))) = NC at h
  have hget : ∀ b', ((H.set b .dead).set b0 NC)[b']? = if b' = b0 then some NC else if b' = b then some .dead else H[b']? := fun b' => by
    by_cases e1 : b' = b0
    · subst e1; rw [if_pos rfl, List.getElem?_set_self (by rw [List.length_set]; exact hbl0)]
    · rw [if_neg e1, List.getElem?_set_ne (Ne.symm e1)]
      by_cases e2 : b' = b
      · subst e2; rw [if_pos rfl, List.getElem?_set_self hbl]
      · rw [if_neg e2, List.getElem?_set_ne (Ne.symm e2)]
  have hsub : ∀ b' c', wv ((H.set b .dead).set b0 NC) β b' c' -> b' ≠ b /\ wv H β b' c' := by
    rintro b' c' ⟨o, x, h1, h2, h3, h4⟩
    rw [hget] at h1
    split at h1
    · rename_i e; subst e
      exact ⟨hne0, _, x, hb0, by simp, h3, h4⟩
    · split at h1
      · cases h1; exact absurd rfl h2
      · rename_i e1 e2
        exact ⟨e2, o, x, h1, h2, h3, h4⟩
  have fin : ∀ (I' : Imm), (∀ c o, I c o -> I' c o) -> (∀ c' o, I' c' o -> I c' o \/ wv H β b c') -> DRep w I' (vs0[j]'hj2) (.isl kk (qo kk ds n)) -> E.Goal (lone (E.at a k) cs' w) cs' := by
    intro I' hI hnew hd
    refine h.run a w I' β cs' ⟨⟨by simp [hsim.heap.len], fun b' o x h1 h2 => ?_, fun b1 b2 c' h1 h2 => hsim.heap.inj b1 b2 c' (hsub b1 c' h1).2 (hsub b2 c' h2).2, fun c' o hi => ?_, fun g d hg => (hsim.heap.glob g d hg).mono hI (fun _ _ _ => rfl)⟩,
      fun m => (hsim.tmps m).mono hI (fun _ _ _ => rfl) (.refl _ _), hsim.size, ?_, ?_, by simpa using hsim.hlen⟩
    · rw [hget] at h1
      split at h1
      · rename_i e; subst e
        cases h1
        rw [hx0] at h2
        cases h2
        rw [<- hNC]
        refine ⟨vs0, T0, o1, by rw [List.length_set]; exact o2, fun i hi hi' => ?_, fun o hi => ?_⟩
        · by_cases e : j = i
          · subst e
            rw [List.getElem_set_self]
            exact .imm hd
          · rw [List.getElem_set_ne e]
            exact (o3 i (by simpa using hi) hi').mono hI (fun _ _ _ => rfl) (.refl _ _)
        · rcases hnew c0 o hi with h3 | h3
          · exact o4 o h3
          · exact hne0 (hsim.heap.inj b' b c0 ⟨_, _, hb0, by simp, hx0, rfl⟩ h3)
      · split at h1
        · cases h1; trivial
        · rename_i e1 e2
          by_cases hdead : o = .dead
          · subst hdead; trivial
          · refine (hsim.heap.obj b' o x h1 h2).mono (fun _ _ => rfl) hI (fun _ _ _ => rfl) (.refl _ _) (fun c' q hc hi => ?_)
            rcases hnew c' q hi with h3 | h3
            · exact h3
            · exact absurd (hsim.heap.inj b' b c' ⟨o, x, h1, hdead, h2, hc⟩ h3) e2
    · rcases hnew c' o hi with h3 | h3
      · exact hsim.heap.inI c' o h3
      · exact hsim.heap.owns_lt h3
    · obtain ⟨bs, d1, d2, d3⟩ := hsim.defers
      exact ⟨bs, d1, d2, fun c' hc => ⟨(d3 c' hc).1, (d3 c' hc).2.1, fun b' hb' => (d3 c' hc).2.2 b' (hsub b' c' hb').2⟩⟩
    · exact { hsim.ext with
        imm := fun c' o hi => hI _ _ (hsim.ext.imm c' o hi)
        own := fun b' c' ho => hsim.ext.own b' c' (hsub b' c' ho).2
        new := fun c' o hi => by
          rcases hnew c' o hi with h3 | h3
          · exact hsim.ext.new c' o h3
          · exact .inr (hsim.ext.own b c' h3) }
  rcases hnow with ⟨hn0, hsv, hcs⟩ | ⟨c, cap, vs, T, hsv, a1, a2, a3, a4, a5, a6⟩
  · subst hn0
    exact fin I (fun _ _ h => h) (fun _ _ h => .inl h) (by rw [hsv]; exact .islNil kk)
  · have hown : wv H β b c := ⟨_, _, hb, by simp, hbu, by rw [hsv]; rfl⟩
    have hle : cs.length <= vs.size := by rw [hlen, a2]; exact Nat.mul_le_mul_right kk a3
    refine fin (I.plus c cs.length) (fun _ _ h => .inl h) (fun c' o hi => hi.imp id (fun h => by rw [h.1]; exact hown)) ?_
    rw [hsv]
    refine zon (vs := vs.toList.take cs.length) (by rw [hdl, hlen]) (fun o ho => .inr ⟨rfl, by omega⟩) (fun o ho => ?_) (by simp; omega) (fun v hv => ?_) (fun o v d hv hd => ?_) a3 a4
    · rw [cell_of_heap a1, List.getElem?_take_of_lt (by omega)]; simp
    · obtain ⟨j, hj, rfl⟩ := List.mem_iff_getElem.1 hv
      have hjj : j < cs.length /\ j < vs.size := by simp at hj; omega
      have hj' := hjj.2
      have := (a5 j (by omega) hj').oneCell (List.all_eq_true.1 hone _ (List.getElem_mem (by omega)))
      simpa using this
    · have hvv : o < cs.length /\ o < vs.size := by have := lt_of_getElem? hv; simp at this; omega
      have hv' := hvv.2
      have ho : o < cs.length := hvv.1
      rw [List.getElem?_take_of_lt ho] at hv
      obtain ⟨d', hd', hs'⟩ := hdg o _ (List.getElem?_eq_getElem ho)
      rw [hd] at hd'
      cases hd'
      have hvv : v = vs[o] := by simpa [hv'] using hv.symm
      subst hvv
      exact ((a5 o ho hv').toD hs').mono (fun _ _ h => .inl h) (fun _ _ _ => rfl)
end
section
variable {P:Program} {G:List (Nat × D)} {w w':World} {I I':Imm} {β β':List Bnd} {H K:List SObj} {o:Oper} {ρ:Operand->Value} {m:Nat}
theorem yqr {nx:Nat} {x y:SObj} (hx:x≠ .dead) (hy:y≠ .dead) {b c:Nat} (h:wv (K.set nx x) β b c):wv (K.set nx y) β b c:=by
 obtain ⟨o,z,h1,h2,h3,h4⟩:=h
 by_cases e:nx=b
 ·subst e
  have hl:nx<K.length:=by have:=lt_of_getElem? h1;simpa using this
  exact ⟨y,z,List.getElem?_set_self hl,hy,h3,h4⟩
 ·rw [List.getElem?_set_ne e] at h1
  exact ⟨o,z,by rw [List.getElem?_set_ne e];exact h1,h2,h3,h4⟩
theorem yum {kk:Nat} {x:Bnd} (h:ObjOK w I β (.tok kk 0) x):ObjOK w I β (.vec kk []) x:=by
 cases x with
 |blk c=>exact h.elim
 |tok u=>
  rcases h with ⟨_,h⟩|⟨c,cap,vs,T,h1,h2,h3,h4,h5,h6⟩
  ·exact .inl ⟨rfl,h⟩
  ·exact .inr ⟨c,0,cap,vs,T,h1,h2,h3,h4,h5,by simp,fun j hj=>by simp at hj,fun o hi=>h6 o (by omega) hi⟩
theorem zpn {e:Eff} {ev:Operand->SV} (hm:m<=K.length) (h:∀(ρ:Operand->Value) w I β,HeapOK G w I β K->(∀x∈o.op.operands,Rep w I β (ρ x) (ev x))->OpRun P G (execOp ρ o) w I β K e.val (zfl K e.wr)):yho P G m o ev K e:=by
 intro ρ w I β hH _ hops;obtain ⟨nn,v,w',I',β',h1,h2,h3,h4,h5⟩:=h ρ w I β hH hops;have hk:Keeps β.length β β':=by rw [hH.len];exact h5.keep
 exact .inl ⟨nn,v,w',I',β',h1,h2,h3,h4,h5.weaken hm,hk.toD,fun b hb _=>hk.dummy (lt_of_getElem? hb) hb⟩
theorem yqs {b n kk i:Nat} {cs:List SV} {x ix:Operand} {ty e:Nat} {q:IntKind} {mm:Int} (hop:o.op= .indexAddr ty x ix) (hH:HeapOK G w I β H) (hr:Rep w I β (ρ x) (.vec b n)) (hri:Rep w I β (ρ ix) (.imm (.val (.int q mm))))
  (hu:P.underlying ty=some (.slice e)) (hn:xe P e=some kk) (hb:H[b]?=some (.vec kk cs)) (hlen:cs.length=n*kk) (hk:1<=kk) (hmm:mm=(i:Int)) (hin:i<n):OpRun P G (execOp ρ o) w I β H (.vptr b n (i*kk)) H:=by
 obtain ⟨hbv,hnow⟩:=zlv hH hb hr hlen hk;rcases hnow with ⟨rfl,_⟩|⟨c,cap,vs,T,hv,a1,a2,a3,a4,a5,a6⟩
 ·omega
 have hiv:ρ ix= .int q mm:=by
  generalize ρ ix=v at hri;cases hri with|imm hri=>cases hri;rfl
 obtain ⟨dst,op,type,pos,after,guard⟩:=o;simp only at hop;subst hop;rw [hv] at hbv;refine OpRun.same (v:=.pointer (some ⟨c,i*kk,none⟩)) ?_ (.vptr b n (i*kk) _ _ n cap hbv (Nat.le_refl _) ⟨_,rfl⟩ (fun _=>⟨c,rfl,rfl⟩)) hH;subst hmm;simp [Instr.indexAt,asIntOf,hv,hiv,run_underlying hu,ys hn,hin,qe]
end
section
variable {P:Program} {G:List (Nat × D)} {fn:Func} {rd:Bool} {E:En P G fn rd} {t:List (Nat × SV)} {H K:List SObj} {k:List Item} {m:Nat} {all:Array Oper} {rest:List Oper} {done:List Eff} {o:Oper}
theorem zko {b n kk i:Nat} {cs:List SV} {x ix:Operand} {ty e:Nat} {q:IntKind} {mm:Int} (hop:o.op= .indexAddr ty x ix) (hw:zu all t o.guard=some true) (hd:yb fn.ntmps o.dst=true) (hx:zl G t x= .vec b n) (hi:zl G t ix= .imm (.val (.int q mm)))
  (hu:P.underlying ty=some (.slice e)) (hn:xe P e=some kk) (hm:m<=K.length) (hb:K[b]?=some (.vec kk cs)) (hlen:cs.length=n*kk) (hk:1<=kk) (hmm:mm=(i:Int)) (hin:i<n)
  (h:SWe E m all rest k (xj t o.dst (.vptr b n (i*kk))) K (done++[⟨.vptr b n (i*kk),[b],none⟩])):SWe E m all (o::rest) k t K done:=
 zei (e:=⟨.vptr b n (i*kk),[b],none⟩) ⟨hd,.inr ⟨hw,fun K' hl ha=>zpn (by omega) fun ρ w I β hH hops=>by
  have hr:=hops x (by rw [hop];simp [Op.operands]);rw [hx] at hr;have hri:=hops ix (by rw [hop];simp [Op.operands]);rw [hi] at hri
  exact yqs hop hH hr hri hu hn (by rw [ha b (.inl (by simp))];exact hb) hlen hk hmm hin⟩⟩ h
theorem zdm {b n off ns:Nat} {ax vx:Operand} {ty:Nat} {v:SV} {vcs:List SV} {kk:Nat} {cs:List SV} (hop:o.op= .store ty ax vx) (hw:zu all t o.guard=some true) (hd:yb fn.ntmps o.dst=true) (hax:zl G t ax= .vptr b n off)
  (hvx:zl G t vx=v) (hv:v.cells=some vcs) (hone:vcs.all SV.one=true) (hsz:xe P ty=some ns) (hns:vcs.length=ns) (hm:m<=K.length) (hb:K[b]?=some (.vec kk cs)) (hlen:cs.length=n*kk) (hk:1<=kk) (hoff:off+ns<=cs.length) (hpos:1<=ns)
  (h:SWe E m all rest k (xj t o.dst .any) (K.set b (.vec kk (cs.take off++vcs++cs.drop (off+ns)))) (done++[⟨.any,[b],some (b,.vec kk (cs.take off++vcs++cs.drop (off+ns)))⟩])):SWe E m all (o::rest) k t K done:=
 zei (e:=⟨.any,[b],some (b,.vec kk (cs.take off++vcs++cs.drop (off+ns)))⟩) ⟨hd,.inr ⟨hw,fun K' hl ha=>zpn (by omega) fun ρ w I β hH hops=>by
  have hr:=hops ax (by rw [hop];simp [Op.operands]);rw [hax] at hr;have hrv:=hops vx (by rw [hop];simp [Op.operands]);rw [hvx] at hrv
  exact ybu hop hH hr (hrv.cellsReps hv) hone hsz hns (by rw [ha b (.inl (by simp))];exact hb) hlen hk hoff hpos⟩⟩ h
end
end Go.Sh
namespace Go.Proofs.YtjnddlifnkgncaaGreatDoor
open Go Go.Sh
variable (G:List (Nat × D))
theorem zec (s : ByteArray) : zq Tryz.prog G 52 [sS s] (sB (qj s)) := by
  refine zh Tryz.func52 rfl (by rw [Tryz.ntmps52]; simp) rfl rfl ?_; intro E hH hK
  have hl := zkm s
  (refine xg ?_; conv => whnf)
  repeat' ((with_reducible refine way ?_ ?_) <;> (intro h; conv => whnf))
  · cases hs : s.data.toList with
    | nil => exact absurd (zpj hs) ‹_›
    | cons b0 r0 =>
      have h0 : s.data.toList[0]? = some b0 := by rw [hs]; rfl
      have bad : zeb b0 = false -> qj s = false := fun h => by simp [qj, hs, zdk, h]
      refine zbm rfl rfl rfl rfl rfl rfl  h0 ?_
      (refine wa ?_; conv => whnf)
      repeat' ((with_reducible refine way ?_ ?_) <;> (intro h; conv => whnf))
      · refine zbm rfl rfl rfl rfl rfl rfl  h0 ?_
        (refine wa ?_; conv => whnf)
        repeat' ((with_reducible refine way ?_ ?_) <;> (intro h; conv => whnf))
        · exact kB hK (bad (by simp [zeb]; omega))
        · have hhead : zdk s.data.toList = true := by rw [hs]; simp [zdk, zeb]; omega
          have hsz : s.size <= 16 := by omega
          clear hs
          refine zg [0, 23, 24] ?_
          refine yy (σ := List UInt8 × List UInt8) (fun x => [(0, sS s), (23, sI s.size), (24, sI x.1.length)]) (fun _ => [])
            (fun x => s.data.toList = x.1 ++ x.2 /\ x.1.all zvl = true) (fun x => x.2.length) ?_ ([], s.data.toList) ⟨rfl, rfl⟩
          rintro ⟨done, rest⟩ ⟨ha, hv⟩ ih
          dsimp only at ha hv ih ⊢
          have hlen : done.length + rest.length = s.size := by rw [<- hl, ha]; simp
          (refine xg ?_; conv => whnf)
          repeat' ((with_reducible refine way ?_ ?_) <;> (intro h; conv => whnf))
          · cases rest with
            | nil => simp at hlen; omega
            | cons b rest =>
              have hget : s.data.toList[done.length]? = some b := by rw [ha]; simp
              have hw : IntKind.i64.wrap ((done.length : Int) + 1) = (((done ++ [b]).length : Nat) : Int) := by rw [zk (by omega)]; simp
              have bad : zvl b = false -> qj s = false := fun h => by simp [qj, ha, h]
              refine zbm rfl rfl rfl rfl rfl rfl  hget ?_
              (refine wa ?_; conv => whnf)
              repeat' ((with_reducible refine way ?_ ?_) <;> (intro h; conv => whnf))
              all_goals first
                | exact kB hK (bad (by simp [zvl, zeb, zxr]; omega))
                | (rw [hw]
                   refine zg [0, 23, 24] (ih (done ++ [b], rest) ⟨by simp [ha], ?_⟩ (by simp))
                   simp [hv, zvl, zeb, zxr]; omega)
          · cases rest with
            | nil => exact kB hK (by rw [List.append_nil] at ha; unfold qj; rw [hhead, ha, hv]; simp [hsz])
            | cons b rest => simp at hlen; omega
      · exact kB hK (bad (by simp [zeb]; omega))
  · exact kB hK (by simp [qj]; omega)
  · exact kB hK (by rw [h]; rfl)
section
variable {P:Program} {G:List (Nat × D)} {fn:Func} {rd:Bool} {E:En P G fn rd} {t:List (Nat × SV)} {H:List SObj} {k:List Item} {all:Array Oper} {rest:List Oper} {o:Oper}
theorem zpo {ty ty':Nat} {x y:Operand} {a b:Int} {kk kk':IntKind} (hop:o.op= .binOp .shr ty x y ty') (hw:zu all t o.guard=some true) (hd:yb fn.ntmps o.dst=true) (hx:zl G t x= .imm (.val (.int kk a))) (hy:zl G t y= .imm (.val (.int kk' b))) (hb:0<=b)
  (h:SWr E all rest k (xj t o.dst (.imm (.val (.int kk (a.fdiv (2 ^ min b.toNat kk.bits)))))) H):SWr E all (o::rest) k t H:=by
 refine qy (r:=.imm (.val (.int kk (a.fdiv (2 ^ min b.toNat kk.bits))))) (H':=H) hw hd ?_ (Nat.le_refl _) h;have hs:yay P .shr ty (.int kk a) (.int kk' b)=some (.int kk (a.fdiv (2 ^ min b.toNat kk.bits))):=by
  show (if b<0 then none else some _)=_;rw [if_neg (by omega)]
 rw [hop];simp only [sop,hx,hy,hs,Option.map_some]
end
def nib (d i:Nat):Nat:=d / 16 ^ (15-i) % 16
def ztb (d:Nat):List Nat:=(List.range 16).map (nib d)
def wt (l:List Nat):Nat:=l.foldl (fun s x=>s+(15-x)) 0
def ybw (l:List Nat):D:=.isl 1 (l.map fun (n:Nat)=>[dI n])
def ztc (s:ByteArray):List Nat:=ztb (qi s)++[wt (ztb (qi s)) / 16,wt (ztb (qi s)) % 16]
theorem yff (d i:Nat):nib d i<16:=Nat.mod_lt _ (by decide)
theorem zjj (l:List Nat) (x:Nat):wt (l++[x])=wt l+(15-x):=by unfold wt;rw [List.foldl_append];rfl
theorem zew:∀n (f:Nat->Nat),wt ((List.range n).map f)<=15*n
 |0,_=>by simp [wt]
 |n+1,f=>by
  have:=zew n f;rw [List.range_succ,List.map_append,List.map_cons,List.map_nil,zjj];omega
theorem ybx (d j:Nat) (hj:j<16):((d:Int).fdiv (2 ^ min (60-4*(j:Int)).toNat IntKind.u64.bits))=((d / 16 ^ (15-j):Nat):Int):=by
 rw [ybp];have h1:min (60-4*(j:Int)).toNat IntKind.u64.bits=4*(15-j):=by
  show min (60-4*(j:Int)).toNat 64=_;omega
 rw [h1,Nat.pow_mul]
theorem yun {a:Nat} (ha:a<18446744073709551616):IntKind.u64.wrap ((BitVec.ofInt IntKind.u64.bits (a:Int)&&&BitVec.ofInt IntKind.u64.bits 15).toNat:Int)=((a % 16:Nat):Int):=by
 have:=yzv (a:=a) (b:=15) ha (by decide);rw [show a&&&15=a % 16 from Nat.and_two_pow_sub_one_eq_mod a 4] at this;exact this
theorem zxy (s:ByteArray) (hs:s.size<=9223372036854775807):zq Tryz.prog G 100 [sS s] (.imm (ybw (ztc s))):=by
 have hh:=zgx G s hs;have hlt:=zab s;unfold ztc;generalize qi s=d at hh hlt;refine zh Tryz.func100 rfl (by rw [Tryz.ntmps100];simp) rfl rfl ?_;intro E hH hK;(refine ze ?_;conv=>whnf);refine zd rfl  hh ?_;(refine zc ?_;conv=>whnf);refine zin (n:=4) (kk:=1) rfl ?_;refine zg [3,4,5,6] ?_;change SW E _ [(3,yg d),(4,.asl 0 1 []),(5,sI (0:Nat)),(6,sI (60-4*((0:Nat):Int)))] [.tok 1 0];refine zp (List.range 16) (fun j (l:List Nat)=>[(3,yg d),(4,.asl 0 1 (l.map fun (n:Nat)=>[dI n])),(5,sI (wt l)),(6,sI (60-4*(j:Int)))]) (fun _ l=>[.tok 1 (l.map fun (n:Nat)=>[dI n]).length])
  (fun done _ l=>l=(List.range done.length).map (nib d)) [] rfl ?_ ?_
 ·rintro l h
  have h:l=ztb d:=h;subst h;have hr:wt (ztb d)<=240:=zew 16 (nib d);have hn:(ztb d).length=16:=by simp [ztb]
  generalize ztb d=l at*;have e5:(l.map fun (n:Nat)=>[dI n])++[[dI (wt l / 16:Nat)],[dI (wt l % 16:Nat)]]=(l++[wt l / 16,wt l % 16]).map fun (n:Nat)=>[dI n]:=by simp
  have d1:IntKind.i64.wrap ((wt l:Int).tdiv 16)=((wt l / 16:Nat):Int):=by
   rw [Int.tdiv_eq_ediv_of_nonneg (by omega),zt (by omega) (by omega)];rfl
  have d2:(wt l:Int).tmod 16=((wt l % 16:Nat):Int):=by
   rw [Int.tmod_eq_emod_of_nonneg (by omega)];rfl
  (refine ze ?_;conv=>whnf)
  repeat' ((with_reducible refine way ?_ ?_)<;>(intro h;conv=>whnf))
  rw [d1,d2];refine zr (b:=0) (kk:=1) (rows:=l.map fun (n:Nat)=>[dI n]) (new:=[[dI (wt l / 16:Nat)],[dI (wt l % 16:Nat)]]) rfl ⟨show 8<=65536 by decide,rfl⟩ rfl (by rw [List.length_map];simp only [List.length_cons,List.length_nil];omega) ?_;refine Eq.mpr (congrArg (fun v=>SWr E _ _ _ (xj _ _ (.asl 0 1 v)) _) e5) ?_;generalize l++[wt l / 16,wt l % 16]=l2 at hK;refine yw (fun _ h=>zg [33] h) ?_;refine yw (fun _ h=>ja h) ?_;change SWr E _ _ _ [(33,.imm (ybw l2))] _;(refine zc ?_;conv=>whnf);exact hK _
 ·rintro done j rest l hda hdl h ih
  have hj:done.length<16:=by simp at hdl;omega
  have hsh:=ybx d done.length hj;have hll:l.length=done.length:=by rw [h];simp
  have hr:wt l<=15*done.length:=by rw [h];exact zew _ _
  have hnx:=ih (l++[nib d done.length]) (by rw [List.length_append,List.length_cons,List.length_nil,List.range_succ,List.map_append, <-h];rfl);have hq:d / 16 ^ (15-done.length)<18446744073709551616:=zgw _ hlt;(refine zm [777,16] 1000 ?_;conv=>whnf)
  repeat' ((with_reducible refine way ?_ ?_)<;>(intro h;conv=>whnf))
  all_goals try (exfalso;omega)
  refine zpo rfl rfl rfl rfl rfl (by omega) ?_;rw [hsh];(refine zc ?_;conv=>whnf);rw [yun hq];have hnl:=yff d done.length;rw [show d / 16 ^ (15-done.length) % 16=nib d done.length from rfl];rw [zjj] at hnx;generalize nib d done.length=x at hnx hnl ⊢;have w1:IntKind.i64.wrap (x:Int)=(x:Int):=zt (by omega) (by omega);have w2:IntKind.i64.wrap (15-(x:Int))=((15-x:Nat):Int):=by rw [zt (by omega) (by omega)];omega
  have w3:IntKind.i64.wrap ((wt l:Int)+((15-x:Nat):Int))=((wt l+(15-x):Nat):Int):=by rw [zt (by omega) (by omega)];omega
  have w4:IntKind.i64.wrap (60-4*(done.length:Int)-4)=60-4*((done.length+1:Nat):Int):=by rw [zt (by omega) (by omega)];omega
  have e5:(l.map fun (n:Nat)=>[dI n])++[[dI x]]=(l++[x]).map fun (n:Nat)=>[dI n]:=by simp
  have e6:(l.map fun (n:Nat)=>[dI n]).length+[[dI x]].length=((l++[x]).map fun (n:Nat)=>[dI n]).length:=by simp
  rw [w1];refine zr (b:=0) (kk:=1) (rows:=l.map fun (n:Nat)=>[dI n]) (new:=[[dI x]]) rfl ⟨show 8<=65536 by decide,rfl⟩ rfl (by rw [List.length_map];simp only [List.length_cons,List.length_nil];omega) ?_;refine Eq.mpr (congrArg (fun v=>SWr E _ _ _ (xj _ _ (.asl 0 1 v)) _) e5) ?_;refine Eq.mpr (congrArg (fun v=>SWr E _ _ _ _ (List.set _ 0 (.tok 1 v))) e6) ?_;(refine zc ?_;conv=>whnf);rw [w2,w3,w4];exact zg [3,4,5,6] hnx
end Go.Proofs.YtjnddlifnkgncaaGreatDoor
namespace Go.Sh
section
variable {P:Program} {G:List (Nat × D)} {w:World} {I:Imm} {β:List Bnd} {H H':List SObj} {r:SV}
theorem HeapOK.moveBtok {m T n n' b:Nat} {u u':Value} {w':World} {I':Imm} (h:HeapOK G w I β H) (hb:H[b]?=some (.btok T n)) (hx:β[b]?=some (.tok u))
  (hu:∃a cap a' cap',u= .slice a n cap/\u'= .slice a' n' cap') (hnn:n<n') (hsz:w.heap.size<=w'.heap.size)
  (hold:∀c,c<w.heap.size->(Bnd.tok u).block≠some c->w'.heap[c]?=w.heap[c]?)
  (hcell:∀c o,I c o->w'.cell? ⟨c,o,none⟩=w.cell? ⟨c,o,none⟩)
  (hI:∀c o,I c o->I' c o) (hI':∀c o,I' c o->I c o\/(Bnd.tok u').block=some c) (hlt:∀c o,I' c o->c<w'.heap.size)
  (hblk:∀c,(Bnd.tok u').block=some c->(Bnd.tok u).block=some c\/w.heap.size<=c)
  (ho:ObjOK w' I' (β.set b (.tok u')) (.btok T n') (.tok u')) (hen:zeh w w':=by exact ⟨rfl,rfl⟩):
  HeapOK G w' I' (β.set b (.tok u')) (H.set b (.btok T n'))/\Ext m w I β H w' I' (β.set b (.tok u')) (H.set b (.btok T n')):=by
 have hblt:=lt_of_getElem? hb;have hxlt:=lt_of_getElem? hx;have hkeep:∀m,Keeps m β (β.set b (.tok u')):=by
  intro m b' x _ hb'
  by_cases e:b'=b
  ·subst e
   rw [hx] at hb';cases hb';obtain ⟨a,cap,a',cap',rfl,rfl⟩:=hu;exact ⟨_,List.getElem?_set_self hxlt,.inr ⟨_,rfl,.inr ⟨_,_,_,_,_,_,rfl,rfl,hnn⟩⟩⟩
  ·exact ⟨x,by rw [List.getElem?_set_ne (Ne.symm e)];exact hb',x.le_refl⟩
 have key:∀b' c',wv (H.set b (.btok T n')) (β.set b (.tok u')) b' c'->(b'≠b/\wv H β b' c')\/(b'=b/\(Bnd.tok u').block=some c'):=by
  rintro b' c' ⟨p,x,h1,h2,h3,h4⟩
  by_cases e:b'=b
  ·subst e
   rw [List.getElem?_set_self hxlt] at h3;cases h3;exact .inr ⟨rfl,h4⟩
  ·rw [List.getElem?_set_ne (Ne.symm e)] at h1 h3;exact .inl ⟨e,p,x,h1,h2,h3,h4⟩
 have hownb:∀c,(Bnd.tok u).block=some c->wv H β b c:=fun c hc=>⟨_,_,hb,by simp,hx,hc⟩
 have notblk:∀b' c,b'≠b->wv H β b' c->(Bnd.tok u).block≠some c:=fun b' c hne ho hc=>hne (h.inj b' b c ho (hownb c hc))
 refine ⟨{len:=by simp [h.len],obj:=?_,inj:=?_,inI:=hlt,glob:=fun g d hg=>(h.glob g d hg).mono hI hcell},
  {imm:=hI,cell:=hcell,keep:=hkeep m,old:=fun c hc hn=>hold c hc (fun e=>hn b (hownb c e)),own:=?_,new:=?_,size:=hsz,env:=hen}⟩
 ·intro b' p x h1 h2
  by_cases e:b'=b
  ·subst e
   rw [List.getElem?_set_self hxlt] at h2;cases h2;rw [List.getElem?_set_self hblt] at h1;cases h1;exact ho
  ·rw [List.getElem?_set_ne (Ne.symm e)] at h1 h2
   by_cases hpd:p= .dead
   ·subst hpd;trivial
   ·have hob:=h.obj b' p x h1 h2
    refine hob.mono (fun c hc=>hold c (hob.block_lt hpd hc) (notblk b' c e ⟨p,x,h1,hpd,h2,hc⟩)) hI hcell (hkeep _) ?_;intro c o hc hi;rcases hI' c o hi with h3|h3
    ·exact h3
    ·rcases hblk c h3 with h4|h4
     ·exact absurd h4 (notblk b' c e ⟨p,x,h1,hpd,h2,hc⟩)
     ·have:=hob.block_lt hpd hc;omega
 ·intro a b' c h1 h2
  rcases key a c h1 with ⟨n1,k1⟩|⟨e1,k1⟩<;>rcases key b' c h2 with ⟨n2,k2⟩|⟨e2,k2⟩
  ·exact h.inj a b' c k1 k2
  ·rcases hblk c k2 with h3|h3
   ·exact absurd h3 (notblk a c n1 k1)
   ·have:=h.owns_lt k1;omega
  ·rcases hblk c k1 with h3|h3
   ·exact absurd h3 (notblk b' c n2 k2)
   ·have:=h.owns_lt k2;omega
  ·rw [e1,e2]
 ·intro b' c h1
  rcases key b' c h1 with ⟨_,h1⟩|⟨_,h1⟩
  ·exact .inl ⟨b',h1⟩
  ·rcases hblk c h1 with h3|h3
   ·exact .inl ⟨b,hownb c h3⟩
   ·exact .inr h3
 ·intro c o hi
  rcases hI' c o hi with h3|h3
  ·exact .inl h3
  ·rcases hblk c h3 with h4|h4
   ·exact .inr (.inl ⟨b,hownb c h4⟩)
   ·exact .inr (.inr h4)
theorem zpp {sT xT ty e e' : TypeId} {by_ : Nat} {z : Value} {xv : Value} {new : List (List D)}
    (hu : P.underlying sT = some (.slice e)) (hxu : P.underlying xT = some (.slice e')) (hk : xe P e = some 1) (hby : js P e = some by_) (hz : jx P e = some z)
    (hzk : z.cells.size = 1) (hxl : ∃ a c', xv = .slice a new.length c') :
    ∀ (w : World) (I : Imm) (β : List Bnd) (H : List SObj) (b n : Nat) (rows : List (List D)) (sv : Value) (B : List Value), HeapOK G w I β H -> Rep w I β sv (.asl b 1 rows) -> H[b]? = some (.btok e n) -> n = rows.length ->
      n + new.length <= 4611686018427387904 -> (2 * (n + new.length) + 192) * by_ <= 281474976710656 -> Flat w I 1 new B -> (∀ w' : World, (∀ c o, I c o -> w'.cell? ⟨c, o, none⟩ = w.cell? ⟨c, o, none⟩) -> (Builtin.firstCells 1 new.length xv).run P w' = .ok B.toArray w') ->
      ∃ u w' I' β', (Builtin.append_ #[sT, xT] ty #[sv, xv]).run P w = .ok u w' /\ Rep w' I' β' u (.asl b 1 (rows ++ new)) /\ HeapOK G w' I' β' (H.set b (.btok e (n + new.length))) /\
        ∀ m, Ext m w I β H w' I' β' (H.set b (.btok e (n + new.length))) := by
  intro w I β H b n rows sv B hH hs hb hn hsmall hcap hB hxc
  cases hs with
  | asl _ _ _ _ u n' hd hbu hus hle heq =>
  obtain ⟨ua, ucap, rfl⟩ := hus
  have hob := hH.obj b _ _ hb hbu
  have hn' : n' = n := by
    rcases hob with ⟨h1, h2⟩ | ⟨c, cap, vs, h1, _⟩
    · cases h2; exact h1.symm
    · cases h1; rfl
  subst hn'
  have hsv := heq hn.symm
  subst hsv
  have hblt := lt_of_getElem? hb
  have hbxlt := lt_of_getElem? hbu
  obtain ⟨A, hA, hsl, hsc⟩ := hd.flat (P := P)
  have hlenR : (rows ++ new).length = n' + new.length := by simp [hn]
  by_cases hm0 : new.length = 0
  · -- nothing is appended
    have hnil : new = [] := List.length_eq_zero_iff.1 hm0
    subst hnil
    have hrun : (Builtin.append_ #[sT, xT] ty #[.slice ua n' ucap, xv]).run P w = .ok (.slice ua n' ucap) w := by
      have hBn : B = [] := List.length_eq_zero_iff.1 (by rw [hB.len]; simp)
      subst hBn
      rcases hob with ⟨h1, h2⟩ | ⟨c, cap, vs, h1, h2, h3, h4, h5, h6⟩
      · cases h2
        exact zgm hu hxu hk hxl (by simpa using hxc w (fun _ _ _ => rfl))
      · cases h1
        have := jb (w := w) (ty := ty) hu hxu hk (n := n') (cap := ucap) (m := 0) (c := c) hxl (by simpa using hxc w (fun _ _ _ => rfl)) (by omega) h2 (by simp) (by simp) h3
        rw [this]
        have ee : (vs.toList.take (n' * 1) ++ [] ++ vs.toList.drop (n' * 1 + 0 * 1)).toArray = vs := by simp
        rw [ee, setRow_self w c vs e (0, 0) h2]
        simp
    refine ⟨_, w, I, β, hrun, ?_, ?_, ?_⟩
    · rw [List.append_nil]; exact .asl b 1 rows _ _ n' hd hbu ⟨_, _, rfl⟩ hle heq
    · rw [List.length_nil, Nat.add_zero, set_self hb]; exact hH
    · rw [List.length_nil, Nat.add_zero, set_self hb]; exact fun m => .refl
  · -- it grows, or there is room
    have grow : ¬ n' + new.length <= ucap -> (Bnd.tok (.slice ua n' ucap)).block = none \/ True ->
        ∃ u w' I' β', (Builtin.append_ #[sT, xT] ty #[.slice ua n' ucap, xv]).run P w = .ok u w' /\ Rep w' I' β' u (.asl b 1 (rows ++ new)) /\ HeapOK G w' I' β' (H.set b (.btok e (n' + new.length))) /\
          ∀ m, Ext m w I β H w' I' β' (H.set b (.btok e (n' + new.length))) := by
      intro hg _
      obtain ⟨newCap, rest, hc1, hc2, hrest, hrun⟩ := zcc (w := w) (ty := ty) hu hxu hk hby hz (base := ua) (n := n') (cap := ucap) (A := A) (B := B) hxl (fun w' hw' => hxc w' (fun c o _ => by simp [World.cell?, hw']))
        (fun w' hw' => by have := hsc w' (fun c o _ => by simp [World.cell?, hw']); rw [<- hn] at this; exact this) hg hsmall hcap
      have hAs : A.length = n' * 1 := by rw [hA.len, hn]
      have hBs : B.length = new.length * 1 := hB.len
      have hrs : rest.size = (newCap - (n' + new.length)) * 1 := by rw [hrest]; simp [Builtin.zeroCells, hzk]
      have hvs : (A.toArray ++ B.toArray ++ rest).size = newCap * 1 := by
        simp only [Array.size_append, List.size_toArray, hAs, hBs, hrs]
        rw [<- Nat.add_mul, <- Nat.add_mul]; congr 1; omega
      have hsize : w.drew.heap.size = w.heap.size := rfl
      have hnewblk : (w.drew.alloc (.cells (A.toArray ++ B.toArray ++ rest) e)).heap[w.heap.size]? = some (.cells (A.toArray ++ B.toArray ++ rest) e (0, 0)) := yq (w := w.drew) _
      have hold : ∀ c, c < w.heap.size -> (w.drew.alloc (.cells (A.toArray ++ B.toArray ++ rest) e)).heap[c]? = w.heap[c]? := fun c hc => by
        show (w.heap.push _)[c]? = _
        rw [Array.getElem?_push, if_neg (by omega)]
      have hcell : ∀ c o, I c o -> (w.drew.alloc (.cells (A.toArray ++ B.toArray ++ rest) e)).cell? ⟨c, o, none⟩ = w.cell? ⟨c, o, none⟩ := fun c o hc => ye (hold c (hH.inI c o hc)) o
      have hIm : ∀ c o, I c o -> (I.plus w.heap.size ((n' + new.length) * 1)) c o := fun _ _ h => .inl h
      have hmv := fun m => hH.moveBtok (m := m) (n' := n' + new.length) (u' := .slice (some ⟨w.heap.size, 0, none⟩) (n' + new.length) newCap) (w' := w.drew.alloc (.cells (A.toArray ++ B.toArray ++ rest) e)) (I' := I.plus w.heap.size ((n' + new.length) * 1)) hb hbu ⟨_, _, _, _, rfl, rfl⟩ (by omega)
        (by simp) (fun c hc _ => hold c hc) hcell hIm
        (by rintro c o (hi | ⟨rfl, _⟩)
            · exact .inl hi
            · exact .inr rfl)
        (by rintro c o (hi | ⟨rfl, _⟩)
            · have := hH.inI c o hi; simp; omega
            · simp)
        (fun c hc => by cases hc; exact .inr (Nat.le_refl _))
        (.inr ⟨w.heap.size, newCap, _, rfl, hnewblk, hvs, hc1, hc2, fun o ho => by
          rintro (hi | ⟨_, hi⟩)
          · have := hH.inI _ o hi; omega
          · omega⟩)
      refine ⟨_, _, _, _, hrun, ?_, (hmv 0).1, fun m => (hmv m).2⟩
      refine .asl b 1 (rows ++ new) _ _ (n' + new.length) ?_ (List.getElem?_set_self hbxlt) ⟨_, _, rfl⟩ (by omega) (fun _ => rfl)
      refine ((hA.mono hIm hcell).append (hB.mono hIm hcell)).drep hlenR.symm (fun t ht => ⟨.inr ⟨rfl, ht⟩, ?_⟩) hc1 hc2
      rw [cell_of_heap hnewblk]
      have : t < A.length + B.length := by rw [hAs, hBs, <- Nat.add_mul]; exact ht
      rw [Array.getElem?_append_left (by simpa using this)]
      simp
    rcases hob with ⟨h1, h2⟩ | ⟨c, cap, vs, h1, h2, h3, h4, h5, h6⟩
    · cases h2
      exact grow (by omega) (.inr trivial)
    · cases h1
      by_cases hfit : n' + new.length <= ucap
      · have hrun := jb (w := w) (ty := ty) hu hxu hk (n := n') (cap := ucap) (m := new.length) (c := c) hxl (hxc w (fun _ _ _ => rfl)) hfit h2 hB.len hB.one h3
        have hBs : B.length = new.length * 1 := hB.len
        obtain ⟨A', hA', _, _, _, hcells⟩ := hd.flatAt
        have hAs : A'.length = n' * 1 := by rw [hA'.len, hn]
        have hle2 : n' * 1 + new.length * 1 <= vs.size := by rw [h3, <- Nat.add_mul]; exact Nat.mul_le_mul_right 1 hfit
        generalize hW : w.setRow c (vs.toList.take (n' * 1) ++ B ++ vs.toList.drop (n' * 1 + new.length * 1)).toArray = W at hrun
        have hnb : W.heap[c]? = some (.cells (vs.toList.take (n' * 1) ++ B ++ vs.toList.drop (n' * 1 + new.length * 1)).toArray e (0, 0)) := by rw [<- hW]; exact setRow_heap w c vs _ e _ h2
        have hother : ∀ c', c' ≠ c -> W.heap[c']? = w.heap[c']? := by
          intro c' hne
          rw [<- hW]; simp [World.setRow, Array.getElem?_modify, Ne.symm hne]
        have hsz : W.heap.size = w.heap.size := by rw [<- hW]; simp [World.setRow]
        have hlow : ∀ o, o < n' * 1 -> W.cell? ⟨c, o, none⟩ = w.cell? ⟨c, o, none⟩ := by
          intro o ho
          rw [cell_of_heap hnb, cell_of_heap h2]
          simp only [List.getElem?_toArray, List.append_assoc]
          rw [List.getElem?_append_left (by simp; omega), List.getElem?_take, if_pos ho]
          simp
        have hcell : ∀ c' o, I c' o -> W.cell? ⟨c', o, none⟩ = w.cell? ⟨c', o, none⟩ := by
          intro c' o hi
          by_cases e : c' = c
          · subst e
            exact hlow o (Nat.lt_of_not_le fun h => h6 o h hi)
          · exact ye (hother c' e) o
        have hIm : ∀ c' o, I c' o -> (fun b' o => I b' o \/ (b' = c /\ n' * 1 <= o /\ o < (n' + new.length) * 1)) c' o := fun _ _ h => .inl h
        have hmv := fun m => hH.moveBtok (m := m) (n' := n' + new.length) (u' := .slice (some ⟨c, 0, none⟩) (n' + new.length) ucap) (w' := W) (I' := fun b' o => I b' o \/ (b' = c /\ n' * 1 <= o /\ o < (n' + new.length) * 1)) hb hbu ⟨_, _, _, _, rfl, rfl⟩ (by omega)
          (by omega) (fun c' _ hne => hother c' (fun e => hne (by rw [e]; rfl))) hcell hIm
          (by rintro c' o (hi | ⟨rfl, _⟩)
              · exact .inl hi
              · exact .inr rfl)
          (by rintro c' o (hi | ⟨rfl, _⟩)
              · rw [hsz]; exact hH.inI c' o hi
              · rw [hsz]; exact xw h2)
          (fun c' hc => by cases hc; exact .inl rfl)
          (.inr ⟨c, ucap, _, rfl, hnb, by simp only [List.size_toArray, List.length_append, List.length_take, List.length_drop, Array.length_toList, hBs]; omega, hfit, h5, fun o ho => by
            rintro (hi | ⟨_, _, hi⟩)
            · exact h6 o (Nat.le_trans (Nat.mul_le_mul_right 1 (Nat.le_add_right _ _)) ho) hi
            · omega⟩) (by rw [<- hW]; exact ⟨rfl, rfl⟩)
        refine ⟨_, W, _, _, hrun, ?_, (hmv 0).1, fun m => (hmv m).2⟩
        refine .asl b 1 (rows ++ new) _ _ (n' + new.length) ?_ (List.getElem?_set_self hbxlt) ⟨_, _, rfl⟩ (by omega) (fun _ => rfl)
        refine ((hA'.mono hIm hcell).append (hB.mono hIm hcell)).drep hlenR.symm (fun t ht => ?_) hfit h5
        rcases Nat.lt_or_ge t (n' * 1) with hlt | hge
        · have := hcells t (by rw [<- hn]; exact hlt)
          rw [Nat.zero_add] at this
          exact ⟨.inl this.1, by rw [hlow t hlt, this.2, List.getElem?_append_left (by omega)]⟩
        · refine ⟨.inr ⟨rfl, hge, ht⟩, ?_⟩
          rw [cell_of_heap hnb]
          have hlt2 : t - n' * 1 < B.length := by rw [hBs]; rw [Nat.add_mul] at ht; omega
          rw [List.getElem?_append_right (by omega), hAs]
          simp only [List.getElem?_toArray, List.append_assoc]
          have hlt3 : (List.take (n' * 1) vs.toList).length = n' * 1 := by simp; omega
          rw [List.getElem?_append_right (by omega), hlt3, List.getElem?_append_left hlt2]
      · exact grow hfit (.inr trivial)
end
section
variable {P:Program} {G:List (Nat × D)} {fn:Func} {rd:Bool} {E:En P G fn rd} {t:List (Nat × SV)} {H:List SObj} {k:List Item} {all:Array Oper} {rest:List Oper} {o:Oper}
theorem zpq {b by_ e e':Nat} {z:Value} {sx xx:Operand} {sT xT:Nat} {rows new:List (List D)} (hop:o.op= .call ⟨.builtin .append,#[sx,xx],#[sT,xT]⟩)
  (hw:zu all t o.guard=some true) (hd:yb fn.ntmps o.dst=true) (hs:zl G t sx= .asl b 1 rows) (hx:(zl G t xx).rows=some (1,new)) (hu:P.underlying sT=some (.slice e)) (hu':P.underlying xT=some (.slice e'))
  (hk:xe P e=some 1) (hby:js P e=some by_) (hz:jx P e=some z) (hcond:by_<=65536/\z.cells.size=1) (hb:H[b]?=some (.btok e rows.length)) (hlen:rows.length+new.length<=1073741824)
  (h:SWr E all rest k (xj t o.dst (.asl b 1 (rows++new))) (H.set b (.btok e (rows.length+new.length)))):SWr E all (o::rest) k t H:=by
 refine qq (r:=.asl b 1 (rows++new)) (H':=H.set b (.btok e (rows.length+new.length))) hw hd (fun c e=>by rw [hop] at e;cases e) (by simp) (fun ρ w I β hH hev=>?_) h;obtain ⟨dst,op,type,pos,after,guard⟩:=o;simp only at hop;subst hop;have h1:=hev sx;rw [hs] at h1;have h2:=(hev xx).rows hx;obtain ⟨B,hB,hxl,hxc⟩:=h2.flat (P:=P);have hcap:(2*(rows.length+new.length)+192)*by_<=281474976710656:=by
  have h2:(2*(rows.length+new.length)+192)*by_<=(2*1073741824+192)*65536:=Nat.mul_le_mul (by omega) hcond.1;omega
 obtain ⟨u,w',I',β',g1,g2,g3,g4⟩:=zpp (ty:=type) hu hu' hk hby hz hcond.2 hxl w I β H b _ rows (ρ sx) B hH h1 hb rfl (by omega) hcap hB hxc;refine OpRun.value (u:=u) ?_ g2 g3 (g4 _);show Sem.run P (Builtin.append_ #[sT,xT] type (Array.map ρ #[sx,xx])) w=_;rw [show Array.map ρ #[sx,xx]=#[ρ sx,ρ xx] by simp];exact g1
theorem zex {e:Nat} {z:Value} (hop:o.op= .alloc e) (hw:zu all t o.guard=some true) (hd:yb fn.ntmps o.dst=true) (hz:jx P e=some z) (hzc:z.cells=#[.pointer none,.slice none 0 0])
  (h:SWr E all rest k (xj t o.dst (.ptr H.length 0)) (H++[.bld e])):SWr E all (o::rest) k t H:=by
 refine qq (r:=.ptr H.length 0) (H':=H++[.bld e]) hw hd (fun c e=>by rw [hop] at e;cases e) (by simp) (fun ρ w I β hH hev=>?_) h;obtain ⟨dst,op,type,pos,after,guard⟩:=o;simp only at hop;subst hop;have hal:=hH.alloc (m:=H.length) (o:=.bld e) (ob:=.cells z.cells e) ⟨by rw [hzc];exact yq _,fun o h=>by have:=hH.inI _ o h;omega⟩;exact OpRun.value (zwx hz) (by have:=hH.len;rw [<-this];exact .ptr _ _ _ (by simp)) hal.1 hal.2
theorem zpr (b0 j T:Nat) {cs:List SV} (hb:H[b0]?=some (.cells cs)) (hj:cs[j]?=some (.imm (.val (.slice none 0 0)))) (h:SW E k t (H.set b0 (.cells (cs.set j (.asl H.length 1 [])))++[.btok T 0])):SW E k t H:=by
 refine ⟨fun a w I β cs' hs=>?_⟩;have hbl:=lt_of_getElem? hb;have hp:=hs.heap.push (o:=.btok T 0) (x:=.tok (.slice none 0 0)) (.inl ⟨rfl,rfl⟩) (fun b c hc=>by cases hc);have he:Ext H.length w I β H w I (β++[.tok (.slice none 0 0)]) (H++[.btok T 0]):=.push hs.heap (fun c hc=>by cases hc);obtain ⟨x,hx⟩:∃x,β[b0]?=some x:=⟨β[b0]'(by rw [hs.heap.len];exact hbl),List.getElem?_eq_getElem _⟩;have hob:=hp.obj b0 (.cells cs) x (by rw [List.getElem?_append_left hbl];exact hb) (by rw [List.getElem?_append_left (lt_of_getElem? hx)];exact hx);cases x with
 |tok u=>exact hob.elim
 |blk c=>
 obtain ⟨vs,T0,a1,a2,a3,a4⟩:=hob;have hnew:ObjOK w I (β++[.tok (.slice none 0 0)]) (.cells (cs.set j (.asl H.length 1 []))) (.blk c):=by
  refine ⟨vs,T0,a1,by simpa using a2,fun q hq hq'=>?_,a4⟩
  by_cases e:j=q
  ·subst e
   have hq2:j<cs.length:=by simpa using hq
   have hr:=a3 j hq2 hq';have:cs[j]= .imm (.val (.slice none 0 0)):=by simpa [List.getElem?_eq_getElem hq2] using hj
   rw [this] at hr;simp only [List.getElem_set_self];generalize vs[j]=v at hr;cases hr with|imm hr=>
   cases hr with|val _=>
   exact .asl H.length 1 [] _ _ 0 (.islNil 1) (by rw [<-hs.heap.len];simp) ⟨_,_,rfl⟩ (Nat.le_refl _) (fun _=>rfl)
  ·rw [List.getElem_set_ne e]
   exact a3 q (by simpa using hq) hq'
 obtain ⟨g1,g2⟩:=hp.changeB (m:=H.length) (w':=w) (b:=b0) (o:=.cells cs) (o':=.cells (cs.set j (.asl H.length 1 []))) (x:=.blk c) (by rw [List.getElem?_append_left hbl];exact hb) (by simp) (by rw [List.getElem?_append_left (lt_of_getElem? hx)];exact hx) rfl (fun _ _=>rfl) rfl a4 hnew;rw [List.set_append_left _ _ hbl] at g1 g2;have hE:=he.trans g2;exact h.run a w I _ cs' ⟨g1,fun n=>(hs.tmps n).ext (by rw [hs.heap.len];exact hE),hs.size,hs.defers.ext hE,hs.ext.trans (hE.weaken hs.hlen),by have:=hs.hlen;simp;omega⟩
end
section
variable {P:Program} {G:List (Nat × D)} {fn:Func} {rd:Bool} {E:En P G fn rd} {t:List (Nat × SV)} {H:List SObj} {k:List Item} {all:Array Oper} {rest:List Oper} {o:Oper}
theorem zxz {tp te:TypeId} {w:World} {a b:Option Addr} (hp:P.underlying tp=some (.pointer te)) (hn:a=none\/b=none):(binOp .eql tp (.pointer a) (.pointer b)).run P w= .ok (.bool (a.isNone&&b.isNone)) w:=by
 have h:∀d:Nat,(Op.equalIn (d+1) tp (.pointer a) (.pointer b)).run P w= .ok (a.isNone&&b.isNone) w:=fun d=>by
  rcases hn with rfl|rfl
  ·simp [Op.equalIn,run_underlying hp]
  ·cases a<;>simp [Op.equalIn,run_underlying hp]
 simp only [binOp];simp [Op.equal,Op.maxDepth,h 9999]
theorem yhy {ty ty' te b off:Nat} {x y:Operand} (hop:o.op= .binOp .eql ty x y ty') (hw:zu all t o.guard=some true) (hd:yb fn.ntmps o.dst=true) (hx:zl G t x= .ptr b off) (hy:zl G t y= .imm (.val (.pointer none))) (hu:P.underlying ty=some (.pointer te))
  (h:SWr E all rest k (xj t o.dst (.imm (.val (.bool false)))) H):SWr E all (o::rest) k t H:=by
 refine qq (r:=.imm (.val (.bool false))) (H':=H) hw hd (fun c e=>by rw [hop] at e;cases e) (Nat.le_refl _) (fun ρ w I β hH hev=>?_) h;obtain ⟨dst,op,type,pos,after,guard⟩:=o;simp only at hop;subst hop;have h1:=hev x;rw [hx] at h1;have h2:=hev y;rw [hy] at h2;generalize hv1:ρ x=v1 at h1;generalize hv2:ρ y=v2 at h2;cases h1 with|ptr _ c _ hc=>
 cases h2 with|imm h2=>cases h2 with|val _=>
 refine OpRun.same (v:=.bool false) ?_ (.imm (.val _)) hH;rw [hv1,hv2];have:=zxz (P:=P) (w:=w) (a:=some ⟨c,off,none⟩) (b:=none) hu (.inr rfl);simpa [eqGuard] using this
theorem yhz {ty ty' te:Nat} {x y:Operand} (hop:o.op= .binOp .eql ty x y ty') (hw:zu all t o.guard=some true) (hd:yb fn.ntmps o.dst=true) (hx:zl G t x= .imm (.val (.pointer none))) (hy:zl G t y= .imm (.val (.pointer none))) (hu:P.underlying ty=some (.pointer te))
  (h:SWr E all rest k (xj t o.dst (.imm (.val (.bool true)))) H):SWr E all (o::rest) k t H:=by
 refine qq (r:=.imm (.val (.bool true))) (H':=H) hw hd (fun c e=>by rw [hop] at e;cases e) (Nat.le_refl _) (fun ρ w I β hH hev=>?_) h;obtain ⟨dst,op,type,pos,after,guard⟩:=o;simp only at hop;subst hop;have h1:=hev x;rw [hx] at h1;have h2:=hev y;rw [hy] at h2;generalize hv1:ρ x=v1 at h1;generalize hv2:ρ y=v2 at h2;cases h1 with|imm h1=>cases h1 with|val _=>
 cases h2 with|imm h2=>cases h2 with|val _=>
 refine OpRun.same (v:=.bool true) ?_ (.imm (.val _)) hH;rw [hv1,hv2];have:=zxz (P:=P) (w:=w) (a:=none) (b:=none) hu (.inr rfl);simpa [eqGuard] using this
theorem yby {ty ty' te b off:Nat} {j:TypeInfo} {x y:Operand} (hop:o.op= .binOp .neq ty x y ty') (hw:zu all t o.guard=some true) (hd:yb fn.ntmps o.dst=true) (hx:zl G t x= .ptr b off) (hy:zl G t y= .ptr b off) (hu:P.underlying ty=some (.pointer te)) (hj:P.info? te=some j)
  (h:SWr E all rest k (xj t o.dst (.imm (.val (.bool false)))) H):SWr E all (o::rest) k t H:=by
 refine qq (r:=.imm (.val (.bool false))) (H':=H) hw hd (fun c e=>by rw [hop] at e;cases e) (Nat.le_refl _) (fun ρ w I β hH hev=>?_) h;obtain ⟨dst,op,type,pos,after,guard⟩:=o;simp only at hop;subst hop;have h1:=hev x;rw [hx] at h1;have h2:=hev y;rw [hy] at h2;generalize hv1:ρ x=v1 at h1;generalize hv2:ρ y=v2 at h2;cases h1 with|ptr _ c _ hc=>
 cases h2 with|ptr _ c' _ hc'=>
 rw [hc] at hc';cases hc';refine OpRun.same (v:=.bool false) ?_ (.imm (.val _)) hH;rw [hv1,hv2];have:=Lib.run_neq_ptr_same (P:=P) w (tp:=ty) ⟨c,off,none⟩ hu hj;simpa [eqGuard] using this
theorem ybz {ty b off T:Nat} {a:Operand} {r:SV} (hop:o.op= .load ty a) (hw:zu all t o.guard=some true) (hd:yb fn.ntmps o.dst=true) (ha:zl G t a= .ptr b off) (hb:H[b]?=some (.bld T))
  (hl:ziz P ty [.imm (.val (.pointer none)),.imm (.val (.slice none 0 0))] off=some r) (h:SWr E all rest k (xj t o.dst r) H):SWr E all (o::rest) k t H:=by
 refine qq (r:=r) (H':=H) hw hd (fun c e=>by rw [hop] at e;cases e) (Nat.le_refl _) (fun ρ w I β hH hev=>?_) h;obtain ⟨dst,op,type,pos,after,guard⟩:=o;simp only at hop;subst hop;have h1:=hev a;rw [ha] at h1;generalize hv1:ρ a=v1 at h1;cases h1 with|ptr _ c _ hc=>
 obtain ⟨g1,g2⟩:=hH.obj b _ _ hb hc;have hlies:yyd w I β c 0 [.imm (.val (.pointer none)),.imm (.val (.slice none 0 0))]:=fun j hj=>by
  match j,hj with
  |0,_=>exact ⟨.pointer none,by rw [cell_of_heap g1];rfl,.imm (.val _)⟩
  |1,_=>exact ⟨.slice none 0 0,by rw [cell_of_heap g1];rfl,.imm (.val _)⟩
 obtain ⟨u,hu,hr⟩:=zoj hl hlies;rw [Nat.zero_add] at hu;exact OpRun.value (u:=u) (by show (Instr.loadAt ty (ρ a)).run P w=_;rw [hv1];simpa [Instr.loadAt,Instr.sureAddr] using hu) hr hH .refl
theorem zya {src dst' te b T:Nat} {j:TypeInfo} {x:Operand} (hop:o.op= .convert src dst' x) (hw:zu all t o.guard=some true) (hd:yb fn.ntmps o.dst=true) (hx:zl G t x= .ptr b 0) (hb:H[b]?=some (.bld T)) (hs:P.underlying src=some (.pointer te)) (hdd:P.underlying dst'=some .unsafePointer) (hj:P.info? te=some j) (hjs:j.size≠0)
  (h:SWr E all rest k (xj t o.dst (.ptr b 0)) H):SWr E all (o::rest) k t H:=by
 refine qq (r:=.ptr b 0) (H':=H) hw hd (fun c e=>by rw [hop] at e;cases e) (Nat.le_refl _) (fun ρ w I β hH hev=>?_) h;obtain ⟨dst,op,type,pos,after,guard⟩:=o;simp only at hop;subst hop;have h1:=hev x;rw [hx] at h1;generalize hv1:ρ x=v1 at h1;cases h1 with|ptr _ c _ hc=>
 obtain ⟨g1,g2⟩:=hH.obj b _ _ hb hc;have hsh:w.shape? c=some (T,2):=by simp [World.shape?,g1]
 refine OpRun.same (v:=.pointer (some ⟨c,0,none⟩)) ?_ (.ptr _ _ _ hc) hH;rw [hv1];exact Lib.run_to_unsafe w ⟨c,0,none⟩ hs hdd hj hjs hsh (Nat.zero_lt_succ 1)
theorem zsf {src dst' te b T:Nat} {j:TypeInfo} {x:Operand} (hop:o.op= .convert src dst' x) (hw:zu all t o.guard=some true) (hd:yb fn.ntmps o.dst=true) (hx:zl G t x= .ptr b 0) (hb:H[b]?=some (.bld T)) (hs:P.underlying src=some .unsafePointer) (hdd:P.underlying dst'=some (.pointer te)) (hj:P.info? te=some j)
  (hlies:liesAt P P.depth T (2 / P.cellsOf T) 0 te 1=true) (h:SWr E all rest k (xj t o.dst (.ptr b 0)) H):SWr E all (o::rest) k t H:=by
 refine qq (r:=.ptr b 0) (H':=H) hw hd (fun c e=>by rw [hop] at e;cases e) (Nat.le_refl _) (fun ρ w I β hH hev=>?_) h;obtain ⟨dst,op,type,pos,after,guard⟩:=o;simp only at hop;subst hop;have h1:=hev x;rw [hx] at h1;generalize hv1:ρ x=v1 at h1;cases h1 with|ptr _ c _ hc=>
 obtain ⟨g1,g2⟩:=hH.obj b _ _ hb hc;have hsh:w.shape? c=some (T,2):=by simp [World.shape?,g1]
 refine OpRun.same (v:=.pointer (some ⟨c,0,none⟩)) ?_ (.ptr _ _ _ hc) hH;rw [hv1];exact Lib.run_from_unsafe w ⟨c,0,none⟩ hs hdd hj hsh hlies
theorem zyb {fx a:Operand} {tys:Array TypeId} {f:FuncId} {fnx:Func} {s:SV} (hop:o.op= .call ⟨.value fx,#[a],tys⟩) (hw:zu all t o.guard=some true) (hd:yb fn.ntmps o.dst=true) (hf:zl G t fx= .fn (.func f) [] []) (ha:zl G t a=s)
  (hfn:P.funcs[f]?=some fnx) (hname:(fnx.name== "runtime.NumGoroutine")=false) (hbn:fnx.body.isNone=true) (hn:Extern.findNext fnx=none) (he:Extern.find fnx=some Extern.AbiNoEscape.same)
  (h:SWr E all rest k (xj t o.dst s) H):SWr E all (o::rest) k t H:=by
 refine qq (r:=s) (H':=H) hw hd (fun c e=>by rw [hop] at e;cases e) (Nat.le_refl _) (fun ρ w I β hH hev=>?_) h;obtain ⟨dst,op,type,pos,after,guard⟩:=o;simp only at hop;subst hop;have h1:=hev fx;rw [hf] at h1;have h2:=hev a;rw [ha] at h2;generalize hv1:ρ fx=v1 at h1;cases h1 with|fn _ fs cps _ _ l1 l2 r1 r2=>
 have e1:fs=#[]:=by simpa using l1
 have e2:cps=#[]:=by simpa using l2
 subst e1 e2;refine ⟨.value (ρ a),ρ a,w,I,β,?_,.inl rfl,h2,hH,.refl⟩;simp only [execOp,resolve,hv1,Deferred.ofValue,Sem.run_bind,Sem.run_pure,Result.andThen_ok,invoke];have:=run_callFunc_extern hfn hname hbn hn he #[ρ a] w;simpa [Lib.run_noEscape] using this
theorem yca {b T:Nat} (hb:H[b]?=some (.bld T)) (h:SW E k t (H.set b (.cells [.imm (.val (.pointer none)),.imm (.val (.slice none 0 0))]))):SW E k t H:=by
 refine zxu (σ:=Unit) hb (by simp) (fun _=>.cells [.imm (.val (.pointer none)),.imm (.val (.slice none 0 0))]) (by simp) (fun _=>True) (fun w I β x hx=>⟨(),trivial,?_⟩) (fun _ _=>h);cases x with
 |tok u=>exact hx.elim
 |blk c=>
  obtain ⟨g1,g2⟩:=hx;refine ⟨_,_,g1,rfl,fun j hj hj'=>?_,g2⟩
  match j,hj with
  |0,_=>exact .imm (.val _)
  |1,_=>exact .imm (.val _)
end
end Go.Sh
namespace Go.Proofs.YtjnddlifnkgncaaGreatDoor
open Go Go.Sh
variable (G:List (Nat × D))
abbrev yuo:SV:=.imm (.val (.slice none 0 0))
theorem zps:SCall Tryz.prog G 133 [.ptr 0 0] [.bld 161] (fun r H'=>r= .tup []/\H'=[.cells [.ptr 0 0,yuo]]):=by
 refine ya Tryz.func133 rfl (by rw [Tryz.ntmps133];simp) fun E hH hK=>?_
 (refine ze ?_;conv=>whnf);refine ybz rfl rfl rfl rfl rfl rfl ?_;(refine zc ?_;conv=>whnf);refine yhz rfl rfl rfl rfl rfl rfl ?_;(refine zc ?_;conv=>whnf);refine zya rfl rfl rfl rfl rfl rfl rfl rfl (show 2≠0 by decide) ?_;(refine zc ?_;conv=>whnf);refine zyb rfl rfl rfl rfl rfl Tryz.func166 (by kernel_rfl) (by kernel_rfl) (by kernel_rfl) (by kernel_rfl) ?_;(refine zc ?_;conv=>whnf);refine zsf rfl rfl rfl rfl rfl rfl rfl rfl (by kernel_rfl) ?_;(refine zc ?_;conv=>whnf);refine yw (fun _ h=>yca (b:=0) (T:=161) rfl h) ?_;change SWr E _ _ _ _ [.cells [.imm (.val (.pointer none)),yuo]];(refine zc ?_;conv=>whnf);exact hK _ _ ⟨rfl,rfl⟩
theorem yfg (s:SV) (hs:s.one=true) (X:List SObj):SCall Tryz.prog G 133 [.ptr 0 0] (.cells [.ptr 0 0,s]::X) (fun r H'=>r= .tup []/\H'= .cells [.ptr 0 0,s]::X):=by
 refine ya Tryz.func133 rfl (by rw [Tryz.ntmps133];simp) fun E hH hK=>?_
 (refine ze ?_;conv=>whnf);refine yhy rfl rfl rfl rfl rfl rfl ?_;(refine zc ?_;conv=>whnf);refine yby rfl rfl rfl rfl rfl rfl rfl ?_;(refine zc ?_;conv=>whnf);exact hK _ _ ⟨rfl,rfl⟩
abbrev dU8 (c:UInt8):D:=.val (.int .u8 c.toNat)
abbrev zrz (l:List UInt8):List SObj:=[.cells [.ptr 0 0,.asl 1 1 (l.map fun c=>[dU8 c])],.btok 5 (l.map fun c=>[dU8 c]).length]
theorem zvn (l:List UInt8) (hl:l.length<=1000000) (c:UInt8):SCall Tryz.prog G 99 [.ptr 0 0,.imm (dU8 c)] (zrz l) (fun r H'=>r= .imm (.val .nilIface)/\H'=zrz (l++[c])):=by
 refine ya Tryz.func99 rfl (by rw [Tryz.ntmps99];simp) fun E hH hK=>?_
 have e5:(l.map fun c=>[dU8 c])++[[dU8 c]]=(l++[c]).map fun c=>[dU8 c]:=by simp
 have e6:(l.map fun c=>[dU8 c]).length+[[dU8 c]].length=((l++[c]).map fun c=>[dU8 c]).length:=by simp
 have hlm:(l.map fun c=>[dU8 c]).length=l.length:=by simp
 (refine ze ?_;conv=>whnf);refine zv rfl rfl rfl rfl rfl rfl ((yfg G (.asl 1 1 (l.map fun c=>[dU8 c])) rfl [.btok 5 (l.map fun c=>[dU8 c]).length]).mono fun r H' ⟨h1,h2⟩=>⟨by rw [h2];exact Nat.le_refl _,?_⟩);subst h1 h2;(refine zc ?_;conv=>whnf);refine zpq (b:=1) (rows:=l.map fun c=>[dU8 c]) (new:=[[dU8 c]]) rfl rfl rfl rfl rfl rfl rfl rfl rfl rfl ⟨show 1<=65536 by decide,rfl⟩ rfl (by rw [hlm];simp only [List.length_cons,List.length_nil];omega) ?_;refine Eq.mpr (congrArg (fun v=>SWr E _ _ _ (xj _ _ (.asl 1 1 v)) _) e5) ?_;refine Eq.mpr (congrArg (fun v=>SWr E _ _ _ _ (List.set _ 1 (.btok 5 v))) e6) ?_;(refine zc ?_;conv=>whnf);exact hK _ _ ⟨rfl,rfl⟩
theorem zsg (c:UInt8):SCall Tryz.prog G 99 [.ptr 0 0,.imm (dU8 c)] [.bld 161] (fun r H'=>r= .imm (.val .nilIface)/\H'=zrz [c]):=by
 refine ya Tryz.func99 rfl (by rw [Tryz.ntmps99];simp) fun E hH hK=>?_
 (refine ze ?_;conv=>whnf);refine zv rfl rfl rfl rfl rfl rfl ((zps G).mono fun r H' ⟨h1,h2⟩=>⟨by rw [h2];exact Nat.le_refl _,?_⟩);subst h1 h2;refine yw (fun _ h=>zpr 0 1 5 (cs:=[.ptr 0 0,yuo]) rfl rfl h) ?_;change SWr E _ _ _ _ [.cells [.ptr 0 0,.asl 1 1 []],.btok 5 0];(refine zc ?_;conv=>whnf);refine zpq (b:=1) (rows:=[]) (new:=[[dU8 c]]) rfl rfl rfl rfl rfl rfl rfl rfl rfl rfl ⟨show 1<=65536 by decide,rfl⟩ rfl (by simp) ?_;(refine zc ?_;conv=>whnf);exact hK _ _ ⟨rfl,rfl⟩
theorem ylu {G:List (Nat × D)} {w:World} {I:Imm} {β:List Bnd} {l:List UInt8} (h0:l≠[]) (hH:HeapOK G w I β (zrz l)) {c:Nat} (hc:β[0]?=some (.blk c)):
  ∃g cap p cur T,w.heap[c]?=some (.cells #[p,.slice (some ⟨g,0,none⟩) l.length cap] T (0,0))/\w.heap[g]?=some (.cells cur 5 (0,0))/\l.length<=cap/\cap<=maxLen/\cur.size=cap*1/\
   (∀j x,l[j]?=some x->w.cell? ⟨g,j,none⟩=some (.int .u8 x.toNat))/\β[1]?=some (.tok (.slice (some ⟨g,0,none⟩) l.length cap)):=by
 obtain ⟨vs,T,g1,g2,g3,g4⟩:=hH.obj 0 _ _ rfl hc;obtain ⟨x1,hx1⟩:∃x,β[1]?=some x:=⟨β[1]'(by rw [hH.len];simp),List.getElem?_eq_getElem _⟩;have hob:=hH.obj 1 _ _ rfl hx1;have hll:(l.map fun c=>[dU8 c]).length=l.length:=by simp
 have hpos:0<l.length:=List.length_pos_iff.2 h0;cases x1 with
 |blk _=>exact hob.elim
 |tok u=>
 have hsz:vs.size=2:=by simpa using g2
 have r1:=g3 1 (by simp) (by omega);simp only [List.getElem_cons_succ,List.getElem_cons_zero] at r1
 obtain ⟨p,v,rfl⟩:∃p v,vs=#[p,v]:=⟨vs[0],vs[1],by
  apply Array.ext
  ·simp [hsz]
  ·intro i h1 h2
   match i,h1 with
   |0,_=>rfl
   |1,_=>rfl
   |i+2,h=>omega⟩
 rcases hob with ⟨hz,_⟩|⟨g,cap,cur,rfl,h1,h2,h3,h4,h5⟩
 ·rw [hll] at hz;omega
 ·change Rep w I β v (.asl 1 1 (l.map fun c=>[dU8 c])) at r1
  cases r1 with
  |asl _ _ _ _ u n' hd hbu hus hle heq=>
  rw [hx1] at hbu;cases hbu;obtain ⟨a',cap',e⟩:=hus;cases e;have hv:=heq rfl;subst hv;rw [hll] at g1 hd h3 hx1;refine ⟨g,cap,p,cur,T,g1,h1,h3,h4,h2,fun j x hj=>?_,hx1⟩;have hR:(l.map fun c=>[dU8 c])[j]?=some [dU8 x]:=by simp [hj]
  have hlt:=(List.getElem?_eq_some_iff.1 hR).1;generalize (l.map fun c=>[dU8 c])=R at hd hR hlt;generalize l.length=n at hd;cases hd with
  |islEmpty a k=>simp at hlt
  |isl _ _ _ _ _ V a1 a2 a3 a4 a5=>
   have e:=(List.getElem?_eq_some_iff.1 hR).2;have b1:=(a4 j 0 hlt (by decide)).2.1;have b2:=a5 j 0 hlt (by rw [e];simp);simp only [e,List.getElem_cons_zero] at b2;rw [show 0+j*1+0=j by omega] at b1;rw [b1];generalize V j 0=y at b2;cases b2;rfl
open Go Go.Sh Go.RowKit
theorem zyc (c g cap:Nat) (p:Value) (cur:Array Value) (T:Nat) (l:List UInt8) (h0:l≠[]) (hl:l.length<=1000000) (w:World) (f1:w.heap[c]?=some (.cells #[p,.slice (some ⟨g,0,none⟩) l.length cap] T (0,0))) (f2:w.heap[g]?=some (.cells cur 5 (0,0)))
  (f3:l.length<=cap) (f5:cur.size=cap*1) (f6:∀j x,l[j]?=some x->w.cell? ⟨g,j,none⟩=some (.int .u8 x.toNat)):
  Calls Tryz.prog 94 #[.pointer (some ⟨c,0,none⟩)] w fun e w'=>e= .returned (.string ⟨l.toArray⟩)/\w'=w.drew.freeze ⟨g,0,none⟩ l.length:=by
 have hpos:0<l.length:=List.length_pos_iff.2 h0;have c1:w.drew.cell? ⟨c,1,none⟩=some (.slice (some ⟨g,0,none⟩) l.length cap):=by
  have:w.drew.heap[c]?=some (.cells #[p,.slice (some ⟨g,0,none⟩) l.length cap] T (0,0)):=f1;rw [Lib.cell_of_heap this];rfl
 have hcm:cap≠0:=by omega
 have hSD:∀ts ty,(Builtin.unsafeSliceData_ ts ty #[.slice (some ⟨g,0,none⟩) l.length cap]).run Tryz.prog w.drew= .ok (.pointer (some ⟨g,0,none⟩)) w.drew:=fun ts ty=>Lib.run_unsafeSliceData_row _ ts ty _ _ _ hcm
 have hUS:∀it ty,(Builtin.unsafeString_ #[201,it] ty #[.pointer (some ⟨g,0,none⟩),.int .i64 l.length]).run Tryz.prog w.drew= .ok (.string ⟨l.toArray⟩) (w.drew.freeze ⟨g,0,none⟩ l.length):=fun it ty=>
  Lib.run_unsafeString_row w.drew 201 it ty 5 rfl (by kernel_rfl) g cur.size (by have hg':w.drew.heap[g]?=some (.cells cur 5 (0,0)):=f2;simp [World.shape?,hg']) l h0 (by omega) (by omega) (fun j x hx=>by
   have:=f6 j x hx;rw [qe]
   simpa using this)
 have mixed:=mixed
 go_enter Tryz.func94,Tryz.ntmps94
 go_wp2
 go_region_o
 all_goals (go_wp2;go_ret;exact ⟨rfl,rfl⟩)
theorem ycb (w:World) (g n c o:Nat):(w.freeze ⟨g,0,none⟩ n).cell? ⟨c,o,none⟩=w.cell? ⟨c,o,none⟩:=by
 unfold World.freeze;split
 ·rfl
 ·simp only [World.cell?,Array.getElem?_modify]
  by_cases e:g=c
  ·rw [if_pos e]
   cases hh:w.heap[c]? with
   |none=>rfl
   |some ob=>cases ob<;>rfl
  ·rw [if_neg e]
theorem zmt {w:World} {g n c:Nat} (hne:c≠g):(w.freeze ⟨g,0,none⟩ n).heap[c]?=w.heap[c]?:=by
 unfold World.freeze;split
 ·rfl
 ·simp [Array.getElem?_modify,Ne.symm hne]
theorem ycc (w:World) (g n:Nat):(w.freeze ⟨g,0,none⟩ n).heap.size=w.heap.size:=by
 unfold World.freeze;split
 ·rfl
 ·simp
theorem yia (w:World) (g n:Nat):(w.freeze ⟨g,0,none⟩ n).os=w.os/\(w.freeze ⟨g,0,none⟩ n).output=w.output:=by
 unfold World.freeze;split<;>exact ⟨rfl,rfl⟩
abbrev yyt (l:List UInt8):List SObj:=[.cells [.ptr 0 0,.asl 1 1 (l.map fun c=>[dU8 c])],.dead]
theorem zey (l:List UInt8) (h0:l≠[]) (hl:l.length<=1000000):SCall Tryz.prog G 94 [.ptr 0 0] (zrz l) (fun r H'=>r= .imm (.val (.string ⟨l.toArray⟩))/\H'=yyt l):=by
 intro w I β vs hH hv;obtain ⟨v,e1,hv⟩:=hv.one;cases hv with
 |ptr _ c _ hc=>
 obtain rfl:vs=#[.pointer (some ⟨c,0,none⟩)]:=by
  apply Array.ext'
  rw [e1]
 obtain ⟨g,cap,p,cur,T,f1,f2,f3,f4,f5,f6,f7⟩:=ylu h0 hH hc;refine (zyc c g cap p cur T l h0 hl w f1 f2 f3 f5 f6).mono ?_;rintro e w' ⟨rfl,rfl⟩;have o0:wv (zrz l) β 0 c:=⟨_,_,rfl,by simp,hc,rfl⟩;have o1:wv (zrz l) β 1 g:=⟨_,_,rfl,by simp,f7,rfl⟩;have hcg:c≠g:=fun h=>by
  subst h;have:=hH.inj _ _ _ o0 o1;omega
 have hown:∀b c',wv (yyt l) β b c'->wv (zrz l) β b c':=by
  rintro b c' ⟨o,x,h1,h2,h3,h4⟩
  match b,h1 with
  |0,h1=>exact ⟨_,x,rfl,by simp,h3,h4⟩
  |1,h1=>cases h1;exact absurd rfl h2
 have hcell:∀c' o,I c' o->(w.drew.freeze ⟨g,0,none⟩ l.length).cell? ⟨c',o,none⟩=w.cell? ⟨c',o,none⟩:=fun c' o _=>ycb w.drew g l.length c' o
 have hsz:(w.drew.freeze ⟨g,0,none⟩ l.length).heap.size=w.heap.size:=ycc w.drew g l.length
 refine ⟨_,_,I,β,yyt l,rfl,⟨rfl,rfl⟩,.imm (.val _),⟨hH.len,fun b o x h1 h2=>?_,fun b b' c' h1 h2=>hH.inj b b' c' (hown _ _ h1) (hown _ _ h2),fun c' o h=>by rw [hsz];exact hH.inI c' o h,fun gg d hg=>(hH.glob gg d hg).mono (fun _ _ h=>h) hcell⟩,
  {imm:=fun _ _ h=>h,cell:=hcell,keep:=.refl _ _,old:=fun c' hc' hn=>zmt (w:=w.drew) (fun h=>hn 1 (h ▸ o1)),own:=fun b c' h=>.inl ⟨b,hown b c' h⟩,new:=fun _ _ h=>.inl h,size:=Nat.le_of_eq hsz.symm,env:=yia w.drew g l.length}⟩
 match b,h1 with
 |0,h1=>
  cases h1;rw [hc] at h2;cases h2;exact (hH.obj 0 _ _ rfl hc).mono (fun c' h=>by cases h;exact zmt (w:=w.drew) hcg) (fun _ _ h=>h) hcell (.refl _ _) (fun _ _ _ h=>h)
 |1,h1=>cases h1;trivial
def zvo:List UInt8->List SObj
 |[]=>[.bld 161]
 |x::l=>zrz (x::l)
theorem zyd (l:List UInt8) (c:UInt8):zvo (l++[c])=zrz (l++[c]):=by cases l<;>rfl
theorem yfh (l:List UInt8) (c:UInt8):(zvo l).length<=(zvo (l++[c])).length:=by
 rw [zyd];cases l
 ·exact Nat.le_succ 1
 ·exact Nat.le_refl 2
theorem zye (l:List UInt8) (hl:l.length<=1000000) (c:UInt8):SCall Tryz.prog G 99 [.ptr 0 0,.imm (dU8 c)] (zvo l) (fun r H'=>r= .imm (.val .nilIface)/\H'=zvo (l++[c])):=by
 rw [zyd];cases l with
 |nil=>exact zsg G c
 |cons x l=>exact zvn G (x::l) hl c
def ypj (n:Nat):UInt8:=[48,49,50,51,52,53,54,55,56,57,97,98,99,100,101,102].getD n 0
theorem yqt:∀x,x<16->(⟨#[48,49,50,51,52,53,54,55,56,57,97,98,99,100,101,102]⟩:ByteArray).data.toList[x]?=some (ypj x):=by decide
def zyf (d:Nat):List UInt8:=(ztb d).map ypj
def zek (d:Nat):ByteArray:=⟨(zyf d).toArray⟩
theorem yfi (d:Nat) (hd:d<18446744073709551616):zq Tryz.prog G 57 [yg d] (sS (zek d)):=by
 refine zh Tryz.func57 rfl (by rw [Tryz.ntmps57];simp) rfl rfl ?_;intro E hH hK;(refine zm [777,3] 1000 ?_;conv=>whnf);refine zex rfl rfl rfl rfl rfl ?_;(refine zc ?_;conv=>whnf);refine zg [0,3,4] ?_;change SW E _ [(0,yg d),(3,.ptr 0 0),(4,sI (60-4*((0:Nat):Int)))] (zvo []);refine zp (List.range 16) (fun j (_:List UInt8)=>[(0,yg d),(3,.ptr 0 0),(4,sI (60-4*(j:Int)))]) (fun _ l=>zvo l) (fun done _ l=>l=((List.range done.length).map (nib d)).map ypj) [] rfl ?_ ?_
 ·rintro l h
  have h:l=zyf d:=h;have hlen:l.length=16:=by rw [h];simp [zyf,ztb]
  have h0:l≠[]:=by intro e;rw [e] at hlen;cases hlen
  have hs:=zey G l h0 (by omega);rw [show zek d=⟨l.toArray⟩ by rw [h];rfl] at hK;have hb:zvo l=zrz l:=by cases l with|nil=>exact absurd rfl h0|cons x l=>rfl
  rw [hb];(refine ze ?_;conv=>whnf)
  repeat' ((with_reducible refine way ?_ ?_)<;>(intro h;conv=>whnf))
  all_goals try (exfalso;omega)
  refine zv rfl rfl rfl rfl rfl rfl (hs.mono fun r H' ⟨h1,h2⟩=>⟨by rw [h2];exact Nat.le_refl _,?_⟩);subst h1 h2;(refine zc ?_;conv=>whnf);exact hK _
 ·rintro done j rest l hda hdl h ih
  have hj:done.length<16:=by simp at hdl;omega
  have hsh:=ybx d done.length hj;have hq:d / 16 ^ (15-done.length)<18446744073709551616:=zgw _ hd;have hll:l.length=done.length:=by rw [h];simp
  have hnl:=yff d done.length;have hnx:=ih (l++[ypj (nib d done.length)]) (by rw [List.length_append,List.length_cons,List.length_nil,List.range_succ,List.map_append,List.map_append, <-h];rfl);have w4:IntKind.i64.wrap (60-4*(done.length:Int)-4)=60-4*((done.length+1:Nat):Int):=by rw [zt (by omega) (by omega)];omega
  (refine zm [777,11] 1000 ?_;conv=>whnf)
  repeat' ((with_reducible refine way ?_ ?_)<;>(intro h;conv=>whnf))
  all_goals try (exfalso;omega)
  refine zpo rfl rfl rfl rfl rfl (by omega) ?_;rw [hsh];(refine zj [777,13] 1000 ?_;conv=>whnf);rw [yun hq,show d / 16 ^ (15-done.length) % 16=nib d done.length from rfl];generalize nib d done.length=x at hnx hnl ⊢;have hget:(⟨#[48,49,50,51,52,53,54,55,56,57,97,98,99,100,101,102]⟩:ByteArray).data.toList[x]?=some (ypj x):=yqt x hnl;refine zbm rfl rfl rfl rfl rfl rfl  hget ?_;(refine zc ?_;conv=>whnf);refine zv rfl rfl rfl rfl rfl rfl ((zye G l (by omega) (ypj x)).mono fun r H' ⟨h1,h2⟩=>⟨by rw [h2];exact yfh _ _,?_⟩);subst h1 h2;(refine zc ?_;conv=>whnf);rw [w4];exact zg [0,3,4] hnx
def yqu (d i:Nat):UInt8:=UInt8.ofNat (d / 256 ^ (7-i) % 256)
def zny (d:Nat):List UInt8:=(List.range 8).map (yqu d)
def zig (d:Nat):ByteArray:=⟨(zny d).toArray⟩
theorem zhx (d i:Nat):(yqu d i).toNat=d / 256 ^ (7-i) % 256:=by
 unfold yqu;rw [UInt8.toNat_ofNat'];exact Nat.mod_eq_of_lt (Nat.mod_lt _ (by decide))
theorem yup (d j:Nat) (hj:j<8):((d:Int).fdiv (2 ^ min (56-8*(j:Int)).toNat IntKind.u64.bits))=((d / 256 ^ (7-j):Nat):Int):=by
 rw [ybp];have h1:min (56-8*(j:Int)).toNat IntKind.u64.bits=8*(7-j):=by
  show min (56-8*(j:Int)).toNat 64=_;omega
 rw [h1,Nat.pow_mul]
theorem yqv (n:Nat):IntKind.u8.wrap (n:Int)=((n % 256:Nat):Int):=by
 have hb:IntKind.u8.bits=8:=rfl;have hs:IntKind.u8.signed=false:=rfl;unfold IntKind.wrap;simp only [hb,hs,Bool.false_and,Bool.false_eq_true,if_false];omega
theorem znz (d:Nat) (hd:d<18446744073709551616):zq Tryz.prog G 98 [yg d] (sS (zig d)):=by
 refine zh Tryz.func98 rfl (by rw [Tryz.ntmps98];simp) rfl rfl ?_;intro E hH hK;(refine zm [777,3] 1000 ?_;conv=>whnf);refine zex rfl rfl rfl rfl rfl ?_;(refine zc ?_;conv=>whnf);refine zg [0,3,4] ?_;change SW E _ [(0,yg d),(3,.ptr 0 0),(4,sI (56-8*((0:Nat):Int)))] (zvo []);refine zp (List.range 8) (fun j (_:List UInt8)=>[(0,yg d),(3,.ptr 0 0),(4,sI (56-8*(j:Int)))]) (fun _ l=>zvo l) (fun done _ l=>l=(List.range done.length).map (yqu d)) [] rfl ?_ ?_
 ·rintro l h
  have h:l=zny d:=h;have hlen:l.length=8:=by rw [h];simp [zny]
  have h0:l≠[]:=by intro e;rw [e] at hlen;cases hlen
  have hs:=zey G l h0 (by omega);rw [show zig d=⟨l.toArray⟩ by rw [h];rfl] at hK;have hb:zvo l=zrz l:=by cases l with|nil=>exact absurd rfl h0|cons x l=>rfl
  rw [hb];(refine ze ?_;conv=>whnf)
  repeat' ((with_reducible refine way ?_ ?_)<;>(intro h;conv=>whnf))
  all_goals try (exfalso;omega)
  refine zv rfl rfl rfl rfl rfl rfl (hs.mono fun r H' ⟨h1,h2⟩=>⟨by rw [h2];exact Nat.le_refl _,?_⟩);subst h1 h2;(refine zc ?_;conv=>whnf);exact hK _
 ·rintro done j rest l hda hdl h ih
  have hj:done.length<8:=by simp at hdl;omega
  have hsh:=yup d done.length hj;have hll:l.length=done.length:=by rw [h];simp
  have hnx:=ih (l++[yqu d done.length]) (by rw [List.length_append,List.length_cons,List.length_nil,List.range_succ,List.map_append, <-h];rfl);have w4:IntKind.i64.wrap (56-8*(done.length:Int)-8)=56-8*((done.length+1:Nat):Int):=by rw [zt (by omega) (by omega)];omega
  (refine zm [777,11] 1000 ?_;conv=>whnf)
  repeat' ((with_reducible refine way ?_ ?_)<;>(intro h;conv=>whnf))
  all_goals try (exfalso;omega)
  refine zpo rfl rfl rfl rfl rfl (by omega) ?_;rw [hsh];(refine zc ?_;conv=>whnf);rw [yqv, <-zhx];generalize yqu d done.length=x at hnx ⊢;refine zv rfl rfl rfl rfl rfl rfl ((zye G l (by omega) x).mono fun r H' ⟨h1,h2⟩=>⟨by rw [h2];exact yfh _ _,?_⟩);subst h1 h2;(refine zc ?_;conv=>whnf);rw [w4];exact zg [0,3,4] hnx
end Go.Proofs.YtjnddlifnkgncaaGreatDoor
namespace Go.Proofs
open Go.Shelf
open Go.RowKit in
open Go.RowKit in
open Go.RowKit in
open Go.RowKit in
open Go.Lib in
open Go.Lib in
open Go.Lib in
open Go.Lib in
open Go.RowKit Go.Sort Go.Lib in
def Tryz.laysM246_ren:Go.Shelf.Ren:=⟨fun|246=>134|283=>167|284=>168|285=>169|286=>170|129=>183|317=>195|318=>196|319=>197|320=>198|337=>211|338=>212|n=>n,fun|2=>2|3=>3|9=>9|4=>4|171=>228|0=>0|53=>24|37=>159|5=>5|173=>231|212=>254|51=>245|20=>20|213=>255|46=>189|232=>267|233=>268|n=>n,fun|17=>2|18=>4|19=>5|n=>n⟩
open Go.RowKit Go.Sort Go.Lib in
open Go.RowKit Go.Sort Go.Lib in
def Tryz.laysM243_ren:Go.Shelf.Ren:=⟨fun|243=>96|246=>134|283=>167|284=>168|285=>169|286=>170|129=>183|317=>195|318=>196|319=>197|320=>198|337=>211|338=>212|n=>n,fun|3=>3|9=>9|2=>2|4=>4|171=>228|0=>0|53=>24|37=>159|5=>5|173=>231|212=>254|51=>245|20=>20|213=>255|46=>189|232=>267|233=>268|n=>n,fun|17=>2|18=>4|19=>5|n=>n⟩
open Go.RowKit Go.Sort Go.Lib in
open Go.RowKit Go.Sort Go.Lib in
def Tryz.laysM171_ren:Go.Shelf.Ren:=⟨fun|171=>55|243=>96|246=>134|283=>167|284=>168|285=>169|286=>170|129=>183|317=>195|318=>196|319=>197|320=>198|337=>211|338=>212|n=>n,fun|3=>3|9=>9|2=>2|4=>4|171=>228|0=>0|53=>24|37=>159|5=>5|173=>231|212=>254|51=>245|20=>20|213=>255|46=>189|232=>267|233=>268|n=>n,fun|17=>2|18=>4|19=>5|n=>n⟩
theorem Tryz.laysM171 : Go.Proofs.LaysM.n171 Tryz.prog Tryz.laysM171_ren := {
  mixed := by kernel_rfl
  f129 := Tryz.func183.trans (congrArg some (by kernel_rfl))
  f171 := Tryz.func55.trans (congrArg some (by kernel_rfl))
  f243 := Tryz.func96.trans (congrArg some (by kernel_rfl))
  f246 := Tryz.func134.trans (congrArg some (by kernel_rfl))
  f283 := Tryz.func167.trans (congrArg some (by kernel_rfl))
  f284 := Tryz.func168.trans (congrArg some (by kernel_rfl))
  f285 := Tryz.func169.trans (congrArg some (by kernel_rfl))
  f286 := Tryz.func170.trans (congrArg some (by kernel_rfl))
  f317 := Tryz.func195.trans (congrArg some (by kernel_rfl))
  f318 := Tryz.func196.trans (congrArg some (by kernel_rfl))
  f319 := Tryz.func197.trans (congrArg some (by kernel_rfl))
  f320 := Tryz.func198.trans (congrArg some (by kernel_rfl))
  f337 := Tryz.func211.trans (congrArg some (by kernel_rfl))
  f338 := Tryz.func212.trans (congrArg some (by kernel_rfl))
  t0 := Tryz.underlying0
  a0 := Tryz.isAgg0
  z0 := Tryz.sizeOf0
  v0 := Tryz.zeroValue0
  t2 := Tryz.underlying2
  a2 := Tryz.isAgg2
  z2 := Tryz.sizeOf2
  v2 := Tryz.zeroValue2
  t3 := Tryz.underlying3
  a3 := Tryz.isAgg3
  z3 := Tryz.sizeOf3
  v3 := Tryz.zeroValue3
  t4 := Tryz.underlying4
  a4 := Tryz.isAgg4
  z4 := Tryz.sizeOf4
  v4 := Tryz.zeroValue4
  t5 := Tryz.underlying5
  a5 := Tryz.isAgg5
  z5 := Tryz.sizeOf5
  v5 := Tryz.zeroValue5
  t9 := Tryz.underlying9
  a9 := Tryz.isAgg9
  z9 := Tryz.sizeOf9
  v9 := Tryz.zeroValue9
  t20 := Tryz.underlying20
  a20 := Tryz.isAgg20
  z20 := Tryz.sizeOf20
  v20 := Tryz.zeroValue20
  t37 := Tryz.underlying159
  a37 := Tryz.isAgg159
  z37 := Tryz.sizeOf159
  v37 := Tryz.zeroValue159
  t46 := Tryz.underlying189
  a46 := Tryz.isAgg189
  z46 := Tryz.sizeOf189
  v46 := Tryz.zeroValue189
  t51 := Tryz.underlying245
  a51 := Tryz.isAgg245
  z51 := Tryz.sizeOf245
  v51 := Tryz.zeroValue245
  t53 := Tryz.underlying24
  a53 := Tryz.isAgg24
  z53 := Tryz.sizeOf24
  v53 := Tryz.zeroValue24
  t171 := Tryz.underlying228
  a171 := Tryz.isAgg228
  z171 := Tryz.sizeOf228
  v171 := Tryz.zeroValue228
  t173 := Tryz.underlying231
  a173 := Tryz.isAgg231
  z173 := Tryz.sizeOf231
  v173 := Tryz.zeroValue231
  t212 := Tryz.underlying254
  a212 := Tryz.isAgg254
  z212 := Tryz.sizeOf254
  v212 := Tryz.zeroValue254
  t213 := Tryz.underlying255
  a213 := Tryz.isAgg255
  z213 := Tryz.sizeOf255
  t232 := Tryz.underlying267
  a232 := Tryz.isAgg267
  z232 := Tryz.sizeOf267
  v232 := Tryz.zeroValue267
  t233 := Tryz.underlying268
  a233 := Tryz.isAgg268
  z233 := Tryz.sizeOf268
  v233 := Tryz.zeroValue268
  g17 := by kernel_rfl
  g18 := by kernel_rfl
  g19 := by kernel_rfl
  i0 := by kernel_rfl
  i2 := by kernel_rfl
  i3 := by kernel_rfl
  i4 := by kernel_rfl
  i5 := by kernel_rfl
  i9 := by kernel_rfl
  i20 := by kernel_rfl
  i37 := by kernel_rfl
  i46 := by kernel_rfl
  i51 := by kernel_rfl
  i53 := by kernel_rfl
  i171 := by kernel_rfl
  i173 := by kernel_rfl
  i212 := by kernel_rfl
  i232 := by kernel_rfl
  i233 := by kernel_rfl
  m17 := by kernel_rfl
  m18 := by kernel_rfl
  m19 := by kernel_rfl }
open Go.RowKit Go.Sort Go.Lib in
theorem Tryz.strconv_Itoa (n:Int) (h0: -9223372036854775808<=n) (h1:n<=9223372036854775807) (w:World) (htab:Lib.TabIs Tryz.prog w "internal/strconv.uint64pow10" .u64 Lib.pow10Tab):
  Calls Tryz.prog 55 #[.int .i64 n] w fun e w'=>e= .returned (.string ⟨(Lib.itoa n).toArray⟩)/\∃k os,w'=grow (w.drewN k) os:=Any.strconv_Itoa Tryz.laysM171 n h0 h1 w htab
open Go.RowKit Go.Sort Go.Lib in
def Tryz.lays189_ren:Go.Shelf.Ren:=⟨fun|189=>105|125=>144|257=>143|128=>182|129=>183|294=>173|295=>174|296=>175|297=>176|298=>177|299=>178|216=>179|300=>180|301=>181|328=>199|329=>200|330=>201|331=>202|332=>203|215=>204|343=>213|n=>n,fun|28=>23|3=>3|46=>189|0=>0|51=>245|53=>24|4=>4|183=>238|182=>237|131=>48|5=>5|9=>9|218=>256|222=>171|228=>265|229=>46|n=>n,fun|n=>n⟩
theorem Tryz.lays189 : Go.Proofs.Lays.n189 Tryz.prog Tryz.lays189_ren := {
  mixed := by kernel_rfl
  f125 := Tryz.func144.trans (congrArg some (by kernel_rfl))
  f128 := Tryz.func182.trans (congrArg some (by kernel_rfl))
  f129 := Tryz.func183.trans (congrArg some (by kernel_rfl))
  f189 := Tryz.func105.trans (congrArg some (by kernel_rfl))
  f215 := Tryz.func204.trans (congrArg some (by kernel_rfl))
  f216 := Tryz.func179.trans (congrArg some (by kernel_rfl))
  f257 := Tryz.func143.trans (congrArg some (by kernel_rfl))
  f294 := Tryz.func173.trans (congrArg some (by kernel_rfl))
  f295 := Tryz.func174.trans (congrArg some (by kernel_rfl))
  f296 := Tryz.func175.trans (congrArg some (by kernel_rfl))
  f297 := Tryz.func176.trans (congrArg some (by kernel_rfl))
  f298 := Tryz.func177.trans (congrArg some (by kernel_rfl))
  f299 := Tryz.func178.trans (congrArg some (by kernel_rfl))
  f300 := Tryz.func180.trans (congrArg some (by kernel_rfl))
  f301 := Tryz.func181.trans (congrArg some (by kernel_rfl))
  f328 := Tryz.func199.trans (congrArg some (by kernel_rfl))
  f329 := Tryz.func200.trans (congrArg some (by kernel_rfl))
  f330 := Tryz.func201.trans (congrArg some (by kernel_rfl))
  f331 := Tryz.func202.trans (congrArg some (by kernel_rfl))
  f332 := Tryz.func203.trans (congrArg some (by kernel_rfl))
  f343 := Tryz.func213.trans (congrArg some (by kernel_rfl))
  t0 := Tryz.underlying0
  a0 := Tryz.isAgg0
  z0 := Tryz.sizeOf0
  v0 := Tryz.zeroValue0
  t3 := Tryz.underlying3
  a3 := Tryz.isAgg3
  z3 := Tryz.sizeOf3
  v3 := Tryz.zeroValue3
  t4 := Tryz.underlying4
  a4 := Tryz.isAgg4
  z4 := Tryz.sizeOf4
  v4 := Tryz.zeroValue4
  t5 := Tryz.underlying5
  a5 := Tryz.isAgg5
  z5 := Tryz.sizeOf5
  v5 := Tryz.zeroValue5
  t9 := Tryz.underlying9
  a9 := Tryz.isAgg9
  z9 := Tryz.sizeOf9
  v9 := Tryz.zeroValue9
  t28 := Tryz.underlying23
  a28 := Tryz.isAgg23
  z28 := Tryz.sizeOf23
  v28 := Tryz.zeroValue23
  t46 := Tryz.underlying189
  a46 := Tryz.isAgg189
  z46 := Tryz.sizeOf189
  v46 := Tryz.zeroValue189
  t51 := Tryz.underlying245
  a51 := Tryz.isAgg245
  z51 := Tryz.sizeOf245
  v51 := Tryz.zeroValue245
  t53 := Tryz.underlying24
  a53 := Tryz.isAgg24
  z53 := Tryz.sizeOf24
  v53 := Tryz.zeroValue24
  t131 := Tryz.underlying48
  a131 := Tryz.isAgg48
  z131 := Tryz.sizeOf48
  v131 := Tryz.zeroValue48
  t182 := Tryz.underlying237
  a182 := Tryz.isAgg237
  z182 := Tryz.sizeOf237
  v182 := Tryz.zeroValue237
  t183 := Tryz.underlying238
  a183 := Tryz.isAgg238
  z183 := Tryz.sizeOf238
  v183 := Tryz.zeroValue238
  t218 := Tryz.underlying256
  a218 := Tryz.isAgg256
  z218 := Tryz.sizeOf256
  v218 := Tryz.zeroValue256
  t222 := Tryz.underlying171
  a222 := Tryz.isAgg171
  z222 := Tryz.sizeOf171
  v222 := Tryz.zeroValue171
  t228 := Tryz.underlying265
  a228 := Tryz.isAgg265
  z228 := Tryz.sizeOf265
  v228 := Tryz.zeroValue265
  t229 := Tryz.underlying46
  a229 := Tryz.isAgg46
  z229 := Tryz.sizeOf46
  v229 := Tryz.zeroValue46 }
open Go.Sort Go.RowKit in
theorem Tryz.slices_Sort_int (blk off cap:Nat) (zs:List Int) (w:World) (hH:Holds (Value.int .i64) w blk off zs.toArray) (hblk:blk<w.heap.size) (hsz:zs.length<4611686018427387904):
  Calls Tryz.prog 105 #[.slice (some ⟨blk,off,none⟩) zs.length cap] w fun e w'=>
   e= .returned (.tuple #[])/\∃n os,w'=grow (putRow (Value.int .i64) (Sort.ahead w n) blk off (zs.mergeSort fun x y=>decide (x<=y)).toArray) os:=Any.slices_Sort_int Tryz.lays189 blk off cap zs w hH hblk hsz
open Go.Lib in
open Go.Lib in
open Go.Lib in
open Go.Lib in
open Go.Lib in
open Go.Lib in
open Go.RowKit Go.Lib in
open Go.RowKit Go.Lib in
open Go.RowKit Go.Lib in
def Tryz.laysNm220_ren:Go.Shelf.Ren:=⟨fun|20=>110|n=>n,fun|22=>23|3=>3|4=>4|0=>0|n=>n,fun|n=>n⟩
theorem Tryz.laysNm220 : Go.Proofs.Lays2.n20 Tryz.prog Tryz.laysNm220_ren := {
  mixed := by kernel_rfl
  f20 := Tryz.func110.trans (congrArg some (by kernel_rfl))
  t0 := Tryz.underlying0
  a0 := Tryz.isAgg0
  z0 := Tryz.sizeOf0
  v0 := Tryz.zeroValue0
  t3 := Tryz.underlying3
  a3 := Tryz.isAgg3
  z3 := Tryz.sizeOf3
  v3 := Tryz.zeroValue3
  t4 := Tryz.underlying4
  a4 := Tryz.isAgg4
  z4 := Tryz.sizeOf4
  v4 := Tryz.zeroValue4
  t22 := Tryz.underlying23
  a22 := Tryz.isAgg23
  z22 := Tryz.sizeOf23
  v22 := Tryz.zeroValue23
  i3 := by kernel_rfl }
open Go.RowKit Go.Lib Go.Sort in
open Go.RowKit Go.Lib Go.Sort in
theorem Tryz.slices_Compact_int (blk off cap:Nat) (zs:List Int) (w:World) (hH:Holds (Value.int .i64) w blk off zs.toArray) (hsz:zs.length<=9223372036854775807) (hcap:zs.length<=cap):
  Calls Tryz.prog 110 #[.slice (some ⟨blk,off,none⟩) zs.length cap] w fun e w'=>e= .returned (.slice (some ⟨blk,off,none⟩) (Lib.compact zs).length cap)/\∃q,w'=putRow (Value.int .i64) (Sort.ahead w q) blk off (Lib.compact zs++List.replicate (zs.length-(Lib.compact zs).length) 0).toArray:=Any.slices_Compact_int Tryz.laysNm220 blk off cap zs w hH hsz hcap
open Go.RowKit Go.Lib Go.Sort in
theorem Tryz.slices_Compact_int_empty (a:Option Addr) (cap:Nat) (w:World):
  Calls Tryz.prog 110 #[.slice a 0 cap] w fun e w'=>e= .returned (.slice a 0 cap)/\w'=w:=Any.slices_Compact_int_empty Tryz.laysNm220 a cap w
open Go.RowKit Go.Lib in
open Go.RowKit Go.Lib in
open Go.RowKit Go.Lib Go.Sort in
open Go.RowKit Go.Sort in
theorem Tryz.slices_Sort_int_none (p:Option Addr) (cap:Nat) (w:World):
  Calls Tryz.prog 105 #[.slice p 0 cap] w fun e w'=>e= .returned (.tuple #[])/\w'=w:=Any.slices_Sort_int_none Tryz.lays189 p cap w
end Go.Proofs
namespace Go.Proofs.YtjnddlifnkgncaaGreatDoor
open Go Go.Sh Go.Sort
theorem ylv {w:World} {I:Imm} {g:Nat} {vs:List Value} (h:DRep w I (.pointer (some ⟨g,0,none⟩)) (.tab vs)) (h0:vs≠[]):∃T fr,w.heap[g]?=some (.cells vs.toArray T fr):=by
 generalize hv:(Value.pointer (some ⟨g,0,none⟩))=v at h;cases h with
 |tab b _ h=>
  cases hv;have hpos:0<vs.length:=List.length_pos_iff.2 h0;cases hh:w.heap[g]? with
  |none=>
   have:=(h 0).2;simp [World.cell?,hh,List.getElem?_eq_getElem hpos] at this
  |some ob=>
   cases ob with
   |cells cs T fr=>
    refine ⟨T,fr,?_⟩;have:cs=vs.toArray:=by
     apply Array.ext'
     apply List.ext_getElem?
     intro i;have:=(h i).2;simp only [World.cell?,hh] at this;simpa using this
    rw [this]
   |_=>
    have:=(h 0).2;simp [World.cell?,hh,List.getElem?_eq_getElem hpos] at this
theorem yqw {G:List (Nat × D)} {w:World} {I:Imm} {β:List Bnd} {H:List SObj} {g:Nat} {k:IntKind} {zs:List Int} {name:String} (hH:HeapOK G w I β H) (hg:(g,.tab (zs.map fun z=>Value.int k z))∈G) (h0:zs≠[]) (hn:Tryz.prog.globalNamed name=some g):Lib.TabIs Tryz.prog w name k zs:=by
 obtain ⟨T,fr,h⟩:=ylv (hH.glob _ _ hg) (by simpa using h0);unfold Lib.TabIs World.var?;rw [hn];simp only [Option.bind_some,h]
theorem ylw {G:List (Nat × D)} {g:Nat} (hg:(g,.tab (Lib.pow10Tab.map fun z=>Value.int .u64 z))∈G) (hn:Tryz.prog.globalNamed "internal/strconv.uint64pow10" =some g) (n:Int) (h0: -9223372036854775808<=n) (h1:n<=9223372036854775807):
  zq Tryz.prog G 55 [sI n] (.imm (.val (.string ⟨(Lib.itoa n).toArray⟩))):=by
 intro H w I β vs hH hv;obtain ⟨v,e1,hv⟩:=hv.one;cases hv with|imm hv=>cases hv with|val _=>
 obtain rfl:vs=#[.int .i64 n]:=by
  apply Array.ext'
  rw [e1]
 refine (Tryz.strconv_Itoa n h0 h1 w (yqw hH hg (by decide) hn)).mono ?_;rintro e w' ⟨rfl,k,os,rfl⟩;have hold:∀c,c<w.heap.size->(grow (w.drewN k) os).heap[c]?=w.heap[c]?:=fun c hc=>by
  show (w.heap++os)[c]?=_;rw [Array.getElem?_append_left hc]
 have hsz:w.heap.size<=(grow (w.drewN k) os).heap.size:=by
  show w.heap.size<=(w.heap++os).size;simp
 refine ⟨_,_,I,β,H,rfl,⟨rfl,rfl⟩,.imm (.val _),hH.grow hold (fun _ _ h=>h) (fun _ _ h=>.inl h) (fun c o h=>Nat.lt_of_lt_of_le (hH.inI c o h) hsz),?_⟩;exact .grow hH hold hsz (fun _ _ h=>h) (fun _ _ h=>.inl h) ⟨rfl,rfl⟩
open Go Go.Sh
structure Frk where
 sib:Nat
 left:Bool
def Frk.cells (x:Frk):List D:=[.val (.int .u64 x.sib),dB x.left]
def zy (l:List Frk):D:=.isl 2 (l.map Frk.cells)
def zce (a b:Nat):Nat:=qi (⟨#[1]⟩++zig a++zig b)
def qs (s:ByteArray):Nat:=qi (⟨#[0]⟩++s)
def climb:Nat->Nat->Nat->List Frk->Nat->Option Nat
 |0,_,_,_,_=>none
 |f+1,size,idx,path,cur=>
  if size<=1 then (if path.isEmpty then some cur else none) else
  if idx % 2=1\/idx+1<size then
   match path with
   |[]=>none
   |x::r=>if x.left=decide (idx % 2=1) then climb f ((size+1) / 2) (idx / 2) r (if idx % 2=1 then zce x.sib cur else zce cur x.sib) else none
  else climb f ((size+1) / 2) (idx / 2) path cur
theorem zhy (f size idx : Nat) (path : List Frk) (cur : Nat) (h : ¬ size <= 1) : climb (f + 1) size idx path cur =
    (if idx % 2 = 1 \/ idx + 1 < size then
      (match path with
      | [] => none
      | x :: r => if x.left = decide (idx % 2 = 1) then climb f ((size + 1) / 2) (idx / 2) r (if idx % 2 = 1 then zce x.sib cur else zce cur x.sib) else none)
    else climb f ((size + 1) / 2) (idx / 2) path cur) := by
  show (if size <= 1 then _ else _) = _
  rw [if_neg h]
def qw (root:Nat) (size index:Int) (leaf:ByteArray) (path:List Frk):Bool:=
 decide (1<=size)&&decide (size<=1024)&&decide (0<=index)&&decide (index<size)&&decide (climb 12 size.toNat index.toNat path (qs leaf)=some root)
theorem ztd:∀(f h idx:Nat) (path:List Frk) (cur r:Nat),idx<2 ^ h->climb f (2 ^ h) idx path cur=some r->path.length=h
 |0,_,_,_,_,_,_,e=>by cases e
 |f+1,0,idx,path,cur,r,_,e=>by
  simp only [climb,Nat.pow_zero,Nat.le_refl,if_true] at e;split at e
  ·rename_i hp
   simpa using hp
  ·cases e
 |f+1,h+1,idx,path,cur,r,hi,e=>by
  have h2:2 ^ (h+1)=2*2 ^ h:=by rw [Nat.pow_succ,Nat.mul_comm]
  have hpos:0<2 ^ h:=Nat.pow_pos (by decide);cases path with
  |nil=>
   simp only [climb] at e;rw [if_neg (by omega),if_pos (by omega)] at e;cases e
  |cons x p=>
   simp only [climb] at e;rw [if_neg (by omega),if_pos (by omega)] at e;split at e
   ·rw [show (2 ^ (h+1)+1) / 2=2 ^ h by omega] at e
    rw [List.length_cons,ztd f h _ p _ r (by omega) e]
   ·cases e
end Go.Proofs.YtjnddlifnkgncaaGreatDoor
namespace Go.Sh
section
variable {P:Program} {G:List (Nat × D)} {fn:Func} {rd:Bool} {E:En P G fn rd} {t:List (Nat × SV)} {H K:List SObj} {k:List Item} {m:Nat} {all:Array Oper} {rest:List Oper} {done:List Eff} {o:Oper}
theorem ylx {ev:Operand->SV} {x y:Operand} {ty ty':TypeId} {a b:ByteArray} (hx:ev x= .imm (.val (.string a))) (hy:ev y= .imm (.val (.string b))) (hs:a.size+b.size<=9223372036854775807):
  sop P (.binOp .add ty x y ty') ev H=some (.imm (.val (.string (a++b))),H):=by
 have hmax:¬((a.size+b.size:Nat):Int)>IntKind.i64.max:=by
  have:IntKind.i64.max=9223372036854775807:=by decide
  rw [this];omega
 simp only [sop,hx,hy,yay,yye];rw [if_neg hmax];rfl
theorem wx {x y:Operand} {ty ty':TypeId} {a b:ByteArray} (hop:o.op= .binOp .add ty x y ty') (hw:zu all t o.guard=some true) (hd:yb fn.ntmps o.dst=true) (hx:zl G t x= .imm (.val (.string a))) (hy:zl G t y= .imm (.val (.string b)))
  (hs:a.size+b.size<=9223372036854775807) (h:SWr E all rest k (xj t o.dst (.imm (.val (.string (a++b))))) H):SWr E all (o::rest) k t H:=
 qy hw hd (by rw [hop];exact ylx hx hy hs) (Nat.le_refl _) h
theorem zbd {x y:Operand} {ty ty':TypeId} {a b:ByteArray} (hop:o.op= .binOp .add ty x y ty') (hw:zu all t o.guard=some true) (hd:yb fn.ntmps o.dst=true) (hx:zl G t x= .imm (.val (.string a))) (hy:zl G t y= .imm (.val (.string b)))
  (hs:a.size+b.size<=9223372036854775807) (h:SWd E all rest k (xj t o.dst (.imm (.val (.string (a++b))))) H):SWd E all (o::rest) k t H:=
 zmo hw hd (by rw [hop];exact ylx hx hy hs) h
theorem zkp {x lo:Operand} {ty e n m:Nat} {rows:List (List D)} (hop:o.op= .slice ty x (some lo) none none) (hw:zu all t o.guard=some true) (hd:yb fn.ntmps o.dst=true) (hx:zl G t x= .imm (.isl n rows)) (hlo:zl G t lo= .imm (.val (.int .i64 (m:Int))))
  (hu:P.underlying ty=some (.slice e)) (hp:xe P e=some n) (hm:m<=rows.length) (h:SWr E all rest k (xj t o.dst (.imm (.isl n (rows.drop m)))) H):SWr E all (o::rest) k t H:=by
 refine qy (r:=.imm (.isl n (rows.drop m))) (H':=H) hw hd ?_ (Nat.le_refl _) h;rw [hop];simp only [sop,hx,hlo,Option.map_some,Option.map_none,zmm,hu,hp,SV.rows,zeo];have h0:(0:Int)<=(m:Int):=by omega
 rw [if_pos h0];simp only [Int.toNat_natCast];rw [if_pos (by simp [hm]),List.take_length];rfl
theorem yly {ev:Operand->SV} {ty ty':Nat} {x y:Operand} {a b:Int} {kk kk':IntKind} (hx:ev x= .imm (.val (.int kk a))) (hy:ev y= .imm (.val (.int kk' b))) (hb:0<=b):
  sop P (.binOp .shl ty x y ty') ev H=some (.imm (.val (.int kk (kk.wrap (a*2 ^ min b.toNat kk.bits)))),H):=by
 have hs:yay P .shl ty (.int kk a) (.int kk' b)=some (.int kk (kk.wrap (a*2 ^ min b.toNat kk.bits))):=by
  show (if b<0 then none else some _)=_;rw [if_neg (by omega)]
 simp only [sop,hx,hy,hs,Option.map_some]
theorem ylz {ty ty':Nat} {x y:Operand} {a b:Int} {kk kk':IntKind} (hop:o.op= .binOp .shl ty x y ty') (hw:zu all t o.guard=some true) (hd:yb fn.ntmps o.dst=true) (hx:zl G t x= .imm (.val (.int kk a))) (hy:zl G t y= .imm (.val (.int kk' b))) (hb:0<=b)
  (h:SWr E all rest k (xj t o.dst (.imm (.val (.int kk (kk.wrap (a*2 ^ min b.toNat kk.bits)))))) H):SWr E all (o::rest) k t H:=
 qy hw hd (by rw [hop];exact yly hx hy hb) (Nat.le_refl _) h
theorem yuq {ty ty':Nat} {x y:Operand} {a b:Int} {kk kk':IntKind} (hop:o.op= .binOp .shl ty x y ty') (hw:zu all t o.guard=some true) (hd:yb fn.ntmps o.dst=true) (hx:zl G t x= .imm (.val (.int kk a))) (hy:zl G t y= .imm (.val (.int kk' b))) (hb:0<=b)
  (h:SWd E all rest k (xj t o.dst (.imm (.val (.int kk (kk.wrap (a*2 ^ min b.toNat kk.bits)))))) H):SWd E all (o::rest) k t H:=
 zmo hw hd (by rw [hop];exact yly hx hy hb) h
theorem zhz {ty:Nat} {ax vx:Operand} {b off:Nat} {v:SV} {cs:List SV} (hop:o.op= .store ty ax vx) (hw:zu all t o.guard=some true) (hd:yb fn.ntmps o.dst=true) (ha:zl G t ax= .ptr b off) (hv:zl G t vx=v) (hone:v.cells=some [v]) (hone':v.one=true) (hsz:xe P ty=some 1)
  (hb:H[b]?=some (.cells cs)) (hoff:off<cs.length) (h:SWr E all rest k (xj t o.dst .any) (H.set b (.cells (cs.set off v)))):SWr E all (o::rest) k t H:=by
 have e1:cs=cs.take off++cs[off]::cs.drop (off+1):=by rw [List.getElem_cons_drop,List.take_append_drop]
 have e2:cs.set off v=cs.take off++v::cs.drop (off+1):=by
  rw [List.set_eq_take_append_cons_drop,if_pos hoff]
 refine zba (b:=b) (off:=off) (v:=v) (zz:=cs[off]) (d:=cs.take off) (r:=cs.drop (off+1)) hop hw hd ha hv hone hone' hsz (by rw [hb];exact congrArg (fun x=>some (SObj.cells x)) e1) (by rw [List.length_take];omega) ?_;rw [<-e2];exact h
theorem yxa {x hi:Operand} {ty e n m:Nat} {q:IntKind} {mm:Int} {rows:List (List D)} (hop:o.op= .slice ty x none (some hi) none) (hw:zu all t o.guard=some true) (hd:yb fn.ntmps o.dst=true) (hx:zl G t x= .imm (.isl n rows)) (hhi:zl G t hi= .imm (.val (.int q mm)))
  (hu:P.underlying ty=some (.slice e)) (hp:xe P e=some n) (hmm:mm=(m:Int)) (hm:m<=rows.length) (h:SWr E all rest k (xj t o.dst (.imm (.isl n (rows.take m)))) H):SWr E all (o::rest) k t H:=by
 subst hmm;refine qy (r:=.imm (.isl n (rows.take m))) (H':=H) hw hd ?_ (Nat.le_refl _) h;rw [hop];simp only [sop,hx,hhi,Option.map_some,Option.map_none,zmm,hu,hp,SV.rows,zeo];have h0:(0:Int)<=(m:Int):=by omega
 rw [if_pos h0];simp only [Int.toNat_natCast];rw [if_pos (by simp [hm]),List.drop_zero];rfl
end
end Go.Sh
namespace Go.Proofs.YtjnddlifnkgncaaGreatDoor
open Go Go.Sh
variable (G:List (Nat × D))
theorem yfj (a b:Nat):zce a b<18446744073709551616:=zab _
theorem zau (d:Nat):(zig d).size=8:=by
 show ((zny d).toArray).size=8;simp [zny]
theorem zte (root:Nat) (size index:Int) (leaf:ByteArray) (path:List Frk) (hleaf:leaf.size<=100000000000000000) (hpl:path.length<=1000000000000000) (hsib:∀x∈path,x.sib<18446744073709551616):
  zq Tryz.prog G 56 [yg root,sI size,sI index,sS leaf,.imm (zy path)] (sB (qw root size index leaf path)):=by
 have hml:(path.map Frk.cells).length=path.length:=by simp
 have bad:¬(1<=size/\size<=1024/\0<=index/\index<size)->qw root size index leaf path=false:=fun h=>by
  cases hb:qw root size index leaf path with
  |false=>rfl
  |true=>
   unfold qw at hb;simp only [Bool.and_eq_true,decide_eq_true_eq] at hb;exact absurd ⟨hb.1.1.1.1,hb.1.1.1.2,hb.1.1.2,hb.1.2⟩ h
 have good:1<=size/\size<=1024/\0<=index/\index<size->qw root size index leaf path=decide (climb 12 size.toNat index.toNat path (qs leaf)=some root):=fun h=>by
  unfold qw;rw [decide_eq_true h.1,decide_eq_true h.2.1,decide_eq_true h.2.2.1,decide_eq_true h.2.2.2];rfl
 have hh:=zgx G (⟨#[0]⟩++leaf) (by rw [ByteArray.size_append];show 1+leaf.size<=_;omega);have hlt:=zab (⟨#[0]⟩++leaf);unfold qs at good;generalize qi (⟨#[0]⟩++leaf)=c0 at hh hlt good;generalize qw root size index leaf path=ok at bad good;refine zh Tryz.func56 rfl (by rw [Tryz.ntmps56];simp) rfl rfl ?_;intro E hH hK;(refine zm [777,29] 1000 ?_;conv=>whnf)
 repeat' ((with_reducible refine way ?_ ?_)<;>(intro h;conv=>whnf))
 all_goals try exact kB hK (bad (by omega))
 refine wx rfl rfl rfl rfl rfl (by show 1+leaf.size<=_;omega) ?_;(refine zc ?_;conv=>whnf);refine zd rfl  hh ?_;(refine zc ?_;conv=>whnf);rw [good (by omega)] at hK;obtain ⟨sz,rfl⟩:∃n:Nat,size=n:=⟨size.toNat,by omega⟩;obtain ⟨ix,rfl⟩:∃n:Nat,index=n:=⟨index.toNat,by omega⟩;rw [Int.toNat_natCast,Int.toNat_natCast] at hK;generalize hC:climb 12 sz ix path c0=C at hK;refine zg [0,1,2,4,11] ?_;change SW E _ [(0,yg root),(1,sI sz),(2,sI ix),(4,.imm (zy path)),(11,yg c0)] [];refine yy (σ:=Nat × Nat × Nat × List Frk × Nat) (fun y=>[(0,yg root),(1,sI y.2.1),(2,sI y.2.2.1),(4,.imm (zy y.2.2.2.1)),(11,yg y.2.2.2.2)]) (fun _=>[])
  (fun y=>climb (y.1+1) y.2.1 y.2.2.1 y.2.2.2.1 y.2.2.2.2=C/\1<=y.2.1/\y.2.1<=1024/\y.2.2.1<y.2.1/\y.2.1<=2 ^ y.1/\(∀x∈y.2.2.2.1,x.sib<18446744073709551616)/\y.2.2.2.1.length<=1000000000000000/\y.2.2.2.2<18446744073709551616) (fun y=>y.1) ?_ (11,sz,ix,path,c0)
  ⟨hC,by simp only;omega,by simp only;omega,by simp only;omega,by simp only;omega,hsib,hpl,hlt⟩
 clear hh hlt good bad hsib hpl hml hC;rintro ⟨f,s,i,p,cur⟩ ⟨i1,i2,i3,i4,i5,i6,i7,i8⟩ ih;simp only at i1 i2 i3 i4 i5 i6 i7 i8;have hml:(p.map Frk.cells).length=p.length:=by simp
 change SW E _ [(0,yg root),(1,sI s),(2,sI i),(4,.imm (zy p)),(11,yg cur)] []
 by_cases hs1:s<=1
 ·simp only [climb,if_pos hs1] at i1
  (refine ze ?_;conv=>whnf)
  repeat' ((with_reducible refine way ?_ ?_)<;>(intro h;conv=>whnf))
  all_goals try (exfalso;omega)
  ·have hp:p=[]:=List.length_eq_zero_iff.1 (by omega)
   subst hp;rw [<-i1] at hK;exact kB hK (decide_eq_decide.2 ⟨fun h=>by injection h with h;omega,fun h=>by rw [show cur=root by omega];rfl⟩)
  ·have hp:p.isEmpty=false:=by
    cases p with
    |nil=>exact absurd rfl ‹_›
    |cons x r=>rfl
   rw [<-i1,hp] at hK;exact kB hK (decide_eq_false (by intro h;cases h))
 ·have h2f:1<=f:=by
   rcases f with _|f
   ·simp at i5;omega
   ·omega
  obtain ⟨f,rfl⟩:∃f',f=f'+1:=⟨f-1,by omega⟩;have h5:(s+1) / 2<=2 ^ f:=by rw [Nat.pow_succ] at i5;omega
  have htm:(i:Int).tmod 2=((i % 2:Nat):Int):=by rw [Int.tmod_eq_emod_of_nonneg (by omega)];rfl
  have w1:IntKind.i64.wrap ((i:Int)+1)=((i+1:Nat):Int):=zk (by omega);have w2:IntKind.i64.wrap ((i:Int).tdiv 2)=((i / 2:Nat):Int):=by rw [Int.tdiv_eq_ediv_of_nonneg (by omega),zt (by omega) (by omega)];rfl
  have w3:IntKind.i64.wrap ((s:Int)+1)=((s+1:Nat):Int):=zk (by omega);have w4:IntKind.i64.wrap (((s+1:Nat):Int).tdiv 2)=(((s+1) / 2:Nat):Int):=by rw [Int.tdiv_eq_ediv_of_nonneg (by omega),zt (by omega) (by omega)];rfl
  rw [zhy _ _ _ _ _ hs1] at i1;have hnext:∀(r:List Frk) (c:Nat),climb (f+1) ((s+1) / 2) (i / 2) r c=C->(∀x∈r,x.sib<18446744073709551616)->r.length<=1000000000000000->c<18446744073709551616->SW E _ [(0,yg root),(1,sI ((s+1) / 2:Nat)),(2,sI (i / 2:Nat)),(4,.imm (zy r)),(11,yg c)] []:=fun r c h1 h2 h3 h4=>
   ih (f,(s+1) / 2,i / 2,r,c) ⟨h1,by simp only;omega,by simp only;omega,by simp only;omega,h5,h2,h3,h4⟩ (Nat.lt_succ_self _)
  by_cases hodd:i % 2=1
  ·rw [if_pos (.inl hodd)] at i1
   (refine zm [777,12] 1000 ?_;conv=>whnf)
   repeat' ((with_reducible refine way ?_ ?_)<;>(intro h;conv=>whnf))
   all_goals try (exfalso;omega)
   rw [htm,decide_eq_true (show ((i % 2:Nat):Int)=1 by omega)];cases p with
   |nil=>
    rw [<-i1] at hK;(refine zc ?_;conv=>whnf);exact kB hK (decide_eq_false (by intro h;cases h))
   |cons x r=>
    have hr0:((x::r).map Frk.cells)[0]?=some x.cells:=rfl;obtain ⟨sib,lf⟩:=x;have hsb:sib<18446744073709551616:=i6 _ (List.mem_cons_self ..);have hl1:(((⟨sib,lf⟩:Frk)::r).length:Nat)=r.length+1:=rfl;simp only [decide_eq_true hodd,if_pos hodd] at i1;have hraw1:=znz G sib hsb;have hraw2:=znz G cur i8;have hhash:=zgx G (⟨#[1]⟩++zig sib++zig cur) (by rw [ByteArray.size_append,ByteArray.size_append,zau,zau];decide);have hnd:qi (⟨#[1]⟩++zig sib++zig cur)=zce sib cur:=rfl;rw [hnd] at hhash;have hndl:=yfj sib cur;generalize zce sib cur=nd at i1 hhash hndl;(refine zc ?_;conv=>whnf)
    repeat' ((with_reducible refine way ?_ ?_)<;>(intro h;conv=>whnf))
    all_goals try (exfalso;omega)
    refine zi (i:=0) (row:=(⟨sib,lf⟩:Frk).cells) rfl rfl hr0 ?_;cases lf with
    |false=>
     rw [<-i1] at hK;(refine zc ?_;conv=>whnf);exact kB hK (decide_eq_false (by intro h;cases h))
    |true=>
     have i1:climb (f+1) ((s+1) / 2) (i / 2) r nd=C:=i1;(refine zc ?_;conv=>whnf);refine zi (i:=0) (row:=(⟨sib,true⟩:Frk).cells) rfl rfl hr0 ?_;(refine zj [777,60] 1000 ?_;conv=>whnf);refine zd rfl  hraw1 ?_;(refine zj [777,60] 1000 ?_;conv=>whnf);refine wx rfl rfl rfl rfl rfl (by rw [zau];show 1+8<=_;decide) ?_;(refine zj [777,63] 1000 ?_;conv=>whnf);refine zd rfl  hraw2 ?_;(refine zj [777,63] 1000 ?_;conv=>whnf);refine wx rfl rfl rfl rfl rfl (by rw [ByteArray.size_append,zau,zau];show 1+8+8<=_;decide) ?_;(refine zc ?_;conv=>whnf);refine zd rfl  hhash ?_;(refine zc ?_;conv=>whnf);refine zkp (m:=1) (rows:=((⟨sib,true⟩:Frk)::r).map Frk.cells) rfl rfl rfl rfl rfl rfl rfl (by simp) ?_;(refine zc ?_;conv=>whnf);rw [w2,w3,w4];exact zg [0,1,2,4,11] (hnext r nd i1 (fun x hx=>i6 x (List.mem_cons_of_mem _ hx)) (by omega) hndl)
  ·by_cases hin:i+1<s
   ·rw [if_pos (.inr hin)] at i1
    (refine zm [777,12] 1000 ?_;conv=>whnf)
    repeat' ((with_reducible refine way ?_ ?_)<;>(intro h;conv=>whnf))
    all_goals try (exfalso;omega)
    rw [htm,decide_eq_false (show ¬((i % 2:Nat):Int)=1 by omega)];cases p with
    |nil=>
     rw [<-i1] at hK;(refine zc ?_;conv=>whnf);rw [w1]
     repeat' ((with_reducible refine way ?_ ?_)<;>(intro h;conv=>whnf))
     all_goals try (exfalso;omega)
     exact kB hK (decide_eq_false (by intro h;cases h))
    |cons x r=>
     have hr0:((x::r).map Frk.cells)[0]?=some x.cells:=rfl;obtain ⟨sib,lf⟩:=x;have hsb:sib<18446744073709551616:=i6 _ (List.mem_cons_self ..);have hl1:(((⟨sib,lf⟩:Frk)::r).length:Nat)=r.length+1:=rfl;simp only [decide_eq_false hodd,if_neg hodd] at i1;have hraw1:=znz G sib hsb;have hraw2:=znz G cur i8;have hhash:=zgx G (⟨#[1]⟩++zig cur++zig sib) (by rw [ByteArray.size_append,ByteArray.size_append,zau,zau];decide);have hnd:qi (⟨#[1]⟩++zig cur++zig sib)=zce cur sib:=rfl;rw [hnd] at hhash;have hndl:=yfj cur sib;generalize zce cur sib=nd at i1 hhash hndl;(refine zc ?_;conv=>whnf);rw [w1]
     repeat' ((with_reducible refine way ?_ ?_)<;>(intro h;conv=>whnf))
     all_goals try (exfalso;omega)
     refine zi (i:=0) (row:=(⟨sib,lf⟩:Frk).cells) rfl rfl hr0 ?_;cases lf with
     |true=>
      rw [<-i1] at hK;(refine zc ?_;conv=>whnf);exact kB hK (decide_eq_false (by intro h;cases h))
     |false=>
      have i1:climb (f+1) ((s+1) / 2) (i / 2) r nd=C:=i1;(refine zc ?_;conv=>whnf);refine yc mixed rfl ?_;(refine zf [67,73] ?_;conv=>whnf);refine ym rfl  hraw2 ?_;(refine zf [67,73] ?_;conv=>whnf);refine zbd rfl rfl rfl rfl rfl (by rw [zau];show 1+8<=_;decide) ?_;(refine zf [67,73] ?_;conv=>whnf);refine yx (i:=0) (row:=(⟨sib,false⟩:Frk).cells) rfl rfl hr0 ?_;(refine zf [67,73] ?_;conv=>whnf);refine ym rfl  hraw1 ?_;(refine zf [67,73] ?_;conv=>whnf);refine zbd rfl rfl rfl rfl rfl (by rw [ByteArray.size_append,zau,zau];show 1+8+8<=_;decide) ?_;(refine zf [] ?_;conv=>whnf);refine ym rfl  hhash ?_;(refine zf [] ?_;conv=>whnf);(refine ze ?_;conv=>whnf);refine zkp (m:=1) (rows:=((⟨sib,false⟩:Frk)::r).map Frk.cells) rfl rfl rfl rfl rfl rfl rfl (by simp) ?_;(refine zc ?_;conv=>whnf);rw [w2,w3,w4];exact zg [0,1,2,4,11] (hnext r nd i1 (fun x hx=>i6 x (List.mem_cons_of_mem _ hx)) (by omega) hndl)
   ·rw [if_neg (by omega)] at i1
    (refine zm [777,12] 1000 ?_;conv=>whnf)
    repeat' ((with_reducible refine way ?_ ?_)<;>(intro h;conv=>whnf))
    all_goals try (exfalso;omega)
    rw [htm,decide_eq_false (show ¬((i % 2:Nat):Int)=1 by omega)];(refine zc ?_;conv=>whnf);rw [w1]
    repeat' ((with_reducible refine way ?_ ?_)<;>(intro h;conv=>whnf))
    all_goals try (exfalso;omega)
    rw [w2,w3,w4];exact zg [0,1,2,4,11] (hnext p cur i1 i6 i7 i8)
structure Sg where
 index:Int
 chains:List Nat
 path:List Frk
abbrev dU (n:Nat):D:=.val (.int .u64 n)
def xq (l:List Nat):D:=.isl 1 (l.map fun (n:Nat)=>[dU n])
def Sg.cells (s:Sg):List D:=[dI s.index,xq s.chains,zy s.path]
def zvp (c:Nat):Nat:=qi (⟨#[2]⟩++zek c)
noncomputable def chainN (n c:Nat):Nat:=Nat.rec c (fun _ r=>zvp r) n
theorem zbe (n c:Nat):chainN (n+1) c=zvp (chainN n c):=rfl
theorem zdn (c:Nat):chainN 0 c=c:=rfl
noncomputable def leafS (l:List (Nat × Nat)):ByteArray:=l.foldl (fun s x=>s++zek (chainN (15-x.1) x.2)) ⟨#[]⟩
noncomputable def signedOK (key:Nat) (height:Int) (text:ByteArray) (s:Sg):Bool:=
 decide (0<=height)&&decide (height<=8)&&decide (s.chains.length=18)&&qw key (2 ^ height.toNat:Nat) s.index (leafS ((ztc text).zip s.chains)) s.path
theorem ju (d:Nat):(zek d).size=16:=by
 show ((zyf d).toArray).size=16;simp [zyf,ztb]
theorem zvq (c:Nat):zvp c<18446744073709551616:=zab _
theorem zvr (s:ByteArray):(ztc s).length=18:=by simp [ztc,ztb]
theorem ycd (s:ByteArray):∀x∈ztc s,x<=15:=by
 intro x hx;unfold ztc at hx;have hr:wt (ztb (qi s))<=240:=zew 16 (nib (qi s));rcases List.mem_append.1 hx with h|h
 ·obtain ⟨j,_,rfl⟩:=List.mem_map.1 h
  have:=yff (qi s) j;omega
 ·simp only [List.mem_cons,List.not_mem_nil,or_false] at h
  rcases h with rfl|rfl<;>omega
theorem yib (l:List (Nat × Nat)) (x:Nat × Nat):leafS (l++[x])=leafS l++zek (chainN (15-x.1) x.2):=by
 unfold leafS;rw [List.foldl_append];rfl
theorem yyu:∀n,n<=8->IntKind.i64.wrap (1*2 ^ min n IntKind.i64.bits)=((2 ^ n:Nat):Int):=by decide
theorem ycf (key:Nat) (height:Int) (text:ByteArray) (s:Sg) (ht:text.size<=9223372036854775807) (hc:∀x∈s.chains,x<18446744073709551616) (hpl:s.path.length<=1000000000000000) (hsib:∀x∈s.path,x.sib<18446744073709551616):
  zq Tryz.prog G 58 [yg key,sI height,sS text,.agg (s.cells.map .imm)] (sB (signedOK key height text s)):=by
 obtain ⟨idx,cs,path⟩:=s;simp only at hc hpl hsib;have hml:(cs.map fun (n:Nat)=>[dU n]).length=cs.length:=by simp
 have bad:¬(0<=height/\height<=8/\cs.length=18)->signedOK key height text ⟨idx,cs,path⟩=false:=fun h=>by
  cases hb:signedOK key height text ⟨idx,cs,path⟩ with
  |false=>rfl
  |true=>
   unfold signedOK at hb;simp only [Bool.and_eq_true,decide_eq_true_eq] at hb;exact absurd ⟨hb.1.1.1,hb.1.1.2,hb.1.2⟩ h
 have good:0<=height/\height<=8/\cs.length=18->signedOK key height text ⟨idx,cs,path⟩=qw key (2 ^ height.toNat:Nat) idx (leafS ((ztc text).zip cs)) path:=fun h=>by
  unfold signedOK;rw [decide_eq_true h.1,decide_eq_true h.2.1,decide_eq_true h.2.2];rfl
 have hleads:=fun hl=>zte G key (2 ^ height.toNat:Nat) idx (leafS ((ztc text).zip cs)) path hl hpl hsib
 have hfig:=zxy G text ht;have hfl:=zvr text;have hfle:=ycd text;generalize ztc text=fg at good hleads hfig hfl hfle;generalize signedOK key height text ⟨idx,cs,path⟩=ok at bad good;show zq Tryz.prog G 58 [yg key,sI height,sS text,.agg [sI idx,.imm (xq cs),.imm (zy path)]] (sB ok);refine zh Tryz.func58 rfl (by rw [Tryz.ntmps58];simp) rfl rfl ?_;intro E hH hK;(refine ze ?_;conv=>whnf)
 repeat' ((with_reducible refine way ?_ ?_)<;>(intro h;conv=>whnf))
 all_goals try exact kB hK (bad (by omega))
 all_goals try (exfalso;omega)
 rw [good (by omega)] at hK;refine zd rfl  hfig ?_;(refine zc ?_;conv=>whnf);have hml2:(fg.map fun (n:Nat)=>[dI n]).length=18:=by rw [List.length_map];exact hfl
 have hzl:(fg.zip cs).length=18:=by rw [List.length_zip];omega
 refine zg [0,1,7,9,26,27,28] ?_;change SW E _ [(0,yg key),(1,sI height),(7,.ptr 0 0),(9,sS ⟨#[]⟩),(26,.imm (ybw fg)),(27,sI ((fg.map fun (n:Nat)=>[dI n]).length:Nat)),(28,sI (0:Nat))] [.cells [sI idx,.imm (xq cs),.imm (zy path)]];rw [hml2];refine zp (fg.zip cs) (fun j (lf:ByteArray)=>[(0,yg key),(1,sI height),(7,.ptr 0 0),(9,sS lf),(26,.imm (ybw fg)),(27,sI (18:Nat)),(28,sI (j:Nat))]) (fun _ _=>[.cells [sI idx,.imm (xq cs),.imm (zy path)]])
  (fun done _ lf=>lf=leafS done/\lf.size=16*done.length) ⟨#[]⟩ ⟨rfl,rfl⟩ ?_ ?_
 ·as_aux_lemma=>
   rintro lf ⟨h1,h2⟩;rw [hzl] at h2;rw [<-h1] at hleads hK;have hleads:=hleads (by omega);obtain ⟨hn,rfl⟩:∃n:Nat,height=n:=⟨height.toNat,by omega⟩;rw [Int.toNat_natCast] at hleads hK;have hpw:=yyu hn (by omega);rw [hzl];(refine ze ?_;conv=>whnf)
   repeat' ((with_reducible refine way ?_ ?_)<;>(intro h;conv=>whnf))
   all_goals try (exfalso;omega)
   refine yc mixed rfl ?_;(refine zf [54] ?_;conv=>whnf);refine yuq rfl rfl rfl rfl rfl (by omega) ?_;rw [Int.toNat_natCast,hpw];(refine zf [] ?_;conv=>whnf);refine ym rfl  hleads ?_;(refine zf [] ?_;conv=>whnf);(refine ze ?_;conv=>whnf);exact hK _
 ·as_aux_lemma=>
   rintro done ⟨dg,ch⟩ rest lf hda hdl ⟨h1,h2⟩ ih;have hz:(fg.zip cs)[done.length]?=some (dg,ch):=by rw [hda];simp
   obtain ⟨hz1,hz2⟩:=List.getElem?_zip_eq_some.1 hz;have hr1:(fg.map fun (n:Nat)=>[dI n])[done.length]?=some [dI dg]:=by rw [List.getElem?_map,hz1];rfl
   have hr2:(cs.map fun (n:Nat)=>[dU n])[done.length]?=some [dU ch]:=by rw [List.getElem?_map,hz2];rfl
   have hdg:=hfle dg (List.mem_of_getElem? hz1);have hch:=hc ch (List.mem_of_getElem? hz2);have hlt:done.length<18:=by omega
   have ih:=ih (lf++zek (chainN (15-dg) ch)) ⟨by rw [yib,h1],by rw [ByteArray.size_append,ju,List.length_append,List.length_cons,List.length_nil];omega⟩;have w15:IntKind.i64.wrap (15-(dg:Int))=((15-dg:Nat):Int):=by rw [zt (by omega) (by omega)];omega
   have wnx:IntKind.i64.wrap ((done.length:Int)+1)=((done.length+1:Nat):Int):=zk (by omega);(refine ze ?_;conv=>whnf)
   repeat' ((with_reducible refine way ?_ ?_)<;>(intro h;conv=>whnf))
   all_goals try (exfalso;omega)
   refine zi (i:=done.length) (row:=[dI dg]) rfl rfl hr1 ?_;(refine zc ?_;conv=>whnf);refine zi (i:=done.length) (row:=[dU ch]) rfl rfl hr2 ?_;(refine zc ?_;conv=>whnf);rw [w15];refine zg [0,1,7,9,12,26,27,28,39,40] ?_;change SW E _ [(0,yg key),(1,sI height),(7,.ptr 0 0),(9,sS lf),(12,yg ch),(26,.imm (ybw fg)),(27,sI (18:Nat)),(28,sI (done.length:Nat)),(39,sI (15-dg:Nat)),(40,sI (0:Nat))] [.cells [sI idx,.imm (xq cs),.imm (zy path)]];obtain ⟨n,hn⟩:∃n,15-dg=n:=⟨_,rfl⟩;rw [hn] at ih ⊢;have hn15:n<=15:=by omega
   clear hleads hK hfig good bad hdg hn hr1 hr2 hz hz1 hz2 w15 hda;obtain ⟨fin,qr⟩:∃m,chainN n ch=m:=⟨_,rfl⟩;rw [qr] at ih;refine yy (σ:=Nat × Nat) (fun y=>[(0,yg key),(1,sI height),(7,.ptr 0 0),(9,sS lf),(12,yg y.2),(26,.imm (ybw fg)),(27,sI (18:Nat)),(28,sI (done.length:Nat)),(39,sI (n:Nat)),(40,sI (y.1:Nat))]) (fun _=>[.cells [sI idx,.imm (xq cs),.imm (zy path)]])
    (fun y=>y.2=chainN y.1 ch/\y.1<=n/\y.2<18446744073709551616) (fun y=>n-y.1) ?_ (0,ch) ⟨(zdn ch).symm,Nat.zero_le _,hch⟩
   rintro ⟨j,c⟩ ⟨i1,i2,i3⟩ ih2;simp only at i1 i2 i3;change SW E _ [(0,yg key),(1,sI height),(7,.ptr 0 0),(9,sS lf),(12,yg c),(26,.imm (ybw fg)),(27,sI (18:Nat)),(28,sI (done.length:Nat)),(39,sI (n:Nat)),(40,sI (j:Nat))] [.cells [sI idx,.imm (xq cs),.imm (zy path)]];have hhex:=yfi G c i3;(refine ze ?_;conv=>whnf)
   repeat' ((with_reducible refine way ?_ ?_)<;>(intro h;conv=>whnf))
   ·as_aux_lemma=>
     have hhash:=zgx G (⟨#[2]⟩++zek c) (by rw [ByteArray.size_append,ju];decide);have i1:zvp c=chainN (j+1) ch:=by rw [zbe, <-i1]
     have hst:qi (⟨#[2]⟩++zek c)=zvp c:=rfl;have hsl:=zvq c;rw [hst] at hhash;generalize zvp c=nx at hhash hsl i1;have wj:IntKind.i64.wrap ((j:Int)+1)=((j+1:Nat):Int):=zk (by omega);refine zd rfl  hhex ?_;(refine zj [777,44] 1000 ?_;conv=>whnf);refine wx rfl rfl rfl rfl rfl (by rw [ju];show 1+16<=_;decide) ?_;(refine zc ?_;conv=>whnf);refine zd rfl  hhash ?_;(refine zc ?_;conv=>whnf);rw [wj];refine zg [0,1,7,9,12,26,27,28,39,40] (ih2 (j+1,nx) ⟨i1,by simp only;omega,hsl⟩ (by simp only;omega))
   ·as_aux_lemma=>
     have hnj:j=n:=by omega
     rw [hnj,qr] at i1;refine zd rfl  hhex ?_;(refine zj [777,50] 1000 ?_;conv=>whnf);refine wx rfl rfl rfl rfl rfl (by rw [ju];omega) ?_;(refine zc ?_;conv=>whnf);rw [wnx,i1];exact zg [0,1,7,9,26,27,28] ih
structure Shw where
 index:Int
 label:ByteArray
 cents:Int
 reason:ByteArray
 blind:Int
 path:List Frk
abbrev zfq (s:ByteArray):D:=.val (.string s)
def Shw.cells (s:Shw):List D:=[dI s.index,zfq s.label,dI s.cents,zfq s.reason,dI s.blind,zy s.path]
def je (l:List Shw):D:=.isl 6 (l.map Shw.cells)
structure Disc where
 person:ByteArray
 month:Int
 root:Nat
 commit:List Int
 shown:List Shw
 hidden:Int
 blind:Int
 sig:Sg
def yv (l:List Int):D:=.isl 1 (l.map fun (n:Int)=>[dI n])
def Disc.cells (d:Disc):List D:=[zfq d.person,dI d.month,dU d.root,yv d.commit,je d.shown,dI d.hidden,dI d.blind,dI d.sig.index,xq d.sig.chains,zy d.sig.path]
def Disc.sv (d:Disc):SV:=.agg (d.cells.map .imm)
def ycg:Nat->Nat->List UInt8
 |0,u=>[UInt8.ofNat (48+u)]
 |f+1,u=>if u<10 then [UInt8.ofNat (48+u)] else ycg f (u / 10)++[UInt8.ofNat (48+u % 10)]
theorem ych:∀(f u:Nat),u<10 ^ (f+1)->Lib.decDigits u=ycg f u
 |0,u,h=>by rw [Lib.decDigits,dif_pos (by omega),ycg]
 |f+1,u,h=>by
  rw [Lib.decDigits,ycg];split
  ·rfl
  ·rw [ych f (u / 10) (by rw [Nat.pow_succ] at h;omega)]
def wu (n:Int):ByteArray:=⟨(if n<0 then 45::ycg 19 n.natAbs else ycg 19 n.toNat).toArray⟩
theorem zpt (n:Int) (h0: -9223372036854775808<=n) (h1:n<=9223372036854775807):wu n=⟨(Lib.itoa n).toArray⟩:=by
 have e1:=ych 19 n.natAbs (by omega);have e2:=ych 19 n.toNat (by omega);unfold wu Lib.itoa;rw [e1,e2]
theorem xh (n:Int) (h0: -9223372036854775808<=n) (h1:n<=9223372036854775807):(wu n).size<=21:=by
 rw [zpt n h0 h1];show ((Lib.itoa n).toArray).size<=21;simpa using Lib.itoa_length_le n h0 h1
def yur:Prop:=∃g,(g,.tab (Lib.pow10Tab.map fun z=>Value.int .u64 z))∈G/\Tryz.prog.globalNamed "internal/strconv.uint64pow10" =some g
variable {G}
theorem zsh (hI:yur G) (n:Int) (h0: -9223372036854775808<=n) (h1:n<=9223372036854775807):zq Tryz.prog G 55 [sI n] (sS (wu n)):=by
 obtain ⟨g,h2,h3⟩:=hI;rw [zpt n h0 h1];exact ylw h2 h3 n h0 h1
def cAt (d:Disc) (i:Int):Int:=d.commit.getD i.toNat 0
def qk (label:ByteArray) (c:Int) (reason:ByteArray):ByteArray:=wu label.size++⟨#[58]⟩++label++wu c++⟨#[32]⟩++reason
noncomputable def shwOK (d:Disc) (last:Int) (s:Shw):Bool:=
 decide (last<s.index)&&decide (s.index<d.commit.length)&&xl (cAt d s.index) s.cents s.blind&&qw d.root d.commit.length s.index (qk s.label (cAt d s.index) s.reason) s.path
noncomputable def shownOK (d:Disc):Int->List Shw->Bool
 |_,[]=>true
 |last,s::r=>shwOK d last s&&shownOK d s.index r
def zaj (l:List Shw) (i:Nat):Bool:=l.any fun s=>decide (s.index=i)
def zdo (l:List Shw):Nat->List Int->Nat->Nat
 |_,[],p=>p
 |i,c::r,p=>zdo l (i+1) r (if zaj l i then p else p*c.toNat % 2147483579)
def zir (d:Disc):ByteArray:=d.commit.foldl (fun s c=>s++(⟨#[32]⟩++wu c)) (⟨#[112,97,121,115,108,105,112,32]⟩++d.person++⟨#[32]⟩++wu d.month++⟨#[32]⟩++zek d.root)
def zgh (d:Disc):Bool:=qj d.person&&decide (0<=d.month)&&decide (d.month<=1199)&&decide (1<=d.commit.length)&&decide (d.commit.length<=1024)&&d.commit.all zaq
noncomputable def accOK (key:Nat) (height:Int) (d:Disc):Bool:=
 zgh d&&shownOK d (-1) d.shown&&xl (zdo d.shown 0 d.commit 1) d.hidden d.blind&&signedOK key height (zir d) d.sig
def zez (n:Nat) (l:List Shw):List SV:=(List.range n).map fun i=>sB (zaj l i)
theorem zkq (n:Nat) (l:List Shw):(zez n l).length=n:=by simp [zez]
theorem yma (n:Nat):zez n []=List.replicate n (sB false):=by
 show (List.range n).map (fun _=>sB false)=_;rw [List.map_const',List.length_range]
theorem zpu {n i:Nat} (l:List Shw) (h:i<n):(zez n l)[i]?=some (sB (zaj l i)):=by simp [zez,h]
theorem yic {n i:Nat} (l:List Shw) (s:Shw) (hs:s.index=i):(zez n l).set i (sB true)=zez n (l++[s]):=by
 apply List.ext_getElem?
 intro j;rcases Nat.lt_or_ge j n with hj|hj
 ·rw [zpu _ hj]
  by_cases e:j=i
  ·subst e
   rw [List.getElem?_set_self (by rw [zkq];exact hj)];simp [zaj,hs]
  ·rw [List.getElem?_set_ne (fun h=>e h.symm),zpu _ hj]
   have:zaj (l++[s]) j=zaj l j:=by
    unfold zaj;rw [List.any_append];simp [hs,Ne.symm e];intro h;omega
   rw [this]
 ·rw [List.getElem?_eq_none (by rw [List.length_set,zkq];exact hj),List.getElem?_eq_none (by rw [zkq];exact hj)]
theorem yci (n N:Nat) (l:List Shw):SV.under.allUnder N (zez n l)=true:=by
 unfold zez;generalize List.range n=r
 induction r with
 |nil=>rfl
 |cons a r ih=>simp only [List.map_cons,SV.under.allUnder,ih,Bool.and_true];rfl
structure DFit (d:Disc):Prop where
 person:d.person.size<=1000000000000000
 root:d.root<18446744073709551616
 commit:d.commit.length<=1000000000000000
 shown:d.shown.length<=1000000000000000
 row:∀s∈d.shown,s.label.size<=1000000000000000/\s.reason.size<=1000000000000000/\s.path.length<=1000000000000000/\∀x∈s.path,x.sib<18446744073709551616
 chains:∀x∈d.sig.chains,x<18446744073709551616
 path:d.sig.path.length<=1000000000000000/\∀x∈d.sig.path,x.sib<18446744073709551616
theorem zcf {x:Int} (h:zaq x=true):1<=x/\x<2147483579:=by
 unfold zaq at h;simp only [Bool.and_eq_true,decide_eq_true_eq] at h;exact h.1
def zed:List Shw->Int
 |[]=> -1
 |s::r=>match r with
  |[]=>s.index
  |_=>zed r
theorem zfr:∀(l:List Shw) (s:Shw),zed (l++[s])=s.index
 |[],_=>rfl
 |[a],s=>rfl
 |a::b::l,s=>by
  have:=zfr (b::l) s;exact this
variable {G:List (Nat × D)}
theorem wy (hI:yur G) (key:Nat) (height:Int) (d:Disc) (hd:DFit d):zq Tryz.prog G 13 [yg key,sI height,d.sv] (sB (accOK key height d)):=by
 have hnm:=zec G d.person;have hml:(d.commit.map fun (n:Int)=>[dI n]).length=d.commit.length:=by simp
 have hms:(d.shown.map Shw.cells).length=d.shown.length:=by simp
 have bad:zgh d=false->accOK key height d=false:=fun h=>by unfold accOK;rw [h];rfl
 have good:zgh d=true->accOK key height d=(shownOK d (-1) d.shown&&xl (zdo d.shown 0 d.commit 1) d.hidden d.blind&&signedOK key height (zir d) d.sig):=fun h=>by unfold accOK;rw [h];rfl
 have bad1:qj d.person=false->zgh d=false:=fun h=>by unfold zgh;rw [h];rfl
 have bad2:¬(0<=d.month/\d.month<=1199/\1<=d.commit.length/\d.commit.length<=1024)->zgh d=false:=fun h=>by
  cases hb:zgh d with
  |false=>rfl
  |true=>
   unfold zgh at hb;simp only [Bool.and_eq_true,decide_eq_true_eq] at hb;exact absurd ⟨hb.1.1.1.1.2,hb.1.1.1.2,hb.1.1.2,hb.1.2⟩ h
 have bad3:d.commit.all zaq=false->zgh d=false:=fun h=>by unfold zgh;rw [h,Bool.and_false]
 have good1:qj d.person=true->0<=d.month/\d.month<=1199/\1<=d.commit.length/\d.commit.length<=1024->d.commit.all zaq=true->zgh d=true:=fun h1 h2 h3=>by
  unfold zgh;rw [h1,h3,decide_eq_true h2.1,decide_eq_true h2.2.1,decide_eq_true h2.2.2.1,decide_eq_true h2.2.2.2];rfl
 have hsig:=fun hl=>ycf G key height (zir d) d.sig hl hd.chains hd.path.1 hd.path.2
 generalize accOK key height d=ok at bad good;generalize zgh d=okI at bad good bad1 bad2 bad3 good1;show zq Tryz.prog G 13 [yg key,sI height,.agg [sS d.person,sI d.month,yg d.root,.imm (yv d.commit),.imm (je d.shown),sI d.hidden,sI d.blind,sI d.sig.index,.imm (xq d.sig.chains),.imm (zy d.sig.path)]] (sB ok);refine zh Tryz.func13 rfl (by rw [Tryz.ntmps13];simp) rfl rfl ?_;intro E hH hK;(refine ze ?_;conv=>whnf);refine zd rfl  hnm ?_;generalize qj d.person=nm at hnm bad1 good1;cases nm with
 |false=>
  (refine zc ?_;conv=>whnf);exact kB hK (bad (bad1 rfl))
 |true=>
 (refine zc ?_;conv=>whnf)
 repeat' ((with_reducible refine way ?_ ?_)<;>(intro h;conv=>whnf))
 all_goals try exact kB hK (bad (bad2 (by omega)))
 all_goals try (exfalso;omega)
 have hcl:1<=d.commit.length/\d.commit.length<=1024:=by omega
 have good1:=good1 rfl (by omega);refine zg [0,1,5,45,46,47] ?_;change SW E _ [(0,yg key),(1,sI height),(5,.ptr 0 0),(45,.imm (yv d.commit)),(46,sI ((d.commit.map fun (n:Int)=>[dI n]).length:Nat)),(47,sI (0:Nat))] [.cells (d.cells.map .imm)];rw [hml];refine zp d.commit (fun j (_:Unit)=>[(0,yg key),(1,sI height),(5,.ptr 0 0),(45,.imm (yv d.commit)),(46,sI (d.commit.length:Nat)),(47,sI (j:Nat))]) (fun _ _=>[.cells (d.cells.map .imm)])
  (fun done _ _=>∀x∈done,zaq x=true) () (by simp) ?_ ?_
 ·rintro _ hel
  rw [good (good1 (List.all_eq_true.2 hel))] at hK;clear good good1 bad bad1 bad2 bad3 hnm;have hmonth:0<=d.month/\d.month<=1199:=by omega
  (refine ze ?_;conv=>whnf)
  repeat' ((with_reducible refine way ?_ ?_)<;>(intro h;conv=>whnf))
  all_goals try (exfalso;omega)
  refine zms (n:=d.commit.length) (zz:=sB false) rfl rfl rfl rfl rfl rfl rfl rfl rfl ⟨by decide,rfl⟩ rfl (by rw [<-hml]) (by rw [<-hml]) (by omega) ?_;(refine zc ?_;conv=>whnf);refine zg [0,1,5,9,60,61,62] ?_;change SW E _ [(0,yg key),(1,sI height),(5,.ptr 0 0),(9,.osl 1 0 d.commit.length),(60,.imm (je d.shown)),(61,sI ((d.shown.map Shw.cells).length:Nat)),(62,sI (0:Nat))] [.cells (d.cells.map .imm),.cells (List.replicate d.commit.length (sB false))];rw [hms, <-yma];generalize hgoal:(shownOK d (-1) d.shown&&xl (zdo d.shown 0 d.commit 1) d.hidden d.blind&&signedOK key height (zir d) d.sig)=goal at hK;refine zp d.shown (fun j (_:List SV)=>[(0,yg key),(1,sI height),(5,.ptr 0 0),(9,.osl 1 0 d.commit.length),(60,.imm (je d.shown)),(61,sI (d.shown.length:Nat)),(62,sI (j:Nat))]) (fun _ fl=>[.cells (d.cells.map .imm),.cells fl])
   (fun done rest fl=>fl=zez d.commit.length done/\shownOK d (-1) d.shown=shownOK d (zed done) rest/\ -1<=zed done) (zez d.commit.length []) ⟨rfl,rfl,by show (-1:Int)<= -1;omega⟩ ?_ ?_
  ·rintro fl ⟨rfl,hsh,_⟩
   have hsh:shownOK d (-1) d.shown=true:=hsh;rw [hsh,Bool.true_and] at hgoal;(refine ze ?_;conv=>whnf)
   repeat' ((with_reducible refine way ?_ ?_)<;>(intro h;conv=>whnf))
   all_goals try (exfalso;omega)
   refine zg [0,1,5,9,14,144,145,146] ?_;change SW E _ [(0,yg key),(1,sI height),(5,.ptr 0 0),(9,.osl 1 0 d.commit.length),(14,sI (1:Nat)),(144,.imm (yv d.commit)),(145,sI ((d.commit.map fun (n:Int)=>[dI n]).length:Nat)),(146,sI (0:Nat))] [.cells (d.cells.map .imm),.cells (zez d.commit.length d.shown)];rw [hml];refine zp d.commit (fun j (p:Nat)=>[(0,yg key),(1,sI height),(5,.ptr 0 0),(9,.osl 1 0 d.commit.length),(14,sI (p:Nat)),(144,.imm (yv d.commit)),(145,sI (d.commit.length:Nat)),(146,sI (j:Nat))]) (fun _ _=>[.cells (d.cells.map .imm),.cells (zez d.commit.length d.shown)])
    (fun done rest p=>zdo d.shown 0 d.commit 1=zdo d.shown done.length rest p/\p<2147483579) 1 ⟨rfl,by decide⟩ ?_ ?_
   ·rintro p ⟨hp,hp2⟩
    have hp:zdo d.shown 0 d.commit 1=p:=hp;rw [hp] at hgoal;have hop:=zsz G (p:Int) d.hidden d.blind;generalize xl (p:Int) d.hidden d.blind=okO at hgoal hop;(refine ze ?_;conv=>whnf)
    repeat' ((with_reducible refine way ?_ ?_)<;>(intro h;conv=>whnf))
    all_goals try (exfalso;omega)
    refine zd rfl  hop ?_;cases okO with
    |false=>
     rw [<-hgoal] at hK;(refine zc ?_;conv=>whnf);exact hK _
    |true=>
    rw [Bool.true_and] at hgoal;(refine zc ?_;conv=>whnf);have hi1:=zsh hI d.month (by omega) (by omega);have hz1:=xh d.month (by omega) (by omega);have hhex:=yfi G d.root hd.root;have hps:=hd.person;have htx:zir d=d.commit.foldl (fun s c=>s++(⟨#[32]⟩++wu c)) (⟨#[112,97,121,115,108,105,112,32]⟩++d.person++⟨#[32]⟩++wu d.month++⟨#[32]⟩++zek d.root):=rfl;have hz0:(⟨#[112,97,121,115,108,105,112,32]⟩++d.person++⟨#[32]⟩++wu d.month++⟨#[32]⟩++zek d.root:ByteArray).size<=1000000000002000:=by
     simp only [ByteArray.size_append,ju];show 8+d.person.size+1+(wu d.month).size+1+16<=_;omega
    refine yc mixed rfl ?_;(refine zf [170,171,175,176,180] ?_;conv=>whnf);refine zbd rfl rfl rfl rfl rfl (by show 8+d.person.size<=_;omega) ?_;(refine zf [170,171,175,176,180] ?_;conv=>whnf);refine zbd rfl rfl rfl rfl rfl (by rw [ByteArray.size_append];show 8+d.person.size+1<=_;omega) ?_;(refine zf [170,171,175,176,180] ?_;conv=>whnf);refine ym rfl  hi1 ?_;(refine zf [170,171,175,176,180] ?_;conv=>whnf);refine zbd rfl rfl rfl rfl rfl (by simp only [ByteArray.size_append];show 8+d.person.size+1+(wu d.month).size<=_;omega) ?_;(refine zf [170,171,175,176,180] ?_;conv=>whnf);refine zbd rfl rfl rfl rfl rfl (by simp only [ByteArray.size_append];show 8+d.person.size+1+(wu d.month).size+1<=_;omega) ?_;(refine zf [170,171,175,176,180] ?_;conv=>whnf);refine ym rfl  hhex ?_;(refine zf [170,171,175,176,180] ?_;conv=>whnf);refine zbd rfl rfl rfl rfl rfl (by simp only [ByteArray.size_append,ju];show 8+d.person.size+1+(wu d.month).size+1+16<=_;omega) ?_;(refine zf [] ?_;conv=>whnf);(refine ze ?_;conv=>whnf);generalize (⟨#[112,97,121,115,108,105,112,32]⟩++d.person++⟨#[32]⟩++wu d.month++⟨#[32]⟩++zek d.root:ByteArray)=t0 at htx hz0 ⊢;refine zg [0,1,5,17,182,183,184] ?_;change SW E _ [(0,yg key),(1,sI height),(5,.ptr 0 0),(17,sS t0),(182,.imm (yv d.commit)),(183,sI ((d.commit.map fun (n:Int)=>[dI n]).length:Nat)),(184,sI (0:Nat))] [.cells (d.cells.map .imm),.cells (zez d.commit.length d.shown)];rw [hml];refine zp d.commit (fun j (tx:ByteArray)=>[(0,yg key),(1,sI height),(5,.ptr 0 0),(17,sS tx),(182,.imm (yv d.commit)),(183,sI (d.commit.length:Nat)),(184,sI (j:Nat))]) (fun _ _=>[.cells (d.cells.map .imm),.cells (zez d.commit.length d.shown)])
     (fun done rest tx=>zir d=rest.foldl (fun s c=>s++(⟨#[32]⟩++wu c)) tx/\tx.size<=1000000000002000+30*done.length) t0 ⟨htx,hz0⟩ ?_ ?_
    ·rintro tx ⟨ht1,ht2⟩
     have ht1:zir d=tx:=ht1;rw [ht1] at hsig hgoal;have hsig:=hsig (by omega);rw [hgoal] at hsig;(refine ze ?_;conv=>whnf)
     repeat' ((with_reducible refine way ?_ ?_)<;>(intro h;conv=>whnf))
     all_goals try (exfalso;omega)
     refine zd rfl  hsig ?_;(refine zc ?_;conv=>whnf);exact hK _
    ·rintro done x rest tx hda hdl ⟨ht1,ht2⟩ ih
     have hx:(d.commit.map fun (n:Int)=>[dI n])[done.length]?=some [dI x]:=by rw [hda];simp
     have hxr:=zcf (hel x (by rw [hda];simp));have hi2:=zsh hI x (by omega) (by omega);have hz2:=xh x (by omega) (by omega);have wnx:IntKind.i64.wrap ((done.length:Int)+1)=((done.length+1:Nat):Int):=zk (by omega);(refine ze ?_;conv=>whnf)
     repeat' ((with_reducible refine way ?_ ?_)<;>(intro h;conv=>whnf))
     all_goals try (exfalso;omega)
     refine zi (i:=done.length) (row:=[dI x]) rfl rfl hx ?_;(refine zc ?_;conv=>whnf);refine zd rfl  hi2 ?_;(refine zj [777,191,192] 1000 ?_;conv=>whnf);refine wx rfl rfl rfl rfl rfl (by show 1+(wu x).size<=_;omega) ?_;(refine zj [777,192] 1000 ?_;conv=>whnf);refine wx rfl rfl rfl rfl rfl (by rw [ByteArray.size_append];show tx.size+(1+(wu x).size)<=_;omega) ?_;(refine zc ?_;conv=>whnf);rw [wnx];refine zg [0,1,5,17,182,183,184] (ih _ ⟨ht1,?_⟩);rw [ByteArray.size_append,ByteArray.size_append,List.length_append];show tx.size+(1+(wu x).size)<=1000000000002000+30*(done.length+1);omega
   ·rintro done x rest p hda hdl ⟨hp,hp2⟩ ih
    have hx:(d.commit.map fun (n:Int)=>[dI n])[done.length]?=some [dI x]:=by rw [hda];simp
    have hxr:=zcf (hel x (by rw [hda];simp));have wnx:IntKind.i64.wrap ((done.length:Int)+1)=((done.length+1:Nat):Int):=zk (by omega);obtain ⟨y,hy⟩:∃y:Nat,x=y:=⟨x.toNat,by omega⟩;have hpx:p*y<9223372036854775808:=Nat.lt_of_le_of_lt (Nat.mul_le_mul (Nat.le_of_lt hp2) (show y<=2147483579 by omega)) (by decide);have wmul:(IntKind.i64.wrap ((p:Int)*x)).tmod 2147483579=((p*y % 2147483579:Nat):Int):=by
     rw [hy,zt (by rw [<-Int.natCast_mul];omega) (by rw [<-Int.natCast_mul];omega),Int.tmod_eq_emod_of_nonneg (by rw [<-Int.natCast_mul];omega)];rfl
    have hfl:=zpu d.shown (show done.length<d.commit.length by omega);rw [zdo,hy,Int.toNat_natCast] at hp;have ih:∀q,q=(if zaj d.shown done.length=true then p else p*y % 2147483579)->SW E _ _ _:=fun q hq=>ih q ⟨by rw [hp,hq,List.length_append];rfl,by rw [hq];split;exact hp2;exact Nat.mod_lt _ (by decide)⟩
    generalize zaj d.shown done.length=sh at hfl ih;(refine ze ?_;conv=>whnf)
    repeat' ((with_reducible refine way ?_ ?_)<;>(intro h;conv=>whnf))
    all_goals try (exfalso;omega)
    refine zi (i:=done.length) (row:=[dI x]) rfl rfl hx ?_;(refine zc ?_;conv=>whnf);refine zah (i:=done.length) rfl rfl rfl rfl rfl rfl rfl rfl (by omega) ?_;refine wh (v:=sB sh) rfl rfl rfl rfl rfl (by show (zez d.commit.length d.shown)[0+done.length*1]?=_;rw [Nat.zero_add,Nat.mul_one];exact hfl) ?_;cases sh with
    |true=>
     (refine zc ?_;conv=>whnf);rw [wnx];exact zg [0,1,5,9,14,144,145,146] (ih p rfl)
    |false=>
     (refine zc ?_;conv=>whnf);rw [wnx,wmul];exact zg [0,1,5,9,14,144,145,146] (ih _ rfl)
  ·rintro done s rest fl hda hdl ⟨rfl,hsh,hlo⟩ ih
   have hmem:s∈d.shown:=by rw [hda];simp
   obtain ⟨r1,r2,r3,r4⟩:=hd.row s hmem;have hs:(d.shown.map Shw.cells)[done.length]?=some s.cells:=by rw [hda];simp
   have wnx:IntKind.i64.wrap ((done.length:Int)+1)=((done.length+1:Nat):Int):=zk (by have:=hd.shown;omega);have hbad:shwOK d (zed done) s=false->goal=false:=fun h=>by
    rw [hsh,shownOK,h,Bool.false_and,Bool.false_and,Bool.false_and] at hgoal;exact hgoal.symm
   have hgo:shwOK d (zed done) s=true->shownOK d (-1) d.shown=shownOK d (zed (done++[s])) rest:=fun h=>by
    rw [hsh,shownOK,h,Bool.true_and,zfr]
   have hbad1:¬(zed done<s.index/\s.index<d.commit.length)->goal=false:=fun h=>hbad (by
    cases hb:shwOK d (zed done) s with
    |false=>rfl
    |true=>
     unfold shwOK at hb;simp only [Bool.and_eq_true,decide_eq_true_eq] at hb
     exact absurd ⟨hb.1.1.1,hb.1.1.2⟩ h)
   have hlast:(done.length=0/\zed done= -1)\/∃p:Shw,(d.shown.map Shw.cells)[done.length-1]?=some p.cells/\1<=done.length/\zed done=p.index:=by
    rcases List.eq_nil_or_concat done with rfl|⟨D,p,hDp⟩
    ·exact .inl ⟨rfl,rfl⟩
    ·rw [List.concat_eq_append] at hDp
     subst hDp;refine .inr ⟨p,?_,by simp,zfr D p⟩;rw [hda,List.length_append,List.length_cons,List.length_nil,Nat.zero_add,Nat.add_sub_cancel,List.append_assoc];simp
   have w1:IntKind.i64.wrap ((done.length:Int)-1)=((done.length:Int)-1):=zt (by omega) (by have:=hd.shown;omega);(refine ze ?_;conv=>whnf)
   repeat' ((with_reducible refine way ?_ ?_)<;>(intro h;conv=>whnf))
   all_goals try (exfalso;omega)
   refine zi (i:=done.length) (row:=s.cells) rfl rfl hs ?_;(refine zc ?_;conv=>whnf);refine yc mixed rfl ?_;(refine zf [] ?_;conv=>whnf)
   repeat' ((with_reducible refine way ?_ ?_)<;>(intro h;conv=>whnf))
   all_goals try (exfalso;omega)
   rotate_left 2
   ·(refine ze ?_;conv=>whnf)
    exact kB hK (hbad1 (by omega))
   ·(refine ze ?_;conv=>whnf)
    exact kB hK (hbad1 (by omega))
   rcases hlast with ⟨h0,_⟩|⟨p,hp1,hp2,hp3⟩
   ·omega
   rw [w1];refine yx (i:=done.length-1) (row:=p.cells) rfl (by omega) hp1 ?_;(refine zf [] ?_;conv=>whnf);(refine ze ?_;conv=>whnf)
   repeat' ((with_reducible refine way ?_ ?_)<;>(intro h;conv=>whnf))
   ·exact kB hK (hbad1 (by omega))
   have hlt:zed done<s.index/\s.index<d.commit.length:=by omega
   rotate_left 1
   (refine ze ?_;conv=>whnf);have hlt:zed done<s.index/\s.index<d.commit.length:=by
    rcases hlast with ⟨h0,_⟩|⟨p,hp1,hp2,hp3⟩<;>omega
   rotate_left 1
   all_goals as_aux_lemma=>
    obtain ⟨ix,hix⟩:∃n:Nat,s.index=n:=⟨s.index.toNat,by omega⟩;have hcm:d.commit[ix]?=some (cAt d s.index):=by
     unfold cAt;rw [hix,Int.toNat_natCast,List.getD_eq_getElem?_getD,List.getElem?_eq_getElem (by omega)];rfl
    have hrow:(d.commit.map fun (n:Int)=>[dI n])[ix]?=some [dI (cAt d s.index)]:=by rw [List.getElem?_map,hcm];rfl
    have hce:=zcf (hel _ (List.mem_of_getElem? hcm));have hsw:shwOK d (zed done) s=(xl (cAt d s.index) s.cents s.blind&&qw d.root d.commit.length s.index (qk s.label (cAt d s.index) s.reason) s.path):=by
     unfold shwOK;rw [decide_eq_true hlt.1,decide_eq_true hlt.2];rfl
    have hz1:=xh s.label.size (by omega) (by omega);have hz2:=xh (cAt d s.index) (by omega) (by omega);have hlsz:(qk s.label (cAt d s.index) s.reason).size<=100000000000000000:=by
     unfold qk;simp only [ByteArray.size_append];show (wu s.label.size).size+1+s.label.size+(wu (cAt d s.index)).size+1+s.reason.size<=_;omega
    have hle:=zte G d.root (d.commit.length:Nat) s.index (qk s.label (cAt d s.index) s.reason) s.path hlsz r3 r4;have hop:=zsz G (cAt d s.index) s.cents s.blind;have hi1:=zsh hI (s.label.size:Int) (by omega) (by omega);have hi2:=zsh hI (cAt d s.index) (by omega) (by omega);rw [<-hml] at hle hsw;have hlf:qk s.label (cAt d s.index) s.reason=wu s.label.size++⟨#[58]⟩++s.label++wu (cAt d s.index)++⟨#[32]⟩++s.reason:=rfl;rw [hlf] at hle hsw;generalize qw d.root ((d.commit.map fun (n:Int)=>[dI n]).length:Nat) s.index (wu s.label.size++⟨#[58]⟩++s.label++wu (cAt d s.index)++⟨#[32]⟩++s.reason) s.path=okL at hle hsw;generalize xl (cAt d s.index) s.cents s.blind=okO at hop hsw;generalize cAt d s.index=c at hrow hce hz2 hle hop hi2;generalize wu c=tc at hz2 hle hi2;generalize wu s.label.size=tl at hz1 hle hi1;refine zi (i:=ix) (row:=[dI c]) rfl hix hrow ?_;(refine zc ?_;conv=>whnf);refine zd rfl  hop ?_;cases okO with
    |false=>
     (refine zc ?_;conv=>whnf);exact kB hK (hbad (by rw [hsw];rfl))
    |true=>
    (refine zc ?_;conv=>whnf);refine yc mixed rfl ?_;(refine zf [113,117,120,121,125] ?_;conv=>whnf);refine ym rfl  hi1 ?_;(refine zf [113,117,120,121,125] ?_;conv=>whnf);refine zbd rfl rfl rfl rfl rfl (by show tl.size+1<=_;omega) ?_;(refine zf [113,117,120,121,125] ?_;conv=>whnf);refine zbd rfl rfl rfl rfl rfl (by rw [ByteArray.size_append];show tl.size+1+_<=_;omega) ?_;(refine zf [113,117,120,121,125] ?_;conv=>whnf);refine ym rfl  hi2 ?_;(refine zf [113,117,120,121,125] ?_;conv=>whnf);refine zbd rfl rfl rfl rfl rfl (by simp only [ByteArray.size_append];show tl.size+1+_+_<=_;omega) ?_;(refine zf [113,117,120,121,125] ?_;conv=>whnf);refine zbd rfl rfl rfl rfl rfl (by simp only [ByteArray.size_append];show tl.size+1+_+_+1<=_;omega) ?_;(refine zf [113,117,120,121,125] ?_;conv=>whnf);refine zbd rfl rfl rfl rfl rfl (by simp only [ByteArray.size_append];show tl.size+1+_+_+1+_<=_;omega) ?_;(refine zf [] ?_;conv=>whnf);(refine ze ?_;conv=>whnf);refine zd rfl  hle ?_;cases okL with
    |false=>
     (refine zc ?_;conv=>whnf);exact kB hK (hbad (by rw [hsw];rfl))
    |true=>
    (refine zc ?_;conv=>whnf);refine zah (i:=ix) rfl rfl rfl rfl rfl rfl rfl hix (by omega) ?_;refine zhz (v:=sB true) (cs:=zez d.commit.length done) (off:=0+ix*1) rfl rfl rfl rfl rfl rfl rfl rfl rfl (by rw [zkq];omega) ?_;have hset:(zez d.commit.length done).set (0+ix*1) (sB true)=zez d.commit.length (done++[s]):=by rw [Nat.zero_add,Nat.mul_one];exact yic done s hix
    refine Eq.mpr (congrArg (fun v=>SWr E _ _ _ _ (List.set _ 1 (.cells v))) hset) ?_;(refine zc ?_;conv=>whnf);rw [wnx];refine yz [0,1,5,9,60,61,62] 2 (by simp [hH]) (by simp) rfl ?_ (ih _ ⟨rfl,hgo (by rw [hsw];rfl),by rw [zfr];omega⟩);show (SV.under.allUnder 2 (d.cells.map .imm)&&(SV.under.allUnder 2 (zez d.commit.length (done++[s]))&&true))=true;rw [yci];rfl
 ·as_aux_lemma=>
   rintro done x rest _ hda hdl hel ih;have hx:(d.commit.map fun (n:Int)=>[dI n])[done.length]?=some [dI x]:=by rw [hda];simp
   have he:=zxs G x;have wnx:IntKind.i64.wrap ((done.length:Int)+1)=((done.length+1:Nat):Int):=zk (by omega);(refine ze ?_;conv=>whnf)
   repeat' ((with_reducible refine way ?_ ?_)<;>(intro h;conv=>whnf))
   all_goals try (exfalso;omega)
   refine zi (i:=done.length) (row:=[dI x]) rfl rfl hx ?_;(refine zc ?_;conv=>whnf);refine zd rfl  he ?_;generalize hz:zaq x=z;cases z with
   |false=>
    (refine zc ?_;conv=>whnf);exact kB hK (bad (bad3 (by rw [hda,List.all_append,List.all_cons,hz,Bool.false_and,Bool.and_false])))
   |true=>
    (refine zc ?_;conv=>whnf);rw [wnx];refine zg [0,1,5,45,46,47] (ih () ?_);intro y hy;rcases List.mem_append.1 hy with hy|hy
    ·exact hel y hy
    ·simp at hy;rw [hy];exact hz
variable (G:List (Nat × D))
abbrev wr (n:Int):Int:=IntKind.i64.wrap n
def yyg (s:Shw):Int:=wr (wr ((s.path.length:Int)+wr ((s.label.size:Int).tdiv 20))+wr ((s.reason.size:Int).tdiv 20))
def yfk (d:Disc):Int:=d.shown.foldl (fun n s=>wr (n+yyg s)) (wr (wr (wr ((d.commit.length:Int)+d.shown.length)+d.sig.chains.length)+d.sig.path.length))
def ycj (height:Int) (d:Disc):Bool:=decide (yfk d<=400)&&decide ((d.person.size:Int)<=100)&&(decide (height<=4)||decide (8<height))
theorem yid (height:Int) (d:Disc) (hl:d.shown.length<=1000000000000000):zq Tryz.prog G 14 [sI height,d.sv] (sB (ycj height d)):=by
 have hml:(d.commit.map fun (n:Int)=>[dI n]).length=d.commit.length:=by simp
 have hms:(d.shown.map Shw.cells).length=d.shown.length:=by simp
 have hmc:(d.sig.chains.map fun (n:Nat)=>[dU n]).length=d.sig.chains.length:=by simp
 have hmp:(d.sig.path.map Frk.cells).length=d.sig.path.length:=by simp
 unfold ycj;show zq Tryz.prog G 14 [sI height,.agg [sS d.person,sI d.month,yg d.root,.imm (yv d.commit),.imm (je d.shown),sI d.hidden,sI d.blind,sI d.sig.index,.imm (xq d.sig.chains),.imm (zy d.sig.path)]] (sB (decide (yfk d<=400)&&decide ((d.person.size:Int)<=100)&&(decide (height<=4)||decide (8<height))));refine zh Tryz.func14 rfl (by rw [Tryz.ntmps14];simp) rfl rfl ?_;intro E hH hK;(refine ze ?_;conv=>whnf);refine zg [0,3,5,26,27,28] ?_;change SW E _ [(0,sI height),(3,.ptr 0 0),(5,sI (wr (wr (wr (((d.commit.map fun (n:Int)=>[dI n]).length:Int)+(d.shown.map Shw.cells).length)+(d.sig.chains.map fun (n:Nat)=>[dU n]).length)+(d.sig.path.map Frk.cells).length))),(26,.imm (je d.shown)),(27,sI ((d.shown.map Shw.cells).length:Nat)),(28,sI (0:Nat))] [.cells (d.cells.map .imm)];rw [hml,hms,hmc,hmp];refine zp d.shown (fun j (n:Int)=>[(0,sI height),(3,.ptr 0 0),(5,sI n),(26,.imm (je d.shown)),(27,sI (d.shown.length:Nat)),(28,sI (j:Nat))]) (fun _ _=>[.cells (d.cells.map .imm)])
  (fun done rest n=>yfk d=rest.foldl (fun n s=>wr (n+yyg s)) n) _ rfl ?_ ?_
 ·as_aux_lemma=>
   rintro n hn;have hn:yfk d=n:=hn;rw [hn] at hK;(refine ze ?_;conv=>whnf)
   repeat' ((with_reducible refine way ?_ ?_)<;>(intro h;conv=>whnf))
   all_goals try (exfalso;omega)
   all_goals (refine kB hK ?_;rw [Bool.eq_iff_iff];simp only [Bool.and_eq_true,Bool.or_eq_true,decide_eq_true_eq,Bool.false_eq_true,iff_false,iff_true];omega)
 ·as_aux_lemma=>
   rintro done s rest n hda hdl hn ih;have hs:(d.shown.map Shw.cells)[done.length]?=some s.cells:=by rw [hda];simp
   have hmp2:(s.path.map Frk.cells).length=s.path.length:=by simp
   have wnx:IntKind.i64.wrap ((done.length:Int)+1)=((done.length+1:Nat):Int):=zk (by omega);have ih:=ih (wr (n+yyg s)) hn;unfold yyg wr at ih;(refine ze ?_;conv=>whnf)
   repeat' ((with_reducible refine way ?_ ?_)<;>(intro h;conv=>whnf))
   all_goals try (exfalso;omega)
   refine zi (i:=done.length) (row:=s.cells) rfl rfl hs ?_;(refine zc ?_;conv=>whnf);rw [wnx,hmp2];refine yz [0,3,5,26,27,28] 1 (by simp [hH]) (by simp) rfl rfl ih
def zgy (prev : Option Int) (p : Piece) : Bool :=
  (match prev with
   | none => decide (p.lo = 0)
   | some q => decide (q < p.lo) && decide (p.lo <= 1000000000000)) &&
  decide (-1000000 <= p.slope) && decide (p.slope <= 1000000) && decide (-1000000000000000000 <= p.at_) && decide (p.at_ <= 1000000000000000000)
def zck:Option Int->List Piece->Bool
 |_,[]=>true
 |prev,p::r=>zgy prev p&&zck (some p.lo) r
def zct (den:Int) (ps:List Piece):Bool:=decide (1<=den)&&decide (den<=1000000)&&decide (1<=ps.length)&&decide (ps.length<=64)&&zck none ps
def zis (l:List Piece):Option Int:=l.getLast?.map (·.lo)
theorem ztf {α:Type} (l:List α):l=[]\/∃i x,l=i++[x]:=by
 rcases List.eq_nil_or_concat l with h|⟨i,x,h⟩
 ·exact .inl h
 ·exact .inr ⟨i,x,by simpa using h⟩
theorem yck (l:List Piece) (p:Piece):zis (l++[p])=some p.lo:=by simp [zis]
def ztg (f:Fact):Bool:=qj f.person&&qj f.name&&
 decide (0<=f.lo/\f.lo<f.hi/\f.hi<=36525/\0<=f.known/\f.known<=36524/\ -1000000000000<=f.value/\f.value<=1000000000000)&&(!f.gone||decide (f.value=0))
def Fact.sv (f:Fact):SV:=.agg [sS f.person,sS f.name,sI f.lo,sI f.hi,sI f.known,sI f.value,sB f.gone]
def zcu:Option Int->List Fact->Bool
 |_,[]=>true
 |none,f::r=>ztg f&&zcu (some f.known) r
 |some k,f::r=>ztg f&&decide (k<=f.known)&&zcu (some f.known) r
def zjk (l:List Fact):Bool:=decide (l.length<=400)&&zcu none l
def zbp (l:List Fact):Option Int:=l.getLast?.map (·.known)
theorem zit (l:List Fact) (p:Fact):zbp (l++[p])=some p.known:=by simp [zbp]
theorem ziu (a b:List Int) (hsz:a.length<=9223372036854775807):zq Tryz.prog G 70 [.imm (yh a),.imm (yh b)] (sB (decide (a=b))):=by
 refine zh Tryz.func70 rfl (by rw [Tryz.ntmps70];simp) rfl rfl ?_;intro E hH hK;have hla:(a.map fun n=>[dI n]).length=a.length:=by simp
 have hlb:(b.map fun n=>[dI n]).length=b.length:=by simp
 (refine xg ?_;conv=>whnf)
 repeat' ((with_reducible refine way ?_ ?_)<;>(intro h;conv=>whnf))
 any_goals exact kB hK (by simp;intro e;subst e;exact h rfl)
 refine zg [0,1,12,13] ?_;refine yy (σ:=List Int × List Int × List Int) (fun x=>[(0,.imm (yh a)),(1,.imm (yh b)),(12,sI (a.map fun n=>[dI n]).length),(13,sI x.1.length)])
  (fun _=>[]) (fun x=>a=x.1++x.2.1/\b=x.1++x.2.2) (fun x=>x.2.1.length) ?_ ([],a,b) ⟨rfl,rfl⟩
 rintro ⟨done,ra,rb⟩ ⟨ha,hb⟩ ih
 dsimp only at ha hb ih ⊢
 have hl1:done.length+ra.length=a.length:=by rw [ha];simp
 have hl2:done.length+rb.length=b.length:=by rw [hb];simp
 cases ra with
 |nil=>
  simp at hl1;have:rb=[]:=List.length_eq_zero_iff.1 (by omega);(refine xg ?_;conv=>whnf)
  repeat' ((with_reducible refine way ?_ ?_)<;>(intro h;conv=>whnf))
  all_goals try (exfalso;omega)
  exact kB hK (by rw [ha,hb,this];simp)
 |cons p ra=>
  cases rb with
  |nil=>simp at hl1 hl2;omega
  |cons q rb=>
   simp at hl1 hl2;have hw:IntKind.i64.wrap ((done.length:Int)+1)=(((done++[p]).length:Nat):Int):=by rw [zk (by omega)];simp
   have next:q=p->_:=fun e=>ih (done++[p],ra,rb) ⟨by simp [ha],by simp [hb,e]⟩ (by simp)
   have bad:q≠p->decide (a=b)=false:=fun e=>by simp [ha,hb,Ne.symm e]
   (refine xg ?_;conv=>whnf)
   repeat' ((with_reducible refine way ?_ ?_)<;>(intro h;conv=>whnf))
   all_goals try (exfalso;omega)
   (refine yc mixed rfl ?_;refine zf [] ?_;conv=>whnf);refine yx rfl rfl  (row:=[dI p]) (by simp [ha]) ?_;(refine zf [] ?_;conv=>whnf);refine yx rfl rfl  (row:=[dI q]) (by simp [hb]) ?_;(refine zf [] ?_;conv=>whnf);(refine xg ?_;conv=>whnf)
   repeat' ((with_reducible refine way ?_ ?_)<;>(intro h;conv=>whnf))
   ·exact kB hK (bad (fun e=>h e.symm))
   ·rw [hw];exact zg [0,1,12,13] (next h.symm)
def yzq (number day known:Int) (a:Article):Bool:=decide (a.number=number/\a.lo<=day/\day<a.hi/\a.known<=known)
def yus (number day known:Int) (i:Nat) (a:Article):Option (Nat × Int)->Option (Nat × Int)
 |none=>if yzq number day known a then some (i,a.known) else none
 |some (j,k)=>if yzq number day known a&&decide (k<=a.known) then some (i,a.known) else some (j,k)
def ymb (number day known:Int):List Article->Nat->Option (Nat × Int)->Option (Nat × Int)
 |[],_,found=>found
 |a::r,i,found=>ymb number day known r (i+1) (yus number day known i a found)
def ycl (arts:List Article) (number day known:Int):Option Nat:=(ymb number day known arts 0 none).map (·.1)
def yzw (y:Int):Bool:=decide (y.tmod 4=0/\(y.tmod 100≠0\/y.tmod 400=0))
def yxb (y m:Int):Int:=if m=4\/m=6\/m=9\/m=11 then 30 else if m=2 then (if yzw y then 29 else 28) else 31
def lenOf (m:Nat):Int:=yxb (2000+(m / 12:Nat)) ((m % 12:Nat)+1)
def ycm:Nat->Int
 |0=>0
 |m+1=>ycm m+lenOf m
theorem ymc {κ α:Type} (n:Nat) (f:α->SV) (hf:∀a,(f a).under n=true) (l:List (κ × α)):(jo f l).all (fun e=>e.2.under n)=true:=by
 simp only [jo,List.all_map];exact List.all_eq_true.2 fun p _=>hf p.2
theorem zgz (n:Nat) (l:List (Int × Int)):SObj.under n (.mapI .i64 (jo sI l))=true:=ymc n sI (fun _=>rfl) l
def zjl (lo hi:Int) (d:Decl):Bool:=yht d.name&&zmq d.unit&&decide (lo<=d.role/\d.role<=hi)
def zar (lo hi:Int) (l:List Decl):Bool:=l.all (zjl lo hi)&&decide ((l.map (·.name)).Nodup)
theorem ycn {lo hi:Int} {done rest:List Decl} {d:Decl} (h:zjl lo hi d=false\/d.name∈done.map (·.name)):zar lo hi (done++d::rest)=false:=by
 rcases h with h|h
 ·simp [zar,h]
 ·simp only [zar,Bool.and_eq_false_iff,decide_eq_false_iff_not]
  right
  rw [List.map_append,List.map_cons,List.nodup_append];exact fun ⟨_,_,h3⟩=>h3 _ h _ (by simp) rfl
abbrev tT:ByteArray:=⟨#[116,114,117,116,104]⟩
abbrev tN:ByteArray:=⟨#[110,117,109,98,101,114]⟩
abbrev tM:ByteArray:=⟨#[109,105,110,117,116,101,115]⟩
def zpv:List Ex->Bool
 |[]=>true
 |k0::r=>(k0::r).all fun x=>decide (x.unit=k0.unit)
def ypk (op:Int) (u:ByteArray) (f l:Ex) (len:Int) (same:Bool):Bool:=
 if op=5 then decide (len=1)&&decide (u=tT)&&decide (f.unit=tT)
 else if op=6\/op=7 then decide (len=2)&&decide (u=tT)&&same&&decide (f.unit=tT)
 else if op=8 then decide (len=2)&&decide (u=tT)&&same
 else if op=9\/op=10 then decide (len=2)&&decide (u=tT)&&(same&& !decide (f.unit=tT))
 else if op=11\/op=12 then decide (len=2)&&(same&& !decide (f.unit=tT))&&decide (u=f.unit)
 else if op=16\/op=17 then decide (2<=len)&&(same&& !decide (f.unit=tT))&&decide (u=f.unit)
 else if op=13 then decide (len=2)&& !decide (f.unit=tT)&& !decide (l.unit=tT)&&(decide (f.unit=tN)||decide (l.unit=tN))&&decide (u=if f.unit=tN then l.unit else f.unit)
 else if op=14 then decide (len=2)&&decide (l.op=1)&&decide (l.unit=tN)&&(!decide (l.n<1)&& !decide (1000000<l.n))&& !decide (f.unit=tT)&&decide (u=f.unit)
 else if op=15 then decide (len=2)&&decide (f.unit=tM)&&zpi l.unit&&decide (u=l.unit)
 else false
def zth (l:List Decl) (i:Int) (u:ByteArray):Bool:=
 match l[i.toNat]? with
 |some d=>decide (u=d.unit)
 |none=>false
def zha (facts lines : List Decl) (m : List (Int × Int)) (op n : Int) (u : ByteArray) : Bool :=
  if op = 1 then decide (0 <= n) && decide (n <= 999999999999) && (!decide (u = tT) || decide (n <= 1))
  else if op = 2 then decide (0 <= n) && decide (n < facts.length) && zth facts n u
  else if op = 3 then (match yf n m with
    | some line => zth lines line u
    | none => false)
  else decide (1 <= n) && decide (n <= 4) && decide (u = tN)
def zdp (c:Codex) (m:List (Int × Int)) (op n:Int) (u:ByteArray) (den:Int) (ps:List Piece) (ks:List Ex):Bool:=
 if op=18 then decide (n=0)&&decide (ks.length=1)&&zpi u&&(match ks with|k::_=>decide (u=k.unit)|[]=>false)&&zct den ps
 else if ¬den=0\/0<ps.length then false
 else if 1<=op/\op<=4 then decide (ks.length=0)&&zha c.facts c.lines m op n u
 else decide (n=0)&&(match ks.head?,ks.getLast? with|some f,some l=>ypk op u f l ks.length (zpv ks)|_,_=>false)
mutual
def qz (c:Codex) (m:List (Int × Int)):Ex->Int->Int->Bool × Int
 | .mk op n u den ps ks,depth,cnt=>
  if 400<cnt+1\/40<depth\/zmq u=false then (false,cnt+1)
  else match jy c m ks (depth+1) (cnt+1) with
   |(true,cnt')=>(zdp c m op n u den ps ks,cnt')
   |(false,cnt')=>(false,cnt')
def jy (c:Codex) (m:List (Int × Int)):List Ex->Int->Int->Bool × Int
 |[],_,cnt=>(true,cnt)
 |k::r,depth,cnt=>match qz c m k depth cnt with
  |(true,cnt')=>jy c m r depth cnt'
  |(false,cnt')=>(false,cnt')
end
theorem zyg (c:Codex) (m:List (Int × Int)) (N:Nat):(∀e:Ex,SizeOf.sizeOf e<N->∀d cnt:Int,cnt+1<=(qz c m e d cnt).2/\((qz c m e d cnt).1=true->(qz c m e d cnt).2<=400))/\
  (∀ks:List Ex,SizeOf.sizeOf ks<N->∀d cnt:Int,cnt<=(jy c m ks d cnt).2/\(cnt<=400->(jy c m ks d cnt).1=true->(jy c m ks d cnt).2<=400)):=by
 induction N with
 |zero=>exact ⟨fun e h=>by omega,fun e h=>by omega⟩
 |succ N ih=>
  refine ⟨fun e he d cnt=>?_,fun ks hk d cnt=>?_⟩
  ·obtain ⟨op,n,u,den,ps,ks⟩:=e
   simp only [Ex.mk.sizeOf_spec] at he;have:=ih.2 ks (by omega) (d+1) (cnt+1);simp only [qz];split
   ·exact ⟨Int.le_refl _,fun h=>by cases h⟩
   ·rename_i hc
    revert this
    cases jy c m ks (d+1) (cnt+1) with
    |mk b q=>
     cases b with
     |true=>simp only;intro h;exact ⟨h.1,fun _=>h.2 (by omega) trivial⟩
     |false=>simp only;intro h;exact ⟨h.1,fun h=>by cases h⟩
  ·cases ks with
   |nil=>simp [jy]
   |cons k r=>
    simp only [List.cons.sizeOf_spec] at hk;have h1:=ih.1 k (by omega) d cnt;simp only [jy]
    revert h1
    cases qz c m k d cnt with
    |mk b q=>
     cases b with
     |true=>
      simp only;intro h1;have h2:=ih.2 r (by omega) d q;exact ⟨by omega,fun hc h=>h2.2 (h1.2 trivial) h⟩
     |false=>simp only;intro h1;exact ⟨by omega,fun _ h=>by cases h⟩
def zac (c:Codex) (m:List (Int × Int)) (e:Ex) (u:ByteArray):Bool × Int:=if e.unit=u then qz c m e 1 0 else (false,0)
def zhb (a:Article):Bool:=decide (0<=a.rank)&&decide (a.rank<=1000000)&&decide (0<=a.lo)&&decide (a.lo<a.hi)&&decide (a.hi<=36525)&&decide (0<=a.known)&&decide (a.known<=36524)
def zvs (c:Codex) (i:Int):ByteArray:=match c.lines[i.toNat]? with|some d=>d.unit|none=>⟨#[]⟩
def zsi (c:Codex) (m:List (Int × Int)) (a:Article):Bool:=
 zhb a&&a.unless_.all (fun n=>(yf n m).isSome)&&a.when_.all (fun e=>(zac c m e tT).1)&&(zac c m a.amount (zvs c a.line)).1
def zvt (a:Article) (op n:Int) (u:ByteArray) (den:Int) (ps:List Piece) (ks:List Ex):List SV:=
 [sI a.number,sI a.line,sI a.rank,sI a.lo,sI a.hi,sI a.known,.imm (jc a.when_),.imm (yh a.unless_),sI op,sI n,sS u,sI den,.imm (.isl 3 (ps.map Piece.cells)),.imm (.isl 6 (zo ks))]
def jf (nl : Int) : List Article -> List (Int × Int) -> Option (List (Int × Int))
  | [], m => some m
  | a :: r, m => if 1 <= a.number /\ a.number <= 1000000 /\ 0 <= a.line /\ a.line < nl then
      (match yf a.number m with
      | some l => if l = a.line then jf nl r (zcz a.number a.line m) else none
      | none => jf nl r (zcz a.number a.line m))
    else none
def zdq (c : Codex) : Bool :=
  decide (c.facts.length <= 32) && decide (c.lines.length <= 32) && decide (c.arts.length <= 60) && zar 0 0 c.facts && zar 1 4 c.lines &&
  (match jf c.lines.length c.arts [] with
  | some m => c.arts.all (zsi c m)
  | none => false)
def Codex.fit (c:Codex):Prop:=∀a∈c.arts,a.unless_.length<=9223372036854775807/\a.when_.length<=9223372036854775807
theorem zkr (nl:Int):∀(l:List Article) (m0 m:List (Int × Int)),jf nl l m0=some m->(∀k v,yf k m0=some v->0<=v/\v<nl)->(∀k v,yf k m=some v->0<=v/\v<nl)/\∀a∈l,0<=a.line/\a.line<nl
 |[],m0,m,h,h0=>by simp [jf] at h;subst h;exact ⟨h0,by simp⟩
 |a::r,m0,m,h,h0=>by
  simp only [jf] at h;split at h
  ·rename_i hc
   have h1:∀k v,yf k (zcz a.number a.line m0)=some v->0<=v/\v<nl:=fun k v hk=>by
    rw [zls] at hk;split at hk
    ·cases hk;exact ⟨hc.2.2.1,hc.2.2.2⟩
    ·exact h0 k v hk
   have key:jf nl r (zcz a.number a.line m0)=some m->_:=fun h=>zkr nl r _ m h h1
   have hm:jf nl r (zcz a.number a.line m0)=some m:=by
    split at h
    ·split at h
     ·exact h
     ·cases h
    ·exact h
   obtain ⟨g1,g2⟩:=key hm;refine ⟨g1,fun x hx=>?_⟩;rcases List.mem_cons.1 hx with rfl|hx
   ·exact ⟨hc.2.2.1,hc.2.2.2⟩
   ·exact g2 x hx
  ·cases h
abbrev zbz (l:List Int):List Int:=l.mergeSort fun x y=>decide (x<=y)
theorem yco (k:Nat) (rows:List (List D)) (h:∀r∈rows,r.length=k):qo k rows.flatten rows.length=rows:=by
 induction rows with
 |nil=>rfl
 |cons r rows ih=>
  have hr:=h r (by simp);simp only [List.flatten_cons,List.length_cons,qo];rw [List.take_append_of_le_length (by omega),List.take_of_length_le (by omega),List.drop_append_of_le_length (by omega),List.drop_of_length_le (by omega),List.nil_append,ih (fun r hr=>h r (by simp [hr]))]
def View.cs (v:View):List SV:=[sI v.day,.imm (zag v.has),.imm (yh v.value),.imm (yh v.arts)]
def bs (l:List UInt8):ByteArray:=⟨l.toArray⟩
mutual
def zbq:Ex->Nat
 | .mk _ _ _ _ _ ks=>zcv ks+1
def zcv:List Ex->Nat
 |[]=>0
 |k::r=>zbq k+zcv r
end
mutual
def yut:Ex->Nat
 | .mk _ _ _ _ _ ks=>yfl ks+1
def yfl:List Ex->Nat
 |[]=>0
 |k::r=>max (yut k) (yfl r)
end
theorem yie (e:Ex):1<=zbq e:=by cases e;simp [zbq]
theorem zjm (a:List Ex):a.length<=zcv a:=by
 induction a with
 |nil=>simp
 |cons k a ih=>have:=yie k;simp [zcv];omega
theorem zpw {a:List Ex} {k:Ex} (h:k∈a):zbq k<=zcv a:=by
 induction a with
 |nil=>cases h
 |cons x a ih=>
  rcases List.mem_cons.1 h with rfl|h
  ·simp [zcv]
  ·have:=ih h;simp [zcv];omega
end Go.Proofs.YtjnddlifnkgncaaGreatDoor