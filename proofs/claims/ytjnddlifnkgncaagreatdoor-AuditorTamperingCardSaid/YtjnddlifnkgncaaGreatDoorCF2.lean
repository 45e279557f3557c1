/- Contracts of functions of the program, joined from TSh16, TSh17, TSh18, TSh19, TSh20, TSh21, TSh22, TSh23, TSh24, TSh25, TSh26, TSh27, TSh28, TSh29, TSh30, TSh31, TSh58, TDat, TFa, TFb, TWa: no condition. -/
import Derived.Test.YtjnddlifnkgncaaGreatDoorCF1
import Derived.Orders
import Derived.ChangeArms
import Derived.ReadAgain
import Derived.RowKit2
import Derived.SizedLaws
import Derived.Test.YtjnddlifnkgncaaGreatDoorProg
set_option linter.unusedSimpArgs false
set_option linter.unusedVariables false
set_option maxRecDepth 10000
set_option maxHeartbeats 8000000
namespace Go.Sh
section
variable {P:Program} {G:List (Nat × D)} {fn:Func} {rd:Bool} {E:En P G fn rd} {t:List (Nat × SV)} {H:List SObj} {k:List Item}
def zsv (P:Program) (G:List (Nat × D)) (f:FuncId) (args:List SV) (H:List SObj) (r:SV):Prop:=SCall P G f args H (fun r' H'=>r'=r/\H'=H)
def xt (o:Oper):List Nat:=(o.after.toList.filter (Region.binds .any)).map (·.on)
def ykt (op:Op):Bool:=
 match op with
 | .defer _=>false
 |_=>true
def zve (ops:Array Oper):Bool:=
 ops.toList.zipIdx.all fun (o,i)=>ykt o.op&&
  (xt o).all (fun j=>decide (j<i))&&
  ops.toList.zipIdx.all fun (p,j)=>
   match p.dst with
   |none=>true
   |some d=>(!(o.looksAt ops).contains d||i==j||(decide (j<i)&&(xt o).contains j)||(decide (i<j)&&(xt p).contains i))&&(i==j||o.dst !=some d)
inductive Draws (P:Program) (G:List (Nat × D)) (N:Nat) (all:Array Oper) (H:List SObj):List Oper->List (Nat × SV)->List (Nat × SV)->Prop
 |nil (t:List (Nat × SV)):Draws P G N all H [] t t
 |skip {o:Oper} {rest:List Oper} {t t':List (Nat × SV)}:zu all t o.guard=some false->yb N o.dst=true->Draws P G N all H rest (xj t o.dst sU) t'->Draws P G N all H (o::rest) t t'
 |op {o:Oper} {rest:List Oper} {t t':List (Nat × SV)} {r:SV}:zu all t o.guard=some true->yb N o.dst=true->sop P o.op (zl G t) H=some (r,H)->Draws P G N all H rest (xj t o.dst r) t'->Draws P G N all H (o::rest) t t'
 |call {o:Oper} {rest:List Oper} {t t':List (Nat × SV)} {r:SV} {fx:Operand} {args:Array Operand} {tys:Array TypeId} {f:FuncId} {first captured:List SV}:zu all t o.guard=some true->yb N o.dst=true->
   o.op= .call ⟨.value fx,args,tys⟩->zl G t fx= .fn (.func f) first captured->wk P f=true->zsv P G f (first++args.toList.map (zl G t)++captured) H r->
   Draws P G N all H rest (xj t o.dst r) t'->Draws P G N all H (o::rest) t t'
structure Val (P : Program) (G : List (Nat × D)) (N : Nat) (all : Array Oper) (H : List SObj) (o : Oper) (t : List (Nat × SV)) (r : SV) : Prop where
  dst : yb N o.dst = true
  how : (zu all t o.guard = some false /\ r = sU) \/ (zu all t o.guard = some true /\ (sop P o.op (zl G t) H = some (r, H) \/
    ∃ fx args tys f first captured, o.op = .call ⟨.value fx, args, tys⟩ /\ zl G t fx = .fn (.func f) first captured /\ wk P f = true /\ zsv P G f (first ++ args.toList.map (zl G t) ++ captured) H r))
def tAt (ops:List Oper) (vals:List SV) (t:List (Nat × SV)):Nat->List (Nat × SV)
 |0=>t
 |i+1=>xj (tAt ops vals t i) ((ops[i]?).bind (·.dst)) ((vals[i]?).getD .any)
theorem zfj (o:Oper) (ops:List Oper) (v:SV) (vals:List SV) (t:List (Nat × SV)):∀i,tAt (o::ops) (v::vals) t (i+1)=tAt ops vals (xj t o.dst v) i
 |0=>by simp [tAt]
 |i+1=>by
  rw [tAt,zfj o ops v vals t i];simp [tAt]
theorem zsw {N:Nat} {all:Array Oper} {rest:List Oper} {t t':List (Nat × SV)} (h:Draws P G N all H rest t t'):
  ∃vals:List SV,vals.length=rest.length/\t'=tAt rest vals t rest.length/\∀(i:Nat) o,rest[i]?=some o->∃v,vals[i]?=some v/\Val P G N all H o (tAt rest vals t i) v:=by
 have step:∀(o:Oper) (rest:List Oper) (t t':List (Nat × SV)) (r:SV),Val P G N all H o t r->(∃vals:List SV,vals.length=rest.length/\t'=tAt rest vals (xj t o.dst r) rest.length/\∀(i:Nat) o',rest[i]?=some o'->∃v,vals[i]?=some v/\Val P G N all H o' (tAt rest vals (xj t o.dst r) i) v)->
   ∃vals:List SV,vals.length=(o::rest).length/\t'=tAt (o::rest) vals t (o::rest).length/\∀(i:Nat) o',(o::rest)[i]?=some o'->∃v,vals[i]?=some v/\Val P G N all H o' (tAt (o::rest) vals t i) v:=by
  rintro o rest t t' r hv ⟨vals,h1,h2,h3⟩;refine ⟨r::vals,by simp [h1],by rw [List.length_cons,zfj];exact h2,fun i o' ho'=>?_⟩;cases i with
  |zero=>simp at ho';subst ho';exact ⟨r,by simp,hv⟩
  |succ i=>simp at ho';rw [zfj];obtain ⟨v,a,b⟩:=h3 i o' ho';exact ⟨v,by simpa using a,b⟩
 induction h with
 |nil t=>exact ⟨[],rfl,rfl,fun i o h=>by simp at h⟩
 |skip h1 h2 _ ih=>exact step _ _ _ _ _ ⟨h2,.inl ⟨h1,rfl⟩⟩ ih
 |op h1 h2 h3 _ ih=>exact step _ _ _ _ _ ⟨h2,.inr ⟨h1,.inl h3⟩⟩ ih
 |call h1 h2 h3 h4 h5 h6 _ ih=>exact step _ _ _ _ _ ⟨h2,.inr ⟨h1,.inr ⟨_,_,_,_,_,_,h3,h4,h5,h6⟩⟩⟩ ih
theorem zfk {α γ:Type} {f g:α->γ} {l:Array α} (h:∀x∈l,f x=g x):l.toList.map f=l.toList.map g:=
 List.map_congr_left fun x hx=>h x (by simpa using hx)
theorem zgr {op:Op} {ev ev':Operand->SV} (h:∀x∈op.operands,ev x=ev' x):sop P op ev H=sop P op ev' H:=by
 have parts:∀ps:Array (Nat × Operand),(∀x∈(ps.toList.map (·.2)).toArray,ev x=ev' x)->(ps.toList.map fun p=>(p.1,ev p.2))=(ps.toList.map fun p=>(p.1,ev' p.2)):=by
  intro ps hp;refine List.map_congr_left fun p hx=>?_
  rw [hp p.2 (by simp;exact ⟨p.1,by simpa using hx⟩)]
 cases op<;>simp only [Op.operands] at h<;>simp only [sop]
 case move x=>rw [h x (by simp)]
 case assign x=>rw [h x (by simp)]
 case pick c a b=>rw [h c (by simp),h a (by simp),h b (by simp)]
 case box e x=>rw [h x (by simp)]
 case build t ps=>rw [parts ps h]
 case buildSlice t n ps=>rw [parts ps h]
 case load t a=>rw [h a (by simp)]
 case store t a x=>rw [h a (by simp),h x (by simp)]
 case nilCheck x=>rw [h x (by simp)]
 case binOp op t x y yt=>rw [h x (by simp),h y (by simp)]
 case unOp op t x=>rw [h x (by simp)]
 case convert a b x=>rw [h x (by simp)]
 case makeFunc f first captured=>
  rw [zfk (l:=first) (fun x hx=>h x (by simp [hx])),zfk (l:=captured) (fun x hx=>h x (by simp [hx]))]
 case makeMap t rs=>cases rs<;>rfl
 case makeSlice t l c=>rw [h l (by simp),h c (by simp)]
 case slice t x lo hi mx=>
  cases mx with
  |some m=>rfl
  |none=>
   have o1:lo.map ev=lo.map ev':=by
    cases lo with
    |none=>rfl
    |some y=>simp [h y (by simp)]
   have o2:hi.map ev=hi.map ev':=by
    cases hi with
    |none=>rfl
    |some y=>simp [h y (by simp)]
   simp only [o1,o2,h x (by simp)]
 case fieldAddr a x f=>rw [h x (by simp)]
 case field a x f=>rw [h x (by simp)]
 case indexAddr t x i=>rw [h x (by simp),h i (by simp)]
 case index t x i=>rw [h x (by simp),h i (by simp)]
 case lookup t x i ok=>rw [h x (by simp),h i (by simp)]
 case mapUpdate t m kk x=>rw [h m (by simp),h kk (by simp),h x (by simp)]
 case extract x i=>rw [h x (by simp)]
 case call c=>
  obtain ⟨callee,args,tys⟩:=c;cases callee with
  |value f=>rfl
  |invoke r m=>rfl
  |builtin b=>
   simp only;rw [zfk (l:=args) (fun x hx=>h x (by simp [Call.operands,hx]))]
theorem zmn {d:Option Tmp} {s:SV} {n:Nat} (h:d≠some n):qh (xj t d s) n=qh t n:=by
 cases d with
 |none=>rfl
 |some m=>simp only [xj,qh];rw [if_neg (fun e=>h (by rw [e]))]
structure Uniq (ops:Array Oper):Prop where
 edge:∀(i:Nat) o,ops[i]?=some o->∀j∈xt o,j<i
 dep:∀(i j:Nat) o p d,ops[i]?=some o->ops[j]?=some p->p.dst=some d->d∈o.looksAt ops->i=j\/(j<i/\j∈xt o)\/(i<j/\i∈xt p)
 uniq:∀(i j:Nat) o p d,ops[i]?=some o->ops[j]?=some p->o.dst=some d->p.dst=some d->i=j
theorem zhu {ops:Array Oper} (h:zve ops=true) (i:Nat) (o:Oper) (ho:ops[i]?=some o) (c:Call):o.op≠ .defer c:=by
 unfold zve at h;have m1:(o,i)∈ops.toList.zipIdx:=by
  rw [List.mem_zipIdx_iff_getElem?];simpa using ho
 have h1:=List.all_eq_true.1 h (o,i) m1;simp only [Bool.and_eq_true] at h1;intro e;rw [e] at h1;simp [ykt] at h1
theorem zvf {ops : Array Oper} (h : zve ops = true) : Uniq ops := by
  have key : ∀ (i j : Nat) o p, ops[i]? = some o -> ops[j]? = some p -> ((xt o).all (fun j => decide (j < i)) && (match p.dst with
      | none => true
      | some d => (!(o.looksAt ops).contains d || i == j || (decide (j < i) && (xt o).contains j) || (decide (i < j) && (xt p).contains i)) && (i == j || o.dst != some d))) = true := by
    intro i j o p ho hp
    unfold zve at h
    have m1 : (o, i) ∈ ops.toList.zipIdx := by
      rw [List.mem_zipIdx_iff_getElem?]; simpa using ho
    have m2 : (p, j) ∈ ops.toList.zipIdx := by
      rw [List.mem_zipIdx_iff_getElem?]; simpa using hp
    have h1 := List.all_eq_true.1 h (o, i) m1
    simp only [Bool.and_eq_true] at h1 ⊢
    exact ⟨h1.1.2, List.all_eq_true.1 h1.2 (p, j) m2⟩
  refine ⟨fun i o ho j hj => ?_, fun i j o p d ho hp hd hl => ?_, fun i j o p d ho hp hod hpd => ?_⟩
  · have := key i i o o ho ho
    simp only [Bool.and_eq_true] at this
    simpa using List.all_eq_true.1 this.1 j hj
  · have := key i j o p ho hp
    rw [hd] at this
    simp only [Bool.and_eq_true, Bool.or_eq_true, Bool.not_eq_true', beq_iff_eq, decide_eq_true_eq, List.contains_iff_mem] at this
    rcases this.2.1 with ((h1 | h1) | h1) | h1
    · exact absurd hl (by simpa using h1)
    · exact .inl h1
    · exact .inr (.inl h1)
    · exact .inr (.inr h1)
  · have := key i j o p ho hp
    rw [hpd, hod] at this
    simp only [Bool.and_eq_true, Bool.or_eq_true, beq_iff_eq] at this
    rcases this.2.2 with h1 | h1
    · exact h1
    · simp at h1
theorem zdi {ops:Array Oper} (hu:Uniq ops) (vals:List SV) {j:Nat} {p:Oper} {d:Nat} (hp:ops[j]?=some p) (hd:p.dst=some d):∀i,j<i->qh (tAt ops.toList vals t i) d=(vals[j]?).getD .any
 |0,h=>by omega
 |i+1,h=>by
  simp only [tAt]
  by_cases e:j=i
  ·subst e
   have:(ops.toList[j]?).bind (·.dst)=some d:=by simp [hp,hd]
   rw [this];simp [xj,qh]
  ·rw [zmn,zdi hu vals hp hd i (by omega)]
   intro hc;cases ho:ops[i]? with
   |none=>simp [ho] at hc
   |some o=>simp [ho] at hc;exact e (hu.uniq i j o p d ho hp hc hd).symm
theorem zje {ops:Array Oper} (vals:List SV) {d:Nat}:∀i,(∀j p,j<i->ops[j]?=some p->p.dst≠some d)->qh (tAt ops.toList vals t i) d=qh t d
 |0,_=>rfl
 |i+1,h=>by
  simp only [tAt];rw [zmn,zje vals i (fun j p hj=>h j p (by omega))];intro hc;cases ho:ops[i]? with
  |none=>simp [ho] at hc
  |some o=>simp [ho] at hc;exact h i o (by omega) ho hc
structure Mid (E:En P G fn rd) (ops:Array Oper) (vals:List SV) (t:List (Nat × SV)) (H:List SObj) (listed:Array Bool) (a:Act) (w:World) (I:Imm) (β:List Bnd):Prop where
 heap:HeapOK G w I β H
 wrote:∀(j:Nat) p d,ops[j]?=some p->p.dst=some d->listed.getD j false=true->Rep w I β (a.tmps.getD d undef) ((vals[j]?).getD .any)
 old:∀d,(∀(j:Nat) p,ops[j]?=some p->p.dst=some d->listed.getD j false=false)->Rep w I β (a.tmps.getD d undef) (qh t d)
 size:a.tmps.size=fn.ntmps
 defers:Marks E.w.heap.size w β H a.defers
 ext:Ext E.H.length E.w E.I E.β E.H w I β H
 hlen:E.H.length<=H.length
 lsize:listed.size=ops.size
 closed:∀(i:Nat) o,ops[i]?=some o->listed.getD i false=true->∀j∈xt o,listed.getD j false=true
theorem zdc {ops:Array Oper} {listed:Array Bool} {i:Nat} (hl:listed.size=ops.size) (h:i∈Region.ready .any ops listed):
  ∃o,ops[i]?=some o/\listed.getD i false=false/\∀j∈xt o,listed.getD j false=true:=by
 unfold Region.ready at h;obtain ⟨h1,h2⟩:=List.mem_filter.1 h;have hi:i<ops.size:=by simpa using h1
 simp only [Bool.and_eq_true,Bool.not_eq_true'] at h2;obtain ⟨h2,h3⟩:=h2;have ho:ops[i]?=some ops[i]:=by simp [hi]
 refine ⟨ops[i],ho,?_,?_⟩
 ·have:i<listed.size:=by omega
  simp [Array.getD,this] at h2 ⊢;exact h2
 ·intro j hj
  rw [ho] at h3;simp only [Option.map_some,Option.getD_some] at h3;obtain ⟨e,he,rfl⟩:=List.mem_map.1 hj;obtain ⟨he1,he2⟩:=List.mem_filter.1 he;have:=Array.all_eq_true_iff_forall_mem.1 h3 e (by simpa using he1);simp only [he2,Bool.not_true,Bool.false_or] at this;exact this
theorem zkc {ops:Array Oper} {listed:Array Bool} (hu:Uniq ops) (hl:listed.size=ops.size) (h:Region.ready .any ops listed=[]):∀i,i<ops.size->listed.getD i false=true:=by
 intro i
 induction i using Nat.strongRecOn with
 |_ i ih=>
  intro hi
  apply Classical.byContradiction
  intro hn;have hn':listed.getD i false=false:=by simpa using hn
  have hli:i<listed.size:=by omega
  have:i∈Region.ready .any ops listed:=by
   unfold Region.ready;refine List.mem_filter.2 ⟨by simpa using hi,?_⟩;have ho:ops[i]?=some ops[i]:=by simp [hi]
   simp only [Bool.and_eq_true,Bool.not_eq_true',ho,Option.map_some,Option.getD_some];refine ⟨by simp [Array.getD,hli] at hn' ⊢;exact hn',Array.all_eq_true_iff_forall_mem.2 fun e he=>?_⟩;cases hb:Region.binds .any e with
   |false=>simp
   |true=>
    have hmem:e.on∈xt ops[i]:=List.mem_map.2 ⟨e,List.mem_filter.2 ⟨by simpa using he,hb⟩,rfl⟩;have hlt:=hu.edge i _ ho _ hmem;simp only [Bool.not_true,Bool.false_or];exact ih e.on hlt (by omega)
  rw [h] at this;cases this
theorem wq {l:Array Bool} {i:Nat} (h:i<l.size):(l.setIfInBounds i true).getD i false=true:=by simp [Array.getD,h]
theorem wd {l:Array Bool} {i j:Nat} (h:i≠j):(l.setIfInBounds i true).getD j false=l.getD j false:=by
 rw [Array.getD_eq_getD_getElem?,Array.getD_eq_getD_getElem?,Array.getElem?_setIfInBounds_ne h]
theorem Mid.operand {ops:Array Oper} {vals:List SV} {listed:Array Bool} {a:Act} {w:World} {I:Imm} {β:List Bnd} (hu:Uniq ops) (h:Mid E ops vals t H listed a w I β) {i:Nat} {o:Oper} (ho:ops[i]?=some o)
  (hn:listed.getD i false=false) (hb:∀j∈xt o,listed.getD j false=true) {d:Nat} (hd:d∈o.looksAt ops):Rep w I β (a.tmps.getD d undef) (qh (tAt ops.toList vals t i) d):=by
 by_cases hw:∃(j:Nat) (p:Oper),ops[j]?=some p/\p.dst=some d
 ·obtain ⟨j,p,hp,hpd⟩:=hw
  have only:∀(j':Nat) p',ops[j']?=some p'->p'.dst=some d->j'=j:=fun j' p' h1 h2=>hu.uniq j' j p' p d h1 hp h2 hpd
  rcases hu.dep i j o p d ho hp hpd hd with e|⟨hlt,hm⟩|⟨hlt,hm⟩
  ·subst e
   rw [zje vals i (fun j' p' hj' h1 h2=>by have:=only j' p' h1 h2;omega)];exact h.old d (fun j' p' h1 h2=>by rw [only j' p' h1 h2];exact hn)
  ·rw [zdi hu vals hp hpd i hlt]
   exact h.wrote j p d hp hpd (hb j hm)
  ·rw [zje vals i (fun j' p' hj' h1 h2=>by have:=only j' p' h1 h2;omega)]
   refine h.old d (fun j' p' h1 h2=>?_);rw [only j' p' h1 h2];cases hx:listed.getD j false with
   |false=>rfl
   |true=>have:=h.closed j p hp hx i hm;rw [hn] at this;cases this
 ·have no:∀(j:Nat) p,ops[j]?=some p->p.dst≠some d:=fun j p h1 h2=>hw ⟨j,p,h1,h2⟩
  rw [zje vals i (fun j p _ h1=>no j p h1)];exact h.old d (fun j p h1 h2=>absurd h2 (no j p h1))
theorem Mid.put {ops:Array Oper} {vals:List SV} {listed:Array Bool} {a:Act} {w w':World} {I I':Imm} {β β':List Bnd} (hu:Uniq ops) (h:Mid E ops vals t H listed a w I β) {i:Nat} {o:Oper} (ho:ops[i]?=some o)
  (hb:∀j∈xt o,listed.getD j false=true) (hd:yb fn.ntmps o.dst=true) {v:Value} {s:SV} (hs:vals[i]?=some s)
  (hv:Rep w' I' β' v s) (hH:HeapOK G w' I' β' H) (he:Ext H.length w I β H w' I' β' H):Mid E ops vals t H (listed.setIfInBounds i true) (a.put o.dst v) w' I' β':=by
 have hi:i<listed.size:=by
  rw [h.lsize];rcases Nat.lt_or_ge i ops.size with h'|h'
  ·exact h'
  ·simp [Array.getElem?_eq_none h'] at ho
 have hsz:(a.put o.dst v).tmps.size=fn.ntmps:=by cases o.dst<;>simp [Act.put,h.size]
 have same:∀d,o.dst≠some d->(a.put o.dst v).tmps.getD d undef=a.tmps.getD d undef:=by
  intro d hne;cases hod:o.dst with
  |none=>rfl
  |some m=>
   simp only [Act.put];rw [Array.getD_eq_getD_getElem?,Array.getD_eq_getD_getElem?,Array.getElem?_setIfInBounds_ne (fun e=>hne (by rw [hod,e]))]
 have mine:∀d,o.dst=some d->(a.put o.dst v).tmps.getD d undef=v:=by
  intro d hod;rw [hod] at hd ⊢;have:d<a.tmps.size:=by rw [h.size];simpa [yb] using hd
  simp [Act.put,Array.getD,this]
 refine ⟨hH,fun j p d hp hpd hl=>?_,fun d hno=>?_,hsz,by cases o.dst<;>exact h.defers.ext he,h.ext.trans (he.weaken h.hlen),h.hlen,by simp [h.lsize],fun j p hp hl j' hj'=>?_⟩
 ·by_cases e:i=j
  ·subst e
   rw [ho] at hp;cases hp;rw [mine d hpd,hs];exact hv
  ·rw [wd e] at hl
   rw [same d (fun hod=>e (hu.uniq i j o p d ho hp hod hpd))];exact (h.wrote j p d hp hpd hl).ext (by rw [h.heap.len];exact he)
 ·have hne:o.dst≠some d:=fun hod=>by have:=hno i o ho hod;rw [wq hi] at this;cases this
  rw [same d hne];refine (h.old d (fun j p hp hpd=>?_)).ext (by rw [h.heap.len];exact he);have:=hno j p hp hpd
  by_cases e:i=j
  ·subst e;rw [wq hi] at this;cases this
  ·rwa [wd e] at this
 ·by_cases e:i=j
  ·subst e
   rw [ho] at hp;cases hp;have:=hb j' hj'
   by_cases e':i=j'
   ·subst e';exact wq hi
   ·rw [wd e'];exact this
  ·rw [wd e] at hl
   have:=h.closed j p hp hl j' hj'
   by_cases e':i=j'
   ·subst e';exact wq hi
   ·rw [wd e'];exact this
theorem Mid.eval {ops:Array Oper} {vals:List SV} {listed:Array Bool} {a:Act} {w:World} {I:Imm} {β:List Bnd} (hu:Uniq ops) (h:Mid E ops vals t H listed a w I β) {i:Nat} {o:Oper} (ho:ops[i]?=some o)
  (hn:listed.getD i false=false) (hb:∀j∈xt o,listed.getD j false=true) (x:Operand) (hx:x∈o.op.operands):Rep w I β (a.eval x) (zl G (tAt ops.toList vals t i) x):=by
 cases x with
 |tmp n=>
  refine h.operand hu ho hn hb ?_;unfold Oper.looksAt;exact List.mem_append_left _ (List.mem_filterMap.2 ⟨.tmp n,by simpa using hx,rfl⟩)
 |const v=>exact zgj ..
 |global g=>exact yej h.heap g
 |func f=>exact .fn _ #[] #[] [] [] rfl rfl (fun j h=>by simp at h) (fun j h=>by simp at h)
theorem Mid.want {ops:Array Oper} {vals:List SV} {listed:Array Bool} {a:Act} {w:World} {I:Imm} {β:List Bnd} (hu:Uniq ops) (h:Mid E ops vals t H listed a w I β) {i:Nat} {o:Oper} (ho:ops[i]?=some o)
  (hn:listed.getD i false=false) (hb:∀j∈xt o,listed.getD j false=true) {c:Bool} (hw:zu ops (tAt ops.toList vals t i) o.guard=some c):Region.wanted o (yielded ops a.tmps)=c:=by
 unfold Region.wanted;cases hg:o.guard with
 |none=>rw [hg] at hw;simp [zu] at hw;simp [hw]
 |some x=>
  obtain ⟨j,want⟩:=x;rw [hg] at hw;simp only [zu] at hw;split at hw<;>first|(cases hw;done)|skip
  rename_i d hd
  have key:∀v:Value,qh (tAt ops.toList vals t i) d= .imm (.val v)->a.tmps.getD d undef=v:=by
   intro v hv
   have hr:=h.operand hu ho hn hb (d:=d) (by
    unfold Oper.looksAt;refine List.mem_append_right _ ?_
    rw [hg];simp [hd])
   rw [hv] at hr;generalize a.tmps.getD d undef=u at hr;cases hr with|imm hr=>
   cases hr with|val _=>rfl
  split at hw<;>first|(cases hw;done)|skip
  ·rename_i b hbv
   have hc:c=(b==want):=by cases want<;>cases b<;>simp_all
   subst hc;have hv:=key _ hbv;have hv':a.tmps[d]?=some (.bool b):=by
    cases hx:a.tmps[d]? with
    |none=>rw [Array.getD_eq_getD_getElem?,hx] at hv;simp [undef] at hv
    |some y=>rw [Array.getD_eq_getD_getElem?,hx] at hv;simpa using hv
   simp [yielded,hd,hv']
  ·rename_i vs hbv
   cases hw;have hv:=key _ hbv;cases hx:a.tmps[d]? with
   |none=>simp [yielded,hd,hx]
   |some y=>
    rw [Array.getD_eq_getD_getElem?,hx] at hv;simp at hv;subst hv;simp [yielded,hd,hx]
def qp (l:Array Bool):Nat:=l.toList.countP (fun b=> !b)
theorem ji {l:Array Bool} {i:Nat} (hi:i<l.size) (h:l.getD i false=false):qp (l.setIfInBounds i true)+1=qp l:=by
 unfold qp;have hi':i<l.toList.length:=by simpa using hi
 have hv:l.toList[i]=false:=by simpa [Array.getD,hi] using h
 have hpos:0<l.toList.countP (fun b=> !b):=List.countP_pos_iff.2 ⟨false,hv ▸ List.getElem_mem hi',rfl⟩;rw [Array.toList_setIfInBounds,List.countP_set hi',if_pos (by simp [hv]),if_neg (by simp)];omega
theorem yub {ops:Array Oper} {vals:List SV} (hu:Uniq ops) (hvals:∀(i:Nat) o,ops[i]?=some o->∃v,vals[i]?=some v/\Val P G fn.ntmps ops H o (tAt ops.toList vals t i) v):
  ∀(fuel:Nat) (listed:Array Bool) (a:Act) (w:World) (I:Imm) (β:List Bnd),Mid E ops vals t H listed a w I β->qp listed<=fuel->
   wpAny P .any ops (fun e a' w'=>e= .normal/\∃I' β',Sim E (tAt ops.toList vals t ops.size) H a' w' I' β') fuel listed a w:=by
 have fin:∀(listed:Array Bool) (a:Act) (w:World) (I:Imm) (β:List Bnd),Mid E ops vals t H listed a w I β->(∀i,i<ops.size->listed.getD i false=true)->Sim E (tAt ops.toList vals t ops.size) H a w I β:=by
  intro listed a w I β h hall;refine ⟨h.heap,fun d=>?_,h.size,h.defers,h.ext,h.hlen⟩;have lt:∀(j:Nat) p,ops[j]?=some p->j<ops.size:=fun j p hp=>by
   rcases Nat.lt_or_ge j ops.size with h'|h'
   ·exact h'
   ·simp [Array.getElem?_eq_none h'] at hp
  by_cases hw:∃(j:Nat) (p:Oper),ops[j]?=some p/\p.dst=some d
  ·obtain ⟨j,p,hp,hpd⟩:=hw
   rw [zdi hu vals hp hpd _ (lt j p hp)];exact h.wrote j p d hp hpd (hall j (lt j p hp))
  ·rw [zje vals _ (fun j p _ hp hpd=>hw ⟨j,p,hp,hpd⟩)]
   exact h.old d (fun j p hp hpd=>absurd ⟨j,p,hp,hpd⟩ hw)
 intro fuel
 induction fuel with
 |zero=>
  intro listed a w I β h hf;have hall:∀i,i<ops.size->listed.getD i false=true:=by
   intro i hi;have hli:i<listed.size:=by rw [h.lsize];exact hi
   cases hx:listed.getD i false with
   |true=>rfl
   |false=>have:=ji hli hx;omega
  refine ⟨?_,rfl,I,β,fin listed a w I β h hall⟩;cases hr:Region.ready .any ops listed with
  |nil=>rfl
  |cons x l=>
   exfalso
   obtain ⟨o,ho,hn,_⟩:=zdc h.lsize (i:=x) (by rw [hr];simp);have:x<ops.size:=by
    rcases Nat.lt_or_ge x ops.size with h'|h'
    ·exact h'
    ·simp [Array.getElem?_eq_none h'] at ho
   rw [hall x this] at hn;cases hn
 |succ fuel ih=>
  intro listed a w I β h hf;refine ⟨fun hr=>⟨rfl,I,β,fin listed a w I β h (zkc hu h.lsize hr)⟩,fun i hi=>?_⟩;obtain ⟨o,ho,hn,hb⟩:=zdc h.lsize hi;obtain ⟨s,hs,hval⟩:=hvals i o ho;have hil:i<listed.size:=by
   rw [h.lsize];rcases Nat.lt_or_ge i ops.size with h'|h'
   ·exact h'
   ·simp [Array.getElem?_eq_none h'] at ho
  have hcount:=ji hil hn;have next:∀(v:Value) (w':World) (I':Imm) (β':List Bnd),Rep w' I' β' v s->HeapOK G w' I' β' H->Ext H.length w I β H w' I' β' H->
    wpAny P .any ops (fun e a' w'=>e= .normal/\∃I' β',Sim E (tAt ops.toList vals t ops.size) H a' w' I' β') fuel (listed.setIfInBounds i true) (a.put o.dst v) w':=
   fun v w' I' β' h1 h2 h3=>ih _ _ _ I' β' (h.put hu ho hb hval.dst hs h1 h2 h3) (by omega)
  unfold wpOp;rw [ho];simp only;rcases hval.how with ⟨hw,rfl⟩|⟨hw,hop|hcall⟩
  ·rw [h.want hu ho hn hb hw]
   exact next undef w I β (.imm (.val _)) h.heap .refl
  ·rw [h.want hu ho hn hb hw]
   simp only [if_true]
   left
   classical
   have hop':sop P o.op (fun x=>if x∈o.op.operands then zl G (tAt ops.toList vals t i) x else .any) H=some (s,H):=by
    rw [<-hop];exact zgr fun x hx=>by simp [hx]
   obtain ⟨n,v,w',I',β',h1,h2,h3,h4,h5⟩:=zlp (o:=o) (ρ:=a.eval) hop' h.heap (fun x=>by
    split
    ·rename_i hx;exact h.eval hu ho hn hb x hx
    ·exact .any _)
   unfold Oper.wp;rw [h1];rcases h2 with rfl|⟨rfl,rfl⟩
   ·exact next v w' I' β' h3 h4 h5
   ·exact next undef w' I' β' h3 h4 h5
  ·obtain ⟨fx,args,tys,f,first,captured,hopc,hfx,hbody,hpure⟩:=hcall
   rw [h.want hu ho hn hb hw];simp only [if_true]
   left
   have hmem:∀x∈args,x∈o.op.operands:=fun x hx=>by rw [hopc];simp [Op.operands,Call.operands,hx]
   have hfr:=h.eval hu ho hn hb fx (by rw [hopc];simp [Op.operands,Call.operands]);rw [hfx] at hfr;generalize hfv:a.eval fx=fv at hfr;cases hfr with
   |fn _ fs cps _ _ l1 l2 r1 r2=>
   have hrun:(execOp a.eval o).run P w= .ok (.enter f (fs++args.map a.eval++cps)) w:=by
    obtain ⟨dst,op,type,pos,after,guard⟩:=o;simp only at hopc;subst hopc;simp only [execOp,resolve,hfv,Deferred.ofValue,Sem.run_bind,Sem.run_pure,Result.andThen_ok,invoke];exact jh hbody
   have hreps:Reps w I β (fs++args.map a.eval++cps).toList (first++args.toList.map (zl G (tAt ops.toList vals t i))++captured):=by
    have e1:Reps w I β fs.toList first:=.of_get l1 r1
    have e2:Reps w I β (args.map a.eval).toList (args.toList.map (zl G (tAt ops.toList vals t i))):=by
     have:∀l:List Operand,(∀x∈l,x∈args.toList)->Reps w I β (l.map a.eval) (l.map (zl G (tAt ops.toList vals t i))):=by
      intro l
      induction l with
      |nil=>intro _;exact .nil
      |cons x l ihl=>intro hl;exact .cons (h.eval hu ho hn hb x (hmem x (by simpa using hl x (by simp)))) (ihl fun y hy=>hl y (by simp [hy]))
     simpa using this args.toList (fun _ h=>h)
    have e3:Reps w I β cps.toList captured:=.of_get l2 r2;simpa using (e1.append e2).append e3
   unfold Oper.wp;rw [hrun];refine (hpure w I β _ h.heap hreps).mono ?_;rintro e w' ⟨v,r',I',β',H',rfl,⟨rfl,rfl⟩,h1,h2,h3⟩;exact next v w' I' β' h1 h2 h3
theorem zxj {ops:Array Oper} (hnd:∀(i:Nat) o,ops[i]?=some o->∀c,o.op≠ .defer c) {R:Act->World->Prop} {b:Frame} {ro:Option Nat} {cs:List Frame}:
  ∀(order:List Nat) (a:Act) (w:World),wpOps P ops (fun e a' w'=>e= .normal/\R a' w') order a w->
   ∃a' w',R a' w'/\Steps P (lone (atR b ro a (.inRegion ops order::k)) cs w) (lone (atR b ro a' k) cs w'):=by
 intro order
 induction order with
 |nil=>intro a w h;exact ⟨a,w,h.2,.one zgd⟩
 |cons i rest ih=>
  intro a w h;have go:∀a1 w1,step P (lone (atR b ro a (.inRegion ops (i::rest)::k)) cs w)= .next (lone (atR b ro a1 (.inRegion ops rest::k)) cs w1)->wpOps P ops (fun e a' w'=>e= .normal/\R a' w') rest a1 w1->
    ∃a' w',R a' w'/\Steps P (lone (atR b ro a (.inRegion ops (i::rest)::k)) cs w) (lone (atR b ro a' k) cs w'):=by
   intro a1 w1 h1 h2;obtain ⟨a',w',h3,h4⟩:=ih a1 w1 h2;exact ⟨a',w',h3,.head h1 h4⟩
  cases ho:ops[i]? with
  |none=>
   simp only [wpOps,ho] at h;refine go a w ?_ h;have:=jn (P:=P) (b:=b) (ro:=ro) (a:=a) (k:=k) (cs:=cs) (w:=w) (ops:=ops) (i:=i) (rest:=rest) (by simp [ho]);simpa [ho,Act.put] using this
  |some o=>
   simp only [wpOps,ho] at h
   by_cases hw:Region.wanted o (yielded ops a.tmps)=true
   ·rw [if_pos hw] at h
    have hg:=jt (P:=P) (b:=b) (ro:=ro) (k:=k) (cs:=cs) (w:=w) (rest:=rest) ho hw (.inr (hnd i o ho));have qr:∀v,(atR b ro a (.inRegion ops (i::rest)::k)).finish v=atR b ro (a.put o.dst v) (.inRegion ops rest::k):=fun v=>by rw [qm,ho];rfl
    rcases h with h|⟨_,a0,w0,h0,_⟩
    ·unfold Oper.wp at h
     generalize hres:(execOp a.eval o).run P w=res at h;cases res with
     |halt x w'=>cases x<;>simp [Oper.upon] at h
     |ok n w'=>
      cases n<;>simp only [Oper.upon] at h<;>first|(exact h.elim)|skip
      case value v=>exact go _ _ (step_lone_go (by rw [hg, <-qr];simp [stepG.apply,hres])) h
      case skip=>exact go _ _ (step_lone_go (by rw [hg, <-qr];simp [stepG.apply,hres])) h
      case defer d=>
       have hfd:({atR b ro a (.inRegion ops (i::rest)::k) with defers:=d::a.defers}:Frame).finish undef=atR b ro ({a with defers:=d::a.defers}.put o.dst undef) (.inRegion ops rest::k):=by
        cases hd:o.dst<;>simp [Frame.finish,atR,Frame.at,Act.put,ho,hd]
       exact go _ _ (step_lone_go (by rw [hg, <-hfd];simp [stepG.apply,hres,atR,Frame.at])) h
      case enter f args=>
       obtain ⟨e,w2,fr,h1,h2,h3,h4⟩:=h (atR b ro a (.inRegion ops (i::rest)::k)::cs);cases e with
       |panicked ch=>cases h1.1
       |outgrown=>obtain ⟨_,_,h5,_⟩:=h1;cases h5
       |returned v=>
        obtain ⟨a',w3,h5,h6⟩:=ih _ _ h1;have henter:step P (lone (atR b ro a (.inRegion ops (i::rest)::k)) cs w)= .next (lone (Frame.enter P f args .normal) (atR b ro a (.inRegion ops (i::rest)::k)::cs) w'):=
         step_lone_go (by rw [hg];simp [stepG.apply,hres,atR,Frame.at])
        refine ⟨a',w3,h5,.head henter (Steps.trans h2 (.head ?_ h6))⟩;rw [<-qr];exact step_leave_returned h4
      case row row args=>
       obtain ⟨v,w2,h1,h2⟩:=h (atR b ro a (.inRegion ops (i::rest)::k)) cs;obtain ⟨a',w3,h5,h6⟩:=ih _ _ h1;have henter:step P (lone (atR b ro a (.inRegion ops (i::rest)::k)) cs w)= .next (lone (Frame.ofRow P row args .normal) (atR b ro a (.inRegion ops (i::rest)::k)::cs) w'):=
        step_lone_go (by rw [hg];simp [stepG.apply,hres,atR,Frame.at])
       rw [qr] at h2;exact ⟨a',w3,h5,.head henter (Steps.trans h2 h6)⟩
    ·cases h0
   ·rw [if_neg hw] at h
    have:=jn (P:=P) (b:=b) (ro:=ro) (a:=a) (k:=k) (cs:=cs) (w:=w) (ops:=ops) (i:=i) (rest:=rest) (by simpa [ho] using hw);simp only [ho,Option.bind_some] at this;exact go _ _ this h
theorem ypz {id:Nat} {all:Array Oper} {t':List (Nat × SV)} (hm:P.follows .mixedOrders=true) (hdep:zve all=true) (hd:Draws P G fn.ntmps all H all.toList t t') (h:SW E k t' H):
  SW E (.code (.region id all true)::k) t H:=by
 obtain ⟨vals,hl,rfl,hvals⟩:=zsw hd;have hu:=zvf hdep;refine ⟨fun a w I β cs hs=>?_⟩;have hH:HeapOK G {w with drawn:=w.drawn+1} I β H:=hs.heap.grow (fun _ _=>rfl) (fun _ _ h=>h) (fun _ _ h=>.inl h) hs.heap.inI;have hE:Ext H.length w I β H {w with drawn:=w.drawn+1} I β H:=.grow hs.heap (fun _ _=>rfl) (Nat.le_refl _) (fun _ _ h=>h) (fun _ _ h=>.inl h);have mid:Mid E all vals t H (Array.replicate all.size false) a {w with drawn:=w.drawn+1} I β:=by
  have none:∀j,(Array.replicate all.size false).getD j false=false:=fun j=>by
   rw [Array.getD_eq_getD_getElem?,Array.getElem?_replicate];split<;>rfl
  refine ⟨hH,fun j p d _ _ hl=>?_,fun d _=>(hs.tmps d).ext (by rw [hs.heap.len];exact hE),hs.size,hs.defers.ext hE,hs.ext.trans (hE.weaken hs.hlen),hs.hlen,by simp,fun i o _ hl=>?_⟩
  ·rw [none] at hl;cases hl
  ·rw [none] at hl;cases hl
 have hcnt:qp (Array.replicate all.size false)<=all.size:=by
  unfold qp;exact Nat.le_trans List.countP_le_length (by simp)
 have hany:=yub hu (fun i o ho=>hvals i o (by simpa using ho)) all.size _ a _ I β mid hcnt;have hops:=wpAny_sound (md:=.any) all.size (w.tape w.drawn (.order E.base.fn id)) _ a _ hany;obtain ⟨a',w',⟨I',β',hsim⟩,harr⟩:=zxj (b:=E.base) (ro:=E.ro) (k:=k) (cs:=cs) (zhu hdep) _ a _ hops;refine .of_steps (.head zan ?_) (h.run a' w' I' β' cs ?_)
 ·simp only [Region.schedule,hm,Bool.true_or,if_true]
  exact harr
 ·simpa using hsim
def zge (ops:Array Oper) (m:Nat):Bool:=ops.toList.zipIdx.all fun (o,i)=>decide (i<=m)||(xt o).any (fun j=>decide (m<=j))
theorem zxk {ops:Array Oper} {m i:Nat} {o:Oper} (h:zge ops m=true) (ho:ops[i]?=some o) (hi:m<i):∃j∈xt o,m<=j:=by
 unfold zge at h;have:=List.all_eq_true.1 h (o,i) (by rw [List.mem_zipIdx_iff_getElem?];simpa using ho);simp only [Bool.or_eq_true,decide_eq_true_eq,List.any_eq_true] at this;rcases this with h'|h'
 ·omega
 ·exact h'
def zkd (P:Program) (G:List (Nat × D)) (o:Oper) (t:List (Nat × SV)) (H:List SObj) (KP:List PanicEntry->List SObj->Prop) (all:Array Oper):Prop:=
 zu all t o.guard=some true/\∃fx args tys f first captured,o.op= .call ⟨.value fx,args,tys⟩/\zl G t fx= .fn (.func f) first captured/\wk P f=true/\
  SCallP P G f (first++args.toList.map (zl G t)++captured) H (fun _ _=>False) (fun ch H'=>H.length<=H'.length/\KP ch H')
def yzk (E:En P G fn rd) (a:Act) (w:World) (ch:List PanicEntry):Prop:=∃I β H t,Sim E t H a w I β/\E.KP ch H
theorem yqa {ops:Array Oper} {vals:List SV} {m:Nat} {om:Oper} (hu:Uniq ops) (hm:ops[m]?=some om) (htail:zge ops m=true) (hvals:∀(i:Nat) o,i<m->ops[i]?=some o->∃v,vals[i]?=some v/\Val P G fn.ntmps ops H o (tAt ops.toList vals t i) v)
  (hdie:zkd P G om (tAt ops.toList vals t m) H E.KP ops):
  ∀(fuel:Nat) (listed:Array Bool) (a:Act) (w:World) (I:Imm) (β:List Bnd),Mid E ops vals t H listed a w I β->(∀j,m<=j->listed.getD j false=false)->qp listed<=fuel->
   wpAny P .any ops (fun e a' w'=>∃ch,e= .panic ch/\yzk E a' w' ch) fuel listed a w:=by
 have hmlt:m<ops.size:=by
  rcases Nat.lt_or_ge m ops.size with h'|h'
  ·exact h'
  ·simp [Array.getElem?_eq_none h'] at hm
 have callrun:∀{listed:Array Bool} {a:Act} {w:World} {I:Imm} {β:List Bnd} {i:Nat} {o:Oper} {fx:Operand} {args:Array Operand} {tys:Array TypeId} {f:FuncId} {first captured:List SV},Mid E ops vals t H listed a w I β->ops[i]?=some o->
   listed.getD i false=false->(∀j∈xt o,listed.getD j false=true)->o.op= .call ⟨.value fx,args,tys⟩->zl G (tAt ops.toList vals t i) fx= .fn (.func f) first captured->wk P f=true->
   ∃vs:Array Value,(execOp a.eval o).run P w= .ok (.enter f vs) w/\Reps w I β vs.toList (first++args.toList.map (zl G (tAt ops.toList vals t i))++captured):=by
  intro listed a w I β i o fx args tys f first captured h ho hn hb hopc hfx hbody
  have hmem:∀x∈args,x∈o.op.operands:=fun x hx=>by rw [hopc];simp [Op.operands,Call.operands,hx]
  have hfr:=h.eval hu ho hn hb fx (by rw [hopc];simp [Op.operands,Call.operands]);rw [hfx] at hfr;generalize hfv:a.eval fx=fv at hfr;cases hfr with
  |fn _ fs cps _ _ l1 l2 r1 r2=>
  have hrun:(execOp a.eval o).run P w= .ok (.enter f (fs++args.map a.eval++cps)) w:=by
   obtain ⟨dst,op,type,pos,after,guard⟩:=o;simp only at hopc;subst hopc;simp only [execOp,resolve,hfv,Deferred.ofValue,Sem.run_bind,Sem.run_pure,Result.andThen_ok,invoke];exact jh hbody
  refine ⟨_,hrun,?_⟩;have e1:Reps w I β fs.toList first:=.of_get l1 r1
  have e2:Reps w I β (args.map a.eval).toList (args.toList.map (zl G (tAt ops.toList vals t i))):=by
   have:∀l:List Operand,(∀x∈l,x∈args.toList)->Reps w I β (l.map a.eval) (l.map (zl G (tAt ops.toList vals t i))):=by
    intro l
    induction l with
    |nil=>intro _;exact .nil
    |cons x l ihl=>intro hl;exact .cons (h.eval hu ho hn hb x (hmem x (by simpa using hl x (by simp)))) (ihl fun y hy=>hl y (by simp [hy]))
   simpa using this args.toList (fun _ h=>h)
  have e3:Reps w I β cps.toList captured:=.of_get l2 r2;simpa using (e1.append e2).append e3
 intro fuel
 induction fuel with
 |zero=>
  intro listed a w I β h hnl hf
  exfalso
  have:=ji (l:=listed) (i:=m) (by rw [h.lsize];exact hmlt) (hnl m (Nat.le_refl _));omega
 |succ fuel ih=>
  intro listed a w I β h hnl hf;refine ⟨fun hr=>?_,fun i hi=>?_⟩
  ·have:=zkc hu h.lsize hr m hmlt
   rw [hnl m (Nat.le_refl _)] at this;cases this
  obtain ⟨o,ho,hn,hb⟩:=zdc h.lsize hi;have him:i<=m:=by
   rcases Nat.lt_or_ge m i with h'|h'
   ·obtain ⟨j,hj,hmj⟩:=zxk htail ho h'
    have:=hb j hj;rw [hnl j hmj] at this;cases this
   ·exact h'
  have hil:i<listed.size:=by rw [h.lsize];omega
  have hcount:=ji hil hn;unfold wpOp;rw [ho];simp only;rcases Nat.lt_or_eq_of_le him with hlt|rfl
  ·obtain ⟨s,hs,hval⟩:=hvals i o hlt ho
   have next:∀(v:Value) (w':World) (I':Imm) (β':List Bnd),Rep w' I' β' v s->HeapOK G w' I' β' H->Ext H.length w I β H w' I' β' H->
     wpAny P .any ops (fun e a' w'=>∃ch,e= .panic ch/\yzk E a' w' ch) fuel (listed.setIfInBounds i true) (a.put o.dst v) w':=
    fun v w' I' β' h1 h2 h3=>ih _ _ _ I' β' (h.put hu ho hb hval.dst hs h1 h2 h3) (fun j hj=>by rw [wd (by omega)];exact hnl j hj) (by omega)
   rcases hval.how with ⟨hw,rfl⟩|⟨hw,hop|hcall⟩
   ·rw [h.want hu ho hn hb hw]
    exact next undef w I β (.imm (.val _)) h.heap .refl
   ·rw [h.want hu ho hn hb hw]
    simp only [if_true]
    left
    classical
    have hop':sop P o.op (fun x=>if x∈o.op.operands then zl G (tAt ops.toList vals t i) x else .any) H=some (s,H):=by
     rw [<-hop];exact zgr fun x hx=>by simp [hx]
    obtain ⟨n,v,w',I',β',h1,h2,h3,h4,h5⟩:=zlp (o:=o) (ρ:=a.eval) hop' h.heap (fun x=>by
     split
     ·rename_i hx;exact h.eval hu ho hn hb x hx
     ·exact .any _)
    unfold Oper.wp;rw [h1];rcases h2 with rfl|⟨rfl,rfl⟩
    ·exact next v w' I' β' h3 h4 h5
    ·exact next undef w' I' β' h3 h4 h5
   ·obtain ⟨fx,args,tys,f,first,captured,hopc,hfx,hbody,hpure⟩:=hcall
    rw [h.want hu ho hn hb hw];simp only [if_true]
    left
    obtain ⟨vs,hrun,hreps⟩:=callrun h ho hn hb hopc hfx hbody;unfold Oper.wp;rw [hrun];refine (hpure w I β _ h.heap hreps).mono ?_;rintro e w' ⟨v,r',I',β',H',rfl,⟨rfl,rfl⟩,h1,h2,h3⟩;exact next v w' I' β' h1 h2 h3
  ·rw [ho] at hm
   obtain rfl:o=om:=by injection hm
   obtain ⟨hw,fx,args,tys,f,first,captured,hopc,hfx,hbody,hd⟩:=hdie;rw [h.want hu ho hn hb hw];simp only [if_true]
   left
   obtain ⟨vs,hrun,hreps⟩:=callrun h ho hn hb hopc hfx hbody;unfold Oper.wp;rw [hrun];refine (hd w I β _ h.heap hreps).mono ?_;rintro e w' (⟨v,r',I',β',H',rfl,hF,_⟩|⟨ch,I',β',H',rfl,⟨hl,hKP⟩,h2,h3⟩)
   ·exact hF.elim
   ·exact ⟨ch,rfl,I',β',H',[],⟨h2,fun _=>.any _,h.size,h.defers.ext h3,h.ext.trans (h3.weaken h.hlen),Nat.le_trans h.hlen hl⟩,hKP⟩
theorem yhl {ops:Array Oper} (hnd:∀(i:Nat) o,ops[i]?=some o->∀c,o.op≠ .defer c) {R:Act->World->List PanicEntry->Prop} {b:Frame} {ro:Option Nat} {cs:List Frame}:
  ∀(order:List Nat) (a:Act) (w:World),wpOps P ops (fun e a' w'=>∃ch,e= .panic ch/\R a' w' ch) order a w->
   ∃a' w' ch X,R a' w' ch/\Steps P (lone (atR b ro a (.inRegion ops order::k)) cs w) (lone ((atR b ro a' X).raise ch) cs w'):=by
 intro order
 induction order with
 |nil=>intro a w h;obtain ⟨ch,h,_⟩:=h;cases h
 |cons i rest ih=>
  intro a w h;have go:∀a1 w1,step P (lone (atR b ro a (.inRegion ops (i::rest)::k)) cs w)= .next (lone (atR b ro a1 (.inRegion ops rest::k)) cs w1)->wpOps P ops (fun e a' w'=>∃ch,e= .panic ch/\R a' w' ch) rest a1 w1->
    ∃a' w' ch X,R a' w' ch/\Steps P (lone (atR b ro a (.inRegion ops (i::rest)::k)) cs w) (lone ((atR b ro a' X).raise ch) cs w'):=by
   intro a1 w1 h1 h2;obtain ⟨a',w',ch,X,h3,h4⟩:=ih a1 w1 h2;exact ⟨a',w',ch,X,h3,.head h1 h4⟩
  cases ho:ops[i]? with
  |none=>
   simp only [wpOps,ho] at h;refine go a w ?_ h;have:=jn (P:=P) (b:=b) (ro:=ro) (a:=a) (k:=k) (cs:=cs) (w:=w) (ops:=ops) (i:=i) (rest:=rest) (by simp [ho]);simpa [ho,Act.put] using this
  |some o=>
   simp only [wpOps,ho] at h
   by_cases hw:Region.wanted o (yielded ops a.tmps)=true
   ·rw [if_pos hw] at h
    have hg:=jt (P:=P) (b:=b) (ro:=ro) (k:=k) (cs:=cs) (w:=w) (rest:=rest) ho hw (.inr (hnd i o ho));have qr:∀v,(atR b ro a (.inRegion ops (i::rest)::k)).finish v=atR b ro (a.put o.dst v) (.inRegion ops rest::k):=fun v=>by rw [qm,ho];rfl
    rcases h with h|⟨_,a0,w0,h0,h1,_⟩
    ·unfold Oper.wp at h
     generalize hres:(execOp a.eval o).run P w=res at h;cases res with
     |halt x w'=>
      cases x<;>simp only [Oper.upon] at h<;>first|(exact h.elim)|skip
      case panic v=>
       obtain ⟨ch,e1,h1⟩:=h;cases e1;exact ⟨a,w',_,.inRegion ops (i::rest)::k,h1,.one (step_lone_go (by rw [hg];simp [stepG.apply,hres]))⟩
     |ok n w'=>
      cases n<;>simp only [Oper.upon] at h<;>first|(exact h.elim)|skip
      case value v=>exact go _ _ (step_lone_go (by rw [hg, <-qr];simp [stepG.apply,hres])) h
      case skip=>exact go _ _ (step_lone_go (by rw [hg, <-qr];simp [stepG.apply,hres])) h
      case defer d=>
       have hfd:({atR b ro a (.inRegion ops (i::rest)::k) with defers:=d::a.defers}:Frame).finish undef=atR b ro ({a with defers:=d::a.defers}.put o.dst undef) (.inRegion ops rest::k):=by
        cases hd:o.dst<;>simp [Frame.finish,atR,Frame.at,Act.put,ho,hd]
       exact go _ _ (step_lone_go (by rw [hg, <-hfd];simp [stepG.apply,hres,atR,Frame.at])) h
      case enter f args=>
       obtain ⟨e,w2,fr,h1,h2,h3,h4⟩:=h (atR b ro a (.inRegion ops (i::rest)::k)::cs);have henter:step P (lone (atR b ro a (.inRegion ops (i::rest)::k)) cs w)= .next (lone (Frame.enter P f args .normal) (atR b ro a (.inRegion ops (i::rest)::k)::cs) w'):=
        step_lone_go (by rw [hg];simp [stepG.apply,hres,atR,Frame.at])
       cases e with
       |panicked ch=>
        obtain ⟨ch',e1,h1⟩:=h1;cases e1;exact ⟨a,w2,_,_,h1,.head henter (Steps.trans h2 (.one (step_leave_panicked h4)))⟩
       |outgrown=>obtain ⟨_,_,_,h5,_⟩:=h1;cases h5
       |returned v=>
        obtain ⟨a',w3,ch,X,h5,h6⟩:=ih _ _ h1;refine ⟨a',w3,ch,X,h5,.head henter (Steps.trans h2 (.head ?_ h6))⟩;rw [<-qr];exact step_leave_returned h4
      case row row args=>
       obtain ⟨v,w2,h1,h2⟩:=h (atR b ro a (.inRegion ops (i::rest)::k)) cs;obtain ⟨a',w3,ch,X,h5,h6⟩:=ih _ _ h1;have henter:step P (lone (atR b ro a (.inRegion ops (i::rest)::k)) cs w)= .next (lone (Frame.ofRow P row args .normal) (atR b ro a (.inRegion ops (i::rest)::k)::cs) w'):=
        step_lone_go (by rw [hg];simp [stepG.apply,hres,atR,Frame.at])
       rw [qr] at h2;exact ⟨a',w3,ch,X,h5,.head henter (Steps.trans h2 h6)⟩
    ·cases h1
   ·rw [if_neg hw] at h
    have:=jn (P:=P) (b:=b) (ro:=ro) (a:=a) (k:=k) (cs:=cs) (w:=w) (ops:=ops) (i:=i) (rest:=rest) (by simpa [ho] using hw);simp only [ho,Option.bind_some] at this;exact go _ _ this h
inductive DrawsDie (P:Program) (G:List (Nat × D)) (N:Nat) (all:Array Oper) (H:List SObj) (KP:List PanicEntry->List SObj->Prop):List Oper->List (Nat × SV)->Prop
 |skip {o:Oper} {rest:List Oper} {t:List (Nat × SV)}:zu all t o.guard=some false->yb N o.dst=true->DrawsDie P G N all H KP rest (xj t o.dst sU)->DrawsDie P G N all H KP (o::rest) t
 |op {o:Oper} {rest:List Oper} {t:List (Nat × SV)} {r:SV}:zu all t o.guard=some true->yb N o.dst=true->sop P o.op (zl G t) H=some (r,H)->DrawsDie P G N all H KP rest (xj t o.dst r)->DrawsDie P G N all H KP (o::rest) t
 |call {o:Oper} {rest:List Oper} {t:List (Nat × SV)} {r:SV} {fx:Operand} {args:Array Operand} {tys:Array TypeId} {f:FuncId} {first captured:List SV}:zu all t o.guard=some true->yb N o.dst=true->
   o.op= .call ⟨.value fx,args,tys⟩->zl G t fx= .fn (.func f) first captured->wk P f=true->zsv P G f (first++args.toList.map (zl G t)++captured) H r->
   DrawsDie P G N all H KP rest (xj t o.dst r)->DrawsDie P G N all H KP (o::rest) t
 |die {o:Oper} {rest:List Oper} {t:List (Nat × SV)}:zkd P G o t H KP all->zge all (all.size-(rest.length+1))=true->DrawsDie P G N all H KP (o::rest) t
theorem zvg {N:Nat} {all:Array Oper} {KP:List PanicEntry->List SObj->Prop} {rest:List Oper} {t:List (Nat × SV)} (h:DrawsDie P G N all H KP rest t):
  ∃(vals:List SV) (m:Nat) (om:Oper),rest[m]?=some om/\zge all (all.size-(rest.length-m))=true/\zkd P G om (tAt rest vals t m) H KP all/\∀(i:Nat) o,i<m->rest[i]?=some o->∃v,vals[i]?=some v/\Val P G N all H o (tAt rest vals t i) v:=by
 have step:∀(o:Oper) (rest:List Oper) (t:List (Nat × SV)) (r:SV),Val P G N all H o t r->(∃(vals:List SV) (m:Nat) (om:Oper),rest[m]?=some om/\zge all (all.size-(rest.length-m))=true/\zkd P G om (tAt rest vals (xj t o.dst r) m) H KP all/\∀(i:Nat) o',i<m->rest[i]?=some o'->∃v,vals[i]?=some v/\Val P G N all H o' (tAt rest vals (xj t o.dst r) i) v)->
   ∃(vals:List SV) (m:Nat) (om:Oper),(o::rest)[m]?=some om/\zge all (all.size-((o::rest).length-m))=true/\zkd P G om (tAt (o::rest) vals t m) H KP all/\∀(i:Nat) o',i<m->(o::rest)[i]?=some o'->∃v,vals[i]?=some v/\Val P G N all H o' (tAt (o::rest) vals t i) v:=by
  rintro o rest t r hv ⟨vals,m,om,h1,h2,h3,h4⟩;refine ⟨r::vals,m+1,om,by simpa using h1,by rw [List.length_cons,Nat.add_sub_add_right];exact h2,by rw [zfj];exact h3,fun i o' hi ho'=>?_⟩;cases i with
  |zero=>simp at ho';subst ho';exact ⟨r,by simp,hv⟩
  |succ i=>simp at ho';rw [zfj];obtain ⟨v,a,b⟩:=h4 i o' (by omega) ho';exact ⟨v,by simpa using a,b⟩
 induction h with
 |skip h1 h2 _ ih=>exact step _ _ _ _ ⟨h2,.inl ⟨h1,rfl⟩⟩ ih
 |op h1 h2 h3 _ ih=>exact step _ _ _ _ ⟨h2,.inr ⟨h1,.inl h3⟩⟩ ih
 |call h1 h2 h3 h4 h5 h6 _ ih=>exact step _ _ _ _ ⟨h2,.inr ⟨h1,.inr ⟨_,_,_,_,_,_,h3,h4,h5,h6⟩⟩⟩ ih
 |die h1 h2=>exact ⟨[],0,_,rfl,h2,h1,fun i o hi=>absurd hi (Nat.not_lt_zero i)⟩
theorem yuc {E:En P G fn false} {id:Nat} {all:Array Oper} (hm:P.follows .mixedOrders=true) (hdep:zve all=true) (hd:DrawsDie P G fn.ntmps all H E.KP all.toList t):
  SW E (.code (.region id all true)::k) t H:=by
 obtain ⟨vals,m,om,g1,g2,g3,g4⟩:=zvg hd;have hu:=zvf hdep;have hmlt:m<all.size:=by
  have:=(List.getElem?_eq_some_iff.1 g1).1;simpa using this
 have g2:zge all m=true:=by
  have:all.size-(all.toList.length-m)=m:=by rw [Array.length_toList];omega
  rwa [this] at g2
 refine ⟨fun a w I β cs hs=>?_⟩;have hH:HeapOK G {w with drawn:=w.drawn+1} I β H:=hs.heap.grow (fun _ _=>rfl) (fun _ _ h=>h) (fun _ _ h=>.inl h) hs.heap.inI;have hE:Ext H.length w I β H {w with drawn:=w.drawn+1} I β H:=.grow hs.heap (fun _ _=>rfl) (Nat.le_refl _) (fun _ _ h=>h) (fun _ _ h=>.inl h);have none:∀j,(Array.replicate all.size false).getD j false=false:=fun j=>by
  rw [Array.getD_eq_getD_getElem?,Array.getElem?_replicate];split<;>rfl
 have mid:Mid E all vals t H (Array.replicate all.size false) a {w with drawn:=w.drawn+1} I β:=by
  refine ⟨hH,fun j p d _ _ hl=>?_,fun d _=>(hs.tmps d).ext (by rw [hs.heap.len];exact hE),hs.size,hs.defers.ext hE,hs.ext.trans (hE.weaken hs.hlen),hs.hlen,by simp,fun i o _ hl=>?_⟩
  ·rw [none] at hl;cases hl
  ·rw [none] at hl;cases hl
 have hcnt:qp (Array.replicate all.size false)<=all.size:=by
  unfold qp;exact Nat.le_trans List.countP_le_length (by simp)
 have hany:=yqa (E:=E) hu (m:=m) (om:=om) (by simpa using g1) g2 (fun i o hi ho=>g4 i o hi (by simpa using ho)) g3 all.size _ a _ I β mid (fun j _=>none j) hcnt;have hops:=wpAny_sound (md:=.any) all.size (w.tape w.drawn (.order E.base.fn id)) _ a _ hany;obtain ⟨a',w',ch,X,⟨I',β',H',t',hsim,hKP⟩,harr⟩:=yhl (b:=E.base) (ro:=E.ro) (k:=k) (cs:=cs) (zhu hdep) _ a _ hops;obtain ⟨bs,e1,_⟩:=hsim.defers;refine .of_steps (.head zan ?_) (zjd (fun _ _=>rfl) hKP bs a' w' I' β' cs ((E.at a' X).raise ch) hsim e1 rfl rfl rfl rfl rfl);simp only [Region.schedule,hm,Bool.true_or,if_true];exact harr
structure SWd (E:En P G fn rd) (all:Array Oper) (rest:List Oper) (k:List Item) (t:List (Nat × SV)) (H:List SObj):Prop where
 run:(∃t',Draws P G fn.ntmps all H rest t t'/\SW E k t' H)\/(rd=false/\DrawsDie P G fn.ntmps all H E.KP rest t)
theorem yc {id:Nat} {all:Array Oper} (hm:P.follows .mixedOrders=true) (hdep:zve all=true) (h:SWd E all all.toList k t H):SW E (.code (.region id all true)::k) t H:=by
 rcases h.run with ⟨t',h1,h2⟩|⟨rfl,h1⟩
 ·exact ypz hm hdep h1 h2
 ·exact yuc hm hdep h1
theorem yud {all:Array Oper} (h:SW E k t H):SWd E all [] k t H:=⟨.inl ⟨t,.nil t,h⟩⟩
theorem yer {all:Array Oper} {o:Oper} {rest:List Oper} (hw:zu all t o.guard=some false) (hd:yb fn.ntmps o.dst=true) (h:SWd E all rest k (xj t o.dst sU) H):SWd E all (o::rest) k t H:=by
 rcases h.run with ⟨t',h1,h2⟩|⟨h0,h1⟩
 ·exact ⟨.inl ⟨t',.skip hw hd h1,h2⟩⟩
 ·exact ⟨.inr ⟨h0,.skip hw hd h1⟩⟩
theorem zmo {all:Array Oper} {o:Oper} {rest:List Oper} {r:SV} (hw:zu all t o.guard=some true) (hd:yb fn.ntmps o.dst=true)
  (hop:sop P o.op (zl G t) H=some (r,H)) (h:SWd E all rest k (xj t o.dst r) H):SWd E all (o::rest) k t H:=by
 rcases h.run with ⟨t',h1,h2⟩|⟨h0,h1⟩
 ·exact ⟨.inl ⟨t',.op hw hd hop h1,h2⟩⟩
 ·exact ⟨.inr ⟨h0,.op hw hd hop h1⟩⟩
theorem ws {all:Array Oper} {o:Oper} {rest:List Oper} {fx:Operand} {args:Array Operand} {tys:Array TypeId} {f:FuncId} {first captured:List SV} {r:SV}
  (hop:o.op= .call ⟨.value fx,args,tys⟩) (hw:zu all t o.guard=some true) (hd:yb fn.ntmps o.dst=true) (hf:zl G t fx= .fn (.func f) first captured) (hb:wk P f=true)
  {argv:List SV} (hargs:first++args.toList.map (zl G t)++captured=argv)
  (hc:zsv P G f argv H r) (h:SWd E all rest k (xj t o.dst r) H):SWd E all (o::rest) k t H:=by
 subst hargs;rcases h.run with ⟨t',h1,h2⟩|⟨h0,h1⟩
 ·exact ⟨.inl ⟨t',.call hw hd hop hf hb hc h1,h2⟩⟩
 ·exact ⟨.inr ⟨h0,.call hw hd hop hf hb hc h1⟩⟩
theorem yqb {all:Array Oper} {o:Oper} {rest:List Oper} {fx:Operand} {args:Array Operand} {tys:Array TypeId} {f:FuncId} {first captured:List SV} {r:SV}
  (hop:o.op= .call ⟨.value fx,args,tys⟩) (hw:zu all t o.guard=some true) (hd:yb fn.ntmps o.dst=true) (hf:zl G t fx= .fn (.func f) first captured) (hb:wk P f=true)
  {argv:List SV} (hargs:first++args.toList.map (zl G t)++captured=argv)
  (hc:zq P G f argv r) (h:SWd E all rest k (xj t o.dst r) H):SWd E all (o::rest) k t H:=
 ws hop hw hd hf hb hargs (hc H) h
theorem ym {all:Array Oper} {o:Oper} {rest:List Oper} {fx:Operand} {args:Array Operand} {tys:Array TypeId} {f:FuncId} {first captured:List SV} {r:SV} {argv:List SV} (e:(o.op,zu all t o.guard,yb fn.ntmps o.dst,zl G t fx,wk P f,first++args.toList.map (zl G t)++captured)=(.call ⟨.value fx,args,tys⟩,some true,true,.fn (.func f) first captured,true,argv)) (hc:zq P G f argv r) (h:SWd E all rest k (xj t o.dst r) H):SWd E all (o::rest) k t H:=yqb (congrArg (·.1) e) (congrArg (·.2.1) e) (congrArg (·.2.2.1) e) (congrArg (·.2.2.2.1) e) (congrArg (·.2.2.2.2.1) e) (congrArg (·.2.2.2.2.2) e) hc h
theorem yue {E:En P G fn false} {all:Array Oper} {o:Oper} {rest:List Oper} {fx:Operand} {args:Array Operand} {tys:Array TypeId} {f:FuncId} {first captured:List SV}
  (hop:o.op= .call ⟨.value fx,args,tys⟩) (hw:zu all t o.guard=some true) (hf:zl G t fx= .fn (.func f) first captured) (hb:wk P f=true)
  {argv:List SV} (hargs:first++args.toList.map (zl G t)++captured=argv) (htail:zge all (all.size-(rest.length+1))=true)
  (hc:SCallP P G f argv H (fun _ _=>False) (fun ch H'=>H.length<=H'.length/\E.KP ch H')):SWd E all (o::rest) k t H:=by
 subst hargs;exact ⟨.inr ⟨rfl,.die ⟨hw,_,_,_,_,_,_,hop,hf,hb,hc⟩ htail⟩⟩
def yqc (P:Program) (op:Op) (ev:Operand->SV) (H:List SObj):Option SV:=
 match op with
 | .move x=>some (ev x)
 | .assign x=>some (ev x)
 | .pick c a b=>match ev c with
  | .imm (.val (.bool v))=>some (if v then ev a else ev b)
  |_=>none
 | .build t parts=>zom P t (parts.toList.map fun p=>(p.1,ev p.2))
 | .load t a=>zaz P t H (ev a)
 | .nilCheck x=>match ev x with
  | .ptr b o=>some (.ptr b o)
  | .imm (.row c o)=>some (.imm (.row c o))
  |_=>none
 | .binOp op t x y _=>match ev x,ev y with
  | .imm (.val a),.imm (.val b)=>(yay P op t a b).map fun v=>.imm (.val v)
  |_,_=>none
 | .unOp op _ x=>match ev x with
  | .imm (.val a)=>(sun op a).map fun v=>.imm (.val v)
  |_=>none
 | .convert s d x=>match ev x with
  | .imm (.val a)=>(yaz P s d a).map fun v=>.imm (.val v)
  |x=>(zep P s d H x).map fun v=>.imm (.val v)
 | .makeFunc fn first captured=>some (.fn fn (first.toList.map ev) (captured.toList.map ev))
 | .slice t x lo hi none=>zmm P t (ev x) (lo.map ev) (hi.map ev)
 | .fieldAddr s x f=>zen P s f (ev x)
 | .field t x f=>zxa P t f (ev x)
 | .indexAddr t x ix=>match ev ix with
  | .imm (.val (.int _ i))=>jv P t i (ev x)
  |_=>none
 | .index t x ix=>match ev ix with
  | .imm (.val (.int _ i))=>zml P t i (ev x)
  |_=>none
 | .lookup t x ix ok=>ybc P t H (ev x) (ev ix) ok
 | .extract t i=>zkb i (ev t)
 | .buildSlice t (n+1) parts=>match ww P t (n+1) (parts.toList.map fun p=>(p.1,ev p.2)) H with
  |some (r,_)=>some r
  |none=>none
 | .call {callee:=.builtin b,args,argTypes}=>match b,args.toList.map ev,argTypes.toList with
  | .len,[x],[t]=>(ypg P t H x).map fun n=>.imm (.val (.int .i64 n))
  | .cap,[.imm (.val (.slice none 0 n))],[t]=>match P.underlying t with
   |some (.slice _)=>some (.imm (.val (.int .i64 n)))
   |_=>none
  | .min,[.imm (.val (.int k x)),.imm (.val (.int _ y))],_=>some (.imm (.val (.int k (if y<x then y else x))))
  | .max,[.imm (.val (.int k x)),.imm (.val (.int _ y))],_=>some (.imm (.val (.int k (if y>x then y else x))))
  |_,_,_=>none
 |_=>none
theorem znl {t:TypeId} {n:Nat} {ps:List (Nat × SV)} {r:SV} {H':List SObj} (h:ww P t (n+1) ps H=some (r,H')):H'=H:=by
 unfold ww at h;split at h<;>first|(cases h;done)|skip
 split at h<;>first|(cases h;done)|skip
 split at h<;>first|(cases h;done)|skip
 split at h
 ·rename_i h0;cases h0
 ·split at h<;>first|(cases h;done)|skip
  split at h<;>first|(cases h;done)|skip
  cases h;rfl
theorem zvh {op:Op} {ev:Operand->SV} {r:SV} (h:yqc P op ev H=some r):sop P op ev H=some (r,H):=by
 cases op<;>simp only [yqc] at h<;>first|(cases h;done)|(simp only [sop,h,Option.map_some];done)|skip
 case move x=>cases h;rfl
 case assign x=>cases h;rfl
 case pick c a b=>simp only [sop];split at h<;>first|(cases h;done)|(rename_i hc;cases h;rw [hc])
 case nilCheck x=>simp only [sop];split at h<;>first|(cases h;done)|(rename_i hc;cases h;rw [hc])
 case binOp op t x y yt=>
  simp only [sop];split at h<;>first|(cases h;done)|skip
  rename_i a b ha hb
  rw [ha,hb];cases hz:yay P op t a b with
  |none=>simp [hz] at h
  |some v=>simp [hz] at h;simp [hz,h]
 case unOp op t x=>
  simp only [sop];split at h<;>first|(cases h;done)|skip
  rename_i a ha
  rw [ha];cases hz:sun op a with
  |none=>simp [hz] at h
  |some v=>simp [hz] at h;simp [hz,h]
 case convert s d x=>
  simp only [sop];split at h
  ·rename_i a ha
   rw [ha];cases hz:yaz P s d a with
   |none=>simp [hz] at h
   |some v=>simp [hz] at h;simp [hz,h]
  ·rename_i hne
   cases hz:zep P s d H (ev x) with
   |none=>simp [hz] at h
   |some v=>
    simp [hz] at h;split
    ·rename_i a ha;exact absurd ha (hne a)
    ·simp [hz,h]
 case makeFunc=>cases h;rfl
 case slice t x lo hi mx=>
  cases mx with
  |some m=>simp at h
  |none=>simp only at h;simp only [sop,h,Option.map_some]
 case indexAddr t x i=>
  simp only [sop];split at h<;>first|(cases h;done)|skip
  rename_i hi
  rw [hi];simp only [h,Option.map_some]
 case index t x i=>
  simp only [sop];split at h<;>first|(cases h;done)|skip
  rename_i hi
  rw [hi];simp only [h,Option.map_some]
 case buildSlice t n ps=>
  cases n with
  |zero=>simp at h
  |succ n=>
   simp only at h;simp only [sop];split at h
   ·rename_i r' H' hs
    cases h;rw [hs,znl hs]
   ·cases h
 case call c=>
  obtain ⟨callee,args,tys⟩:=c;cases callee with
  |value f=>simp at h
  |invoke r m=>simp at h
  |builtin b=>
   simp only [sop,zfg] at h ⊢;split at h<;>first|(cases h;done)|skip
   ·rename_i x t h1 h2
    rw [h1,h2];cases hz:ypg P t H x with
    |none=>simp [hz] at h
    |some v=>simp [hz] at h;simp [hz,h]
   ·rename_i n t h1 h2
    rw [h1,h2];split at h<;>first|(cases h;done)|skip
    rename_i hu
    cases h;simp only [hu]
   ·rename_i h1;cases h;rw [h1]
   ·rename_i h1;cases h;rw [h1]
theorem yes {all:Array Oper} {rest:List Oper} {t':List (Nat × SV)} (ht:∀n,qh t' n=qh t n) (h:SWd E all rest k t' H):SWd E all rest k t H:=by
 have ev:∀{u u':List (Nat × SV)},(∀n,qh u' n=qh u n)->zl G u'=zl G u:=fun hu=>by
  funext x;cases x<;>first|exact hu _|rfl
 have pt:∀{u u':List (Nat × SV)} (d:Option Tmp) (s:SV),(∀n,qh u' n=qh u n)->∀n,qh (xj u' d s) n=qh (xj u d s) n:=fun d s hu n=>by
  cases d with
  |none=>exact hu n
  |some d=>simp only [xj,qh];split<;>first|rfl|exact hu n
 have key:∀{rest:List Oper} {u' u2:List (Nat × SV)},Draws P G fn.ntmps all H rest u' u2->∀u,(∀n,qh u' n=qh u n)->∃u3,Draws P G fn.ntmps all H rest u u3/\∀n,qh u2 n=qh u3 n:=by
  intro rest u' u2 hd
  induction hd with
  |nil t=>intro u hu;exact ⟨u,.nil u,hu⟩
  |skip a1 a2 _ ih=>
   intro u hu;obtain ⟨u3,b1,b2⟩:=ih _ (pt _ _ hu);exact ⟨u3,.skip (by rw [<-wo hu];exact a1) a2 b1,b2⟩
  |op a1 a2 a3 _ ih=>
   intro u hu;obtain ⟨u3,b1,b2⟩:=ih _ (pt _ _ hu);exact ⟨u3,.op (by rw [<-wo hu];exact a1) a2 (by rw [<-ev hu];exact a3) b1,b2⟩
  |call a1 a2 a3 a4 a5 a6 _ ih=>
   intro u hu;obtain ⟨u3,b1,b2⟩:=ih _ (pt _ _ hu);exact ⟨u3,.call (by rw [<-wo hu];exact a1) a2 a3 (by rw [<-ev hu];exact a4) a5 (by rw [<-ev hu];exact a6) b1,b2⟩
 have keyD:∀{rest:List Oper} {u':List (Nat × SV)},DrawsDie P G fn.ntmps all H E.KP rest u'->∀u,(∀n,qh u' n=qh u n)->DrawsDie P G fn.ntmps all H E.KP rest u:=by
  intro rest u' hd
  induction hd with
  |skip a1 a2 _ ih=>intro u hu;exact .skip (by rw [<-wo hu];exact a1) a2 (ih _ (pt _ _ hu))
  |op a1 a2 a3 _ ih=>intro u hu;exact .op (by rw [<-wo hu];exact a1) a2 (by rw [<-ev hu];exact a3) (ih _ (pt _ _ hu))
  |call a1 a2 a3 a4 a5 a6 _ ih=>intro u hu;exact .call (by rw [<-wo hu];exact a1) a2 a3 (by rw [<-ev hu];exact a4) a5 (by rw [<-ev hu];exact a6) (ih _ (pt _ _ hu))
  |die a1 a2=>
   intro u hu;obtain ⟨b1,fx,args,tys,f,first,captured,b2,b3,b4,b5⟩:=a1;exact .die ⟨by rw [<-wo hu];exact b1,fx,args,tys,f,first,captured,b2,by rw [<-ev hu];exact b3,b4,by rw [<-ev hu];exact b5⟩ a2
 rcases h.run with ⟨t2,h1,h2⟩|⟨h0,h1⟩
 ·obtain ⟨u3,b1,b2⟩:=key h1 t ht
  exact ⟨.inl ⟨u3,b1,zox b2 h2⟩⟩
 ·exact ⟨.inr ⟨h0,keyD h1 t ht⟩⟩
def yku (E : En P G fn rd) (st : List Nat) (all : Array Oper) : List Oper -> List Item -> List (Nat × SV) -> List SObj -> Prop
  | [], k, t, H => SW E k t H
  | o :: rest, k, t, H => match yb fn.ntmps o.dst with
    | false => SWd E all (o :: rest) k t H
    | true => match zuy all t o.guard with
      | .bad => SWd E all (o :: rest) k t H
      | .off => match o.dst with
        | some d => yku E st all rest k ((d, sU) :: t) H
        | none => yku E st all rest k t H
      | .free => match zxi o.op (zl G t) st o.dst with
        | true => SWd E all (o :: rest) k t H
        | false => match yqc P o.op (zl G t) H with
          | some r => fS r fun r => match o.dst with
            | some d => yku E st all rest k ((d, r) :: t) H
            | none => yku E st all rest k t H
          | none => SWd E all (o :: rest) k t H
      | .on g b want => zow (zcr b want)
        (match zxi o.op (zl G (zaa g want :: t)) st o.dst with
        | true => SWd E all (o :: rest) k (zaa g want :: t) H
        | false => match yqc P o.op (zl G (zaa g want :: t)) H with
          | some r => fS r fun r => match o.dst with
            | some d => yku E st all rest k ((d, r) :: zaa g want :: t) H
            | none => yku E st all rest k (zaa g want :: t) H
          | none => SWd E all (o :: rest) k (zaa g want :: t) H)
        (match o.dst with
        | some d => yku E st all rest k ((d, sU) :: zaa g (!want) :: t) H
        | none => yku E st all rest k (zaa g (!want) :: t) H)
theorem zf (st:List Nat) {all:Array Oper}:∀{rest:List Oper} {t:List (Nat × SV)},yku E st all rest k t H->SWd E all rest k t H
 |[],t,h=>yud (by simpa [yku] using h)
 |o::rest,t,h=>by
  simp only [yku] at h;split at h
  ·exact h
  rename_i hd
  split at h
  ·exact h
  ·rename_i hg
   refine yer (zoy hg) hd ?_;cases hdst:o.dst with
   |none=>rw [hdst] at h;exact zf st h
   |some d=>rw [hdst] at h;exact zf st h
  ·rename_i hg
   split at h
   ·exact h
   split at h
   ·rename_i r hop
    rw [yhh] at h;refine zmo (zht hg) hd (zvh hop) ?_;cases hdst:o.dst with
    |none=>rw [hdst] at h;exact zf st h
    |some d=>rw [hdst] at h;exact zf st h
   ·exact h
  ·rename_i g b want hg
   obtain ⟨hw,htd⟩:=zvc hg;cases hwb:zcr b want with
   |true=>
    rw [hwb] at h hw;simp only [zow] at h;have e:b=want:=by cases b<;>cases want<;>simp_all [zcr]
    subst e;refine yes (xz htd) ?_;have hw':zu all (zaa g b::t) o.guard=some true:=by rw [wo (xz htd)];exact hw
    split at h
    ·exact h
    split at h
    ·rename_i r hop
     rw [yhh] at h;refine zmo hw' hd (zvh hop) ?_;cases hdst:o.dst with
     |none=>rw [hdst] at h;exact zf st h
     |some d=>rw [hdst] at h;exact zf st h
    ·exact h
   |false=>
    rw [hwb] at h hw;simp only [zow] at h;have e:b= !want:=by cases b<;>cases want<;>simp_all [zcr]
    subst e;refine yes (xz htd) (yer (by rw [wo (xz htd)];exact hw) hd ?_);cases hdst:o.dst with
    |none=>rw [hdst] at h;exact zf st h
    |some d=>rw [hdst] at h;exact zf st h
end
theorem zt {c:Int} (h0: -9223372036854775808<=c) (h1:c<=9223372036854775807):IntKind.i64.wrap c=c:=by
 have hb:IntKind.i64.bits=64:=rfl;have hs:IntKind.i64.signed=true:=rfl;unfold IntKind.wrap;simp [hb,hs];omega
theorem zk {n:Nat} (h:n<=9223372036854775806):IntKind.i64.wrap ((n:Int)+1)=((n+1:Nat):Int):=by
 rw [zt (by omega) (by omega)];omega
section
variable {P:Program} {G:List (Nat × D)} {fn:Func} {rd:Bool} {E:En P G fn rd} {t:List (Nat × SV)} {H:List SObj} {k:List Item}
theorem zgs {ty e n:Nat} {x ix:Operand} {rows:List (List D)} {i:Nat} {m:Int} {kk:IntKind} {row:List D} (hx:(zl G t x).rows=some (n,rows)) (hi:zl G t ix= .imm (.val (.int kk m)))
  (hu:P.underlying ty=some (.slice e)) (hn:xe P e=some n) (hm:m=(i:Int)) (hr:rows[i]?=some row):sop P (.indexAddr ty x ix) (zl G t) H=some (.imm (.row row 0),H):=by
 subst hm;simp only [sop,hi,jv,hu,hn];generalize zl G t x=v at hx;unfold SV.rows at hx;split at hx<;>first|(cases hx;done)|skip
 all_goals (cases hx;simp [SV.rows,hr])
 simp at hr
theorem yz (ks:List Nat) (n:Nat) (hE:E.H.length<=n) (hn:n<=H.length) (ht:(keep ks t).all (fun x=>x.2.under n)=true) (hH:(H.take n).all (SObj.under n)=true) (h:SW E k (keep ks t) (H.take n)):SW E k t H:=
 zg ks (zsu n hE hn ht hH h)
theorem ykv {all:Array Oper} {o:Oper} {rest:List Oper} {ty e n:Nat} {x ix:Operand} {rows:List (List D)} {i:Nat} {m:Int} {kk:IntKind} {row:List D} (hop:o.op= .indexAddr ty x ix)
  (hw:zu all t o.guard=some true) (hd:yb fn.ntmps o.dst=true) (hx:(zl G t x).rows=some (n,rows)) (hi:zl G t ix= .imm (.val (.int kk m)))
  (hu:P.underlying ty=some (.slice e)) (hn:xe P e=some n) (hm:m=(i:Int)) (hr:rows[i]?=some row) (h:SWr E all rest k (xj t o.dst (.imm (.row row 0))) H):SWr E all (o::rest) k t H:=
 qy hw hd (by rw [hop];exact zgs hx hi hu hn hm hr) (Nat.le_refl _) h
theorem zi {all:Array Oper} {o:Oper} {rest:List Oper} {ty e0 n:Nat} {x ix:Operand} {rows:List (List D)} {i:Nat} {mm:Int} {kk:IntKind} {row:List D} (e:(o.op,zu all t o.guard,yb fn.ntmps o.dst,(zl G t x).rows,zl G t ix,P.underlying ty,xe P e0)=(.indexAddr ty x ix,some true,true,some (n,rows),.imm (.val (.int kk mm)),some (.slice e0),some n)) (hm:mm=(i:Int)) (hr:rows[i]?=some row) (h:SWr E all rest k (xj t o.dst (.imm (.row row 0))) H):SWr E all (o::rest) k t H:=ykv (congrArg (·.1) e) (congrArg (·.2.1) e) (congrArg (·.2.2.1) e) (congrArg (·.2.2.2.1) e) (congrArg (·.2.2.2.2.1) e) (congrArg (·.2.2.2.2.2.1) e) (congrArg (·.2.2.2.2.2.2) e) hm hr h
theorem ykw {all:Array Oper} {o:Oper} {rest:List Oper} {ty e n:Nat} {x ix:Operand} {rows:List (List D)} {i:Nat} {m:Int} {kk:IntKind} {row:List D} (hop:o.op= .indexAddr ty x ix)
  (hw:zu all t o.guard=some true) (hd:yb fn.ntmps o.dst=true) (hx:(zl G t x).rows=some (n,rows)) (hi:zl G t ix= .imm (.val (.int kk m)))
  (hu:P.underlying ty=some (.slice e)) (hn:xe P e=some n) (hm:m=(i:Int)) (hr:rows[i]?=some row) (h:SWd E all rest k (xj t o.dst (.imm (.row row 0))) H):SWd E all (o::rest) k t H:=
 zmo hw hd (by rw [hop];exact zgs hx hi hu hn hm hr) h
theorem yx {all:Array Oper} {o:Oper} {rest:List Oper} {ty e0 n:Nat} {x ix:Operand} {rows:List (List D)} {i:Nat} {mm:Int} {kk:IntKind} {row:List D} (e:(o.op,zu all t o.guard,yb fn.ntmps o.dst,(zl G t x).rows,zl G t ix,P.underlying ty,xe P e0)=(.indexAddr ty x ix,some true,true,some (n,rows),.imm (.val (.int kk mm)),some (.slice e0),some n)) (hm:mm=(i:Int)) (hr:rows[i]?=some row) (h:SWd E all rest k (xj t o.dst (.imm (.row row 0))) H):SWd E all (o::rest) k t H:=ykw (congrArg (·.1) e) (congrArg (·.2.1) e) (congrArg (·.2.2.1) e) (congrArg (·.2.2.2.1) e) (congrArg (·.2.2.2.2.1) e) (congrArg (·.2.2.2.2.2.1) e) (congrArg (·.2.2.2.2.2.2) e) hm hr h
theorem ykx (s:ByteArray) (i:Nat):s[i]?=s.data.toList[i]?:=by
 by_cases h:i<s.size
 ·rw [getElem?_pos s i h]
  have h':i<s.data.toList.length:=by simpa using h
  rw [List.getElem?_eq_getElem h'];rfl
 ·rw [getElem?_neg s i h]
  have h':s.data.toList.length<=i:=by simpa using h
  rw [List.getElem?_eq_none h']
theorem yqd {ty:Nat} {x ix:Operand} {s:ByteArray} {i:Nat} {kk:IntKind} {b:UInt8} (hx:zl G t x= .imm (.val (.string s))) (hi:zl G t ix= .imm (.val (.int kk (i:Int))))
  (hu:P.underlying ty=some .string) (hr:s.data.toList[i]?=some b):sop P (.index ty x ix) (zl G t) H=some (.imm (.val (.int .u8 (b.toNat:Int))),H):=by
 simp only [sop,hi,hx,zml,hu];simp [ykx,hr]
theorem zbm {all:Array Oper} {o:Oper} {rest:List Oper} {ty:Nat} {x ix:Operand} {s:ByteArray} {i:Nat} {kk:IntKind} {b:UInt8} (hop:o.op= .index ty x ix)
  (hw:zu all t o.guard=some true) (hd:yb fn.ntmps o.dst=true) (hx:zl G t x= .imm (.val (.string s))) (hi:zl G t ix= .imm (.val (.int kk (i:Int))))
  (hu:P.underlying ty=some .string) (hr:s.data.toList[i]?=some b) (h:SWr E all rest k (xj t o.dst (.imm (.val (.int .u8 (b.toNat:Int))))) H):SWr E all (o::rest) k t H:=
 qy hw hd (by rw [hop];exact yqd hx hi hu hr) (Nat.le_refl _) h
theorem kB {b b':Bool} (hK:∀H',E.K (.imm (.val (.bool b))) H') (h:b=b'):E.K (.imm (.val (.bool b'))) H:=h ▸ hK H
theorem kI {n n':Int} {kk:IntKind} (hK:∀H',E.K (.imm (.val (.int kk n))) H') (h:n=n'):E.K (.imm (.val (.int kk n'))) H:=h ▸ hK H
end
section
variable {P:Program} {G:List (Nat × D)} {fn:Func} {rd:Bool} {E:En P G fn rd} {t:List (Nat × SV)} {H:List SObj} {k:List Item}
theorem zp {α σ:Type} {c:Code} (xs:List α) (T:Nat->σ->List (Nat × SV)) (Hh:Nat->σ->List SObj) (Iv:List α->List α->σ->Prop) (s0:σ) (h0:Iv [] xs s0)
  (hnil:∀s,Iv xs [] s->SW E (.code c:: .inLoop c::k) (T xs.length s) (Hh xs.length s))
  (hcons:∀done x rest s,xs=done++x::rest->xs.length=done.length+1+rest.length->Iv done (x::rest) s->
   (∀s',Iv (done++[x]) rest s'->SW E (.inLoop c::k) (T (done.length+1) s') (Hh (done.length+1) s'))->SW E (.code c:: .inLoop c::k) (T done.length s) (Hh done.length s)):
  SW E (.code (.loop c)::k) (T 0 s0) (Hh 0 s0):=by
 refine ybg ?_;have key:∀(rest done:List α) (s:σ),xs=done++rest->Iv done rest s->SW E (.code c:: .inLoop c::k) (T done.length s) (Hh done.length s):=by
  intro rest
  induction rest with
  |nil=>intro done s hx hi;rw [List.append_nil] at hx;subst hx;exact hnil s hi
  |cons x rest ih=>
   intro done s hx hi;refine hcons done x rest s hx (by rw [hx];simp;omega) hi (fun s' hi'=>zas ?_);have:=ih (done++[x]) s' (by simp [hx]) hi';simpa using this
 exact key xs [] s0 rfl h0
def SPre (P:Program) (G:List (Nat × D)) (f:FuncId) (args:List SV) (H0:List SObj) (K:SV->List SObj->Prop):Prop:=
 ∀X,SCall P G f args (H0++X) (fun r H'=>∃H1,K r H1/\H1.length=H0.length/\H'=H1++X)
theorem zxl {n:Nat} {β:List Bnd} {b c:Nat} (h:wv (H.take n) (β.take n) b c):b<n/\wv H β b c:=by
 obtain ⟨o,x,h1,h2,h3,h4⟩:=h;exact ⟨(zax h1).1,o,x,(zax h1).2,h2,(zax h3).2,h4⟩
theorem ObjOK.below {w:World} {I:Imm} {β β':List Bnd} {n:Nat} {o:SObj} {x:Bnd} (h:ObjOK w I β o x) (hu:o.under n=true) (hk:Keeps n β β'):ObjOK w I β' o x:=by
 have hmono:∀{v s},Rep w I β v s->s.under n=true->Rep w I β' v s:=fun hr hu=>hr.mono_below (fun _ _ h=>h) (fun _ _ _=>rfl) hk hu
 cases o with
 |cells l=>
  cases x with
  |blk c=>
   obtain ⟨vs,T,a1,a2,a3,a4⟩:=h;exact ⟨vs,T,a1,a2,fun j hj hj'=>hmono (a3 j hj hj') (yj hu j hj),a4⟩
  |tok u=>exact h
 |mapI kk es=>
  cases x with
  |blk c=>
   obtain ⟨vs,T,a1,a2,a3,a4⟩:=h;exact ⟨vs,T,a1,a2,fun j hj hj'=>⟨(a3 j hj hj').1,hmono (a3 j hj hj').2 (List.all_eq_true.1 hu _ (List.getElem_mem hj))⟩,a4⟩
  |tok u=>exact h
 |mapS es=>
  cases x with
  |blk c=>
   obtain ⟨vs,T,a1,a2,a3,a4⟩:=h;exact ⟨vs,T,a1,a2,fun j hj hj'=>⟨(a3 j hj hj').1,hmono (a3 j hj hj').2 (List.all_eq_true.1 hu _ (List.getElem_mem hj))⟩,a4⟩
  |tok u=>exact h
 |tok kk m=>cases x<;>exact h
 |loop s f m' tt ps aaz bd=>
  cases x with
  |blk c=>
   obtain ⟨r,a1,a2,a3,a4,a5,a6,a7,a8,a9⟩:=h;exact ⟨r,a1,a2,a3,a4,a5,a6,a7,fun m=>hmono (a8 m) (zes hu m),a9⟩
  |tok u=>exact h
 |vec kk l=>
  cases x with
  |blk c=>exact h
  |tok u=>
   rcases h with h|⟨c,n',cap,vs,T,rfl,a1,a2,a3,a4,a5,a6,a7⟩
   ·exact .inl h
   ·exact .inr ⟨c,n',cap,vs,T,rfl,a1,a2,a3,a4,a5,fun j hj hj'=>hmono (a6 j hj hj') (yj hu j hj),a7⟩
 |dead=>trivial
 |free=>cases x<;>exact h
 |bld T=>cases x<;>exact h
 |btok T n=>cases x<;>exact h
 |pin kk es clock=>
  cases x with
  |blk c=>
   obtain ⟨vs,a1,a2,a3,a4⟩:=h;exact ⟨vs,a1,a2,fun j hj hj'=>⟨(a3 j hj hj').1,(a3 j hj hj').2.1,hmono (a3 j hj hj').2.2 (List.all_eq_true.1 hu _ (List.getElem_mem hj))⟩,a4⟩
  |tok u=>exact h
 |iter m' since seen last=>
  cases x with
  |blk c=>
   obtain ⟨cm,a1,a2⟩:=h;obtain ⟨y,hy,hl⟩:=hk m' _ (by simpa [SObj.under] using hu) a1;cases hl;exact ⟨cm,hy,a2⟩
  |tok u=>exact h
theorem HeapOK.small {w:World} {I:Imm} {β:List Bnd} {H0 X:List SObj} (h:HeapOK G w I β (H0++X)) (hu:H0.all (SObj.under H0.length)=true):HeapOK G w I (β.take H0.length) H0:=by
 have hl:β.length=H0.length+X.length:=by rw [h.len];simp
 have hown:∀b c,wv H0 (β.take H0.length) b c->wv (H0++X) β b c:=fun b c ho=>by
  have:H0=(H0++X).take H0.length:=by simp
  rw [this] at ho;simp only [List.length_take,List.length_append] at ho;rw [show min H0.length (H0.length+X.length)=H0.length by omega] at ho;exact (zxl ho).2
 refine ⟨by simp;omega,fun b o x h1 h2=>?_,fun b b' c h1 h2=>h.inj b b' c (hown b c h1) (hown b' c h2),h.inI,h.glob⟩;have hb:=lt_of_getElem? h1;exact (h.obj b o x (by rw [List.getElem?_append_left hb];exact h1) (zax h2).2).below (List.all_eq_true.1 hu _ (List.mem_of_getElem? h1)) (zlq _ _)
theorem HeapOK.whole {w w':World} {I I':Imm} {β β1:List Bnd} {H0 X H1:List SObj} (h:HeapOK G w I β (H0++X)) (hn:H0.length<=H1.length) (hu1:(H1.take H0.length).all (SObj.under H0.length)=true)
  (h1:HeapOK G w' I' β1 H1) (he:Ext H0.length w I (β.take H0.length) H0 w' I' β1 H1):
  HeapOK G w' I' (β1.take H0.length++β.drop H0.length) (H1.take H0.length++X)/\Ext (H0++X).length w I β (H0++X) w' I' (β1.take H0.length++β.drop H0.length) (H1.take H0.length++X):=by
 have hl:β.length=H0.length+X.length:=by rw [h.len];simp
 have hl1:β1.length=H1.length:=h1.len;have hbt:(β1.take H0.length).length=H0.length:=by simp;omega
 have hHt:(H1.take H0.length).length=H0.length:=by simp;omega
 have hsm:∀b c,wv H0 (β.take H0.length) b c->b<H0.length/\wv (H0++X) β b c:=fun b c ho=>by
  have:H0=(H0++X).take H0.length:=by simp
  rw [this] at ho;simp only [List.length_take,List.length_append] at ho;rw [show min H0.length (H0.length+X.length)=H0.length by omega] at ho;exact zxl ho
 have hown:∀b c,wv (H1.take H0.length++X) (β1.take H0.length++β.drop H0.length) b c->(b<H0.length/\wv H1 β1 b c)\/(H0.length<=b/\wv (H0++X) β b c):=by
  rintro b c ⟨o,x,a1,a2,a3,a4⟩;rcases Nat.lt_or_ge b H0.length with hb|hb
  ·rw [List.getElem?_append_left (by omega)] at a1 a3
   exact .inl ⟨hb,o,x,(zax a1).2,a2,(zax a3).2,a4⟩
  ·rw [List.getElem?_append_right (by omega),hHt] at a1
   rw [List.getElem?_append_right (by omega),hbt,List.getElem?_drop,show H0.length+(b-H0.length)=b by omega] at a3;exact .inr ⟨hb,o,x,by rw [List.getElem?_append_right hb];exact a1,a2,a3,a4⟩
 have hkeep:Keeps β.length β (β1.take H0.length++β.drop H0.length):=by
  intro b x hb hx;rcases Nat.lt_or_ge b H0.length with hlt|hge
  ·obtain ⟨y,hy,hxy⟩:=he.keep b x hlt (by rw [List.getElem?_take,if_pos hlt];exact hx)
   exact ⟨y,by rw [List.getElem?_append_left (by omega),List.getElem?_take,if_pos hlt];exact hy,hxy⟩
  ·exact ⟨x,by rw [List.getElem?_append_right (by omega),hbt,List.getElem?_drop,show H0.length+(b-H0.length)=b by omega];exact hx,x.le_refl⟩
 have hX:∀b c,H0.length<=b->wv (H0++X) β b c->∀b',¬wv H0 (β.take H0.length) b' c:=fun b c hb ho b' ho'=>by
  obtain ⟨h2,h3⟩:=hsm b' c ho';have:=h.inj b b' c ho h3;omega
 refine ⟨⟨by simp;omega,fun b o x a1 a2=>?_,fun b b' c a1 a2=>?_,h1.inI,h1.glob⟩,⟨he.imm,he.cell,?_,fun c hc hno=>he.old c hc (fun b hb=>hno b (hsm b c hb).2),fun b c ho=>?_,fun c o hi=>?_,he.size,he.env⟩⟩
 ·rcases Nat.lt_or_ge b H0.length with hb|hb
  ·rw [List.getElem?_append_left (by omega)] at a1 a2
   refine (h1.obj b o x (zax a1).2 (zax a2).2).below (n:=H0.length) (List.all_eq_true.1 hu1 _ (List.mem_of_getElem? a1)) (fun b' x' hb' hx'=>⟨x',?_,x'.le_refl⟩);rw [List.getElem?_append_left (by omega),List.getElem?_take,if_pos hb'];exact hx'
  ·rw [List.getElem?_append_right (by omega),hHt] at a1
   rw [List.getElem?_append_right (by omega),hbt,List.getElem?_drop,show H0.length+(b-H0.length)=b by omega] at a2;have a1':(H0++X)[b]?=some o:=by rw [List.getElem?_append_right hb];exact a1
   by_cases hd:o= .dead
   ·subst hd;trivial
   refine (h.obj b o x a1' a2).mono (fun c hc=>?_) he.imm he.cell hkeep (fun c o' hc hi=>?_)
   ·exact he.old c ((h.obj b o x a1' a2).block_lt hd hc) (hX b c hb ⟨o,x,a1',hd,a2,hc⟩)
   ·rcases he.new c o' hi with h2|⟨b',h2⟩|h2
    ·exact h2
    ·exact absurd h2 (hX b c hb ⟨o,x,a1',hd,a2,hc⟩ b')
    ·have:=(h.obj b o x a1' a2).block_lt hd hc;omega
 ·have mixed:∀b b',b<H0.length->wv H1 β1 b c->H0.length<=b'->wv (H0++X) β b' c->False:=by
   intro b b' _ ho hb' ho';rcases he.own b c ho with ⟨b2,h2⟩|h2
   ·exact hX b' c hb' ho' b2 h2
   ·have:=h.owns_lt ho';omega
  rcases hown b c a1 with ⟨hb,ho⟩|⟨hb,ho⟩<;>rcases hown b' c a2 with ⟨hb',ho'⟩|⟨hb',ho'⟩
  ·exact h1.inj b b' c ho ho'
  ·exact (mixed b b' hb ho hb' ho').elim
  ·exact (mixed b' b hb' ho' hb ho).elim
  ·exact h.inj b b' c ho ho'
 ·exact hkeep.mono (by rw [h.len];exact Nat.le_refl _)
 ·rcases hown b c ho with ⟨_,h2⟩|⟨_,h2⟩
  ·rcases he.own b c h2 with ⟨b',h3⟩|h3
   ·exact .inl ⟨b',(hsm b' c h3).2⟩
   ·exact .inr h3
  ·exact .inl ⟨b,h2⟩
 ·rcases he.new c o hi with h2|⟨b,h2⟩|h2
  ·exact .inl h2
  ·exact .inr (.inl ⟨b,(hsm b c h2).2⟩)
  ·exact .inr (.inr h2)
theorem zoz {w:World} {I:Imm} {β:List Bnd} {n:Nat} {v:Value} {s:SV} (h:Rep w I β v s) (hu:s.under n=true):Rep w I (β.take n) v s:=
 h.mono_below (fun _ _ h=>h) (fun _ _ _=>rfl) (zlq n β) hu
theorem zlr {w:World} {I:Imm} {β:List Bnd} {n:Nat} {vs:List Value} {ss:List SV} (h:Reps w I β vs ss) (hu:ss.all (SV.under n)=true):Reps w I (β.take n) vs ss:=
 ⟨h.len,fun j v s hv hs=>zoz (h.rep j v s hv hs) (List.all_eq_true.1 hu s (List.mem_of_getElem? hs))⟩
theorem xc {f:FuncId} {args:List SV} {H0:List SObj} {K:SV->List SObj->Prop} {c:Code} (hfn:P.funcs[f]?=some fn) (hb:fn.body=some c) (hn:args.length<=fn.ntmps)
  (hargs:args.all (SV.under H0.length)=true) (hH0:H0.all (SObj.under H0.length)=true)
  (h:∀E:En P G fn false,E.H.length=H0.length->(∀r H',H0.length<=H'.length->r.under H0.length=true->(H'.take H0.length).all (SObj.under H0.length)=true->K r (H'.take H0.length)->E.K r H')->SW E [.code c] (zvd 0 args) H0):
  SPre P G f args H0 K:=by
 intro X w I β vs hH hv;have hc:SCall P G f args H0 (fun r H'=>H0.length<=H'.length/\r.under H0.length=true/\(H'.take H0.length).all (SObj.under H0.length)=true/\K r (H'.take H0.length)):=
  ya hfn hb hn fun E hE hK=>h E hE (fun r H' a b c d=>hK r H' ⟨a,b,c,d⟩)
 refine (hc w I (β.take H0.length) vs (hH.small hH0) (zlr hv hargs)).mono ?_;rintro e w' ⟨v,r,I',β1,H1,rfl,⟨k1,k2,k3,k4⟩,h1,h2,h3⟩;obtain ⟨g1,g2⟩:=hH.whole k1 k3 h2 h3;refine ⟨v,r,I',_,_,rfl,⟨H1.take H0.length,k4,by simp;omega,rfl⟩,?_,g1,g2⟩;have hl1:β1.length=H1.length:=h2.len;refine h1.mono_below (m:=H0.length) (fun _ _ h=>h) (fun _ _ _=>rfl) (fun b x hb hx=>⟨x,?_,x.le_refl⟩) k2;rw [List.getElem?_append_left (by simp;omega),List.getElem?_take,if_pos hb];exact hx
theorem SPre.mono {f:FuncId} {args:List SV} {H0:List SObj} {K K':SV->List SObj->Prop} (h:SPre P G f args H0 K) (hK:∀r H1,K r H1->K' r H1):SPre P G f args H0 K':=
 fun X=>(h X).mono fun _ _ ⟨H1,h1,h2⟩=>⟨H1,hK _ _ h1,h2⟩
theorem zbn (n:Nat) {all:Array Oper} {o:Oper} {rest:List Oper} {fx:Operand} {args:Array Operand} {tys:Array TypeId} {f:FuncId} {first captured:List SV} {K:SV->List SObj->Prop}
  (hop:o.op= .call ⟨.value fx,args,tys⟩) (hw:zu all t o.guard=some true) (hd:yb fn.ntmps o.dst=true) (hf:zl G t fx= .fn (.func f) first captured) (hb:wk P f=true)
  {argv:List SV} (hargs:first++args.toList.map (zl G t)++captured=argv)
  (hc:SPre P G f argv (H.take n) K) (h:∀r H1,K r H1->H1.length=(H.take n).length->SWr E all rest k (xj t o.dst r) (H1++H.drop n)):SWr E all (o::rest) k t H:=by
 have hH:H=H.take n++H.drop n:=by simp
 refine zv hop hw hd hf hb hargs ?_;have:=hc (H.drop n);rw [<-hH] at this;refine this.mono ?_;rintro r H' ⟨H1,h1,h2,rfl⟩;refine ⟨?_,h r H1 h1 h2⟩;simp at h2 ⊢;omega
end
section
variable {P:Program} {G:List (Nat × D)} {fn:Func} {rd:Bool} {E:En P G fn rd} {t:List (Nat × SV)} {H:List SObj} {k:List Item}
theorem zpa {w w':World} {I:Imm} {β:List Bnd} {m:Nat} (hH:HeapOK G w I β H) (ob:Obj) (hw:w'=w.alloc ob):HeapOK G w' I β H/\Ext m w I β H w' I β H:=by
 subst hw;have hold:∀c,c<w.heap.size->(w.alloc ob).heap[c]?=w.heap[c]?:=fun c hc=>by
  show (w.heap.push ob)[c]?=_;rw [Array.getElem?_push,if_neg (by omega)]
 exact ⟨hH.grow hold (fun _ _ h=>h) (fun _ _ h=>.inl h) (fun c o hc=>by have:=hH.inI c o hc;simp;omega),.grow hH hold (by simp) (fun _ _ h=>h) (fun _ _ h=>.inl h) ⟨rfl,rfl⟩⟩
def En.baseR {P:Program} {G:List (Nat × D)} {fn:Func} {rd:Bool} (E:En P G fn rd):Frame:={E.base with roundOf:=E.ro}
theorem zco {E:En P G fn false} {fx:Operand} {params:Array Tmp} {assign body:Code} {g:FuncId} {first captured:List SV} (hf:zl G t fx= .fn (.func g) first captured) (hb:wk P g=true)
  (hc:SCall P G g (first++[.yld H.length]++captured) (H++[.loop .ready E.f fn.ntmps t params assign body]) (fun _ H'=>H.length+1<=H'.length/\∃s t',H'[H.length]?=some (.loop s E.f fn.ntmps t' params assign body)/\
   ((s= .ready/\SW E k t (H'.set H.length .dead))\/∃j,s= .done j/\SW E (.code j::k) t (H'.set H.length .dead)))):
  SW E (.code (.rangeFunc fx params assign body)::k) t H:=by
 refine ⟨fun a w I β cs hs=>?_⟩;have hfr:=hs.eval fx;rw [hf] at hfr;generalize hfv:a.eval fx=fv at hfr;cases hfr with
 |fn _ fs cps _ _ l1 l2 r1 r2=>
 obtain ⟨hH1,hE1⟩:=zpa (m:=H.length) hs.heap (.deferred (some [])) rfl;have hsz1:(w.alloc (.deferred (some []))).heap.size=w.heap.size+1:=by simp
 let r0:Loop:={state:=.ready,pending:=none,fn:=E.f,tmps:=a.tmps,params:=params,assign:=assign,body:=body,defers:=w.heap.size}
 have hobj:ObjOK ((w.alloc (.deferred (some []))).alloc (.loop r0)) I (β++[.blk (w.alloc (.deferred (some []))).heap.size]) (.loop .ready E.f fn.ntmps t params assign body) (.blk (w.alloc (.deferred (some []))).heap.size):=by
  obtain ⟨_,hE2⟩:=zpa (m:=β.length) hH1 (.loop r0) rfl;refine ⟨r0,yq _,⟨rfl,rfl⟩,rfl,hs.size,rfl,rfl,rfl,fun m=>?_,fun o ho=>?_⟩
  ·refine (hs.tmps m).mono (fun _ _ h=>h) (fun c o hc=>(hE2.cell c o hc).trans (hE1.cell c o hc)) (.push _ _ _)
  ·have:=hH1.inI _ o ho;omega
 obtain ⟨hH2,hE2⟩:=hH1.alloc (m:=H.length) (ob:=.loop r0) hobj;have hc0:∀v,a.eval (.const v)=v:=fun v=>by simp [Act.eval]
 have hen:=run_enterLoop_outer (P:=P) (w:=w) E.f a.tmps params assign body;have zby:=stepR_rangeFunc (P:=P) (b:=E.baseR) (a:=a) (k:=k) (cs:=cs) (w:=w) (g:=fx) (l:=w.heap.size+1) (d:={target:=.fn (.func g) cps,args:=fs++#[.func (.yield (w.heap.size+1)) #[] #[]]})
  (f:=g) (args:=fs++#[.func (.yield (w.heap.size+1)) #[] #[]]++cps) (w₁':=(w.alloc (.deferred (some []))).alloc (.loop r0)) (w₂:=(w.alloc (.deferred (some []))).alloc (.loop r0)) hen (by simp only [resolve,hfv,Deferred.ofValue];simp [hc0,r0]) (by simp only [invoke];exact jh hb)
 have hreps:Reps ((w.alloc (.deferred (some []))).alloc (.loop r0)) I (β++[.blk (w.alloc (.deferred (some []))).heap.size]) (fs++#[Value.func (.yield (w.heap.size+1)) #[] #[]]++cps).toList (first++[.yld H.length]++captured):=by
  have hm:∀{v s},Rep w I β v s->Rep ((w.alloc (.deferred (some []))).alloc (.loop r0)) I (β++[.blk (w.alloc (.deferred (some []))).heap.size]) v s:=fun hr=>
   hr.mono (fun _ _ h=>h) (fun c o hc=>(hE2.cell c o hc).trans (hE1.cell c o hc)) (.push _ _ _)
  have e1:Reps ((w.alloc (.deferred (some []))).alloc (.loop r0)) I (β++[.blk (w.alloc (.deferred (some []))).heap.size]) fs.toList first:=.of_get l1 (fun j h h'=>hm (r1 j h h'))
  have e3:Reps ((w.alloc (.deferred (some []))).alloc (.loop r0)) I (β++[.blk (w.alloc (.deferred (some []))).heap.size]) cps.toList captured:=.of_get l2 (fun j h h'=>hm (r2 j h h'));have e2:Reps ((w.alloc (.deferred (some []))).alloc (.loop r0)) I (β++[.blk (w.alloc (.deferred (some []))).heap.size]) [.func (.yield (w.heap.size+1)) #[] #[]] [.yld H.length]:=by
   refine .cons (hsz1 ▸ .yld H.length _ ?_) .nil;rw [<-hs.heap.len];simp
  simpa using (e1.append e2).append e3
 obtain ⟨e,w3,fr,hpost,hcomes,hfn,hleave⟩:=hc _ I _ _ hH2 hreps (E.at {a with defers:={target:=.collected w.heap.size,args:=#[]}::a.defers} (.inRangeFunc (w.heap.size+1)::k)::cs);obtain ⟨v,r,I3,β3,H3,rfl,⟨hlen3,s,t',hget,hway⟩,hv,hH3,hE3⟩:=hpost;obtain ⟨y,hy,hle⟩:=hE3.keep H.length (.blk (w.alloc (.deferred (some []))).heap.size) (by simp) (by rw [<-hs.heap.len];simp);cases hle;rw [hsz1] at hy;obtain ⟨r3,q1,q2,q3,q4,q5,q6,q7,q8,q9⟩:=hH3.obj H.length _ _ hget hy;have hnb:r3.state≠ .busy:=by
  rcases hway with ⟨rfl,_⟩|⟨j,rfl,_⟩
  ·rw [q2.1];simp
  ·rw [q2.1];simp
 obtain ⟨hH4,hE4⟩:=hH3.change (m:=H3.length) (o':=.dead) (w':=w3.putObj (w.heap.size+1) (.loop {r3 with state:=.exhausted})) hget (by simp) hy (fun c' hc'=>World.putObj_heap_other hc') (by simp) q9 trivial;have hEall:Ext H.length w I β H (w3.putObj (w.heap.size+1) (.loop {r3 with state:=.exhausted})) I3 β3 (H3.set H.length .dead):=
  (hE1.trans hE2).trans ((hE3.weaken (by simp)).trans (hE4.weaken (by omega)))
 have hsim:Sim E t (H3.set H.length .dead) {a with defers:={target:=.collected w.heap.size,args:=#[]}::a.defers} (w3.putObj (w.heap.size+1) (.loop {r3 with state:=.exhausted})) I3 β3:=by
  refine ⟨hH4,fun n=>(hs.tmps n).ext (by rw [hs.heap.len];exact hEall),hs.size,?_,hs.ext.trans (hEall.weaken hs.hlen),by have:=hs.hlen;simp;omega⟩;have m1:Marks E.w.heap.size (w.alloc (.deferred (some []))) β H ({target:=.collected w.heap.size,args:=#[]}::a.defers):=by
   obtain ⟨bs,d1,d2,d3⟩:=hs.defers.ext hE1;obtain ⟨bs',d1',d2',d3'⟩:=hs.defers;have hbb:bs'=bs:=by
    rw [d1] at d1';have:=congrArg (List.map fun d:Deferred=>match d.target with| .collected c=>c|_=>0) d1';simpa [Function.comp_def] using this.symm
   subst hbb;refine ⟨w.heap.size::bs',by simp [d1],List.nodup_cons.2 ⟨fun hm=>?_,d2⟩,fun c hc=>?_⟩
   ·have:=xw (d3' _ hm).2.1;omega
   ·rcases List.mem_cons.1 hc with rfl|hc
    ·exact ⟨hs.ext.size,yq _,fun b hb=>by have:=hs.heap.owns_lt hb;omega⟩
    ·exact d3 c hc
  exact ((m1.ext hE2).ext hE3).ext hE4
 have back:Steps P (lone (E.at a (.code (.rangeFunc fx params assign body)::k)) cs w) (lone (E.at {a with defers:={target:=.collected w.heap.size,args:=#[]}::a.defers} ((r3.pending.map Item.code).toList++k)) cs (w3.putObj (w.heap.size+1) (.loop {r3 with state:=.exhausted}))):=by
  refine .head zby (Steps.trans hcomes (.head (step_leave_returned hleave) (.one ?_)));have qr:=finish_atR_inRangeFunc (b:=E.baseR) (a:={a with defers:={target:=.collected w.heap.size,args:=#[]}::a.defers}) (k:=k) (w.heap.size+1) v;have hend:=stepR_endRangeFunc (b:=E.baseR) (a:={a with defers:={target:=.collected w.heap.size,args:=#[]}::a.defers}) (k:=k) (cs:=cs) (run_endLoop (P:=P) q1 hnb);rw [<-qr] at hend;exact hend
 refine .of_steps back ?_;rcases hway with ⟨rfl,hsw⟩|⟨j,rfl,hsw⟩
 ·have e:(r3.pending.map Item.code).toList++k=k:=by rw [q2.2];rfl
  rw [e];exact hsw.run _ _ _ _ _ hsim
 ·have e:(r3.pending.map Item.code).toList++k= .code j::k:=by rw [q2.2];rfl
  rw [e];exact hsw.run _ _ _ _ _ hsim
def SYield (P:Program) (G:List (Nat × D)) (b:Nat) (args:List SV) (H:List SObj) (K:Bool->List SObj->Prop):Prop:=
 ∀w I β l r (vs:Array Value),HeapOK G w I β H->β[b]?=some (.blk l)->w.heap[l]?=some (.loop r)->Reps w I β vs.toList args->∀c cs,
  ∃res w',(∃I' β' H',K res H'/\HeapOK G w' I' β' H'/\Ext H.length w I β H w' I' β' H')/\
   Steps P (lone (Frame.round l r.fn ((r.params.zip vs).foldl (fun tmps (t,a)=>tmps.setIfInBounds t a) r.tmps) r.assign r.body .normal) (c::cs) w) (lone (c.finish (.bool res)) cs w')
theorem zpb {b:Nat} {all:Array Oper} {o:Oper} {rest:List Oper} {fx:Operand} {args:Array Operand} {tys:Array TypeId} {s:LS} {f:FuncId} {n:Nat} {tL:List (Nat × SV)} {ps:Array Tmp} {aaz bd:Code}
  (hop:o.op= .call ⟨.value fx,args,tys⟩) (hw:zu all t o.guard=some true) (hd:yb fn.ntmps o.dst=true) (hf:zl G t fx= .yld b) (hH:H[b]?=some (.loop s f n tL ps aaz bd)) (hps:args.size=ps.size)
  {argv:List SV} (hargs:args.toList.map (zl G t)=argv)
  (hc:SYield P G b argv H (fun res H'=>H.length<=H'.length/\SWr E all rest k (xj t o.dst (.imm (.val (.bool res)))) H')):SWr E all (o::rest) k t H:=by
 refine ⟨fun j hj hdrop=>?_⟩;obtain ⟨h1,ho,h3⟩:=xy hdrop;rw [zao h1];subst hargs;refine ⟨fun a w I β cs hs=>?_⟩;have hwant:=qv hw hs;have hfr:=hs.eval fx;rw [hf] at hfr;generalize hfv:a.eval fx=fv at hfr;cases hfr with
 |yld _ l hbl=>
 obtain ⟨r,q1,q2,q3,q4,q5,q6,q7,q8,q9⟩:=hs.heap.obj b _ _ hH hbl;have hrun:(execOp a.eval o).run P w= .ok (.round l r.fn ((r.params.zip (args.map a.eval)).foldl (fun tmps (t,a)=>tmps.setIfInBounds t a) r.tmps) r.assign r.body) w:=by
  obtain ⟨dst,op,type,pos,after,guard⟩:=o;simp only at hop;subst hop;simp only [execOp,resolve,hfv,Deferred.ofValue,Sem.run_bind,Sem.run_pure,Result.andThen_ok,invoke];have:=run_yield (P:=P) (args:=#[]++args.map a.eval) q1 (by simp [hps,q5]);simpa using this
 have hreps:Reps w I β (args.map a.eval).toList (args.toList.map (zl G t)):=by simpa using zdy hs.eval args.toList
 obtain ⟨res,w',⟨I',β',H',⟨hl,hsw⟩,hH',hext⟩,hsteps⟩:=hc w I β l r _ hs.heap hbl q1 hreps (E.at a (.inRegion all (j::(List.range all.size).drop (j+1))::k)) cs;have hg:=jt (P:=P) (b:=E.base) (ro:=E.ro) (k:=k) (cs:=cs) (w:=w) (rest:=(List.range all.size).drop (j+1)) ho hwant (.inr fun c e=>by rw [hop] at e;cases e);have henter:step P (lone (E.at a (.inRegion all (j::(List.range all.size).drop (j+1))::k)) cs w)=
   .next (lone (Frame.round l r.fn ((r.params.zip (args.map a.eval)).foldl (fun tmps (t,a)=>tmps.setIfInBounds t a) r.tmps) r.assign r.body .normal) (E.at a (.inRegion all (j::(List.range all.size).drop (j+1))::k)::cs) w):=
  step_lone_go (by unfold En.at;rw [hg];simp only [stepG.apply,Sem.runT_eq,hrun,if_true,GStep.bare_after];rfl)
 have qr:(E.at a (.inRegion all (j::(List.range all.size).drop (j+1))::k)).finish (.bool res)=E.at (a.put o.dst (.bool res)) (.inRegion all ((List.range all.size).drop (j+1))::k):=by
  unfold En.at;rw [qm,ho];rfl
 rw [qr] at hsteps;exact .of_steps (.head henter hsteps) ((hsw.run (j+1) h1 h3).run _ w' I' β' cs (hs.put hd (.imm (.val _)) hH' hext hl))
def LS.of:Option Code->LS
 |none=>.ready
 |some j=>.done j
def yhm:List Tmp->List SV->List (Nat × SV)->List (Nat × SV)
 |p::ps,s::ss,t=>yhm ps ss ((p,s)::t)
 |_,_,t=>t
structure En.Own {P:Program} {G:List (Nat × D)} {fn:Func} {rd:Bool} (E:En P G fn rd) (b:Nat):Prop where
 at_:E.β[b]?=some (.blk E.l)
 lt:b<E.H.length
theorem yhn {E:En P G fn rd} {b:Nat} {a:Act} {w:World} {I:Imm} {β:List Bnd} (hE:E.Own b) (hs:Sim E t H a w I β):β[b]?=some (.blk E.l):=by
 obtain ⟨y,hy,hle⟩:=hs.ext.keep b _ hE.lt hE.at_;cases hle;exact hy
theorem zke {E:En P G fn true} {b:Nat} {f:FuncId} {n:Nat} {tL:List (Nat × SV)} {ps:Array Tmp} {aaz bd:Code} (hE:E.Own b) (hH:H[b]?=some (.loop .ready f n tL ps aaz bd))
  (h:SW E k t (H.set b (.loop .busy f n tL ps aaz bd))):SW E (.beginRound::k) t H:=by
 refine ⟨fun a w I β cs hs=>?_⟩;have hbl:=yhn hE hs;obtain ⟨r,q1,q2,q3,q4,q5,q6,q7,q8,q9⟩:=hs.heap.obj b _ _ hH hbl;have hcell:∀c o,I c o->(w.putObj E.l (.loop {r with state:=.busy})).cell? ⟨c,o,none⟩=w.cell? ⟨c,o,none⟩:=fun c o hc=>
  ye (World.putObj_heap_other (k:=c) (r:=E.l) (fun e=>q9 o (e ▸ hc))) o
 obtain ⟨hH4,hE4⟩:=hs.heap.change (m:=H.length) (o':=.loop .busy f n tL ps aaz bd) (w':=w.putObj E.l (.loop {r with state:=.busy})) hH (by simp) hbl (fun c' hc'=>World.putObj_heap_other hc') (by simp) q9
  ⟨_,World.putObj_heap_same (xw q1),rfl,q3,q4,q5,q6,q7,fun m=>(q8 m).mono (fun _ _ h=>h) hcell (.refl _ _),q9⟩
 have hst:=stepR_beginRound (P:=P) (b:=E.baseR) (a:=a) (k:=k) (cs:=cs) (w:=w) (l:=E.l) rfl (run_beginRound q1 q2.1);exact .of_steps (.one hst) (h.run a _ I β cs ⟨hH4,fun n=>(hs.tmps n).ext (by rw [hs.heap.len];exact hE4),hs.size,hs.defers.ext hE4,hs.ext.trans (hE4.weaken hs.hlen),by simpa using hs.hlen⟩)
theorem yet {w:World} {I:Imm} {β:List Bnd}:∀(ps:List Tmp) (vs:List Value) (ss:List SV) (tm:Array Value) (t:List (Nat × SV)),Reps w I β vs ss->(∀p∈ps,p<tm.size)->(∀m,Rep w I β (tm.getD m undef) (qh t m))->
  ((ps.zip vs).foldl (fun tmps (x:Tmp × Value)=>tmps.setIfInBounds x.1 x.2) tm).size=tm.size/\∀m,Rep w I β (((ps.zip vs).foldl (fun tmps (x:Tmp × Value)=>tmps.setIfInBounds x.1 x.2) tm).getD m undef) (qh (yhm ps ss t) m)
 |[],vs,ss,tm,t,_,_,h=>by
  cases ss<;>exact ⟨by simp,fun m=>by simpa [yhm] using h m⟩
 |p::ps,[],ss,tm,t,hr,_,h=>by
  have:ss=[]:=by have:=hr.len;simpa using this.symm
  subst this;exact ⟨by simp,fun m=>by simpa [yhm] using h m⟩
 |p::ps,v::vs,ss,tm,t,hr,hp,h=>by
  cases ss with
  |nil=>have:=hr.len;simp at this
  |cons s ss=>
   have h1:=hr.rep 0 v s rfl rfl;have h2:Reps w I β vs ss:=⟨by have:=hr.len;simpa using this,fun j v' s' hv hs=>hr.rep (j+1) v' s' (by simpa using hv) (by simpa using hs)⟩;have hp0:=hp p (by simp)
   obtain ⟨g1,g2⟩:=yet ps vs ss (tm.setIfInBounds p v) ((p,s)::t) h2 (fun q hq=>by simpa using hp q (by simp [hq])) (fun m=>by
    simp only [qh];split
    ·rename_i e
     subst e;have:(tm.setIfInBounds p v).getD p undef=v:=by simp [Array.getD,hp0]
     rw [this];exact h1
    ·rename_i hne
     have:(tm.setIfInBounds p v).getD m undef=tm.getD m undef:=by simp [Array.getElem?_setIfInBounds_ne hne]
     rw [this];exact h m)
   exact ⟨by simpa using g1,fun m=>by simpa [yhm] using g2 m⟩
theorem zxm (ps:Array Tmp) (vs tm:Array Value):(ps.zip vs).foldl (fun tmps (t,a)=>tmps.setIfInBounds t a) tm=(ps.toList.zip vs.toList).foldl (fun tmps (x:Tmp × Value)=>tmps.setIfInBounds x.1 x.2) tm:=by
 rw [<-Array.foldl_toList,Array.toList_zip]
theorem zcp {b:Nat} {f:FuncId} {n:Nat} {tL:List (Nat × SV)} {ps:Array Tmp} {aaz bd:Code} {args:List SV} {K:Bool->List SObj->Prop} (hH:H[b]?=some (.loop .ready f n tL ps aaz bd)) (hfn:P.funcs[f]?=some fn) (hn:n=fn.ntmps)
  (hps:∀p∈ps.toList,p<n)
  (h:∀E:En P G fn true,E.H.length=H.length->E.Own b->
   (∀jump H' t',H.length<=H'.length->H'[b]?=some (.loop .busy f n t' ps aaz bd)->K jump.isNone (H'.set b (.loop (.of jump) f n t' ps aaz bd))->E.KR jump H')->
   SW E [.code aaz,.beginRound,.code bd] (yhm ps.toList args tL) H):SYield P G b args H K:=by
 intro w I β l r vs hheap hbl hl hr c cs;obtain ⟨r',q1,q2,q3,q4,q5,q6,q7,q8,q9⟩:=hheap.obj b _ _ hH hbl;rw [hl] at q1;cases q1
 let E:En P G fn true:=⟨f,hfn,w,I,β,H,fun _ _=>False,l,fun jump H'=>∃t',H.length<=H'.length/\H'[b]?=some (.loop .busy f n t' ps aaz bd)/\K jump.isNone (H'.set b (.loop (.of jump) f n t' ps aaz bd)),fun _ _=>False⟩
 have hbH:=lt_of_getElem? hH;obtain ⟨g1,g2⟩:=yet ps.toList vs.toList args r.tmps tL hr (fun p hp=>by rw [q4];exact hps p hp) q8;have hgoal:=(h E rfl ⟨hbl,hbH⟩ (fun jump H' t' a b c=>⟨t',a,b,c⟩)).run {tmps:=(r.params.zip vs).foldl (fun tmps (t,a)=>tmps.setIfInBounds t a) r.tmps,defers:=[]} w I β (c::cs)
  ⟨hheap,fun m=>by rw [zxm,q5];exact g2 m,by rw [zxm,q5];rw [g1,q4,hn],.nil,.refl,Nat.le_refl _⟩
 obtain ⟨jump,w1,I1,β1,H1,⟨t',hlen,hget,hK⟩,hheap1,hext1,hrun⟩:=hgoal;obtain ⟨y,hy,hle⟩:=hext1.keep b _ hbH hbl;cases hle;obtain ⟨r1,p1,p2,p3,p4,p5,p6,p7,p8,p9⟩:=hheap1.obj b _ _ hget hy;have hend:=run_endRound (P:=P) jump p1;have hcell:∀c o,I1 c o->(w1.putObj l (.loop {r1 with state:=if jump.isNone then .ready else .done,pending:=jump})).cell? ⟨c,o,none⟩=w1.cell? ⟨c,o,none⟩:=fun c o hc=>
  ye (World.putObj_heap_other (k:=c) (r:=l) (fun e=>p9 o (e ▸ hc))) o
 obtain ⟨hH4,hE4⟩:=hheap1.change (m:=H1.length) (o':=.loop (.of jump) f n t' ps aaz bd) (w':=w1.putObj l (.loop {r1 with state:=if jump.isNone then .ready else .done,pending:=jump})) hget (by simp) hy (fun c' hc'=>World.putObj_heap_other hc') (by simp) p9
  ⟨_,World.putObj_heap_same (xw p1),by cases jump<;>exact ⟨rfl,rfl⟩,p3,p4,p5,p6,p7,fun m=>(p8 m).mono (fun _ _ h=>h) hcell (.refl _ _),p9⟩
 refine ⟨jump.isNone,_,⟨I1,β1,_,hK,hH4,Ext.trans hext1 (hE4.weaken hlen)⟩,?_⟩;have:=hrun _ _ hend c cs rfl;have hframe:Frame.round l r.fn ((r.params.zip vs).foldl (fun tmps (t,a)=>tmps.setIfInBounds t a) r.tmps) r.assign r.body .normal=E.at {tmps:=(r.params.zip vs).foldl (fun tmps (t,a)=>tmps.setIfInBounds t a) r.tmps,defers:=[]} [.code aaz,.beginRound,.code bd]:=by
  rw [q3,q6,q7];rfl
 rw [hframe];exact this
end
def SV.shut (b len:Nat) (d:D):SV->SV
 | .ptr c o=>if c=b then .any else .ptr c o
 | .osl c o l=>if c=b then (if o=0/\l=len then .imm d else .any) else .osl c o l
 | .fn f first captured=>.fn f (shutL b len d first) (shutL b len d captured)
 | .iface t v=>.iface t (v.shut b len d)
 | .agg cs=>.agg (shutL b len d cs)
 | .tup vs=>.tup (shutL b len d vs)
 |s=>s
where shutL (b len:Nat) (d:D):List SV->List SV
 |[]=>[]
 |s::r=>s.shut b len d::shutL b len d r
theorem xm (b len:Nat) (d:D):∀l,(SV.shut.shutL b len d l).length=l.length
 |[]=>rfl
 |s::r=>by simp [SV.shut.shutL,xm b len d r]
theorem zdj (b len:Nat) (d:D):∀(l:List SV) (j:Nat) (h:j<l.length) (h':j<(SV.shut.shutL b len d l).length),(SV.shut.shutL b len d l)[j]'h'=(l[j]'h).shut b len d
 |s::r,0,_,_=>rfl
 |s::r,j+1,h,h'=>by
  simp only [SV.shut.shutL,List.getElem_cons_succ];exact zdj b len d r j (by simpa using h) (by simpa [SV.shut.shutL] using h')
def SObj.shut (b len:Nat) (d:D):SObj->SObj
 | .cells cs=>.cells (SV.shut.shutL b len d cs)
 | .mapI k es=>.mapI k (es.map fun e=>(e.1,e.2.shut b len d))
 | .mapS es=>.mapS (es.map fun e=>(e.1,e.2.shut b len d))
 | .loop s f n t ps aaz bd=>.loop s f n (t.map fun x=>(x.1,x.2.shut b len d)) ps aaz bd
 | .vec k cs=>.vec k (SV.shut.shutL b len d cs)
 | .pin k es c=>.pin k (es.map fun e=>(e.1,e.2.1,e.2.2.shut b len d)) c
 |o=>o
theorem zxn (b len:Nat) (d:D) (t:List (Nat × SV)) (n:Nat):qh (t.map fun x=>(x.1,x.2.shut b len d)) n=(qh t n).shut b len d:=by
 induction t with
 |nil=>simp [qh,SV.shut]
 |cons x t ih=>
  simp only [List.map_cons,qh];split
  ·rfl
  ·exact ih
section
variable {P:Program} {G:List (Nat × D)} {fn:Func} {rd:Bool} {E:En P G fn rd} {t:List (Nat × SV)} {H:List SObj} {k:List Item}
theorem Rep.shut {w:World} {I I':Imm} {β:List Bnd} {v:Value} {s:SV} {b len c:Nat} {d:D} (h:Rep w I β v s) (hb:β[b]?=some (.blk c)) (hI:∀b o,I b o->I' b o)
  (hd:∀cap,len<=cap->cap<=maxLen->DRep w I' (.slice (some ⟨c,0,none⟩) len cap) d):Rep w I' β v (s.shut b len d):=by
 induction h with
 |any v=>exact .any v
 |imm h=>exact .imm (h.mono hI (fun _ _ _=>rfl))
 |ptr b' c' off h=>
  simp only [SV.shut];split
  ·exact .any _
  ·exact .ptr b' c' off h
 |osl b' c' off l cap h h1 h2=>
  simp only [SV.shut];split
  ·rename_i e
   subst e;split
   ·rename_i e
    obtain ⟨rfl,rfl⟩:=e;rw [hb] at h;cases h;exact .imm (hd cap h1 h2)
   ·exact .any _
  ·exact .osl b' c' off l cap h h1 h2
 |asl b' k rows v u n h hu hs hle heq=>exact .asl b' k rows v u n (h.mono hI (fun _ _ _=>rfl)) hu hs hle heq
 |map b' c' h=>exact .map b' c' h
 |yld b' c' h=>exact .yld b' c' h
 |vec b' n v u q h hs hle hv heq=>exact .vec b' n v u q h hs hle hv heq
 |vptr b' n off v a q cap h hle hv heq=>exact .vptr b' n off v a q cap h hle hv heq
 |fn f fs cs first captured h1 h2 _ _ ih1 ih2=>
  refine .fn f fs cs _ _ (by rw [xm];exact h1) (by rw [xm];exact h2) (fun j hj hj'=>?_) (fun j hj hj'=>?_)
  ·have hj2:j<first.length:=by rw [xm] at hj;exact hj
   rw [zdj _ _ _ _ _ hj2];exact ih1 j hj2 hj'
  ·have hj2:j<captured.length:=by rw [xm] at hj;exact hj
   rw [zdj _ _ _ _ _ hj2];exact ih2 j hj2 hj'
 |iface t v s _ ih=>exact .iface t v _ ih
 |agg vs cs h1 _ ih=>
  refine .agg vs _ (by rw [xm];exact h1) (fun j hj hj'=>?_);have hj2:j<cs.length:=by rw [xm] at hj;exact hj
  rw [zdj _ _ _ _ _ hj2];exact ih j hj2 hj'
 |tup vs ss h1 _ ih=>
  refine .tup vs _ (by rw [xm];exact h1) (fun j hj hj'=>?_);have hj2:j<ss.length:=by rw [xm] at hj;exact hj
  rw [zdj _ _ _ _ _ hj2];exact ih j hj2 hj'
theorem ObjOK.shut {w:World} {I I':Imm} {β:List Bnd} {o:SObj} {x:Bnd} {b len c:Nat} {d:D} (h:ObjOK w I β o x) (hb:β[b]?=some (.blk c)) (hI:∀b o,I b o->I' b o)
  (hd:∀cap,len<=cap->cap<=maxLen->DRep w I' (.slice (some ⟨c,0,none⟩) len cap) d) (hn:∀c' o,x.block=some c'->I' c' o->I c' o):ObjOK w I' β (o.shut b len d) x:=by
 cases o with
 |cells l=>
  cases x with
  |blk c'=>
   obtain ⟨vs,T,a1,a2,a3,a4⟩:=h;refine ⟨vs,T,a1,by rw [xm];exact a2,fun j hj hj'=>?_,fun o ho=>a4 o (hn c' o rfl ho)⟩;have hj2:j<l.length:=by rw [xm] at hj;exact hj
   rw [zdj _ _ _ _ _ hj2];exact (a3 j hj2 hj').shut hb hI hd
  |tok u=>exact h
 |mapI kk es=>
  cases x with
  |blk c'=>
   obtain ⟨vs,T,a1,a2,a3,a4⟩:=h;refine ⟨vs,T,a1,by simpa using a2,fun j hj hj'=>?_,fun o ho=>a4.1 o (hn c' o rfl ho),a4.2⟩;have hj2:j<es.length:=by simpa using hj
   simp only [List.getElem_map];exact ⟨(a3 j hj2 hj').1,(a3 j hj2 hj').2.shut hb hI hd⟩
  |tok u=>exact h
 |mapS es=>
  cases x with
  |blk c'=>
   obtain ⟨vs,T,a1,a2,a3,a4⟩:=h;refine ⟨vs,T,a1,by simpa using a2,fun j hj hj'=>?_,fun o ho=>a4.1 o (hn c' o rfl ho),a4.2⟩;have hj2:j<es.length:=by simpa using hj
   simp only [List.getElem_map];exact ⟨(a3 j hj2 hj').1,(a3 j hj2 hj').2.shut hb hI hd⟩
  |tok u=>exact h
 |tok kk m=>
  cases x with
  |blk c'=>exact h
  |tok u=>
   rcases h with h|⟨c',cap,vs,T,rfl,h1,h2,h3,h4,h5⟩
   ·exact .inl h
   ·exact .inr ⟨c',cap,vs,T,rfl,h1,h2,h3,h4,fun o ho hi=>h5 o ho (hn c' o rfl hi)⟩
 |loop s f m' tt ps aaz bd=>
  cases x with
  |blk c'=>
   obtain ⟨r,a1,a2,a3,a4,a5,a6,a7,a8,a9⟩:=h;exact ⟨r,a1,a2,a3,a4,a5,a6,a7,fun m=>by rw [zxn];exact (a8 m).shut hb hI hd,fun o ho=>a9 o (hn c' o rfl ho)⟩
  |tok u=>exact h
 |vec kk l=>
  cases x with
  |blk c'=>exact h
  |tok u=>
   rcases h with ⟨rfl,h⟩|⟨c',n',cap,vs,T,rfl,a1,a2,a3,a4,a5,a6,a7⟩
   ·exact .inl ⟨rfl,h⟩
   ·refine .inr ⟨c',n',cap,vs,T,rfl,a1,a2,a3,a4,by rw [xm];exact a5,fun j hj hj'=>?_,fun o ho=>a7 o (hn c' o rfl ho)⟩
    have hj2:j<l.length:=by rw [xm] at hj;exact hj
    rw [zdj _ _ _ _ _ hj2];exact (a6 j hj2 hj').shut hb hI hd
 |dead=>trivial
 |free=>cases x<;>exact h
 |bld T=>
  cases x with
  |blk c'=>exact ⟨h.1,fun o ho=>h.2 o (hn c' o rfl ho)⟩
  |tok u=>exact h
 |btok T n=>
  cases x with
  |blk c'=>exact h
  |tok u=>
   rcases h with h|⟨c',cap,vs,rfl,h1,h2,h3,h4,h5⟩
   ·exact .inl h
   ·exact .inr ⟨c',cap,vs,rfl,h1,h2,h3,h4,fun o ho hi=>h5 o ho (hn c' o rfl hi)⟩
 |pin kk es clock=>
  cases x with
  |blk c'=>
   obtain ⟨vs,a1,a2,a3,a4⟩:=h;refine ⟨vs,a1,by simpa using a2,fun j hj hj'=>?_,fun o ho=>a4.1 o (hn c' o rfl ho),a4.2⟩;have hj2:j<es.length:=by simpa using hj
   simp only [List.getElem_map];exact ⟨(a3 j hj2 hj').1,(a3 j hj2 hj').2.1,(a3 j hj2 hj').2.2.shut hb hI hd⟩
  |tok u=>exact h
 |iter m' since seen last=>
  cases x with
  |blk c'=>
   obtain ⟨cm,a1,a2,a3⟩:=h;exact ⟨cm,a1,a2,fun o ho=>a3 o (hn c' o rfl ho)⟩
  |tok u=>exact h
theorem yky {b len:Nat} {d:D} {o:SObj} (h:o.shut b len d≠ .dead):o≠ .dead:=fun e=>h (by rw [e];rfl)
theorem yqe (b len kk : Nat) {cs junk : List SV} {ds : List D} (hb : H[b]? = some (.cells (cs ++ junk))) (hone : cs.all SV.one = true) (hds : cs.mapM SV.toD = some ds) (hlen : cs.length = len * kk)
    (h : SW E k (t.map fun x => (x.1, x.2.shut b len (.isl kk (qo kk ds len)))) ((H.set b .dead).map (SObj.shut b len (.isl kk (qo kk ds len))))) : SW E k t H := by
  refine ⟨fun a w I β cs' hs => ?_⟩
  have hbl := lt_of_getElem? hb
  obtain ⟨x, hx⟩ : ∃ x, β[b]? = some x := ⟨β[b]'(by rw [hs.heap.len]; exact hbl), List.getElem?_eq_getElem _⟩
  have hob := hs.heap.obj b _ _ hb hx
  cases x with
  | tok u => exact hob.elim
  | blk c =>
  obtain ⟨vs, T, a1, a2', a3', a4⟩ := hob
  obtain ⟨hdl, hdg⟩ := zns hds
  have a2 : cs.length <= vs.size := by rw [a2']; simp
  have a3 : ∀ j (h : j < cs.length) (h' : j < vs.size), Rep w I β (vs[j]'h') (cs[j]'h) := fun j h h' => by
    have := a3' j (by simp; omega) h'
    rwa [List.getElem_append_left h] at this
  have hI : ∀ b o, I b o -> (I.plus c cs.length) b o := fun _ _ h => .inl h
  have hown : wv H β b c := ⟨_, _, hb, by simp, hx, rfl⟩
  have hd : ∀ cap, len <= cap -> cap <= maxLen -> DRep w (I.plus c cs.length) (.slice (some ⟨c, 0, none⟩) len cap) (.isl kk (qo kk ds len)) := by
    intro cap h1 h2
    refine zon (vs := vs.toList.take cs.length) (by rw [hdl, hlen]) (fun o ho => .inr ⟨rfl, by omega⟩) (fun o ho => ?_) (by simp; omega) (fun v hv => ?_) (fun o v d hv hd => ?_) h1 h2
    · rw [cell_of_heap a1, List.getElem?_take_of_lt (by omega)]; simp
    · obtain ⟨j, hj, rfl⟩ := List.mem_iff_getElem.1 hv
      have hjj : j < cs.length /\ j < vs.size := by simp at hj; omega
      have hj' := hjj.2
      have := (a3 j (by omega) hj').oneCell (List.all_eq_true.1 hone _ (List.getElem_mem (by omega)))
      simpa using this
    · have hvv : o < cs.length /\ o < vs.size := by have := lt_of_getElem? hv; simp at this; omega
      have hv' := hvv.2
      have ho : o < cs.length := hvv.1
      rw [List.getElem?_take_of_lt ho] at hv
      obtain ⟨d', hd', hs'⟩ := hdg o _ (List.getElem?_eq_getElem ho)
      rw [hd] at hd'
      cases hd'
      have hvv : v = vs[o] := by simpa [hv'] using hv.symm
      subst hvv
      exact ((a3 o ho hv').toD hs').mono hI (fun _ _ _ => rfl)
  have hnew : ∀ c' o, (I.plus c cs.length) c' o -> I c' o \/ c' = c := fun c' o hi => hi.imp id (·.1)
  have hown' : ∀ b' c', wv ((H.set b .dead).map (SObj.shut b len (.isl kk (qo kk ds len)))) β b' c' -> b' ≠ b /\ wv H β b' c' := by
    rintro b' c' ⟨o, x, h1, h2, h3, h4⟩
    rw [List.getElem?_map] at h1
    have hne : b' ≠ b := by
      rintro rfl
      rw [List.getElem?_set_self hbl] at h1
      simp [SObj.shut] at h1
      exact h2 h1.symm
    rw [List.getElem?_set_ne (Ne.symm hne)] at h1
    cases ho : H[b']? with
    | none => simp [ho] at h1
    | some o0 =>
      simp [ho] at h1
      subst h1
      exact ⟨hne, o0, x, ho, yky h2, h3, h4⟩
  refine h.run a w (I.plus c cs.length) β cs' ⟨⟨by simp [hs.heap.len], fun b' o x h1 h2 => ?_, fun b1 b2 c' h1 h2 => hs.heap.inj b1 b2 c' (hown' b1 c' h1).2 (hown' b2 c' h2).2, fun c' o hi => ?_, fun g d hg => (hs.heap.glob g d hg).mono hI (fun _ _ _ => rfl)⟩,
    fun n => by rw [zxn]; exact (hs.tmps n).shut hx hI hd, hs.size, ?_, ?_, by simpa using hs.hlen⟩
  · rw [List.getElem?_map] at h1
    by_cases hne : b' = b
    · subst hne
      rw [List.getElem?_set_self hbl] at h1
      simp [SObj.shut] at h1
      subst h1
      trivial
    · rw [List.getElem?_set_ne (Ne.symm hne)] at h1
      cases ho : H[b']? with
      | none => simp [ho] at h1
      | some o0 =>
        simp [ho] at h1
        subst h1
        by_cases hdead : o0 = .dead
        · subst hdead; trivial
        · refine (hs.heap.obj b' o0 x ho h2).shut hx hI hd (fun c' o hc hi => ?_)
          rcases hnew c' o hi with h3 | rfl
          · exact h3
          · exact absurd (hs.heap.inj b' b c' ⟨o0, x, ho, hdead, h2, hc⟩ hown) hne
  · rcases hnew c' o hi with h3 | rfl
    · exact hs.heap.inI c' o h3
    · exact xw a1
  · obtain ⟨bs, d1, d2, d3⟩ := hs.defers
    exact ⟨bs, d1, d2, fun c' hc => ⟨(d3 c' hc).1, (d3 c' hc).2.1, fun b' hb' => (d3 c' hc).2.2 b' (hown' b' c' hb').2⟩⟩
  · exact { hs.ext with
      imm := fun c' o hi => hI _ _ (hs.ext.imm c' o hi)
      own := fun b' c' ho => hs.ext.own b' c' (hown' b' c' ho).2
      new := fun c' o hi => by
        rcases hnew c' o hi with h3 | rfl
        · exact hs.ext.new c' o h3
        · exact .inr (hs.ext.own b c' hown) }
theorem zhv (ds:List D):qo 1 ds ds.length=ds.map fun d=>[d]:=by
 induction ds with
 |nil=>rfl
 |cons d ds ih=>simp [qo,ih]
theorem zkf (ds:List D):(ds.map SV.imm).mapM SV.toD=some ds:=by
 induction ds with
 |nil=>rfl
 |cons d ds ih=>rw [List.map_cons,List.mapM_cons];simp [SV.toD,ih]
end
def SV.free:SV->Bool
 | .any=>true
 | .imm (.val _)=>true
 | .imm _=>false
 | .ptr _ _=>true
 | .osl _ _ _=>true
 | .asl _ _ _=>false
 | .map _=>true
 | .yld _=>true
 | .vec _ _=>false
 | .vptr _ _ _=>false
 | .fn _ first captured=>freeL first&&freeL captured
 | .iface _ v=>v.free
 | .agg cs=>freeL cs
 | .tup vs=>freeL vs
where freeL:List SV->Bool
 |[]=>true
 |s::r=>s.free&&freeL r
section
variable {P:Program} {G:List (Nat × D)} {fn:Func} {rd:Bool} {E:En P G fn rd} {t:List (Nat × SV)} {H:List SObj} {k:List Item}
end
def jo {κ α:Type} (f:α->SV) (l:List (κ × α)):List (κ × SV):=l.map fun p=>(p.1,f p.2)
def yf {κ α:Type} [BEq κ] (k:κ):List (κ × α)->Option α
 |[]=>none
 |(k',s)::r=>if k==k' then some s else yf k r
def zcz {κ α:Type} [BEq κ] (k:κ) (s:α):List (κ × α)->List (κ × α)
 |[]=>[(k,s)]
 |(k',s')::r=>if k==k' then (k,s)::r else (k',s')::zcz k s r
instance:LawfulBEq ByteArray where
 eq_of_beq h:=(zos _ _).1 h
 rfl:=(zos _ _).2 rfl
theorem yqf {κ α:Type} [BEq κ] (f:α->SV) (k:κ) (l:List (κ × α)):yka k (jo f l)=(yf k l).map f:=by
 induction l with
 |nil=>rfl
 |cons p l ih=>
  simp only [jo,List.map_cons,yka,yf];split
  ·rfl
  ·exact ih
theorem yeu {κ α:Type} [BEq κ] (f:α->SV) (k:κ) (s:α) (l:List (κ × α)):yps k (f s) (jo f l)=jo f (zcz k s l):=by
 induction l with
 |nil=>rfl
 |cons p l ih=>
  simp only [jo,List.map_cons,yps,zcz];split
  ·rfl
  ·simp only [List.map_cons];congr 1
theorem zls {κ α:Type} [BEq κ] [LawfulBEq κ] (k k':κ) (s:α) (l:List (κ × α)):yf k (zcz k' s l)=if k==k' then some s else yf k l:=by
 induction l with
 |nil=>simp [zcz,yf]
 |cons p l ih=>
  obtain ⟨q,v⟩:=p;simp only [zcz]
  by_cases h1:k'==q
  ·rw [if_pos h1]
   have:=eq_of_beq h1;subst this;simp only [yf]
   by_cases h2:k==k'<;>simp [h2]
  ·rw [if_neg h1]
   simp only [yf,ih]
   by_cases h2:k==q
   ·have:=eq_of_beq h2
    subst this;have h3:(k==k')=false:=by
     cases h:k==k' with
     |false=>rfl
     |true=>have:=eq_of_beq h;subst this;simp at h1
    simp [h3]
   ·simp [h2]
section
variable {P:Program} {G:List (Nat × D)} {fn:Func} {rd:Bool} {E:En P G fn rd} {t:List (Nat × SV)} {H:List SObj} {k:List Item}
variable {all:Array Oper} {o:Oper} {rest:List Oper} {ty kt et:Nat} {x ix:Operand} {b:Nat} {z:Value} {α:Type} {f:α->SV}
theorem zkg {kk:IntKind} {i:Int} {l:List (Int × α)} {ok:Bool} (hx:zl G t x= .map b) (hi:zl G t ix= .imm (.val (.int kk i))) (hb:H[b]?=some (.mapI kk (jo f l)))
  (hu:P.underlying ty=some (.map kt et)) (hk:P.underlying kt=some (.int kk)) (hz:jx P et=some z):
  sop P (.lookup ty x ix ok) (zl G t) H=some (if ok then .tup [((yf i l).map f).getD (jl z),.imm (.val (.bool (yf i l).isSome))] else ((yf i l).map f).getD (jl z),H):=by
 simp only [sop,ybc,hu,hk,hz,hx,hi,hb,and_self,if_true,yqf,Option.isSome_map];cases ok<;>rfl
theorem zkh {kk:IntKind} {i:Int} {l:List (Int × α)} (f:α->SV) {v:SV} (hop:o.op= .lookup ty x ix false) (hw:zu all t o.guard=some true) (hd:yb fn.ntmps o.dst=true)
  (hx:zl G t x= .map b) (hi:zl G t ix= .imm (.val (.int kk i))) (hu:P.underlying ty=some (.map kt et)) (hk:P.underlying kt=some (.int kk)) (hz:jx P et=some z)
  (hb:H[b]?=some (.mapI kk (jo f l))) (hv:((yf i l).map f).getD (jl z)=v) (h:SWr E all rest k (xj t o.dst v) H):SWr E all (o::rest) k t H:=
 qy hw hd (by rw [hop,zkg hx hi hb hu hk hz,hv];rfl) (Nat.le_refl _) h
theorem zbh {kk:IntKind} {i:Int} {l:List (Int × α)} (f:α->SV) {v:SV} {p:Bool} (hop:o.op= .lookup ty x ix true) (hw:zu all t o.guard=some true) (hd:yb fn.ntmps o.dst=true)
  (hx:zl G t x= .map b) (hi:zl G t ix= .imm (.val (.int kk i))) (hu:P.underlying ty=some (.map kt et)) (hk:P.underlying kt=some (.int kk)) (hz:jx P et=some z)
  (hb:H[b]?=some (.mapI kk (jo f l))) (hv:((yf i l).map f).getD (jl z)=v) (hp:(yf i l).isSome=p) (h:SWr E all rest k (xj t o.dst (.tup [v,.imm (.val (.bool p))])) H):SWr E all (o::rest) k t H:=
 qy hw hd (by rw [hop,zkg hx hi hb hu hk hz,hv,hp];rfl) (Nat.le_refl _) h
theorem ykz {kk:IntKind} {i:Int} {l:List (Int × α)} (f:α->SV) {v:SV} (hop:o.op= .lookup ty x ix false) (hw:zu all t o.guard=some true) (hd:yb fn.ntmps o.dst=true)
  (hx:zl G t x= .map b) (hi:zl G t ix= .imm (.val (.int kk i))) (hu:P.underlying ty=some (.map kt et)) (hk:P.underlying kt=some (.int kk)) (hz:jx P et=some z)
  (hb:H[b]?=some (.mapI kk (jo f l))) (hv:((yf i l).map f).getD (jl z)=v) (h:SWd E all rest k (xj t o.dst v) H):SWd E all (o::rest) k t H:=
 zmo hw hd (by rw [hop,zkg hx hi hb hu hk hz,hv];rfl) h
theorem zea {kk:IntKind} {i:Int} {l:List (Int × α)} (f:α->SV) {vx:Operand} (v:α) (hop:o.op= .mapUpdate ty x ix vx) (hw:zu all t o.guard=some true) (hd:yb fn.ntmps o.dst=true)
  (hx:zl G t x= .map b) (hi:zl G t ix= .imm (.val (.int kk i))) (hv:zl G t vx=f v) (hu:P.underlying ty=some (.map kt et)) (hk:P.underlying kt=some (.int kk))
  (hb:H[b]?=some (.mapI kk (jo f l))) (h:SWr E all rest k (xj t o.dst .any) (H.set b (.mapI kk (jo f (zcz i v l))))):SWr E all (o::rest) k t H:=
 qy hw hd (by rw [hop];simp [sop,zgo,hu,hk,hx,hi,hb,hv,yeu]) (by simp) h
end
def jj:Bnd:=.tok (.bool false)
section
variable {w w':World} {I I':Imm} {β β':List Bnd} {v:Value} {s:SV}
theorem Rep.under {w:World} {I:Imm} {β:List Bnd} {v:Value} {s:SV} (h:Rep w I β v s):s.under β.length=true:=by
 have all:∀l:List SV,(∀j (h:j<l.length),(l[j]'h).under β.length=true)->SV.under.allUnder β.length l=true:=by
  intro l
  induction l with
  |nil=>intro _;rfl
  |cons x l ih=>intro h;simp only [SV.under.allUnder,Bool.and_eq_true];exact ⟨h 0 (by simp),ih fun j hj=>h (j+1) (by simpa using hj)⟩
 induction h with
 |any=>rfl
 |imm=>rfl
 |ptr b c off h=>simpa [SV.under] using lt_of_getElem? h
 |osl b c off l cap h=>simpa [SV.under] using lt_of_getElem? h
 |asl b k rows v u n h hu=>simpa [SV.under] using lt_of_getElem? hu
 |map b c h=>simpa [SV.under] using lt_of_getElem? h
 |yld b c h=>simpa [SV.under] using lt_of_getElem? h
 |vec b n v u q h=>simpa [SV.under] using lt_of_getElem? h
 |vptr b n off v a q cap h=>simpa [SV.under] using lt_of_getElem? h
 |fn f fs cs first captured h1 h2 _ _ ih1 ih2=>
  simp only [SV.under,Bool.and_eq_true];exact ⟨all _ fun j hj=>ih1 j hj (by omega),all _ fun j hj=>ih2 j hj (by omega)⟩
 |iface t v s _ ih=>exact ih
 |agg vs cs h1 _ ih=>exact all _ fun j hj=>ih j hj (by omega)
 |tup vs ss h1 _ ih=>exact all _ fun j hj=>ih j hj (by omega)
def KeepsD (m:Nat) (β β':List Bnd):Prop:=∀b x,b<m->β[b]?=some x->x≠jj->∃y,β'[b]?=some y/\x.le y
theorem Rep.monoD {m:Nat} (h:Rep w I β v s) (hI:∀b o,I b o->I' b o) (hw:∀b o,I b o->w'.cell? ⟨b,o,none⟩=w.cell? ⟨b,o,none⟩) (hβ:KeepsD m β β') (hb:s.under m=true):Rep w' I' β' v s:=by
 induction h with
 |any v=>exact .any v
 |imm h=>exact .imm (h.mono hI hw)
 |ptr b c off h=>
  obtain ⟨y,hy,hl⟩:=hβ b _ (by simpa [SV.under] using hb) h (by simp [jj]);cases hl;exact .ptr b c off hy
 |osl b c off len cap h h1 h2=>
  obtain ⟨y,hy,hl⟩:=hβ b _ (by simpa [SV.under] using hb) h (by simp [jj]);cases hl;exact .osl b c off len cap hy h1 h2
 |asl b k rows v u n h hu hs hle heq=>
  obtain ⟨y,hy,hl0⟩:=hβ b _ (by simpa [SV.under] using hb) hu (by obtain ⟨a,cap,rfl⟩:=hs;simp [jj]);obtain ⟨u',rfl,hl⟩:=hl0.resolve_left (by obtain ⟨a,cap,rfl⟩:=hs;simp);rcases hl with rfl|⟨a,n1,cap,a',n',cap',rfl,rfl,hn⟩
  ·exact .asl b k rows v _ n (h.mono hI hw) hy hs hle heq
  ·obtain ⟨a2,cap2,e⟩:=hs
   cases e;exact .asl b k rows v _ n' (h.mono hI hw) hy ⟨a',cap',rfl⟩ (by omega) (by omega)
 |map b c h=>
  obtain ⟨y,hy,hl⟩:=hβ b _ (by simpa [SV.under] using hb) h (by simp [jj]);cases hl;exact .map b c hy
 |yld b c h=>
  obtain ⟨y,hy,hl⟩:=hβ b _ (by simpa [SV.under] using hb) h (by simp [jj]);cases hl;exact .yld b c hy
 |vec b n v u q h hs hle hv heq=>
  obtain ⟨y,hy,hl0⟩:=hβ b _ (by simpa [SV.under] using hb) h (by obtain ⟨a,cap,rfl⟩:=hs;simp [jj]);obtain ⟨u',rfl,hl⟩:=hl0.resolve_left (by obtain ⟨a,cap,rfl⟩:=hs;simp);rcases hl with rfl|⟨a,n1,cap,a',n',cap',rfl,rfl,hn⟩
  ·exact .vec b n v _ q hy hs hle hv heq
  ·obtain ⟨a2,cap2,e⟩:=hs
   cases e;exact .vec b n v _ n' hy ⟨a',cap',rfl⟩ (by omega) hv (by omega)
 |vptr b n off v a q cap h hle hv heq=>
  obtain ⟨y,hy,hl0⟩:=hβ b _ (by simpa [SV.under] using hb) h (by simp [jj]);obtain ⟨u',rfl,hl⟩:=hl0.resolve_left (by simp);rcases hl with rfl|⟨a1,n1,cap1,a',n',cap',e,rfl,hn⟩
  ·exact .vptr b n off v a q cap hy hle hv heq
  ·cases e
   exact .vptr b n off v a' n' cap' hy (by omega) hv (by omega)
 |fn f fs cs first captured h1 h2 _ _ ih1 ih2=>
  simp [SV.under] at hb;exact .fn f fs cs first captured h1 h2 (fun j hj hj'=>ih1 j hj hj' (yj hb.1 j hj)) (fun j hj hj'=>ih2 j hj hj' (yj hb.2 j hj))
 |iface t v s _ ih=>exact .iface t v s (ih (by simpa [SV.under] using hb))
 |agg vs cs h1 _ ih=>
  simp [SV.under] at hb;exact .agg vs cs h1 (fun j hj hj'=>ih j hj hj' (yj hb j hj))
 |tup vs ss h1 _ ih=>
  simp [SV.under] at hb;exact .tup vs ss h1 (fun j hj hj'=>ih j hj hj' (yj hb j hj))
theorem ObjOK.belowD {n:Nat} {o:SObj} {x:Bnd} (h:ObjOK w I β o x) (hu:o.under n=true) (hk:KeepsD n β β'):ObjOK w I β' o x:=by
 have hmono:∀{v s},Rep w I β v s->s.under n=true->Rep w I β' v s:=fun hr hu=>hr.monoD (fun _ _ h=>h) (fun _ _ _=>rfl) hk hu
 cases o with
 |cells l=>
  cases x with
  |blk c=>
   obtain ⟨vs,T,a1,a2,a3,a4⟩:=h;exact ⟨vs,T,a1,a2,fun j hj hj'=>hmono (a3 j hj hj') (yj hu j hj),a4⟩
  |tok u=>exact h
 |mapI kk es=>
  cases x with
  |blk c=>
   obtain ⟨vs,T,a1,a2,a3,a4⟩:=h;exact ⟨vs,T,a1,a2,fun j hj hj'=>⟨(a3 j hj hj').1,hmono (a3 j hj hj').2 (List.all_eq_true.1 hu _ (List.getElem_mem hj))⟩,a4⟩
  |tok u=>exact h
 |mapS es=>
  cases x with
  |blk c=>
   obtain ⟨vs,T,a1,a2,a3,a4⟩:=h;exact ⟨vs,T,a1,a2,fun j hj hj'=>⟨(a3 j hj hj').1,hmono (a3 j hj hj').2 (List.all_eq_true.1 hu _ (List.getElem_mem hj))⟩,a4⟩
  |tok u=>exact h
 |tok kk m=>cases x<;>exact h
 |loop s f m' tt ps aaz bd=>
  cases x with
  |blk c=>
   obtain ⟨r,a1,a2,a3,a4,a5,a6,a7,a8,a9⟩:=h;exact ⟨r,a1,a2,a3,a4,a5,a6,a7,fun m=>hmono (a8 m) (zes hu m),a9⟩
  |tok u=>exact h
 |vec kk l=>
  cases x with
  |blk c=>exact h
  |tok u=>
   rcases h with h|⟨c,n',cap,vs,T,rfl,a1,a2,a3,a4,a5,a6,a7⟩
   ·exact .inl h
   ·exact .inr ⟨c,n',cap,vs,T,rfl,a1,a2,a3,a4,a5,fun j hj hj'=>hmono (a6 j hj hj') (yj hu j hj),a7⟩
 |dead=>trivial
 |free=>cases x<;>exact h
 |bld T=>cases x<;>exact h
 |btok T n=>cases x<;>exact h
 |pin kk es clock=>
  cases x with
  |blk c=>
   obtain ⟨vs,a1,a2,a3,a4⟩:=h;exact ⟨vs,a1,a2,fun j hj hj'=>⟨(a3 j hj hj').1,(a3 j hj hj').2.1,hmono (a3 j hj hj').2.2 (List.all_eq_true.1 hu _ (List.getElem_mem hj))⟩,a4⟩
  |tok u=>exact h
 |iter m' since seen last=>
  cases x with
  |blk c=>
   obtain ⟨cm,a1,a2⟩:=h;obtain ⟨y,hy,hl⟩:=hk m' _ (by simpa [SObj.under] using hu) a1 (by simp [jj]);cases hl;exact ⟨cm,hy,a2⟩
  |tok u=>exact h
theorem ObjOK.under {o:SObj} {x:Bnd} (h:ObjOK w I β o x):o.under β.length=true\/∃s f n t ps aaz bd,o= .loop s f n t ps aaz bd:=by
 have all:∀l:List SV,(∀j (h:j<l.length),(l[j]'h).under β.length=true)->SV.under.allUnder β.length l=true:=by
  intro l
  induction l with
  |nil=>intro _;rfl
  |cons x l ih=>intro h;simp only [SV.under.allUnder,Bool.and_eq_true];exact ⟨h 0 (by simp),ih fun j hj=>h (j+1) (by simpa using hj)⟩
 cases o with
 |cells l=>
  cases x with
  |blk c=>obtain ⟨vs,T,a1,a2,a3,a4⟩:=h;exact .inl (all l fun j hj=>(a3 j hj (by omega)).under)
  |tok u=>exact h.elim
 |mapI kk es=>
  cases x with
  |blk c=>
   obtain ⟨vs,T,a1,a2,a3,a4⟩:=h;refine .inl (List.all_eq_true.2 fun e he=>?_);obtain ⟨j,hj,rfl⟩:=List.mem_iff_getElem.1 he;exact (a3 j hj (by omega)).2.under
  |tok u=>exact h.elim
 |mapS es=>
  cases x with
  |blk c=>
   obtain ⟨vs,T,a1,a2,a3,a4⟩:=h;refine .inl (List.all_eq_true.2 fun e he=>?_);obtain ⟨j,hj,rfl⟩:=List.mem_iff_getElem.1 he;exact (a3 j hj (by omega)).2.under
  |tok u=>exact h.elim
 |tok kk m=>exact .inl rfl
 |vec kk l=>
  cases x with
  |blk c=>exact h.elim
  |tok u=>
   rcases h with ⟨rfl,_⟩|⟨c,n',cap,vs,T,rfl,a1,a2,a3,a4,a5,a6,a7⟩
   ·exact .inl rfl
   ·exact .inl (all l fun j hj=>(a6 j hj (by rw [a2];rw [a5] at hj;exact Nat.lt_of_lt_of_le hj (Nat.mul_le_mul_right kk a3))).under)
 |loop s f n t ps aaz bd=>exact .inr ⟨_,_,_,_,_,_,_,rfl⟩
 |dead=>exact .inl rfl
 |free=>exact .inl rfl
 |bld T=>exact .inl rfl
 |btok T n=>exact .inl rfl
 |pin kk es clock=>
  cases x with
  |blk c=>
   obtain ⟨vs,a1,a2,a3,a4⟩:=h;refine .inl (List.all_eq_true.2 fun e he=>?_);obtain ⟨j,hj,rfl⟩:=List.mem_iff_getElem.1 he;exact (a3 j hj (by omega)).2.2.under
  |tok u=>exact h.elim
 |iter m' since seen last=>
  cases x with
  |blk c=>
   obtain ⟨cm,a1,a2⟩:=h;exact .inl (by simpa [SObj.under] using lt_of_getElem? a1)
  |tok u=>exact h.elim
theorem KeepsD.refl (m:Nat) (β:List Bnd):KeepsD m β β:=fun _ x _ h _=>⟨x,h,x.le_refl⟩
theorem Keeps.toD {m:Nat} (h:Keeps m β β'):KeepsD m β β':=fun b x hb hx _=>h b x hb hx
theorem Keeps.dummy {m b:Nat} (h:Keeps m β β') (hb:b<m) (hx:β[b]?=some jj):β'[b]?=some jj:=by
 obtain ⟨y,hy,h0⟩:=h b _ hb hx;rcases h0 with h0|⟨u',rfl,h1|⟨a,n,cap,a',n',cap',e,_⟩⟩
 ·cases h0
 ·subst h1;exact hy
 ·cases e
end
structure Eff where
 val:SV
 foot:List Nat
 wr:Option (Nat × SObj)
def zfl (K:List SObj):Option (Nat × SObj)->List SObj
 |none=>K
 |some (b,o)=>K.set b o
theorem zfm (K:List SObj) (x:Option (Nat × SObj)):(zfl K x).length=K.length:=by
 cases x with
 |none=>rfl
 |some p=>simp [zfl]
section
variable {P:Program} {G:List (Nat × D)} {fn:Func} {rd:Bool} {E:En P G fn rd} {t:List (Nat × SV)} {H K:List SObj} {k:List Item}
structure Gain (G:List (Nat × D)) (m:Nat) (w:World) (I:Imm) (β:List Bnd) (K:List SObj) (wr:Option (Nat × SObj)) (w':World) (I':Imm) (β':List Bnd):Prop where
 heap:HeapOK G w' I' β' (zfl K wr)
 ext:Ext m w I β K w' I' β' (zfl K wr)
 keep:KeepsD β.length β β'
 dum:∀b,β[b]?=some jj->(∀o,wr≠some (b,o))->β'[b]?=some jj
def yho (P:Program) (G:List (Nat × D)) (m:Nat) (o:Oper) (ev:Operand->SV) (K:List SObj) (e:Eff):Prop:=
 ∀(ρ:Operand->Value) w I β,HeapOK G w I β K->(∀b,m<=b->K[b]?=some .dead->β[b]?=some jj)->(∀x∈o.op.operands,Rep w I β (ρ x) (ev x))->
  (∃n v w' I' β',(execOp ρ o).run P w= .ok n w'/\(n= .value v\/(n= .skip/\v=undef))/\Rep w' I' β' v e.val/\Gain G m w I β K e.wr w' I' β')\/
  (∃f vs,(execOp ρ o).run P w= .ok (.enter f vs) w/\Calls P f vs w fun en w'=>∃v I' β',en= .returned v/\Rep w' I' β' v e.val/\Gain G m w I β K e.wr w' I' β')
theorem ylb {m:Nat} {o:Oper} {ev:Operand->SV} {e:Eff} (hm:m<=K.length) (h:sop P o.op ev K=some (e.val,zfl K e.wr)):yho P G m o ev K e:=by
 intro ρ w I β hH _ hop
 classical
 have hop':sop P o.op (fun x=>if x∈o.op.operands then ev x else .any) K=some (e.val,zfl K e.wr):=by
  rw [<-h];exact zgr fun x hx=>by simp [hx]
 obtain ⟨n,v,w',I',β',h1,h2,h3,h4,h5⟩:=zlp (o:=o) (ρ:=ρ) hop' hH (fun x=>by
  split
  ·rename_i hx;exact hop x hx
  ·exact .any _)
 have hk:Keeps β.length β β':=by rw [hH.len];exact h5.keep
 exact .inl ⟨n,v,w',I',β',h1,h2,h3,h4,h5.weaken hm,hk.toD,fun b hb _=>hk.dummy (lt_of_getElem? hb) hb⟩
def SV.mv (N b:Nat):SV->SV
 | .ptr c o=>.ptr (if c=N then b else c) o
 | .osl c o l=>.osl (if c=N then b else c) o l
 | .asl c kk rows=>.asl (if c=N then b else c) kk rows
 | .map c=>.map (if c=N then b else c)
 |s=>s
def SV.isNew (N:Nat):SV->Bool
 | .ptr c _=>c==N
 | .osl c _ _=>c==N
 | .asl c _ _=>c==N
 | .map c=>c==N
 |_=>false
theorem ylc {m nx:Nat} {o:Oper} {ev:Operand->SV} {r:SV} {ob:SObj} (hm:m<=nx) (hnx:K[nx]?=some .dead) (h:sop P o.op ev K=some (r,K++[ob])) (hr:r.isNew K.length=true) (hob:ob.under K.length=true):
  yho P G m o ev K ⟨r.mv K.length nx,[],some (nx,ob)⟩:=by
 intro ρ w I β hH hph hop
 classical
 have hop':sop P o.op (fun x=>if x∈o.op.operands then ev x else .any) K=some (r,K++[ob]):=by
  rw [<-h];exact zgr fun x hx=>by simp [hx]
 obtain ⟨n,v,w',I',β1,h1,h2,h3,h4,h5⟩:=zlp (o:=o) (ρ:=ρ) hop' hH (fun x=>by
  split
  ·rename_i hx;exact hop x hx
  ·exact .any _)
 have hnl:=lt_of_getElem? hnx;have hdum:=hph nx hm hnx;have hl1:β1.length=K.length+1:=by rw [h4.len];simp
 have hl0:β.length=K.length:=hH.len;have hkeep:Keeps K.length β β1:=h5.keep;have hdum1:β1[nx]?=some jj:=hkeep.dummy hnl hdum;obtain ⟨x,hx⟩:∃x,β1[K.length]?=some x:=⟨β1[K.length]'(by omega),List.getElem?_eq_getElem _⟩;have hlen2:((β1.take K.length).set nx x).length=K.length:=by simp;omega
 have get2:∀b,b≠nx->b<K.length->((β1.take K.length).set nx x)[b]?=β1[b]?:=fun b hne hlt=>by
  rw [List.getElem?_set_ne (Ne.symm hne),List.getElem?_take,if_pos hlt]
 have getnx:((β1.take K.length).set nx x)[nx]?=some x:=List.getElem?_set_self (by simp;omega);have kd1:KeepsD K.length β1 ((β1.take K.length).set nx x):=fun b y hb hy hne=>by
  have hbn:b≠nx:=by rintro rfl;rw [hdum1] at hy;cases hy;exact hne rfl
  exact ⟨y,by rw [get2 b hbn hb];exact hy,y.le_refl⟩
 have kd0:KeepsD β.length β ((β1.take K.length).set nx x):=fun b y hb hy hne=>by
  rw [hl0] at hb;obtain ⟨z,hz,hle⟩:=hkeep b y hb hy;have hbn:b≠nx:=by rintro rfl;rw [hdum] at hy;cases hy;exact hne rfl
  exact ⟨z,by rw [get2 b hbn hb];exact hz,hle⟩
 have hown:∀b c,wv (K.set nx ob) ((β1.take K.length).set nx x) b c->wv (K++[ob]) β1 (if b=nx then K.length else b) c:=by
  rintro b c ⟨o,y,g1,g2,g3,g4⟩
  by_cases e:b=nx
  ·subst e
   rw [if_pos rfl];rw [List.getElem?_set_self hnl] at g1;rw [getnx] at g3;cases g1;cases g3;exact ⟨ob,x,by simp,g2,hx,g4⟩
  ·rw [if_neg e]
   rw [List.getElem?_set_ne (Ne.symm e)] at g1;have hlt:=lt_of_getElem? g1;rw [get2 b e hlt] at g3;exact ⟨o,y,by rw [List.getElem?_append_left hlt];exact g1,g2,g3,g4⟩
 have hheap:HeapOK G w' I' ((β1.take K.length).set nx x) (K.set nx ob):=by
  refine ⟨by simp;omega,fun b o y g1 g2=>?_,fun b b' c g1 g2=>?_,h4.inI,h4.glob⟩
  ·by_cases e:b=nx
   ·subst e
    rw [List.getElem?_set_self hnl] at g1;rw [getnx] at g2;cases g1;cases g2;exact (h4.obj K.length ob x (by simp) hx).belowD hob kd1
   ·rw [List.getElem?_set_ne (Ne.symm e)] at g1
    have hlt:=lt_of_getElem? g1;rw [get2 b e hlt] at g2;have hb1:b<β.length:=by omega
    have hob1:=h4.obj b o y (by rw [List.getElem?_append_left hlt];exact g1) g2;have hob0:=hH.obj b o _ g1 (List.getElem?_eq_getElem hb1);rcases hob0.under with hu|⟨s,f,n',tt,ps,aaz,bd,rfl⟩
    ·exact hob1.belowD (by rw [hl0] at hu;exact hu) kd1
    ·cases y with
     |tok u=>exact hob1
     |blk c=>
      cases hbb:β[b] with
      |tok u=>rw [hbb] at hob0;exact hob0.elim
      |blk c'=>
       rw [hbb] at hob0;obtain ⟨r0,b1,b2,b3,b4,b5,b6,b7,b8,b9⟩:=hob0;obtain ⟨r1,a1,a2,a3,a4,a5,a6,a7,a8,a9⟩:=hob1;refine ⟨r1,a1,a2,a3,a4,a5,a6,a7,fun m'=>?_,a9⟩;have hu:=(b8 m').under;rw [hl0] at hu;exact (a8 m').monoD (fun _ _ h=>h) (fun _ _ _=>rfl) kd1 hu
  ·have:=h4.inj _ _ c (hown b c g1) (hown b' c g2)
   have l1:b<K.length:=by obtain ⟨o,y,g,_⟩:=g1;have:=lt_of_getElem? g;simpa using this
   have l2:b'<K.length:=by obtain ⟨o,y,g,_⟩:=g2;have:=lt_of_getElem? g;simpa using this
   split at this<;>split at this<;>omega
 refine .inl ⟨n,v,w',I',(β1.take K.length).set nx x,h1,h2,?_,hheap,?_,kd0,fun b hb hne=>?_⟩
 ·cases r with
  |ptr c o=>
   have:c=K.length:=by simpa [SV.isNew] using hr
   subst this;simp only [SV.mv,if_true];cases h3 with
   |ptr _ c' _ hc=>rw [hx] at hc;cases hc;exact .ptr nx c' o getnx
  |osl c o l=>
   have:c=K.length:=by simpa [SV.isNew] using hr
   subst this;simp only [SV.mv,if_true];cases h3 with
   |osl _ c' _ _ cap hc g1 g2=>rw [hx] at hc;cases hc;exact .osl nx c' o l cap getnx g1 g2
  |asl c kk rows=>
   have:c=K.length:=by simpa [SV.isNew] using hr
   subst this;simp only [SV.mv,if_true];cases h3 with
   |asl _ _ _ _ u n' hd hc g1 g2 g3=>rw [hx] at hc;cases hc;exact .asl nx kk rows v u n' hd getnx g1 g2 g3
  |map c=>
   have:c=K.length:=by simpa [SV.isNew] using hr
   subst this;simp only [SV.mv,if_true];cases h3 with
   |map _ c' hc=>rw [hx] at hc;cases hc;exact .map nx c' getnx
  |_=>simp [SV.isNew] at hr
 ·refine ⟨h5.imm,h5.cell,fun b y hb hy=>?_,h5.old,fun b c ho=>h5.own _ c (hown b c ho),h5.new,h5.size,h5.env⟩
  have hlt:=lt_of_getElem? hy;obtain ⟨z,hz,hle⟩:=hkeep b y (by omega) hy;exact ⟨z,by rw [get2 b (by omega) (by omega)];exact hz,hle⟩
 ·have hbn:b≠nx:=fun e=>hne ob (by rw [e])
  have hlt:=lt_of_getElem? hb;rw [get2 b hbn (by omega)];exact hkeep.dummy (by omega) hb
theorem yhp {m:Nat} {o:Oper} {ev:Operand->SV} {fx:Operand} {args:Array Operand} {tys:Array TypeId} {f:FuncId} {first captured argv:List SV} {r:SV} (hm:m<=K.length)
  (hop:o.op= .call ⟨.value fx,args,tys⟩) (hf:ev fx= .fn (.func f) first captured) (hb:wk P f=true) (hargs:first++args.toList.map ev++captured=argv) (hc:zq P G f argv r):yho P G m o ev K ⟨r,[],none⟩:=by
 intro ρ w I β hH hph hops;subst hargs;have hmem:∀x∈args,x∈o.op.operands:=fun x hx=>by rw [hop];simp [Op.operands,Call.operands,hx]
 have hfr:=hops fx (by rw [hop];simp [Op.operands,Call.operands]);rw [hf] at hfr;generalize hfv:ρ fx=fv at hfr;cases hfr with
 |fn _ fs cps _ _ l1 l2 r1 r2=>
 have hrun:(execOp ρ o).run P w= .ok (.enter f (fs++args.map ρ++cps)) w:=by
  obtain ⟨dst,op,type,pos,after,guard⟩:=o;simp only at hop;subst hop;simp only [execOp,resolve,hfv,Deferred.ofValue,Sem.run_bind,Sem.run_pure,Result.andThen_ok,invoke];exact jh hb
 have hreps:Reps w I β (fs++args.map ρ++cps).toList (first++args.toList.map ev++captured):=by
  have e1:Reps w I β fs.toList first:=.of_get l1 r1
  have e2:Reps w I β (args.map ρ).toList (args.toList.map ev):=by
   have:∀l:List Operand,(∀x∈l,x∈args.toList)->Reps w I β (l.map ρ) (l.map ev):=by
    intro l
    induction l with
    |nil=>intro _;exact .nil
    |cons x l ihl=>intro hl;exact .cons (hops x (hmem x (by simpa using hl x (by simp)))) (ihl fun y hy=>hl y (by simp [hy]))
   simpa using this args.toList (fun _ h=>h)
  have e3:Reps w I β cps.toList captured:=.of_get l2 r2;simpa using (e1.append e2).append e3
 refine .inr ⟨f,_,hrun,(hc K w I β _ hH hreps).mono ?_⟩;rintro e w' ⟨v,r',I',β',H',rfl,⟨rfl,rfl⟩,g1,g2,g3⟩;have hk:Keeps β.length β β':=by rw [hH.len];exact g3.keep
 exact ⟨v,I',β',rfl,g1,g2,g3.weaken hm,hk.toD,fun b hb _=>hk.dummy (lt_of_getElem? hb) hb⟩
theorem yle {m:Nat} (n:Nat) {o:Oper} {ev:Operand->SV} {fx:Operand} {args:Array Operand} {tys:Array TypeId} {f:FuncId} {first captured argv:List SV} {r:SV} {wr:Option (Nat × SObj)} (hm:m<=K.length)
  (hop:o.op= .call ⟨.value fx,args,tys⟩) (hf:ev fx= .fn (.func f) first captured) (hb:wk P f=true) (hargs:first++args.toList.map ev++captured=argv) (hwr:∀b ob,wr=some (b,ob)->b<n) (hn:n<=K.length)
  (hc:SPre P G f argv (K.take n) (fun r' H1=>r'=r/\H1=zfl (K.take n) wr)):yho P G m o ev K ⟨r,List.range n,wr⟩:=by
 intro ρ w I β hH hph hops;subst hargs;have hmem:∀x∈args,x∈o.op.operands:=fun x hx=>by rw [hop];simp [Op.operands,Call.operands,hx]
 have hfr:=hops fx (by rw [hop];simp [Op.operands,Call.operands]);rw [hf] at hfr;generalize hfv:ρ fx=fv at hfr;cases hfr with
 |fn _ fs cps _ _ l1 l2 r1 r2=>
 have hrun:(execOp ρ o).run P w= .ok (.enter f (fs++args.map ρ++cps)) w:=by
  obtain ⟨dst,op,type,pos,after,guard⟩:=o;simp only at hop;subst hop;simp only [execOp,resolve,hfv,Deferred.ofValue,Sem.run_bind,Sem.run_pure,Result.andThen_ok,invoke];exact jh hb
 have hreps:Reps w I β (fs++args.map ρ++cps).toList (first++args.toList.map ev++captured):=by
  have e1:Reps w I β fs.toList first:=.of_get l1 r1
  have e2:Reps w I β (args.map ρ).toList (args.toList.map ev):=by
   have:∀l:List Operand,(∀x∈l,x∈args.toList)->Reps w I β (l.map ρ) (l.map ev):=by
    intro l
    induction l with
    |nil=>intro _;exact .nil
    |cons x l ihl=>intro hl;exact .cons (hops x (hmem x (by simpa using hl x (by simp)))) (ihl fun y hy=>hl y (by simp [hy]))
   simpa using this args.toList (fun _ h=>h)
  have e3:Reps w I β cps.toList captured:=.of_get l2 r2;simpa using (e1.append e2).append e3
 have hK:K.take n++K.drop n=K:=by simp
 have hset:zfl (K.take n) wr++K.drop n=zfl K wr:=by
  cases wr with
  |none=>exact hK
  |some p=>
   obtain ⟨b,ob⟩:=p;have hbn:=hwr b ob rfl;simp only [zfl];rw [<-List.set_append_left _ _ (by simp;omega),hK]
 have hcall:=hc (K.drop n);rw [hK] at hcall;refine .inr ⟨f,_,hrun,(hcall w I β _ hH hreps).mono ?_⟩;rintro e w' ⟨v,r',I',β',H',rfl,⟨H1,⟨rfl,rfl⟩,_,rfl⟩,g1,g2,g3⟩;rw [hset] at g2 g3;have hk:Keeps β.length β β':=by rw [hH.len];exact g3.keep
 exact ⟨v,I',β',rfl,g1,g2,g3.weaken hm,hk.toD,fun b hb _=>hk.dummy (lt_of_getElem? hb) hb⟩
end
def yph (es:List Eff) (i:Nat):Option (Nat × SObj):=(es[i]?).bind (·.wr)
def KAt (es:List Eff) (K0:List SObj):Nat->List SObj
 |0=>K0
 |i+1=>zfl (KAt es K0 i) (yph es i)
def KL (es:List Eff) (listed:Array Bool) (K0:List SObj):Nat->List SObj
 |0=>K0
 |i+1=>if listed.getD i false then zfl (KL es listed K0 i) (yph es i) else KL es listed K0 i
theorem zlt (es:List Eff) (K0:List SObj):∀i,(KAt es K0 i).length=K0.length
 |0=>rfl
 |i+1=>by rw [KAt,zfm,zlt es K0 i]
theorem zet (es:List Eff) (listed:Array Bool) (K0:List SObj):∀i,(KL es listed K0 i).length=K0.length
 |0=>rfl
 |i+1=>by
  rw [KL];split
  ·rw [zfm,zet es listed K0 i]
  ·exact zet es listed K0 i
def zvi (x:Option (Nat × SObj)) (b:Nat):Prop:=∃o,x=some (b,o)
theorem jp {K:List SObj} {x:Option (Nat × SObj)} {b:Nat} (h:¬zvi x b):(zfl K x)[b]?=K[b]?:=by
 cases x with
 |none=>rfl
 |some p=>
  obtain ⟨b',o⟩:=p;have:b'≠b:=fun e=>h ⟨o,by rw [e]⟩
  simp only [zfl];rw [List.getElem?_set_ne this]
theorem zjf {K K':List SObj} {x:Option (Nat × SObj)} {b:Nat} (h:zvi x b) (hl:K.length=K'.length):(zfl K x)[b]?=(zfl K' x)[b]?:=by
 obtain ⟨o,rfl⟩:=h;simp only [zfl]
 by_cases hb:b<K.length
 ·rw [List.getElem?_set_self hb,List.getElem?_set_self (by omega)]
 ·rw [List.getElem?_eq_none (by simp;omega),List.getElem?_eq_none (by simp;omega)]
inductive Before (ops:Array Oper):Nat->Nat->Prop
 |one {i j:Nat} {o:Oper}:ops[j]?=some o->i∈xt o->Before ops i j
 |step {i k j:Nat} {o:Oper}:ops[j]?=some o->k∈xt o->Before ops i k->Before ops i j
def zxo (ops:Array Oper) (i:Nat):Nat->Nat->Bool
 |0,_=>false
 |f+1,j=>match ops[j]? with
  |some o=>(xt o).any fun k=>k==i||(decide (i<k)&&zxo ops i f k)
  |none=>false
theorem zmp {ops:Array Oper} {i:Nat}:∀{f j:Nat},zxo ops i f j=true->Before ops i j
 |0,_,h=>by simp [zxo] at h
 |f+1,j,h=>by
  simp only [zxo] at h;split at h
  ·rename_i o ho
   obtain ⟨k,hk,h2⟩:=List.any_eq_true.1 h;simp only [Bool.or_eq_true,beq_iff_eq,Bool.and_eq_true] at h2;rcases h2 with rfl|⟨_,h2⟩
   ·exact .one ho hk
   ·exact .step ho hk (zmp h2)
  ·cases h
def zvj (e:Eff) (b:Nat):Bool:=e.foot.contains b||(match e.wr with|some (c,_)=>c==b|none=>false)
def ybj (x y:Eff):Bool:=(match x.wr with|some (b,_)=>zvj y b|none=>false)||(match y.wr with|some (b,_)=>zvj x b|none=>false)
def zxp (ops:Array Oper) (x:Eff) (i:Nat):Nat->List Eff->Bool
 |_,[]=>true
 |j,y::r=>(!ybj x y||zxo ops i ops.size j)&&zxp ops x i (j+1) r
def yws (x:Eff):Bool:=
 match x.wr with
 |some (_,.dead)=>false
 |_=>true
def zgf (ops:Array Oper):Nat->List Eff->Bool
 |_,[]=>true
 |i,x::r=>yws x&&zxp ops x i (i+1) r&&zgf ops (i+1) r
theorem zpc {ops:Array Oper}:∀{l:List Eff} {i0:Nat},zgf ops i0 l=true->∀(i:Nat) x b ob,l[i]?=some x->x.wr=some (b,ob)->ob≠ .dead
 |z::l,i0,h,0,x,b,ob,hx,hw=>by
  simp only [zgf,Bool.and_eq_true] at h;simp at hx;subst hx;have:=h.1.1;unfold yws at this;rw [hw] at this;rintro rfl;simp at this
 |z::l,i0,h,i+1,x,b,ob,hx,hw=>by
  simp only [zgf,Bool.and_eq_true] at h;exact zpc h.2 i x b ob (by simpa using hx) hw
theorem zpd {ops:Array Oper} {x:Eff} {i:Nat}:∀{l:List Eff} {j0:Nat},zxp ops x i j0 l=true->∀(j:Nat) y,l[j]?=some y->ybj x y=true->Before ops i (j0+j)
 |z::l,j0,h,0,y,hy,hc=>by
  simp only [zxp,Bool.and_eq_true,Bool.or_eq_true,Bool.not_eq_true'] at h;simp at hy;subst hy;rcases h.1 with h1|h1
  ·rw [hc] at h1;cases h1
  ·exact zmp h1
 |z::l,j0,h,j+1,y,hy,hc=>by
  simp only [zxp,Bool.and_eq_true] at h;have:=zpd h.2 j y (by simpa using hy) hc
  rwa [Nat.add_assoc,Nat.add_comm 1] at this
theorem zjg {ops:Array Oper} {l:List Eff}:∀{i0:Nat},zgf ops i0 l=true->∀(i j:Nat) x y,i<j->l[i]?=some x->l[j]?=some y->ybj x y=true->Before ops (i0+i) (i0+j):=by
 induction l with
 |nil=>intro i0 _ i j x y _ hx;cases hx
 |cons z l ih=>
  intro i0 h i j x y hij hx hy hc;rw [zgf,Bool.and_eq_true,Bool.and_eq_true] at h;cases j with
  |zero=>omega
  |succ j=>
   rw [List.getElem?_cons_succ] at hy;cases i with
   |zero=>
    rw [List.getElem?_cons_zero] at hx;cases hx;have:=zpd h.1.2 j y hy hc
    rwa [Nat.add_assoc,Nat.add_comm 1] at this
   |succ i=>
    rw [List.getElem?_cons_succ] at hx;have:=ih h.2 i j x y (by omega) hx hy hc;rw [show i0+(i+1)=i0+1+i by omega,show i0+(j+1)=i0+1+j by omega];exact this
theorem yev {x y:Eff} {b:Nat} (hx:zvi x.wr b) (hy:b∈y.foot\/zvi y.wr b):ybj x y=true:=by
 obtain ⟨o,ho⟩:=hx;unfold ybj;rw [ho];simp only [zvj,Bool.or_eq_true]
 left
 rcases hy with hy|⟨o',ho'⟩
 ·left;simpa using hy
 ·right;rw [ho'];simp
theorem yqg {x y:Eff} {b:Nat} (hx:b∈x.foot\/zvi x.wr b) (hy:zvi y.wr b):ybj x y=true:=by
 obtain ⟨o,ho⟩:=hy;unfold ybj;rw [ho];simp only [zvj,Bool.or_eq_true]
 right
 rcases hx with hx|⟨o',ho'⟩
 ·left;simpa using hx
 ·right;rw [ho'];simp
section
variable {ops:Array Oper} {es:List Eff} {listed:Array Bool} {K0:List SObj}
theorem zfn (hcl:∀(i:Nat) o,ops[i]?=some o->listed.getD i false=true->∀j∈xt o,listed.getD j false=true) {i j:Nat} (h:Before ops i j):
  (∀o,ops[j]?=some o->∀k∈xt o,listed.getD k false=true)->listed.getD i false=true:=by
 induction h with
 |one ho hi=>intro hb;exact hb _ ho _ hi
 |step ho hk _ ih=>
  intro hb;exact ih fun o' ho' k' hk'=>hcl _ _ ho' (hb _ ho _ hk) k' hk'
theorem yyo (hc:zgf ops 0 es=true) (hcl:∀(i:Nat) o,ops[i]?=some o->listed.getD i false=true->∀j∈xt o,listed.getD j false=true) {i:Nat} {o:Oper} {e:Eff} (ho:ops[i]?=some o) (he:es[i]?=some e)
  (hn:listed.getD i false=false) (hb:∀j∈xt o,listed.getD j false=true) (hlen:es.length=ops.size) {b:Nat} (ht:b∈e.foot\/zvi e.wr b):
  ∀p,p<=ops.size->(KL es listed K0 p)[b]?=(KAt es K0 (min p i))[b]?:=by
 intro p
 induction p with
 |zero=>intro _;simp [KL,KAt]
 |succ p ih=>
  intro hp;have ih:=ih (by omega);obtain ⟨ep,hep⟩:∃ep,es[p]?=some ep:=⟨es[p]'(by omega),List.getElem?_eq_getElem _⟩;obtain ⟨op,hop⟩:∃op,ops[p]?=some op:=⟨ops[p]'(by omega),Array.getElem?_eq_getElem _⟩;have hwr:yph es p=ep.wr:=by simp [yph,hep]
  rcases Nat.lt_trichotomy p i with hlt|rfl|hgt
  ·rw [show min (p+1) i=p+1 by omega]
   rw [show min p i=p by omega] at ih;simp only [KL,KAt,hwr]
   by_cases hh:zvi ep.wr b
   ·have hbef:=zjg hc p i ep e hlt hep he (yev hh ht)
    simp only [Nat.zero_add] at hbef;have:listed.getD p false=true:=zfn hcl hbef (fun o' ho'=>by rw [ho] at ho';cases ho';exact hb);rw [if_pos this];exact zjf hh (by rw [zet,zlt])
   ·rw [jp hh]
    split
    ·rw [jp hh];exact ih
    ·exact ih
  ·rw [show min (p+1) p=p by omega]
   rw [Nat.min_self] at ih;simp only [KL];rw [if_neg (by rw [hn];simp)];exact ih
  ·rw [show min (p+1) i=i by omega]
   rw [show min p i=i by omega] at ih;simp only [KL,hwr];split
   ·rename_i hl
    by_cases hh:zvi ep.wr b
    ·exfalso
     have hbef:=zjg hc i p e ep hgt he hep (yqg ht hh);simp only [Nat.zero_add] at hbef;have:listed.getD i false=true:=zfn hcl hbef (fun o' ho'=>by rw [hop] at ho';cases ho';exact hcl p op hop hl);rw [hn] at this;cases this
    ·rw [jp hh];exact ih
   ·exact ih
theorem ywt (hc:zgf ops 0 es=true) (hcl:∀(i:Nat) o,ops[i]?=some o->listed.getD i false=true->∀j∈xt o,listed.getD j false=true) {i:Nat} {e:Eff} (hi:i<ops.size) (he:es[i]?=some e)
  (hn:listed.getD i false=false) (hlen:es.length=ops.size) (hls:listed.size=ops.size):KL es (listed.setIfInBounds i true) K0 ops.size=zfl (KL es listed K0 ops.size) e.wr:=by
 have hset:∀p,p≠i->(listed.setIfInBounds i true).getD p false=listed.getD p false:=fun p hp=>wd (Ne.symm hp)
 have hself:(listed.setIfInBounds i true).getD i false=true:=wq (by omega);have hwri:yph es i=e.wr:=by simp [yph,he]
 have low:∀p,p<=i->KL es (listed.setIfInBounds i true) K0 p=KL es listed K0 p:=by
  intro p
  induction p with
  |zero=>intro _;rfl
  |succ p ih=>intro hp;simp only [KL,ih (by omega),hset p (by omega)]
 have high:∀p,i<p->p<=ops.size->∀b:Nat,(KL es (listed.setIfInBounds i true) K0 p)[b]?=(zfl (KL es listed K0 p) e.wr)[b]?:=by
  intro p
  induction p with
  |zero=>intro h;omega
  |succ p ih=>
   intro hp hps b;rcases Nat.lt_or_ge i p with hip|hip
   ·have ih:=ih hip (by omega) b
    obtain ⟨ep,hep⟩:∃ep,es[p]?=some ep:=⟨es[p]'(by omega),List.getElem?_eq_getElem _⟩;obtain ⟨op,hop⟩:∃op,ops[p]?=some op:=⟨ops[p]'(by omega),Array.getElem?_eq_getElem _⟩;have hwr:yph es p=ep.wr:=by simp [yph,hep]
    simp only [KL,hset p (by omega),hwr];split
    ·rename_i hl
     have nb:∀b,zvi e.wr b->¬zvi ep.wr b:=fun b h1 h2=>by
      have hbef:=zjg hc i p e ep hip he hep (yev h1 (.inr h2));simp only [Nat.zero_add] at hbef;have:listed.getD i false=true:=zfn hcl hbef (fun o' ho'=>by rw [hop] at ho';cases ho';exact hcl p op hop hl);rw [hn] at this;cases this
     by_cases h1:zvi ep.wr b
     ·have h2:¬zvi e.wr b:=fun h=>nb b h h1
      rw [jp h2];exact zjf h1 (by rw [zet,zet])
     ·rw [jp h1,ih]
      by_cases h2:zvi e.wr b
      ·exact zjf h2 (by rw [zfm])
      ·rw [jp h2,jp h2,jp h1]
    ·exact ih
   ·have:p=i:=by omega
    subst this;simp only [KL,hself,if_true,hn,hwri];rw [low p (Nat.le_refl _)];rfl
 exact List.ext_getElem? (high ops.size hi (Nat.le_refl _))
theorem yst (h:∀i,i<ops.size->listed.getD i false=true):∀p,p<=ops.size->KL es listed K0 p=KAt es K0 p
 |0,_=>rfl
 |p+1,hp=>by
  simp only [KL,KAt];rw [if_pos (h p (by omega)),yst h p (by omega)]
theorem ybk (h:∀i,listed.getD i false=false):∀p,KL es listed K0 p=K0
 |0=>rfl
 |p+1=>by
  simp only [KL];rw [if_neg (by rw [h p];simp),ybk h p]
end
section
variable {P:Program} {G:List (Nat × D)} {fn:Func} {rd:Bool} {E:En P G fn rd} {t:List (Nat × SV)} {H K:List SObj} {k:List Item}
structure ValE (P:Program) (G:List (Nat × D)) (N m:Nat) (all:Array Oper) (o:Oper) (t:List (Nat × SV)) (K:List SObj) (e:Eff):Prop where
 dst:yb N o.dst=true
 how:(zu all t o.guard=some false/\e=⟨sU,[],none⟩)\/(zu all t o.guard=some true/\
  ∀K',K'.length=K.length->(∀b,b∈e.foot\/zvi e.wr b->K'[b]?=K[b]?)->yho P G m o (zl G t) K' e)
inductive DrawsE (P:Program) (G:List (Nat × D)) (N m:Nat) (all:Array Oper):List Oper->List (Nat × SV)->List SObj->List Eff->List (Nat × SV)->List SObj->Prop
 |nil (t:List (Nat × SV)) (K:List SObj):DrawsE P G N m all [] t K [] t K
 |cons {o:Oper} {rest:List Oper} {t t':List (Nat × SV)} {K K':List SObj} {e:Eff} {es:List Eff}:ValE P G N m all o t K e->DrawsE P G N m all rest (xj t o.dst e.val) (zfl K e.wr) es t' K'->DrawsE P G N m all (o::rest) t K (e::es) t' K'
theorem zvk (e:Eff) (es:List Eff) (K:List SObj):∀i,KAt (e::es) K (i+1)=KAt es (zfl K e.wr) i
 |0=>by simp [KAt,yph]
 |i+1=>by rw [KAt,zvk e es K i];simp [KAt,yph]
theorem ybm {N m:Nat} {all:Array Oper} {rest:List Oper} {t t':List (Nat × SV)} {K K':List SObj} {es:List Eff} (h:DrawsE P G N m all rest t K es t' K'):
  es.length=rest.length/\t'=tAt rest (es.map (·.val)) t rest.length/\K'=KAt es K rest.length/\∀(i:Nat) o,rest[i]?=some o->∃e,es[i]?=some e/\ValE P G N m all o (tAt rest (es.map (·.val)) t i) (KAt es K i) e:=by
 induction h with
 |nil t K=>exact ⟨rfl,rfl,rfl,fun i o h=>by simp at h⟩
 |@cons o rest t t' K K' e es hv _ ih=>
  obtain ⟨h1,h2,h3,h4⟩:=ih;refine ⟨by simp [h1],?_,?_,fun i o' ho'=>?_⟩
  ·rw [List.length_cons,List.map_cons,zfj];exact h2
  ·rw [List.length_cons,zvk];exact h3
  ·cases i with
   |zero=>simp at ho';subst ho';exact ⟨e,by simp,hv⟩
   |succ i=>
    simp at ho';obtain ⟨e',a,b⟩:=h4 i o' ho';exact ⟨e',by simpa using a,by rw [List.map_cons,zfj,zvk];exact b⟩
theorem Mid.putE {ops:Array Oper} {vals:List SV} {listed:Array Bool} {a:Act} {w w':World} {I I':Imm} {β β':List Bnd} {K':List SObj} (hu:Uniq ops) (h:Mid E ops vals t K listed a w I β) {i:Nat} {o:Oper} (ho:ops[i]?=some o)
  (hb:∀j∈xt o,listed.getD j false=true) (hd:yb fn.ntmps o.dst=true) {v:Value} {s:SV} (hs:vals[i]?=some s)
  (hv:Rep w' I' β' v s) (hH:HeapOK G w' I' β' K') (he:Ext E.H.length w I β K w' I' β' K') (hk:KeepsD β.length β β') (hl:K'.length=K.length):Mid E ops vals t K' (listed.setIfInBounds i true) (a.put o.dst v) w' I' β':=by
 have hi:i<listed.size:=by
  rw [h.lsize];rcases Nat.lt_or_ge i ops.size with h'|h'
  ·exact h'
  ·simp [Array.getElem?_eq_none h'] at ho
 have hsz:(a.put o.dst v).tmps.size=fn.ntmps:=by cases o.dst<;>simp [Act.put,h.size]
 have same:∀d,o.dst≠some d->(a.put o.dst v).tmps.getD d undef=a.tmps.getD d undef:=by
  intro d hne;cases hod:o.dst with
  |none=>rfl
  |some m=>
   simp only [Act.put];rw [Array.getD_eq_getD_getElem?,Array.getD_eq_getD_getElem?,Array.getElem?_setIfInBounds_ne (fun e=>hne (by rw [hod,e]))]
 have mine:∀d,o.dst=some d->(a.put o.dst v).tmps.getD d undef=v:=by
  intro d hod;rw [hod] at hd ⊢;have:d<a.tmps.size:=by rw [h.size];simpa [yb] using hd
  simp [Act.put,Array.getD,this]
 have mono:∀{v s},Rep w I β v s->Rep w' I' β' v s:=fun hr=>hr.monoD he.imm he.cell hk hr.under
 refine ⟨hH,fun j p d hp hpd hl=>?_,fun d hno=>?_,hsz,by cases o.dst<;>exact h.defers.ext he,h.ext.trans he,by rw [hl];exact h.hlen,by simp [h.lsize],fun j p hp hl j' hj'=>?_⟩
 ·by_cases e:i=j
  ·subst e
   rw [ho] at hp;cases hp;rw [mine d hpd,hs];exact hv
  ·rw [wd e] at hl
   rw [same d (fun hod=>e (hu.uniq i j o p d ho hp hod hpd))];exact mono (h.wrote j p d hp hpd hl)
 ·have hne:o.dst≠some d:=fun hod=>by have:=hno i o ho hod;rw [wq hi] at this;cases this
  rw [same d hne];refine mono (h.old d (fun j p hp hpd=>?_));have:=hno j p hp hpd
  by_cases e:i=j
  ·subst e;rw [wq hi] at this;cases this
  ·rwa [wd e] at this
 ·by_cases e:i=j
  ·subst e
   rw [ho] at hp;cases hp;have:=hb j' hj'
   by_cases e':i=j'
   ·subst e';exact wq hi
   ·rw [wd e'];exact this
  ·rw [wd e] at hl
   have:=h.closed j p hp hl j' hj'
   by_cases e':i=j'
   ·subst e';exact wq hi
   ·rw [wd e'];exact this
theorem yqh {ops:Array Oper} {es:List Eff} {K0:List SObj} {m:Nat} (hm:E.H.length<=m) (hu:Uniq ops) (hc:zgf ops 0 es=true) (hlen:es.length=ops.size)
  (hvals:∀(i:Nat) o,ops[i]?=some o->∃e,es[i]?=some e/\ValE P G fn.ntmps m ops o (tAt ops.toList (es.map (·.val)) t i) (KAt es K0 i) e):
  ∀(fuel:Nat) (listed:Array Bool) (a:Act) (w:World) (I:Imm) (β:List Bnd),Mid E ops (es.map (·.val)) t (KL es listed K0 ops.size) listed a w I β->
   (∀b,m<=b->(KL es listed K0 ops.size)[b]?=some .dead->β[b]?=some jj)->qp listed<=fuel->
   wpAny P .any ops (fun e a' w'=>e= .normal/\∃I' β',Sim E (tAt ops.toList (es.map (·.val)) t ops.size) (KAt es K0 ops.size) a' w' I' β') fuel listed a w:=by
 have fin:∀(listed:Array Bool) (a:Act) (w:World) (I:Imm) (β:List Bnd),Mid E ops (es.map (·.val)) t (KL es listed K0 ops.size) listed a w I β->(∀i,i<ops.size->listed.getD i false=true)->Sim E (tAt ops.toList (es.map (·.val)) t ops.size) (KAt es K0 ops.size) a w I β:=by
  intro listed a w I β h hall;rw [yst hall _ (Nat.le_refl _)] at h;refine ⟨h.heap,fun d=>?_,h.size,h.defers,h.ext,h.hlen⟩;have lt:∀(j:Nat) p,ops[j]?=some p->j<ops.size:=fun j p hp=>by
   rcases Nat.lt_or_ge j ops.size with h'|h'
   ·exact h'
   ·simp [Array.getElem?_eq_none h'] at hp
  by_cases hw:∃(j:Nat) (p:Oper),ops[j]?=some p/\p.dst=some d
  ·obtain ⟨j,p,hp,hpd⟩:=hw
   rw [zdi hu _ hp hpd _ (lt j p hp)];exact h.wrote j p d hp hpd (hall j (lt j p hp))
  ·rw [zje _ _ (fun j p _ hp hpd=>hw ⟨j,p,hp,hpd⟩)]
   exact h.old d (fun j p hp hpd=>absurd ⟨j,p,hp,hpd⟩ hw)
 intro fuel
 induction fuel with
 |zero=>
  intro listed a w I β h _ hf;have hall:∀i,i<ops.size->listed.getD i false=true:=by
   intro i hi;have hli:i<listed.size:=by rw [h.lsize];exact hi
   cases hx:listed.getD i false with
   |true=>rfl
   |false=>have:=ji hli hx;omega
  refine ⟨?_,rfl,I,β,fin listed a w I β h hall⟩;cases hr:Region.ready .any ops listed with
  |nil=>rfl
  |cons x l=>
   exfalso
   obtain ⟨o,ho,hn,_⟩:=zdc h.lsize (i:=x) (by rw [hr];simp);have:x<ops.size:=by
    rcases Nat.lt_or_ge x ops.size with h'|h'
    ·exact h'
    ·simp [Array.getElem?_eq_none h'] at ho
   rw [hall x this] at hn;cases hn
 |succ fuel ih=>
  intro listed a w I β h hph hf;refine ⟨fun hr=>⟨rfl,I,β,fin listed a w I β h (zkc hu h.lsize hr)⟩,fun i hi=>?_⟩;obtain ⟨o,ho,hn,hb⟩:=zdc h.lsize hi;obtain ⟨e,he,hval⟩:=hvals i o ho;have hios:i<ops.size:=by
   rcases Nat.lt_or_ge i ops.size with h'|h'
   ·exact h'
   ·simp [Array.getElem?_eq_none h'] at ho
  have hil:i<listed.size:=by rw [h.lsize];exact hios
  have hcount:=ji hil hn;have hsv:(es.map (·.val))[i]?=some e.val:=by simp [he]
  have hset:=ywt (K0:=K0) hc h.closed hios he hn hlen h.lsize;have next:∀(v:Value) (w':World) (I':Imm) (β':List Bnd),Rep w' I' β' v e.val->Gain G m w I β (KL es listed K0 ops.size) e.wr w' I' β'->
    wpAny P .any ops (fun e a' w'=>e= .normal/\∃I' β',Sim E (tAt ops.toList (es.map (·.val)) t ops.size) (KAt es K0 ops.size) a' w' I' β') fuel (listed.setIfInBounds i true) (a.put o.dst v) w':=by
   intro v w' I' β' h1 h2;refine ih _ _ _ I' β' ?_ ?_ (by omega)
   ·rw [hset]
    exact h.putE hu ho hb hval.dst hsv h1 h2.heap (h2.ext.weaken hm) h2.keep (zfm _ _)
   ·rw [hset]
    intro b hmb hdead
    by_cases hh:zvi e.wr b
    ·obtain ⟨ob,hob⟩:=hh
     obtain ⟨ee,hee⟩:∃x,β'[b]?=some x:=⟨β'[b]'(by rw [h2.heap.len];exact lt_of_getElem? hdead),List.getElem?_eq_getElem _⟩;rw [hob] at hdead;simp only [zfl] at hdead;have hlt:b<(KL es listed K0 ops.size).length:=by have:=lt_of_getElem? hdead;simpa using this
     rw [List.getElem?_set_self hlt] at hdead;cases hdead;exact absurd rfl (zpc hc i e b _ he hob)
    ·rw [jp hh] at hdead
     exact h2.dum b (hph b hmb hdead) (fun o' ho'=>hh ⟨o',ho'⟩)
  unfold wpOp;rw [ho];simp only;rcases hval.how with ⟨hw,rfl⟩|⟨hw,hop⟩
  ·rw [h.want hu ho hn hb hw]
   exact next undef w I β (.imm (.val _)) ⟨h.heap,.refl,.refl _ _,fun b hb _=>hb⟩
  ·rw [h.want hu ho hn hb hw]
   simp only [if_true]
   left
   have hagree:∀b,b∈e.foot\/zvi e.wr b->(KL es listed K0 ops.size)[b]?=(KAt es K0 i)[b]?:=fun b ht=>by
    have:=yyo (K0:=K0) hc h.closed ho he hn hb hlen ht ops.size (Nat.le_refl _)
    rwa [show min ops.size i=i by omega] at this
   have hrun:=hop (KL es listed K0 ops.size) (by rw [zet,zlt]) hagree a.eval w I β h.heap hph (fun x hx=>h.eval hu ho hn hb x hx);unfold Oper.wp;rcases hrun with ⟨n,v,w',I',β',h1,h2,h3,h4⟩|⟨f,vs,h1,h2⟩
   ·rw [h1]
    rcases h2 with rfl|⟨rfl,rfl⟩
    ·exact next v w' I' β' h3 h4
    ·exact next undef w' I' β' h3 h4
   ·rw [h1]
    refine h2.mono ?_;rintro en w' ⟨v,I',β',rfl,h3,h4⟩;exact next v w' I' β' h3 h4
structure SWe (E:En P G fn rd) (m:Nat) (all:Array Oper) (rest:List Oper) (k:List Item) (t:List (Nat × SV)) (K:List SObj) (done:List Eff):Prop where
 run:∃es t' K',DrawsE P G fn.ntmps m all rest t K es t' K'/\zgf all 0 (done++es)=true/\SW E k t' K'
theorem zxq {w:World} {I:Imm} {β:List Bnd} (hH:HeapOK G w I β H):∀q,HeapOK G w I (β++List.replicate q jj) (H++List.replicate q .dead)/\∀m,Ext m w I β H w I (β++List.replicate q jj) (H++List.replicate q .dead)
 |0=>by simp only [List.replicate_zero,List.append_nil];exact ⟨hH,fun _=>.refl⟩
 |q+1=>by
  obtain ⟨h1,h2⟩:=zxq hH q;have hp:=h1.push (o:=.dead) (x:=jj) trivial (fun b c hc=>by simp [jj,Bnd.block] at hc);have he:∀m,Ext m w I (β++List.replicate q jj) (H++List.replicate q .dead) w I _ _:=fun m=>Ext.push (m:=m) (o:=.dead) (x:=jj) h1 (fun c hc=>by simp [jj,Bnd.block] at hc)
  rw [List.append_assoc,List.append_assoc, <-List.replicate_succ', <-List.replicate_succ'] at hp;refine ⟨hp,fun m=>?_⟩;have:=(h2 m).trans (he m)
  rwa [List.append_assoc,List.append_assoc, <-List.replicate_succ', <-List.replicate_succ'] at this
theorem xf (q:Nat) {id:Nat} {all:Array Oper} (hm:P.follows .mixedOrders=true) (hdep:zve all=true) (h:SWe E H.length all all.toList k t (H++List.replicate q .dead) []):SW E (.code (.region id all true)::k) t H:=by
 obtain ⟨es,t',K',hd,hc,hsw⟩:=h.run;obtain ⟨hl,rfl,rfl,hvals⟩:=ybm hd;rw [List.nil_append] at hc;have hu:=zvf hdep;refine ⟨fun a w I β cs hs=>?_⟩;have hH1:HeapOK G {w with drawn:=w.drawn+1} I β H:=hs.heap.grow (fun _ _=>rfl) (fun _ _ h=>h) (fun _ _ h=>.inl h) hs.heap.inI;have hE1:Ext H.length w I β H {w with drawn:=w.drawn+1} I β H:=.grow hs.heap (fun _ _=>rfl) (Nat.le_refl _) (fun _ _ h=>h) (fun _ _ h=>.inl h);obtain ⟨hH,hE2⟩:=zxq hH1 q;have hE:=hE1.trans (hE2 H.length);have none:∀j,(Array.replicate all.size false).getD j false=false:=fun j=>by
  rw [Array.getD_eq_getD_getElem?,Array.getElem?_replicate];split<;>rfl
 have mid:Mid E all (es.map (·.val)) t (KL es (Array.replicate all.size false) (H++List.replicate q .dead) all.size) (Array.replicate all.size false) a {w with drawn:=w.drawn+1} I (β++List.replicate q jj):=by
  rw [ybk none];refine ⟨hH,fun j p d _ _ hl=>?_,fun d _=>(hs.tmps d).ext (by rw [hs.heap.len];exact hE),hs.size,hs.defers.ext hE,hs.ext.trans (hE.weaken hs.hlen),by have:=hs.hlen;simp;omega,by simp,fun i o _ hl=>?_⟩
  ·rw [none] at hl;cases hl
  ·rw [none] at hl;cases hl
 have hph:∀b,H.length<=b->(KL es (Array.replicate all.size false) (H++List.replicate q .dead) all.size)[b]?=some .dead->(β++List.replicate q jj)[b]?=some jj:=by
  intro b hb hdead;rw [ybk none] at hdead;have hlt:=lt_of_getElem? hdead;simp at hlt;rw [List.getElem?_append_right (by rw [hs.heap.len];exact hb),List.getElem?_replicate,if_pos (by rw [hs.heap.len];omega)]
 have hcnt:qp (Array.replicate all.size false)<=all.size:=by
  unfold qp;exact Nat.le_trans List.countP_le_length (by simp)
 have hany:=yqh hs.hlen hu hc (by simpa using hl) (fun i o ho=>hvals i o (by simpa using ho)) all.size _ a _ I _ mid hph hcnt;have hops:=wpAny_sound (md:=.any) all.size (w.tape w.drawn (.order E.base.fn id)) _ a _ hany;obtain ⟨a',w',⟨I',β',hsim⟩,harr⟩:=zxj (b:=E.base) (ro:=E.ro) (k:=k) (cs:=cs) (zhu hdep) _ a _ hops;refine .of_steps (.head zan ?_) (hsw.run a' w' I' β' cs ?_)
 ·simp only [Region.schedule,hm,Bool.true_or,if_true]
  exact harr
 ·simpa using hsim
variable {m:Nat} {all:Array Oper} {o:Oper} {rest:List Oper} {done:List Eff}
theorem qf (hc:zgf all 0 done=true) (h:SW E k t K):SWe E m all [] k t K done:=⟨[],t,K,.nil t K,by simpa using hc,h⟩
theorem zei {e:Eff} (hv:ValE P G fn.ntmps m all o t K e) (h:SWe E m all rest k (xj t o.dst e.val) (zfl K e.wr) (done++[e])):SWe E m all (o::rest) k t K done:=by
 obtain ⟨es,t',K',h1,h2,h3⟩:=h.run;exact ⟨e::es,t',K',.cons hv h1,by simpa using h2,h3⟩
theorem yew (hw:zu all t o.guard=some false) (hd:yb fn.ntmps o.dst=true) (h:SWe E m all rest k (xj t o.dst sU) K (done++[⟨sU,[],none⟩])):SWe E m all (o::rest) k t K done:=
 zei ⟨hd,.inl ⟨hw,rfl⟩⟩ h
theorem zaf (e:Eff) (hw:zu all t o.guard=some true) (hd:yb fn.ntmps o.dst=true) (hm:m<=K.length)
  (hop:∀K',K'.length=K.length->(∀b,b∈e.foot\/zvi e.wr b->K'[b]?=K[b]?)->sop P o.op (zl G t) K'=some (e.val,zfl K' e.wr))
  (h:SWe E m all rest k (xj t o.dst e.val) (zfl K e.wr) (done++[e])):SWe E m all (o::rest) k t K done:=
 zei ⟨hd,.inr ⟨hw,fun K' hl ha=>ylb (by omega) (hop K' hl ha)⟩⟩ h
theorem yuf (nx:Nat) {r:SV} {ob:SObj} (hw:zu all t o.guard=some true) (hd:yb fn.ntmps o.dst=true) (hm:m<=nx) (hnx:K[nx]?=some .dead) (hr:r.isNew K.length=true) (hob:ob.under K.length=true)
  (hop:∀K',K'.length=K.length->sop P o.op (zl G t) K'=some (r,K'++[ob]))
  (h:SWe E m all rest k (xj t o.dst (r.mv K.length nx)) (K.set nx ob) (done++[⟨r.mv K.length nx,[],some (nx,ob)⟩])):SWe E m all (o::rest) k t K done:=
 zei (e:=⟨r.mv K.length nx,[],some (nx,ob)⟩) ⟨hd,.inr ⟨hw,fun K' hl ha=>by
  have:=ylc (G:=G) (K:=K') (nx:=nx) (ob:=ob) (m:=m) (o:=o) (ev:=zl G t) (r:=r) hm (by rw [ha nx (.inr ⟨ob,rfl⟩)];exact hnx) (hop K' hl) (by rw [hl];exact hr) (by rw [hl];exact hob);rw [hl] at this
  exact this⟩⟩ h
theorem yqi {fx:Operand} {args:Array Operand} {tys:Array TypeId} {f:FuncId} {first captured:List SV} {r:SV} (hop:o.op= .call ⟨.value fx,args,tys⟩) (hw:zu all t o.guard=some true) (hd:yb fn.ntmps o.dst=true)
  (hf:zl G t fx= .fn (.func f) first captured) (hb:wk P f=true) {argv:List SV} (hargs:first++args.toList.map (zl G t)++captured=argv) (hm:m<=K.length) (hc:zq P G f argv r)
  (h:SWe E m all rest k (xj t o.dst r) K (done++[⟨r,[],none⟩])):SWe E m all (o::rest) k t K done:=
 zei (e:=⟨r,[],none⟩) ⟨hd,.inr ⟨hw,fun K' hl _=>yhp (by omega) hop hf hb hargs hc⟩⟩ h
theorem zpe {fx:Operand} {args:Array Operand} {tys:Array TypeId} {f:FuncId} {first captured:List SV} {r:SV} {argv:List SV} (e:(o.op,zu all t o.guard,yb fn.ntmps o.dst,zl G t fx,wk P f,first++args.toList.map (zl G t)++captured)=(.call ⟨.value fx,args,tys⟩,some true,true,.fn (.func f) first captured,true,argv)) (hm:m<=K.length) (hc:zq P G f argv r) (h:SWe E m all rest k (xj t o.dst r) K (done++[⟨r,[],none⟩])):SWe E m all (o::rest) k t K done:=yqi (congrArg (·.1) e) (congrArg (·.2.1) e) (congrArg (·.2.2.1) e) (congrArg (·.2.2.2.1) e) (congrArg (·.2.2.2.2.1) e) (congrArg (·.2.2.2.2.2) e) hm hc h
theorem yug (n:Nat) {fx:Operand} {args:Array Operand} {tys:Array TypeId} {f:FuncId} {first captured:List SV} {r:SV} {wr:Option (Nat × SObj)} (hop:o.op= .call ⟨.value fx,args,tys⟩) (hw:zu all t o.guard=some true) (hd:yb fn.ntmps o.dst=true)
  (hf:zl G t fx= .fn (.func f) first captured) (hb:wk P f=true) {argv:List SV} (hargs:first++args.toList.map (zl G t)++captured=argv) (hm:m<=K.length) (hn:n<=K.length) (hwr:∀b ob,wr=some (b,ob)->b<n)
  (hc:SPre P G f argv (K.take n) (fun r' H1=>r'=r/\H1=zfl (K.take n) wr))
  (h:SWe E m all rest k (xj t o.dst r) (zfl K wr) (done++[⟨r,List.range n,wr⟩])):SWe E m all (o::rest) k t K done:=
 zei (e:=⟨r,List.range n,wr⟩) ⟨hd,.inr ⟨hw,fun K' hl ha=>by
  have ht:K'.take n=K.take n:=by
   apply List.ext_getElem?
   intro b;rw [List.getElem?_take,List.getElem?_take];split
   ·rename_i hb;exact ha b (.inl (List.mem_range.2 hb))
   ·rfl
  exact yle n (by omega) hop hf hb hargs hwr (by omega) (by rw [ht];exact hc)⟩⟩ h
def ywh (P:Program) (op:Op) (ev:Operand->SV) (K:List SObj) (nx:Nat):Option (Eff × Bool):=
 match op with
 | .load t a=>match ev a with
  | .ptr b o=>match zaz P t K (.ptr b o) with
   |some r=>some (⟨r,[b],none⟩,false)
   |none=>none
  |x=>match zaz P t [] x with
   |some r=>some (⟨r,[],none⟩,false)
   |none=>none
 | .store t a x=>match ev a with
  | .ptr b o=>match zci P t K (.ptr b o) (ev x) with
   |some K'=>match K'[b]? with
    |some ob=>some (⟨.any,[b],some (b,ob)⟩,false)
    |none=>none
   |none=>none
  |_=>none
 | .alloc e=>match jx P e with
  |some z=>some (⟨.ptr nx 0,[],some (nx,.cells (zdx z))⟩,true)
  |none=>none
 |op=>match yqc P op ev [] with
  |some r=>some (⟨r,[],none⟩,false)
  |none=>none
theorem yqj {op:Op} {ev:Operand->SV} {r:SV} (h:yqc P op ev []=some r) (H:List SObj):sop P op ev H=some (r,H):=by
 refine zvh ?_;cases op<;>simp only [yqc] at h ⊢ <;>first|(cases h;done)|exact h|skip
 case load t a=>
  revert h
  generalize ev a=x;intro h;unfold zaz at h ⊢;split at h<;>first|(cases h;done)|skip
  exact h
 case convert s d x=>
  split at h
  ·exact h
  ·rename_i hne
   cases hz:zep P s d [] (ev x) with
   |none=>simp [hz] at h
   |some v=>
    simp [hz] at h;simp [ygx hz,h]
 case slice ty x lo hi mx=>
  cases mx with
  |none=>exact h
  |some _=>simp at h
 case lookup t x ix ok=>
  revert h
  generalize ev x=m;generalize ev ix=key;intro h;unfold ybc at h ⊢;split at h<;>first|(cases h;done)|skip
  split at h<;>first|(cases h;done)|skip
  ·split at h<;>first|(cases h;done)|skip
   simp_all
  ·split at h<;>first|(cases h;done)|skip
   simp_all
 case buildSlice t n ps=>
  cases n with
  |zero=>simp at h
  |succ n=>
   simp only at h ⊢;split at h<;>first|(cases h;done)|skip
   rename_i r' H' hs
   cases h;have:∀H,ww P t (n+1) (ps.toList.map fun p=>(p.1,ev p.2)) H=some (r,H):=by
    intro H;unfold ww at hs ⊢;split at hs<;>first|(cases hs;done)|skip
    split at hs<;>first|(cases hs;done)|skip
    split at hs<;>first|(cases hs;done)|skip
    rename_i hcond
    simp only [Nat.add_eq_zero_iff,Nat.succ_ne_self,and_false,if_false] at hs;split at hs<;>first|(cases hs;done)|skip
    split at hs<;>first|(cases hs;done)|skip
    cases hs
    simp_all
   rw [this H]
 case call c=>
  obtain ⟨callee,args,tys⟩:=c;cases callee with
  |value f=>simp at h
  |invoke r m=>simp at h
  |builtin b=>
   simp only at h ⊢;split at h<;>first|(cases h;done)|skip
   ·rename_i x t h1 h2
    cases hz:ypg P t [] x with
    |none=>simp [hz] at h
    |some v=>
     have:ypg P t H x=some v:=by
      unfold ypg at hz ⊢;split at hz<;>first|(cases hz;done)|skip
      all_goals simp_all
      split at hz<;>first|(cases hz;done)|skip
      all_goals simp_all
     simp [hz] at h;simp [this,h]
   ·rename_i h1;exact h
   ·rename_i h1;exact h
   ·rename_i h1;exact h
end
section
variable {P:Program} {G:List (Nat × D)} {fn:Func} {rd:Bool} {E:En P G fn rd} {t:List (Nat × SV)} {H K:List SObj} {k:List Item}
variable {m:Nat} {all:Array Oper} {o:Oper} {rest:List Oper} {done:List Eff}
theorem yex {t':List (Nat × SV)} (ht:∀n,qh t' n=qh t n) (h:SWe E m all rest k t' K done):SWe E m all rest k t K done:=by
 obtain ⟨es,t1,K1,h1,h2,h3⟩:=h.run;have eval:∀{t t':List (Nat × SV)},(∀n,qh t' n=qh t n)->zl G t'=zl G t:=fun {t t'} ht=>funext fun x=>by cases x<;>simp [zl,ht]
 have key:∀{rest:List Oper} {t1' t1 tA:List (Nat × SV)} {K1 K2:List SObj} {es:List Eff},DrawsE P G fn.ntmps m all rest t1' K1 es tA K2->(∀n,qh t1' n=qh t1 n)->∃tB,DrawsE P G fn.ntmps m all rest t1 K1 es tB K2/\∀n,qh tA n=qh tB n:=by
  intro rest t1' t1 tA K1 K2 es h
  induction h generalizing t1 with
  |nil t0 K0=>intro ht;exact ⟨t1,.nil t1 K0,ht⟩
  |@cons o rest ta tb Ka Kb e es hv _ ih=>
   intro ht
   have hv':ValE P G fn.ntmps m all o t1 Ka e:=⟨hv.dst,by
    rcases hv.how with ⟨h1,h2⟩|⟨h1,h2⟩
    ·exact .inl ⟨by rw [<-h1];exact (wo (fun n=>(ht n).symm)),h2⟩
    ·exact .inr ⟨by rw [<-h1];exact (wo (fun n=>(ht n).symm)),by rw [<-eval ht];exact h2⟩⟩
   obtain ⟨tB,g1,g2⟩:=ih (t1:=xj t1 o.dst e.val) (fun n=>by
    cases hd:o.dst with
    |none=>exact ht n
    |some d=>
     simp only [xj,qh];split
     ·rfl
     ·exact ht n)
   exact ⟨tB,.cons hv' g1,g2⟩
 obtain ⟨tB,g1,g2⟩:=key h1 ht;exact ⟨es,tB,K1,g1,h2,zox g2 h3⟩
def ysu:Option SObj->Bool
 |some .dead=>true
 |_=>false
def yhq (E : En P G fn rd) (m : Nat) (st : List Nat) (all : Array Oper) : List Oper -> List Item -> List (Nat × SV) -> List SObj -> Nat -> List Eff -> Prop
  | [], k, t, K, _, done => match zgf all 0 done with
    | true => SW E k t K
    | false => SWe E m all [] k t K done
  | o :: rest, k, t, K, nx, done => match yb fn.ntmps o.dst && Nat.ble m K.length with
    | false => SWe E m all (o :: rest) k t K done
    | true => match zuy all t o.guard with
      | .bad => SWe E m all (o :: rest) k t K done
      | .off => match o.dst with
        | some d => yhq E m st all rest k ((d, sU) :: t) K nx (done ++ [⟨sU, [], none⟩])
        | none => yhq E m st all rest k t K nx (done ++ [⟨sU, [], none⟩])
      | .free => match zxi o.op (zl G t) st o.dst with
        | true => SWe E m all (o :: rest) k t K done
        | false => match ywh P o.op (zl G t) K nx with
          | some (e, false) => fS e.val fun r => fH st (zfl K e.wr) fun K' => match o.dst with
            | some d => yhq E m st all rest k ((d, r) :: t) K' nx (done ++ [e])
            | none => yhq E m st all rest k t K' nx (done ++ [e])
          | some (e, true) => match ysu K[nx]? && Nat.ble m nx with
            | false => SWe E m all (o :: rest) k t K done
            | true => fS e.val fun r => fH st (zfl K e.wr) fun K' => match o.dst with
              | some d => yhq E m st all rest k ((d, r) :: t) K' (nx + 1) (done ++ [e])
              | none => yhq E m st all rest k t K' (nx + 1) (done ++ [e])
          | none => SWe E m all (o :: rest) k t K done
      | .on g b want => zow (zcr b want)
        (match zxi o.op (zl G (zaa g want :: t)) st o.dst with
        | true => SWe E m all (o :: rest) k (zaa g want :: t) K done
        | false => match ywh P o.op (zl G (zaa g want :: t)) K nx with
          | some (e, false) => fS e.val fun r => fH st (zfl K e.wr) fun K' => match o.dst with
            | some d => yhq E m st all rest k ((d, r) :: zaa g want :: t) K' nx (done ++ [e])
            | none => yhq E m st all rest k (zaa g want :: t) K' nx (done ++ [e])
          | _ => SWe E m all (o :: rest) k (zaa g want :: t) K done)
        (match o.dst with
        | some d => yhq E m st all rest k ((d, sU) :: zaa g (!want) :: t) K nx (done ++ [⟨sU, [], none⟩])
        | none => yhq E m st all rest k (zaa g (!want) :: t) K nx (done ++ [⟨sU, [], none⟩]))
theorem ylf {op:Op} {ev:Operand->SV} {nx:Nat} {e:Eff} (h:ywh P op ev K nx=some (e,false)) (K':List SObj) (ha:∀b,b∈e.foot\/zvi e.wr b->K'[b]?=K[b]?):sop P op ev K'=some (e.val,zfl K' e.wr):=by
 have dflt:(match yqc P op ev [] with|some r=>some ((⟨r,[],none⟩:Eff),false)|none=>none)=some (e,false)->sop P op ev K'=some (e.val,zfl K' e.wr):=by
  intro h;split at h<;>first|(cases h;done)|skip
  rename_i r hr
  cases h;exact yqj hr K'
 cases op<;>simp only [ywh] at h<;>first|exact dflt h|skip
 case alloc x=>split at h<;>cases h
 case load t a=>
  split at h
  ·rename_i b o hx
   split at h<;>first|(cases h;done)|skip
   rename_i r hr
   cases h;have hb:=ha b (.inl (by simp));simp only [sop,hx,zfl];unfold zaz at hr ⊢;simp only at hr ⊢;rw [hb,hr];rfl
  ·split at h<;>first|(cases h;done)|skip
   rename_i hne r hr
   cases h;simp only [sop,zfl];generalize ev a=x at hr hne;unfold zaz at hr ⊢;split at hr<;>first|(cases hr;done)|skip
   rw [hr];rfl
 case store t a x=>
  split at h<;>first|(cases h;done)|skip
  rename_i b o hx
  split at h<;>first|(cases h;done)|skip
  rename_i K1 hr
  split at h<;>first|(cases h;done)|skip
  rename_i ob hob
  cases h;have hb:=ha b (.inl (by simp));simp only [sop,hx,zfl];unfold zci at hr ⊢;split at hr<;>first|(cases hr;done)|skip
  rename_i b' off new n h1 h2 h3
  cases h1;split at hr<;>first|(cases hr;done)|skip
  rename_i cs hcs
  split at hr<;>first|(cases hr;done)|skip
  rename_i hcond
  rw [hcs] at hb;simp only [hb];rw [if_pos hcond];cases hr;rw [List.getElem?_set_self (lt_of_getElem? hcs)] at hob;cases hob;rfl
theorem yqk {op:Op} {ev:Operand->SV} {nx:Nat} {e:Eff} (h:ywh P op ev K nx=some (e,true)):∃ob,e=⟨.ptr nx 0,[],some (nx,ob)⟩/\ob.under K.length=true/\∀K':List SObj,sop P op ev K'=some (.ptr K'.length 0,K'++[ob]):=by
 have dflt:(match yqc P op ev [] with|some r=>some ((⟨r,[],none⟩:Eff),false)|none=>none)=some (e,true)->False:=by
  intro h;split at h<;>simp at h
 cases op<;>simp only [ywh] at h<;>first|exact (dflt h).elim|skip
 case load t a=>
  split at h<;>(split at h<;>cases h)
 case store t a x=>
  split at h<;>first|(cases h;done)|skip
  split at h<;>first|(cases h;done)|skip
  split at h<;>cases h
 case alloc x=>
  split at h<;>first|(cases h;done)|skip
  rename_i z hz
  cases h;refine ⟨_,rfl,?_,fun K'=>by simp only [sop,hz];rfl⟩;have all:∀l:List Value,SV.under.allUnder K.length (l.map zww)=true:=by
   intro l
   induction l with
   |nil=>rfl
   |cons v l ih=>
    simp only [List.map_cons,SV.under.allUnder,Bool.and_eq_true];refine ⟨?_,ih⟩;unfold zww;split
    ·split<;>rfl
    ·rfl
  exact all _
theorem zn (st:List Nat):∀{rest:List Oper} {t:List (Nat × SV)} {K:List SObj} {nx:Nat} {done:List Eff},yhq E m st all rest k t K nx done->SWe E m all rest k t K done
 |[],t,K,nx,done,h=>by
  simp only [yhq] at h;split at h
  ·rename_i hc;exact qf hc h
  ·exact h
 |o::rest,t,K,nx,done,h=>by
  simp only [yhq] at h;split at h
  ·exact h
  rename_i hdm
  simp only [Bool.and_eq_true] at hdm;obtain ⟨hd,hm⟩:=hdm;have hm:=Nat.le_of_ble_eq_true hm;split at h
  ·exact h
  ·rename_i hg
   refine yew (zoy hg) hd ?_;cases hdst:o.dst with
   |none=>rw [hdst] at h;exact zn st h
   |some d=>rw [hdst] at h;exact zn st h
  ·rename_i hg
   split at h
   ·exact h
   split at h
   ·rename_i e hop
    rw [yhh,ypx] at h;refine zaf e (zht hg) hd hm (fun K' _ ha=>ylf hop K' ha) ?_;cases hdst:o.dst with
    |none=>rw [hdst] at h;exact zn st h
    |some d=>rw [hdst] at h;exact zn st h
   ·rename_i e hop
    split at h
    ·exact h
    rename_i hdead
    simp only [Bool.and_eq_true] at hdead;have hnx:K[nx]?=some .dead:=by
     have:=hdead.1;unfold ysu at this;split at this
     ·assumption
     ·cases this
    rw [yhh,ypx] at h;obtain ⟨ob,rfl,hob,hs⟩:=yqk hop;refine yuf nx (r:=.ptr K.length 0) (zht hg) hd (Nat.le_of_ble_eq_true hdead.2) hnx (by simp [SV.isNew]) hob (fun K' hl=>by rw [hs K',hl]) ?_;simp only [SV.mv,if_true];cases hdst:o.dst with
    |none=>rw [hdst] at h;exact zn st h
    |some d=>rw [hdst] at h;exact zn st h
   ·exact h
  ·rename_i g b want hg
   obtain ⟨hw,htd⟩:=zvc hg;cases hwb:zcr b want with
   |true=>
    rw [hwb] at h hw;simp only [zow] at h;have e:b=want:=by cases b<;>cases want<;>simp_all [zcr]
    subst e;refine yex (xz htd) ?_;have hw':zu all (zaa g b::t) o.guard=some true:=by rw [wo (xz htd)];exact hw
    split at h
    ·exact h
    split at h
    ·rename_i e hop
     rw [yhh,ypx] at h;refine zaf e hw' hd hm (fun K' _ ha=>ylf hop K' ha) ?_;cases hdst:o.dst with
     |none=>rw [hdst] at h;exact zn st h
     |some d=>rw [hdst] at h;exact zn st h
    ·exact h
   |false=>
    rw [hwb] at h hw;simp only [zow] at h;have e:b= !want:=by cases b<;>cases want<;>simp_all [zcr]
    subst e;refine yex (xz htd) (yew (by rw [wo (xz htd)];exact hw) hd ?_);cases hdst:o.dst with
    |none=>rw [hdst] at h;exact zn st h
    |some d=>rw [hdst] at h;exact zn st h
theorem ylg {ty e n:Nat} {x ix:Operand} {rows:List (List D)} {i:Nat} {mm:Int} {kk:IntKind} {row:List D} (hop:o.op= .indexAddr ty x ix)
  (hw:zu all t o.guard=some true) (hd:yb fn.ntmps o.dst=true) (hx:(zl G t x).rows=some (n,rows)) (hi:zl G t ix= .imm (.val (.int kk mm)))
  (hu:P.underlying ty=some (.slice e)) (hn:xe P e=some n) (hm:m<=K.length) (hmm:mm=(i:Int)) (hr:rows[i]?=some row)
  (h:SWe E m all rest k (xj t o.dst (.imm (.row row 0))) K (done++[⟨.imm (.row row 0),[],none⟩])):SWe E m all (o::rest) k t K done:=
 zaf ⟨.imm (.row row 0),[],none⟩ hw hd hm (fun K' _ _=>by rw [hop];exact zgs hx hi hu hn hmm hr) h
theorem qn {ty e0 n:Nat} {x ix:Operand} {rows:List (List D)} {i:Nat} {mm:Int} {kk:IntKind} {row:List D} (e:(o.op,zu all t o.guard,yb fn.ntmps o.dst,(zl G t x).rows,zl G t ix,P.underlying ty,xe P e0)=(.indexAddr ty x ix,some true,true,some (n,rows),.imm (.val (.int kk mm)),some (.slice e0),some n)) (hm:m<=K.length) (hmm:mm=(i:Int)) (hr:rows[i]?=some row) (h:SWe E m all rest k (xj t o.dst (.imm (.row row 0))) K (done++[⟨.imm (.row row 0),[],none⟩])):SWe E m all (o::rest) k t K done:=ylg (congrArg (·.1) e) (congrArg (·.2.1) e) (congrArg (·.2.2.1) e) (congrArg (·.2.2.2.1) e) (congrArg (·.2.2.2.2.1) e) (congrArg (·.2.2.2.2.2.1) e) (congrArg (·.2.2.2.2.2.2) e) hm hmm hr h
theorem zcs {ty e n:Nat} {x ix:Operand} {b off len i:Nat} {mm:Int} {kk:IntKind} (hop:o.op= .indexAddr ty x ix)
  (hw:zu all t o.guard=some true) (hd:yb fn.ntmps o.dst=true) (hx:zl G t x= .osl b off len) (hi:zl G t ix= .imm (.val (.int kk mm)))
  (hu:P.underlying ty=some (.slice e)) (hn:xe P e=some n) (hm:m<=K.length) (hmm:mm=(i:Int)) (hr:i<len)
  (h:SWe E m all rest k (xj t o.dst (.ptr b (off+i*n))) K (done++[⟨.ptr b (off+i*n),[],none⟩])):SWe E m all (o::rest) k t K done:=
 zaf ⟨.ptr b (off+i*n),[],none⟩ hw hd hm (fun K' _ _=>by
  subst hmm;rw [hop];simp only [sop,hi,jv,hu,hn,hx];rw [if_pos (by omega)]
  simp [zfl]) h
theorem yql {α:Type} (n:Nat) (x:α):(List.replicate n [x]).flatten=List.replicate n x:=by simp
end
def SV.solid:SV->SV
 | .asl _ kk rows=>.imm (.isl kk rows)
 | .fn f first captured=>.fn f (solidL first) (solidL captured)
 | .iface t v=>.iface t v.solid
 | .agg cs=>.agg (solidL cs)
 | .tup vs=>.tup (solidL vs)
 |s=>s
where solidL:List SV->List SV
 |[]=>[]
 |s::r=>s.solid::solidL r
theorem we:∀l,(SV.solid.solidL l).length=l.length
 |[]=>rfl
 |s::r=>by simp [SV.solid.solidL,we r]
theorem zdd:∀(l:List SV) (j:Nat) (h:j<l.length) (h':j<(SV.solid.solidL l).length),(SV.solid.solidL l)[j]'h'=(l[j]'h).solid
 |s::r,0,_,_=>rfl
 |s::r,j+1,h,h'=>by
  simp only [SV.solid.solidL,List.getElem_cons_succ];exact zdd r j (by simpa using h) (by simpa [SV.solid.solidL] using h')
def SObj.solid:SObj->SObj
 | .cells cs=>.cells (SV.solid.solidL cs)
 |o=>o
section
variable {P:Program} {G:List (Nat × D)} {fn:Func} {rd:Bool} {E:En P G fn rd} {t:List (Nat × SV)} {H:List SObj} {k:List Item}
variable {all:Array Oper} {o:Oper} {rest:List Oper}
theorem Rep.solid {w:World} {I:Imm} {β:List Bnd} {v:Value} {s:SV} (h:Rep w I β v s):Rep w I β v s.solid:=by
 induction h with
 |any v=>exact .any v
 |imm h=>exact .imm h
 |ptr b c off h=>exact .ptr b c off h
 |osl b c off l cap h h1 h2=>exact .osl b c off l cap h h1 h2
 |asl b kk rows v u n h hu hs hle heq=>exact .imm h
 |map b c h=>exact .map b c h
 |yld b c h=>exact .yld b c h
 |vec b n v u q h hs hle hv heq=>exact .vec b n v u q h hs hle hv heq
 |vptr b n off v a q cap h hle hv heq=>exact .vptr b n off v a q cap h hle hv heq
 |fn f fs cs first captured h1 h2 _ _ ih1 ih2=>
  refine .fn f fs cs _ _ (by rw [we];exact h1) (by rw [we];exact h2) (fun j hj hj'=>?_) (fun j hj hj'=>?_)
  ·have hj2:j<first.length:=by rw [we] at hj;exact hj
   rw [zdd _ _ hj2];exact ih1 j hj2 hj'
  ·have hj2:j<captured.length:=by rw [we] at hj;exact hj
   rw [zdd _ _ hj2];exact ih2 j hj2 hj'
 |iface t v s _ ih=>exact .iface t v _ ih
 |agg vs cs h1 _ ih=>
  refine .agg vs _ (by rw [we];exact h1) (fun j hj hj'=>?_);have hj2:j<cs.length:=by rw [we] at hj;exact hj
  rw [zdd _ _ hj2];exact ih j hj2 hj'
 |tup vs ss h1 _ ih=>
  refine .tup vs _ (by rw [we];exact h1) (fun j hj hj'=>?_);have hj2:j<ss.length:=by rw [we] at hj;exact hj
  rw [zdd _ _ hj2];exact ih j hj2 hj'
theorem zsx (t:List (Nat × SV)) (n:Nat):qh (t.map fun x=>(x.1,x.2.solid)) n=(qh t n).solid:=by
 induction t with
 |nil=>simp [qh,SV.solid]
 |cons x t ih=>
  simp only [List.map_cons,qh];split
  ·rfl
  ·exact ih
theorem ObjOK.solid {w:World} {I:Imm} {β:List Bnd} {o:SObj} {x:Bnd} (h:ObjOK w I β o x):ObjOK w I β o.solid x:=by
 cases o with
 |cells l=>
  cases x with
  |blk c=>
   obtain ⟨vs,T,a1,a2,a3,a4⟩:=h;refine ⟨vs,T,a1,by rw [we];exact a2,fun j hj hj'=>?_,a4⟩;have hj2:j<l.length:=by rw [we] at hj;exact hj
   rw [zdd _ _ hj2];exact (a3 j hj2 hj').solid
  |tok u=>exact h
 |_=>exact h
theorem ja (h:SW E k (t.map fun x=>(x.1,x.2.solid)) (H.map SObj.solid)):SW E k t H:=by
 refine ⟨fun a w I β cs hs=>?_⟩;have hget:∀(b:Nat) o,(H.map SObj.solid)[b]?=some o->∃o0,H[b]?=some o0/\o=o0.solid:=by
  intro b o h1;rw [List.getElem?_map] at h1;cases ho:H[b]? with
  |none=>simp [ho] at h1
  |some o0=>simp [ho] at h1;exact ⟨o0,rfl,h1.symm⟩
 have hown:∀b c,wv (H.map SObj.solid) β b c->wv H β b c:=by
  rintro b c ⟨o,x,h1,h2,h3,h4⟩;obtain ⟨o0,g1,rfl⟩:=hget b o h1;exact ⟨o0,x,g1,fun e=>h2 (by rw [e];rfl),h3,h4⟩
 refine h.run a w I β cs ⟨⟨by simp [hs.heap.len],fun b o x h1 h2=>?_,fun b b' c h1 h2=>hs.heap.inj b b' c (hown b c h1) (hown b' c h2),hs.heap.inI,hs.heap.glob⟩,fun n=>by rw [zsx];exact (hs.tmps n).solid,hs.size,?_,?_,by simpa using hs.hlen⟩
 ·obtain ⟨o0,g1,rfl⟩:=hget b o h1
  exact (hs.heap.obj b o0 x g1 h2).solid
 ·obtain ⟨bs,d1,d2,d3⟩:=hs.defers
  exact ⟨bs,d1,d2,fun c hc=>⟨(d3 c hc).1,(d3 c hc).2.1,fun b hb=>(d3 c hc).2.2 b (hown b c hb)⟩⟩
 ·exact {hs.ext with own:=fun b c ho=>hs.ext.own b c (hown b c ho)}
theorem zki (b len kk:Nat) {cs junk:List SV} {ds:List D} {t':List (Nat × SV)} {H':List SObj} (hb:H[b]?=some (.cells (cs++junk))) (hone:cs.all SV.one=true) (hds:cs.mapM SV.toD=some ds) (hlen:cs.length=len*kk)
  (ht:(t.map fun x=>(x.1,x.2.shut b len (.isl kk (qo kk ds len))))=t') (hH:((H.set b .dead).map (SObj.shut b len (.isl kk (qo kk ds len))))=H') (h:SW E k t' H'):SW E k t H:=
 yqe b len kk hb hone hds hlen (by rw [ht,hH];exact h)
theorem yw {t':List (Nat × SV)} {H':List SObj} (f:∀k,SW E k t' H'->SW E k t H) (h:SWr E all rest k t' H'):SWr E all rest k t H:=⟨fun j hj hd=>f _ (h.run j hj hd)⟩
theorem yhr {b kk by_ e e':Nat} {z:Value} {sx xx:Operand} {sT xT:Nat} {rows new:List (List D)} (hop:o.op= .call ⟨.builtin .append,#[sx,xx],#[sT,xT]⟩)
  (hw:zu all t o.guard=some true) (hd:yb fn.ntmps o.dst=true) (hs:zl G t sx= .asl b kk rows) (hx:(zl G t xx).rows=some (kk,new)) (hu:P.underlying sT=some (.slice e)) (hu':P.underlying xT=some (.slice e'))
  (hk:xe P e=some kk) (hby:js P e=some by_) (hz:jx P e=some z) (hcond:by_<=65536/\z.cells.size=kk) (hb:H[b]?=some (.tok kk rows.length)) (hlen:rows.length+new.length<=1073741824)
  (h:SWr E all rest k (xj t o.dst (.asl b kk (rows++new))) (H.set b (.tok kk (rows.length+new.length)))):SWr E all (o::rest) k t H:=by
 refine qy hw hd (r:=.asl b kk (rows++new)) (H':=H.set b (.tok kk (rows.length+new.length))) ?_ (by simp) h;rw [hop];simp only [sop,zfg,List.map_cons,List.map_nil,zln,hu,hu',hx,hk,hby,hz];rw [if_pos ⟨hcond.1,hcond.2,.inl trivial⟩];simp only [zdf,hs,hb];rw [if_pos ⟨trivial,trivial,trivial,hlen⟩]
theorem zr  {b kk by_ e0 e1:Nat} {z:Value} {sx xx:Operand} {sT xT:Nat} {rows new:List (List D)} (e:(o.op,zu all t o.guard,yb fn.ntmps o.dst,zl G t sx,(zl G t xx).rows,P.underlying sT,P.underlying xT,xe P e0,js P e0,jx P e0)=(.call ⟨.builtin .append,#[sx,xx],#[sT,xT]⟩,some true,true,.asl b kk rows,some (kk,new),some (.slice e0),some (.slice e1),some kk,some by_,some z)) (hcond:by_<=65536/\z.cells.size=kk) (hb:H[b]?=some (.tok kk rows.length)) (hlen:rows.length+new.length<=1073741824) (h:SWr E all rest k (xj t o.dst (.asl b kk (rows++new))) (H.set b (.tok kk (rows.length+new.length)))):SWr E all (o::rest) k t H:=yhr (congrArg (·.1) e) (congrArg (·.2.1) e) (congrArg (·.2.2.1) e) (congrArg (·.2.2.2.1) e) (congrArg (·.2.2.2.2.1) e) (congrArg (·.2.2.2.2.2.1) e) (congrArg (·.2.2.2.2.2.2.1) e) (congrArg (·.2.2.2.2.2.2.2.1) e) (congrArg (·.2.2.2.2.2.2.2.2.1) e) (congrArg (·.2.2.2.2.2.2.2.2.2) e) hcond hb hlen h
variable {m:Nat} {K:List SObj} {done:List Eff}
theorem zpf {ty:Nat} {ax vx:Operand} {b off:Nat} {v zz:SV} {d r:List SV} (ha:zl G t ax= .ptr b off) (hv:zl G t vx=v) (hone:v.cells=some [v]) (hone':v.one=true) (hsz:xe P ty=some 1)
  (hb:K[b]?=some (.cells (d++zz::r))) (hoff:off=d.length):sop P (.store ty ax vx) (zl G t) K=some (.any,K.set b (.cells (d++v::r))):=by
 subst hoff;simp only [sop,zci,ha,hv,hone,hsz,hb];rw [if_pos ⟨by simp,by simp,by simp [hone']⟩];simp
theorem xa {ty:Nat} {ax vx:Operand} {b off:Nat} {v zz:SV} {d r:List SV} (hop:o.op= .store ty ax vx) (hw:zu all t o.guard=some true) (hd:yb fn.ntmps o.dst=true) (ha:zl G t ax= .ptr b off) (hv:zl G t vx=v) (hone:v.cells=some [v]) (hone':v.one=true) (hsz:xe P ty=some 1)
  (hm:m<=K.length) (hb:K[b]?=some (.cells (d++zz::r))) (hoff:off=d.length)
  (h:SWe E m all rest k (xj t o.dst .any) (K.set b (.cells (d++v::r))) (done++[⟨.any,[b],some (b,.cells (d++v::r))⟩])):SWe E m all (o::rest) k t K done:=
 zaf ⟨.any,[b],some (b,.cells (d++v::r))⟩ hw hd hm (fun K' _ hagree=>by
  rw [hop,zpf ha hv hone hone' hsz (by rw [hagree b (.inl (by simp))];exact hb) hoff]
  rfl) h
theorem zba {ty:Nat} {ax vx:Operand} {b off:Nat} {v zz:SV} {d r:List SV} (hop:o.op= .store ty ax vx) (hw:zu all t o.guard=some true) (hd:yb fn.ntmps o.dst=true) (ha:zl G t ax= .ptr b off) (hv:zl G t vx=v) (hone:v.cells=some [v]) (hone':v.one=true) (hsz:xe P ty=some 1)
  (hb:H[b]?=some (.cells (d++zz::r))) (hoff:off=d.length)
  (h:SWr E all rest k (xj t o.dst .any) (H.set b (.cells (d++v::r)))):SWr E all (o::rest) k t H:=
 qy hw hd (by rw [hop];exact zpf ha hv hone hone' hsz hb hoff) (by simp) h
end
section
variable {P:Program} {G:List (Nat × D)} {w:World} {I:Imm} {β:List Bnd} {H:List SObj}
theorem HeapOK.moveVec {m n n' b:Nat} {o0 o1:SObj} {u u':Value} {w':World} {I':Imm} (h:HeapOK G w I β H) (hb:H[b]?=some o0) (hod:o0≠ .dead) (hx:β[b]?=some (.tok u))
  (hu:∃a cap a' cap',u= .slice a n cap/\u'= .slice a' n' cap') (hnn:n<n') (hsz:w.heap.size<=w'.heap.size)
  (hold:∀c,c<w.heap.size->(Bnd.tok u).block≠some c->w'.heap[c]?=w.heap[c]?)
  (hcell:∀c o,I c o->w'.cell? ⟨c,o,none⟩=w.cell? ⟨c,o,none⟩)
  (hI:∀c o,I c o->I' c o) (hI':∀c o,I' c o->I c o\/(Bnd.tok u').block=some c) (hlt:∀c o,I' c o->c<w'.heap.size)
  (hblk:∀c,(Bnd.tok u').block=some c->(Bnd.tok u).block=some c\/w.heap.size<=c)
  (ho:ObjOK w' I' (β.set b (.tok u')) o1 (.tok u')) (hen:zeh w w':=by exact ⟨rfl,rfl⟩):
  HeapOK G w' I' (β.set b (.tok u')) (H.set b o1)/\Ext m w I β H w' I' (β.set b (.tok u')) (H.set b o1):=by
 have hblt:=lt_of_getElem? hb;have hxlt:=lt_of_getElem? hx;have hkeep:∀m,Keeps m β (β.set b (.tok u')):=by
  intro m b' x _ hb'
  by_cases e:b'=b
  ·subst e
   rw [hx] at hb';cases hb';obtain ⟨a,cap,a',cap',rfl,rfl⟩:=hu;exact ⟨_,List.getElem?_set_self hxlt,.inr ⟨_,rfl,.inr ⟨_,_,_,_,_,_,rfl,rfl,hnn⟩⟩⟩
  ·exact ⟨x,by rw [List.getElem?_set_ne (Ne.symm e)];exact hb',x.le_refl⟩
 have key:∀b' c',wv (H.set b o1) (β.set b (.tok u')) b' c'->(b'≠b/\wv H β b' c')\/(b'=b/\(Bnd.tok u').block=some c'):=by
  rintro b' c' ⟨p,x,h1,h2,h3,h4⟩
  by_cases e:b'=b
  ·subst e
   rw [List.getElem?_set_self hxlt] at h3;cases h3;exact .inr ⟨rfl,h4⟩
  ·rw [List.getElem?_set_ne (Ne.symm e)] at h1 h3;exact .inl ⟨e,p,x,h1,h2,h3,h4⟩
 have hownb:∀c,(Bnd.tok u).block=some c->wv H β b c:=fun c hc=>⟨_,_,hb,hod,hx,hc⟩
 have notblk:∀b' c,b'≠b->wv H β b' c->(Bnd.tok u).block≠some c:=fun b' c hne ho hc=>hne (h.inj b' b c ho (hownb c hc))
 refine ⟨{len:=by simp [h.len],obj:=?_,inj:=?_,inI:=hlt,glob:=fun g d hg=>(h.glob g d hg).mono hI hcell},
  {imm:=hI,cell:=hcell,keep:=hkeep m,old:=fun c hc hn=>hold c hc (fun e=>hn b (hownb c e)),own:=?_,new:=?_,size:=hsz,env:=hen}⟩
 ·intro b' p x h1 h2
  by_cases e:b'=b
  ·subst e
   rw [List.getElem?_set_self hxlt] at h2;cases h2;rw [List.getElem?_set_self hblt] at h1;cases h1;exact ho
  ·rw [List.getElem?_set_ne (Ne.symm e)] at h1 h2
   by_cases hpd:p= .dead
   ·subst hpd;trivial
   ·have hob:=h.obj b' p x h1 h2
    refine hob.mono (fun c hc=>hold c (hob.block_lt hpd hc) (notblk b' c e ⟨p,x,h1,hpd,h2,hc⟩)) hI hcell (hkeep _) ?_;intro c o hc hi;rcases hI' c o hi with h3|h3
    ·exact h3
    ·rcases hblk c h3 with h4|h4
     ·exact absurd h4 (notblk b' c e ⟨p,x,h1,hpd,h2,hc⟩)
     ·have:=hob.block_lt hpd hc;omega
 ·intro a b' c h1 h2
  rcases key a c h1 with ⟨n1,k1⟩|⟨e1,k1⟩<;>rcases key b' c h2 with ⟨n2,k2⟩|⟨e2,k2⟩
  ·exact h.inj a b' c k1 k2
  ·rcases hblk c k2 with h3|h3
   ·exact absurd h3 (notblk a c n1 k1)
   ·have:=h.owns_lt k1;omega
  ·rcases hblk c k1 with h3|h3
   ·exact absurd h3 (notblk b' c n2 k2)
   ·have:=h.owns_lt k2;omega
  ·rw [e1,e2]
 ·intro b' c h1
  rcases key b' c h1 with ⟨_,h1⟩|⟨_,h1⟩
  ·exact .inl ⟨b',h1⟩
  ·rcases hblk c h1 with h3|h3
   ·exact .inl ⟨b,hownb c h3⟩
   ·exact .inr h3
 ·intro c o hi
  rcases hI' c o hi with h3|h3
  ·exact .inl h3
  ·rcases hblk c h3 with h4|h4
   ·exact .inr (.inl ⟨b,hownb c h4⟩)
   ·exact .inr (.inr h4)
theorem HeapOK.changeB {w':World} {m:Nat} (h:HeapOK G w I β H) {b c:Nat} {o o':SObj} {x:Bnd} (hb:H[b]?=some o) (hd:o≠ .dead) (hx:β[b]?=some x) (hxc:x.block=some c)
  (hold:∀c',c'≠c->w'.heap[c']?=w.heap[c']?) (hsz:w'.heap.size=w.heap.size) (hnI:∀o,¬I c o)
  (ho:ObjOK w' I β o' x) (hen:zeh w w':=by exact ⟨rfl,rfl⟩):HeapOK G w' I β (H.set b o')/\Ext m w I β H w' I β (H.set b o'):=by
 have hblt:=lt_of_getElem? hb;have hown:wv H β b c:=⟨o,_,hb,hd,hx,hxc⟩;have hcell:∀c' o,I c' o->w'.cell? ⟨c',o,none⟩=w.cell? ⟨c',o,none⟩:=fun c' o hc=>by
  have hne:c'≠c:=fun e=>hnI o (e ▸ hc)
  exact ye (hold c' hne) o
 have key:∀b' c',wv (H.set b o') β b' c'->wv H β b' c':=by
  rintro b' c' ⟨p,x',h1,h2,h3,h4⟩
  by_cases e:b'=b
  ·subst e
   rw [hx] at h3;cases h3;rw [hxc] at h4;cases h4;exact hown
  ·rw [List.getElem?_set_ne (Ne.symm e)] at h1;exact ⟨p,x',h1,h2,h3,h4⟩
 refine ⟨?_,?_⟩
 ·refine {len:=by simp [h.len],obj:=?_,inj:=fun a b' c' h1 h2=>h.inj a b' c' (key a c' h1) (key b' c' h2),inI:=fun c o hc=>hsz ▸ h.inI c o hc,glob:=fun g d hg=>(h.glob g d hg).mono (fun _ _ h=>h) hcell}
  intro b' p x' h1 h2
  by_cases e:b'=b
  ·subst e
   rw [hx] at h2;cases h2;rw [List.getElem?_set_self hblt] at h1;cases h1;exact ho
  ·rw [List.getElem?_set_ne (Ne.symm e)] at h1
   by_cases hpd:p= .dead
   ·subst hpd;trivial
   ·refine (h.obj b' p x' h1 h2).mono (fun c' hc'=>hold c' ?_) (fun _ _ h=>h) hcell (.refl _ _) (fun _ _ _ h=>h)
    rintro rfl;exact e (h.inj b' b _ ⟨p,x',h1,hpd,h2,hc'⟩ hown)
 ·refine {imm:=fun _ _ h=>h,cell:=hcell,keep:=.refl _ _,old:=fun c' hc' hn=>hold c' (fun e=>hn b (e ▸ hown)),own:=fun b' c' h=>.inl ⟨b',key b' c' h⟩,new:=fun _ _ h=>.inl h,size:=by omega,env:=hen}
end
section
variable {P:Program} {G:List (Nat × D)} {fn:Func} {rd:Bool} {E:En P G fn rd} {t:List (Nat × SV)} {H:List SObj} {k:List Item}
variable {all:Array Oper} {o:Oper} {rest:List Oper}
theorem qq {r:SV} {H':List SObj} (hw:zu all t o.guard=some true) (hd:yb fn.ntmps o.dst=true) (hnd:∀c,o.op≠ .defer c) (hl:H.length<=H'.length)
  (hrun:∀(ρ:Operand->Value) w I β,HeapOK G w I β H->(∀x,Rep w I β (ρ x) (zl G t x))->OpRun P G (execOp ρ o) w I β H r H')
  (h:SWr E all rest k (xj t o.dst r) H'):SWr E all (o::rest) k t H:=by
 refine ⟨fun j hj hdrop=>?_⟩;obtain ⟨h1,ho,h3⟩:=xy hdrop;rw [zao h1];refine ⟨fun a w I β cs hsim=>?_⟩;have hwant:=qv hw hsim;obtain ⟨n,v,w',I',β',g1,g2,g3,g4,g5⟩:=hrun a.eval w I β hsim.heap hsim.eval;have hg:=jt (P:=P) (b:=E.base) (ro:=E.ro) (k:=k) (cs:=cs) (w:=w) (rest:=(List.range all.size).drop (j+1)) ho hwant (.inr hnd);have qr:∀v,(E.at a (.inRegion all (j::(List.range all.size).drop (j+1))::k)).finish v=E.at (a.put o.dst v) (.inRegion all ((List.range all.size).drop (j+1))::k):=by
  intro v;unfold En.at;rw [qm,ho];rfl
 have zby:step P (lone (E.at a (.inRegion all (j::(List.range all.size).drop (j+1))::k)) cs w)= .next (lone (E.at (a.put o.dst v) (.inRegion all ((List.range all.size).drop (j+1))::k)) cs w'):=by
  refine step_lone_go ?_;rw [<-qr];unfold En.at;rw [hg];rcases g2 with rfl|⟨rfl,rfl⟩<;>simp [stepG.apply,g1]
 exact .of_steps (.one zby) ((h.run (j+1) h1 h3).run _ w' I' β' cs (hsim.put hd g3 g4 g5 hl))
theorem zlu (b0 j kk:Nat) {cs:List SV} (hb:H[b0]?=some (.cells cs)) (hj:cs[j]?=some (.imm (.val (.slice none 0 0)))) (h:SW E k t (H.set b0 (.cells (cs.set j (.vec H.length 0)))++[.vec kk []])):SW E k t H:=by
 refine ⟨fun a w I β cs' hs=>?_⟩;have hbl:=lt_of_getElem? hb;have hp:=hs.heap.push (o:=.vec kk []) (x:=.tok (.slice none 0 0)) (.inl ⟨rfl,rfl⟩) (fun b c hc=>by cases hc);have he:Ext H.length w I β H w I (β++[.tok (.slice none 0 0)]) (H++[.vec kk []]):=.push hs.heap (fun c hc=>by cases hc);obtain ⟨x,hx⟩:∃x,β[b0]?=some x:=⟨β[b0]'(by rw [hs.heap.len];exact hbl),List.getElem?_eq_getElem _⟩;have hob:=hp.obj b0 (.cells cs) x (by rw [List.getElem?_append_left hbl];exact hb) (by rw [List.getElem?_append_left (lt_of_getElem? hx)];exact hx);cases x with
 |tok u=>exact hob.elim
 |blk c=>
 obtain ⟨vs,T,a1,a2,a3,a4⟩:=hob;have hnew:ObjOK w I (β++[.tok (.slice none 0 0)]) (.cells (cs.set j (.vec H.length 0))) (.blk c):=by
  refine ⟨vs,T,a1,by simpa using a2,fun q hq hq'=>?_,a4⟩
  by_cases e:j=q
  ·subst e
   have hq2:j<cs.length:=by simpa using hq
   have hr:=a3 j hq2 hq';have:cs[j]= .imm (.val (.slice none 0 0)):=by simpa [List.getElem?_eq_getElem hq2] using hj
   rw [this] at hr;simp only [List.getElem_set_self];generalize vs[j]=v at hr;cases hr with|imm hr=>
   cases hr with|val _=>
   exact .vec H.length 0 _ _ 0 (by rw [<-hs.heap.len];simp) ⟨_,_,rfl⟩ (Nat.le_refl _) ⟨_,_,_,rfl⟩ (fun _=>rfl)
  ·rw [List.getElem_set_ne e]
   exact a3 q (by simpa using hq) hq'
 obtain ⟨g1,g2⟩:=hp.changeB (m:=H.length) (w':=w) (b:=b0) (o:=.cells cs) (o':=.cells (cs.set j (.vec H.length 0))) (x:=.blk c) (by rw [List.getElem?_append_left hbl];exact hb) (by simp) (by rw [List.getElem?_append_left (lt_of_getElem? hx)];exact hx) rfl (fun _ _=>rfl) rfl a4 hnew;rw [List.set_append_left _ _ hbl] at g1 g2;have hE:=he.trans g2;exact h.run a w I _ cs' ⟨g1,fun n=>(hs.tmps n).ext (by rw [hs.heap.len];exact hE),hs.size,hs.defers.ext hE,hs.ext.trans (hE.weaken hs.hlen),by have:=hs.hlen;simp;omega⟩
theorem zlv {w:World} {I:Imm} {β:List Bnd} {v:Value} {b n kk:Nat} {cs:List SV} (hH:HeapOK G w I β H) (hb:H[b]?=some (.vec kk cs)) (hr:Rep w I β v (.vec b n)) (hlen:cs.length=n*kk) (hk:1<=kk):
  β[b]?=some (.tok v)/\((n=0/\v= .slice none 0 0/\cs=[])\/∃c cap vs T,v= .slice (some ⟨c,0,none⟩) n cap/\w.heap[c]?=some (.cells vs T (0,0))/\vs.size=cap*kk/\n<=cap/\cap<=maxLen/\(∀j (h:j<cs.length) (h':j<vs.size),Rep w I β (vs[j]'h') (cs[j]'h))/\∀o,¬I c o):=by
 cases hr with
 |vec _ _ _ u m hbu hus hle hv heq=>
 obtain ⟨a,cap,rfl⟩:=hus;rcases hH.obj b _ _ hb hbu with ⟨rfl,e⟩|⟨c,n',cap',vs,T,e,a1,a2,a3,a4,a5,a6,a7⟩
 ·cases e
  have hn:n=0:=by omega
  subst hn;rw [heq rfl];exact ⟨hbu,.inl ⟨rfl,rfl,rfl⟩⟩
 ·cases e
  have hn:n=m:=by
   rw [hlen] at a5;exact Nat.eq_of_mul_eq_mul_right hk a5
  subst hn;rw [heq rfl];exact ⟨hbu,.inr ⟨c,cap,vs,T,rfl,a1,a2,a3,a4,a6,a7⟩⟩
theorem yey {w:World} {I:Imm} {kk:Nat} {new:List (List D)} {B:List Value} (hB:Flat w I kk new B) (hk:1<=kk) {j:Nat} {x:Value} (hx:B[j]?=some x):∃d,new.flatten[j]?=some d/\DRep w I x d:=by
 have hj:j<new.length*kk:=by rw [<-hB.len];exact lt_of_getElem? hx
 obtain ⟨a1,a2,a3⟩:=zus hj;have hrow:=hB.row _ a1;have hr:=hB.rep (j / kk) (j % kk) a1 (by rw [hrow];exact a2) x (by rw [a3];exact hx);refine ⟨_,?_,hr⟩;have key:∀(L:List (List D)) (q i:Nat) (hq:q<L.length) (hall:∀i (h:i<L.length),(L[i]'h).length=kk) (hi:i<(L[q]'hq).length),L.flatten[q*kk+i]?=some ((L[q]'hq)[i]'hi):=by
  intro L
  induction L with
  |nil=>intro q i hq;simp at hq
  |cons r L ih=>
   intro q i hq hall hi;have hr0:r.length=kk:=hall 0 (by simp);cases q with
   |zero=>
    simp only [List.getElem_cons_zero] at hi ⊢;simp only [List.flatten_cons,Nat.zero_mul,Nat.zero_add];rw [List.getElem?_append_left hi];exact List.getElem?_eq_getElem hi
   |succ q=>
    simp only [List.getElem_cons_succ] at hi ⊢;simp only [List.flatten_cons];rw [List.getElem?_append_right (by rw [hr0,Nat.succ_mul];omega),hr0,show (q+1)*kk+i-kk=q*kk+i by rw [Nat.succ_mul];omega];exact ih q i (by simpa using hq) (fun i h=>by have:=hall (i+1) (by simpa using h);simpa using this) hi
 have:=key new (j / kk) (j % kk) a1 hB.row (by rw [hrow];exact a2);rw [a3] at this;exact this
theorem zbb {b n kk by_ e e':Nat} {z:Value} {sx xx:Operand} {sT xT:Nat} {cs:List SV} {new:List (List D)} (hop:o.op= .call ⟨.builtin .append,#[sx,xx],#[sT,xT]⟩)
  (hw:zu all t o.guard=some true) (hd:yb fn.ntmps o.dst=true) (hs:zl G t sx= .vec b n) (hx:zl G t xx= .imm (.isl kk new)) (hu:P.underlying sT=some (.slice e)) (hxu:P.underlying xT=some (.slice e'))
  (hpk:xe P e=some kk) (hby:js P e=some by_) (hz:jx P e=some z) (hcond:by_<=65536/\z.cells.size=kk) (hb:H[b]?=some (.vec kk cs)) (hlen:cs.length=n*kk) (hk:1<=kk) (hnew:1<=new.length) (hsmall:n+new.length<=1073741824)
  (h:SWr E all rest k (xj t o.dst (.vec b (n+new.length))) (H.set b (.vec kk (cs++new.flatten.map .imm)))):SWr E all (o::rest) k t H:=by
 refine qq hw hd (fun c e=>by rw [hop] at e;cases e) (by simp) (fun ρ w I β hH hev=>?_) h;have hr:=hev sx;rw [hs] at hr;have hrx:=hev xx;rw [hx] at hrx;obtain ⟨hbu,hnow⟩:=zlv hH hb hr hlen hk;generalize hxv:ρ xx=xv at hrx;cases hrx with|imm hrx=>
 obtain ⟨B,hB,hxl,hxc⟩:=hrx.flat (P:=P);have hBs:B.length=new.length*kk:=hB.len;have hfl:(new.flatten.map SV.imm).length=new.length*kk:=by
  rw [List.length_map];have:∀L:List (List D),(∀i (h:i<L.length),(L[i]'h).length=kk)->L.flatten.length=L.length*kk:=by
   intro L
   induction L with
   |nil=>intro _;simp
   |cons r L ih=>
    intro hall;have h0:r.length=kk:=hall 0 (by simp);have h1:=ih (fun i h=>by have:=hall (i+1) (by simpa using h);simpa using this);simp only [List.flatten_cons,List.length_append,List.length_cons,h0,h1,Nat.succ_mul];omega
  exact this new hB.row
 have hblt:=lt_of_getElem? hb;have hbxlt:=lt_of_getElem? hbu;have hnl:(cs++new.flatten.map SV.imm).length=(n+new.length)*kk:=by rw [List.length_append,hlen,hfl,Nat.add_mul]
 obtain ⟨dst,op,type,pos,after,guard⟩:=o;simp only at hop;subst hop;have rowsOK:∀(w':World) (β':List Bnd) (vs:List Value) (vs':Array Value),(∀c o,I c o->w'.cell? ⟨c,o,none⟩=w.cell? ⟨c,o,none⟩)->Keeps β.length β β'->vs.length=n*kk->
   (∀j (h:j<cs.length) (h':j<vs.length),Rep w I β (vs[j]'h') (cs[j]'h))->(∀j,j<n*kk+new.length*kk->vs'[j]?=(vs++B)[j]?)->
   ∀j (h:j<(cs++new.flatten.map SV.imm).length) (h':j<vs'.size),Rep w' I β' (vs'[j]'h') ((cs++new.flatten.map SV.imm)[j]'h):=by
  intro w' β' vs vs' hcell hkeep hvl hrep hget j hj hj';have hj2:j<n*kk+new.length*kk:=by rw [hnl,Nat.add_mul] at hj;exact hj
  have hg:=hget j hj2;rw [Array.getElem?_eq_getElem hj'] at hg;rcases Nat.lt_or_ge j (n*kk) with hlt|hge
  ·have hjc:j<cs.length:=by omega
   have hjv:j<vs.length:=by omega
   rw [List.getElem_append_left hjc];rw [List.getElem?_append_left hjv,List.getElem?_eq_getElem hjv] at hg;rw [Option.some.inj hg];exact (hrep j hjc hjv).mono (fun _ _ h=>h) hcell hkeep
  ·rw [List.getElem?_append_right (by omega),hvl] at hg
   obtain ⟨d,hd1,hd2⟩:=yey hB hk hg.symm;have:(cs++new.flatten.map SV.imm)[j]?=some (.imm d):=by
    rw [List.getElem?_append_right (by omega),hlen,List.getElem?_map,hd1];rfl
   rw [List.getElem?_eq_getElem hj] at this;rw [Option.some.inj this];exact .imm (hd2.mono (fun _ _ h=>h) hcell)
 have grow:∀(A:List Value) (ua:Option Addr) (ucap:Nat),ρ sx= .slice ua n ucap->A.length=n*kk->(∀j (h:j<cs.length) (h':j<A.length),Rep w I β (A[j]'h') (cs[j]'h))->
   (∀w':World,w'.heap=w.heap->(Builtin.firstCells kk n (.slice ua n ucap)).run P w'= .ok A.toArray w')->¬n+new.length<=ucap->
   OpRun P G (execOp ρ ⟨dst,.call ⟨.builtin .append,#[sx,xx],#[sT,xT]⟩,type,pos,after,guard⟩) w I β H (.vec b (n+new.length)) (H.set b (.vec kk (cs++new.flatten.map .imm))):=by
  intro A ua ucap hsv hAs hArep hsc hg;obtain ⟨newCap,rest',hc1,hc2,hrest,hrun⟩:=zgc (w:=w) (ty:=type) hu hxu hpk hby hz (base:=ua) (n:=n) (cap:=ucap) (A:=A) (B:=B) hxl (fun w' hw'=>hxc w' (fun c o _=>by simp [World.cell?,hw'])) hsc hg hsmall hcond.1;have hrs:rest'.size=(newCap-(n+new.length))*kk:=by rw [hrest];simp [Builtin.zeroCells,hcond.2]
  have hvs:(A.toArray++B.toArray++rest').size=newCap*kk:=by
   simp only [Array.size_append,List.size_toArray,hAs,hBs,hrs];rw [<-Nat.add_mul, <-Nat.add_mul];congr 1;omega
  have hnewblk:(w.drew.alloc (.cells (A.toArray++B.toArray++rest') e)).heap[w.heap.size]?=some (.cells (A.toArray++B.toArray++rest') e (0,0)):=yq (w:=w.drew) _;have hold:∀c,c<w.heap.size->(w.drew.alloc (.cells (A.toArray++B.toArray++rest') e)).heap[c]?=w.heap[c]?:=fun c hc=>by
   show (w.heap.push _)[c]?=_;rw [Array.getElem?_push,if_neg (by omega)]
  have hcell:∀c o,I c o->(w.drew.alloc (.cells (A.toArray++B.toArray++rest') e)).cell? ⟨c,o,none⟩=w.cell? ⟨c,o,none⟩:=fun c o hc=>ye (hold c (hH.inI c o hc)) o
  rw [hsv] at hbu;have hkeep:Keeps β.length β (β.set b (.tok (.slice (some ⟨w.heap.size,0,none⟩) (n+new.length) newCap))):=by
   intro b' x _ hb'
   by_cases e:b'=b
   ·subst e
    rw [hbu] at hb';cases hb';exact ⟨_,List.getElem?_set_self hbxlt,.inr ⟨_,rfl,.inr ⟨_,_,_,_,_,_,rfl,rfl,by omega⟩⟩⟩
   ·exact ⟨x,by rw [List.getElem?_set_ne (Ne.symm e)];exact hb',x.le_refl⟩
  obtain ⟨g1,g2⟩:=hH.moveVec (m:=H.length) (n:=n) (n':=n+new.length) (u':=.slice (some ⟨w.heap.size,0,none⟩) (n+new.length) newCap) (w':=w.drew.alloc (.cells (A.toArray++B.toArray++rest') e)) (I':=I) (o1:=.vec kk (cs++new.flatten.map .imm)) hb (by simp) hbu ⟨_,_,_,_,rfl,rfl⟩ (by omega)
   (by simp) (fun c hc _=>hold c hc) hcell (fun _ _ h=>h) (fun _ _ h=>.inl h) (fun c o hi=>by have:=hH.inI c o hi;simp;omega) (fun c hc=>by cases hc;exact .inr (Nat.le_refl _))
   (.inr ⟨w.heap.size,n+new.length,newCap,_,e,rfl,hnewblk,hvs,hc1,hc2,hnl,rowsOK _ _ A _ hcell hkeep hAs hArep (fun j hj=>by
    rw [Array.getElem?_append_left (by simp [hAs,hBs];omega)];simp),fun o hi=>by have:=hH.inI _ o hi;omega⟩)
  exact .value (by rw [<-hsv] at hrun;simpa [builtin,hxv] using hrun) (.vec b _ _ _ (n+new.length) (List.getElem?_set_self hbxlt) ⟨_,_,rfl⟩ (Nat.le_refl _) ⟨_,_,_,rfl⟩ (fun _=>rfl)) g1 g2
 rcases hnow with ⟨hn0,hsv,hcs⟩|⟨c,cap,vs,T,hsv,h2,h3,h4,h5,h6,h7⟩
 ·subst hn0
  exact grow [] none 0 hsv (by simp) (fun j h h'=>by simp at h') (fun w' _=>by rfl) (by omega)
 ·by_cases hfit:n+new.length<=cap
  ·have hle2:n*kk+new.length*kk<=vs.size:=by rw [h3, <-Nat.add_mul];exact Nat.mul_le_mul_right kk hfit
   have hrun:=jb (w:=w) (ty:=type) hu hxu hpk (n:=n) (cap:=cap) (m:=new.length) (c:=c) hxl (hxc w (fun _ _ _=>rfl)) hfit h2 hB.len hB.one h3;generalize hW:w.setRow c (vs.toList.take (n*kk)++B++vs.toList.drop (n*kk+new.length*kk)).toArray=W at hrun;have hnb:W.heap[c]?=some (.cells (vs.toList.take (n*kk)++B++vs.toList.drop (n*kk+new.length*kk)).toArray T (0,0)):=by rw [<-hW];exact setRow_heap w c vs _ T _ h2
   have hother:∀c',c'≠c->W.heap[c']?=w.heap[c']?:=by
    intro c' hne;rw [<-hW];simp [World.setRow,Array.getElem?_modify,Ne.symm hne]
   have hsz:W.heap.size=w.heap.size:=by rw [<-hW];simp [World.setRow]
   have hcell:∀c' o,I c' o->W.cell? ⟨c',o,none⟩=w.cell? ⟨c',o,none⟩:=fun c' o hi=>ye (hother c' (fun e=>h7 o (e ▸ hi))) o
   rw [hsv] at hbu;have hkeep:Keeps β.length β (β.set b (.tok (.slice (some ⟨c,0,none⟩) (n+new.length) cap))):=by
    intro b' x _ hb'
    by_cases e:b'=b
    ·subst e
     rw [hbu] at hb';cases hb';exact ⟨_,List.getElem?_set_self hbxlt,.inr ⟨_,rfl,.inr ⟨_,_,_,_,_,_,rfl,rfl,by omega⟩⟩⟩
    ·exact ⟨x,by rw [List.getElem?_set_ne (Ne.symm e)];exact hb',x.le_refl⟩
   have hAl:(vs.toList.take (n*kk)).length=n*kk:=by simp;omega
   obtain ⟨g1,g2⟩:=hH.moveVec (m:=H.length) (n:=n) (n':=n+new.length) (u':=.slice (some ⟨c,0,none⟩) (n+new.length) cap) (w':=W) (I':=I) (o1:=.vec kk (cs++new.flatten.map .imm)) hb (by simp) hbu ⟨_,_,_,_,rfl,rfl⟩ (by omega)
    (by omega) (fun c' _ hne=>hother c' (fun e=>hne (by rw [e];rfl))) hcell (fun _ _ h=>h) (fun _ _ h=>.inl h) (fun c' o hi=>by rw [hsz];exact hH.inI c' o hi) (fun c' hc=>by cases hc;exact .inl rfl)
    (.inr ⟨c,n+new.length,cap,_,T,rfl,hnb,by simp only [List.size_toArray,List.length_append,List.length_take,List.length_drop,Array.length_toList,hBs];omega,hfit,h5,hnl,
     rowsOK _ _ (vs.toList.take (n*kk)) _ hcell hkeep hAl (fun j h h'=>by
      have hj:j<vs.size:=by simp at h';omega
      have:=h6 j h hj;simpa using this) (fun j hj=>by
      rw [List.getElem?_toArray,List.getElem?_append_left (by rw [List.length_append,hAl,hBs];exact hj)]),h7⟩) (by rw [<-hW];exact ⟨rfl,rfl⟩)
   exact .value (by rw [<-hsv] at hrun;simpa [builtin,hxv] using hrun) (.vec b _ _ _ (n+new.length) (List.getElem?_set_self hbxlt) ⟨_,_,rfl⟩ (Nat.le_refl _) ⟨_,_,_,rfl⟩ (fun _=>rfl)) g1 g2
  ·have hAl:(vs.toList.take (n*kk)).length=n*kk:=by
    have:n*kk<=vs.size:=by rw [h3];exact Nat.mul_le_mul_right kk h4
    simp;omega
   refine grow (vs.toList.take (n*kk)) _ cap hsv hAl (fun j h h'=>by
      have hj:j<vs.size:=by simp at h';omega
      have:=h6 j h hj
      simpa using this) (fun w' hw'=>?_) hfit
   have:=run_loadCells_list (P:=P) w' ⟨c,0,none⟩ (vs.toList.take (n*kk)) (fun j x hx=>by
    have hj:j<n*kk:=by rw [<-hAl];exact lt_of_getElem? hx
    rw [qe,ye (w:=w) (by rw [hw']),cell_of_heap h2];rw [List.getElem?_take_of_lt hj] at hx
    simpa using hx)
   rw [hAl] at this;simpa [Builtin.firstCells] using this
end
section
variable {P:Program} {G:List (Nat × D)}
def SV.Is (s s':SV):Prop:=∀w I β v,Rep w I β v s->Rep w I β v s'
theorem SV.Is.refl (s:SV):s.Is s:=fun _ _ _ _ h=>h
theorem SV.Is.nil (k:Nat):(SV.imm (.val (.slice none 0 0))).Is (.imm (.isl k [])):=fun w I β v h=>by
 cases h with|imm h=>cases h with|val _=>exact .imm (.islNil k)
inductive SIs:List SV->List SV->Prop
 |nil:SIs [] []
 |cons {s s':SV} {l l':List SV}:s.Is s'->SIs l l'->SIs (s::l) (s'::l')
theorem SIs.len {l l':List SV} (h:SIs l l'):l.length=l'.length:=by
 induction h with
 |nil=>rfl
 |cons _ _ ih=>simp [ih]
theorem SIs.get {l l':List SV} (h:SIs l l'):∀j (h1:j<l.length) (h2:j<l'.length),(l[j]'h1).Is (l'[j]'h2):=by
 induction h with
 |nil=>intro j h1;simp at h1
 |cons h0 _ ih=>
  intro j h1 h2;cases j with
  |zero=>exact h0
  |succ j=>exact ih j (by simpa using h1) (by simpa using h2)
theorem SIs.agg {l l':List SV} (h:SIs l l'):(SV.agg l).Is (.agg l'):=fun w I β v hr=>by
 cases hr with
 |agg vs _ h1 h2=>exact .agg vs l' (by rw [h1,h.len]) (fun j hj hj'=>h.get j (by rw [h.len];exact hj) hj w I β _ (h2 j (by rw [h.len];exact hj) hj'))
theorem SIs.tup {l l':List SV} (h:SIs l l'):(SV.tup l).Is (.tup l'):=fun w I β v hr=>by
 cases hr with
 |tup vs _ h1 h2=>exact .tup vs l' (by rw [h1,h.len]) (fun j hj hj'=>h.get j (by rw [h.len];exact hj) hj w I β _ (h2 j (by rw [h.len];exact hj) hj'))
theorem yqm {f:FuncId} {args:List SV} {r r':SV} (h:zq P G f args r) (hr:r.Is r'):zq P G f args r':=
 fun H w I β vs hH hv=>(h H w I β vs hH hv).mono fun _ _ ⟨v,_,I',β',H',h1,⟨h2,h2'⟩,h3,h4⟩=>⟨v,r',I',β',H',h1,⟨rfl,h2'⟩,hr _ _ _ _ (h2 ▸ h3),h4⟩
theorem SYield.mono {b:Nat} {args:List SV} {H:List SObj} {K K':Bool->List SObj->Prop} (h:SYield P G b args H K) (hK:∀r H',K r H'->K' r H'):SYield P G b args H K':=
 fun w I β l r vs hH hb hl hv c cs=>by
  obtain ⟨res,w',⟨I',β',H',h1,h2⟩,h3⟩:=h w I β l r vs hH hb hl hv c cs;exact ⟨res,w',⟨I',β',H',hK _ _ h1,h2⟩,h3⟩
end
section
variable {P:Program} {G:List (Nat × D)} {fn:Func} {rd:Bool} {E:En P G fn rd} {t:List (Nat × SV)} {H:List SObj} {k:List Item}
theorem yyp (s:Nat) {x y:SV} (hs:qh t s=x) (hy:x.Is y) (h:SW E k ((s,y)::t) H):SW E k t H:=by
 refine ⟨fun a w I β cs hsim=>h.run a w I β cs {hsim with tmps:=fun m=>?_}⟩
 by_cases e:s=m
 ·subst e
  simp only [qh,if_true];have:=hsim.tmps s;rw [hs] at this;exact hy _ _ _ _ this
 ·simp only [qh,if_neg e]
  exact hsim.tmps m
theorem yuh (b:Nat) (h:SW E k t (H.set b .dead)):SW E k t H:=by
 refine ⟨fun a w I β cs hsim=>?_⟩;have hsub:∀b' c',wv (H.set b .dead) β b' c'->wv H β b' c':=by
  rintro b' c' ⟨o,x,h1,h2,h3,h4⟩
  by_cases e:b'=b
  ·subst e
   rw [List.getElem?_set] at h1;simp at h1;exact absurd h1.2.symm h2
  ·rw [List.getElem?_set_ne (Ne.symm e)] at h1
   exact ⟨o,x,h1,h2,h3,h4⟩
 refine h.run a w I β cs ⟨⟨by simp [hsim.heap.len],fun b' o x h1 h2=>?_,fun b1 b2 c' h1 h2=>hsim.heap.inj b1 b2 c' (hsub b1 c' h1) (hsub b2 c' h2),hsim.heap.inI,hsim.heap.glob⟩,hsim.tmps,hsim.size,?_,?_,by simpa using hsim.hlen⟩
 ·by_cases e:b'=b
  ·subst e
   rw [List.getElem?_set] at h1;simp at h1;rw [<-h1.2];trivial
  ·rw [List.getElem?_set_ne (Ne.symm e)] at h1
   exact hsim.heap.obj b' o x h1 h2
 ·obtain ⟨bs,d1,d2,d3⟩:=hsim.defers
  exact ⟨bs,d1,d2,fun c' hc=>⟨(d3 c' hc).1,(d3 c' hc).2.1,fun b' hb'=>(d3 c' hc).2.2 b' (hsub b' c' hb')⟩⟩
 ·exact {hsim.ext with own:=fun b' c' ho=>hsim.ext.own b' c' (hsub b' c' ho)}
end
def D.Is (d d':D):Prop:=∀w I v,DRep w I v d->DRep w I v d'
theorem D.Is.refl (d:D):d.Is d:=fun _ _ _ h=>h
theorem D.Is.nil (k:Nat):(D.val (.slice none 0 0)).Is (.isl k []):=fun w I v h=>by
 cases h with|val _=>exact .islNil k
inductive DIs:List D->List D->Prop
 |nil:DIs [] []
 |cons {s s':D} {l l':List D}:s.Is s'->DIs l l'->DIs (s::l) (s'::l')
inductive DIss:List (List D)->List (List D)->Prop
 |nil:DIss [] []
 |cons {s s':List D} {l l':List (List D)}:DIs s s'->DIss l l'->DIss (s::l) (s'::l')
theorem DIs.len {l l':List D} (h:DIs l l'):l.length=l'.length:=by
 induction h with
 |nil=>rfl
 |cons _ _ ih=>simp [ih]
theorem DIs.get {l l':List D} (h:DIs l l'):∀j (h1:j<l.length) (h2:j<l'.length),(l[j]'h1).Is (l'[j]'h2):=by
 induction h with
 |nil=>intro j h1;simp at h1
 |cons h0 _ ih=>
  intro j h1 h2;cases j with
  |zero=>exact h0
  |succ j=>exact ih j (by simpa using h1) (by simpa using h2)
theorem DIss.len {l l':List (List D)} (h:DIss l l'):l.length=l'.length:=by
 induction h with
 |nil=>rfl
 |cons _ _ ih=>simp [ih]
theorem DIss.get {l l':List (List D)} (h:DIss l l'):∀j (h1:j<l.length) (h2:j<l'.length),DIs (l[j]'h1) (l'[j]'h2):=by
 induction h with
 |nil=>intro j h1;simp at h1
 |cons h0 _ ih=>
  intro j h1 h2;cases j with
  |zero=>exact h0
  |succ j=>exact ih j (by simpa using h1) (by simpa using h2)
theorem DIss.isl {k:Nat} {rows rows':List (List D)} (h:DIss rows rows'):(D.isl k rows).Is (.isl k rows'):=fun w I v hr=>by
 cases hr with
 |islNil=>cases h;exact .islNil k
 |islEmpty a=>cases h;exact .islEmpty a k
 |isl b o cap _ _ V h1 h2 h3 h4 h5=>
  have hl:=h.len;rw [hl];refine .isl b o cap k rows' V (by rw [<-hl];exact h1) h2 (fun i hi=>?_) (fun i j hi hj=>h4 i j (by rw [hl];exact hi) hj) (fun i j hi hj=>?_)
  ·rw [<-(h.get i (by rw [hl];exact hi) hi).len];exact h3 i (by rw [hl];exact hi)
  ·have hg:=h.get i (by rw [hl];exact hi) hi
   exact hg.get j (by rw [hg.len];exact hj) hj w I _ (h5 i j (by rw [hl];exact hi) (by rw [hg.len];exact hj))
theorem D.Is.imm {d d':D} (h:d.Is d'):(SV.imm d).Is (.imm d'):=fun w I β v hr=>by
 cases hr with|imm hr=>exact .imm (h w I v hr)
section
variable {P:Program} {w:World}
theorem znw:Sem.run P (Sem.program Sem.pure) w= .ok P w:=rfl
theorem zbo {d:Nat} {t:TypeId} {k k':IntKind} {a b:Int} (hu:P.underlying t=some (.int k)):(Op.equalIn (d+1) t (.int k' a) (.int k' b)).run P w= .ok (decide (a=b)) w:=by
 simp only [Op.equalIn,Sem.run_bind,run_underlying hu,Result.andThen_ok,if_true,Sem.run_pure]
 congr 1
theorem jk {t:TypeId} {k:IntKind} {cs:Array Value} {off:Nat} {v:Value} (hu:P.underlying t=some (.int k)) (hv:cs[off]?=some v):(part t cs off).run P w= .ok v w:=by
 simp only [part,isAgg,Sem.run_bind,run_underlying hu,Result.andThen_ok,Sem.run_pure,hv];rfl
end
section
variable {P:Program} {G:List (Nat × D)} {fn:Func} {rd:Bool} {E:En P G fn rd} {t:List (Nat × SV)} {H:List SObj} {k:List Item}
variable {all:Array Oper} {o:Oper} {rest:List Oper}
end
open Go.ChangeShapes
def ybn (w:World):Imm:=fun c _=>c<w.heap.size
inductive Cs (w:World):List Value->List D->Prop
 |nil:Cs w [] []
 |cons {v:Value} {d:D} {vs:List Value} {ds:List D}:DRep w (ybn w) v d->v.oneCell'=true->Cs w vs ds->Cs w (v::vs) (d::ds)
section
variable {H:Type} {enc:TypeId × Value->H} {P:Program} {w:World} {fuel:Nat} {t:TypeId} {cs:List Value} {x:DataW H × List MemPlace}
theorem Cs.len {vs:List Value} {ds:List D} (h:Cs w vs ds):vs.length=ds.length:=by
 induction h with
 |nil=>rfl
 |cons _ _ _ ih=>simp [ih]
theorem Cs.append {vs vs':List Value} {ds ds':List D} (h:Cs w vs ds) (h':Cs w vs' ds'):Cs w (vs++vs') (ds++ds'):=by
 induction h with
 |nil=>exact h'
 |cons h1 h2 _ ih=>exact .cons h1 h2 ih
theorem Cs.get {vs:List Value} {ds:List D} (h:Cs w vs ds):∀j (h1:j<vs.length) (h2:j<ds.length),DRep w (ybn w) (vs[j]'h1) (ds[j]'h2)/\(vs[j]'h1).oneCell'=true:=by
 induction h with
 |nil=>intro j h1;simp at h1
 |cons h0 h0' _ ih=>
  intro j h1 h2;cases j with
  |zero=>exact ⟨h0,h0'⟩
  |succ j=>exact ih j (by simpa using h1) (by simpa using h2)
theorem yui (ht:P.underlying t=some .bool) (h:DataW.trod enc P w 0 (fun _=>true) true fuel t cs=some x):∃b,Cs w cs [.val (.bool b)]:=by
 obtain ⟨b,rfl,_⟩:=DataW.trod_bool ht h;exact ⟨b,.cons (.val _) rfl .nil⟩
theorem zkj (ht:P.underlying t=some (.int .i64)) (h:DataW.trod enc P w 0 (fun _=>true) true fuel t cs=some x):∃n:Int,Cs w cs [.val (.int .i64 n)]/\ -9223372036854775808<=n/\n<=9223372036854775807:=by
 obtain ⟨n,rfl,_,hw⟩:=DataW.trod_int ht h;simp only [Lit.wf,Bool.and_eq_true,decide_eq_true_eq] at hw;have e1:IntKind.i64.min= -9223372036854775808:=by decide
 have e2:IntKind.i64.max=9223372036854775807:=by decide
 exact ⟨n,.cons (.val _) rfl .nil,by omega,by omega⟩
theorem zsy {a:Addr} {n:Nat} (h:w.cells? 0 a n=some cs):cs.length=n/\∀j,j<n->w.cell? (a.add j)=cs[j]?:=by
 unfold World.cells? at h;rw [if_pos (Nat.zero_le _)] at h;have hl:=mapM_some_length h;simp at hl;exact ⟨hl,fun j hj=>mapM_some_get h j j (by simp [hj])⟩
theorem zpg {a:Addr} {v:Value} (h:w.cell? a=some v):a.spot=none/\a.block<w.heap.size:=by
 unfold World.cell? at h;split at h
 ·rename_i c T fr hb
  split at h
  ·cases h
  ·rename_i hs
   exact ⟨by simpa using hs,xw hb⟩
 ·cases h
theorem ylh {v:Value} {ds:List D} {vs:Array Value} (hv:v= .agg vs) (h:Cs w vs.toList ds):Rep w (ybn w) [] v (.agg (ds.map .imm)):=by
 subst hv;have hl:=h.len;simp at hl;refine .agg vs _ (by simp [hl]) (fun j h1 h2=>?_);simp only [List.getElem_map];exact .imm (h.get j (by simpa using h2) (by simpa using h1)).1
theorem znx {v:Value} {d:D} (hv:v.cells=#[v]) (h:Cs w v.cells.toList [d]):Rep w (ybn w) [] v (.imm d):=by
 rw [hv] at h;cases h with|cons h _ _=>exact .imm h
structure Old (W W':World):Prop where
 env:zeh W W'
 size:W.heap.size<=W'.heap.size
 old:∀c,c<W.heap.size->W'.heap[c]?=W.heap[c]?
theorem calls_of {G:List (Nat × D)} {f:FuncId} {ss:List SV} {b:Bool} {args:Array Value} (hS:zq P G f ss (.imm (.val (.bool b)))) (hargs:Reps w (ybn w) [] args.toList ss)
  (hG:∀g d,(g,d)∈G->DRep w (ybn w) (.pointer (some ⟨g,0,none⟩)) d):Calls P f args w fun e w'=>e= .returned (.bool b)/\Old w w':=by
 refine (hS [] w (ybn w) [] args ⟨rfl,fun b o x h=>by simp at h,fun b b' c h=>absurd h (zcn b c),fun c o h=>h,hG⟩ hargs).mono ?_;rintro e w' ⟨v,r,I',β',H',rfl,⟨rfl,rfl⟩,h1,h2,h3⟩;refine ⟨?_,h3.env,h3.size,fun c hc=>h3.old c hc (fun b=>zcn b c)⟩;cases h1 with|imm h1=>cases h1 with|val _=>rfl
theorem Old.same {W W':World} (h:Old W W') {p:MemPlace} (hp:p.block<W.heap.size):W.sameAt W' p:=by
 cases p with
 |cell b o=>exact ye (h.old b hp) o
 |map b=>exact h.old b hp
theorem Old.keptBut {W W':World} (h:Old W W') (may:MemPlace->Prop):W.keptBut W' may:=by
 refine ⟨h.env.1,h.env.2,fun i hi=>?_⟩;rw [h.old i hi];cases W.heap[i]? with
 |none=>rfl
 |some o=>
  cases o with
  |cells c T fr=>exact ⟨rfl,rfl,rfl,fun _ _=>rfl⟩
  |map es clock=>exact .inr ⟨rfl,rfl⟩
  |_=>rfl
theorem zph {W W':World} (h:Old W W') {sp:Nat->Bool}:∀{ts:List TypeId} {vs:List Value} {ds:List (DataW H)} {ps:List MemPlace},DataW.TrodAll enc P W 0 sp true ts vs ds ps->(∀p∈ps,p.block<W.heap.size)->DataW.TrodAll enc P W' 0 sp true ts vs ds ps
 |[],[],[],_,h1,_=>h1
 |_::_,_::_,_::_,_,⟨p,q,⟨n,h1⟩,h2,e⟩,hp=>
  ⟨p,q,⟨n,DataW.trod_carry n _ _ _ h1 (fun x hx=>h.same (hp x (by rw [e];exact List.mem_append_left _ hx)))⟩,zph h h2 (fun x hx=>hp x (by rw [e];exact List.mem_append_right _ hx)),e⟩
theorem post_of_old {f:Func} {s:ChangeSpec} {apart fresh handsOn again:Bool} {W W':World} {args:Array Value} {v:Value} {ds gs:List (DataW H)} {before:List MemPlace} {tb:TypeId} {b:Bool}
  (hW:DataW.Whole enc P f.params.toList s.vars apart W args.toList ds gs before) (hvars:s.vars=[]) (hs:(s.fn H (ds++gs)).results=[.lit (.bool b)]) (hs1:(s.fn H (ds++gs)).args=ds) (hs2:(s.fn H (ds++gs)).vars=[])
  (ho:Old W W') (hr:f.resultTypes=#[tb]) (htb:P.underlying tb=some .bool) (hv:v= .bool b)
  (K:Kids P (· <P.types.size)) (full:∀t e,t<P.types.size->P.underlying t=some (.slice e)->0<P.cellsOf e) (hts:∀t∈f.params.toList,t<P.types.size):
  s.post enc P f apart fresh handsOn again W args v W':=by
 subst hv;have hlt:∀p∈before,p.block<W.heap.size:=fun p hp=>hW.lt p hp
 have hold:∀p∈before,(fun b=>decide (b<W.heap.size)) p.block=true:=fun p hp=>by simpa using hlt p hp
 have hW0:=hW;obtain ⟨p,q,hA,hV,hpq,hz,hn⟩:=hW;rw [hvars] at hV;obtain ⟨rfl,rfl⟩:gs=[]/\q=[]:=by
  cases gs with
  |nil=>exact ⟨rfl,hV⟩
  |cons=>exact hV.elim
 have hbp:before=p:=by simpa using hpq
 subst hbp;have hA':=zph ho hA hlt;have hargs:∀sp:Nat->Bool,(∀x∈before,sp x.block=true)->DataW.TrodAll enc P W' 0 sp true f.params.toList args.toList (s.fn H (ds++[])).args before:=fun sp hsp=>by
  rw [hs1];exact DataW.TrodAll.respare K full hts hA' hsp
 have hres:∀(bb:Nat) (sp:Nat->Bool) (hd:Bool),DataW.TrodAll enc P W' bb sp hd f.resultTypes.toList ((Value.bool b).resultList f.resultTypes.size) (s.fn H (ds++[])).results []:=fun bb sp hd=>by
  rw [hs,hr];exact ⟨[],[],⟨1,by simp [DataW.trod,Value.cells,htb]⟩,rfl,rfl⟩
 have hvs:∀sp:Nat->Bool,DataW.TrodVars enc P W' sp s.vars (s.fn H (ds++[])).vars []:=fun sp=>by rw [hs2,hvars];rfl
 refine ⟨ds,[],before,[],before,[],hW0,hres _ _ _,hargs _ hold,hvs _,ho.keptBut _,fun _=>?_⟩;refine ⟨?_,_,_,([]++before)++[],⟨[]++before,[],trodAll_append (hargs _ (fun _ _=>rfl)) (hres _ _ _),hvs _,rfl,?_,?_⟩,?_⟩
 ·exact Go.RowKit.ok_one hr rfl (Go.RowKit.okWide_bool_mk htb b)
 ·intro bl off hp
  have hp':MemPlace.cell bl off∈before:=by simpa using hp
  have:=hz bl off (by simpa using hp');rw [<-this];have hb:=ho.old bl (hlt _ hp');simp [World.frozen?,hb]
 ·intro ha
  simpa using hn ha
 ·intro x hx _
  simpa using hx
end
def zkk {H:Type} (P:Program) (t:TypeId) (d:DataW H):Prop:=∀n∈d.weights P t,n<=reachBytes
theorem zio {H:Type} {P:Program} {e:TypeId}:∀{l:List (DataW H)} {d:DataW H},d∈l->∀n∈d.weights P e,n∈DataW.weightsAll P e l
 |x::l,d,hd,n,hn=>by
  rw [DataW.weightsAll,List.mem_append];rcases List.mem_cons.1 hd with rfl|hd
  ·exact .inl hn
  ·exact .inr (zio hd n hn)
theorem sized_of {H:Type} {P:Program} {ts:List TypeId} {ds:List (DataW H)} (h:(DataW.weightsEach P ts ds).all (· <=reachBytes)=true) {j:Nat} {t:TypeId} {d:DataW H} (ht:ts[j]?=some t) (hd:ds[j]?=some d):zkk P t d:=fun n hn=>by
 have:=List.all_eq_true.1 h _ (DataW.weights_mem_each ht hd n hn);simpa using this
section
variable {H:Type} {enc:TypeId × Value->H} {P:Program} {w:World} {fuel:Nat} {t:TypeId} {cs:List Value} {x:DataW H × List MemPlace}
theorem yez (ht:P.underlying t=some (.int .u64)) (h:DataW.trod enc P w 0 (fun _=>true) true fuel t cs=some x):∃n:Nat,Cs w cs [.val (.int .u64 n)]/\n<18446744073709551616:=by
 obtain ⟨n,rfl,_,hw⟩:=DataW.trod_int ht h;simp only [Lit.wf,Bool.and_eq_true,decide_eq_true_eq] at hw;have e1:IntKind.u64.min=0:=by decide
 have e2:IntKind.u64.max=18446744073709551615:=by decide
 obtain ⟨m,rfl⟩:∃m:Nat,n=m:=⟨n.toNat,by omega⟩;exact ⟨m,.cons (.val _) rfl .nil,by omega⟩
theorem yyq (ht:P.underlying t=some (.int .u8)) (h:DataW.trod enc P w 0 (fun _=>true) true fuel t cs=some x):∃n:Int,Cs w cs [.val (.int .u8 n)]/\0<=n/\n<=255:=by
 obtain ⟨n,rfl,_,hw⟩:=DataW.trod_int ht h;simp only [Lit.wf,Bool.and_eq_true,decide_eq_true_eq] at hw;have e1:IntKind.u8.min=0:=by decide
 have e2:IntKind.u8.max=255:=by decide
 exact ⟨n,.cons (.val _) rfl .nil,by omega,by omega⟩
theorem zhw (ht:P.underlying t=some .string) (h:DataW.trod enc P w 0 (fun _=>true) true fuel t cs=some x) (hz:zkk P t x.1):∃s:ByteArray,Cs w cs [.val (.string s)]/\s.size<=140737488351232:=by
 obtain ⟨s,rfl,rfl,_⟩:=DataW.trod_string ht h;refine ⟨s,.cons (.val _) rfl .nil,?_⟩;have h1:=hz s.data.toList.length (by simp [DataW.weights]);have h2:reachBytes=140737488351232:=rfl;simp at h1;omega
theorem zgt {fs:Array Field} {c:List Value} (ht:P.underlying t=some (.struct fs)) (h:DataW.trod enc P w 0 (fun _=>true) true fuel t c=some x) (hz:zkk P t x.1):
  c.length=P.cellsOf t/\∃n,n<fuel/\∀(i:Nat) (u off k:Nat),(fs[i]?).map (fun f=>(f.type,f.offset))=some (u,off)->P.cellsOf u=k->∃y,DataW.trod enc P w 0 (fun _=>true) true n u ((c.drop off).take k)=some y/\zkk P u y.1:=by
 obtain ⟨xs,n,rfl,rfl,hl,hlen,hf⟩:=DataW.trod_struct ht h;refine ⟨hl,n,by omega,fun i u off k hi hk=>?_⟩;obtain ⟨f,hf1,hf2⟩:=Option.map_eq_some_iff.1 hi;cases hf2;subst hk;have h1:=hf i f hf1;have hlt:i<fs.size:=by
  rcases Nat.lt_or_ge i fs.size with h|h
  ·exact h
  ·simp [Array.getElem?_eq_none h] at hf1
 rw [List.getElem?_eq_getElem (by omega)] at h1;refine ⟨_,h1,fun m hm=>hz m ?_⟩;simp only [DataW.weights,ht];exact DataW.weights_mem_each (j:=i) (t:=f.type) (d:=(xs[i]'(by omega)).1) (by simp [hf1]) (by simp [List.getElem?_eq_getElem (show i<xs.length by omega)]) m hm
theorem zgu {e:TypeId} {k:Nat} {α:Type} (f:α->List D) (Q:α->Prop) (ht:P.underlying t=some (.slice e)) (hk:P.cellsOf e=k) (hk1:1<=k) (hby:1<=P.bytesOf e) (h:DataW.trod enc P w 0 (fun _=>true) true fuel t cs=some x) (hz:zkk P t x.1)
  (hE:∀n cs x,n<fuel->DataW.trod enc P w 0 (fun _=>true) true n e cs=some x->zkk P e x.1->∃a,Cs w cs (f a)/\Q a):
  ∃l:List α,Cs w cs [.isl k (l.map f)]/\l.length<=140737488351232/\∀a∈l,Q a:=by
 rcases DataW.trod_slice ht h with ⟨rfl,_⟩|⟨a,len,cap,elems,rest,n,rfl,rfl,hxe,_,hlc,hcap,hel,he,hr,_⟩
 ·exact ⟨[],.cons (.islNil k) rfl .nil,by simp,by simp⟩
 ·subst hk
  rw [hxe] at hz;have hz0:(elems.length+rest.length)*P.bytesOf e<=reachBytes:=hz _ (by simp [DataW.weights,ht])
  have hz1:∀i (hi:i<elems.length),zkk P e (elems[i]'hi).1:=fun i hi m hm=>hz m (by
   simp only [DataW.weights,ht,List.mem_cons,List.mem_append]
   exact .inr (.inl (zio (List.mem_map.2 ⟨_,List.getElem_mem hi,rfl⟩) m hm)))
  have hz2:len<=140737488351232:=by
   have h1:=Nat.le_mul_of_pos_right (elems.length+rest.length) hby;have h2:reachBytes=140737488351232:=rfl;omega
  clear hz;have hcap':cap<=9223372036854775807:=by simpa [maxLen] using hcap
  rcases Nat.eq_zero_or_pos cap with h0|h0
  ·subst h0
   have:len=0:=by omega
   subst this;exact ⟨[],.cons (.islEmpty a _) rfl .nil,by simp,by simp⟩
  ·obtain ⟨hr1,hr2⟩:=hr rfl
   have hsp:a.spot=none/\a.block<w.heap.size:=by
    have hz:∃y,(w.cells? 0 (a.add 0) (P.cellsOf e)).bind (DataW.trod enc P w 0 (fun _=>true) true n e)=some y:=by
     rcases Nat.eq_zero_or_pos len with hl|hl
     ·have:=hr2 0 (by omega)
      rw [hl,Nat.zero_add,Nat.zero_mul,List.getElem?_eq_getElem (by omega)] at this;exact ⟨_,this⟩
     ·have:=he 0 hl
      rw [Nat.zero_mul,List.getElem?_eq_getElem (by omega)] at this;exact ⟨_,this⟩
    obtain ⟨y,hy⟩:=hz;obtain ⟨c,hc,_⟩:=Option.bind_eq_some_iff.1 hy;obtain ⟨h1,h2⟩:=zsy hc;have h3:=h2 0 (by omega);rw [List.getElem?_eq_getElem (by omega)] at h3;have:=zpg h3;simpa [Addr.add] using this
   obtain ⟨b,o,sp⟩:=a;obtain ⟨rfl,hblk⟩:=hsp;simp only at hblk;have hrow:∀i,i<len->∃(y:α) (c:List Value),c.length=P.cellsOf e/\(∀j,j<P.cellsOf e->w.cell? ⟨b,o+i*P.cellsOf e+j,none⟩=c[j]?)/\Cs w c (f y)/\Q y:=by
    intro i hi;have h1:=he i hi;rw [List.getElem?_eq_getElem (by omega)] at h1;obtain ⟨c,hc,hy⟩:=Option.bind_eq_some_iff.1 h1;obtain ⟨h2,h3⟩:=zsy hc;obtain ⟨y,hy1,hy2⟩:=hE n c _ (by omega) hy (hz1 i (by omega));refine ⟨y,c,h2,fun j hj=>?_,hy1,hy2⟩;have:=h3 j hj
    rwa [qe,qe] at this
   obtain ⟨g,hg⟩:∃g:(i:Nat)->i<len->α,∀i hi,∃c:List Value,c.length=P.cellsOf e/\(∀j,j<P.cellsOf e->w.cell? ⟨b,o+i*P.cellsOf e+j,none⟩=c[j]?)/\Cs w c (f (g i hi))/\Q (g i hi):=
    ⟨fun i hi=>Classical.choose (hrow i hi),fun i hi=>Classical.choose_spec (hrow i hi)⟩
   obtain ⟨c,hc⟩:∃c:(i:Nat)->i<len->List Value,∀i hi,(c i hi).length=P.cellsOf e/\(∀j,j<P.cellsOf e->w.cell? ⟨b,o+i*P.cellsOf e+j,none⟩=(c i hi)[j]?)/\Cs w (c i hi) (f (g i hi))/\Q (g i hi):=
    ⟨fun i hi=>Classical.choose (hg i hi),fun i hi=>Classical.choose_spec (hg i hi)⟩
   have hc1:=fun i hi=>(hc i hi).1
   have hc2:=fun i hi=>(hc i hi).2.1
   have hc3:=fun i hi=>(hc i hi).2.2.1
   have hc4:=fun i hi=>(hc i hi).2.2.2
   refine ⟨List.ofFn fun i:Fin len=>g i.1 i.2,.cons ?_ rfl .nil,by simp;omega,?_⟩
   ·have hlen:((List.ofFn fun i:Fin len=>g i.1 i.2).map f).length=len:=by simp
    have:=DRep.isl (w:=w) (I:=ybn w) b o cap (P.cellsOf e) ((List.ofFn fun i:Fin len=>g i.1 i.2).map f) (fun i j=>if h:i<len then ((c i h)[j]?).getD undef else undef) (by omega) hcap
     (fun i hi=>by
      have hi':i<len:=by omega
      simp only [List.getElem_map,List.getElem_ofFn]
      rw [<-(hc3 i hi').len,hc1])
     (fun i j hi hj=>by
      have hi':i<len:=by omega
      have hj':j<(c i hi').length:=by rw [hc1];exact hj
      have hg:=(hc3 i hi').get j hj' (by rw [<-(hc3 i hi').len];exact hj');rw [dif_pos hi',List.getElem?_eq_getElem hj']
      exact ⟨hblk,by rw [hc2 i hi' j hj,List.getElem?_eq_getElem hj'];rfl,hg.2⟩)
     (fun i j hi hj=>by
      have hi':i<len:=by omega
      simp only [List.getElem_map,List.getElem_ofFn] at hj ⊢;have hj':j<(c i hi').length:=by rw [(hc3 i hi').len];exact hj
      rw [dif_pos hi',List.getElem?_eq_getElem hj']
      exact ((hc3 i hi').get j hj' hj).1)
    rw [hlen] at this;exact this
   ·intro y hy
    obtain ⟨i,rfl⟩:=List.mem_ofFn.1 hy;exact hc4 _ _
end
abbrev dI (n:Int):D:=.val (.int .i64 n)
abbrev dB (b:Bool):D:=.val (.bool b)
abbrev dS (s:ByteArray):D:=.val (.string s)
abbrev sI (n:Int):SV:=.imm (.val (.int .i64 n))
abbrev sB (b:Bool):SV:=.imm (.val (.bool b))
abbrev sS (s:ByteArray):SV:=.imm (.val (.string s))
structure Piece where
 lo:Int
 at_:Int
 slope:Int
structure Decl where
 name:ByteArray
 unit:ByteArray
 role:Int
inductive Ex where
 |mk (op n:Int) (unit:ByteArray) (den:Int) (pieces:List Piece) (kids:List Ex)
structure Article where
 number:Int
 line:Int
 rank:Int
 lo:Int
 hi:Int
 known:Int
 when_:List Ex
 unless_:List Int
 amount:Ex
structure Codex where
 facts:List Decl
 lines:List Decl
 arts:List Article
structure Fact where
 person:ByteArray
 name:ByteArray
 lo:Int
 hi:Int
 known:Int
 value:Int
 gone:Bool
structure View where
 day:Int
 has:List Bool
 value:List Int
 arts:List Int
def Piece.cells (p:Piece):List D:=[dI p.lo,dI p.at_,dI p.slope]
def Decl.cells (d:Decl):List D:=[dS d.name,dS d.unit,dI d.role]
mutual
def Ex.cells:Ex->List D
 | .mk op n unit den ps ks=>[dI op,dI n,dS unit,dI den,.isl 3 (ps.map Piece.cells),.isl 6 (zo ks)]
def zo:List Ex->List (List D)
 |[]=>[]
 |e::r=>Ex.cells e::zo r
end
theorem wg (l:List Ex):zo l=l.map Ex.cells:=by
 induction l with
 |nil=>rfl
 |cons e r ih=>simp [zo,ih]
def Ex.op:Ex->Int| .mk op _ _ _ _ _=>op
def Ex.n:Ex->Int| .mk _ n _ _ _ _=>n
def Ex.unit:Ex->ByteArray| .mk _ _ u _ _ _=>u
def Ex.den:Ex->Int| .mk _ _ _ d _ _=>d
def Ex.pieces:Ex->List Piece| .mk _ _ _ _ p _=>p
def Ex.kids:Ex->List Ex| .mk _ _ _ _ _ k=>k
theorem Ex.cells_eq (e:Ex):e.cells=[dI e.op,dI e.n,dS e.unit,dI e.den,.isl 3 (e.pieces.map Piece.cells),.isl 6 (e.kids.map Ex.cells)]:=by
 cases e;simp [Ex.cells,wg,Ex.op,Ex.n,Ex.unit,Ex.den,Ex.pieces,Ex.kids]
def yh (l:List Int):D:=.isl 1 (l.map fun n=>[dI n])
def zag (l:List Bool):D:=.isl 1 (l.map fun b=>[dB b])
def zx (l:List Decl):D:=.isl 3 (l.map Decl.cells)
def jc (l:List Ex):D:=.isl 6 (l.map Ex.cells)
def Article.cells (a:Article):List D:=[dI a.number,dI a.line,dI a.rank,dI a.lo,dI a.hi,dI a.known,jc a.when_,yh a.unless_,
 dI a.amount.op,dI a.amount.n,dS a.amount.unit,dI a.amount.den,.isl 3 (a.amount.pieces.map Piece.cells),.isl 6 (a.amount.kids.map Ex.cells)]
def wm (l:List Article):D:=.isl 14 (l.map Article.cells)
def Codex.sv (c:Codex):SV:=.agg [.imm (zx c.facts),.imm (zx c.lines),.imm (wm c.arts)]
def Fact.cells (f:Fact):List D:=[dS f.person,dS f.name,dI f.lo,dI f.hi,dI f.known,dI f.value,dB f.gone]
def jd (l:List Fact):D:=.isl 7 (l.map Fact.cells)
def View.sv (v:View):SV:=.agg [sI v.day,.imm (zag v.has),.imm (yh v.value),.imm (yh v.arts)]
theorem get_mid {α:Type} (l r:List α) (a:α):(l++a::r)[l.length]?=some a:=by simp
def Fact.fit (f:Fact):Prop:=f.person.size<=9223372036854775807/\f.name.size<=9223372036854775807
def View.same (v w:View):Bool:=decide (v.has=w.has/\v.value=w.value/\v.arts=w.arts)
def View.fit (v:View):Prop:=v.has.length<=9223372036854775807/\v.value.length<=9223372036854775807/\v.arts.length<=9223372036854775807
def Ex.sv (e:Ex):SV:=.agg (e.cells.map .imm)
end Go.Sh
namespace Go.Proofs.YtjnddlifnkgncaaGreatDoor
open Go Go.Sh
theorem mixed:Tryz.prog.follows .mixedOrders=true:=by kernel_rfl
variable (G:List (Nat × D))
def zkl (n:Int):Bool:=decide (0<=n/\n<=36524)
def yhs (b:UInt8):Bool:=decide (65<=b.toNat)&&decide (b.toNat<=90)
def zpi (s:ByteArray):Bool:=decide (s.size=3)&&s.data.toList.all yhs
def zmq (s:ByteArray):Bool:=decide (s=⟨#[116,114,117,116,104]⟩)||decide (s=⟨#[110,117,109,98,101,114]⟩)||decide (s=⟨#[109,105,110,117,116,101,115]⟩)||zpi s
theorem zjh (s:ByteArray):zq Tryz.prog G 138 [sS s] (sB (zpi s)):=by
 refine zh Tryz.func138 rfl (by rw [Tryz.ntmps138];simp) rfl rfl ?_;intro E hH hK;(refine xg ?_;conv=>whnf)
 repeat' ((with_reducible refine way ?_ ?_)<;>(intro h;conv=>whnf))
 ·exact kB hK (by simp [zpi];omega)
 ·have hs:s.size=3:=by omega
  have hl:s.data.toList.length=3:=by simpa using hs
  refine zg [0,8,9] ?_;refine yy (σ:=List UInt8 × List UInt8) (fun x=>[(0,sS s),(8,sI s.size),(9,sI x.1.length)]) (fun _=>[])
   (fun x=>s.data.toList=x.1++x.2/\x.1.all yhs=true) (fun x=>x.2.length) ?_ ([],s.data.toList) ⟨rfl,rfl⟩
  rintro ⟨done,rest⟩ ⟨ha,hv⟩ ih
  dsimp only at ha hv ih ⊢
  have hlen:done.length+rest.length=3:=by rw [ha] at hl;simpa using hl
  (refine xg ?_;conv=>whnf)
  repeat' ((with_reducible refine way ?_ ?_)<;>(intro h;conv=>whnf))
  ·cases rest with
   |nil=>simp at hlen;omega
   |cons b rest=>
    have hget:s.data.toList[done.length]?=some b:=by rw [ha];simp
    have hw:IntKind.i64.wrap ((done.length:Int)+1)=(((done++[b]).length:Nat):Int):=by rw [zk (by omega)];simp
    have bad:yhs b=false->zpi s=false:=fun h=>by simp [zpi,ha,h]
    refine zbm rfl rfl rfl rfl rfl rfl  hget ?_;(refine wa ?_;conv=>whnf)
    repeat' ((with_reducible refine way ?_ ?_)<;>(intro h;conv=>whnf))
    ·refine zbm rfl rfl rfl rfl rfl rfl  hget ?_
     (refine wa ?_;conv=>whnf)
     repeat' ((with_reducible refine way ?_ ?_)<;>(intro h;conv=>whnf))
     ·exact kB hK (bad (by simp [yhs];omega))
     ·rw [hw]
      refine zg [0,8,9] (ih (done++[b],rest) ⟨by simp [ha],?_⟩ (by simp));simp [hv,yhs];omega
    ·exact kB hK (bad (by simp [yhs];omega))
  ·cases rest with
   |nil=>exact kB hK (by simp [zpi,hs,ha];simpa using hv)
   |cons b rest=>simp at hlen;omega
theorem zfo (n:Int):zq Tryz.prog G 65 [sI n] (sB (zkl n)):=by
 refine zh Tryz.func65 rfl (by rw [Tryz.ntmps65];simp) rfl rfl ?_;intro E hH hK;(refine xg ?_;conv=>whnf)
 repeat' ((with_reducible refine way ?_ ?_)<;>(intro h;conv=>whnf))
 all_goals exact kB hK (by simp [zkl];try omega)
def zeb (b:UInt8):Bool:=decide (97<=b.toNat)&&decide (b.toNat<=122)
def zxr (b:UInt8):Bool:=decide (48<=b.toNat)&&decide (b.toNat<=57)
def zvl (b:UInt8):Bool:=zeb b||zxr b||decide (b.toNat=95)
def zdk:List UInt8->Bool
 |[]=>false
 |b::_=>zeb b
def qj (s:ByteArray):Bool:=decide (s.size<=16)&&zdk s.data.toList&&s.data.toList.all zvl
theorem zkm (s:ByteArray):s.data.toList.length=s.size:=by simp
theorem zpj {s:ByteArray} (h:s.data.toList=[]):s=⟨#[]⟩:=ByteArray.ext (Array.ext' h)
def keys:List ByteArray:=[⟨#[102,97,99,116]⟩,⟨#[108,105,110,101]⟩,⟨#[97,114,116,105,99,108,101]⟩,⟨#[102,111,114]⟩,⟨#[114,97,110,107]⟩,⟨#[102,114,111,109]⟩,⟨#[116,111]⟩,⟨#[107,110,111,119,110]⟩,⟨#[119,104,101,110]⟩,⟨#[117,110,108,101,115,115]⟩,⟨#[97,109,111,117,110,116]⟩,⟨#[116,114,117,116,104]⟩,⟨#[110,117,109,98,101,114]⟩,⟨#[109,105,110,117,116,101,115]⟩,⟨#[109,105,110]⟩,⟨#[101,97,114,110]⟩,⟨#[100,101,100,117,99,116]⟩,⟨#[102,108,111,111,114]⟩,⟨#[105,110,102,111]⟩,⟨#[111,114]⟩,⟨#[97,110,100]⟩,⟨#[110,111,116]⟩,⟨#[97,116]⟩,⟨#[116,114,117,101]⟩,⟨#[102,97,108,115,101]⟩,⟨#[97,114,116]⟩,⟨#[119,101,101,107,100,97,121]⟩,⟨#[100,97,121]⟩,⟨#[109,111,110,116,104]⟩,⟨#[121,101,97,114]⟩,⟨#[108,101,97,115,116]⟩,⟨#[103,114,101,97,116,101,115,116]⟩,⟨#[116,97,98,108,101]⟩]
def yli (s:ByteArray):Bool:=keys.any fun k=>decide (s=k)
def yht (s:ByteArray):Bool:=qj s&& !yli s
theorem zmr (s:ByteArray):zq Tryz.prog G 137 [sS s] (sB (zmq s)):=by
 refine zh Tryz.func137 rfl (by rw [Tryz.ntmps137];simp) rfl rfl ?_;intro E hH hK;(refine xg ?_;conv=>whnf)
 repeat' ((with_reducible refine way ?_ ?_)<;>(intro h;conv=>whnf))
 ·refine zd rfl  (zjh G s) ?_
  (refine wa ?_;conv=>whnf);exact kB hK (by simp [zmq, *])
 all_goals exact kB hK (by simp [zmq, *])
theorem ybo (s:ByteArray):zq Tryz.prog G 136 [sS s] (sB (yli s)):=by
 refine zh Tryz.func136 rfl (by rw [Tryz.ntmps136];simp) rfl rfl ?_;intro E hH hK;(refine xg ?_;conv=>whnf)
 repeat' ((with_reducible refine way ?_ ?_)<;>(intro h;conv=>whnf))
 all_goals exact kB hK (by simp [yli,keys, *])
theorem yhu {n:Nat} (h:n<18446744073709551616):IntKind.u64.wrap (n:Int)=(n:Int):=by
 have hb:IntKind.u64.bits=64:=rfl;have hs:IntKind.u64.signed=false:=rfl;unfold IntKind.wrap;simp only [hb,hs,Bool.false_and,Bool.false_eq_true,if_false];omega
theorem ylj (n:Nat):IntKind.u64.wrap (n:Int)=((n % 18446744073709551616:Nat):Int):=by
 have hb:IntKind.u64.bits=64:=rfl;have hs:IntKind.u64.signed=false:=rfl;unfold IntKind.wrap;simp only [hb,hs,Bool.false_and,Bool.false_eq_true,if_false];omega
theorem zfp (w n:Nat):BitVec.ofInt w (n:Int)=BitVec.ofNat w n:=by
 apply BitVec.eq_of_toNat_eq
 simp
theorem ypi {a b:Nat} (ha:a<18446744073709551616) (hb:b<18446744073709551616):IntKind.u64.wrap ((BitVec.ofInt IntKind.u64.bits (a:Int) ^^^ BitVec.ofInt IntKind.u64.bits (b:Int)).toNat:Int)=((a ^^^ b:Nat):Int):=by
 have h:(BitVec.ofInt IntKind.u64.bits (a:Int) ^^^ BitVec.ofInt IntKind.u64.bits (b:Int)).toNat=a ^^^ b:=by
  show (BitVec.ofInt 64 (a:Int) ^^^ BitVec.ofInt 64 (b:Int)).toNat=a ^^^ b;rw [zfp,zfp,BitVec.toNat_xor,BitVec.toNat_ofNat,BitVec.toNat_ofNat,Nat.mod_eq_of_lt ha,Nat.mod_eq_of_lt hb]
 rw [h,yhu];exact Nat.xor_lt_two_pow (n:=64) ha hb
theorem yzv {a b:Nat} (ha:a<18446744073709551616) (hb:b<18446744073709551616):IntKind.u64.wrap ((BitVec.ofInt IntKind.u64.bits (a:Int)&&&BitVec.ofInt IntKind.u64.bits (b:Int)).toNat:Int)=((a&&&b:Nat):Int):=by
 have h:(BitVec.ofInt IntKind.u64.bits (a:Int)&&&BitVec.ofInt IntKind.u64.bits (b:Int)).toNat=a&&&b:=by
  show (BitVec.ofInt 64 (a:Int)&&&BitVec.ofInt 64 (b:Int)).toNat=a&&&b;rw [zfp,zfp,BitVec.toNat_and,BitVec.toNat_ofNat,BitVec.toNat_ofNat,Nat.mod_eq_of_lt ha,Nat.mod_eq_of_lt hb]
 rw [h,yhu];exact Nat.lt_of_le_of_lt Nat.and_le_left ha
theorem yyr {a:Nat} (ha:a<9223372036854775808):IntKind.i64.wrap ((BitVec.ofInt IntKind.i64.bits (a:Int)&&&BitVec.ofInt IntKind.i64.bits 1).toNat:Int)=((a % 2:Nat):Int):=by
 have h:(BitVec.ofInt IntKind.i64.bits (a:Int)&&&BitVec.ofInt IntKind.i64.bits 1).toNat=a % 2:=by
  show (BitVec.ofInt 64 (a:Int)&&&BitVec.ofInt 64 ((1:Nat):Int)).toNat=a % 2;rw [zfp,zfp,BitVec.toNat_and,BitVec.toNat_ofNat,BitVec.toNat_ofNat,Nat.mod_eq_of_lt (show a<2 ^ 64 by omega),Nat.mod_eq_of_lt (by decide),Nat.and_one_is_mod]
 rw [h,zt (by omega) (by omega)]
theorem ybp (a k:Nat):(a:Int).fdiv (2 ^ k)=((a / 2 ^ k:Nat):Int):=by
 rw [Int.fdiv_eq_ediv_of_nonneg _ (Int.pow_nonneg (by decide))]
 norm_cast
def prm:Nat:=2147483579
def ord:Nat:=1073741789
def ysv:Nat->Nat->Nat->Nat->Nat
 |0,_,_,r=>r
 |f+1,b,e,r=>if e=0 then r else ysv f (b*b % prm) (e / 2) (if e % 2=1 then r*b % prm else r)
def zlm (b e:Nat):Nat:=ysv 64 b e 1
theorem ylk:∀(f b e r:Nat),e<2 ^ f->r<prm->ysv f b e r=r*b ^ e % prm
 |0,b,e,r,h,hr=>by
  have:e=0:=by omega
  subst this;simp [ysv,Nat.mod_eq_of_lt hr]
 |f+1,b,e,r,h,hr=>by
  rw [ysv];split
  ·rename_i h0
   subst h0;simp [Nat.mod_eq_of_lt hr]
  ·have hm:0<prm:=by decide
   have key:∀r',r'<prm->ysv f (b*b % prm) (e / 2) r'=r'*(b ^ 2) ^ (e / 2) % prm:=fun r' hr'=>by
    rw [ylk f _ _ _ (by omega) hr',Nat.mul_mod, <-Nat.pow_mod, <-Nat.mul_mod, <-Nat.pow_two]
   split
   ·rename_i h1
    rw [key _ (Nat.mod_lt _ hm),Nat.mod_mul_mod,Nat.mul_assoc, <-Nat.pow_mul, <-Nat.pow_succ',Nat.succ_eq_add_one,show 2*(e / 2)+1=e by omega]
   ·rw [key _ hr, <-Nat.pow_mul,show 2*(e / 2)=e by omega]
theorem zgv {b e:Nat} (he:e<18446744073709551616):zlm b e=b ^ e % prm:=by
 unfold zlm;rw [ylk 64 b e 1 (by simpa using he) (by decide),Nat.one_mul]
theorem yll:∀(f b e r:Nat),r<prm->ysv f b e r<prm
 |0,_,_,_,hr=>hr
 |f+1,b,e,r,hr=>by
  rw [ysv];split
  ·exact hr
  ·refine yll f _ _ _ ?_
   split
   ·exact Nat.mod_lt _ (by decide)
   ·exact hr
theorem zvm (b e:Nat):zlm b e<prm:=yll 64 b e 1 (by decide)
theorem zlw (b e:Nat) (hb:b<prm) (he:e<9223372036854775808):zq Tryz.prog G 95 [sI b,sI e] (sI (zlm b e)):=by
 unfold prm at hb;refine zh Tryz.func95 rfl (by rw [Tryz.ntmps95];simp) rfl rfl ?_;intro E hH hK;(refine ze ?_;conv=>whnf);refine zg [0,1,5] ?_;change SW E _ [(0,sI b),(1,sI e),(5,sI (1:Nat))] [];refine yy (σ:=Nat × Nat × Nat) (fun x=>[(0,sI x.1),(1,sI x.2.1),(5,sI x.2.2)]) (fun _=>[]) (fun x=>x.2.2*x.1 ^ x.2.1 % prm=zlm b e/\x.1<2147483579/\x.2.2<2147483579/\x.2.1<9223372036854775808) (fun x=>x.2.1) ?_ (b,e,1)
  ⟨by rw [zgv (by omega),Nat.one_mul],hb,show 1<2147483579 by decide,he⟩
 clear hb he;rintro ⟨b',e',r⟩ ⟨i1,i2,i3,i4⟩ ih;simp only at i1 i2 i3 i4;have hbb:b'*b'<9223372036854775808:=Nat.lt_of_le_of_lt (Nat.mul_le_mul (Nat.le_of_lt i2) (Nat.le_of_lt i2)) (by decide);have hrb:r*b'<9223372036854775808:=Nat.lt_of_le_of_lt (Nat.mul_le_mul (Nat.le_of_lt i3) (Nat.le_of_lt i2)) (by decide);have w1:(IntKind.i64.wrap ((b':Int)*(b':Int))).tmod 2147483579=((b'*b' % prm:Nat):Int):=by
  rw [zt (by rw [<-Int.natCast_mul];omega) (by rw [<-Int.natCast_mul];omega),Int.tmod_eq_emod_of_nonneg (by rw [<-Int.natCast_mul];omega)];rfl
 have w2:(IntKind.i64.wrap ((r:Int)*(b':Int))).tmod 2147483579=((r*b' % prm:Nat):Int):=by
  rw [zt (by rw [<-Int.natCast_mul];omega) (by rw [<-Int.natCast_mul];omega),Int.tmod_eq_emod_of_nonneg (by rw [<-Int.natCast_mul];omega)];rfl
 have w3:=yyr (a:=e') i4;change SW E _ [(0,sI b'),(1,sI e'),(5,sI r)] [];have hend:e'=0->r=zlm b e:=fun h=>by rw [<-i1,h,Nat.pow_zero,Nat.mul_one];exact (Nat.mod_eq_of_lt i3).symm
 have hnext:∀r',r'=(if e' % 2=1 then r*b' % prm else r)->¬e'=0->SW E _ [(0,sI (b'*b' % prm:Nat)),(1,sI (e' / 2:Nat)),(5,sI r')] []:=fun r' h h0=>by
  refine ih (b'*b' % prm,e' / 2,r') ⟨?_,Nat.mod_lt _ (by decide),?_,by simp only;omega⟩ (by simp only;omega)
  ·rw [<-i1,Nat.mul_mod, <-Nat.pow_mod, <-Nat.mul_mod, <-Nat.pow_two, <-Nat.pow_mul,h]
   split
   ·rw [Nat.mod_mul_mod,Nat.mul_assoc, <-Nat.pow_succ',Nat.succ_eq_add_one,show 2*(e' / 2)+1=e' by omega]
   ·rw [show 2*(e' / 2)=e' by omega]
  ·rw [h]
   split
   ·exact Nat.mod_lt _ (by decide)
   ·exact i3
 have w4:(e':Int).fdiv (2 ^ min (1:Int).toNat IntKind.i64.bits)=((e' / 2:Nat):Int):=ybp e' 1;(refine ze ?_;conv=>whnf)
 repeat' ((with_reducible refine way ?_ ?_)<;>(intro h;conv=>whnf))
 ·rw [w3] at h
  have hg:=hnext _ rfl (by omega);rw [if_pos (by omega)] at hg;rw [w1,w2,w4];exact zg [0,1,5] hg
 ·rw [w3] at h
  have hg:=hnext _ rfl (by omega);rw [if_neg (by omega)] at hg;rw [w1,w4];exact zg [0,1,5] hg
 ·rw [hend (by omega)]
  exact hK _
def zaq (x:Int):Bool:=decide (1<=x)&&decide (x<2147483579)&&decide (zlm x.toNat 1073741789=1)
theorem zxs (x:Int):zq Tryz.prog G 53 [sI x] (sB (zaq x)):=by
 have hp:=fun h=>zlw G x.toNat 1073741789 h (by decide)
 unfold zaq;generalize zlm x.toNat 1073741789=z at hp;refine zh Tryz.func53 rfl (by rw [Tryz.ntmps53];simp) rfl rfl ?_;intro E hH hK;(refine ze ?_;conv=>whnf)
 repeat' ((with_reducible refine way ?_ ?_)<;>(intro h;conv=>whnf))
 ·have hx:x=((x.toNat:Nat):Int):=by omega
  have hp:=hp (show x.toNat<2147483579 by omega);rw [<-hx] at hp;rw [decide_eq_true (show 1<=x by omega),decide_eq_true (show x<2147483579 by omega),Bool.true_and,Bool.true_and] at hK;refine zd rfl  hp ?_;(refine zc ?_;conv=>whnf);exact kB hK (decide_eq_decide.2 ⟨fun h=>by omega,fun h=>by omega⟩)
 ·exact kB hK (by rw [decide_eq_false (show ¬x<2147483579 by omega),Bool.and_false,Bool.false_and])
 ·exact kB hK (by rw [decide_eq_false (show ¬1<=x by omega),Bool.false_and,Bool.false_and])
def ziq (cents:Int):Nat:=((cents+1073741789) % 1073741789).toNat
def zkn (cents blind:Int):Nat:=zlm 4 (ziq cents)*zlm 9 blind.toNat % 2147483579
def zpk (cents blind:Int):Bool:=decide (-500000000<=cents)&&decide (cents<=500000000)&&decide (0<=blind)&&decide (blind<1073741789)
def xl (commit cents blind:Int):Bool:=zpk cents blind&&decide (commit=zkn cents blind)
theorem zbc {cents blind:Int}:zpk cents blind=true ↔ -500000000<=cents/\cents<=500000000/\0<=blind/\blind<1073741789:=by
 unfold zpk;simp only [Bool.and_eq_true,decide_eq_true_eq,and_assoc]
theorem zsz (commit cents blind:Int):zq Tryz.prog G 54 [sI commit,sI cents,sI blind] (sB (xl commit cents blind)):=by
 have bad:¬(-500000000<=cents/\cents<=500000000/\0<=blind/\blind<1073741789)->xl commit cents blind=false:=fun h=>by
  have:zpk cents blind=false:=by
   cases hb:zpk cents blind with
   |false=>rfl
   |true=>exact absurd (zbc.1 hb) h
  unfold xl;rw [this,Bool.false_and]
 have h1:=zlw G 4 (ziq cents) (by decide) (by unfold ziq;omega);have h2:=fun h=>zlw G 9 blind.toNat (by decide) h
 have l1:=zvm 4 (ziq cents);have l2:=zvm 9 blind.toNat;have good: -500000000<=cents/\cents<=500000000/\0<=blind/\blind<1073741789->xl commit cents blind=decide (commit=zkn cents blind):=fun h=>by
  unfold xl;rw [zbc.2 h,Bool.true_and]
 unfold zkn at good;unfold prm at l1 l2;generalize xl commit cents blind=ok at bad good;generalize zlm 4 (ziq cents)=y1 at h1 l1 good;generalize zlm 9 blind.toNat=y2 at h2 l2 good;refine zh Tryz.func54 rfl (by rw [Tryz.ntmps54];simp) rfl rfl ?_;intro E hH hK;(refine ze ?_;conv=>whnf)
 repeat' ((with_reducible refine way ?_ ?_)<;>(intro h;conv=>whnf))
 all_goals try exact kB hK (bad (by omega))
 rw [good (by omega)] at hK;have h2:=h2 (by omega);rw [Int.toNat_of_nonneg (by omega)] at h2;have e1:(IntKind.i64.wrap (cents+1073741789)).tmod 1073741789=((ziq cents:Nat):Int):=by
  rw [zt (by omega) (by omega),Int.tmod_eq_emod_of_nonneg (by omega)];unfold ziq;omega
 have hyy:y1*y2<9223372036854775808:=Nat.lt_of_le_of_lt (Nat.mul_le_mul (Nat.le_of_lt l1) (Nat.le_of_lt l2)) (by decide);have e2:(IntKind.i64.wrap ((y1:Int)*(y2:Int))).tmod 2147483579=((y1*y2 % 2147483579:Nat):Int):=by
  rw [zt (by rw [<-Int.natCast_mul];omega) (by rw [<-Int.natCast_mul];omega),Int.tmod_eq_emod_of_nonneg (by rw [<-Int.natCast_mul];omega)];rfl
 rw [e1];refine zd rfl  h1 ?_;(refine zc ?_;conv=>whnf);refine zd rfl  h2 ?_;(refine zc ?_;conv=>whnf);rw [e2];exact hK _
end Go.Proofs.YtjnddlifnkgncaaGreatDoor