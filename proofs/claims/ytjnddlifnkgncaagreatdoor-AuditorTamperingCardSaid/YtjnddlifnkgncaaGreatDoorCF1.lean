/- Contracts of functions of the program, joined from TSh1, TSh2, TSh3, TSh4, TSh5, TSh6, TSh7, TSh8, TSh9, TSh10, TSh11, TSh12, TSh13, TSh14, TSh15: no condition. -/
import Derived.Calls
import Derived.KernelRfl
import GoSem.ClaimData
import Derived.Laws.Sem
import Derived.Laws.Cells
import Derived.Laws.World
import Derived.Laws.CopyRow
import Derived.Laws.Entries
import Derived.ChangeKeysEq
import Derived.Lib.Strings
import Derived.Laws.BytesArg
import Derived.RangeFuncRecord
set_option linter.unusedSimpArgs false
set_option linter.unusedVariables false
namespace Go.Sh
inductive D where
 |val (v:Value)
 |row (cells:List D) (off:Nat)
 |isl (k:Nat) (rows:List (List D))
 |fn (f:Fn) (first captured:List D)
 |iface (t:TypeId) (d:D)
 |agg (cells:List D)
  |tab (vs:List Value)
inductive SV where
 |any
 |imm (d:D)
 |ptr (b off:Nat)
 |osl (b off len:Nat)
 |asl (b k:Nat) (rows:List (List D))
 |map (b:Nat)
 |yld (b:Nat)
 |vec (b n:Nat)
 |vptr (b n off:Nat)
 |fn (f:Fn) (first captured:List SV)
 |iface (t:TypeId) (v:SV)
 |agg (cs:List SV)
 |tup (vs:List SV)
inductive LS where
 |ready
 |busy
 |done (j:Code)
inductive SObj where
 |cells (cs:List SV)
 |tok (k n:Nat)
 |mapI (k:IntKind) (es:List (Int × SV))
 |mapS (es:List (ByteArray × SV))
 |loop (s:LS) (f:FuncId) (n:Nat) (t:List (Nat × SV)) (params:Array Tmp) (assign body:Code)
 |vec (k:Nat) (cs:List SV)
 |dead
 |free
 |pin (k:IntKind) (es:List (Nat × Int × SV)) (clock:Nat)
 |iter (m since:Nat) (seen:List Nat) (last:Nat)
  |bld (T:Nat)
  |btok (T n:Nat)
def qh:List (Nat × SV)->Nat->SV
 |[],_=>.any
 |(m,s)::r,n=>if m=n then s else qh r n
inductive Bnd where
 |blk (c:Nat)
 |tok (u:Value)
abbrev Imm:=Nat->Nat->Prop
inductive DRep (w:World) (I:Imm):Value->D->Prop
 |val (v:Value):DRep w I v (.val v)
 |row (b o:Nat) (cells:List D) (off:Nat) (V:Nat->Value):
   (∀j,j<cells.length->I b (o+j)/\w.cell? ⟨b,o+j,none⟩=some (V j)/\(V j).oneCell'=true)->
   (∀j (h:j<cells.length),DRep w I (V j) (cells[j]'h))->
   DRep w I (.pointer (some ⟨b,o+off,none⟩)) (.row cells off)
 |islNil (k:Nat):DRep w I (.slice none 0 0) (.isl k [])
 |islEmpty (a:Addr) (k:Nat):DRep w I (.slice (some a) 0 0) (.isl k [])
 |isl (b o cap k:Nat) (rows:List (List D)) (V:Nat->Nat->Value):
   rows.length<=cap->cap<=maxLen->
   (∀i (h:i<rows.length),(rows[i]'h).length=k)->
   (∀i j,i<rows.length->j<k->I b (o+i*k+j)/\w.cell? ⟨b,o+i*k+j,none⟩=some (V i j)/\(V i j).oneCell'=true)->
   (∀i j (hi:i<rows.length) (hj:j<(rows[i]'hi).length),DRep w I (V i j) ((rows[i]'hi)[j]'hj))->
   DRep w I (.slice (some ⟨b,o,none⟩) rows.length cap) (.isl k rows)
 |fn (f:Fn) (fs cs:Array Value) (first captured:List D):
   fs.size=first.length->cs.size=captured.length->
   (∀j (h:j<first.length) (h':j<fs.size),DRep w I (fs[j]'h') (first[j]'h))->
   (∀j (h:j<captured.length) (h':j<cs.size),DRep w I (cs[j]'h') (captured[j]'h))->
   DRep w I (.func f fs cs) (.fn f first captured)
 |iface (t:TypeId) (v:Value) (d:D):DRep w I v d->DRep w I (.iface t v) (.iface t d)
 |agg (vs:Array Value) (cells:List D):vs.size=cells.length->
   (∀j (h:j<cells.length) (h':j<vs.size),DRep w I (vs[j]'h') (cells[j]'h))->
   DRep w I (.agg vs) (.agg cells)
 |tab (b:Nat) (vs:List Value):(∀o,I b o/\w.cell? ⟨b,o,none⟩=vs[o]?)->DRep w I (.pointer (some ⟨b,0,none⟩)) (.tab vs)
theorem DRep.mono {w w':World} {I I':Imm} {v:Value} {d:D} (h:DRep w I v d) (hI:∀b o,I b o->I' b o)
  (hw:∀b o,I b o->w'.cell? ⟨b,o,none⟩=w.cell? ⟨b,o,none⟩):DRep w' I' v d:=by
 induction h with
 |val v=>exact .val v
 |row b o cells off V h1 _ ih=>exact .row b o cells off V (fun j hj=>⟨hI _ _ (h1 j hj).1,(hw _ _ (h1 j hj).1).trans (h1 j hj).2.1,(h1 j hj).2.2⟩) ih
 |islNil k=>exact .islNil k
 |islEmpty a k=>exact .islEmpty a k
 |isl b o cap k rows V h1 h2 h3 h4 _ ih=>
  exact .isl b o cap k rows V h1 h2 h3 (fun i j hi hj=>⟨hI _ _ (h4 i j hi hj).1,(hw _ _ (h4 i j hi hj).1).trans (h4 i j hi hj).2.1,(h4 i j hi hj).2.2⟩) ih
 |fn f fs cs first captured h1 h2 _ _ ih1 ih2=>exact .fn f fs cs first captured h1 h2 ih1 ih2
 |iface t v d _ ih=>exact .iface t v d ih
 |agg vs cells h1 _ ih=>exact .agg vs cells h1 ih
 |tab b vs h=>exact .tab b vs fun o=>⟨hI _ _ (h o).1,(hw _ _ (h o).1).trans (h o).2⟩
inductive Rep (w:World) (I:Imm) (β:List Bnd):Value->SV->Prop
 |any (v:Value):Rep w I β v .any
 |imm {v:Value} {d:D}:DRep w I v d->Rep w I β v (.imm d)
 |ptr (b c off:Nat):β[b]?=some (.blk c)->Rep w I β (.pointer (some ⟨c,off,none⟩)) (.ptr b off)
 |osl (b c off len cap:Nat):β[b]?=some (.blk c)->len<=cap->cap<=maxLen->Rep w I β (.slice (some ⟨c,off,none⟩) len cap) (.osl b off len)
 |asl (b k:Nat) (rows:List (List D)) (v u:Value) (n:Nat):DRep w I v (.isl k rows)->β[b]?=some (.tok u)->
   (∃a cap,u= .slice a n cap)->rows.length<=n->(rows.length=n->v=u)->Rep w I β v (.asl b k rows)
 |map (b c:Nat):β[b]?=some (.blk c)->Rep w I β (.map (some c)) (.map b)
 |yld (b c:Nat):β[b]?=some (.blk c)->Rep w I β (.func (.yield c) #[] #[]) (.yld b)
 |vec (b n:Nat) (v u:Value) (m:Nat):β[b]?=some (.tok u)->(∃a cap,u= .slice a m cap)->n<=m->(∃a l cap,v= .slice a l cap)->(n=m->v=u)->Rep w I β v (.vec b n)
 |vptr (b n off:Nat) (v:Value) (a:Option Addr) (m cap:Nat):β[b]?=some (.tok (.slice a m cap))->n<=m->(∃ad,v= .pointer ad)->(n=m->∃c,a=some ⟨c,0,none⟩/\v= .pointer (some ⟨c,off,none⟩))->Rep w I β v (.vptr b n off)
 |fn (f:Fn) (fs cs:Array Value) (first captured:List SV):
   fs.size=first.length->cs.size=captured.length->
   (∀j (h:j<first.length) (h':j<fs.size),Rep w I β (fs[j]'h') (first[j]'h))->
   (∀j (h:j<captured.length) (h':j<cs.size),Rep w I β (cs[j]'h') (captured[j]'h))->
   Rep w I β (.func f fs cs) (.fn f first captured)
 |iface (t:TypeId) (v:Value) (s:SV):Rep w I β v s->Rep w I β (.iface t v) (.iface t s)
 |agg (vs:Array Value) (cs:List SV):vs.size=cs.length->
   (∀j (h:j<cs.length) (h':j<vs.size),Rep w I β (vs[j]'h') (cs[j]'h))->Rep w I β (.agg vs) (.agg cs)
 |tup (vs:Array Value) (ss:List SV):vs.size=ss.length->
   (∀j (h:j<ss.length) (h':j<vs.size),Rep w I β (vs[j]'h') (ss[j]'h))->Rep w I β (.tuple vs) (.tup ss)
abbrev yyj:Bnd:=.tok (.bool true)
def Bnd.le:Bnd->Bnd->Prop
 | .blk c,x=>x= .blk c
 | .tok u,x=>u= .bool true\/∃u',x= .tok u'/\(u'=u\/∃a n cap a' n' cap',u= .slice a n cap/\u'= .slice a' n' cap'/\n<n')
theorem Bnd.le_refl (x:Bnd):x.le x:=by
 cases x with
 |blk c=>exact rfl
 |tok u=>exact .inr ⟨u,rfl,.inl rfl⟩
theorem Bnd.le_trans {x y z:Bnd} (h:x.le y) (h':y.le z):x.le z:=by
 cases x with
 |blk c=>cases h;exact h'
 |tok u=>
  rcases h with h|⟨u1,rfl,h1⟩
  ·exact .inl h
  rcases h' with rfl|⟨u2,rfl,h2⟩
  ·rcases h1 with rfl|⟨a,n,cap,a',n',cap',rfl,e,hn⟩
   ·exact .inl rfl
   ·cases e
  refine .inr ⟨u2,rfl,?_⟩;rcases h1 with rfl|⟨a,n,cap,a',n',cap',rfl,rfl,hn⟩
  ·exact h2
  ·rcases h2 with rfl|⟨b,m,c,b',m',c',e,rfl,hm⟩
   ·exact .inr ⟨_,_,_,_,_,_,rfl,rfl,hn⟩
   ·cases e;exact .inr ⟨_,_,_,_,_,_,rfl,rfl,by omega⟩
def Keeps (m:Nat) (β β':List Bnd):Prop:=∀b x,b<m->β[b]?=some x->∃y,β'[b]?=some y/\x.le y
theorem Keeps.refl (m:Nat) (β:List Bnd):Keeps m β β:=fun _ x _ h=>⟨x,h,x.le_refl⟩
theorem Keeps.trans {m:Nat} {β β' β'':List Bnd} (h:Keeps m β β') (h':Keeps m β' β''):Keeps m β β'':=fun b x hb hx=>by
 obtain ⟨y,hy,hxy⟩:=h b x hb hx;obtain ⟨z,hz,hyz⟩:=h' b y hb hy;exact ⟨z,hz,Bnd.le_trans hxy hyz⟩
theorem Keeps.mono {m n:Nat} {β β':List Bnd} (h:Keeps m β β') (hn:n<=m):Keeps n β β':=fun b x hb hx=>h b x (by omega) hx
theorem Keeps.push (m:Nat) (β:List Bnd) (x:Bnd):Keeps m β (β++[x]):=fun b y _ hy=>by
 have hlt:b<β.length:=by
  rcases Nat.lt_or_ge b β.length with h|h
  ·exact h
  ·simp [List.getElem?_eq_none h] at hy
 exact ⟨y,by rw [List.getElem?_append_left hlt];exact hy,y.le_refl⟩
def SV.under (m:Nat):SV->Bool
 | .any=>true
 | .imm _=>true
 | .ptr b _=>b<m
 | .osl b _ _=>b<m
 | .asl b _ _=>b<m
 | .map b=>b<m
 | .yld b=>b<m
 | .vec b _=>b<m
 | .vptr b _ _=>b<m
 | .fn _ first captured=>allUnder m first&&allUnder m captured
 | .iface _ v=>v.under m
 | .agg cs=>allUnder m cs
 | .tup vs=>allUnder m vs
where allUnder (m:Nat):List SV->Bool
 |[]=>true
 |s::r=>s.under m&&allUnder m r
theorem yj {m:Nat}:∀{l:List SV},SV.under.allUnder m l=true->∀j (h:j<l.length),(l[j]'h).under m=true
 |s::r,h,0,_=>by simp [SV.under.allUnder] at h;exact h.1
 |s::r,h,j+1,hj=>by
  simp [SV.under.allUnder] at h;exact yj h.2 j (by simpa using hj)
theorem Rep.mono_below {w w':World} {I I':Imm} {β β':List Bnd} {v:Value} {s:SV} {m:Nat} (h:Rep w I β v s)
  (hI:∀b o,I b o->I' b o) (hw:∀b o,I b o->w'.cell? ⟨b,o,none⟩=w.cell? ⟨b,o,none⟩)
  (hβ:Keeps m β β') (hb:s.under m=true):Rep w' I' β' v s:=by
 induction h with
 |any v=>exact .any v
 |imm h=>exact .imm (h.mono hI hw)
 |ptr b c off h=>
  obtain ⟨y,hy,hl⟩:=hβ b _ (by simpa [SV.under] using hb) h;cases hl;exact .ptr b c off hy
 |osl b c off len cap h h1 h2=>
  obtain ⟨y,hy,hl⟩:=hβ b _ (by simpa [SV.under] using hb) h;cases hl;exact .osl b c off len cap hy h1 h2
 |asl b k rows v u n h hu hs hle heq=>
  obtain ⟨y,hy,hl0⟩:=hβ b _ (by simpa [SV.under] using hb) hu;obtain ⟨u',rfl,hl⟩:=hl0.resolve_left (by obtain ⟨a,cap,rfl⟩:=hs;simp);rcases hl with rfl|⟨a,n1,cap,a',n',cap',rfl,rfl,hn⟩
  ·exact .asl b k rows v _ n (h.mono hI hw) hy hs hle heq
  ·obtain ⟨a2,cap2,e⟩:=hs
   cases e;exact .asl b k rows v _ n' (h.mono hI hw) hy ⟨a',cap',rfl⟩ (by omega) (by omega)
 |map b c h=>
  obtain ⟨y,hy,hl⟩:=hβ b _ (by simpa [SV.under] using hb) h;cases hl;exact .map b c hy
 |yld b c h=>
  obtain ⟨y,hy,hl⟩:=hβ b _ (by simpa [SV.under] using hb) h;cases hl;exact .yld b c hy
 |vec b n v u q h hs hle hv heq=>
  obtain ⟨y,hy,hl0⟩:=hβ b _ (by simpa [SV.under] using hb) h;obtain ⟨u',rfl,hl⟩:=hl0.resolve_left (by obtain ⟨a,cap,rfl⟩:=hs;simp);rcases hl with rfl|⟨a,n1,cap,a',n',cap',rfl,rfl,hn⟩
  ·exact .vec b n v _ q hy hs hle hv heq
  ·obtain ⟨a2,cap2,e⟩:=hs
   cases e;exact .vec b n v _ n' hy ⟨a',cap',rfl⟩ (by omega) hv (by omega)
 |vptr b n off v a q cap h hle hv heq=>
  obtain ⟨y,hy,hl0⟩:=hβ b _ (by simpa [SV.under] using hb) h;obtain ⟨u',rfl,hl⟩:=hl0.resolve_left (by simp);rcases hl with rfl|⟨a1,n1,cap1,a',n',cap',e,rfl,hn⟩
  ·exact .vptr b n off v a q cap hy hle hv heq
  ·cases e
   exact .vptr b n off v a' n' cap' hy (by omega) hv (by omega)
 |fn f fs cs first captured h1 h2 _ _ ih1 ih2=>
  simp [SV.under] at hb;exact .fn f fs cs first captured h1 h2 (fun j hj hj'=>ih1 j hj hj' (yj hb.1 j hj)) (fun j hj hj'=>ih2 j hj hj' (yj hb.2 j hj))
 |iface t v s _ ih=>exact .iface t v s (ih (by simpa [SV.under] using hb))
 |agg vs cs h1 _ ih=>
  simp [SV.under] at hb;exact .agg vs cs h1 (fun j hj hj'=>ih j hj hj' (yj hb j hj))
 |tup vs ss h1 _ ih=>
  simp [SV.under] at hb;exact .tup vs ss h1 (fun j hj hj'=>ih j hj hj' (yj hb j hj))
theorem lt_of_getElem? {α:Type} {l:List α} {b:Nat} {x:α} (h:l[b]?=some x):b<l.length:=by
 rcases Nat.lt_or_ge b l.length with h'|h'
 ·exact h'
 ·simp [List.getElem?_eq_none h'] at h
theorem Rep.mono {w w':World} {I I':Imm} {β β':List Bnd} {v:Value} {s:SV} (h:Rep w I β v s)
  (hI:∀b o,I b o->I' b o) (hw:∀b o,I b o->w'.cell? ⟨b,o,none⟩=w.cell? ⟨b,o,none⟩)
  (hβ:Keeps β.length β β'):Rep w' I' β' v s:=by
 induction h with
 |any v=>exact .any v
 |imm h=>exact .imm (h.mono hI hw)
 |ptr b c off h=>
  obtain ⟨y,hy,hl⟩:=hβ b _ (lt_of_getElem? h) h;cases hl;exact .ptr b c off hy
 |osl b c off len cap h h1 h2=>
  obtain ⟨y,hy,hl⟩:=hβ b _ (lt_of_getElem? h) h;cases hl;exact .osl b c off len cap hy h1 h2
 |asl b k rows v u n h hu hs hle heq=>
  obtain ⟨y,hy,hl0⟩:=hβ b _ (lt_of_getElem? hu) hu;obtain ⟨u',rfl,hl⟩:=hl0.resolve_left (by obtain ⟨a,cap,rfl⟩:=hs;simp);rcases hl with rfl|⟨a,n1,cap,a',n',cap',rfl,rfl,hn⟩
  ·exact .asl b k rows v _ n (h.mono hI hw) hy hs hle heq
  ·obtain ⟨a2,cap2,e⟩:=hs
   cases e;exact .asl b k rows v _ n' (h.mono hI hw) hy ⟨a',cap',rfl⟩ (by omega) (by omega)
 |map b c h=>
  obtain ⟨y,hy,hl⟩:=hβ b _ (lt_of_getElem? h) h;cases hl;exact .map b c hy
 |yld b c h=>
  obtain ⟨y,hy,hl⟩:=hβ b _ (lt_of_getElem? h) h;cases hl;exact .yld b c hy
 |vec b n v u q h hs hle hv heq=>
  obtain ⟨y,hy,hl0⟩:=hβ b _ (lt_of_getElem? h) h;obtain ⟨u',rfl,hl⟩:=hl0.resolve_left (by obtain ⟨a,cap,rfl⟩:=hs;simp);rcases hl with rfl|⟨a,n1,cap,a',n',cap',rfl,rfl,hn⟩
  ·exact .vec b n v _ q hy hs hle hv heq
  ·obtain ⟨a2,cap2,e⟩:=hs
   cases e;exact .vec b n v _ n' hy ⟨a',cap',rfl⟩ (by omega) hv (by omega)
 |vptr b n off v a q cap h hle hv heq=>
  obtain ⟨y,hy,hl0⟩:=hβ b _ (lt_of_getElem? h) h;obtain ⟨u',rfl,hl⟩:=hl0.resolve_left (by simp);rcases hl with rfl|⟨a1,n1,cap1,a',n',cap',e,rfl,hn⟩
  ·exact .vptr b n off v a q cap hy hle hv heq
  ·cases e
   exact .vptr b n off v a' n' cap' hy (by omega) hv (by omega)
 |fn f fs cs first captured h1 h2 _ _ ih1 ih2=>exact .fn f fs cs first captured h1 h2 ih1 ih2
 |iface t v s _ ih=>exact .iface t v s ih
 |agg vs cs h1 _ ih=>exact .agg vs cs h1 ih
 |tup vs ss h1 _ ih=>exact .tup vs ss h1 ih
def Bnd.block:Bnd->Option Nat
 | .blk c=>some c
 | .tok (.slice (some a) _ _)=>some a.block
 | .tok _=>none
def yzs:LS->Loop->Prop
 | .ready,r=>r.state= .ready/\r.pending=none
 | .busy,r=>r.state= .busy
 | .done j,r=>r.state= .done/\r.pending=some j
def Born (ents:Array MapEntry) (clock:Nat):Prop:=(ents.toList.map (·.born)).Nodup/\∀e∈ents.toList,e.born<clock
def ObjOK (w:World) (I:Imm) (β:List Bnd):SObj->Bnd->Prop
 | .cells cs,.blk c=>∃vs T,w.heap[c]?=some (.cells vs T (0,0))/\vs.size=cs.length/\
   (∀j (h:j<cs.length) (h':j<vs.size),Rep w I β (vs[j]'h') (cs[j]'h))/\∀o,¬I c o
 | .mapI k es,.blk c=>∃ents clock,w.heap[c]?=some (.map ents clock)/\ents.size=es.length/\
   (∀j (h:j<es.length) (h':j<ents.size),(ents[j]'h').key= .int k (es[j]'h).1/\Rep w I β (ents[j]'h').val (es[j]'h).2)/\(∀o,¬I c o)/\Born ents clock
 | .mapS es,.blk c=>∃ents clock,w.heap[c]?=some (.map ents clock)/\ents.size=es.length/\
   (∀j (h:j<es.length) (h':j<ents.size),(ents[j]'h').key= .string (es[j]'h).1/\Rep w I β (ents[j]'h').val (es[j]'h).2)/\(∀o,¬I c o)/\Born ents clock
 | .tok k n,.tok u=>(n=0/\u= .slice none 0 0)\/∃c cap vs T,u= .slice (some ⟨c,0,none⟩) n cap/\w.heap[c]?=some (.cells vs T (0,0))/\
   vs.size=cap*k/\n<=cap/\cap<=maxLen/\∀o,n*k<=o->¬I c o
 | .loop s f n t ps aaz bd,.blk c=>∃r:Loop,w.heap[c]?=some (.loop r)/\yzs s r/\r.fn=f/\r.tmps.size=n/\r.params=ps/\r.assign=aaz/\r.body=bd/\
   (∀m,Rep w I β (r.tmps.getD m undef) (qh t m))/\∀o,¬I c o
 | .vec k cs,.tok u=>(cs=[]/\u= .slice none 0 0)\/∃c n cap vs T,u= .slice (some ⟨c,0,none⟩) n cap/\w.heap[c]?=some (.cells vs T (0,0))/\
   vs.size=cap*k/\n<=cap/\cap<=maxLen/\cs.length=n*k/\(∀j (h:j<cs.length) (h':j<vs.size),Rep w I β (vs[j]'h') (cs[j]'h))/\∀o,¬I c o
 | .dead,_=>True
 | .free,.tok u=>u= .bool true
 | .pin k es clock,.blk c=>∃ents,w.heap[c]?=some (.map ents clock)/\ents.size=es.length/\
   (∀j (h:j<es.length) (h':j<ents.size),(ents[j]'h').born=(es[j]'h).1/\(ents[j]'h').key= .int k (es[j]'h).2.1/\Rep w I β (ents[j]'h').val (es[j]'h).2.2)/\(∀o,¬I c o)/\Born ents clock
 | .bld T,.blk c=>w.heap[c]?=some (.cells #[.pointer none,.slice none 0 0] T (0,0))/\∀o,¬I c o
 | .btok T n,.tok u=>(n=0/\u= .slice none 0 0)\/∃c cap vs,u= .slice (some ⟨c,0,none⟩) n cap/\w.heap[c]?=some (.cells vs T (0,0))/\
   vs.size=cap*1/\n<=cap/\cap<=maxLen/\∀o,n*1<=o->¬I c o
 | .iter m since seen last,.blk c=>∃cm,β[m]?=some (.blk cm)/\w.heap[c]?=some (.mapIter (some cm) since seen.toArray last)/\∀o,¬I c o
 |_,_=>False
def wv (H:List SObj) (β:List Bnd) (b c:Nat):Prop:=∃o x,H[b]?=some o/\o≠ .dead/\β[b]?=some x/\x.block=some c
structure HeapOK (G:List (Nat × D)) (w:World) (I:Imm) (β:List Bnd) (H:List SObj):Prop where
 len:β.length=H.length
 obj:∀(b:Nat) o x,H[b]?=some o->β[b]?=some x->ObjOK w I β o x
 inj:∀b b' c,wv H β b c->wv H β b' c->b=b'
 inI:∀c o,I c o->c<w.heap.size
 glob:∀g d,(g,d)∈G->DRep w I (.pointer (some ⟨g,0,none⟩)) d
def zeh (w w':World):Prop:=w'.os=w.os/\w'.output=w.output
structure Ext (m:Nat) (w:World) (I:Imm) (β:List Bnd) (H:List SObj) (w':World) (I':Imm) (β':List Bnd) (H':List SObj):Prop where
 imm:∀c o,I c o->I' c o
 cell:∀c o,I c o->w'.cell? ⟨c,o,none⟩=w.cell? ⟨c,o,none⟩
 keep:Keeps m β β'
 old:∀c,c<w.heap.size->(∀b,¬wv H β b c)->w'.heap[c]?=w.heap[c]?
 own:∀b c,wv H' β' b c->(∃b',wv H β b' c)\/w.heap.size<=c
 new:∀c o,I' c o->I c o\/(∃b,wv H β b c)\/w.heap.size<=c
 size:w.heap.size<=w'.heap.size
 env:zeh w w'
section
variable {G:List (Nat × D)} {w w' w'':World} {I I' I'':Imm} {β β' β'':List Bnd} {H H' H'':List SObj} {m:Nat}
theorem Ext.refl:Ext m w I β H w I β H:=
 ⟨fun _ _ h=>h,fun _ _ _=>rfl,.refl _ _,fun _ _ _=>rfl,fun b _ h=>.inl ⟨b,h⟩,fun _ _ h=>.inl h,Nat.le_refl _,⟨rfl,rfl⟩⟩
theorem Ext.trans (h:Ext m w I β H w' I' β' H') (h':Ext m w' I' β' H' w'' I'' β'' H''):Ext m w I β H w'' I'' β'' H'' where
 imm c o x:=h'.imm c o (h.imm c o x)
 cell c o x:=(h'.cell c o (h.imm c o x)).trans (h.cell c o x)
 keep:=h.keep.trans h'.keep
 old c hc hn:=by
  rw [h'.old c (Nat.lt_of_lt_of_le hc h.size) (fun b hb=>?_),h.old c hc hn];rcases h.own b c hb with ⟨b',h1⟩|h1
  ·exact hn b' h1
  ·omega
 own b c x:=by
  rcases h'.own b c x with ⟨b',h1⟩|h1
  ·exact h.own b' c h1
  ·exact .inr (Nat.le_trans h.size h1)
 new c o x:=by
  rcases h'.new c o x with h1|⟨b,h1⟩|h1
  ·exact h.new c o h1
  ·exact .inr (h.own b c h1)
  ·exact .inr (.inr (Nat.le_trans h.size h1))
 size:=Nat.le_trans h.size h'.size
 env:=⟨h'.env.1.trans h.env.1,h'.env.2.trans h.env.2⟩
theorem Ext.weaken {n:Nat} (h:Ext m w I β H w' I' β' H') (hn:n<=m):Ext n w I β H w' I' β' H':={h with keep:=h.keep.mono hn}
theorem Rep.ext {v:Value} {s:SV} (h:Rep w I β v s) (e:Ext β.length w I β H w' I' β' H'):Rep w' I' β' v s:=h.mono e.imm e.cell e.keep
theorem DRep.ext {v:Value} {d:D} (h:DRep w I v d) (e:Ext m w I β H w' I' β' H'):DRep w' I' v d:=h.mono e.imm e.cell
theorem cell_of_heap {c:Nat} {vs:Array Value} {T:TypeId} {fr:Nat × Nat} (h:w.heap[c]?=some (.cells vs T fr)) (o:Nat):
  w.cell? ⟨c,o,none⟩=vs[o]?:=by simp [World.cell?,h]
theorem ye {c:Nat} (h:w'.heap[c]?=w.heap[c]?) (o:Nat):w'.cell? ⟨c,o,none⟩=w.cell? ⟨c,o,none⟩:=by
 simp [World.cell?,h]
theorem xw {c:Nat} {ob:Obj} (h:w.heap[c]?=some ob):c<w.heap.size:=by
 rcases Nat.lt_or_ge c w.heap.size with h'|h'
 ·exact h'
 ·simp [Array.getElem?_eq_none h'] at h
theorem ObjOK.mono {o:SObj} {x:Bnd} (h:ObjOK w I β o x) (hc:∀c,x.block=some c->w'.heap[c]?=w.heap[c]?)
  (hI:∀c o,I c o->I' c o) (hw:∀c o,I c o->w'.cell? ⟨c,o,none⟩=w.cell? ⟨c,o,none⟩) (hβ:Keeps β.length β β')
  (hn:∀c o,x.block=some c->I' c o->I c o):ObjOK w' I' β' o x:=by
 cases o with
 |cells cs=>
  cases x with
  |blk c=>
   obtain ⟨vs,T,h1,h2,h3,h4⟩:=h;exact ⟨vs,T,(hc c rfl).trans h1,h2,fun j hj hj'=>(h3 j hj hj').mono hI hw hβ,fun o ho=>h4 o (hn c o rfl ho)⟩
  |tok u=>exact h.elim
 |mapI k es=>
  cases x with
  |blk c=>
   obtain ⟨ents,clock,h1,h2,h3,h4,h5⟩:=h;exact ⟨ents,clock,(hc c rfl).trans h1,h2,fun j hj hj'=>⟨(h3 j hj hj').1,(h3 j hj hj').2.mono hI hw hβ⟩,fun o ho=>h4 o (hn c o rfl ho),h5⟩
  |tok u=>exact h.elim
 |mapS es=>
  cases x with
  |blk c=>
   obtain ⟨ents,clock,h1,h2,h3,h4,h5⟩:=h;exact ⟨ents,clock,(hc c rfl).trans h1,h2,fun j hj hj'=>⟨(h3 j hj hj').1,(h3 j hj hj').2.mono hI hw hβ⟩,fun o ho=>h4 o (hn c o rfl ho),h5⟩
  |tok u=>exact h.elim
 |tok k n=>
  cases x with
  |blk c=>exact h.elim
  |tok u=>
   rcases h with h|⟨c,cap,vs,T,rfl,h1,h2,h3,h4,h5⟩
   ·exact .inl h
   ·exact .inr ⟨c,cap,vs,T,rfl,(hc c rfl).trans h1,h2,h3,h4,fun o ho hi=>h5 o ho (hn c o rfl hi)⟩
 |loop s f n t ps aaz bd=>
  cases x with
  |blk c=>
   obtain ⟨r,h1,h2,h3,h4,h5,h6,h7,h8,h9⟩:=h;exact ⟨r,(hc c rfl).trans h1,h2,h3,h4,h5,h6,h7,fun m=>(h8 m).mono hI hw hβ,fun o ho=>h9 o (hn c o rfl ho)⟩
  |tok u=>exact h.elim
 |vec k cs=>
  cases x with
  |blk c=>exact h.elim
  |tok u=>
   rcases h with h|⟨c,n,cap,vs,T,rfl,h1,h2,h3,h4,h5,h6,h7⟩
   ·exact .inl h
   ·exact .inr ⟨c,n,cap,vs,T,rfl,(hc c rfl).trans h1,h2,h3,h4,h5,fun j hj hj'=>(h6 j hj hj').mono hI hw hβ,fun o ho=>h7 o (hn c o rfl ho)⟩
 |dead=>trivial
 |free=>cases x<;>exact h
 |bld T=>
  cases x with
  |blk c=>exact ⟨(hc c rfl).trans h.1,fun o ho=>h.2 o (hn c o rfl ho)⟩
  |tok u=>exact h.elim
 |btok T n=>
  cases x with
  |blk c=>exact h.elim
  |tok u=>
   rcases h with h|⟨c,cap,vs,rfl,h1,h2,h3,h4,h5⟩
   ·exact .inl h
   ·exact .inr ⟨c,cap,vs,rfl,(hc c rfl).trans h1,h2,h3,h4,fun o ho hi=>h5 o ho (hn c o rfl hi)⟩
 |pin k es clock=>
  cases x with
  |blk c=>
   obtain ⟨ents,h1,h2,h3,h4,h5⟩:=h;exact ⟨ents,(hc c rfl).trans h1,h2,fun j hj hj'=>⟨(h3 j hj hj').1,(h3 j hj hj').2.1,(h3 j hj hj').2.2.mono hI hw hβ⟩,fun o ho=>h4 o (hn c o rfl ho),h5⟩
  |tok u=>exact h.elim
 |iter m since seen last=>
  cases x with
  |blk c=>
   obtain ⟨cm,h1,h2,h3⟩:=h;obtain ⟨y,hy,hl⟩:=hβ m _ (lt_of_getElem? h1) h1;cases hl;exact ⟨cm,hy,(hc c rfl).trans h2,fun o ho=>h3 o (hn c o rfl ho)⟩
  |tok u=>exact h.elim
theorem ObjOK.block_lt {o:SObj} {x:Bnd} {c:Nat} (h:ObjOK w I β o x) (hd:o≠ .dead) (hc:x.block=some c):c<w.heap.size:=by
 cases o with
 |cells cs=>
  cases x with
  |blk c'=>cases hc;obtain ⟨vs,T,h1,_⟩:=h;exact xw h1
  |tok u=>exact h.elim
 |mapI k es=>
  cases x with
  |blk c'=>cases hc;obtain ⟨vs,T,h1,_⟩:=h;exact xw h1
  |tok u=>exact h.elim
 |mapS es=>
  cases x with
  |blk c'=>cases hc;obtain ⟨vs,T,h1,_⟩:=h;exact xw h1
  |tok u=>exact h.elim
 |tok k n=>
  cases x with
  |blk c'=>exact h.elim
  |tok u=>
   rcases h with ⟨_,rfl⟩|⟨c',cap,vs,T,rfl,h1,_⟩
   ·cases hc
   ·cases hc;exact xw h1
 |loop s f n t ps aaz bd=>
  cases x with
  |blk c'=>cases hc;obtain ⟨r,h1,_⟩:=h;exact xw h1
  |tok u=>exact h.elim
 |vec k cs=>
  cases x with
  |blk c'=>exact h.elim
  |tok u=>
   rcases h with ⟨_,rfl⟩|⟨c',n,cap,vs,T,rfl,h1,_⟩
   ·cases hc
   ·cases hc;exact xw h1
 |dead=>exact absurd rfl hd
 |free=>
  cases x with
  |blk c'=>exact h.elim
  |tok u=>cases (h:u= .bool true);cases hc
 |bld T=>
  cases x with
  |blk c'=>cases hc;exact xw h.1
  |tok u=>exact h.elim
 |btok T n=>
  cases x with
  |blk c'=>exact h.elim
  |tok u=>
   rcases h with ⟨_,rfl⟩|⟨c',cap,vs,rfl,h1,_⟩
   ·cases hc
   ·cases hc;exact xw h1
 |pin k es clock=>
  cases x with
  |blk c'=>cases hc;obtain ⟨vs,h1,_⟩:=h;exact xw h1
  |tok u=>exact h.elim
 |iter m since seen last=>
  cases x with
  |blk c'=>cases hc;obtain ⟨cm,_,h1,_⟩:=h;exact xw h1
  |tok u=>exact h.elim
theorem HeapOK.owns_lt {b c:Nat} (h:HeapOK G w I β H) (ho:wv H β b c):c<w.heap.size:=by
 obtain ⟨o,x,h1,h2,h3,h4⟩:=ho;exact (h.obj b o x h1 h3).block_lt h2 h4
theorem HeapOK.grow (h:HeapOK G w I β H) (hold:∀c,c<w.heap.size->w'.heap[c]?=w.heap[c]?)
  (hI:∀c o,I c o->I' c o) (hI':∀c o,I' c o->I c o\/w.heap.size<=c) (hlt:∀c o,I' c o->c<w'.heap.size):
  HeapOK G w' I' β H where
 len:=h.len
 obj b o x h1 h2:=by
  by_cases hd:o= .dead
  ·subst hd;trivial
  ·refine (h.obj b o x h1 h2).mono (fun c hc=>hold c ((h.obj b o x h1 h2).block_lt hd hc)) hI (fun c o hc=>ye (hold c (h.inI c o hc)) o) (.refl _ _) ?_
   intro c o' hc hi;rcases hI' c o' hi with h3|h3
   ·exact h3
   ·have:=(h.obj b o x h1 h2).block_lt hd hc;omega
 inj:=h.inj
 inI:=hlt
 glob g d hg:=(h.glob g d hg).mono hI (fun c o hc=>ye (hold c (h.inI c o hc)) o)
theorem Ext.grow (h:HeapOK G w I β H) (hold:∀c,c<w.heap.size->w'.heap[c]?=w.heap[c]?) (hsz:w.heap.size<=w'.heap.size)
  (hI:∀c o,I c o->I' c o) (hI':∀c o,I' c o->I c o\/w.heap.size<=c) (hen:zeh w w':=by exact ⟨rfl,rfl⟩):Ext m w I β H w' I' β H where
 imm:=hI
 cell c o hc:=ye (hold c (h.inI c o hc)) o
 keep:=.refl _ _
 old c hc _:=hold c hc
 own b _ x:=.inl ⟨b,x⟩
 new c o x:=(hI' c o x).imp_right .inr
 size:=hsz
 env:=hen
theorem zbj {α:Type} {l:List α} {x y:α} {b:Nat} (h:(l++[x])[b]?=some y):(b<l.length/\l[b]?=some y)\/(b=l.length/\x=y):=by
 rcases Nat.lt_trichotomy b l.length with h'|h'|h'
 ·left;rw [List.getElem?_append_left h'] at h;exact ⟨h',h⟩
 ·right;subst h';simp at h;exact ⟨rfl,h⟩
 ·rw [List.getElem?_eq_none (by simp;omega)] at h;cases h
theorem yax {α:Type} {l:List α} {x y:α} {b:Nat} (h:l[b]?=some y):(l++[x])[b]?=some y:=by
 rw [List.getElem?_append_left (lt_of_getElem? h)];exact h
theorem HeapOK.push (h:HeapOK G w I β H) {o:SObj} {x:Bnd} (ho:ObjOK w I (β++[x]) o x) (hf:∀b c,x.block=some c->¬wv H β b c):
  HeapOK G w I (β++[x]) (H++[o]) where
 len:=by simp [h.len]
 obj b o' x' h1 h2:=by
  rcases zbj h2 with ⟨hlt,h2⟩|⟨rfl,rfl⟩
  ·rcases zbj h1 with ⟨_,h1⟩|⟨rfl,rfl⟩
   ·exact (h.obj b o' x' h1 h2).mono (fun _ _=>rfl) (fun _ _ h=>h) (fun _ _ _=>rfl) (.push _ _ _) (fun _ _ _ h=>h)
   ·exact absurd hlt (by rw [h.len];omega)
  ·rcases zbj h1 with ⟨hlt,_⟩|⟨_,rfl⟩
   ·exact absurd hlt (by rw [h.len];omega)
   ·exact ho
 inj b b' c h1 h2:=by
  have key:∀b,wv (H++[o]) (β++[x]) b c->wv H β b c\/(b=H.length/\x.block=some c):=by
   rintro b ⟨o',x',h1,h2,h3,h4⟩;rcases zbj h3 with ⟨hlt,h3⟩|⟨rfl,rfl⟩
   ·rcases zbj h1 with ⟨_,h1⟩|⟨rfl,rfl⟩
    ·exact .inl ⟨o',x',h1,h2,h3,h4⟩
    ·exact absurd hlt (by rw [h.len];omega)
   ·exact .inr ⟨h.len,h4⟩
  rcases key b h1 with h1|⟨e1,h1⟩<;>rcases key b' h2 with h2|⟨e2,h2⟩
  ·exact h.inj b b' c h1 h2
  ·exact absurd h1 (hf b c h2)
  ·exact absurd h2 (hf b' c h1)
  ·rw [e1,e2]
 inI:=h.inI
 glob:=h.glob
theorem Ext.push (h:HeapOK G w I β H) {o:SObj} {x:Bnd} (hx:∀c,x.block=some c->(∃b,wv H β b c)\/w.heap.size<=c):
  Ext m w I β H w I (β++[x]) (H++[o]) where
 imm _ _ h:=h
 cell _ _ _:=rfl
 keep:=.push _ _ _
 old _ _ _:=rfl
 own b c:=by
  rintro ⟨o',x',h1,h2,h3,h4⟩;rcases zbj h3 with ⟨hlt,h3⟩|⟨rfl,rfl⟩
  ·rcases zbj h1 with ⟨_,h1⟩|⟨rfl,rfl⟩
   ·exact .inl ⟨b,o',x',h1,h2,h3,h4⟩
   ·exact absurd hlt (by rw [h.len];omega)
  ·exact hx c h4
 new _ _ h:=.inl h
 size:=Nat.le_refl _
 env:=⟨rfl,rfl⟩
theorem HeapOK.alloc (h:HeapOK G w I β H) {o:SObj} {ob:Obj} (ho:ObjOK (w.alloc ob) I (β++[.blk w.heap.size]) o (.blk w.heap.size)):
  HeapOK G (w.alloc ob) I (β++[.blk w.heap.size]) (H++[o])/\Ext m w I β H (w.alloc ob) I (β++[.blk w.heap.size]) (H++[o]):=by
 have hold:∀c,c<w.heap.size->(w.alloc ob).heap[c]?=w.heap[c]?:=fun c hc=>by
  show (w.heap.push ob)[c]?=_;rw [Array.getElem?_push,if_neg (by omega)]
 have hg:=h.grow (w':=w.alloc ob) (I':=I) hold (fun _ _ h=>h) (fun _ _ h=>.inl h) (fun c o hc=>by have:=h.inI c o hc;simp;omega);have hno:∀b,¬wv H β b w.heap.size:=fun b hb=>by have:=h.owns_lt hb;omega
 refine ⟨hg.push ho (fun b c hc=>by cases hc;exact hno b),?_⟩;refine {imm:=fun _ _ h=>h,cell:=fun c o hc=>ye (hold c (h.inI c o hc)) o,keep:=.push _ _ _,old:=fun c hc _=>hold c hc,own:=?_,new:=fun _ _ h=>.inl h,size:=by simp,env:=⟨rfl,rfl⟩};rintro b c ⟨o',x',h1,h2,h3,h4⟩;rcases zbj h3 with ⟨hlt,h3⟩|⟨rfl,rfl⟩
 ·rcases zbj h1 with ⟨_,h1⟩|⟨rfl,rfl⟩
  ·exact .inl ⟨b,o',x',h1,h2,h3,h4⟩
  ·exact absurd hlt (by rw [h.len];omega)
 ·cases h4;exact .inr (Nat.le_refl _)
theorem HeapOK.change (h:HeapOK G w I β H) {b c:Nat} {o o':SObj} (hb:H[b]?=some o) (hd:o≠ .dead) (hx:β[b]?=some (.blk c))
  (hold:∀c',c'≠c->w'.heap[c']?=w.heap[c']?) (hsz:w'.heap.size=w.heap.size) (hnI:∀o,¬I c o)
  (ho:ObjOK w' I β o' (.blk c)) (hen:zeh w w':=by exact ⟨rfl,rfl⟩):HeapOK G w' I β (H.set b o')/\Ext m w I β H w' I β (H.set b o'):=by
 have hblt:=lt_of_getElem? hb;have hown:wv H β b c:=⟨o,_,hb,hd,hx,rfl⟩;have hcell:∀c' o,I c' o->w'.cell? ⟨c',o,none⟩=w.cell? ⟨c',o,none⟩:=fun c' o hc=>by
  have hne:c'≠c:=fun e=>hnI o (e ▸ hc)
  exact ye (hold c' hne) o
 have key:∀b' c',wv (H.set b o') β b' c'->wv H β b' c':=by
  rintro b' c' ⟨p,x,h1,h2,h3,h4⟩
  by_cases e:b'=b
  ·subst e
   rw [hx] at h3;cases h3;cases h4;exact hown
  ·rw [List.getElem?_set_ne (Ne.symm e)] at h1;exact ⟨p,x,h1,h2,h3,h4⟩
 refine ⟨?_,?_⟩
 ·refine {len:=by simp [h.len],obj:=?_,inj:=fun a b' c' h1 h2=>h.inj a b' c' (key a c' h1) (key b' c' h2),inI:=fun c o hc=>hsz ▸ h.inI c o hc,glob:=fun g d hg=>(h.glob g d hg).mono (fun _ _ h=>h) hcell}
  intro b' p x h1 h2
  by_cases e:b'=b
  ·subst e
   rw [hx] at h2;cases h2;rw [List.getElem?_set_self hblt] at h1;cases h1;exact ho
  ·rw [List.getElem?_set_ne (Ne.symm e)] at h1
   by_cases hpd:p= .dead
   ·subst hpd;trivial
   ·refine (h.obj b' p x h1 h2).mono (fun c' hc'=>hold c' ?_) (fun _ _ h=>h) hcell (.refl _ _) (fun _ _ _ h=>h)
    rintro rfl;exact e (h.inj b' b _ ⟨p,x,h1,hpd,h2,hc'⟩ hown)
 ·refine {imm:=fun _ _ h=>h,cell:=hcell,keep:=.refl _ _,old:=fun c' hc' hn=>hold c' (fun e=>hn b (e ▸ hown)),own:=fun b' c' h=>.inl ⟨b',key b' c' h⟩,new:=fun _ _ h=>.inl h,size:=by omega,env:=hen}
end
def xe (P:Program) (t:TypeId):Option Nat:=(P.info? t).map (·.size)
def js (P:Program) (t:TypeId):Option Nat:=(P.info? t).map (·.bytes)
def jx (P:Program) (t:TypeId):Option Value:=(P.info? t).bind (·.zero)
def ytq (P:Program) (t:TypeId):Option Bool:=(P.underlying t).map fun| .struct _| .array _ _=>true|_=>false
section
variable {P:Program} {w:World} {t:TypeId}
theorem ys {n:Nat} (h:xe P t=some n):(sizeOf t).run P w= .ok n w:=by
 unfold xe at h;cases hi:P.info? t with
 |none=>simp [hi] at h
 |some i=>simp [hi] at h;simp [sizeOf,typeInfo,hi,h]
theorem zae {v:Value} (h:jx P t=some v):(zeroValue t).run P w= .ok v w:=by
 unfold jx at h;cases hi:P.info? t with
 |none=>simp [hi] at h
 |some i=>simp [hi] at h;simp [zeroValue,typeInfo,hi,h]
theorem znr {b:Bool} (h:ytq P t=some b):(isAgg t).run P w= .ok b w:=by
 unfold ytq at h;cases hi:P.underlying t with
 |none=>simp [hi] at h
 |some d=>
  simp [hi] at h;subst h;simp only [isAgg,Sem.run_bind,run_underlying hi w];cases d<;>rfl
end
def SV.one:SV->Bool
 | .any=>false
 | .agg _=>false
 | .tup _=>false
 | .imm (.val (.agg _))=>false
 | .imm (.val (.tuple _))=>false
 | .imm (.agg _)=>false
 |_=>true
def SV.cells:SV->Option (List SV)
 | .agg cs=>some cs
 |s=>if s.one then some [s] else none
theorem Rep.oneCell {w:World} {I:Imm} {β:List Bnd} {v:Value} {s:SV} (h:Rep w I β v s) (hs:s.one=true):v.oneCell'=true:=by
 cases h with
 |any v=>cases hs
 |imm h=>
  cases h with
  |val v=>cases v<;>first|rfl|cases hs
  |agg=>cases hs
  |_=>rfl
 |asl b k rows v u n h=>cases h<;>rfl
 |vec b n v u q h hs' hle hv=>obtain ⟨a,l,cap,rfl⟩:=hv;rfl
 |vptr b n off v a q cap h hle hv=>obtain ⟨ad,rfl⟩:=hv;rfl
 |agg=>cases hs
 |tup=>cases hs
 |_=>rfl
theorem ykf {v:Value} (h:v.oneCell'=true):v.cells=#[v]:=by
 cases v<;>first|rfl|cases h
theorem Rep.cells {w:World} {I:Imm} {β:List Bnd} {v:Value} {s:SV} {cs:List SV} (h:Rep w I β v s) (hs:s.cells=some cs):
  v.cells.size=cs.length/\∀j (h:j<cs.length) (h':j<v.cells.size),Rep w I β (v.cells[j]'h') (cs[j]'h):=by
 have one:s.one=true->cs=[s]->v.cells.size=cs.length/\∀j (h:j<cs.length) (h':j<v.cells.size),Rep w I β (v.cells[j]'h') (cs[j]'h):=by
  intro h1 h2;have hv:=ykf (h.oneCell h1);subst h2;refine ⟨by rw [hv];rfl,fun j hj hj'=>?_⟩;have:j=0:=by simpa using hj
  subst this;simpa [hv] using h
 cases s with
 |agg l=>
  cases hs;cases h with
  |agg vs _ h1 h2=>exact ⟨h1,h2⟩
 |_=>
  simp only [SV.cells] at hs;split at hs
  ·rename_i h1;exact one h1 (by cases hs;rfl)
  ·cases hs
def zww:Value->SV
 | .func f fs cs=>if fs.isEmpty&&cs.isEmpty then .fn f [] [] else .imm (.val (.func f fs cs))
 |v=>.imm (.val v)
theorem zgj (w:World) (I:Imm) (β:List Bnd) (v:Value):Rep w I β v (zww v):=by
 unfold zww;split
 ·rename_i f fs cs
  split
  ·rename_i h
   simp at h;obtain ⟨rfl,rfl⟩:=h;exact .fn f #[] #[] [] [] rfl rfl (fun j h=>absurd h (Nat.not_lt_zero _)) (fun j h=>absurd h (Nat.not_lt_zero _))
  ·exact .imm (.val _)
 ·exact .imm (.val _)
def jl:Value->SV
 | .agg cs=>.agg (cs.toList.map zww)
 |v=>zww v
theorem zde (w:World) (I:Imm) (β:List Bnd) (v:Value):Rep w I β v (jl v):=by
 unfold jl;split
 ·refine .agg _ _ (by simp) (fun j h h'=>?_)
  simp;exact zgj ..
 ·exact zgj ..
def ziz (P:Program) (t:TypeId) (cs:List SV) (off:Nat):Option SV:=
 match ytq P t with
 |some true=>
  match xe P t with
  |some n=>if off+n<=cs.length then some (.agg ((cs.drop off).take n)) else none
  |none=>none
 |some false=>cs[off]?
 |none=>none
theorem qe (b o n:Nat):(⟨b,o,none⟩:Addr).add n=⟨b,o+n,none⟩:=by
 unfold Addr.add;split<;>simp_all
def yyd (w:World) (I:Imm) (β:List Bnd) (b o:Nat) (cs:List SV):Prop:=
 ∀j (h:j<cs.length),∃v,w.cell? ⟨b,o+j,none⟩=some v/\Rep w I β v (cs[j]'h)
theorem zoj {P:Program} {w:World} {I:Imm} {β:List Bnd} {t:TypeId} {b o off:Nat} {cs:List SV} {s:SV} (h:ziz P t cs off=some s)
  (hl:yyd w I β b o cs):∃v,(loadVar t ⟨b,o+off,none⟩).run P w= .ok v w/\Rep w I β v s:=by
 unfold ziz at h;cases ha:ytq P t with
 |none=>simp [ha] at h
 |some x=>
  cases x with
  |false=>
   simp only [ha] at h;have hlt:=lt_of_getElem? h;obtain ⟨v,hv,hr⟩:=hl off hlt;have hs:cs[off]=s:=by simpa [List.getElem?_eq_getElem hlt] using h
   refine ⟨v,?_,hs ▸ hr⟩;simp [loadVar,znr ha,hv]
  |true=>
   simp only [ha] at h;cases hn:xe P t with
   |none=>simp [hn] at h
   |some n=>
    simp only [hn] at h;split at h
    ·rename_i hle
     cases h;obtain ⟨V,hV⟩:∃V:Nat->Value,∀j (h:j<cs.length),w.cell? ⟨b,o+j,none⟩=some (V j)/\Rep w I β (V j) (cs[j]'h):=by
      classical
      refine ⟨fun j=>if h:j<cs.length then Classical.choose (hl j h) else undef,fun j h=>?_⟩;simp only [dif_pos h];exact Classical.choose_spec (hl j h)
     have hload:=run_loadCells (P:=P) (w:=w) ⟨b,o+off,none⟩ n (fun j=>V (off+j)) (fun j hj=>by
      rw [qe,Nat.add_assoc]
      exact (hV (off+j) (by omega)).1)
     refine ⟨.agg ((List.range n).map fun j=>V (off+j)).toArray,?_,?_⟩
     ·simp only [loadVar,Sem.run_bind,znr ha,Result.andThen_ok,ys hn,if_true,hload,Sem.run_pure]
     ·refine .agg _ _ (by simp;omega) (fun j hj hj'=>?_)
      simp at hj';have:=(hV (off+j) (by omega)).2;simpa using this
    ·cases h
def OpRun (P:Program) (G:List (Nat × D)) (s:Sem Next) (w:World) (I:Imm) (β:List Bnd) (H:List SObj) (r:SV) (H':List SObj):Prop:=
 ∃n v w' I' β',s.run P w= .ok n w'/\(n= .value v\/(n= .skip/\v=undef))/\Rep w' I' β' v r/\HeapOK G w' I' β' H'/\Ext H.length w I β H w' I' β' H'
section
variable {P:Program} {G:List (Nat × D)} {w:World} {I:Imm} {β:List Bnd} {H H':List SObj} {r:SV}
theorem OpRun.same {s:Sem Value} {v:Value} (hs:s.run P w= .ok v w) (hr:Rep w I β v r) (hH:HeapOK G w I β H):
  OpRun P G (do pure (.value (<-s))) w I β H r H:=
 ⟨.value v,v,w,I,β,by simp [hs],.inl rfl,hr,hH,.refl⟩
def ytr (op:BinOp) (k:IntKind) (a b:Int):Option Value:=
 match op with
 | .add=>some (.int k (k.wrap (a+b)))
 | .sub=>some (.int k (k.wrap (a-b)))
 | .mul=>some (.int k (k.wrap (a*b)))
 | .quo=>if b=0 then none else some (.int k (k.wrap (a.tdiv b)))
 | .rem=>if b=0 then none else some (.int k (a.tmod b))
 | .and=>some (.int k (k.wrap (BitVec.ofInt k.bits a&&&BitVec.ofInt k.bits b).toNat))
 | .or=>some (.int k (k.wrap (BitVec.ofInt k.bits a|||BitVec.ofInt k.bits b).toNat))
 | .xor=>some (.int k (k.wrap (BitVec.ofInt k.bits a ^^^ BitVec.ofInt k.bits b).toNat))
 | .andNot=>some (.int k (k.wrap (BitVec.ofInt k.bits a&&& ~~~ BitVec.ofInt k.bits b).toNat))
 | .eql=>some (.bool (decide (a=b)))
 | .neq=>some (.bool (!decide (a=b)))
 | .lss=>some (.bool (decide (a<b)))
 | .leq=>some (.bool (decide (a<=b)))
 | .gtr=>some (.bool (decide (b<a)))
 | .geq=>some (.bool (decide (b<=a)))
 |_=>none
def yye (op:BinOp) (a b:ByteArray):Option Value:=
 match op with
 | .add=>if ((a.size+b.size:Nat):Int)>IntKind.i64.max then none else some (.string (a++b))
 | .eql=>some (.bool (decide (a=b)))
 | .neq=>some (.bool (!decide (a=b)))
 | .lss=>some (.bool (Op.bytesLess a.data.toList b.data.toList))
 | .leq=>some (.bool (Op.bytesLess a.data.toList b.data.toList||decide (a=b)))
 | .gtr=>some (.bool (!(Op.bytesLess a.data.toList b.data.toList||decide (a=b))))
 | .geq=>some (.bool (!(Op.bytesLess a.data.toList b.data.toList)))
 |_=>none
def ywm (P:Program) (op:BinOp) (t:TypeId) (a b:Bool):Option Value:=
 match op,P.underlying t with
 | .eql,some .bool=>some (.bool (a==b))
 | .neq,some .bool=>some (.bool (!(a==b)))
 |_,_=>none
def yay (P:Program) (op:BinOp) (t:TypeId):Value->Value->Option Value
 | .int k a,.int k' b=>
  match op with
  | .shl=>if b<0 then none else some (.int k (k.wrap (a*2 ^ min b.toNat k.bits)))
  | .shr=>if b<0 then none else some (.int k (a.fdiv (2 ^ min b.toNat k.bits)))
  |op=>if k=k' then ytr op k a b else none
 | .string a,.string b=>yye op a b
 | .bool a,.bool b=>ywm P op t a b
 |_,_=>none
theorem ygs (a b:ByteArray):(a.toList==b.toList)=decide (a=b):=by
 rw [Bool.eq_iff_iff];simp only [beq_iff_eq,decide_eq_true_eq,ByteArray.toList_eq];constructor
 ·intro h;exact ByteArray.ext (Array.ext' h)
 ·intro h;rw [h]
theorem ypo {op:BinOp} {k:IntKind} {a b:Int} {t:TypeId} {v:Value} (h:ytr op k a b=some v) (hs:op≠ .shl) (hs':op≠ .shr):(binOp op t (.int k a) (.int k b)).run P w= .ok v w:=by
 cases op<;>first
  |(exact absurd rfl hs)
  |(exact absurd rfl hs')
  |(simp only [ytr,Option.some.injEq] at h;subst h;simp only [binOp,ne_eq,not_true_eq_false,if_false];rfl)
  |(simp only [ytr] at h;split at h<;>first|(cases h;done)|(rename_i h0;cases h;simp [binOp,Op.intDiv,h0];done))
  |(simp [ytr] at h;done)
theorem ypp {op : BinOp} {a b : ByteArray} {t : TypeId} {v : Value} (h : yye op a b = some v) : (binOp op t (.string a) (.string b)).run P w = .ok v w := by
  cases op <;> simp only [yye] at h <;> first
    | (cases h; done)
    | (cases h; simp only [binOp, Op.stringOp, ygs]; first | rfl | (simp only [ByteArray.toList_eq]; rfl))
    | (split at h
       · cases h
       · rename_i hn; cases h; simp only [binOp, Op.stringOp]; rw [if_neg hn]; rfl)
theorem zii {t:TypeId} {a b:Bool} (hu:P.underlying t=some .bool):(Op.equal t (.bool a) (.bool b)).run P w= .ok (a==b) w:=by
 show (Op.equalIn (9999+1) t (.bool a) (.bool b)).run P w=_;generalize 9999=d;simp only [Op.equalIn,Sem.run_bind,run_underlying hu,Result.andThen_ok,Sem.run_pure]
theorem ypq {op : BinOp} {t : TypeId} {x y v : Value} (h : yay P op t x y = some v) (ox oy : Operand) :
    (do eqGuard op t ox oy x y; binOp op t x y : Sem Value).run P w = .ok v w := by
  have hg : (eqGuard op t ox oy x y).run P w = .ok () w := by
    cases x <;> cases y <;> first | (simp [yay] at h; done) | (cases op <;> rfl)
  simp only [Sem.run_bind, hg, Result.andThen_ok]
  cases x <;> cases y <;> simp only [yay] at h <;> first | (cases h; done) | skip
  · rename_i a b
    unfold ywm at h
    split at h <;> first | (cases h; done) | skip
    · rename_i hu; cases h
      simp only [binOp, Sem.run_bind, zii hu, Result.andThen_ok, Sem.run_pure]
    · rename_i hu; cases h
      simp only [binOp, Sem.run_bind, zii hu, Result.andThen_ok, Sem.run_pure]
  · rename_i k a k' b
    cases op <;> simp only at h <;> first
      | (split at h
         · rename_i e; subst e; exact ypo h (by simp) (by simp)
         · cases h)
      | (split at h
         · cases h
         · rename_i hn; cases h; simp [binOp, Op.shift, hn]; done)
  · exact ypp h
def sun (op:UnOp):Value->Option Value
 | .int k n=>
  match op with
  | .neg=>some (.int k (k.wrap (0-n)))
  | .xor=>some (.int k (k.wrap (BitVec.ofInt k.bits (if k.signed then-1 else k.max) ^^^ BitVec.ofInt k.bits n).toNat))
  |_=>none
 | .bool b=>match op with| .not=>some (.bool !b)|_=>none
 |_=>none
theorem yts {op:UnOp} {x v:Value} (h:sun op x=some v):(Op.unary op x).run P w= .ok v w:=by
 cases x<;>simp only [sun] at h<;>first|(cases h;done)|skip
 ·cases op<;>simp only [Option.some.injEq] at h<;>first|(cases h;done)|(subst h;rfl)
 ·cases op<;>simp only [Option.some.injEq] at h<;>first|(cases h;done)|(subst h;rfl)
def yaz (P:Program) (src dst:TypeId):Value->Option Value
 | .int _ n=>match P.underlying src,P.underlying dst with
  |some (.int _),some (.int k)=>some (.int k (k.wrap n))
  |_,_=>none
 | .string s=>match P.underlying src,P.underlying dst with
  |some .string,some .string=>some (.string s)
  |_,_=>none
 |_=>none
theorem ykg {src dst:TypeId} {x v:Value} (h:yaz P src dst x=some v):(convert src dst x).run P w= .ok v w:=by
 cases x<;>simp only [yaz] at h<;>first|(cases h;done)|skip
 ·split at h
  ·rename_i h1 h2;cases h;simp [convert,run_underlying h1,run_underlying h2,Conv.intToInt]
  ·cases h
 ·split at h
  ·rename_i h1 h2;cases h;simp [convert,run_underlying h1,run_underlying h2]
  ·cases h
def zen (P:Program) (s:TypeId) (f:Nat):SV->Option SV
 | .ptr b off=>match P.underlying s with
  |some (.struct fs)=>match fs[f]? with
   |some fd=>match xe P fd.type with
    |some (_+1)=>some (.ptr b (off+fd.offset))
    |_=>none
   |none=>none
  |_=>none
 | .imm (.row cells off)=>match P.underlying s with
  |some (.struct fs)=>match fs[f]? with
   |some fd=>match xe P fd.type with
    |some (_+1)=>some (.imm (.row cells (off+fd.offset)))
    |_=>none
   |none=>none
  |_=>none
 |_=>none
theorem zja {s:TypeId} {f:Nat} {fs:Array Field} {fd:Field} {n b o:Nat} (hu:P.underlying s=some (.struct fs)) (hf:fs[f]?=some fd)
  (hn:xe P fd.type=some (n+1)):(Instr.fieldAt s (.pointer (some ⟨b,o,none⟩)) f).run P w= .ok (.pointer (some ⟨b,o+fd.offset,none⟩)) w:=by
 simp [Instr.fieldAt,run_underlying hu,hf,Instr.sureAddr,fieldPlace,ys hn,qe]
theorem zsa {s:TypeId} {f:Nat} {x:SV} {v:Value} (h:zen P s f x=some r) (hx:Rep w I β v x):
  ∃u,(Instr.fieldAt s v f).run P w= .ok u w/\Rep w I β u r:=by
 unfold zen at h;split at h
 ·split at h
  ·rename_i fs hu
   split at h
   ·rename_i fd hf
    split at h
    ·rename_i n hn
     cases h;cases hx with
     |ptr _ c _ hb=>exact ⟨_,zja hu hf hn,.ptr _ c _ hb⟩
    ·cases h
   ·cases h
  ·cases h
 ·split at h
  ·rename_i fs hu
   split at h
   ·rename_i fd hf
    split at h
    ·rename_i n hn
     cases h;cases hx with
     |imm hx=>
      cases hx with
      |row b o _ _ V h1 h2=>
       refine ⟨_,zja hu hf hn,.imm ?_⟩;rw [Nat.add_assoc];exact .row b o _ _ V h1 h2
    ·cases h
   ·cases h
  ·cases h
 ·cases h
def SV.rows:SV->Option (Nat × List (List D))
 | .imm (.isl k rows)=>some (k,rows)
 | .asl _ k rows=>some (k,rows)
 | .imm (.val (.slice none 0 0))=>some (0,[])
 |_=>none
theorem Rep.rows {x:SV} {v:Value} {k:Nat} {rs:List (List D)} (h:Rep w I β v x) (hx:x.rows=some (k,rs)):DRep w I v (.isl k rs):=by
 unfold SV.rows at hx;split at hx<;>first|(cases hx;done)|skip
 ·cases hx;cases h with|imm h=>exact h
 ·cases hx;cases h with|asl b k rows v u n h=>exact h
 ·cases hx;cases h with|imm h=>cases h with|val v=>exact .islNil 0
def jv (P:Program) (t:TypeId) (i:Int) (x:SV):Option SV:=
 match P.underlying t with
 |some (.slice e)=>match xe P e with
  |some n=>
   match x with
   | .osl b off len=>if 0<=i/\i<len then some (.ptr b (off+i.toNat*n)) else none
   |x=>match x.rows with
    |some (k,rs)=>if k=n/\0<=i then (rs[i.toNat]?).map fun r=>.imm (.row r 0) else none
    |none=>none
  |none=>none
 |some (.array len e)=>match xe P e with
  |some n=>
   if 0<=i/\i<len then
    match x with
    | .ptr b off=>some (.ptr b (off+i.toNat*n))
    | .imm (.row cells off)=>some (.imm (.row cells (off+i.toNat*n)))
    |_=>none
   else none
  |none=>none
 |_=>none
theorem zsb {t:TypeId} {k:IntKind} {i:Int} {x:SV} {v:Value} (h:jv P t i x=some r) (hx:Rep w I β v x):
  ∃u,(Instr.indexAt t v (.int k i)).run P w= .ok u w/\Rep w I β u r:=by
 have slice:∀(e n:Nat) (a:Addr) (len cap:Nat),P.underlying t=some (.slice e)->xe P e=some n->0<=i->i<len->
   (Instr.indexAt t (.slice (some a) len cap) (.int k i)).run P w= .ok (.pointer (some (a.add (i.toNat*n)))) w:=by
  intro e n a len cap hu hn h0 h1;simp [Instr.indexAt,asIntOf,run_underlying hu,ys hn,h0,h1]
 unfold jv at h;split at h
 ·rename_i e hu
  split at h
  ·rename_i n hn
   split at h
   ·rename_i b off len
    split at h
    ·rename_i hi
     cases h;cases hx with
     |osl b c off len cap hb=>exact ⟨_,slice e n _ len cap hu hn hi.1 hi.2,qe c off _ ▸ .ptr b c _ hb⟩
    ·cases h
   ·split at h
    ·rename_i k' rs hrs
     split at h
     ·rename_i hk
      obtain ⟨rfl,h0⟩:=hk;cases hr:rs[i.toNat]? with
      |none=>simp [hr] at h
      |some row=>
       simp only [hr,Option.map_some,Option.some.injEq] at h;subst h;have hlt:=lt_of_getElem? hr;have hrow:rs[i.toNat]=row:=by simpa [List.getElem?_eq_getElem hlt] using hr
       have hd:=hx.rows hrs;cases hd with
       |islNil=>simp at hlt
       |islEmpty a=>simp at hlt
       |isl b o cap k rows V h1 h2 h3 h4 h5=>
        refine ⟨_,slice e _ _ _ cap hu hn h0 (by omega),.imm ?_⟩;rw [qe];have hlen:row.length=k':=by rw [<-hrow];exact h3 _ hlt
        refine .row b (o+i.toNat*k') row 0 (V i.toNat) (fun j hj=>?_) (fun j hj=>?_)
        ·exact h4 i.toNat j hlt (by omega)
        ·have:=h5 i.toNat j hlt (by rw [hrow];exact hj)
         simpa [hrow] using this
     ·cases h
    ·cases h
  ·cases h
 ·rename_i len e hu
  split at h
  ·rename_i n hn
   split at h
   ·rename_i hi
    split at h<;>first|(cases h;done)|skip
    ·cases h
     cases hx with
     |ptr _ c _ hb=>
      refine ⟨_,?_,.ptr _ c _ hb⟩;simp [Instr.indexAt,asIntOf,run_underlying hu,ys hn,hi,Instr.sureAddr,qe]
    ·cases h
     cases hx with
     |imm hx=>
      cases hx with
      |row b o _ _ V h1 h2=>
       refine ⟨_,?_,.imm (.row b o _ _ V h1 h2)⟩;simp [Instr.indexAt,asIntOf,run_underlying hu,ys hn,hi,Instr.sureAddr,qe,Nat.add_assoc]
   ·cases h
  ·cases h
 ·cases h
end
section
variable {P:Program} {G:List (Nat × D)} {w:World} {I:Imm} {β:List Bnd} {H H':List SObj} {r:SV}
structure Reps (w:World) (I:Imm) (β:List Bnd) (vs:List Value) (ss:List SV):Prop where
 len:vs.length=ss.length
 rep:∀(j:Nat) v s,vs[j]?=some v->ss[j]?=some s->Rep w I β v s
theorem Reps.nil:Reps w I β [] []:=⟨rfl,fun j v s h=>by simp at h⟩
theorem Reps.cons {v:Value} {s:SV} {vs:List Value} {ss:List SV} (h:Rep w I β v s) (h':Reps w I β vs ss):Reps w I β (v::vs) (s::ss):=
 ⟨by simp [h'.len],fun j u t hu ht=>by
  cases j with
  |zero=>simp at hu ht;subst hu ht;exact h
  |succ j=>simp at hu ht;exact h'.rep j u t hu ht⟩
theorem Reps.append {vs us:List Value} {ss ts:List SV} (h:Reps w I β vs ss) (h':Reps w I β us ts):Reps w I β (vs++us) (ss++ts):=by
 refine ⟨by simp [h.len,h'.len],fun j v s hv hs=>?_⟩;rcases Nat.lt_or_ge j vs.length with hj|hj
 ·rw [List.getElem?_append_left hj] at hv
  rw [List.getElem?_append_left (h.len ▸ hj)] at hs;exact h.rep j v s hv hs
 ·rw [List.getElem?_append_right hj] at hv
  rw [List.getElem?_append_right (h.len ▸ hj), <-h.len] at hs;exact h'.rep _ v s hv hs
theorem Reps.take {vs:List Value} {ss:List SV} (n:Nat) (h:Reps w I β vs ss):Reps w I β (vs.take n) (ss.take n):=by
 refine ⟨by simp [h.len],fun j v s hv hs=>?_⟩;rw [List.getElem?_take] at hv hs;split at hv
 ·rename_i hj;rw [if_pos hj] at hs;exact h.rep j v s hv hs
 ·cases hv
theorem Reps.drop {vs:List Value} {ss:List SV} (n:Nat) (h:Reps w I β vs ss):Reps w I β (vs.drop n) (ss.drop n):=by
 refine ⟨by simp [h.len],fun j v s hv hs=>?_⟩;rw [List.getElem?_drop] at hv hs;exact h.rep _ v s hv hs
theorem Reps.of_get {vs:Array Value} {ss:List SV} (hl:vs.size=ss.length) (h:∀j (h:j<ss.length) (h':j<vs.size),Rep w I β (vs[j]'h') (ss[j]'h)):Reps w I β vs.toList ss:=by
 refine ⟨by simpa using hl,fun j v s hv hs=>?_⟩;have h1:=lt_of_getElem? hs;have h2:j<vs.size:=by omega
 have e1:vs[j]=v:=by simpa [h2] using hv
 have e2:ss[j]=s:=by simpa [List.getElem?_eq_getElem h1] using hs
 exact e1 ▸ e2 ▸ h j h1 h2
theorem Reps.get {vs:Array Value} {ss:List SV} (h:Reps w I β vs.toList ss):vs.size=ss.length/\∀j (h:j<ss.length) (h':j<vs.size),Rep w I β (vs[j]'h') (ss[j]'h):=
 ⟨by simpa using h.len,fun j h1 h2=>h.rep j _ _ (by simp [h2]) (List.getElem?_eq_getElem h1)⟩
theorem Reps.mono {w':World} {I':Imm} {β':List Bnd} {vs:List Value} {ss:List SV} (h:Reps w I β vs ss)
  (hI:∀b o,I b o->I' b o) (hw:∀b o,I b o->w'.cell? ⟨b,o,none⟩=w.cell? ⟨b,o,none⟩) (hβ:Keeps β.length β β'):Reps w' I' β' vs ss:=
 ⟨h.len,fun j v s hv hs=>(h.rep j v s hv hs).mono hI hw hβ⟩
theorem Reps.agg {vs:List Value} {ss:List SV} (h:Reps w I β vs ss):Rep w I β (.agg vs.toArray) (.agg ss):=by
 have:=Reps.get (vs:=vs.toArray) (by simpa using h);exact .agg _ _ this.1 this.2
theorem Rep.aggCells {v:Value} {ss:List SV} (h:Rep w I β v (.agg ss)):∃vs:Array Value,v= .agg vs/\Reps w I β vs.toList ss:=by
 cases h with
 |agg vs _ h1 h2=>exact ⟨vs,rfl,.of_get h1 h2⟩
theorem Rep.cellsReps {v:Value} {s:SV} {cs:List SV} (h:Rep w I β v s) (hs:s.cells=some cs):Reps w I β v.cells.toList cs:=
 .of_get (h.cells hs).1 (h.cells hs).2
theorem zsc {ob:Obj} {b o:Nat} (h:b<w.heap.size):(w.alloc ob).cell? ⟨b,o,none⟩=w.cell? ⟨b,o,none⟩:=by
 apply ye
 show (w.heap.push ob)[b]?=_;rw [Array.getElem?_push,if_neg (by omega)]
theorem zgk {vs:Array Value} {cs:List SV} {T:TypeId} (hH:HeapOK G w I β H) (hr:Reps w I β vs.toList cs):
  HeapOK G (w.alloc (.cells vs T)) I (β++[.blk w.heap.size]) (H++[.cells cs])/\Ext H.length w I β H (w.alloc (.cells vs T)) I (β++[.blk w.heap.size]) (H++[.cells cs])/\
   Rep (w.alloc (.cells vs T)) I (β++[.blk w.heap.size]) (.pointer (some ⟨w.heap.size,0,none⟩)) (.ptr H.length 0):=by
 have hnew:(w.alloc (.cells vs T)).heap[w.heap.size]?=some (.cells vs T (0,0)):=by
  show (w.heap.push _)[w.heap.size]?=_;simp
 have hobj:ObjOK (w.alloc (.cells vs T)) I (β++[.blk w.heap.size]) (.cells cs) (.blk w.heap.size):=by
  have hr':=(hr.mono (w':=w.alloc (.cells vs T)) (I':=I) (β':=β++[.blk w.heap.size]) (fun _ _ h=>h) (fun b o h=>zsc (hH.inI b o h)) (.push _ _ _)).get;exact ⟨vs,T,hnew,hr'.1,hr'.2,fun o h=>by have:=hH.inI _ o h;omega⟩
 obtain ⟨h1,h2⟩:=hH.alloc hobj (m:=H.length);exact ⟨h1,h2,.ptr _ _ _ (by rw [<-hH.len];simp)⟩
theorem zwx {e:TypeId} {z:Value} (hz:jx P e=some z):(Instr.alloc e true (.tuple #[])).run P w= .ok (.pointer (some ⟨w.heap.size,0,none⟩)) (w.alloc (.cells z.cells e)):=by
 simp [Instr.alloc,zae hz,newVar,newRow]
theorem ytt {e:TypeId} {v:Value}:(Instr.box e v).run P w= .ok (.pointer (some ⟨w.heap.size,0,none⟩)) (w.alloc (.cells v.cells e)):=by
 simp [Instr.box,newVar,newRow]
def zaz (P:Program) (t:TypeId) (H:List SObj):SV->Option SV
 | .ptr b off=>match H[b]? with
  |some (.cells cs)=>ziz P t cs off
  |_=>none
 | .imm (.row cells off)=>ziz P t (cells.map .imm) off
 |_=>none
theorem zok {t:TypeId} {x:SV} {v:Value} (h:zaz P t H x=some r) (hH:HeapOK G w I β H) (hx:Rep w I β v x):
  ∃u,(Instr.loadAt t v).run P w= .ok u w/\Rep w I β u r:=by
 unfold zaz at h;split at h
 ·rename_i b off
  split at h
  ·rename_i cs hb
   cases hx with
   |ptr _ c _ hc=>
    obtain ⟨vs,T,h1,h2,h3,h4⟩:=hH.obj b _ _ hb hc;have hl:yyd w I β c 0 cs:=fun j hj=>⟨vs[j],by rw [Nat.zero_add,cell_of_heap h1];simp [h2,hj],h3 j hj (by omega)⟩
    obtain ⟨u,hu,hr⟩:=zoj h hl;rw [Nat.zero_add] at hu;exact ⟨u,by simpa [Instr.loadAt,Instr.sureAddr] using hu,hr⟩
  ·cases h
 ·cases hx with
  |imm hx=>
   cases hx with
   |row b o _ _ V h1 h2=>
    rename_i cells off
    have hl:yyd w I β b o (cells.map SV.imm):=fun j hj=>by
     have hj':j<cells.length:=by simpa using hj
     exact ⟨V j,(h1 j hj').2.1,by simpa using Rep.imm (h2 j hj')⟩
    obtain ⟨u,hu,hr⟩:=zoj h hl;exact ⟨u,by simpa [Instr.loadAt,Instr.sureAddr] using hu,hr⟩
 ·cases h
def zci (P:Program) (t:TypeId) (H:List SObj) (a x:SV):Option (List SObj):=
 match a,x.cells,xe P t with
 | .ptr b off,some new,some n=>match H[b]? with
  |some (.cells cs)=>if new.length=n/\off+n<=cs.length/\new.all SV.one=true then some (H.set b (.cells (cs.take off++new++cs.drop (off+n)))) else none
  |_=>none
 |_,_,_=>none
theorem zwy {t:TypeId} {a x:SV} {va vx:Value} (h:zci P t H a x=some H') (hH:HeapOK G w I β H) (ha:Rep w I β va a) (hx:Rep w I β vx x):
  ∃w',(Instr.storeAt t va vx).run P w= .ok () w'/\HeapOK G w' I β H'/\Ext H.length w I β H w' I β H':=by
 unfold zci at h;split at h<;>first|(cases h;done)|skip
 rename_i b off new n hnew hn
 split at h<;>first|(cases h;done)|skip
 rename_i cs hb
 split at h
 ·rename_i hcond
  obtain ⟨hl,hle,hone⟩:=hcond;cases h;cases ha with
  |ptr _ c _ hc=>
   obtain ⟨vs,T,h1,h2,h3,h4⟩:=hH.obj b _ _ hb hc;have hcr:=hx.cellsReps hnew;have hsz:vx.cells.toList.length=n:=by rw [hcr.len,hl]
   have hones:∀v∈vx.cells.toList,v.oneCell'=true:=by
    intro v hv;obtain ⟨j,hj,rfl⟩:=List.mem_iff_getElem.1 hv;have hj':j<new.length:=by rw [<-hcr.len];exact hj
    exact (hcr.rep j _ _ (List.getElem?_eq_getElem hj) (List.getElem?_eq_getElem hj')).oneCell (List.all_eq_true.1 hone _ (List.getElem_mem hj'))
   have hst:=run_storeCells_at (P:=P) c off T vx.cells.toList 0 vs w h1 (by rw [hsz];omega) hones;simp only [Nat.add_zero,hsz] at hst;refine ⟨w.setRow c (vs.toList.take off++vx.cells.toList++vs.toList.drop (off+n)).toArray,?_,?_⟩
   ·simp only [Instr.storeAt,Instr.sureAddr,storeVar,Sem.run_bind,Sem.run_pure,Result.andThen_ok,ys hn]
    rw [if_neg (by simpa using hsz)];exact hst
   ·have hnew':(w.setRow c (vs.toList.take off++vx.cells.toList++vs.toList.drop (off+n)).toArray).heap[c]?=some (.cells (vs.toList.take off++vx.cells.toList++vs.toList.drop (off+n)).toArray T (0,0)):=setRow_heap w c vs _ T _ h1
    have hother:∀c',c'≠c->(w.setRow c (vs.toList.take off++vx.cells.toList++vs.toList.drop (off+n)).toArray).heap[c']?=w.heap[c']?:=by
     intro c' hne;simp [World.setRow,Array.getElem?_modify,Ne.symm hne]
    have hrs:Reps w I β vs.toList cs:=.of_get h2 h3;have hrs':Reps w I β (vs.toList.take off++vx.cells.toList++vs.toList.drop (off+n)) (cs.take off++new++cs.drop (off+n)):=((hrs.take off).append hcr).append (hrs.drop _);have hIc:∀b o,I b o->(w.setRow c (vs.toList.take off++vx.cells.toList++vs.toList.drop (off+n)).toArray).cell? ⟨b,o,none⟩=w.cell? ⟨b,o,none⟩:=by
     intro b' o' hi;exact ye (hother b' (fun e=>h4 o' (e ▸ hi))) o'
    have hrs2:=(hrs'.mono (I':=I) (fun _ _ h=>h) hIc (.refl _ _));have hg:=Reps.get (vs:=(vs.toList.take off++vx.cells.toList++vs.toList.drop (off+n)).toArray) hrs2;exact hH.change hb (by simp) hc hother (by simp [World.setRow]) h4 ⟨_,T,hnew',hg.1,hg.2,h4⟩
 ·cases h
theorem yef {t:TypeId} {cs:List SV} {vs:Array Value} {off:Nat} (h:ziz P t cs off=some r) (hr:Reps w I β vs.toList cs):
  ∃u,(part t vs off).run P w= .ok u w/\Rep w I β u r:=by
 unfold ziz at h;split at h
 ·rename_i ha
  split at h
  ·rename_i n hn
   split at h
   ·cases h
    refine ⟨.agg (vs.extract off (off+n)),by simp [part,znr ha,ys hn],?_⟩;have h1:=((hr.drop off).take n).agg;have e:(List.take n (List.drop off vs.toList)).toArray=vs.extract off (off+n):=by
     apply Array.ext'
     simp [List.take_drop]
    rwa [e] at h1
   ·cases h
  ·cases h
 ·rename_i ha
  obtain ⟨h1,h2⟩:=hr.get;have hlt:=lt_of_getElem? h;have e:cs[off]=r:=by simpa [List.getElem?_eq_getElem hlt] using h
  exact ⟨vs[off],by simp [part,znr ha,show off<vs.size by omega],e ▸ h2 off hlt (by omega)⟩
 ·cases h
end
section
variable {P:Program} {G:List (Nat × D)} {w:World} {I:Imm} {β:List Bnd} {H H':List SObj} {r:SV}
theorem zol (off:Nat):∀(new:List Value) (k:Nat) (cells:Array Value),off+k+new.length<=cells.size->
  ((new.zipIdx k).foldl (fun cs (x:Value × Nat)=>cs.setIfInBounds (off+x.2) x.1) cells).toList=cells.toList.take (off+k)++new++cells.toList.drop (off+k+new.length)
 |[],k,cells,_=>by simp
 |v::new,k,cells,h=>by
  rw [List.zipIdx_cons,List.foldl_cons,zol off new (k+1) _ (by simp at h ⊢;omega)];have e:=list_seg_step cells.toList (off+k) v new (by simp at h ⊢;omega);simpa [Array.toList_setIfInBounds,Nat.add_assoc,Nat.add_comm,Nat.add_left_comm] using e
def zwz (place:Nat->Option (Nat × Nat)):List SV->List (Nat × SV)->Option (List SV)
 |cs,[]=>some cs
 |cs,(i,s)::rest=>
  match place i,s.cells with
  |some (off,size),some new=>if new.length=size/\off+size<=cs.length then zwz place (cs.take off++new++cs.drop (off+size)) rest else none
  |_,_=>none
structure RepParts (w:World) (I:Imm) (β:List Bnd) (ps:List (Nat × Value)) (ss:List (Nat × SV)):Prop where
 idx:ps.map (·.1)=ss.map (·.1)
 reps:Reps w I β (ps.map (·.2)) (ss.map (·.2))
theorem RepParts.tail {p:Nat × Value} {s:Nat × SV} {ps:List (Nat × Value)} {ss:List (Nat × SV)} (h:RepParts w I β (p::ps) (s::ss)):
  p.1=s.1/\Rep w I β p.2 s.2/\RepParts w I β ps ss:=by
 obtain ⟨h1,h2⟩:=h;simp at h1;refine ⟨h1.1,h2.rep 0 _ _ (by simp) (by simp),h1.2,⟨by have:=h2.len;simpa using this,fun j v t hv ht=>h2.rep (j+1) v t (by simpa using hv) (by simpa using ht)⟩⟩
theorem yba {place:Nat->Option (Nat × Nat)}:∀{ss:List (Nat × SV)} {ps:List (Nat × Value)} {cs cs':List SV} {vs:Array Value},zwz place cs ss=some cs'->
  RepParts w I β ps ss->Reps w I β vs.toList cs->∃vs',Instr.fill place vs ps=some vs'/\Reps w I β vs'.toList cs'
 |[],ps,cs,cs',vs,h,hp,hr=>by
  have:ps=[]:=by have:=hp.idx;simpa using this
  subst this;simp [zwz] at h;subst h;exact ⟨vs,rfl,hr⟩
 |(i,s)::ss,ps,cs,cs',vs,h,hp,hr=>by
  cases ps with
  |nil=>have:=hp.idx;simp at this
  |cons p ps=>
   obtain ⟨j,v⟩:=p;obtain ⟨rfl,hv,hp'⟩:=hp.tail;simp only [zwz] at h;split at h<;>first|(cases h;done)|skip
   rename_i off size new hpl hnew
   split at h<;>first|(cases h;done)|skip
   rename_i hc
   have hcr:=hv.cellsReps hnew;have hsz:v.cells.size=size:=by have:=hcr.len;simp at this;omega
   have hvs:vs.size=cs.length:=by have:=hr.len;simpa using this
   have hr':Reps w I β (v.cells.zipIdx.foldl (fun cs (x:Value × Nat)=>cs.setIfInBounds (off+x.2) x.1) vs).toList (cs.take off++new++cs.drop (off+size)):=by
    have e:=zol off v.cells.toList 0 vs (by simp;omega);have e2:v.cells.zipIdx.foldl (fun cs (x:Value × Nat)=>cs.setIfInBounds (off+x.2) x.1) vs=(v.cells.toList.zipIdx 0).foldl (fun cs (x:Value × Nat)=>cs.setIfInBounds (off+x.2) x.1) vs:=by
     rw [<-Array.foldl_toList];simp
    rw [e2,e];simp only [Nat.add_zero,Array.length_toList,hsz];exact ((hr.take off).append hcr).append (hr.drop _)
   obtain ⟨vs',hf,hr2⟩:=yba h hp' hr';refine ⟨vs',?_,hr2⟩;simp only [Instr.fill];simp only [hpl];rw [if_neg (by simp;omega)];exact hf
def zjb (P:Program) (fs:List Field):Option (List (Nat × Nat)):=fs.mapM fun f=>(xe P f.type).map fun n=>(f.offset,n)
theorem zss:∀{fs:List Field} {ps:List (Nat × Nat)},zjb P fs=some ps->
  (fs.mapM (fun f=>do pure (f.offset, <-sizeOf f.type)):Sem (List (Nat × Nat))).run P w= .ok ps w
 |[],ps,h=>by simp [zjb] at h;subst h;rfl
 |f::fs,ps,h=>by
  simp only [zjb,List.mapM_cons] at h;cases hn:xe P f.type with
  |none=>simp [hn] at h
  |some n=>
   cases hr:zjb P fs with
   |none=>unfold zjb at hr;simp [hn,hr] at h
   |some rs=>
    have hr':=hr;unfold zjb at hr';simp [hn,hr'] at h;subst h;have ih:=zss hr;simp only [List.mapM_cons,Sem.run_bind,ys hn,Result.andThen_ok,Sem.run_pure,ih]
def zdx (v:Value):List SV:=v.cells.toList.map zww
theorem zff (v:Value):Reps w I β v.cells.toList (zdx v):=
 ⟨by simp [zdx],fun j u s hu hs=>by
  simp only [zdx,List.getElem?_map,hu,Option.map_some,Option.some.injEq] at hs
  subst hs;exact zgj ..⟩
def zom (P:Program) (t:TypeId) (parts:List (Nat × SV)):Option SV:=
 match jx P t,P.underlying t with
 |some z,some (.struct fs)=>match zjb P fs.toList with
  |some ps=>(zwz (ps[·]?) (zdx z) parts).map .agg
  |none=>none
 |some z,some (.array _ e)=>match xe P e with
  |some n=>(zwz (fun i=>some (i*n,n)) (zdx z) parts).map .agg
  |none=>none
 |_,_=>none
theorem ygt {t:TypeId} {ss:List (Nat × SV)} {ps:Array (Nat × Value)} (h:zom P t ss=some r) (hp:RepParts w I β ps.toList ss):
  ∃u,(Instr.build t ps).run P w= .ok u w/\Rep w I β u r:=by
 unfold zom at h;split at h<;>first|(cases h;done)|skip
 ·rename_i z fs hz hu
  split at h<;>first|(cases h;done)|skip
  rename_i pl hpl
  cases hf:zwz (pl[·]?) (zdx z) ss with
  |none=>simp [hf] at h
  |some cs=>
   simp [hf] at h;subst h;obtain ⟨vs',h1,h2⟩:=yba hf hp (zff z);have hm:(fs.mapM (fun f=>do pure (f.offset, <-sizeOf f.type)):Sem (Array (Nat × Nat))).run P w= .ok pl.toArray w:=by
    rw [Array.mapM_eq_mapM_toList,Sem.run_map,zss hpl];rfl
   refine ⟨.agg vs',?_,by simpa using h2.agg⟩;have hfun:(fun i:Nat=>(pl.toArray)[i]?)=(fun i:Nat=>pl[i]?):=by funext i;simp
   simp only [Instr.build,Sem.run_bind,zae hz,Result.andThen_ok,run_underlying hu,hm,hfun,h1,Sem.run_pure]
 ·rename_i z len e hz hu
  split at h<;>first|(cases h;done)|skip
  rename_i n hn
  cases hf:zwz (fun i=>some (i*n,n)) (zdx z) ss with
  |none=>simp [hf] at h
  |some cs=>
   simp [hf] at h;subst h;obtain ⟨vs',h1,h2⟩:=yba hf hp (zff z);refine ⟨.agg vs',?_,by simpa using h2.agg⟩;simp only [Instr.build,Sem.run_bind,zae hz,Result.andThen_ok,run_underlying hu,ys hn,h1,Sem.run_pure]
def zxa (P:Program) (t:TypeId) (f:Nat):SV->Option SV
 | .agg cs=>match P.underlying t with
  |some (.struct fs)=>match fs[f]? with
   |some fd=>ziz P fd.type cs fd.offset
   |none=>none
  |_=>none
 |_=>none
theorem ygu {t:TypeId} {f:Nat} {x:SV} {v:Value} (h:zxa P t f x=some r) (hx:Rep w I β v x):
  ∃u,(Instr.field t v f).run P w= .ok u w/\Rep w I β u r:=by
 unfold zxa at h;split at h<;>first|(cases h;done)|skip
 split at h<;>first|(cases h;done)|skip
 rename_i cs fs hu
 split at h<;>first|(cases h;done)|skip
 rename_i fd hf
 obtain ⟨vs,rfl,hr⟩:=hx.aggCells;obtain ⟨u,h1,h2⟩:=yef h hr;exact ⟨u,by simp [Instr.field,run_underlying hu,hf,asAgg,h1],h2⟩
def zml (P:Program) (t:TypeId) (i:Int):SV->Option SV
 | .imm (.val (.string s))=>match P.underlying t with
  |some .string=>if 0<=i then (s[i.toNat]?).map fun b=>.imm (.val (.int .u8 b.toNat)) else none
  |_=>none
 | .agg cs=>match P.underlying t with
  |some (.array len e)=>match xe P e with
   |some n=>if 0<=i/\i<len then ziz P e cs (i.toNat*n) else none
   |none=>none
  |_=>none
 |_=>none
theorem ygv {t:TypeId} {k:IntKind} {i:Int} {x:SV} {v:Value} (h:zml P t i x=some r) (hx:Rep w I β v x):
  ∃u,(Instr.index t v (.int k i)).run P w= .ok u w/\Rep w I β u r:=by
 unfold zml at h;split at h<;>first|(cases h;done)|skip
 ·split at h<;>first|(cases h;done)|skip
  rename_i s _ hu
  split at h<;>first|(cases h;done)|skip
  rename_i h0
  cases hb:s[i.toNat]? with
  |none=>simp [hb] at h
  |some b=>
   simp [hb] at h;subst h;cases hx with
   |imm hx=>
    cases hx with
    |val v=>exact ⟨_,by simp [Instr.index,asIntOf,run_underlying hu,h0,hb],.imm (.val _)⟩
 ·split at h<;>first|(cases h;done)|skip
  rename_i cs len e hu
  split at h<;>first|(cases h;done)|skip
  rename_i n hn
  split at h<;>first|(cases h;done)|skip
  rename_i hi
  obtain ⟨vs,rfl,hr⟩:=hx.aggCells;obtain ⟨u,h1,h2⟩:=yef h hr;exact ⟨u,by simp [Instr.index,asIntOf,run_underlying hu,hi,ys hn,h1],h2⟩
def zkb (i:Nat):SV->Option SV
 | .tup vs=>vs[i]?
 |_=>none
theorem zxb {i:Nat} {x:SV} {v:Value} (h:zkb i x=some r) (hx:Rep w I β v x):
  ∃u,(Instr.extract v i).run P w= .ok u w/\Rep w I β u r:=by
 unfold zkb at h;split at h<;>first|(cases h;done)|skip
 rename_i ss
 cases hx with
 |tup vs _ h1 h2=>
  have hlt:=lt_of_getElem? h;have hlt':i<vs.size:=by omega
  have e:ss[i]=r:=by simpa [List.getElem?_eq_getElem hlt] using h
  exact ⟨vs[i],by simp [Instr.extract,hlt'],e ▸ h2 i hlt hlt'⟩
def ypg (P:Program) (t:TypeId) (H:List SObj) (x:SV):Option Nat:=
 match P.underlying t with
 |some .string=>match x with| .imm (.val (.string s))=>some s.size|_=>none
 |some (.slice _)=>match x with
  | .osl _ _ len=>some len
  |x=>match x.rows with
   |some (_,rs)=>some rs.length
   |none=>none
 |some (.map _ _)=>match x with
  | .map b=>match H[b]? with
   |some (.mapI _ es)=>some es.length
   |some (.mapS es)=>some es.length
   |_=>none
  | .imm (.val (.map none))=>some 0
  |_=>none
 |some (.array n _)=>some n
 |_=>none
theorem DRep.len {v:Value} {k:Nat} {rs:List (List D)} (h:DRep w I v (.isl k rs)):∃a cap,v= .slice a rs.length cap:=by
 cases h with
 |islNil=>exact ⟨none,0,rfl⟩
 |islEmpty a=>exact ⟨_,0,rfl⟩
 |isl b o cap k rows V=>exact ⟨_,cap,rfl⟩
theorem qu {c:Nat} {ents:Array MapEntry} {clock:Nat} (h:w.heap[c]?=some (.map ents clock)):(getObj c).run P w= .ok (.map ents clock) w:=by
 simp [getObj,Sem.run,h]
theorem ypr {t ty:TypeId} {x:SV} {v:Value} {n:Nat} (h:ypg P t H x=some n) (hH:HeapOK G w I β H) (hx:Rep w I β v x):
  (Builtin.len_ #[t] ty #[v]).run P w= .ok (goInt n) w:=by
 unfold ypg at h;split at h<;>first|(cases h;done)|skip
 ·rename_i hu
  split at h<;>first|(cases h;done)|skip
  cases h;cases hx with
  |imm hx=>cases hx with|val v=>simp [Builtin.len_,run_underlying hu]
 ·rename_i hu
  split at h
  ·cases h
   cases hx with
   |osl=>simp [Builtin.len_,run_underlying hu]
  ·split at h<;>first|(cases h;done)|skip
   ·rename_i k rs hr
    cases h;obtain ⟨a,cap,rfl⟩:=(hx.rows hr).len;simp [Builtin.len_,run_underlying hu]
 ·rename_i hu
  split at h<;>first|(cases h;done)|skip
  ·split at h<;>first|(cases h;done)|skip
   ·rename_i hb;cases h
    cases hx with
    |map b c hc=>
     obtain ⟨ents,clock,h1,h2,h3,h4⟩:=hH.obj _ _ _ hb hc;simp [Builtin.len_,run_underlying hu,qu h1,h2]
   ·rename_i hb;cases h
    cases hx with
    |map b c hc=>
     obtain ⟨ents,clock,h1,h2,h3,h4⟩:=hH.obj _ _ _ hb hc;simp [Builtin.len_,run_underlying hu,qu h1,h2]
  ·cases h
   cases hx with
   |imm hx=>cases hx with|val v=>simp [Builtin.len_,run_underlying hu]
 ·rename_i hu
  cases h;simp [Builtin.len_,run_underlying hu]
end
section
variable {P:Program} {G:List (Nat × D)} {w:World} {I:Imm} {β:List Bnd} {H H':List SObj} {r:SV}
def SV.toD:SV->Option D
 | .imm d=>some d
 | .asl _ k rows=>some (.isl k rows)
 |_=>none
theorem Rep.toD {s:SV} {v:Value} {d:D} (h:Rep w I β v s) (hs:s.toD=some d):DRep w I v d:=by
 cases s<;>simp only [SV.toD] at hs<;>first|(cases hs;done)|skip
 ·cases hs;cases h with|imm h=>exact h
 ·cases hs;cases h with|asl b k rows v u n h=>exact h
def Imm.plus (I:Imm) (c n:Nat):Imm:=fun b o=>I b o\/(b=c/\o<n)
theorem HeapOK.allocImm {m:Nat} (h:HeapOK G w I β H) (ob:Obj) (n:Nat):
  HeapOK G (w.alloc ob) (I.plus w.heap.size n) β H/\Ext m w I β H (w.alloc ob) (I.plus w.heap.size n) β H:=by
 have hold:∀c,c<w.heap.size->(w.alloc ob).heap[c]?=w.heap[c]?:=fun c hc=>by
  show (w.heap.push ob)[c]?=_;rw [Array.getElem?_push,if_neg (by omega)]
 have h1:∀c o,I c o->(I.plus w.heap.size n) c o:=fun _ _ h=>.inl h
 have h2:∀c o,(I.plus w.heap.size n) c o->I c o\/w.heap.size<=c:=by
  rintro c o (h|⟨rfl,_⟩)
  ·exact .inl h
  ·exact .inr (Nat.le_refl _)
 have h3:∀c o,(I.plus w.heap.size n) c o->c<(w.alloc ob).heap.size:=by
  rintro c o (hc|⟨rfl,_⟩)
  ·have:=h.inI c o hc;simp;omega
  ·simp
 exact ⟨h.grow hold h1 h2 h3,.grow h hold (by simp) h1 h2⟩
theorem yq (ob:Obj):(w.alloc ob).heap[w.heap.size]?=some ob:=by
 show (w.heap.push ob)[w.heap.size]?=_;simp
theorem ykh {o:SObj} {x:Bnd} {b c:Nat} (hl:β.length=H.length) (h:wv (H++[o]) (β++[x]) b c):wv H β b c\/(b=H.length/\x.block=some c):=by
 obtain ⟨o',x',h1,h2,h3,h4⟩:=h;rcases zbj h3 with ⟨hlt,h3⟩|⟨rfl,rfl⟩
 ·rcases zbj h1 with ⟨_,h1⟩|⟨rfl,rfl⟩
  ·exact .inl ⟨o',x',h1,h2,h3,h4⟩
  ·exact absurd hlt (by rw [hl];omega)
 ·exact .inr ⟨hl,h4⟩
theorem HeapOK.allocTok {m k n cap:Nat} {vs:Array Value} {T:TypeId} (h:HeapOK G w I β H) (hsz:vs.size=cap*k) (hn:n<=cap) (hc:cap<=maxLen):
  HeapOK G (w.alloc (.cells vs T)) (I.plus w.heap.size (n*k)) (β++[.tok (.slice (some ⟨w.heap.size,0,none⟩) n cap)]) (H++[.tok k n])/\
  Ext m w I β H (w.alloc (.cells vs T)) (I.plus w.heap.size (n*k)) (β++[.tok (.slice (some ⟨w.heap.size,0,none⟩) n cap)]) (H++[.tok k n]):=by
 obtain ⟨h1,h2⟩:=h.allocImm (m:=m) (.cells vs T) (n*k);have hno:∀b,¬wv H β b w.heap.size:=fun b hb=>by have:=h.owns_lt hb;omega
 have hobj:ObjOK (w.alloc (.cells vs T)) (I.plus w.heap.size (n*k)) (β++[.tok (.slice (some ⟨w.heap.size,0,none⟩) n cap)]) (.tok k n) (.tok (.slice (some ⟨w.heap.size,0,none⟩) n cap)):=
  .inr ⟨w.heap.size,cap,vs,T,rfl,yq _,hsz,hn,hc,fun o ho=>by
   rintro (hi|⟨_,hi⟩)
   ·have:=h.inI _ o hi;omega
   ·omega⟩
 refine ⟨h1.push hobj (fun b c hc=>by cases hc;exact hno b),{h2 with keep:=.push _ _ _,own:=fun b c ho=>?_}⟩;rcases ykh h.len ho with h3|⟨_,h3⟩
 ·exact .inl ⟨b,h3⟩
 ·cases h3;exact .inr (Nat.le_refl _)
theorem HeapOK.moveTok {m k n n' b:Nat} {u u':Value} {w':World} {I':Imm} (h:HeapOK G w I β H) (hb:H[b]?=some (.tok k n)) (hx:β[b]?=some (.tok u))
  (hu:∃a cap a' cap',u= .slice a n cap/\u'= .slice a' n' cap') (hnn:n<n') (hsz:w.heap.size<=w'.heap.size)
  (hold:∀c,c<w.heap.size->(Bnd.tok u).block≠some c->w'.heap[c]?=w.heap[c]?)
  (hcell:∀c o,I c o->w'.cell? ⟨c,o,none⟩=w.cell? ⟨c,o,none⟩)
  (hI:∀c o,I c o->I' c o) (hI':∀c o,I' c o->I c o\/(Bnd.tok u').block=some c) (hlt:∀c o,I' c o->c<w'.heap.size)
  (hblk:∀c,(Bnd.tok u').block=some c->(Bnd.tok u).block=some c\/w.heap.size<=c)
  (ho:ObjOK w' I' (β.set b (.tok u')) (.tok k n') (.tok u')) (hen:zeh w w':=by exact ⟨rfl,rfl⟩):
  HeapOK G w' I' (β.set b (.tok u')) (H.set b (.tok k n'))/\Ext m w I β H w' I' (β.set b (.tok u')) (H.set b (.tok k n')):=by
 have hblt:=lt_of_getElem? hb;have hxlt:=lt_of_getElem? hx;have hkeep:∀m,Keeps m β (β.set b (.tok u')):=by
  intro m b' x _ hb'
  by_cases e:b'=b
  ·subst e
   rw [hx] at hb';cases hb';obtain ⟨a,cap,a',cap',rfl,rfl⟩:=hu;exact ⟨_,List.getElem?_set_self hxlt,.inr ⟨_,rfl,.inr ⟨_,_,_,_,_,_,rfl,rfl,hnn⟩⟩⟩
  ·exact ⟨x,by rw [List.getElem?_set_ne (Ne.symm e)];exact hb',x.le_refl⟩
 have key:∀b' c',wv (H.set b (.tok k n')) (β.set b (.tok u')) b' c'->(b'≠b/\wv H β b' c')\/(b'=b/\(Bnd.tok u').block=some c'):=by
  rintro b' c' ⟨p,x,h1,h2,h3,h4⟩
  by_cases e:b'=b
  ·subst e
   rw [List.getElem?_set_self hxlt] at h3;cases h3;exact .inr ⟨rfl,h4⟩
  ·rw [List.getElem?_set_ne (Ne.symm e)] at h1 h3;exact .inl ⟨e,p,x,h1,h2,h3,h4⟩
 have hownb:∀c,(Bnd.tok u).block=some c->wv H β b c:=fun c hc=>⟨_,_,hb,by simp,hx,hc⟩
 have notblk:∀b' c,b'≠b->wv H β b' c->(Bnd.tok u).block≠some c:=fun b' c hne ho hc=>hne (h.inj b' b c ho (hownb c hc))
 refine ⟨{len:=by simp [h.len],obj:=?_,inj:=?_,inI:=hlt,glob:=fun g d hg=>(h.glob g d hg).mono hI hcell},
  {imm:=hI,cell:=hcell,keep:=hkeep m,old:=fun c hc hn=>hold c hc (fun e=>hn b (hownb c e)),own:=?_,new:=?_,size:=hsz,env:=hen}⟩
 ·intro b' p x h1 h2
  by_cases e:b'=b
  ·subst e
   rw [List.getElem?_set_self hxlt] at h2;cases h2;rw [List.getElem?_set_self hblt] at h1;cases h1;exact ho
  ·rw [List.getElem?_set_ne (Ne.symm e)] at h1 h2
   by_cases hpd:p= .dead
   ·subst hpd;trivial
   ·have hob:=h.obj b' p x h1 h2
    refine hob.mono (fun c hc=>hold c (hob.block_lt hpd hc) (notblk b' c e ⟨p,x,h1,hpd,h2,hc⟩)) hI hcell (hkeep _) ?_;intro c o hc hi;rcases hI' c o hi with h3|h3
    ·exact h3
    ·rcases hblk c h3 with h4|h4
     ·exact absurd h4 (notblk b' c e ⟨p,x,h1,hpd,h2,hc⟩)
     ·have:=hob.block_lt hpd hc;omega
 ·intro a b' c h1 h2
  rcases key a c h1 with ⟨n1,k1⟩|⟨e1,k1⟩<;>rcases key b' c h2 with ⟨n2,k2⟩|⟨e2,k2⟩
  ·exact h.inj a b' c k1 k2
  ·rcases hblk c k2 with h3|h3
   ·exact absurd h3 (notblk a c n1 k1)
   ·have:=h.owns_lt k1;omega
  ·rcases hblk c k1 with h3|h3
   ·exact absurd h3 (notblk b' c n2 k2)
   ·have:=h.owns_lt k2;omega
  ·rw [e1,e2]
 ·intro b' c h1
  rcases key b' c h1 with ⟨_,h1⟩|⟨_,h1⟩
  ·exact .inl ⟨b',h1⟩
  ·rcases hblk c h1 with h3|h3
   ·exact .inl ⟨b,hownb c h3⟩
   ·exact .inr h3
 ·intro c o hi
  rcases hI' c o hi with h3|h3
  ·exact .inl h3
  ·rcases hblk c h3 with h4|h4
   ·exact .inr (.inl ⟨b,hownb c h4⟩)
   ·exact .inr (.inr h4)
def qo (k:Nat) (ds:List D):Nat->List (List D)
 |0=>[]
 |n+1=>ds.take k::qo k (ds.drop k) n
theorem jm (k:Nat):∀(n:Nat) (ds:List D),(qo k ds n).length=n
 |0,_=>rfl
 |n+1,ds=>by simp [qo,jm k n]
theorem zhs (k:Nat):∀(n:Nat) (ds:List D) (i:Nat) (h:i<(qo k ds n).length),(qo k ds n)[i]'h=(ds.drop (i*k)).take k
 |0,_,i,h=>by simp [qo] at h
 |n+1,ds,0,h=>by simp [qo]
 |n+1,ds,i+1,h=>by
  simp only [qo,List.getElem_cons_succ];rw [zhs k n];simp [List.drop_drop,Nat.succ_mul,Nat.add_comm]
theorem zon {c n k cap:Nat} {vs:List Value} {ds:List D} (hds:ds.length=n*k) (hI:∀o,o<n*k->I c o) (hv:∀o,o<n*k->w.cell? ⟨c,o,none⟩=vs[o]?)
  (hlen:n*k<=vs.length) (hone:∀v∈vs,v.oneCell'=true) (hd:∀(o:Nat) v d,vs[o]?=some v->ds[o]?=some d->DRep w I v d) (hcap:n<=cap) (hmax:cap<=maxLen):
  DRep w I (.slice (some ⟨c,0,none⟩) n cap) (.isl k (qo k ds n)):=by
 have key:∀i j,i<n->j<k->i*k+j<n*k:=fun i j hi hj=>by
  have:(i+1)*k<=n*k:=Nat.mul_le_mul_right k hi;rw [Nat.succ_mul] at this;omega
 have e:n=(qo k ds n).length:=(jm k n ds).symm;have:=DRep.isl (w:=w) (I:=I) c 0 cap k (qo k ds n) (fun i j=>vs.getD (i*k+j) undef) (by rw [jm];exact hcap) hmax
  (fun i h=>by
   rw [zhs];rw [jm] at h;have:(i+1)*k<=n*k:=Nat.mul_le_mul_right k h;rw [Nat.succ_mul] at this
   simp;omega)
  (fun i j hi hj=>by
   rw [jm] at hi;have hlt:=key i j hi hj;have hv':i*k+j<vs.length:=by omega
   refine ⟨by simpa using hI _ hlt,?_,?_⟩
   ·rw [Nat.zero_add,hv _ hlt];simp [List.getD,hv']
   ·simp only [List.getD,List.getElem?_eq_getElem hv',Option.getD_some];exact hone _ (List.getElem_mem hv'))
  (fun i j hi hj=>by
   rw [jm] at hi;have hj':j<k:=by
    have:=hj;rw [zhs] at this;simp at this;omega
   have hlt:=key i j hi hj';have hv':i*k+j<vs.length:=by omega
   refine hd (i*k+j) _ _ ?_ ?_
   ·simp [List.getD,hv']
   ·simp only [zhs,List.getElem_take,List.getElem_drop]
    exact List.getElem?_eq_getElem (by omega))
 rw [jm] at this;exact this
theorem zns {α γ:Type} {f:α->Option γ}:∀{l:List α} {r:List γ},l.mapM f=some r->r.length=l.length/\∀(j:Nat) a,l[j]?=some a->∃b,r[j]?=some b/\f a=some b
 |[],r,h=>by simp at h;subst h;simp
 |a::l,r,h=>by
  rw [List.mapM_cons] at h;cases ha:f a with
  |none=>simp [ha] at h
  |some b=>
   cases hl:l.mapM f with
   |none=>simp [ha,hl] at h
   |some bs=>
    simp [ha,hl] at h;subst h;obtain ⟨h1,h2⟩:=zns hl;refine ⟨by simp [h1],fun j a' hj=>?_⟩;cases j with
    |zero=>simp at hj;subst hj;exact ⟨b,by simp,ha⟩
    |succ j=>simp at hj;obtain ⟨b',h3,h4⟩:=h2 j a' hj;exact ⟨b',by simpa using h3,h4⟩
end
section
variable {P:Program} {G:List (Nat × D)} {w:World} {I:Imm} {β:List Bnd} {H H':List SObj} {r:SV}
theorem zus {k n t:Nat} (h:t<n*k):t / k<n/\t % k<k/\t / k*k+t % k=t:=by
 have hk:0<k:=Nat.pos_of_ne_zero (by rintro rfl;simp at h);exact ⟨Nat.div_lt_of_lt_mul (by rwa [Nat.mul_comm] at h),Nat.mod_lt t hk,by rw [Nat.mul_comm];exact Nat.div_add_mod t k⟩
theorem zut {k n i j:Nat} (hi:i<n) (hj:j<k):i*k+j<n*k:=by
 have:(i+1)*k<=n*k:=Nat.mul_le_mul_right k hi;rw [Nat.succ_mul] at this;omega
theorem yeg {k i j:Nat} (hj:j<k):(i*k+j) / k=i/\(i*k+j) % k=j:=by
 have hk:0<k:=by omega
 constructor
 ·rw [Nat.mul_comm,Nat.mul_add_div hk,Nat.div_eq_of_lt hj];simp
 ·rw [Nat.mul_comm,Nat.mul_add_mod,Nat.mod_eq_of_lt hj]
structure Flat (w:World) (I:Imm) (k:Nat) (rows:List (List D)) (flat:List Value):Prop where
 len:flat.length=rows.length*k
 row:∀i (h:i<rows.length),(rows[i]'h).length=k
 one:∀x∈flat,x.oneCell'=true
 rep:∀i j (hi:i<rows.length) (hj:j<(rows[i]'hi).length) x,flat[i*k+j]?=some x->DRep w I x ((rows[i]'hi)[j]'hj)
theorem DRep.flatAt {b o n cap k:Nat} {rows:List (List D)} (h:DRep w I (.slice (some ⟨b,o,none⟩) n cap) (.isl k rows)):
  ∃flat,Flat w I k rows flat/\n=rows.length/\n<=cap/\cap<=maxLen/\∀t,t<rows.length*k->I b (o+t)/\w.cell? ⟨b,o+t,none⟩=flat[t]?:=by
 cases h with
 |islEmpty=>exact ⟨[],⟨by simp,fun i h=>by simp at h,fun x h=>by simp at h,fun i j h=>by simp at h⟩,rfl,Nat.le_refl _,Nat.zero_le _,fun t ht=>by simp at ht⟩
 |isl b o cap k rows V h1 h2 h3 h4 h5=>
  have hget:∀t,t<rows.length*k->((List.range (rows.length*k)).map fun t=>V (t / k) (t % k))[t]?=some (V (t / k) (t % k)):=fun t ht=>by simp [ht]
  refine ⟨(List.range (rows.length*k)).map fun t=>V (t / k) (t % k),⟨by simp,h3,?_,?_⟩,rfl,h1,h2,?_⟩
  ·intro x hx
   obtain ⟨t,ht,rfl⟩:=List.mem_map.1 hx;have ht':t<rows.length*k:=by simpa using ht
   obtain ⟨a1,a2,_⟩:=zus ht';exact (h4 _ _ a1 a2).2.2
  ·intro i j hi hj x hx
   have hj':j<k:=by rw [<-h3 i hi];exact hj
   rw [hget _ (zut hi hj'),(yeg hj').1,(yeg hj').2] at hx;cases hx;exact h5 i j hi hj
  ·intro t ht
   obtain ⟨a1,a2,a3⟩:=zus ht;have:=h4 _ _ a1 a2;rw [Nat.add_assoc,a3] at this;exact ⟨this.1,by rw [hget t ht];exact this.2.1⟩
theorem DRep.flat {v:Value} {k:Nat} {rows:List (List D)} (h:DRep w I v (.isl k rows)):
  ∃flat,Flat w I k rows flat/\(∃a cap,v= .slice a rows.length cap)/\
   ∀w':World,(∀c o,I c o->w'.cell? ⟨c,o,none⟩=w.cell? ⟨c,o,none⟩)->(Builtin.firstCells k rows.length v).run P w'= .ok flat.toArray w':=by
 cases h with
 |islNil=>exact ⟨[],⟨by simp,fun i h=>by simp at h,fun x h=>by simp at h,fun i j h=>by simp at h⟩,⟨none,0,rfl⟩,fun _ _=>rfl⟩
 |islEmpty a=>exact ⟨[],⟨by simp,fun i h=>by simp at h,fun x h=>by simp at h,fun i j h=>by simp at h⟩,⟨_,0,rfl⟩,fun _ _=>by simp [Builtin.firstCells,loadCells];rfl⟩
 |isl b o cap k rows V h1 h2 h3 h4 h5=>
  obtain ⟨flat,hf,_,_,_,hc⟩:=DRep.flatAt (DRep.isl (w:=w) (I:=I) b o cap k rows V h1 h2 h3 h4 h5);refine ⟨flat,hf,⟨_,cap,rfl⟩,fun w' hw'=>?_⟩
  have:=run_loadCells_list (P:=P) w' ⟨b,o,none⟩ flat (fun j x hx=>by
   have hlt:j<rows.length*k:=by rw [<-hf.len];exact lt_of_getElem? hx
   rw [qe,hw' _ _ (hc j hlt).1,(hc j hlt).2];exact hx)
  rw [hf.len] at this;simpa [Builtin.firstCells] using this
theorem Flat.mono {w':World} {I':Imm} {k:Nat} {rows:List (List D)} {flat:List Value} (h:Flat w I k rows flat) (hI:∀c o,I c o->I' c o)
  (hw:∀c o,I c o->w'.cell? ⟨c,o,none⟩=w.cell? ⟨c,o,none⟩):Flat w' I' k rows flat:=
 ⟨h.len,h.row,h.one,fun i j hi hj x hx=>(h.rep i j hi hj x hx).mono hI hw⟩
theorem Flat.append {k:Nat} {rows new:List (List D)} {A B:List Value} (h:Flat w I k rows A) (h':Flat w I k new B):Flat w I k (rows++new) (A++B) where
 len:=by simp [h.len,h'.len,Nat.add_mul]
 row i hi:=by
  rcases Nat.lt_or_ge i rows.length with hlt|hge
  ·rw [List.getElem_append_left hlt];exact h.row i hlt
  ·rw [List.getElem_append_right hge];exact h'.row _ (by simp at hi;omega)
 one x hx:=by
  rcases List.mem_append.1 hx with hx|hx
  ·exact h.one x hx
  ·exact h'.one x hx
 rep i j hi hj x hx:=by
  rcases Nat.lt_or_ge i rows.length with hlt|hge
  ·have hj':j<(rows[i]'hlt).length:=by rw [List.getElem_append_left hlt] at hj;exact hj
   have hjk:j<k:=by rw [<-h.row i hlt];exact hj'
   rw [List.getElem?_append_left (by rw [h.len];exact zut hlt hjk)] at hx;have:=h.rep i j hlt hj' x hx;simpa [List.getElem_append_left hlt] using this
  ·have hlt:i-rows.length<new.length:=by simp at hi;omega
   have hj':j<(new[i-rows.length]'hlt).length:=by rw [List.getElem_append_right hge] at hj;exact hj
   have hge':A.length<=i*k+j:=by rw [h.len];have:=Nat.mul_le_mul_right k hge;omega
   rw [List.getElem?_append_right hge',h.len] at hx;have e:i*k+j-rows.length*k=(i-rows.length)*k+j:=by
    rw [Nat.sub_mul];have:=Nat.mul_le_mul_right k hge;omega
   rw [e] at hx;have:=h'.rep _ j hlt hj' x hx;simpa [List.getElem_append_right hge] using this
theorem Flat.drep {c n cap k:Nat} {rows:List (List D)} {flat:List Value} (h:Flat w I k rows flat) (hn:n=rows.length) (hc:∀t,t<n*k->I c t/\w.cell? ⟨c,t,none⟩=flat[t]?)
  (hcap:n<=cap) (hmax:cap<=maxLen):DRep w I (.slice (some ⟨c,0,none⟩) n cap) (.isl k rows):=by
 subst hn;refine DRep.isl (w:=w) (I:=I) c 0 cap k rows (fun i j=>flat.getD (i*k+j) undef) hcap hmax h.row (fun i j hi hj=>?_) (fun i j hi hj=>?_)
 ·have hlt:=zut hi hj
  have hfl:i*k+j<flat.length:=by rw [h.len];exact hlt
  rw [Nat.zero_add];refine ⟨(hc _ hlt).1,?_,?_⟩
  ·rw [(hc _ hlt).2];simp [List.getD,hfl]
  ·simp only [List.getD,List.getElem?_eq_getElem hfl,Option.getD_some];exact h.one _ (List.getElem_mem hfl)
 ·have hjk:j<k:=by rw [<-h.row i hi];exact hj
  have hfl:i*k+j<flat.length:=by rw [h.len];exact zut hi hjk
  exact h.rep i j hi hj _ (by simp [List.getD,hfl])
def zoo (k:Nat):Nat->List (Nat × SV)->Option (List (List D))
 |_,[]=>some []
 |i,(j,s)::r=>if j=i then match s.cells with
   |some cs=>if cs.length=k/\cs.all SV.one=true then match cs.mapM SV.toD with
     |some ds=>match zoo k (i+1) r with
      |some rs=>some (ds::rs)
      |none=>none
     |none=>none
    else none
   |none=>none
  else none
def ww (P:Program) (t:TypeId) (len:Nat) (parts:List (Nat × SV)) (H:List SObj):Option (SV × List SObj):=
 match P.underlying t with
 |some (.slice e)=>match xe P e,jx P e with
  |some k,some _=>
   if len*k>2 ^ 24\/k=0 then none
   else if len=0 then (if parts.isEmpty then some (.asl H.length k [],H++[.tok k 0]) else none)
   else match zoo k 0 parts with
    |some rows=>if parts.length=len then some (.imm (.isl k rows),H) else none
    |none=>none
  |_,_=>none
 |_=>none
theorem Flat.nil {k:Nat}:Flat w I k [] []:=⟨by simp,fun i h=>by simp at h,fun x h=>by simp at h,fun i j h=>by simp at h⟩
theorem Flat.single {k:Nat} {cs:List SV} {ds:List D} {vs:List Value} (hr:Reps w I β vs cs) (hk:cs.length=k) (hone:cs.all SV.one=true) (hds:cs.mapM SV.toD=some ds):Flat w I k [ds] vs:=by
 obtain ⟨hdl,hdg⟩:=zns hds;refine ⟨by simp [hr.len,hk],fun i h=>?_,fun x hx=>?_,fun i j hi hj x hx=>?_⟩
 ·have:i=0:=by simpa using h
  subst this;simp [hdl,hk]
 ·obtain ⟨j,hj,rfl⟩:=List.mem_iff_getElem.1 hx
  have hj':j<cs.length:=by rw [<-hr.len];exact hj
  exact (hr.rep j _ _ (List.getElem?_eq_getElem hj) (List.getElem?_eq_getElem hj')).oneCell (List.all_eq_true.1 hone _ (List.getElem_mem hj'))
 ·have:i=0:=by simpa using hi
  subst this;simp only [Nat.zero_mul,Nat.zero_add] at hx;simp only [List.getElem_cons_zero] at hj ⊢;have hjc:j<cs.length:=by omega
  obtain ⟨d,hd,hs⟩:=hdg j _ (List.getElem?_eq_getElem hjc);have e:ds[j]=d:=by simpa [List.getElem?_eq_getElem hj] using hd
  rw [e];exact (hr.rep j x _ hx (List.getElem?_eq_getElem hjc)).toD hs
theorem zuu {k:Nat}:∀{ss:List (Nat × SV)} {ps:List (Nat × Value)} {i:Nat} {rows:List (List D)} {vs:Array Value},zoo k i ss=some rows->RepParts w I β ps ss->vs.size=(i+ss.length)*k->
  ∃(vs':Array Value) (B:List Value),Instr.fill (fun i=>some (i*k,k)) vs ps=some vs'/\vs'.toList=vs.toList.take (i*k)++B/\Flat w I k rows B/\rows.length=ss.length
 |[],ps,i,rows,vs,h,hp,hs=>by
  have:ps=[]:=by have:=hp.idx;simpa using this
  subst this;simp [zoo] at h;subst h;exact ⟨vs,[],rfl,by simp at hs;rw [List.append_nil, <-hs,List.take_of_length_le (by simp)],.nil,rfl⟩
 |(i',s)::ss,ps,i,rows,vs,h,hp,hs=>by
  cases ps with
  |nil=>have:=hp.idx;simp at this
  |cons p ps=>
   obtain ⟨j,v⟩:=p;obtain ⟨hj,hv,hp'⟩:=hp.tail;simp only at hj hv;simp only [zoo] at h;split at h<;>first|(cases h;done)|skip
   rename_i hii
   subst hj;subst hii;split at h<;>first|(cases h;done)|skip
   rename_i cs hcs
   split at h<;>first|(cases h;done)|skip
   rename_i hc
   obtain ⟨hck,hone⟩:=hc;split at h<;>first|(cases h;done)|skip
   rename_i ds hds
   split at h<;>first|(cases h;done)|skip
   rename_i rs hrs
   cases h;have hcr:=hv.cellsReps hcs;have hsz:v.cells.size=k:=by have:=hcr.len;simp at this;omega
   have hle:j*k+k<=vs.size:=by rw [hs, <-Nat.succ_mul];exact Nat.mul_le_mul_right k (by simp)
   have e:=zol (j*k) v.cells.toList 0 vs (by simp;omega);have e2:v.cells.zipIdx.foldl (fun cs (x:Value × Nat)=>cs.setIfInBounds (j*k+x.2) x.1) vs=(v.cells.toList.zipIdx 0).foldl (fun cs (x:Value × Nat)=>cs.setIfInBounds (j*k+x.2) x.1) vs:=by
    rw [<-Array.foldl_toList];simp
   generalize hvs1:v.cells.zipIdx.foldl (fun cs (x:Value × Nat)=>cs.setIfInBounds (j*k+x.2) x.1) vs=vs1;rw [hvs1] at e2;rw [<-e2] at e;simp only [Nat.add_zero,Array.length_toList,hsz] at e;have hsz1:vs1.size=(j+1+ss.length)*k:=by
    have:vs1.toList.length=vs.size:=by rw [e];simp;omega
    rw [show j+1+ss.length=j+(ss.length+1) by omega];simpa [hs] using this
   obtain ⟨vs',B,f1,f2,f3,f4⟩:=zuu hrs hp' hsz1;refine ⟨vs',v.cells.toList++B,?_,?_,?_,by simp [f4]⟩
   ·simp only [Instr.fill]
    rw [if_neg (by simp;omega),hvs1];exact f1
   ·rw [f2,e,Nat.succ_mul]
    rw [List.take_left' (by simp [hsz];omega),List.append_assoc]
   ·exact (Flat.single hcr hck hone hds).append f3
theorem zop {t:TypeId} {len:Nat} {ss:List (Nat × SV)} {ps:Array (Nat × Value)} {r:SV} {H H':List SObj} (h:ww P t len ss H=some (r,H')) (hH:HeapOK G w I β H) (hp:RepParts w I β ps.toList ss):
  ∃u w' I' β',(Instr.buildSlice t len ps).run P w= .ok u w'/\Rep w' I' β' u r/\HeapOK G w' I' β' H'/\Ext H.length w I β H w' I' β' H':=by
 unfold ww at h;split at h<;>first|(cases h;done)|skip
 rename_i e hu
 split at h<;>first|(cases h;done)|skip
 rename_i k z hk hz
 split at h
 ·cases h
 rename_i hbig
 split at h
 ·rename_i h0
  split at h
  ·rename_i hemp
   cases h;subst h0;have hps:ps=#[]:=by
    have:=hp.idx;simp at hemp;subst hemp;simpa using this
   subst hps;have hrun:(Instr.buildSlice t 0 #[]).run P w= .ok (.slice (some ⟨w.heap.size,0,none⟩) 0 0) (w.alloc (.cells #[] e)):=by
    simp [Instr.buildSlice,run_underlying hu,ys hk,Instr.fill,newRow]
    congr 2
    apply Array.ext'
    simp
   obtain ⟨h1,h2⟩:=hH.allocTok (m:=H.length) (k:=k) (n:=0) (cap:=0) (vs:=#[]) (T:=e) (by simp) (Nat.le_refl _) (by unfold maxLen;omega);refine ⟨_,_,_,_,hrun,?_,h1,h2⟩;refine .asl H.length k [] _ _ 0 ?_ (by rw [<-hH.len];simp) ⟨_,0,rfl⟩ (Nat.le_refl _) (fun _=>rfl);exact DRep.isl _ 0 0 k [] (fun _ _=>undef) (Nat.le_refl _) (by unfold maxLen;omega) (fun i h=>by simp at h) (fun i j h=>by simp at h) (fun i j h=>by simp at h)
  ·cases h
 ·rename_i h0
  split at h<;>first|(cases h;done)|skip
  rename_i rows hf
  split at h<;>first|(cases h;done)|skip
  rename_i hpl
  cases h;have hz0:¬len*k=0:=by
   intro hc;rcases Nat.mul_eq_zero.1 hc with hc|hc
   ·exact h0 hc
   ·exact hbig (.inr hc)
  have hlk:len<=len*k:=Nat.le_mul_of_pos_right len (Nat.pos_of_ne_zero fun h=>hbig (.inr h));have hb24:¬len*k>2 ^ 24:=fun h=>hbig (.inl h)
  obtain ⟨vs',B,h1,h2,h3,h4⟩:=zuu (vs:=(Array.range (len*k)).map (z.cells[· % z.cells.size]!)) hf hp (by simp [hpl]);simp only [Nat.zero_mul,List.take_zero,List.nil_append] at h2;obtain ⟨h5,h6⟩:=hH.allocImm (m:=H.length) (.cells vs' e) (len*k);have hrun:(Instr.buildSlice t len ps).run P w= .ok (.slice (some ⟨w.heap.size,0,none⟩) len len) (w.alloc (.cells vs' e)):=by
   simp only [Instr.buildSlice,Sem.run_bind,run_underlying hu,Result.andThen_ok,ys hk];rw [if_neg (fun h=>hbig (.inl h)),if_neg hz0];simp only [Sem.run_pure,Sem.run_bind,Result.andThen_ok,zae hz,h1,newRow,run_newObj];rfl
  refine ⟨_,_,_,_,hrun,.imm ?_,h5,h6⟩;refine (h3.mono h6.imm h6.cell).drep (by omega) (fun o ho=>⟨.inr ⟨rfl,ho⟩,?_⟩) (Nat.le_refl _) (by unfold maxLen;omega);rw [cell_of_heap (yq _), <-h2];simp
theorem zxc (need:Nat):∀(n c:Nat),c<=2*need+192->Builtin.growBy need n c<=2*need+192
 |0,c,h=>h
 |n+1,c,h=>by
  simp only [Builtin.growBy];split
  ·exact h
  ·refine zxc need n _ ?_;omega
theorem zgl {need cap:Nat} (h:¬need<=cap):Builtin.nextslicecap need cap<=2*need+192:=by
 unfold Builtin.nextslicecap;split
 ·omega
 ·split
  ·omega
  ·exact zxc need 4 cap (by omega)
section
variable {sT xT ty e:TypeId} {e':TypeId} {k by_:Nat} {z:Value}
variable (hu:P.underlying sT=some (.slice e)) (hx:P.underlying xT=some (.slice e')) (hk:xe P e=some k) (hby:js P e=some by_) (hz:jx P e=some z)
include hu hx hk
theorem jb {n cap m c:Nat} {xv:Value} {B:List Value} {cur:Array Value} {T:TypeId} (hxl:∃a c',xv= .slice a m c') (hxc:(Builtin.firstCells k m xv).run P w= .ok B.toArray w)
  (hfit:n+m<=cap) (hg:w.heap[c]?=some (.cells cur T (0,0))) (hB:B.length=m*k) (hone:∀x∈B,x.oneCell'=true) (hcur:cur.size=cap*k):
  (Builtin.append_ #[sT,xT] ty #[.slice (some ⟨c,0,none⟩) n cap,xv]).run P w=
   .ok (.slice (some ⟨c,0,none⟩) (n+m) cap) (w.setRow c (cur.toList.take (n*k)++B++cur.toList.drop (n*k+m*k)).toArray):=by
 obtain ⟨a,c',rfl⟩:=hxl;have hle:n*k+m*k<=cur.size:=by rw [hcur, <-Nat.add_mul];exact Nat.mul_le_mul_right k hfit
 have hst:=run_storeCells_at (P:=P) c (n*k) T B 0 cur w hg (by rw [hB];omega) hone;simp only [Nat.add_zero,hB] at hst;simp only [Builtin.append_,Sem.run_bind,run_underlying hu,Result.andThen_ok,ys hk,run_underlying hx,Sem.run_pure,Bool.false_eq_true,if_false,Builtin.lenOf,hfit,if_true,Bool.not_false,hxc,qe,Nat.zero_add,hst,List.getElem?_toArray,List.getElem?_cons_zero,List.getElem?_cons_succ]
theorem zgm {ty:TypeId} {xv:Value} (hxl:∃a c',xv= .slice a 0 c') (hxc:(Builtin.firstCells k 0 xv).run P w= .ok #[] w):
  (Builtin.append_ #[sT,xT] ty #[.slice none 0 0,xv]).run P w= .ok (.slice none 0 0) w:=by
 obtain ⟨a,c',rfl⟩:=hxl;simp only [Builtin.append_,Sem.run_bind,run_underlying hu,Result.andThen_ok,ys hk,run_underlying hx,Sem.run_pure,Bool.false_eq_true,if_false,Builtin.lenOf,Nat.add_zero,Nat.le_refl,if_true,Bool.not_false,hxc,List.getElem?_toArray,List.getElem?_cons_zero,List.getElem?_cons_succ]
include hby hz
theorem zcc {ty:TypeId} {n cap m:Nat} {base:Option Addr} {xv:Value} {A B:List Value} (hxl:∃a c',xv= .slice a m c') (hxc:∀w':World,w'.heap=w.heap->(Builtin.firstCells k m xv).run P w'= .ok B.toArray w')
  (hsc:∀w':World,w'.heap=w.heap->(Builtin.firstCells k n (.slice base n cap)).run P w'= .ok A.toArray w') (hgrow:¬n+m<=cap) (hsmall:n+m<=4611686018427387904) (hcap:(2*(n+m)+192)*by_<=281474976710656):
  ∃newCap rest,n+m<=newCap/\newCap<=maxLen/\rest=Builtin.zeroCells z.cells (newCap-(n+m))/\
   (Builtin.append_ #[sT,xT] ty #[.slice base n cap,xv]).run P w= .ok (.slice (some ⟨w.heap.size,0,none⟩) (n+m) newCap) (w.drew.alloc (.cells (A.toArray++B.toArray++rest) e)):=by
 obtain ⟨a,c',rfl⟩:=hxl;have hinfo:(typeInfo e).run P w= .ok ((P.info? e).getD default) w/\((P.info? e).getD default).bytes=by_:=by
  unfold js at hby;cases hi:P.info? e with
  |none=>simp [hi] at hby
  |some i=>simp [hi] at hby;simp [typeInfo,hi,hby]
 have hinfo2:(typeInfo e).run P w.drew= .ok ((P.info? e).getD default) w.drew:=by
  unfold js at hby;cases hi:P.info? e with
  |none=>simp [hi] at hby
  |some i=>simp [typeInfo,hi]
 have hmax:¬((n+m:Nat):Int)>IntKind.i64.max:=by
  have:IntKind.i64.max=9223372036854775807:=by decide
  rw [this];omega
 have hcapb:¬Builtin.nextslicecap (n+m) cap*by_>2 ^ 48:=by
  have h1:=zgl hgrow;have h2:Builtin.nextslicecap (n+m) cap*by_<=(2*(n+m)+192)*by_:=Nat.mul_le_mul_right _ h1;omega
 refine ⟨Question.cut (.appendCap (n+m) cap e) (w.tape w.drawn (.appendCap (n+m) cap e)),_,?_,?_,rfl,?_⟩
 ·simp [Question.cut]
 ·unfold maxLen
  simp only [Question.cut];have:w.tape w.drawn (.appendCap (n+m) cap e) % (2 ^ 63-(n+m))<2 ^ 63-(n+m):=Nat.mod_lt _ (by omega);omega
 ·have hx':=hxc w.drew rfl
  have hs':=hsc w.drew rfl
  simp only [Builtin.append_,Sem.run_bind,run_underlying hu,Result.andThen_ok,ys hk,run_underlying hx,Sem.run_pure,Builtin.lenOf,hgrow,Bool.false_eq_true,if_false,
   Bool.not_false,if_true,hinfo.1,List.getElem?_toArray,List.getElem?_cons_zero,List.getElem?_cons_succ,false_or]
  rw [if_neg (fun h=>hmax h.1)];simp only [Sem.run_bind,Result.andThen_ok,hinfo.1,hinfo.2];rw [if_neg hcapb];simp only [Sem.run_bind,Sem.run_pure,run_choose,Question.forced,Bool.false_eq_true,if_false,World.drew_eq,Result.andThen_ok,hinfo2,run_askRoom,hs',hx',zae hz,newRow,run_newObj,World.alloc_eq,World.size_drew]
theorem zgc {ty:TypeId} {n cap m:Nat} {base:Option Addr} {xv:Value} {A B:List Value} (hxl:∃a c',xv= .slice a m c') (hxc:∀w':World,w'.heap=w.heap->(Builtin.firstCells k m xv).run P w'= .ok B.toArray w')
  (hsc:∀w':World,w'.heap=w.heap->(Builtin.firstCells k n (.slice base n cap)).run P w'= .ok A.toArray w') (hgrow:¬n+m<=cap) (hsmall:n+m<=1073741824) (hby':by_<=65536):
  ∃newCap rest,n+m<=newCap/\newCap<=maxLen/\rest=Builtin.zeroCells z.cells (newCap-(n+m))/\
   (Builtin.append_ #[sT,xT] ty #[.slice base n cap,xv]).run P w= .ok (.slice (some ⟨w.heap.size,0,none⟩) (n+m) newCap) (w.drew.alloc (.cells (A.toArray++B.toArray++rest) e)):=by
 have h2:(2*(n+m)+192)*by_<=(2*1073741824+192)*65536:=Nat.mul_le_mul (by omega) hby';exact zcc hu hx hk hby hz hxl hxc hsc hgrow (by omega) (by omega)
end
end
section
variable {P:Program} {G:List (Nat × D)} {w:World} {I:Imm} {β:List Bnd} {H H':List SObj} {r:SV}
def zdf (k:Nat) (s:SV) (new:List (List D)) (H:List SObj):Option (SV × List SObj):=
 match s with
 | .asl b k0 rows=>match H[b]? with
  |some (.tok k1 n)=>if k0=k/\k1=k/\n=rows.length/\n+new.length<=1073741824 then some (.asl b k (rows++new),H.set b (.tok k (n+new.length))) else none
  |_=>none
 | .imm (.val (.slice none 0 0))=>if new.length<=1073741824 then some (.asl H.length k new,H++[.tok k new.length]) else none
 |_=>none
def zln (P:Program) (sT xT:TypeId) (s x:SV) (H:List SObj):Option (SV × List SObj):=
 match P.underlying sT,P.underlying xT,x.rows with
 |some (.slice e),some (.slice _),some (k',new)=>match xe P e,js P e,jx P e with
  |some k,some by_,some z=>if by_<=65536/\z.cells.size=k/\(k'=k\/new.isEmpty=true) then zdf k s new H else none
  |_,_,_=>none
 |_,_,_=>none
theorem set_self {α:Type} {l:List α} {b:Nat} {x:α} (h:l[b]?=some x):l.set b x=l:=by
 apply List.ext_getElem?
 intro j
 by_cases e:j=b
 ·subst e;rw [List.getElem?_set_self (lt_of_getElem? h),h]
 ·rw [List.getElem?_set_ne (Ne.symm e)]
theorem DRep.emptyAny {v:Value} {k k':Nat} (h:DRep w I v (.isl k [])):DRep w I v (.isl k' []):=by
 cases h with
 |islNil=>exact .islNil k'
 |islEmpty a=>exact .islEmpty a k'
 |isl b o cap _ rows V h1 h2=>exact DRep.isl b o cap k' [] V h1 h2 (fun i h=>by simp at h) (fun i j h=>by simp at h) (fun i j h=>by simp at h)
theorem zij {sT xT ty e e' : TypeId} {k by_ : Nat} {z : Value} {xv : Value} {new : List (List D)}
    (hu : P.underlying sT = some (.slice e)) (hxu : P.underlying xT = some (.slice e')) (hk : xe P e = some k) (hby : js P e = some by_) (hz : jx P e = some z)
    (hzk : z.cells.size = k) (hxl : ∃ a c', xv = .slice a new.length c') :
    ∀ (w : World) (I : Imm) (β : List Bnd) (H : List SObj) (b n : Nat) (rows : List (List D)) (sv : Value) (B : List Value), HeapOK G w I β H -> Rep w I β sv (.asl b k rows) -> H[b]? = some (.tok k n) -> n = rows.length ->
      n + new.length <= 4611686018427387904 -> (2 * (n + new.length) + 192) * by_ <= 281474976710656 -> Flat w I k new B -> (∀ w' : World, (∀ c o, I c o -> w'.cell? ⟨c, o, none⟩ = w.cell? ⟨c, o, none⟩) -> (Builtin.firstCells k new.length xv).run P w' = .ok B.toArray w') ->
      ∃ u w' I' β', (Builtin.append_ #[sT, xT] ty #[sv, xv]).run P w = .ok u w' /\ Rep w' I' β' u (.asl b k (rows ++ new)) /\ HeapOK G w' I' β' (H.set b (.tok k (n + new.length))) /\
        ∀ m, Ext m w I β H w' I' β' (H.set b (.tok k (n + new.length))) := by
  intro w I β H b n rows sv B hH hs hb hn hsmall hcap hB hxc
  cases hs with
  | asl _ _ _ _ u n' hd hbu hus hle heq =>
  obtain ⟨ua, ucap, rfl⟩ := hus
  have hob := hH.obj b _ _ hb hbu
  have hn' : n' = n := by
    rcases hob with ⟨h1, h2⟩ | ⟨c, cap, vs, T, h1, _⟩
    · cases h2; exact h1.symm
    · cases h1; rfl
  subst hn'
  have hsv := heq hn.symm
  subst hsv
  have hblt := lt_of_getElem? hb
  have hbxlt := lt_of_getElem? hbu
  obtain ⟨A, hA, hsl, hsc⟩ := hd.flat (P := P)
  have hlenR : (rows ++ new).length = n' + new.length := by simp [hn]
  by_cases hm0 : new.length = 0
  · -- nothing is appended
    have hnil : new = [] := List.length_eq_zero_iff.1 hm0
    subst hnil
    have hrun : (Builtin.append_ #[sT, xT] ty #[.slice ua n' ucap, xv]).run P w = .ok (.slice ua n' ucap) w := by
      have hBn : B = [] := List.length_eq_zero_iff.1 (by rw [hB.len]; simp)
      subst hBn
      rcases hob with ⟨h1, h2⟩ | ⟨c, cap, vs, T, h1, h2, h3, h4, h5, h6⟩
      · cases h2
        exact zgm hu hxu hk hxl (by simpa using hxc w (fun _ _ _ => rfl))
      · cases h1
        have := jb (w := w) (ty := ty) hu hxu hk (n := n') (cap := ucap) (m := 0) (c := c) hxl (by simpa using hxc w (fun _ _ _ => rfl)) (by omega) h2 (by simp) (by simp) h3
        rw [this]
        have e : (vs.toList.take (n' * k) ++ [] ++ vs.toList.drop (n' * k + 0 * k)).toArray = vs := by simp
        rw [e, setRow_self w c vs T (0, 0) h2]
        simp
    refine ⟨_, w, I, β, hrun, ?_, ?_, ?_⟩
    · rw [List.append_nil]; exact .asl b k rows _ _ n' hd hbu ⟨_, _, rfl⟩ hle heq
    · rw [List.length_nil, Nat.add_zero, set_self hb]; exact hH
    · rw [List.length_nil, Nat.add_zero, set_self hb]; exact fun m => .refl
  · -- it grows, or there is room
    have grow : ¬ n' + new.length <= ucap -> (Bnd.tok (.slice ua n' ucap)).block = none \/ True ->
        ∃ u w' I' β', (Builtin.append_ #[sT, xT] ty #[.slice ua n' ucap, xv]).run P w = .ok u w' /\ Rep w' I' β' u (.asl b k (rows ++ new)) /\ HeapOK G w' I' β' (H.set b (.tok k (n' + new.length))) /\
          ∀ m, Ext m w I β H w' I' β' (H.set b (.tok k (n' + new.length))) := by
      intro hg _
      obtain ⟨newCap, rest, hc1, hc2, hrest, hrun⟩ := zcc (w := w) (ty := ty) hu hxu hk hby hz (base := ua) (n := n') (cap := ucap) (A := A) (B := B) hxl (fun w' hw' => hxc w' (fun c o _ => by simp [World.cell?, hw']))
        (fun w' hw' => by have := hsc w' (fun c o _ => by simp [World.cell?, hw']); rw [<- hn] at this; exact this) hg hsmall hcap
      have hAs : A.length = n' * k := by rw [hA.len, hn]
      have hBs : B.length = new.length * k := hB.len
      have hrs : rest.size = (newCap - (n' + new.length)) * k := by rw [hrest]; simp [Builtin.zeroCells, hzk]
      have hvs : (A.toArray ++ B.toArray ++ rest).size = newCap * k := by
        simp only [Array.size_append, List.size_toArray, hAs, hBs, hrs]
        rw [<- Nat.add_mul, <- Nat.add_mul]; congr 1; omega
      have hsize : w.drew.heap.size = w.heap.size := rfl
      have hnewblk : (w.drew.alloc (.cells (A.toArray ++ B.toArray ++ rest) e)).heap[w.heap.size]? = some (.cells (A.toArray ++ B.toArray ++ rest) e (0, 0)) := yq (w := w.drew) _
      have hold : ∀ c, c < w.heap.size -> (w.drew.alloc (.cells (A.toArray ++ B.toArray ++ rest) e)).heap[c]? = w.heap[c]? := fun c hc => by
        show (w.heap.push _)[c]? = _
        rw [Array.getElem?_push, if_neg (by omega)]
      have hcell : ∀ c o, I c o -> (w.drew.alloc (.cells (A.toArray ++ B.toArray ++ rest) e)).cell? ⟨c, o, none⟩ = w.cell? ⟨c, o, none⟩ := fun c o hc => ye (hold c (hH.inI c o hc)) o
      have hIm : ∀ c o, I c o -> (I.plus w.heap.size ((n' + new.length) * k)) c o := fun _ _ h => .inl h
      have hmv := fun m => hH.moveTok (m := m) (n' := n' + new.length) (u' := .slice (some ⟨w.heap.size, 0, none⟩) (n' + new.length) newCap) (w' := w.drew.alloc (.cells (A.toArray ++ B.toArray ++ rest) e)) (I' := I.plus w.heap.size ((n' + new.length) * k)) hb hbu ⟨_, _, _, _, rfl, rfl⟩ (by omega)
        (by simp) (fun c hc _ => hold c hc) hcell hIm
        (by rintro c o (hi | ⟨rfl, _⟩)
            · exact .inl hi
            · exact .inr rfl)
        (by rintro c o (hi | ⟨rfl, _⟩)
            · have := hH.inI c o hi; simp; omega
            · simp)
        (fun c hc => by cases hc; exact .inr (Nat.le_refl _))
        (.inr ⟨w.heap.size, newCap, _, e, rfl, hnewblk, hvs, hc1, hc2, fun o ho => by
          rintro (hi | ⟨_, hi⟩)
          · have := hH.inI _ o hi; omega
          · omega⟩)
      refine ⟨_, _, _, _, hrun, ?_, (hmv 0).1, fun m => (hmv m).2⟩
      refine .asl b k (rows ++ new) _ _ (n' + new.length) ?_ (List.getElem?_set_self hbxlt) ⟨_, _, rfl⟩ (by omega) (fun _ => rfl)
      refine ((hA.mono hIm hcell).append (hB.mono hIm hcell)).drep hlenR.symm (fun t ht => ⟨.inr ⟨rfl, ht⟩, ?_⟩) hc1 hc2
      rw [cell_of_heap hnewblk]
      have : t < A.length + B.length := by rw [hAs, hBs, <- Nat.add_mul]; exact ht
      rw [Array.getElem?_append_left (by simpa using this)]
      simp
    rcases hob with ⟨h1, h2⟩ | ⟨c, cap, vs, T, h1, h2, h3, h4, h5, h6⟩
    · cases h2
      exact grow (by omega) (.inr trivial)
    · cases h1
      by_cases hfit : n' + new.length <= ucap
      · have hrun := jb (w := w) (ty := ty) hu hxu hk (n := n') (cap := ucap) (m := new.length) (c := c) hxl (hxc w (fun _ _ _ => rfl)) hfit h2 hB.len hB.one h3
        have hBs : B.length = new.length * k := hB.len
        obtain ⟨A', hA', _, _, _, hcells⟩ := hd.flatAt
        have hAs : A'.length = n' * k := by rw [hA'.len, hn]
        have hle2 : n' * k + new.length * k <= vs.size := by rw [h3, <- Nat.add_mul]; exact Nat.mul_le_mul_right k hfit
        generalize hW : w.setRow c (vs.toList.take (n' * k) ++ B ++ vs.toList.drop (n' * k + new.length * k)).toArray = W at hrun
        have hnb : W.heap[c]? = some (.cells (vs.toList.take (n' * k) ++ B ++ vs.toList.drop (n' * k + new.length * k)).toArray T (0, 0)) := by rw [<- hW]; exact setRow_heap w c vs _ T _ h2
        have hother : ∀ c', c' ≠ c -> W.heap[c']? = w.heap[c']? := by
          intro c' hne
          rw [<- hW]; simp [World.setRow, Array.getElem?_modify, Ne.symm hne]
        have hsz : W.heap.size = w.heap.size := by rw [<- hW]; simp [World.setRow]
        have hlow : ∀ o, o < n' * k -> W.cell? ⟨c, o, none⟩ = w.cell? ⟨c, o, none⟩ := by
          intro o ho
          rw [cell_of_heap hnb, cell_of_heap h2]
          simp only [List.getElem?_toArray, List.append_assoc]
          rw [List.getElem?_append_left (by simp; omega), List.getElem?_take, if_pos ho]
          simp
        have hcell : ∀ c' o, I c' o -> W.cell? ⟨c', o, none⟩ = w.cell? ⟨c', o, none⟩ := by
          intro c' o hi
          by_cases e : c' = c
          · subst e
            exact hlow o (Nat.lt_of_not_le fun h => h6 o h hi)
          · exact ye (hother c' e) o
        have hIm : ∀ c' o, I c' o -> (fun b' o => I b' o \/ (b' = c /\ n' * k <= o /\ o < (n' + new.length) * k)) c' o := fun _ _ h => .inl h
        have hmv := fun m => hH.moveTok (m := m) (n' := n' + new.length) (u' := .slice (some ⟨c, 0, none⟩) (n' + new.length) ucap) (w' := W) (I' := fun b' o => I b' o \/ (b' = c /\ n' * k <= o /\ o < (n' + new.length) * k)) hb hbu ⟨_, _, _, _, rfl, rfl⟩ (by omega)
          (by omega) (fun c' _ hne => hother c' (fun e => hne (by rw [e]; rfl))) hcell hIm
          (by rintro c' o (hi | ⟨rfl, _⟩)
              · exact .inl hi
              · exact .inr rfl)
          (by rintro c' o (hi | ⟨rfl, _⟩)
              · rw [hsz]; exact hH.inI c' o hi
              · rw [hsz]; exact xw h2)
          (fun c' hc => by cases hc; exact .inl rfl)
          (.inr ⟨c, ucap, _, T, rfl, hnb, by simp only [List.size_toArray, List.length_append, List.length_take, List.length_drop, Array.length_toList, hBs]; omega, hfit, h5, fun o ho => by
            rintro (hi | ⟨_, _, hi⟩)
            · exact h6 o (Nat.le_trans (Nat.mul_le_mul_right k (Nat.le_add_right _ _)) ho) hi
            · omega⟩) (by rw [<- hW]; exact ⟨rfl, rfl⟩)
        refine ⟨_, W, _, _, hrun, ?_, (hmv 0).1, fun m => (hmv m).2⟩
        refine .asl b k (rows ++ new) _ _ (n' + new.length) ?_ (List.getElem?_set_self hbxlt) ⟨_, _, rfl⟩ (by omega) (fun _ => rfl)
        refine ((hA'.mono hIm hcell).append (hB.mono hIm hcell)).drep hlenR.symm (fun t ht => ?_) hfit h5
        rcases Nat.lt_or_ge t (n' * k) with hlt | hge
        · have := hcells t (by rw [<- hn]; exact hlt)
          rw [Nat.zero_add] at this
          exact ⟨.inl this.1, by rw [hlow t hlt, this.2, List.getElem?_append_left (by omega)]⟩
        · refine ⟨.inr ⟨rfl, hge, ht⟩, ?_⟩
          rw [cell_of_heap hnb]
          have hlt2 : t - n' * k < B.length := by rw [hBs]; rw [Nat.add_mul] at ht; omega
          rw [List.getElem?_append_right (by omega), hAs]
          simp only [List.getElem?_toArray, List.append_assoc]
          have hlt3 : (List.take (n' * k) vs.toList).length = n' * k := by simp; omega
          rw [List.getElem?_append_right (by omega), hlt3, List.getElem?_append_left hlt2]
      · exact grow hfit (.inr trivial)
theorem zuv {sT xT ty e e':TypeId} {k by_:Nat} {z:Value} {s:SV} {sv xv:Value} {new:List (List D)}
  (hu:P.underlying sT=some (.slice e)) (hxu:P.underlying xT=some (.slice e')) (hk:xe P e=some k) (hby:js P e=some by_) (hz:jx P e=some z)
  (hby':by_<=65536) (hzk:z.cells.size=k) (h:zdf k s new H=some (r,H')) (hH:HeapOK G w I β H) (hs:Rep w I β sv s) (hx:DRep w I xv (.isl k new)):
  ∃u w' I' β',(Builtin.append_ #[sT,xT] ty #[sv,xv]).run P w= .ok u w'/\Rep w' I' β' u r/\HeapOK G w' I' β' H'/\Ext H.length w I β H w' I' β' H':=by
 obtain ⟨B,hB,hxl,hxc⟩:=hx.flat (P:=P);have hcap:∀n,n+new.length<=1073741824->(2*(n+new.length)+192)*by_<=281474976710656:=fun n h=>by
  have h2:(2*(n+new.length)+192)*by_<=(2*1073741824+192)*65536:=Nat.mul_le_mul (by omega) hby';omega
 unfold zdf at h;split at h<;>first|(cases h;done)|skip
 ·rename_i b k0 rows
  split at h<;>first|(cases h;done)|skip
  rename_i k1 n hb
  split at h<;>first|(cases h;done)|skip
  rename_i hc
  obtain ⟨rfl,rfl,hn,hsm⟩:=hc;cases h;obtain ⟨u,w',I',β',h1,h2,h3,h4⟩:=zij (ty:=ty) hu hxu hk hby hz hzk hxl w I β H b n rows sv B hH hs hb hn (by omega) (hcap n hsm) hB hxc;exact ⟨u,w',I',β',h1,h2,h3,h4 _⟩
 ·split at h<;>first|(cases h;done)|skip
  rename_i hsm
  cases h;cases hs with
  |imm hs=>
  cases hs with
  |val _=>
  have hobj:ObjOK w I (β++[.tok (.slice none 0 0)]) (.tok k 0) (.tok (.slice none 0 0)):=.inl ⟨rfl,rfl⟩;have hp:=hH.push hobj (fun b c hc=>by cases hc);have hrep:Rep w I (β++[.tok (.slice none 0 0)]) (.slice none 0 0) (.asl H.length k []):=
   .asl H.length k [] _ _ 0 (.islNil k) (by rw [<-hH.len];simp) ⟨_,_,rfl⟩ (Nat.le_refl _) (fun _=>rfl)
  obtain ⟨u,w',I',β',h1,h2,h3,h4⟩:=zij (ty:=ty) hu hxu hk hby hz hzk hxl w I _ _ H.length 0 [] _ B hp hrep (by simp) rfl (by omega) (hcap 0 (by omega)) hB hxc;have e:(H++[SObj.tok k 0]).set H.length (.tok k (0+new.length))=H++[.tok k new.length]:=by simp
  rw [e] at h3 h4;exact ⟨u,w',I',β',h1,h2,h3,(Ext.push hH (fun c hc=>by cases hc)).trans (h4 _)⟩
theorem ybb {sT xT ty:TypeId} {s x:SV} {sv xv:Value} (h:zln P sT xT s x H=some (r,H')) (hH:HeapOK G w I β H) (hs:Rep w I β sv s) (hx:Rep w I β xv x):
  ∃u w' I' β',(Builtin.append_ #[sT,xT] ty #[sv,xv]).run P w= .ok u w'/\Rep w' I' β' u r/\HeapOK G w' I' β' H'/\Ext H.length w I β H w' I' β' H':=by
 unfold zln at h;split at h<;>first|(cases h;done)|skip
 rename_i e e' k' new hu hxu hrows
 split at h<;>first|(cases h;done)|skip
 rename_i k by_ z hk hby hz
 split at h<;>first|(cases h;done)|skip
 rename_i hc
 refine zuv hu hxu hk hby hz hc.1 hc.2.1 h hH hs ?_;have hd:=hx.rows hrows;rcases hc.2.2 with rfl|he
 ·exact hd
 ·have:new=[]:=by simpa using he
  subst this;exact hd.emptyAny
end
section
variable {P:Program} {G:List (Nat × D)} {w:World} {I:Imm} {β:List Bnd} {H H':List SObj} {r:SV}
def zeo:Option SV->Nat->Option Nat
 |none,d=>some d
 |some (.imm (.val (.int _ i))),_=>if 0<=i then some i.toNat else none
 |_,_=>none
def zmm (P:Program) (t:TypeId) (x:SV) (lo hi:Option SV):Option SV:=
 match P.underlying t with
 |some .string=>match x with
  | .imm (.val (.string s))=>match zeo lo 0,zeo hi s.size with
   |some l,some h=>if l<=h/\h<=s.size then some (.imm (.val (.string (s.extract l h)))) else none
   |_,_=>none
  |_=>none
 |some (.slice e)=>match x.rows,xe P e with
  |some (k,rs),some n=>match zeo lo 0,zeo hi rs.length with
   |some l,some h=>if (k=n\/rs.isEmpty=true)/\l<=h/\h<=rs.length then some (.imm (.isl k ((rs.take h).drop l))) else none
   |_,_=>none
  |_,_=>none
 |some (.array len e)=>match x,lo,hi,xe P e with
  | .ptr b off,none,none,some _=>if len<=maxLen then some (.osl b off len) else none
  |_,_,_,_=>none
 |_=>none
theorem zcj {v:Value} {s:SV} {d y n:Nat} {c:BoundsCode} (h:zeo (some s) d=some n) (hv:Rep w I β v s) (hn:n<=y):
  (Instr.sliceBound v y c).run P w= .ok n w:=by
 unfold zeo at h;split at h<;>first|(cases h;done)|skip
 ·rename_i e;cases e
 ·rename_i k i e
  cases e;split at h<;>first|(cases h;done)|skip
  rename_i h0
  cases h;cases hv with
  |imm hv=>
   cases hv with
   |val _=>
    have:i<=(y:Int):=by omega
    simp [Instr.sliceBound,asIntOf,h0,this]
inductive OptRep (w:World) (I:Imm) (β:List Bnd):Option Value->Option SV->Prop
 |none:OptRep w I β none none
 |some {v:Value} {s:SV}:Rep w I β v s->OptRep w I β (some v) (some s)
theorem zbk {b:Bool} {len cap l h:Nat} {lo hi:Option SV} {vl vh:Option Value} (hlo:OptRep w I β vl lo) (hhi:OptRep w I β vh hi) (h1:zeo lo 0=some l) (h2:zeo hi len=some h)
  (hle:l<=h) (hlen:h<=len) (hcap:len<=cap):(Instr.sliceBounds b len cap vl vh none).run P w= .ok (l,h,cap) w:=by
 unfold Instr.sliceBounds;cases hhi with
 |none=>
  simp [zeo] at h2;subst h2;cases hlo with
  |none=>simp [zeo] at h1;simp [h1]
  |some hr=>simp [zcj h1 hr hle]
 |some hr2=>
  cases hlo with
  |none=>simp [zeo] at h1;simp [h1,zcj h2 hr2 (show h<=cap by omega)]
  |some hr=>simp [zcj h2 hr2 (show h<=cap by omega),zcj h1 hr hle]
theorem ygw {t:TypeId} {x:SV} {v:Value} {lo hi:Option SV} {vl vh:Option Value} (h:zmm P t x lo hi=some r) (hx:Rep w I β v x) (hlo:OptRep w I β vl lo) (hhi:OptRep w I β vh hi):
  ∃u,(Instr.sliceAt t v vl vh none).run P w= .ok u w/\Rep w I β u r:=by
 unfold zmm at h;split at h<;>first|(cases h;done)|skip
 ·rename_i hu
  split at h<;>first|(cases h;done)|skip
  rename_i s
  split at h<;>first|(cases h;done)|skip
  rename_i l hh h1 h2
  split at h<;>first|(cases h;done)|skip
  rename_i hc
  cases h;cases hx with
  |imm hx=>
   cases hx with
   |val _=>
    refine ⟨.string (s.extract l hh),?_,.imm (.val _)⟩;simp [Instr.sliceAt,Instr.slice,run_underlying hu,zbk (b:=false) (cap:=s.size) hlo hhi h1 h2 hc.1 hc.2 (Nat.le_refl _)]
 ·rename_i e hu
  split at h<;>first|(cases h;done)|skip
  rename_i k rs n hrs hn
  split at h<;>first|(cases h;done)|skip
  rename_i l hh h1 h2
  split at h<;>first|(cases h;done)|skip
  rename_i hc
  obtain ⟨hkn,hlh,hhl⟩:=hc;cases h;have hd:=hx.rows hrs;cases hd with
  |islNil=>
   have hl0:l=0:=by simp at hhl;omega
   have hh0:hh=0:=by simpa using hhl
   subst hl0 hh0;refine ⟨.slice none 0 0,?_,.imm (.islNil k)⟩;simp [Instr.sliceAt,Instr.slice,run_underlying hu,zbk (b:=true) (len:=0) (cap:=0) hlo hhi h1 h2 (Nat.le_refl _) (Nat.le_refl _) (Nat.le_refl _),ys hn]
  |islEmpty a=>
   have hl0:l=0:=by simp at hhl;omega
   have hh0:hh=0:=by simpa using hhl
   subst hl0 hh0;refine ⟨.slice (some a) 0 0,?_,.imm (.islEmpty a k)⟩;simp [Instr.sliceAt,Instr.slice,run_underlying hu,zbk (b:=true) (len:=0) (cap:=0) hlo hhi h1 h2 (Nat.le_refl _) (Nat.le_refl _) (Nat.le_refl _),ys hn]
  |isl b o cap k rows V a1 a2 a3 a4 a5=>
   have hlen:((rs.take hh).drop l).length=hh-l:=by simp;omega
   have hrun:(Instr.sliceAt t (.slice (some ⟨b,o,none⟩) rs.length cap) vl vh none).run P w= .ok (.slice (some (if cap=l then ⟨b,o,none⟩ else ⟨b,o+l*n,none⟩)) (hh-l) (cap-l)) w:=by
    simp [Instr.sliceAt,Instr.slice,run_underlying hu,zbk (b:=true) (cap:=cap) hlo hhi h1 h2 hlh hhl a1,ys hn,qe];split<;>rfl
   refine ⟨_,hrun,.imm ?_⟩
   by_cases hcl:cap=l
   ·rw [if_pos hcl]
    have hnil:(rs.take hh).drop l=[]:=List.length_eq_zero_iff.1 (by omega);rw [hnil,show hh-l=0 by omega];exact DRep.isl b o (cap-l) k [] (fun _ _=>undef) (Nat.zero_le _) (by omega) (fun i h=>by simp at h) (fun i j h=>by simp at h) (fun i j h=>by simp at h)
   ·rw [if_neg hcl]
    rw [show hh-l=((rs.take hh).drop l).length from hlen.symm];have hget:∀i (hi:i<((rs.take hh).drop l).length),((rs.take hh).drop l)[i]'hi=rs[l+i]'(by simp at hi;omega):=fun i hi=>by simp
    by_cases hemp:rs=[]
    ·subst hemp
     refine DRep.isl b _ (cap-l) k _ (fun _ _=>undef) (by simp) (by omega) (fun i h=>by simp at h) (fun i j h=>by simp at h) (fun i j h=>by simp at h)
    ·have hkn':k=n:=hkn.resolve_right (by simpa using hemp)
     subst hkn';refine DRep.isl b (o+l*k) (cap-l) k _ (fun i j=>V (l+i) j) (by omega) (by omega) (fun i hi=>?_) (fun i j hi hj=>?_) (fun i j hi hj=>?_)
     ·rw [hget i hi];exact a3 _ _
     ·have:=a4 (l+i) j (by simp at hi;omega) hj
      rw [Nat.add_mul, <-Nat.add_assoc] at this;exact this
     ·have hj':j<(rs[l+i]'(by simp at hi;omega)).length:=by rw [hget i hi] at hj;exact hj
      have:=a5 (l+i) j (by simp at hi;omega) hj';simpa [hget i hi] using this
 ·rename_i len e hu
  split at h<;>first|(cases h;done)|skip
  rename_i b off _ hn
  split at h<;>first|(cases h;done)|skip
  rename_i hl
  cases h;cases hlo;cases hhi;cases hx with
  |ptr _ c _ hc=>
  refine ⟨.slice (some ⟨c,off,none⟩) len len,?_,.osl _ _ _ _ _ hc (Nat.le_refl _) hl⟩;simp [Instr.sliceAt,Instr.sureAddr,run_underlying hu,Instr.sliceBounds,ys hn,qe]
def bytesOf:List SV->Option (List Int)
 |[]=>some []
 | .imm (.val (.int .u8 i))::r=>(bytesOf r).map (i:: ·)
 |_=>none
theorem zoq:∀ns:List Int,bytesOf (ns.map fun i=>.imm (.val (.int .u8 i)))=some ns
 |[]=>rfl
 |n::ns=>by simp [bytesOf,zoq ns]
theorem zjc:∀{cs:List SV} {ns:List Int},bytesOf cs=some ns->cs=ns.map fun i=>.imm (.val (.int .u8 i))
 |[],ns,h=>by cases h;rfl
 |c::cs,ns,h=>by
  unfold bytesOf at h;split at h<;>first|(cases h;done)|skip
  rename_i e
  ·cases e
  ·rename_i i r e
   cases e;cases hr:bytesOf cs with
   |none=>simp [hr] at h
   |some m=>
    simp [hr] at h;subst h;rw [zjc hr];rfl
def zbl (ns:List Int):ByteArray:=ns.foldl (fun r n=>r.push (UInt8.ofNat n.toNat)) ByteArray.empty
def zep (P:Program) (s d:TypeId) (H:List SObj) (x:SV):Option Value:=
 match P.underlying s,P.underlying d with
 |some (.slice e),some .string=>match P.underlying e with
  |some (.int .u8)=>match x with
   | .osl b 0 n=>match H[b]? with
    |some (.cells cs)=>match bytesOf cs with
     |some ns=>if n=ns.length then some (.string (zbl ns)) else none
     |none=>none
    |_=>none
   | .imm (.isl 1 (r::rows))=>match bytesOf ((r::rows).flatten.map .imm) with
    |some ns=>if ns.length=rows.length+1/\(r::rows).all (fun r=>r.length==1)=true then some (.string (zbl ns)) else none
    |none=>none
   |_=>none
  |_=>none
 |_,_=>none
theorem ygx {s d:TypeId} {x:SV} {u:Value} (h:zep P s d [] x=some u) (H:List SObj):zep P s d H x=some u:=by
 unfold zep at h ⊢;split at h<;>first|(cases h;done)|skip
 split at h<;>first|(cases h;done)|skip
 split at h<;>first|(cases h;done)|(simp at h;done)|exact h
theorem zor {α:Type}:∀{rows:List (List α)},rows.all (fun r=>r.length==1)=true->∀j (h:j<rows.length),∃h':0<(rows[j]'h).length,rows.flatten[j]?=some ((rows[j]'h)[0]'h')
 |[],_,j,h=>by simp at h
 |r::rows,ha,j,h=>by
  simp only [List.all_cons,Bool.and_eq_true,beq_iff_eq] at ha;cases j with
  |zero=>
   match r,ha.1 with
   |[x],_=>exact ⟨by simp,by simp⟩
  |succ j=>
   obtain ⟨h',e⟩:=zor ha.2 j (by simpa using h);refine ⟨by simpa using h',?_⟩
   match r,ha.1 with
   |[x],_=>simpa using e
theorem ygy {s d:TypeId} {x:SV} {v u:Value} (h:zep P s d H x=some u) (hH:HeapOK G w I β H) (hx:Rep w I β v x):(convert s d v).run P w= .ok u w:=by
 unfold zep at h;split at h<;>first|(cases h;done)|skip
 rename_i e hs hdd
 split at h<;>first|(cases h;done)|skip
 rename_i hde
 split at h<;>first|(cases h;done)|skip
 ·rename_i b n
  split at h<;>first|(cases h;done)|skip
  rename_i cs hb
  split at h<;>first|(cases h;done)|skip
  rename_i ns hns
  split at h<;>first|(cases h;done)|skip
  rename_i hn
  cases h;subst hn;have hcs:=zjc hns;subst hcs;cases hx with
  |osl _ c _ _ cap hc l1 l2=>
  obtain ⟨vs,T,h1,h2,h3,h4⟩:=hH.obj _ _ _ hb hc;have hvs:∀j (hj:j<ns.length),vs[j]?=some (.int .u8 (ns[j]'hj)):=by
   intro j hj;have hj':j<vs.size:=by simp at h2;omega
   have:=h3 j (by simpa using hj) hj';simp only [List.getElem_map] at this;rw [Array.getElem?_eq_getElem hj'];generalize vs[j]=u at this;cases this with|imm hr=>cases hr;rfl
  have hl:(loadCells ⟨c,0,none⟩ ns.length).run P w= .ok (ns.map (Value.int .u8)).toArray w:=by
   have:=run_loadCells_list (P:=P) w ⟨c,0,none⟩ (ns.map (Value.int .u8)) (fun j v hj=>by
    have hjl:j<ns.length:=by have:=lt_of_getElem? hj;simpa using this
    rw [List.getElem?_map,List.getElem?_eq_getElem hjl] at hj;cases hj
    rw [qe,cell_of_heap h1,Nat.zero_add,hvs j hjl])
   simpa using this
  rw [run_convert_bytes_string w s d e _ _ cap hs hde hdd,run_bytesToString w _ _ cap ns hl];rfl
 ·rename_i r rows
  split at h<;>first|(cases h;done)|skip
  rename_i ns hns
  split at h<;>first|(cases h;done)|skip
  rename_i hn
  obtain ⟨hn,hall⟩:=hn;cases h;have hcs:=zjc hns;cases hx with|imm hd=>
  cases hd with
  |isl b o cap k _ V a1 a2 a3 a4 a5=>
  have hl:(loadCells ⟨b,o,none⟩ (r::rows).length).run P w= .ok (ns.map (Value.int .u8)).toArray w:=by
   have hlen:(r::rows).length=ns.length:=by rw [hn];rfl
   have:=run_loadCells_list (P:=P) w ⟨b,o,none⟩ (ns.map (Value.int .u8)) (fun j v hj=>by
    have hjl:j<ns.length:=by have:=lt_of_getElem? hj;simpa using this
    rw [List.getElem?_map,List.getElem?_eq_getElem hjl] at hj;cases hj;have hjr:j<(r::rows).length:=by omega
    have h4:=(a4 j 0 hjr (by decide)).2.1;obtain ⟨h',hf⟩:=zor hall j hjr;have h5:=a5 j 0 hjr h';have hc:((r::rows).flatten.map SV.imm)[j]?=(ns.map fun i=>SV.imm (.val (.int .u8 i)))[j]?:=by rw [hcs]
    rw [List.getElem?_map,hf,List.getElem?_map,List.getElem?_eq_getElem hjl] at hc;simp only [Option.map_some,Option.some.injEq,SV.imm.injEq] at hc;rw [hc] at h5;rw [qe];simp only [Nat.mul_one,Nat.add_zero] at h4;rw [h4];generalize V j 0=u at h5
    cases h5;rfl)
   rw [hlen];simpa using this
  rw [run_convert_bytes_string w s d e _ _ cap hs hde hdd,run_bytesToString w _ _ cap ns hl];rfl
theorem zcl {α:Type} (zs:List α):∀(l t:Nat),t<l*zs.length->((List.replicate l zs).flatten)[t]?=zs[t % zs.length]?
 |0,t,h=>by simp at h
 |l+1,t,h=>by
  rw [List.replicate_succ,List.flatten_cons];rcases Nat.lt_or_ge t zs.length with h1|h1
  ·rw [List.getElem?_append_left h1,Nat.mod_eq_of_lt h1]
  ·rw [List.getElem?_append_right h1,zcl zs l _ (by rw [Nat.succ_mul] at h;omega)]
   congr 1
   rw [Nat.mod_eq_sub_mod h1]
def zeq (P:Program) (t:TypeId) (l c:SV) (H:List SObj):Option (SV × List SObj):=
 match P.underlying t,l,c with
 |some (.slice e),.imm (.val (.int _ l)),.imm (.val (.int _ c))=>match xe P e,js P e,jx P e with
  |some k,some by_,some z=>
   if by_<=65536/\z.cells.size=k/\0<=c/\c<=1073741824/\1<=k then
    if l=0 then some (.asl H.length k [],H++[.tok k 0])
    else if l=c then some (.osl H.length 0 l.toNat,H++[.cells (List.replicate l.toNat (zdx z)).flatten])
    else none
   else none
  |_,_,_=>none
 |_,_,_=>none
theorem zlo {c:Int} (h0:0<=c) (h1:c<=1073741824):IntKind.i64.wrap c=c:=by
 have hb:IntKind.i64.bits=64:=rfl;have hs:IntKind.i64.signed=true:=rfl;unfold IntKind.wrap;simp [hb,hs];omega
theorem zsd {t:TypeId} {l c:SV} {vl vc:Value} (h:zeq P t l c H=some (r,H')) (hH:HeapOK G w I β H) (hl:Rep w I β vl l) (hc:Rep w I β vc c):
  ∃u w' I' β',(Instr.makeSlice t vl vc).run P w= .ok u w'/\Rep w' I' β' u r/\HeapOK G w' I' β' H'/\Ext H.length w I β H w' I' β' H':=by
 unfold zeq at h;split at h<;>first|(cases h;done)|skip
 rename_i e k1 l k2 c hu
 split at h<;>first|(cases h;done)|skip
 rename_i k by_ z hk hby hz
 split at h<;>first|(cases h;done)|skip
 rename_i hcond
 obtain ⟨hby',hzk,hc0,hc1,hk1⟩:=hcond;cases hl with
 |imm hl=>
 cases hl with
 |val _=>
 cases hc with
 |imm hc=>
 cases hc with
 |val _=>
 have hinfo:∀w:World,(typeInfo e).run P w= .ok ((P.info? e).getD default) w/\((P.info? e).getD default).bytes=by_:=by
  intro w;unfold js at hby;cases hi:P.info? e with
  |none=>simp [hi] at hby
  |some i=>simp [hi] at hby;simp [typeInfo,hi,hby]
 have hrun:0<=l->l<=c->(Instr.makeSlice t (.int k1 l) (.int k2 c)).run P w= .ok (.slice (some ⟨w.heap.size,0,none⟩) l.toNat c.toNat) (w.alloc (.cells ((Array.range (c.toNat*k)).map (z.cells[· % z.cells.size]!)) e)):=by
  intro hl0 hlc;have wc:=zlo hc0 hc1;have wl:=zlo hl0 (by omega:l<=1073741824);have hbig:¬((by_:Int)*c>2 ^ 48):=by
   have h1:(by_:Int)*c<=65536*1073741824:=Int.mul_le_mul (by omega) hc1 hc0 (by omega);omega
  have hinf:=hinfo w;simp only [Instr.makeSlice,Sem.run_bind,run_underlying hu,Result.andThen_ok,asInt,asIntOf,Sem.run_pure,hinf.1,hinf.2,wc,wl];rw [if_neg (by simp;omega)];simp only [Sem.run_bind,Result.andThen_ok,run_askRoom,ys hk]
  by_cases hn0:c.toNat*k=0
  ·rw [if_pos hn0]
   have ha:((Array.range (c.toNat*k)).map fun x=>(#[]:Array Value)[x % (#[]:Array Value).size]!)=((Array.range (c.toNat*k)).map (z.cells[· % z.cells.size]!)):=by
    rw [hn0];apply Array.ext';simp
   simp only [Sem.run_pure,Result.andThen_ok,newRow,Sem.run_bind,run_newObj,ha];rfl
  ·rw [if_neg hn0]
   simp only [Sem.run_bind,Sem.run_pure,Result.andThen_ok,zae hz,newRow,run_newObj];rfl
 have hsz:((Array.range (c.toNat*k)).map (z.cells[· % z.cells.size]!)).size=c.toNat*k:=by simp
 split at h
 ·rename_i hl0
  cases h;subst hl0;have hr:=hrun (Int.le_refl 0) hc0;obtain ⟨h1,h2⟩:=hH.allocTok (m:=H.length) (k:=k) (n:=0) (cap:=c.toNat) (T:=e) hsz (Nat.zero_le _) (by unfold maxLen;omega);refine ⟨_,_,_,_,hr,?_,h1,h2⟩;refine .asl H.length k [] _ _ 0 ?_ (by rw [<-hH.len];simp) ⟨_,_,rfl⟩ (Nat.le_refl _) (fun _=>rfl);exact DRep.isl _ 0 c.toNat k [] (fun _ _=>undef) (Nat.zero_le _) (by unfold maxLen;omega) (fun i h=>by simp at h) (fun i j h=>by simp at h) (fun i j h=>by simp at h)
 ·split at h<;>first|(cases h;done)|skip
  rename_i hlc
  cases h;subst hlc;have hr:=hrun hc0 (Int.le_refl _);have hreps:Reps w I β ((Array.range (l.toNat*k)).map (z.cells[· % z.cells.size]!)).toList (List.replicate l.toNat (zdx z)).flatten:=by
   have hzl:(zdx z).length=k:=by simp [zdx,hzk]
   refine ⟨by simp [hzl],fun j v s hv hs=>?_⟩;have hj:j<l.toNat*k:=by have:=lt_of_getElem? hv;simpa using this
   rw [zcl _ _ _ (by rw [hzl];exact hj),hzl] at hs;have hmod:j % k<z.cells.size:=by rw [hzk];exact Nat.mod_lt _ hk1
   simp only [Array.toList_map,Array.toList_range,List.getElem?_map,List.getElem?_range hj,Option.map_some,Option.some.injEq,hzk] at hv;have hv':z.cells.toList[j % k]?=some v:=by
    rw [<-hv];simp [hmod]
   exact (zff z).rep (j % k) v s hv' hs
  obtain ⟨h1,h2,h3⟩:=zgk (T:=e) hH hreps;refine ⟨_,_,_,_,hr,?_,h1,h2⟩;exact .osl H.length w.heap.size 0 l.toNat l.toNat (by rw [<-hH.len];simp) (Nat.le_refl _) (by unfold maxLen;omega)
end
section
variable {P:Program} {G:List (Nat × D)} {w:World} {I:Imm} {β:List Bnd} {H H':List SObj} {r:SV}
theorem zos (a b:ByteArray):(a==b)=true ↔ a=b:=by
 cases a with
 |mk x=>
 cases b with
 |mk y=>
 show ((⟨x⟩:ByteArray).data==(⟨y⟩:ByteArray).data)=true ↔ _;simp
def yka {κ:Type} [BEq κ] (k:κ):List (κ × SV)->Option SV
 |[]=>none
 |(k',s)::r=>if k==k' then some s else yka k r
def yps {κ:Type} [BEq κ] (k:κ) (s:SV):List (κ × SV)->List (κ × SV)
 |[]=>[(k,s)]
 |(k',s')::r=>if k==k' then (k,s)::r else (k',s')::yps k s r
theorem zcm {t:TypeId} {e:Bool} {v:Value} {d:TypeDesc} (hu:P.underlying t=some d) (hd:(∃k,d= .int k)\/d= .string):(Instr.checkKey e 10000 t v).run P w= .ok () w:=by
 show (Instr.checkKey e (9999+1) t v).run P w=_;generalize 9999=n;simp only [Instr.checkKey,Sem.run_bind,run_underlying hu,Result.andThen_ok];rcases hd with ⟨k,rfl⟩|rfl<;>rfl
structure Ents {κ:Type} (w:World) (I:Imm) (β:List Bnd) (mk:κ->Value) (ents:List MapEntry) (es:List (κ × SV)):Prop where
 len:ents.length=es.length
 ent:∀j (h:j<es.length) (h':j<ents.length),(ents[j]'h').key=mk (es[j]'h).1/\Rep w I β (ents[j]'h').val (es[j]'h).2
theorem Ents.tail {κ:Type} {mk:κ->Value} {e:MapEntry} {ents:List MapEntry} {x:κ × SV} {es:List (κ × SV)} (h:Ents w I β mk (e::ents) (x::es)):
  e.key=mk x.1/\Rep w I β e.val x.2/\Ents w I β mk ents es:=
 ⟨(h.ent 0 (by simp) (by simp)).1,(h.ent 0 (by simp) (by simp)).2,by have:=h.len;simpa using this,fun j h1 h2=>by
  have:=h.ent (j+1) (by simpa using h1) (by simpa using h2)
  simpa using this⟩
theorem Ents.cons {κ:Type} {mk:κ->Value} {e:MapEntry} {ents:List MapEntry} {x:κ × SV} {es:List (κ × SV)} (h1:e.key=mk x.1) (h2:Rep w I β e.val x.2) (h:Ents w I β mk ents es):
  Ents w I β mk (e::ents) (x::es):=
 ⟨by simp [h.len],fun j a b=>by
  cases j with
  |zero=>exact ⟨h1,h2⟩
  |succ j=>simpa using h.ent j (by simpa using a) (by simpa using b)⟩
theorem zgn {κ:Type} [BEq κ] {mk:κ->Value} {kd:TypeDesc} (hsame:∀a b,Instr.sameNow kd (mk a) (mk b)=some (a==b)) (key:κ):
  ∀(ents:List MapEntry) (es:List (κ × SV)) (i:Nat),Ents w I β mk ents es->
   (yka key es=none/\Instr.findNow kd (mk key) ents i=some none)\/∃s j v,yka key es=some s/\Instr.findNow kd (mk key) ents i=some (some (i+j,v))/\Rep w I β v s/\j<ents.length/\
    (∀(h:j<ents.length),Instr.sameNow kd (mk key) (ents[j]'h).key=some true)
 |[],es,i,h=>by
  have:es=[]:=by have:=h.len;simpa using this.symm
  subst this;exact .inl ⟨rfl,rfl⟩
 |e::ents,es,i,h=>by
  cases es with
  |nil=>have:=h.len;simp at this
  |cons x es=>
   obtain ⟨k',s⟩:=x;obtain ⟨h1,h2,h3⟩:=h.tail;simp only at h1 h2;simp only [yka,Instr.findNow,h1,hsame]
   by_cases hk:(key==k')=true
   ·right
    simp only [hk,if_true];exact ⟨s,0,e.val,rfl,by simp,h2,by simp,fun _=>by simp [h1,hsame,hk]⟩
   ·have hk':(key==k')=false:=by simpa using hk
    simp only [hk',Bool.false_eq_true,if_false];rcases zgn hsame key ents es (i+1) h3 with ⟨a1,a2⟩|⟨s',j,v,a1,a2,a3,a4,a5⟩
    ·exact .inl ⟨a1,a2⟩
    ·exact .inr ⟨s',j+1,v,a1,by rw [a2,show i+1+j=i+(j+1) by omega],a3,by simpa using a4,fun h=>by simpa using a5 a4⟩
theorem Ents.set {κ:Type} [BEq κ] {mk:κ->Value} {kd:TypeDesc} (hsame:∀a b,Instr.sameNow kd (mk a) (mk b)=some (a==b)) (key:κ) {v:Value} {s:SV} (hv:Rep w I β v s):
  ∀(ents:List MapEntry) (es:List (κ × SV)) (i:Nat),Ents w I β mk ents es->
   (∀c,Instr.findNow kd (mk key) ents i=some none->Ents w I β mk (ents++[{key:=mk key,val:=v,born:=c}]) (yps key s es))/\
   (∀j u,Instr.findNow kd (mk key) ents i=some (some (i+j,u))->Ents w I β mk (ents.modify j fun e=>{e with key:=mk key,val:=v}) (yps key s es))
 |[],es,i,h=>by
  have:es=[]:=by have:=h.len;simpa using this.symm
  subst this;refine ⟨fun c _=>?_,fun j u hj=>by simp [Instr.findNow] at hj⟩;exact Ents.cons rfl hv h
 |e::ents,es,i,h=>by
  cases es with
  |nil=>have:=h.len;simp at this
  |cons x es=>
   obtain ⟨k',s'⟩:=x;obtain ⟨h1,h2,h3⟩:=h.tail;simp only at h1 h2;simp only [yps,Instr.findNow,h1,hsame];obtain ⟨i1,i2⟩:=Ents.set hsame key hv ents es (i+1) h3
   by_cases hk:(key==k')=true
   ·simp only [hk,if_true]
    refine ⟨fun c hc=>by simp at hc,fun j u hj=>?_⟩;have:j=0:=by simp at hj;omega
    subst this;exact Ents.cons rfl hv h3
   ·have hk':(key==k')=false:=by simpa using hk
    simp only [hk',Bool.false_eq_true,if_false];refine ⟨fun c hc=>Ents.cons h1 h2 (i1 c hc),fun j u hj=>?_⟩;cases j with
    |zero=>
     exfalso
     have key:∀(l:List MapEntry) (n m:Nat) (u:Value),n<m->Instr.findNow kd (mk key) l m≠some (some (n,u)):=by
      intro l
      induction l with
      |nil=>intro n m u _;simp [Instr.findNow]
      |cons e l ih=>
       intro n m u hlt;simp only [Instr.findNow];split
       ·intro hx;simp at hx;omega
       ·exact ih n (m+1) u (by omega)
       ·simp
     exact key ents i (i+1) u (by omega) (by simpa using hj)
    |succ j=>
     rw [List.modify_succ_cons];exact Ents.cons h1 h2 (i2 j u (by rw [hj,show i+1+j=i+(j+1) by omega]))
theorem yeh (k:IntKind) (a b:Int):Instr.sameNow (.int k) (.int k a) (.int k b)=some (a==b):=by simp [Instr.sameNow]
theorem yei (a b:ByteArray):Instr.sameNow .string (.string a) (.string b)=some (a==b):=by simp [Instr.sameNow]
def ybc (P:Program) (t:TypeId) (H:List SObj) (m key:SV) (ok:Bool):Option SV:=
 match P.underlying t with
 |some (.map kt et)=>match P.underlying kt,jx P et with
  |some (.int k),some z=>match m,key with
   | .map b,.imm (.val (.int k' i))=>match H[b]? with
    |some (.mapI k'' es)=>if k=k'/\k=k'' then
      (let x:=(yka i es).getD (jl z);if ok then some (.tup [x,.imm (.val (.bool (yka i es).isSome))]) else some x) else none
    |_=>none
   | .imm (.val (.map none)),.imm (.val (.int _ _))=>if ok then some (.tup [jl z,.imm (.val (.bool false))]) else some (jl z)
   |_,_=>none
  |some .string,some z=>match m,key with
   | .map b,.imm (.val (.string i))=>match H[b]? with
    |some (.mapS es)=>(let x:=(yka i es).getD (jl z);if ok then some (.tup [x,.imm (.val (.bool (yka i es).isSome))]) else some x)
    |_=>none
   | .imm (.val (.map none)),.imm (.val (.string _))=>if ok then some (.tup [jl z,.imm (.val (.bool false))]) else some (jl z)
   |_,_=>none
  |_,_=>none
 |_=>none
theorem znt {v:Value} {s:SV} {b:Bool} (h:Rep w I β v s):Rep w I β (.tuple #[v,.bool b]) (.tup [s,.imm (.val (.bool b))]):=by
 refine .tup _ _ rfl (fun j h1 h2=>?_)
 match j,h1 with
 |0,_=>exact h
 |1,_=>exact .imm (.val _)
theorem zik {t kt et:TypeId} {d:TypeDesc} {z key:Value} {ok:Bool} (hu:P.underlying t=some (.map kt et)) (hk:P.underlying kt=some d) (hd:(∃k,d= .int k)\/d= .string) (hz:jx P et=some z):
  (Instr.lookup t (.map none) key ok).run P w= .ok (if ok then .tuple #[z,.bool false] else z) w:=by
 simp only [Instr.lookup,Sem.run_bind,run_underlying hu,Result.andThen_ok,Sem.run_pure,zcm hk hd,Instr.findKey,run_underlying hk,Instr.findNow,zae hz]
theorem zil {κ:Type} [BEq κ] {mk:κ->Value} {kd:TypeDesc} (hsame:∀a b,Instr.sameNow kd (mk a) (mk b)=some (a==b)) {t kt et:TypeId} {z:Value} {ok:Bool} {key:κ} {c clock:Nat} {ents:Array MapEntry} {es:List (κ × SV)}
  (hu:P.underlying t=some (.map kt et)) (hk:P.underlying kt=some kd) (hd:(∃k,kd= .int k)\/kd= .string) (hz:jx P et=some z) (hc:w.heap[c]?=some (.map ents clock)) (he:Ents w I β mk ents.toList es):
  ∃v,(Instr.lookup t (.map (some c)) (mk key) ok).run P w= .ok (if ok then .tuple #[v,.bool (yka key es).isSome] else v) w/\Rep w I β v ((yka key es).getD (jl z)):=by
 rcases zgn hsame key ents.toList es 0 he with ⟨h1,h2⟩|⟨s,j,v,h1,h2,h3,_,_⟩
 ·refine ⟨z,?_,by rw [h1];exact zde ..⟩
  simp only [Instr.lookup,Sem.run_bind,run_underlying hu,Result.andThen_ok,Sem.run_pure,qu hc,zcm hk hd,Instr.findKey,run_underlying hk,h2,zae hz,h1,Option.isSome_none]
 ·refine ⟨v,?_,by rw [h1];exact h3⟩
  simp only [Instr.lookup,Sem.run_bind,run_underlying hu,Result.andThen_ok,Sem.run_pure,qu hc,zcm hk hd,Instr.findKey,run_underlying hk,h2,h1,Option.isSome_some]
theorem yki {t:TypeId} {m key:SV} {mv kv:Value} {ok:Bool} (h:ybc P t H m key ok=some r) (hH:HeapOK G w I β H) (hm:Rep w I β mv m) (hk:Rep w I β kv key):
  ∃u,(Instr.lookup t mv kv ok).run P w= .ok u w/\Rep w I β u r:=by
 unfold ybc at h;split at h<;>first|(cases h;done)|skip
 rename_i kt et hu
 split at h<;>first|(cases h;done)|skip
 ·rename_i k z hkt hz
  split at h<;>first|(cases h;done)|skip
  ·rename_i b k' i
   split at h<;>first|(cases h;done)|skip
   rename_i k'' es hb
   split at h<;>first|(cases h;done)|skip
   rename_i hkk
   obtain ⟨rfl,rfl⟩:=hkk;cases hk with
   |imm hk=>
   cases hk with
   |val _=>
   cases hm with
   |map _ c hc=>
   obtain ⟨ents,clock,h1,h2,h3,h4⟩:=hH.obj _ _ _ hb hc;obtain ⟨v,hr,hv⟩:=zil (I:=I) (β:=β) (mk:=fun i=>Value.int k i) (ok:=ok) (key:=i) (es:=es) (yeh k) hu hkt (.inl ⟨k,rfl⟩) hz h1 ⟨by simpa using h2,fun j a b=>by simpa using h3 j a (by simpa using b)⟩;refine ⟨_,hr,?_⟩;cases ok with
   |true=>simp at h;subst h;exact znt hv
   |false=>simp at h;subst h;exact hv
  ·cases hk with
   |imm hk=>
   cases hk with
   |val _=>
   cases hm with
   |imm hm=>
   cases hm with
   |val _=>
   refine ⟨_,zik hu hkt (.inl ⟨k,rfl⟩) hz,?_⟩;cases ok with
   |true=>simp at h;subst h;exact znt (zde ..)
   |false=>simp at h;subst h;exact zde ..
 ·rename_i z hkt hz
  split at h<;>first|(cases h;done)|skip
  ·rename_i b i
   split at h<;>first|(cases h;done)|skip
   rename_i es hb
   cases hk with
   |imm hk=>
   cases hk with
   |val _=>
   cases hm with
   |map _ c hc=>
   obtain ⟨ents,clock,h1,h2,h3,h4⟩:=hH.obj _ _ _ hb hc;obtain ⟨v,hr,hv⟩:=zil (I:=I) (β:=β) (mk:=fun i=>Value.string i) (ok:=ok) (key:=i) (es:=es) yei hu hkt (.inr rfl) hz h1 ⟨by simpa using h2,fun j a b=>by simpa using h3 j a (by simpa using b)⟩;refine ⟨_,hr,?_⟩;cases ok with
   |true=>simp at h;subst h;exact znt hv
   |false=>simp at h;subst h;exact hv
  ·cases hk with
   |imm hk=>
   cases hk with
   |val _=>
   cases hm with
   |imm hm=>
   cases hm with
   |val _=>
   refine ⟨_,zik hu hkt (.inr rfl) hz,?_⟩;cases ok with
   |true=>simp at h;subst h;exact znt (zde ..)
   |false=>simp at h;subst h;exact zde ..
def zgo (P:Program) (t:TypeId) (H:List SObj) (m key x:SV):Option (List SObj):=
 match P.underlying t with
 |some (.map kt _)=>match P.underlying kt with
  |some (.int k)=>match m,key with
   | .map b,.imm (.val (.int k' i))=>match H[b]? with
    |some (.mapI k'' es)=>if k=k'/\k=k'' then some (H.set b (.mapI k (yps i x es))) else none
    |_=>none
   |_,_=>none
  |some .string=>match m,key with
   | .map b,.imm (.val (.string i))=>match H[b]? with
    |some (.mapS es)=>some (H.set b (.mapS (yps i x es)))
    |_=>none
   |_,_=>none
  |_=>none
 |_=>none
def World.setMap (w:World) (c:Nat) (ents:Array MapEntry) (clock:Nat):World:={w with heap:=w.heap.setIfInBounds c (.map ents clock)}
theorem zim {c clock clock':Nat} {ents ents':Array MapEntry} (h:w.heap[c]?=some (.map ents clock)):
  (setObj c (.map ents' clock')).run P w= .ok () (World.setMap w c ents' clock'):=by
 simp [setObj,Sem.run,h,World.setMap]
theorem Born.push {ents:Array MapEntry} {clock:Nat} (h:Born ents clock) (key val:Value):Born (ents.push {key:=key,val:=val,born:=clock}) (clock+1):=by
 refine ⟨?_,fun e he=>?_⟩
 ·simp only [Array.toList_push,List.map_append,List.map_cons,List.map_nil]
  refine List.nodup_append.2 ⟨h.1,by simp,fun a ha b hb=>?_⟩;obtain ⟨e,he,rfl⟩:=List.mem_map.1 ha;have:=h.2 e he;simp at hb;omega
 ·simp only [Array.toList_push,List.mem_append,List.mem_singleton] at he
  rcases he with he|rfl
  ·have:=h.2 e he;omega
  ·simp
theorem zot (f:MapEntry->MapEntry) (hf:∀e,(f e).born=e.born):∀(l:List MapEntry) (j:Nat),(l.modify j f).map (·.born)=l.map (·.born)
 |[],j=>by simp
 |e::l,0=>by simp [hf]
 |e::l,j+1=>by simp [zot f hf l j]
theorem Born.modify {ents:Array MapEntry} {clock:Nat} (h:Born ents clock) (j:Nat) (f:MapEntry->MapEntry) (hf:∀e,(f e).born=e.born):Born (ents.modify j f) clock:=by
 have hm:(ents.modify j f).toList.map (·.born)=ents.toList.map (·.born):=by rw [Array.toList_modify];exact zot f hf _ j
 refine ⟨by rw [hm];exact h.1,fun e he=>?_⟩;have:e.born∈ents.toList.map (·.born):=by rw [<-hm];exact List.mem_map_of_mem he
 obtain ⟨e',he',e1⟩:=List.mem_map.1 this;rw [<-e1];exact h.2 e' he'
theorem zer {κ:Type} [BEq κ] {mk:κ->Value} {kd:TypeDesc} (hsame:∀a b,Instr.sameNow kd (mk a) (mk b)=some (a==b)) (hbits:∀a v,Instr.sameNow kd (mk a) v=some true->Instr.sameBits 10000 v (mk a)=true)
  {t kt et:TypeId} {key:κ} {c clock:Nat} {ents:Array MapEntry} {es:List (κ × SV)} {v:Value} {s:SV}
  (hu:P.underlying t=some (.map kt et)) (hk:P.underlying kt=some kd) (hd:(∃k,kd= .int k)\/kd= .string) (hc:w.heap[c]?=some (.map ents clock)) (he:Ents w I β mk ents.toList es) (hv:Rep w I β v s) (hborn:Born ents clock):
  ∃ents' clock',(Instr.mapUpdate t (.map (some c)) (mk key) v).run P w= .ok () (World.setMap w c ents' clock')/\Ents w I β mk ents'.toList (yps key s es)/\Born ents' clock':=by
 obtain ⟨s1,s2⟩:=Ents.set hsame key hv ents.toList es 0 he;rcases zgn hsame key ents.toList es 0 he with ⟨h1,h2⟩|⟨s',j,u,h1,h2,h3,h4,h5⟩
 ·refine ⟨ents.push {key:=mk key,val:=v,born:=clock},clock+1,?_,by simpa using s1 clock h2,hborn.push _ _⟩
  simp only [Instr.mapUpdate,Sem.run_bind,run_underlying hu,Result.andThen_ok,qu hc,zcm hk hd,Instr.findKey,run_underlying hk,h2,Sem.run_pure,zim hc]
 ·have hjs:j<ents.size:=by simpa using h4
  rw [Nat.zero_add] at h2;refine ⟨ents.modify j fun e=>{e with key:=mk key,val:=v},clock,?_,?_,hborn.modify j _ fun _=>rfl⟩
  ·have hb:=hbits key _ (h5 h4)
   have hkeep:(Instr.keyThatStays (((ents[j]?).map (·.key)).getD (mk key)) (mk key)).run P w= .ok (mk key) w:=by
    have e:(((ents[j]?).map (·.key)).getD (mk key))=(ents.toList[j]'h4).key:=by simp [hjs]
    rw [e];simp only [Instr.keyThatStays,hb,if_true,Sem.run_pure]
   simp only [Instr.mapUpdate,Sem.run_bind,run_underlying hu,Result.andThen_ok,qu hc,zcm hk hd,Instr.findKey,run_underlying hk,h2,Sem.run_pure,hkeep,zim hc]
  ·have:=s2 j u (by rw [h2];simp)
   rwa [Array.toList_modify]
theorem ypt (k:IntKind) (a:Int) (v:Value) (h:Instr.sameNow (.int k) (.int k a) v=some true):Instr.sameBits 10000 v (.int k a)=true:=by
 cases v<;>simp [Instr.sameNow] at h;obtain ⟨rfl,h⟩:=h;subst h;simp [Instr.sameBits]
theorem ypu (a:ByteArray) (v:Value) (h:Instr.sameNow .string (.string a) v=some true):Instr.sameBits 10000 v (.string a)=true:=by
 cases v<;>simp [Instr.sameNow] at h;have:=(zos _ _).1 h;subst this;simpa [Instr.sameBits] using h
theorem ybd {t:TypeId} {m key x:SV} {mv kv xv:Value} (h:zgo P t H m key x=some H') (hH:HeapOK G w I β H) (hm:Rep w I β mv m) (hk:Rep w I β kv key) (hx:Rep w I β xv x):
  ∃w',(Instr.mapUpdate t mv kv xv).run P w= .ok () w'/\HeapOK G w' I β H'/\Ext H.length w I β H w' I β H':=by
 have setOld:∀(c c' clock':Nat) (ents':Array MapEntry),c'≠c->(World.setMap w c ents' clock').heap[c']?=w.heap[c']?:=by
  intro c c' clock' ents' hne;simp [World.setMap,Ne.symm hne]
 have setNew:∀(c clock':Nat) (ents':Array MapEntry),c<w.heap.size->(World.setMap w c ents' clock').heap[c]?=some (.map ents' clock'):=by
  intro c clock' ents' hlt;simp [World.setMap,hlt]
 unfold zgo at h;split at h<;>first|(cases h;done)|skip
 rename_i kt et hu
 split at h<;>first|(cases h;done)|skip
 ·rename_i k hkt
  split at h<;>first|(cases h;done)|skip
  rename_i b k' i
  split at h<;>first|(cases h;done)|skip
  rename_i k'' es hb
  split at h<;>first|(cases h;done)|skip
  rename_i hkk
  obtain ⟨rfl,rfl⟩:=hkk;cases h;cases hk with
  |imm hk=>
  cases hk with
  |val _=>
  cases hm with
  |map _ c hc=>
  obtain ⟨ents,clock,h1,h2,h3,h4,h5⟩:=hH.obj _ _ _ hb hc;obtain ⟨ents',clock',hr,he,hbo⟩:=zer (I:=I) (β:=β) (mk:=fun i=>Value.int k i) (key:=i) (es:=es) (yeh k) (ypt k) hu hkt (.inl ⟨k,rfl⟩) h1 ⟨by simpa using h2,fun j a b=>by simpa using h3 j a (by simpa using b)⟩ hx h5;refine ⟨_,hr,hH.change hb (by simp) hc (fun c' hne=>setOld c c' clock' ents' hne) (by simp [World.setMap]) h4 ⟨ents',clock',setNew c clock' ents' (xw h1),by simpa using he.len,fun j a b=>?_,h4,hbo⟩⟩;have hcell:∀b o,I b o->(World.setMap w c ents' clock').cell? ⟨b,o,none⟩=w.cell? ⟨b,o,none⟩:=fun b' o' hi=>ye (setOld c b' clock' ents' (fun e=>h4 o' (e ▸ hi))) o'
  have:=he.ent j a (by simpa using b);exact ⟨by simpa using this.1,by simpa using this.2.mono (fun _ _ h=>h) hcell (.refl _ _)⟩
 ·rename_i hkt
  split at h<;>first|(cases h;done)|skip
  rename_i b i
  split at h<;>first|(cases h;done)|skip
  rename_i es hb
  cases h;cases hk with
  |imm hk=>
  cases hk with
  |val _=>
  cases hm with
  |map _ c hc=>
  obtain ⟨ents,clock,h1,h2,h3,h4,h5⟩:=hH.obj _ _ _ hb hc;obtain ⟨ents',clock',hr,he,hbo⟩:=zer (I:=I) (β:=β) (mk:=fun i=>Value.string i) (key:=i) (es:=es) yei ypu hu hkt (.inr rfl) h1 ⟨by simpa using h2,fun j a b=>by simpa using h3 j a (by simpa using b)⟩ hx h5;refine ⟨_,hr,hH.change hb (by simp) hc (fun c' hne=>setOld c c' clock' ents' hne) (by simp [World.setMap]) h4 ⟨ents',clock',setNew c clock' ents' (xw h1),by simpa using he.len,fun j a b=>?_,h4,hbo⟩⟩;have hcell:∀b o,I b o->(World.setMap w c ents' clock').cell? ⟨b,o,none⟩=w.cell? ⟨b,o,none⟩:=fun b' o' hi=>ye (setOld c b' clock' ents' (fun e=>h4 o' (e ▸ hi))) o'
  have:=he.ent j a (by simpa using b);exact ⟨by simpa using this.1,by simpa using this.2.mono (fun _ _ h=>h) hcell (.refl _ _)⟩
def znu (P:Program) (t:TypeId) (H:List SObj):Option (SV × List SObj):=
 match P.underlying t with
 |some (.map kt _)=>match P.underlying kt with
  |some (.int k)=>some (.map H.length,H++[.mapI k []])
  |some .string=>some (.map H.length,H++[.mapS []])
  |_=>none
 |_=>none
theorem zxd {t:TypeId} (h:znu P t H=some (r,H')) (hH:HeapOK G w I β H):
  ∃u w' β',(Instr.makeMap t none).run P w= .ok u w'/\Rep w' I β' u r/\HeapOK G w' I β' H'/\Ext H.length w I β H w' I β' H':=by
 have hrun:(Instr.makeMap t none).run P w= .ok (.map (some w.heap.size)) (w.alloc (.map #[] 0)):=by simp [Instr.makeMap]
 have hget:(β++[Bnd.blk w.heap.size])[H.length]?=some (.blk w.heap.size):=by rw [<-hH.len];simp
 unfold znu at h;split at h<;>first|(cases h;done)|skip
 split at h<;>first|(cases h;done)|skip
 ·cases h
  obtain ⟨h1,h2⟩:=hH.alloc (m:=H.length) (o:=.mapI _ []) (ob:=.map #[] 0) ⟨#[],0,yq _,rfl,fun j h=>by simp at h,fun o hi=>by have:=hH.inI _ o hi;omega,by simp,by simp⟩;exact ⟨_,_,_,hrun,.map _ _ hget,h1,h2⟩
 ·cases h
  obtain ⟨h1,h2⟩:=hH.alloc (m:=H.length) (o:=.mapS []) (ob:=.map #[] 0) ⟨#[],0,yq _,rfl,fun j h=>by simp at h,fun o hi=>by have:=hH.inI _ o hi;omega,by simp,by simp⟩;exact ⟨_,_,_,hrun,.map _ _ hget,h1,h2⟩
end
def ywn:List (Nat × D)->Nat->SV
 |[],_=>.any
 |(g,d)::r,n=>if g=n then .imm d else ywn r n
def zl (G:List (Nat × D)) (t:List (Nat × SV)):Operand->SV
 | .tmp n=>qh t n
 | .const v=>zww v
 | .global g=>ywn G g
 | .func f=>.fn (.func f) [] []
def zfg (P:Program) (b:Builtin) (args:List SV) (tys:List TypeId) (H:List SObj):Option (SV × List SObj):=
 match b,args,tys with
 | .len,[x],[t]=>(ypg P t H x).map fun n=>(.imm (.val (.int .i64 n)),H)
 | .append,[s,x],[sT,xT]=>zln P sT xT s x H
 | .cap,[.imm (.val (.slice none 0 n))],[t]=>match P.underlying t with
  |some (.slice _)=>some (.imm (.val (.int .i64 n)),H)
  |_=>none
 | .min,[.imm (.val (.int k x)),.imm (.val (.int _ y))],_=>some (.imm (.val (.int k (if y<x then y else x))),H)
 | .max,[.imm (.val (.int k x)),.imm (.val (.int _ y))],_=>some (.imm (.val (.int k (if y>x then y else x))),H)
 |_,_,_=>none
def sop (P:Program) (op:Op) (ev:Operand->SV) (H:List SObj):Option (SV × List SObj):=
 match op with
 | .move x=>some (ev x,H)
 | .assign x=>some (ev x,H)
 | .pick c a b=>match ev c with
  | .imm (.val (.bool v))=>some (if v then ev a else ev b,H)
  |_=>none
 | .alloc e=>(jx P e).map fun z=>(.ptr H.length 0,H++[.cells (zdx z)])
 | .box _ x=>(ev x).cells.map fun cs=>(.ptr H.length 0,H++[.cells cs])
 | .build t parts=>(zom P t (parts.toList.map fun p=>(p.1,ev p.2))).map (·,H)
 | .buildSlice t len parts=>ww P t len (parts.toList.map fun p=>(p.1,ev p.2)) H
 | .load t a=>(zaz P t H (ev a)).map (·,H)
 | .store t a x=>(zci P t H (ev a) (ev x)).map (.any, ·)
 | .nilCheck x=>match ev x with
  | .ptr b o=>some (.ptr b o,H)
  | .imm (.row c o)=>some (.imm (.row c o),H)
  |_=>none
 | .binOp op t x y _=>match ev x,ev y with
  | .imm (.val a),.imm (.val b)=>(yay P op t a b).map fun v=>(.imm (.val v),H)
  |_,_=>none
 | .unOp op _ x=>match ev x with
  | .imm (.val a)=>(sun op a).map fun v=>(.imm (.val v),H)
  |_=>none
 | .convert s d x=>match ev x with
  | .imm (.val a)=>(yaz P s d a).map fun v=>(.imm (.val v),H)
  |x=>(zep P s d H x).map fun v=>(.imm (.val v),H)
 | .makeFunc fn first captured=>some (.fn fn (first.toList.map ev) (captured.toList.map ev),H)
 | .makeMap t none=>znu P t H
 | .makeSlice t l c=>zeq P t (ev l) (ev c) H
 | .slice t x lo hi none=>(zmm P t (ev x) (lo.map ev) (hi.map ev)).map (·,H)
 | .fieldAddr s x f=>(zen P s f (ev x)).map (·,H)
 | .field t x f=>(zxa P t f (ev x)).map (·,H)
 | .indexAddr t x ix=>match ev ix with
  | .imm (.val (.int _ i))=>(jv P t i (ev x)).map (·,H)
  |_=>none
 | .index t x ix=>match ev ix with
  | .imm (.val (.int _ i))=>(zml P t i (ev x)).map (·,H)
  |_=>none
 | .lookup t x ix ok=>(ybc P t H (ev x) (ev ix) ok).map (·,H)
 | .mapUpdate t m k x=>(zgo P t H (ev m) (ev k) (ev x)).map (.any, ·)
 | .extract t i=>(zkb i (ev t)).map (·,H)
 | .call {callee:=.builtin b,args,argTypes}=>zfg P b (args.toList.map ev) argTypes.toList H
 |_=>none
section
variable {P:Program} {G:List (Nat × D)} {w:World} {I:Imm} {β:List Bnd} {H H':List SObj} {r:SV}
theorem yej (hH:HeapOK G w I β H) (g:Nat):Rep w I β (.pointer (some ⟨g,0,none⟩)) (ywn G g):=by
 have key:∀G':List (Nat × D),(∀x,x∈G'->x∈G)->Rep w I β (.pointer (some ⟨g,0,none⟩)) (ywn G' g):=by
  intro G'
  induction G' with
  |nil=>intro _;exact .any _
  |cons x r ih=>
   intro hs;obtain ⟨g',d⟩:=x;simp only [ywn];split
   ·rename_i e;subst e;exact .imm (hH.glob _ d (hs _ (by simp)))
   ·exact ih (fun x hx=>hs x (by simp [hx]))
 exact key G (fun _ h=>h)
theorem zdy {ρ:Operand->Value} {ev:Operand->SV} (hev:∀x,Rep w I β (ρ x) (ev x)) (l:List Operand):Reps w I β (l.map ρ) (l.map ev):=by
 induction l with
 |nil=>exact .nil
 |cons x l ih=>exact .cons (hev x) ih
theorem zgp {ρ:Operand->Value} {ev:Operand->SV} (hev:∀x,Rep w I β (ρ x) (ev x)) (l:List (Nat × Operand)):
  RepParts w I β (l.map fun p=>(p.1,ρ p.2)) (l.map fun p=>(p.1,ev p.2)):=
 ⟨by simp,by
  have:=zdy hev (l.map (·.2))
  simpa [List.map_map,Function.comp_def] using this⟩
theorem OpRun.value {s:Sem Value} {u:Value} {w':World} {I':Imm} {β':List Bnd} (hs:s.run P w= .ok u w') (hr:Rep w' I' β' u r) (hH:HeapOK G w' I' β' H') (he:Ext H.length w I β H w' I' β' H'):
  OpRun P G (do pure (.value (<-s))) w I β H r H':=
 ⟨.value u,u,w',I',β',by simp [hs],.inl rfl,hr,hH,he⟩
theorem OpRun.unit {s:Sem Unit} {w':World} (hs:s.run P w= .ok () w') (hH:HeapOK G w' I β H') (he:Ext H.length w I β H w' I β H'):
  OpRun P G (do s;pure .skip) w I β H .any H':=
 ⟨.skip,undef,w',I,β,by simp [hs],.inr ⟨rfl,rfl⟩,.any _,hH,he⟩
theorem OpRun.id {v:Value} (hr:Rep w I β v r) (hH:HeapOK G w I β H):OpRun P G (pure (.value v)) w I β H r H:=
 ⟨.value v,v,w,I,β,rfl,.inl rfl,hr,hH,.refl⟩
theorem Reps.one {vs:List Value} {s:SV} (h:Reps w I β vs [s]):∃v,vs=[v]/\Rep w I β v s:=by
 match vs,h with
 |[v],h=>exact ⟨v,rfl,h.rep 0 _ _ rfl rfl⟩
 |[],h=>have:=h.len;simp at this
 |_::_::_,h=>have:=h.len;simp at this
theorem Reps.two {vs:List Value} {s s':SV} (h:Reps w I β vs [s,s']):∃v v',vs=[v,v']/\Rep w I β v s/\Rep w I β v' s':=by
 match vs,h with
 |[v,v'],h=>exact ⟨v,v',rfl,h.rep 0 _ _ rfl rfl,h.rep 1 _ _ rfl rfl⟩
 |[],h=>have:=h.len;simp at this
 |[_],h=>have:=h.len;simp at this
 |_::_::_::_,h=>have:=h.len;simp at this
theorem zxe {b:Builtin} {args:List SV} {tys:Array TypeId} {vs:Array Value} {ty:TypeId} {consts:Array Bool} (h:zfg P b args tys.toList H=some (r,H')) (hH:HeapOK G w I β H) (hv:Reps w I β vs.toList args):
  OpRun P G (builtin b tys ty consts vs) w I β H r H':=by
 obtain ⟨tys⟩:=tys;obtain ⟨vs⟩:=vs;unfold zfg at h;split at h<;>first|(cases h;done)|skip
 ·rename_i x t heq
  obtain ⟨v,rfl,hx⟩:=hv.one;simp at heq;subst heq;cases hl:ypg P t H x with
  |none=>simp [hl] at h
  |some n=>
   simp [hl] at h;obtain ⟨rfl,rfl⟩:=h;exact OpRun.same (ypr hl hH hx) (.imm (.val _)) hH
 ·rename_i s x sT xT heq
  obtain ⟨sv,xv,rfl,hs,hx⟩:=hv.two;simp at heq;subst heq;obtain ⟨u,w',I',β',h1,h2,h3,h4⟩:=ybb (ty:=ty) h hH hs hx;exact OpRun.value h1 h2 h3 h4
 ·rename_i n t heq
  obtain ⟨v,rfl,hx⟩:=hv.one;simp at heq;subst heq;split at h<;>first|(cases h;done)|skip
  rename_i e hu
  cases h;cases hx with|imm hx=>
  cases hx with|val _=>
  exact OpRun.same (v:=.int .i64 n) (by simp [Builtin.cap_,run_underlying hu,goInt]) (.imm (.val _)) hH
 ·rename_i k x k' y
  obtain ⟨a,b,rfl,ha,hb⟩:=hv.two;cases h;cases ha with|imm ha=>
  cases ha with|val _=>
  cases hb with|imm hb=>
  cases hb with|val _=>
  exact OpRun.same (v:=.int k (if y<x then y else x)) (by simp [Builtin.min_,Builtin.min2]) (.imm (.val _)) hH
 ·rename_i k x k' y
  obtain ⟨a,b,rfl,ha,hb⟩:=hv.two;cases h;cases ha with|imm ha=>
  cases ha with|val _=>
  cases hb with|imm hb=>
  cases hb with|val _=>
  exact OpRun.same (v:=.int k (if y>x then y else x)) (by simp [Builtin.max_,Builtin.max2]) (.imm (.val _)) hH
theorem zlp {o:Oper} {ρ:Operand->Value} {ev:Operand->SV} (h:sop P o.op ev H=some (r,H')) (hH:HeapOK G w I β H) (hev:∀x,Rep w I β (ρ x) (ev x)):
  OpRun P G (execOp ρ o) w I β H r H':=by
 obtain ⟨dst,op,type,pos,after,guard⟩:=o;simp only at h;cases op<;>simp only [sop] at h<;>first|(cases h;done)|skip
 case move x=>cases h;exact OpRun.id (hev x) hH
 case assign x=>cases h;exact OpRun.id (hev x) hH
 case pick c a b=>
  split at h<;>first|(cases h;done)|skip
  rename_i v hc
  cases h;have h1:=hev c;rw [hc] at h1;generalize hcv:ρ c=cv at h1;cases h1 with|imm h1=>cases h1 with|val _=>
  refine ⟨.value (if v then ρ a else ρ b),_,w,I,β,by simp [execOp,hcv,asBool],.inl rfl,?_,hH,.refl⟩;cases v
  ·exact hev b
  ·exact hev a
 case alloc e=>
  cases hz:jx P e with
  |none=>simp [hz] at h
  |some z=>
   simp [hz] at h;obtain ⟨rfl,rfl⟩:=h;obtain ⟨h1,h2,h3⟩:=zgk (T:=e) hH (zff z);exact OpRun.value (zwx hz) h3 h1 h2
 case box e x=>
  cases hc:(ev x).cells with
  |none=>simp [hc] at h
  |some cs=>
   simp [hc] at h;obtain ⟨rfl,rfl⟩:=h;obtain ⟨h1,h2,h3⟩:=zgk (T:=e) hH ((hev x).cellsReps hc);exact OpRun.value ytt h3 h1 h2
 case build t parts=>
  cases hb:zom P t (parts.toList.map fun p=>(p.1,ev p.2)) with
  |none=>simp [hb] at h
  |some s=>
   simp [hb] at h;obtain ⟨rfl,rfl⟩:=h;obtain ⟨u,h1,h2⟩:=ygt (ps:=parts.map fun p=>(p.1,ρ p.2)) hb (by simpa using zgp hev parts.toList);exact OpRun.value h1 h2 hH .refl
 case buildSlice t len parts=>
  obtain ⟨u,w',I',β',h1,h2,h3,h4⟩:=zop (ps:=parts.map fun p=>(p.1,ρ p.2)) h hH (by simpa using zgp hev parts.toList);exact OpRun.value h1 h2 h3 h4
 case load t a=>
  cases hb:zaz P t H (ev a) with
  |none=>simp [hb] at h
  |some s=>
   simp [hb] at h;obtain ⟨rfl,rfl⟩:=h;obtain ⟨u,h1,h2⟩:=zok hb hH (hev a);exact OpRun.value h1 h2 hH .refl
 case store t a x=>
  cases hb:zci P t H (ev a) (ev x) with
  |none=>simp [hb] at h
  |some H2=>
   simp [hb] at h;obtain ⟨rfl,rfl⟩:=h;obtain ⟨w',h1,h2,h3⟩:=zwy hb hH (hev a) (hev x);exact OpRun.unit h1 h2 h3
 case nilCheck x=>
  split at h<;>first|(cases h;done)|skip
  ·rename_i b o hx
   cases h;have h1:=hev x;rw [hx] at h1;generalize hcv:ρ x=cv at h1;have h1':=h1;cases h1 with|ptr _ c _ hc=>
   refine ⟨.value _,_,w,I,β,by simp [execOp,hcv],.inl rfl,h1',hH,.refl⟩
  ·rename_i b o hx
   cases h;have h1:=hev x;rw [hx] at h1;generalize hcv:ρ x=cv at h1;have h1':=h1;cases h1 with|imm h1=>cases h1 with|row=>
   refine ⟨.value _,_,w,I,β,by simp [execOp,hcv],.inl rfl,h1',hH,.refl⟩
 case binOp op t x y yt=>
  split at h<;>first|(cases h;done)|skip
  rename_i a b hx hy
  cases hb:yay P op t a b with
  |none=>simp [hb] at h
  |some v=>
   simp [hb] at h;obtain ⟨rfl,rfl⟩:=h;have h1:=hev x;rw [hx] at h1;have h2:=hev y;rw [hy] at h2;generalize hcv:ρ x=cv at h1;generalize hcv2:ρ y=cv2 at h2;cases h1 with|imm h1=>cases h1 with|val _=>
   cases h2 with|imm h2=>cases h2 with|val _=>
   have:=ypq (w:=w) hb x y;refine OpRun.same (v:=v) ?_ (.imm (.val _)) hH;rw [hcv,hcv2];exact this
 case unOp op t x=>
  split at h<;>first|(cases h;done)|skip
  rename_i a hx
  cases hb:sun op a with
  |none=>simp [hb] at h
  |some v=>
   simp [hb] at h;obtain ⟨rfl,rfl⟩:=h;have h1:=hev x;rw [hx] at h1;generalize hcv:ρ x=cv at h1;cases h1 with|imm h1=>cases h1 with|val _=>
   refine OpRun.same (v:=v) ?_ (.imm (.val _)) hH;rw [hcv];exact yts hb
 case convert s d x=>
  split at h
  ·rename_i a hx
   cases hb:yaz P s d a with
   |none=>simp [hb] at h
   |some v=>
    simp [hb] at h;obtain ⟨rfl,rfl⟩:=h;have h1:=hev x;rw [hx] at h1;generalize hcv:ρ x=cv at h1;cases h1 with|imm h1=>cases h1 with|val _=>
    refine OpRun.same (v:=v) ?_ (.imm (.val _)) hH;rw [hcv];exact ykg hb
  ·cases hb:zep P s d H (ev x) with
   |none=>simp [hb] at h
   |some v=>
    simp [hb] at h;obtain ⟨rfl,rfl⟩:=h;exact OpRun.same (v:=v) (ygy hb hH (hev x)) (.imm (.val _)) hH
 case makeFunc fn first captured=>
  cases h;refine OpRun.same (v:=.func fn (first.map ρ) (captured.map ρ)) rfl ?_ hH;have h1:=Reps.get (vs:=first.map ρ) (by simpa using zdy hev first.toList);have h2:=Reps.get (vs:=captured.map ρ) (by simpa using zdy hev captured.toList);exact .fn fn _ _ _ _ h1.1 h2.1 h1.2 h2.2
 case makeMap t rs=>
  cases rs with
  |some x=>simp at h
  |none=>
   simp only at h;obtain ⟨u,w',β',h1,h2,h3,h4⟩:=zxd h hH;exact OpRun.value h1 h2 h3 h4
 case makeSlice t l c=>
  obtain ⟨u,w',I',β',h1,h2,h3,h4⟩:=zsd h hH (hev l) (hev c);exact OpRun.value h1 h2 h3 h4
 case slice t x lo hi mx=>
  cases mx with
  |some x=>simp at h
  |none=>
   simp only at h;cases hb:zmm P t (ev x) (lo.map ev) (hi.map ev) with
   |none=>simp [hb] at h
   |some s=>
    simp [hb] at h;obtain ⟨rfl,rfl⟩:=h;have opt:∀o:Option Operand,OptRep w I β (o.map ρ) (o.map ev):=fun o=>by
     cases o with
     |none=>exact .none
     |some x=>exact .some (hev x)
    obtain ⟨u,h1,h2⟩:=ygw hb (hev x) (opt lo) (opt hi);exact OpRun.value h1 h2 hH .refl
 case fieldAddr s x f=>
  cases hb:zen P s f (ev x) with
  |none=>simp [hb] at h
  |some s=>
   simp [hb] at h;obtain ⟨rfl,rfl⟩:=h;obtain ⟨u,h1,h2⟩:=zsa hb (hev x);exact OpRun.value h1 h2 hH .refl
 case field t x f=>
  cases hb:zxa P t f (ev x) with
  |none=>simp [hb] at h
  |some s=>
   simp [hb] at h;obtain ⟨rfl,rfl⟩:=h;obtain ⟨u,h1,h2⟩:=ygu hb (hev x);exact OpRun.value h1 h2 hH .refl
 case indexAddr t x ix=>
  split at h<;>first|(cases h;done)|skip
  rename_i k i hix
  cases hb:jv P t i (ev x) with
  |none=>simp [hb] at h
  |some s=>
   simp [hb] at h;obtain ⟨rfl,rfl⟩:=h;have h1:=hev ix;rw [hix] at h1;generalize hcv:ρ ix=cv at h1;cases h1 with|imm h1=>cases h1 with|val _=>
   obtain ⟨u,h1,h2⟩:=zsb (k:=k) hb (hev x);refine OpRun.value (u:=u) (w':=w) ?_ h2 hH .refl;rw [hcv];exact h1
 case index t x ix=>
  split at h<;>first|(cases h;done)|skip
  rename_i k i hix
  cases hb:zml P t i (ev x) with
  |none=>simp [hb] at h
  |some s=>
   simp [hb] at h;obtain ⟨rfl,rfl⟩:=h;have h1:=hev ix;rw [hix] at h1;generalize hcv:ρ ix=cv at h1;cases h1 with|imm h1=>cases h1 with|val _=>
   obtain ⟨u,h1,h2⟩:=ygv (k:=k) hb (hev x);refine OpRun.value (u:=u) (w':=w) ?_ h2 hH .refl;rw [hcv];exact h1
 case lookup t x ix ok=>
  cases hb:ybc P t H (ev x) (ev ix) ok with
  |none=>simp [hb] at h
  |some s=>
   simp [hb] at h;obtain ⟨rfl,rfl⟩:=h;obtain ⟨u,h1,h2⟩:=yki hb hH (hev x) (hev ix);exact OpRun.value h1 h2 hH .refl
 case mapUpdate t m k x=>
  cases hb:zgo P t H (ev m) (ev k) (ev x) with
  |none=>simp [hb] at h
  |some H2=>
   simp [hb] at h;obtain ⟨rfl,rfl⟩:=h;obtain ⟨w',h1,h2,h3⟩:=ybd hb hH (hev m) (hev k) (hev x);exact OpRun.unit h1 h2 h3
 case extract t i=>
  cases hb:zkb i (ev t) with
  |none=>simp [hb] at h
  |some s=>
   simp [hb] at h;obtain ⟨rfl,rfl⟩:=h;obtain ⟨u,h1,h2⟩:=zxb hb (hev t);exact OpRun.value h1 h2 hH .refl
 case call c=>
  obtain ⟨callee,args,argTypes⟩:=c;cases callee with
  |value f=>simp at h
  |invoke f m=>simp at h
  |builtin b=>
   simp only at h;have hr:Reps w I β (args.map ρ).toList (args.toList.map ev):=by simpa using zdy hev args.toList
   exact zxe (ty:=type) h hH hr
end
def atR (b:Frame) (ro:Option Nat) (a:Act) (k:List Item):Frame:={b.at a k with roundOf:=ro}
section rsteps
variable {P:Program} {b:Frame} {ro:Option Nat} {a:Act} {k:List Item} {cs:List Frame} {w:World} {ops:Array Oper}
theorem yek (x:Operand):(atR b ro a k).eval x=a.eval x:=by cases x<;>rfl
theorem ykj:(atR b ro a k).eval=a.eval:=funext fun _=>yek _
theorem ygz:step P (lone (atR b ro a (.code .skip::k)) cs w)= .next (lone (atR b ro a k) cs w):=step_lone_go (by simp [stepG,stepG.exec,atR,Frame.at])
theorem ybe {l:Nat}:step P (lone (atR b ro a (.code (.label l)::k)) cs w)= .next (lone (atR b ro a k) cs w):=step_lone_go (by simp [stepG,stepG.exec,atR,Frame.at])
theorem zuw {id:Nat}:step P (lone (atR b ro a (.inBlock id::k)) cs w)= .next (lone (atR b ro a k) cs w):=step_lone_go (by simp [stepG,stepG.exec,atR,Frame.at])
theorem ykk {x y:Code}:step P (lone (atR b ro a (.code (.seq x y)::k)) cs w)= .next (lone (atR b ro a (.code x:: .code y::k)) cs w):=step_lone_go (by simp [stepG,stepG.exec,atR,Frame.at])
theorem yha {c:Operand} {x y:Code} {t:Bool} (h:a.eval c= .bool t):step P (lone (atR b ro a (.code (.cond c x y)::k)) cs w)= .next (lone (atR b ro a (.code (if t then x else y)::k)) cs w):=
 step_lone_go (by
  have:=yek (b:=b) (ro:=ro) (a:=a) (k:=.code (.cond c x y)::k) c;simp only [atR,Frame.at] at this
  simp [stepG,stepG.exec,atR,Frame.at,this,h])
theorem ybf {id:Nat} {c:Code}:step P (lone (atR b ro a (.code (.block id c)::k)) cs w)= .next (lone (atR b ro a (.code c:: .inBlock id::k)) cs w):=step_lone_go (by simp [stepG,stepG.exec,atR,Frame.at])
theorem yhb {c:Code}:step P (lone (atR b ro a (.code (.loop c)::k)) cs w)= .next (lone (atR b ro a (.code c:: .inLoop c::k)) cs w):=step_lone_go (by simp [stepG,stepG.exec,atR,Frame.at])
theorem zxf {c:Code}:step P (lone (atR b ro a (.inLoop c::k)) cs w)= .next (lone (atR b ro a (.code c:: .inLoop c::k)) cs w):=step_lone_go (by simp [stepG,stepG.exec,atR,Frame.at])
theorem yhc {id:Nat} {k':List Item} (h:exitTo id k=some k'):step P (lone (atR b ro a (.code (.exit id)::k)) cs w)= .next (lone (atR b ro a k') cs w):=step_lone_go (by simp [stepG,stepG.exec,atR,Frame.at,h])
theorem zxg {id:Nat}:step P (lone (atR b ro a (.code (.region id ops false)::k)) cs w)= .next (lone (atR b ro a (.inRegion ops (List.range ops.size)::k)) cs w):=step_lone_go (by simp [stepG,stepG.exec,atR,Frame.at])
theorem zan {id:Nat}:step P (lone (atR b ro a (.code (.region id ops true)::k)) cs w)=
   .next (lone (atR b ro a (.inRegion ops (Region.schedule (P.follows .mixedOrders) ops (w.tape w.drawn (.order b.fn id)))::k)) cs {w with drawn:=w.drawn+1}):=
 step_lone_go (by simp [stepG,stepG.exec,atR,Frame.at,choose,Sem.run,Question.forced,Question.cut])
theorem zgd:step P (lone (atR b ro a (.inRegion ops []::k)) cs w)= .next (lone (atR b ro a k) cs w):=step_lone_go (by simp [stepG,stepG.exec,atR,Frame.at])
theorem qm (i:Nat) (rest:List Nat) (v:Value):(atR b ro a (.inRegion ops (i::rest)::k)).finish v=atR b ro (a.put ((ops[i]?).bind (·.dst)) v) (.inRegion ops rest::k):=by
 cases h:(ops[i]?).bind (·.dst)<;>simp [Frame.finish,atR,Frame.at,Act.put,h]
theorem jn {i:Nat} {rest:List Nat} (h:((ops[i]?).map (Region.wanted · (yielded ops a.tmps))).getD false=false):
  step P (lone (atR b ro a (.inRegion ops (i::rest)::k)) cs w)= .next (lone (atR b ro (a.put ((ops[i]?).bind (·.dst)) undef) (.inRegion ops rest::k)) cs w):=by
 rw [<-qm]
 exact step_lone_go (by
  have h':=h;simp only [atR,Frame.at] at*
  simp [stepG,stepG.exec,h'])
theorem jt {i:Nat} {rest:List Nat} {o:Oper} (ho:ops[i]?=some o) (hw:Region.wanted o (yielded ops a.tmps)=true) (hnd:ro=none\/∀c,o.op≠ .defer c):
  stepG P true {frame:=atR b ro a (.inRegion ops (i::rest)::k),callers:=cs,status:=.running,dying:=none} w=
   stepG.apply P true (atR b ro a (.inRegion ops (i::rest)::k)) cs none (execOp a.eval o) w:=by
 have he:=ykj (b:=b) (ro:=ro) (a:=a) (k:=.inRegion ops (i::rest)::k);simp only [atR,Frame.at] at he;simp only [stepG,stepG.exec,stepG.oper,Frame.oper?,atR,Frame.at,ho,he,Option.map_some,hw,Option.getD_some,if_true];rcases hnd with rfl|hnd
 ·rfl
 ·split
  ·rename_i c h1;exact absurd h1 (hnd c)
  ·rfl
end rsteps
def yyf (G:List (Nat × D)) (w:World) (I:Imm) (β:List Bnd) (H:List SObj) (K:SV->List SObj->Prop) (e:Ending) (w':World):Prop:=
 ∃v r I' β' H',e= .returned v/\K r H'/\Rep w' I' β' v r/\HeapOK G w' I' β' H'/\Ext H.length w I β H w' I' β' H'
def ykl (G:List (Nat × D)) (w:World) (I:Imm) (β:List Bnd) (H:List SObj) (K:SV->List SObj->Prop) (KP:List PanicEntry->List SObj->Prop) (e:Ending) (w':World):Prop:=
 yyf G w I β H K e w'\/∃ch I' β' H',e= .panicked ch/\KP ch H'/\HeapOK G w' I' β' H'/\Ext H.length w I β H w' I' β' H'
def SCall (P:Program) (G:List (Nat × D)) (f:FuncId) (args:List SV) (H:List SObj) (K:SV->List SObj->Prop):Prop:=
 ∀w I β (vs:Array Value),HeapOK G w I β H->Reps w I β vs.toList args->Calls P f vs w (yyf G w I β H K)
def SCallP (P:Program) (G:List (Nat × D)) (f:FuncId) (args:List SV) (H:List SObj) (K:SV->List SObj->Prop) (KP:List PanicEntry->List SObj->Prop):Prop:=
 ∀w I β (vs:Array Value),HeapOK G w I β H->Reps w I β vs.toList args->Calls P f vs w (ykl G w I β H K KP)
structure En (P:Program) (G:List (Nat × D)) (fn:Func) (rd:Bool) where
 f:FuncId
 hfn:P.funcs[f]?=some fn
 w:World
 I:Imm
 β:List Bnd
 H:List SObj
 K:SV->List SObj->Prop
 l:Nat
 KR:Option Code->List SObj->Prop
 KP:List PanicEntry->List SObj->Prop
def Marks (base:Nat) (w:World) (β:List Bnd) (H:List SObj) (ds:List Deferred):Prop:=
 ∃bs:List Nat,ds=bs.map (fun c=>{target:=.collected c,args:=#[]})/\bs.Nodup/\∀c∈bs,base<=c/\w.heap[c]?=some (.deferred (some []))/\∀b,¬wv H β b c
theorem Marks.nil {base:Nat} {w:World} {β:List Bnd} {H:List SObj}:Marks base w β H []:=⟨[],rfl,List.nodup_nil,fun c h=>by cases h⟩
theorem Marks.ext {base m:Nat} {w w':World} {I I':Imm} {β β':List Bnd} {H H':List SObj} {ds:List Deferred} (h:Marks base w β H ds) (e:Ext m w I β H w' I' β' H'):Marks base w' β' H' ds:=by
 obtain ⟨bs,h1,h2,h3⟩:=h;refine ⟨bs,h1,h2,fun c hc=>?_⟩;obtain ⟨h4,h5,h6⟩:=h3 c hc;have hlt:=xw h5;refine ⟨h4,(e.old c hlt h6).trans h5,fun b hb=>?_⟩;rcases e.own b c hb with ⟨b',h7⟩|h7
 ·exact h6 b' h7
 ·omega
structure Sim {P:Program} {G:List (Nat × D)} {fn:Func} {rd:Bool} (E:En P G fn rd) (t:List (Nat × SV)) (H:List SObj) (a:Act) (w:World) (I:Imm) (β:List Bnd):Prop where
 heap:HeapOK G w I β H
 tmps:∀n,Rep w I β (a.tmps.getD n undef) (qh t n)
 size:a.tmps.size=fn.ntmps
 defers:Marks E.w.heap.size w β H a.defers
 ext:Ext E.H.length E.w E.I E.β E.H w I β H
 hlen:E.H.length<=H.length
def Ends (P:Program) (f:FuncId) (R:Ending->World->Prop) (m:Machine) (cs:List Frame):Prop:=
 ∃e w' fr,R e w'/\Comes P m (lone fr cs w') e/\fr.fn=f/\fr.leaving P w' e
theorem Ends.of_steps {P:Program} {f:FuncId} {R:Ending->World->Prop} {m m':Machine} {cs:List Frame} (h:Steps P m m') (h':Ends P f R m' cs):Ends P f R m cs:=by
 obtain ⟨e,w',fr,h1,h2,h3⟩:=h';exact ⟨e,w',fr,h1,.of_steps h h2,h3⟩
def En.base {P:Program} {G:List (Nat × D)} {fn:Func} {rd:Bool} (E:En P G fn rd):Frame:={(default:Frame) with fn:=E.f,kind:=.normal}
def En.ro {P:Program} {G:List (Nat × D)} {fn:Func} {rd:Bool} (E:En P G fn rd):Option Nat:=
 match rd with
 |true=>some E.l
 |false=>none
def En.at {P:Program} {G:List (Nat × D)} {fn:Func} {rd:Bool} (E:En P G fn rd) (a:Act) (k:List Item):Frame:=atR E.base E.ro a k
def yyk (P:Program) (G:List (Nat × D)) (E:World × Imm × List Bnd × List SObj) (l:Nat) (KR:Option Code->List SObj->Prop) (m:Machine) (cs:List Frame):Prop:=
 ∃jump w1 I1 β1 H1,KR jump H1/\HeapOK G w1 I1 β1 H1/\Ext E.2.2.2.length E.1 E.2.1 E.2.2.1 E.2.2.2 w1 I1 β1 H1/\
  ∀v w2,(Instr.endRound l jump).run P w1= .ok v w2->∀c cs',cs=c::cs'->Steps P m (lone (c.finish v) cs' w2)
def En.Goal {P:Program} {G:List (Nat × D)} {fn:Func} {rd:Bool} (E:En P G fn rd) (m:Machine) (cs:List Frame):Prop:=
 match rd with
 |false=>Ends P E.f (ykl G E.w E.I E.β E.H E.K E.KP) m cs
 |true=>yyk P G (E.w,E.I,E.β,E.H) E.l E.KR m cs
theorem En.Goal.of_steps {P:Program} {G:List (Nat × D)} {fn:Func} {rd:Bool} {E:En P G fn rd} {m m':Machine} {cs:List Frame} (h:Steps P m m') (h':E.Goal m' cs):E.Goal m cs:=by
 cases rd with
 |false=>exact Ends.of_steps h h'
 |true=>
  obtain ⟨jump,w1,I1,β1,H1,h1,h2,h3,h4⟩:=h';exact ⟨jump,w1,I1,β1,H1,h1,h2,h3,fun v w2 hv c cs' hc=>h.trans (h4 v w2 hv c cs' hc)⟩
structure SW {P:Program} {G:List (Nat × D)} {fn:Func} {rd:Bool} (E:En P G fn rd) (k:List Item) (t:List (Nat × SV)) (H:List SObj):Prop where
 run:∀a w I β cs,Sim E t H a w I β->E.Goal (lone (E.at a k) cs w) cs
section
variable {P:Program} {G:List (Nat × D)} {fn:Func} {rd:Bool} {E:En P G fn rd} {t:List (Nat × SV)} {H:List SObj} {k:List Item}
theorem zdg {k':List Item} (hs:∀a cs w,step P (lone (E.at a k) cs w)= .next (lone (E.at a k') cs w)) (h:SW E k' t H):SW E k t H:=
 ⟨fun a w I β cs hsim=>.of_steps (.one (hs a cs w)) (h.run a w I β cs hsim)⟩
theorem ywo {a b:Code} (h:SW E (.code a:: .code b::k) t H):SW E (.code (.seq a b)::k) t H:=zdg (fun _ _ _=>ykk) h
theorem ytu (h:SW E k t H):SW E (.code .skip::k) t H:=zdg (fun _ _ _=>ygz) h
theorem yel {l:Nat} (h:SW E k t H):SW E (.code (.label l)::k) t H:=zdg (fun _ _ _=>ybe) h
theorem yhd {id:Nat} (h:SW E k t H):SW E (.inBlock id::k) t H:=zdg (fun _ _ _=>zuw) h
theorem ypv {id:Nat} {c:Code} (h:SW E (.code c:: .inBlock id::k) t H):SW E (.code (.block id c)::k) t H:=zdg (fun _ _ _=>ybf) h
theorem ybg {c:Code} (h:SW E (.code c:: .inLoop c::k) t H):SW E (.code (.loop c)::k) t H:=zdg (fun _ _ _=>yhb) h
theorem zas {c:Code} (h:SW E (.code c:: .inLoop c::k) t H):SW E (.inLoop c::k) t H:=zdg (fun _ _ _=>zxf) h
theorem ytv {id:Nat} {k':List Item} (hk:exitTo id k=some k') (h:SW E k' t H):SW E (.code (.exit id)::k) t H:=zdg (fun _ _ _=>yhc hk) h
theorem ykm {id:Nat} {ops:Array Oper} (h:SW E (.inRegion ops (List.range ops.size)::k) t H):SW E (.code (.region id ops false)::k) t H:=zdg (fun _ _ _=>zxg) h
theorem zfh {ops:Array Oper} (h:SW E k t H):SW E (.inRegion ops []::k) t H:=zdg (fun _ _ _=>zgd) h
theorem Sim.eval {a:Act} {w:World} {I:Imm} {β:List Bnd} (h:Sim E t H a w I β) (x:Operand):Rep w I β (a.eval x) (zl G t x):=by
 cases x with
 |tmp n=>exact h.tmps n
 |const v=>exact zgj ..
 |global g=>exact yej h.heap g
 |func f=>exact .fn _ #[] #[] [] [] rfl rfl (fun j h=>by simp at h) (fun j h=>by simp at h)
theorem ykn {c:Operand} {x y:Code} {b:Bool} (hc:zl G t c= .imm (.val (.bool b))) (h1:b=true->SW E (.code x::k) t H) (h2:b=false->SW E (.code y::k) t H):
  SW E (.code (.cond c x y)::k) t H:=by
 refine ⟨fun a w I β cs hsim=>?_⟩;have he:=hsim.eval c;rw [hc] at he;have hv:a.eval c= .bool b:=by
  generalize a.eval c=v at he;cases he with|imm he=>
  cases he with|val _=>rfl
 refine .of_steps (.one (yha hv)) ?_;cases b with
 |true=>exact (h1 rfl).run a w I β cs hsim
 |false=>exact (h2 rfl).run a w I β cs hsim
def xj (t:List (Nat × SV)) (d:Option Tmp) (s:SV):List (Nat × SV):=
 match d with
 |some n=>(n,s)::t
 |none=>t
def yb (N:Nat):Option Tmp->Bool
 |some d=>d<N
 |none=>true
theorem Sim.put {a:Act} {w w':World} {I I':Imm} {β β':List Bnd} {H':List SObj} {d:Option Tmp} {v:Value} {s:SV} (h:Sim E t H a w I β) (hd:yb fn.ntmps d=true)
  (hv:Rep w' I' β' v s) (hH:HeapOK G w' I' β' H') (he:Ext H.length w I β H w' I' β' H') (hl:H.length<=H'.length):Sim E (xj t d s) H' (a.put d v) w' I' β' where
 heap:=hH
 tmps n:=by
  have old:∀n,Rep w' I' β' (a.tmps.getD n undef) (qh t n):=fun n=>(h.tmps n).ext (by rw [h.heap.len];exact he)
  cases d with
  |none=>exact old n
  |some d=>
   simp only [xj,qh,Act.put];split
   ·rename_i e
    subst e;have:d<a.tmps.size:=by rw [h.size];simpa [yb] using hd
    simpa [Array.getD,this] using hv
   ·rename_i hne
    have e:(a.tmps.setIfInBounds d v).getD n undef=a.tmps.getD n undef:=by
     simp [Array.getElem?_setIfInBounds_ne hne]
    rw [e];exact old n
 size:=by cases d<;>simp [Act.put,h.size]
 defers:=by cases d<;>exact h.defers.ext he
 ext:=h.ext.trans (he.weaken h.hlen)
 hlen:=Nat.le_trans h.hlen hl
def zu (ops:Array Oper) (t:List (Nat × SV)):Option (Nat × Bool)->Option Bool
 |none=>some true
 |some (j,want)=>match (ops[j]?).bind (·.dst) with
  |some d=>match qh t d with
   | .imm (.val (.bool b))=>match want with
    |true=>some b
    |false=>some (!b)
   | .imm (.val (.tuple _))=>some false
   |_=>none
  |none=>none
abbrev sU:SV:=.imm (.val undef)
theorem qv {ops:Array Oper} {o:Oper} {c:Bool} {a:Act} {w:World} {I:Imm} {β:List Bnd} (h:zu ops t o.guard=some c) (hs:Sim E t H a w I β):Region.wanted o (yielded ops a.tmps)=c:=by
 unfold Region.wanted;cases hg:o.guard with
 |none=>rw [hg] at h;simp [zu] at h;simp [h]
 |some x=>
  obtain ⟨j,want⟩:=x;rw [hg] at h;simp only [zu] at h;split at h<;>first|(cases h;done)|skip
  rename_i d hd
  have key:∀v:Value,qh t d= .imm (.val v)->a.tmps.getD d undef=v:=by
   intro v hv;have hr:=hs.tmps d;rw [hv] at hr;generalize a.tmps.getD d undef=u at hr;cases hr with|imm hr=>
   cases hr with|val _=>rfl
  split at h<;>first|(cases h;done)|skip
  ·rename_i b hb
   have hc:c=(b==want):=by cases want<;>cases b<;>simp_all
   subst hc;have hv:=key _ hb;have hv':a.tmps[d]?=some (.bool b):=by
    cases hx:a.tmps[d]? with
    |none=>rw [Array.getD_eq_getD_getElem?,hx] at hv;simp [undef] at hv
    |some y=>rw [Array.getD_eq_getD_getElem?,hx] at hv;simpa using hv
   simp [yielded,hd,hv']
  ·rename_i vs hb
   cases h;have hv:=key _ hb;cases hx:a.tmps[d]? with
   |none=>simp [yielded,hd,hx]
   |some y=>
    rw [Array.getD_eq_getD_getElem?,hx] at hv;simp at hv;subst hv;simp [yielded,hd,hx]
theorem yhe {ops:Array Oper} {i:Nat} {rest:List Nat} {o:Oper} (ho:ops[i]?=some o) (hw:zu ops t o.guard=some false) (hd:yb fn.ntmps o.dst=true)
  (h:SW E (.inRegion ops rest::k) (xj t o.dst sU) H):SW E (.inRegion ops (i::rest)::k) t H:=by
 refine ⟨fun a w I β cs hsim=>?_⟩;have hwant:=qv hw hsim;have hs:=jn (P:=P) (b:=E.base) (ro:=E.ro) (a:=a) (k:=k) (cs:=cs) (w:=w) (ops:=ops) (i:=i) (rest:=rest) (by simp [ho,hwant]);simp only [ho,Option.bind_some] at hs;exact .of_steps (.one hs) (h.run _ w I β cs (hsim.put hd (.imm (.val _)) hsim.heap .refl (Nat.le_refl _)))
theorem ytw {ops:Array Oper} {i:Nat} {rest:List Nat} {o:Oper} {r:SV} {H':List SObj} (ho:ops[i]?=some o) (hw:zu ops t o.guard=some true) (hd:yb fn.ntmps o.dst=true)
  (hop:sop P o.op (zl G t) H=some (r,H')) (hl:H.length<=H'.length) (h:SW E (.inRegion ops rest::k) (xj t o.dst r) H'):SW E (.inRegion ops (i::rest)::k) t H:=by
 refine ⟨fun a w I β cs hsim=>?_⟩;have hwant:=qv hw hsim;obtain ⟨n,v,w',I',β',h1,h2,h3,h4,h5⟩:=zlp (o:=o) (ρ:=a.eval) hop hsim.heap hsim.eval;have hnd:∀c,o.op≠ .defer c:=fun c e=>by rw [e] at hop;simp [sop] at hop
 have hg:=jt (P:=P) (b:=E.base) (ro:=E.ro) (k:=k) (cs:=cs) (w:=w) (rest:=rest) ho hwant (.inr hnd);have qr:∀v,(E.at a (.inRegion ops (i::rest)::k)).finish v=E.at (a.put o.dst v) (.inRegion ops rest::k):=by
  intro v;unfold En.at;rw [qm,ho];rfl
 have zby:step P (lone (E.at a (.inRegion ops (i::rest)::k)) cs w)= .next (lone (E.at (a.put o.dst v) (.inRegion ops rest::k)) cs w'):=by
  refine step_lone_go ?_;rw [<-qr];unfold En.at;rw [hg];rcases h2 with rfl|⟨rfl,rfl⟩<;>simp [stepG.apply,h1]
 exact .of_steps (.one zby) (h.run _ w' I' β' cs (hsim.put hd h3 h4 h5 hl))
theorem yy {σ:Type} {c:Code} (T:σ->List (Nat × SV)) (Hh:σ->List SObj) (Iv:σ->Prop) (μ:σ->Nat)
  (body:∀x,Iv x->(∀x',Iv x'->μ x'<μ x->SW E (.inLoop c::k) (T x') (Hh x'))->SW E (.code c:: .inLoop c::k) (T x) (Hh x)) (x:σ) (hx:Iv x):
  SW E (.code (.loop c)::k) (T x) (Hh x):=by
 refine ybg ?_;generalize hn:μ x=n
 induction n using Nat.strongRecOn generalizing x with
 |_ n ih=>exact body x hx (fun x' hx' hlt=>zas (ih (μ x') (by omega) x' hx' rfl))
def zgq (P:Program) (H:List SObj) (t:List (Nat × SV)):ResultVar->Option SV
 | .tmp n=>some (qh t n)
 | .cell n ty=>zaz P ty H (qh t n)
def zfi (P:Program) (H:List SObj) (t:List (Nat × SV)) (rs:List ResultVar):Option SV:=
 match rs.mapM (zgq P H t) with
 |some [s]=>some s
 |some l=>some (.tup l)
 |none=>none
def yko (tmps:Array Value):ResultVar->Sem Value
 | .tmp t=>pure (tmps.getD t undef)
 | .cell p ty=>do loadVar ty (<-asAddr (tmps.getD p undef))
theorem yhf (fn:Func) (tmps:Array Value):results fn tmps=(do let vs<-fn.results.mapM (yko tmps);pure (if h:vs.size=1 then vs[0] else .tuple vs)):=by
 have e:(fun x:ResultVar=>(match x with| .tmp t=>pure (tmps.getD t undef)| .cell a t=>do loadVar t (<-asAddr (tmps.getD a undef)):Sem Value))=yko tmps:=by
  funext x;cases x<;>rfl
 rw [<-e];rfl
theorem ybh {a:Act} {w:World} {I:Imm} {β:List Bnd} {r:SV} (h:zfi P H t fn.results.toList=some r) (hs:Sim E t H a w I β):
  ∃v,(results fn a.tmps).run P w= .ok v w/\Rep w I β v r:=by
 have one:∀x s,zgq P H t x=some s->∃v,(yko a.tmps x).run P w= .ok v w/\Rep w I β v s:=by
  intro x s hx;cases x with
  |tmp n=>simp only [zgq,Option.some.injEq] at hx;subst hx;exact ⟨_,rfl,hs.tmps n⟩
  |cell n ty=>
   simp only [zgq] at hx;obtain ⟨u,h1,h2⟩:=zok hx hs.heap (hs.tmps n);refine ⟨u,?_,h2⟩;have hp:∃ad,a.tmps.getD n undef= .pointer (some ad):=by
    have hr:=hs.tmps n;generalize a.tmps.getD n undef=v at hr;unfold zaz at hx;split at hx
    ·rename_i e;rw [e] at hr;cases hr with|ptr=>exact ⟨_,rfl⟩
    ·rename_i e;rw [e] at hr;cases hr with|imm hr=>cases hr with|row=>exact ⟨_,rfl⟩
    ·cases hx
   obtain ⟨ad,hp⟩:=hp;simp only [hp] at h1 ⊢;simpa [Instr.loadAt,Instr.sureAddr,asAddr,yko, <-Array.getD_eq_getD_getElem?,hp] using h1
 have many:∀(l:List ResultVar) ss,l.mapM (zgq P H t)=some ss->∃vs:List Value,(l.mapM (yko a.tmps)).run P w= .ok vs w/\Reps w I β vs ss:=by
  intro l
  induction l with
  |nil=>intro ss h;simp at h;subst h;exact ⟨[],rfl,.nil⟩
  |cons x l ih=>
   intro ss h;rw [List.mapM_cons] at h;cases hx:zgq P H t x with
   |none=>simp [hx] at h
   |some s=>
    cases hl:l.mapM (zgq P H t) with
    |none=>simp [hx,hl] at h
    |some ss'=>
     simp [hx,hl] at h;subst h;obtain ⟨v,h1,h2⟩:=one x s hx;obtain ⟨vs,h3,h4⟩:=ih ss' hl;refine ⟨v::vs,?_,.cons h2 h4⟩;rw [List.mapM_cons];simp only [Sem.run_bind,Sem.run_pure];rw [h1];simp only [Result.andThen_ok];rw [h3];rfl
 unfold zfi at h;cases hm:fn.results.toList.mapM (zgq P H t) with
 |none=>simp [hm] at h
 |some ss=>
  obtain ⟨vs,h1,h2⟩:=many _ ss hm;have hrun:(results fn a.tmps).run P w= .ok (if h:vs.toArray.size=1 then vs.toArray[0] else .tuple vs.toArray) w:=by
   rw [yhf,Array.mapM_eq_mapM_toList];simp only [Sem.run_bind,Sem.run_map,h1,Result.andThen_ok,Sem.run_pure]
  refine ⟨_,hrun,?_⟩;simp only [hm] at h;have hlen:=h2.len;split at h
  ·rename_i s e
   cases e;cases h;obtain ⟨v,rfl,hv⟩:=h2.one;simpa using hv
  ·rename_i l hne e
   cases e;cases h;have:¬vs.toArray.size=1:=by
    intro h1;simp at h1
    match ss,hne,hlen with
    |[s],hne,_=>exact hne s rfl
    |[],_,hl=>simp at hl;subst hl;simp at h1
    |_::_::_,_,hl=>simp at hl;omega
   rw [dif_neg this];have hg:=Reps.get (vs:=vs.toArray) (by simpa using h2);exact .tup _ _ hg.1 hg.2
  ·cases h
theorem yhg {fr:Frame} {c:Nat} {ds:List Deferred} {cs:List Frame} {w:World} (hd:fr.defers={target:=.collected c,args:=#[]}::ds) (hm:fr.mode≠ .run) (hc:w.heap[c]?=some (.deferred (some []))):
  step P (lone fr cs w)= .next (lone {fr with defers:=ds} cs (w.putObj c (.deferred none))):=by
 refine step_lone_go ?_;cases hmode:fr.mode with
 |run=>exact absurd hmode hm
 |returning=>simp [stepG,unwind,hmode,hd,run_takeDeferred hc]
 |panicking ch=>simp [stepG,unwind,hmode,hd,run_takeDeferred hc]
theorem zou {w:World} {c c' o:Nat} (hc:w.heap[c]?=some (.deferred (some []))):(w.putObj c (.deferred none)).cell? ⟨c',o,none⟩=w.cell? ⟨c',o,none⟩:=by
 by_cases e:c'=c
 ·subst e
  simp [World.cell?,World.putObj_heap_same (xw hc),hc]
 ·exact ye (World.putObj_heap_other e) o
theorem zov (md : FrameMode) (hmd : md ≠ .run) (hs : ∀ m cs, E.Goal m cs = Ends P E.f (ykl G E.w E.I E.β E.H E.K E.KP) m cs)
    (fin : ∀ (a : Act) (w : World) (I : Imm) (β : List Bnd) (cs : List Frame) (fr : Frame), Sim E t H a w I β -> fr.mode = md -> fr.fn = E.f -> fr.kind = .normal -> fr.tmps = a.tmps -> fr.defers = [] -> E.Goal (lone fr cs w) cs) :
    ∀ (bs : List Nat) (a : Act) (w : World) (I : Imm) (β : List Bnd) (cs : List Frame) (fr : Frame), Sim E t H a w I β ->
    a.defers = bs.map (fun c => { target := .collected c, args := #[] }) -> fr.mode = md -> fr.fn = E.f -> fr.kind = .normal -> fr.tmps = a.tmps -> fr.defers = a.defers -> E.Goal (lone fr cs w) cs := by
  intro bs
  induction bs with
  | nil =>
    intro a w I β cs fr h hd hm hf hk ht hfd
    exact fin a w I β cs fr h hm hf hk ht (by rw [hfd, hd]; rfl)
  | cons c bs ih =>
    intro a w I β cs fr h hd hm hf hk ht hfd
    obtain ⟨bs', e1, e2, e3⟩ := h.defers
    have hb : bs' = c :: bs := by
      rw [hd] at e1
      have := congrArg (List.map fun d : Deferred => match d.target with | .collected c => c | _ => 0) e1
      simpa [Function.comp_def] using this.symm
    subst hb
    obtain ⟨c1, c2, c3⟩ := e3 c (by simp)
    refine .of_steps (.one (yhg (by rw [hfd, hd]; rfl) (hm ▸ hmd) c2)) ?_
    have hcell : ∀ c' o, (w.putObj c (.deferred none)).cell? ⟨c', o, none⟩ = w.cell? ⟨c', o, none⟩ := fun _ _ => zou c2
    have hheap : HeapOK G (w.putObj c (.deferred none)) I β H := by
      refine ⟨h.heap.len, fun b o x h1 h2 => ?_, h.heap.inj, fun c' o hc => by simpa using h.heap.inI c' o hc, fun g d hg => (h.heap.glob g d hg).mono (fun _ _ h => h) (fun _ _ _ => hcell _ _)⟩
      by_cases hdead : o = .dead
      · subst hdead; trivial
      · refine (h.heap.obj b o x h1 h2).mono (fun c' hc' => World.putObj_heap_other (fun e => ?_)) (fun _ _ h => h) (fun _ _ _ => hcell _ _) (.refl _ _) (fun _ _ _ h => h)
        exact c3 b ⟨o, x, h1, hdead, h2, e ▸ hc'⟩
    have hsim : Sim E t H { a with defers := bs.map (fun c => { target := .collected c, args := #[] }) } (w.putObj c (.deferred none)) I β := by
      refine ⟨hheap, fun n => (h.tmps n).mono (fun _ _ h => h) (fun _ _ _ => hcell _ _) (.refl _ _), h.size, ⟨bs, rfl, (List.nodup_cons.1 e2).2, fun c' hc' => ?_⟩, ?_, h.hlen⟩
      · obtain ⟨f1, f2, f3⟩ := e3 c' (by simp [hc'])
        exact ⟨f1, (World.putObj_heap_other (k := c') (r := c) (fun e => (List.nodup_cons.1 e2).1 (e ▸ hc'))).trans f2, f3⟩
      · exact { h.ext with
          cell := fun c' o hc => (hcell c' o).trans (h.ext.cell c' o hc)
          old := fun c' hc' hn => (World.putObj_heap_other (by omega)).trans (h.ext.old c' hc' hn)
          size := by simpa using h.ext.size
          env := h.ext.env }
    exact ih _ _ I β cs _ hsim rfl hm hf hk ht rfl
theorem zxh (hs:∀m cs,E.Goal m cs=Ends P E.f (ykl G E.w E.I E.β E.H E.K E.KP) m cs) {r:SV} (hr:zfi P H t fn.results.toList=some r) (hK:E.K r H) (bs:List Nat) (a:Act) (w:World) (I:Imm) (β:List Bnd) (cs:List Frame) (fr:Frame) (h:Sim E t H a w I β)
  (hd:a.defers=bs.map (fun c=>{target:=.collected c,args:=#[]})) (hm:fr.mode= .returning) (hf:fr.fn=E.f) (hk:fr.kind= .normal) (ht:fr.tmps=a.tmps) (hfd:fr.defers=a.defers):E.Goal (lone fr cs w) cs:=by
 refine zov .returning (by simp) hs ?_ bs a w I β cs fr h hd hm hf hk ht hfd;intro a w I β cs fr h hm hf hk ht hfd;rw [hs];obtain ⟨v,h1,h2⟩:=ybh hr h;exact ⟨.returned v,w,fr,.inl ⟨v,r,I,β,H,rfl,hK,h2,h.heap,h.ext⟩,Steps.refl _ _,hf,hm,hfd,hk,fn,by rw [hf];exact E.hfn,by rw [ht];exact h1⟩
theorem zjd (hs:∀m cs,E.Goal m cs=Ends P E.f (ykl G E.w E.I E.β E.H E.K E.KP) m cs) {ch:List PanicEntry} (hK:E.KP ch H) (bs:List Nat) (a:Act) (w:World) (I:Imm) (β:List Bnd) (cs:List Frame) (fr:Frame) (h:Sim E t H a w I β)
  (hd:a.defers=bs.map (fun c=>{target:=.collected c,args:=#[]})) (hm:fr.mode= .panicking ch) (hf:fr.fn=E.f) (hk:fr.kind= .normal) (ht:fr.tmps=a.tmps) (hfd:fr.defers=a.defers):E.Goal (lone fr cs w) cs:=by
 refine zov (.panicking ch) (by simp) hs ?_ bs a w I β cs fr h hd hm hf hk ht hfd;intro a w I β cs fr h hm hf hk ht hfd;rw [hs];exact ⟨.panicked ch,w,fr,.inr ⟨ch,I,β,H,rfl,hK,h.heap,h.ext⟩,Steps.refl _ _,hf,hm,hfd,fn,by rw [hf];exact E.hfn⟩
theorem ywp {E:En P G fn false} {r:SV} (h:zfi P H t fn.results.toList=some r) (hK:E.K r H):SW E (.code .ret::k) t H:=by
 refine ⟨fun a w I β cs hs=>?_⟩;obtain ⟨bs,e1,_⟩:=hs.defers;exact .of_steps (.one (step_ret (b:=E.base))) (zxh (fun _ _=>rfl) h hK bs a w I β cs _ hs e1 rfl rfl rfl rfl rfl)
theorem ywq {E:En P G fn false} {r:SV} (h:zfi P H t fn.results.toList=some r) (hK:E.K r H):SW E [] t H:=by
 refine ⟨fun a w I β cs hs=>?_⟩;obtain ⟨bs,e1,_⟩:=hs.defers;exact .of_steps (.one (step_end (b:=E.base))) (zxh (fun _ _=>rfl) h hK bs a w I β cs _ hs e1 rfl rfl rfl rfl rfl)
theorem zux {E:En P G fn true} (jump:Option Code) (hk:(k=[]/\jump=none)\/(∃k',k= .code .ret::k'/\jump=some .ret)\/(∃id k',k= .code (.exit id)::k'/\exitTo id k'=none/\jump=some (.exit id)))
  (hK:E.KR jump H):SW E k t H:=by
 refine ⟨fun a w I β cs hs=>?_⟩;refine ⟨jump,w,I,β,H,hK,hs.heap,hs.ext,fun v w2 hv c cs' hc=>.one ?_⟩;subst hc;refine step_lone_go ?_;rcases hk with ⟨rfl,rfl⟩|⟨k',rfl,rfl⟩|⟨id,k',rfl,hex,rfl⟩
 ·simp [stepG,stepG.exec,En.at,atR,En.ro,Frame.at,En.base,hv,doReturn]
 ·simp [stepG,stepG.exec,En.at,atR,En.ro,Frame.at,En.base,hv,doReturn]
 ·simp [stepG,stepG.exec,En.at,atR,En.ro,Frame.at,En.base,hv,doReturn,hex]
end
section
variable {P:Program} {G:List (Nat × D)} {fn:Func} {rd:Bool} {E:En P G fn rd} {t:List (Nat × SV)} {H:List SObj} {k:List Item}
structure SWr (E:En P G fn rd) (all:Array Oper) (rest:List Oper) (k:List Item) (t:List (Nat × SV)) (H:List SObj):Prop where
 run:∀j,j<=all.size->all.toList.drop j=rest->SW E (.inRegion all ((List.range all.size).drop j)::k) t H
theorem zao {n j:Nat} (h:j<n):(List.range n).drop j=j::(List.range n).drop (j+1):=by
 rw [List.drop_eq_getElem_cons (by simpa using h)];simp
theorem ykp {id:Nat} {all:Array Oper} (h:SWr E all all.toList k t H):SW E (.code (.region id all false)::k) t H:=
 ykm (by have:=h.run 0 (Nat.zero_le _) rfl;simpa using this)
theorem ytx {all:Array Oper} (h:SW E k t H):SWr E all [] k t H:=by
 refine ⟨fun j hj hd=>?_⟩;have hle:all.size<=j:=by
  have:=List.drop_eq_nil_iff.1 hd;simpa using this
 rw [List.drop_eq_nil_of_le (by simpa using hle)];exact zfh h
theorem xy {all:Array Oper} {o:Oper} {rest:List Oper} {j:Nat} (hd:all.toList.drop j=o::rest):
  j<all.size/\all[j]?=some o/\all.toList.drop (j+1)=rest:=by
 have hlt:j<all.toList.length:=by
  rcases Nat.lt_or_ge j all.toList.length with h|h
  ·exact h
  ·rw [List.drop_eq_nil_of_le h] at hd;cases hd
 rw [List.drop_eq_getElem_cons hlt] at hd;injection hd with h1 h2
 have hlt':j<all.size:=by simpa using hlt
 refine ⟨hlt',?_,h2⟩;rw [<-h1];simp [hlt']
theorem yem {all:Array Oper} {o:Oper} {rest:List Oper} (hw:zu all t o.guard=some false) (hd:yb fn.ntmps o.dst=true)
  (h:SWr E all rest k (xj t o.dst sU) H):SWr E all (o::rest) k t H:=by
 refine ⟨fun j hj hdrop=>?_⟩;obtain ⟨h1,h2,h3⟩:=xy hdrop;rw [zao h1];exact yhe h2 hw hd (h.run (j+1) h1 h3)
theorem qy {all:Array Oper} {o:Oper} {rest:List Oper} {r:SV} {H':List SObj} (hw:zu all t o.guard=some true) (hd:yb fn.ntmps o.dst=true)
  (hop:sop P o.op (zl G t) H=some (r,H')) (hl:H.length<=H'.length) (h:SWr E all rest k (xj t o.dst r) H'):SWr E all (o::rest) k t H:=by
 refine ⟨fun j hj hdrop=>?_⟩;obtain ⟨h1,h2,h3⟩:=xy hdrop;rw [zao h1];exact ytw h2 hw hd hop hl (h.run (j+1) h1 h3)
def fL {α:Type} (f:α->(α->Prop)->Prop):List α->(List α->Prop)->Prop
 |[],K=>K []
 |a::l,K=>f a fun a=>fL f l fun l=>K (a::l)
def fV:Value->(Value->Prop)->Prop
 | .bool b,K=>K (.bool b)
 | .int k n,K=>K (.int k n)
 | .string s,K=>K (.string s)
 |v,K=>K v
def fD:D->(D->Prop)->Prop
 | .val v,K=>fV v fun v=>K (.val v)
 | .row cells off,K=>K (.row cells off)
 | .isl k rows,K=>K (.isl k rows)
 |d,K=>K d
def fC:SV->(SV->Prop)->Prop
 | .imm d,K=>fD d fun d=>K (.imm d)
 | .ptr b o,K=>K (.ptr b o)
 |s,K=>K s
def fS:SV->(SV->Prop)->Prop
 | .agg cs,K=>fL fC cs fun cs=>K (.agg cs)
 | .tup vs,K=>fL fC vs fun vs=>K (.tup vs)
 |s,K=>fC s K
def fO:SObj->(SObj->Prop)->Prop
 | .cells cs,K=>fL fC cs fun cs=>K (.cells cs)
 |o,K=>K o
theorem ypw {α:Type} {f:α->(α->Prop)->Prop} (hf:∀a K,f a K=K a):∀l K,fL f l K=K l
 |[],K=>rfl
 |a::l,K=>by simp only [fL,hf,ypw hf l]
theorem yyl (v:Value) (K:Value->Prop):fV v K=K v:=by cases v<;>rfl
theorem yym (d:D) (K:D->Prop):fD d K=K d:=by cases d<;>first|rfl|simp only [fD,yyl]
theorem yty (s:SV) (K:SV->Prop):fC s K=K s:=by cases s<;>first|rfl|simp only [fC,yym]
theorem yhh (s:SV) (K:SV->Prop):fS s K=K s:=by cases s<;>first|rfl|simp only [fS,yty,ypw yty]
theorem yyn (o:SObj) (K:SObj->Prop):fO o K=K o:=by cases o<;>first|rfl|simp only [fO,ypw yty]
def fH (st:List Nat) (H:List SObj) (K:List SObj->Prop):Prop:=
 match st.contains 777 with
 |true=>K H
 |false=>fL fO H K
theorem ypx (st:List Nat) (H:List SObj) (K:List SObj->Prop):fH st H K=K H:=by
 unfold fH;split
 ·rfl
 ·exact ypw yyn H K
def zow (v:Bool) (A B:Prop):Prop:=
 match v with
 |true=>A
 |false=>B
theorem yhi {v:Bool} {A B:Prop} (h1:v=true->A) (h2:v=false->B):(match (generalizing:=false) v with|true=>A|false=>B):=by
 cases v
 ·exact h2 rfl
 ·exact h1 rfl
theorem yzt {p:Prop} {_:Decidable p} {A B:Prop} (h1:p->A) (h2:¬p->B):(match (generalizing:=false) decide p with|true=>A|false=>B):=
 yhi (fun h=>h1 (of_decide_eq_true h)) (fun h=>h2 (of_decide_eq_false h))
theorem ywr {p:Prop} {_:Decidable p} {A B:Prop} (h1:¬p->A) (h2:p->B):(match (generalizing:=false) !decide p with|true=>A|false=>B):=
 yhi (fun h=>h1 (of_decide_eq_false (by simpa using h))) (fun h=>h2 (of_decide_eq_true (by simpa using h)))
def yen (st:List Nat):Option Tmp->Bool
 |some d=>st.contains d
 |none=>st.contains 999
def zxi (op:Op) (ev:Operand->SV) (st:List Nat) (d:Option Tmp):Bool:=
 match op with
 | .indexAddr _ x _=>match ev x with
  | .ptr _ _=>yen st d
  | .imm (.row _ _)=>yen st d
  |_=>true
 | .index _ x _=>match ev x with
  | .agg _=>yen st d
  |_=>true
 | .lookup _ _ _ _=>true
 | .mapUpdate _ _ _ _=>true
 | .makeSlice _ _ _=>true
 | .slice _ _ _ _ _=>true
 | .call {callee:=.builtin .append, .. }=>true
 |_=>yen st d
inductive GS where
 |free
 |on (d:Nat) (b want:Bool)
 |off
 |bad
def zuy (all:Array Oper) (t:List (Nat × SV)):Option (Nat × Bool)->GS
 |none=>.free
 |some (j,want)=>match (all[j]?).bind (·.dst) with
  |some d=>match qh t d with
   | .imm (.val (.bool b))=>.on d b want
   | .imm (.val (.tuple _))=>.off
   |_=>.bad
  |none=>.bad
def zaa (d:Nat) (b:Bool):Nat × SV:=(d,.imm (.val (.bool b)))
def zcr (b:Bool):Bool->Bool
 |true=>b
 |false=> !b
class Way (v:Bool) (p q:outParam Prop):Prop where
 pos:v=true->p
 neg:v=false->q
instance (priority:=10) wayB {v:Bool}:Way v (v=true) (v=false):=⟨id,id⟩
instance wayD {p:Prop} {_:Decidable p}:Way (decide p) p (¬p):=⟨of_decide_eq_true,of_decide_eq_false⟩
instance wayN {p:Prop} {_:Decidable p}:Way (!decide p) (¬p) p:=⟨fun h=>of_decide_eq_false (by simpa using h),fun h=>of_decide_eq_true (by simpa using h)⟩
instance (priority:=20) wayNb {b:Bool}:Way (!b) (b=false) (b=true):=⟨fun h=>by simpa using h,fun h=>by simpa using h⟩
instance (priority:=20) wayT {b:Bool} {p q:Prop} [h:Way b p q]:Way (zcr b true) p q:=⟨h.pos,h.neg⟩
instance (priority:=20) wayF {b:Bool} {p q:Prop} [h:Way b p q]:Way (zcr b false) q p:=⟨fun e=>h.neg (by simpa [zcr] using e),fun e=>h.pos (by simpa [zcr] using e)⟩
theorem way {v:Bool} {p q A B:Prop} [w:Way v p q] (h1:p->A) (h2:q->B):(match (generalizing:=false) v with|true=>A|false=>B):=yhi (fun h=>h1 (w.pos h)) (fun h=>h2 (w.neg h))
theorem bwt {b:Bool} {A B:Prop} (h1:b=true->A) (h2:b=false->B):(match (generalizing:=false) zcr b true with|true=>A|false=>B):=yhi h1 h2
theorem bwf {b:Bool} {A B:Prop} (h1:b=false->A) (h2:b=true->B):(match (generalizing:=false) zcr b false with|true=>A|false=>B):=
 yhi (fun h=>h1 (by simpa [zcr] using h)) (fun h=>h2 (by simpa [zcr] using h))
theorem bnt {b:Bool} {A B:Prop} (h1:b=false->A) (h2:b=true->B):(match (generalizing:=false) !b with|true=>A|false=>B):=
 yhi (fun h=>h1 (by simpa using h)) (fun h=>h2 (by simpa using h))
theorem xae {p:Prop} {_:Decidable p} {A B:Prop} (h1:p->A) (h2:¬p->B):(match (generalizing:=false) zcr (decide p) true with|true=>A|false=>B):=yzt h1 h2
theorem xaf {p:Prop} {_:Decidable p} {A B:Prop} (h1:¬p->A) (h2:p->B):(match (generalizing:=false) zcr (decide p) false with|true=>A|false=>B):=ywr h1 h2
theorem xag {p:Prop} {_:Decidable p} {A B:Prop} (h1:¬p->A) (h2:p->B):(match (generalizing:=false) zcr (!decide p) true with|true=>A|false=>B):=ywr h1 h2
theorem xah {p:Prop} {_:Decidable p} {A B:Prop} (h1:p->A) (h2:¬p->B):(match (generalizing:=false) zcr (!decide p) false with|true=>A|false=>B):=
 bwf (fun h=>h1 (of_decide_eq_true (by simpa using h))) (fun h=>h2 (of_decide_eq_false (by simpa using h)))
def ytz (rd:Bool) (A B:Prop):Prop:=
 match rd with
 |true=>A
 |false=>B
structure R3 where
 go:List Item->List (Nat × SV)->List SObj->Prop
 gor:Array Oper->List Oper->List Item->List (Nat × SV)->List SObj->Prop
 gox:Array Oper->Oper->List Oper->List Item->List (Nat × SV)->List SObj->Prop
def yzu (E:En P G fn rd):R3:=⟨fun k t H=>SW E k t H,fun all rest k t H=>SWr E all rest k t H,fun all o rest k t H=>SWr E all (o::rest) k t H⟩
def rgo (R:R3) (k:List Item) (t:List (Nat × SV)) (H:List SObj):Prop:=R.go k t H
def znv (R:R3) (all:Array Oper) (rest:List Oper) (k:List Item) (t:List (Nat × SV)) (H:List SObj):Prop:=R.gor all rest k t H
def zuz (R:R3) (all:Array Oper) (o:Oper) (rest:List Oper) (k:List Item) (t:List (Nat × SV)) (H:List SObj):Prop:=R.gox all o rest k t H
def zdh (E : En P G fn rd) (R : R3) : List Item -> List (Nat × SV) -> List SObj -> Prop
  | [], t, H => ytz rd (E.KR none H) (match zfi P H t fn.results.toList with
      | some r => E.K r H
      | none => SW E [] t H)
  | .code (.seq a b) :: k, t, H => rgo R (.code a :: .code b :: k) t H
  | .code .skip :: k, t, H => rgo R k t H
  | .inBlock _ :: k, t, H => rgo R k t H
  | .code (.block id c) :: k, t, H => rgo R (.code c :: .inBlock id :: k) t H
  | .code (.exit id) :: k, t, H => match exitTo id k with
    | some k' => rgo R k' t H
    | none => ytz rd (E.KR (some (.exit id)) H) (SW E (.code (.exit id) :: k) t H)
  | .code (.cond c a b) :: k, t, H => match zl G t c with
    | .imm (.val (.bool v)) => match c with
      | .tmp d => zow v (rgo R (.code a :: k) (zaa d true :: t) H) (rgo R (.code b :: k) (zaa d false :: t) H)
      | _ => zow v (rgo R (.code a :: k) t H) (rgo R (.code b :: k) t H)
    | _ => SW E (.code (.cond c a b) :: k) t H
  | .code (.region _ all false) :: k, t, H => znv R all all.toList k t H
  | .code .ret :: k, t, H => ytz rd (E.KR (some .ret) H) (match zfi P H t fn.results.toList with
      | some r => E.K r H
      | none => SW E (.code .ret :: k) t H)
  | k, t, H => SW E k t H
def ybi (E : En P G fn rd) (R : R3) (all : Array Oper) : List Oper -> List Item -> List (Nat × SV) -> List SObj -> Prop
  | [], k, t, H => rgo R k t H
  | o :: rest, k, t, H => match yb fn.ntmps o.dst with
    | false => SWr E all (o :: rest) k t H
    | true => match zuy all t o.guard with
      | .bad => SWr E all (o :: rest) k t H
      | .free => zuz R all o rest k t H
      | .off => match o.dst with
        | some e => znv R all rest k ((e, sU) :: t) H
        | none => znv R all rest k t H
      | .on d b want => zow (zcr b want) (zuz R all o rest k (zaa d want :: t) H) (match o.dst with
        | some e => znv R all rest k ((e, sU) :: zaa d (!want) :: t) H
        | none => znv R all rest k (zaa d (!want) :: t) H)
def ykq (E:En P G fn rd) (st:List Nat) (R:R3) (all:Array Oper) (o:Oper) (rest:List Oper) (k:List Item) (t:List (Nat × SV)) (H:List SObj):Prop:=
 match zxi o.op (zl G t) st o.dst with
 |true=>SWr E all (o::rest) k t H
 |false=>match sop P o.op (zl G t) H with
  |some (r,H')=>fS r fun r=>fH st H' fun H'=>match o.dst with
   |some d=>znv R all rest k ((d,r)::t) H'
   |none=>znv R all rest k t H'
  |none=>SWr E all (o::rest) k t H
def zva (E:En P G fn rd) (st:List Nat) (R:R3):R3:=⟨zdh E R,ybi E R,ykq E st R⟩
noncomputable def sgoN (E:En P G fn rd) (st:List Nat) (n:Nat):R3:=Nat.rec (yzu E) (fun _ R=>zva E st R) n
noncomputable def sgo (E:En P G fn rd) (st:List Nat) (n:Nat) (k:List Item) (t:List (Nat × SV)) (H:List SObj):Prop:=(sgoN E st n).go k t H
noncomputable def sgor (E:En P G fn rd) (st:List Nat) (n:Nat) (all:Array Oper) (rest:List Oper) (k:List Item) (t:List (Nat × SV)) (H:List SObj):Prop:=(sgoN E st n).gor all rest k t H
theorem ykr (E:En P G fn rd) (st:List Nat) (n:Nat):sgoN E st (n+1)=zva E st (sgoN E st n):=rfl
theorem zvb {kk:Nat} {s:SV} {new:List (List D)} {r:SV} {H':List SObj} (h:zdf kk s new H=some (r,H')):H.length<=H'.length:=by
 unfold zdf at h;split at h<;>first|(cases h;done)|skip
 ·split at h<;>first|(cases h;done)|skip
  split at h<;>first|(cases h;done)|skip
  cases h;simp
 ·split at h<;>first|(cases h;done)|skip
  cases h;simp
theorem yua {op:Op} {ev:Operand->SV} {r:SV} {H':List SObj} (h:sop P op ev H=some (r,H')):H.length<=H'.length:=by
 have opt:∀{x:Option SV},x.map (fun s=>(s,H))=some (r,H')->H.length<=H'.length:=by
  intro x hx;cases x with
  |none=>simp at hx
  |some s=>simp at hx;rw [hx.2];exact Nat.le_refl _
 cases op<;>simp only [sop] at h<;>first|(cases h;done)|(exact opt h)|skip
 case move=>cases h;exact Nat.le_refl _
 case assign=>cases h;exact Nat.le_refl _
 case pick=>split at h<;>first|(cases h;done)|(cases h;exact Nat.le_refl _)
 case alloc e=>cases hz:jx P e<;>simp [hz] at h;obtain ⟨_,rfl⟩:=h;simp
 case box e x=>cases hz:(ev x).cells<;>simp [hz] at h;obtain ⟨_,rfl⟩:=h;simp
 case buildSlice=>
  unfold ww at h;split at h<;>first|(cases h;done)|skip
  split at h<;>first|(cases h;done)|skip
  split at h<;>first|(cases h;done)|skip
  split at h
  ·split at h<;>first|(cases h;done)|skip
   cases h;simp
  ·split at h<;>first|(cases h;done)|skip
   split at h<;>first|(cases h;done)|skip
   cases h;exact Nat.le_refl _
 case store t a x=>
  cases hz:zci P t H (ev a) (ev x)<;>simp [hz] at h;obtain ⟨_,rfl⟩:=h;unfold zci at hz;split at hz<;>first|(cases hz;done)|skip
  split at hz<;>first|(cases hz;done)|skip
  split at hz<;>first|(cases hz;done)|skip
  cases hz;simp
 case nilCheck=>split at h<;>first|(cases h;done)|(cases h;exact Nat.le_refl _)
 case binOp op t x y yt=>
  split at h<;>first|(cases h;done)|skip
  rename_i a b _ _
  cases hz:yay P op t a b<;>simp [hz] at h;rw [h.2];exact Nat.le_refl _
 case unOp op t x=>
  split at h<;>first|(cases h;done)|skip
  rename_i a _
  cases hz:sun op a<;>simp [hz] at h;rw [h.2];exact Nat.le_refl _
 case convert s d x=>
  split at h
  ·rename_i a _
   cases hz:yaz P s d a<;>simp [hz] at h;rw [h.2];exact Nat.le_refl _
  ·cases hz:zep P s d H (ev x)<;>simp [hz] at h
   rw [h.2];exact Nat.le_refl _
 case makeFunc=>cases h;exact Nat.le_refl _
 case makeMap t rs=>
  cases rs with
  |some _=>simp at h
  |none=>
   simp only [znu] at h;split at h<;>first|(cases h;done)|skip
   split at h<;>first|(cases h;done)|(cases h;simp)
 case makeSlice=>
  unfold zeq at h;split at h<;>first|(cases h;done)|skip
  split at h<;>first|(cases h;done)|skip
  split at h<;>first|(cases h;done)|skip
  split at h
  ·cases h;simp
  ·split at h<;>first|(cases h;done)|(cases h;simp)
 case slice t x lo hi mx=>
  cases mx with
  |some _=>simp at h
  |none=>exact opt h
 case indexAddr t x ix=>split at h<;>first|(cases h;done)|exact opt h
 case index t x ix=>split at h<;>first|(cases h;done)|exact opt h
 case mapUpdate t m kk x=>
  cases hz:zgo P t H (ev m) (ev kk) (ev x)<;>simp [hz] at h;obtain ⟨_,rfl⟩:=h;unfold zgo at hz;split at hz<;>first|(cases hz;done)|skip
  split at hz<;>first|(cases hz;done)|skip
  ·split at hz<;>first|(cases hz;done)|skip
   split at hz<;>first|(cases hz;done)|skip
   split at hz<;>first|(cases hz;done)|skip
   cases hz;simp
  ·split at hz<;>first|(cases hz;done)|skip
   split at hz<;>first|(cases hz;done)|skip
   cases hz;simp
 case call c=>
  obtain ⟨callee,args,tys⟩:=c;cases callee with
  |value _=>simp at h
  |invoke _ _=>simp at h
  |builtin b=>
   simp only [zfg] at h;split at h<;>first|(cases h;done)|skip
   ·rename_i x t _ _
    cases hz:ypg P t H x<;>simp [hz] at h;rw [h.2];exact Nat.le_refl _
   ·unfold zln at h
    split at h<;>first|(cases h;done)|skip
    split at h<;>first|(cases h;done)|skip
    split at h<;>first|(cases h;done)|skip
    exact zvb h
   ·split at h<;>first|(cases h;done)|(cases h;exact Nat.le_refl _)
   ·cases h;exact Nat.le_refl _
   ·cases h;exact Nat.le_refl _
theorem xz {d:Nat} {b:Bool} (hd:qh t d= .imm (.val (.bool b))) (n:Nat):qh (zaa d b::t) n=qh t n:=by
 show qh ((d,.imm (.val (.bool b)))::t) n=qh t n;simp only [qh]
 by_cases e:d=n
 ·rw [if_pos e, <-e];exact hd.symm
 ·rw [if_neg e]
theorem zox {t':List (Nat × SV)} (ht:∀n,qh t' n=qh t n) (h:SW E k t' H):SW E k t H:=
 ⟨fun a w I β cs hs=>h.run a w I β cs ⟨hs.heap,fun n=>by rw [ht];exact hs.tmps n,hs.size,hs.defers,hs.ext,hs.hlen⟩⟩
theorem yeo {all:Array Oper} {rest:List Oper} {t':List (Nat × SV)} (ht:∀n,qh t' n=qh t n) (h:SWr E all rest k t' H):SWr E all rest k t H:=
 ⟨fun j hj hd=>zox ht (h.run j hj hd)⟩
theorem zht {all:Array Oper} {g:Option (Nat × Bool)} (h:zuy all t g= .free):zu all t g=some true:=by
 unfold zuy at h;split at h
 ·rfl
 ·split at h<;>first|(cases h;done)|skip
  split at h<;>cases h
theorem zoy {all:Array Oper} {g:Option (Nat × Bool)} (h:zuy all t g= .off):zu all t g=some false:=by
 unfold zuy at h;split at h
 ·cases h
 ·split at h<;>first|(cases h;done)|skip
  rename_i hd
  split at h<;>first|(cases h;done)|skip
  rename_i hb
  simp only [zu,hd,hb]
theorem zvc {all:Array Oper} {g:Option (Nat × Bool)} {d:Nat} {b want:Bool} (h:zuy all t g= .on d b want):zu all t g=some (zcr b want)/\qh t d= .imm (.val (.bool b)):=by
 unfold zuy at h;split at h
 ·cases h
 ·rename_i j want'
  split at h<;>first|(cases h;done)|skip
  rename_i d' hd
  split at h<;>first|(cases h;done)|skip
  rename_i b' hb
  cases h;refine ⟨?_,hb⟩;simp only [zu,hd,hb];cases want<;>rfl
theorem wo {all:Array Oper} {g:Option (Nat × Bool)} {t':List (Nat × SV)} (ht:∀n,qh t' n=qh t n):zu all t' g=zu all t g:=by
 unfold zu;split
 ·rfl
 ·split
  ·rw [ht]
  ·rfl
theorem yep (st:List Nat) (n:Nat):(∀k t H,(sgoN E st n).go k t H->SW E k t H)/\(∀all rest k t H,(sgoN E st n).gor all rest k t H->SWr E all rest k t H)/\
  (∀all o rest k t H,yb fn.ntmps o.dst=true->zu all t o.guard=some true->(sgoN E st n).gox all o rest k t H->SWr E all (o::rest) k t H):=by
 induction n with
 |zero=>exact ⟨fun k t H h=>h,fun all rest k t H h=>h,fun all o rest k t H _ _ h=>h⟩
 |succ n ih=>
  rw [ykr];generalize sgoN E st n=R at ih ⊢;obtain ⟨ih1,ih2,ih3⟩:=ih;refine ⟨fun k t H h=>?_,fun all rest k t H h=>?_,fun all o rest k t H hd hw h=>?_⟩
  ·cases k with
   |nil=>
    cases rd with
    |true=>simp only [zva,rgo,znv,zuz,zdh,ytz] at h;exact zux none (.inl ⟨rfl,rfl⟩) h
    |false=>
    simp only [zva,rgo,znv,zuz,zdh,ytz] at h;split at h
    ·rename_i hr;exact ywq hr h
    ·exact h
   |cons x k=>
    cases x<;>first
     |(simp only [zva,rgo,znv,zuz,zdh] at h;exact yhd (ih1 _ _ _ h))
     |(simp only [zva,rgo,znv,zuz,zdh] at h;exact h)
     |skip
    rename_i c
    cases c<;>first
     |(simp only [zva,rgo,znv,zuz,zdh] at h;exact ywo (ih1 _ _ _ h))
     |(simp only [zva,rgo,znv,zuz,zdh] at h;exact ytu (ih1 _ _ _ h))
     |(simp only [zva,rgo,znv,zuz,zdh] at h;exact ypv (ih1 _ _ _ h))
     |(simp only [zva,rgo,znv,zuz,zdh] at h;exact h)
     |skip
    ·rename_i id all draw
     cases draw with
     |true=>simp only [zva,rgo,znv,zuz,zdh] at h;exact h
     |false=>simp only [zva,rgo,znv,zuz,zdh] at h;exact ykp (ih2 _ _ _ _ _ h)
    ·simp only [zva,rgo,znv,zuz,zdh] at h
     split at h
     ·rename_i v hc
      split at h
      ·rename_i d
       have hc':qh t d= .imm (.val (.bool v)):=hc;refine ykn hc (fun e=>?_) (fun e=>?_)
       ·subst e;exact zox (xz hc') (ih1 _ _ _ h)
       ·subst e;exact zox (xz hc') (ih1 _ _ _ h)
      ·exact ykn hc (fun e=>by subst e;exact ih1 _ _ _ h) (fun e=>by subst e;exact ih1 _ _ _ h)
     ·exact h
    ·simp only [zva,rgo,znv,zuz,zdh] at h
     split at h
     ·rename_i hk;exact ytv hk (ih1 _ _ _ h)
     ·rename_i hk
      cases rd with
      |true=>exact zux _ (.inr (.inr ⟨_,_,rfl,hk,rfl⟩)) h
      |false=>exact h
    ·cases rd with
     |true=>simp only [zva,rgo,znv,zuz,zdh,ytz] at h;exact zux _ (.inr (.inl ⟨_,rfl,rfl⟩)) h
     |false=>
     simp only [zva,rgo,znv,zuz,zdh,ytz] at h;split at h
     ·rename_i hr;exact ywp hr h
     ·exact h
  ·cases rest with
   |nil=>simp only [zva,rgo,znv,zuz,ybi] at h;exact ytx (ih1 _ _ _ h)
   |cons o rest=>
    simp only [zva,rgo,znv,zuz,ybi] at h;split at h
    ·exact h
    rename_i hd
    split at h
    ·exact h
    ·rename_i hg
     exact ih3 _ _ _ _ _ _ hd (zht hg) h
    ·rename_i hg
     refine yem (zoy hg) hd ?_;cases hdst:o.dst with
     |none=>rw [hdst] at h;exact ih2 _ _ _ _ _ h
     |some d=>rw [hdst] at h;exact ih2 _ _ _ _ _ h
    ·rename_i d b want hg
     obtain ⟨hw,htd⟩:=zvc hg;cases hwb:zcr b want with
     |true=>
      rw [hwb] at h hw;simp only [zow] at h;have e:b=want:=by cases b<;>cases want<;>simp_all [zcr]
      subst e;exact yeo (xz htd) (ih3 _ _ _ _ _ _ hd (by rw [wo (xz htd)];exact hw) h)
     |false=>
      rw [hwb] at h hw;simp only [zow] at h;have e:b= !want:=by cases b<;>cases want<;>simp_all [zcr]
      subst e;refine yeo (xz htd) (yem (by rw [wo (xz htd)];exact hw) hd ?_);cases hdst:o.dst with
      |none=>rw [hdst] at h;exact ih2 _ _ _ _ _ h
      |some d=>rw [hdst] at h;exact ih2 _ _ _ _ _ h
  ·simp only [zva,rgo,znv,zuz,ykq] at h
   split at h
   ·exact h
   split at h
   ·rename_i r H' hop
    rw [yhh,ypx] at h;refine qy hw hd hop (yua hop) ?_;cases hdst:o.dst with
    |none=>rw [hdst] at h;exact ih2 _ _ _ _ _ h
    |some d=>rw [hdst] at h;exact ih2 _ _ _ _ _ h
   ·exact h
theorem zm (st:List Nat) (n:Nat) (h:sgo E st n k t H):SW E k t H:=(yep st n).1 _ _ _ h
theorem zj (st:List Nat) (n:Nat) {all:Array Oper} {rest:List Oper} (h:sgor E st n all rest k t H):SWr E all rest k t H:=(yep st n).2.1 _ _ _ _ _ h
theorem ze (h:sgo E [777] 1000 k t H):SW E k t H:=zm [777] 1000 h
theorem xg (h:sgo E [] 1000 k t H):SW E k t H:=zm [] 1000 h
theorem zc {all:Array Oper} {rest:List Oper} (h:sgor E [777] 1000 all rest k t H):SWr E all rest k t H:=zj [777] 1000 h
theorem wa {all:Array Oper} {rest:List Oper} (h:sgor E [] 1000 all rest k t H):SWr E all rest k t H:=zj [] 1000 h
def keep (ks:List Nat) (t:List (Nat × SV)):List (Nat × SV):=ks.map fun n=>(n,qh t n)
theorem yks (ks:List Nat) (t:List (Nat × SV)) (n:Nat):qh (keep ks t) n=qh t n\/qh (keep ks t) n= .any:=by
 induction ks with
 |nil=>exact .inr rfl
 |cons m ks ih=>
  simp only [keep,List.map_cons,qh];split
  ·rename_i e;subst e;exact .inl rfl
  ·exact ih
theorem zg (ks:List Nat) (h:SW E k (keep ks t) H):SW E k t H:=⟨fun a w I β cs hs=>
 h.run a w I β cs ⟨hs.heap,fun n=>by
  rcases yks ks t n with e|e
  ·rw [e];exact hs.tmps n
  ·rw [e];exact .any _,hs.size,hs.defers,hs.ext,hs.hlen⟩⟩
end
section
variable {P:Program} {G:List (Nat × D)} {fn:Func} {rd:Bool} {E:En P G fn rd} {t:List (Nat × SV)} {H:List SObj} {k:List Item}
theorem SCall.mono {f:FuncId} {args:List SV} {K K':SV->List SObj->Prop} (h:SCall P G f args H K) (hK:∀r H',K r H'->K' r H'):SCall P G f args H K':=
 fun w I β vs hH hr=>(h w I β vs hH hr).mono fun _ _ ⟨v,r,I',β',H',h1,h2,h3⟩=>⟨v,r,I',β',H',h1,hK _ _ h2,h3⟩
def wk (P:Program) (f:FuncId):Bool:=
 match P.funcs[f]? with
 |some fn=>fn.body.isSome&& !(fn.name== "runtime.NumGoroutine")
 |none=>false
theorem jh {f:FuncId} {vs:Array Value} {w:World} (h:wk P f=true):(callFunc f vs).run P w= .ok (.enter f vs) w:=by
 unfold wk at h;cases hf:P.funcs[f]? with
 |none=>simp [hf] at h
 |some fn=>
  simp [hf] at h;obtain ⟨c,hc⟩:=Option.isSome_iff_exists.1 h.1;simp [callFunc,hf,h.2,hc]
theorem yhj {ops:Array Oper} {i:Nat} {rest:List Nat} {o:Oper} {fx:Operand} {args:Array Operand} {tys:Array TypeId} {f:FuncId} {first captured:List SV} (ho:ops[i]?=some o)
  (hw:zu ops t o.guard=some true) (hd:yb fn.ntmps o.dst=true) (hop:o.op= .call ⟨.value fx,args,tys⟩) (hf:zl G t fx= .fn (.func f) first captured) (hb:wk P f=true)
  (hc:SCall P G f (first++args.toList.map (zl G t)++captured) H (fun r H'=>H.length<=H'.length/\SW E (.inRegion ops rest::k) (xj t o.dst r) H')):
  SW E (.inRegion ops (i::rest)::k) t H:=by
 refine ⟨fun a w I β cs hs=>?_⟩;have hwant:=qv hw hs;have hfr:=hs.eval fx;rw [hf] at hfr;generalize hfv:a.eval fx=fv at hfr;cases hfr with
 |fn _ fs cps _ _ l1 l2 r1 r2=>
 have hrun:(execOp a.eval o).run P w= .ok (.enter f (fs++args.map a.eval++cps)) w:=by
  obtain ⟨dst,op,type,pos,after,guard⟩:=o;simp only at hop;subst hop;simp only [execOp,resolve,hfv,Deferred.ofValue,Sem.run_bind,Sem.run_pure,Result.andThen_ok,invoke];exact jh hb
 have hreps:Reps w I β (fs++args.map a.eval++cps).toList (first++args.toList.map (zl G t)++captured):=by
  have e1:Reps w I β fs.toList first:=.of_get l1 r1
  have e2:Reps w I β (args.map a.eval).toList (args.toList.map (zl G t)):=by simpa using zdy hs.eval args.toList
  have e3:Reps w I β cps.toList captured:=.of_get l2 r2;simpa using (e1.append e2).append e3
 obtain ⟨e,w',fr,hpost,hcomes,hfn,hleave⟩:=hc w I β _ hs.heap hreps (E.at a (.inRegion ops (i::rest)::k)::cs);obtain ⟨v,r,I',β',H',rfl,⟨hl,hsw⟩,hv,hH',hext⟩:=hpost;have hg:=jt (P:=P) (b:=E.base) (ro:=E.ro) (k:=k) (cs:=cs) (w:=w) (rest:=rest) ho hwant (.inr fun c e=>by rw [hop] at e;cases e);have henter:step P (lone (E.at a (.inRegion ops (i::rest)::k)) cs w)=
   .next (lone (Frame.enter P f (fs++args.map a.eval++cps) .normal) (E.at a (.inRegion ops (i::rest)::k)::cs) w):=
  step_lone_go (by unfold En.at;rw [hg];simp [stepG.apply,hrun,atR,Frame.at])
 have qr:(E.at a (.inRegion ops (i::rest)::k)).finish v=E.at (a.put o.dst v) (.inRegion ops rest::k):=by
  unfold En.at;rw [qm,ho];rfl
 have hsteps:Steps P (lone (E.at a (.inRegion ops (i::rest)::k)) cs w) (lone (E.at (a.put o.dst v) (.inRegion ops rest::k)) cs w'):=by
  refine .head henter (Steps.trans hcomes (.one ?_));rw [<-qr];exact step_leave_returned hleave
 exact .of_steps hsteps (hsw.run _ w' I' β' cs (hs.put hd hv hH' hext hl))
theorem zv {all:Array Oper} {o:Oper} {rest:List Oper} {fx:Operand} {args:Array Operand} {tys:Array TypeId} {f:FuncId} {first captured:List SV}
  (hop:o.op= .call ⟨.value fx,args,tys⟩) (hw:zu all t o.guard=some true) (hd:yb fn.ntmps o.dst=true) (hf:zl G t fx= .fn (.func f) first captured) (hb:wk P f=true)
  {argv:List SV} (hargs:first++args.toList.map (zl G t)++captured=argv)
  (hc:SCall P G f argv H (fun r H'=>H.length<=H'.length/\SWr E all rest k (xj t o.dst r) H')):SWr E all (o::rest) k t H:=by
 refine ⟨fun j hj hdrop=>?_⟩;obtain ⟨h1,h2,h3⟩:=xy hdrop;rw [zao h1];subst hargs;exact yhj h2 hw hd hop hf hb (hc.mono fun r H' ⟨a,b⟩=>⟨a,b.run (j+1) h1 h3⟩)
def zq (P:Program) (G:List (Nat × D)) (f:FuncId) (args:List SV) (r:SV):Prop:=∀H,SCall P G f args H (fun r' H'=>r'=r/\H'=H)
theorem yeq {all:Array Oper} {o:Oper} {rest:List Oper} {fx:Operand} {args:Array Operand} {tys:Array TypeId} {f:FuncId} {first captured:List SV} {r:SV}
  (hop:o.op= .call ⟨.value fx,args,tys⟩) (hw:zu all t o.guard=some true) (hd:yb fn.ntmps o.dst=true) (hf:zl G t fx= .fn (.func f) first captured) (hb:wk P f=true)
  {argv:List SV} (hargs:first++args.toList.map (zl G t)++captured=argv)
  (hc:zq P G f argv r) (h:SWr E all rest k (xj t o.dst r) H):SWr E all (o::rest) k t H:=
 zv hop hw hd hf hb hargs ((hc H).mono fun r' H' ⟨e1,e2⟩=>by subst e1 e2;exact ⟨Nat.le_refl _,h⟩)
theorem zd {all:Array Oper} {o:Oper} {rest:List Oper} {fx:Operand} {args:Array Operand} {tys:Array TypeId} {f:FuncId} {first captured:List SV} {r:SV} {argv:List SV} (e:(o.op,zu all t o.guard,yb fn.ntmps o.dst,zl G t fx,wk P f,first++args.toList.map (zl G t)++captured)=(.call ⟨.value fx,args,tys⟩,some true,true,.fn (.func f) first captured,true,argv)) (hc:zq P G f argv r) (h:SWr E all rest k (xj t o.dst r) H):SWr E all (o::rest) k t H:=yeq (congrArg (·.1) e) (congrArg (·.2.1) e) (congrArg (·.2.2.1) e) (congrArg (·.2.2.2.1) e) (congrArg (·.2.2.2.2.1) e) (congrArg (·.2.2.2.2.2) e) hc h
theorem yhk {w:World} {I:Imm} {β:List Bnd} {vs:List Value} {ss:List SV} (h:Reps w I β vs ss) (hu:ss.all (SV.under 0)=true):Reps w I [] vs ss:=
 ⟨h.len,fun j v s hv hs=>(h.rep j v s hv hs).mono_below (m:=0) (fun _ _ h=>h) (fun _ _ _=>rfl) (fun b _ hb=>absurd hb (Nat.not_lt_zero b)) (List.all_eq_true.1 hu s (List.mem_of_getElem? hs))⟩
theorem zcn (b c:Nat):¬wv [] [] b c:=fun ⟨_,_,h,_⟩=>by simp at h
theorem ypy {f:FuncId} {args:List SV} {r:SV} (hargs:args.all (SV.under 0)=true) (hr:r.under 0=true) (h:SCall P G f args [] (fun r' _=>r'=r)):zq P G f args r:=by
 intro H w I β vs hH hv;have h0:HeapOK G w I [] []:=⟨rfl,fun b o x h=>by simp at h,fun b b' c h=>absurd h (zcn b c),hH.inI,hH.glob⟩;refine (h w I [] vs h0 (yhk hv hargs)).mono ?_;rintro e w' ⟨v,r',I',β',H',rfl,rfl,h1,h2,h3⟩;have hold:∀c,c<w.heap.size->w'.heap[c]?=w.heap[c]?:=fun c hc=>h3.old c hc (fun b=>zcn b c)
 have hI':∀c o,I' c o->I c o\/w.heap.size<=c:=fun c o hi=>by
  rcases h3.new c o hi with h|⟨b,h⟩|h
  ·exact .inl h
  ·exact absurd h (zcn b c)
  ·exact .inr h
 refine ⟨v,r',I',β,H,rfl,⟨rfl,rfl⟩,?_,hH.grow hold h3.imm hI' h2.inI,.grow hH hold h3.size h3.imm hI' h3.env⟩;exact h1.mono_below (m:=0) (fun _ _ h=>h) (fun _ _ _=>rfl) (fun b _ hb=>absurd hb (Nat.not_lt_zero b)) hr
def zvd:Nat->List SV->List (Nat × SV)
 |_,[]=>[]
 |n,s::r=>(n,s)::zvd (n+1) r
theorem zst (ss:List SV):∀(m n:Nat),qh (zvd m ss) n=if m<=n then (ss[n-m]?).getD .any else .any:=by
 induction ss with
 |nil=>intro m n;simp [zvd,qh]
 |cons s ss ih=>
  intro m n;simp only [zvd,qh,ih]
  by_cases e:m=n
  ·subst e;simp
  ·rw [if_neg e]
   by_cases hle:m<=n
   ·rw [if_pos hle,if_pos (by omega),show n-m=(n-(m+1))+1 by omega]
    simp
   ·rw [if_neg hle,if_neg (by omega)]
theorem zse {f : FuncId} {args : List SV} {K : SV -> List SObj -> Prop} {c : Code} (hfn : P.funcs[f]? = some fn) (hb : fn.body = some c) (hn : args.length <= fn.ntmps)
    (w : World) (I : Imm) (β : List Bnd) (vs : Array Value) (hH : HeapOK G w I β H) (hv : Reps w I β vs.toList args)
    (h : ∀ E : En P G fn false, E.H.length = H.length -> E.w = w -> E.I = I -> E.β = β -> (∀ r H', K r H' -> E.K r H') -> SW E [.code c] (zvd 0 args) H) : Calls P f vs w (yyf G w I β H K) := by
  intro cs
  have hsz : vs.size = args.length := by have := hv.len; simpa using this
  have := (h ⟨f, hfn, w, I, β, H, K, 0, fun _ _ => False, fun _ _ => False⟩ rfl rfl rfl rfl (fun _ _ h => h)).run { tmps := vs ++ Array.replicate (fn.ntmps - vs.size) undef, defers := [] } w I β cs
    { heap := hH, size := by simp; omega, defers := .nil, ext := .refl, hlen := Nat.le_refl _
      tmps := fun n => by
        rw [zst]
        simp only [Nat.zero_le, if_true, Nat.sub_zero]
        rcases Nat.lt_or_ge n args.length with hlt | hge
        · have h1 : n < vs.size := by omega
          rw [List.getElem?_eq_getElem hlt]
          simp only [Option.getD_some]
          have h2 : (vs ++ Array.replicate (fn.ntmps - vs.size) undef).getD n undef = vs[n] := by
            rw [Array.getD_eq_getD_getElem?, Array.getElem?_append_left h1]
            simp [h1]
          rw [h2]
          exact hv.get.2 n hlt h1
        · rw [List.getElem?_eq_none hge]; exact .any _ }
  have henter : Frame.enter P f vs .normal = En.at (⟨f, hfn, w, I, β, H, K, 0, fun _ _ => False, fun _ _ => False⟩ : En P G fn false) { tmps := vs ++ Array.replicate (fn.ntmps - vs.size) undef, defers := [] } [.code c] := by
    simp [Frame.enter, Frame.at, hfn, hb, En.base, En.at, atR, En.ro]
  rw [henter]
  obtain ⟨e, w', fr, h1, h2⟩ := this
  rcases h1 with h1 | ⟨_, _, _, _, _, h1, _⟩
  · exact ⟨e, w', fr, h1, h2⟩
  · exact h1.elim
theorem zdz {f : FuncId} {args : List SV} {K : SV -> List SObj -> Prop} {KP : List PanicEntry -> List SObj -> Prop} {c : Code} (hfn : P.funcs[f]? = some fn) (hb : fn.body = some c) (hn : args.length <= fn.ntmps)
    (h : ∀ E : En P G fn false, E.H.length = H.length -> (∀ r H', K r H' -> E.K r H') -> (∀ ch H', KP ch H' -> E.KP ch H') -> SW E [.code c] (zvd 0 args) H) : SCallP P G f args H K KP := by
  intro w I β vs hH hv cs
  have hsz : vs.size = args.length := by have := hv.len; simpa using this
  have := (h ⟨f, hfn, w, I, β, H, K, 0, fun _ _ => False, KP⟩ rfl (fun _ _ h => h) (fun _ _ h => h)).run { tmps := vs ++ Array.replicate (fn.ntmps - vs.size) undef, defers := [] } w I β cs
    { heap := hH, size := by simp; omega, defers := .nil, ext := .refl, hlen := Nat.le_refl _
      tmps := fun n => by
        rw [zst]
        simp only [Nat.zero_le, if_true, Nat.sub_zero]
        rcases Nat.lt_or_ge n args.length with hlt | hge
        · have h1 : n < vs.size := by omega
          rw [List.getElem?_eq_getElem hlt]
          simp only [Option.getD_some]
          have h2 : (vs ++ Array.replicate (fn.ntmps - vs.size) undef).getD n undef = vs[n] := by
            rw [Array.getD_eq_getD_getElem?, Array.getElem?_append_left h1]
            simp [h1]
          rw [h2]
          exact hv.get.2 n hlt h1
        · rw [List.getElem?_eq_none hge]; exact .any _ }
  have henter : Frame.enter P f vs .normal = En.at (⟨f, hfn, w, I, β, H, K, 0, fun _ _ => False, KP⟩ : En P G fn false) { tmps := vs ++ Array.replicate (fn.ntmps - vs.size) undef, defers := [] } [.code c] := by
    simp [Frame.enter, Frame.at, hfn, hb, En.base, En.at, atR, En.ro]
  rw [henter]
  exact this
theorem ya {f:FuncId} {args:List SV} {K:SV->List SObj->Prop} {c:Code} (hfn:P.funcs[f]?=some fn) (hb:fn.body=some c) (hn:args.length<=fn.ntmps)
  (h:∀E:En P G fn false,E.H.length=H.length->(∀r H',K r H'->E.K r H')->SW E [.code c] (zvd 0 args) H):SCall P G f args H K:=
 fun w I β vs hH hv=>zse hfn hb hn w I β vs hH hv (fun E h1 _ _ _ h5=>h E h1 h5)
theorem zh {f:FuncId} {args:List SV} {r:SV} {c:Code} (hfn:P.funcs[f]?=some fn) (hb:fn.body=some c) (hn:args.length<=fn.ntmps) (hargs:args.all (SV.under 0)=true) (hr:r.under 0=true)
  (h:∀E:En P G fn false,E.H=[]->(∀H',E.K r H')->SW E [.code c] (zvd 0 args) []):zq P G f args r:=
 ypy hargs hr (ya hfn hb hn fun E hH hK=>h E (List.length_eq_zero_iff.1 (by simpa using hH)) (fun H'=>hK r H' rfl))
def SObj.under (m:Nat):SObj->Bool
 | .cells cs=>SV.under.allUnder m cs
 | .mapI _ es=>es.all fun e=>e.2.under m
 | .mapS es=>es.all fun e=>e.2.under m
 | .loop _ _ _ t _ _ _=>t.all fun e=>e.2.under m
 | .vec _ cs=>SV.under.allUnder m cs
 | .pin _ es _=>es.all fun e=>e.2.2.under m
 | .iter b _ _ _=>b<m
 |_=>true
theorem zes {m:Nat}:∀{t:List (Nat × SV)},t.all (fun e=>e.2.under m)=true->∀n,(qh t n).under m=true
 |[],_,_=>rfl
 |x::t,h,n=>by
  simp only [List.all_cons,Bool.and_eq_true] at h;simp only [qh];split
  ·exact h.1
  ·exact zes h.2 n
theorem zax {α:Type} {l:List α} {n b:Nat} {x:α} (h:(l.take n)[b]?=some x):b<n/\l[b]?=some x:=by
 rw [List.getElem?_take] at h;split at h
 ·rename_i hlt;exact ⟨hlt,h⟩
 ·cases h
theorem zlq (n:Nat) (β:List Bnd):Keeps n β (β.take n):=fun b x hb hx=>⟨x,by rw [List.getElem?_take,if_pos hb];exact hx,x.le_refl⟩
theorem zsu (n:Nat) (hE:E.H.length<=n) (hn:n<=H.length) (ht:t.all (fun x=>x.2.under n)=true) (hH:(H.take n).all (SObj.under n)=true) (h:SW E k t (H.take n)):SW E k t H:=by
 refine ⟨fun a w I β cs hs=>?_⟩;have hk:=zlq n β;have hmono:∀{v s},Rep w I β v s->s.under n=true->Rep w I (β.take n) v s:=fun hr hu=>hr.mono_below (fun _ _ h=>h) (fun _ _ _=>rfl) hk hu
 have hown:∀b c,wv (H.take n) (β.take n) b c->wv H β b c:=by
  rintro b c ⟨o,x,h1,h2,h3,h4⟩;exact ⟨o,x,(zax h1).2,h2,(zax h3).2,h4⟩
 have hlook:∀m,(qh t m).under n=true:=by
  intro m;clear hs h
  induction t with
  |nil=>rfl
  |cons x t ih=>
   simp only [List.all_cons,Bool.and_eq_true] at ht;simp only [qh];split
   ·exact ht.1
   ·exact ih ht.2
 refine h.run a w I (β.take n) cs ⟨⟨?_,?_,?_,hs.heap.inI,hs.heap.glob⟩,fun m=>hmono (hs.tmps m) (hlook m),hs.size,?_,?_,?_⟩
 ·simp [hs.heap.len]
 ·intro b o x h1 h2
  have ho:=hs.heap.obj b o x (zax h1).2 (zax h2).2;have hu:=List.all_eq_true.1 hH o (List.mem_of_getElem? h1);cases o with
  |cells l=>
   cases x with
   |blk c=>
    obtain ⟨vs,T,a1,a2,a3,a4⟩:=ho;exact ⟨vs,T,a1,a2,fun j hj hj'=>hmono (a3 j hj hj') (yj hu j hj),a4⟩
   |tok u=>exact ho
  |mapI kk es=>
   cases x with
   |blk c=>
    obtain ⟨vs,T,a1,a2,a3,a4⟩:=ho;exact ⟨vs,T,a1,a2,fun j hj hj'=>⟨(a3 j hj hj').1,hmono (a3 j hj hj').2 (List.all_eq_true.1 hu _ (List.getElem_mem hj))⟩,a4⟩
   |tok u=>exact ho
  |mapS es=>
   cases x with
   |blk c=>
    obtain ⟨vs,T,a1,a2,a3,a4⟩:=ho;exact ⟨vs,T,a1,a2,fun j hj hj'=>⟨(a3 j hj hj').1,hmono (a3 j hj hj').2 (List.all_eq_true.1 hu _ (List.getElem_mem hj))⟩,a4⟩
   |tok u=>exact ho
  |tok kk m=>
   cases x with
   |blk c=>exact ho
   |tok u=>exact ho
  |loop s f m' tt ps aaz bd=>
   cases x with
   |blk c=>
    obtain ⟨r,a1,a2,a3,a4,a5,a6,a7,a8,a9⟩:=ho;exact ⟨r,a1,a2,a3,a4,a5,a6,a7,fun m=>hmono (a8 m) (zes hu m),a9⟩
   |tok u=>exact ho
  |vec kk l=>
   cases x with
   |blk c=>exact ho
   |tok u=>
    rcases ho with ho|⟨c,n',cap,vs,T,rfl,a1,a2,a3,a4,a5,a6,a7⟩
    ·exact .inl ho
    ·exact .inr ⟨c,n',cap,vs,T,rfl,a1,a2,a3,a4,a5,fun j hj hj'=>hmono (a6 j hj hj') (yj hu j hj),a7⟩
  |dead=>trivial
  |free=>cases x<;>exact ho
  |bld T=>cases x<;>exact ho
  |btok T n=>cases x<;>exact ho
  |pin kk es clock=>
   cases x with
   |blk c=>
    obtain ⟨vs,a1,a2,a3,a4⟩:=ho;exact ⟨vs,a1,a2,fun j hj hj'=>⟨(a3 j hj hj').1,(a3 j hj hj').2.1,hmono (a3 j hj hj').2.2 (List.all_eq_true.1 hu _ (List.getElem_mem hj))⟩,a4⟩
   |tok u=>exact ho
  |iter m' since seen last=>
   cases x with
   |blk c=>
    obtain ⟨cm,a1,a2⟩:=ho;obtain ⟨y,hy,hl⟩:=hk m' _ (by simpa [SObj.under] using hu) a1;cases hl;exact ⟨cm,hy,a2⟩
   |tok u=>exact ho
 ·intro b b' c h1 h2;exact hs.heap.inj b b' c (hown b c h1) (hown b' c h2)
 ·obtain ⟨bs,d1,d2,d3⟩:=hs.defers
  exact ⟨bs,d1,d2,fun c hc=>⟨(d3 c hc).1,(d3 c hc).2.1,fun b hb=>(d3 c hc).2.2 b (hown b c hb)⟩⟩
 ·exact {hs.ext with keep:=hs.ext.keep.trans (hk.mono hE),own:=fun b c ho=>hs.ext.own b c (hown b c ho)}
 ·simp;omega
theorem zin {n kk:Nat} (hn:qh t n= .imm (.val (.slice none 0 0))) (h:SW E k ((n,.asl H.length kk [])::t) (H++[.tok kk 0])):SW E k t H:=by
 refine ⟨fun a w I β cs hs=>?_⟩;have hv:a.tmps.getD n undef= .slice none 0 0:=by
  have:=hs.tmps n;rw [hn] at this;generalize a.tmps.getD n undef=v at this;cases this with|imm this=>
  cases this with|val _=>rfl
 have hobj:ObjOK w I (β++[.tok (.slice none 0 0)]) (.tok kk 0) (.tok (.slice none 0 0)):=.inl ⟨rfl,rfl⟩;have hext:Ext H.length w I β H w I (β++[.tok (.slice none 0 0)]) (H++[.tok kk 0]):=.push hs.heap (fun c hc=>by cases hc);refine h.run a w I _ cs ⟨hs.heap.push hobj (fun b c hc=>by cases hc),fun m=>?_,hs.size,hs.defers.ext hext,hs.ext.trans (hext.weaken hs.hlen),by simp;have:=hs.hlen;omega⟩;simp only [qh];split
 ·rename_i e
  subst e;rw [hv];exact .asl H.length kk [] _ _ 0 (.islNil kk) (by rw [<-hs.heap.len];simp) ⟨_,_,rfl⟩ (Nat.le_refl _) (fun _=>rfl)
 ·exact (hs.tmps m).ext (by rw [hs.heap.len];exact hext)
end
end Go.Sh