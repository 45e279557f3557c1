/- Contracts of functions of the program, joined from TAb, TIa, TIb, TIc, TYh, TYi, TYs, TSh45, TYl, TYa, TYb, TYm, TYq, TSh43, TSh44, TYt, TYu, TYv, TSh52, TSh53, TYj, TYk, TYn, TYo, TYp, TYr, TYw: no condition. -/
import Derived.Test.YtjnddlifnkgncaaGreatDoorCF3
import Derived.Lib.SlicesCompact
import Derived.WalkKit
import Derived.ProofKit
import Derived.Lib.Walk
import Derived.Recover
import Derived.Laws.Pointers
set_option linter.unusedSimpArgs false
set_option linter.unusedVariables false
set_option maxRecDepth 100000
set_option maxHeartbeats 8000000
namespace Go.Proofs.YtjnddlifnkgncaaGreatDoor
open Go Go.Sh
mutual
def zyh (c:Codex) (m:List (Int × Int)):Ex->Prop
 | .mk op n u den ps ks=>zdp c m op n u den ps ks=true/\zvu c m ks
def zvu (c:Codex) (m:List (Int × Int)):List Ex->Prop
 |[]=>True
 |e::r=>zyh c m e/\zvu c m r
end
theorem zpx {c:Codex} {m:List (Int × Int)}:∀{ks:List Ex},zvu c m ks->∀k∈ks,zyh c m k
 |_::_,h,k,hk=>by
  unfold zvu at h;rcases List.mem_cons.1 hk with rfl|hk
  ·exact h.1
  ·exact zpx h.2 k hk
theorem yuu (c:Codex) (m:List (Int × Int)) (N:Nat):(∀e:Ex,SizeOf.sizeOf e<N->∀d cnt:Int,(qz c m e d cnt).1=true->zyh c m e/\(qz c m e d cnt).2=cnt+zbq e)/\
  (∀ks:List Ex,SizeOf.sizeOf ks<N->∀d cnt:Int,(jy c m ks d cnt).1=true->zvu c m ks/\(jy c m ks d cnt).2=cnt+zcv ks):=by
 induction N with
 |zero=>exact ⟨fun e h=>by omega,fun e h=>by omega⟩
 |succ N ih=>
  refine ⟨fun e he d cnt h=>?_,fun ks hk d cnt h=>?_⟩
  ·obtain ⟨op,n,u,den,ps,ks⟩:=e
   simp only [Ex.mk.sizeOf_spec] at he;have h1:=ih.2 ks (by omega) (d+1) (cnt+1);simp only [qz] at h ⊢;split at h
   ·cases h
   ·rename_i hc
    rw [if_neg hc]
    revert h h1
    cases jy c m ks (d+1) (cnt+1) with
    |mk b q=>
     cases b with
     |true=>
      intro h1 h;have h1:=h1 rfl;simp only at h h1 ⊢;refine ⟨?_,?_⟩
      ·unfold zyh;exact ⟨h,h1.1⟩
      ·rw [h1.2];unfold zbq;omega
     |false=>intro _ h;cases h
  ·cases ks with
   |nil=>simp [jy,zvu,zcv]
   |cons k r=>
    simp only [List.cons.sizeOf_spec] at hk;have h1:=ih.1 k (by omega) d cnt;simp only [jy] at h ⊢
    revert h h1
    cases qz c m k d cnt with
    |mk b q=>
     cases b with
     |true=>
      intro h h1;have h1:=h1 rfl;simp only at h h1 ⊢;have h2:=ih.2 r (by omega) d q h;refine ⟨?_,?_⟩
      ·unfold zvu;exact ⟨h1.1,h2.1⟩
      ·rw [h2.2,h1.2,zcv];omega
     |false=>intro h;cases h
theorem zyi {c:Codex} {m:List (Int × Int)} {e:Ex} {u:ByteArray} (h:(zac c m e u).1=true):zyh c m e/\zbq e<=400:=by
 unfold zac at h;split at h
 ·obtain ⟨h1,h2⟩:=(yuu c m _).1 e (Nat.lt_succ_self _) 1 0 h
  have h3:=((zyg c m _).1 e (Nat.lt_succ_self _) 1 0).2 h;exact ⟨h1,by omega⟩
 ·cases h
theorem zmu (nl:Int):∀(l:List Article) (m0 m:List (Int × Int)),jf nl l m0=some m->(∀k v,yf k m0=some v->1<=k/\k<=1000000)->∀k v,yf k m=some v->1<=k/\k<=1000000
 |[],m0,m,h,h0=>by simp [jf] at h;subst h;exact h0
 |a::r,m0,m,h,h0=>by
  simp only [jf] at h;split at h
  ·rename_i hc
   have h1:∀k v,yf k (zcz a.number a.line m0)=some v->1<=k/\k<=1000000:=fun k v hk=>by
    rw [zls] at hk;split at hk
    ·rename_i e
     have e:k=a.number:=by simpa using e
     subst e;exact ⟨hc.1,hc.2.1⟩
    ·exact h0 k v hk
   have hm:jf nl r (zcz a.number a.line m0)=some m:=by
    split at h
    ·split at h
     ·exact h
     ·cases h
    ·exact h
   exact zmu nl r _ m hm h1
  ·cases h
theorem zks {c:Codex} (h:zdq c=true):c.facts.length<=32/\c.arts.length<=60/\∃m,(∀k v,yf k m=some v->1<=k/\k<=1000000)/\∀a∈c.arts,
  zhb a=true/\a.unless_.all (fun n=>(yf n m).isSome)=true/\(∀e∈a.when_,zyh c m e/\zbq e<=400)/\zyh c m a.amount/\zbq a.amount<=400:=by
 unfold zdq at h;simp only [Bool.and_eq_true,decide_eq_true_eq] at h;obtain ⟨⟨⟨⟨⟨h1,h2⟩,h3⟩,h4⟩,h5⟩,h6⟩:=h;refine ⟨h1,h3,?_⟩;cases hl:jf c.lines.length c.arts [] with
 |none=>rw [hl] at h6;cases h6
 |some m=>
  rw [hl] at h6;simp only [List.all_eq_true] at h6;refine ⟨m,zmu _ _ _ _ hl (fun k v h=>by cases h),fun a ha=>?_⟩;have:=h6 a ha;unfold zsi at this;simp only [Bool.and_eq_true,List.all_eq_true] at this;obtain ⟨⟨⟨g1,g2⟩,g3⟩,g4⟩:=this;exact ⟨g1,List.all_eq_true.2 g2,fun e he=>zyi (g3 e he),zyi g4⟩
theorem yuv {c:Codex} {m:List (Int × Int)} {op n:Int} {u:ByteArray} {den:Int} {ps:List Piece} {ks:List Ex} (h:zdp c m op n u den ps ks=true):ps.length<=64:=by
 unfold zdp at h;split at h
 ·simp only [Bool.and_eq_true,zct,decide_eq_true_eq] at h
  exact h.2.1.2
 ·split at h
  ·cases h
  ·rename_i hh
   omega
def ycp (d:Int):Nat:=((List.range 1200).filter fun m=>decide (ycm (m+1)<=d)).length
def yfm (d:Int):Int × Int × Int:=
 if 0<=d/\d<=36524 then (2000+(ycp d / 12:Nat),(ycp d % 12:Nat)+1,d-ycm (ycp d)+1) else (0,0,0)
def yxc (d:Int):Int:=if 0<=d/\d<=36524 then (d+5).tmod 7+1 else 0
def inR (n:Int):Bool:=decide (-1000000000000<=n)&&decide (n<=1000000000000)
def b2i (b:Bool):Int:=if b then 1 else 0
abbrev PV:=Int × Bool
def noV:PV:=(0,false)
def yyv (a b:Int):PV:=if b≠0/\Int.tdiv 1000000000000 (max b (-b))<max a (-a) then noV else (a*b,true)
def yyw (a b:Int):PV:=if b<=0 then noV else (if a.tmod b<0 then a.tdiv b-1 else a.tdiv b,true)
def ysw (p den:Int):Int:=
 let q:=if p.tmod den<0 then p.tdiv den-1 else p.tdiv den
 let r:=if p.tmod den<0 then p.tmod den+den else p.tmod den
 if 2*r=den then (if q.tmod 2≠0 then q+1 else q) else if den<2*r then q+1 else q
def ysx (cents num den:Int):Int × Int:=
 if inR cents=false\/num< -1000000\/1000000<num\/den<1\/1000000<den then (0,1)
 else if inR (ysw (cents*num) den) then (ysw (cents*num) den,0) else (0,3)
def yqx (minutes cents:Int):PV:=((ysx cents minutes 60).1,decide ((ysx cents minutes 60).2=0))
def yuw (ps:List Piece) (x:Int):Option Piece:=(ps.filter fun p=>decide (p.lo<=x)).getLast?
def yux (ps:List Piece) (x:Int):Int:=match yuw ps x with|some p=>p.at_+p.slope*(x-p.lo)|none=>0
def yuy (a b:Int):Int:=if a.tmod b<0 then a.tdiv b-1 else a.tdiv b
def ysy (den:Int) (ps:List Piece) (x:Int):Int × Int:=
 if zct den ps=false\/x<0\/1000000000000<x then (0,1)
 else
  let n:=yux ps x
  let q:=yuy n den
  let t:=2*(n-q*den)
  let r:=if den<t\/(t=den/\q.tmod 2≠0) then q+1 else q
  if inR r then (r,0) else (0,3)
def yyx (op a b:Int):PV:=
 if op=8 then (b2i (decide (a=b)),true) else if op=9 then (b2i (decide (a<b)),true) else if op=10 then (b2i (decide (a<=b)),true)
 else if op=11 then (a+b,true) else if op=12 then (a-b,true) else if op=13 then yyv a b else if op=14 then yyw a b else if op=15 then yqx a b else noV
def ymd (and_:Bool) (x y:PV):PV:=
 if (x.2&&(decide (x.1=0)==and_))||(y.2&&(decide (y.1=0)==and_)) then (b2i (!and_),true) else (b2i and_,x.2&&y.2)
def yxd (least:Bool):Int->List PV->PV
 |acc,[]=>(acc,true)
 |acc,x::r=>if x.2 then yxd least (if least then min acc x.1 else max acc x.1) r else noV
def yme (least:Bool):List PV->PV
 |[]=>noV
 |x::r=>if x.2 then yxd least x.1 r else noV
def yxe (V:View) (am:List (Int × Int)) (op n:Int):PV:=
 if op=1 then (n,true)
 else if op=2 then
  (if n<0\/(V.has.length:Int)<=n\/(V.value.length:Int)<=n\/V.has.getD n.toNat false=false then noV else (V.value.getD n.toNat 0,true))
 else if op=3 then ((yf n am).getD 0,true)
 else if (yfm V.day).1=0 then noV
 else if n=1 then (yxc V.day,true) else if n=2 then ((yfm V.day).2.2,true) else if n=3 then ((yfm V.day).2.1,true) else if n=4 then ((yfm V.day).1,true) else noV
def yyy (op den:Int) (ps:List Piece) (a:Int):PV:=
 if op=5 then (b2i (decide (a=0)),true) else ((ysy den ps (max a 0)).1,decide ((ysy den ps (max a 0)).2=0))
def yyz (V:View) (am:List (Int × Int)) (op n den:Int) (ps:List Piece) (vs:List PV):PV:=
 if 1<=op/\op<=4 then (if vs.length=0 then yxe V am op n else noV)
 else if op=16\/op=17 then yme (decide (op=16)) vs
 else if op=5\/op=18 then (match vs with|[x]=>if x.2 then yyy op den ps x.1 else noV|_=>noV)
 else match vs with
  |[x,y]=>if op=6\/op=7 then ymd (decide (op=6)) x y else if x.2&&y.2 then yyx op x.1 y.1 else noV
  |_=>noV
def yzx (x:PV):PV:=if x.2&&inR x.1 then x else noV
mutual
def yza (V:View) (am:List (Int × Int)):Ex->PV
 | .mk op n _ den ps ks=>yzx (yyz V am op n den ps (ysz V am ks))
def ysz (V:View) (am:List (Int × Int)):List Ex->List PV
 |[]=>[]
 |e::r=>yza V am e::ysz V am r
end
def Piece.key (p:Piece):Int × Int × Int:=(p.lo,p.at_,p.slope)
mutual
def zyj:Ex->Ex->Bool
 | .mk op n u den ps ks,.mk op' n' u' den' ps' ks'=>decide (op=op')&&decide (n=n')&&decide (u=u')&&decide (den=den')&&decide (ps.map Piece.key=ps'.map Piece.key)&&zsj ks ks'
def zsj:List Ex->List Ex->Bool
 |[],[]=>true
 |a::r,b::s=>zyj a b&&zsj r s
 |[],_::_=>false
 |_::_,[]=>false
end
def yuz (list parts:List Ex):Bool:=parts.all fun p=>list.any fun e=>zyj e p
def zcw (c:Codex) (i:Int):Option Article:=if i<0 then none else c.arts[i.toNat]?
def yva (c:Codex) (i j:Int):Bool:=
 match zcw c i,zcw c j with
 |some x,some y=>
  if x.line≠y.line\/x.number=y.number then false
  else if x.rank≠y.rank then decide (y.rank<x.rank)
  else if yuz x.when_ y.when_≠yuz y.when_ x.when_ then yuz x.when_ y.when_
  else decide (y.known<x.known)
 |_,_=>false
mutual
def wn:Ex->List Int
 | .mk op n _ _ _ ks=>(if op=3 then [n] else [])++zia ks
def zia:List Ex->List Int
 |[]=>[]
 |e::r=>wn e++zia r
end
def ycq (a:Article):List Int:=a.unless_++zia a.when_++wn a.amount
def yta (c:Codex) (names:List Int) (v:Int):List Article->Nat->List Int
 |[],_=>[]
 |a::r,i=>(if a.number∈names\/yva c i v=true then [(i:Int)] else [])++yta c names v r (i+1)
def yzb (c:Codex) (v:Int):List Int:=match zcw c v with|some a=>yta c (ycq a) v c.arts 0|none=>[]
structure Efct where
 art:Int
 state:Int
 by_:Int
 amount:Int
def Efct.cells (e:Efct):List D:=[dI e.art,dI e.state,dI e.by_,dI e.amount]
def Efct.sv (e:Efct):SV:=.agg [sI e.art,sI e.state,sI e.by_,sI e.amount]
def ymf (c:Codex) (i:Int):Int:=match zcw c i with|some a=>a.number|none=>0
abbrev wi (n:Int):Int:=IntKind.i64.wrap n
def zhc (a b:Int):Int:=if a.tmod b<0 then wi (wi (a.tdiv b)-1) else wi (a.tdiv b)
def zyk (a b:Int):Int:=
 if b<wi (2*wi (a-wi (zhc a b*b)))\/(wi (2*wi (a-wi (zhc a b*b)))=b/\¬(zhc a b).tmod 2=0) then wi (zhc a b+1) else zhc a b
def ziv:Piece->List Piece->Int->Piece
 |p,[],_=>p
 |p,o::r,x=>ziv (if o.lo<=x then o else p) r x
def ywj (den:Int) (ps:List Piece) (x:Int):Int:=
 match ps with
 |[]=>0
 |p0::r=>zyk (wi ((ziv p0 (p0::r) x).at_+wi ((ziv p0 (p0::r) x).slope*wi (x-(ziv p0 (p0::r) x).lo)))) den
def mxA (a b:Int):Int:=if b>a then b else a
def mnA (a b:Int):Int:=if b<a then b else a
def yxf (a b:Int):Bool:=decide (b=0)||decide (mxA a (wi (0-a))<=wi (Int.tdiv 1000000000000 (mxA b (wi (0-b)))))
def zpy (op a b:Int):Option Int:=
 if op=8 then some (b2i (decide (a=b)))
 else if op=9 then some (b2i (decide (a<b)))
 else if op=10 then some (b2i (decide (a<=b)))
 else if op=11 then some (wi (a+b))
 else if op=12 then some (wi (a-b))
 else if op=13 then (if yxf a b=true then some (wi (a*b)) else none)
 else if op=14 then (if 0<b then some (zhc a b) else none)
 else if op=15 then (if-1000000<=a/\a<=1000000 then some (zyk (wi (a*b)) 60) else none)
 else if op=16 then some (mnA a b)
 else some (mxA a b)
def ycr (y:Int):Int:=if y.tmod 4=0 then 366 else 365
def yGo:Nat->Int->Int->Int × Int
 |0,y,r=>(y,r)
 |f+1,y,r=>if ycr y<=r then yGo f (y+1) (r-ycr y) else (y,r)
def yvb (y:Int):List Int:=[31,ycr y-337,31,30,31,30,31,31,30,31,30,31]
def mGo:List Int->Int->Int->Int × Int
 |[],m,r=>(m,r)
 |l::ls,m,r=>if l<=r then mGo ls (m+1) (r-l) else (m,r)
def ymg (d:Int):List Int:=
 [(d+5).tmod 7+1,(mGo (yvb (yGo 200 2000 d).1) 0 (yGo 200 2000 d).2).2+1,(mGo (yvb (yGo 200 2000 d).1) 0 (yGo 200 2000 d).2).1+1,(yGo 200 2000 d).1]
structure AM where
 day:Int
 has:List Bool
 vals:List Int
 nums:List Int
def yif (dec:Bool):Bool->List (Option Int)->Option Int
 |complete,[]=>if complete then some (b2i (!dec)) else none
 |complete,v::r=>if v.isSome&&((!decide (v.getD 0=0))==dec) then some (b2i dec) else yif dec (complete&&v.isSome) r
def zpz (op:Int):Int->List (Option Int)->Option Int
 |a,[]=>some a
 |_,none::_=>none
 |a,some b::r=>match zpy op a b with|some n=>zpz op n r|none=>none
def ykb (S:AM) (am:List (Int × Int)) (op n den:Int) (ps:List Piece) (vs:List (Option Int)):Option Int:=
 if op=1 then some n
 else if op=2 then (if S.has.getD n.toNat false=true then some (S.vals.getD n.toNat 0) else none)
 else if op=3 then some ((yf n am).getD 0)
 else if op=4 then some ((ymg S.day).getD (n-1).toNat 0)
 else if op=6 then yif false true vs
 else if op=7 then yif true true vs
 else match vs with
  |[]=>none
  |none::_=>none
  |some v::r=>if op=5 then some (b2i (decide (v=0))) else if op=18 then some (ywj den ps (mxA v 0)) else zpz op v r
def yqy (x:Option Int):Option Int:=match x with|some n=>if-1000000000000<=n/\n<=1000000000000 then some n else none|none=>none
mutual
def zcg (S:AM) (am:List (Int × Int)):Ex->Option Int
 | .mk op n _ den ps ks=>yqy (ykb S am op n den ps (yqz S am ks))
def yqz (S:AM) (am:List (Int × Int)):List Ex->List (Option Int)
 |[]=>[]
 |e::r=>zcg S am e::yqz S am r
end
theorem yra (S:AM) (am:List (Int × Int)) (l:List Ex):yqz S am l=l.map (zcg S am):=by
 induction l with
 |nil=>rfl
 |cons e r ih=>simp [yqz,ih]
def ykc (all some_:List Ex):Bool:=some_.all fun p=>all.any fun e=>zyj p e
def zvv (x y:Article):Bool:=
 if ¬x.line=y.line\/x.number=y.number then false
 else if ¬x.rank=y.rank then decide (y.rank<x.rank)
 else if ¬ykc x.when_ y.when_=ykc y.when_ x.when_ then ykc x.when_ y.when_
 else decide (y.known<x.known)
def zti (a o:Article):Bool:=decide (o.number∈ycq a)||zvv o a
def zhd (c:Codex) (i j:Int):Bool:=match zcw c i,zcw c j with|some a,some o=>zti a o|_,_=>false
def zvw (d:Decl) (person:ByteArray) (day known:Int) (s:Bool × Int × Int) (x:Fact × Nat):Bool × Int × Int:=
 if ¬x.1.person=person\/¬x.1.name=d.name\/day<x.1.lo\/x.1.hi<=day\/known<x.1.known then s
 else (!x.1.gone&&(!decide (d.unit=tT)||decide (x.1.value=0)||decide (x.1.value=1)),x.1.value,x.2)
def zhe (l:List Fact) (person:ByteArray) (day known:Int) (d:Decl):Bool × Int × Int:=l.zipIdx.foldl (zvw d person day known) (false,0,0)
def zbr (c:Codex) (l:List Fact) (person:ByteArray) (day known:Int):AM:=
 ⟨day,c.facts.map fun d=>(zhe l person day known d).1,c.facts.map fun d=>(zhe l person day known d).2.1,c.facts.map fun d=>(zhe l person day known d).2.2⟩
def zay (c:Codex) (day known:Int) (m:List (Int × Int)) (x:Article × Nat):List (Int × Int):=
 if day<x.1.lo\/x.1.hi<=day\/known<x.1.known then m
 else match yf x.1.number m with
  |none=>zcz x.1.number x.2 m
  |some o=>match zcw c o with
   |some b=>if b.known<=x.1.known then zcz x.1.number x.2 m else m
   |none=>m
def yrb (c:Codex) (day known:Int):List (Int × Int):=c.arts.zipIdx.foldl (zay c day known) []
def yig (c:Codex) (i:Nat):Int:=((List.range c.arts.length).filter fun (j:Nat)=>zhd c i j).length
def yrc (c:Codex) (j:Int):List Int:=((List.range c.arts.length).filter fun (i:Nat)=>zhd c i j).map fun (i:Nat)=>(i:Int)
def zel (s:List Int × List Int) (i:Int):List Int × List Int:=
 (s.1.set i.toNat (s.1.getD i.toNat 0-1),if s.1.getD i.toNat 0-1=0 then s.2++[i] else s.2)
def zbf (c:Codex):Nat->Nat->List Int × List Int->List Int × List Int
 |0,_,s=>s
 |f+1,next,s=>match s.2[next]? with
  |none=>s
  |some v=>zbf c f (next+1) ((yrc c v).foldl zel s)
def zda (c:Codex):List Int × List Int:=
 ((List.range c.arts.length).map (yig c),((List.range c.arts.length).filter fun (i:Nat)=>decide (yig c i=0)).map fun (i:Nat)=>(i:Int))
def yih (c:Codex):List Int:=(zbf c (c.arts.length+1) 0 (zda c)).2
def inA (c:Codex) (day known:Int):List Int:=zbz ((yrb c day known).map (·.2))
def yxg (c:Codex) (a:Article) (o:Int):Bool:=match zcw c o with|some b=>decide (b.number∈a.unless_)||zvv b a|none=>false
def zfs (c:Codex) (a:Article) (v:Int) (st:List (Int × Int)) (o:Int):List (Int × Int):=
 if (yf o st).getD 0=2/\¬o=v/\yxg c a o=true then zcz v 1 st else st
def ymh (S:AM) (am:List (Int × Int)) (a:Article):Bool:=
 (zcg S am a.amount).isSome&&a.when_.all fun w=>(zcg S am w).isSome&& !decide ((zcg S am w).getD 0=0)
def zsk (c:Codex) (S:AM) (inF:List Int) (s:List (Int × Int) × List (Int × Int)) (v:Int):List (Int × Int) × List (Int × Int):=
 match zcw c v with
 |none=>s
 |some a=>
  if v∈inF then
   if ymh S s.2 a=true then
    let st:=inF.foldl (zfs c a v) (zcz v 2 (zcz v 0 s.1))
    (st,if (yf v st).getD 0=2 then zcz a.number ((zcg S s.2 a.amount).getD 0) s.2 else s.2)
   else (zcz v 0 s.1,s.2)
  else s
def yxh (c:Codex) (S:AM) (inF seq:List Int):List (Int × Int) × List (Int × Int):=seq.foldl (zsk c S inF) ([],[])
mutual
def zav:Ex->List Bool->List Bool
 | .mk op n _ _ _ ks,used=>zfa ks (if op=2 then used.set n.toNat true else used)
def zfa:List Ex->List Bool->List Bool
 |[],used=>used
 |e::r,used=>zfa r (zav e used)
end
structure Ln where
 day:Int
 line:Int
 art:Int
 amount:Int
 facts:List Int
 rests:List Int
def zjn (c:Codex) (a:Article):List Bool:=zfa a.when_ (zav a.amount (List.replicate c.facts.length false))
def zhf (S:AM) (used:List Bool):List Int:=Go.Lib.compact (zbz (((List.range used.length).filter fun i=>used.getD i false&&S.has.getD i false).map fun i=>S.nums.getD i 0))
def ztj (a:Article) (n:Int):Bool:=decide (n∈wn a.amount)||decide (n∈zia a.when_)
def zkt (c:Codex) (inF:List Int) (st:List (Int × Int)) (a:Article):List Int:=
 inF.filter fun o=>ztj a (ymf c o)&&decide ((yf o st).getD 0=2)
def zqa (c:Codex) (S:AM) (inF:List Int) (s:List (Int × Int) × List (Int × Int)) (v:Int) (a:Article):Ln:=
 ⟨S.day,a.line,v,(yf a.number s.2).getD 0,zhf S (zjn c a),zkt c inF s.1 a⟩
def yfn (x y:Ln):Bool:=decide (x.line=y.line)&&decide (x.amount=y.amount)&&decide (x.facts=y.facts)&&decide (x.rests=y.rests)
def zft (c:Codex) (S:AM) (inF:List Int) (s:List (Int × Int) × List (Int × Int)) (line:Ln):Bool:=
 match zcw c line.art with
 |some a=>if line.art∈inF/\(yf line.art s.1).getD 0=2 then yfn (zqa c S inF s line.art a) line else false
 |none=>false
def zcx (c:Codex) (l:List Fact) (person:ByteArray) (known:Int) (line:Ln):Bool:=
 zdq c&&zjk l&&(decide (0<=line.day)&&decide (line.day<=36524))&&(decide (0<=known)&&decide (known<=36524))&&decide ((yih c).length=c.arts.length)&&
  zft c (zbr c l person line.day known) (inA c line.day known) (yxh c (zbr c l person line.day known) (inA c line.day known) (yih c)) line
def ypl (c:Codex) (i j:Nat):Int:=((List.range j).filter fun (j:Nat)=>zhd c i j).length
def ytb (c:Codex) (i:Nat) (j:Nat):List Int:=((List.range i).filter fun (i:Nat)=>zhd c i j).map fun (i:Nat)=>(i:Int)
theorem zyl (c:Codex) (i j:Nat):ypl c i (j+1)=ypl c i j+if zhd c i j=true then 1 else 0:=by
 unfold ypl;rw [List.range_succ,List.filter_append]
 by_cases h:zhd c i j=true
 ·simp [h]
 ·simp [h]
theorem zly (c:Codex) (i j:Nat):0<=ypl c i j/\ypl c i j<=j:=by
 unfold ypl;have:=List.length_filter_le (fun (j:Nat)=>zhd c i j) (List.range j);simp only [List.length_range] at this;omega
theorem ymi (c:Codex) (i j:Nat):ytb c (i+1) j=ytb c i j++if zhd c i j=true then [(i:Int)] else []:=by
 unfold ytb;rw [List.range_succ,List.filter_append,List.map_append]
 by_cases h:zhd c i j=true
 ·simp [h]
 ·simp [h]
theorem yrd (c:Codex) (i j:Nat):(ytb c i j).length<=i:=by
 unfold ytb;have:=List.length_filter_le (fun (i:Nat)=>zhd c i j) (List.range i);simp only [List.length_map,List.length_range] at this ⊢;exact this
structure MInv (c:Codex) (i j:Nat) (M:List Int) (A:List (List Int)):Prop where
 ml:M.length=c.arts.length
 al:A.length=c.arts.length
 m:∀k,k<c.arts.length->M[k]?=some (if k<i then ypl c k c.arts.length else if k=i then ypl c i j else 0)
 a:∀k,k<c.arts.length->A[k]?=some (ytb c i k++if k<j/\zhd c i k=true then [(i:Int)] else [])
theorem yii (c:Codex):MInv c 0 0 (List.replicate c.arts.length 0) (List.replicate c.arts.length []) where
 ml:=by simp
 al:=by simp
 m k hk:=by
  rw [List.getElem?_replicate,if_pos hk,if_neg (by omega)];split<;>rfl
 a k hk:=by
  rw [List.getElem?_replicate,if_pos hk,if_neg (by omega)];rfl
theorem yvc {c:Codex} {i j:Nat} {M:List Int} {A:List (List Int)} (h:MInv c i j M A) (hn:zhd c i j=false):MInv c i (j+1) M A where
 ml:=h.ml
 al:=h.al
 m k hk:=by
  rw [h.m k hk,zyl,hn];simp
 a k hk:=by
  rw [h.a k hk]
  congr 2
  by_cases e:k=j
  ·subst e
   rw [if_neg (by omega),if_neg (by rw [hn];simp)]
  ·by_cases hlt:k<j
   ·simp [hlt,show k<j+1 by omega]
   ·simp [hlt,show ¬k<j+1 by omega]
theorem yrf {c:Codex} {i j:Nat} {M:List Int} {A:List (List Int)} (h:MInv c i j M A) (hn:zhd c i j=true) (hi:i<c.arts.length) (hj:j<c.arts.length):
  MInv c i (j+1) (M.set i (ypl c i j+1)) (A.set j (ytb c i j++[(i:Int)])) where
 ml:=by rw [List.length_set];exact h.ml
 al:=by rw [List.length_set];exact h.al
 m k hk:=by
  rw [List.getElem?_set]
  by_cases e:i=k
  ·subst e
   rw [if_pos rfl,if_pos (by rw [h.ml];exact hi),if_neg (by omega),if_pos rfl,zyl,if_pos hn]
  ·rw [if_neg e,h.m k hk,if_neg (Ne.symm e),if_neg (Ne.symm e)]
 a k hk:=by
  rw [List.getElem?_set]
  by_cases e:j=k
  ·subst e
   rw [if_pos rfl,if_pos (by rw [h.al];exact hj),if_pos ⟨by omega,hn⟩]
  ·rw [if_neg e,h.a k hk]
   by_cases hlt:k<j
   ·simp [hlt,show k<j+1 by omega]
   ·simp [hlt,show ¬k<j+1 by omega]
theorem ymj {c:Codex} {i:Nat} {M:List Int} {A:List (List Int)} (h:MInv c i c.arts.length M A):MInv c (i+1) 0 M A where
 ml:=h.ml
 al:=h.al
 m k hk:=by
  rw [h.m k hk]
  by_cases h1:k<i
  ·rw [if_pos h1,if_pos (by omega)]
  ·by_cases h2:k=i
   ·subst h2
    rw [if_neg h1,if_pos rfl,if_pos (by omega)]
   ·rw [if_neg h1,if_neg h2,if_neg (by omega)]
    split
    ·rfl
    ·rfl
 a k hk:=by
  have e:¬(k<0/\zhd c ((i+1:Nat):Int) k=true):=fun x=>absurd x.1 (Nat.not_lt_zero k)
  rw [h.a k hk,ymi,if_neg e,List.append_nil]
  congr 2
  simp [hk]
theorem yrg {c:Codex} {M:List Int} {A:List (List Int)} (h:MInv c c.arts.length 0 M A):M=(List.range c.arts.length).map (yig c)/\A=(List.range c.arts.length).map (fun (j:Nat)=>yrc c j):=by
 constructor
 ·apply List.ext_getElem?
  intro k;rcases Nat.lt_or_ge k c.arts.length with hk|hk
  ·rw [h.m k hk,if_pos hk,List.getElem?_map,List.getElem?_range hk]
   rfl
  ·rw [List.getElem?_eq_none (by rw [h.ml];exact hk),List.getElem?_eq_none (by simpa using hk)]
 ·apply List.ext_getElem?
  intro k;rcases Nat.lt_or_ge k c.arts.length with hk|hk
  ·rw [h.a k hk,if_neg (by omega),List.append_nil,List.getElem?_map,List.getElem?_range hk]
   rfl
  ·rw [List.getElem?_eq_none (by rw [h.al];exact hk),List.getElem?_eq_none (by simpa using hk)]
def ytc (l:List Int):Nat:=l.countP fun x=>decide (1<=x)
structure SInv (c:Codex) (lo:Int) (s:List Int × List Int):Prop where
 len:s.1.length=c.arts.length
 rng:∀x∈s.1,lo<=x/\x<=c.arts.length
 cnt:s.2.length+ytc s.1=c.arts.length
 mem:∀v∈s.2,0<=v/\v<c.arts.length
theorem zym {c:Codex} {lo lo':Int} {s:List Int × List Int} (h:SInv c lo s) (hl:lo'<=lo):SInv c lo' s:=
 ⟨h.len,fun x hx=>⟨by have:=(h.rng x hx).1;omega,(h.rng x hx).2⟩,h.cnt,h.mem⟩
theorem ymk {c:Codex} {lo:Int} {s:List Int × List Int} (h:SInv c lo s) {i:Int} (h0:0<=i) (h1:i<c.arts.length):SInv c (lo-1) (zel s i):=by
 have hlt:i.toNat<s.1.length:=by rw [h.len];omega
 have hg:s.1.getD i.toNat 0=s.1[i.toNat]:=by rw [List.getD_eq_getElem?_getD,List.getElem?_eq_getElem hlt];rfl
 have hr:=h.rng _ (List.getElem_mem hlt);have hle:ytc s.1<=s.1.length:=List.countP_le_length;have hp:ytc (s.1.set i.toNat (s.1[i.toNat]-1))=(ytc s.1-if decide (1<=s.1[i.toNat])=true then 1 else 0)+if decide (1<=s.1[i.toNat]-1)=true then 1 else 0:=List.countP_set hlt
 have hp1:1<=s.1[i.toNat]->1<=ytc s.1:=fun hh=>List.countP_pos_iff.2 ⟨_,List.getElem_mem hlt,by simpa using hh⟩
 unfold zel;rw [hg];refine ⟨by rw [List.length_set];exact h.len,fun x hx=>?_,?_,fun v hv=>?_⟩
 ·rcases List.mem_or_eq_of_mem_set hx with hx|rfl
  ·have:=h.rng x hx
   omega
  ·omega
 ·have hc:=h.cnt
  show (if s.1[i.toNat]-1=0 then s.2++[i] else s.2).length+ytc (s.1.set i.toNat (s.1[i.toNat]-1))=_;rw [hp]
  by_cases e1:s.1[i.toNat]-1=0
  ·have:=hp1 (by omega)
   rw [if_pos e1,if_pos (by simp;omega),if_neg (by simp;omega),List.length_append,List.length_singleton];omega
  ·rw [if_neg e1]
   by_cases e2:1<=s.1[i.toNat]
   ·have:=hp1 e2
    rw [if_pos (by simpa using e2),if_pos (by simp;omega)];omega
   ·rw [if_neg (by simpa using e2),if_neg (by simp;omega)]
    omega
 ·simp only at hv
  split at hv
  ·rcases List.mem_append.1 hv with hv|hv
   ·exact h.mem v hv
   ·rw [List.mem_singleton] at hv
    subst hv;exact ⟨h0,h1⟩
  ·exact h.mem v hv
theorem ztk (c:Codex):SInv c 0 (zda c):=by
 refine ⟨by simp [zda],fun x hx=>?_,?_,fun v hv=>?_⟩
 ·simp only [zda,List.mem_map] at hx
  obtain ⟨k,_,rfl⟩:=hx;exact zly c k c.arts.length
 ·have key:∀n:Nat,(((List.range n).filter fun (i:Nat)=>decide (yig c i=0)).map fun (i:Nat)=>(i:Int)).length+ytc ((List.range n).map (yig c))=n:=fun n=>by
   induction n with
   |zero=>rfl
   |succ n ih=>
    have hr:=zly c n c.arts.length;have hr:0<=yig c n:=hr.1;unfold ytc at ih ⊢;rw [List.range_succ,List.filter_append,List.map_append,List.map_append,List.countP_append,List.length_append]
    by_cases e:yig c n=0
    ·simp [e] at ih ⊢
     omega
    ·have e1:1<=yig c n:=by omega
     simp [e,e1] at ih ⊢;omega
  exact key _
 ·simp only [zda,List.mem_map,List.mem_filter,List.mem_range] at hv
  obtain ⟨k,hk,rfl⟩:=hv;omega
theorem yfo {c:Codex} {j v:Int} (h:v∈yrc c j):0<=v/\v<c.arts.length:=by
 simp only [yrc,List.mem_map,List.mem_filter,List.mem_range] at h;obtain ⟨k,hk,rfl⟩:=h;omega
theorem yrh (c:Codex) (j:Int):(yrc c j).length<=c.arts.length:=by
 unfold yrc;have:=List.length_filter_le (fun (i:Nat)=>zhd c i j) (List.range c.arts.length);simp only [List.length_map,List.length_range] at this ⊢;exact this
end Go.Proofs.YtjnddlifnkgncaaGreatDoor
namespace Go.Sh
section
variable {P:Program} {w:World}
theorem zqb {t:TypeId} {f0 f1 f2:Field} {k0 k1 k2:IntKind} {a b c a' b' c':Int} {x y z:IntKind} (hu:P.underlying t=some (.struct #[f0,f1,f2])) (hs:P.stoodInHeld t=false)
  (hn0:f0.name≠ "_") (hn1:f1.name≠ "_") (hn2:f2.name≠ "_") (ho0:f0.offset=0) (ho1:f1.offset=1) (ho2:f2.offset=2)
  (hi0:P.underlying f0.type=some (.int k0)) (hi1:P.underlying f1.type=some (.int k1)) (hi2:P.underlying f2.type=some (.int k2)):
  (Op.equal t (.agg #[.int x a,.int y b,.int z c]) (.agg #[.int x a',.int y b',.int z c'])).run P w= .ok (decide (a=a')&&(decide (b=b')&&decide (c=c'))) w:=by
 show (Op.equalIn (9998+1+1) t _ _).run P w=_;generalize 9998=n;rw [Op.equalIn];simp only [Sem.run_bind,run_underlying hu,Result.andThen_ok]
 simp [hs,hn0,hn1,hn2,ho0,ho1,ho2,jk hi0 (cs:=#[.int x a,.int y b,.int z c]) (off:=0) rfl,jk hi0 (cs:=#[.int x a',.int y b',.int z c']) (off:=0) rfl,
  jk hi1 (cs:=#[.int x a,.int y b,.int z c]) (off:=1) rfl,jk hi1 (cs:=#[.int x a',.int y b',.int z c']) (off:=1) rfl,
  jk hi2 (cs:=#[.int x a,.int y b,.int z c]) (off:=2) rfl,jk hi2 (cs:=#[.int x a',.int y b',.int z c']) (off:=2) rfl,zbo hi0,zbo hi1,zbo hi2,program,znw]
 by_cases h1:a=a'<;>by_cases h2:b=b'<;>by_cases h3:c=c'<;>simp [h1,h2,h3]
end
section
variable {P:Program} {G:List (Nat × D)} {fn:Func} {rd:Bool} {E:En P G fn rd} {t:List (Nat × SV)} {H:List SObj} {k:List Item}
variable {all:Array Oper} {o:Oper} {rest:List Oper}
theorem zyn {w:World} {I:Imm} {β:List Bnd} {v:Value} {a b c:Int} (h:Rep w I β v (.agg [.imm (.val (.int .i64 a)),.imm (.val (.int .i64 b)),.imm (.val (.int .i64 c))])):v= .agg #[.int .i64 a,.int .i64 b,.int .i64 c]:=by
 cases h with
 |agg vs _ h1 h2=>
  have key:∀(j:Nat) (h:j<vs.size) (x:Value) (hj:[SV.imm (.val (.int .i64 a)),SV.imm (.val (.int .i64 b)),SV.imm (.val (.int .i64 c))][j]?=some (.imm (.val x))),vs[j]=x:=by
   intro j h x hj;have h3:=h2 j (by rw [<-h1];exact h) h;rw [List.getElem?_eq_getElem (by rw [<-h1];exact h)] at hj;rw [Option.some.inj hj] at h3;generalize vs[j]=v at h3;cases h3 with|imm h3=>cases h3;rfl
  have hs:vs.size=3:=by simpa using h1
  congr 1
  apply Array.ext (by simp [hs])
  intro i hi1 hi2;have:i=0\/i=1\/i=2:=by omega
  rcases this with rfl|rfl|rfl
  ·exact key 0 hi1 _ rfl
  ·exact key 1 hi1 _ rfl
  ·exact key 2 hi1 _ rfl
theorem yij {ty ty':TypeId} {x y:Operand} {f0 f1 f2:Field} {k0 k1 k2:IntKind} {a b c a' b' c':Int} (hop:o.op= .binOp .neq ty x y ty')
  (hx:zl G t x= .agg [.imm (.val (.int .i64 a)),.imm (.val (.int .i64 b)),.imm (.val (.int .i64 c))]) (hy:zl G t y= .agg [.imm (.val (.int .i64 a')),.imm (.val (.int .i64 b')),.imm (.val (.int .i64 c'))])
  (hu:P.underlying ty=some (.struct #[f0,f1,f2])) (hs:P.stoodInHeld ty=false) (hn0:f0.name≠ "_") (hn1:f1.name≠ "_") (hn2:f2.name≠ "_") (ho0:f0.offset=0) (ho1:f1.offset=1) (ho2:f2.offset=2)
  (hi0:P.underlying f0.type=some (.int k0)) (hi1:P.underlying f1.type=some (.int k1)) (hi2:P.underlying f2.type=some (.int k2)) (hg:P.eqGuardType P.depth ty=false):
  yqo P G t o (.imm (.val (.bool (!(decide (a=a')&&(decide (b=b')&&decide (c=c'))))))):=by
 intro ρ w I β hev;have hrx:=hev x (by rw [hop];simp [Op.operands]);rw [hx] at hrx;have hry:=hev y (by rw [hop];simp [Op.operands]);rw [hy] at hry;have ex:=zyn hrx;have ey:=zyn hry;obtain ⟨dst,op,type,pos,after,guard⟩:=o;simp only at hop;subst hop;refine ⟨.bool (!(decide (a=a')&&(decide (b=b')&&decide (c=c')))),?_,.imm (.val _)⟩;simp only [execOp];rw [ex,ey];have hgd:(eqGuard .neq ty x y (.agg #[.int .i64 a,.int .i64 b,.int .i64 c]) (.agg #[.int .i64 a',.int .i64 b',.int .i64 c'])).run P w= .ok () w:=by
  simp [eqGuard,program,hg,znw]
 simp only [Sem.run_bind,hgd,Result.andThen_ok,binOp,zqb hu hs hn0 hn1 hn2 ho0 ho1 ho2 hi0 hi1 hi2,Sem.run_pure]
end
end Go.Sh
namespace Go.Proofs.YtjnddlifnkgncaaGreatDoor
open Go Go.Sh
variable (G:List (Nat × D))
mutual
def zlz:Ex->Prop
 | .mk _ _ _ _ ps ks=>ps.length<=1000000/\ks.length<=1000000/\zfb ks
def zfb:List Ex->Prop
 |[]=>True
 |e::r=>zlz e/\zfb r
end
theorem zbi:∀{ks:List Ex},zfb ks->∀k∈ks,zlz k
 |_::_,h,k,hk=>by
  unfold zfb at h;rcases List.mem_cons.1 hk with rfl|hk
  ·exact h.1
  ·exact zbi h.2 k hk
theorem zyo:∀{a b:List Ex},a.length≠b.length->zsj a b=false
 |[],[],h=>by simp at h
 |[],_::_,_=>rfl
 |_::_,[],_=>rfl
 |x::a,y::b,h=>by
  rw [zsj,zyo (a:=a) (b:=b) (by simpa using h),Bool.and_false]
theorem zvx (a b:List Piece) (ha:a.length<=1000000) (hb:b.length<=1000000):
  zq Tryz.prog G 208 [.imm (.isl 3 (a.map Piece.cells)),.imm (.isl 3 (b.map Piece.cells))] (sB (decide (a.map Piece.key=b.map Piece.key))):=by
 refine zh Tryz.func208 rfl (by rw [Tryz.ntmps208];simp) rfl rfl ?_;intro E hH hK;have hla:(a.map Piece.cells).length=a.length:=by simp
 have hlb:(b.map Piece.cells).length=b.length:=by simp
 (refine ze ?_;conv=>whnf)
 repeat' ((with_reducible refine way ?_ ?_)<;>(intro h;conv=>whnf))
 ·have:decide (a.map Piece.key=b.map Piece.key)=false:=by
   rw [decide_eq_false_iff_not];intro he;have:=congrArg List.length he;simp only [List.length_map] at this;omega
  rw [this] at hK;exact hK _
 have hll:a.length=b.length:=by omega
 refine zg [0,1,11,12,13] ?_;refine zp a (fun i (_:Unit)=>[(0,.imm (.isl 3 (a.map Piece.cells))),(1,.imm (.isl 3 (b.map Piece.cells))),(11,.imm (.isl 3 (a.map Piece.cells))),(12,sI (a.map Piece.cells).length),(13,sI i)]) (fun _ _=>[])
  (fun done _ _=>done.map Piece.key=(b.take done.length).map Piece.key) () (by simp) ?_ ?_
 ·rintro _ h1
  (refine ze ?_;conv=>whnf)
  repeat' ((with_reducible refine way ?_ ?_)<;>(intro h;conv=>whnf))
  all_goals try (exfalso;omega)
  rw [hll,List.take_length] at h1;rw [decide_eq_true h1] at hK;exact hK _
 ·rintro done x rest _ hda hdl h1 ih
  have hw:=zk (n:=done.length) (by omega);have hlt:done.length<b.length:=by rw [<-hll,hda];simp
  obtain ⟨y,hy⟩:∃y,b[done.length]?=some y:=⟨_,List.getElem?_eq_getElem hlt⟩;(refine ze ?_;conv=>whnf)
  repeat' ((with_reducible refine way ?_ ?_)<;>(intro h;conv=>whnf))
  all_goals try (exfalso;omega)
  (refine xf 0 mixed rfl ?_;refine zn [777] (nx:=0) ?_;conv=>whnf);refine qn rfl (by simp) rfl  (row:=x.cells) (by simp [hda]) ?_;(refine zn [777] (nx:=0) ?_;conv=>whnf);refine qn rfl (by simp) rfl  (row:=y.cells) (by simp [hy]) ?_;(refine zn [777] (nx:=0) ?_;conv=>whnf);refine yuk rfl rfl (yij rfl rfl rfl rfl Tryz.stoodInHeld234 (by decide) (by decide) (by decide) rfl rfl rfl rfl rfl rfl Tryz.eqGuardType234) ?_;have htk:b.take (done.length+1)=b.take done.length++[y]:=by rw [List.take_add_one,hy];rfl
  by_cases he:Piece.key x=Piece.key y
  ·have:(!(decide (x.lo=y.lo)&&(decide (x.at_=y.at_)&&decide (x.slope=y.slope))))=false:=by
    simp only [Piece.key,Prod.mk.injEq] at he;simp [he]
   rw [this];(refine zn [777] (nx:=0) ?_;conv=>whnf);(refine ze ?_;conv=>whnf);rw [hw];refine yz [0,1,11,12,13] 0 (by simp [hH]) (by simp) rfl rfl (ih () ?_);rw [List.map_append,h1,List.length_append];show _=List.map Piece.key (b.take (done.length+1));rw [htk];simp [he]
  ·have:(!(decide (x.lo=y.lo)&&(decide (x.at_=y.at_)&&decide (x.slope=y.slope))))=true:=by
    simp only [Piece.key,Prod.mk.injEq] at he;simp only [Bool.not_eq_true',Bool.and_eq_false_iff,decide_eq_false_iff_not]
    by_cases h2:x.lo=y.lo
    ·by_cases h3:x.at_=y.at_
     ·exact .inr (.inr fun h4=>he ⟨h2,h3,h4⟩)
     ·exact .inr (.inl h3)
    ·exact .inl h2
   rw [this];(refine zn [777] (nx:=0) ?_;conv=>whnf);(refine ze ?_;conv=>whnf);have:decide (a.map Piece.key=b.map Piece.key)=false:=by
    rw [decide_eq_false_iff_not];intro h2
    apply he
    have h3:(a.map Piece.key)[done.length]?=some (Piece.key x):=by simp [hda]
    rw [h2,List.getElem?_map,hy] at h3;exact (Option.some.inj h3).symm
   rw [this] at hK;exact hK _
theorem ycs (a b:List Ex) (hE:∀e∈a,∀e'∈b,zq Tryz.prog G 191 [e.sv,e'.sv] (sB (zyj e e'))) (ha:a.length<=1000000) (hb:b.length<=1000000):
  zq Tryz.prog G 209 [.imm (.isl 6 (zo a)),.imm (.isl 6 (zo b)),.fn (.func 191) [] []] (sB (zsj a b)):=by
 rw [wg,wg];refine zh Tryz.func209 rfl (by rw [Tryz.ntmps209];simp) rfl rfl ?_;intro E hH hK;have hla:(a.map Ex.cells).length=a.length:=by simp
 have hlb:(b.map Ex.cells).length=b.length:=by simp
 (refine ze ?_;conv=>whnf)
 repeat' ((with_reducible refine way ?_ ?_)<;>(intro h;conv=>whnf))
 ·rw [zyo (by omega)] at hK
  exact hK _
 have hll:a.length=b.length:=by omega
 refine zg [1,2,15,16,17] ?_;refine zp a (fun i (_:Unit)=>[(1,.imm (.isl 6 (b.map Ex.cells))),(2,.fn (.func 191) [] []),(15,.imm (.isl 6 (a.map Ex.cells))),(16,sI (a.map Ex.cells).length),(17,sI i)]) (fun _ _=>[])
  (fun done rest _=>zsj a b=zsj rest (b.drop done.length)) () (by simp) ?_ ?_
 ·rintro _ h1
  (refine ze ?_;conv=>whnf)
  repeat' ((with_reducible refine way ?_ ?_)<;>(intro h;conv=>whnf))
  all_goals try (exfalso;omega)
  rw [hll,List.drop_length] at h1;rw [h1] at hK;exact hK _
 ·rintro done x rest _ hda hdl h1 ih
  have hw:=zk (n:=done.length) (by omega);have hlt:done.length<b.length:=by rw [<-hll,hda];simp
  obtain ⟨y,hy⟩:∃y,b[done.length]?=some y:=⟨_,List.getElem?_eq_getElem hlt⟩;have hym:=List.mem_of_getElem? hy;have hcall:=hE x (by rw [hda];simp) y hym;have hdr:b.drop done.length=y::b.drop (done.length+1):=by
   rw [List.drop_eq_getElem_cons hlt];rw [List.getElem?_eq_getElem hlt] at hy;rw [Option.some.inj hy]
  rw [hdr,zsj] at h1;have hrx:(a.map Ex.cells)[((done.length:Nat):Int).toNat]?=some x.cells:=by simp [hda]
  have hry:(b.map Ex.cells)[((done.length:Nat):Int).toNat]?=some y.cells:=by simp [hy]
  generalize zyj x y=z at hcall h1;obtain ⟨xo,xn,xu,xd,xp,xk⟩:=x;obtain ⟨yo,yn,yu,yd,yp,yk⟩:=y;(refine ze ?_;conv=>whnf)
  repeat' ((with_reducible refine way ?_ ?_)<;>(intro h;conv=>whnf))
  all_goals try (exfalso;omega)
  refine zi rfl rfl  hrx ?_;(refine zc ?_;conv=>whnf);refine zi rfl rfl  hry ?_;(refine zc ?_;conv=>whnf);refine zd rfl  hcall ?_;cases z<;>((refine zc ?_;conv=>whnf))
  ·rw [h1,Bool.false_and] at hK
   exact hK _
  ·rw [hw]
   refine yz [1,2,15,16,17] 0 (by simp [hH]) (by simp) rfl rfl (ih () ?_);rw [h1,Bool.true_and,List.length_append];rfl
theorem ztl:∀(N:Nat) (e e':Ex),SizeOf.sizeOf e<N->zlz e->zlz e'->zq Tryz.prog G 191 [e.sv,e'.sv] (sB (zyj e e'))
 |0,_,_,h,_,_=>by omega
 |N+1,.mk op n u den ps ks,.mk op' n' u' den' ps' ks',hN,hl,hl'=>by
  unfold zlz at hl hl';obtain ⟨l1,l2,l3⟩:=hl;obtain ⟨m1,m2,m3⟩:=hl';simp only [Ex.mk.sizeOf_spec] at hN;have hk:∀e∈ks,∀e'∈ks',zq Tryz.prog G 191 [e.sv,e'.sv] (sB (zyj e e')):=fun e he e' he'=>by
   have:=List.sizeOf_lt_of_mem he;exact ztl N e e' (by omega) (zbi l3 e he) (zbi m3 e' he')
  have h1:=zvx G ps ps' l1 m1;have h2:=ycs G ks ks' hk l2 m2;have hx:zyj (.mk op n u den ps ks) (.mk op' n' u' den' ps' ks')=(decide (op=op')&&decide (n=n')&&decide (u=u')&&decide (den=den')&&decide (ps.map Piece.key=ps'.map Piece.key)&&zsj ks ks'):=by rw [zyj]
  rw [hx];generalize decide (ps.map Piece.key=ps'.map Piece.key)=z1 at h1;generalize zsj ks ks'=z2 at h2;refine zh Tryz.func191 rfl (by rw [Tryz.ntmps191];simp) rfl rfl ?_;intro E hH hK;(refine ze ?_;conv=>whnf)
  repeat' ((with_reducible refine way ?_ ?_)<;>(intro h;conv=>whnf))
  case' refine_1.refine_1.refine_1.refine_2=>
   rename_i g1 g2 g3
   subst g1 g2 g3;rw [show (decide (op=op)&&decide (n=n)&&decide (u=u)&&decide (den=den')&&z1&&z2)=(z1&&z2) by simp [*]] at hK;refine zd rfl  h1 ?_;cases z1<;>((refine zc ?_;conv=>whnf))
  case refine_1.refine_1.refine_1.refine_2.false=>exact hK _
  case' refine_1.refine_1.refine_1.refine_2.true=>
   refine zd rfl  h2 ?_;(refine zc ?_;conv=>whnf)
  case refine_1.refine_1.refine_1.refine_2.true=>exact hK _
  all_goals
   rw [show (decide (op=op')&&decide (n=n')&&decide (u=u')&&decide (den=den')&&z1&&z2)=false by simp [*]] at hK;exact hK _
theorem zku (l:List Decl) (lo hi:Int) (hsz:l.length<=1073741824):zq Tryz.prog G 102 [.imm (zx l),sI lo,sI hi] (sB (zar lo hi l&&decide (l.length<=32))):=by
 have hml:(l.map Decl.cells).length=l.length:=by simp
 have bad:zar lo hi l=false->(zar lo hi l&&decide (l.length<=32))=false:=fun h=>by rw [h];rfl
 generalize hok:(zar lo hi l&&decide (l.length<=32))=ok at bad;refine zh Tryz.func102 rfl (by rw [Tryz.ntmps102];simp) rfl rfl ?_;intro E hH hK;(refine ze ?_;conv=>whnf);refine zg [0,1,2,11,12,13] ?_;change SW E _ [(0,.imm (zx l)),(1,sI lo),(2,sI hi),(11,.imm (zx l)),(12,sI ((l.map Decl.cells).length:Nat)),(13,sI (0:Nat))] [];rw [hml];refine zp l (fun i (_:Unit)=>[(0,.imm (zx l)),(1,sI lo),(2,sI hi),(11,.imm (zx l)),(12,sI (l.length:Nat)),(13,sI (i:Nat))]) (fun _ _=>[])
  (fun done _ _=>done.all (zjl lo hi)=true/\(done.map (·.name)).Nodup) () ⟨rfl,List.nodup_nil⟩ ?_ ?_
 ·as_aux_lemma=>
   rintro _ ⟨h1,h2⟩;(refine ze ?_;conv=>whnf)
   repeat' ((with_reducible refine way ?_ ?_)<;>(intro h;conv=>whnf))
   all_goals try (exfalso;omega)
   rw [hml];refine kB hK ?_;rw [<-hok];unfold zar;rw [h1,decide_eq_true h2];exact decide_eq_decide.2 (by omega)
 ·as_aux_lemma=>
   rintro done d rest _ hda hdl ⟨h1,h2⟩ ih;have wnx:IntKind.i64.wrap ((done.length:Int)+1)=((done.length+1:Nat):Int):=zk (by omega);have hd:(l.map Decl.cells)[done.length]?=some d.cells:=by rw [hda];simp
   have bad:zjl lo hi d=false\/d.name∈done.map (·.name)->ok=false:=fun h=>bad (by rw [hda];exact ycn h)
   have next:zjl lo hi d=true->d.name ∉ done.map (·.name)->_:=fun g1 g2=>ih () ⟨by simp [h1,g1],by
    rw [List.map_append,List.nodup_append];exact ⟨h2,by simp,fun a ha b hb e=>g2 (by simp at hb;rw [<-hb, <-e];exact ha)⟩⟩
   have hnm:=zec G d.name;have hky:=ybo G d.name;have hun:=zmr G d.unit;have hone:zjl lo hi d=(qj d.name&& !yli d.name&&zmq d.unit&&decide (lo<=d.role/\d.role<=hi)):=rfl;generalize qj d.name=b1 at hnm hone;generalize yli d.name=b2 at hky hone;generalize zmq d.unit=b3 at hun hone;(refine ze ?_;conv=>whnf)
   repeat' ((with_reducible refine way ?_ ?_)<;>(intro h;conv=>whnf))
   all_goals try (exfalso;omega)
   refine zi (i:=done.length) (row:=d.cells) rfl rfl hd ?_;(refine zc ?_;conv=>whnf);refine zd rfl  hnm ?_;cases b1 with
   |false=>
    (refine zc ?_;conv=>whnf);exact kB hK (bad (.inl (by rw [hone];rfl)))
   |true=>
   (refine zc ?_;conv=>whnf);refine zd rfl  hky ?_;cases b2 with
   |true=>
    (refine zc ?_;conv=>whnf);exact kB hK (bad (.inl (by rw [hone];rfl)))
   |false=>
   (refine zc ?_;conv=>whnf);refine zd rfl  hun ?_;cases b3 with
   |false=>
    (refine zc ?_;conv=>whnf);exact kB hK (bad (.inl (by rw [hone];rfl)))
   |true=>
   (refine zc ?_;conv=>whnf)
   repeat' ((with_reducible refine way ?_ ?_)<;>(intro h;conv=>whnf))
   all_goals try exact kB hK (bad (.inl (by rw [hone,decide_eq_false (by omega)];rfl)))
   have hone:zjl lo hi d=true:=by rw [hone,decide_eq_true (by omega)];rfl
   have next:=next hone
   refine yxa (m:=done.length) rfl rfl rfl rfl rfl rfl rfl rfl (by omega) ?_;have htk:(l.map Decl.cells).take done.length=done.map Decl.cells:=by rw [hda,List.map_append,List.take_left' (by simp)]
   refine Eq.mpr (congrArg (fun v=>SWr E _ _ _ (xj _ _ (.imm (.isl 3 v))) _) htk) ?_;(refine zc ?_;conv=>whnf);have hdm:(done.map Decl.cells).length=done.length:=by simp
   rw [hdm];refine zg [0,1,2,8,11,12,13,47,48,49] ?_;change SW E _ [(0,.imm (zx l)),(1,sI lo),(2,sI hi),(8,.ptr 0 0),(11,.imm (zx l)),(12,sI (l.length:Nat)),(13,sI (done.length:Nat)),(47,.imm (zx done)),(48,sI (done.length:Nat)),(49,sI (0:Nat))] [.cells [sS d.name,sS d.unit,sI d.role]];refine zp done (fun j (_:Unit)=>[(0,.imm (zx l)),(1,sI lo),(2,sI hi),(8,.ptr 0 0),(11,.imm (zx l)),(12,sI (l.length:Nat)),(13,sI (done.length:Nat)),(47,.imm (zx done)),(48,sI (done.length:Nat)),(49,sI (j:Nat))]) (fun _ _=>[.cells [sS d.name,sS d.unit,sI d.role]])
    (fun dj _ _=>d.name ∉ dj.map (·.name)) () (by simp) ?_ ?_
   ·rintro _ hnot
    (refine ze ?_;conv=>whnf)
    repeat' ((with_reducible refine way ?_ ?_)<;>(intro h;conv=>whnf))
    all_goals try (exfalso;omega)
    rw [wnx];exact yz [0,1,2,11,12,13] 0 (by simp [hH]) (Nat.zero_le _) rfl rfl (next hnot)
   ·rintro dj x rj _ hdj hdjl hnot ih2
    have wnj:IntKind.i64.wrap ((dj.length:Int)+1)=((dj.length+1:Nat):Int):=zk (by omega);have hx:(done.map Decl.cells)[dj.length]?=some x.cells:=by rw [hdj];simp
    (refine ze ?_;conv=>whnf)
    repeat' ((with_reducible refine way ?_ ?_)<;>(intro h;conv=>whnf))
    all_goals try (exfalso;omega)
    refine zi (i:=dj.length) (row:=x.cells) rfl rfl hx ?_;(refine zc ?_;conv=>whnf)
    repeat' ((with_reducible refine way ?_ ?_)<;>(intro h;conv=>whnf))
    ·exact kB hK (bad (.inr (by rw [hdj, <-h];simp)))
    ·rw [wnj]
     refine yz [0,1,2,8,11,12,13,47,48,49] 1 (by simp [hH]) (by simp) rfl rfl (ih2 () ?_);simp only [List.map_append,List.mem_append,List.map_cons,List.map_nil,List.mem_singleton,not_or];exact ⟨hnot,fun e=>h e.symm⟩
def yxi (g b:Nat) (H0:List SObj) (p:Ex->Bool) (l:List Ex):Prop:=∀e∈l,SPre Tryz.prog G g [e.sv,.ptr b 0] H0 (fun r H'=>r=sB (p e)/\H'=H0)
theorem yml {g b:Nat} {H0:List SObj} {p:Ex->Bool} {l:List Ex} (hgb:wk Tryz.prog g=true) (hb:b<H0.length) (hu:H0.all (SObj.under H0.length)=true) (hz:l.length<=1000000000) (hg:yxi G g b H0 p l):
  SPre Tryz.prog G 172 [.imm (.isl 6 (l.map Ex.cells)),.fn (.func g) [] [.ptr b 0]] H0 (fun r H'=>(∃i:Int,r=sI i/\(0<=i ↔ l.any p=true))/\H'=H0):=by
 refine xc Tryz.func172 rfl (by rw [Tryz.ntmps172];simp) (by simp [SV.under,SV.under.allUnder,hb]) hu ?_;intro E hH hK;have hla:(l.map Ex.cells).length=l.length:=by simp
 have fin:∀i:Int,(0<=i ↔ l.any p=true)->E.K (sI i) H0:=fun i hi=>hK _ _ (Nat.le_refl _) rfl (by rw [List.take_length];exact hu) ⟨⟨i,rfl,hi⟩,List.take_length⟩
 (refine ze ?_;conv=>whnf);refine zg [0,1,7,8] ?_;change SW E _ [(0,.imm (.isl 6 (l.map Ex.cells))),(1,.fn (.func g) [] [.ptr b 0]),(7,sI ((l.map Ex.cells).length:Nat)),(8,sI (0:Nat))] H0;rw [hla];refine zp l (fun i (_:Unit)=>[(0,.imm (.isl 6 (l.map Ex.cells))),(1,.fn (.func g) [] [.ptr b 0]),(7,sI (l.length:Nat)),(8,sI (i:Nat))]) (fun _ _=>H0)
  (fun done rest _=>∀e∈done,p e=false) () (by simp) ?_ ?_
 ·rintro _ h1
  (refine ze ?_;conv=>whnf)
  repeat' ((with_reducible refine way ?_ ?_)<;>(intro h;conv=>whnf))
  all_goals try (exfalso;omega)
  refine fin (-1) ⟨fun h=>by omega,fun h=>?_⟩;obtain ⟨e,he,h2⟩:=List.any_eq_true.1 h;rw [h1 e he] at h2;cases h2
 ·rintro done x rest _ hda hdl h1 ih
  have hw:=zk (n:=done.length) (by omega);have hrx:(l.map Ex.cells)[done.length]?=some x.cells:=by simp [hda]
  have hxm:x∈l:=by rw [hda];simp
  have hcall:=hg x hxm;have hany:p x=true->l.any p=true:=fun h=>List.any_eq_true.2 ⟨x,hxm,h⟩
  have hnxt:p x=false->∀e∈done++[x],p e=false:=fun h e he=>by
   rcases List.mem_append.1 he with he|he
   ·exact h1 e he
   ·simp at he;rw [he];exact h
  generalize p x=z at hcall hany hnxt;obtain ⟨xo,xn,xu,xd,xp,xk⟩:=x;(refine ze ?_;conv=>whnf)
  repeat' ((with_reducible refine way ?_ ?_)<;>(intro h;conv=>whnf))
  all_goals try (exfalso;omega)
  refine zi (i:=done.length) (row:=(Ex.mk xo xn xu xd xp xk).cells) rfl rfl hrx ?_;(refine zc ?_;conv=>whnf);refine zbn H0.length rfl rfl rfl rfl hgb rfl (by rw [List.take_length];exact hcall) ?_;rintro r9 H9 ⟨rfl,rfl⟩ _;rw [List.drop_length,List.append_nil];cases z<;>((refine zc ?_;conv=>whnf))
  ·rw [hw]
   refine zg [0,1,7,8] ?_;exact ih () (hnxt rfl)
  ·exact fin _ ⟨fun _=>hany rfl,fun _=>by omega⟩
theorem zkv {g b:Nat} {H0:List SObj} {p:Ex->Bool} {l:List Ex} (hgb:wk Tryz.prog g=true) (hb:b<H0.length) (hu:H0.all (SObj.under H0.length)=true) (hz:l.length<=1000000000) (hg:yxi G g b H0 p l):
  SPre Tryz.prog G 141 [.imm (.isl 6 (l.map Ex.cells)),.fn (.func g) [] [.ptr b 0]] H0 (fun r H'=>r=sB (l.any p)/\H'=H0):=by
 refine xc Tryz.func141 rfl (by rw [Tryz.ntmps141];simp) (by simp [SV.under,SV.under.allUnder,hb]) hu ?_;intro E hH hK;(refine ze ?_;conv=>whnf);refine zbn H0.length rfl rfl rfl rfl rfl rfl (by rw [List.take_length];exact yml G hgb hb hu hz hg) ?_;rintro r9 H9 ⟨⟨i,rfl,hi⟩,rfl⟩ _;rw [List.drop_length,List.append_nil];(refine zc ?_;conv=>whnf);refine hK _ _ (Nat.le_refl _) rfl (by rw [List.take_length];exact hu) ⟨?_,List.take_length⟩;show sB (decide (0<=i))=_
 by_cases h:0<=i
 ·rw [decide_eq_true h,hi.1 h]
 ·rw [decide_eq_false h]
  cases ha:l.any p with
  |true=>exact absurd (hi.2 ha) h
  |false=>rfl
theorem zvy (den:Int) (ps:List Piece):zq Tryz.prog G 139 [.agg [sI den,.imm (.isl 3 (ps.map Piece.cells))]] (sB (zct den ps)):=by
 refine zh Tryz.func139 rfl (by rw [Tryz.ntmps139];simp) rfl rfl ?_;intro E hH hK;have hlen:(ps.map Piece.cells).length=ps.length:=by simp
 (refine ze ?_;conv=>whnf)
 repeat' ((with_reducible refine way ?_ ?_)<;>(intro h;conv=>whnf))
 any_goals exact kB hK (by simp [zct];intros;omega)
 obtain ⟨p0,pr,hps⟩:∃p0 pr,ps=p0::pr:=by
  cases ps with
  |nil=>
   exfalso
   have h0:(([]:List Piece).map Piece.cells).length=0:=rfl;omega
  |cons a b=>exact ⟨a,b,rfl⟩
 have h00:(ps.map Piece.cells)[0]?=some p0.cells:=by rw [hps];rfl
 have hok:zct den ps=zck none ps:=by
  unfold zct;rw [decide_eq_true (show 1<=den by omega),decide_eq_true (show den<=1000000 by omega),decide_eq_true (show 1<=ps.length by omega),decide_eq_true (show ps.length<=64 by omega)];simp
 have hfirst:¬p0.lo=0->zct den ps=false:=fun h=>by rw [hok,hps,zck,zgy];simp [h]
 generalize zct den ps=ok at hK hok hfirst;refine zi (i:=0) (row:=p0.cells) rfl rfl h00 ?_;(refine zc ?_;conv=>whnf)
 repeat' ((with_reducible refine way ?_ ?_)<;>(intro h;conv=>whnf))
 ·exact kB hK (hfirst h)
 have hlo0:p0.lo=0:=by omega
 refine zg [1,34,35,36] ?_;change SW E _ [(1,.ptr 0 0),(34,.imm (.isl 3 (ps.map Piece.cells))),(35,sI ((ps.map Piece.cells).length:Nat)),(36,sI (0:Nat))] [.cells [sI den,.imm (.isl 3 (ps.map Piece.cells))]];rw [hlen];refine zp ps (fun i (_:Unit)=>[(1,.ptr 0 0),(34,.imm (.isl 3 (ps.map Piece.cells))),(35,sI (ps.length:Nat)),(36,sI (i:Nat))])
  (fun _ _=>[.cells [sI den,.imm (.isl 3 (ps.map Piece.cells))]])
  (fun done rest _=>zck none ps=zck (zis done) rest) () rfl ?_ ?_
 ·rintro _ hv
  (refine ze ?_;conv=>whnf)
  repeat' ((with_reducible refine way ?_ ?_)<;>(intro h;conv=>whnf))
  all_goals try (exfalso;omega)
  exact kB hK (by rw [hok,hv];rfl)
 ·rintro done p rest _ hda hdl hv ih
  have hw:=zk (n:=done.length) (by omega);have hp:(ps.map Piece.cells)[done.length]?=some p.cells:=by rw [hda];simp
  have bad:zgy (zis done) p=false->ok=false:=fun h=>by rw [hok,hv,zck,h];rfl
  have good:zgy (zis done) p=true->zck none ps=zck (zis (done++[p])) rest:=fun h=>by rw [hv,zck,h,yck];rfl
  rcases ztf done with rfl|⟨init,q,rfl⟩
  ·have hpp:p=p0:=by rw [hps] at hda;injection hda with h1 _;exact h1.symm
   (refine ze ?_;conv=>whnf)
   repeat' ((with_reducible refine way ?_ ?_)<;>(intro h;conv=>whnf))
   all_goals try (exfalso;omega)
   refine zi (i:=0) (row:=p.cells) rfl rfl hp ?_;(refine zc ?_;conv=>whnf);refine yc mixed rfl ?_;(refine zf [] ?_;conv=>whnf)
   repeat' ((with_reducible refine way ?_ ?_)<;>(intro h;conv=>whnf))
   all_goals try (exfalso;omega)
   (refine ze ?_;conv=>whnf)
   repeat' ((with_reducible refine way ?_ ?_)<;>(intro h;conv=>whnf))
   any_goals exact kB hK (bad (by simp [zis,zgy];intros;omega))
   rw [hw];exact yz [1,34,35,36] 1 (by simp [hH]) (by simp) rfl rfl (ih () (good (by simp [zis,zgy,hpp,hlo0];rw [<-hpp];omega)))
  ·have hil:(init++[q]).length=init.length+1:=by simp
   have hq:(ps.map Piece.cells)[init.length]?=some q.cells:=by rw [hda];simp
   have hm:IntKind.i64.wrap (((init++[q]).length:Int)-1)=((init.length:Nat):Int):=by rw [zt (by omega) (by omega)];omega
   (refine ze ?_;conv=>whnf)
   repeat' ((with_reducible refine way ?_ ?_)<;>(intro h;conv=>whnf))
   all_goals try (exfalso;omega)
   refine zi (i:=(init++[q]).length) (row:=p.cells) rfl rfl hp ?_;(refine zc ?_;conv=>whnf);refine yc mixed rfl ?_;(refine zf [] ?_;conv=>whnf)
   repeat' ((with_reducible refine way ?_ ?_)<;>(intro h;conv=>whnf))
   all_goals try (exfalso;omega)
   rw [hm];refine yx (i:=init.length) (row:=q.cells) rfl rfl hq ?_;(refine zf [] ?_;conv=>whnf)
   repeat' ((with_reducible refine way ?_ ?_)<;>(intro h;conv=>whnf))
   all_goals (refine ze ?_;conv=>whnf)
   all_goals repeat' ((with_reducible refine way ?_ ?_)<;>(intro h;conv=>whnf))
   any_goals exact kB hK (bad (by simp [zis,zgy];intros;omega))
   rw [hw];exact yz [1,34,35,36] 1 (by simp [hH]) (by simp) rfl rfl (ih () (good (by simp [zis,zgy];omega)))
theorem zee (l:List D) (n:Nat):SV.under.allUnder n (l.map SV.imm)=true:=by
 induction l with
 |nil=>rfl
 |cons a l ih=>simp [SV.under.allUnder,SV.under,ih]
theorem zqc (p:Ex):[SObj.cells (p.cells.map SV.imm)].all (SObj.under 1)=true:=by
 simp only [List.all_cons,List.all_nil,SObj.under,zee,Bool.and_true]
theorem yxj (p e:Ex) (hp:zlz p) (he:zlz e):SPre Tryz.prog G 190 [e.sv,.ptr 0 0] [.cells (p.cells.map .imm)] (fun r H'=>r=sB (zyj p e)/\H'=[.cells (p.cells.map .imm)]):=by
 have h1:=ztl G _ p e (Nat.lt_succ_self _) hp he;have hu:=zqc p;generalize zyj p e=z at h1 ⊢;obtain ⟨op,n,u,den,ps,ks⟩:=e;obtain ⟨op',n',u',den',ps',ks'⟩:=p;refine xc Tryz.func190 rfl (by rw [Tryz.ntmps190];simp) ?_ hu ?_
 ·simp only [List.all_cons,List.all_nil,Ex.sv,SV.under,zee]
  rfl
 intro E hH hK;(refine xg ?_;conv=>whnf);refine zd rfl  h1 ?_;(refine wa ?_;conv=>whnf);exact hK _ _ (by show 1<=2;decide) rfl hu ⟨rfl,rfl⟩
theorem zqd (l ps:List Ex) (hp:zfb ps) (hl:zfb l) (hz:l.length<=1000000) (hpz:ps.length<=1000000):
  zq Tryz.prog G 148 [.imm (jc l),.imm (jc ps)] (sB (ykc l ps)):=by
 refine zh Tryz.func148 rfl (by rw [Tryz.ntmps148];simp) rfl rfl ?_;intro E hH hK;have hla:(ps.map Ex.cells).length=ps.length:=by simp
 (refine ze ?_;conv=>whnf);refine zg [0,7,8,9] ?_;change SW E _ [(0,.imm (jc l)),(7,.imm (jc ps)),(8,sI ((ps.map Ex.cells).length:Nat)),(9,sI (0:Nat))] [];rw [hla];refine zp ps (fun i (_:Unit)=>[(0,.imm (jc l)),(7,.imm (jc ps)),(8,sI (ps.length:Nat)),(9,sI (i:Nat))]) (fun _ _=>[])
  (fun done rest _=>∀p∈done,l.any (fun e=>zyj p e)=true) () (by simp) ?_ ?_
 ·rintro _ h1
  (refine ze ?_;conv=>whnf)
  repeat' ((with_reducible refine way ?_ ?_)<;>(intro h;conv=>whnf))
  all_goals try (exfalso;omega)
  have:ykc l ps=true:=List.all_eq_true.2 h1;rw [this] at hK;exact hK _
 ·rintro done x rest _ hda hdl h1 ih
  have hw:=zk (n:=done.length) (by omega);have hrx:(ps.map Ex.cells)[done.length]?=some x.cells:=by simp [hda]
  have hxm:x∈ps:=by rw [hda];simp
  have hcall:=zkv G (g:=190) (b:=0) (H0:=[.cells (x.cells.map .imm)]) (p:=fun e=>zyj x e) (l:=l) rfl (by show 0<1;decide) (zqc x) (by omega) (fun e he=>yxj G x e (zbi hp x hxm) (zbi hl e he));have hno:l.any (fun e=>zyj x e)=false->ykc l ps=false:=fun h=>by
   cases h2:ykc l ps with
   |false=>rfl
   |true=>rw [List.all_eq_true.1 h2 x hxm] at h;cases h
  have hnxt:l.any (fun e=>zyj x e)=true->∀p∈done++[x],l.any (fun e=>zyj p e)=true:=fun h e he=>by
   rcases List.mem_append.1 he with he|he
   ·exact h1 e he
   ·simp at he;rw [he];exact h
  generalize l.any (fun e=>zyj x e)=z at hcall hno hnxt;obtain ⟨xo,xn,xu,xd,xp,xk⟩:=x;(refine ze ?_;conv=>whnf)
  repeat' ((with_reducible refine way ?_ ?_)<;>(intro h;conv=>whnf))
  all_goals try (exfalso;omega)
  refine zi (i:=done.length) (row:=(Ex.mk xo xn xu xd xp xk).cells) rfl rfl hrx ?_;(refine zc ?_;conv=>whnf);refine zbn 1 rfl rfl rfl rfl rfl rfl hcall ?_;rintro r9 H9 ⟨rfl,rfl⟩ _;cases z<;>((refine zc ?_;conv=>whnf))
  ·rw [hno rfl] at hK
   exact hK _
  ·rw [hw]
   refine yz [0,7,8,9] 0 (by simp [hH]) (by simp) rfl rfl (ih () (hnxt rfl))
def jg (a:Article) (op n:Int) (u:ByteArray) (den:Int) (ps:List Piece) (ks:List Ex):List SV:=
 [sI a.number,sI a.line,sI a.rank,sI a.lo,sI a.hi,sI a.known,.imm (jc a.when_),.imm (yh a.unless_),sI op,sI n,sS u,sI den,.imm (.isl 3 (ps.map Piece.cells)),.imm (.isl 6 (zo ks))]
theorem zem {a:Article} {op n:Int} {u:ByteArray} {den:Int} {ps:List Piece} {ks:List Ex} (h:a.amount= .mk op n u den ps ks):a.cells.map SV.imm=jg a op n u den ps ks:=by
 simp [Article.cells,jg,h,wg,Ex.op,Ex.n,Ex.unit,Ex.den,Ex.pieces,Ex.kids]
def zyp (a:Article):SV:=.agg (a.cells.map .imm)
structure ArtFit (a:Article):Prop where
 len:a.when_.length<=1000000
 exs:zfb a.when_
 uls:a.unless_.length<=1000000
 amt:zlz a.amount
theorem zqe (a b:Article) (ha:ArtFit a) (hb:ArtFit b):zq Tryz.prog G 108 [zyp a,zyp b] (sB (zvv a b)):=by
 have c1:=zqd G a.when_ b.when_ hb.exs ha.exs ha.len hb.len;have c2:=zqd G b.when_ a.when_ ha.exs hb.exs hb.len ha.len;have hbe:zvv a b=(if ¬a.line=b.line\/a.number=b.number then false else if ¬a.rank=b.rank then decide (b.rank<a.rank) else if ¬ykc a.when_ b.when_=ykc b.when_ a.when_ then ykc a.when_ b.when_ else decide (b.known<a.known)):=rfl;rw [hbe];generalize ykc a.when_ b.when_=z1 at c1;generalize ykc b.when_ a.when_=z2 at c2;cases hma:a.amount;cases hmb:b.amount;unfold zyp;rw [zem hma,zem hmb];refine zh Tryz.func108 rfl (by rw [Tryz.ntmps108];simp) rfl rfl ?_;intro E hH hK;(refine ze ?_;conv=>whnf)
 repeat' ((with_reducible refine way ?_ ?_)<;>(intro h;conv=>whnf))
 ·rw [if_pos (.inr h)] at hK
  exact hK _
 ·rename_i g1 g2
  rw [if_neg (fun x=>x.elim (fun x=>x g1) g2),if_pos h] at hK;exact hK _
 ·rename_i g1 g2
  rw [if_neg (fun x=>x.elim (fun x=>x g1) g2),if_neg (fun x=>x h)] at hK;(refine yc mixed rfl ?_;refine zf [] ?_;conv=>whnf);refine ym rfl  c1 ?_;(refine zf [] ?_;conv=>whnf);refine ym rfl  c2 ?_;(refine zf [] ?_;conv=>whnf);(refine ze ?_;conv=>whnf);cases z1<;>cases z2<;>(conv=>whnf)<;>(try (repeat' ((with_reducible refine way ?_ ?_)<;>(intro h;conv=>whnf))))<;>exact hK _
 ·rw [if_pos (.inl h)] at hK
  exact hK _
theorem yct (l:List Int) (x:Int) (hz:l.length<=1000000000):SPre Tryz.prog G 145 [.imm (yh l),sI x] [] (fun r _=>∃i:Int,r=sI i/\(0<=i ↔ x∈l)):=by
 refine xc Tryz.func145 rfl (by rw [Tryz.ntmps145];simp) rfl rfl ?_;intro E hH hK;have hla:(l.map fun n=>[dI n]).length=l.length:=by simp
 (refine ze ?_;conv=>whnf);refine zg [0,1,7,8] ?_;refine zp l (fun i (_:Unit)=>[(0,.imm (yh l)),(1,sI x),(7,sI (l.map fun n=>[dI n]).length),(8,sI i)]) (fun _ _=>[]) (fun done _ _=>x ∉ done) () (by simp) ?_ ?_
 ·rintro _ h1
  (refine ze ?_;conv=>whnf)
  repeat' ((with_reducible refine way ?_ ?_)<;>(intro h;conv=>whnf))
  all_goals try (exfalso;omega)
  exact hK _ _ (Nat.le_refl _) rfl rfl ⟨-1,rfl,⟨fun h=>by omega,fun h=>absurd h h1⟩⟩
 ·rintro done y rest _ hda hdl h1 ih
  have hw:=zk (n:=done.length) (by omega);have hrx:(l.map fun n=>[dI n])[((done.length:Nat):Int).toNat]?=some [dI y]:=by simp [hda]
  (refine ze ?_;conv=>whnf)
  repeat' ((with_reducible refine way ?_ ?_)<;>(intro h;conv=>whnf))
  all_goals try (exfalso;omega)
  refine zi rfl rfl  hrx ?_;(refine zc ?_;conv=>whnf)
  repeat' ((with_reducible refine way ?_ ?_)<;>(intro h;conv=>whnf))
  ·exact hK _ _ (Nat.le_refl _) rfl rfl ⟨done.length,rfl,⟨fun _=>by rw [hda,h];simp,fun _=>by omega⟩⟩
  ·rw [hw]
   refine zg [0,1,7,8] ?_;exact ih () (by simp only [List.mem_append,List.mem_cons,List.not_mem_nil,or_false,not_or];exact ⟨h1,h⟩)
theorem zjo (l:List Int) (x:Int) (hz:l.length<=1000000000):zq Tryz.prog G 106 [.imm (yh l),sI x] (sB (decide (x∈l))):=by
 refine zh Tryz.func106 rfl (by rw [Tryz.ntmps106];simp) rfl rfl ?_;intro E hH hK;(refine ze ?_;conv=>whnf);refine zbn 0 rfl rfl rfl rfl rfl rfl (yct G l x hz) ?_;rintro r9 H9 ⟨i,rfl,hi⟩ _;(refine zc ?_;conv=>whnf);have:decide (x∈l)=decide (0<=i):=decide_eq_decide.2 hi.symm;rw [this] at hK;exact hK _
theorem zib (x:Int):∀ks:List Ex,decide (x∈zia ks)=ks.any fun k=>decide (x∈wn k)
 |[]=>rfl
 |k::r=>by
  rw [zia,List.any_cons, <-zib x r];simp
theorem yri (x op n:Int) (u:ByteArray) (den:Int) (ps:List Piece) (ks:List Ex):decide (x∈wn (.mk op n u den ps ks))=(decide (op=3)&&decide (n=x)||ks.any fun k=>decide (x∈wn k)):=by
 rw [<-zib,wn]
 by_cases h:op=3
 ·rw [if_pos h,decide_eq_true h,Bool.true_and]
  rw [Bool.eq_iff_iff];simp only [List.mem_append,List.mem_singleton,Bool.or_eq_true,decide_eq_true_eq];exact ⟨fun h=>h.imp Eq.symm id,fun h=>h.imp Eq.symm id⟩
 ·rw [if_neg h,decide_eq_false h,Bool.false_and,Bool.false_or]
  simp
theorem zhg (o:SObj) (ho:o.under 2=true) (x:Int):[o,SObj.cells [sI x]].all (SObj.under 2)=true:=by
 simp only [List.all_cons,List.all_nil,ho,Bool.true_and];rfl
theorem zdb (x:Int) (N:Nat):∀e:Ex,SizeOf.sizeOf e<N->zlz e->zq Tryz.prog G 111 [e.sv,sI x] (sB (decide (x∈wn e))):=by
 induction N with
 |zero=>intro e h;omega
 |succ N IH=>
 intro e he hl;obtain ⟨op,n,u,den,ps,ks⟩:=e;simp only [Ex.mk.sizeOf_spec] at he;unfold zlz at hl;have hkid:∀k∈ks,zq Tryz.prog G 111 [k.sv,sI x] (sB (decide (x∈wn k))):=fun k hk=>by
  have:=List.sizeOf_lt_of_mem hk;exact IH k (by omega) (zbi hl.2.2 k hk)
 have hbu:SObj.under 2 (.cells ((Ex.mk op n u den ps ks).cells.map .imm))=true:=by
  simp only [SObj.under,zee]
 have hclo:yxi G 149 1 [.cells ((Ex.mk op n u den ps ks).cells.map .imm),.cells [sI x]] (fun k=>decide (x∈wn k)) ks:=fun k hk=>by
  have hc:=hkid k hk;show SPre Tryz.prog G 149 [k.sv,.ptr 1 0] [.cells ((Ex.mk op n u den ps ks).cells.map .imm),.cells [sI x]] (fun r H'=>r=sB (decide (x∈wn k))/\H'=[.cells ((Ex.mk op n u den ps ks).cells.map .imm),.cells [sI x]]);generalize decide (x∈wn k)=z at hc ⊢;generalize SObj.cells ((Ex.mk op n u den ps ks).cells.map .imm)=o0 at hbu ⊢;obtain ⟨ko,kn,ku,kd,kp,kk⟩:=k;refine xc Tryz.func149 rfl (by rw [Tryz.ntmps149];simp) rfl (zhg o0 hbu x) ?_;intro E hH hK;(refine ze ?_;conv=>whnf);refine zd rfl  hc ?_;(refine zc ?_;conv=>whnf);exact hK _ _ (by show 2<=3;decide) rfl (zhg o0 hbu x) ⟨rfl,rfl⟩
 have hcon:=zkv G rfl (by show 1<2;decide) (zhg _ hbu x) (by omega) hclo;rw [yri];generalize (ks.any fun k=>decide (x∈wn k))=z at hcon;rw [<-wg] at hcon;clear hclo hkid IH;refine zh Tryz.func111 rfl (by rw [Tryz.ntmps111];simp) rfl rfl ?_;intro E hH hK;(refine ze ?_;conv=>whnf)
 repeat' ((with_reducible refine way ?_ ?_)<;>(intro h;conv=>whnf))
 ·rename_i g1
  rw [decide_eq_true g1,decide_eq_true h] at hK;exact hK _
 ·rename_i g1
  rw [decide_eq_false h,Bool.and_false,Bool.false_or] at hK;refine zbn 2 rfl rfl rfl rfl rfl rfl hcon ?_;rintro r9 H9 ⟨rfl,rfl⟩ _;(refine zc ?_;conv=>whnf);exact hK _
 ·rw [decide_eq_false h,Bool.false_and,Bool.false_or] at hK
  refine zbn 2 rfl rfl rfl rfl rfl rfl hcon ?_;rintro r9 H9 ⟨rfl,rfl⟩ _;(refine zc ?_;conv=>whnf);exact hK _
theorem ymm (a o:Article):zti a o=(decide (o.number∈a.unless_)||zvv o a||decide (o.number∈wn a.amount)||a.when_.any fun w=>decide (o.number∈wn w)):=by
 rw [<-zib];unfold zti ycq;cases zvv o a<;>(rw [Bool.eq_iff_iff];simp only [List.mem_append,Bool.or_eq_true,decide_eq_true_eq,Bool.false_eq_true,or_false,or_true,true_or,iff_self])<;>first
  |exact ⟨fun h=>h.elim (fun h=>h.elim (fun h=>.inl (.inl h)) .inr) (fun h=>.inl (.inr h)),fun h=>h.elim (fun h=>h.elim (fun h=>.inl (.inl h)) .inr) (fun h=>.inl (.inr h))⟩
theorem zic (a:Article) (m:Nat):SObj.under m (.cells (a.cells.map .imm))=true:=by
 simp only [SObj.under,zee]
theorem ycu (a o:Article) (ha:ArtFit a) (ho:ArtFit o):zq Tryz.prog G 104 [zyp a,zyp o] (sB (zti a o)):=by
 have c1:=zjo G a.unless_ o.number (by have:=ha.uls;omega);have c2:=zqe G o a ho ha;have c3:=zdb G o.number _ a.amount (Nat.lt_succ_self _) ha.amt;have hbu:[SObj.cells (a.cells.map .imm),.cells (o.cells.map .imm)].all (SObj.under 2)=true:=by
  simp only [List.all_cons,List.all_nil,zic];rfl
 have hclo:yxi G 142 1 [.cells (a.cells.map .imm),.cells (o.cells.map .imm)] (fun w=>decide (o.number∈wn w)) a.when_:=fun k hk=>by
  have hc:=zdb G o.number _ k (Nat.lt_succ_self _) (zbi ha.exs k hk);show SPre Tryz.prog G 142 [k.sv,.ptr 1 0] [.cells (a.cells.map .imm),.cells (o.cells.map .imm)] (fun r H'=>r=sB (decide (o.number∈wn k))/\H'=[.cells (a.cells.map .imm),.cells (o.cells.map .imm)]);generalize decide (o.number∈wn k)=z at hc ⊢;obtain ⟨ko,kn,ku,kd,kp,kk⟩:=k;refine xc Tryz.func142 rfl (by rw [Tryz.ntmps142];simp) rfl hbu ?_;intro E hH hK;(refine ze ?_;conv=>whnf);refine zd rfl  hc ?_;(refine zc ?_;conv=>whnf);exact hK _ _ (by show 2<=3;decide) rfl hbu ⟨rfl,rfl⟩
 have hcon:=zkv G rfl (by show 1<2;decide) hbu (by have:=ha.len;omega) hclo;rw [ymm];generalize (a.when_.any fun w=>decide (o.number∈wn w))=z4 at hcon;generalize decide (o.number∈a.unless_)=z1 at c1;generalize zvv o a=z2 at c2;generalize decide (o.number∈wn a.amount)=z3 at c3;clear hclo;cases hma:a.amount with
 |mk aop an au ad ap ak=>
 cases hmo:o.amount with
 |mk oop on ou od op ok=>
 unfold zyp at c2 ⊢;rw [zem hma,zem hmo] at c2 ⊢;rw [zem hma,zem hmo] at hcon;rw [hma] at c3;refine zh Tryz.func104 rfl (by rw [Tryz.ntmps104];simp) rfl rfl ?_;intro E hH hK;(refine ze ?_;conv=>whnf);refine zd rfl  c1 ?_;cases z1 with
 |true=>
  (refine zc ?_;conv=>whnf);exact hK _
 |false=>
 (refine zc ?_;conv=>whnf);refine zd rfl  c2 ?_;cases z2 with
 |true=>
  (refine zc ?_;conv=>whnf);exact hK _
 |false=>
 (refine zc ?_;conv=>whnf);refine zd rfl  c3 ?_;cases z3 with
 |true=>
  (refine zc ?_;conv=>whnf);exact hK _
 |false=>
 (refine zc ?_;conv=>whnf);refine zbn 2 rfl rfl rfl rfl rfl rfl hcon ?_;rintro r9 H9 ⟨rfl,rfl⟩ _;(refine zc ?_;conv=>whnf);exact hK _
theorem zqf:∀(ks:List Ex) (used:List Bool),zfa ks used=ks.foldl (fun u e=>zav e u) used
 |[],_=>by rw [zfa];rfl
 |e::r,used=>by rw [zfa,zqf r];rfl
def bH (used:List Bool):List SObj:=[.cells (used.map sB)]
theorem zkw (used:List Bool):(bH used).all (SObj.under 1)=true:=by
 simp only [bH,List.all_cons,List.all_nil,SObj.under,Bool.and_true]
 induction used with
 |nil=>rfl
 |cons a r ih=>simpa [SV.under.allUnder,SV.under] using ih
theorem zfc (N:Nat):(∀e:Ex,SizeOf.sizeOf e<N->∀used,(zav e used).length=used.length)/\(∀ks:List Ex,SizeOf.sizeOf ks<N->∀used,(zfa ks used).length=used.length):=by
 induction N with
 |zero=>exact ⟨fun e h=>by omega,fun e h=>by omega⟩
 |succ N ih=>
  refine ⟨fun e he used=>?_,fun ks hk used=>?_⟩
  ·obtain ⟨op,n,u,den,ps,ks⟩:=e
   simp only [Ex.mk.sizeOf_spec] at he;rw [zav,ih.2 ks (by omega)];split<;>simp
  ·cases ks with
   |nil=>rw [zfa]
   |cons k r=>
    simp only [List.cons.sizeOf_spec] at hk;rw [zfa,ih.2 r (by omega),ih.1 k (by omega)]
end Go.Proofs.YtjnddlifnkgncaaGreatDoor
namespace Go.Sh
def zmv (ops:Array Oper) (listed:Array Bool):List Nat:=
 (List.range ops.size).filter fun i=> !listed.getD i true&&((ops[i]?).map (·.after.all fun e=> !Region.binds .any e||listed.getD e.on false)).getD false
def zyq (ops:Array Oper):Nat->Array Bool->List (List Nat)
 |0,_=>[[]]
 |n+1,listed=>match zmv ops listed with
  |[]=>[[]]
  |r::rs=>(r::rs).flatMap fun i=>(zyq ops n (listed.setIfInBounds i true)).map (i:: ·)
theorem ytd (ops : Array Oper) : ∀ (fuel t : Nat) (listed : Array Bool), Region.linearise.go .any ops fuel t listed [] ∈ zyq ops fuel listed
  | 0, t, listed => by simp [Region.linearise.go, zyq]
  | fuel + 1, t, listed => by
    simp only [Region.linearise.go, zyq]
    change (match (zmv ops listed)[t % (zmv ops listed).length]? with
      | some i => Region.linearise.go .any ops fuel (t / (zmv ops listed).length) (listed.setIfInBounds i true) [i]
      | none => [].reverse) ∈ _
    cases hi : (zmv ops listed)[t % (zmv ops listed).length]? with
    | none =>
      cases hr : zmv ops listed with
      | nil => simp
      | cons x xs =>
        rw [hr] at hi
        have hlt : t % (x :: xs).length < (x :: xs).length := Nat.mod_lt _ (by simp)
        simp at hi
        simp at hlt
        omega
    | some i =>
      have hm := List.mem_of_getElem? hi
      cases hr : zmv ops listed with
      | nil => rw [hr] at hm; cases hm
      | cons x xs =>
        rw [hr] at hm
        simp only []
        rw [linearise_go_acc, List.reverse_singleton, List.singleton_append]
        refine List.mem_flatMap.2 ⟨i, hm, List.mem_map.2 ⟨_, ytd ops fuel _ _, rfl⟩⟩
section
variable {P:Program} {G:List (Nat × D)} {fn:Func} {rd:Bool} {E:En P G fn rd} {t:List (Nat × SV)} {H:List SObj} {k:List Item}
theorem ycv {b j:Nat} {all:Array Oper} {o:Oper} {rest:List Nat} {fx:Operand} {args:Array Operand} {tys:Array TypeId} {s:LS} {f:FuncId} {n:Nat} {tL:List (Nat × SV)} {ps:Array Tmp} {asg bd:Code}
  (ho:all[j]?=some o) (hop:o.op= .call ⟨.value fx,args,tys⟩) (hw:zu all t o.guard=some true) (hd:yb fn.ntmps o.dst=true) (hf:zl G t fx= .yld b) (hH:H[b]?=some (.loop s f n tL ps asg bd)) (hps:args.size=ps.size)
  {argv:List SV} (hargs:args.toList.map (zl G t)=argv)
  (hc:SYield P G b argv H (fun res H'=>H.length<=H'.length/\SW E (.inRegion all rest::k) (xj t o.dst (.imm (.val (.bool res)))) H')):SW E (.inRegion all (j::rest)::k) t H:=by
 subst hargs;refine ⟨fun a w I β cs hs=>?_⟩;have hwant:=qv hw hs;have hfr:=hs.eval fx;rw [hf] at hfr;generalize hfv:a.eval fx=fv at hfr;cases hfr with
 |yld _ l hbl=>
 obtain ⟨r,q1,q2,q3,q4,q5,q6,q7,q8,q9⟩:=hs.heap.obj b _ _ hH hbl;have hrun:(execOp a.eval o).run P w= .ok (.round l r.fn ((r.params.zip (args.map a.eval)).foldl (fun tmps (t,a)=>tmps.setIfInBounds t a) r.tmps) r.assign r.body) w:=by
  obtain ⟨dst,op,type,pos,after,guard⟩:=o;simp only at hop;subst hop;simp only [execOp,resolve,hfv,Deferred.ofValue,Sem.run_bind,Sem.run_pure,Result.andThen_ok,invoke];have:=run_yield (P:=P) (args:=#[]++args.map a.eval) q1 (by simp [hps,q5]);simpa using this
 have hreps:Reps w I β (args.map a.eval).toList (args.toList.map (zl G t)):=by simpa using zdy hs.eval args.toList
 obtain ⟨res,w',⟨I',β',H',⟨hl,hsw⟩,hH',hext⟩,hsteps⟩:=hc w I β l r _ hs.heap hbl q1 hreps (E.at a (.inRegion all (j::rest)::k)) cs;have hg:=jt (P:=P) (b:=E.base) (ro:=E.ro) (k:=k) (cs:=cs) (w:=w) (rest:=rest) ho hwant (.inr fun c e=>by rw [hop] at e;cases e);have henter:step P (lone (E.at a (.inRegion all (j::rest)::k)) cs w)=
   .next (lone (Frame.round l r.fn ((r.params.zip (args.map a.eval)).foldl (fun tmps (t,a)=>tmps.setIfInBounds t a) r.tmps) r.assign r.body .normal) (E.at a (.inRegion all (j::rest)::k)::cs) w):=
  step_lone_go (by unfold En.at;rw [hg];simp only [stepG.apply,Sem.runT_eq,hrun,if_true,GStep.bare_after];rfl)
 have qr:(E.at a (.inRegion all (j::rest)::k)).finish (.bool res)=E.at (a.put o.dst (.bool res)) (.inRegion all rest::k):=by
  unfold En.at;rw [qm,ho];rfl
 rw [qr] at hsteps;exact .of_steps (.head henter hsteps) (hsw.run _ w' I' β' cs (hs.put hd (.imm (.val _)) hH' hext hl))
theorem yvd {f:FuncId} {args:List SV} {H0:List SObj} {K:SV->List SObj->Prop} (hargs:args.all (SV.under H0.length)=true) (hH0:H0.all (SObj.under H0.length)=true)
  (h:SCall P G f args H0 (fun r H'=>H0.length<=H'.length/\r.under H0.length=true/\(H'.take H0.length).all (SObj.under H0.length)=true/\K r (H'.take H0.length))):SPre P G f args H0 K:=by
 intro X w I β vs hH hv;have hs:=hH.small hH0;refine (h w I (β.take H0.length) vs hs (zlr hv hargs)).mono ?_;rintro e w' ⟨v,r,I',β1,H',rfl,⟨hl,hr,hu1,hK⟩,g1,g2,g3⟩;obtain ⟨q1,q2⟩:=hH.whole (H1:=H') hl hu1 g2 g3;have hlen1:β1.length=H'.length:=g2.len;refine ⟨v,r,I',_,_,rfl,⟨H'.take H0.length,hK,by simp;omega,rfl⟩,?_,q1,q2⟩;refine (zoz g1 hr).mono_below (fun _ _ h=>h) (fun _ _ _=>rfl) (m:=H0.length) (fun b x hb hx=>?_) hr;exact ⟨x,by rw [List.getElem?_append_left (lt_of_getElem? hx)];exact hx,x.le_refl⟩
theorem ymn {all:Array Oper} {o:Oper} {rest:List Oper} {done:List Eff} {K:List SObj} {mm ty kt et b:Nat} {z:Value} {x ix:Operand} {α:Type} {kk:IntKind} {i:Int} {l:List (Int × α)} (f:α->SV) {v:SV} (hop:o.op= .lookup ty x ix false)
  (hw:zu all t o.guard=some true) (hd:yb fn.ntmps o.dst=true) (hx:zl G t x= .map b) (hi:zl G t ix= .imm (.val (.int kk i))) (hu:P.underlying ty=some (.map kt et)) (hk:P.underlying kt=some (.int kk)) (hz:jx P et=some z)
  (hm:mm<=K.length) (hb:K[b]?=some (.mapI kk (jo f l))) (hv:((yf i l).map f).getD (jl z)=v) (h:SWe E mm all rest k (xj t o.dst v) K (done++[⟨v,[b],none⟩])):SWe E mm all (o::rest) k t K done:=by
 refine zaf ⟨v,[b],none⟩ hw hd hm (fun K' _ ha=>?_) h;have hb':K'[b]?=some (.mapI kk (jo f l)):=by rw [ha b (.inl (by simp))];exact hb
 rw [hop];have:=zkg (G:=G) (t:=t) (P:=P) (ok:=false) (f:=f) hx hi hb' hu hk hz;rw [this,hv];rfl
end
mutual
theorem SV.ren_id {m:Nat} {σ:Nat->Nat} (hσ:∀b,b<m->σ b=b):∀s:SV,s.under m=true->s.ren σ=s
 | .any,_=>rfl
 | .imm _,_=>rfl
 | .ptr b _,h=>by simp only [SV.under,decide_eq_true_eq] at h;simp only [SV.ren,hσ b h]
 | .osl b _ _,h=>by simp only [SV.under,decide_eq_true_eq] at h;simp only [SV.ren,hσ b h]
 | .asl b _ _,h=>by simp only [SV.under,decide_eq_true_eq] at h;simp only [SV.ren,hσ b h]
 | .map b,h=>by simp only [SV.under,decide_eq_true_eq] at h;simp only [SV.ren,hσ b h]
 | .yld b,h=>by simp only [SV.under,decide_eq_true_eq] at h;simp only [SV.ren,hσ b h]
 | .vec b _,h=>by simp only [SV.under,decide_eq_true_eq] at h;simp only [SV.ren,hσ b h]
 | .vptr b _ _,h=>by simp only [SV.under,decide_eq_true_eq] at h;simp only [SV.ren,hσ b h]
 | .fn _ x y,h=>by
  simp only [SV.under,Bool.and_eq_true] at h;simp only [SV.ren,zjp hσ x h.1,zjp hσ y h.2]
 | .iface _ v,h=>by
  simp only [SV.under] at h;simp only [SV.ren,SV.ren_id hσ v h]
 | .agg cs,h=>by
  simp only [SV.under] at h;simp only [SV.ren,zjp hσ cs h]
 | .tup vs,h=>by
  simp only [SV.under] at h;simp only [SV.ren,zjp hσ vs h]
theorem zjp {m:Nat} {σ:Nat->Nat} (hσ:∀b,b<m->σ b=b):∀l:List SV,SV.under.allUnder m l=true->SV.ren.renL σ l=l
 |[],_=>rfl
 |s::r,h=>by
  simp only [SV.under.allUnder,Bool.and_eq_true] at h;simp only [SV.ren.renL,SV.ren_id hσ s h.1,zjp hσ r h.2]
end
theorem zoa {α:Type} {f:α->α} {l:List α} (h:∀a∈l,f a=a):l.map f=l:=by
 conv=>rhs;rw [<-List.map_id l]
 exact List.map_congr_left h
theorem SObj.ren_id {m:Nat} {σ:Nat->Nat} (hσ:∀b,b<m->σ b=b) (o:SObj) (h:o.under m=true):o.ren σ=o:=by
 cases o with
 |cells cs=>simp only [SObj.ren];rw [<-zej,zjp hσ cs h]
 |mapI kk es=>
  simp only [SObj.under,List.all_eq_true] at h;simp only [SObj.ren];rw [zoa fun e he=>by rw [SV.ren_id hσ e.2 (h e he)]]
 |mapS es=>
  simp only [SObj.under,List.all_eq_true] at h;simp only [SObj.ren];rw [zoa fun e he=>by rw [SV.ren_id hσ e.2 (h e he)]]
 |loop s f n t ps a b=>
  simp only [SObj.under,List.all_eq_true] at h;simp only [SObj.ren];rw [zoa fun e he=>by rw [SV.ren_id hσ e.2 (h e he)]]
 |vec kk cs=>simp only [SObj.ren];rw [<-zej,zjp hσ cs h]
 |pin kk es c=>
  simp only [SObj.under,List.all_eq_true] at h;simp only [SObj.ren];rw [zoa fun e he=>by rw [SV.ren_id hσ e.2.2 (h e he)]]
 |iter b s seen l=>simp only [SObj.under,decide_eq_true_eq] at h;simp only [SObj.ren,hσ b h]
 |tok _ _=>rfl
 |dead=>rfl
 |free=>rfl
 |bld _=>rfl
 |btok _ _=>rfl
section
variable {P:Program} {G:List (Nat × D)} {fn:Func} {rd:Bool} {E:En P G fn rd} {t:List (Nat × SV)} {H:List SObj} {k:List Item}
theorem zmw {all:Array Oper} {o:Oper} {rest:List Oper} {ty b n:Nat} {ax vx:Operand} {new old:List SV} (hop:o.op= .store ty ax vx) (hw:zu all t o.guard=some true) (hd:yb fn.ntmps o.dst=true) (ha:zl G t ax= .ptr b 0)
  (hv:(zl G t vx).cells=some new) (hone:new.all SV.one=true) (hsz:xe P ty=some n) (hn:new.length=n) (hb:H[b]?=some (.cells old)) (hol:old.length=n) (h:SWr E all rest k (xj t o.dst .any) (H.set b (.cells new))):SWr E all (o::rest) k t H:=by
 refine qy (r:=.any) (H':=H.set b (.cells new)) hw hd ?_ (by simp) h;rw [hop];subst hn;simp only [sop,zci,ha,hv,hsz,hb];rw [if_pos ⟨trivial,by omega,hone⟩];simp [<-hol]
end
end Go.Sh
namespace Go.Proofs.YtjnddlifnkgncaaGreatDoor
open Go Go.Sh
variable (G:List (Nat × D))
abbrev zjq:SV:=.imm (.val (.slice none 0 0))
def xb (l:List Int):List (List D):=l.map fun n=>[dI n]
def zih:Nat->List (List Int)->List SV
 |_,[]=>[]
 |k,l::r=>.asl k 1 (xb l)::zih (k+1) r
def ycw (A:List (List Int)):List SObj:=A.map fun l=>.tok 1 (xb l).length
theorem zvz:∀(k:Nat) (A:List (List Int)),(zih k A).length=A.length
 |_,[]=>rfl
 |k,_::r=>by rw [zih,List.length_cons,zvz,List.length_cons]
theorem zwa:∀(k:Nat) (A:List (List Int)) (j:Nat),(zih k A)[j]?=(A[j]?).map fun l=>.asl (k+j) 1 (xb l)
 |_,[],j=>by simp [zih]
 |k,l::r,0=>rfl
 |k,l::r,j+1=>by
  rw [zih,List.getElem?_cons_succ,zwa,List.getElem?_cons_succ,show k+1+j=k+(j+1) by omega]
theorem yfp (l':List Int):∀(k:Nat) (A:List (List Int)) (j:Nat),(zih k A).set j (.asl (k+j) 1 (xb l'))=zih k (A.set j l')
 |_,[],j=>rfl
 |k,l::r,0=>rfl
 |k,l::r,j+1=>by
  rw [zih,List.set_cons_succ,List.set_cons_succ,zih, <-yfp l' (k+1) r j,show k+1+j=k+(j+1) by omega]
theorem yfq (l:List Int):∀(k:Nat) (A:List (List Int)),zih k (A++[l])=zih k A++[.asl (k+A.length) 1 (xb l)]
 |_,[]=>rfl
 |k,a::r=>by
  rw [List.cons_append,zih,yfq l (k+1) r,zih,List.length_cons,show k+1+r.length=k+(r.length+1) by omega];rfl
theorem ztm:∀(k N:Nat) (A:List (List Int)),k+A.length<=N->SV.under.allUnder N (zih k A)=true
 |_,_,[],_=>rfl
 |k,N,a::r,h=>by
  rw [List.length_cons] at h;rw [zih];simp only [SV.under.allUnder,SV.under,Bool.and_eq_true,decide_eq_true_eq];exact ⟨by omega,ztm (k+1) N r (by omega)⟩
theorem jw (N:Nat) (l:List Int):SV.under.allUnder N (l.map sI)=true:=by
 induction l with
 |nil=>rfl
 |cons a r ih=>simpa [SV.under.allUnder,SV.under] using ih
def SQ (o0:SObj) (M:List Int) (A:List (List Int)):List SObj:=[o0,.cells (M.map sI),.cells (zih 3 A)]++ycw A
theorem ziw (o0:SObj) (M:List Int) (A:List (List Int)):(SQ o0 M A).length=3+A.length:=by simp [SQ,ycw];omega
theorem ymo (N:Nat) (A:List (List Int)):(ycw A).all (SObj.under N)=true:=by
 induction A with
 |nil=>rfl
 |cons a r ih=>simp [ycw,SObj.under]
theorem yfr {o0:SObj} {M:List Int} {A:List (List Int)} {N:Nat} (h0:o0.under N=true) (h:3+A.length<=N):(SQ o0 M A).all (SObj.under N)=true:=by
 rw [SQ,List.all_append,ymo,Bool.and_true];have e1:SObj.under N (.cells (M.map sI))=true:=jw N M;have e2:SObj.under N (.cells (zih 3 A))=true:=ztm 3 N A h;simp only [List.all_cons,List.all_nil,h0,e1,e2];rfl
theorem zob {α:Type} (H:List α) (a b:α):(H++[a]).set H.length b=H++[b]:=by rw [List.set_append_right _ _ (Nat.le_refl _)];simp
theorem zid {α:Type} (H:List α) (a:α):(H++[a])[H.length]?=some a:=by simp
theorem yxk {o0:SObj} {M:List Int} {A:List (List Int)} {j:Nat} {l:List Int} (h:A[j]?=some l) (X:List SObj):(SQ o0 M A++X)[3+j]?=some (.tok 1 (xb l).length):=by
 have hlt:=lt_of_getElem? h;rw [List.getElem?_append_left (by rw [ziw];omega),SQ,List.getElem?_append_right (by simp),ycw,List.getElem?_map];simp [h]
theorem yve {o0:SObj} {M M':List Int} {A:List (List Int)} {j:Nat} {l':List Int} (hj:j<A.length) (X:List SObj):
  (((SQ o0 M A++X).set 1 (.cells (M'.map sI))).set (3+j) (.tok 1 (xb l').length)).set 2 (.cells ((zih 3 A).set j (.asl (3+j) 1 (xb l'))))=SQ o0 M' (A.set j l')++X:=by
 have e1:(SQ o0 M A++X).set 1 (.cells (M'.map sI))=SQ o0 M' A++X:=rfl;have e2:(SQ o0 M' A++X).set (3+j) (.tok 1 (xb l').length)=[o0,.cells (M'.map sI),.cells (zih 3 A)]++ycw (A.set j l')++X:=by
  rw [List.set_append_left _ _ (by rw [ziw];omega),SQ,List.set_append_right _ _ (by simp)];simp [ycw,List.map_set]
 rw [e1,e2,yfp];rfl
theorem yfs {fn:Func} {rd:Bool} {E:En Tryz.prog G fn rd} {k:List Item} {t:List (Nat × SV)} (o0 o1:SObj) (n:Nat) (hE:E.H.length<=3):∀(d j:Nat),j+d=n->
  SW E k t ([o0,o1,.cells (zih 3 (List.replicate n []))]++ycw (List.replicate n []))->
  SW E k t ([o0,o1,.cells (zih 3 (List.replicate j [])++List.replicate d zjq)]++ycw (List.replicate j []))
 |0,j,h,hs=>by
  obtain rfl:j=n:=by omega
  simpa using hs
 |d+1,j,h,hs=>by
  have ih:=yfs o0 o1 n hE d (j+1) (by omega) hs;have hl:(zih 3 (List.replicate j [])).length=j:=by rw [zvz,List.length_replicate]
  refine zeu 2 j 1 rfl (by rw [List.getElem?_append_right (by omega),hl];simp) ?_;have e1:([o0,o1,SObj.cells (zih 3 (List.replicate j [])++List.replicate (d+1) zjq)]++ycw (List.replicate j [])).length=3+j:=by simp [ycw];omega
  rw [e1];have e2:((zih 3 (List.replicate j [])++List.replicate (d+1) zjq).set j (.asl (3+j) 1 []))=zih 3 (List.replicate (j+1) [])++List.replicate d zjq:=by
   rw [List.set_append_right _ _ (by omega),hl,Nat.sub_self,List.replicate_succ,List.set_cons_zero,List.replicate_succ',yfq,List.length_replicate,List.append_assoc];rfl
  rw [e2];have e3:ycw (List.replicate (j+1) [])=ycw (List.replicate j [])++[.tok 1 0]:=by
   rw [List.replicate_succ'];simp [ycw,xb]
  rw [e3, <-List.append_assoc] at ih;exact ih
def ypm (a:Article) (op n:Int) (u:ByteArray) (den:Int) (ps:List Piece) (ks:List Ex):List D:=
 [dI a.number,dI a.line,dI a.rank,dI a.lo,dI a.hi,dI a.known,jc a.when_,yh a.unless_,dI op,dI n,dS u,dI den,.isl 3 (ps.map Piece.cells),.isl 6 (zo ks)]
theorem zhh {a:Article} {op n:Int} {u:ByteArray} {den:Int} {ps:List Piece} {ks:List Ex} (h:a.amount= .mk op n u den ps ks):a.cells=ypm a op n u den ps ks:=by
 simp [Article.cells,ypm,h,wg,Ex.op,Ex.n,Ex.unit,Ex.den,Ex.pieces,Ex.kids]
theorem zoc {a:Article} {op n:Int} {u:ByteArray} {den:Int} {ps:List Piece} {ks:List Ex} (h:a.amount= .mk op n u den ps ks):zyp a= .agg (jg a op n u den ps ks):=by
 unfold zyp;rw [zem h]
theorem ztn {c:Codex} {i:Nat} {a:Article} (h:c.arts[i]?=some a):zcw c (i:Int)=some a:=by
 unfold zcw;rw [if_neg (by omega),Int.toNat_natCast];exact h
theorem yrj {c:Codex} {i j:Nat} {a b:Article} (ha:c.arts[i]?=some a) (hb:c.arts[j]?=some b):zhd c i j=zti a b:=by
 unfold zhd;rw [ztn ha,ztn hb]
theorem yvf (b k:Nat) (rows:List (List D)):(SV.asl b k rows).Is (.imm (.isl k rows)):=fun w I β v h=>by
 cases h with|asl _ _ _ _ _ _ h1=>exact .imm h1
def zbx (c:Codex):SObj:=.cells [.imm (zx c.facts),.imm (zx c.lines),.imm (wm c.arts)]
theorem zma (c:Codex) (N:Nat):(zbx c).under N=true:=rfl
def zbg (c:Codex) (n:Nat):List Int:=((List.range n).filter fun (i:Nat)=>decide (yig c i=0)).map fun (i:Nat)=>(i:Int)
theorem zyr (c:Codex) (n:Nat):zbg c (n+1)=if yig c n=0 then zbg c n++[(n:Int)] else zbg c n:=by
 unfold zbg;rw [List.range_succ,List.filter_append,List.map_append]
 by_cases h:yig c n=0
 ·simp [h]
 ·simp [h]
theorem zys (c:Codex) (f next:Nat) (s:List Int × List Int) {v:Int} (h:s.2[next]?=some v):zbf c (f+1) next s=zbf c f (next+1) ((yrc c v).foldl zel s):=by
 rw [zbf,h]
theorem ycx (c:Codex) (f next:Nat) (s:List Int × List Int) (h:s.2[next]?=none):zbf c f next s=s:=by
 cases f with
 |zero=>rfl
 |succ f=>rw [zbf,h]
theorem zkx (l:List Int):(xb l).length=l.length:=by simp [xb]
theorem zyt (l:List Int) (x:Int):xb l++[[dI x]]=xb (l++[x]):=by simp [xb]
theorem zqg (c:Codex) (hA:∀a∈c.arts,ArtFit a) (hz:c.arts.length<=1000):zq Tryz.prog G 66 [c.sv] (.tup [.imm (yh (yih c)),sB (decide ((yih c).length=c.arts.length))]):=by
 have hal:(c.arts.map Article.cells).length=c.arts.length:=by simp
 rw [show c.sv= .agg [.imm (zx c.facts),.imm (zx c.lines),.imm (wm c.arts)] from rfl];refine zh Tryz.func66 rfl (by rw [Tryz.ntmps66];simp) rfl rfl ?_;intro E hH hK;(refine ze ?_;conv=>whnf);refine zms (n:=c.arts.length) (zz:=sI 0) rfl rfl rfl rfl rfl rfl rfl rfl rfl ⟨by decide,rfl⟩ rfl (by rw [<-hal]) (by rw [<-hal]) (by omega) ?_;(refine zc ?_;conv=>whnf);refine zms (n:=c.arts.length) (zz:=zjq) rfl rfl rfl rfl rfl rfl rfl rfl rfl ⟨by decide,rfl⟩ rfl (by rw [<-hal]) (by rw [<-hal]) (by omega) ?_;(refine zc ?_;conv=>whnf);refine zg [1,4,5,25,26,27] ?_;change SW E _ [(1,.ptr 0 0),(4,.osl 1 0 c.arts.length),(5,.osl 2 0 c.arts.length),(25,.imm (wm c.arts)),(26,sI ((c.arts.map Article.cells).length:Nat)),(27,sI (0:Nat))] ([.cells [.imm (zx c.facts),.imm (zx c.lines),.imm (wm c.arts)],.cells (List.replicate c.arts.length (sI 0)),.cells (zih 3 (List.replicate 0 [])++List.replicate c.arts.length zjq)]++ycw (List.replicate 0 []));rw [hal];refine yfs G _ _ c.arts.length (by simp [hH]) c.arts.length 0 (by omega) ?_;rw [show List.replicate c.arts.length (sI 0)=(List.replicate c.arts.length (0:Int)).map sI by rw [List.map_replicate]];change SW E _ _ (SQ (zbx c) (List.replicate c.arts.length 0) (List.replicate c.arts.length []));refine zp c.arts (fun i (_:List Int × List (List Int))=>[(1,.ptr 0 0),(4,.osl 1 0 c.arts.length),(5,.osl 2 0 c.arts.length),(25,.imm (wm c.arts)),(26,sI (c.arts.length:Nat)),(27,sI (i:Nat))]) (fun _ s=>SQ (zbx c) s.1 s.2)
  (fun done _ s=>MInv c done.length 0 s.1 s.2) (List.replicate c.arts.length 0,List.replicate c.arts.length []) (yii c) ?_ ?_
 ·rintro ⟨M,A⟩ hinv
  obtain ⟨e1,e2⟩:=yrg hinv;have hl:=hinv.al;simp only at e1 e2 hl;have hL:(SQ (zbx c) M A).length=3+c.arts.length:=by rw [ziw,hl]
  have hMl:M.length=c.arts.length:=hinv.ml;clear hinv;change SW E _ [(1,.ptr 0 0),(4,.osl 1 0 c.arts.length),(5,.osl 2 0 c.arts.length),(25,.imm (wm c.arts)),(26,sI (c.arts.length:Nat)),(27,sI (c.arts.length:Nat))] (SQ (zbx c) M A);(refine ze ?_;conv=>whnf)
  repeat' ((with_reducible refine way ?_ ?_)<;>(intro h;conv=>whnf))
  all_goals try (exfalso;omega)
  refine zg [1,4,5,10,61,62,63] ?_;change SW E _ [(1,.ptr 0 0),(4,.osl 1 0 c.arts.length),(5,.osl 2 0 c.arts.length),(10,zjq),(61,.osl 1 0 c.arts.length),(62,sI (c.arts.length:Nat)),(63,sI (0:Nat))] (SQ (zbx c) M A);refine zin (n:=10) (kk:=1) rfl ?_;rw [hL];refine zg [1,4,5,10,61,62,63] ?_;change SW E _ [(1,.ptr 0 0),(4,.osl 1 0 c.arts.length),(5,.osl 2 0 c.arts.length),(10,.asl (3+c.arts.length) 1 (xb (zbg c 0))),(61,.osl 1 0 c.arts.length),(62,sI (c.arts.length:Nat)),(63,sI (0:Nat))] (SQ (zbx c) M A++[.tok 1 (xb (zbg c 0)).length]);rw [<-hMl];refine zp M (fun i (sq:List Int)=>[(1,.ptr 0 0),(4,.osl 1 0 M.length),(5,.osl 2 0 M.length),(10,.asl (3+M.length) 1 (xb sq)),(61,.osl 1 0 M.length),(62,sI (M.length:Nat)),(63,sI (i:Nat))]) (fun _ sq=>SQ (zbx c) M A++[.tok 1 (xb sq).length])
   (fun done _ sq=>sq=zbg c done.length) (zbg c 0) rfl ?_ ?_
  ·rintro sq rfl
   rw [hMl];have hst:zda c=(M,zbg c c.arts.length):=by rw [e1];rfl
   have hsi:=ztk c;rw [hst] at hsi;have htgt:zbf c (c.arts.length+1) 0 (M,zbg c c.arts.length)=zbf c (c.arts.length+1) 0 (zda c):=by rw [hst]
   have hres:yih c=(zbf c (c.arts.length+1) 0 (zda c)).2:=rfl;rw [hres] at hK;clear hres;generalize zbf c (c.arts.length+1) 0 (zda c)=T at htgt hK;generalize zbg c c.arts.length=sq0 at hst hsi htgt;clear hst e1;(refine ze ?_;conv=>whnf)
   repeat' ((with_reducible refine way ?_ ?_)<;>(intro h;conv=>whnf))
   all_goals try (exfalso;omega)
   refine zg [1,4,5,10,13] ?_;change SW E _ [(1,.ptr 0 0),(4,.osl 1 0 c.arts.length),(5,.osl 2 0 c.arts.length),(10,.asl (3+c.arts.length) 1 (xb sq0)),(13,sI (0:Nat))] (SQ (zbx c) M A++[.tok 1 (xb sq0).length]);refine yy (σ:=Nat × List Int × List Int) (fun s=>[(1,.ptr 0 0),(4,.osl 1 0 c.arts.length),(5,.osl 2 0 c.arts.length),(10,.asl (3+c.arts.length) 1 (xb s.2.2)),(13,sI (s.1:Nat))]) (fun s=>SQ (zbx c) s.2.1 A++[.tok 1 (xb s.2.2).length])
    (fun s=>zbf c (c.arts.length+1-s.1) s.1 s.2=T/\SInv c (-((s.1*c.arts.length:Nat):Int)) s.2/\s.1<=s.2.2.length) (fun s=>c.arts.length+1-s.1) ?_ (0,M,sq0) ⟨htgt,by simpa using hsi,Nat.zero_le _⟩
   clear htgt hsi hL hMl sq0 M;rintro ⟨next,M,sq⟩ ⟨k1,k2,k3⟩ ih;simp only at k1 k2 k3;have hL:(SQ (zbx c) M A).length=3+c.arts.length:=by rw [ziw,hl]
   have hqn:sq.length<=c.arts.length:=by have:=k2.cnt;simp only at this;omega
   change SW E _ [(1,.ptr 0 0),(4,.osl 1 0 c.arts.length),(5,.osl 2 0 c.arts.length),(10,.asl (3+c.arts.length) 1 (xb sq)),(13,sI (next:Nat))] (SQ (zbx c) M A++[.tok 1 (xb sq).length]);have hrl:=zkx sq
   by_cases hlt:next<sq.length
   ·obtain ⟨v,hv⟩:∃v,sq[next]?=some v:=⟨_,List.getElem?_eq_getElem hlt⟩
    have hvr:=k2.mem v (List.mem_of_getElem? hv);rw [show c.arts.length+1-next=(c.arts.length-next)+1 by omega,zys c _ next (M,sq) hv] at k1;have hrv:(xb sq)[next]?=some [dI v]:=by rw [xb,List.getElem?_map,hv];rfl
    have hAv:(zih 3 A)[0+v.toNat*1]?=some (.asl (3+v.toNat) 1 (xb (yrc c v))):=by
     have hvv:((v.toNat:Nat):Int)=v:=by omega
     rw [Nat.zero_add,Nat.mul_one,zwa,e2,List.getElem?_map,List.getElem?_range (by omega)];simp [hvv]
    have hvn:v=(v.toNat:Int):=by omega
    have hmul:next*c.arts.length<=1000*1000:=Nat.mul_le_mul (by omega) hz
    have hsucc:(next+1)*c.arts.length=next*c.arts.length+c.arts.length:=Nat.succ_mul _ _
    have ih:=fun s h1 h2 h3=>ih (next+1,s) ⟨h1,h2,h3⟩ (by simp only;omega)
    simp only at ih;rw [hsucc] at ih;generalize next*c.arts.length=q at k2 hmul ih
    have hal3:=yrh c v;have ham3:=fun x=>yfo (c:=c) (j:=v) (v:=x)
    rw [show c.arts.length+1-(next+1)=c.arts.length-next by omega] at ih;generalize yrc c v=av at k1 hAv hal3 ham3;(refine zm [777,84] 1000 ?_;conv=>whnf)
    repeat' ((with_reducible refine way ?_ ?_)<;>(intro h;conv=>whnf))
    all_goals try (exfalso;omega)
    refine zi (i:=next) (row:=[dI v]) rfl rfl hrv ?_;(refine zj [777,86] 1000 ?_;conv=>whnf);refine zah (i:=v.toNat) rfl rfl rfl rfl rfl rfl rfl hvn (by omega) ?_;refine wh (b:=2) (cs:=zih 3 A) (v:=.asl (3+v.toNat) 1 (xb av)) rfl rfl rfl rfl rfl hAv ?_;(refine zc ?_;conv=>whnf);refine zg [1,4,5,10,13,87,88,89] ?_;change SW E _ [(1,.ptr 0 0),(4,.osl 1 0 c.arts.length),(5,.osl 2 0 c.arts.length),(10,.asl (3+c.arts.length) 1 (xb sq)),(13,sI (next:Nat)),(87,.asl (3+v.toNat) 1 (xb av)),(88,sI ((xb av).length:Nat)),(89,sI (0:Nat))] (SQ (zbx c) M A++[SObj.tok 1 (xb sq).length]);rw [zkx av];refine zp av (fun i (s:List Int × List Int)=>[(1,.ptr 0 0),(4,.osl 1 0 c.arts.length),(5,.osl 2 0 c.arts.length),(10,.asl (3+c.arts.length) 1 (xb s.2)),(13,sI (next:Nat)),(87,.asl (3+v.toNat) 1 (xb av)),(88,sI (av.length:Nat)),(89,sI (i:Nat))]) (fun _ s=>SQ (zbx c) s.1 A++[SObj.tok 1 (xb s.2).length])
     (fun done rest s=>SInv c (-(q:Int)-done.length) s/\next<s.2.length/\zbf c (c.arts.length-next) (next+1) (rest.foldl zel s)=T) (M,sq) ⟨by simpa using k2,hlt,k1⟩ ?_ ?_
    ·rintro ⟨M2,sq2⟩ ⟨i1,i2,i3⟩
     simp only at i1 i2 i3;have hw:=zk (n:=next) (by omega);have ih:=ih (M2,sq2) i3 (zym i1 (by omega)) i2;change SW E _ [(1,.ptr 0 0),(4,.osl 1 0 c.arts.length),(5,.osl 2 0 c.arts.length),(10,.asl (3+c.arts.length) 1 (xb sq2)),(13,sI (next:Nat)),(87,.asl (3+v.toNat) 1 (xb av)),(88,sI (av.length:Nat)),(89,sI (av.length:Nat))] (SQ (zbx c) M2 A++[SObj.tok 1 (xb sq2).length]);(refine ze ?_;conv=>whnf)
     repeat' ((with_reducible refine way ?_ ?_)<;>(intro h;conv=>whnf))
     all_goals try (exfalso;omega)
     rw [hw];exact zg [1,4,5,10,13] ih
    ·rintro done x rest ⟨M2,sq2⟩ hdv hdl3 ⟨i1,i2,i3⟩ ih2
     simp only at i1 i2 i3;have hxr:=ham3 x (by rw [hdv];simp);have hxn:x=(x.toNat:Int):=by omega
     have hML:M2.length=c.arts.length:=i1.len;have hLq:(SQ (zbx c) M2 A).length=3+c.arts.length:=by rw [ziw,hl]
     have hq2:sq2.length<=c.arts.length:=by have:=i1.cnt;simp only at this;omega
     have hrx:(xb av)[done.length]?=some [dI x]:=by rw [xb,List.getElem?_map,hdv];simp
     have hw:=zk (n:=done.length) (by omega);obtain ⟨mm,hmm⟩:∃mm,M2[x.toNat]?=some mm:=⟨_,List.getElem?_eq_getElem (by omega)⟩;have hmr:=i1.rng mm (List.mem_of_getElem? hmm);have hwm:IntKind.i64.wrap (mm-1)=mm-1:=zt (by omega) (by omega);have hMm:(M2.map sI)[0+x.toNat*1]?=some (sI mm):=by rw [Nat.zero_add,Nat.mul_one,List.getElem?_map,hmm];rfl
     have hMm2:((M2.set x.toNat (mm-1)).map sI)[0+x.toNat*1]?=some (sI (mm-1)):=by rw [Nat.zero_add,Nat.mul_one,List.getElem?_map,List.getElem?_set_self (by omega)];rfl
     have zby:=ymk i1 hxr.1 hxr.2;have hgd:M2.getD x.toNat 0=mm:=by rw [List.getD_eq_getElem?_getD,hmm];rfl
     have hse:zel (M2,sq2) x=(M2.set x.toNat (mm-1),if mm-1=0 then sq2++[x] else sq2):=by unfold zel;simp only [hgd]
     rw [List.foldl_cons,hse] at i3;rw [hse] at zby;have ih2:=fun sq3 (h1:(if mm-1=0 then sq2++[x] else sq2)=sq3)=>ih2 (M2.set x.toNat (mm-1),sq3) ⟨by rw [h1] at zby;rw [List.length_append];exact zym zby (by simp only [List.length_singleton];omega),by rw [<-h1];simp only;split<;>(try rw [List.length_append])<;>omega,by rw [<-h1];exact i3⟩
     simp only at ih2;change SW E _ [(1,.ptr 0 0),(4,.osl 1 0 c.arts.length),(5,.osl 2 0 c.arts.length),(10,.asl (3+c.arts.length) 1 (xb sq2)),(13,sI (next:Nat)),(87,.asl (3+v.toNat) 1 (xb av)),(88,sI (av.length:Nat)),(89,sI (done.length:Nat))] (SQ (zbx c) M2 A++[SObj.tok 1 (xb sq2).length]);(refine zm [777,91] 1000 ?_;conv=>whnf)
     repeat' ((with_reducible refine way ?_ ?_)<;>(intro h;conv=>whnf))
     all_goals try (exfalso;omega)
     refine zi (i:=done.length) (row:=[dI x]) rfl rfl hrx ?_;(refine zj [777,95] 1000 ?_;conv=>whnf);refine zah (i:=x.toNat) rfl rfl rfl rfl rfl rfl rfl hxn (by omega) ?_;refine wh (b:=1) (cs:=M2.map sI) (v:=sI mm) rfl rfl rfl rfl rfl hMm ?_;(refine zj [777,98] 1000 ?_;conv=>whnf);rw [hwm];refine zah (i:=x.toNat) rfl rfl rfl rfl rfl rfl rfl hxn (by omega) ?_;refine zhz (b:=1) (cs:=M2.map sI) (off:=0+x.toNat*1) (v:=sI (mm-1)) rfl rfl rfl rfl rfl rfl rfl rfl rfl (by rw [List.length_map,hML];omega) ?_;rw [show (M2.map sI).set (0+x.toNat*1) (sI (mm-1))=(M2.set x.toNat (mm-1)).map sI by rw [Nat.zero_add,Nat.mul_one,List.map_set]];refine (fun (hs:∀H2,H2=SQ (zbx c) (M2.set x.toNat (mm-1)) A++[SObj.tok 1 (xb sq2).length]->SWr E _ _ _ _ H2)=>hs _ rfl) ?_;rintro _ rfl;(refine zj [777,101] 1000 ?_;conv=>whnf);refine zah (i:=x.toNat) rfl rfl rfl rfl rfl rfl rfl hxn (by omega) ?_;refine wh (b:=1) (cs:=(M2.set x.toNat (mm-1)).map sI) (v:=sI (mm-1)) rfl rfl rfl rfl rfl hMm2 ?_;(refine zj [777,107] 1000 ?_;conv=>whnf);have hLq2:(SQ (zbx c) (M2.set x.toNat (mm-1)) A).length=3+c.arts.length:=by rw [ziw,hl]
     repeat' ((with_reducible refine way ?_ ?_)<;>(intro h;conv=>whnf))
     ·have ih2:=ih2 _ (if_pos ‹mm-1=0›)
      have htok:(SQ (zbx c) (M2.set x.toNat (mm-1)) A++[SObj.tok 1 (xb sq2).length])[3+c.arts.length]?=some (.tok 1 (xb sq2).length):=by
       rw [<-hLq2];exact zid _ _
      refine zr (b:=3+c.arts.length) (kk:=1) (rows:=xb sq2) (new:=[[dI x]]) rfl ⟨by decide,rfl⟩ htok (by rw [zkx];simp only [List.length_cons,List.length_nil];omega) ?_;rw [zyt, <-hLq2,zob,hLq2];have hr2:(xb sq2).length+[[dI x]].length=(xb (sq2++[x])).length:=by simp [xb]
      rw [hr2];(refine zc ?_;conv=>whnf);rw [hw];exact zg [1,4,5,10,13,87,88,89] ih2
     ·have ih2:=ih2 _ (if_neg ‹¬mm-1=0›)
      rw [hw];exact zg [1,4,5,10,13,87,88,89] ih2
   ·rw [ycx c _ next (M,sq) (List.getElem?_eq_none (by simp only;omega))] at k1
    subst k1;simp only at hK;have hal:(c.arts.map Article.cells).length=c.arts.length:=by simp
    (refine ze ?_;conv=>whnf)
    repeat' ((with_reducible refine way ?_ ?_)<;>(intro h;conv=>whnf))
    all_goals try (exfalso;omega)
    refine yyp 10 rfl (yvf _ _ _) ?_;refine yc mixed rfl ?_;(refine zf [] ?_;conv=>whnf);(refine ze ?_;conv=>whnf);have e3:decide ((((xb sq).length:Nat):Int)=(((c.arts.map Article.cells).length:Nat):Int))=decide (sq.length=c.arts.length):=by
     rw [hrl,hal];exact decide_eq_decide.2 (by omega)
    refine Eq.mpr (congrArg (fun b=>E.K (.tup [.imm (yh sq),sB b]) _) e3) (hK _)
  ·rintro done x rest sq hdm hdl rfl ih
   have hxi:M[done.length]?=some x:=by rw [hdm];simp
   have hx:x=yig c done.length:=by
    rw [e1,List.getElem?_map,List.getElem?_range (by omega)] at hxi;exact (Option.some.inj hxi).symm
   have hMx:(M.map sI)[0+done.length*1]?=some (sI x):=by rw [Nat.zero_add,Nat.mul_one,List.getElem?_map,hxi];rfl
   have hw:=zk (n:=done.length) (by omega);have ih:=ih (zbg c (done.length+1)) (by rw [List.length_append,List.length_singleton]);rw [zyr, <-hx] at ih;have hsl:(zbg c done.length).length<=done.length:=by
    unfold zbg;have:=List.length_filter_le (fun (i:Nat)=>decide (yig c i=0)) (List.range done.length);simp only [List.length_map,List.length_range] at this ⊢;exact this
   generalize zbg c done.length=sq at ih hsl;have hLM:(SQ (zbx c) M A).length=3+M.length:=by rw [hL,hMl]
   (refine zm [777,66] 1000 ?_;conv=>whnf)
   repeat' ((with_reducible refine way ?_ ?_)<;>(intro h;conv=>whnf))
   all_goals try (exfalso;omega)
   refine zah (i:=done.length) rfl rfl rfl rfl rfl rfl rfl rfl (by omega) ?_;refine wh (b:=1) (cs:=M.map sI) (v:=sI x) rfl rfl rfl rfl rfl hMx ?_;(refine zj [777,73] 1000 ?_;conv=>whnf)
   repeat' ((with_reducible refine way ?_ ?_)<;>(intro h;conv=>whnf))
   ·rw [if_pos ‹x=0›] at ih
    have htok:(SQ (zbx c) M A++[SObj.tok 1 (xb sq).length])[3+M.length]?=some (.tok 1 (xb sq).length):=by
     rw [<-hLM];exact zid _ _
    refine zr (b:=3+M.length) (kk:=1) (rows:=xb sq) (new:=[[dI done.length]]) rfl ⟨by decide,rfl⟩ htok (by rw [zkx];simp only [List.length_cons,List.length_nil];omega) ?_;rw [zyt, <-hLM,zob,hLM];have hr2:(xb sq).length+[[dI done.length]].length=(xb (sq++[(done.length:Int)])).length:=by simp [xb]
    rw [hr2];(refine zc ?_;conv=>whnf);rw [hw];exact zg [1,4,5,10,61,62,63] ih
   ·rw [if_neg ‹¬x=0›] at ih
    rw [hw];exact zg [1,4,5,10,61,62,63] ih
 ·rintro done a rest ⟨M,A⟩ hda hdl hinv ih
  simp only at hinv ih;have hai:c.arts[done.length]?=some a:=by rw [hda];simp
  have ham:=List.mem_of_getElem? hai;have hrx:(c.arts.map Article.cells)[done.length]?=some a.cells:=by rw [List.getElem?_map,hai];rfl
  have hw:=zk (n:=done.length) (by omega);have hL:(SQ (zbx c) M A).length=3+c.arts.length:=by rw [ziw,hinv.al]
  obtain ⟨aop,an,au,ad,ap,ak,hma⟩:∃op n u den ps ks,a.amount= .mk op n u den ps ks:=by cases h:a.amount;exact ⟨_,_,_,_,_,_,rfl⟩
  rw [zhh hma] at hrx;have hsv:=zoc hma;change SW E _ [(1,.ptr 0 0),(4,.osl 1 0 c.arts.length),(5,.osl 2 0 c.arts.length),(25,.imm (wm c.arts)),(26,sI (c.arts.length:Nat)),(27,sI (done.length:Nat))] (SQ (zbx c) M A);(refine ze ?_;conv=>whnf)
  repeat' ((with_reducible refine way ?_ ?_)<;>(intro h;conv=>whnf))
  all_goals try (exfalso;omega)
  refine zi (i:=done.length) (row:=ypm a aop an au ad ap ak) rfl rfl hrx ?_;(refine zj [777,999] 1000 ?_;conv=>whnf);refine zmw (b:=(SQ (zbx c) M A).length) (new:=jg a aop an au ad ap ak) rfl rfl rfl rfl rfl rfl rfl rfl (zid _ _) rfl ?_;rw [zob,hL];(refine zc ?_;conv=>whnf);refine zg [1,4,5,6,7,25,26,27,33,34,35] ?_;change SW E _ [(1,.ptr 0 0),(4,.osl 1 0 c.arts.length),(5,.osl 2 0 c.arts.length),(6,sI (done.length:Nat)),(7,.ptr (3+c.arts.length) 0),(25,.imm (wm c.arts)),(26,sI (c.arts.length:Nat)),(27,sI (done.length:Nat)),(33,.imm (wm c.arts)),(34,sI ((c.arts.map Article.cells).length:Nat)),(35,sI (0:Nat))] (SQ (zbx c) M A++[SObj.cells (jg a aop an au ad ap ak)]);rw [hal];have hbu:∀N,SObj.under N (.cells (jg a aop an au ad ap ak))=true:=fun N=>by rw [<-zem hma];exact zic a N
  refine zp c.arts (fun j (_:List Int × List (List Int))=>[(1,.ptr 0 0),(4,.osl 1 0 c.arts.length),(5,.osl 2 0 c.arts.length),(6,sI (done.length:Nat)),(7,.ptr (3+c.arts.length) 0),(25,.imm (wm c.arts)),(26,sI (c.arts.length:Nat)),(27,sI (done.length:Nat)),(33,.imm (wm c.arts)),(34,sI (c.arts.length:Nat)),(35,sI (j:Nat))])
   (fun _ s=>SQ (zbx c) s.1 s.2++[SObj.cells (jg a aop an au ad ap ak)]) (fun dj _ s=>MInv c done.length dj.length s.1 s.2) (M,A) hinv ?_ ?_
  ·clear hinv hL M A
   rintro ⟨M,A⟩ hinv;simp only at hinv;have hL:(SQ (zbx c) M A).length=3+c.arts.length:=by rw [ziw,hinv.al]
   have ih:=ih (M,A) (by rw [List.length_append];exact ymj hinv);change SW E _ [(1,.ptr 0 0),(4,.osl 1 0 c.arts.length),(5,.osl 2 0 c.arts.length),(6,sI (done.length:Nat)),(7,.ptr (3+c.arts.length) 0),(25,.imm (wm c.arts)),(26,sI (c.arts.length:Nat)),(27,sI (done.length:Nat)),(33,.imm (wm c.arts)),(34,sI (c.arts.length:Nat)),(35,sI (c.arts.length:Nat))] (SQ (zbx c) M A++[SObj.cells (jg a aop an au ad ap ak)]);(refine ze ?_;conv=>whnf)
   repeat' ((with_reducible refine way ?_ ?_)<;>(intro h;conv=>whnf))
   all_goals try (exfalso;omega)
   rw [hw];refine zg [1,4,5,25,26,27] ?_;change SW E _ [(1,.ptr 0 0),(4,.osl 1 0 c.arts.length),(5,.osl 2 0 c.arts.length),(25,.imm (wm c.arts)),(26,sI (c.arts.length:Nat)),(27,sI ((done.length+1:Nat):Int))] (SQ (zbx c) M A++[SObj.cells (jg a aop an au ad ap ak)]);refine zsu (3+c.arts.length) (by rw [hH];exact Nat.zero_le _) (by rw [List.length_append,hL];omega) ?_ ?_ ?_
   ·simp [SV.under]
    omega
   ·rw [<-hL,List.take_left,hL]
    exact yfr (zma c _) (by rw [hinv.al];omega)
   ·rw [<-hL,List.take_left]
    exact ih
  ·clear hinv hL M A ih
   rintro dj b rj ⟨M,A⟩ hdb hdl2 hinv ih;simp only at hinv ih;have hL:(SQ (zbx c) M A).length=3+c.arts.length:=by rw [ziw,hinv.al]
   have hL1:(SQ (zbx c) M A++[SObj.cells (jg a aop an au ad ap ak)]).length=3+c.arts.length+1:=by rw [List.length_append,hL];rfl
   have hbj:c.arts[dj.length]?=some b:=by rw [hdb];simp
   have hbm:=List.mem_of_getElem? hbj;have hrb:(c.arts.map Article.cells)[dj.length]?=some b.cells:=by rw [List.getElem?_map,hbj];rfl
   have hwj:=zk (n:=dj.length) (by omega);obtain ⟨bop,bn,bu,bd,bp,bk,hmb⟩:∃op n u den ps ks,b.amount= .mk op n u den ps ks:=by cases h:b.amount;exact ⟨_,_,_,_,_,_,rfl⟩
   rw [zhh hmb] at hrb;have hcall:=ycu G a b (hA a ham) (hA b hbm);rw [hsv,zoc hmb] at hcall;have hnd:=yrj hai hbj;generalize zti a b=z at hcall hnd;have hend:∀(M':List Int) (A':List (List Int)),MInv c done.length (dj.length+1) M' A'->SW E _ [(1,.ptr 0 0),(4,.osl 1 0 c.arts.length),(5,.osl 2 0 c.arts.length),(6,sI (done.length:Nat)),(7,.ptr (3+c.arts.length) 0),(25,.imm (wm c.arts)),(26,sI (c.arts.length:Nat)),(27,sI (done.length:Nat)),(33,.imm (wm c.arts)),(34,sI (c.arts.length:Nat)),(35,sI ((dj.length+1:Nat):Int))]
     (SQ (zbx c) M' A'++[SObj.cells (jg a aop an au ad ap ak)]++[SObj.cells (jg b bop bn bu bd bp bk)]):=fun M' A' hinv'=>by
    have hL':(SQ (zbx c) M' A').length=3+c.arts.length:=by rw [ziw,hinv'.al]
    have hL1':(SQ (zbx c) M' A'++[SObj.cells (jg a aop an au ad ap ak)]).length=3+c.arts.length+1:=by rw [List.length_append,hL'];rfl
    refine zsu (3+c.arts.length+1) (by rw [hH];exact Nat.zero_le _) (by rw [List.length_append,hL1'];omega) ?_ ?_ ?_
    ·simp [SV.under]
     omega
    ·rw [<-hL1',List.take_left,hL1',List.all_append,yfr (zma c _) (by rw [hinv'.al];omega)]
     simp only [List.all_cons,List.all_nil,hbu];rfl
    ·rw [<-hL1',List.take_left]
     exact ih (M',A') (by rw [List.length_append];exact hinv')
   change SW E _ [(1,.ptr 0 0),(4,.osl 1 0 c.arts.length),(5,.osl 2 0 c.arts.length),(6,sI (done.length:Nat)),(7,.ptr (3+c.arts.length) 0),(25,.imm (wm c.arts)),(26,sI (c.arts.length:Nat)),(27,sI (done.length:Nat)),(33,.imm (wm c.arts)),(34,sI (c.arts.length:Nat)),(35,sI (dj.length:Nat))] (SQ (zbx c) M A++[SObj.cells (jg a aop an au ad ap ak)]);(refine ze ?_;conv=>whnf)
   repeat' ((with_reducible refine way ?_ ?_)<;>(intro h;conv=>whnf))
   all_goals try (exfalso;omega)
   refine zi (i:=dj.length) (row:=ypm b bop bn bu bd bp bk) rfl rfl hrb ?_;(refine zj [777,999] 1000 ?_;conv=>whnf);refine zmw (b:=(SQ (zbx c) M A++[SObj.cells (jg a aop an au ad ap ak)]).length) (new:=jg b bop bn bu bd bp bk) rfl rfl rfl rfl rfl rfl rfl rfl (zid _ _) rfl ?_;rw [zob,hL1];have g7:(SQ (zbx c) M A++[SObj.cells (jg a aop an au ad ap ak)]++[SObj.cells (jg b bop bn bu bd bp bk)])[3+c.arts.length]?=some (.cells (jg a aop an au ad ap ak)):=by
    rw [List.getElem?_append_left (by rw [hL1];omega), <-hL];exact zid _ _
   have g9:(SQ (zbx c) M A++[SObj.cells (jg a aop an au ad ap ak)]++[SObj.cells (jg b bop bn bu bd bp bk)])[3+c.arts.length+1]?=some (.cells (jg b bop bn bu bd bp bk)):=by
    rw [<-hL1];exact zid _ _
   (refine zj [777,40] 1000 ?_;conv=>whnf);refine wh (v:=.agg (jg a aop an au ad ap ak)) rfl rfl rfl rfl g7 rfl ?_;refine wh (v:=.agg (jg b bop bn bu bd bp bk)) rfl rfl rfl rfl g9 rfl ?_;(refine zc ?_;conv=>whnf);refine zd rfl  hcall ?_;cases z with
   |false=>
    (refine zc ?_;conv=>whnf);rw [hwj];exact zg [1,4,5,6,7,25,26,27,33,34,35] (hend M A (yvc hinv hnd))
   |true=>
    have hi:done.length<c.arts.length:=by omega
    have hj:dj.length<c.arts.length:=by omega
    have hm:=hinv.m done.length hi;rw [if_neg (by omega),if_pos rfl] at hm;have ha:=hinv.a dj.length hj;rw [if_neg (by omega),List.append_nil] at ha;have hcr:=zly c done.length dj.length;have hinv2:=yrf hinv hnd hi hj;have hal2:=yrd c done.length dj.length;generalize ypl c done.length dj.length=m at hm hcr hinv2;generalize ytb c done.length dj.length=l at ha hal2 hinv2;have hMl:(M.map sI)[0+done.length*1]?=some (sI m):=by
     rw [Nat.zero_add,Nat.mul_one,List.getElem?_map,hm];rfl
    have hAl:(zih 3 A)[0+dj.length*1]?=some (.asl (3+dj.length) 1 (xb l)):=by
     rw [Nat.zero_add,Nat.mul_one,zwa,ha];rfl
    have hwm:IntKind.i64.wrap (m+1)=m+1:=zt (by omega) (by omega);(refine zj [777,45] 1000 ?_;conv=>whnf);refine zah (i:=done.length) rfl rfl rfl rfl rfl rfl rfl rfl hi ?_;refine wh (b:=1) (cs:=M.map sI) (v:=sI m) rfl rfl rfl rfl rfl hMl ?_;(refine zj [777,48] 1000 ?_;conv=>whnf);rw [hwm];refine zah (i:=done.length) rfl rfl rfl rfl rfl rfl rfl rfl hi ?_;refine zhz (b:=1) (cs:=M.map sI) (off:=0+done.length*1) (v:=sI (m+1)) rfl rfl rfl rfl rfl rfl rfl rfl rfl (by rw [List.length_map,hinv.ml];omega) ?_;rw [show (M.map sI).set (0+done.length*1) (sI (m+1))=(M.set done.length (m+1)).map sI by rw [Nat.zero_add,Nat.mul_one,List.map_set]];(refine zj [777,53] 1000 ?_;conv=>whnf);refine zah (i:=dj.length) rfl rfl rfl rfl rfl rfl rfl rfl hj ?_;refine wh (b:=2) (cs:=zih 3 A) (v:=.asl (3+dj.length) 1 (xb l)) rfl rfl rfl rfl rfl hAl ?_;(refine zj [777,57] 1000 ?_;conv=>whnf);have htok:((SQ (zbx c) M A++[SObj.cells (jg a aop an au ad ap ak)]++[SObj.cells (jg b bop bn bu bd bp bk)]).set 1 (.cells ((M.set done.length (m+1)).map sI)))[3+dj.length]?=some (.tok 1 (xb l).length):=by
     rw [List.getElem?_set_ne (by omega),List.append_assoc];exact yxk ha _
    refine zr (b:=3+dj.length) (kk:=1) (rows:=xb l) (new:=[[dI done.length]]) rfl ⟨by decide,rfl⟩ htok (by rw [xb,List.length_map];simp only [List.length_cons,List.length_nil];omega) ?_;(refine zj [777,58] 1000 ?_;conv=>whnf);refine zah (i:=dj.length) rfl rfl rfl rfl rfl rfl rfl rfl hj ?_;have h2:(((SQ (zbx c) M A++[SObj.cells (jg a aop an au ad ap ak)]++[SObj.cells (jg b bop bn bu bd bp bk)]).set 1 (.cells ((M.set done.length (m+1)).map sI))).set (3+dj.length) (.tok 1 ((xb l).length+1)))[2]?=some (.cells (zih 3 A)):=by
     rw [List.getElem?_set_ne (by omega)];rfl
    refine zhz (b:=2) (cs:=zih 3 A) (off:=0+dj.length*1) (v:=.asl (3+dj.length) 1 (xb l++[[dI done.length]])) rfl rfl rfl rfl rfl rfl rfl rfl h2 (by rw [zvz,hinv.al];omega) ?_;have hr1:xb l++[[dI done.length]]=xb (l++[(done.length:Int)]):=by simp [xb]
    have hr2:(xb l).length+1=(xb (l++[(done.length:Int)])).length:=by simp [xb]
    have hheap:=yve (o0:=zbx c) (M:=M) (M':=M.set done.length (m+1)) (A:=A) (j:=dj.length) (l':=l++[(done.length:Int)]) (by rw [hinv.al];exact hj) ([SObj.cells (jg a aop an au ad ap ak)]++[SObj.cells (jg b bop bn bu bd bp bk)]);rw [hr1];refine (fun (hs:∀H2,H2=SQ (zbx c) (M.set done.length (m+1)) (A.set dj.length (l++[(done.length:Int)]))++([SObj.cells (jg a aop an au ad ap ak)]++[SObj.cells (jg b bop bn bu bd bp bk)])->SWr E _ _ _ _ H2)=>hs _ ?_) ?_
    ·rw [<-hheap, <-hr2,Nat.zero_add,Nat.mul_one,List.append_assoc]
     rfl
    ·rintro _ rfl
     rw [<-List.append_assoc];(refine zc ?_;conv=>whnf);rw [hwj];exact zg [1,4,5,6,7,25,26,27,33,34,35] (hend _ _ hinv2)
open Go Go.Sh Go.RowKit
theorem zto (b:Nat) (l:List Int) (H:List SObj) (hb:H[b]?=some (.vec 1 (l.map sI))) (hsz:l.length<=1073741824):
  SCall Tryz.prog G 105 [.vec b l.length] H (fun r H'=>r= .tup []/\H'=H.set b (.vec 1 ((zbz l).map sI))):=by
 intro w I β vs hH hv;obtain ⟨v,hvs,hr⟩:=hv.one;have hvv:vs=#[v]:=by apply Array.ext';simpa using hvs
 subst hvv;obtain ⟨hbu,hcase⟩:=zlv hH hb hr (by simp) (Nat.le_refl _);rcases hcase with ⟨h0,rfl,_⟩|⟨c,cap,cur,T,rfl,a1,a2,a2',hmax,a3,a4⟩
 ·have hl:l=[]:=List.length_eq_zero_iff.1 h0
  subst hl;refine (Go.Proofs.Tryz.slices_Sort_int_none none 0 w).mono ?_;rintro e w' ⟨rfl,rfl⟩;refine ⟨_,.tup [],I,β,_,rfl,⟨rfl,rfl⟩,.tup #[] [] rfl (fun j h=>by simp at h),?_⟩;have e:H.set b (.vec 1 ((zbz ([]:List Int)).map sI))=H:=by
   have:(zbz ([]:List Int)).map sI=([]:List Int).map sI:=by simp
   rw [this];obtain ⟨hlt,he⟩:=List.getElem?_eq_some_iff.1 hb;rw [<-he];exact List.set_getElem_self hlt
  rw [e];exact ⟨hH,.refl⟩
 have hsl:(zbz l).length=l.length:=by simp
 have htake:cur.toList.take l.length=l.map (Value.int .i64):=by
  apply List.ext_getElem
  ·simp [a2];omega
  ·intro j h1 h2
   have hj:j<l.length:=by simpa using h2
   have hjc:j<cur.size:=by rw [a2];omega
   have:=a3 j (by simpa using hj) hjc;simp only [List.getElem_map] at this;simp only [List.getElem_take,Array.getElem_toList,List.getElem_map];generalize cur[j]=q at this;cases this with|imm h=>cases h;rfl
 refine (Go.Proofs.Tryz.slices_Sort_int c 0 cap l w (holds_of_blockI a1 htake) (xw a1) (by omega)).mono ?_;rintro e w' ⟨rfl,n,os,rfl⟩;have hblk:=heap_sortedI (w:=w) (n:=n) (os:=os) (zbz l).toArray a1;have hgrow:=grownBy_sortedI (w:=w) (g:=c) (n:=n) (os:=os) (zbz l).toArray;generalize Go.Sort.grow (Go.Sort.putRow (Value.int .i64) (Go.Sort.ahead w n) c 0 (zbz l).toArray) os=w' at hblk hgrow;have hold:∀c',c'<w.heap.size->c'≠c->w'.heap[c']?=w.heap[c']?:=fun c' h1 h2=>hgrow.block c' h1 (fun e=>h2 (by cases e;rfl))
 have hcellI:∀c' o,I c' o->w'.cell? ⟨c',o,none⟩=w.cell? ⟨c',o,none⟩:=fun c' o hi=>ye (hold c' (hH.inI c' o hi) (fun e=>a4 o (e ▸ hi))) o
 have hown:wv H β b c:=⟨_,_,hb,by simp,hbu,rfl⟩;have hbl:=lt_of_getElem? hb;have key:∀b' c',wv (H.set b (.vec 1 ((zbz l).map sI))) β b' c'->wv H β b' c':=by
  rintro b' c' ⟨p,x,g1,g2,g3,g4⟩
  by_cases e:b'=b
  ·subst e;rw [hbu] at g3;cases g3;cases g4;exact hown
  ·rw [List.getElem?_set_ne (Ne.symm e)] at g1;exact ⟨p,x,g1,g2,g3,g4⟩
 have hnew:ObjOK w' I β (.vec 1 ((zbz l).map sI)) (.tok (.slice (some ⟨c,0,none⟩) l.length cap)):=by
  refine .inr ⟨c,l.length,cap,_,T,rfl,hblk,by simp [Go.Sort.putCells,a2],a2',hmax,by simp,fun j hj hj'=>?_,a4⟩;have hjc:j<cur.size:=by simpa [Go.Sort.putCells] using hj'
  have hjl:j<l.length:=by simpa using hj
  simp only [Go.Sort.putCells,Array.getElem_mapIdx];rw [if_pos ⟨Nat.zero_le _,by simp;omega⟩];simp only [List.getElem_map,Nat.sub_zero];have:(zbz l).toArray[j]! =(zbz l)[j]'(by omega):=by simp [hjl]
  rw [this];exact .imm (.val _)
 refine ⟨_,.tup [],I,β,_,rfl,⟨rfl,rfl⟩,.tup #[] [] rfl (fun j h=>by simp at h),⟨by simp [hH.len],fun b' p x g1 g2=>?_,fun x y c' g1 g2=>hH.inj x y c' (key x c' g1) (key y c' g2),fun c' o hi=>Nat.lt_of_lt_of_le (hH.inI c' o hi) hgrow.size,fun g d hg=>(hH.glob g d hg).mono (fun _ _ h=>h) hcellI⟩,
  ⟨fun _ _ h=>h,hcellI,.refl _ _,fun c' hc' hn=>hold c' hc' (fun e=>hn b (e ▸ hown)),fun b' c' g=>.inl ⟨b',key b' c' g⟩,fun _ _ h=>.inl h,hgrow.size,⟨hgrow.os,hgrow.output⟩⟩⟩
 by_cases e:b'=b
 ·subst e
  rw [hbu] at g2;cases g2;rw [List.getElem?_set_self hbl] at g1;cases g1;exact hnew
 ·rw [List.getElem?_set_ne (Ne.symm e)] at g1
  by_cases hpd:p= .dead
  ·subst hpd;trivial
  ·refine (hH.obj b' p x g1 g2).mono (fun c' hc'=>hold c' ((hH.obj b' p x g1 g2).block_lt hpd hc') ?_) (fun _ _ h=>h) hcellI (.refl _ _) (fun _ _ _ h=>h)
   rintro rfl;exact e (hH.inj b' b _ ⟨p,x,g1,hpd,g2,hc'⟩ hown)
theorem ymp {a b:List Int} (h:a.Perm b):zbz a=zbz b:=by
 have ha:=List.mergeSort_perm a fun x y=>decide (x<=y)
 have hb:=List.mergeSort_perm b fun x y=>decide (x<=y)
 have sa:(zbz a).Pairwise fun x y=>x<=y:=by
  have:=List.pairwise_mergeSort (le:=fun (x y:Int)=>decide (x<=y)) (fun a b c h1 h2=>by simp at*;omega) (fun a b=>by simp;omega) a;simpa using this
 have sb:(zbz b).Pairwise fun x y=>x<=y:=by
  have:=List.pairwise_mergeSort (le:=fun (x y:Int)=>decide (x<=y)) (fun a b c h1 h2=>by simp at*;omega) (fun a b=>by simp;omega) b;simpa using this
 exact List.Perm.eq_of_pairwise (fun x y _ _ h1 h2=>by omega) sa sb ((ha.trans h).trans hb.symm)
theorem zqh (l:List Int):(Go.Lib.compact l).length<=l.length:=by
 unfold Go.Lib.compact Go.Lib.compactUpTo;rw [List.length_map];exact Nat.le_trans (List.length_filter_le _ _) (by simp)
theorem ymq {G:List (Nat × D)} {w w':World} {I:Imm} {β:List Bnd} {H:List SObj} {b c:Nat} {o0:SObj} {x0:Bnd} (hH:HeapOK G w I β H) (hb:H[b]?=some o0) (hd:o0≠ .dead) (hx:β[b]?=some x0) (hxc:x0.block=some c)
  (hold:∀c',c'<w.heap.size->c'≠c->w'.heap[c']?=w.heap[c']?) (hsz:w.heap.size<=w'.heap.size) (hnI:∀o,¬I c o) (hen:zeh w w'):
  HeapOK G w' (fun c' o=>I c' o\/c'=c) β (H.set b .dead)/\Ext H.length w I β H w' (fun c' o=>I c' o\/c'=c) β (H.set b .dead):=by
 have hbl:=lt_of_getElem? hb;have hown:wv H β b c:=⟨_,_,hb,hd,hx,hxc⟩;have hcellI:∀c' o,I c' o->w'.cell? ⟨c',o,none⟩=w.cell? ⟨c',o,none⟩:=fun c' o hi=>ye (hold c' (hH.inI c' o hi) (fun e=>hnI o (e ▸ hi))) o
 have hsub:∀b' c',wv (H.set b .dead) β b' c'->b'≠b/\wv H β b' c':=by
  rintro b' c' ⟨o,x,h1,h2,h3,h4⟩;have hne:b'≠b:=by
   rintro rfl;rw [List.getElem?_set_self hbl] at h1;cases h1;exact h2 rfl
  rw [List.getElem?_set_ne (Ne.symm hne)] at h1;exact ⟨hne,o,x,h1,h2,h3,h4⟩
 refine ⟨⟨by simp [hH.len],fun b' o x h1 h2=>?_,fun b1 b2 c' h1 h2=>hH.inj b1 b2 c' (hsub b1 c' h1).2 (hsub b2 c' h2).2,fun c' o hi=>?_,fun g d hg=>(hH.glob g d hg).mono (fun _ _ h=>.inl h) hcellI⟩,
  {imm:=fun _ _ h=>.inl h,cell:=hcellI,keep:=.refl _ _,old:=fun c' hc' hn=>hold c' hc' (fun e=>hn b (e ▸ hown)),own:=fun b' c' g=>.inl ⟨b',(hsub b' c' g).2⟩,new:=fun c' o hi=>?_,size:=hsz,env:=hen}⟩
 ·by_cases hne:b'=b
  ·subst hne
   rw [List.getElem?_set_self hbl] at h1;cases h1;trivial
  ·rw [List.getElem?_set_ne (Ne.symm hne)] at h1
   by_cases hdead:o= .dead
   ·subst hdead;trivial
   ·have hcc:∀c',x.block=some c'->c'≠c:=fun c' hc e=>by
     subst e;exact hne (hH.inj b' b _ ⟨o,x,h1,hdead,h2,hc⟩ hown)
    refine (hH.obj b' o x h1 h2).mono (fun c' hc=>hold c' ((hH.obj b' o x h1 h2).block_lt hdead hc) (hcc c' hc)) (fun _ _ h=>.inl h) hcellI (.refl _ _) (fun c' q hc hi=>?_);rcases hi with h3|h3
    ·exact h3
    ·exact absurd h3 (hcc c' hc)
 ·rcases hi with h3|rfl
  ·exact Nat.lt_of_lt_of_le (hH.inI c' o h3) hsz
  ·exact Nat.lt_of_lt_of_le (hH.owns_lt hown) hsz
 ·rcases hi with h3|rfl
  ·exact .inl h3
  ·exact .inr (.inl ⟨b,hown⟩)
theorem zqi (b:Nat) (l:List Int) (H:List SObj) (hb:H[b]?=some (.vec 1 (l.map sI))) (hsz:l.length<=1073741824):
  SCall Tryz.prog G 110 [.vec b l.length] H (fun r H'=>r= .imm (yh (Go.Lib.compact l))/\H'=H.set b .dead):=by
 intro w I β vs hH hv;obtain ⟨v,hvs,hr⟩:=hv.one;have hvv:vs=#[v]:=by apply Array.ext';simpa using hvs
 subst hvv;obtain ⟨hbu,hcase⟩:=zlv hH hb hr (by simp) (Nat.le_refl _);have hcl:=zqh l;rcases hcase with ⟨h0,rfl,_⟩|⟨c,cap,cur,T,rfl,a1,a2,a2',hmax,a3,a4⟩
 ·have hl:l=[]:=List.length_eq_zero_iff.1 h0
  subst hl;refine (Go.Proofs.Tryz.slices_Compact_int_empty none 0 w).mono ?_;rintro e w' ⟨rfl,rfl⟩;refine ⟨_,.imm (yh (Go.Lib.compact [])),I,β,_,rfl,⟨rfl,rfl⟩,.imm (.islNil 1),?_⟩;have hbl:=lt_of_getElem? hb;have hsub:∀b' c',wv (H.set b .dead) β b' c'->wv H β b' c':=by
   rintro b' c' ⟨o,x,h1,h2,h3,h4⟩;have hne:b'≠b:=by
    rintro rfl;rw [List.getElem?_set_self hbl] at h1;cases h1;exact h2 rfl
   rw [List.getElem?_set_ne (Ne.symm hne)] at h1;exact ⟨o,x,h1,h2,h3,h4⟩
  refine ⟨⟨by simp [hH.len],fun b' o x h1 h2=>?_,fun b1 b2 c' h1 h2=>hH.inj b1 b2 c' (hsub b1 c' h1) (hsub b2 c' h2),hH.inI,hH.glob⟩,
   {(Ext.refl:Ext H.length w' I β H w' I β H) with own:=fun b' c' g=>.inl ⟨b',hsub b' c' g⟩}⟩
  by_cases hne:b'=b
  ·subst hne
   rw [List.getElem?_set_self hbl] at h1;cases h1;trivial
  ·rw [List.getElem?_set_ne (Ne.symm hne)] at h1
   exact hH.obj b' o x h1 h2
 have htake:cur.toList.take l.length=l.map (Value.int .i64):=by
  apply List.ext_getElem
  ·simp [a2];omega
  ·intro j h1 h2
   have hj:j<l.length:=by simpa using h2
   have hjc:j<cur.size:=by rw [a2];omega
   have:=a3 j (by simpa using hj) hjc;simp only [List.getElem_map] at this;simp only [List.getElem_take,Array.getElem_toList,List.getElem_map];generalize cur[j]=q at this;cases this with|imm h=>cases h;rfl
 refine (Go.Proofs.Tryz.slices_Compact_int c 0 cap l w (holds_of_blockI a1 htake) (by omega) a2').mono ?_;rintro e w' ⟨rfl,q,rfl⟩;have hblk:=heap_sortedI (w:=w) (n:=q) (os:=#[]) (Go.Lib.compact l++List.replicate (l.length-(Go.Lib.compact l).length) 0).toArray a1;have hgrow:=grownBy_sortedI (w:=w) (g:=c) (n:=q) (os:=#[]) (Go.Lib.compact l++List.replicate (l.length-(Go.Lib.compact l).length) 0).toArray;rw [Go.Sort.grow_empty] at hblk hgrow;generalize Go.Sort.putRow (Value.int .i64) (Go.Sort.ahead w q) c 0 (Go.Lib.compact l++List.replicate (l.length-(Go.Lib.compact l).length) 0).toArray=w' at hblk hgrow;have hold:∀c',c'<w.heap.size->c'≠c->w'.heap[c']?=w.heap[c']?:=fun c' h1 h2=>hgrow.block c' h1 (fun e=>h2 (by cases e;rfl))
 obtain ⟨k1,k2⟩:=ymq hH hb (by simp) hbu rfl hold hgrow.size a4 ⟨hgrow.os,hgrow.output⟩;refine ⟨_,.imm (yh (Go.Lib.compact l)),_,β,_,rfl,⟨rfl,rfl⟩,.imm ?_,k1,k2⟩;have hr:DRep w' (fun c' o=>I c' o\/c'=c) (.slice (some ⟨c,0,none⟩) ((Go.Lib.compact l).map fun n=>[dI n]).length cap) (.isl 1 ((Go.Lib.compact l).map fun n=>[dI n])):=by
  refine .isl c 0 cap 1 _ (fun i _=>.int .i64 ((Go.Lib.compact l).getD i 0)) (by simp;omega) hmax (fun i h=>by simp) (fun i j hi hj=>?_) (fun i j hi hj=>?_)
  ·have hi':i<(Go.Lib.compact l).length:=by simpa using hi
   have hj0:j=0:=by omega
   subst hj0;refine ⟨.inr rfl,?_,rfl⟩;rw [cell_of_heap hblk];have hic:i<cur.size:=by rw [a2];omega
   simp only [Nat.zero_add,Nat.mul_one,Nat.add_zero,Go.Sort.putCells];rw [Array.getElem?_mapIdx,Array.getElem?_eq_getElem hic];simp only [Option.map_some];rw [if_pos ⟨Nat.zero_le _,by simp;omega⟩];simp [hi',List.getElem_append_left,List.getElem?_append_left hi']
  ·have hi':i<(Go.Lib.compact l).length:=by simpa using hi
   have hj0:j=0:=by simp at hj;omega
   subst hj0;simp [hi'];exact .val _
 rw [List.length_map] at hr;exact hr
end Go.Proofs.YtjnddlifnkgncaaGreatDoor
namespace Go.Sh
section
variable {P:Program} {G:List (Nat × D)} {fn:Func} {E:En P G fn false} {t:List (Nat × SV)} {H:List SObj} {k:List Item} {all:Array Oper} {rest:List Oper} {o:Oper}
theorem SCallP.mono {f:FuncId} {args:List SV} {K K':SV->List SObj->Prop} {KP KP':List PanicEntry->List SObj->Prop} (h:SCallP P G f args H K KP) (hK:∀r H',K r H'->K' r H') (hP:∀ch H',KP ch H'->KP' ch H'):SCallP P G f args H K' KP':=
 fun w I β vs h1 h2=>(h w I β vs h1 h2).mono fun e w' h3=>by
  rcases h3 with ⟨v,r,I',β',H',h4,h5,h6⟩|⟨ch,I',β',H',h4,h5,h6⟩
  ·exact .inl ⟨v,r,I',β',H',h4,hK _ _ h5,h6⟩
  ·exact .inr ⟨ch,I',β',H',h4,hP _ _ h5,h6⟩
theorem SCall.toP {f:FuncId} {args:List SV} {K:SV->List SObj->Prop} {KP:List PanicEntry->List SObj->Prop} (h:SCall P G f args H K):SCallP P G f args H K KP:=
 fun w I β vs h1 h2=>(h w I β vs h1 h2).mono fun _ _ h3=>.inl h3
theorem zyu {fx:Operand} {args:Array Operand} {tys:Array TypeId} {f:FuncId} {first captured:List SV}
  (hop:o.op= .call ⟨.value fx,args,tys⟩) (hw:zu all t o.guard=some true) (hd:yb fn.ntmps o.dst=true) (hf:zl G t fx= .fn (.func f) first captured) (hb:wk P f=true)
  {argv:List SV} (hargs:first++args.toList.map (zl G t)++captured=argv)
  (hc:SCallP P G f argv H (fun r H'=>H.length<=H'.length/\SWr E all rest k (xj t o.dst r) H') (fun ch H'=>H.length<=H'.length/\E.KP ch H')):SWr E all (o::rest) k t H:=by
 refine ⟨fun j hj hdrop=>?_⟩;obtain ⟨h1,ho,h3⟩:=xy hdrop;rw [zao h1];subst hargs;refine ⟨fun a w I β cs hs=>?_⟩;have hwant:=qv hw hs;have hfr:=hs.eval fx;rw [hf] at hfr;generalize hfv:a.eval fx=fv at hfr;cases hfr with
 |fn _ fs cps _ _ l1 l2 r1 r2=>
 have hrun:(execOp a.eval o).run P w= .ok (.enter f (fs++args.map a.eval++cps)) w:=by
  obtain ⟨dst,op,type,pos,after,guard⟩:=o;simp only at hop;subst hop;simp only [execOp,resolve,hfv,Deferred.ofValue,Sem.run_bind,Sem.run_pure,Result.andThen_ok,invoke];exact jh hb
 have hreps:Reps w I β (fs++args.map a.eval++cps).toList (first++args.toList.map (zl G t)++captured):=by
  have e1:Reps w I β fs.toList first:=.of_get l1 r1
  have e2:Reps w I β (args.map a.eval).toList (args.toList.map (zl G t)):=by simpa using zdy hs.eval args.toList
  have e3:Reps w I β cps.toList captured:=.of_get l2 r2;simpa using (e1.append e2).append e3
 obtain ⟨e,w',fr,hpost,hcomes,hfn,hleave⟩:=hc w I β _ hs.heap hreps (E.at a (.inRegion all (j::(List.range all.size).drop (j+1))::k)::cs);have hg:=jt (P:=P) (b:=E.base) (ro:=E.ro) (k:=k) (cs:=cs) (w:=w) (rest:=(List.range all.size).drop (j+1)) ho hwant (.inr fun c e=>by rw [hop] at e;cases e);have henter:step P (lone (E.at a (.inRegion all (j::(List.range all.size).drop (j+1))::k)) cs w)=
   .next (lone (Frame.enter P f (fs++args.map a.eval++cps) .normal) (E.at a (.inRegion all (j::(List.range all.size).drop (j+1))::k)::cs) w):=
  step_lone_go (by unfold En.at;rw [hg];simp [stepG.apply,hrun,atR,Frame.at])
 rcases hpost with ⟨v,r,I',β',H',rfl,⟨hl,hsw⟩,hv,hH',hext⟩|⟨ch,I',β',H',rfl,⟨hl,hKP⟩,hH',hext⟩
 ·have qr:(E.at a (.inRegion all (j::(List.range all.size).drop (j+1))::k)).finish v=E.at (a.put o.dst v) (.inRegion all ((List.range all.size).drop (j+1))::k):=by
   unfold En.at;rw [qm,ho];rfl
  have hsteps:Steps P (lone (E.at a (.inRegion all (j::(List.range all.size).drop (j+1))::k)) cs w) (lone (E.at (a.put o.dst v) (.inRegion all ((List.range all.size).drop (j+1))::k)) cs w'):=by
   refine .head henter (Steps.trans hcomes (.one ?_));rw [<-qr];exact step_leave_returned hleave
  exact .of_steps hsteps ((hsw.run (j+1) h1 h3).run _ w' I' β' cs (hs.put hd hv hH' hext hl))
 ·have hsim:Sim E t H' a w' I' β':=hs.put (d:=none) (v:=undef) (s:=.any) rfl (.any _) hH' hext hl
  obtain ⟨bs,e1,_⟩:=hsim.defers;refine .of_steps (.head henter (Steps.trans hcomes (.one (step_leave_panicked hleave)))) ?_;exact zjd (fun _ _=>rfl) hKP bs a w' I' β' cs _ hsim e1 rfl rfl rfl rfl rfl
theorem ymr {x:Operand} {ty:TypeId} (hop:o.op= .panic x) (hw:zu all t o.guard=some true) (hx:zl G t x= .imm (.iface ty (.agg [])))
  (h:E.KP [{v:=.iface ty (.agg #[]),recovered:=false}] H):SWr E all (o::rest) k t H:=by
 refine ⟨fun j hj hdrop=>?_⟩;obtain ⟨h1,ho,h3⟩:=xy hdrop;rw [zao h1];refine ⟨fun a w I β cs hs=>?_⟩;have hwant:=qv hw hs;have hxr:=hs.eval x;rw [hx] at hxr;have hxv:a.eval x= .iface ty (.agg #[]):=by
  generalize a.eval x=v at hxr;cases hxr with|imm hxr=>
  cases hxr with|iface _ v _ hv=>
  cases hv with|agg vs _ hl _=>
  have h0:vs=#[]:=Array.eq_empty_of_size_eq_zero (by simpa using hl);rw [h0]
 have hrun:(execOp a.eval o).run P w= .halt (.panic (.iface ty (.agg #[]))) w:=by
  obtain ⟨dst,op,type,pos,after,guard⟩:=o;simp only at hop;subst hop;simp [execOp,hxv,Instr.panic,goPanic]
 have hg:=jt (P:=P) (b:=E.base) (ro:=E.ro) (k:=k) (cs:=cs) (w:=w) (rest:=(List.range all.size).drop (j+1)) ho hwant (.inr fun c e=>by rw [hop] at e;cases e);obtain ⟨bs,e1,_⟩:=hs.defers;have zby:step P (lone (E.at a (.inRegion all (j::(List.range all.size).drop (j+1))::k)) cs w)= .next (lone ((E.at a (.inRegion all (j::(List.range all.size).drop (j+1))::k)).raise [{v:=.iface ty (.agg #[]),recovered:=false}]) cs w):=
  step_lone_go (by unfold En.at;rw [hg];simp [stepG.apply,hrun])
 refine .of_steps (.one zby) ?_;exact zjd (fun _ _=>rfl) h bs a w I β cs _ hs e1 rfl rfl rfl rfl rfl
end
section
variable {P:Program} {G:List (Nat × D)} {fn:Func} {E:En P G fn false} {t:List (Nat × SV)} {H:List SObj} {k:List Item}
def SPreP (P:Program) (G:List (Nat × D)) (f:FuncId) (args:List SV) (H0:List SObj) (K:SV->List SObj->Prop) (KP:List PanicEntry->List SObj->Prop):Prop:=
 ∀X,SCallP P G f args (H0++X) (fun r H'=>∃H1,K r H1/\H1.length=H0.length/\H'=H1++X) (fun ch H'=>∃H1,KP ch H1/\H1.length=H0.length/\H'=H1++X)
theorem yrk {f : FuncId} {args : List SV} {H0 : List SObj} {K : SV -> List SObj -> Prop} {KP : List PanicEntry -> List SObj -> Prop} (hargs : args.all (SV.under H0.length) = true) (hH0 : H0.all (SObj.under H0.length) = true)
    (h : SCallP P G f args H0 (fun r H' => H0.length <= H'.length /\ r.under H0.length = true /\ (H'.take H0.length).all (SObj.under H0.length) = true /\ K r (H'.take H0.length))
      (fun ch H' => H0.length <= H'.length /\ (H'.take H0.length).all (SObj.under H0.length) = true /\ KP ch (H'.take H0.length))) : SPreP P G f args H0 K KP := by
  intro X w I β vs hH hv
  have hs := hH.small hH0
  refine (h w I (β.take H0.length) vs hs (zlr hv hargs)).mono ?_
  rintro e w' (⟨v, r, I', β1, H', rfl, ⟨hl, hr, hu1, hK⟩, g1, g2, g3⟩ | ⟨ch, I', β1, H', rfl, ⟨hl, hu1, hK⟩, g2, g3⟩)
  · obtain ⟨q1, q2⟩ := hH.whole (H1 := H') hl hu1 g2 g3
    have hlen1 : β1.length = H'.length := g2.len
    refine .inl ⟨v, r, I', _, _, rfl, ⟨H'.take H0.length, hK, by simp; omega, rfl⟩, ?_, q1, q2⟩
    refine (zoz g1 hr).mono_below (fun _ _ h => h) (fun _ _ _ => rfl) (m := H0.length) (fun b x hb hx => ?_) hr
    exact ⟨x, by rw [List.getElem?_append_left (lt_of_getElem? hx)]; exact hx, x.le_refl⟩
  · obtain ⟨q1, q2⟩ := hH.whole (H1 := H') hl hu1 g2 g3
    exact .inr ⟨ch, I', _, _, rfl, ⟨H'.take H0.length, hK, by simp; omega, rfl⟩, q1, q2⟩
theorem SPre.toP {f:FuncId} {args:List SV} {H0:List SObj} {K:SV->List SObj->Prop} {KP:List PanicEntry->List SObj->Prop} (h:SPre P G f args H0 K):SPreP P G f args H0 K KP:=fun X=>(h X).toP
theorem SPreP.mono {f:FuncId} {args:List SV} {H0:List SObj} {K K':SV->List SObj->Prop} {KP KP':List PanicEntry->List SObj->Prop} (h:SPreP P G f args H0 K KP) (hK:∀r H1,K r H1->K' r H1) (hP:∀ch H1,KP ch H1->KP' ch H1):SPreP P G f args H0 K' KP':=
 fun X=>(h X).mono (fun _ _ ⟨H1,h1,h2⟩=>⟨H1,hK _ _ h1,h2⟩) (fun _ _ ⟨H1,h1,h2⟩=>⟨H1,hP _ _ h1,h2⟩)
theorem SCallP.sure {f:FuncId} {args:List SV} {K:SV->List SObj->Prop} {KP:List PanicEntry->List SObj->Prop} (h:SCallP P G f args H K KP) (hP:∀ch H',¬KP ch H'):SCall P G f args H K:=
 fun w I β vs h1 h2=>(h w I β vs h1 h2).mono fun _ _ h3=>by
  rcases h3 with h3|⟨ch,_,_,H',_,h5,_⟩
  ·exact h3
  ·exact absurd h5 (hP ch H')
theorem zky {all:Array Oper} {o:Oper} {rest:List Oper} {fx:Operand} {args:Array Operand} {tys:Array TypeId} {f:FuncId} {first captured:List SV} {res:Option SV} {ch0:List PanicEntry}
  (hop:o.op= .call ⟨.value fx,args,tys⟩) (hw:zu all t o.guard=some true) (hd:yb fn.ntmps o.dst=true) (hf:zl G t fx= .fn (.func f) first captured) (hb:wk P f=true)
  {argv:List SV} (hargs:first++args.toList.map (zl G t)++captured=argv) (htail:zge all (all.size-(rest.length+1))=true)
  (hc:SCallP P G f argv H (fun r H'=>H'=H/\res=some r) (fun ch H'=>H'=H/\res=none/\ch=ch0)) (hp:res=none->E.KP ch0 H)
  (h:∀r,res=some r->SWd E all rest k (xj t o.dst r) H):SWd E all (o::rest) k t H:=by
 cases hr:res with
 |none=>
  subst hr;refine yue hop hw hf hb hargs htail (hc.mono (fun r H' h=>by cases h.2) ?_);rintro ch H' ⟨rfl,_,rfl⟩;exact ⟨Nat.le_refl _,hp rfl⟩
 |some r=>
  subst hr;refine ws hop hw hd hf hb hargs (((hc.sure fun ch H' h=>by cases h.2.1)).mono ?_) (h r rfl);rintro r' H' ⟨rfl,e⟩;cases e;exact ⟨rfl,rfl⟩
theorem zqj {all:Array Oper} {o:Oper} {rest:List Oper} {fx:Operand} {args:Array Operand} {tys:Array TypeId} {f:FuncId} {first captured:List SV} {res:Option SV} {ch0:List PanicEntry}
  (hop:o.op= .call ⟨.value fx,args,tys⟩) (hw:zu all t o.guard=some true) (hd:yb fn.ntmps o.dst=true) (hf:zl G t fx= .fn (.func f) first captured) (hb:wk P f=true)
  {argv:List SV} (hargs:first++args.toList.map (zl G t)++captured=argv)
  (hc:SCallP P G f argv H (fun r H'=>H'=H/\res=some r) (fun ch H'=>H'=H/\res=none/\ch=ch0)) (hp:res=none->E.KP ch0 H)
  (h:∀r,res=some r->SWr E all rest k (xj t o.dst r) H):SWr E all (o::rest) k t H:=by
 refine zyu hop hw hd hf hb hargs (hc.mono ?_ ?_)
 ·rintro r H' ⟨rfl,e⟩
  exact ⟨Nat.le_refl _,h r e⟩
 ·rintro ch H' ⟨rfl,e,rfl⟩
  exact ⟨Nat.le_refl _,hp e⟩
theorem ycy {rd:Bool} {E:En P G fn rd} {all:Array Oper} {o:Oper} {rest:List Oper} {ty ty':Nat} {x y:Operand} {a b:Int} {kk:IntKind} (hop:o.op= .binOp .quo ty x y ty') (hw:zu all t o.guard=some true) (hd:yb fn.ntmps o.dst=true) (hx:zl G t x= .imm (.val (.int kk a))) (hy:zl G t y= .imm (.val (.int kk b))) (hb:b≠0)
  (h:SWr E all rest k (xj t o.dst (.imm (.val (.int kk (kk.wrap (a.tdiv b)))))) H):SWr E all (o::rest) k t H:=by
 refine qy (r:=.imm (.val (.int kk (kk.wrap (a.tdiv b))))) (H':=H) hw hd ?_ (Nat.le_refl _) h;have hs:yay P .quo ty (.int kk a) (.int kk b)=some (.int kk (kk.wrap (a.tdiv b))):=by
  simp [yay,ytr,hb]
 rw [hop];simp only [sop,hx,hy,hs,Option.map_some]
theorem ycz {rd:Bool} {E:En P G fn rd} {all:Array Oper} {o:Oper} {rest:List Oper} {ty ty':Nat} {x y:Operand} {a b:Int} {kk:IntKind} (hop:o.op= .binOp .rem ty x y ty') (hw:zu all t o.guard=some true) (hd:yb fn.ntmps o.dst=true) (hx:zl G t x= .imm (.val (.int kk a))) (hy:zl G t y= .imm (.val (.int kk b))) (hb:b≠0)
  (h:SWr E all rest k (xj t o.dst (.imm (.val (.int kk (a.tmod b))))) H):SWr E all (o::rest) k t H:=by
 refine qy (r:=.imm (.val (.int kk (a.tmod b)))) (H':=H) hw hd ?_ (Nat.le_refl _) h;have hs:yay P .rem ty (.int kk a) (.int kk b)=some (.int kk (a.tmod b)):=by
  simp [yay,ytr,hb]
 rw [hop];simp only [sop,hx,hy,hs,Option.map_some]
end
end Go.Sh
namespace Go.Proofs.YtjnddlifnkgncaaGreatDoor
open Go Go.Sh
variable (G:List (Nat × D))
theorem zch (b:Bool):zq Tryz.prog G 187 [sB b] (sI (b2i b)):=by
 refine zh Tryz.func187 rfl (by rw [Tryz.ntmps187];simp) rfl rfl ?_;intro E hH hK;cases b<;>((refine xg ?_;conv=>whnf))<;>exact hK _
theorem ztp (a b:Int) (hb:b≠0):zq Tryz.prog G 207 [sI a,sI b] (sI (zhc a b)):=by
 refine zh Tryz.func207 rfl (by rw [Tryz.ntmps207];simp) rfl rfl ?_;intro E hH hK;(refine zm [8] 1000 ?_;conv=>whnf);refine ycy rfl rfl rfl rfl rfl hb ?_;(refine zj [11] 1000 ?_;conv=>whnf);refine ycz rfl rfl rfl rfl rfl hb ?_;(refine wa ?_;conv=>whnf)
 repeat' ((with_reducible refine way ?_ ?_)<;>(intro h;conv=>whnf))
 ·exact kI hK (by unfold zhc;rw [if_pos h])
 ·exact kI hK (by unfold zhc;rw [if_neg h])
theorem zyv (a b:Int) (hb:b≠0):zq Tryz.prog G 206 [sI a,sI b] (sI (zyk a b)):=by
 have hf:=ztp G a b hb;unfold zyk;generalize zhc a b=q at hf;refine zh Tryz.func206 rfl (by rw [Tryz.ntmps206];simp) rfl rfl ?_;intro E hH hK;(refine xg ?_;conv=>whnf);refine zd rfl  hf ?_;(refine wa ?_;conv=>whnf)
 repeat' ((with_reducible refine way ?_ ?_)<;>(intro h;conv=>whnf))
 ·rename_i g1 g2
  exact kI hK (by rw [if_pos (.inr ⟨g2,h⟩)])
 ·rename_i g1 g2
  exact kI hK (by rw [if_neg (fun x=>x.elim g1 (fun x=>x.2 h))])
 ·rename_i g1
  exact kI hK (by rw [if_neg (fun x=>x.elim g1 (fun x=>h x.1))])
 ·exact kI hK (by rw [if_pos (.inl h)])
theorem zqk (y:Int):zq Tryz.prog G 205 [sI y] (sI (ycr y)):=by
 refine zh Tryz.func205 rfl (by rw [Tryz.ntmps205];simp) rfl rfl ?_;intro E hH hK;(refine xg ?_;conv=>whnf)
 repeat' ((with_reducible refine way ?_ ?_)<;>(intro h;conv=>whnf))
 ·exact kI hK (by unfold ycr;rw [if_pos (by assumption)])
 ·exact kI hK (by unfold ycr;rw [if_neg (by assumption)])
abbrev zix:List PanicEntry:=[{v:=.iface 210 (.agg #[]),recovered:=false}]
def yvg (f:FuncId) (args:List SV) (H:List SObj) (res:Option SV):Prop:=SCallP Tryz.prog G f args H (fun r H'=>H'=H/\res=some r) (fun ch H'=>H'=H/\res=none/\ch=zix)
def May (f:FuncId) (args:List SV) (res:Option SV):Prop:=∀H,yvg G f args H res
def zyw (f:FuncId) (args:List SV) (H0:List SObj) (res:Option SV):Prop:=∀X,yvg G f args (H0++X) res
theorem zyx {f:FuncId} {args:List SV} {H0:List SObj} {res:Option SV} (hargs:args.all (SV.under H0.length)=true) (hH0:H0.all (SObj.under H0.length)=true)
  (h:SCallP Tryz.prog G f args H0 (fun r H'=>H0.length<=H'.length/\r.under H0.length=true/\H'.take H0.length=H0/\res=some r) (fun ch H'=>H0.length<=H'.length/\H'.take H0.length=H0/\res=none/\ch=zix)):zyw G f args H0 res:=by
 have:=yrk (G:=G) (P:=Tryz.prog) (f:=f) (K:=fun r H1=>H1=H0/\res=some r) (KP:=fun ch H1=>H1=H0/\res=none/\ch=zix) hargs hH0
  (h.mono (fun r H' ⟨a,b,c,d⟩=>⟨a,b,by rw [c];exact hH0,c,d⟩) (fun ch H' ⟨a,b,c,d⟩=>⟨a,by rw [b];exact hH0,b,c,d⟩))
 intro X;refine (this X).mono ?_ ?_
 ·rintro r H' ⟨H1,⟨rfl,e⟩,_,rfl⟩
  exact ⟨rfl,e⟩
 ·rintro ch H' ⟨H1,⟨rfl,e⟩,_,rfl⟩
  exact ⟨rfl,e⟩
theorem zmx:zq Tryz.prog G 184 [sB true] (.tup []):=by
 refine zh Tryz.func184 rfl (by rw [Tryz.ntmps184];simp) rfl rfl ?_;intro E hH hK;(refine xg ?_;conv=>whnf);exact hK _
theorem zkz (H:List SObj):SCallP Tryz.prog G 184 [sB false] H (fun _ _=>False) (fun ch H'=>H'=H/\ch=zix):=by
 refine zdz Tryz.func184 rfl (by rw [Tryz.ntmps184];simp) ?_;intro E hH hK hP;(refine ze ?_;conv=>whnf);refine yln (d:=.agg []) rfl rfl rfl rfl rfl ?_;(refine zc ?_;conv=>whnf);refine ymr rfl rfl rfl (hP _ _ ⟨rfl,rfl⟩)
section
variable {G}
variable {fn:Func} {E:En Tryz.prog G fn false} {t:List (Nat × SV)} {H:List SObj} {k:List Item}
theorem ql {all:Array Oper} {o:Oper} {rest:List Oper} {fx:Operand} {args:Array Operand} {tys:Array TypeId} {b:Bool}
  (hop:o.op= .call ⟨.value fx,args,tys⟩) (hw:zu all t o.guard=some true) (hd:yb fn.ntmps o.dst=true) (hf:zl G t fx= .fn (.func 184) [] [])
  (hargs:args.toList.map (zl G t)=[sB b]) (h1:b=true->SWr E all rest k (xj t o.dst (.tup [])) H) (h2:b=false->E.KP zix H):SWr E all (o::rest) k t H:=by
 cases b with
 |true=>exact yeq (argv:=[sB true]) hop hw hd hf rfl (by rw [hargs];rfl) (zmx G) (h1 rfl)
 |false=>
  refine zyu (argv:=[sB false]) hop hw hd hf rfl (by rw [hargs];rfl) ((zkz G H).mono (fun _ _ h=>h.elim) ?_);rintro ch H' ⟨rfl,rfl⟩;exact ⟨Nat.le_refl _,h2 rfl⟩
end
theorem zyy (op a b:Int) (hb0: -1000000000000<=b) (hb1:b<=1000000000000):May G 189 [sI op,sI a,sI b] ((zpy op a b).map sI):=by
 intro H;refine zdz Tryz.func189 rfl (by rw [Tryz.ntmps189];simp) ?_;intro E hH hK hP;have qr:∀n,zpy op a b=some n->E.K (sI n) H:=fun n e=>hK _ _ ⟨rfl,by rw [e];rfl⟩
 have hno:zpy op a b=none->E.KP zix H:=fun e=>hP _ _ ⟨rfl,by rw [e];rfl,rfl⟩
 clear hK hP
 by_cases o8:op=8
 ·subst o8
  (refine ze ?_;conv=>whnf);refine zd rfl  (zch G _) ?_;(refine zc ?_;conv=>whnf);exact qr _ rfl
 by_cases o9:op=9
 ·subst o9
  (refine ze ?_;conv=>whnf);refine zd rfl  (zch G _) ?_;(refine zc ?_;conv=>whnf);exact qr _ rfl
 by_cases o10:op=10
 ·subst o10
  (refine ze ?_;conv=>whnf);refine zd rfl  (zch G _) ?_;(refine zc ?_;conv=>whnf);exact qr _ rfl
 by_cases o11:op=11
 ·subst o11
  (refine ze ?_;conv=>whnf);exact qr _ rfl
 by_cases o12:op=12
 ·subst o12
  (refine ze ?_;conv=>whnf);exact qr _ rfl
 by_cases o13:op=13
 ·subst o13
  have e13:zpy 13 a b=(if yxf a b=true then some (wi (a*b)) else none):=rfl;rw [e13] at qr hno;(refine zm [777,49] 1000 ?_;conv=>whnf)
  repeat' ((with_reducible refine way ?_ ?_)<;>(intro h;conv=>whnf))
  ·have hne:mxA b (wi (0-b))≠0:=by
    unfold mxA;rw [show wi (0-b)=0-b from zt (by omega) (by omega)];split<;>omega
   refine ycy rfl rfl rfl rfl rfl hne ?_;(refine zc ?_;conv=>whnf);refine ql rfl rfl rfl rfl rfl (fun hb=>?_) (fun hb=>hno (if_neg ?_))
   ·(refine zc ?_;conv=>whnf)
    refine qr _ (if_pos ?_);unfold yxf;rw [decide_eq_false h,Bool.false_or];exact hb
   ·unfold yxf
    rw [decide_eq_false h,Bool.false_or,Bool.not_eq_true];exact hb
  ·refine ql (b:=true) rfl rfl rfl rfl rfl (fun _=>?_) (fun hb=>by cases hb)
   (refine zc ?_;conv=>whnf);exact qr _ (if_pos (by unfold yxf;rw [decide_eq_true h,Bool.true_or]))
 by_cases o14:op=14
 ·subst o14
  have e14:zpy 14 a b=(if 0<b then some (zhc a b) else none):=rfl;rw [e14] at qr hno;(refine ze ?_;conv=>whnf);refine ql rfl rfl rfl rfl rfl (fun hb=>?_) (fun hb=>hno (if_neg (of_decide_eq_false hb)));have hb:0<b:=of_decide_eq_true hb;(refine zc ?_;conv=>whnf);refine zd rfl  (ztp G a b (by omega)) ?_;(refine zc ?_;conv=>whnf);exact qr _ (if_pos hb)
 by_cases o15:op=15
 ·subst o15
  have e15:zpy 15 a b=(if-1000000<=a/\a<=1000000 then some (zyk (wi (a*b)) 60) else none):=rfl;rw [e15] at qr hno;have hev:=zyv G (wi (a*b)) 60 (by decide);generalize zyk (wi (a*b)) 60=z at hev qr hno;(refine ze ?_;conv=>whnf)
  repeat' ((with_reducible refine way ?_ ?_)<;>(intro h;conv=>whnf))
  ·refine ql rfl rfl rfl rfl rfl (fun hb=>?_) (fun hb=>hno (if_neg (fun x=>of_decide_eq_false hb x.2)))
   (refine zc ?_;conv=>whnf);refine zd rfl  hev ?_;(refine zc ?_;conv=>whnf);exact qr _ (if_pos ⟨h,of_decide_eq_true hb⟩)
  ·refine ql (b:=false) rfl rfl rfl rfl rfl (fun hb=>by cases hb) (fun _=>hno (if_neg (fun x=>h x.1)))
 by_cases o16:op=16
 ·subst o16
  (refine ze ?_;conv=>whnf);exact qr _ rfl
 have e17:zpy op a b=some (mxA a b):=by unfold zpy;rw [if_neg o8,if_neg o9,if_neg o10,if_neg o11,if_neg o12,if_neg o13,if_neg o14,if_neg o15,if_neg o16]
 (refine ze ?_;conv=>whnf)
 repeat' ((with_reducible refine way ?_ ?_)<;>(intro h;conv=>whnf))
 all_goals try contradiction
 exact qr _ e17
open Go Go.Sh Go.RowKit
abbrev zsl:Value:=.iface 210 (.agg #[])
theorem yik (p q:Addr) (w:World):
  CallsD Tryz.prog 146 #[.pointer (some p),.pointer (some q)] .returning w fun e u' w'=>e= .returned (.tuple #[])/\u'= .returning/\w'=w:=by
 refine callsD_of_wpS Tryz.func146 rfl fun c₀ cs hu=>?_
 apply wpS_seq
 apply wpS_region
 simp [wpOpsS,go_sem,recoverD,hu,Tryz.ntmps146,Exit.thenS]
 apply wpS_seq
 apply wpS_region
 simp [wpOpsS,go_sem,recoverD,hu,Tryz.ntmps146,Exit.thenS];refine wpS_cond (t:=false) (by simp [Act.eval,Array.replicate]) ?_;simp only [Bool.false_eq_true,if_false];refine wpS_of_wp (wp_skip ?_);cases c₀
 simp_all [bodyPostS,results,Tryz.results146]
theorem set_self {w:World} {b T:Nat} {x v:Value} (h:w.heap[b]?=some (.cells #[x] T (0,0))):(w.setCell ⟨b,0,none⟩ v).heap[b]?=some (.cells #[v] T (0,0)):=by simp [World.setCell,Array.getElem?_modify,h]
theorem zhi {w:World} {b c:Nat} {v:Value} (h:c≠b):(w.setCell ⟨b,0,none⟩ v).heap[c]?=w.heap[c]?:=by simp [World.setCell,Array.getElem?_modify,Ne.symm h]
theorem yrl {w:World} {b:Nat} {v:Value}:(w.setCell ⟨b,0,none⟩ v).heap.size=w.heap.size:=by simp [World.setCell]
theorem zef {w:World} {b T:Nat} {x:Value} (h:w.heap[b]?=some (.cells #[x] T (0,0))):w.cell? ⟨b,0,none⟩=some x/\w.frozen? ⟨b,0,none⟩=false:=by simp [World.cell?,World.frozen?,h]
theorem zfd {w:World} {ob:Obj} {c:Nat} (h:c<w.heap.size):(w.alloc ob).heap[c]?=w.heap[c]?:=by
 show (w.heap.push ob)[c]?=_;rw [Array.getElem?_push,if_neg (by omega)]
abbrev ywk (w:World) (p q:Nat) (x y:Value):World:=(w.setCell ⟨p,0,none⟩ x).setCell ⟨q,0,none⟩ y
theorem zql (p q Tp Tq:Nat) (x y:Value) (w:World) (hpq:q≠p) (hp:w.heap[p]?=some (.cells #[x] Tp (0,0))) (hq:w.heap[q]?=some (.cells #[y] Tq (0,0))):
  CallsD Tryz.prog 146 #[.pointer (some ⟨p,0,none⟩),.pointer (some ⟨q,0,none⟩)] (.panicking ({v:=zsl,recovered:=false}::[])) w fun e u' w'=>
   e= .returned (.tuple #[])/\u'= .panicking ({v:=zsl,recovered:=true}::[])/\w'=ywk (w.alloc (.cells #[] 210)) p q (.int .i64 0) (.bool false):=by
 have hta:∀w,(Instr.typeAssert zsl 20 210 true).run Tryz.prog w= .ok (.tuple #[.agg #[],.bool true]) w:=fun w=>by
  have hu:Tryz.prog.underlying 210=some (.struct #[]):=rfl;simp [Instr.typeAssert,run_underlying hu]
 have p1:=hp;have q1:=hq;rw [<-zfd (ob:=.cells #[] 210) (xw hp)] at p1;rw [<-zfd (ob:=.cells #[] 210) (xw hq)] at q1;rw [<-zhi (b:=p) (v:=.int .i64 0) hpq] at q1;obtain ⟨c1,f1⟩:=zef p1;obtain ⟨c2,f2⟩:=zef q1;clear p1 q1 hp hq;refine callsD_of_wpS Tryz.func146 rfl fun c₀ cs hu=>?_
 apply wpS_seq
 apply wpS_region
 simp [wpOpsS,go_sem,recoverD,hu,Tryz.ntmps146,Exit.thenS]
 apply wpS_seq
 apply wpS_region
 simp [wpOpsS,go_sem,recoverD,hu,Tryz.ntmps146,Exit.thenS];refine wpS_cond (t:=true) (by simp [Act.eval,Array.replicate]) ?_;simp only [if_true];refine wpS_of_wp ?_;rw [show (#[Value.pointer (some ⟨p,0,none⟩),Value.pointer (some ⟨q,0,none⟩)]++((((Array.replicate 14 undef).setIfInBounds 3 zsl).setIfInBounds 0 zsl).setIfInBounds 4 zsl).setIfInBounds 5 (Value.bool true))=#[Value.pointer (some ⟨p,0,none⟩),Value.pointer (some ⟨q,0,none⟩),zsl,undef,undef,zsl,zsl,.bool true,undef,undef,undef,undef,undef,undef,undef,undef] from rfl]
 go_wp2
 exact ⟨rfl,_,rfl,_,results_none rfl _ _ _,rfl,rfl,rfl⟩
theorem zyz {w:World} {p q Tp Tq:Nat} {x y:Value} (a b:Value) (hpq:q≠p) (hp:w.heap[p]?=some (.cells #[x] Tp (0,0))) (hq:w.heap[q]?=some (.cells #[y] Tq (0,0))):
  (ywk w p q a b).heap[p]?=some (.cells #[a] Tp (0,0))/\(ywk w p q a b).heap[q]?=some (.cells #[b] Tq (0,0)):=by
 refine ⟨?_,set_self (x:=y) ?_⟩
 ·rw [zhi (Ne.symm hpq)]
  exact set_self hp
 ·rw [zhi hpq]
  exact hq
abbrev yrm:List PanicEntry:=[{v:=zsl,recovered:=false}]
theorem yzy (mp e0 e1 e2 e3 e4 e5 : Value) (w : World) (Q : Ending -> World -> Prop)
    (hval : Calls Tryz.prog 147 #[mp, .agg #[e0, e1, e2, e3, e4, e5]] (((w.alloc (.cells #[e0, e1, e2, e3, e4, e5] 135)).alloc (.cells #[.int .i64 0] 3)).alloc (.cells #[.bool false] 4))
      (fun en w2 => ((∃ n, en = .returned (.int .i64 n)) \/ en = .panicked yrm) /\ Q en w2))
    (hJ : ∀ en w2, Q en w2 -> ∃ x y Tp Tq, w2.heap[w.heap.size + 1]? = some (.cells #[x] Tp (0, 0)) /\ w2.heap[w.heap.size + 1 + 1]? = some (.cells #[y] Tq (0, 0))) :
    Calls Tryz.prog 107 #[mp, .agg #[e0, e1, e2, e3, e4, e5]] w fun en w' =>
      (∃ n w2, Q (.returned (.int .i64 n)) w2 /\ en = .returned (.tuple #[.int .i64 n, .bool true]) /\ w' = ywk w2 (w.heap.size + 1) (w.heap.size + 1 + 1) (.int .i64 n) (.bool true)) \/
      (∃ w2, Q (.panicked yrm) w2 /\ en = .returned (.tuple #[.int .i64 0, .bool false]) /\ w' = ywk (w2.alloc (.cells #[] 210)) (w.heap.size + 1) (w.heap.size + 1 + 1) (.int .i64 0) (.bool false)) := by
  have hne : w.heap.size + 1 + 1 ≠ w.heap.size + 1 := by omega
  have hJ : ∀ en w2, Q en w2 -> ∃ x y Tp Tq, ((w2.cell? ⟨w.heap.size + 1, 0, none⟩ = some x /\ w2.frozen? ⟨w.heap.size + 1, 0, none⟩ = false) /\
      ∀ v, (w2.setCell ⟨w.heap.size + 1, 0, none⟩ v).cell? ⟨w.heap.size + 1 + 1, 0, none⟩ = some y /\ (w2.setCell ⟨w.heap.size + 1, 0, none⟩ v).frozen? ⟨w.heap.size + 1 + 1, 0, none⟩ = false) /\
      w2.heap[w.heap.size + 1]? = some (.cells #[x] Tp (0, 0)) /\ w2.heap[w.heap.size + 1 + 1]? = some (.cells #[y] Tq (0, 0)) := fun en w2 hq => by
    obtain ⟨x, y, Tp, Tq, j1, j2⟩ := hJ en w2 hq
    refine ⟨x, y, Tp, Tq, ⟨zef j1, fun v => ?_⟩, j1, j2⟩
    rw [<- zhi (b := w.heap.size + 1) (v := v) hne] at j2
    exact zef j2
  go_enter_defers Tryz.func107, Tryz.ntmps107
  go_wp2_with (go_at_call 147; refine hval.mono ?_; rintro en w2 ⟨⟨n, rfl⟩ | rfl, hq⟩ <;> obtain ⟨x, y, Tp, Tq, ⟨⟨j1, j2⟩, j3⟩, j4, j5⟩ := hJ _ _ hq)
  · refine leaves_cons (f := 146) (args := #[.pointer (some ⟨w.heap.size + 1, 0, none⟩), .pointer (some ⟨w.heap.size + 1 + 1, 0, none⟩)]) (by simp) (by simp [go_sem]) ?_
    refine (yik _ _ _).mono ?_
    rintro e u' w'' ⟨rfl, rfl, rfl⟩
    obtain ⟨k1, k2⟩ := zyz (.int .i64 n) (.bool true) hne j4 j5
    have k3 := (zef k1).1
    have k4 := (zef k2).1
    simp [Leaves, settle, results, Tryz.results107, go_sem, k3, k4]
    exact ⟨n, w2, hq, rfl, rfl⟩
  · refine leaves_cons (f := 146) (args := #[.pointer (some ⟨w.heap.size + 1, 0, none⟩), .pointer (some ⟨w.heap.size + 1 + 1, 0, none⟩)]) (by simp) (by simp [go_sem]) ?_
    refine (zql (w.heap.size + 1) (w.heap.size + 1 + 1) Tp Tq x y w2 hne j4 j5).mono ?_
    rintro e u' w'' ⟨rfl, rfl, rfl⟩
    have i4 := j4
    have i5 := j5
    rw [<- zfd (ob := .cells #[] 210) (xw j4)] at i4
    rw [<- zfd (ob := .cells #[] 210) (xw j5)] at i5
    obtain ⟨k1, k2⟩ := zyz (.int .i64 0) (.bool false) hne i4 i5
    have k3 := (zef k1).1
    have k4 := (zef k2).1
    simp [Leaves, settle, results, Tryz.results107, go_sem, k3, k4]
    exact ⟨w2, hq, rfl⟩
variable {G:List (Nat × D)}
theorem yms {w:World} {I:Imm} {β:List Bnd} {H:List SObj} {b c T:Nat} {x v:Value} {s s':SV} {m:Nat} (h:HeapOK G w I β H) (hb:H[b]?=some (.cells [s])) (hx:β[b]?=some (.blk c)) (hc:w.heap[c]?=some (.cells #[x] T (0,0))) (hv:Rep w I β v s')
  (hs:∀w',Rep w' I β v s'):HeapOK G (w.setCell ⟨c,0,none⟩ v) I β (H.set b (.cells [s']))/\Ext m w I β H (w.setCell ⟨c,0,none⟩ v) I β (H.set b (.cells [s'])):=by
 have hnI:∀o,¬I c o:=by
  obtain ⟨vs,T',h1,h2,h3,h4⟩:=h.obj b _ _ hb hx;exact h4
 refine h.change (o':=.cells [s']) hb (by simp) hx (fun c' hc'=>zhi hc') yrl hnI ⟨#[v],T,set_self hc,rfl,fun j hj hj'=>?_,hnI⟩ ⟨rfl,rfl⟩;have:j=0:=by simp at hj;omega
 subst this;exact hs _
theorem yft {w:World} {I:Imm} {β:List Bnd} {H:List SObj} {b c:Nat} {s:SV} (h:HeapOK G w I β H) (hb:H[b]?=some (.cells [s])) (hx:β[b]?=some (.blk c)):∃x T,w.heap[c]?=some (.cells #[x] T (0,0))/\Rep w I β x s:=by
 obtain ⟨vs,T',h1,h2,h3,h4⟩:=h.obj b _ _ hb hx;have hs:vs.size=1:=by simpa using h2
 refine ⟨vs[0],T',?_,by simpa using h3 0 (by simp) (by omega)⟩;rw [h1]
 congr 2
 apply Array.ext
 ·simpa using hs
 ·intro i h1 h2
  have:i=0:=by omega
  subst this;rfl
theorem zfu {w:World} {I:Imm} {β:List Bnd} {H:List SObj} {vs:Array Value} {T m:Nat} {cs:List SV} (h:HeapOK G w I β H) (hl:vs.size=cs.length) (hr:∀j (h:j<cs.length) (h':j<vs.size),Rep w I β (vs[j]'h') (cs[j]'h)):
  HeapOK G (w.alloc (.cells vs T)) I (β++[.blk w.heap.size]) (H++[.cells cs])/\Ext m w I β H (w.alloc (.cells vs T)) I (β++[.blk w.heap.size]) (H++[.cells cs]):=by
 refine h.alloc ⟨vs,T,?_,hl,fun j hj hj'=>?_,fun o ho=>?_⟩
 ·show (w.heap.push _)[w.heap.size]?=_
  simp
 ·exact (hr j hj hj').mono (fun _ _ h=>h) (fun c o hc=>ye (zfd (h.inI c o hc)) o) (.push _ _ _)
 ·have:=h.inI _ _ ho
  omega
theorem yzz {vs:Array Value} (h:vs.size=6):∃e0 e1 e2 e3 e4 e5,vs=#[e0,e1,e2,e3,e4,e5]:=by
 refine ⟨vs[0],vs[1],vs[2],vs[3],vs[4],vs[5],?_⟩
 apply Array.ext
 ·simpa using h
 ·intro i h1 h2
  match i,h2 with
  |0,_=>rfl
  |1,_=>rfl
  |2,_=>rfl
  |3,_=>rfl
  |4,_=>rfl
  |5,_=>rfl
theorem yfu {H0:List SObj} {mp:SV} {e:Ex} {res:Option Int} (hmp:mp.under H0.length=true) (hu:H0.all (SObj.under H0.length)=true)
  (h:zyw G 147 [mp,e.sv] H0 (res.map sI)):
  SPre Tryz.prog G 107 [mp,e.sv] H0 (fun r H1=>r= .tup [sI (res.getD 0),sB res.isSome]/\H1=H0):=by
 have hes:SV.under H0.length e.sv=true:=by
  cases e;rfl
 refine yvd (by simp [hmp,hes]) hu ?_;intro w I β vs hH hv;obtain ⟨v0,v1,hvs,hr0,hr1⟩:=hv.two;obtain rfl:vs=#[v0,v1]:=by
  apply Array.ext'
  rw [hvs]
 have hr1':=hr1;unfold Ex.sv at hr1;cases hr1 with
 |agg es _ hsz hes2=>
 have hsz6:es.size=6:=by
  rw [hsz];cases e;rfl
 obtain ⟨e0,e1,e2,e3,e4,e5,rfl⟩:=yzz hsz6;have s0:β.length=H0.length:=hH.len;obtain ⟨g1,x1⟩:=zfu (T:=135) (m:=H0.length) hH hsz hes2;have one:∀(v:Value) (s:SV) (w:World) (I:Imm) (β:List Bnd),Rep w I β v s->∀j (h:j<[s].length) (h':j<#[v].size),Rep w I β (#[v][j]'h') ([s][j]'h):=fun v s w I β hr j hj _=>by
  have:j=0:=by simp at hj;omega
  subst this;exact hr
 obtain ⟨g2,x2⟩:=zfu (vs:=#[Value.int .i64 0]) (T:=3) (m:=H0.length) (cs:=[sI 0]) g1 rfl (one _ _ _ _ _ (.imm (.val _)));obtain ⟨g3,x3⟩:=zfu (vs:=#[Value.bool false]) (T:=4) (m:=H0.length) (cs:=[sB false]) g2 rfl (one _ _ _ _ _ (.imm (.val _)));have x123:=(x1.trans x2).trans x3;have eH:H0++[.cells (e.cells.map .imm)]++[.cells [sI 0]]++[.cells [sB false]]=H0++[.cells (e.cells.map .imm),.cells [sI 0],.cells [sB false]]:=by simp
 have hb1:(H0++[SObj.cells (e.cells.map SV.imm),.cells [sI 0],.cells [sB false]])[H0.length+1]?=some (.cells [sI 0]):=by
  rw [List.getElem?_append_right (by omega),show H0.length+1-H0.length=1 by omega];rfl
 have hb2:(H0++[SObj.cells (e.cells.map SV.imm),.cells [sI 0],.cells [sB false]])[H0.length+2]?=some (.cells [sB false]):=by
  rw [List.getElem?_append_right (by omega),show H0.length+2-H0.length=2 by omega];rfl
 rw [eH] at g3 x123;have hx1:(β++[Bnd.blk w.heap.size]++[Bnd.blk (w.alloc (.cells #[e0,e1,e2,e3,e4,e5] 135)).heap.size]++[Bnd.blk ((w.alloc (.cells #[e0,e1,e2,e3,e4,e5] 135)).alloc (.cells #[.int .i64 0] 3)).heap.size])[H0.length+1]?=some (.blk (w.heap.size+1)):=by
  simp [<-s0]
 have hx2:(β++[Bnd.blk w.heap.size]++[Bnd.blk (w.alloc (.cells #[e0,e1,e2,e3,e4,e5] 135)).heap.size]++[Bnd.blk ((w.alloc (.cells #[e0,e1,e2,e3,e4,e5] 135)).alloc (.cells #[.int .i64 0] 3)).heap.size])[H0.length+2]?=some (.blk (w.heap.size+1+1)):=by
  simp [<-s0]
 have hv3:=hv.mono x123.imm x123.cell (by rw [s0];exact x123.keep);have hcall:=h [.cells (e.cells.map .imm),.cells [sI 0],.cells [sB false]] _ _ _ _ g3 hv3;generalize hw3:((w.alloc (.cells #[e0,e1,e2,e3,e4,e5] 135)).alloc (.cells #[Value.int .i64 0] 3)).alloc (.cells #[Value.bool false] 4)=w3 at g3 x123 hcall;generalize (β++[Bnd.blk w.heap.size]++[Bnd.blk (w.alloc (.cells #[e0,e1,e2,e3,e4,e5] 135)).heap.size]++[Bnd.blk ((w.alloc (.cells #[e0,e1,e2,e3,e4,e5] 135)).alloc (.cells #[.int .i64 0] 3)).heap.size])=β3 at g3 x123 hx1 hx2 hcall;generalize hH3:H0++[SObj.cells (e.cells.map SV.imm),.cells [sI 0],.cells [sB false]]=H3 at hb1 hb2 g3 x123 hcall;have hlen3:H3.length=H0.length+3:=by rw [<-hH3];simp
 have htk:∀(a b:SObj),((H3.set (H0.length+1) a).set (H0.length+2) b).take H0.length=H0:=fun a b=>by
  rw [List.take_set_of_le (by omega),List.take_set_of_le (by omega), <-hH3,List.take_left]
 let Q:Ending->World->Prop:=fun en w2=>∃I' β',HeapOK G w2 I' β' H3/\Ext H3.length w3 I β3 H3 w2 I' β' H3/\(∀n,en= .returned (.int .i64 n)->res=some n)/\(en= .panicked yrm->res=none)
 have keep1:∀{β':List Bnd} {i c:Nat},Keeps H3.length β3 β'->i<H3.length->β3[i]?=some (.blk c)->β'[i]?=some (.blk c):=fun hk hi hx=>by
  obtain ⟨y,hy,hle⟩:=hk _ _ hi hx;rw [hy];exact congrArg some hle
 have hval:Calls Tryz.prog 147 #[v0,.agg #[e0,e1,e2,e3,e4,e5]] w3 (fun en w2=>((∃n,en= .returned (.int .i64 n))\/en= .panicked yrm)/\Q en w2):=by
  refine hcall.mono fun en w2 hp=>?_
  rcases hp with ⟨v,r,I',β',H',rfl,⟨rfl,hres⟩,hvr,hH',hx⟩|⟨ch,I',β',H',rfl,⟨rfl,hres,rfl⟩,hH',hx⟩
  ·cases hr:res with
   |none=>rw [hr] at hres;cases hres
   |some n=>
    rw [hr] at hres;cases hres;cases hvr with
    |imm hvr=>
    cases hvr;exact ⟨.inl ⟨n,rfl⟩,I',β',hH',hx,fun m hm=>by cases hm;exact hr,fun hm=>by cases hm⟩
  ·cases hr:res with
   |some n=>rw [hr] at hres;cases hres
   |none=>exact ⟨.inr rfl,I',β',hH',hx,fun m hm=>(by cases hm),fun _=>hr⟩
 refine (yzy v0 e0 e1 e2 e3 e4 e5 w Q (by rw [hw3];exact hval) (fun en w2 hq=>?_)).mono ?_
 ·obtain ⟨I',β',hH',hx,_,_⟩:=hq
  obtain ⟨x,Tp,a1,_⟩:=yft hH' hb1 (keep1 hx.keep (by omega) hx1);obtain ⟨y,Tq,a2,_⟩:=yft hH' hb2 (keep1 hx.keep (by omega) hx2);exact ⟨x,y,Tp,Tq,a1,a2⟩
 ·have fin:∀(w2:World) (I':Imm) (β':List Bnd) (X:List SObj) (n:Int) (b:Bool),HeapOK G w2 I' β' (H3++X)->Ext H0.length w I β H0 w2 I' β' (H3++X)->β'[H0.length+1]?=some (.blk (w.heap.size+1))->β'[H0.length+2]?=some (.blk (w.heap.size+1+1))->
    n=res.getD 0->b=res.isSome->yyf G w I β H0 (fun r H'=>H0.length<=H'.length/\r.under H0.length=true/\(H'.take H0.length).all (SObj.under H0.length)=true/\r= .tup [sI (res.getD 0),sB res.isSome]/\H'.take H0.length=H0)
     (.returned (.tuple #[.int .i64 n,.bool b])) (ywk w2 (w.heap.size+1) (w.heap.size+1+1) (.int .i64 n) (.bool b)):=by
   intro w2 I' β' X n b hH' hx k1 k2 hn hb;subst hn hb;have q1:(H3++X)[H0.length+1]?=some (.cells [sI 0]):=by rw [List.getElem?_append_left (by omega)];exact hb1
   have q2:(H3++X)[H0.length+2]?=some (.cells [sB false]):=by rw [List.getElem?_append_left (by omega)];exact hb2
   obtain ⟨x,Tp,a1,_⟩:=yft hH' q1 k1;obtain ⟨g4,x4⟩:=yms (m:=H0.length) (v:=.int .i64 (res.getD 0)) (s':=sI (res.getD 0)) hH' q1 k1 a1 (.imm (.val _)) (fun _=>.imm (.val _));have q2':((H3++X).set (H0.length+1) (.cells [sI (res.getD 0)]))[H0.length+2]?=some (.cells [sB false]):=by rw [List.getElem?_set_ne (by omega)];exact q2
   obtain ⟨y,Tq,a2,_⟩:=yft g4 q2' k2;obtain ⟨g5,x5⟩:=yms (m:=H0.length) (v:=.bool res.isSome) (s':=sB res.isSome) g4 q2' k2 a2 (.imm (.val _)) (fun _=>.imm (.val _));have htk2:(((H3++X).set (H0.length+1) (.cells [sI (res.getD 0)])).set (H0.length+2) (.cells [sB res.isSome])).take H0.length=H0:=by
    rw [List.take_set_of_le (by omega),List.take_set_of_le (by omega),List.take_append_of_le_length (by omega), <-hH3,List.take_left]
   refine ⟨_,.tup [sI (res.getD 0),sB res.isSome],I',β',_,rfl,⟨by simp;omega,rfl,by rw [htk2];exact hu,rfl,htk2⟩,.tup _ _ rfl (fun j hj hj'=>?_),g5,(hx.trans x4).trans x5⟩
   match j,hj with
   |0,_=>exact .imm (.val _)
   |1,_=>exact .imm (.val _)
  rintro en w' (⟨n,w2,⟨I',β',hH',hx,hn,_⟩,rfl,rfl⟩|⟨w2,⟨I',β',hH',hx,_,hn⟩,rfl,rfl⟩)
  ·have hr:=hn n rfl
   exact fin w2 I' β' [] n true (by rw [List.append_nil];exact hH') (by rw [List.append_nil];exact x123.trans (hx.weaken (by omega))) (keep1 hx.keep (by omega) hx1) (keep1 hx.keep (by omega) hx2) (by rw [hr];rfl) (by rw [hr];rfl)
  ·have hr:=hn rfl
   obtain ⟨g6,x6⟩:=zfu (vs:=#[]) (T:=210) (m:=H0.length) (cs:=[]) hH' rfl (fun j hj=>absurd hj (Nat.not_lt_zero j));have k1:=keep1 hx.keep (by omega) hx1;have k2:=keep1 hx.keep (by omega) hx2;refine fin (w2.alloc (.cells #[] 210)) I' (β'++[.blk w2.heap.size]) [.cells []] 0 false g6 ((x123.trans (hx.weaken (by omega))).trans x6) ?_ ?_ (by rw [hr];rfl) (by rw [hr];rfl)
   ·rw [List.getElem?_append_left (lt_of_getElem? k1)];exact k1
   ·rw [List.getElem?_append_left (lt_of_getElem? k2)];exact k2
variable (G:List (Nat × D))
theorem zza (den:Int) (p0:Piece) (r:List Piece) (x:Int) (hden:den≠0) (hz:r.length<=1000000):zq Tryz.prog G 188 [.agg [sI den,.imm (.isl 3 ((p0::r).map Piece.cells))],sI x] (sI (ywj den (p0::r) x)):=by
 have hev:=fun y=>zyv G y den hden
 have hlen:((p0::r).map Piece.cells).length=(p0::r).length:=by simp
 have hzz:(p0::r).length<=1000001:=by simp;omega
 have h0:((p0::r).map Piece.cells)[0]?=some p0.cells:=rfl;have htab:ywj den (p0::r) x=zyk (wi ((ziv p0 (p0::r) x).at_+wi ((ziv p0 (p0::r) x).slope*wi (x-(ziv p0 (p0::r) x).lo)))) den:=rfl;rw [htab];generalize p0::r=ps at hlen hzz h0;refine zh Tryz.func188 rfl (by rw [Tryz.ntmps188];simp) rfl rfl ?_;intro E hH hK;(refine zm [10] 1000 ?_;conv=>whnf);refine zi (i:=0) (row:=p0.cells) rfl rfl h0 ?_;(refine wa ?_;conv=>whnf);refine zg [1,2,5,13,14,15] ?_;change SW E _ [(1,sI x),(2,.ptr 0 0),(5,.ptr 1 0),(13,.imm (.isl 3 (ps.map Piece.cells))),(14,sI ((ps.map Piece.cells).length:Nat)),(15,sI (0:Nat))] [.cells [sI den,.imm (.isl 3 (ps.map Piece.cells))],.cells [sI p0.lo,sI p0.at_,sI p0.slope]];rw [hlen];refine zp ps (fun i (_:Piece)=>[(1,sI x),(2,.ptr 0 0),(5,.ptr 1 0),(13,.imm (.isl 3 (ps.map Piece.cells))),(14,sI (ps.length:Nat)),(15,sI (i:Nat))]) (fun _ p=>[.cells [sI den,.imm (.isl 3 (ps.map Piece.cells))],.cells [sI p.lo,sI p.at_,sI p.slope]])
  (fun done rest p=>ziv p0 ps x=ziv p rest x) p0 rfl ?_ ?_
 ·rintro p hp
  have hp:ziv p0 ps x=p:=hp;rw [hp] at hK;have hev:=hev (wi (p.at_+wi (p.slope*wi (x-p.lo))));generalize zyk (wi (p.at_+wi (p.slope*wi (x-p.lo)))) den=z at hev hK;(refine xg ?_;conv=>whnf)
  repeat' ((with_reducible refine way ?_ ?_)<;>(intro h;conv=>whnf))
  all_goals try (exfalso;omega)
  refine zd rfl  hev ?_;(refine wa ?_;conv=>whnf);exact hK _
 ·rintro done o rest p hda hdl hp ih
  have hw:=zk (n:=done.length) (by omega);have hrx:(ps.map Piece.cells)[done.length]?=some o.cells:=by rw [hda];simp
  have ih:=ih (if o.lo<=x then o else p) hp;(refine xg ?_;conv=>whnf)
  repeat' ((with_reducible refine way ?_ ?_)<;>(intro h;conv=>whnf))
  all_goals try (exfalso;omega)
  refine zi (i:=done.length) (row:=o.cells) rfl rfl hrx ?_;(refine wa ?_;conv=>whnf)
  repeat' ((with_reducible refine way ?_ ?_)<;>(intro h;conv=>whnf))
  ·rw [if_pos h] at ih
   rw [hw];refine yz [1,2,5,13,14,15] 2 (by simp [hH]) (by simp) rfl rfl ih
  ·rw [if_neg h] at ih
   rw [hw];refine yz [1,2,5,13,14,15] 2 (by simp [hH]) (by simp) rfl rfl ih
theorem yfv (f:Nat) (y r:Int):yGo (f+1) y r=if ycr y<=r then yGo f (y+1) (r-ycr y) else (y,r):=rfl
theorem yvh (y:Int):365<=ycr y/\ycr y<=366:=by unfold ycr;split<;>omega
theorem yrn (ls:List Int) (m:Nat) (l r:Int) (h:ls[m]?=some l):mGo (ls.drop m) m r=if l<=r then mGo (ls.drop (m+1)) ((m:Int)+1) (r-l) else (m,r):=by
 have hlt:=lt_of_getElem? h;rw [List.drop_eq_getElem_cons hlt];rw [List.getElem?_eq_getElem hlt] at h;rw [Option.some.inj h];rfl
theorem yro (ls:List Int) (m:Nat) (l:Int) (h:ls[m]?=some l):(ls.drop m).sum=l+(ls.drop (m+1)).sum:=by
 have hlt:=lt_of_getElem? h;rw [List.drop_eq_getElem_cons hlt];rw [List.getElem?_eq_getElem hlt] at h;rw [Option.some.inj h,List.sum_cons]
section
variable {P:Program} {fn:Func} {rd:Bool} {E:En P G fn rd} {t:List (Nat × SV)} {H:List SObj} {k:List Item} {all:Array Oper} {rest:List Oper} {o:Oper}
theorem ymt {ty:TypeId} {ps:Array (Nat × Operand)} {pts:List (Nat × SV)} {r:SV} (hop:o.op= .build ty ps) (hw:zu all t o.guard=some true) (hd:yb fn.ntmps o.dst=true) (hev:ps.toList.map (fun p=>(p.1,zl G t p.2))=pts) (hb:zom P ty pts=some r)
  (h:SWr E all rest k (xj t o.dst r) H):SWr E all (o::rest) k t H:=by
 refine qy (r:=r) (H':=H) hw hd ?_ (Nat.le_refl _) h;rw [hop];simp only [sop,hev,hb,Option.map_some]
end
theorem yvi (z:Int):zom Tryz.prog 261 [(0,sI 31),(1,sI z),(2,sI 31),(3,sI 30),(4,sI 31),(5,sI 30),(6,sI 31),(7,sI 31),(8,sI 30),(9,sI 31),(10,sI 30),(11,sI 31)]=some (.agg [sI 31,sI z,sI 31,sI 30,sI 31,sI 30,sI 31,sI 31,sI 30,sI 31,sI 30,sI 31]):=by
 kernel_rfl
theorem yda (d:Int) (h0:0<=d) (h1:d<=36524):zq Tryz.prog G 185 [sI d] (.agg ((ymg d).map sI)):=by
 unfold ymg;generalize hY:yGo 200 2000 d=Y;refine zh Tryz.func185 rfl (by rw [Tryz.ntmps185];simp) rfl rfl ?_;intro E hH hK;(refine xg ?_;conv=>whnf);refine zg [0,2,3,4] ?_;change SW E _ [(0,sI d),(2,.ptr 0 0),(3,sI 2000),(4,sI d)] [.cells [sI 0,sI 0,sI 0,sI 0]];refine yy (σ:=Nat × Int × Int) (fun s=>[(0,sI d),(2,.ptr 0 0),(3,sI s.2.1),(4,sI s.2.2)]) (fun _=>[.cells [sI 0,sI 0,sI 0,sI 0]]) (fun s=>yGo s.1 s.2.1 s.2.2=Y/\0<=s.2.2/\s.2.2<365*s.1/\s.2.1+s.1=2200/\s.1<=200/\s.2.2<=36524) (fun s=>s.1) ?_ (200,2000,d) ⟨hY,h0,by simp only;omega,rfl,Nat.le_refl _,h1⟩;clear hY;rintro ⟨f,y,r⟩ ⟨g1,g2,g3,g4,g5,g6⟩ ih;simp only at g1 g2 g3 g4 g5 g6;have hy:=zqk G y;have hyl:=yvh y;change SW E _ [(0,sI d),(2,.ptr 0 0),(3,sI y),(4,sI r)] [.cells [sI 0,sI 0,sI 0,sI 0]];(refine ze ?_;conv=>whnf);refine zd rfl  hy ?_;(refine zc ?_;conv=>whnf)
 repeat' ((with_reducible refine way ?_ ?_)<;>(intro h;conv=>whnf))
 ·obtain ⟨f,rfl⟩:∃f',f=f'+1:=⟨f-1,by omega⟩
  rw [yfv,if_pos h] at g1;have ih:=ih (f,y+1,r-ycr y) ⟨g1,by simp only;omega,by simp only;omega,by simp only;omega,by simp only;omega,by simp only;omega⟩ (Nat.lt_succ_self _);refine zd rfl  hy ?_;(refine zc ?_;conv=>whnf);rw [zt (c:=r-ycr y) (by omega) (by omega),zt (c:=y+1) (by omega) (by omega)];exact zg [0,2,3,4] ih
 ·have hYe:Y=(y,r):=by
   rw [<-g1];cases f with
   |zero=>rfl
   |succ f=>rw [yfv,if_neg h]
  subst hYe;clear g1 ih;simp only at hK;have hmL:yvb y=[31,ycr y-337,31,30,31,30,31,31,30,31,30,31]:=rfl;rw [hmL] at hK;clear hmL;generalize ycr y=yl at hy hyl h hK;have h337:IntKind.i64.wrap (yl-337)=yl-337:=zt (by omega) (by omega);refine zd rfl  hy ?_;(refine zj [777,21] 1000 ?_;conv=>whnf);rw [h337];generalize hz:yl-337=z at hK;have hzr:z=28\/z=29:=by omega
  clear h337;refine ymt G rfl rfl rfl rfl (yvi z) ?_;(refine wa ?_;conv=>whnf);refine zg [0,2,3,4,5,6] ?_;change SW E _ [(0,sI d),(2,.ptr 0 0),(3,sI y),(4,sI r),(5,.ptr 1 0),(6,sI (0:Nat))] [.cells [sI 0,sI 0,sI 0,sI 0],.cells [sI 31,sI z,sI 31,sI 30,sI 31,sI 30,sI 31,sI 31,sI 30,sI 31,sI 30,sI 31]];have hsum:[31,z,31,30,31,30,31,31,30,31,30,31].sum=yl:=by
   simp only [List.sum_cons,List.sum_nil];omega
  have hml:[31,z,31,30,31,30,31,31,30,31,30,31].length=12:=rfl;have hpos:∀l∈[31,z,31,30,31,30,31,31,30,31,30,31],28<=l/\l<=31:=by
   intro l hl;simp only [List.mem_cons,List.not_mem_nil,or_false] at hl;omega
  change SW E _ [(0,sI d),(2,.ptr 0 0),(3,sI y),(4,sI r),(5,.ptr 1 0),(6,sI (0:Nat))] [.cells [sI 0,sI 0,sI 0,sI 0],.cells ([31,z,31,30,31,30,31,31,30,31,30,31].map sI)];generalize [31,z,31,30,31,30,31,31,30,31,30,31]=ls at hsum hml hpos hK ⊢;generalize hM:mGo ls 0 r=M at hK;refine yy (σ:=Nat × Int) (fun s=>[(0,sI d),(2,.ptr 0 0),(3,sI y),(4,sI s.2),(5,.ptr 1 0),(6,sI (s.1:Nat))]) (fun _=>[.cells [sI 0,sI 0,sI 0,sI 0],.cells (ls.map sI)]) (fun s=>mGo (ls.drop s.1) s.1 s.2=M/\0<=s.2/\s.2<(ls.drop s.1).sum/\s.1<=12/\s.2<=400) (fun s=>12-s.1) ?_ (0,r) ⟨hM,g2,by simp only [List.drop_zero];omega,Nat.zero_le _,by simp only;omega⟩;clear hM;rintro ⟨m,q⟩ ⟨k1,k2,k3,k4,k5⟩ ih;simp only at k1 k2 k3 k4 k5;have hm12:m<12:=by
   rcases Nat.lt_or_ge m 12 with hh|hh
   ·exact hh
   ·rw [List.drop_eq_nil_of_le (by omega)] at k3
    simp at k3;omega
  obtain ⟨l,hl⟩:∃l,ls[m]?=some l:=⟨_,List.getElem?_eq_getElem (by omega)⟩;have hlr:=hpos l (List.mem_of_getElem? hl);have hlm:(ls.map sI)[0+m*1]?=some (sI l):=by
   rw [Nat.zero_add,Nat.mul_one,List.getElem?_map,hl];rfl
  have hsd:=yro ls m l hl;rw [yrn ls m l q hl] at k1;change SW E _ [(0,sI d),(2,.ptr 0 0),(3,sI y),(4,sI q),(5,.ptr 1 0),(6,sI (m:Nat))] [.cells [sI 0,sI 0,sI 0,sI 0],.cells (ls.map sI)];(refine zm [777,24] 1000 ?_;conv=>whnf);refine zlx (i:=m) rfl rfl rfl rfl rfl rfl rfl rfl hm12 ?_;(refine zj [777,25] 1000 ?_;conv=>whnf);refine wh (v:=sI l) rfl rfl rfl rfl rfl hlm ?_;(refine zj [777,29] 1000 ?_;conv=>whnf)
  repeat' ((with_reducible refine way ?_ ?_)<;>(intro h;conv=>whnf))
  ·rw [if_pos h] at k1
   have ih:=ih (m+1,q-l) ⟨by simp only;rw [<-k1];rfl,by simp only;omega,by simp only;omega,by simp only;omega,by simp only;omega⟩ (by simp only;omega);refine zlx (i:=m) rfl rfl rfl rfl rfl rfl rfl rfl hm12 ?_;(refine zj [777,30] 1000 ?_;conv=>whnf);refine wh (v:=sI l) rfl rfl rfl rfl rfl hlm ?_;(refine zc ?_;conv=>whnf);rw [zt (c:=q-l) (by omega) (by omega),zk (n:=m) (by omega)];exact zg [0,2,3,4,5,6] ih
  ·rw [if_neg h] at k1
   subst k1;have h7:(d+5).tmod 7=(d+5) % 7:=Int.tmod_eq_emod_of_nonneg (by omega);rw [zt (c:=q+1) (by omega) (by omega),zt (c:=(m:Int)+1) (by omega) (by omega),zt (c:=d+5) (by omega) (by omega),zt (c:=(d+5).tmod 7+1) (by omega) (by omega)];exact hK _
variable {G:List (Nat × D)}
def MH (c:Codex) (S:AM) (inF:List Int) (st am:List (Int × Int)):List SObj:=
 [.cells [.imm (zx c.facts),.imm (zx c.lines),.imm (wm c.arts),sI S.day,.imm (zag S.has),.imm (yh S.vals),.imm (yh S.nums),.imm (yh inF),.map 1,.map 2],.mapI .i64 (jo sI st),.mapI .i64 (jo sI am)]
theorem jr (c:Codex) (S:AM) (inF:List Int) (st am:List (Int × Int)):(MH c S inF st am).all (SObj.under 3)=true:=by
 simp only [MH,List.all_cons,zgz];rfl
theorem ztq {c:Codex} {m:List (Int × Int)} {op n:Int} {u:ByteArray} {den:Int} {ps:List Piece} {ks:List Ex} (h:zdp c m op n u den ps ks=true):
  (op=1/\ks=[])\/(op=2/\ks=[]/\0<=n/\n<c.facts.length)\/(op=3/\ks=[])\/(op=4/\ks=[]/\1<=n/\n<=4)\/(5<=op/\op<=17/\ks≠[])\/(op=18/\ks≠[]/\ps≠[]/\ps.length<=64/\den≠0):=by
 unfold zdp at h;split at h
 ·rename_i h18
  simp only [Bool.and_eq_true,decide_eq_true_eq,zct] at h;refine .inr (.inr (.inr (.inr (.inr ⟨h18,?_,?_,h.2.1.2,by omega⟩))))
  ·rintro rfl
   simp at h
  ·rintro rfl
   simp at h
 ·split at h
  ·cases h
  ·split at h
   ·rename_i h14
    simp only [Bool.and_eq_true,decide_eq_true_eq,zha] at h;have hk:ks=[]:=List.length_eq_zero_iff.1 h.1
    by_cases o1:op=1
    ·exact .inl ⟨o1,hk⟩
    by_cases o2:op=2
    ·rw [if_neg o1,if_pos o2] at h
     simp only [Bool.and_eq_true,decide_eq_true_eq] at h;exact .inr (.inl ⟨o2,hk,h.2.1.1,h.2.1.2⟩)
    by_cases o3:op=3
    ·exact .inr (.inr (.inl ⟨o3,hk⟩))
    ·rw [if_neg o1,if_neg o2,if_neg o3] at h
     simp only [Bool.and_eq_true,decide_eq_true_eq] at h;exact .inr (.inr (.inr (.inl ⟨by omega,hk,h.2.1.1,h.2.1.2⟩)))
   ·rename_i h14
    cases ks with
    |nil=>simp at h
    |cons k r=>
     simp only [Bool.and_eq_true] at h;have h2:=h.2;split at h2
     ·rename_i f l _ _
      by_cases hr:5<=op/\op<=17
      ·exact .inr (.inr (.inr (.inr (.inl ⟨hr.1,hr.2,by simp⟩))))
      ·unfold ypk at h2
       rw [if_neg (by omega),if_neg (by omega),if_neg (by omega),if_neg (by omega),if_neg (by omega),if_neg (by omega),if_neg (by omega),if_neg (by omega),if_neg (by omega)] at h2;cases h2
     ·cases h2
theorem zzb {o0 o1 o2:SObj} (hu:[o0,o1,o2].all (SObj.under 3)=true) (op n:Int) (u:ByteArray) (den:Int) (ps:List Piece) (ks:List Ex) (hz:ks.length<=1000000) (val:Ex->Option Int)
  (htry:∀k∈ks,SPre Tryz.prog G 107 [.ptr 0 0,k.sv] [o0,o1,o2] (fun r H1=>r= .tup [sI ((val k).getD 0),sB (val k).isSome]/\H1=[o0,o1,o2])):
  zyw G 186 [.ptr 0 0,(Ex.mk op n u den ps ks).sv] [o0,o1,o2] ((yif (decide (op=7)) true (ks.map val)).map sI):=by
 refine zyx G (by rfl) hu ?_;refine zdz Tryz.func186 rfl (by rw [Tryz.ntmps186];simp) ?_;intro E hH hK hP;have qr:∀n,yif (decide (op=7)) true (ks.map val)=some n->∀X,E.K (sI n) ([o0,o1,o2]++X):=fun n e X=>hK _ _ ⟨by simp,rfl,rfl,by rw [e];rfl⟩
 have hno:yif (decide (op=7)) true (ks.map val)=none->∀X,E.KP zix ([o0,o1,o2]++X):=fun e X=>hP _ _ ⟨by simp,rfl,by rw [e];rfl,rfl⟩
 clear hK hP;have hrows:=wg ks;have hlen:(zo ks).length=ks.length:=by rw [hrows];simp
 have hu4:([o0,o1,o2]++[SObj.cells [sI op,sI n,sS u,sI den,.imm (.isl 3 (ps.map Piece.cells)),.imm (.isl 6 (zo ks))]]).all (SObj.under 4)=true:=by
  rw [List.all_append,zcd (m:=3) (n:=4) (by omega) hu];rfl
 rw [show (Ex.mk op n u den ps ks).sv= .agg [sI op,sI n,sS u,sI den,.imm (.isl 3 (ps.map Piece.cells)),.imm (.isl 6 (zo ks))] from rfl];generalize hd:decide (op=7)=dec at qr hno;(refine ze ?_;conv=>whnf);rw [hd];refine zg [0,5,6,15,16,17] ?_;change SW E _ [(0,.ptr 0 0),(5,sB dec),(6,sB true),(15,.imm (.isl 6 (zo ks))),(16,sI ((zo ks).length:Nat)),(17,sI (0:Nat))] ([o0,o1,o2]++[.cells [sI op,sI n,sS u,sI den,.imm (.isl 3 (ps.map Piece.cells)),.imm (.isl 6 (zo ks))]]);rw [hlen];refine zp ks (fun i (b:Bool)=>[(0,.ptr 0 0),(5,sB dec),(6,sB b),(15,.imm (.isl 6 (zo ks))),(16,sI (ks.length:Nat)),(17,sI (i:Nat))])
  (fun _ _=>[o0,o1,o2]++[.cells [sI op,sI n,sS u,sI den,.imm (.isl 3 (ps.map Piece.cells)),.imm (.isl 6 (zo ks))]])
  (fun done rest b=>yif dec true (ks.map val)=yif dec b (rest.map val)) true rfl ?_ ?_
 ·as_aux_lemma=>
   rintro b hb;have hb:yif dec true (ks.map val)=if b then some (b2i (!dec)) else none:=hb
   rw [hb] at qr hno;(refine ze ?_;conv=>whnf)
   repeat' ((with_reducible refine way ?_ ?_)<;>(intro h;conv=>whnf))
   all_goals try (exfalso;omega)
   refine ql rfl rfl rfl rfl rfl (fun h1=>?_) (fun h1=>hno (by rw [h1];rfl) [.cells [sI op,sI n,sS u,sI den,.imm (.isl 3 (ps.map Piece.cells)),.imm (.isl 6 (zo ks))]]);subst h1;(refine zc ?_;conv=>whnf);refine zd rfl  (zch G _) ?_;(refine zc ?_;conv=>whnf);exact qr _ rfl [.cells [sI op,sI n,sS u,sI den,.imm (.isl 3 (ps.map Piece.cells)),.imm (.isl 6 (zo ks))]]
 ·as_aux_lemma=>
   rintro done x rest b hda hdl hb ih;have hw:=zk (n:=done.length) (by omega);have hrx:(zo ks)[done.length]?=some x.cells:=by rw [hrows,hda];simp
   have hcall:=htry x (by rw [hda];simp);have hb:yif dec true (ks.map val)=if (val x).isSome&&((!decide ((val x).getD 0=0))==dec) then some (b2i dec) else yif dec (b&&(val x).isSome) (rest.map val):=hb
   obtain ⟨xo,xn,xu,xd,xp,xk⟩:=x;generalize val (Ex.mk xo xn xu xd xp xk)=vx at hcall hb;rw [hb] at qr hno;(refine ze ?_;conv=>whnf)
   repeat' ((with_reducible refine way ?_ ?_)<;>(intro h;conv=>whnf))
   all_goals try (exfalso;omega)
   refine zi (i:=done.length) (row:=(Ex.mk xo xn xu xd xp xk).cells) rfl rfl hrx ?_;(refine zc ?_;conv=>whnf);refine zbn 3 rfl rfl rfl rfl rfl rfl hcall ?_;rintro r9 H9 ⟨rfl,rfl⟩ _;cases vx with
   |none=>
    rw [if_neg (by simp)] at hb qr hno;rw [show (b&&(none:Option Int).isSome)=false from Bool.and_false b] at hb;have ih:=ih false hb;cases b with
    |true=>
     (refine zc ?_;conv=>whnf);rw [hw];exact yz [0,5,6,15,16,17] 4 (by simp [hH]) (by show 4<=5;decide) rfl hu4 ih
    |false=>
     (refine zc ?_;conv=>whnf);rw [hw];exact yz [0,5,6,15,16,17] 4 (by simp [hH]) (by show 4<=5;decide) rfl hu4 ih
   |some v=>
    rw [show (b&&(some v).isSome)=b from Bool.and_true b] at hb qr hno
    by_cases h0:v=0
    ·have e0:((some v).isSome&&(!decide ((some v).getD 0=0))==dec)= !dec:=by
      show (true&&(!decide (v=0))==dec)=_;rw [decide_eq_true h0];cases dec<;>rfl
     rw [e0] at hb qr hno;subst h0;cases dec with
     |true=>
      have ih:=ih b hb;cases b with
      |true=>
       (refine zc ?_;conv=>whnf);rw [hw];exact yz [0,5,6,15,16,17] 4 (by simp [hH]) (by show 4<=5;decide) rfl hu4 ih
      |false=>
       (refine zc ?_;conv=>whnf);rw [hw];exact yz [0,5,6,15,16,17] 4 (by simp [hH]) (by show 4<=5;decide) rfl hu4 ih
     |false=>
      (refine zc ?_;conv=>whnf);refine zd rfl  (zch G _) ?_;(refine zc ?_;conv=>whnf);exact qr _ rfl _
    ·have e1:((!decide ((some v).getD 0=0))==true)=true:=by
      rw [show decide ((some v).getD 0=0)=false from decide_eq_false h0];rfl
     have e2:((!decide ((some v).getD 0=0))==false)=false:=by
      rw [show decide ((some v).getD 0=0)=false from decide_eq_false h0];rfl
     have e0:((some v).isSome&&(!decide ((some v).getD 0=0))==dec)=dec:=by
      show (true&&(!decide (v=0))==dec)=_;rw [decide_eq_false h0];cases dec<;>rfl
     rw [e0] at hb qr hno;cases dec with
     |true=>
      (refine zc ?_;conv=>whnf)
      repeat' ((with_reducible refine way ?_ ?_)<;>(intro h;conv=>whnf))
      ·refine zd rfl  (zch G _) ?_
       (refine zc ?_;conv=>whnf);exact qr _ rfl _
      all_goals exact absurd (e1.symm.trans ‹((!decide ((some v).getD 0=0))==true)=false›) (by decide)
     |false=>
      have ih:=ih b hb;cases b with
      |true=>
       (refine zc ?_;conv=>whnf)
       repeat' ((with_reducible refine way ?_ ?_)<;>(intro h;conv=>whnf))
       all_goals try exact absurd (e2.symm.trans ‹((!decide ((some v).getD 0=0))==false)=true›) (by decide)
       rw [hw];exact yz [0,5,6,15,16,17] 4 (by simp [hH]) (by show 4<=5;decide) rfl hu4 ih
      |false=>
       (refine zc ?_;conv=>whnf)
       repeat' ((with_reducible refine way ?_ ?_)<;>(intro h;conv=>whnf))
       all_goals try exact absurd (e2.symm.trans ‹((!decide ((some v).getD 0=0))==false)=true›) (by decide)
       rw [hw];exact yz [0,5,6,15,16,17] 4 (by simp [hH]) (by show 4<=5;decide) rfl hu4 ih
theorem yrp (b:Bool) (H:List SObj):yvg G 184 [sB b] H (if b=true then some (.tup []) else none):=by
 cases b with
 |true=>exact ((zmx G H).mono fun r H' ⟨h1,h2⟩=>⟨h2,by rw [h1];rfl⟩).toP
 |false=>exact (zkz G H).mono (fun _ _ h=>h.elim) (fun ch H' ⟨h1,h2⟩=>⟨h1,rfl,h2⟩)
theorem ydb {x:Option Int} {n:Int} (h:yqy x=some n): -1000000000000<=n/\n<=1000000000000:=by
 unfold yqy at h;split at h
 ·split at h
  ·rename_i hr
   cases h;exact hr
  ·cases h
 ·cases h
theorem yil {S:AM} {am:List (Int × Int)} {e:Ex} {n:Int} (h:zcg S am e=some n): -1000000000000<=n/\n<=1000000000000:=by
 cases e;rw [zcg] at h;exact ydb h
structure AFit (c:Codex) (S:AM):Prop where
 few:c.facts.length<=1000000
 has:S.has.length=c.facts.length
 vals:S.vals.length=c.facts.length
 nums:S.nums.length=c.facts.length
 day:0<=S.day/\S.day<=36524
theorem zzc {l:List Bool} {n:Int} (h0:0<=n) (h1:n<l.length):(l.map fun b=>[dB b])[n.toNat]?=some [dB (l.getD n.toNat false)]:=by
 have hlt:n.toNat<l.length:=by omega
 rw [List.getElem?_map,List.getElem?_eq_getElem hlt,List.getD_eq_getElem?_getD,List.getElem?_eq_getElem hlt];rfl
theorem yfw {l:List Int} {n:Int} (h0:0<=n) (h1:n<l.length):(l.map fun b=>[dI b])[n.toNat]?=some [dI (l.getD n.toNat 0)]:=by
 have hlt:n.toNat<l.length:=by omega
 rw [List.getElem?_map,List.getElem?_eq_getElem hlt,List.getD_eq_getElem?_getD,List.getElem?_eq_getElem hlt];rfl
theorem yim {c:Codex} {m:List (Int × Int)} {S:AM} (hS:AFit c S) (inF:List Int) (st am:List (Int × Int)) (N:Nat):∀(e:Ex),SizeOf.sizeOf e<N->zyh c m e->zbq e<=1000000->
  zyw G 147 [.ptr 0 0,e.sv] (MH c S inF st am) ((zcg S am e).map sI):=by
 induction N with
 |zero=>intro e h;omega
 |succ N IH=>
 intro e he ha hez;obtain ⟨op,n,u,den,ps,ks⟩:=e;simp only [Ex.mk.sizeOf_spec] at he;unfold zyh at ha;obtain ⟨hnode,hkids⟩:=ha;unfold zbq at hez;have hksz:=zjm ks;have hk:∀k∈ks,zyw G 147 [.ptr 0 0,k.sv] (MH c S inF st am) ((zcg S am k).map sI):=fun k hkm=>by
  have h1:=List.sizeOf_lt_of_mem hkm;have h2:=zpw hkm;exact IH k (by omega) (zpx hkids k hkm) (by omega)
 clear IH hkids;refine zyx G (by rfl) (jr c S inF st am) ?_;refine zdz Tryz.func147 rfl (by rw [Tryz.ntmps147];simp) ?_;intro E hH hK hP;have qr:∀v,zcg S am (.mk op n u den ps ks)=some v->∀X,E.K (sI v) (MH c S inF st am++X):=fun v e X=>hK _ _ ⟨by simp,rfl,rfl,by rw [e];rfl⟩
 have hno:zcg S am (.mk op n u den ps ks)=none->∀X,E.KP zix (MH c S inF st am++X):=fun e X=>hP _ _ ⟨by simp,rfl,by rw [e];rfl,rfl⟩
 clear hK hP;have hval:zcg S am (.mk op n u den ps ks)=yqy (ykb S am op n den ps (ks.map (zcg S am))):=by rw [zcg,yra]
 rw [hval] at qr hno;have hsome:∀v,ykb S am op n den ps (ks.map (zcg S am))=some v->(-1000000000000<=v->v<=1000000000000->∀X,E.K (sI v) (MH c S inF st am++X))/\(¬(-1000000000000<=v/\v<=1000000000000)->∀X,E.KP zix (MH c S inF st am++X)):=fun v hv=>by
  rw [hv] at qr hno;exact ⟨fun h1 h2=>qr v (if_pos ⟨h1,h2⟩),fun h=>hno (if_neg h)⟩
 have hnone:ykb S am op n den ps (ks.map (zcg S am))=none->∀X,E.KP zix (MH c S inF st am++X):=fun hv=>by
  rw [hv] at hno;exact hno rfl
 clear qr hno hval;have hrows:=wg ks;have hlen:(zo ks).length=ks.length:=by rw [hrows];simp
 rw [show (Ex.mk op n u den ps ks).sv= .agg [sI op,sI n,sS u,sI den,.imm (.isl 3 (ps.map Piece.cells)),.imm (.isl 6 (zo ks))] from rfl];obtain ⟨hfew,hhas,hvals,_,hday⟩:=hS;rcases ztq hnode with ⟨rfl,rfl⟩|⟨rfl,rfl,hn0,hn1⟩|⟨rfl,rfl⟩|⟨rfl,rfl,hn1,hn4⟩|⟨hop1,hop2,hne⟩|⟨rfl,hne,hps,hpsz,hden⟩
 ·clear hk
  obtain ⟨qr,hno⟩:=hsome n rfl;(refine ze ?_;conv=>whnf)
  repeat' ((with_reducible refine way ?_ ?_)<;>(intro h;conv=>whnf))
  ·refine ql rfl rfl rfl rfl rfl (fun hb=>?_) (fun hb=>hno (fun x=>of_decide_eq_false hb x.2) _)
   (refine zc ?_;conv=>whnf);exact qr h (of_decide_eq_true hb) _
  ·refine ql (b:=false) rfl rfl rfl rfl rfl (fun hb=>by cases hb) (fun hb=>hno (fun x=>h x.1) _)
 ·clear hk
  have hr1:=zzc (l:=S.has) hn0 (by omega);have hr2:=yfw (l:=S.vals) hn0 (by omega);have hraw:ykb S am 2 n den ps (([]:List Ex).map (zcg S am))=if S.has.getD n.toNat false=true then some (S.vals.getD n.toNat 0) else none:=rfl
  rw [hraw] at hsome hnone;have hnn:n=(n.toNat:Int):=by omega
  generalize S.has.getD n.toNat false=hb at hr1 hsome hnone;generalize S.vals.getD n.toNat 0=v at hr2 hsome hnone;(refine ze ?_;conv=>whnf);refine yc mixed rfl ?_;(refine zf [44] ?_;conv=>whnf);refine yx (i:=n.toNat) (row:=[dB hb]) rfl hnn hr1 ?_;(refine zf [] ?_;conv=>whnf);refine zky rfl rfl rfl rfl rfl rfl rfl (yrp hb _) (fun e=>hnone (if_neg (fun h=>by rw [h] at e;cases e)) _) (fun r e=>?_);cases hb with
  |false=>cases e
  |true=>
  obtain rfl:=Option.some.inj e;obtain ⟨qr,hno⟩:=hsome v rfl;(refine zf [] ?_;conv=>whnf);(refine ze ?_;conv=>whnf);refine yc mixed rfl ?_;(refine zf [53] ?_;conv=>whnf);refine yx (i:=n.toNat) (row:=[dI v]) rfl hnn hr2 ?_;(refine zf [] ?_;conv=>whnf);(refine ze ?_;conv=>whnf)
  repeat' ((with_reducible refine way ?_ ?_)<;>(intro h;conv=>whnf))
  ·refine ql rfl rfl rfl rfl rfl (fun hb=>?_) (fun hb=>hno (fun x=>of_decide_eq_false hb x.2) _)
   (refine zc ?_;conv=>whnf);exact qr h (of_decide_eq_true hb) _
  ·refine ql (b:=false) rfl rfl rfl rfl rfl (fun hb=>by cases hb) (fun hb=>hno (fun x=>h x.1) _)
 ·clear hk
  have hraw:ykb S am 3 n den ps (([]:List Ex).map (zcg S am))=some ((yf n am).getD 0):=rfl;obtain ⟨qr,hno⟩:=hsome _ hraw;have hv:((yf n am).map sI).getD (jl (.int .i64 0))=sI ((yf n am).getD 0):=by cases yf n am<;>rfl
  generalize (yf n am).getD 0=v at qr hno hv;(refine ze ?_;conv=>whnf);refine yc mixed rfl ?_;(refine zf [63] ?_;conv=>whnf);refine ykz (l:=am) sI rfl rfl rfl rfl rfl rfl rfl rfl rfl hv ?_;(refine zf [] ?_;conv=>whnf);(refine ze ?_;conv=>whnf)
  repeat' ((with_reducible refine way ?_ ?_)<;>(intro h;conv=>whnf))
  ·refine ql rfl rfl rfl rfl rfl (fun hb=>?_) (fun hb=>hno (fun x=>of_decide_eq_false hb x.2) _)
   (refine zc ?_;conv=>whnf);exact qr h (of_decide_eq_true hb) _
  ·refine ql (b:=false) rfl rfl rfl rfl rfl (fun hb=>by cases hb) (fun hb=>hno (fun x=>h x.1) _)
 ·clear hk
  have hraw:ykb S am 4 n den ps (([]:List Ex).map (zcg S am))=some ((ymg S.day).getD (n-1).toNat 0):=rfl;have hdt:=yda G S.day hday.1 hday.2;obtain ⟨d0,d1,d2,d3,hd⟩:∃d0 d1 d2 d3,ymg S.day=[d0,d1,d2,d3]:=⟨_,_,_,_,rfl⟩;rw [hd] at hdt hraw;clear hd;obtain ⟨qr,hno⟩:=hsome _ hraw;clear hsome hnone hraw;rcases (show n=1\/n=2\/n=3\/n=4 by omega) with rfl|rfl|rfl|rfl
  all_goals
   (refine ze ?_;conv=>whnf);refine yc mixed rfl ?_;(refine zf [] ?_;conv=>whnf);refine ym rfl  hdt ?_;(refine zf [] ?_;conv=>whnf);(refine ze ?_;conv=>whnf)
  all_goals
   repeat' ((with_reducible refine way ?_ ?_)<;>(intro h;conv=>whnf))
   ·refine ql rfl rfl rfl rfl rfl (fun hb=>?_) (fun hb=>hno (fun x=>of_decide_eq_false hb x.2) _)
    (refine zc ?_;conv=>whnf);exact qr h (of_decide_eq_true hb) _
   ·refine ql (b:=false) rfl rfl rfl rfl rfl (fun hb=>by cases hb) (fun hb=>hno (fun x=>h x.1) _)
 ·obtain ⟨k0,kr,rfl⟩:∃k0 kr,ks=k0::kr:=by
   cases ks with
   |nil=>exact absurd rfl hne
   |cons a b=>exact ⟨a,b,rfl⟩
  have hk0:=hk k0 (List.mem_cons_self ..);have hkr:=fun k hkm=>hk k (List.mem_cons_of_mem k0 hkm)
  have h0:(zo (k0::kr))[0]?=some k0.cells:=by simp [zo]
  have htry:∀k∈k0::kr,SPre Tryz.prog G 107 [.ptr 0 0,k.sv] (MH c S inF st am) (fun r H1=>r= .tup [sI ((zcg S am k).getD 0),sB (zcg S am k).isSome]/\H1=MH c S inF st am):=fun k hkm=>yfu (by rfl) (jr c S inF st am) (hk k hkm)
  by_cases o67:op=6\/op=7
  ·have hcon:=zzb (jr c S inF st am) op n u den ps (k0::kr) (by omega) (zcg S am) htry
   have hraw:ykb S am op n den ps ((k0::kr).map (zcg S am))=yif (decide (op=7)) true ((k0::kr).map (zcg S am)):=by
    rcases o67 with rfl|rfl<;>rfl
   rw [hraw] at hsome hnone;generalize yif (decide (op=7)) true ((k0::kr).map (zcg S am))=res at hcon hsome hnone;clear hk hk0 hkr htry;rcases o67 with rfl|rfl
   all_goals
    (refine ze ?_;conv=>whnf);refine zqj rfl rfl rfl rfl rfl rfl (hcon _) (fun e=>hnone (by cases res with|none=>rfl|some v=>cases e) _) (fun r e=>?_);cases res with
    |none=>cases e
    |some v=>
    obtain rfl:=Option.some.inj e;obtain ⟨qr,hno⟩:=hsome v rfl;(refine zc ?_;conv=>whnf)
    repeat' ((with_reducible refine way ?_ ?_)<;>(intro h;conv=>whnf))
    ·refine ql rfl rfl rfl rfl rfl (fun hb=>?_) (fun hb=>hno (fun x=>of_decide_eq_false hb x.2) _)
     (refine zc ?_;conv=>whnf);exact qr h (of_decide_eq_true hb) _
    ·refine ql (b:=false) rfl rfl rfl rfl rfl (fun hb=>by cases hb) (fun hb=>hno (fun x=>h x.1) _)
  ·clear htry
   generalize hv0:zcg S am k0=w0 at hk0
   by_cases o5:op=5
   ·subst o5
    have hraw:ykb S am 5 n den ps ((k0::kr).map (zcg S am))=w0.map (fun v=>b2i (decide (v=0))):=by
     rw [List.map_cons,hv0];cases w0<;>rfl
    rw [hraw] at hsome hnone;(refine zm [777,86] 1000 ?_;conv=>whnf);refine zi (i:=0) (row:=k0.cells) rfl rfl h0 ?_;clear hraw;obtain ⟨xo,xn,xu,xd,xp,xk⟩:=k0;(refine zc ?_;conv=>whnf);refine zqj rfl rfl rfl rfl rfl rfl (hk0 _) (fun e=>hnone (by cases w0 with|none=>rfl|some v=>cases e) _) (fun r e=>?_);cases w0 with
    |none=>cases e
    |some v=>
    obtain rfl:=Option.some.inj e;obtain ⟨qr,hno⟩:=hsome (b2i (decide (v=0))) rfl;have htr:=zch G (decide (v=0));generalize b2i (decide (v=0))=z at htr qr hno;(refine zc ?_;conv=>whnf);refine zd rfl  htr ?_;(refine zc ?_;conv=>whnf)
    repeat' ((with_reducible refine way ?_ ?_)<;>(intro h;conv=>whnf))
    ·refine ql rfl rfl rfl rfl rfl (fun hb=>?_) (fun hb=>hno (fun x=>of_decide_eq_false hb x.2) _)
     (refine zc ?_;conv=>whnf);exact qr h (of_decide_eq_true hb) _
    ·refine ql (b:=false) rfl rfl rfl rfl rfl (fun hb=>by cases hb) (fun hb=>hno (fun x=>h x.1) _)
   ·have hraw:ykb S am op n den ps ((k0::kr).map (zcg S am))=w0.bind (fun v=>zpz op v (kr.map (zcg S am))):=by
     unfold ykb;rw [if_neg (by omega),if_neg (by omega),if_neg (by omega),if_neg (by omega),if_neg (by omega),if_neg (by omega),List.map_cons,hv0];cases w0 with
     |none=>rfl
     |some v=>
      simp only [Option.bind_some];rw [if_neg o5,if_neg (by omega)]
    rw [hraw] at hsome hnone;clear hraw;(refine ze ?_;conv=>whnf)
    repeat' ((with_reducible refine way ?_ ?_)<;>(intro h;conv=>whnf))
    all_goals try (exfalso;omega)
    refine zi (i:=0) (row:=k0.cells) rfl rfl h0 ?_;obtain ⟨xo,xn,xu,xd,xp,xk⟩:=k0;(refine zc ?_;conv=>whnf);refine zqj rfl rfl rfl rfl rfl rfl (hk0 _) (fun e=>hnone (by cases w0 with|none=>rfl|some v=>cases e) _) (fun r e=>?_);cases w0 with
    |none=>cases e
    |some v=>
    obtain rfl:=Option.some.inj e;have hsome:∀u,zpz op v (kr.map (zcg S am))=some u->_:=hsome;have hnone:zpz op v (kr.map (zcg S am))=none->_:=hnone;have hrows2:=wg kr;have hlen2:(zo kr).length=kr.length:=by rw [hrows2];simp
    have hkz:kr.length<=1000000:=by
     have:(Ex.mk xo xn xu xd xp xk::kr).length=kr.length+1:=rfl;omega
    (refine zj [777,18] 1000 ?_;conv=>whnf);refine zkp (m:=1) (rows:=zo (Ex.mk xo xn xu xd xp xk::kr)) rfl rfl rfl rfl rfl rfl rfl (by rw [hlen];simp) ?_;(refine zc ?_;conv=>whnf);have hu4:(MH c S inF st am++[SObj.cells [sI op,sI n,sS u,sI den,.imm (.isl 3 (ps.map Piece.cells)),.imm (.isl 6 (zo (Ex.mk xo xn xu xd xp xk::kr)))]]).all (SObj.under 4)=true:=by
     rw [List.all_append,zcd (m:=3) (n:=4) (by omega) (jr c S inF st am)];rfl
    clear hrows hlen hk h0 hk0 hez hksz he hv0 hnode;refine zg [0,3,5,18,19,20] ?_;change SW E _ [(0,.ptr 0 0),(3,.ptr 3 0),(5,sI v),(18,.imm (.isl 6 (zo kr))),(19,sI ((zo kr).length:Nat)),(20,sI (0:Nat))] (MH c S inF st am++[.cells [sI op,sI n,sS u,sI den,.imm (.isl 3 (ps.map Piece.cells)),.imm (.isl 6 (zo (Ex.mk xo xn xu xd xp xk::kr)))]]);generalize zo (Ex.mk xo xn xu xd xp xk::kr)=rows0 at hu4 ⊢;rw [hlen2];refine zp kr (fun i (a:Int)=>[(0,.ptr 0 0),(3,.ptr 3 0),(5,sI a),(18,.imm (.isl 6 (zo kr))),(19,sI (kr.length:Nat)),(20,sI (i:Nat))])
     (fun _ _=>MH c S inF st am++[.cells [sI op,sI n,sS u,sI den,.imm (.isl 3 (ps.map Piece.cells)),.imm (.isl 6 rows0)]])
     (fun done rest a=>zpz op v (kr.map (zcg S am))=zpz op a (rest.map (zcg S am))) v rfl ?_ ?_
    ·as_aux_lemma=>
      rintro a hb;obtain ⟨qr,hno⟩:=hsome a hb;(refine ze ?_;conv=>whnf)
      repeat' ((with_reducible refine way ?_ ?_)<;>(intro h;conv=>whnf))
      all_goals try (exfalso;omega)
      repeat' ((with_reducible refine way ?_ ?_)<;>(intro h;conv=>whnf))
      ·refine ql rfl rfl rfl rfl rfl (fun hb=>?_) (fun hb=>hno (fun x=>of_decide_eq_false hb x.2) _)
       (refine zc ?_;conv=>whnf);exact qr h (of_decide_eq_true hb) _
      ·refine ql (b:=false) rfl rfl rfl rfl rfl (fun hb=>by cases hb) (fun hb=>hno (fun x=>h x.1) _)
    ·as_aux_lemma=>
      rintro done x rest a hda hdl hb ih;have hw:=zk (n:=done.length) (by omega);have hrx:(zo kr)[done.length]?=some x.cells:=by rw [hrows2,hda];simp
      have hx:=hkr x (by rw [hda];simp);have hxr:=fun b (e:zcg S am x=some b)=>yil e
      have hb:zpz op v (kr.map (zcg S am))=zpz op a (zcg S am x::rest.map (zcg S am)):=hb;obtain ⟨yo,yn,yu,yd,yp,yk⟩:=x;generalize zcg S am (Ex.mk yo yn yu yd yp yk)=vx at hx hxr hb;(refine ze ?_;conv=>whnf)
      repeat' ((with_reducible refine way ?_ ?_)<;>(intro h;conv=>whnf))
      all_goals try (exfalso;omega)
      refine zi (i:=done.length) (row:=(Ex.mk yo yn yu yd yp yk).cells) rfl rfl hrx ?_;(refine zc ?_;conv=>whnf);refine yc mixed rfl ?_;(refine zf [] ?_;conv=>whnf);refine zky rfl rfl rfl rfl rfl rfl rfl (hx _) (fun e=>hnone (by rw [hb];cases vx with|none=>rfl|some v=>cases e) _) (fun r e=>?_);cases vx with
      |none=>cases e
      |some b=>
      obtain rfl:=Option.some.inj e;have hop:=zyy G op a b (hxr b rfl).1 (hxr b rfl).2;have hb:zpz op v (kr.map (zcg S am))=match zpy op a b with|some n=>zpz op n (rest.map (zcg S am))|none=>none:=hb
      generalize zpy op a b=z at hop hb;(refine zf [] ?_;conv=>whnf);refine zky rfl rfl rfl rfl rfl rfl rfl (hop _) (fun e=>hnone (by rw [hb];cases z with|none=>rfl|some v=>cases e) _) (fun r e=>?_);cases z with
      |none=>cases e
      |some q=>
      obtain rfl:=Option.some.inj e;(refine zf [] ?_;conv=>whnf);(refine ze ?_;conv=>whnf);rw [hw];exact yz [0,3,5,18,19,20] 4 (by rw [hH];show 3<=4;decide) (by show 4<=5;decide) rfl hu4 (ih q hb)
 ·obtain ⟨k0,kr,rfl⟩:∃k0 kr,ks=k0::kr:=by
   cases ks with
   |nil=>exact absurd rfl hne
   |cons a b=>exact ⟨a,b,rfl⟩
  obtain ⟨p0,pr,rfl⟩:∃p0 pr,ps=p0::pr:=by
   cases ps with
   |nil=>exact absurd rfl hps
   |cons a b=>exact ⟨a,b,rfl⟩
  have hk0:=hk k0 (List.mem_cons_self ..);have h0:(zo (k0::kr))[0]?=some k0.cells:=by simp [zo]
  clear hk;generalize hv0:zcg S am k0=w0 at hk0;have hraw:ykb S am 18 n den (p0::pr) ((k0::kr).map (zcg S am))=w0.map (fun v=>ywj den (p0::pr) (mxA v 0)):=by
   rw [List.map_cons,hv0];cases w0<;>rfl
  rw [hraw] at hsome hnone;have htab:=fun x=>zza G den p0 pr x hden (by simp at hpsz;omega)
  generalize hpp:p0::pr=pp at hsome hnone htab;(refine ze ?_;conv=>whnf);refine yc mixed rfl ?_;(refine zf [98] ?_;conv=>whnf);refine yx (i:=0) (row:=k0.cells) rfl rfl h0 ?_;obtain ⟨xo,xn,xu,xd,xp,xk⟩:=k0;(refine zf [] ?_;conv=>whnf);refine zky rfl rfl rfl rfl rfl rfl rfl (hk0 _) (fun e=>hnone (by cases w0 with|none=>rfl|some v=>cases e) _) (fun r e=>?_);cases w0 with
  |none=>cases e
  |some v=>
  obtain rfl:=Option.some.inj e;obtain ⟨qr,hno⟩:=hsome (ywj den pp (mxA v 0)) rfl;have htab:=htab (mxA v 0);generalize ywj den pp (mxA v 0)=z at htab qr hno;unfold mxA at htab;(refine zf [] ?_;conv=>whnf);refine ym rfl  htab ?_;(refine zf [] ?_;conv=>whnf);(refine ze ?_;conv=>whnf)
  repeat' ((with_reducible refine way ?_ ?_)<;>(intro h;conv=>whnf))
  ·refine ql rfl rfl rfl rfl rfl (fun hb=>?_) (fun hb=>hno (fun x=>of_decide_eq_false hb x.2) _)
   (refine zc ?_;conv=>whnf);exact qr h (of_decide_eq_true hb) _
  ·refine ql (b:=false) rfl rfl rfl rfl rfl (fun hb=>by cases hb) (fun hb=>hno (fun x=>h x.1) _)
variable (G:List (Nat × D))
theorem yin (used:List Bool) (i:Nat) (hi:i<used.length):∃d z r,used.map sB=d++z::r/\d.length=i/\(used.set i true).map sB=d++sB true::r:=by
 refine ⟨(used.take i).map sB,sB used[i],(used.drop (i+1)).map sB,?_,by simp;omega,?_⟩
 ·rw [<-List.map_cons, <-List.drop_eq_getElem_cons hi, <-List.map_append,List.take_append_drop]
 ·rw [List.set_eq_take_append_cons_drop,if_pos hi]
  simp
theorem ymu {c:Codex} {m:List (Int × Int)} (N:Nat):∀(e:Ex),SizeOf.sizeOf e<N->zyh c m e->zbq e<=1000000->∀used:List Bool,used.length=c.facts.length->
  SPre Tryz.prog G 109 [e.sv,.osl 0 0 used.length] (bH used) (fun r H'=>r= .tup []/\H'=bH (zav e used)):=by
 induction N with
 |zero=>intro e h;omega
 |succ N IH=>
 intro e he ha hez used hul;obtain ⟨op,n,u,den,ps,ks⟩:=e;simp only [Ex.mk.sizeOf_spec] at he;unfold zyh at ha;obtain ⟨hnode,hkids⟩:=ha;unfold zbq at hez;have hksz:=zjm ks;have hrows:=wg ks;have hlen:(zo ks).length=ks.length:=by rw [hrows];simp
 have hk:∀k∈ks,∀us:List Bool,us.length=c.facts.length->SPre Tryz.prog G 109 [k.sv,.osl 0 0 us.length] (bH us) (fun r H'=>r= .tup []/\H'=bH (zav k us)):=fun k hkm us hus=>by
  have h1:=List.sizeOf_lt_of_mem hkm;have h2:=zpw hkm;exact IH k (by omega) (zpx hkids k hkm) (by omega) us hus
 clear IH;refine xc Tryz.func109 rfl (by rw [Tryz.ntmps109];simp) rfl (zkw used) ?_;intro E hH hK;have fin:∀us X,zav (.mk op n u den ps ks) used=us->E.K (.tup []) (bH us++X):=fun us X e=>hK _ _ (by simp [bH]) rfl (zkw us) ⟨rfl,by rw [e];rfl⟩
 clear hK;rw [show (Ex.mk op n u den ps ks).sv= .agg [sI op,sI n,sS u,sI den,.imm (.isl 3 (ps.map Piece.cells)),.imm (.isl 6 (zo ks))] from rfl]
 by_cases h2:op=2
 ·subst h2
  have hn:0<=n/\n<c.facts.length:=by
   rcases ztq hnode with ⟨h,_⟩|⟨_,_,h⟩|⟨h,_⟩|⟨h,_⟩|⟨h,_⟩|⟨h,_⟩<;>omega
  obtain ⟨d,z,r,e1,e2,e3⟩:=yin used n.toNat (by omega);have hnn:n=(n.toNat:Int):=by omega
  (refine zm [777,12] 1000 ?_;conv=>whnf);refine zah (i:=n.toNat) rfl rfl rfl rfl rfl rfl rfl hnn (by omega) ?_;have hb0:(bH used++[.cells [sI 2,sI n,sS u,sI den,.imm (.isl 3 (ps.map Piece.cells)),.imm (.isl 6 (zo ks))]])[0]?=some (.cells (d++z::r)):=by rw [<-e1];rfl
  refine zba (b:=0) (off:=0+n.toNat*1) (v:=sB true) (d:=d) (zz:=z) (r:=r) rfl rfl rfl rfl rfl rfl rfl rfl hb0 (by omega) ?_;rw [<-e3];(refine zc ?_;conv=>whnf);have hmk:zav (.mk 2 n u den ps ks) used=ks.foldl (fun w e=>zav e w) (used.set n.toNat true):=by rw [zav,if_pos rfl,zqf]
  have hus:(used.set n.toNat true).length=c.facts.length:=by simp;omega
  refine zg [1,14,15,16] ?_;change SW E _ [(1,.osl 0 0 used.length),(14,.imm (.isl 6 (zo ks))),(15,sI ((zo ks).length:Nat)),(16,sI (0:Nat))] (bH (used.set n.toNat true)++[.cells [sI 2,sI n,sS u,sI den,.imm (.isl 3 (ps.map Piece.cells)),.imm (.isl 6 (zo ks))]]);generalize used.set n.toNat true=us at hmk hus;rw [hlen];clear hn e1 e2 e3 hnn hnode;refine zp ks (fun i (_:List Bool)=>[(1,.osl 0 0 used.length),(14,.imm (.isl 6 (zo ks))),(15,sI (ks.length:Nat)),(16,sI (i:Nat))]) (fun _ w=>bH w++[.cells [sI 2,sI n,sS u,sI den,.imm (.isl 3 (ps.map Piece.cells)),.imm (.isl 6 (zo ks))]])
   (fun done rest w=>w.length=c.facts.length/\zav (.mk 2 n u den ps ks) used=rest.foldl (fun w e=>zav e w) w) us ⟨hus,hmk⟩ ?_ ?_
  ·rintro w ⟨hwl,hw⟩
   (refine ze ?_;conv=>whnf)
   repeat' ((with_reducible refine way ?_ ?_)<;>(intro h;conv=>whnf))
   all_goals try (exfalso;omega)
   exact fin w _ hw
  ·rintro done x rest w hda hdl ⟨hwl,hw⟩ ih
   have hwn:=zk (n:=done.length) (by omega);have hrx:(zo ks)[done.length]?=some x.cells:=by rw [hrows,hda];simp
   have hx:=hk x (by rw [hda];simp) w hwl;rw [show w.length=used.length by omega] at hx;have hln:(zav x w).length=c.facts.length:=by rw [(zfc _).1 x (Nat.lt_succ_self _) w];exact hwl
   have ih:=ih (zav x w) ⟨hln,hw⟩;have hu2:(bH (zav x w)++[SObj.cells [sI 2,sI n,sS u,sI den,.imm (.isl 3 (ps.map Piece.cells)),.imm (.isl 6 (zo ks))]]).all (SObj.under 2)=true:=by
    rw [List.all_append,zcd (m:=1) (n:=2) (by omega) (zkw _)];rfl
   obtain ⟨xo,xn,xu,xd,xp,xk⟩:=x;(refine ze ?_;conv=>whnf)
   repeat' ((with_reducible refine way ?_ ?_)<;>(intro h;conv=>whnf))
   all_goals try (exfalso;omega)
   refine zi (i:=done.length) (row:=(Ex.mk xo xn xu xd xp xk).cells) rfl rfl hrx ?_;(refine zc ?_;conv=>whnf);refine zbn 1 rfl rfl rfl rfl rfl rfl hx ?_;rintro r9 H9 ⟨rfl,rfl⟩ _;(refine zc ?_;conv=>whnf);rw [hwn];exact yz [1,14,15,16] 2 (by rw [hH];show 1<=2;decide) (by show 2<=3;decide) rfl hu2 ih
 ·(refine ze ?_;conv=>whnf)
  repeat' ((with_reducible refine way ?_ ?_)<;>(intro h;conv=>whnf))
  ·contradiction
  have hmk:zav (.mk op n u den ps ks) used=ks.foldl (fun w e=>zav e w) used:=by rw [zav,if_neg h2,zqf]
  refine zg [1,14,15,16] ?_;change SW E _ [(1,.osl 0 0 used.length),(14,.imm (.isl 6 (zo ks))),(15,sI ((zo ks).length:Nat)),(16,sI (0:Nat))] (bH used++[.cells [sI op,sI n,sS u,sI den,.imm (.isl 3 (ps.map Piece.cells)),.imm (.isl 6 (zo ks))]]);have hus:=hul;rw [hlen];refine zp ks (fun i (_:List Bool)=>[(1,.osl 0 0 used.length),(14,.imm (.isl 6 (zo ks))),(15,sI (ks.length:Nat)),(16,sI (i:Nat))]) (fun _ w=>bH w++[.cells [sI op,sI n,sS u,sI den,.imm (.isl 3 (ps.map Piece.cells)),.imm (.isl 6 (zo ks))]])
   (fun done rest w=>w.length=c.facts.length/\zav (.mk op n u den ps ks) used=rest.foldl (fun w e=>zav e w) w) used ⟨hus,hmk⟩ ?_ ?_
  ·rintro w ⟨hwl,hw⟩
   (refine ze ?_;conv=>whnf)
   repeat' ((with_reducible refine way ?_ ?_)<;>(intro h;conv=>whnf))
   all_goals try (exfalso;omega)
   exact fin w _ hw
  ·rintro done x rest w hda hdl ⟨hwl,hw⟩ ih
   have hwn:=zk (n:=done.length) (by omega);have hrx:(zo ks)[done.length]?=some x.cells:=by rw [hrows,hda];simp
   have hx:=hk x (by rw [hda];simp) w hwl;rw [show w.length=used.length by omega] at hx;have hln:(zav x w).length=c.facts.length:=by rw [(zfc _).1 x (Nat.lt_succ_self _) w];exact hwl
   have ih:=ih (zav x w) ⟨hln,hw⟩;have hu2:(bH (zav x w)++[SObj.cells [sI op,sI n,sS u,sI den,.imm (.isl 3 (ps.map Piece.cells)),.imm (.isl 6 (zo ks))]]).all (SObj.under 2)=true:=by
    rw [List.all_append,zcd (m:=1) (n:=2) (by omega) (zkw _)];rfl
   obtain ⟨xo,xn,xu,xd,xp,xk⟩:=x;(refine ze ?_;conv=>whnf)
   repeat' ((with_reducible refine way ?_ ?_)<;>(intro h;conv=>whnf))
   all_goals try (exfalso;omega)
   refine zi (i:=done.length) (row:=(Ex.mk xo xn xu xd xp xk).cells) rfl rfl hrx ?_;(refine zc ?_;conv=>whnf);refine zbn 1 rfl rfl rfl rfl rfl rfl hx ?_;rintro r9 H9 ⟨rfl,rfl⟩ _;(refine zc ?_;conv=>whnf);rw [hwn];exact yz [1,14,15,16] 2 (by rw [hH];show 1<=2;decide) (by show 2<=3;decide) rfl hu2 ih
def NMh (c:Codex) (day:Int) (A B C:List SV):List SObj:=
 [zbx c,.mapI .i64 (jo sI []),.mapI .i64 (jo sI []),.cells [.imm (zx c.facts),.imm (zx c.lines),.imm (wm c.arts),sI day,.osl 4 0 c.facts.length,.osl 5 0 c.facts.length,.osl 6 0 c.facts.length,zjq,.map 1,.map 2],.cells A,.cells B,.cells C]
theorem zfv (N:Nat) (l:List Bool):SV.under.allUnder N (l.map sB)=true:=by
 induction l with
 |nil=>rfl
 |cons a r ih=>simpa [SV.under.allUnder,SV.under] using ih
theorem ymv (N:Nat) (l:List SV) (h:∀x∈l,x.under N=true):SV.under.allUnder N l=true:=by
 induction l with
 |nil=>rfl
 |cons a r ih=>
  simp only [SV.under.allUnder,Bool.and_eq_true];exact ⟨h a (by simp),ih fun x hx=>h x (by simp [hx])⟩
theorem zqm {c:Codex} {day:Int} {A B C:List SV} {N:Nat} (hN:7<=N) (hA:SV.under.allUnder N A=true) (hB:SV.under.allUnder N B=true) (hC:SV.under.allUnder N C=true):(NMh c day A B C).all (SObj.under N)=true:=by
 have e1:SObj.under N (.cells A)=true:=hA;have e2:SObj.under N (.cells B)=true:=hB;have e3:SObj.under N (.cells C)=true:=hC;have e4:SObj.under N (.cells [.imm (zx c.facts),.imm (zx c.lines),.imm (wm c.arts),sI day,.osl 4 0 c.facts.length,.osl 5 0 c.facts.length,.osl 6 0 c.facts.length,zjq,.map 1,.map 2])=true:=by
  simp [SObj.under,SV.under.allUnder,SV.under];omega
 simp only [NMh,List.all_cons,List.all_nil,e1,e2,e3,e4,zma];rfl
def zca (d:List Bool) (m:Nat):List SV:=d.map sB++List.replicate m (sB false)
def wz (d:List Int) (m:Nat):List SV:=d.map sI++List.replicate m (sI 0)
theorem zqn (N:Nat) (d:List Bool) (m:Nat):SV.under.allUnder N (zca d m)=true:=ymv N _ fun x hx=>by
 rcases List.mem_append.1 hx with h|h
 ·obtain ⟨b,_,rfl⟩:=List.mem_map.1 h;rfl
 ·rw [(List.mem_replicate.1 h).2];rfl
theorem zfw (N:Nat) (d:List Int) (m:Nat):SV.under.allUnder N (wz d m)=true:=ymv N _ fun x hx=>by
 rcases List.mem_append.1 hx with h|h
 ·obtain ⟨b,_,rfl⟩:=List.mem_map.1 h;rfl
 ·rw [(List.mem_replicate.1 h).2];rfl
theorem zap (d:List Bool) (b:Bool) (m:Nat):zca (d++[b]) m=d.map sB++sB b::List.replicate m (sB false):=by simp [zca]
theorem xr (d:List Int) (b:Int) (m:Nat):wz (d++[b]) m=d.map sI++sI b::List.replicate m (sI 0):=by simp [wz]
theorem yio (d:List Bool) (m:Nat):zca d (m+1)=zca (d++[false]) m:=by rw [zap,zca,List.replicate_succ]
theorem ztr (d:List Int) (m:Nat):wz d (m+1)=wz (d++[0]) m:=by rw [xr,wz,List.replicate_succ]
def yfx (c:Codex) (S:AM) (inF:List Int):List SV:=[.imm (zx c.facts),.imm (zx c.lines),.imm (wm c.arts),sI S.day,.imm (zag S.has),.imm (yh S.vals),.imm (yh S.nums),.imm (yh inF),.map 1,.map 2]
theorem yip {c:Codex} {day known:Int} {m:List (Int × Int)} {n:Nat} {x:Article × Nat} (h:∀k v,yf k m=some v->0<=v/\v<n) (hx:x.2=n):∀k v,yf k (zay c day known m x)=some v->0<=v/\v<(n+1:Nat):=by
 have h1:∀k v,yf k m=some v->0<=v/\v<(n+1:Nat):=fun k v hk=>by have:=h k v hk;omega
 have h2:∀k v,yf k (zcz x.1.number (x.2:Int) m)=some v->0<=v/\v<(n+1:Nat):=fun k v hk=>by
  rw [zls] at hk;split at hk
  ·cases hk
   omega
  ·exact h1 k v hk
 intro k v hk;unfold zay at hk;split at hk
 ·exact h1 k v hk
 ·split at hk
  ·exact h2 k v hk
  ·split at hk
   ·split at hk
    ·exact h2 k v hk
    ·exact h1 k v hk
   ·exact h1 k v hk
def NVh (c:Codex) (day:Int) (A B C:List SV) (o7:SObj) (vs:List Int):List SObj:=
 [zbx c,.mapI .i64 (jo sI []),.mapI .i64 (jo sI []),.cells [.imm (zx c.facts),.imm (zx c.lines),.imm (wm c.arts),sI day,.osl 4 0 c.facts.length,.osl 5 0 c.facts.length,.osl 6 0 c.facts.length,.vec 8 vs.length,.map 1,.map 2],.cells A,.cells B,.cells C,o7,.vec 1 (vs.map sI)]
def unS:SV->Int
 | .imm (.val (.int _ n))=>n
 |_=>0
theorem zzd (k v:Int):∀m:List (Int × Int),(zcz k v m).length<=m.length+1
 |[]=>by simp [zcz]
 |p::r=>by
  obtain ⟨q,w⟩:=p;rw [zcz];split
  ·simp
  ·have:=zzd k v r
   simp;omega
theorem yfy (c:Codex) (day known:Int) (m:List (Int × Int)) (x:Article × Nat):(zay c day known m x).length<=m.length+1:=by
 have:=zzd x.1.number (x.2:Int) m;unfold zay;split
 ·omega
 ·split
  ·exact this
  ·split
   ·split
    ·exact this
    ·omega
   ·omega
theorem zod (l:List Int):(l.map sI).all SV.one=true:=by
 induction l with
 |nil=>rfl
 |cons a r ih=>rw [List.map_cons,List.all_cons,ih];rfl
theorem ymw (l:List Bool):(l.map sB).all SV.one=true:=by
 induction l with
 |nil=>rfl
 |cons a r ih=>rw [List.map_cons,List.all_cons,ih];rfl
theorem zoe (l:List Int):(l.map sI).mapM SV.toD=some (l.map dI):=by
 have:=zkf (l.map dI)
 rwa [List.map_map] at this
theorem ymx (l:List Bool):(l.map sB).mapM SV.toD=some (l.map dB):=by
 have:=zkf (l.map dB)
 rwa [List.map_map] at this
theorem zfx (l:List Int):qo 1 (l.map dI) l.length=l.map fun n=>[dI n]:=by
 have:=zhv (l.map dI);rw [List.length_map,List.map_map] at this;exact this
theorem zze (l:List Bool):qo 1 (l.map dB) l.length=l.map fun n=>[dB n]:=by
 have:=zhv (l.map dB);rw [List.length_map,List.map_map] at this;exact this
theorem zmb (b n:Nat) (d:D) (l:List Int):SV.shut.shutL b n d (l.map sI)=l.map sI:=by
 induction l with
 |nil=>rfl
 |cons a r ih=>rw [List.map_cons,SV.shut.shutL,ih];rfl
theorem zzf {fn:Func} {rd:Bool} {E:En Tryz.prog G fn rd} {k:List Item} (c:Codex) (S:AM) (inF:List Int) (hE:E.H.length=0) (hh:S.has.length=c.facts.length) (hv:S.vals.length=c.facts.length) (hn:S.nums.length=c.facts.length)
  (h:SW E k [(11,.ptr 3 0)] [zbx c,.mapI .i64 (jo sI []),.mapI .i64 (jo sI []),.cells (yfx c S inF),.dead,.dead,.dead]):
  SW E k [(11,.ptr 3 0)] (NVh c S.day (S.has.map sB) (S.vals.map sI) (S.nums.map sI) .dead inF):=by
 refine zai 3 7 8 inF.length 1 (cs0:=[.imm (zx c.facts),.imm (zx c.lines),.imm (wm c.arts),sI S.day,.osl 4 0 c.facts.length,.osl 5 0 c.facts.length,.osl 6 0 c.facts.length,.vec 8 inF.length,.map 1,.map 2]) (cs:=inF.map sI) (ds:=inF.map dI) rfl rfl rfl (zod inF) (zoe inF) (by simp) (Nat.le_refl 1) ?_;rw [zfx];refine zsu 7 (by rw [hE];exact Nat.zero_le 7) (by show 7<=9;decide) rfl ?_ ?_
 ·have e1:SObj.under 7 (.cells (S.has.map sB))=true:=zfv 7 _
  have e2:SObj.under 7 (.cells (S.vals.map sI))=true:=jw 7 _;have e3:SObj.under 7 (.cells (S.nums.map sI))=true:=jw 7 _;show (true&&(true&&(true&&(true&&(SObj.under 7 (.cells (S.has.map sB))&&(SObj.under 7 (.cells (S.vals.map sI))&&(SObj.under 7 (.cells (S.nums.map sI))&&true)))))))=true;rw [e1,e2,e3];rfl
 refine zki 4 c.facts.length 1 (cs:=S.has.map sB) (junk:=[]) (ds:=S.has.map dB) (t':=[(11,.ptr 3 0)])
  (H':=[zbx c,.mapI .i64 (jo sI []),.mapI .i64 (jo sI []),.cells [.imm (zx c.facts),.imm (zx c.lines),.imm (wm c.arts),sI S.day,.imm (zag S.has),.osl 5 0 c.facts.length,.osl 6 0 c.facts.length,.imm (yh inF),.map 1,.map 2],.dead,.cells (S.vals.map sI),.cells (S.nums.map sI)])
  (by rw [List.append_nil];rfl) (ymw _) (ymx _) (by simp [hh]) rfl ?_ ?_
 ·rw [<-hh,zze]
  show _=[zbx c,.mapI .i64 (jo sI []),.mapI .i64 (jo sI []),.cells [.imm (zx c.facts),.imm (zx c.lines),.imm (wm c.arts),sI S.day,.imm (zag S.has),.osl 5 0 S.has.length,.osl 6 0 S.has.length,.imm (yh inF),.map 1,.map 2],.dead,.cells (S.vals.map sI),.cells (S.nums.map sI)]
  conv=>rhs;rw [<-zmb 4 S.has.length (.isl 1 (S.has.map fun n=>[dB n])) S.vals, <-zmb 4 S.has.length (.isl 1 (S.has.map fun n=>[dB n])) S.nums]
  simp [NVh,SObj.shut,SV.shut,SV.shut.shutL,zbx,hh,zag,yh,jo]
 refine zki 5 c.facts.length 1 (cs:=S.vals.map sI) (junk:=[]) (ds:=S.vals.map dI) (t':=[(11,.ptr 3 0)])
  (H':=[zbx c,.mapI .i64 (jo sI []),.mapI .i64 (jo sI []),.cells [.imm (zx c.facts),.imm (zx c.lines),.imm (wm c.arts),sI S.day,.imm (zag S.has),.imm (yh S.vals),.osl 6 0 c.facts.length,.imm (yh inF),.map 1,.map 2],.dead,.dead,.cells (S.nums.map sI)])
  (by rw [List.append_nil];rfl) (zod _) (zoe _) (by simp [hv]) rfl ?_ ?_
 ·rw [<-hv,zfx]
  simp [SObj.shut,SV.shut,SV.shut.shutL,zbx,zmb,zag,yh,jo]
 refine zki 6 c.facts.length 1 (cs:=S.nums.map sI) (junk:=[]) (ds:=S.nums.map dI) (t':=[(11,.ptr 3 0)]) (H':=_)
  (by rw [List.append_nil];rfl) (zod _) (zoe _) (by simp [hn]) rfl ?_ h
 rw [<-hn,zfx];simp [SObj.shut,SV.shut,SV.shut.shutL,zbx,zag,yh,jo,yfx]
theorem zqo (c : Codex) (l : List Fact) (person : ByteArray) (day known : Int) (hf : c.facts.length <= 1000) (hl : l.length <= 1000000) (hz : c.arts.length <= 1000) :
    SCall Tryz.prog G 67 [c.sv, .imm (jd l), sS person, sI day, sI known] [] (fun r H' => r = .ptr 3 0 /\ H' = [zbx c, .mapI .i64 (jo sI []), .mapI .i64 (jo sI []), .cells (yfx c (zbr c l person day known) (inA c day known)), .dead, .dead, .dead]) := by
  have hfl : (c.facts.map Decl.cells).length = c.facts.length := by simp
  have hll : (l.map Fact.cells).length = l.length := by simp
  have hal : (c.arts.map Article.cells).length = c.arts.length := by simp
  rw [show c.sv = .agg [.imm (zx c.facts), .imm (zx c.lines), .imm (wm c.arts)] from rfl]
  refine ya Tryz.func67 rfl (by rw [Tryz.ntmps67]; simp) ?_
  intro E hH hK
  (refine ze ?_; conv => whnf)
  refine zms (n := c.facts.length) (zz := sB false) rfl rfl rfl rfl rfl rfl rfl rfl rfl ⟨by decide, rfl⟩ rfl (by rw [<- hfl]) (by rw [<- hfl]) (by omega) ?_
  (refine zc ?_; conv => whnf)
  refine zms (n := c.facts.length) (zz := sI 0) rfl rfl rfl rfl rfl rfl rfl rfl rfl ⟨by decide, rfl⟩ rfl (by rw [<- hfl]) (by rw [<- hfl]) (by omega) ?_
  (refine zc ?_; conv => whnf)
  refine zms (n := c.facts.length) (zz := sI 0) rfl rfl rfl rfl rfl rfl rfl rfl rfl ⟨by decide, rfl⟩ rfl (by rw [<- hfl]) (by rw [<- hfl]) (by omega) ?_
  (refine zc ?_; conv => whnf)
  refine zg [1, 2, 3, 4, 5, 11, 51, 52, 53] ?_
  change SW E _ [(1, .imm (jd l)), (2, sS person), (3, sI day), (4, sI known), (5, .ptr 0 0), (11, .ptr 3 0), (51, .imm (zx c.facts)), (52, sI ((c.facts.map Decl.cells).length : Nat)), (53, sI (0 : Nat))] (NMh c day (zca [] c.facts.length) (wz [] c.facts.length) (wz [] c.facts.length))
  rw [hfl]
  have hfa : ∀ d : List Decl, (d.map fun x => (zhe l person day known x).1).length = d.length := fun d => by simp
  have hfv : ∀ d : List Decl, (d.map fun x => (zhe l person day known x).2.1).length = d.length := fun d => by simp
  have hfn : ∀ d : List Decl, (d.map fun x => (zhe l person day known x).2.2).length = d.length := fun d => by simp
  refine zp c.facts (fun i (_ : Unit) => [(1, .imm (jd l)), (2, sS person), (3, sI day), (4, sI known), (5, .ptr 0 0), (11, .ptr 3 0), (51, .imm (zx c.facts)), (52, sI (c.facts.length : Nat)), (53, sI (i : Nat))])
    (fun i _ => NMh c day (zca ((c.facts.take i).map fun x => (zhe l person day known x).1) (c.facts.length - i)) (wz ((c.facts.take i).map fun x => (zhe l person day known x).2.1) (c.facts.length - i)) (wz ((c.facts.take i).map fun x => (zhe l person day known x).2.2) (c.facts.length - i)))
    (fun done rest _ => True) () trivial ?_ ?_
  · rintro _ _
    rw [List.take_length, Nat.sub_self]
    have e1 : zca (c.facts.map fun x => (zhe l person day known x).1) 0 = (zbr c l person day known).has.map sB := by simp [zca, zbr]
    have e2 : wz (c.facts.map fun x => (zhe l person day known x).2.1) 0 = (zbr c l person day known).vals.map sI := by simp [wz, zbr]
    have e3 : wz (c.facts.map fun x => (zhe l person day known x).2.2) 0 = (zbr c l person day known).nums.map sI := by simp [wz, zbr]
    rw [e1, e2, e3]
    clear e1 e2 e3 hfa hfv hfn
    have hh : (zbr c l person day known).has.length = c.facts.length := by simp [zbr]
    have hv : (zbr c l person day known).vals.length = c.facts.length := by simp [zbr]
    have hn : (zbr c l person day known).nums.length = c.facts.length := by simp [zbr]
    have hd : (zbr c l person day known).day = day := rfl
    generalize zbr c l person day known = S at hh hv hn hd hK
    change SW E _ [(1, .imm (jd l)), (2, sS person), (3, sI day), (4, sI known), (5, .ptr 0 0), (11, .ptr 3 0), (51, .imm (zx c.facts)), (52, sI (c.facts.length : Nat)), (53, sI (c.facts.length : Nat))] _
    (refine ze ?_; conv => whnf)
    repeat' ((with_reducible refine way ?_ ?_) <;> (intro h; conv => whnf))
    all_goals try (exfalso; omega)
    refine zg [3, 4, 5, 11, 16, 137, 138, 139] ?_
    change SW E _ [(3, sI day), (4, sI known), (5, .ptr 0 0), (11, .ptr 3 0), (16, .map 7), (137, .imm (wm c.arts)), (138, sI ((c.arts.map Article.cells).length : Nat)), (139, sI (0 : Nat))] (NMh c day (S.has.map sB) (S.vals.map sI) (S.nums.map sI) ++ [.mapI .i64 (jo sI [])])
    rw [hal]
    refine zp c.arts (fun i (_ : List (Int × Int)) => [(3, sI day), (4, sI known), (5, .ptr 0 0), (11, .ptr 3 0), (16, .map 7), (137, .imm (wm c.arts)), (138, sI (c.arts.length : Nat)), (139, sI (i : Nat))])
      (fun _ m => NMh c day (S.has.map sB) (S.vals.map sI) (S.nums.map sI) ++ [.mapI .i64 (jo sI m)])
      (fun done rest m => yrb c day known = (rest.zipIdx done.length).foldl (zay c day known) m /\ (∀ k v, yf k m = some v -> 0 <= v /\ v < done.length) /\ m.length <= done.length) [] ⟨rfl, (fun k v h => by cases h), Nat.le_refl 0⟩ ?_ ?_
    · rintro m ⟨hm, _, hml⟩
      have hm : yrb c day known = m := hm
      have hin : inA c day known = zbz (m.map (·.2)) := by unfold inA; rw [hm]
      rw [hin] at hK
      clear hin hm
      change SW E _ [(3, sI day), (4, sI known), (5, .ptr 0 0), (11, .ptr 3 0), (16, .map 7), (137, .imm (wm c.arts)), (138, sI (c.arts.length : Nat)), (139, sI (c.arts.length : Nat))] (NMh c day (S.has.map sB) (S.vals.map sI) (S.nums.map sI) ++ [.mapI .i64 (jo sI m)])
      refine zlu 3 7 1 (cs := [.imm (zx c.facts), .imm (zx c.lines), .imm (wm c.arts), sI day, .osl 4 0 c.facts.length, .osl 5 0 c.facts.length, .osl 6 0 c.facts.length, zjq, .map 1, .map 2]) rfl rfl ?_
      refine ywz (b := 7) (es := jo sI m) rfl ?_
      intro es' clock hes hst
      (refine zm [777, 186] 1000 ?_; conv => whnf)
      repeat' ((with_reducible refine way ?_ ?_) <;> (intro h; conv => whnf))
      all_goals try (exfalso; omega)
      refine ylp rfl rfl rfl rfl rfl rfl ?_
      (refine zc ?_; conv => whnf)
      refine zg [11, 186] ?_
      change SW E _ [(11, .ptr 3 0), (186, .ptr 9 0)] (NVh c day (S.has.map sB) (S.vals.map sI) (S.nums.map sI) (.pin .i64 es' clock) [] ++ [.iter 7 clock [] clock])
      have hes2 : es'.map (·.2.2) = (m.map (·.2)).map sI := by
        have : es'.map (·.2.2) = (es'.map (·.2)).map (·.2) := by rw [List.map_map]; rfl
        rw [this, hes]
        simp [jo]
      have hval : ∀ x ∈ es', ∃ v, x.2.2 = sI v := fun x hx => by
        have h1 : x.2.2 ∈ es'.map (·.2.2) := List.mem_map.2 ⟨x, hx, rfl⟩
        rw [hes2] at h1
        obtain ⟨v, _, hv⟩ := List.mem_map.1 h1
        exact ⟨v, hv.symm⟩
      have hel : es'.length = m.length := by
        have := congrArg List.length hes2
        simpa using this
      refine yy (σ := List Nat × List Int) (fun _ => [(11, .ptr 3 0), (186, .ptr 9 0)]) (fun x => NVh c day (S.has.map sB) (S.vals.map sI) (S.nums.map sI) (.pin .i64 es' clock) x.2 ++ [.iter 7 clock x.1 clock])
        (fun x => (x.2.map sI ++ (zdl es' x.1).map (·.2.2)).Perm (es'.map (·.2.2))) (fun x => (zdl es' x.1).length) ?_ ([], []) (by simp [ylq])
      rintro ⟨seen, vs⟩ hp ih2
      simp only at hp ih2
      have hvl : vs.length <= 1000 := by
        have := hp.length_eq
        simp only [List.length_append, List.length_map] at this
        omega
      change SW E _ [(11, .ptr 3 0), (186, .ptr 9 0)] (NVh c day (S.has.map sB) (S.vals.map sI) (S.nums.map sI) (.pin .i64 es' clock) vs ++ [.iter 7 clock seen clock])
      (refine ze ?_; conv => whnf)
      refine yqq rfl rfl rfl rfl rfl rfl hst (Nat.le_refl _) (fun h0 => ?_) (fun e he => ?_)
      · rw [h0, List.map_nil, List.append_nil, hes2] at hp
        have hp2 : vs.Perm (m.map (·.2)) := by
          have := hp.map unS
          rwa [List.map_map, List.map_map, show (unS ∘ sI) = id from rfl, List.map_id, List.map_id] at this
        have hso := ymp hp2
        refine yw (t' := [(187, .tup [.imm (.val (.bool false))]), (11, .ptr 3 0)]) (H' := NVh c day (S.has.map sB) (S.vals.map sI) (S.nums.map sI) .dead vs) (fun k h => zg [187, 11] (by
          refine yuh 7 ?_
          refine zsu 9 (by rw [hH]; exact Nat.zero_le 9) (by show 9 <= 10; decide) rfl ?_ ?_
          · have e1 : SObj.under 9 (.cells (S.has.map sB)) = true := zfv 9 _
            have e2 : SObj.under 9 (.cells (S.vals.map sI)) = true := jw 9 _
            have e3 : SObj.under 9 (.cells (S.nums.map sI)) = true := jw 9 _
            have e4 : SObj.under 9 (.vec 1 (vs.map sI)) = true := jw 9 _
            show (true && (true && (true && (true && (SObj.under 9 (.cells (S.has.map sB)) && (SObj.under 9 (.cells (S.vals.map sI)) && (SObj.under 9 (.cells (S.nums.map sI)) && (true && (SObj.under 9 (.vec 1 (vs.map sI)) && true))))))))) = true
            rw [e1, e2, e3, e4]
            rfl
          · exact h)) ?_
        (refine zc ?_; conv => whnf)
        refine zv rfl rfl rfl rfl rfl rfl ((zto G 8 vs _ rfl (by omega)).mono ?_)
        rintro r9 H9 ⟨rfl, rfl⟩
        refine ⟨by rw [List.length_set]; exact Nat.le_refl _, ?_⟩
        rw [hso]
        have hsl : vs.length = (zbz (m.map (·.2))).length := by rw [<- hso]; simp
        refine yw (t' := [(11, .ptr 3 0)]) (H' := [zbx c, .mapI .i64 (jo sI []), .mapI .i64 (jo sI []), .cells (yfx c S (zbz (m.map (·.2)))), .dead, .dead, .dead]) (fun k h => zg [11] (by
          have := zzf G c S (zbz (m.map (·.2))) (by rw [hH]; rfl) hh hv hn h
          rw [hd] at this
          unfold NVh at this
          rw [<- hsl] at this
          exact this)) ?_
        (refine zc ?_; conv => whnf)
        exact hK _ _ ⟨rfl, rfl⟩
      · obtain ⟨v, hv'⟩ := hval e (zxv he)
        have hperm := yhv hst.1 he
        have hmem := zxv he
        obtain ⟨e1, f, e3⟩ := e
        simp only at hv' hperm
        subst hv'
        (refine zj [777, 189] 1000 ?_; conv => whnf)
        refine yls (e := (e1, f, sI v)) rfl rfl rfl rfl rfl rfl hmem ?_
        (refine zj [777, 198] 1000 ?_; conv => whnf)
        refine zbb (b := 8) (n := vs.length) (kk := 1) (cs := vs.map sI) (new := [[dI v]]) rfl rfl rfl rfl rfl rfl rfl rfl rfl rfl ⟨by decide, rfl⟩ rfl (by simp) (Nat.le_refl 1) (Nat.le_refl 1) (by show vs.length + 1 <= _; omega) ?_
        (refine zc ?_; conv => whnf)
        refine (fun (hs : ∀ H2, H2 = NVh c day (S.has.map sB) (S.vals.map sI) (S.nums.map sI) (.pin .i64 es' clock) (vs ++ [v]) ++ [.iter 7 clock (seen ++ [e1]) clock] -> SW E _ _ H2) => hs _ ?_) ?_
        · simp [NVh]
          exact ⟨rfl, rfl⟩
        · rintro _ rfl
          have hpm := hperm.map (·.2.2)
          have hpl := hperm.length_eq
          simp only [List.map_cons, List.length_cons] at hpm hpl
          refine zg [11, 186] (ih2 (seen ++ [e1], vs ++ [v]) ?_ (by simp only; omega))
          rw [List.map_append]
          simp only [List.map_cons, List.map_nil, List.append_assoc, List.cons_append, List.nil_append]
          exact ((List.Perm.refl (vs.map sI)).append hpm.symm).trans hp
    · rintro done a rest m hda hdl ⟨hm, hmr, hml⟩ ih
      rw [List.zipIdx_cons, List.foldl_cons] at hm
      have hai : c.arts[done.length]? = some a := by rw [hda]; simp
      have ih := fun m' (h : zay c day known m (a, done.length) = m') => ih m' ⟨by rw [hm, h, List.length_append, List.length_singleton], by rw [List.length_append, List.length_singleton, <- h]; exact yip hmr rfl, by rw [List.length_append, List.length_singleton, <- h]; have := yfy c day known m (a, done.length); omega⟩
      obtain ⟨aop, an, au, ad, ap, ak, hma⟩ : ∃ op n u den ps ks, a.amount = .mk op n u den ps ks := by cases h : a.amount; exact ⟨_, _, _, _, _, _, rfl⟩
      have hrx : (c.arts.map Article.cells)[done.length]? = some a.cells := by rw [List.getElem?_map, hai]; rfl
      rw [zhh hma] at hrx
      have hw := zk (n := done.length) (by omega)
      have hu8 : ∀ (m : List (Int × Int)), (NMh c day (S.has.map sB) (S.vals.map sI) (S.nums.map sI) ++ [SObj.mapI .i64 (jo sI m)]).all (SObj.under 8) = true := fun m => by
        rw [List.all_append, zqm (by omega) (zfv 8 _) (jw 8 _) (jw 8 _)]
        simp only [List.all_cons, List.all_nil, zgz]
        rfl
      change SW E _ [(3, sI day), (4, sI known), (5, .ptr 0 0), (11, .ptr 3 0), (16, .map 7), (137, .imm (wm c.arts)), (138, sI (c.arts.length : Nat)), (139, sI (done.length : Nat))] (NMh c day (S.has.map sB) (S.vals.map sI) (S.nums.map sI) ++ [.mapI .i64 (jo sI m)])
      (refine ze ?_; conv => whnf)
      repeat' ((with_reducible refine way ?_ ?_) <;> (intro h; conv => whnf))
      all_goals try (exfalso; omega)
      refine zi (i := done.length) (row := ypm a aop an au ad ap ak) rfl rfl hrx ?_
      by_cases hskip : day < a.lo \/ a.hi <= day \/ known < a.known
      · have ih := ih m (if_pos hskip)
        (refine zj [777, 164] 1000 ?_; conv => whnf)
        repeat' ((with_reducible refine way ?_ ?_) <;> (intro h; conv => whnf))
        all_goals first
          | (rw [hw]
             exact yz [3, 4, 5, 11, 16, 137, 138, 139] 8 (by rw [hH]; exact Nat.zero_le 8) (by show 8 <= 9; decide) (by rfl) (hu8 _) ih)
          | (exfalso; omega)
      · have hst : zay c day known m (a, done.length) = match yf a.number m with
            | none => zcz a.number (done.length : Int) m
            | some o => match zcw c o with
              | some b => if b.known <= a.known then zcz a.number (done.length : Int) m else m
              | none => m := if_neg hskip
        rw [hst] at ih
        (refine zj [777, 164] 1000 ?_; conv => whnf)
        repeat' ((with_reducible refine way ?_ ?_) <;> (intro h; conv => whnf))
        all_goals try (exfalso; omega)
        generalize hq : yf a.number m = lk at ih
        cases lk with
        | none =>
          have ih := ih _ rfl
          refine zbh (l := m) (v := sI 0) (p := false) sI rfl rfl rfl rfl rfl rfl rfl rfl rfl (by rw [hq]; rfl) (by rw [hq]; rfl) ?_
          (refine zc ?_; conv => whnf)
          refine yc mixed rfl ?_
          (refine zf [] ?_; conv => whnf)
          (refine zm [777, 999] 1000 ?_; conv => whnf)
          · refine zea (l := m) sI (done.length : Int) rfl rfl rfl rfl rfl rfl rfl rfl rfl ?_
            refine (fun (hs : ∀ H2, H2 = NMh c day (S.has.map sB) (S.vals.map sI) (S.nums.map sI) ++ [SObj.mapI .i64 (jo sI (zcz a.number (done.length : Int) m))] ++ [.cells (jg a aop an au ad ap ak)] -> SWr E _ _ _ _ H2) => hs _ rfl) ?_
            rintro _ rfl
            (refine zc ?_; conv => whnf)
            rw [hw]
            exact yz [3, 4, 5, 11, 16, 137, 138, 139] 8 (by rw [hH]; exact Nat.zero_le 8) (by show 8 <= 9; decide) (by rfl) (hu8 _) ih
        | some o =>
          have hor := hmr _ _ hq
          obtain ⟨b, hb⟩ : ∃ b, c.arts[o.toNat]? = some b := ⟨_, List.getElem?_eq_getElem (by omega)⟩
          have hob : zcw c o = some b := by unfold zcw; rw [if_neg (by omega)]; exact hb
          simp only [hob] at ih
          obtain ⟨bop, bn, bu, bd, bp, bk, hmb⟩ : ∃ op n u den ps ks, b.amount = .mk op n u den ps ks := by cases h : b.amount; exact ⟨_, _, _, _, _, _, rfl⟩
          have hrb : (c.arts.map Article.cells)[o.toNat]? = some b.cells := by rw [List.getElem?_map, hb]; rfl
          rw [zhh hmb] at hrb
          refine zbh (l := m) (v := sI o) (p := true) sI rfl rfl rfl rfl rfl rfl rfl rfl rfl (by rw [hq]; rfl) (by rw [hq]; rfl) ?_
          (refine zc ?_; conv => whnf)
          refine yc mixed rfl ?_
          (refine zf [175] ?_; conv => whnf)
          refine yx (i := o.toNat) (row := ypm b bop bn bu bd bp bk) rfl (by omega) hrb ?_
          (refine zf [] ?_; conv => whnf)
          (refine zm [777, 999] 1000 ?_; conv => whnf)
          repeat' ((with_reducible refine way ?_ ?_) <;> (intro h; conv => whnf))
          · have ih := ih _ (if_pos ‹b.known <= a.known›)
            refine zea (l := m) sI (done.length : Int) rfl rfl rfl rfl rfl rfl rfl rfl rfl ?_
            refine (fun (hs : ∀ H2, H2 = NMh c day (S.has.map sB) (S.vals.map sI) (S.nums.map sI) ++ [SObj.mapI .i64 (jo sI (zcz a.number (done.length : Int) m))] ++ [.cells (jg a aop an au ad ap ak)] -> SWr E _ _ _ _ H2) => hs _ rfl) ?_
            rintro _ rfl
            (refine zc ?_; conv => whnf)
            rw [hw]
            exact yz [3, 4, 5, 11, 16, 137, 138, 139] 8 (by rw [hH]; exact Nat.zero_le 8) (by show 8 <= 9; decide) (by rfl) (hu8 _) ih
          · have ih := ih _ (if_neg ‹¬ b.known <= a.known›)
            rw [hw]
            exact yz [3, 4, 5, 11, 16, 137, 138, 139] 8 (by rw [hH]; exact Nat.zero_le 8) (by show 8 <= 9; decide) (by rfl) (hu8 _) ih
  · rintro done d rest _ hda hdl _ ih
    have ih := ih () trivial
    have htk : c.facts.take done.length = done := by rw [hda]; simp
    have htk1 : c.facts.take (done.length + 1) = done ++ [d] := by rw [hda, show done ++ d :: rest = (done ++ [d]) ++ rest by simp, List.take_left' (by simp)]
    rw [htk1, List.map_append, List.map_append, List.map_append] at ih
    rw [htk]
    have ha := hfa done
    have hv := hfv done
    have hn := hfn done
    have hrm : c.facts.length - done.length = (c.facts.length - (done.length + 1)) + 1 := by omega
    rw [hrm, yio, ztr, ztr]
    generalize c.facts.length - (done.length + 1) = q at ih
    generalize done.map (fun x => (zhe l person day known x).1) = dA at ih ha
    generalize done.map (fun x => (zhe l person day known x).2.1) = dV at ih hv
    generalize done.map (fun x => (zhe l person day known x).2.2) = dN at ih hn
    have hrx : (c.facts.map Decl.cells)[done.length]? = some d.cells := by rw [hda]; simp
    have hw := zk (n := done.length) (by omega)
    (refine ze ?_; conv => whnf)
    repeat' ((with_reducible refine way ?_ ?_) <;> (intro h; conv => whnf))
    all_goals try (exfalso; omega)
    refine zi (i := done.length) (row := d.cells) rfl rfl hrx ?_
    (refine zc ?_; conv => whnf)
    refine zg [1, 2, 3, 4, 5, 11, 12, 13, 51, 52, 53, 58, 59, 60] ?_
    change SW E _ [(1, .imm (jd l)), (2, sS person), (3, sI day), (4, sI known), (5, .ptr 0 0), (11, .ptr 3 0), (12, sI (done.length : Nat)), (13, .ptr 7 0), (51, .imm (zx c.facts)), (52, sI (c.facts.length : Nat)), (53, sI (done.length : Nat)), (58, .imm (jd l)), (59, sI ((l.map Fact.cells).length : Nat)), (60, sI (0 : Nat))] (NMh c day (zca (dA ++ [false]) q) (wz (dV ++ [0]) q) (wz (dN ++ [0]) q) ++ [.cells [sS d.name, sS d.unit, sI d.role]])
    rw [hll]
    refine zp l (fun j (_ : Bool × Int × Int) => [(1, .imm (jd l)), (2, sS person), (3, sI day), (4, sI known), (5, .ptr 0 0), (11, .ptr 3 0), (12, sI (done.length : Nat)), (13, .ptr 7 0), (51, .imm (zx c.facts)), (52, sI (c.facts.length : Nat)), (53, sI (done.length : Nat)), (58, .imm (jd l)), (59, sI (l.length : Nat)), (60, sI (j : Nat))])
      (fun _ s => NMh c day (zca (dA ++ [s.1]) q) (wz (dV ++ [s.2.1]) q) (wz (dN ++ [s.2.2]) q) ++ [.cells [sS d.name, sS d.unit, sI d.role]])
      (fun done rest s => zhe l person day known d = (rest.zipIdx done.length).foldl (zvw d person day known) s) (false, 0, 0) rfl ?_ ?_
    · rintro s hs
      have hs : zhe l person day known d = s := hs
      rw [<- hs]
      change SW E _ [(1, .imm (jd l)), (2, sS person), (3, sI day), (4, sI known), (5, .ptr 0 0), (11, .ptr 3 0), (12, sI (done.length : Nat)), (13, .ptr 7 0), (51, .imm (zx c.facts)), (52, sI (c.facts.length : Nat)), (53, sI (done.length : Nat)), (58, .imm (jd l)), (59, sI (l.length : Nat)), (60, sI (l.length : Nat))] _
      (refine ze ?_; conv => whnf)
      repeat' ((with_reducible refine way ?_ ?_) <;> (intro h; conv => whnf))
      all_goals try (exfalso; omega)
      rw [hw]
      refine yz [1, 2, 3, 4, 5, 11, 51, 52, 53] 7 (by rw [hH]; exact Nat.zero_le 7) (by show 7 <= 8; decide) (by rfl) (zqm (Nat.le_refl 7) (zqn 7 _ _) (zfw 7 _ _) (zfw 7 _ _)) ih
    · rintro df f rf ⟨sb, sv, sn⟩ hdf hdlf hs ih2
      rw [List.zipIdx_cons, List.foldl_cons] at hs
      have hrf : (l.map Fact.cells)[df.length]? = some f.cells := by rw [hdf]; simp
      have hwf := zk (n := df.length) (by omega)
      have hu8 : ∀ (A : List Bool) (B C : List Int) (qa qb qc : Nat), (NMh c day (zca A qa) (wz B qb) (wz C qc) ++ [SObj.cells [sS d.name, sS d.unit, sI d.role]]).all (SObj.under 8) = true := fun A B C qa qb qc => by
        rw [List.all_append, zqm (by omega) (zqn 8 _ _) (zfw 8 _ _) (zfw 8 _ _)]
        rfl
      have ihs : ∀ (s' : Bool × Int × Int), zvw d person day known (sb, sv, sn) (f, df.length) = s' -> SW E _ [(1, .imm (jd l)), (2, sS person), (3, sI day), (4, sI known), (5, .ptr 0 0), (11, .ptr 3 0), (12, sI (done.length : Nat)), (13, .ptr 7 0), (51, .imm (zx c.facts)), (52, sI (c.facts.length : Nat)), (53, sI (done.length : Nat)), (58, .imm (jd l)), (59, sI (l.length : Nat)), (60, sI ((df.length + 1 : Nat)))]
          (NMh c day (zca (dA ++ [s'.1]) q) (wz (dV ++ [s'.2.1]) q) (wz (dN ++ [s'.2.2]) q) ++ [.cells [sS d.name, sS d.unit, sI d.role]]) := fun s' h => ih2 s' (by rw [hs, h, List.length_append, List.length_singleton])
      clear ih2 hs ih
      change SW E _ [(1, .imm (jd l)), (2, sS person), (3, sI day), (4, sI known), (5, .ptr 0 0), (11, .ptr 3 0), (12, sI (done.length : Nat)), (13, .ptr 7 0), (51, .imm (zx c.facts)), (52, sI (c.facts.length : Nat)), (53, sI (done.length : Nat)), (58, .imm (jd l)), (59, sI (l.length : Nat)), (60, sI (df.length : Nat))] (NMh c day (zca (dA ++ [sb]) q) (wz (dV ++ [sv]) q) (wz (dN ++ [sn]) q) ++ [.cells [sS d.name, sS d.unit, sI d.role]])
      by_cases hskip : ¬ f.person = person \/ ¬ f.name = d.name \/ day < f.lo \/ f.hi <= day \/ known < f.known
      · have ihs := ihs (sb, sv, sn) (if_pos hskip)
        (refine ze ?_; conv => whnf)
        repeat' ((with_reducible refine way ?_ ?_) <;> (intro h; conv => whnf))
        all_goals try (exfalso; omega)
        refine zi (i := df.length) (row := f.cells) rfl rfl hrf ?_
        (refine zj [777, 116] 1000 ?_; conv => whnf)
        repeat' ((with_reducible refine way ?_ ?_) <;> (intro h; conv => whnf))
        all_goals first
          | (rw [hwf]
             exact yz [1, 2, 3, 4, 5, 11, 12, 13, 51, 52, 53, 58, 59, 60] 8 (by rw [hH]; exact Nat.zero_le 8) (by show 8 <= 9; decide) (by rfl) (hu8 _ _ _ _ _ _) ihs)
          | (exfalso
             rcases hskip with x | x | x | x | x <;> first | exact x (by assumption) | omega)
      · have ihs := ihs _ (if_neg hskip)
        simp only at ihs
        simp only [not_or, Classical.not_not] at hskip
        obtain ⟨g1, g2, g3, g4, g5⟩ := hskip
        (refine ze ?_; conv => whnf)
        repeat' ((with_reducible refine way ?_ ?_) <;> (intro h; conv => whnf))
        all_goals try (exfalso; omega)
        refine zi (i := df.length) (row := f.cells) rfl rfl hrf ?_
        (refine zj [777, 116] 1000 ?_; conv => whnf)
        repeat' ((with_reducible refine way ?_ ?_) <;> (intro h; conv => whnf))
        all_goals try contradiction
        refine zg [1, 2, 3, 4, 5, 11, 12, 13, 14, 15, 51, 52, 53, 58, 59, 60] ?_
        change SW E _ [(1, .imm (jd l)), (2, sS person), (3, sI day), (4, sI known), (5, .ptr 0 0), (11, .ptr 3 0), (12, sI (done.length : Nat)), (13, .ptr 7 0), (14, sI (df.length : Nat)), (15, .ptr 8 0), (51, .imm (zx c.facts)), (52, sI (c.facts.length : Nat)), (53, sI (done.length : Nat)), (58, .imm (jd l)), (59, sI (l.length : Nat)), (60, sI (df.length : Nat))] (NMh c day (zca (dA ++ [sb]) q) (wz (dV ++ [sv]) q) (wz (dN ++ [sn]) q) ++ [.cells [sS d.name, sS d.unit, sI d.role]] ++ [.cells [sS f.person, sS f.name, sI f.lo, sI f.hi, sI f.known, sI f.value, sB f.gone]])
        (refine xf 0 mixed rfl ?_; refine zn [777, 117] (nx := 9) ?_; conv => whnf)
        generalize f.gone = fg at ihs ⊢
        cases fg
        all_goals (try (conv => whnf))
        repeat' ((with_reducible refine way ?_ ?_) <;> (intro h; conv => whnf))
        · have ihs := ihs
          rw [show (!false && (!decide (d.unit = tT) || decide (f.value = 0) || decide (f.value = 1))) = decide (f.value = 1) by rw [decide_eq_true (show d.unit = tT by assumption), decide_eq_false (show ¬ f.value = 0 by assumption)]; rfl] at ihs
          refine zcs (i := done.length) rfl rfl rfl rfl rfl rfl rfl (show 9 <= 9 by decide) rfl (by omega) ?_
          refine xa (b := 4) (off := 0 + done.length * 1) (v := sB (decide (f.value = 1))) (d := dA.map sB) (zz := sB sb) (r := List.replicate q (sB false)) rfl rfl rfl rfl rfl rfl rfl rfl (show 9 <= 9 by decide) (by rw [<- zap]; rfl) (by rw [List.length_map]; omega) ?_
          refine qf (by kernel_rfl) ?_
          refine (fun (hs : ∀ H2, H2 = NMh c day (zca (dA ++ [(decide (f.value = 1))]) q) (wz (dV ++ [sv]) q) (wz (dN ++ [sn]) q) ++ [.cells [sS d.name, sS d.unit, sI d.role]] ++ [.cells [sS f.person, sS f.name, sI f.lo, sI f.hi, sI f.known, sI f.value, sB false]] -> SW E _ _ H2) => hs _ (by rw [show zca (dA ++ [(decide (f.value = 1))]) q = dA.map sB ++ sB (decide (f.value = 1)) :: List.replicate q (sB false) from zap _ _ _]; rfl)) ?_
          rintro _ rfl
          (refine ze ?_; conv => whnf)
          (refine xf 0 mixed rfl ?_; refine zn [777, 131] (nx := 9) ?_; conv => whnf)
          refine zcs (i := done.length) rfl rfl rfl rfl rfl rfl rfl (show 9 <= 9 by decide) rfl (by omega) ?_
          refine xa (b := 5) (off := 0 + done.length * 1) (v := sI f.value) (d := dV.map sI) (zz := sI sv) (r := List.replicate q (sI 0)) rfl rfl rfl rfl rfl rfl rfl rfl (show 9 <= 9 by decide) (by rw [<- xr]; rfl) (by rw [List.length_map]; omega) ?_
          (refine zn [777, 132] (nx := 9) ?_; conv => whnf)
          refine zcs (i := done.length) rfl rfl rfl rfl rfl rfl rfl (show 9 <= 9 by decide) rfl (by omega) ?_
          refine xa (b := 6) (off := 0 + done.length * 1) (v := sI (df.length : Nat)) (d := dN.map sI) (zz := sI sn) (r := List.replicate q (sI 0)) rfl rfl rfl rfl rfl rfl rfl rfl (show 9 <= 9 by decide) (by rw [<- xr dN sn q]; rfl) (by rw [List.length_map]; omega) ?_
          refine qf (by kernel_rfl) ?_
          refine (fun (hs : ∀ H2, H2 = NMh c day (zca (dA ++ [(decide (f.value = 1))]) q) (wz (dV ++ [f.value]) q) (wz (dN ++ [(df.length : Int)]) q) ++ [.cells [sS d.name, sS d.unit, sI d.role]] ++ [.cells [sS f.person, sS f.name, sI f.lo, sI f.hi, sI f.known, sI f.value, sB false]] -> SW E _ _ H2) => hs _ (by rw [show wz (dV ++ [f.value]) q = dV.map sI ++ sI f.value :: List.replicate q (sI 0) from xr _ _ _, show wz (dN ++ [(df.length : Int)]) q = dN.map sI ++ sI (df.length : Int) :: List.replicate q (sI 0) from xr _ _ _]; rfl)) ?_
          rintro _ rfl
          (refine ze ?_; conv => whnf)
          rw [hwf]
          exact yz [1, 2, 3, 4, 5, 11, 12, 13, 51, 52, 53, 58, 59, 60] 8 (by rw [hH]; exact Nat.zero_le 8) (by show 8 <= 9; decide) (by rfl) (hu8 _ _ _ _ _ _) ihs
        · have ihs := ihs
          rw [show (!false && (!decide (d.unit = tT) || decide (f.value = 0) || decide (f.value = 1))) = true by rw [decide_eq_true (show f.value = 0 by assumption), Bool.or_true]; rfl] at ihs
          refine zcs (i := done.length) rfl rfl rfl rfl rfl rfl rfl (show 9 <= 9 by decide) rfl (by omega) ?_
          refine xa (b := 4) (off := 0 + done.length * 1) (v := sB true) (d := dA.map sB) (zz := sB sb) (r := List.replicate q (sB false)) rfl rfl rfl rfl rfl rfl rfl rfl (show 9 <= 9 by decide) (by rw [<- zap]; rfl) (by rw [List.length_map]; omega) ?_
          refine qf (by kernel_rfl) ?_
          refine (fun (hs : ∀ H2, H2 = NMh c day (zca (dA ++ [true]) q) (wz (dV ++ [sv]) q) (wz (dN ++ [sn]) q) ++ [.cells [sS d.name, sS d.unit, sI d.role]] ++ [.cells [sS f.person, sS f.name, sI f.lo, sI f.hi, sI f.known, sI f.value, sB false]] -> SW E _ _ H2) => hs _ (by rw [show zca (dA ++ [true]) q = dA.map sB ++ sB true :: List.replicate q (sB false) from zap _ _ _]; rfl)) ?_
          rintro _ rfl
          (refine ze ?_; conv => whnf)
          (refine xf 0 mixed rfl ?_; refine zn [777, 131] (nx := 9) ?_; conv => whnf)
          refine zcs (i := done.length) rfl rfl rfl rfl rfl rfl rfl (show 9 <= 9 by decide) rfl (by omega) ?_
          refine xa (b := 5) (off := 0 + done.length * 1) (v := sI f.value) (d := dV.map sI) (zz := sI sv) (r := List.replicate q (sI 0)) rfl rfl rfl rfl rfl rfl rfl rfl (show 9 <= 9 by decide) (by rw [<- xr]; rfl) (by rw [List.length_map]; omega) ?_
          (refine zn [777, 132] (nx := 9) ?_; conv => whnf)
          refine zcs (i := done.length) rfl rfl rfl rfl rfl rfl rfl (show 9 <= 9 by decide) rfl (by omega) ?_
          refine xa (b := 6) (off := 0 + done.length * 1) (v := sI (df.length : Nat)) (d := dN.map sI) (zz := sI sn) (r := List.replicate q (sI 0)) rfl rfl rfl rfl rfl rfl rfl rfl (show 9 <= 9 by decide) (by rw [<- xr dN sn q]; rfl) (by rw [List.length_map]; omega) ?_
          refine qf (by kernel_rfl) ?_
          refine (fun (hs : ∀ H2, H2 = NMh c day (zca (dA ++ [true]) q) (wz (dV ++ [f.value]) q) (wz (dN ++ [(df.length : Int)]) q) ++ [.cells [sS d.name, sS d.unit, sI d.role]] ++ [.cells [sS f.person, sS f.name, sI f.lo, sI f.hi, sI f.known, sI f.value, sB false]] -> SW E _ _ H2) => hs _ (by rw [show wz (dV ++ [f.value]) q = dV.map sI ++ sI f.value :: List.replicate q (sI 0) from xr _ _ _, show wz (dN ++ [(df.length : Int)]) q = dN.map sI ++ sI (df.length : Int) :: List.replicate q (sI 0) from xr _ _ _]; rfl)) ?_
          rintro _ rfl
          (refine ze ?_; conv => whnf)
          rw [hwf]
          exact yz [1, 2, 3, 4, 5, 11, 12, 13, 51, 52, 53, 58, 59, 60] 8 (by rw [hH]; exact Nat.zero_le 8) (by show 8 <= 9; decide) (by rfl) (hu8 _ _ _ _ _ _) ihs
        · have ihs := ihs
          rw [show (!false && (!decide (d.unit = tT) || decide (f.value = 0) || decide (f.value = 1))) = true by rw [decide_eq_false (show ¬ d.unit = tT by assumption)]; rfl] at ihs
          refine zcs (i := done.length) rfl rfl rfl rfl rfl rfl rfl (show 9 <= 9 by decide) rfl (by omega) ?_
          refine xa (b := 4) (off := 0 + done.length * 1) (v := sB true) (d := dA.map sB) (zz := sB sb) (r := List.replicate q (sB false)) rfl rfl rfl rfl rfl rfl rfl rfl (show 9 <= 9 by decide) (by rw [<- zap]; rfl) (by rw [List.length_map]; omega) ?_
          refine qf (by kernel_rfl) ?_
          refine (fun (hs : ∀ H2, H2 = NMh c day (zca (dA ++ [true]) q) (wz (dV ++ [sv]) q) (wz (dN ++ [sn]) q) ++ [.cells [sS d.name, sS d.unit, sI d.role]] ++ [.cells [sS f.person, sS f.name, sI f.lo, sI f.hi, sI f.known, sI f.value, sB false]] -> SW E _ _ H2) => hs _ (by rw [show zca (dA ++ [true]) q = dA.map sB ++ sB true :: List.replicate q (sB false) from zap _ _ _]; rfl)) ?_
          rintro _ rfl
          (refine ze ?_; conv => whnf)
          (refine xf 0 mixed rfl ?_; refine zn [777, 131] (nx := 9) ?_; conv => whnf)
          refine zcs (i := done.length) rfl rfl rfl rfl rfl rfl rfl (show 9 <= 9 by decide) rfl (by omega) ?_
          refine xa (b := 5) (off := 0 + done.length * 1) (v := sI f.value) (d := dV.map sI) (zz := sI sv) (r := List.replicate q (sI 0)) rfl rfl rfl rfl rfl rfl rfl rfl (show 9 <= 9 by decide) (by rw [<- xr]; rfl) (by rw [List.length_map]; omega) ?_
          (refine zn [777, 132] (nx := 9) ?_; conv => whnf)
          refine zcs (i := done.length) rfl rfl rfl rfl rfl rfl rfl (show 9 <= 9 by decide) rfl (by omega) ?_
          refine xa (b := 6) (off := 0 + done.length * 1) (v := sI (df.length : Nat)) (d := dN.map sI) (zz := sI sn) (r := List.replicate q (sI 0)) rfl rfl rfl rfl rfl rfl rfl rfl (show 9 <= 9 by decide) (by rw [<- xr dN sn q]; rfl) (by rw [List.length_map]; omega) ?_
          refine qf (by kernel_rfl) ?_
          refine (fun (hs : ∀ H2, H2 = NMh c day (zca (dA ++ [true]) q) (wz (dV ++ [f.value]) q) (wz (dN ++ [(df.length : Int)]) q) ++ [.cells [sS d.name, sS d.unit, sI d.role]] ++ [.cells [sS f.person, sS f.name, sI f.lo, sI f.hi, sI f.known, sI f.value, sB false]] -> SW E _ _ H2) => hs _ (by rw [show wz (dV ++ [f.value]) q = dV.map sI ++ sI f.value :: List.replicate q (sI 0) from xr _ _ _, show wz (dN ++ [(df.length : Int)]) q = dN.map sI ++ sI (df.length : Int) :: List.replicate q (sI 0) from xr _ _ _]; rfl)) ?_
          rintro _ rfl
          (refine ze ?_; conv => whnf)
          rw [hwf]
          exact yz [1, 2, 3, 4, 5, 11, 12, 13, 51, 52, 53, 58, 59, 60] 8 (by rw [hH]; exact Nat.zero_le 8) (by show 8 <= 9; decide) (by rfl) (hu8 _ _ _ _ _ _) ihs
        · have ihs := ihs
          rw [show (!true && (!decide (d.unit = tT) || decide (f.value = 0) || decide (f.value = 1))) = false from rfl] at ihs
          refine zcs (i := done.length) rfl rfl rfl rfl rfl rfl rfl (show 9 <= 9 by decide) rfl (by omega) ?_
          refine xa (b := 4) (off := 0 + done.length * 1) (v := sB false) (d := dA.map sB) (zz := sB sb) (r := List.replicate q (sB false)) rfl rfl rfl rfl rfl rfl rfl rfl (show 9 <= 9 by decide) (by rw [<- zap]; rfl) (by rw [List.length_map]; omega) ?_
          refine qf (by kernel_rfl) ?_
          refine (fun (hs : ∀ H2, H2 = NMh c day (zca (dA ++ [false]) q) (wz (dV ++ [sv]) q) (wz (dN ++ [sn]) q) ++ [.cells [sS d.name, sS d.unit, sI d.role]] ++ [.cells [sS f.person, sS f.name, sI f.lo, sI f.hi, sI f.known, sI f.value, sB true]] -> SW E _ _ H2) => hs _ (by rw [show zca (dA ++ [false]) q = dA.map sB ++ sB false :: List.replicate q (sB false) from zap _ _ _]; rfl)) ?_
          rintro _ rfl
          (refine ze ?_; conv => whnf)
          (refine xf 0 mixed rfl ?_; refine zn [777, 131] (nx := 9) ?_; conv => whnf)
          refine zcs (i := done.length) rfl rfl rfl rfl rfl rfl rfl (show 9 <= 9 by decide) rfl (by omega) ?_
          refine xa (b := 5) (off := 0 + done.length * 1) (v := sI f.value) (d := dV.map sI) (zz := sI sv) (r := List.replicate q (sI 0)) rfl rfl rfl rfl rfl rfl rfl rfl (show 9 <= 9 by decide) (by rw [<- xr]; rfl) (by rw [List.length_map]; omega) ?_
          (refine zn [777, 132] (nx := 9) ?_; conv => whnf)
          refine zcs (i := done.length) rfl rfl rfl rfl rfl rfl rfl (show 9 <= 9 by decide) rfl (by omega) ?_
          refine xa (b := 6) (off := 0 + done.length * 1) (v := sI (df.length : Nat)) (d := dN.map sI) (zz := sI sn) (r := List.replicate q (sI 0)) rfl rfl rfl rfl rfl rfl rfl rfl (show 9 <= 9 by decide) (by rw [<- xr dN sn q]; rfl) (by rw [List.length_map]; omega) ?_
          refine qf (by kernel_rfl) ?_
          refine (fun (hs : ∀ H2, H2 = NMh c day (zca (dA ++ [false]) q) (wz (dV ++ [f.value]) q) (wz (dN ++ [(df.length : Int)]) q) ++ [.cells [sS d.name, sS d.unit, sI d.role]] ++ [.cells [sS f.person, sS f.name, sI f.lo, sI f.hi, sI f.known, sI f.value, sB true]] -> SW E _ _ H2) => hs _ (by rw [show wz (dV ++ [f.value]) q = dV.map sI ++ sI f.value :: List.replicate q (sI 0) from xr _ _ _, show wz (dN ++ [(df.length : Int)]) q = dN.map sI ++ sI (df.length : Int) :: List.replicate q (sI 0) from xr _ _ _]; rfl)) ?_
          rintro _ rfl
          (refine ze ?_; conv => whnf)
          rw [hwf]
          exact yz [1, 2, 3, 4, 5, 11, 12, 13, 51, 52, 53, 58, 59, 60] 8 (by rw [hH]; exact Nat.zero_le 8) (by show 8 <= 9; decide) (by rfl) (hu8 _ _ _ _ _ _) ihs
end Go.Proofs.YtjnddlifnkgncaaGreatDoor