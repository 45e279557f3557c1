/- Contracts of functions of the program, joined from TFe, TFf, TFg, TFh, TFi, TFj, TFk, TFl, TFm, TFn, TFo, TFp, TFq, TFr, TFs, TFt, TFu, TFv, TFw, THa, TAb, TIa, TIb, TIc, TYh, TYi, TYs, TSh45, TYl, TYa, TYb, TYm, TYq, TSh43, TSh44, TYt, TYu, TYv, TSh52, TSh53, TYj, TYk, TYn, TYo, TYp, TYr: no condition. -/
import Derived.Test.YtjnddlifnkgncaaGreatDoorCD3
import Derived.Sort.OwnSortedInts
import Derived.Lib.SlicesCompact
import Derived.WalkKit
import Derived.ProofKit
import Derived.Lib.Walk
import Derived.Recover
import Derived.Laws.Pointers
set_option linter.unusedSimpArgs false
set_option linter.unusedVariables false
set_option maxRecDepth 100000
set_option maxHeartbeats 8000000
namespace Go.Proofs.YtjnddlifnkgncaaGreatDoor
open Go Go.Sh
variable (G:List (Nat × D))
def zec (f:Fact):Bool:=xq f.person&&xq f.name&&
 decide (0<=f.lo/\f.lo<f.hi/\f.hi<=36525/\0<=f.known/\f.known<=36524/\ -1000000000000<=f.value/\f.value<=1000000000000)&&(!f.gone||decide (f.value=0))
def Fact.sv (f:Fact):SV:=.agg [sS f.person,sS f.name,sI f.lo,sI f.hi,sI f.known,sI f.value,sB f.gone]
theorem qq (f:Fact):zv Tryz.prog G 72 [Fact.sv f] (sB (zec f)):=by
 refine zf Tryz.func72 rfl (by rw [Tryz.ntmps72];simp) rfl rfl ?_;intro E hH hK;(refine zm ?_;conv=>whnf);refine ze rfl  (zjh G f.person) ?_;(refine zn ?_;conv=>whnf)
 repeat' ((with_reducible refine way ?_ ?_)<;>(intro h;conv=>whnf))
 ·refine ze rfl  (zjh G f.name) ?_
  (refine zn ?_;conv=>whnf)
  repeat' ((with_reducible refine way ?_ ?_)<;>(intro h;conv=>whnf))
  all_goals exact kB hK (by rw [Bool.eq_iff_iff];simp_all [zec];try omega)
 ·exact kB hK (by simp [zec];intro h';simp [h'] at h)
def wn:Option Int->List Fact->Bool
 |_,[]=>true
 |none,f::r=>zec f&&wn (some f.known) r
 |some k,f::r=>zec f&&decide (k<=f.known)&&wn (some f.known) r
def qr (l:List Fact):Bool:=decide (l.length<=400)&&wn none l
def yi (l:List Fact):Option Int:=l.getLast?.map (·.known)
theorem zjj (l:List Fact) (p:Fact):yi (l++[p])=some p.known:=by simp [yi]
theorem ji (l:List Fact):zv Tryz.prog G 71 [zml l] (sB (qr l)):=by
 refine zf Tryz.func71 rfl (by rw [Tryz.ntmps71];simp) rfl rfl ?_;intro E hH hK;have hlen:(l.map Fact.cells).length=l.length:=by simp
 (refine zm ?_;conv=>whnf)
 repeat' ((with_reducible refine way ?_ ?_)<;>(intro h;conv=>whnf))
 any_goals exact kB hK (by simp [qr];intros;omega)
 have hok:qr l=wn none l:=by simp [qr];intros;omega
 refine zi [1,10,11,12] ?_;refine yx (σ:=List Fact × List Fact) (fun x=>[(1,.ptr 0 0),(10,.imm (yz l)),(11,sI (l.map Fact.cells).length),(12,sI x.1.length)])
  (fun _=>[.cells [.imm (yz l)]])
  (fun x=>l=x.1++x.2/\wn none l=wn (yi x.1) x.2) (fun x=>x.2.length) ?_ ([],l) ⟨rfl,rfl⟩
 rintro ⟨done,rest⟩ ⟨ha,hv⟩ ih
 dsimp only at ha hv ih ⊢
 have hl2:done.length+rest.length=l.length:=by rw [ha];simp
 cases rest with
 |nil=>
  simp at hl2;(refine zm ?_;conv=>whnf)
  repeat' ((with_reducible refine way ?_ ?_)<;>(intro h;conv=>whnf))
  all_goals try (exfalso;omega)
  exact kB hK (by rw [hok,hv];rfl)
 |cons p rest=>
  simp at hl2;have hw:IntKind.i64.wrap ((done.length:Int)+1)=(((done++[p]).length:Nat):Int):=by rw [zk (by omega)];simp
  have next:wn none l=wn (yi (done++[p])) rest->_:=fun h=>ih (done++[p],rest) ⟨by simp [ha],h⟩ (by simp)
  rcases zfr done with rfl|⟨init,q,rfl⟩
  ·(refine zm ?_;conv=>whnf)
   repeat' ((with_reducible refine way ?_ ?_)<;>(intro h;conv=>whnf))
   all_goals try (exfalso;omega)
   refine zh rfl rfl  (row:=p.cells) (by simp [ha]) ?_;(refine zn ?_;conv=>whnf);(refine zt mixed rfl ?_;refine zd [] ?_;conv=>whnf);refine zu rfl  (qq G p) ?_;(refine zd [] ?_;conv=>whnf)
   repeat' ((with_reducible refine way ?_ ?_)<;>(intro h;conv=>whnf))
   all_goals try (exfalso;omega)
   all_goals (refine zm ?_;conv=>whnf)
   ·rw [hw];exact yq [1,10,11,12] 1 (by simp [hH]) (by simp) rfl rfl (next (by simp [hv,yi,wn,h]))
   ·exact kB hK (by simp [hok,hv,yi,wn,h])
  ·have hil:(init++[q]).length=init.length+1:=by simp
   have hm:IntKind.i64.wrap (((init++[q]).length:Int)-1)=((init.length:Nat):Int):=by rw [yg (by omega) (by omega)];omega
   (refine zm ?_;conv=>whnf)
   repeat' ((with_reducible refine way ?_ ?_)<;>(intro h;conv=>whnf))
   all_goals try (exfalso;omega)
   refine zh rfl rfl  (row:=p.cells) (by simp [ha]) ?_;(refine zn ?_;conv=>whnf);(refine zt mixed rfl ?_;refine zd [] ?_;conv=>whnf);refine zu rfl  (qq G p) ?_;(refine zd [] ?_;conv=>whnf)
   repeat' ((with_reducible refine way ?_ ?_)<;>(intro h;conv=>whnf))
   all_goals try (exfalso;omega)
   ·refine yc rfl  hm (row:=q.cells) (by simp [ha]) ?_
    (refine zd [] ?_;conv=>whnf)
    all_goals (refine zm ?_;conv=>whnf)
    repeat' ((with_reducible refine way ?_ ?_)<;>(intro h;conv=>whnf))
    ·exact kB hK (by simp [hok,hv,yi,wn];intros;omega)
    ·rw [hw];exact yq [1,10,11,12] 1 (by simp [hH]) (by simp) rfl rfl (next (by simp_all [yi,wn]))
   ·(refine zm ?_;conv=>whnf)
    exact kB hK (by simp [hok,hv,yi,wn,h])
def hit (person name:ByteArray) (day known:Int) (f:Fact):Bool:=
 decide (f.known<=known/\f.lo<=day/\day<f.hi/\f.name=name/\f.person=person)
def yme (q:Fact->Bool):Nat->List Fact->Option (Nat × Fact)
 |_,[]=>none
 |i,f::r=>match yme q (i+1) r with
  |some x=>some x
  |none=>if q f then some (i,f) else none
def look (person name:ByteArray) (day known:Int) (l:List Fact):Int × Int × Bool:=
 match yme (hit person name day known) 0 l with
 |none=>(0, -1,false)
 |some (i,f)=>if f.gone then (0, -1,false) else (f.value,i,true)
theorem zjk (a b:List Int) (hsz:a.length<=9223372036854775807):zv Tryz.prog G 70 [.imm (ye a),.imm (ye b)] (sB (decide (a=b))):=by
 refine zf Tryz.func70 rfl (by rw [Tryz.ntmps70];simp) rfl rfl ?_;intro E hH hK;have hla:(a.map fun n=>[dI n]).length=a.length:=by simp
 have hlb:(b.map fun n=>[dI n]).length=b.length:=by simp
 (refine zm ?_;conv=>whnf)
 repeat' ((with_reducible refine way ?_ ?_)<;>(intro h;conv=>whnf))
 any_goals exact kB hK (by simp;intro e;subst e;exact h rfl)
 refine zi [0,1,12,13] ?_;refine yx (σ:=List Int × List Int × List Int) (fun x=>[(0,.imm (ye a)),(1,.imm (ye b)),(12,sI (a.map fun n=>[dI n]).length),(13,sI x.1.length)])
  (fun _=>[]) (fun x=>a=x.1++x.2.1/\b=x.1++x.2.2) (fun x=>x.2.1.length) ?_ ([],a,b) ⟨rfl,rfl⟩
 rintro ⟨done,ra,rb⟩ ⟨ha,hb⟩ ih
 dsimp only at ha hb ih ⊢
 have hl1:done.length+ra.length=a.length:=by rw [ha];simp
 have hl2:done.length+rb.length=b.length:=by rw [hb];simp
 cases ra with
 |nil=>
  simp at hl1;have:rb=[]:=List.length_eq_zero_iff.1 (by omega);(refine zm ?_;conv=>whnf)
  repeat' ((with_reducible refine way ?_ ?_)<;>(intro h;conv=>whnf))
  all_goals try (exfalso;omega)
  exact kB hK (by rw [ha,hb,this];simp)
 |cons p ra=>
  cases rb with
  |nil=>simp at hl1 hl2;omega
  |cons q rb=>
   simp at hl1 hl2;have hw:IntKind.i64.wrap ((done.length:Int)+1)=(((done++[p]).length:Nat):Int):=by rw [zk (by omega)];simp
   have next:q=p->_:=fun e=>ih (done++[p],ra,rb) ⟨by simp [ha],by simp [hb,e]⟩ (by simp)
   have bad:q≠p->decide (a=b)=false:=fun e=>by simp [ha,hb,Ne.symm e]
   (refine zm ?_;conv=>whnf)
   repeat' ((with_reducible refine way ?_ ?_)<;>(intro h;conv=>whnf))
   all_goals try (exfalso;omega)
   (refine zt mixed rfl ?_;refine zd [] ?_;conv=>whnf);refine yc rfl rfl  (row:=[dI p]) (by simp [ha]) ?_;(refine zd [] ?_;conv=>whnf);refine yc rfl rfl  (row:=[dI q]) (by simp [hb]) ?_;(refine zd [] ?_;conv=>whnf);(refine zm ?_;conv=>whnf)
   repeat' ((with_reducible refine way ?_ ?_)<;>(intro h;conv=>whnf))
   ·exact kB hK (bad (fun e=>h e.symm))
   ·rw [hw];exact zi [0,1,12,13] (next h.symm)
def yzz (number day known:Int) (a:Article):Bool:=decide (a.number=number/\a.lo<=day/\day<a.hi/\a.known<=known)
def yum (number day known:Int) (i:Nat) (a:Article):Option (Nat × Int)->Option (Nat × Int)
 |none=>if yzz number day known a then some (i,a.known) else none
 |some (j,k)=>if yzz number day known a&&decide (k<=a.known) then some (i,a.known) else some (j,k)
def ymf (number day known:Int):List Article->Nat->Option (Nat × Int)->Option (Nat × Int)
 |[],_,found=>found
 |a::r,i,found=>ymf number day known r (i+1) (yum number day known i a found)
def yco (arts:List Article) (number day known:Int):Option Nat:=(ymf number day known arts 0 none).map (·.1)
def xae (y:Int):Bool:=decide (y.tmod 4=0/\(y.tmod 100≠0\/y.tmod 400=0))
def ywu (y m:Int):Int:=if m=4\/m=6\/m=9\/m=11 then 30 else if m=2 then (if xae y then 29 else 28) else 31
def lenOf (m:Nat):Int:=ywu (2000+(m / 12:Nat)) ((m % 12:Nat)+1)
def ycp:Nat->Int
 |0=>0
 |m+1=>ycp m+lenOf m
theorem zys (s:ByteArray):zv Tryz.prog G 113 [sS s] (sB (zad s)):=by
 refine zf Tryz.func113 rfl (by rw [Tryz.ntmps113];simp) rfl rfl ?_;intro E hH hK;have hl:=zdb s;(refine zm ?_;conv=>whnf)
 repeat' ((with_reducible refine way ?_ ?_)<;>(intro h;conv=>whnf))
 ·cases hs:s.data.toList with
  |nil=>rw [hs] at hl;simp at hl;omega
  |cons b0 r0=>
   have h0:s.data.toList[0]?=some b0:=by rw [hs];rfl
   have bad:zag b0=false->zad s=false:=fun h=>by simp [zad,xq,hs,qw,h]
   refine ww rfl rfl rfl rfl rfl rfl  h0 ?_;(refine zn ?_;conv=>whnf);refine ze rfl  (ztw G b0) ?_;(refine zn ?_;conv=>whnf)
   repeat' ((with_reducible refine way ?_ ?_)<;>(intro h;conv=>whnf))
   ·have hlow:zag b0=true:=h
    refine ze rfl  (ymd G) ?_;(refine zn ?_;conv=>whnf);refine ze rfl  (yul G keys s (by decide)) ?_;(refine zn ?_;conv=>whnf)
    repeat' ((with_reducible refine way ?_ ?_)<;>(intro h;conv=>whnf))
    ·exact kB hK (by simp only [zad,ybw,h];simp)
    ·have hkey:ybw s=false:=h
     have hhead:qw s.data.toList=true:=by rw [hs];simp [qw,hlow]
     have hsz:s.size<=16:=by omega
     clear hs;refine zi [0,3] ?_;refine zr s.data.toList (fun i _=>[(0,sS s),(3,sI i)]) (fun _ _=>[]) (fun d _ (_:Unit)=>d.all zfk=true) () rfl ?_ ?_
     ·intro _ hv
      rw [hl];(refine zm ?_;conv=>whnf)
      repeat' ((with_reducible refine way ?_ ?_)<;>(intro h;conv=>whnf))
      all_goals try (exfalso;omega)
      exact kB hK (by unfold zad xq;rw [hhead,hv,hkey];simp [hsz])
     ·intro done b rest _ ha hlen hv ih
      have hget:s.data.toList[done.length]?=some b:=by rw [ha];simp
      have hw:=zk (n:=done.length) (by omega);have bad:zfk b=false->zad s=false:=fun h=>by simp [zad,xq,ha,h]
      have next:zfk b=true->_:=fun h=>ih () (by simp [hv,h])
      (refine zm ?_;conv=>whnf)
      repeat' ((with_reducible refine way ?_ ?_)<;>(intro h;conv=>whnf))
      all_goals try (exfalso;omega)
      refine ww rfl rfl rfl rfl rfl rfl  hget ?_;(refine zn ?_;conv=>whnf);refine ze rfl  (ztw G b) ?_;(refine zn ?_;conv=>whnf)
      repeat' ((with_reducible refine way ?_ ?_)<;>(intro h;conv=>whnf))
      ·refine ww rfl rfl rfl rfl rfl rfl  hget ?_
       (refine zn ?_;conv=>whnf);refine ze rfl  (yhy G b) ?_;(refine zn ?_;conv=>whnf)
       repeat' ((with_reducible refine way ?_ ?_)<;>(intro h;conv=>whnf))
       ·refine ww rfl rfl rfl rfl rfl rfl  hget ?_
        (refine zn ?_;conv=>whnf)
        repeat' ((with_reducible refine way ?_ ?_)<;>(intro h;conv=>whnf))
        ·exact kB hK (bad (by simp [zfk, *];omega))
        ·rw [hw];exact zi [0,3] (next (by simp [zfk];omega))
       ·rw [hw];exact zi [0,3] (next (by simp [zfk, *]))
      ·rw [hw];exact zi [0,3] (next (by simp [zfk, *]))
   ·exact kB hK (bad h)
 ·exact kB hK (by simp [zad,xq];intros;omega)
 ·exact kB hK (by have:s.data.toList=[]:=List.length_eq_zero_iff.1 (by omega);simp [zad,xq,this,qw])
theorem ymg {κ α:Type} (n:Nat) (f:α->SV) (hf:∀a,(f a).under n=true) (l:List (κ × α)):(jp f l).all (fun e=>e.2.under n)=true:=by
 simp only [jp,List.all_map];exact List.all_eq_true.2 fun p _=>hf p.2
theorem zhu (n:Nat) (l:List (Int × Int)):SObj.under n (.mapI .i64 (jp sI l))=true:=ymg n sI (fun _=>rfl) l
def zaq (lo hi:Int) (d:Decl):Bool:=zad d.name&&wg d.unit&&decide (lo<=d.role/\d.role<=hi)
def wt (lo hi:Int) (l:List Decl):Bool:=l.all (zaq lo hi)&&decide ((l.map (·.name)).Nodup)
theorem zqv {lo hi:Int} {done rest:List Decl} {d:Decl} (h:zaq lo hi d=false\/d.name∈done.map (·.name)):wt lo hi (done++d::rest)=false:=by
 rcases h with h|h
 ·simp [wt,h]
 ·simp only [wt,Bool.and_eq_false_iff,decide_eq_false_iff_not]
  right
  rw [List.map_append,List.map_cons,List.nodup_append];exact fun ⟨_,_,h3⟩=>h3 _ h _ (by simp) rfl
def znp (s:ByteArray):List Decl->Nat->Int
 |[],_=> -1
 |d::r,i=>if d.name=s then i else znp s r (i+1)
theorem ycq (l:List Decl) (s:ByteArray) (hsz:l.length<=1073741824):zv Tryz.prog G 115 [.imm (zp l),sS s] (sI (znp s l 0)):=by
 refine zf Tryz.func115 rfl (by rw [Tryz.ntmps115];simp) rfl rfl ?_;intro E hH hK;have hlen:(l.map Decl.cells).length=l.length:=by simp
 (refine zm ?_;conv=>whnf);refine zi [0,1,5] ?_;refine zr l (fun i (_:Unit)=>[(0,.imm (zp l)),(1,sS s),(5,sI i)]) (fun _ _=>[]) (fun done rest _=>znp s l 0=znp s rest done.length) () rfl ?_ ?_
 ·rintro _ h1
  (refine zm ?_;conv=>whnf)
  repeat' ((with_reducible refine way ?_ ?_)<;>(intro h;conv=>whnf))
  all_goals try (exfalso;omega)
  exact kI hK (by rw [h1];rfl)
 ·rintro done d rest _ ha hl h1 ih
  have hw:=zk (n:=done.length) (by omega);simp only [znp] at h1;(refine zm ?_;conv=>whnf)
  repeat' ((with_reducible refine way ?_ ?_)<;>(intro h;conv=>whnf))
  all_goals try (exfalso;omega)
  refine zh rfl rfl  (row:=d.cells) (by simp [ha]) ?_;(refine zn ?_;conv=>whnf)
  repeat' ((with_reducible refine way ?_ ?_)<;>(intro h;conv=>whnf))
  ·exact kI hK (by rw [h1,if_pos h])
  ·rw [hw];exact zi [0,1,5] (ih () (by rw [h1,if_neg h];simp))
theorem zyt (s:ByteArray):∀(done:List Decl) (d:Decl) (rest:List Decl) (i:Nat),d.name=s->(znp s (done++d::rest) i=i+done.length ↔ s ∉ done.map (·.name))
 |[],d,rest,i,h=>by simp [znp,h]
 |x::done,d,rest,i,h=>by
  simp only [List.cons_append,znp]
  by_cases e:x.name=s
  ·simp [e];omega
  ·rw [if_neg e]
   have:=zyt s done d rest (i+1) h;rw [show ((i:Int)+((x::done).length:Int))=((i+1:Nat):Int)+(done.length:Int) by simp;omega,this];simp [Ne.symm e]
theorem zle (l:List Decl) (lo hi:Int) (hsz:l.length<=1073741824):zv Tryz.prog G 74 [.imm (zp l),sI lo,sI hi] (sB (wt lo hi l&&decide (l.length<=32))):=by
 refine zf Tryz.func74 rfl (by rw [Tryz.ntmps74];simp) rfl rfl ?_;intro E hH hK;have hlen:(l.map Decl.cells).length=l.length:=by simp
 (refine zm ?_;conv=>whnf);refine zi [0,1,2,7] ?_;refine zr l (fun i (_:Unit)=>[(0,.imm (zp l)),(1,sI lo),(2,sI hi),(7,sI i)]) (fun _ _=>[])
  (fun done _ _=>done.all (zaq lo hi)=true/\(done.map (·.name)).Nodup) () ⟨rfl,List.nodup_nil⟩ ?_ ?_
 ·rintro _ ⟨h1,h2⟩
  (refine zm ?_;conv=>whnf)
  repeat' ((with_reducible refine way ?_ ?_)<;>(intro h;conv=>whnf))
  all_goals try (exfalso;omega)
  exact kB hK (by simp only [wt,h1,h2];simp;omega)
 ·rintro done d rest _ ha hl ⟨h1,h2⟩ ih
  have hw:=zk (n:=done.length) (by omega);have bad:zaq lo hi d=false\/d.name∈done.map (·.name)->(wt lo hi l&&decide (l.length<=32))=false:=fun h=>by rw [ha,zqv h];rfl
  have next:zaq lo hi d=true->d.name ∉ done.map (·.name)->_:=fun g1 g2=>ih () ⟨by simp [h1,g1],by
   rw [List.map_append,List.nodup_append];exact ⟨h2,by simp,fun a ha b hb e=>g2 (by simp at hb;rw [<-hb, <-e];exact ha)⟩⟩
  have hix:=zyt d.name done d rest 0 rfl;rw [<-ha] at hix;have hg:(l.map Decl.cells)[((done.length:Nat):Int).toNat]?=some d.cells:=by simp [ha]
  (refine zm ?_;conv=>whnf)
  repeat' ((with_reducible refine way ?_ ?_)<;>(intro h;conv=>whnf))
  all_goals try (exfalso;omega)
  refine zh rfl rfl  (row:=d.cells) (by simp [ha]) ?_;(refine zn ?_;conv=>whnf);refine ze rfl  (zys G d.name) ?_;(refine zn ?_;conv=>whnf)
  repeat' ((with_reducible refine way ?_ ?_)<;>(intro h;conv=>whnf))
  any_goals exact kB hK (bad (.inl (by simp [zaq, *])))
  refine zh rfl rfl  (row:=d.cells) (by simp [ha]) ?_;(refine zn ?_;conv=>whnf);refine ze rfl  (zyr G d.unit) ?_;(refine zn ?_;conv=>whnf)
  repeat' ((with_reducible refine way ?_ ?_)<;>(intro h;conv=>whnf))
  any_goals exact kB hK (bad (.inl (by simp [zaq, *])))
  refine zh rfl rfl  (row:=d.cells) (by simp [ha]) ?_;(refine zn ?_;conv=>whnf)
  repeat' ((with_reducible refine way ?_ ?_)<;>(intro h;conv=>whnf))
  any_goals exact kB hK (bad (.inl (by simp [zaq, *];try omega)))
  refine zh rfl rfl  (row:=d.cells) (by simp [ha]) ?_;(refine zn ?_;conv=>whnf)
  repeat' ((with_reducible refine way ?_ ?_)<;>(intro h;conv=>whnf))
  any_goals exact kB hK (bad (.inl (by simp [zaq, *];try omega)))
  refine zh rfl rfl  (row:=d.cells) (by simp [ha]) ?_;(refine zn ?_;conv=>whnf);refine ze rfl  (ycq G l d.name hsz) ?_;(refine zn ?_;conv=>whnf)
  repeat' ((with_reducible refine way ?_ ?_)<;>(intro h;conv=>whnf))
  ·exact kB hK (bad (.inr (by
    rcases Classical.em (d.name∈done.map (·.name)) with h'|h'
    ·exact h'
    ·exact absurd (hix.2 h') (by simpa using h))))
  ·rw [hw]
   exact zi [0,1,2,7] (next (by simp [zaq, *];omega) (hix.1 (by simpa using h)))
abbrev tT:ByteArray:=⟨#[116,114,117,116,104]⟩
abbrev tN:ByteArray:=⟨#[110,117,109,98,101,114]⟩
abbrev tM:ByteArray:=⟨#[109,105,110,117,116,101,115]⟩
def zdc:List Ex->Bool
 |[]=>true
 |k0::r=>(k0::r).all fun x=>decide (x.unit=k0.unit)
def zaw (op:Int) (u:ByteArray) (f l:Ex) (len:Int) (same:Bool):Bool:=
 if op=5 then decide (len=1)&&decide (u=tT)&&decide (f.unit=tT)
 else if op=6\/op=7 then decide (len=2)&&decide (u=tT)&&same&&decide (f.unit=tT)
 else if op=8 then decide (len=2)&&decide (u=tT)&&same
 else if op=9\/op=10 then decide (len=2)&&decide (u=tT)&&(same&& !decide (f.unit=tT))
 else if op=11\/op=12 then decide (len=2)&&(same&& !decide (f.unit=tT))&&decide (u=f.unit)
 else if op=16\/op=17 then decide (2<=len)&&(same&& !decide (f.unit=tT))&&decide (u=f.unit)
 else if op=13 then decide (len=2)&& !decide (f.unit=tT)&& !decide (l.unit=tT)&&(decide (f.unit=tN)||decide (l.unit=tN))&&decide (u=if f.unit=tN then l.unit else f.unit)
 else if op=14 then decide (len=2)&&decide (l.op=1)&&decide (l.unit=tN)&&(!decide (l.n<1)&& !decide (1000000<l.n))&& !decide (f.unit=tT)&&decide (u=f.unit)
 else if op=15 then decide (len=2)&&decide (f.unit=tM)&&zdn l.unit&&decide (u=l.unit)
 else false
def zdl (l:List Decl) (i:Int) (u:ByteArray):Bool:=
 match l[i.toNat]? with
 |some d=>decide (u=d.unit)
 |none=>false
def zdm (facts lines : List Decl) (m : List (Int × Int)) (op n : Int) (u : ByteArray) : Bool :=
  if op = 1 then decide (0 <= n) && decide (n <= 999999999999) && (!decide (u = tT) || decide (n <= 1))
  else if op = 2 then decide (0 <= n) && decide (n < facts.length) && zdl facts n u
  else if op = 3 then (match zy n m with
    | some line => zdl lines line u
    | none => false)
  else decide (1 <= n) && decide (n <= 4) && decide (u = tN)
def zdd (c:Codex) (m:List (Int × Int)) (op n:Int) (u:ByteArray) (den:Int) (ps:List Piece) (ks:List Ex):Bool:=
 if op=18 then decide (n=0)&&decide (ks.length=1)&&zdn u&&(match ks with|k::_=>decide (u=k.unit)|[]=>false)&&jb den ps
 else if ¬den=0\/0<ps.length then false
 else if 1<=op/\op<=4 then decide (ks.length=0)&&zdm c.facts c.lines m op n u
 else decide (n=0)&&(match ks.head?,ks.getLast? with|some f,some l=>zaw op u f l ks.length (zdc ks)|_,_=>false)
mutual
def wz (c:Codex) (m:List (Int × Int)):Ex->Int->Int->Bool × Int
 | .mk op n u den ps ks,depth,cnt=>
  if 400<cnt+1\/40<depth\/wg u=false then (false,cnt+1)
  else match qm c m ks (depth+1) (cnt+1) with
   |(true,cnt')=>(zdd c m op n u den ps ks,cnt')
   |(false,cnt')=>(false,cnt')
def qm (c:Codex) (m:List (Int × Int)):List Ex->Int->Int->Bool × Int
 |[],_,cnt=>(true,cnt)
 |k::r,depth,cnt=>match wz c m k depth cnt with
  |(true,cnt')=>qm c m r depth cnt'
  |(false,cnt')=>(false,cnt')
end
theorem zyu (c:Codex) (m:List (Int × Int)) (N:Nat):(∀e:Ex,SizeOf.sizeOf e<N->∀d cnt:Int,cnt+1<=(wz c m e d cnt).2/\((wz c m e d cnt).1=true->(wz c m e d cnt).2<=400))/\
  (∀ks:List Ex,SizeOf.sizeOf ks<N->∀d cnt:Int,cnt<=(qm c m ks d cnt).2/\(cnt<=400->(qm c m ks d cnt).1=true->(qm c m ks d cnt).2<=400)):=by
 induction N with
 |zero=>exact ⟨fun e h=>by omega,fun e h=>by omega⟩
 |succ N ih=>
  refine ⟨fun e he d cnt=>?_,fun ks hk d cnt=>?_⟩
  ·obtain ⟨op,n,u,den,ps,ks⟩:=e
   simp only [Ex.mk.sizeOf_spec] at he;have:=ih.2 ks (by omega) (d+1) (cnt+1);simp only [wz];split
   ·exact ⟨Int.le_refl _,fun h=>by cases h⟩
   ·rename_i hc
    revert this
    cases qm c m ks (d+1) (cnt+1) with
    |mk b q=>
     cases b with
     |true=>simp only;intro h;exact ⟨h.1,fun _=>h.2 (by omega) trivial⟩
     |false=>simp only;intro h;exact ⟨h.1,fun h=>by cases h⟩
  ·cases ks with
   |nil=>simp [qm]
   |cons k r=>
    simp only [List.cons.sizeOf_spec] at hk;have h1:=ih.1 k (by omega) d cnt;simp only [qm]
    revert h1
    cases wz c m k d cnt with
    |mk b q=>
     cases b with
     |true=>
      simp only;intro h1;have h2:=ih.2 r (by omega) d q;exact ⟨by omega,fun hc h=>h2.2 (h1.2 trivial) h⟩
     |false=>simp only;intro h1;exact ⟨by omega,fun _ h=>by cases h⟩
def qy (c:Codex) (m:List (Int × Int)) (e:Ex) (u:ByteArray):Bool × Int:=if e.unit=u then wz c m e 1 0 else (false,0)
def zbz (a:Article):Bool:=decide (0<=a.rank)&&decide (a.rank<=1000000)&&decide (0<=a.lo)&&decide (a.lo<a.hi)&&decide (a.hi<=36525)&&decide (0<=a.known)&&decide (a.known<=36524)
def zgl (c:Codex) (i:Int):ByteArray:=match c.lines[i.toNat]? with|some d=>d.unit|none=>⟨#[]⟩
def zms (c:Codex) (m:List (Int × Int)) (a:Article):Bool:=
 zbz a&&a.unless_.all (fun n=>(zy n m).isSome)&&a.when_.all (fun e=>(qy c m e tT).1)&&(qy c m a.amount (zgl c a.line)).1
def zkd (a:Article) (op n:Int) (u:ByteArray) (den:Int) (ps:List Piece) (ks:List Ex):List SV:=
 [sI a.number,sI a.line,sI a.rank,sI a.lo,sI a.hi,sI a.known,.imm (qp a.when_),.imm (ye a.unless_),sI op,sI n,sS u,sI den,.imm (.isl 3 (ps.map Piece.cells)),.imm (.isl 6 (zj ks))]
def wo (nl : Int) : List Article -> List (Int × Int) -> Option (List (Int × Int))
  | [], m => some m
  | a :: r, m => if 1 <= a.number /\ a.number <= 1000000 /\ 0 <= a.line /\ a.line < nl then
      (match zy a.number m with
      | some l => if l = a.line then wo nl r (zdg a.number a.line m) else none
      | none => wo nl r (zdg a.number a.line m))
    else none
def qd (c : Codex) : Bool :=
  decide (c.facts.length <= 32) && decide (c.lines.length <= 32) && decide (c.arts.length <= 60) && wt 0 0 c.facts && wt 1 4 c.lines &&
  (match wo c.lines.length c.arts [] with
  | some m => c.arts.all (zms c m)
  | none => false)
def Codex.fit (c:Codex):Prop:=∀a∈c.arts,a.unless_.length<=9223372036854775807/\a.when_.length<=9223372036854775807
theorem zlf (nl:Int):∀(l:List Article) (m0 m:List (Int × Int)),wo nl l m0=some m->(∀k v,zy k m0=some v->0<=v/\v<nl)->(∀k v,zy k m=some v->0<=v/\v<nl)/\∀a∈l,0<=a.line/\a.line<nl
 |[],m0,m,h,h0=>by simp [wo] at h;subst h;exact ⟨h0,by simp⟩
 |a::r,m0,m,h,h0=>by
  simp only [wo] at h;split at h
  ·rename_i hc
   have h1:∀k v,zy k (zdg a.number a.line m0)=some v->0<=v/\v<nl:=fun k v hk=>by
    rw [zfi] at hk;split at hk
    ·cases hk;exact ⟨hc.2.2.1,hc.2.2.2⟩
    ·exact h0 k v hk
   have key:wo nl r (zdg a.number a.line m0)=some m->_:=fun h=>zlf nl r _ m h h1
   have hm:wo nl r (zdg a.number a.line m0)=some m:=by
    split at h
    ·split at h
     ·exact h
     ·cases h
    ·exact h
   obtain ⟨g1,g2⟩:=key hm;refine ⟨g1,fun x hx=>?_⟩;rcases List.mem_cons.1 hx with rfl|hx
   ·exact ⟨hc.2.2.1,hc.2.2.2⟩
   ·exact g2 x hx
  ·cases h
abbrev zce (l:List Int):List Int:=l.mergeSort fun x y=>decide (x<=y)
abbrev xaf:SV:=.imm (.val (.slice none 0 0))
def yhz (r:SV) (n:Int):SV:=.tup [r,sI n]
theorem ycr (k:Nat) (rows:List (List D)) (h:∀r∈rows,r.length=k):jc k rows.flatten rows.length=rows:=by
 induction rows with
 |nil=>rfl
 |cons r rows ih=>
  have hr:=h r (by simp);simp only [List.flatten_cons,List.length_cons,jc];rw [List.take_append_of_le_length (by omega),List.take_of_length_le (by omega),List.drop_append_of_le_length (by omega),List.drop_of_length_le (by omega),List.nil_append,ih (fun r hr=>h r (by simp [hr]))]
def View.cs (v:View):List SV:=[sI v.day,.imm (zbn v.has),.imm (ye v.value),.imm (ye v.arts)]
def bs (l:List UInt8):ByteArray:=⟨l.toArray⟩
mutual
def xg:Ex->Nat
 | .mk _ _ _ _ _ ks=>yr ks+1
def yr:List Ex->Nat
 |[]=>0
 |k::r=>xg k+yr r
end
mutual
def zcr:Ex->Nat
 | .mk _ _ _ _ _ ks=>zca ks+1
def zca:List Ex->Nat
 |[]=>0
 |k::r=>max (zcr k) (zca r)
end
theorem yia (e:Ex):1<=xg e:=by cases e;simp [xg]
theorem zqw (a b:List Ex):yr (a++b)=yr a+yr b:=by
 induction a with
 |nil=>simp [yr]
 |cons k a ih=>simp [yr,ih];omega
theorem zcs (a:List Ex):a.length<=yr a:=by
 induction a with
 |nil=>simp
 |cons k a ih=>have:=yia k;simp [yr];omega
theorem zgm {a:List Ex} {k:Ex} (h:k∈a):xg k<=yr a:=by
 induction a with
 |nil=>cases h
 |cons x a ih=>
  rcases List.mem_cons.1 h with rfl|h
  ·simp [yr]
  ·have:=ih h;simp [yr];omega
theorem znq (a:List Ex) (n:Nat):zca a<=n ↔ ∀k∈a,zcr k<=n:=by
 induction a with
 |nil=>simp [zca]
 |cons x a ih=>simp [zca,Nat.max_le,ih]
def xi (n:Nat) (L:Int):Int:=if L<=0 then 0 else if (n:Int)<=L then n else L
theorem zdp (n:Nat) (L:Int) (h:0<L):((n:Int)<=L/\xi n L=n)\/(L<n/\xi n L=L):=by
 simp only [xi];rw [if_neg (by omega)];split<;>omega
theorem zyv (a s:Nat) (L:Int) (h0:0<L) (h:xi (a+1) L<L):xi (a+1) L+xi s (L-xi (a+1) L)=xi (a+s+1) L/\xi (a+1) L=((a+1:Nat):Int)/\xi (a+s+1) L<=L/\0<=xi (a+s+1) L:=by
 have h1:=zdp (a+1) L h0;have h2:=zdp s (L-xi (a+1) L) (by omega);have h3:=zdp (a+s+1) L h0;omega
theorem yib (N:Nat):∀(e:Ex),SizeOf.sizeOf e<N->∀L:Int,0<=L->L<=1000000->zv Tryz.prog G 135 [e.sv,sI L] (sI (xi (xg e) L)):=by
 induction N with
 |zero=>intro e h;omega
 |succ N IH=>
 intro e he L hL0 hL;obtain ⟨op,n,u,den,ps,ks⟩:=e;simp only [Ex.mk.sizeOf_spec] at he;have hrows:=zx ks;have hlen:(zj ks).length=ks.length:=by rw [hrows];simp
 refine zf Tryz.func135 rfl (by rw [Tryz.ntmps135];simp) rfl rfl ?_;intro E hH hK;(refine zm ?_;conv=>whnf)
 repeat' ((with_reducible refine way ?_ ?_)<;>(intro h;conv=>whnf))
 ·exact kI hK (by simp only [xi];rw [if_pos h])
 refine zi [1,2,5,6] ?_;refine yx (σ:=List Ex × List Ex × Int) (fun x=>[(1,sI L),(2,.ptr 0 0),(5,sI x.2.2),(6,sI x.1.length)])
  (fun _=>[.cells ((Ex.mk op n u den ps ks).cells.map .imm)])
  (fun x=>ks=x.1++x.2.1/\(x.1.length:Int)<=L/\x.2.2=xi (yr x.1+1) L) (fun x=>x.2.1.length) ?_ ([],ks,1) ⟨rfl,by simp;omega,by have:=zdp (0+1) L (by omega);simp only [yr];omega⟩
 rintro ⟨done,rest,cnt⟩ ⟨ha,hl,hcnt⟩ ih
 dsimp only at ha hl hcnt ih ⊢
 subst hcnt;have hl1:done.length+rest.length=ks.length:=by rw [ha];simp
 have hsz:yr ks=yr done+yr rest:=by rw [ha,zqw]
 have hdl:=zcs done;have jf:∀H,(rest=[]\/L<=xi (yr done+1) L)->E.K (sI (xi (yr done+1) L)) H:=fun H hc=>by
  have:xi (xg (.mk op n u den ps ks)) L=xi (yr done+1) L:=by
   simp only [xg,hsz];rcases hc with rfl|hc
   ·simp [yr]
   ·revert hc
    simp only [xi];split
    ·intro hc;rfl
    ·split<;>split<;>intros<;>omega
  rw [this] at hK;exact hK H
 cases rest with
 |nil=>
  simp at hl1;(refine zm ?_;conv=>whnf)
  repeat' ((with_reducible refine way ?_ ?_)<;>(intro h;conv=>whnf))
  all_goals try (exfalso;omega)
  exact jf _ (.inl rfl)
 |cons k rest=>
  simp at hl1;have hkm:SizeOf.sizeOf k<SizeOf.sizeOf ks:=List.sizeOf_lt_of_mem (by rw [ha];simp);have hrow:(zj ks)[((done.length:Nat):Int).toNat]?=some k.cells:=by rw [hrows];simp [ha]
  have hcc:0<L->1<=xi (yr done+1) L/\xi (yr done+1) L<=L:=fun h0=>by
   simp only [xi];split
   ·omega
   ·split<;>omega
  (refine zm ?_;conv=>whnf)
  repeat' ((with_reducible refine way ?_ ?_)<;>(intro h;conv=>whnf))
  all_goals try (exfalso;omega)
  ·have h3:=hcc (by omega)
   have hw1:IntKind.i64.wrap (L-xi (yr done+1) L)=L-xi (yr done+1) L:=yg (by omega) (by omega);have hw:IntKind.i64.wrap ((done.length:Int)+1)=(((done++[k]).length:Nat):Int):=by rw [yg (by omega) (by omega)];simp
   obtain ⟨o1,n1,u1,d1,p1,q1⟩:=k;refine zh rfl rfl  (row:=(Ex.mk o1 n1 u1 d1 p1 q1).cells) hrow ?_;(refine zn ?_;conv=>whnf);rw [hw1];refine ze rfl  (IH (.mk o1 n1 u1 d1 p1 q1) (by omega) (L-xi (yr done+1) L) (by omega) (by omega)) ?_;(refine zn ?_;conv=>whnf);have hst:=zyv (yr done) (xg (.mk o1 n1 u1 d1 p1 q1)) L (by omega) (by assumption);have e1:yr (done++[Ex.mk o1 n1 u1 d1 p1 q1])=yr done+xg (.mk o1 n1 u1 d1 p1 q1):=by rw [zqw];simp [yr]
   have hsum:IntKind.i64.wrap (xi (yr done+1) L+xi (xg (.mk o1 n1 u1 d1 p1 q1)) (L-xi (yr done+1) L))=xi (yr (done++[.mk o1 n1 u1 d1 p1 q1])+1) L:=by
    rw [hst.1,e1,yg (by omega) (by omega)]
   rw [hsum,hw];refine yq [1,2,5,6] 1 (by simp [hH]) (by simp) rfl rfl (ih (done++[Ex.mk o1 n1 u1 d1 p1 q1],rest,xi (yr (done++[Ex.mk o1 n1 u1 d1 p1 q1])+1) L) ⟨by simp [ha],?_,rfl⟩ (by simp));have h9:=hst.2.1;simp;omega
  ·exact jf _ (.inr (by omega))
theorem zmt (e:Ex) (L:Int) (h0:0<=L) (h1:L<=999999):zv Tryz.prog G 101 [e.sv,sI L] (sB (decide ((xg e:Int)<=L))):=by
 have hc:=yib G (SizeOf.sizeOf e+1) e (by omega) (L+1) (by omega) (by omega);obtain ⟨op,n,u,den,ps,ks⟩:=e;refine zf Tryz.func101 rfl (by rw [Tryz.ntmps101];simp) rfl rfl ?_;intro E hH hK;have hw:IntKind.i64.wrap (L+1)=L+1:=yg (by omega) (by omega);(refine zm ?_;conv=>whnf);rw [hw];refine ze rfl  hc ?_;(refine zn ?_;conv=>whnf)
 exact kB hK (decide_eq_decide.2 (by
  simp only [xi];rw [if_neg (by omega)]
  split<;>omega))
theorem ymh (N:Nat):∀(e:Ex),SizeOf.sizeOf e<N->xg e<=1000->∀L:Int,0<=L->L<=1000000->zv Tryz.prog G 155 [e.sv,sI L] (sB (decide ((zcr e:Int)<=L))):=by
 induction N with
 |zero=>intro e h;omega
 |succ N IH=>
 intro e he hs L hL0 hL;obtain ⟨op,n,u,den,ps,ks⟩:=e;simp only [Ex.mk.sizeOf_spec] at he;simp only [xg] at hs;have hrows:=zx ks;have hlen:(zj ks).length=ks.length:=by rw [hrows];simp
 have hkl:=zcs ks;refine zf Tryz.func155 rfl (by rw [Tryz.ntmps155];simp) rfl rfl ?_;intro E hH hK;(refine zm ?_;conv=>whnf)
 repeat' ((with_reducible refine way ?_ ?_)<;>(intro h;conv=>whnf))
 ·exact kB hK (decide_eq_false (by simp only [zcr];omega))
 have hw1:IntKind.i64.wrap (L-1)=L-1:=yg (by omega) (by omega);refine zi [1,2,5] ?_;refine zr ks (fun i (_:Unit)=>[(1,sI L),(2,.ptr 0 0),(5,sI i)]) (fun _ _=>[.cells ((Ex.mk op n u den ps ks).cells.map .imm)])
  (fun done _ _=>zca done<=(L-1).toNat) () (by simp [zca]) ?_ ?_
 ·rintro _ h1
  (refine zm ?_;conv=>whnf)
  repeat' ((with_reducible refine way ?_ ?_)<;>(intro h;conv=>whnf))
  all_goals try (exfalso;omega)
  exact kB hK (decide_eq_true (by simp only [zcr];omega))
 ·rintro done k rest _ ha hl h1 ih
  have hkm:SizeOf.sizeOf k<SizeOf.sizeOf ks:=List.sizeOf_lt_of_mem (by rw [ha];simp);have hks:xg k<=yr ks:=zgm (by rw [ha];simp);have hw:=zk (n:=done.length) (by omega);have hrow:(zj ks)[((done.length:Nat):Int).toNat]?=some k.cells:=by rw [hrows];simp [ha]
  have hcall:=IH k (by omega) (by omega) (L-1) (by omega) (by omega);have hbad:¬((zcr k:Int)<=L-1)->decide ((zcr (.mk op n u den ps ks):Int)<=L)=false:=fun hb=>by
   refine decide_eq_false ?_;simp only [zcr];intro hc;have:=(znq ks (L-1).toNat).1 (by omega) k (by rw [ha];simp);omega
  have hgood:(zcr k:Int)<=L-1->zca (done++[k])<=(L-1).toNat:=fun hb=>by
   rw [znq] at h1 ⊢;intro x hx;rcases List.mem_append.1 hx with hx|hx
   ·exact h1 x hx
   ·simp at hx;subst hx;omega
  obtain ⟨o1,n1,u1,d1,p1,q1⟩:=k;(refine zm ?_;conv=>whnf)
  repeat' ((with_reducible refine way ?_ ?_)<;>(intro h;conv=>whnf))
  all_goals try (exfalso;omega)
  refine zh rfl rfl  (row:=(Ex.mk o1 n1 u1 d1 p1 q1).cells) hrow ?_;(refine zn ?_;conv=>whnf);rw [hw1];refine ze rfl  hcall ?_;(refine zn ?_;conv=>whnf)
  repeat' ((with_reducible refine way ?_ ?_)<;>(intro h;conv=>whnf))
  ·exact kB hK (hbad h)
  ·rw [hw]
   exact yq [1,2,5] 1 (by simp [hH]) (by simp) rfl rfl (ih () (hgood h))
def zcx (e:Ex):Bool:=decide (xg e<=400)&&decide (zcr e<=40)
theorem zwd (e:Ex):zv Tryz.prog G 116 [e.sv] (sB (zcx e)):=by
 have hs:=zmt G e 400 (by omega) (by omega);have hf:=fun h=>ymh G (SizeOf.sizeOf e+1) e (by omega) h 40 (by omega) (by omega)
 have hw:zcx e=(decide ((xg e:Int)<=400)&&decide ((zcr e:Int)<=40)):=by
  simp only [zcx]
  congr 1
  ·exact decide_eq_decide.2 (by omega)
  ·exact decide_eq_decide.2 (by omega)
 rw [hw];obtain ⟨op,n,u,den,ps,ks⟩:=e;refine zf Tryz.func116 rfl (by rw [Tryz.ntmps116];simp) rfl rfl ?_;intro E hH hK;(refine zm ?_;conv=>whnf);refine ze rfl  hs ?_;(refine zn ?_;conv=>whnf)
 repeat' ((with_reducible refine way ?_ ?_)<;>(intro h;conv=>whnf))
 ·refine ze rfl  (hf (by omega)) ?_
  (refine zn ?_;conv=>whnf);exact kB hK (by simp only [decide_eq_true h,Bool.true_and])
 ·exact kB hK (by simp only [decide_eq_false h,Bool.false_and])
mutual
def zyw (c:Codex) (m:List (Int × Int)):Ex->Prop
 | .mk op n u den ps ks=>zdd c m op n u den ps ks=true/\zwe c m ks
def zwe (c:Codex) (m:List (Int × Int)):List Ex->Prop
 |[]=>True
 |e::r=>zyw c m e/\zwe c m r
end
theorem zqx {c:Codex} {m:List (Int × Int)}:∀{ks:List Ex},zwe c m ks->∀k∈ks,zyw c m k
 |_::_,h,k,hk=>by
  unfold zwe at h;rcases List.mem_cons.1 hk with rfl|hk
  ·exact h.1
  ·exact zqx h.2 k hk
theorem yun (c:Codex) (m:List (Int × Int)) (N:Nat):(∀e:Ex,SizeOf.sizeOf e<N->∀d cnt:Int,(wz c m e d cnt).1=true->zyw c m e/\(wz c m e d cnt).2=cnt+xg e)/\
  (∀ks:List Ex,SizeOf.sizeOf ks<N->∀d cnt:Int,(qm c m ks d cnt).1=true->zwe c m ks/\(qm c m ks d cnt).2=cnt+yr ks):=by
 induction N with
 |zero=>exact ⟨fun e h=>by omega,fun e h=>by omega⟩
 |succ N ih=>
  refine ⟨fun e he d cnt h=>?_,fun ks hk d cnt h=>?_⟩
  ·obtain ⟨op,n,u,den,ps,ks⟩:=e
   simp only [Ex.mk.sizeOf_spec] at he;have h1:=ih.2 ks (by omega) (d+1) (cnt+1);simp only [wz] at h ⊢;split at h
   ·cases h
   ·rename_i hc
    rw [if_neg hc]
    revert h h1
    cases qm c m ks (d+1) (cnt+1) with
    |mk b q=>
     cases b with
     |true=>
      intro h1 h;have h1:=h1 rfl;simp only at h h1 ⊢;refine ⟨?_,?_⟩
      ·unfold zyw;exact ⟨h,h1.1⟩
      ·rw [h1.2];unfold xg;omega
     |false=>intro _ h;cases h
  ·cases ks with
   |nil=>simp [qm,zwe,yr]
   |cons k r=>
    simp only [List.cons.sizeOf_spec] at hk;have h1:=ih.1 k (by omega) d cnt;simp only [qm] at h ⊢
    revert h h1
    cases wz c m k d cnt with
    |mk b q=>
     cases b with
     |true=>
      intro h h1;have h1:=h1 rfl;simp only at h h1 ⊢;have h2:=ih.2 r (by omega) d q h;refine ⟨?_,?_⟩
      ·unfold zwe;exact ⟨h1.1,h2.1⟩
      ·rw [h2.2,h1.2,yr];omega
     |false=>intro h;cases h
theorem zyx {c:Codex} {m:List (Int × Int)} {e:Ex} {u:ByteArray} (h:(qy c m e u).1=true):zyw c m e/\xg e<=400:=by
 unfold qy at h;split at h
 ·obtain ⟨h1,h2⟩:=(yun c m _).1 e (Nat.lt_succ_self _) 1 0 h
  have h3:=((zyu c m _).1 e (Nat.lt_succ_self _) 1 0).2 h;exact ⟨h1,by omega⟩
 ·cases h
theorem znr (nl:Int):∀(l:List Article) (m0 m:List (Int × Int)),wo nl l m0=some m->(∀k v,zy k m0=some v->1<=k/\k<=1000000)->∀k v,zy k m=some v->1<=k/\k<=1000000
 |[],m0,m,h,h0=>by simp [wo] at h;subst h;exact h0
 |a::r,m0,m,h,h0=>by
  simp only [wo] at h;split at h
  ·rename_i hc
   have h1:∀k v,zy k (zdg a.number a.line m0)=some v->1<=k/\k<=1000000:=fun k v hk=>by
    rw [zfi] at hk;split at hk
    ·rename_i e
     have e:k=a.number:=by simpa using e
     subst e;exact ⟨hc.1,hc.2.1⟩
    ·exact h0 k v hk
   have hm:wo nl r (zdg a.number a.line m0)=some m:=by
    split at h
    ·split at h
     ·exact h
     ·cases h
    ·exact h
   exact znr nl r _ m hm h1
  ·cases h
theorem zlg {c:Codex} (h:qd c=true):c.facts.length<=32/\c.arts.length<=60/\∃m,(∀k v,zy k m=some v->1<=k/\k<=1000000)/\∀a∈c.arts,
  zbz a=true/\a.unless_.all (fun n=>(zy n m).isSome)=true/\(∀e∈a.when_,zyw c m e/\xg e<=400)/\zyw c m a.amount/\xg a.amount<=400:=by
 unfold qd at h;simp only [Bool.and_eq_true,decide_eq_true_eq] at h;obtain ⟨⟨⟨⟨⟨h1,h2⟩,h3⟩,h4⟩,h5⟩,h6⟩:=h;refine ⟨h1,h3,?_⟩;cases hl:wo c.lines.length c.arts [] with
 |none=>rw [hl] at h6;cases h6
 |some m=>
  rw [hl] at h6;simp only [List.all_eq_true] at h6;refine ⟨m,znr _ _ _ _ hl (fun k v h=>by cases h),fun a ha=>?_⟩;have:=h6 a ha;unfold zms at this;simp only [Bool.and_eq_true,List.all_eq_true] at this;obtain ⟨⟨⟨g1,g2⟩,g3⟩,g4⟩:=this;exact ⟨g1,List.all_eq_true.2 g2,fun e he=>zyx (g3 e he),zyx g4⟩
theorem yuo {c:Codex} {m:List (Int × Int)} {op n:Int} {u:ByteArray} {den:Int} {ps:List Piece} {ks:List Ex} (h:zdd c m op n u den ps ks=true):ps.length<=64:=by
 unfold zdd at h;split at h
 ·simp only [Bool.and_eq_true,jb,decide_eq_true_eq] at h
  exact h.2.1.2
 ·split at h
  ·cases h
  ·rename_i hh
   omega
def ycs (d:Int):Nat:=((List.range 1200).filter fun m=>decide (ycp (m+1)<=d)).length
def yfi (d:Int):Int × Int × Int:=
 if 0<=d/\d<=36524 then (2000+(ycs d / 12:Nat),(ycs d % 12:Nat)+1,d-ycp (ycs d)+1) else (0,0,0)
def ywv (d:Int):Int:=if 0<=d/\d<=36524 then (d+5).tmod 7+1 else 0
def inR (n:Int):Bool:=decide (-1000000000000<=n)&&decide (n<=1000000000000)
def b2i (b:Bool):Int:=if b then 1 else 0
abbrev PV:=Int × Bool
def noV:PV:=(0,false)
def yyw (a b:Int):PV:=if b≠0/\Int.tdiv 1000000000000 (max b (-b))<max a (-a) then noV else (a*b,true)
def yyx (a b:Int):PV:=if b<=0 then noV else (if a.tmod b<0 then a.tdiv b-1 else a.tdiv b,true)
def ysn (p den:Int):Int:=
 let q:=if p.tmod den<0 then p.tdiv den-1 else p.tdiv den
 let r:=if p.tmod den<0 then p.tmod den+den else p.tmod den
 if 2*r=den then (if q.tmod 2≠0 then q+1 else q) else if den<2*r then q+1 else q
def yso (cents num den:Int):Int × Int:=
 if inR cents=false\/num< -1000000\/1000000<num\/den<1\/1000000<den then (0,1)
 else if inR (ysn (cents*num) den) then (ysn (cents*num) den,0) else (0,3)
def yqu (minutes cents:Int):PV:=((yso cents minutes 60).1,decide ((yso cents minutes 60).2=0))
def yup (ps:List Piece) (x:Int):Option Piece:=(ps.filter fun p=>decide (p.lo<=x)).getLast?
def yuq (ps:List Piece) (x:Int):Int:=match yup ps x with|some p=>p.at_+p.slope*(x-p.lo)|none=>0
def yur (a b:Int):Int:=if a.tmod b<0 then a.tdiv b-1 else a.tdiv b
def ysp (den:Int) (ps:List Piece) (x:Int):Int × Int:=
 if jb den ps=false\/x<0\/1000000000000<x then (0,1)
 else
  let n:=yuq ps x
  let q:=yur n den
  let t:=2*(n-q*den)
  let r:=if den<t\/(t=den/\q.tmod 2≠0) then q+1 else q
  if inR r then (r,0) else (0,3)
def yyy (op a b:Int):PV:=
 if op=8 then (b2i (decide (a=b)),true) else if op=9 then (b2i (decide (a<b)),true) else if op=10 then (b2i (decide (a<=b)),true)
 else if op=11 then (a+b,true) else if op=12 then (a-b,true) else if op=13 then yyw a b else if op=14 then yyx a b else if op=15 then yqu a b else noV
def ymi (and_:Bool) (x y:PV):PV:=
 if (x.2&&(decide (x.1=0)==and_))||(y.2&&(decide (y.1=0)==and_)) then (b2i (!and_),true) else (b2i and_,x.2&&y.2)
def yww (least:Bool):Int->List PV->PV
 |acc,[]=>(acc,true)
 |acc,x::r=>if x.2 then yww least (if least then min acc x.1 else max acc x.1) r else noV
def ymj (least:Bool):List PV->PV
 |[]=>noV
 |x::r=>if x.2 then yww least x.1 r else noV
def ywx (V:View) (am:List (Int × Int)) (op n:Int):PV:=
 if op=1 then (n,true)
 else if op=2 then
  (if n<0\/(V.has.length:Int)<=n\/(V.value.length:Int)<=n\/V.has.getD n.toNat false=false then noV else (V.value.getD n.toNat 0,true))
 else if op=3 then ((zy n am).getD 0,true)
 else if (yfi V.day).1=0 then noV
 else if n=1 then (ywv V.day,true) else if n=2 then ((yfi V.day).2.2,true) else if n=3 then ((yfi V.day).2.1,true) else if n=4 then ((yfi V.day).1,true) else noV
def yyz (op den:Int) (ps:List Piece) (a:Int):PV:=
 if op=5 then (b2i (decide (a=0)),true) else ((ysp den ps (max a 0)).1,decide ((ysp den ps (max a 0)).2=0))
def yza (V:View) (am:List (Int × Int)) (op n den:Int) (ps:List Piece) (vs:List PV):PV:=
 if 1<=op/\op<=4 then (if vs.length=0 then ywx V am op n else noV)
 else if op=16\/op=17 then ymj (decide (op=16)) vs
 else if op=5\/op=18 then (match vs with|[x]=>if x.2 then yyz op den ps x.1 else noV|_=>noV)
 else match vs with
  |[x,y]=>if op=6\/op=7 then ymi (decide (op=6)) x y else if x.2&&y.2 then yyy op x.1 y.1 else noV
  |_=>noV
def xag (x:PV):PV:=if x.2&&inR x.1 then x else noV
mutual
def yzb (V:View) (am:List (Int × Int)):Ex->PV
 | .mk op n _ den ps ks=>xag (yza V am op n den ps (ysq V am ks))
def ysq (V:View) (am:List (Int × Int)):List Ex->List PV
 |[]=>[]
 |e::r=>yzb V am e::ysq V am r
end
def Piece.key (p:Piece):Int × Int × Int:=(p.lo,p.at_,p.slope)
mutual
def zyy:Ex->Ex->Bool
 | .mk op n u den ps ks,.mk op' n' u' den' ps' ks'=>decide (op=op')&&decide (n=n')&&decide (u=u')&&decide (den=den')&&decide (ps.map Piece.key=ps'.map Piece.key)&&ztd ks ks'
def ztd:List Ex->List Ex->Bool
 |[],[]=>true
 |a::r,b::s=>zyy a b&&ztd r s
 |[],_::_=>false
 |_::_,[]=>false
end
def yus (list parts:List Ex):Bool:=parts.all fun p=>list.any fun e=>zyy e p
def zdj (c:Codex) (i:Int):Option Article:=if i<0 then none else c.arts[i.toNat]?
def yut (c:Codex) (i j:Int):Bool:=
 match zdj c i,zdj c j with
 |some x,some y=>
  if x.line≠y.line\/x.number=y.number then false
  else if x.rank≠y.rank then decide (y.rank<x.rank)
  else if yus x.when_ y.when_≠yus y.when_ x.when_ then yus x.when_ y.when_
  else decide (y.known<x.known)
 |_,_=>false
mutual
def wq:Ex->List Int
 | .mk op n _ _ _ ks=>(if op=3 then [n] else [])++ziq ks
def ziq:List Ex->List Int
 |[]=>[]
 |e::r=>wq e++ziq r
end
def yct (a:Article):List Int:=a.unless_++ziq a.when_++wq a.amount
def ysr (c:Codex) (names:List Int) (v:Int):List Article->Nat->List Int
 |[],_=>[]
 |a::r,i=>(if a.number∈names\/yut c i v=true then [(i:Int)] else [])++ysr c names v r (i+1)
def yzc (c:Codex) (v:Int):List Int:=match zdj c v with|some a=>ysr c (yct a) v c.arts 0|none=>[]
structure Efct where
 art:Int
 state:Int
 by_:Int
 amount:Int
def Efct.cells (e:Efct):List D:=[dI e.art,dI e.state,dI e.by_,dI e.amount]
def Efct.sv (e:Efct):SV:=.agg [sI e.art,sI e.state,sI e.by_,sI e.amount]
def ymk (c:Codex) (i:Int):Int:=match zdj c i with|some a=>a.number|none=>0
abbrev wi (n:Int):Int:=IntKind.i64.wrap n
def zhv (a b:Int):Int:=if a.tmod b<0 then wi (wi (a.tdiv b)-1) else wi (a.tdiv b)
def zyz (a b:Int):Int:=
 if b<wi (2*wi (a-wi (zhv a b*b)))\/(wi (2*wi (a-wi (zhv a b*b)))=b/\¬(zhv a b).tmod 2=0) then wi (zhv a b+1) else zhv a b
def zjl:Piece->List Piece->Int->Piece
 |p,[],_=>p
 |p,o::r,x=>zjl (if o.lo<=x then o else p) r x
def ywc (den:Int) (ps:List Piece) (x:Int):Int:=
 match ps with
 |[]=>0
 |p0::r=>zyz (wi ((zjl p0 (p0::r) x).at_+wi ((zjl p0 (p0::r) x).slope*wi (x-(zjl p0 (p0::r) x).lo)))) den
def mxA (a b:Int):Int:=if b>a then b else a
def mnA (a b:Int):Int:=if b<a then b else a
def ywy (a b:Int):Bool:=decide (b=0)||decide (mxA a (wi (0-a))<=wi (Int.tdiv 1000000000000 (mxA b (wi (0-b)))))
def zqy (op a b:Int):Option Int:=
 if op=8 then some (b2i (decide (a=b)))
 else if op=9 then some (b2i (decide (a<b)))
 else if op=10 then some (b2i (decide (a<=b)))
 else if op=11 then some (wi (a+b))
 else if op=12 then some (wi (a-b))
 else if op=13 then (if ywy a b=true then some (wi (a*b)) else none)
 else if op=14 then (if 0<b then some (zhv a b) else none)
 else if op=15 then (if-1000000<=a/\a<=1000000 then some (zyz (wi (a*b)) 60) else none)
 else if op=16 then some (mnA a b)
 else some (mxA a b)
def ycu (y:Int):Int:=if y.tmod 4=0 then 366 else 365
def yGo:Nat->Int->Int->Int × Int
 |0,y,r=>(y,r)
 |f+1,y,r=>if ycu y<=r then yGo f (y+1) (r-ycu y) else (y,r)
def yuu (y:Int):List Int:=[31,ycu y-337,31,30,31,30,31,31,30,31,30,31]
def mGo:List Int->Int->Int->Int × Int
 |[],m,r=>(m,r)
 |l::ls,m,r=>if l<=r then mGo ls (m+1) (r-l) else (m,r)
def yml (d:Int):List Int:=
 [(d+5).tmod 7+1,(mGo (yuu (yGo 200 2000 d).1) 0 (yGo 200 2000 d).2).2+1,(mGo (yuu (yGo 200 2000 d).1) 0 (yGo 200 2000 d).2).1+1,(yGo 200 2000 d).1]
structure AM where
 day:Int
 has:List Bool
 vals:List Int
 nums:List Int
def yic (dec:Bool):Bool->List (Option Int)->Option Int
 |complete,[]=>if complete then some (b2i (!dec)) else none
 |complete,v::r=>if v.isSome&&((!decide (v.getD 0=0))==dec) then some (b2i dec) else yic dec (complete&&v.isSome) r
def zqz (op:Int):Int->List (Option Int)->Option Int
 |a,[]=>some a
 |_,none::_=>none
 |a,some b::r=>match zqy op a b with|some n=>zqz op n r|none=>none
def ykc (S:AM) (am:List (Int × Int)) (op n den:Int) (ps:List Piece) (vs:List (Option Int)):Option Int:=
 if op=1 then some n
 else if op=2 then (if S.has.getD n.toNat false=true then some (S.vals.getD n.toNat 0) else none)
 else if op=3 then some ((zy n am).getD 0)
 else if op=4 then some ((yml S.day).getD (n-1).toNat 0)
 else if op=6 then yic false true vs
 else if op=7 then yic true true vs
 else match vs with
  |[]=>none
  |none::_=>none
  |some v::r=>if op=5 then some (b2i (decide (v=0))) else if op=18 then some (ywc den ps (mxA v 0)) else zqz op v r
def yqv (x:Option Int):Option Int:=match x with|some n=>if-1000000000000<=n/\n<=1000000000000 then some n else none|none=>none
mutual
def zct (S:AM) (am:List (Int × Int)):Ex->Option Int
 | .mk op n _ den ps ks=>yqv (ykc S am op n den ps (yqw S am ks))
def yqw (S:AM) (am:List (Int × Int)):List Ex->List (Option Int)
 |[]=>[]
 |e::r=>zct S am e::yqw S am r
end
theorem yqx (S:AM) (am:List (Int × Int)) (l:List Ex):yqw S am l=l.map (zct S am):=by
 induction l with
 |nil=>rfl
 |cons e r ih=>simp [yqw,ih]
def ykd (all some_:List Ex):Bool:=some_.all fun p=>all.any fun e=>zyy p e
def zwf (x y:Article):Bool:=
 if ¬x.line=y.line\/x.number=y.number then false
 else if ¬x.rank=y.rank then decide (y.rank<x.rank)
 else if ¬ykd x.when_ y.when_=ykd y.when_ x.when_ then ykd x.when_ y.when_
 else decide (y.known<x.known)
def ztx (a o:Article):Bool:=decide (o.number∈yct a)||zwf o a
def zhw (c:Codex) (i j:Int):Bool:=match zdj c i,zdj c j with|some a,some o=>ztx a o|_,_=>false
def zlh (d:Decl) (person:ByteArray) (day known:Int) (s:Bool × Int × Int) (x:Fact × Nat):Bool × Int × Int:=
 if ¬x.1.person=person\/¬x.1.name=d.name\/day<x.1.lo\/x.1.hi<=day\/known<x.1.known then s
 else (!x.1.gone&&(!decide (d.unit=tT)||decide (x.1.value=0)||decide (x.1.value=1)),x.1.value,x.2)
def zfs (l:List Fact) (person:ByteArray) (day known:Int) (d:Decl):Bool × Int × Int:=l.zipIdx.foldl (zlh d person day known) (false,0,0)
def zax (c:Codex) (l:List Fact) (person:ByteArray) (day known:Int):AM:=
 ⟨day,c.facts.map fun d=>(zfs l person day known d).1,c.facts.map fun d=>(zfs l person day known d).2.1,c.facts.map fun d=>(zfs l person day known d).2.2⟩
def zbd (c:Codex) (day known:Int) (m:List (Int × Int)) (x:Article × Nat):List (Int × Int):=
 if day<x.1.lo\/x.1.hi<=day\/known<x.1.known then m
 else match zy x.1.number m with
  |none=>zdg x.1.number x.2 m
  |some o=>match zdj c o with
   |some b=>if b.known<=x.1.known then zdg x.1.number x.2 m else m
   |none=>m
def yqy (c:Codex) (day known:Int):List (Int × Int):=c.arts.zipIdx.foldl (zbd c day known) []
def yid (c:Codex) (i:Nat):Int:=((List.range c.arts.length).filter fun (j:Nat)=>zhw c i j).length
def yqz (c:Codex) (j:Int):List Int:=((List.range c.arts.length).filter fun (i:Nat)=>zhw c i j).map fun (i:Nat)=>(i:Int)
def zey (s:List Int × List Int) (i:Int):List Int × List Int:=
 (s.1.set i.toNat (s.1.getD i.toNat 0-1),if s.1.getD i.toNat 0-1=0 then s.2++[i] else s.2)
def ju (c:Codex):Nat->Nat->List Int × List Int->List Int × List Int
 |0,_,s=>s
 |f+1,next,s=>match s.2[next]? with
  |none=>s
  |some v=>ju c f (next+1) ((yqz c v).foldl zey s)
def zdq (c:Codex):List Int × List Int:=
 ((List.range c.arts.length).map (yid c),((List.range c.arts.length).filter fun (i:Nat)=>decide (yid c i=0)).map fun (i:Nat)=>(i:Int))
def ybg (c:Codex):List Int:=(ju c (c.arts.length+1) 0 (zdq c)).2
def inA (c:Codex) (day known:Int):List Int:=zce ((yqy c day known).map (·.2))
def ywz (c:Codex) (a:Article) (o:Int):Bool:=match zdj c o with|some b=>decide (b.number∈a.unless_)||zwf b a|none=>false
def zgn (c:Codex) (a:Article) (v:Int) (st:List (Int × Int)) (o:Int):List (Int × Int):=
 if (zy o st).getD 0=2/\¬o=v/\ywz c a o=true then zdg v 1 st else st
def ymm (S:AM) (am:List (Int × Int)) (a:Article):Bool:=
 (zct S am a.amount).isSome&&a.when_.all fun w=>(zct S am w).isSome&& !decide ((zct S am w).getD 0=0)
def zte (c:Codex) (S:AM) (inF:List Int) (s:List (Int × Int) × List (Int × Int)) (v:Int):List (Int × Int) × List (Int × Int):=
 match zdj c v with
 |none=>s
 |some a=>
  if v∈inF then
   if ymm S s.2 a=true then
    let st:=inF.foldl (zgn c a v) (zdg v 2 (zdg v 0 s.1))
    (st,if (zy v st).getD 0=2 then zdg a.number ((zct S s.2 a.amount).getD 0) s.2 else s.2)
   else (zdg v 0 s.1,s.2)
  else s
def yxa (c:Codex) (S:AM) (inF seq:List Int):List (Int × Int) × List (Int × Int):=seq.foldl (zte c S inF) ([],[])
mutual
def zay:Ex->List Bool->List Bool
 | .mk op n _ _ _ ks,used=>zft ks (if op=2 then used.set n.toNat true else used)
def zft:List Ex->List Bool->List Bool
 |[],used=>used
 |e::r,used=>zft r (zay e used)
end
structure Ln where
 day:Int
 line:Int
 art:Int
 amount:Int
 facts:List Int
 rests:List Int
def zke (c:Codex) (a:Article):List Bool:=zft a.when_ (zay a.amount (List.replicate c.facts.length false))
def zhx (S:AM) (used:List Bool):List Int:=Go.Lib.compact (zce (((List.range used.length).filter fun i=>used.getD i false&&S.has.getD i false).map fun i=>S.nums.getD i 0))
def zty (a:Article) (n:Int):Bool:=decide (n∈wq a.amount)||decide (n∈ziq a.when_)
def zli (c:Codex) (inF:List Int) (st:List (Int × Int)) (a:Article):List Int:=
 inF.filter fun o=>zty a (ymk c o)&&decide ((zy o st).getD 0=2)
def zra (c:Codex) (S:AM) (inF:List Int) (s:List (Int × Int) × List (Int × Int)) (v:Int) (a:Article):Ln:=
 ⟨S.day,a.line,v,(zy a.number s.2).getD 0,zhx S (zke c a),zli c inF s.1 a⟩
def yfj (x y:Ln):Bool:=decide (x.line=y.line)&&decide (x.amount=y.amount)&&decide (x.facts=y.facts)&&decide (x.rests=y.rests)
def zgo (c:Codex) (S:AM) (inF:List Int) (s:List (Int × Int) × List (Int × Int)) (line:Ln):Bool:=
 match zdj c line.art with
 |some a=>if line.art∈inF/\(zy line.art s.1).getD 0=2 then yfj (zra c S inF s line.art a) line else false
 |none=>false
def qt (c:Codex) (l:List Fact) (person:ByteArray) (known:Int) (line:Ln):Bool:=
 qd c&&qr l&&(decide (0<=line.day)&&decide (line.day<=36524))&&(decide (0<=known)&&decide (known<=36524))&&decide ((ybg c).length=c.arts.length)&&
  zgo c (zax c l person line.day known) (inA c line.day known) (yxa c (zax c l person line.day known) (inA c line.day known) (ybg c)) line
def ypk (c:Codex) (i j:Nat):Int:=((List.range j).filter fun (j:Nat)=>zhw c i j).length
def yss (c:Codex) (i:Nat) (j:Nat):List Int:=((List.range i).filter fun (i:Nat)=>zhw c i j).map fun (i:Nat)=>(i:Int)
theorem zza (c:Codex) (i j:Nat):ypk c i (j+1)=ypk c i j+if zhw c i j=true then 1 else 0:=by
 unfold ypk;rw [List.range_succ,List.filter_append]
 by_cases h:zhw c i j=true
 ·simp [h]
 ·simp [h]
theorem zmu (c:Codex) (i j:Nat):0<=ypk c i j/\ypk c i j<=j:=by
 unfold ypk;have:=List.length_filter_le (fun (j:Nat)=>zhw c i j) (List.range j);simp only [List.length_range] at this;omega
theorem ymn (c:Codex) (i j:Nat):yss c (i+1) j=yss c i j++if zhw c i j=true then [(i:Int)] else []:=by
 unfold yss;rw [List.range_succ,List.filter_append,List.map_append]
 by_cases h:zhw c i j=true
 ·simp [h]
 ·simp [h]
theorem yra (c:Codex) (i j:Nat):(yss c i j).length<=i:=by
 unfold yss;have:=List.length_filter_le (fun (i:Nat)=>zhw c i j) (List.range i);simp only [List.length_map,List.length_range] at this ⊢;exact this
structure MInv (c:Codex) (i j:Nat) (M:List Int) (A:List (List Int)):Prop where
 ml:M.length=c.arts.length
 al:A.length=c.arts.length
 m:∀k,k<c.arts.length->M[k]?=some (if k<i then ypk c k c.arts.length else if k=i then ypk c i j else 0)
 a:∀k,k<c.arts.length->A[k]?=some (yss c i k++if k<j/\zhw c i k=true then [(i:Int)] else [])
theorem yie (c:Codex):MInv c 0 0 (List.replicate c.arts.length 0) (List.replicate c.arts.length []) where
 ml:=by simp
 al:=by simp
 m k hk:=by
  rw [List.getElem?_replicate,if_pos hk,if_neg (by omega)];split<;>rfl
 a k hk:=by
  rw [List.getElem?_replicate,if_pos hk,if_neg (by omega)];rfl
theorem yuv {c:Codex} {i j:Nat} {M:List Int} {A:List (List Int)} (h:MInv c i j M A) (hn:zhw c i j=false):MInv c i (j+1) M A where
 ml:=h.ml
 al:=h.al
 m k hk:=by
  rw [h.m k hk,zza,hn];simp
 a k hk:=by
  rw [h.a k hk]
  congr 2
  by_cases e:k=j
  ·subst e
   rw [if_neg (by omega),if_neg (by rw [hn];simp)]
  ·by_cases hlt:k<j
   ·simp [hlt,show k<j+1 by omega]
   ·simp [hlt,show ¬k<j+1 by omega]
theorem yrb {c:Codex} {i j:Nat} {M:List Int} {A:List (List Int)} (h:MInv c i j M A) (hn:zhw c i j=true) (hi:i<c.arts.length) (hj:j<c.arts.length):
  MInv c i (j+1) (M.set i (ypk c i j+1)) (A.set j (yss c i j++[(i:Int)])) where
 ml:=by rw [List.length_set];exact h.ml
 al:=by rw [List.length_set];exact h.al
 m k hk:=by
  rw [List.getElem?_set]
  by_cases e:i=k
  ·subst e
   rw [if_pos rfl,if_pos (by rw [h.ml];exact hi),if_neg (by omega),if_pos rfl,zza,if_pos hn]
  ·rw [if_neg e,h.m k hk,if_neg (Ne.symm e),if_neg (Ne.symm e)]
 a k hk:=by
  rw [List.getElem?_set]
  by_cases e:j=k
  ·subst e
   rw [if_pos rfl,if_pos (by rw [h.al];exact hj),if_pos ⟨by omega,hn⟩]
  ·rw [if_neg e,h.a k hk]
   by_cases hlt:k<j
   ·simp [hlt,show k<j+1 by omega]
   ·simp [hlt,show ¬k<j+1 by omega]
theorem ymo {c:Codex} {i:Nat} {M:List Int} {A:List (List Int)} (h:MInv c i c.arts.length M A):MInv c (i+1) 0 M A where
 ml:=h.ml
 al:=h.al
 m k hk:=by
  rw [h.m k hk]
  by_cases h1:k<i
  ·rw [if_pos h1,if_pos (by omega)]
  ·by_cases h2:k=i
   ·subst h2
    rw [if_neg h1,if_pos rfl,if_pos (by omega)]
   ·rw [if_neg h1,if_neg h2,if_neg (by omega)]
    split
    ·rfl
    ·rfl
 a k hk:=by
  have e:¬(k<0/\zhw c ((i+1:Nat):Int) k=true):=fun x=>absurd x.1 (Nat.not_lt_zero k)
  rw [h.a k hk,ymn,if_neg e,List.append_nil]
  congr 2
  simp [hk]
theorem yrc {c:Codex} {M:List Int} {A:List (List Int)} (h:MInv c c.arts.length 0 M A):M=(List.range c.arts.length).map (yid c)/\A=(List.range c.arts.length).map (fun (j:Nat)=>yqz c j):=by
 constructor
 ·apply List.ext_getElem?
  intro k;rcases Nat.lt_or_ge k c.arts.length with hk|hk
  ·rw [h.m k hk,if_pos hk,List.getElem?_map,List.getElem?_range hk]
   rfl
  ·rw [List.getElem?_eq_none (by rw [h.ml];exact hk),List.getElem?_eq_none (by simpa using hk)]
 ·apply List.ext_getElem?
  intro k;rcases Nat.lt_or_ge k c.arts.length with hk|hk
  ·rw [h.a k hk,if_neg (by omega),List.append_nil,List.getElem?_map,List.getElem?_range hk]
   rfl
  ·rw [List.getElem?_eq_none (by rw [h.al];exact hk),List.getElem?_eq_none (by simpa using hk)]
def yst (l:List Int):Nat:=l.countP fun x=>decide (1<=x)
structure SInv (c:Codex) (lo:Int) (s:List Int × List Int):Prop where
 len:s.1.length=c.arts.length
 rng:∀x∈s.1,lo<=x/\x<=c.arts.length
 cnt:s.2.length+yst s.1=c.arts.length
 mem:∀v∈s.2,0<=v/\v<c.arts.length
theorem zzb {c:Codex} {lo lo':Int} {s:List Int × List Int} (h:SInv c lo s) (hl:lo'<=lo):SInv c lo' s:=
 ⟨h.len,fun x hx=>⟨by have:=(h.rng x hx).1;omega,(h.rng x hx).2⟩,h.cnt,h.mem⟩
theorem ymp {c:Codex} {lo:Int} {s:List Int × List Int} (h:SInv c lo s) {i:Int} (h0:0<=i) (h1:i<c.arts.length):SInv c (lo-1) (zey s i):=by
 have hlt:i.toNat<s.1.length:=by rw [h.len];omega
 have hg:s.1.getD i.toNat 0=s.1[i.toNat]:=by rw [List.getD_eq_getElem?_getD,List.getElem?_eq_getElem hlt];rfl
 have hr:=h.rng _ (List.getElem_mem hlt);have hle:yst s.1<=s.1.length:=List.countP_le_length;have hp:yst (s.1.set i.toNat (s.1[i.toNat]-1))=(yst s.1-if decide (1<=s.1[i.toNat])=true then 1 else 0)+if decide (1<=s.1[i.toNat]-1)=true then 1 else 0:=List.countP_set hlt
 have hp1:1<=s.1[i.toNat]->1<=yst s.1:=fun hh=>List.countP_pos_iff.2 ⟨_,List.getElem_mem hlt,by simpa using hh⟩
 unfold zey;rw [hg];refine ⟨by rw [List.length_set];exact h.len,fun x hx=>?_,?_,fun v hv=>?_⟩
 ·rcases List.mem_or_eq_of_mem_set hx with hx|rfl
  ·have:=h.rng x hx
   omega
  ·omega
 ·have hc:=h.cnt
  show (if s.1[i.toNat]-1=0 then s.2++[i] else s.2).length+yst (s.1.set i.toNat (s.1[i.toNat]-1))=_;rw [hp]
  by_cases e1:s.1[i.toNat]-1=0
  ·have:=hp1 (by omega)
   rw [if_pos e1,if_pos (by simp;omega),if_neg (by simp;omega),List.length_append,List.length_singleton];omega
  ·rw [if_neg e1]
   by_cases e2:1<=s.1[i.toNat]
   ·have:=hp1 e2
    rw [if_pos (by simpa using e2),if_pos (by simp;omega)];omega
   ·rw [if_neg (by simpa using e2),if_neg (by simp;omega)]
    omega
 ·simp only at hv
  split at hv
  ·rcases List.mem_append.1 hv with hv|hv
   ·exact h.mem v hv
   ·rw [List.mem_singleton] at hv
    subst hv;exact ⟨h0,h1⟩
  ·exact h.mem v hv
theorem ztz (c:Codex):SInv c 0 (zdq c):=by
 refine ⟨by simp [zdq],fun x hx=>?_,?_,fun v hv=>?_⟩
 ·simp only [zdq,List.mem_map] at hx
  obtain ⟨k,_,rfl⟩:=hx;exact zmu c k c.arts.length
 ·have key:∀n:Nat,(((List.range n).filter fun (i:Nat)=>decide (yid c i=0)).map fun (i:Nat)=>(i:Int)).length+yst ((List.range n).map (yid c))=n:=fun n=>by
   induction n with
   |zero=>rfl
   |succ n ih=>
    have hr:=zmu c n c.arts.length;have hr:0<=yid c n:=hr.1;unfold yst at ih ⊢;rw [List.range_succ,List.filter_append,List.map_append,List.map_append,List.countP_append,List.length_append]
    by_cases e:yid c n=0
    ·simp [e] at ih ⊢
     omega
    ·have e1:1<=yid c n:=by omega
     simp [e,e1] at ih ⊢;omega
  exact key _
 ·simp only [zdq,List.mem_map,List.mem_filter,List.mem_range] at hv
  obtain ⟨k,hk,rfl⟩:=hv;omega
theorem yfk {c:Codex} {j v:Int} (h:v∈yqz c j):0<=v/\v<c.arts.length:=by
 simp only [yqz,List.mem_map,List.mem_filter,List.mem_range] at h;obtain ⟨k,hk,rfl⟩:=h;omega
theorem yrd (c:Codex) (j:Int):(yqz c j).length<=c.arts.length:=by
 unfold yqz;have:=List.length_filter_le (fun (i:Nat)=>zhw c i j) (List.range c.arts.length);simp only [List.length_map,List.length_range] at this ⊢;exact this
end Go.Proofs.YtjnddlifnkgncaaGreatDoor
namespace Go.Sh
section
variable {P:Program} {w:World}
theorem zrb {t:TypeId} {f0 f1 f2:Field} {k0 k1 k2:IntKind} {a b c a' b' c':Int} {x y z:IntKind} (hu:P.underlying t=some (.struct #[f0,f1,f2])) (hs:P.stoodInHeld t=false)
  (hn0:f0.name≠ "_") (hn1:f1.name≠ "_") (hn2:f2.name≠ "_") (ho0:f0.offset=0) (ho1:f1.offset=1) (ho2:f2.offset=2)
  (hi0:P.underlying f0.type=some (.int k0)) (hi1:P.underlying f1.type=some (.int k1)) (hi2:P.underlying f2.type=some (.int k2)):
  (Op.equal t (.agg #[.int x a,.int y b,.int z c]) (.agg #[.int x a',.int y b',.int z c'])).run P w= .ok (decide (a=a')&&(decide (b=b')&&decide (c=c'))) w:=by
 show (Op.equalIn (9998+1+1) t _ _).run P w=_;generalize 9998=n;rw [Op.equalIn];simp only [Sem.run_bind,run_underlying hu,Result.andThen_ok]
 simp [hs,hn0,hn1,hn2,ho0,ho1,ho2,zbm hi0 (cs:=#[.int x a,.int y b,.int z c]) (off:=0) rfl,zbm hi0 (cs:=#[.int x a',.int y b',.int z c']) (off:=0) rfl,
  zbm hi1 (cs:=#[.int x a,.int y b,.int z c]) (off:=1) rfl,zbm hi1 (cs:=#[.int x a',.int y b',.int z c']) (off:=1) rfl,
  zbm hi2 (cs:=#[.int x a,.int y b,.int z c]) (off:=2) rfl,zbm hi2 (cs:=#[.int x a',.int y b',.int z c']) (off:=2) rfl,zdy hi0,zdy hi1,zdy hi2,program,yey]
 by_cases h1:a=a'<;>by_cases h2:b=b'<;>by_cases h3:c=c'<;>simp [h1,h2,h3]
end
section
variable {P:Program} {G:List (Nat × D)} {fn:Func} {rd:Bool} {E:En P G fn rd} {t:List (Nat × SV)} {H:List SObj} {k:List Item}
variable {all:Array Oper} {o:Oper} {rest:List Oper}
theorem zzc {w:World} {I:Imm} {β:List Bnd} {v:Value} {a b c:Int} (h:Rep w I β v (.agg [.imm (.val (.int .i64 a)),.imm (.val (.int .i64 b)),.imm (.val (.int .i64 c))])):v= .agg #[.int .i64 a,.int .i64 b,.int .i64 c]:=by
 cases h with
 |agg vs _ h1 h2=>
  have key:∀(j:Nat) (h:j<vs.size) (x:Value) (hj:[SV.imm (.val (.int .i64 a)),SV.imm (.val (.int .i64 b)),SV.imm (.val (.int .i64 c))][j]?=some (.imm (.val x))),vs[j]=x:=by
   intro j h x hj;have h3:=h2 j (by rw [<-h1];exact h) h;rw [List.getElem?_eq_getElem (by rw [<-h1];exact h)] at hj;rw [Option.some.inj hj] at h3;generalize vs[j]=v at h3;cases h3 with|imm h3=>cases h3;rfl
  have hs:vs.size=3:=by simpa using h1
  congr 1
  apply Array.ext (by simp [hs])
  intro i hi1 hi2;have:i=0\/i=1\/i=2:=by omega
  rcases this with rfl|rfl|rfl
  ·exact key 0 hi1 _ rfl
  ·exact key 1 hi1 _ rfl
  ·exact key 2 hi1 _ rfl
theorem yif {ty ty':TypeId} {x y:Operand} {f0 f1 f2:Field} {k0 k1 k2:IntKind} {a b c a' b' c':Int} (hop:o.op= .binOp .neq ty x y ty')
  (hx:zo G t x= .agg [.imm (.val (.int .i64 a)),.imm (.val (.int .i64 b)),.imm (.val (.int .i64 c))]) (hy:zo G t y= .agg [.imm (.val (.int .i64 a')),.imm (.val (.int .i64 b')),.imm (.val (.int .i64 c'))])
  (hu:P.underlying ty=some (.struct #[f0,f1,f2])) (hs:P.stoodInHeld ty=false) (hn0:f0.name≠ "_") (hn1:f1.name≠ "_") (hn2:f2.name≠ "_") (ho0:f0.offset=0) (ho1:f1.offset=1) (ho2:f2.offset=2)
  (hi0:P.underlying f0.type=some (.int k0)) (hi1:P.underlying f1.type=some (.int k1)) (hi2:P.underlying f2.type=some (.int k2)) (hg:P.eqGuardType P.depth ty=false):
  ytz P G t o (.imm (.val (.bool (!(decide (a=a')&&(decide (b=b')&&decide (c=c'))))))):=by
 intro ρ w I β hev;have hrx:=hev x (by rw [hop];simp [Op.operands]);rw [hx] at hrx;have hry:=hev y (by rw [hop];simp [Op.operands]);rw [hy] at hry;have ex:=zzc hrx;have ey:=zzc hry;obtain ⟨dst,op,type,pos,after,guard⟩:=o;simp only at hop;subst hop;refine ⟨.bool (!(decide (a=a')&&(decide (b=b')&&decide (c=c')))),?_,.imm (.val _)⟩;simp only [execOp];rw [ex,ey];have hgd:(eqGuard .neq ty x y (.agg #[.int .i64 a,.int .i64 b,.int .i64 c]) (.agg #[.int .i64 a',.int .i64 b',.int .i64 c'])).run P w= .ok () w:=by
  simp [eqGuard,program,hg,yey]
 simp only [Sem.run_bind,hgd,Result.andThen_ok,binOp,zrb hu hs hn0 hn1 hn2 ho0 ho1 ho2 hi0 hi1 hi2,Sem.run_pure]
end
end Go.Sh
namespace Go.Proofs.YtjnddlifnkgncaaGreatDoor
open Go Go.Sh
variable (G:List (Nat × D))
mutual
def zmv:Ex->Prop
 | .mk _ _ _ _ ps ks=>ps.length<=1000000/\ks.length<=1000000/\zfu ks
def zfu:List Ex->Prop
 |[]=>True
 |e::r=>zmv e/\zfu r
end
theorem zbp:∀{ks:List Ex},zfu ks->∀k∈ks,zmv k
 |_::_,h,k,hk=>by
  unfold zfu at h;rcases List.mem_cons.1 hk with rfl|hk
  ·exact h.1
  ·exact zbp h.2 k hk
theorem zzd:∀{a b:List Ex},a.length≠b.length->ztd a b=false
 |[],[],h=>by simp at h
 |[],_::_,_=>rfl
 |_::_,[],_=>rfl
 |x::a,y::b,h=>by
  rw [ztd,zzd (a:=a) (b:=b) (by simpa using h),Bool.and_false]
theorem zwg (a b:List Piece) (ha:a.length<=1000000) (hb:b.length<=1000000):
  zv Tryz.prog G 208 [.imm (.isl 3 (a.map Piece.cells)),.imm (.isl 3 (b.map Piece.cells))] (sB (decide (a.map Piece.key=b.map Piece.key))):=by
 refine zf Tryz.func208 rfl (by rw [Tryz.ntmps208];simp) rfl rfl ?_;intro E hH hK;have hla:(a.map Piece.cells).length=a.length:=by simp
 have hlb:(b.map Piece.cells).length=b.length:=by simp
 (refine zg ?_;conv=>whnf)
 repeat' ((with_reducible refine way ?_ ?_)<;>(intro h;conv=>whnf))
 ·have:decide (a.map Piece.key=b.map Piece.key)=false:=by
   rw [decide_eq_false_iff_not];intro he;have:=congrArg List.length he;simp only [List.length_map] at this;omega
  rw [this] at hK;exact hK _
 have hll:a.length=b.length:=by omega
 refine zi [0,1,11,12,13] ?_;refine zr a (fun i (_:Unit)=>[(0,.imm (.isl 3 (a.map Piece.cells))),(1,.imm (.isl 3 (b.map Piece.cells))),(11,.imm (.isl 3 (a.map Piece.cells))),(12,sI (a.map Piece.cells).length),(13,sI i)]) (fun _ _=>[])
  (fun done _ _=>done.map Piece.key=(b.take done.length).map Piece.key) () (by simp) ?_ ?_
 ·rintro _ h1
  (refine zg ?_;conv=>whnf)
  repeat' ((with_reducible refine way ?_ ?_)<;>(intro h;conv=>whnf))
  all_goals try (exfalso;omega)
  rw [hll,List.take_length] at h1;rw [decide_eq_true h1] at hK;exact hK _
 ·rintro done x rest _ hda hdl h1 ih
  have hw:=zk (n:=done.length) (by omega);have hlt:done.length<b.length:=by rw [<-hll,hda];simp
  obtain ⟨y,hy⟩:∃y,b[done.length]?=some y:=⟨_,List.getElem?_eq_getElem hlt⟩;(refine zg ?_;conv=>whnf)
  repeat' ((with_reducible refine way ?_ ?_)<;>(intro h;conv=>whnf))
  all_goals try (exfalso;omega)
  (refine wd 0 mixed rfl ?_;refine zq [777] (nx:=0) ?_;conv=>whnf);refine qv rfl (by simp) rfl  (row:=x.cells) (by simp [hda]) ?_;(refine zq [777] (nx:=0) ?_;conv=>whnf);refine qv rfl (by simp) rfl  (row:=y.cells) (by simp [hy]) ?_;(refine zq [777] (nx:=0) ?_;conv=>whnf);refine yua rfl rfl (yif rfl rfl rfl rfl Tryz.stoodInHeld234 (by decide) (by decide) (by decide) rfl rfl rfl rfl rfl rfl Tryz.eqGuardType234) ?_;have htk:b.take (done.length+1)=b.take done.length++[y]:=by rw [List.take_add_one,hy];rfl
  by_cases he:Piece.key x=Piece.key y
  ·have:(!(decide (x.lo=y.lo)&&(decide (x.at_=y.at_)&&decide (x.slope=y.slope))))=false:=by
    simp only [Piece.key,Prod.mk.injEq] at he;simp [he]
   rw [this];(refine zq [777] (nx:=0) ?_;conv=>whnf);(refine zg ?_;conv=>whnf);rw [hw];refine yq [0,1,11,12,13] 0 (by simp [hH]) (by simp) rfl rfl (ih () ?_);rw [List.map_append,h1,List.length_append];show _=List.map Piece.key (b.take (done.length+1));rw [htk];simp [he]
  ·have:(!(decide (x.lo=y.lo)&&(decide (x.at_=y.at_)&&decide (x.slope=y.slope))))=true:=by
    simp only [Piece.key,Prod.mk.injEq] at he;simp only [Bool.not_eq_true',Bool.and_eq_false_iff,decide_eq_false_iff_not]
    by_cases h2:x.lo=y.lo
    ·by_cases h3:x.at_=y.at_
     ·exact .inr (.inr fun h4=>he ⟨h2,h3,h4⟩)
     ·exact .inr (.inl h3)
    ·exact .inl h2
   rw [this];(refine zq [777] (nx:=0) ?_;conv=>whnf);(refine zg ?_;conv=>whnf);have:decide (a.map Piece.key=b.map Piece.key)=false:=by
    rw [decide_eq_false_iff_not];intro h2
    apply he
    have h3:(a.map Piece.key)[done.length]?=some (Piece.key x):=by simp [hda]
    rw [h2,List.getElem?_map,hy] at h3;exact (Option.some.inj h3).symm
   rw [this] at hK;exact hK _
theorem ycv (a b:List Ex) (hE:∀e∈a,∀e'∈b,zv Tryz.prog G 191 [e.sv,e'.sv] (sB (zyy e e'))) (ha:a.length<=1000000) (hb:b.length<=1000000):
  zv Tryz.prog G 209 [.imm (.isl 6 (zj a)),.imm (.isl 6 (zj b)),.fn (.func 191) [] []] (sB (ztd a b)):=by
 rw [zx,zx];refine zf Tryz.func209 rfl (by rw [Tryz.ntmps209];simp) rfl rfl ?_;intro E hH hK;have hla:(a.map Ex.cells).length=a.length:=by simp
 have hlb:(b.map Ex.cells).length=b.length:=by simp
 (refine zg ?_;conv=>whnf)
 repeat' ((with_reducible refine way ?_ ?_)<;>(intro h;conv=>whnf))
 ·rw [zzd (by omega)] at hK
  exact hK _
 have hll:a.length=b.length:=by omega
 refine zi [1,2,15,16,17] ?_;refine zr a (fun i (_:Unit)=>[(1,.imm (.isl 6 (b.map Ex.cells))),(2,.fn (.func 191) [] []),(15,.imm (.isl 6 (a.map Ex.cells))),(16,sI (a.map Ex.cells).length),(17,sI i)]) (fun _ _=>[])
  (fun done rest _=>ztd a b=ztd rest (b.drop done.length)) () (by simp) ?_ ?_
 ·rintro _ h1
  (refine zg ?_;conv=>whnf)
  repeat' ((with_reducible refine way ?_ ?_)<;>(intro h;conv=>whnf))
  all_goals try (exfalso;omega)
  rw [hll,List.drop_length] at h1;rw [h1] at hK;exact hK _
 ·rintro done x rest _ hda hdl h1 ih
  have hw:=zk (n:=done.length) (by omega);have hlt:done.length<b.length:=by rw [<-hll,hda];simp
  obtain ⟨y,hy⟩:∃y,b[done.length]?=some y:=⟨_,List.getElem?_eq_getElem hlt⟩;have hym:=List.mem_of_getElem? hy;have hcall:=hE x (by rw [hda];simp) y hym;have hdr:b.drop done.length=y::b.drop (done.length+1):=by
   rw [List.drop_eq_getElem_cons hlt];rw [List.getElem?_eq_getElem hlt] at hy;rw [Option.some.inj hy]
  rw [hdr,ztd] at h1;have hrx:(a.map Ex.cells)[((done.length:Nat):Int).toNat]?=some x.cells:=by simp [hda]
  have hry:(b.map Ex.cells)[((done.length:Nat):Int).toNat]?=some y.cells:=by simp [hy]
  generalize zyy x y=z at hcall h1;obtain ⟨xo,xn,xu,xd,xp,xk⟩:=x;obtain ⟨yo,yn,yu,yd,yp,yk⟩:=y;(refine zg ?_;conv=>whnf)
  repeat' ((with_reducible refine way ?_ ?_)<;>(intro h;conv=>whnf))
  all_goals try (exfalso;omega)
  refine zh rfl rfl  hrx ?_;(refine zc ?_;conv=>whnf);refine zh rfl rfl  hry ?_;(refine zc ?_;conv=>whnf);refine ze rfl  hcall ?_;cases z<;>((refine zc ?_;conv=>whnf))
  ·rw [h1,Bool.false_and] at hK
   exact hK _
  ·rw [hw]
   refine yq [1,2,15,16,17] 0 (by simp [hH]) (by simp) rfl rfl (ih () ?_);rw [h1,Bool.true_and,List.length_append];rfl
theorem zua:∀(N:Nat) (e e':Ex),SizeOf.sizeOf e<N->zmv e->zmv e'->zv Tryz.prog G 191 [e.sv,e'.sv] (sB (zyy e e'))
 |0,_,_,h,_,_=>by omega
 |N+1,.mk op n u den ps ks,.mk op' n' u' den' ps' ks',hN,hl,hl'=>by
  unfold zmv at hl hl';obtain ⟨l1,l2,l3⟩:=hl;obtain ⟨m1,m2,m3⟩:=hl';simp only [Ex.mk.sizeOf_spec] at hN;have hk:∀e∈ks,∀e'∈ks',zv Tryz.prog G 191 [e.sv,e'.sv] (sB (zyy e e')):=fun e he e' he'=>by
   have:=List.sizeOf_lt_of_mem he;exact zua N e e' (by omega) (zbp l3 e he) (zbp m3 e' he')
  have h1:=zwg G ps ps' l1 m1;have h2:=ycv G ks ks' hk l2 m2;have hx:zyy (.mk op n u den ps ks) (.mk op' n' u' den' ps' ks')=(decide (op=op')&&decide (n=n')&&decide (u=u')&&decide (den=den')&&decide (ps.map Piece.key=ps'.map Piece.key)&&ztd ks ks'):=by rw [zyy]
  rw [hx];generalize decide (ps.map Piece.key=ps'.map Piece.key)=z1 at h1;generalize ztd ks ks'=z2 at h2;refine zf Tryz.func191 rfl (by rw [Tryz.ntmps191];simp) rfl rfl ?_;intro E hH hK;(refine zg ?_;conv=>whnf)
  repeat' ((with_reducible refine way ?_ ?_)<;>(intro h;conv=>whnf))
  case' refine_1.refine_1.refine_1.refine_2=>
   rename_i g1 g2 g3
   subst g1 g2 g3;rw [show (decide (op=op)&&decide (n=n)&&decide (u=u)&&decide (den=den')&&z1&&z2)=(z1&&z2) by simp [*]] at hK;refine ze rfl  h1 ?_;cases z1<;>((refine zc ?_;conv=>whnf))
  case refine_1.refine_1.refine_1.refine_2.false=>exact hK _
  case' refine_1.refine_1.refine_1.refine_2.true=>
   refine ze rfl  h2 ?_;(refine zc ?_;conv=>whnf)
  case refine_1.refine_1.refine_1.refine_2.true=>exact hK _
  all_goals
   rw [show (decide (op=op')&&decide (n=n')&&decide (u=u')&&decide (den=den')&&z1&&z2)=false by simp [*]] at hK;exact hK _
theorem zlj (l:List Decl) (lo hi:Int) (hsz:l.length<=1073741824):zv Tryz.prog G 102 [.imm (zp l),sI lo,sI hi] (sB (wt lo hi l&&decide (l.length<=32))):=by
 have hml:(l.map Decl.cells).length=l.length:=by simp
 have bad:wt lo hi l=false->(wt lo hi l&&decide (l.length<=32))=false:=fun h=>by rw [h];rfl
 generalize hok:(wt lo hi l&&decide (l.length<=32))=ok at bad;refine zf Tryz.func102 rfl (by rw [Tryz.ntmps102];simp) rfl rfl ?_;intro E hH hK;(refine zg ?_;conv=>whnf);refine zi [0,1,2,11,12,13] ?_;change SW E _ [(0,.imm (zp l)),(1,sI lo),(2,sI hi),(11,.imm (zp l)),(12,sI ((l.map Decl.cells).length:Nat)),(13,sI (0:Nat))] [];rw [hml];refine zr l (fun i (_:Unit)=>[(0,.imm (zp l)),(1,sI lo),(2,sI hi),(11,.imm (zp l)),(12,sI (l.length:Nat)),(13,sI (i:Nat))]) (fun _ _=>[])
  (fun done _ _=>done.all (zaq lo hi)=true/\(done.map (·.name)).Nodup) () ⟨rfl,List.nodup_nil⟩ ?_ ?_
 ·as_aux_lemma=>
   rintro _ ⟨h1,h2⟩;(refine zg ?_;conv=>whnf)
   repeat' ((with_reducible refine way ?_ ?_)<;>(intro h;conv=>whnf))
   all_goals try (exfalso;omega)
   rw [hml];refine kB hK ?_;rw [<-hok];unfold wt;rw [h1,decide_eq_true h2];exact decide_eq_decide.2 (by omega)
 ·as_aux_lemma=>
   rintro done d rest _ hda hdl ⟨h1,h2⟩ ih;have wnx:IntKind.i64.wrap ((done.length:Int)+1)=((done.length+1:Nat):Int):=zk (by omega);have hd:(l.map Decl.cells)[done.length]?=some d.cells:=by rw [hda];simp
   have bad:zaq lo hi d=false\/d.name∈done.map (·.name)->ok=false:=fun h=>bad (by rw [hda];exact zqv h)
   have next:zaq lo hi d=true->d.name ∉ done.map (·.name)->_:=fun g1 g2=>ih () ⟨by simp [h1,g1],by
    rw [List.map_append,List.nodup_append];exact ⟨h2,by simp,fun a ha b hb e=>g2 (by simp at hb;rw [<-hb, <-e];exact ha)⟩⟩
   have hnm:=zem G d.name;have hky:=ybx G d.name;have hun:=znm G d.unit;have hone:zaq lo hi d=(xq d.name&& !ybw d.name&&wg d.unit&&decide (lo<=d.role/\d.role<=hi)):=rfl;generalize xq d.name=b1 at hnm hone;generalize ybw d.name=b2 at hky hone;generalize wg d.unit=b3 at hun hone;(refine zg ?_;conv=>whnf)
   repeat' ((with_reducible refine way ?_ ?_)<;>(intro h;conv=>whnf))
   all_goals try (exfalso;omega)
   refine zh (i:=done.length) (row:=d.cells) rfl rfl hd ?_;(refine zc ?_;conv=>whnf);refine ze rfl  hnm ?_;cases b1 with
   |false=>
    (refine zc ?_;conv=>whnf);exact kB hK (bad (.inl (by rw [hone];rfl)))
   |true=>
   (refine zc ?_;conv=>whnf);refine ze rfl  hky ?_;cases b2 with
   |true=>
    (refine zc ?_;conv=>whnf);exact kB hK (bad (.inl (by rw [hone];rfl)))
   |false=>
   (refine zc ?_;conv=>whnf);refine ze rfl  hun ?_;cases b3 with
   |false=>
    (refine zc ?_;conv=>whnf);exact kB hK (bad (.inl (by rw [hone];rfl)))
   |true=>
   (refine zc ?_;conv=>whnf)
   repeat' ((with_reducible refine way ?_ ?_)<;>(intro h;conv=>whnf))
   all_goals try exact kB hK (bad (.inl (by rw [hone,decide_eq_false (by omega)];rfl)))
   have hone:zaq lo hi d=true:=by rw [hone,decide_eq_true (by omega)];rfl
   have next:=next hone
   refine ywt (m:=done.length) rfl rfl rfl rfl rfl rfl rfl rfl (by omega) ?_;have htk:(l.map Decl.cells).take done.length=done.map Decl.cells:=by rw [hda,List.map_append,List.take_left' (by simp)]
   refine Eq.mpr (congrArg (fun v=>SWr E _ _ _ (xl _ _ (.imm (.isl 3 v))) _) htk) ?_;(refine zc ?_;conv=>whnf);have hdm:(done.map Decl.cells).length=done.length:=by simp
   rw [hdm];refine zi [0,1,2,8,11,12,13,47,48,49] ?_;change SW E _ [(0,.imm (zp l)),(1,sI lo),(2,sI hi),(8,.ptr 0 0),(11,.imm (zp l)),(12,sI (l.length:Nat)),(13,sI (done.length:Nat)),(47,.imm (zp done)),(48,sI (done.length:Nat)),(49,sI (0:Nat))] [.cells [sS d.name,sS d.unit,sI d.role]];refine zr done (fun j (_:Unit)=>[(0,.imm (zp l)),(1,sI lo),(2,sI hi),(8,.ptr 0 0),(11,.imm (zp l)),(12,sI (l.length:Nat)),(13,sI (done.length:Nat)),(47,.imm (zp done)),(48,sI (done.length:Nat)),(49,sI (j:Nat))]) (fun _ _=>[.cells [sS d.name,sS d.unit,sI d.role]])
    (fun dj _ _=>d.name ∉ dj.map (·.name)) () (by simp) ?_ ?_
   ·rintro _ hnot
    (refine zg ?_;conv=>whnf)
    repeat' ((with_reducible refine way ?_ ?_)<;>(intro h;conv=>whnf))
    all_goals try (exfalso;omega)
    rw [wnx];exact yq [0,1,2,11,12,13] 0 (by simp [hH]) (Nat.zero_le _) rfl rfl (next hnot)
   ·rintro dj x rj _ hdj hdjl hnot ih2
    have wnj:IntKind.i64.wrap ((dj.length:Int)+1)=((dj.length+1:Nat):Int):=zk (by omega);have hx:(done.map Decl.cells)[dj.length]?=some x.cells:=by rw [hdj];simp
    (refine zg ?_;conv=>whnf)
    repeat' ((with_reducible refine way ?_ ?_)<;>(intro h;conv=>whnf))
    all_goals try (exfalso;omega)
    refine zh (i:=dj.length) (row:=x.cells) rfl rfl hx ?_;(refine zc ?_;conv=>whnf)
    repeat' ((with_reducible refine way ?_ ?_)<;>(intro h;conv=>whnf))
    ·exact kB hK (bad (.inr (by rw [hdj, <-h];simp)))
    ·rw [wnj]
     refine yq [0,1,2,8,11,12,13,47,48,49] 1 (by simp [hH]) (by simp) rfl rfl (ih2 () ?_);simp only [List.map_append,List.mem_append,List.map_cons,List.map_nil,List.mem_singleton,not_or];exact ⟨hnot,fun e=>h e.symm⟩
def yxb (g b:Nat) (H0:List SObj) (p:Ex->Bool) (l:List Ex):Prop:=∀e∈l,SPre Tryz.prog G g [e.sv,.ptr b 0] H0 (fun r H'=>r=sB (p e)/\H'=H0)
theorem ymq {g b:Nat} {H0:List SObj} {p:Ex->Bool} {l:List Ex} (hgb:wa Tryz.prog g=true) (hb:b<H0.length) (hu:H0.all (SObj.under H0.length)=true) (hz:l.length<=1000000000) (hg:yxb G g b H0 p l):
  SPre Tryz.prog G 172 [.imm (.isl 6 (l.map Ex.cells)),.fn (.func g) [] [.ptr b 0]] H0 (fun r H'=>(∃i:Int,r=sI i/\(0<=i ↔ l.any p=true))/\H'=H0):=by
 refine jh Tryz.func172 rfl (by rw [Tryz.ntmps172];simp) (by simp [SV.under,SV.under.allUnder,hb]) hu ?_;intro E hH hK;have hla:(l.map Ex.cells).length=l.length:=by simp
 have fin:∀i:Int,(0<=i ↔ l.any p=true)->E.K (sI i) H0:=fun i hi=>hK _ _ (Nat.le_refl _) rfl (by rw [List.take_length];exact hu) ⟨⟨i,rfl,hi⟩,List.take_length⟩
 (refine zg ?_;conv=>whnf);refine zi [0,1,7,8] ?_;change SW E _ [(0,.imm (.isl 6 (l.map Ex.cells))),(1,.fn (.func g) [] [.ptr b 0]),(7,sI ((l.map Ex.cells).length:Nat)),(8,sI (0:Nat))] H0;rw [hla];refine zr l (fun i (_:Unit)=>[(0,.imm (.isl 6 (l.map Ex.cells))),(1,.fn (.func g) [] [.ptr b 0]),(7,sI (l.length:Nat)),(8,sI (i:Nat))]) (fun _ _=>H0)
  (fun done rest _=>∀e∈done,p e=false) () (by simp) ?_ ?_
 ·rintro _ h1
  (refine zg ?_;conv=>whnf)
  repeat' ((with_reducible refine way ?_ ?_)<;>(intro h;conv=>whnf))
  all_goals try (exfalso;omega)
  refine fin (-1) ⟨fun h=>by omega,fun h=>?_⟩;obtain ⟨e,he,h2⟩:=List.any_eq_true.1 h;rw [h1 e he] at h2;cases h2
 ·rintro done x rest _ hda hdl h1 ih
  have hw:=zk (n:=done.length) (by omega);have hrx:(l.map Ex.cells)[done.length]?=some x.cells:=by simp [hda]
  have hxm:x∈l:=by rw [hda];simp
  have hcall:=hg x hxm;have hany:p x=true->l.any p=true:=fun h=>List.any_eq_true.2 ⟨x,hxm,h⟩
  have hnxt:p x=false->∀e∈done++[x],p e=false:=fun h e he=>by
   rcases List.mem_append.1 he with he|he
   ·exact h1 e he
   ·simp at he;rw [he];exact h
  generalize p x=z at hcall hany hnxt;obtain ⟨xo,xn,xu,xd,xp,xk⟩:=x;(refine zg ?_;conv=>whnf)
  repeat' ((with_reducible refine way ?_ ?_)<;>(intro h;conv=>whnf))
  all_goals try (exfalso;omega)
  refine zh (i:=done.length) (row:=(Ex.mk xo xn xu xd xp xk).cells) rfl rfl hrx ?_;(refine zc ?_;conv=>whnf);refine zbu H0.length rfl rfl rfl rfl hgb rfl (by rw [List.take_length];exact hcall) ?_;rintro r9 H9 ⟨rfl,rfl⟩ _;rw [List.drop_length,List.append_nil];cases z<;>((refine zc ?_;conv=>whnf))
  ·rw [hw]
   refine zi [0,1,7,8] ?_;exact ih () (hnxt rfl)
  ·exact fin _ ⟨fun _=>hany rfl,fun _=>by omega⟩
theorem zlk {g b:Nat} {H0:List SObj} {p:Ex->Bool} {l:List Ex} (hgb:wa Tryz.prog g=true) (hb:b<H0.length) (hu:H0.all (SObj.under H0.length)=true) (hz:l.length<=1000000000) (hg:yxb G g b H0 p l):
  SPre Tryz.prog G 141 [.imm (.isl 6 (l.map Ex.cells)),.fn (.func g) [] [.ptr b 0]] H0 (fun r H'=>r=sB (l.any p)/\H'=H0):=by
 refine jh Tryz.func141 rfl (by rw [Tryz.ntmps141];simp) (by simp [SV.under,SV.under.allUnder,hb]) hu ?_;intro E hH hK;(refine zg ?_;conv=>whnf);refine zbu H0.length rfl rfl rfl rfl rfl rfl (by rw [List.take_length];exact ymq G hgb hb hu hz hg) ?_;rintro r9 H9 ⟨⟨i,rfl,hi⟩,rfl⟩ _;rw [List.drop_length,List.append_nil];(refine zc ?_;conv=>whnf);refine hK _ _ (Nat.le_refl _) rfl (by rw [List.take_length];exact hu) ⟨?_,List.take_length⟩;show sB (decide (0<=i))=_
 by_cases h:0<=i
 ·rw [decide_eq_true h,hi.1 h]
 ·rw [decide_eq_false h]
  cases ha:l.any p with
  |true=>exact absurd (hi.2 ha) h
  |false=>rfl
theorem zwh (den:Int) (ps:List Piece):zv Tryz.prog G 139 [.agg [sI den,.imm (.isl 3 (ps.map Piece.cells))]] (sB (jb den ps)):=by
 refine zf Tryz.func139 rfl (by rw [Tryz.ntmps139];simp) rfl rfl ?_;intro E hH hK;have hlen:(ps.map Piece.cells).length=ps.length:=by simp
 (refine zg ?_;conv=>whnf)
 repeat' ((with_reducible refine way ?_ ?_)<;>(intro h;conv=>whnf))
 any_goals exact kB hK (by simp [jb];intros;omega)
 obtain ⟨p0,pr,hps⟩:∃p0 pr,ps=p0::pr:=by
  cases ps with
  |nil=>
   exfalso
   have h0:(([]:List Piece).map Piece.cells).length=0:=rfl;omega
  |cons a b=>exact ⟨a,b,rfl⟩
 have h00:(ps.map Piece.cells)[0]?=some p0.cells:=by rw [hps];rfl
 have hok:jb den ps=qx none ps:=by
  unfold jb;rw [decide_eq_true (show 1<=den by omega),decide_eq_true (show den<=1000000 by omega),decide_eq_true (show 1<=ps.length by omega),decide_eq_true (show ps.length<=64 by omega)];simp
 have hfirst:¬p0.lo=0->jb den ps=false:=fun h=>by rw [hok,hps,qx,zby];simp [h]
 generalize jb den ps=ok at hK hok hfirst;refine zh (i:=0) (row:=p0.cells) rfl rfl h00 ?_;(refine zc ?_;conv=>whnf)
 repeat' ((with_reducible refine way ?_ ?_)<;>(intro h;conv=>whnf))
 ·exact kB hK (hfirst h)
 have hlo0:p0.lo=0:=by omega
 refine zi [1,34,35,36] ?_;change SW E _ [(1,.ptr 0 0),(34,.imm (.isl 3 (ps.map Piece.cells))),(35,sI ((ps.map Piece.cells).length:Nat)),(36,sI (0:Nat))] [.cells [sI den,.imm (.isl 3 (ps.map Piece.cells))]];rw [hlen];refine zr ps (fun i (_:Unit)=>[(1,.ptr 0 0),(34,.imm (.isl 3 (ps.map Piece.cells))),(35,sI (ps.length:Nat)),(36,sI (i:Nat))])
  (fun _ _=>[.cells [sI den,.imm (.isl 3 (ps.map Piece.cells))]])
  (fun done rest _=>qx none ps=qx (zci done) rest) () rfl ?_ ?_
 ·rintro _ hv
  (refine zg ?_;conv=>whnf)
  repeat' ((with_reducible refine way ?_ ?_)<;>(intro h;conv=>whnf))
  all_goals try (exfalso;omega)
  exact kB hK (by rw [hok,hv];rfl)
 ·rintro done p rest _ hda hdl hv ih
  have hw:=zk (n:=done.length) (by omega);have hp:(ps.map Piece.cells)[done.length]?=some p.cells:=by rw [hda];simp
  have bad:zby (zci done) p=false->ok=false:=fun h=>by rw [hok,hv,qx,h];rfl
  have good:zby (zci done) p=true->qx none ps=qx (zci (done++[p])) rest:=fun h=>by rw [hv,qx,h,zqu];rfl
  rcases zfr done with rfl|⟨init,q,rfl⟩
  ·have hpp:p=p0:=by rw [hps] at hda;injection hda with h1 _;exact h1.symm
   (refine zg ?_;conv=>whnf)
   repeat' ((with_reducible refine way ?_ ?_)<;>(intro h;conv=>whnf))
   all_goals try (exfalso;omega)
   refine zh (i:=0) (row:=p.cells) rfl rfl hp ?_;(refine zc ?_;conv=>whnf);refine zt mixed rfl ?_;(refine zd [] ?_;conv=>whnf)
   repeat' ((with_reducible refine way ?_ ?_)<;>(intro h;conv=>whnf))
   all_goals try (exfalso;omega)
   (refine zg ?_;conv=>whnf)
   repeat' ((with_reducible refine way ?_ ?_)<;>(intro h;conv=>whnf))
   any_goals exact kB hK (bad (by simp [zci,zby];intros;omega))
   rw [hw];exact yq [1,34,35,36] 1 (by simp [hH]) (by simp) rfl rfl (ih () (good (by simp [zci,zby,hpp,hlo0];rw [<-hpp];omega)))
  ·have hil:(init++[q]).length=init.length+1:=by simp
   have hq:(ps.map Piece.cells)[init.length]?=some q.cells:=by rw [hda];simp
   have hm:IntKind.i64.wrap (((init++[q]).length:Int)-1)=((init.length:Nat):Int):=by rw [yg (by omega) (by omega)];omega
   (refine zg ?_;conv=>whnf)
   repeat' ((with_reducible refine way ?_ ?_)<;>(intro h;conv=>whnf))
   all_goals try (exfalso;omega)
   refine zh (i:=(init++[q]).length) (row:=p.cells) rfl rfl hp ?_;(refine zc ?_;conv=>whnf);refine zt mixed rfl ?_;(refine zd [] ?_;conv=>whnf)
   repeat' ((with_reducible refine way ?_ ?_)<;>(intro h;conv=>whnf))
   all_goals try (exfalso;omega)
   rw [hm];refine yc (i:=init.length) (row:=q.cells) rfl rfl hq ?_;(refine zd [] ?_;conv=>whnf)
   repeat' ((with_reducible refine way ?_ ?_)<;>(intro h;conv=>whnf))
   all_goals (refine zg ?_;conv=>whnf)
   all_goals repeat' ((with_reducible refine way ?_ ?_)<;>(intro h;conv=>whnf))
   any_goals exact kB hK (bad (by simp [zci,zby];intros;omega))
   rw [hw];exact yq [1,34,35,36] 1 (by simp [hH]) (by simp) rfl rfl (ih () (good (by simp [zci,zby];omega)))
theorem zep (l:List D) (n:Nat):SV.under.allUnder n (l.map SV.imm)=true:=by
 induction l with
 |nil=>rfl
 |cons a l ih=>simp [SV.under.allUnder,SV.under,ih]
theorem zrc (p:Ex):[SObj.cells (p.cells.map SV.imm)].all (SObj.under 1)=true:=by
 simp only [List.all_cons,List.all_nil,SObj.under,zep,Bool.and_true]
theorem yxc (p e:Ex) (hp:zmv p) (he:zmv e):SPre Tryz.prog G 190 [e.sv,.ptr 0 0] [.cells (p.cells.map .imm)] (fun r H'=>r=sB (zyy p e)/\H'=[.cells (p.cells.map .imm)]):=by
 have h1:=zua G _ p e (Nat.lt_succ_self _) hp he;have hu:=zrc p;generalize zyy p e=z at h1 ⊢;obtain ⟨op,n,u,den,ps,ks⟩:=e;obtain ⟨op',n',u',den',ps',ks'⟩:=p;refine jh Tryz.func190 rfl (by rw [Tryz.ntmps190];simp) ?_ hu ?_
 ·simp only [List.all_cons,List.all_nil,Ex.sv,SV.under,zep]
  rfl
 intro E hH hK;(refine zm ?_;conv=>whnf);refine ze rfl  h1 ?_;(refine zn ?_;conv=>whnf);exact hK _ _ (by show 1<=2;decide) rfl hu ⟨rfl,rfl⟩
theorem zrd (l ps:List Ex) (hp:zfu ps) (hl:zfu l) (hz:l.length<=1000000) (hpz:ps.length<=1000000):
  zv Tryz.prog G 148 [.imm (qp l),.imm (qp ps)] (sB (ykd l ps)):=by
 refine zf Tryz.func148 rfl (by rw [Tryz.ntmps148];simp) rfl rfl ?_;intro E hH hK;have hla:(ps.map Ex.cells).length=ps.length:=by simp
 (refine zg ?_;conv=>whnf);refine zi [0,7,8,9] ?_;change SW E _ [(0,.imm (qp l)),(7,.imm (qp ps)),(8,sI ((ps.map Ex.cells).length:Nat)),(9,sI (0:Nat))] [];rw [hla];refine zr ps (fun i (_:Unit)=>[(0,.imm (qp l)),(7,.imm (qp ps)),(8,sI (ps.length:Nat)),(9,sI (i:Nat))]) (fun _ _=>[])
  (fun done rest _=>∀p∈done,l.any (fun e=>zyy p e)=true) () (by simp) ?_ ?_
 ·rintro _ h1
  (refine zg ?_;conv=>whnf)
  repeat' ((with_reducible refine way ?_ ?_)<;>(intro h;conv=>whnf))
  all_goals try (exfalso;omega)
  have:ykd l ps=true:=List.all_eq_true.2 h1;rw [this] at hK;exact hK _
 ·rintro done x rest _ hda hdl h1 ih
  have hw:=zk (n:=done.length) (by omega);have hrx:(ps.map Ex.cells)[done.length]?=some x.cells:=by simp [hda]
  have hxm:x∈ps:=by rw [hda];simp
  have hcall:=zlk G (g:=190) (b:=0) (H0:=[.cells (x.cells.map .imm)]) (p:=fun e=>zyy x e) (l:=l) rfl (by show 0<1;decide) (zrc x) (by omega) (fun e he=>yxc G x e (zbp hp x hxm) (zbp hl e he));have hno:l.any (fun e=>zyy x e)=false->ykd l ps=false:=fun h=>by
   cases h2:ykd l ps with
   |false=>rfl
   |true=>rw [List.all_eq_true.1 h2 x hxm] at h;cases h
  have hnxt:l.any (fun e=>zyy x e)=true->∀p∈done++[x],l.any (fun e=>zyy p e)=true:=fun h e he=>by
   rcases List.mem_append.1 he with he|he
   ·exact h1 e he
   ·simp at he;rw [he];exact h
  generalize l.any (fun e=>zyy x e)=z at hcall hno hnxt;obtain ⟨xo,xn,xu,xd,xp,xk⟩:=x;(refine zg ?_;conv=>whnf)
  repeat' ((with_reducible refine way ?_ ?_)<;>(intro h;conv=>whnf))
  all_goals try (exfalso;omega)
  refine zh (i:=done.length) (row:=(Ex.mk xo xn xu xd xp xk).cells) rfl rfl hrx ?_;(refine zc ?_;conv=>whnf);refine zbu 1 rfl rfl rfl rfl rfl rfl hcall ?_;rintro r9 H9 ⟨rfl,rfl⟩ _;cases z<;>((refine zc ?_;conv=>whnf))
  ·rw [hno rfl] at hK
   exact hK _
  ·rw [hw]
   refine yq [0,7,8,9] 0 (by simp [hH]) (by simp) rfl rfl (ih () (hnxt rfl))
def jj (a:Article) (op n:Int) (u:ByteArray) (den:Int) (ps:List Piece) (ks:List Ex):List SV:=
 [sI a.number,sI a.line,sI a.rank,sI a.lo,sI a.hi,sI a.known,.imm (qp a.when_),.imm (ye a.unless_),sI op,sI n,sS u,sI den,.imm (.isl 3 (ps.map Piece.cells)),.imm (.isl 6 (zj ks))]
theorem zez {a:Article} {op n:Int} {u:ByteArray} {den:Int} {ps:List Piece} {ks:List Ex} (h:a.amount= .mk op n u den ps ks):a.cells.map SV.imm=jj a op n u den ps ks:=by
 simp [Article.cells,jj,h,zx,Ex.op,Ex.n,Ex.unit,Ex.den,Ex.pieces,Ex.kids]
def zze (a:Article):SV:=.agg (a.cells.map .imm)
structure ArtFit (a:Article):Prop where
 len:a.when_.length<=1000000
 exs:zfu a.when_
 uls:a.unless_.length<=1000000
 amt:zmv a.amount
theorem zre (a b:Article) (ha:ArtFit a) (hb:ArtFit b):zv Tryz.prog G 108 [zze a,zze b] (sB (zwf a b)):=by
 have c1:=zrd G a.when_ b.when_ hb.exs ha.exs ha.len hb.len;have c2:=zrd G b.when_ a.when_ ha.exs hb.exs hb.len ha.len;have hbe:zwf a b=(if ¬a.line=b.line\/a.number=b.number then false else if ¬a.rank=b.rank then decide (b.rank<a.rank) else if ¬ykd a.when_ b.when_=ykd b.when_ a.when_ then ykd a.when_ b.when_ else decide (b.known<a.known)):=rfl;rw [hbe];generalize ykd a.when_ b.when_=z1 at c1;generalize ykd b.when_ a.when_=z2 at c2;cases hma:a.amount;cases hmb:b.amount;unfold zze;rw [zez hma,zez hmb];refine zf Tryz.func108 rfl (by rw [Tryz.ntmps108];simp) rfl rfl ?_;intro E hH hK;(refine zg ?_;conv=>whnf)
 repeat' ((with_reducible refine way ?_ ?_)<;>(intro h;conv=>whnf))
 ·rw [if_pos (.inr h)] at hK
  exact hK _
 ·rename_i g1 g2
  rw [if_neg (fun x=>x.elim (fun x=>x g1) g2),if_pos h] at hK;exact hK _
 ·rename_i g1 g2
  rw [if_neg (fun x=>x.elim (fun x=>x g1) g2),if_neg (fun x=>x h)] at hK;(refine zt mixed rfl ?_;refine zd [] ?_;conv=>whnf);refine zu rfl  c1 ?_;(refine zd [] ?_;conv=>whnf);refine zu rfl  c2 ?_;(refine zd [] ?_;conv=>whnf);(refine zg ?_;conv=>whnf);cases z1<;>cases z2<;>(conv=>whnf)<;>(try (repeat' ((with_reducible refine way ?_ ?_)<;>(intro h;conv=>whnf))))<;>exact hK _
 ·rw [if_pos (.inl h)] at hK
  exact hK _
theorem ycw (l:List Int) (x:Int) (hz:l.length<=1000000000):SPre Tryz.prog G 145 [.imm (ye l),sI x] [] (fun r _=>∃i:Int,r=sI i/\(0<=i ↔ x∈l)):=by
 refine jh Tryz.func145 rfl (by rw [Tryz.ntmps145];simp) rfl rfl ?_;intro E hH hK;have hla:(l.map fun n=>[dI n]).length=l.length:=by simp
 (refine zg ?_;conv=>whnf);refine zi [0,1,7,8] ?_;refine zr l (fun i (_:Unit)=>[(0,.imm (ye l)),(1,sI x),(7,sI (l.map fun n=>[dI n]).length),(8,sI i)]) (fun _ _=>[]) (fun done _ _=>x ∉ done) () (by simp) ?_ ?_
 ·rintro _ h1
  (refine zg ?_;conv=>whnf)
  repeat' ((with_reducible refine way ?_ ?_)<;>(intro h;conv=>whnf))
  all_goals try (exfalso;omega)
  exact hK _ _ (Nat.le_refl _) rfl rfl ⟨-1,rfl,⟨fun h=>by omega,fun h=>absurd h h1⟩⟩
 ·rintro done y rest _ hda hdl h1 ih
  have hw:=zk (n:=done.length) (by omega);have hrx:(l.map fun n=>[dI n])[((done.length:Nat):Int).toNat]?=some [dI y]:=by simp [hda]
  (refine zg ?_;conv=>whnf)
  repeat' ((with_reducible refine way ?_ ?_)<;>(intro h;conv=>whnf))
  all_goals try (exfalso;omega)
  refine zh rfl rfl  hrx ?_;(refine zc ?_;conv=>whnf)
  repeat' ((with_reducible refine way ?_ ?_)<;>(intro h;conv=>whnf))
  ·exact hK _ _ (Nat.le_refl _) rfl rfl ⟨done.length,rfl,⟨fun _=>by rw [hda,h];simp,fun _=>by omega⟩⟩
  ·rw [hw]
   refine zi [0,1,7,8] ?_;exact ih () (by simp only [List.mem_append,List.mem_cons,List.not_mem_nil,or_false,not_or];exact ⟨h1,h⟩)
theorem zkf (l:List Int) (x:Int) (hz:l.length<=1000000000):zv Tryz.prog G 106 [.imm (ye l),sI x] (sB (decide (x∈l))):=by
 refine zf Tryz.func106 rfl (by rw [Tryz.ntmps106];simp) rfl rfl ?_;intro E hH hK;(refine zg ?_;conv=>whnf);refine zbu 0 rfl rfl rfl rfl rfl rfl (ycw G l x hz) ?_;rintro r9 H9 ⟨i,rfl,hi⟩ _;(refine zc ?_;conv=>whnf);have:decide (x∈l)=decide (0<=i):=decide_eq_decide.2 hi.symm;rw [this] at hK;exact hK _
theorem zir (x:Int):∀ks:List Ex,decide (x∈ziq ks)=ks.any fun k=>decide (x∈wq k)
 |[]=>rfl
 |k::r=>by
  rw [ziq,List.any_cons, <-zir x r];simp
theorem yre (x op n:Int) (u:ByteArray) (den:Int) (ps:List Piece) (ks:List Ex):decide (x∈wq (.mk op n u den ps ks))=(decide (op=3)&&decide (n=x)||ks.any fun k=>decide (x∈wq k)):=by
 rw [<-zir,wq]
 by_cases h:op=3
 ·rw [if_pos h,decide_eq_true h,Bool.true_and]
  rw [Bool.eq_iff_iff];simp only [List.mem_append,List.mem_singleton,Bool.or_eq_true,decide_eq_true_eq];exact ⟨fun h=>h.imp Eq.symm id,fun h=>h.imp Eq.symm id⟩
 ·rw [if_neg h,decide_eq_false h,Bool.false_and,Bool.false_or]
  simp
theorem zhy (o:SObj) (ho:o.under 2=true) (x:Int):[o,SObj.cells [sI x]].all (SObj.under 2)=true:=by
 simp only [List.all_cons,List.all_nil,ho,Bool.true_and];rfl
theorem zdr (x:Int) (N:Nat):∀e:Ex,SizeOf.sizeOf e<N->zmv e->zv Tryz.prog G 111 [e.sv,sI x] (sB (decide (x∈wq e))):=by
 induction N with
 |zero=>intro e h;omega
 |succ N IH=>
 intro e he hl;obtain ⟨op,n,u,den,ps,ks⟩:=e;simp only [Ex.mk.sizeOf_spec] at he;unfold zmv at hl;have hkid:∀k∈ks,zv Tryz.prog G 111 [k.sv,sI x] (sB (decide (x∈wq k))):=fun k hk=>by
  have:=List.sizeOf_lt_of_mem hk;exact IH k (by omega) (zbp hl.2.2 k hk)
 have hbu:SObj.under 2 (.cells ((Ex.mk op n u den ps ks).cells.map .imm))=true:=by
  simp only [SObj.under,zep]
 have hclo:yxb G 149 1 [.cells ((Ex.mk op n u den ps ks).cells.map .imm),.cells [sI x]] (fun k=>decide (x∈wq k)) ks:=fun k hk=>by
  have hc:=hkid k hk;show SPre Tryz.prog G 149 [k.sv,.ptr 1 0] [.cells ((Ex.mk op n u den ps ks).cells.map .imm),.cells [sI x]] (fun r H'=>r=sB (decide (x∈wq k))/\H'=[.cells ((Ex.mk op n u den ps ks).cells.map .imm),.cells [sI x]]);generalize decide (x∈wq k)=z at hc ⊢;generalize SObj.cells ((Ex.mk op n u den ps ks).cells.map .imm)=o0 at hbu ⊢;obtain ⟨ko,kn,ku,kd,kp,kk⟩:=k;refine jh Tryz.func149 rfl (by rw [Tryz.ntmps149];simp) rfl (zhy o0 hbu x) ?_;intro E hH hK;(refine zg ?_;conv=>whnf);refine ze rfl  hc ?_;(refine zc ?_;conv=>whnf);exact hK _ _ (by show 2<=3;decide) rfl (zhy o0 hbu x) ⟨rfl,rfl⟩
 have hcon:=zlk G rfl (by show 1<2;decide) (zhy _ hbu x) (by omega) hclo;rw [yre];generalize (ks.any fun k=>decide (x∈wq k))=z at hcon;rw [<-zx] at hcon;clear hclo hkid IH;refine zf Tryz.func111 rfl (by rw [Tryz.ntmps111];simp) rfl rfl ?_;intro E hH hK;(refine zg ?_;conv=>whnf)
 repeat' ((with_reducible refine way ?_ ?_)<;>(intro h;conv=>whnf))
 ·rename_i g1
  rw [decide_eq_true g1,decide_eq_true h] at hK;exact hK _
 ·rename_i g1
  rw [decide_eq_false h,Bool.and_false,Bool.false_or] at hK;refine zbu 2 rfl rfl rfl rfl rfl rfl hcon ?_;rintro r9 H9 ⟨rfl,rfl⟩ _;(refine zc ?_;conv=>whnf);exact hK _
 ·rw [decide_eq_false h,Bool.false_and,Bool.false_or] at hK
  refine zbu 2 rfl rfl rfl rfl rfl rfl hcon ?_;rintro r9 H9 ⟨rfl,rfl⟩ _;(refine zc ?_;conv=>whnf);exact hK _
theorem ymr (a o:Article):ztx a o=(decide (o.number∈a.unless_)||zwf o a||decide (o.number∈wq a.amount)||a.when_.any fun w=>decide (o.number∈wq w)):=by
 rw [<-zir];unfold ztx yct;cases zwf o a<;>(rw [Bool.eq_iff_iff];simp only [List.mem_append,Bool.or_eq_true,decide_eq_true_eq,Bool.false_eq_true,or_false,or_true,true_or,iff_self])<;>first
  |exact ⟨fun h=>h.elim (fun h=>h.elim (fun h=>.inl (.inl h)) .inr) (fun h=>.inl (.inr h)),fun h=>h.elim (fun h=>h.elim (fun h=>.inl (.inl h)) .inr) (fun h=>.inl (.inr h))⟩
theorem zis (a:Article) (m:Nat):SObj.under m (.cells (a.cells.map .imm))=true:=by
 simp only [SObj.under,zep]
theorem ycx (a o:Article) (ha:ArtFit a) (ho:ArtFit o):zv Tryz.prog G 104 [zze a,zze o] (sB (ztx a o)):=by
 have c1:=zkf G a.unless_ o.number (by have:=ha.uls;omega);have c2:=zre G o a ho ha;have c3:=zdr G o.number _ a.amount (Nat.lt_succ_self _) ha.amt;have hbu:[SObj.cells (a.cells.map .imm),.cells (o.cells.map .imm)].all (SObj.under 2)=true:=by
  simp only [List.all_cons,List.all_nil,zis];rfl
 have hclo:yxb G 142 1 [.cells (a.cells.map .imm),.cells (o.cells.map .imm)] (fun w=>decide (o.number∈wq w)) a.when_:=fun k hk=>by
  have hc:=zdr G o.number _ k (Nat.lt_succ_self _) (zbp ha.exs k hk);show SPre Tryz.prog G 142 [k.sv,.ptr 1 0] [.cells (a.cells.map .imm),.cells (o.cells.map .imm)] (fun r H'=>r=sB (decide (o.number∈wq k))/\H'=[.cells (a.cells.map .imm),.cells (o.cells.map .imm)]);generalize decide (o.number∈wq k)=z at hc ⊢;obtain ⟨ko,kn,ku,kd,kp,kk⟩:=k;refine jh Tryz.func142 rfl (by rw [Tryz.ntmps142];simp) rfl hbu ?_;intro E hH hK;(refine zg ?_;conv=>whnf);refine ze rfl  hc ?_;(refine zc ?_;conv=>whnf);exact hK _ _ (by show 2<=3;decide) rfl hbu ⟨rfl,rfl⟩
 have hcon:=zlk G rfl (by show 1<2;decide) hbu (by have:=ha.len;omega) hclo;rw [ymr];generalize (a.when_.any fun w=>decide (o.number∈wq w))=z4 at hcon;generalize decide (o.number∈a.unless_)=z1 at c1;generalize zwf o a=z2 at c2;generalize decide (o.number∈wq a.amount)=z3 at c3;clear hclo;cases hma:a.amount with
 |mk aop an au ad ap ak=>
 cases hmo:o.amount with
 |mk oop on ou od op ok=>
 unfold zze at c2 ⊢;rw [zez hma,zez hmo] at c2 ⊢;rw [zez hma,zez hmo] at hcon;rw [hma] at c3;refine zf Tryz.func104 rfl (by rw [Tryz.ntmps104];simp) rfl rfl ?_;intro E hH hK;(refine zg ?_;conv=>whnf);refine ze rfl  c1 ?_;cases z1 with
 |true=>
  (refine zc ?_;conv=>whnf);exact hK _
 |false=>
 (refine zc ?_;conv=>whnf);refine ze rfl  c2 ?_;cases z2 with
 |true=>
  (refine zc ?_;conv=>whnf);exact hK _
 |false=>
 (refine zc ?_;conv=>whnf);refine ze rfl  c3 ?_;cases z3 with
 |true=>
  (refine zc ?_;conv=>whnf);exact hK _
 |false=>
 (refine zc ?_;conv=>whnf);refine zbu 2 rfl rfl rfl rfl rfl rfl hcon ?_;rintro r9 H9 ⟨rfl,rfl⟩ _;(refine zc ?_;conv=>whnf);exact hK _
theorem zrf:∀(ks:List Ex) (used:List Bool),zft ks used=ks.foldl (fun u e=>zay e u) used
 |[],_=>by rw [zft];rfl
 |e::r,used=>by rw [zft,zrf r];rfl
def bH (used:List Bool):List SObj:=[.cells (used.map sB)]
theorem zll (used:List Bool):(bH used).all (SObj.under 1)=true:=by
 simp only [bH,List.all_cons,List.all_nil,SObj.under,Bool.and_true]
 induction used with
 |nil=>rfl
 |cons a r ih=>simpa [SV.under.allUnder,SV.under] using ih
theorem zfv (N:Nat):(∀e:Ex,SizeOf.sizeOf e<N->∀used,(zay e used).length=used.length)/\(∀ks:List Ex,SizeOf.sizeOf ks<N->∀used,(zft ks used).length=used.length):=by
 induction N with
 |zero=>exact ⟨fun e h=>by omega,fun e h=>by omega⟩
 |succ N ih=>
  refine ⟨fun e he used=>?_,fun ks hk used=>?_⟩
  ·obtain ⟨op,n,u,den,ps,ks⟩:=e
   simp only [Ex.mk.sizeOf_spec] at he;rw [zay,ih.2 ks (by omega)];split<;>simp
  ·cases ks with
   |nil=>rw [zft]
   |cons k r=>
    simp only [List.cons.sizeOf_spec] at hk;rw [zft,ih.2 r (by omega),ih.1 k (by omega)]
end Go.Proofs.YtjnddlifnkgncaaGreatDoor
namespace Go.Sh
section
variable {P:Program} {G:List (Nat × D)} {fn:Func} {rd:Bool} {E:En P G fn rd} {t:List (Nat × SV)} {H:List SObj} {k:List Item}
theorem yuw {f:FuncId} {args:List SV} {H0:List SObj} {K:SV->List SObj->Prop} (hargs:args.all (SV.under H0.length)=true) (hH0:H0.all (SObj.under H0.length)=true)
  (h:SCall P G f args H0 (fun r H'=>H0.length<=H'.length/\r.under H0.length=true/\(H'.take H0.length).all (SObj.under H0.length)=true/\K r (H'.take H0.length))):SPre P G f args H0 K:=by
 intro X w I β vs hH hv;have hs:=hH.small hH0;refine (h w I (β.take H0.length) vs hs (zmh hv hargs)).mono ?_;rintro e w' ⟨v,r,I',β1,H',rfl,⟨hl,hr,hu1,hK⟩,g1,g2,g3⟩;obtain ⟨q1,q2⟩:=hH.whole (H1:=H') hl hu1 g2 g3;have hlen1:β1.length=H'.length:=g2.len;refine ⟨v,r,I',_,_,rfl,⟨H'.take H0.length,hK,by simp;omega,rfl⟩,?_,q1,q2⟩;refine (zqa g1 hr).mono_below (fun _ _ h=>h) (fun _ _ _=>rfl) (m:=H0.length) (fun b x hb hx=>?_) hr;exact ⟨x,by rw [List.getElem?_append_left (lt_of_getElem? hx)];exact hx,x.le_refl⟩
theorem yms {all:Array Oper} {o:Oper} {rest:List Oper} {done:List Eff} {K:List SObj} {mm ty kt et b:Nat} {z:Value} {x ix:Operand} {α:Type} {kk:IntKind} {i:Int} {l:List (Int × α)} (f:α->SV) {v:SV} (hop:o.op= .lookup ty x ix false)
  (hw:ya all t o.guard=some true) (hd:yf fn.ntmps o.dst=true) (hx:zo G t x= .map b) (hi:zo G t ix= .imm (.val (.int kk i))) (hu:P.underlying ty=some (.map kt et)) (hk:P.underlying kt=some (.int kk)) (hz:zai P et=some z)
  (hm:mm<=K.length) (hb:K[b]?=some (.mapI kk (jp f l))) (hv:((zy i l).map f).getD (jm z)=v) (h:SWe E mm all rest k (xl t o.dst v) K (done++[⟨v,[b],none⟩])):SWe E mm all (o::rest) k t K done:=by
 refine zaj ⟨v,[b],none⟩ hw hd hm (fun K' _ ha=>?_) h;have hb':K'[b]?=some (.mapI kk (jp f l)):=by rw [ha b (.inl (by simp))];exact hb
 rw [hop];have:=zkv (G:=G) (t:=t) (P:=P) (ok:=false) (f:=f) hx hi hb' hu hk hz;rw [this,hv];rfl
end
mutual
theorem SV.ren_id {m:Nat} {σ:Nat->Nat} (hσ:∀b,b<m->σ b=b):∀s:SV,s.under m=true->s.ren σ=s
 | .any,_=>rfl
 | .imm _,_=>rfl
 | .ptr b _,h=>by simp only [SV.under,decide_eq_true_eq] at h;simp only [SV.ren,hσ b h]
 | .osl b _ _,h=>by simp only [SV.under,decide_eq_true_eq] at h;simp only [SV.ren,hσ b h]
 | .asl b _ _,h=>by simp only [SV.under,decide_eq_true_eq] at h;simp only [SV.ren,hσ b h]
 | .map b,h=>by simp only [SV.under,decide_eq_true_eq] at h;simp only [SV.ren,hσ b h]
 | .yld b,h=>by simp only [SV.under,decide_eq_true_eq] at h;simp only [SV.ren,hσ b h]
 | .vec b _,h=>by simp only [SV.under,decide_eq_true_eq] at h;simp only [SV.ren,hσ b h]
 | .vptr b _ _,h=>by simp only [SV.under,decide_eq_true_eq] at h;simp only [SV.ren,hσ b h]
 | .fn _ x y,h=>by
  simp only [SV.under,Bool.and_eq_true] at h;simp only [SV.ren,zkg hσ x h.1,zkg hσ y h.2]
 | .iface _ v,h=>by
  simp only [SV.under] at h;simp only [SV.ren,SV.ren_id hσ v h]
 | .agg cs,h=>by
  simp only [SV.under] at h;simp only [SV.ren,zkg hσ cs h]
 | .tup vs,h=>by
  simp only [SV.under] at h;simp only [SV.ren,zkg hσ vs h]
theorem zkg {m:Nat} {σ:Nat->Nat} (hσ:∀b,b<m->σ b=b):∀l:List SV,SV.under.allUnder m l=true->SV.ren.renL σ l=l
 |[],_=>rfl
 |s::r,h=>by
  simp only [SV.under.allUnder,Bool.and_eq_true] at h;simp only [SV.ren.renL,SV.ren_id hσ s h.1,zkg hσ r h.2]
end
theorem zow {α:Type} {f:α->α} {l:List α} (h:∀a∈l,f a=a):l.map f=l:=by
 conv=>rhs;rw [<-List.map_id l]
 exact List.map_congr_left h
theorem SObj.ren_id {m:Nat} {σ:Nat->Nat} (hσ:∀b,b<m->σ b=b) (o:SObj) (h:o.under m=true):o.ren σ=o:=by
 cases o with
 |cells cs=>simp only [SObj.ren];rw [<-zew,zkg hσ cs h]
 |mapI kk es=>
  simp only [SObj.under,List.all_eq_true] at h;simp only [SObj.ren];rw [zow fun e he=>by rw [SV.ren_id hσ e.2 (h e he)]]
 |mapS es=>
  simp only [SObj.under,List.all_eq_true] at h;simp only [SObj.ren];rw [zow fun e he=>by rw [SV.ren_id hσ e.2 (h e he)]]
 |loop s f n t ps a b=>
  simp only [SObj.under,List.all_eq_true] at h;simp only [SObj.ren];rw [zow fun e he=>by rw [SV.ren_id hσ e.2 (h e he)]]
 |vec kk cs=>simp only [SObj.ren];rw [<-zew,zkg hσ cs h]
 |pin kk es c=>
  simp only [SObj.under,List.all_eq_true] at h;simp only [SObj.ren];rw [zow fun e he=>by rw [SV.ren_id hσ e.2.2 (h e he)]]
 |iter b s seen l=>simp only [SObj.under,decide_eq_true_eq] at h;simp only [SObj.ren,hσ b h]
 |tok _ _=>rfl
 |dead=>rfl
 |free=>rfl
 |bld _=>rfl
 |btok _ _=>rfl
section
variable {P:Program} {G:List (Nat × D)} {fn:Func} {rd:Bool} {E:En P G fn rd} {t:List (Nat × SV)} {H:List SObj} {k:List Item}
theorem zns {all:Array Oper} {o:Oper} {rest:List Oper} {ty b n:Nat} {ax vx:Operand} {new old:List SV} (hop:o.op= .store ty ax vx) (hw:ya all t o.guard=some true) (hd:yf fn.ntmps o.dst=true) (ha:zo G t ax= .ptr b 0)
  (hv:(zo G t vx).cells=some new) (hone:new.all SV.one=true) (hsz:xj P ty=some n) (hn:new.length=n) (hb:H[b]?=some (.cells old)) (hol:old.length=n) (h:SWr E all rest k (xl t o.dst .any) (H.set b (.cells new))):SWr E all (o::rest) k t H:=by
 refine jd (r:=.any) (H':=H.set b (.cells new)) hw hd ?_ (by simp) h;rw [hop];subst hn;simp only [sop,zcv,ha,hv,hsz,hb];rw [if_pos ⟨trivial,by omega,hone⟩];simp [<-hol]
end
end Go.Sh
namespace Go.Proofs.YtjnddlifnkgncaaGreatDoor
open Go Go.Sh
variable (G:List (Nat × D))
abbrev zkh:SV:=.imm (.val (.slice none 0 0))
def xe (l:List Int):List (List D):=l.map fun n=>[dI n]
def ziy:Nat->List (List Int)->List SV
 |_,[]=>[]
 |k,l::r=>.asl k 1 (xe l)::ziy (k+1) r
def ycy (A:List (List Int)):List SObj:=A.map fun l=>.tok 1 (xe l).length
theorem zwi:∀(k:Nat) (A:List (List Int)),(ziy k A).length=A.length
 |_,[]=>rfl
 |k,_::r=>by rw [ziy,List.length_cons,zwi,List.length_cons]
theorem zwj:∀(k:Nat) (A:List (List Int)) (j:Nat),(ziy k A)[j]?=(A[j]?).map fun l=>.asl (k+j) 1 (xe l)
 |_,[],j=>by simp [ziy]
 |k,l::r,0=>rfl
 |k,l::r,j+1=>by
  rw [ziy,List.getElem?_cons_succ,zwj,List.getElem?_cons_succ,show k+1+j=k+(j+1) by omega]
theorem yfl (l':List Int):∀(k:Nat) (A:List (List Int)) (j:Nat),(ziy k A).set j (.asl (k+j) 1 (xe l'))=ziy k (A.set j l')
 |_,[],j=>rfl
 |k,l::r,0=>rfl
 |k,l::r,j+1=>by
  rw [ziy,List.set_cons_succ,List.set_cons_succ,ziy, <-yfl l' (k+1) r j,show k+1+j=k+(j+1) by omega]
theorem yfm (l:List Int):∀(k:Nat) (A:List (List Int)),ziy k (A++[l])=ziy k A++[.asl (k+A.length) 1 (xe l)]
 |_,[]=>rfl
 |k,a::r=>by
  rw [List.cons_append,ziy,yfm l (k+1) r,ziy,List.length_cons,show k+1+r.length=k+(r.length+1) by omega];rfl
theorem zub:∀(k N:Nat) (A:List (List Int)),k+A.length<=N->SV.under.allUnder N (ziy k A)=true
 |_,_,[],_=>rfl
 |k,N,a::r,h=>by
  rw [List.length_cons] at h;rw [ziy];simp only [SV.under.allUnder,SV.under,Bool.and_eq_true,decide_eq_true_eq];exact ⟨by omega,zub (k+1) N r (by omega)⟩
theorem zae (N:Nat) (l:List Int):SV.under.allUnder N (l.map sI)=true:=by
 induction l with
 |nil=>rfl
 |cons a r ih=>simpa [SV.under.allUnder,SV.under] using ih
def SQ (o0:SObj) (M:List Int) (A:List (List Int)):List SObj:=[o0,.cells (M.map sI),.cells (ziy 3 A)]++ycy A
theorem zjm (o0:SObj) (M:List Int) (A:List (List Int)):(SQ o0 M A).length=3+A.length:=by simp [SQ,ycy];omega
theorem ymt (N:Nat) (A:List (List Int)):(ycy A).all (SObj.under N)=true:=by
 induction A with
 |nil=>rfl
 |cons a r ih=>simp [ycy,SObj.under]
theorem yfn {o0:SObj} {M:List Int} {A:List (List Int)} {N:Nat} (h0:o0.under N=true) (h:3+A.length<=N):(SQ o0 M A).all (SObj.under N)=true:=by
 rw [SQ,List.all_append,ymt,Bool.and_true];have e1:SObj.under N (.cells (M.map sI))=true:=zae N M;have e2:SObj.under N (.cells (ziy 3 A))=true:=zub 3 N A h;simp only [List.all_cons,List.all_nil,h0,e1,e2];rfl
theorem zox {α:Type} (H:List α) (a b:α):(H++[a]).set H.length b=H++[b]:=by rw [List.set_append_right _ _ (Nat.le_refl _)];simp
theorem zit {α:Type} (H:List α) (a:α):(H++[a])[H.length]?=some a:=by simp
theorem yxd {o0:SObj} {M:List Int} {A:List (List Int)} {j:Nat} {l:List Int} (h:A[j]?=some l) (X:List SObj):(SQ o0 M A++X)[3+j]?=some (.tok 1 (xe l).length):=by
 have hlt:=lt_of_getElem? h;rw [List.getElem?_append_left (by rw [zjm];omega),SQ,List.getElem?_append_right (by simp),ycy,List.getElem?_map];simp [h]
theorem yux {o0:SObj} {M M':List Int} {A:List (List Int)} {j:Nat} {l':List Int} (hj:j<A.length) (X:List SObj):
  (((SQ o0 M A++X).set 1 (.cells (M'.map sI))).set (3+j) (.tok 1 (xe l').length)).set 2 (.cells ((ziy 3 A).set j (.asl (3+j) 1 (xe l'))))=SQ o0 M' (A.set j l')++X:=by
 have e1:(SQ o0 M A++X).set 1 (.cells (M'.map sI))=SQ o0 M' A++X:=rfl;have e2:(SQ o0 M' A++X).set (3+j) (.tok 1 (xe l').length)=[o0,.cells (M'.map sI),.cells (ziy 3 A)]++ycy (A.set j l')++X:=by
  rw [List.set_append_left _ _ (by rw [zjm];omega),SQ,List.set_append_right _ _ (by simp)];simp [ycy,List.map_set]
 rw [e1,e2,yfl];rfl
theorem yfo {fn:Func} {rd:Bool} {E:En Tryz.prog G fn rd} {k:List Item} {t:List (Nat × SV)} (o0 o1:SObj) (n:Nat) (hE:E.H.length<=3):∀(d j:Nat),j+d=n->
  SW E k t ([o0,o1,.cells (ziy 3 (List.replicate n []))]++ycy (List.replicate n []))->
  SW E k t ([o0,o1,.cells (ziy 3 (List.replicate j [])++List.replicate d zkh)]++ycy (List.replicate j []))
 |0,j,h,hs=>by
  obtain rfl:j=n:=by omega
  simpa using hs
 |d+1,j,h,hs=>by
  have ih:=yfo o0 o1 n hE d (j+1) (by omega) hs;have hl:(ziy 3 (List.replicate j [])).length=j:=by rw [zwi,List.length_replicate]
  refine zfm 2 j 1 rfl (by rw [List.getElem?_append_right (by omega),hl];simp) ?_;have e1:([o0,o1,SObj.cells (ziy 3 (List.replicate j [])++List.replicate (d+1) zkh)]++ycy (List.replicate j [])).length=3+j:=by simp [ycy];omega
  rw [e1];have e2:((ziy 3 (List.replicate j [])++List.replicate (d+1) zkh).set j (.asl (3+j) 1 []))=ziy 3 (List.replicate (j+1) [])++List.replicate d zkh:=by
   rw [List.set_append_right _ _ (by omega),hl,Nat.sub_self,List.replicate_succ,List.set_cons_zero,List.replicate_succ',yfm,List.length_replicate,List.append_assoc];rfl
  rw [e2];have e3:ycy (List.replicate (j+1) [])=ycy (List.replicate j [])++[.tok 1 0]:=by
   rw [List.replicate_succ'];simp [ycy,xe]
  rw [e3, <-List.append_assoc] at ih;exact ih
def ypl (a:Article) (op n:Int) (u:ByteArray) (den:Int) (ps:List Piece) (ks:List Ex):List D:=
 [dI a.number,dI a.line,dI a.rank,dI a.lo,dI a.hi,dI a.known,qp a.when_,ye a.unless_,dI op,dI n,dS u,dI den,.isl 3 (ps.map Piece.cells),.isl 6 (zj ks)]
theorem zhz {a:Article} {op n:Int} {u:ByteArray} {den:Int} {ps:List Piece} {ks:List Ex} (h:a.amount= .mk op n u den ps ks):a.cells=ypl a op n u den ps ks:=by
 simp [Article.cells,ypl,h,zx,Ex.op,Ex.n,Ex.unit,Ex.den,Ex.pieces,Ex.kids]
theorem zoy {a:Article} {op n:Int} {u:ByteArray} {den:Int} {ps:List Piece} {ks:List Ex} (h:a.amount= .mk op n u den ps ks):zze a= .agg (jj a op n u den ps ks):=by
 unfold zze;rw [zez h]
theorem zuc {c:Codex} {i:Nat} {a:Article} (h:c.arts[i]?=some a):zdj c (i:Int)=some a:=by
 unfold zdj;rw [if_neg (by omega),Int.toNat_natCast];exact h
theorem yrf {c:Codex} {i j:Nat} {a b:Article} (ha:c.arts[i]?=some a) (hb:c.arts[j]?=some b):zhw c i j=ztx a b:=by
 unfold zhw;rw [zuc ha,zuc hb]
theorem yuy (b k:Nat) (rows:List (List D)):(SV.asl b k rows).Is (.imm (.isl k rows)):=fun w I β v h=>by
 cases h with|asl _ _ _ _ _ _ h1=>exact .imm h1
def zcc (c:Codex):SObj:=.cells [.imm (zp c.facts),.imm (zp c.lines),.imm (yv c.arts)]
theorem zmw (c:Codex) (N:Nat):(zcc c).under N=true:=rfl
def zbj (c:Codex) (n:Nat):List Int:=((List.range n).filter fun (i:Nat)=>decide (yid c i=0)).map fun (i:Nat)=>(i:Int)
theorem zzf (c:Codex) (n:Nat):zbj c (n+1)=if yid c n=0 then zbj c n++[(n:Int)] else zbj c n:=by
 unfold zbj;rw [List.range_succ,List.filter_append,List.map_append]
 by_cases h:yid c n=0
 ·simp [h]
 ·simp [h]
theorem zzg (c:Codex) (f next:Nat) (s:List Int × List Int) {v:Int} (h:s.2[next]?=some v):ju c (f+1) next s=ju c f (next+1) ((yqz c v).foldl zey s):=by
 rw [ju,h]
theorem ycz (c:Codex) (f next:Nat) (s:List Int × List Int) (h:s.2[next]?=none):ju c f next s=s:=by
 cases f with
 |zero=>rfl
 |succ f=>rw [ju,h]
theorem zlm (l:List Int):(xe l).length=l.length:=by simp [xe]
theorem zzh (l:List Int) (x:Int):xe l++[[dI x]]=xe (l++[x]):=by simp [xe]
theorem zrg (c:Codex) (hA:∀a∈c.arts,ArtFit a) (hz:c.arts.length<=1000):zv Tryz.prog G 66 [c.sv] (.tup [.imm (ye (ybg c)),sB (decide ((ybg c).length=c.arts.length))]):=by
 have hal:(c.arts.map Article.cells).length=c.arts.length:=by simp
 rw [show c.sv= .agg [.imm (zp c.facts),.imm (zp c.lines),.imm (yv c.arts)] from rfl];refine zf Tryz.func66 rfl (by rw [Tryz.ntmps66];simp) rfl rfl ?_;intro E hH hK;(refine zg ?_;conv=>whnf);refine znn (n:=c.arts.length) (zz:=sI 0) rfl rfl rfl rfl rfl rfl rfl rfl rfl ⟨by decide,rfl⟩ rfl (by rw [<-hal]) (by rw [<-hal]) (by omega) ?_;(refine zc ?_;conv=>whnf);refine znn (n:=c.arts.length) (zz:=zkh) rfl rfl rfl rfl rfl rfl rfl rfl rfl ⟨by decide,rfl⟩ rfl (by rw [<-hal]) (by rw [<-hal]) (by omega) ?_;(refine zc ?_;conv=>whnf);refine zi [1,4,5,25,26,27] ?_;change SW E _ [(1,.ptr 0 0),(4,.osl 1 0 c.arts.length),(5,.osl 2 0 c.arts.length),(25,.imm (yv c.arts)),(26,sI ((c.arts.map Article.cells).length:Nat)),(27,sI (0:Nat))] ([.cells [.imm (zp c.facts),.imm (zp c.lines),.imm (yv c.arts)],.cells (List.replicate c.arts.length (sI 0)),.cells (ziy 3 (List.replicate 0 [])++List.replicate c.arts.length zkh)]++ycy (List.replicate 0 []));rw [hal];refine yfo G _ _ c.arts.length (by simp [hH]) c.arts.length 0 (by omega) ?_;rw [show List.replicate c.arts.length (sI 0)=(List.replicate c.arts.length (0:Int)).map sI by rw [List.map_replicate]];change SW E _ _ (SQ (zcc c) (List.replicate c.arts.length 0) (List.replicate c.arts.length []));refine zr c.arts (fun i (_:List Int × List (List Int))=>[(1,.ptr 0 0),(4,.osl 1 0 c.arts.length),(5,.osl 2 0 c.arts.length),(25,.imm (yv c.arts)),(26,sI (c.arts.length:Nat)),(27,sI (i:Nat))]) (fun _ s=>SQ (zcc c) s.1 s.2)
  (fun done _ s=>MInv c done.length 0 s.1 s.2) (List.replicate c.arts.length 0,List.replicate c.arts.length []) (yie c) ?_ ?_
 ·rintro ⟨M,A⟩ hinv
  obtain ⟨e1,e2⟩:=yrc hinv;have hl:=hinv.al;simp only at e1 e2 hl;have hL:(SQ (zcc c) M A).length=3+c.arts.length:=by rw [zjm,hl]
  have hMl:M.length=c.arts.length:=hinv.ml;clear hinv;change SW E _ [(1,.ptr 0 0),(4,.osl 1 0 c.arts.length),(5,.osl 2 0 c.arts.length),(25,.imm (yv c.arts)),(26,sI (c.arts.length:Nat)),(27,sI (c.arts.length:Nat))] (SQ (zcc c) M A);(refine zg ?_;conv=>whnf)
  repeat' ((with_reducible refine way ?_ ?_)<;>(intro h;conv=>whnf))
  all_goals try (exfalso;omega)
  refine zi [1,4,5,10,61,62,63] ?_;change SW E _ [(1,.ptr 0 0),(4,.osl 1 0 c.arts.length),(5,.osl 2 0 c.arts.length),(10,zkh),(61,.osl 1 0 c.arts.length),(62,sI (c.arts.length:Nat)),(63,sI (0:Nat))] (SQ (zcc c) M A);refine zje (n:=10) (kk:=1) rfl ?_;rw [hL];refine zi [1,4,5,10,61,62,63] ?_;change SW E _ [(1,.ptr 0 0),(4,.osl 1 0 c.arts.length),(5,.osl 2 0 c.arts.length),(10,.asl (3+c.arts.length) 1 (xe (zbj c 0))),(61,.osl 1 0 c.arts.length),(62,sI (c.arts.length:Nat)),(63,sI (0:Nat))] (SQ (zcc c) M A++[.tok 1 (xe (zbj c 0)).length]);rw [<-hMl];refine zr M (fun i (sq:List Int)=>[(1,.ptr 0 0),(4,.osl 1 0 M.length),(5,.osl 2 0 M.length),(10,.asl (3+M.length) 1 (xe sq)),(61,.osl 1 0 M.length),(62,sI (M.length:Nat)),(63,sI (i:Nat))]) (fun _ sq=>SQ (zcc c) M A++[.tok 1 (xe sq).length])
   (fun done _ sq=>sq=zbj c done.length) (zbj c 0) rfl ?_ ?_
  ·rintro sq rfl
   rw [hMl];have hst:zdq c=(M,zbj c c.arts.length):=by rw [e1];rfl
   have hsi:=ztz c;rw [hst] at hsi;have htgt:ju c (c.arts.length+1) 0 (M,zbj c c.arts.length)=ju c (c.arts.length+1) 0 (zdq c):=by rw [hst]
   have hres:ybg c=(ju c (c.arts.length+1) 0 (zdq c)).2:=rfl;rw [hres] at hK;clear hres;generalize ju c (c.arts.length+1) 0 (zdq c)=T at htgt hK;generalize zbj c c.arts.length=sq0 at hst hsi htgt;clear hst e1;(refine zg ?_;conv=>whnf)
   repeat' ((with_reducible refine way ?_ ?_)<;>(intro h;conv=>whnf))
   all_goals try (exfalso;omega)
   refine zi [1,4,5,10,13] ?_;change SW E _ [(1,.ptr 0 0),(4,.osl 1 0 c.arts.length),(5,.osl 2 0 c.arts.length),(10,.asl (3+c.arts.length) 1 (xe sq0)),(13,sI (0:Nat))] (SQ (zcc c) M A++[.tok 1 (xe sq0).length]);refine yx (σ:=Nat × List Int × List Int) (fun s=>[(1,.ptr 0 0),(4,.osl 1 0 c.arts.length),(5,.osl 2 0 c.arts.length),(10,.asl (3+c.arts.length) 1 (xe s.2.2)),(13,sI (s.1:Nat))]) (fun s=>SQ (zcc c) s.2.1 A++[.tok 1 (xe s.2.2).length])
    (fun s=>ju c (c.arts.length+1-s.1) s.1 s.2=T/\SInv c (-((s.1*c.arts.length:Nat):Int)) s.2/\s.1<=s.2.2.length) (fun s=>c.arts.length+1-s.1) ?_ (0,M,sq0) ⟨htgt,by simpa using hsi,Nat.zero_le _⟩
   clear htgt hsi hL hMl sq0 M;rintro ⟨next,M,sq⟩ ⟨k1,k2,k3⟩ ih;simp only at k1 k2 k3;have hL:(SQ (zcc c) M A).length=3+c.arts.length:=by rw [zjm,hl]
   have hqn:sq.length<=c.arts.length:=by have:=k2.cnt;simp only at this;omega
   change SW E _ [(1,.ptr 0 0),(4,.osl 1 0 c.arts.length),(5,.osl 2 0 c.arts.length),(10,.asl (3+c.arts.length) 1 (xe sq)),(13,sI (next:Nat))] (SQ (zcc c) M A++[.tok 1 (xe sq).length]);have hrl:=zlm sq
   by_cases hlt:next<sq.length
   ·obtain ⟨v,hv⟩:∃v,sq[next]?=some v:=⟨_,List.getElem?_eq_getElem hlt⟩
    have hvr:=k2.mem v (List.mem_of_getElem? hv);rw [show c.arts.length+1-next=(c.arts.length-next)+1 by omega,zzg c _ next (M,sq) hv] at k1;have hrv:(xe sq)[next]?=some [dI v]:=by rw [xe,List.getElem?_map,hv];rfl
    have hAv:(ziy 3 A)[0+v.toNat*1]?=some (.asl (3+v.toNat) 1 (xe (yqz c v))):=by
     have hvv:((v.toNat:Nat):Int)=v:=by omega
     rw [Nat.zero_add,Nat.mul_one,zwj,e2,List.getElem?_map,List.getElem?_range (by omega)];simp [hvv]
    have hvn:v=(v.toNat:Int):=by omega
    have hmul:next*c.arts.length<=1000*1000:=Nat.mul_le_mul (by omega) hz
    have hsucc:(next+1)*c.arts.length=next*c.arts.length+c.arts.length:=Nat.succ_mul _ _
    have ih:=fun s h1 h2 h3=>ih (next+1,s) ⟨h1,h2,h3⟩ (by simp only;omega)
    simp only at ih;rw [hsucc] at ih;generalize next*c.arts.length=q at k2 hmul ih
    have hal3:=yrd c v;have ham3:=fun x=>yfk (c:=c) (j:=v) (v:=x)
    rw [show c.arts.length+1-(next+1)=c.arts.length-next by omega] at ih;generalize yqz c v=av at k1 hAv hal3 ham3;(refine yb [777,84] 1000 ?_;conv=>whnf)
    repeat' ((with_reducible refine way ?_ ?_)<;>(intro h;conv=>whnf))
    all_goals try (exfalso;omega)
    refine zh (i:=next) (row:=[dI v]) rfl rfl hrv ?_;(refine zl [777,86] 1000 ?_;conv=>whnf);refine zbg (i:=v.toNat) rfl rfl rfl rfl rfl rfl rfl hvn (by omega) ?_;refine wk (b:=2) (cs:=ziy 3 A) (v:=.asl (3+v.toNat) 1 (xe av)) rfl rfl rfl rfl rfl hAv ?_;(refine zc ?_;conv=>whnf);refine zi [1,4,5,10,13,87,88,89] ?_;change SW E _ [(1,.ptr 0 0),(4,.osl 1 0 c.arts.length),(5,.osl 2 0 c.arts.length),(10,.asl (3+c.arts.length) 1 (xe sq)),(13,sI (next:Nat)),(87,.asl (3+v.toNat) 1 (xe av)),(88,sI ((xe av).length:Nat)),(89,sI (0:Nat))] (SQ (zcc c) M A++[SObj.tok 1 (xe sq).length]);rw [zlm av];refine zr av (fun i (s:List Int × List Int)=>[(1,.ptr 0 0),(4,.osl 1 0 c.arts.length),(5,.osl 2 0 c.arts.length),(10,.asl (3+c.arts.length) 1 (xe s.2)),(13,sI (next:Nat)),(87,.asl (3+v.toNat) 1 (xe av)),(88,sI (av.length:Nat)),(89,sI (i:Nat))]) (fun _ s=>SQ (zcc c) s.1 A++[SObj.tok 1 (xe s.2).length])
     (fun done rest s=>SInv c (-(q:Int)-done.length) s/\next<s.2.length/\ju c (c.arts.length-next) (next+1) (rest.foldl zey s)=T) (M,sq) ⟨by simpa using k2,hlt,k1⟩ ?_ ?_
    ·rintro ⟨M2,sq2⟩ ⟨i1,i2,i3⟩
     simp only at i1 i2 i3;have hw:=zk (n:=next) (by omega);have ih:=ih (M2,sq2) i3 (zzb i1 (by omega)) i2;change SW E _ [(1,.ptr 0 0),(4,.osl 1 0 c.arts.length),(5,.osl 2 0 c.arts.length),(10,.asl (3+c.arts.length) 1 (xe sq2)),(13,sI (next:Nat)),(87,.asl (3+v.toNat) 1 (xe av)),(88,sI (av.length:Nat)),(89,sI (av.length:Nat))] (SQ (zcc c) M2 A++[SObj.tok 1 (xe sq2).length]);(refine zg ?_;conv=>whnf)
     repeat' ((with_reducible refine way ?_ ?_)<;>(intro h;conv=>whnf))
     all_goals try (exfalso;omega)
     rw [hw];exact zi [1,4,5,10,13] ih
    ·rintro done x rest ⟨M2,sq2⟩ hdv hdl3 ⟨i1,i2,i3⟩ ih2
     simp only at i1 i2 i3;have hxr:=ham3 x (by rw [hdv];simp);have hxn:x=(x.toNat:Int):=by omega
     have hML:M2.length=c.arts.length:=i1.len;have hLq:(SQ (zcc c) M2 A).length=3+c.arts.length:=by rw [zjm,hl]
     have hq2:sq2.length<=c.arts.length:=by have:=i1.cnt;simp only at this;omega
     have hrx:(xe av)[done.length]?=some [dI x]:=by rw [xe,List.getElem?_map,hdv];simp
     have hw:=zk (n:=done.length) (by omega);obtain ⟨mm,hmm⟩:∃mm,M2[x.toNat]?=some mm:=⟨_,List.getElem?_eq_getElem (by omega)⟩;have hmr:=i1.rng mm (List.mem_of_getElem? hmm);have hwm:IntKind.i64.wrap (mm-1)=mm-1:=yg (by omega) (by omega);have hMm:(M2.map sI)[0+x.toNat*1]?=some (sI mm):=by rw [Nat.zero_add,Nat.mul_one,List.getElem?_map,hmm];rfl
     have hMm2:((M2.set x.toNat (mm-1)).map sI)[0+x.toNat*1]?=some (sI (mm-1)):=by rw [Nat.zero_add,Nat.mul_one,List.getElem?_map,List.getElem?_set_self (by omega)];rfl
     have zcd:=ymp i1 hxr.1 hxr.2;have hgd:M2.getD x.toNat 0=mm:=by rw [List.getD_eq_getElem?_getD,hmm];rfl
     have hse:zey (M2,sq2) x=(M2.set x.toNat (mm-1),if mm-1=0 then sq2++[x] else sq2):=by unfold zey;simp only [hgd]
     rw [List.foldl_cons,hse] at i3;rw [hse] at zcd;have ih2:=fun sq3 (h1:(if mm-1=0 then sq2++[x] else sq2)=sq3)=>ih2 (M2.set x.toNat (mm-1),sq3) ⟨by rw [h1] at zcd;rw [List.length_append];exact zzb zcd (by simp only [List.length_singleton];omega),by rw [<-h1];simp only;split<;>(try rw [List.length_append])<;>omega,by rw [<-h1];exact i3⟩
     simp only at ih2;change SW E _ [(1,.ptr 0 0),(4,.osl 1 0 c.arts.length),(5,.osl 2 0 c.arts.length),(10,.asl (3+c.arts.length) 1 (xe sq2)),(13,sI (next:Nat)),(87,.asl (3+v.toNat) 1 (xe av)),(88,sI (av.length:Nat)),(89,sI (done.length:Nat))] (SQ (zcc c) M2 A++[SObj.tok 1 (xe sq2).length]);(refine yb [777,91] 1000 ?_;conv=>whnf)
     repeat' ((with_reducible refine way ?_ ?_)<;>(intro h;conv=>whnf))
     all_goals try (exfalso;omega)
     refine zh (i:=done.length) (row:=[dI x]) rfl rfl hrx ?_;(refine zl [777,95] 1000 ?_;conv=>whnf);refine zbg (i:=x.toNat) rfl rfl rfl rfl rfl rfl rfl hxn (by omega) ?_;refine wk (b:=1) (cs:=M2.map sI) (v:=sI mm) rfl rfl rfl rfl rfl hMm ?_;(refine zl [777,98] 1000 ?_;conv=>whnf);rw [hwm];refine zbg (i:=x.toNat) rfl rfl rfl rfl rfl rfl rfl hxn (by omega) ?_;refine zio (b:=1) (cs:=M2.map sI) (off:=0+x.toNat*1) (v:=sI (mm-1)) rfl rfl rfl rfl rfl rfl rfl rfl rfl (by rw [List.length_map,hML];omega) ?_;rw [show (M2.map sI).set (0+x.toNat*1) (sI (mm-1))=(M2.set x.toNat (mm-1)).map sI by rw [Nat.zero_add,Nat.mul_one,List.map_set]];refine (fun (hs:∀H2,H2=SQ (zcc c) (M2.set x.toNat (mm-1)) A++[SObj.tok 1 (xe sq2).length]->SWr E _ _ _ _ H2)=>hs _ rfl) ?_;rintro _ rfl;(refine zl [777,101] 1000 ?_;conv=>whnf);refine zbg (i:=x.toNat) rfl rfl rfl rfl rfl rfl rfl hxn (by omega) ?_;refine wk (b:=1) (cs:=(M2.set x.toNat (mm-1)).map sI) (v:=sI (mm-1)) rfl rfl rfl rfl rfl hMm2 ?_;(refine zl [777,107] 1000 ?_;conv=>whnf);have hLq2:(SQ (zcc c) (M2.set x.toNat (mm-1)) A).length=3+c.arts.length:=by rw [zjm,hl]
     repeat' ((with_reducible refine way ?_ ?_)<;>(intro h;conv=>whnf))
     ·have ih2:=ih2 _ (if_pos ‹mm-1=0›)
      have htok:(SQ (zcc c) (M2.set x.toNat (mm-1)) A++[SObj.tok 1 (xe sq2).length])[3+c.arts.length]?=some (.tok 1 (xe sq2).length):=by
       rw [<-hLq2];exact zit _ _
      refine yy (b:=3+c.arts.length) (kk:=1) (rows:=xe sq2) (new:=[[dI x]]) rfl ⟨by decide,rfl⟩ htok (by rw [zlm];simp only [List.length_cons,List.length_nil];omega) ?_;rw [zzh, <-hLq2,zox,hLq2];have hr2:(xe sq2).length+[[dI x]].length=(xe (sq2++[x])).length:=by simp [xe]
      rw [hr2];(refine zc ?_;conv=>whnf);rw [hw];exact zi [1,4,5,10,13,87,88,89] ih2
     ·have ih2:=ih2 _ (if_neg ‹¬mm-1=0›)
      rw [hw];exact zi [1,4,5,10,13,87,88,89] ih2
   ·rw [ycz c _ next (M,sq) (List.getElem?_eq_none (by simp only;omega))] at k1
    subst k1;simp only at hK;have hal:(c.arts.map Article.cells).length=c.arts.length:=by simp
    (refine zg ?_;conv=>whnf)
    repeat' ((with_reducible refine way ?_ ?_)<;>(intro h;conv=>whnf))
    all_goals try (exfalso;omega)
    refine yyr 10 rfl (yuy _ _ _) ?_;refine zt mixed rfl ?_;(refine zd [] ?_;conv=>whnf);(refine zg ?_;conv=>whnf);have e3:decide ((((xe sq).length:Nat):Int)=(((c.arts.map Article.cells).length:Nat):Int))=decide (sq.length=c.arts.length):=by
     rw [hrl,hal];exact decide_eq_decide.2 (by omega)
    refine Eq.mpr (congrArg (fun b=>E.K (.tup [.imm (ye sq),sB b]) _) e3) (hK _)
  ·rintro done x rest sq hdm hdl rfl ih
   have hxi:M[done.length]?=some x:=by rw [hdm];simp
   have hx:x=yid c done.length:=by
    rw [e1,List.getElem?_map,List.getElem?_range (by omega)] at hxi;exact (Option.some.inj hxi).symm
   have hMx:(M.map sI)[0+done.length*1]?=some (sI x):=by rw [Nat.zero_add,Nat.mul_one,List.getElem?_map,hxi];rfl
   have hw:=zk (n:=done.length) (by omega);have ih:=ih (zbj c (done.length+1)) (by rw [List.length_append,List.length_singleton]);rw [zzf, <-hx] at ih;have hsl:(zbj c done.length).length<=done.length:=by
    unfold zbj;have:=List.length_filter_le (fun (i:Nat)=>decide (yid c i=0)) (List.range done.length);simp only [List.length_map,List.length_range] at this ⊢;exact this
   generalize zbj c done.length=sq at ih hsl;have hLM:(SQ (zcc c) M A).length=3+M.length:=by rw [hL,hMl]
   (refine yb [777,66] 1000 ?_;conv=>whnf)
   repeat' ((with_reducible refine way ?_ ?_)<;>(intro h;conv=>whnf))
   all_goals try (exfalso;omega)
   refine zbg (i:=done.length) rfl rfl rfl rfl rfl rfl rfl rfl (by omega) ?_;refine wk (b:=1) (cs:=M.map sI) (v:=sI x) rfl rfl rfl rfl rfl hMx ?_;(refine zl [777,73] 1000 ?_;conv=>whnf)
   repeat' ((with_reducible refine way ?_ ?_)<;>(intro h;conv=>whnf))
   ·rw [if_pos ‹x=0›] at ih
    have htok:(SQ (zcc c) M A++[SObj.tok 1 (xe sq).length])[3+M.length]?=some (.tok 1 (xe sq).length):=by
     rw [<-hLM];exact zit _ _
    refine yy (b:=3+M.length) (kk:=1) (rows:=xe sq) (new:=[[dI done.length]]) rfl ⟨by decide,rfl⟩ htok (by rw [zlm];simp only [List.length_cons,List.length_nil];omega) ?_;rw [zzh, <-hLM,zox,hLM];have hr2:(xe sq).length+[[dI done.length]].length=(xe (sq++[(done.length:Int)])).length:=by simp [xe]
    rw [hr2];(refine zc ?_;conv=>whnf);rw [hw];exact zi [1,4,5,10,61,62,63] ih
   ·rw [if_neg ‹¬x=0›] at ih
    rw [hw];exact zi [1,4,5,10,61,62,63] ih
 ·rintro done a rest ⟨M,A⟩ hda hdl hinv ih
  simp only at hinv ih;have hai:c.arts[done.length]?=some a:=by rw [hda];simp
  have ham:=List.mem_of_getElem? hai;have hrx:(c.arts.map Article.cells)[done.length]?=some a.cells:=by rw [List.getElem?_map,hai];rfl
  have hw:=zk (n:=done.length) (by omega);have hL:(SQ (zcc c) M A).length=3+c.arts.length:=by rw [zjm,hinv.al]
  obtain ⟨aop,an,au,ad,ap,ak,hma⟩:∃op n u den ps ks,a.amount= .mk op n u den ps ks:=by cases h:a.amount;exact ⟨_,_,_,_,_,_,rfl⟩
  rw [zhz hma] at hrx;have hsv:=zoy hma;change SW E _ [(1,.ptr 0 0),(4,.osl 1 0 c.arts.length),(5,.osl 2 0 c.arts.length),(25,.imm (yv c.arts)),(26,sI (c.arts.length:Nat)),(27,sI (done.length:Nat))] (SQ (zcc c) M A);(refine zg ?_;conv=>whnf)
  repeat' ((with_reducible refine way ?_ ?_)<;>(intro h;conv=>whnf))
  all_goals try (exfalso;omega)
  refine zh (i:=done.length) (row:=ypl a aop an au ad ap ak) rfl rfl hrx ?_;(refine zl [777,999] 1000 ?_;conv=>whnf);refine zns (b:=(SQ (zcc c) M A).length) (new:=jj a aop an au ad ap ak) rfl rfl rfl rfl rfl rfl rfl rfl (zit _ _) rfl ?_;rw [zox,hL];(refine zc ?_;conv=>whnf);refine zi [1,4,5,6,7,25,26,27,33,34,35] ?_;change SW E _ [(1,.ptr 0 0),(4,.osl 1 0 c.arts.length),(5,.osl 2 0 c.arts.length),(6,sI (done.length:Nat)),(7,.ptr (3+c.arts.length) 0),(25,.imm (yv c.arts)),(26,sI (c.arts.length:Nat)),(27,sI (done.length:Nat)),(33,.imm (yv c.arts)),(34,sI ((c.arts.map Article.cells).length:Nat)),(35,sI (0:Nat))] (SQ (zcc c) M A++[SObj.cells (jj a aop an au ad ap ak)]);rw [hal];have hbu:∀N,SObj.under N (.cells (jj a aop an au ad ap ak))=true:=fun N=>by rw [<-zez hma];exact zis a N
  refine zr c.arts (fun j (_:List Int × List (List Int))=>[(1,.ptr 0 0),(4,.osl 1 0 c.arts.length),(5,.osl 2 0 c.arts.length),(6,sI (done.length:Nat)),(7,.ptr (3+c.arts.length) 0),(25,.imm (yv c.arts)),(26,sI (c.arts.length:Nat)),(27,sI (done.length:Nat)),(33,.imm (yv c.arts)),(34,sI (c.arts.length:Nat)),(35,sI (j:Nat))])
   (fun _ s=>SQ (zcc c) s.1 s.2++[SObj.cells (jj a aop an au ad ap ak)]) (fun dj _ s=>MInv c done.length dj.length s.1 s.2) (M,A) hinv ?_ ?_
  ·clear hinv hL M A
   rintro ⟨M,A⟩ hinv;simp only at hinv;have hL:(SQ (zcc c) M A).length=3+c.arts.length:=by rw [zjm,hinv.al]
   have ih:=ih (M,A) (by rw [List.length_append];exact ymo hinv);change SW E _ [(1,.ptr 0 0),(4,.osl 1 0 c.arts.length),(5,.osl 2 0 c.arts.length),(6,sI (done.length:Nat)),(7,.ptr (3+c.arts.length) 0),(25,.imm (yv c.arts)),(26,sI (c.arts.length:Nat)),(27,sI (done.length:Nat)),(33,.imm (yv c.arts)),(34,sI (c.arts.length:Nat)),(35,sI (c.arts.length:Nat))] (SQ (zcc c) M A++[SObj.cells (jj a aop an au ad ap ak)]);(refine zg ?_;conv=>whnf)
   repeat' ((with_reducible refine way ?_ ?_)<;>(intro h;conv=>whnf))
   all_goals try (exfalso;omega)
   rw [hw];refine zi [1,4,5,25,26,27] ?_;change SW E _ [(1,.ptr 0 0),(4,.osl 1 0 c.arts.length),(5,.osl 2 0 c.arts.length),(25,.imm (yv c.arts)),(26,sI (c.arts.length:Nat)),(27,sI ((done.length+1:Nat):Int))] (SQ (zcc c) M A++[SObj.cells (jj a aop an au ad ap ak)]);refine zto (3+c.arts.length) (by rw [hH];exact Nat.zero_le _) (by rw [List.length_append,hL];omega) ?_ ?_ ?_
   ·simp [SV.under]
    omega
   ·rw [<-hL,List.take_left,hL]
    exact yfn (zmw c _) (by rw [hinv.al];omega)
   ·rw [<-hL,List.take_left]
    exact ih
  ·clear hinv hL M A ih
   rintro dj b rj ⟨M,A⟩ hdb hdl2 hinv ih;simp only at hinv ih;have hL:(SQ (zcc c) M A).length=3+c.arts.length:=by rw [zjm,hinv.al]
   have hL1:(SQ (zcc c) M A++[SObj.cells (jj a aop an au ad ap ak)]).length=3+c.arts.length+1:=by rw [List.length_append,hL];rfl
   have hbj:c.arts[dj.length]?=some b:=by rw [hdb];simp
   have hbm:=List.mem_of_getElem? hbj;have hrb:(c.arts.map Article.cells)[dj.length]?=some b.cells:=by rw [List.getElem?_map,hbj];rfl
   have hwj:=zk (n:=dj.length) (by omega);obtain ⟨bop,bn,bu,bd,bp,bk,hmb⟩:∃op n u den ps ks,b.amount= .mk op n u den ps ks:=by cases h:b.amount;exact ⟨_,_,_,_,_,_,rfl⟩
   rw [zhz hmb] at hrb;have hcall:=ycx G a b (hA a ham) (hA b hbm);rw [hsv,zoy hmb] at hcall;have hnd:=yrf hai hbj;generalize ztx a b=z at hcall hnd;have hend:∀(M':List Int) (A':List (List Int)),MInv c done.length (dj.length+1) M' A'->SW E _ [(1,.ptr 0 0),(4,.osl 1 0 c.arts.length),(5,.osl 2 0 c.arts.length),(6,sI (done.length:Nat)),(7,.ptr (3+c.arts.length) 0),(25,.imm (yv c.arts)),(26,sI (c.arts.length:Nat)),(27,sI (done.length:Nat)),(33,.imm (yv c.arts)),(34,sI (c.arts.length:Nat)),(35,sI ((dj.length+1:Nat):Int))]
     (SQ (zcc c) M' A'++[SObj.cells (jj a aop an au ad ap ak)]++[SObj.cells (jj b bop bn bu bd bp bk)]):=fun M' A' hinv'=>by
    have hL':(SQ (zcc c) M' A').length=3+c.arts.length:=by rw [zjm,hinv'.al]
    have hL1':(SQ (zcc c) M' A'++[SObj.cells (jj a aop an au ad ap ak)]).length=3+c.arts.length+1:=by rw [List.length_append,hL'];rfl
    refine zto (3+c.arts.length+1) (by rw [hH];exact Nat.zero_le _) (by rw [List.length_append,hL1'];omega) ?_ ?_ ?_
    ·simp [SV.under]
     omega
    ·rw [<-hL1',List.take_left,hL1',List.all_append,yfn (zmw c _) (by rw [hinv'.al];omega)]
     simp only [List.all_cons,List.all_nil,hbu];rfl
    ·rw [<-hL1',List.take_left]
     exact ih (M',A') (by rw [List.length_append];exact hinv')
   change SW E _ [(1,.ptr 0 0),(4,.osl 1 0 c.arts.length),(5,.osl 2 0 c.arts.length),(6,sI (done.length:Nat)),(7,.ptr (3+c.arts.length) 0),(25,.imm (yv c.arts)),(26,sI (c.arts.length:Nat)),(27,sI (done.length:Nat)),(33,.imm (yv c.arts)),(34,sI (c.arts.length:Nat)),(35,sI (dj.length:Nat))] (SQ (zcc c) M A++[SObj.cells (jj a aop an au ad ap ak)]);(refine zg ?_;conv=>whnf)
   repeat' ((with_reducible refine way ?_ ?_)<;>(intro h;conv=>whnf))
   all_goals try (exfalso;omega)
   refine zh (i:=dj.length) (row:=ypl b bop bn bu bd bp bk) rfl rfl hrb ?_;(refine zl [777,999] 1000 ?_;conv=>whnf);refine zns (b:=(SQ (zcc c) M A++[SObj.cells (jj a aop an au ad ap ak)]).length) (new:=jj b bop bn bu bd bp bk) rfl rfl rfl rfl rfl rfl rfl rfl (zit _ _) rfl ?_;rw [zox,hL1];have g7:(SQ (zcc c) M A++[SObj.cells (jj a aop an au ad ap ak)]++[SObj.cells (jj b bop bn bu bd bp bk)])[3+c.arts.length]?=some (.cells (jj a aop an au ad ap ak)):=by
    rw [List.getElem?_append_left (by rw [hL1];omega), <-hL];exact zit _ _
   have g9:(SQ (zcc c) M A++[SObj.cells (jj a aop an au ad ap ak)]++[SObj.cells (jj b bop bn bu bd bp bk)])[3+c.arts.length+1]?=some (.cells (jj b bop bn bu bd bp bk)):=by
    rw [<-hL1];exact zit _ _
   (refine zl [777,40] 1000 ?_;conv=>whnf);refine wk (v:=.agg (jj a aop an au ad ap ak)) rfl rfl rfl rfl g7 rfl ?_;refine wk (v:=.agg (jj b bop bn bu bd bp bk)) rfl rfl rfl rfl g9 rfl ?_;(refine zc ?_;conv=>whnf);refine ze rfl  hcall ?_;cases z with
   |false=>
    (refine zc ?_;conv=>whnf);rw [hwj];exact zi [1,4,5,6,7,25,26,27,33,34,35] (hend M A (yuv hinv hnd))
   |true=>
    have hi:done.length<c.arts.length:=by omega
    have hj:dj.length<c.arts.length:=by omega
    have hm:=hinv.m done.length hi;rw [if_neg (by omega),if_pos rfl] at hm;have ha:=hinv.a dj.length hj;rw [if_neg (by omega),List.append_nil] at ha;have hcr:=zmu c done.length dj.length;have hinv2:=yrb hinv hnd hi hj;have hal2:=yra c done.length dj.length;generalize ypk c done.length dj.length=m at hm hcr hinv2;generalize yss c done.length dj.length=l at ha hal2 hinv2;have hMl:(M.map sI)[0+done.length*1]?=some (sI m):=by
     rw [Nat.zero_add,Nat.mul_one,List.getElem?_map,hm];rfl
    have hAl:(ziy 3 A)[0+dj.length*1]?=some (.asl (3+dj.length) 1 (xe l)):=by
     rw [Nat.zero_add,Nat.mul_one,zwj,ha];rfl
    have hwm:IntKind.i64.wrap (m+1)=m+1:=yg (by omega) (by omega);(refine zl [777,45] 1000 ?_;conv=>whnf);refine zbg (i:=done.length) rfl rfl rfl rfl rfl rfl rfl rfl hi ?_;refine wk (b:=1) (cs:=M.map sI) (v:=sI m) rfl rfl rfl rfl rfl hMl ?_;(refine zl [777,48] 1000 ?_;conv=>whnf);rw [hwm];refine zbg (i:=done.length) rfl rfl rfl rfl rfl rfl rfl rfl hi ?_;refine zio (b:=1) (cs:=M.map sI) (off:=0+done.length*1) (v:=sI (m+1)) rfl rfl rfl rfl rfl rfl rfl rfl rfl (by rw [List.length_map,hinv.ml];omega) ?_;rw [show (M.map sI).set (0+done.length*1) (sI (m+1))=(M.set done.length (m+1)).map sI by rw [Nat.zero_add,Nat.mul_one,List.map_set]];(refine zl [777,53] 1000 ?_;conv=>whnf);refine zbg (i:=dj.length) rfl rfl rfl rfl rfl rfl rfl rfl hj ?_;refine wk (b:=2) (cs:=ziy 3 A) (v:=.asl (3+dj.length) 1 (xe l)) rfl rfl rfl rfl rfl hAl ?_;(refine zl [777,57] 1000 ?_;conv=>whnf);have htok:((SQ (zcc c) M A++[SObj.cells (jj a aop an au ad ap ak)]++[SObj.cells (jj b bop bn bu bd bp bk)]).set 1 (.cells ((M.set done.length (m+1)).map sI)))[3+dj.length]?=some (.tok 1 (xe l).length):=by
     rw [List.getElem?_set_ne (by omega),List.append_assoc];exact yxd ha _
    refine yy (b:=3+dj.length) (kk:=1) (rows:=xe l) (new:=[[dI done.length]]) rfl ⟨by decide,rfl⟩ htok (by rw [xe,List.length_map];simp only [List.length_cons,List.length_nil];omega) ?_;(refine zl [777,58] 1000 ?_;conv=>whnf);refine zbg (i:=dj.length) rfl rfl rfl rfl rfl rfl rfl rfl hj ?_;have h2:(((SQ (zcc c) M A++[SObj.cells (jj a aop an au ad ap ak)]++[SObj.cells (jj b bop bn bu bd bp bk)]).set 1 (.cells ((M.set done.length (m+1)).map sI))).set (3+dj.length) (.tok 1 ((xe l).length+1)))[2]?=some (.cells (ziy 3 A)):=by
     rw [List.getElem?_set_ne (by omega)];rfl
    refine zio (b:=2) (cs:=ziy 3 A) (off:=0+dj.length*1) (v:=.asl (3+dj.length) 1 (xe l++[[dI done.length]])) rfl rfl rfl rfl rfl rfl rfl rfl h2 (by rw [zwi,hinv.al];omega) ?_;have hr1:xe l++[[dI done.length]]=xe (l++[(done.length:Int)]):=by simp [xe]
    have hr2:(xe l).length+1=(xe (l++[(done.length:Int)])).length:=by simp [xe]
    have hheap:=yux (o0:=zcc c) (M:=M) (M':=M.set done.length (m+1)) (A:=A) (j:=dj.length) (l':=l++[(done.length:Int)]) (by rw [hinv.al];exact hj) ([SObj.cells (jj a aop an au ad ap ak)]++[SObj.cells (jj b bop bn bu bd bp bk)]);rw [hr1];refine (fun (hs:∀H2,H2=SQ (zcc c) (M.set done.length (m+1)) (A.set dj.length (l++[(done.length:Int)]))++([SObj.cells (jj a aop an au ad ap ak)]++[SObj.cells (jj b bop bn bu bd bp bk)])->SWr E _ _ _ _ H2)=>hs _ ?_) ?_
    ·rw [<-hheap, <-hr2,Nat.zero_add,Nat.mul_one,List.append_assoc]
     rfl
    ·rintro _ rfl
     rw [<-List.append_assoc];(refine zc ?_;conv=>whnf);rw [hwj];exact zi [1,4,5,6,7,25,26,27,33,34,35] (hend _ _ hinv2)
open Go Go.Sh Go.RowKit
theorem zud (b:Nat) (l:List Int) (H:List SObj) (hb:H[b]?=some (.vec 1 (l.map sI))) (hsz:l.length<=1073741824):
  SCall Tryz.prog G 105 [.vec b l.length] H (fun r H'=>r= .tup []/\H'=H.set b (.vec 1 ((zce l).map sI))):=by
 intro w I β vs hH hv;obtain ⟨v,hvs,hr⟩:=hv.one;have hvv:vs=#[v]:=by apply Array.ext';simpa using hvs
 subst hvv;obtain ⟨hbu,hcase⟩:=zjx hH hb hr (by simp) (Nat.le_refl _);rcases hcase with ⟨h0,rfl,_⟩|⟨c,cap,cur,T,rfl,a1,a2,a2',hmax,a3,a4⟩
 ·have hl:l=[]:=List.length_eq_zero_iff.1 h0
  subst hl;refine (Go.Proofs.Tryz.slices_Sort_int_none none 0 w).mono ?_;rintro e w' ⟨rfl,rfl⟩;refine ⟨_,.tup [],I,β,_,rfl,⟨rfl,rfl⟩,.tup #[] [] rfl (fun j h=>by simp at h),?_⟩;have e:H.set b (.vec 1 ((zce ([]:List Int)).map sI))=H:=by
   have:(zce ([]:List Int)).map sI=([]:List Int).map sI:=by simp
   rw [this];obtain ⟨hlt,he⟩:=List.getElem?_eq_some_iff.1 hb;rw [<-he];exact List.set_getElem_self hlt
  rw [e];exact ⟨hH,.refl⟩
 have hsl:(zce l).length=l.length:=by simp
 have htake:cur.toList.take l.length=l.map (Value.int .i64):=by
  apply List.ext_getElem
  ·simp [a2];omega
  ·intro j h1 h2
   have hj:j<l.length:=by simpa using h2
   have hjc:j<cur.size:=by rw [a2];omega
   have:=a3 j (by simpa using hj) hjc;simp only [List.getElem_map] at this;simp only [List.getElem_take,Array.getElem_toList,List.getElem_map];generalize cur[j]=q at this;cases this with|imm h=>cases h;rfl
 refine (Go.Proofs.Tryz.slices_Sort_int c 0 cap l w (holds_of_blockI a1 htake) (xw a1) (by omega)).mono ?_;rintro e w' ⟨rfl,n,os,rfl⟩;have hblk:=heap_sortedI (w:=w) (n:=n) (os:=os) (zce l).toArray a1;have hgrow:=grownBy_sortedI (w:=w) (g:=c) (n:=n) (os:=os) (zce l).toArray;generalize Go.Sort.grow (Go.Sort.putRow (Value.int .i64) (Go.Sort.ahead w n) c 0 (zce l).toArray) os=w' at hblk hgrow;have hold:∀c',c'<w.heap.size->c'≠c->w'.heap[c']?=w.heap[c']?:=fun c' h1 h2=>hgrow.block c' h1 (fun e=>h2 (by cases e;rfl))
 have hcellI:∀c' o,I c' o->w'.cell? ⟨c',o,none⟩=w.cell? ⟨c',o,none⟩:=fun c' o hi=>yh (hold c' (hH.inI c' o hi) (fun e=>a4 o (e ▸ hi))) o
 have hown:qe H β b c:=⟨_,_,hb,by simp,hbu,rfl⟩;have hbl:=lt_of_getElem? hb;have key:∀b' c',qe (H.set b (.vec 1 ((zce l).map sI))) β b' c'->qe H β b' c':=by
  rintro b' c' ⟨p,x,g1,g2,g3,g4⟩
  by_cases e:b'=b
  ·subst e;rw [hbu] at g3;cases g3;cases g4;exact hown
  ·rw [List.getElem?_set_ne (Ne.symm e)] at g1;exact ⟨p,x,g1,g2,g3,g4⟩
 have hnew:ObjOK w' I β (.vec 1 ((zce l).map sI)) (.tok (.slice (some ⟨c,0,none⟩) l.length cap)):=by
  refine .inr ⟨c,l.length,cap,_,T,rfl,hblk,by simp [Go.Sort.putCells,a2],a2',hmax,by simp,fun j hj hj'=>?_,a4⟩;have hjc:j<cur.size:=by simpa [Go.Sort.putCells] using hj'
  have hjl:j<l.length:=by simpa using hj
  simp only [Go.Sort.putCells,Array.getElem_mapIdx];rw [if_pos ⟨Nat.zero_le _,by simp;omega⟩];simp only [List.getElem_map,Nat.sub_zero];have:(zce l).toArray[j]! =(zce l)[j]'(by omega):=by simp [hjl]
  rw [this];exact .imm (.val _)
 refine ⟨_,.tup [],I,β,_,rfl,⟨rfl,rfl⟩,.tup #[] [] rfl (fun j h=>by simp at h),⟨by simp [hH.len],fun b' p x g1 g2=>?_,fun x y c' g1 g2=>hH.inj x y c' (key x c' g1) (key y c' g2),fun c' o hi=>Nat.lt_of_lt_of_le (hH.inI c' o hi) hgrow.size,fun g d hg=>(hH.glob g d hg).mono (fun _ _ h=>h) hcellI⟩,
  ⟨fun _ _ h=>h,hcellI,.refl _ _,fun c' hc' hn=>hold c' hc' (fun e=>hn b (e ▸ hown)),fun b' c' g=>.inl ⟨b',key b' c' g⟩,fun _ _ h=>.inl h,hgrow.size,⟨hgrow.os,hgrow.output⟩⟩⟩
 by_cases e:b'=b
 ·subst e
  rw [hbu] at g2;cases g2;rw [List.getElem?_set_self hbl] at g1;cases g1;exact hnew
 ·rw [List.getElem?_set_ne (Ne.symm e)] at g1
  by_cases hpd:p= .dead
  ·subst hpd;trivial
  ·refine (hH.obj b' p x g1 g2).mono (fun c' hc'=>hold c' ((hH.obj b' p x g1 g2).block_lt hpd hc') ?_) (fun _ _ h=>h) hcellI (.refl _ _) (fun _ _ _ h=>h)
   rintro rfl;exact e (hH.inj b' b _ ⟨p,x,g1,hpd,g2,hc'⟩ hown)
theorem ymu {a b:List Int} (h:a.Perm b):zce a=zce b:=by
 have ha:=List.mergeSort_perm a fun x y=>decide (x<=y)
 have hb:=List.mergeSort_perm b fun x y=>decide (x<=y)
 have sa:(zce a).Pairwise fun x y=>x<=y:=by
  have:=List.pairwise_mergeSort (le:=fun (x y:Int)=>decide (x<=y)) (fun a b c h1 h2=>by simp at*;omega) (fun a b=>by simp;omega) a;simpa using this
 have sb:(zce b).Pairwise fun x y=>x<=y:=by
  have:=List.pairwise_mergeSort (le:=fun (x y:Int)=>decide (x<=y)) (fun a b c h1 h2=>by simp at*;omega) (fun a b=>by simp;omega) b;simpa using this
 exact List.Perm.eq_of_pairwise (fun x y _ _ h1 h2=>by omega) sa sb ((ha.trans h).trans hb.symm)
theorem zrh (l:List Int):(Go.Lib.compact l).length<=l.length:=by
 unfold Go.Lib.compact Go.Lib.compactUpTo;rw [List.length_map];exact Nat.le_trans (List.length_filter_le _ _) (by simp)
theorem ymv {G:List (Nat × D)} {w w':World} {I:Imm} {β:List Bnd} {H:List SObj} {b c:Nat} {o0:SObj} {x0:Bnd} (hH:HeapOK G w I β H) (hb:H[b]?=some o0) (hd:o0≠ .dead) (hx:β[b]?=some x0) (hxc:x0.block=some c)
  (hold:∀c',c'<w.heap.size->c'≠c->w'.heap[c']?=w.heap[c']?) (hsz:w.heap.size<=w'.heap.size) (hnI:∀o,¬I c o) (hen:zeu w w'):
  HeapOK G w' (fun c' o=>I c' o\/c'=c) β (H.set b .dead)/\Ext H.length w I β H w' (fun c' o=>I c' o\/c'=c) β (H.set b .dead):=by
 have hbl:=lt_of_getElem? hb;have hown:qe H β b c:=⟨_,_,hb,hd,hx,hxc⟩;have hcellI:∀c' o,I c' o->w'.cell? ⟨c',o,none⟩=w.cell? ⟨c',o,none⟩:=fun c' o hi=>yh (hold c' (hH.inI c' o hi) (fun e=>hnI o (e ▸ hi))) o
 have hsub:∀b' c',qe (H.set b .dead) β b' c'->b'≠b/\qe H β b' c':=by
  rintro b' c' ⟨o,x,h1,h2,h3,h4⟩;have hne:b'≠b:=by
   rintro rfl;rw [List.getElem?_set_self hbl] at h1;cases h1;exact h2 rfl
  rw [List.getElem?_set_ne (Ne.symm hne)] at h1;exact ⟨hne,o,x,h1,h2,h3,h4⟩
 refine ⟨⟨by simp [hH.len],fun b' o x h1 h2=>?_,fun b1 b2 c' h1 h2=>hH.inj b1 b2 c' (hsub b1 c' h1).2 (hsub b2 c' h2).2,fun c' o hi=>?_,fun g d hg=>(hH.glob g d hg).mono (fun _ _ h=>.inl h) hcellI⟩,
  {imm:=fun _ _ h=>.inl h,cell:=hcellI,keep:=.refl _ _,old:=fun c' hc' hn=>hold c' hc' (fun e=>hn b (e ▸ hown)),own:=fun b' c' g=>.inl ⟨b',(hsub b' c' g).2⟩,new:=fun c' o hi=>?_,size:=hsz,env:=hen}⟩
 ·by_cases hne:b'=b
  ·subst hne
   rw [List.getElem?_set_self hbl] at h1;cases h1;trivial
  ·rw [List.getElem?_set_ne (Ne.symm hne)] at h1
   by_cases hdead:o= .dead
   ·subst hdead;trivial
   ·have hcc:∀c',x.block=some c'->c'≠c:=fun c' hc e=>by
     subst e;exact hne (hH.inj b' b _ ⟨o,x,h1,hdead,h2,hc⟩ hown)
    refine (hH.obj b' o x h1 h2).mono (fun c' hc=>hold c' ((hH.obj b' o x h1 h2).block_lt hdead hc) (hcc c' hc)) (fun _ _ h=>.inl h) hcellI (.refl _ _) (fun c' q hc hi=>?_);rcases hi with h3|h3
    ·exact h3
    ·exact absurd h3 (hcc c' hc)
 ·rcases hi with h3|rfl
  ·exact Nat.lt_of_lt_of_le (hH.inI c' o h3) hsz
  ·exact Nat.lt_of_lt_of_le (hH.owns_lt hown) hsz
 ·rcases hi with h3|rfl
  ·exact .inl h3
  ·exact .inr (.inl ⟨b,hown⟩)
theorem zri (b:Nat) (l:List Int) (H:List SObj) (hb:H[b]?=some (.vec 1 (l.map sI))) (hsz:l.length<=1073741824):
  SCall Tryz.prog G 110 [.vec b l.length] H (fun r H'=>r= .imm (ye (Go.Lib.compact l))/\H'=H.set b .dead):=by
 intro w I β vs hH hv;obtain ⟨v,hvs,hr⟩:=hv.one;have hvv:vs=#[v]:=by apply Array.ext';simpa using hvs
 subst hvv;obtain ⟨hbu,hcase⟩:=zjx hH hb hr (by simp) (Nat.le_refl _);have hcl:=zrh l;rcases hcase with ⟨h0,rfl,_⟩|⟨c,cap,cur,T,rfl,a1,a2,a2',hmax,a3,a4⟩
 ·have hl:l=[]:=List.length_eq_zero_iff.1 h0
  subst hl;refine (Go.Proofs.Tryz.slices_Compact_int_empty none 0 w).mono ?_;rintro e w' ⟨rfl,rfl⟩;refine ⟨_,.imm (ye (Go.Lib.compact [])),I,β,_,rfl,⟨rfl,rfl⟩,.imm (.islNil 1),?_⟩;have hbl:=lt_of_getElem? hb;have hsub:∀b' c',qe (H.set b .dead) β b' c'->qe H β b' c':=by
   rintro b' c' ⟨o,x,h1,h2,h3,h4⟩;have hne:b'≠b:=by
    rintro rfl;rw [List.getElem?_set_self hbl] at h1;cases h1;exact h2 rfl
   rw [List.getElem?_set_ne (Ne.symm hne)] at h1;exact ⟨o,x,h1,h2,h3,h4⟩
  refine ⟨⟨by simp [hH.len],fun b' o x h1 h2=>?_,fun b1 b2 c' h1 h2=>hH.inj b1 b2 c' (hsub b1 c' h1) (hsub b2 c' h2),hH.inI,hH.glob⟩,
   {(Ext.refl:Ext H.length w' I β H w' I β H) with own:=fun b' c' g=>.inl ⟨b',hsub b' c' g⟩}⟩
  by_cases hne:b'=b
  ·subst hne
   rw [List.getElem?_set_self hbl] at h1;cases h1;trivial
  ·rw [List.getElem?_set_ne (Ne.symm hne)] at h1
   exact hH.obj b' o x h1 h2
 have htake:cur.toList.take l.length=l.map (Value.int .i64):=by
  apply List.ext_getElem
  ·simp [a2];omega
  ·intro j h1 h2
   have hj:j<l.length:=by simpa using h2
   have hjc:j<cur.size:=by rw [a2];omega
   have:=a3 j (by simpa using hj) hjc;simp only [List.getElem_map] at this;simp only [List.getElem_take,Array.getElem_toList,List.getElem_map];generalize cur[j]=q at this;cases this with|imm h=>cases h;rfl
 refine (Go.Proofs.Tryz.slices_Compact_int c 0 cap l w (holds_of_blockI a1 htake) (by omega) a2').mono ?_;rintro e w' ⟨rfl,q,rfl⟩;have hblk:=heap_sortedI (w:=w) (n:=q) (os:=#[]) (Go.Lib.compact l++List.replicate (l.length-(Go.Lib.compact l).length) 0).toArray a1;have hgrow:=grownBy_sortedI (w:=w) (g:=c) (n:=q) (os:=#[]) (Go.Lib.compact l++List.replicate (l.length-(Go.Lib.compact l).length) 0).toArray;rw [Go.Sort.grow_empty] at hblk hgrow;generalize Go.Sort.putRow (Value.int .i64) (Go.Sort.ahead w q) c 0 (Go.Lib.compact l++List.replicate (l.length-(Go.Lib.compact l).length) 0).toArray=w' at hblk hgrow;have hold:∀c',c'<w.heap.size->c'≠c->w'.heap[c']?=w.heap[c']?:=fun c' h1 h2=>hgrow.block c' h1 (fun e=>h2 (by cases e;rfl))
 obtain ⟨k1,k2⟩:=ymv hH hb (by simp) hbu rfl hold hgrow.size a4 ⟨hgrow.os,hgrow.output⟩;refine ⟨_,.imm (ye (Go.Lib.compact l)),_,β,_,rfl,⟨rfl,rfl⟩,.imm ?_,k1,k2⟩;have hr:DRep w' (fun c' o=>I c' o\/c'=c) (.slice (some ⟨c,0,none⟩) ((Go.Lib.compact l).map fun n=>[dI n]).length cap) (.isl 1 ((Go.Lib.compact l).map fun n=>[dI n])):=by
  refine .isl c 0 cap 1 _ (fun i _=>.int .i64 ((Go.Lib.compact l).getD i 0)) (by simp;omega) hmax (fun i h=>by simp) (fun i j hi hj=>?_) (fun i j hi hj=>?_)
  ·have hi':i<(Go.Lib.compact l).length:=by simpa using hi
   have hj0:j=0:=by omega
   subst hj0;refine ⟨.inr rfl,?_,rfl⟩;rw [cell_of_heap hblk];have hic:i<cur.size:=by rw [a2];omega
   simp only [Nat.zero_add,Nat.mul_one,Nat.add_zero,Go.Sort.putCells];rw [Array.getElem?_mapIdx,Array.getElem?_eq_getElem hic];simp only [Option.map_some];rw [if_pos ⟨Nat.zero_le _,by simp;omega⟩];simp [hi',List.getElem_append_left,List.getElem?_append_left hi']
  ·have hi':i<(Go.Lib.compact l).length:=by simpa using hi
   have hj0:j=0:=by simp at hj;omega
   subst hj0;simp [hi'];exact .val _
 rw [List.length_map] at hr;exact hr
end Go.Proofs.YtjnddlifnkgncaaGreatDoor
namespace Go.Sh
section
variable {P:Program} {G:List (Nat × D)} {fn:Func} {E:En P G fn false} {t:List (Nat × SV)} {H:List SObj} {k:List Item} {all:Array Oper} {rest:List Oper} {o:Oper}
theorem SCallP.mono {f:FuncId} {args:List SV} {K K':SV->List SObj->Prop} {KP KP':List PanicEntry->List SObj->Prop} (h:SCallP P G f args H K KP) (hK:∀r H',K r H'->K' r H') (hP:∀ch H',KP ch H'->KP' ch H'):SCallP P G f args H K' KP':=
 fun w I β vs h1 h2=>(h w I β vs h1 h2).mono fun e w' h3=>by
  rcases h3 with ⟨v,r,I',β',H',h4,h5,h6⟩|⟨ch,I',β',H',h4,h5,h6⟩
  ·exact .inl ⟨v,r,I',β',H',h4,hK _ _ h5,h6⟩
  ·exact .inr ⟨ch,I',β',H',h4,hP _ _ h5,h6⟩
theorem SCall.toP {f:FuncId} {args:List SV} {K:SV->List SObj->Prop} {KP:List PanicEntry->List SObj->Prop} (h:SCall P G f args H K):SCallP P G f args H K KP:=
 fun w I β vs h1 h2=>(h w I β vs h1 h2).mono fun _ _ h3=>.inl h3
theorem zzi {fx:Operand} {args:Array Operand} {tys:Array TypeId} {f:FuncId} {first captured:List SV}
  (hop:o.op= .call ⟨.value fx,args,tys⟩) (hw:ya all t o.guard=some true) (hd:yf fn.ntmps o.dst=true) (hf:zo G t fx= .fn (.func f) first captured) (hb:wa P f=true)
  {argv:List SV} (hargs:first++args.toList.map (zo G t)++captured=argv)
  (hc:SCallP P G f argv H (fun r H'=>H.length<=H'.length/\SWr E all rest k (xl t o.dst r) H') (fun ch H'=>H.length<=H'.length/\E.KP ch H')):SWr E all (o::rest) k t H:=by
 refine ⟨fun j hj hdrop=>?_⟩;obtain ⟨h1,ho,h3⟩:=xy hdrop;rw [zam h1];subst hargs;refine ⟨fun a w I β cs hs=>?_⟩;have hwant:=jo hw hs;have hfr:=hs.eval fx;rw [hf] at hfr;generalize hfv:a.eval fx=fv at hfr;cases hfr with
 |fn _ fs cps _ _ l1 l2 r1 r2=>
 have hrun:(execOp a.eval o).run P w= .ok (.enter f (fs++args.map a.eval++cps)) w:=by
  obtain ⟨dst,op,type,pos,after,guard⟩:=o;simp only at hop;subst hop;simp only [execOp,resolve,hfv,Deferred.ofValue,Sem.run_bind,Sem.run_pure,Result.andThen_ok,invoke];exact jk hb
 have hreps:Reps w I β (fs++args.map a.eval++cps).toList (first++args.toList.map (zo G t)++captured):=by
  have e1:Reps w I β fs.toList first:=.of_get l1 r1
  have e2:Reps w I β (args.map a.eval).toList (args.toList.map (zo G t)):=by simpa using zga hs.eval args.toList
  have e3:Reps w I β cps.toList captured:=.of_get l2 r2;simpa using (e1.append e2).append e3
 obtain ⟨e,w',fr,hpost,hcomes,hfn,hleave⟩:=hc w I β _ hs.heap hreps (E.at a (.inRegion all (j::(List.range all.size).drop (j+1))::k)::cs);have hg:=zat (P:=P) (b:=E.base) (ro:=E.ro) (k:=k) (cs:=cs) (w:=w) (rest:=(List.range all.size).drop (j+1)) ho hwant (.inr fun c e=>by rw [hop] at e;cases e);have henter:step P (lone (E.at a (.inRegion all (j::(List.range all.size).drop (j+1))::k)) cs w)=
   .next (lone (Frame.enter P f (fs++args.map a.eval++cps) .normal) (E.at a (.inRegion all (j::(List.range all.size).drop (j+1))::k)::cs) w):=
  step_lone_go (by unfold En.at;rw [hg];simp [stepG.apply,hrun,atR,Frame.at])
 rcases hpost with ⟨v,r,I',β',H',rfl,⟨hl,hsw⟩,hv,hH',hext⟩|⟨ch,I',β',H',rfl,⟨hl,hKP⟩,hH',hext⟩
 ·have jf:(E.at a (.inRegion all (j::(List.range all.size).drop (j+1))::k)).finish v=E.at (a.put o.dst v) (.inRegion all ((List.range all.size).drop (j+1))::k):=by
   unfold En.at;rw [zac,ho];rfl
  have hsteps:Steps P (lone (E.at a (.inRegion all (j::(List.range all.size).drop (j+1))::k)) cs w) (lone (E.at (a.put o.dst v) (.inRegion all ((List.range all.size).drop (j+1))::k)) cs w'):=by
   refine .head henter (Steps.trans hcomes (.one ?_));rw [<-jf];exact step_leave_returned hleave
  exact .of_steps hsteps ((hsw.run (j+1) h1 h3).run _ w' I' β' cs (hs.put hd hv hH' hext hl))
 ·have hsim:Sim E t H' a w' I' β':=hs.put (d:=none) (v:=undef) (s:=.any) rfl (.any _) hH' hext hl
  obtain ⟨bs,e1,_⟩:=hsim.defers;refine .of_steps (.head henter (Steps.trans hcomes (.one (step_leave_panicked hleave)))) ?_;exact zju (fun _ _=>rfl) hKP bs a w' I' β' cs _ hsim e1 rfl rfl rfl rfl rfl
theorem ymw {x:Operand} {ty:TypeId} (hop:o.op= .panic x) (hw:ya all t o.guard=some true) (hx:zo G t x= .imm (.iface ty (.agg [])))
  (h:E.KP [{v:=.iface ty (.agg #[]),recovered:=false}] H):SWr E all (o::rest) k t H:=by
 refine ⟨fun j hj hdrop=>?_⟩;obtain ⟨h1,ho,h3⟩:=xy hdrop;rw [zam h1];refine ⟨fun a w I β cs hs=>?_⟩;have hwant:=jo hw hs;have hxr:=hs.eval x;rw [hx] at hxr;have hxv:a.eval x= .iface ty (.agg #[]):=by
  generalize a.eval x=v at hxr;cases hxr with|imm hxr=>
  cases hxr with|iface _ v _ hv=>
  cases hv with|agg vs _ hl _=>
  have h0:vs=#[]:=Array.eq_empty_of_size_eq_zero (by simpa using hl);rw [h0]
 have hrun:(execOp a.eval o).run P w= .halt (.panic (.iface ty (.agg #[]))) w:=by
  obtain ⟨dst,op,type,pos,after,guard⟩:=o;simp only at hop;subst hop;simp [execOp,hxv,Instr.panic,goPanic]
 have hg:=zat (P:=P) (b:=E.base) (ro:=E.ro) (k:=k) (cs:=cs) (w:=w) (rest:=(List.range all.size).drop (j+1)) ho hwant (.inr fun c e=>by rw [hop] at e;cases e);obtain ⟨bs,e1,_⟩:=hs.defers;have zcd:step P (lone (E.at a (.inRegion all (j::(List.range all.size).drop (j+1))::k)) cs w)= .next (lone ((E.at a (.inRegion all (j::(List.range all.size).drop (j+1))::k)).raise [{v:=.iface ty (.agg #[]),recovered:=false}]) cs w):=
  step_lone_go (by unfold En.at;rw [hg];simp [stepG.apply,hrun])
 refine .of_steps (.one zcd) ?_;exact zju (fun _ _=>rfl) h bs a w I β cs _ hs e1 rfl rfl rfl rfl rfl
end
section
variable {P:Program} {G:List (Nat × D)} {fn:Func} {E:En P G fn false} {t:List (Nat × SV)} {H:List SObj} {k:List Item}
def SPreP (P:Program) (G:List (Nat × D)) (f:FuncId) (args:List SV) (H0:List SObj) (K:SV->List SObj->Prop) (KP:List PanicEntry->List SObj->Prop):Prop:=
 ∀X,SCallP P G f args (H0++X) (fun r H'=>∃H1,K r H1/\H1.length=H0.length/\H'=H1++X) (fun ch H'=>∃H1,KP ch H1/\H1.length=H0.length/\H'=H1++X)
theorem yrg {f : FuncId} {args : List SV} {H0 : List SObj} {K : SV -> List SObj -> Prop} {KP : List PanicEntry -> List SObj -> Prop} (hargs : args.all (SV.under H0.length) = true) (hH0 : H0.all (SObj.under H0.length) = true)
    (h : SCallP P G f args H0 (fun r H' => H0.length <= H'.length /\ r.under H0.length = true /\ (H'.take H0.length).all (SObj.under H0.length) = true /\ K r (H'.take H0.length))
      (fun ch H' => H0.length <= H'.length /\ (H'.take H0.length).all (SObj.under H0.length) = true /\ KP ch (H'.take H0.length))) : SPreP P G f args H0 K KP := by
  intro X w I β vs hH hv
  have hs := hH.small hH0
  refine (h w I (β.take H0.length) vs hs (zmh hv hargs)).mono ?_
  rintro e w' (⟨v, r, I', β1, H', rfl, ⟨hl, hr, hu1, hK⟩, g1, g2, g3⟩ | ⟨ch, I', β1, H', rfl, ⟨hl, hu1, hK⟩, g2, g3⟩)
  · obtain ⟨q1, q2⟩ := hH.whole (H1 := H') hl hu1 g2 g3
    have hlen1 : β1.length = H'.length := g2.len
    refine .inl ⟨v, r, I', _, _, rfl, ⟨H'.take H0.length, hK, by simp; omega, rfl⟩, ?_, q1, q2⟩
    refine (zqa g1 hr).mono_below (fun _ _ h => h) (fun _ _ _ => rfl) (m := H0.length) (fun b x hb hx => ?_) hr
    exact ⟨x, by rw [List.getElem?_append_left (lt_of_getElem? hx)]; exact hx, x.le_refl⟩
  · obtain ⟨q1, q2⟩ := hH.whole (H1 := H') hl hu1 g2 g3
    exact .inr ⟨ch, I', _, _, rfl, ⟨H'.take H0.length, hK, by simp; omega, rfl⟩, q1, q2⟩
theorem SPre.toP {f:FuncId} {args:List SV} {H0:List SObj} {K:SV->List SObj->Prop} {KP:List PanicEntry->List SObj->Prop} (h:SPre P G f args H0 K):SPreP P G f args H0 K KP:=fun X=>(h X).toP
theorem SPreP.mono {f:FuncId} {args:List SV} {H0:List SObj} {K K':SV->List SObj->Prop} {KP KP':List PanicEntry->List SObj->Prop} (h:SPreP P G f args H0 K KP) (hK:∀r H1,K r H1->K' r H1) (hP:∀ch H1,KP ch H1->KP' ch H1):SPreP P G f args H0 K' KP':=
 fun X=>(h X).mono (fun _ _ ⟨H1,h1,h2⟩=>⟨H1,hK _ _ h1,h2⟩) (fun _ _ ⟨H1,h1,h2⟩=>⟨H1,hP _ _ h1,h2⟩)
theorem SCallP.sure {f:FuncId} {args:List SV} {K:SV->List SObj->Prop} {KP:List PanicEntry->List SObj->Prop} (h:SCallP P G f args H K KP) (hP:∀ch H',¬KP ch H'):SCall P G f args H K:=
 fun w I β vs h1 h2=>(h w I β vs h1 h2).mono fun _ _ h3=>by
  rcases h3 with h3|⟨ch,_,_,H',_,h5,_⟩
  ·exact h3
  ·exact absurd h5 (hP ch H')
theorem zln {all:Array Oper} {o:Oper} {rest:List Oper} {fx:Operand} {args:Array Operand} {tys:Array TypeId} {f:FuncId} {first captured:List SV} {res:Option SV} {ch0:List PanicEntry}
  (hop:o.op= .call ⟨.value fx,args,tys⟩) (hw:ya all t o.guard=some true) (hd:yf fn.ntmps o.dst=true) (hf:zo G t fx= .fn (.func f) first captured) (hb:wa P f=true)
  {argv:List SV} (hargs:first++args.toList.map (zo G t)++captured=argv) (htail:zjf all (all.size-(rest.length+1))=true)
  (hc:SCallP P G f argv H (fun r H'=>H'=H/\res=some r) (fun ch H'=>H'=H/\res=none/\ch=ch0)) (hp:res=none->E.KP ch0 H)
  (h:∀r,res=some r->SWd E all rest k (xl t o.dst r) H):SWd E all (o::rest) k t H:=by
 cases hr:res with
 |none=>
  subst hr;refine ytt hop hw hf hb hargs htail (hc.mono (fun r H' h=>by cases h.2) ?_);rintro ch H' ⟨rfl,_,rfl⟩;exact ⟨Nat.le_refl _,hp rfl⟩
 |some r=>
  subst hr;refine zxt hop hw hd hf hb hargs (((hc.sure fun ch H' h=>by cases h.2.1)).mono ?_) (h r rfl);rintro r' H' ⟨rfl,e⟩;cases e;exact ⟨rfl,rfl⟩
theorem zrj {all:Array Oper} {o:Oper} {rest:List Oper} {fx:Operand} {args:Array Operand} {tys:Array TypeId} {f:FuncId} {first captured:List SV} {res:Option SV} {ch0:List PanicEntry}
  (hop:o.op= .call ⟨.value fx,args,tys⟩) (hw:ya all t o.guard=some true) (hd:yf fn.ntmps o.dst=true) (hf:zo G t fx= .fn (.func f) first captured) (hb:wa P f=true)
  {argv:List SV} (hargs:first++args.toList.map (zo G t)++captured=argv)
  (hc:SCallP P G f argv H (fun r H'=>H'=H/\res=some r) (fun ch H'=>H'=H/\res=none/\ch=ch0)) (hp:res=none->E.KP ch0 H)
  (h:∀r,res=some r->SWr E all rest k (xl t o.dst r) H):SWr E all (o::rest) k t H:=by
 refine zzi hop hw hd hf hb hargs (hc.mono ?_ ?_)
 ·rintro r H' ⟨rfl,e⟩
  exact ⟨Nat.le_refl _,h r e⟩
 ·rintro ch H' ⟨rfl,e,rfl⟩
  exact ⟨Nat.le_refl _,hp e⟩
theorem yda {rd:Bool} {E:En P G fn rd} {all:Array Oper} {o:Oper} {rest:List Oper} {ty ty':Nat} {x y:Operand} {a b:Int} {kk:IntKind} (hop:o.op= .binOp .quo ty x y ty') (hw:ya all t o.guard=some true) (hd:yf fn.ntmps o.dst=true) (hx:zo G t x= .imm (.val (.int kk a))) (hy:zo G t y= .imm (.val (.int kk b))) (hb:b≠0)
  (h:SWr E all rest k (xl t o.dst (.imm (.val (.int kk (kk.wrap (a.tdiv b)))))) H):SWr E all (o::rest) k t H:=by
 refine jd (r:=.imm (.val (.int kk (kk.wrap (a.tdiv b))))) (H':=H) hw hd ?_ (Nat.le_refl _) h;have hs:ybi P .quo ty (.int kk a) (.int kk b)=some (.int kk (kk.wrap (a.tdiv b))):=by
  simp [ybi,yth,hb]
 rw [hop];simp only [sop,hx,hy,hs,Option.map_some]
theorem yuz {rd:Bool} {E:En P G fn rd} {all:Array Oper} {o:Oper} {rest:List Oper} {ty ty':Nat} {x y:Operand} {a b:Int} {kk:IntKind} (hop:o.op= .binOp .rem ty x y ty') (hw:ya all t o.guard=some true) (hd:yf fn.ntmps o.dst=true) (hx:zo G t x= .imm (.val (.int kk a))) (hy:zo G t y= .imm (.val (.int kk b))) (hb:b≠0)
  (h:SWr E all rest k (xl t o.dst (.imm (.val (.int kk (a.tmod b))))) H):SWr E all (o::rest) k t H:=by
 refine jd (r:=.imm (.val (.int kk (a.tmod b)))) (H':=H) hw hd ?_ (Nat.le_refl _) h;have hs:ybi P .rem ty (.int kk a) (.int kk b)=some (.int kk (a.tmod b)):=by
  simp [ybi,yth,hb]
 rw [hop];simp only [sop,hx,hy,hs,Option.map_some]
end
end Go.Sh
namespace Go.Proofs.YtjnddlifnkgncaaGreatDoor
open Go Go.Sh
variable (G:List (Nat × D))
theorem zcu (b:Bool):zv Tryz.prog G 187 [sB b] (sI (b2i b)):=by
 refine zf Tryz.func187 rfl (by rw [Tryz.ntmps187];simp) rfl rfl ?_;intro E hH hK;cases b<;>((refine zm ?_;conv=>whnf))<;>exact hK _
theorem zue (a b:Int) (hb:b≠0):zv Tryz.prog G 207 [sI a,sI b] (sI (zhv a b)):=by
 refine zf Tryz.func207 rfl (by rw [Tryz.ntmps207];simp) rfl rfl ?_;intro E hH hK;(refine yb [8] 1000 ?_;conv=>whnf);refine yda rfl rfl rfl rfl rfl hb ?_;(refine zl [11] 1000 ?_;conv=>whnf);refine yuz rfl rfl rfl rfl rfl hb ?_;(refine zn ?_;conv=>whnf)
 repeat' ((with_reducible refine way ?_ ?_)<;>(intro h;conv=>whnf))
 ·exact kI hK (by unfold zhv;rw [if_pos h])
 ·exact kI hK (by unfold zhv;rw [if_neg h])
theorem zzj (a b:Int) (hb:b≠0):zv Tryz.prog G 206 [sI a,sI b] (sI (zyz a b)):=by
 have hf:=zue G a b hb;unfold zyz;generalize zhv a b=q at hf;refine zf Tryz.func206 rfl (by rw [Tryz.ntmps206];simp) rfl rfl ?_;intro E hH hK;(refine zm ?_;conv=>whnf);refine ze rfl  hf ?_;(refine zn ?_;conv=>whnf)
 repeat' ((with_reducible refine way ?_ ?_)<;>(intro h;conv=>whnf))
 ·rename_i g1 g2
  exact kI hK (by rw [if_pos (.inr ⟨g2,h⟩)])
 ·rename_i g1 g2
  exact kI hK (by rw [if_neg (fun x=>x.elim g1 (fun x=>x.2 h))])
 ·rename_i g1
  exact kI hK (by rw [if_neg (fun x=>x.elim g1 (fun x=>h x.1))])
 ·exact kI hK (by rw [if_pos (.inl h)])
theorem zrk (y:Int):zv Tryz.prog G 205 [sI y] (sI (ycu y)):=by
 refine zf Tryz.func205 rfl (by rw [Tryz.ntmps205];simp) rfl rfl ?_;intro E hH hK;(refine zm ?_;conv=>whnf)
 repeat' ((with_reducible refine way ?_ ?_)<;>(intro h;conv=>whnf))
 ·exact kI hK (by unfold ycu;rw [if_pos (by assumption)])
 ·exact kI hK (by unfold ycu;rw [if_neg (by assumption)])
abbrev zjn:List PanicEntry:=[{v:=.iface 210 (.agg #[]),recovered:=false}]
def yva (f:FuncId) (args:List SV) (H:List SObj) (res:Option SV):Prop:=SCallP Tryz.prog G f args H (fun r H'=>H'=H/\res=some r) (fun ch H'=>H'=H/\res=none/\ch=zjn)
def May (f:FuncId) (args:List SV) (res:Option SV):Prop:=∀H,yva G f args H res
def zzk (f:FuncId) (args:List SV) (H0:List SObj) (res:Option SV):Prop:=∀X,yva G f args (H0++X) res
theorem zzl {f:FuncId} {args:List SV} {H0:List SObj} {res:Option SV} (hargs:args.all (SV.under H0.length)=true) (hH0:H0.all (SObj.under H0.length)=true)
  (h:SCallP Tryz.prog G f args H0 (fun r H'=>H0.length<=H'.length/\r.under H0.length=true/\H'.take H0.length=H0/\res=some r) (fun ch H'=>H0.length<=H'.length/\H'.take H0.length=H0/\res=none/\ch=zjn)):zzk G f args H0 res:=by
 have:=yrg (G:=G) (P:=Tryz.prog) (f:=f) (K:=fun r H1=>H1=H0/\res=some r) (KP:=fun ch H1=>H1=H0/\res=none/\ch=zjn) hargs hH0
  (h.mono (fun r H' ⟨a,b,c,d⟩=>⟨a,b,by rw [c];exact hH0,c,d⟩) (fun ch H' ⟨a,b,c,d⟩=>⟨a,by rw [b];exact hH0,b,c,d⟩))
 intro X;refine (this X).mono ?_ ?_
 ·rintro r H' ⟨H1,⟨rfl,e⟩,_,rfl⟩
  exact ⟨rfl,e⟩
 ·rintro ch H' ⟨H1,⟨rfl,e⟩,_,rfl⟩
  exact ⟨rfl,e⟩
theorem znt:zv Tryz.prog G 184 [sB true] (.tup []):=by
 refine zf Tryz.func184 rfl (by rw [Tryz.ntmps184];simp) rfl rfl ?_;intro E hH hK;(refine zm ?_;conv=>whnf);exact hK _
theorem zlo (H:List SObj):SCallP Tryz.prog G 184 [sB false] H (fun _ _=>False) (fun ch H'=>H'=H/\ch=zjn):=by
 refine zeh Tryz.func184 rfl (by rw [Tryz.ntmps184];simp) ?_;intro E hH hK hP;(refine zg ?_;conv=>whnf);refine ylp (d:=.agg []) rfl rfl rfl rfl rfl ?_;(refine zc ?_;conv=>whnf);refine ymw rfl rfl rfl (hP _ _ ⟨rfl,rfl⟩)
section
variable {G}
variable {fn:Func} {E:En Tryz.prog G fn false} {t:List (Nat × SV)} {H:List SObj} {k:List Item}
theorem qu {all:Array Oper} {o:Oper} {rest:List Oper} {fx:Operand} {args:Array Operand} {tys:Array TypeId} {b:Bool}
  (hop:o.op= .call ⟨.value fx,args,tys⟩) (hw:ya all t o.guard=some true) (hd:yf fn.ntmps o.dst=true) (hf:zo G t fx= .fn (.func 184) [] [])
  (hargs:args.toList.map (zo G t)=[sB b]) (h1:b=true->SWr E all rest k (xl t o.dst (.tup [])) H) (h2:b=false->E.KP zjn H):SWr E all (o::rest) k t H:=by
 cases b with
 |true=>exact yeo (argv:=[sB true]) hop hw hd hf rfl (by rw [hargs];rfl) (znt G) (h1 rfl)
 |false=>
  refine zzi (argv:=[sB false]) hop hw hd hf rfl (by rw [hargs];rfl) ((zlo G H).mono (fun _ _ h=>h.elim) ?_);rintro ch H' ⟨rfl,rfl⟩;exact ⟨Nat.le_refl _,h2 rfl⟩
end
theorem zzm (op a b:Int) (hb0: -1000000000000<=b) (hb1:b<=1000000000000):May G 189 [sI op,sI a,sI b] ((zqy op a b).map sI):=by
 intro H;refine zeh Tryz.func189 rfl (by rw [Tryz.ntmps189];simp) ?_;intro E hH hK hP;have jf:∀n,zqy op a b=some n->E.K (sI n) H:=fun n e=>hK _ _ ⟨rfl,by rw [e];rfl⟩
 have hno:zqy op a b=none->E.KP zjn H:=fun e=>hP _ _ ⟨rfl,by rw [e];rfl,rfl⟩
 clear hK hP
 by_cases o8:op=8
 ·subst o8
  (refine zg ?_;conv=>whnf);refine ze rfl  (zcu G _) ?_;(refine zc ?_;conv=>whnf);exact jf _ rfl
 by_cases o9:op=9
 ·subst o9
  (refine zg ?_;conv=>whnf);refine ze rfl  (zcu G _) ?_;(refine zc ?_;conv=>whnf);exact jf _ rfl
 by_cases o10:op=10
 ·subst o10
  (refine zg ?_;conv=>whnf);refine ze rfl  (zcu G _) ?_;(refine zc ?_;conv=>whnf);exact jf _ rfl
 by_cases o11:op=11
 ·subst o11
  (refine zg ?_;conv=>whnf);exact jf _ rfl
 by_cases o12:op=12
 ·subst o12
  (refine zg ?_;conv=>whnf);exact jf _ rfl
 by_cases o13:op=13
 ·subst o13
  have e13:zqy 13 a b=(if ywy a b=true then some (wi (a*b)) else none):=rfl;rw [e13] at jf hno;(refine yb [777,49] 1000 ?_;conv=>whnf)
  repeat' ((with_reducible refine way ?_ ?_)<;>(intro h;conv=>whnf))
  ·have hne:mxA b (wi (0-b))≠0:=by
    unfold mxA;rw [show wi (0-b)=0-b from yg (by omega) (by omega)];split<;>omega
   refine yda rfl rfl rfl rfl rfl hne ?_;(refine zc ?_;conv=>whnf);refine qu rfl rfl rfl rfl rfl (fun hb=>?_) (fun hb=>hno (if_neg ?_))
   ·(refine zc ?_;conv=>whnf)
    refine jf _ (if_pos ?_);unfold ywy;rw [decide_eq_false h,Bool.false_or];exact hb
   ·unfold ywy
    rw [decide_eq_false h,Bool.false_or,Bool.not_eq_true];exact hb
  ·refine qu (b:=true) rfl rfl rfl rfl rfl (fun _=>?_) (fun hb=>by cases hb)
   (refine zc ?_;conv=>whnf);exact jf _ (if_pos (by unfold ywy;rw [decide_eq_true h,Bool.true_or]))
 by_cases o14:op=14
 ·subst o14
  have e14:zqy 14 a b=(if 0<b then some (zhv a b) else none):=rfl;rw [e14] at jf hno;(refine zg ?_;conv=>whnf);refine qu rfl rfl rfl rfl rfl (fun hb=>?_) (fun hb=>hno (if_neg (of_decide_eq_false hb)));have hb:0<b:=of_decide_eq_true hb;(refine zc ?_;conv=>whnf);refine ze rfl  (zue G a b (by omega)) ?_;(refine zc ?_;conv=>whnf);exact jf _ (if_pos hb)
 by_cases o15:op=15
 ·subst o15
  have e15:zqy 15 a b=(if-1000000<=a/\a<=1000000 then some (zyz (wi (a*b)) 60) else none):=rfl;rw [e15] at jf hno;have hev:=zzj G (wi (a*b)) 60 (by decide);generalize zyz (wi (a*b)) 60=z at hev jf hno;(refine zg ?_;conv=>whnf)
  repeat' ((with_reducible refine way ?_ ?_)<;>(intro h;conv=>whnf))
  ·refine qu rfl rfl rfl rfl rfl (fun hb=>?_) (fun hb=>hno (if_neg (fun x=>of_decide_eq_false hb x.2)))
   (refine zc ?_;conv=>whnf);refine ze rfl  hev ?_;(refine zc ?_;conv=>whnf);exact jf _ (if_pos ⟨h,of_decide_eq_true hb⟩)
  ·refine qu (b:=false) rfl rfl rfl rfl rfl (fun hb=>by cases hb) (fun _=>hno (if_neg (fun x=>h x.1)))
 by_cases o16:op=16
 ·subst o16
  (refine zg ?_;conv=>whnf);exact jf _ rfl
 have e17:zqy op a b=some (mxA a b):=by unfold zqy;rw [if_neg o8,if_neg o9,if_neg o10,if_neg o11,if_neg o12,if_neg o13,if_neg o14,if_neg o15,if_neg o16]
 (refine zg ?_;conv=>whnf)
 repeat' ((with_reducible refine way ?_ ?_)<;>(intro h;conv=>whnf))
 all_goals try contradiction
 exact jf _ e17
open Go Go.Sh Go.RowKit
abbrev ztf:Value:=.iface 210 (.agg #[])
theorem yig (p q:Addr) (w:World):
  CallsD Tryz.prog 146 #[.pointer (some p),.pointer (some q)] .returning w fun e u' w'=>e= .returned (.tuple #[])/\u'= .returning/\w'=w:=by
 refine callsD_of_wpS Tryz.func146 rfl fun c₀ cs hu=>?_
 apply wpS_seq
 apply wpS_region
 simp [wpOpsS,go_sem,recoverD,hu,Tryz.ntmps146,Exit.thenS]
 apply wpS_seq
 apply wpS_region
 simp [wpOpsS,go_sem,recoverD,hu,Tryz.ntmps146,Exit.thenS];refine wpS_cond (t:=false) (by simp [Act.eval,Array.replicate]) ?_;simp only [Bool.false_eq_true,if_false];refine wpS_of_wp (wp_skip ?_);cases c₀
 simp_all [bodyPostS,results,Tryz.results146]
theorem set_self {w:World} {b T:Nat} {x v:Value} (h:w.heap[b]?=some (.cells #[x] T (0,0))):(w.setCell ⟨b,0,none⟩ v).heap[b]?=some (.cells #[v] T (0,0)):=by simp [World.setCell,Array.getElem?_modify,h]
theorem zia {w:World} {b c:Nat} {v:Value} (h:c≠b):(w.setCell ⟨b,0,none⟩ v).heap[c]?=w.heap[c]?:=by simp [World.setCell,Array.getElem?_modify,Ne.symm h]
theorem yrh {w:World} {b:Nat} {v:Value}:(w.setCell ⟨b,0,none⟩ v).heap.size=w.heap.size:=by simp [World.setCell]
theorem zeq {w:World} {b T:Nat} {x:Value} (h:w.heap[b]?=some (.cells #[x] T (0,0))):w.cell? ⟨b,0,none⟩=some x/\w.frozen? ⟨b,0,none⟩=false:=by simp [World.cell?,World.frozen?,h]
theorem zfw {w:World} {ob:Obj} {c:Nat} (h:c<w.heap.size):(w.alloc ob).heap[c]?=w.heap[c]?:=by
 show (w.heap.push ob)[c]?=_;rw [Array.getElem?_push,if_neg (by omega)]
abbrev ywd (w:World) (p q:Nat) (x y:Value):World:=(w.setCell ⟨p,0,none⟩ x).setCell ⟨q,0,none⟩ y
theorem zrl (p q Tp Tq:Nat) (x y:Value) (w:World) (hpq:q≠p) (hp:w.heap[p]?=some (.cells #[x] Tp (0,0))) (hq:w.heap[q]?=some (.cells #[y] Tq (0,0))):
  CallsD Tryz.prog 146 #[.pointer (some ⟨p,0,none⟩),.pointer (some ⟨q,0,none⟩)] (.panicking ({v:=ztf,recovered:=false}::[])) w fun e u' w'=>
   e= .returned (.tuple #[])/\u'= .panicking ({v:=ztf,recovered:=true}::[])/\w'=ywd (w.alloc (.cells #[] 210)) p q (.int .i64 0) (.bool false):=by
 have hta:∀w,(Instr.typeAssert ztf 20 210 true).run Tryz.prog w= .ok (.tuple #[.agg #[],.bool true]) w:=fun w=>by
  have hu:Tryz.prog.underlying 210=some (.struct #[]):=rfl;simp [Instr.typeAssert,run_underlying hu]
 have p1:=hp;have q1:=hq;rw [<-zfw (ob:=.cells #[] 210) (xw hp)] at p1;rw [<-zfw (ob:=.cells #[] 210) (xw hq)] at q1;rw [<-zia (b:=p) (v:=.int .i64 0) hpq] at q1;obtain ⟨c1,f1⟩:=zeq p1;obtain ⟨c2,f2⟩:=zeq q1;clear p1 q1 hp hq;refine callsD_of_wpS Tryz.func146 rfl fun c₀ cs hu=>?_
 apply wpS_seq
 apply wpS_region
 simp [wpOpsS,go_sem,recoverD,hu,Tryz.ntmps146,Exit.thenS]
 apply wpS_seq
 apply wpS_region
 simp [wpOpsS,go_sem,recoverD,hu,Tryz.ntmps146,Exit.thenS];refine wpS_cond (t:=true) (by simp [Act.eval,Array.replicate]) ?_;simp only [if_true];refine wpS_of_wp ?_;rw [show (#[Value.pointer (some ⟨p,0,none⟩),Value.pointer (some ⟨q,0,none⟩)]++((((Array.replicate 14 undef).setIfInBounds 3 ztf).setIfInBounds 0 ztf).setIfInBounds 4 ztf).setIfInBounds 5 (Value.bool true))=#[Value.pointer (some ⟨p,0,none⟩),Value.pointer (some ⟨q,0,none⟩),ztf,undef,undef,ztf,ztf,.bool true,undef,undef,undef,undef,undef,undef,undef,undef] from rfl]
 go_wp2
 exact ⟨rfl,_,rfl,_,results_none rfl _ _ _,rfl,rfl,rfl⟩
theorem zzn {w:World} {p q Tp Tq:Nat} {x y:Value} (a b:Value) (hpq:q≠p) (hp:w.heap[p]?=some (.cells #[x] Tp (0,0))) (hq:w.heap[q]?=some (.cells #[y] Tq (0,0))):
  (ywd w p q a b).heap[p]?=some (.cells #[a] Tp (0,0))/\(ywd w p q a b).heap[q]?=some (.cells #[b] Tq (0,0)):=by
 refine ⟨?_,set_self (x:=y) ?_⟩
 ·rw [zia (Ne.symm hpq)]
  exact set_self hp
 ·rw [zia hpq]
  exact hq
abbrev yri:List PanicEntry:=[{v:=ztf,recovered:=false}]
theorem xah (mp e0 e1 e2 e3 e4 e5 : Value) (w : World) (Q : Ending -> World -> Prop)
    (hval : Calls Tryz.prog 147 #[mp, .agg #[e0, e1, e2, e3, e4, e5]] (((w.alloc (.cells #[e0, e1, e2, e3, e4, e5] 135)).alloc (.cells #[.int .i64 0] 3)).alloc (.cells #[.bool false] 4))
      (fun en w2 => ((∃ n, en = .returned (.int .i64 n)) \/ en = .panicked yri) /\ Q en w2))
    (hJ : ∀ en w2, Q en w2 -> ∃ x y Tp Tq, w2.heap[w.heap.size + 1]? = some (.cells #[x] Tp (0, 0)) /\ w2.heap[w.heap.size + 1 + 1]? = some (.cells #[y] Tq (0, 0))) :
    Calls Tryz.prog 107 #[mp, .agg #[e0, e1, e2, e3, e4, e5]] w fun en w' =>
      (∃ n w2, Q (.returned (.int .i64 n)) w2 /\ en = .returned (.tuple #[.int .i64 n, .bool true]) /\ w' = ywd w2 (w.heap.size + 1) (w.heap.size + 1 + 1) (.int .i64 n) (.bool true)) \/
      (∃ w2, Q (.panicked yri) w2 /\ en = .returned (.tuple #[.int .i64 0, .bool false]) /\ w' = ywd (w2.alloc (.cells #[] 210)) (w.heap.size + 1) (w.heap.size + 1 + 1) (.int .i64 0) (.bool false)) := by
  have hne : w.heap.size + 1 + 1 ≠ w.heap.size + 1 := by omega
  have hJ : ∀ en w2, Q en w2 -> ∃ x y Tp Tq, ((w2.cell? ⟨w.heap.size + 1, 0, none⟩ = some x /\ w2.frozen? ⟨w.heap.size + 1, 0, none⟩ = false) /\
      ∀ v, (w2.setCell ⟨w.heap.size + 1, 0, none⟩ v).cell? ⟨w.heap.size + 1 + 1, 0, none⟩ = some y /\ (w2.setCell ⟨w.heap.size + 1, 0, none⟩ v).frozen? ⟨w.heap.size + 1 + 1, 0, none⟩ = false) /\
      w2.heap[w.heap.size + 1]? = some (.cells #[x] Tp (0, 0)) /\ w2.heap[w.heap.size + 1 + 1]? = some (.cells #[y] Tq (0, 0)) := fun en w2 hq => by
    obtain ⟨x, y, Tp, Tq, j1, j2⟩ := hJ en w2 hq
    refine ⟨x, y, Tp, Tq, ⟨zeq j1, fun v => ?_⟩, j1, j2⟩
    rw [<- zia (b := w.heap.size + 1) (v := v) hne] at j2
    exact zeq j2
  go_enter_defers Tryz.func107, Tryz.ntmps107
  go_wp2_with (go_at_call 147; refine hval.mono ?_; rintro en w2 ⟨⟨n, rfl⟩ | rfl, hq⟩ <;> obtain ⟨x, y, Tp, Tq, ⟨⟨j1, j2⟩, j3⟩, j4, j5⟩ := hJ _ _ hq)
  · refine leaves_cons (f := 146) (args := #[.pointer (some ⟨w.heap.size + 1, 0, none⟩), .pointer (some ⟨w.heap.size + 1 + 1, 0, none⟩)]) (by simp) (by simp [go_sem]) ?_
    refine (yig _ _ _).mono ?_
    rintro e u' w'' ⟨rfl, rfl, rfl⟩
    obtain ⟨k1, k2⟩ := zzn (.int .i64 n) (.bool true) hne j4 j5
    have k3 := (zeq k1).1
    have k4 := (zeq k2).1
    simp [Leaves, settle, results, Tryz.results107, go_sem, k3, k4]
    exact ⟨n, w2, hq, rfl, rfl⟩
  · refine leaves_cons (f := 146) (args := #[.pointer (some ⟨w.heap.size + 1, 0, none⟩), .pointer (some ⟨w.heap.size + 1 + 1, 0, none⟩)]) (by simp) (by simp [go_sem]) ?_
    refine (zrl (w.heap.size + 1) (w.heap.size + 1 + 1) Tp Tq x y w2 hne j4 j5).mono ?_
    rintro e u' w'' ⟨rfl, rfl, rfl⟩
    have i4 := j4
    have i5 := j5
    rw [<- zfw (ob := .cells #[] 210) (xw j4)] at i4
    rw [<- zfw (ob := .cells #[] 210) (xw j5)] at i5
    obtain ⟨k1, k2⟩ := zzn (.int .i64 0) (.bool false) hne i4 i5
    have k3 := (zeq k1).1
    have k4 := (zeq k2).1
    simp [Leaves, settle, results, Tryz.results107, go_sem, k3, k4]
    exact ⟨w2, hq, rfl⟩
variable {G:List (Nat × D)}
theorem ymx {w:World} {I:Imm} {β:List Bnd} {H:List SObj} {b c T:Nat} {x v:Value} {s s':SV} {m:Nat} (h:HeapOK G w I β H) (hb:H[b]?=some (.cells [s])) (hx:β[b]?=some (.blk c)) (hc:w.heap[c]?=some (.cells #[x] T (0,0))) (hv:Rep w I β v s')
  (hs:∀w',Rep w' I β v s'):HeapOK G (w.setCell ⟨c,0,none⟩ v) I β (H.set b (.cells [s']))/\Ext m w I β H (w.setCell ⟨c,0,none⟩ v) I β (H.set b (.cells [s'])):=by
 have hnI:∀o,¬I c o:=by
  obtain ⟨vs,T',h1,h2,h3,h4⟩:=h.obj b _ _ hb hx;exact h4
 refine h.change (o':=.cells [s']) hb (by simp) hx (fun c' hc'=>zia hc') yrh hnI ⟨#[v],T,set_self hc,rfl,fun j hj hj'=>?_,hnI⟩ ⟨rfl,rfl⟩;have:j=0:=by simp at hj;omega
 subst this;exact hs _
theorem yfp {w:World} {I:Imm} {β:List Bnd} {H:List SObj} {b c:Nat} {s:SV} (h:HeapOK G w I β H) (hb:H[b]?=some (.cells [s])) (hx:β[b]?=some (.blk c)):∃x T,w.heap[c]?=some (.cells #[x] T (0,0))/\Rep w I β x s:=by
 obtain ⟨vs,T',h1,h2,h3,h4⟩:=h.obj b _ _ hb hx;have hs:vs.size=1:=by simpa using h2
 refine ⟨vs[0],T',?_,by simpa using h3 0 (by simp) (by omega)⟩;rw [h1]
 congr 2
 apply Array.ext
 ·simpa using hs
 ·intro i h1 h2
  have:i=0:=by omega
  subst this;rfl
theorem zgp {w:World} {I:Imm} {β:List Bnd} {H:List SObj} {vs:Array Value} {T m:Nat} {cs:List SV} (h:HeapOK G w I β H) (hl:vs.size=cs.length) (hr:∀j (h:j<cs.length) (h':j<vs.size),Rep w I β (vs[j]'h') (cs[j]'h)):
  HeapOK G (w.alloc (.cells vs T)) I (β++[.blk w.heap.size]) (H++[.cells cs])/\Ext m w I β H (w.alloc (.cells vs T)) I (β++[.blk w.heap.size]) (H++[.cells cs]):=by
 refine h.alloc ⟨vs,T,?_,hl,fun j hj hj'=>?_,fun o ho=>?_⟩
 ·show (w.heap.push _)[w.heap.size]?=_
  simp
 ·exact (hr j hj hj').mono (fun _ _ h=>h) (fun c o hc=>yh (zfw (h.inI c o hc)) o) (.push _ _ _)
 ·have:=h.inI _ _ ho
  omega
theorem xai {vs:Array Value} (h:vs.size=6):∃e0 e1 e2 e3 e4 e5,vs=#[e0,e1,e2,e3,e4,e5]:=by
 refine ⟨vs[0],vs[1],vs[2],vs[3],vs[4],vs[5],?_⟩
 apply Array.ext
 ·simpa using h
 ·intro i h1 h2
  match i,h2 with
  |0,_=>rfl
  |1,_=>rfl
  |2,_=>rfl
  |3,_=>rfl
  |4,_=>rfl
  |5,_=>rfl
theorem yfq {H0:List SObj} {mp:SV} {e:Ex} {res:Option Int} (hmp:mp.under H0.length=true) (hu:H0.all (SObj.under H0.length)=true)
  (h:zzk G 147 [mp,e.sv] H0 (res.map sI)):
  SPre Tryz.prog G 107 [mp,e.sv] H0 (fun r H1=>r= .tup [sI (res.getD 0),sB res.isSome]/\H1=H0):=by
 have hes:SV.under H0.length e.sv=true:=by
  cases e;rfl
 refine yuw (by simp [hmp,hes]) hu ?_;intro w I β vs hH hv;obtain ⟨v0,v1,hvs,hr0,hr1⟩:=hv.two;obtain rfl:vs=#[v0,v1]:=by
  apply Array.ext'
  rw [hvs]
 have hr1':=hr1;unfold Ex.sv at hr1;cases hr1 with
 |agg es _ hsz hes2=>
 have hsz6:es.size=6:=by
  rw [hsz];cases e;rfl
 obtain ⟨e0,e1,e2,e3,e4,e5,rfl⟩:=xai hsz6;have s0:β.length=H0.length:=hH.len;obtain ⟨g1,x1⟩:=zgp (T:=135) (m:=H0.length) hH hsz hes2;have one:∀(v:Value) (s:SV) (w:World) (I:Imm) (β:List Bnd),Rep w I β v s->∀j (h:j<[s].length) (h':j<#[v].size),Rep w I β (#[v][j]'h') ([s][j]'h):=fun v s w I β hr j hj _=>by
  have:j=0:=by simp at hj;omega
  subst this;exact hr
 obtain ⟨g2,x2⟩:=zgp (vs:=#[Value.int .i64 0]) (T:=3) (m:=H0.length) (cs:=[sI 0]) g1 rfl (one _ _ _ _ _ (.imm (.val _)));obtain ⟨g3,x3⟩:=zgp (vs:=#[Value.bool false]) (T:=4) (m:=H0.length) (cs:=[sB false]) g2 rfl (one _ _ _ _ _ (.imm (.val _)));have x123:=(x1.trans x2).trans x3;have eH:H0++[.cells (e.cells.map .imm)]++[.cells [sI 0]]++[.cells [sB false]]=H0++[.cells (e.cells.map .imm),.cells [sI 0],.cells [sB false]]:=by simp
 have hb1:(H0++[SObj.cells (e.cells.map SV.imm),.cells [sI 0],.cells [sB false]])[H0.length+1]?=some (.cells [sI 0]):=by
  rw [List.getElem?_append_right (by omega),show H0.length+1-H0.length=1 by omega];rfl
 have hb2:(H0++[SObj.cells (e.cells.map SV.imm),.cells [sI 0],.cells [sB false]])[H0.length+2]?=some (.cells [sB false]):=by
  rw [List.getElem?_append_right (by omega),show H0.length+2-H0.length=2 by omega];rfl
 rw [eH] at g3 x123;have hx1:(β++[Bnd.blk w.heap.size]++[Bnd.blk (w.alloc (.cells #[e0,e1,e2,e3,e4,e5] 135)).heap.size]++[Bnd.blk ((w.alloc (.cells #[e0,e1,e2,e3,e4,e5] 135)).alloc (.cells #[.int .i64 0] 3)).heap.size])[H0.length+1]?=some (.blk (w.heap.size+1)):=by
  simp [<-s0]
 have hx2:(β++[Bnd.blk w.heap.size]++[Bnd.blk (w.alloc (.cells #[e0,e1,e2,e3,e4,e5] 135)).heap.size]++[Bnd.blk ((w.alloc (.cells #[e0,e1,e2,e3,e4,e5] 135)).alloc (.cells #[.int .i64 0] 3)).heap.size])[H0.length+2]?=some (.blk (w.heap.size+1+1)):=by
  simp [<-s0]
 have hv3:=hv.mono x123.imm x123.cell (by rw [s0];exact x123.keep);have hcall:=h [.cells (e.cells.map .imm),.cells [sI 0],.cells [sB false]] _ _ _ _ g3 hv3;generalize hw3:((w.alloc (.cells #[e0,e1,e2,e3,e4,e5] 135)).alloc (.cells #[Value.int .i64 0] 3)).alloc (.cells #[Value.bool false] 4)=w3 at g3 x123 hcall;generalize (β++[Bnd.blk w.heap.size]++[Bnd.blk (w.alloc (.cells #[e0,e1,e2,e3,e4,e5] 135)).heap.size]++[Bnd.blk ((w.alloc (.cells #[e0,e1,e2,e3,e4,e5] 135)).alloc (.cells #[.int .i64 0] 3)).heap.size])=β3 at g3 x123 hx1 hx2 hcall;generalize hH3:H0++[SObj.cells (e.cells.map SV.imm),.cells [sI 0],.cells [sB false]]=H3 at hb1 hb2 g3 x123 hcall;have hlen3:H3.length=H0.length+3:=by rw [<-hH3];simp
 have htk:∀(a b:SObj),((H3.set (H0.length+1) a).set (H0.length+2) b).take H0.length=H0:=fun a b=>by
  rw [List.take_set_of_le (by omega),List.take_set_of_le (by omega), <-hH3,List.take_left]
 let Q:Ending->World->Prop:=fun en w2=>∃I' β',HeapOK G w2 I' β' H3/\Ext H3.length w3 I β3 H3 w2 I' β' H3/\(∀n,en= .returned (.int .i64 n)->res=some n)/\(en= .panicked yri->res=none)
 have keep1:∀{β':List Bnd} {i c:Nat},Keeps H3.length β3 β'->i<H3.length->β3[i]?=some (.blk c)->β'[i]?=some (.blk c):=fun hk hi hx=>by
  obtain ⟨y,hy,hle⟩:=hk _ _ hi hx;rw [hy];exact congrArg some hle
 have hval:Calls Tryz.prog 147 #[v0,.agg #[e0,e1,e2,e3,e4,e5]] w3 (fun en w2=>((∃n,en= .returned (.int .i64 n))\/en= .panicked yri)/\Q en w2):=by
  refine hcall.mono fun en w2 hp=>?_
  rcases hp with ⟨v,r,I',β',H',rfl,⟨rfl,hres⟩,hvr,hH',hx⟩|⟨ch,I',β',H',rfl,⟨rfl,hres,rfl⟩,hH',hx⟩
  ·cases hr:res with
   |none=>rw [hr] at hres;cases hres
   |some n=>
    rw [hr] at hres;cases hres;cases hvr with
    |imm hvr=>
    cases hvr;exact ⟨.inl ⟨n,rfl⟩,I',β',hH',hx,fun m hm=>by cases hm;exact hr,fun hm=>by cases hm⟩
  ·cases hr:res with
   |some n=>rw [hr] at hres;cases hres
   |none=>exact ⟨.inr rfl,I',β',hH',hx,fun m hm=>(by cases hm),fun _=>hr⟩
 refine (xah v0 e0 e1 e2 e3 e4 e5 w Q (by rw [hw3];exact hval) (fun en w2 hq=>?_)).mono ?_
 ·obtain ⟨I',β',hH',hx,_,_⟩:=hq
  obtain ⟨x,Tp,a1,_⟩:=yfp hH' hb1 (keep1 hx.keep (by omega) hx1);obtain ⟨y,Tq,a2,_⟩:=yfp hH' hb2 (keep1 hx.keep (by omega) hx2);exact ⟨x,y,Tp,Tq,a1,a2⟩
 ·have fin:∀(w2:World) (I':Imm) (β':List Bnd) (X:List SObj) (n:Int) (b:Bool),HeapOK G w2 I' β' (H3++X)->Ext H0.length w I β H0 w2 I' β' (H3++X)->β'[H0.length+1]?=some (.blk (w.heap.size+1))->β'[H0.length+2]?=some (.blk (w.heap.size+1+1))->
    n=res.getD 0->b=res.isSome->yyi G w I β H0 (fun r H'=>H0.length<=H'.length/\r.under H0.length=true/\(H'.take H0.length).all (SObj.under H0.length)=true/\r= .tup [sI (res.getD 0),sB res.isSome]/\H'.take H0.length=H0)
     (.returned (.tuple #[.int .i64 n,.bool b])) (ywd w2 (w.heap.size+1) (w.heap.size+1+1) (.int .i64 n) (.bool b)):=by
   intro w2 I' β' X n b hH' hx k1 k2 hn hb;subst hn hb;have q1:(H3++X)[H0.length+1]?=some (.cells [sI 0]):=by rw [List.getElem?_append_left (by omega)];exact hb1
   have q2:(H3++X)[H0.length+2]?=some (.cells [sB false]):=by rw [List.getElem?_append_left (by omega)];exact hb2
   obtain ⟨x,Tp,a1,_⟩:=yfp hH' q1 k1;obtain ⟨g4,x4⟩:=ymx (m:=H0.length) (v:=.int .i64 (res.getD 0)) (s':=sI (res.getD 0)) hH' q1 k1 a1 (.imm (.val _)) (fun _=>.imm (.val _));have q2':((H3++X).set (H0.length+1) (.cells [sI (res.getD 0)]))[H0.length+2]?=some (.cells [sB false]):=by rw [List.getElem?_set_ne (by omega)];exact q2
   obtain ⟨y,Tq,a2,_⟩:=yfp g4 q2' k2;obtain ⟨g5,x5⟩:=ymx (m:=H0.length) (v:=.bool res.isSome) (s':=sB res.isSome) g4 q2' k2 a2 (.imm (.val _)) (fun _=>.imm (.val _));have htk2:(((H3++X).set (H0.length+1) (.cells [sI (res.getD 0)])).set (H0.length+2) (.cells [sB res.isSome])).take H0.length=H0:=by
    rw [List.take_set_of_le (by omega),List.take_set_of_le (by omega),List.take_append_of_le_length (by omega), <-hH3,List.take_left]
   refine ⟨_,.tup [sI (res.getD 0),sB res.isSome],I',β',_,rfl,⟨by simp;omega,rfl,by rw [htk2];exact hu,rfl,htk2⟩,.tup _ _ rfl (fun j hj hj'=>?_),g5,(hx.trans x4).trans x5⟩
   match j,hj with
   |0,_=>exact .imm (.val _)
   |1,_=>exact .imm (.val _)
  rintro en w' (⟨n,w2,⟨I',β',hH',hx,hn,_⟩,rfl,rfl⟩|⟨w2,⟨I',β',hH',hx,_,hn⟩,rfl,rfl⟩)
  ·have hr:=hn n rfl
   exact fin w2 I' β' [] n true (by rw [List.append_nil];exact hH') (by rw [List.append_nil];exact x123.trans (hx.weaken (by omega))) (keep1 hx.keep (by omega) hx1) (keep1 hx.keep (by omega) hx2) (by rw [hr];rfl) (by rw [hr];rfl)
  ·have hr:=hn rfl
   obtain ⟨g6,x6⟩:=zgp (vs:=#[]) (T:=210) (m:=H0.length) (cs:=[]) hH' rfl (fun j hj=>absurd hj (Nat.not_lt_zero j));have k1:=keep1 hx.keep (by omega) hx1;have k2:=keep1 hx.keep (by omega) hx2;refine fin (w2.alloc (.cells #[] 210)) I' (β'++[.blk w2.heap.size]) [.cells []] 0 false g6 ((x123.trans (hx.weaken (by omega))).trans x6) ?_ ?_ (by rw [hr];rfl) (by rw [hr];rfl)
   ·rw [List.getElem?_append_left (lt_of_getElem? k1)];exact k1
   ·rw [List.getElem?_append_left (lt_of_getElem? k2)];exact k2
variable (G:List (Nat × D))
theorem zzo (den:Int) (p0:Piece) (r:List Piece) (x:Int) (hden:den≠0) (hz:r.length<=1000000):zv Tryz.prog G 188 [.agg [sI den,.imm (.isl 3 ((p0::r).map Piece.cells))],sI x] (sI (ywc den (p0::r) x)):=by
 have hev:=fun y=>zzj G y den hden
 have hlen:((p0::r).map Piece.cells).length=(p0::r).length:=by simp
 have hzz:(p0::r).length<=1000001:=by simp;omega
 have h0:((p0::r).map Piece.cells)[0]?=some p0.cells:=rfl;have htab:ywc den (p0::r) x=zyz (wi ((zjl p0 (p0::r) x).at_+wi ((zjl p0 (p0::r) x).slope*wi (x-(zjl p0 (p0::r) x).lo)))) den:=rfl;rw [htab];generalize p0::r=ps at hlen hzz h0;refine zf Tryz.func188 rfl (by rw [Tryz.ntmps188];simp) rfl rfl ?_;intro E hH hK;(refine yb [10] 1000 ?_;conv=>whnf);refine zh (i:=0) (row:=p0.cells) rfl rfl h0 ?_;(refine zn ?_;conv=>whnf);refine zi [1,2,5,13,14,15] ?_;change SW E _ [(1,sI x),(2,.ptr 0 0),(5,.ptr 1 0),(13,.imm (.isl 3 (ps.map Piece.cells))),(14,sI ((ps.map Piece.cells).length:Nat)),(15,sI (0:Nat))] [.cells [sI den,.imm (.isl 3 (ps.map Piece.cells))],.cells [sI p0.lo,sI p0.at_,sI p0.slope]];rw [hlen];refine zr ps (fun i (_:Piece)=>[(1,sI x),(2,.ptr 0 0),(5,.ptr 1 0),(13,.imm (.isl 3 (ps.map Piece.cells))),(14,sI (ps.length:Nat)),(15,sI (i:Nat))]) (fun _ p=>[.cells [sI den,.imm (.isl 3 (ps.map Piece.cells))],.cells [sI p.lo,sI p.at_,sI p.slope]])
  (fun done rest p=>zjl p0 ps x=zjl p rest x) p0 rfl ?_ ?_
 ·rintro p hp
  have hp:zjl p0 ps x=p:=hp;rw [hp] at hK;have hev:=hev (wi (p.at_+wi (p.slope*wi (x-p.lo))));generalize zyz (wi (p.at_+wi (p.slope*wi (x-p.lo)))) den=z at hev hK;(refine zm ?_;conv=>whnf)
  repeat' ((with_reducible refine way ?_ ?_)<;>(intro h;conv=>whnf))
  all_goals try (exfalso;omega)
  refine ze rfl  hev ?_;(refine zn ?_;conv=>whnf);exact hK _
 ·rintro done o rest p hda hdl hp ih
  have hw:=zk (n:=done.length) (by omega);have hrx:(ps.map Piece.cells)[done.length]?=some o.cells:=by rw [hda];simp
  have ih:=ih (if o.lo<=x then o else p) hp;(refine zm ?_;conv=>whnf)
  repeat' ((with_reducible refine way ?_ ?_)<;>(intro h;conv=>whnf))
  all_goals try (exfalso;omega)
  refine zh (i:=done.length) (row:=o.cells) rfl rfl hrx ?_;(refine zn ?_;conv=>whnf)
  repeat' ((with_reducible refine way ?_ ?_)<;>(intro h;conv=>whnf))
  ·rw [if_pos h] at ih
   rw [hw];refine yq [1,2,5,13,14,15] 2 (by simp [hH]) (by simp) rfl rfl ih
  ·rw [if_neg h] at ih
   rw [hw];refine yq [1,2,5,13,14,15] 2 (by simp [hH]) (by simp) rfl rfl ih
theorem yfr (f:Nat) (y r:Int):yGo (f+1) y r=if ycu y<=r then yGo f (y+1) (r-ycu y) else (y,r):=rfl
theorem yvb (y:Int):365<=ycu y/\ycu y<=366:=by unfold ycu;split<;>omega
theorem yrj (ls:List Int) (m:Nat) (l r:Int) (h:ls[m]?=some l):mGo (ls.drop m) m r=if l<=r then mGo (ls.drop (m+1)) ((m:Int)+1) (r-l) else (m,r):=by
 have hlt:=lt_of_getElem? h;rw [List.drop_eq_getElem_cons hlt];rw [List.getElem?_eq_getElem hlt] at h;rw [Option.some.inj h];rfl
theorem yrk (ls:List Int) (m:Nat) (l:Int) (h:ls[m]?=some l):(ls.drop m).sum=l+(ls.drop (m+1)).sum:=by
 have hlt:=lt_of_getElem? h;rw [List.drop_eq_getElem_cons hlt];rw [List.getElem?_eq_getElem hlt] at h;rw [Option.some.inj h,List.sum_cons]
section
variable {P:Program} {fn:Func} {rd:Bool} {E:En P G fn rd} {t:List (Nat × SV)} {H:List SObj} {k:List Item} {all:Array Oper} {rest:List Oper} {o:Oper}
theorem ymy {ty:TypeId} {ps:Array (Nat × Operand)} {pts:List (Nat × SV)} {r:SV} (hop:o.op= .build ty ps) (hw:ya all t o.guard=some true) (hd:yf fn.ntmps o.dst=true) (hev:ps.toList.map (fun p=>(p.1,zo G t p.2))=pts) (hb:zpk P ty pts=some r)
  (h:SWr E all rest k (xl t o.dst r) H):SWr E all (o::rest) k t H:=by
 refine jd (r:=r) (H':=H) hw hd ?_ (Nat.le_refl _) h;rw [hop];simp only [sop,hev,hb,Option.map_some]
end
theorem yvc (z:Int):zpk Tryz.prog 261 [(0,sI 31),(1,sI z),(2,sI 31),(3,sI 30),(4,sI 31),(5,sI 30),(6,sI 31),(7,sI 31),(8,sI 30),(9,sI 31),(10,sI 30),(11,sI 31)]=some (.agg [sI 31,sI z,sI 31,sI 30,sI 31,sI 30,sI 31,sI 31,sI 30,sI 31,sI 30,sI 31]):=by
 kernel_rfl
theorem ydb (d:Int) (h0:0<=d) (h1:d<=36524):zv Tryz.prog G 185 [sI d] (.agg ((yml d).map sI)):=by
 unfold yml;generalize hY:yGo 200 2000 d=Y;refine zf Tryz.func185 rfl (by rw [Tryz.ntmps185];simp) rfl rfl ?_;intro E hH hK;(refine zm ?_;conv=>whnf);refine zi [0,2,3,4] ?_;change SW E _ [(0,sI d),(2,.ptr 0 0),(3,sI 2000),(4,sI d)] [.cells [sI 0,sI 0,sI 0,sI 0]];refine yx (σ:=Nat × Int × Int) (fun s=>[(0,sI d),(2,.ptr 0 0),(3,sI s.2.1),(4,sI s.2.2)]) (fun _=>[.cells [sI 0,sI 0,sI 0,sI 0]]) (fun s=>yGo s.1 s.2.1 s.2.2=Y/\0<=s.2.2/\s.2.2<365*s.1/\s.2.1+s.1=2200/\s.1<=200/\s.2.2<=36524) (fun s=>s.1) ?_ (200,2000,d) ⟨hY,h0,by simp only;omega,rfl,Nat.le_refl _,h1⟩;clear hY;rintro ⟨f,y,r⟩ ⟨g1,g2,g3,g4,g5,g6⟩ ih;simp only at g1 g2 g3 g4 g5 g6;have hy:=zrk G y;have hyl:=yvb y;change SW E _ [(0,sI d),(2,.ptr 0 0),(3,sI y),(4,sI r)] [.cells [sI 0,sI 0,sI 0,sI 0]];(refine zg ?_;conv=>whnf);refine ze rfl  hy ?_;(refine zc ?_;conv=>whnf)
 repeat' ((with_reducible refine way ?_ ?_)<;>(intro h;conv=>whnf))
 ·obtain ⟨f,rfl⟩:∃f',f=f'+1:=⟨f-1,by omega⟩
  rw [yfr,if_pos h] at g1;have ih:=ih (f,y+1,r-ycu y) ⟨g1,by simp only;omega,by simp only;omega,by simp only;omega,by simp only;omega,by simp only;omega⟩ (Nat.lt_succ_self _);refine ze rfl  hy ?_;(refine zc ?_;conv=>whnf);rw [yg (c:=r-ycu y) (by omega) (by omega),yg (c:=y+1) (by omega) (by omega)];exact zi [0,2,3,4] ih
 ·have hYe:Y=(y,r):=by
   rw [<-g1];cases f with
   |zero=>rfl
   |succ f=>rw [yfr,if_neg h]
  subst hYe;clear g1 ih;simp only at hK;have hmL:yuu y=[31,ycu y-337,31,30,31,30,31,31,30,31,30,31]:=rfl;rw [hmL] at hK;clear hmL;generalize ycu y=yl at hy hyl h hK;have h337:IntKind.i64.wrap (yl-337)=yl-337:=yg (by omega) (by omega);refine ze rfl  hy ?_;(refine zl [777,21] 1000 ?_;conv=>whnf);rw [h337];generalize hz:yl-337=z at hK;have hzr:z=28\/z=29:=by omega
  clear h337;refine ymy G rfl rfl rfl rfl (yvc z) ?_;(refine zn ?_;conv=>whnf);refine zi [0,2,3,4,5,6] ?_;change SW E _ [(0,sI d),(2,.ptr 0 0),(3,sI y),(4,sI r),(5,.ptr 1 0),(6,sI (0:Nat))] [.cells [sI 0,sI 0,sI 0,sI 0],.cells [sI 31,sI z,sI 31,sI 30,sI 31,sI 30,sI 31,sI 31,sI 30,sI 31,sI 30,sI 31]];have hsum:[31,z,31,30,31,30,31,31,30,31,30,31].sum=yl:=by
   simp only [List.sum_cons,List.sum_nil];omega
  have hml:[31,z,31,30,31,30,31,31,30,31,30,31].length=12:=rfl;have hpos:∀l∈[31,z,31,30,31,30,31,31,30,31,30,31],28<=l/\l<=31:=by
   intro l hl;simp only [List.mem_cons,List.not_mem_nil,or_false] at hl;omega
  change SW E _ [(0,sI d),(2,.ptr 0 0),(3,sI y),(4,sI r),(5,.ptr 1 0),(6,sI (0:Nat))] [.cells [sI 0,sI 0,sI 0,sI 0],.cells ([31,z,31,30,31,30,31,31,30,31,30,31].map sI)];generalize [31,z,31,30,31,30,31,31,30,31,30,31]=ls at hsum hml hpos hK ⊢;generalize hM:mGo ls 0 r=M at hK;refine yx (σ:=Nat × Int) (fun s=>[(0,sI d),(2,.ptr 0 0),(3,sI y),(4,sI s.2),(5,.ptr 1 0),(6,sI (s.1:Nat))]) (fun _=>[.cells [sI 0,sI 0,sI 0,sI 0],.cells (ls.map sI)]) (fun s=>mGo (ls.drop s.1) s.1 s.2=M/\0<=s.2/\s.2<(ls.drop s.1).sum/\s.1<=12/\s.2<=400) (fun s=>12-s.1) ?_ (0,r) ⟨hM,g2,by simp only [List.drop_zero];omega,Nat.zero_le _,by simp only;omega⟩;clear hM;rintro ⟨m,q⟩ ⟨k1,k2,k3,k4,k5⟩ ih;simp only at k1 k2 k3 k4 k5;have hm12:m<12:=by
   rcases Nat.lt_or_ge m 12 with hh|hh
   ·exact hh
   ·rw [List.drop_eq_nil_of_le (by omega)] at k3
    simp at k3;omega
  obtain ⟨l,hl⟩:∃l,ls[m]?=some l:=⟨_,List.getElem?_eq_getElem (by omega)⟩;have hlr:=hpos l (List.mem_of_getElem? hl);have hlm:(ls.map sI)[0+m*1]?=some (sI l):=by
   rw [Nat.zero_add,Nat.mul_one,List.getElem?_map,hl];rfl
  have hsd:=yrk ls m l hl;rw [yrj ls m l q hl] at k1;change SW E _ [(0,sI d),(2,.ptr 0 0),(3,sI y),(4,sI q),(5,.ptr 1 0),(6,sI (m:Nat))] [.cells [sI 0,sI 0,sI 0,sI 0],.cells (ls.map sI)];(refine yb [777,24] 1000 ?_;conv=>whnf);refine zmo (i:=m) rfl rfl rfl rfl rfl rfl rfl rfl hm12 ?_;(refine zl [777,25] 1000 ?_;conv=>whnf);refine wk (v:=sI l) rfl rfl rfl rfl rfl hlm ?_;(refine zl [777,29] 1000 ?_;conv=>whnf)
  repeat' ((with_reducible refine way ?_ ?_)<;>(intro h;conv=>whnf))
  ·rw [if_pos h] at k1
   have ih:=ih (m+1,q-l) ⟨by simp only;rw [<-k1];rfl,by simp only;omega,by simp only;omega,by simp only;omega,by simp only;omega⟩ (by simp only;omega);refine zmo (i:=m) rfl rfl rfl rfl rfl rfl rfl rfl hm12 ?_;(refine zl [777,30] 1000 ?_;conv=>whnf);refine wk (v:=sI l) rfl rfl rfl rfl rfl hlm ?_;(refine zc ?_;conv=>whnf);rw [yg (c:=q-l) (by omega) (by omega),zk (n:=m) (by omega)];exact zi [0,2,3,4,5,6] ih
  ·rw [if_neg h] at k1
   subst k1;have h7:(d+5).tmod 7=(d+5) % 7:=Int.tmod_eq_emod_of_nonneg (by omega);rw [yg (c:=q+1) (by omega) (by omega),yg (c:=(m:Int)+1) (by omega) (by omega),yg (c:=d+5) (by omega) (by omega),yg (c:=(d+5).tmod 7+1) (by omega) (by omega)];exact hK _
variable {G:List (Nat × D)}
def MH (c:Codex) (S:AM) (inF:List Int) (st am:List (Int × Int)):List SObj:=
 [.cells [.imm (zp c.facts),.imm (zp c.lines),.imm (yv c.arts),sI S.day,.imm (zbn S.has),.imm (ye S.vals),.imm (ye S.nums),.imm (ye inF),.map 1,.map 2],.mapI .i64 (jp sI st),.mapI .i64 (jp sI am)]
theorem jv (c:Codex) (S:AM) (inF:List Int) (st am:List (Int × Int)):(MH c S inF st am).all (SObj.under 3)=true:=by
 simp only [MH,List.all_cons,zhu];rfl
theorem zuf {c:Codex} {m:List (Int × Int)} {op n:Int} {u:ByteArray} {den:Int} {ps:List Piece} {ks:List Ex} (h:zdd c m op n u den ps ks=true):
  (op=1/\ks=[])\/(op=2/\ks=[]/\0<=n/\n<c.facts.length)\/(op=3/\ks=[])\/(op=4/\ks=[]/\1<=n/\n<=4)\/(5<=op/\op<=17/\ks≠[])\/(op=18/\ks≠[]/\ps≠[]/\ps.length<=64/\den≠0):=by
 unfold zdd at h;split at h
 ·rename_i h18
  simp only [Bool.and_eq_true,decide_eq_true_eq,jb] at h;refine .inr (.inr (.inr (.inr (.inr ⟨h18,?_,?_,h.2.1.2,by omega⟩))))
  ·rintro rfl
   simp at h
  ·rintro rfl
   simp at h
 ·split at h
  ·cases h
  ·split at h
   ·rename_i h14
    simp only [Bool.and_eq_true,decide_eq_true_eq,zdm] at h;have hk:ks=[]:=List.length_eq_zero_iff.1 h.1
    by_cases o1:op=1
    ·exact .inl ⟨o1,hk⟩
    by_cases o2:op=2
    ·rw [if_neg o1,if_pos o2] at h
     simp only [Bool.and_eq_true,decide_eq_true_eq] at h;exact .inr (.inl ⟨o2,hk,h.2.1.1,h.2.1.2⟩)
    by_cases o3:op=3
    ·exact .inr (.inr (.inl ⟨o3,hk⟩))
    ·rw [if_neg o1,if_neg o2,if_neg o3] at h
     simp only [Bool.and_eq_true,decide_eq_true_eq] at h;exact .inr (.inr (.inr (.inl ⟨by omega,hk,h.2.1.1,h.2.1.2⟩)))
   ·rename_i h14
    cases ks with
    |nil=>simp at h
    |cons k r=>
     simp only [Bool.and_eq_true] at h;have h2:=h.2;split at h2
     ·rename_i f l _ _
      by_cases hr:5<=op/\op<=17
      ·exact .inr (.inr (.inr (.inr (.inl ⟨hr.1,hr.2,by simp⟩))))
      ·unfold zaw at h2
       rw [if_neg (by omega),if_neg (by omega),if_neg (by omega),if_neg (by omega),if_neg (by omega),if_neg (by omega),if_neg (by omega),if_neg (by omega),if_neg (by omega)] at h2;cases h2
     ·cases h2
theorem zzp {o0 o1 o2:SObj} (hu:[o0,o1,o2].all (SObj.under 3)=true) (op n:Int) (u:ByteArray) (den:Int) (ps:List Piece) (ks:List Ex) (hz:ks.length<=1000000) (val:Ex->Option Int)
  (htry:∀k∈ks,SPre Tryz.prog G 107 [.ptr 0 0,k.sv] [o0,o1,o2] (fun r H1=>r= .tup [sI ((val k).getD 0),sB (val k).isSome]/\H1=[o0,o1,o2])):
  zzk G 186 [.ptr 0 0,(Ex.mk op n u den ps ks).sv] [o0,o1,o2] ((yic (decide (op=7)) true (ks.map val)).map sI):=by
 refine zzl G (by rfl) hu ?_;refine zeh Tryz.func186 rfl (by rw [Tryz.ntmps186];simp) ?_;intro E hH hK hP;have jf:∀n,yic (decide (op=7)) true (ks.map val)=some n->∀X,E.K (sI n) ([o0,o1,o2]++X):=fun n e X=>hK _ _ ⟨by simp,rfl,rfl,by rw [e];rfl⟩
 have hno:yic (decide (op=7)) true (ks.map val)=none->∀X,E.KP zjn ([o0,o1,o2]++X):=fun e X=>hP _ _ ⟨by simp,rfl,by rw [e];rfl,rfl⟩
 clear hK hP;have hrows:=zx ks;have hlen:(zj ks).length=ks.length:=by rw [hrows];simp
 have hu4:([o0,o1,o2]++[SObj.cells [sI op,sI n,sS u,sI den,.imm (.isl 3 (ps.map Piece.cells)),.imm (.isl 6 (zj ks))]]).all (SObj.under 4)=true:=by
  rw [List.all_append,zcp (m:=3) (n:=4) (by omega) hu];rfl
 rw [show (Ex.mk op n u den ps ks).sv= .agg [sI op,sI n,sS u,sI den,.imm (.isl 3 (ps.map Piece.cells)),.imm (.isl 6 (zj ks))] from rfl];generalize hd:decide (op=7)=dec at jf hno;(refine zg ?_;conv=>whnf);rw [hd];refine zi [0,5,6,15,16,17] ?_;change SW E _ [(0,.ptr 0 0),(5,sB dec),(6,sB true),(15,.imm (.isl 6 (zj ks))),(16,sI ((zj ks).length:Nat)),(17,sI (0:Nat))] ([o0,o1,o2]++[.cells [sI op,sI n,sS u,sI den,.imm (.isl 3 (ps.map Piece.cells)),.imm (.isl 6 (zj ks))]]);rw [hlen];refine zr ks (fun i (b:Bool)=>[(0,.ptr 0 0),(5,sB dec),(6,sB b),(15,.imm (.isl 6 (zj ks))),(16,sI (ks.length:Nat)),(17,sI (i:Nat))])
  (fun _ _=>[o0,o1,o2]++[.cells [sI op,sI n,sS u,sI den,.imm (.isl 3 (ps.map Piece.cells)),.imm (.isl 6 (zj ks))]])
  (fun done rest b=>yic dec true (ks.map val)=yic dec b (rest.map val)) true rfl ?_ ?_
 ·as_aux_lemma=>
   rintro b hb;have hb:yic dec true (ks.map val)=if b then some (b2i (!dec)) else none:=hb
   rw [hb] at jf hno;(refine zg ?_;conv=>whnf)
   repeat' ((with_reducible refine way ?_ ?_)<;>(intro h;conv=>whnf))
   all_goals try (exfalso;omega)
   refine qu rfl rfl rfl rfl rfl (fun h1=>?_) (fun h1=>hno (by rw [h1];rfl) [.cells [sI op,sI n,sS u,sI den,.imm (.isl 3 (ps.map Piece.cells)),.imm (.isl 6 (zj ks))]]);subst h1;(refine zc ?_;conv=>whnf);refine ze rfl  (zcu G _) ?_;(refine zc ?_;conv=>whnf);exact jf _ rfl [.cells [sI op,sI n,sS u,sI den,.imm (.isl 3 (ps.map Piece.cells)),.imm (.isl 6 (zj ks))]]
 ·as_aux_lemma=>
   rintro done x rest b hda hdl hb ih;have hw:=zk (n:=done.length) (by omega);have hrx:(zj ks)[done.length]?=some x.cells:=by rw [hrows,hda];simp
   have hcall:=htry x (by rw [hda];simp);have hb:yic dec true (ks.map val)=if (val x).isSome&&((!decide ((val x).getD 0=0))==dec) then some (b2i dec) else yic dec (b&&(val x).isSome) (rest.map val):=hb
   obtain ⟨xo,xn,xu,xd,xp,xk⟩:=x;generalize val (Ex.mk xo xn xu xd xp xk)=vx at hcall hb;rw [hb] at jf hno;(refine zg ?_;conv=>whnf)
   repeat' ((with_reducible refine way ?_ ?_)<;>(intro h;conv=>whnf))
   all_goals try (exfalso;omega)
   refine zh (i:=done.length) (row:=(Ex.mk xo xn xu xd xp xk).cells) rfl rfl hrx ?_;(refine zc ?_;conv=>whnf);refine zbu 3 rfl rfl rfl rfl rfl rfl hcall ?_;rintro r9 H9 ⟨rfl,rfl⟩ _;cases vx with
   |none=>
    rw [if_neg (by simp)] at hb jf hno;rw [show (b&&(none:Option Int).isSome)=false from Bool.and_false b] at hb;have ih:=ih false hb;cases b with
    |true=>
     (refine zc ?_;conv=>whnf);rw [hw];exact yq [0,5,6,15,16,17] 4 (by simp [hH]) (by show 4<=5;decide) rfl hu4 ih
    |false=>
     (refine zc ?_;conv=>whnf);rw [hw];exact yq [0,5,6,15,16,17] 4 (by simp [hH]) (by show 4<=5;decide) rfl hu4 ih
   |some v=>
    rw [show (b&&(some v).isSome)=b from Bool.and_true b] at hb jf hno
    by_cases h0:v=0
    ·have e0:((some v).isSome&&(!decide ((some v).getD 0=0))==dec)= !dec:=by
      show (true&&(!decide (v=0))==dec)=_;rw [decide_eq_true h0];cases dec<;>rfl
     rw [e0] at hb jf hno;subst h0;cases dec with
     |true=>
      have ih:=ih b hb;cases b with
      |true=>
       (refine zc ?_;conv=>whnf);rw [hw];exact yq [0,5,6,15,16,17] 4 (by simp [hH]) (by show 4<=5;decide) rfl hu4 ih
      |false=>
       (refine zc ?_;conv=>whnf);rw [hw];exact yq [0,5,6,15,16,17] 4 (by simp [hH]) (by show 4<=5;decide) rfl hu4 ih
     |false=>
      (refine zc ?_;conv=>whnf);refine ze rfl  (zcu G _) ?_;(refine zc ?_;conv=>whnf);exact jf _ rfl _
    ·have e1:((!decide ((some v).getD 0=0))==true)=true:=by
      rw [show decide ((some v).getD 0=0)=false from decide_eq_false h0];rfl
     have e2:((!decide ((some v).getD 0=0))==false)=false:=by
      rw [show decide ((some v).getD 0=0)=false from decide_eq_false h0];rfl
     have e0:((some v).isSome&&(!decide ((some v).getD 0=0))==dec)=dec:=by
      show (true&&(!decide (v=0))==dec)=_;rw [decide_eq_false h0];cases dec<;>rfl
     rw [e0] at hb jf hno;cases dec with
     |true=>
      (refine zc ?_;conv=>whnf)
      repeat' ((with_reducible refine way ?_ ?_)<;>(intro h;conv=>whnf))
      ·refine ze rfl  (zcu G _) ?_
       (refine zc ?_;conv=>whnf);exact jf _ rfl _
      all_goals exact absurd (e1.symm.trans ‹((!decide ((some v).getD 0=0))==true)=false›) (by decide)
     |false=>
      have ih:=ih b hb;cases b with
      |true=>
       (refine zc ?_;conv=>whnf)
       repeat' ((with_reducible refine way ?_ ?_)<;>(intro h;conv=>whnf))
       all_goals try exact absurd (e2.symm.trans ‹((!decide ((some v).getD 0=0))==false)=true›) (by decide)
       rw [hw];exact yq [0,5,6,15,16,17] 4 (by simp [hH]) (by show 4<=5;decide) rfl hu4 ih
      |false=>
       (refine zc ?_;conv=>whnf)
       repeat' ((with_reducible refine way ?_ ?_)<;>(intro h;conv=>whnf))
       all_goals try exact absurd (e2.symm.trans ‹((!decide ((some v).getD 0=0))==false)=true›) (by decide)
       rw [hw];exact yq [0,5,6,15,16,17] 4 (by simp [hH]) (by show 4<=5;decide) rfl hu4 ih
theorem yrl (b:Bool) (H:List SObj):yva G 184 [sB b] H (if b=true then some (.tup []) else none):=by
 cases b with
 |true=>exact ((znt G H).mono fun r H' ⟨h1,h2⟩=>⟨h2,by rw [h1];rfl⟩).toP
 |false=>exact (zlo G H).mono (fun _ _ h=>h.elim) (fun ch H' ⟨h1,h2⟩=>⟨h1,rfl,h2⟩)
theorem ydc {x:Option Int} {n:Int} (h:yqv x=some n): -1000000000000<=n/\n<=1000000000000:=by
 unfold yqv at h;split at h
 ·split at h
  ·rename_i hr
   cases h;exact hr
  ·cases h
 ·cases h
theorem yih {S:AM} {am:List (Int × Int)} {e:Ex} {n:Int} (h:zct S am e=some n): -1000000000000<=n/\n<=1000000000000:=by
 cases e;rw [zct] at h;exact ydc h
structure AFit (c:Codex) (S:AM):Prop where
 few:c.facts.length<=1000000
 has:S.has.length=c.facts.length
 vals:S.vals.length=c.facts.length
 nums:S.nums.length=c.facts.length
 day:0<=S.day/\S.day<=36524
theorem zzq {l:List Bool} {n:Int} (h0:0<=n) (h1:n<l.length):(l.map fun b=>[dB b])[n.toNat]?=some [dB (l.getD n.toNat false)]:=by
 have hlt:n.toNat<l.length:=by omega
 rw [List.getElem?_map,List.getElem?_eq_getElem hlt,List.getD_eq_getElem?_getD,List.getElem?_eq_getElem hlt];rfl
theorem yfs {l:List Int} {n:Int} (h0:0<=n) (h1:n<l.length):(l.map fun b=>[dI b])[n.toNat]?=some [dI (l.getD n.toNat 0)]:=by
 have hlt:n.toNat<l.length:=by omega
 rw [List.getElem?_map,List.getElem?_eq_getElem hlt,List.getD_eq_getElem?_getD,List.getElem?_eq_getElem hlt];rfl
theorem yii {c:Codex} {m:List (Int × Int)} {S:AM} (hS:AFit c S) (inF:List Int) (st am:List (Int × Int)) (N:Nat):∀(e:Ex),SizeOf.sizeOf e<N->zyw c m e->xg e<=1000000->
  zzk G 147 [.ptr 0 0,e.sv] (MH c S inF st am) ((zct S am e).map sI):=by
 induction N with
 |zero=>intro e h;omega
 |succ N IH=>
 intro e he ha hez;obtain ⟨op,n,u,den,ps,ks⟩:=e;simp only [Ex.mk.sizeOf_spec] at he;unfold zyw at ha;obtain ⟨hnode,hkids⟩:=ha;unfold xg at hez;have hksz:=zcs ks;have hk:∀k∈ks,zzk G 147 [.ptr 0 0,k.sv] (MH c S inF st am) ((zct S am k).map sI):=fun k hkm=>by
  have h1:=List.sizeOf_lt_of_mem hkm;have h2:=zgm hkm;exact IH k (by omega) (zqx hkids k hkm) (by omega)
 clear IH hkids;refine zzl G (by rfl) (jv c S inF st am) ?_;refine zeh Tryz.func147 rfl (by rw [Tryz.ntmps147];simp) ?_;intro E hH hK hP;have jf:∀v,zct S am (.mk op n u den ps ks)=some v->∀X,E.K (sI v) (MH c S inF st am++X):=fun v e X=>hK _ _ ⟨by simp,rfl,rfl,by rw [e];rfl⟩
 have hno:zct S am (.mk op n u den ps ks)=none->∀X,E.KP zjn (MH c S inF st am++X):=fun e X=>hP _ _ ⟨by simp,rfl,by rw [e];rfl,rfl⟩
 clear hK hP;have hval:zct S am (.mk op n u den ps ks)=yqv (ykc S am op n den ps (ks.map (zct S am))):=by rw [zct,yqx]
 rw [hval] at jf hno;have hsome:∀v,ykc S am op n den ps (ks.map (zct S am))=some v->(-1000000000000<=v->v<=1000000000000->∀X,E.K (sI v) (MH c S inF st am++X))/\(¬(-1000000000000<=v/\v<=1000000000000)->∀X,E.KP zjn (MH c S inF st am++X)):=fun v hv=>by
  rw [hv] at jf hno;exact ⟨fun h1 h2=>jf v (if_pos ⟨h1,h2⟩),fun h=>hno (if_neg h)⟩
 have hnone:ykc S am op n den ps (ks.map (zct S am))=none->∀X,E.KP zjn (MH c S inF st am++X):=fun hv=>by
  rw [hv] at hno;exact hno rfl
 clear jf hno hval;have hrows:=zx ks;have hlen:(zj ks).length=ks.length:=by rw [hrows];simp
 rw [show (Ex.mk op n u den ps ks).sv= .agg [sI op,sI n,sS u,sI den,.imm (.isl 3 (ps.map Piece.cells)),.imm (.isl 6 (zj ks))] from rfl];obtain ⟨hfew,hhas,hvals,_,hday⟩:=hS;rcases zuf hnode with ⟨rfl,rfl⟩|⟨rfl,rfl,hn0,hn1⟩|⟨rfl,rfl⟩|⟨rfl,rfl,hn1,hn4⟩|⟨hop1,hop2,hne⟩|⟨rfl,hne,hps,hpsz,hden⟩
 ·clear hk
  obtain ⟨jf,hno⟩:=hsome n rfl;(refine zg ?_;conv=>whnf)
  repeat' ((with_reducible refine way ?_ ?_)<;>(intro h;conv=>whnf))
  ·refine qu rfl rfl rfl rfl rfl (fun hb=>?_) (fun hb=>hno (fun x=>of_decide_eq_false hb x.2) _)
   (refine zc ?_;conv=>whnf);exact jf h (of_decide_eq_true hb) _
  ·refine qu (b:=false) rfl rfl rfl rfl rfl (fun hb=>by cases hb) (fun hb=>hno (fun x=>h x.1) _)
 ·clear hk
  have hr1:=zzq (l:=S.has) hn0 (by omega);have hr2:=yfs (l:=S.vals) hn0 (by omega);have hraw:ykc S am 2 n den ps (([]:List Ex).map (zct S am))=if S.has.getD n.toNat false=true then some (S.vals.getD n.toNat 0) else none:=rfl
  rw [hraw] at hsome hnone;have hnn:n=(n.toNat:Int):=by omega
  generalize S.has.getD n.toNat false=hb at hr1 hsome hnone;generalize S.vals.getD n.toNat 0=v at hr2 hsome hnone;(refine zg ?_;conv=>whnf);refine zt mixed rfl ?_;(refine zd [44] ?_;conv=>whnf);refine yc (i:=n.toNat) (row:=[dB hb]) rfl hnn hr1 ?_;(refine zd [] ?_;conv=>whnf);refine zln rfl rfl rfl rfl rfl rfl rfl (yrl hb _) (fun e=>hnone (if_neg (fun h=>by rw [h] at e;cases e)) _) (fun r e=>?_);cases hb with
  |false=>cases e
  |true=>
  obtain rfl:=Option.some.inj e;obtain ⟨jf,hno⟩:=hsome v rfl;(refine zd [] ?_;conv=>whnf);(refine zg ?_;conv=>whnf);refine zt mixed rfl ?_;(refine zd [53] ?_;conv=>whnf);refine yc (i:=n.toNat) (row:=[dI v]) rfl hnn hr2 ?_;(refine zd [] ?_;conv=>whnf);(refine zg ?_;conv=>whnf)
  repeat' ((with_reducible refine way ?_ ?_)<;>(intro h;conv=>whnf))
  ·refine qu rfl rfl rfl rfl rfl (fun hb=>?_) (fun hb=>hno (fun x=>of_decide_eq_false hb x.2) _)
   (refine zc ?_;conv=>whnf);exact jf h (of_decide_eq_true hb) _
  ·refine qu (b:=false) rfl rfl rfl rfl rfl (fun hb=>by cases hb) (fun hb=>hno (fun x=>h x.1) _)
 ·clear hk
  have hraw:ykc S am 3 n den ps (([]:List Ex).map (zct S am))=some ((zy n am).getD 0):=rfl;obtain ⟨jf,hno⟩:=hsome _ hraw;have hv:((zy n am).map sI).getD (jm (.int .i64 0))=sI ((zy n am).getD 0):=by cases zy n am<;>rfl
  generalize (zy n am).getD 0=v at jf hno hv;(refine zg ?_;conv=>whnf);refine zt mixed rfl ?_;(refine zd [63] ?_;conv=>whnf);refine ylb (l:=am) sI rfl rfl rfl rfl rfl rfl rfl rfl rfl hv ?_;(refine zd [] ?_;conv=>whnf);(refine zg ?_;conv=>whnf)
  repeat' ((with_reducible refine way ?_ ?_)<;>(intro h;conv=>whnf))
  ·refine qu rfl rfl rfl rfl rfl (fun hb=>?_) (fun hb=>hno (fun x=>of_decide_eq_false hb x.2) _)
   (refine zc ?_;conv=>whnf);exact jf h (of_decide_eq_true hb) _
  ·refine qu (b:=false) rfl rfl rfl rfl rfl (fun hb=>by cases hb) (fun hb=>hno (fun x=>h x.1) _)
 ·clear hk
  have hraw:ykc S am 4 n den ps (([]:List Ex).map (zct S am))=some ((yml S.day).getD (n-1).toNat 0):=rfl;have hdt:=ydb G S.day hday.1 hday.2;obtain ⟨d0,d1,d2,d3,hd⟩:∃d0 d1 d2 d3,yml S.day=[d0,d1,d2,d3]:=⟨_,_,_,_,rfl⟩;rw [hd] at hdt hraw;clear hd;obtain ⟨jf,hno⟩:=hsome _ hraw;clear hsome hnone hraw;rcases (show n=1\/n=2\/n=3\/n=4 by omega) with rfl|rfl|rfl|rfl
  all_goals
   (refine zg ?_;conv=>whnf);refine zt mixed rfl ?_;(refine zd [] ?_;conv=>whnf);refine zu rfl  hdt ?_;(refine zd [] ?_;conv=>whnf);(refine zg ?_;conv=>whnf)
  all_goals
   repeat' ((with_reducible refine way ?_ ?_)<;>(intro h;conv=>whnf))
   ·refine qu rfl rfl rfl rfl rfl (fun hb=>?_) (fun hb=>hno (fun x=>of_decide_eq_false hb x.2) _)
    (refine zc ?_;conv=>whnf);exact jf h (of_decide_eq_true hb) _
   ·refine qu (b:=false) rfl rfl rfl rfl rfl (fun hb=>by cases hb) (fun hb=>hno (fun x=>h x.1) _)
 ·obtain ⟨k0,kr,rfl⟩:∃k0 kr,ks=k0::kr:=by
   cases ks with
   |nil=>exact absurd rfl hne
   |cons a b=>exact ⟨a,b,rfl⟩
  have hk0:=hk k0 (List.mem_cons_self ..);have hkr:=fun k hkm=>hk k (List.mem_cons_of_mem k0 hkm)
  have h0:(zj (k0::kr))[0]?=some k0.cells:=by simp [zj]
  have htry:∀k∈k0::kr,SPre Tryz.prog G 107 [.ptr 0 0,k.sv] (MH c S inF st am) (fun r H1=>r= .tup [sI ((zct S am k).getD 0),sB (zct S am k).isSome]/\H1=MH c S inF st am):=fun k hkm=>yfq (by rfl) (jv c S inF st am) (hk k hkm)
  by_cases o67:op=6\/op=7
  ·have hcon:=zzp (jv c S inF st am) op n u den ps (k0::kr) (by omega) (zct S am) htry
   have hraw:ykc S am op n den ps ((k0::kr).map (zct S am))=yic (decide (op=7)) true ((k0::kr).map (zct S am)):=by
    rcases o67 with rfl|rfl<;>rfl
   rw [hraw] at hsome hnone;generalize yic (decide (op=7)) true ((k0::kr).map (zct S am))=res at hcon hsome hnone;clear hk hk0 hkr htry;rcases o67 with rfl|rfl
   all_goals
    (refine zg ?_;conv=>whnf);refine zrj rfl rfl rfl rfl rfl rfl (hcon _) (fun e=>hnone (by cases res with|none=>rfl|some v=>cases e) _) (fun r e=>?_);cases res with
    |none=>cases e
    |some v=>
    obtain rfl:=Option.some.inj e;obtain ⟨jf,hno⟩:=hsome v rfl;(refine zc ?_;conv=>whnf)
    repeat' ((with_reducible refine way ?_ ?_)<;>(intro h;conv=>whnf))
    ·refine qu rfl rfl rfl rfl rfl (fun hb=>?_) (fun hb=>hno (fun x=>of_decide_eq_false hb x.2) _)
     (refine zc ?_;conv=>whnf);exact jf h (of_decide_eq_true hb) _
    ·refine qu (b:=false) rfl rfl rfl rfl rfl (fun hb=>by cases hb) (fun hb=>hno (fun x=>h x.1) _)
  ·clear htry
   generalize hv0:zct S am k0=w0 at hk0
   by_cases o5:op=5
   ·subst o5
    have hraw:ykc S am 5 n den ps ((k0::kr).map (zct S am))=w0.map (fun v=>b2i (decide (v=0))):=by
     rw [List.map_cons,hv0];cases w0<;>rfl
    rw [hraw] at hsome hnone;(refine yb [777,86] 1000 ?_;conv=>whnf);refine zh (i:=0) (row:=k0.cells) rfl rfl h0 ?_;clear hraw;obtain ⟨xo,xn,xu,xd,xp,xk⟩:=k0;(refine zc ?_;conv=>whnf);refine zrj rfl rfl rfl rfl rfl rfl (hk0 _) (fun e=>hnone (by cases w0 with|none=>rfl|some v=>cases e) _) (fun r e=>?_);cases w0 with
    |none=>cases e
    |some v=>
    obtain rfl:=Option.some.inj e;obtain ⟨jf,hno⟩:=hsome (b2i (decide (v=0))) rfl;have htr:=zcu G (decide (v=0));generalize b2i (decide (v=0))=z at htr jf hno;(refine zc ?_;conv=>whnf);refine ze rfl  htr ?_;(refine zc ?_;conv=>whnf)
    repeat' ((with_reducible refine way ?_ ?_)<;>(intro h;conv=>whnf))
    ·refine qu rfl rfl rfl rfl rfl (fun hb=>?_) (fun hb=>hno (fun x=>of_decide_eq_false hb x.2) _)
     (refine zc ?_;conv=>whnf);exact jf h (of_decide_eq_true hb) _
    ·refine qu (b:=false) rfl rfl rfl rfl rfl (fun hb=>by cases hb) (fun hb=>hno (fun x=>h x.1) _)
   ·have hraw:ykc S am op n den ps ((k0::kr).map (zct S am))=w0.bind (fun v=>zqz op v (kr.map (zct S am))):=by
     unfold ykc;rw [if_neg (by omega),if_neg (by omega),if_neg (by omega),if_neg (by omega),if_neg (by omega),if_neg (by omega),List.map_cons,hv0];cases w0 with
     |none=>rfl
     |some v=>
      simp only [Option.bind_some];rw [if_neg o5,if_neg (by omega)]
    rw [hraw] at hsome hnone;clear hraw;(refine zg ?_;conv=>whnf)
    repeat' ((with_reducible refine way ?_ ?_)<;>(intro h;conv=>whnf))
    all_goals try (exfalso;omega)
    refine zh (i:=0) (row:=k0.cells) rfl rfl h0 ?_;obtain ⟨xo,xn,xu,xd,xp,xk⟩:=k0;(refine zc ?_;conv=>whnf);refine zrj rfl rfl rfl rfl rfl rfl (hk0 _) (fun e=>hnone (by cases w0 with|none=>rfl|some v=>cases e) _) (fun r e=>?_);cases w0 with
    |none=>cases e
    |some v=>
    obtain rfl:=Option.some.inj e;have hsome:∀u,zqz op v (kr.map (zct S am))=some u->_:=hsome;have hnone:zqz op v (kr.map (zct S am))=none->_:=hnone;have hrows2:=zx kr;have hlen2:(zj kr).length=kr.length:=by rw [hrows2];simp
    have hkz:kr.length<=1000000:=by
     have:(Ex.mk xo xn xu xd xp xk::kr).length=kr.length+1:=rfl;omega
    (refine zl [777,18] 1000 ?_;conv=>whnf);refine zlc (m:=1) (rows:=zj (Ex.mk xo xn xu xd xp xk::kr)) rfl rfl rfl rfl rfl rfl rfl (by rw [hlen];simp) ?_;(refine zc ?_;conv=>whnf);have hu4:(MH c S inF st am++[SObj.cells [sI op,sI n,sS u,sI den,.imm (.isl 3 (ps.map Piece.cells)),.imm (.isl 6 (zj (Ex.mk xo xn xu xd xp xk::kr)))]]).all (SObj.under 4)=true:=by
     rw [List.all_append,zcp (m:=3) (n:=4) (by omega) (jv c S inF st am)];rfl
    clear hrows hlen hk h0 hk0 hez hksz he hv0 hnode;refine zi [0,3,5,18,19,20] ?_;change SW E _ [(0,.ptr 0 0),(3,.ptr 3 0),(5,sI v),(18,.imm (.isl 6 (zj kr))),(19,sI ((zj kr).length:Nat)),(20,sI (0:Nat))] (MH c S inF st am++[.cells [sI op,sI n,sS u,sI den,.imm (.isl 3 (ps.map Piece.cells)),.imm (.isl 6 (zj (Ex.mk xo xn xu xd xp xk::kr)))]]);generalize zj (Ex.mk xo xn xu xd xp xk::kr)=rows0 at hu4 ⊢;rw [hlen2];refine zr kr (fun i (a:Int)=>[(0,.ptr 0 0),(3,.ptr 3 0),(5,sI a),(18,.imm (.isl 6 (zj kr))),(19,sI (kr.length:Nat)),(20,sI (i:Nat))])
     (fun _ _=>MH c S inF st am++[.cells [sI op,sI n,sS u,sI den,.imm (.isl 3 (ps.map Piece.cells)),.imm (.isl 6 rows0)]])
     (fun done rest a=>zqz op v (kr.map (zct S am))=zqz op a (rest.map (zct S am))) v rfl ?_ ?_
    ·as_aux_lemma=>
      rintro a hb;obtain ⟨jf,hno⟩:=hsome a hb;(refine zg ?_;conv=>whnf)
      repeat' ((with_reducible refine way ?_ ?_)<;>(intro h;conv=>whnf))
      all_goals try (exfalso;omega)
      repeat' ((with_reducible refine way ?_ ?_)<;>(intro h;conv=>whnf))
      ·refine qu rfl rfl rfl rfl rfl (fun hb=>?_) (fun hb=>hno (fun x=>of_decide_eq_false hb x.2) _)
       (refine zc ?_;conv=>whnf);exact jf h (of_decide_eq_true hb) _
      ·refine qu (b:=false) rfl rfl rfl rfl rfl (fun hb=>by cases hb) (fun hb=>hno (fun x=>h x.1) _)
    ·as_aux_lemma=>
      rintro done x rest a hda hdl hb ih;have hw:=zk (n:=done.length) (by omega);have hrx:(zj kr)[done.length]?=some x.cells:=by rw [hrows2,hda];simp
      have hx:=hkr x (by rw [hda];simp);have hxr:=fun b (e:zct S am x=some b)=>yih e
      have hb:zqz op v (kr.map (zct S am))=zqz op a (zct S am x::rest.map (zct S am)):=hb;obtain ⟨yo,yn,yu,yd,yp,yk⟩:=x;generalize zct S am (Ex.mk yo yn yu yd yp yk)=vx at hx hxr hb;(refine zg ?_;conv=>whnf)
      repeat' ((with_reducible refine way ?_ ?_)<;>(intro h;conv=>whnf))
      all_goals try (exfalso;omega)
      refine zh (i:=done.length) (row:=(Ex.mk yo yn yu yd yp yk).cells) rfl rfl hrx ?_;(refine zc ?_;conv=>whnf);refine zt mixed rfl ?_;(refine zd [] ?_;conv=>whnf);refine zln rfl rfl rfl rfl rfl rfl rfl (hx _) (fun e=>hnone (by rw [hb];cases vx with|none=>rfl|some v=>cases e) _) (fun r e=>?_);cases vx with
      |none=>cases e
      |some b=>
      obtain rfl:=Option.some.inj e;have hop:=zzm G op a b (hxr b rfl).1 (hxr b rfl).2;have hb:zqz op v (kr.map (zct S am))=match zqy op a b with|some n=>zqz op n (rest.map (zct S am))|none=>none:=hb
      generalize zqy op a b=z at hop hb;(refine zd [] ?_;conv=>whnf);refine zln rfl rfl rfl rfl rfl rfl rfl (hop _) (fun e=>hnone (by rw [hb];cases z with|none=>rfl|some v=>cases e) _) (fun r e=>?_);cases z with
      |none=>cases e
      |some q=>
      obtain rfl:=Option.some.inj e;(refine zd [] ?_;conv=>whnf);(refine zg ?_;conv=>whnf);rw [hw];exact yq [0,3,5,18,19,20] 4 (by rw [hH];show 3<=4;decide) (by show 4<=5;decide) rfl hu4 (ih q hb)
 ·obtain ⟨k0,kr,rfl⟩:∃k0 kr,ks=k0::kr:=by
   cases ks with
   |nil=>exact absurd rfl hne
   |cons a b=>exact ⟨a,b,rfl⟩
  obtain ⟨p0,pr,rfl⟩:∃p0 pr,ps=p0::pr:=by
   cases ps with
   |nil=>exact absurd rfl hps
   |cons a b=>exact ⟨a,b,rfl⟩
  have hk0:=hk k0 (List.mem_cons_self ..);have h0:(zj (k0::kr))[0]?=some k0.cells:=by simp [zj]
  clear hk;generalize hv0:zct S am k0=w0 at hk0;have hraw:ykc S am 18 n den (p0::pr) ((k0::kr).map (zct S am))=w0.map (fun v=>ywc den (p0::pr) (mxA v 0)):=by
   rw [List.map_cons,hv0];cases w0<;>rfl
  rw [hraw] at hsome hnone;have htab:=fun x=>zzo G den p0 pr x hden (by simp at hpsz;omega)
  generalize hpp:p0::pr=pp at hsome hnone htab;(refine zg ?_;conv=>whnf);refine zt mixed rfl ?_;(refine zd [98] ?_;conv=>whnf);refine yc (i:=0) (row:=k0.cells) rfl rfl h0 ?_;obtain ⟨xo,xn,xu,xd,xp,xk⟩:=k0;(refine zd [] ?_;conv=>whnf);refine zln rfl rfl rfl rfl rfl rfl rfl (hk0 _) (fun e=>hnone (by cases w0 with|none=>rfl|some v=>cases e) _) (fun r e=>?_);cases w0 with
  |none=>cases e
  |some v=>
  obtain rfl:=Option.some.inj e;obtain ⟨jf,hno⟩:=hsome (ywc den pp (mxA v 0)) rfl;have htab:=htab (mxA v 0);generalize ywc den pp (mxA v 0)=z at htab jf hno;unfold mxA at htab;(refine zd [] ?_;conv=>whnf);refine zu rfl  htab ?_;(refine zd [] ?_;conv=>whnf);(refine zg ?_;conv=>whnf)
  repeat' ((with_reducible refine way ?_ ?_)<;>(intro h;conv=>whnf))
  ·refine qu rfl rfl rfl rfl rfl (fun hb=>?_) (fun hb=>hno (fun x=>of_decide_eq_false hb x.2) _)
   (refine zc ?_;conv=>whnf);exact jf h (of_decide_eq_true hb) _
  ·refine qu (b:=false) rfl rfl rfl rfl rfl (fun hb=>by cases hb) (fun hb=>hno (fun x=>h x.1) _)
variable (G:List (Nat × D))
theorem yij (used:List Bool) (i:Nat) (hi:i<used.length):∃d z r,used.map sB=d++z::r/\d.length=i/\(used.set i true).map sB=d++sB true::r:=by
 refine ⟨(used.take i).map sB,sB used[i],(used.drop (i+1)).map sB,?_,by simp;omega,?_⟩
 ·rw [<-List.map_cons, <-List.drop_eq_getElem_cons hi, <-List.map_append,List.take_append_drop]
 ·rw [List.set_eq_take_append_cons_drop,if_pos hi]
  simp
theorem ymz {c:Codex} {m:List (Int × Int)} (N:Nat):∀(e:Ex),SizeOf.sizeOf e<N->zyw c m e->xg e<=1000000->∀used:List Bool,used.length=c.facts.length->
  SPre Tryz.prog G 109 [e.sv,.osl 0 0 used.length] (bH used) (fun r H'=>r= .tup []/\H'=bH (zay e used)):=by
 induction N with
 |zero=>intro e h;omega
 |succ N IH=>
 intro e he ha hez used hul;obtain ⟨op,n,u,den,ps,ks⟩:=e;simp only [Ex.mk.sizeOf_spec] at he;unfold zyw at ha;obtain ⟨hnode,hkids⟩:=ha;unfold xg at hez;have hksz:=zcs ks;have hrows:=zx ks;have hlen:(zj ks).length=ks.length:=by rw [hrows];simp
 have hk:∀k∈ks,∀us:List Bool,us.length=c.facts.length->SPre Tryz.prog G 109 [k.sv,.osl 0 0 us.length] (bH us) (fun r H'=>r= .tup []/\H'=bH (zay k us)):=fun k hkm us hus=>by
  have h1:=List.sizeOf_lt_of_mem hkm;have h2:=zgm hkm;exact IH k (by omega) (zqx hkids k hkm) (by omega) us hus
 clear IH;refine jh Tryz.func109 rfl (by rw [Tryz.ntmps109];simp) rfl (zll used) ?_;intro E hH hK;have fin:∀us X,zay (.mk op n u den ps ks) used=us->E.K (.tup []) (bH us++X):=fun us X e=>hK _ _ (by simp [bH]) rfl (zll us) ⟨rfl,by rw [e];rfl⟩
 clear hK;rw [show (Ex.mk op n u den ps ks).sv= .agg [sI op,sI n,sS u,sI den,.imm (.isl 3 (ps.map Piece.cells)),.imm (.isl 6 (zj ks))] from rfl]
 by_cases h2:op=2
 ·subst h2
  have hn:0<=n/\n<c.facts.length:=by
   rcases zuf hnode with ⟨h,_⟩|⟨_,_,h⟩|⟨h,_⟩|⟨h,_⟩|⟨h,_⟩|⟨h,_⟩<;>omega
  obtain ⟨d,z,r,e1,e2,e3⟩:=yij used n.toNat (by omega);have hnn:n=(n.toNat:Int):=by omega
  (refine yb [777,12] 1000 ?_;conv=>whnf);refine zbg (i:=n.toNat) rfl rfl rfl rfl rfl rfl rfl hnn (by omega) ?_;have hb0:(bH used++[.cells [sI 2,sI n,sS u,sI den,.imm (.isl 3 (ps.map Piece.cells)),.imm (.isl 6 (zj ks))]])[0]?=some (.cells (d++z::r)):=by rw [<-e1];rfl
  refine zbf (b:=0) (off:=0+n.toNat*1) (v:=sB true) (d:=d) (zz:=z) (r:=r) rfl rfl rfl rfl rfl rfl rfl rfl hb0 (by omega) ?_;rw [<-e3];(refine zc ?_;conv=>whnf);have hmk:zay (.mk 2 n u den ps ks) used=ks.foldl (fun w e=>zay e w) (used.set n.toNat true):=by rw [zay,if_pos rfl,zrf]
  have hus:(used.set n.toNat true).length=c.facts.length:=by simp;omega
  refine zi [1,14,15,16] ?_;change SW E _ [(1,.osl 0 0 used.length),(14,.imm (.isl 6 (zj ks))),(15,sI ((zj ks).length:Nat)),(16,sI (0:Nat))] (bH (used.set n.toNat true)++[.cells [sI 2,sI n,sS u,sI den,.imm (.isl 3 (ps.map Piece.cells)),.imm (.isl 6 (zj ks))]]);generalize used.set n.toNat true=us at hmk hus;rw [hlen];clear hn e1 e2 e3 hnn hnode;refine zr ks (fun i (_:List Bool)=>[(1,.osl 0 0 used.length),(14,.imm (.isl 6 (zj ks))),(15,sI (ks.length:Nat)),(16,sI (i:Nat))]) (fun _ w=>bH w++[.cells [sI 2,sI n,sS u,sI den,.imm (.isl 3 (ps.map Piece.cells)),.imm (.isl 6 (zj ks))]])
   (fun done rest w=>w.length=c.facts.length/\zay (.mk 2 n u den ps ks) used=rest.foldl (fun w e=>zay e w) w) us ⟨hus,hmk⟩ ?_ ?_
  ·rintro w ⟨hwl,hw⟩
   (refine zg ?_;conv=>whnf)
   repeat' ((with_reducible refine way ?_ ?_)<;>(intro h;conv=>whnf))
   all_goals try (exfalso;omega)
   exact fin w _ hw
  ·rintro done x rest w hda hdl ⟨hwl,hw⟩ ih
   have hwn:=zk (n:=done.length) (by omega);have hrx:(zj ks)[done.length]?=some x.cells:=by rw [hrows,hda];simp
   have hx:=hk x (by rw [hda];simp) w hwl;rw [show w.length=used.length by omega] at hx;have hln:(zay x w).length=c.facts.length:=by rw [(zfv _).1 x (Nat.lt_succ_self _) w];exact hwl
   have ih:=ih (zay x w) ⟨hln,hw⟩;have hu2:(bH (zay x w)++[SObj.cells [sI 2,sI n,sS u,sI den,.imm (.isl 3 (ps.map Piece.cells)),.imm (.isl 6 (zj ks))]]).all (SObj.under 2)=true:=by
    rw [List.all_append,zcp (m:=1) (n:=2) (by omega) (zll _)];rfl
   obtain ⟨xo,xn,xu,xd,xp,xk⟩:=x;(refine zg ?_;conv=>whnf)
   repeat' ((with_reducible refine way ?_ ?_)<;>(intro h;conv=>whnf))
   all_goals try (exfalso;omega)
   refine zh (i:=done.length) (row:=(Ex.mk xo xn xu xd xp xk).cells) rfl rfl hrx ?_;(refine zc ?_;conv=>whnf);refine zbu 1 rfl rfl rfl rfl rfl rfl hx ?_;rintro r9 H9 ⟨rfl,rfl⟩ _;(refine zc ?_;conv=>whnf);rw [hwn];exact yq [1,14,15,16] 2 (by rw [hH];show 1<=2;decide) (by show 2<=3;decide) rfl hu2 ih
 ·(refine zg ?_;conv=>whnf)
  repeat' ((with_reducible refine way ?_ ?_)<;>(intro h;conv=>whnf))
  ·contradiction
  have hmk:zay (.mk op n u den ps ks) used=ks.foldl (fun w e=>zay e w) used:=by rw [zay,if_neg h2,zrf]
  refine zi [1,14,15,16] ?_;change SW E _ [(1,.osl 0 0 used.length),(14,.imm (.isl 6 (zj ks))),(15,sI ((zj ks).length:Nat)),(16,sI (0:Nat))] (bH used++[.cells [sI op,sI n,sS u,sI den,.imm (.isl 3 (ps.map Piece.cells)),.imm (.isl 6 (zj ks))]]);have hus:=hul;rw [hlen];refine zr ks (fun i (_:List Bool)=>[(1,.osl 0 0 used.length),(14,.imm (.isl 6 (zj ks))),(15,sI (ks.length:Nat)),(16,sI (i:Nat))]) (fun _ w=>bH w++[.cells [sI op,sI n,sS u,sI den,.imm (.isl 3 (ps.map Piece.cells)),.imm (.isl 6 (zj ks))]])
   (fun done rest w=>w.length=c.facts.length/\zay (.mk op n u den ps ks) used=rest.foldl (fun w e=>zay e w) w) used ⟨hus,hmk⟩ ?_ ?_
  ·rintro w ⟨hwl,hw⟩
   (refine zg ?_;conv=>whnf)
   repeat' ((with_reducible refine way ?_ ?_)<;>(intro h;conv=>whnf))
   all_goals try (exfalso;omega)
   exact fin w _ hw
  ·rintro done x rest w hda hdl ⟨hwl,hw⟩ ih
   have hwn:=zk (n:=done.length) (by omega);have hrx:(zj ks)[done.length]?=some x.cells:=by rw [hrows,hda];simp
   have hx:=hk x (by rw [hda];simp) w hwl;rw [show w.length=used.length by omega] at hx;have hln:(zay x w).length=c.facts.length:=by rw [(zfv _).1 x (Nat.lt_succ_self _) w];exact hwl
   have ih:=ih (zay x w) ⟨hln,hw⟩;have hu2:(bH (zay x w)++[SObj.cells [sI op,sI n,sS u,sI den,.imm (.isl 3 (ps.map Piece.cells)),.imm (.isl 6 (zj ks))]]).all (SObj.under 2)=true:=by
    rw [List.all_append,zcp (m:=1) (n:=2) (by omega) (zll _)];rfl
   obtain ⟨xo,xn,xu,xd,xp,xk⟩:=x;(refine zg ?_;conv=>whnf)
   repeat' ((with_reducible refine way ?_ ?_)<;>(intro h;conv=>whnf))
   all_goals try (exfalso;omega)
   refine zh (i:=done.length) (row:=(Ex.mk xo xn xu xd xp xk).cells) rfl rfl hrx ?_;(refine zc ?_;conv=>whnf);refine zbu 1 rfl rfl rfl rfl rfl rfl hx ?_;rintro r9 H9 ⟨rfl,rfl⟩ _;(refine zc ?_;conv=>whnf);rw [hwn];exact yq [1,14,15,16] 2 (by rw [hH];show 1<=2;decide) (by show 2<=3;decide) rfl hu2 ih
end Go.Proofs.YtjnddlifnkgncaaGreatDoor