/- Contracts of functions of the program, joined from THf, THp, TSh59, TUj: no condition. -/
import Derived.Test.YtjnddlifnkgncaaGreatDoorCD6
set_option linter.unusedSimpArgs false
set_option linter.unusedVariables false
set_option maxRecDepth 10000
set_option maxHeartbeats 8000000
namespace Go.Proofs.YtjnddlifnkgncaaGreatDoor
open Go Go.Sh
variable (G:List (Nat × D))
def wh (c:Codex) (e:Ex):Bool:=zcx e&&zes c e
theorem zjp (c:Codex) (hsz:c.arts.length<=9223372036854775807) (e:Ex):zv Tryz.prog G 76 [c.sv,e.sv] (sB (wh c e)):=by
 have hw:=zwd G e;have hf:=fun h=>ybb G c hsz (SizeOf.sizeOf e+1) e (by omega) h
 have he:wh c e=(zcx e&&zes c e):=rfl;rw [he];have hsmall:zcx e=true->xg e<=1000:=fun h=>by simp [zcx] at h;omega
 obtain ⟨op,n,u,den,ps,ks⟩:=e;refine zf Tryz.func76 rfl (by rw [Tryz.ntmps76];simp) rfl rfl ?_;intro E hH hK;(refine zm ?_;conv=>whnf);refine ze rfl  hw ?_;cases hwi:zcx (.mk op n u den ps ks) with
 |false=>
  (refine zn ?_;conv=>whnf);exact kB hK (by rw [hwi];rfl)
 |true=>
  (refine zn ?_;conv=>whnf);refine ze rfl  (hf (hsmall hwi)) ?_;(refine zn ?_;conv=>whnf);exact kB hK (by rw [hwi];rfl)
def zdf (c:Codex) (n:Int):Int:=match c.arts[(zaa n c.arts 0).toNat]? with|some a=>a.line|none=>0
def jw (c:Codex) (a:Article):Bool:=
 decide (1<=a.number/\a.number<=1000000/\0<=a.line/\a.line<c.lines.length/\a.line=zdf c a.number)&&zbz a&&a.when_.all (fun e=>wh c e&&decide (e.unit=tT))&&
 a.unless_.all (fun n=>decide (0<=zaa n c.arts 0))&&(wh c a.amount&&decide (a.amount.unit=zgl c a.line))
def zii (c:Codex):Bool:=
 (wt 0 0 c.facts&&decide (c.facts.length<=32))&&(wt 1 4 c.lines&&decide (c.lines.length<=32))&&decide (c.arts.length<=60)&&c.arts.all (jw c)
theorem zsp (c:Codex) (hfew:zih c 420=true):zv Tryz.prog G 21 [c.sv] (sB (zii c)):=by
 have hfew':c.facts.length<=40/\c.lines.length<=40/\c.arts.length<=70/\∀a∈c.arts,a.when_.length<=40/\a.unless_.length<=80:=by
  simp only [zih,Bool.and_eq_true,decide_eq_true_eq,List.all_eq_true] at hfew;obtain ⟨⟨⟨h1,h2⟩,h3⟩,h4⟩:=hfew;refine ⟨h1,h2,h3,fun a ha=>?_⟩;have:=h4 a ha;simp only [zer,Bool.and_eq_true,decide_eq_true_eq] at this;exact ⟨this.1.1.1,this.1.1.2⟩
 obtain ⟨hsf,hsl,hsa,hart⟩:=hfew';refine zf Tryz.func21 rfl (by rw [Tryz.ntmps21];simp) rfl rfl ?_;intro E hH hK;have hll:(c.lines.map Decl.cells).length=c.lines.length:=by simp
 have hla:(c.arts.map Article.cells).length=c.arts.length:=by simp
 (refine zm ?_;conv=>whnf);refine ze rfl  (zle G c.facts 0 0 (by omega)) ?_;cases hd1:(wt 0 0 c.facts&&decide (c.facts.length<=32)) with
 |false=>
  (refine zn ?_;conv=>whnf);exact kB hK (by simp only [zii,hd1,Bool.false_and])
 |true=>
 (refine zn ?_;conv=>whnf);refine ze rfl  (zle G c.lines 1 4 (by omega)) ?_;cases hd2:(wt 1 4 c.lines&&decide (c.lines.length<=32)) with
 |false=>
  (refine zn ?_;conv=>whnf);exact kB hK (by simp only [zii,hd1,hd2,Bool.and_false,Bool.false_and])
 |true=>
 (refine zn ?_;conv=>whnf)
 repeat' ((with_reducible refine way ?_ ?_)<;>(intro h;first|(exfalso;omega)|(conv=>whnf)))
 ·exact kB hK (by simp only [zii,hd1,hd2];rw [decide_eq_false (by omega)];rfl)
 have hok:zii c=c.arts.all (jw c):=by simp only [zii,hd1,hd2];rw [decide_eq_true (by omega)];rfl
 refine zi [1,3] ?_;refine zr c.arts (fun i (_:Unit)=>[(1,.ptr 0 0),(3,sI i)]) (fun _ _=>[.cells [.imm (zp c.facts),.imm (zp c.lines),.imm (yv c.arts)]])
  (fun done rest _=>c.arts.all (jw c)=rest.all (jw c)) () rfl ?_ ?_
 ·as_aux_lemma=>
   rintro _ h1;(refine zm ?_;conv=>whnf)
   repeat' ((with_reducible refine way ?_ ?_)<;>(intro h;first|(exfalso;omega)|(conv=>whnf)))
   all_goals try (exfalso;omega)
   exact kB hK (by rw [hok,h1];rfl)
 ·as_aux_lemma=>
   rintro done a rest _ ha hl hinv ih;have hw:=zk (n:=done.length) (by omega);simp only [List.all_cons] at hinv;obtain ⟨hwn,hun⟩:=hart a (by rw [ha];simp);obtain ⟨op,n,u,den,ps,ks,ham⟩:∃op n u den ps ks,a.amount= .mk op n u den ps ks:=by cases h:a.amount;exact ⟨_,_,_,_,_,_,rfl⟩
   have hrow:(c.arts.map Article.cells)[((done.length:Nat):Int).toNat]?=some [dI a.number,dI a.line,dI a.rank,dI a.lo,dI a.hi,dI a.known,qp a.when_,ye a.unless_,dI op,dI n,dS u,dI den,.isl 3 (ps.map Piece.cells),.isl 6 (zj ks)]:=by
    simp [ha,Article.cells,ham,zx,Ex.op,Ex.n,Ex.unit,Ex.den,Ex.pieces,Ex.kids]
   have hwl:(a.when_.map Ex.cells).length=a.when_.length:=by simp
   have hul:(a.unless_.map fun n=>[dI n]).length=a.unless_.length:=by simp
   have bad:jw c a=false->zii c=false:=fun h=>by rw [hok,hinv,h];rfl
   have bad1:¬(1<=a.number/\a.number<=1000000/\0<=a.line/\a.line<c.lines.length/\a.line=zdf c a.number)->zii c=false:=fun h=>bad (by simp only [jw];rw [decide_eq_false h];rfl)
   have bad2:zbz a=false->zii c=false:=fun h=>bad (by simp only [jw,h,Bool.and_false,Bool.false_and])
   obtain ⟨b,hb1,hb2⟩:∃b,c.arts[(zaa a.number c.arts 0).toNat]?=some b/\0<=zaa a.number c.arts 0:=by
    rcases zko a.number c.arts 0 with h|⟨g1,g2,x,g3,g4⟩
    ·exact absurd rfl ((zne a.number c.arts 0).1 h a (by rw [ha];simp))
    ·exact ⟨x,by simpa using g3,by simpa using g1⟩
   have hfl:zdf c a.number=b.line:=by simp only [zdf,hb1]
   have hnum:=zgy G c a.number (by omega);generalize hix:zaa a.number c.arts 0=ix at hb1 hb2 hnum;(refine zm ?_;conv=>whnf)
   repeat' ((with_reducible refine way ?_ ?_)<;>(intro h;first|(exfalso;omega)|(conv=>whnf)))
   all_goals try (exfalso;omega)
   refine zh rfl rfl  (row:=[dI a.number,dI a.line,dI a.rank,dI a.lo,dI a.hi,dI a.known,qp a.when_,ye a.unless_,dI op,dI n,dS u,dI den,.isl 3 (ps.map Piece.cells),.isl 6 (zj ks)]) hrow ?_;(refine zn ?_;conv=>whnf)
   by_cases hg1:1<=a.number/\a.number<=1000000/\0<=a.line/\a.line<c.lines.length
   ·(refine zt mixed rfl ?_;refine zd [] ?_;conv=>whnf)
    repeat' ((with_reducible refine way ?_ ?_)<;>(intro h;first|(exfalso;omega)|(conv=>whnf)))
    all_goals try (exfalso;omega)
    refine zu rfl  hnum ?_;(refine zd [] ?_;conv=>whnf);refine yc rfl (i:=ix.toNat) (by omega) (row:=b.cells) (by simp [hb1]) ?_
    by_cases hline:a.line=b.line
    rotate_left
    ·(refine zd [] ?_;conv=>whnf)
     repeat' ((with_reducible refine way ?_ ?_)<;>(intro h;first|(exfalso;omega)|(conv=>whnf)))
     all_goals (refine zm ?_;conv=>whnf)
     all_goals exact kB hK (bad1 (fun hc=>hline (by rw [<-hfl];exact hc.2.2.2.2)))
    (refine zd [] ?_;conv=>whnf)
    repeat' ((with_reducible refine way ?_ ?_)<;>(intro h;first|(exfalso;omega)|(conv=>whnf)))
    all_goals (refine zm ?_;conv=>whnf)
    all_goals repeat' ((with_reducible refine way ?_ ?_)<;>(intro h;first|(exfalso;omega)|(conv=>whnf)))
    all_goals try exact kB hK (bad2 (by simp [zbz];intros;omega))
    have hhead:zbz a=true:=by simp [zbz];omega
    have hone:decide (1<=a.number/\a.number<=1000000/\0<=a.line/\a.line<c.lines.length/\a.line=zdf c a.number)=true:=decide_eq_true ⟨hg1.1,hg1.2.1,hg1.2.2.1,hg1.2.2.2,by rw [hfl];exact hline⟩;have hart2:jw c a=(a.when_.all (fun e=>wh c e&&decide (e.unit=tT))&&a.unless_.all (fun n=>decide (0<=zaa n c.arts 0))&&(wh c a.amount&&decide (a.amount.unit=zgl c a.line))):=by
     simp only [jw,hone,hhead,Bool.true_and]
    clear hnum bad1 bad2 hone hhead;refine zi [1,3,4,5] ?_;refine zr a.when_ (fun i (_:Unit)=>[(1,.ptr 0 0),(3,sI done.length),(4,.ptr 1 0),(5,sI i)])
     (fun _ _=>[.cells [.imm (zp c.facts),.imm (zp c.lines),.imm (yv c.arts)],.cells (zkd a op n u den ps ks)])
     (fun done rest _=>a.when_.all (fun e=>wh c e&&decide (e.unit=tT))=rest.all (fun e=>wh c e&&decide (e.unit=tT))) () rfl ?_ ?_
    ·as_aux_lemma=>
      rintro _ hwh;have hwt:a.when_.all (fun e=>wh c e&&decide (e.unit=tT))=true:=by rw [hwh];rfl
      rw [hwt,Bool.true_and] at hart2;(refine zm ?_;conv=>whnf)
      repeat' ((with_reducible refine way ?_ ?_)<;>(intro h;first|(exfalso;omega)|(conv=>whnf)))
      all_goals try (exfalso;omega)
      refine zi [1,3,4,6] ?_;refine zr a.unless_ (fun i (_:Unit)=>[(1,.ptr 0 0),(3,sI done.length),(4,.ptr 1 0),(6,sI i)])
       (fun _ _=>[.cells [.imm (zp c.facts),.imm (zp c.lines),.imm (yv c.arts)],.cells (zkd a op n u den ps ks)])
       (fun done rest _=>a.unless_.all (fun n=>decide (0<=zaa n c.arts 0))=rest.all (fun n=>decide (0<=zaa n c.arts 0))) () rfl ?_ ?_
      ·as_aux_lemma=>
        rintro _ huh;have hut:a.unless_.all (fun n=>decide (0<=zaa n c.arts 0))=true:=by rw [huh];rfl
        rw [hut,Bool.true_and,ham] at hart2;obtain ⟨d,hd⟩:∃d,c.lines[a.line.toNat]?=some d:=⟨c.lines[a.line.toNat]'(by omega),List.getElem?_eq_getElem _⟩;have hlu:zgl c a.line=d.unit:=by simp only [zgl,hd]
        rw [hlu] at hart2
        replace hart2:jw c a=(wh c (.mk op n u den ps ks)&&decide (u=d.unit)):=hart2
        have hfit:=zjp G c (by omega) (.mk op n u den ps ks);(refine zm ?_;conv=>whnf)
        repeat' ((with_reducible refine way ?_ ?_)<;>(intro h;first|(exfalso;omega)|(conv=>whnf)))
        all_goals try (exfalso;omega)
        (refine zt mixed rfl ?_;refine zd [] ?_;conv=>whnf);refine zu rfl  hfit ?_;cases hf:wh c (.mk op n u den ps ks) with
        |false=>
         (refine zd [] ?_;conv=>whnf);(refine zm ?_;conv=>whnf);exact kB hK (bad (by rw [hart2,hf];rfl))
        |true=>
         (refine zd [] ?_;conv=>whnf);refine yc rfl (i:=a.line.toNat) (by omega) (row:=d.cells) (by simp [hd]) ?_;(refine zd [] ?_;conv=>whnf);(refine zm ?_;conv=>whnf)
         repeat' ((with_reducible refine way ?_ ?_)<;>(intro h;first|(exfalso;omega)|(conv=>whnf)))
         ·exact kB hK (bad (by rw [hart2,hf,decide_eq_false h];rfl))
         ·rw [hw]
          exact yq [1,3] 1 (by simp [hH]) (by simp) rfl rfl (ih () (by rw [hinv,hart2,hf,decide_eq_true h];rfl))
      ·as_aux_lemma=>
        rintro d3 x r3 _ ha3 hl3 h3 ih3;have hw3:=zk (n:=d3.length) (by omega);simp only [List.all_cons] at h3;(refine zm ?_;conv=>whnf)
        repeat' ((with_reducible refine way ?_ ?_)<;>(intro h;first|(exfalso;omega)|(conv=>whnf)))
        all_goals try (exfalso;omega)
        (refine zt mixed rfl ?_;refine zd [] ?_;conv=>whnf);refine yc rfl rfl  (row:=[dI x]) (by simp [ha3]) ?_;(refine zd [] ?_;conv=>whnf);refine zu rfl  (zgy G c x (by omega)) ?_;(refine zd [] ?_;conv=>whnf);(refine zm ?_;conv=>whnf)
        repeat' ((with_reducible refine way ?_ ?_)<;>(intro h;first|(exfalso;omega)|(conv=>whnf)))
        ·exact kB hK (bad (by rw [hart2,h3,decide_eq_false (by omega)];rfl))
        ·rw [hw3]
         exact yq [1,3,4,6] 2 (by simp [hH]) (by simp) rfl rfl (ih3 () (by rw [h3,decide_eq_true (by omega)];rfl))
    ·as_aux_lemma=>
      rintro d2 e r2 _ ha2 hl2 h2 ih2;have hw2:=zk (n:=d2.length) (by omega);simp only [List.all_cons] at h2;have hfit:=zjp G c (by omega) e;obtain ⟨o1,n1,u1,d1,p1,q1⟩:=e
      replace h2:a.when_.all (fun e=>wh c e&&decide (e.unit=tT))=((wh c (.mk o1 n1 u1 d1 p1 q1)&&decide (u1=tT))&&r2.all (fun e=>wh c e&&decide (e.unit=tT))):=h2
      (refine zm ?_;conv=>whnf)
      repeat' ((with_reducible refine way ?_ ?_)<;>(intro h;first|(exfalso;omega)|(conv=>whnf)))
      all_goals try (exfalso;omega)
      (refine zt mixed rfl ?_;refine zd [] ?_;conv=>whnf);refine yc rfl rfl  (row:=(Ex.mk o1 n1 u1 d1 p1 q1).cells) (by simp [ha2]) ?_;(refine zd [] ?_;conv=>whnf);refine zu rfl  hfit ?_;cases hf:wh c (.mk o1 n1 u1 d1 p1 q1) with
      |false=>
       (refine zd [] ?_;conv=>whnf);(refine zm ?_;conv=>whnf);exact kB hK (bad (by rw [hart2,h2,hf];rfl))
      |true=>
       (refine zd [] ?_;conv=>whnf);refine yc rfl rfl  (row:=(Ex.mk o1 n1 u1 d1 p1 q1).cells) (by simp [ha2]) ?_;(refine zd [] ?_;conv=>whnf);(refine zm ?_;conv=>whnf)
       repeat' ((with_reducible refine way ?_ ?_)<;>(intro h;first|(exfalso;omega)|(conv=>whnf)))
       ·exact kB hK (bad (by rw [hart2,h2,hf,decide_eq_false (by exact h)];rfl))
       ·rw [hw2]
        exact yq [1,3,4,5] 2 (by simp [hH]) (by simp) rfl rfl (ih2 () (by rw [h2,hf,decide_eq_true (by exact h)];rfl))
   ·(refine zt mixed rfl ?_;refine zd [] ?_;conv=>whnf)
    repeat' ((with_reducible refine way ?_ ?_)<;>(intro h;first|(exfalso;omega)|(conv=>whnf)))
    all_goals try (exfalso;omega)
    all_goals try (refine zm ?_;conv=>whnf)
    all_goals exact kB hK (bad1 (fun hc=>hg1 ⟨hc.1,hc.2.1,hc.2.2.1,hc.2.2.2.1⟩))
def fl (n:Int):List Article->Option Int
 |[]=>none
 |a::r=>if a.number=n then some a.line else fl n r
theorem zpf (n:Int):∀(l:List Article) (i:Nat),(zaa n l i= -1/\fl n l=none)\/((i:Int)<=zaa n l i/\∃a,l[(zaa n l i).toNat-i]?=some a/\a.number=n/\fl n l=some a.line)
 |[],i=>.inl ⟨rfl,rfl⟩
 |a::r,i=>by
  simp only [zaa,fl];split
  ·rename_i h
   right
   exact ⟨by omega,a,by simp,h,rfl⟩
  ·rcases zpf n r (i+1) with ⟨h1,h2⟩|⟨h1,x,h2,h3,h4⟩
   ·left;exact ⟨h1,h2⟩
   ·right
    refine ⟨by omega,x,?_,h3,h4⟩;rw [show (zaa n r (i+1)).toNat-i=((zaa n r (i+1)).toNat-(i+1))+1 by omega];simpa using h2
abbrev yzr (nl:Int) (a:Article):Prop:=1<=a.number/\a.number<=1000000/\0<=a.line/\a.line<nl
theorem zuy (nl:Int):∀(l:List Article) (m0 m:List (Int × Int)),wo nl l m0=some m->(∀n,zy n m=(zy n m0).or (fl n l))/\∀a∈l,yzr nl a/\zy a.number m=some a.line
 |[],m0,m,h=>by
  simp only [wo,Option.some.injEq] at h;subst h;exact ⟨fun n=>by simp [fl],fun a ha=>by cases ha⟩
 |a::r,m0,m,h=>by
  simp only [wo] at h;split at h
  ·rename_i hc
   have hm:wo nl r (zdg a.number a.line m0)=some m/\(zy a.number m0=none\/zy a.number m0=some a.line):=by
    cases hl:zy a.number m0 with
    |none=>rw [hl] at h;exact ⟨h,.inl rfl⟩
    |some x=>
     rw [hl] at h;simp only at h;split at h
     ·rename_i e;subst e;exact ⟨h,.inr rfl⟩
     ·cases h
   obtain ⟨g1,g2⟩:=zuy nl r _ m hm.1;have key:∀n,zy n m=(zy n m0).or (fl n (a::r)):=by
    intro n;rw [g1 n,zfi]
    by_cases e:n=a.number
    ·subst e
     simp only [beq_self_eq_true,if_true,Option.some_or,fl];rcases hm.2 with h0|h0<;>rw [h0]<;>rfl
    ·rw [if_neg (by simpa using e)]
     simp only [fl];rw [if_neg (fun h=>e h.symm)]
   refine ⟨key,fun b hb=>?_⟩;rcases List.mem_cons.1 hb with rfl|hb
   ·refine ⟨hc,?_⟩
    rw [key];simp only [fl,if_true];rcases hm.2 with h0|h0<;>rw [h0]<;>rfl
   ·exact g2 b hb
  ·cases h
theorem zoe (nl:Int):∀(l:List Article) (m0:List (Int × Int)),(∀a∈l,yzr nl a/\(zy a.number m0).or (fl a.number l)=some a.line)->∃m,wo nl l m0=some m
 |[],m0,_=>⟨m0,rfl⟩
 |a::r,m0,h=>by
  obtain ⟨hb,ha⟩:=h a (by simp);simp only [fl,if_true] at ha;have h0:zy a.number m0=none\/zy a.number m0=some a.line:=by
   cases hl:zy a.number m0 with
   |none=>exact .inl rfl
   |some x=>rw [hl] at ha;right;simpa using ha
  have hr:∀b∈r,yzr nl b/\(zy b.number (zdg a.number a.line m0)).or (fl b.number r)=some b.line:=by
   intro b hbr;obtain ⟨g1,g2⟩:=h b (by simp [hbr]);refine ⟨g1,?_⟩;rw [zfi];simp only [fl] at g2
   by_cases e:b.number=a.number
   ·rw [e] at g2 ⊢
    simp only [beq_self_eq_true,if_true,Option.some_or];rw [if_pos rfl] at g2;rcases h0 with h0|h0<;>rw [h0] at g2<;>simpa using g2
   ·rw [if_neg (by simpa using e)]
    rw [if_neg (fun h=>e h.symm)] at g2;exact g2
  obtain ⟨m,hm⟩:=zoe nl r _ hr;refine ⟨m,?_⟩;simp only [wo];rw [if_pos hb];rcases h0 with h0|h0<;>rw [h0]
  ·exact hm
  ·simp only [if_true];exact hm
mutual
def ztl (P:Int->Int->ByteArray->Int->List Piece->List Ex->Bool):Ex->Bool
 | .mk op n u den ps ks=>zhe P ks&&P op n u den ps ks
def zhe (P:Int->Int->ByteArray->Int->List Piece->List Ex->Bool):List Ex->Bool
 |[]=>true
 |k::r=>ztl P k&&zhe P r
end
def zkp (c:Codex) (m:List (Int × Int)) (op n:Int) (u:ByteArray) (den:Int) (ps:List Piece) (ks:List Ex):Bool:=wg u&&zdd c m op n u den ps ks
theorem yjx (c:Codex) (m:List (Int × Int)) (N:Nat):
  (∀e:Ex,SizeOf.sizeOf e<N->∀d cnt:Int,((wz c m e d cnt).1=true ↔ (cnt+xg e<=400/\d+zcr e<=41/\ztl (zkp c m) e=true))/\((wz c m e d cnt).1=true->(wz c m e d cnt).2=cnt+xg e))/\
  (∀ks:List Ex,SizeOf.sizeOf ks<N->∀d cnt:Int,cnt<=400->d<=41->((qm c m ks d cnt).1=true ↔ (cnt+yr ks<=400/\d+zca ks<=41/\zhe (zkp c m) ks=true))/\((qm c m ks d cnt).1=true->(qm c m ks d cnt).2=cnt+yr ks)):=by
 induction N with
 |zero=>exact ⟨fun e h=>by omega,fun e h=>by omega⟩
 |succ N ih=>
  refine ⟨fun e he d cnt=>?_,fun ks hk d cnt hc hd=>?_⟩
  ·obtain ⟨op,n,u,den,ps,ks⟩:=e
   simp only [Ex.mk.sizeOf_spec] at he;simp only [wz,xg,zcr,ztl];split
   ·rename_i hc
    constructor
    ·constructor
     ·intro h;cases h
     ·rintro ⟨h1,h2,h3⟩
      rcases hc with h|h|h
      ·omega
      ·omega
      ·simp [zkp,h] at h3
    ·intro h;cases h
   ·rename_i hc
    have hu:wg u=true:=by
     cases h:wg u with
     |true=>rfl
     |false=>exact absurd (.inr (.inr h)) hc
    obtain ⟨g1,g2⟩:=ih.2 ks (by omega) (d+1) (cnt+1) (by omega) (by omega)
    revert g1 g2
    cases qm c m ks (d+1) (cnt+1) with
    |mk b q=>
     cases b with
     |true=>
      intro g1 g2;simp only at g1 g2 ⊢;obtain ⟨k1,k2,k3⟩:=g1.1 trivial;have k4:=g2 trivial;constructor
      ·constructor
       ·intro h
        exact ⟨by omega,by omega,by simp [k3,zkp,hu,h]⟩
       ·rintro ⟨_,_,h3⟩
        simp [zkp,hu] at h3;exact h3.2
      ·intro _;omega
     |false=>
      intro g1 _;simp only at g1 ⊢;constructor
      ·constructor
       ·intro h;cases h
       ·rintro ⟨h1,h2,h3⟩
        simp only [Bool.and_eq_true] at h3;exact absurd (g1.2 ⟨by omega,by omega,h3.1⟩) (by simp)
      ·intro h;cases h
  ·cases ks with
   |nil=>
    simp only [qm,yr,zca,zhe];exact ⟨⟨fun _=>⟨by omega,by omega,trivial⟩,fun _=>trivial⟩,fun _=>by omega⟩
   |cons k r=>
    simp only [List.cons.sizeOf_spec] at hk;obtain ⟨g1,g2⟩:=ih.1 k (by omega) d cnt;simp only [qm,yr,zca,zhe]
    revert g1 g2
    cases wz c m k d cnt with
    |mk b q=>
     cases b with
     |true=>
      intro g1 g2;simp only at g1 g2 ⊢;obtain ⟨k1,k2,k3⟩:=g1.1 trivial;have k4:=g2 trivial;subst k4;obtain ⟨r1,r2⟩:=ih.2 r (by omega) d (cnt+xg k) (by omega) hd;constructor
      ·rw [r1,k3]
       simp only [Bool.true_and];constructor
       ·rintro ⟨a1,a2,a3⟩;exact ⟨by omega,by omega,a3⟩
       ·rintro ⟨a1,a2,a3⟩;exact ⟨by omega,by omega,a3⟩
      ·intro h;have:=r2 h;omega
     |false=>
      intro g1 _;simp only at g1 ⊢;constructor
      ·constructor
       ·intro h;cases h
       ·rintro ⟨h1,h2,h3⟩
        simp only [Bool.and_eq_true] at h3;exact absurd (g1.2 ⟨by omega,by omega,h3.1⟩) (by simp)
      ·intro h;cases h
theorem ypa (c:Codex) (m:List (Int × Int)) (e:Ex):(wz c m e 1 0).1=(zcx e&&ztl (zkp c m) e):=by
 rw [Bool.eq_iff_iff,((yjx c m (SizeOf.sizeOf e+1)).1 e (by omega) 1 0).1];simp only [zcx,Bool.and_eq_true,decide_eq_true_eq];constructor
 ·rintro ⟨h1,h2,h3⟩;exact ⟨⟨by omega,by omega⟩,h3⟩
 ·rintro ⟨⟨h1,h2⟩,h3⟩;exact ⟨by omega,by omega,h3⟩
mutual
theorem ybc (c:Codex):∀e:Ex,zes c e=ztl (zhi c) e
 | .mk op n u den ps ks=>by simp only [zes,ztl,zsq c ks]
theorem zsq (c:Codex):∀ks:List Ex,znf c ks=zhe (zhi c) ks
 |[]=>rfl
 |k::r=>by simp only [znf,zhe,ybc c k,zsq c r]
end
theorem ysg:wg tT=true:=by decide
theorem ysh:wg tN=true:=by decide
theorem yjy {u:ByteArray} (h:zdn u=true):wg u=true:=by simp [wg,h]
structure CodexRel (c:Codex) (m:List (Int × Int)):Prop where
 facts:∀d∈c.facts,wg d.unit=true
 lines:∀d∈c.lines,wg d.unit=true
 look:∀n,zy n m=fl n c.arts
 line:∀a∈c.arts,0<=a.line/\a.line<c.lines.length
theorem zsr {l:List Decl} (h:∀d∈l,wg d.unit=true) {i:Int} {u:ByteArray} (hu:zdl l i u=true):wg u=true:=by
 unfold zdl at hu;split at hu
 ·rename_i d hd
  have:=of_decide_eq_true hu;subst this;exact h d (List.mem_of_getElem? hd)
 ·cases hu
theorem yvx {c:Codex} {m:List (Int × Int)} (H:CodexRel c m) (op n:Int) (u:ByteArray) (hop:1<=op/\op<=4) (hu:wg u=true):zdm c.facts c.lines m op n u=zar c op n u:=by
 have hc:op=1\/op=2\/op=3\/op=4:=by omega
 rcases hc with rfl|rfl|rfl|rfl
 ·simp [zdm,zar,hu]
 ·simp [zdm,zar]
 ·simp only [zdm,zar]
  simp only [show ¬(3:Int)=1 by omega,show ¬(3:Int)=2 by omega,if_false,if_true];rw [H.look n];rcases zpf n c.arts 0 with ⟨h1,h2⟩|⟨h1,a,h2,h3,h4⟩
  ·rw [h2,h1]
   cases c.arts[((-1:Int)).toNat]?<;>simp
  ·rw [Nat.sub_zero] at h2
   rw [h4,h2];obtain ⟨g1,g2⟩:=H.line a (List.mem_of_getElem? h2);simp only [decide_eq_true (show (0:Int)<=zaa n c.arts 0 by omega),decide_eq_true g1,decide_eq_true g2,Bool.true_and]
 ·simp [zdm,zar]
theorem ybd {c:Codex} {m:List (Int × Int)} (H:CodexRel c m) {op n:Int} {u:ByteArray} (h:zar c op n u=true):wg u=true:=by
 simp only [zar] at h;split at h
 ·simp only [Bool.and_eq_true] at h;exact h.1.1.1
 ·split at h
  ·simp only [Bool.and_eq_true] at h;exact zsr H.facts h.2
  ·split at h
   ·split at h
    ·simp only [Bool.and_eq_true] at h;exact zsr H.lines h.2
    ·cases h
   ·split at h
    ·simp only [Bool.and_eq_true,decide_eq_true_eq] at h
     rw [h.2];exact ysh
    ·cases h
theorem ypb {op:Int} {u:ByteArray} {f l:Ex} {len:Int} {s:Bool} (hf:wg f.unit=true) (hl:wg l.unit=true) (h:zaw op u f l len s=true):wg u=true:=by
 have eT:u=tT->wg u=true:=fun e=>by rw [e];exact ysg
 have eF:u=f.unit->wg u=true:=fun e=>by rw [e];exact hf
 have eL:u=l.unit->wg u=true:=fun e=>by rw [e];exact hl
 simp only [zaw] at h;split at h
 ·simp only [Bool.and_eq_true,decide_eq_true_eq] at h;exact eT h.1.2
 split at h
 ·simp only [Bool.and_eq_true,decide_eq_true_eq] at h;exact eT h.1.1.2
 split at h
 ·simp only [Bool.and_eq_true,decide_eq_true_eq] at h;exact eT h.1.2
 split at h
 ·simp only [Bool.and_eq_true,decide_eq_true_eq] at h;exact eT h.1.2
 split at h
 ·simp only [Bool.and_eq_true,decide_eq_true_eq] at h;exact eF h.2
 split at h
 ·simp only [Bool.and_eq_true,decide_eq_true_eq] at h;exact eF h.2
 split at h
 ·simp only [Bool.and_eq_true,decide_eq_true_eq] at h
  have:=h.2;split at this
  ·exact eL this
  ·exact eF this
 split at h
 ·simp only [Bool.and_eq_true,decide_eq_true_eq] at h;exact eF h.2
 split at h
 ·simp only [Bool.and_eq_true,decide_eq_true_eq] at h;exact eL h.2
 ·cases h
theorem ypc {c:Codex} {m:List (Int × Int)} (H:CodexRel c m) (op n:Int) (u:ByteArray) (den:Int) (ps:List Piece) (ks:List Ex) (hk:∀k∈ks,wg k.unit=true):
  zkp c m op n u den ps ks=zhi c op n u den ps ks:=by
 have hunit:zhi c op n u den ps ks=true->wg u=true:=by
  intro h;simp only [zhi] at h;split at h
  ·simp only [Bool.and_eq_true] at h;exact yjy h.1.1.2
  split at h
  ·cases h
  split at h
  ·simp only [Bool.and_eq_true] at h;exact ybd H h.2
  ·simp only [Bool.and_eq_true] at h
   have h2:=h.2;split at h2
   ·rename_i f l hf hl
    exact ypb (hk f (List.mem_of_mem_head? hf)) (hk l (List.mem_of_getLast? hl)) h2
   ·cases h2
 cases hu:wg u with
 |false=>
  cases hn:zhi c op n u den ps ks with
  |false=>simp [zkp,hu]
  |true=>rw [hunit hn] at hu;cases hu
 |true=>
  simp only [zkp,hu,Bool.true_and,zdd,zhi];split
  ·rfl
  split
  ·rfl
  split
  ·rename_i h4
   rw [yvx H op n u h4 hu]
  ·rfl
theorem yye {c:Codex} {m:List (Int × Int)} (H:CodexRel c m) (N:Nat):
  (∀e:Ex,SizeOf.sizeOf e<N->ztl (zkp c m) e=ztl (zhi c) e/\(ztl (zkp c m) e=true->wg e.unit=true))/\
  (∀ks:List Ex,SizeOf.sizeOf ks<N->zhe (zkp c m) ks=zhe (zhi c) ks/\(zhe (zkp c m) ks=true->∀k∈ks,wg k.unit=true)):=by
 induction N with
 |zero=>exact ⟨fun e h=>by omega,fun e h=>by omega⟩
 |succ N ih=>
  refine ⟨fun e he=>?_,fun ks hk=>?_⟩
  ·obtain ⟨op,n,u,den,ps,ks⟩:=e
   simp only [Ex.mk.sizeOf_spec] at he;obtain ⟨h1,h2⟩:=ih.2 ks (by omega);simp only [ztl];rw [<-h1];cases hk:zhe (zkp c m) ks with
   |false=>simp
   |true=>
    rw [ypc H op n u den ps ks (h2 hk)];refine ⟨rfl,fun h=>?_⟩;rw [<-ypc H op n u den ps ks (h2 hk)] at h;simp only [zkp,Bool.true_and,Bool.and_eq_true] at h;exact h.1
  ·cases ks with
   |nil=>exact ⟨rfl,fun _ k hk=>by cases hk⟩
   |cons k r=>
    simp only [List.cons.sizeOf_spec] at hk;obtain ⟨a1,a2⟩:=ih.1 k (by omega);obtain ⟨b1,b2⟩:=ih.2 r (by omega);simp only [zhe];rw [<-a1, <-b1];refine ⟨rfl,fun h x hx=>?_⟩;simp only [Bool.and_eq_true] at h;rcases List.mem_cons.1 hx with rfl|hx
    ·exact a2 h.1
    ·exact b2 h.2 x hx
theorem yvy {c:Codex} {m:List (Int × Int)} (H:CodexRel c m) (e:Ex):(wz c m e 1 0).1=wh c e:=by
 rw [ypa,wh,ybc,((yye H (SizeOf.sizeOf e+1)).1 e (by omega)).1]
theorem ygj {c:Codex} {m:List (Int × Int)} (H:CodexRel c m) (e:Ex) (u:ByteArray):(qy c m e u).1=(wh c e&&decide (e.unit=u)):=by
 unfold qy;split
 ·rename_i h;rw [yvy H,decide_eq_true h,Bool.and_true]
 ·rename_i h;rw [decide_eq_false h,Bool.and_false]
theorem zlz {lo hi:Int} {l:List Decl} (h:wt lo hi l=true):∀d∈l,wg d.unit=true:=by
 intro d hd;simp only [wt,Bool.and_eq_true,List.all_eq_true] at h;have:=h.1 d hd;simp only [zaq,Bool.and_eq_true] at this;exact this.1.2
theorem ysi (c:Codex):zii c=qd c:=by
 cases hd1:wt 0 0 c.facts with
 |false=>simp [zii,qd,hd1]
 |true=>
 cases hd2:wt 1 4 c.lines with
 |false=>simp [zii,qd,hd2]
 |true=>
 by_cases hz:c.facts.length<=32/\c.lines.length<=32/\c.arts.length<=60
 rotate_left
 ·have e1:zii c=false:=by
   cases h:zii c with
   |false=>rfl
   |true=>simp only [zii,Bool.and_eq_true,decide_eq_true_eq] at h;exact absurd ⟨h.1.1.1.2,h.1.1.2.2,h.1.2⟩ hz
  have e2:qd c=false:=by
   cases h:qd c with
   |false=>rfl
   |true=>simp only [qd,Bool.and_eq_true,decide_eq_true_eq] at h;exact absurd ⟨h.1.1.1.1.1,h.1.1.1.1.2,h.1.1.1.2⟩ hz
  rw [e1,e2]
 have e1:zii c=c.arts.all (jw c):=by simp [zii,hd1,hd2,hz]
 have e2:qd c=(match wo c.lines.length c.arts [] with|some m=>c.arts.all (zms c m)|none=>false):=by
  simp only [qd,hd1,hd2,hz.1,hz.2.1,hz.2.2,decide_true,Bool.true_and];rfl
 rw [e1,e2];have hfirst:∀a∈c.arts,fl a.number c.arts=some (zdf c a.number):=by
  intro a ha;rcases zpf a.number c.arts 0 with ⟨h1,h2⟩|⟨h1,x,h2,h3,h4⟩
  ·exact absurd rfl ((zne a.number c.arts 0).1 h1 a ha)
  ·rw [Nat.sub_zero] at h2
   rw [h4];simp only [zdf,h2]
 cases hg:wo c.lines.length c.arts [] with
 |some m=>
  obtain ⟨g1,g2⟩:=zuy _ _ _ _ hg;have hrel:CodexRel c m:=⟨zlz hd1,zlz hd2,fun n=>by rw [g1 n];rfl,fun a ha=>⟨(g2 a ha).1.2.2.1,(g2 a ha).1.2.2.2⟩⟩;simp only;rw [Bool.eq_iff_iff,List.all_eq_true,List.all_eq_true];have key:∀a∈c.arts,jw c a=zms c m a:=by
   intro a ha;obtain ⟨⟨b1,b2,b3,b4⟩,b5⟩:=g2 a ha;have hl:a.line=zdf c a.number:=by
    have:=hfirst a ha;rw [g1] at b5;simp only [zy,Option.none_or] at b5;rw [b5] at this;simpa using this
   simp only [jw,zms];rw [decide_eq_true ⟨b1,b2,b3,b4,hl⟩,Bool.true_and];have hu:a.unless_.all (fun n=>decide (0<=zaa n c.arts 0))=a.unless_.all (fun n=>(zy n m).isSome):=by
    congr 1
    funext n
    rw [g1 n];rcases zpf n c.arts 0 with ⟨h1,h2⟩|⟨h1,x,h2,h3,h4⟩
    ·rw [h1,h2];rfl
    ·rw [h4,decide_eq_true (by omega)];rfl
   have hw:a.when_.all (fun e=>wh c e&&decide (e.unit=tT))=a.when_.all (fun e=>(qy c m e tT).1):=by
    congr 1
    funext e
    rw [ygj hrel]
   rw [hu,hw,ygj hrel];cases zbz a<;>simp [Bool.and_comm,Bool.and_left_comm,Bool.and_assoc]
  constructor
  ·intro h a ha;rw [<-key a ha];exact h a ha
  ·intro h a ha;rw [key a ha];exact h a ha
 |none=>
  simp only;cases h:c.arts.all (jw c) with
  |false=>rfl
  |true=>
   exfalso
   rw [List.all_eq_true] at h
   obtain ⟨m,hm⟩:=zoe c.lines.length c.arts [] (fun a ha=>by
    have:=h a ha;simp only [jw,Bool.and_eq_true,decide_eq_true_eq] at this;obtain ⟨⟨⟨⟨⟨t1,t2,t3,t4,t5⟩,_⟩,_⟩,_⟩,_⟩:=this;refine ⟨⟨t1,t2,t3,t4⟩,?_⟩;simp only [zy,Option.none_or]
    rw [hfirst a ha, <-t5])
   rw [hm] at hg;cases hg
end Go.Proofs.YtjnddlifnkgncaaGreatDoor
namespace Go.Sh
variable {P:Program} {G:List (Nat × D)} {fn:Func} {rd:Bool} {E:En P G fn rd} {t:List (Nat × SV)} {H:List SObj} {k:List Item} {w:World} {I:Imm} {β:List Bnd}
theorem zng {b kk:Nat} (hb:H[b]?=some (.tok kk 0)) {b' c:Nat} (h:qe (H.set b (.vec kk [])) β b' c):qe H β b' c:=by
 have h1:=yqr (nx:=b) (x:=.vec kk []) (y:=.tok kk 0) (by simp) (by simp) h;have e:H.set b (.tok kk 0)=H:=by
  apply List.ext_getElem?
  intro i;rw [List.getElem?_set];split
  ·rename_i hi
   subst hi;rw [if_pos (lt_of_getElem? hb),hb]
  ·rfl
 rwa [e] at h1
theorem yjz {b kk:Nat} (hb:H[b]?=some (.tok kk 0)) (hH:HeapOK G w I β H):HeapOK G w I β (H.set b (.vec kk [])):=by
 refine ⟨by have:=hH.len;simpa using this,fun b' ob x hb' hx=>?_,fun b1 b2 c g1 g2=>hH.inj b1 b2 c (zng hb g1) (zng hb g2),hH.inI,hH.glob⟩;rw [List.getElem?_set] at hb';split at hb'
 ·rename_i hi
  subst hi;rw [if_pos (lt_of_getElem? hb)] at hb';cases hb';exact yud (hH.obj b _ x hb hx)
 ·exact hH.obj b' ob x hb' hx
theorem ypd {b kk:Nat} {v:Value} (hr:Rep w I β v (.asl b kk [])):Rep w I β v (.vec b 0):=by
 cases hr with
 |asl _ _ _ _ u n hd hb hu hl hv=>
  obtain ⟨a,cap,hu⟩:=hu;refine .vec b 0 _ u n hb ⟨a,cap,hu⟩ (Nat.zero_le _) ?_ fun e=>hv (by simpa using e)
  cases hd with
  |islNil=>exact ⟨_,_,_,rfl⟩
  |islEmpty=>exact ⟨_,_,_,rfl⟩
  |isl=>exact ⟨_,_,_,rfl⟩
theorem zpg (s b kk:Nat) (hs:qo t s= .asl b kk []) (hb:H[b]?=some (.tok kk 0)) (h:SW E k ((s,.vec b 0)::t) (H.set b (.vec kk []))):SW E k t H:=by
 refine ⟨fun a w I β cs' hsim=>?_⟩;have he:Ext H.length w I β H w I β (H.set b (.vec kk [])):={(Ext.refl:Ext H.length w I β H w I β H) with own:=fun b' c g=>.inl ⟨b',zng hb g⟩};refine h.run a w I _ cs' ⟨yjz hb hsim.heap,fun m=>?_,hsim.size,hsim.defers.ext he,hsim.ext.trans (he.weaken hsim.hlen),by have:=hsim.hlen;simpa using this⟩
 by_cases e:s=m
 ·subst e
  simp only [qo,if_true];have:=hsim.tmps s;rw [hs] at this;exact ypd this
 ·simp only [qo,if_neg e]
  exact hsim.tmps m
end Go.Sh
namespace Go.Proofs.YtjnddlifnkgncaaGreatDoor
open Go Go.Sh
def zxb (c:Codex) (l:List Fact):Bool:=zih c 120&&decide (c.arts.length<=12)&&decide (l.length<=40)
theorem ybe (G:List (Nat × D)) (c:Codex) (l:List Fact):zv Tryz.prog G 18 [c.sv,.imm (yz l)] (sB (zxb c l)):=by
 have c1:=yse G c 120 (by decide) (by decide);have hla:(c.arts.map Article.cells).length=c.arts.length:=by simp
 have hll:(l.map Fact.cells).length=l.length:=by simp
 unfold zxb;generalize zih c 120=ok at c1;refine zf Tryz.func18 rfl (by rw [Tryz.ntmps18];simp) rfl rfl ?_;intro E hH hK;(refine zg ?_;conv=>whnf);refine ze rfl  c1 ?_;cases ok with
 |false=>
  (refine zc ?_;conv=>whnf);exact kB hK rfl
 |true=>
  (refine zc ?_;conv=>whnf)
  repeat' ((with_reducible refine way ?_ ?_)<;>(intro h;conv=>whnf))
  all_goals (refine kB hK ?_;rw [Bool.eq_iff_iff];simp only [Bool.and_eq_true,Bool.true_and,decide_eq_true_eq,Bool.false_eq_true,iff_false,iff_true];omega)
theorem yec {a:Article} {L M:Int} (h:zer L a=true) (hm:L<=M):zer M a=true:=by
 unfold zer at h ⊢;simp only [Bool.and_eq_true,decide_eq_true_eq,List.all_eq_true] at h ⊢;exact ⟨⟨h.1.1,by omega⟩,fun e he=>by have:=h.2 e he;omega⟩
theorem yka {c:Codex} {L M:Int} (h:zih c L=true) (hm:L<=M):zih c M=true:=by
 unfold zih at h ⊢;simp only [Bool.and_eq_true,decide_eq_true_eq,List.all_eq_true] at h ⊢;exact ⟨h.1,fun a ha=>yec (h.2 a ha) hm⟩
def zfa (name:ByteArray):List Decl->List Decl
 |[]=>[]
 |x::r=>{x with name:=name}::r
theorem yed (name:ByteArray) (l:List Decl):(zfa name l).length=l.length:=by
 cases l<;>rfl
structure Few37 (c:Codex):Prop where
 facts:c.facts.length<=40
 lines:c.lines.length<=40
 arts:c.arts.length<=70
 art:∀a∈c.arts,a.when_.length<=40/\a.unless_.length<=80
theorem yyf {c:Codex} {L:Int} (h:zih c L=true):Few37 c:=by
 unfold zih at h;simp only [Bool.and_eq_true,decide_eq_true_eq,List.all_eq_true] at h;refine ⟨h.1.1.1,h.1.1.2,h.1.2,fun a ha=>?_⟩;have:=h.2 a ha;unfold zer at this;simp only [Bool.and_eq_true,decide_eq_true_eq] at this;exact this.1.1
theorem zxc {c:Codex} (h:Few37 c) (l:List Fact) (hl:l.length<=1000000) (person:ByteArray) (known:Int) (line:Ln):
  zv Tryz.prog G37 19 [c.sv,.imm (yz l),sS person,sI known,ypn line] (sB (qt c l person known line)):=by
 have hf:=h.facts;have hli:=h.lines;have ha:=h.arts;exact zsn G37 c (fun a ha=>by have:=h.art a ha;omega) (by omega) (by omega) (by omega) (fun a ha=>by have:=h.art a ha;omega) l hl person known line
theorem ype {c:Codex} (h:zih c 120=true):zv Tryz.prog G37 21 [c.sv] (sB (qd c)):=by
 have:=zsp G37 c (yka h (by decide))
 rwa [ysi] at this
def zch (xn xu:ByteArray) (xr:Int) (r:List Decl):List SV:=[sS xn,sS xu,sI xr]++(r.map Decl.cells).flatten.map .imm
theorem xa (xn xu:ByteArray) (xr:Int) (r:List Decl):(zch xn xu xr r).length=(r.length+1)*3:=by
 have h:∀r:List Decl,(r.map Decl.cells).flatten.length=r.length*3:=by
  intro r
  induction r with
  |nil=>rfl
  |cons x r ih=>
   rw [List.map_cons,List.flatten_cons,List.length_append,ih,List.length_cons];show 3+r.length*3=_;omega
 unfold zch;rw [List.length_append,List.length_map,h];show 3+r.length*3=_;omega
theorem ysj (xn xu:ByteArray) (xr:Int) (r:List Decl):0+((⟨xn,xu,xr⟩::r:List Decl).map Decl.cells).length=r.length+1:=by
 rw [List.length_map,List.length_cons,Nat.zero_add]
theorem ypf (xn xu:ByteArray) (xr:Int) (r:List Decl):([]:List SV)++((⟨xn,xu,xr⟩::r:List Decl).map Decl.cells).flatten.map SV.imm=zch xn xu xr r:=by
 rw [List.map_cons,List.flatten_cons,List.map_append];rfl
theorem zma (xn xu:ByteArray) (xr:Int) (r:List Decl) (name:ByteArray):(zch xn xu xr r).set 0 (sS name)=zch name xu xr r:=rfl
theorem ybf:∀l:List Decl,((l.map Decl.cells).flatten.map SV.imm).all SV.one=true
 |[]=>rfl
 |x::l=>by
  rw [List.map_cons,List.flatten_cons,List.map_append,List.all_append,ybf l,Bool.and_true];rfl
theorem zmb (xn xu:ByteArray) (xr:Int) (r:List Decl):(zch xn xu xr r).all SV.one=true:=by
 unfold zch;rw [List.all_append,ybf,Bool.and_true];rfl
theorem ziw (xn xu:ByteArray) (xr:Int) (r:List Decl):(zch xn xu xr r).mapM SV.toD=some ((⟨xn,xu,xr⟩::r:List Decl).map Decl.cells).flatten:=by
 rw [<-ypf,List.nil_append];exact zos _
theorem zet (xn xu:ByteArray) (xr:Int) (r:List Decl):jc 3 ((⟨xn,xu,xr⟩::r:List Decl).map Decl.cells).flatten (r.length+1)=(⟨xn,xu,xr⟩::r:List Decl).map Decl.cells:=by
 have:=ycr 3 ((⟨xn,xu,xr⟩::r:List Decl).map Decl.cells) (fun x hx=>by
  obtain ⟨y,_,rfl⟩:=List.mem_map.1 hx
  rfl)
 rwa [List.length_map,List.length_cons] at this
theorem locLaw_spec (c:Codex) (l:List Fact) (f:Fact) (person:ByteArray) (known:Int) (line:Ln) (name:ByteArray):
  zv Tryz.prog G37 6 [c.sv,.imm (yz l),.agg (f.cells.map .imm),sS person,sI known,ypn line,sS name] (sB true):=by
 have c1:=ybe G37 c l;cases hs:zxb c l with
 |false=>
  rw [hs] at c1;obtain ⟨fs,ls,as_⟩:=c;obtain ⟨l1,l2,l3,l4,l5,l6⟩:=line;refine zf Tryz.func6 rfl (by rw [Tryz.ntmps6];simp) rfl rfl ?_;intro E hH hK;(refine zg ?_;conv=>whnf);refine ze rfl  yoy ?_;(refine zc ?_;conv=>whnf);refine ze rfl  c1 ?_;(refine zc ?_;conv=>whnf);exact hK _
 |true=>
  rw [hs] at c1;unfold zxb at hs;simp only [Bool.and_eq_true,decide_eq_true_eq] at hs;obtain ⟨⟨hfew,_⟩,hl⟩:=hs;have hF:=yyf hfew;have r0:=zxc hF l (by omega) person known line;have v0:=ype hfew;have hfewd:zih ⟨c.facts,zfa name c.lines,c.arts⟩ 120=true:=by
   unfold zih at hfew ⊢;simp only [yed];exact hfew
  have v1:=ype hfewd;have r2:qd c=qd ⟨c.facts,zfa name c.lines,c.arts⟩->zv Tryz.prog G37 19 [(Codex.mk c.facts (zfa name c.lines) c.arts).sv,.imm (yz l),sS person,sI known,ypn line] (sB (qt c l person known line)):=fun h=>by
   have:=zxc (yyf hfewd) l (by omega) person known line
   rwa [zwx c.facts (zfa name c.lines) c.lines c.arts l person known line h.symm] at this
  have r1:qr l=true->qr (l++[f])=true->f.person≠person\/known<f.known->zv Tryz.prog G37 19 [c.sv,.imm (yz (l++[f])),sS person,sI known,ypn line] (sB (qt c l person known line)):=fun h1 h2 h3=>by
   have:=zxc hF (l++[f]) (by rw [List.length_append,List.length_singleton];omega) person known line
   rwa [yaw c l f person known line h3 h1 h2] at this
  have d1:=ydv G37 l f;have hrec:=yay l f;generalize qs l f=rr at d1 hrec;generalize qd c=ok1 at v0 r2;generalize qd ⟨c.facts,zfa name c.lines,c.arts⟩=ok2 at v1 r2;generalize qt c l person known line=was at r0 r1 r2;have hll:=hF.lines;clear hF hfew hfewd;obtain ⟨fs,ls,as_⟩:=c;obtain ⟨rs,re⟩:=rr;obtain ⟨l1,l2,l3,l4,l5,l6⟩:=line;obtain ⟨fp,fn,flo,fhi,fk,fv,fg⟩:=f;simp only at hll r1 r2 v1 hrec d1;have hwas:(was==was)=true:=by cases was<;>rfl
  rcases hrec with hne|⟨heq,hs1,hs2⟩
  ·refine zf Tryz.func6 rfl (by rw [Tryz.ntmps6];simp) rfl rfl ?_;intro E hH hK
   (refine zg ?_;conv=>whnf);refine ze rfl  yoy ?_;(refine zc ?_;conv=>whnf);refine ze rfl  c1 ?_;(refine zc ?_;conv=>whnf)
   repeat' ((with_reducible refine way ?_ ?_)<;>(intro h;conv=>whnf))
   case refine_1=>exact hK _
   refine ze rfl  r0 ?_;(refine zc ?_;conv=>whnf);refine ze rfl  d1 ?_;(refine zl [777,71] 1000 ?_;conv=>whnf)
   repeat' ((with_reducible refine way ?_ ?_)<;>(intro h;conv=>whnf))
   all_goals try (exfalso;omega)
   cases ls with
   |nil=>
    refine yy (b:=5) (kk:=3) (rows:=[]) (new:=[]) rfl ⟨by decide,rfl⟩ rfl (by decide) ?_;(refine zc ?_;conv=>whnf);refine zbv ?_;refine zi [1,3,4,7,12,15,16,19] ?_;refine Eq.mpr (congrArg (fun h=>SW E _ _ h) (show _=[SObj.cells [.imm (zp fs),.imm (zp []),.imm (yv as_)],.cells [sS fp,sS fn,sI flo,sI fhi,sI fk,sI fv,sB fg],.cells [sI l1,sI l2,sI l3,sI l4,.imm (ye l5),.imm (ye l6)],.cells [.imm (yz rs)],.cells [.imm (zp fs),.imm (zp (zfa name [])),.imm (yv as_)],.tok 3 0] from rfl)) ?_;change SW E _ [(1,.imm (yz l)),(3,sS person),(4,sI known),(7,.ptr 0 0),(12,.ptr 2 0),(15,sB true),(16,sB was),(19,.ptr 4 0)] _;cases ok1<;>cases ok2
    all_goals
     (refine zt mixed rfl ?_;refine zd [] ?_;conv=>whnf);refine zu rfl  v0 ?_;(refine zd [] ?_;conv=>whnf);refine zu rfl  v1 ?_;(refine zd [] ?_;conv=>whnf)
     (first|(refine zu rfl  (r2 rfl) ?_;(refine zd [] ?_;conv=>whnf);rw [hwas])|skip)
     (refine zg ?_;conv=>whnf);exact hK _
   |cons x r=>
    obtain ⟨xn,xu,xr⟩:=x;have hlr:r.length<=39:=by rw [List.length_cons] at hll;omega
    refine zan (fun k=>zpg 68 5 3 rfl rfl) ?_;refine zcn (b:=5) (n:=0) (kk:=3) (cs:=[]) (new:=(⟨xn,xu,xr⟩::r:List Decl).map Decl.cells) rfl rfl rfl rfl rfl rfl rfl rfl rfl rfl ⟨by decide,rfl⟩ rfl rfl (by decide) (by rw [List.length_map,List.length_cons];omega) (by rw [List.length_map,List.length_cons];omega) ?_;rw [ysj,ypf];(refine zl [777,75] 1000 ?_;conv=>whnf);refine zot (b:=5) (n:=r.length+1) (kk:=3) (cs:=zch xn xu xr r) rfl rfl rfl rfl rfl rfl (xa _ _ _ _) (by decide) ?_;(refine zl [777,80] 1000 ?_;conv=>whnf)
    repeat' ((with_reducible refine way ?_ ?_)<;>(intro h;conv=>whnf))
    all_goals try (exfalso;omega)
    refine zou (b:=5) (n:=r.length+1) (kk:=3) (i:=0) (cs:=zch xn xu xr r) rfl rfl rfl rfl rfl rfl rfl rfl (xa _ _ _ _) (by decide) rfl (by omega) ?_;refine zil (b:=5) (n:=r.length+1) (off:=0*3) (f:=0) (kk:=3) (cs:=zch xn xu xr r) rfl rfl rfl rfl rfl rfl rfl rfl (xa _ _ _ _) (by decide) (by omega) ?_;refine zim (b:=5) (n:=r.length+1) (off:=0) (v:=sS name) (kk:=3) (cs:=zch xn xu xr r) rfl rfl rfl rfl rfl rfl rfl rfl rfl (xa _ _ _ _) (by decide) (by rw [xa];omega) ?_;rw [zma];(refine zc ?_;conv=>whnf);refine zbo 4 1 5 (r.length+1) 3 (cs0:=[.imm (zp fs),.vec 5 (r.length+1),.imm (yv as_)]) (cs:=zch name xu xr r) (ds:=((⟨name,xu,xr⟩::r:List Decl).map Decl.cells).flatten) rfl rfl rfl (zmb _ _ _ _) (ziw _ _ _ _) (xa _ _ _ _) (by decide) ?_;rw [zet];refine zi [1,3,4,7,12,15,16,19] ?_;refine Eq.mpr (congrArg (fun h=>SW E _ _ h) (show _=[SObj.cells [.imm (zp fs),.imm (zp (⟨xn,xu,xr⟩::r)),.imm (yv as_)],.cells [sS fp,sS fn,sI flo,sI fhi,sI fk,sI fv,sB fg],.cells [sI l1,sI l2,sI l3,sI l4,.imm (ye l5),.imm (ye l6)],.cells [.imm (yz rs)],.cells [.imm (zp fs),.imm (zp (⟨name,xu,xr⟩::r)),.imm (yv as_)],.dead] from rfl)) ?_;change SW E _ [(1,.imm (yz l)),(3,sS person),(4,sI known),(7,.ptr 0 0),(12,.ptr 2 0),(15,sB true),(16,sB was),(19,.ptr 4 0)] _;cases ok1<;>cases ok2
    all_goals
     (refine zt mixed rfl ?_;refine zd [] ?_;conv=>whnf);refine zu rfl  v0 ?_;(refine zd [] ?_;conv=>whnf);refine zu rfl  v1 ?_;(refine zd [] ?_;conv=>whnf)
     (first|(refine zu rfl  (r2 rfl) ?_;(refine zd [] ?_;conv=>whnf);rw [hwas])|skip)
     (refine zg ?_;conv=>whnf);exact hK _
  ·cases heq
   refine zf Tryz.func6 rfl (by rw [Tryz.ntmps6];simp) rfl rfl ?_;intro E hH hK;(refine zg ?_;conv=>whnf);refine ze rfl  yoy ?_;(refine zc ?_;conv=>whnf);refine ze rfl  c1 ?_;(refine zc ?_;conv=>whnf)
   repeat' ((with_reducible refine way ?_ ?_)<;>(intro h;conv=>whnf))
   case refine_1=>exact hK _
   refine ze rfl  r0 ?_;(refine zc ?_;conv=>whnf);refine ze rfl  d1 ?_;(refine zl [777,71] 1000 ?_;conv=>whnf)
   repeat' ((with_reducible refine way ?_ ?_)<;>(intro h;conv=>whnf))
   all_goals try (exfalso;omega)
   ·refine ze rfl  (r1 hs1 hs2 (.inr h)) ?_
    (refine zl [777,66] 1000 ?_;conv=>whnf);refine jd (r:=sB false) rfl rfl (by cases was<;>rfl) (Nat.le_refl _) ?_;(refine zl [777,71] 1000 ?_;conv=>whnf);cases ls with
    |nil=>
     refine yy (b:=5) (kk:=3) (rows:=[]) (new:=[]) rfl ⟨by decide,rfl⟩ rfl (by decide) ?_;(refine zc ?_;conv=>whnf);refine zbv ?_;refine zi [1,3,4,7,12,15,16,19] ?_;refine Eq.mpr (congrArg (fun h=>SW E _ _ h) (show _=[SObj.cells [.imm (zp fs),.imm (zp []),.imm (yv as_)],.cells [sS fp,sS fn,sI flo,sI fhi,sI fk,sI fv,sB fg],.cells [sI l1,sI l2,sI l3,sI l4,.imm (ye l5),.imm (ye l6)],.cells [.imm (yz (l++[⟨fp,fn,flo,fhi,fk,fv,fg⟩]))],.cells [.imm (zp fs),.imm (zp (zfa name [])),.imm (yv as_)],.tok 3 0] from rfl)) ?_;change SW E _ [(1,.imm (yz l)),(3,sS person),(4,sI known),(7,.ptr 0 0),(12,.ptr 2 0),(15,sB true),(16,sB was),(19,.ptr 4 0)] _;cases ok1<;>cases ok2
     all_goals
      (refine zt mixed rfl ?_;refine zd [] ?_;conv=>whnf);refine zu rfl  v0 ?_;(refine zd [] ?_;conv=>whnf);refine zu rfl  v1 ?_;(refine zd [] ?_;conv=>whnf)
      (first|(refine zu rfl  (r2 rfl) ?_;(refine zd [] ?_;conv=>whnf);rw [hwas])|skip)
      (refine zg ?_;conv=>whnf);exact hK _
    |cons x r=>
     obtain ⟨xn,xu,xr⟩:=x;have hlr:r.length<=39:=by rw [List.length_cons] at hll;omega
     refine zan (fun k=>zpg 68 5 3 rfl rfl) ?_;refine zcn (b:=5) (n:=0) (kk:=3) (cs:=[]) (new:=(⟨xn,xu,xr⟩::r:List Decl).map Decl.cells) rfl rfl rfl rfl rfl rfl rfl rfl rfl rfl ⟨by decide,rfl⟩ rfl rfl (by decide) (by rw [List.length_map,List.length_cons];omega) (by rw [List.length_map,List.length_cons];omega) ?_;rw [ysj,ypf];(refine zl [777,75] 1000 ?_;conv=>whnf);refine zot (b:=5) (n:=r.length+1) (kk:=3) (cs:=zch xn xu xr r) rfl rfl rfl rfl rfl rfl (xa _ _ _ _) (by decide) ?_;(refine zl [777,80] 1000 ?_;conv=>whnf)
     repeat' ((with_reducible refine way ?_ ?_)<;>(intro h;conv=>whnf))
     all_goals try (exfalso;omega)
     refine zou (b:=5) (n:=r.length+1) (kk:=3) (i:=0) (cs:=zch xn xu xr r) rfl rfl rfl rfl rfl rfl rfl rfl (xa _ _ _ _) (by decide) rfl (by omega) ?_;refine zil (b:=5) (n:=r.length+1) (off:=0*3) (f:=0) (kk:=3) (cs:=zch xn xu xr r) rfl rfl rfl rfl rfl rfl rfl rfl (xa _ _ _ _) (by decide) (by omega) ?_;refine zim (b:=5) (n:=r.length+1) (off:=0) (v:=sS name) (kk:=3) (cs:=zch xn xu xr r) rfl rfl rfl rfl rfl rfl rfl rfl rfl (xa _ _ _ _) (by decide) (by rw [xa];omega) ?_;rw [zma];(refine zc ?_;conv=>whnf);refine zbo 4 1 5 (r.length+1) 3 (cs0:=[.imm (zp fs),.vec 5 (r.length+1),.imm (yv as_)]) (cs:=zch name xu xr r) (ds:=((⟨name,xu,xr⟩::r:List Decl).map Decl.cells).flatten) rfl rfl rfl (zmb _ _ _ _) (ziw _ _ _ _) (xa _ _ _ _) (by decide) ?_;rw [zet];refine zi [1,3,4,7,12,15,16,19] ?_;refine Eq.mpr (congrArg (fun h=>SW E _ _ h) (show _=[SObj.cells [.imm (zp fs),.imm (zp (⟨xn,xu,xr⟩::r)),.imm (yv as_)],.cells [sS fp,sS fn,sI flo,sI fhi,sI fk,sI fv,sB fg],.cells [sI l1,sI l2,sI l3,sI l4,.imm (ye l5),.imm (ye l6)],.cells [.imm (yz (l++[⟨fp,fn,flo,fhi,fk,fv,fg⟩]))],.cells [.imm (zp fs),.imm (zp (⟨name,xu,xr⟩::r)),.imm (yv as_)],.dead] from rfl)) ?_;change SW E _ [(1,.imm (yz l)),(3,sS person),(4,sI known),(7,.ptr 0 0),(12,.ptr 2 0),(15,sB true),(16,sB was),(19,.ptr 4 0)] _;cases ok1<;>cases ok2
     all_goals
      (refine zt mixed rfl ?_;refine zd [] ?_;conv=>whnf);refine zu rfl  v0 ?_;(refine zd [] ?_;conv=>whnf);refine zu rfl  v1 ?_;(refine zd [] ?_;conv=>whnf)
      (first|(refine zu rfl  (r2 rfl) ?_;(refine zd [] ?_;conv=>whnf);rw [hwas])|skip)
      (refine zg ?_;conv=>whnf);exact hK _
   ·cases ls with
    |nil=>
     refine yy (b:=5) (kk:=3) (rows:=[]) (new:=[]) rfl ⟨by decide,rfl⟩ rfl (by decide) ?_;(refine zc ?_;conv=>whnf);refine zbv ?_;refine zi [1,3,4,7,12,15,16,19] ?_;refine Eq.mpr (congrArg (fun h=>SW E _ _ h) (show _=[SObj.cells [.imm (zp fs),.imm (zp []),.imm (yv as_)],.cells [sS fp,sS fn,sI flo,sI fhi,sI fk,sI fv,sB fg],.cells [sI l1,sI l2,sI l3,sI l4,.imm (ye l5),.imm (ye l6)],.cells [.imm (yz (l++[⟨fp,fn,flo,fhi,fk,fv,fg⟩]))],.cells [.imm (zp fs),.imm (zp (zfa name [])),.imm (yv as_)],.tok 3 0] from rfl)) ?_;change SW E _ [(1,.imm (yz l)),(3,sS person),(4,sI known),(7,.ptr 0 0),(12,.ptr 2 0),(15,sB true),(16,sB was),(19,.ptr 4 0)] _;cases ok1<;>cases ok2
     all_goals
      (refine zt mixed rfl ?_;refine zd [] ?_;conv=>whnf);refine zu rfl  v0 ?_;(refine zd [] ?_;conv=>whnf);refine zu rfl  v1 ?_;(refine zd [] ?_;conv=>whnf)
      (first|(refine zu rfl  (r2 rfl) ?_;(refine zd [] ?_;conv=>whnf);rw [hwas])|skip)
      (refine zg ?_;conv=>whnf);exact hK _
    |cons x r=>
     obtain ⟨xn,xu,xr⟩:=x;have hlr:r.length<=39:=by rw [List.length_cons] at hll;omega
     refine zan (fun k=>zpg 68 5 3 rfl rfl) ?_;refine zcn (b:=5) (n:=0) (kk:=3) (cs:=[]) (new:=(⟨xn,xu,xr⟩::r:List Decl).map Decl.cells) rfl rfl rfl rfl rfl rfl rfl rfl rfl rfl ⟨by decide,rfl⟩ rfl rfl (by decide) (by rw [List.length_map,List.length_cons];omega) (by rw [List.length_map,List.length_cons];omega) ?_;rw [ysj,ypf];(refine zl [777,75] 1000 ?_;conv=>whnf);refine zot (b:=5) (n:=r.length+1) (kk:=3) (cs:=zch xn xu xr r) rfl rfl rfl rfl rfl rfl (xa _ _ _ _) (by decide) ?_;(refine zl [777,80] 1000 ?_;conv=>whnf)
     repeat' ((with_reducible refine way ?_ ?_)<;>(intro h;conv=>whnf))
     all_goals try (exfalso;omega)
     refine zou (b:=5) (n:=r.length+1) (kk:=3) (i:=0) (cs:=zch xn xu xr r) rfl rfl rfl rfl rfl rfl rfl rfl (xa _ _ _ _) (by decide) rfl (by omega) ?_;refine zil (b:=5) (n:=r.length+1) (off:=0*3) (f:=0) (kk:=3) (cs:=zch xn xu xr r) rfl rfl rfl rfl rfl rfl rfl rfl (xa _ _ _ _) (by decide) (by omega) ?_;refine zim (b:=5) (n:=r.length+1) (off:=0) (v:=sS name) (kk:=3) (cs:=zch xn xu xr r) rfl rfl rfl rfl rfl rfl rfl rfl rfl (xa _ _ _ _) (by decide) (by rw [xa];omega) ?_;rw [zma];(refine zc ?_;conv=>whnf);refine zbo 4 1 5 (r.length+1) 3 (cs0:=[.imm (zp fs),.vec 5 (r.length+1),.imm (yv as_)]) (cs:=zch name xu xr r) (ds:=((⟨name,xu,xr⟩::r:List Decl).map Decl.cells).flatten) rfl rfl rfl (zmb _ _ _ _) (ziw _ _ _ _) (xa _ _ _ _) (by decide) ?_;rw [zet];refine zi [1,3,4,7,12,15,16,19] ?_;refine Eq.mpr (congrArg (fun h=>SW E _ _ h) (show _=[SObj.cells [.imm (zp fs),.imm (zp (⟨xn,xu,xr⟩::r)),.imm (yv as_)],.cells [sS fp,sS fn,sI flo,sI fhi,sI fk,sI fv,sB fg],.cells [sI l1,sI l2,sI l3,sI l4,.imm (ye l5),.imm (ye l6)],.cells [.imm (yz (l++[⟨fp,fn,flo,fhi,fk,fv,fg⟩]))],.cells [.imm (zp fs),.imm (zp (⟨name,xu,xr⟩::r)),.imm (yv as_)],.dead] from rfl)) ?_;change SW E _ [(1,.imm (yz l)),(3,sS person),(4,sI known),(7,.ptr 0 0),(12,.ptr 2 0),(15,sB true),(16,sB was),(19,.ptr 4 0)] _;cases ok1<;>cases ok2
     all_goals
      (refine zt mixed rfl ?_;refine zd [] ?_;conv=>whnf);refine zu rfl  v0 ?_;(refine zd [] ?_;conv=>whnf);refine zu rfl  v1 ?_;(refine zd [] ?_;conv=>whnf)
      (first|(refine zu rfl  (r2 rfl) ?_;(refine zd [] ?_;conv=>whnf);rw [hwas])|skip)
      (refine zg ?_;conv=>whnf);exact hK _
   ·refine ze rfl  (r1 hs1 hs2 (.inl h)) ?_
    (refine zl [777,66] 1000 ?_;conv=>whnf);refine jd (r:=sB false) rfl rfl (by cases was<;>rfl) (Nat.le_refl _) ?_;(refine zl [777,71] 1000 ?_;conv=>whnf);cases ls with
    |nil=>
     refine yy (b:=5) (kk:=3) (rows:=[]) (new:=[]) rfl ⟨by decide,rfl⟩ rfl (by decide) ?_;(refine zc ?_;conv=>whnf);refine zbv ?_;refine zi [1,3,4,7,12,15,16,19] ?_;refine Eq.mpr (congrArg (fun h=>SW E _ _ h) (show _=[SObj.cells [.imm (zp fs),.imm (zp []),.imm (yv as_)],.cells [sS fp,sS fn,sI flo,sI fhi,sI fk,sI fv,sB fg],.cells [sI l1,sI l2,sI l3,sI l4,.imm (ye l5),.imm (ye l6)],.cells [.imm (yz (l++[⟨fp,fn,flo,fhi,fk,fv,fg⟩]))],.cells [.imm (zp fs),.imm (zp (zfa name [])),.imm (yv as_)],.tok 3 0] from rfl)) ?_;change SW E _ [(1,.imm (yz l)),(3,sS person),(4,sI known),(7,.ptr 0 0),(12,.ptr 2 0),(15,sB true),(16,sB was),(19,.ptr 4 0)] _;cases ok1<;>cases ok2
     all_goals
      (refine zt mixed rfl ?_;refine zd [] ?_;conv=>whnf);refine zu rfl  v0 ?_;(refine zd [] ?_;conv=>whnf);refine zu rfl  v1 ?_;(refine zd [] ?_;conv=>whnf)
      (first|(refine zu rfl  (r2 rfl) ?_;(refine zd [] ?_;conv=>whnf);rw [hwas])|skip)
      (refine zg ?_;conv=>whnf);exact hK _
    |cons x r=>
     obtain ⟨xn,xu,xr⟩:=x;have hlr:r.length<=39:=by rw [List.length_cons] at hll;omega
     refine zan (fun k=>zpg 68 5 3 rfl rfl) ?_;refine zcn (b:=5) (n:=0) (kk:=3) (cs:=[]) (new:=(⟨xn,xu,xr⟩::r:List Decl).map Decl.cells) rfl rfl rfl rfl rfl rfl rfl rfl rfl rfl ⟨by decide,rfl⟩ rfl rfl (by decide) (by rw [List.length_map,List.length_cons];omega) (by rw [List.length_map,List.length_cons];omega) ?_;rw [ysj,ypf];(refine zl [777,75] 1000 ?_;conv=>whnf);refine zot (b:=5) (n:=r.length+1) (kk:=3) (cs:=zch xn xu xr r) rfl rfl rfl rfl rfl rfl (xa _ _ _ _) (by decide) ?_;(refine zl [777,80] 1000 ?_;conv=>whnf)
     repeat' ((with_reducible refine way ?_ ?_)<;>(intro h;conv=>whnf))
     all_goals try (exfalso;omega)
     refine zou (b:=5) (n:=r.length+1) (kk:=3) (i:=0) (cs:=zch xn xu xr r) rfl rfl rfl rfl rfl rfl rfl rfl (xa _ _ _ _) (by decide) rfl (by omega) ?_;refine zil (b:=5) (n:=r.length+1) (off:=0*3) (f:=0) (kk:=3) (cs:=zch xn xu xr r) rfl rfl rfl rfl rfl rfl rfl rfl (xa _ _ _ _) (by decide) (by omega) ?_;refine zim (b:=5) (n:=r.length+1) (off:=0) (v:=sS name) (kk:=3) (cs:=zch xn xu xr r) rfl rfl rfl rfl rfl rfl rfl rfl rfl (xa _ _ _ _) (by decide) (by rw [xa];omega) ?_;rw [zma];(refine zc ?_;conv=>whnf);refine zbo 4 1 5 (r.length+1) 3 (cs0:=[.imm (zp fs),.vec 5 (r.length+1),.imm (yv as_)]) (cs:=zch name xu xr r) (ds:=((⟨name,xu,xr⟩::r:List Decl).map Decl.cells).flatten) rfl rfl rfl (zmb _ _ _ _) (ziw _ _ _ _) (xa _ _ _ _) (by decide) ?_;rw [zet];refine zi [1,3,4,7,12,15,16,19] ?_;refine Eq.mpr (congrArg (fun h=>SW E _ _ h) (show _=[SObj.cells [.imm (zp fs),.imm (zp (⟨xn,xu,xr⟩::r)),.imm (yv as_)],.cells [sS fp,sS fn,sI flo,sI fhi,sI fk,sI fv,sB fg],.cells [sI l1,sI l2,sI l3,sI l4,.imm (ye l5),.imm (ye l6)],.cells [.imm (yz (l++[⟨fp,fn,flo,fhi,fk,fv,fg⟩]))],.cells [.imm (zp fs),.imm (zp (⟨name,xu,xr⟩::r)),.imm (yv as_)],.dead] from rfl)) ?_;change SW E _ [(1,.imm (yz l)),(3,sS person),(4,sI known),(7,.ptr 0 0),(12,.ptr 2 0),(15,sB true),(16,sB was),(19,.ptr 4 0)] _;cases ok1<;>cases ok2
     all_goals
      (refine zt mixed rfl ?_;refine zd [] ?_;conv=>whnf);refine zu rfl  v0 ?_;(refine zd [] ?_;conv=>whnf);refine zu rfl  v1 ?_;(refine zd [] ?_;conv=>whnf)
      (first|(refine zu rfl  (r2 rfl) ?_;(refine zd [] ?_;conv=>whnf);rw [hwas])|skip)
      (refine zg ?_;conv=>whnf);exact hK _
end Go.Proofs.YtjnddlifnkgncaaGreatDoor