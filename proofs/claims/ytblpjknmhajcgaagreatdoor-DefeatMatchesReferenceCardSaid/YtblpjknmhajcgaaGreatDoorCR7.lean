/- Contracts of functions of the program, joined from TEo, TEr, TQh, TEs, TEt, TEp, TDh: no condition. -/
import Derived.Test.YtblpjknmhajcgaaGreatDoorCR6
set_option linter.unusedSimpArgs false
set_option linter.unusedVariables false
set_option maxRecDepth 10000
set_option maxHeartbeats 8000000
namespace Go.Proofs.YtblpjknmhajcgaaGreatDoor
open Go Go.Sh
theorem ymu (es:List Ex) (ls:List (List Int)) (n:Nat) (day:Int) (failed:List ByteArray):zix es ls (n+1) day failed=if ydr (yf day) es∈failed then zix es ls n (day+1) failed
  else match jq (zva es day) ls [] with
   |some v=>some (day,v)
   |none=>zix es ls n (day+1) (failed++[ydr (yf day) es]):=rfl
theorem ygr {c:Codex} {vs:List Int} (h:zv c=false):yg c vs=none:=by
 unfold yg;rw [h,Bool.false_and];rfl
theorem yrn {P:Program} {G:List (Nat × D)} {fn:Func} {rd:Bool} {E:En P G fn rd} {α:Type} {T:List (Nat × SV)} {H:α->List SObj} {x:α} {R:Prop} {k:List Item} (h1:(∀v,v=x->SW E k T (H v))->R) (h2:SW E k T (H x)):R:=h1 fun _ e=>e ▸ h2
def yyq (lo day:Int) (p:zag):Prop:=(day=lo/\p=yf lo)\/(lo<day/\p=yf (day-1))
theorem ytw (c:Codex) (h:zv c=true) (hF:c.facts.length<=12) (hw:∀a∈c.arts,a.when_.length<=41) (hfit:Codex.fit c) (hsz:c.facts.length<=9223372036854775807/\c.lines.length<=9223372036854775807/\c.arts.length<=60) (vs:List Int) (hz:vs.length<=1000)
  (hv:∀v∈vs,0<=v/\v<c.arts.length) (hin:vs.all (zdj c)=true) (hb:zgi c (zr vs)=true):
  zw Tryz.prog G0 12 [c.sv,.imm (zi vs)] (zmg (yg c vs)):=by
 have hal:(c.arts.map Article.cells).length=c.arts.length:=by simp
 have hV:=zaw G0 c hsz.1 hsz.2.1 (by omega) hfit;rw [zlw,h] at hV;have hL:=zuu G0 c vs (by omega) (by omega);unfold zrg at hL;rw [hin,if_pos rfl] at hL;have hle:=zzq hv;have hvL:∀v∈zed c vs,0<=v/\v<c.arts.length:=ydb;have hll:=ydq c vs;have hE:=yrk h hF hw hv hb;unfold ygp at hE;rw [<-hle] at hb hE;obtain ⟨m,hm,hc⟩:=zbo h;have hN:=zec (c:=c) hc (vs:=zed c vs);obtain ⟨_,_,m',hm',h4⟩:=qr h;have hS:=zec (c:=c) (P:=fun e=>yx e<=400) (fun a ha e he=>((h4 a ha).2.2.1 e he).2) (vs:=zed c vs);unfold zgi at hb;simp only [Bool.and_eq_true,decide_eq_true_eq] at hb;have hwh:∀a∈c.arts,a.when_.length<=100:=fun a ha=>by have:=hw a ha;omega
 have hC:=zuo G0 c (m:=m) (zed c vs) (by omega) hvL hwh (fun e he=>⟨hN e he,hS e he⟩) (by omega) hb.1;rw [decide_eq_true hb.2] at hC;have hFr:=ycu G0 c (zed c vs) (by omega) hvL;have hCo:=zkm G0 c (zed c vs) (by omega) hvL hwh;have hel:=zgd hwh (zed c vs);have hsimp:=List.all_eq_true.1 hb.1;have hread:∀e∈ya c (zed c vs),readE c.facts.length e:=fun e he=>zsc _ e (Nat.lt_succ_self _) (hN e he).1 (hN e he).2 (hsimp e he)
 have hmk:=fun d e (he:e∈ya c (zed c vs))=>ziy G0 (yf d) _ e (Nat.lt_succ_self _) (hN e he).1 (hN e he).2 (hsimp e he) (by have:=hS e he;omega)
 have hrl:(zfb c (ya c (zed c vs))).length=c.facts.length:=by simp [zfb]
 have hlz:∀l∈zfb c (ya c (zed c vs)),l.length<=100000000:=fun l hl=>by
  obtain ⟨i,_,rfl⟩:=List.mem_map.1 hl;have:=zop c i (ya c (zed c vs)) hS [];unfold yab;simp only [List.length_nil] at this;omega
 have hfd:=fun d=>zvc G0 (ya c (zed c vs)) (yf d) (zfb c (ya c (zed c vs))) (by omega) hlz (by omega) (fun e he=>by rw [hrl];exact hread e he) c.facts.length [] (by simp [hrl])
 have hfle:=yjh (c:=c) (zed c vs);have hesz:∀e∈ya c (zed c vs),yx e<=400:=hS;rw [<-hE];generalize ya c (zed c vs)=es at*;generalize zfb c es=ls at*;generalize zed c vs=l at*;generalize ym c l=fr at*;obtain ⟨lo,hi⟩:=fr;simp only at hFr hfle ⊢;obtain ⟨res,hres⟩:∃res,res=zix es ls (hi-lo).toNat lo []:=⟨_,rfl⟩;rw [<-hres];have hesl:(es.map Ex.cells).length=es.length:=by simp
 have hlsl:(ls.map fun l=>[zi l]).length=ls.length:=by simp
 refine zc Tryz.func12 rfl (by rw [Tryz.ntmps12];simp) rfl (by cases res<;>rfl) ?_;intro E hH hK;rw [show c.sv= .agg [.imm (zj c.facts),.imm (zj c.lines),.imm (yl c.arts)] from rfl];(refine zf ?_;conv=>whnf);refine ze rfl  hV ?_;(refine za ?_;conv=>whnf);refine ze rfl  hL ?_;(refine za ?_;conv=>whnf);refine ze rfl  hC ?_;(refine za ?_;conv=>whnf);refine ze rfl  hFr ?_;(refine za ?_;conv=>whnf);refine ze rfl  hCo ?_;(refine za ?_;conv=>whnf);refine ze rfl  (zzl G0 lo) ?_;(refine za ?_;conv=>whnf);refine zjr (n:=14) (kk:=1) rfl ?_;refine zg [2,4,7,9,11,12,13,14,15,16] ?_;have hN0:(hi-lo).toNat<=36525:=by omega
 refine xc (σ:=Nat × Int × List ByteArray × zag) (fun y=>[(2,.ptr 0 0),(4,.ptr 1 0),(7,.imm (zi l)),(9,.imm (qh ls)),(11,sI lo),(12,sI hi),(13,.imm (ye es)),(14,.asl 3 1 (y.2.2.1.map fun g=>[dS g])),(15,.ptr 2 0),(16,sI y.2.1)])
  (fun y=>[zav c,.cells jc,.cells [sI y.2.2.2.1,sI y.2.2.2.2.1,sI y.2.2.2.2.2.1,sI y.2.2.2.2.2.2.1,sI y.2.2.2.2.2.2.2],.tok 1 (y.2.2.1.map fun g=>[dS g]).length])
  (fun y=>y.1=(hi-y.2.1).toNat/\lo<=y.2.1/\zix es ls (hi-lo).toNat lo []=zix es ls y.1 y.2.1 y.2.2.1/\yyq lo y.2.1 y.2.2.2/\y.2.2.1.length+y.1<=36525) (fun y=>y.1) ?_ ((hi-lo).toNat,lo,[],yf lo) ⟨rfl,Int.le_refl _,rfl,.inl ⟨rfl,rfl⟩,by simpa using hN0⟩
 rintro ⟨n,day,failed,p⟩ ⟨i1,i2,i3,i4,i5⟩ ih;simp only at i1 i2 i3 i4 i5;have hres0:=hres;rw [i3] at hres;obtain ⟨p0,p1,p2,p3,p4⟩:=p
 try simp only at ih
 change SW E _ [(2,.ptr 0 0),(4,.ptr 1 0),(7,.imm (zi l)),(9,.imm (qh ls)),(11,sI lo),(12,sI hi),(13,.imm (ye es)),(14,.asl 3 1 (failed.map fun g=>[dS g])),(15,.ptr 2 0),(16,sI day)]
  [zav c,.cells jc,.cells [sI p0,sI p1,sI p2,sI p3,sI p4],.tok 1 (failed.map fun g=>[dS g]).length]
 by_cases hlt:day<hi
 case neg=>
  have hn0:n=0:=by omega
  subst hn0;have hr0:res=none:=hres;rw [hr0] at hK;(refine zf ?_;conv=>whnf)
  repeat' ((with_reducible refine way ?_ ?_)<;>(intro h;conv=>whnf))
  all_goals try (exfalso;omega)
  exact hK _
 obtain ⟨n',rfl⟩:∃n',n=n'+1:=⟨n-1,by omega⟩;rw [ymu] at hres;have hwd:IntKind.i64.wrap (day+1)=day+1:=yz (by omega) (by omega)
 apply yrn (T:=[(2,.ptr 0 0),(4,.ptr 1 0),(7,.imm (zi l)),(9,.imm (qh ls)),(11,sI lo),(12,sI hi),(13,.imm (ye es)),(14,.asl 3 1 (failed.map fun g=>[dS g])),(15,.ptr 2 0),(16,sI day),(17,sS ⟨([]:List UInt8).toArray⟩),(18,sI 0)])
  (H:=fun q:zag=>[zav c,.cells jc,.cells [sI q.1,sI q.2.1,sI q.2.2.1,sI q.2.2.2.1,sI q.2.2.2.2],.tok 1 (failed.map fun g=>[dS g]).length]) (x:=yf day)
 case h1=>
  intro key;rcases i4 with ⟨rfl,hp⟩|⟨hlo,hp⟩
  ·(refine zf ?_;conv=>whnf)
   repeat' ((with_reducible refine way ?_ ?_)<;>(intro h;conv=>whnf))
   all_goals try (exfalso;omega)
   refine zg [2,4,7,9,11,12,13,14,15,16,17,18] ?_;exact key _ hp
  ·have ht:=zvd G0 (day-1) (by omega)
   rw [show day-1+1=day by omega, <-hp] at ht;(refine zf ?_;conv=>whnf)
   repeat' ((with_reducible refine way ?_ ?_)<;>(intro h;conv=>whnf))
   all_goals try (exfalso;omega)
   refine ze rfl  ht ?_;(refine za ?_;conv=>whnf);refine zg [2,4,7,9,11,12,13,14,15,16,17,18] ?_;exact key (yf day) rfl
 case h2=>
  have hm1:=hmk day;obtain ⟨xf,hx1,hx2,hx3⟩:=hfd day;have hsat:zva es day=fun w=>es.all (holdsE (yf day) w):=rfl
  rw [hsat] at hres;rw [show ls.drop ([]:List Int).length=ls from rfl] at hx1 hx3;unfold yyp at hx1;obtain ⟨q,hq⟩:∃q,yf day=q:=⟨_,rfl⟩;rw [hq] at hres hm1 hx1 hx3 ⊢;obtain ⟨q0,q1,q2,q3,q4⟩:=q;have hsz:=zzx (q0,q1,q2,q3,q4) es;have hez:yb es<=400*es.length:=by
   have:∀es:List Ex,(∀e∈es,yx e<=400)->yb es<=400*es.length:=by
    intro es
    induction es with
    |nil=>intro _;simp [yb]
    |cons e r ih=>intro h;have h1:=h e (by simp);have h2:=ih fun x hx=>h x (by simp [hx]);simp only [yb,List.length_cons];omega
   exact this es hesz
  refine zo es (fun i (a:List UInt8)=>[(2,.ptr 0 0),(4,.ptr 1 0),(7,.imm (zi l)),(9,.imm (qh ls)),(11,sI lo),(12,sI hi),(13,.imm (ye es)),(14,.asl 3 1 (failed.map fun g=>[dS g])),(15,.ptr 2 0),(16,sI day),(17,sS ⟨a.toArray⟩),(18,sI i)]) (fun _ _=>[zav c,.cells jc,.cells [sI q0,sI q1,sI q2,sI q3,sI q4],.tok 1 (failed.map fun g=>[dS g]).length]) (fun done _ a=>a=jd (q0,q1,q2,q3,q4) done) [] rfl ?_ ?_
  ·rintro a h2
   have hk:(⟨a.toArray⟩:ByteArray)=ydr (q0,q1,q2,q3,q4) es:=by rw [h2];rfl
   rw [<-hk] at hres;obtain ⟨g,hg⟩:∃g:ByteArray,(⟨a.toArray⟩:ByteArray)=g:=⟨_,rfl⟩;rw [hg] at hres hk ⊢;have hseen:=zlx (ygq G0 failed g (by omega)) (args:=[.asl 3 1 (failed.map fun g=>[dS g]),sS g]) (.cons (SV.Is.asl _ _ _) (.cons (SV.Is.refl _) .nil));(refine zf ?_;conv=>whnf)
   repeat' ((with_reducible refine way ?_ ?_)<;>(intro h;conv=>whnf))
   all_goals try (exfalso;omega)
   refine ze rfl  hseen ?_
   by_cases hm:g∈failed
   ·rw [if_pos hm] at hres
    rw [decide_eq_true hm];(refine za ?_;conv=>whnf);rw [hwd];refine zg [2,4,7,9,11,12,13,14,15,16] ?_;exact ih (n',day+1,failed,(q0,q1,q2,q3,q4)) ⟨by simp only;omega,by simp only;omega,hres0.symm.trans hres,.inr ⟨by simp only;omega,by simp only;rw [show day+1-1=day by omega];exact hq.symm⟩,by simp only;omega⟩ (Nat.lt_succ_self _)
   ·rw [if_neg hm] at hres
    rw [decide_eq_false hm];(refine za ?_;conv=>whnf);have hx3:=zlx hx3 (args:=[.imm (ye es),yfy (q0,q1,q2,q3,q4),.imm (qh ls),.imm (.val (.slice none 0 0))]) (.cons (SV.Is.refl _) (.cons (SV.Is.refl _) (.cons (SV.Is.refl _) (.cons (SV.Is.nil 1) .nil))));cases hfg:jq (fun w=>es.all (holdsE (q0,q1,q2,q3,q4) w)) ls [] with
    |none=>
     rw [hfg] at hx3 hres;simp only at hres;refine ze rfl  hx3 ?_;have e5:(failed.map fun g=>[dS g])++[[dS g]]=(failed++[g]).map fun g=>[dS g]:=by simp
     have e6:(failed.map fun g=>[dS g]).length+[[dS g]].length=((failed++[g]).map fun g=>[dS g]).length:=by simp
     rcases hx2 with rfl|⟨w,rfl⟩
     all_goals (refine za ?_;conv=>whnf)
     all_goals refine wm (b:=3) (kk:=1) (rows:=failed.map fun g=>[dS g]) (new:=[[dS g]]) rfl ⟨show 16<=65536 by decide,rfl⟩ rfl (by rw [List.length_map];simp only [List.length_cons,List.length_nil];omega) ?_
     all_goals refine Eq.mpr (congrArg (fun v=>SWr E _ _ _ (wz _ _ (.asl 3 1 v)) _) e5) ?_
     all_goals refine Eq.mpr (congrArg (fun v=>SWr E _ _ _ _ (List.set _ 3 (.tok 1 v))) e6) ?_
     all_goals (refine za ?_;conv=>whnf)
     all_goals rw [hwd]
     all_goals refine zg [2,4,7,9,11,12,13,14,15,16] ?_
     all_goals exact ih (n',day+1,failed++[g],(q0,q1,q2,q3,q4)) ⟨by simp only;omega,by simp only;omega,hres0.symm.trans hres,.inr ⟨by simp only;omega,by simp only;rw [show day+1-1=day by omega];exact hq.symm⟩,by simp only [List.length_append,List.length_cons,List.length_nil];omega⟩ (Nat.lt_succ_self _)
    |some v=>
     have hxe:=hx1 v hfg;subst hxe;rw [hfg] at hx3 hres;simp only at hres;rw [hres] at hK;refine ze rfl  hx3 ?_;(refine za ?_;conv=>whnf);refine zg [4,9,21,22] ?_;refine zkz 4 1 1 (cs:=[sI day,zdp,.imm (zi v),.imm (zi l)]) rfl rfl ?_;change SW E _ [(4,.ptr 1 0),(9,.imm (qh ls)),(21,.ptr 4 0),(22,sI 0)] [zav c,.cells jc,.cells [sI q0,sI q1,sI q2,sI q3,sI q4],.tok 1 (failed.map fun g=>[dS g]).length,.cells [sI day,.asl 5 1 [],.imm (zi v),.imm (zi l)],.tok 1 0];refine zo ls (fun i (_:List Bool)=>[(4,.ptr 1 0),(9,.imm (qh ls)),(21,.ptr 4 0),(22,sI i)]) (fun _ hs=>[zav c,.cells jc,.cells [sI q0,sI q1,sI q2,sI q3,sI q4],.tok 1 (failed.map fun g=>[dS g]).length,.cells [sI day,.asl 5 1 (hs.map fun b=>[dB b]),.imm (zi v),.imm (zi l)],.tok 1 (hs.map fun b=>[dB b]).length]) (fun done _ hs=>hs=done.map fun x=>decide (0<x.length)) [] rfl ?_ ?_
     ·rintro hs h3
      rw [<-h3] at hK;refine zay ?_;change SW E _ [(4,.ptr 1 0),(9,.imm (qh ls)),(21,.ptr 4 0),(22,sI ls.length)] [zav c,.cells jc,.cells [sI q0,sI q1,sI q2,sI q3,sI q4],.tok 1 (failed.map fun g=>[dS g]).length,.cells [sI day,.imm (qu hs),.imm (zi v),.imm (zi l)],.tok 1 (hs.map fun b=>[dB b]).length];(refine zf ?_;conv=>whnf)
      repeat' ((with_reducible refine way ?_ ?_)<;>(intro h;conv=>whnf))
      all_goals try (exfalso;omega)
      exact hK _
     ·rintro done x rest hs hda hdl h3 ih3
      have hw:=zk (n:=done.length) (by omega);have hrx:(ls.map fun l=>[zi l])[done.length]?=some [zi x]:=by simp [hda]
      have hxm:(x.map fun n=>[dI n]).length=x.length:=by simp
      have hhl:hs.length=done.length:=by rw [h3];simp
      obtain ⟨b,hb2⟩:∃b,decide (0<x.length)=b:=⟨_,rfl⟩;have hb3:decide ((0:Int)<((x.map fun n=>[dI n]).length:Int))=b:=by rw [<-hb2,hxm,decide_eq_decide];omega
      have hend:=ih3 (hs++[b]) (by rw [List.map_append, <-h3, <-hb2];rfl);have e5:(hs.map fun b=>[dB b])++[[dB b]]=(hs++[b]).map fun b=>[dB b]:=by simp
      rw [<-e5] at hend;(refine zf ?_;conv=>whnf)
      repeat' ((with_reducible refine way ?_ ?_)<;>(intro h;conv=>whnf))
      all_goals try (exfalso;omega)
      refine zu 0 mixed rfl ?_;(refine zb [777,107] (nx:=6) ?_;conv=>whnf);refine zt (i:=done.length) (row:=[zi x]) rfl (show 6<=6 by decide) rfl hrx ?_;(refine zb [777,110] (nx:=6) ?_;conv=>whnf);refine qp ⟨sB (decide ((0:Int)<((x.map fun n=>[dI n]).length:Int))),[],none⟩ rfl rfl (show 6<=6 by decide) (fun _ _ _=>rfl) ?_;rw [hb3];(refine zb [777,112] (nx:=6) ?_;conv=>whnf);refine zfo (b:=5) (kk:=1) (rows:=hs.map fun b=>[dB b]) (new:=[[dB b]]) rfl rfl rfl rfl rfl rfl rfl rfl rfl rfl ⟨show 1<=65536 by decide,rfl⟩ (show 6<=6 by decide) rfl (by rw [List.length_map];simp only [List.length_cons,List.length_nil];omega) ?_;(refine zb [777,999] (nx:=6) ?_;conv=>whnf);refine zfw (b:=4) (off:=1) (v:=.asl 5 1 ((hs.map fun b=>[dB b])++[[dB b]])) (zz:=.asl 5 1 (hs.map fun b=>[dB b])) (d:=[sI day]) (r:=[.imm (zi v),.imm (zi l)]) rfl rfl rfl rfl rfl rfl rfl rfl (show 6<=6 by decide) rfl rfl ?_;refine qt (by kernel_rfl) ?_;(refine zf ?_;conv=>whnf);rw [hw];exact zg [4,9,21,22] hend
  ·rintro done x rest a hda hdl h2 ih2
   have hw:=zk (n:=done.length) (by omega);have hx:=hm1 x (by rw [hda];simp);have hrx:(es.map Ex.cells)[done.length]?=some x.cells:=by simp [hda]
   have hs2:=hsz;rw [hda,zdk,List.length_append,jd,List.length_append] at hs2;have hlen2:yb es<=40000000:=by omega
   rw [<-hda] at hs2;have hsn:a++zah (q0,q1,q2,q3,q4) x=jd (q0,q1,q2,q3,q4) (done++[x]):=by rw [zdk,h2];simp [jd]
   have hap:=ydu a (zah (q0,q1,q2,q3,q4) x);have hal2:a.length+(zah (q0,q1,q2,q3,q4) x).length<=40000000:=by rw [h2];omega
   have hih:=ih2 (a++zah (q0,q1,q2,q3,q4) x) hsn;generalize zah (q0,q1,q2,q3,q4) x=y at*;rw [<-hap] at hih;obtain ⟨xop,xn,xu,xden,xps,xks⟩:=x;(refine zf ?_;conv=>whnf)
   repeat' ((with_reducible refine way ?_ ?_)<;>(intro h;conv=>whnf))
   all_goals try (exfalso;omega)
   (refine zu 0 mixed rfl ?_;refine zb [777] (nx:=4) ?_;conv=>whnf);refine zt (i:=done.length) (row:=[dI xop,dI xn,dS xu,dI xden,.isl 3 (xps.map Piece.cells),.isl 6 (zd xks)]) rfl (show 4<=4 by decide) rfl hrx ?_;(refine zb [777] (nx:=4) ?_;conv=>whnf);refine yi rfl (show 4<=4 by decide) hx ?_
   refine yrl rfl rfl rfl rfl rfl (show 4<=4 by decide) (by
    show a.toArray.size+y.toArray.size<=_;simp
    omega) ?_
   (refine zb [777,17] (nx:=4) ?_;conv=>whnf);refine qp ⟨.imm (.val (.string (⟨a.toArray⟩++⟨y.toArray⟩))),[],none⟩ rfl rfl (show 4<=4 by decide) (fun _ _ _=>rfl) ?_;refine qt (by kernel_rfl) ?_;(refine zf ?_;conv=>whnf);rw [hw];exact zg [2,4,7,9,11,12,13,14,15,16,17,18] hih
structure SmallC (c:Codex):Prop where
 facts:c.facts.length<=12
 arts:c.arts.length<=12
 lines:c.lines.length<=9223372036854775807
 when_:∀a∈c.arts,a.when_.length<=41/\a.unless_.length<=80
theorem SmallC.fit {c:Codex} (h:SmallC c):Codex.fit c:=fun a ha=>by have:=h.when_ a ha;omega
theorem SmallC.search {c:Codex} (h:SmallC c) (ho:zv c=true):SearchC c:=zpy ho h.facts h.when_
theorem zqo (c:Codex) (hS:SmallC c) (vs:List Int) (hz:vs.length<=1000):
  zw Tryz.prog G0 12 [c.sv,.imm (zi vs)] (ylw (yg c vs)):=by
 refine zao ?_ (yco _);have hA:=hS.arts;have hFc:=hS.facts;have hlc:=hS.lines;have hw:∀a∈c.arts,a.when_.length<=41:=fun a ha=>(hS.when_ a ha).1
 have hV:=zaw G0 c (by omega) hlc (by omega) hS.fit;rw [zlw] at hV;cases hb:zv c with
 |false=>
  rw [hb] at hV;rw [ygr hb];refine zc Tryz.func12 rfl (by rw [Tryz.ntmps12];simp) rfl rfl ?_;intro E hH hK;rw [show c.sv= .agg [.imm (zj c.facts),.imm (zj c.lines),.imm (yl c.arts)] from rfl];(refine zf ?_;conv=>whnf);refine ze rfl  hV ?_;(refine za ?_;conv=>whnf);exact hK _
 |true=>
  rw [hb] at hV;have hL:=zuu G0 c vs (by omega) (by omega);unfold zrg at hL;cases hin:vs.all (zdj c) with
  |false=>
   rw [hin,if_neg (by simp)] at hL;rw [zuv hin];refine zc Tryz.func12 rfl (by rw [Tryz.ntmps12];simp) rfl rfl ?_;intro E hH hK;rw [show c.sv= .agg [.imm (zj c.facts),.imm (zj c.lines),.imm (yl c.arts)] from rfl];(refine zf ?_;conv=>whnf);refine ze rfl  hV ?_;(refine za ?_;conv=>whnf);refine ze rfl  hL ?_;(refine za ?_;conv=>whnf);exact hK _
  |true=>
   have hv:=zxn hin;cases hc:zgi c (zr vs) with
   |true=>exact ytw c hb hFc hw hS.fit ⟨by omega,hlc,by omega⟩ vs hz hv hin hc
   |false=>
    rw [(zqd hb hFc hw hv).1 hc];rw [hin,if_pos rfl] at hL;have hll:=ydq c vs;obtain ⟨sl,hC,hsl⟩:=zxm (G:=G0) c hb hFc hw (zed c vs) (by omega) ydb;rw [zzq hv,hc] at hC;rw [zzq hv] at hL;generalize zr vs=l at hL hC;rcases hsl with rfl|⟨ls,rfl⟩
    all_goals
     refine zc Tryz.func12 rfl (by rw [Tryz.ntmps12];simp) rfl rfl ?_;intro E hH hK;rw [show c.sv= .agg [.imm (zj c.facts),.imm (zj c.lines),.imm (yl c.arts)] from rfl];(refine zf ?_;conv=>whnf);refine ze rfl  hV ?_;(refine za ?_;conv=>whnf);refine ze rfl  hL ?_;(refine za ?_;conv=>whnf);refine ze rfl  hC ?_;(refine za ?_;conv=>whnf);exact hK _
variable (G:List (Nat × D))
theorem ydv (op n:Int) (u:ByteArray) (den:Int) (ps:List Piece) (ks:List Ex) (x:Int) (hz:ks.length<=1000000)
  (hk:∀k∈ks,zw Tryz.prog G 111 [k.sv,sI x] (sB (decide (x∈qn k)))):zw Tryz.prog G 111 [(Ex.mk op n u den ps ks).sv,sI x] (sB (decide (x∈qn (.mk op n u den ps ks)))):=by
 have hlen:(zd ks).length=ks.length:=by rw [zp];simp
 have hm:qn (.mk op n u den ps ks)=(if op=3 then [n] else [])++yr ks:=by rw [qn]
 have hap:∀a b:List Ex,yr (a++b)=yr a++yr b:=by
  intro a
  induction a with
  |nil=>intro b;rfl
  |cons y r ih=>intro b;rw [List.cons_append,yr,yr,ih,List.append_assoc]
 by_cases h3:op=3/\n=x
 ·rw [show decide (x∈qn (.mk op n u den ps ks))=true from decide_eq_true (by rw [hm,if_pos h3.1,h3.2];simp)]
  refine zc Tryz.func111 rfl (by rw [Tryz.ntmps111];simp) rfl rfl ?_;intro E hH hK;(refine zf ?_;conv=>whnf)
  repeat' ((with_reducible refine way ?_ ?_)<;>(intro h;conv=>whnf))
  all_goals try (exfalso;omega)
  exact hK _
 ·have hd:decide (x∈qn (.mk op n u den ps ks))=decide (x∈yr ks):=by
   rw [hm,decide_eq_decide]
   by_cases ho:op=3
   ·rw [if_pos ho]
    have:x≠n:=fun e=>h3 ⟨ho,e.symm⟩
    simp [this]
   ·rw [if_neg ho];simp
  rw [hd];refine zc Tryz.func111 rfl (by rw [Tryz.ntmps111];simp) rfl rfl ?_;intro E hH hK
  apply zsa (T:=fun _:Unit=>[(1,sI x),(2,.ptr 0 0),(5,sI 0)]) (H:=[.cells [sI op,sI n,sS u,sI den,.imm (.isl 3 (ps.map Piece.cells)),.imm (.isl 6 (zd ks))]]) (x:=())
  case h1=>
   intro key;(refine zf ?_;conv=>whnf)
   repeat' ((with_reducible refine way ?_ ?_)<;>(intro h;conv=>whnf))
   all_goals try (exfalso;omega)
   all_goals refine zg [1,2,5] ?_
   all_goals exact key () rfl
  case h2=>
   refine zo ks (fun i (_:Unit)=>[(1,sI x),(2,.ptr 0 0),(5,sI i)]) (fun _ _=>[.cells [sI op,sI n,sS u,sI den,.imm (.isl 3 (ps.map Piece.cells)),.imm (.isl 6 (zd ks))]])
    (fun done _ _=>x ∉ yr done) () (by simp [yr]) ?_ ?_
   ·rintro _ h2
    rw [decide_eq_false h2] at hK;(refine zf ?_;conv=>whnf)
    repeat' ((with_reducible refine way ?_ ?_)<;>(intro h;conv=>whnf))
    all_goals try (exfalso;omega)
    exact hK _
   ·rintro done y rest _ hda hdl h2 ih
    have hw:=zk (n:=done.length) (by omega);have hy:=hk y (by rw [hda];simp);have hry:(zd ks)[done.length]?=some y.cells:=by rw [zp];simp [hda]
    have hyes:x∈qn y->x∈yr ks:=fun h=>by rw [hda,hap,yr];simp [h]
    have hno:x ∉ qn y->x ∉ yr (done++[y]):=fun h=>by rw [hap];simp [yr,h2,h]
    obtain ⟨yop,yn,yu,yden,yps,yks⟩:=y;(refine zf ?_;conv=>whnf)
    repeat' ((with_reducible refine way ?_ ?_)<;>(intro h;conv=>whnf))
    all_goals try (exfalso;omega)
    refine zh (i:=done.length) (row:=[dI yop,dI yn,dS yu,dI yden,.isl 3 (yps.map Piece.cells),.isl 6 (zd yks)]) rfl rfl hry ?_;(refine za ?_;conv=>whnf);refine ze rfl  hy ?_
    by_cases hin:x∈qn (.mk yop yn yu yden yps yks)
    ·rw [decide_eq_true hin]
     rw [decide_eq_true (hyes hin)] at hK;(refine za ?_;conv=>whnf);exact hK _
    ·rw [decide_eq_false hin]
     (refine za ?_;conv=>whnf);rw [hw];exact zg [1,2,5] (ih () (hno hin))
theorem zkt (x:Int):∀(N:Nat) (e:Ex),SizeOf.sizeOf e<N->yx e<=1000000->zw Tryz.prog G 111 [e.sv,sI x] (sB (decide (x∈qn e)))
 |0,_,h,_=>by omega
 |N+1,.mk op n u den ps ks,hN,hz=>by
  simp only [Ex.mk.sizeOf_spec] at hN;rw [yx] at hz;have hle:=zch ks;have hsub:∀(ks:List Ex) (k:Ex),k∈ks->SizeOf.sizeOf k<1+SizeOf.sizeOf ks/\yx k<=yb ks:=by
   intro ks
   induction ks with
   |nil=>intro k h;cases h
   |cons a r ih=>
    intro k h;simp only [List.cons.sizeOf_spec,yb];rcases List.mem_cons.1 h with rfl|h
    ·omega
    ·have:=ih k h;omega
  exact ydv G op n u den ps ks x (by omega) fun k hk=>by
   have:=hsub ks k hk;exact zkt x N k (by omega) (by omega)
theorem zzy (c:Codex) (hc:BeatC c) (hex:∀a∈c.arts,(∀e∈a.when_,yx e<=1000000)/\yx a.amount<=1000000) (hun:∀a∈c.arts,a.unless_.length<=1000000/\a.when_.length<=1000000) {i j:Int} (hi:0<=i/\i<c.arts.length) (hj:0<=j/\j<c.arts.length)
  {a b:Article} (ha:c.arts[i.toNat]?=some a) (hb:c.arts[j.toNat]?=some b):zw Tryz.prog G 79 [c.sv,sI i,sI j] (sB (decide (b.number∈jv a\/qk c j i=true))):=by
 have hal:(c.arts.map Article.cells).length=c.arts.length:=by simp
 have hz:=hc.arts;have hB:=zks G c hc j i hj hi;have ham:=List.mem_of_getElem? ha;have hM:=zkt G b.number _ a.amount (Nat.lt_succ_self _) (hex a ham).2;have hW:=fun e (he:e∈a.when_)=>zkt G b.number _ e (Nat.lt_succ_self _) ((hex a ham).1 e he)
 obtain ⟨hul,hwl⟩:=hun a ham;have hwm:(a.when_.map Ex.cells).length=a.when_.length:=by simp
 have hum:(a.unless_.map fun n=>[dI n]).length=a.unless_.length:=by simp
 obtain ⟨op,n,u,den,ps,ks,hamt⟩:=jo a;obtain ⟨op',n',u',den',ps',ks',hbmt⟩:=jo b;have hra:=zgr c ha hamt;have hrb:=zgr c hb hbmt;have hN:decide (b.number∈jv a\/qk c j i=true)=(decide (b.number∈qn a.amount)||qk c j i||decide (b.number∈yr a.when_)||decide (b.number∈a.unless_)):=by
  rw [Bool.eq_iff_iff];simp only [decide_eq_true_eq,Bool.or_eq_true,jv,List.mem_append];constructor
  ·rintro (((h|h)|h)|h)
   ·exact .inr h
   ·exact .inl (.inr h)
   ·exact .inl (.inl (.inl h))
   ·exact .inl (.inl (.inr h))
  ·rintro (((h|h)|h)|h)
   ·exact .inl (.inr h)
   ·exact .inr h
   ·exact .inl (.inl (.inr h))
   ·exact .inl (.inl (.inl h))
 rw [hN];rw [hamt] at hM;rw [hamt];generalize decide (b.number∈qn (.mk op n u den ps ks))=z1 at hM;generalize qk c j i=z2 at hB;refine zc Tryz.func79 rfl (by rw [Tryz.ntmps79];simp) rfl rfl ?_;intro E hH hK;rw [show c.sv= .agg [.imm (zj c.facts),.imm (zj c.lines),.imm (yl c.arts)] from rfl];(refine zf ?_;conv=>whnf);refine zh (i:=i.toNat) (row:=[dI a.number,dI a.line,dI a.rank,dI a.lo,dI a.hi,dI a.known,ye a.when_,zi a.unless_,dI op,dI n,dS u,dI den,.isl 3 (ps.map Piece.cells),.isl 6 (zd ks)]) rfl (Int.toNat_of_nonneg hi.1).symm hra ?_;(refine za ?_;conv=>whnf);refine zh (i:=j.toNat) (row:=[dI b.number,dI b.line,dI b.rank,dI b.lo,dI b.hi,dI b.known,ye b.when_,zi b.unless_,dI op',dI n',dS u',dI den',.isl 3 (ps'.map Piece.cells),.isl 6 (zd ks')]) rfl (Int.toNat_of_nonneg hj.1).symm hrb ?_;(refine za ?_;conv=>whnf);refine ze rfl  hM ?_;cases z1 with
 |true=>
  (refine za ?_;conv=>whnf);exact hK _
 |false=>
 (refine za ?_;conv=>whnf);refine ze rfl  hB ?_;cases z2 with
 |true=>
  (refine za ?_;conv=>whnf);exact hK _
 |false=>
 rw [Bool.false_or,Bool.false_or] at hK;have hap:∀a b:List Ex,yr (a++b)=yr a++yr b:=by
  intro a
  induction a with
  |nil=>intro b;rfl
  |cons y r ih=>intro b;rw [List.cons_append,yr,yr,ih,List.append_assoc]
 (refine za ?_;conv=>whnf);refine zg [7,8,9] ?_;change SW E _ [(7,.ptr 1 0),(8,sI b.number),(9,sI 0)] [.cells [.imm (zj c.facts),.imm (zj c.lines),.imm (yl c.arts)],.cells [sI a.number,sI a.line,sI a.rank,sI a.lo,sI a.hi,sI a.known,.imm (ye a.when_),.imm (zi a.unless_),sI op,sI n,sS u,sI den,.imm (.isl 3 (ps.map Piece.cells)),.imm (.isl 6 (zd ks))]];refine zo a.when_ (fun i (_:Unit)=>[(7,.ptr 1 0),(8,sI b.number),(9,sI i)]) (fun _ _=>[.cells [.imm (zj c.facts),.imm (zj c.lines),.imm (yl c.arts)],.cells [sI a.number,sI a.line,sI a.rank,sI a.lo,sI a.hi,sI a.known,.imm (ye a.when_),.imm (zi a.unless_),sI op,sI n,sS u,sI den,.imm (.isl 3 (ps.map Piece.cells)),.imm (.isl 6 (zd ks))]]) (fun done _ _=>b.number ∉ yr done) () (by simp [yr]) ?_ ?_
 ·rintro _ h2
  rw [decide_eq_false h2,Bool.false_or] at hK;(refine zf ?_;conv=>whnf)
  repeat' ((with_reducible refine way ?_ ?_)<;>(intro h;conv=>whnf))
  all_goals try (exfalso;omega)
  refine zg [7,8,10] ?_;change SW E _ [(7,.ptr 1 0),(8,sI b.number),(10,sI 0)] [.cells [.imm (zj c.facts),.imm (zj c.lines),.imm (yl c.arts)],.cells [sI a.number,sI a.line,sI a.rank,sI a.lo,sI a.hi,sI a.known,.imm (ye a.when_),.imm (zi a.unless_),sI op,sI n,sS u,sI den,.imm (.isl 3 (ps.map Piece.cells)),.imm (.isl 6 (zd ks))]];refine zo a.unless_ (fun i (_:Unit)=>[(7,.ptr 1 0),(8,sI b.number),(10,sI i)]) (fun _ _=>[.cells [.imm (zj c.facts),.imm (zj c.lines),.imm (yl c.arts)],.cells [sI a.number,sI a.line,sI a.rank,sI a.lo,sI a.hi,sI a.known,.imm (ye a.when_),.imm (zi a.unless_),sI op,sI n,sS u,sI den,.imm (.isl 3 (ps.map Piece.cells)),.imm (.isl 6 (zd ks))]]) (fun done _ _=>b.number ∉ done) () (by simp) ?_ ?_
  ·rintro _ h3
   rw [decide_eq_false h3] at hK;(refine zf ?_;conv=>whnf)
   repeat' ((with_reducible refine way ?_ ?_)<;>(intro h;conv=>whnf))
   all_goals try (exfalso;omega)
   exact hK _
  ·rintro done y rest _ hda hdl h3 ih
   have hw:=zk (n:=done.length) (by omega);have hry:(a.unless_.map fun n=>[dI n])[done.length]?=some [dI y]:=by simp [hda]
   (refine zf ?_;conv=>whnf)
   repeat' ((with_reducible refine way ?_ ?_)<;>(intro h;conv=>whnf))
   all_goals try (exfalso;omega)
   refine zh (i:=done.length) (row:=[dI y]) rfl rfl hry ?_;(refine za ?_;conv=>whnf)
   repeat' ((with_reducible refine way ?_ ?_)<;>(intro h;conv=>whnf))
   ·rw [decide_eq_true (show b.number∈a.unless_ by rw [hda, <-h];simp)] at hK
    exact hK _
   ·rw [hw]
    refine zg [7,8,10] (ih () fun hm=>?_);rcases List.mem_append.1 hm with hm|hm
    ·exact h3 hm
    ·simp at hm;exact h hm.symm
 ·rintro done y rest _ hda hdl h2 ih
  have hw:=zk (n:=done.length) (by omega);have hy:=hW y (by rw [hda];simp);have hry:(a.when_.map Ex.cells)[done.length]?=some y.cells:=by simp [hda]
  have hyes:b.number∈qn y->b.number∈yr a.when_:=fun h=>by rw [hda,hap,yr];simp [h]
  have hno:b.number ∉ qn y->b.number ∉ yr (done++[y]):=fun h=>by rw [hap];simp [yr,h2,h]
  obtain ⟨yop,yn,yu,yden,yps,yks⟩:=y;(refine zf ?_;conv=>whnf)
  repeat' ((with_reducible refine way ?_ ?_)<;>(intro h;conv=>whnf))
  all_goals try (exfalso;omega)
  refine zh (i:=done.length) (row:=[dI yop,dI yn,dS yu,dI yden,.isl 3 (yps.map Piece.cells),.isl 6 (zd yks)]) rfl rfl hry ?_;(refine za ?_;conv=>whnf);refine ze rfl  hy ?_
  by_cases hin:b.number∈qn (.mk yop yn yu yden yps yks)
  ·rw [decide_eq_true hin]
   rw [decide_eq_true (hyes hin),Bool.true_or] at hK;(refine za ?_;conv=>whnf);exact hK _
  ·rw [decide_eq_false hin]
   (refine za ?_;conv=>whnf);rw [hw];exact zg [7,8,9] (ih () (hno hin))
theorem zxp (c:Codex) (names:List Int) (v:Int):∀(l r:List Article) (i:Nat),zac c names v (l++r) i=zac c names v l i++zac c names v r (i+l.length)
 |[],r,i=>by simp [zac]
 |a::l,r,i=>by
  rw [List.cons_append,zac,zac,zxp c names v l r (i+1),List.append_assoc,List.length_cons,show i+1+l.length=i+(l.length+1) by omega]
theorem ydw (c:Codex) (hS:SmallC c) (hb:zv c=true) (i:Int) (hi:0<=i/\i<c.arts.length):zw Tryz.prog G0 49 [c.sv,sI i] (.imm (zi (xe c i))):=by
 have hal:(c.arts.map Article.cells).length=c.arts.length:=by simp
 have hA:=hS.arts;have hFc:=hS.facts;have hlc:=hS.lines;have hV:=zaw G0 c (by omega) hlc (by omega) hS.fit;rw [zlw,hb] at hV;have hBC:BeatC c:=⟨by omega,fun a ha=>by have:=hS.when_ a ha;omega,(hS.search hb).need.exs⟩;obtain ⟨_,_,m',hm',h4⟩:=qr hb;obtain ⟨a,ha⟩:∃a,c.arts[i.toNat]?=some a:=⟨_,List.getElem?_eq_getElem (by omega)⟩;have hai:qj c i=some a:=by unfold qj;rw [if_neg (by omega)];exact ha
 have hN:xe c i=zac c (jv a) i c.arts 0:=by unfold xe;rw [hai]
 rw [hN];refine zc Tryz.func49 rfl (by rw [Tryz.ntmps49];simp) rfl rfl ?_;intro E hH hK;rw [show c.sv= .agg [.imm (zj c.facts),.imm (zj c.lines),.imm (yl c.arts)] from rfl];(refine zf ?_;conv=>whnf)
 repeat' ((with_reducible refine way ?_ ?_)<;>(intro h;conv=>whnf))
 all_goals try (exfalso;omega)
 refine ze rfl  hV ?_;(refine za ?_;conv=>whnf);refine zjr (n:=5) (kk:=1) rfl ?_;refine zg [1,2,5,6] ?_;change SW E _ [(1,sI i),(2,.ptr 0 0),(5,.asl 1 1 []),(6,sI 0)] [zav c,.tok 1 0];refine zo c.arts (fun k (l:List Int)=>[(1,sI i),(2,.ptr 0 0),(5,.asl 1 1 (l.map fun n=>[dI n])),(6,sI k)]) (fun _ l=>[zav c,.tok 1 (l.map fun n=>[dI n]).length])
  (fun done _ l=>l=zac c (jv a) i done 0) [] rfl ?_ ?_
 ·rintro l h2
  rw [<-h2] at hK;refine zay ?_;change SW E _ [(1,sI i),(2,.ptr 0 0),(5,.imm (zi l)),(6,sI c.arts.length)] _;(refine zf ?_;conv=>whnf)
  repeat' ((with_reducible refine way ?_ ?_)<;>(intro h;conv=>whnf))
  all_goals try (exfalso;omega)
  exact hK _
 ·rintro done x rest l hda hdl h2 ih
  have hw:=zk (n:=done.length) (by omega);have hx:c.arts[((done.length:Nat):Int).toNat]?=some x:=by simp [hda]
  have hnd:=zzy G0 c hBC (fun a ha=>⟨fun e he=>by have:=((h4 a ha).2.2.1 e he).2;omega,by have:=(h4 a ha).2.2.2.2;omega⟩) (fun a ha=>by have:=hS.when_ a ha;omega) hi (j:=(done.length:Int)) (by omega) ha hx;have hsn:zac c (jv a) i (done++[x]) 0=l++(if x.number∈jv a\/qk c done.length i=true then [(done.length:Int)] else []):=by
   rw [zxp, <-h2,Nat.zero_add,zac,zac,List.append_nil]
  have hll:l.length<=done.length:=by rw [h2];exact zpx _ _ _ _ _
  have e5:(l.map fun n=>[dI n])++[[dI done.length]]=(l++[(done.length:Int)]).map fun n=>[dI n]:=by simp
  have e6:(l.map fun n=>[dI n]).length+[[dI done.length]].length=((l++[(done.length:Int)]).map fun n=>[dI n]).length:=by simp
  (refine zf ?_;conv=>whnf)
  repeat' ((with_reducible refine way ?_ ?_)<;>(intro h;conv=>whnf))
  all_goals try (exfalso;omega)
  refine ze rfl  hnd ?_
  by_cases hin:x.number∈jv a\/qk c done.length i=true
  ·rw [decide_eq_true hin]
   rw [if_pos hin] at hsn;(refine za ?_;conv=>whnf);refine wm (b:=1) (kk:=1) (rows:=l.map fun n=>[dI n]) (new:=[[dI done.length]]) rfl ⟨show 8<=65536 by decide,rfl⟩ rfl (by rw [List.length_map];simp only [List.length_cons,List.length_nil];omega) ?_;refine Eq.mpr (congrArg (fun v=>SWr E _ _ _ (wz _ _ (.asl 1 1 v)) _) e5) ?_;refine Eq.mpr (congrArg (fun v=>SWr E _ _ _ _ (List.set _ 1 (.tok 1 v))) e6) ?_;(refine za ?_;conv=>whnf);rw [hw];exact zg [1,2,5,6] (ih _ hsn.symm)
  ·rw [decide_eq_false hin]
   rw [if_neg hin,List.append_nil] at hsn;(refine za ?_;conv=>whnf);rw [hw];exact zg [1,2,5,6] (ih l hsn.symm)
def relax (to i:Nat) (d:List Int) (x:Int):List Int:=
 if x=to then d.set i 1 else if (to:Int)<x then d.set i (min (d.getD i 0) (d.getD x.toNat 0+1)) else d
def zgy (nd:List (List Int)) (to:Nat) (d:List Int) (i:Nat):List Int:=(nd.getD i []).foldl (relax to i) d
def qo (nd:List (List Int)) (to:Nat) (d:List Int):List Int:=(List.range' to (nd.length-to)).foldl (zgy nd to) d
def qf (nd:List (List Int)) (to:Nat):List Int:=(List.range (nd.length+1)).foldl (fun d _=>qo nd to d) (List.replicate nd.length 1000)
inductive WalkA (E:Nat->Nat->Prop) (s:Nat):Nat->Nat->Prop
 |one {i:Nat}:E i s->WalkA E s i 1
 |step {i k L:Nat}:E i k->s<k->WalkA E s k L->WalkA E s i (L+1)
theorem WalkA.toB {E:Nat->Nat->Prop} {n s i L:Nat} (hE:∀i k,E i k->k<n) (h:WalkA E s i L):WalkB E n i s L:=by
 induction h with
 |one h=>exact .one h
 |step h _ _ ih=>exact .step h (hE _ _ h) ih
theorem WalkA.pos {E:Nat->Nat->Prop} {s i L:Nat} (h:WalkA E s i L):1<=L:=by cases h<;>omega
theorem yro {nd:List (List Int)} (hnd:yiz nd):∀i k,zjl nd i k->k<nd.length:=fun i k h=>by have:=hnd.2 i _ h;omega
structure VecN (n:Nat) (d:List Int):Prop where
 len:d.length=n
 low:∀i,i<n->1<=d.getD i 0
structure DecV (n:Nat) (d' d:List Int):Prop where
 vec:VecN n d'
 le:∀i,i<n->d'.getD i 0<=d.getD i 0
theorem DecV.refl {n:Nat} {d:List Int} (h:VecN n d):DecV n d d:=⟨h,fun _ _=>Int.le_refl _⟩
theorem DecV.trans {n:Nat} {a b c:List Int} (h:DecV n a b) (h':DecV n b c):DecV n a c:=⟨h.vec,fun i hi=>Int.le_trans (h.le i hi) (h'.le i hi)⟩
theorem zow {α:Type} {n:Nat} {f:List Int->α->List Int}:∀(l:List α) (_:∀d x,x∈l->VecN n d->DecV n (f d x) d) (d:List Int),VecN n d->DecV n (l.foldl f d) d
 |[],_,d,h=>.refl h
 |x::l,hf,d,h=>(zow l (fun d y hy=>hf d y (List.mem_cons_of_mem _ hy)) (f d x) (hf d x (by simp) h).vec).trans (hf d x (by simp) h)
theorem yjq {α:Type} {n:Nat} {f:List Int->α->List Int} {l:List α} (hf:∀d x,x∈l->VecN n d->DecV n (f d x) d) {d:List Int} (h:VecN n d) {x:α} (hx:x∈l):
  ∃d1,DecV n d1 d/\DecV n (l.foldl f d) (f d1 x):=by
 obtain ⟨a,b,rfl⟩:=List.append_of_mem hx;have h1:=zow a (fun d y hy=>hf d y (by simp [hy])) d h;refine ⟨_,h1,?_⟩;rw [List.foldl_append,List.foldl_cons];exact zow b (fun d y hy=>hf d y (by simp [hy])) _ (hf _ x (by simp) h1.vec).vec
theorem zly {d:List Int} {i j:Nat} {v:Int} (hj:j<d.length):(d.set i v).getD j 0=if i=j then v else d.getD j 0:=by
 rw [List.getD_eq_getElem?_getD,List.getD_eq_getElem?_getD,List.getElem?_set]
 by_cases h:i=j
 ·subst h;rw [if_pos rfl,if_pos hj,if_pos rfl];rfl
 ·rw [if_neg h,if_neg h]
theorem yrp {n i:Nat} {d:List Int} {v:Int} (h:VecN n d) (hv:1<=v/\v<=d.getD i 0):DecV n (d.set i v) d:=by
 refine ⟨⟨by simp [h.len],fun j hj=>?_⟩,fun j hj=>?_⟩
 ·rw [zly (by rw [h.len];exact hj)]
  split
  ·exact hv.1
  ·exact h.low j hj
 ·rw [zly (by rw [h.len];exact hj)]
  split
  ·rename_i e;rw [<-e];exact hv.2
  ·exact Int.le_refl _
section
variable {nd:List (List Int)} (hnd:yiz nd) {to:Nat} (hto:to<nd.length)
include hnd
theorem zvf {i:Nat} (hi:i<nd.length) (d:List Int) (x:Int) (hx:x∈nd.getD i []) (h:VecN nd.length d):DecV nd.length (relax to i d x) d:=by
 have hr:=hnd.2 i x hx;have h1:=h.low i hi;unfold relax;split
 ·exact yrp h ⟨by omega,h1⟩
 ·split
  ·have:=h.low x.toNat (by omega)
   exact yrp h ⟨by omega,by omega⟩
  ·exact .refl h
theorem ydx (d:List Int) (i:Nat) (hi:i<nd.length) (h:VecN nd.length d):DecV nd.length (zgy nd to d i) d:=zow _ (fun d x hx h=>zvf hnd hi d x hx h) d h
theorem yjr {d:List Int} (h:VecN nd.length d) {i:Nat} (hi:to<=i/\i<nd.length) {x:Nat} (hx:zjl nd i x):
  ∃d1,DecV nd.length d1 d/\DecV nd.length (qo nd to d) (relax to i d1 x):=by
 obtain ⟨d1,h1,h2⟩:=yjq (n:=nd.length) (f:=zgy nd to) (l:=List.range' to (nd.length-to)) (fun d i hi h=>ydx hnd d i (by have:=List.mem_range'_1.1 hi;omega) h) h (x:=i) (List.mem_range'_1.2 ⟨hi.1,by omega⟩);obtain ⟨d2,h3,h4⟩:=yjq (n:=nd.length) (f:=relax to i) (l:=nd.getD i []) (fun d x hx h=>zvf hnd hi.2 d x hx h) h1.vec (x:=(x:Int)) hx;exact ⟨d2,h3.trans h1,h2.trans h4⟩
def zvg (nd:List (List Int)) (to:Nat) (d:List Int):Prop:=VecN nd.length d/\∀i,i<nd.length->d.getD i 0<=1000/\(d.getD i 0<1000->∃L:Nat,WalkA (zjl nd) to i L/\d.getD i 0=L)
theorem ygs {i:Nat} (hi:i<nd.length) (d:List Int) (x:Int) (hx:x∈nd.getD i []) (h:zvg nd to d):zvg nd to (relax to i d x):=by
 refine ⟨(zvf hnd hi d x hx h.1).vec,fun j hj=>?_⟩;have hl:=h.1.len;have hr:=hnd.2 i x hx;have old:=h.2 j hj;unfold relax;split
 ·rename_i e
  rw [zly (by omega)];split
  ·rename_i e2
   subst e2;exact ⟨by omega,fun _=>⟨1,.one (by unfold zjl;rw [<-e];exact hx),rfl⟩⟩
  ·exact old
 ·split
  ·rename_i e
   rw [zly (by omega)];split
   ·rename_i e2
    subst e2;obtain ⟨h3,h4⟩:=h.2 x.toNat (by omega);rcases Int.le_total (d.getD i 0) (d.getD x.toNat 0+1) with g|g
    ·rw [Int.min_eq_left g]
     exact old
    ·rw [Int.min_eq_right g]
     refine ⟨by omega,fun hlt=>?_⟩;obtain ⟨L,w,hL⟩:=h4 (by omega);exact ⟨L+1,.step (k:=x.toNat) (by unfold zjl;rw [Int.toNat_of_nonneg hr.1];exact hx) (by omega) w,by rw [hL];rfl⟩
   ·exact old
  ·exact old
theorem ygt (d:List Int) (h:zvg nd to d):zvg nd to (qo nd to d):=
 xz (Q:=zvg nd to) _ (fun d i hi h=>xz (Q:=zvg nd to) _ (fun d x hx h=>ygs hnd (by have:=List.mem_range'_1.1 hi;omega) d x hx h) d h) d h
theorem ymv {r:Nat} (d:List Int) (h:VecN nd.length d) (hc:∀i,to<=i->i<nd.length->∀L,L<=r->WalkA (zjl nd) to i L->d.getD i 0<=L):
  ∀i,to<=i->i<nd.length->∀L,L<=r+1->WalkA (zjl nd) to i L->(qo nd to d).getD i 0<=L:=by
 intro i h1 h2 L hL hw;cases hw with
 |one he=>
  obtain ⟨d1,g1,g2⟩:=yjr hnd h ⟨h1,h2⟩ he;have:=g2.le i h2;unfold relax at this;rw [if_pos rfl,zly (by rw [g1.vec.len];exact h2),if_pos rfl] at this;exact this
 |@step _ k L he hk hw=>
  have hkn:=yro hnd _ _ he;obtain ⟨d1,g1,g2⟩:=yjr hnd h ⟨h1,h2⟩ he;have a1:=g2.le i h2;have a2:=g1.le k hkn;have a3:=hc k (by omega) hkn L (by omega) hw;unfold relax at a1;rw [if_neg (by omega),if_pos (by omega),zly (by rw [g1.vec.len];exact h2),if_pos rfl,Int.toNat_natCast] at a1;omega
theorem zqp:VecN nd.length (qf nd to)/\∀i,i<nd.length->(qf nd to).getD i 0<=1000/\((qf nd to).getD i 0<1000->∃L:Nat,WalkA (zjl nd) to i L/\(qf nd to).getD i 0=L)/\
  (to<=i->∀L,L<=nd.length+1->WalkA (zjl nd) to i L->(qf nd to).getD i 0<=L):=by
 have h0:∀i,i<nd.length->(List.replicate nd.length (1000:Int)).getD i 0=1000:=fun i hi=>by
  rw [List.getD_eq_getElem?_getD,List.getElem?_replicate,if_pos hi];rfl
 have key:∀r:Nat,zvg nd to ((List.range r).foldl (fun d _=>qo nd to d) (List.replicate nd.length 1000))/\
   ∀i,to<=i->i<nd.length->∀L,L<=r->WalkA (zjl nd) to i L->((List.range r).foldl (fun d _=>qo nd to d) (List.replicate nd.length 1000)).getD i 0<=L:=by
  intro r
  induction r with
  |zero=>
   refine ⟨⟨⟨by simp,fun i hi=>?_⟩,fun i hi=>?_⟩,fun i _ _ L hL hw=>?_⟩
   ·show 1<=(List.replicate nd.length (1000:Int)).getD i 0
    rw [h0 i hi];omega
   ·show (List.replicate nd.length (1000:Int)).getD i 0<=1000/\((List.replicate nd.length (1000:Int)).getD i 0<1000->_)
    rw [h0 i hi];exact ⟨by omega,fun h=>by omega⟩
   ·have:=hw.pos;omega
  |succ r ih=>
   rw [List.range_succ,List.foldl_append];exact ⟨ygt hnd _ ih.1,ymv hnd _ ih.1.1 ih.2⟩
 obtain ⟨⟨k1,k2⟩,k3⟩:=key (nd.length+1);exact ⟨k1,fun i hi=>⟨(k2 i hi).1,(k2 i hi).2,fun h=>k3 i h hi⟩⟩
end
def zox (f:Nat->Int) (p:Int × Int) (i:Nat):Int × Int:=if f i<p.1 then (f i,(i:Int)) else p
def qw (f:Nat->Int) (n:Nat):Int × Int:=(List.range n).foldl (zox f) (1000,0)
theorem ydy {f:Nat->Int}:∀n:Nat,(∀i,i<n->1000<=f i)->qw f n=(1000,0)
 |0,_=>rfl
 |n+1,h=>by
  have ih:=ydy n fun i hi=>h i (by omega)
  unfold qw at ih ⊢;rw [List.range_succ,List.foldl_append,ih];show zox f (1000,0) n=_;unfold zox;rw [if_neg (by have:=h n (by omega);simp only;omega)]
theorem ydz {f:Nat->Int} {s:Nat} {m:Int} (hm:m<1000) (hs:f s=m) (h1:∀i,i<s->m<f i):∀n:Nat,(∀i,i<n->m<=f i)->(n<=s->m<(qw f n).1)/\(s<n->qw f n=(m,(s:Int)))
 |0,_=>⟨fun _=>hm,fun h=>by omega⟩
 |n+1,h=>by
  obtain ⟨i1,i2⟩:=ydz hm hs h1 n fun i hi=>h i (by omega)
  have e:qw f (n+1)=zox f (qw f n) n:=by
   unfold qw;rw [List.range_succ,List.foldl_append];rfl
  rw [e];unfold zox;constructor
  ·intro hn
   have:=i1 (by omega);have:=h1 n (by omega);split
   ·simp only;omega
   ·omega
  ·intro hn
   by_cases hsn:s=n
   ·subst hsn
    have:=i1 (by omega);rw [if_pos (by omega),hs]
   ·rw [i2 (by omega),if_neg]
    have:=h n (by omega);simp only;omega
def zzz (nd:List (List Int)) (d:List Int) (first:Nat) (last:Int) (left:Int):Option Nat:=
 (List.range' (first+1) (nd.length-(first+1))).find? fun k=>decide ((k:Int)∈nd.getD last.toNat [])&&decide (d.getD k 0=left)
def zcb (nd:List (List Int)) (d:List Int) (first:Nat):Nat->Int->List Int
 |0,_=>[]
 |left+1,last=>match zzz nd d first last (left+1:Nat) with
  |some k=>(k:Int)::zcb nd d first left k
  |none=>[]
def yea (nd:List (List Int)) (d:List Int) (first:Nat):Nat->Int->Prop
 |0,_=>True
 |left+1,last=>∃k:Nat,zzz nd d first last (left+1:Nat)=some k/\k<nd.length/\yea nd d first left k
def znk (nd:List (List Int)):List Int:=
 let b:=qw (fun i=>(qf nd i).getD i 0) nd.length
 if (nd.length:Int)<b.1 then [] else b.2::zcb nd (qf nd b.2.toNat) b.2.toNat (b.1-1).toNat b.2
theorem zxq {α:Type} {r:α->α->Prop} {P:α->Bool} {x:α}:∀l:List α,l.Pairwise r->x∈l->P x=true->(∀y∈l,P y=true->¬r y x)->l.find? P=some x
 |[],_,h,_,_=>by cases h
 |a::l,hl,hx,hp,hmin=>by
  simp only [List.pairwise_cons] at hl;rw [List.find?_cons];rcases List.mem_cons.1 hx with rfl|hx
  ·rw [hp]
  ·cases ha:P a with
   |true=>exact absurd (hl.1 x hx) (hmin a (by simp) ha)
   |false=>exact zxq l hl.2 hx hp fun y hy=>hmin y (by simp [hy])
theorem ymw {l:List Int} {n first:Nat} {P:Int->Bool} {Q:Nat->Bool} (hl:l.Pairwise (· < ·)) (hr:∀x∈l,0<=x/\x<n) (hP:∀x∈l,P x=true->(first:Int)<x) (hQ:∀k:Nat,first<k->k<n->Q k=(decide ((k:Int)∈l)&&P k))
  {x:Int} (hx:l.find? P=some x):(List.range' (first+1) (n-(first+1))).find? Q=some x.toNat:=by
 have hm:=List.mem_of_find?_eq_some hx;have hp:=List.find?_some hx;have h1:=hr x hm;have h2:=hP x hm hp;have hxn:((x.toNat:Nat):Int)=x:=by omega
 refine zxq (r:=(· < ·)) _ (List.pairwise_lt_range' 1) (List.mem_range'_1.2 ⟨by omega,by omega⟩) ?_ fun y hy hQy hlt=>?_
 ·rw [hQ _ (by omega) (by omega),hxn,hp,decide_eq_true hm];rfl
 ·have hy:=List.mem_range'_1.1 hy
  rw [hQ y (by omega) (by omega),Bool.and_eq_true,decide_eq_true_eq] at hQy;obtain ⟨_,l1,l2,hab,hno⟩:=List.find?_eq_some_iff_append.1 hx;rw [hab] at hl hQy;rw [List.pairwise_append] at hl;rcases List.mem_append.1 hQy.1 with h|h
  ·have:=hno _ h
   rw [hQy.2] at this;cases this
  ·rcases List.mem_cons.1 h with e|h
   ·omega
   ·have:=(List.pairwise_cons.1 hl.2.1).1 _ h
    omega
theorem ywr {nd : List (List Int)} (hnd : yiz nd) (hinc : ∀ i, (nd.getD i []).Pairwise (· < ·)) : znk nd = zak nd /\
    (let b := qw (fun i => (qf nd i).getD i 0) nd.length
     ¬ (nd.length : Int) < b.1 -> 1 <= b.1 /\ 0 <= b.2 /\ b.2 < nd.length /\ yea nd (qf nd b.2.toNat) b.2.toNat (b.1 - 1).toNat b.2) := by
  have hF := zty hnd
  have hE := yro hnd
  have hn := hnd.1
  have hsp := fun (to : Nat) => zqp hnd (to := to)
  rcases zki (ww nd) nd.length with ⟨h1, h2⟩ | ⟨s, h1, h2, h3, h4, h5⟩
  · have hb : qw (fun i => (qf nd i).getD i 0) nd.length = (1000, 0) := ydy _ fun i hi => by
      obtain ⟨g1, g2, _⟩ := (hsp i).2 i hi
      refine Decidable.byContradiction fun hlt => ?_
      obtain ⟨L, w, _⟩ := g2 (by omega)
      obtain ⟨L', h6, h7⟩ := WalkB.short (w.toB hE) hi
      have := hF.comp i i L' hi hi h7
      have := h2 i hi
      omega
    refine ⟨?_, ?_⟩
    · unfold znk
      rw [hb]
      simp only
      rw [if_pos (by omega)]
      simp [zak, h1]
    · rw [hb]
      intro b h
      exact absurd (show (nd.length : Int) < 1000 by omega) h
  · obtain ⟨m, hw, hm⟩ := hF.sound s s h2 h2 h3
    have hlow := hF.low s s h2 h2
    have hclosed : ∀ i L, i < nd.length -> WalkB (zjl nd) nd.length i i L -> m <= L := fun i L hi hwl => by
      have := hF.comp i i L hi hi hwl
      have := h4 i hi
      omega
    have hleast : ∀ i, i < nd.length -> WalkB (zjl nd) nd.length i i m -> s <= i := fun i hi hwl => by
      rcases Nat.lt_or_ge i s with h' | h'
      · have := h5 i h'
        have := hF.comp i i m hi hi hwl
        omega
      · exact h'
    have hmn : m <= nd.length := by
      obtain ⟨L', a1, a2⟩ := WalkB.short hw h2
      have := hclosed s L' h2 a2
      omega
    have toA : ∀ {i L : Nat}, WalkB (zjl nd) nd.length i s L -> i < nd.length -> ∀ p, ((p = 0 /\ i = s) \/ WalkB (zjl nd) nd.length s i p) -> p + L = m -> WalkA (zjl nd) s i L := by
      intro i L hwl
      generalize hj : s = j at hwl
      induction hwl with
      | one h => intro _ _ _ _; exact .one h
      | @step i k j L he hk hw2 ih =>
        intro hi p hp hpl
        subst hj
        have hpre : WalkB (zjl nd) nd.length s k (p + 1) := by
          rcases hp with ⟨rfl, rfl⟩ | hp
          · exact .one he
          · exact hp.append (.one he) hi
        have hc := hw2.append hpre h2
        rw [show L + (p + 1) = m by omega] at hc
        have hsk := hleast k hk hc
        have hne : s ≠ k := fun e => by
          subst e
          have := hclosed s L h2 hw2
          omega
        exact .step he (by omega) (ih rfl hk (p + 1) (.inr hpre) (by omega))
    have hsA : WalkA (zjl nd) s s m := toA hw h2 0 (.inl ⟨rfl, rfl⟩) (by omega)
    have hfs : (qf nd s).getD s 0 = m := by
      obtain ⟨g1, g2, g3⟩ := (hsp s).2 s h2
      have := g3 (Nat.le_refl _) m (by omega) hsA
      obtain ⟨L, w, hL⟩ := g2 (by omega)
      have := hclosed s L h2 (w.toB hE)
      omega
    have hge : ∀ i, i < nd.length -> (m : Int) <= (qf nd i).getD i 0 /\ (i < s -> (m : Int) < (qf nd i).getD i 0) := fun i hi => by
      obtain ⟨g1, g2, _⟩ := (hsp i).2 i hi
      by_cases hlt : (qf nd i).getD i 0 < 1000
      · obtain ⟨L, w, hL⟩ := g2 hlt
        have hwB := w.toB hE
        have a := hclosed i L hi hwB
        refine ⟨by omega, fun his => ?_⟩
        have : m ≠ L := fun e => by
          subst e
          have := hleast i hi hwB
          omega
        omega
      · exact ⟨by omega, fun _ => by omega⟩
    have hb : qw (fun i => (qf nd i).getD i 0) nd.length = ((m : Int), (s : Int)) :=
      (ydz (f := fun i => (qf nd i).getD i 0) (by omega) hfs (fun i hi => (hge i (by omega)).2 hi) nd.length fun i hi => (hge i hi).1).2 h2
    have hs0 : ¬ ((s : Nat) : Int) < 0 := by omega
    have hsn : ((s : Nat) : Int).toNat = s := by omega
    have hm1 : (mg (ww nd) s s - 1).toNat = m - 1 := by omega
    have hm2 : ((m : Int) - 1).toNat = m - 1 := by omega
    have er : zak nd = (s : Int) :: zaz nd (ww nd) s (m - 1) s := by
      simp only [zak, h1, if_neg hs0, hsn, hm1]
    have er2 : znk nd = (s : Int) :: zcb nd (qf nd s) s (m - 1) s := by
      unfold znk
      rw [hb]
      simp only
      rw [if_neg (by omega), hsn, hm2]
    have go : ∀ (left last : Nat) (p : Nat), last < nd.length -> mg (ww nd) last s = (left + 1 : Nat) -> ((p = 0 /\ last = s) \/ WalkB (zjl nd) nd.length s last p) -> p + (left + 1) = m ->
        zcb nd (qf nd s) s left last = zaz nd (ww nd) s left last /\ yea nd (qf nd s) s left last := by
      intro left
      induction left with
      | zero => intro last p _ _ _ _; exact ⟨rfl, trivial⟩
      | succ left ih =>
        intro last p hl hd hp hpl
        have hnxt : ∃ x, zio nd (ww nd) s (left + 1 : Nat) last = some x := by
          obtain ⟨L, hwl, he⟩ := hF.sound last s hl h2 (by omega)
          have hL : L = left + 2 := by omega
          subst hL
          cases hwl with
          | @step _ k _ _ a1 a2 a3 =>
            have hk : mg (ww nd) k s = (left + 1 : Nat) := by
              have b1 := hF.comp k s (left + 1) (by omega) h2 a3
              have b2 := hF.low k s (by omega) h2
              obtain ⟨L', w', e'⟩ := hF.sound k s (by omega) h2 (by omega)
              have := hF.comp last s (L' + 1) hl h2 (.step a1 a2 w')
              omega
            refine Option.ne_none_iff_exists'.1 fun hnone => ?_
            unfold zio at hnone
            rw [List.find?_eq_none] at hnone
            have := hnone (k : Int) a1
            simp only [Int.toNat_natCast, hk, decide_true, not_true_eq_false] at this
        obtain ⟨x, hx⟩ := hnxt
        have hm' := List.mem_of_find?_eq_some hx
        have hr := hnd.2 last x hm'
        have hpx := List.find?_some hx
        have hxd : mg (ww nd) x.toNat s = (left + 1 : Nat) := by simpa using hpx
        have elem : ∀ k : Nat, zjl nd last k -> mg (ww nd) k s = (left + 1 : Nat) -> s < k /\ WalkB (zjl nd) nd.length s k (p + 1) /\ WalkA (zjl nd) s k (left + 1) := fun k he hk => by
          have hkn := hE _ _ he
          have hpre : WalkB (zjl nd) nd.length s k (p + 1) := by
            rcases hp with ⟨rfl, rfl⟩ | hp
            · exact .one he
            · exact hp.append (.one he) hl
          obtain ⟨L, wk, hL⟩ := hF.sound k s hkn h2 (by omega)
          have hLe : L = left + 1 := by omega
          subst hLe
          have hc := wk.append hpre h2
          rw [show left + 1 + (p + 1) = m by omega] at hc
          have hsk := hleast k hkn hc
          have hne : s ≠ k := fun e => by subst e; omega
          exact ⟨by omega, hpre, toA wk hkn (p + 1) (.inr hpre) (by omega)⟩
        have hrn : zzz nd (qf nd s) s (last : Int) (left + 1 : Nat) = some x.toNat := by
          unfold zzz
          rw [Int.toNat_natCast]
          refine ymw (P := fun x => decide (mg (ww nd) x.toNat s = (left + 1 : Nat))) (hinc last) (fun x hx => hnd.2 last x hx) (fun y hy hyp => ?_) (fun k hk1 hk2 => ?_) hx
          · have hyr := hnd.2 last y hy
            have := (elem y.toNat (by unfold zjl; rw [Int.toNat_of_nonneg hyr.1]; exact hy) (by simpa using hyp)).1
            omega
          · by_cases he : (k : Int) ∈ nd.getD last []
            · rw [decide_eq_true he, Bool.true_and, Bool.true_and, Int.toNat_natCast, decide_eq_decide]
              obtain ⟨g1, g2, g3⟩ := (hsp s).2 k hk2
              constructor
              · intro hdk
                obtain ⟨L, w, hL⟩ := g2 (by omega)
                have b1 := hF.comp k s L hk2 h2 (w.toB hE)
                have b2 := hF.low k s hk2 h2
                obtain ⟨L', w', e'⟩ := hF.sound k s hk2 h2 (by omega)
                have := hF.comp last s (L' + 1) hl h2 (.step he hk2 w')
                omega
              · intro hdk
                have a1 := g3 (by omega) (left + 1) (by omega) (elem k he hdk).2.2
                obtain ⟨L, w, hL⟩ := g2 (by omega)
                have b1 := hF.comp k s L hk2 h2 (w.toB hE)
                omega
            · rw [decide_eq_false he, Bool.false_and, Bool.false_and]
        have hedge : zjl nd last x.toNat := by unfold zjl; rw [Int.toNat_of_nonneg hr.1]; exact hm'
        obtain ⟨_, hpre, _⟩ := elem x.toNat hedge hxd
        obtain ⟨i1, i2⟩ := ih x.toNat (p + 1) (by omega) hxd (.inr hpre) (by omega)
        have hxn : ((x.toNat : Nat) : Int) = x := by omega
        constructor
        · rw [zcb, hrn, zaz, hx]
          simp only
          rw [i1, hxn]
        · exact ⟨x.toNat, hrn, by omega, i2⟩
    obtain ⟨g1, g2⟩ := go (m - 1) s 0 h2 (by omega) (.inl ⟨rfl, rfl⟩) (by omega)
    refine ⟨by rw [er2, er, g1], ?_⟩
    rw [hb]
    intro b _
    exact ⟨by show (1 : Int) <= m; omega, by show (0 : Int) <= s; omega, by show (s : Int) < nd.length; omega, by rw [hsn, hm2]; exact g2⟩
theorem yeb {M:List Int} {i:Nat} (hi:i<M.length) {off:Nat} (ho:off=i):znl Tryz.prog 3 (M.map sI) off=some (sI (M.getD i 0)):=by
 subst ho;show (M.map sI)[off]?=_;rw [List.getElem?_map,List.getD_eq_getElem?_getD,List.getElem?_eq_getElem hi];rfl
def Bv (n:Nat) (M:List Int):Prop:=M.length=n/\∀x∈M,0<=x/\x<=1000
theorem Bv.set {n:Nat} {M:List Int} (h:Bv n M) (p:Nat) {v:Int} (hv:0<=v/\v<=1000):Bv n (M.set p v):=⟨by rw [List.length_set];exact h.1,fun x hx=>by
 rcases List.mem_or_eq_of_mem_set hx with hx|rfl
 ·exact h.2 x hx
 ·exact hv⟩
theorem Bv.get {n:Nat} {M:List Int} (h:Bv n M) (i:Nat):0<=M.getD i 0/\M.getD i 0<=1000:=by
 rw [List.getD_eq_getElem?_getD];cases hg:M[i]? with
 |none=>simp
 |some x=>exact h.2 x (List.mem_of_getElem? hg)
theorem Bv.relax {n:Nat} {M:List Int} (h:Bv n M) (to i:Nat) (x:Int):Bv n (relax to i M x):=by
 have h1:=h.get i;have h2:=h.get x.toNat;unfold Go.Proofs.YtblpjknmhajcgaaGreatDoor.relax;split
 ·exact h.set i (by omega)
 ·split
  ·exact h.set i (by omega)
  ·exact h
theorem Bv.row {n:Nat} {M:List Int} (h:Bv n M) (nd:List (List Int)) (to i:Nat):Bv n (zgy nd to M i):=xz (Q:=Bv n) _ (fun _ x _ h=>h.relax to i x) M h
theorem Bv.round {n:Nat} {M:List Int} (h:Bv n M) (nd:List (List Int)) (to:Nat):Bv n (qo nd to M):=xz (Q:=Bv n) _ (fun _ i _ h=>h.row nd to i) M h
theorem yws (n i:Nat) (h:i<n):(List.replicate i (1000:Int)++List.replicate (n-i) 0).set i 1000=List.replicate (i+1) 1000++List.replicate (n-(i+1)) 0:=by
 rw [show n-i=(n-(i+1))+1 by omega,List.replicate_succ,List.set_append_right _ _ (by simp),List.length_replicate,Nat.sub_self,List.set_cons_zero,List.replicate_succ',List.append_assoc];rfl
theorem yrq {s n:Nat} {done rest:List Nat} {x:Nat} (h:List.range' s n=done++x::rest):x=s+done.length:=by
 have h1:(List.range' s n)[done.length]?=some x:=by rw [h];simp
 have h2:done.length<n:=by
  have:=congrArg List.length h;simp at this;omega
 rw [List.getElem?_range' h2] at h1;simp only [Option.some.injEq] at h1;omega
theorem yec (nd:List (List Int)) (hnd:yiz nd) (hl:∀l∈nd,l.length<=1000000) (to:Nat) (hto:to<nd.length):zw Tryz.prog G 50 [.imm (qh nd),sI to] (.imm (zi (qf nd to))):=by
 have hndm:(nd.map fun l=>[zi l]).length=nd.length:=by simp
 have h60:=hnd.1;refine zc Tryz.func50 rfl (by rw [Tryz.ntmps50];simp) rfl rfl ?_;intro E hH hK;(refine qs [777,13] 1000 ?_;conv=>whnf);refine yig (n:=nd.length) (zz:=sI 0) rfl rfl rfl rfl rfl rfl rfl rfl rfl ⟨show 8<=65536 by decide,rfl⟩ rfl (by rw [hndm]) (by rw [hndm]) (by omega) ?_;(refine za ?_;conv=>whnf);refine zg [0,1,5,6] ?_;refine Eq.mpr (congrArg (fun z=>SW E _ _ [.cells z]) (show List.replicate nd.length (sI 0)=(List.replicate 0 (1000:Int)++List.replicate (nd.length-0) 0).map sI by simp)) ?_;change SW E _ [(0,.imm (qh nd)),(1,sI to),(5,.osl 0 0 nd.length),(6,sI 0)] [zhr (List.replicate 0 (1000:Int)++List.replicate (nd.length-0) 0)];refine zo nd (fun i (_:Unit)=>[(0,.imm (qh nd)),(1,sI to),(5,.osl 0 0 nd.length),(6,sI i)]) (fun i _=>[zhr (List.replicate i (1000:Int)++List.replicate (nd.length-i) 0)]) (fun _ _ _=>True) () trivial ?_ ?_
 ·rintro _ _
  rw [Nat.sub_self,List.replicate_zero,List.append_nil];(refine zf ?_;conv=>whnf)
  repeat' ((with_reducible refine way ?_ ?_)<;>(intro h;conv=>whnf))
  all_goals try (exfalso;omega)
  refine zg [0,1,5,7] ?_;change SW E _ [(0,.imm (qh nd)),(1,sI to),(5,.osl 0 0 nd.length),(7,sI 0)] [zhr (List.replicate nd.length 1000)];have hB0:Bv nd.length (List.replicate nd.length 1000):=⟨by simp,fun x hx=>by rw [(List.mem_replicate.1 hx).2];decide⟩;have hBr:∀r,Bv nd.length ((List.range r).foldl (fun d _=>qo nd to d) (List.replicate nd.length 1000)):=fun r=>xz (Q:=Bv nd.length) _ (fun _ _ _ h=>h.round nd to) _ hB0
  have hst:qf nd to=(List.range (nd.length+1)).foldl (fun d _=>qo nd to d) (List.replicate nd.length 1000):=rfl;refine zo (List.range (nd.length+1)) (fun r (_:Unit)=>[(0,.imm (qh nd)),(1,sI to),(5,.osl 0 0 nd.length),(7,sI r)]) (fun r _=>[zhr ((List.range r).foldl (fun d _=>qo nd to d) (List.replicate nd.length 1000))]) (fun _ _ _=>True) () trivial ?_ ?_
  ·rintro _ _
   have hBe:=hBr (nd.length+1);rw [List.length_range];rw [<-hst] at hBe ⊢;generalize qf nd to=M at hBe hK ⊢;have hch:jz 1 (M.map dI) nd.length=M.map fun n=>[dI n]:=by
    have:=zkw (M.map dI);rw [List.length_map,hBe.1] at this;rw [this];simp
   refine yoe 0 nd.length 1 (cs:=M.map sI) (junk:=[]) (ds:=M.map dI) (t':=[(0,.imm (qh nd)),(1,sI to),(5,.imm (zi M)),(7,sI (nd.length+1:Nat))]) (H':=[.dead]) (by simp) (by simp [SV.one]) (by rw [show M.map sI=(M.map dI).map SV.imm by simp];exact zrq _) (by simp [hBe.1]) (by rw [hch];simp [SV.shut,zi]) (by simp [SObj.shut]) ?_;(refine zf ?_;conv=>whnf)
   repeat' ((with_reducible refine way ?_ ?_)<;>(intro h;conv=>whnf))
   all_goals try (exfalso;omega)
   exact hK _
  ·rintro dr r rr _ hra hrl _ ihr
   have hwr:=zk (n:=dr.length) (by simp at hrl;omega);have hdrl:dr.length<=nd.length:=by simp at hrl;omega
   have hrs:=zga (fun d (_:Nat)=>qo nd to d) (List.replicate nd.length 1000) dr.length;have hBd:=hBr dr.length;rw [hrs] at ihr;generalize (List.range dr.length).foldl (fun d _=>qo nd to d) (List.replicate nd.length 1000)=M0 at hBd ihr ⊢;have hrd:qo nd to M0=(List.range' to (nd.length-to)).foldl (zgy nd to) M0:=rfl;(refine zf ?_;conv=>whnf)
   repeat' ((with_reducible refine way ?_ ?_)<;>(intro h;conv=>whnf))
   all_goals try (exfalso;omega)
   refine zg [0,1,5,7,8] ?_;change SW E _ [(0,.imm (qh nd)),(1,sI to),(5,.osl 0 0 nd.length),(7,sI dr.length),(8,sI to)] [zhr M0];refine zo (List.range' to (nd.length-to)) (fun j (M:List Int)=>[(0,.imm (qh nd)),(1,sI to),(5,.osl 0 0 nd.length),(7,sI dr.length),(8,sI ((to+j:Nat):Int))]) (fun _ M=>[zhr M])
    (fun _ rest M=>qo nd to M0=rest.foldl (zgy nd to) M/\Bv nd.length M) M0 ⟨hrd,hBd⟩ ?_ ?_
   ·rintro M ⟨h2,_⟩
    have hll:(List.range' to (nd.length-to)).length=nd.length-to:=by simp
    rw [hll,show to+(nd.length-to)=nd.length by omega];have h2:qo nd to M0=M:=h2;rw [h2] at ihr;(refine zf ?_;conv=>whnf)
    repeat' ((with_reducible refine way ?_ ?_)<;>(intro h;conv=>whnf))
    all_goals try (exfalso;omega)
    rw [hwr];exact zg [0,1,5,7] (ihr () trivial)
   ·rintro di i ri M hia hil ⟨h2,hBM⟩ ihi
    have hi:=yrq hia;have hil2:di.length<nd.length-to:=by
     have:=congrArg List.length hia;simp at this;omega
    subst hi;have hwi:=zk (n:=to+di.length) (by omega);rw [show to+di.length+1=to+(di.length+1) by omega] at hwi;obtain ⟨nl,hnl⟩:∃nl,nd[to+di.length]?=some nl:=⟨_,List.getElem?_eq_getElem (by omega)⟩;have hrown:(nd.map fun l=>[zi l])[to+di.length]?=some [zi nl]:=by simp [hnl]
    have hnlm:(nl.map fun n=>[dI n]).length=nl.length:=by simp
    have hnlz:=hl nl (List.mem_of_getElem? hnl);have hgd:nd.getD (to+di.length) []=nl:=by rw [List.getD_eq_getElem?_getD,hnl];rfl
    have hrow:zgy nd to M (to+di.length)=nl.foldl (relax to (to+di.length)) M:=by unfold zgy;rw [hgd]
    have hnr:∀y∈nl,0<=y/\y<nd.length:=fun y hy=>hnd.2 (to+di.length) y (by rw [hgd];exact hy)
    have hnext:=ihi (nl.foldl (relax to (to+di.length)) M) ⟨by rw [<-hrow];exact h2,by rw [<-hrow];exact hBM.row nd to _⟩;obtain ⟨ii,hii⟩:∃ii,to+di.length=ii:=⟨_,rfl⟩;rw [hii] at hnl hrown hgd hrow hnext ⊢;rw [<-show to+di.length+1=to+(di.length+1) by omega,hii] at hwi hnext;(refine zf ?_;conv=>whnf)
    repeat' ((with_reducible refine way ?_ ?_)<;>(intro h;conv=>whnf))
    all_goals try (exfalso;omega)
    refine zg [0,1,5,7,8,9] ?_;change SW E _ [(0,.imm (qh nd)),(1,sI to),(5,.osl 0 0 nd.length),(7,sI dr.length),(8,sI ii),(9,sI 0)] [zhr M];refine zo nl (fun k (N:List Int)=>[(0,.imm (qh nd)),(1,sI to),(5,.osl 0 0 nd.length),(7,sI dr.length),(8,sI ii),(9,sI k)]) (fun _ N=>[zhr N])
     (fun _ rest N=>nl.foldl (relax to ii) M=rest.foldl (relax to ii) N/\Bv nd.length N) M ⟨rfl,hBM⟩ ?_ ?_
    ·rintro N ⟨h3,_⟩
     have h3:nl.foldl (relax to ii) M=N:=h3;rw [h3] at hnext;(refine zf ?_;conv=>whnf);refine zh (i:=ii) (row:=[zi nl]) rfl rfl hrown ?_;(refine za ?_;conv=>whnf)
     repeat' ((with_reducible refine way ?_ ?_)<;>(intro h;conv=>whnf))
     all_goals try (exfalso;omega)
     rw [hwi];exact zg [0,1,5,7,8] hnext
    ·rintro dk y rk N hka hkl ⟨h3,hBN⟩ ihk
     have hwk:=zk (n:=dk.length) (by omega);have hyr:=hnr y (by rw [hka];simp);have hry:(nl.map fun n=>[dI n])[dk.length]?=some [dI y]:=by simp [hka]
     have hgi:=hBN.get ii;have hgy:=hBN.get y.toNat;have hiin:ii<nd.length:=by omega
     have hmin:(if IntKind.i64.wrap (N.getD y.toNat 0+1)<N.getD ii 0 then IntKind.i64.wrap (N.getD y.toNat 0+1) else N.getD ii 0)=min (N.getD ii 0) (N.getD y.toNat 0+1):=by
      rw [yz (by omega) (by omega)];split<;>omega
     have hgo:∀N',N'=relax to ii N y->SW E _ _ [zhr N']:=fun N' h=>ihk N' ⟨by rw [h];exact h3,by rw [h];exact hBN.relax to ii y⟩
     (refine zf ?_;conv=>whnf);refine zh (i:=ii) (row:=[zi nl]) rfl rfl hrown ?_;(refine za ?_;conv=>whnf)
     repeat' ((with_reducible refine way ?_ ?_)<;>(intro h;conv=>whnf))
     all_goals try (exfalso;omega)
     refine zh (i:=ii) (row:=[zi nl]) rfl rfl hrown ?_;(refine za ?_;conv=>whnf);refine zh (i:=dk.length) (row:=[dI y]) rfl rfl hry ?_;(refine za ?_;conv=>whnf)
     by_cases hy1:y=to
     ·have hre:=hgo (N.set ii 1) (by unfold relax;rw [if_pos hy1])
      repeat' ((with_reducible refine way ?_ ?_)<;>(intro h;conv=>whnf))
      all_goals try (exfalso;omega)
      refine zfy (i:=ii) rfl rfl rfl rfl rfl rfl rfl rfl (by omega) ?_;refine zll (b:=0) (M:=N) (p:=ii) (v:=1) rfl rfl rfl rfl rfl rfl rfl (show 0+ii*1=ii by omega) (by rw [hBN.1];exact hiin) ?_;(refine za ?_;conv=>whnf);rw [hwk];exact zg [0,1,5,7,8,9] hre
     ·by_cases hy2:(to:Int)<y
      ·have hre:=hgo (N.set ii (min (N.getD ii 0) (N.getD y.toNat 0+1))) (by unfold relax;rw [if_neg hy1,if_pos hy2])
       rw [<-hmin] at hre
       repeat' ((with_reducible refine way ?_ ?_)<;>(intro h;conv=>whnf))
       all_goals try (exfalso;omega)
       refine zg [0,1,5,7,8,9,10] ?_;change SW E _ [(0,.imm (qh nd)),(1,sI to),(5,.osl 0 0 nd.length),(7,sI dr.length),(8,sI ii),(9,sI dk.length),(10,sI y)] [zhr N];refine zu 0 mixed rfl ?_;(refine zb [777,65] (nx:=1) ?_;conv=>whnf);refine zju (i:=ii) rfl rfl rfl rfl rfl rfl rfl (show 1<=1 by decide) rfl hiin ?_;refine zad (v:=sI (N.getD ii 0)) rfl rfl rfl (show 1<=1 by decide) rfl rfl (yeb (by rw [hBN.1];exact hiin) (show 0+ii*1=ii by omega)) ?_;(refine zb [777,69] (nx:=1) ?_;conv=>whnf);refine zju (i:=y.toNat) rfl rfl rfl rfl rfl rfl rfl (show 1<=1 by decide) (Int.toNat_of_nonneg hyr.1).symm (by omega) ?_;refine zad (v:=sI (N.getD y.toNat 0)) rfl rfl rfl (show 1<=1 by decide) rfl rfl (yeb (by rw [hBN.1];omega) (show 0+y.toNat*1=y.toNat by omega)) ?_;(refine zb [777,73] (nx:=1) ?_;conv=>whnf);refine zju (i:=ii) rfl rfl rfl rfl rfl rfl rfl (show 1<=1 by decide) rfl hiin ?_;refine zwv (b:=0) (M:=N) (p:=ii) (v:=if IntKind.i64.wrap (N.getD y.toNat 0+1)<N.getD ii 0 then IntKind.i64.wrap (N.getD y.toNat 0+1) else N.getD ii 0) rfl rfl rfl rfl rfl rfl (show 1<=1 by decide) rfl (show 0+ii*1=ii by omega) (by rw [hBN.1];exact hiin) ?_;refine qt (by kernel_rfl) ?_;(refine zf ?_;conv=>whnf);rw [hwk];exact zg [0,1,5,7,8,9] hre
      ·have hre:=hgo N (by unfold relax;rw [if_neg hy1,if_neg hy2])
       repeat' ((with_reducible refine way ?_ ?_)<;>(intro h;conv=>whnf))
       all_goals try (exfalso;omega)
       rw [hwk];exact zg [0,1,5,7,8,9] hre
 ·rintro done x rest _ hda hdl _ ih
  have hw:=zk (n:=done.length) (by omega);have hrs:=yws nd.length done.length (by omega);rw [<-hrs] at ih;(refine zf ?_;conv=>whnf)
  repeat' ((with_reducible refine way ?_ ?_)<;>(intro h;conv=>whnf))
  all_goals try (exfalso;omega)
  refine zfy (i:=done.length) rfl rfl rfl rfl rfl rfl rfl rfl (by omega) ?_;refine zll (b:=0) (M:=List.replicate done.length (1000:Int)++List.replicate (nd.length-done.length) 0) (p:=done.length) (v:=1000) rfl rfl rfl rfl rfl rfl rfl (show 0+done.length*1=done.length by omega) (by simp;omega) ?_;(refine za ?_;conv=>whnf);rw [hw];exact zg [0,1,5,6] (ih () trivial)
theorem zxr (c:Codex) (names:List Int) (v:Int):∀(l:List Article) (i:Nat),(zac c names v l i).Pairwise (· < ·)/\∀x∈zac c names v l i,(i:Int)<=x
 |[],_=>⟨.nil,fun x h=>by cases h⟩
 |a::l,i=>by
  obtain ⟨h1,h2⟩:=zxr c names v l (i+1);rw [zac];constructor
  ·split
   ·rw [List.singleton_append,List.pairwise_cons]
    exact ⟨fun x hx=>by have:=h2 x hx;omega,h1⟩
   ·exact h1
  ·intro x hx
   rcases List.mem_append.1 hx with hx|hx
   ·split at hx
    ·simp at hx;omega
    ·cases hx
   ·have:=h2 x hx;omega
theorem yrr (c:Codex):∀i,((yc c).getD i []).Pairwise (· < ·):=fun i=>by
 rw [List.getD_eq_getElem?_getD];cases hg:(yc c)[i]? with
 |none=>exact .nil
 |some l=>
  obtain ⟨j,_,rfl⟩:=List.mem_map.1 (List.mem_of_getElem? hg);show (xe c j).Pairwise _;unfold xe;cases qj c j with
  |none=>exact .nil
  |some a=>exact (zxr c _ _ _ _).1
theorem zjg {Q:Nat->Bool} {k:Nat}:∀(n s:Nat),(List.range' s n).find? Q=some k->s<=k/\k<s+n/\Q k=true/\∀j,s<=j->j<k->Q j=false
 |0,_,h=>by cases h
 |n+1,s,h=>by
  rw [List.range'_succ,List.find?_cons] at h;cases hq:Q s with
  |true=>
   rw [hq] at h;simp only [Option.some.injEq] at h;subst h;exact ⟨Nat.le_refl _,by omega,hq,fun j h1 h2=>by omega⟩
  |false=>
   rw [hq] at h;obtain ⟨h1,h2,h3,h4⟩:=zjg n (s+1) h;refine ⟨by omega,by omega,h3,fun j g1 g2=>?_⟩
   by_cases e:j=s
   ·rw [e];exact hq
   ·exact h4 j (by omega) g2
theorem ygu (c:Codex) (hS:SmallC c):zw Tryz.prog G0 20 [c.sv] (.imm (zi (if zv c=true then zak (yc c) else []))):=by
 have hal:(c.arts.map Article.cells).length=c.arts.length:=by simp
 have hA:=hS.arts;have hFc:=hS.facts;have hlc:=hS.lines;have hV:=zaw G0 c (by omega) hlc (by omega) hS.fit;rw [zlw] at hV;cases hb:zv c with
 |false=>
  rw [hb] at hV;rw [if_neg (by simp)];refine zao ?_ (SV.Is.nil 1);refine zc Tryz.func20 rfl (by rw [Tryz.ntmps20];simp) rfl rfl ?_;intro E hH hK;rw [show c.sv= .agg [.imm (zj c.facts),.imm (zj c.lines),.imm (yl c.arts)] from rfl];(refine zf ?_;conv=>whnf);refine ze rfl  hV ?_;(refine za ?_;conv=>whnf);exact hK _
 |true=>
  rw [hb] at hV;rw [if_pos rfl];have hnd:=zub (c:=c) (by omega);have hndl:=jp c;obtain ⟨hre,hrun⟩:=ywr hnd (yrr c);have hN:=fun (i:Nat) (hi:i<c.arts.length)=>ydw c hS hb (i:Int) (by omega)
  have hnz:∀l∈yc c,l.length<=1000000:=fun l hl=>by
   obtain ⟨j,_,rfl⟩:=List.mem_map.1 hl;have:=ziq c (j:Int);omega
  have hall:yc c=(List.range c.arts.length).map fun (i:Nat)=>xe c i:=rfl
  have hst:=fun (to:Nat) h=>yec G0 (yc c) hnd hnz to h
  rw [<-hre];refine zao (r:=if znk (yc c)=[] then zdp else .imm (zi (znk (yc c)))) ?_ (by split;rename_i h;rw [h];exact SV.Is.nil 1;exact SV.Is.refl _);refine zc Tryz.func20 rfl (by rw [Tryz.ntmps20];simp) rfl (by split<;>rfl) ?_;intro E hH hK;rw [show c.sv= .agg [.imm (zj c.facts),.imm (zj c.lines),.imm (yl c.arts)] from rfl];(refine zf ?_;conv=>whnf);refine ze rfl  hV ?_;(refine za ?_;conv=>whnf);refine zjr (n:=4) (kk:=1) rfl ?_;refine zg [1,4,5] ?_;change SW E _ [(1,.ptr 0 0),(4,.asl 1 1 []),(5,sI 0)] [zav c,.tok 1 0];refine zo c.arts (fun i (l:List (List Int))=>[(1,.ptr 0 0),(4,.asl 1 1 (l.map fun n=>[zi n])),(5,sI i)]) (fun _ l=>[zav c,.tok 1 (l.map fun n=>[zi n]).length])
   (fun done _ l=>l=(List.range done.length).map fun (i:Nat)=>xe c i) [] rfl ?_ ?_
  ·rintro l h2
   rw [<-hall] at h2;subst h2;generalize yc c=nd at*;have hndm:(nd.map fun l=>[zi l]).length=nd.length:=by simp
   refine zay ?_;refine yy [1,4,5] 1 (by rw [hH];exact Nat.zero_le 1) (Nat.succ_le_succ (Nat.zero_le _)) rfl rfl ?_;change SW E _ [(1,.ptr 0 0),(4,.imm (qh nd)),(5,sI c.arts.length)] [zav c];(refine zf ?_;conv=>whnf)
   repeat' ((with_reducible refine way ?_ ?_)<;>(intro h;conv=>whnf))
   all_goals try (exfalso;omega)
   refine zg [4,6,7,8] ?_;change SW E _ [(4,.imm (qh nd)),(6,sI 1000),(7,sI 0),(8,sI 0)] [zav c];obtain ⟨f,hf⟩:∃f:Nat->Int,f=fun i=>(qf nd i).getD i 0:=⟨_,rfl⟩
   have hrr:znk nd=if (nd.length:Int)<(qw f nd.length).1 then [] else (qw f nd.length).2::zcb nd (qf nd (qw f nd.length).2.toNat) (qw f nd.length).2.toNat ((qw f nd.length).1-1).toNat (qw f nd.length).2:=by rw [hf];rfl
   have hrun:¬(nd.length:Int)<(qw f nd.length).1->1<=(qw f nd.length).1/\0<=(qw f nd.length).2/\(qw f nd.length).2<nd.length/\yea nd (qf nd (qw f nd.length).2.toNat) (qw f nd.length).2.toNat ((qw f nd.length).1-1).toNat (qw f nd.length).2:=by rw [hf];exact hrun
   refine zo nd (fun i (_:Unit)=>[(4,.imm (qh nd)),(6,sI (qw f i).1),(7,sI (qw f i).2),(8,sI i)]) (fun _ _=>[zav c]) (fun _ _ _=>True) () trivial ?_ ?_
   ·rintro _ _
    generalize qw f nd.length=b at hrr hrun ⊢;obtain ⟨b1,b2⟩:=b;simp only at hrr hrun
    by_cases hbest:(nd.length:Int)<b1
    ·rw [if_pos hbest] at hrr
     rw [hrr,if_pos rfl] at hK;(refine zf ?_;conv=>whnf)
     repeat' ((with_reducible refine way ?_ ?_)<;>(intro h;conv=>whnf))
     all_goals try (exfalso;omega)
     exact hK _
    ·rw [if_neg hbest] at hrr
     obtain ⟨r1,r2,r3,r4⟩:=hrun hbest;rw [hrr,if_neg (by simp)] at hK;have hs:=hst b2.toNat (by omega);rw [Int.toNat_of_nonneg r2] at hs;have hsl:=(zqp hnd (to:=b2.toNat)).1.len;generalize qf nd b2.toNat=d at hs r4 hK hsl;(refine zf ?_;conv=>whnf)
     repeat' ((with_reducible refine way ?_ ?_)<;>(intro h;conv=>whnf))
     all_goals try (exfalso;omega)
     refine ze rfl  hs ?_;(refine we [777,59] 1000 ?_;conv=>whnf);refine zwu (rows:=[[dI b2]]) (kk:=1) rfl rfl rfl rfl rfl ?_;(refine za ?_;conv=>whnf);refine zg [4,6,7,10,11] ?_;change SW E _ [(4,.imm (qh nd)),(6,sI b1),(7,sI b2),(10,.imm (zi d)),(11,.asl 1 1 ([b2].map fun n=>[dI n]))] [zav c,.tok 1 ([b2].map fun n=>[dI n]).length];have h60:=hnd.1;obtain ⟨full,hfull⟩:∃full,full=b2::zcb nd d b2.toNat (b1-1).toNat b2:=⟨_,rfl⟩;rw [<-hfull] at hK;refine xc (σ:=List Int × Nat × Int) (fun y=>[(4,.imm (qh nd)),(6,sI b1),(7,sI b2),(10,.imm (zi d)),(11,.asl 1 1 (y.1.map fun n=>[dI n]))]) (fun y=>[zav c,.tok 1 (y.1.map fun n=>[dI n]).length])
      (fun y=>(∃pre,y.1=pre++[y.2.2])/\(y.1.length:Int)+y.2.1=b1/\yea nd d b2.toNat y.2.1 y.2.2/\full=y.1++zcb nd d b2.toNat y.2.1 y.2.2/\0<=y.2.2/\y.2.2<nd.length) (fun y=>y.2.1) ?_ ([b2],(b1-1).toNat,b2)
      ⟨⟨[],rfl⟩,by simp only [List.length_cons,List.length_nil];omega,r4,hfull,r2,r3⟩
     rintro ⟨acc,left,last⟩ ⟨⟨pre,i1⟩,i2,i3,i4,i5,i6⟩ ih;simp only at i1 i2 i3 i4 i5 i6;have haccm:(acc.map fun n=>[dI n]).length=acc.length:=by simp
     have hpl:acc.length=pre.length+1:=by rw [i1];simp
     cases left with
     |zero=>
      have i4:full=acc:=by rw [i4];simp [zcb]
      rw [i4] at hK;refine zay ?_;change SW E _ [(4,.imm (qh nd)),(6,sI b1),(7,sI b2),(10,.imm (zi d)),(11,.imm (zi acc))] [zav c,.tok 1 (acc.map fun n=>[dI n]).length];(refine zf ?_;conv=>whnf)
      repeat' ((with_reducible refine way ?_ ?_)<;>(intro h;conv=>whnf))
      all_goals try (exfalso;omega)
      exact hK _
     |succ left=>
      obtain ⟨k,hk,hkn,hrk⟩:=i3;obtain ⟨f1,f2,f3,f4⟩:=zjg _ _ hk;rw [zcb,hk] at i4;simp only at i4;obtain ⟨nl,hnl⟩:∃nl,nd[last.toNat]?=some nl:=⟨_,List.getElem?_eq_getElem (by omega)⟩;have hgd:nd.getD last.toNat []=nl:=by rw [List.getD_eq_getElem?_getD,hnl];rfl
      have hrnl:(nd.map fun l=>[zi l])[last.toNat]?=some [zi nl]:=by simp [hnl]
      have hnlz:=hnz nl (List.mem_of_getElem? hnl);rw [hgd] at f3 f4;have hrl:(acc.map fun n=>[dI n])[pre.length]?=some [dI last]:=by rw [i1];simp
      have hw13:IntKind.i64.wrap (b2+1)=((b2.toNat+1:Nat):Int):=by rw [yz (by omega) (by omega)];omega
      have hwl:IntKind.i64.wrap ((acc.length:Int)-1)=(pre.length:Int):=by rw [yz (by omega) (by omega)];omega
      have hwb:IntKind.i64.wrap (b1-((acc.map fun n=>[dI n]).length:Int))=((left+1:Nat):Int):=by rw [haccm,yz (by omega) (by omega)];omega
      have hend:=ih (acc++[(k:Int)],left,(k:Int)) ⟨⟨acc,rfl⟩,by simp only [List.length_append,List.length_cons,List.length_nil];omega,hrk,by rw [i4,List.append_assoc];rfl,by simp only;omega,by simp only;omega⟩ (Nat.lt_succ_self _);have e5:(acc.map fun n=>[dI n])++[[dI k]]=(acc++[(k:Int)]).map fun n=>[dI n]:=by simp
      have e6:(acc.map fun n=>[dI n]).length+[[dI k]].length=((acc++[(k:Int)]).map fun n=>[dI n]).length:=by simp
      change SW E _ [(4,.imm (qh nd)),(6,sI b1),(7,sI b2),(10,.imm (zi d)),(11,.asl 1 1 ((acc++[(k:Int)]).map fun n=>[dI n]))] [zav c,.tok 1 ((acc++[(k:Int)]).map fun n=>[dI n]).length] at hend;change SW E _ [(4,.imm (qh nd)),(6,sI b1),(7,sI b2),(10,.imm (zi d)),(11,.asl 1 1 (acc.map fun n=>[dI n]))] [zav c,.tok 1 (acc.map fun n=>[dI n]).length];(refine zf ?_;conv=>whnf)
      repeat' ((with_reducible refine way ?_ ?_)<;>(intro h;conv=>whnf))
      all_goals try (exfalso;omega)
      refine zh (i:=pre.length) (row:=[dI last]) rfl (by rw [haccm];exact hwl) hrl ?_;(refine za ?_;conv=>whnf);refine zg [4,6,7,10,11,12,13] ?_;rw [hw13];change SW E _ [(4,.imm (qh nd)),(6,sI b1),(7,sI b2),(10,.imm (zi d)),(11,.asl 1 1 (acc.map fun n=>[dI n])),(12,sI last),(13,sI ((b2.toNat+1:Nat):Int))] [zav c,.tok 1 (acc.map fun n=>[dI n]).length];refine xc (σ:=Nat) (fun j=>[(4,.imm (qh nd)),(6,sI b1),(7,sI b2),(10,.imm (zi d)),(11,.asl 1 1 (acc.map fun n=>[dI n])),(12,sI last),(13,sI j)]) (fun _=>[zav c,.tok 1 (acc.map fun n=>[dI n]).length])
       (fun j=>b2.toNat+1<=j/\j<=k) (fun j=>k-j) ?_ (b2.toNat+1) ⟨Nat.le_refl _,f1⟩
      rintro j ⟨j1,j2⟩ ihj;have hwj:=zk (n:=j) (by omega);have hIn:=zkl G0 nl (j:Int) (by omega);obtain ⟨v,hv⟩:∃v,d[j]?=some v:=⟨_,List.getElem?_eq_getElem (by omega)⟩;have hvr:(d.map fun n=>[dI n])[j]?=some [dI v]:=by simp [hv]
      have hvd:d.getD j 0=v:=by rw [List.getD_eq_getElem?_getD,hv];rfl
      have hQ:j<k->(decide ((j:Int)∈nl)&&decide (v=((left+1:Nat):Int)))=false:=fun h=>by have:=f4 j j1 h;rwa [hvd] at this
      have hQk:j=k->(decide ((j:Int)∈nl)&&decide (v=((left+1:Nat):Int)))=true:=fun h=>by subst h;rwa [hvd] at f3
      have hnext:j<k->SW E _ _ _:=fun h=>ihj (j+1) ⟨by omega,by omega⟩ (by omega)
      (refine zf ?_;conv=>whnf)
      repeat' ((with_reducible refine way ?_ ?_)<;>(intro h;conv=>whnf))
      all_goals try (exfalso;omega)
      refine zh (i:=last.toNat) (row:=[zi nl]) rfl (Int.toNat_of_nonneg i5).symm hrnl ?_;(refine za ?_;conv=>whnf);refine ze rfl  hIn ?_
      by_cases hin:(j:Int)∈nl
      ·rw [decide_eq_true hin,Bool.true_and] at hQ hQk
       rw [decide_eq_true hin];(refine za ?_;conv=>whnf);refine zh (i:=j) (row:=[dI v]) rfl rfl hvr ?_;(refine za ?_;conv=>whnf);rw [hwb]
       by_cases hjk:j=k
       ·have hvk:v=((left+1:Nat):Int):=of_decide_eq_true (hQk hjk)
        subst hjk
        repeat' ((with_reducible refine way ?_ ?_)<;>(intro h;conv=>whnf))
        ·refine wm (b:=1) (kk:=1) (rows:=acc.map fun n=>[dI n]) (new:=[[dI j]]) rfl ⟨show 8<=65536 by decide,rfl⟩ rfl (by rw [List.length_map];simp only [List.length_cons,List.length_nil];omega) ?_
         refine Eq.mpr (congrArg (fun v=>SWr E _ _ _ (wz _ _ (.asl 1 1 v)) _) e5) ?_;refine Eq.mpr (congrArg (fun v=>SWr E _ _ _ _ (List.set _ 1 (.tok 1 v))) e6) ?_;(refine za ?_;conv=>whnf);exact zg [4,6,7,10,11] hend
        ·exact absurd hvk h
       ·have hvk:¬v=((left+1:Nat):Int):=of_decide_eq_false (hQ (by omega))
        repeat' ((with_reducible refine way ?_ ?_)<;>(intro h;conv=>whnf))
        ·exact absurd h hvk
        ·rw [hwj]
         refine zg [4,6,7,10,11,12,13] ?_;exact hnext (by omega)
      ·rw [decide_eq_false hin,Bool.false_and] at hQk
       have hjk:j<k:=by
        rcases Nat.lt_or_ge j k with h|h
        ·exact h
        ·have:=hQk (by omega);cases this
       rw [decide_eq_false hin];(refine za ?_;conv=>whnf);rw [hwj];refine zg [4,6,7,10,11,12,13] ?_;exact hnext hjk
   ·rintro done x rest _ hda hdl _ ih
    have hw:=zk (n:=done.length) (by omega);have hs:=hst done.length (by omega);have hsl:=(zqp hnd (to:=done.length)).1.len;have hfi:f done.length=(qf nd done.length).getD done.length 0:=by rw [hf]
    have hbs:qw f (done.length+1)=if f done.length<(qw f done.length).1 then (f done.length,(done.length:Int)) else qw f done.length:=by
     unfold qw;rw [List.range_succ,List.foldl_append];rfl
    change ∀_,_->SW E _ [(4,.imm (qh nd)),(6,sI (qw f (done.length+1)).1),(7,sI (qw f (done.length+1)).2),(8,sI ((done.length+1:Nat):Int))] [zav c] at ih;rw [hbs] at ih;rw [hfi] at ih;generalize qf nd done.length=d at hs ih hsl;generalize qw f done.length=b at ih ⊢;obtain ⟨b1,b2⟩:=b;obtain ⟨v,hv⟩:∃v,d[done.length]?=some v:=⟨_,List.getElem?_eq_getElem (by omega)⟩;have hvr:(d.map fun n=>[dI n])[done.length]?=some [dI v]:=by simp [hv]
    have hvd:d.getD done.length 0=v:=by rw [List.getD_eq_getElem?_getD,hv];rfl
    rw [hvd] at ih;simp only at ih;(refine zf ?_;conv=>whnf)
    repeat' ((with_reducible refine way ?_ ?_)<;>(intro h;conv=>whnf))
    all_goals try (exfalso;omega)
    refine ze rfl  hs ?_;(refine za ?_;conv=>whnf);refine zh (i:=done.length) (row:=[dI v]) rfl rfl hvr ?_;(refine za ?_;conv=>whnf)
    repeat' ((with_reducible refine way ?_ ?_)<;>(intro h;conv=>whnf))
    ·rw [if_pos h] at ih
     refine zh (i:=done.length) (row:=[dI v]) rfl rfl hvr ?_;(refine za ?_;conv=>whnf);rw [hw];exact zg [4,6,7,8] (ih () trivial)
    ·rw [if_neg h] at ih
     rw [hw];exact zg [4,6,7,8] (ih () trivial)
  ·rintro done x rest l hda hdl h2 ih
   have hw:=zk (n:=done.length) (by omega);have hNi:=hN done.length (by omega);have hll:l.length=done.length:=by rw [h2];simp
   have hend:=ih (l++[xe c done.length]) (by rw [List.length_append,List.length_cons,List.length_nil,List.range_succ,List.map_append, <-h2];rfl);have e5:(l.map fun n=>[zi n])++[[zi (xe c done.length)]]=(l++[xe c done.length]).map fun n=>[zi n]:=by simp
   have e6:(l.map fun n=>[zi n]).length+[[zi (xe c done.length)]].length=((l++[xe c done.length]).map fun n=>[zi n]).length:=by simp
   (refine zf ?_;conv=>whnf)
   repeat' ((with_reducible refine way ?_ ?_)<;>(intro h;conv=>whnf))
   all_goals try (exfalso;omega)
   refine ze rfl  hNi ?_;(refine za ?_;conv=>whnf);refine wm (b:=1) (kk:=1) (rows:=l.map fun n=>[zi n]) (new:=[[zi (xe c done.length)]]) rfl ⟨show 24<=65536 by decide,rfl⟩ rfl (by rw [List.length_map];simp only [List.length_cons,List.length_nil];omega) ?_;refine Eq.mpr (congrArg (fun v=>SWr E _ _ _ (wz _ _ (.asl 1 1 v)) _) e5) ?_;refine Eq.mpr (congrArg (fun v=>SWr E _ _ _ _ (List.set _ 1 (.tok 1 v))) e6) ?_;(refine za ?_;conv=>whnf);rw [hw];exact zg [1,4,5] hend
theorem ywt {c:Codex} (hb:zv c=true) (hF:c.facts.length<=12) (hw:∀a∈c.arts,a.when_.length<=41) {i:Nat} (hi:i<c.arts.length):isDead c (i:Int)=(zgi c [(i:Int)]&& !(yg c [(i:Int)]).isSome):=by
 have h1:=(yqw hb hF hw hi).1;rw [<-h1,zoo hb];rw [Bool.eq_iff_iff];simp only [decide_eq_true_eq,List.mem_filter];constructor
 ·exact fun h=>⟨List.mem_map.2 ⟨i,List.mem_range.2 hi,rfl⟩,h⟩
 ·exact fun h=>h.2
theorem ygv (c : Codex) (hS : SmallC c) : zw Tryz.prog G0 18 [c.sv] (.imm (zi (zdo c))) := by
  have hal : (c.arts.map Article.cells).length = c.arts.length := by simp
  have hA := hS.arts
  have hFc := hS.facts
  have hlc := hS.lines
  have hw41 : ∀ a ∈ c.arts, a.when_.length <= 41 := fun a ha => (hS.when_ a ha).1
  have hV := zaw G0 c (by omega) hlc (by omega) hS.fit
  rw [zlw] at hV
  cases hb : zv c with
  | false =>
    rw [hb] at hV
    have hd : zdo c = [] := by unfold zdo; rw [if_neg (by simp [hb])]
    rw [hd]
    refine zao ?_ (SV.Is.nil 1)
    refine zc Tryz.func18 rfl (by rw [Tryz.ntmps18]; simp) rfl rfl ?_; intro E hH hK
    rw [show c.sv = .agg [.imm (zj c.facts), .imm (zj c.lines), .imm (yl c.arts)] from rfl]
    (refine zf ?_; conv => whnf)
    refine ze rfl  hV ?_
    (refine za ?_; conv => whnf)
    refine zg [1, 2, 3, 4, 5] ?_
    refine xc (σ := Unit) (fun _ => [(1, .ptr 0 0), (2, zdp), (3, zdp), (4, sB false), (5, sI 0)]) (fun _ => [.cells [.imm (zj c.facts), .imm (zj c.lines), .imm (yl c.arts)]]) (fun _ => True) (fun _ => 0) ?_ () trivial
    rintro _ _ _
    (refine zf ?_; conv => whnf)
    repeat' ((with_reducible refine way ?_ ?_) <;> (intro h; conv => whnf))
    all_goals try (exfalso; omega)
    all_goals exact hK _
  | true =>
    rw [hb] at hV
    have hdo := zoo hb
    refine zc Tryz.func18 rfl (by rw [Tryz.ntmps18]; simp) rfl rfl ?_; intro E hH hK
    rw [show c.sv = .agg [.imm (zj c.facts), .imm (zj c.lines), .imm (yl c.arts)] from rfl]
    (refine zf ?_; conv => whnf)
    refine ze rfl  hV ?_
    (refine za ?_; conv => whnf)
    refine zjr (n := 3) (kk := 1) rfl ?_
    refine zg [1, 3, 4, 5] ?_
    change SW E _ [(1, .ptr 0 0), (3, .asl 1 1 []), (4, sB true), (5, sI 0)] [zav c, .tok 1 0]
    refine zo c.arts (fun i (l : List Int) => [(1, .ptr 0 0), (3, .asl 1 1 (l.map fun n => [dI n])), (4, sB true), (5, sI i)]) (fun _ l => [zav c, .tok 1 (l.map fun n => [dI n]).length])
      (fun done _ l => l = ((List.range done.length).map fun (i : Nat) => (i : Int)).filter (isDead c) /\ l.length <= done.length) [] ⟨rfl, by simp⟩ ?_ ?_
    · rintro l ⟨h2, _⟩
      rw [hdo, <- h2] at hK
      refine zay ?_
      change SW E _ [(1, .ptr 0 0), (3, .imm (zi l)), (4, sB true), (5, sI c.arts.length)] _
      (refine zf ?_; conv => whnf)
      repeat' ((with_reducible refine way ?_ ?_) <;> (intro h; conv => whnf))
      all_goals try (exfalso; omega)
      exact hK _
    · rintro done x rest l hda hdl ⟨h2, h3⟩ ih
      have hw := zk (n := done.length) (by omega)
      have hi : done.length < c.arts.length := by omega
      have hv : ∀ v ∈ [(done.length : Int)], 0 <= v /\ v < c.arts.length := fun v hv => by simp at hv; subst hv; omega
      have hW := zqo c hS [(done.length : Int)] (by simp)
      obtain ⟨sl, hC, hsl⟩ := zxm (G := G0) c hb hFc hw41 [(done.length : Int)] (by simp) hv
      have hdr := ywt hb hFc hw41 hi
      have hsn : ∀ b, isDead c (done.length : Int) = b -> l ++ (if b = true then [(done.length : Int)] else []) = ((List.range (done ++ [x]).length).map fun (i : Nat) => (i : Int)).filter (isDead c) := fun b hb => by
        rw [List.length_append, List.length_cons, List.length_nil, List.range_succ, List.map_append, List.filter_append, <- h2]
        simp only [List.map_cons, List.map_nil, List.filter_cons, hb, List.filter_nil]
      have hsn := hsn _ rfl
      rw [hdr] at hsn
      unfold ylw at hW
      generalize yg c [(done.length : Int)] = o at hW hsn
      generalize o.isSome = b1 at hW hsn
      generalize o.getD zrk = v at hW
      obtain ⟨vday, vhas, vval, varts⟩ := v
      change zw _ _ _ _ (.tup [.agg [sI vday, .imm (qu vhas), .imm (zi vval), .imm (zi varts)], sB b1]) at hW
      generalize zgi c [(done.length : Int)] = b2 at hC hsn
      have e5 : (l.map fun n => [dI n]) ++ [[dI done.length]] = (l ++ [(done.length : Int)]).map fun n => [dI n] := by simp
      have e6 : (l.map fun n => [dI n]).length + [[dI done.length]].length = ((l ++ [(done.length : Int)]).map fun n => [dI n]).length := by simp
      (refine zf ?_; conv => whnf)
      repeat' ((with_reducible refine way ?_ ?_) <;> (intro h; conv => whnf))
      all_goals try (exfalso; omega)
      refine ze rfl  hC ?_
      rcases hsl with rfl | ⟨ls, rfl⟩
      all_goals (refine za ?_; conv => whnf)
      all_goals refine ze rfl  hW ?_
      all_goals cases b2 <;> cases b1 <;> ((refine za ?_; conv => whnf))
      all_goals first
        | (rw [hw]
           exact yy [1, 3, 4, 5] 2 (by rw [hH]; exact Nat.zero_le 2) (Nat.succ_le_succ (Nat.succ_le_succ (Nat.zero_le _))) rfl rfl (ih l ⟨by simpa using hsn, by simp; omega⟩))
        | (refine wm (b := 1) (kk := 1) (rows := l.map fun n => [dI n]) (new := [[dI done.length]]) rfl ⟨show 8 <= 65536 by decide, rfl⟩ rfl (by rw [List.length_map]; simp only [List.length_cons, List.length_nil]; omega) ?_
           refine Eq.mpr (congrArg (fun v => SWr E _ _ _ (wz _ _ (.asl 1 1 v)) _) e5) ?_
           refine Eq.mpr (congrArg (fun v => SWr E _ _ _ _ (List.set _ 1 (.tok 1 v))) e6) ?_
           (refine za ?_; conv => whnf)
           rw [hw]
           exact yy [1, 3, 4, 5] 2 (by rw [hH]; exact Nat.zero_le 2) (Nat.succ_le_succ (Nat.succ_le_succ (Nat.zero_le _))) rfl rfl (ih _ ⟨by simpa using hsn, by simp; omega⟩))
theorem yed (c:Codex) (hS:SmallC c):zw Tryz.prog G0 14 [c.sv] (yjl (wy c)):=by
 refine zao ?_ (zxj _);have hal:(c.arts.map Article.cells).length=c.arts.length:=by simp
 have hA:=hS.arts;have hFc:=hS.facts;have hlc:=hS.lines;have hw41:∀a∈c.arts,a.when_.length<=41:=fun a ha=>(hS.when_ a ha).1
 have hV:=zaw G0 c (by omega) hlc (by omega) hS.fit;rw [zlw] at hV;cases hb:zv c with
 |false=>
  rw [hb] at hV;have hd:wy c=none:=by unfold wy;rw [if_neg (by simp [hb])]
  rw [hd];refine zc Tryz.func14 rfl (by rw [Tryz.ntmps14];simp) rfl rfl ?_;intro E hH hK;rw [show c.sv= .agg [.imm (zj c.facts),.imm (zj c.lines),.imm (yl c.arts)] from rfl];(refine zf ?_;conv=>whnf);refine ze rfl  hV ?_;(refine za ?_;conv=>whnf);refine zg [1,2,3,4,5,6,7] ?_;refine xc (σ:=Unit) (fun _=>[(1,.ptr 0 0),(2,sI 0),(3,sI 0),(4,.ptr 1 0),(5,sB false),(6,sB false),(7,sI 0)]) (fun _=>[.cells [.imm (zj c.facts),.imm (zj c.lines),.imm (yl c.arts)],.cells jc]) (fun _=>True) (fun _=>0) ?_ () trivial;rintro _ _ _;(refine zf ?_;conv=>whnf)
  repeat' ((with_reducible refine way ?_ ?_)<;>(intro h;conv=>whnf))
  all_goals try (exfalso;omega)
  all_goals exact hK _
 |true=>
  rw [hb] at hV;have hdo:=zxi hb;refine zc Tryz.func14 rfl (by rw [Tryz.ntmps14];simp) rfl (by cases wy c<;>rfl) ?_;intro E hH hK;rw [show c.sv= .agg [.imm (zj c.facts),.imm (zj c.lines),.imm (yl c.arts)] from rfl];(refine zf ?_;conv=>whnf);refine ze rfl  hV ?_;(refine za ?_;conv=>whnf);refine zg [1,2,3,4,5,6,7] ?_;change SW E _ [(1,.ptr 0 0),(2,sI 0),(3,sI 0),(4,.ptr 1 0),(5,sB false),(6,sB true),(7,sI 0)] [zav c,.cells jc];refine zo c.arts (fun i (_:Unit)=>[(1,.ptr 0 0),(2,sI 0),(3,sI 0),(4,.ptr 1 0),(5,sB false),(6,sB true),(7,sI i)]) (fun _ _=>[zav c,.cells jc])
   (fun done _ _=>wy c=(zos c.arts.length done.length).findSome? (zgj c)) () hdo ?_ ?_
  ·rintro _ h1
   rw [ydh] at h1;rw [h1] at hK;(refine zf ?_;conv=>whnf)
   repeat' ((with_reducible refine way ?_ ?_)<;>(intro h;conv=>whnf))
   all_goals try (exfalso;omega)
   exact hK _
  ·rintro done x rest _ hda hdl h1 ih
   have hw:=zk (n:=done.length) (by omega);rw [zxh (by omega),List.findSome?_append] at h1;have hnext:wy c=(zos c.arts.length (done.length+1)).findSome? (zgj c)->SW E _ _ _:=fun h=>ih () (by rw [List.length_append];exact h)
   (refine zf ?_;conv=>whnf)
   repeat' ((with_reducible refine way ?_ ?_)<;>(intro h;conv=>whnf))
   all_goals try (exfalso;omega)
   rw [hw];refine zg [1,2,3,4,5,6,7,8] ?_;refine xc (σ:=Nat) (fun j=>[(1,.ptr 0 0),(2,sI 0),(3,sI 0),(4,.ptr 1 0),(5,sB false),(6,sB true),(7,sI done.length),(8,sI j)]) (fun _=>[zav c,.cells jc])
    (fun j=>done.length+1<=j/\j<=c.arts.length/\wy c=((yru c.arts.length done.length j).findSome? (zgj c)).or ((zos c.arts.length (done.length+1)).findSome? (zgj c))) (fun j=>c.arts.length-j) ?_ (done.length+1) ⟨Nat.le_refl _,by omega,h1⟩
   rintro j ⟨j1,j2,j3⟩ ih2;have hwj:=zk (n:=j) (by omega)
   by_cases hj:j<c.arts.length
   ·rw [ydi hj,List.findSome?_cons] at j3
    have hcon:=zql G0 c (⟨by omega,fun a ha=>by have:=hS.when_ a ha;omega,(hS.search hb).need.exs⟩:BeatC c) (fun a ha=>by have:=hS.when_ a ha;omega) (done.length:Int) (j:Int) (by omega) (by omega);have hW:=zqo c hS [(done.length:Int),(j:Int)] (by simp);have hgo:zgj c ((done.length:Int),(j:Int))=none->SW E _ _ _:=fun h=>by
     rw [h] at j3;exact ih2 (j+1) ⟨by omega,by omega,j3⟩ (by omega)
    have hst:∀v,zgj c ((done.length:Int),(j:Int))=some v->wy c=some v:=fun v h=>by
     rw [h] at j3;exact j3
    have hcf:zgj c ((done.length:Int),(j:Int))=if zbl c done.length j then (yg c [(done.length:Int),(j:Int)]).map fun v=>((done.length:Int),(j:Int),v) else none:=rfl
    generalize zbl c (done.length:Int) (j:Int)=b at hcon hcf;(refine zf ?_;conv=>whnf)
    repeat' ((with_reducible refine way ?_ ?_)<;>(intro h;conv=>whnf))
    all_goals try (exfalso;omega)
    refine ze rfl  hcon ?_;cases b<;>((refine za ?_;conv=>whnf))
    ·rw [hwj]
     refine zg [1,2,3,4,5,6,7,8] ?_;exact hgo hcf
    unfold ylw at hW;generalize yg c [(done.length:Int),(j:Int)]=o at hW hcf;cases o with
    |none=>
     refine ze rfl  hW ?_;(refine za ?_;conv=>whnf);rw [hwj];exact yy [1,2,3,4,5,6,7,8] 2 (by rw [hH];exact Nat.zero_le 2) (Nat.succ_le_succ (Nat.succ_le_succ (Nat.zero_le _))) rfl rfl (hgo hcf)
    |some v=>
     rw [hst _ hcf] at hK;obtain ⟨vday,vhas,vval,varts⟩:=v;refine ze rfl  hW ?_;(refine za ?_;conv=>whnf);refine zg [1,2,3,4,5,6,7,8,10] ?_;change SW E _ [(1,.ptr 0 0),(2,sI 0),(3,sI 0),(4,.ptr 1 0),(5,sB false),(6,sB true),(7,sI done.length),(8,sI j),(10,.ptr 2 0)] [zav c,.cells jc,.cells [sI vday,.imm (qu vhas),.imm (zi vval),.imm (zi varts)]];(refine zu 0 mixed rfl ?_;refine zb [777] (nx:=3) ?_;conv=>whnf);(refine zf ?_;conv=>whnf);exact hK _
   ·rw [yjk (by omega),List.findSome?_nil,Option.none_or] at j3
    have ej:j=c.arts.length:=by omega
    (refine zf ?_;conv=>whnf)
    repeat' ((with_reducible refine way ?_ ?_)<;>(intro h;conv=>whnf))
    all_goals try (exfalso;omega)
    rw [hw];refine zg [1,2,3,4,5,6,7] ?_;exact hnext j3
def yjs (v:View):Prop:=v.has.length<=1000/\v.value.length<=1000/\v.arts.length<=1000
theorem yjt:yjs zrk:=⟨by decide,by decide,by decide⟩
theorem yee {c:Codex} (hS:SmallC c) (vs:List Int):yjs ((yg c vs).getD zrk):=by
 cases hw:yg c vs with
 |none=>exact yjt
 |some w=>
  cases hb:zv c with
  |false=>unfold yg at hw;rw [hb] at hw;cases hw
  |true=>
   cases hin:vs.all (zdj c) with
   |false=>rw [zuv hin] at hw;cases hw
   |true=>
    have hv:=zxn hin;obtain ⟨_,_,_,x4,x5,x6,_⟩:=(zqd hb hS.facts (fun a ha=>(hS.when_ a ha).1) hv).2.2 _ hw;have:=zhs hv;have h1:=hS.facts;have h2:=hS.arts;rw [<-x6] at this;exact ⟨by rw [Option.getD_some,x5];omega,by rw [Option.getD_some,x4];omega,by rw [Option.getD_some];omega⟩
theorem ygw {c:Codex} (hS:SmallC c):yjs (((wy c).map (·.2.2)).getD zrk):=by
 cases hw:wy c with
 |none=>exact yjt
 |some p=>
  obtain ⟨i,j,v⟩:=p;cases hb:zv c with
  |false=>unfold wy at hw;rw [hb] at hw;cases hw
  |true=>
   have h5:=(ymt hb hw).2.2.2.2;have:=yee hS [i,j];rw [h5] at this;exact this
theorem yyr {G:List (Nat × D)} {v:View} (h:yjs v):zw Tryz.prog G 15 [v.sv,v.sv] (sB true):=by
 obtain ⟨h1,h2,h3⟩:=h;have hs:=zgc G v v ⟨by omega,by omega,by omega⟩ ⟨by omega,by omega,by omega⟩ ⟨by omega,by omega,by omega⟩ ⟨by omega,by omega⟩
 rwa [show v.same' v=true by simp [View.same',View.same]] at hs
theorem yys {G:List (Nat × D)} {l:List Int} (h:l.length<=1000):zw Tryz.prog G 16 [.imm (zi l),.imm (zi l)] (sB true):=by
 have hs:=zgb G l l (by omega) (by omega)
 rwa [decide_eq_true rfl] at hs
theorem matchLaw_spec (c:Codex) (hfit:Codex.fit c) (hsz:c.facts.length<=9223372036854775807/\c.lines.length<=9223372036854775807/\c.arts.length<=9223372036854775807) (vs:List Int) (hvz:vs.length<=9223372036854775807):
  zw Tryz.prog G0 3 [c.sv,.imm (zi vs)] (sB true):=by
 have hvl:(vs.map fun n=>[dI n]).length=vs.length:=by simp
 have hfw:=ymk c;refine zc Tryz.func3 rfl (by rw [Tryz.ntmps3];simp) rfl rfl ?_;intro E hH hK;rw [show c.sv= .agg [.imm (zj c.facts),.imm (zj c.lines),.imm (yl c.arts)] from rfl];cases hb1:yyf c<;>rw [hb1] at hfw
 case true=>
  obtain ⟨f1,f2,f3,f4⟩:=yrf hb1;have hS:SmallC c:=⟨f2,f1,hsz.2.1,f4⟩;have hW1:=fun h=>zim c hfit hS.search (by omega) vs h
  have hW2:=fun h=>zqo c hS vs h
  have hC1:=zur c hfit hS.search (by omega);have hC2:=yed c hS;have hD1:=zxc c hfit hS.search (by omega);have hD2:=ygv c hS;have hR1:=zpu G0 c hfit (fun h=>(hS.search h).need) (fun _=>by omega) (fun _=>zub (by omega)) (fun j=>by have:=ziq c j;omega) (by omega);have hR2:=ygu c hS;have hDs:(zdo c).length<=1000:=by
   unfold zdo;split
   ·exact Nat.le_trans (List.length_filter_le _ _) (by simp;omega)
   ·simp
  have hRs:(if zv c=true then zak (yc c) else []).length<=1000:=by
   split
   ·have:=(ywj (zub (c:=c) (by omega))).len
    rw [jp] at this;omega
   ·simp
  have hDe:=yys (G:=G0) hDs;have hRe:=yys (G:=G0) hRs;have hWe:=yyr (G:=G0) (yee hS vs);have hCe:=yyr (G:=G0) (ygw hS);unfold ylw at hW1 hW2;unfold yjl at hC1 hC2;generalize zdo c=dl at hD1 hD2 hDe;generalize (if zv c=true then zak (yc c) else [])=rl at hR1 hR2 hRe;generalize (yg c vs).getD zrk=w at hW1 hW2 hWe;generalize (yg c vs).isSome=wb at hW1 hW2;generalize ((wy c).map (·.1)).getD 0=i at hC1 hC2;generalize ((wy c).map (·.2.1)).getD 0=j at hC1 hC2;generalize ((wy c).map (·.2.2)).getD zrk=x at hC1 hC2 hCe;generalize (wy c).isSome=xb at hC1 hC2;obtain ⟨wd,wh,wv,wa⟩:=w;obtain ⟨xd,xh,xv,xa⟩:=x;rw [show View.sv ⟨wd,wh,wv,wa⟩= .agg [sI wd,.imm (qu wh),.imm (zi wv),.imm (zi wa)] from rfl] at hW1 hW2 hWe;rw [show View.sv ⟨xd,xh,xv,xa⟩= .agg [sI xd,.imm (qu xh),.imm (zi xv),.imm (zi xa)] from rfl] at hC1 hC2 hCe;(refine zf ?_;conv=>whnf);refine ze rfl  yul ?_;(refine za ?_;conv=>whnf);refine ze rfl  hfw ?_;(refine za ?_;conv=>whnf)
  repeat' ((with_reducible refine way ?_ ?_)<;>(intro h;conv=>whnf))
  ·exact hK _
  have hv20:vs.length<=1000:=by omega
  have hW1:=hW1 (by omega);have hW2:=hW2 hv20;refine ze rfl  hW1 ?_;(refine za ?_;conv=>whnf);refine ze rfl  hW2 ?_;(refine za ?_;conv=>whnf);refine ze rfl  hC1 ?_;(refine za ?_;conv=>whnf);refine ze rfl  hC2 ?_;cases wb<;>cases xb
  all_goals
   (refine za ?_;conv=>whnf);refine ze rfl  hWe ?_;(refine za ?_;conv=>whnf)
   repeat' ((with_reducible refine way ?_ ?_)<;>(intro h;conv=>whnf))
   all_goals try (exfalso;omega)
   refine ze rfl  hCe ?_;(refine za ?_;conv=>whnf);refine yy [2,5] 1 (by rw [hH];exact Nat.zero_le 1) (Nat.succ_le_succ (Nat.zero_le _)) rfl rfl ?_;change SW E _ [(2,.ptr 0 0),(5,sB true)] [zav c];(refine zu 0 mixed rfl ?_;refine zb [777] (nx:=1) ?_;conv=>whnf);refine yi rfl (show 1<=1 by decide) hD1 ?_;(refine zb [777] (nx:=1) ?_;conv=>whnf);refine yi rfl (show 1<=1 by decide) hD2 ?_;(refine zb [777] (nx:=1) ?_;conv=>whnf);refine yi rfl (show 1<=1 by decide) hDe ?_;(refine zb [777] (nx:=1) ?_;conv=>whnf);refine yi rfl (show 1<=1 by decide) hR1 ?_;(refine zb [777] (nx:=1) ?_;conv=>whnf);refine yi rfl (show 1<=1 by decide) hR2 ?_;(refine zb [777] (nx:=1) ?_;conv=>whnf);refine yi rfl (show 1<=1 by decide) hRe ?_;(refine zb [777] (nx:=1) ?_;conv=>whnf);(refine zf ?_;conv=>whnf);exact hK _
 all_goals
  (refine zf ?_;conv=>whnf);refine ze rfl  yul ?_;(refine za ?_;conv=>whnf);refine ze rfl  hfw ?_;(refine za ?_;conv=>whnf);exact hK _
end Go.Proofs.YtblpjknmhajcgaaGreatDoor