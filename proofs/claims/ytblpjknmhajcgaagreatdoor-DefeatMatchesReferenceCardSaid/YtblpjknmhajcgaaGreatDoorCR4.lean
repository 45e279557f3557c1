/- Contracts of functions of the program, joined from TKe, TKf, TKg, TKh, TKi, TSh43, TKj, TKk, TKl, TSh44, TKm, TKn, TKt, TBc, TBd, TKu, TKv, TKw: no condition. -/
import Derived.Test.YtblpjknmhajcgaaGreatDoorCR3
set_option linter.unusedSimpArgs false
set_option linter.unusedVariables false
set_option maxRecDepth 10000
set_option maxHeartbeats 4000000
namespace Go.Proofs.YtblpjknmhajcgaaGreatDoor
open Go Go.Sh
theorem ypn {d:Int} (h:1<=d/\d<=36524) (hlt:(wn (d-1)).2.2<28):wn d=((wn (d-1)).1,(wn (d-1)).2.1,(wn (d-1)).2.2+1):=by
 obtain ⟨M,h1,h2,h3,e⟩:=zyv (d:=d-1) (by omega);rw [e] at hlt ⊢;simp only at hlt ⊢;have hr:=zci M;have:=zer (d:=d) (y:=M / 12) (m:=M % 12) (r:=d-zy M) (by omega) (by omega) (by omega) (by rw [show 12*(M / 12)+M % 12=M by omega];omega) (by rw [show 12*(M / 12)+M % 12=M by omega];omega);rw [this]
 congr 2
 omega
theorem ybw {d:Int} (h:1<=d/\d<=36524):zaj d=(zaj (d-1)).tmod 7+1:=by
 unfold zaj;rw [if_pos (by omega),if_pos (by omega),Int.tmod_eq_emod_of_nonneg (a:=d+5) (by omega),Int.tmod_eq_emod_of_nonneg (a:=d-1+5) (by omega),Int.tmod_eq_emod_of_nonneg (by omega)];omega
theorem ytb {d:Int} (h:0<=d/\d<=36524):2000<=(wn d).1/\(wn d).1<=2099/\1<=(wn d).2.1/\(wn d).2.1<=12/\1<=(wn d).2.2/\(wn d).2.2<=31:=by
 obtain ⟨M,h1,h2,h3,e⟩:=zyv h;rw [e];simp only;have hr:=zci M;have hst:zy (M+1)=zy M+lenOf M:=rfl;omega
theorem yim {d:Int} (h:0<=d/\d<=36524):1<=zaj d/\zaj d<=7:=by
 unfold zaj;rw [if_pos h,Int.tmod_eq_emod_of_nonneg (by omega)];omega
def WHL (X : Nat -> SObj) (p0 p1 p2 p3 p4 : Int) (ch : List Bool) (vs : List Int) : List SObj :=
  [X 0, X 1, X 2, X 3, X 4, X 5, X 6, X 7, X 8, X 9, X 10, X 11, X 12, X 13, X 14, X 15, X 16, X 17, X 18, X 19, X 20, .cells (ch.map bvS), .cells (vs.map ivS),
   .cells [ivS p0, ivS p1, ivS p2, ivS p3, ivS p4, .osl 21 0 ch.length, .osl 22 0 vs.length]]
theorem yxq (X:Nat->SObj) (p0 p1 p2 p3 p4:Int) (ch:List Bool) (vs:List Int):WH X ⟨(p0,p1,p2,p3,p4),ch,vs⟩=WHL X p0 p1 p2 p3 p4 ch vs:=rfl
theorem zod {X:Nat->SObj} (hX:∀i,(X i).under 24=true) (p0 p1 p2 p3 p4:Int) (ch:List Bool) (vs:List Int) (day:Int) (hp:p4=0\/28<=p2):
  SPre Tryz.prog G0 68 [.ptr 23 0,sI day] (WH X ⟨(p0,p1,p2,p3,p4),ch,vs⟩) (fun r H'=>r= .tup []/\H'=WH X ⟨yf day,ch,vs⟩):=by
 refine zde hX Tryz.func68 rfl (by rw [Tryz.ntmps68];simp) rfl ?_;intro E hH hK;rw [yxq];(refine zf ?_;conv=>whnf)
 repeat' ((with_reducible refine way ?_ ?_)<;>(intro h;conv=>whnf))
 all_goals try (exfalso;omega)
 all_goals refine ze rfl  (ypi day) ?_
 all_goals (refine za ?_;conv=>whnf)
 all_goals refine ze rfl  (ybv G0 day) ?_
 all_goals (refine za ?_;conv=>whnf)
 all_goals exact hK (.tup []) [] ⟨yf day,ch,vs⟩ rfl ⟨rfl,rfl⟩
theorem ybx {X:Nat->SObj} (hX:∀i,(X i).under 24=true) (p0 p1 p2 p3 p4:Int) (ch:List Bool) (vs:List Int) (day:Int) (hp:0<p4/\p2<28) (h1:1<=p1/\p1<=7) (h2:0<=p2):
  SPre Tryz.prog G0 68 [.ptr 23 0,sI day] (WH X ⟨(p0,p1,p2,p3,p4),ch,vs⟩) (fun r H'=>r= .tup []/\H'=WH X ⟨(p0,p1.tmod 7+1,p2+1,p3,p4),ch,vs⟩):=by
 refine zde hX Tryz.func68 rfl (by rw [Tryz.ntmps68];simp) rfl ?_;intro E hH hK;rw [yxq];(refine zf ?_;conv=>whnf)
 repeat' ((with_reducible refine way ?_ ?_)<;>(intro h;conv=>whnf))
 all_goals try (exfalso;omega)
 (refine zu 0 mixed rfl ?_;refine zb [777] (nx:=24) ?_;conv=>whnf);(refine zf ?_;conv=>whnf);(refine zu 0 mixed rfl ?_;refine zb [777] (nx:=24) ?_;conv=>whnf);(refine zf ?_;conv=>whnf);have e1:IntKind.i64.wrap (p2+1)=p2+1:=yz (by omega) (by omega);have e2:IntKind.i64.wrap (p1.tmod 7+1)=p1.tmod 7+1:=by
  have:=Int.tmod_eq_emod_of_nonneg (a:=p1) (b:=7) (by omega);rw [this];exact yz (by omega) (by omega)
 have:=hK (.tup []) [] ⟨(p0,IntKind.i64.wrap (p1.tmod 7+1),IntKind.i64.wrap (p2+1),p3,p4),ch,vs⟩ rfl ⟨rfl,by rw [e1,e2]⟩;exact this
theorem yby {X:Nat->SObj} (hX:∀i,(X i).under 24=true) (s:St) (day:Int) (hd:0<=day/\day<=36524) (hp:s.p=(0,0,0,0,0)\/(1<=day/\s.p=yf (day-1))):
  SPre Tryz.prog G0 68 [.ptr 23 0,sI day] (WH X s) (fun r H'=>r= .tup []/\H'=WH X ⟨yf day,s.ch,s.vs⟩):=by
 obtain ⟨p,ch,vs⟩:=s;simp only at hp;rcases hp with rfl|⟨h1,rfl⟩
 ·exact zod hX 0 0 0 0 0 ch vs day (.inl rfl)
 ·have hw:=yim (d:=day-1) (by omega)
  have hr:=ytb (d:=day-1) (by omega)
  by_cases h28:(wn (day-1)).2.2<28
  ·have hn:=ypn (d:=day) ⟨h1,hd.2⟩ h28
   have hnw:=ybw (d:=day) ⟨h1,hd.2⟩;have:=ybx hX 0 (zaj (day-1)) (wn (day-1)).2.2 (wn (day-1)).2.1 (wn (day-1)).1 ch vs day ⟨by omega,h28⟩ hw (by omega);refine this.mono fun r H1 ⟨e1,e2⟩=>⟨e1,?_⟩
   rw [e2, <-hnw];unfold yf;rw [hn]
  ·exact zod hX 0 (zaj (day-1)) (wn (day-1)).2.2 (wn (day-1)).2.1 (wn (day-1)).1 ch vs day (.inr (by omega))
variable (G:List (Nat × D))
abbrev yS (n:Int):SV:=.imm (.val (.int .u8 n))
theorem yxr {n:Int} (h:n=0\/n=1\/n=2):IntKind.u8.wrap (IntKind.i64.wrap (48+n))=48+n:=by
 rcases h with rfl|rfl|rfl<;>rfl
theorem zvq {Y:Nat->SObj} (hY:∀i,(Y i).under 24=true) (c:Codex) (vers:List Int) (q:Sr) (s:St) (hl:s.ch.length=s.vs.length) (hc:∀x∈q.atoms,x.ok s.vs.length/\∃op l r,x= .cmp op l r) (hsz:q.atoms.length<=1073741824):
  SPre Tryz.prog G 70 [.ptr 2 0,.ptr 23 0] (WH (XS Y (yj c vers q)) s) (fun r H'=>r=sS (zpk q.atoms s)/\H'=WH (XS Y (yj c vers q)) s):=by
 have hX:=zfi hY c vers q;have hll:(q.atoms.map Cond.row).length=q.atoms.length:=by simp
 refine zde hX Tryz.func70 rfl (by rw [Tryz.ntmps70];simp) rfl ?_;intro E hH hK;(refine zf ?_;conv=>whnf);refine yig (n:=q.atoms.length) (zz:=yS 0) rfl rfl rfl rfl rfl rfl rfl rfl rfl ⟨by decide,rfl⟩ rfl (by rw [hll]) (by rw [hll]) hsz ?_;(refine za ?_;conv=>whnf);refine zg [0,1,5,17,18,19] ?_;rw [show List.replicate q.atoms.length (yS 0)=([]:List Cond).map (fun a=>yS (48+a.dec s))++List.replicate q.atoms.length (yS 0) from rfl];refine zo q.atoms (fun i (_:List Cond × Nat)=>[(0,.ptr 2 0),(1,.ptr 23 0),(5,.osl 24 0 q.atoms.length),(17,.asl 16 5 (q.atoms.map Cond.row)),(18,ivS (q.atoms.map Cond.row).length),(19,ivS i)])
  (fun _ d=>WH (XS Y (yj c vers q)) s++[.cells (d.1.map (fun a=>yS (48+a.dec s))++List.replicate d.2 (yS 0))]) (fun done rest d=>d=(done,rest.length)) ([],q.atoms.length) rfl ?_ ?_
 ·rintro _ rfl
  (refine zf ?_;conv=>whnf)
  repeat' ((with_reducible refine way ?_ ?_)<;>(intro h;conv=>whnf))
  all_goals try (exfalso;omega)
  refine ypd (ns:=q.atoms.map fun a=>48+a.dec s) rfl rfl rfl rfl (by show some (SObj.cells (q.atoms.map (fun a=>yS (48+a.dec s))++[]))=_;rw [List.append_nil,List.map_map];rfl) (by simp) rfl rfl rfl ?_;(refine za ?_;conv=>whnf);exact hK (sS _) [_] s rfl ⟨rfl,rfl⟩
 ·rintro done x rest _ ha hlen rfl ih
  have hw:=zk (n:=done.length) (by omega);obtain ⟨hx,op,l,r,rfl⟩:=hc x (by rw [ha];simp);have hrow:(q.atoms.map Cond.row)[((done.length:Nat):Int).toNat]?=some (Cond.row (.cmp op l r)):=by simp [ha]
  have hdx:=zoa G hX s hl _ hx;(refine zf ?_;conv=>whnf)
  repeat' ((with_reducible refine way ?_ ?_)<;>(intro h;conv=>whnf))
  all_goals try (exfalso;omega)
  refine zh rfl rfl  hrow ?_;(refine za ?_;conv=>whnf);refine xm 24 rfl rfl rfl rfl rfl rfl hdx ?_;intro r1 H1 hr _;obtain ⟨rfl,rfl⟩:=hr;(refine za ?_;conv=>whnf);rw [yxr (zka s _)];refine zfy (i:=done.length) rfl rfl rfl rfl rfl rfl rfl rfl (by omega) ?_;refine zbe (d:=done.map fun a=>yS (48+a.dec s)) (zz:=yS 0) (r:=List.replicate rest.length (yS 0)) (v:=yS (48+Cond.dec s (.cmp op l r))) rfl rfl rfl rfl rfl rfl rfl rfl rfl (by show 0+done.length*1=_;simp) ?_;(refine za ?_;conv=>whnf);rw [hw];have:=ih (done++[.cmp op l r],rest.length) rfl;simp only [List.map_append,List.map_cons,List.map_nil,List.append_assoc,List.cons_append,List.nil_append] at this;refine yy [0,1,5,17,18,19] 25 (by omega) (by simp [WH]) rfl ?_ this;show (WH (XS Y (yj c vers q)) s++[SObj.cells (done.map (fun a=>yS (48+a.dec s))++yS (48+Cond.dec s (.cmp op l r))::List.replicate rest.length (yS 0))]).all (SObj.under 25)=true;rw [List.all_append,xy (by omega) (zdd hX s)];simp only [List.all_cons,List.all_nil,Bool.and_true,Bool.true_and,ybu];exact zmw _ _ _ (zbm (f:=fun a:Cond=>yS (48+a.dec s)) (fun _=>rfl) _) (by simp only [SV.under.allUnder,zjx 25 (zz:=yS 0) rfl];rfl)
theorem ybz {Y:Nat->SObj} (hY:∀i,(Y i).under 24=true) (c:Codex) (vers:List Int) (q:Sr) (s:St):
  SPre Tryz.prog G 97 [.ptr 2 0] (WH (XS Y (yj c vers q)) s) (fun r H'=>r=sI (xl q.dates)/\H'=WH (XS Y (yj c vers q)) s):=by
 have hX:=zfi hY c vers q;refine zde hX Tryz.func97 rfl (by rw [Tryz.ntmps97];simp) rfl ?_;intro E hH hK;have hz:xl q.dates=if q.dates.getD 4 false then 36525 else if q.dates.getD 1 false&&(q.dates.getD 2 false||q.dates.getD 3 false) then 10227 else if q.dates.getD 2 false||q.dates.getD 3 false then 1461 else if q.dates.getD 1 false then 7 else 1:=rfl
 rw [hz] at hK;generalize hcs:yj c vers q=cs at hK ⊢;unfold yj at hcs;generalize q.dates.getD 0 false=d0 at hcs;generalize q.dates.getD 1 false=d1 at hK hcs;generalize q.dates.getD 2 false=d2 at hK hcs;generalize q.dates.getD 3 false=d3 at hK hcs;generalize q.dates.getD 4 false=d4 at hK hcs;subst hcs;cases d1<;>cases d2<;>cases d3<;>cases d4<;>((refine zf ?_;conv=>whnf))<;>exact hK (sI _) [] s rfl ⟨rfl,rfl⟩
abbrev zgt (c:Codex) (r:Int × Int) (v:Int):Int × Int:=match qj c v with|some a=>(max r.1 a.lo,min r.2 a.hi)|none=>r
def ypo (c:Codex):Prop:=∀a∈c.arts,0<=a.lo/\a.lo<=36525/\0<=a.hi/\a.hi<=36525
theorem zhq {c:Codex} {v:Int} {a:Article} (h:qj c v=some a):a∈c.arts:=by
 obtain ⟨j,_,h2⟩:=znw h;exact List.mem_of_getElem? h2
theorem yca {c:Codex} (hd:ypo c):∀(vs:List Int) (r:Int × Int),0<=r.1/\r.1<=36525/\0<=r.2/\r.2<=36525->0<=(vs.foldl (zgt c) r).1/\(vs.foldl (zgt c) r).1<=36525/\0<=(vs.foldl (zgt c) r).2/\(vs.foldl (zgt c) r).2<=36525
 |[],r,h=>h
 |v::vs,r,h=>by
  rw [List.foldl_cons];refine yca hd vs _ ?_;unfold zgt;split
  ·rename_i a ha
   have:=hd a (zhq ha);simp only;omega
  ·exact h
theorem yll {Y:Nat->SObj} (hY:∀i,(Y i).under 24=true) (c:Codex) (vers:List Int) (q:Sr) (s:St) (hd:ypo c) (hv:∀v∈vers,0<=v/\v<c.arts.length) (hsz:vers.length<=1073741824):
  SPre Tryz.prog G 67 [.ptr 2 0] (WH (XS Y (yj c vers q)) s) (fun r H'=>r= .tup [sI (ym c vers).1,sI (min (ym c vers).2 ((ym c vers).1+xl q.dates))]/\H'=WH (XS Y (yj c vers q)) s):=by
 have hX:=zfi hY c vers q;have hll:(vers.map fun n=>[dI n]).length=vers.length:=by simp
 have hhor:xl q.dates<=36525/\0<=xl q.dates:=by
  have:=zmy q.dates;unfold xl at*;split<;>(try split)<;>(try split)<;>(try split)<;>simp_all
 refine zde hX Tryz.func67 rfl (by rw [Tryz.ntmps67];simp) rfl ?_;intro E hH hK;(refine zf ?_;conv=>whnf);refine zg [0,4,5,11,12,13] ?_;refine zo vers (fun i (r:Int × Int)=>[(0,.ptr 2 0),(4,sI r.1),(5,sI r.2),(11,.imm (zi vers)),(12,ivS (vers.map fun n=>[dI n]).length),(13,ivS i)])
  (fun _ _=>WH (XS Y (yj c vers q)) s) (fun _ rest r=>ym c vers=rest.foldl (zgt c) r/\0<=r.1/\r.1<=36525/\0<=r.2/\r.2<=36525) (0,36525) ⟨rfl,by decide⟩ ?_ ?_
 ·rintro ⟨r1,r2⟩ ⟨h1,hr⟩
  simp only [List.foldl_nil] at h1 hr;rw [h1] at hK;(refine zf ?_;conv=>whnf)
  repeat' ((with_reducible refine way ?_ ?_)<;>(intro h;conv=>whnf))
  all_goals try (exfalso;omega)
  refine xm 24 rfl rfl rfl rfl rfl rfl (ybz G hY c vers q s) ?_;intro r3 H1 h3 _;obtain ⟨rfl,rfl⟩:=h3;(refine za ?_;conv=>whnf);have e:(if IntKind.i64.wrap (r1+xl q.dates)<r2 then IntKind.i64.wrap (r1+xl q.dates) else r2)=min r2 (r1+xl q.dates):=by
   rw [yz (by omega) (by omega)];omega
  exact hK (.tup [sI r1,sI (if IntKind.i64.wrap (r1+xl q.dates)<r2 then IntKind.i64.wrap (r1+xl q.dates) else r2)]) [] s rfl ⟨by rw [e],rfl⟩
 ·rintro done v rest ⟨r1,r2⟩ ha hlen ⟨h1,hr⟩ ih
  have hw:=zk (n:=done.length) (by omega);have hvr:=hv v (by rw [ha];simp);obtain ⟨a,haa⟩:∃a,qj c v=some a:=by
   refine ⟨c.arts[v.toNat]'(by omega),?_⟩;unfold qj;rw [if_neg (by omega),List.getElem?_eq_getElem]
  have hrow:(vers.map fun n=>[dI n])[((done.length:Nat):Int).toNat]?=some [dI v]:=by simp [ha]
  have harow:(c.arts.map Article.cells)[v.toNat]?=some a.cells:=by
   obtain ⟨j,rfl,h2⟩:=znw haa;simp [h2]
  rw [List.foldl_cons,zgt,haa] at h1;(refine zf ?_;conv=>whnf)
  repeat' ((with_reducible refine way ?_ ?_)<;>(intro h;conv=>whnf))
  all_goals try (exfalso;omega)
  refine zh rfl rfl  hrow ?_;(refine za ?_;conv=>whnf);refine zh (i:=v.toNat) rfl (by omega) harow ?_;(refine za ?_;conv=>whnf);refine zh (i:=v.toNat) rfl (by omega) harow ?_;(refine za ?_;conv=>whnf);rw [hw];have had:=hd a (zhq haa);simp only at hr h1;have e1:(if r1<a.lo then a.lo else r1)=max r1 a.lo:=by omega
  have e2:(if a.hi<r2 then a.hi else r2)=min r2 a.hi:=by omega
  exact yy [0,4,5,11,12,13] 24 (by omega) (by simp [WH]) rfl (zdd hX s) (ih (if r1<a.lo then a.lo else r1,if a.hi<r2 then a.hi else r2) ⟨by rw [e1,e2];exact h1,by simp only;omega⟩)
theorem ypp (m:Nat):yih Tryz.prog G 103 [.map m] 142 [.map m]:=by
 intro H;refine xw Tryz.func103 rfl (by rw [Tryz.ntmps103];simp) ?_;intro E hH hK;(refine zf ?_;conv=>whnf);exact hK _ _ ⟨rfl,rfl⟩
theorem ypq (m:Nat):yih Tryz.prog G 102 [.map m] 141 [.map m]:=by
 intro H;refine xw Tryz.func102 rfl (by rw [Tryz.ntmps102];simp) ?_;intro E hH hK;(refine zf ?_;conv=>whnf);exact hK _ _ ⟨rfl,rfl⟩
structure KeyH (Hf:SObj->List Int->List SObj) (es:List (Int × SV)) (N m b L:Nat) (lp:SObj):Prop where
 len:∀o d,(Hf o d).length=N
 box:∀o d,(Hf o d)[b]?=some (.cells [.map m])
 map:∀o d,(Hf o d)[m]?=some o
 set:∀o o' d,(Hf o d).set m o'=Hf o' d
 loop:∀o d,(Hf o d)[L]?=some lp
 und:∀es' clock d,es'.map (·.2)=es->(Hf (.pin .i64 es' clock) d).all (SObj.under N)=true
theorem yfg {Hf:SObj->List Int->List SObj} {es:List (Int × SV)} {N m b L:Nat} {f:FuncId} {n:Nat} {tL:List (Nat × SV)} {ps:Array Tmp} {asg bd:Code} (hf:KeyH Hf es N m b L (.loop .ready f n tL ps asg bd)) (hps:1=ps.size) (hLN:L<N) (hbN:b<N)
  (hy:∀es' clock done x it,es'.map (·.2)=es->done.length<es.length->SYield Tryz.prog G L [sI x] (Hf (.pin .i64 es' clock) done++[.iter m clock it clock]) (fun res H'=>res=true/\N+1<=H'.length/\H'.take (N+1)=Hf (.pin .i64 es' clock) (done++[x])++[.iter m clock it clock])):
  SCall Tryz.prog G 142 [.yld L,.ptr b 0] (Hf (.mapI .i64 es) []) (fun _ H'=>∃ks,ks.Perm (es.map (·.1))/\N<=H'.length/\H'.take N=Hf (.mapI .i64 es) ks):=by
 refine xw Tryz.func142 rfl (by rw [Tryz.ntmps142];simp) ?_;intro E hH hK;rw [hf.len] at hH;refine yid (b:=m) (hf.map _ _) ?_;intro es' clock hes hst;rw [hf.set];(refine qs [777,4] 1000 ?_;conv=>whnf);refine wt (v:=.map m) rfl rfl rfl rfl (hf.box _ _) rfl ?_;(refine za ?_;conv=>whnf);refine znx rfl rfl rfl rfl rfl (hf.map _ _) ?_;rw [hf.len];(refine za ?_;conv=>whnf);refine zg [0,1,5] ?_;have hlen:es'.length=es.length:=by rw [<-hes];simp
 refine xc (σ:=List Nat × List Int) (fun _=>[(0,.yld L),(1,.ptr b 0),(5,.ptr N 0)]) (fun x=>Hf (.pin .i64 es' clock) x.2++[.iter m clock x.1 clock])
  (fun x=>(x.2++(zdc es' x.1).map (·.2.1)).Perm (es'.map (·.2.1))) (fun x=>(zdc es' x.1).length) ?_ ([],[]) (by simp [zny])
 rintro ⟨seen,done⟩ hp ih;simp only at hp ih;have hbi:(Hf (.pin .i64 es' clock) done++[SObj.iter m clock seen clock])[N]?=some (.iter m clock seen clock):=by
  rw [List.getElem?_append_right (by rw [hf.len];exact Nat.le_refl _),hf.len];simp
 have hbm:(Hf (.pin .i64 es' clock) done++[SObj.iter m clock seen clock])[m]?=some (.pin .i64 es' clock):=by
  rw [List.getElem?_append_left (by have:=lt_of_getElem? (hf.map (.pin .i64 es' clock) done);exact this),hf.map]
 have hmN:m<N:=by have:=lt_of_getElem? (hf.map (.pin .i64 es' clock) done);rwa [hf.len] at this
 have hes1:es'.map (·.2.1)=es.map (·.1):=by rw [<-hes,List.map_map];rfl
 show SW E _ _ (Hf (.pin .i64 es' clock) done++[.iter m clock seen clock]);(refine zf ?_;conv=>whnf);refine zrs rfl rfl rfl rfl hbi hbm hst (Nat.le_refl _) (fun h0=>?_) (fun e he=>?_)
 ·refine jx (fun k h=>zys (b:=m) hbm h) ?_
  (refine za ?_;conv=>whnf);have e:((Hf (.pin .i64 es' clock) done++[SObj.iter m clock seen clock]).set m (.mapI .i64 (es'.map (·.2))))=Hf (.mapI .i64 es) done++[SObj.iter m clock seen clock]:=by
   rw [List.set_append_left _ _ (by rw [hf.len];exact hmN),hf.set,hes]
  rw [e];rw [h0,hes1] at hp;refine hK _ _ ⟨done,by simpa using hp,by simp [hf.len],?_⟩;rw [List.take_append_of_le_length (by rw [hf.len];exact Nat.le_refl _),List.take_of_length_le (by rw [hf.len];exact Nat.le_refl _)]
 ·have hset:∀it,(Hf (.pin .i64 es' clock) done++[SObj.iter m clock seen clock]).set N (.iter m clock it clock)=Hf (.pin .i64 es' clock) done++[SObj.iter m clock it clock]:=by
   intro it;rw [List.set_append_right _ _ (by rw [hf.len];exact Nat.le_refl _),hf.len];simp
  rw [hset];have hbi2:(Hf (.pin .i64 es' clock) done++[SObj.iter m clock (seen++[e.1]) clock])[N]?=some (.iter m clock (seen++[e.1]) clock):=by
   rw [List.getElem?_append_right (by rw [hf.len];exact Nat.le_refl _),hf.len];simp
  have hbm2:(Hf (.pin .i64 es' clock) done++[SObj.iter m clock (seen++[e.1]) clock])[m]?=some (.pin .i64 es' clock):=by
   rw [List.getElem?_append_left (by rw [hf.len];exact hmN),hf.map]
  have hloop:(Hf (.pin .i64 es' clock) done++[SObj.iter m clock (seen++[e.1]) clock])[L]?=some (.loop .ready f n tL ps asg bd):=by
   rw [List.getElem?_append_left (by rw [hf.len];exact hLN),hf.loop]
  obtain ⟨e1,e2,e3⟩:=e;have hperm:=zla hst.1 he;have hpl:=hperm.length_eq;have hpm:=hperm.map (·.2.1);simp only [List.map_cons,List.length_cons] at hpm hpl;have hdl:done.length<es.length:=by
   have:=hp.length_eq;simp only [List.length_append,List.length_map] at this;omega
  (refine we [777,9] 1000 ?_;conv=>whnf);refine znz rfl rfl rfl rfl hbi2 hbm2 (zhn he) ?_;(refine za ?_;conv=>whnf);refine yaw rfl rfl rfl rfl hloop hps rfl ?_;refine (hy es' clock done e2 (seen++[e1]) hes hdl).mono ?_;rintro _ H' ⟨rfl,hl',ht⟩;refine ⟨by simp only [List.length_append,hf.len,List.length_singleton];omega,?_⟩;(refine za ?_;conv=>whnf);refine yy [0,1,5] (N+1) (by omega) hl' (by show ((decide (L<N+1))&&(decide (b<N+1)&&(decide (N<N+1)&&true)))=true;simp;omega) ?_ ?_
  ·rw [ht,List.all_append,xy (by omega) (hf.und es' clock _ hes)]
   simp [SObj.under];omega
  ·rw [ht]
   exact ih (seen++[e1],done++[e2]) (by
    refine List.Perm.trans ?_ hp;simp only [List.append_assoc,List.cons_append,List.nil_append]
    exact (List.Perm.refl done).append hpm.symm) (by simp only;omega)
theorem yfh {Hf:SObj->List Int->List SObj} {es:List (Int × SV)} {N m b L:Nat} {f:FuncId} {n:Nat} {tL:List (Nat × SV)} {ps:Array Tmp} {asg bd:Code} (hf:KeyH Hf es N m b L (.loop .ready f n tL ps asg bd)) (hps:1=ps.size) (hLN:L<N) (hbN:b<N)
  (hy:∀es' clock done x it,es'.map (·.2)=es->done.length<es.length->SYield Tryz.prog G L [sI x] (Hf (.pin .i64 es' clock) done++[.iter m clock it clock]) (fun res H'=>res=true/\N+1<=H'.length/\H'.take (N+1)=Hf (.pin .i64 es' clock) (done++[x])++[.iter m clock it clock])):
  SCall Tryz.prog G 141 [.yld L,.ptr b 0] (Hf (.mapI .i64 es) []) (fun _ H'=>∃ks,ks.Perm (es.map (·.1))/\N<=H'.length/\H'.take N=Hf (.mapI .i64 es) ks):=by
 refine xw Tryz.func141 rfl (by rw [Tryz.ntmps141];simp) ?_;intro E hH hK;rw [hf.len] at hH;refine yid (b:=m) (hf.map _ _) ?_;intro es' clock hes hst;rw [hf.set];(refine qs [777,4] 1000 ?_;conv=>whnf);refine wt (v:=.map m) rfl rfl rfl rfl (hf.box _ _) rfl ?_;(refine za ?_;conv=>whnf);refine znx rfl rfl rfl rfl rfl (hf.map _ _) ?_;rw [hf.len];(refine za ?_;conv=>whnf);refine zg [0,1,5] ?_;have hlen:es'.length=es.length:=by rw [<-hes];simp
 refine xc (σ:=List Nat × List Int) (fun _=>[(0,.yld L),(1,.ptr b 0),(5,.ptr N 0)]) (fun x=>Hf (.pin .i64 es' clock) x.2++[.iter m clock x.1 clock])
  (fun x=>(x.2++(zdc es' x.1).map (·.2.1)).Perm (es'.map (·.2.1))) (fun x=>(zdc es' x.1).length) ?_ ([],[]) (by simp [zny])
 rintro ⟨seen,done⟩ hp ih;simp only at hp ih;have hbi:(Hf (.pin .i64 es' clock) done++[SObj.iter m clock seen clock])[N]?=some (.iter m clock seen clock):=by
  rw [List.getElem?_append_right (by rw [hf.len];exact Nat.le_refl _),hf.len];simp
 have hbm:(Hf (.pin .i64 es' clock) done++[SObj.iter m clock seen clock])[m]?=some (.pin .i64 es' clock):=by
  rw [List.getElem?_append_left (by have:=lt_of_getElem? (hf.map (.pin .i64 es' clock) done);exact this),hf.map]
 have hmN:m<N:=by have:=lt_of_getElem? (hf.map (.pin .i64 es' clock) done);rwa [hf.len] at this
 have hes1:es'.map (·.2.1)=es.map (·.1):=by rw [<-hes,List.map_map];rfl
 show SW E _ _ (Hf (.pin .i64 es' clock) done++[.iter m clock seen clock]);(refine zf ?_;conv=>whnf);refine zrs rfl rfl rfl rfl hbi hbm hst (Nat.le_refl _) (fun h0=>?_) (fun e he=>?_)
 ·refine jx (fun k h=>zys (b:=m) hbm h) ?_
  (refine za ?_;conv=>whnf);have e:((Hf (.pin .i64 es' clock) done++[SObj.iter m clock seen clock]).set m (.mapI .i64 (es'.map (·.2))))=Hf (.mapI .i64 es) done++[SObj.iter m clock seen clock]:=by
   rw [List.set_append_left _ _ (by rw [hf.len];exact hmN),hf.set,hes]
  rw [e];rw [h0,hes1] at hp;refine hK _ _ ⟨done,by simpa using hp,by simp [hf.len],?_⟩;rw [List.take_append_of_le_length (by rw [hf.len];exact Nat.le_refl _),List.take_of_length_le (by rw [hf.len];exact Nat.le_refl _)]
 ·have hset:∀it,(Hf (.pin .i64 es' clock) done++[SObj.iter m clock seen clock]).set N (.iter m clock it clock)=Hf (.pin .i64 es' clock) done++[SObj.iter m clock it clock]:=by
   intro it;rw [List.set_append_right _ _ (by rw [hf.len];exact Nat.le_refl _),hf.len];simp
  rw [hset];have hbi2:(Hf (.pin .i64 es' clock) done++[SObj.iter m clock (seen++[e.1]) clock])[N]?=some (.iter m clock (seen++[e.1]) clock):=by
   rw [List.getElem?_append_right (by rw [hf.len];exact Nat.le_refl _),hf.len];simp
  have hbm2:(Hf (.pin .i64 es' clock) done++[SObj.iter m clock (seen++[e.1]) clock])[m]?=some (.pin .i64 es' clock):=by
   rw [List.getElem?_append_left (by rw [hf.len];exact hmN),hf.map]
  have hloop:(Hf (.pin .i64 es' clock) done++[SObj.iter m clock (seen++[e.1]) clock])[L]?=some (.loop .ready f n tL ps asg bd):=by
   rw [List.getElem?_append_left (by rw [hf.len];exact hLN),hf.loop]
  obtain ⟨e1,e2,e3⟩:=e;have hperm:=zla hst.1 he;have hpl:=hperm.length_eq;have hpm:=hperm.map (·.2.1);simp only [List.map_cons,List.length_cons] at hpm hpl;have hdl:done.length<es.length:=by
   have:=hp.length_eq;simp only [List.length_append,List.length_map] at this;omega
  (refine we [777,9] 1000 ?_;conv=>whnf);refine znz rfl rfl rfl rfl hbi2 hbm2 (zhn he) ?_;(refine za ?_;conv=>whnf);refine yaw rfl rfl rfl rfl hloop hps rfl ?_;refine (hy es' clock done e2 (seen++[e1]) hes hdl).mono ?_;rintro _ H' ⟨rfl,hl',ht⟩;refine ⟨by simp only [List.length_append,hf.len,List.length_singleton];omega,?_⟩;(refine za ?_;conv=>whnf);refine yy [0,1,5] (N+1) (by omega) hl' (by show ((decide (L<N+1))&&(decide (b<N+1)&&(decide (N<N+1)&&true)))=true;simp;omega) ?_ ?_
  ·rw [ht,List.all_append,xy (by omega) (hf.und es' clock _ hes)]
   simp [SObj.under];omega
  ·rw [ht]
   exact ih (seen++[e1],done++[e2]) (by
    refine List.Perm.trans ?_ hp;simp only [List.append_assoc,List.cons_append,List.nil_append]
    exact (List.Perm.refl done).append hpm.symm) (by simp only;omega)
theorem zpr (b:Nat) (l:List Int) (H:List SObj) (hb:H[b]?=some (.vec 1 (l.map sI))) (hsz:l.length<=1073741824):
  SCall Tryz.prog G 64 [.vec b l.length] H (fun r H'=>r= .tup []/\H'=H.set b (.vec 1 ((zar l).map sI))):=by
 intro w I β vs hH hv;obtain ⟨v,hvs,hr⟩:=hv.one;have hvv:vs=#[v]:=by apply Array.ext';simpa using hvs
 subst hvv;obtain ⟨hbu,hcase⟩:=zmr hH hb hr (by simp) (Nat.le_refl _);rcases hcase with ⟨h0,rfl,_⟩|⟨c,cap,cur,T,rfl,a1,a2,a2',hmax,a3,a4⟩
 ·have hl:l=[]:=List.length_eq_zero_iff.1 h0
  subst hl;refine (Go.Proofs.Tryz.slices_Sort_int_none none 0 w).mono ?_;rintro e w' ⟨rfl,rfl⟩;refine ⟨_,.tup [],I,β,_,rfl,⟨rfl,rfl⟩,.tup #[] [] rfl (fun j h=>by simp at h),?_⟩;have e:H.set b (.vec 1 ((zar ([]:List Int)).map sI))=H:=by
   have:(zar ([]:List Int)).map sI=([]:List Int).map sI:=by simp
   rw [this];obtain ⟨hlt,he⟩:=List.getElem?_eq_some_iff.1 hb;rw [<-he];exact List.set_getElem_self hlt
  rw [e];exact ⟨hH,.refl⟩
 have hsl:(zar l).length=l.length:=by simp
 have htake:cur.toList.take l.length=l.map (Value.int .i64):=by
  apply List.ext_getElem
  ·simp [a2];omega
  ·intro j h1 h2
   have hj:j<l.length:=by simpa using h2
   have hjc:j<cur.size:=by rw [a2];omega
   have:=a3 j (by simpa using hj) hjc;simp only [List.getElem_map] at this;simp only [List.getElem_take,Array.getElem_toList,List.getElem_map];generalize cur[j]=q at this;cases this with|imm h=>cases h;rfl
 refine (Go.Proofs.Tryz.slices_Sort_int c 0 cap l w (holds_of_blockI a1 htake) (js a1) (by omega)).mono ?_;rintro e w' ⟨rfl,n,os,rfl⟩;have hblk:=heap_sortedI (w:=w) (n:=n) (os:=os) (zar l).toArray a1;have hgrow:=grownBy_sortedI (w:=w) (g:=c) (n:=n) (os:=os) (zar l).toArray;generalize Go.Sort.grow (Go.Sort.putRow (Value.int .i64) (Go.Sort.ahead w n) c 0 (zar l).toArray) os=w' at hblk hgrow;have hold:∀c',c'<w.heap.size->c'≠c->w'.heap[c']?=w.heap[c']?:=fun c' h1 h2=>hgrow.block c' h1 (fun e=>h2 (by cases e;rfl))
 have hcellI:∀c' o,I c' o->w'.cell? ⟨c',o,none⟩=w.cell? ⟨c',o,none⟩:=fun c' o hi=>xg (hold c' (hH.inI c' o hi) (fun e=>a4 o (e ▸ hi))) o
 have hown:jr H β b c:=⟨_,_,hb,by simp,hbu,rfl⟩;have hbl:=lt_of_getElem? hb;have key:∀b' c',jr (H.set b (.vec 1 ((zar l).map sI))) β b' c'->jr H β b' c':=by
  rintro b' c' ⟨p,x,g1,g2,g3,g4⟩
  by_cases e:b'=b
  ·subst e;rw [hbu] at g3;cases g3;cases g4;exact hown
  ·rw [List.getElem?_set_ne (Ne.symm e)] at g1;exact ⟨p,x,g1,g2,g3,g4⟩
 have hnew:ObjOK w' I β (.vec 1 ((zar l).map sI)) (.tok (.slice (some ⟨c,0,none⟩) l.length cap)):=by
  refine .inr ⟨c,l.length,cap,_,T,rfl,hblk,by simp [Go.Sort.putCells,a2],a2',hmax,by simp,fun j hj hj'=>?_,a4⟩;have hjc:j<cur.size:=by simpa [Go.Sort.putCells] using hj'
  have hjl:j<l.length:=by simpa using hj
  simp only [Go.Sort.putCells,Array.getElem_mapIdx];rw [if_pos ⟨Nat.zero_le _,by simp;omega⟩];simp only [List.getElem_map,Nat.sub_zero];have:(zar l).toArray[j]! =(zar l)[j]'(by omega):=by simp [hjl]
  rw [this];exact .imm (.val _)
 refine ⟨_,.tup [],I,β,_,rfl,⟨rfl,rfl⟩,.tup #[] [] rfl (fun j h=>by simp at h),⟨by simp [hH.len],fun b' p x g1 g2=>?_,fun x y c' g1 g2=>hH.inj x y c' (key x c' g1) (key y c' g2),fun c' o hi=>Nat.lt_of_lt_of_le (hH.inI c' o hi) hgrow.size,fun g d hg=>(hH.glob g d hg).mono (fun _ _ h=>h) hcellI⟩,
  ⟨fun _ _ h=>h,hcellI,.refl _ _,fun c' hc' hn=>hold c' hc' (fun e=>hn b (e ▸ hown)),fun b' c' g=>.inl ⟨b',key b' c' g⟩,fun _ _ h=>.inl h,hgrow.size,⟨hgrow.os,hgrow.output⟩⟩⟩
 by_cases e:b'=b
 ·subst e
  rw [hbu] at g2;cases g2;rw [List.getElem?_set_self hbl] at g1;cases g1;exact hnew
 ·rw [List.getElem?_set_ne (Ne.symm e)] at g1
  by_cases hpd:p= .dead
  ·subst hpd;trivial
  ·refine (hH.obj b' p x g1 g2).mono (fun c' hc'=>hold c' ((hH.obj b' p x g1 g2).block_lt hpd hc') ?_) (fun _ _ h=>h) hcellI (.refl _ _) (fun _ _ _ h=>h)
   rintro rfl;exact e (hH.inj b' b _ ⟨p,x,g1,hpd,g2,hc'⟩ hown)
abbrev zdp:SV:=.imm (.val (.slice none 0 0))
theorem zyx {p:SObj->Bool} {H:List SObj} {m:Nat} {o:SObj} (hH:H.all p=true) (ho:p o=true):(H.set m o).all p=true:=by
 simp only [List.all_eq_true] at hH ⊢;intro x hx;rcases List.mem_or_eq_of_mem_set hx with h|rfl
 ·exact hH x h
 ·exact ho
theorem yin {H:List SObj} {m:Nat} {o:SObj} (h:H[m]?=some o):H.set m o=H:=by
 obtain ⟨hlt,he⟩:=List.getElem?_eq_some_iff.1 h;rw [<-he];exact List.set_getElem_self hlt
theorem zoe {es:List (Int × SV)} {es':List (Nat × Int × SV)} {clock n:Nat} (h:(SObj.mapI .i64 es).under n=true) (he:es'.map (·.2)=es):(SObj.pin .i64 es' clock).under n=true:=by
 subst he;simp only [SObj.under,List.all_eq_true,List.mem_map,forall_exists_index,and_imp] at h ⊢;intro e he;exact h e.2 e he rfl
theorem ypr {H:List SObj} {m:Nat} {o:SObj} (h:H[m]?=some o):o∈H:=List.mem_of_getElem? h
section
variable {A:List SObj} {n:Nat} (hn:A.length=n) (a a' c l it:SObj)
include hn
theorem yzz:(A++[a,c,l]++[it]).set n a'=A++[a',c,l]++[it]:=by subst hn;simp
theorem xaa:(A++[a,c,l]++[it]).set (n+1) a'=A++[a,a',l]++[it]:=by subst hn;simp
theorem yyv:(A++[a,c,l]++[it]).set (n+2) a'=A++[a,c,a']++[it]:=by subst hn;simp
theorem yyw:(A++[a,c,l]++[it])[n]?=some a:=by subst hn;simp
theorem xab:(A++[a,c,l]++[it])[n+1]?=some c:=by subst hn;simp
theorem ywv:(A++[a,c,l]++[it])[n+2]?=some l:=by subst hn;simp
end
theorem ycb {H:List SObj} {es:List (Int × SV)} {m b:Nat} (hb:H[b]?=some (.cells [.map m])) (hm:H[m]?=some (.mapI .i64 es)) (hmb:m≠b) (hu:H.all (SObj.under H.length)=true) (hsz:es.length<=1073741824):
  SCall Tryz.prog G 165 [zdp,.fn (.func 142) [] [.ptr b 0]] H (fun r H'=>∃ks:List Int,ks.Perm (es.map (·.1))/\r= .vec (H.length+1) ks.length/\H.length+2<=H'.length/\H'.take (H.length+2)=H++[.cells [.vec (H.length+1) ks.length],.vec 1 (ks.map sI)]):=by
 refine xw Tryz.func165 rfl (by rw [Tryz.ntmps165];simp) ?_;intro E hH hK;have hbl:=lt_of_getElem? hb;have hml:=lt_of_getElem? hm;(refine zf ?_;conv=>whnf);refine zpe H.length 0 1 (cs:=[zdp]) (by show (H++[SObj.cells [zdp]])[H.length]?=_;simp) rfl ?_;have e1:(H++[SObj.cells [zdp]]).set H.length (.cells ([zdp].set 0 (.vec (H++[SObj.cells [zdp]]).length 0)))++[.vec 1 []]=H++[SObj.cells [.vec (H.length+1) 0],.vec 1 []]:=by simp
 refine zg [2,6] ?_;refine Eq.mpr (congrArg (fun h=>SW E _ _ h) e1) ?_;show SW E _ [(2,.ptr H.length 0),(6,.fn (.func 142) [] [.ptr b 0])] _;refine zjs rfl rfl ?_;generalize hlp:SObj.loop .ready E.f _ [(2,SV.ptr H.length 0),(6,SV.fn (.func 142) [] [.ptr b 0])] _ _ _=lp;have hset:H.set m (.mapI .i64 es)=H:=yin hm;have hAl:∀o,(H.set m o).length=H.length:=fun o=>by simp
 have hf:KeyH (fun o (d:List Int)=>H.set m o++[.cells [.vec (H.length+1) d.length],.vec 1 (d.map sI),lp]) es (H.length+3) m b (H.length+2) lp:=by
  refine ⟨fun o d=>by simp,fun o d=>?_,fun o d=>?_,fun o o' d=>?_,fun o d=>?_,fun es' clock d he=>?_⟩
  ·rw [List.getElem?_append_left (by rw [hAl];exact hbl),List.getElem?_set_ne hmb];exact hb
  ·rw [List.getElem?_append_left (by rw [hAl];exact hml),List.getElem?_set_self hml]
  ·rw [List.set_append_left _ _ (by rw [hAl];exact hml),List.set_set]
  ·rw [List.getElem?_append_right (by rw [hAl];omega),hAl];simp
  ·rw [List.all_append,zyx (xy (m:=H.length) (n:=H.length+3) (by omega) hu) (zoe (SObj.under_mono (m:=H.length) (by omega) _ (by rw [List.all_eq_true] at hu;exact hu _ (ypr hm))) he)]
   subst hlp;simp only [List.all_cons,List.all_nil,SObj.under,SV.under.allUnder,SV.under,zbm (f:=sI) (fun _=>rfl),Bool.and_true,Bool.true_and,SV.under.allUnder,Bool.and_eq_true,decide_eq_true_eq];omega
 have harg:H++[SObj.cells [.vec (H.length+1) 0],SObj.vec 1 []]++[lp]=(fun o (d:List Int)=>H.set m o++[.cells [.vec (H.length+1) d.length],.vec 1 (d.map sI),lp]) (.mapI .i64 es) []:=by
  simp [hset]
 have hlen:(H++[SObj.cells [.vec (H.length+1) 0],SObj.vec 1 []]).length=H.length+2:=by simp
 rw [harg,hlen];subst hlp;refine (yfg G hf rfl (by omega) (by omega) ?_).mono ?_
 ·intro es' clock done x it hes hdl
  refine zjt (ywv (hAl _) _ _ _ _) E.hfn rfl (by decide) ?_;intro E3 hl3 hOwn hKR;(refine zf ?_;conv=>whnf);refine zyf hOwn (ywv (hAl _) _ _ _ _) ?_;refine Eq.mpr (congrArg (fun h=>SW E3 _ _ h) (yyv (hAl _) _ _ _ _ _)) ?_;(refine qs [777,8] 1000 ?_;conv=>whnf);refine wt (v:=.vec (H.length+1) done.length) rfl rfl rfl rfl (yyw (hAl _) _ _ _ _) rfl ?_;(refine za ?_;conv=>whnf);refine zsz (kk:=1) (new:=[[dI x]]) rfl rfl rfl rfl rfl rfl rfl rfl rfl rfl ⟨by decide,rfl⟩ (xab (hAl _) _ _ _ _) (by simp) (Nat.le_refl _) (by simp) (by simp;omega) ?_;refine Eq.mpr (congrArg (fun h=>SWr E3 _ _ _ _ h) (xaa (hAl _) _ _ _ _ _)) ?_;refine zbe (d:=[]) (zz:=.vec (H.length+1) done.length) (r:=[]) (v:=.vec (H.length+1) (done.length+1)) rfl rfl rfl rfl rfl rfl rfl rfl (yyw (hAl _) _ _ _ _) rfl ?_;refine Eq.mpr (congrArg (fun h=>SWr E3 _ _ _ _ h) (yzz (hAl _) _ _ _ _ _)) ?_;(refine za ?_;conv=>whnf);refine hKR none _ _ (by simp) (ywv (hAl _) _ _ _ _) ⟨rfl,by simp,?_⟩;rw [yyv (hAl _),List.take_of_length_le (by simp)];simp [LS.of]
 ·rintro r H' ⟨ks,hp,hl',ht⟩
  have hkl:ks.length=es.length:=by rw [hp.length_eq];simp
  have hg2:H'[H.length+2]?=(H'.take (H.length+3))[H.length+2]?:=by rw [List.getElem?_take,if_pos (by omega)]
  refine ⟨by omega,.ready,[(2,.ptr H.length 0),(6,.fn (.func 142) [] [.ptr b 0])],?_,.inl ⟨rfl,?_⟩⟩
  ·rw [hg2,ht,List.getElem?_append_right (by rw [hAl];omega),hAl]
   simp
  ·have ht2:(H'.set (H.length+2) .dead).take (H.length+2)=H++[.cells [.vec (H.length+1) ks.length],.vec 1 (ks.map sI)]:=by
    rw [List.take_set_of_le (Nat.le_refl _)];have:H'.take (H.length+2)=(H'.take (H.length+3)).take (H.length+2):=by rw [List.take_take];congr 1;omega
    rw [this,ht,hset,List.take_append];simp;exact List.take_of_length_le (by omega)
   refine yy [2] (H.length+2) (by omega) (by simp;omega) (by show (decide (H.length<H.length+2)&&true)=true;simp) ?_ ?_
   ·rw [ht2,List.all_append,xy (m:=H.length) (by omega) hu]
    simp [SObj.under,SV.under,SV.under.allUnder,zbm (f:=sI) (fun _=>rfl)]
   ·rw [ht2]
    (refine qs [777,12] 1000 ?_;conv=>whnf);refine wt (v:=.vec (H.length+1) ks.length) (cs:=[.vec (H.length+1) ks.length]) rfl rfl rfl rfl (by simp) rfl ?_;(refine za ?_;conv=>whnf);exact hK _ _ ⟨ks,hp,rfl,by simp,by rw [List.take_of_length_le (by simp)]⟩
theorem ycc {a b:List Int} (h:a.Perm b):zar a=zar b:=by
 have ha:=List.mergeSort_perm a fun x y=>decide (x<=y)
 have hb:=List.mergeSort_perm b fun x y=>decide (x<=y)
 have sa:(zar a).Pairwise fun x y=>x<=y:=by
  have:=List.pairwise_mergeSort (le:=fun (x y:Int)=>decide (x<=y)) (fun a b c h1 h2=>by simp at*;omega) (fun a b=>by simp;omega) a;simpa using this
 have sb:(zar b).Pairwise fun x y=>x<=y:=by
  have:=List.pairwise_mergeSort (le:=fun (x y:Int)=>decide (x<=y)) (fun a b c h1 h2=>by simp at*;omega) (fun a b=>by simp;omega) b;simpa using this
 exact List.Perm.eq_of_pairwise (fun x y _ _ h1 h2=>by omega) sa sb ((ha.trans h).trans hb.symm)
theorem ycd {H:List SObj} {es:List (Int × SV)} {m b:Nat} (hb:H[b]?=some (.cells [.map m])) (hm:H[m]?=some (.mapI .i64 es)) (hmb:m≠b) (hu:H.all (SObj.under H.length)=true) (hsz:es.length<=1073741824):
  SCall Tryz.prog G 165 [zdp,.fn (.func 141) [] [.ptr b 0]] H (fun r H'=>∃ks:List Int,ks.Perm (es.map (·.1))/\r= .vec (H.length+1) ks.length/\H.length+2<=H'.length/\H'.take (H.length+2)=H++[.cells [.vec (H.length+1) ks.length],.vec 1 (ks.map sI)]):=by
 refine xw Tryz.func165 rfl (by rw [Tryz.ntmps165];simp) ?_;intro E hH hK;have hbl:=lt_of_getElem? hb;have hml:=lt_of_getElem? hm;(refine zf ?_;conv=>whnf);refine zpe H.length 0 1 (cs:=[zdp]) (by show (H++[SObj.cells [zdp]])[H.length]?=_;simp) rfl ?_;have e1:(H++[SObj.cells [zdp]]).set H.length (.cells ([zdp].set 0 (.vec (H++[SObj.cells [zdp]]).length 0)))++[.vec 1 []]=H++[SObj.cells [.vec (H.length+1) 0],.vec 1 []]:=by simp
 refine zg [2,6] ?_;refine Eq.mpr (congrArg (fun h=>SW E _ _ h) e1) ?_;show SW E _ [(2,.ptr H.length 0),(6,.fn (.func 141) [] [.ptr b 0])] _;refine zjs rfl rfl ?_;generalize hlp:SObj.loop .ready E.f _ [(2,SV.ptr H.length 0),(6,SV.fn (.func 141) [] [.ptr b 0])] _ _ _=lp;have hset:H.set m (.mapI .i64 es)=H:=yin hm;have hAl:∀o,(H.set m o).length=H.length:=fun o=>by simp
 have hf:KeyH (fun o (d:List Int)=>H.set m o++[.cells [.vec (H.length+1) d.length],.vec 1 (d.map sI),lp]) es (H.length+3) m b (H.length+2) lp:=by
  refine ⟨fun o d=>by simp,fun o d=>?_,fun o d=>?_,fun o o' d=>?_,fun o d=>?_,fun es' clock d he=>?_⟩
  ·rw [List.getElem?_append_left (by rw [hAl];exact hbl),List.getElem?_set_ne hmb];exact hb
  ·rw [List.getElem?_append_left (by rw [hAl];exact hml),List.getElem?_set_self hml]
  ·rw [List.set_append_left _ _ (by rw [hAl];exact hml),List.set_set]
  ·rw [List.getElem?_append_right (by rw [hAl];omega),hAl];simp
  ·rw [List.all_append,zyx (xy (m:=H.length) (n:=H.length+3) (by omega) hu) (zoe (SObj.under_mono (m:=H.length) (by omega) _ (by rw [List.all_eq_true] at hu;exact hu _ (ypr hm))) he)]
   subst hlp;simp only [List.all_cons,List.all_nil,SObj.under,SV.under.allUnder,SV.under,zbm (f:=sI) (fun _=>rfl),Bool.and_true,Bool.true_and,SV.under.allUnder,Bool.and_eq_true,decide_eq_true_eq];omega
 have harg:H++[SObj.cells [.vec (H.length+1) 0],SObj.vec 1 []]++[lp]=(fun o (d:List Int)=>H.set m o++[.cells [.vec (H.length+1) d.length],.vec 1 (d.map sI),lp]) (.mapI .i64 es) []:=by
  simp [hset]
 have hlen:(H++[SObj.cells [.vec (H.length+1) 0],SObj.vec 1 []]).length=H.length+2:=by simp
 rw [harg,hlen];subst hlp;refine (yfh G hf rfl (by omega) (by omega) ?_).mono ?_
 ·intro es' clock done x it hes hdl
  refine zjt (ywv (hAl _) _ _ _ _) E.hfn rfl (by decide) ?_;intro E3 hl3 hOwn hKR;(refine zf ?_;conv=>whnf);refine zyf hOwn (ywv (hAl _) _ _ _ _) ?_;refine Eq.mpr (congrArg (fun h=>SW E3 _ _ h) (yyv (hAl _) _ _ _ _ _)) ?_;(refine qs [777,8] 1000 ?_;conv=>whnf);refine wt (v:=.vec (H.length+1) done.length) rfl rfl rfl rfl (yyw (hAl _) _ _ _ _) rfl ?_;(refine za ?_;conv=>whnf);refine zsz (kk:=1) (new:=[[dI x]]) rfl rfl rfl rfl rfl rfl rfl rfl rfl rfl ⟨by decide,rfl⟩ (xab (hAl _) _ _ _ _) (by simp) (Nat.le_refl _) (by simp) (by simp;omega) ?_;refine Eq.mpr (congrArg (fun h=>SWr E3 _ _ _ _ h) (xaa (hAl _) _ _ _ _ _)) ?_;refine zbe (d:=[]) (zz:=.vec (H.length+1) done.length) (r:=[]) (v:=.vec (H.length+1) (done.length+1)) rfl rfl rfl rfl rfl rfl rfl rfl (yyw (hAl _) _ _ _ _) rfl ?_;refine Eq.mpr (congrArg (fun h=>SWr E3 _ _ _ _ h) (yzz (hAl _) _ _ _ _ _)) ?_;(refine za ?_;conv=>whnf);refine hKR none _ _ (by simp) (ywv (hAl _) _ _ _ _) ⟨rfl,by simp,?_⟩;rw [yyv (hAl _),List.take_of_length_le (by simp)];simp [LS.of]
 ·rintro r H' ⟨ks,hp,hl',ht⟩
  have hkl:ks.length=es.length:=by rw [hp.length_eq];simp
  have hg2:H'[H.length+2]?=(H'.take (H.length+3))[H.length+2]?:=by rw [List.getElem?_take,if_pos (by omega)]
  refine ⟨by omega,.ready,[(2,.ptr H.length 0),(6,.fn (.func 141) [] [.ptr b 0])],?_,.inl ⟨rfl,?_⟩⟩
  ·rw [hg2,ht,List.getElem?_append_right (by rw [hAl];omega),hAl]
   simp
  ·have ht2:(H'.set (H.length+2) .dead).take (H.length+2)=H++[.cells [.vec (H.length+1) ks.length],.vec 1 (ks.map sI)]:=by
    rw [List.take_set_of_le (Nat.le_refl _)];have:H'.take (H.length+2)=(H'.take (H.length+3)).take (H.length+2):=by rw [List.take_take];congr 1;omega
    rw [this,ht,hset,List.take_append];simp;exact List.take_of_length_le (by omega)
   refine yy [2] (H.length+2) (by omega) (by simp;omega) (by show (decide (H.length<H.length+2)&&true)=true;simp) ?_ ?_
   ·rw [ht2,List.all_append,xy (m:=H.length) (by omega) hu]
    simp [SObj.under,SV.under,SV.under.allUnder,zbm (f:=sI) (fun _=>rfl)]
   ·rw [ht2]
    (refine qs [777,12] 1000 ?_;conv=>whnf);refine wt (v:=.vec (H.length+1) ks.length) (cs:=[.vec (H.length+1) ks.length]) rfl rfl rfl rfl (by simp) rfl ?_;(refine za ?_;conv=>whnf);exact hK _ _ ⟨ks,hp,rfl,by simp,by rw [List.take_of_length_le (by simp)]⟩
theorem zyy {H:List SObj} {es:List (Int × SV)} {m b:Nat} (hb:H[b]?=some (.cells [.map m])) (hm:H[m]?=some (.mapI .i64 es)) (hmb:m≠b) (hu:H.all (SObj.under H.length)=true) (hsz:es.length<=1073741824):
  SCall Tryz.prog G 140 [.fn (.func 142) [] [.ptr b 0]] H (fun r H'=>∃ks:List Int,ks.Perm (es.map (·.1))/\r= .vec (H.length+1) ks.length/\H.length+2<=H'.length/\H'.take (H.length+2)=H++[.cells [.vec (H.length+1) ks.length],.vec 1 (ks.map sI)]):=by
 refine xw Tryz.func140 rfl (by rw [Tryz.ntmps140];simp) ?_;intro E hH hK;(refine zf ?_;conv=>whnf);refine qb rfl rfl rfl rfl rfl rfl ((ycb G hb hm hmb hu hsz).mono ?_);rintro r H' ⟨ks,hp,rfl,hl,ht⟩;refine ⟨by omega,?_⟩;(refine za ?_;conv=>whnf);exact hK _ _ ⟨ks,hp,rfl,hl,ht⟩
theorem yce {H:List SObj} {es:List (Int × SV)} {m b:Nat} (hb:H[b]?=some (.cells [.map m])) (hm:H[m]?=some (.mapI .i64 es)) (hmb:m≠b) (hu:H.all (SObj.under H.length)=true) (hsz:es.length<=1073741824):
  SCall Tryz.prog G 101 [.fn (.func 142) [] [.ptr b 0]] H (fun r H'=>r= .imm (zi (zar (es.map (·.1))))/\H'=H):=by
 refine xw Tryz.func101 rfl (by rw [Tryz.ntmps101];simp) ?_;intro E hH hK;(refine zf ?_;conv=>whnf);refine qb rfl rfl rfl rfl rfl rfl ((zyy G hb hm hmb hu hsz).mono ?_);rintro r H' ⟨ks,hp,rfl,hl,ht⟩;refine ⟨by omega,?_⟩;have hkl:ks.length=es.length:=by rw [hp.length_eq];simp
 have hg1:H'[H.length+1]?=some (.vec 1 (ks.map sI)):=by
  have:H'[H.length+1]?=(H'.take (H.length+2))[H.length+1]?:=by rw [List.getElem?_take,if_pos (by omega)]
  rw [this,ht];simp
 (refine za ?_;conv=>whnf);refine qb rfl rfl rfl rfl rfl rfl ((zpr G (H.length+1) ks H' hg1 (by omega)).mono ?_);rintro r H2 ⟨rfl,rfl⟩;refine ⟨by simp,?_⟩;have hsl:(zar ks).length=ks.length:=by simp
 rw [<-ycc hp] at hK;generalize zar ks=ss at hK hsl ⊢;have hg2:(H'.set (H.length+1) (.vec 1 (ss.map sI)))[H.length+1]?=some (.vec 1 (ss.map sI)):=List.getElem?_set_self (by omega);have hc:=zkw (ss.map dI);rw [List.length_map,hsl] at hc;have ht2:((H'.set (H.length+1) (.vec 1 (ss.map sI))).set (H.length+1) .dead).take H.length=H:=by
  rw [List.set_set,List.take_set_of_le (by omega)];have:H'.take H.length=(H'.take (H.length+2)).take H.length:=by rw [List.take_take];congr 1;omega
  rw [this,ht];simp
 refine jx (t':=[(3,.imm (zi ss))]) (H':=H) (fun k h=>yhx 3 (H.length+1) ks.length 1 (cs:=ss.map sI) (ds:=ss.map dI) rfl hg2 (by simp [SV.one]) (by rw [show ss.map sI=(ss.map dI).map SV.imm by simp];exact zrq _) (by simp [hsl]) (Nat.le_refl _) ?_) ?_
 ·refine yy [3] H.length (by omega) (by simp;omega) rfl (by rw [ht2];exact hu) ?_
  rw [ht2,hc];exact cast (by simp [zi];rfl) h
 ·(refine za ?_;conv=>whnf)
  exact hK _ _ ⟨rfl,rfl⟩
theorem zyz {H:List SObj} {es:List (Int × SV)} {m b:Nat} (hb:H[b]?=some (.cells [.map m])) (hm:H[m]?=some (.mapI .i64 es)) (hmb:m≠b) (hu:H.all (SObj.under H.length)=true) (hsz:es.length<=1073741824):
  SCall Tryz.prog G 140 [.fn (.func 141) [] [.ptr b 0]] H (fun r H'=>∃ks:List Int,ks.Perm (es.map (·.1))/\r= .vec (H.length+1) ks.length/\H.length+2<=H'.length/\H'.take (H.length+2)=H++[.cells [.vec (H.length+1) ks.length],.vec 1 (ks.map sI)]):=by
 refine xw Tryz.func140 rfl (by rw [Tryz.ntmps140];simp) ?_;intro E hH hK;(refine zf ?_;conv=>whnf);refine qb rfl rfl rfl rfl rfl rfl ((ycd G hb hm hmb hu hsz).mono ?_);rintro r H' ⟨ks,hp,rfl,hl,ht⟩;refine ⟨by omega,?_⟩;(refine za ?_;conv=>whnf);exact hK _ _ ⟨ks,hp,rfl,hl,ht⟩
theorem ycf {H:List SObj} {es:List (Int × SV)} {m b:Nat} (hb:H[b]?=some (.cells [.map m])) (hm:H[m]?=some (.mapI .i64 es)) (hmb:m≠b) (hu:H.all (SObj.under H.length)=true) (hsz:es.length<=1073741824):
  SCall Tryz.prog G 101 [.fn (.func 141) [] [.ptr b 0]] H (fun r H'=>r= .imm (zi (zar (es.map (·.1))))/\H'=H):=by
 refine xw Tryz.func101 rfl (by rw [Tryz.ntmps101];simp) ?_;intro E hH hK;(refine zf ?_;conv=>whnf);refine qb rfl rfl rfl rfl rfl rfl ((zyz G hb hm hmb hu hsz).mono ?_);rintro r H' ⟨ks,hp,rfl,hl,ht⟩;refine ⟨by omega,?_⟩;have hkl:ks.length=es.length:=by rw [hp.length_eq];simp
 have hg1:H'[H.length+1]?=some (.vec 1 (ks.map sI)):=by
  have:H'[H.length+1]?=(H'.take (H.length+2))[H.length+1]?:=by rw [List.getElem?_take,if_pos (by omega)]
  rw [this,ht];simp
 (refine za ?_;conv=>whnf);refine qb rfl rfl rfl rfl rfl rfl ((zpr G (H.length+1) ks H' hg1 (by omega)).mono ?_);rintro r H2 ⟨rfl,rfl⟩;refine ⟨by simp,?_⟩;have hsl:(zar ks).length=ks.length:=by simp
 rw [<-ycc hp] at hK;generalize zar ks=ss at hK hsl ⊢;have hg2:(H'.set (H.length+1) (.vec 1 (ss.map sI)))[H.length+1]?=some (.vec 1 (ss.map sI)):=List.getElem?_set_self (by omega);have hc:=zkw (ss.map dI);rw [List.length_map,hsl] at hc;have ht2:((H'.set (H.length+1) (.vec 1 (ss.map sI))).set (H.length+1) .dead).take H.length=H:=by
  rw [List.set_set,List.take_set_of_le (by omega)];have:H'.take H.length=(H'.take (H.length+2)).take H.length:=by rw [List.take_take];congr 1;omega
  rw [this,ht];simp
 refine jx (t':=[(3,.imm (zi ss))]) (H':=H) (fun k h=>yhx 3 (H.length+1) ks.length 1 (cs:=ss.map sI) (ds:=ss.map dI) rfl hg2 (by simp [SV.one]) (by rw [show ss.map sI=(ss.map dI).map SV.imm by simp];exact zrq _) (by simp [hsl]) (Nat.le_refl _) ?_) ?_
 ·refine yy [3] H.length (by omega) (by simp;omega) rfl (by rw [ht2];exact hu) ?_
  rw [ht2,hc];exact cast (by simp [zi];rfl) h
 ·(refine za ?_;conv=>whnf)
  exact hK _ _ ⟨rfl,rfl⟩
end Go.Proofs.YtblpjknmhajcgaaGreatDoor
namespace Go.Sh
def zqx (ops:Array Oper) (listed:Array Bool):List Nat:=
 (List.range ops.size).filter fun i=> !listed.getD i true&&((ops[i]?).map (·.after.all fun e=> !Region.binds .any e||listed.getD e.on false)).getD false
def ycg (ops:Array Oper):Nat->Array Bool->List (List Nat)
 |0,_=>[[]]
 |n+1,listed=>match zqx ops listed with
  |[]=>[[]]
  |r::rs=>(r::rs).flatMap fun i=>(ycg ops n (listed.setIfInBounds i true)).map (i:: ·)
theorem yui (ops : Array Oper) : ∀ (fuel t : Nat) (listed : Array Bool), Region.linearise.go .any ops fuel t listed [] ∈ ycg ops fuel listed
  | 0, t, listed => by simp [Region.linearise.go, ycg]
  | fuel + 1, t, listed => by
    simp only [Region.linearise.go, ycg]
    change (match (zqx ops listed)[t % (zqx ops listed).length]? with
      | some i => Region.linearise.go .any ops fuel (t / (zqx ops listed).length) (listed.setIfInBounds i true) [i]
      | none => [].reverse) ∈ _
    cases hi : (zqx ops listed)[t % (zqx ops listed).length]? with
    | none =>
      cases hr : zqx ops listed with
      | nil => simp
      | cons x xs =>
        rw [hr] at hi
        have hlt : t % (x :: xs).length < (x :: xs).length := Nat.mod_lt _ (by simp)
        simp at hi
        simp at hlt
        omega
    | some i =>
      have hm := List.mem_of_getElem? hi
      cases hr : zqx ops listed with
      | nil => rw [hr] at hm; cases hm
      | cons x xs =>
        rw [hr] at hm
        simp only []
        rw [linearise_go_acc, List.reverse_singleton, List.singleton_append]
        refine List.mem_flatMap.2 ⟨i, hm, List.mem_map.2 ⟨_, yui ops fuel _ _, rfl⟩⟩
def runsOf (ops:Array Oper):List (List Nat):=ycg ops ops.size (Array.replicate ops.size false)
section
variable {P:Program} {G:List (Nat × D)} {fn:Func} {rd:Bool} {E:En P G fn rd} {t:List (Nat × SV)} {H:List SObj} {k:List Item}
theorem ypt {id:Nat} {all:Array Oper} (hm:P.follows .mixedOrders=true) {L:List (List Nat)} (hL:runsOf all=L) (h:∀l∈L,SW E (.inRegion all l::k) t H):SW E (.code (.region id all true)::k) t H:=by
 subst hL;refine ⟨fun a w I β cs hs=>?_⟩;have hH1:HeapOK G {w with drawn:=w.drawn+1} I β H:=hs.heap.grow (fun _ _=>rfl) (fun _ _ h=>h) (fun _ _ h=>.inl h) hs.heap.inI;have hE1:Ext H.length w I β H {w with drawn:=w.drawn+1} I β H:=.grow hs.heap (fun _ _=>rfl) (Nat.le_refl _) (fun _ _ h=>h) (fun _ _ h=>.inl h);refine .of_steps (.one zds) ?_;simp only [Region.schedule,hm,Bool.true_or,if_true];refine (h _ (yui all _ _ _)).run a _ I β cs ?_;exact ⟨hH1,fun n=>(hs.tmps n).ext (by rw [hs.heap.len];exact hE1),hs.size,hs.defers.ext hE1,hs.ext.trans (hE1.weaken hs.hlen),hs.hlen⟩
theorem yfi {b j:Nat} {all:Array Oper} {o:Oper} {rest:List Nat} {fx:Operand} {args:Array Operand} {tys:Array TypeId} {s:LS} {f:FuncId} {n:Nat} {tL:List (Nat × SV)} {ps:Array Tmp} {asg bd:Code}
  (ho:all[j]?=some o) (hop:o.op= .call ⟨.value fx,args,tys⟩) (hw:yq all t o.guard=some true) (hd:yv fn.ntmps o.dst=true) (hf:zq G t fx= .yld b) (hH:H[b]?=some (.loop s f n tL ps asg bd)) (hps:args.size=ps.size)
  {argv:List SV} (hargs:args.toList.map (zq G t)=argv)
  (hc:SYield P G b argv H (fun res H'=>H.length<=H'.length/\SW E (.inRegion all rest::k) (wz t o.dst (.imm (.val (.bool res)))) H')):SW E (.inRegion all (j::rest)::k) t H:=by
 subst hargs;refine ⟨fun a w I β cs hs=>?_⟩;have hwant:=zbc hw hs;have hfr:=hs.eval fx;rw [hf] at hfr;generalize hfv:a.eval fx=fv at hfr;cases hfr with
 |yld _ l hbl=>
 obtain ⟨r,q1,q2,q3,q4,q5,q6,q7,q8,q9⟩:=hs.heap.obj b _ _ hH hbl;have hrun:(execOp a.eval o).run P w= .ok (.round l r.fn ((r.params.zip (args.map a.eval)).foldl (fun tmps (t,a)=>tmps.setIfInBounds t a) r.tmps) r.assign r.body) w:=by
  obtain ⟨dst,op,type,pos,after,guard⟩:=o;simp only at hop;subst hop;simp only [execOp,resolve,hfv,Deferred.ofValue,Sem.run_bind,Sem.run_pure,Result.andThen_ok,invoke];have:=run_yield (P:=P) (args:=#[]++args.map a.eval) q1 (by simp [hps,q5]);simpa using this
 have hreps:Reps w I β (args.map a.eval).toList (args.toList.map (zq G t)):=by simpa using zgm hs.eval args.toList
 obtain ⟨res,w',⟨I',β',H',⟨hl,hsw⟩,hH',hext⟩,hsteps⟩:=hc w I β l r _ hs.heap hbl q1 hreps (E.at a (.inRegion all (j::rest)::k)) cs;have hg:=zen (P:=P) (b:=E.base) (ro:=E.ro) (k:=k) (cs:=cs) (w:=w) (rest:=rest) ho hwant (.inr fun c e=>by rw [hop] at e;cases e);have henter:step P (lone (E.at a (.inRegion all (j::rest)::k)) cs w)=
   .next (lone (Frame.round l r.fn ((r.params.zip (args.map a.eval)).foldl (fun tmps (t,a)=>tmps.setIfInBounds t a) r.tmps) r.assign r.body .normal) (E.at a (.inRegion all (j::rest)::k)::cs) w):=
  step_lone_go (by unfold En.at;rw [hg];simp only [stepG.apply,Sem.runT_eq,hrun,if_true,GStep.bare_after];rfl)
 have hfin:(E.at a (.inRegion all (j::rest)::k)).finish (.bool res)=E.at (a.put o.dst (.bool res)) (.inRegion all rest::k):=by
  unfold En.at;rw [zbk,ho];rfl
 rw [hfin] at hsteps;exact .of_steps (.head henter hsteps) (hsw.run _ w' I' β' cs (hs.put hd (.imm (.val _)) hH' hext hl))
theorem yvm {f:FuncId} {args:List SV} {H0:List SObj} {K:SV->List SObj->Prop} (hargs:args.all (SV.under H0.length)=true) (hH0:H0.all (SObj.under H0.length)=true)
  (h:SCall P G f args H0 (fun r H'=>H0.length<=H'.length/\r.under H0.length=true/\(H'.take H0.length).all (SObj.under H0.length)=true/\K r (H'.take H0.length))):SPre P G f args H0 K:=by
 intro X w I β vs hH hv;have hs:=hH.small hH0;refine (h w I (β.take H0.length) vs hs (zvz hv hargs)).mono ?_;rintro e w' ⟨v,r,I',β1,H',rfl,⟨hl,hr,hu1,hK⟩,g1,g2,g3⟩;obtain ⟨q1,q2⟩:=hH.whole (H1:=H') hl hu1 g2 g3;have hlen1:β1.length=H'.length:=g2.len;refine ⟨v,r,I',_,_,rfl,⟨H'.take H0.length,hK,by simp;omega,rfl⟩,?_,q1,q2⟩;refine (yav g1 hr).mono_below (fun _ _ h=>h) (fun _ _ _=>rfl) (m:=H0.length) (fun b x hb hx=>?_) hr;exact ⟨x,by rw [List.getElem?_append_left (lt_of_getElem? hx)];exact hx,x.le_refl⟩
theorem ypu {all:Array Oper} {o:Oper} {rest:List Oper} {done:List Eff} {K:List SObj} {mm ty kt et b:Nat} {z:Value} {x ix:Operand} {α:Type} {kk:IntKind} {i:Int} {l:List (Int × α)} (f:α->SV) {v:SV} (hop:o.op= .lookup ty x ix false)
  (hw:yq all t o.guard=some true) (hd:yv fn.ntmps o.dst=true) (hx:zq G t x= .map b) (hi:zq G t ix= .imm (.val (.int kk i))) (hu:P.underlying ty=some (.map kt et)) (hk:P.underlying kt=some (.int kk)) (hz:zbb P et=some z)
  (hm:mm<=K.length) (hb:K[b]?=some (.mapI kk (zdw f l))) (hv:((zx i l).map f).getD (jk z)=v) (h:SWe E mm all rest k (wz t o.dst v) K (done++[⟨v,[b],none⟩])):SWe E mm all (o::rest) k t K done:=by
 refine qp ⟨v,[b],none⟩ hw hd hm (fun K' _ ha=>?_) h;have hb':K'[b]?=some (.mapI kk (zdw f l)):=by rw [ha b (.inl (by simp))];exact hb
 rw [hop];have:=znr (G:=G) (t:=t) (P:=P) (ok:=false) (f:=f) hx hi hb' hu hk hz;rw [this,hv];rfl
end
open Go.RowKit
section
variable {P:Program} {G:List (Nat × D)} {w w':World} {I:Imm} {β:List Bnd} {H:List SObj}
theorem ych (h:Below w.heap.size w w'):∀c,c<w.heap.size->w'.heap[c]?=w.heap[c]?:=fun c hc=>h.block c hc
theorem ypv {e:TypeId} {v:Value} {n:Nat} {l:List Int} (hH:HeapOK G w I β H) (hrow:w'.ownsRow w.heap.size e 1 v n (l.map (Value.int .i64))) (hb:Below w.heap.size w w'):
  ∃I',Rep w' I' β v (.imm (zi l))/\HeapOK G w' I' β H/\Ext H.length w I β H w' I' β H:=by
 obtain ⟨hlen,hcase⟩:=hrow;have hn:l.length=n:=by simpa using hlen
 have hold:=ych hb;have hen:zgz w w':=⟨hb.os,hb.output⟩;rcases hcase with ⟨rfl,h0⟩|⟨g,cap,cur,rfl,hg,hc,h1,h2,h3,h4⟩
 ·have:l=[]:=List.length_eq_zero_iff.1 (by omega)
  subst this;refine ⟨I,.imm (.islNil 1),hH.grow hold (fun _ _ h=>h) (fun _ _ h=>.inl h) (fun c o hc=>Nat.lt_of_lt_of_le (hH.inI c o hc) hb.size),.grow hH hold hb.size (fun _ _ h=>h) (fun _ _ h=>.inl h) hen⟩
 ·have hlt:=js hc
  refine ⟨fun c o=>I c o\/c=g,?_,hH.grow hold (fun _ _ h=>.inl h) (fun c o h=>h.imp id (fun e=>by omega)) (fun c o h=>?_),.grow hH hold hb.size (fun _ _ h=>.inl h) (fun c o h=>h.imp id (fun e=>by omega)) hen⟩
  ·subst hn
   have key:∀i (hi:i<l.length),w'.cell? ⟨g,0+i*1+0,none⟩=some (.int .i64 (l[i]'hi)):=by
    intro i hi;rw [wg hc];have h5:(cur.toList.take (l.length*1))[i]?=some (.int .i64 (l[i]'hi)):=by rw [h4,List.getElem?_map,List.getElem?_eq_getElem hi];rfl
    rw [List.getElem?_take,if_pos (by omega)] at h5;simpa using h5
   have hr:DRep w' (fun c o=>I c o\/c=g) (.slice (some ⟨g,0,none⟩) (l.map fun n=>[dI n]).length cap) (.isl 1 (l.map fun n=>[dI n])):=by
    refine .isl g 0 cap 1 _ (fun i _=>.int .i64 (l.getD i 0)) (by simpa using h1) h2 (fun i h=>by simp) (fun i j hi hj=>?_) (fun i j hi hj=>?_)
    ·have hi':i<l.length:=by simpa using hi
     have hj0:j=0:=by omega
     subst hj0;refine ⟨.inr rfl,?_,rfl⟩;rw [key i hi'];simp [hi']
    ·have hi':i<l.length:=by simpa using hi
     have hj0:j=0:=by simp at hj;omega
     subst hj0;simp [hi'];exact .val _
   rw [List.length_map] at hr;exact .imm hr
  ·rcases h with h|rfl
   ·exact Nat.lt_of_lt_of_le (hH.inI c o h) hb.size
   ·exact hlt
theorem yvn {e:TypeId} {v:Value} {n:Nat} {l:List Int} (hH:HeapOK G w I β H) (hrow:w'.ownsRow w.heap.size e 1 v n (l.map (Value.int .i64))) (hb:Below w.heap.size w w'):
  Rep w' I (β++[.tok v]) v (.vec H.length l.length)/\HeapOK G w' I (β++[.tok v]) (H++[.vec 1 (l.map sI)])/\Ext H.length w I β H w' I (β++[.tok v]) (H++[.vec 1 (l.map sI)]):=by
 obtain ⟨hlen,hcase⟩:=hrow;have hn:l.length=n:=by simpa using hlen
 have hold:=ych hb;have hen:zgz w w':=⟨hb.os,hb.output⟩;have hg1:HeapOK G w' I β H:=hH.grow hold (fun _ _ h=>h) (fun _ _ h=>.inl h) (fun c o hc=>Nat.lt_of_lt_of_le (hH.inI c o hc) hb.size);have he1:Ext H.length w I β H w' I β H:=.grow hH hold hb.size (fun _ _ h=>h) (fun _ _ h=>.inl h) hen;have hbl:(β++[Bnd.tok v])[H.length]?=some (.tok v):=by rw [<-hH.len];simp
 rcases hcase with ⟨rfl,h0⟩|⟨g,cap,cur,rfl,hg,hc,h1,h2,h3,h4⟩
 ·have:l=[]:=List.length_eq_zero_iff.1 (by omega)
  subst this;refine ⟨.vec H.length 0 _ _ 0 hbl ⟨_,_,rfl⟩ (Nat.le_refl _) ⟨_,_,_,rfl⟩ (fun _=>rfl),hg1.push (.inl ⟨rfl,rfl⟩) (fun b c h=>by cases h),he1.trans (.push hg1 (fun c h=>by cases h))⟩
 ·subst hn
  have hno:∀o,¬I g o:=fun o hi=>by have:=hH.inI g o hi;omega
  refine ⟨.vec H.length _ _ _ l.length hbl ⟨_,_,rfl⟩ (Nat.le_refl _) ⟨_,_,_,rfl⟩ (fun _=>rfl),hg1.push (.inr ⟨g,l.length,cap,cur,e,rfl,hc,h3,h1,h2,by simp,fun j hj hj'=>?_,hno⟩) (fun b c h ho=>?_),?_⟩
  ·have hjl:j<l.length:=by simpa using hj
   have h5:(cur.toList.take (l.length*1))[j]?=some (.int .i64 (l[j]'hjl)):=by rw [h4,List.getElem?_map,List.getElem?_eq_getElem hjl];rfl
   rw [List.getElem?_take,if_pos (by omega)] at h5;have h6:cur[j]'hj'= .int .i64 (l[j]'hjl):=by
    have:cur.toList[j]?=some (cur[j]'hj'):=by simp
    rw [this] at h5;exact Option.some.inj h5
   rw [h6];simp only [List.getElem_map];exact .imm (.val _)
  ·cases h
   have:=hH.owns_lt ho;exact absurd hg (Nat.not_le.2 this)
  ·refine {imm:=fun _ _ h=>h,cell:=he1.cell,keep:=.push _ _ _,old:=fun c hc _=>hold c hc,own:=?_,new:=fun _ _ h=>.inl h,size:=hb.size,env:=hen}
   rintro b c ⟨o',x',q1,q2,q3,q4⟩;rcases zbi q3 with ⟨hlt,q3⟩|⟨rfl,rfl⟩
   ·rcases zbi q1 with ⟨_,q1⟩|⟨rfl,rfl⟩
    ·exact .inl ⟨b,o',x',q1,q2,q3,q4⟩
    ·exact absurd hlt (by rw [hH.len];omega)
   ·cases q4;exact .inr hg
end
end Go.Sh
namespace Go.Proofs.YtblpjknmhajcgaaGreatDoor
open Go Go.Sh Go.RowKit
variable (G:List (Nat × D))
theorem zza {H:List SObj} {b:Nat} {l:List Int} (hb:H[b]?=some (.cells (l.map sI))) (hsz:l.length<=1073741824):
  SCall Tryz.prog G 63 [.osl b 0 l.length] H (fun r H'=>r= .imm (zi l)/\H'=H):=by
 intro w I β vs hH hv;obtain ⟨v,hvs,hr⟩:=hv.one;have hvv:vs=#[v]:=by apply Array.ext';simpa using hvs
 subst hvv;cases hr with
 |osl _ c _ _ cap hbc hcap hmax=>
 obtain ⟨cur,T,a1,a2,a3,a4⟩:=hH.obj b _ _ hb hbc;refine (Go.Proofs.Tryz.slices_Clone_int c 0 l.length cap l w (Nat.le_refl _) (by omega) (fun j hj=>?_)).mono ?_
 ·rw [Nat.zero_add,wg a1]
  have hjc:j<cur.size:=by rw [a2];simpa using hj
  have:=a3 j (by simpa using hj) hjc;rw [Array.getElem?_eq_getElem hjc];simp only [List.getElem_map] at this;generalize cur[j]=q at this;cases this with|imm h=>cases h;simp [hj]
 ·rintro e w' ⟨v',rfl,hrow,_,hbel⟩
  rw [List.take_of_length_le (Nat.le_refl _)] at hrow;obtain ⟨I',g1,g2,g3⟩:=ypv hH hrow hbel;exact ⟨v',_,I',β,H,rfl,⟨rfl,rfl⟩,g1,g2,g3⟩
theorem yio {w:World} {I:Imm} {v:Value} {l:List Int} (hd:DRep w I v (zi l)) (hsz:l.length<=1073741824):
  Calls Tryz.prog 63 #[v] w fun e w'=>∃v',e= .returned v'/\w'.ownsRow w.heap.size 3 1 v' l.length (l.map (Value.int .i64))/\Below w.heap.size w w':=by
 unfold zi at hd;generalize hrows:(l.map fun n=>[dI n])=rows at hd;cases hd with
 |islNil=>
  have:l=[]:=by simpa using hrows
  subst this;refine (Go.Proofs.Tryz.slices_Clone_int_nil 0 0 w).mono ?_;rintro e w' ⟨rfl,rfl⟩;exact ⟨_,rfl,⟨rfl,.inl ⟨rfl,rfl⟩⟩,.refl _ _⟩
 |islEmpty a=>
  have:l=[]:=by simpa using hrows
  subst this;refine (Go.Proofs.Tryz.slices_Clone_int_zero a 0 w).mono ?_;rintro e w' ⟨v',rfl,h1,_,h2⟩;exact ⟨_,rfl,h1,h2⟩
 |isl b o cap _ _ V h1 h2 h3 h4 h5=>
  subst hrows;rw [List.length_map];refine (Go.Proofs.Tryz.slices_Clone_int b o l.length cap l w (Nat.le_refl _) (by omega) (fun j hj=>?_)).mono ?_
  ·have hj':j<(l.map fun n=>[dI n]).length:=by simpa using hj
   obtain ⟨_,g2,_⟩:=h4 j 0 hj' (by omega);have g3:=h5 j 0 hj' (by simp);simp only [Nat.mul_one,Nat.add_zero] at g2;rw [g2];simp only [List.getElem_map,List.getElem_cons_zero] at g3;generalize V j 0=q at g3;cases g3;simp [hj]
  ·rintro e w' ⟨v',rfl,hrow,_,hbel⟩
   rw [List.take_of_length_le (Nat.le_refl _)] at hrow;exact ⟨v',rfl,hrow,hbel⟩
theorem zzb (l:List Int) (hsz:l.length<=1073741824):zw Tryz.prog G 63 [.imm (zi l)] (.imm (zi l)):=by
 intro H w I β vs hH hv;obtain ⟨v,hvs,hr⟩:=hv.one;have hvv:vs=#[v]:=by apply Array.ext';simpa using hvs
 subst hvv;cases hr with|imm hd=>
 refine (yio hd hsz).mono ?_;rintro e w' ⟨v',rfl,hrow,hbel⟩;obtain ⟨I',g1,g2,g3⟩:=ypv hH hrow hbel;exact ⟨v',_,I',β,H,rfl,⟨rfl,rfl⟩,g1,g2,g3⟩
theorem zzc (l:List Int) (H:List SObj) (hsz:l.length<=1073741824):SCall Tryz.prog G 63 [.imm (zi l)] H (fun r H'=>r= .vec H.length l.length/\H'=H++[.vec 1 (l.map sI)]):=by
 intro w I β vs hH hv;obtain ⟨v,hvs,hr⟩:=hv.one;have hvv:vs=#[v]:=by apply Array.ext';simpa using hvs
 subst hvv;cases hr with|imm hd=>
 refine (yio hd hsz).mono ?_;rintro e w' ⟨v',rfl,hrow,hbel⟩;obtain ⟨g1,g2,g3⟩:=yvn hH hrow hbel;exact ⟨v',_,I,_,_,rfl,⟨rfl,rfl⟩,g1,g2,g3⟩
theorem yfj (l:List Int):(Go.Lib.compact l).length<=l.length:=by
 unfold Go.Lib.compact Go.Lib.compactUpTo;rw [List.length_map];exact Nat.le_trans (List.length_filter_le _ _) (by simp)
theorem ypw {G:List (Nat × D)} {w w':World} {I:Imm} {β:List Bnd} {H:List SObj} {b c:Nat} {o0:SObj} {x0:Bnd} (hH:HeapOK G w I β H) (hb:H[b]?=some o0) (hd:o0≠ .dead) (hx:β[b]?=some x0) (hxc:x0.block=some c)
  (hold:∀c',c'<w.heap.size->c'≠c->w'.heap[c']?=w.heap[c']?) (hsz:w.heap.size<=w'.heap.size) (hnI:∀o,¬I c o) (hen:zgz w w'):
  HeapOK G w' (fun c' o=>I c' o\/c'=c) β (H.set b .dead)/\Ext H.length w I β H w' (fun c' o=>I c' o\/c'=c) β (H.set b .dead):=by
 have hbl:=lt_of_getElem? hb;have hown:jr H β b c:=⟨_,_,hb,hd,hx,hxc⟩;have hcellI:∀c' o,I c' o->w'.cell? ⟨c',o,none⟩=w.cell? ⟨c',o,none⟩:=fun c' o hi=>xg (hold c' (hH.inI c' o hi) (fun e=>hnI o (e ▸ hi))) o
 have hsub:∀b' c',jr (H.set b .dead) β b' c'->b'≠b/\jr H β b' c':=by
  rintro b' c' ⟨o,x,h1,h2,h3,h4⟩;have hne:b'≠b:=by
   rintro rfl;rw [List.getElem?_set_self hbl] at h1;cases h1;exact h2 rfl
  rw [List.getElem?_set_ne (Ne.symm hne)] at h1;exact ⟨hne,o,x,h1,h2,h3,h4⟩
 refine ⟨⟨by simp [hH.len],fun b' o x h1 h2=>?_,fun b1 b2 c' h1 h2=>hH.inj b1 b2 c' (hsub b1 c' h1).2 (hsub b2 c' h2).2,fun c' o hi=>?_,fun g d hg=>(hH.glob g d hg).mono (fun _ _ h=>.inl h) hcellI⟩,
  {imm:=fun _ _ h=>.inl h,cell:=hcellI,keep:=.refl _ _,old:=fun c' hc' hn=>hold c' hc' (fun e=>hn b (e ▸ hown)),own:=fun b' c' g=>.inl ⟨b',(hsub b' c' g).2⟩,new:=fun c' o hi=>?_,size:=hsz,env:=hen}⟩
 ·by_cases hne:b'=b
  ·subst hne
   rw [List.getElem?_set_self hbl] at h1;cases h1;trivial
  ·rw [List.getElem?_set_ne (Ne.symm hne)] at h1
   by_cases hdead:o= .dead
   ·subst hdead;trivial
   ·have hcc:∀c',x.block=some c'->c'≠c:=fun c' hc e=>by
     subst e;exact hne (hH.inj b' b _ ⟨o,x,h1,hdead,h2,hc⟩ hown)
    refine (hH.obj b' o x h1 h2).mono (fun c' hc=>hold c' ((hH.obj b' o x h1 h2).block_lt hdead hc) (hcc c' hc)) (fun _ _ h=>.inl h) hcellI (.refl _ _) (fun c' q hc hi=>?_);rcases hi with h3|h3
    ·exact h3
    ·exact absurd h3 (hcc c' hc)
 ·rcases hi with h3|rfl
  ·exact Nat.lt_of_lt_of_le (hH.inI c' o h3) hsz
  ·exact Nat.lt_of_lt_of_le (hH.owns_lt hown) hsz
 ·rcases hi with h3|rfl
  ·exact .inl h3
  ·exact .inr (.inl ⟨b,hown⟩)
theorem ztq (b:Nat) (l:List Int) (H:List SObj) (hb:H[b]?=some (.vec 1 (l.map sI))) (hsz:l.length<=1073741824):
  SCall Tryz.prog G 65 [.vec b l.length] H (fun r H'=>r= .imm (zi (Go.Lib.compact l))/\H'=H.set b .dead):=by
 intro w I β vs hH hv;obtain ⟨v,hvs,hr⟩:=hv.one;have hvv:vs=#[v]:=by apply Array.ext';simpa using hvs
 subst hvv;obtain ⟨hbu,hcase⟩:=zmr hH hb hr (by simp) (Nat.le_refl _);have hcl:=yfj l;rcases hcase with ⟨h0,rfl,_⟩|⟨c,cap,cur,T,rfl,a1,a2,a2',hmax,a3,a4⟩
 ·have hl:l=[]:=List.length_eq_zero_iff.1 h0
  subst hl;refine (Go.Proofs.Tryz.slices_Compact_int_empty none 0 w).mono ?_;rintro e w' ⟨rfl,rfl⟩;refine ⟨_,.imm (zi (Go.Lib.compact [])),I,β,_,rfl,⟨rfl,rfl⟩,.imm (.islNil 1),?_⟩;have hbl:=lt_of_getElem? hb;have hsub:∀b' c',jr (H.set b .dead) β b' c'->jr H β b' c':=by
   rintro b' c' ⟨o,x,h1,h2,h3,h4⟩;have hne:b'≠b:=by
    rintro rfl;rw [List.getElem?_set_self hbl] at h1;cases h1;exact h2 rfl
   rw [List.getElem?_set_ne (Ne.symm hne)] at h1;exact ⟨o,x,h1,h2,h3,h4⟩
  refine ⟨⟨by simp [hH.len],fun b' o x h1 h2=>?_,fun b1 b2 c' h1 h2=>hH.inj b1 b2 c' (hsub b1 c' h1) (hsub b2 c' h2),hH.inI,hH.glob⟩,
   {(Ext.refl:Ext H.length w' I β H w' I β H) with own:=fun b' c' g=>.inl ⟨b',hsub b' c' g⟩}⟩
  by_cases hne:b'=b
  ·subst hne
   rw [List.getElem?_set_self hbl] at h1;cases h1;trivial
  ·rw [List.getElem?_set_ne (Ne.symm hne)] at h1
   exact hH.obj b' o x h1 h2
 have htake:cur.toList.take l.length=l.map (Value.int .i64):=by
  apply List.ext_getElem
  ·simp [a2];omega
  ·intro j h1 h2
   have hj:j<l.length:=by simpa using h2
   have hjc:j<cur.size:=by rw [a2];omega
   have:=a3 j (by simpa using hj) hjc;simp only [List.getElem_map] at this;simp only [List.getElem_take,Array.getElem_toList,List.getElem_map];generalize cur[j]=q at this;cases this with|imm h=>cases h;rfl
 refine (Go.Proofs.Tryz.slices_Compact_int c 0 cap l w (holds_of_blockI a1 htake) (by omega) a2').mono ?_;rintro e w' ⟨rfl,q,rfl⟩;have hblk:=heap_sortedI (w:=w) (n:=q) (os:=#[]) (Go.Lib.compact l++List.replicate (l.length-(Go.Lib.compact l).length) 0).toArray a1;have hgrow:=grownBy_sortedI (w:=w) (g:=c) (n:=q) (os:=#[]) (Go.Lib.compact l++List.replicate (l.length-(Go.Lib.compact l).length) 0).toArray;rw [Go.Sort.grow_empty] at hblk hgrow;generalize Go.Sort.putRow (Value.int .i64) (Go.Sort.ahead w q) c 0 (Go.Lib.compact l++List.replicate (l.length-(Go.Lib.compact l).length) 0).toArray=w' at hblk hgrow;have hold:∀c',c'<w.heap.size->c'≠c->w'.heap[c']?=w.heap[c']?:=fun c' h1 h2=>hgrow.block c' h1 (fun e=>h2 (by cases e;rfl))
 obtain ⟨k1,k2⟩:=ypw hH hb (by simp) hbu rfl hold hgrow.size a4 ⟨hgrow.os,hgrow.output⟩;refine ⟨_,.imm (zi (Go.Lib.compact l)),_,β,_,rfl,⟨rfl,rfl⟩,.imm ?_,k1,k2⟩;have hr:DRep w' (fun c' o=>I c' o\/c'=c) (.slice (some ⟨c,0,none⟩) ((Go.Lib.compact l).map fun n=>[dI n]).length cap) (.isl 1 ((Go.Lib.compact l).map fun n=>[dI n])):=by
  refine .isl c 0 cap 1 _ (fun i _=>.int .i64 ((Go.Lib.compact l).getD i 0)) (by simp;omega) hmax (fun i h=>by simp) (fun i j hi hj=>?_) (fun i j hi hj=>?_)
  ·have hi':i<(Go.Lib.compact l).length:=by simpa using hi
   have hj0:j=0:=by omega
   subst hj0;refine ⟨.inr rfl,?_,rfl⟩;rw [wg hblk];have hic:i<cur.size:=by rw [a2];omega
   simp only [Nat.zero_add,Nat.mul_one,Nat.add_zero,Go.Sort.putCells];rw [Array.getElem?_mapIdx,Array.getElem?_eq_getElem hic];simp only [Option.map_some];rw [if_pos ⟨Nat.zero_le _,by simp;omega⟩];simp [hi',List.getElem_append_left,List.getElem?_append_left hi']
  ·have hi':i<(Go.Lib.compact l).length:=by simpa using hi
   have hj0:j=0:=by simp at hj;omega
   subst hj0;simp [hi'];exact .val _
 rw [List.length_map] at hr;exact hr
open Go Go.Sh
def fnA:SV:=.fn (.func 105) [] [.ptr 26 0,.ptr 27 0,.ptr 29 0,.ptr 33 0,.ptr 31 0,.ptr 34 0]
def WA (X:Nat->SObj) (s:St) (ch:List (Int × List Int)) (lp:SObj):List SObj:=
 WH X s++[X 24,X 25,.cells [.ptr 2 0],.cells [.ptr 23 0],X 28,.cells [.imm (zi (ch.map (·.1)))],.cells (ch.map fun e=>.imm (zi e.2)),.cells [.osl 30 0 ch.length],lp,.cells [.yld 32],.cells [fnA]]
theorem yip {X:Nat->SObj} (hX:∀i,(X i).under 24=true) (s:St) (ch:List (Int × List Int)) {lp:SObj} (hlp:lp.under 35=true):(WA X s ch lp).all (SObj.under 35)=true:=by
 unfold WA;rw [List.all_append,xy (m:=24) (by omega) (zdd hX s)];simp only [List.all_cons,List.all_nil,hlp,SObj.under_mono (m:=24) (n:=35) (by omega) _ (hX _),Bool.and_true,Bool.true_and,ybu,zbm (f:=fun e:Int × List Int=>SV.imm (zi e.2)) (fun _=>rfl)];rfl
theorem yiq (X:Nat->SObj) (s:St) (ch:List (Int × List Int)) (lp:SObj):(WA X s ch lp).length=35:=rfl
theorem ypx (X:Nat->SObj) (s:St) (ch:List (Int × List Int)) (lp:SObj) (i:Nat) (b:Bool):(WA X s ch lp).set 21 (.cells ((s.ch.set i b).map bvS))=WA X ⟨s.p,s.ch.set i b,s.vs⟩ ch lp:=by simp [WA,WH]
theorem ypy (X:Nat->SObj) (s:St) (ch:List (Int × List Int)) (lp:SObj) (i:Nat) (v:Int):(WA X s ch lp).set 22 (.cells ((s.vs.set i v).map ivS))=WA X ⟨s.p,s.ch,s.vs.set i v⟩ ch lp:=by simp [WA,WH]
theorem zeu {α:Type} (g:α->SV) (l:List α) (i:Nat) (h:i<l.length):l.map g=(l.take i).map g++g (l[i]'h)::(l.drop (i+1)).map g:=by
 have e:l=l.take i++l[i]'h::l.drop (i+1):=by rw [<-List.drop_eq_getElem_cons h,List.take_append_drop]
 have:=congrArg (List.map g) e;rw [List.map_append,List.map_cons] at this;exact this
theorem zmz {α:Type} (g:α->SV) (l:List α) (i:Nat) (h:i<l.length) (a:α):(l.take i).map g++g a::(l.drop (i+1)).map g=(l.set i a).map g:=by
 have h':i<(l.set i a).length:=by simpa using h
 rw [zeu g (l.set i a) i h'];simp [List.take_set_of_le,List.drop_set_of_lt]
theorem ypz (X:Nat->SObj) (s:St) (ch:List (Int × List Int)) (lp:SObj):WH X s++List.drop 24 (WA X s ch lp)=WA X s ch lp:=rfl
def yvo (X:Nat->SObj) (q:Sr) (ch:List (Int × List Int)) (lp:SObj) (Q:List Int->List SObj->Prop) (p:Nat) (rest:List (Int × List Int)) (s:St):Prop:=
 SCall Tryz.prog G 105 [sI p,.ptr 26 0,.ptr 27 0,.ptr 29 0,.ptr 33 0,.ptr 31 0,.ptr 34 0] (WA X s ch lp)
  (fun r H'=>35<=H'.length/\(∀vs,qy q.conds rest s=some vs->r=sB false/\Q vs H')/\(qy q.conds rest s=none->r=sB true/\H'.take 35=WA X s ch lp))
theorem ylm {Y:Nat->SObj} (hY:∀i,(Y i).under 24=true) (c:Codex) (vers:List Int) (q:Sr) (ch:List (Int × List Int)) {f0:FuncId} {n0:Nat} {tL:List (Nat × SV)} {ps:Array Tmp} {asg bd:Code} (Q:List Int->List SObj->Prop)
  (hlp:(SObj.loop .ready f0 n0 tL ps asg bd).under 35=true) (hps:1=ps.size) (hch:ch.length<=1073741824) (hcz:q.conds.length<=1073741824) (s:St) (hl:s.ch.length=s.vs.length) (hsz:s.vs.length<=1073741824) (hc:∀x∈q.conds,x.ok s.vs.length)
  (hy:SYield Tryz.prog G 32 [.imm (zi s.vs)] (WA (XS Y (yj c vers q)) s ch (.loop .ready f0 n0 tL ps asg bd)) (fun res H'=>res=false/\35<=H'.length/\Q s.vs H')):
  yvo G (XS Y (yj c vers q)) q ch (.loop .ready f0 n0 tL ps asg bd) Q ch.length [] s:=by
 have hX:=zfi hY c vers q;unfold yvo;refine xw Tryz.func105 rfl (by rw [Tryz.ntmps105];simp) ?_;intro E hH hK;simp only [qy] at hK;(refine zf ?_;conv=>whnf);refine xm 24 rfl rfl rfl rfl rfl rfl (zjy G hY c vers q s hl hc hcz) ?_;intro r1 H1 hr _;obtain ⟨rfl,rfl⟩:=hr;rw [ypz];generalize hv:zbp q.conds s=vd at hK;(refine za ?_;conv=>whnf)
 repeat' ((with_reducible refine way ?_ ?_)<;>(intro h;conv=>whnf))
 ·rw [if_pos (by assumption)] at hK
  exact hK (sB true) _ ⟨Nat.le_refl _,⟨fun vs hv=>(by cases hv),fun _=>⟨rfl,rfl⟩⟩⟩
 ·rw [if_neg (by assumption)] at hK
  refine ypt (L:=[[0,1,2,3,4,5,6,7],[1,0,2,3,4,5,6,7],[1,2,0,3,4,5,6,7],[1,2,3,0,4,5,6,7],[1,2,3,4,0,5,6,7],[1,2,3,4,5,0,6,7]]) rfl (by kernel_rfl) ?_;intro l hlm;simp only [List.mem_cons,List.not_mem_nil,or_false] at hlm;rcases hlm with rfl|rfl|rfl|rfl|rfl|rfl
  all_goals
   repeat (refine ysf rfl rfl rfl rfl (Nat.le_refl _) ?_)
   refine zvx rfl rfl rfl rfl rfl rfl ((zza G (b:=22) (l:=s.vs) rfl hsz).mono ?_);rintro r H' ⟨rfl,rfl⟩;refine ⟨Nat.le_refl _,?_⟩
   repeat (refine ysf rfl rfl rfl rfl (Nat.le_refl _) ?_)
   refine yfi rfl rfl rfl rfl rfl rfl hps rfl (hy.mono ?_);rintro _ H' ⟨rfl,hl',hQ⟩;refine ⟨hl',?_⟩;refine ysf rfl rfl rfl rfl (Nat.le_refl _) ?_;refine znp ?_;(refine zf ?_;conv=>whnf);exact hK (sB false) H' ⟨hl',⟨fun vs hv=>by cases hv;exact ⟨rfl,hQ⟩,fun hv=>by cases hv⟩⟩
 ·exfalso
  have:¬((ch.length:Int)=(((ch.map (·.1)).map fun n=>[dI n]).length:Int)):=by assumption
  simp at this
theorem yir {s:St} {f:Nat} (h:s.vs.getD f 0=0):s.vs.set f 0=s.vs:=by
 by_cases hf:f<s.vs.length
 ·have:s.vs[f]'hf=0:=by simpa [hf] using h
  rw [<-this];exact List.set_getElem_self hf
 ·rw [List.set_eq_of_length_le (by omega)]
theorem yvp {s:St} {f:Nat} (h:s.ch.getD f false=false):s.ch.set f false=s.ch:=by
 by_cases hf:f<s.ch.length
 ·have:s.ch[f]'hf=false:=by simpa [hf] using h
  rw [<-this];exact List.set_getElem_self hf
 ·rw [List.set_eq_of_length_le (by omega)]
theorem yfk {Y:Nat->SObj} (hY:∀i,(Y i).under 24=true) (c:Codex) (vers:List Int) (q:Sr) (ch:List (Int × List Int)) {f0:FuncId} {n0:Nat} {tL:List (Nat × SV)} {ps:Array Tmp} {asg bd:Code} (Q:List Int->List SObj->Prop)
  (hlp:(SObj.loop .ready f0 n0 tL ps asg bd).under 35=true) (hch:ch.length<=1073741824) (hcz:q.conds.length<=1073741824) (s:St) (hl:s.ch.length=s.vs.length) (hsz:s.vs.length<=1073741824) (hc:∀x∈q.conds,x.ok s.vs.length)
  (done:List (Int × List Int)) (f:Int) (vals:List Int) (rest:List (Int × List Int)) (hd:ch=done++(f,vals)::rest) (hf:0<=f/\f<s.vs.length) (hoff:s.ch.getD f.toNat false=false) (hz:s.vs.getD f.toNat 0=0) (hvz:vals.length<=1073741824)
  (ih:∀v,yvo G (XS Y (yj c vers q)) q ch (.loop .ready f0 n0 tL ps asg bd) Q (done.length+1) rest (s.put f v)):
  yvo G (XS Y (yj c vers q)) q ch (.loop .ready f0 n0 tL ps asg bd) Q done.length ((f,vals)::rest) s:=by
 have hX:=zfi hY c vers q;have hdl:ch.length=done.length+1+rest.length:=by rw [hd];simp;omega
 have hrow:((ch.map (·.1)).map fun n=>[dI n])[((done.length:Nat):Int).toNat]?=some [dI f]:=by simp [hd]
 have hle:((ch.map (·.1)).map fun n=>[dI n]).length=ch.length:=by simp
 have hvl:(vals.map fun n=>[dI n]).length=vals.length:=by simp
 have hfc:f.toNat<s.ch.length:=by omega
 have hfv:f.toNat<s.vs.length:=by omega
 unfold yvo;refine xw Tryz.func105 rfl (by rw [Tryz.ntmps105];simp) ?_;intro E hH hK;simp only [qy] at hK;(refine zf ?_;conv=>whnf);refine xm 24 rfl rfl rfl rfl rfl rfl (zjy G hY c vers q s hl hc hcz) ?_;intro r1 H1 hr _;obtain ⟨rfl,rfl⟩:=hr;rw [ypz];generalize hv:zbp q.conds s=vd at hK;generalize hXX:XS Y (yj c vers q)=X at hK hX ih hH ⊢;(refine za ?_;conv=>whnf)
 repeat' ((with_reducible refine way ?_ ?_)<;>(intro h;conv=>whnf))
 ·rw [if_pos (by assumption)] at hK
  exact hK (sB true) _ ⟨Nat.le_refl _,⟨fun vs hv=>(by cases hv),fun _=>⟨rfl,rfl⟩⟩⟩
 ·exfalso
  omega
 rw [if_neg (by assumption)] at hK;refine zh rfl rfl  hrow ?_;(refine za ?_;conv=>whnf);refine zfy (i:=f.toNat) rfl rfl rfl rfl rfl rfl rfl (by omega) hfc ?_;refine zbe (d:=(s.ch.take f.toNat).map bvS) (zz:=bvS (s.ch[f.toNat]'hfc)) (r:=(s.ch.drop (f.toNat+1)).map bvS) (v:=bvS true) rfl rfl rfl rfl rfl rfl rfl rfl (by show some (SObj.cells (s.ch.map bvS))=_;rw [<-zeu]) (by show 0+f.toNat*1=_;simp;omega) ?_;refine Eq.mpr (congrArg (fun h=>SWr E _ _ _ _ h) (show _=WA X ⟨s.p,s.ch.set f.toNat true,s.vs⟩ ch _ by rw [zmz _ _ _ hfc];exact ypx ..)) ?_;(refine za ?_;conv=>whnf);refine zfy (i:=done.length) rfl rfl rfl rfl rfl rfl rfl rfl (by omega) ?_
 refine wt (v:=.imm (zi vals)) rfl rfl rfl rfl rfl (by
  have:=yvj (P:=Tryz.prog) (ty:=26) (f:=fun e:Int × List Int=>SV.imm (zi e.2)) (l:=ch) (n:=done.length) (d:=(0,[])) (by omega) rfl;rw [show ch.getD done.length (0,[])=(f,vals) by simp [hd]] at this
  exact this) ?_
 (refine za ?_;conv=>whnf);have e0:s.put f 0=⟨s.p,s.ch.set f.toNat true,s.vs⟩:=by unfold St.put;rw [yir hz]
 rw [<-e0];have hw1:=zk (n:=done.length) (by omega);refine zg [0,1,2,3,4,5,6,9,40,41,42] ?_;refine zo vals (fun i (_:Int)=>[(0,sI done.length),(1,.ptr 26 0),(2,.ptr 27 0),(3,.ptr 29 0),(4,.ptr 33 0),(5,.ptr 31 0),(6,.ptr 34 0),(9,sI f),(40,.imm (zi vals)),(41,sI (vals.map fun n=>[dI n]).length),(42,sI i)])
  (fun _ w=>WA X (s.put f w) ch (.loop .ready f0 n0 tL ps asg bd)) (fun dn _ _=>∀v∈dn,qy q.conds rest (s.put f v)=none) 0 (by simp) ?_ ?_
 ·intro w hno
  have hfc1:f.toNat<(s.put f w).ch.length:=by simp [St.put];omega
  have hfv1:f.toNat<(s.put f w).vs.length:=by simp [St.put];omega
  have hnone:List.findSome? (fun v=>qy q.conds rest (s.put f v)) vals=none:=List.findSome?_eq_none_iff.2 hno;rw [hnone] at hK;(refine zf ?_;conv=>whnf)
  repeat' ((with_reducible refine way ?_ ?_)<;>(intro h;conv=>whnf))
  all_goals try (exfalso;omega)
  (refine zu 0 mixed rfl ?_;refine zb [777,999] (nx:=35) ?_;conv=>whnf);refine zju (i:=f.toNat) rfl rfl rfl rfl rfl rfl rfl (by simp [yw,yiq]) (by omega) hfc1 ?_;(refine zb [777,999] (nx:=35) ?_;conv=>whnf);refine zfw (d:=((s.put f w).ch.take f.toNat).map bvS) (zz:=bvS ((s.put f w).ch[f.toNat]'hfc1)) (r:=((s.put f w).ch.drop (f.toNat+1)).map bvS) (v:=bvS false) rfl rfl rfl rfl rfl rfl rfl rfl (by simp [yw,yiq]) (by show some (SObj.cells ((s.put f w).ch.map bvS))=_;rw [<-zeu]) (by show 0+f.toNat*1=_;rw [List.length_map,List.length_take];omega) ?_;(refine zb [777,999] (nx:=35) ?_;conv=>whnf);refine zju (i:=f.toNat) rfl rfl rfl rfl rfl rfl rfl (by simp [yw,yiq]) (by omega) hfv1 ?_;refine zfw (d:=((s.put f w).vs.take f.toNat).map ivS) (zz:=ivS ((s.put f w).vs[f.toNat]'hfv1)) (r:=((s.put f w).vs.drop (f.toNat+1)).map ivS) (v:=ivS 0) rfl rfl rfl rfl rfl rfl rfl rfl (by simp [yw,yiq]) (by show some (SObj.cells ((s.put f w).vs.map ivS))=_;rw [<-zeu]) (by show 0+f.toNat*1=_;rw [List.length_map,List.length_take];omega) ?_;(refine zb [777] (nx:=35) ?_;conv=>whnf);have e:((WA X (s.put f w) ch (.loop .ready f0 n0 tL ps asg bd)).set 21 (.cells (((s.put f w).ch.take f.toNat).map bvS++bvS false::((s.put f w).ch.drop (f.toNat+1)).map bvS))).set 22 (.cells (((s.put f w).vs.take f.toNat).map ivS++ivS 0::((s.put f w).vs.drop (f.toNat+1)).map ivS))=WA X s ch (.loop .ready f0 n0 tL ps asg bd):=by
   rw [zmz _ _ _ hfc1,zmz _ _ _ hfv1,ypx];have:=ypy X ⟨(s.put f w).p,(s.put f w).ch.set f.toNat false,(s.put f w).vs⟩ ch (.loop .ready f0 n0 tL ps asg bd) f.toNat 0;rw [this];unfold St.put;simp only [List.set_set];rw [yvp hoff,yir hz]
  refine Eq.mpr (congrArg (fun h=>SW E _ _ h) e) ?_;(refine zf ?_;conv=>whnf);exact hK (sB true) _ ⟨Nat.le_refl _,⟨fun vs hv=>(by cases hv),fun _=>⟨rfl,rfl⟩⟩⟩
 ·intro dn v rs w ha hlen hno ihl
  have hw2:=zk (n:=dn.length) (by omega);have hfv1:f.toNat<(s.put f w).vs.length:=by simp [St.put];omega
  have hvrow:(vals.map fun n=>[dI n])[((dn.length:Nat):Int).toNat]?=some [dI v]:=by simp [ha]
  (refine zf ?_;conv=>whnf)
  repeat' ((with_reducible refine way ?_ ?_)<;>(intro h;conv=>whnf))
  all_goals try (exfalso;omega)
  refine zh rfl rfl  hvrow ?_;(refine za ?_;conv=>whnf);refine zfy (i:=f.toNat) rfl rfl rfl rfl rfl rfl rfl (by omega) hfv1 ?_;refine zbe (d:=((s.put f w).vs.take f.toNat).map ivS) (zz:=ivS ((s.put f w).vs[f.toNat]'hfv1)) (r:=((s.put f w).vs.drop (f.toNat+1)).map ivS) (v:=ivS v) rfl rfl rfl rfl rfl rfl rfl rfl (by show some (SObj.cells ((s.put f w).vs.map ivS))=_;rw [<-zeu]) (by show 0+f.toNat*1=_;rw [List.length_map,List.length_take];omega) ?_;have e:(WA X (s.put f w) ch (.loop .ready f0 n0 tL ps asg bd)).set 22 (.cells (((s.put f w).vs.take f.toNat).map ivS++ivS v::((s.put f w).vs.drop (f.toNat+1)).map ivS))=WA X (s.put f v) ch (.loop .ready f0 n0 tL ps asg bd):=by
   rw [zmz _ _ _ hfv1,ypy];unfold St.put;simp only [List.set_set]
  refine Eq.mpr (congrArg (fun h=>SWr E _ _ _ _ h) e) ?_;(refine za ?_;conv=>whnf);rw [hw1];refine qb rfl rfl rfl rfl rfl rfl ((ih v).mono ?_);rintro r H' ⟨hl',hsome,hnone⟩;refine ⟨hl',?_⟩;cases hres:qy q.conds rest (s.put f v) with
  |none=>
   obtain ⟨rfl,ht⟩:=hnone hres;(refine za ?_;conv=>whnf);rw [hw2];refine yy [0,1,2,3,4,5,6,9,40,41,42] 35 (by rw [hH];exact Nat.le_refl _) hl' rfl (by rw [ht];exact yip hX _ _ hlp) ?_;rw [ht]
   exact ihl v (fun x hx=>by
    rcases List.mem_append.1 hx with h|h
    ·exact hno x h
    ·simp only [List.mem_singleton] at h
     subst h
     exact hres)
  |some vs0=>
   obtain ⟨rfl,hQ⟩:=hsome _ hres;have hfs:List.findSome? (fun v=>qy q.conds rest (s.put f v)) vals=some vs0:=by
    rw [ha,List.findSome?_append,List.findSome?_eq_none_iff.2 hno];simp [hres]
   rw [hfs] at hK;(refine za ?_;conv=>whnf);exact hK (sB false) H' ⟨hl',⟨fun vs hv=>by cases hv;exact ⟨rfl,hQ⟩,fun hv=>by cases hv⟩⟩
theorem zwm {Y:Nat->SObj} (hY:∀i,(Y i).under 24=true) (c:Codex) (vers:List Int) (q:Sr) (ch:List (Int × List Int)) {f0:FuncId} {n0:Nat} {tL:List (Nat × SV)} {ps:Array Tmp} {asg bd:Code} (Q:List Int->List SObj->Prop)
  (hlp:(SObj.loop .ready f0 n0 tL ps asg bd).under 35=true) (hps:1=ps.size) (hch:ch.length<=1073741824) (hcz:q.conds.length<=1073741824) (nf:Nat) (hsz:nf<=1073741824) (hc:∀x∈q.conds,x.ok nf) (hvz:∀e∈ch,e.2.length<=1073741824)
  (hy:∀s:St,s.ch.length=nf->s.vs.length=nf->SYield Tryz.prog G 32 [.imm (zi s.vs)] (WA (XS Y (yj c vers q)) s ch (.loop .ready f0 n0 tL ps asg bd)) (fun res H'=>res=false/\35<=H'.length/\Q s.vs H')):
  ∀(rest done:List (Int × List Int)) (s:St),ch=done++rest->s.vs.length=nf->RestOK q.conds rest s->(∀e∈rest,s.vs.getD e.1.toNat 0=0)->yvo G (XS Y (yj c vers q)) q ch (.loop .ready f0 n0 tL ps asg bd) Q done.length rest s
 |[],done,s,hd,hn,hR,_=>by
  rw [List.append_nil] at hd;subst hd;exact ylm G hY c vers q ch Q hlp hps hch hcz s hR.len (by omega) (by rw [hn];exact hc) (hy s (by rw [hR.len,hn]) hn)
 |(f,vals)::rest,done,s,hd,hn,hR,hz=>by
  have hr:=hR.rng (f,vals) (by simp);refine yfk G hY c vers q ch Q hlp hch hcz s hR.len (by omega) (by rw [hn];exact hc) done f vals rest hd hr (hR.off (f,vals) (by simp)) (hz (f,vals) (by simp)) (hvz (f,vals) (by rw [hd];simp)) (fun v=>?_)
  have:=zwm hY c vers q ch Q hlp hps hch hcz nf hsz hc hvz hy rest (done++[(f,vals)]) (s.put f v) (by rw [hd];simp) (by simp [St.put,hn]) (hR.put v) (fun e he=>by
   have hnd:=hR.nd;simp only [List.map_cons,List.nodup_cons] at hnd;have hre:=hR.rng e (by simp [he]);have hne:f≠e.1:=fun eq=>hnd.1 (List.mem_map.2 ⟨e,he,eq.symm⟩)
   simp only at hr;unfold St.put;simp only;rw [zgs,if_neg (by omega)]
   exact hz e (by simp [he]))
  rw [List.length_append] at this;exact this
structure MapsOK (Y:Nat->SObj) (m:List (Int × List Int)):Prop where
 out:Y 1= .mapI .i64 (zdw (fun n:Nat=>SV.map n) (m.map fun e=>(e.1,3+e.1.toNat)))
 rng:∀e∈m,0<=e.1/\e.1<12
 inn:∀e∈m,Y (3+e.1.toNat)= .mapI .i64 (zdw sB (e.2.map fun v=>(v,true)))
 nd:(m.map (·.1)).Nodup
 sz:∀e∈m,e.2.length<=1000000000
theorem zby {α:Type} {k:Int} {v:α}:∀{l:List (Int × α)},(l.map (·.1)).Nodup->(k,v)∈l->zx k l=some v
 |[],_,h=>by cases h
 |(k',v')::l,hn,h=>by
  simp only [List.map_cons,List.nodup_cons] at hn;simp only [zx];rcases List.mem_cons.1 h with h|h
  ·cases h;simp
  ·have:¬k=k':=fun e=>hn.1 (e ▸ List.mem_map.2 ⟨(k,v),h,rfl⟩)
   simp [this];exact zby hn.2 h
theorem zbn {α:Type} {k:Int} {v:α}:∀{l:List (Int × α)},zx k l=some v->(k,v)∈l
 |[],h=>by simp [zx] at h
 |(k',v')::l,h=>by
  simp only [zx] at h;split at h
  ·rename_i e
   simp only [beq_iff_eq] at e;cases h;subst e;simp
  ·exact List.mem_cons_of_mem _ (zbn h)
theorem yxs {X:Nat->SObj} {s:St} {i:Nat} (h:i<21) (Z:List SObj):(WH X s++Z)[i]?=some (X i):=by
 have:i=0\/i=1\/i=2\/i=3\/i=4\/i=5\/i=6\/i=7\/i=8\/i=9\/i=10\/i=11\/i=12\/i=13\/i=14\/i=15\/i=16\/i=17\/i=18\/i=19\/i=20:=by omega
 rcases this with rfl|rfl|rfl|rfl|rfl|rfl|rfl|rfl|rfl|rfl|rfl|rfl|rfl|rfl|rfl|rfl|rfl|rfl|rfl|rfl|rfl<;>rfl
def WB (X:Nat->SObj) (s:St) (F:List Int) (cs:List SV) (n:Nat):List SObj:=
 WH X s++[X 24,X 25,.cells [.ptr 2 0],.cells [.ptr 23 0],.cells [.map 1],.cells [.imm (zi F)],.cells cs,.cells [.osl 30 0 n]]
abbrev chS (m:List (Int × List Int)) (f:Int):SV:=.imm (zi (zar ((zx f m).getD [])))
theorem zzd {X:Nat->SObj} (hX:∀i,(X i).under 24=true) (s:St) (F:List Int) {cs:List SV} (n:Nat) {N:Nat} (hN:32<=N) (hcs:SV.under.allUnder N cs=true):(WB X s F cs n).all (SObj.under N)=true:=by
 unfold WB;rw [List.all_append,xy (m:=24) (by omega) (zdd hX s)];simp only [List.all_cons,List.all_nil,SObj.under_mono (m:=24) (n:=N) (by omega) _ (hX _),Bool.and_true,Bool.true_and,ybu,hcs,SV.under.allUnder,SV.under,Bool.and_eq_true,decide_eq_true_eq];omega
theorem zrl {Y:Nat->SObj} (hY:∀i,(Y i).under 24=true) (c:Codex) (vers:List Int) (q:Sr) (s:St) (hM:MapsOK Y q.cands) (hsz:q.cands.length<=1000000):
  SCall Tryz.prog G 71 [.ptr 2 0,.ptr 23 0] (WH (XS Y (yj c vers q)) s++[XS Y (yj c vers q) 24,XS Y (yj c vers q) 25])
   (fun r H'=>r= .fn (.func 104) [] [.ptr 26 0,.ptr 27 0,.ptr 29 0,.ptr 31 0]/\32<=H'.length/\
    H'.take 32=WB (XS Y (yj c vers q)) s ((yh q.cands).map (·.1)) ((yh q.cands).map fun e=>.imm (zi e.2)) (yh q.cands).length):=by
 have hX:=zfi hY c vers q;have hX1:XS Y (yj c vers q) 1= .mapI .i64 (zdw (fun n:Nat=>SV.map n) (q.cands.map fun e=>(e.1,3+e.1.toNat))):=hM.out;have hXf:∀e∈q.cands,XS Y (yj c vers q) (3+e.1.toNat)= .mapI .i64 (zdw sB (e.2.map fun v=>(v,true))):=fun e he=>by
  unfold XS;rw [if_neg (by omega)];exact hM.inn e he
 have hkeys:(zdw (fun n:Nat=>SV.map n) (q.cands.map fun e=>(e.1,3+e.1.toNat))).map (·.1)=q.cands.map (·.1):=by simp [zdw]
 have hF:(yh q.cands).map (·.1)=zar (q.cands.map (·.1)):=by unfold yh;rw [List.map_map];exact List.map_id _
 have hC:(yh q.cands).map (fun e=>SV.imm (zi e.2))=(zar (q.cands.map (·.1))).map (chS q.cands):=by simp [yh]
 have hCl:(yh q.cands).length=(zar (q.cands.map (·.1))).length:=by simp [yh]
 rw [hF,hC,hCl];have hFm:∀f∈zar (q.cands.map (·.1)),∃vals,(f,vals)∈q.cands:=fun f hf=>by
  have:=(List.mergeSort_perm (q.cands.map (·.1)) fun x y=>decide (x<=y)).mem_iff.1 hf;obtain ⟨e,he,rfl⟩:=List.mem_map.1 this;exact ⟨e.2,he⟩
 have hFl:(zar (q.cands.map (·.1))).length=q.cands.length:=by simp
 generalize hXX:XS Y (yj c vers q)=X at hX hX1 hXf ⊢;refine xw Tryz.func71 rfl (by rw [Tryz.ntmps71];simp) ?_;intro E hH hK;have hX2:X 2= .cells (yj c vers q):=by rw [<-hXX];rfl
 (refine qs [777,12] 1000 ?_;conv=>whnf);refine wt (v:=.map 1) (cs:=yj c vers q) rfl rfl rfl rfl (by show some (X 2)=_;rw [hX2]) rfl ?_;refine ylg rfl rfl rfl rfl rfl rfl (ypq G 1) ?_;refine Eq.mpr (congrArg (fun h=>SWr E _ _ _ _ h) (show _=WH X s++[X 24,X 25,.cells [.ptr 2 0],.cells [.ptr 23 0],.cells [.map 1]] from rfl)) ?_;have hu29:(WH X s++[X 24,X 25,SObj.cells [.ptr 2 0],.cells [.ptr 23 0],.cells [.map 1]]).all (SObj.under 29)=true:=by
  rw [List.all_append,xy (m:=24) (by omega) (zdd hX s)];simp only [List.all_cons,List.all_nil,SObj.under_mono (m:=24) (n:=29) (by omega) _ (hX _),Bool.and_true,Bool.true_and];rfl
 refine qb rfl rfl rfl rfl rfl rfl ((ycf G (m:=1) (b:=28) (es:=zdw (fun n:Nat=>SV.map n) (q.cands.map fun e=>(e.1,3+e.1.toNat))) rfl (by show some (X 1)=_;rw [hX1]) (by decide) hu29 (by simp [zdw];omega)).mono ?_);rintro r H' ⟨rfl,rfl⟩;refine ⟨Nat.le_refl _,?_⟩;rw [hkeys];generalize zar (q.cands.map (·.1))=F at hK hFm hFl ⊢;have hFll:(F.map fun n=>[dI n]).length=F.length:=by simp
 (refine za ?_;conv=>whnf);refine yig (n:=F.length) (zz:=zdp) rfl rfl rfl rfl rfl rfl rfl rfl rfl ⟨by decide,rfl⟩ rfl (by rw [hFll]) (by rw [hFll]) (by omega) ?_;(refine za ?_;conv=>whnf);refine zg [2,3,5,6,18,19,20] ?_;refine Eq.mpr (congrArg (fun h=>SW E _ _ h) (show _=WB X s F (([]:List Int).map (chS q.cands)++List.replicate F.length zdp) F.length from rfl)) ?_;refine zo F (fun i (_:List Int × Nat)=>[(2,.ptr 26 0),(3,.ptr 27 0),(5,.ptr 29 0),(6,.ptr 31 0),(18,.imm (zi F)),(19,sI (F.map fun n=>[dI n]).length),(20,sI i)])
  (fun _ d=>WB X s F (d.1.map (chS q.cands)++List.replicate d.2 zdp) F.length) (fun done rest d=>d=(done,rest.length)) ([],F.length) rfl ?_ ?_
 ·rintro _ rfl
  (refine zf ?_;conv=>whnf)
  repeat' ((with_reducible refine way ?_ ?_)<;>(intro h;conv=>whnf))
  all_goals try (exfalso;omega)
  refine hK _ _ ⟨rfl,Nat.le_refl _,?_⟩;show WB X s F (F.map (chS q.cands)++[]) F.length=_;rw [List.append_nil]
 ·rintro done f rest _ ha hlen rfl ih
  have hw:=zk (n:=done.length) (by omega);have hrow:(F.map fun n=>[dI n])[((done.length:Nat):Int).toNat]?=some [dI f]:=by simp [ha]
  obtain ⟨vals,hvm⟩:=hFm f (by rw [ha];simp);have hfr:=hM.rng _ hvm;have hXv:=hXf _ hvm;simp only at hfr hXv;have hal:zx f q.cands=some vals:=zby hM.nd hvm;(refine zf ?_;conv=>whnf)
  repeat' ((with_reducible refine way ?_ ?_)<;>(intro h;conv=>whnf))
  all_goals try (exfalso;omega)
  refine zh rfl rfl  hrow ?_;(refine za ?_;conv=>whnf);(refine zu 1 mixed rfl ?_;refine zb [777,30,999] (nx:=32) ?_;conv=>whnf);refine zad (v:=.map 1) (cs:=yj c vers q) rfl rfl rfl (by simp [yw,WB,WH]) rfl (by show some (X 2)=_;rw [hX2]) rfl ?_;(refine zb [777,999] (nx:=32) ?_;conv=>whnf);have hlk:((zx f (q.cands.map fun e=>(e.1,3+e.1.toNat))).map fun n:Nat=>SV.map n).getD (jk (.map none))= .map (3+f.toNat):=by
   have:zx f (q.cands.map fun e=>(e.1,3+e.1.toNat))=some (3+f.toNat):=zby (by rw [List.map_map];exact hM.nd) (List.mem_map.2 ⟨_,hvm,rfl⟩);rw [this];rfl
  refine ypu (b:=1) (l:=q.cands.map fun e=>(e.1,3+e.1.toNat)) (fun n:Nat=>SV.map n) rfl rfl rfl rfl rfl rfl rfl rfl (by simp [yw,WB,WH]) (by show some (X 1)=_;rw [hX1]) hlk ?_;refine ylh 32 rfl rfl rfl rfl rfl rfl (Nat.le_refl 32) rfl (by show (decide (3+f.toNat<33)&&true)=true;simp;omega) (ypp G (3+f.toNat)) ?_;have huK:(WB X s F (done.map (chS q.cands)++List.replicate (rest.length+1) zdp) F.length++[SObj.cells [.map (3+f.toNat)]]).all (SObj.under 33)=true:=by
   rw [List.all_append,zzd hX s F F.length (by omega) (zmw _ _ _ (zbm (f:=chS q.cands) (fun _=>rfl) _) (zjx 33 (zz:=zdp) rfl _))];show (decide (3+f.toNat<33)&&true&&true)=true;simp;omega
  have hes:(zdw sB (vals.map fun v=>(v,true))).map (·.1)=vals:=by
   simp only [zdw,List.map_map];exact List.map_id _
  have hvz:=hM.sz _ hvm;simp only at hvz;have hsp:SPre Tryz.prog G 101 [.fn (.func 142) [] [.ptr 32 0]] (WB X s F (done.map (chS q.cands)++List.replicate (rest.length+1) zdp) F.length++[SObj.cells [.map (3+f.toNat)]])
    (fun r' H1=>r'= .imm (zi (zar vals))/\H1=WB X s F (done.map (chS q.cands)++List.replicate (rest.length+1) zdp) F.length++[SObj.cells [.map (3+f.toNat)]]):=by
   refine yvm rfl huK ((yce G (m:=3+f.toNat) (b:=32) (es:=zdw sB (vals.map fun v=>(v,true))) rfl ?_ (by omega) huK (by simp [zdw];omega)).mono ?_)
   ·have:=yxs (X:=X) (s:=s) (i:=3+f.toNat) (by omega) ([X 24,X 25,.cells [.ptr 2 0],.cells [.ptr 23 0],.cells [.map 1],.cells [.imm (zi F)],.cells (done.map (chS q.cands)++List.replicate (rest.length+1) zdp),.cells [.osl 30 0 F.length]]++[SObj.cells [.map (3+f.toNat)]])
    rw [<-List.append_assoc] at this;rw [hXv] at this;exact this
   ·rintro r H' ⟨rfl,rfl⟩
    rw [hes];exact ⟨Nat.le_refl _,rfl,by rw [List.take_length];exact huK,rfl,List.take_length⟩
  refine yob 33 (wr:=none) rfl rfl rfl rfl rfl rfl (by simp [yw,WB,WH]) (by simp [yw,WB,WH]) (fun b ob h=>by cases h) hsp ?_;(refine zb [777,999] (nx:=33) ?_;conv=>whnf);refine zju (i:=done.length) rfl rfl rfl rfl rfl rfl rfl (by simp [yw,WB,WH]) rfl (by omega) ?_;refine zfw (d:=done.map (chS q.cands)) (zz:=zdp) (r:=List.replicate rest.length zdp) (v:=.imm (zi (zar vals))) rfl rfl rfl rfl rfl rfl rfl rfl (by simp [yw,WB,WH]) rfl (by show 0+done.length*1=_;simp) ?_;(refine zb [777] (nx:=33) ?_;conv=>whnf);(refine zf ?_;conv=>whnf);rw [hw];have hchf:chS q.cands f= .imm (zi (zar vals)):=by rw [chS,hal];rfl
  have:=ih (done++[f],rest.length) rfl;simp only [List.map_append,List.map_cons,List.map_nil,List.append_assoc,List.cons_append,List.nil_append,hchf] at this;refine yy [2,3,5,6,18,19,20] 32 (by rw [hH];exact (by decide:26<=32)) (Nat.le_succ 32) rfl ?_ this;exact zzd hX s F F.length (Nat.le_refl _) (zmw _ _ _ (zbm (f:=chS q.cands) (fun _=>rfl) _) (by simp only [SV.under.allUnder,zjx 32 (zz:=zdp) rfl];rfl))
end Go.Proofs.YtblpjknmhajcgaaGreatDoor
namespace Go.Sh
mutual
theorem SV.ren_id {m:Nat} {σ:Nat->Nat} (hσ:∀b,b<m->σ b=b):∀s:SV,s.under m=true->s.ren σ=s
 | .any,_=>rfl
 | .imm _,_=>rfl
 | .ptr b _,h=>by simp only [SV.under,decide_eq_true_eq] at h;simp only [SV.ren,hσ b h]
 | .osl b _ _,h=>by simp only [SV.under,decide_eq_true_eq] at h;simp only [SV.ren,hσ b h]
 | .asl b _ _,h=>by simp only [SV.under,decide_eq_true_eq] at h;simp only [SV.ren,hσ b h]
 | .map b,h=>by simp only [SV.under,decide_eq_true_eq] at h;simp only [SV.ren,hσ b h]
 | .yld b,h=>by simp only [SV.under,decide_eq_true_eq] at h;simp only [SV.ren,hσ b h]
 | .vec b _,h=>by simp only [SV.under,decide_eq_true_eq] at h;simp only [SV.ren,hσ b h]
 | .vptr b _ _,h=>by simp only [SV.under,decide_eq_true_eq] at h;simp only [SV.ren,hσ b h]
 | .fn _ x y,h=>by
  simp only [SV.under,Bool.and_eq_true] at h;simp only [SV.ren,zna hσ x h.1,zna hσ y h.2]
 | .iface _ v,h=>by
  simp only [SV.under] at h;simp only [SV.ren,SV.ren_id hσ v h]
 | .agg cs,h=>by
  simp only [SV.under] at h;simp only [SV.ren,zna hσ cs h]
 | .tup vs,h=>by
  simp only [SV.under] at h;simp only [SV.ren,zna hσ vs h]
theorem zna {m:Nat} {σ:Nat->Nat} (hσ:∀b,b<m->σ b=b):∀l:List SV,SV.under.allUnder m l=true->SV.ren.renL σ l=l
 |[],_=>rfl
 |s::r,h=>by
  simp only [SV.under.allUnder,Bool.and_eq_true] at h;simp only [SV.ren.renL,SV.ren_id hσ s h.1,zna hσ r h.2]
end
theorem zrv {α:Type} {f:α->α} {l:List α} (h:∀a∈l,f a=a):l.map f=l:=by
 conv=>rhs;rw [<-List.map_id l]
 exact List.map_congr_left h
theorem SObj.ren_id {m:Nat} {σ:Nat->Nat} (hσ:∀b,b<m->σ b=b) (o:SObj) (h:o.under m=true):o.ren σ=o:=by
 cases o with
 |cells cs=>simp only [SObj.ren];rw [<-zif,zna hσ cs h]
 |mapI kk es=>
  simp only [SObj.under,List.all_eq_true] at h;simp only [SObj.ren];rw [zrv fun e he=>by rw [SV.ren_id hσ e.2 (h e he)]]
 |mapS es=>
  simp only [SObj.under,List.all_eq_true] at h;simp only [SObj.ren];rw [zrv fun e he=>by rw [SV.ren_id hσ e.2 (h e he)]]
 |loop s f n t ps a b=>
  simp only [SObj.under,List.all_eq_true] at h;simp only [SObj.ren];rw [zrv fun e he=>by rw [SV.ren_id hσ e.2 (h e he)]]
 |vec kk cs=>simp only [SObj.ren];rw [<-zif,zna hσ cs h]
 |pin kk es c=>
  simp only [SObj.under,List.all_eq_true] at h;simp only [SObj.ren];rw [zrv fun e he=>by rw [SV.ren_id hσ e.2.2 (h e he)]]
 |iter b s seen l=>simp only [SObj.under,decide_eq_true_eq] at h;simp only [SObj.ren,hσ b h]
 |tok _ _=>rfl
 |dead=>rfl
 |free=>rfl
section
variable {P:Program} {G:List (Nat × D)} {fn:Func} {rd:Bool} {E:En P G fn rd} {t:List (Nat × SV)} {H:List SObj} {k:List Item}
theorem yvq (σ : Nat -> Nat) {t' : List (Nat × SV)} {H' : List SObj} (hfix : ∀ b, b < E.H.length -> σ b = b) (hinj : ∀ b b', b < H'.length -> b' < H'.length -> σ b = σ b' -> b = b') (hlen : E.H.length <= H'.length)
    (hobj : ∀ b o, H'[b]? = some o -> H[σ b]? = some (o.ren σ)) (hu : H'.all (SObj.under H'.length) = true) (ht : ∀ n, qq t n = (qq t' n).ren σ \/ qq t' n = .any) (htu : t'.all (fun e => e.2.under H'.length) = true) (h : SW E k t' H') : SW E k t H := by
  refine ⟨fun a w I β cs hs => ?_⟩
  have hH := hs.heap
  have hσlt : ∀ b, b < H'.length -> σ b < H.length := fun b hb => lt_of_getElem? (hobj b _ (List.getElem?_eq_getElem hb))
  obtain ⟨β0, hl0, hβ0⟩ : ∃ β0 : List Bnd, β0.length = H'.length /\ ∀ b, b < H'.length -> β0[b]? = β[σ b]? := by
    refine ⟨(List.range H'.length).map (fun b => β.getD (σ b) freeB), by simp, fun b hb => ?_⟩
    have hlt : σ b < β.length := by rw [hH.len]; exact hσlt b hb
    rw [List.getElem?_map, List.getElem?_range hb]
    simp [List.getD_eq_getElem?_getD, List.getElem?_eq_getElem hlt]
  have up0 : ∀ b x, β0[b]? = some x -> β[σ b]? = some x := fun b x hx => by rw [<- hβ0 b (by rw [<- hl0]; exact lt_of_getElem? hx)]; exact hx
  have un0 : ∀ b x, b < H'.length -> β[σ b]? = some x -> β0[b]? = some x := fun b x hb hx => by rw [hβ0 b hb]; exact hx
  have up : ∀ b c, jr H' β0 b c -> jr H β (σ b) c := by
    rintro b c ⟨o, x, h1, h2, h3, h4⟩
    exact ⟨o.ren σ, x, hobj b o h1, fun e => h2 (SObj.ren_dead.1 e), up0 b x h3, h4⟩
  have olt : ∀ {b c}, jr H' β0 b c -> b < H'.length := fun ⟨_, _, h1, _⟩ => lt_of_getElem? h1
  refine h.run a w I β0 cs ⟨⟨hl0, fun b o x h1 h2 => ?_, fun b b' c h1 h2 => hinj b b' (olt h1) (olt h2) (hH.inj _ _ c (up b c h1) (up b' c h2)), hH.inI, hH.glob⟩, fun n => ?_, hs.size, ?_, ?_, hlen⟩
  · exact (hH.obj (σ b) (o.ren σ) x (hobj b o h1) (up0 b x h2)).unren un0 (List.all_eq_true.1 hu o (List.mem_of_getElem? h1))
  · rcases ht n with h1 | h1
    · have := hs.tmps n
      rw [h1] at this
      exact this.unren un0 rfl (zdv htu n)
    · rw [h1]; exact .any _
  · obtain ⟨bs, d1, d2, d3⟩ := hs.defers
    exact ⟨bs, d1, d2, fun c hc => ⟨(d3 c hc).1, (d3 c hc).2.1, fun b hb => (d3 c hc).2.2 (σ b) (up b c hb)⟩⟩
  · exact { hs.ext with
      keep := fun b x hb hx => by
        obtain ⟨y, hy, hle⟩ := hs.ext.keep b x hb hx
        exact ⟨y, un0 b y (by omega) (by rw [hfix b hb]; exact hy), hle⟩
      own := fun b c ho => hs.ext.own (σ b) c (up b c ho) }
theorem yvr (nx:Nat) {all:Array Oper} {o:Oper} {rest:List Oper} {done:List Eff} {K:List SObj} {m e:Nat} {x:Operand} {cs:List SV} (hop:o.op= .box e x) (hw:yq all t o.guard=some true) (hd:yv fn.ntmps o.dst=true)
  (hx:(zq G t x).cells=some cs) (hu:SV.under.allUnder K.length cs=true) (hm:m<=nx) (hnx:K[nx]?=some .dead)
  (h:SWe E m all rest k (wz t o.dst (.ptr nx 0)) (K.set nx (.cells cs)) (done++[⟨.ptr nx 0,[],some (nx,.cells cs)⟩])):SWe E m all (o::rest) k t K done:=by
 have:=yes (E:=E) (m:=m) (all:=all) (rest:=rest) (k:=k) (t:=t) (K:=K) (done:=done) nx (r:=.ptr K.length 0) (ob:=.cells cs) hw hd hm hnx (by simp [SV.isNew]) hu
  (fun K' hl'=>by
   rw [hop];simp only [sop,hx,hl']
   rfl)
 simp only [SV.mv,if_true] at this;exact this h
theorem zof (n m:Nat) (s:SV):∀t0:List (Nat × SV),(qq (t0++[(m,s)]) n=qq t0 n/\qq t0 n≠ .any)\/(qq t0 n= .any/\(qq (t0++[(m,s)]) n= .any\/(m=n/\qq (t0++[(m,s)]) n=s)))
 |[]=>by
  right
  refine ⟨rfl,?_⟩;simp only [List.nil_append,qq];split
  ·rename_i e;exact .inr ⟨e,rfl⟩
  ·exact .inl rfl
 |(m',s')::t0=>by
  simp only [List.cons_append,qq]
  by_cases e:m'=n
  ·rw [if_pos e,if_pos e]
   by_cases h:s'= .any
   ·right;exact ⟨h,.inl h⟩
   ·left;exact ⟨rfl,h⟩
  ·rw [if_neg e,if_neg e]
   exact zof n m s t0
theorem ztr {n0 v:Nat} {t0:List (Nat × SV)} {A:List SObj} {c0 c1:SObj} (hA:A.length=n0) (hE:E.H.length<=n0) (hu:A.all (SObj.under n0)=true) (hc:c1.under n0=true) (ht:t0.all (fun e=>e.2.under n0)=true)
  (h:SW E k (t0++[(v,.ptr n0 0)]) (A++[c1])):SW E k (t0++[(v,.ptr (n0+1) 0)]) (A++[c0,c1]):=by
 subst hA;have hid:∀b,b<A.length->(if b=A.length then A.length+1 else b)=b:=fun b hb=>by rw [if_neg (by omega)]
 refine yvq (fun b=>if b=A.length then A.length+1 else b) (fun b hb=>hid b (by omega)) (fun b b' hb hb' e=>?_) (by simp;omega) (fun b o ho=>?_) ?_ (fun n=>?_) ?_ h
 ·simp only [List.length_append,List.length_singleton] at hb hb'
  split at e<;>split at e<;>omega
 ·have hlt:=lt_of_getElem? ho
  simp only [List.length_append,List.length_singleton] at hlt
  by_cases e:b=A.length
  ·subst e
   rw [List.getElem?_append_right (Nat.le_refl _)] at ho;simp only [Nat.sub_self,List.getElem?_cons_zero,Option.some.injEq] at ho;subst ho;rw [if_pos rfl,SObj.ren_id hid _ hc,List.getElem?_append_right (by omega)];simp
  ·have hb:b<A.length:=by omega
   rw [List.getElem?_append_left hb] at ho;rw [if_neg e,SObj.ren_id hid _ (List.all_eq_true.1 hu _ (List.mem_of_getElem? ho)),List.getElem?_append_left hb];exact ho
 ·rw [List.all_append,xy (m:=A.length) (by simp) hu]
  simp only [List.all_cons,List.all_nil,Bool.and_true,Bool.true_and];exact SObj.under_mono (by simp) _ hc
 ·rcases zof n v (.ptr (A.length+1) 0) t0 with ⟨h1,h2⟩|⟨h1,h2⟩
  ·rcases zof n v (.ptr A.length 0) t0 with ⟨g1,g2⟩|⟨g1,g2⟩
   ·left
    rw [h1,g1,SV.ren_id hid _ (zdv ht n)]
   ·exact absurd g1 h2
  ·rcases zof n v (.ptr A.length 0) t0 with ⟨g1,g2⟩|⟨g1,g2⟩
   ·exact absurd h1 g2
   ·rcases g2 with g2|⟨g2,g3⟩
    ·right;exact g2
    ·subst g2
     rcases h2 with h2|⟨_,h3⟩
     ·exfalso
      have:∀(t0:List (Nat × SV)) (x y:SV),qq (t0++[(v,x)]) v= .any->x≠ .any->y≠ .any->qq (t0++[(v,y)]) v= .any:=by
       intro t0
       induction t0 with
       |nil=>
        intro x y hx hxn hyn;simp only [List.nil_append,qq,if_true] at hx;exact absurd hx hxn
       |cons e t0 ih=>
        intro x y hx hxn hyn;simp only [List.cons_append,qq] at hx ⊢;split
        ·rename_i e';rw [if_pos e'] at hx;exact hx
        ·rename_i e';rw [if_neg e'] at hx;exact ih x y hx hxn hyn
      have:=this t0 _ (.ptr A.length 0) h2 (by simp) (by simp);rw [this] at g3;cases g3
     ·left
      rw [h3,g3];simp [SV.ren]
 ·rw [List.all_append]
  simp only [List.all_cons,List.all_nil,Bool.and_true,Bool.and_eq_true];refine ⟨?_,?_⟩
  ·simp only [List.all_eq_true] at ht ⊢
   exact fun e he=>SV.under_mono (by simp) _ (ht e he)
  ·simp [SV.under]
theorem zkb {all:Array Oper} {o:Oper} {rest:List Oper} {ty b n:Nat} {ax vx:Operand} {new old:List SV} (hop:o.op= .store ty ax vx) (hw:yq all t o.guard=some true) (hd:yv fn.ntmps o.dst=true) (ha:zq G t ax= .ptr b 0)
  (hv:(zq G t vx).cells=some new) (hone:new.all SV.one=true) (hsz:qm P ty=some n) (hn:new.length=n) (hb:H[b]?=some (.cells old)) (hol:old.length=n) (h:SWr E all rest k (wz t o.dst .any) (H.set b (.cells new))):SWr E all (o::rest) k t H:=by
 refine zdn (r:=.any) (H':=H.set b (.cells new)) hw hd ?_ (by simp) h;rw [hop];subst hn;simp only [sop,zeg,ha,hv,hsz,hb];rw [if_pos ⟨trivial,by omega,hone⟩];simp [<-hol]
end
end Go.Sh
namespace Go.Proofs.YtblpjknmhajcgaaGreatDoor
open Go Go.Sh
variable (G:List (Nat × D))
theorem ytc {Y:Nat->SObj} (hY:∀i,(Y i).under 24=true) (hY28:Y 28= .cells [.map 1]) (c:Codex) (vers:List Int) (q:Sr) (ch:List (Int × List Int)) {f0:FuncId} {n0:Nat} {tL:List (Nat × SV)} {ps:Array Tmp} {asg bd:Code} (Q:List Int->List SObj->Prop)
  (hlp:(SObj.loop .ready f0 n0 tL ps asg bd).under 33=true) (hps:1=ps.size) (hch:ch.length<=1073741824) (hcz:q.conds.length<=1073741824) (nf:Nat) (hsz:nf<=1073741824) (hc:∀x∈q.conds,x.ok nf) (hvz:∀e∈ch,e.2.length<=1073741824)
  (hy:∀s:St,s.ch.length=nf->s.vs.length=nf->SYield Tryz.prog G 32 [.imm (zi s.vs)] (WA (XS Y (yj c vers q)) s ch (.loop .ready f0 n0 tL ps asg bd)) (fun res H'=>res=false/\35<=H'.length/\Q s.vs H'))
  (s:St) (hn:s.vs.length=nf) (hR:RestOK q.conds ch s) (hz:∀e∈ch,s.vs.getD e.1.toNat 0=0):
  SCall Tryz.prog G 104 [.yld 32,.ptr 26 0,.ptr 27 0,.ptr 29 0,.ptr 31 0] (WB (XS Y (yj c vers q)) s (ch.map (·.1)) (ch.map fun e=>.imm (zi e.2)) ch.length++[.loop .ready f0 n0 tL ps asg bd])
   (fun _ H'=>33<=H'.length/\(∀vs,qy q.conds ch s=some vs->Q vs H')/\(qy q.conds ch s=none->H'.take 33=WB (XS Y (yj c vers q)) s (ch.map (·.1)) (ch.map fun e=>.imm (zi e.2)) ch.length++[.loop .ready f0 n0 tL ps asg bd])):=by
 have hX28:XS Y (yj c vers q) 28= .cells [.map 1]:=by unfold XS;rw [if_neg (by omega)];exact hY28
 have hrec:=zwm G hY c vers q ch Q (SObj.under_mono (m:=33) (by omega) _ hlp) hps hch hcz nf hsz hc hvz hy ch [] s rfl hn hR hz;generalize XS Y (yj c vers q)=X at hX28 hrec ⊢;refine xw Tryz.func104 rfl (by rw [Tryz.ntmps104];simp) ?_;intro E hH hK;have e:WA X s ch (.loop .ready f0 n0 tL ps asg bd)=WB X s (ch.map (·.1)) (ch.map fun e=>.imm (zi e.2)) ch.length++[.loop .ready f0 n0 tL ps asg bd,.cells [.yld 32],.cells [fnA]]:=by
  unfold WA WB;rw [hX28];rfl
 unfold yvo at hrec;rw [e] at hrec;(refine zf ?_;conv=>whnf);refine qb rfl rfl rfl rfl rfl rfl (hrec.mono ?_);rintro r H' ⟨hl',hs,hnone⟩;refine ⟨hl',?_⟩;(refine za ?_;conv=>whnf);refine hK _ _ ⟨by omega,fun vs hv=>(hs vs hv).2,fun hv=>?_⟩;have:=(hnone hv).2;have e2:H'.take 33=(H'.take 35).take 33:=by rw [List.take_take];rfl
 rw [e2,this];rfl
def NSH (Y:Nat->SObj) (cs:List SV):List SObj:=[Y 0,Y 1,.cells cs,Y 3,Y 4,Y 5,Y 6,Y 7,Y 8,Y 9,Y 10,Y 11,Y 12,Y 13,Y 14,Y 15,Y 16]
def yci (failed:List ByteArray):SObj:=.mapS (zdw sB (failed.map fun g=>(g,true)))
def jc:List SV:=[sI 0,zdp,zdp,zdp]
def YW (Y:Nat->SObj) (nf:Nat) (failed:List ByteArray) (day:Int) (i:Nat):SObj:=
 if i=17 then .cells [.ptr 2 0] else if i=18 then .cells jc else if i=19 then .cells [sB false] else if i=20 then .cells [sI nf] else if i=24 then yci failed else if i=25 then .cells [sI day] else if i=28 then .cells [.map 1] else Y i
theorem znb (failed:List ByteArray) (n:Nat):(yci failed).under n=true:=by
 simp only [yci,SObj.under,zdw,List.map_map,List.all_map,List.all_eq_true];intro x _;rfl
theorem zze {Y:Nat->SObj} (hY:∀i,(Y i).under 17=true) (nf:Nat) (failed:List ByteArray) (day:Int) (i:Nat):(YW Y nf failed day i).under 24=true:=by
 unfold YW;split
 ·rfl
 split
 ·rfl
 split
 ·rfl
 split
 ·rfl
 split
 ·exact znb _ _
 split
 ·rfl
 split
 ·rfl
 ·exact SObj.under_mono (by omega) _ (hY i)
theorem yuj {Y:Nat->SObj} {nf:Nat} {failed:List ByteArray} {day:Int} {i:Nat} (h:i<17):YW Y nf failed day i=Y i:=by
 unfold YW
 repeat rw [if_neg (by omega)]
theorem yvs {Y:Nat->SObj} {m:List (Int × List Int)} (h:MapsOK Y m) (nf:Nat) (failed:List ByteArray) (day:Int):MapsOK (YW Y nf failed day) m:=
 ⟨by rw [yuj (by omega)];exact h.out,h.rng,fun e he=>by have:=h.rng e he;rw [yuj (by omega)];exact h.inn e he,h.nd,h.sz⟩
abbrev XW (Y:Nat->SObj) (c:Codex) (vers:List Int) (q:Sr) (failed:List ByteArray) (day:Int):Nat->SObj:=XS (YW Y c.facts.length failed day) (yj c vers q)
abbrev s00 (nf:Nat) (p:zag):St:=⟨p,List.replicate nf false,List.replicate nf 0⟩
def WD (Y:Nat->SObj) (c:Codex) (vers:List Int) (q:Sr) (failed:List ByteArray) (day:Int) (p:zag):List SObj:=
 WH (XW Y c vers q failed day) (s00 c.facts.length p)++[yci failed,.cells [sI day]]
theorem yis {g:ByteArray}:∀{failed:List ByteArray},¬g∈failed->ains g true (failed.map fun g=>(g,true))=(failed++[g]).map fun g=>(g,true)
 |[],_=>rfl
 |x::l,h=>by
  simp only [List.mem_cons,not_or] at h;simp only [List.map_cons,ains,List.cons_append];have:¬(g==x)=true:=by simpa using h.1
  rw [if_neg this,yis h.2]
def yxt:SObj->List (Nat × SV)->SObj
 | .loop _ f n _ ps a b,t=>.loop (.done .ret) f n t ps a b
 |o,_=>o
section
variable {A:List SObj} {n:Nat} (hn:A.length=n) (a a' c l:SObj)
include hn
theorem xac:(A++[a,c,l])[n]?=some a:=by subst hn;simp
theorem xad:(A++[a,c,l])[n+1]?=some c:=by subst hn;simp
theorem xae:(A++[a,c,l])[n+2]?=some l:=by subst hn;simp
theorem xaf:(A++[a,c,l]).set n a'=A++[a',c,l]:=by subst hn;simp
theorem xal:(A++[a,c,l]).set (n+2) a'=A++[a,c,a']:=by subst hn;simp
theorem yxu {i:Nat} (h:i<n):(A++[a,c,l])[i]?=A[i]?:=by subst hn;rw [List.getElem?_append_left h]
end
def zzf (nf:Nat) (done:List Int):List Bool:=(List.range nf).map fun (i:Nat)=>decide ((i:Int)∈done)
theorem yit (nf:Nat) (done:List Int):(zzf nf done).length=nf:=by simp [zzf]
theorem ytd (nf:Nat):(zzf nf []).map bvS=List.replicate nf (bvS false):=by
 apply List.ext_getElem
 ·simp [zzf]
 ·intro i h1 h2
  simp [zzf]
theorem yte {nf:Nat} {done:List Int} {f:Int} (h:0<=f/\f<nf):(zzf nf done).set f.toNat true=zzf nf (done++[f]):=by
 apply List.ext_getElem
 ·simp [zzf]
 ·intro i h1 h2
  rw [List.getElem_set];simp only [zzf,List.getElem_map,List.getElem_range,List.mem_append,List.mem_singleton];split
  ·rename_i e
   have:(i:Int)=f:=by omega
   simp [this]
  ·rename_i e
   have:¬(i:Int)=f:=by omega
   simp [this]
theorem zev {α:Type} {k:Int}:∀{l:List (Int × α)},(zx k l).isSome=decide (k∈l.map (·.1))
 |[]=>by simp [zx]
 |(k',v)::l=>by
  simp only [zx,List.map_cons,List.mem_cons]
  by_cases e:k=k'
  ·subst e;simp
  ·have:¬(k==k')=true:=by simpa using e
   rw [if_neg this,zev];simp [e]
theorem ytf {nf:Nat} {done:List Int} {m:List (Int × List Int)} (h:done.Perm (m.map (·.1))):zzf nf done=(List.range nf).map fun (i:Nat)=>(zx (i:Int) m).isSome:=by
 unfold zzf;refine List.map_congr_left fun i _=>?_
 rw [zev];exact decide_eq_decide.2 h.mem_iff
theorem zts (g:ByteArray):∀failed:List ByteArray,((zx g (failed.map fun g=>(g,true))).map sB).getD (jk (.bool false))=sB (decide (g∈failed))
 |[]=>by simp [zx];rfl
 |x::l=>by
  simp only [List.map_cons,zx]
  by_cases e:g=x
  ·subst e;simp
  ·have:¬(g==x)=true:=by simpa using e
   rw [if_neg this,zts g l];simp [e]
theorem yxv (X : Nat -> SObj) (nf : Nat) (p : zag) : WH X (s00 nf p) = [X 0, X 1, X 2, X 3, X 4, X 5, X 6, X 7, X 8, X 9, X 10, X 11, X 12, X 13, X 14, X 15, X 16, X 17, X 18, X 19, X 20, .cells (List.replicate nf (bvS false)), .cells (List.replicate nf (ivS 0)),
   .cells [ivS p.1, ivS p.2.1, ivS p.2.2.1, ivS p.2.2.2.1, ivS p.2.2.2.2, .osl 21 0 nf, .osl 22 0 nf]] := by simp [WH]
structure WitOK (Y:Nat->SObj) (c:Codex) (vers:List Int) (q:Sr):Prop where
 und:∀i,(Y i).under 17=true
 maps:MapsOK Y q.cands
 nf:c.facts.length<=1000
 arts:c.arts.length<=1000
 days:ypo c
 versR:∀v∈vers,0<=v/\v<c.arts.length
 vsz:vers.length<=1000000
 cz:q.conds.length<=1000000
 az:q.atoms.length<=1000000
 conds:∀x∈q.conds,x.ok c.facts.length
 atoms:∀x∈q.atoms,x.ok c.facts.length/\∃op l r,x= .cmp op l r
 sr:SrOK q c.facts.length
 csz:q.cands.length<=1000
def ytg (c:Codex) (vers:List Int) (q:Sr):SV:=
 match jb c vers q with
 |some v=>.tup [.agg [sI v.day,.imm (qu v.has),.imm (zi v.value),.imm (zi v.arts)],sB true]
 |none=>.tup [.agg jc,sB false]
theorem ycj {Y : Nat -> SObj} {c : Codex} {vers : List Int} {q : Sr} (hW : WitOK Y c vers q) :
    SCall Tryz.prog G0 41 [.ptr 2 0] (NSH Y (yj c vers q)) (fun r _ => r = ytg c vers q) := by
  have hfl : (c.facts.map Decl.cells).length = c.facts.length := by simp
  have hnf := hW.nf
  refine xw Tryz.func41 rfl (by rw [Tryz.ntmps41]; simp) ?_
  intro E hH hK
  (refine zf ?_; conv => whnf)
  rw [hfl]
  (refine zu 3 mixed rfl ?_; refine zb [777] (nx := 21) ?_; conv => whnf)
  refine ypf 21 (n := c.facts.length) (zz := bvS false) rfl rfl rfl rfl rfl rfl rfl rfl rfl ⟨by decide, rfl⟩ rfl (fun _ => rfl) (Nat.le_refl 21) rfl rfl rfl (by omega) ?_
  (refine zb [777] (nx := 22) ?_; conv => whnf)
  refine ypf 22 (n := c.facts.length) (zz := ivS 0) rfl rfl rfl rfl rfl rfl rfl rfl rfl ⟨by decide, rfl⟩ rfl (fun _ => rfl) (by decide : 21 <= 22) rfl rfl rfl (by omega) ?_
  (refine zb [777] (nx := 23) ?_; conv => whnf)
  refine yvr 23 (cs := [ivS 0, ivS 0, ivS 0, ivS 0, ivS 0, .osl 21 0 c.facts.length, .osl 22 0 c.facts.length]) rfl rfl rfl rfl rfl (by decide : 21 <= 23) rfl ?_
  (refine zb [777] (nx := 24) ?_; conv => whnf)
  refine zg [1, 2, 3, 4, 5] ?_
  refine Eq.mpr (congrArg (fun h => SW E _ _ h) (show _ = WH (XW Y c vers q [] 0) (s00 c.facts.length (0, 0, 0, 0, 0)) by rw [yxv]; rfl)) ?_
  show SW E _ [(1, .ptr 17 0), (2, .ptr 18 0), (3, .ptr 19 0), (4, .ptr 20 0), (5, .ptr 23 0)] _
  have hlen0 : (s00 c.facts.length (0, 0, 0, 0, 0)).ch.length = (s00 c.facts.length (0, 0, 0, 0, 0)).vs.length := by simp
  (refine zf ?_; conv => whnf)
  refine xm 24 rfl rfl rfl rfl rfl rfl (yll G0 (zze hW.und c.facts.length [] 0) c vers q _ hW.days hW.versR (by have := hW.vsz; omega)) ?_
  intro r1 H1 hr _
  obtain ⟨rfl, rfl⟩ := hr
  have hfr := yca hW.days vers (0, 36525) (by decide)
  have hhz := zmy q.dates
  have hwit : ytg c vers q = match (match zdy q c.facts.length (min (ym c vers).2 ((ym c vers).1 + xl q.dates) - (ym c vers).1).toNat (ym c vers).1 [] with
      | some (day, vs) => some (⟨day, (List.range c.facts.length).map fun (i : Nat) => (zx (i : Int) q.cands).isSome, vs, vers⟩ : View)
      | none => none) with
    | some v => .tup [.agg [sI v.day, .imm (qu v.has), .imm (zi v.value), .imm (zi v.arts)], sB true]
    | none => .tup [.agg jc, sB false] := rfl
  rw [hwit] at hK
  have hfr' : 0 <= (ym c vers).1 /\ (ym c vers).1 <= 36525 /\ 0 <= (ym c vers).2 /\ (ym c vers).2 <= 36525 := hfr
  generalize hlo : (ym c vers).1 = lo at hK hfr' ⊢
  generalize hto : min (ym c vers).2 (lo + xl q.dates) = to at hK ⊢
  have hto' : to <= 36525 := by omega
  (refine za ?_; conv => whnf)
  refine zg [1, 2, 3, 4, 5, 6, 8, 9] ?_
  refine xc (σ := Nat × Int × List ByteArray × zag) (fun _ => [(1, .ptr 17 0), (2, .ptr 18 0), (3, .ptr 19 0), (4, .ptr 20 0), (5, .ptr 23 0), (6, .map 24), (8, sI to)] ++ [(9, .ptr 25 0)]) (fun x => WD Y c vers q x.2.2.1 x.2.1 x.2.2.2)
    (fun x => lo <= x.2.1 /\ (x.1 : Int) = max 0 (to - x.2.1) /\ (x.2.2.2 = (0, 0, 0, 0, 0) \/ (1 <= x.2.1 /\ x.2.2.2 = yf (x.2.1 - 1))) /\ zdy q c.facts.length (to - lo).toNat lo [] = zdy q c.facts.length x.1 x.2.1 x.2.2.1) (fun x => x.1) ?_ ((to - lo).toNat, lo, [], (0, 0, 0, 0, 0)) ⟨Int.le_refl _, by simp only; omega, .inl rfl, rfl⟩
  rintro ⟨n, day, failed, p⟩ ⟨h1, h2, h3, h4⟩ ih
  simp only at h1 h2 h3 h4
  show SW E _ _ (WD Y c vers q failed day p)
  have hYW := zze hW.und c.facts.length failed day
  have hXW := zfi hYW c vers q
  have huA : ∀ FF, (WH (XW Y c vers q FF day) (s00 c.facts.length (yf day)) ++ [yci FF]).all (SObj.under 25) = true := fun FF => by
    rw [List.all_append, xy (m := 24) (by omega) (zdd (zfi (zze hW.und c.facts.length FF day) c vers q) _)]
    simp only [List.all_cons, List.all_nil, znb, Bool.and_true, Bool.true_and]
  have hst : (st0 c.facts.length day).ch.length = (st0 c.facts.length day).vs.length := by simp [st0]
  have hstv : (st0 c.facts.length day).vs.length = c.facts.length := by simp [st0]
  have hcz := hW.cz
  have haz := hW.az
  have hcsz := hW.csz
  (refine zf ?_; conv => whnf)
  repeat' ((with_reducible refine way ?_ ?_) <;> (intro h; conv => whnf))
  · obtain ⟨n', rfl⟩ : ∃ n', n = n' + 1 := ⟨n - 1, by omega⟩
    simp only [zdy] at h4
    refine xm 24 rfl rfl rfl rfl rfl rfl (yby hXW (s00 c.facts.length p) day ⟨by omega, by omega⟩ h3) ?_
    intro r1 H1 hr _
    obtain ⟨rfl, rfl⟩ := hr
    refine Eq.mpr (congrArg (fun h => SWr E _ _ _ _ h) (show _ = WD Y c vers q failed day (yf day) from rfl)) ?_
    (refine za ?_; conv => whnf)
    refine xm 24 rfl rfl rfl rfl rfl rfl (zjy G0 hYW c vers q (st0 c.facts.length day) hst (by rw [hstv]; exact hW.conds) (by omega)) ?_
    intro r1 H1 hr _
    obtain ⟨rfl, rfl⟩ := hr
    refine Eq.mpr (congrArg (fun h => SWr E _ _ _ _ h) (show _ = WD Y c vers q failed day (yf day) from rfl)) ?_
    generalize hv : zbp q.conds (st0 c.facts.length day) = vd at h4
    (refine za ?_; conv => whnf)
    repeat' ((with_reducible refine way ?_ ?_) <;> (intro h; conv => whnf))
    · rw [if_pos (by assumption)] at h4
      rw [yz (c := day + 1) (by omega) (by omega)]
      refine zg [1, 2, 3, 4, 5, 6, 8, 9] ?_
      refine Eq.mpr (congrArg (fun h => SW E _ _ h) (show _ = (WH (XW Y c vers q failed day) (s00 c.facts.length (yf day)) ++ [yci failed]) ++ [.cells [sI day], .cells [sI (day + 1)]] from rfl)) ?_
      refine ztr (n0 := 25) (t0 := [(1, .ptr 17 0), (2, .ptr 18 0), (3, .ptr 19 0), (4, .ptr 20 0), (5, .ptr 23 0), (6, .map 24), (8, sI to)]) (v := 9) rfl (by rw [hH]; exact (by decide : 17 <= 25)) (huA failed) rfl rfl ?_
      exact ih (n', day + 1, failed, yf day) ⟨by simp only; omega, by simp only; omega, .inr ⟨by simp only; omega, by simp only; rw [show day + 1 - 1 = day by omega]⟩, h4⟩ (by simp only; omega)
    rw [if_neg (by assumption)] at h4
    refine xm 24 rfl rfl rfl rfl rfl rfl (zvq G0 hYW c vers q (st0 c.facts.length day) hst (by rw [hstv]; exact hW.atoms) (by omega)) ?_
    intro r1 H1 hr _
    obtain ⟨rfl, rfl⟩ := hr
    refine Eq.mpr (congrArg (fun h => SWr E _ _ _ _ h) (show _ = WD Y c vers q failed day (yf day) from rfl)) ?_
    generalize hsg : zpk q.atoms (st0 c.facts.length day) = g at h4
    (refine za ?_; conv => whnf)
    refine zsv (b := 24) (l := failed.map fun g => (g, true)) sB rfl rfl rfl rfl rfl rfl rfl rfl rfl (zts g failed) ?_
    by_cases hm : g ∈ failed
    · rw [if_pos hm] at h4
      rw [show decide (g ∈ failed) = true by simp [hm]]
      (refine za ?_; conv => whnf)
      rw [yz (c := day + 1) (by omega) (by omega)]
      refine zg [1, 2, 3, 4, 5, 6, 8, 9] ?_
      refine Eq.mpr (congrArg (fun h => SW E _ _ h) (show _ = (WH (XW Y c vers q failed day) (s00 c.facts.length (yf day)) ++ [yci failed]) ++ [.cells [sI day], .cells [sI (day + 1)]] from rfl)) ?_
      refine ztr (n0 := 25) (t0 := [(1, .ptr 17 0), (2, .ptr 18 0), (3, .ptr 19 0), (4, .ptr 20 0), (5, .ptr 23 0), (6, .map 24), (8, sI to)]) (v := 9) rfl (by rw [hH]; exact (by decide : 17 <= 25)) (huA failed) rfl rfl ?_
      exact ih (n', day + 1, failed, yf day) ⟨by simp only; omega, by simp only; omega, .inr ⟨by simp only; omega, by simp only; rw [show day + 1 - 1 = day by omega]⟩, h4⟩ (by simp only; omega)
    rw [if_neg hm] at h4
    rw [show decide (g ∈ failed) = false by simp [hm]]
    (refine za ?_; conv => whnf)
    refine qb rfl rfl rfl rfl rfl rfl ((zrl G0 hYW c vers q (st0 c.facts.length day) (yvs hW.maps _ _ _) (by omega)).mono ?_)
    rintro r H' ⟨rfl, hl', ht⟩
    refine ⟨Nat.le_trans (by decide : 26 <= 32) hl', ?_⟩
    (refine za ?_; conv => whnf)
    have hWBu : ∀ N, 32 <= N -> (WB (XS (YW Y c.facts.length failed day) (yj c vers q)) (st0 c.facts.length day) ((yh q.cands).map (·.1)) ((yh q.cands).map fun e => .imm (zi e.2)) (yh q.cands).length).all (SObj.under N) = true := fun N hN =>
      zzd hXW _ _ _ hN (zbm (f := fun e : Int × List Int => SV.imm (zi e.2)) (fun _ => rfl) _)
    refine yy [1, 2, 3, 4, 5, 6, 8, 9, 10, 53] 32 (by rw [hH]; exact (by decide : 17 <= 32)) hl' rfl (by rw [ht]; exact hWBu 32 (Nat.le_refl _)) ?_
    rw [ht]
    show SW E _ [(1, .ptr 17 0), (2, .ptr 18 0), (3, .ptr 19 0), (4, .ptr 20 0), (5, .ptr 23 0), (6, .map 24), (8, sI to), (9, .ptr 25 0), (10, sS g), (53, .fn (.func 104) [] [.ptr 26 0, .ptr 27 0, .ptr 29 0, .ptr 31 0])] _
    refine zjs rfl rfl ?_
    clear ht hl'
    have hvz : ∀ e ∈ yh q.cands, e.2.length <= 1073741824 := fun e he => by
      obtain ⟨f, hf, rfl⟩ := List.mem_map.1 he
      have := (List.mergeSort_perm (q.cands.map (·.1)) fun x y => decide (x <= y)).mem_iff.1 hf
      obtain ⟨e2, he2, rfl⟩ := List.mem_map.1 this
      have := zby hW.maps.nd he2
      simp only [this, Option.getD_some, List.length_mergeSort]
      have := hW.maps.sz e2 he2
      omega
    have hz : ∀ e ∈ yh q.cands, (st0 c.facts.length day).vs.getD e.1.toNat 0 = 0 := fun e _ => by
      simp only [st0, List.getD_eq_getElem?_getD, List.getElem?_replicate]
      split <;> rfl
    generalize hlp : SObj.loop .ready E.f _ _ _ _ _ = lp
    obtain ⟨Q, hQ⟩ : ∃ Q : List Int -> List SObj -> Prop, Q = fun vs H' => (∃ t', H'[32]? = some (yxt lp t')) /\ H'[18]? = some (.cells [sI day, .imm (qu ((List.range c.facts.length).map fun (i : Nat) => (zx (i : Int) q.cands).isSome)), .imm (zi vs), .imm (zi vers)]) /\ H'[19]? = some (.cells [sB true]) := ⟨_, rfl⟩
    subst hlp
    refine (ytc G0 hYW rfl c vers q (yh q.cands) Q rfl rfl (by simp [yh]; omega) (by omega) c.facts.length (by omega) hW.conds hvz ?_ (st0 c.facts.length day) hstv (hW.sr.rest day) hz).mono ?_
    · intro s hs1 hs2
      rw [hQ]
      clear hQ hK h4 ih
      refine zjt (b := 32) rfl E.hfn rfl (by decide) ?_
      intro E3 hl3 hOwn hKR
      (refine zf ?_; conv => whnf)
      refine zyf hOwn rfl ?_
      refine Eq.mpr (congrArg (fun h => SW E3 _ _ h) (show _ = WA (XS (YW Y c.facts.length failed day) (yj c vers q)) s (yh q.cands) _ from rfl)) ?_
      refine zg [1, 2, 3, 4, 9, 11] ?_
      show SW E3 _ [(1, .ptr 17 0), (2, .ptr 18 0), (3, .ptr 19 0), (4, .ptr 20 0), (9, .ptr 25 0), (11, .imm (zi s.vs))] _
      (refine zf ?_; conv => whnf)
      (refine zu 2 mixed rfl ?_; refine zb [777] (nx := 35) ?_; conv => whnf)
      refine ypf 35 (n := c.facts.length) (zz := bvS false) rfl rfl rfl rfl rfl rfl rfl rfl rfl ⟨by decide, rfl⟩ rfl (fun _ => rfl) (Nat.le_refl 35) rfl rfl rfl (by omega) ?_
      (refine zb [777] (nx := 36) ?_; conv => whnf)
      refine yi rfl (by simp [yw, WA, WH]) (zzb G0 vers (by have := hW.vsz; omega)) ?_
      (refine zb [777] (nx := 36) ?_; conv => whnf)
      refine zg [1, 2, 3, 12] ?_
      refine Eq.mpr (congrArg (fun h => SW E3 _ _ h) (show _ = WA (XS (YW Y c.facts.length failed day) (yj c vers q)) s (yh q.cands) _ ++ [.cells (List.replicate c.facts.length (bvS false)), .cells [sI day, .osl 35 0 c.facts.length, .imm (zi s.vs), .imm (zi vers)]] from rfl)) ?_
      show SW E3 _ [(1, .ptr 17 0), (2, .ptr 18 0), (3, .ptr 19 0), (12, .ptr 36 0)] _
      refine yid (b := 1) (es := zdw (fun n : Nat => SV.map n) (q.cands.map fun e => (e.1, 3 + e.1.toNat))) (by show some (Y 1) = _; rw [hW.maps.out]) ?_
      intro es' clock hes hst2
      (refine zf ?_; conv => whnf)
      refine znx rfl rfl rfl rfl rfl rfl ?_
      (refine za ?_; conv => whnf)
      refine zg [1, 2, 3, 12, 69] ?_
      generalize hlpb : SObj.loop .busy E.f _ _ _ _ _ = lpb at hKR ⊢
      refine Eq.mpr (congrArg (fun h => SW E3 _ _ h) (show _ = (WA (XS (YW Y c.facts.length failed day) (yj c vers q)) s (yh q.cands) lpb).set 1 (.pin .i64 es' clock) ++ [.cells (List.replicate c.facts.length (bvS false)), .cells [sI day, .osl 35 0 c.facts.length, .imm (zi s.vs), .imm (zi vers)], .iter 1 clock [] clock] from rfl)) ?_
      have hX := hXW
      have aL : ((WA (XS (YW Y c.facts.length failed day) (yj c vers q)) s (yh q.cands) lpb).set 1 (.pin .i64 es' clock)).length = 35 := by rw [List.length_set]; rfl
      have a1 : ((WA (XS (YW Y c.facts.length failed day) (yj c vers q)) s (yh q.cands) lpb).set 1 (.pin .i64 es' clock))[1]? = some (.pin .i64 es' clock) := rfl
      have a18 : ((WA (XS (YW Y c.facts.length failed day) (yj c vers q)) s (yh q.cands) lpb).set 1 (.pin .i64 es' clock))[18]? = some (.cells jc) := rfl
      have a19 : ((WA (XS (YW Y c.facts.length failed day) (yj c vers q)) s (yh q.cands) lpb).set 1 (.pin .i64 es' clock))[19]? = some (.cells [sB false]) := rfl
      have a32 : ((WA (XS (YW Y c.facts.length failed day) (yj c vers q)) s (yh q.cands) lpb).set 1 (.pin .i64 es' clock))[32]? = some lpb := rfl
      have aU : ((WA (XS (YW Y c.facts.length failed day) (yj c vers q)) s (yh q.cands) lpb).set 1 (.pin .i64 es' clock)).all (SObj.under 35) = true := by
        refine zyx (yip hX s _ (by subst hlpb; rfl)) (zoe ?_ hes)
        have := SObj.under_mono (m := 24) (n := 35) (by omega) _ (hX 1)
        rw [show XS (YW Y c.facts.length failed day) (yj c vers q) 1 = .mapI .i64 (zdw (fun n : Nat => SV.map n) (q.cands.map fun e => (e.1, 3 + e.1.toNat))) from hW.maps.out] at this
        exact this
      generalize (WA (XS (YW Y c.facts.length failed day) (yj c vers q)) s (yh q.cands) lpb).set 1 (.pin .i64 es' clock) = A at aL a1 a18 a19 a32 aU ⊢
      have hk1 : es'.map (·.2.1) = q.cands.map (·.1) := by
        have : es'.map (·.2.1) = (es'.map (·.2)).map (·.1) := by rw [List.map_map]; rfl
        rw [this, hes]
        simp [zdw]
      have hk2 : ∀ x ∈ es', 0 <= x.2.1 /\ x.2.1 < c.facts.length := fun x hx => by
        have h1 : x.2.1 ∈ q.cands.map (·.1) := by rw [<- hk1]; exact List.mem_map.2 ⟨x, hx, rfl⟩
        have h2 : x.2.1 ∈ zcs (q.cands.map (·.1)) := (List.mergeSort_perm (q.cands.map (·.1)) fun x y => decide (x <= y)).mem_iff.2 h1
        have h3 := (hW.sr.rest day).rng (x.2.1, zcs ((zx x.2.1 q.cands).getD [])) (List.mem_map.2 ⟨_, h2, rfl⟩)
        rw [hstv] at h3
        exact h3
      rw [<- ytd]
      show SW E3 _ [(1, .ptr 17 0), (2, .ptr 18 0), (3, .ptr 19 0), (12, .ptr 36 0), (69, .ptr 37 0)] _
      refine xc (σ := List Nat × List Int) (fun _ => [(1, .ptr 17 0), (2, .ptr 18 0), (3, .ptr 19 0), (12, .ptr 36 0), (69, .ptr 37 0)]) (fun x => A ++ [.cells ((zzf c.facts.length x.2).map bvS), .cells [sI day, .osl 35 0 c.facts.length, .imm (zi s.vs), .imm (zi vers)], .iter 1 clock x.1 clock])
        (fun x => (x.2 ++ (zdc es' x.1).map (·.2.1)).Perm (es'.map (·.2.1))) (fun x => (zdc es' x.1).length) ?_ ([], []) (by simp [zny])
      rintro ⟨seen, done⟩ hp2 ih2
      simp only at hp2 ih2
      show SW E3 _ _ (A ++ [.cells ((zzf c.facts.length done).map bvS), .cells [sI day, .osl 35 0 c.facts.length, .imm (zi s.vs), .imm (zi vers)], .iter 1 clock seen clock])
      (refine zf ?_; conv => whnf)
      refine zrs rfl rfl rfl rfl (xae aL _ _ _) (by rw [yxu aL _ _ _ (by omega)]; exact a1) hst2 (Nat.le_refl _) (fun h0 => ?_) (fun e he => ?_)
      · have hdn : done.Perm (q.cands.map (·.1)) := by
          rw [h0, hk1] at hp2
          simpa using hp2
        have hall := ytf (nf := c.facts.length) hdn
        have hhl : (zzf c.facts.length done).length = c.facts.length := yit _ _
        rw [<- hall] at hKR
        generalize zzf c.facts.length done = has at hKR hhl ⊢
        have hck := zkw (has.map dB)
        rw [List.length_map, hhl] at hck
        refine jx (fun k h => yuw 35 c.facts.length 1 (cs := has.map bvS) (ds := has.map dB) (xac aL _ _ _) (by simp [SV.one]) (by rw [show has.map bvS = (has.map dB).map SV.imm by simp]; exact zrq _) (by simp [hhl]) h) ?_
        rw [hck, xaf aL, List.map_append]
        have hdb : (D.isl 1 ((has.map dB).map fun d => [d])) = qu has := by simp [qu]
        rw [hdb]
        have hvw : [SObj.dead, .cells [sI day, .osl 35 0 c.facts.length, .imm (zi s.vs), .imm (zi vers)], .iter 1 clock seen clock].map (SObj.shut 35 c.facts.length (qu has)) = [.dead, .cells [sI day, .imm (qu has), .imm (zi s.vs), .imm (zi vers)], .iter 1 clock seen clock] := by
          simp [SObj.shut, SV.shut, SV.shut.shutL]
        rw [hvw]
        have bL : (A.map (SObj.shut 35 c.facts.length (qu has))).length = 35 := by rw [List.length_map, aL]
        have b18 : (A.map (SObj.shut 35 c.facts.length (qu has)))[18]? = some (.cells jc) := by rw [List.getElem?_map, a18]; rfl
        have b19 : (A.map (SObj.shut 35 c.facts.length (qu has)))[19]? = some (.cells [sB false]) := by rw [List.getElem?_map, a19]; rfl
        have b32 : (A.map (SObj.shut 35 c.facts.length (qu has)))[32]? = some (lpb.shut 35 c.facts.length (qu has)) := by rw [List.getElem?_map, a32]; rfl
        generalize A.map (SObj.shut 35 c.facts.length (qu has)) = B at bL b18 b19 b32 ⊢
        (refine we [777, 78, 999] 1000 ?_; conv => whnf)
        refine wt (v := .agg [sI day, .imm (qu has), .imm (zi s.vs), .imm (zi vers)]) rfl rfl rfl rfl (xad bL _ _ _) rfl ?_
        refine zkb (b := 18) (n := 4) rfl rfl rfl rfl rfl rfl rfl rfl (by rw [yxu bL _ _ _ (by omega)]; exact b18) rfl ?_
        refine zkb (b := 19) (n := 1) rfl rfl rfl rfl rfl rfl rfl rfl (by rw [List.getElem?_set_ne (by decide), yxu bL _ _ _ (by omega)]; exact b19) rfl ?_
        (refine za ?_; conv => whnf)
        subst hlpb
        have hne : ∀ x y : SObj, ∀ i, i ≠ 18 -> i ≠ 19 -> (((B ++ [SObj.dead, .cells [sI day, .imm (qu has), .imm (zi s.vs), .imm (zi vers)], .iter 1 clock seen clock]).set 18 x).set 19 y)[i]? = (B ++ [SObj.dead, .cells [sI day, .imm (qu has), .imm (zi s.vs), .imm (zi vers)], .iter 1 clock seen clock])[i]? := fun x y i h1 h2 => by
          rw [List.getElem?_set_ne (Ne.symm h2), List.getElem?_set_ne (Ne.symm h1)]
        have hBl : (B ++ [SObj.dead, .cells [sI day, .imm (qu has), .imm (zi s.vs), .imm (zi vers)], .iter 1 clock seen clock]).length = 38 := by simp [bL]
        refine hKR (some .ret) _ _ ?_ ((hne _ _ 32 (by decide) (by decide)).trans ((yxu bL _ _ _ (by decide)).trans b32)) ⟨rfl, ?_, ⟨_, List.getElem?_set_self ?_⟩, ?_, ?_⟩
        · rw [List.length_set, List.length_set, hBl]
          exact (by decide : 35 <= 38)
        · rw [List.length_set, List.length_set, List.length_set, hBl]
          decide
        · rw [List.length_set, List.length_set, hBl]
          decide
        · rw [List.getElem?_set_ne (by decide), List.getElem?_set_ne (by decide), List.getElem?_set_self (by rw [hBl]; decide)]
        · rw [List.getElem?_set_ne (by decide), List.getElem?_set_self (by rw [List.length_set, hBl]; decide)]
          rfl
      · rw [xal aL]
        obtain ⟨e1, f, e3⟩ := e
        have hperm := zla hst2.1 he
        have hpl := hperm.length_eq
        have hpm := hperm.map (·.2.1)
        simp only [List.map_cons, List.length_cons] at hpm hpl
        have hfr := hk2 _ (zhn he)
        simp only at hfr
        have hfl2 : f.toNat < (zzf c.facts.length done).length := by rw [yit]; omega
        (refine we [777, 73] 1000 ?_; conv => whnf)
        refine znz rfl rfl rfl rfl (xae aL _ _ _) (by rw [yxu aL _ _ _ (by omega)]; exact a1) (zhn he) ?_
        (refine we [777, 75] 1000 ?_; conv => whnf)
        refine wt (v := .osl 35 0 c.facts.length) rfl rfl rfl rfl (xad aL _ _ _) rfl ?_
        (refine we [777, 999] 1000 ?_; conv => whnf)
        refine zfy (i := f.toNat) rfl rfl rfl rfl rfl rfl rfl (show f = ((f.toNat : Nat) : Int) by omega) (by omega) ?_
        refine zbe (d := ((zzf c.facts.length done).take f.toNat).map bvS) (zz := bvS ((zzf c.facts.length done)[f.toNat]'hfl2)) (r := ((zzf c.facts.length done).drop (f.toNat + 1)).map bvS) (v := bvS true) rfl rfl rfl rfl rfl rfl rfl rfl (by rw [<- zeu]; exact xac aL _ _ _) (by show 0 + f.toNat * 1 = _; rw [List.length_map, List.length_take]; omega) ?_
        rw [xaf aL, zmz _ _ _ hfl2, yte hfr]
        (refine za ?_; conv => whnf)
        refine yy [1, 2, 3, 12, 69] 38 (by rw [hl3]; exact (by decide : 35 <= 38)) (by simp [aL]) rfl ?_ ?_
        · rw [List.take_of_length_le (by simp [aL]), List.all_append, xy (m := 35) (by omega) aU]
          simp only [List.all_cons, List.all_nil, ybu, zbm (f := bvS) (fun _ => rfl), Bool.and_true, Bool.true_and]
          rfl
        · rw [List.take_of_length_le (by simp [aL])]
          exact ih2 (seen ++ [e1], done ++ [f]) (by
            refine List.Perm.trans ?_ hp2
            simp only [List.append_assoc, List.cons_append, List.nil_append]
            exact (List.Perm.refl done).append hpm.symm) (by simp only; omega)
    · rintro r H' ⟨hl', hs, hnone⟩
      refine ⟨hl', ?_⟩
      cases hres : qy q.conds (yh q.cands) (st0 c.facts.length day) with
      | some vs =>
        have hs' := hs vs hres
        rw [hQ] at hs'
        obtain ⟨⟨t', g1⟩, g2, g3⟩ := hs'
        rw [hres] at h4
        simp only at h4
        rw [h4] at hK
        refine ⟨.done .ret, t', g1, .inr ⟨.ret, rfl, ?_⟩⟩
        have k2 : (H'.set 32 .dead)[18]? = some (.cells [sI day, .imm (qu ((List.range c.facts.length).map fun (i : Nat) => (zx (i : Int) q.cands).isSome)), .imm (zi vs), .imm (zi vers)]) := by rw [List.getElem?_set_ne (by decide)]; exact g2
        have k3 : (H'.set 32 .dead)[19]? = some (.cells [sB true]) := by rw [List.getElem?_set_ne (by decide)]; exact g3
        show SW E _ _ (H'.set 32 .dead)
        generalize H'.set 32 .dead = H2 at k2 k3
        have l2 : jl Tryz.prog 31 H2 (.ptr 18 0) = some (.agg [sI day, .imm (qu ((List.range c.facts.length).map fun (i : Nat) => (zx (i : Int) q.cands).isSome)), .imm (zi vs), .imm (zi vers)]) := by
          unfold jl
          simp only [k2]
          rfl
        have l3 : jl Tryz.prog 4 H2 (.ptr 19 0) = some (sB true) := by
          unfold jl
          simp only [k3]
          rfl
        refine ytx (r := .tup [.agg [sI day, .imm (qu ((List.range c.facts.length).map fun (i : Nat) => (zx (i : Int) q.cands).isSome)), .imm (zi vs), .imm (zi vers)], sB true]) ?_ (hK _ _ rfl)
        show (match List.mapM (zhb Tryz.prog H2 _) [ResultVar.cell 2 31, ResultVar.cell 3 4] with | some [s] => some s | some l => some (.tup l) | none => none) = _
        simp only [List.mapM_cons, List.mapM_nil, zhb]
        show (match (do let a <- jl Tryz.prog 31 H2 (.ptr 18 0); let b <- (do let a <- jl Tryz.prog 4 H2 (.ptr 19 0); let b <- (some []); some (a :: b)); some (a :: b)) with | some [s] => some s | some l => some (.tup l) | none => none) = _
        rw [l2, l3]
        rfl
      | none =>
        have ht := hnone hres
        rw [hres] at h4
        simp only at h4
        have hg : H'[32]? = (H'.take 33)[32]? := by rw [List.getElem?_take, if_pos (by omega)]
        refine ⟨.ready, _, by show H'[32]? = _; rw [hg, ht]; rfl, .inl ⟨rfl, ?_⟩⟩
        show SW E _ _ (H'.set 32 .dead)
        have ht2 : (H'.set 32 .dead).take 26 = WD Y c vers q failed day (yf day) := by
          rw [List.take_set_of_le (by omega)]
          have : H'.take 26 = (H'.take 33).take 26 := by rw [List.take_take]; rfl
          rw [this, ht]
          rfl
        refine yy [1, 2, 3, 4, 5, 6, 8, 9, 10] 26 (by rw [hH]; exact (by decide : 17 <= 26)) (by rw [List.length_set]; omega) rfl ?_ ?_
        · rw [ht2]
          unfold WD
          rw [List.all_append, xy (m := 24) (by omega) (zdd hXW _)]
          simp only [List.all_cons, List.all_nil, znb, Bool.and_true, Bool.true_and]
          rfl
        · rw [ht2]
          show SW E _ [(1, .ptr 17 0), (2, .ptr 18 0), (3, .ptr 19 0), (4, .ptr 20 0), (5, .ptr 23 0), (6, .map 24), (8, sI to), (9, .ptr 25 0), (10, sS g)] _
          (refine zf ?_; conv => whnf)
          refine yhq (b := 24) (l := failed.map fun g => (g, true)) sB true rfl rfl rfl rfl rfl rfl rfl rfl rfl ?_
          rw [yis hm]
          (refine za ?_; conv => whnf)
          rw [yz (c := day + 1) (by omega) (by omega)]
          refine zg [1, 2, 3, 4, 5, 6, 8, 9] ?_
          refine Eq.mpr (congrArg (fun h => SW E _ _ h) (show _ = (WH (XW Y c vers q (failed ++ [g]) day) (s00 c.facts.length (yf day)) ++ [yci (failed ++ [g])]) ++ [.cells [sI day], .cells [sI (day + 1)]] from rfl)) ?_
          refine ztr (n0 := 25) (t0 := [(1, .ptr 17 0), (2, .ptr 18 0), (3, .ptr 19 0), (4, .ptr 20 0), (5, .ptr 23 0), (6, .map 24), (8, sI to)]) (v := 9) rfl (by rw [hH]; exact (by decide : 17 <= 25)) (huA (failed ++ [g])) rfl rfl ?_
          exact ih (n', day + 1, failed ++ [g], yf day) ⟨by simp only; omega, by simp only; omega, .inr ⟨by simp only; omega, by simp only; rw [show day + 1 - 1 = day by omega]⟩, h4⟩ (by simp only; omega)
  · have hn0 : n = 0 := by omega
    subst hn0
    simp only [zdy] at h4
    rw [h4] at hK
    exact hK _ _ rfl
def yiu (m:List (Int × List Int)):SObj:=.mapI .i64 (zdw (fun n:Nat=>SV.map n) (m.map fun e=>(e.1,3+e.1.toNat)))
def yvt (vals:List Int):SObj:=.mapI .i64 (zdw sB (vals.map fun v=>(v,true)))
def yln (m:List (Int × List Int)) (i:Nat):SObj:=
 match zx (i:Int) m with
 |some vals=>yvt vals
 |none=>.free
def NSm (o0 o1 o2:SObj) (m:List (Int × List Int)) (ta tb:Nat):List SObj:=[o0,o1,o2]++((List.range 12).map (yln m)++[.tok 1 ta,.tok 5 tb])
def zav (c:Codex):SObj:=.cells [.imm (zj c.facts),.imm (zj c.lines),.imm (yl c.arts)]
def NS (c:Codex) (vers:List Int) (q:Sr):List SObj:=NSm (zav c) (yiu q.cands) (.cells (yj c vers q)) q.cands q.conds.length q.atoms.length
theorem ylo (vals:List Int) (n:Nat):(yvt vals).under n=true:=by
 simp only [yvt,SObj.under,zdw,List.map_map,List.all_map,List.all_eq_true];intro x _;rfl
theorem ylp (m:List (Int × List Int)) (i n:Nat):(yln m i).under n=true:=by
 unfold yln;split
 ·exact ylo _ _
 ·rfl
theorem zwn {m:List (Int × List Int)} (h:∀e∈m,0<=e.1/\e.1<12):(yiu m).under 17=true:=by
 simp only [yiu,SObj.under,zdw,List.map_map,List.all_map,List.all_eq_true];intro e he;have:=h e he;simp only [Function.comp,SV.under,decide_eq_true_eq];omega
theorem zcf {c:Codex} {vers:List Int} {q:Sr} (h:∀e∈q.cands,0<=e.1/\e.1<12):(NS c vers q).all (SObj.under 17)=true:=by
 unfold NS NSm;rw [List.all_append,List.all_append];simp only [List.all_cons,List.all_nil,zwn h,Bool.and_true,Bool.true_and];have:((List.range 12).map (yln q.cands)).all (SObj.under 17)=true:=by
  rw [List.all_map,List.all_eq_true];intro i _;exact ylp _ _ _
 rw [this];rfl
theorem yvu {o0 o1 o2:SObj} {m:List (Int × List Int)} {ta tb i:Nat} (h:i<12):(NSm o0 o1 o2 m ta tb)[3+i]?=some (yln m i):=by
 unfold NSm;rw [List.getElem?_append_right (by simp),List.getElem?_append_left (by simp;omega)];simp only [List.length_cons,List.length_nil,List.getElem?_map];rw [show 3+i-(0+1+1+1)=i by omega,List.getElem?_range (by omega)];rfl
theorem yvv {o0 o1 o2 ob:SObj} {m m':List (Int × List Int)} {ta tb i:Nat} (h:i<12) (h1:yln m' i=ob) (h2:∀j:Nat,j≠i->yln m' j=yln m j):(NSm o0 o1 o2 m ta tb).set (3+i) ob=NSm o0 o1 o2 m' ta tb:=by
 unfold NSm;rw [List.set_append_right _ _ (by simp),List.set_append_left _ _ (by simp;omega)]
 congr 2
 apply List.ext_getElem
 ·simp
 ·intro j g1 g2
  rw [List.getElem_set];simp only [List.length_cons,List.length_nil,List.getElem_map,List.getElem_range];split
  ·rename_i e
   have:j=i:=by omega
   rw [this,h1]
  ·rename_i e
   rw [h2 j (by omega)]
theorem zae {α:Type} (k:Int) (v:α) (m:List (Int × α)):zx k (ains k v m)=some v:=by rw [zau];simp
theorem ylq {m:List (Int × List Int)} {f:Int} {vals:List Int} {i j:Nat} (hf:f=i) (h:j≠i):yln (ains f vals m) j=yln m j:=by
 unfold yln;rw [zau];have:¬((j:Int)==f)=true:=by simp;omega
 rw [if_neg this]
theorem zrw (f:Int) (vals:List Int):∀m:List (Int × List Int),((ains f vals m).map fun e=>(e.1,3+e.1.toNat))=ains f (3+f.toNat) (m.map fun e=>(e.1,3+e.1.toNat))
 |[]=>rfl
 |(k,v)::m=>by
  simp only [ains,List.map_cons]
  by_cases h:(f==k)=true
  ·rw [if_pos h,if_pos h];rfl
  ·rw [if_neg h,if_neg h,List.map_cons,zrw f vals m]
theorem ztt {α:Type} {k:Int} {v:α}:∀{m:List (Int × α)},zx k m=some v->(m.map (·.1)).Nodup->ains k v m=m
 |[],h,_=>by simp [zx] at h
 |(k',v')::m,h,hn=>by
  simp only [zx] at h;simp only [ains];simp only [List.map_cons,List.nodup_cons] at hn;split
  ·rename_i e
   rw [if_pos e] at h;cases h;have:k=k':=by simpa using e
   rw [this]
  ·rename_i e
   rw [if_neg e] at h;rw [ztt h hn.2]
theorem zzg (v:Int):∀vals:List Int,ains v true (vals.map fun v=>(v,true))=(if v∈vals then vals else vals++[v]).map fun v=>(v,true)
 |[]=>rfl
 |x::l=>by
  simp only [List.map_cons,ains,List.mem_cons]
  by_cases h:v=x
  ·subst h;simp
  ·have:¬(v==x)=true:=by simpa using h
   rw [if_neg this,zzg v l]
   by_cases hm:v∈l
   ·simp [h,hm]
   ·simp [h,hm]
theorem ztu {α:Type} (k:Int) (v:α):∀m:List (Int × α),(ains k v m).map (·.1)=if k∈m.map (·.1) then m.map (·.1) else m.map (·.1)++[k]
 |[]=>rfl
 |(k',v')::m=>by
  simp only [ains,List.map_cons,List.mem_cons]
  by_cases h:k=k'
  ·subst h;simp
  ·have:¬(k==k')=true:=by simpa using h
   rw [if_neg this,List.map_cons,ztu k v m]
   by_cases hm:k∈m.map (·.1)
   ·rw [if_pos hm,if_pos (.inr hm)]
   ·rw [if_neg hm,if_neg (fun e=>e.elim h hm)];rfl
structure CandsOK (m:List (Int × List Int)):Prop where
 rng:∀e∈m,0<=e.1/\e.1<12
 nd:(m.map (·.1)).Nodup
theorem zlf {α:Type} {k:Int} {v:α} {e:Int × α}:∀{m:List (Int × α)},e∈ains k v m->e=(k,v)\/e∈m
 |[],h=>by simp [ains] at h;exact .inl h
 |(k',v')::m,h=>by
  simp only [ains] at h;split at h
  ·rcases List.mem_cons.1 h with h|h
   ·exact .inl h
   ·exact .inr (List.mem_cons_of_mem _ h)
  ·rcases List.mem_cons.1 h with h|h
   ·exact .inr (h ▸ List.mem_cons_self ..)
   ·rcases zlf h with h|h
    ·exact .inl h
    ·exact .inr (List.mem_cons_of_mem _ h)
theorem CandsOK.ains {m:List (Int × List Int)} (h:CandsOK m) {f:Int} (hf:0<=f/\f<12) (vals:List Int):CandsOK (ains f vals m):=by
 refine ⟨fun e he=>?_,?_⟩
 ·rcases zlf he with rfl|he
  ·exact hf
  ·exact h.rng e he
 ·rw [ztu]
  split
  ·exact h.nd
  ·rename_i hn
   rw [List.nodup_append];exact ⟨h.nd,by simp,fun a ha b hb=>by simp at hb;subst hb;rintro rfl;exact hn ha⟩
theorem zlg {α:Type} (k:Int) (v v':α):∀m:List (Int × α),ains k v (ains k v' m)=ains k v m
 |[]=>by simp [ains]
 |(k',x)::m=>by
  simp only [ains];split
  ·rename_i h
   simp [ains]
  ·rename_i h
   simp only [ains];rw [if_neg h,zlg k v v' m]
theorem zkc (f:Int):∀m:List (Int × List Int),zx f (m.map fun e=>(e.1,3+e.1.toNat))=(zx f m).map fun _=>3+f.toNat
 |[]=>rfl
 |(k,v)::m=>by
  simp only [List.map_cons,zx]
  by_cases h:(f==k)=true
  ·rw [if_pos h,if_pos h]
   have:f=k:=by simpa using h
   subst this;rfl
  ·rw [if_neg h,if_neg h,zkc f m]
theorem yck (f:Int) (a b:List Int) (m:List (Int × List Int)):yiu (ains f a m)=yiu (ains f b m):=by unfold yiu;rw [zrw,zrw]
theorem ycl {c:Codex} {vers:List Int} {q:Sr} {f:Int} (hf:0<=f/\f<12):(NS c vers q)[3+f.toNat]?=some (match zx f q.cands with|some vals=>yvt vals|none=>.free):=by
 unfold NS;rw [yvu (by omega)];unfold yln;rw [Int.toNat_of_nonneg hf.1]
theorem yqa {c:Codex} {vers:List Int} {q:Sr} {f:Int} {vals:List Int} (hf:0<=f/\f<12):
  (NSm (zav c) (yiu q.cands) (.cells (yj c vers q)) q.cands q.conds.length q.atoms.length).set (3+f.toNat) (yvt vals)
   =NSm (zav c) (yiu q.cands) (.cells (yj c vers q)) (ains f vals q.cands) q.conds.length q.atoms.length:=by
 refine yvv (by omega) ?_ (fun j hj=>ylq (i:=f.toNat) (by omega) hj);unfold yln;rw [Int.toNat_of_nonneg hf.1,zae]
theorem zbz (c:Codex) (vers:List Int) (q:Sr) (f:Int) (vs:List Int) (hf:0<=f/\f<12) (hq:CandsOK q.cands) (hsz:vs.length<=1000):
  SPre Tryz.prog G 95 [.ptr 2 0,sI f,.imm (zi vs)] (NS c vers q) (fun r H'=>r= .tup []/\H'=NS c vers (q.cand f vs)):=by
 refine qg Tryz.func95 rfl (by rw [Tryz.ntmps95];simp) rfl (zcf hq.rng) ?_;intro E hH hK;(refine zf ?_;conv=>whnf);cases hlk:zx f q.cands with
 |none=>
  refine zhk (b:=1) (fun n:Nat=>SV.map n) rfl rfl rfl rfl rfl rfl rfl rfl rfl (v:=.imm (.val (.map none))) (by rw [zkc,hlk];rfl) ?_;refine yfa rfl rfl rfl rfl rfl rfl ?_;(refine we [777,20] 1000 ?_;conv=>whnf);refine ysy (3+f.toNat) (r:=.map (NS c vers q).length) (ob:=.mapI .i64 []) rfl rfl ?_ (show (NS c vers q)[3+f.toNat]?=some .free from by rw [ycl hf,hlk]) rfl (by rw [show (NS c vers q).length=17 from rfl];rfl) rfl ?_
  ·intro c e;cases e
  have hsv:(SV.map (NS c vers q).length).mv (NS c vers q).length (3+f.toNat)= .map (3+f.toNat):=by simp [SV.mv]
  rw [hsv];rw [show (SObj.mapI .i64 [])=yvt [] from rfl];rw [show NS c vers q=NSm (zav c) (yiu q.cands) (.cells (yj c vers q)) q.cands q.conds.length q.atoms.length from rfl,yqa hf];refine zhz (b:=1) (fun n:Nat=>SV.map n) (3+f.toNat) rfl rfl rfl rfl rfl rfl rfl rfl rfl ?_;rw [<-zrw f []];refine Eq.mpr (congrArg (fun h=>SWr E _ _ _ _ h) (show _=NS c vers {q with cands:=ains f [] q.cands} from rfl)) ?_;(refine za ?_;conv=>whnf);obtain ⟨q1,vals1,hq1,hal1,hc1,hr1⟩:∃(q1:Sr) (vals1:List Int),{q with cands:=ains f [] q.cands}=q1/\zx f q1.cands=some vals1/\CandsOK q1.cands/\∀vs',q.cand f vs'={q1 with cands:=ains f (vs'.foldl qx vals1) q1.cands}:=by
   refine ⟨_,[],rfl,zae _ _ _,hq.ains hf _,fun vs'=>?_⟩;simp only [Sr.cand,yew,hlk,Option.getD_none,zlg]
  rw [hq1];refine zg [0,1,21,22,23] ?_;have hvl:∀l:List Int,({q1 with cands:=ains f vals1 q1.cands}:Sr)=q1:=fun _=>by rw [ztt hal1 hc1.nd]
  clear hq1 hlk;have hml:(vs.map fun n=>[dI n]).length=vs.length:=by simp
  refine Eq.mpr (congrArg (fun h=>SW E _ _ h) (show _=NS c vers {q1 with cands:=ains f vals1 q1.cands} by rw [hvl []])) ?_;refine zo vs (fun i (_:List Int)=>[(0,.ptr 2 0),(1,sI f),(21,.imm (zi vs)),(22,sI (vs.map fun n=>[dI n]).length),(23,sI i)])
   (fun _ l=>NS c vers {q1 with cands:=ains f l q1.cands}) (fun done rest l=>l=done.foldl qx vals1) vals1 rfl ?_ ?_
  ·rintro _ rfl
   (refine zf ?_;conv=>whnf)
   repeat' ((with_reducible refine way ?_ ?_)<;>(intro h;conv=>whnf))
   all_goals try (exfalso;omega)
   refine hK _ _ (Nat.le_refl _) rfl (by rw [show (NS c vers q).length=17 from rfl];exact zcf (q:={q1 with cands:=ains f _ q1.cands}) (hc1.ains hf _).rng) ⟨rfl,?_⟩;rw [hr1];exact List.take_of_length_le (Nat.le_refl 17)
  ·rintro done v rest _ ha hlen rfl ih
   have hw:=zk (n:=done.length) (by omega);have hrow:(vs.map fun n=>[dI n])[((done.length:Nat):Int).toNat]?=some [dI v]:=by simp [ha]
   generalize hl:done.foldl qx vals1=l at ih ⊢;have hfold:(done++[v]).foldl qx vals1=qx l v:=by rw [List.foldl_append,hl];rfl
   (refine zf ?_;conv=>whnf)
   repeat' ((with_reducible refine way ?_ ?_)<;>(intro h;conv=>whnf))
   all_goals try (exfalso;omega)
   refine zh rfl rfl  hrow ?_;(refine za ?_;conv=>whnf)
   repeat' ((with_reducible refine way ?_ ?_)<;>(intro h;conv=>whnf))
   ·have hs:qx l v=if v∈l then l else l++[v]:=by unfold qx;rw [if_pos (by assumption)]
    refine zhk (b:=1) (fun n:Nat=>SV.map n) rfl rfl rfl rfl rfl rfl rfl rfl rfl (v:=.map (3+f.toNat)) (by rw [zkc,zae];rfl) ?_;(refine za ?_;conv=>whnf);refine zhz (b:=3+f.toNat) (l:=l.map fun v=>(v,true)) sB true rfl rfl rfl rfl rfl rfl rfl rfl (by rw [ycl hf];simp only [zae];rfl) ?_;rw [zzg, <-hs];refine Eq.mpr (congrArg (fun h=>SWr E _ _ _ _ h) (show _=NS c vers {q1 with cands:=ains f (qx l v) q1.cands} from (yqa (q:={q1 with cands:=ains f l q1.cands}) hf).trans (by simp only [zlg];rw [yck f l (qx l v)];rfl))) ?_;(refine za ?_;conv=>whnf);rw [hw];refine zg [0,1,21,22,23] ?_;exact ih _ hfold.symm
   ·have hs:qx l v=l:=by unfold qx;rw [if_neg (by assumption)]
    rw [hw];refine zg [0,1,21,22,23] ?_;exact ih _ (by rw [hfold,hs])
 |some vals=>
  refine zhk (b:=1) (fun n:Nat=>SV.map n) rfl rfl rfl rfl rfl rfl rfl rfl rfl (v:=.map (3+f.toNat)) (by rw [zkc,hlk];rfl) ?_;refine yle (b:=3+f.toNat) rfl rfl rfl rfl rfl rfl ?_;(refine za ?_;conv=>whnf);obtain ⟨q1,vals1,hq1,hal1,hc1,hr1⟩:∃(q1:Sr) (vals1:List Int),q=q1/\zx f q1.cands=some vals1/\CandsOK q1.cands/\∀vs',q.cand f vs'={q1 with cands:=ains f (vs'.foldl qx vals1) q1.cands}:=
   ⟨q,vals,rfl,hlk,hq,fun vs'=>by simp only [Sr.cand,yew,hlk,Option.getD_some]⟩
  refine zg [0,1,21,22,23] ?_;rw [show NS c vers q=NS c vers q1 by rw [hq1]];have hvl:∀l:List Int,({q1 with cands:=ains f vals1 q1.cands}:Sr)=q1:=fun _=>by rw [ztt hal1 hc1.nd]
  clear hq1 hlk;have hml:(vs.map fun n=>[dI n]).length=vs.length:=by simp
  refine Eq.mpr (congrArg (fun h=>SW E _ _ h) (show _=NS c vers {q1 with cands:=ains f vals1 q1.cands} by rw [hvl []])) ?_;refine zo vs (fun i (_:List Int)=>[(0,.ptr 2 0),(1,sI f),(21,.imm (zi vs)),(22,sI (vs.map fun n=>[dI n]).length),(23,sI i)])
   (fun _ l=>NS c vers {q1 with cands:=ains f l q1.cands}) (fun done rest l=>l=done.foldl qx vals1) vals1 rfl ?_ ?_
  ·rintro _ rfl
   (refine zf ?_;conv=>whnf)
   repeat' ((with_reducible refine way ?_ ?_)<;>(intro h;conv=>whnf))
   all_goals try (exfalso;omega)
   refine hK _ _ (Nat.le_refl _) rfl (by rw [show (NS c vers q).length=17 from rfl];exact zcf (q:={q1 with cands:=ains f _ q1.cands}) (hc1.ains hf _).rng) ⟨rfl,?_⟩;rw [hr1];exact List.take_of_length_le (Nat.le_refl 17)
  ·rintro done v rest _ ha hlen rfl ih
   have hw:=zk (n:=done.length) (by omega);have hrow:(vs.map fun n=>[dI n])[((done.length:Nat):Int).toNat]?=some [dI v]:=by simp [ha]
   generalize hl:done.foldl qx vals1=l at ih ⊢;have hfold:(done++[v]).foldl qx vals1=qx l v:=by rw [List.foldl_append,hl];rfl
   (refine zf ?_;conv=>whnf)
   repeat' ((with_reducible refine way ?_ ?_)<;>(intro h;conv=>whnf))
   all_goals try (exfalso;omega)
   refine zh rfl rfl  hrow ?_;(refine za ?_;conv=>whnf)
   repeat' ((with_reducible refine way ?_ ?_)<;>(intro h;conv=>whnf))
   ·have hs:qx l v=if v∈l then l else l++[v]:=by unfold qx;rw [if_pos (by assumption)]
    refine zhk (b:=1) (fun n:Nat=>SV.map n) rfl rfl rfl rfl rfl rfl rfl rfl rfl (v:=.map (3+f.toNat)) (by rw [zkc,zae];rfl) ?_;(refine za ?_;conv=>whnf);refine zhz (b:=3+f.toNat) (l:=l.map fun v=>(v,true)) sB true rfl rfl rfl rfl rfl rfl rfl rfl (by rw [ycl hf];simp only [zae];rfl) ?_;rw [zzg, <-hs];refine Eq.mpr (congrArg (fun h=>SWr E _ _ _ _ h) (show _=NS c vers {q1 with cands:=ains f (qx l v) q1.cands} from (yqa (q:={q1 with cands:=ains f l q1.cands}) hf).trans (by simp only [zlg];rw [yck f l (qx l v)];rfl))) ?_;(refine za ?_;conv=>whnf);rw [hw];refine zg [0,1,21,22,23] ?_;exact ih _ hfold.symm
   ·have hs:qx l v=l:=by unfold qx;rw [if_neg (by assumption)]
    rw [hw];refine zg [0,1,21,22,23] ?_;exact ih _ (by rw [hfold,hs])
def qd (m:List (Int × Bool)) (ns:List Int):List (Int × Bool):=ns.foldl (fun m n=>ains n true m) m
theorem zdz (m:List (Int × Bool)) (a b:List Int):qd m (a++b)=qd (qd m a) b:=List.foldl_append
theorem zkd (k:Int):∀(ns:List Int) (m:List (Int × Bool)),zx k (qd m ns)=if k∈ns then some true else zx k m
 |[],m=>by simp [qd]
 |n::ns,m=>by
  show zx k (qd (ains n true m) ns)=_;rw [zkd k ns,zau]
  by_cases h:k∈ns
  ·simp [h]
  ·rw [if_neg h]
   by_cases h2:k=n
   ·subst h2;simp
   ·have:¬(k==n)=true:=by simpa using h2
    rw [if_neg this,if_neg (by simp [h,h2])]
def MH (o0 o1:SObj) (m:List (Int × Bool)):List SObj:=[o0,o1,.mapI .i64 (zdw sB m)]
theorem zwo (m:List (Int × Bool)) (n:Nat):(SObj.mapI .i64 (zdw sB m)).under n=true:=by
 simp only [SObj.under,zdw,List.all_map,List.all_eq_true];intro x _;rfl
theorem zij {o0 o1:SObj} (h0:o0.under 3=true) (h1:o1.under 3=true) (m:List (Int × Bool)):(MH o0 o1 m).all (SObj.under 3)=true:=by
 simp only [MH,List.all_cons,List.all_nil,h0,h1,zwo,Bool.and_true]
theorem zej (o0 o1:SObj) (h0:o0.under 3=true) (h1:o1.under 3=true):∀(N:Nat) (e:Ex) (m:List (Int × Bool)),SizeOf.sizeOf e<N->zjh e->
  SPre Tryz.prog G 91 [e.sv,.map 2] (MH o0 o1 m) (fun r H'=>r= .tup []/\H'=MH o0 o1 (qd m (qn e)))
 |0,_,_,h,_=>by omega
 |N+1,.mk op n u den ps ks,m,hN,hl=>by
  unfold zjh at hl;obtain ⟨l1,l2,l3⟩:=hl;simp only [Ex.mk.sizeOf_spec] at hN;refine qg Tryz.func91 rfl (by rw [Tryz.ntmps91];simp) ?_ (zij h0 h1 m) ?_
  ·simp only [List.all_cons,List.all_nil,Ex.sv,SV.under,zho]
   rfl
  intro E hH hK;have hks:zd ks=ks.map Ex.cells:=zp ks;have hla:(zd ks).length=ks.length:=by rw [hks];simp
  have hm:qn (.mk op n u den ps ks)=(if op=3 then [n] else [])++yr ks:=by rw [qn]
  (refine zf ?_;conv=>whnf)
  repeat' ((with_reducible refine way ?_ ?_)<;>(intro h;conv=>whnf))
  ·refine zhz (l:=m) sB true rfl rfl rfl rfl rfl rfl rfl rfl rfl ?_
   (refine za ?_;conv=>whnf);refine zg [1,13,14,15] ?_;refine Eq.mpr (congrArg (fun h=>SW E _ _ h) (show _=MH o0 o1 (ains n true m)++[.cells ((Ex.mk op n u den ps ks).cells.map SV.imm)] from rfl)) ?_;change SW E _ [(1,.map 2),(13,.imm (.isl 6 (zd ks))),(14,sI (zd ks).length),(15,sI 0)] _;refine zo ks (fun i (_:List (Int × Bool))=>[(1,.map 2),(13,.imm (.isl 6 (zd ks))),(14,sI (zd ks).length),(15,sI i)]) (fun _ m'=>MH o0 o1 m'++[.cells ((Ex.mk op n u den ps ks).cells.map SV.imm)])
    (fun done rest m'=>qd m (qn (.mk op n u den ps ks))=qd m' (yr rest)) (ains n true m) (by rw [hm,if_pos h,zdz];rfl) ?_ ?_
   ·rintro m' h2
    rw [yr] at h2;(refine zf ?_;conv=>whnf)
    repeat' ((with_reducible refine way ?_ ?_)<;>(intro h;conv=>whnf))
    all_goals try (exfalso;omega)
    refine hK _ _ (by show 3<=4;decide) rfl ?_ ⟨rfl,?_⟩
    ·show (MH o0 o1 m').all _=true
     exact zij h0 h1 m'
    ·rw [h2]
     rfl
   ·rintro done x rest m' hda hdl h2 ih
    have hw:=zk (n:=done.length) (by omega);have hrx:(zd ks)[((done.length:Nat):Int).toNat]?=some x.cells:=by rw [hks];simp [hda]
    have hxm:x∈ks:=by rw [hda];simp
    have hsz:=List.sizeOf_lt_of_mem hxm;have hcall:=zej o0 o1 h0 h1 N x m' (by omega) (jm l3 x hxm);rw [yr,zdz] at h2;generalize qd m' (qn x)=m2 at h2 hcall;obtain ⟨xo,xn,xu,xd,xp,xk⟩:=x;(refine zf ?_;conv=>whnf)
    repeat' ((with_reducible refine way ?_ ?_)<;>(intro h;conv=>whnf))
    all_goals try (exfalso;omega)
    refine zh rfl rfl  hrx ?_;(refine za ?_;conv=>whnf);refine xm 3 rfl rfl rfl rfl rfl rfl hcall ?_;rintro r9 H9 ⟨rfl,rfl⟩ _;(refine za ?_;conv=>whnf);rw [hw];refine yy [1,13,14,15] 4 (by rw [hH];show 3<=4;decide) (by show 4<=5;decide) rfl ?_ (ih m2 h2);show (MH o0 o1 m2++[SObj.cells ((Ex.mk op n u den ps ks).cells.map SV.imm)]).all (SObj.under 4)=true;rw [List.all_append,xy (m:=3) (by omega) (zij h0 h1 m2)];simp only [List.all_cons,List.all_nil,SObj.under,zho,Bool.and_true]
  ·have _hz:True:=trivial
   refine zg [1,13,14,15] ?_;refine Eq.mpr (congrArg (fun h=>SW E _ _ h) (show _=MH o0 o1 (m)++[.cells ((Ex.mk op n u den ps ks).cells.map SV.imm)] from rfl)) ?_;change SW E _ [(1,.map 2),(13,.imm (.isl 6 (zd ks))),(14,sI (zd ks).length),(15,sI 0)] _;refine zo ks (fun i (_:List (Int × Bool))=>[(1,.map 2),(13,.imm (.isl 6 (zd ks))),(14,sI (zd ks).length),(15,sI i)]) (fun _ m'=>MH o0 o1 m'++[.cells ((Ex.mk op n u den ps ks).cells.map SV.imm)])
    (fun done rest m'=>qd m (qn (.mk op n u den ps ks))=qd m' (yr rest)) (m) (by rw [hm,if_neg h,List.nil_append]) ?_ ?_
   ·rintro m' h2
    rw [yr] at h2;(refine zf ?_;conv=>whnf)
    repeat' ((with_reducible refine way ?_ ?_)<;>(intro h;conv=>whnf))
    all_goals try (exfalso;omega)
    refine hK _ _ (by show 3<=4;decide) rfl ?_ ⟨rfl,?_⟩
    ·show (MH o0 o1 m').all _=true
     exact zij h0 h1 m'
    ·rw [h2]
     rfl
   ·rintro done x rest m' hda hdl h2 ih
    have hw:=zk (n:=done.length) (by omega);have hrx:(zd ks)[((done.length:Nat):Int).toNat]?=some x.cells:=by rw [hks];simp [hda]
    have hxm:x∈ks:=by rw [hda];simp
    have hsz:=List.sizeOf_lt_of_mem hxm;have hcall:=zej o0 o1 h0 h1 N x m' (by omega) (jm l3 x hxm);rw [yr,zdz] at h2;generalize qd m' (qn x)=m2 at h2 hcall;obtain ⟨xo,xn,xu,xd,xp,xk⟩:=x;(refine zf ?_;conv=>whnf)
    repeat' ((with_reducible refine way ?_ ?_)<;>(intro h;conv=>whnf))
    all_goals try (exfalso;omega)
    refine zh rfl rfl  hrx ?_;(refine za ?_;conv=>whnf);refine xm 3 rfl rfl rfl rfl rfl rfl hcall ?_;rintro r9 H9 ⟨rfl,rfl⟩ _;(refine za ?_;conv=>whnf);rw [hw];refine yy [1,13,14,15] 4 (by rw [hH];show 3<=4;decide) (by show 4<=5;decide) rfl ?_ (ih m2 h2);show (MH o0 o1 m2++[SObj.cells ((Ex.mk op n u den ps ks).cells.map SV.imm)]).all (SObj.under 4)=true;rw [List.all_append,xy (m:=3) (by omega) (zij h0 h1 m2)];simp only [List.all_cons,List.all_nil,SObj.under,zho,Bool.and_true]
theorem ycm (m:List (Int × Bool)) (a:List Int) (n:Int):qd m (a++[n])=ains n true (qd m a):=by rw [zdz];rfl
structure NeedC (c:Codex):Prop extends BeatC c where
 uls:∀a∈c.arts,a.unless_.length<=1000000
 amt:∀a∈c.arts,zjh a.amount
theorem ylr (c:Codex) (hc:NeedC c) (v:Int) (hv0:0<=v) (hv1:v<c.arts.length):zw Tryz.prog G 60 [c.sv,sI v] (.imm (zi (xe c v))):=by
 have hal:(c.arts.map Article.cells).length=c.arts.length:=by simp
 have hz:=hc.arts;obtain ⟨a,ha⟩:∃a,c.arts[v.toNat]?=some a:=⟨_,List.getElem?_eq_getElem (by omega)⟩;have hav:qj c v=some a:=by unfold qj;rw [if_neg (by omega)];exact ha
 have ham:=List.mem_of_getElem? ha;obtain ⟨op,n,u,den,ps,ks,hamt⟩:=jo a;have hra:=zgr c ha hamt;have hul:=hc.uls a ham;have hwl:=hc.len a ham;have hno:xe c v=zac c (jv a) v c.arts 0:=by unfold xe;rw [hav]
 rw [hno];have hnm:jv a=a.unless_++yr a.when_++qn (.mk op n u den ps ks):=by rw [jv,hamt]
 have hexs:=hc.exs a ham;have hamk:=hc.amt a ham;rw [hamt] at hamk;refine zc Tryz.func60 rfl (by rw [Tryz.ntmps60];simp) rfl rfl ?_;intro E hH hK;rw [show c.sv= .agg [.imm (zj c.facts),.imm (zj c.lines),.imm (yl c.arts)] from rfl];obtain ⟨AC,hAC⟩:∃AC:List SV,AC=[.imm (dI a.number),.imm (dI a.line),.imm (dI a.rank),.imm (dI a.lo),.imm (dI a.hi),.imm (dI a.known),.imm (ye a.when_),.imm (zi a.unless_),.imm (dI op),.imm (dI n),.imm (dS u),.imm (dI den),.imm (.isl 3 (ps.map Piece.cells)),.imm (.isl 6 (zd ks))]:=⟨_,rfl⟩;(refine zf ?_;conv=>whnf);refine zh rfl  (Int.toNat_of_nonneg hv0).symm (row:=[dI a.number,dI a.line,dI a.rank,dI a.lo,dI a.hi,dI a.known,ye a.when_,zi a.unless_,dI op,dI n,dS u,dI den,.isl 3 (ps.map Piece.cells),.isl 6 (zd ks)]) hra ?_;(refine za ?_;conv=>whnf);refine zg [1,2,5,6,21,22,23] ?_;have hO0:(zav c).under 3=true:=rfl;have hO1:(SObj.cells AC).under 3=true:=by rw [hAC];rfl
 refine Eq.mpr (congrArg (fun h=>SW E _ _ h) (show _=MH (zav c) (.cells AC) [] by rw [hAC];rfl)) ?_;change SW E _ [(1,sI v),(2,.ptr 0 0),(5,.ptr 1 0),(6,.map 2),(21,.imm (zi a.unless_)),(22,sI (a.unless_.map fun n=>[dI n]).length),(23,sI 0)] _;have hll:(a.unless_.map fun n=>[dI n]).length=a.unless_.length:=by simp
 have hlw:(a.when_.map Ex.cells).length=a.when_.length:=by simp
 refine zo a.unless_ (fun i (_:Unit)=>[(1,sI v),(2,.ptr 0 0),(5,.ptr 1 0),(6,.map 2),(21,.imm (zi a.unless_)),(22,sI (a.unless_.map fun n=>[dI n]).length),(23,sI i)]) (fun i _=>MH (zav c) (.cells AC) (qd [] (a.unless_.take i)))
  (fun _ _ _=>True) () trivial ?_ ?_
 ·rintro _ _
  rw [List.take_length];subst hAC;(refine zf ?_;conv=>whnf)
  repeat' ((with_reducible refine way ?_ ?_)<;>(intro h;conv=>whnf))
  all_goals try (exfalso;omega)
  refine zg [1,2,5,6,31,32,33] ?_;refine Eq.mpr (congrArg (fun h=>SW E _ _ h) (show _=MH (zav c) (.cells [.imm (dI a.number),.imm (dI a.line),.imm (dI a.rank),.imm (dI a.lo),.imm (dI a.hi),.imm (dI a.known),.imm (ye a.when_),.imm (zi a.unless_),.imm (dI op),.imm (dI n),.imm (dS u),.imm (dI den),.imm (.isl 3 (ps.map Piece.cells)),.imm (.isl 6 (zd ks))]) (qd [] a.unless_) from rfl)) ?_;generalize hAC:([.imm (dI a.number),.imm (dI a.line),.imm (dI a.rank),.imm (dI a.lo),.imm (dI a.hi),.imm (dI a.known),.imm (ye a.when_),.imm (zi a.unless_),.imm (dI op),.imm (dI n),.imm (dS u),.imm (dI den),.imm (.isl 3 (ps.map Piece.cells)),.imm (.isl 6 (zd ks))]:List SV)=AC at hO1 ⊢;refine zo a.when_ (fun i (_:List (Int × Bool))=>[(1,sI v),(2,.ptr 0 0),(5,.ptr 1 0),(6,.map 2),(31,.imm (ye a.when_)),(32,sI (a.when_.map Ex.cells).length),(33,sI i)]) (fun _ m=>MH (zav c) (.cells AC) m)
   (fun done rest m=>qd [] (jv a)=qd m (yr rest++qn (.mk op n u den ps ks))) (qd [] a.unless_) (by rw [hnm,List.append_assoc,zdz]) ?_ ?_
  ·rintro m h2
   rw [yr,List.nil_append] at h2;have hcall:=zej G (zav c) (.cells AC) hO0 hO1 _ (.mk op n u den ps ks) m (Nat.lt_succ_self _) hamk;rw [<-h2] at hcall;subst hAC;(refine zf ?_;conv=>whnf)
   repeat' ((with_reducible refine way ?_ ?_)<;>(intro h;conv=>whnf))
   all_goals try (exfalso;omega)
   refine xm 3 rfl rfl rfl rfl rfl rfl hcall ?_;rintro r9 H9 ⟨rfl,rfl⟩ _;refine Eq.mpr (congrArg (fun h=>SWr E _ _ _ _ h) (show _=MH (zav c) (.cells [.imm (dI a.number),.imm (dI a.line),.imm (dI a.rank),.imm (dI a.lo),.imm (dI a.hi),.imm (dI a.known),.imm (ye a.when_),.imm (zi a.unless_),.imm (dI op),.imm (dI n),.imm (dS u),.imm (dI den),.imm (.isl 3 (ps.map Piece.cells)),.imm (.isl 6 (zd ks))]) (qd [] (jv a)) from rfl)) ?_;generalize hAC:([.imm (dI a.number),.imm (dI a.line),.imm (dI a.rank),.imm (dI a.lo),.imm (dI a.hi),.imm (dI a.known),.imm (ye a.when_),.imm (zi a.unless_),.imm (dI op),.imm (dI n),.imm (dS u),.imm (dI den),.imm (.isl 3 (ps.map Piece.cells)),.imm (.isl 6 (zd ks))]:List SV)=AC at hO1 ⊢;have hlook:∀k,((zx k (qd [] (jv a))).map sB).getD (jk (.bool false))=sB (decide (k∈jv a)):=fun k=>by
    rw [zkd]
    by_cases hk:k∈jv a
    ·rw [if_pos hk,decide_eq_true hk];rfl
    ·rw [if_neg hk,decide_eq_false hk];rfl
   have hMu:=zij hO0 hO1 (qd [] (jv a));clear h2 hcall;generalize qd [] (jv a)=M at hlook hMu ⊢;generalize jv a=names at hlook hK;(refine za ?_;conv=>whnf);refine zjr (n:=11) (kk:=1) rfl ?_;refine zg [1,2,6,11,46,47,48] ?_;change SW E _ [(1,sI v),(2,.ptr 0 0),(6,.map 2),(11,.asl 3 1 []),(46,.imm (yl c.arts)),(47,sI (c.arts.map Article.cells).length),(48,sI 0)] (MH (zav c) (.cells AC) M++[.tok 1 0]);refine zo c.arts (fun i (l:List Int)=>[(1,sI v),(2,.ptr 0 0),(6,.map 2),(11,.asl 3 1 (l.map fun n=>[dI n])),(46,.imm (yl c.arts)),(47,sI (c.arts.map Article.cells).length),(48,sI i)]) (fun _ l=>MH (zav c) (.cells AC) M++[.tok 1 (l.map fun n=>[dI n]).length])
    (fun done rest l=>zac c names v c.arts 0=l++zac c names v rest done.length/\l.length<=done.length) [] ⟨rfl,by simp⟩ ?_ ?_
   ·rintro l ⟨h2,_⟩
    rw [zac,List.append_nil] at h2;rw [h2] at hK;refine zay ?_;change SW E _ [(1,sI v),(2,.ptr 0 0),(6,.map 2),(11,.imm (zi l)),(46,.imm (yl c.arts)),(47,sI (c.arts.map Article.cells).length),(48,sI c.arts.length)] _;(refine zf ?_;conv=>whnf)
    repeat' ((with_reducible refine way ?_ ?_)<;>(intro h;conv=>whnf))
    all_goals try (exfalso;omega)
    exact hK _
   ·rintro done x rest l hda hdl ⟨h2,h3⟩ ih
    have hw:=zk (n:=done.length) (by omega);obtain ⟨op',n',u',den',ps',ks',hxm⟩:=jo x;have hgx:c.arts[done.length]?=some x:=by rw [hda];simp
    have hrx:=zgr c hgx hxm;have hrx2:(c.arts.map Article.cells)[((done.length:Nat):Int).toNat]?=_:=hrx;have hbt:=zpm G c hc.toBeatC (done.length:Int) v;rw [zac] at h2;have hkc:∀m,(MH (zav c) (.cells AC) M++[SObj.tok 1 m]).all (SObj.under 4)=true:=fun m=>by
     rw [List.all_append,xy (m:=3) (by omega) hMu];rfl
    generalize qk c (done.length:Int) v=bb at hbt h2;(refine zf ?_;conv=>whnf)
    repeat' ((with_reducible refine way ?_ ?_)<;>(intro h;conv=>whnf))
    all_goals try (exfalso;omega)
    refine zh rfl rfl  (row:=[dI x.number,dI x.line,dI x.rank,dI x.lo,dI x.hi,dI x.known,ye x.when_,zi x.unless_,dI op',dI n',dS u',dI den',.isl 3 (ps'.map Piece.cells),.isl 6 (zd ks')]) hrx2 ?_;(refine za ?_;conv=>whnf);refine zhk (l:=M) sB rfl rfl rfl rfl rfl rfl rfl rfl rfl (v:=sB (decide (x.number∈names))) (hlook _) ?_;cases hd:decide (x.number∈names)<;>((refine za ?_;conv=>whnf))
    ·have hd:=of_decide_eq_false hd
     refine ze rfl  hbt ?_;cases bb<;>((refine za ?_;conv=>whnf))
     ·rw [hw]
      refine yy [1,2,6,11,46,47,48] 4 (by rw [hH];exact Nat.zero_le 4) (by show 4<=5;decide) rfl (hkc _) ?_;refine ih l ⟨?_,?_⟩
      ·rw [h2,if_neg (by simp [*]),List.length_append]
       rfl
      ·simp only [List.length_append,List.length_cons,List.length_nil];omega
     refine wm (b:=3) (kk:=1) (rows:=l.map fun n=>[dI n]) (new:=[[dI done.length]]) rfl ⟨by decide,rfl⟩ rfl (by rw [List.length_map];simp only [List.length_cons,List.length_nil];omega) ?_;have e5:(l.map fun n=>[dI n])++[[dI done.length]]=(l++[(done.length:Int)]).map fun n=>[dI n]:=by simp
     have e6:(l.map fun n=>[dI n]).length+[[dI done.length]].length=((l++[(done.length:Int)]).map fun n=>[dI n]).length:=by simp
     refine Eq.mpr (congrArg (fun v=>SWr E _ _ _ (wz _ _ (.asl 3 1 v)) _) e5) ?_;refine Eq.mpr (congrArg (fun v=>SWr E _ _ _ _ (List.set _ 3 (.tok 1 v))) e6) ?_;(refine za ?_;conv=>whnf);rw [hw];refine yy [1,2,6,11,46,47,48] 4 (by rw [hH];exact Nat.zero_le 4) (by show 4<=5;decide) rfl (hkc _) ?_;refine ih (l++[(done.length:Int)]) ⟨?_,?_⟩
     ·rw [h2,if_pos (by simp [*]),List.length_append]
      simp
     ·simp only [List.length_append,List.length_cons,List.length_nil];omega
    ·have hd:=of_decide_eq_true hd
     refine wm (b:=3) (kk:=1) (rows:=l.map fun n=>[dI n]) (new:=[[dI done.length]]) rfl ⟨by decide,rfl⟩ rfl (by rw [List.length_map];simp only [List.length_cons,List.length_nil];omega) ?_;have e5:(l.map fun n=>[dI n])++[[dI done.length]]=(l++[(done.length:Int)]).map fun n=>[dI n]:=by simp
     have e6:(l.map fun n=>[dI n]).length+[[dI done.length]].length=((l++[(done.length:Int)]).map fun n=>[dI n]).length:=by simp
     refine Eq.mpr (congrArg (fun v=>SWr E _ _ _ (wz _ _ (.asl 3 1 v)) _) e5) ?_;refine Eq.mpr (congrArg (fun v=>SWr E _ _ _ _ (List.set _ 3 (.tok 1 v))) e6) ?_;(refine za ?_;conv=>whnf);rw [hw];refine yy [1,2,6,11,46,47,48] 4 (by rw [hH];exact Nat.zero_le 4) (by show 4<=5;decide) rfl (hkc _) ?_;refine ih (l++[(done.length:Int)]) ⟨?_,?_⟩
     ·rw [h2,if_pos (by simp [*]),List.length_append]
      simp
     ·simp only [List.length_append,List.length_cons,List.length_nil];omega
  ·rintro done x rest m hda hdl h2 ih
   have hw:=zk (n:=done.length) (by omega);have hrx:(a.when_.map Ex.cells)[((done.length:Nat):Int).toNat]?=some x.cells:=by simp [hda]
   have hxm:x∈a.when_:=by rw [hda];simp
   have hcall:=zej G (zav c) (.cells AC) hO0 hO1 _ x m (Nat.lt_succ_self _) (jm hexs x hxm);rw [yr,List.append_assoc,zdz] at h2;generalize qd m (qn x)=m2 at h2 hcall;obtain ⟨xo,xn,xu,xd,xp,xk⟩:=x;(refine zf ?_;conv=>whnf)
   repeat' ((with_reducible refine way ?_ ?_)<;>(intro h;conv=>whnf))
   all_goals try (exfalso;omega)
   refine zh rfl rfl  hrx ?_;(refine za ?_;conv=>whnf);refine xm 3 rfl rfl rfl rfl rfl rfl hcall ?_;rintro r9 H9 ⟨rfl,rfl⟩ _;(refine za ?_;conv=>whnf);rw [hw];refine yy [1,2,5,6,31,32,33] 3 (by rw [hH];exact Nat.zero_le 3) (by show 3<=4;decide) rfl ?_ (ih m2 h2);exact zij hO0 hO1 m2
 ·rintro done x rest _ hda hdl _ ih
  have hw:=zk (n:=done.length) (by omega);have hrx:(a.unless_.map fun n=>[dI n])[((done.length:Nat):Int).toNat]?=some [dI x]:=by simp [hda]
  have htk:a.unless_.take (done.length+1)=a.unless_.take done.length++[x]:=by rw [List.take_add_one];simp [hda]
  rw [htk,ycm] at ih;(refine zf ?_;conv=>whnf)
  repeat' ((with_reducible refine way ?_ ?_)<;>(intro h;conv=>whnf))
  all_goals try (exfalso;omega)
  refine zh rfl rfl  hrx ?_;(refine za ?_;conv=>whnf);refine zhz (l:=qd [] (a.unless_.take done.length)) sB true rfl rfl rfl rfl rfl rfl rfl rfl rfl ?_;(refine za ?_;conv=>whnf);rw [hw];refine zg [1,2,5,6,21,22,23] ?_;exact ih () trivial
theorem yls (l:List Int) (x:Int) (hz:l.length<=1000000000):SPre Tryz.prog G 110 [.imm (zi l),sI x] [] (fun r _=>∃i:Int,r=sI i/\(0<=i ↔ x∈l)):=by
 refine qg Tryz.func110 rfl (by rw [Tryz.ntmps110];simp) rfl rfl ?_;intro E hH hK;have hla:(l.map fun n=>[dI n]).length=l.length:=by simp
 (refine zf ?_;conv=>whnf);refine zg [0,1,7,8] ?_;refine zo l (fun i (_:Unit)=>[(0,.imm (zi l)),(1,sI x),(7,sI (l.map fun n=>[dI n]).length),(8,sI i)]) (fun _ _=>[]) (fun done _ _=>x ∉ done) () (by simp) ?_ ?_
 ·rintro _ h1
  (refine zf ?_;conv=>whnf)
  repeat' ((with_reducible refine way ?_ ?_)<;>(intro h;conv=>whnf))
  all_goals try (exfalso;omega)
  exact hK _ _ (Nat.le_refl _) rfl rfl ⟨-1,rfl,⟨fun h=>by omega,fun h=>absurd h h1⟩⟩
 ·rintro done y rest _ hda hdl h1 ih
  have hw:=zk (n:=done.length) (by omega);have hrx:(l.map fun n=>[dI n])[((done.length:Nat):Int).toNat]?=some [dI y]:=by simp [hda]
  (refine zf ?_;conv=>whnf)
  repeat' ((with_reducible refine way ?_ ?_)<;>(intro h;conv=>whnf))
  all_goals try (exfalso;omega)
  refine zh rfl rfl  hrx ?_;(refine za ?_;conv=>whnf)
  repeat' ((with_reducible refine way ?_ ?_)<;>(intro h;conv=>whnf))
  ·exact hK _ _ (Nat.le_refl _) rfl rfl ⟨done.length,rfl,⟨fun _=>by rw [hda,h];simp,fun _=>by omega⟩⟩
  ·rw [hw]
   refine zg [0,1,7,8] ?_;exact ih () (by simp only [List.mem_append,List.mem_cons,List.not_mem_nil,or_false,not_or];exact ⟨h1,h⟩)
theorem zog (l:List Int) (x:Int) (hz:l.length<=1000000000):zw Tryz.prog G 78 [.imm (zi l),sI x] (sB (decide (x∈l))):=by
 refine zc Tryz.func78 rfl (by rw [Tryz.ntmps78];simp) rfl rfl ?_;intro E hH hK;(refine zf ?_;conv=>whnf);refine xm 0 rfl rfl rfl rfl rfl rfl (yls G l x hz) ?_;rintro r9 H9 ⟨i,rfl,hi⟩ _;(refine za ?_;conv=>whnf);have:decide (x∈l)=decide (0<=i):=decide_eq_decide.2 hi.symm;rw [this] at hK;exact hK _
theorem yfl (c:Codex) (hfit:Codex.fit c) (hN:zv c=true->NeedC c) (hz:c.arts.length<=1000000000) (v:Int):
  zw Tryz.prog G 34 [c.sv,sI v] (.imm (zi (if 0<=v/\v<c.arts.length/\zv c=true then xe c v else []))):=by
 have hal:(c.arts.map Article.cells).length=c.arts.length:=by simp
 have hV:=zbh G c hfit;have h:zw Tryz.prog G 34 [c.sv,sI v] (if 0<=v/\v<c.arts.length/\zv c=true then .imm (zi (xe c v)) else .imm (.val (.slice none 0 0))):=by
  refine zc Tryz.func34 rfl (by rw [Tryz.ntmps34];simp) rfl (by split<;>rfl) ?_;intro E hH hK;generalize hz2:zv c=z at hV hK hN;rw [show c.sv= .agg [.imm (zj c.facts),.imm (zj c.lines),.imm (yl c.arts)] from rfl];(refine zf ?_;conv=>whnf)
  repeat' ((with_reducible refine way ?_ ?_)<;>(intro h;conv=>whnf))
  ·refine ze rfl  hV ?_
   cases z<;>((refine za ?_;conv=>whnf))
   ·rw [if_neg (by simp)] at hK
    exact hK _
   ·refine ze rfl  (ylr G c (hN rfl) v (by omega) (by omega)) ?_
    (refine za ?_;conv=>whnf);rw [if_pos ⟨by omega,by omega,rfl⟩] at hK;exact hK _
  ·rw [if_neg (by omega)] at hK
   exact hK _
  ·rw [if_neg (by omega)] at hK
   exact hK _
 split at h
 ·rename_i hh;rw [if_pos hh];exact h
 ·rename_i hh;rw [if_neg hh];exact zao h (SV.Is.nil 1)
theorem ztv (c:Codex) (hc:NeedC c) (i j:Int) (hi0:0<=i) (hi1:i<c.arts.length) (hj0:0<=j) (hj1:j<c.arts.length):zw Tryz.prog G 48 [c.sv,sI i,sI j] (sB (zbl c i j)):=by
 have hal:(c.arts.map Article.cells).length=c.arts.length:=by simp
 have hz:=hc.arts;obtain ⟨a,ha⟩:∃a,c.arts[i.toNat]?=some a:=⟨_,List.getElem?_eq_getElem (by omega)⟩;obtain ⟨b,hb⟩:∃b,c.arts[j.toNat]?=some b:=⟨_,List.getElem?_eq_getElem (by omega)⟩;have hai:qj c i=some a:=by unfold qj;rw [if_neg (by omega)];exact ha
 have hbj:qj c j=some b:=by unfold qj;rw [if_neg (by omega)];exact hb
 have hbe:zbl c i j=(decide (a.line=b.line)&& !decide (a.number=b.number)&& !qk c i j&& !qk c j i&& !decide (b.number∈a.unless_)&& !decide (a.number∈b.unless_)):=by unfold zbl;rw [hai,hbj]
 have ham:=List.mem_of_getElem? ha;have hbm:=List.mem_of_getElem? hb;have c1:=zpm G c hc.toBeatC i j;have c2:=zpm G c hc.toBeatC j i;have c3:=zog G a.unless_ b.number (by have:=hc.uls a ham;omega);have c4:=zog G b.unless_ a.number (by have:=hc.uls b hbm;omega);rw [hbe];generalize qk c i j=z1 at c1;generalize qk c j i=z2 at c2;generalize decide (b.number∈a.unless_)=z3 at c3;generalize decide (a.number∈b.unless_)=z4 at c4;obtain ⟨op,n,u,den,ps,ks,hamt⟩:=jo a;obtain ⟨op',n',u',den',ps',ks',hbmt⟩:=jo b;have hra:=zgr c ha hamt;have hrb:=zgr c hb hbmt;refine zc Tryz.func48 rfl (by rw [Tryz.ntmps48];simp) rfl rfl ?_;intro E hH hK;rw [show c.sv= .agg [.imm (zj c.facts),.imm (zj c.lines),.imm (yl c.arts)] from rfl];(refine zf ?_;conv=>whnf);refine zg [1,2,3] ?_;change SW E _ [(1,sI i),(2,sI j),(3,.ptr 0 0)] [.cells [.imm (zj c.facts),.imm (zj c.lines),.imm (yl c.arts)]];(refine zu 2 mixed rfl ?_;refine zb [777] (nx:=1) ?_;conv=>whnf);refine zt (row:=[dI a.number,dI a.line,dI a.rank,dI a.lo,dI a.hi,dI a.known,ye a.when_,zi a.unless_,dI op,dI n,dS u,dI den,.isl 3 (ps.map Piece.cells),.isl 6 (zd ks)]) rfl (show 1<=3 by decide) (Int.toNat_of_nonneg hi0).symm hra ?_;(refine zb [777] (nx:=1) ?_;conv=>whnf);refine zt (row:=[dI b.number,dI b.line,dI b.rank,dI b.lo,dI b.hi,dI b.known,ye b.when_,zi b.unless_,dI op',dI n',dS u',dI den',.isl 3 (ps'.map Piece.cells),.isl 6 (zd ks')]) rfl (show 1<=3 by decide) (Int.toNat_of_nonneg hj0).symm hrb ?_;(refine zb [777] (nx:=1) ?_;conv=>whnf);refine zg [1,2,3,7,8] ?_
 change SW E _ [(1,sI i),(2,sI j),(3,.ptr 0 0),(7,.ptr 1 0),(8,.ptr 2 0)] [.cells [.imm (zj c.facts),.imm (zj c.lines),.imm (yl c.arts)],.cells [.imm (dI a.number),.imm (dI a.line),.imm (dI a.rank),.imm (dI a.lo),.imm (dI a.hi),.imm (dI a.known),.imm (ye a.when_),.imm (zi a.unless_),.imm (dI op),.imm (dI n),.imm (dS u),.imm (dI den),.imm (.isl 3 (ps.map Piece.cells)),.imm (.isl 6 (zd ks))],
  .cells [.imm (dI b.number),.imm (dI b.line),.imm (dI b.rank),.imm (dI b.lo),.imm (dI b.hi),.imm (dI b.known),.imm (ye b.when_),.imm (zi b.unless_),.imm (dI op'),.imm (dI n'),.imm (dS u'),.imm (dI den'),.imm (.isl 3 (ps'.map Piece.cells)),.imm (.isl 6 (zd ks'))]]
 (refine zf ?_;conv=>whnf)
 repeat' ((with_reducible refine way ?_ ?_)<;>(intro h;conv=>whnf))
 ·rename_i g1
  rw [decide_eq_true g1,decide_eq_false h] at hK;refine ze rfl  c1 ?_;cases z1<;>((refine za ?_;conv=>whnf))
  ·refine ze rfl  c2 ?_
   cases z2<;>((refine za ?_;conv=>whnf))
   ·refine ze rfl  c3 ?_
    cases z3<;>((refine za ?_;conv=>whnf))
    ·refine ze rfl  c4 ?_
     (refine za ?_;conv=>whnf);cases z4<;>exact hK _
    ·exact hK _
   ·exact hK _
  ·exact hK _
 ·rw [decide_eq_true h,Bool.not_true,Bool.and_false,Bool.false_and,Bool.false_and,Bool.false_and,Bool.false_and] at hK
  exact hK _
 ·rw [decide_eq_false h] at hK
  exact hK _
def yvw (op n:Int) (u:ByteArray) (den:Int) (ps:List Piece) (ks:List Ex):SV:=.agg [.imm (dI op),.imm (dI n),.imm (dS u),.imm (dI den),.imm (.isl 3 (ps.map Piece.cells)),.imm (.isl 6 (zd ks))]
def zcu (op n:Int) (u:ByteArray) (den:Int) (ps:List Piece) (ks:List Ex):SObj:=.cells [.imm (dI op),.imm (dI n),.imm (dS u),.imm (dI den),.imm (.isl 3 (ps.map Piece.cells)),.imm (.isl 6 (zd ks))]
structure KidOK (k:Ex):Prop where
 fact:k.op=2->0<=k.n/\k.n<12
 date:k.op=4->0<=k.n/\k.n<=4
 sz: -1000000000000<=k.n/\k.n<=1000000000000
theorem zrx {a:Int} (h0: -1000000000000000<=a) (h1:a<=1000000000000000):IntKind.i64.wrap a=a:=by
 simp [IntKind.wrap,IntKind.signed,IntKind.bits];omega
theorem zaf {c:Codex} {vers:List Int} {q:Sr} (h:CandsOK q.cands) {m:Nat} (hm:17<=m) {X:List SObj} (hX:X.all (SObj.under m)=true):(NS c vers q++X).all (SObj.under m)=true:=by
 rw [List.all_append,xy hm (zcf h.rng),hX];rfl
theorem yqb (xo xn:Int) (xu:ByteArray) (xd:Int) (xp:List Piece) (xk:List Ex) (r:List Ex) (s:Sr) (m:Int):
  wo (.mk xo xn xu xd xp xk::r) s m=if xo=1 then wo r s (m+1) else if xo=4 then wo r (s.date xn) m else if xo=2 then wo r s m else (false,s,m):=rfl
def yfm (l:List Ex):SV:=.imm (.isl 6 (l.map Ex.cells))
theorem zfz (c:Codex) (vers:List Int) (q:Sr) (op n:Int) (u:ByteArray) (den:Int) (ps:List Piece) (l r:Ex) (hl:KidOK l) (hr:KidOK r) (hq:CandsOK q.cands) (hd:q.dates.length=5) (hsz:q.atoms.length<=1000000000):
  SPre Tryz.prog G 96 [.ptr 2 0,yvw op n u den ps [l,r]] (NS c vers q) (fun v H'=>v= .tup [.imm (cmpOf q op [l,r]).1.d,sB (cmpOf q op [l,r]).2.1]/\H'=NS c vers (cmpOf q op [l,r]).2.2):=by
 refine qg Tryz.func96 rfl (by rw [Tryz.ntmps96];simp) rfl (zcf hq.rng) ?_;intro E hH hK;rw [show yvw op n u den ps [l,r]= .agg [.imm (dI op),.imm (dI n),.imm (dS u),.imm (dI den),.imm (.isl 3 (ps.map Piece.cells)),yfm [l,r]] by simp [yvw,zp,yfm]];have hks:∀k∈[l,r],KidOK k:=by simp;exact ⟨hl,hr⟩
 generalize hkl:[l,r]=ks at hks hK ⊢;have hkn:ks.length=2:=by rw [<-hkl];rfl
 have hml:(ks.map Ex.cells).length=ks.length:=by simp
 have hfin:∀(v:SV) (q':Sr) (X:List SObj),v.under 17=true->CandsOK q'.cands->v= .tup [.imm (cmpOf q op ks).1.d,sB (cmpOf q op ks).2.1]->q'=(cmpOf q op ks).2.2->E.K v (NS c vers q'++X):=by
  intro v q' X h1 h2 h3 h4;have ht:(NS c vers q'++X).take (NS c vers q).length=NS c vers q':=by
   rw [show (NS c vers q).length=(NS c vers q').length from rfl,List.take_append_of_le_length (Nat.le_refl _),List.take_length]
  refine hK v _ (by rw [List.length_append];exact Nat.le_add_right _ _) h1 (by rw [ht];exact zcf h2.rng) ⟨h3,?_⟩;rw [ht,h4]
 clear hK;(refine zf ?_;conv=>whnf);refine zg [0,3,4,5,6,17,18,19] ?_;refine zo ks (fun i (s:List Bool × Int)=>[(0,.ptr 2 0),(3,.ptr 17 0),(4,.imm (.val .nilIface)),(5,sB false),(6,sI s.2),(17,yfm ks),(18,sI (ks.map Ex.cells).length),(19,sI i)])
  (fun _ s=>NS c vers {q with dates:=s.1}++[.cells [.imm (dI op),.imm (dI n),.imm (dS u),.imm (dI den),.imm (.isl 3 (ps.map Piece.cells)),yfm ks]])
  (fun done rest s=>s.1.length=5/\0<=s.2/\s.2<=done.length/\wo ks q 0=wo rest {q with dates:=s.1} s.2) (q.dates,0) ⟨hd,by simp,by simp,rfl⟩ ?_ ?_
 ·rintro ⟨ds,m⟩ ⟨g1,g2,g3,g4⟩
  simp only [wo] at g4
  dsimp only at g1 g2 g3
  subst hkl;have g5:cmpOf q op [l,r]=if m=0 then (.none,false,{q with dates:=ds}) else (.cmp op ⟨l.op,l.n⟩ ⟨r.op,r.n⟩,true,if l.op=4\/r.op=4 then {cmpCand (cmpCand {q with dates:=ds} l r) r l with atoms:=(cmpCand (cmpCand {q with dates:=ds} l r) r l).atoms++[.cmp op ⟨l.op,l.n⟩ ⟨r.op,r.n⟩]} else cmpCand (cmpCand {q with dates:=ds} l r) r l):=by
   unfold cmpOf;rw [g4]
  clear g4;(refine zf ?_;conv=>whnf)
  repeat' ((with_reducible refine way ?_ ?_)<;>(intro h;conv=>whnf))
  all_goals try (exfalso;omega)
  ·rw [if_pos (by omega)] at g5
   exact hfin _ {q with dates:=ds} [_] rfl hq (by rw [g5];rfl) (by rw [g5])
  ·rw [if_neg (by omega)] at g5
   generalize hq1:({q with dates:=ds}:Sr)=q1 at g5;have hc1:CandsOK q1.cands:=by rw [<-hq1];exact hq
   have ha1:q1.atoms.length<=1000000000:=by rw [<-hq1];exact hsz
   refine Eq.mpr (congrArg (fun h=>SW E _ _ h) (show _=NS c vers q1++[.cells [.imm (dI op),.imm (dI n),.imm (dS u),.imm (dI den),.imm (.isl 3 (ps.map Piece.cells)),yfm [l,r]]] by rw [<-hq1])) ?_;clear hq1 hq hsz hd h g1 g2 g3;obtain ⟨lo,ln,lu,ld,lp,lk⟩:=l;obtain ⟨ro,rn,ru,rd,rp,rk⟩:=r;refine zg [0,3,4,5] ?_;change SW E _ [(0,.ptr 2 0),(3,.ptr 17 0),(4,.imm (.val .nilIface)),(5,sB false)] _;clear hml hkn hks;(refine zu 2 mixed rfl ?_;refine zb [777] (nx:=18) ?_;conv=>whnf);refine zt rfl (by simp [yw]) rfl (row:=(Ex.mk lo ln lu ld lp lk).cells) rfl ?_;(refine zb [777] (nx:=18) ?_;conv=>whnf);refine zt rfl (by simp [yw]) rfl (row:=(Ex.mk ro rn ru rd rp rk).cells) rfl ?_;(refine zb [777] (nx:=18) ?_;conv=>whnf);refine zg [0,3,4,5,9,10] ?_;change SW E _ [(0,.ptr 2 0),(3,.ptr 17 0),(4,.imm (.val .nilIface)),(5,sB false),(9,.ptr 18 0),(10,.ptr 19 0)] _;refine Eq.mpr (congrArg (fun h=>SW E _ _ h) (show _=NS c vers q1++[zcu op n u den ps [Ex.mk lo ln lu ld lp lk,Ex.mk ro rn ru rd rp rk],zcu lo ln lu ld lp lk,zcu ro rn ru rd rp rk] from rfl)) ?_;(refine zf ?_;conv=>whnf);refine zg [0,3,4,5,9,10,56,57] ?_;generalize hq9:cmpCand (cmpCand q1 (Ex.mk lo ln lu ld lp lk) (Ex.mk ro rn ru rd rp rk)) (Ex.mk ro rn ru rd rp rk) (Ex.mk lo ln lu ld lp lk)=q9 at g5;refine zo [(Ex.mk lo ln lu ld lp lk,Ex.mk ro rn ru rd rp rk),(Ex.mk ro rn ru rd rp rk,Ex.mk lo ln lu ld lp lk)] (fun i (_:Sr)=>[(0,.ptr 2 0),(3,.ptr 17 0),(4,.imm (.val .nilIface)),(5,sB false),(9,.ptr 18 0),(10,.ptr 19 0),(56,.agg [.imm (dI lo),.imm (dI ln),.imm (dS lu),.imm (dI ld),.imm (.isl 3 (lp.map Piece.cells)),.imm (.isl 6 (zd lk)),.imm (dI ro),.imm (dI rn),.imm (dS ru),.imm (dI rd),.imm (.isl 3 (rp.map Piece.cells)),.imm (.isl 6 (zd rk)),.imm (dI ro),.imm (dI rn),.imm (dS ru),.imm (dI rd),.imm (.isl 3 (rp.map Piece.cells)),.imm (.isl 6 (zd rk)),.imm (dI lo),.imm (dI ln),.imm (dS lu),.imm (dI ld),.imm (.isl 3 (lp.map Piece.cells)),.imm (.isl 6 (zd lk))]),(57,sI i)])
    (fun _ q2=>NS c vers q2++[zcu op n u den ps [Ex.mk lo ln lu ld lp lk,Ex.mk ro rn ru rd rp rk],zcu lo ln lu ld lp lk,zcu ro rn ru rd rp rk]) (fun done rest q2=>CandsOK q2.cands/\q2.atoms=q1.atoms/\rest.foldl (fun s p=>cmpCand s p.1 p.2) q2=q9) q1 ⟨hc1,rfl,hq9⟩ ?_ ?_
   ·rintro q2 ⟨k1,k2,k3⟩
    simp only [List.foldl_nil] at k3;subst k3;change SW E _ [(0,.ptr 2 0),(3,.ptr 17 0),(4,.imm (.val .nilIface)),(5,sB false),(9,.ptr 18 0),(10,.ptr 19 0),(56,.agg [.imm (dI lo),.imm (dI ln),.imm (dS lu),.imm (dI ld),.imm (.isl 3 (lp.map Piece.cells)),.imm (.isl 6 (zd lk)),.imm (dI ro),.imm (dI rn),.imm (dS ru),.imm (dI rd),.imm (.isl 3 (rp.map Piece.cells)),.imm (.isl 6 (zd rk)),.imm (dI ro),.imm (dI rn),.imm (dS ru),.imm (dI rd),.imm (.isl 3 (rp.map Piece.cells)),.imm (.isl 6 (zd rk)),.imm (dI lo),.imm (dI ln),.imm (dS lu),.imm (dI ld),.imm (.isl 3 (lp.map Piece.cells)),.imm (.isl 6 (zd lk))]),(57,sI 2)] _;(refine zf ?_;conv=>whnf)
    repeat' ((with_reducible refine way ?_ ?_)<;>(intro h;conv=>whnf))
    ·refine zg [0,15] ?_
     change SW E _ [(0,.ptr 2 0),(15,.ptr 20 0)] _;refine Eq.mpr (congrArg (fun h=>SW E _ _ h) (show _=NS c vers q2++[zcu op n u den ps [Ex.mk lo ln lu ld lp lk,Ex.mk ro rn ru rd rp rk],zcu lo ln lu ld lp lk,zcu ro rn ru rd rp rk,.cells [sI op,sI lo,sI ln,sI ro,sI rn]] from rfl)) ?_;(refine zu 0 mixed rfl ?_;refine zb [777,999] (nx:=21) ?_;conv=>whnf);refine zfo (b:=16) (kk:=5) (rows:=q2.atoms.map Cond.row) (new:=[[iv op,iv lo,iv ln,iv ro,iv rn]]) rfl rfl rfl rfl rfl rfl rfl rfl rfl rfl ⟨by decide,rfl⟩ (by simp [yw]) (by show some (SObj.tok 5 q2.atoms.length)=_;rw [List.length_map]) (by simp;rw [k2];omega) ?_;rw [show q2.atoms.map Cond.row++[[iv op,iv lo,iv ln,iv ro,iv rn]]=(q2.atoms++[(.cmp op ⟨lo,ln⟩ ⟨ro,rn⟩:Cond)]).map Cond.row by rw [List.map_append];rfl];rw [show ((q2.atoms++[(.cmp op ⟨lo,ln⟩ ⟨ro,rn⟩:Cond)]).map Cond.row).length=(q2.atoms++[(.cmp op ⟨lo,ln⟩ ⟨ro,rn⟩:Cond)]).length from List.length_map _];(refine zb [777] (nx:=21) ?_;conv=>whnf);(refine zf ?_;conv=>whnf);refine zes (d:=.agg [iv op,iv lo,iv ln,iv ro,iv rn]) rfl rfl rfl rfl rfl ?_;(refine za ?_;conv=>whnf);have hif:(Ex.mk lo ln lu ld lp lk).op=4\/(Ex.mk ro rn ru rd rp rk).op=4:=by first|exact .inl (by assumption)|exact .inr (by assumption)
     exact hfin _ {q2 with atoms:=q2.atoms++[(.cmp op ⟨lo,ln⟩ ⟨ro,rn⟩:Cond)]} [_,_,_,_] rfl k1 (by rw [g5];rfl) (by rw [g5];exact (if_pos hif).symm)
    ·refine zes (d:=.agg [iv op,iv lo,iv ln,iv ro,iv rn]) rfl rfl rfl rfl rfl ?_
     (refine za ?_;conv=>whnf);exact hfin _ q2 [_,_,_,_] rfl k1 (by rw [g5];rfl) (by rw [g5];exact (if_neg (by rintro (h|h)<;>contradiction)).symm)
    ·refine zg [0,15] ?_
     change SW E _ [(0,.ptr 2 0),(15,.ptr 20 0)] _;refine Eq.mpr (congrArg (fun h=>SW E _ _ h) (show _=NS c vers q2++[zcu op n u den ps [Ex.mk lo ln lu ld lp lk,Ex.mk ro rn ru rd rp rk],zcu lo ln lu ld lp lk,zcu ro rn ru rd rp rk,.cells [sI op,sI lo,sI ln,sI ro,sI rn]] from rfl)) ?_;(refine zu 0 mixed rfl ?_;refine zb [777,999] (nx:=21) ?_;conv=>whnf);refine zfo (b:=16) (kk:=5) (rows:=q2.atoms.map Cond.row) (new:=[[iv op,iv lo,iv ln,iv ro,iv rn]]) rfl rfl rfl rfl rfl rfl rfl rfl rfl rfl ⟨by decide,rfl⟩ (by simp [yw]) (by show some (SObj.tok 5 q2.atoms.length)=_;rw [List.length_map]) (by simp;rw [k2];omega) ?_;rw [show q2.atoms.map Cond.row++[[iv op,iv lo,iv ln,iv ro,iv rn]]=(q2.atoms++[(.cmp op ⟨lo,ln⟩ ⟨ro,rn⟩:Cond)]).map Cond.row by rw [List.map_append];rfl];rw [show ((q2.atoms++[(.cmp op ⟨lo,ln⟩ ⟨ro,rn⟩:Cond)]).map Cond.row).length=(q2.atoms++[(.cmp op ⟨lo,ln⟩ ⟨ro,rn⟩:Cond)]).length from List.length_map _];(refine zb [777] (nx:=21) ?_;conv=>whnf);(refine zf ?_;conv=>whnf);refine zes (d:=.agg [iv op,iv lo,iv ln,iv ro,iv rn]) rfl rfl rfl rfl rfl ?_;(refine za ?_;conv=>whnf);have hif:(Ex.mk lo ln lu ld lp lk).op=4\/(Ex.mk ro rn ru rd rp rk).op=4:=by first|exact .inl (by assumption)|exact .inr (by assumption)
     exact hfin _ {q2 with atoms:=q2.atoms++[(.cmp op ⟨lo,ln⟩ ⟨ro,rn⟩:Cond)]} [_,_,_,_] rfl k1 (by rw [g5];rfl) (by rw [g5];exact (if_pos hif).symm)
   ·rintro done x rest q2 ha hlen ⟨k1,k2,k3⟩ ih
    have h2c:(done=[]/\x=(Ex.mk lo ln lu ld lp lk,Ex.mk ro rn ru rd rp rk)/\rest=[(Ex.mk ro rn ru rd rp rk,Ex.mk lo ln lu ld lp lk)])\/(done=[(Ex.mk lo ln lu ld lp lk,Ex.mk ro rn ru rd rp rk)]/\x=(Ex.mk ro rn ru rd rp rk,Ex.mk lo ln lu ld lp lk)/\rest=[]):=by
     match done,ha with
     |[],ha=>simp only [List.nil_append,List.cons.injEq] at ha;exact .inl ⟨rfl,ha.1.symm,ha.2.symm⟩
     |[y],ha=>simp only [List.cons_append,List.nil_append,List.cons.injEq] at ha;exact .inr ⟨by rw [ha.1],ha.2.1.symm,ha.2.2.symm⟩
     |y::z::t,ha=>simp at ha
    have hw0:IntKind.i64.wrap (0+1)=1:=zrx (by decide) (by decide);have hw1:IntKind.i64.wrap (1+1)=2:=zrx (by decide) (by decide);rcases h2c with ⟨rfl,rfl,rfl⟩|⟨rfl,rfl,rfl⟩
    ·change SW E _ [(0,.ptr 2 0),(3,.ptr 17 0),(4,.imm (.val .nilIface)),(5,sB false),(9,.ptr 18 0),(10,.ptr 19 0),(56,.agg [.imm (dI lo),.imm (dI ln),.imm (dS lu),.imm (dI ld),.imm (.isl 3 (lp.map Piece.cells)),.imm (.isl 6 (zd lk)),.imm (dI ro),.imm (dI rn),.imm (dS ru),.imm (dI rd),.imm (.isl 3 (rp.map Piece.cells)),.imm (.isl 6 (zd rk)),.imm (dI ro),.imm (dI rn),.imm (dS ru),.imm (dI rd),.imm (.isl 3 (rp.map Piece.cells)),.imm (.isl 6 (zd rk)),.imm (dI lo),.imm (dI ln),.imm (dS lu),.imm (dI ld),.imm (.isl 3 (lp.map Piece.cells)),.imm (.isl 6 (zd lk))]),(57,sI 0)] _
     change ∀q3:Sr,_->SW E _ [(0,.ptr 2 0),(3,.ptr 17 0),(4,.imm (.val .nilIface)),(5,sB false),(9,.ptr 18 0),(10,.ptr 19 0),(56,.agg [.imm (dI lo),.imm (dI ln),.imm (dS lu),.imm (dI ld),.imm (.isl 3 (lp.map Piece.cells)),.imm (.isl 6 (zd lk)),.imm (dI ro),.imm (dI rn),.imm (dS ru),.imm (dI rd),.imm (.isl 3 (rp.map Piece.cells)),.imm (.isl 6 (zd rk)),.imm (dI ro),.imm (dI rn),.imm (dS ru),.imm (dI rd),.imm (.isl 3 (rp.map Piece.cells)),.imm (.isl 6 (zd rk)),.imm (dI lo),.imm (dI ln),.imm (dS lu),.imm (dI ld),.imm (.isl 3 (lp.map Piece.cells)),.imm (.isl 6 (zd lk))]),(57,sI 1)] _ at ih;have hf:KidOK (Ex.mk lo ln lu ld lp lk):=hl;have hg:KidOK (Ex.mk ro rn ru rd rp rk):=hr;obtain ⟨hf1,_,hf3,hf4⟩:=hf;obtain ⟨_,_,hg3,hg4⟩:=hg;simp only [Ex.n,Ex.op] at hf1 hf3 hf4 hg3 hg4;(refine zf ?_;conv=>whnf);(refine zu 2 mixed rfl ?_;refine zb [777] (nx:=21) ?_;conv=>whnf);refine Eq.mpr (congrArg (fun h=>SW E _ _ h) (show _=NS c vers q2++[zcu op n u den ps [Ex.mk lo ln lu ld lp lk,Ex.mk ro rn ru rd rp rk],zcu lo ln lu ld lp lk,zcu ro rn ru rd rp rk,.cells [.imm (dI lo),.imm (dI ln),.imm (dS lu),.imm (dI ld),.imm (.isl 3 (lp.map Piece.cells)),.imm (.isl 6 (zd lk)),.imm (dI ro),.imm (dI rn),.imm (dS ru),.imm (dI rd),.imm (.isl 3 (rp.map Piece.cells)),.imm (.isl 6 (zd rk))],zcu lo ln lu ld lp lk,zcu ro rn ru rd rp rk] from rfl)) ?_;refine zg [0,3,4,5,9,10,13,14,56,57] ?_;change SW E _ [(0,.ptr 2 0),(3,.ptr 17 0),(4,.imm (.val .nilIface)),(5,sB false),(9,.ptr 18 0),(10,.ptr 19 0),(13,.ptr 21 0),(14,.ptr 22 0),(56,.agg [.imm (dI lo),.imm (dI ln),.imm (dS lu),.imm (dI ld),.imm (.isl 3 (lp.map Piece.cells)),.imm (.isl 6 (zd lk)),.imm (dI ro),.imm (dI rn),.imm (dS ru),.imm (dI rd),.imm (.isl 3 (rp.map Piece.cells)),.imm (.isl 6 (zd rk)),.imm (dI ro),.imm (dI rn),.imm (dS ru),.imm (dI rd),.imm (.isl 3 (rp.map Piece.cells)),.imm (.isl 6 (zd rk)),.imm (dI lo),.imm (dI ln),.imm (dS lu),.imm (dI ld),.imm (.isl 3 (lp.map Piece.cells)),.imm (.isl 6 (zd lk))]),(57,sI 0)] _;(refine zf ?_;conv=>whnf)
     repeat' ((with_reducible refine way ?_ ?_)<;>(intro h;conv=>whnf))
     ·rw [hw0]
      refine yy [0,3,4,5,9,10,56,57] 20 (by rw [hH];exact (by decide:17<=20)) (by exact (by decide:20<=23)) rfl (zaf (m:=20) k1 (by decide) (X:=[zcu op n u den ps [Ex.mk lo ln lu ld lp lk,Ex.mk ro rn ru rd rp rk],zcu lo ln lu ld lp lk,zcu ro rn ru rd rp rk]) rfl) (ih q2 ⟨k1,k2,?_⟩);have hs:cmpCand q2 (Ex.mk lo ln lu ld lp lk) (Ex.mk ro rn ru rd rp rk)=q2:=if_pos (show (Ex.mk lo ln lu ld lp lk).op≠2 from by assumption);rw [List.foldl_cons,hs] at k3;exact k3
     ·have hr2:=hf1 (by assumption)
      refine xm 17 rfl rfl rfl rfl rfl rfl (zbz G c vers q2 ln [0,1] hr2 k1 (by decide)) ?_;rintro r9 H9 ⟨rfl,rfl⟩ _;refine Eq.mpr (congrArg (fun h=>SWr E _ _ _ _ h) (show _=NS c vers (q2.cand ln [0,1])++[zcu op n u den ps [Ex.mk lo ln lu ld lp lk,Ex.mk ro rn ru rd rp rk],zcu lo ln lu ld lp lk,zcu ro rn ru rd rp rk,.cells [.imm (dI lo),.imm (dI ln),.imm (dS lu),.imm (dI ld),.imm (.isl 3 (lp.map Piece.cells)),.imm (.isl 6 (zd lk)),.imm (dI ro),.imm (dI rn),.imm (dS ru),.imm (dI rd),.imm (.isl 3 (rp.map Piece.cells)),.imm (.isl 6 (zd rk))],zcu lo ln lu ld lp lk,zcu ro rn ru rd rp rk] from rfl)) ?_;(refine za ?_;conv=>whnf);rw [hw0];refine yy [0,3,4,5,9,10,56,57] 20 (by rw [hH];exact (by decide:17<=20)) (by exact (by decide:20<=23)) rfl (zaf (q:=q2.cand ln [0,1]) (m:=20) (k1.ains hr2 _) (by decide) (X:=[zcu op n u den ps [Ex.mk lo ln lu ld lp lk,Ex.mk ro rn ru rd rp rk],zcu lo ln lu ld lp lk,zcu ro rn ru rd rp rk]) rfl) (ih (q2.cand ln [0,1]) ⟨k1.ains hr2 _,k2,?_⟩);have h2:(Ex.mk lo ln lu ld lp lk).op=2:=by assumption
      have h3:(Ex.mk lo ln lu ld lp lk).unit=tT:=by assumption
      have hs:cmpCand q2 (Ex.mk lo ln lu ld lp lk) (Ex.mk ro rn ru rd rp rk)=q2.cand ln [0,1]:=(if_neg (not_not_intro h2)).trans (if_pos h3);rw [List.foldl_cons,hs] at k3;exact k3
     ·have hr2:=hf1 (by assumption)
      have hwg:IntKind.i64.wrap (rn+1)=rn+1:=zrx (by omega) (by omega);rw [hwg];refine xm 17 rfl rfl rfl rfl rfl rfl (zbz G c vers q2 ln [0,rn,rn+1] hr2 k1 (by exact (by decide:3<=1000))) ?_;rintro r9 H9 ⟨rfl,rfl⟩ _;refine Eq.mpr (congrArg (fun h=>SWr E _ _ _ _ h) (show _=NS c vers (q2.cand ln [0,rn,rn+1])++[zcu op n u den ps [Ex.mk lo ln lu ld lp lk,Ex.mk ro rn ru rd rp rk],zcu lo ln lu ld lp lk,zcu ro rn ru rd rp rk,.cells [.imm (dI lo),.imm (dI ln),.imm (dS lu),.imm (dI ld),.imm (.isl 3 (lp.map Piece.cells)),.imm (.isl 6 (zd lk)),.imm (dI ro),.imm (dI rn),.imm (dS ru),.imm (dI rd),.imm (.isl 3 (rp.map Piece.cells)),.imm (.isl 6 (zd rk))],zcu lo ln lu ld lp lk,zcu ro rn ru rd rp rk] from rfl)) ?_;(refine za ?_;conv=>whnf);rw [hw0];refine yy [0,3,4,5,9,10,56,57] 20 (by rw [hH];exact (by decide:17<=20)) (by exact (by decide:20<=23)) rfl (zaf (q:=q2.cand ln [0,rn,rn+1]) (m:=20) (k1.ains hr2 _) (by decide) (X:=[zcu op n u den ps [Ex.mk lo ln lu ld lp lk,Ex.mk ro rn ru rd rp rk],zcu lo ln lu ld lp lk,zcu ro rn ru rd rp rk]) rfl) (ih (q2.cand ln [0,rn,rn+1]) ⟨k1.ains hr2 _,k2,?_⟩);have h2:(Ex.mk lo ln lu ld lp lk).op=2:=by assumption
      have h3:¬(Ex.mk lo ln lu ld lp lk).unit=tT:=by assumption
      have hs:cmpCand q2 (Ex.mk lo ln lu ld lp lk) (Ex.mk ro rn ru rd rp rk)=q2.cand ln [0,rn,rn+1]:=(if_neg (not_not_intro h2)).trans (if_neg h3);rw [List.foldl_cons,hs] at k3;exact k3
    ·change SW E _ [(0,.ptr 2 0),(3,.ptr 17 0),(4,.imm (.val .nilIface)),(5,sB false),(9,.ptr 18 0),(10,.ptr 19 0),(56,.agg [.imm (dI lo),.imm (dI ln),.imm (dS lu),.imm (dI ld),.imm (.isl 3 (lp.map Piece.cells)),.imm (.isl 6 (zd lk)),.imm (dI ro),.imm (dI rn),.imm (dS ru),.imm (dI rd),.imm (.isl 3 (rp.map Piece.cells)),.imm (.isl 6 (zd rk)),.imm (dI ro),.imm (dI rn),.imm (dS ru),.imm (dI rd),.imm (.isl 3 (rp.map Piece.cells)),.imm (.isl 6 (zd rk)),.imm (dI lo),.imm (dI ln),.imm (dS lu),.imm (dI ld),.imm (.isl 3 (lp.map Piece.cells)),.imm (.isl 6 (zd lk))]),(57,sI 1)] _
     change ∀q3:Sr,_->SW E _ [(0,.ptr 2 0),(3,.ptr 17 0),(4,.imm (.val .nilIface)),(5,sB false),(9,.ptr 18 0),(10,.ptr 19 0),(56,.agg [.imm (dI lo),.imm (dI ln),.imm (dS lu),.imm (dI ld),.imm (.isl 3 (lp.map Piece.cells)),.imm (.isl 6 (zd lk)),.imm (dI ro),.imm (dI rn),.imm (dS ru),.imm (dI rd),.imm (.isl 3 (rp.map Piece.cells)),.imm (.isl 6 (zd rk)),.imm (dI ro),.imm (dI rn),.imm (dS ru),.imm (dI rd),.imm (.isl 3 (rp.map Piece.cells)),.imm (.isl 6 (zd rk)),.imm (dI lo),.imm (dI ln),.imm (dS lu),.imm (dI ld),.imm (.isl 3 (lp.map Piece.cells)),.imm (.isl 6 (zd lk))]),(57,sI 2)] _ at ih;have hf:KidOK (Ex.mk ro rn ru rd rp rk):=hr;have hg:KidOK (Ex.mk lo ln lu ld lp lk):=hl;obtain ⟨hf1,_,hf3,hf4⟩:=hf;obtain ⟨_,_,hg3,hg4⟩:=hg;simp only [Ex.n,Ex.op] at hf1 hf3 hf4 hg3 hg4;(refine zf ?_;conv=>whnf);(refine zu 2 mixed rfl ?_;refine zb [777] (nx:=21) ?_;conv=>whnf);refine Eq.mpr (congrArg (fun h=>SW E _ _ h) (show _=NS c vers q2++[zcu op n u den ps [Ex.mk lo ln lu ld lp lk,Ex.mk ro rn ru rd rp rk],zcu lo ln lu ld lp lk,zcu ro rn ru rd rp rk,.cells [.imm (dI ro),.imm (dI rn),.imm (dS ru),.imm (dI rd),.imm (.isl 3 (rp.map Piece.cells)),.imm (.isl 6 (zd rk)),.imm (dI lo),.imm (dI ln),.imm (dS lu),.imm (dI ld),.imm (.isl 3 (lp.map Piece.cells)),.imm (.isl 6 (zd lk))],zcu ro rn ru rd rp rk,zcu lo ln lu ld lp lk] from rfl)) ?_;refine zg [0,3,4,5,9,10,13,14,56,57] ?_;change SW E _ [(0,.ptr 2 0),(3,.ptr 17 0),(4,.imm (.val .nilIface)),(5,sB false),(9,.ptr 18 0),(10,.ptr 19 0),(13,.ptr 21 0),(14,.ptr 22 0),(56,.agg [.imm (dI lo),.imm (dI ln),.imm (dS lu),.imm (dI ld),.imm (.isl 3 (lp.map Piece.cells)),.imm (.isl 6 (zd lk)),.imm (dI ro),.imm (dI rn),.imm (dS ru),.imm (dI rd),.imm (.isl 3 (rp.map Piece.cells)),.imm (.isl 6 (zd rk)),.imm (dI ro),.imm (dI rn),.imm (dS ru),.imm (dI rd),.imm (.isl 3 (rp.map Piece.cells)),.imm (.isl 6 (zd rk)),.imm (dI lo),.imm (dI ln),.imm (dS lu),.imm (dI ld),.imm (.isl 3 (lp.map Piece.cells)),.imm (.isl 6 (zd lk))]),(57,sI 1)] _;(refine zf ?_;conv=>whnf)
     repeat' ((with_reducible refine way ?_ ?_)<;>(intro h;conv=>whnf))
     ·rw [hw1]
      refine yy [0,3,4,5,9,10,56,57] 20 (by rw [hH];exact (by decide:17<=20)) (by exact (by decide:20<=23)) rfl (zaf (m:=20) k1 (by decide) (X:=[zcu op n u den ps [Ex.mk lo ln lu ld lp lk,Ex.mk ro rn ru rd rp rk],zcu lo ln lu ld lp lk,zcu ro rn ru rd rp rk]) rfl) (ih q2 ⟨k1,k2,?_⟩);have hs:cmpCand q2 (Ex.mk ro rn ru rd rp rk) (Ex.mk lo ln lu ld lp lk)=q2:=if_pos (show (Ex.mk ro rn ru rd rp rk).op≠2 from by assumption);rw [List.foldl_cons,hs] at k3;exact k3
     ·have hr2:=hf1 (by assumption)
      refine xm 17 rfl rfl rfl rfl rfl rfl (zbz G c vers q2 rn [0,1] hr2 k1 (by decide)) ?_;rintro r9 H9 ⟨rfl,rfl⟩ _;refine Eq.mpr (congrArg (fun h=>SWr E _ _ _ _ h) (show _=NS c vers (q2.cand rn [0,1])++[zcu op n u den ps [Ex.mk lo ln lu ld lp lk,Ex.mk ro rn ru rd rp rk],zcu lo ln lu ld lp lk,zcu ro rn ru rd rp rk,.cells [.imm (dI ro),.imm (dI rn),.imm (dS ru),.imm (dI rd),.imm (.isl 3 (rp.map Piece.cells)),.imm (.isl 6 (zd rk)),.imm (dI lo),.imm (dI ln),.imm (dS lu),.imm (dI ld),.imm (.isl 3 (lp.map Piece.cells)),.imm (.isl 6 (zd lk))],zcu ro rn ru rd rp rk,zcu lo ln lu ld lp lk] from rfl)) ?_;(refine za ?_;conv=>whnf);rw [hw1];refine yy [0,3,4,5,9,10,56,57] 20 (by rw [hH];exact (by decide:17<=20)) (by exact (by decide:20<=23)) rfl (zaf (q:=q2.cand rn [0,1]) (m:=20) (k1.ains hr2 _) (by decide) (X:=[zcu op n u den ps [Ex.mk lo ln lu ld lp lk,Ex.mk ro rn ru rd rp rk],zcu lo ln lu ld lp lk,zcu ro rn ru rd rp rk]) rfl) (ih (q2.cand rn [0,1]) ⟨k1.ains hr2 _,k2,?_⟩);have h2:(Ex.mk ro rn ru rd rp rk).op=2:=by assumption
      have h3:(Ex.mk ro rn ru rd rp rk).unit=tT:=by assumption
      have hs:cmpCand q2 (Ex.mk ro rn ru rd rp rk) (Ex.mk lo ln lu ld lp lk)=q2.cand rn [0,1]:=(if_neg (not_not_intro h2)).trans (if_pos h3);rw [List.foldl_cons,hs] at k3;exact k3
     ·have hr2:=hf1 (by assumption)
      have hwg:IntKind.i64.wrap (ln+1)=ln+1:=zrx (by omega) (by omega);rw [hwg];refine xm 17 rfl rfl rfl rfl rfl rfl (zbz G c vers q2 rn [0,ln,ln+1] hr2 k1 (by exact (by decide:3<=1000))) ?_;rintro r9 H9 ⟨rfl,rfl⟩ _;refine Eq.mpr (congrArg (fun h=>SWr E _ _ _ _ h) (show _=NS c vers (q2.cand rn [0,ln,ln+1])++[zcu op n u den ps [Ex.mk lo ln lu ld lp lk,Ex.mk ro rn ru rd rp rk],zcu lo ln lu ld lp lk,zcu ro rn ru rd rp rk,.cells [.imm (dI ro),.imm (dI rn),.imm (dS ru),.imm (dI rd),.imm (.isl 3 (rp.map Piece.cells)),.imm (.isl 6 (zd rk)),.imm (dI lo),.imm (dI ln),.imm (dS lu),.imm (dI ld),.imm (.isl 3 (lp.map Piece.cells)),.imm (.isl 6 (zd lk))],zcu ro rn ru rd rp rk,zcu lo ln lu ld lp lk] from rfl)) ?_;(refine za ?_;conv=>whnf);rw [hw1];refine yy [0,3,4,5,9,10,56,57] 20 (by rw [hH];exact (by decide:17<=20)) (by exact (by decide:20<=23)) rfl (zaf (q:=q2.cand rn [0,ln,ln+1]) (m:=20) (k1.ains hr2 _) (by decide) (X:=[zcu op n u den ps [Ex.mk lo ln lu ld lp lk,Ex.mk ro rn ru rd rp rk],zcu lo ln lu ld lp lk,zcu ro rn ru rd rp rk]) rfl) (ih (q2.cand rn [0,ln,ln+1]) ⟨k1.ains hr2 _,k2,?_⟩);have h2:(Ex.mk ro rn ru rd rp rk).op=2:=by assumption
      have h3:¬(Ex.mk ro rn ru rd rp rk).unit=tT:=by assumption
      have hs:cmpCand q2 (Ex.mk ro rn ru rd rp rk) (Ex.mk lo ln lu ld lp lk)=q2.cand rn [0,ln,ln+1]:=(if_neg (not_not_intro h2)).trans (if_neg h3);rw [List.foldl_cons,hs] at k3;exact k3
 ·rintro done x rest ⟨ds,m⟩ ha hlen ⟨g1,g2,g3,g4⟩ ih
  have hw:=zk (n:=done.length) (by omega);have hrow:(ks.map Ex.cells)[((done.length:Nat):Int).toNat]?=some x.cells:=by simp [ha]
  have hx:=hks x (by rw [ha];simp);obtain ⟨xo,xn,xu,xd,xp,xk⟩:=x;obtain ⟨d0,d1,d2,d3,d4,rfl⟩:∃d0 d1 d2 d3 d4,ds=[d0,d1,d2,d3,d4]:=by
   match ds,g1 with
   |[d0,d1,d2,d3,d4],_=>exact ⟨d0,d1,d2,d3,d4,rfl⟩
  simp only [Ex.cells] at hrow
  dsimp only at g1 g2 g3
  have hw2:IntKind.i64.wrap (m+1)=m+1:=by rw [show m+1=((m.toNat:Nat):Int)+1 by omega,zk (by omega)];omega
  rw [yqb] at g4;(refine zf ?_;conv=>whnf)
  repeat' ((with_reducible refine way ?_ ?_)<;>(intro h;conv=>whnf))
  all_goals try (exfalso;omega)
  refine zh rfl rfl  hrow ?_;(refine za ?_;conv=>whnf)
  repeat' ((with_reducible refine way ?_ ?_)<;>(intro h;conv=>whnf))
  ·rw [if_pos (show xo=1 by assumption)] at g4
   rw [hw,hw2];exact yy [0,3,4,5,6,17,18,19] 18 (by rw [hH];exact (by decide:17<=18)) (by exact (by decide:18<=19)) rfl (zaf (q:={q with dates:=[d0,d1,d2,d3,d4]}) (m:=18) hq (by decide) (X:=[_]) rfl)
    (ih ([d0,d1,d2,d3,d4],m+1) ⟨rfl,by simp;omega,by simp;omega,g4⟩)
  ·rw [if_neg (show ¬xo=1 by assumption),if_pos (show xo=4 by assumption)] at g4
   obtain ⟨hx0,hx4⟩:=hx.date (by assumption);simp only [Ex.n] at hx0 hx4;have h5:xn=0\/xn=1\/xn=2\/xn=3\/xn=4:=by omega
   rcases h5 with rfl|rfl|rfl|rfl|rfl<;>(refine zu 0 mixed rfl ?_;refine zb [777] (nx:=19) ?_;conv=>whnf)<;>((refine zf ?_;conv=>whnf))<;>rw [hw]
   ·exact yy [0,3,4,5,6,17,18,19] 18 (by rw [hH];exact (by decide:17<=18)) (by exact (by decide:18<=19)) rfl (zaf (q:={q with dates:=[true,d1,d2,d3,d4]}) (m:=18) hq (by decide) (X:=[_]) rfl)
     (ih ([true,d1,d2,d3,d4],m) ⟨rfl,g2,by simp;omega,g4⟩)
   ·exact yy [0,3,4,5,6,17,18,19] 18 (by rw [hH];exact (by decide:17<=18)) (by exact (by decide:18<=19)) rfl (zaf (q:={q with dates:=[d0,true,d2,d3,d4]}) (m:=18) hq (by decide) (X:=[_]) rfl)
     (ih ([d0,true,d2,d3,d4],m) ⟨rfl,g2,by simp;omega,g4⟩)
   ·exact yy [0,3,4,5,6,17,18,19] 18 (by rw [hH];exact (by decide:17<=18)) (by exact (by decide:18<=19)) rfl (zaf (q:={q with dates:=[d0,d1,true,d3,d4]}) (m:=18) hq (by decide) (X:=[_]) rfl)
     (ih ([d0,d1,true,d3,d4],m) ⟨rfl,g2,by simp;omega,g4⟩)
   ·exact yy [0,3,4,5,6,17,18,19] 18 (by rw [hH];exact (by decide:17<=18)) (by exact (by decide:18<=19)) rfl (zaf (q:={q with dates:=[d0,d1,d2,true,d4]}) (m:=18) hq (by decide) (X:=[_]) rfl)
     (ih ([d0,d1,d2,true,d4],m) ⟨rfl,g2,by simp;omega,g4⟩)
   ·exact yy [0,3,4,5,6,17,18,19] 18 (by rw [hH];exact (by decide:17<=18)) (by exact (by decide:18<=19)) rfl (zaf (q:={q with dates:=[d0,d1,d2,d3,true]}) (m:=18) hq (by decide) (X:=[_]) rfl)
     (ih ([d0,d1,d2,d3,true],m) ⟨rfl,g2,by simp;omega,g4⟩)
  ·rw [if_neg (show ¬xo=1 by assumption),if_neg (show ¬xo=4 by assumption),if_pos (show xo=2 by assumption)] at g4
   rw [hw];exact yy [0,3,4,5,6,17,18,19] 18 (by rw [hH];exact (by decide:17<=18)) (by exact (by decide:18<=19)) rfl (zaf (q:={q with dates:=[d0,d1,d2,d3,d4]}) (m:=18) hq (by decide) (X:=[_]) rfl)
    (ih ([d0,d1,d2,d3,d4],m) ⟨rfl,g2,by simp;omega,g4⟩)
  ·rw [if_neg (show ¬xo=1 by assumption),if_neg (show ¬xo=4 by assumption),if_neg (show ¬xo=2 by assumption)] at g4
   have e:cmpOf q op ks=(.none,false,{q with dates:=[d0,d1,d2,d3,d4]}):=by simp only [cmpOf,g4]
   exact hfin _ {q with dates:=[d0,d1,d2,d3,d4]} [_,_] rfl hq (by rw [e];rfl) (by rw [e])
def yiv : Ex -> Prop
  | .mk op n _ _ _ ks => (op = 2 -> 0 <= n /\ n < 12) /\ (op = 8 \/ op = 9 \/ op = 10 -> ∃ l r, ks = [l, r] /\ KidOK l /\ KidOK r)
    /\ (if op = 5 then match ks with
        | k :: r => r = [] /\ yiv k
        | [] => False
      else if op = 6 \/ op = 7 then match ks with
        | k :: l :: r => r = [] /\ yiv k /\ yiv l
        | _ => False
      else True)
def zps:Ex->Nat
 | .mk op _ _ _ _ ks=>if op=8\/op=9\/op=10 then 1 else match ks with
  |k::l::_=>zps k+zps l
  |[k]=>zps k
  |[]=>0
structure SrK (q:Sr):Prop where
 cands:CandsOK q.cands
 dates:q.dates.length=5
theorem SrK.cand {q:Sr} (h:SrK q) {f:Int} (hf:0<=f/\f<12) (vs:List Int):SrK (q.cand f vs):=⟨h.cands.ains hf _,h.dates⟩
theorem SrK.date {q:Sr} (h:SrK q) (i:Int):SrK (q.date i):=⟨h.cands,by simp [Sr.date,h.dates]⟩
theorem zlh:∀(ks:List Ex) (q:Sr) (n:Int),SrK q->SrK (wo ks q n).2.1/\(wo ks q n).2.1.atoms=q.atoms
 |[],q,n,h=>⟨h,rfl⟩
 |k::r,q,n,h=>by
  simp only [wo];split
  ·exact zlh r q (n+1) h
  ·split
   ·exact zlh r (q.date k.n) n (h.date _)
   ·split
    ·exact zlh r q n h
    ·exact ⟨h,rfl⟩
theorem zwp {q:Sr} (h:SrK q) {f:Ex} (g:Ex) (hf:KidOK f):SrK (cmpCand q f g)/\(cmpCand q f g).atoms=q.atoms:=by
 unfold cmpCand;split
 ·exact ⟨h,rfl⟩
 ·rename_i h2
  have:=hf.fact (by omega);split
  ·exact ⟨h.cand this _,rfl⟩
  ·exact ⟨h.cand this _,rfl⟩
theorem zoh {q:Sr} (h:SrK q) (op:Int) {l r:Ex} (hl:KidOK l) (hr:KidOK r):SrK (cmpOf q op [l,r]).2.2/\(cmpOf q op [l,r]).2.2.atoms.length<=q.atoms.length+1:=by
 have h1:=zlh [l,r] q 0 h;unfold cmpOf;generalize wo [l,r] q 0=z at h1;obtain ⟨b,s1,n⟩:=z;simp only at h1;obtain ⟨h1,ha⟩:=h1;cases b with
 |false=>exact ⟨h1,by simp [ha]⟩
 |true=>
  simp only;split
  ·exact ⟨h1,by simp [ha]⟩
  ·have h2:=zwp h1 (f:=l) r hl
   have h3:=zwp h2.1 (f:=r) l hr;split
   ·exact ⟨⟨h3.1.cands,h3.1.dates⟩,by simp [h3.2,h2.2,ha]⟩
   ·exact ⟨h3.1,by rw [h3.2,h2.2,ha];omega⟩
theorem jh:∀(N:Nat) (e:Ex) (q:Sr),SizeOf.sizeOf e<N->yiv e->SrK q->SrK (simpleOf e q).2.2/\(simpleOf e q).2.2.atoms.length<=q.atoms.length+zps e
 |0,_,_,h,_,_=>by omega
 |N+1,.mk op n u den ps ks,q,hN,hf,hq=>by
  unfold yiv at hf;obtain ⟨f1,f2,f3⟩:=hf;unfold simpleOf zps
  by_cases h1:op=1
  ·rw [if_pos h1]
   exact ⟨hq,Nat.le_add_right _ _⟩
  rw [if_neg h1]
  by_cases h2:op=2
  ·rw [if_pos h2]
   exact ⟨hq.cand (f1 h2) _,Nat.le_add_right _ _⟩
  rw [if_neg h2]
  by_cases h3:op=8\/op=9\/op=10
  ·rw [if_pos h3,if_pos h3]
   obtain ⟨l,r,rfl,hl,hr⟩:=f2 h3;exact zoh hq op hl hr
  rw [if_neg h3,if_neg h3]
  by_cases h4:op=5
  ·rw [if_pos h4] at f3 ⊢
   match ks,f3,hN with
   |[k],f3,hN=>
    simp only [Ex.mk.sizeOf_spec,List.cons.sizeOf_spec] at hN;exact jh N k q (by omega) f3.2 hq
  rw [if_neg h4] at f3 ⊢
  by_cases h5:op=6\/op=7
  ·rw [if_pos h5] at f3 ⊢
   match ks,f3,hN with
   |[k,l],f3,hN=>
    simp only [Ex.mk.sizeOf_spec,List.cons.sizeOf_spec] at hN;have g1:=jh N k q (by omega) f3.2.1 hq;have g2:=jh N l _ (by omega) f3.2.2 g1.1;exact ⟨g2.1,by simp only;omega⟩
  rw [if_neg h5] at f3 ⊢;exact ⟨hq,Nat.le_add_right _ _⟩
theorem zke (op n:Int) (u:ByteArray) (den:Int) (ps:List Piece) (ks:List Ex) (s:Sr):simpleOf (.mk op n u den ps ks) s=
  if op=1 then (.plain ⟨1,n⟩,true,s)
  else if op=2 then (.plain ⟨2,n⟩,true,s.cand n [0,1])
  else if op=8\/op=9\/op=10 then cmpOf s op ks
  else if op=5 then match ks with
   |k::_=>let r:=simpleOf k s;(.neg r.1,r.2.1,r.2.2)
   |[]=>(.none,false,s)
  else if op=6\/op=7 then match ks with
   |k::l::_=>let r:=simpleOf k s;let q:=simpleOf l r.2.2;(.conn (if op=7 then 1 else 0) r.1 q.1,r.2.1&&q.2.1,q.2.2)
   |_=>(.none,false,s)
  else (.none,false,s):=by rw [simpleOf.eq_def];rfl
theorem zoi (x:Cond):x.d= .val .nilIface\/∃t y,x.d= .iface t y:=by
 cases x with
 |none=>exact .inl rfl
 |_=>exact .inr ⟨_,_,rfl⟩
theorem zfp (c:Codex) (vers:List Int):∀(N:Nat) (e:Ex) (q:Sr),SizeOf.sizeOf e<N->yiv e->SrK q->q.atoms.length+zps e<=1000000000->
  SPre Tryz.prog G 66 [.ptr 2 0,.agg (e.cells.map SV.imm)] (NS c vers q) (fun v H'=>v= .tup [.imm (simpleOf e q).1.d,sB (simpleOf e q).2.1]/\H'=NS c vers (simpleOf e q).2.2)
 |0,_,_,h,_,_,_=>by omega
 |N+1,.mk op n u den ps ks,q,hN,hf,hq,hsz=>by
  refine qg Tryz.func66 rfl (by rw [Tryz.ntmps66];simp) rfl (zcf hq.cands.rng) ?_;intro E hH hK;rw [show (Ex.mk op n u den ps ks).cells.map SV.imm=[.imm (dI op),.imm (dI n),.imm (dS u),.imm (dI den),.imm (.isl 3 (ps.map Piece.cells)),yfm ks] by simp [Ex.cells,zp,yfm]];have hfin:∀(v:SV) (q':Sr) (X:List SObj),v.under 17=true->CandsOK q'.cands->v= .tup [.imm (simpleOf (.mk op n u den ps ks) q).1.d,sB (simpleOf (.mk op n u den ps ks) q).2.1]->q'=(simpleOf (.mk op n u den ps ks) q).2.2->E.K v (NS c vers q'++X):=by
   intro v q' X h1 h2 h3 h4;have ht:(NS c vers q'++X).take (NS c vers q).length=NS c vers q':=by
    rw [show (NS c vers q).length=(NS c vers q').length from rfl,List.take_append_of_le_length (Nat.le_refl _),List.take_length]
   refine hK v _ (by rw [List.length_append];exact Nat.le_add_right _ _) h1 (by rw [ht];exact zcf h2.rng) ⟨h3,?_⟩;rw [ht,h4]
  clear hK;unfold yiv at hf;obtain ⟨f1,f2,f3⟩:=hf;have hs:=zke op n u den ps ks q;unfold zps at hsz;(refine zf ?_;conv=>whnf)
  repeat' ((with_reducible refine way ?_ ?_)<;>(intro h;conv=>whnf))
  all_goals try (exfalso;omega)
  ·rw [if_pos (by assumption)] at hs
   refine zes (d:=.agg [iv 1,iv n]) rfl rfl rfl rfl rfl ?_;(refine za ?_;conv=>whnf);exact hfin _ q [_] rfl hq.cands (by rw [hs];rfl) (by rw [hs])
  ·rw [if_neg (show ¬op=1 by assumption),if_pos (show op=2 by assumption)] at hs
   have hn:=f1 (by assumption);refine xm 17 rfl rfl rfl rfl rfl rfl (zbz G c vers q n [0,1] hn hq.cands (by decide)) ?_;rintro r9 H9 ⟨rfl,rfl⟩ _;(refine za ?_;conv=>whnf);refine zes (d:=.agg [iv 2,iv n]) rfl rfl rfl rfl rfl ?_;(refine za ?_;conv=>whnf);exact hfin _ (q.cand n [0,1]) [_] rfl (hq.cands.ains hn _) (by rw [hs];rfl) (by rw [hs])
  ·have ho:op=8\/op=9\/op=10:=by omega
   obtain ⟨l,r,rfl,hl,hr⟩:=f2 ho;rw [if_pos ho] at hsz;rw [if_neg (show ¬op=1 by omega),if_neg (show ¬op=2 by omega),if_pos ho] at hs;refine xm 17 rfl rfl rfl rfl rfl rfl (zfz G c vers q op n u den ps l r hl hr hq.cands hq.dates (by omega)) ?_;rintro r9 H9 ⟨rfl,rfl⟩ _;have hkp:=(zoh hq op hl hr).1;generalize cmpOf q op [l,r]=z at hs hkp ⊢;obtain ⟨cd,b,q'⟩:=z;rcases zoi cd with hcd|⟨t9,y9,hcd⟩<;>simp only [hcd]<;>((refine za ?_;conv=>whnf))<;>
    exact hfin _ q' [_] rfl hkp.cands (by rw [hs];simp only [hcd];rfl) (by rw [hs])
  ·have ho:op=8\/op=9\/op=10:=by omega
   obtain ⟨l,r,rfl,hl,hr⟩:=f2 ho;rw [if_pos ho] at hsz;rw [if_neg (show ¬op=1 by omega),if_neg (show ¬op=2 by omega),if_pos ho] at hs;refine xm 17 rfl rfl rfl rfl rfl rfl (zfz G c vers q op n u den ps l r hl hr hq.cands hq.dates (by omega)) ?_;rintro r9 H9 ⟨rfl,rfl⟩ _;have hkp:=(zoh hq op hl hr).1;generalize cmpOf q op [l,r]=z at hs hkp ⊢;obtain ⟨cd,b,q'⟩:=z;rcases zoi cd with hcd|⟨t9,y9,hcd⟩<;>simp only [hcd]<;>((refine za ?_;conv=>whnf))<;>
    exact hfin _ q' [_] rfl hkp.cands (by rw [hs];simp only [hcd];rfl) (by rw [hs])
  ·have ho:op=8\/op=9\/op=10:=by omega
   obtain ⟨l,r,rfl,hl,hr⟩:=f2 ho;rw [if_pos ho] at hsz;rw [if_neg (show ¬op=1 by omega),if_neg (show ¬op=2 by omega),if_pos ho] at hs;refine xm 17 rfl rfl rfl rfl rfl rfl (zfz G c vers q op n u den ps l r hl hr hq.cands hq.dates (by omega)) ?_;rintro r9 H9 ⟨rfl,rfl⟩ _;have hkp:=(zoh hq op hl hr).1;generalize cmpOf q op [l,r]=z at hs hkp ⊢;obtain ⟨cd,b,q'⟩:=z;rcases zoi cd with hcd|⟨t9,y9,hcd⟩<;>simp only [hcd]<;>((refine za ?_;conv=>whnf))<;>
    exact hfin _ q' [_] rfl hkp.cands (by rw [hs];simp only [hcd];rfl) (by rw [hs])
  ·have ho8:¬(op=8\/op=9\/op=10):=by omega
   rw [if_neg ho8] at hsz;rw [if_pos (show op=5 by assumption)] at f3;rw [if_neg (show ¬op=1 by assumption),if_neg (show ¬op=2 by assumption),if_neg ho8,if_pos (show op=5 by assumption)] at hs
   match ks,f3,hN,hsz,hs,hfin with
   |[k],f3,hN,hsz,hs,hfin=>
   simp only [Ex.mk.sizeOf_spec,List.cons.sizeOf_spec] at hN;have hk:=zfp c vers N k q (by omega) f3.2 hq hsz;have hkp:=(jh N k q (by omega) f3.2 hq).1;simp only at hs;generalize simpleOf k q=z at hk hs hkp;obtain ⟨cd,b,q'⟩:=z;obtain ⟨ko,kn,ku,kd,kp,kk⟩:=k;refine zh rfl rfl  (row:=(Ex.mk ko kn ku kd kp kk).cells) rfl ?_;(refine za ?_;conv=>whnf);refine xm 17 rfl rfl rfl rfl rfl rfl hk ?_;rintro r9 H9 ⟨rfl,rfl⟩ _;rcases zoi cd with hcd|⟨t9,y9,hcd⟩<;>simp only [hcd]<;>((refine za ?_;conv=>whnf))<;>refine zes (d:=.agg [_]) rfl rfl rfl rfl rfl ?_<;>((refine za ?_;conv=>whnf))<;>
    exact hfin _ q' [_] rfl hkp.cands (by rw [hs];simp only [Cond.d,hcd];rfl) (by rw [hs])
  ·have ho:op=6\/op=7:=by omega
   have h7:(if op=7 then (1:Int) else 0)=0:=if_neg (by omega);have ho5:¬op=5:=by omega
   have ho8:¬(op=8\/op=9\/op=10):=by omega
   rw [if_neg ho8] at hsz;rw [if_neg ho5,if_pos ho] at f3;rw [if_neg (show ¬op=1 by omega),if_neg (show ¬op=2 by omega),if_neg ho8,if_neg ho5,if_pos ho] at hs
   match ks,f3,hN,hsz,hs,hfin with
   |[k,l],f3,hN,hsz,hs,hfin=>
   simp only [Ex.mk.sizeOf_spec,List.cons.sizeOf_spec] at hN;simp only at hsz;have hk:=zfp c vers N k q (by omega) f3.2.1 hq (by omega);have hkp:=jh N k q (by omega) f3.2.1 hq;simp only at hs;have hsz2:(simpleOf k q).2.2.atoms.length+zps l<=1000000000:=by omega
   generalize simpleOf k q=z at hk hs hkp hsz2;obtain ⟨cd,b,q'⟩:=z;have hkq:=hkp.1;simp only at hkq hsz2;have hl:=zfp c vers N l q' (by omega) f3.2.2 hkq hsz2;have hlp:=(jh N l q' (by omega) f3.2.2 hkq).1;simp only at hs;generalize simpleOf l q'=y at hl hs hlp;obtain ⟨ce,b',q''⟩:=y;obtain ⟨ko,kn,ku,kd,kp,kk⟩:=k;obtain ⟨lo,ln,lu,ld,lp,lk⟩:=l;refine zh rfl rfl  (row:=(Ex.mk ko kn ku kd kp kk).cells) rfl ?_;(refine za ?_;conv=>whnf);refine xm 17 rfl rfl rfl rfl rfl rfl hk ?_;rintro r9 H9 ⟨rfl,rfl⟩ _;rcases zoi cd with hcd|⟨t9,y9,hcd⟩<;>simp only [hcd]<;>((refine za ?_;conv=>whnf))
   all_goals
    refine zh rfl rfl  (row:=(Ex.mk lo ln lu ld lp lk).cells) rfl ?_;(refine za ?_;conv=>whnf);refine xm 17 rfl rfl rfl rfl rfl rfl hl ?_;rintro r9 H9 ⟨rfl,rfl⟩ _
   all_goals rcases zoi ce with hce|⟨t8,y8,hce⟩<;>simp only [hce]<;>cases b<;>((refine za ?_;conv=>whnf))<;>(repeat' ((with_reducible refine way ?_ ?_)<;>(intro h;conv=>whnf)))
   all_goals try (exfalso;omega)
   all_goals
    refine zes (d:=.agg [_,_,_]) rfl rfl rfl rfl rfl ?_;(refine za ?_;conv=>whnf)
   all_goals exact hfin _ q'' [_] rfl hlp.cands (by rw [hs];simp only [Cond.d,hcd,hce,h7];rfl) (by rw [hs])
  ·have ho:op=6\/op=7:=by omega
   have h7:(if op=7 then (1:Int) else 0)=1:=if_pos (by omega);have ho5:¬op=5:=by omega
   have ho8:¬(op=8\/op=9\/op=10):=by omega
   rw [if_neg ho8] at hsz;rw [if_neg ho5,if_pos ho] at f3;rw [if_neg (show ¬op=1 by omega),if_neg (show ¬op=2 by omega),if_neg ho8,if_neg ho5,if_pos ho] at hs
   match ks,f3,hN,hsz,hs,hfin with
   |[k,l],f3,hN,hsz,hs,hfin=>
   simp only [Ex.mk.sizeOf_spec,List.cons.sizeOf_spec] at hN;simp only at hsz;have hk:=zfp c vers N k q (by omega) f3.2.1 hq (by omega);have hkp:=jh N k q (by omega) f3.2.1 hq;simp only at hs;have hsz2:(simpleOf k q).2.2.atoms.length+zps l<=1000000000:=by omega
   generalize simpleOf k q=z at hk hs hkp hsz2;obtain ⟨cd,b,q'⟩:=z;have hkq:=hkp.1;simp only at hkq hsz2;have hl:=zfp c vers N l q' (by omega) f3.2.2 hkq hsz2;have hlp:=(jh N l q' (by omega) f3.2.2 hkq).1;simp only at hs;generalize simpleOf l q'=y at hl hs hlp;obtain ⟨ce,b',q''⟩:=y;obtain ⟨ko,kn,ku,kd,kp,kk⟩:=k;obtain ⟨lo,ln,lu,ld,lp,lk⟩:=l;refine zh rfl rfl  (row:=(Ex.mk ko kn ku kd kp kk).cells) rfl ?_;(refine za ?_;conv=>whnf);refine xm 17 rfl rfl rfl rfl rfl rfl hk ?_;rintro r9 H9 ⟨rfl,rfl⟩ _;rcases zoi cd with hcd|⟨t9,y9,hcd⟩<;>simp only [hcd]<;>((refine za ?_;conv=>whnf))
   all_goals
    refine zh rfl rfl  (row:=(Ex.mk lo ln lu ld lp lk).cells) rfl ?_;(refine za ?_;conv=>whnf);refine xm 17 rfl rfl rfl rfl rfl rfl hl ?_;rintro r9 H9 ⟨rfl,rfl⟩ _
   all_goals rcases zoi ce with hce|⟨t8,y8,hce⟩<;>simp only [hce]<;>cases b<;>((refine za ?_;conv=>whnf))<;>(repeat' ((with_reducible refine way ?_ ?_)<;>(intro h;conv=>whnf)))
   all_goals try (exfalso;omega)
   all_goals
    refine zes (d:=.agg [_,_,_]) rfl rfl rfl rfl rfl ?_;(refine za ?_;conv=>whnf)
   all_goals exact hfin _ q'' [_] rfl hlp.cands (by rw [hs];simp only [Cond.d,hcd,hce,h7];rfl) (by rw [hs])
  ·rw [if_neg (show ¬op=1 by assumption),if_neg (show ¬op=2 by assumption),if_neg (show ¬(op=8\/op=9\/op=10) by omega),if_neg (show ¬op=5 by assumption),if_neg (show ¬(op=6\/op=7) by omega)] at hs
   exact hfin _ q [_] rfl hq.cands (by rw [hs];rfl) (by rw [hs])
section
variable {P:Program} {G:List (Nat × D)} {fn:Func} {rd:Bool} {E:En P G fn rd} {t:List (Nat × SV)} {H:List SObj} {k:List Item} {all:Array Oper} {rest:List Oper} {o:Oper}
theorem ylt {c:Call} {x:Operand} {ty kt et:TypeId} {b:Nat} {kk:IntKind} {es:List (Int × SV)} (hop:o.op= .call c) (hb:c.callee= .builtin .len) (ha:c.args.toList=[x]) (hty:c.argTypes.toList=[ty]) (hw:yq all t o.guard=some true) (hd:yv fn.ntmps o.dst=true)
  (hu:P.underlying ty=some (.map kt et)) (hx:zq G t x= .map b) (hm:H[b]?=some (.mapI kk es))
  (h:SWr E all rest k (wz t o.dst (.imm (.val (.int .i64 es.length)))) H):SWr E all (o::rest) k t H:=by
 refine zdn (H':=H) (r:=.imm (.val (.int .i64 es.length))) hw hd ?_ (Nat.le_refl _) h;have hs:ymx P ty H (.map b)=some es.length:=by
  unfold ymx;rw [hu];simp only [hm]
 obtain ⟨callee,args,argTypes⟩:=c;simp only at hb ha hty;subst hb;rw [hop];show zfe P .len (args.toList.map _) argTypes.toList H=_;rw [ha,hty];simp only [List.map_cons,List.map_nil,hx];simp only [zfe,hs,Option.map_some];rfl
end
theorem zli:∀(ks:List Ex) (q:Sr) (n:Int),(wo ks q n).2.1.conds=q.conds
 |[],_,_=>rfl
 |k::r,q,n=>by
  simp only [wo];split
  ·exact zli r q (n+1)
  ·split
   ·exact zli r (q.date k.n) n
   ·split
    ·exact zli r q n
    ·rfl
theorem zwq (q:Sr) (f g:Ex):(cmpCand q f g).conds=q.conds:=by
 unfold cmpCand;split
 ·rfl
 ·split<;>rfl
theorem yqc (q:Sr) (op:Int) (l r:Ex):(cmpOf q op [l,r]).2.2.conds=q.conds:=by
 have h1:=zli [l,r] q 0;unfold cmpOf;generalize wo [l,r] q 0=z at h1;obtain ⟨b,s1,n⟩:=z;simp only at h1;cases b with
 |false=>exact h1
 |true=>
  simp only;split
  ·exact h1
  ·split
   ·simp [zwq,h1]
   ·simp [zwq,h1]
theorem zcq:∀(N:Nat) (e:Ex) (q:Sr),SizeOf.sizeOf e<N->yiv e->(simpleOf e q).2.2.conds=q.conds
 |0,_,_,h,_=>by omega
 |N+1,.mk op n u den ps ks,q,hN,hf=>by
  unfold yiv at hf;obtain ⟨f1,f2,f3⟩:=hf;rw [zke]
  by_cases h1:op=1
  ·rw [if_pos h1]
  rw [if_neg h1]
  by_cases h2:op=2
  ·rw [if_pos h2];rfl
  rw [if_neg h2]
  by_cases h3:op=8\/op=9\/op=10
  ·rw [if_pos h3]
   obtain ⟨l,r,rfl,hl,hr⟩:=f2 h3;exact yqc q op l r
  rw [if_neg h3]
  by_cases h4:op=5
  ·rw [if_pos h4] at f3 ⊢
   match ks,f3,hN with
   |[k],f3,hN=>
    simp only [Ex.mk.sizeOf_spec,List.cons.sizeOf_spec] at hN;exact zcq N k q (by omega) f3.2
  rw [if_neg h4] at f3 ⊢
  by_cases h5:op=6\/op=7
  ·rw [if_pos h5] at f3 ⊢
   match ks,f3,hN with
   |[k,l],f3,hN=>
    simp only [Ex.mk.sizeOf_spec,List.cons.sizeOf_spec] at hN;exact (zcq N l _ (by omega) f3.2.2).trans (zcq N k q (by omega) f3.2.1)
  rw [if_neg h5]
theorem zik {l:List Int} {v:Int} (h:v∈Go.Lib.compact l):v∈l:=by
 unfold Go.Lib.compact Go.Lib.compactUpTo at h;obtain ⟨j,hj,rfl⟩:=List.mem_map.1 h;have hj:=List.mem_range.1 (List.mem_filter.1 hj).1;have:l.toArray[j]! =l[j]:=by simp [hj]
 rw [this];exact List.getElem_mem hj
def zil (m:List (Int × List Int)) (ks:List Int):Int:=ks.foldl (fun p f=>min (p*(((zx f m).getD []).length:Int)) 4097) 1
theorem yiw (m:List (Int × List Int)):∀(ks:List Int) (p:Int),0<=p/\p<=4097->0<=ks.foldl (fun p f=>min (p*(((zx f m).getD []).length:Int)) 4097) p/\ks.foldl (fun p f=>min (p*(((zx f m).getD []).length:Int)) 4097) p<=4097
 |[],_,h=>h
 |f::ks,p,h=>by
  have h1:=Int.mul_nonneg h.1 (Int.natCast_nonneg ((zx f m).getD []).length);refine yiw m ks _ ?_
  dsimp only
  omega
theorem yqd (m:List (Int × List Int)) (ks:List Int):0<=zil m ks/\zil m ks<=4097:=yiw m ks 1 (by decide)
theorem yqe (x:Int) (b:Nat) (hx:0<=x):min (min x 4097*(b:Int)) 4097=min (x*b) 4097:=by
 by_cases h:x<=4097
 ·rw [Int.min_eq_left h]
 ·have e:min x 4097=4097:=Int.min_eq_right (by omega)
  rw [e];rcases Nat.eq_zero_or_pos b with hb|hb
  ·rw [hb];simp
  ·have h1:(4097:Int)<=4097*b:=by omega
   have h2:(4097:Int)*b<=x*b:=Int.mul_le_mul_of_nonneg_right (by omega) (by omega);have e1:min ((4097:Int)*b) 4097=4097:=Int.min_eq_right h1;have e2:min (x*b) 4097=4097:=Int.min_eq_right (by omega);rw [e1,e2]
theorem yqf (p:Int) (hp:p<0) (a b:Nat):min (min (p*a) 4097*b) 4097=p*a*b:=by
 have h1:p*a<=0:=Int.mul_nonpos_of_nonpos_of_nonneg (by omega) (by omega);have h2:p*a*b<=0:=Int.mul_nonpos_of_nonpos_of_nonneg h1 (by omega);have e1:min (p*a) 4097=p*a:=Int.min_eq_left (by omega);rw [e1];exact Int.min_eq_left (by omega)
theorem yth (p:Int) (a b:Nat):min (min (p*a) 4097*b) 4097=min (min (p*b) 4097*a) 4097:=by
 by_cases hp:0<=p
 ·rw [yqe _ b (Int.mul_nonneg hp (by omega)),yqe _ a (Int.mul_nonneg hp (by omega)),Int.mul_assoc,Int.mul_assoc,Int.mul_comm (a:Int) b]
 ·rw [yqf p (by omega),yqf p (by omega),Int.mul_assoc,Int.mul_assoc,Int.mul_comm (a:Int) b]
theorem ylu {m:List (Int × List Int)} {k1 k2:List Int} (h:k1.Perm k2):zil m k1=zil m k2:=
 h.foldl_eq' (fun _ _ _ _ _=>yth _ _ _) _
theorem yqg {m:List (Int × List Int)} (hn:(m.map (·.1)).Nodup):zil m (m.map (·.1))=zhm m:=by
 have:∀(l:List (Int × List Int)) (p:Int),(∀e∈l,e∈m)->(l.map (·.1)).foldl (fun p f=>min (p*(((zx f m).getD []).length:Int)) 4097) p=l.foldl (fun p e=>min (p*(e.2.length:Int)) 4097) p:=by
  intro l
  induction l with
  |nil=>intro p _;rfl
  |cons e l ih=>
   intro p h;have he:zx e.1 m=some e.2:=zby hn (h e (List.mem_cons_self ..));simp only [List.map_cons,List.foldl_cons,he,Option.getD_some];exact ih _ fun x hx=>h x (List.mem_cons_of_mem _ hx)
 exact this m 1 fun _ h=>h
theorem ylv (m:List (Int × List Int)) (dn:List Int) (f:Int):zil m (dn++[f])=min (zil m dn*(((zx f m).getD []).length:Int)) 4097:=by
 simp [zil,List.foldl_append]
def ycn:Ex->Nat
 | .mk op _ _ _ _ ks=>if op=2 then 1 else if op=8\/op=9\/op=10 then 1 else match ks with
  |k::l::_=>ycn k+ycn l
  |[k]=>ycn k
  |[]=>0
def candB (q:Sr) (B:Nat):Prop:=∀e∈q.cands,e.2.length<=B
theorem candB.mono {q:Sr} {A B:Nat} (h:candB q A) (hl:A<=B):candB q B:=fun e he=>Nat.le_trans (h e he) hl
theorem zwr:∀(vs vals:List Int),(vs.foldl qx vals).length<=vals.length+vs.length
 |[],vals=>Nat.le_refl _
 |v::vs,vals=>by
  have:=zwr vs (qx vals v);have h:(qx vals v).length<=vals.length+1:=by
   unfold qx;split
   ·split
    ·omega
    ·simp
   ·omega
  simp only [List.foldl_cons,List.length_cons];omega
theorem candB.cand {q:Sr} {B:Nat} (h:candB q B) (f:Int) (vs:List Int):candB (q.cand f vs) (B+vs.length):=by
 intro e he;rcases zlf he with rfl|he
 ·have h1:=zwr vs ((zx f q.cands).getD [])
  have h2:((zx f q.cands).getD []).length<=B:=by
   cases hl:zx f q.cands with
   |none=>simp
   |some w=>exact h _ (zbn hl)
  simp only;omega
 ·have:=h e he
  omega
theorem candB.cmpCand {q:Sr} {B:Nat} (h:candB q B) (f g:Ex):candB (cmpCand q f g) (B+3):=by
 unfold Go.Proofs.YtblpjknmhajcgaaGreatDoor.cmpCand;split
 ·exact h.mono (by omega)
 ·split
  ·exact (h.cand _ _).mono (by simp)
  ·exact (h.cand _ _).mono (by simp)
theorem zlj:∀(ks:List Ex) (q:Sr) (n:Int),(wo ks q n).2.1.cands=q.cands
 |[],_,_=>rfl
 |k::r,q,n=>by
  simp only [wo];split
  ·exact zlj r q (n+1)
  ·split
   ·exact zlj r (q.date k.n) n
   ·split
    ·exact zlj r q n
    ·rfl
theorem candB.cmpOf {q:Sr} {B:Nat} (h:candB q B) (op:Int) (l r:Ex):candB (cmpOf q op [l,r]).2.2 (B+6):=by
 have h1:candB (wo [l,r] q 0).2.1 B:=by unfold candB;rw [zlj];exact h
 unfold Go.Proofs.YtblpjknmhajcgaaGreatDoor.cmpOf;generalize wo [l,r] q 0=z at h1;obtain ⟨b,s1,n⟩:=z;simp only at h1;cases b with
 |false=>exact h1.mono (by omega)
 |true=>
  simp only;split
  ·exact h1.mono (by omega)
  ·split
   ·exact ((h1.cmpCand l r).cmpCand r l).mono (by omega)
   ·exact ((h1.cmpCand l r).cmpCand r l).mono (by omega)
theorem zew:∀(N:Nat) (e:Ex) (q:Sr) (B:Nat),SizeOf.sizeOf e<N->yiv e->candB q B->candB (simpleOf e q).2.2 (B+6*ycn e)
 |0,_,_,_,h,_,_=>by omega
 |N+1,.mk op n u den ps ks,q,B,hN,hf,hq=>by
  unfold yiv at hf;obtain ⟨f1,f2,f3⟩:=hf;rw [zke];unfold ycn
  by_cases h1:op=1
  ·rw [if_pos h1];exact hq.mono (Nat.le_add_right _ _)
  rw [if_neg h1]
  by_cases h2:op=2
  ·rw [if_pos h2,if_pos h2];exact (hq.cand _ _).mono (by simp)
  rw [if_neg h2,if_neg h2]
  by_cases h3:op=8\/op=9\/op=10
  ·rw [if_pos h3,if_pos h3]
   obtain ⟨l,r,rfl,hl,hr⟩:=f2 h3;exact (hq.cmpOf op l r).mono (by omega)
  rw [if_neg h3,if_neg h3]
  by_cases h4:op=5
  ·rw [if_pos h4] at f3 ⊢
   match ks,f3,hN with
   |[k],f3,hN=>
    simp only [Ex.mk.sizeOf_spec,List.cons.sizeOf_spec] at hN;exact zew N k q B (by omega) f3.2 hq
  rw [if_neg h4] at f3 ⊢
  by_cases h5:op=6\/op=7
  ·rw [if_pos h5] at f3 ⊢
   match ks,f3,hN with
   |[k,l],f3,hN=>
    simp only [Ex.mk.sizeOf_spec,List.cons.sizeOf_spec] at hN;exact (zew N l _ _ (by omega) f3.2.2 (zew N k q B (by omega) f3.2.1 hq)).mono (by simp only;omega)
  rw [if_neg h5];exact hq.mono (Nat.le_add_right _ _)
structure FitC (c:Codex):Prop where
 fit:∀a∈c.arts,∀e∈a.when_,yiv e
 len:∀a∈c.arts,a.when_.length<=41
 cmps:∀a∈c.arts,∀e∈a.when_,zps e<=400
 lvs:∀a∈c.arts,∀e∈a.when_,ycn e<=400
theorem zvr (c : Codex) (hc : FitC c) (vs : List Int) (hv : ∀ v ∈ vs, 0 <= v /\ v < c.arts.length) (hvz : vs.length <= 100000) (hvl : (zr vs).length <= 60) :
    SCall Tryz.prog G 40 [c.sv, .imm (zi vs)] [] (fun r H' => match ws c vs with
      | some q => r = .tup [.ptr 2 0, sB true] /\ H' = NS c (zr vs) q
      | none => ∃ p, (p = .imm (.val (.pointer none)) \/ p = .ptr 2 0) /\ r = .tup [p, sB false]) := by
  refine xw Tryz.func40 rfl (by rw [Tryz.ntmps40]; simp) ?_
  intro E hH hK
  rw [show c.sv = .agg [.imm (zj c.facts), .imm (zj c.lines), .imm (yl c.arts)] from rfl]
  (refine zf ?_; conv => whnf)
  refine qb rfl rfl rfl rfl rfl rfl ((zzc G vs _ (by omega)).mono ?_)
  rintro r H' ⟨rfl, rfl⟩
  refine ⟨by rw [List.length_append]; exact Nat.le_add_right _ _, ?_⟩
  refine Eq.mpr (congrArg (fun h => SWr E _ _ _ _ h) (show _ = [zav c, yiu [], .cells [.imm (zj c.facts), .imm (zj c.lines), .imm (yl c.arts), .imm (.val (.slice none 0 0)), .imm (.val (.slice none 0 0)), .imm (.val (.slice none 0 0)), sB false, sB false, sB false, sB false, sB false, .map 1], .vec 1 (vs.map sI)] from rfl)) ?_
  (refine za ?_; conv => whnf)
  refine qb rfl rfl rfl rfl rfl rfl ((zpr G 3 vs [zav c, yiu [], .cells [.imm (zj c.facts), .imm (zj c.lines), .imm (yl c.arts), .vec 3 vs.length, .imm (.val (.slice none 0 0)), .imm (.val (.slice none 0 0)), sB false, sB false, sB false, sB false, sB false, .map 1], .vec 1 (vs.map sI)] rfl (by omega)).mono ?_)
  rintro r H' ⟨rfl, rfl⟩
  refine ⟨Nat.le_refl _, ?_⟩
  refine Eq.mpr (congrArg (fun h => SWr E _ _ _ _ h) (show _ = [zav c, yiu [], .cells [.imm (zj c.facts), .imm (zj c.lines), .imm (yl c.arts), .vec 3 vs.length, .imm (.val (.slice none 0 0)), .imm (.val (.slice none 0 0)), sB false, sB false, sB false, sB false, sB false, .map 1], .vec 1 ((zar vs).map sI)] from rfl)) ?_
  (refine za ?_; conv => whnf)
  have hsl : (zar vs).length = vs.length := by simp
  rw [<- hsl]
  refine qb rfl rfl rfl rfl rfl rfl ((ztq G 3 (zar vs) [zav c, yiu [], .cells [.imm (zj c.facts), .imm (zj c.lines), .imm (yl c.arts), .vec 3 (zar vs).length, .imm (.val (.slice none 0 0)), .imm (.val (.slice none 0 0)), sB false, sB false, sB false, sB false, sB false, .map 1], .vec 1 ((zar vs).map sI)] rfl (by omega)).mono ?_)
  rintro r H' ⟨rfl, rfl⟩
  refine ⟨Nat.le_refl _, ?_⟩
  have hvv : Go.Lib.compact (zar vs) = zr vs := rfl
  rw [hvv]
  have hvm : ∀ v ∈ zr vs, 0 <= v /\ v < c.arts.length := fun v hm => hv v ((List.mergeSort_perm vs fun x y => decide (x <= y)).mem_iff.1 (zik hm))
  generalize hver : zr vs = ver at hK hvl hvm ⊢
  refine Eq.mpr (congrArg (fun h => SWr E _ _ _ _ h) (show _ = [zav c, yiu [], .cells [.imm (zj c.facts), .imm (zj c.lines), .imm (yl c.arts), .vec 3 (zar vs).length, .imm (.val (.slice none 0 0)), .imm (.val (.slice none 0 0)), sB false, sB false, sB false, sB false, sB false, .map 1], .dead] from rfl)) ?_
  (refine za ?_; conv => whnf)
  refine zg [2, 4, 5, 6, 41, 42, 43] ?_
  change SW E _ [(2, .ptr 0 0), (4, .imm (.val (.pointer none))), (5, sB false), (6, .ptr 2 0), (41, .imm (zi ver)), (42, sI (ver.map fun n => [dI n]).length), (43, sI 0)] _
  refine yy [2, 4, 5, 6, 41, 42, 43] 3 (by rw [hH]; exact Nat.zero_le 3) (by exact (by decide : 3 <= 4)) rfl rfl ?_
  refine ylc 12 ?_
  refine zkz 2 4 1 (cs := [.imm (zj c.facts), .imm (zj c.lines), .imm (yl c.arts), .imm (zi ver), .imm (.val (.slice none 0 0)), .imm (.val (.slice none 0 0)), sB false, sB false, sB false, sB false, sB false, .map 1]) rfl rfl ?_
  refine zkz 2 5 5 (cs := [.imm (zj c.facts), .imm (zj c.lines), .imm (yl c.arts), .imm (zi ver), .asl 15 1 [], .imm (.val (.slice none 0 0)), sB false, sB false, sB false, sB false, sB false, .map 1]) rfl rfl ?_
  refine Eq.mpr (congrArg (fun h => SW E _ _ h) (show _ = NS c ver sr0 from rfl)) ?_
  change SW E _ [(2, .ptr 0 0), (4, .imm (.val (.pointer none))), (5, sB false), (6, .ptr 2 0), (41, .imm (zi ver)), (42, sI (ver.map fun n => [dI n]).length), (43, sI 0)] _
  have hml : (ver.map fun n => [dI n]).length = ver.length := by simp
  refine zo ver (fun i (_ : Sr) => [(2, .ptr 0 0), (4, .imm (.val (.pointer none))), (5, sB false), (6, .ptr 2 0), (41, .imm (zi ver)), (42, sI (ver.map fun n => [dI n]).length), (43, sI i)])
    (fun _ q => NS c ver q) (fun done rest q => SrK q /\ zbv c ver sr0 = zbv c rest q /\ q.conds.length <= done.length * 41 /\ q.atoms.length <= done.length * 16400 /\ candB q (done.length * 98400)) sr0 ⟨⟨⟨by simp [sr0], by simp [sr0]⟩, rfl⟩, rfl, by simp [sr0], by simp [sr0], by intro e he; cases he⟩ ?_ ?_
  · rintro q ⟨k1, k2, k3, k4, k5⟩
    simp only [zbv] at k2
    refine yid (b := 1) (es := zdw (fun n : Nat => SV.map n) (q.cands.map fun e => (e.1, 3 + e.1.toNat))) rfl ?_
    intro es' clock hes hst2
    (refine zf ?_; conv => whnf)
    repeat' ((with_reducible refine way ?_ ?_) <;> (intro h; conv => whnf))
    all_goals try (exfalso; omega)
    refine znx rfl rfl rfl rfl rfl rfl ?_
    (refine za ?_; conv => whnf)
    refine zg [4, 5, 6, 13, 82] ?_
    refine Eq.mpr (congrArg (fun h => SW E _ _ h) (show _ = (NS c ver q).set 1 (.pin .i64 es' clock) ++ [.iter 1 clock [] clock] from rfl)) ?_
    have aL : ((NS c ver q).set 1 (.pin .i64 es' clock)).length = 17 := by rw [List.length_set]; rfl
    have a1 : ((NS c ver q).set 1 (.pin .i64 es' clock))[1]? = some (.pin .i64 es' clock) := rfl
    have a2 : ((NS c ver q).set 1 (.pin .i64 es' clock))[2]? = some (.cells (yj c ver q)) := rfl
    have aF : ∀ f : Int, 0 <= f /\ f < 12 -> ((NS c ver q).set 1 (.pin .i64 es' clock))[3 + f.toNat]? = some (match zx f q.cands with | some vals => yvt vals | none => .free) := fun f hf => by
      rw [List.getElem?_set_ne (by omega)]; exact ycl hf
    have aU : ((NS c ver q).set 1 (.pin .i64 es' clock)).all (SObj.under 17) = true := zyx (zcf k1.cands.rng) (zoe (zwn k1.cands.rng) hes)
    have hk1 : es'.map (·.2.1) = q.cands.map (·.1) := by
      have : es'.map (·.2.1) = (es'.map (·.2)).map (·.1) := by rw [List.map_map]; rfl
      rw [this, hes]
      simp [zdw]
    have hk2 : ∀ x ∈ es', ∃ vals, (x.2.1, vals) ∈ q.cands /\ x.2.2 = .map (3 + x.2.1.toNat) := fun x hx => by
      have h1 : x.2 ∈ es'.map (·.2) := List.mem_map.2 ⟨x, hx, rfl⟩
      rw [hes] at h1
      simp only [zdw, List.map_map, List.mem_map] at h1
      obtain ⟨e, he, h2⟩ := h1
      refine ⟨e.2, ?_, ?_⟩
      · rw [<- h2]; exact he
      · rw [<- h2]; rfl
    change SW E _ [(4, .imm (.val (.pointer none))), (5, sB false), (6, .ptr 2 0), (13, sI (zil q.cands [])), (82, .ptr 17 0)] _
    generalize hAA : (NS c ver q).set 1 (.pin .i64 es' clock) = A at aL a1 a2 aF aU ⊢
    refine xc (σ := List Nat × List Int) (fun x => [(4, .imm (.val (.pointer none))), (5, sB false), (6, .ptr 2 0), (13, sI (zil q.cands x.2)), (82, .ptr 17 0)]) (fun x => A ++ [.iter 1 clock x.1 clock])
      (fun x => (x.2 ++ (zdc es' x.1).map (·.2.1)).Perm (es'.map (·.2.1))) (fun x => (zdc es' x.1).length) ?_ ([], []) (by simp [zny])
    rintro ⟨seen, dn⟩ hp2 ih2
    simp only at hp2 ih2
    show SW E _ _ (A ++ [.iter 1 clock seen clock])
    (refine zf ?_; conv => whnf)
    refine zrs rfl rfl rfl rfl (by rw [List.getElem?_append_right (by omega), aL]; rfl) (by rw [List.getElem?_append_left (by omega)]; exact a1) hst2 (Nat.le_refl _) (fun h0 => ?_) (fun e he => ?_)
    · have hdn : dn.Perm (q.cands.map (·.1)) := by
        rw [h0, hk1] at hp2
        simpa using hp2
      have hpk : zil q.cands dn = zhm q.cands := (ylu hdn).trans (yqg k1.cands.nd)
      rw [hpk]
      refine jx (fun k h => zys (b := 1) (kk := .i64) (es := es') (clock := clock) (by rw [List.getElem?_append_left (by omega)]; exact a1) h) ?_
      have hun : (A ++ [SObj.iter 1 clock seen clock]).set 1 (.mapI .i64 (es'.map (·.2))) = NS c ver q ++ [SObj.iter 1 clock seen clock] := by
        rw [List.set_append_left _ _ (by omega), <- hAA, List.set_set, hes]
        rfl
      rw [hun]
      refine jx (t' := [(83, .tup [.imm (.val (.bool false))]), (6, .ptr 2 0), (13, sI (zhm q.cands))]) (H' := NS c ver q) (fun k h => zg [83, 6, 13] (yhi 17 (by rw [hH]; exact Nat.zero_le 17) (by rw [List.length_append]; show 17 <= 17 + 1; decide) rfl (zcf k1.cands.rng) h)) ?_
      (refine za ?_; conv => whnf)
      refine hK _ _ ?_
      have hsr : ws c vs = if zhm q.cands <= 4096 then some q else none := by rw [ws, hver, k2]
      rw [hsr]
      by_cases hp : zhm q.cands <= 4096
      · rw [if_pos hp]
        refine ⟨?_, rfl⟩
        show SV.tup [.ptr 2 0, sB (decide (zhm q.cands <= 4096))] = _
        rw [decide_eq_true hp]
      · rw [if_neg hp]
        refine ⟨.ptr 2 0, .inr rfl, ?_⟩
        show SV.tup [.ptr 2 0, sB (decide (zhm q.cands <= 4096))] = _
        rw [decide_eq_false hp]
    · rw [List.set_append_right _ _ (by omega), aL]
      obtain ⟨e1, f, e3⟩ := e
      have hperm := zla hst2.1 he
      have hpl := hperm.length_eq
      have hpm := hperm.map (·.2.1)
      simp only [List.map_cons, List.length_cons] at hpm hpl
      obtain ⟨vals, hv1, hv2⟩ := hk2 _ (zhn he)
      simp only at hv1 hv2
      have hfr := k1.cands.rng _ hv1
      simp only at hfr
      have hlk := zby k1.cands.nd hv1
      have hvl2 := k5 _ hv1
      simp only at hvl2
      subst hv2
      (refine we [777, 85] 1000 ?_; conv => whnf)
      refine znz rfl rfl rfl rfl (by rw [List.getElem?_append_right (by omega), aL]; rfl) (by rw [List.getElem?_append_left (by omega)]; exact a1) (zhn he) ?_
      (refine we [777, 89] 1000 ?_; conv => whnf)
      refine ylt (b := 3 + f.toNat) (kk := .i64) (es := zdw sB (vals.map fun v => (v, true))) rfl rfl rfl rfl rfl rfl rfl rfl (by rw [List.getElem?_append_left (by omega), aF f hfr, hlk]; rfl) ?_
      rw [show (zdw sB (vals.map fun v => (v, true))).length = vals.length by simp [zdw]]
      (refine za ?_; conv => whnf)
      have hpr := yqd q.cands dn
      have hpr2 : 0 <= zil q.cands dn * (vals.length : Int) := Int.mul_nonneg hpr.1 (by omega)
      have hpr3 : zil q.cands dn * (vals.length : Int) <= 4097 * (vals.length : Int) := Int.mul_le_mul_of_nonneg_right hpr.2 (by omega)
      have hsn := ylv q.cands dn f
      rw [hlk, Option.getD_some] at hsn
      have hmin : (if 4097 < IntKind.i64.wrap (zil q.cands dn * (vals.length : Int)) then (4097 : Int) else IntKind.i64.wrap (zil q.cands dn * (vals.length : Int))) = zil q.cands (dn ++ [f]) := by
        rw [yz (c := zil q.cands dn * (vals.length : Int)) (by omega) (by omega), hsn]
        split <;> omega
      refine zg [4, 5, 6, 13, 82] ?_
      change SW E _ [(4, .imm (.val (.pointer none))), (5, sB false), (6, .ptr 2 0), (13, sI (if 4097 < IntKind.i64.wrap (zil q.cands dn * (vals.length : Int)) then (4097 : Int) else IntKind.i64.wrap (zil q.cands dn * (vals.length : Int)))), (82, .ptr 17 0)] _
      rw [hmin]
      refine yy [4, 5, 6, 13, 82] 18 (by rw [hH]; exact Nat.zero_le 18) (by simp [aL]) rfl ?_ ?_
      · rw [List.take_of_length_le (by simp [aL]), List.all_append, xy (m := 17) (by omega) aU]
        rfl
      · rw [List.take_of_length_le (by simp [aL])]
        exact ih2 (seen ++ [e1], dn ++ [f]) (by
          refine List.Perm.trans ?_ hp2
          simp only [List.append_assoc, List.cons_append, List.nil_append]
          exact (List.Perm.refl dn).append hpm.symm) (by simp only; omega)
  · rintro done v rest q ha hlen ⟨k1, k2, k3, k4, k5⟩ ih
    have hw := zk (n := done.length) (by omega)
    have hrow : (ver.map fun n => [dI n])[((done.length : Nat) : Int).toNat]? = some [dI v] := by simp [ha]
    obtain ⟨hv0, hv1⟩ := hvm v (by rw [ha]; simp)
    (refine zf ?_; conv => whnf)
    repeat' ((with_reducible refine way ?_ ?_) <;> (intro h; conv => whnf))
    all_goals try (exfalso; omega)
    refine zh rfl rfl  hrow ?_
    (refine za ?_; conv => whnf)
    obtain ⟨a, haa⟩ : ∃ a, c.arts[v.toNat]? = some a := ⟨_, List.getElem?_eq_getElem (by omega)⟩
    have hmem := List.mem_of_getElem? haa
    have hat : qj c v = some a := by unfold qj; rw [if_neg (by omega)]; exact haa
    obtain ⟨op, n, u, den, ps, ks, hamt⟩ : ∃ op n u den ps ks, a.amount = .mk op n u den ps ks := by cases h : a.amount; exact ⟨_, _, _, _, _, _, rfl⟩
    have hrw : (c.arts.map Article.cells)[v.toNat]? = some [dI a.number, dI a.line, dI a.rank, dI a.lo, dI a.hi, dI a.known, ye a.when_, zi a.unless_, dI op, dI n, dS u, dI den, .isl 3 (ps.map Piece.cells), .isl 6 (zd ks)] := by
      rw [List.getElem?_map, haa]
      simp [Article.cells, hamt, zp, Ex.op, Ex.n, Ex.unit, Ex.den, Ex.pieces, Ex.kids]
    refine zh rfl  (Int.toNat_of_nonneg hv0).symm (row := [dI a.number, dI a.line, dI a.rank, dI a.lo, dI a.hi, dI a.known, ye a.when_, zi a.unless_, dI op, dI n, dS u, dI den, .isl 3 (ps.map Piece.cells), .isl 6 (zd ks)]) hrw ?_
    (refine za ?_; conv => whnf)
    have hwl : (a.when_.map Ex.cells).length = a.when_.length := by simp
    have hl1 := hc.len a hmem
    refine zg [2, 4, 5, 6, 41, 42, 43, 52, 53, 54] ?_
    refine zo a.when_ (fun i (_ : Sr) => [(2, .ptr 0 0), (4, .imm (.val (.pointer none))), (5, sB false), (6, .ptr 2 0), (41, .imm (zi ver)), (42, sI (ver.map fun n => [dI n]).length), (43, sI done.length), (52, .imm (ye a.when_)), (53, sI (a.when_.map Ex.cells).length), (54, sI i)])
      (fun _ q' => NS c ver q') (fun dn rs q' => SrK q' /\ zfd a.when_ q = zfd rs q' /\ q'.conds.length <= q.conds.length + dn.length /\ q'.atoms.length <= q.atoms.length + dn.length * 400 /\ candB q' (done.length * 98400 + dn.length * 2400)) q ⟨k1, rfl, by simp, by simp, by simpa using k5⟩ ?_ ?_
    · rintro q' ⟨m1, m2, m3, m4, m5⟩
      simp only [zfd] at m2
      (refine zf ?_; conv => whnf)
      repeat' ((with_reducible refine way ?_ ?_) <;> (intro h; conv => whnf))
      all_goals try (exfalso; omega)
      rw [hw]
      refine zg [2, 4, 5, 6, 41, 42, 43] ?_
      refine ih q' ⟨m1, ?_, ?_, ?_, ?_⟩
      · rw [k2, zbv, hat]
        simp only [m2]
      · simp only [List.length_append, List.length_cons, List.length_nil]; omega
      · simp only [List.length_append, List.length_cons, List.length_nil]; omega
      · exact m5.mono (by simp only [List.length_append, List.length_cons, List.length_nil]; omega)
    · rintro dn x rs q' hda hdl ⟨m1, m2, m3, m4, m5⟩ ih2
      have hw2 := zk (n := dn.length) (by omega)
      have hrow2 : (a.when_.map Ex.cells)[((dn.length : Nat) : Int).toNat]? = some x.cells := by simp [hda]
      have hfx := hc.fit a hmem x (by rw [hda]; simp)
      have hcx := hc.cmps a hmem x (by rw [hda]; simp)
      have hsx : q'.atoms.length + zps x <= 1000000000 := by omega
      have hsim := zfp G c ver _ x q' (Nat.lt_succ_self _) hfx m1 hsx
      have hkp := jh _ x q' (Nat.lt_succ_self _) hfx m1
      have hcb := zew _ x q' _ (Nat.lt_succ_self _) hfx m5
      have hlx := hc.lvs a hmem x (by rw [hda]; simp)
      rw [zfd] at m2
      have hcds := congrArg List.length (zcq _ x q' (Nat.lt_succ_self _) hfx)
      generalize simpleOf x q' = z at hsim hkp m2 hcds hcb
      obtain ⟨cd, b, q2⟩ := z
      obtain ⟨xo, xn, xu, xd, xp, xk⟩ := x
      (refine zf ?_; conv => whnf)
      repeat' ((with_reducible refine way ?_ ?_) <;> (intro h; conv => whnf))
      all_goals try (exfalso; omega)
      refine zh rfl rfl  (row := (Ex.mk xo xn xu xd xp xk).cells) hrow2 ?_
      (refine za ?_; conv => whnf)
      refine xm 17 rfl rfl rfl rfl rfl rfl hsim ?_
      rintro r9 H9 ⟨rfl, rfl⟩ _
      rcases zoi cd with hcd | ⟨t9, y9, hcd⟩ <;> simp only [hcd] <;> cases b <;> ((refine za ?_; conv => whnf))
      all_goals try (
        refine hK _ _ ?_
        have e1 : zfd a.when_ q = none := m2
        have e2 : zbv c ver sr0 = none := by rw [k2, zbv, hat]; simp only [e1]
        have e3 : ws c vs = none := by rw [ws, hver, e2]
        rw [e3]
        exact ⟨_, .inl rfl, rfl⟩)
      all_goals
        simp only at m2 hkp hcds hcb
        refine wm (b := 15) (kk := 1) (rows := q2.conds.map fun c => [c.d]) (new := [[_]]) rfl ⟨by decide, rfl⟩ (by show some (SObj.tok 1 q2.conds.length) = _; rw [List.length_map]) (by rw [List.length_map]; simp only [List.length_cons, List.length_nil]; omega) ?_
        have e5 : (q2.conds.map fun c => [c.d]) ++ [[cd.d]] = (q2.conds ++ [cd]).map fun c => [c.d] := by simp
        have e6 : (q2.conds.map fun c => [c.d]).length + [[cd.d]].length = (q2.conds ++ [cd]).length := by simp
        rw [hcd] at e5 e6
        refine Eq.mpr (congrArg (fun v => SWr E _ _ _ (wz _ _ (.asl 15 1 v)) _) e5) ?_
        refine Eq.mpr (congrArg (fun v => SWr E _ _ _ _ (List.set _ 15 (.tok 1 v))) e6) ?_
        (refine za ?_; conv => whnf)
        rw [hw2]
        refine yy [2, 4, 5, 6, 41, 42, 43, 52, 53, 54] 17 (by rw [hH]; exact Nat.zero_le 17) (by exact (by decide : 17 <= 18)) rfl (zcf (q := { q2 with conds := q2.conds ++ [cd] }) hkp.1.cands.rng) ?_
        refine ih2 { q2 with conds := q2.conds ++ [cd] } ⟨⟨hkp.1.cands, hkp.1.dates⟩, m2, ?_, ?_, ?_⟩
        · simp only [List.length_append, List.length_cons, List.length_nil]; omega
        · simp only [List.length_append, List.length_cons, List.length_nil]; omega
        · exact candB.mono (q := { q2 with conds := q2.conds ++ [cd] }) hcb (by simp only [List.length_append, List.length_cons, List.length_nil]; omega)
end Go.Proofs.YtblpjknmhajcgaaGreatDoor