/- Contracts of functions of the program, joined from TEf, TEh, TDa, TDb, TCa, TCb, TBg, TCd, THb, TDc, TEi, THc, THd, THe, THf, TVa, THp, TDd, TSh48, TEj, TQe, TDe, TEk, TEl, TDf, TQf, TQg, TEn, TEm: no condition. -/
import Derived.Test.YtblpjknmhajcgaaGreatDoorCR5
set_option linter.unusedSimpArgs false
set_option linter.unusedVariables false
set_option maxRecDepth 10000
set_option maxHeartbeats 8000000
namespace Go.Proofs.YtblpjknmhajcgaaGreatDoor
open Go Go.Sh
variable (G:List (Nat × D))
theorem zsa {P:Program} {G:List (Nat × D)} {fn:Func} {rd:Bool} {E:En P G fn rd} {α:Type} {T:α->List (Nat × SV)} {H:List SObj} {x:α} {R:Prop} {k:List Item} (h1:(∀v,v=x->SW E k (T v) H)->R) (h2:SW E k (T x) H):R:=h1 fun _ e=>e ▸ h2
theorem ydc (c:Codex) (f op n:Int) (l:List Int):(zdm c f op n l).length<=l.length+2:=by
 unfold zdm;have h1:=zlr l 0;have h2:=zlr (zol l 0) 1;split
 ·split<;>omega
 ·omega
theorem zum (c:Codex) (f op:Int) (k o:Ex) (l:List Int):(zgl c f op k o l).length<=l.length+2:=by
 unfold zgl;have h1:=zlr l o.n;have h2:=zlr (zol l o.n) (o.n+1);split<;>omega
theorem zkn (c:Codex) (f:Int):∀(N:Nat) (e:Ex),SizeOf.sizeOf e<N->∀l:List Int,(candE c f e l).length<=l.length+8*yx e
 |0,_,h,_=>by omega
 |N+1,.mk op n u den ps ks,hN,l=>by
  simp only [Ex.mk.sizeOf_spec] at hN;have hf:=ydc c f op n l;rw [candE.eq_def,yx]
  match ks,hN with
  |[],_=>simp only;omega
  |[k],hN=>
   simp only [List.cons.sizeOf_spec] at hN;have:=zkn c f N k (by omega) (zdm c f op n l);simp only [yb];omega
  |[k,r],hN=>
   simp only [List.cons.sizeOf_spec] at hN;have h1:=zkn c f N k (by omega) (zdm c f op n l);have h2:=zum c f op k r (candE c f k (zdm c f op n l));have h3:=zkn c f N r (by omega) (zgl c f op k r (candE c f k (zdm c f op n l)));have h4:=zum c f op r k (candE c f r (zgl c f op k r (candE c f k (zdm c f op n l))));simp only [yb];omega
  |_::_::_::_,_=>simp only;omega
def ydd (c:Codex) (f op:Int):List Ex->List Ex->List Int->List Int
 |k::r,o::os,l=>ydd c f op r os (zgl c f op k o (candE c f k l))
 |_,_,l=>l
theorem zlv {c:Codex} {f op n:Int} {u:ByteArray} {den:Int} {ps:List Piece} {ks:List Ex} (h:ks=[]\/(∃k,ks=[k]/\zcj op=false)\/∃k r,ks=[k,r]) (l:List Int):
  ydd c f op ks ks.reverse (zdm c f op n l)=candE c f (.mk op n u den ps ks) l:=by
 rw [candE.eq_def];rcases h with rfl|⟨k,rfl,hc⟩|⟨k,r,rfl⟩
 ·rfl
 ·show zgl c f op k k (candE c f k (zdm c f op n l))=_
  rw [zzo hc]
 ·rfl
theorem yqx {c:Codex} {f op:Int} {k o:Ex} {l:List Int} (h:¬(zcj op=true/\k.op=2/\k.n=f/\o.op=1/\zoy c f=false)):zgl c f op k o l=l:=by unfold zgl;rw [if_neg h]
theorem ytl {c:Codex} {f op:Int} {k o:Ex} {l:List Int} (h:zcj op=true/\k.op=2/\k.n=f/\o.op=1/\zoy c f=false):zgl c f op k o l=zol (zol l o.n) (o.n+1):=by unfold zgl;rw [if_pos h]
theorem yqy (c:Codex) (f op:Int) (os:List Ex) (l:List Int):ydd c f op [] os l=l:=by cases os<;>rfl
theorem zee (c:Codex) {m:List (Int × Int)} {f:Int} (hf:0<=f/\f<c.facts.length) (op n:Int) (u:ByteArray) (den:Int) (ps:List Piece) (ks:List Ex) (l:List Int) (hz:l.length+10*yx (.mk op n u den ps ks)<=100000000)
  (ha:∀k∈ks,zfj c m k) (hk:∀k∈ks,∀l':List Int,l'.length+10*yx k<=100000000->zw Tryz.prog G 55 [c.sv,k.sv,sI f,.imm (zi l')] (.imm (zi (candE c f k l')))):
  zw Tryz.prog G 55 [c.sv,(Ex.mk op n u den ps ks).sv,sI f,.imm (zi l)] (.imm (zi (ydd c f op ks ks.reverse (zdm c f op n l)))):=by
 have hlen:(zd ks).length=ks.length:=by rw [zp];simp
 rw [yx] at hz;have hle:=zch ks;obtain ⟨d,hd⟩:∃d,c.facts[f.toNat]?=some d:=⟨_,List.getElem?_eq_getElem (by omega)⟩;have hrow:(c.facts.map Decl.cells)[f.toNat]?=some [dS d.name,dS d.unit,dI d.role]:=by simp [hd,Decl.cells]
 have hT:zoy c f=decide (d.unit=tT):=by unfold zoy;rw [hd]
 have hcmp:=zas G op;have hfl:=ydc c f op n l;rw [show c.sv= .agg [.imm (zj c.facts),.imm (zj c.lines),.imm (yl c.arts)] from rfl] at hk ⊢;obtain ⟨b,hb⟩:∃b,b=zcj op:=⟨_,rfl⟩;rw [<-hb] at hcmp;obtain ⟨l1,hl1⟩:∃l1,l1=zdm c f op n l:=⟨_,rfl⟩;rw [<-hl1] at hfl ⊢;refine zc Tryz.func55 rfl (by rw [Tryz.ntmps55];simp) rfl rfl ?_;intro E hH hK
 apply zsa (T:=fun v:List Int=>[(2,sI f),(3,.imm (zi v)),(4,.ptr 0 0),(5,.ptr 1 0),(9,sB b),(10,sI 0)]) (H:=[.cells [.imm (zj c.facts),.imm (zj c.lines),.imm (yl c.arts)],.cells [sI op,sI n,sS u,sI den,.imm (.isl 3 (ps.map Piece.cells)),.imm (.isl 6 (zd ks))]]) (x:=l1)
 case h1=>
  intro key
  by_cases hA:op=2/\n=f
  ·have hp0:=zlu G l 0 (by omega)
   have hp1:=zlu G (zol l 0) 1 (by have:=zlr l 0;omega);(refine zf ?_;conv=>whnf)
   repeat' ((with_reducible refine way ?_ ?_)<;>(intro h;conv=>whnf))
   all_goals try (exfalso;omega)
   refine ze rfl  hp0 ?_;(refine za ?_;conv=>whnf);refine zh (i:=f.toNat) rfl (by omega) hrow ?_;(refine za ?_;conv=>whnf)
   repeat' ((with_reducible refine way ?_ ?_)<;>(intro h;conv=>whnf))
   ·have ht:=h
    have e0:zol (zol l 0) 1=l1:=by rw [hl1];unfold zdm;rw [if_pos hA,if_pos (hT.trans (decide_eq_true (p:=d.unit=tT) ht))]
    refine ze rfl  hp1 ?_;(refine za ?_;conv=>whnf);refine ze rfl  hcmp ?_;(refine za ?_;conv=>whnf);refine zg [2,3,4,5,9,10] ?_;exact key _ e0
   ·have ht:=h
    have e0:zol l 0=l1:=by rw [hl1];unfold zdm;rw [if_pos hA,if_neg (by rw [hT,decide_eq_false (p:=d.unit=tT) ht];simp)]
    refine ze rfl  hcmp ?_;(refine za ?_;conv=>whnf);refine zg [2,3,4,5,9,10] ?_;exact key _ e0
  ·have e0:l=l1:=by rw [hl1];unfold zdm;rw [if_neg hA]
   (refine zf ?_;conv=>whnf)
   repeat' ((with_reducible refine way ?_ ?_)<;>(intro h;conv=>whnf))
   all_goals try (exfalso;omega)
   all_goals refine ze rfl  hcmp ?_
   all_goals (refine za ?_;conv=>whnf)
   all_goals refine zg [2,3,4,5,9,10] ?_
   all_goals exact key _ e0
 case h2=>
  refine zo ks (fun i (v:List Int)=>[(2,sI f),(3,.imm (zi v)),(4,.ptr 0 0),(5,.ptr 1 0),(9,sB b),(10,sI i)]) (fun _ _=>[.cells [.imm (zj c.facts),.imm (zj c.lines),.imm (yl c.arts)],.cells [sI op,sI n,sS u,sI den,.imm (.isl 3 (ps.map Piece.cells)),.imm (.isl 6 (zd ks))]])
   (fun done rest v=>ydd c f op ks ks.reverse l1=ydd c f op rest (ks.reverse.drop done.length) v/\v.length+10*yb rest<=100000000) l1 ⟨rfl,by omega⟩ ?_ ?_
  ·rintro v ⟨h1,_⟩
   rw [h1,yqy] at hK;(refine zf ?_;conv=>whnf)
   repeat' ((with_reducible refine way ?_ ?_)<;>(intro h;conv=>whnf))
   all_goals try (exfalso;omega)
   exact hK _
  ·rintro done x rest v hda hdl ⟨h1,h2⟩ ih
   have hw:=zk (n:=done.length) (by omega);obtain ⟨o,ho⟩:∃o,ks.reverse[done.length]?=some o:=⟨_,List.getElem?_eq_getElem (by simp;omega)⟩;have hoi:ks[ks.length-1-done.length]?=some o:=by rw [<-ho,List.getElem?_reverse (by omega)]
   have hstep:ydd c f op ks ks.reverse l1=ydd c f op rest (ks.reverse.drop (done++[x]).length) (zgl c f op x o (candE c f x v)):=by
    obtain ⟨hlt,hoe⟩:=List.getElem?_eq_some_iff.1 ho;rw [h1,List.drop_eq_getElem_cons hlt,hoe,List.length_append];rfl
   rw [yb] at h2;have hx1:=zwg x;have hcl:=zkn c f _ x (Nat.lt_succ_self _) v;have hsl:=zum c f op x o (candE c f x v);have hcall:=hk x (by rw [hda];simp) v (by omega);have hao:=ha o (List.mem_of_getElem? hoi);have hrx:(zd ks)[done.length]?=some x.cells:=by rw [zp];simp [hda]
   have hro:(zd ks)[ks.length-1-done.length]?=some o.cells:=by rw [zp];simp [hoi]
   generalize hV:candE c f x v=v2 at hcall hcl hsl hstep;have fin:∀v3,v3=zgl c f op x o v2->SW E _ _ _:=fun v3 h3=>ih v3 ⟨by rw [h3];exact hstep,by rw [h3];omega⟩
   obtain ⟨xop,xn,xu,xden,xps,xks⟩:=x;obtain ⟨oop,on,ou,oden,ops,oks⟩:=o;have fin2:¬(zcj op=true/\xop=2/\xn=f/\oop=1/\zoy c f=false)->SW E _ _ _:=fun hn=>fin v2 (yqx hn).symm
   (refine zf ?_;conv=>whnf)
   repeat' ((with_reducible refine way ?_ ?_)<;>(intro h;conv=>whnf))
   all_goals try (exfalso;omega)
   (refine zu 0 mixed rfl ?_;refine zb [777] (nx:=2) ?_;conv=>whnf);refine zt (i:=done.length) (row:=[dI xop,dI xn,dS xu,dI xden,.isl 3 (xps.map Piece.cells),.isl 6 (zd xks)]) rfl (show 2<=2 by decide) rfl hrx ?_;(refine zb [777] (nx:=2) ?_;conv=>whnf);refine yi rfl (show 2<=2 by decide) hcall ?_;(refine zb [777,3] (nx:=2) ?_;conv=>whnf);refine qp ⟨.imm (zi v2),[],none⟩ rfl rfl (show 2<=2 by decide) (fun _ _ _=>rfl) ?_;refine qt (by kernel_rfl) ?_;(refine zf ?_;conv=>whnf);refine zh (i:=ks.length-1-done.length) (row:=[dI oop,dI on,dS ou,dI oden,.isl 3 (ops.map Piece.cells),.isl 6 (zd oks)]) rfl (by rw [hlen,yz (c:=(ks.length:Int)-1) (by omega) (by omega),yz (c:=(ks.length:Int)-1-(done.length:Int)) (by omega) (by omega)];omega) hro ?_;(refine za ?_;conv=>whnf);cases b<;>(conv=>whnf)
   ·rw [hw]
    exact yy [2,3,4,5,9,10] 2 (by rw [hH];exact Nat.zero_le 2) (Nat.succ_le_succ (Nat.succ_le_succ (Nat.zero_le _))) rfl rfl (fin2 fun hh=>by rw [<-hb] at hh;cases hh.1)
   refine zh (i:=done.length) (row:=[dI xop,dI xn,dS xu,dI xden,.isl 3 (xps.map Piece.cells),.isl 6 (zd xks)]) rfl rfl hrx ?_;(refine za ?_;conv=>whnf)
   repeat' ((with_reducible refine way ?_ ?_)<;>(intro h;conv=>whnf))
   ·have g2:=h
    refine zh (i:=done.length) (row:=[dI xop,dI xn,dS xu,dI xden,.isl 3 (xps.map Piece.cells),.isl 6 (zd xks)]) rfl rfl hrx ?_;(refine za ?_;conv=>whnf)
    repeat' ((with_reducible refine way ?_ ?_)<;>(intro h;conv=>whnf))
    ·have g3:xn=f:=by assumption
     have g4:oop=1:=by assumption
     refine zh (i:=f.toNat) rfl (by omega) hrow ?_;(refine za ?_;conv=>whnf)
     repeat' ((with_reducible refine way ?_ ?_)<;>(intro h;conv=>whnf))
     ·have g5:¬d.unit=tT:=h
      have hon:0<=on/\on<=999999999999:=by
       unfold zfj at hao;exact zww hao.1 g4
      have hwon:IntKind.i64.wrap (on+1)=on+1:=yz (by omega) (by omega);have hq1:=zlu G v2 on (by omega);have hq2:=zlu G (zol v2 on) (on+1) (by have:=zlr v2 on;omega);rw [<-hwon] at hq2
      have fin3:=fin (zol (zol v2 on) (IntKind.i64.wrap (on+1))) (by
       rw [hwon]
       exact (ytl (k:=.mk xop xn xu xden xps xks) (o:=.mk oop on ou oden ops oks) ⟨hb.symm,g2,g3,g4,by rw [hT];exact decide_eq_false g5⟩).symm)
      (refine zu 0 mixed rfl ?_;refine zb [777] (nx:=3) ?_;conv=>whnf);refine yi rfl (show 3<=3 by decide) hq1 ?_;(refine zb [777] (nx:=3) ?_;conv=>whnf);refine yi rfl (show 3<=3 by decide) hq2 ?_;(refine zb [777,3] (nx:=3) ?_;conv=>whnf);refine qp ⟨.imm (zi (zol (zol v2 on) (IntKind.i64.wrap (on+1)))),[],none⟩ rfl rfl (show 3<=3 by decide) (fun _ _ _=>rfl) ?_;refine qt (by kernel_rfl) ?_;(refine zf ?_;conv=>whnf);rw [hw];exact yy [2,3,4,5,9,10] 2 (by rw [hH];exact Nat.zero_le 2) (Nat.succ_le_succ (Nat.succ_le_succ (Nat.zero_le _))) rfl rfl fin3
     ·have g5:d.unit=tT:=h
      rw [hw];exact yy [2,3,4,5,9,10] 2 (by rw [hH];exact Nat.zero_le 2) (Nat.succ_le_succ (Nat.succ_le_succ (Nat.zero_le _))) rfl rfl (fin2 fun hh=>by have:=hh.2.2.2.2;rw [hT,decide_eq_true g5] at this;cases this)
    ·rw [hw]
     exact yy [2,3,4,5,9,10] 2 (by rw [hH];exact Nat.zero_le 2) (Nat.succ_le_succ (Nat.succ_le_succ (Nat.zero_le _))) rfl rfl (fin2 fun hh=>absurd hh.2.2.2.1 h)
    ·rw [hw]
     exact yy [2,3,4,5,9,10] 2 (by rw [hH];exact Nat.zero_le 2) (Nat.succ_le_succ (Nat.succ_le_succ (Nat.zero_le _))) rfl rfl (fin2 fun hh=>absurd hh.2.2.1 h)
   ·rw [hw]
    exact yy [2,3,4,5,9,10] 2 (by rw [hH];exact Nat.zero_le 2) (Nat.succ_le_succ (Nat.succ_le_succ (Nat.zero_le _))) rfl rfl (fin2 fun hh=>absurd hh.2.1 h)
theorem zun (c:Codex) {m:List (Int × Int)} {f:Int} (hf:0<=f/\f<c.facts.length) (k:Ex) (hk:LeafE c k) (l:List Int) (hz:l.length+10*yx k<=100000000):
  zw Tryz.prog G 55 [c.sv,k.sv,sI f,.imm (zi l)] (.imm (zi (candE c f k l))):=by
 obtain ⟨op,n,u,den,ps,ks⟩:=k;have hks:ks=[]:=hk.no;subst hks;rw [<-zlv (.inl rfl)];exact zee G c (m:=m) hf op n u den ps [] l hz (fun k h=>by cases h) (fun k h=>by cases h)
theorem zis (c:Codex) {m:List (Int × Int)} {f:Int} (hf:0<=f/\f<c.facts.length):∀(N:Nat) (e:Ex),SizeOf.sizeOf e<N->zfj c m e->e.unit=tT->simpE c e=true->∀l:List Int,l.length+10*yx e<=100000000->
  zw Tryz.prog G 55 [c.sv,e.sv,sI f,.imm (zi l)] (.imm (zi (candE c f e l)))
 |0,_,h,_,_,_,_,_=>by omega
 |N+1,.mk op n u den ps ks,hN,h,hu,hs,l,hz=>by
  simp only [Ex.mk.sizeOf_spec] at hN;have hu:u=tT:=hu;have hks:∀k∈ks,zfj c m k:=by unfold zfj at h;exact qv h.2
  cases zfk h hu with
  |const h1 hk hu'=>
   subst hk;rw [<-zlv (.inl rfl)];exact zee G c hf op n u den ps [] l hz hks (fun k h=>by cases h)
  |fact h1 hk hr ht=>
   subst hk;rw [<-zlv (.inl rfl)];exact zee G c hf op n u den ps [] l hz hks (fun k h=>by cases h)
  |neg k h1 hk hka hku=>
   subst h1 hk;simp only [List.cons.sizeOf_spec] at hN;have hsk:simpE c k=true:=by
    rw [simpE.eq_def] at hs;simpa only [show ¬(5:Int)=1 by decide,show ¬(5:Int)=2 by decide,if_false,if_true] using hs
   rw [<-zlv (.inr (.inl ⟨k,rfl,rfl⟩))];refine zee G c hf 5 n u den ps [k] l hz hks fun x hx l' hl'=>?_
   simp only [List.mem_singleton] at hx;subst hx;exact zis c hf N x (by omega) hka hku hsk l' hl'
  |conn k r h1 hk hka hra hku hru=>
   subst hk;simp only [List.cons.sizeOf_spec] at hN;have hsE:simpE c (.mk op n u den ps [k,r])=(simpE c k&&simpE c r):=by
    rw [simpE.eq_def];simp only;rw [if_neg (by omega),if_neg (by omega),if_neg (by omega),if_pos h1]
   rw [hsE,Bool.and_eq_true] at hs;rw [<-zlv (.inr (.inr ⟨k,r,rfl⟩))];refine zee G c hf op n u den ps [k,r] l hz hks fun x hx l' hl'=>?_
   simp only [List.mem_cons,List.not_mem_nil,or_false] at hx;rcases hx with rfl|rfl
   ·exact zis c hf N x (by omega) hka hku hs.1 l' hl'
   ·exact zis c hf N x (by omega) hra hru hs.2 l' hl'
  |cmp k r h1 hk hka hra=>
   subst hk;rw [zdh h1] at hs;simp only [Bool.and_eq_true,Bool.or_eq_true,decide_eq_true_eq] at hs;have hlk:=zck hka (zba hs.1.1);have hlr:=zck hra (zba hs.1.2);rw [<-zlv (.inr (.inr ⟨k,r,rfl⟩))];refine zee G c hf op n u den ps [k,r] l hz hks fun x hx l' hl'=>?_
   simp only [List.mem_cons,List.not_mem_nil,or_false] at hx;rcases hx with rfl|rfl
   ·exact zun G c (m:=m) hf x hlk l' hl'
   ·exact zun G c (m:=m) hf x hlr l' hl'
  |other h1 h2 h3 h4 h5=>
   exfalso
   unfold simpE at hs;rw [if_neg h1,if_neg h2,if_neg h3,if_neg h4] at hs;have hce:zcj op=false:=by unfold zcj;simp;omega
   split at hs
   ·simp [hce] at hs
   ·cases hs
def qh (ls:List (List Int)):D:=.isl 1 (ls.map fun l=>[zi l])
theorem yme (ls:List (List Int)) (l:List Int):zji (ls++[l])=min (zji ls*max 1 (l.length:Int)) 1000000:=by
 unfold zji;rw [List.foldl_append];rfl
theorem yqz (ls:List (List Int)):1<=zji ls/\zji ls<=1000000:=by
 have:∀(ls:List (List Int)) (p:Int),1<=p/\p<=1000000->1<=ls.foldl (fun p l=>min (p*max 1 (l.length:Int)) 1000000) p/\ls.foldl (fun p l=>min (p*max 1 (l.length:Int)) 1000000) p<=1000000:=by
  intro ls
  induction ls with
  |nil=>exact fun p h=>h
  |cons l r ih=>
   intro p h;refine ih _ ?_;have h1:p<=p*max 1 (l.length:Int):=by
    have:=Int.mul_le_mul_of_nonneg_left (show (1:Int)<=max 1 (l.length:Int) by omega) (show 0<=p by omega);omega
   show 1<=min (p*max 1 (l.length:Int)) 1000000/\min (p*max 1 (l.length:Int)) 1000000<=1000000;omega
 exact this ls 1 (by omega)
theorem zop (c:Codex) (f:Int):∀(es:List Ex),(∀e∈es,yx e<=400)->∀l:List Int,(es.foldl (fun l e=>candE c f e l) l).length<=l.length+3200*es.length
 |[],_,l=>by simp
 |e::r,h,l=>by
  have h1:=zkn c f _ e (Nat.lt_succ_self _) l;have h2:=zop c f r (fun x hx=>h x (by simp [hx])) (candE c f e l);have h3:=h e (by simp);rw [List.foldl_cons,List.length_cons];omega
theorem yra (c:Codex) (f:Int) (es:List Ex) (e:Ex):yab c f (es++[e])=candE c f e (yab c f es):=by
 unfold yab;rw [List.foldl_append];rfl
theorem ymf (c:Codex) {m:List (Int × Int)} (vs:List Int) (hz:vs.length<=1000) (hv:∀v∈vs,0<=v/\v<c.arts.length) (hwh:∀a∈c.arts,a.when_.length<=100) (hc:∀e∈ya c vs,ycx c m e)
  (hb:(ya c vs).all (simpE c)=false):zw Tryz.prog G 23 [c.sv,.imm (zi vs)] (.tup [zdp,sB false]):=by
 have h1:=zkm G c vs (by omega) hv hwh;have hl:=zgd hwh vs;generalize ya c vs=es at h1 hl hc hb;have hel:(es.map Ex.cells).length=es.length:=by simp
 have hS:=fun e=>zdi G c m _ e (Nat.lt_succ_self _)
 rw [show c.sv= .agg [.imm (zj c.facts),.imm (zj c.lines),.imm (yl c.arts)] from rfl] at h1 hS ⊢;refine zc Tryz.func23 rfl (by rw [Tryz.ntmps23];simp) rfl rfl ?_;intro E hH hK;(refine zf ?_;conv=>whnf);refine ze rfl  h1 ?_;(refine za ?_;conv=>whnf);refine zg [2,6,7,8,9] ?_;change SW E _ [(2,.ptr 0 0),(6,.imm (ye es)),(7,zdp),(8,sI 1),(9,sI 0)] [.cells [.imm (zj c.facts),.imm (zj c.lines),.imm (yl c.arts)]];refine zo es (fun i (_:Unit)=>[(2,.ptr 0 0),(6,.imm (ye es)),(7,zdp),(8,sI 1),(9,sI i)]) (fun _ _=>[.cells [.imm (zj c.facts),.imm (zj c.lines),.imm (yl c.arts)]])
  (fun done _ _=>done.all (simpE c)=true) () rfl ?_ ?_
 ·rintro _ h2
  rw [h2] at hb;cases hb
 ·rintro done x rest _ hda hdl h2 ih
  have hw:=zk (n:=done.length) (by omega);have hx:=hS x (hc x (by rw [hda];simp)).1 (hc x (by rw [hda];simp)).2;have hsn:(done++[x]).all (simpE c)=simpE c x:=by rw [List.all_append,h2];simp
  have hrow:(es.map Ex.cells)[done.length]?=some x.cells:=by simp [hda]
  rw [hsn] at ih;generalize simpE c x=b1 at hx ih;obtain ⟨kop,kn,ku,kden,kps,kks⟩:=x;(refine zf ?_;conv=>whnf)
  repeat' ((with_reducible refine way ?_ ?_)<;>(intro h;conv=>whnf))
  all_goals try (exfalso;omega)
  (refine zu 0 mixed rfl ?_;refine zb [777] (nx:=1) ?_;conv=>whnf);refine zt (i:=done.length) (row:=[dI kop,dI kn,dS ku,dI kden,.isl 3 (kps.map Piece.cells),.isl 6 (zd kks)]) rfl (show 1<=1 by decide) rfl hrow ?_;(refine zb [777] (nx:=1) ?_;conv=>whnf);refine yi rfl (show 1<=1 by decide) hx ?_;(refine zb [777,10] (nx:=1) ?_;conv=>whnf);refine qp ⟨sB b1,[],none⟩ rfl rfl (show 1<=1 by decide) (fun _ _ _=>rfl) ?_;refine qt (by kernel_rfl) ?_;(refine zf ?_;conv=>whnf);cases b1<;>(conv=>whnf)
  ·exact hK _
  ·rw [hw]
   exact zg [2,6,7,8,9] (ih () rfl)
theorem zuo (c:Codex) {m:List (Int × Int)} (vs:List Int) (hz:vs.length<=100) (hv:∀v∈vs,0<=v/\v<c.arts.length) (hwh:∀a∈c.arts,a.when_.length<=100) (hc:∀e∈ya c vs,ycx c m e/\yx e<=400)
  (hF:c.facts.length<=1000) (hb:(ya c vs).all (simpE c)=true):zw Tryz.prog G 23 [c.sv,.imm (zi vs)] (.tup [.imm (qh (zfb c (ya c vs))),sB (decide (zji (zfb c (ya c vs))<=4096))]):=by
 have h1:=zkm G c vs (by omega) hv hwh;have hl:=zgd hwh vs;generalize ya c vs=es at h1 hl hc hb;have hel:(es.map Ex.cells).length=es.length:=by simp
 have hfl:(c.facts.map Decl.cells).length=c.facts.length:=by simp
 have hse:∀e∈es,simpE c e=true:=List.all_eq_true.1 hb;have hS:=fun e=>zdi G c m _ e (Nat.lt_succ_self _)
 have hC:=fun (f:Int) (hf:0<=f/\f<c.facts.length) (e:Ex)=>zis G c (m:=m) hf _ e (Nat.lt_succ_self _)
 rw [show c.sv= .agg [.imm (zj c.facts),.imm (zj c.lines),.imm (yl c.arts)] from rfl] at h1 hS hC ⊢;refine zc Tryz.func23 rfl (by rw [Tryz.ntmps23];simp) rfl rfl ?_;intro E hH hK;(refine zf ?_;conv=>whnf);refine ze rfl  h1 ?_;(refine za ?_;conv=>whnf);refine zg [2,6,7,8,9] ?_;change SW E _ [(2,.ptr 0 0),(6,.imm (ye es)),(7,zdp),(8,sI 1),(9,sI 0)] [.cells [.imm (zj c.facts),.imm (zj c.lines),.imm (yl c.arts)]];refine zo es (fun i (_:Unit)=>[(2,.ptr 0 0),(6,.imm (ye es)),(7,zdp),(8,sI 1),(9,sI i)]) (fun _ _=>[.cells [.imm (zj c.facts),.imm (zj c.lines),.imm (yl c.arts)]])
  (fun done _ _=>True) () trivial ?_ ?_
 ·rintro _ _
  (refine zf ?_;conv=>whnf)
  repeat' ((with_reducible refine way ?_ ?_)<;>(intro h;conv=>whnf))
  all_goals try (exfalso;omega)
  refine zjr (n:=7) (kk:=1) rfl ?_;refine zg [2,6,7,8,11] ?_;change SW E _ [(2,.ptr 0 0),(6,.imm (ye es)),(7,.asl 1 1 []),(8,sI 1),(11,sI 0)] [.cells [.imm (zj c.facts),.imm (zj c.lines),.imm (yl c.arts)],.tok 1 0];refine zo c.facts (fun i (ls:List (List Int))=>[(2,.ptr 0 0),(6,.imm (ye es)),(7,.asl 1 1 (ls.map fun l=>[zi l])),(8,sI (zji ls)),(11,sI i)])
   (fun _ ls=>[.cells [.imm (zj c.facts),.imm (zj c.lines),.imm (yl c.arts)],.tok 1 (ls.map fun l=>[zi l]).length])
   (fun done _ ls=>ls=(List.range done.length).map fun (i:Nat)=>yab c i es) [] rfl ?_ ?_
  ·rintro ls h2
   have h3:zfb c es=ls:=h2.symm;rw [h3] at hK;refine zay ?_;change SW E _ [(2,.ptr 0 0),(6,.imm (ye es)),(7,.imm (qh ls)),(8,sI (zji ls)),(11,sI c.facts.length)] _;(refine zf ?_;conv=>whnf)
   repeat' ((with_reducible refine way ?_ ?_)<;>(intro h;conv=>whnf))
   all_goals try (exfalso;omega)
   all_goals exact hK _
  ·rintro done x rest ls hda hdl h2 ih
   have hw:=zk (n:=done.length) (by omega);have hfr:0<=(done.length:Int)/\(done.length:Int)<c.facts.length:=by omega
   have hsn:∀l,l=yab c done.length es->ls++[l]=(List.range (done++[x]).length).map fun (i:Nat)=>yab c i es:=fun l h3=>by
    rw [List.length_append,List.length_cons,List.length_nil,List.range_succ,List.map_append, <-h2,h3];rfl
   have hlsl:ls.length=done.length:=by rw [h2];simp
   have hpr:=yqz ls;(refine zf ?_;conv=>whnf)
   repeat' ((with_reducible refine way ?_ ?_)<;>(intro h;conv=>whnf))
   all_goals try (exfalso;omega)
   refine yux 12 (x:=zdp) (y:=.imm (zi [])) rfl (SV.Is.nil 1) ?_;refine zg [2,6,7,8,11,12,13] ?_;change SW E _ [(2,.ptr 0 0),(6,.imm (ye es)),(7,.asl 1 1 (ls.map fun l=>[zi l])),(8,sI (zji ls)),(11,sI done.length),(12,.imm (zi [])),(13,sI 0)] [.cells [.imm (zj c.facts),.imm (zj c.lines),.imm (yl c.arts)],.tok 1 (ls.map fun l=>[zi l]).length];refine zo es (fun i (l:List Int)=>[(2,.ptr 0 0),(6,.imm (ye es)),(7,.asl 1 1 (ls.map fun l=>[zi l])),(8,sI (zji ls)),(11,sI done.length),(12,.imm (zi l)),(13,sI i)])
    (fun _ _=>[.cells [.imm (zj c.facts),.imm (zj c.lines),.imm (yl c.arts)],.tok 1 (ls.map fun l=>[zi l]).length])
    (fun dn _ l=>l=yab c done.length dn) [] rfl ?_ ?_
   ·rintro l h3
    have hll:=zop c done.length es (fun e he=>(hc e he).2) [];have hll:l.length<=3200*es.length:=by rw [h3];simpa [yab] using hll
    have hli:(l.map fun n=>[dI n]).length=l.length:=by simp
    have hm0:1<=max 1 (l.length:Int)/\max 1 (l.length:Int)<=32000000:=by omega
    have e1:(if 1000000<IntKind.i64.wrap (zji ls*(if 1<(l.length:Int) then (l.length:Int) else 1)) then 1000000 else IntKind.i64.wrap (zji ls*(if 1<(l.length:Int) then (l.length:Int) else 1)))=zji (ls++[l]):=by
     rw [yme,show (if 1<(l.length:Int) then (l.length:Int) else 1)=max 1 (l.length:Int) by omega];have hb1:=Int.mul_le_mul_of_nonneg_right hpr.2 (show 0<=max 1 (l.length:Int) by omega);have hb2:=Int.mul_nonneg (show 0<=zji ls by omega) (show 0<=max 1 (l.length:Int) by omega);rw [yz (by omega) (by omega)];omega
    have hsl:=hsn l h3;have hend:=ih (ls++[l]) hsl;rw [<-e1, <-hli] at hend;(refine zf ?_;conv=>whnf)
    repeat' ((with_reducible refine way ?_ ?_)<;>(intro h;conv=>whnf))
    all_goals try (exfalso;omega)
    refine wm (b:=1) (kk:=1) (rows:=ls.map fun l=>[zi l]) (new:=[[zi l]]) rfl ⟨by decide,rfl⟩ rfl (by rw [List.length_map];simp only [List.length_cons,List.length_nil];omega) ?_;have e5:(ls.map fun l=>[zi l])++[[zi l]]=(ls++[l]).map fun l=>[zi l]:=by simp
    have e6:(ls.map fun l=>[zi l]).length+[[zi l]].length=((ls++[l]).map fun l=>[zi l]).length:=by simp
    refine Eq.mpr (congrArg (fun v=>SWr E _ _ _ (wz _ _ (.asl 1 1 v)) _) e5) ?_;refine Eq.mpr (congrArg (fun v=>SWr E _ _ _ _ (List.set _ 1 (.tok 1 v))) e6) ?_;(refine za ?_;conv=>whnf);rw [hw];exact zg [2,6,7,8,11] hend
   ·rintro dn y rs l hdy hdly h3 ihy
    have hwy:=zk (n:=dn.length) (by omega);have hym:y∈es:=by rw [hdy];simp
    have hll:=zop c done.length dn (fun e he=>(hc e (by rw [hdy];simp [he])).2) [];have hll:l.length<=3200*dn.length:=by rw [h3];simpa [yab] using hll
    have hcall:=hC done.length hfr y (hc y hym).1.1 (hc y hym).1.2 (hse y hym) l (by have:=(hc y hym).2;omega);have hsy:=yra c done.length dn y;rw [<-h3] at hsy;generalize candE c done.length y l=l2 at hcall hsy;have hrow:(es.map Ex.cells)[dn.length]?=some y.cells:=by simp [hdy]
    obtain ⟨kop,kn,ku,kden,kps,kks⟩:=y;(refine zf ?_;conv=>whnf)
    repeat' ((with_reducible refine way ?_ ?_)<;>(intro h;conv=>whnf))
    all_goals try (exfalso;omega)
    (refine zu 0 mixed rfl ?_;refine zb [777] (nx:=2) ?_;conv=>whnf);refine zt (i:=dn.length) (row:=[dI kop,dI kn,dS ku,dI kden,.isl 3 (kps.map Piece.cells),.isl 6 (zd kks)]) rfl (show 2<=2 by decide) rfl hrow ?_;(refine zb [777] (nx:=2) ?_;conv=>whnf);refine yi rfl (show 2<=2 by decide) hcall ?_;(refine zb [777,12] (nx:=2) ?_;conv=>whnf);refine qp ⟨.imm (zi l2),[],none⟩ rfl rfl (show 2<=2 by decide) (fun _ _ _=>rfl) ?_;refine qt (by kernel_rfl) ?_;(refine zf ?_;conv=>whnf);rw [hwy];exact zg [2,6,7,8,11,12,13] (ihy l2 hsy.symm)
 ·rintro done x rest _ hda hdl _ ih
  have hw:=zk (n:=done.length) (by omega);have hxm:x∈es:=by rw [hda];simp
  have hx:=hS x (hc x hxm).1.1 (hc x hxm).1.2;rw [hse x hxm] at hx;have hrow:(es.map Ex.cells)[done.length]?=some x.cells:=by simp [hda]
  obtain ⟨kop,kn,ku,kden,kps,kks⟩:=x;(refine zf ?_;conv=>whnf)
  repeat' ((with_reducible refine way ?_ ?_)<;>(intro h;conv=>whnf))
  all_goals try (exfalso;omega)
  (refine zu 0 mixed rfl ?_;refine zb [777] (nx:=1) ?_;conv=>whnf);refine zt (i:=done.length) (row:=[dI kop,dI kn,dS ku,dI kden,.isl 3 (kps.map Piece.cells),.isl 6 (zd kks)]) rfl (show 1<=1 by decide) rfl hrow ?_;(refine zb [777] (nx:=1) ?_;conv=>whnf);refine yi rfl (show 1<=1 by decide) hx ?_;(refine zb [777,10] (nx:=1) ?_;conv=>whnf);refine qp ⟨sB true,[],none⟩ rfl rfl (show 1<=1 by decide) (fun _ _ _=>rfl) ?_;refine qt (by kernel_rfl) ?_;(refine zf ?_;conv=>whnf);rw [hw];exact zg [2,6,7,8,9] (ih () trivial)
structure RingOK (nd:List (List Int)) (R:List Int):Prop where
 len:R.length<=nd.length
 rng:∀(i:Nat) (x:Int),R[i]?=some x->0<=x/\x<nd.length
 fst:∀(i:Nat) (x y:Int),R[0]?=some x->R[i]?=some y->x<=y
 edge:∀(i k:Nat) (x y:Int),R[i]?=some x->R[k]?=some y->(y∈nd.getD x.toNat [] ↔ k=(i+1) % R.length)
 inj:∀(i k:Nat) (x:Int),R[i]?=some x->R[k]?=some x->i=k
theorem ywj {nd:List (List Int)} (hnd:yiz nd):RingOK nd (zak nd):=by
 rcases yfr hnd with ⟨h,_⟩|⟨s,m,hs,hlen,hm1,hm2,hsn,hmin,hleast,hk⟩
 ·rw [h]
  exact ⟨by simp,fun i x h=>by simp at h,fun i x y h=>by simp at h,fun i k x y h=>by simp at h,fun i k x h=>by simp at h⟩
 have hF:=zty hnd;generalize zak nd=R at hs hlen hk;have hget:∀i:Nat,i<m->∃x,R[i]?=some x:=fun i hi=>⟨_,List.getElem?_eq_getElem (by omega)⟩
 have hlt:∀(i:Nat) (x:Int),R[i]?=some x->i<m:=fun i x h=>by rw [<-hlen];exact lt_of_getElem? h
 have hnat:∀(i:Nat) (x:Int),R[i]?=some x->((x.toNat:Nat):Int)=x/\x.toNat<nd.length:=fun i x h=>by
  obtain ⟨a,b,_⟩:=hk i x h;omega
 have hedge:∀(i:Nat) (x y:Int),R[i]?=some x->R[i+1]?=some y->zjl nd x.toNat y.toNat:=fun i x y hx hy=>by
  obtain ⟨_,_,_,h4⟩:=hk i x hx;show ((y.toNat:Nat):Int)∈_;rw [(hnat _ y hy).1];exact h4 y hy
 have hdist:∀(i:Nat) (x:Int),R[i]?=some x->mg (ww nd) x.toNat s=((m-i:Nat):Int):=fun i x hx=>(hk i x hx).2.2.1
 have hinj:∀(i k:Nat) (x:Int),R[i]?=some x->R[k]?=some x->i=k:=fun i k x hi hk2=>by
  have h1:=hdist i x hi;have h2:=hdist k x hk2;have:=hlt i x hi;have:=hlt k x hk2;omega
 have hwalk:∀(d i:Nat) (x y:Int),R[i]?=some x->R[i+d+1]?=some y->WalkB (zjl nd) nd.length x.toNat y.toNat (d+1):=by
  intro d
  induction d with
  |zero=>intro i x y hx hy;exact .one (hedge i x y hx hy)
  |succ d ih=>
   intro i x y hx hy;obtain ⟨z,hz⟩:=hget (i+1) (by have:=hlt _ y hy;omega);have:=ih (i+1) z y hz (by rw [show i+1+d+1=i+(d+1)+1 by omega];exact hy);exact .step (hedge i x z hx hz) (hnat _ z hz).2 this
 have hback:∀x:Int,R[m-1]?=some x->zjl nd x.toNat s:=fun x hx=>by
  have h1:=hdist _ x hx;obtain ⟨L,hw,he⟩:=hF.sound x.toNat s (hnat _ x hx).2 hsn (by omega);have hL:L=1:=by omega
  subst hL;cases hw with
  |one h=>exact h
  |step _ _ h=>cases h
 have hcyc:∀(i:Nat) (x:Int),R[i]?=some x->WalkB (zjl nd) nd.length x.toNat x.toNat m:=fun i x hx=>by
  have hi:=hlt i x hx;obtain ⟨z,hz⟩:=hget (m-1) (by omega);have h1:WalkB (zjl nd) nd.length x.toNat s (m-i):=by
   by_cases e:i=m-1
   ·subst e
    rw [show m-(m-1)=1 by omega];exact .one (hback x hx)
   ·have hw:=hwalk (m-1-i-1) i x z hx (by rw [show i+(m-1-i-1)+1=m-1 by omega];exact hz)
    have:=hw.append (.one (hback z hz)) (hnat _ z hz).2
    rwa [show m-1-i-1+1+1=m-i by omega] at this
  by_cases e:i=0
  ·subst e
   rw [hs] at hx;cases hx;simpa using h1
  ·have h2:=hwalk (i-1) 0 (s:Int) x hs (by rw [show 0+(i-1)+1=i by omega];exact hx)
   have:=h1.append h2 (by simpa using hsn)
   rwa [show m-i+(i-1+1)=m by omega] at this
 have hself:∀(i:Nat) (x:Int),R[i]?=some x->mg (ww nd) x.toNat x.toNat=m:=fun i x hx=>by
  have h1:=hF.comp _ _ m (hnat i x hx).2 (hnat i x hx).2 (hcyc i x hx);obtain ⟨L,hw,he⟩:=hF.sound _ _ (hnat i x hx).2 (hnat i x hx).2 (by omega);have:=hmin _ L (hnat i x hx).2 hw;omega
 refine ⟨?_,fun i x hx=>⟨(hk i x hx).1,(hk i x hx).2.1⟩,fun i x y hx hy=>?_,fun i k x y hx hy=>⟨fun hm=>?_,fun e=>?_⟩,hinj⟩
 ·have hd:(R.map Int.toNat).Nodup:=by
   rw [List.nodup_iff_pairwise_ne,List.pairwise_map,List.pairwise_iff_getElem];intro i j hi hj hij e;have h1:=hnat i _ (List.getElem?_eq_getElem hi);have h2:=hnat j _ (List.getElem?_eq_getElem hj);have h3:R[i]=R[j]:=by omega
   have:=hinj i j R[i] (List.getElem?_eq_getElem hi) (by rw [h3];exact List.getElem?_eq_getElem hj);omega
  have:=zlk (n:=nd.length) hd (fun x hx=>by
   obtain ⟨y,hy,rfl⟩:=List.mem_map.1 hx;obtain ⟨i,hi,rfl⟩:=List.mem_iff_getElem.1 hy
   exact (hnat i _ (List.getElem?_eq_getElem hi)).2)
  simpa using this
 ·rw [hs] at hx
  cases hx;have:=hleast y.toNat (hnat i y hy).2 (hself i y hy);have:=(hnat i y hy).1;omega
 ·rw [hlen]
  have hi:=hlt i x hx;have hkm:=hlt k y hy;have he:zjl nd x.toNat y.toNat:=by show ((y.toNat:Nat):Int)∈_;rw [(hnat k y hy).1];exact hm
  have hy2:=hdist k y hy;have hx2:=hdist i x hx;obtain ⟨L,hw,hL⟩:=hF.sound y.toNat s (hnat k y hy).2 hsn (by omega);have hc:=hF.comp x.toNat s (L+1) (hnat i x hx).2 hsn (.step he (hnat k y hy).2 hw)
  by_cases e:k=i+1
  ·rw [Nat.mod_eq_of_lt (by omega)];exact e
  ·have hki:k<=i:=by omega
   have hcy:WalkB (zjl nd) nd.length y.toNat y.toNat (i-k+1):=by
    by_cases e2:k=i
    ·subst e2
     rw [hx] at hy;cases hy;rw [Nat.sub_self];exact .one he
    ·have h1:=hwalk (i-k-1) k y x hy (by rw [show k+(i-k-1)+1=i by omega];exact hx)
     have:=h1.append (.one he) (hnat i x hx).2
     rwa [show i-k-1+1+1=i-k+1 by omega] at this
   have:=hmin _ _ (hnat k y hy).2 hcy;have h0:k=0/\i+1=m:=by omega
   rw [h0.1,h0.2,Nat.mod_self]
 ·rw [hlen] at e
  have hi:=hlt i x hx
  by_cases e2:i+1<m
  ·rw [Nat.mod_eq_of_lt e2] at e
   subst e;exact (hk i x hx).2.2.2 y hy
  ·have e3:i+1=m:=by omega
   rw [e3,Nat.mod_self] at e;subst e;rw [hs] at hy;cases hy;exact hback x (by rw [show m-1=i by omega];exact hx)
abbrev zcg:D:=.val (.slice none 0 0)
def zqe:ByteArray:=⟨#[69,85,82]⟩
def ymg (op n:Int) (u:ByteArray) (ks:D):SV:=.agg [sI op,sI n,sS u,sI 0,.imm zcg,.imm ks]
theorem ytm (op n:Int) (u:ByteArray) (ks:List Ex):(ymg op n u (.isl 6 (ks.map Ex.cells))).Is (Ex.mk op n u 0 [] ks).sv:=by
 rw [Ex.sv,Ex.cells,zp];exact SIs.agg (.cons (SV.Is.refl _) (.cons (SV.Is.refl _) (.cons (SV.Is.refl _) (.cons (SV.Is.refl _) (.cons (SV.Is.nil 3) (.cons (SV.Is.refl _) .nil))))))
theorem zup (op n:Int) (u:ByteArray):(ymg op n u zcg).Is (Ex.mk op n u 0 [] []).sv:=by
 rw [Ex.sv,Ex.cells,zp];exact SIs.agg (.cons (SV.Is.refl _) (.cons (SV.Is.refl _) (.cons (SV.Is.refl _) (.cons (SV.Is.refl _) (.cons (SV.Is.nil 3) (.cons (SV.Is.nil 6) .nil))))))
theorem zqf (n:Int) (u:ByteArray):zw Tryz.prog G 36 [sI n,sS u] (Ex.mk 1 n u 0 [] []).sv:=by
 refine zao (r:=ymg 1 n u zcg) ?_ (zup _ _ _);refine zc Tryz.func36 rfl (by rw [Tryz.ntmps36];simp) rfl rfl ?_;intro E hH hK;(refine zf ?_;conv=>whnf);exact hK _
theorem yrb (n:Int) (u:ByteArray):zw Tryz.prog G 37 [sI n,sS u] (Ex.mk 2 n u 0 [] []).sv:=by
 refine zao (r:=ymg 2 n u zcg) ?_ (zup _ _ _);refine zc Tryz.func37 rfl (by rw [Tryz.ntmps37];simp) rfl rfl ?_;intro E hH hK;(refine zf ?_;conv=>whnf);exact hK _
theorem ymh (op:Int) (a b:Ex):zw Tryz.prog G 35 [sI op,a.sv,b.sv] (Ex.mk op 0 tT 0 [] [a,b]).sv:=by
 refine zao (r:=ymg op 0 tT (.isl 6 ([a,b].map Ex.cells))) ?_ (ytm _ _ _ _);obtain ⟨o1,n1,u1,d1,p1,k1⟩:=a;obtain ⟨o2,n2,u2,d2,p2,k2⟩:=b;refine zc Tryz.func35 rfl (by rw [Tryz.ntmps35];simp) rfl rfl ?_;intro E hH hK;(refine zf ?_;conv=>whnf);exact hK _
def zdq:List Decl:=[⟨⟨#[104,111,117,114,115]⟩,⟨#[109,105,110,117,116,101,115]⟩,0⟩,⟨⟨#[109,97,114,114,105,101,100]⟩,⟨#[116,114,117,116,104]⟩,0⟩,⟨⟨#[97,103,101]⟩,⟨#[110,117,109,98,101,114]⟩,0⟩]
def zdr:List Decl:=[⟨⟨#[98,97,115,105,99]⟩,zqe,1⟩]
def ytn (i:Nat) (es:List Ex):Article:=⟨i+1,0,1,8766,36525,8766,es,[],.mk 1 100 zqe 0 [] []⟩
def ymi (w:List (List Ex)):Codex:=⟨zdq,zdr,w.mapIdx ytn⟩
def ygd (i:Nat) (es:List Ex):List D:=[dI ((i:Int)+1),dI 0,dI 1,dI 8766,dI 36525,dI 8766,ye es,zcg,dI 1,dI 100,dS zqe,dI 0,.isl 3 [],.isl 6 []]
theorem yde (w:List (List Ex)) (hw:w.length<=1000):zw Tryz.prog G 38 [.imm (.isl 1 (w.map fun es=>[ye es]))] (ymi w).sv:=by
 refine zao (r:=.agg [.imm (zj zdq),.imm (zj zdr),.imm (.isl 14 (w.mapIdx ygd))]) ?_ ?_
 rotate_left
 ·refine SIs.agg (.cons (SV.Is.refl _) (.cons (SV.Is.refl _) (.cons (D.Is.imm (DIss.isl (k:=14) ?_)) .nil)))
  show DIss (w.mapIdx ygd) ((w.mapIdx ytn).map Article.cells);have em:(w.mapIdx ytn).map Article.cells=w.mapIdx (fun i es=>(ytn i es).cells):=by
   apply List.ext_getElem?
   intro i;rw [List.getElem?_map,List.getElem?_mapIdx,List.getElem?_mapIdx,Option.map_map];rfl
  rw [em];have:∀(l:List (List Ex)) (f g:Nat->List Ex->List D),(∀i e,DIs (f i e) (g i e))->DIss (l.mapIdx f) (l.mapIdx g):=by
   intro l
   induction l with
   |nil=>intro f g _;exact .nil
   |cons e l ih=>
    intro f g h;rw [List.mapIdx_cons,List.mapIdx_cons];exact .cons (h 0 e) (ih _ _ fun i e=>h (i+1) e)
  refine this w _ _ fun i e=>?_
  exact .cons (D.Is.refl _) (.cons (D.Is.refl _) (.cons (D.Is.refl _) (.cons (D.Is.refl _) (.cons (D.Is.refl _) (.cons (D.Is.refl _) (.cons (D.Is.refl _) (.cons (D.Is.nil 1) (.cons (D.Is.refl _) (.cons (D.Is.refl _) (.cons (D.Is.refl _) (.cons (D.Is.refl _) (.cons (D.Is.refl _) (.cons (D.Is.refl _) .nil)))))))))))))
 have hla:(w.map fun es=>[ye es]).length=w.length:=by simp
 have hk:=zqf G 100 zqe;refine zc Tryz.func38 rfl (by rw [Tryz.ntmps38];simp) rfl rfl ?_;intro E hH hK;(refine zf ?_;conv=>whnf);refine zg [0,2,3,4] ?_;change SW E _ [(0,.imm (.isl 1 (w.map fun es=>[ye es]))),(2,.ptr 0 0),(3,.ptr 1 0),(4,sI 0)] [.cells [.imm zcg,.imm zcg,.imm zcg],.cells [.imm (zj zdq),.imm (zj zdr),.imm zcg]];refine zkz 1 2 14 (cs:=[.imm (zj zdq),.imm (zj zdr),.imm zcg]) rfl rfl ?_;change SW E _ [(0,.imm (.isl 1 (w.map fun es=>[ye es]))),(2,.ptr 0 0),(3,.ptr 1 0),(4,sI 0)] [.cells [.imm zcg,.imm zcg,.imm zcg],.cells [.imm (zj zdq),.imm (zj zdr),.asl 2 14 []],.tok 14 0];refine zo w (fun i (_:List (List D))=>[(0,.imm (.isl 1 (w.map fun es=>[ye es]))),(2,.ptr 0 0),(3,.ptr 1 0),(4,sI i)]) (fun _ L=>[.cells [.imm zcg,.imm zcg,.imm zcg],.cells [.imm (zj zdq),.imm (zj zdr),.asl 2 14 L],.tok 14 L.length])
  (fun done _ L=>L=done.mapIdx ygd) [] rfl ?_ ?_
 ·rintro L h1
  rw [<-h1] at hK;refine zay ?_;change SW E _ [(0,.imm (.isl 1 (w.map fun es=>[ye es]))),(2,.ptr 0 0),(3,.ptr 1 0),(4,sI w.length)] [.cells [.imm zcg,.imm zcg,.imm zcg],.cells [.imm (zj zdq),.imm (zj zdr),.imm (.isl 14 L)],_];(refine zf ?_;conv=>whnf)
  repeat' ((with_reducible refine way ?_ ?_)<;>(intro h;conv=>whnf))
  all_goals try (exfalso;omega)
  exact hK _
 ·rintro done x rest L hda hdl h1 ih
  have hw2:=zk (n:=done.length) (by omega);have hrx:(w.map fun es=>[ye es])[done.length]?=some [ye x]:=by simp [hda]
  have hLl:L.length=done.length:=by rw [h1];simp
  have hsn:(done++[x]).mapIdx ygd=L++[ygd done.length x]:=by rw [List.mapIdx_concat, <-h1]
  (refine zf ?_;conv=>whnf)
  repeat' ((with_reducible refine way ?_ ?_)<;>(intro h;conv=>whnf))
  all_goals try (exfalso;omega)
  (refine zu 0 mixed rfl ?_;refine zb [777] (nx:=3) ?_;conv=>whnf);refine zt (i:=done.length) (row:=[ye x]) rfl (show 3<=3 by decide) rfl hrx ?_;(refine zb [777] (nx:=3) ?_;conv=>whnf);refine yi rfl (show 3<=3 by decide) hk ?_;(refine zb [777] (nx:=3) ?_;conv=>whnf);rw [show IntKind.i64.wrap ((done.length:Int)+1)=(done.length:Int)+1 from yz (by omega) (by omega)];refine zfo (b:=2) (kk:=14) (rows:=L) (new:=[ygd done.length x]) rfl rfl rfl rfl rfl rfl rfl rfl rfl rfl ⟨by decide,rfl⟩ (show 3<=3 by decide) rfl (by simp only [List.length_cons,List.length_nil];omega) ?_;(refine zb [777] (nx:=3) ?_;conv=>whnf);(refine zf ?_;conv=>whnf);rw [hw2];refine zg [0,2,3,4] ?_;exact ih (L++[ygd done.length x]) hsn.symm
def zit (i:Nat) (d:D):List SV:=[sI ((i:Int)+1),sI 0,sI 1,sI 8766,sI 36525,sI 8766,.imm d,.imm zcg,sI 1,sI 100,sS zqe,sI 0,.imm (.isl 3 []),.imm (.isl 6 [])]
theorem ydf:∀(ds:List D) (f:Nat->Nat),((ds.mapIdx fun i d=>zit (f i) d).flatten).length=ds.length*14
 |[],_=>rfl
 |d::r,f=>by
  rw [List.mapIdx_cons,List.flatten_cons,List.length_append,ydf r (fun i=>f (i+1))];simp only [List.length_cons,zit,List.length_nil];omega
theorem yrc (ds:List D) (hw:ds.length<=1000) (hds:∀d∈ds,d=zcg):SCall Tryz.prog G 38 [.imm (.isl 1 (ds.map fun d=>[d]))] [] (fun r H'=>r= .agg [.imm (zj zdq),.imm (zj zdr),.vec 2 ds.length]/\∃x y,H'=[x,y,.vec 14 (ds.mapIdx zit).flatten]):=by
 have hk:=zqf G 100 zqe;have hla:(ds.map fun d=>[d]).length=ds.length:=by simp
 refine xw Tryz.func38 rfl (by rw [Tryz.ntmps38];simp) ?_;intro E hH hK;(refine zf ?_;conv=>whnf);refine zg [0,2,3,4] ?_;change SW E _ [(0,.imm (.isl 1 (ds.map fun d=>[d]))),(2,.ptr 0 0),(3,.ptr 1 0),(4,sI 0)] [.cells [.imm zcg,.imm zcg,.imm zcg],.cells [.imm (zj zdq),.imm (zj zdr),.imm zcg]];refine zpe 1 2 14 (cs:=[.imm (zj zdq),.imm (zj zdr),.imm zcg]) rfl rfl ?_;change SW E _ [(0,.imm (.isl 1 (ds.map fun d=>[d]))),(2,.ptr 0 0),(3,.ptr 1 0),(4,sI 0)] [.cells [.imm zcg,.imm zcg,.imm zcg],.cells [.imm (zj zdq),.imm (zj zdr),.vec 2 0],.vec 14 []];refine zo ds (fun i (_:List SV)=>[(0,.imm (.isl 1 (ds.map fun d=>[d]))),(2,.ptr 0 0),(3,.ptr 1 0),(4,sI i)]) (fun i L=>[.cells [.imm zcg,.imm zcg,.imm zcg],.cells [.imm (zj zdq),.imm (zj zdr),.vec 2 i],.vec 14 L])
  (fun done _ L=>L=(done.mapIdx zit).flatten) [] rfl ?_ ?_
 ·rintro L h1
  (refine zf ?_;conv=>whnf)
  repeat' ((with_reducible refine way ?_ ?_)<;>(intro h;conv=>whnf))
  all_goals try (exfalso;omega)
  rw [h1];exact hK _ _ ⟨rfl,_,_,rfl⟩
 ·rintro done x rest L hda hdl h1 ih
  have hw2:=zk (n:=done.length) (by omega);have hrx:(ds.map fun d=>[d])[done.length]?=some [x]:=by simp [hda]
  have hLl:L.length=done.length*14:=by rw [h1];exact ydf done fun i=>i
  have hx:x=zcg:=hds x (by rw [hda];simp);subst hx;have hsn:((done++[zcg]).mapIdx zit).flatten=L++zit done.length zcg:=by rw [List.mapIdx_concat,List.flatten_append, <-h1];simp
  (refine zf ?_;conv=>whnf)
  repeat' ((with_reducible refine way ?_ ?_)<;>(intro h;conv=>whnf))
  all_goals try (exfalso;omega)
  (refine zu 0 mixed rfl ?_;refine zb [777] (nx:=3) ?_;conv=>whnf);refine zt (i:=done.length) (row:=[zcg]) rfl (show 3<=3 by decide) rfl hrx ?_;(refine zb [777] (nx:=3) ?_;conv=>whnf);refine yi rfl (show 3<=3 by decide) hk ?_;(refine zb [777] (nx:=3) ?_;conv=>whnf);rw [show IntKind.i64.wrap ((done.length:Int)+1)=(done.length:Int)+1 from yz (by omega) (by omega)];refine yfv (b:=2) (kk:=14) (n:=done.length) (cs:=L) (new:=[[dI ((done.length:Int)+1),dI 0,dI 1,dI 8766,dI 36525,dI 8766,zcg,zcg,dI 1,dI 100,dS zqe,dI 0,.isl 3 [],.isl 6 []]]) rfl rfl rfl rfl rfl rfl rfl rfl rfl rfl ⟨by decide,rfl⟩ (show 3<=3 by decide) rfl hLl (by decide) (Nat.le_refl 1) (by simp only [List.length_cons,List.length_nil];omega) ?_;(refine zb [777] (nx:=3) ?_;conv=>whnf);(refine zf ?_;conv=>whnf);rw [hw2];refine zg [0,2,3,4] ?_;exact ih (L++zit done.length zcg) hsn.symm
def eK (n:Int) (u:ByteArray):Ex:=.mk 1 n u 0 [] []
def eF (n:Int) (u:ByteArray):Ex:=.mk 2 n u 0 [] []
def eT (op:Int) (a b:Ex):Ex:=.mk op 0 tT 0 [] [a,b]
def zzr:Ex:=eT 9 (eK 480 tM) (eF 0 tM)
def ziu:Ex:=eT 8 (.mk 4 1 tN 0 [] []) (eK 7 tN)
def zmi:Ex:=eT 9 (eF 2 tN) (eK 18 tN)
def zmj:Ex:=eT 10 (eK 18 tN) (eF 2 tN)
def ymz:Ex:=eT 9 (eK 30 tN) (eF 2 tN)
def xC:Codex:=ymi [[zzr,ziu],[eT 6 zmi zmj],[eF 1 tT],[ymz]]
def xD:Codex:=ymi [[eF 1 tT],[ymz]]
def xR:Codex:=⟨zdq,zdr,[⟨1,0,1,8766,36525,8766,[],[],.mk 3 2 zqe 0 [] []⟩,⟨2,0,1,8766,36525,8766,[],[],.mk 3 1 zqe 0 [] []⟩]⟩
theorem yyc:zv xC=true:=by kernel_rfl
theorem yzn:zv xD=true:=by kernel_rfl
theorem yyd:zv xR=true:=by kernel_rfl
def yge (x:Int):List Int->List Int
 |[]=>[x]
 |y::l=>if x<=y then x::y::l else y::yge x l
def ydg:List Int->List Int
 |[]=>[]
 |x::l=>yge x (ydg l)
theorem zqg (x:Int):∀l,(yge x l).Perm (x::l)
 |[]=>.refl _
 |y::l=>by
  rw [yge];split
  ·exact .refl _
  ·exact ((zqg x l).cons y).trans (.swap x y l)
theorem zxe:∀l,(ydg l).Perm l
 |[]=>.refl _
 |x::l=>(zqg x _).trans ((zxe l).cons x)
theorem zrc (x:Int):∀l,l.Pairwise (· <= ·)->(yge x l).Pairwise (· <= ·)
 |[],_=>by simp [yge]
 |y::l,h=>by
  rw [List.pairwise_cons] at h;rw [yge];split
  ·rename_i hxy
   rw [List.pairwise_cons];refine ⟨fun z hz=>?_,List.pairwise_cons.2 h⟩;rcases List.mem_cons.1 hz with rfl|hz
   ·exact hxy
   ·have:=h.1 z hz;omega
  ·rename_i hxy
   rw [List.pairwise_cons];refine ⟨fun z hz=>?_,zrc x l h.2⟩;rcases List.mem_cons.1 ((zqg x l).mem_iff.1 hz) with rfl|hz
   ·omega
   ·exact h.1 z hz
theorem zrd:∀l,(ydg l).Pairwise (· <= ·)
 |[]=>.nil
 |x::l=>zrc x _ (zrd l)
theorem zoq:∀{a b:List Int},a.Perm b->a.Pairwise (· <= ·)->b.Pairwise (· <= ·)->a=b
 |[],b,h,_,_=>by rw [List.nil_perm.1 h]
 |x::a,[],h,_,_=>by cases (List.perm_nil.1 h)
 |x::a,y::b,h,ha,hb=>by
  rw [List.pairwise_cons] at ha hb;have hxy:x=y:=by
   have h1:x∈y::b:=h.mem_iff.1 (by simp);have h2:y∈x::a:=h.mem_iff.2 (by simp);rcases List.mem_cons.1 h1 with h1|h1
   ·exact h1
   ·rcases List.mem_cons.1 h2 with h2|h2
    ·exact h2.symm
    ·have:=ha.1 y h2
     have:=hb.1 x h1;omega
  subst hxy;rw [zoq h.cons_inv ha.2 hb.2]
theorem znh (l:List Int):zcs l=ydg l:=by
 refine zoq ((List.mergeSort_perm l fun x y=>decide (x<=y)).trans (zxe l).symm) ?_ (zrd l);have:=List.pairwise_mergeSort (le:=fun x y:Int=>decide (x<=y)) (fun a b c h1 h2=>by simp at*;omega) (fun a b=>by simp;omega) l;exact this.imp fun h=>by simpa using h
def zor (m:List (Int × List Int)):List (Int × List Int):=(ydg (m.map (·.1))).map fun f=>(f,ydg ((zx f m).getD []))
theorem ygf (m:List (Int × List Int)):yh m=zor m:=by
 unfold yh zor;rw [znh]
 congr 1
 funext f
 rw [znh]
def yto (vs:List Int):List Int:=Go.Lib.compact (ydg vs)
theorem yji (vs:List Int):zr vs=yto vs:=by
 unfold zr yto;rw [show (vs.mergeSort fun x y=>decide (x<=y))=ydg vs from znh vs]
def ygg (c:Codex) (vs:List Int):Option Sr:=
 match zbv c (yto vs) sr0 with
 |some s=>if zhm s.cands<=4096 then some s else none
 |none=>none
theorem zxf (c:Codex) (vs:List Int):ws c vs=ygg c vs:=by unfold ws ygg;rw [yji];try rfl
def zxg (ch:List (Int × List Int)) (s:Sr) (nf:Nat):Nat->Int->List ByteArray->Option (Int × List Int)
 |0,_,_=>none
 |n+1,day,failed=>
  if zbp s.conds (st0 nf day)=0 then zxg ch s nf n (day+1) failed
  else if zpk s.atoms (st0 nf day)∈failed then zxg ch s nf n (day+1) failed
  else match qy s.conds ch (st0 nf day) with
   |some vs=>some (day,vs)
   |none=>zxg ch s nf n (day+1) (failed++[zpk s.atoms (st0 nf day)])
theorem zuq (s:Sr) (nf:Nat):∀(n:Nat) (day:Int) (failed:List ByteArray),zdy s nf n day failed=zxg (zor s.cands) s nf n day failed
 |0,_,_=>rfl
 |n+1,day,failed=>by
  rw [zdy,zxg,zuq s nf n,ygf]
  congr 2
  cases qy s.conds (zor s.cands) (st0 nf day) with
  |some vs=>rfl
  |none=>simp only;exact zuq s nf n _ _
def zqh (c:Codex) (vers:List Int) (s:Sr):Option View:=
 let fr:=ym c vers
 let to:=min fr.2 (fr.1+xl s.dates)
 match zxg (zor s.cands) s c.facts.length (to-fr.1).toNat fr.1 [] with
 |some (day,vs)=>some ⟨day,(List.range c.facts.length).map fun (i:Nat)=>(zx (i:Int) s.cands).isSome,vs,vers⟩
 |none=>none
theorem zzs (c:Codex) (vers:List Int) (s:Sr):jb c vers s=zqh c vers s:=by unfold jb zqh;simp only [zuq];try rfl
def yjj (c:Codex) (vs:List Int):Option View:=
 if zv c&&vs.all (fun v=>decide (0<=v)&&decide (v<c.arts.length)) then
  match ygg c vs with
  |some s=>zqh c (yto vs) s
  |none=>none
 else none
theorem ziv (c:Codex) (vs:List Int):yg c vs=yjj c vs:=by
 unfold yg yjj;rw [zxf,yji];simp only [zzs]
 try rfl
theorem yzo:yg xC [0]=some ⟨8772,[true,false,false],[481,0,0],[0]⟩:=by rw [ziv];kernel_rfl
theorem yzp:yg xC [1]=none:=by rw [ziv];kernel_rfl
theorem ytp:wy xD=some (0,1,⟨8766,[false,true,true],[0,1,31],[0,1]⟩):=by
 unfold wy;simp only [ziv]
 kernel_rfl
theorem ywk:zdo xC=[1]:=by
 unfold zdo;simp only [ziv,zxf]
 kernel_rfl
theorem ywl:zak (yc xR)=[0,1]:=by kernel_rfl
theorem ywm:zak (yc xC)=[]:=by kernel_rfl
def zgj (c:Codex) (p:Int × Int):Option (Int × Int × View):=if zbl c p.1 p.2 then (yg c [p.1,p.2]).map fun v=>(p.1,p.2,v) else none
def yru (n i j:Nat):List (Int × Int):=(List.range' j (n-j)).map fun (j:Nat)=>((i:Int),(j:Int))
def zos (n i:Nat):List (Int × Int):=(List.range' i (n-i)).flatMap fun i=>yru n i (i+1)
theorem zot:∀(k s i:Nat),s<=i+1->(List.range' s k).filter (fun j=>decide (i<j))=List.range' (i+1) (s+k-(i+1))
 |0,s,i,h=>by
  have:s+0-(i+1)=0:=by omega
  rw [this];rfl
 |k+1,s,i,h=>by
  rw [List.range'_succ,List.filter_cons]
  by_cases hs:i<s
  ·rw [if_pos (by simpa using hs)]
   have e:s=i+1:=by omega
   subst e;have h2:∀(k s:Nat),i<s->(List.range' s k).filter (fun j=>decide (i<j))=List.range' s k:=fun k s hs=>List.filter_eq_self.2 fun j hj=>by
    have:=(List.mem_range'_1.1 hj).1;simp;omega
   rw [h2 k _ (by omega),show i+1+(k+1)-(i+1)=k+1 by omega,List.range'_succ]
  ·rw [if_neg (by simpa using hs),zot k (s+1) i (by omega)]
   congr 1
   omega
theorem ymj (n:Nat):ztl n=zos n 0:=by
 unfold ztl zos yru;rw [List.range_eq_range',Nat.sub_zero]
 congr 1
 funext i
 rw [zot n 0 i (by omega),Nat.zero_add]
theorem zxh {n i:Nat} (h:i<n):zos n i=yru n i (i+1)++zos n (i+1):=by
 unfold zos;rw [show n-i=(n-(i+1))+1 by omega,List.range'_succ,List.flatMap_cons]
theorem ydh (n:Nat):zos n n=[]:=by unfold zos;simp
theorem ydi {n i j:Nat} (h:j<n):yru n i j=((i:Int),(j:Int))::yru n i (j+1):=by
 unfold yru;rw [show n-j=(n-(j+1))+1 by omega,List.range'_succ,List.map_cons]
theorem yjk {n i j:Nat} (h:n<=j):yru n i j=[]:=by
 unfold yru;rw [show n-j=0 by omega];rfl
theorem zxi {c:Codex} (hok:zv c=true):wy c=(zos c.arts.length 0).findSome? (zgj c):=by
 unfold wy;rw [if_pos hok,ymj];rfl
def yrd (o:Option (Int × Int × View)):SV:=
 match o with
 |some (i,j,v)=>.tup [sI i,sI j,.agg [sI v.day,.imm (qu v.has),.imm (zi v.value),.imm (zi v.arts)],sB true]
 |none=>.tup [sI 0,sI 0,.agg jc,sB false]
def yjl (o:Option (Int × Int × View)):SV:=.tup [sI ((o.map (·.1)).getD 0),sI ((o.map (·.2.1)).getD 0),View.sv ((o.map (·.2.2)).getD zrk),sB o.isSome]
theorem zxj (o:Option (Int × Int × View)):(yrd o).Is (yjl o):=by
 cases o with
 |some v=>exact SV.Is.refl _
 |none=>exact SIs.tup (.cons (SV.Is.refl _) (.cons (SV.Is.refl _) (.cons (SIs.agg (.cons (SV.Is.refl _) (.cons (SV.Is.nil 1) (.cons (SV.Is.nil 1) (.cons (SV.Is.nil 1) .nil))))) (.cons (SV.Is.refl _) .nil))))
theorem ywn (c:Codex) (hfit:Codex.fit c) (hS:zv c=true->SearchC c) (hz:c.arts.length<=1000000):
  zw Tryz.prog G0 13 [c.sv] (yrd (wy c)):=by
 have hal:(c.arts.map Article.cells).length=c.arts.length:=by simp
 have hV:=zbh G0 c hfit;refine zc Tryz.func13 rfl (by rw [Tryz.ntmps13];simp) rfl (by cases wy c<;>rfl) ?_;intro E hH hK;have hdo:=@zxi c;have hwi:=@zlt c;have hno:zv c=false->wy c=none:=fun h=>by unfold wy;rw [if_neg (by simp [h])]
 generalize hz2:zv c=z at hV hS hdo hwi hno;rw [show c.sv= .agg [.imm (zj c.facts),.imm (zj c.lines),.imm (yl c.arts)] from rfl];(refine zf ?_;conv=>whnf);refine ze rfl  hV ?_;cases z<;>((refine za ?_;conv=>whnf))
 ·rw [hno rfl] at hK
  exact hK _
 have hS:=hS rfl;have hdo:=hdo rfl;refine zg [1,2,3,4,5,17,18,19] ?_;change SW E _ [(1,.ptr 0 0),(2,sI 0),(3,sI 0),(4,.ptr 1 0),(5,sB false),(17,.imm (yl c.arts)),(18,sI (c.arts.map Article.cells).length),(19,sI 0)] [yfz c,.cells jc];refine zo c.arts (fun i (_:Unit)=>[(1,.ptr 0 0),(2,sI 0),(3,sI 0),(4,.ptr 1 0),(5,sB false),(17,.imm (yl c.arts)),(18,sI (c.arts.map Article.cells).length),(19,sI i)]) (fun _ _=>[yfz c,.cells jc])
  (fun done _ _=>wy c=(zos c.arts.length done.length).findSome? (zgj c)) () hdo ?_ ?_
 ·rintro _ h1
  rw [ydh] at h1;rw [h1] at hK;(refine zf ?_;conv=>whnf)
  repeat' ((with_reducible refine way ?_ ?_)<;>(intro h;conv=>whnf))
  all_goals try (exfalso;omega)
  exact hK _
 ·rintro done x rest _ hda hdl h1 ih
  have hw:=zk (n:=done.length) (by omega);rw [zxh (by omega),List.findSome?_append] at h1;have hnext:wy c=(zos c.arts.length (done.length+1)).findSome? (zgj c)->SW E _ _ _:=fun h=>ih () (by rw [List.length_append];exact h)
  (refine zf ?_;conv=>whnf)
  repeat' ((with_reducible refine way ?_ ?_)<;>(intro h;conv=>whnf))
  all_goals try (exfalso;omega)
  rw [hw];refine zg [1,2,3,4,5,6,7,17,18,19] ?_;refine xc (σ:=Nat) (fun j=>[(1,.ptr 0 0),(2,sI 0),(3,sI 0),(4,.ptr 1 0),(5,sB false),(6,sI done.length),(7,sI j),(17,.imm (yl c.arts)),(18,sI (c.arts.map Article.cells).length),(19,sI done.length)]) (fun _=>[yfz c,.cells jc])
   (fun j=>done.length+1<=j/\j<=c.arts.length/\wy c=((yru c.arts.length done.length j).findSome? (zgj c)).or ((zos c.arts.length (done.length+1)).findSome? (zgj c))) (fun j=>c.arts.length-j) ?_ (done.length+1) ⟨Nat.le_refl _,by omega,h1⟩
  rintro j ⟨j1,j2,j3⟩ ih2;have hwj:=zk (n:=j) (by omega)
  by_cases hj:j<c.arts.length
  ·rw [ydi hj,List.findSome?_cons] at j3
   have hi:∀v∈[(done.length:Int),(j:Int)],0<=v/\v<c.arts.length:=fun v hv=>by
    rcases List.mem_cons.1 hv with rfl|hv
    ·omega
    ·simp at hv;subst hv;omega
   have hcon:=ztv G0 c hS.need (done.length:Int) (j:Int) (by omega) (by omega) (by omega) (by omega);have hN:=zkf c hS [(done.length:Int),(j:Int)] hi (by simp) [yfz c,.cells jc];have hwi2:=hwi rfl hi;have hgo:zgj c ((done.length:Int),(j:Int))=none->SW E _ _ _:=fun h=>by
    rw [h] at j3;exact ih2 (j+1) ⟨by omega,by omega,j3⟩ (by omega)
   have hst:∀v,zgj c ((done.length:Int),(j:Int))=some v->wy c=some v:=fun v h=>by
    rw [h] at j3;exact j3
   have hcf:zgj c ((done.length:Int),(j:Int))=if zbl c done.length j then (yg c [(done.length:Int),(j:Int)]).map fun v=>((done.length:Int),(j:Int),v) else none:=rfl
   generalize zbl c (done.length:Int) (j:Int)=b at hcon hcf;(refine zf ?_;conv=>whnf)
   repeat' ((with_reducible refine way ?_ ?_)<;>(intro h;conv=>whnf))
   all_goals try (exfalso;omega)
   refine ze rfl  hcon ?_;cases b<;>((refine za ?_;conv=>whnf))
   ·rw [hwj]
    refine zg [1,2,3,4,5,6,7,17,18,19] ?_;exact hgo hcf
   refine qb (argv:=[c.sv,.imm (zi [(done.length:Int),(j:Int)])]) rfl rfl rfl rfl rfl rfl (hN.mono ?_);intro r H' hK1;cases hq:ws c [(done.length:Int),(j:Int)] with
   |none=>
    rw [hq] at hK1 hwi2;simp only at hwi2;rw [hwi2] at hcf;obtain ⟨p,H1,hp,rfl,rfl⟩:=hK1;refine ⟨Nat.le_add_left 2 _,?_⟩;refine Eq.mpr (congrArg (fun h=>SWr E _ _ _ _ h) (show _=yfz c:: .cells jc::H1 from rfl)) ?_;rcases hp with rfl|rfl<;>((refine za ?_;conv=>whnf))<;>rw [hwj]
    all_goals exact yy [1,2,3,4,5,6,7,17,18,19] 2 (by rw [hH];exact Nat.zero_le 2) (Nat.succ_le_succ (Nat.succ_le_succ (Nat.zero_le _))) rfl rfl (hgo hcf)
   |some q=>
    have hWt:=zpt c hS [(done.length:Int),(j:Int)] hi (by simp) q hq [yfz c,.cells jc];rw [hq] at hK1 hwi2;simp only at hwi2;obtain ⟨rfl,rfl⟩:=hK1;refine ⟨by rw [List.length_append];exact Nat.le_add_right _ _,?_⟩;(refine za ?_;conv=>whnf);refine qb rfl rfl rfl rfl rfl rfl (hWt.mono ?_);rintro r H' ⟨rfl,⟨H1,rfl⟩,hl⟩;refine ⟨hl,?_⟩;rw [<-hwi2];refine jx (t':=[(1,.ptr 0 0),(2,sI 0),(3,sI 0),(4,.ptr 1 0),(5,sB false),(6,sI done.length),(7,sI j),(17,.imm (yl c.arts)),(18,sI (c.arts.map Article.cells).length),(19,sI done.length),(48,zmg (yg c [(done.length:Int),(j:Int)]))]) (H':=[yfz c,.cells jc])
     (fun k h=>zg [1,2,3,4,5,6,7,17,18,19,48] (yhi 2 (by rw [hH];exact Nat.zero_le 2) (Nat.succ_le_succ (Nat.succ_le_succ (Nat.zero_le _))) (by cases yg c [(done.length:Int),(j:Int)]<;>rfl) rfl h)) ?_
    generalize yg c [(done.length:Int),(j:Int)]=o at hcf ⊢;cases o with
    |none=>
     (refine za ?_;conv=>whnf);rw [hwj];exact yy [1,2,3,4,5,6,7,17,18,19] 2 (by rw [hH];exact Nat.zero_le 2) (Nat.succ_le_succ (Nat.succ_le_succ (Nat.zero_le _))) rfl rfl (hgo hcf)
    |some v=>
     rw [hst _ hcf] at hK;(refine za ?_;conv=>whnf);refine zg [1,2,3,4,5,6,7,10] ?_;change SW E _ [(1,.ptr 0 0),(2,sI 0),(3,sI 0),(4,.ptr 1 0),(5,sB false),(6,sI done.length),(7,sI j),(10,.ptr 2 0)] [yfz c,.cells jc,.cells [sI v.day,.imm (qu v.has),.imm (zi v.value),.imm (zi v.arts)]];(refine zu 0 mixed rfl ?_;refine zb [777] (nx:=3) ?_;conv=>whnf);(refine zf ?_;conv=>whnf);exact hK _
  ·rw [yjk (by omega),List.findSome?_nil,Option.none_or] at j3
   have ej:j=c.arts.length:=by omega
   (refine zf ?_;conv=>whnf)
   repeat' ((with_reducible refine way ?_ ?_)<;>(intro h;conv=>whnf))
   all_goals try (exfalso;omega)
   rw [hw];refine zg [1,2,3,4,5,17,18,19] ?_;exact hnext j3
theorem zur (c:Codex) (hfit:Codex.fit c) (hS:zv c=true->SearchC c) (hz:c.arts.length<=1000000):
  zw Tryz.prog G0 13 [c.sv] (yjl (wy c)):=zao (ywn c hfit hS hz) (zxj _)
theorem yye (w:List (List Ex)) (h:∀es∈w,es.length<=41):Codex.fit (ymi w)/\∀a∈(ymi w).arts,a.when_.length<=41/\a.unless_.length<=80:=by
 have hm:∀a∈(ymi w).arts,a.when_.length<=41/\a.unless_.length<=80:=fun a ha=>by
  obtain ⟨i,hi,rfl⟩:=List.mem_mapIdx.1 ha;exact ⟨h _ (List.getElem_mem hi),Nat.zero_le _⟩
 exact ⟨fun a ha=>by have:=hm a ha;omega,hm⟩
theorem zko:Codex.fit xC/\SearchC xC/\xC.arts.length<=1000000:=by
 obtain ⟨h1,h2⟩:=yye [[zzr,ziu],[eT 6 zmi zmj],[eF 1 tT],[ymz]] (by simp);exact ⟨h1,zpy yyc (by decide) h2,by decide⟩
theorem yre:Codex.fit xD/\SearchC xD/\xD.arts.length<=1000000:=by
 obtain ⟨h1,h2⟩:=yye [[eF 1 tT],[ymz]] (by simp);exact ⟨h1,zpy yzn (by decide) h2,by decide⟩
theorem yjm:Codex.fit xR/\NeedC xR/\xR.arts.length<=60:=by
 have h:∀a∈xR.arts,a.when_.length<=1000000/\a.unless_.length<=1000000:=by simp [xR]
 exact ⟨fun a ha=>by have:=h a ha;omega,yix yyd h,by decide⟩
abbrev bx (x:Ex):SObj:=.cells (x.cells.map SV.imm)
abbrev bv (v:View):SObj:=.cells [sI v.day,.imm (qu v.has),.imm (zi v.value),.imm (zi v.arts)]
def yna (i:Nat) (n:Int):List D:=[dI ((i:Int)+1),dI 0,dI 1,dI 8766,dI 36525,dI 8766,zcg,zcg,dI 3,dI n,dS zqe,dI 0,zcg,zcg]
abbrev yzq (x y z:SObj) (cs:List SV):List SObj:=[bx zzr,bx ziu,bx zmi,bx zmj,bx ymz,zav xC,bv ⟨8772,[true,false,false],[481,0,0],[0]⟩,bv zrk,bv ⟨8766,[false,true,true],[0,1,31],[0,1]⟩,x,y,z,.cells cs]
theorem yzr:(SV.agg [.imm (zj zdq),.imm (zj zdr),.imm (.isl 14 [yna 0 2,yna 1 1])]).Is xR.sv:=by
 refine SIs.agg (.cons (SV.Is.refl _) (.cons (SV.Is.refl _) (.cons (D.Is.imm (DIss.isl (k:=14) (.cons ?_ (.cons ?_ .nil)))) .nil)))
 all_goals exact .cons (D.Is.refl _) (.cons (D.Is.refl _) (.cons (D.Is.refl _) (.cons (D.Is.refl _) (.cons (D.Is.refl _) (.cons (D.Is.refl _) (.cons (D.Is.nil 6) (.cons (D.Is.nil 1) (.cons (D.Is.refl _) (.cons (D.Is.refl _) (.cons (D.Is.refl _) (.cons (D.Is.refl _) (.cons (D.Is.nil 3) (.cons (D.Is.nil 6) .nil)))))))))))))
theorem yul : zw Tryz.prog G0 9 [] (sB true) := by
  have k480 := zqf G0 480 tM
  have f0 := yrb G0 0 tM
  have tLong := ymh G0 9 (eK 480 tM) (eF 0 tM)
  have k7 := zqf G0 7 tN
  have tSun := ymh G0 8 (.mk 4 1 tN 0 [] []) (eK 7 tN)
  have f2 := yrb G0 2 tN
  have k18 := zqf G0 18 tN
  have tYoung := ymh G0 9 (eF 2 tN) (eK 18 tN)
  have tAdult := ymh G0 10 (eK 18 tN) (eF 2 tN)
  have k30 := zqf G0 30 tN
  have tOld := ymh G0 9 (eK 30 tN) (eF 2 tN)
  have tAnd := ymh G0 6 zmi zmj
  have f1 := yrb G0 1 tT
  have eC := yde G0 [[zzr, ziu], [eT 6 zmi zmj], [eF 1 tT], [ymz]] (by decide)
  have eD := yde G0 [[eF 1 tT], [ymz]] (by decide)
  have w0 := zim xC zko.1 (fun _ => zko.2.1) zko.2.2 [0] (by decide)
  have w1 := zim xC zko.1 (fun _ => zko.2.1) zko.2.2 [1] (by decide)
  rw [yzo] at w0
  rw [yzp] at w1
  have cl := zur xD yre.1 (fun _ => yre.2.1) yre.2.2
  rw [ytp] at cl
  have s1 := zgc G0 ⟨8772, [true, false, false], [481, 0, 0], [0]⟩ ⟨8772, [true, false, false], [481, 0, 0], [0]⟩ ⟨by decide, by decide, by decide⟩ ⟨by decide, by decide, by decide⟩ (by decide) (by decide)
  rw [show View.same' ⟨8772, [true, false, false], [481, 0, 0], [0]⟩ ⟨8772, [true, false, false], [481, 0, 0], [0]⟩ = true by decide] at s1
  have s2 := zgc G0 ⟨8766, [false, true, true], [0, 1, 31], [0, 1]⟩ ⟨8766, [false, true, true], [0, 1, 31], [0, 1]⟩ ⟨by decide, by decide, by decide⟩ ⟨by decide, by decide, by decide⟩ (by decide) (by decide)
  rw [show View.same' ⟨8766, [false, true, true], [0, 1, 31], [0, 1]⟩ ⟨8766, [false, true, true], [0, 1, 31], [0, 1]⟩ = true by decide] at s2
  have dd := zxc xC zko.1 (fun _ => zko.2.1) zko.2.2
  rw [ywk] at dd
  have s3 := zgb G0 [1] [1] (by decide) (by decide)
  rw [show decide (([1] : List Int) = [1]) = true by decide] at s3
  have rr := zpu G0 xR yjm.1 (fun _ => yjm.2.1) (fun _ => yjm.2.2) (fun _ => zub yjm.2.2) (fun j => Nat.le_trans (ziq _ _) (by decide)) (by decide)
  rw [if_pos yyd, ywl] at rr
  have s4 := zgb G0 [0, 1] [0, 1] (by decide) (by decide)
  rw [show decide (([0, 1] : List Int) = [0, 1]) = true by decide] at s4
  have rc := zpu G0 xC zko.1 (fun _ => zko.2.1.need) (fun _ => by decide) (fun _ => zub (by decide)) (fun j => Nat.le_trans (ziq _ _) (by decide)) (by decide)
  rw [if_pos yyc, ywm] at rc
  refine zc Tryz.func9 rfl (by rw [Tryz.ntmps9]; simp) rfl rfl ?_; intro E hH hK
  (refine zf ?_; conv => whnf)
  refine ze rfl  k480 ?_
  (refine za ?_; conv => whnf)
  refine ze rfl  f0 ?_
  (refine za ?_; conv => whnf)
  refine ze rfl  tLong ?_
  (refine za ?_; conv => whnf)
  refine jx (fun k h => yux 20 rfl (zup 4 1 tN) h) ?_
  (refine za ?_; conv => whnf)
  refine ze rfl  k7 ?_
  (refine za ?_; conv => whnf)
  refine ze rfl  tSun ?_
  (refine za ?_; conv => whnf)
  refine ze rfl  f2 ?_
  (refine za ?_; conv => whnf)
  refine ze rfl  k18 ?_
  (refine za ?_; conv => whnf)
  refine ze rfl  tYoung ?_
  (refine za ?_; conv => whnf)
  refine ze rfl  k18 ?_
  (refine za ?_; conv => whnf)
  refine ze rfl  f2 ?_
  (refine za ?_; conv => whnf)
  refine ze rfl  tAdult ?_
  (refine za ?_; conv => whnf)
  refine ze rfl  k30 ?_
  (refine za ?_; conv => whnf)
  refine ze rfl  f2 ?_
  (refine za ?_; conv => whnf)
  refine ze rfl  tOld ?_
  (refine za ?_; conv => whnf)
  refine zg [1, 2, 3, 4, 5] ?_
  change SW E _ [(1, .ptr 0 0), (2, .ptr 1 0), (3, .ptr 2 0), (4, .ptr 3 0), (5, .ptr 4 0)] [bx zzr, bx ziu, bx zmi, bx zmj, bx ymz]
  (refine zu 1 mixed rfl ?_; refine zb [777] (nx := 5) ?_; conv => whnf)
  refine yi rfl (show 5 <= 6 by decide) tAnd ?_
  (refine zb [777] (nx := 5) ?_; conv => whnf)
  refine yi rfl (show 5 <= 6 by decide) f1 ?_
  (refine zb [777] (nx := 5) ?_; conv => whnf)
  refine yi rfl (show 5 <= 6 by decide) eC ?_
  (refine zb [777] (nx := 5) ?_; conv => whnf)
  refine zg [5, 6] ?_
  change SW E _ [(5, .ptr 4 0), (6, .ptr 5 0)] [bx zzr, bx ziu, bx zmi, bx zmj, bx ymz, zav xC]
  (refine zf ?_; conv => whnf)
  refine ze rfl  w0 ?_
  (refine za ?_; conv => whnf)
  refine ze rfl  w1 ?_
  (refine za ?_; conv => whnf)
  refine zg [5, 6, 7, 8, 10] ?_
  change SW E _ [(5, .ptr 4 0), (6, .ptr 5 0), (7, .ptr 6 0), (8, sB true), (10, sB false)] [bx zzr, bx ziu, bx zmi, bx zmj, bx ymz, zav xC, bv ⟨8772, [true, false, false], [481, 0, 0], [0]⟩, bv zrk]
  (refine zu 1 mixed rfl ?_; refine zb [777] (nx := 8) ?_; conv => whnf)
  refine yi rfl (show 8 <= 9 by decide) f1 ?_
  (refine zb [777] (nx := 8) ?_; conv => whnf)
  refine yi rfl (show 8 <= 9 by decide) eD ?_
  (refine zb [777] (nx := 8) ?_; conv => whnf)
  refine yi rfl (show 8 <= 9 by decide) cl ?_
  (refine zb [777] (nx := 8) ?_; conv => whnf)
  refine zg [6, 7, 8, 10, 11, 12, 13, 14] ?_
  change SW E _ [(6, .ptr 5 0), (7, .ptr 6 0), (8, sB true), (10, sB false), (11, sI 0), (12, sI 1), (13, .ptr 8 0), (14, sB true)] [bx zzr, bx ziu, bx zmi, bx zmj, bx ymz, zav xC, bv ⟨8772, [true, false, false], [481, 0, 0], [0]⟩, bv zrk, bv ⟨8766, [false, true, true], [0, 1, 31], [0, 1]⟩]
  have hV := zmv (yrc G0 [zcg, zcg] (by decide) (by simp)) [bx zzr, bx ziu, bx zmi, bx zmj, bx ymz, zav xC, bv ⟨8772, [true, false, false], [481, 0, 0], [0]⟩, bv zrk, bv ⟨8766, [false, true, true], [0, 1, 31], [0, 1]⟩]
  (refine zf ?_; conv => whnf)
  refine qb (argv := [.imm (.isl 1 [[zcg], [zcg]])]) rfl rfl rfl rfl rfl rfl (hV.mono ?_)
  rintro r H' ⟨r1, H1, ⟨rfl, x, y, rfl⟩, rfl, rfl⟩
  refine ⟨by rw [List.length_append]; exact Nat.le_add_right _ _, ?_⟩
  (refine za ?_; conv => whnf)
  refine jx (t' := [(6, .ptr 5 0), (7, .ptr 6 0), (8, sB true), (10, sB false), (11, sI 0), (12, sI 1), (13, .ptr 8 0), (14, sB true), (15, .ptr 12 0), (72, .vec 11 2), (73, ymg 3 2 zqe zcg)]) (H' := yzq (x.sh 9) (y.sh 9) (.vec 14 (zit 0 zcg ++ zit 1 zcg)) [.imm (zj zdq), .imm (zj zdr), .vec 11 2]) (fun k h => zg [6, 7, 8, 10, 11, 12, 13, 14, 15, 72, 73] h) ?_
  generalize x.sh 9 = x'
  generalize y.sh 9 = y'
  refine yhv (i := 0) (kk := 14) (n := 2) (b := 11) (cs := zit 0 zcg ++ zit 1 zcg) rfl rfl rfl rfl rfl rfl (by rfl) rfl rfl (by decide) rfl (by decide) ?_
  refine zwb (b := 11) (n := 2) (kk := 14) (cs := zit 0 zcg ++ zit 1 zcg) rfl rfl rfl rfl rfl rfl (sz := 5) (by rfl) rfl rfl (by decide) (by decide) ?_
  refine zue (b := 11) (n := 2) (off := 8) (ns := 6) (vcs := [sI 3, sI 2, sS zqe, sI 0, .imm zcg, .imm zcg]) (kk := 14) (cs := zit 0 zcg ++ zit 1 zcg) rfl rfl rfl rfl rfl rfl (by rfl) rfl rfl rfl (by decide) (by decide) (by decide) ?_
  refine jx (t' := [(6, .ptr 5 0), (7, .ptr 6 0), (8, sB true), (10, sB false), (11, sI 0), (12, sI 1), (13, .ptr 8 0), (14, sB true), (15, .ptr 12 0)]) (H' := yzq x' y' (.vec 14 ((yna 0 2).map SV.imm ++ zit 1 zcg)) [.imm (zj zdq), .imm (zj zdr), .vec 11 2]) (fun k h => zg [6, 7, 8, 10, 11, 12, 13, 14, 15] h) ?_
  (refine za ?_; conv => whnf)
  refine yhv (i := 1) (kk := 14) (n := 2) (b := 11) (cs := (yna 0 2).map SV.imm ++ zit 1 zcg) rfl rfl rfl rfl rfl rfl (by rfl) rfl rfl (by decide) rfl (by decide) ?_
  refine zwb (b := 11) (n := 2) (kk := 14) (cs := (yna 0 2).map SV.imm ++ zit 1 zcg) rfl rfl rfl rfl rfl rfl (sz := 5) (by rfl) rfl rfl (by decide) (by decide) ?_
  refine zue (b := 11) (n := 2) (off := 22) (ns := 6) (vcs := [sI 3, sI 1, sS zqe, sI 0, .imm zcg, .imm zcg]) (kk := 14) (cs := (yna 0 2).map SV.imm ++ zit 1 zcg) rfl rfl rfl rfl rfl rfl (by rfl) rfl rfl rfl (by decide) (by decide) (by decide) ?_
  refine jx (t' := [(6, .ptr 5 0), (7, .ptr 6 0), (8, sB true), (10, sB false), (11, sI 0), (12, sI 1), (13, .ptr 8 0), (14, sB true), (15, .ptr 12 0)]) (H' := yzq x' y' .dead [.imm (zj zdq), .imm (zj zdr), .imm (.isl 14 [yna 0 2, yna 1 1])]) (fun k h => zg [6, 7, 8, 10, 11, 12, 13, 14, 15]
    (yct 12 2 11 2 14 (cs0 := [.imm (zj zdq), .imm (zj zdr), .vec 11 2]) (cs := (yna 0 2 ++ yna 1 1).map SV.imm) (ds := yna 0 2 ++ yna 1 1) rfl rfl rfl rfl rfl rfl (by decide) h)) ?_
  (refine za ?_; conv => whnf)
  refine ze rfl  s1 ?_
  (refine za ?_; conv => whnf)
  refine ze rfl  s2 ?_
  (refine za ?_; conv => whnf)
  refine ze rfl  dd ?_
  (refine za ?_; conv => whnf)
  refine ze rfl  s3 ?_
  (refine za ?_; conv => whnf)
  refine jx (fun k h => yux 122 rfl yzr h) ?_
  refine ze rfl  rr ?_
  (refine za ?_; conv => whnf)
  refine ze rfl  s4 ?_
  (refine za ?_; conv => whnf)
  refine ze rfl  rc ?_
  (refine za ?_; conv => whnf)
  exact hK _
def zat (n:Int):List Article->Nat->Int
 |[],_=> -1
 |d::r,i=>if d.number=n then i else zat n r (i+1)
theorem ziw (c:Codex) (n:Int) (hsz:c.arts.length<=9223372036854775807):zw Tryz.prog G 52 [c.sv,sI n] (sI (zat n c.arts 0)):=by
 refine zc Tryz.func52 rfl (by rw [Tryz.ntmps52];simp) rfl rfl ?_;intro E hH hK;have hlen:(c.arts.map Article.cells).length=c.arts.length:=by simp
 (refine zl ?_;conv=>whnf);refine zg [1,2,5] ?_;refine zo c.arts (fun i (_:Unit)=>[(1,sI n),(2,.ptr 0 0),(5,sI i)]) (fun _ _=>[.cells [.imm (zj c.facts),.imm (zj c.lines),.imm (yl c.arts)]])
  (fun done rest _=>zat n c.arts 0=zat n rest done.length) () rfl ?_ ?_
 ·rintro _ h1
  (refine zl ?_;conv=>whnf)
  repeat' ((with_reducible refine way ?_ ?_)<;>(intro h;conv=>whnf))
  all_goals try (exfalso;omega)
  exact kI hK (by rw [h1];rfl)
 ·rintro done d rest _ ha hl h1 ih
  have hw:=zk (n:=done.length) (by omega);simp only [zat] at h1;(refine zl ?_;conv=>whnf)
  repeat' ((with_reducible refine way ?_ ?_)<;>(intro h;conv=>whnf))
  all_goals try (exfalso;omega)
  refine zh rfl rfl  (row:=d.cells) (by simp [ha]) ?_;(refine zm ?_;conv=>whnf)
  repeat' ((with_reducible refine way ?_ ?_)<;>(intro h;conv=>whnf))
  ·exact kI hK (by rw [h1,if_pos h])
  ·rw [hw];exact yy [1,2,5] 1 (by simp [hH]) (by simp) rfl rfl (ih () (by rw [h1,if_neg h];simp))
theorem zni (n:Int):∀(l:List Article) (i:Nat),zat n l i= -1\/((i:Int)<=zat n l i/\zat n l i<i+l.length/\∃a,l[(zat n l i).toNat-i]?=some a/\a.number=n)
 |[],i=>.inl rfl
 |a::r,i=>by
  simp only [zat];split
  ·rename_i h
   right
   refine ⟨by omega,by simp;omega,a,by simp,h⟩
  ·rcases zni n r (i+1) with h|⟨h1,h2,x,h3,h4⟩
   ·exact .inl h
   ·right
    refine ⟨by omega,by simp;omega,x,?_,h4⟩;rw [show (zat n r (i+1)).toNat-i=((zat n r (i+1)).toNat-(i+1))+1 by omega];simpa using h3
theorem zqi (n:Int):∀(l:List Article) (i:Nat),zat n l i= -1 ↔ ∀a∈l,a.number≠n
 |[],i=>by simp [zat]
 |a::r,i=>by
  simp only [zat];split
  ·rename_i h
   constructor
   ·intro h';omega
   ·intro h';exact absurd h (h' a (by simp))
  ·rename_i h
   rw [zqi n r (i+1)];simp [h]
def zkp (L:Int) (a:Article):Bool:=decide (a.when_.length<=40)&&decide (a.unless_.length<=80)&&decide ((yx a.amount:Int)<=L)&&a.when_.all (fun e=>decide ((yx e:Int)<=L))
def zvt (c:Codex) (L:Int):Bool:=decide (c.facts.length<=40)&&decide (c.lines.length<=40)&&decide (c.arts.length<=70)&&c.arts.all (zkp L)
theorem ytq (c:Codex) (L:Int) (h0:0<=L) (h1:L<=999999):zw Tryz.prog G 39 [c.sv,sI L] (sB (zvt c L)):=by
 refine zc Tryz.func39 rfl (by rw [Tryz.ntmps39];simp) rfl rfl ?_;intro E hH hK;have hlf:(c.facts.map Decl.cells).length=c.facts.length:=by simp
 have hll:(c.lines.map Decl.cells).length=c.lines.length:=by simp
 have hla:(c.arts.map Article.cells).length=c.arts.length:=by simp
 (refine zl ?_;conv=>whnf)
 repeat' ((with_reducible refine way ?_ ?_)<;>(intro h;conv=>whnf))
 all_goals try exact kB hK (by simp [zvt];intros;omega)
 have hsz:c.facts.length<=40/\c.lines.length<=40/\c.arts.length<=70:=by omega
 have hok:zvt c L=c.arts.all (zkp L):=by simp [zvt,hsz]
 refine zg [1,2,5] ?_;refine zo c.arts (fun i (_:Unit)=>[(1,sI L),(2,.ptr 0 0),(5,sI i)]) (fun _ _=>[.cells [.imm (zj c.facts),.imm (zj c.lines),.imm (yl c.arts)]])
  (fun done rest _=>c.arts.all (zkp L)=rest.all (zkp L)) () rfl ?_ ?_
 ·rintro _ h1
  (refine zl ?_;conv=>whnf)
  repeat' ((with_reducible refine way ?_ ?_)<;>(intro h;conv=>whnf))
  all_goals try (exfalso;omega)
  exact kB hK (by rw [hok,h1];rfl)
 ·rintro done a rest _ ha hl hinv ih
  have hw:=zk (n:=done.length) (by omega);simp only [List.all_cons] at hinv;obtain ⟨op,n,u,den,ps,ks,ham⟩:∃op n u den ps ks,a.amount= .mk op n u den ps ks:=by cases h:a.amount;exact ⟨_,_,_,_,_,_,rfl⟩
  have hrow:(c.arts.map Article.cells)[((done.length:Nat):Int).toNat]?=some [dI a.number,dI a.line,dI a.rank,dI a.lo,dI a.hi,dI a.known,ye a.when_,zi a.unless_,dI op,dI n,dS u,dI den,.isl 3 (ps.map Piece.cells),.isl 6 (zd ks)]:=by
   simp [ha,Article.cells,ham,zp,Ex.op,Ex.n,Ex.unit,Ex.den,Ex.pieces,Ex.kids]
  have hwl:(a.when_.map Ex.cells).length=a.when_.length:=by simp
  have hul:(a.unless_.map fun n=>[dI n]).length=a.unless_.length:=by simp
  have bad:zkp L a=false->zvt c L=false:=fun h=>by rw [hok,hinv,h];rfl
  (refine zl ?_;conv=>whnf)
  repeat' ((with_reducible refine way ?_ ?_)<;>(intro h;conv=>whnf))
  all_goals try (exfalso;omega)
  refine zh rfl rfl  (row:=[dI a.number,dI a.line,dI a.rank,dI a.lo,dI a.hi,dI a.known,ye a.when_,zi a.unless_,dI op,dI n,dS u,dI den,.isl 3 (ps.map Piece.cells),.isl 6 (zd ks)]) hrow ?_;(refine zm ?_;conv=>whnf)
  repeat' ((with_reducible refine way ?_ ?_)<;>(intro h;conv=>whnf))
  all_goals try exact kB hK (bad (by simp [zkp];intros;omega))
  refine ze rfl  (zpi G (.mk op n u den ps ks) L h0 h1) ?_;(refine zm ?_;conv=>whnf)
  repeat' ((with_reducible refine way ?_ ?_)<;>(intro h;conv=>whnf))
  ·exact kB hK (bad (by simp [zkp,ham];intros;omega))
  have hgood:zkp L a=a.when_.all (fun e=>decide ((yx e:Int)<=L)):=by
   simp only [zkp,ham];rw [decide_eq_true (by omega),decide_eq_true (by omega),decide_eq_true h];rfl
  refine zg [1,2,5,6,7] ?_;refine zo a.when_ (fun i (_:Unit)=>[(1,sI L),(2,.ptr 0 0),(5,sI done.length),(6,.ptr 1 0),(7,sI i)])
   (fun _ _=>[.cells [.imm (zj c.facts),.imm (zj c.lines),.imm (yl c.arts)],.cells (zmu a op n u den ps ks)])
   (fun done rest _=>a.when_.all (fun e=>decide ((yx e:Int)<=L))=rest.all (fun e=>decide ((yx e:Int)<=L))) () rfl ?_ ?_
  ·rintro _ h2
   (refine zl ?_;conv=>whnf)
   repeat' ((with_reducible refine way ?_ ?_)<;>(intro h;conv=>whnf))
   all_goals try (exfalso;omega)
   rw [hw];exact yy [1,2,5] 1 (by simp [hH]) (by simp) rfl rfl (ih () (by rw [hinv,hgood,h2];rfl))
  ·rintro d2 e r2 _ ha2 hl2 h2 ih2
   have hw2:=zk (n:=d2.length) (by omega);simp only [List.all_cons] at h2;obtain ⟨o1,n1,u1,d1,p1,q1⟩:=e;(refine zl ?_;conv=>whnf)
   repeat' ((with_reducible refine way ?_ ?_)<;>(intro h;conv=>whnf))
   all_goals try (exfalso;omega)
   refine zh rfl rfl  (row:=(Ex.mk o1 n1 u1 d1 p1 q1).cells) (by simp [ha2]) ?_;(refine zm ?_;conv=>whnf);refine ze rfl  (zpi G (.mk o1 n1 u1 d1 p1 q1) L h0 h1) ?_;(refine zm ?_;conv=>whnf)
   repeat' ((with_reducible refine way ?_ ?_)<;>(intro h;conv=>whnf))
   ·exact kB hK (bad (by rw [hgood,h2,decide_eq_false h];rfl))
   ·rw [hw2]
    exact yy [1,2,5,6,7] 2 (by simp [hH]) (by simp) rfl rfl (ih2 () (by rw [h2,decide_eq_true h];rfl))
section
variable {P:Program} {G:List (Nat × D)} {fn:Func} {rd:Bool} {E:En P G fn rd} {t:List (Nat × SV)} {H:List SObj} {k:List Item} {all:Array Oper} {rest:List Oper} {o:Oper}
end
def yyf (c:Codex):Bool:=zvt c 400&&decide (c.arts.length<=12)&&decide (c.facts.length<=12)
theorem ymk (c:Codex):zw Tryz.prog G0 10 [c.sv] (sB (yyf c)):=by
 have hal:(c.arts.map Article.cells).length=c.arts.length:=by simp
 have hfl:(c.facts.map Decl.cells).length=c.facts.length:=by simp
 have hfw:=ytq G0 c 400 (by decide) (by decide);have hu:yyf c=(zvt c 400&&decide (c.arts.length<=12)&&decide (c.facts.length<=12)):=rfl;rw [hu];generalize zvt c 400=b at hfw;refine zc Tryz.func10 rfl (by rw [Tryz.ntmps10];simp) rfl rfl ?_;intro E hH hK;rw [show c.sv= .agg [.imm (zj c.facts),.imm (zj c.lines),.imm (yl c.arts)] from rfl];(refine zf ?_;conv=>whnf);refine ze rfl  hfw ?_;cases b<;>((refine za ?_;conv=>whnf))
 ·exact hK _
 ·repeat' ((with_reducible refine way ?_ ?_)<;>(intro h;conv=>whnf))
  ·have h1:c.arts.length<=12:=by omega
   rw [decide_eq_true h1,Bool.true_and,Bool.true_and] at hK;have:decide (((c.facts.map Decl.cells).length:Int)<=12)=decide (c.facts.length<=12):=by rw [hfl];exact decide_eq_decide.2 (by omega)
   rw [<-this] at hK;exact hK _
  ·have h1:¬c.arts.length<=12:=by omega
   rw [decide_eq_false h1,Bool.and_false,Bool.false_and] at hK;exact hK _
theorem yrf {c:Codex} (h:yyf c=true):c.arts.length<=12/\c.facts.length<=12/\zvt c 420=true/\∀a∈c.arts,a.when_.length<=41/\a.unless_.length<=80:=by
 unfold yyf at h;simp only [Bool.and_eq_true,decide_eq_true_eq] at h;obtain ⟨⟨h1,h2⟩,h3⟩:=h;unfold zvt at h1 ⊢;simp only [Bool.and_eq_true,decide_eq_true_eq,List.all_eq_true] at h1 ⊢;refine ⟨h2,h3,⟨h1.1,fun a ha=>?_⟩,fun a ha=>?_⟩
 ·have:=h1.2 a ha
  unfold zkp at this ⊢;simp only [Bool.and_eq_true,decide_eq_true_eq,List.all_eq_true] at this ⊢;exact ⟨⟨this.1.1,by omega⟩,fun e he=>by have:=this.2 e he;omega⟩
 ·have:=h1.2 a ha
  unfold zkp at this;simp only [Bool.and_eq_true,decide_eq_true_eq,List.all_eq_true] at this;exact ⟨by have:=this.1.1.1;omega,this.1.1.2⟩
def zbs (c : Codex) (op n : Int) (u : ByteArray) : Bool :=
  if op = 1 then ql u && decide (0 <= n) && decide (n <= 999999999999) && (!decide (u = tT) || decide (n <= 1))
  else if op = 2 then decide (0 <= n) && decide (n < c.facts.length) && zeq c.facts n u
  else if op = 3 then (match c.arts[(zat n c.arts 0).toNat]? with
    | some a => decide (0 <= zat n c.arts 0) && decide (0 <= a.line) && decide (a.line < c.lines.length) && zeq c.lines a.line u
    | none => false)
  else if op = 4 then decide (1 <= n) && decide (n <= 4) && decide (u = tN)
  else false
theorem ydj (c : Codex) (op n : Int) (u : ByteArray) (den : Int) (ps : List Piece) (ks : List Ex) (hsz : c.arts.length <= 9223372036854775807) :
    zw Tryz.prog G 118 [c.sv, (Ex.mk op n u den ps ks).sv] (sB (zbs c op n u)) := by
  refine zc Tryz.func118 rfl (by rw [Tryz.ntmps118]; simp) rfl rfl ?_; intro E hH hK
  have hf : (c.facts.map Decl.cells).length = c.facts.length := by simp
  have hl : (c.lines.map Decl.cells).length = c.lines.length := by simp
  by_cases h1 : op = 1
  · subst h1
    have hr : zbs c 1 n u = (ql u && decide (0 <= n) && decide (n <= 999999999999) && (!decide (u = tT) || decide (n <= 1))) := rfl
    rw [hr] at hK
    (refine zl ?_; conv => whnf)
    refine ze rfl  (ybe G u) ?_
    (refine zm ?_; conv => whnf)
    repeat' ((with_reducible refine way ?_ ?_) <;> (intro h; conv => whnf))
    all_goals exact kB hK (by first | (rw [‹ql u = true›]; simp [*]; done) | (simp [*]; done))
  by_cases h2 : op = 2
  · subst h2
    have hr : zbs c 2 n u = (decide (0 <= n) && decide (n < c.facts.length) && zeq c.facts n u) := rfl
    rw [hr] at hK
    (refine zl ?_; conv => whnf)
    (refine xq mixed rfl ?_; refine zn [] ?_; conv => whnf)
    repeat' ((with_reducible refine way ?_ ?_) <;> (intro h; conv => whnf))
    · have hlt : n.toNat < c.facts.length := by omega
      obtain ⟨d, hd⟩ : ∃ d, c.facts[n.toNat]? = some d := ⟨c.facts[n.toNat], List.getElem?_eq_getElem hlt⟩
      refine wq rfl (i := n.toNat) (by omega) (row := d.cells) (by simp [hd]) ?_
      (refine zn [] ?_; conv => whnf)
      (refine zl ?_; conv => whnf)
      refine kB hK ?_
      have hua : zeq c.facts n u = decide (u = d.unit) := by simp only [zeq, hd]
      rw [hua, decide_eq_true (by omega), decide_eq_true (by omega)]
      rfl
    all_goals (refine zl ?_; conv => whnf)
    · exact kB hK (by rw [decide_eq_false (p := n < c.facts.length) (by omega)]; simp)
    · exact kB hK (by rw [decide_eq_false (p := 0 <= n) (by omega)]; simp)
  by_cases h3 : op = 3
  · subst h3
    have hr : zbs c 3 n u = (match c.arts[(zat n c.arts 0).toNat]? with
      | some a => decide (0 <= zat n c.arts 0) && decide (0 <= a.line) && decide (a.line < c.lines.length) && zeq c.lines a.line u
      | none => false) := rfl
    rw [hr] at hK
    (refine zl ?_; conv => whnf)
    refine ze rfl  (ziw G c n hsz) ?_
    (refine zm ?_; conv => whnf)
    rcases zni n c.arts 0 with h | ⟨g1, g2, a, g3, g4⟩
    · rw [h] at hK ⊢
      (refine xq mixed rfl ?_; refine zn [] ?_; conv => whnf)
      (refine zl ?_; conv => whnf)
      refine kB hK ?_
      split <;> rfl
    · rw [Nat.sub_zero] at g3
      rw [g3] at hK
      simp only [decide_eq_true (show (0 : Int) <= zat n c.arts 0 from g1), Bool.true_and] at hK
      generalize zat n c.arts 0 = ix at hK g1 g2 g3 ⊢
      (refine xq mixed rfl ?_; refine zn [] ?_; conv => whnf)
      repeat' ((with_reducible refine way ?_ ?_) <;> (intro h; conv => whnf))
      all_goals try (exfalso; omega)
      refine wq rfl (i := ix.toNat) (by omega) (row := a.cells) (by simp [g3]) ?_
      (refine zn [] ?_; conv => whnf)
      repeat' ((with_reducible refine way ?_ ?_) <;> (intro h; conv => whnf))
      · refine wq rfl (i := ix.toNat) (by omega) (row := a.cells) (by simp [g3]) ?_
        (refine zn [] ?_; conv => whnf)
        repeat' ((with_reducible refine way ?_ ?_) <;> (intro h; conv => whnf))
        · refine wq rfl (i := ix.toNat) (by omega) (row := a.cells) (by simp [g3]) ?_
          (refine zn [] ?_; conv => whnf)
          obtain ⟨d, hd⟩ : ∃ d, c.lines[a.line.toNat]? = some d := ⟨c.lines[a.line.toNat]'(by omega), List.getElem?_eq_getElem _⟩
          refine wq rfl (i := a.line.toNat) (by omega) (row := d.cells) (by simp [hd]) ?_
          (refine zn [] ?_; conv => whnf)
          (refine zl ?_; conv => whnf)
          refine kB hK ?_
          have hua : zeq c.lines a.line u = decide (u = d.unit) := by simp only [zeq, hd]
          rw [hua, decide_eq_true (p := 0 <= a.line) (by omega), decide_eq_true (p := a.line < c.lines.length) (by omega)]
          rfl
        · (refine zl ?_; conv => whnf)
          exact kB hK (by rw [decide_eq_false (p := a.line < c.lines.length) (by omega)]; simp)
      · (refine zl ?_; conv => whnf)
        exact kB hK (by rw [decide_eq_false (p := 0 <= a.line) (by omega)]; simp)
  · (refine zl ?_; conv => whnf)
    repeat' ((with_reducible refine way ?_ ?_) <;> (intro h; conv => whnf))
    all_goals try (exfalso; omega)
    all_goals exact kB hK (by simp only [zbs, if_neg h1, if_neg h2, if_neg h3]; simp [*])
theorem yyg (u:ByteArray) (f l:Ex) (len:Int) (h:2<=len):zbu 16 u f l len true=(!decide (f.unit=tT)&&decide (u=f.unit)):=by simp [zbu,h]
theorem yyh (u:ByteArray) (f l:Ex) (len:Int) (h:2<=len):zbu 17 u f l len true=(!decide (f.unit=tT)&&decide (u=f.unit)):=by simp [zbu,h]
theorem yzs (u:ByteArray) (f l:Ex):zbu 6 u f l 2 (decide (l.unit=f.unit))=(decide (u=tT)&&decide (f.unit=tT)&&decide (l.unit=tT)):=by
 by_cases e:f.unit=tT
 ·simp [zbu,e]
 ·simp [zbu,e]
theorem yzt (u:ByteArray) (f l:Ex):zbu 7 u f l 2 (decide (l.unit=f.unit))=(decide (u=tT)&&decide (f.unit=tT)&&decide (l.unit=tT)):=by
 by_cases e:f.unit=tT
 ·simp [zbu,e]
 ·simp [zbu,e]
theorem yzu (u:ByteArray) (f l:Ex):zbu 8 u f l 2 (decide (l.unit=f.unit))=(decide (u=tT)&&decide (f.unit=l.unit)):=by
 simp [zbu,eq_comm (a:=l.unit)]
theorem yzv (u:ByteArray) (f l:Ex):zbu 9 u f l 2 (decide (l.unit=f.unit))=(decide (u=tT)&&decide (f.unit=l.unit)&& !decide (f.unit=tT)):=by
 simp [zbu,Bool.and_assoc,eq_comm (a:=l.unit)]
theorem yyi (u:ByteArray) (f l:Ex):zbu 10 u f l 2 (decide (l.unit=f.unit))=(decide (u=tT)&&decide (f.unit=l.unit)&& !decide (f.unit=tT)):=by
 simp [zbu,Bool.and_assoc,eq_comm (a:=l.unit)]
theorem yyj (u:ByteArray) (f l:Ex):zbu 11 u f l 2 (decide (l.unit=f.unit))=(decide (u=f.unit)&&decide (f.unit=l.unit)&& !decide (f.unit=tT)):=by
 by_cases e1:u=f.unit<;>by_cases e2:l.unit=f.unit<;>simp [zbu,e1,e2,eq_comm (a:=f.unit)]
theorem yyk (u:ByteArray) (f l:Ex):zbu 12 u f l 2 (decide (l.unit=f.unit))=(decide (u=f.unit)&&decide (f.unit=l.unit)&& !decide (f.unit=tT)):=by
 by_cases e1:u=f.unit<;>by_cases e2:l.unit=f.unit<;>simp [zbu,e1,e2,eq_comm (a:=f.unit)]
theorem yyl (u:ByteArray) (f l:Ex) (s:Bool):zbu 13 u f l 2 s=(!decide (f.unit=tT)&& !decide (l.unit=tT)&&((decide (f.unit=tN)&&decide (u=l.unit))||(decide (l.unit=tN)&&decide (u=f.unit)))):=by
 by_cases e1:f.unit=tN
 ·by_cases e2:l.unit=tN
  ·simp [zbu,e1,e2]
  ·simp [zbu,e1,e2]
 ·simp [zbu,e1,Bool.and_assoc]
theorem yym (u:ByteArray) (f l:Ex) (s:Bool):zbu 14 u f l 2 s=(decide (u=f.unit)&& !decide (f.unit=tT)&&decide (l.op=1)&&decide (l.unit=tN)&&decide (1<=l.n)&&decide (l.n<=1000000)):=by
 have e1:(!decide (l.n<1))=decide (1<=l.n):=by rw [Bool.eq_iff_iff];simp
 have e2:(!decide (1000000<l.n))=decide (l.n<=1000000):=by rw [Bool.eq_iff_iff];simp
 simp only [zbu];rw [e1,e2]
 by_cases f1:u=f.unit<;>by_cases f2:f.unit=tT<;>simp [f1,f2,Bool.and_assoc]
theorem yyn (u:ByteArray) (f l:Ex) (s:Bool):zbu 15 u f l 2 s=(decide (f.unit=tM)&&zgk l.unit&&decide (u=l.unit)):=by simp [zbu]
theorem ytr (op:Int) (u:ByteArray) (f l:Ex) (s:Bool) (h:op<6\/17<op):zbu op u f l 2 s=false:=by
 by_cases e5:op=5
 ·subst e5;simp [zbu]
 ·simp only [zbu]
  rw [if_neg e5,if_neg (by omega),if_neg (by omega),if_neg (by omega),if_neg (by omega),if_neg (by omega),if_neg (by omega),if_neg (by omega),if_neg (by omega)]
theorem yml (n:Int) (u:ByteArray) (den:Int) (ps:List Piece) (k0 k1:Ex):zw Tryz.prog G 120 [(Ex.mk 6 n u den ps [k0,k1]).sv] (sB (zbu 6 u k0 k1 2 (decide (k1.unit=k0.unit)))):=by
 have hrows:=zp [k0,k1];have hlen:(zd [k0,k1]).length=2:=by rw [hrows];rfl
 have h0:(zd [k0,k1])[0]?=some k0.cells:=by rw [hrows];rfl
 have h1:(zd [k0,k1])[1]?=some k1.cells:=by rw [hrows];rfl
 have hkl:[k0,k1].length=2:=rfl;generalize [k0,k1]=ks at hrows hlen h0 h1 hkl ⊢;refine zc Tryz.func120 rfl (by rw [Tryz.ntmps120];simp) rfl rfl ?_;intro E hH hK;obtain ⟨o0,n0,u0,d0,p0,q0⟩:=k0;obtain ⟨o1,n1,u1,d1,p1,q1⟩:=k1
 replace hK:∀H',E.K (sB (decide (u=tT)&&decide (u0=tT)&&decide (u1=tT))) H':=by
  intro H';have:=hK H';rw [yzs] at this;exact this
 (refine zl ?_;conv=>whnf);refine zh rfl rfl  (row:=(Ex.mk o0 n0 u0 d0 p0 q0).cells) h0 ?_;(refine zm ?_;conv=>whnf);refine zh rfl rfl  (row:=(Ex.mk o1 n1 u1 d1 p1 q1).cells) h1 ?_;(refine zm ?_;conv=>whnf);refine zg [1,3,4,5] ?_;refine zo ks (fun i (_:Unit)=>[(1,.ptr 0 0),(3,sS u0),(4,sS u1),(5,sI i)]) (fun _ _=>[.cells [sI 6,sI n,sS u,sI den,.imm (.isl 3 (ps.map Piece.cells)),.imm (.isl 6 (zd ks))]])
  (fun _ _ _=>True) () trivial ?_ ?_
 ·as_aux_lemma=>
   rintro _ _;(refine zl ?_;conv=>whnf)
   repeat' ((with_reducible refine way ?_ ?_)<;>(intro h;conv=>whnf))
   all_goals try (exfalso;omega)
   all_goals exact kB hK (by simp [tT,tN, *])
 ·as_aux_lemma=>
   rintro done k rest _ ha hl _ ih;have hw:=zk (n:=done.length) (by omega);(refine zl ?_;conv=>whnf)
   repeat' ((with_reducible refine way ?_ ?_)<;>(intro h;conv=>whnf))
   all_goals try (exfalso;omega)
   all_goals (rw [hw];exact yy [1,3,4,5] 1 (by simp [hH]) (by simp) rfl rfl (ih () trivial))
theorem ymm (n:Int) (u:ByteArray) (den:Int) (ps:List Piece) (k0 k1:Ex):zw Tryz.prog G 120 [(Ex.mk 7 n u den ps [k0,k1]).sv] (sB (zbu 7 u k0 k1 2 (decide (k1.unit=k0.unit)))):=by
 have hrows:=zp [k0,k1];have hlen:(zd [k0,k1]).length=2:=by rw [hrows];rfl
 have h0:(zd [k0,k1])[0]?=some k0.cells:=by rw [hrows];rfl
 have h1:(zd [k0,k1])[1]?=some k1.cells:=by rw [hrows];rfl
 have hkl:[k0,k1].length=2:=rfl;generalize [k0,k1]=ks at hrows hlen h0 h1 hkl ⊢;refine zc Tryz.func120 rfl (by rw [Tryz.ntmps120];simp) rfl rfl ?_;intro E hH hK;obtain ⟨o0,n0,u0,d0,p0,q0⟩:=k0;obtain ⟨o1,n1,u1,d1,p1,q1⟩:=k1
 replace hK:∀H',E.K (sB (decide (u=tT)&&decide (u0=tT)&&decide (u1=tT))) H':=by
  intro H';have:=hK H';rw [yzt] at this;exact this
 (refine zl ?_;conv=>whnf);refine zh rfl rfl  (row:=(Ex.mk o0 n0 u0 d0 p0 q0).cells) h0 ?_;(refine zm ?_;conv=>whnf);refine zh rfl rfl  (row:=(Ex.mk o1 n1 u1 d1 p1 q1).cells) h1 ?_;(refine zm ?_;conv=>whnf);refine zg [1,3,4,5] ?_;refine zo ks (fun i (_:Unit)=>[(1,.ptr 0 0),(3,sS u0),(4,sS u1),(5,sI i)]) (fun _ _=>[.cells [sI 7,sI n,sS u,sI den,.imm (.isl 3 (ps.map Piece.cells)),.imm (.isl 6 (zd ks))]])
  (fun _ _ _=>True) () trivial ?_ ?_
 ·as_aux_lemma=>
   rintro _ _;(refine zl ?_;conv=>whnf)
   repeat' ((with_reducible refine way ?_ ?_)<;>(intro h;conv=>whnf))
   all_goals try (exfalso;omega)
   all_goals exact kB hK (by simp [tT,tN, *])
 ·as_aux_lemma=>
   rintro done k rest _ ha hl _ ih;have hw:=zk (n:=done.length) (by omega);(refine zl ?_;conv=>whnf)
   repeat' ((with_reducible refine way ?_ ?_)<;>(intro h;conv=>whnf))
   all_goals try (exfalso;omega)
   all_goals (rw [hw];exact yy [1,3,4,5] 1 (by simp [hH]) (by simp) rfl rfl (ih () trivial))
theorem ymn (n:Int) (u:ByteArray) (den:Int) (ps:List Piece) (k0 k1:Ex):zw Tryz.prog G 120 [(Ex.mk 8 n u den ps [k0,k1]).sv] (sB (zbu 8 u k0 k1 2 (decide (k1.unit=k0.unit)))):=by
 have hrows:=zp [k0,k1];have hlen:(zd [k0,k1]).length=2:=by rw [hrows];rfl
 have h0:(zd [k0,k1])[0]?=some k0.cells:=by rw [hrows];rfl
 have h1:(zd [k0,k1])[1]?=some k1.cells:=by rw [hrows];rfl
 have hkl:[k0,k1].length=2:=rfl;generalize [k0,k1]=ks at hrows hlen h0 h1 hkl ⊢;refine zc Tryz.func120 rfl (by rw [Tryz.ntmps120];simp) rfl rfl ?_;intro E hH hK;obtain ⟨o0,n0,u0,d0,p0,q0⟩:=k0;obtain ⟨o1,n1,u1,d1,p1,q1⟩:=k1
 replace hK:∀H',E.K (sB (decide (u=tT)&&decide (u0=u1))) H':=by
  intro H';have:=hK H';rw [yzu] at this;exact this
 (refine zl ?_;conv=>whnf);refine zh rfl rfl  (row:=(Ex.mk o0 n0 u0 d0 p0 q0).cells) h0 ?_;(refine zm ?_;conv=>whnf);refine zh rfl rfl  (row:=(Ex.mk o1 n1 u1 d1 p1 q1).cells) h1 ?_;(refine zm ?_;conv=>whnf);refine zg [1,3,4,5] ?_;refine zo ks (fun i (_:Unit)=>[(1,.ptr 0 0),(3,sS u0),(4,sS u1),(5,sI i)]) (fun _ _=>[.cells [sI 8,sI n,sS u,sI den,.imm (.isl 3 (ps.map Piece.cells)),.imm (.isl 6 (zd ks))]])
  (fun _ _ _=>True) () trivial ?_ ?_
 ·as_aux_lemma=>
   rintro _ _;(refine zl ?_;conv=>whnf)
   repeat' ((with_reducible refine way ?_ ?_)<;>(intro h;conv=>whnf))
   all_goals try (exfalso;omega)
   all_goals exact kB hK (by simp [tT,tN, *])
 ·as_aux_lemma=>
   rintro done k rest _ ha hl _ ih;have hw:=zk (n:=done.length) (by omega);(refine zl ?_;conv=>whnf)
   repeat' ((with_reducible refine way ?_ ?_)<;>(intro h;conv=>whnf))
   all_goals try (exfalso;omega)
   all_goals (rw [hw];exact yy [1,3,4,5] 1 (by simp [hH]) (by simp) rfl rfl (ih () trivial))
theorem ymo (n:Int) (u:ByteArray) (den:Int) (ps:List Piece) (k0 k1:Ex):zw Tryz.prog G 120 [(Ex.mk 9 n u den ps [k0,k1]).sv] (sB (zbu 9 u k0 k1 2 (decide (k1.unit=k0.unit)))):=by
 have hrows:=zp [k0,k1];have hlen:(zd [k0,k1]).length=2:=by rw [hrows];rfl
 have h0:(zd [k0,k1])[0]?=some k0.cells:=by rw [hrows];rfl
 have h1:(zd [k0,k1])[1]?=some k1.cells:=by rw [hrows];rfl
 have hkl:[k0,k1].length=2:=rfl;generalize [k0,k1]=ks at hrows hlen h0 h1 hkl ⊢;refine zc Tryz.func120 rfl (by rw [Tryz.ntmps120];simp) rfl rfl ?_;intro E hH hK;obtain ⟨o0,n0,u0,d0,p0,q0⟩:=k0;obtain ⟨o1,n1,u1,d1,p1,q1⟩:=k1
 replace hK:∀H',E.K (sB (decide (u=tT)&&decide (u0=u1)&& !decide (u0=tT))) H':=by
  intro H';have:=hK H';rw [yzv] at this;exact this
 (refine zl ?_;conv=>whnf);refine zh rfl rfl  (row:=(Ex.mk o0 n0 u0 d0 p0 q0).cells) h0 ?_;(refine zm ?_;conv=>whnf);refine zh rfl rfl  (row:=(Ex.mk o1 n1 u1 d1 p1 q1).cells) h1 ?_;(refine zm ?_;conv=>whnf);refine zg [1,3,4,5] ?_;refine zo ks (fun i (_:Unit)=>[(1,.ptr 0 0),(3,sS u0),(4,sS u1),(5,sI i)]) (fun _ _=>[.cells [sI 9,sI n,sS u,sI den,.imm (.isl 3 (ps.map Piece.cells)),.imm (.isl 6 (zd ks))]])
  (fun _ _ _=>True) () trivial ?_ ?_
 ·as_aux_lemma=>
   rintro _ _;(refine zl ?_;conv=>whnf)
   repeat' ((with_reducible refine way ?_ ?_)<;>(intro h;conv=>whnf))
   all_goals try (exfalso;omega)
   all_goals exact kB hK (by simp [tT,tN, *])
 ·as_aux_lemma=>
   rintro done k rest _ ha hl _ ih;have hw:=zk (n:=done.length) (by omega);(refine zl ?_;conv=>whnf)
   repeat' ((with_reducible refine way ?_ ?_)<;>(intro h;conv=>whnf))
   all_goals try (exfalso;omega)
   all_goals (rw [hw];exact yy [1,3,4,5] 1 (by simp [hH]) (by simp) rfl rfl (ih () trivial))
theorem ygh (n:Int) (u:ByteArray) (den:Int) (ps:List Piece) (k0 k1:Ex):zw Tryz.prog G 120 [(Ex.mk 10 n u den ps [k0,k1]).sv] (sB (zbu 10 u k0 k1 2 (decide (k1.unit=k0.unit)))):=by
 have hrows:=zp [k0,k1];have hlen:(zd [k0,k1]).length=2:=by rw [hrows];rfl
 have h0:(zd [k0,k1])[0]?=some k0.cells:=by rw [hrows];rfl
 have h1:(zd [k0,k1])[1]?=some k1.cells:=by rw [hrows];rfl
 have hkl:[k0,k1].length=2:=rfl;generalize [k0,k1]=ks at hrows hlen h0 h1 hkl ⊢;refine zc Tryz.func120 rfl (by rw [Tryz.ntmps120];simp) rfl rfl ?_;intro E hH hK;obtain ⟨o0,n0,u0,d0,p0,q0⟩:=k0;obtain ⟨o1,n1,u1,d1,p1,q1⟩:=k1
 replace hK:∀H',E.K (sB (decide (u=tT)&&decide (u0=u1)&& !decide (u0=tT))) H':=by
  intro H';have:=hK H';rw [yyi] at this;exact this
 (refine zl ?_;conv=>whnf);refine zh rfl rfl  (row:=(Ex.mk o0 n0 u0 d0 p0 q0).cells) h0 ?_;(refine zm ?_;conv=>whnf);refine zh rfl rfl  (row:=(Ex.mk o1 n1 u1 d1 p1 q1).cells) h1 ?_;(refine zm ?_;conv=>whnf);refine zg [1,3,4,5] ?_;refine zo ks (fun i (_:Unit)=>[(1,.ptr 0 0),(3,sS u0),(4,sS u1),(5,sI i)]) (fun _ _=>[.cells [sI 10,sI n,sS u,sI den,.imm (.isl 3 (ps.map Piece.cells)),.imm (.isl 6 (zd ks))]])
  (fun _ _ _=>True) () trivial ?_ ?_
 ·as_aux_lemma=>
   rintro _ _;(refine zl ?_;conv=>whnf)
   repeat' ((with_reducible refine way ?_ ?_)<;>(intro h;conv=>whnf))
   all_goals try (exfalso;omega)
   all_goals exact kB hK (by simp [tT,tN, *])
 ·as_aux_lemma=>
   rintro done k rest _ ha hl _ ih;have hw:=zk (n:=done.length) (by omega);(refine zl ?_;conv=>whnf)
   repeat' ((with_reducible refine way ?_ ?_)<;>(intro h;conv=>whnf))
   all_goals try (exfalso;omega)
   all_goals (rw [hw];exact yy [1,3,4,5] 1 (by simp [hH]) (by simp) rfl rfl (ih () trivial))
theorem ygi (n:Int) (u:ByteArray) (den:Int) (ps:List Piece) (k0 k1:Ex):zw Tryz.prog G 120 [(Ex.mk 11 n u den ps [k0,k1]).sv] (sB (zbu 11 u k0 k1 2 (decide (k1.unit=k0.unit)))):=by
 have hrows:=zp [k0,k1];have hlen:(zd [k0,k1]).length=2:=by rw [hrows];rfl
 have h0:(zd [k0,k1])[0]?=some k0.cells:=by rw [hrows];rfl
 have h1:(zd [k0,k1])[1]?=some k1.cells:=by rw [hrows];rfl
 have hkl:[k0,k1].length=2:=rfl;generalize [k0,k1]=ks at hrows hlen h0 h1 hkl ⊢;refine zc Tryz.func120 rfl (by rw [Tryz.ntmps120];simp) rfl rfl ?_;intro E hH hK;obtain ⟨o0,n0,u0,d0,p0,q0⟩:=k0;obtain ⟨o1,n1,u1,d1,p1,q1⟩:=k1
 replace hK:∀H',E.K (sB (decide (u=u0)&&decide (u0=u1)&& !decide (u0=tT))) H':=by
  intro H';have:=hK H';rw [yyj] at this;exact this
 (refine zl ?_;conv=>whnf);refine zh rfl rfl  (row:=(Ex.mk o0 n0 u0 d0 p0 q0).cells) h0 ?_;(refine zm ?_;conv=>whnf);refine zh rfl rfl  (row:=(Ex.mk o1 n1 u1 d1 p1 q1).cells) h1 ?_;(refine zm ?_;conv=>whnf);refine zg [1,3,4,5] ?_;refine zo ks (fun i (_:Unit)=>[(1,.ptr 0 0),(3,sS u0),(4,sS u1),(5,sI i)]) (fun _ _=>[.cells [sI 11,sI n,sS u,sI den,.imm (.isl 3 (ps.map Piece.cells)),.imm (.isl 6 (zd ks))]])
  (fun _ _ _=>True) () trivial ?_ ?_
 ·as_aux_lemma=>
   rintro _ _;(refine zl ?_;conv=>whnf)
   repeat' ((with_reducible refine way ?_ ?_)<;>(intro h;conv=>whnf))
   all_goals try (exfalso;omega)
   all_goals exact kB hK (by simp [tT,tN, *])
 ·as_aux_lemma=>
   rintro done k rest _ ha hl _ ih;have hw:=zk (n:=done.length) (by omega);(refine zl ?_;conv=>whnf)
   repeat' ((with_reducible refine way ?_ ?_)<;>(intro h;conv=>whnf))
   all_goals try (exfalso;omega)
   all_goals (rw [hw];exact yy [1,3,4,5] 1 (by simp [hH]) (by simp) rfl rfl (ih () trivial))
theorem ygj (n:Int) (u:ByteArray) (den:Int) (ps:List Piece) (k0 k1:Ex):zw Tryz.prog G 120 [(Ex.mk 12 n u den ps [k0,k1]).sv] (sB (zbu 12 u k0 k1 2 (decide (k1.unit=k0.unit)))):=by
 have hrows:=zp [k0,k1];have hlen:(zd [k0,k1]).length=2:=by rw [hrows];rfl
 have h0:(zd [k0,k1])[0]?=some k0.cells:=by rw [hrows];rfl
 have h1:(zd [k0,k1])[1]?=some k1.cells:=by rw [hrows];rfl
 have hkl:[k0,k1].length=2:=rfl;generalize [k0,k1]=ks at hrows hlen h0 h1 hkl ⊢;refine zc Tryz.func120 rfl (by rw [Tryz.ntmps120];simp) rfl rfl ?_;intro E hH hK;obtain ⟨o0,n0,u0,d0,p0,q0⟩:=k0;obtain ⟨o1,n1,u1,d1,p1,q1⟩:=k1
 replace hK:∀H',E.K (sB (decide (u=u0)&&decide (u0=u1)&& !decide (u0=tT))) H':=by
  intro H';have:=hK H';rw [yyk] at this;exact this
 (refine zl ?_;conv=>whnf);refine zh rfl rfl  (row:=(Ex.mk o0 n0 u0 d0 p0 q0).cells) h0 ?_;(refine zm ?_;conv=>whnf);refine zh rfl rfl  (row:=(Ex.mk o1 n1 u1 d1 p1 q1).cells) h1 ?_;(refine zm ?_;conv=>whnf);refine zg [1,3,4,5] ?_;refine zo ks (fun i (_:Unit)=>[(1,.ptr 0 0),(3,sS u0),(4,sS u1),(5,sI i)]) (fun _ _=>[.cells [sI 12,sI n,sS u,sI den,.imm (.isl 3 (ps.map Piece.cells)),.imm (.isl 6 (zd ks))]])
  (fun _ _ _=>True) () trivial ?_ ?_
 ·as_aux_lemma=>
   rintro _ _;(refine zl ?_;conv=>whnf)
   repeat' ((with_reducible refine way ?_ ?_)<;>(intro h;conv=>whnf))
   all_goals try (exfalso;omega)
   all_goals exact kB hK (by simp [tT,tN, *])
 ·as_aux_lemma=>
   rintro done k rest _ ha hl _ ih;have hw:=zk (n:=done.length) (by omega);(refine zl ?_;conv=>whnf)
   repeat' ((with_reducible refine way ?_ ?_)<;>(intro h;conv=>whnf))
   all_goals try (exfalso;omega)
   all_goals (rw [hw];exact yy [1,3,4,5] 1 (by simp [hH]) (by simp) rfl rfl (ih () trivial))
theorem ygk (n:Int) (u:ByteArray) (den:Int) (ps:List Piece) (k0 k1:Ex):zw Tryz.prog G 120 [(Ex.mk 13 n u den ps [k0,k1]).sv] (sB (zbu 13 u k0 k1 2 (decide (k1.unit=k0.unit)))):=by
 have hrows:=zp [k0,k1];have hlen:(zd [k0,k1]).length=2:=by rw [hrows];rfl
 have h0:(zd [k0,k1])[0]?=some k0.cells:=by rw [hrows];rfl
 have h1:(zd [k0,k1])[1]?=some k1.cells:=by rw [hrows];rfl
 have hkl:[k0,k1].length=2:=rfl;generalize [k0,k1]=ks at hrows hlen h0 h1 hkl ⊢;refine zc Tryz.func120 rfl (by rw [Tryz.ntmps120];simp) rfl rfl ?_;intro E hH hK;obtain ⟨o0,n0,u0,d0,p0,q0⟩:=k0;obtain ⟨o1,n1,u1,d1,p1,q1⟩:=k1
 replace hK:∀H',E.K (sB (!decide (u0=tT)&& !decide (u1=tT)&&((decide (u0=tN)&&decide (u=u1))||(decide (u1=tN)&&decide (u=u0))))) H':=by
  intro H';have:=hK H';rw [yyl] at this;exact this
 (refine zl ?_;conv=>whnf);refine zh rfl rfl  (row:=(Ex.mk o0 n0 u0 d0 p0 q0).cells) h0 ?_;(refine zm ?_;conv=>whnf);refine zh rfl rfl  (row:=(Ex.mk o1 n1 u1 d1 p1 q1).cells) h1 ?_;(refine zm ?_;conv=>whnf);refine zg [1,3,4,5] ?_;refine zo ks (fun i (_:Unit)=>[(1,.ptr 0 0),(3,sS u0),(4,sS u1),(5,sI i)]) (fun _ _=>[.cells [sI 13,sI n,sS u,sI den,.imm (.isl 3 (ps.map Piece.cells)),.imm (.isl 6 (zd ks))]])
  (fun _ _ _=>True) () trivial ?_ ?_
 ·as_aux_lemma=>
   rintro _ _;(refine zl ?_;conv=>whnf)
   repeat' ((with_reducible refine way ?_ ?_)<;>(intro h;conv=>whnf))
   all_goals try (exfalso;omega)
   all_goals exact kB hK (by simp [tT,tN, *])
 ·as_aux_lemma=>
   rintro done k rest _ ha hl _ ih;have hw:=zk (n:=done.length) (by omega);(refine zl ?_;conv=>whnf)
   repeat' ((with_reducible refine way ?_ ?_)<;>(intro h;conv=>whnf))
   all_goals try (exfalso;omega)
   all_goals (rw [hw];exact yy [1,3,4,5] 1 (by simp [hH]) (by simp) rfl rfl (ih () trivial))
theorem ygl (n:Int) (u:ByteArray) (den:Int) (ps:List Piece) (k0 k1:Ex):zw Tryz.prog G 120 [(Ex.mk 14 n u den ps [k0,k1]).sv] (sB (zbu 14 u k0 k1 2 (decide (k1.unit=k0.unit)))):=by
 have hrows:=zp [k0,k1];have hlen:(zd [k0,k1]).length=2:=by rw [hrows];rfl
 have h0:(zd [k0,k1])[0]?=some k0.cells:=by rw [hrows];rfl
 have h1:(zd [k0,k1])[1]?=some k1.cells:=by rw [hrows];rfl
 have hkl:[k0,k1].length=2:=rfl;generalize [k0,k1]=ks at hrows hlen h0 h1 hkl ⊢;refine zc Tryz.func120 rfl (by rw [Tryz.ntmps120];simp) rfl rfl ?_;intro E hH hK;obtain ⟨o0,n0,u0,d0,p0,q0⟩:=k0;obtain ⟨o1,n1,u1,d1,p1,q1⟩:=k1
 replace hK:∀H',E.K (sB (decide (u=u0)&& !decide (u0=tT)&&decide (o1=1)&&decide (u1=tN)&&decide (1<=n1)&&decide (n1<=1000000))) H':=by
  intro H';have:=hK H';rw [yym] at this;exact this
 (refine zl ?_;conv=>whnf);refine zh rfl rfl  (row:=(Ex.mk o0 n0 u0 d0 p0 q0).cells) h0 ?_;(refine zm ?_;conv=>whnf);refine zh rfl rfl  (row:=(Ex.mk o1 n1 u1 d1 p1 q1).cells) h1 ?_;(refine zm ?_;conv=>whnf);refine zg [1,3,4,5] ?_;refine zo ks (fun i (_:Unit)=>[(1,.ptr 0 0),(3,sS u0),(4,sS u1),(5,sI i)]) (fun _ _=>[.cells [sI 14,sI n,sS u,sI den,.imm (.isl 3 (ps.map Piece.cells)),.imm (.isl 6 (zd ks))]])
  (fun _ _ _=>True) () trivial ?_ ?_
 ·as_aux_lemma=>
   rintro _ _;(refine zl ?_;conv=>whnf)
   repeat' ((with_reducible refine way ?_ ?_)<;>(intro h;conv=>whnf))
   all_goals try (exfalso;omega)
   all_goals try exact kB hK (by simp [tT, *];done)
   refine zh rfl rfl  (row:=(Ex.mk o1 n1 u1 d1 p1 q1).cells) h1 ?_;(refine zm ?_;conv=>whnf)
   repeat' ((with_reducible refine way ?_ ?_)<;>(intro h;conv=>whnf))
   all_goals try exact kB hK (by simp [tT, *];done)
   refine zh rfl rfl  (row:=(Ex.mk o1 n1 u1 d1 p1 q1).cells) h1 ?_;(refine zm ?_;conv=>whnf)
   repeat' ((with_reducible refine way ?_ ?_)<;>(intro h;conv=>whnf))
   all_goals try exact kB hK (by simp [tT, *];done)
   refine zh rfl rfl  (row:=(Ex.mk o1 n1 u1 d1 p1 q1).cells) h1 ?_;(refine zm ?_;conv=>whnf)
   repeat' ((with_reducible refine way ?_ ?_)<;>(intro h;conv=>whnf))
   all_goals exact kB hK (by simp [tT, *])
 ·as_aux_lemma=>
   rintro done k rest _ ha hl _ ih;have hw:=zk (n:=done.length) (by omega);(refine zl ?_;conv=>whnf)
   repeat' ((with_reducible refine way ?_ ?_)<;>(intro h;conv=>whnf))
   all_goals try (exfalso;omega)
   all_goals (rw [hw];exact yy [1,3,4,5] 1 (by simp [hH]) (by simp) rfl rfl (ih () trivial))
theorem ygm (n:Int) (u:ByteArray) (den:Int) (ps:List Piece) (k0 k1:Ex):zw Tryz.prog G 120 [(Ex.mk 15 n u den ps [k0,k1]).sv] (sB (zbu 15 u k0 k1 2 (decide (k1.unit=k0.unit)))):=by
 have hrows:=zp [k0,k1];have hlen:(zd [k0,k1]).length=2:=by rw [hrows];rfl
 have h0:(zd [k0,k1])[0]?=some k0.cells:=by rw [hrows];rfl
 have h1:(zd [k0,k1])[1]?=some k1.cells:=by rw [hrows];rfl
 have hkl:[k0,k1].length=2:=rfl;generalize [k0,k1]=ks at hrows hlen h0 h1 hkl ⊢;refine zc Tryz.func120 rfl (by rw [Tryz.ntmps120];simp) rfl rfl ?_;intro E hH hK;obtain ⟨o0,n0,u0,d0,p0,q0⟩:=k0;obtain ⟨o1,n1,u1,d1,p1,q1⟩:=k1
 replace hK:∀H',E.K (sB (decide (u0=tM)&&zgk u1&&decide (u=u1))) H':=by
  intro H';have:=hK H';rw [yyn] at this;exact this
 (refine zl ?_;conv=>whnf);refine zh rfl rfl  (row:=(Ex.mk o0 n0 u0 d0 p0 q0).cells) h0 ?_;(refine zm ?_;conv=>whnf);refine zh rfl rfl  (row:=(Ex.mk o1 n1 u1 d1 p1 q1).cells) h1 ?_;(refine zm ?_;conv=>whnf);refine zg [1,3,4,5] ?_;refine zo ks (fun i (_:Unit)=>[(1,.ptr 0 0),(3,sS u0),(4,sS u1),(5,sI i)]) (fun _ _=>[.cells [sI 15,sI n,sS u,sI den,.imm (.isl 3 (ps.map Piece.cells)),.imm (.isl 6 (zd ks))]])
  (fun _ _ _=>True) () trivial ?_ ?_
 ·as_aux_lemma=>
   rintro _ _;(refine zl ?_;conv=>whnf)
   repeat' ((with_reducible refine way ?_ ?_)<;>(intro h;conv=>whnf))
   all_goals try (exfalso;omega)
   all_goals try exact kB hK (by simp [tM, *];done)
   refine ze rfl  (zyl G u1) ?_;(refine zm ?_;conv=>whnf)
   repeat' ((with_reducible refine way ?_ ?_)<;>(intro h;conv=>whnf))
   all_goals exact kB hK (by simp [tM, *])
 ·as_aux_lemma=>
   rintro done k rest _ ha hl _ ih;have hw:=zk (n:=done.length) (by omega);(refine zl ?_;conv=>whnf)
   repeat' ((with_reducible refine way ?_ ?_)<;>(intro h;conv=>whnf))
   all_goals try (exfalso;omega)
   all_goals (rw [hw];exact yy [1,3,4,5] 1 (by simp [hH]) (by simp) rfl rfl (ih () trivial))
theorem zzt (op n:Int) (u:ByteArray) (den:Int) (ps:List Piece) (k0 k1:Ex) (hc:op<6\/17<op):zw Tryz.prog G 120 [(Ex.mk op n u den ps [k0,k1]).sv] (sB (zbu op u k0 k1 2 (decide (k1.unit=k0.unit)))):=by
 have hrows:=zp [k0,k1];have hlen:(zd [k0,k1]).length=2:=by rw [hrows];rfl
 have h0:(zd [k0,k1])[0]?=some k0.cells:=by rw [hrows];rfl
 have h1:(zd [k0,k1])[1]?=some k1.cells:=by rw [hrows];rfl
 have hkl:[k0,k1].length=2:=rfl;generalize [k0,k1]=ks at hrows hlen h0 h1 hkl ⊢;refine zc Tryz.func120 rfl (by rw [Tryz.ntmps120];simp) rfl rfl ?_;intro E hH hK;obtain ⟨o0,n0,u0,d0,p0,q0⟩:=k0;obtain ⟨o1,n1,u1,d1,p1,q1⟩:=k1;rw [ytr _ _ _ _ _ hc] at hK;(refine zl ?_;conv=>whnf);refine zh rfl rfl  (row:=(Ex.mk o0 n0 u0 d0 p0 q0).cells) h0 ?_;(refine zm ?_;conv=>whnf);refine zh rfl rfl  (row:=(Ex.mk o1 n1 u1 d1 p1 q1).cells) h1 ?_;(refine zm ?_;conv=>whnf);refine zg [1,3,4,5] ?_;refine zo ks (fun i (_:Unit)=>[(1,.ptr 0 0),(3,sS u0),(4,sS u1),(5,sI i)]) (fun _ _=>[.cells [sI op,sI n,sS u,sI den,.imm (.isl 3 (ps.map Piece.cells)),.imm (.isl 6 (zd ks))]])
  (fun _ _ _=>True) () trivial ?_ ?_
 ·as_aux_lemma=>
   rintro _ _;(refine zl ?_;conv=>whnf)
   repeat' ((with_reducible refine way ?_ ?_)<;>(intro h;conv=>whnf))
   all_goals try (exfalso;omega)
   all_goals exact hK _
 ·as_aux_lemma=>
   rintro done k rest _ ha hl _ ih;have hw:=zk (n:=done.length) (by omega);(refine zl ?_;conv=>whnf)
   repeat' ((with_reducible refine way ?_ ?_)<;>(intro h;conv=>whnf))
   all_goals try (exfalso;omega)
   all_goals (rw [hw];exact yy [1,3,4,5] 1 (by simp [hH]) (by simp) rfl rfl (ih () trivial))
theorem zzu (op n:Int) (u:ByteArray) (den:Int) (ps:List Piece) (k0 k1 k2:Ex) (kr:List Ex) (hsz:kr.length<=100000) (hop:¬(op=16\/op=17)):
  zw Tryz.prog G 120 [(Ex.mk op n u den ps (k0::k1::k2::kr)).sv] (sB false):=by
 have hrows:=zp (k0::k1::k2::kr);have hlen:(zd (k0::k1::k2::kr)).length=kr.length+3:=by rw [hrows];simp
 have h0:(zd (k0::k1::k2::kr))[0]?=some k0.cells:=by rw [hrows];rfl
 have h1:(zd (k0::k1::k2::kr))[1]?=some k1.cells:=by rw [hrows];rfl
 have hkl:(k0::k1::k2::kr).length=kr.length+3:=by simp
 generalize k0::k1::k2::kr=ks at hrows hlen h0 h1 hkl ⊢;refine zc Tryz.func120 rfl (by rw [Tryz.ntmps120];simp) rfl rfl ?_;intro E hH hK;obtain ⟨o0,n0,u0,d0,p0,q0⟩:=k0;obtain ⟨o1,n1,u1,d1,p1,q1⟩:=k1;(refine zl ?_;conv=>whnf);refine zh rfl rfl  (row:=(Ex.mk o0 n0 u0 d0 p0 q0).cells) h0 ?_;(refine zm ?_;conv=>whnf);refine zh rfl rfl  (row:=(Ex.mk o1 n1 u1 d1 p1 q1).cells) h1 ?_;(refine zm ?_;conv=>whnf);refine zg [1,3,4,5] ?_;refine zo ks (fun i (_:Unit)=>[(1,.ptr 0 0),(3,sS u0),(4,sS u1),(5,sI i)]) (fun _ _=>[.cells [sI op,sI n,sS u,sI den,.imm (.isl 3 (ps.map Piece.cells)),.imm (.isl 6 (zd ks))]])
  (fun _ _ _=>True) () trivial ?_ ?_
 ·as_aux_lemma=>
   rintro _ _;(refine zl ?_;conv=>whnf)
   repeat' ((with_reducible refine way ?_ ?_)<;>(intro h;conv=>whnf))
   all_goals try (exfalso;omega)
   all_goals exact hK _
 ·as_aux_lemma=>
   rintro done k rest _ ha hl _ ih;have hw:=zk (n:=done.length) (by omega);(refine zl ?_;conv=>whnf)
   repeat' ((with_reducible refine way ?_ ?_)<;>(intro h;conv=>whnf))
   all_goals try (exfalso;omega)
   all_goals (rw [hw];exact yy [1,3,4,5] 1 (by simp [hH]) (by simp) rfl rfl (ih () trivial))
theorem zzv (op n:Int) (u:ByteArray) (den:Int) (ps:List Piece) (k0 k1:Ex) (kr:List Ex) (hsz:kr.length<=100000) (hop:op=16\/op=17):
  zw Tryz.prog G 120 [(Ex.mk op n u den ps (k0::k1::kr)).sv] (sB (zdl (k0::k1::kr)&&(!decide (k0.unit=tT)&&decide (u=k0.unit)))):=by
 have hrows:=zp (k0::k1::kr);have hlen:(zd (k0::k1::kr)).length=kr.length+2:=by rw [hrows];simp
 have h0:(zd (k0::k1::kr))[0]?=some k0.cells:=by rw [hrows];rfl
 have h1:(zd (k0::k1::kr))[1]?=some k1.cells:=by rw [hrows];rfl
 have hkl:(k0::k1::kr).length=kr.length+2:=by simp
 have hsm:zdl (k0::k1::kr)=(k0::k1::kr).all fun x=>decide (x.unit=k0.unit):=rfl
 generalize k0::k1::kr=ks at hrows hlen h0 h1 hkl hsm ⊢;refine zc Tryz.func120 rfl (by rw [Tryz.ntmps120];simp) rfl rfl ?_;intro E hH hK;obtain ⟨o0,n0,u0,d0,p0,q0⟩:=k0;obtain ⟨o1,n1,u1,d1,p1,q1⟩:=k1
 replace hK:∀H',E.K (sB (zdl ks&&(!decide (u0=tT)&&decide (u=u0)))) H':=hK
 (refine zl ?_;conv=>whnf);refine zh rfl rfl  (row:=(Ex.mk o0 n0 u0 d0 p0 q0).cells) h0 ?_;(refine zm ?_;conv=>whnf);refine zh rfl rfl  (row:=(Ex.mk o1 n1 u1 d1 p1 q1).cells) h1 ?_;(refine zm ?_;conv=>whnf);refine zg [1,3,4,5] ?_;refine zo ks (fun i (_:Unit)=>[(1,.ptr 0 0),(3,sS u0),(4,sS u1),(5,sI i)]) (fun _ _=>[.cells [sI op,sI n,sS u,sI den,.imm (.isl 3 (ps.map Piece.cells)),.imm (.isl 6 (zd ks))]])
  (fun done rest _=>zdl ks=rest.all fun x=>decide (x.unit=u0)) () hsm ?_ ?_
 ·as_aux_lemma=>
   rintro _ hs;have hs':zdl ks=true:=by rw [hs];rfl
   rw [hs',Bool.true_and] at hK;(refine zl ?_;conv=>whnf)
   repeat' ((with_reducible refine way ?_ ?_)<;>(intro h;conv=>whnf))
   all_goals try (exfalso;omega)
   all_goals exact kB hK (by simp [tT, *])
 ·as_aux_lemma=>
   rintro done k rest _ ha hl hs ih;have hw:=zk (n:=done.length) (by omega);have hrow:(zd ks)[((done.length:Nat):Int).toNat]?=some k.cells:=by rw [hrows];simp [ha]
   obtain ⟨o2,n2,u2,d2,p2,q2⟩:=k;have hs':zdl ks=(decide (u2=u0)&&rest.all fun x=>decide (x.unit=u0)):=hs;have hbad:¬u2=u0->(zdl ks&&(!decide (u0=tT)&&decide (u=u0)))=false:=fun h=>by rw [hs',decide_eq_false h];rfl
   (refine zl ?_;conv=>whnf)
   repeat' ((with_reducible refine way ?_ ?_)<;>(intro h;conv=>whnf))
   all_goals try (exfalso;omega)
   all_goals refine zh rfl rfl  (row:=(Ex.mk o2 n2 u2 d2 p2 q2).cells) hrow ?_
   all_goals (refine zm ?_;conv=>whnf)
   all_goals repeat' ((with_reducible refine way ?_ ?_)<;>(intro h;conv=>whnf))
   all_goals first
    |exact kB hK (hbad (by assumption))
    |(rw [hw];exact yy [1,3,4,5] 1 (by simp [hH]) (by simp) rfl rfl (ih () (by rw [hs',decide_eq_true (by assumption)];rfl)))
theorem yrg (op n:Int) (u:ByteArray) (den:Int) (ps:List Piece) (k0 k1:Ex) (kr:List Ex) (hsz:kr.length<=100000):
  zw Tryz.prog G 120 [(Ex.mk op n u den ps (k0::k1::kr)).sv] (sB (zbu op u k0 (((k0::k1::kr).getLast?).getD k0) (k0::k1::kr).length (zdl (k0::k1::kr)))):=by
 by_cases hop:op=16\/op=17
 ·have:=zzv G op n u den ps k0 k1 kr hsz hop
  cases hs:zdl (k0::k1::kr) with
  |true=>
   rw [hs,Bool.true_and] at this;have h2:(2:Int)<=((k0::k1::kr).length:Nat):=by simp;omega
   rcases hop with rfl|rfl
   ·rw [yyg _ _ _ _ h2];exact this
   ·rw [yyh _ _ _ _ h2];exact this
  |false=>
   rw [hs,Bool.false_and] at this;have e:zbu op u k0 (((k0::k1::kr).getLast?).getD k0) (k0::k1::kr).length false=false:=by
    rcases hop with rfl|rfl<;>simp [zbu]
   rw [e];exact this
 ·cases kr with
  |cons k2 kr=>
   have e:zbu op u k0 (((k0::k1::k2::kr).getLast?).getD k0) (k0::k1::k2::kr).length (zdl (k0::k1::k2::kr))=false:=by
    simp only [zbu,if_neg hop];rw [decide_eq_false (p:=(((k0::k1::k2::kr).length:Nat):Int)=2) (by simp;omega),decide_eq_false (p:=(((k0::k1::k2::kr).length:Nat):Int)=1) (by simp;omega)];simp
   rw [e];exact zzu G op n u den ps k0 k1 k2 kr (by simp at hsz;omega) hop
  |nil=>
   have e1:([k0,k1].getLast?).getD k0=k1:=rfl;have e2:(([k0,k1].length:Nat):Int)=2:=rfl;have e3:zdl [k0,k1]=decide (k1.unit=k0.unit):=by simp [zdl]
   rw [e1,e2,e3];have hc:op=6\/op=7\/op=8\/op=9\/op=10\/op=11\/op=12\/op=13\/op=14\/op=15\/(op<6\/17<op):=by omega
   rcases hc with rfl|rfl|rfl|rfl|rfl|rfl|rfl|rfl|rfl|rfl|hc
   ·exact yml G n u den ps k0 k1
   ·exact ymm G n u den ps k0 k1
   ·exact ymn G n u den ps k0 k1
   ·exact ymo G n u den ps k0 k1
   ·exact ygh G n u den ps k0 k1
   ·exact ygi G n u den ps k0 k1
   ·exact ygj G n u den ps k0 k1
   ·exact ygk G n u den ps k0 k1
   ·exact ygl G n u den ps k0 k1
   ·exact ygm G n u den ps k0 k1
   ·exact zzt G op n u den ps k0 k1 hc
def zjj (c:Codex) (op n:Int) (u:ByteArray) (den:Int) (ps:List Piece) (ks:List Ex):Bool:=
 if op=18 then decide (n=0)&&decide (ks.length=1)&&zgk u&&(match ks with|k::_=>decide (u=k.unit)|[]=>false)&&zbf den ps
 else if ¬den=0\/0<ps.length then false
 else if 1<=op/\op<=4 then decide (ks.length=0)&&zbs c op n u
 else decide (n=0)&&(match ks.head?,ks.getLast? with|some f,some l=>zbu op u f l ks.length (zdl ks)|_,_=>false)
mutual
def zgx (c:Codex):Ex->Bool
 | .mk op n u den ps ks=>zqj c ks&&zjj c op n u den ps ks
def zqj (c:Codex):List Ex->Bool
 |[]=>true
 |k::r=>zgx c k&&zqj c r
end
theorem ymp (c:Codex) (ks:List Ex):zqj c ks=ks.all (zgx c):=by
 induction ks with
 |nil=>rfl
 |cons k r ih=>simp [zqj,ih]
theorem zre (c:Codex) (op n:Int) (u:ByteArray) (h:¬(1<=op/\op<=4)):zbs c op n u=false:=by
 simp only [zbs];rw [if_neg (by omega),if_neg (by omega),if_neg (by omega),if_neg (by omega)]
theorem ydk (c:Codex) (op n:Int) (u:ByteArray) (den:Int) (ps:List Piece):
  zjj c op n u den ps []=if (¬(1<=op/\op<=4)/\¬n=0)\/(¬op=18/\(¬den=0\/0<ps.length)) then false else zbs c op n u:=by
 simp only [zjj]
 by_cases h18:op=18
 ·subst h18
  rw [if_pos rfl,zre c 18 n u (by omega)];simp
 ·rw [if_neg h18]
  by_cases hd:¬den=0\/0<ps.length
  ·rw [if_pos hd,if_pos (.inr ⟨h18,hd⟩)]
  ·rw [if_neg hd]
   by_cases h4:1<=op/\op<=4
   ·rw [if_pos h4,if_neg (by simp [h4,hd])]
    simp
   ·rw [if_neg h4,zre c op n u h4]
    simp
theorem ydl (c:Codex) (op n:Int) (u:ByteArray) (den:Int) (ps:List Piece) (k:Ex):
  zjj c op n u den ps [k]=if (¬(1<=op/\op<=4)/\¬n=0)\/(¬op=18/\(¬den=0\/0<ps.length)) then false
   else (decide (op=5)&&decide (u=tT)&&decide (k.unit=tT))||(decide (op=18)&&decide (u=k.unit)&&zgk u&&zbf den ps):=by
 simp only [zjj]
 by_cases h18:op=18
 ·subst h18
  rw [if_pos rfl]
  by_cases hn:n=0
  ·rw [if_neg (by simp [hn])]
   simp [hn];cases zgk u<;>simp
  ·rw [if_pos (by left;exact ⟨by omega,hn⟩)]
   simp [hn]
 ·rw [if_neg h18]
  by_cases hd:¬den=0\/0<ps.length
  ·rw [if_pos hd,if_pos (.inr ⟨h18,hd⟩)]
  ·rw [if_neg hd]
   by_cases h4:1<=op/\op<=4
   ·rw [if_pos h4,if_neg (by simp [h4,hd])]
    have h5:¬op=5:=by omega
    simp [h18,h5]
   ·rw [if_neg h4]
    by_cases hn:n=0
    ·rw [if_neg (by simp [hn,hd])]
     by_cases h5:op=5
     ·subst h5;simp [zbu,hn]
     ·simp [zbu,hn,h5,h18]
    ·rw [if_pos (.inl ⟨h4,hn⟩)]
     simp [hn]
theorem zxk (c:Codex) (op n:Int) (u:ByteArray) (den:Int) (ps:List Piece) (k0 k1:Ex) (kr:List Ex):
  zjj c op n u den ps (k0::k1::kr)=if (¬(1<=op/\op<=4)/\¬n=0)\/(¬op=18/\(¬den=0\/0<ps.length)) then false
   else zbu op u k0 (((k0::k1::kr).getLast?).getD k0) (k0::k1::kr).length (zdl (k0::k1::kr)):=by
 have hno:op=18\/(1<=op/\op<=4)->zbu op u k0 (((k0::k1::kr).getLast?).getD k0) (k0::k1::kr).length (zdl (k0::k1::kr))=false:=fun h=>by
  simp only [zbu];rw [if_neg (by omega),if_neg (by omega),if_neg (by omega),if_neg (by omega),if_neg (by omega),if_neg (by omega),if_neg (by omega),if_neg (by omega),if_neg (by omega)]
 have hlast:∃l,(k0::k1::kr).getLast?=some l:=⟨_,List.getLast?_eq_some_getLast (by simp)⟩;obtain ⟨l,hl⟩:=hlast;simp only [zjj]
 by_cases h18:op=18
 ·rw [if_pos h18,hno (.inl h18)]
  simp
 ·rw [if_neg h18]
  by_cases hd:¬den=0\/0<ps.length
  ·rw [if_pos hd,if_pos (.inr ⟨h18,hd⟩)]
  ·rw [if_neg hd]
   by_cases h4:1<=op/\op<=4
   ·rw [if_pos h4,if_neg (by simp [h4,hd]),hno (.inr h4)]
    simp
   ·rw [if_neg h4]
    by_cases hn:n=0
    ·rw [if_neg (by simp [hn,hd]),hl]
     simp [hn]
    ·rw [if_pos (.inl ⟨h4,hn⟩)]
     simp [hn]
theorem ydm (c:Codex) (hsz:c.arts.length<=9223372036854775807) (N:Nat):∀(e:Ex),SizeOf.sizeOf e<N->yx e<=1000->zw Tryz.prog G 84 [c.sv,e.sv] (sB (zgx c e)):=by
 induction N with
 |zero=>intro e h;omega
 |succ N IH=>
 intro e he hs;obtain ⟨op,n,u,den,ps,ks⟩:=e;simp only [Ex.mk.sizeOf_spec] at he;simp only [yx] at hs;have hrows:=zp ks;have hlen:(zd ks).length=ks.length:=by rw [hrows];simp
 have hkl:=zch ks;have hpl:(ps.map Piece.cells).length=ps.length:=by simp
 have hfit:zgx c (.mk op n u den ps ks)=(ks.all (zgx c)&&zjj c op n u den ps ks):=by simp only [zgx,ymp]
 rw [hfit];refine zc Tryz.func84 rfl (by rw [Tryz.ntmps84];simp) rfl rfl ?_;intro E hH hK;(refine zl ?_;conv=>whnf);refine zg [2,3,5] ?_;refine zo ks (fun i (_:Unit)=>[(2,.ptr 0 0),(3,.ptr 1 0),(5,sI i)])
  (fun _ _=>[.cells [.imm (zj c.facts),.imm (zj c.lines),.imm (yl c.arts)],.cells [sI op,sI n,sS u,sI den,.imm (.isl 3 (ps.map Piece.cells)),.imm (.isl 6 (zd ks))]])
  (fun done rest _=>ks.all (zgx c)=rest.all (zgx c)) () rfl ?_ ?_
 ·as_aux_lemma=>
   rintro _ h1;have hall:ks.all (zgx c)=true:=by rw [h1];rfl
   rw [hall,Bool.true_and] at hK;clear IH h1 hfit
   by_cases hbad:(¬(1<=op/\op<=4)/\¬n=0)\/(¬op=18/\(¬den=0\/0<ps.length))
   ·have hr:zjj c op n u den ps ks=false:=by
     match ks with
     |[]=>rw [ydk,if_pos hbad]
     |[k]=>rw [ydl,if_pos hbad]
     |k0::k1::kr=>rw [zxk,if_pos hbad]
    rw [hr] at hK
    as_aux_lemma=>
     (refine zl ?_;conv=>whnf)
     repeat' ((with_reducible refine way ?_ ?_)<;>(intro h;first|(exfalso;omega)|(conv=>whnf)))
     all_goals try (exfalso;omega)
     all_goals exact hK _
   ·match ks with
    |[]=>
     rw [ydk,if_neg hbad] at hK
     as_aux_lemma=>
      (refine zl ?_;conv=>whnf)
      repeat' ((with_reducible refine way ?_ ?_)<;>(intro h;first|(exfalso;omega)|(conv=>whnf)))
      all_goals try (exfalso;omega)
      all_goals refine ze rfl  (ydj G c op n u den ps [] hsz) ?_
      all_goals (refine zm ?_;conv=>whnf)
      all_goals exact hK _
    |[k]=>
     rw [ydl,if_neg hbad] at hK;obtain ⟨o0,n0,u0,d0,p0,q0⟩:=k
     replace hK:∀H',E.K (sB ((decide (op=5)&&decide (u=tT)&&decide (u0=tT))||(decide (op=18)&&decide (u=u0)&&zgk u&&zbf den ps))) H':=hK
     have h0:(zd [Ex.mk o0 n0 u0 d0 p0 q0])[0]?=some (Ex.mk o0 n0 u0 d0 p0 q0).cells:=by rw [zp];rfl
     have hlen1:(zd [Ex.mk o0 n0 u0 d0 p0 q0]).length=1:=by rw [zp];rfl
     generalize zd [Ex.mk o0 n0 u0 d0 p0 q0]=rows at h0 hlen hlen1 ⊢
     by_cases h5:op=5
     ·subst h5
      replace hK:∀H',E.K (sB (decide (u=tT)&&decide (u0=tT))) H':=by simpa using hK
      as_aux_lemma=>
       (refine zl ?_;conv=>whnf)
       repeat' ((with_reducible refine way ?_ ?_)<;>(intro h;first|(exfalso;omega)|(conv=>whnf)))
       all_goals try (exfalso;omega)
       all_goals (refine xq mixed rfl ?_;refine zn [] ?_;conv=>whnf)
       all_goals repeat' ((with_reducible refine way ?_ ?_)<;>(intro h;first|(exfalso;omega)|(conv=>whnf)))
       all_goals try refine wq rfl rfl  (row:=(Ex.mk o0 n0 u0 d0 p0 q0).cells) h0 ?_
       all_goals try (refine zn [] ?_;conv=>whnf)
       all_goals try repeat' ((with_reducible refine way ?_ ?_)<;>(intro h;first|(exfalso;omega)|(conv=>whnf)))
       all_goals try (refine zl ?_;conv=>whnf)
       all_goals exact kB hK (by simp [tT, *])
     by_cases h18:op=18
     ·subst h18
      replace hK:∀H',E.K (sB (decide (u=u0)&&zgk u&&zbf den ps)) H':=by simpa using hK
      as_aux_lemma=>
       (refine zl ?_;conv=>whnf)
       repeat' ((with_reducible refine way ?_ ?_)<;>(intro h;first|(exfalso;omega)|(conv=>whnf)))
       all_goals try (exfalso;omega)
       (refine xq mixed rfl ?_;refine zn [] ?_;conv=>whnf);refine wq rfl rfl  (row:=(Ex.mk o0 n0 u0 d0 p0 q0).cells) h0 ?_;(refine zn [] ?_;conv=>whnf)
       repeat' ((with_reducible refine way ?_ ?_)<;>(intro h;first|(exfalso;omega)|(conv=>whnf)))
       ·refine zbt rfl  (zyl G u) ?_
        cases hc:zgk u with
        |false=>
         (refine zn [] ?_;conv=>whnf);(refine zl ?_;conv=>whnf);exact kB hK (by simp [hc])
        |true=>
         (refine zn [] ?_;conv=>whnf);refine zbt rfl  (zym G den ps) ?_;(refine zn [] ?_;conv=>whnf);(refine zl ?_;conv=>whnf);exact kB hK (by rw [hc,decide_eq_true h];rfl)
       ·(refine zl ?_;conv=>whnf)
        exact kB hK (by rw [decide_eq_false h];rfl)
     ·replace hK:∀H',E.K (sB false) H':=by simpa [h5,h18] using hK
      as_aux_lemma=>
       (refine zl ?_;conv=>whnf)
       repeat' ((with_reducible refine way ?_ ?_)<;>(intro h;first|(exfalso;omega)|(conv=>whnf)))
       all_goals try (exfalso;omega)
       all_goals (refine xq mixed rfl ?_;refine zn [] ?_;conv=>whnf)
       all_goals repeat' ((with_reducible refine way ?_ ?_)<;>(intro h;first|(exfalso;omega)|(conv=>whnf)))
       all_goals try (exfalso;omega)
       all_goals (refine zl ?_;conv=>whnf)
       all_goals exact hK _
    |k0::k1::kr=>
     rw [zxk,if_neg hbad] at hK
     as_aux_lemma=>
      (refine zl ?_;conv=>whnf)
      repeat' ((with_reducible refine way ?_ ?_)<;>(intro h;first|(exfalso;omega)|(conv=>whnf)))
      all_goals try (exfalso;omega)
      all_goals refine ze rfl  (yrg G op n u den ps k0 k1 kr (by simp at hkl;omega)) ?_
      all_goals (refine zm ?_;conv=>whnf)
      all_goals exact hK _
 ·as_aux_lemma=>
   rintro done k rest _ ha hl h1 ih;have hkm:SizeOf.sizeOf k<SizeOf.sizeOf ks:=List.sizeOf_lt_of_mem (by rw [ha];simp);have hks:yx k<=yb ks:=ztk (by rw [ha];simp);have hw:=zk (n:=done.length) (by omega);have hrow:(zd ks)[((done.length:Nat):Int).toNat]?=some k.cells:=by rw [hrows];simp [ha]
   have hcall:=IH k (by omega) (by omega);simp only [List.all_cons] at h1;obtain ⟨o1,n1,u1,d1,p1,q1⟩:=k;(refine zl ?_;conv=>whnf)
   repeat' ((with_reducible refine way ?_ ?_)<;>(intro h;first|(exfalso;omega)|(conv=>whnf)))
   all_goals try (exfalso;omega)
   (refine xq mixed rfl ?_;refine zn [] ?_;conv=>whnf);refine wq rfl rfl  (row:=(Ex.mk o1 n1 u1 d1 p1 q1).cells) hrow ?_;(refine zn [] ?_;conv=>whnf);refine zbt rfl  hcall ?_;cases hb:zgx c (.mk o1 n1 u1 d1 p1 q1) with
   |false=>
    (refine zn [] ?_;conv=>whnf);(refine zl ?_;conv=>whnf);exact kB hK (by rw [h1,hb];rfl)
   |true=>
    (refine zn [] ?_;conv=>whnf);(refine zl ?_;conv=>whnf);rw [hw];exact yy [2,3,5] 2 (by simp [hH]) (by simp) rfl rfl (ih () (by rw [h1,hb];rfl))
def qe (c:Codex) (e:Ex):Bool:=zei e&&zgx c e
theorem zmk (c:Codex) (hsz:c.arts.length<=9223372036854775807) (e:Ex):zw Tryz.prog G 53 [c.sv,e.sv] (sB (qe c e)):=by
 have hw:=zyr G e;have hf:=fun h=>ydm G c hsz (SizeOf.sizeOf e+1) e (by omega) h
 have he:qe c e=(zei e&&zgx c e):=rfl;rw [he];have hsmall:zei e=true->yx e<=1000:=fun h=>by simp [zei] at h;omega
 obtain ⟨op,n,u,den,ps,ks⟩:=e;refine zc Tryz.func53 rfl (by rw [Tryz.ntmps53];simp) rfl rfl ?_;intro E hH hK;(refine zl ?_;conv=>whnf);refine ze rfl  hw ?_;cases hwi:zei (.mk op n u den ps ks) with
 |false=>
  (refine zm ?_;conv=>whnf);exact kB hK (by rw [hwi];rfl)
 |true=>
  (refine zm ?_;conv=>whnf);refine ze rfl  (hf (hsmall hwi)) ?_;(refine zm ?_;conv=>whnf);exact kB hK (by rw [hwi];rfl)
def zfc (c:Codex) (n:Int):Int:=match c.arts[(zat n c.arts 0).toNat]? with|some a=>a.line|none=>0
def zaq (c:Codex) (a:Article):Bool:=
 decide (1<=a.number/\a.number<=1000000/\0<=a.line/\a.line<c.lines.length/\a.line=zfc c a.number)&&zda a&&a.when_.all (fun e=>qe c e&&decide (e.unit=tT))&&
 a.unless_.all (fun n=>decide (0<=zat n c.arts 0))&&(qe c a.amount&&decide (a.amount.unit=zfg c a.line))
def zkq (c:Codex):Bool:=
 (zab 0 0 c.facts&&decide (c.facts.length<=32))&&(zab 1 4 c.lines&&decide (c.lines.length<=32))&&decide (c.arts.length<=60)&&c.arts.all (zaq c)
theorem ydn (l:List Decl) (s:ByteArray) (hsz:l.length<=9223372036854775807):zw Tryz.prog G 82 [.imm (zj l),sS s] (sI (zqs s l 0)):=by
 refine zc Tryz.func82 rfl (by rw [Tryz.ntmps82];simp) rfl rfl ?_;intro E hH hK;have hlen:(l.map Decl.cells).length=l.length:=by simp
 (refine zl ?_;conv=>whnf);refine zg [0,1,5] ?_;refine zo l (fun i (_:Unit)=>[(0,.imm (zj l)),(1,sS s),(5,sI i)]) (fun _ _=>[]) (fun done rest _=>zqs s l 0=zqs s rest done.length) () rfl ?_ ?_
 ·rintro _ h1
  (refine zl ?_;conv=>whnf)
  repeat' ((with_reducible refine way ?_ ?_)<;>(intro h;conv=>whnf))
  all_goals try (exfalso;omega)
  exact kI hK (by rw [h1];rfl)
 ·rintro done d rest _ ha hl h1 ih
  have hw:=zk (n:=done.length) (by omega);simp only [zqs] at h1;(refine zl ?_;conv=>whnf)
  repeat' ((with_reducible refine way ?_ ?_)<;>(intro h;conv=>whnf))
  all_goals try (exfalso;omega)
  refine zh rfl rfl  (row:=d.cells) (by simp [ha]) ?_;(refine zm ?_;conv=>whnf)
  repeat' ((with_reducible refine way ?_ ?_)<;>(intro h;conv=>whnf))
  ·exact kI hK (by rw [h1,if_pos h])
  ·rw [hw];exact zg [0,1,5] (ih () (by rw [h1,if_neg h];simp))
theorem zml (l:List Decl) (lo hi:Int) (hsz:l.length<=9223372036854775807):zw Tryz.prog G 51 [.imm (zj l),sI lo,sI hi] (sB (zab lo hi l&&decide (l.length<=32))):=by
 refine zc Tryz.func51 rfl (by rw [Tryz.ntmps51];simp) rfl rfl ?_;intro E hH hK;have hlen:(l.map Decl.cells).length=l.length:=by simp
 (refine zl ?_;conv=>whnf);refine zg [0,1,2,7] ?_;refine zo l (fun i (_:Unit)=>[(0,.imm (zj l)),(1,sI lo),(2,sI hi),(7,sI i)]) (fun _ _=>[])
  (fun done _ _=>done.all (zbg lo hi)=true/\(done.map (·.name)).Nodup) () ⟨rfl,List.nodup_nil⟩ ?_ ?_
 ·rintro _ ⟨h1,h2⟩
  (refine zl ?_;conv=>whnf)
  repeat' ((with_reducible refine way ?_ ?_)<;>(intro h;conv=>whnf))
  all_goals try (exfalso;omega)
  exact kB hK (by simp only [zab,h1,h2];simp;omega)
 ·rintro done d rest _ ha hl ⟨h1,h2⟩ ih
  have hw:=zk (n:=done.length) (by omega);have bad:zbg lo hi d=false\/d.name∈done.map (·.name)->(zab lo hi l&&decide (l.length<=32))=false:=fun h=>by rw [ha,zti h];rfl
  have next:zbg lo hi d=true->d.name ∉ done.map (·.name)->_:=fun g1 g2=>ih () ⟨by simp [h1,g1],by
   rw [List.map_append,List.nodup_append];exact ⟨h2,by simp,fun a ha b hb e=>g2 (by simp at hb;rw [<-hb, <-e];exact ha)⟩⟩
  have hix:=ybj d.name done d rest 0 rfl;rw [<-ha] at hix;have hg:(l.map Decl.cells)[((done.length:Nat):Int).toNat]?=some d.cells:=by simp [ha]
  (refine zl ?_;conv=>whnf)
  repeat' ((with_reducible refine way ?_ ?_)<;>(intro h;conv=>whnf))
  all_goals try (exfalso;omega)
  refine zh rfl rfl  (row:=d.cells) (by simp [ha]) ?_;(refine zm ?_;conv=>whnf);refine ze rfl  (ybh G d.name) ?_;(refine zm ?_;conv=>whnf)
  repeat' ((with_reducible refine way ?_ ?_)<;>(intro h;conv=>whnf))
  any_goals exact kB hK (bad (.inl (by simp [zbg, *])))
  refine zh rfl rfl  (row:=d.cells) (by simp [ha]) ?_;(refine zm ?_;conv=>whnf);refine ze rfl  (ybe G d.unit) ?_;(refine zm ?_;conv=>whnf)
  repeat' ((with_reducible refine way ?_ ?_)<;>(intro h;conv=>whnf))
  any_goals exact kB hK (bad (.inl (by simp [zbg, *])))
  refine zh rfl rfl  (row:=d.cells) (by simp [ha]) ?_;(refine zm ?_;conv=>whnf)
  repeat' ((with_reducible refine way ?_ ?_)<;>(intro h;conv=>whnf))
  any_goals exact kB hK (bad (.inl (by simp [zbg, *];try omega)))
  refine zh rfl rfl  (row:=d.cells) (by simp [ha]) ?_;(refine zm ?_;conv=>whnf)
  repeat' ((with_reducible refine way ?_ ?_)<;>(intro h;conv=>whnf))
  any_goals exact kB hK (bad (.inl (by simp [zbg, *];try omega)))
  refine zh rfl rfl  (row:=d.cells) (by simp [ha]) ?_;(refine zm ?_;conv=>whnf);refine ze rfl  (ydn G l d.name hsz) ?_;(refine zm ?_;conv=>whnf)
  repeat' ((with_reducible refine way ?_ ?_)<;>(intro h;conv=>whnf))
  ·exact kB hK (bad (.inr (by
    rcases Classical.em (d.name∈done.map (·.name)) with h'|h'
    ·exact h'
    ·exact absurd (hix.2 h') (by simpa using h))))
  ·rw [hw]
   exact zg [0,1,2,7] (next (by simp [zbg, *];omega) (hix.1 (by simpa using h)))
theorem zaw (c:Codex) (hsf:c.facts.length<=9223372036854775807) (hsl:c.lines.length<=9223372036854775807) (hsa:c.arts.length<=9223372036854775807) (hart:Codex.fit c):zw Tryz.prog G 21 [c.sv] (sB (zkq c)):=by
 refine zc Tryz.func21 rfl (by rw [Tryz.ntmps21];simp) rfl rfl ?_;intro E hH hK;have hll:(c.lines.map Decl.cells).length=c.lines.length:=by simp
 have hla:(c.arts.map Article.cells).length=c.arts.length:=by simp
 (refine zl ?_;conv=>whnf);refine ze rfl  (zml G c.facts 0 0 (by omega)) ?_;cases hd1:(zab 0 0 c.facts&&decide (c.facts.length<=32)) with
 |false=>
  (refine zm ?_;conv=>whnf);exact kB hK (by simp only [zkq,hd1,Bool.false_and])
 |true=>
 (refine zm ?_;conv=>whnf);refine ze rfl  (zml G c.lines 1 4 (by omega)) ?_;cases hd2:(zab 1 4 c.lines&&decide (c.lines.length<=32)) with
 |false=>
  (refine zm ?_;conv=>whnf);exact kB hK (by simp only [zkq,hd1,hd2,Bool.and_false,Bool.false_and])
 |true=>
 (refine zm ?_;conv=>whnf)
 repeat' ((with_reducible refine way ?_ ?_)<;>(intro h;first|(exfalso;omega)|(conv=>whnf)))
 ·exact kB hK (by simp only [zkq,hd1,hd2];rw [decide_eq_false (by omega)];rfl)
 have hok:zkq c=c.arts.all (zaq c):=by simp only [zkq,hd1,hd2];rw [decide_eq_true (by omega)];rfl
 refine zg [1,3] ?_;refine zo c.arts (fun i (_:Unit)=>[(1,.ptr 0 0),(3,sI i)]) (fun _ _=>[.cells [.imm (zj c.facts),.imm (zj c.lines),.imm (yl c.arts)]])
  (fun done rest _=>c.arts.all (zaq c)=rest.all (zaq c)) () rfl ?_ ?_
 ·as_aux_lemma=>
   rintro _ h1;(refine zl ?_;conv=>whnf)
   repeat' ((with_reducible refine way ?_ ?_)<;>(intro h;first|(exfalso;omega)|(conv=>whnf)))
   all_goals try (exfalso;omega)
   exact kB hK (by rw [hok,h1];rfl)
 ·as_aux_lemma=>
   rintro done a rest _ ha hl hinv ih;have hw:=zk (n:=done.length) (by omega);simp only [List.all_cons] at hinv;obtain ⟨hun,hwn⟩:=hart a (by rw [ha];simp);obtain ⟨op,n,u,den,ps,ks,ham⟩:∃op n u den ps ks,a.amount= .mk op n u den ps ks:=by cases h:a.amount;exact ⟨_,_,_,_,_,_,rfl⟩
   have hrow:(c.arts.map Article.cells)[((done.length:Nat):Int).toNat]?=some [dI a.number,dI a.line,dI a.rank,dI a.lo,dI a.hi,dI a.known,ye a.when_,zi a.unless_,dI op,dI n,dS u,dI den,.isl 3 (ps.map Piece.cells),.isl 6 (zd ks)]:=by
    simp [ha,Article.cells,ham,zp,Ex.op,Ex.n,Ex.unit,Ex.den,Ex.pieces,Ex.kids]
   have hwl:(a.when_.map Ex.cells).length=a.when_.length:=by simp
   have hul:(a.unless_.map fun n=>[dI n]).length=a.unless_.length:=by simp
   have bad:zaq c a=false->zkq c=false:=fun h=>by rw [hok,hinv,h];rfl
   have bad1:¬(1<=a.number/\a.number<=1000000/\0<=a.line/\a.line<c.lines.length/\a.line=zfc c a.number)->zkq c=false:=fun h=>bad (by simp only [zaq];rw [decide_eq_false h];rfl)
   have bad2:zda a=false->zkq c=false:=fun h=>bad (by simp only [zaq,h,Bool.and_false,Bool.false_and])
   obtain ⟨b,hb1,hb2⟩:∃b,c.arts[(zat a.number c.arts 0).toNat]?=some b/\0<=zat a.number c.arts 0:=by
    rcases zni a.number c.arts 0 with h|⟨g1,g2,x,g3,g4⟩
    ·exact absurd rfl ((zqi a.number c.arts 0).1 h a (by rw [ha];simp))
    ·exact ⟨x,by simpa using g3,by simpa using g1⟩
   have hfl:zfc c a.number=b.line:=by simp only [zfc,hb1]
   have hnum:=ziw G c a.number (by omega);generalize hix:zat a.number c.arts 0=ix at hb1 hb2 hnum;(refine zl ?_;conv=>whnf)
   repeat' ((with_reducible refine way ?_ ?_)<;>(intro h;first|(exfalso;omega)|(conv=>whnf)))
   all_goals try (exfalso;omega)
   refine zh rfl rfl  (row:=[dI a.number,dI a.line,dI a.rank,dI a.lo,dI a.hi,dI a.known,ye a.when_,zi a.unless_,dI op,dI n,dS u,dI den,.isl 3 (ps.map Piece.cells),.isl 6 (zd ks)]) hrow ?_;(refine zm ?_;conv=>whnf)
   by_cases hg1:1<=a.number/\a.number<=1000000/\0<=a.line/\a.line<c.lines.length
   ·(refine xq mixed rfl ?_;refine zn [] ?_;conv=>whnf)
    repeat' ((with_reducible refine way ?_ ?_)<;>(intro h;first|(exfalso;omega)|(conv=>whnf)))
    all_goals try (exfalso;omega)
    refine zbt rfl  hnum ?_;(refine zn [] ?_;conv=>whnf);refine wq rfl (i:=ix.toNat) (by omega) (row:=b.cells) (by simp [hb1]) ?_
    by_cases hline:a.line=b.line
    rotate_left
    ·(refine zn [] ?_;conv=>whnf)
     repeat' ((with_reducible refine way ?_ ?_)<;>(intro h;first|(exfalso;omega)|(conv=>whnf)))
     all_goals (refine zl ?_;conv=>whnf)
     all_goals exact kB hK (bad1 (fun hc=>hline (by rw [<-hfl];exact hc.2.2.2.2)))
    (refine zn [] ?_;conv=>whnf)
    repeat' ((with_reducible refine way ?_ ?_)<;>(intro h;first|(exfalso;omega)|(conv=>whnf)))
    all_goals (refine zl ?_;conv=>whnf)
    all_goals repeat' ((with_reducible refine way ?_ ?_)<;>(intro h;first|(exfalso;omega)|(conv=>whnf)))
    all_goals try exact kB hK (bad2 (by simp [zda];intros;omega))
    have hhead:zda a=true:=by simp [zda];omega
    have hone:decide (1<=a.number/\a.number<=1000000/\0<=a.line/\a.line<c.lines.length/\a.line=zfc c a.number)=true:=decide_eq_true ⟨hg1.1,hg1.2.1,hg1.2.2.1,hg1.2.2.2,by rw [hfl];exact hline⟩;have hart2:zaq c a=(a.when_.all (fun e=>qe c e&&decide (e.unit=tT))&&a.unless_.all (fun n=>decide (0<=zat n c.arts 0))&&(qe c a.amount&&decide (a.amount.unit=zfg c a.line))):=by
     simp only [zaq,hone,hhead,Bool.true_and]
    clear hnum bad1 bad2 hone hhead;refine zg [1,3,4,5] ?_;refine zo a.when_ (fun i (_:Unit)=>[(1,.ptr 0 0),(3,sI done.length),(4,.ptr 1 0),(5,sI i)])
     (fun _ _=>[.cells [.imm (zj c.facts),.imm (zj c.lines),.imm (yl c.arts)],.cells (zmu a op n u den ps ks)])
     (fun done rest _=>a.when_.all (fun e=>qe c e&&decide (e.unit=tT))=rest.all (fun e=>qe c e&&decide (e.unit=tT))) () rfl ?_ ?_
    ·as_aux_lemma=>
      rintro _ hwh;have hwt:a.when_.all (fun e=>qe c e&&decide (e.unit=tT))=true:=by rw [hwh];rfl
      rw [hwt,Bool.true_and] at hart2;(refine zl ?_;conv=>whnf)
      repeat' ((with_reducible refine way ?_ ?_)<;>(intro h;first|(exfalso;omega)|(conv=>whnf)))
      all_goals try (exfalso;omega)
      refine zg [1,3,4,6] ?_;refine zo a.unless_ (fun i (_:Unit)=>[(1,.ptr 0 0),(3,sI done.length),(4,.ptr 1 0),(6,sI i)])
       (fun _ _=>[.cells [.imm (zj c.facts),.imm (zj c.lines),.imm (yl c.arts)],.cells (zmu a op n u den ps ks)])
       (fun done rest _=>a.unless_.all (fun n=>decide (0<=zat n c.arts 0))=rest.all (fun n=>decide (0<=zat n c.arts 0))) () rfl ?_ ?_
      ·as_aux_lemma=>
        rintro _ huh;have hut:a.unless_.all (fun n=>decide (0<=zat n c.arts 0))=true:=by rw [huh];rfl
        rw [hut,Bool.true_and,ham] at hart2;obtain ⟨d,hd⟩:∃d,c.lines[a.line.toNat]?=some d:=⟨c.lines[a.line.toNat]'(by omega),List.getElem?_eq_getElem _⟩;have hlu:zfg c a.line=d.unit:=by simp only [zfg,hd]
        rw [hlu] at hart2
        replace hart2:zaq c a=(qe c (.mk op n u den ps ks)&&decide (u=d.unit)):=hart2
        have hfit:=zmk G c (by omega) (.mk op n u den ps ks);(refine zl ?_;conv=>whnf)
        repeat' ((with_reducible refine way ?_ ?_)<;>(intro h;first|(exfalso;omega)|(conv=>whnf)))
        all_goals try (exfalso;omega)
        (refine xq mixed rfl ?_;refine zn [] ?_;conv=>whnf);refine zbt rfl  hfit ?_;cases hf:qe c (.mk op n u den ps ks) with
        |false=>
         (refine zn [] ?_;conv=>whnf);(refine zl ?_;conv=>whnf);exact kB hK (bad (by rw [hart2,hf];rfl))
        |true=>
         (refine zn [] ?_;conv=>whnf);refine wq rfl (i:=a.line.toNat) (by omega) (row:=d.cells) (by simp [hd]) ?_;(refine zn [] ?_;conv=>whnf);(refine zl ?_;conv=>whnf)
         repeat' ((with_reducible refine way ?_ ?_)<;>(intro h;first|(exfalso;omega)|(conv=>whnf)))
         ·exact kB hK (bad (by rw [hart2,hf,decide_eq_false h];rfl))
         ·rw [hw]
          exact yy [1,3] 1 (by simp [hH]) (by simp) rfl rfl (ih () (by rw [hinv,hart2,hf,decide_eq_true h];rfl))
      ·as_aux_lemma=>
        rintro d3 x r3 _ ha3 hl3 h3 ih3;have hw3:=zk (n:=d3.length) (by omega);simp only [List.all_cons] at h3;(refine zl ?_;conv=>whnf)
        repeat' ((with_reducible refine way ?_ ?_)<;>(intro h;first|(exfalso;omega)|(conv=>whnf)))
        all_goals try (exfalso;omega)
        (refine xq mixed rfl ?_;refine zn [] ?_;conv=>whnf);refine wq rfl rfl  (row:=[dI x]) (by simp [ha3]) ?_;(refine zn [] ?_;conv=>whnf);refine zbt rfl  (ziw G c x (by omega)) ?_;(refine zn [] ?_;conv=>whnf);(refine zl ?_;conv=>whnf)
        repeat' ((with_reducible refine way ?_ ?_)<;>(intro h;first|(exfalso;omega)|(conv=>whnf)))
        ·exact kB hK (bad (by rw [hart2,h3,decide_eq_false (by omega)];rfl))
        ·rw [hw3]
         exact yy [1,3,4,6] 2 (by simp [hH]) (by simp) rfl rfl (ih3 () (by rw [h3,decide_eq_true (by omega)];rfl))
    ·as_aux_lemma=>
      rintro d2 e r2 _ ha2 hl2 h2 ih2;have hw2:=zk (n:=d2.length) (by omega);simp only [List.all_cons] at h2;have hfit:=zmk G c (by omega) e;obtain ⟨o1,n1,u1,d1,p1,q1⟩:=e
      replace h2:a.when_.all (fun e=>qe c e&&decide (e.unit=tT))=((qe c (.mk o1 n1 u1 d1 p1 q1)&&decide (u1=tT))&&r2.all (fun e=>qe c e&&decide (e.unit=tT))):=h2
      (refine zl ?_;conv=>whnf)
      repeat' ((with_reducible refine way ?_ ?_)<;>(intro h;first|(exfalso;omega)|(conv=>whnf)))
      all_goals try (exfalso;omega)
      (refine xq mixed rfl ?_;refine zn [] ?_;conv=>whnf);refine wq rfl rfl  (row:=(Ex.mk o1 n1 u1 d1 p1 q1).cells) (by simp [ha2]) ?_;(refine zn [] ?_;conv=>whnf);refine zbt rfl  hfit ?_;cases hf:qe c (.mk o1 n1 u1 d1 p1 q1) with
      |false=>
       (refine zn [] ?_;conv=>whnf);(refine zl ?_;conv=>whnf);exact kB hK (bad (by rw [hart2,h2,hf];rfl))
      |true=>
       (refine zn [] ?_;conv=>whnf);refine wq rfl rfl  (row:=(Ex.mk o1 n1 u1 d1 p1 q1).cells) (by simp [ha2]) ?_;(refine zn [] ?_;conv=>whnf);(refine zl ?_;conv=>whnf)
       repeat' ((with_reducible refine way ?_ ?_)<;>(intro h;first|(exfalso;omega)|(conv=>whnf)))
       ·exact kB hK (bad (by rw [hart2,h2,hf,decide_eq_false (by exact h)];rfl))
       ·rw [hw2]
        exact yy [1,3,4,5] 2 (by simp [hH]) (by simp) rfl rfl (ih2 () (by rw [h2,hf,decide_eq_true (by exact h)];rfl))
   ·(refine xq mixed rfl ?_;refine zn [] ?_;conv=>whnf)
    repeat' ((with_reducible refine way ?_ ?_)<;>(intro h;first|(exfalso;omega)|(conv=>whnf)))
    all_goals try (exfalso;omega)
    all_goals try (refine zl ?_;conv=>whnf)
    all_goals exact kB hK (bad1 (fun hc=>hg1 ⟨hc.1,hc.2.1,hc.2.2.1,hc.2.2.2.1⟩))
def fl (n:Int):List Article->Option Int
 |[]=>none
 |a::r=>if a.number=n then some a.line else fl n r
theorem zsb (n:Int):∀(l:List Article) (i:Nat),(zat n l i= -1/\fl n l=none)\/((i:Int)<=zat n l i/\∃a,l[(zat n l i).toNat-i]?=some a/\a.number=n/\fl n l=some a.line)
 |[],i=>.inl ⟨rfl,rfl⟩
 |a::r,i=>by
  simp only [zat,fl];split
  ·rename_i h
   right
   exact ⟨by omega,a,by simp,h,rfl⟩
  ·rcases zsb n r (i+1) with ⟨h1,h2⟩|⟨h1,x,h2,h3,h4⟩
   ·left;exact ⟨h1,h2⟩
   ·right
    refine ⟨by omega,x,?_,h3,h4⟩;rw [show (zat n r (i+1)).toNat-i=((zat n r (i+1)).toNat-(i+1))+1 by omega];simpa using h2
abbrev yzw (nl:Int) (a:Article):Prop:=1<=a.number/\a.number<=1000000/\0<=a.line/\a.line<nl
theorem zxl (nl:Int):∀(l:List Article) (m0 m:List (Int × Int)),qi nl l m0=some m->(∀n,zx n m=(zx n m0).or (fl n l))/\∀a∈l,yzw nl a/\zx a.number m=some a.line
 |[],m0,m,h=>by
  simp only [qi,Option.some.injEq] at h;subst h;exact ⟨fun n=>by simp [fl],fun a ha=>by cases ha⟩
 |a::r,m0,m,h=>by
  simp only [qi] at h;split at h
  ·rename_i hc
   have hm:qi nl r (ains a.number a.line m0)=some m/\(zx a.number m0=none\/zx a.number m0=some a.line):=by
    cases hl:zx a.number m0 with
    |none=>rw [hl] at h;exact ⟨h,.inl rfl⟩
    |some x=>
     rw [hl] at h;simp only at h;split at h
     ·rename_i e;subst e;exact ⟨h,.inr rfl⟩
     ·cases h
   obtain ⟨g1,g2⟩:=zxl nl r _ m hm.1;have key:∀n,zx n m=(zx n m0).or (fl n (a::r)):=by
    intro n;rw [g1 n,zau]
    by_cases e:n=a.number
    ·subst e
     simp only [beq_self_eq_true,if_true,Option.some_or,fl];rcases hm.2 with h0|h0<;>rw [h0]<;>rfl
    ·rw [if_neg (by simpa using e)]
     simp only [fl];rw [if_neg (fun h=>e h.symm)]
   refine ⟨key,fun b hb=>?_⟩;rcases List.mem_cons.1 hb with rfl|hb
   ·refine ⟨hc,?_⟩
    rw [key];simp only [fl,if_true];rcases hm.2 with h0|h0<;>rw [h0]<;>rfl
   ·exact g2 b hb
  ·cases h
theorem zrf (nl:Int):∀(l:List Article) (m0:List (Int × Int)),(∀a∈l,yzw nl a/\(zx a.number m0).or (fl a.number l)=some a.line)->∃m,qi nl l m0=some m
 |[],m0,_=>⟨m0,rfl⟩
 |a::r,m0,h=>by
  obtain ⟨hb,ha⟩:=h a (by simp);simp only [fl,if_true] at ha;have h0:zx a.number m0=none\/zx a.number m0=some a.line:=by
   cases hl:zx a.number m0 with
   |none=>exact .inl rfl
   |some x=>rw [hl] at ha;right;simpa using ha
  have hr:∀b∈r,yzw nl b/\(zx b.number (ains a.number a.line m0)).or (fl b.number r)=some b.line:=by
   intro b hbr;obtain ⟨g1,g2⟩:=h b (by simp [hbr]);refine ⟨g1,?_⟩;rw [zau];simp only [fl] at g2
   by_cases e:b.number=a.number
   ·rw [e] at g2 ⊢
    simp only [beq_self_eq_true,if_true,Option.some_or];rw [if_pos rfl] at g2;rcases h0 with h0|h0<;>rw [h0] at g2<;>simpa using g2
   ·rw [if_neg (by simpa using e)]
    rw [if_neg (fun h=>e h.symm)] at g2;exact g2
  obtain ⟨m,hm⟩:=zrf nl r _ hr;refine ⟨m,?_⟩;simp only [qi];rw [if_pos hb];rcases h0 with h0|h0<;>rw [h0]
  ·exact hm
  ·simp only [if_true];exact hm
mutual
def zvu (P:Int->Int->ByteArray->Int->List Piece->List Ex->Bool):Ex->Bool
 | .mk op n u den ps ks=>zjf P ks&&P op n u den ps ks
def zjf (P:Int->Int->ByteArray->Int->List Piece->List Ex->Bool):List Ex->Bool
 |[]=>true
 |k::r=>zvu P k&&zjf P r
end
def znj (c:Codex) (m:List (Int × Int)) (op n:Int) (u:ByteArray) (den:Int) (ps:List Piece) (ks:List Ex):Bool:=ql u&&jn c m op n u den ps ks
theorem ymq (c:Codex) (m:List (Int × Int)) (N:Nat):
  (∀e:Ex,SizeOf.sizeOf e<N->∀d cnt:Int,((zai c m e d cnt).1=true ↔ (cnt+yx e<=400/\d+zdx e<=41/\zvu (znj c m) e=true))/\((zai c m e d cnt).1=true->(zai c m e d cnt).2=cnt+yx e))/\
  (∀ks:List Ex,SizeOf.sizeOf ks<N->∀d cnt:Int,cnt<=400->d<=41->((jf c m ks d cnt).1=true ↔ (cnt+yb ks<=400/\d+zdb ks<=41/\zjf (znj c m) ks=true))/\((jf c m ks d cnt).1=true->(jf c m ks d cnt).2=cnt+yb ks)):=by
 induction N with
 |zero=>exact ⟨fun e h=>by omega,fun e h=>by omega⟩
 |succ N ih=>
  refine ⟨fun e he d cnt=>?_,fun ks hk d cnt hc hd=>?_⟩
  ·obtain ⟨op,n,u,den,ps,ks⟩:=e
   simp only [Ex.mk.sizeOf_spec] at he;simp only [zai,yx,zdx,zvu];split
   ·rename_i hc
    constructor
    ·constructor
     ·intro h;cases h
     ·rintro ⟨h1,h2,h3⟩
      rcases hc with h|h|h
      ·omega
      ·omega
      ·simp [znj,h] at h3
    ·intro h;cases h
   ·rename_i hc
    have hu:ql u=true:=by
     cases h:ql u with
     |true=>rfl
     |false=>exact absurd (.inr (.inr h)) hc
    obtain ⟨g1,g2⟩:=ih.2 ks (by omega) (d+1) (cnt+1) (by omega) (by omega)
    revert g1 g2
    cases jf c m ks (d+1) (cnt+1) with
    |mk b q=>
     cases b with
     |true=>
      intro g1 g2;simp only at g1 g2 ⊢;obtain ⟨k1,k2,k3⟩:=g1.1 trivial;have k4:=g2 trivial;constructor
      ·constructor
       ·intro h
        exact ⟨by omega,by omega,by simp [k3,znj,hu,h]⟩
       ·rintro ⟨_,_,h3⟩
        simp [znj,hu] at h3;exact h3.2
      ·intro _;omega
     |false=>
      intro g1 _;simp only at g1 ⊢;constructor
      ·constructor
       ·intro h;cases h
       ·rintro ⟨h1,h2,h3⟩
        simp only [Bool.and_eq_true] at h3;exact absurd (g1.2 ⟨by omega,by omega,h3.1⟩) (by simp)
      ·intro h;cases h
  ·cases ks with
   |nil=>
    simp only [jf,yb,zdb,zjf];exact ⟨⟨fun _=>⟨by omega,by omega,trivial⟩,fun _=>trivial⟩,fun _=>by omega⟩
   |cons k r=>
    simp only [List.cons.sizeOf_spec] at hk;obtain ⟨g1,g2⟩:=ih.1 k (by omega) d cnt;simp only [jf,yb,zdb,zjf]
    revert g1 g2
    cases zai c m k d cnt with
    |mk b q=>
     cases b with
     |true=>
      intro g1 g2;simp only at g1 g2 ⊢;obtain ⟨k1,k2,k3⟩:=g1.1 trivial;have k4:=g2 trivial;subst k4;obtain ⟨r1,r2⟩:=ih.2 r (by omega) d (cnt+yx k) (by omega) hd;constructor
      ·rw [r1,k3]
       simp only [Bool.true_and];constructor
       ·rintro ⟨a1,a2,a3⟩;exact ⟨by omega,by omega,a3⟩
       ·rintro ⟨a1,a2,a3⟩;exact ⟨by omega,by omega,a3⟩
      ·intro h;have:=r2 h;omega
     |false=>
      intro g1 _;simp only at g1 ⊢;constructor
      ·constructor
       ·intro h;cases h
       ·rintro ⟨h1,h2,h3⟩
        simp only [Bool.and_eq_true] at h3;exact absurd (g1.2 ⟨by omega,by omega,h3.1⟩) (by simp)
      ·intro h;cases h
theorem yrh (c:Codex) (m:List (Int × Int)) (e:Ex):(zai c m e 1 0).1=(zei e&&zvu (znj c m) e):=by
 rw [Bool.eq_iff_iff,((ymq c m (SizeOf.sizeOf e+1)).1 e (by omega) 1 0).1];simp only [zei,Bool.and_eq_true,decide_eq_true_eq];constructor
 ·rintro ⟨h1,h2,h3⟩;exact ⟨⟨by omega,by omega⟩,h3⟩
 ·rintro ⟨⟨h1,h2⟩,h3⟩;exact ⟨by omega,by omega,h3⟩
mutual
theorem ydo (c:Codex):∀e:Ex,zgx c e=zvu (zjj c) e
 | .mk op n u den ps ks=>by simp only [zgx,zvu,zus c ks]
theorem zus (c:Codex):∀ks:List Ex,zqj c ks=zjf (zjj c) ks
 |[]=>rfl
 |k::r=>by simp only [zqj,zjf,ydo c k,zus c r]
end
theorem yts:ql tT=true:=by decide
theorem ytt:ql tN=true:=by decide
theorem ymr {u:ByteArray} (h:zgk u=true):ql u=true:=by simp [ql,h]
structure CodexRel (c:Codex) (m:List (Int × Int)):Prop where
 facts:∀d∈c.facts,ql d.unit=true
 lines:∀d∈c.lines,ql d.unit=true
 look:∀n,zx n m=fl n c.arts
 line:∀a∈c.arts,0<=a.line/\a.line<c.lines.length
theorem zut {l:List Decl} (h:∀d∈l,ql d.unit=true) {i:Int} {u:ByteArray} (hu:zeq l i u=true):ql u=true:=by
 unfold zeq at hu;split at hu
 ·rename_i d hd
  have:=of_decide_eq_true hu;subst this;exact h d (List.mem_of_getElem? hd)
 ·cases hu
theorem ywo {c:Codex} {m:List (Int × Int)} (H:CodexRel c m) (op n:Int) (u:ByteArray) (hop:1<=op/\op<=4) (hu:ql u=true):zcn c.facts c.lines m op n u=zbs c op n u:=by
 have hc:op=1\/op=2\/op=3\/op=4:=by omega
 rcases hc with rfl|rfl|rfl|rfl
 ·simp [zcn,zbs,hu]
 ·simp [zcn,zbs]
 ·simp only [zcn,zbs]
  simp only [show ¬(3:Int)=1 by omega,show ¬(3:Int)=2 by omega,if_false,if_true];rw [H.look n];rcases zsb n c.arts 0 with ⟨h1,h2⟩|⟨h1,a,h2,h3,h4⟩
  ·rw [h2,h1]
   cases c.arts[((-1:Int)).toNat]?<;>simp
  ·rw [Nat.sub_zero] at h2
   rw [h4,h2];obtain ⟨g1,g2⟩:=H.line a (List.mem_of_getElem? h2);simp only [decide_eq_true (show (0:Int)<=zat n c.arts 0 by omega),decide_eq_true g1,decide_eq_true g2,Bool.true_and]
 ·simp [zcn,zbs]
theorem ydp {c:Codex} {m:List (Int × Int)} (H:CodexRel c m) {op n:Int} {u:ByteArray} (h:zbs c op n u=true):ql u=true:=by
 simp only [zbs] at h;split at h
 ·simp only [Bool.and_eq_true] at h;exact h.1.1.1
 ·split at h
  ·simp only [Bool.and_eq_true] at h;exact zut H.facts h.2
  ·split at h
   ·split at h
    ·simp only [Bool.and_eq_true] at h;exact zut H.lines h.2
    ·cases h
   ·split at h
    ·simp only [Bool.and_eq_true,decide_eq_true_eq] at h
     rw [h.2];exact ytt
    ·cases h
theorem yri {op:Int} {u:ByteArray} {f l:Ex} {len:Int} {s:Bool} (hf:ql f.unit=true) (hl:ql l.unit=true) (h:zbu op u f l len s=true):ql u=true:=by
 have eT:u=tT->ql u=true:=fun e=>by rw [e];exact yts
 have eF:u=f.unit->ql u=true:=fun e=>by rw [e];exact hf
 have eL:u=l.unit->ql u=true:=fun e=>by rw [e];exact hl
 simp only [zbu] at h;split at h
 ·simp only [Bool.and_eq_true,decide_eq_true_eq] at h;exact eT h.1.2
 split at h
 ·simp only [Bool.and_eq_true,decide_eq_true_eq] at h;exact eT h.1.1.2
 split at h
 ·simp only [Bool.and_eq_true,decide_eq_true_eq] at h;exact eT h.1.2
 split at h
 ·simp only [Bool.and_eq_true,decide_eq_true_eq] at h;exact eT h.1.2
 split at h
 ·simp only [Bool.and_eq_true,decide_eq_true_eq] at h;exact eF h.2
 split at h
 ·simp only [Bool.and_eq_true,decide_eq_true_eq] at h;exact eF h.2
 split at h
 ·simp only [Bool.and_eq_true,decide_eq_true_eq] at h
  have:=h.2;split at this
  ·exact eL this
  ·exact eF this
 split at h
 ·simp only [Bool.and_eq_true,decide_eq_true_eq] at h;exact eF h.2
 split at h
 ·simp only [Bool.and_eq_true,decide_eq_true_eq] at h;exact eL h.2
 ·cases h
theorem yrj {c:Codex} {m:List (Int × Int)} (H:CodexRel c m) (op n:Int) (u:ByteArray) (den:Int) (ps:List Piece) (ks:List Ex) (hk:∀k∈ks,ql k.unit=true):
  znj c m op n u den ps ks=zjj c op n u den ps ks:=by
 have hunit:zjj c op n u den ps ks=true->ql u=true:=by
  intro h;simp only [zjj] at h;split at h
  ·simp only [Bool.and_eq_true] at h;exact ymr h.1.1.2
  split at h
  ·cases h
  split at h
  ·simp only [Bool.and_eq_true] at h;exact ydp H h.2
  ·simp only [Bool.and_eq_true] at h
   have h2:=h.2;split at h2
   ·rename_i f l hf hl
    exact yri (hk f (List.mem_of_mem_head? hf)) (hk l (List.mem_of_getLast? hl)) h2
   ·cases h2
 cases hu:ql u with
 |false=>
  cases hn:zjj c op n u den ps ks with
  |false=>simp [znj,hu]
  |true=>rw [hunit hn] at hu;cases hu
 |true=>
  simp only [znj,hu,Bool.true_and,jn,zjj];split
  ·rfl
  split
  ·rfl
  split
  ·rename_i h4
   rw [ywo H op n u h4 hu]
  ·rfl
theorem yyo {c:Codex} {m:List (Int × Int)} (H:CodexRel c m) (N:Nat):
  (∀e:Ex,SizeOf.sizeOf e<N->zvu (znj c m) e=zvu (zjj c) e/\(zvu (znj c m) e=true->ql e.unit=true))/\
  (∀ks:List Ex,SizeOf.sizeOf ks<N->zjf (znj c m) ks=zjf (zjj c) ks/\(zjf (znj c m) ks=true->∀k∈ks,ql k.unit=true)):=by
 induction N with
 |zero=>exact ⟨fun e h=>by omega,fun e h=>by omega⟩
 |succ N ih=>
  refine ⟨fun e he=>?_,fun ks hk=>?_⟩
  ·obtain ⟨op,n,u,den,ps,ks⟩:=e
   simp only [Ex.mk.sizeOf_spec] at he;obtain ⟨h1,h2⟩:=ih.2 ks (by omega);simp only [zvu];rw [<-h1];cases hk:zjf (znj c m) ks with
   |false=>simp
   |true=>
    rw [yrj H op n u den ps ks (h2 hk)];refine ⟨rfl,fun h=>?_⟩;rw [<-yrj H op n u den ps ks (h2 hk)] at h;simp only [znj,Bool.true_and,Bool.and_eq_true] at h;exact h.1
  ·cases ks with
   |nil=>exact ⟨rfl,fun _ k hk=>by cases hk⟩
   |cons k r=>
    simp only [List.cons.sizeOf_spec] at hk;obtain ⟨a1,a2⟩:=ih.1 k (by omega);obtain ⟨b1,b2⟩:=ih.2 r (by omega);simp only [zjf];rw [<-a1, <-b1];refine ⟨rfl,fun h x hx=>?_⟩;simp only [Bool.and_eq_true] at h;rcases List.mem_cons.1 hx with rfl|hx
    ·exact a2 h.1
    ·exact b2 h.2 x hx
theorem ywp {c:Codex} {m:List (Int × Int)} (H:CodexRel c m) (e:Ex):(zai c m e 1 0).1=qe c e:=by
 rw [yrh,qe,ydo,((yyo H (SizeOf.sizeOf e+1)).1 e (by omega)).1]
theorem yjn {c:Codex} {m:List (Int × Int)} (H:CodexRel c m) (e:Ex) (u:ByteArray):(jg c m e u).1=(qe c e&&decide (e.unit=u)):=by
 unfold jg;split
 ·rename_i h;rw [ywp H,decide_eq_true h,Bool.and_true]
 ·rename_i h;rw [decide_eq_false h,Bool.and_false]
theorem zou {lo hi:Int} {l:List Decl} (h:zab lo hi l=true):∀d∈l,ql d.unit=true:=by
 intro d hd;simp only [zab,Bool.and_eq_true,List.all_eq_true] at h;have:=h.1 d hd;simp only [zbg,Bool.and_eq_true] at this;exact this.1.2
theorem zlw (c:Codex):zkq c=zv c:=by
 cases hd1:zab 0 0 c.facts with
 |false=>simp [zkq,zv,hd1]
 |true=>
 cases hd2:zab 1 4 c.lines with
 |false=>simp [zkq,zv,hd2]
 |true=>
 by_cases hz:c.facts.length<=32/\c.lines.length<=32/\c.arts.length<=60
 rotate_left
 ·have e1:zkq c=false:=by
   cases h:zkq c with
   |false=>rfl
   |true=>simp only [zkq,Bool.and_eq_true,decide_eq_true_eq] at h;exact absurd ⟨h.1.1.1.2,h.1.1.2.2,h.1.2⟩ hz
  have e2:zv c=false:=by
   cases h:zv c with
   |false=>rfl
   |true=>simp only [zv,Bool.and_eq_true,decide_eq_true_eq] at h;exact absurd ⟨h.1.1.1.1.1,h.1.1.1.1.2,h.1.1.1.2⟩ hz
  rw [e1,e2]
 have e1:zkq c=c.arts.all (zaq c):=by simp [zkq,hd1,hd2,hz]
 have e2:zv c=(match qi c.lines.length c.arts [] with|some m=>c.arts.all (zmt c m)|none=>false):=by
  simp only [zv,hd1,hd2,hz.1,hz.2.1,hz.2.2,decide_true,Bool.true_and];rfl
 rw [e1,e2];have hfirst:∀a∈c.arts,fl a.number c.arts=some (zfc c a.number):=by
  intro a ha;rcases zsb a.number c.arts 0 with ⟨h1,h2⟩|⟨h1,x,h2,h3,h4⟩
  ·exact absurd rfl ((zqi a.number c.arts 0).1 h1 a ha)
  ·rw [Nat.sub_zero] at h2
   rw [h4];simp only [zfc,h2]
 cases hg:qi c.lines.length c.arts [] with
 |some m=>
  obtain ⟨g1,g2⟩:=zxl _ _ _ _ hg;have hrel:CodexRel c m:=⟨zou hd1,zou hd2,fun n=>by rw [g1 n];rfl,fun a ha=>⟨(g2 a ha).1.2.2.1,(g2 a ha).1.2.2.2⟩⟩;simp only;rw [Bool.eq_iff_iff,List.all_eq_true,List.all_eq_true];have key:∀a∈c.arts,zaq c a=zmt c m a:=by
   intro a ha;obtain ⟨⟨b1,b2,b3,b4⟩,b5⟩:=g2 a ha;have hl:a.line=zfc c a.number:=by
    have:=hfirst a ha;rw [g1] at b5;simp only [zx,Option.none_or] at b5;rw [b5] at this;simpa using this
   simp only [zaq,zmt];rw [decide_eq_true ⟨b1,b2,b3,b4,hl⟩,Bool.true_and];have hu:a.unless_.all (fun n=>decide (0<=zat n c.arts 0))=a.unless_.all (fun n=>(zx n m).isSome):=by
    congr 1
    funext n
    rw [g1 n];rcases zsb n c.arts 0 with ⟨h1,h2⟩|⟨h1,x,h2,h3,h4⟩
    ·rw [h1,h2];rfl
    ·rw [h4,decide_eq_true (by omega)];rfl
   have hw:a.when_.all (fun e=>qe c e&&decide (e.unit=tT))=a.when_.all (fun e=>(jg c m e tT).1):=by
    congr 1
    funext e
    rw [yjn hrel]
   rw [hu,hw,yjn hrel];cases zda a<;>simp [Bool.and_comm,Bool.and_left_comm,Bool.and_assoc]
  constructor
  ·intro h a ha;rw [<-key a ha];exact h a ha
  ·intro h a ha;rw [key a ha];exact h a ha
 |none=>
  simp only;cases h:c.arts.all (zaq c) with
  |false=>rfl
  |true=>
   exfalso
   rw [List.all_eq_true] at h
   obtain ⟨m,hm⟩:=zrf c.lines.length c.arts [] (fun a ha=>by
    have:=h a ha;simp only [zaq,Bool.and_eq_true,decide_eq_true_eq] at this;obtain ⟨⟨⟨⟨⟨t1,t2,t3,t4,t5⟩,_⟩,_⟩,_⟩,_⟩:=this;refine ⟨⟨t1,t2,t3,t4⟩,?_⟩;simp only [zx,Option.none_or]
    rw [hfirst a ha, <-t5])
   rw [hm] at hg;cases hg
theorem zxm {G:List (Nat × D)} (c:Codex) (h:zv c=true) (hF:c.facts.length<=12) (hw:∀a∈c.arts,a.when_.length<=41) (vs:List Int) (hz:vs.length<=100) (hv:∀v∈vs,0<=v/\v<c.arts.length):
  ∃sl,zw Tryz.prog G 23 [c.sv,.imm (zi vs)] (.tup [sl,sB (zgi c vs)])/\(sl=zdp\/∃ls,sl= .imm (qh ls)):=by
 obtain ⟨m,hm,hc⟩:=zbo h;obtain ⟨_,_,m',hm',h4⟩:=qr h;have hN:=zec (c:=c) hc (vs:=vs);have hS:=zec (c:=c) (P:=fun e=>yx e<=400) (fun a ha e he=>((h4 a ha).2.2.1 e he).2) (vs:=vs);have hwh:∀a∈c.arts,a.when_.length<=100:=fun a ha=>by have:=hw a ha;omega
 unfold zgi;cases hb:(ya c vs).all (simpE c) with
 |false=>exact ⟨zdp,by rw [Bool.false_and];exact ymf G c (m:=m) vs (by omega) hv hwh hN hb,.inl rfl⟩
 |true=>exact ⟨_,by rw [Bool.true_and];exact zuo G c (m:=m) vs hz hv hwh (fun e he=>⟨hN e he,hS e he⟩) (by omega) hb,.inr ⟨_,rfl⟩⟩
theorem zsc {c:Codex} {m:List (Int × Int)}:∀(N:Nat) (e:Ex),SizeOf.sizeOf e<N->zfj c m e->e.unit=tT->simpE c e=true->readE c.facts.length e
 |0,_,h,_,_,_=>by omega
 |N+1,.mk op n u den ps ks,hN,h,hu,hs=>by
  simp only [Ex.mk.sizeOf_spec] at hN;have hu:u=tT:=hu;cases zfk h hu with
  |const h1 hk hu'=>
   subst h1 hk;unfold readE
   trivial
  |fact h1 hk hr ht=>
   subst h1 hk;unfold readE;exact hr
  |neg k h1 hk hka hku=>
   subst h1 hk;simp only [List.cons.sizeOf_spec] at hN;have hsk:simpE c k=true:=by
    rw [simpE.eq_def] at hs;simpa only [show ¬(5:Int)=1 by decide,show ¬(5:Int)=2 by decide,if_false,if_true] using hs
   rw [readE.eq_def];exact zsc N k (by omega) hka hku hsk
  |conn k l h1 hk hka hla hku hlu=>
   subst hk;simp only [List.cons.sizeOf_spec] at hN;have hsE:simpE c (.mk op n u den ps [k,l])=(simpE c k&&simpE c l):=by
    rw [simpE.eq_def];simp only;rw [if_neg (by omega),if_neg (by omega),if_neg (by omega),if_pos h1]
   rw [hsE,Bool.and_eq_true] at hs;rw [readE.eq_def];simp only;rw [if_neg (by omega),if_pos h1];exact ⟨zsc N k (by omega) hka hku hs.1,zsc N l (by omega) hla hlu hs.2⟩
  |cmp k l h1 hk hka hla=>
   subst hk;rw [zdh h1] at hs;simp only [Bool.and_eq_true,Bool.or_eq_true,decide_eq_true_eq] at hs;have hlk:=zck hka (zba hs.1.1);have hll:=zck hla (zba hs.1.2);rw [readE.eq_def];simp only;rw [if_neg (by omega),if_neg (by omega),if_neg (by omega),if_neg (by omega),if_pos h1];exact ⟨⟨fun e=>⟨(hlk.k2 e).1,(hlk.k2 e).2.1⟩,fun e=>by have:=hlk.k4 e;omega⟩,⟨fun e=>⟨(hll.k2 e).1,(hll.k2 e).2.1⟩,fun e=>by have:=hll.k4 e;omega⟩⟩
  |other h1 h2 h3 h4 h5=>
   exfalso
   unfold simpE at hs;rw [if_neg h1,if_neg h2,if_neg h3,if_neg h4] at hs;have hce:zcj op=false:=by unfold zcj;simp;omega
   split at hs
   ·simp [hce] at hs
   ·cases hs
end Go.Proofs.YtblpjknmhajcgaaGreatDoor
namespace Go.Sh
section
variable {P:Program} {G:List (Nat × D)} {w w':World} {I I':Imm} {β β':List Bnd} {H K:List SObj} {o:Oper} {ρ:Operand->Value} {m:Nat}
end
section
variable {P:Program} {G:List (Nat × D)} {fn:Func} {rd:Bool} {E:En P G fn rd} {t:List (Nat × SV)} {H K:List SObj} {k:List Item} {m:Nat} {all:Array Oper} {rest:List Oper} {done:List Eff} {o:Oper}
theorem ygn {b kk by_ e e':Nat} {z:Value} {sx xx:Operand} {sT xT:Nat} {rows new:List (List D)} (hop:o.op= .call ⟨.builtin .append,#[sx,xx],#[sT,xT]⟩)
  (hw:yq all t o.guard=some true) (hd:yv fn.ntmps o.dst=true) (hs:zq G t sx= .asl b kk rows) (hx:zq G t xx= .imm (.isl kk new)) (hu:P.underlying sT=some (.slice e)) (hu':P.underlying xT=some (.slice e'))
  (hk:qm P e=some kk) (hby:zcl P e=some by_) (hz:zbb P e=some z) (hcond:z.cells.size=kk) (hb:H[b]?=some (.tok kk rows.length)) (hlen:rows.length+new.length<=4611686018427387904) (hcap:(2*(rows.length+new.length)+192)*by_<=281474976710656)
  (h:SWr E all rest k (wz t o.dst (.asl b kk (rows++new))) (H.set b (.tok kk (rows.length+new.length)))):SWr E all (o::rest) k t H:=by
 refine zce hw hd (fun c e=>by rw [hop] at e;cases e) (by simp) (fun ρ w I β hH hev=>?_) h;have hr:=hev sx;rw [hs] at hr;have hrx:=hev xx;rw [hx] at hrx;generalize hxv:ρ xx=xv at hrx;cases hrx with|imm hrx=>
 obtain ⟨B,hB,hxl,hxc⟩:=hrx.flat (P:=P);obtain ⟨dst,op,type,pos,after,guard⟩:=o;simp only at hop;subst hop;obtain ⟨u,w',I',β',h1,h2,h3,h4⟩:=zha (ty:=type) hu hu' hk hby hz hcond hxl w I β H b rows.length rows _ B hH hr hb rfl hlen hcap hB hxc;exact .value (by simpa [builtin,hxv] using h1) h2 h3 (h4 _)
end
end Go.Sh
namespace Go.Proofs.YtblpjknmhajcgaaGreatDoor
open Go Go.Sh
variable (G:List (Nat × D))
def zdj (c:Codex) (v:Int):Bool:=decide (0<=v)&&decide (v<c.arts.length)
def zrg (c:Codex) (vs:List Int):SV:=if vs.all (zdj c)=true then .imm (zi (zed c vs)) else zdp
theorem yms (c:Codex) (vs:List Int) (hz:vs.length<=9223372036854775807) (ha:c.arts.length<=9223372036854775807) (hB:∀n,n<=c.arts.length->(((List.range n).map fun (i:Nat)=>(i:Int)).filter (fun i=>decide (i∈vs))).length<=17592186043904):zw Tryz.prog G 22 [c.sv,.imm (zi vs)] (.tup [zrg c vs,sB (vs.all (zdj c))]):=by
 have hal:(c.arts.map Article.cells).length=c.arts.length:=by simp
 have hvl:(vs.map fun n=>[dI n]).length=vs.length:=by simp
 have hIn:=fun x=>zkl G vs x (by omega)
 refine zc Tryz.func22 rfl (by rw [Tryz.ntmps22];simp) rfl (by unfold zrg;split<;>rfl) ?_;intro E hH hK;rw [show c.sv= .agg [.imm (zj c.facts),.imm (zj c.lines),.imm (yl c.arts)] from rfl];(refine zf ?_;conv=>whnf);refine zjr (n:=6) (kk:=1) rfl ?_;refine zg [1,2,6,7] ?_;change SW E _ [(1,.imm (zi vs)),(2,.ptr 0 0),(6,.asl 1 1 []),(7,sI 0)] [.cells [.imm (zj c.facts),.imm (zj c.lines),.imm (yl c.arts)],.tok 1 0];refine zo c.arts (fun i (l:List Int)=>[(1,.imm (zi vs)),(2,.ptr 0 0),(6,.asl 1 1 (l.map fun n=>[dI n])),(7,sI i)]) (fun _ l=>[.cells [.imm (zj c.facts),.imm (zj c.lines),.imm (yl c.arts)],.tok 1 (l.map fun n=>[dI n]).length])
  (fun done _ l=>l=((List.range done.length).map fun (i:Nat)=>(i:Int)).filter (fun i=>decide (i∈vs))) [] rfl ?_ ?_
 ·rintro l h2
  have hl:zed c vs=l:=h2.symm;refine zay ?_;change SW E _ [(1,.imm (zi vs)),(2,.ptr 0 0),(6,.imm (zi l)),(7,sI c.arts.length)] _;(refine zf ?_;conv=>whnf)
  repeat' ((with_reducible refine way ?_ ?_)<;>(intro h;conv=>whnf))
  all_goals try (exfalso;omega)
  refine yy [1,2,6,8] 1 (by rw [hH];exact Nat.zero_le 1) (Nat.succ_le_succ (Nat.zero_le _)) rfl rfl ?_;change SW E _ [(1,.imm (zi vs)),(2,.ptr 0 0),(6,.imm (zi l)),(8,sI 0)] [.cells [.imm (zj c.facts),.imm (zj c.lines),.imm (yl c.arts)]];refine zo vs (fun i (_:Unit)=>[(1,.imm (zi vs)),(2,.ptr 0 0),(6,.imm (zi l)),(8,sI i)]) (fun _ _=>[.cells [.imm (zj c.facts),.imm (zj c.lines),.imm (yl c.arts)]])
   (fun done _ _=>done.all (zdj c)=true) () rfl ?_ ?_
  ·rintro _ h3
   unfold zrg at hK;rw [h3,if_pos rfl,hl] at hK;(refine zf ?_;conv=>whnf)
   repeat' ((with_reducible refine way ?_ ?_)<;>(intro h;conv=>whnf))
   all_goals try (exfalso;omega)
   exact hK _
  ·rintro done x rest _ hda hdl h3 ih
   have hw:=zk (n:=done.length) (by omega);have hrx:(vs.map fun n=>[dI n])[done.length]?=some [dI x]:=by simp [hda]
   have hsn:(done++[x]).all (zdj c)=zdj c x:=by rw [List.all_append,h3];simp
   have hno:zdj c x=false->vs.all (zdj c)=false:=fun h=>by rw [hda,List.all_append,List.all_cons,h,Bool.false_and,Bool.and_false]
   rw [hsn] at ih;(refine zf ?_;conv=>whnf)
   repeat' ((with_reducible refine way ?_ ?_)<;>(intro h;conv=>whnf))
   all_goals try (exfalso;omega)
   (refine zu 0 mixed rfl ?_;refine zb [777] (nx:=1) ?_;conv=>whnf);refine zt (i:=done.length) (row:=[dI x]) rfl (show 1<=1 by decide) rfl hrx ?_;(refine zb [777,33] (nx:=1) ?_;conv=>whnf);refine qp ⟨sB (decide (x<0)),[],none⟩ rfl rfl (show 1<=1 by decide) (fun _ _ _=>rfl) ?_
   by_cases hx:x<0
   ·have hf:vs.all (zdj c)=false:=hno (by unfold zdj;rw [decide_eq_false (by omega)];rfl)
    unfold zrg at hK;rw [hf,if_neg (by simp)] at hK;rw [decide_eq_true hx];(refine zb [777,43] (nx:=1) ?_;conv=>whnf);refine qp ⟨sB true,[],none⟩ rfl rfl (show 1<=1 by decide) (fun _ _ _=>rfl) ?_;refine qt (by kernel_rfl) ?_;(refine zf ?_;conv=>whnf);exact hK _
   ·rw [decide_eq_false hx]
    (refine zb [777] (nx:=1) ?_;conv=>whnf);refine zt (i:=done.length) (row:=[dI x]) rfl (show 1<=1 by decide) rfl hrx ?_;(refine zb [777,43] (nx:=1) ?_;conv=>whnf);refine qp ⟨sB (decide (((c.arts.map Article.cells).length:Int)<=x)),[],none⟩ rfl rfl (show 1<=1 by decide) (fun _ _ _=>rfl) ?_;refine qt (by kernel_rfl) ?_
    by_cases hx2:((c.arts.map Article.cells).length:Int)<=x
    ·have hf:vs.all (zdj c)=false:=hno (by unfold zdj;rw [decide_eq_false (show ¬x<c.arts.length by omega),Bool.and_false])
     unfold zrg at hK;rw [hf,if_neg (by simp)] at hK;rw [decide_eq_true hx2];(refine zf ?_;conv=>whnf);exact hK _
    ·rw [decide_eq_false hx2]
     (refine zf ?_;conv=>whnf);rw [hw];exact zg [1,2,6,8] (ih () (by unfold zdj;rw [decide_eq_true (show 0<=x by omega),decide_eq_true (show x<c.arts.length by omega)];rfl))
 ·rintro done x rest l hda hdl h2 ih
  have hw:=zk (n:=done.length) (by omega);have hI:=hIn (done.length:Int);have hsn:∀l',l'=l++(if (done.length:Int)∈vs then [(done.length:Int)] else [])->l'=((List.range (done++[x]).length).map fun (i:Nat)=>(i:Int)).filter (fun i=>decide (i∈vs)):=fun l' h=>by
   rw [h,List.length_append,List.length_cons,List.length_nil,List.range_succ,List.map_append,List.filter_append, <-h2]
   congr 1
   by_cases hm:(done.length:Int)∈vs
   ·simp [hm]
   ·simp [hm]
  (refine zf ?_;conv=>whnf)
  repeat' ((with_reducible refine way ?_ ?_)<;>(intro h;conv=>whnf))
  all_goals try (exfalso;omega)
  refine ze rfl  hI ?_
  by_cases hm:(done.length:Int)∈vs
  ·rw [decide_eq_true hm]
   rw [if_pos hm] at hsn;(refine za ?_;conv=>whnf);have hBl:=hB (done++[x]).length (by rw [hda];simp);rw [<-hsn _ rfl,List.length_append] at hBl
   refine ygn (b:=1) (kk:=1) (rows:=l.map fun n=>[dI n]) (new:=[[dI done.length]]) rfl rfl rfl rfl rfl rfl rfl rfl rfl rfl rfl rfl (by rw [List.length_map];simp only [List.length_cons,List.length_nil] at hBl ⊢;omega) (by
    rw [List.length_map];show (2*(l.length+1)+192)*8<=_;simp only [List.length_cons,List.length_nil] at hBl
    omega) ?_
   have e5:(l.map fun n=>[dI n])++[[dI done.length]]=(l++[(done.length:Int)]).map fun n=>[dI n]:=by simp
   have e6:(l.map fun n=>[dI n]).length+[[dI done.length]].length=((l++[(done.length:Int)]).map fun n=>[dI n]).length:=by simp
   refine Eq.mpr (congrArg (fun v=>SWr E _ _ _ (wz _ _ (.asl 1 1 v)) _) e5) ?_;refine Eq.mpr (congrArg (fun v=>SWr E _ _ _ _ (List.set _ 1 (.tok 1 v))) e6) ?_;(refine za ?_;conv=>whnf);rw [hw];exact zg [1,2,6,7] (ih _ (hsn _ rfl))
  ·rw [decide_eq_false hm]
   rw [if_neg hm,List.append_nil] at hsn;(refine za ?_;conv=>whnf);rw [hw];exact zg [1,2,6,7] (ih l (hsn _ rfl))
theorem zuu (c:Codex) (vs:List Int) (hz:vs.length<=1000000) (ha:c.arts.length<=1000000):zw Tryz.prog G 22 [c.sv,.imm (zi vs)] (.tup [zrg c vs,sB (vs.all (zdj c))]):=
 yms G c vs (by omega) (by omega) fun n hn=>Nat.le_trans (List.length_filter_le _ _) (by simp;omega)
theorem zqk {nf k:Nat} {q:Sr} (h:CFull nf q k):zhe q=((List.range nf).filter fun (i:Nat)=>(zx (i:Int) q.cands).isSome).map fun (i:Nat)=>(i:Int):=by
 have hfst:zhe q=zcs (q.cands.map (·.1)):=by
  unfold zhe yh;rw [List.map_map];exact List.map_id _
 rw [hfst];refine zuk _ _ (zud h.inv.nd) ?_ fun x=>?_
 ·rw [List.pairwise_map]
  exact (List.pairwise_lt_range.filter _).imp fun h=>by omega
 ·rw [zca]
  constructor
  ·intro hx
   obtain ⟨e,he,rfl⟩:=List.mem_map.1 hx;have hr:=h.inv.rng e he;refine List.mem_map.2 ⟨e.1.toNat,List.mem_filter.2 ⟨List.mem_range.2 (by omega),?_⟩,by omega⟩;rw [show ((e.1.toNat:Nat):Int)=e.1 by omega,zby h.inv.nd he];rfl
  ·intro hx
   obtain ⟨i,hi,rfl⟩:=List.mem_map.1 hx;have hi:=(List.mem_filter.1 hi).2;rw [zev] at hi;exact of_decide_eq_true hi
theorem zxn {c:Codex} {vs:List Int} (h:vs.all (zdj c)=true):∀v∈vs,0<=v/\v<c.arts.length:=fun v hv=>by
 have:=List.all_eq_true.1 h v hv;unfold zdj at this;simpa using this
theorem zuv {c:Codex} {vs:List Int} (h:vs.all (zdj c)=false):yg c vs=none:=by
 unfold yg;have:vs.all (fun v=>decide (0<=v)&&decide (v<c.arts.length))=false:=h;rw [this,Bool.and_false];rfl
theorem ydq (c:Codex) (vs:List Int):(zed c vs).length<=c.arts.length:=by
 unfold zed;exact Nat.le_trans (List.length_filter_le _ _) (by simp)
theorem zzw (den den':Int) (a b:List Piece) (ha:a.length<=1000000) (hb:b.length<=1000000):
  zw Tryz.prog G 150 [.agg [sI den,.imm (.isl 3 (a.map Piece.cells))],.agg [sI den',.imm (.isl 3 (b.map Piece.cells))]] (sB (decide (den=den')&&decide (a.map Piece.key=b.map Piece.key))):=by
 refine zc Tryz.func150 rfl (by rw [Tryz.ntmps150];simp) rfl rfl ?_;intro E hH hK;have hla:(a.map Piece.cells).length=a.length:=by simp
 have hlb:(b.map Piece.cells).length=b.length:=by simp
 have hne:a.length≠b.length->decide (a.map Piece.key=b.map Piece.key)=false:=fun hn=>by
  rw [decide_eq_false_iff_not];intro he;have:=congrArg List.length he;simp only [List.length_map] at this;omega
 by_cases hd:den=den'
 rotate_left
 ·rw [decide_eq_false hd,Bool.false_and] at hK
  (refine zf ?_;conv=>whnf)
  repeat' ((with_reducible refine way ?_ ?_)<;>(intro h;conv=>whnf))
  all_goals try (exfalso;omega)
  exact hK _
 rw [decide_eq_true hd,Bool.true_and] at hK
 by_cases hll:a.length=b.length
 rotate_left
 ·rw [hne hll] at hK
  (refine zf ?_;conv=>whnf)
  repeat' ((with_reducible refine way ?_ ?_)<;>(intro h;conv=>whnf))
  all_goals try (exfalso;omega)
  all_goals exact hK _
 (refine zf ?_;conv=>whnf)
 repeat' ((with_reducible refine way ?_ ?_)<;>(intro h;conv=>whnf))
 all_goals try (exfalso;omega)
 refine zg [2,3,5] ?_;change SW E _ [(2,.ptr 0 0),(3,.ptr 1 0),(5,sI 0)] [.cells [sI den,.imm (.isl 3 (a.map Piece.cells))],.cells [sI den',.imm (.isl 3 (b.map Piece.cells))]];refine zo a (fun i (_:Unit)=>[(2,.ptr 0 0),(3,.ptr 1 0),(5,sI i)]) (fun _ _=>[.cells [sI den,.imm (.isl 3 (a.map Piece.cells))],.cells [sI den',.imm (.isl 3 (b.map Piece.cells))]])
  (fun done _ _=>done.map Piece.key=(b.take done.length).map Piece.key) () (by simp) ?_ ?_
 ·rintro _ h1
  (refine zf ?_;conv=>whnf)
  repeat' ((with_reducible refine way ?_ ?_)<;>(intro h;conv=>whnf))
  all_goals try (exfalso;omega)
  rw [hll,List.take_length] at h1;rw [decide_eq_true h1] at hK;exact hK _
 ·rintro done x rest _ hda hdl h1 ih
  have hw:=zk (n:=done.length) (by omega);have hlt:done.length<b.length:=by rw [<-hll,hda];simp
  obtain ⟨y,hy⟩:∃y,b[done.length]?=some y:=⟨_,List.getElem?_eq_getElem hlt⟩;(refine zf ?_;conv=>whnf)
  repeat' ((with_reducible refine way ?_ ?_)<;>(intro h;conv=>whnf))
  all_goals try (exfalso;omega)
  (refine zu 0 mixed rfl ?_;refine zb [777] (nx:=2) ?_;conv=>whnf);refine zt (i:=done.length) (row:=x.cells) rfl (show 2<=2 by decide) rfl (by simp [hda]) ?_;(refine zb [777] (nx:=2) ?_;conv=>whnf);refine zt (i:=done.length) (row:=y.cells) rfl (show 2<=2 by decide) rfl (by simp [hy]) ?_;(refine zb [777] (nx:=2) ?_;conv=>whnf);refine yoz rfl rfl (zwj rfl rfl rfl rfl Tryz.stoodInHeld189 (by decide) (by decide) (by decide) rfl rfl rfl rfl rfl rfl Tryz.eqGuardType189) ?_;refine qt (by kernel_rfl) ?_;have htk:b.take (done.length+1)=b.take done.length++[y]:=by rw [List.take_add_one,hy];rfl
  by_cases he:Piece.key x=Piece.key y
  ·have:(!(decide (x.lo=y.lo)&&(decide (x.at_=y.at_)&&decide (x.slope=y.slope))))=false:=by
    simp only [Piece.key,Prod.mk.injEq] at he;simp [he]
   rw [this];(refine zf ?_;conv=>whnf);rw [hw];refine yy [2,3,5] 2 (by rw [hH];exact Nat.zero_le 2) (Nat.le_refl 2) rfl rfl (ih () ?_);rw [List.map_append,h1,List.length_append];show _=List.map Piece.key (b.take (done.length+1));rw [htk];simp [he]
  ·have:(!(decide (x.lo=y.lo)&&(decide (x.at_=y.at_)&&decide (x.slope=y.slope))))=true:=by
    simp only [Piece.key,Prod.mk.injEq] at he;simp only [Bool.not_eq_true',Bool.and_eq_false_iff,decide_eq_false_iff_not]
    by_cases h2:x.lo=y.lo
    ·by_cases h3:x.at_=y.at_
     ·exact .inr (.inr fun h4=>he ⟨h2,h3,h4⟩)
     ·exact .inr (.inl h3)
    ·exact .inl h2
   rw [this];(refine zf ?_;conv=>whnf);have:decide (a.map Piece.key=b.map Piece.key)=false:=by
    rw [decide_eq_false_iff_not];intro h2
    apply he
    have h3:(a.map Piece.key)[done.length]?=some (Piece.key x):=by simp [hda]
    rw [h2,List.getElem?_map,hy] at h3;exact (Option.some.inj h3).symm
   rw [this] at hK;exact hK _
theorem zuw:∀(N:Nat) (e e':Ex),SizeOf.sizeOf e<N->zjh e->zjh e'->zw Tryz.prog G 121 [e.sv,e'.sv] (sB (zjd e e'))
 |0,_,_,h,_,_=>by omega
 |N+1,.mk op n u den ps ks,.mk op' n' u' den' ps' ks',hN,hl,hl'=>by
  unfold zjh at hl hl';obtain ⟨l1,l2,l3⟩:=hl;obtain ⟨m1,m2,m3⟩:=hl';simp only [Ex.mk.sizeOf_spec] at hN;have hk:∀e∈ks,∀e'∈ks',zw Tryz.prog G 121 [e.sv,e'.sv] (sB (zjd e e')):=fun e he e' he'=>by
   have:=List.sizeOf_lt_of_mem he;exact zuw N e e' (by omega) (jm l3 e he) (jm m3 e' he')
  have h1:=zzw G den den' ps ps' l1 m1;have hx:zjd (.mk op n u den ps ks) (.mk op' n' u' den' ps' ks')=(decide (op=op')&&decide (n=n')&&decide (u=u')&&(decide (den=den')&&decide (ps.map Piece.key=ps'.map Piece.key))&&znv ks ks'):=by rw [zjd];simp only [Bool.and_assoc]
  have hla:(zd ks).length=ks.length:=by rw [zp];simp
  have hlb:(zd ks').length=ks'.length:=by rw [zp];simp
  rw [hx];generalize (decide (den=den')&&decide (ps.map Piece.key=ps'.map Piece.key))=z1 at h1;refine zc Tryz.func121 rfl (by rw [Tryz.ntmps121];simp) rfl rfl ?_;intro E hH hK
  by_cases g1:op=op'
  rotate_left
  ·rw [decide_eq_false g1] at hK
   (refine zf ?_;conv=>whnf)
   repeat' ((with_reducible refine way ?_ ?_)<;>(intro h;conv=>whnf))
   all_goals try (exfalso;omega)
   exact hK _
  by_cases g2:n=n'
  rotate_left
  ·rw [decide_eq_false g2,Bool.and_false] at hK
   (refine zf ?_;conv=>whnf)
   repeat' ((with_reducible refine way ?_ ?_)<;>(intro h;conv=>whnf))
   all_goals try (exfalso;omega)
   all_goals exact hK _
  by_cases g3:u=u'
  rotate_left
  ·rw [decide_eq_false g3,Bool.and_false] at hK
   (refine zf ?_;conv=>whnf)
   repeat' ((with_reducible refine way ?_ ?_)<;>(intro h;conv=>whnf))
   all_goals try (exfalso;omega)
   all_goals try contradiction
   all_goals exact hK _
  rw [decide_eq_true g1,decide_eq_true g2,decide_eq_true g3] at hK;(refine zf ?_;conv=>whnf)
  repeat' ((with_reducible refine way ?_ ?_)<;>(intro h;conv=>whnf))
  all_goals try (exfalso;omega)
  all_goals try contradiction
  refine ze rfl  h1 ?_;cases z1<;>((refine za ?_;conv=>whnf))
  ·exact hK _
  by_cases hll:ks.length=ks'.length
  rotate_left
  ·rw [zto hll] at hK
   repeat' ((with_reducible refine way ?_ ?_)<;>(intro h;conv=>whnf))
   all_goals try (exfalso;omega)
   exact hK _
  repeat' ((with_reducible refine way ?_ ?_)<;>(intro h;conv=>whnf))
  all_goals try (exfalso;omega)
  refine zg [2,3,5] ?_;change SW E _ [(2,.ptr 0 0),(3,.ptr 1 0),(5,sI 0)] [.cells [sI op,sI n,sS u,sI den,.imm (.isl 3 (ps.map Piece.cells)),.imm (.isl 6 (zd ks))],.cells [sI op',sI n',sS u',sI den',.imm (.isl 3 (ps'.map Piece.cells)),.imm (.isl 6 (zd ks'))]];refine zo ks (fun i (_:Unit)=>[(2,.ptr 0 0),(3,.ptr 1 0),(5,sI i)]) (fun _ _=>[.cells [sI op,sI n,sS u,sI den,.imm (.isl 3 (ps.map Piece.cells)),.imm (.isl 6 (zd ks))],.cells [sI op',sI n',sS u',sI den',.imm (.isl 3 (ps'.map Piece.cells)),.imm (.isl 6 (zd ks'))]])
   (fun done rest _=>znv ks ks'=znv rest (ks'.drop done.length)) () (by simp) ?_ ?_
  ·rintro _ h2
   (refine zf ?_;conv=>whnf)
   repeat' ((with_reducible refine way ?_ ?_)<;>(intro h;conv=>whnf))
   all_goals try (exfalso;omega)
   rw [hll,List.drop_length] at h2;rw [h2] at hK;exact hK _
  ·rintro done x rest _ hda hdl h2 ih
   have hw:=zk (n:=done.length) (by omega);have hlt:done.length<ks'.length:=by rw [<-hll,hda];simp
   obtain ⟨y,hy⟩:∃y,ks'[done.length]?=some y:=⟨_,List.getElem?_eq_getElem hlt⟩;have hcall:=hk x (by rw [hda];simp) y (List.mem_of_getElem? hy);have hdr:ks'.drop done.length=y::ks'.drop (done.length+1):=by
    rw [List.drop_eq_getElem_cons hlt];rw [List.getElem?_eq_getElem hlt] at hy;rw [Option.some.inj hy]
   rw [hdr,znv] at h2;have hrx:(zd ks)[done.length]?=some x.cells:=by rw [zp];simp [hda]
   have hry:(zd ks')[done.length]?=some y.cells:=by rw [zp];simp [hy]
   generalize zjd x y=z at hcall h2;obtain ⟨xo,xn,xu,xd,xp,xk⟩:=x;obtain ⟨yo,yn,yu,yd,yp,yk⟩:=y;(refine zf ?_;conv=>whnf)
   repeat' ((with_reducible refine way ?_ ?_)<;>(intro h;conv=>whnf))
   all_goals try (exfalso;omega)
   (refine zu 0 mixed rfl ?_;refine zb [777] (nx:=2) ?_;conv=>whnf);refine zt (i:=done.length) (row:=[dI xo,dI xn,dS xu,dI xd,.isl 3 (xp.map Piece.cells),.isl 6 (zd xk)]) rfl (show 2<=2 by decide) rfl hrx ?_;(refine zb [777] (nx:=2) ?_;conv=>whnf);refine zt (i:=done.length) (row:=[dI yo,dI yn,dS yu,dI yd,.isl 3 (yp.map Piece.cells),.isl 6 (zd yk)]) rfl (show 2<=2 by decide) rfl hry ?_;(refine zb [777] (nx:=2) ?_;conv=>whnf);refine yi rfl (show 2<=2 by decide) hcall ?_;(refine zb [777,60] (nx:=2) ?_;conv=>whnf);refine qp ⟨sB (!z),[],none⟩ rfl rfl (show 2<=2 by decide) (fun _ _ _=>rfl) ?_;refine qt (by kernel_rfl) ?_;cases z<;>((refine zf ?_;conv=>whnf))
   ·rw [h2,Bool.false_and] at hK
    exact hK _
   ·rw [hw]
    refine yy [2,3,5] 2 (by rw [hH];exact Nat.zero_le 2) (Nat.le_refl 2) rfl rfl (ih () ?_);rw [h2,Bool.true_and,List.length_append];rfl
theorem zkr (l ps:List Ex) (hp:zet ps) (hl:zet l) (hz:l.length<=1000000) (hpz:ps.length<=1000000):
  zw Tryz.prog G 87 [.imm (ye l),.imm (ye ps)] (sB (zhc l ps)):=by
 refine zc Tryz.func87 rfl (by rw [Tryz.ntmps87];simp) rfl rfl ?_;intro E hH hK;have hla:(ps.map Ex.cells).length=ps.length:=by simp
 have hlb:(l.map Ex.cells).length=l.length:=by simp
 (refine zf ?_;conv=>whnf);refine zg [0,1,5] ?_;change SW E _ [(0,.imm (ye l)),(1,.imm (ye ps)),(5,sI 0)] [];refine zo ps (fun i (_:Unit)=>[(0,.imm (ye l)),(1,.imm (ye ps)),(5,sI i)]) (fun _ _=>[])
  (fun done rest _=>∀p∈done,l.any (fun e=>zjd e p)=true) () (by simp) ?_ ?_
 ·rintro _ h1
  (refine zf ?_;conv=>whnf)
  repeat' ((with_reducible refine way ?_ ?_)<;>(intro h;conv=>whnf))
  all_goals try (exfalso;omega)
  have:zhc l ps=true:=List.all_eq_true.2 h1;rw [this] at hK;exact hK _
 ·rintro done x rest _ hda hdl h1 ih
  have hw:=zk (n:=done.length) (by omega);have hrx:(ps.map Ex.cells)[done.length]?=some x.cells:=by simp [hda]
  have hxm:x∈ps:=by rw [hda];simp
  have hno:l.any (fun e=>zjd e x)=false->zhc l ps=false:=fun h=>by
   cases h2:zhc l ps with
   |false=>rfl
   |true=>rw [List.all_eq_true.1 h2 x hxm] at h;cases h
  have hnxt:l.any (fun e=>zjd e x)=true->∀p∈done++[x],l.any (fun e=>zjd e p)=true:=fun h e he=>by
   rcases List.mem_append.1 he with he|he
   ·exact h1 e he
   ·simp at he;rw [he];exact h
  have hE:=fun e he=>zuw G _ e x (Nat.lt_succ_self _) (jm hl e he) (jm hp x hxm)
  obtain ⟨xo,xn,xu,xd,xp,xk⟩:=x;(refine zf ?_;conv=>whnf)
  repeat' ((with_reducible refine way ?_ ?_)<;>(intro h;conv=>whnf))
  all_goals try (exfalso;omega)
  refine zg [0,1,5,6,7] ?_;change SW E _ [(0,.imm (ye l)),(1,.imm (ye ps)),(5,sI done.length),(6,sB false),(7,sI 0)] [];refine zo l (fun i (fd:Bool)=>[(0,.imm (ye l)),(1,.imm (ye ps)),(5,sI done.length),(6,sB fd),(7,sI i)]) (fun _ _=>[])
   (fun dn _ fd=>fd=dn.any (fun e=>zjd e (.mk xo xn xu xd xp xk))) false rfl ?_ ?_
  ·rintro fd h2
   cases fd with
   |false=>
    rw [hno h2.symm] at hK;(refine zf ?_;conv=>whnf)
    repeat' ((with_reducible refine way ?_ ?_)<;>(intro h;conv=>whnf))
    all_goals try (exfalso;omega)
    exact hK _
   |true=>
    (refine zf ?_;conv=>whnf)
    repeat' ((with_reducible refine way ?_ ?_)<;>(intro h;conv=>whnf))
    all_goals try (exfalso;omega)
    rw [hw];exact zg [0,1,5] (ih () (hnxt h2.symm))
  ·rintro dn y rs fd hdy hdly h2 ihy
   have hwy:=zk (n:=dn.length) (by omega);have hym:y∈l:=by rw [hdy];simp
   have hry:(l.map Ex.cells)[dn.length]?=some y.cells:=by simp [hdy]
   cases fd with
   |true=>
    have:l.any (fun e=>zjd e (.mk xo xn xu xd xp xk))=true:=by rw [hdy,List.any_append, <-h2];rfl
    (refine zf ?_;conv=>whnf)
    repeat' ((with_reducible refine way ?_ ?_)<;>(intro h;conv=>whnf))
    all_goals try (exfalso;omega)
    rw [hw];exact zg [0,1,5] (ih () (hnxt this))
   |false=>
    have hcall:=hE y hym;have hsn:(dn++[y]).any (fun e=>zjd e (.mk xo xn xu xd xp xk))=zjd y (.mk xo xn xu xd xp xk):=by rw [List.any_append, <-h2];simp
    rw [hsn] at ihy;generalize zjd y (.mk xo xn xu xd xp xk)=z at hcall ihy;obtain ⟨yo,yn,yu,yd,yp,yk⟩:=y;(refine zf ?_;conv=>whnf)
    repeat' ((with_reducible refine way ?_ ?_)<;>(intro h;conv=>whnf))
    all_goals try (exfalso;omega)
    (refine zu 0 mixed rfl ?_;refine zb [777] (nx:=0) ?_;conv=>whnf);refine zt (i:=dn.length) (row:=[dI yo,dI yn,dS yu,dI yd,.isl 3 (yp.map Piece.cells),.isl 6 (zd yk)]) rfl (show 0<=0 by decide) rfl hry ?_;(refine zb [777] (nx:=0) ?_;conv=>whnf);refine zt (i:=done.length) (row:=[dI xo,dI xn,dS xu,dI xd,.isl 3 (xp.map Piece.cells),.isl 6 (zd xk)]) rfl (show 0<=0 by decide) rfl hrx ?_;(refine zb [777] (nx:=0) ?_;conv=>whnf);refine yi rfl (show 0<=0 by decide) hcall ?_;(refine zb [777,6] (nx:=0) ?_;conv=>whnf);refine qp ⟨sB z,[],none⟩ rfl rfl (show 0<=0 by decide) (fun _ _ _=>rfl) ?_;refine qt (by kernel_rfl) ?_;(refine zf ?_;conv=>whnf);rw [hwy];exact zg [0,1,5,6,7] (ihy z rfl)
theorem zks (c : Codex) (hc : BeatC c) (i j : Int) (hi : 0 <= i /\ i < c.arts.length) (hj : 0 <= j /\ j < c.arts.length) : zw Tryz.prog G 57 [c.sv, sI i, sI j] (sB (qk c i j)) := by
  have hal : (c.arts.map Article.cells).length = c.arts.length := by simp
  have hz := hc.arts
  obtain ⟨a, ha⟩ : ∃ a, c.arts[i.toNat]? = some a := ⟨_, List.getElem?_eq_getElem (by omega)⟩
  obtain ⟨b, hb⟩ : ∃ b, c.arts[j.toNat]? = some b := ⟨_, List.getElem?_eq_getElem (by omega)⟩
  have hai : qj c i = some a := by unfold qj; rw [if_neg (by omega)]; exact ha
  have hbj : qj c j = some b := by unfold qj; rw [if_neg (by omega)]; exact hb
  have hbe : qk c i j = (if a.line ≠ b.line \/ a.number = b.number then false
    else if a.rank ≠ b.rank then decide (b.rank < a.rank)
    else if zhc a.when_ b.when_ ≠ zhc b.when_ a.when_ then zhc a.when_ b.when_
    else decide (b.known < a.known)) := by unfold qk; rw [hai, hbj]
  have ham := List.mem_of_getElem? ha
  have hbm := List.mem_of_getElem? hb
  have c1 := zkr G a.when_ b.when_ (hc.exs b hbm) (hc.exs a ham) (hc.len a ham) (hc.len b hbm)
  have c2 := zkr G b.when_ a.when_ (hc.exs a ham) (hc.exs b hbm) (hc.len b hbm) (hc.len a ham)
  rw [hbe]
  generalize zhc a.when_ b.when_ = z1 at c1
  generalize zhc b.when_ a.when_ = z2 at c2
  obtain ⟨op, n, u, den, ps, ks, hamt⟩ := jo a
  obtain ⟨op', n', u', den', ps', ks', hbmt⟩ := jo b
  have hra := zgr c ha hamt
  have hrb := zgr c hb hbmt
  refine zc Tryz.func57 rfl (by rw [Tryz.ntmps57]; simp) rfl (by split; rfl; split; rfl; split <;> rfl) ?_
  intro E hH hK
  rw [show c.sv = .agg [.imm (zj c.facts), .imm (zj c.lines), .imm (yl c.arts)] from rfl]
  (refine zf ?_; conv => whnf)
  repeat' ((with_reducible refine way ?_ ?_) <;> (intro h; conv => whnf))
  all_goals try (exfalso; omega)
  refine zh (i := i.toNat) (row := [dI a.number, dI a.line, dI a.rank, dI a.lo, dI a.hi, dI a.known, ye a.when_, zi a.unless_, dI op, dI n, dS u, dI den, .isl 3 (ps.map Piece.cells), .isl 6 (zd ks)]) rfl (Int.toNat_of_nonneg hi.1).symm hra ?_
  (refine za ?_; conv => whnf)
  refine zh (i := j.toNat) (row := [dI b.number, dI b.line, dI b.rank, dI b.lo, dI b.hi, dI b.known, ye b.when_, zi b.unless_, dI op', dI n', dS u', dI den', .isl 3 (ps'.map Piece.cells), .isl 6 (zd ks')]) rfl (Int.toNat_of_nonneg hj.1).symm hrb ?_
  (refine za ?_; conv => whnf)
  by_cases g1 : a.line ≠ b.line \/ a.number = b.number
  · rw [if_pos g1] at hK
    repeat' ((with_reducible refine way ?_ ?_) <;> (intro h; conv => whnf))
    all_goals try (exfalso; omega)
    all_goals exact hK _
  rw [if_neg g1] at hK
  by_cases g2 : a.rank ≠ b.rank
  · rw [if_pos g2] at hK
    repeat' ((with_reducible refine way ?_ ?_) <;> (intro h; conv => whnf))
    all_goals try (exfalso; omega)
    all_goals exact hK _
  rw [if_neg g2] at hK
  repeat' ((with_reducible refine way ?_ ?_) <;> (intro h; conv => whnf))
  all_goals try (exfalso; omega)
  refine ze rfl  c1 ?_
  (refine za ?_; conv => whnf)
  refine ze rfl  c2 ?_
  (refine za ?_; conv => whnf)
  cases z1 <;> cases z2 <;> (conv => whnf) <;> exact hK _
theorem zql (c:Codex) (hc:BeatC c) (hu:∀a∈c.arts,a.unless_.length<=1000000) (i j:Int) (hi:0<=i/\i<c.arts.length) (hj:0<=j/\j<c.arts.length):
  zw Tryz.prog G 30 [c.sv,sI i,sI j] (sB (zbl c i j)):=by
 have hal:(c.arts.map Article.cells).length=c.arts.length:=by simp
 obtain ⟨a,ha⟩:∃a,c.arts[i.toNat]?=some a:=⟨_,List.getElem?_eq_getElem (by omega)⟩;obtain ⟨b,hb⟩:∃b,c.arts[j.toNat]?=some b:=⟨_,List.getElem?_eq_getElem (by omega)⟩;have hai:qj c i=some a:=by unfold qj;rw [if_neg (by omega)];exact ha
 have hbj:qj c j=some b:=by unfold qj;rw [if_neg (by omega)];exact hb
 have hco:zbl c i j=(decide (a.line=b.line)&& !decide (a.number=b.number)&& !qk c i j&& !qk c j i&& !decide (b.number∈a.unless_)&& !decide (a.number∈b.unless_)):=by
  unfold zbl;rw [hai,hbj]
 have b1:=zks G c hc i j hi hj;have b2:=zks G c hc j i hj hi;have i1:=zkl G a.unless_ b.number (by have:=hu a (List.mem_of_getElem? ha);omega);have i2:=zkl G b.unless_ a.number (by have:=hu b (List.mem_of_getElem? hb);omega);rw [hco];generalize qk c i j=z1 at b1;generalize qk c j i=z2 at b2;generalize decide (b.number∈a.unless_)=z3 at i1;generalize decide (a.number∈b.unless_)=z4 at i2;obtain ⟨op,n,u,den,ps,ks,hamt⟩:=jo a;obtain ⟨op',n',u',den',ps',ks',hbmt⟩:=jo b;have hra:=zgr c ha hamt;have hrb:=zgr c hb hbmt;refine zc Tryz.func30 rfl (by rw [Tryz.ntmps30];simp) rfl rfl ?_;intro E hH hK;rw [show c.sv= .agg [.imm (zj c.facts),.imm (zj c.lines),.imm (yl c.arts)] from rfl];(refine zf ?_;conv=>whnf);refine zh (i:=i.toNat) (row:=[dI a.number,dI a.line,dI a.rank,dI a.lo,dI a.hi,dI a.known,ye a.when_,zi a.unless_,dI op,dI n,dS u,dI den,.isl 3 (ps.map Piece.cells),.isl 6 (zd ks)]) rfl (Int.toNat_of_nonneg hi.1).symm hra ?_;(refine za ?_;conv=>whnf);refine zh (i:=j.toNat) (row:=[dI b.number,dI b.line,dI b.rank,dI b.lo,dI b.hi,dI b.known,ye b.when_,zi b.unless_,dI op',dI n',dS u',dI den',.isl 3 (ps'.map Piece.cells),.isl 6 (zd ks')]) rfl (Int.toNat_of_nonneg hj.1).symm hrb ?_;(refine za ?_;conv=>whnf);refine ze rfl  b1 ?_;(refine za ?_;conv=>whnf);refine ze rfl  b2 ?_;(refine za ?_;conv=>whnf)
 by_cases g1:a.line=b.line
 rotate_left
 ·rw [decide_eq_false g1] at hK
  repeat' ((with_reducible refine way ?_ ?_)<;>(intro h;conv=>whnf))
  all_goals try (exfalso;omega)
  exact hK _
 by_cases g2:a.number=b.number
 ·rw [decide_eq_true g2,Bool.not_true,Bool.and_false] at hK
  repeat' ((with_reducible refine way ?_ ?_)<;>(intro h;conv=>whnf))
  all_goals try (exfalso;omega)
  all_goals exact hK _
 rw [decide_eq_true g1,decide_eq_false g2] at hK;cases z1
 rotate_left
 ·repeat' ((with_reducible refine way ?_ ?_)<;>(intro h;conv=>whnf))
  all_goals try (exfalso;omega)
  all_goals exact hK _
 cases z2
 rotate_left
 ·repeat' ((with_reducible refine way ?_ ?_)<;>(intro h;conv=>whnf))
  all_goals try (exfalso;omega)
  all_goals exact hK _
 repeat' ((with_reducible refine way ?_ ?_)<;>(intro h;conv=>whnf))
 all_goals try (exfalso;omega)
 refine ze rfl  i1 ?_;cases z3<;>((refine za ?_;conv=>whnf))
 rotate_left
 ·exact hK _
 refine ze rfl  i2 ?_;cases z4<;>((refine za ?_;conv=>whnf))
 ·exact hK _
 ·exact hK _
theorem ygo {n:Nat} {p:Int × Int}:p∈ztl n ↔ 0<=p.1/\p.1<p.2/\p.2<n:=by
 unfold ztl;simp only [List.mem_flatMap,List.mem_map,List.mem_filter,List.mem_range,decide_eq_true_eq];constructor
 ·rintro ⟨i,hi,j,⟨hj,hij⟩,rfl⟩
  simp only;omega
 ·rintro ⟨h1,h2,h3⟩
  refine ⟨p.1.toNat,by omega,p.2.toNat,⟨by omega,by omega⟩,?_⟩
  ext<;>simp only<;>omega
theorem ymt {c:Codex} (h:zv c=true) {i j:Int} {v:View} (hc:wy c=some (i,j,v)):0<=i/\i<j/\j<c.arts.length/\zbl c i j=true/\yg c [i,j]=some v:=by
 unfold wy at hc;rw [if_pos h] at hc;obtain ⟨p,hp,he⟩:=List.exists_of_findSome?_eq_some hc;obtain ⟨h1,h2,h3⟩:=ygo.1 hp;obtain ⟨x,y⟩:=p;simp only at he h1 h2 h3;split at he
 ·rename_i hco
  cases hw:yg c [x,y] with
  |none=>rw [hw] at he;cases he
  |some w=>
   rw [hw] at he;simp only [Option.map_some,Option.some.injEq,Prod.mk.injEq] at he;obtain ⟨rfl,rfl,rfl⟩:=he;exact ⟨h1,h2,h3,hco,hw⟩
 ·cases he
theorem yjo {c:Codex} {m:List (Int × Int)} {f x:Int}:∀(N:Nat) (e:Ex),SizeOf.sizeOf e<N->zfj c m e->e.unit=tT->simpE c e=true->cE c f x e->0<=x/\(zoy c f=true->x<=1)
 |0,_,h,_,_,_,_=>by omega
 |N+1,.mk op n u den ps ks,hN,h,hu,hs,hx=>by
  simp only [Ex.mk.sizeOf_spec] at hN;have hu:u=tT:=hu;rw [cE.eq_def] at hx;simp only at hx;have one:(op=2/\n=f/\(x=0\/(zoy c f=true/\x=1)))->0<=x/\(zoy c f=true->x<=1):=by
   rintro ⟨_,_,h|⟨_,h⟩⟩
   ·exact ⟨by omega,fun _=>by omega⟩
   ·exact ⟨by omega,fun _=>by omega⟩
  rcases hx with hx|hx
  ·exact one hx
  cases zfk h hu with
  |const h1 hk hu'=>subst hk;exact hx.elim
  |fact h1 hk hr ht=>subst hk;exact hx.elim
  |neg k h1 hk hka hku=>
   subst h1 hk;simp only [List.cons.sizeOf_spec] at hN;have hsk:simpE c k=true:=by
    rw [simpE.eq_def] at hs;simpa only [show ¬(5:Int)=1 by decide,show ¬(5:Int)=2 by decide,if_false,if_true] using hs
   exact yjo N k (by omega) hka hku hsk hx
  |conn k l h1 hk hka hla hku hlu=>
   subst hk;simp only [List.cons.sizeOf_spec] at hN;have hsE:simpE c (.mk op n u den ps [k,l])=(simpE c k&&simpE c l):=by
    rw [simpE.eq_def];simp only;rw [if_neg (by omega),if_neg (by omega),if_neg (by omega),if_pos h1]
   rw [hsE,Bool.and_eq_true] at hs;rcases hx with hx|hx|hx
   ·exact yjo N k (by omega) hka hku hs.1 hx
   ·exact yjo N l (by omega) hla hlu hs.2 hx
   ·exfalso
    have hce:zcj op=false:=by unfold zcj;rcases h1 with rfl|rfl<;>rfl
    rw [hce] at hx;cases hx.1
  |cmp k l h1 hk hka hla=>
   subst hk;rw [zdh h1] at hs;simp only [Bool.and_eq_true,Bool.or_eq_true,decide_eq_true_eq] at hs;have hlk:=zck hka (zba hs.1.1);have hll:=zck hla (zba hs.1.2);have leaf:∀{k:Ex},LeafE c k->cE c f x k->0<=x/\(zoy c f=true->x<=1):=fun hk h=>by
    obtain ⟨_,_,h|⟨_,h⟩⟩:=(zuf hk).1 h
    ·exact ⟨by omega,fun _=>by omega⟩
    ·exact ⟨by omega,fun _=>by omega⟩
   have two:∀{k l:Ex},LeafE c l->cP c f x k l->0<=x/\(zoy c f=true->x<=1):=fun hl h=>by
    obtain ⟨_,_,h3,h4,h5⟩:=h;have:=hl.k1 h3;exact ⟨by omega,fun e=>by rw [h4] at e;cases e⟩
   rcases hx with hx|hx|⟨_,hx|hx⟩
   ·exact leaf hlk hx
   ·exact leaf hll hx
   ·exact two hll hx
   ·exact two hlk hx
  |other h1 h2 h3 h4 h5=>
   exfalso
   unfold simpE at hs;rw [if_neg h1,if_neg h2,if_neg h3,if_neg h4] at hs;have hce:zcj op=false:=by unfold zcj;simp;omega
   split at hs
   ·simp [hce] at hs
   ·cases hs
mutual
def zah (p:zag):Ex->List UInt8
 | .mk op n u den ps ks=>if zcj op&&ks.any (fun k=>decide (k.op=4)) then (if holdsE p [] (.mk op n u den ps ks) then [49] else [48]) else jd p ks
def jd (p:zag):List Ex->List UInt8
 |[]=>[]
 |k::r=>zah p k++jd p r
end
def ydr (p:zag) (es:List Ex):ByteArray:=⟨(jd p es).toArray⟩
theorem yjp (p p':zag):∀(N:Nat) (e:Ex),SizeOf.sizeOf e<N->(zah p e).length=(zah p' e).length
 |0,_,h=>by omega
 |N+1,.mk op n u den ps ks,hN=>by
  simp only [Ex.mk.sizeOf_spec] at hN;have go:∀ks:List Ex,SizeOf.sizeOf ks<N->(jd p ks).length=(jd p' ks).length:=by
   intro ks
   induction ks with
   |nil=>intro _;rfl
   |cons k r ih=>
    intro h;simp only [List.cons.sizeOf_spec] at h;simp only [jd,List.length_append,yjp p p' N k (by omega),ih (by omega)]
  rw [zah,zah];split
  ·split<;>split<;>rfl
  ·exact go ks (by omega)
theorem zux {p p':zag}:∀es:List Ex,jd p es=jd p' es->∀e∈es,zah p e=zah p' e
 |[],_,e,he=>by cases he
 |k::r,h,e,he=>by
  simp only [jd] at h;obtain ⟨h1,h2⟩:=List.append_inj h (yjp p p' _ k (Nat.lt_succ_self _));rcases List.mem_cons.1 he with rfl|he
  ·exact h1
  ·exact zux r h2 e he
theorem ytu {p p':zag} {es:List Ex} (h:ydr p es=ydr p' es):∀e∈es,zah p e=zah p' e:=by
 refine zux es ?_;have:=congrArg (fun b:ByteArray=>b.data.toList) h;simpa [ydr] using this
theorem zht {c:Codex} {m:List (Int × Int)} {p p':zag} (vs:List Int):∀(N:Nat) (e:Ex),SizeOf.sizeOf e<N->zfj c m e->e.unit=tT->simpE c e=true->zah p e=zah p' e->holdsE p vs e=holdsE p' vs e
 |0,_,h,_,_,_,_=>by omega
 |N+1,.mk op n u den ps ks,hN,h,hu,hs,hm=>by
  simp only [Ex.mk.sizeOf_spec] at hN;have hu:u=tT:=hu;cases zfk h hu with
  |const h1 hk hu'=>
   subst h1 hk;unfold holdsE;rfl
  |fact h1 hk hr ht=>
   subst h1 hk;unfold holdsE;rfl
  |neg k h1 hk hka hku=>
   subst h1 hk;simp only [List.cons.sizeOf_spec] at hN;have hsk:simpE c k=true:=by
    rw [simpE.eq_def] at hs;simpa only [show ¬(5:Int)=1 by decide,show ¬(5:Int)=2 by decide,if_false,if_true] using hs
   rw [zah,zah,show zcj 5=false from rfl,Bool.false_and] at hm;simp only [Bool.false_eq_true,if_false,jd,List.append_nil] at hm;have:=zht vs N k (by omega) hka hku hsk hm;rw [holdsE.eq_def,holdsE.eq_def p'];simp only [if_true];rw [this]
  |conn k l h1 hk hka hla hku hlu=>
   subst hk;simp only [List.cons.sizeOf_spec] at hN;have hsE:simpE c (.mk op n u den ps [k,l])=(simpE c k&&simpE c l):=by
    rw [simpE.eq_def];simp only;rw [if_neg (by omega),if_neg (by omega),if_neg (by omega),if_pos h1]
   rw [hsE,Bool.and_eq_true] at hs;have hce:zcj op=false:=by unfold zcj;rcases h1 with rfl|rfl<;>rfl
   rw [zah,zah,hce,Bool.false_and] at hm;simp only [Bool.false_eq_true,if_false] at hm;have hm:=zux [k,l] hm;have g1:=zht vs N k (by omega) hka hku hs.1 (hm k (by simp));have g2:=zht vs N l (by omega) hla hlu hs.2 (hm l (by simp));rw [holdsE.eq_def,holdsE.eq_def p'];simp only;rw [g1,g2];rcases h1 with rfl|rfl<;>rfl
  |cmp k l h1 hk hka hla=>
   subst hk;rw [zdh h1] at hs;simp only [Bool.and_eq_true,Bool.or_eq_true,decide_eq_true_eq] at hs;have hce:zcj op=true:=by unfold zcj;rcases h1 with rfl|rfl|rfl<;>rfl
   have hkl:=zba hs.1.1;have hll:=zba hs.1.2;have same:∀(p:zag) (x:Ex),x.op≠4->zbr p vs x=zbr p' vs x:=fun p x hx=>by unfold zbr;rw [if_neg hx,if_neg hx]
   rw [zeb h1,zeb h1]
   by_cases hd:k.op=4\/l.op=4
   ·have ha:[k,l].any (fun k=>decide (k.op=4))=true:=by simpa using hd
    rw [zah,zah,hce,ha,Bool.true_and] at hm;simp only [if_true] at hm;rw [zeb h1,zeb h1] at hm;rw [zfq (vs':=[]) (by omega:k.op≠2),zfq (vs':=[]) (by omega:l.op≠2),zfq (p:=p') (vs:=vs) (vs':=[]) (by omega:k.op≠2),zfq (p:=p') (vs:=vs) (vs':=[]) (by omega:l.op≠2)];generalize zrr op (zbr p [] k) (zbr p [] l)=a at hm ⊢;generalize zrr op (zbr p' [] k) (zbr p' [] l)=b at hm ⊢;cases a<;>cases b<;>first|rfl|(exact absurd hm (by decide))
   ·rw [same p k (by omega),same p l (by omega)]
  |other h1 h2 h3 h4 h5=>
   exfalso
   unfold simpE at hs;rw [if_neg h1,if_neg h2,if_neg h3,if_neg h4] at hs;have hce:zcj op=false:=by unfold zcj;simp;omega
   split at hs
   ·simp [hce] at hs
   ·cases hs
def zov (l:List Int):List Int:=if l=[] then [0] else l
def jq (P:List Int->Bool):List (List Int)->List Int->Option (List Int)
 |[],v=>if P v then some v else none
 |l::r,v=>(zov l).findSome? fun x=>jq P r (v++[x])
def Fit:List (List Int)->List Int->Prop
 |[],[]=>True
 |l::r,x::t=>x∈zov l/\Fit r t
 |_,_=>False
def LtL:List Int->List Int->Prop
 |x::a,y::b=>x<y\/(x=y/\LtL a b)
 |_,_=>False
theorem zuy (P:List Int->Bool):∀(ls:List (List Int)) (v:List Int),(∀l∈ls,l.Pairwise (· < ·))->
  (∀o,jq P ls v=some o->∃t,o=v++t/\Fit ls t/\P o=true/\∀t',Fit ls t'->P (v++t')=true->¬LtL t' t)/\(jq P ls v=none->∀t',Fit ls t'->P (v++t')=false)
 |[],v,_=>by
  have e:jq P [] v=if P v then some v else none:=rfl
  rw [e];constructor
  ·intro o h
   split at h
   ·rename_i hp
    simp only [Option.some.injEq] at h;subst h;refine ⟨[],by simp,trivial,hp,fun t' ht _=>?_⟩;cases t' with
    |nil=>exact fun h=>h
    |cons=>exact ht.elim
   ·cases h
  ·intro h t' ht
   cases t' with
   |nil=>split at h;cases h;rename_i hp;simpa using hp
   |cons=>exact ht.elim
 |l::r,v,hl=>by
  have e:jq P (l::r) v=(zov l).findSome? fun x=>jq P r (v++[x]):=rfl
  have ih:=fun x=>zuy P r (v++[x]) fun l' h=>hl l' (by simp [h])
  have hd:(zov l).Pairwise (· < ·):=by
   unfold zov;split
   ·simp
   ·exact hl l (by simp)
  rw [e];constructor
  ·intro o h
   obtain ⟨l1,a,l2,hla,hfa,hno⟩:=List.findSome?_eq_some_iff.1 h;obtain ⟨t,h1,h2,h3,h4⟩:=(ih a).1 o hfa;refine ⟨a::t,by rw [h1];simp,⟨by rw [hla];simp,h2⟩,h3,fun t' ht hp=>?_⟩;cases t' with
   |nil=>exact ht.elim
   |cons x r'=>
    obtain ⟨hx,hr⟩:=ht;have hp':P ((v++[x])++r')=true:=by simpa using hp
    rw [hla] at hx hd;rw [List.pairwise_append] at hd;rcases List.mem_append.1 hx with hx|hx
    ·have:=(ih x).2 (hno x hx) r' hr
     rw [this] at hp';cases hp'
    ·rintro (hlt|⟨rfl,hlt⟩)
     ·rcases List.mem_cons.1 hx with rfl|hx
      ·omega
      ·have:=(List.pairwise_cons.1 hd.2.1).1 x hx
       omega
     ·exact h4 r' hr hp' hlt
  ·intro h t' ht
   cases t' with
   |nil=>exact ht.elim
   |cons x r'=>
    obtain ⟨hx,hr⟩:=ht;have:=(ih x).2 ((List.findSome?_eq_none_iff.1 h) x hx) r' hr;simpa using this
theorem zqm:∀(ls:List (List Int)) (t:List Int),Fit ls t ↔ t.length=ls.length/\∀i,i<ls.length->t.getD i 0∈zov (ls.getD i [])
 |[],[]=>by simp [Fit]
 |[],_::_=>by simp [Fit]
 |_::_,[]=>by simp [Fit]
 |l::r,x::t=>by
  have e:Fit (l::r) (x::t) ↔ x∈zov l/\Fit r t:=Iff.rfl;rw [e,zqm r t];constructor
  ·rintro ⟨h1,h2,h3⟩
   refine ⟨by simp [h2],fun i hi=>?_⟩;cases i with
   |zero=>simpa using h1
   |succ i=>simpa using h3 i (by simpa using hi)
  ·rintro ⟨h1,h2⟩
   refine ⟨by simpa using h2 0 (by simp),by simpa using h1,fun i hi=>?_⟩;simpa using h2 (i+1) (by simpa using hi)
theorem yds:∀(a b:List Int),a.length=b.length->a≠b->LtL a b\/LtL b a
 |[],[],_,h=>absurd rfl h
 |[],_::_,h,_=>by simp at h
 |_::_,[],h,_=>by simp at h
 |x::a,y::b,h,hn=>by
  simp only [LtL]
  by_cases e:x=y
  ·subst e
   rcases yds a b (by simpa using h) (fun e=>hn (by rw [e])) with g|g
   ·exact .inl (.inr ⟨rfl,g⟩)
   ·exact .inr (.inr ⟨rfl,g⟩)
  ·omega
theorem ydt:∀(a b:List Int),LtL a b->∃k,k<a.length/\(∀i,i<k->a.getD i 0=b.getD i 0)/\a.getD k 0<b.getD k 0
 |[],_,h=>h.elim
 |_::_,[],h=>h.elim
 |x::a,y::b,h=>by
  rcases h with h|⟨rfl,h⟩
  ·exact ⟨0,by simp,fun i hi=>by omega,by simpa using h⟩
  ·obtain ⟨k,h1,h2,h3⟩:=ydt a b h
   refine ⟨k+1,by simpa using h1,fun i hi=>?_,by simpa using h3⟩;cases i with
   |zero=>rfl
   |succ i=>simpa using h2 i (by omega)
theorem zuz {a b:List Int} {k:Nat} (h1:∀i,i<k->a.getD i 0=b.getD i 0) (h2:a.getD k 0<b.getD k 0):∀fs:List Int,fs.Pairwise (· < ·)->(∀f∈fs,0<=f)->(k:Int)∈fs->zpp fs a b=true
 |[],_,_,h=>by cases h
 |f::r,hp,h0,hk=>by
  simp only [zpp];simp only [List.pairwise_cons] at hp;rcases List.mem_cons.1 hk with e|hk
  ·rw [<-e,Int.toNat_natCast,if_pos (by omega)]
   exact decide_eq_true h2
  ·have hlt:=hp.1 _ hk
   have:=h0 f (by simp);rw [if_neg (by have:=h1 f.toNat (by omega);simpa using this)];exact zuz h1 h2 r hp.2 (fun f hf=>h0 f (by simp [hf])) hk
def zva (es:List Ex) (day:Int) (v:List Int):Bool:=es.all (holdsE (yf day) v)
def zix (es:List Ex) (ls:List (List Int)):Nat->Int->List ByteArray->Option (Int × List Int)
 |0,_,_=>none
 |n+1,day,failed=>
  if ydr (yf day) es∈failed then zix es ls n (day+1) failed
  else match jq (zva es day) ls [] with
   |some v=>some (day,v)
   |none=>zix es ls n (day+1) (failed++[ydr (yf day) es])
theorem zxo {es:List Ex} {ls:List (List Int)} (hk:∀d d',ydr (yf d) es=ydr (yf d') es->zva es d=zva es d'):∀(n:Nat) (day:Int) (failed:List ByteArray),
  (∀g∈failed,∃d,ydr (yf d) es=g/\jq (zva es d) ls []=none)->
  (∀d v,zix es ls n day failed=some (d,v)->day<=d/\d<day+n/\jq (zva es d) ls []=some v/\∀d',day<=d'->d'<d->jq (zva es d') ls []=none)/\
  (zix es ls n day failed=none->∀d',day<=d'->d'<day+n->jq (zva es d') ls []=none)
 |0,day,failed,_=>⟨fun d v h=>(by cases h),fun _ d' h1 h2=>(by omega)⟩
 |n+1,day,failed,hf=>by
  have skip:jq (zva es day) ls []=none->∀failed',(∀g∈failed',∃d,ydr (yf d) es=g/\jq (zva es d) ls []=none)->zix es ls (n+1) day failed=zix es ls n (day+1) failed'->
    (∀d v,zix es ls (n+1) day failed=some (d,v)->day<=d/\d<day+((n+1:Nat):Int)/\jq (zva es d) ls []=some v/\∀d',day<=d'->d'<d->jq (zva es d') ls []=none)/\
    (zix es ls (n+1) day failed=none->∀d',day<=d'->d'<day+((n+1:Nat):Int)->jq (zva es d') ls []=none):=by
   intro h0 failed' hf' e;obtain ⟨g1,g2⟩:=zxo hk n (day+1) failed' hf';rw [e];constructor
   ·intro d v h
    obtain ⟨a1,a2,a3,a4⟩:=g1 d v h;refine ⟨by omega,by omega,a3,fun d' b1 b2=>?_⟩
    by_cases e:d'=day
    ·rw [e];exact h0
    ·exact a4 d' (by omega) b2
   ·intro h d' b1 b2
    by_cases e:d'=day
    ·rw [e];exact h0
    ·exact g2 h d' (by omega) (by omega)
  have e0:zix es ls (n+1) day failed=if ydr (yf day) es∈failed then zix es ls n (day+1) failed
   else match jq (zva es day) ls [] with
    |some v=>some (day,v)
    |none=>zix es ls n (day+1) (failed++[ydr (yf day) es]):=rfl
  by_cases hm:ydr (yf day) es∈failed
  ·rw [if_pos hm] at e0
   obtain ⟨d,hd1,hd2⟩:=hf _ hm;exact skip (by rw [<-hk d day hd1];exact hd2) failed hf e0
  ·rw [if_neg hm] at e0
   cases hfi:jq (zva es day) ls [] with
   |some v=>
    rw [hfi] at e0;simp only at e0;rw [e0];constructor
    ·intro d v' h
     simp only [Option.some.injEq,Prod.mk.injEq] at h;obtain ⟨rfl,rfl⟩:=h;exact ⟨by omega,by omega,hfi,fun d' b1 b2=>by omega⟩
    ·intro h;cases h
   |none=>
    rw [hfi] at e0;simp only at e0;refine skip hfi _ (fun g hg=>?_) e0;rcases List.mem_append.1 hg with hg|hg
    ·exact hf g hg
    ·simp at hg
     exact ⟨day,hg.symm,hfi⟩
def ygp (c:Codex) (l:List Int):Option View:=
 match zix (ya c l) (zfb c (ya c l)) ((ym c l).2-(ym c l).1).toNat (ym c l).1 [] with
 |some (d,v)=>some ⟨d,(zfb c (ya c l)).map fun l=>decide (0<l.length),v,l⟩
 |none=>none
theorem zqn (c:Codex) (es:List Ex) {i:Nat} (h:i<c.facts.length):(zfb c es).getD i []=yab c i es:=by
 unfold zfb;rw [List.getD_eq_getElem?_getD,List.getElem?_map,List.getElem?_range h];rfl
theorem yrk {c:Codex} (h:zv c=true) (hF:c.facts.length<=12) (hw:∀a∈c.arts,a.when_.length<=41) {vs:List Int} (hv:∀v∈vs,0<=v/\v<c.arts.length) (hb:zgi c (zr vs)=true):
  ygp c (zr vs)=yg c vs:=by
 obtain ⟨hsc,hLe⟩:=zng h hF hw hv;rw [hb] at hsc;obtain ⟨q,hq⟩:=Option.isSome_iff_exists.1 hsc;have hLe:=hLe q hq;obtain ⟨w1,w2⟩:=yqt h hF hw hv hq;obtain ⟨hfull,hgo⟩:=zne h hF hw hv hq;obtain ⟨hs1,hs2⟩:=zqa h hF hv;have hR:=hs2 q hgo;rw [hgo] at hs1;have hsimp:∀e∈ya c (zr vs),simpE c e=true:=List.all_eq_true.1 hs1.symm;obtain ⟨m,hm,hc⟩:=zbo h;have hN:=zec (c:=c) hc (vs:=zr vs);rw [zlt h hv,hq];simp only;have hrl:(zfb c (ya c (zr vs))).length=c.facts.length:=by simp [zfb]
 have hinc:∀l∈zfb c (ya c (zr vs)),l.Pairwise (· < ·):=fun l hl=>by
  obtain ⟨i,hi,rfl⟩:=List.mem_map.1 hl;exact (zqb (f:=(i:Int)) _ (fun e he=>⟨hN e he,hsimp e he⟩) [] .nil).1
 have hkey:∀d d',ydr (yf d) (ya c (zr vs))=ydr (yf d') (ya c (zr vs))->zva (ya c (zr vs)) d=zva (ya c (zr vs)) d':=fun d d' hk=>by
  funext v
  have hi:=ytu hk;unfold zva;rw [Bool.eq_iff_iff,List.all_eq_true,List.all_eq_true];constructor
  ·exact fun g e he=>by rw [<-zht v _ e (Nat.lt_succ_self _) (hN e he).1 (hN e he).2 (hsimp e he) (hi e he)];exact g e he
  ·exact fun g e he=>by rw [zht v _ e (Nat.lt_succ_self _) (hN e he).1 (hN e he).2 (hsimp e he) (hi e he)];exact g e he
 have hsome:∀i:Nat,∀l,zx (i:Int) q.cands=some l->l≠[]:=fun i l hl e=>by
  have:=hR.zero _ (zbn hl);rw [e] at this;cases this
 have hdf:∀i:Nat,zov (zcs (zct q i))=match zx (i:Int) q.cands with|some l=>zcs l|none=>[0]:=fun i=>by
  unfold zct;cases hl:zx (i:Int) q.cands with
  |none=>
   show zov (zcs [])=[0];rw [show zcs []=[] from List.mergeSort_nil];rfl
  |some l=>
   simp only [Option.getD_some];unfold zov;rw [if_neg];intro e;have h2:(zcs l).length=l.length:=(List.mergeSort_perm l fun x y=>decide (x<=y)).length_eq;rw [e] at h2;exact hsome i l hl (List.length_eq_zero_iff.1 h2.symm)
 have hfit:∀v,zhp q c.facts.length v->Fit (zfb c (ya c (zr vs))) v:=fun v hcv=>by
  rw [zqm];refine ⟨by rw [hrl];have:=hcv.len;simpa [st0] using this,fun i hi=>?_⟩;rw [zqn c _ (by omega),hLe,hdf];cases hl:zx (i:Int) q.cands with
  |some l=>
   have he:((i:Int),zcs l)∈yh q.cands:=List.mem_map.2 ⟨(i:Int),zca.2 (List.mem_map.2 ⟨_,zbn hl,rfl⟩),by rw [hl];rfl⟩;have:=hcv.mem _ he;simpa using this
  |none=>
   have:=hcv.oth i fun e he hi'=>by
    obtain ⟨f,hf,rfl⟩:=List.mem_map.1 he;obtain ⟨e,hee,rfl⟩:=List.mem_map.1 (zca.1 hf);have hr:=hfull.inv.rng e hee;simp only at hi';have hl2:=zby hfull.inv.nd hee;rw [show e.1=(i:Int) by omega,hl] at hl2;cases hl2
   have hz':(st0 c.facts.length 0).vs.getD i 0=0:=by
    simp only [st0,List.getD_eq_getElem?_getD,List.getElem?_replicate];split<;>rfl
   rw [this,hz'];simp
 have hgood:∀t,Fit (zfb c (ya c (zr vs))) t->ymb c t:=fun t ht i=>by
  rw [zqm] at ht
  by_cases hi:i<c.facts.length
  ·have:=ht.2 i (by omega)
   rw [zqn c _ hi] at this;unfold zov at this;split at this
   ·simp only [List.mem_singleton] at this
    rw [this];exact ⟨by omega,fun _=>by omega⟩
   ·rw [hLe,zca] at this
    obtain ⟨x,hx,hcx⟩:=(hR.mem _ _).1 this;exact yjo _ x (Nat.lt_succ_self _) (hN x hx).1 (hN x hx).2 (hsimp x hx) hcx
  ·rw [List.getD_eq_getElem?_getD,List.getElem?_eq_none (by omega)]
   exact ⟨by simp,fun _=>by simp⟩
 have hfr:=yjh (c:=c) (zr vs);obtain ⟨r1,r2⟩:=zxo (ls:=zfb c (ya c (zr vs))) hkey ((ym c (zr vs)).2-(ym c (zr vs)).1).toNat (ym c (zr vs)).1 [] (fun g hg=>by cases hg);have hfind:=fun d=>zuy (zva (ya c (zr vs)) d) (zfb c (ya c (zr vs))) [] hinc
 have hback:∀w,jb c (zr vs) q=some w->jq (zva (ya c (zr vs)) w.day) (zfb c (ya c (zr vs))) []≠none:=fun w hw hn=>by
  obtain ⟨_,_,_,_,_,a6,a7,_⟩:=w1 w hw;have:=(hfind w.day).2 hn w.value (hfit _ a7);have h2:zva (ya c (zr vs)) w.day w.value=true:=List.all_eq_true.2 a6;rw [List.nil_append,h2] at this;cases this
 unfold ygp;cases hg:zix (ya c (zr vs)) (zfb c (ya c (zr vs))) ((ym c (zr vs)).2-(ym c (zr vs)).1).toNat (ym c (zr vs)).1 [] with
 |none=>
  cases hwo:jb c (zr vs) q with
  |none=>rfl
  |some w=>
   exfalso
   obtain ⟨a1,a2,_⟩:=w1 w hwo;exact hback w hwo (r2 hg w.day a1 (by omega))
 |some z=>
  obtain ⟨d,v⟩:=z;obtain ⟨b1,b2,b3,b4⟩:=r1 d v hg;obtain ⟨t,ht1,ht2,ht3,ht4⟩:=(hfind d).1 v b3;rw [List.nil_append] at ht1;subst ht1;have hgd:=hgood v ht2;have hsat:∀e∈ya c (zr vs),holdsE (yf d) v e=true:=List.all_eq_true.1 ht3;cases hwo:jb c (zr vs) q with
  |none=>exact absurd hsat (w2 hwo d v b1 (by omega) hgd)
  |some w=>
   obtain ⟨a1,a2,a3,a4,a5,a6,a7,a8⟩:=w1 w hwo;obtain ⟨g1,g2⟩:=a8 d v b1 (by omega) hgd hsat;have hd:w.day=d:=by
    by_cases hlt:w.day<d
    ·exact absurd (b4 w.day a1 hlt) (hback w hwo)
    ·omega
   have g2:=g2 hd;have hnl:=ht4 w.value (hfit _ a7) (by rw [List.nil_append];unfold zva;rw [<-hd];exact List.all_eq_true.2 a6);have hvl:v.length=c.facts.length:=by have:=((zqm _ _).1 ht2).1;omega
   have hval:v=w.value:=by
    refine Decidable.byContradiction fun hne=>?_
    rcases yds v w.value (by omega) hne with hlt|hlt
    ·obtain ⟨k,k1,k2,k3⟩:=ydt _ _ hlt
     have hkf:(k:Int)∈zhe q:=by
      rw [zqk hfull];refine List.mem_map.2 ⟨k,List.mem_filter.2 ⟨List.mem_range.2 (by omega),?_⟩,rfl⟩;cases hl:zx (k:Int) q.cands with
      |some l=>rfl
      |none=>
       exfalso
       have f1:=((zqm _ _).1 ht2).2 k (by omega);have f2:=((zqm _ _).1 (hfit _ a7)).2 k (by omega);rw [zqn c _ (by omega),hLe,hdf,hl] at f1 f2;simp only [List.mem_singleton] at f1 f2;omega
     have:=zuz k2 k3 (zhe q) (by
      rw [zqk hfull,List.pairwise_map];exact List.Pairwise.filter _ (List.pairwise_lt_range.imp fun h=>by omega)) (fun f hf=>by
      rw [zqk hfull] at hf;obtain ⟨i,_,rfl⟩:=List.mem_map.1 hf
      omega) hkf
     rw [this] at g2;cases g2
    ·exact hnl hlt
   obtain ⟨wday,whas,wval,warts⟩:=w;simp only at hd hval a4 a5;rw [hd,a5,a4,hval];simp only [Option.some.injEq,View.mk.injEq,true_and,and_true];unfold zfb;rw [List.map_map];refine List.map_congr_left fun i hi=>?_
   have hll:(yab c i (ya c (zr vs))).length=(zct q i).length:=by rw [hLe];exact (List.mergeSort_perm _ _).length_eq
   show decide (0<(yab c i (ya c (zr vs))).length)=_;simp only [hll];unfold zct;cases hl:zx (i:Int) q.cands with
   |none=>rfl
   |some l=>
    simp only [Option.getD_some,Option.isSome_some];refine decide_eq_true ?_;rcases Nat.eq_zero_or_pos l.length with h0|h0
    ·exact absurd (List.length_eq_zero_iff.1 h0) (hsome i l hl)
    ·exact h0
end Go.Proofs.YtblpjknmhajcgaaGreatDoor
namespace Go.Sh
section
variable {P:Program} {G:List (Nat × D)}
theorem SV.Is.asl (b k:Nat) (rows:List (List D)):(SV.asl b k rows).Is (.imm (.isl k rows)):=fun w I β v h=>by
 cases h with|asl _ _ _ _ u n hd=>exact .imm hd
theorem zlx {f:FuncId} {args args':List SV} {r:SV} (h:zw P G f args' r) (hs:SIs args args'):zw P G f args r:=fun H w I β vs hH hv=>
 h H w I β vs hH ⟨hv.len.trans hs.len,fun j v s h1 h2=>by
  have hj':j<args'.length:=lt_of_getElem? h2;have hj:j<args.length:=by rw [hs.len];exact hj'
  have h3:=hs.get j hj hj' w I β v (hv.rep j v _ h1 (List.getElem?_eq_getElem hj));rw [List.getElem?_eq_getElem hj'] at h2;cases h2
  exact h3⟩
end
end Go.Sh
namespace Go.Proofs.YtblpjknmhajcgaaGreatDoor
open Go Go.Sh
variable (G:List (Nat × D))
def yyp (P:List Int->Bool) (ls:List (List Int)) (v:List Int) (x:SV):Prop:=∀o,jq P ls v=some o->x= .imm (zi o)
def xag (res:Option (List Int)):SV:=match res with|some o=>.imm (zi o)|none=>zdp
theorem zvb (P:List Int->Bool) (l:List Int) (r:List (List Int)) (v:List Int):jq P (l::r) v=(zov l).findSome? fun x=>jq P r (v++[x]):=rfl
theorem zvc (es:List Ex) (p:zag) (ls:List (List Int)) (hz:ls.length<=1000) (hzl:∀l∈ls,l.length<=100000000) (ha:es.length<=1000000) (hr:∀e∈es,readE ls.length e):∀(n:Nat) (v:List Int),v.length+n=ls.length->
  ∃x,yyp (fun w=>es.all (holdsE p w)) (ls.drop v.length) v x/\(x=zdp\/∃w,x= .imm (zi w))/\zw Tryz.prog G 47 [.imm (ye es),yfy p,.imm (qh ls),.imm (zi v)] (.tup [x,sB (jq (fun w=>es.all (holdsE p w)) (ls.drop v.length) v).isSome])
 |0,v,hn=>by
  have hlm:(ls.map fun l=>[zi l]).length=ls.length:=by simp
  have hvm:(v.map fun n=>[dI n]).length=v.length:=by simp
  have he:=ycv G es p v (by omega) ha (fun e h=>by rw [show v.length=ls.length by omega];exact hr e h);have hd:ls.drop v.length=[]:=List.drop_of_length_le (by omega);rw [hd];have hf:jq (fun w=>es.all (holdsE p w)) [] v=if es.all (holdsE p v) then some v else none:=rfl
  refine ⟨.imm (zi v),fun o ho=>?_,.inr ⟨v,rfl⟩,?_⟩
  ·rw [hf] at ho
   split at ho
   ·simp only [Option.some.injEq] at ho;rw [ho]
   ·cases ho
  ·have hs:(jq (fun w=>es.all (holdsE p w)) [] v).isSome=es.all (holdsE p v):=by
    rw [hf];cases es.all (holdsE p v)<;>rfl
   rw [hs];generalize es.all (holdsE p v)=b at he;refine zc Tryz.func47 rfl (by rw [Tryz.ntmps47];simp) rfl rfl ?_;intro E hH hK;(refine zf ?_;conv=>whnf)
   repeat' ((with_reducible refine way ?_ ?_)<;>(intro h;conv=>whnf))
   all_goals try (exfalso;omega)
   refine ze rfl  he ?_;(refine za ?_;conv=>whnf);exact hK _
 |n+1,v,hn=>by
  have hlm:(ls.map fun l=>[zi l]).length=ls.length:=by simp
  have hvm:(v.map fun n=>[dI n]).length=v.length:=by simp
  obtain ⟨cl,hcl⟩:∃cl,ls[v.length]?=some cl:=⟨_,List.getElem?_eq_getElem (by omega)⟩;have hrow:(ls.map fun l=>[zi l])[v.length]?=some [zi cl]:=by simp [hcl]
  have hdrop:ls.drop v.length=cl::ls.drop (v.length+1):=by
   obtain ⟨hlt,hce⟩:=List.getElem?_eq_some_iff.1 hcl;rw [List.drop_eq_getElem_cons hlt,hce]
  have hclz:=hzl cl (List.mem_of_getElem? hcl);have hih:=fun x=>zvc es p ls hz hzl ha hr n (v++[x]) (by simp;omega)
  simp only [List.length_append,List.length_cons,List.length_nil] at hih;rw [hdrop,zvb];have hdz:(zov cl).length<=100000000:=by
   unfold zov;split
   ·simp
   ·exact hclz
  obtain ⟨P,hP⟩:∃P:Int->Option (List Int),P=fun x=>jq (fun w=>es.all (holdsE p w)) (ls.drop (v.length+1)) (v++[x]):=⟨_,rfl⟩
  have hP':∀x,jq (fun w=>es.all (holdsE p w)) (ls.drop (v.length+1)) (v++[x])=P x:=fun x=>by rw [hP]
  simp only [hP'] at hih;rw [<-hP];obtain ⟨res,hres⟩:∃res,res=(zov cl).findSome? P:=⟨_,rfl⟩;have key:zw Tryz.prog G 47 [.imm (ye es),yfy p,.imm (qh ls),.imm (zi v)] (.tup [xag res,sB res.isSome]):=by
   refine zc Tryz.func47 rfl (by rw [Tryz.ntmps47];simp) rfl (by cases res<;>rfl) ?_;intro E hH hK;(refine zf ?_;conv=>whnf)
   repeat' ((with_reducible refine way ?_ ?_)<;>(intro h;conv=>whnf))
   all_goals try (exfalso;omega)
   refine zh (i:=v.length) (row:=[zi cl]) rfl (by rw [hvm]) hrow ?_;(refine za ?_;conv=>whnf);have hdm:((zov cl).map fun n=>[dI n]).length=(zov cl).length:=by simp
   apply zsa (T:=fun _:Unit=>[(0,.imm (ye es)),(2,.imm (qh ls)),(3,.imm (zi v)),(5,.ptr 0 0),(12,.imm (zi (zov cl))),(13,sI 0)]) (H:=[.cells [sI p.1,sI p.2.1,sI p.2.2.1,sI p.2.2.2.1,sI p.2.2.2.2]]) (x:=())
   case h1=>
    intro key;have hclm:(cl.map fun n=>[dI n]).length=cl.length:=by simp
    repeat' ((with_reducible refine way ?_ ?_)<;>(intro h;conv=>whnf))
    ·have hc0:cl=[]:=List.length_eq_zero_iff.1 (by omega)
     have hd0:zov cl=[0]:=by unfold zov;rw [if_pos hc0]
     rw [hd0] at key;refine zg [0,2,3,5,12,13] ?_;exact key () rfl
    ·have hd0:zov cl=cl:=by unfold zov;rw [if_neg];intro e;rw [e] at h;exact h rfl
     rw [hd0] at key;refine zg [0,2,3,5,12,13] ?_;exact key () rfl
   case h2=>
    refine zo (zov cl) (fun i (_:Unit)=>[(0,.imm (ye es)),(2,.imm (qh ls)),(3,.imm (zi v)),(5,.ptr 0 0),(12,.imm (zi (zov cl))),(13,sI i)]) (fun _ _=>[.cells [sI p.1,sI p.2.1,sI p.2.2.1,sI p.2.2.2.1,sI p.2.2.2.2]])
     (fun done _ _=>∀x∈done,P x=none) () (by simp) ?_ ?_
    ·rintro _ h2
     have hn:res=none:=by rw [hres,List.findSome?_eq_none_iff];exact h2
     rw [hn] at hK;(refine zf ?_;conv=>whnf)
     repeat' ((with_reducible refine way ?_ ?_)<;>(intro h;conv=>whnf))
     all_goals try (exfalso;omega)
     exact hK _
    ·rintro done x rest _ hda hdl h2 ih
     have hw:=zk (n:=done.length) (by omega);have hrx:((zov cl).map fun n=>[dI n])[done.length]?=some [dI x]:=by simp [hda]
     obtain ⟨xr,hx1,hx2,hx3⟩:=hih x;have hrows:([]++(v.map fun n=>[dI n]))++[[dI x]]=(v++[x]).map fun n=>[dI n]:=by simp
     have hIs:(SV.asl 1 1 (([]++(v.map fun n=>[dI n]))++[[dI x]])).Is (.imm (zi (v++[x]))):=by rw [hrows];exact SV.Is.asl 1 1 _
     have hx3:=zlx hx3 (args:=[.imm (ye es),yfy p,.imm (qh ls),.asl 1 1 (([]++(v.map fun n=>[dI n]))++[[dI x]])]) (.cons (SV.Is.refl _) (.cons (SV.Is.refl _) (.cons (SV.Is.refl _) (.cons hIs .nil))));have hcont:P x=none->SW E _ _ _:=fun h0=>ih () fun y hy=>by
      rcases List.mem_append.1 hy with hy|hy
      ·exact h2 y hy
      ·simp at hy;rw [hy];exact h0
     have hstop:∀o,P x=some o->res=some o/\xr= .imm (zi o):=fun o ho=>by
      refine ⟨?_,hx1 o (by rw [<-ho];exact hP' x)⟩;rw [hres,hda,List.findSome?_append,List.findSome?_eq_none_iff.2 h2];simp [ho]
     (refine qs [777,43] 1000 ?_;conv=>whnf)
     repeat' ((with_reducible refine way ?_ ?_)<;>(intro h;conv=>whnf))
     all_goals try (exfalso;omega)
     refine jx (fun _ h=>zjr (n:=14) (kk:=1) rfl h) ?_;(refine za ?_;conv=>whnf);refine wm (b:=1) (kk:=1) (rows:=[]) (new:=v.map fun n=>[dI n]) rfl ⟨show 8<=65536 by decide,rfl⟩ rfl (by simp;omega) ?_;(refine za ?_;conv=>whnf);refine zu 0 mixed rfl ?_;(refine zb [777,53] (nx:=2) ?_;conv=>whnf);refine zt (i:=done.length) (row:=[dI x]) rfl (show 2<=2 by decide) rfl hrx ?_;(refine zb [777,56] (nx:=2) ?_;conv=>whnf);refine zfo (b:=1) (kk:=1) (rows:=[]++(v.map fun n=>[dI n])) (new:=[[dI x]]) rfl rfl rfl rfl rfl rfl rfl rfl rfl rfl ⟨show 8<=65536 by decide,rfl⟩ (show 2<=2 by decide) (by simp;rfl) (by simp;omega) ?_;refine yi rfl (show 2<=2 by decide) hx3 ?_;cases hPx:P x with
     |none=>
      rcases hx2 with rfl|⟨w,rfl⟩
      all_goals (refine zb [777,16] (nx:=2) ?_;conv=>whnf)
      all_goals refine qp ⟨sB false,[],none⟩ rfl rfl (show 2<=2 by decide) (fun _ _ _=>rfl) ?_
      all_goals refine qt (by kernel_rfl) ?_
      all_goals (refine zf ?_;conv=>whnf)
      all_goals rw [hw]
      all_goals exact yy [0,2,3,5,12,13] 1 (by rw [hH];exact Nat.zero_le 1) (Nat.succ_le_succ (Nat.zero_le _)) rfl rfl (hcont hPx)
     |some o=>
      obtain ⟨hr1,rfl⟩:=hstop o hPx;rw [hr1] at hK;(refine zb [777,16] (nx:=2) ?_;conv=>whnf);refine qp ⟨sB true,[],none⟩ rfl rfl (show 2<=2 by decide) (fun _ _ _=>rfl) ?_;refine qt (by kernel_rfl) ?_;(refine zf ?_;conv=>whnf);exact hK _
  refine ⟨xag res,fun o ho=>?_,(by cases res with|none=>exact .inl rfl|some o=>exact .inr ⟨o,rfl⟩),hres ▸ key⟩;rw [zvb, <-hP, <-hres] at ho;rw [ho];rfl
end Go.Proofs.YtblpjknmhajcgaaGreatDoor
namespace Go.Sh
section
variable {P:Program} {G:List (Nat × D)} {fn:Func} {rd:Bool} {E:En P G fn rd} {t:List (Nat × SV)} {H K:List SObj} {k:List Item} {m:Nat} {all:Array Oper} {rest:List Oper} {done:List Eff} {o:Oper}
theorem ywq {ev:Operand->SV} {x y:Operand} {ty ty':TypeId} {a b:ByteArray} (hx:ev x= .imm (.val (.string a))) (hy:ev y= .imm (.val (.string b))) (hs:a.size+b.size<=9223372036854775807):
  sop P (.binOp .add ty x y ty') ev H=some (.imm (.val (.string (a++b))),H):=by
 have hmax:¬((a.size+b.size:Nat):Int)>IntKind.i64.max:=by
  have:IntKind.i64.max=9223372036854775807:=by decide
  rw [this];omega
 simp only [sop,hx,hy,yrv,yyt];rw [if_neg hmax];rfl
theorem yrl {x y:Operand} {ty ty':TypeId} {a b:ByteArray} (hop:o.op= .binOp .add ty x y ty') (hw:yq all t o.guard=some true) (hd:yv fn.ntmps o.dst=true) (hx:zq G t x= .imm (.val (.string a))) (hy:zq G t y= .imm (.val (.string b))) (hm:m<=K.length)
  (hs:a.size+b.size<=9223372036854775807) (h:SWe E m all rest k (wz t o.dst (.imm (.val (.string (a++b))))) K (done++[⟨.imm (.val (.string (a++b))),[],none⟩])):SWe E m all (o::rest) k t K done:=
 qp ⟨.imm (.val (.string (a++b))),[],none⟩ hw hd hm (fun K' _ _=>by rw [hop];exact ywq hx hy hs) h
end
end Go.Sh
namespace Go.Proofs.YtblpjknmhajcgaaGreatDoor
open Go Go.Sh
variable (G:List (Nat × D))
theorem ytv {d:Int} (h:0<=d/\d+1<=36524) {y m r:Int} (he:wn d=(y,m,r)):
  2000<=y/\y<=2099/\1<=m/\m<=12/\1<=r/\r<=31/\(r+1<=zgp (12*(y-2000)+m-1)->wn (d+1)=(y,m,r+1))/\
  (zgp (12*(y-2000)+m-1)<r+1->(m<12->wn (d+1)=(y,m+1,1))/\(m=12->wn (d+1)=(y+1,1,1))):=by
 obtain ⟨M,h1,h2,h3,e⟩:=zyv (d:=d) (by omega);rw [he] at e;simp only [Prod.mk.injEq] at e;obtain ⟨rfl,rfl,rfl⟩:=e;have hr:=zci M;have hst:zy (M+1)=zy M+lenOf M:=rfl;have hst2:zy (M+1+1)=zy (M+1)+lenOf (M+1):=rfl;have hr2:=zci (M+1);have hml:zgp (12*(2000+((M / 12:Nat):Int)-2000)+(((M % 12:Nat):Int)+1)-1)=lenOf M:=by
  have:12*(2000+((M / 12:Nat):Int)-2000)+(((M % 12:Nat):Int)+1)-1=(M:Int):=by omega
  rw [this];unfold zgp;rw [if_pos (by omega)];rfl
 rw [hml];refine ⟨by omega,by omega,by omega,by omega,by omega,by omega,fun hl=>?_,fun hl=>⟨fun hm=>?_,fun hm=>?_⟩⟩
 ·have:=zer (d:=d+1) (y:=M / 12) (m:=M % 12) (r:=d+1-zy M) (by omega) (by omega) (by omega) (by rw [show 12*(M / 12)+M % 12=M by omega];omega) (by rw [show 12*(M / 12)+M % 12=M by omega];omega)
  rw [this]
  congr 2
  omega
 ·have:=zer (d:=d+1) (y:=M / 12) (m:=M % 12+1) (r:=0) (by omega) (by omega) (by omega) (by rw [show 12*(M / 12)+(M % 12+1)=M+1 by omega];omega) (by rw [show 12*(M / 12)+(M % 12+1)=M+1 by omega];omega)
  rw [this]
  congr 2
 ·have:=zer (d:=d+1) (y:=M / 12+1) (m:=0) (r:=0) (by omega) (by omega) (by omega) (by rw [show 12*(M / 12+1)+0=M+1 by omega];omega) (by rw [show 12*(M / 12+1)+0=M+1 by omega];omega)
  rw [this]
  congr 1
theorem zvd (d:Int) (hd:0<=d/\d+1<=36524):zw Tryz.prog G 44 [yfy (yf d)] (yfy (yf (d+1))):=by
 obtain ⟨y,m,r,he⟩:∃y m r,wn d=(y,m,r):=⟨_,_,_,rfl⟩;obtain ⟨b1,b2,b3,b4,b5,b6,b7,b8⟩:=ytv hd he;have hw1:=ybw (d:=d+1) (by omega);rw [show d+1-1=d by omega] at hw1;have hwr:=yim (d:=d) (by omega);have hp:yf d=(0,zaj d,r,m,y):=by unfold yf;rw [he]
 have hp2:yf (d+1)=(0,zaj (d+1),(wn (d+1)).2.2,(wn (d+1)).2.1,(wn (d+1)).1):=rfl;rw [hp,hp2];generalize zaj d=w at hw1 hwr;have ht:=Int.tmod_eq_emod_of_nonneg (a:=w) (b:=7) (by omega);have e1:IntKind.i64.wrap (w.tmod 7+1)=w.tmod 7+1:=yz (by omega) (by omega);have e2:IntKind.i64.wrap (r+1)=r+1:=yz (by omega) (by omega);have e3:IntKind.i64.wrap (m+1)=m+1:=yz (by omega) (by omega);have e4:IntKind.i64.wrap (y+1)=y+1:=yz (by omega) (by omega);have e5:IntKind.i64.wrap (IntKind.i64.wrap (IntKind.i64.wrap (12*IntKind.i64.wrap (y-2000))+m)-1)=12*(y-2000)+m-1:=by
  rw [yz (c:=y-2000) (by omega) (by omega),yz (c:=12*(y-2000)) (by omega) (by omega),yz (c:=12*(y-2000)+m) (by omega) (by omega),yz (by omega) (by omega)]
 have hL:=zvm G (12*(y-2000)+m-1);rw [<-e5] at hL;rw [<-e5] at b7 b8;generalize zgp (IntKind.i64.wrap (IntKind.i64.wrap (IntKind.i64.wrap (12*IntKind.i64.wrap (y-2000))+m)-1))=ml at hL b7 b8;refine zc Tryz.func44 rfl (by rw [Tryz.ntmps44];simp) rfl rfl ?_;intro E hH hK;rw [hw1] at hK;(refine zf ?_;conv=>whnf);refine zg [1,2] ?_;change SW E _ [(1,.ptr 0 0),(2,.ptr 1 0)] [.cells [sI 0,sI (IntKind.i64.wrap (w.tmod 7+1)),sI (IntKind.i64.wrap (r+1)),sI m,sI y],.cells [sI 0,sI 0,sI 0,sI 0,sI 0]];rw [e1,e2];refine zu 0 mixed rfl ?_;(refine zb [777,22] (nx:=2) ?_;conv=>whnf);refine yi rfl (show 2<=2 by decide) hL ?_;(refine zb [777,23] (nx:=2) ?_;conv=>whnf);refine qp ⟨sB (decide (ml<r+1)),[],none⟩ rfl rfl (show 2<=2 by decide) (fun _ _ _=>rfl) ?_;refine qt (by kernel_rfl) ?_
 by_cases hl:ml<r+1
 ·obtain ⟨c1,c2⟩:=b8 hl
  rw [decide_eq_true hl]
  by_cases hm:m=12
  ·rw [c2 hm] at hK
   (refine zf ?_;conv=>whnf);rw [e3]
   repeat' ((with_reducible refine way ?_ ?_)<;>(intro h;conv=>whnf))
   all_goals try (exfalso;omega)
   rw [e4];exact hK _
  ·rw [c1 (by omega)] at hK
   (refine zf ?_;conv=>whnf);rw [e3]
   repeat' ((with_reducible refine way ?_ ?_)<;>(intro h;conv=>whnf))
   all_goals try (exfalso;omega)
   exact hK _
 ·rw [b7 (by omega)] at hK
  rw [decide_eq_false hl];(refine zf ?_;conv=>whnf)
  repeat' ((with_reducible refine way ?_ ?_)<;>(intro h;conv=>whnf))
  all_goals try (exfalso;omega)
  exact hK _
theorem ydu (a b:List UInt8):(⟨a.toArray⟩:ByteArray)++⟨b.toArray⟩=⟨(a++b).toArray⟩:=by
 refine ByteArray.ext ?_;rw [ByteArray.data_append];simp
theorem zdk (p:zag):∀a b:List Ex,jd p (a++b)=jd p a++jd p b
 |[],b=>rfl
 |x::a,b=>by
  rw [List.cons_append,jd,jd,zdk p a b,List.append_assoc]
theorem yrm (p:zag):∀(N:Nat) (e:Ex),SizeOf.sizeOf e<N->(zah p e).length<=yx e
 |0,_,h=>by omega
 |N+1,.mk op n u den ps ks,hN=>by
  simp only [Ex.mk.sizeOf_spec] at hN;have go:∀ks:List Ex,SizeOf.sizeOf ks<N->(jd p ks).length<=yb ks:=by
   intro ks
   induction ks with
   |nil=>intro _;simp [jd]
   |cons k r ih=>
    intro h;simp only [List.cons.sizeOf_spec] at h;have h1:=yrm p N k (by omega);have h2:=ih (by omega);simp only [jd,List.length_append,yb];omega
  have:=go ks (by omega);rw [zah,yx];split
  ·split<;>(simp only [List.length_cons,List.length_nil];omega)
  ·omega
theorem zzx (p:zag) (ks:List Ex):(jd p ks).length<=yb ks:=by
 induction ks with
 |nil=>simp [jd]
 |cons k r ih=>
  have h1:=yrm p _ k (Nat.lt_succ_self _);simp only [jd,List.length_append,yb];omega
theorem zef (p:zag) (op n:Int) (u:ByteArray) (den:Int) (ps:List Piece) (ks:List Ex) (hz:yb ks<=1000000) (hc:zcj op=true->∃k l,ks=[k,l]/\k.op≠4/\l.op≠4)
  (hk:∀k∈ks,zw Tryz.prog G 45 [k.sv,yfy p] (sS ⟨(zah p k).toArray⟩)):zw Tryz.prog G 45 [(Ex.mk op n u den ps ks).sv,yfy p] (sS ⟨(jd p ks).toArray⟩):=by
 have hlen:(zd ks).length=ks.length:=by rw [zp];simp
 have hcmp:=zas G op;have hle:=zch ks;obtain ⟨b,hb⟩:∃b,b=zcj op:=⟨_,rfl⟩;rw [<-hb] at hcmp hc;obtain ⟨p0,p1,p2,p3,p4⟩:=p;obtain ⟨q,hq⟩:∃q,jd (p0,p1,p2,p3,p4) ks=q:=⟨_,rfl⟩;rw [hq];refine zc Tryz.func45 rfl (by rw [Tryz.ntmps45];simp) rfl rfl ?_;intro E hH hK;(refine zf ?_;conv=>whnf);refine ze rfl  hcmp ?_
 apply zsa (T:=fun _:Unit=>[(2,.ptr 0 0),(3,.ptr 1 0),(5,sS ⟨([]:List UInt8).toArray⟩),(8,sI 0)]) (H:=[.cells [sI op,sI n,sS u,sI den,.imm (.isl 3 (ps.map Piece.cells)),.imm (.isl 6 (zd ks))],.cells [sI p0,sI p1,sI p2,sI p3,sI p4]]) (x:=())
 case h1=>
  intro key;cases b with
  |false=>
   (refine za ?_;conv=>whnf);refine zg [2,3,5,8] ?_;exact key () rfl
  |true=>
   obtain ⟨k,l,rfl,hk4,hl4⟩:=hc rfl;obtain ⟨kop,kn,ku,kden,kps,kks⟩:=k;obtain ⟨lop,ln,lu,lden,lps,lks⟩:=l;have hk4:¬kop=4:=hk4;have hl4:¬lop=4:=hl4;(refine za ?_;conv=>whnf);refine zh (i:=0) (row:=[dI kop,dI kn,dS ku,dI kden,.isl 3 (kps.map Piece.cells),.isl 6 (zd kks)]) rfl rfl rfl ?_;(refine za ?_;conv=>whnf)
   repeat' ((with_reducible refine way ?_ ?_)<;>(intro h;conv=>whnf))
   all_goals try (exfalso;omega)
   refine zh (i:=1) (row:=[dI lop,dI ln,dS lu,dI lden,.isl 3 (lps.map Piece.cells),.isl 6 (zd lks)]) rfl rfl rfl ?_;(refine za ?_;conv=>whnf)
   repeat' ((with_reducible refine way ?_ ?_)<;>(intro h;conv=>whnf))
   all_goals try (exfalso;omega)
   refine zg [2,3,5,8] ?_;exact key () rfl
 case h2=>
  refine zo ks (fun i (a:List UInt8)=>[(2,.ptr 0 0),(3,.ptr 1 0),(5,sS ⟨a.toArray⟩),(8,sI i)]) (fun _ _=>[.cells [sI op,sI n,sS u,sI den,.imm (.isl 3 (ps.map Piece.cells)),.imm (.isl 6 (zd ks))],.cells [sI p0,sI p1,sI p2,sI p3,sI p4]])
   (fun done _ a=>a=jd (p0,p1,p2,p3,p4) done) [] rfl ?_ ?_
  ·rintro a h2
   rw [hq] at h2;subst h2;(refine zf ?_;conv=>whnf)
   repeat' ((with_reducible refine way ?_ ?_)<;>(intro h;conv=>whnf))
   all_goals try (exfalso;omega)
   exact hK _
  ·rintro done x rest a hda hdl h2 ih
   have hw:=zk (n:=done.length) (by omega);have hx:=hk x (by rw [hda];simp);have hrx:(zd ks)[done.length]?=some x.cells:=by rw [zp];simp [hda]
   have hs1:=zzx (p0,p1,p2,p3,p4) (done++[x]);have hs2:=zzx (p0,p1,p2,p3,p4) ks;rw [hda,zdk,List.length_append] at hs2;have hs3:(jd (p0,p1,p2,p3,p4) (x::rest)).length=(zah (p0,p1,p2,p3,p4) x).length+(jd (p0,p1,p2,p3,p4) rest).length:=by rw [jd,List.length_append]
   have hs4:yb ks<=1000000:=hz;rw [hda] at hs4;have hsn:a++zah (p0,p1,p2,p3,p4) x=jd (p0,p1,p2,p3,p4) (done++[x]):=by rw [zdk,h2];simp [jd]
   have hap:=ydu a (zah (p0,p1,p2,p3,p4) x);have hal:a.length+(zah (p0,p1,p2,p3,p4) x).length<=1000000:=by rw [h2];omega
   have hih:=ih (a++zah (p0,p1,p2,p3,p4) x) hsn;generalize zah (p0,p1,p2,p3,p4) x=y at*;rw [<-hap] at hih;obtain ⟨xop,xn,xu,xden,xps,xks⟩:=x;(refine zf ?_;conv=>whnf)
   repeat' ((with_reducible refine way ?_ ?_)<;>(intro h;conv=>whnf))
   all_goals try (exfalso;omega)
   (refine zu 0 mixed rfl ?_;refine zb [777] (nx:=2) ?_;conv=>whnf);refine zt (i:=done.length) (row:=[dI xop,dI xn,dS xu,dI xden,.isl 3 (xps.map Piece.cells),.isl 6 (zd xks)]) rfl (show 2<=2 by decide) rfl hrx ?_;(refine zb [777] (nx:=2) ?_;conv=>whnf);refine yi rfl (show 2<=2 by decide) hx ?_
   refine yrl rfl rfl rfl rfl rfl (show 2<=2 by decide) (by
    show a.toArray.size+y.toArray.size<=_;simp
    omega) ?_
   (refine zb [777,5] (nx:=2) ?_;conv=>whnf);refine qp ⟨.imm (.val (.string (⟨a.toArray⟩++⟨y.toArray⟩))),[],none⟩ rfl rfl (show 2<=2 by decide) (fun _ _ _=>rfl) ?_;refine qt (by kernel_rfl) ?_;(refine zf ?_;conv=>whnf);rw [hw];exact zg [2,3,5,8] hih
theorem zve (p:zag) {c:Codex} {k:Ex} (h:LeafE c k) (hp:k.op=1\/k.op=2\/k.op=4):zw Tryz.prog G 45 [k.sv,yfy p] (sS ⟨(zah p k).toArray⟩):=by
 obtain ⟨op,n,u,den,ps,ks⟩:=k;have hks:ks=[]:=h.no;subst hks;have hp:op=1\/op=2\/op=4:=hp;have hce:zcj op=false:=by unfold zcj;simp;omega
 rw [zah,hce,Bool.false_and];simp only [Bool.false_eq_true,if_false];exact zef G p op n u den ps [] (by simp [yb]) (fun h=>by rw [hce] at h;cases h) (fun k h=>by cases h)
theorem ziy {c:Codex} {m:List (Int × Int)} (p:zag):∀(N:Nat) (e:Ex),SizeOf.sizeOf e<N->zfj c m e->e.unit=tT->simpE c e=true->yx e<=1000000->zw Tryz.prog G 45 [e.sv,yfy p] (sS ⟨(zah p e).toArray⟩)
 |0,_,h,_,_,_,_=>by omega
 |N+1,.mk op n u den ps ks,hN,h,hu,hs,hz=>by
  simp only [Ex.mk.sizeOf_spec] at hN;have hu:u=tT:=hu;rw [yx] at hz;cases zfk h hu with
  |const h1 hk hu'=>
   subst h1 hk;rw [zah,show zcj 1=false from rfl,Bool.false_and];simp only [Bool.false_eq_true,if_false];exact zef G p 1 n u den ps [] (by omega) (fun h=>by cases h) (fun k h=>by cases h)
  |fact h1 hk hr ht=>
   subst h1 hk;rw [zah,show zcj 2=false from rfl,Bool.false_and];simp only [Bool.false_eq_true,if_false];exact zef G p 2 n u den ps [] (by omega) (fun h=>by cases h) (fun k h=>by cases h)
  |neg k h1 hk hka hku=>
   subst h1 hk;simp only [List.cons.sizeOf_spec] at hN;have hsk:simpE c k=true:=by
    rw [simpE.eq_def] at hs;simpa only [show ¬(5:Int)=1 by decide,show ¬(5:Int)=2 by decide,if_false,if_true] using hs
   rw [zah,show zcj 5=false from rfl,Bool.false_and];simp only [Bool.false_eq_true,if_false];simp only [yb] at hz;refine zef G p 5 n u den ps [k] (by simp only [yb];omega) (fun h=>by cases h) fun x hx=>?_
   simp only [List.mem_singleton] at hx;subst hx;exact ziy p N x (by omega) hka hku hsk (by omega)
  |conn k l h1 hk hka hla hku hlu=>
   subst hk;simp only [List.cons.sizeOf_spec] at hN;have hsE:simpE c (.mk op n u den ps [k,l])=(simpE c k&&simpE c l):=by
    rw [simpE.eq_def];simp only;rw [if_neg (by omega),if_neg (by omega),if_neg (by omega),if_pos h1]
   rw [hsE,Bool.and_eq_true] at hs;have hce:zcj op=false:=by unfold zcj;rcases h1 with rfl|rfl<;>rfl
   rw [zah,hce,Bool.false_and];simp only [Bool.false_eq_true,if_false];simp only [yb] at hz;refine zef G p op n u den ps [k,l] (by simp only [yb];omega) (fun h=>by rw [hce] at h;cases h) fun x hx=>?_
   simp only [List.mem_cons,List.not_mem_nil,or_false] at hx;rcases hx with rfl|rfl
   ·exact ziy p N x (by omega) hka hku hs.1 (by omega)
   ·exact ziy p N x (by omega) hla hlu hs.2 (by omega)
  |cmp k l h1 hk hka hla=>
   subst hk;have hs0:=hs;rw [zdh h1] at hs;simp only [Bool.and_eq_true,Bool.or_eq_true,decide_eq_true_eq] at hs;have hce:zcj op=true:=by unfold zcj;rcases h1 with rfl|rfl|rfl<;>rfl
   have hkp:=zba hs.1.1;have hlp:=zba hs.1.2;have hlk:=zck hka hkp;have hll:=zck hla hlp;simp only [yb] at hz
   by_cases hd:k.op=4\/l.op=4
   ·have ha:[k,l].any (fun k=>decide (k.op=4))=true:=by simpa using hd
    have hrd:readE ([]:List Int).length (.mk op n u den ps [k,l]):=by
     rw [readE.eq_def];simp only;rw [if_neg (by omega),if_neg (by omega),if_neg (by omega),if_neg (by omega),if_pos h1];exact ⟨⟨fun e=>by omega,fun e=>by have:=hlk.k4 e;omega⟩,⟨fun e=>by omega,fun e=>by have:=hll.k4 e;omega⟩⟩
    have hh:=zlx (zfa G p [] (by simp) _ (.mk op n u den ps [k,l]) (Nat.lt_succ_self _) hrd) (args:=[(Ex.mk op n u den ps [k,l]).sv,yfy p,.imm (.val (.slice none 0 0))]) (.cons (SV.Is.refl _) (.cons (SV.Is.refl _) (.cons (SV.Is.nil 1) .nil)));have hcmp:=zas G op;rw [hce] at hcmp;rw [zah,hce,ha,Bool.true_and];simp only [if_true];generalize holdsE p [] (.mk op n u den ps [k,l])=hv at hh;obtain ⟨kop,kn,ku,kden,kps,kks⟩:=k;obtain ⟨lop,ln,lu,lden,lps,lks⟩:=l;have hd:kop=4\/lop=4:=hd;refine zc Tryz.func45 rfl (by rw [Tryz.ntmps45];simp) rfl rfl ?_;intro E hH hK;(refine zf ?_;conv=>whnf);refine ze rfl  hcmp ?_;(refine za ?_;conv=>whnf);refine zh (i:=0) (row:=[dI kop,dI kn,dS ku,dI kden,.isl 3 (kps.map Piece.cells),.isl 6 (zd kks)]) rfl rfl rfl ?_
    by_cases hk4:kop=4
    ·(refine za ?_;conv=>whnf)
     repeat' ((with_reducible refine way ?_ ?_)<;>(intro h;conv=>whnf))
     all_goals try (exfalso;omega)
     refine ze rfl  hh ?_;cases hv<;>((refine za ?_;conv=>whnf))<;>exact hK _
    ·(refine za ?_;conv=>whnf)
     repeat' ((with_reducible refine way ?_ ?_)<;>(intro h;conv=>whnf))
     all_goals try (exfalso;omega)
     refine zh (i:=1) (row:=[dI lop,dI ln,dS lu,dI lden,.isl 3 (lps.map Piece.cells),.isl 6 (zd lks)]) rfl rfl rfl ?_;(refine za ?_;conv=>whnf)
     repeat' ((with_reducible refine way ?_ ?_)<;>(intro h;conv=>whnf))
     all_goals try (exfalso;omega)
     refine ze rfl  hh ?_;cases hv<;>((refine za ?_;conv=>whnf))<;>exact hK _
   ·have ha:[k,l].any (fun k=>decide (k.op=4))=false:=by simpa using hd
    rw [zah,hce,ha,Bool.and_false];simp only [Bool.false_eq_true,if_false];refine zef G p op n u den ps [k,l] (by simp only [yb];omega) (fun _=>⟨k,l,rfl,fun e=>hd (.inl e),fun e=>hd (.inr e)⟩) fun x hx=>?_
    simp only [List.mem_cons,List.not_mem_nil,or_false] at hx;rcases hx with rfl|rfl
    ·exact zve G p hlk hkp
    ·exact zve G p hll hlp
  |other h1 h2 h3 h4 h5=>
   exfalso
   unfold simpE at hs;rw [if_neg h1,if_neg h2,if_neg h3,if_neg h4] at hs;have hce:zcj op=false:=by unfold zcj;simp;omega
   split at hs
   ·simp [hce] at hs
   ·cases hs
theorem ygq (l:List ByteArray) (s:ByteArray) (hz:l.length<=1000000000):zw Tryz.prog G 46 [.imm (.isl 1 (l.map fun g=>[dS g])),sS s] (sB (decide (s∈l))):=by
 have hla:(l.map fun g=>[dS g]).length=l.length:=by simp
 refine zc Tryz.func46 rfl (by rw [Tryz.ntmps46];simp) rfl rfl ?_;intro E hH hK;(refine zf ?_;conv=>whnf);refine zg [0,1,5] ?_;refine zo l (fun i (_:Unit)=>[(0,.imm (.isl 1 (l.map fun g=>[dS g]))),(1,sS s),(5,sI i)]) (fun _ _=>[]) (fun done _ _=>s ∉ done) () (by simp) ?_ ?_
 ·rintro _ h1
  (refine zf ?_;conv=>whnf)
  repeat' ((with_reducible refine way ?_ ?_)<;>(intro h;conv=>whnf))
  all_goals try (exfalso;omega)
  rw [decide_eq_false h1] at hK;exact hK _
 ·rintro done y rest _ hda hdl h1 ih
  have hw:=zk (n:=done.length) (by omega);have hrx:(l.map fun g=>[dS g])[((done.length:Nat):Int).toNat]?=some [dS y]:=by simp [hda]
  (refine zf ?_;conv=>whnf)
  repeat' ((with_reducible refine way ?_ ?_)<;>(intro h;conv=>whnf))
  all_goals try (exfalso;omega)
  refine zh rfl rfl  hrx ?_;(refine za ?_;conv=>whnf)
  repeat' ((with_reducible refine way ?_ ?_)<;>(intro h;conv=>whnf))
  ·rw [decide_eq_true (show s∈l by rw [hda,h];simp)] at hK
   exact hK _
  ·rw [hw]
   refine zg [0,1,5] (ih () fun hm=>?_);rcases List.mem_append.1 hm with hm|hm
   ·exact h1 hm
   ·simp at hm;exact h hm.symm
end Go.Proofs.YtblpjknmhajcgaaGreatDoor