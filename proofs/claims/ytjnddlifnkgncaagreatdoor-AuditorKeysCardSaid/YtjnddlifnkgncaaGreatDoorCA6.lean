/- Contracts of functions of the program, joined from TUb, TTa, TTb, TTc, TTd, TTe, TYc, TYd, TYe, TYf, TZa, TZb, TSh56, TUc, TUd: no condition. -/
import Derived.Test.YtjnddlifnkgncaaGreatDoorCA5
set_option linter.unusedSimpArgs false
set_option linter.unusedVariables false
set_option maxRecDepth 10000
set_option maxHeartbeats 8000000
namespace Go.Proofs.YtjnddlifnkgncaaGreatDoor
open Go Go.Sh
theorem zrq:∀(rs:List Rw) (bs:List Int),∀c∈zmg rs bs,0<=c/\c<=9000000000000000000
 |[],_,c,h=>by cases h
 |_::_,[],c,h=>by cases h
 |r::rs,b::bs,c,h=>by
  rcases List.mem_cons.1 h with rfl|h
  ·have:=zpd r b
   omega
  ·exact zrq rs bs c h
theorem ybw:∀cs:List Int,(∀c∈cs,0<=c/\c<=9000000000000000000)->szs (cs.map wo)<=21*cs.length
 |[],_=>by simp [szs]
 |c::cs,h=>by
  have h1:=h c (by simp);have h2:=wd c (by omega) (by omega);have h3:=ybw cs (fun c hc=>h c (by simp [hc]));rw [List.map_cons,je,List.length_cons];omega
theorem zzj (person:ByteArray) (month:Int) (root:Nat) (cs:List Int) (hp:person.size<=1000) (hm:0<=month/\month<=1199) (hc:∀c∈cs,0<=c/\c<=9000000000000000000) (hn:cs.length<=1024):
  (zfj spT (zhk person month root cs)).size<=100000:=by
 have e:=ybu spT paysT ([person,wo month,zdl root]++cs.map wo);have hj:=zcu spT ([person,wo month,zdl root]++cs.map wo) paysT.data.toList;rw [<-e] at hj;have hss:szs ([person,wo month,zdl root]++cs.map wo)=person.size+((wo month).size+((zdl root).size+szs (cs.map wo))):=by
  show szs (person::wo month::zdl root::cs.map wo)=_;simp only [je]
 have hll:([person,wo month,zdl root]++cs.map wo).length=3+cs.length:=by simp;omega
 have hsp:spT.size=1:=rfl;have hpl:paysT.data.toList.length=7:=rfl;have h1:=ybw cs hc;have h2:=wd month (by omega) (by omega);have h3:=qy root;rw [hsp,hpl,hss,hll,Nat.one_mul] at hj;have hsz:(zfj spT (paysT::([person,wo month,zdl root]++cs.map wo))).data.toList.length=(zfj spT (paysT::([person,wo month,zdl root]++cs.map wo))).size:=by simp
 rw [hsz] at hj;show (zfj spT (paysT::([person,wo month,zdl root]++cs.map wo))).size<=_;omega
theorem yje (s:Slip) (hg:SlipGood s) (hr:∀r∈s.rows,r.label.size<=100000/\r.reason.size<=100000) (hp:s.person.size<=1000) (sel:List Int) (hsel:zid s.rows.length none sel=true) (hsl:sel.length<=1000000) (seed:ByteArray) (n i:Nat) (hs:seed.size<=64) (hn:n<=8) (hi:i<2 ^ n)
  (hsum: -500000000<=wk (s.rows.map Rw.cents) (zlr s.rows.length sel)/\wk (s.rows.map Rw.cents) (zlr s.rows.length sel)<=500000000):
  zq Tryz.prog G37 11 [s.sv,.imm (yv sel),sS seed,sI n,sI i] (.tup [(showN s sel seed n i).sv,sI (0:Nat)]):=by
 have c1:=zqh s hr (by have:=hg.rows;omega) (by have:=hg.rows;have:=hg.blinds;omega) true ⟨fun _=>hg,fun _=>rfl⟩;have c2:=zqf G37 sel s.rows.length hsl;rw [hsel] at c2;have hc:=hg.cents;have hb:=hg.blind;have hbl:=hg.blinds;have hrows:=hg.rows;obtain ⟨dd,hD⟩:∃d,d=showN s sel seed n i:=⟨_,rfl⟩;rw [<-hD];obtain ⟨person,month,rows,blinds,root⟩:=s;simp only at c2 hr hp hsel hsum hc hb hbl hrows;have hml:(rows.map Rw.cells).length=rows.length:=by simp
 have e2:((rows.map Rw.cells).length:Int)=(rows.length:Int):=by rw [hml]
 rw [<-e2] at c2;refine zg Tryz.func11 rfl (by rw [Tryz.ntmps11];simp) rfl rfl ?_;intro E hH hK;(refine ze ?_;conv=>whnf);refine zd rfl  c1 ?_;(refine zc ?_;conv=>whnf);refine zd rfl  c2 ?_;(refine zc ?_;conv=>whnf);have nil0:SV:=.imm (.val (.slice none 0 0));refine zdx 2 3 1 (cs:=[.imm (zfi person),sI month,xb root,.imm (.val (.slice none 0 0)),.imm (.val (.slice none 0 0)),sI 0,sI 0,sI 0,.imm (.val (.slice none 0 0)),.imm (.val (.slice none 0 0))]) rfl rfl ?_;refine zik (n:=13) (kk:=1) rfl ?_;refine zh [1,2,3,4,5,10,11,12,13,45,46,47] ?_;change SW E _ [(1,.imm (yv sel)),(2,sS seed),(3,sI n),(4,sI i),(5,.ptr 0 0),(10,.ptr 1 0),(11,sI (0:Nat)),(12,.ptr 2 0),(13,.asl 4 1 (([]:List ByteArray).map fun s=>[dS s])),(45,.imm (zlq rows)),(46,sI (rows.map Rw.cells).length),(47,sI (0:Nat))]
  [.cells [.imm (zfi person),sI month,.imm (zlq rows),.imm (yv blinds),xb root],.cells [.imm (zfi ⟨#[]⟩),sI 0,xb (0:Nat),.imm (.val (.slice none 0 0)),.imm (.val (.slice none 0 0)),sI 0,sI 0,sI 0,.imm (.val (.slice none 0 0)),.imm (.val (.slice none 0 0))],
   .cells [.imm (zfi person),sI month,xb root,.asl 3 1 (([]:List Int).map fun n=>[dI n]),.imm (.val (.slice none 0 0)),sI 0,sI 0,sI 0,.imm (.val (.slice none 0 0)),.imm (.val (.slice none 0 0))],.tok 1 (([]:List Int).map fun n=>[dI n]).length,.tok 1 (([]:List ByteArray).map fun s=>[dS s]).length]
 have hbl2:(blinds.map fun (n:Int)=>[dI n]).length=blinds.length:=by simp
 let T:Nat->List Int × List ByteArray->List (Nat × SV):=fun j y=>[(1,.imm (yv sel)),(2,sS seed),(3,sI n),(4,sI i),(5,.ptr 0 0),(10,.ptr 1 0),(11,sI (0:Nat)),(12,.ptr 2 0),(13,.asl 4 1 (y.2.map fun s=>[dS s])),(45,.imm (zlq rows)),(46,sI (rows.map Rw.cells).length),(47,sI j)]
 let Hh:List Int × List ByteArray->List SObj:=fun y=>[.cells [.imm (zfi person),sI month,.imm (zlq rows),.imm (yv blinds),xb root],.cells [.imm (zfi ⟨#[]⟩),sI 0,xb (0:Nat),.imm (.val (.slice none 0 0)),.imm (.val (.slice none 0 0)),sI 0,sI 0,sI 0,.imm (.val (.slice none 0 0)),.imm (.val (.slice none 0 0))],
   .cells [.imm (zfi person),sI month,xb root,.asl 3 1 (y.1.map fun n=>[dI n]),.imm (.val (.slice none 0 0)),sI 0,sI 0,sI 0,.imm (.val (.slice none 0 0)),.imm (.val (.slice none 0 0))],.tok 1 (y.1.map fun n=>[dI n]).length,.tok 1 (y.2.map fun s=>[dS s]).length]
 refine zo rows T (fun _ y=>Hh y) (fun done rest y=>zmg rows blinds=y.1++zmg rest (blinds.drop done.length)/\jt rows blinds=y.2++jt rest (blinds.drop done.length)/\y.1.length=done.length/\y.2.length=done.length) ([],[]) ⟨rfl,rfl,rfl,rfl⟩ ?_ ?_
 ·rintro ⟨cs,ls⟩ ⟨h1,h2,h3,h4⟩
  have h1:zmg rows blinds=cs:=by have h:zmg rows blinds=cs++zmg [] (blinds.drop rows.length):=h1;rw [h];simp [zmg]
  have h2:jt rows blinds=ls:=by have h:jt rows blinds=ls++jt [] (blinds.drop rows.length):=h2;rw [h];simp [jt]
  refine ziq ?_;change SW E _ [(1,.imm (yv sel)),(2,sS seed),(3,sI n),(4,sI i),(5,.ptr 0 0),(10,.ptr 1 0),(11,sI (0:Nat)),(12,.ptr 2 0),(13,.imm (ym ls)),(45,.imm (zlq rows)),(46,sI (rows.map Rw.cells).length),(47,sI rows.length)]
   [.cells [.imm (zfi person),sI month,.imm (zlq rows),.imm (yv blinds),xb root],.cells [.imm (zfi ⟨#[]⟩),sI 0,xb (0:Nat),.imm (.val (.slice none 0 0)),.imm (.val (.slice none 0 0)),sI 0,sI 0,sI 0,.imm (.val (.slice none 0 0)),.imm (.val (.slice none 0 0))],
   .cells [.imm (zfi person),sI month,xb root,.imm (yv cs),.imm (.val (.slice none 0 0)),sI 0,sI 0,sI 0,.imm (.val (.slice none 0 0)),.imm (.val (.slice none 0 0))],.tok 1 (cs.map fun n=>[dI n]).length,.tok 1 (ls.map fun s=>[dS s]).length]
  have hcr:∀c∈cs,0<=c/\c<=9000000000000000000:=fun c hcc=>zrq rows blinds c (by rw [h1];exact hcc)
  have hcl:cs.length=rows.length:=h3;have hrt:root<18446744073709551616:=by have h:zic (jt rows blinds)=root:=hg.root;rw [<-h];exact ybv _
  have d1:=ztp person month root cs hp hg.month hrt hcr (by omega);have hts:(zfj spT (zhk person month root cs)).size<=9223372036854775807:=Nat.le_trans (zzj person month root cs hp hg.month hcr (by omega)) (by decide);have d2:=yiu seed n i (zfj spT (zhk person month root cs)) hs hn hi hts;(refine ze ?_;conv=>whnf)
  repeat' ((with_reducible refine way ?_ ?_)<;>(intro h;conv=>whnf))
  all_goals try (exfalso;omega)
  refine zd rfl  d1 ?_;(refine zc ?_;conv=>whnf);obtain ⟨sg,hsg⟩:∃g,g=signN seed n i (zfj spT (zhk person month root cs)):=⟨_,rfl⟩;rw [<-hsg] at d2;have d3:=yep G37 sel (rows.map Rw.cells).length (by rw [hml];exact hsel) hsl (by omega);have hmk:(zlr (rows.map Rw.cells).length sel).length=rows.length:=by simp [zlr]
  have hsum2: -500000000<=wk (rows.map Rw.cents) (zlr (rows.map Rw.cells).length sel)/\wk (rows.map Rw.cents) (zlr (rows.map Rw.cells).length sel)<=500000000:=by rw [hml];exact hsum
  generalize hmk0:zlr (rows.map Rw.cells).length sel=mk at d3 hmk hsum2;have d4:=zwp G37 rows mk hmk (by omega) (fun r hx=>by have:=hc r hx;omega);have d5:=zwq G37 blinds mk (by omega) (by omega) (fun b hx=>by have:=hb b hx;omega);generalize hh1:wk (rows.map Rw.cents) mk=hs1 at d4 hsum2;generalize hh2:wk blinds mk=hs2 at d5;refine zd rfl  d2 ?_;(refine zc ?_;conv=>whnf);refine zd rfl  d3 ?_;(refine zc ?_;conv=>whnf);refine zd rfl  d4 ?_;(refine zc ?_;conv=>whnf)
  repeat' ((with_reducible refine way ?_ ?_)<;>(intro h;conv=>whnf))
  all_goals try (exfalso;omega)
  refine zd rfl  d5 ?_;(refine zc ?_;conv=>whnf);refine zdx 2 4 6 (cs:=[.imm (zfi person),sI month,xb root,.imm (yv cs),.imm (.val (.slice none 0 0)),sI hs1,sI (hs2.tmod 1073741789),sI sg.index,.imm (zau sg.chains),.imm (wz sg.path)]) rfl rfl ?_;refine zh [5,10,12,13,127,128,129] ?_;have hsl2:(sel.map fun (n:Int)=>[dI n]).length=sel.length:=by simp
  change SW E _ [(5,.ptr 0 0),(10,.ptr 1 0),(12,.ptr 2 0),(13,.imm (ym ls)),(127,.imm (yv sel)),(128,sI (sel.map fun (n:Int)=>[dI n]).length),(129,sI (0:Nat))]
   [.cells [.imm (zfi person),sI month,.imm (zlq rows),.imm (yv blinds),xb root],.cells [.imm (zfi ⟨#[]⟩),sI 0,xb (0:Nat),.imm (.val (.slice none 0 0)),.imm (.val (.slice none 0 0)),sI 0,sI 0,sI 0,.imm (.val (.slice none 0 0)),.imm (.val (.slice none 0 0))],
   .cells [.imm (zfi person),sI month,xb root,.imm (yv cs),.asl _ 6 (([]:List Shw).map Shw.cells),sI hs1,sI (hs2.tmod 1073741789),sI sg.index,.imm (zau sg.chains),.imm (wz sg.path)],.tok 1 (cs.map fun n=>[dI n]).length,.tok 1 (ls.map fun s=>[dS s]).length,.cells [sI sg.index,.imm (zau sg.chains),.imm (wz sg.path)],.tok 6 (([]:List Shw).map Shw.cells).length]
  let H2:List Shw->List SObj:=fun l=>[.cells [.imm (zfi person),sI month,.imm (zlq rows),.imm (yv blinds),xb root],.cells [.imm (zfi ⟨#[]⟩),sI 0,xb (0:Nat),.imm (.val (.slice none 0 0)),.imm (.val (.slice none 0 0)),sI 0,sI 0,sI 0,.imm (.val (.slice none 0 0)),.imm (.val (.slice none 0 0))],
   .cells [.imm (zfi person),sI month,xb root,.imm (yv cs),.asl 6 6 (l.map Shw.cells),sI hs1,sI (hs2.tmod 1073741789),sI sg.index,.imm (zau sg.chains),.imm (wz sg.path)],.tok 1 (cs.map fun n=>[dI n]).length,.tok 1 (ls.map fun s=>[dS s]).length,.cells [sI sg.index,.imm (zau sg.chains),.imm (wz sg.path)],.tok 6 (l.map Shw.cells).length]
  refine zo sel (fun j (_:List Shw)=>[(5,.ptr 0 0),(10,.ptr 1 0),(12,.ptr 2 0),(13,.imm (ym ls)),(127,.imm (yv sel)),(128,sI (sel.map fun (n:Int)=>[dI n]).length),(129,sI j)]) (fun _ l=>H2 l) (fun done _ l=>l=done.map (showRow ⟨person,month,rows,blinds,root⟩)) [] rfl ?_ ?_
  ·rintro l hl
   have hl:l=sel.map (showRow ⟨person,month,rows,blinds,root⟩):=hl;have hdd:dd=⟨person,month,root,cs,l,hs1,hs2.tmod 1073741789,sg⟩:=by
    rw [hD,hsg, <-hh1, <-hh2, <-hmk0,hl,hml];simp only [showN,h1]
   rw [hdd] at hK;clear hdd hl hD;refine ziq ?_;change SW E _ [(5,.ptr 0 0),(10,.ptr 1 0),(12,.ptr 2 0),(13,.imm (ym ls)),(127,.imm (yv sel)),(128,sI (sel.map fun (n:Int)=>[dI n]).length),(129,sI sel.length)]
    [.cells [.imm (zfi person),sI month,.imm (zlq rows),.imm (yv blinds),xb root],.cells [.imm (zfi ⟨#[]⟩),sI 0,xb (0:Nat),.imm (.val (.slice none 0 0)),.imm (.val (.slice none 0 0)),sI 0,sI 0,sI 0,.imm (.val (.slice none 0 0)),.imm (.val (.slice none 0 0))],
    .cells [.imm (zfi person),sI month,xb root,.imm (yv cs),.imm (ziw l),sI hs1,sI (hs2.tmod 1073741789),sI sg.index,.imm (zau sg.chains),.imm (wz sg.path)],.tok 1 (cs.map fun n=>[dI n]).length,.tok 1 (ls.map fun s=>[dS s]).length,.cells [sI sg.index,.imm (zau sg.chains),.imm (wz sg.path)],.tok 6 (l.map Shw.cells).length]
   (refine ze ?_;conv=>whnf)
   repeat' ((with_reducible refine way ?_ ?_)<;>(intro h;conv=>whnf))
   all_goals try (exfalso;omega)
   exact hK _
  ·rintro done x rest l hda hdl hl ih
   have hl:l=done.map (showRow ⟨person,month,rows,blinds,root⟩):=hl;have hw:=zk (n:=done.length) (by omega);have hrow:(sel.map fun (n:Int)=>[dI n])[((done.length:Nat):Int).toNat]?=some [dI x]:=by simp [hda]
   have hxr:=(zjl _ _ _ hsel).2.1 x (by rw [hda];simp);obtain ⟨k,rfl⟩:∃k:Nat,x=k:=⟨x.toNat,by omega⟩;have hk:k<rows.length:=by omega
   have hnx:=ih (l++[showRow ⟨person,month,rows,blinds,root⟩ k]) (by show l++_=(done++[_]).map _;rw [hl];simp);have e1:=zwo G37 ls k (by rw [<-h2,zcv rows blinds (by omega)];exact hk) (by rw [<-h2,zcv rows blinds (by omega)];omega) (fun y hy=>by have:=zgq rows blinds hr y (by rw [h2];exact hy);omega);obtain ⟨r,hrk⟩:∃r,rows[k]?=some r:=⟨_,List.getElem?_eq_getElem hk⟩;obtain ⟨b,hbk⟩:∃b,blinds[k]?=some b:=⟨_,List.getElem?_eq_getElem (by omega)⟩;have hsh:showRow ⟨person,month,rows,blinds,root⟩ k=⟨k,r.label,r.cents,r.reason,b,zjk ls k⟩:=by
    simp only [showRow,Int.toNat_natCast,List.getD_eq_getElem?_getD,hrk,hbk,Option.getD_some,h2]
   rw [hsh] at hnx;have g1:(rows.map Rw.cells)[k]?=some r.cells:=by simp [hrk]
   have g2:(blinds.map fun (n:Int)=>[dI n])[k]?=some [dI b]:=by simp [hbk]
   generalize zjk ls k=pa at e1 hnx;clear ih hsh;obtain ⟨la,ce,re⟩:=r;have hll:l.length=done.length:=by rw [hl];simp
   clear hl;show SW E _ [(5,.ptr 0 0),(10,.ptr 1 0),(12,.ptr 2 0),(13,.imm (ym ls)),(127,.imm (yv sel)),(128,sI (sel.map fun (n:Int)=>[dI n]).length),(129,sI done.length)] (H2 l);simp only [H2,List.map_append] at hnx ⊢;(refine ze ?_;conv=>whnf)
   repeat' ((with_reducible refine way ?_ ?_)<;>(intro h;conv=>whnf))
   all_goals try (exfalso;omega)
   refine zi rfl rfl  hrow ?_;(refine zc ?_;conv=>whnf);refine zd rfl  e1 ?_;(refine zc ?_;conv=>whnf);(refine xz 0 mixed rfl ?_;refine zn [777] (nx:=7) ?_;conv=>whnf);refine wv (i:=k) (row:=[zfi la,dI ce,zfi re]) rfl (show 7<=7 by decide) rfl g1 ?_;(refine zn [777] (nx:=7) ?_;conv=>whnf);refine wv (i:=k) (row:=[dI b]) rfl (show 7<=7 by decide) rfl g2 ?_;(refine zn [777] (nx:=7) ?_;conv=>whnf);refine zdy (b:=6) (kk:=6) (rows:=l.map Shw.cells) (new:=[[dI k,zfi la,dI ce,zfi re,dI b,wz pa]]) rfl rfl rfl rfl rfl rfl rfl rfl rfl rfl ⟨show 80<=65536 by decide,rfl⟩ (show 7<=7 by decide) rfl (by simp;omega) ?_;refine ji ⟨_,[],none⟩ rfl rfl (show 7<=7 by decide) (fun _ _ _=>rfl) ?_;refine yi (b:=2) (off:=4) (d:=[.imm (zfi person),sI month,xb root,.imm (yv cs)]) (zz:=.asl 6 6 (l.map Shw.cells)) (r:=[sI hs1,sI (hs2.tmod 1073741789),sI sg.index,.imm (zau sg.chains),.imm (wz sg.path)]) (v:=.asl 6 6 (l.map Shw.cells++[[dI k,zfi la,dI ce,zfi re,dI b,wz pa]])) rfl rfl rfl rfl rfl rfl rfl rfl (show 7<=7 by decide) rfl rfl ?_;refine qs (by kernel_rfl) ?_;(refine ze ?_;conv=>whnf);rw [hw];refine zh [5,10,12,13,127,128,129] ?_;exact hnx
 ·rintro done r rest ⟨cs,ls⟩ hda hdl ⟨h1,h2,h3,h4⟩ ih
  have hw:=zk (n:=done.length) (by omega);have hrow:(rows.map Rw.cells)[((done.length:Nat):Int).toNat]?=some r.cells:=by simp [hda]
  obtain ⟨b,hbb⟩:∃b,blinds[done.length]?=some b:=⟨_,List.getElem?_eq_getElem (by omega)⟩;have hrb:(blinds.map fun (n:Int)=>[dI n])[((done.length:Nat):Int).toNat]?=some [dI b]:=by simp [hbb]
  have hdr:blinds.drop done.length=b::blinds.drop (done.length+1):=by
   rw [List.drop_eq_getElem_cons (by omega)];rw [List.getElem?_eq_getElem (by omega)] at hbb;rw [Option.some.inj hbb]
  have hbr:=hb b (List.mem_of_getElem? hbb);have hrm:r∈rows:=by rw [hda];simp
  obtain ⟨f1,f2⟩:=hr r hrm;obtain ⟨f3,f4⟩:=hc r hrm;simp only at h1 h2 h3 h4;rw [hdr,zmg] at h1;rw [hdr,jt] at h2;have hlt:=zpd r b;have hnx:=ih (cs++[(zro r b:Int)],ls++[zbv r.label (zro r b) r.reason]) ⟨by rw [h1];simp,by rw [h2];simp,by simp [h3],by simp [h4]⟩;have d1:=zgh r.cents b ⟨f3,f4⟩ hbr;change zq _ _ _ _ (.tup [sI (zro r b),_]) at d1;have d2:=zfb r.label (zro r b) r.reason f1 f2 ⟨by omega,by omega⟩;generalize zbv r.label (zro r b) r.reason=lf at d2 hnx;generalize zro r b=cm at d1 d2 hlt hnx;clear ih h1 h2 hdr;obtain ⟨la,ce,re⟩:=r;simp only at f3 f4 d1 d2;have hws:IntKind.i64.wrap (ce+1073741789)=ce+1073741789:=zy (by omega) (by omega);show SW E _ (T done.length (cs,ls)) (Hh (cs,ls));simp only [T,Hh,List.map_append] at hnx ⊢;(refine ze ?_;conv=>whnf)
  repeat' ((with_reducible refine way ?_ ?_)<;>(intro h;conv=>whnf))
  all_goals try (exfalso;omega)
  refine zi rfl rfl  hrow ?_;(refine zc ?_;conv=>whnf);(refine ya mixed rfl ?_;refine zf [] ?_;conv=>whnf);refine yx rfl rfl  hrb ?_;(refine zf [] ?_;conv=>whnf);rw [hws];refine yg rfl  d1 ?_;(refine zf [] ?_;conv=>whnf);(refine ze ?_;conv=>whnf);refine yy (b:=3) (kk:=1) (rows:=cs.map fun n=>[dI n]) (new:=[[dI cm]]) rfl ⟨show 8<=65536 by decide,rfl⟩ rfl (by rw [List.length_map];simp only [List.length_cons,List.length_nil];omega) ?_;(refine zc ?_;conv=>whnf);refine zd rfl  d2 ?_;(refine zc ?_;conv=>whnf);refine yy (b:=4) (kk:=1) (rows:=ls.map fun s=>[dS s]) (new:=[[dS lf]]) rfl ⟨show 16<=65536 by decide,rfl⟩ rfl (by rw [List.length_map];simp only [List.length_cons,List.length_nil];omega) ?_;(refine zc ?_;conv=>whnf);rw [hw];simp only [List.length_append] at hnx;exact ys [1,2,3,4,5,10,11,12,13,45,46,47] 5 (by rw [hH];exact Nat.zero_le _) (by show 5<=6;decide) rfl rfl hnx
def zgi (row:List Nat) (i:Nat):List Frk:=if i % 2=1 then [⟨row.getD (i-1) 0,true⟩] else if i+1<row.length then [⟨row.getD (i+1) 0,false⟩] else []
def pth:List (List Nat)->Nat->List Frk
 |[],_=>[]
 |row::rs,i=>zgi row i++pth rs (i / 2)
theorem ymm (s:Nat × List Frk) (row:List Nat):zjj s row=(s.1 / 2,s.2++zgi row s.1):=by
 unfold zjj zgi;split
 ·rfl
 ·split
  ·rfl
  ·rw [List.append_nil]
theorem zpg:∀(rs:List (List Nat)) (i:Nat) (acc:List Frk),(rs.foldl zjj (i,acc)).2=acc++pth rs i
 |[],_,acc=>(List.append_nil acc).symm
 |row::rs,i,acc=>by
  rw [List.foldl_cons,ymm,zpg rs,pth,List.append_assoc]
def ybx (rs:List (List Nat)) (v:Nat):Nat:=rs.foldl (fun _ r=>r.getD 0 0) v
theorem ymn:∀(rs:List (List Nat)),rs≠[]->∀v w,ybx rs v=ybx rs w
 |[],h,_,_=>absurd rfl h
 |_::_,_,_,_=>by rw [ybx,ybx,List.foldl_cons,List.foldl_cons]
theorem yjf (f:Nat) (r:List Nat):wq f r≠[]:=by
 cases f with
 |zero=>simp [wq]
 |succ f=>
  rw [wq];split<;>simp
theorem yjg (a:Nat):zbd [a]=[a]:=rfl
theorem zph (a b:Nat) (r:List Nat):zbd (a::b::r)=zcd a b::zbd r:=by rw [zbd]
theorem zwt:∀(r:List Nat) (i:Nat),i<r.length->
  (zbd r).getD (i / 2) 0=if i % 2=1 then zcd (r.getD (i-1) 0) (r.getD i 0) else if i+1<r.length then zcd (r.getD i 0) (r.getD (i+1) 0) else r.getD i 0
 |[],i,h=>absurd h (Nat.not_lt_zero i)
 |[a],i,h=>by
  have e:i=0:=by
   rw [List.length_singleton] at h;omega
  rw [e,yjg,if_neg (by decide),if_neg (by rw [List.length_singleton];decide),Nat.zero_div]
 |a::b::r,0,_=>by
  rw [zph,if_neg (by decide),if_pos (by rw [List.length_cons,List.length_cons];omega),Nat.zero_div,List.getD_cons_zero,List.getD_cons_zero,List.getD_cons_succ,List.getD_cons_zero]
 |a::b::r,1,_=>by
  rw [zph,if_pos (by decide),show 1 / 2=0 by decide,show 1-1=0 by decide,List.getD_cons_zero,List.getD_cons_zero,show (1:Nat)=0+1 by decide,List.getD_cons_succ,List.getD_cons_zero]
 |a::b::r,i+2,h=>by
  have ih:=zwt r i (by rw [List.length_cons,List.length_cons] at h;omega);have g:∀j,(a::b::r).getD (j+2) 0=r.getD j 0:=fun j=>by
   rw [show j+2=j+1+1 by omega,List.getD_cons_succ,List.getD_cons_succ]
  rw [zph,show (i+2) / 2=i / 2+1 by omega,List.getD_cons_succ,ih,show (i+2) % 2=i % 2 by omega]
  by_cases h1:i % 2=1
  ·obtain ⟨j,rfl⟩:∃j,i=j+1:=⟨i-1,by omega⟩
   rw [if_pos h1,if_pos h1,show j+1-1=j by omega,show j+1+2-1=j+2 by omega,g,g]
  ·rw [if_neg h1,if_neg h1,show i+2+1=i+1+2 by omega,List.length_cons,List.length_cons,g,g]
   by_cases h2:i+1<r.length
   ·rw [if_pos h2,if_pos (by omega)]
   ·rw [if_neg h2,if_neg (by omega)]
theorem zwu (k f:Nat) (r:List Nat) (i:Nat) (hi:i<r.length) (h1:¬1<r.length):zat (k+1) r.length i (pth (wq f r) i) (r.getD i 0)=some (ybx (wq f r) 0):=by
 have h3:i=0:=by omega
 have hp:pth [r] 0=[]:=by rw [pth,pth,zgi,if_neg (by decide),if_neg (by omega),List.append_nil]
 have ht:ybx [r] 0=r.getD 0 0:=by rw [ybx,List.foldl_cons,List.foldl_nil]
 rw [h3,zrk f h1,hp,ht,zat,if_pos (by omega),List.isEmpty_nil,if_pos rfl]
theorem zrr (f size idx:Nat) (x:Frk) (r:List Frk) (cur:Nat) (h:¬size<=1) (h2:idx % 2=1\/idx+1<size):
  zat (f+1) size idx (x::r) cur=if x.left=decide (idx % 2=1) then zat f ((size+1) / 2) (idx / 2) r (if idx % 2=1 then zcd x.sib cur else zcd cur x.sib) else none:=by
 rw [zke _ _ _ _ _ h,if_pos h2]
theorem yev (f size idx:Nat) (s:Nat) (r:List Frk) (cur:Nat) (h:¬size<=1) (h2:idx % 2=1):zat (f+1) size idx (⟨s,true⟩::r) cur=zat f ((size+1) / 2) (idx / 2) r (zcd s cur):=by
 rw [zrr _ _ _ _ _ _ h (.inl h2),decide_eq_true h2,if_pos rfl,if_pos h2]
theorem zzk (f size idx:Nat) (s:Nat) (r:List Frk) (cur:Nat) (h:¬size<=1) (h1:¬idx % 2=1) (h2:idx+1<size):zat (f+1) size idx (⟨s,false⟩::r) cur=zat f ((size+1) / 2) (idx / 2) r (zcd cur s):=by
 rw [zrr _ _ _ _ _ _ h (.inr h2),decide_eq_false h1,if_pos rfl,if_neg h1]
theorem yew (f size idx:Nat) (r:List Frk) (cur:Nat) (h:¬size<=1) (h1:¬idx % 2=1) (h2:¬idx+1<size):zat (f+1) size idx r cur=zat f ((size+1) / 2) (idx / 2) r cur:=by
 rw [zke _ _ _ _ _ h,if_neg (by omega)]
theorem zwv (k:Nat):∀(f:Nat) (r:List Nat) (i:Nat),r.length<=f->i<r.length->r.length<=2 ^ k->zat (k+1) r.length i (pth (wq f r) i) (r.getD i 0)=some (ybx (wq f r) 0):=by
 induction k with
 |zero=>
  intro f r i _ hi hk;rw [Nat.pow_zero] at hk;exact zwu 0 f r i hi (by omega)
 |succ k IH=>
  intro f r i hf hi hk
  by_cases h1:1<r.length
  ·obtain ⟨f',h2,h3⟩:=zow hf h1
   have hup:=zbs r;have ih:=IH f' (zbd r) (i / 2) h3 (by omega) (by rw [hup];rw [Nat.pow_succ] at hk;omega);clear IH;have ht:ybx (r::wq f' (zbd r)) 0=ybx (wq f' (zbd r)) 0:=by
    rw [ybx,List.foldl_cons];exact ymn _ (yjf _ _) _ _
   rw [zwt r i hi,hup] at ih;rw [h2,pth,zgi,ht];generalize ybx (wq f' (zbd r)) 0=tp at ih ⊢;generalize pth (wq f' (zbd r)) (i / 2)=pp at ih ⊢;clear h2 h3 ht hup
   by_cases h4:i % 2=1
   ·rw [if_pos h4] at ih
    rw [if_pos h4,List.singleton_append,yev _ _ _ _ _ _ (by omega) h4,ih]
   ·rw [if_neg h4] at ih
    rw [if_neg h4]
    by_cases h5:i+1<r.length
    ·rw [if_pos h5] at ih
     rw [if_pos h5,List.singleton_append,zzk _ _ _ _ _ _ (by omega) h4 h5,ih]
    ·rw [if_neg h5] at ih
     rw [if_neg h5,List.nil_append,yew _ _ _ _ _ (by omega) h4 h5,ih]
  ·exact zwu (k+1) f r i hi h1
theorem zww (l:List ByteArray) (i:Nat):zjk l i=pth (wq 1024 (l.map zam)) i:=by
 unfold zjk;rw [zpg,List.nil_append]
theorem yjh (l:List ByteArray):zic l=ybx (wq 1024 (l.map zam)) 0:=by
 unfold zic ybx;rfl
theorem zzl (l:List ByteArray) (i:Nat) (hi:i<l.length) (hl:l.length<=1024):zat 12 l.length i (zjk l i) (zam (l.getD i ⟨#[]⟩))=some (zic l):=by
 have hlm:(l.map zam).length=l.length:=List.length_map _;have h:=zwv 11 1024 (l.map zam) i (by omega) (by omega) (by rw [hlm];exact Nat.le_trans hl (by decide));have e:(l.map zam).getD i 0=zam (l.getD i ⟨#[]⟩):=by
  rw [List.getD_eq_getElem?_getD,List.getD_eq_getElem?_getD,List.getElem?_map,List.getElem?_eq_getElem hi,Option.map_some,Option.getD_some,Option.getD_some]
 rw [<-zww,hlm,e, <-yjh] at h;exact h
theorem zpi (l:List ByteArray) (i:Nat) (hi:i<l.length) (hl:l.length<=1024):jn (zic l) l.length i (l.getD i ⟨#[]⟩) (zjk l i)=true:=by
 have h:=zzl l i hi hl;unfold jn;rw [Int.toNat_natCast,Int.toNat_natCast,decide_eq_true h,decide_eq_true (by omega),decide_eq_true (by omega),decide_eq_true (by omega),decide_eq_true (by omega)];rfl
def chN:Nat->Nat->Nat
 |_,0=>1
 |0,_+1=>0
 |n+1,k+1=>chN n k+chN n (k+1)
theorem zgr:∀n k:Nat,n<k->chN n k=0
 |_,0,h=>absurd h (Nat.not_lt_zero _)
 |0,_+1,_=>rfl
 |n+1,k+1,h=>by rw [chN,zgr n k (by omega),zgr n (k+1) (by omega)]
theorem zpj (n:Nat):chN n 0=1:=by cases n<;>rfl
theorem yby:∀n:Nat,chN n n=1
 |0=>rfl
 |n+1=>by rw [chN,yby n,zgr n (n+1) (by omega)]
theorem ztq:∀n k:Nat,(k+1)*chN (n+1) (k+1)=(n+1)*chN n k
 |0,0=>rfl
 |0,k+1=>by rw [zgr 1 (k+1+1) (by omega),zgr 0 (k+1) (by omega)];simp
 |n+1,0=>by
  have h:=ztq n 0;rw [zpj] at h;rw [show chN (n+1+1) (0+1)=chN (n+1) 0+chN (n+1) (0+1) from rfl,zpj];omega
 |n+1,k+1=>by
  have h1:=ztq n k;have h2:=ztq n (k+1);have e:chN (n+1) (k+1)=chN n k+chN n (k+1):=rfl;rw [show chN (n+1+1) (k+1+1)=chN (n+1) (k+1)+chN (n+1) (k+1+1) from rfl,Nat.mul_add,h2,Nat.add_mul (k+1) 1,h1,Nat.one_mul,Nat.add_mul (n+1) 1,Nat.one_mul];have e2:(n+1)*chN (n+1) (k+1)=(n+1)*chN n k+(n+1)*chN n (k+1):=by rw [e,Nat.mul_add]
  omega
def zwx (f:Nat->Nat):Nat->Nat
 |0=>0
 |m+1=>zwx f m+f m
theorem zwy (n a:Nat):∀m,zwx (fun k=>chN (n+1) k*a ^ k) (m+1)=a*zwx (fun k=>chN n k*a ^ k) m+zwx (fun k=>chN n k*a ^ k) (m+1)
 |0=>by simp [zwx,zpj]
 |m+1=>by
  have ih:=zwy n a m;rw [zwx,ih];show _+chN (n+1) (m+1)*a ^ (m+1)=a*(zwx (fun k=>chN n k*a ^ k) m+chN n m*a ^ m)+(zwx (fun k=>chN n k*a ^ k) (m+1)+chN n (m+1)*a ^ (m+1));have e:chN (n+1) (m+1)*a ^ (m+1)=a*(chN n m*a ^ m)+chN n (m+1)*a ^ (m+1):=by
   rw [show chN (n+1) (m+1)=chN n m+chN n (m+1) from rfl,Nat.add_mul,Nat.pow_succ,Nat.mul_comm (a ^ m) a,Nat.mul_left_comm]
  rw [e,Nat.mul_add];omega
theorem yrp (a:Nat):∀n,(a+1) ^ n=zwx (fun k=>chN n k*a ^ k) (n+1)
 |0=>by simp [zwx,zpj]
 |n+1=>by
  have h:zwx (fun k=>chN n k*a ^ k) (n+1+1)=zwx (fun k=>chN n k*a ^ k) (n+1):=by
   rw [zwx,zgr n (n+1) (by omega),Nat.zero_mul,Nat.add_zero]
  rw [zwy,h, <-yrp a n,Nat.pow_succ,Nat.mul_add,Nat.mul_one,Nat.mul_comm]
structure PrimeN (q:Nat):Prop where
 two:2<=q
 cop:∀k,0<k->k<q->Nat.Coprime q k
theorem yji {q:Nat} (hq:PrimeN q) {k:Nat} (h0:0<k) (h1:k<q):q ∣ chN q k:=by
 obtain ⟨k,rfl⟩:∃j,k=j+1:=⟨k-1,by omega⟩;obtain ⟨n,rfl⟩:∃n,q=n+1:=⟨q-1,by omega⟩;have h:n+1 ∣ (k+1)*chN (n+1) (k+1):=⟨chN n k,ztq n k⟩;exact (hq.cop (k+1) h0 h1).dvd_of_dvd_mul_left h
theorem ybz {q:Nat} (hq:PrimeN q) (a:Nat):∀m,m<q->zwx (fun k=>chN q k*a ^ k) (m+1) % q=1
 |0,_=>by
  have:=hq.two;simp [zwx,zpj,Nat.mod_eq_of_lt (show 1<q by omega)]
 |m+1,h=>by
  rw [zwx];obtain ⟨c,hc⟩:=yji hq (k:=m+1) (by omega) h;simp only [hc];rw [Nat.mul_assoc,Nat.add_mul_mod_self_left];exact ybz hq a m (by omega)
theorem zrs {q:Nat} (hq:PrimeN q):∀a:Nat,a ^ q % q=a % q
 |0=>by
  have:=hq.two;rw [Nat.zero_pow (by omega)]
 |a+1=>by
  have h2:=hq.two;have h:=ybz hq a (q-1) (by omega);rw [show q-1+1=q by omega] at h;rw [yrp,zwx,yby,Nat.one_mul,Nat.add_mod,h,zrs hq a,Nat.add_mod a 1,Nat.mod_eq_of_lt (show 1<q by omega),Nat.add_comm]
theorem zzm {a b q:Nat} (h:a % q=b % q):q ∣ a-b:=Nat.dvd_of_mod_eq_zero (Nat.sub_mod_eq_zero_of_mod_eq h)
theorem yex {q:Nat} (hq:PrimeN q) {a:Nat} (ha:a % q≠0):a ^ (q-2)*a % q=1:=by
 have h2:=hq.two;have hp:0<a:=by
  rcases Nat.eq_zero_or_pos a with h|h
  ·rw [h,Nat.zero_mod] at ha
   exact absurd rfl ha
  ·exact h
 have hc:Nat.Coprime q a:=by
  have h:=hq.cop (a % q) (by omega) (Nat.mod_lt _ (by omega));unfold Nat.Coprime at h ⊢;rw [<-h,Nat.gcd_comm q (a % q), <-Nat.gcd_rec]
 have h3:q ∣ a*a ^ (q-1)-a*1:=by
  refine zzm ?_;rw [<-Nat.pow_succ',show Nat.succ (q-1)=q by omega,Nat.mul_one];exact zrs hq a
 rw [<-Nat.mul_sub] at h3;obtain ⟨c,h4⟩:=hc.dvd_of_dvd_mul_left h3;have h5:a ^ (q-1)=1+q*c:=by
  have:0<a ^ (q-1):=Nat.pow_pos hp;omega
 rw [<-Nat.pow_succ,show Nat.succ (q-2)=q-1 by omega,h5,Nat.add_mul_mod_self_left,Nat.mod_eq_of_lt (by omega)]
theorem yqh {p a b c d:Nat} (h:a % p=b % p) (k:c % p=d % p):a*c % p=b*d % p:=by rw [Nat.mul_mod,h,k, <-Nat.mul_mod]
theorem ytb {p a b:Nat} (h:a % p=b % p) (n:Nat):a ^ n % p=b ^ n % p:=by rw [Nat.pow_mod,h, <-Nat.pow_mod]
theorem yjj {p a b c d:Nat} (hc:c*d % p=1 % p) (h:a*c % p=b*c % p):a % p=b % p:=by
 have h1:a*c*d % p=b*c*d % p:=yqh h rfl;have h2:∀x,x*c*d % p=x % p:=fun x=>by
  rw [Nat.mul_assoc];have:=yqh (p:=p) (a:=x) (b:=x) rfl hc
  rwa [Nat.mul_one] at this
 rwa [h2,h2] at h1
structure Elm (p q b:Nat):Prop where
 one:b ^ q % p=1 % p
theorem Elm.red {p q b:Nat} (h:Elm p q b) (e:Nat):b ^ e % p=b ^ (e % q) % p:=by
 have h1:b ^ (q*(e / q)) % p=1 % p:=by
  rw [Nat.pow_mul];have:=ytb h.one (e / q)
  rwa [Nat.one_pow] at this
 have h2:b ^ e=b ^ (q*(e / q))*b ^ (e % q):=by rw [<-Nat.pow_add,Nat.div_add_mod]
 rw [h2];have:=yqh h1 (rfl:b ^ (e % q) % p=b ^ (e % q) % p)
 rwa [Nat.one_mul] at this
theorem Elm.congr {p q b:Nat} (h:Elm p q b) {e f:Nat} (he:e % q=f % q):b ^ e % p=b ^ f % p:=by rw [h.red e,he, <-h.red f]
theorem Elm.inv {p q b:Nat} (h:Elm p q b) (hq:0<q) (e:Nat):b ^ e*b ^ (q-e % q) % p=1 % p:=by
 rw [<-Nat.pow_add,h.congr (f:=0) ?_,Nat.pow_zero];have h1:=Nat.mod_lt e hq;have h2:=Nat.div_add_mod e q;have h3:e+(q-e % q)=q+q*(e / q):=by omega
 rw [h3,Nat.add_mul_mod_self_left,Nat.mod_self,Nat.zero_mod]
theorem Elm.inj {p q b:Nat} (hq:PrimeN q) (h:Elm p q b) (hb:b % p≠1 % p) {e f:Nat} (he:e<q) (hf:f<q) (hef:b ^ e % p=b ^ f % p):e=f:=by
 have key:∀e f,e<f->f<q->b ^ e % p=b ^ f % p->False:=fun e f hlt hf hef=>by
  have h1:b ^ (f-e) % p=1 % p:=by
   refine yjj (h.inv (by omega) e) ?_;rw [<-Nat.pow_add,Nat.one_mul,show f-e+e=f by omega];exact hef.symm
  have h2:=yex hq (a:=f-e) (by rw [Nat.mod_eq_of_lt (by omega)];omega);have h3:b ^ ((f-e) ^ (q-2)*(f-e)) % p=b ^ 1 % p:=h.congr (by rw [h2,Nat.mod_eq_of_lt (by omega)]);rw [Nat.mul_comm,Nat.pow_mul,ytb h1,Nat.one_pow,Nat.pow_one] at h3;exact hb h3.symm
 rcases Nat.lt_trichotomy e f with h1|h1|h1
 ·exact (key e f h1 hf hef).elim
 ·exact h1
 ·exact (key f e h1 he hef.symm).elim
def yey (q:Nat):Nat->Nat->Bool
 |0,lo=>Nat.ble lo 1|| !(Nat.beq (q % lo) 0)
 |k+1,lo=>yey q k lo&&yey q k (lo+2 ^ k)
theorem zkm (q:Nat):∀k lo,yey q k lo=true->∀d,lo<=d->d<lo+2 ^ k->2<=d->¬d ∣ q
 |0,lo,h,d,h1,h2,h3,hd=>by
  have e:d=lo:=by omega
  subst e;have hm:=Nat.mod_eq_zero_of_dvd hd;unfold yey at h;rw [hm] at h;rw [Bool.or_eq_true] at h;rcases h with h|h
  ·have:=Nat.le_of_ble_eq_true h
   omega
  ·exact absurd h (by decide)
 |k+1,lo,h,d,h1,h2,h3,hd=>by
  unfold yey at h;rw [Bool.and_eq_true] at h;rw [Nat.pow_succ] at h2;rcases Nat.lt_or_ge d (lo+2 ^ k) with hlt|hge
  ·exact zkm q k lo h.1 d h1 hlt h3 hd
  ·exact zkm q k _ h.2 d hge (by omega) h3 hd
theorem zqi {q k:Nat} (h2:2<=q) (h:yey q k 0=true) (hk:q<2 ^ k*2 ^ k):PrimeN q:=by
 have nd:∀d,2<=d->d<q->¬d ∣ q:=fun d hd hlt hdv=>by
  obtain ⟨c,hc⟩:=hdv;have hs:=zkm q k 0 h;rcases Nat.lt_or_ge d (2 ^ k) with h1|h1
  ·exact hs d (by omega) (by omega) hd ⟨c,hc⟩
  ·rcases Nat.lt_or_ge c (2 ^ k) with h3|h3
   ·have hc2:2<=c:=by
     rcases c with _|_|c
     ·omega
     ·omega
     ·omega
    exact hs c (by omega) (by omega) hc2 ⟨d,by rw [hc,Nat.mul_comm]⟩
   ·have:=Nat.mul_le_mul h1 h3
    omega
 refine ⟨h2,fun k h0 h1=>?_⟩;have hg1:=Nat.gcd_dvd_left q k;have hg2:=Nat.gcd_dvd_right q k;have hg3:=Nat.le_of_dvd h0 hg2;have hg0:0<Nat.gcd q k:=Nat.gcd_pos_of_pos_right _ h0;unfold Nat.Coprime;rcases Nat.lt_or_ge (Nat.gcd q k) 2 with h3|h3
 ·omega
 ·exact (nd _ h3 (by omega) hg1).elim
theorem yjk:PrimeN 1073741789:=zqi (k:=15) (by decide) (by kernel_rfl) (by decide)
theorem yno (b e:Nat) (he:e<18446744073709551616) (h:zlm b e=1):Elm 2147483579 e b:=⟨by
 rw [zkb he] at h
 exact h⟩
theorem elm4:Elm 2147483579 1073741789 4:=yno 4 1073741789 (by decide) (by kernel_rfl)
theorem elm9:Elm 2147483579 1073741789 9:=yno 9 1073741789 (by decide) (by kernel_rfl)
theorem ytv:(4:Nat) % 2147483579≠1 % 2147483579:=by decide
theorem ymo {n m r:Nat} (hn:n<1073741789) (hm:m<1073741789) (h:4 ^ n*9 ^ r % 2147483579=4 ^ m*9 ^ r % 2147483579):n=m:=
 elm4.inj yjk ytv hn hm (yjj (elm9.inv (by decide) r) h)
theorem zzn (c:Int):zpr c<1073741789:=by unfold zpr;omega
theorem zpk (c b:Int) (hb:b<1073741789):ydj c b=4 ^ zpr c*9 ^ b.toNat % 2147483579:=by
 have hv:=zzn c;unfold ydj;rw [zkb (by omega),zkb (by omega)];exact (Nat.mul_mod _ _ _).symm
theorem ypo (c b:Int):ydj c b<2147483579:=Nat.mod_lt _ (by decide)
theorem ymp {c e:Int} (h1: -500000000<=c/\c<=500000000) (h2: -500000000<=e/\e<=500000000) (h:zpr c=zpr e):c=e:=by
 unfold zpr at h;omega
theorem zzo {m c e b:Int} (h1:wy m c b=true) (h2:wy m e b=true):c=e:=by
 unfold wy at h1 h2;simp only [Bool.and_eq_true,zco,decide_eq_true_eq] at h1 h2;obtain ⟨⟨a1,a2,a3,a4⟩,a5⟩:=h1;obtain ⟨⟨b1,b2,b3,b4⟩,b5⟩:=h2;rw [a5,zpk c b a4,zpk e b a4] at b5;exact ymp ⟨a1,a2⟩ ⟨b1,b2⟩ (ymo (zzn c) (zzn e) (Int.ofNat_inj.1 b5))
theorem ypp {p q a b:Nat} (ha:Elm p q a) (hb:Elm p q b):Elm p q (a*b):=⟨by
 rw [Nat.mul_pow];have:=yqh ha.one hb.one
 rwa [Nat.one_mul] at this⟩
theorem yjl {p q a:Nat} (ha:Elm p q a) (n:Nat):Elm p q (a ^ n):=⟨by
 rw [<-Nat.pow_mul,Nat.mul_comm,Nat.pow_mul];have:=ytb ha.one n
 rwa [Nat.one_pow] at this⟩
theorem ypq {p q a:Nat} (ha:Elm p q a):Elm p q (a % p):=⟨by
 rw [<-Nat.pow_mod]
 exact ha.one⟩
theorem yrq (b e:Nat) (he:e<18446744073709551616) (h:Elm 2147483579 e b):zlm b e=1:=by
 rw [zkb he];exact h.one
theorem ymq {x:Nat} (h:Elm 2147483579 1073741789 x) (hx:x<2147483579):zdw (x:Int)=true:=by
 have h1:zlm x 1073741789=1:=yrq x 1073741789 (by decide) h;have h0:0<x:=by
  rcases Nat.eq_zero_or_pos x with h2|h2
  ·subst h2
   exact absurd h1 (by decide+kernel)
  ·exact h2
 unfold zdw;rw [Int.toNat_natCast,h1];simp;omega
theorem ypr (c b:Int) (hb:b<1073741789):Elm 2147483579 1073741789 (ydj c b):=by
 rw [zpk c b hb];exact ypq (ypp (yjl elm4 _) (yjl elm9 _))
theorem ymr (c b:Int) (hb:b<1073741789):zdw (ydj c b:Int)=true:=ymq (ypr c b hb) (ypo c b)
theorem yez (c b:Nat) (a:Nat):chainN a (chainN b c)=chainN (a+b) c:=by
 induction a with
 |zero=>rw [zcq,Nat.zero_add]
 |succ a ih=>rw [zac,ih,Nat.add_right_comm,zac]
theorem yfa (l:List (Nat × Nat)):(leafS l).data.toList=l.flatMap fun x=>(zdl (chainN (15-x.1) x.2)).data.toList:=by
 have key:∀(l:List (Nat × Nat)) (s:ByteArray),(l.foldl (fun s x=>s++zdl (chainN (15-x.1) x.2)) s).data.toList=s.data.toList++l.flatMap fun x=>(zdl (chainN (15-x.1) x.2)).data.toList:=by
  intro l
  induction l with
  |nil=>intro s;exact (List.append_nil _).symm
  |cons x l ih=>
   intro s;rw [List.foldl_cons,ih,List.flatMap_cons,ByteArray.data_append,Array.toList_append,List.append_assoc]
 exact key l _
theorem yjm {α:Type} (l:List Nat) (n:Nat) (g:Nat->α) (h:l.length=n):l.zip ((List.range n).map g)=(List.range n).map fun k=>(l.getD k 0,g k):=by
 apply List.ext_getElem?
 intro k;rcases Nat.lt_or_ge k n with hk|hk
 ·have hkl:k<l.length:=by omega
  have e:(l.zip ((List.range n).map g))[k]?=some (l[k]'hkl,g k):=List.getElem?_zip_eq_some.2 ⟨List.getElem?_eq_getElem hkl,by rw [List.getElem?_map,List.getElem?_range hk];rfl⟩;rw [e,List.getElem?_map,List.getElem?_range hk,Option.map_some,List.getD_eq_getElem?_getD,List.getElem?_eq_getElem hkl,Option.getD_some]
 ·rw [List.getElem?_eq_none (by simp;omega),List.getElem?_eq_none (by simp;omega)]
theorem yfb (seed:ByteArray) (i:Nat) (text:ByteArray):leafS ((zqq text).zip (chainsN seed i text))=⟨(leafK seed i).toArray⟩:=by
 have hl:=zsy text;have hle:=zyl text;have e:(zqq text).zip (chainsN seed i text)=(List.range 18).map fun (k:Nat)=>((zqq text).getD k 0,chainN ((zqq text).getD k 0) (ybt seed i k)):=yjm _ 18 _ hl
 have h:(leafS ((zqq text).zip (chainsN seed i text))).data.toList=leafK seed i:=by
  rw [yfa,e,List.flatMap_map];unfold leafK;generalize zqq text=fg at hl hle;generalize List.range 18=rg
  congr 1
  funext k
  have hk:fg.getD k 0<=15:=by
   rw [List.getD_eq_getElem?_getD];cases hg:fg[k]? with
   |none=>exact Nat.zero_le _
   |some x=>exact hle x (List.mem_of_getElem? hg)
  rw [yez,Nat.sub_add_cancel hk]
 rw [<-h]
theorem zzp (seed:ByteArray) {h i:Nat} (hi:i<2 ^ h):(leavesN seed h).getD i ⟨#[]⟩=⟨(leafK seed i).toArray⟩:=by
 unfold leavesN;rw [List.getD_eq_getElem?_getD,List.getElem?_map,List.getElem?_range hi];rfl
theorem yps (seed:ByteArray) (h i:Nat) (text:ByteArray) (hh:h<=8) (hi:i<2 ^ h):signedOK (keyN seed h) h text (signN seed h i text)=true:=by
 have hp:2 ^ h<=2 ^ 8:=Nat.pow_le_pow_right (by decide) hh;have hc:(chainsN seed i text).length=18:=by simp [chainsN]
 have hl:=zpi (leavesN seed h) i (by rw [jk];exact hi) (by rw [jk];omega);rw [zzp seed hi,jk] at hl;unfold signedOK signN;simp only [Int.toNat_natCast,hc,decide_true,Bool.and_true];rw [yfb,decide_eq_true (by omega),decide_eq_true (by omega)];exact hl
def yfc (fl:Nat->Bool):Nat->List Int->Nat
 |_,[]=>1
 |i,c::r=>(if fl i then 1 else c.toNat)*yfc fl (i+1) r
theorem zpl (l:List Shw):∀(cs:List Int) (i p:Nat),p<2147483579->zde l i cs p=p*yfc (zav l) i cs % 2147483579
 |[],_,p,h=>by rw [zde,yfc,Nat.mul_one,Nat.mod_eq_of_lt h]
 |c::r,i,p,h=>by
  rw [zde,yfc];split
  ·rw [zpl l r _ _ h,Nat.one_mul]
  ·rw [zpl l r _ _ (Nat.mod_lt _ (by decide)),Nat.mod_mul_mod,Nat.mul_assoc]
theorem yca (c:Int):(zpr c:Int)=c % 1073741789:=by
 unfold zpr;omega
theorem zpm (fl:Nat->Bool):∀(rs:List Rw) (bs:List Int) (mk:List Bool) (i:Nat),bs.length=rs.length->mk.length=rs.length->(∀k,k<rs.length->mk[k]?=some (!fl (i+k)))->(∀b∈bs,0<=b/\b<1073741789)->
  ∃A B:Nat,yfc fl i (zmg rs bs) % 2147483579=4 ^ A*9 ^ B % 2147483579/\(A:Int) % 1073741789=wk (rs.map Rw.cents) mk % 1073741789/\(B:Int)=wk bs mk
 |[],bs,mk,i,_,_,_,_=>⟨0,0,rfl,by simp [wk],by cases bs<;>cases mk<;>simp_all [wk]⟩
 |r::rs,[],mk,i,h,_,_,_=>by simp at h
 |r::rs,b::bs,[],i,_,h,_,_=>by simp at h
 |r::rs,b::bs,m::mk,i,h1,h2,h3,h4=>by
  have hb:=h4 b (by simp)
  obtain ⟨A,B,e1,e2,e3⟩:=zpm fl rs bs mk (i+1) (by simpa using h1) (by simpa using h2) (fun k hk=>by
   have:=h3 (k+1) (by rw [List.length_cons];omega);rw [List.getElem?_cons_succ,show i+(k+1)=i+1+k by omega] at this
   exact this) (fun b hb=>h4 b (by simp [hb]))
  have hm:m= !fl i:=by
   have:=h3 0 (by simp);simpa using this
  rw [zmg,yfc,List.map_cons,wk,wk];cases hf:fl i with
  |true=>
   rw [hf] at hm;subst hm;refine ⟨A,B,?_,?_,?_⟩
   ·simp only [if_true,Nat.one_mul]
    exact e1
   ·simp only [Bool.not_true,Bool.false_eq_true,if_false,Int.zero_add]
    exact e2
   ·simp only [Bool.not_true,Bool.false_eq_true,if_false,Int.zero_add]
    exact e3
  |false=>
   rw [hf] at hm;subst hm;refine ⟨zpr r.cents+A,b.toNat+B,?_,?_,?_⟩
   ·simp only [Bool.false_eq_true,if_false,Int.toNat_natCast]
    have e4:zro r b % 2147483579=4 ^ zpr r.cents*9 ^ b.toNat % 2147483579:=by
     show ydj r.cents b % _=_;rw [zpk _ _ hb.2,Nat.mod_mod]
    rw [yqh e4 e1,Nat.pow_add,Nat.pow_add]
    congr 1
    simp only [Nat.mul_assoc,Nat.mul_left_comm,Nat.mul_comm]
   ·have:=yca r.cents
    simp only [Bool.not_false,if_true];rw [Int.natCast_add];omega
   ·simp only [Bool.not_false,if_true]
    omega
theorem ycb:∀(rs:List Rw) (bs:List Int),bs.length=rs.length->∀k,k<rs.length->(zmg rs bs).getD k 0=ydj (rs.getD k ⟨⟨#[]⟩,0,⟨#[]⟩⟩).cents (bs.getD k 0)
 |[],_,_,k,hk=>absurd hk (Nat.not_lt_zero k)
 |_::_,[],h,_,_=>by simp at h
 |r::rs,b::bs,_,0,_=>rfl
 |r::rs,b::bs,h,k+1,hk=>by
  have:=ycb rs bs (by simpa using h) k (by simpa using hk);simpa [zmg] using this
theorem zwz:∀(rs:List Rw) (bs:List Int),bs.length=rs.length->∀k,k<rs.length->(jt rs bs).getD k ⟨#[]⟩=zbv (rs.getD k ⟨⟨#[]⟩,0,⟨#[]⟩⟩).label ((zmg rs bs).getD k 0) (rs.getD k ⟨⟨#[]⟩,0,⟨#[]⟩⟩).reason
 |[],_,_,k,hk=>absurd hk (Nat.not_lt_zero k)
 |_::_,[],h,_,_=>by simp at h
 |r::rs,b::bs,_,0,_=>rfl
 |r::rs,b::bs,h,k+1,hk=>by
  have:=zwz rs bs (by simpa using h) k (by simpa using hk);simpa [jt,zmg] using this
theorem zxa:∀(rs:List Rw) (bs:List Int),(∀b∈bs,0<=b/\b<1073741789)->∀c∈zmg rs bs,zdw c=true
 |[],_,_,c,h=>by cases h
 |_::_,[],_,c,h=>by cases h
 |r::rs,b::bs,hb,c,h=>by
  rcases List.mem_cons.1 h with rfl|h
  ·exact ymr r.cents b (hb b (by simp)).2
  ·exact zxa rs bs (fun b h=>hb b (by simp [h])) c h
theorem yjn (d:Disc):zhd d=zfj spT (zhk d.person d.month d.root d.commit):=by
 obtain ⟨person,month,root,commit,shown,hidden,blind,sig⟩:=d;show commit.foldl (fun s c=>s++(⟨#[32]⟩++wo c)) (⟨#[112,97,121,115,108,105,112,32]⟩++person++⟨#[32]⟩++wo month++⟨#[32]⟩++zdl root)=
  ([person,wo month,zdl root]++commit.map wo).foldl (fun s y=>s++spT++y) paysT
 rw [List.foldl_append,List.foldl_map];have h1:(fun (s:ByteArray) (c:Int)=>s++(⟨#[32]⟩++wo c))=fun s c=>s++spT++wo c:=by
  funext s c
  exact (ByteArray.append_assoc).symm
 rw [h1]
 congr 1
theorem ycc {s:Slip} (hg:SlipGood s) (d:Disc) (hr:d.root=s.root) (hc:d.commit=zmg s.rows s.blinds):∀(l:List Int) (last:Int),l.Pairwise (· < ·)->(∀x∈l,last<x/\0<=x/\x<s.rows.length)->shownOK d last (l.map (showRow s))=true
 |[],_,_,_=>rfl
 |x::l,last,hp,h=>by
  have hx:=h x (by simp);rw [List.pairwise_cons] at hp;have ih:=ycc hg d hr hc l x hp.2 (fun y hy=>⟨hp.1 y hy,(h y (by simp [hy])).2⟩);have hlen:d.commit.length=s.rows.length:=by rw [hc];exact zmh _ _ hg.blinds
  have hk:x.toNat<s.rows.length:=by omega
  rw [List.map_cons,shownOK];have hi:(showRow s x).index=x:=rfl;rw [hi,ih,Bool.and_true];unfold shwOK;rw [hi,hlen,decide_eq_true hx.1,decide_eq_true hx.2.2,Bool.true_and,Bool.true_and,Bool.and_eq_true];have e1:cAt d x=(ydj (showRow s x).cents (showRow s x).blind:Nat):=by
   unfold cAt;rw [hc,ycb _ _ hg.blinds _ hk];rfl
  have hcm:∀r∈s.rows,r=r:=fun _ _=>rfl
  have hmem:s.rows.getD x.toNat ⟨⟨#[]⟩,0,⟨#[]⟩⟩∈s.rows:=by
   rw [List.getD_eq_getElem?_getD,List.getElem?_eq_getElem hk];exact List.getElem_mem hk
  have hbm:s.blinds.getD x.toNat 0∈s.blinds:=by
   rw [List.getD_eq_getElem?_getD,List.getElem?_eq_getElem (by rw [hg.blinds];exact hk)];exact List.getElem_mem _
  refine ⟨?_,?_⟩
  ·unfold wy
   rw [e1,Bool.and_eq_true,zco];have b1:=hg.cents _ hmem;have b2:=hg.blind _ hbm;exact ⟨⟨b1.1,b1.2,b2.1,b2.2⟩,by simp⟩
  ·have h1:=zpi (jt s.rows s.blinds) x.toNat (by rw [zcv _ _ hg.blinds];exact hk) (by rw [zcv _ _ hg.blinds];exact hg.rows.2)
   rw [hg.root,zwz _ _ hg.blinds _ hk,zcv _ _ hg.blinds] at h1;have e2:cAt d x=(zmg s.rows s.blinds).getD x.toNat 0:=by
    unfold cAt;rw [hc]
   have e3:(x.toNat:Int)=x:=by omega
   rw [e3] at h1;rw [hr,e2];exact h1
theorem zzq (s:Slip) (l:List Int) (i:Nat):zav (l.map (showRow s)) i=decide ((i:Int)∈l):=by
 unfold zav;rw [Bool.eq_iff_iff];simp only [List.any_map,List.any_eq_true,Function.comp,decide_eq_true_eq];constructor
 ·rintro ⟨x,hx,he⟩
  have he:x=i:=he;rw [<-he];exact hx
 ·intro h
  exact ⟨_,h,rfl⟩
theorem ypt {s:Slip} (hg:SlipGood s) {sel:List Int} (hsel:zid s.rows.length none sel=true) (seed:ByteArray) {h i:Nat} (hh:h<=8) (hi:i<2 ^ h)
  (hsum: -500000000<=wk (s.rows.map Rw.cents) (zlr s.rows.length sel)/\wk (s.rows.map Rw.cents) (zlr s.rows.length sel)<=500000000):accOK (keyN seed h) h (showN s sel seed h i)=true:=by
 obtain ⟨p1,p2,_⟩:=zjl _ _ _ hsel;have hcl:=zmh _ _ hg.blinds;have h1:zgt (showN s sel seed h i)=true:=by
  unfold zgt showN;simp only [hg.name,hcl];rw [decide_eq_true hg.month.1,decide_eq_true hg.month.2,decide_eq_true hg.rows.1,decide_eq_true hg.rows.2];simp only [Bool.true_and,List.all_eq_true];exact zxa _ _ hg.blind
 have h2:shownOK (showN s sel seed h i) (-1) (showN s sel seed h i).shown=true:=ycc hg _ rfl rfl sel (-1) p1 (fun x hx=>⟨by have:=p2 x hx;omega,p2 x hx⟩);have h3:signedOK (keyN seed h) h (zhd (showN s sel seed h i)) (showN s sel seed h i).sig=true:=by
  rw [yjn];exact yps seed h i _ hh hi
 have hfl:∀k,k<s.rows.length->(zlr s.rows.length sel)[k]?=some (!zav (sel.map (showRow s)) (0+k)):=fun k hk=>by
  unfold zlr;rw [List.getElem?_map,List.getElem?_range hk,Nat.zero_add,zzq];rfl
 obtain ⟨A,B,e1,e2,e3⟩:=zpm (zav (sel.map (showRow s))) s.rows s.blinds (zlr s.rows.length sel) 0 hg.blinds (by simp [zlr]) hfl hg.blind;have h4:wy (zde (showN s sel seed h i).shown 0 (showN s sel seed h i).commit 1) (showN s sel seed h i).hidden (showN s sel seed h i).blind=true:=by
  show wy (zde (sel.map (showRow s)) 0 (zmg s.rows s.blinds) 1) (wk (s.rows.map Rw.cents) (zlr s.rows.length sel)) ((wk s.blinds (zlr s.rows.length sel)).tmod 1073741789)=true;rw [zpl _ _ _ _ (by decide),Nat.one_mul,e1, <-e3];generalize wk (s.rows.map Rw.cents) (zlr s.rows.length sel)=hs1 at hsum e2 ⊢;have e4:(B:Int).tmod 1073741789=((B % 1073741789:Nat):Int):=by
   rw [Int.tmod_eq_emod_of_nonneg (by omega)];omega
  have hB:B % 1073741789<1073741789:=Nat.mod_lt _ (by decide);unfold wy;rw [e4,Bool.and_eq_true,zco];refine ⟨⟨hsum.1,hsum.2,by omega,by omega⟩,?_⟩;rw [decide_eq_true_eq,zpk _ _ (by omega),Int.toNat_natCast];have e5:A % 1073741789=zpr hs1 % 1073741789:=by
   have:=yca hs1;omega
  rw [yqh (elm4.congr e5) (elm9.red B)]
 unfold accOK;rw [h1,h2,h3,h4];rfl
theorem yfd {root h:Nat} {idx:Int} {leaf:ByteArray} {path:List Frk} (hl:jn root (2 ^ h:Nat) idx leaf path=true):0<=idx/\idx<(2 ^ h:Nat)/\path.length=h:=by
 unfold jn at hl;simp only [Bool.and_eq_true,decide_eq_true_eq] at hl;obtain ⟨⟨⟨_,h3⟩,h4⟩,h5⟩:=hl;refine ⟨h3,h4,zqs 12 h idx.toNat path (zam leaf) root (by omega) ?_⟩;rw [Int.toNat_natCast] at h5;exact h5
theorem zgs {key:Nat} {height:Int} {text:ByteArray} {s:Sg} (h:signedOK key height text s=true):0<=height/\height<=8/\0<=s.index/\s.index<(2 ^ height.toNat:Nat)/\s.path.length=height.toNat:=by
 unfold signedOK at h;simp only [Bool.and_eq_true,decide_eq_true_eq] at h;obtain ⟨⟨⟨h1,h2⟩,_⟩,h4⟩:=h;exact ⟨h1,h2,yfd h4⟩
theorem zeh {key:Nat} {height:Int} {d:Disc} (h:accOK key height d=true):zgt d=true/\shownOK d (-1) d.shown=true/\wy (zde d.shown 0 d.commit 1) d.hidden d.blind=true/\signedOK key height (zhd d) d.sig=true:=by
 unfold accOK at h;simp only [Bool.and_eq_true] at h;exact ⟨h.1.1.1,h.1.1.2,h.1.2,h.2⟩
theorem ztr {key key':Nat} {height h':Int} {d:Disc} (h:accOK key height d=true) (hne:h'≠height):accOK key' h' d=false:=by
 cases hb:accOK key' h' d with
 |false=>rfl
 |true=>
  obtain ⟨a1,_,_,_,a2⟩:=zgs (zeh h).2.2.2;obtain ⟨b1,_,_,_,b2⟩:=zgs (zeh hb).2.2.2;omega
theorem yms {key:Nat} {height:Int} {d:Disc} (hi:¬(0<=d.sig.index/\d.sig.index<(2 ^ height.toNat:Nat))):accOK key height d=false:=by
 cases hb:accOK key height d with
 |false=>rfl
 |true=>
  obtain ⟨_,_,b1,b2,_⟩:=zgs (zeh hb).2.2.2;exact absurd ⟨b1,b2⟩ hi
theorem ypu {key:Nat} {height:Int} {d:Disc} (h:accOK key height d=true->False):accOK key height d=false:=by
 cases hb:accOK key height d with
 |false=>rfl
 |true=>exact (h hb).elim
theorem zts {key:Nat} {height:Int} {d:Disc} (h:accOK key height d=true) {n:Int} (hn:n≠d.hidden):accOK key height {d with hidden:=n}=false:=
 ypu fun hb=>hn (zzo (zeh hb).2.2.1 (zeh h).2.2.1)
def zzr (x:Int):List Int->List Int
 |[]=>[x]
 |y::l=>if x<=y then x::y::l else y::zzr x l
def yfe:List Int->List Int
 |[]=>[]
 |x::l=>zzr x (yfe l)
theorem zkn (x:Int):∀l,(zzr x l).Perm (x::l)
 |[]=>.refl _
 |y::l=>by
  rw [zzr];split
  ·exact .refl _
  ·exact ((zkn x l).cons y).trans (.swap x y l)
theorem zrt:∀l,(yfe l).Perm l
 |[]=>.refl _
 |x::l=>(zkn x _).trans ((zrt l).cons x)
theorem zli (x:Int):∀l,l.Pairwise (· <= ·)->(zzr x l).Pairwise (· <= ·)
 |[],_=>by simp [zzr]
 |y::l,h=>by
  rw [List.pairwise_cons] at h;rw [zzr];split
  ·rename_i hxy
   rw [List.pairwise_cons];refine ⟨fun z hz=>?_,List.pairwise_cons.2 h⟩;rcases List.mem_cons.1 hz with rfl|hz
   ·exact hxy
   ·have:=h.1 z hz;omega
  ·rename_i hxy
   rw [List.pairwise_cons];refine ⟨fun z hz=>?_,zli x l h.2⟩;rcases List.mem_cons.1 ((zkn x l).mem_iff.1 hz) with rfl|hz
   ·omega
   ·exact h.1 z hz
theorem zlj:∀l,(yfe l).Pairwise (· <= ·)
 |[]=>.nil
 |x::l=>zli x _ (zlj l)
theorem zjm:∀{a b:List Int},a.Perm b->a.Pairwise (· <= ·)->b.Pairwise (· <= ·)->a=b
 |[],b,h,_,_=>by rw [List.nil_perm.1 h]
 |x::a,[],h,_,_=>by cases (List.perm_nil.1 h)
 |x::a,y::b,h,ha,hb=>by
  rw [List.pairwise_cons] at ha hb;have hxy:x=y:=by
   have h1:x∈y::b:=h.mem_iff.1 (by simp);have h2:y∈x::a:=h.mem_iff.2 (by simp);rcases List.mem_cons.1 h1 with h1|h1
   ·exact h1
   ·rcases List.mem_cons.1 h2 with h2|h2
    ·exact h2.symm
    ·have:=ha.1 y h2
     have:=hb.1 x h1;omega
  subst hxy;rw [zjm h.cons_inv ha.2 hb.2]
theorem zpn (l:List Int):zbb l=yfe l:=by
 refine zjm ((List.mergeSort_perm l fun x y=>decide (x<=y)).trans (zrt l).symm) ?_ (zlj l);have:=List.pairwise_mergeSort (le:=fun x y:Int=>decide (x<=y)) (fun a b c h1 h2=>by simp at*;omega) (fun a b=>by simp;omega) l;exact this.imp fun h=>by simpa using h
def inK (c:Codex) (day known:Int):List Int:=yfe ((yls c day known).map (·.2))
theorem yrr (c:Codex) (day known:Int):inA c day known=inK c day known:=zpn _
def yjo (S:AM) (used:List Bool):List Int:=Go.Lib.compact (yfe (((List.range used.length).filter fun i=>used.getD i false&&S.has.getD i false).map fun i=>S.nums.getD i 0))
theorem yjp (S:AM) (used:List Bool):zgc S used=yjo S used:=by
 unfold zgc yjo;rw [zpn]
def ypv (c:Codex) (S:AM) (inF:List Int) (s:List (Int × Int) × List (Int × Int)) (v:Int) (a:Article):Ln:=
 ⟨S.day,a.line,v,(zu a.number s.2).getD 0,yjo S (zhy c a),zja c inF s.1 a⟩
theorem ymt (c:Codex) (S:AM) (inF:List Int) (s:List (Int × Int) × List (Int × Int)) (v:Int) (a:Article):zod c S inF s v a=ypv c S inF s v a:=by
 unfold zod ypv;rw [yjp]
def zzs (c:Codex) (S:AM) (inF:List Int) (s:List (Int × Int) × List (Int × Int)) (line:Ln):Bool:=
 match zbz c line.art with
 |some a=>if line.art∈inF/\(zu line.art s.1).getD 0=2 then ybh (ypv c S inF s line.art a) line else false
 |none=>false
theorem yff (c:Codex) (S:AM) (inF:List Int) (s:List (Int × Int) × List (Int × Int)) (line:Ln):zew c S inF s line=zzs c S inF s line:=by
 unfold zew zzs;cases zbz c line.art with
 |none=>rfl
 |some a=>simp only [ymt]
def yjq (c:Codex) (l:List Fact) (person:ByteArray) (known:Int) (line:Ln):Bool:=
 zcs c&&zhv l&&(decide (0<=line.day)&&decide (line.day<=36524))&&(decide (0<=known)&&decide (known<=36524))&&decide ((ydy c).length=c.arts.length)&&
  zzs c (zay c l person line.day known) (inK c line.day known) (yre c (zay c l person line.day known) (inK c line.day known) (ydy c)) line
theorem zei (c:Codex) (l:List Fact) (person:ByteArray) (known:Int) (line:Ln):zca c l person known line=yjq c l person known line:=by
 unfold zca yjq;rw [yrr,yff]
variable (G:List (Nat × D))
theorem yrs {b:Nat} {H0:List SObj} {f:Ex} (l:List Ex) (hb:H0[b]?=some (.cells (f.cells.map .imm))) (hu:H0.all (SObj.under H0.length)=true):yrf G 171 b H0 (fun e=> !decide (e.unit=f.unit)) l:=by
 intro e _;have hbl:=lt_of_getElem? hb;obtain ⟨xo,xn,xu,xd,xp,xk⟩:=e
 refine qg Tryz.func171 rfl (by rw [Tryz.ntmps171];simp) (by
  have h1:(Ex.mk xo xn xu xd xp xk).sv.under H0.length=true:=rfl;have h2:(SV.ptr b 0).under H0.length=true:=by simp [SV.under,hbl]
  simp only [List.all_cons,List.all_nil,h1,h2,Bool.and_true]) hu ?_
 intro E hH hK;(refine zp [777,5,7] 1000 ?_;conv=>whnf);refine xl (cs:=(Ex.mk xo xn xu xd xp xk).cells.map .imm) (v:=sS xu) rfl rfl rfl rfl (by simp) rfl ?_;(refine zj [777,5,7] 1000 ?_;conv=>whnf);refine xl (cs:=f.cells.map .imm) (v:=sS f.unit) rfl rfl rfl rfl ((List.getElem?_append_left hbl).trans hb) ?_ ?_
 ·rw [Ex.cells_eq];rfl
 (refine zc ?_;conv=>whnf);refine hK _ _ (by simp) rfl (by rw [List.take_left'];exact hu;rfl) ⟨rfl,by rw [List.take_left'];rfl⟩
theorem yjr {ks:List Ex} {f:Ex} (hf:ks.head?=some f):zny ks= !(ks.any fun e=> !decide (e.unit=f.unit)):=by
 cases ks with
 |nil=>cases hf
 |cons a r=>
  injection hf with hf
  subst hf;rw [zny,List.all_eq_not_any_not]
def yfg (op:Int) (u:ByteArray) (f l:Ex) (len:Int) (same:Bool):Bool:=
 if op=5 then decide (len=1)&&decide (u=tT)&&decide (f.unit=tT)
 else if op=6\/op=7 then decide (len=2)&&decide (u=tT)&&same&&decide (f.unit=tT)
 else if op=8 then decide (len=2)&&decide (u=tT)&&same
 else if op=9\/op=10 then decide (len=2)&&decide (u=tT)&&(same&& !decide (f.unit=tT))
 else if op=11\/op=12 then decide (len=2)&&(same&& !decide (f.unit=tT))&&decide (u=f.unit)
 else if op=16\/op=17 then decide (2<=len)&&(same&& !decide (f.unit=tT))&&decide (u=f.unit)
 else if op=13 then decide (len=2)&& !decide (f.unit=tT)&& !decide (l.unit=tT)&&(decide (f.unit=tN)||decide (l.unit=tN))&&decide (u=if f.unit=tN then l.unit else f.unit)
 else if op=14 then decide (len=2)&&decide (l.op=1)&&decide (l.unit=tN)&&(decide (1<=l.n)&&decide (l.n<=1000000))&& !decide (f.unit=tT)&&decide (u=f.unit)
 else if op=15 then decide (len=2)&&decide (f.unit=tM)&&znn l.unit&&decide (u=l.unit)
 else false
theorem ypw (op:Int) (u:ByteArray) (f l:Ex) (len:Int) (same:Bool):yke op u f l len same=yfg op u f l len same:=by
 unfold yke yfg;rw [show (!decide (l.n<1)&& !decide (1000000<l.n))=(decide (1<=l.n)&&decide (l.n<=1000000)) from by rw [Bool.eq_iff_iff];simp]
theorem zxb (op n:Int) (u:ByteArray) (den:Int) (ps:List Piece) (ks:List Ex) (f l:Ex) (hf:ks.head?=some f) (hl:ks.getLast?=some l) (hsz:ks.length<=1000000000):
  zq Tryz.prog G 140 [(Ex.mk op n u den ps ks).sv] (sB (yke op u f l ks.length (zny ks))):=by
 have hrows:=xi ks;have hlen:(zm ks).length=ks.length:=by rw [hrows];simp
 have hpos:1<=ks.length:=by cases ks with|nil=>simp at hf|cons a r=>simp
 have h0:(zm ks)[0]?=some f.cells:=by
  rw [hrows];cases ks with
  |nil=>simp at hf
  |cons a r=>simp at hf;simp [hf]
 have h1:(zm ks)[ks.length-1]?=some l.cells:=by
  rw [hrows,List.getElem?_map];rw [List.getLast?_eq_getElem?] at hl;rw [hl];rfl
 have hone:ks.length=1->zny ks=true:=by
  intro h
  match ks,h with
  |[k],_=>simp [zny]
 have hm:IntKind.i64.wrap (((zm ks).length:Int)-1)=((ks.length-1:Nat):Int):=by rw [zy (by omega) (by omega)];omega
 have hcon:=fun H0 hb hu=>zjc G (g:=171) (b:=1) (H0:=H0) (p:=fun e=> !decide (e.unit=f.unit)) (l:=ks) rfl (lt_of_getElem? hb) hu hsz (yrs G ks hb hu)
 rw [<-hrows] at hcon;have hsame:=yjr hf;generalize (ks.any fun e=> !decide (e.unit=f.unit))=an at hcon hsame;obtain ⟨o0,n0,u0,d0,p0,q0⟩:=f;obtain ⟨o1,n1,u1,d1,p1,q1⟩:=l;have hcur:=zhs G u1;refine zg Tryz.func140 rfl (by rw [Tryz.ntmps140];simp) rfl rfl ?_;intro E hH hK;(refine yw ?_;conv=>whnf);(refine xz 2 mixed rfl ?_;refine zn [] (nx:=1) ?_;conv=>whnf);refine wv rfl (by simp) rfl  (row:=(Ex.mk o0 n0 u0 d0 p0 q0).cells) h0 ?_;(refine zn [] (nx:=1) ?_;conv=>whnf);refine wv rfl (by simp) hm (row:=(Ex.mk o1 n1 u1 d1 p1 q1).cells) h1 ?_;(refine zn [] (nx:=1) ?_;conv=>whnf);(refine yw ?_;conv=>whnf);refine zas 3 rfl rfl rfl rfl rfl rfl (hcon _ rfl rfl) ?_;rintro r9 H9 ⟨rfl,rfl⟩ _;have hs2:an= !zny ks:=by rw [hsame,Bool.not_not]
 clear hcon hsame;rw [ypw] at hK;generalize zny ks=sm at hK hs2 hone;subst hs2;rw [<-hlen] at hK hone;clear hm h0 h1 hf hl hlen hpos hrows;cases sm with
 |false=>
  have hone:¬(zm ks).length=1:=fun h=>Bool.noConfusion (hone h)
  (refine xg ?_;conv=>whnf)
  repeat' ((with_reducible refine way ?_ ?_)<;>(intro h;conv=>whnf))
  all_goals try (refine kB hK ?_;(try simp [yfg,tT,tN,tM,Ex.unit,Ex.op,Ex.n, *]);(try exact decide_eq_decide.2 Iff.rfl);(try omega))
  any_goals refine zd rfl  hcur ?_
  any_goals (refine xg ?_;conv=>whnf)
  any_goals repeat' ((with_reducible refine way ?_ ?_)<;>(intro h;conv=>whnf))
  all_goals try (refine kB hK ?_;(try simp [yfg,tT,tN,tM,Ex.unit,Ex.op,Ex.n, *]);(try exact decide_eq_decide.2 Iff.rfl);(try omega))
  all_goals trace_state
 |true=>
  clear hone;(refine xg ?_;conv=>whnf)
  repeat' ((with_reducible refine way ?_ ?_)<;>(intro h;conv=>whnf))
  all_goals try (refine kB hK ?_;(try simp [yfg,tT,tN,tM,Ex.unit,Ex.op,Ex.n, *]);(try exact decide_eq_decide.2 Iff.rfl);(try omega))
  any_goals refine zd rfl  hcur ?_
  any_goals (refine xg ?_;conv=>whnf)
  any_goals repeat' ((with_reducible refine way ?_ ?_)<;>(intro h;conv=>whnf))
  all_goals try (refine kB hK ?_;(try simp [yfg,tT,tN,tM,Ex.unit,Ex.op,Ex.n, *]);(try exact decide_eq_decide.2 Iff.rfl);(try omega))
  all_goals trace_state
def zig (m:List (Int × Int)) (n:Int):List SObj:=[.mapI .i64 (qq sI m),.cells [sI n]]
theorem zko (m:List (Int × Int)) (n:Int):(zig m n).all (SObj.under 2)=true:=by
 simp only [zig,List.all_cons,zfw];rfl
theorem yjs {op:Int} (u:ByteArray) (f l:Ex) (len:Int) (same:Bool) (h:1<=op/\op<=4):yke op u f l len same=false:=by
 unfold yke;rw [if_neg (by omega),if_neg (by omega),if_neg (by omega),if_neg (by omega),if_neg (by omega),if_neg (by omega),if_neg (by omega),if_neg (by omega),if_neg (by omega)]
theorem zzt {facts lines:List Decl} {m:List (Int × Int)} {n:Int} {u:ByteArray} (h:zu n m=none):zfx facts lines m 3 n u=false:=by
 unfold zfx;simp [h]
theorem zxc (c : Codex) (hcs : c.facts.length <= 1000000) (m : List (Int × Int)) (hm : ∀ k v, zu k m = some v -> 0 <= v /\ v < c.lines.length) (N : Nat) : ∀ (e : Ex), SizeOf.sizeOf e < N -> ∀ (depth cnt : Int), 0 <= depth -> depth <= 41 -> 0 <= cnt -> cnt <= 400 ->
    SPre Tryz.prog G 103 [c.sv, .map 0, e.sv, sI depth, .ptr 1 0] (zig m cnt) (fun r H1 => r = sB (qd c m e depth cnt).1 /\ H1 = zig m (qd c m e depth cnt).2) := by
  induction N with
  | zero => intro e h; omega
  | succ N IH =>
  intro e he depth cnt hd0 hd1 hc0 hc1
  obtain ⟨op, n, u, den, ps, ks⟩ := e
  simp only [Ex.mk.sizeOf_spec] at he
  have hsv : (Ex.mk op n u den ps ks).sv = .agg [sI op, sI n, sS u, sI den, .imm (.isl 3 (ps.map Piece.cells)), .imm (.isl 6 (zm ks))] := rfl
  have hcv : c.sv = .agg [.imm (zr c.facts), .imm (zr c.lines), .imm (xq c.arts)] := rfl
  refine qg Tryz.func103 rfl (by rw [Tryz.ntmps103]; simp) rfl (zko m cnt) ?_
  intro E hH hK
  have fin : ∀ H' q, H'.take 2 = zig m q -> 2 <= H'.length -> ∀ b, qd c m (.mk op n u den ps ks) depth cnt = (b, q) -> E.K (sB b) H' := fun H' q h1 h2 b h3 =>
    hK _ _ h2 rfl (by show (List.take 2 H').all _ = true; rw [h1]; exact zko m q) ⟨by rw [h3], by rw [h3]; exact h1⟩
  have hw1 : IntKind.i64.wrap (cnt + 1) = cnt + 1 := zy (by omega) (by omega)
  have hrows := xi ks
  have hlen : (zm ks).length = ks.length := by rw [hrows]; simp
  rw [hsv, hcv]
  refine zp [19] 1000 ?_; conv => whnf
  rw [hw1]
  (refine xg ?_; conv => whnf)
  repeat' ((with_reducible refine way ?_ ?_) <;> (intro h; conv => whnf))
  all_goals try exact fin _ _ rfl (by simp) _ (by simp only [qd]; rw [if_pos (by omega)])
  refine zd rfl  (zkv G u) ?_
  cases huo : zku u with
  | false =>
    (refine xg ?_; conv => whnf)
    exact fin _ _ rfl (by simp) _ (by simp only [qd]; rw [if_pos (.inr (.inr huo))])
  | true =>
  (refine xg ?_; conv => whnf)
  have hstart : qd c m (.mk op n u den ps ks) depth cnt = (match jb c m ks (depth + 1) (cnt + 1) with | (true, cnt') => (zcr c m op n u den ps ks, cnt') | (false, cnt') => (false, cnt')) := by
    simp only [qd]; rw [if_neg (by rw [huo]; simp; omega)]; try rfl
  have hup := zvi c m (N + 1)
  have hwd : IntKind.i64.wrap (depth + 1) = depth + 1 := zy (by omega) (by omega)
  refine zh [1, 3, 4, 5, 7, 35, 36, 37] ?_
  change SW E _ [(1, .map 0), (3, sI depth), (4, .ptr 1 0), (5, .ptr 2 0), (7, .ptr 3 0), (35, .imm (.isl 6 (zm ks))), (36, sI ((zm ks).length : Nat)), (37, sI (0 : Nat))] (zig m (cnt + 1) ++ [.cells [.imm (zr c.facts), .imm (zr c.lines), .imm (xq c.arts)], .cells [sI op, sI n, sS u, sI den, .imm (.isl 3 (ps.map Piece.cells)), .imm (.isl 6 (zm ks))]])
  rw [hlen]
  refine zo ks (fun i (_ : Int) => [(1, .map 0), (3, sI depth), (4, .ptr 1 0), (5, .ptr 2 0), (7, .ptr 3 0), (35, .imm (.isl 6 (zm ks))), (36, sI (ks.length : Nat)), (37, sI (i : Nat))])
    (fun _ q => zig m q ++ [.cells [.imm (zr c.facts), .imm (zr c.lines), .imm (xq c.arts)], .cells [sI op, sI n, sS u, sI den, .imm (.isl 3 (ps.map Piece.cells)), .imm (.isl 6 (zm ks))]])
    (fun done rest q => jb c m ks (depth + 1) (cnt + 1) = jb c m rest (depth + 1) q /\ cnt + 1 + done.length <= q /\ q <= 400) (cnt + 1) ⟨rfl, by simp, by omega⟩ ?_ ?_
  · as_aux_lemma =>
      rintro q ⟨h1, h2, h3⟩
      simp only [jb] at h1
      rw [h1] at hstart
      simp only at hstart
      have hsz : ks.length <= 400 := by omega
      have fin2 : ∀ H' b, H'.take 2 = zig m q -> 2 <= H'.length -> zcr c m op n u den ps ks = b -> E.K (sB b) H' := fun H' b g1 g2 g3 => fin H' q g1 g2 b (by rw [hstart, g3])
      have hpl : (ps.map Piece.cells).length = ps.length := by simp
      have hfl : (c.facts.map Decl.cells).length = c.facts.length := by simp
      clear IH hup hstart hK fin huo
      by_cases h18 : op = 18
      · subst h18
        have hn18 : zcr c m 18 n u den ps ks = (decide (n = 0) && decide (ks.length = 1) && znn u && (match ks with | k :: _ => decide (u = k.unit) | [] => false) && zbw den ps) := by unfold zcr; rw [if_pos rfl]; try rfl
        have hcur := zhs G u
        have htb := ztf G den ps
        generalize znn u = b1 at hcur hn18
        generalize zbw den ps = b2 at htb hn18
        cases ks with
        | nil =>
          (refine yw ?_; conv => whnf)
          repeat' ((with_reducible refine way ?_ ?_) <;> (intro h; conv => whnf))
          all_goals try (exfalso; omega)
          (refine ya mixed rfl ?_; refine zf [] ?_; conv => whnf)
          repeat' ((with_reducible refine way ?_ ?_) <;> (intro h; conv => whnf))
          all_goals (refine yw ?_; conv => whnf)
          all_goals exact fin2 _ _ rfl (by simp [zig]) (by rw [hn18]; simp)
        | cons k0 kr =>
          obtain ⟨o0, n0, u0, d0, p0, q0⟩ := k0
          have h0 : (zm (Ex.mk o0 n0 u0 d0 p0 q0 :: kr))[0]? = some (Ex.mk o0 n0 u0 d0 p0 q0).cells := by simp [zm]
          (refine yw ?_; conv => whnf)
          repeat' ((with_reducible refine way ?_ ?_) <;> (intro h; conv => whnf))
          all_goals try (exfalso; omega)
          (refine ya mixed rfl ?_; refine zf [] ?_; conv => whnf)
          repeat' ((with_reducible refine way ?_ ?_) <;> (intro h; conv => whnf))
          · refine yg rfl  hcur ?_
            cases b1 with
            | false =>
              (refine zf [] ?_; conv => whnf)
              (refine yw ?_; conv => whnf)
              exact fin2 _ _ rfl (by simp [zig]) (by rw [hn18]; simp)
            | true =>
            (refine zf [] ?_; conv => whnf)
            refine yx rfl rfl  (row := (Ex.mk o0 n0 u0 d0 p0 q0).cells) h0 ?_
            (refine zf [] ?_; conv => whnf)
            repeat' ((with_reducible refine way ?_ ?_) <;> (intro h; conv => whnf))
            · refine yg rfl  htb ?_
              (refine zf [] ?_; conv => whnf)
              (refine yw ?_; conv => whnf)
              refine fin2 _ _ rfl (by simp [zig]) ?_
              rw [hn18, decide_eq_true ‹n = 0›, decide_eq_true (show (Ex.mk o0 n0 u0 d0 p0 q0 :: kr).length = 1 by omega)]
              have hu : decide (u = (Ex.mk o0 n0 u0 d0 p0 q0).unit) = true := decide_eq_true h.symm
              simp only [hu]
              try rfl
            · (refine yw ?_; conv => whnf)
              refine fin2 _ _ rfl (by simp [zig]) ?_
              have hu : decide (u = (Ex.mk o0 n0 u0 d0 p0 q0).unit) = false := decide_eq_false (fun e => h (Eq.symm e))
              rw [hn18]
              simp only [hu]
              simp
          · (refine yw ?_; conv => whnf)
            exact fin2 _ _ rfl (by simp [zig]) (by rw [hn18, decide_eq_false (show ¬ (Ex.mk o0 n0 u0 d0 p0 q0 :: kr).length = 1 by omega)]; simp)
          · (refine yw ?_; conv => whnf)
            exact fin2 _ _ rfl (by simp [zig]) (by rw [hn18, decide_eq_false h]; simp)
      by_cases htab : ¬ den = 0 \/ 0 < ps.length
      · (refine yw ?_; conv => whnf)
        repeat' ((with_reducible refine way ?_ ?_) <;> (intro h; conv => whnf))
        all_goals try (exfalso; omega)
        all_goals exact fin2 _ _ rfl (by simp [zig]) (by unfold zcr; rw [if_neg h18, if_pos htab])
      have hnode : zcr c m op n u den ps ks = if 1 <= op /\ op <= 4 then decide (ks.length = 0) && zfx c.facts c.lines m op n u else decide (n = 0) && (match ks.head?, ks.getLast? with | some f, some l => yke op u f l ks.length (zny ks) | _, _ => false) := by
        unfold zcr; rw [if_neg h18, if_neg htab]; try rfl
      cases ks with
      | cons k0 kr =>
        obtain ⟨l, hl⟩ : ∃ l, (k0 :: kr).getLast? = some l := ⟨_, List.getLast?_eq_some_getLast (by simp)⟩
        have hopr := zxb G op n u den ps (k0 :: kr) k0 l rfl hl (by omega)
        rw [hl] at hnode
        simp only [List.head?_cons] at hnode
        have hnode : zcr c m op n u den ps (k0 :: kr) = (decide (n = 0) && yke op u k0 l (k0 :: kr).length (zny (k0 :: kr))) := by
          rw [hnode]
          split
          · rename_i h
            rw [yjs u k0 l _ _ h, Bool.and_false]
            rfl
          · rfl
        have hpos : 0 < (zm (k0 :: kr)).length := by simp [zm]
        rw [hsv] at hopr
        generalize yke op u k0 l (k0 :: kr).length (zny (k0 :: kr)) = b1 at hopr hnode
        (refine yw ?_; conv => whnf)
        repeat' ((with_reducible refine way ?_ ?_) <;> (intro h; conv => whnf))
        all_goals try (exfalso; omega)
        all_goals first
          | exact fin2 _ _ rfl (by simp [zig]) (by rw [hnode, decide_eq_false ‹¬ n = 0›]; rfl)
          | (refine zd rfl  hopr ?_
             (refine xg ?_; conv => whnf)
             exact fin2 _ _ rfl (by simp [zig]) (by rw [hnode, decide_eq_true ‹n = 0›]; rfl))
      | nil =>
        have hnode : zcr c m op n u den ps [] = if 1 <= op /\ op <= 4 then zfx c.facts c.lines m op n u else false := by
          rw [hnode]
          split
          · rfl
          · simp
        by_cases hop : 1 <= op /\ op <= 4
        · rw [if_pos hop] at hnode
          rcases (show op = 1 \/ op = 2 \/ op = 3 \/ op = 4 by omega) with rfl | rfl | rfl | rfl
          · (refine yw ?_; conv => whnf)
            repeat' ((with_reducible refine way ?_ ?_) <;> (intro h; conv => whnf))
            all_goals try (exfalso; omega)
            all_goals exact fin2 _ _ rfl (by simp [zig]) (by rw [hnode]; simp [zfx, tT, *]; try omega)
          · (refine yw ?_; conv => whnf)
            repeat' ((with_reducible refine way ?_ ?_) <;> (intro h; conv => whnf))
            all_goals try (exfalso; omega)
            (refine ya mixed rfl ?_; refine zf [] ?_; conv => whnf)
            repeat' ((with_reducible refine way ?_ ?_) <;> (intro h; conv => whnf))
            · have hlt : n.toNat < c.facts.length := by omega
              obtain ⟨d, hd⟩ : ∃ d, c.facts[n.toNat]? = some d := ⟨c.facts[n.toNat], List.getElem?_eq_getElem hlt⟩
              refine yx rfl (i := n.toNat) (by omega) (row := d.cells) (by simp [hd]) ?_
              (refine zf [] ?_; conv => whnf)
              (refine yw ?_; conv => whnf)
              refine fin2 _ _ rfl (by simp [zig]) ?_
              have hua : zqw c.facts n u = decide (u = d.unit) := by simp only [zqw, hd]
              rw [hnode]
              have : decide (d.unit = u) = decide (u = d.unit) := decide_eq_decide.2 ⟨Eq.symm, Eq.symm⟩
              rw [this]
              simp [zfx, hua, *]; omega
            all_goals (refine yw ?_; conv => whnf)
            all_goals refine fin2 _ _ rfl (by simp [zig]) ?_
            all_goals (rw [hnode]; simp [zfx, *]; try omega)
          · cases hlk : zu n m with
            | none =>
              (refine yw ?_; conv => whnf)
              repeat' ((with_reducible refine way ?_ ?_) <;> (intro h; conv => whnf))
              all_goals try (exfalso; omega)
              refine zai sI rfl rfl rfl rfl rfl rfl rfl rfl rfl (v := sI 0) (p := false) (by rw [hlk]; rfl) (by rw [hlk]; rfl) ?_
              (refine xg ?_; conv => whnf)
              (refine ya mixed rfl ?_; refine zf [] ?_; conv => whnf)
              (refine yw ?_; conv => whnf)
              exact fin2 _ _ rfl (by simp [zig]) (by rw [hnode]; exact zzt hlk)
            | some line =>
              obtain ⟨hl0, hl1⟩ := hm n line hlk
              obtain ⟨d, hd⟩ : ∃ d, c.lines[line.toNat]? = some d := ⟨c.lines[line.toNat]'(by omega), List.getElem?_eq_getElem _⟩
              (refine yw ?_; conv => whnf)
              repeat' ((with_reducible refine way ?_ ?_) <;> (intro h; conv => whnf))
              all_goals try (exfalso; omega)
              refine zai sI rfl rfl rfl rfl rfl rfl rfl rfl rfl (v := sI line) (p := true) (by rw [hlk]; rfl) (by rw [hlk]; rfl) ?_
              (refine xg ?_; conv => whnf)
              (refine ya mixed rfl ?_; refine zf [] ?_; conv => whnf)
              refine yx rfl (i := line.toNat) (by omega) (row := d.cells) (by simp [hd]) ?_
              (refine zf [] ?_; conv => whnf)
              (refine yw ?_; conv => whnf)
              have hua : zqw c.lines line u = decide (u = d.unit) := by simp only [zqw, hd]
              refine fin2 _ _ rfl (by simp [zig]) ?_
              have : decide (d.unit = u) = decide (u = d.unit) := decide_eq_decide.2 ⟨Eq.symm, Eq.symm⟩
              rw [hnode, this]
              simp [zfx, hlk, hua, *]
          · (refine yw ?_; conv => whnf)
            repeat' ((with_reducible refine way ?_ ?_) <;> (intro h; conv => whnf))
            all_goals try (exfalso; omega)
            all_goals exact fin2 _ _ rfl (by simp [zig]) (by rw [hnode]; simp [zfx, tN, *]; try omega)
        · rw [if_neg hop] at hnode
          (refine yw ?_; conv => whnf)
          repeat' ((with_reducible refine way ?_ ?_) <;> (intro h; conv => whnf))
          all_goals try (exfalso; omega)
          all_goals exact fin2 _ _ rfl (by simp [zig]) hnode
  · as_aux_lemma =>
      rintro done kid rest q ha hl ⟨h1, h2, h3⟩ ih
      have hw := zk (n := done.length) (by omega)
      have hks : SizeOf.sizeOf kid < SizeOf.sizeOf ks := List.sizeOf_lt_of_mem (by rw [ha]; simp)
      have hcall := IH kid (by omega) (depth + 1) q (by omega) (by omega) (by omega) h3
      simp only [jb] at h1
      have hkup := hup.1 kid (by omega) (depth + 1) q
      obtain ⟨o1, n1, u1, d1, p1, q1⟩ := kid
      (refine yw ?_; conv => whnf)
      repeat' ((with_reducible refine way ?_ ?_) <;> (intro h; conv => whnf))
      all_goals try (exfalso; omega)
      refine zi rfl rfl  (row := (Ex.mk o1 n1 u1 d1 p1 q1).cells) (by rw [hrows]; simp [ha]) ?_
      (refine xg ?_; conv => whnf)
      rw [hwd]
      refine zas 2 rfl rfl rfl rfl rfl rfl hcall ?_
      rintro r H1 ⟨rfl, rfl⟩ _
      revert h1 hkup
      cases qd c m (.mk o1 n1 u1 d1 p1 q1) (depth + 1) q with
      | mk b q' =>
        cases b with
        | true =>
          simp only
          intro h1 hkup
          (refine xg ?_; conv => whnf)
          rw [hw]
          exact ys [1, 3, 4, 5, 7, 35, 36, 37] 4 (by rw [hH]; simp [zig]) (by simp [zig]) rfl (by simp [zig, zfw]; exact ⟨rfl, rfl, rfl⟩) (ih q' ⟨h1, by simp; omega, hkup.2 trivial⟩)
        | false =>
          simp only
          intro h1 hkup
          (refine xg ?_; conv => whnf)
          refine fin _ q' rfl (by simp [zig]) _ ?_
          rw [hstart, h1]
theorem ycd (σ:Nat->Nat) (m:List (Int × Int)):(SObj.mapI .i64 (qq sI m)).ren σ= .mapI .i64 (qq sI m):=by
 simp [SObj.ren,qq,SV.ren]
theorem zru (c:Codex) (hcs:c.facts.length<=1000000) (m:List (Int × Int)) (hm:∀k v,zu k m=some v->0<=v/\v<c.lines.length) (e:Ex) (depth cnt:Int) (h0:0<=depth) (h1:depth<=41) (h2:0<=cnt) (h3:cnt<=400) {H:List SObj} {mi ni:Nat} (hne:mi≠ni)
  (hmi:H[mi]?=some (.mapI .i64 (qq sI m))) (hni:H[ni]?=some (.cells [sI cnt])):
  SCall Tryz.prog G 103 [c.sv,.map mi,e.sv,sI depth,.ptr ni 0] H (fun r H'=>r=sB (qd c m e depth cnt).1/\H'=H.set ni (.cells [sI (qd c m e depth cnt).2])):=by
 have hml:=lt_of_getElem? hmi;have hnl:=lt_of_getElem? hni;have hs:=zxc G c hcs m hm (SizeOf.sizeOf e+1) e (Nat.lt_succ_self _) depth cnt h0 h1 h2 h3 [];rw [List.append_nil] at hs;generalize qd c m e depth cnt=fr at hs;have hcr:∀σ,c.sv.ren σ=c.sv:=fun σ=>rfl
 have her:∀σ,e.sv.ren σ=e.sv:=fun σ=>by cases e;rfl
 have hlen2:(zig m cnt).length=2:=rfl;have:=znr (K':=fun r H'=>r=sB fr.1/\H'=H.set ni (.cells [sI fr.2])) hs (H:=H) (fun b=>if b=0 then mi else if b=1 then ni else H.length+(b-2)) ?_ ?_ ?_ ?_ (zko m cnt) ?_
 ·have e1:([c.sv,.map 0,e.sv,sI depth,.ptr 1 0]:List SV).map (SV.ren (fun b=>if b=0 then mi else if b=1 then ni else H.length+(b-2)))=[c.sv,.map mi,e.sv,sI depth,.ptr ni 0]:=by
   simp only [List.map_cons,List.map_nil,hcr,her];rfl
  rw [e1] at this;exact this
 ·intro b b' hb hb' h
  rw [hlen2] at hb hb';rcases (show b=0\/b=1 by omega) with rfl|rfl<;>rcases (show b'=0\/b'=1 by omega) with rfl|rfl<;>first|rfl|(exact absurd h hne)|(exact absurd h.symm hne)
 ·intro i
  simp only [hlen2];rw [if_neg (by omega),if_neg (by omega)];omega
 ·intro b o hb
  match b,hb with
  |0,hb=>
   injection hb with hb
   subst hb;rw [ycd];exact hmi
  |1,hb=>
   injection hb with hb
   subst hb;exact hni
  |b+2,hb=>simp [zig] at hb
 ·have hcu:c.sv.under 2=true:=rfl
  have heu:e.sv.under 2=true:=by cases e;rfl
  simp only [List.all_cons,List.all_nil,hlen2,hcu,heu];rfl
 ·rintro r H1 H' ⟨H2,⟨rfl,rfl⟩,hl2,rfl⟩ hlen hl3 hsame hother
  refine ⟨rfl,?_⟩;rw [List.append_nil] at hl3 hsame hlen;have hl4:H'.length=H.length:=by
   have:(zig m fr.2).length=2:=rfl;rw [this,hlen2] at hl3;omega
  apply List.ext_getElem?
  intro i
  by_cases hi:i=ni
  ·subst hi
   rw [List.getElem?_set_self hnl];exact hsame 1 _ rfl
  ·rw [List.getElem?_set_ne (fun h=>hi h.symm)]
   by_cases hi2:i=mi
   ·subst hi2
    have h5:=hsame 0 _ rfl;rw [ycd] at h5;exact h5.trans hmi.symm
   ·rcases Nat.lt_or_ge i H.length with hlt|hge
    ·refine hother i hlt (fun b hb h=>?_)
     rw [hlen2] at hb;rcases (show b=0\/b=1 by omega) with rfl|rfl
     ·exact hi2 h.symm
     ·exact hi h.symm
    ·rw [List.getElem?_eq_none (by omega),List.getElem?_eq_none hge]
theorem zzu (c:Codex) (hcs:c.facts.length<=1000000) (m:List (Int × Int)) (hm:∀k v,zu k m=some v->0<=v/\v<c.lines.length) (e:Ex) (depth cnt:Int) (h0:0<=depth) (h1:depth<=41) (h2:0<=cnt) (h3:cnt<=400) {H:List SObj} {mi ni:Nat} (hne:mi≠ni)
  (hmi:H[mi]?=some (.mapI .i64 (qq sI m))) (hni:H[ni]?=some (.cells [sI cnt])):
  SPre Tryz.prog G 103 [c.sv,.map mi,e.sv,sI depth,.ptr ni 0] H (fun r H'=>r=sB (qd c m e depth cnt).1/\H'=H.set ni (.cells [sI (qd c m e depth cnt).2])):=by
 intro X;have hnl:=lt_of_getElem? hni;refine (zru G c hcs m hm e depth cnt h0 h1 h2 h3 hne (H:=H++X) (by rw [List.getElem?_append_left (lt_of_getElem? hmi)];exact hmi) (by rw [List.getElem?_append_left hnl];exact hni)).mono ?_;rintro r H' ⟨rfl,rfl⟩;exact ⟨_,⟨rfl,rfl⟩,by simp,by rw [List.set_append_left _ _ hnl]⟩
theorem ztt (c:Codex) (hfit:Codex.fit c) (hcs:c.facts.length<=1000000) (hls:c.lines.length<=1000000) (has:c.arts.length<=1000000):zq Tryz.prog G 63 [c.sv] (sB (zcs c)):=by
 have hlf:(c.facts.map Decl.cells).length=c.facts.length:=by simp
 have hll:(c.lines.map Decl.cells).length=c.lines.length:=by simp
 have hla:(c.arts.map Article.cells).length=c.arts.length:=by simp
 have hd1:=zjb G c.facts 0 0 (by omega);have hd2:=zjb G c.lines 1 4 (by omega);have hok0:zcs c=((jo 0 0 c.facts&&decide (c.facts.length<=32))&&(jo 1 4 c.lines&&decide (c.lines.length<=32))&&decide (c.arts.length<=60)&&(match qj c.lines.length c.arts [] with|some m=>c.arts.all (zqb c m)|none=>false)):=by
  unfold zcs;cases jo 0 0 c.facts<;>cases jo 1 4 c.lines<;>cases decide (c.facts.length<=32)<;>cases decide (c.lines.length<=32)<;>cases decide (c.arts.length<=60)<;>rfl
 generalize zcs c=ok at hok0;generalize (jo 0 0 c.facts&&decide (c.facts.length<=32))=b1 at hd1 hok0;generalize (jo 1 4 c.lines&&decide (c.lines.length<=32))=b2 at hd2 hok0;rw [show c.sv= .agg [.imm (zr c.facts),.imm (zr c.lines),.imm (xq c.arts)] from rfl];refine zg Tryz.func63 rfl (by rw [Tryz.ntmps63];simp) rfl rfl ?_;intro E hH hK;(refine ze ?_;conv=>whnf);refine zd rfl  hd1 ?_;cases b1 with
 |false=>
  (refine zc ?_;conv=>whnf);exact kB hK (by rw [hok0];rfl)
 |true=>
 (refine zc ?_;conv=>whnf);refine zd rfl  hd2 ?_;cases b2 with
 |false=>
  (refine zc ?_;conv=>whnf);exact kB hK (by rw [hok0];rfl)
 |true=>
 (refine zc ?_;conv=>whnf)
 repeat' ((with_reducible refine way ?_ ?_)<;>(intro h;conv=>whnf))
 ·exact kB hK (by rw [hok0,decide_eq_false (show ¬c.arts.length<=60 by omega)];rfl)
 have hok:ok=(match qj c.lines.length c.arts [] with|some m=>c.arts.all (zqb c m)|none=>false):=by
  rw [hok0,decide_eq_true (show c.arts.length<=60 by omega)];rfl
 clear hok0 hd1 hd2;refine zh [1,3,36,37,38] ?_;change SW E _ [(1,.ptr 0 0),(3,.map 1),(36,.imm (xq c.arts)),(37,sI ((c.arts.map Article.cells).length:Nat)),(38,sI (0:Nat))] [.cells [.imm (zr c.facts),.imm (zr c.lines),.imm (xq c.arts)],.mapI .i64 (qq sI [])];rw [hla];refine zo c.arts (fun i (_:List (Int × Int))=>[(1,.ptr 0 0),(3,.map 1),(36,.imm (xq c.arts)),(37,sI (c.arts.length:Nat)),(38,sI (i:Nat))])
  (fun _ m=>[.cells [.imm (zr c.facts),.imm (zr c.lines),.imm (xq c.arts)],.mapI .i64 (qq sI m)])
  (fun _ rest m=>qj c.lines.length c.arts []=qj c.lines.length rest m) [] rfl ?_ ?_
 ·rintro m h1
  simp only [qj] at h1;rw [h1] at hok;simp only at hok;obtain ⟨hm,hlines⟩:=ziy _ _ _ _ h1 (by intro k v h;simp [zu] at h);(refine ze ?_;conv=>whnf)
  repeat' ((with_reducible refine way ?_ ?_)<;>(intro h;conv=>whnf))
  all_goals try (exfalso;omega)
  refine zh [1,3,84,85,86] ?_;change SW E _ [(1,.ptr 0 0),(3,.map 1),(84,.imm (xq c.arts)),(85,sI ((c.arts.map Article.cells).length:Nat)),(86,sI (0:Nat))] [.cells [.imm (zr c.facts),.imm (zr c.lines),.imm (xq c.arts)],.mapI .i64 (qq sI m)];rw [hla];refine zo c.arts (fun i (_:Unit)=>[(1,.ptr 0 0),(3,.map 1),(84,.imm (xq c.arts)),(85,sI (c.arts.length:Nat)),(86,sI (i:Nat))])
   (fun _ _=>[.cells [.imm (zr c.facts),.imm (zr c.lines),.imm (xq c.arts)],.mapI .i64 (qq sI m)]) (fun done rest _=>ok=rest.all (zqb c m)) () hok ?_ ?_
  ·rintro _ h2
   (refine ze ?_;conv=>whnf)
   repeat' ((with_reducible refine way ?_ ?_)<;>(intro h;conv=>whnf))
   all_goals try (exfalso;omega)
   exact kB hK (by rw [h2];rfl)
  ·rintro done a rest _ ha hl h2 ih
   have hmem:a∈c.arts:=by rw [ha];simp
   have hw:=zk (n:=done.length) (by omega);obtain ⟨hun,hwh⟩:=hfit a hmem;have hline:=hlines a hmem;have hwl:(a.when_.map Ex.cells).length=a.when_.length:=by simp
   have hul:(a.unless_.map fun n=>[dI n]).length=a.unless_.length:=by simp
   obtain ⟨d,hd⟩:∃d,c.lines[a.line.toNat]?=some d:=⟨c.lines[a.line.toNat]'(by omega),List.getElem?_eq_getElem _⟩;have hlu:zsz c a.line=d.unit:=by simp only [zsz,hd]
   have hdr:(c.lines.map Decl.cells)[a.line.toNat]?=some d.cells:=by rw [List.getElem?_map,hd];rfl
   have bad:zqb c m a=false->ok=false:=fun h=>by rw [h2,List.all_cons,h];rfl
   have good:zqb c m a=true->ok=rest.all (zqb c m):=fun h=>by rw [h2,List.all_cons,h];rfl
   have hart:zqb c m a=(zfy a&&a.unless_.all (fun n=>(zu n m).isSome)&&a.when_.all (fun e=>(jd c m e tT).1)&&(jd c m a.amount d.unit).1):=by
    rw [<-hlu];rfl
   have hamt:∀{H:List SObj} {mi ni:Nat},mi≠ni->H[mi]?=some (.mapI .i64 (qq sI m))->H[ni]?=some (.cells [sI 0])->_:=fun {H mi ni} q1 q2 q3=>zzu G c hcs m hm a.amount 1 0 (by omega) (by omega) (by omega) (by omega) (H:=H) (mi:=mi) (ni:=ni) q1 q2 q3
   have hday:=zes G a.known
   have bad1:¬(0<=a.rank/\a.rank<=1000000/\0<=a.lo/\a.lo<a.hi/\a.hi<=36525/\zit a.known=true)->ok=false:=fun h=>bad (by
    rw [hart];have:zfy a=false:=by
     cases hb:zfy a with
     |false=>rfl
     |true=>
      unfold zfy at hb;simp only [Bool.and_eq_true,decide_eq_true_eq] at hb;exact absurd ⟨by omega,by omega,by omega,by omega,by omega,by unfold zit;simp;omega⟩ h
    rw [this];rfl)
   have good1:0<=a.rank/\a.rank<=1000000/\0<=a.lo/\a.lo<a.hi/\a.hi<=36525/\zit a.known=true->zfy a=true:=fun h=>by
    unfold zfy;have h5:=h.2.2.2.2.2;unfold zit at h5;simp only [decide_eq_true_eq] at h5;simp only [Bool.and_eq_true,decide_eq_true_eq];omega
   obtain ⟨op,n,u,den,ps,ks,ham⟩:∃op n u den ps ks,a.amount= .mk op n u den ps ks:=by cases h:a.amount;exact ⟨_,_,_,_,_,_,rfl⟩
   have hrow:(c.arts.map Article.cells)[done.length]?=some [dI a.number,dI a.line,dI a.rank,dI a.lo,dI a.hi,dI a.known,qh a.when_,yb a.unless_,dI op,dI n,dS u,dI den,.isl 3 (ps.map Piece.cells),.isl 6 (zm ks)]:=by
    simp [ha,Article.cells,ham,xi,Ex.op,Ex.n,Ex.unit,Ex.den,Ex.pieces,Ex.kids]
   rw [ham] at hamt hart;(refine ze ?_;conv=>whnf)
   repeat' ((with_reducible refine way ?_ ?_)<;>(intro h;conv=>whnf))
   all_goals try (exfalso;omega)
   refine zi (i:=done.length) (row:=[dI a.number,dI a.line,dI a.rank,dI a.lo,dI a.hi,dI a.known,qh a.when_,yb a.unless_,dI op,dI n,dS u,dI den,.isl 3 (ps.map Piece.cells),.isl 6 (zm ks)]) rfl rfl hrow ?_;(refine zc ?_;conv=>whnf)
   repeat' ((with_reducible refine way ?_ ?_)<;>(intro h;conv=>whnf))
   all_goals try exact kB hK (bad1 (by omega))
   refine zd rfl  hday ?_;cases hdk:zit a.known with
   |false=>
    (refine zc ?_;conv=>whnf);exact kB hK (bad1 (fun h=>by rw [hdk] at h;exact Bool.noConfusion h.2.2.2.2.2))
   |true=>
   have good1:=good1 ⟨by omega,by omega,by omega,by omega,by omega,hdk⟩;rw [good1,Bool.true_and] at hart;clear bad1;(refine zc ?_;conv=>whnf);refine zh [1,3,9,84,85,86,122,123,124] ?_;change SW E _ [(1,.ptr 0 0),(3,.map 1),(9,.ptr 2 0),(84,.imm (xq c.arts)),(85,sI (c.arts.length:Nat)),(86,sI (done.length:Nat)),(122,.imm (yb a.unless_)),(123,sI ((a.unless_.map fun n=>[dI n]).length:Nat)),(124,sI (0:Nat))]
    [.cells [.imm (zr c.facts),.imm (zr c.lines),.imm (xq c.arts)],.mapI .i64 (qq sI m),.cells (zta a op n u den ps ks)]
   rw [hul];refine zo a.unless_ (fun i (_:Unit)=>[(1,.ptr 0 0),(3,.map 1),(9,.ptr 2 0),(84,.imm (xq c.arts)),(85,sI (c.arts.length:Nat)),(86,sI (done.length:Nat)),(122,.imm (yb a.unless_)),(123,sI (a.unless_.length:Nat)),(124,sI (i:Nat))])
    (fun _ _=>[.cells [.imm (zr c.facts),.imm (zr c.lines),.imm (xq c.arts)],.mapI .i64 (qq sI m),.cells (zta a op n u den ps ks)])
    (fun dj _ _=>dj.all (fun n=>(zu n m).isSome)=true) () rfl ?_ ?_
   ·rintro _ hu1
    rw [hu1,Bool.true_and] at hart;(refine ze ?_;conv=>whnf)
    repeat' ((with_reducible refine way ?_ ?_)<;>(intro h;conv=>whnf))
    all_goals try (exfalso;omega)
    refine zh [1,3,9,84,85,86,138,139,140] ?_;change SW E _ [(1,.ptr 0 0),(3,.map 1),(9,.ptr 2 0),(84,.imm (xq c.arts)),(85,sI (c.arts.length:Nat)),(86,sI (done.length:Nat)),(138,.imm (qh a.when_)),(139,sI ((a.when_.map Ex.cells).length:Nat)),(140,sI (0:Nat))]
     [.cells [.imm (zr c.facts),.imm (zr c.lines),.imm (xq c.arts)],.mapI .i64 (qq sI m),.cells (zta a op n u den ps ks)]
    rw [hwl];refine zo a.when_ (fun i (_:Unit)=>[(1,.ptr 0 0),(3,.map 1),(9,.ptr 2 0),(84,.imm (xq c.arts)),(85,sI (c.arts.length:Nat)),(86,sI (done.length:Nat)),(138,.imm (qh a.when_)),(139,sI (a.when_.length:Nat)),(140,sI (i:Nat))])
     (fun _ _=>[.cells [.imm (zr c.facts),.imm (zr c.lines),.imm (xq c.arts)],.mapI .i64 (qq sI m),.cells (zta a op n u den ps ks)])
     (fun dj _ _=>dj.all (fun e=>(jd c m e tT).1)=true) () rfl ?_ ?_
    ·rintro _ hw1
     rw [hw1,Bool.true_and] at hart;(refine ze ?_;conv=>whnf)
     repeat' ((with_reducible refine way ?_ ?_)<;>(intro h;conv=>whnf))
     all_goals try (exfalso;omega)
     (refine xz 0 mixed rfl ?_;refine zn [777] (nx:=4) ?_;conv=>whnf);refine wv rfl (by exact (by decide:4<=4)) (i:=a.line.toNat) (by omega) (row:=d.cells) hdr ?_;(refine zn [777,173] (nx:=4) ?_;conv=>whnf);have hwr:(jd c m (.mk op n u den ps ks) d.unit).1=if u=d.unit then (qd c m (.mk op n u den ps ks) 1 0).1 else false:=by
      unfold jd;show (if u=d.unit then _ else _:Bool × Int).1=_;split<;>rfl
     rw [hwr] at hart
     repeat' ((with_reducible refine way ?_ ?_)<;>(intro h;conv=>whnf))
     ·rw [if_pos h] at hart
      refine yoe 4 (r:=sB (qd c m (.mk op n u den ps ks) 1 0).1) (wr:=some (3,.cells [sI (qd c m (.mk op n u den ps ks) 1 0).2])) rfl rfl rfl rfl rfl rfl (by exact (by decide:4<=4)) (by exact (by decide:4<=4)) (by rintro b ob h;cases h;exact (by decide:3<4)) ((hamt (mi:=1) (ni:=3) (by decide) rfl rfl).mono ?_) ?_
      ·rintro r H1 ⟨rfl,rfl⟩;exact ⟨rfl,rfl⟩
      rw [<-hart];cases hao:zqb c m a with
      |true=>
       (refine zn [777,173] (nx:=4) ?_;conv=>whnf);refine ji ⟨sB false,[],none⟩ rfl rfl (by exact (by decide:4<=4)) (fun _ _ _=>rfl) ?_;refine qs (by kernel_rfl) ?_;(refine ze ?_;conv=>whnf);rw [hw];have hu2:([.cells [.imm (zr c.facts),.imm (zr c.lines),.imm (xq c.arts)],.mapI .i64 (qq sI m)]:List SObj).all (SObj.under 2)=true:=by simp [zfw];rfl
       exact ys [1,3,84,85,86] 2 (by simp [hH]) (by exact (by decide:2<=4)) rfl hu2 (ih () (good hao))
      |false=>
       (refine zn [777,173] (nx:=4) ?_;conv=>whnf);refine ji ⟨sB true,[],none⟩ rfl rfl (by exact (by decide:4<=4)) (fun _ _ _=>rfl) ?_;refine qs (by kernel_rfl) ?_;(refine ze ?_;conv=>whnf);exact kB hK (bad hao)
     ·rw [if_neg h] at hart
      refine ji ⟨sB true,[],none⟩ rfl rfl (by exact (by decide:4<=4)) (fun _ _ _=>rfl) ?_;refine qs (by kernel_rfl) ?_;(refine ze ?_;conv=>whnf);exact kB hK (bad hart)
    ·rintro dj e rj _ hdj hdjl hw1 ih2
     have hwj:=zk (n:=dj.length) (by omega);have hcall:∀{H:List SObj} {mi ni:Nat},mi≠ni->H[mi]?=some (.mapI .i64 (qq sI m))->H[ni]?=some (.cells [sI 0])->_:=fun {H mi ni} q1 q2 q3=>zru G c hcs m hm e 1 0 (by omega) (by omega) (by omega) (by omega) (H:=H) (mi:=mi) (ni:=ni) q1 q2 q3
     have bad2:(jd c m e tT).1=false->ok=false:=fun h=>bad (by rw [hart,hdj,List.all_append,List.all_cons,h,Bool.false_and,Bool.and_false,Bool.false_and])
     have hrx:(a.when_.map Ex.cells)[dj.length]?=some e.cells:=by rw [hdj];simp
     have hwr:(jd c m e tT).1=if e.unit=tT then (qd c m e 1 0).1 else false:=by unfold jd;split<;>rfl
     have ih2:(jd c m e tT).1=true->_:=fun h=>ih2 () (by rw [List.all_append,hw1,List.all_cons,h];rfl)
     generalize (jd c m e tT).1=wb at bad2 hwr ih2;obtain ⟨o1,n1,u1,d1,p1,q1⟩:=e;(refine ze ?_;conv=>whnf)
     repeat' ((with_reducible refine way ?_ ?_)<;>(intro h;conv=>whnf))
     all_goals try (exfalso;omega)
     refine zi (i:=dj.length) (row:=(Ex.mk o1 n1 u1 d1 p1 q1).cells) rfl rfl hrx ?_;(refine zc ?_;conv=>whnf)
     repeat' ((with_reducible refine way ?_ ?_)<;>(intro h;conv=>whnf))
     ·refine ye rfl rfl rfl rfl rfl rfl ((hcall (mi:=1) (ni:=4) (by decide) rfl rfl).mono ?_)
      rintro r H' ⟨rfl,rfl⟩;refine ⟨by rw [List.length_set];exact Nat.le_refl _,?_⟩;rw [if_pos (show (Ex.mk o1 n1 u1 d1 p1 q1).unit=tT from h)] at hwr;rw [<-hwr];cases wb with
      |false=>
       (refine zc ?_;conv=>whnf);exact kB hK (bad2 rfl)
      |true=>
       (refine zc ?_;conv=>whnf);rw [hwj];exact ys [1,3,9,84,85,86,138,139,140] 3 (by simp [hH]) (by simp) rfl (by simp [zfw];exact ⟨rfl,rfl⟩) (ih2 rfl)
     ·rw [if_neg (fun h':(Ex.mk o1 n1 u1 d1 p1 q1).unit=tT=>h h')] at hwr
      exact kB hK (bad2 hwr)
   ·rintro dj x rj _ hdj hdjl hu1 ih2
    have hwj:=zk (n:=dj.length) (by omega);have bad2:(zu x m).isSome=false->ok=false:=fun h=>bad (by rw [hart,hdj,List.all_append,List.all_cons,h,Bool.false_and,Bool.and_false,Bool.false_and,Bool.false_and])
    have hrx:(a.unless_.map fun n=>[dI n])[dj.length]?=some [dI x]:=by rw [hdj];simp
    (refine ze ?_;conv=>whnf)
    repeat' ((with_reducible refine way ?_ ?_)<;>(intro h;conv=>whnf))
    all_goals try (exfalso;omega)
    refine zi (i:=dj.length) (row:=[dI x]) rfl rfl hrx ?_;(refine zc ?_;conv=>whnf);cases hlk:zu x m with
    |none=>
     refine zai sI rfl rfl rfl rfl rfl rfl rfl rfl rfl (v:=sI 0) (p:=false) (by rw [hlk];rfl) (by rw [hlk];rfl) ?_;(refine zc ?_;conv=>whnf);exact kB hK (bad2 (by rw [hlk];rfl))
    |some v=>
     refine zai sI rfl rfl rfl rfl rfl rfl rfl rfl rfl (v:=sI v) (p:=true) (by rw [hlk];rfl) (by rw [hlk];rfl) ?_;(refine zc ?_;conv=>whnf);rw [hwj];exact zh [1,3,9,84,85,86,122,123,124] (ih2 () (by rw [List.all_append,hu1,List.all_cons,hlk];rfl))
 ·rintro done a rest m ha hl h1 ih
  have hw:=zk (n:=done.length) (by omega);obtain ⟨op,n,u,den,ps,ks,ham⟩:∃op n u den ps ks,a.amount= .mk op n u den ps ks:=by cases h:a.amount;exact ⟨_,_,_,_,_,_,rfl⟩
  have hrow:(c.arts.map Article.cells)[done.length]?=some [dI a.number,dI a.line,dI a.rank,dI a.lo,dI a.hi,dI a.known,qh a.when_,yb a.unless_,dI op,dI n,dS u,dI den,.isl 3 (ps.map Piece.cells),.isl 6 (zm ks)]:=by
   simp [ha,Article.cells,ham,xi,Ex.op,Ex.n,Ex.unit,Ex.den,Ex.pieces,Ex.kids]
  simp only [qj] at h1;have bad:qj c.lines.length c.arts []=none->ok=false:=fun h=>by rw [hok,h]
  (refine ze ?_;conv=>whnf)
  repeat' ((with_reducible refine way ?_ ?_)<;>(intro h;conv=>whnf))
  all_goals try (exfalso;omega)
  refine zi (i:=done.length) (row:=[dI a.number,dI a.line,dI a.rank,dI a.lo,dI a.hi,dI a.known,qh a.when_,yb a.unless_,dI op,dI n,dS u,dI den,.isl 3 (ps.map Piece.cells),.isl 6 (zm ks)]) rfl rfl hrow ?_;(refine zc ?_;conv=>whnf)
  repeat' ((with_reducible refine way ?_ ?_)<;>(intro h;conv=>whnf))
  all_goals try exact kB hK (bad (by rw [h1,if_neg (by omega)]))
  rw [if_pos (by omega)] at h1;cases hlk:zu a.number m with
  |none=>
   rw [hlk] at h1;refine zai sI rfl rfl rfl rfl rfl rfl rfl rfl rfl (v:=sI 0) (p:=false) (by rw [hlk];rfl) (by rw [hlk];rfl) ?_;(refine zc ?_;conv=>whnf);refine zda sI a.line rfl rfl rfl rfl rfl rfl rfl rfl rfl ?_;(refine zc ?_;conv=>whnf);rw [hw];exact ys [1,3,36,37,38] 2 (by simp [hH]) (by simp) rfl (by simp [zfw];rfl) (ih _ h1)
  |some l=>
   rw [hlk] at h1;refine zai sI rfl rfl rfl rfl rfl rfl rfl rfl rfl (v:=sI l) (p:=true) (by rw [hlk];rfl) (by rw [hlk];rfl) ?_;(refine zc ?_;conv=>whnf)
   repeat' ((with_reducible refine way ?_ ?_)<;>(intro h;conv=>whnf))
   ·exact kB hK (bad (by rw [h1];simp only;rw [if_neg h]))
   ·simp only at h1
    rw [if_pos (by omega)] at h1;refine zda sI a.line rfl rfl rfl rfl rfl rfl rfl rfl rfl ?_;(refine zc ?_;conv=>whnf);rw [hw];exact ys [1,3,36,37,38] 2 (by simp [hH]) (by simp) rfl (by simp [zfw];rfl) (ih _ h1)
def zxd (prev:Option Int) (p:Fact):Bool:=
 match prev with
 |none=>true
 |some k=>decide (k<=p.known)
theorem zxe (prev:Option Int) (p:Fact) (r:List Fact):zbx prev (p::r)=(zqv p&&zxd prev p&&zbx (some p.known) r):=by
 cases prev with
 |none=>rw [zbx,zxd,Bool.and_true]
 |some k=>rw [zbx,zxd]
theorem ztu (l:List Fact) (hl:l.length<=1000000000):zq Tryz.prog G 64 [.imm (qi l)] (sB (zhv l)):=by
 have hlen:(l.map Fact.cells).length=l.length:=by simp
 have hok:zhv l=(decide (l.length<=400)&&zbx none l):=rfl;generalize zhv l=ok at hok;refine zg Tryz.func64 rfl (by rw [Tryz.ntmps64];simp) rfl rfl ?_;intro E hH hK;(refine ze ?_;conv=>whnf)
 repeat' ((with_reducible refine way ?_ ?_)<;>(intro h;conv=>whnf))
 ·exact kB hK (by rw [hok,decide_eq_false (by omega)];rfl)
 rw [decide_eq_true (by omega),Bool.true_and] at hok;refine zh [0,8,9,10] ?_;change SW E _ [(0,.imm (qi l)),(8,.imm (qi l)),(9,sI ((l.map Fact.cells).length:Nat)),(10,sI (0:Nat))] [];rw [hlen];refine zo l (fun i (_:Unit)=>[(0,.imm (qi l)),(8,.imm (qi l)),(9,sI (l.length:Nat)),(10,sI (i:Nat))]) (fun _ _=>[]) (fun done rest _=>zbx none l=zbx (zaw done) rest) () rfl ?_ ?_
 ·rintro _ hv
  (refine ze ?_;conv=>whnf)
  repeat' ((with_reducible refine way ?_ ?_)<;>(intro h;conv=>whnf))
  all_goals try (exfalso;omega)
  exact kB hK (by rw [hok,hv];rfl)
 ·rintro done p rest _ hda hdl hv ih
  have hw:=zk (n:=done.length) (by omega);have hp:(l.map Fact.cells)[done.length]?=some p.cells:=by rw [hda];simp
  have hn1:=zdd G p.person;have hn2:=zdd G p.name;have hday:=zes G p.known;rw [zxe] at hv;have bad:(zqv p&&zxd (zaw done) p)=false->ok=false:=fun h=>by rw [hok,hv,h];rfl
  have good:(zqv p&&zxd (zaw done) p)=true->zbx none l=zbx (zaw (done++[p])) rest:=fun h=>by rw [hv,h,zhf];rfl
  have hform:zqv p=(ww p.person&&ww p.name&&decide (0<=p.lo/\p.lo<p.hi/\p.hi<=36525/\0<=p.known/\p.known<=36524/\ -1000000000000<=p.value/\p.value<=1000000000000)&&(!p.gone||decide (p.value=0))):=rfl;have hdk:zit p.known=decide (0<=p.known/\p.known<=36524):=rfl;rw [hform] at bad good;generalize ww p.person=b1 at hn1 bad good;generalize ww p.name=b2 at hn2 bad good;generalize zit p.known=b3 at hday hdk;have ih:=fun h=>ih () (good h)
  have hseq:(done=[]/\zxd (zaw done) p=true)\/∃q:Fact,1<=done.length/\(l.map Fact.cells)[done.length-1]?=some q.cells/\zxd (zaw done) p=decide (q.known<=p.known):=by
   rcases zqu done with rfl|⟨init,q,rfl⟩
   ·exact .inl ⟨rfl,rfl⟩
   ·refine .inr ⟨q,by simp,?_,by rw [zhf];rfl⟩
    rw [hda,List.length_append,List.length_cons,List.length_nil,Nat.zero_add,Nat.add_sub_cancel,List.append_assoc];simp
  have w1:IntKind.i64.wrap ((done.length:Int)-1)=((done.length:Int)-1):=zy (by omega) (by omega);generalize zxd (zaw done) p=sq at bad ih hseq;(refine ze ?_;conv=>whnf)
  repeat' ((with_reducible refine way ?_ ?_)<;>(intro h;conv=>whnf))
  all_goals try (exfalso;omega)
  refine zi (i:=done.length) (row:=p.cells) rfl rfl hp ?_;(refine zc ?_;conv=>whnf);refine ya mixed rfl ?_;(refine zf [] ?_;conv=>whnf);refine yg rfl  hn1 ?_;cases b1 with
  |false=>
   (refine zf [] ?_;conv=>whnf);(refine ze ?_;conv=>whnf);exact kB hK (bad rfl)
  |true=>
  (refine zf [] ?_;conv=>whnf);refine yg rfl  hn2 ?_;cases b2 with
  |false=>
   (refine zf [] ?_;conv=>whnf);(refine ze ?_;conv=>whnf);exact kB hK (bad rfl)
  |true=>
  (refine zf [] ?_;conv=>whnf);refine yg rfl  hday ?_;cases b3 with
  |false=>
   have hdk:=of_decide_eq_false hdk.symm;(refine zf [] ?_;conv=>whnf);(refine ze ?_;conv=>whnf);exact kB hK (bad (by rw [decide_eq_false (by omega)];rfl))
  |true=>
  have hdk:=of_decide_eq_true hdk.symm;(refine zf [] ?_;conv=>whnf)
  repeat' ((with_reducible refine way ?_ ?_)<;>(intro h;conv=>whnf))
  ·rcases hseq with ⟨h0,_⟩|⟨q,hq1,hq2,hq3⟩
   ·rw [h0] at h
    exact absurd h (by decide)
   rw [w1];refine yx (i:=done.length-1) (row:=q.cells) rfl (by omega) hq2 ?_;(refine zf [] ?_;conv=>whnf);(refine ze ?_;conv=>whnf)
   repeat' ((with_reducible refine way ?_ ?_)<;>(intro h;conv=>whnf))
   all_goals try exact kB hK (bad (by rw [hq3,decide_eq_false (show ¬q.known<=p.known by omega),Bool.and_false]))
   all_goals try exact kB hK (bad (by rw [decide_eq_false (by omega)];rfl))
   all_goals try exact kB hK (bad (by rw [‹p.gone=true›,decide_eq_false ‹¬p.value=0›];simp))
   all_goals
    rw [hw];refine ys [0,8,9,10] 0 (by simp [hH]) (Nat.zero_le _) rfl rfl (ih ?_);rw [hq3,decide_eq_true (show q.known<=p.known by omega),decide_eq_true (show 0<=p.lo/\p.lo<p.hi/\p.hi<=36525/\0<=p.known/\p.known<=36524/\ -1000000000000<=p.value/\p.value<=1000000000000 by omega)]
    first|(rw [‹p.gone=false›];rfl)|(rw [decide_eq_true ‹p.value=0›];simp)
  ·rcases hseq with ⟨h0,hq3⟩|⟨q,hq1,hq2,hq3⟩
   case inr=>exact absurd (show (0:Int)<(done.length:Int) by omega) h
   (refine ze ?_;conv=>whnf)
   repeat' ((with_reducible refine way ?_ ?_)<;>(intro h;conv=>whnf))
   all_goals try exact kB hK (bad (by rw [decide_eq_false (by omega)];rfl))
   all_goals try exact kB hK (bad (by rw [‹p.gone=true›,decide_eq_false ‹¬p.value=0›];simp))
   all_goals
    rw [hw];refine ys [0,8,9,10] 0 (by simp [hH]) (Nat.zero_le _) rfl rfl (ih ?_);rw [hq3,decide_eq_true (show 0<=p.lo/\p.lo<p.hi/\p.hi<=36525/\0<=p.known/\p.known<=36524/\ -1000000000000<=p.value/\p.value<=1000000000000 by omega)]
    first|(rw [‹p.gone=false›];rfl)|(rw [decide_eq_true ‹p.value=0›];simp)
variable {G:List (Nat × D)}
theorem zxf (c:Codex) (m:List (Int × Int)) (N:Nat):(∀e:Ex,SizeOf.sizeOf e<N->zvj c m e->zax e<=1000000->zkh e)/\(∀ks:List Ex,SizeOf.sizeOf ks<N->ztb c m ks->zby ks<=1000000->zee ks):=by
 induction N with
 |zero=>exact ⟨fun e h=>by omega,fun e h=>by omega⟩
 |succ N ih=>
  refine ⟨fun e he h hs=>?_,fun ks hk h hs=>?_⟩
  ·obtain ⟨op,n,u,den,ps,ks⟩:=e
   simp only [Ex.mk.sizeOf_spec] at he;unfold zvj at h;unfold zax at hs;have:=yow h.1;have h2:=zhx ks;unfold zkh;exact ⟨by omega,by omega,ih.2 ks (by omega) h.2 (by omega)⟩
  ·cases ks with
   |nil=>unfold zee;trivial
   |cons k r=>
    simp only [List.cons.sizeOf_spec] at hk;unfold ztb at h;unfold zby at hs;unfold zee;exact ⟨ih.1 k (by omega) h.1 (by omega),ih.2 r (by omega) h.2 (by omega)⟩
theorem zxg:∀{ks:List Ex},(∀k∈ks,zkh k)->zee ks
 |[],_=>by unfold zee;trivial
 |k::r,h=>by unfold zee;exact ⟨h k (by simp),zxg fun x hx=>h x (by simp [hx])⟩
theorem ypx {c:Codex} (h:zcs c=true) (hfew:∀a∈c.arts,a.when_.length<=1000000/\a.unless_.length<=1000000):∃m,MFit c m:=by
 obtain ⟨_,h2,m,_,h4⟩:=ziz h;refine ⟨m,by omega,fun a ha=>⟨(hfew a ha).1,zxg fun e he=>?_,(hfew a ha).2,?_⟩,fun a ha=>?_,fun a ha w hw=>?_⟩
 ·have:=(h4 a ha).2.2.1 e he
  exact (zxf c m _).1 e (Nat.lt_succ_self _) this.1 (by omega)
 ·have:=(h4 a ha).2.2.2
  exact (zxf c m _).1 a.amount (Nat.lt_succ_self _) this.1 (by omega)
 ·have:=(h4 a ha).2.2.2
  exact ⟨this.1,by omega⟩
 ·have:=(h4 a ha).2.2.1 w hw
  exact ⟨this.1,by omega⟩
theorem ypy {c:Codex} (hf:c.facts.length<=1000000) (l:List Fact) (person:ByteArray) {day:Int} (known:Int) (hd:0<=day/\day<=36524):AFit c (zay c l person day known):=
 ⟨hf,by simp [zay],by simp [zay],by simp [zay],hd⟩
theorem zzv {c:Codex} {s:List Int × List Int} {i:Int} (h:∀v∈s.2,0<=v/\v<c.arts.length) (hi:0<=i/\i<c.arts.length):∀v∈(zdm s i).2,0<=v/\v<c.arts.length:=by
 intro v hv;unfold zdm at hv;simp only at hv;split at hv
 ·rcases List.mem_append.1 hv with hv|hv
  ·exact h v hv
  ·rw [List.mem_singleton] at hv
   subst hv;exact hi
 ·exact h v hv
theorem zpo {c:Codex}:∀(l:List Int) {s:List Int × List Int},(∀v∈s.2,0<=v/\v<c.arts.length)->(∀i∈l,0<=i/\i<c.arts.length)->∀v∈(l.foldl zdm s).2,0<=v/\v<c.arts.length
 |[],_,h,_=>h
 |i::l,_,h,hl=>zpo l (zzv h (hl i (by simp))) (fun j hj=>hl j (by simp [hj]))
theorem zpp {c:Codex}:∀(f next:Nat) {s:List Int × List Int},(∀v∈s.2,0<=v/\v<c.arts.length)->∀v∈(zae c f next s).2,0<=v/\v<c.arts.length
 |0,_,_,h=>h
 |f+1,next,s,h=>by
  rw [zae];split
  ·exact h
  ·exact zpp f (next+1) (zpo _ h (fun i hi=>ybi hi))
theorem ymu (c:Codex):∀v∈ydy c,0<=v/\v<c.arts.length:=zpp _ _ (zqz c).mem
theorem yce {k v:Int}:∀{m:List (Int × Int)} {p:Int × Int},p∈zcc k v m->p=(k,v)\/p∈m
 |[],p,h=>by simp [zcc] at h;exact .inl h
 |q::r,p,h=>by
  obtain ⟨a,b⟩:=q;rw [zcc] at h;split at h
  ·rcases List.mem_cons.1 h with h|h
   ·exact .inl h
   ·exact .inr (by simp [h])
  ·rcases List.mem_cons.1 h with h|h
   ·exact .inr (by simp [h])
   ·rcases yce h with h|h
    ·exact .inl h
    ·exact .inr (by simp [h])
theorem zxh {c:Codex} {day known:Int} {m:List (Int × Int)} {x:Article × Nat} {n:Nat} (h:∀p∈m,0<=p.2/\p.2<n) (hx:x.2<n):∀p∈jx c day known m x,0<=p.2/\p.2<n:=by
 have h2:∀p∈zcc x.1.number (x.2:Int) m,0<=p.2/\p.2<n:=fun p hp=>by
  rcases yce hp with rfl|hp
  ·simp only
   omega
  ·exact h p hp
 intro p hp;unfold jx at hp;split at hp
 ·exact h p hp
 ·split at hp
  ·exact h2 p hp
  ·split at hp
   ·split at hp
    ·exact h2 p hp
    ·exact h p hp
   ·exact h p hp
theorem zlk {c:Codex} {day known:Int} {n:Nat}:∀(l:List (Article × Nat)) {m:List (Int × Int)},(∀p∈m,0<=p.2/\p.2<n)->(∀x∈l,x.2<n)->(∀p∈l.foldl (jx c day known) m,0<=p.2/\p.2<n)/\(l.foldl (jx c day known) m).length<=m.length+l.length
 |[],_,h,_=>⟨h,Nat.le_refl _⟩
 |x::l,m,h,hl=>by
  have:=zlk (c:=c) (day:=day) (known:=known) l (zxh (c:=c) (day:=day) (known:=known) h (hl x (by simp))) (fun y hy=>hl y (by simp [hy]));have h2:=ybs c day known m x;rw [List.foldl_cons,List.length_cons];exact ⟨this.1,by omega⟩
theorem ypz (c:Codex) (day known:Int):(∀o∈inA c day known,0<=o/\o<c.arts.length)/\(inA c day known).length<=c.arts.length:=by
 have h:=zlk (c:=c) (day:=day) (known:=known) (n:=c.arts.length) c.arts.zipIdx (m:=[]) (fun p hp=>by cases hp) (fun x hx=>by
  have:=List.snd_lt_of_mem_zipIdx hx
  omega)
 refine ⟨fun o ho=>?_,?_⟩
 ·unfold inA at ho
  rw [List.mem_mergeSort] at ho;obtain ⟨p,hp,rfl⟩:=List.mem_map.1 ho;exact h.1 p hp
 ·unfold inA
  rw [List.length_mergeSort,List.length_map];have:=h.2;rw [List.length_zipIdx,List.length_nil,Nat.zero_add] at this;exact this
theorem yfh (S:AM) (U:List Bool):(zgc S U).length<=U.length:=by
 unfold zgc;refine Nat.le_trans (zok _) ?_;rw [List.length_mergeSort];exact zos S U U.length
theorem yjt (c:Codex) (a:Article):(zhy c a).length=c.facts.length:=by
 unfold zhy;rw [(zef _).2 a.when_ (Nat.lt_succ_self _),(zef _).1 a.amount (Nat.lt_succ_self _),List.length_replicate]
theorem yfi (c:Codex) (inF:List Int) (st:List (Int × Int)) (a:Article):(zja c inF st a).length<=inF.length:=List.length_filter_le _ _
def ycf (c:Codex) (S:AM) (inF:List Int) (q s:Nat):List SV:=[.imm (zr c.facts),.imm (zr c.lines),.imm (xq c.arts),sI S.day,.imm (zak S.has),.imm (yb S.vals),.imm (yb S.nums),.imm (yb inF),.map q,.map s]
theorem zjn (σ:Nat->Nat) (m:List (Int × Int)):(SObj.mapI .i64 (qq sI m)).ren σ= .mapI .i64 (qq sI m):=by
 simp [SObj.ren,qq,SV.ren]
theorem yju {f:FuncId} {arg r0:SV} {c:Codex} {S:AM} {inF:List Int} {st am st' am':List (Int × Int)} (h:SPre Tryz.prog G f [.ptr 0 0,arg] (MH c S inF st am) (fun r H1=>r=r0/\H1=MH c S inF st' am'))
  (harg:∀σ,arg.ren σ=arg) (hau:arg.under 3=true) (hr:∀σ,r0.ren σ=r0) {H:List SObj} {p q s:Nat} (hpq:p≠q) (hps:p≠s) (hqs:q≠s)
  (hp:H[p]?=some (.cells (ycf c S inF q s))) (hq:H[q]?=some (.mapI .i64 (qq sI st))) (hs:H[s]?=some (.mapI .i64 (qq sI am))):
  SCall Tryz.prog G f [.ptr p 0,arg] H (fun r H'=>r=r0/\H'=(H.set q (.mapI .i64 (qq sI st'))).set s (.mapI .i64 (qq sI am'))):=by
 have hpl:=lt_of_getElem? hp;have hql:=lt_of_getElem? hq;have hsl:=lt_of_getElem? hs;have h0:=h [];rw [List.append_nil] at h0;have hlen:(MH c S inF st am).length=3:=rfl;have:=znr (K':=fun r H'=>r=r0/\H'=(H.set q (.mapI .i64 (qq sI st'))).set s (.mapI .i64 (qq sI am'))) h0 (H:=H) (fun i=>if i=0 then p else if i=1 then q else if i=2 then s else H.length+(i-3)) ?_ ?_ ?_ ?_ (qv c S inF st am) ?_
 ·have e1:([.ptr 0 0,arg]:List SV).map (SV.ren (fun i=>if i=0 then p else if i=1 then q else if i=2 then s else H.length+(i-3)))=[.ptr p 0,arg]:=by
   simp only [List.map_cons,List.map_nil,harg];rfl
  rw [e1] at this;exact this
 ·intro b b' hb hb' h
  rw [hlen] at hb hb';rcases (show b=0\/b=1\/b=2 by omega) with rfl|rfl|rfl<;>rcases (show b'=0\/b'=1\/b'=2 by omega) with rfl|rfl|rfl<;>
   first|rfl|(exact absurd h hpq)|(exact absurd h hps)|(exact absurd h hqs)|(exact absurd h.symm hpq)|(exact absurd h.symm hps)|(exact absurd h.symm hqs)
 ·intro i
  simp only [hlen];rw [if_neg (by omega),if_neg (by omega),if_neg (by omega)];omega
 ·intro b o hb
  match b,hb with
  |0,hb=>
   injection hb with hb
   subst hb;exact hp
  |1,hb=>
   injection hb with hb
   subst hb;rw [zjn];exact hq
  |2,hb=>
   injection hb with hb
   subst hb;rw [zjn];exact hs
  |b+3,hb=>simp [MH] at hb
 ·simp only [List.all_cons,List.all_nil,hlen,hau]
  rfl
 ·rintro r H1 H' ⟨H2,⟨rfl,rfl⟩,hl2,rfl⟩ hle hl3 hsame hother
  refine ⟨hr _,?_⟩;rw [List.append_nil] at hl3 hsame hle;have hl4:H'.length=H.length:=by
   have:(MH c S inF st' am').length=3:=rfl;rw [this,hlen] at hl3;omega
  apply List.ext_getElem?
  intro i
  by_cases his:i=s
  ·subst his
   rw [List.getElem?_set_self (by rw [List.length_set];exact hsl)];have:=hsame 2 _ rfl;rw [zjn] at this;exact this
  ·rw [List.getElem?_set_ne (fun h=>his h.symm)]
   by_cases hiq:i=q
   ·subst hiq
    rw [List.getElem?_set_self hql];have:=hsame 1 _ rfl;rw [zjn] at this;exact this
   ·rw [List.getElem?_set_ne (fun h=>hiq h.symm)]
    by_cases hip:i=p
    ·subst hip
     have:=hsame 0 _ rfl;exact this.trans hp.symm
    ·rcases Nat.lt_or_ge i H.length with hlt|hge
     ·refine hother i hlt (fun b hb h=>?_)
      rw [hlen] at hb;rcases (show b=0\/b=1\/b=2 by omega) with rfl|rfl|rfl
      ·exact hip h.symm
      ·exact hiq h.symm
      ·exact his h.symm
     ·rw [List.getElem?_eq_none (by omega),List.getElem?_eq_none hge]
variable (G:List (Nat × D))
def yqi (x:Ln):SV:=.agg (lnC x)
def ztv (c:Codex) (line:Ln) (S:AM) (inF:List Int) (st am:List (Int × Int)):List SObj:=
 [zba c,.cells (lnC line),zba c,.mapI .i64 (qq sI st),.mapI .i64 (qq sI am),.cells (ycf c S inF 3 4),.dead,.dead,.dead]
theorem yjv {c:Codex} {S:AM} {inF:List Int} {s:List (Int × Int) × List (Int × Int)} {line:Ln} (h:∀o∈inF,¬(o=line.art/\(zu o s.1).getD 0=2)):zew c S inF s line=false:=by
 unfold zew;split
 ·rw [if_neg]
  rintro ⟨h1,h2⟩;exact h _ h1 ⟨rfl,h2⟩
 ·rfl
theorem zzw (c : Codex) (hfit : Codex.fit c) (hcs : c.facts.length <= 1000000) (hls : c.lines.length <= 1000000) (has : c.arts.length <= 1000000) (hfew : ∀ a ∈ c.arts, a.when_.length <= 1000000 /\ a.unless_.length <= 1000000)
    (l : List Fact) (hl : l.length <= 1000000) (person : ByteArray) (known : Int) (line : Ln) : zq Tryz.prog G 19 [c.sv, .imm (qi l), sS person, sI known, yqi line] (sB (zca c l person known line)) := by
  have hvc := ztt G c hfit hcs hls has
  have hvf := ztu G l (by omega)
  have hd1 := zes G line.day
  have hd2 := zes G known
  have hrep : zca c l person known line = (zcs c && zhv l && zit line.day && zit known && decide ((ydy c).length = c.arts.length) &&
      zew c (zay c l person line.day known) (inA c line.day known) (yre c (zay c l person line.day known) (inA c line.day known) (ydy c)) line) := by
    unfold zca zit
    simp only [Bool.decide_and]
  rw [hrep]
  clear hrep
  refine zg Tryz.func19 rfl (by rw [Tryz.ntmps19]; simp) rfl rfl ?_; intro E hH hK
  rw [show yqi line = .agg [sI line.day, sI line.line, sI line.art, sI line.amount, .imm (yb line.facts), .imm (yb line.rests)] from rfl]
  by_cases hc : zcs c = true
  case neg =>
    rw [Bool.not_eq_true] at hc
    rw [hc] at hvc hK
    (refine ze ?_; conv => whnf)
    refine zd rfl  hvc ?_
    (refine zc ?_; conv => whnf)
    exact hK _
  rw [hc] at hvc hK
  by_cases hf : zhv l = true
  case neg =>
    rw [Bool.not_eq_true] at hf
    rw [hf] at hvf hK
    (refine ze ?_; conv => whnf)
    refine zd rfl  hvc ?_
    (refine zc ?_; conv => whnf)
    refine zd rfl  hvf ?_
    (refine zc ?_; conv => whnf)
    exact hK _
  rw [hf] at hvf hK
  by_cases hld : zit line.day = true
  case neg =>
    rw [Bool.not_eq_true] at hld
    rw [hld] at hd1 hK
    (refine ze ?_; conv => whnf)
    refine zd rfl  hvc ?_
    (refine zc ?_; conv => whnf)
    refine zd rfl  hvf ?_
    (refine zc ?_; conv => whnf)
    refine zd rfl  hd1 ?_
    (refine zc ?_; conv => whnf)
    exact hK _
  rw [hld] at hd1 hK
  by_cases hkd : zit known = true
  case neg =>
    rw [Bool.not_eq_true] at hkd
    rw [hkd] at hd2 hK
    (refine ze ?_; conv => whnf)
    refine zd rfl  hvc ?_
    (refine zc ?_; conv => whnf)
    refine zd rfl  hvf ?_
    (refine zc ?_; conv => whnf)
    refine zd rfl  hd1 ?_
    (refine zc ?_; conv => whnf)
    refine zd rfl  hd2 ?_
    (refine zc ?_; conv => whnf)
    exact hK _
  rw [hkd] at hd2 hK
  have hday : 0 <= line.day /\ line.day <= 36524 := of_decide_eq_true hld
  obtain ⟨hc1, hc2, _, _, _⟩ := ziz hc
  obtain ⟨m, hM⟩ := ypx hc hfew
  have hseq := zoj G c hM.fit hM.arts
  (refine ze ?_; conv => whnf)
  refine zd rfl  hvc ?_
  (refine zc ?_; conv => whnf)
  refine zd rfl  hvf ?_
  (refine zc ?_; conv => whnf)
  refine zd rfl  hd1 ?_
  (refine zc ?_; conv => whnf)
  refine zd rfl  hd2 ?_
  (refine zc ?_; conv => whnf)
  refine zd rfl  hseq ?_
  by_cases hsl : (ydy c).length = c.arts.length
  case neg =>
    rw [decide_eq_false hsl] at hK ⊢
    (refine zc ?_; conv => whnf)
    exact hK _
  rw [decide_eq_true hsl] at hK ⊢
  have hS := ypy (c := c) hcs l person known hday
  have hnew := zor G c l person line.day known (by omega) hl hM.arts
  have hSd : (zay c l person line.day known).day = line.day := rfl
  obtain ⟨hin, hil⟩ := ypz c line.day known
  have hsm := ymu c
  have hK : ∀ H', E.K (sB (zew c (zay c l person line.day known) (inA c line.day known) (yre c (zay c l person line.day known) (inA c line.day known) (ydy c)) line)) H' := hK
  generalize zay c l person line.day known = S at hS hnew hSd hK
  generalize inA c line.day known = inF at hin hil hnew hK
  generalize ydy c = sq at hsl hsm hK ⊢
  have hrun := ymg (G := G) hS hM inF sq hin (by omega) hsm (by omega) [] []
  have hra : yre c S inF sq = sq.foldl (zqd c S inF) ([], []) := rfl
  rw [hra] at hK
  clear hra
  generalize sq.foldl (zqd c S inF) ([], []) = T at hrun hK
  obtain ⟨st, am⟩ := T
  simp only at hrun
  have hnew2 : SCall Tryz.prog G 67 [c.sv, .imm (qi l), sS person, sI line.day, sI known] [zba c, .cells (lnC line)] (fun r H' => r = .ptr 5 0 /\ H' = ztv c line S inF [] []) := by
    refine SCall.mono (zht hnew [zba c, .cells (lnC line)]) ?_
    rintro r H' ⟨r1, H1, ⟨rfl, rfl⟩, rfl, rfl⟩
    exact ⟨rfl, rfl⟩
  have hrun2 := yju hrun (fun σ => rfl) rfl (fun σ => rfl) (H := ztv c line S inF [] []) (p := 5) (q := 3) (s := 4) (by decide) (by decide) (by decide) rfl rfl rfl
  have hcall : ∀ (a : Article), c.arts[line.art.toNat]? = some a -> 0 <= line.art -> SCall Tryz.prog G 69 [.ptr 5 0, sI line.art] (ztv c line S inF st am) (fun r H' => r = yqi (zod c S inF (st, am) line.art a) /\ H' = ztv c line S inF st am) := fun a ha h0 => by
    have := yju (yil (G := G) hS hM inF hin (by omega) st am h0 ha) (fun σ => rfl) rfl (fun σ => rfl) (H := ztv c line S inF st am) (p := 5) (q := 3) (s := 4) (by decide) (by decide) (by decide) rfl rfl rfl
    exact this
  clear hnew hrun
  (refine zc ?_; conv => whnf)
  refine ye rfl rfl rfl rfl rfl rfl (hnew2.mono ?_)
  rintro r9 H9 ⟨rfl, rfl⟩
  refine ⟨by show 2 <= 9; decide, ?_⟩
  (refine zc ?_; conv => whnf)
  refine ye rfl rfl rfl rfl rfl rfl (hrun2.mono ?_)
  rintro r9 H9 ⟨rfl, rfl⟩
  refine ⟨by show 9 <= 9; decide, ?_⟩
  refine (fun (hs : ∀ H2, H2 = ztv c line S inF st am -> SWr E _ _ _ _ H2) => hs _ rfl) ?_
  rintro _ rfl
  have hifl : (inF.map fun n => [dI n]).length = inF.length := by simp
  (refine zc ?_; conv => whnf)
  refine zh [9, 13, 56, 57, 58] ?_
  change SW E _ [(9, .ptr 1 0), (13, .ptr 5 0), (56, .imm (yb inF)), (57, sI ((inF.map fun n => [dI n]).length : Nat)), (58, sI (0 : Nat))] (ztv c line S inF st am)
  rw [hifl]
  refine zo inF (fun i (_ : Unit) => [(9, .ptr 1 0), (13, .ptr 5 0), (56, .imm (yb inF)), (57, sI (inF.length : Nat)), (58, sI (i : Nat))]) (fun _ _ => ztv c line S inF st am)
    (fun done _ _ => ∀ o ∈ done, ¬ (o = line.art /\ (zu o st).getD 0 = 2)) () (fun o ho => by cases ho) ?_ ?_
  · rintro _ hn
    rw [yjv (s := (st, am)) hn] at hK
    (refine ze ?_; conv => whnf)
    repeat' ((with_reducible refine way ?_ ?_) <;> (intro h; conv => whnf))
    all_goals try (exfalso; omega)
    exact hK _
  · rintro done o rest _ hda hdl hn ih
    have hom : o ∈ inF := by rw [hda]; simp
    have hor := hin o hom
    have hw := zk (n := done.length) (by omega)
    have hro : (inF.map fun n => [dI n])[done.length]? = some [dI o] := by rw [hda]; simp
    have hlk : ((zu o st).map sI).getD (qo (.int .i64 0)) = sI ((zu o st).getD 0) := by cases zu o st <;> rfl
    have ih := fun (h : ¬ (o = line.art /\ (zu o st).getD 0 = 2)) => ih () (fun x hx => by
      rcases List.mem_append.1 hx with hx | hx
      · exact hn x hx
      · rw [List.mem_singleton] at hx
        subst hx
        exact h)
    have hans : o = line.art -> (zu o st).getD 0 = 2 -> ∀ a, c.arts[line.art.toNat]? = some a -> zew c S inF (st, am) line = ybh (zod c S inF (st, am) line.art a) line := fun h1 h2 a ha => by
      have hat : zbz c line.art = some a := by unfold zbz; rw [if_neg (by omega)]; exact ha
      unfold zew
      rw [hat]
      exact if_pos ⟨h1 ▸ hom, h1 ▸ h2⟩
    generalize hx : (zu o st).getD 0 = x at hlk ih hans
    change SW E _ [(9, .ptr 1 0), (13, .ptr 5 0), (56, .imm (yb inF)), (57, sI (inF.length : Nat)), (58, sI (done.length : Nat))] (ztv c line S inF st am)
    (refine ze ?_; conv => whnf)
    repeat' ((with_reducible refine way ?_ ?_) <;> (intro h; conv => whnf))
    all_goals try (exfalso; omega)
    refine zi (i := done.length) (row := [dI o]) rfl rfl hro ?_
    (refine zj [777, 72] 1000 ?_; conv => whnf)
    repeat' ((with_reducible refine way ?_ ?_) <;> (intro h; conv => whnf))
    · subst h
      refine zio (l := st) (v := sI x) sI rfl rfl rfl rfl rfl rfl rfl rfl rfl hlk ?_
      (refine zc ?_; conv => whnf)
      repeat' ((with_reducible refine way ?_ ?_) <;> (intro h; conv => whnf))
      · rw [hw]
        exact zh [9, 13, 56, 57, 58] (ih fun y => absurd y.2 ‹¬ x = 2›)
      · obtain ⟨a, ha⟩ : ∃ a, c.arts[line.art.toNat]? = some a := ⟨_, List.getElem?_eq_getElem (by omega)⟩
        have ham := List.mem_of_getElem? ha
        rw [hans rfl ‹x = 2› a ha] at hK
        have hcl := hcall a ha (by omega)
        have hf1 := yfh S (zhy c a)
        rw [yjt] at hf1
        have hr1 := yfi c inF st a
        have e1 : ybh (zod c S inF (st, am) line.art a) line = (decide (a.line = line.line) && decide ((zu a.number am).getD 0 = line.amount) && decide (zgc S (zhy c a) = line.facts) && decide (zja c inF st a = line.rests)) := rfl
        rw [e1] at hK
        have hs1 : yqi (zod c S inF (st, am) line.art a) = .agg [sI S.day, sI a.line, sI line.art, sI ((zu a.number am).getD 0), .imm (yb (zgc S (zhy c a))), .imm (yb (zja c inF st a))] := rfl
        rw [hs1] at hcl
        have q1 := zhg G (zgc S (zhy c a)) line.facts (by omega)
        have q2 := zhg G (zja c inF st a) line.rests (by omega)
        generalize zgc S (zhy c a) = F at hcl hK q1
        generalize zja c inF st a = R at hcl hK q2
        generalize (zu a.number am).getD 0 = amt at hcl hK
        generalize decide (F = line.facts) = z1 at hK q1
        generalize decide (R = line.rests) = z2 at hK q2
        refine ye rfl rfl rfl rfl rfl rfl (hcl.mono ?_)
        rintro r9 H9 ⟨rfl, rfl⟩
        refine ⟨Nat.le_refl _, ?_⟩
        (refine zc ?_; conv => whnf)
        repeat' ((with_reducible refine way ?_ ?_) <;> (intro h; conv => whnf))
        · rw [decide_eq_true ‹a.line = line.line›, decide_eq_true ‹amt = line.amount›, Bool.true_and, Bool.true_and] at hK
          refine zd rfl  q1 ?_
          cases z1 with
          | false =>
            (refine zc ?_; conv => whnf)
            exact hK _
          | true =>
          (refine zc ?_; conv => whnf)
          refine zd rfl  q2 ?_
          (refine zc ?_; conv => whnf)
          exact hK _
        · rw [decide_eq_false ‹¬ amt = line.amount›, Bool.and_false] at hK
          exact hK _
        · rw [decide_eq_false ‹¬ a.line = line.line›] at hK
          exact hK _
    · rw [hw]
      exact zh [9, 13, 56, 57, 58] (ih fun y => absurd y.1 ‹¬ o = line.art›)
end Go.Proofs.YtjnddlifnkgncaaGreatDoor
namespace Go.Sh
variable {P:Program} {G:List (Nat × D)}
theorem yfj {f:FuncId} {args args':List SV} {r:SV} (h:zq P G f args' r) (ha:SIs args args'):zq P G f args r:=fun H w I β vs hH hv=>
 h H w I β vs hH ⟨by rw [hv.len,ha.len],fun j v s h1 h2=>by
  have hj:j<args'.length:=by
   rcases Nat.lt_or_ge j args'.length with h|h
   ·exact h
   ·rw [List.getElem?_eq_none h] at h2
    cases h2
  have hj':j<args.length:=by rw [ha.len];exact hj
  rw [List.getElem?_eq_getElem hj] at h2;cases h2
  exact ha.get j hj' hj w I β v (hv.rep j v _ h1 (List.getElem?_eq_getElem hj'))⟩
end Go.Sh
namespace Go.Proofs.YtjnddlifnkgncaaGreatDoor
open Go Go.Sh
theorem yjw {l:List Nat} (h:∀x∈l,x<18446744073709551616) (i:Nat):l.getD i 0<18446744073709551616:=by
 rw [List.getD_eq_getElem?_getD];cases hg:l[i]? with
 |none=>exact (by decide:(0:Nat)<18446744073709551616)
 |some x=>exact h x (List.mem_of_getElem? hg)
theorem yjx:∀(rs:List (List Nat)) (i:Nat),(∀r∈rs,∀x∈r,x<18446744073709551616)->(pth rs i).length<=rs.length/\∀x∈pth rs i,x.sib<18446744073709551616
 |[],_,_=>⟨Nat.le_refl _,fun x hx=>by cases hx⟩
 |r::rs,i,h=>by
  obtain ⟨h1,h2⟩:=yjx rs (i / 2) (fun r hr=>h r (by simp [hr]));have h3:(zgi r i).length<=1/\∀x∈zgi r i,x.sib<18446744073709551616:=by
   unfold zgi;split
   ·refine ⟨Nat.le_refl _,fun x hx=>?_⟩
    rw [List.mem_singleton] at hx;subst hx;exact yjw (h r (by simp)) _
   ·split
    ·refine ⟨Nat.le_refl _,fun x hx=>?_⟩
     rw [List.mem_singleton] at hx;subst hx;exact yjw (h r (by simp)) _
    ·exact ⟨Nat.zero_le _,fun x hx=>by cases hx⟩
  rw [pth];refine ⟨by rw [List.length_append,List.length_cons];omega,fun x hx=>?_⟩;rcases List.mem_append.1 hx with hx|hx
  ·exact h3.2 x hx
  ·exact h2 x hx
theorem zrv:∀(f:Nat) (r:List Nat),(wq f r).length<=f+1
 |0,_=>Nat.le_refl _
 |f+1,r=>by
  rw [wq];split
  ·have:=zrv f (zbd r)
   rw [List.length_cons];omega
  ·rw [List.length_singleton]
   omega
theorem zxi (l:List ByteArray) (i:Nat):(zjk l i).length<=1025/\∀x∈zjk l i,x.sib<18446744073709551616:=by
 have h1:=zrv 1024 (l.map zam)
 have h2:=yjx (wq 1024 (l.map zam)) i (zpf 1024 _ (fun x hx=>by
  obtain ⟨y,_,rfl⟩:=List.mem_map.1 hx
  exact jw _))
 rw [zww];exact ⟨by omega,h2.2⟩
theorem yfk (seed:ByteArray) (i:Int) (text:ByteArray):∀x∈chainsN seed i text,x<18446744073709551616:=by
 intro x hx;unfold chainsN at hx;obtain ⟨k,_,rfl⟩:=List.mem_map.1 hx;exact zwl (jw _) _
theorem yjy {s:Slip} (hg:SlipGood s) (hr:∀r∈s.rows,r.label.size<=100000/\r.reason.size<=100000) (hp:s.person.size<=1000) {sel:List Int} (hsel:zid s.rows.length none sel=true) (hsl:sel.length<=1000000) (seed:ByteArray) (h i:Nat):DFit (showN s sel seed h i) where
 person:=Nat.le_trans hp (by decide)
 root:=by
  show s.root<_;rw [<-hg.root];exact ybv _
 commit:=by
  show (zmg s.rows s.blinds).length<=_;rw [zmh _ _ hg.blinds];exact Nat.le_trans hg.rows.2 (by decide)
 shown:=by
  show (sel.map (showRow s)).length<=_;rw [List.length_map];exact Nat.le_trans hsl (by decide)
 row:=fun x hx=>by
  obtain ⟨k,hk,rfl⟩:=List.mem_map.1 (show x∈sel.map (showRow s) from hx);have hkr:=(zjl _ _ _ hsel).2.1 k hk;have hlt:k.toNat<s.rows.length:=by omega
  have hmem:s.rows.getD k.toNat ⟨⟨#[]⟩,0,⟨#[]⟩⟩∈s.rows:=by
   rw [List.getD_eq_getElem?_getD,List.getElem?_eq_getElem hlt];exact List.getElem_mem hlt
  have h1:=hr _ hmem;have h2:=zxi (jt s.rows s.blinds) k.toNat;exact ⟨Nat.le_trans h1.1 (by decide),Nat.le_trans h1.2 (by decide),Nat.le_trans h2.1 (by decide),h2.2⟩
 chains:=yfk _ _ _
 path:=by
  have h2:=zxi (leavesN seed h) i;exact ⟨Nat.le_trans h2.1 (by decide),h2.2⟩
def zzx:ByteArray:=⟨#[115,101,101,100]⟩
theorem zih:SlipGood shSlip:=⟨by kernel_rfl,by decide,by decide,rfl,by decide,by decide,rfl⟩
theorem zpq:∀r∈shSlip.rows,r.label.size<=100000/\r.reason.size<=100000:=by decide
def zjo (amount:Int) (fs:List Int):Ln:=⟨8770,0,0,amount,fs,[]⟩
theorem yrt:zca offC yfp yfo 8771 (zjo 9600 [1])=true:=by rw [zei];kernel_rfl
theorem yqa:zca offC yfp yfo 8771 (zjo 9601 [1])=false:=by rw [zei];kernel_rfl
theorem yqb:zca offC yfp yfo 8771 (zjo 9600 [])=false:=by rw [zei];kernel_rfl
theorem ymv:zca offC yfp yfo 8770 (zjo 9600 [1])=false:=by rw [zei];kernel_rfl
theorem yru:zca offC yfp yta 8771 (zjo 9600 [1])=false:=by rw [zei];kernel_rfl
theorem ymw:Codex.fit offC:=fun a ha=>by
 rw [show offC.arts=[_] from rfl,List.mem_singleton] at ha;subst ha;exact ⟨Nat.zero_le _,Nat.zero_le _⟩
theorem yjz (person:ByteArray) (known:Int) (l:Ln) (b:Bool) (h:zca offC yfp person known l=b):zq Tryz.prog G37 19 [offC.sv,.imm (qi yfp),sS person,sI known,yqi l] (sB b):=by
 have:=zzw G37 offC ymw (by decide) (by decide) (by decide) (by decide) yfp (by decide) person known l;rw [h] at this;exact this
theorem yrv:zq Tryz.prog G37 9 [] (sB true):=by
 have hsel:zid shSlip.rows.length none [0]=true:=by decide
 have hsum: -500000000<=wk (shSlip.rows.map Rw.cents) (zlr shSlip.rows.length [0])/\wk (shSlip.rows.map Rw.cents) (zlr shSlip.rows.length [0])<=500000000:=by decide
 have hok:=ypt zih hsel zzx (h:=1) (i:=1) (by decide) (by decide) hsum;have hfit:=yjy zih zpq (by decide) hsel (by decide) zzx 1 1;have c1:=ymi zzx 1 (by decide) (by decide);have c2:=yeu;have c3:=yje shSlip zih zpq (by decide) [0] hsel (by decide) zzx 1 1 (by decide) (by decide) (by decide) hsum;have hhid:(showN shSlip [0] zzx 1 1).hidden=30000:=by
  show wk (shSlip.rows.map Rw.cents) (zlr shSlip.rows.length [0])=30000;decide
 generalize showN shSlip [0] zzx 1 1=d at hok hfit c3 hhid;generalize keyN zzx 1=key at hok c1;generalize shSlip=ss at c2 c3;have hbad:accOK key 1 {d with hidden:=29999}=false:=zts hok (by rw [hhid];decide);have hzero:accOK key 0 d=false:=ztr hok (by decide);have a1:=zad zbk key 1 d hfit;have a2:=zad zbk key 1 {d with hidden:=29999} ⟨hfit.person,hfit.root,hfit.commit,hfit.shown,hfit.row,hfit.chains,hfit.path⟩;have a3:=zad zbk key 0 d hfit;have hok:accOK key 1 d=true:=hok;rw [hok] at a1;rw [hbad] at a2;rw [hzero] at a3;obtain ⟨person,month,root,commit,shown,hidden,blind,⟨index,chains,path⟩⟩:=d;simp only at hhid;subst hhid;clear hok hbad hzero hfit hsel hsum;have c4:=zzi G37;have nilR:SIs (lnC (zjo 9600 [1])) (lnC (zjo 9600 [1])):=.cons (SV.Is.refl _) (.cons (SV.Is.refl _) (.cons (SV.Is.refl _) (.cons (SV.Is.refl _) (.cons (SV.Is.refl _) (.cons (SV.Is.refl _) .nil)))));have isL:∀(am:Int) (fd:D) (fs:List Int),(SV.imm fd).Is (.imm (yb fs))->(SV.agg [sI 8770,sI 0,sI 0,sI am,.imm fd,.imm ykh]).Is (yqi (zjo am fs)):=fun am fd fs h=>
  SIs.agg (.cons (SV.Is.refl _) (.cons (SV.Is.refl _) (.cons (SV.Is.refl _) (.cons (SV.Is.refl _) (.cons h (.cons (SV.Is.nil 1) .nil))))))
 have rp:∀(person:ByteArray) (known am:Int) (fd:D) (fs:List Int) (b:Bool),(SV.imm fd).Is (.imm (yb fs))->zca offC yfp person known (zjo am fs)=b->
   zq Tryz.prog G37 19 [offC.sv,.imm (qi yfp),sS person,sI known,.agg [sI 8770,sI 0,sI 0,sI am,.imm fd,.imm ykh]] (sB b):=fun person known am fd fs b h1 h2=>
  yfj (yjz person known _ b h2) (.cons (SV.Is.refl _) (.cons (SV.Is.refl _) (.cons (SV.Is.refl _) (.cons (SV.Is.refl _) (.cons (isL am fd fs h1) .nil)))))
 have r1:=rp yfo 8771 9600 (yb [1]) [1] true (SV.Is.refl _) yrt;have r2:=rp yfo 8771 9601 (yb [1]) [1] false (SV.Is.refl _) yqa;have r3:=rp yfo 8771 9600 ykh [] false (SV.Is.nil 1) yqb;have r4:=rp yfo 8770 9600 (yb [1]) [1] false (SV.Is.refl _) ymv;have r5:=rp yta 8771 9600 (yb [1]) [1] false (SV.Is.refl _) yru;clear rp isL nilR;refine zg Tryz.func9 rfl (by rw [Tryz.ntmps9];simp) rfl rfl ?_;intro E hH hK;(refine ze ?_;conv=>whnf);refine zd rfl  c1 ?_;(refine zc ?_;conv=>whnf);refine zd rfl  c2 ?_;(refine zc ?_;conv=>whnf);refine zd rfl  c3 ?_;(refine zc ?_;conv=>whnf);refine zd rfl  c4 ?_;(refine zc ?_;conv=>whnf);(refine xz 2 mixed rfl ?_;refine zn [] (nx:=4) ?_;conv=>whnf);(refine ze ?_;conv=>whnf);refine zd rfl  a1 ?_;(refine zc ?_;conv=>whnf);refine zd rfl  a2 ?_;(refine zc ?_;conv=>whnf);refine zd rfl  a3 ?_;(refine zc ?_;conv=>whnf);refine zd rfl  r1 ?_;(refine zc ?_;conv=>whnf);refine zd rfl  r2 ?_;(refine zc ?_;conv=>whnf);refine zd rfl  r3 ?_;(refine zc ?_;conv=>whnf);refine zd rfl  r4 ?_;(refine zc ?_;conv=>whnf);refine zd rfl  r5 ?_;(refine zc ?_;conv=>whnf);exact hK _
theorem DFit.sig {d:Disc} (h:DFit d) (i:Int):DFit {d with sig:={d.sig with index:=i}}:=⟨h.person,h.root,h.commit,h.shown,h.row,h.chains,h.path⟩
theorem ytc (n:Nat) (h:n<=8) (k:Int) (hk:0<=k/\k<=255):IntKind.i64.wrap (((2 ^ n:Nat):Int)+k)=((2 ^ n:Nat):Int)+k/\(2 ^ n:Nat)<=256:=by
 have h1:2 ^ n<=2 ^ 8:=Nat.pow_le_pow_right (by decide) h;have h2:(2:Nat) ^ 8=256:=rfl;have h3:0<2 ^ n:=Nat.pow_pos (by decide);generalize 2 ^ n=z at*;exact ⟨zy (by omega) (by omega),by omega⟩
theorem keysLaw_spec (key other:Nat) (height:Int) (d:Disc) (hd:DFit d) (by_:Int) (hb:0<=by_/\by_<=255):
  zq Tryz.prog G37 5 [xb key,xb other,sI height,d.sv,.imm (.val (.int .u8 by_))] (sB true):=by
 have c1:=ydu G37 height d hd.shown;have c2:=zad zbk key height d hd;have c3:∀h,accOK key height d=true->h≠height->zq Tryz.prog G37 13 [xb key,sI h,d.sv] (sB false):=fun h h1 h2=>by
  have:=zad zbk key h d hd
  rwa [ztr h1 h2] at this
 have c4:∀h,accOK key height d=true->h≠height->zq Tryz.prog G37 13 [xb other,sI h,d.sv] (sB false):=fun h h1 h2=>by
  have:=zad zbk other h d hd
  rwa [ztr h1 h2] at this
 have c5:∀i:Int,(0<=i->(2 ^ height.toNat:Nat)<=i)->zq Tryz.prog G37 13 [xb key,sI height,({d with sig:={d.sig with index:=i}}:Disc).sv] (sB false):=fun i h1=>by
  have:=zad zbk key height {d with sig:={d.sig with index:=i}} (hd.sig i)
  rwa [yms (by simp only;omega)] at this
 have hr:accOK key height d=true->0<=height/\height<=8:=fun h=>by
  have:=zgs (zeh h).2.2.2;omega
 generalize zyp height d=lo at c1;generalize hacc:accOK key height d=acc at c2 c3 c4 hr;clear hacc;obtain ⟨person,month,root,commit,shown,hidden,blind,⟨index,chains,path⟩⟩:=d;clear hd;refine zg Tryz.func5 rfl (by rw [Tryz.ntmps5];simp) rfl rfl ?_;intro E hH hK;(refine ze ?_;conv=>whnf);refine zd rfl  yrv ?_;(refine zc ?_;conv=>whnf);refine zd rfl  c1 ?_;cases lo with
 |false=>
  (refine zc ?_;conv=>whnf);exact hK _
 |true=>
  (refine zc ?_;conv=>whnf);refine zd rfl  c2 ?_;cases acc with
  |false=>
   (refine zc ?_;conv=>whnf);exact hK _
  |true=>
   obtain ⟨h0,h8⟩:=hr rfl;obtain ⟨n,rfl⟩:∃n:Nat,height=n:=⟨height.toNat,by omega⟩;have hpw:=yrz n (by omega);obtain ⟨w1,w2⟩:=ytc n (by omega) by_ hb;have w3:IntKind.i64.wrap (-1-by_)= -1-by_:=zy (by omega) (by omega);have w4:IntKind.i64.wrap by_=by_:=zy (by omega) (by omega);(refine zj [777,30] 1000 ?_;conv=>whnf);refine zyk rfl rfl rfl rfl rfl (by omega) ?_;rw [Int.toNat_natCast,hpw];(refine zc ?_;conv=>whnf)
   let C:Int->SObj:=fun i=>.cells [sS person,sI month,xb root,.imm (yv commit),.imm (ziw shown),sI hidden,sI blind,sI i,.imm (zau chains),.imm (wz path)]
   refine zh [0,1,2,8,11,12,13,14] ?_;change SW E _ [(0,xb key),(1,xb other),(2,sI n),(8,.ptr 0 0),(11,sB true),(12,.ptr 1 0),(13,.ptr 2 0),(14,sI (-1))] [C index,C (IntKind.i64.wrap (((2 ^ n:Nat):Int)+IntKind.i64.wrap by_)),C (IntKind.i64.wrap (-1-IntKind.i64.wrap by_))];rw [w4,w1,w3];have d1:=c5 (((2 ^ n:Nat):Int)+by_) (fun _=>by rw [Int.toNat_natCast];omega);have d2:=c5 (-1-by_) (fun h=>by omega);clear c5 hpw w1 w2 w3 w4 c1 c2 hr;generalize ((2 ^ n:Nat):Int)+by_=i1 at d1 ⊢;generalize-1-by_=i2 at d2 ⊢;refine yq (σ:=Int) (fun h=>[(0,xb key),(1,xb other),(2,sI n),(8,.ptr 0 0),(11,sB true),(12,.ptr 1 0),(13,.ptr 2 0),(14,sI h)]) (fun _=>[C index,C i1,C i2]) (fun h=> -1<=h/\h<=10) (fun h=>(10-h).toNat) ?_ (-1) ⟨by decide,by decide⟩;rintro z ⟨j1,j2⟩ ih;have hw:IntKind.i64.wrap (z+1)=z+1:=zy (by omega) (by omega);show SW E _ [(0,xb key),(1,xb other),(2,sI n),(8,.ptr 0 0),(11,sB true),(12,.ptr 1 0),(13,.ptr 2 0),(14,sI z)] [C index,C i1,C i2];(refine ze ?_;conv=>whnf)
   repeat' ((with_reducible refine way ?_ ?_)<;>(intro h;conv=>whnf))
   all_goals try (exfalso;omega)
   ·refine zd rfl  (c3 z rfl h) ?_
    (refine zc ?_;conv=>whnf);refine zd rfl  (c4 z rfl h) ?_;(refine zc ?_;conv=>whnf);rw [hw];refine zh [0,1,2,8,11,12,13,14] ?_;exact ih (z+1) ⟨by omega,by omega⟩ (by omega)
   ·rw [hw]
    refine zh [0,1,2,8,11,12,13,14] ?_;exact ih (z+1) ⟨by omega,by omega⟩ (by omega)
   ·refine zd rfl  d1 ?_
    (refine zc ?_;conv=>whnf);refine zd rfl  d2 ?_;(refine zc ?_;conv=>whnf);exact hK _
end Go.Proofs.YtjnddlifnkgncaaGreatDoor