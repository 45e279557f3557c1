/- Contracts of functions of the program, joined from TUb, TTa, TTb, TTc, TTd, TTe, TYc, TYd, TYe, TYf, TZa, TZb, TSh56, TUc, TTh, TSh57, TTi, TTj, TTk, TUe, TUf, TTl, TSh60, TTm: no condition. -/
import Derived.Test.YtjnddlifnkgncaaGreatDoorCE5
set_option linter.unusedSimpArgs false
set_option linter.unusedVariables false
set_option maxRecDepth 10000
set_option maxHeartbeats 8000000
namespace Go.Proofs.YtjnddlifnkgncaaGreatDoor
open Go Go.Sh
theorem ztc:∀(rs:List Rw) (bs:List Int),∀c∈znh rs bs,0<=c/\c<=9000000000000000000
 |[],_,c,h=>by cases h
 |_::_,[],c,h=>by cases h
 |r::rs,b::bs,c,h=>by
  rcases List.mem_cons.1 h with rfl|h
  ·have:=zqc r b
   omega
  ·exact ztc rs bs c h
theorem yeg:∀cs:List Int,(∀c∈cs,0<=c/\c<=9000000000000000000)->szs (cs.map wn)<=21*cs.length
 |[],_=>by simp [szs]
 |c::cs,h=>by
  have h1:=h c (by simp);have h2:=xb c (by omega) (by omega);have h3:=yeg cs (fun c hc=>h c (by simp [hc]));rw [List.map_cons,ju,List.length_cons];omega
theorem ybm (person:ByteArray) (month:Int) (root:Nat) (cs:List Int) (hp:person.size<=1000) (hm:0<=month/\month<=1199) (hc:∀c∈cs,0<=c/\c<=9000000000000000000) (hn:cs.length<=1024):
  (zfy spT (zii person month root cs)).size<=100000:=by
 have e:=yee spT paysT ([person,wn month,zea root]++cs.map wn);have hj:=zdh spT ([person,wn month,zea root]++cs.map wn) paysT.data.toList;rw [<-e] at hj;have hss:szs ([person,wn month,zea root]++cs.map wn)=person.size+((wn month).size+((zea root).size+szs (cs.map wn))):=by
  show szs (person::wn month::zea root::cs.map wn)=_;simp only [ju]
 have hll:([person,wn month,zea root]++cs.map wn).length=3+cs.length:=by simp;omega
 have hsp:spT.size=1:=rfl;have hpl:paysT.data.toList.length=7:=rfl;have h1:=yeg cs hc;have h2:=xb month (by omega) (by omega);have h3:=jn root;rw [hsp,hpl,hss,hll,Nat.one_mul] at hj;have hsz:(zfy spT (paysT::([person,wn month,zea root]++cs.map wn))).data.toList.length=(zfy spT (paysT::([person,wn month,zea root]++cs.map wn))).size:=by simp
 rw [hsz] at hj;show (zfy spT (paysT::([person,wn month,zea root]++cs.map wn))).size<=_;omega
theorem ylq (s:Slip) (hg:SlipGood s) (hr:∀r∈s.rows,r.label.size<=100000/\r.reason.size<=100000) (hp:s.person.size<=1000) (sel:List Int) (hsel:zjd s.rows.length none sel=true) (hsl:sel.length<=1000000) (seed:ByteArray) (n i:Nat) (hs:seed.size<=64) (hn:n<=8) (hi:i<2 ^ n)
  (hsum: -500000000<=wt (s.rows.map Rw.cents) (zmr s.rows.length sel)/\wt (s.rows.map Rw.cents) (zmr s.rows.length sel)<=500000000):
  zq Tryz.prog G37 11 [s.sv,.imm (yz sel),sS seed,sI n,sI i] (.tup [(showN s sel seed n i).sv,sI (0:Nat)]):=by
 have c1:=zro s hr (by have:=hg.rows;omega) (by have:=hg.rows;have:=hg.blinds;omega) true ⟨fun _=>hg,fun _=>rfl⟩;have c2:=zrm G37 sel s.rows.length hsl;rw [hsel] at c2;have hc:=hg.cents;have hb:=hg.blind;have hbl:=hg.blinds;have hrows:=hg.rows;obtain ⟨dd,hD⟩:∃d,d=showN s sel seed n i:=⟨_,rfl⟩;rw [<-hD];obtain ⟨person,month,rows,blinds,root⟩:=s;simp only at c2 hr hp hsel hsum hc hb hbl hrows;have hml:(rows.map Rw.cells).length=rows.length:=by simp
 have e2:((rows.map Rw.cells).length:Int)=(rows.length:Int):=by rw [hml]
 rw [<-e2] at c2;refine zg Tryz.func11 rfl (by rw [Tryz.ntmps11];simp) rfl rfl ?_;intro E hH hK;(refine ze ?_;conv=>whnf);refine zd rfl  c1 ?_;(refine zc ?_;conv=>whnf);refine zd rfl  c2 ?_;(refine zc ?_;conv=>whnf);have nil0:SV:=.imm (.val (.slice none 0 0));refine zek 2 3 1 (cs:=[.imm (zep person),sI month,yy root,.imm (.val (.slice none 0 0)),.imm (.val (.slice none 0 0)),sI 0,sI 0,sI 0,.imm (.val (.slice none 0 0)),.imm (.val (.slice none 0 0))]) rfl rfl ?_;refine zhy (n:=13) (kk:=1) rfl ?_;refine zh [1,2,3,4,5,10,11,12,13,45,46,47] ?_;change SW E _ [(1,.imm (yz sel)),(2,sS seed),(3,sI n),(4,sI i),(5,.ptr 0 0),(10,.ptr 1 0),(11,sI (0:Nat)),(12,.ptr 2 0),(13,.asl 4 1 (([]:List ByteArray).map fun s=>[dS s])),(45,.imm (zmq rows)),(46,sI (rows.map Rw.cells).length),(47,sI (0:Nat))]
  [.cells [.imm (zep person),sI month,.imm (zmq rows),.imm (yz blinds),yy root],.cells [.imm (zep ⟨#[]⟩),sI 0,yy (0:Nat),.imm (.val (.slice none 0 0)),.imm (.val (.slice none 0 0)),sI 0,sI 0,sI 0,.imm (.val (.slice none 0 0)),.imm (.val (.slice none 0 0))],
   .cells [.imm (zep person),sI month,yy root,.asl 3 1 (([]:List Int).map fun n=>[dI n]),.imm (.val (.slice none 0 0)),sI 0,sI 0,sI 0,.imm (.val (.slice none 0 0)),.imm (.val (.slice none 0 0))],.tok 1 (([]:List Int).map fun n=>[dI n]).length,.tok 1 (([]:List ByteArray).map fun s=>[dS s]).length]
 have hbl2:(blinds.map fun (n:Int)=>[dI n]).length=blinds.length:=by simp
 let T:Nat->List Int × List ByteArray->List (Nat × SV):=fun j y=>[(1,.imm (yz sel)),(2,sS seed),(3,sI n),(4,sI i),(5,.ptr 0 0),(10,.ptr 1 0),(11,sI (0:Nat)),(12,.ptr 2 0),(13,.asl 4 1 (y.2.map fun s=>[dS s])),(45,.imm (zmq rows)),(46,sI (rows.map Rw.cells).length),(47,sI j)]
 let Hh:List Int × List ByteArray->List SObj:=fun y=>[.cells [.imm (zep person),sI month,.imm (zmq rows),.imm (yz blinds),yy root],.cells [.imm (zep ⟨#[]⟩),sI 0,yy (0:Nat),.imm (.val (.slice none 0 0)),.imm (.val (.slice none 0 0)),sI 0,sI 0,sI 0,.imm (.val (.slice none 0 0)),.imm (.val (.slice none 0 0))],
   .cells [.imm (zep person),sI month,yy root,.asl 3 1 (y.1.map fun n=>[dI n]),.imm (.val (.slice none 0 0)),sI 0,sI 0,sI 0,.imm (.val (.slice none 0 0)),.imm (.val (.slice none 0 0))],.tok 1 (y.1.map fun n=>[dI n]).length,.tok 1 (y.2.map fun s=>[dS s]).length]
 refine zp rows T (fun _ y=>Hh y) (fun done rest y=>znh rows blinds=y.1++znh rest (blinds.drop done.length)/\zak rows blinds=y.2++zak rest (blinds.drop done.length)/\y.1.length=done.length/\y.2.length=done.length) ([],[]) ⟨rfl,rfl,rfl,rfl⟩ ?_ ?_
 ·rintro ⟨cs,ls⟩ ⟨h1,h2,h3,h4⟩
  have h1:znh rows blinds=cs:=by have h:znh rows blinds=cs++znh [] (blinds.drop rows.length):=h1;rw [h];simp [znh]
  have h2:zak rows blinds=ls:=by have h:zak rows blinds=ls++zak [] (blinds.drop rows.length):=h2;rw [h];simp [zak]
  refine zdp ?_;change SW E _ [(1,.imm (yz sel)),(2,sS seed),(3,sI n),(4,sI i),(5,.ptr 0 0),(10,.ptr 1 0),(11,sI (0:Nat)),(12,.ptr 2 0),(13,.imm (yh ls)),(45,.imm (zmq rows)),(46,sI (rows.map Rw.cells).length),(47,sI rows.length)]
   [.cells [.imm (zep person),sI month,.imm (zmq rows),.imm (yz blinds),yy root],.cells [.imm (zep ⟨#[]⟩),sI 0,yy (0:Nat),.imm (.val (.slice none 0 0)),.imm (.val (.slice none 0 0)),sI 0,sI 0,sI 0,.imm (.val (.slice none 0 0)),.imm (.val (.slice none 0 0))],
   .cells [.imm (zep person),sI month,yy root,.imm (yz cs),.imm (.val (.slice none 0 0)),sI 0,sI 0,sI 0,.imm (.val (.slice none 0 0)),.imm (.val (.slice none 0 0))],.tok 1 (cs.map fun n=>[dI n]).length,.tok 1 (ls.map fun s=>[dS s]).length]
  have hcr:∀c∈cs,0<=c/\c<=9000000000000000000:=fun c hcc=>ztc rows blinds c (by rw [h1];exact hcc)
  have hcl:cs.length=rows.length:=h3;have hrt:root<18446744073709551616:=by have h:zjc (zak rows blinds)=root:=hg.root;rw [<-h];exact yef _
  have d1:=zvi person month root cs hp hg.month hrt hcr (by omega);have hts:(zfy spT (zii person month root cs)).size<=9223372036854775807:=Nat.le_trans (ybm person month root cs hp hg.month hcr (by omega)) (by decide);have d2:=ylg seed n i (zfy spT (zii person month root cs)) hs hn hi hts;(refine ze ?_;conv=>whnf)
  repeat' ((with_reducible refine way ?_ ?_)<;>(intro h;conv=>whnf))
  all_goals try (exfalso;omega)
  refine zd rfl  d1 ?_;(refine zc ?_;conv=>whnf);obtain ⟨sg,hsg⟩:∃g,g=signN seed n i (zfy spT (zii person month root cs)):=⟨_,rfl⟩;rw [<-hsg] at d2;have d3:=ygy G37 sel (rows.map Rw.cells).length (by rw [hml];exact hsel) hsl (by omega);have hmk:(zmr (rows.map Rw.cells).length sel).length=rows.length:=by simp [zmr]
  have hsum2: -500000000<=wt (rows.map Rw.cents) (zmr (rows.map Rw.cells).length sel)/\wt (rows.map Rw.cents) (zmr (rows.map Rw.cells).length sel)<=500000000:=by rw [hml];exact hsum
  generalize hmk0:zmr (rows.map Rw.cells).length sel=mk at d3 hmk hsum2;have d4:=zyj G37 rows mk hmk (by omega) (fun r hx=>by have:=hc r hx;omega);have d5:=zyk G37 blinds mk (by omega) (by omega) (fun b hx=>by have:=hb b hx;omega);generalize hh1:wt (rows.map Rw.cents) mk=hs1 at d4 hsum2;generalize hh2:wt blinds mk=hs2 at d5;refine zd rfl  d2 ?_;(refine zc ?_;conv=>whnf);refine zd rfl  d3 ?_;(refine zc ?_;conv=>whnf);refine zd rfl  d4 ?_;(refine zc ?_;conv=>whnf)
  repeat' ((with_reducible refine way ?_ ?_)<;>(intro h;conv=>whnf))
  all_goals try (exfalso;omega)
  refine zd rfl  d5 ?_;(refine zc ?_;conv=>whnf);refine zek 2 4 6 (cs:=[.imm (zep person),sI month,yy root,.imm (yz cs),.imm (.val (.slice none 0 0)),sI hs1,sI (hs2.tmod 1073741789),sI sg.index,.imm (zaw sg.chains),.imm (xh sg.path)]) rfl rfl ?_;refine zh [5,10,12,13,127,128,129] ?_;have hsl2:(sel.map fun (n:Int)=>[dI n]).length=sel.length:=by simp
  change SW E _ [(5,.ptr 0 0),(10,.ptr 1 0),(12,.ptr 2 0),(13,.imm (yh ls)),(127,.imm (yz sel)),(128,sI (sel.map fun (n:Int)=>[dI n]).length),(129,sI (0:Nat))]
   [.cells [.imm (zep person),sI month,.imm (zmq rows),.imm (yz blinds),yy root],.cells [.imm (zep ⟨#[]⟩),sI 0,yy (0:Nat),.imm (.val (.slice none 0 0)),.imm (.val (.slice none 0 0)),sI 0,sI 0,sI 0,.imm (.val (.slice none 0 0)),.imm (.val (.slice none 0 0))],
   .cells [.imm (zep person),sI month,yy root,.imm (yz cs),.asl _ 6 (([]:List Shw).map Shw.cells),sI hs1,sI (hs2.tmod 1073741789),sI sg.index,.imm (zaw sg.chains),.imm (xh sg.path)],.tok 1 (cs.map fun n=>[dI n]).length,.tok 1 (ls.map fun s=>[dS s]).length,.cells [sI sg.index,.imm (zaw sg.chains),.imm (xh sg.path)],.tok 6 (([]:List Shw).map Shw.cells).length]
  let H2:List Shw->List SObj:=fun l=>[.cells [.imm (zep person),sI month,.imm (zmq rows),.imm (yz blinds),yy root],.cells [.imm (zep ⟨#[]⟩),sI 0,yy (0:Nat),.imm (.val (.slice none 0 0)),.imm (.val (.slice none 0 0)),sI 0,sI 0,sI 0,.imm (.val (.slice none 0 0)),.imm (.val (.slice none 0 0))],
   .cells [.imm (zep person),sI month,yy root,.imm (yz cs),.asl 6 6 (l.map Shw.cells),sI hs1,sI (hs2.tmod 1073741789),sI sg.index,.imm (zaw sg.chains),.imm (xh sg.path)],.tok 1 (cs.map fun n=>[dI n]).length,.tok 1 (ls.map fun s=>[dS s]).length,.cells [sI sg.index,.imm (zaw sg.chains),.imm (xh sg.path)],.tok 6 (l.map Shw.cells).length]
  refine zp sel (fun j (_:List Shw)=>[(5,.ptr 0 0),(10,.ptr 1 0),(12,.ptr 2 0),(13,.imm (yh ls)),(127,.imm (yz sel)),(128,sI (sel.map fun (n:Int)=>[dI n]).length),(129,sI j)]) (fun _ l=>H2 l) (fun done _ l=>l=done.map (showRow ⟨person,month,rows,blinds,root⟩)) [] rfl ?_ ?_
  ·rintro l hl
   have hl:l=sel.map (showRow ⟨person,month,rows,blinds,root⟩):=hl;have hdd:dd=⟨person,month,root,cs,l,hs1,hs2.tmod 1073741789,sg⟩:=by
    rw [hD,hsg, <-hh1, <-hh2, <-hmk0,hl,hml];simp only [showN,h1]
   rw [hdd] at hK;clear hdd hl hD;refine zdp ?_;change SW E _ [(5,.ptr 0 0),(10,.ptr 1 0),(12,.ptr 2 0),(13,.imm (yh ls)),(127,.imm (yz sel)),(128,sI (sel.map fun (n:Int)=>[dI n]).length),(129,sI sel.length)]
    [.cells [.imm (zep person),sI month,.imm (zmq rows),.imm (yz blinds),yy root],.cells [.imm (zep ⟨#[]⟩),sI 0,yy (0:Nat),.imm (.val (.slice none 0 0)),.imm (.val (.slice none 0 0)),sI 0,sI 0,sI 0,.imm (.val (.slice none 0 0)),.imm (.val (.slice none 0 0))],
    .cells [.imm (zep person),sI month,yy root,.imm (yz cs),.imm (zbe l),sI hs1,sI (hs2.tmod 1073741789),sI sg.index,.imm (zaw sg.chains),.imm (xh sg.path)],.tok 1 (cs.map fun n=>[dI n]).length,.tok 1 (ls.map fun s=>[dS s]).length,.cells [sI sg.index,.imm (zaw sg.chains),.imm (xh sg.path)],.tok 6 (l.map Shw.cells).length]
   (refine ze ?_;conv=>whnf)
   repeat' ((with_reducible refine way ?_ ?_)<;>(intro h;conv=>whnf))
   all_goals try (exfalso;omega)
   exact hK _
  ·rintro done x rest l hda hdl hl ih
   have hl:l=done.map (showRow ⟨person,month,rows,blinds,root⟩):=hl;have hw:=zk (n:=done.length) (by omega);have hrow:(sel.map fun (n:Int)=>[dI n])[((done.length:Nat):Int).toNat]?=some [dI x]:=by simp [hda]
   have hxr:=(zki _ _ _ hsel).2.1 x (by rw [hda];simp);obtain ⟨k,rfl⟩:∃k:Nat,x=k:=⟨x.toNat,by omega⟩;have hk:k<rows.length:=by omega
   have hnx:=ih (l++[showRow ⟨person,month,rows,blinds,root⟩ k]) (by show l++_=(done++[_]).map _;rw [hl];simp);have e1:=zyi G37 ls k (by rw [<-h2,zdi rows blinds (by omega)];exact hk) (by rw [<-h2,zdi rows blinds (by omega)];omega) (fun y hy=>by have:=zho rows blinds hr y (by rw [h2];exact hy);omega);obtain ⟨r,hrk⟩:∃r,rows[k]?=some r:=⟨_,List.getElem?_eq_getElem hk⟩;obtain ⟨b,hbk⟩:∃b,blinds[k]?=some b:=⟨_,List.getElem?_eq_getElem (by omega)⟩;have hsh:showRow ⟨person,month,rows,blinds,root⟩ k=⟨k,r.label,r.cents,r.reason,b,zkh ls k⟩:=by
    simp only [showRow,Int.toNat_natCast,List.getD_eq_getElem?_getD,hrk,hbk,Option.getD_some,h2]
   rw [hsh] at hnx;have g1:(rows.map Rw.cells)[k]?=some r.cells:=by simp [hrk]
   have g2:(blinds.map fun (n:Int)=>[dI n])[k]?=some [dI b]:=by simp [hbk]
   generalize zkh ls k=pa at e1 hnx;clear ih hsh;obtain ⟨la,ce,re⟩:=r;have hll:l.length=done.length:=by rw [hl];simp
   clear hl;show SW E _ [(5,.ptr 0 0),(10,.ptr 1 0),(12,.ptr 2 0),(13,.imm (yh ls)),(127,.imm (yz sel)),(128,sI (sel.map fun (n:Int)=>[dI n]).length),(129,sI done.length)] (H2 l);simp only [H2,List.map_append] at hnx ⊢;(refine ze ?_;conv=>whnf)
   repeat' ((with_reducible refine way ?_ ?_)<;>(intro h;conv=>whnf))
   all_goals try (exfalso;omega)
   refine zi rfl rfl  hrow ?_;(refine zc ?_;conv=>whnf);refine zd rfl  e1 ?_;(refine zc ?_;conv=>whnf);(refine wk 0 mixed rfl ?_;refine zn [777] (nx:=7) ?_;conv=>whnf);refine qg (i:=k) (row:=[zep la,dI ce,zep re]) rfl (show 7<=7 by decide) rfl g1 ?_;(refine zn [777] (nx:=7) ?_;conv=>whnf);refine qg (i:=k) (row:=[dI b]) rfl (show 7<=7 by decide) rfl g2 ?_;(refine zn [777] (nx:=7) ?_;conv=>whnf);refine zel (b:=6) (kk:=6) (rows:=l.map Shw.cells) (new:=[[dI k,zep la,dI ce,zep re,dI b,xh pa]]) rfl rfl rfl rfl rfl rfl rfl rfl rfl rfl ⟨show 80<=65536 by decide,rfl⟩ (show 7<=7 by decide) rfl (by simp;omega) ?_;refine jw ⟨_,[],none⟩ rfl rfl (show 7<=7 by decide) (fun _ _ _=>rfl) ?_;refine yv (b:=2) (off:=4) (d:=[.imm (zep person),sI month,yy root,.imm (yz cs)]) (zz:=.asl 6 6 (l.map Shw.cells)) (r:=[sI hs1,sI (hs2.tmod 1073741789),sI sg.index,.imm (zaw sg.chains),.imm (xh sg.path)]) (v:=.asl 6 6 (l.map Shw.cells++[[dI k,zep la,dI ce,zep re,dI b,xh pa]])) rfl rfl rfl rfl rfl rfl rfl rfl (show 7<=7 by decide) rfl rfl ?_;refine jh (by kernel_rfl) ?_;(refine ze ?_;conv=>whnf);rw [hw];refine zh [5,10,12,13,127,128,129] ?_;exact hnx
 ·rintro done r rest ⟨cs,ls⟩ hda hdl ⟨h1,h2,h3,h4⟩ ih
  have hw:=zk (n:=done.length) (by omega);have hrow:(rows.map Rw.cells)[((done.length:Nat):Int).toNat]?=some r.cells:=by simp [hda]
  obtain ⟨b,hbb⟩:∃b,blinds[done.length]?=some b:=⟨_,List.getElem?_eq_getElem (by omega)⟩;have hrb:(blinds.map fun (n:Int)=>[dI n])[((done.length:Nat):Int).toNat]?=some [dI b]:=by simp [hbb]
  have hdr:blinds.drop done.length=b::blinds.drop (done.length+1):=by
   rw [List.drop_eq_getElem_cons (by omega)];rw [List.getElem?_eq_getElem (by omega)] at hbb;rw [Option.some.inj hbb]
  have hbr:=hb b (List.mem_of_getElem? hbb);have hrm:r∈rows:=by rw [hda];simp
  obtain ⟨f1,f2⟩:=hr r hrm;obtain ⟨f3,f4⟩:=hc r hrm;simp only at h1 h2 h3 h4;rw [hdr,znh] at h1;rw [hdr,zak] at h2;have hlt:=zqc r b;have hnx:=ih (cs++[(zta r b:Int)],ls++[qk r.label (zta r b) r.reason]) ⟨by rw [h1];simp,by rw [h2];simp,by simp [h3],by simp [h4]⟩;have d1:=zgz r.cents b ⟨f3,f4⟩ hbr;change zq _ _ _ _ (.tup [sI (zta r b),_]) at d1;have d2:=zfp r.label (zta r b) r.reason f1 f2 ⟨by omega,by omega⟩;generalize qk r.label (zta r b) r.reason=lf at d2 hnx;generalize zta r b=cm at d1 d2 hlt hnx;clear ih h1 h2 hdr;obtain ⟨la,ce,re⟩:=r;simp only at f3 f4 d1 d2;have hws:IntKind.i64.wrap (ce+1073741789)=ce+1073741789:=zr (by omega) (by omega);show SW E _ (T done.length (cs,ls)) (Hh (cs,ls));simp only [T,Hh,List.map_append] at hnx ⊢;(refine ze ?_;conv=>whnf)
  repeat' ((with_reducible refine way ?_ ?_)<;>(intro h;conv=>whnf))
  all_goals try (exfalso;omega)
  refine zi rfl rfl  hrow ?_;(refine zc ?_;conv=>whnf);(refine zx mixed rfl ?_;refine zf [] ?_;conv=>whnf);refine yx rfl rfl  hrb ?_;(refine zf [] ?_;conv=>whnf);rw [hws];refine yf rfl  d1 ?_;(refine zf [] ?_;conv=>whnf);(refine ze ?_;conv=>whnf);refine yj (b:=3) (kk:=1) (rows:=cs.map fun n=>[dI n]) (new:=[[dI cm]]) rfl ⟨show 8<=65536 by decide,rfl⟩ rfl (by rw [List.length_map];simp only [List.length_cons,List.length_nil];omega) ?_;(refine zc ?_;conv=>whnf);refine zd rfl  d2 ?_;(refine zc ?_;conv=>whnf);refine yj (b:=4) (kk:=1) (rows:=ls.map fun s=>[dS s]) (new:=[[dS lf]]) rfl ⟨show 16<=65536 by decide,rfl⟩ rfl (by rw [List.length_map];simp only [List.length_cons,List.length_nil];omega) ?_;(refine zc ?_;conv=>whnf);rw [hw];simp only [List.length_append] at hnx;exact ys [1,2,3,4,5,10,11,12,13,45,46,47] 5 (by rw [hH];exact Nat.zero_le _) (by show 5<=6;decide) rfl rfl hnx
def zha (row:List Nat) (i:Nat):List Frk:=if i % 2=1 then [⟨row.getD (i-1) 0,true⟩] else if i+1<row.length then [⟨row.getD (i+1) 0,false⟩] else []
def pth:List (List Nat)->Nat->List Frk
 |[],_=>[]
 |row::rs,i=>zha row i++pth rs (i / 2)
theorem ypn (s:Nat × List Frk) (row:List Nat):zkg s row=(s.1 / 2,s.2++zha row s.1):=by
 unfold zkg zha;split
 ·rfl
 ·split
  ·rfl
  ·rw [List.append_nil]
theorem zqf:∀(rs:List (List Nat)) (i:Nat) (acc:List Frk),(rs.foldl zkg (i,acc)).2=acc++pth rs i
 |[],_,acc=>(List.append_nil acc).symm
 |row::rs,i,acc=>by
  rw [List.foldl_cons,ypn,zqf rs,pth,List.append_assoc]
def yeh (rs:List (List Nat)) (v:Nat):Nat:=rs.foldl (fun _ r=>r.getD 0 0) v
theorem ypo:∀(rs:List (List Nat)),rs≠[]->∀v w,yeh rs v=yeh rs w
 |[],h,_,_=>absurd rfl h
 |_::_,_,_,_=>by rw [yeh,yeh,List.foldl_cons,List.foldl_cons]
theorem ylr (f:Nat) (r:List Nat):ww f r≠[]:=by
 cases f with
 |zero=>simp [ww]
 |succ f=>
  rw [ww];split<;>simp
theorem yls (a:Nat):zbq [a]=[a]:=rfl
theorem zqg (a b:Nat) (r:List Nat):zbq (a::b::r)=zbu a b::zbq r:=by rw [zbq]
theorem zyn:∀(r:List Nat) (i:Nat),i<r.length->
  (zbq r).getD (i / 2) 0=if i % 2=1 then zbu (r.getD (i-1) 0) (r.getD i 0) else if i+1<r.length then zbu (r.getD i 0) (r.getD (i+1) 0) else r.getD i 0
 |[],i,h=>absurd h (Nat.not_lt_zero i)
 |[a],i,h=>by
  have e:i=0:=by
   rw [List.length_singleton] at h;omega
  rw [e,yls,if_neg (by decide),if_neg (by rw [List.length_singleton];decide),Nat.zero_div]
 |a::b::r,0,_=>by
  rw [zqg,if_neg (by decide),if_pos (by rw [List.length_cons,List.length_cons];omega),Nat.zero_div,List.getD_cons_zero,List.getD_cons_zero,List.getD_cons_succ,List.getD_cons_zero]
 |a::b::r,1,_=>by
  rw [zqg,if_pos (by decide),show 1 / 2=0 by decide,show 1-1=0 by decide,List.getD_cons_zero,List.getD_cons_zero,show (1:Nat)=0+1 by decide,List.getD_cons_succ,List.getD_cons_zero]
 |a::b::r,i+2,h=>by
  have ih:=zyn r i (by rw [List.length_cons,List.length_cons] at h;omega);have g:∀j,(a::b::r).getD (j+2) 0=r.getD j 0:=fun j=>by
   rw [show j+2=j+1+1 by omega,List.getD_cons_succ,List.getD_cons_succ]
  rw [zqg,show (i+2) / 2=i / 2+1 by omega,List.getD_cons_succ,ih,show (i+2) % 2=i % 2 by omega]
  by_cases h1:i % 2=1
  ·obtain ⟨j,rfl⟩:∃j,i=j+1:=⟨i-1,by omega⟩
   rw [if_pos h1,if_pos h1,show j+1-1=j by omega,show j+1+2-1=j+2 by omega,g,g]
  ·rw [if_neg h1,if_neg h1,show i+2+1=i+1+2 by omega,List.length_cons,List.length_cons,g,g]
   by_cases h2:i+1<r.length
   ·rw [if_pos h2,if_pos (by omega)]
   ·rw [if_neg h2,if_neg (by omega)]
theorem zyo (k f:Nat) (r:List Nat) (i:Nat) (hi:i<r.length) (h1:¬1<r.length):climb (k+1) r.length i (pth (ww f r) i) (r.getD i 0)=some (yeh (ww f r) 0):=by
 have h3:i=0:=by omega
 have hp:pth [r] 0=[]:=by rw [pth,pth,zha,if_neg (by decide),if_neg (by omega),List.append_nil]
 have ht:yeh [r] 0=r.getD 0 0:=by rw [yeh,List.foldl_cons,List.foldl_nil]
 rw [h3,zsw f h1,hp,ht,climb,if_pos (by omega),List.isEmpty_nil,if_pos rfl]
theorem zlj (f size idx:Nat) (x:Frk) (r:List Frk) (cur:Nat) (h:¬size<=1) (h2:idx % 2=1\/idx+1<size):
  climb (f+1) size idx (x::r) cur=if x.left=decide (idx % 2=1) then climb f ((size+1) / 2) (idx / 2) r (if idx % 2=1 then zbu x.sib cur else zbu cur x.sib) else none:=by
 rw [zhi _ _ _ _ _ h,if_pos h2]
theorem yhe (f size idx:Nat) (s:Nat) (r:List Frk) (cur:Nat) (h:¬size<=1) (h2:idx % 2=1):climb (f+1) size idx (⟨s,true⟩::r) cur=climb f ((size+1) / 2) (idx / 2) r (zbu s cur):=by
 rw [zlj _ _ _ _ _ _ h (.inl h2),decide_eq_true h2,if_pos rfl,if_pos h2]
theorem ybn (f size idx:Nat) (s:Nat) (r:List Frk) (cur:Nat) (h:¬size<=1) (h1:¬idx % 2=1) (h2:idx+1<size):climb (f+1) size idx (⟨s,false⟩::r) cur=climb f ((size+1) / 2) (idx / 2) r (zbu cur s):=by
 rw [zlj _ _ _ _ _ _ h (.inr h2),decide_eq_false h1,if_pos rfl,if_neg h1]
theorem ztd (f size idx:Nat) (r:List Frk) (cur:Nat) (h:¬size<=1) (h1:¬idx % 2=1) (h2:¬idx+1<size):climb (f+1) size idx r cur=climb f ((size+1) / 2) (idx / 2) r cur:=by
 rw [zhi _ _ _ _ _ h,if_neg (by omega)]
theorem zyp (k:Nat):∀(f:Nat) (r:List Nat) (i:Nat),r.length<=f->i<r.length->r.length<=2 ^ k->climb (k+1) r.length i (pth (ww f r) i) (r.getD i 0)=some (yeh (ww f r) 0):=by
 induction k with
 |zero=>
  intro f r i _ hi hk;rw [Nat.pow_zero] at hk;exact zyo 0 f r i hi (by omega)
 |succ k IH=>
  intro f r i hf hi hk
  by_cases h1:1<r.length
  ·obtain ⟨f',h2,h3⟩:=zpv hf h1
   have hup:=zcf r;have ih:=IH f' (zbq r) (i / 2) h3 (by omega) (by rw [hup];rw [Nat.pow_succ] at hk;omega);clear IH;have ht:yeh (r::ww f' (zbq r)) 0=yeh (ww f' (zbq r)) 0:=by
    rw [yeh,List.foldl_cons];exact ypo _ (ylr _ _) _ _
   rw [zyn r i hi,hup] at ih;rw [h2,pth,zha,ht];generalize yeh (ww f' (zbq r)) 0=tp at ih ⊢;generalize pth (ww f' (zbq r)) (i / 2)=pp at ih ⊢;clear h2 h3 ht hup
   by_cases h4:i % 2=1
   ·rw [if_pos h4] at ih
    rw [if_pos h4,List.singleton_append,yhe _ _ _ _ _ _ (by omega) h4,ih]
   ·rw [if_neg h4] at ih
    rw [if_neg h4]
    by_cases h5:i+1<r.length
    ·rw [if_pos h5] at ih
     rw [if_pos h5,List.singleton_append,ybn _ _ _ _ _ _ (by omega) h4 h5,ih]
    ·rw [if_neg h5] at ih
     rw [if_neg h5,List.nil_append,ztd _ _ _ _ _ (by omega) h4 h5,ih]
  ·exact zyo (k+1) f r i hi h1
theorem zyq (l:List ByteArray) (i:Nat):zkh l i=pth (ww 1024 (l.map qj)) i:=by
 unfold zkh;rw [zqf,List.nil_append]
theorem ylt (l:List ByteArray):zjc l=yeh (ww 1024 (l.map qj)) 0:=by
 unfold zjc yeh;rfl
theorem ybo (l:List ByteArray) (i:Nat) (hi:i<l.length) (hl:l.length<=1024):climb 12 l.length i (zkh l i) (qj (l.getD i ⟨#[]⟩))=some (zjc l):=by
 have hlm:(l.map qj).length=l.length:=List.length_map _;have h:=zyp 11 1024 (l.map qj) i (by omega) (by omega) (by rw [hlm];exact Nat.le_trans hl (by decide));have e:(l.map qj).getD i 0=qj (l.getD i ⟨#[]⟩):=by
  rw [List.getD_eq_getElem?_getD,List.getD_eq_getElem?_getD,List.getElem?_map,List.getElem?_eq_getElem hi,Option.map_some,Option.getD_some,Option.getD_some]
 rw [<-zyq,hlm,e, <-ylt] at h;exact h
theorem zqh (l:List ByteArray) (i:Nat) (hi:i<l.length) (hl:l.length<=1024):qv (zjc l) l.length i (l.getD i ⟨#[]⟩) (zkh l i)=true:=by
 have h:=ybo l i hi hl;unfold qv;rw [Int.toNat_natCast,Int.toNat_natCast,decide_eq_true h,decide_eq_true (by omega),decide_eq_true (by omega),decide_eq_true (by omega),decide_eq_true (by omega)];rfl
def chN:Nat->Nat->Nat
 |_,0=>1
 |0,_+1=>0
 |n+1,k+1=>chN n k+chN n (k+1)
theorem zhp:∀n k:Nat,n<k->chN n k=0
 |_,0,h=>absurd h (Nat.not_lt_zero _)
 |0,_+1,_=>rfl
 |n+1,k+1,h=>by rw [chN,zhp n k (by omega),zhp n (k+1) (by omega)]
theorem zqi (n:Nat):chN n 0=1:=by cases n<;>rfl
theorem yei:∀n:Nat,chN n n=1
 |0=>rfl
 |n+1=>by rw [chN,yei n,zhp n (n+1) (by omega)]
theorem zvj:∀n k:Nat,(k+1)*chN (n+1) (k+1)=(n+1)*chN n k
 |0,0=>rfl
 |0,k+1=>by rw [zhp 1 (k+1+1) (by omega),zhp 0 (k+1) (by omega)];simp
 |n+1,0=>by
  have h:=zvj n 0;rw [zqi] at h;rw [show chN (n+1+1) (0+1)=chN (n+1) 0+chN (n+1) (0+1) from rfl,zqi];omega
 |n+1,k+1=>by
  have h1:=zvj n k;have h2:=zvj n (k+1);have e:chN (n+1) (k+1)=chN n k+chN n (k+1):=rfl;rw [show chN (n+1+1) (k+1+1)=chN (n+1) (k+1)+chN (n+1) (k+1+1) from rfl,Nat.mul_add,h2,Nat.add_mul (k+1) 1,h1,Nat.one_mul,Nat.add_mul (n+1) 1,Nat.one_mul];have e2:(n+1)*chN (n+1) (k+1)=(n+1)*chN n k+(n+1)*chN n (k+1):=by rw [e,Nat.mul_add]
  omega
def zyr (f:Nat->Nat):Nat->Nat
 |0=>0
 |m+1=>zyr f m+f m
theorem zys (n a:Nat):∀m,zyr (fun k=>chN (n+1) k*a ^ k) (m+1)=a*zyr (fun k=>chN n k*a ^ k) m+zyr (fun k=>chN n k*a ^ k) (m+1)
 |0=>by simp [zyr,zqi]
 |m+1=>by
  have ih:=zys n a m;rw [zyr,ih];show _+chN (n+1) (m+1)*a ^ (m+1)=a*(zyr (fun k=>chN n k*a ^ k) m+chN n m*a ^ m)+(zyr (fun k=>chN n k*a ^ k) (m+1)+chN n (m+1)*a ^ (m+1));have e:chN (n+1) (m+1)*a ^ (m+1)=a*(chN n m*a ^ m)+chN n (m+1)*a ^ (m+1):=by
   rw [show chN (n+1) (m+1)=chN n m+chN n (m+1) from rfl,Nat.add_mul,Nat.pow_succ,Nat.mul_comm (a ^ m) a,Nat.mul_left_comm]
  rw [e,Nat.mul_add];omega
theorem yuz (a:Nat):∀n,(a+1) ^ n=zyr (fun k=>chN n k*a ^ k) (n+1)
 |0=>by simp [zyr,zqi]
 |n+1=>by
  have h:zyr (fun k=>chN n k*a ^ k) (n+1+1)=zyr (fun k=>chN n k*a ^ k) (n+1):=by
   rw [zyr,zhp n (n+1) (by omega),Nat.zero_mul,Nat.add_zero]
  rw [zys,h, <-yuz a n,Nat.pow_succ,Nat.mul_add,Nat.mul_one,Nat.mul_comm]
structure PrimeN (q:Nat):Prop where
 two:2<=q
 cop:∀k,0<k->k<q->Nat.Coprime q k
theorem ylu {q:Nat} (hq:PrimeN q) {k:Nat} (h0:0<k) (h1:k<q):q ∣ chN q k:=by
 obtain ⟨k,rfl⟩:∃j,k=j+1:=⟨k-1,by omega⟩;obtain ⟨n,rfl⟩:∃n,q=n+1:=⟨q-1,by omega⟩;have h:n+1 ∣ (k+1)*chN (n+1) (k+1):=⟨chN n k,zvj n k⟩;exact (hq.cop (k+1) h0 h1).dvd_of_dvd_mul_left h
theorem yej {q:Nat} (hq:PrimeN q) (a:Nat):∀m,m<q->zyr (fun k=>chN q k*a ^ k) (m+1) % q=1
 |0,_=>by
  have:=hq.two;simp [zyr,zqi,Nat.mod_eq_of_lt (show 1<q by omega)]
 |m+1,h=>by
  rw [zyr];obtain ⟨c,hc⟩:=ylu hq (k:=m+1) (by omega) h;simp only [hc];rw [Nat.mul_assoc,Nat.add_mul_mod_self_left];exact yej hq a m (by omega)
theorem zte {q:Nat} (hq:PrimeN q):∀a:Nat,a ^ q % q=a % q
 |0=>by
  have:=hq.two;rw [Nat.zero_pow (by omega)]
 |a+1=>by
  have h2:=hq.two;have h:=yej hq a (q-1) (by omega);rw [show q-1+1=q by omega] at h;rw [yuz,zyr,yei,Nat.one_mul,Nat.add_mod,h,zte hq a,Nat.add_mod a 1,Nat.mod_eq_of_lt (show 1<q by omega),Nat.add_comm]
theorem ybp {a b q:Nat} (h:a % q=b % q):q ∣ a-b:=Nat.dvd_of_mod_eq_zero (Nat.sub_mod_eq_zero_of_mod_eq h)
theorem ztf {q:Nat} (hq:PrimeN q) {a:Nat} (ha:a % q≠0):a ^ (q-2)*a % q=1:=by
 have h2:=hq.two;have hp:0<a:=by
  rcases Nat.eq_zero_or_pos a with h|h
  ·rw [h,Nat.zero_mod] at ha
   exact absurd rfl ha
  ·exact h
 have hc:Nat.Coprime q a:=by
  have h:=hq.cop (a % q) (by omega) (Nat.mod_lt _ (by omega));unfold Nat.Coprime at h ⊢;rw [<-h,Nat.gcd_comm q (a % q), <-Nat.gcd_rec]
 have h3:q ∣ a*a ^ (q-1)-a*1:=by
  refine ybp ?_;rw [<-Nat.pow_succ',show Nat.succ (q-1)=q by omega,Nat.mul_one];exact zte hq a
 rw [<-Nat.mul_sub] at h3;obtain ⟨c,h4⟩:=hc.dvd_of_dvd_mul_left h3;have h5:a ^ (q-1)=1+q*c:=by
  have:0<a ^ (q-1):=Nat.pow_pos hp;omega
 rw [<-Nat.pow_succ,show Nat.succ (q-2)=q-1 by omega,h5,Nat.add_mul_mod_self_left,Nat.mod_eq_of_lt (by omega)]
theorem yqw {p a b c d:Nat} (h:a % p=b % p) (k:c % p=d % p):a*c % p=b*d % p:=by rw [Nat.mul_mod,h,k, <-Nat.mul_mod]
theorem yvm {p a b:Nat} (h:a % p=b % p) (n:Nat):a ^ n % p=b ^ n % p:=by rw [Nat.pow_mod,h, <-Nat.pow_mod]
theorem zqj {p a b c d:Nat} (hc:c*d % p=1 % p) (h:a*c % p=b*c % p):a % p=b % p:=by
 have h1:a*c*d % p=b*c*d % p:=yqw h rfl;have h2:∀x,x*c*d % p=x % p:=fun x=>by
  rw [Nat.mul_assoc];have:=yqw (p:=p) (a:=x) (b:=x) rfl hc
  rwa [Nat.mul_one] at this
 rwa [h2,h2] at h1
structure Elm (p q b:Nat):Prop where
 one:b ^ q % p=1 % p
theorem Elm.red {p q b:Nat} (h:Elm p q b) (e:Nat):b ^ e % p=b ^ (e % q) % p:=by
 have h1:b ^ (q*(e / q)) % p=1 % p:=by
  rw [Nat.pow_mul];have:=yvm h.one (e / q)
  rwa [Nat.one_pow] at this
 have h2:b ^ e=b ^ (q*(e / q))*b ^ (e % q):=by rw [<-Nat.pow_add,Nat.div_add_mod]
 rw [h2];have:=yqw h1 (rfl:b ^ (e % q) % p=b ^ (e % q) % p)
 rwa [Nat.one_mul] at this
theorem Elm.congr {p q b:Nat} (h:Elm p q b) {e f:Nat} (he:e % q=f % q):b ^ e % p=b ^ f % p:=by rw [h.red e,he, <-h.red f]
theorem Elm.inv {p q b:Nat} (h:Elm p q b) (hq:0<q) (e:Nat):b ^ e*b ^ (q-e % q) % p=1 % p:=by
 rw [<-Nat.pow_add,h.congr (f:=0) ?_,Nat.pow_zero];have h1:=Nat.mod_lt e hq;have h2:=Nat.div_add_mod e q;have h3:e+(q-e % q)=q+q*(e / q):=by omega
 rw [h3,Nat.add_mul_mod_self_left,Nat.mod_self,Nat.zero_mod]
theorem Elm.inj {p q b:Nat} (hq:PrimeN q) (h:Elm p q b) (hb:b % p≠1 % p) {e f:Nat} (he:e<q) (hf:f<q) (hef:b ^ e % p=b ^ f % p):e=f:=by
 have key:∀e f,e<f->f<q->b ^ e % p=b ^ f % p->False:=fun e f hlt hf hef=>by
  have h1:b ^ (f-e) % p=1 % p:=by
   refine zqj (h.inv (by omega) e) ?_;rw [<-Nat.pow_add,Nat.one_mul,show f-e+e=f by omega];exact hef.symm
  have h2:=ztf hq (a:=f-e) (by rw [Nat.mod_eq_of_lt (by omega)];omega);have h3:b ^ ((f-e) ^ (q-2)*(f-e)) % p=b ^ 1 % p:=h.congr (by rw [h2,Nat.mod_eq_of_lt (by omega)]);rw [Nat.mul_comm,Nat.pow_mul,yvm h1,Nat.one_pow,Nat.pow_one] at h3;exact hb h3.symm
 rcases Nat.lt_trichotomy e f with h1|h1|h1
 ·exact (key e f h1 hf hef).elim
 ·exact h1
 ·exact (key f e h1 he hef.symm).elim
def yhf (q:Nat):Nat->Nat->Bool
 |0,lo=>Nat.ble lo 1|| !(Nat.beq (q % lo) 0)
 |k+1,lo=>yhf q k lo&&yhf q k (lo+2 ^ k)
theorem zlk (q:Nat):∀k lo,yhf q k lo=true->∀d,lo<=d->d<lo+2 ^ k->2<=d->¬d ∣ q
 |0,lo,h,d,h1,h2,h3,hd=>by
  have e:d=lo:=by omega
  subst e;have hm:=Nat.mod_eq_zero_of_dvd hd;unfold yhf at h;rw [hm] at h;rw [Bool.or_eq_true] at h;rcases h with h|h
  ·have:=Nat.le_of_ble_eq_true h
   omega
  ·exact absurd h (by decide)
 |k+1,lo,h,d,h1,h2,h3,hd=>by
  unfold yhf at h;rw [Bool.and_eq_true] at h;rw [Nat.pow_succ] at h2;rcases Nat.lt_or_ge d (lo+2 ^ k) with hlt|hge
  ·exact zlk q k lo h.1 d h1 hlt h3 hd
  ·exact zlk q k _ h.2 d hge (by omega) h3 hd
theorem zrp {q k:Nat} (h2:2<=q) (h:yhf q k 0=true) (hk:q<2 ^ k*2 ^ k):PrimeN q:=by
 have nd:∀d,2<=d->d<q->¬d ∣ q:=fun d hd hlt hdv=>by
  obtain ⟨c,hc⟩:=hdv;have hs:=zlk q k 0 h;rcases Nat.lt_or_ge d (2 ^ k) with h1|h1
  ·exact hs d (by omega) (by omega) hd ⟨c,hc⟩
  ·rcases Nat.lt_or_ge c (2 ^ k) with h3|h3
   ·have hc2:2<=c:=by
     rcases c with _|_|c
     ·omega
     ·omega
     ·omega
    exact hs c (by omega) (by omega) hc2 ⟨d,by rw [hc,Nat.mul_comm]⟩
   ·have:=Nat.mul_le_mul h1 h3
    omega
 refine ⟨h2,fun k h0 h1=>?_⟩;have hg1:=Nat.gcd_dvd_left q k;have hg2:=Nat.gcd_dvd_right q k;have hg3:=Nat.le_of_dvd h0 hg2;have hg0:0<Nat.gcd q k:=Nat.gcd_pos_of_pos_right _ h0;unfold Nat.Coprime;rcases Nat.lt_or_ge (Nat.gcd q k) 2 with h3|h3
 ·omega
 ·exact (nd _ h3 (by omega) hg1).elim
theorem zyt:PrimeN 1073741789:=zrp (k:=15) (by decide) (by kernel_rfl) (by decide)
theorem yqx (b e:Nat) (he:e<18446744073709551616) (h:zko b e=1):Elm 2147483579 e b:=⟨by
 rw [zgk he] at h
 exact h⟩
theorem elm4:Elm 2147483579 1073741789 4:=yqx 4 1073741789 (by decide) (by kernel_rfl)
theorem elm9:Elm 2147483579 1073741789 9:=yqx 9 1073741789 (by decide) (by kernel_rfl)
theorem ywu:(4:Nat) % 2147483579≠1 % 2147483579:=by decide
theorem ypp {n m r:Nat} (hn:n<1073741789) (hm:m<1073741789) (h:4 ^ n*9 ^ r % 2147483579=4 ^ m*9 ^ r % 2147483579):n=m:=
 elm4.inj zyt ywu hn hm (zqj (elm9.inv (by decide) r) h)
def ylv (q n:Nat):Nat:=n ^ (q-2) % q
theorem ypq {q n:Nat} (hq:PrimeN q) (h:n % q≠0):n*ylv q n % q=1:=by
 have e:=ztf hq h;rw [Nat.mul_comm] at e;unfold ylv;rw [Nat.mul_mod,Nat.mod_mod, <-Nat.mul_mod];exact e
theorem ysv {p q g k n m r s:Nat} (hq:PrimeN q) (hg:Elm p q g) (hk:Elm p q k) (hk1:g % p≠1 % p) (hn:n<q) (hm:m<q) (hr:r<q) (hs:s<q)
  (h:g ^ n*k ^ r % p=g ^ m*k ^ s % p) (hne:n≠m):r≠s/\g ^ ((n+q-m) % q*ylv q ((s+q-r) % q) % q) % p=k % p:=by
 have h2:=hq.two;have hrs:r≠s:=fun e=>by
  subst e;exact hne (hg.inj hq hk1 hn hm (zqj (hk.inv (by omega) r) h))
 refine ⟨hrs,?_⟩;have hE:(s+q-r) % q≠0:=by
  rcases Nat.lt_or_ge s r with h1|h1
  ·rw [Nat.mod_eq_of_lt (by omega)]
   omega
  ·rw [show s+q-r=(s-r)+q by omega,Nat.add_mod_right,Nat.mod_eq_of_lt (by omega)]
   omega
 have hI:=ypq hq (n:=(s+q-r) % q) (by rw [Nat.mod_mod];exact hE);generalize ylv q ((s+q-r) % q)=I at hI ⊢;have e1:g ^ ((n+q-m) % q) % p=k ^ ((s+q-r) % q) % p:=by
  rw [<-hg.red, <-hk.red];refine zqj (hk.inv (by omega) r) (zqj (hg.inv (by omega) m) ?_);have a1:g ^ (n+q-m)*k ^ r*g ^ m % p=g ^ n*k ^ r % p:=by
   rw [Nat.mul_right_comm, <-Nat.pow_add,show n+q-m+m=n+q by omega];exact yqw (hg.congr (Nat.add_mod_right n q)) rfl
  have a2:k ^ (s+q-r)*k ^ r*g ^ m % p=g ^ m*k ^ s % p:=by
   rw [<-Nat.pow_add,show s+q-r+r=s+q by omega,Nat.mul_comm];exact yqw rfl (hk.congr (Nat.add_mod_right s q))
  rw [a1,a2,h]
 rw [<-hg.red,Nat.pow_mul,yvm e1, <-Nat.pow_mul,hk.congr (f:=1) (by rw [hI,Nat.mod_eq_of_lt (by omega)]),Nat.pow_one]
theorem zqk (c:Int):zia c<1073741789:=by unfold zia;omega
theorem zjf (c b:Int) (hb:b<1073741789):zjt c b=4 ^ zia c*9 ^ b.toNat % 2147483579:=by
 have hv:=zqk c;unfold zjt;rw [zgk (by omega),zgk (by omega)];exact (Nat.mul_mod _ _ _).symm
theorem ybq (c b:Int):zjt c b<2147483579:=Nat.mod_lt _ (by decide)
theorem yek {c e:Int} (h1: -500000000<=c/\c<=500000000) (h2: -500000000<=e/\e<=500000000) (h:zia c=zia e):c=e:=by
 unfold zia at h;omega
theorem ybr {m c e b:Int} (h1:wv m c b=true) (h2:wv m e b=true):c=e:=by
 unfold wv at h1 h2;simp only [Bool.and_eq_true,zbs,decide_eq_true_eq] at h1 h2;obtain ⟨⟨a1,a2,a3,a4⟩,a5⟩:=h1;obtain ⟨⟨b1,b2,b3,b4⟩,b5⟩:=h2;rw [a5,zjf c b a4,zjf e b a4] at b5;exact yek ⟨a1,a2⟩ ⟨b1,b2⟩ (ypp (zqk c) (zqk e) (Int.ofNat_inj.1 b5))
theorem ysw {p q a b:Nat} (ha:Elm p q a) (hb:Elm p q b):Elm p q (a*b):=⟨by
 rw [Nat.mul_pow];have:=yqw ha.one hb.one
 rwa [Nat.one_mul] at this⟩
theorem ylw {p q a:Nat} (ha:Elm p q a) (n:Nat):Elm p q (a ^ n):=⟨by
 rw [<-Nat.pow_mul,Nat.mul_comm,Nat.pow_mul];have:=yvm ha.one n
 rwa [Nat.one_pow] at this⟩
theorem ysx {p q a:Nat} (ha:Elm p q a):Elm p q (a % p):=⟨by
 rw [<-Nat.pow_mod]
 exact ha.one⟩
theorem yva (b e:Nat) (he:e<18446744073709551616) (h:Elm 2147483579 e b):zko b e=1:=by
 rw [zgk he];exact h.one
theorem ypr {x:Nat} (h:Elm 2147483579 1073741789 x) (hx:x<2147483579):zdr (x:Int)=true:=by
 have h1:zko x 1073741789=1:=yva x 1073741789 (by decide) h;have h0:0<x:=by
  rcases Nat.eq_zero_or_pos x with h2|h2
  ·subst h2
   exact absurd h1 (by decide+kernel)
  ·exact h2
 unfold zdr;rw [Int.toNat_natCast,h1];simp;omega
theorem ysy (c b:Int) (hb:b<1073741789):Elm 2147483579 1073741789 (zjt c b):=by
 rw [zjf c b hb];exact ysx (ysw (ylw elm4 _) (ylw elm9 _))
theorem yps (c b:Int) (hb:b<1073741789):zdr (zjt c b:Int)=true:=ypr (ysy c b hb) (ybq c b)
theorem yhg (c b:Nat) (a:Nat):chainN a (chainN b c)=chainN (a+b) c:=by
 induction a with
 |zero=>rw [zdb,Nat.zero_add]
 |succ a ih=>rw [zar,ih,Nat.add_right_comm,zar]
theorem yhh (l:List (Nat × Nat)):(leafS l).data.toList=l.flatMap fun x=>(zea (chainN (15-x.1) x.2)).data.toList:=by
 have key:∀(l:List (Nat × Nat)) (s:ByteArray),(l.foldl (fun s x=>s++zea (chainN (15-x.1) x.2)) s).data.toList=s.data.toList++l.flatMap fun x=>(zea (chainN (15-x.1) x.2)).data.toList:=by
  intro l
  induction l with
  |nil=>intro s;exact (List.append_nil _).symm
  |cons x l ih=>
   intro s;rw [List.foldl_cons,ih,List.flatMap_cons,ByteArray.data_append,Array.toList_append,List.append_assoc]
 exact key l _
theorem ylx {α:Type} (l:List Nat) (n:Nat) (g:Nat->α) (h:l.length=n):l.zip ((List.range n).map g)=(List.range n).map fun k=>(l.getD k 0,g k):=by
 apply List.ext_getElem?
 intro k;rcases Nat.lt_or_ge k n with hk|hk
 ·have hkl:k<l.length:=by omega
  have e:(l.zip ((List.range n).map g))[k]?=some (l[k]'hkl,g k):=List.getElem?_zip_eq_some.2 ⟨List.getElem?_eq_getElem hkl,by rw [List.getElem?_map,List.getElem?_range hk];rfl⟩;rw [e,List.getElem?_map,List.getElem?_range hk,Option.map_some,List.getD_eq_getElem?_getD,List.getElem?_eq_getElem hkl,Option.getD_some]
 ·rw [List.getElem?_eq_none (by simp;omega),List.getElem?_eq_none (by simp;omega)]
theorem yhi (seed:ByteArray) (i:Nat) (text:ByteArray):leafS ((zsb text).zip (chainsN seed i text))=⟨(leafK seed i).toArray⟩:=by
 have hl:=zuq text;have hle:=yam text;have e:(zsb text).zip (chainsN seed i text)=(List.range 18).map fun (k:Nat)=>((zsb text).getD k 0,chainN ((zsb text).getD k 0) (yed seed i k)):=ylx _ 18 _ hl
 have h:(leafS ((zsb text).zip (chainsN seed i text))).data.toList=leafK seed i:=by
  rw [yhh,e,List.flatMap_map];unfold leafK;generalize zsb text=fg at hl hle;generalize List.range 18=rg
  congr 1
  funext k
  have hk:fg.getD k 0<=15:=by
   rw [List.getD_eq_getElem?_getD];cases hg:fg[k]? with
   |none=>exact Nat.zero_le _
   |some x=>exact hle x (List.mem_of_getElem? hg)
  rw [yhg,Nat.sub_add_cancel hk]
 rw [<-h]
theorem ybs (seed:ByteArray) {h i:Nat} (hi:i<2 ^ h):(leavesN seed h).getD i ⟨#[]⟩=⟨(leafK seed i).toArray⟩:=by
 unfold leavesN;rw [List.getD_eq_getElem?_getD,List.getElem?_map,List.getElem?_range hi];rfl
theorem ysz (seed:ByteArray) (h i:Nat) (text:ByteArray) (hh:h<=8) (hi:i<2 ^ h):signedOK (keyN seed h) h text (signN seed h i text)=true:=by
 have hp:2 ^ h<=2 ^ 8:=Nat.pow_le_pow_right (by decide) hh;have hc:(chainsN seed i text).length=18:=by simp [chainsN]
 have hl:=zqh (leavesN seed h) i (by rw [zaa];exact hi) (by rw [zaa];omega);rw [ybs seed hi,zaa] at hl;unfold signedOK signN;simp only [Int.toNat_natCast,hc,decide_true,Bool.and_true];rw [yhi,decide_eq_true (by omega),decide_eq_true (by omega)];exact hl
def yhj (fl:Nat->Bool):Nat->List Int->Nat
 |_,[]=>1
 |i,c::r=>(if fl i then 1 else c.toNat)*yhj fl (i+1) r
theorem zql (l:List Shw):∀(cs:List Int) (i p:Nat),p<2147483579->zdt l i cs p=p*yhj (zbf l) i cs % 2147483579
 |[],_,p,h=>by rw [zdt,yhj,Nat.mul_one,Nat.mod_eq_of_lt h]
 |c::r,i,p,h=>by
  rw [zdt,yhj];split
  ·rw [zql l r _ _ h,Nat.one_mul]
  ·rw [zql l r _ _ (Nat.mod_lt _ (by decide)),Nat.mod_mul_mod,Nat.mul_assoc]
theorem yel (c:Int):(zia c:Int)=c % 1073741789:=by
 unfold zia;omega
theorem zqm (fl:Nat->Bool):∀(rs:List Rw) (bs:List Int) (mk:List Bool) (i:Nat),bs.length=rs.length->mk.length=rs.length->(∀k,k<rs.length->mk[k]?=some (!fl (i+k)))->(∀b∈bs,0<=b/\b<1073741789)->
  ∃A B:Nat,yhj fl i (znh rs bs) % 2147483579=4 ^ A*9 ^ B % 2147483579/\(A:Int) % 1073741789=wt (rs.map Rw.cents) mk % 1073741789/\(B:Int)=wt bs mk
 |[],bs,mk,i,_,_,_,_=>⟨0,0,rfl,by simp [wt],by cases bs<;>cases mk<;>simp_all [wt]⟩
 |r::rs,[],mk,i,h,_,_,_=>by simp at h
 |r::rs,b::bs,[],i,_,h,_,_=>by simp at h
 |r::rs,b::bs,m::mk,i,h1,h2,h3,h4=>by
  have hb:=h4 b (by simp)
  obtain ⟨A,B,e1,e2,e3⟩:=zqm fl rs bs mk (i+1) (by simpa using h1) (by simpa using h2) (fun k hk=>by
   have:=h3 (k+1) (by rw [List.length_cons];omega);rw [List.getElem?_cons_succ,show i+(k+1)=i+1+k by omega] at this
   exact this) (fun b hb=>h4 b (by simp [hb]))
  have hm:m= !fl i:=by
   have:=h3 0 (by simp);simpa using this
  rw [znh,yhj,List.map_cons,wt,wt];cases hf:fl i with
  |true=>
   rw [hf] at hm;subst hm;refine ⟨A,B,?_,?_,?_⟩
   ·simp only [if_true,Nat.one_mul]
    exact e1
   ·simp only [Bool.not_true,Bool.false_eq_true,if_false,Int.zero_add]
    exact e2
   ·simp only [Bool.not_true,Bool.false_eq_true,if_false,Int.zero_add]
    exact e3
  |false=>
   rw [hf] at hm;subst hm;refine ⟨zia r.cents+A,b.toNat+B,?_,?_,?_⟩
   ·simp only [Bool.false_eq_true,if_false,Int.toNat_natCast]
    have e4:zta r b % 2147483579=4 ^ zia r.cents*9 ^ b.toNat % 2147483579:=by
     show zjt r.cents b % _=_;rw [zjf _ _ hb.2,Nat.mod_mod]
    rw [yqw e4 e1,Nat.pow_add,Nat.pow_add]
    congr 1
    simp only [Nat.mul_assoc,Nat.mul_left_comm,Nat.mul_comm]
   ·have:=yel r.cents
    simp only [Bool.not_false,if_true];rw [Int.natCast_add];omega
   ·simp only [Bool.not_false,if_true]
    omega
theorem yem:∀(rs:List Rw) (bs:List Int),bs.length=rs.length->∀k,k<rs.length->(znh rs bs).getD k 0=zjt (rs.getD k ⟨⟨#[]⟩,0,⟨#[]⟩⟩).cents (bs.getD k 0)
 |[],_,_,k,hk=>absurd hk (Nat.not_lt_zero k)
 |_::_,[],h,_,_=>by simp at h
 |r::rs,b::bs,_,0,_=>rfl
 |r::rs,b::bs,h,k+1,hk=>by
  have:=yem rs bs (by simpa using h) k (by simpa using hk);simpa [znh] using this
theorem zyu:∀(rs:List Rw) (bs:List Int),bs.length=rs.length->∀k,k<rs.length->(zak rs bs).getD k ⟨#[]⟩=qk (rs.getD k ⟨⟨#[]⟩,0,⟨#[]⟩⟩).label ((znh rs bs).getD k 0) (rs.getD k ⟨⟨#[]⟩,0,⟨#[]⟩⟩).reason
 |[],_,_,k,hk=>absurd hk (Nat.not_lt_zero k)
 |_::_,[],h,_,_=>by simp at h
 |r::rs,b::bs,_,0,_=>rfl
 |r::rs,b::bs,h,k+1,hk=>by
  have:=zyu rs bs (by simpa using h) k (by simpa using hk);simpa [zak,znh] using this
theorem zyv:∀(rs:List Rw) (bs:List Int),(∀b∈bs,0<=b/\b<1073741789)->∀c∈znh rs bs,zdr c=true
 |[],_,_,c,h=>by cases h
 |_::_,[],_,c,h=>by cases h
 |r::rs,b::bs,hb,c,h=>by
  rcases List.mem_cons.1 h with rfl|h
  ·exact yps r.cents b (hb b (by simp)).2
  ·exact zyv rs bs (fun b h=>hb b (by simp [h])) c h
theorem yly (d:Disc):zib d=zfy spT (zii d.person d.month d.root d.commit):=by
 obtain ⟨person,month,root,commit,shown,hidden,blind,sig⟩:=d;show commit.foldl (fun s c=>s++(⟨#[32]⟩++wn c)) (⟨#[112,97,121,115,108,105,112,32]⟩++person++⟨#[32]⟩++wn month++⟨#[32]⟩++zea root)=
  ([person,wn month,zea root]++commit.map wn).foldl (fun s y=>s++spT++y) paysT
 rw [List.foldl_append,List.foldl_map];have h1:(fun (s:ByteArray) (c:Int)=>s++(⟨#[32]⟩++wn c))=fun s c=>s++spT++wn c:=by
  funext s c
  exact (ByteArray.append_assoc).symm
 rw [h1]
 congr 1
theorem yen {s:Slip} (hg:SlipGood s) (d:Disc) (hr:d.root=s.root) (hc:d.commit=znh s.rows s.blinds):∀(l:List Int) (last:Int),l.Pairwise (· < ·)->(∀x∈l,last<x/\0<=x/\x<s.rows.length)->shownOK d last (l.map (showRow s))=true
 |[],_,_,_=>rfl
 |x::l,last,hp,h=>by
  have hx:=h x (by simp);rw [List.pairwise_cons] at hp;have ih:=yen hg d hr hc l x hp.2 (fun y hy=>⟨hp.1 y hy,(h y (by simp [hy])).2⟩);have hlen:d.commit.length=s.rows.length:=by rw [hc];exact zni _ _ hg.blinds
  have hk:x.toNat<s.rows.length:=by omega
  rw [List.map_cons,shownOK];have hi:(showRow s x).index=x:=rfl;rw [hi,ih,Bool.and_true];unfold shwOK;rw [hi,hlen,decide_eq_true hx.1,decide_eq_true hx.2.2,Bool.true_and,Bool.true_and,Bool.and_eq_true];have e1:cAt d x=(zjt (showRow s x).cents (showRow s x).blind:Nat):=by
   unfold cAt;rw [hc,yem _ _ hg.blinds _ hk];rfl
  have hcm:∀r∈s.rows,r=r:=fun _ _=>rfl
  have hmem:s.rows.getD x.toNat ⟨⟨#[]⟩,0,⟨#[]⟩⟩∈s.rows:=by
   rw [List.getD_eq_getElem?_getD,List.getElem?_eq_getElem hk];exact List.getElem_mem hk
  have hbm:s.blinds.getD x.toNat 0∈s.blinds:=by
   rw [List.getD_eq_getElem?_getD,List.getElem?_eq_getElem (by rw [hg.blinds];exact hk)];exact List.getElem_mem _
  refine ⟨?_,?_⟩
  ·unfold wv
   rw [e1,Bool.and_eq_true,zbs];have b1:=hg.cents _ hmem;have b2:=hg.blind _ hbm;exact ⟨⟨b1.1,b1.2,b2.1,b2.2⟩,by simp⟩
  ·have h1:=zqh (zak s.rows s.blinds) x.toNat (by rw [zdi _ _ hg.blinds];exact hk) (by rw [zdi _ _ hg.blinds];exact hg.rows.2)
   rw [hg.root,zyu _ _ hg.blinds _ hk,zdi _ _ hg.blinds] at h1;have e2:cAt d x=(znh s.rows s.blinds).getD x.toNat 0:=by
    unfold cAt;rw [hc]
   have e3:(x.toNat:Int)=x:=by omega
   rw [e3] at h1;rw [hr,e2];exact h1
theorem ybt (s:Slip) (l:List Int) (i:Nat):zbf (l.map (showRow s)) i=decide ((i:Int)∈l):=by
 unfold zbf;rw [Bool.eq_iff_iff];simp only [List.any_map,List.any_eq_true,Function.comp,decide_eq_true_eq];constructor
 ·rintro ⟨x,hx,he⟩
  have he:x=i:=he;rw [<-he];exact hx
 ·intro h
  exact ⟨_,h,rfl⟩
theorem yta {s:Slip} (hg:SlipGood s) {sel:List Int} (hsel:zjd s.rows.length none sel=true) (seed:ByteArray) {h i:Nat} (hh:h<=8) (hi:i<2 ^ h)
  (hsum: -500000000<=wt (s.rows.map Rw.cents) (zmr s.rows.length sel)/\wt (s.rows.map Rw.cents) (zmr s.rows.length sel)<=500000000):accOK (keyN seed h) h (showN s sel seed h i)=true:=by
 obtain ⟨p1,p2,_⟩:=zki _ _ _ hsel;have hcl:=zni _ _ hg.blinds;have h1:zfx (showN s sel seed h i)=true:=by
  unfold zfx showN;simp only [hg.name,hcl];rw [decide_eq_true hg.month.1,decide_eq_true hg.month.2,decide_eq_true hg.rows.1,decide_eq_true hg.rows.2];simp only [Bool.true_and,List.all_eq_true];exact zyv _ _ hg.blind
 have h2:shownOK (showN s sel seed h i) (-1) (showN s sel seed h i).shown=true:=yen hg _ rfl rfl sel (-1) p1 (fun x hx=>⟨by have:=p2 x hx;omega,p2 x hx⟩);have h3:signedOK (keyN seed h) h (zib (showN s sel seed h i)) (showN s sel seed h i).sig=true:=by
  rw [yly];exact ysz seed h i _ hh hi
 have hfl:∀k,k<s.rows.length->(zmr s.rows.length sel)[k]?=some (!zbf (sel.map (showRow s)) (0+k)):=fun k hk=>by
  unfold zmr;rw [List.getElem?_map,List.getElem?_range hk,Nat.zero_add,ybt];rfl
 obtain ⟨A,B,e1,e2,e3⟩:=zqm (zbf (sel.map (showRow s))) s.rows s.blinds (zmr s.rows.length sel) 0 hg.blinds (by simp [zmr]) hfl hg.blind;have h4:wv (zdt (showN s sel seed h i).shown 0 (showN s sel seed h i).commit 1) (showN s sel seed h i).hidden (showN s sel seed h i).blind=true:=by
  show wv (zdt (sel.map (showRow s)) 0 (znh s.rows s.blinds) 1) (wt (s.rows.map Rw.cents) (zmr s.rows.length sel)) ((wt s.blinds (zmr s.rows.length sel)).tmod 1073741789)=true;rw [zql _ _ _ _ (by decide),Nat.one_mul,e1, <-e3];generalize wt (s.rows.map Rw.cents) (zmr s.rows.length sel)=hs1 at hsum e2 ⊢;have e4:(B:Int).tmod 1073741789=((B % 1073741789:Nat):Int):=by
   rw [Int.tmod_eq_emod_of_nonneg (by omega)];omega
  have hB:B % 1073741789<1073741789:=Nat.mod_lt _ (by decide);unfold wv;rw [e4,Bool.and_eq_true,zbs];refine ⟨⟨hsum.1,hsum.2,by omega,by omega⟩,?_⟩;rw [decide_eq_true_eq,zjf _ _ (by omega),Int.toNat_natCast];have e5:A % 1073741789=zia hs1 % 1073741789:=by
   have:=yel hs1;omega
  rw [yqw (elm4.congr e5) (elm9.red B)]
 unfold accOK;rw [h1,h2,h3,h4];rfl
theorem yhk {root h:Nat} {idx:Int} {leaf:ByteArray} {path:List Frk} (hl:qv root (2 ^ h:Nat) idx leaf path=true):0<=idx/\idx<(2 ^ h:Nat)/\path.length=h:=by
 unfold qv at hl;simp only [Bool.and_eq_true,decide_eq_true_eq] at hl;obtain ⟨⟨⟨_,h3⟩,h4⟩,h5⟩:=hl;refine ⟨h3,h4,zsc 12 h idx.toNat path (qj leaf) root (by omega) ?_⟩;rw [Int.toNat_natCast] at h5;exact h5
theorem ztg {key:Nat} {height:Int} {text:ByteArray} {s:Sg} (h:signedOK key height text s=true):0<=height/\height<=8/\0<=s.index/\s.index<(2 ^ height.toNat:Nat)/\s.path.length=height.toNat:=by
 unfold signedOK at h;simp only [Bool.and_eq_true,decide_eq_true_eq] at h;obtain ⟨⟨⟨h1,h2⟩,_⟩,h4⟩:=h;exact ⟨h1,h2,yhk h4⟩
theorem zev {key:Nat} {height:Int} {d:Disc} (h:accOK key height d=true):zfx d=true/\shownOK d (-1) d.shown=true/\wv (zdt d.shown 0 d.commit 1) d.hidden d.blind=true/\signedOK key height (zib d) d.sig=true:=by
 unfold accOK at h;simp only [Bool.and_eq_true] at h;exact ⟨h.1.1.1,h.1.1.2,h.1.2,h.2⟩
theorem ypt {key key':Nat} {height h':Int} {d:Disc} (h:accOK key height d=true) (hne:h'≠height):accOK key' h' d=false:=by
 cases hb:accOK key' h' d with
 |false=>rfl
 |true=>
  obtain ⟨a1,_,_,_,a2⟩:=ztg (zev h).2.2.2;obtain ⟨b1,_,_,_,b2⟩:=ztg (zev hb).2.2.2;omega
structure AccIn (d:Disc):Prop where
 name:qd d.person=true
 month:0<=d.month/\d.month<=1199
 len:1<=d.commit.length/\d.commit.length<=1024
 elem:∀c∈d.commit,zdr c=true
theorem ylz (d:Disc):zfx d=true ↔ AccIn d:=by
 unfold zfx;simp only [Bool.and_eq_true,decide_eq_true_eq,List.all_eq_true];exact ⟨fun h=>⟨h.1.1.1.1.1,⟨h.1.1.1.1.2,h.1.1.1.2⟩,⟨h.1.1.2,h.1.2⟩,h.2⟩,fun h=>⟨⟨⟨⟨⟨h.name,h.month.1⟩,h.month.2⟩,h.len.1⟩,h.len.2⟩,h.elem⟩⟩
theorem zqn (d:Disc):∀(l:List Shw) (last:Int),shownOK d last l=true ↔ (∀s∈l,last<s.index/\s.index<d.commit.length/\wv (cAt d s.index) s.cents s.blind=true/\qv d.root d.commit.length s.index (qk s.label (cAt d s.index) s.reason) s.path=true)/\l.Pairwise (fun x y=>x.index<y.index)
 |[],last=>by simp [shownOK]
 |s::l,last=>by
  rw [shownOK,Bool.and_eq_true,zqn d l s.index,List.pairwise_cons];unfold shwOK;simp only [Bool.and_eq_true,decide_eq_true_eq];constructor
  ·rintro ⟨⟨⟨⟨h1,h2⟩,h3⟩,h4⟩,h5,h6⟩
   refine ⟨fun x hx=>?_,fun x hx=>(h5 x hx).1,h6⟩;rcases List.mem_cons.1 hx with rfl|hx
   ·exact ⟨h1,h2,h3,h4⟩
   ·have:=h5 x hx
    exact ⟨by omega,this.2⟩
  ·rintro ⟨h1,h2,h3⟩
   have h4:=h1 s (by simp);exact ⟨⟨⟨⟨h4.1,h4.2.1⟩,h4.2.2.1⟩,h4.2.2.2⟩,fun x hx=>⟨h2 x hx,(h1 x (by simp [hx])).2⟩,h3⟩
structure RowIn (d:Disc) (s:Shw):Prop where
 idx:0<=s.index/\s.index<d.commit.length
 opens:wv (cAt d s.index) s.cents s.blind=true
 leads:qv d.root d.commit.length s.index (qk s.label (cAt d s.index) s.reason) s.path=true
theorem yma {key:Nat} {height:Int} {d:Disc} (h:accOK key height d=true) {s:Shw} (hs:s∈d.shown):RowIn d s:=by
 have h1:=((zqn d _ _).1 (zev h).2.1).1 s hs;exact ⟨⟨by omega,h1.2.1⟩,h1.2.2.1,h1.2.2.2⟩
theorem ytb {key:Nat} {height:Int} {d:Disc} (h:accOK key height d=true->False):accOK key height d=false:=by
 cases hb:accOK key height d with
 |false=>rfl
 |true=>exact (h hb).elim
theorem zvk {key:Nat} {height:Int} {d:Disc} (h:accOK key height d=true) {n:Int} (hn:n≠d.hidden):accOK key height {d with hidden:=n}=false:=
 ytb fun hb=>hn (ybr (zev hb).2.2.1 (zev h).2.2.1)
theorem ybu {root:Nat} {size idx:Int} {leaf:ByteArray} {path:List Frk} (h:qv root size idx leaf path=true):1<=size/\size<=1024/\0<=idx/\idx<size/\climb 12 size.toNat idx.toNat path (qj leaf)=some root:=by
 unfold qv at h;simp only [Bool.and_eq_true,decide_eq_true_eq,and_assoc] at h;exact h
theorem zth (n:Nat) (h:n<256):(UInt8.ofNat n).toNat=n:=by
 rw [UInt8.toNat_ofNat'];exact Nat.mod_eq_of_lt h
theorem zti:∀(f u:Nat),u<10 ^ (f+1)->∀c∈yao f u,48<=c.toNat/\c.toNat<=57
 |0,u,h,c,hc=>by
  rw [yao,List.mem_singleton] at hc;subst hc;rw [zth _ (by omega)];omega
 |f+1,u,h,c,hc=>by
  rw [yao] at hc;split at hc
  ·rw [List.mem_singleton] at hc
   subst hc;rw [zth _ (by omega)];omega
  ·rcases List.mem_append.1 hc with hc|hc
   ·exact zti f (u / 10) (by rw [Nat.pow_succ] at h;omega) c hc
   ·rw [List.mem_singleton] at hc
    subst hc;rw [zth _ (by omega)];omega
def ywv (l:List UInt8):Nat:=l.foldl (fun a c=>10*a+(c.toNat-48)) 0
theorem zhb:∀(f u:Nat),u<10 ^ (f+1)->ywv (yao f u)=u
 |0,u,h=>by
  show 10*0+((UInt8.ofNat (48+u)).toNat-48)=u;rw [zth _ (by omega)];omega
 |f+1,u,h=>by
  rw [yao];split
  ·show 10*0+((UInt8.ofNat (48+u)).toNat-48)=u
   rw [zth _ (by omega)];omega
  ·have ih:=zhb f (u / 10) (by rw [Nat.pow_succ] at h;omega)
   unfold ywv at ih ⊢;rw [List.foldl_append,ih];show 10*(u / 10)+((UInt8.ofNat (48+u % 10)).toNat-48)=u;rw [zth _ (by omega)];omega
theorem zyw {n:Int} (h:0<=n):(wn n).data.toList=yao 19 n.toNat:=by
 unfold wn;rw [if_neg (by omega)]
theorem zvl {c:UInt8}:∀{a b x y:List UInt8},c ∉ a->c ∉ b->a++c::x=b++c::y->a=b/\x=y
 |[],[],x,y,_,_,h=>⟨rfl,by simpa using h⟩
 |[],e::b,x,y,_,h2,h=>by
  simp only [List.nil_append,List.cons_append,List.cons.injEq] at h;exact absurd (by rw [h.1];simp) h2
 |e::a,[],x,y,h1,_,h=>by
  simp only [List.nil_append,List.cons_append,List.cons.injEq] at h;exact absurd (by rw [<-h.1];simp) h1
 |e::a,f::b,x,y,h1,h2,h=>by
  simp only [List.cons_append,List.cons.injEq] at h;obtain ⟨h3,h4⟩:=zvl (fun hc=>h1 (by simp [hc])) (fun hc=>h2 (by simp [hc])) h.2;exact ⟨by rw [h.1,h3],h4⟩
theorem ztj (la:ByteArray) (c:Int) (re:ByteArray) (hc:0<=c):(qk la c re).data.toList=yao 19 la.size++(58::(la.data.toList++(yao 19 c.toNat++(32::re.data.toList)))):=by
 have h:=zyw (n:=(la.size:Int)) (by omega);rw [Int.toNat_natCast] at h;unfold qk;simp only [ByteArray.data_append,Array.toList_append,h,zyw hc,List.append_assoc];rfl
theorem ymb {la lb ra rb:ByteArray} {c e:Int} (ha:la.size<=1000000000000000) (hb:lb.size<=1000000000000000) (hc:0<=c/\c<2147483579) (he:0<=e/\e<2147483579) (h:qk la c ra=qk lb e rb):la=lb/\c=e/\ra=rb:=by
 have h1:(qk la c ra).data.toList=(qk lb e rb).data.toList:=by rw [h]
 rw [ztj _ _ _ hc.1,ztj _ _ _ he.1] at h1;have big:(1000000000000000:Nat)<10 ^ 20:=by decide
 have nd:∀u:Nat,u<=1000000000000000->∀k:UInt8,(k.toNat<48\/57<k.toNat)->k ∉ yao 19 u:=fun u hu k hk hm=>by
  have:=zti 19 u (by omega) k hm;omega
 obtain ⟨h2,h3⟩:=zvl (nd _ ha 58 (by decide)) (nd _ hb 58 (by decide)) h1;have hs:la.size=lb.size:=by
  rw [<-zhb 19 la.size (by omega),h2,zhb 19 lb.size (by omega)]
 have hl:la.data.toList.length=lb.data.toList.length:=by simpa using hs
 obtain ⟨h4,h5⟩:=List.append_inj h3 hl;obtain ⟨h6,h7⟩:=zvl (nd c.toNat (by omega) 32 (by decide)) (nd e.toNat (by omega) 32 (by decide)) h5;have hn:c.toNat=e.toNat:=by
  rw [<-zhb 19 c.toNat (by omega),h6,zhb 19 e.toNat (by omega)]
 exact ⟨ByteArray.ext (Array.toList_inj.1 h4),by omega,ByteArray.ext (Array.toList_inj.1 h7)⟩
def ybv (x:Int):List Int->List Int
 |[]=>[x]
 |y::l=>if x<=y then x::y::l else y::ybv x l
def yhl:List Int->List Int
 |[]=>[]
 |x::l=>ybv x (yhl l)
theorem zll (x:Int):∀l,(ybv x l).Perm (x::l)
 |[]=>.refl _
 |y::l=>by
  rw [ybv];split
  ·exact .refl _
  ·exact ((zll x l).cons y).trans (.swap x y l)
theorem ztk:∀l,(yhl l).Perm l
 |[]=>.refl _
 |x::l=>(zll x _).trans ((ztk l).cons x)
theorem zmi (x:Int):∀l,l.Pairwise (· <= ·)->(ybv x l).Pairwise (· <= ·)
 |[],_=>by simp [ybv]
 |y::l,h=>by
  rw [List.pairwise_cons] at h;rw [ybv];split
  ·rename_i hxy
   rw [List.pairwise_cons];refine ⟨fun z hz=>?_,List.pairwise_cons.2 h⟩;rcases List.mem_cons.1 hz with rfl|hz
   ·exact hxy
   ·have:=h.1 z hz;omega
  ·rename_i hxy
   rw [List.pairwise_cons];refine ⟨fun z hz=>?_,zmi x l h.2⟩;rcases List.mem_cons.1 ((zll x l).mem_iff.1 hz) with rfl|hz
   ·omega
   ·exact h.1 z hz
theorem zmj:∀l,(yhl l).Pairwise (· <= ·)
 |[]=>.nil
 |x::l=>zmi x _ (zmj l)
theorem zkj:∀{a b:List Int},a.Perm b->a.Pairwise (· <= ·)->b.Pairwise (· <= ·)->a=b
 |[],b,h,_,_=>by rw [List.nil_perm.1 h]
 |x::a,[],h,_,_=>by cases (List.perm_nil.1 h)
 |x::a,y::b,h,ha,hb=>by
  rw [List.pairwise_cons] at ha hb;have hxy:x=y:=by
   have h1:x∈y::b:=h.mem_iff.1 (by simp);have h2:y∈x::a:=h.mem_iff.2 (by simp);rcases List.mem_cons.1 h1 with h1|h1
   ·exact h1
   ·rcases List.mem_cons.1 h2 with h2|h2
    ·exact h2.symm
    ·have:=ha.1 y h2
     have:=hb.1 x h1;omega
  subst hxy;rw [zkj h.cons_inv ha.2 hb.2]
theorem zqo (l:List Int):zbo l=yhl l:=by
 refine zkj ((List.mergeSort_perm l fun x y=>decide (x<=y)).trans (ztk l).symm) ?_ (zmj l);have:=List.pairwise_mergeSort (le:=fun x y:Int=>decide (x<=y)) (fun a b c h1 h2=>by simp at*;omega) (fun a b=>by simp;omega) l;exact this.imp fun h=>by simpa using h
def inK (c:Codex) (day known:Int):List Int:=yhl ((yos c day known).map (·.2))
theorem yvb (c:Codex) (day known:Int):inA c day known=inK c day known:=zqo _
def ymc (S:AM) (used:List Bool):List Int:=Go.Lib.compact (yhl (((List.range used.length).filter fun i=>used.getD i false&&S.has.getD i false).map fun i=>S.nums.getD i 0))
theorem ymd (S:AM) (used:List Bool):zgu S used=ymc S used:=by
 unfold zgu ymc;rw [zqo]
def ytc (c:Codex) (S:AM) (inF:List Int) (s:List (Int × Int) × List (Int × Int)) (v:Int) (a:Article):Ln:=
 ⟨S.day,a.line,v,(zv a.number s.2).getD 0,ymc S (ziy c a),zjy c inF s.1 a⟩
theorem ypu (c:Codex) (S:AM) (inF:List Int) (s:List (Int × Int) × List (Int × Int)) (v:Int) (a:Article):zpc c S inF s v a=ytc c S inF s v a:=by
 unfold zpc ytc;rw [ymd]
def ybw (c:Codex) (S:AM) (inF:List Int) (s:List (Int × Int) × List (Int × Int)) (line:Ln):Bool:=
 match zcl c line.art with
 |some a=>if line.art∈inF/\(zv line.art s.1).getD 0=2 then ydr (ytc c S inF s line.art a) line else false
 |none=>false
theorem yhm (c:Codex) (S:AM) (inF:List Int) (s:List (Int × Int) × List (Int × Int)) (line:Ln):zfj c S inF s line=ybw c S inF s line:=by
 unfold zfj ybw;cases zcl c line.art with
 |none=>rfl
 |some a=>simp only [ypu]
def yme (c:Codex) (l:List Fact) (person:ByteArray) (known:Int) (line:Ln):Bool:=
 zde c&&ziv l&&(decide (0<=line.day)&&decide (line.day<=36524))&&(decide (0<=known)&&decide (known<=36524))&&decide ((ygi c).length=c.arts.length)&&
  ybw c (zbi c l person line.day known) (inK c line.day known) (yuo c (zbi c l person line.day known) (inK c line.day known) (ygi c)) line
theorem zew (c:Codex) (l:List Fact) (person:ByteArray) (known:Int) (line:Ln):zcm c l person known line=yme c l person known line:=by
 unfold zcm yme;rw [yvb,yhm]
variable (G:List (Nat × D))
theorem yvc {b:Nat} {H0:List SObj} {f:Ex} (l:List Ex) (hb:H0[b]?=some (.cells (f.cells.map .imm))) (hu:H0.all (SObj.under H0.length)=true):yup G 171 b H0 (fun e=> !decide (e.unit=f.unit)) l:=by
 intro e _;have hbl:=lt_of_getElem? hb;obtain ⟨xo,xn,xu,xd,xp,xk⟩:=e
 refine qs Tryz.func171 rfl (by rw [Tryz.ntmps171];simp) (by
  have h1:(Ex.mk xo xn xu xd xp xk).sv.under H0.length=true:=rfl;have h2:(SV.ptr b 0).under H0.length=true:=by simp [SV.under,hbl]
  simp only [List.all_cons,List.all_nil,h1,h2,Bool.and_true]) hu ?_
 intro E hH hK;(refine zo [777,5,7] 1000 ?_;conv=>whnf);refine xz (cs:=(Ex.mk xo xn xu xd xp xk).cells.map .imm) (v:=sS xu) rfl rfl rfl rfl (by simp) rfl ?_;(refine zj [777,5,7] 1000 ?_;conv=>whnf);refine xz (cs:=f.cells.map .imm) (v:=sS f.unit) rfl rfl rfl rfl ((List.getElem?_append_left hbl).trans hb) ?_ ?_
 ·rw [Ex.cells_eq];rfl
 (refine zc ?_;conv=>whnf);refine hK _ _ (by simp) rfl (by rw [List.take_left'];exact hu;rfl) ⟨rfl,by rw [List.take_left'];rfl⟩
theorem ymf {ks:List Ex} {f:Ex} (hf:ks.head?=some f):zox ks= !(ks.any fun e=> !decide (e.unit=f.unit)):=by
 cases ks with
 |nil=>cases hf
 |cons a r=>
  injection hf with hf
  subst hf;rw [zox,List.all_eq_not_any_not]
def yhn (op:Int) (u:ByteArray) (f l:Ex) (len:Int) (same:Bool):Bool:=
 if op=5 then decide (len=1)&&decide (u=tT)&&decide (f.unit=tT)
 else if op=6\/op=7 then decide (len=2)&&decide (u=tT)&&same&&decide (f.unit=tT)
 else if op=8 then decide (len=2)&&decide (u=tT)&&same
 else if op=9\/op=10 then decide (len=2)&&decide (u=tT)&&(same&& !decide (f.unit=tT))
 else if op=11\/op=12 then decide (len=2)&&(same&& !decide (f.unit=tT))&&decide (u=f.unit)
 else if op=16\/op=17 then decide (2<=len)&&(same&& !decide (f.unit=tT))&&decide (u=f.unit)
 else if op=13 then decide (len=2)&& !decide (f.unit=tT)&& !decide (l.unit=tT)&&(decide (f.unit=tN)||decide (l.unit=tN))&&decide (u=if f.unit=tN then l.unit else f.unit)
 else if op=14 then decide (len=2)&&decide (l.op=1)&&decide (l.unit=tN)&&(decide (1<=l.n)&&decide (l.n<=1000000))&& !decide (f.unit=tT)&&decide (u=f.unit)
 else if op=15 then decide (len=2)&&decide (f.unit=tM)&&zol l.unit&&decide (u=l.unit)
 else false
theorem ytd (op:Int) (u:ByteArray) (f l:Ex) (len:Int) (same:Bool):ynd op u f l len same=yhn op u f l len same:=by
 unfold ynd yhn;rw [show (!decide (l.n<1)&& !decide (1000000<l.n))=(decide (1<=l.n)&&decide (l.n<=1000000)) from by rw [Bool.eq_iff_iff];simp]
theorem zyx (op n:Int) (u:ByteArray) (den:Int) (ps:List Piece) (ks:List Ex) (f l:Ex) (hf:ks.head?=some f) (hl:ks.getLast?=some l) (hsz:ks.length<=1000000000):
  zq Tryz.prog G 140 [(Ex.mk op n u den ps ks).sv] (sB (ynd op u f l ks.length (zox ks))):=by
 have hrows:=xy ks;have hlen:(zm ks).length=ks.length:=by rw [hrows];simp
 have hpos:1<=ks.length:=by cases ks with|nil=>simp at hf|cons a r=>simp
 have h0:(zm ks)[0]?=some f.cells:=by
  rw [hrows];cases ks with
  |nil=>simp at hf
  |cons a r=>simp at hf;simp [hf]
 have h1:(zm ks)[ks.length-1]?=some l.cells:=by
  rw [hrows,List.getElem?_map];rw [List.getLast?_eq_getElem?] at hl;rw [hl];rfl
 have hone:ks.length=1->zox ks=true:=by
  intro h
  match ks,h with
  |[k],_=>simp [zox]
 have hm:IntKind.i64.wrap (((zm ks).length:Int)-1)=((ks.length-1:Nat):Int):=by rw [zr (by omega) (by omega)];omega
 have hcon:=fun H0 hb hu=>zka G (g:=171) (b:=1) (H0:=H0) (p:=fun e=> !decide (e.unit=f.unit)) (l:=ks) rfl (lt_of_getElem? hb) hu hsz (yvc G ks hb hu)
 rw [<-hrows] at hcon;have hsame:=ymf hf;generalize (ks.any fun e=> !decide (e.unit=f.unit))=an at hcon hsame;obtain ⟨o0,n0,u0,d0,p0,q0⟩:=f;obtain ⟨o1,n1,u1,d1,p1,q1⟩:=l;have hcur:=zis G u1;refine zg Tryz.func140 rfl (by rw [Tryz.ntmps140];simp) rfl rfl ?_;intro E hH hK;(refine xa ?_;conv=>whnf);(refine wk 2 mixed rfl ?_;refine zn [] (nx:=1) ?_;conv=>whnf);refine qg rfl (by simp) rfl  (row:=(Ex.mk o0 n0 u0 d0 p0 q0).cells) h0 ?_;(refine zn [] (nx:=1) ?_;conv=>whnf);refine qg rfl (by simp) hm (row:=(Ex.mk o1 n1 u1 d1 p1 q1).cells) h1 ?_;(refine zn [] (nx:=1) ?_;conv=>whnf);(refine xa ?_;conv=>whnf);refine zbb 3 rfl rfl rfl rfl rfl rfl (hcon _ rfl rfl) ?_;rintro r9 H9 ⟨rfl,rfl⟩ _;have hs2:an= !zox ks:=by rw [hsame,Bool.not_not]
 clear hcon hsame;rw [ytd] at hK;generalize zox ks=sm at hK hs2 hone;subst hs2;rw [<-hlen] at hK hone;clear hm h0 h1 hf hl hlen hpos hrows;cases sm with
 |false=>
  have hone:¬(zm ks).length=1:=fun h=>Bool.noConfusion (hone h)
  (refine xr ?_;conv=>whnf)
  repeat' ((with_reducible refine way ?_ ?_)<;>(intro h;conv=>whnf))
  all_goals try (refine kB hK ?_;(try simp [yhn,tT,tN,tM,Ex.unit,Ex.op,Ex.n, *]);(try exact decide_eq_decide.2 Iff.rfl);(try omega))
  any_goals refine zd rfl  hcur ?_
  any_goals (refine xr ?_;conv=>whnf)
  any_goals repeat' ((with_reducible refine way ?_ ?_)<;>(intro h;conv=>whnf))
  all_goals try (refine kB hK ?_;(try simp [yhn,tT,tN,tM,Ex.unit,Ex.op,Ex.n, *]);(try exact decide_eq_decide.2 Iff.rfl);(try omega))
  all_goals trace_state
 |true=>
  clear hone;(refine xr ?_;conv=>whnf)
  repeat' ((with_reducible refine way ?_ ?_)<;>(intro h;conv=>whnf))
  all_goals try (refine kB hK ?_;(try simp [yhn,tT,tN,tM,Ex.unit,Ex.op,Ex.n, *]);(try exact decide_eq_decide.2 Iff.rfl);(try omega))
  any_goals refine zd rfl  hcur ?_
  any_goals (refine xr ?_;conv=>whnf)
  any_goals repeat' ((with_reducible refine way ?_ ?_)<;>(intro h;conv=>whnf))
  all_goals try (refine kB hK ?_;(try simp [yhn,tT,tN,tM,Ex.unit,Ex.op,Ex.n, *]);(try exact decide_eq_decide.2 Iff.rfl);(try omega))
  all_goals trace_state
def zjg (m:List (Int × Int)) (n:Int):List SObj:=[.mapI .i64 (jf sI m),.cells [sI n]]
theorem zlm (m:List (Int × Int)) (n:Int):(zjg m n).all (SObj.under 2)=true:=by
 simp only [zjg,List.all_cons,zgo];rfl
theorem ymg {op:Int} (u:ByteArray) (f l:Ex) (len:Int) (same:Bool) (h:1<=op/\op<=4):ynd op u f l len same=false:=by
 unfold ynd;rw [if_neg (by omega),if_neg (by omega),if_neg (by omega),if_neg (by omega),if_neg (by omega),if_neg (by omega),if_neg (by omega),if_neg (by omega),if_neg (by omega)]
theorem ybx {facts lines:List Decl} {m:List (Int × Int)} {n:Int} {u:ByteArray} (h:zv n m=none):zgp facts lines m 3 n u=false:=by
 unfold zgp;simp [h]
theorem zyy (c : Codex) (hcs : c.facts.length <= 1000000) (m : List (Int × Int)) (hm : ∀ k v, zv k m = some v -> 0 <= v /\ v < c.lines.length) (N : Nat) : ∀ (e : Ex), SizeOf.sizeOf e < N -> ∀ (depth cnt : Int), 0 <= depth -> depth <= 41 -> 0 <= cnt -> cnt <= 400 ->
    SPre Tryz.prog G 103 [c.sv, .map 0, e.sv, sI depth, .ptr 1 0] (zjg m cnt) (fun r H1 => r = sB (qp c m e depth cnt).1 /\ H1 = zjg m (qp c m e depth cnt).2) := by
  induction N with
  | zero => intro e h; omega
  | succ N IH =>
  intro e he depth cnt hd0 hd1 hc0 hc1
  obtain ⟨op, n, u, den, ps, ks⟩ := e
  simp only [Ex.mk.sizeOf_spec] at he
  have hsv : (Ex.mk op n u den ps ks).sv = .agg [sI op, sI n, sS u, sI den, .imm (.isl 3 (ps.map Piece.cells)), .imm (.isl 6 (zm ks))] := rfl
  have hcv : c.sv = .agg [.imm (zu c.facts), .imm (zu c.lines), .imm (wa c.arts)] := rfl
  refine qs Tryz.func103 rfl (by rw [Tryz.ntmps103]; simp) rfl (zlm m cnt) ?_
  intro E hH hK
  have fin : ∀ H' q, H'.take 2 = zjg m q -> 2 <= H'.length -> ∀ b, qp c m (.mk op n u den ps ks) depth cnt = (b, q) -> E.K (sB b) H' := fun H' q h1 h2 b h3 =>
    hK _ _ h2 rfl (by show (List.take 2 H').all _ = true; rw [h1]; exact zlm m q) ⟨by rw [h3], by rw [h3]; exact h1⟩
  have hw1 : IntKind.i64.wrap (cnt + 1) = cnt + 1 := zr (by omega) (by omega)
  have hrows := xy ks
  have hlen : (zm ks).length = ks.length := by rw [hrows]; simp
  rw [hsv, hcv]
  refine zo [19] 1000 ?_; conv => whnf
  rw [hw1]
  (refine xr ?_; conv => whnf)
  repeat' ((with_reducible refine way ?_ ?_) <;> (intro h; conv => whnf))
  all_goals try exact fin _ _ rfl (by simp) _ (by simp only [qp]; rw [if_pos (by omega)])
  refine zd rfl  (zlt G u) ?_
  cases huo : zls u with
  | false =>
    (refine xr ?_; conv => whnf)
    exact fin _ _ rfl (by simp) _ (by simp only [qp]; rw [if_pos (.inr (.inr huo))])
  | true =>
  (refine xr ?_; conv => whnf)
  have hstart : qp c m (.mk op n u den ps ks) depth cnt = (match jq c m ks (depth + 1) (cnt + 1) with | (true, cnt') => (zdd c m op n u den ps ks, cnt') | (false, cnt') => (false, cnt')) := by
    simp only [qp]; rw [if_neg (by rw [huo]; simp; omega)]; try rfl
  have hup := zxc c m (N + 1)
  have hwd : IntKind.i64.wrap (depth + 1) = depth + 1 := zr (by omega) (by omega)
  refine zh [1, 3, 4, 5, 7, 35, 36, 37] ?_
  change SW E _ [(1, .map 0), (3, sI depth), (4, .ptr 1 0), (5, .ptr 2 0), (7, .ptr 3 0), (35, .imm (.isl 6 (zm ks))), (36, sI ((zm ks).length : Nat)), (37, sI (0 : Nat))] (zjg m (cnt + 1) ++ [.cells [.imm (zu c.facts), .imm (zu c.lines), .imm (wa c.arts)], .cells [sI op, sI n, sS u, sI den, .imm (.isl 3 (ps.map Piece.cells)), .imm (.isl 6 (zm ks))]])
  rw [hlen]
  refine zp ks (fun i (_ : Int) => [(1, .map 0), (3, sI depth), (4, .ptr 1 0), (5, .ptr 2 0), (7, .ptr 3 0), (35, .imm (.isl 6 (zm ks))), (36, sI (ks.length : Nat)), (37, sI (i : Nat))])
    (fun _ q => zjg m q ++ [.cells [.imm (zu c.facts), .imm (zu c.lines), .imm (wa c.arts)], .cells [sI op, sI n, sS u, sI den, .imm (.isl 3 (ps.map Piece.cells)), .imm (.isl 6 (zm ks))]])
    (fun done rest q => jq c m ks (depth + 1) (cnt + 1) = jq c m rest (depth + 1) q /\ cnt + 1 + done.length <= q /\ q <= 400) (cnt + 1) ⟨rfl, by simp, by omega⟩ ?_ ?_
  · as_aux_lemma =>
      rintro q ⟨h1, h2, h3⟩
      simp only [jq] at h1
      rw [h1] at hstart
      simp only at hstart
      have hsz : ks.length <= 400 := by omega
      have fin2 : ∀ H' b, H'.take 2 = zjg m q -> 2 <= H'.length -> zdd c m op n u den ps ks = b -> E.K (sB b) H' := fun H' b g1 g2 g3 => fin H' q g1 g2 b (by rw [hstart, g3])
      have hpl : (ps.map Piece.cells).length = ps.length := by simp
      have hfl : (c.facts.map Decl.cells).length = c.facts.length := by simp
      clear IH hup hstart hK fin huo
      by_cases h18 : op = 18
      · subst h18
        have hn18 : zdd c m 18 n u den ps ks = (decide (n = 0) && decide (ks.length = 1) && zol u && (match ks with | k :: _ => decide (u = k.unit) | [] => false) && zci den ps) := by unfold zdd; rw [if_pos rfl]; try rfl
        have hcur := zis G u
        have htb := zuy G den ps
        generalize zol u = b1 at hcur hn18
        generalize zci den ps = b2 at htb hn18
        cases ks with
        | nil =>
          (refine xa ?_; conv => whnf)
          repeat' ((with_reducible refine way ?_ ?_) <;> (intro h; conv => whnf))
          all_goals try (exfalso; omega)
          (refine zx mixed rfl ?_; refine zf [] ?_; conv => whnf)
          repeat' ((with_reducible refine way ?_ ?_) <;> (intro h; conv => whnf))
          all_goals (refine xa ?_; conv => whnf)
          all_goals exact fin2 _ _ rfl (by simp [zjg]) (by rw [hn18]; simp)
        | cons k0 kr =>
          obtain ⟨o0, n0, u0, d0, p0, q0⟩ := k0
          have h0 : (zm (Ex.mk o0 n0 u0 d0 p0 q0 :: kr))[0]? = some (Ex.mk o0 n0 u0 d0 p0 q0).cells := by simp [zm]
          (refine xa ?_; conv => whnf)
          repeat' ((with_reducible refine way ?_ ?_) <;> (intro h; conv => whnf))
          all_goals try (exfalso; omega)
          (refine zx mixed rfl ?_; refine zf [] ?_; conv => whnf)
          repeat' ((with_reducible refine way ?_ ?_) <;> (intro h; conv => whnf))
          · refine yf rfl  hcur ?_
            cases b1 with
            | false =>
              (refine zf [] ?_; conv => whnf)
              (refine xa ?_; conv => whnf)
              exact fin2 _ _ rfl (by simp [zjg]) (by rw [hn18]; simp)
            | true =>
            (refine zf [] ?_; conv => whnf)
            refine yx rfl rfl  (row := (Ex.mk o0 n0 u0 d0 p0 q0).cells) h0 ?_
            (refine zf [] ?_; conv => whnf)
            repeat' ((with_reducible refine way ?_ ?_) <;> (intro h; conv => whnf))
            · refine yf rfl  htb ?_
              (refine zf [] ?_; conv => whnf)
              (refine xa ?_; conv => whnf)
              refine fin2 _ _ rfl (by simp [zjg]) ?_
              rw [hn18, decide_eq_true ‹n = 0›, decide_eq_true (show (Ex.mk o0 n0 u0 d0 p0 q0 :: kr).length = 1 by omega)]
              have hu : decide (u = (Ex.mk o0 n0 u0 d0 p0 q0).unit) = true := decide_eq_true h.symm
              simp only [hu]
              try rfl
            · (refine xa ?_; conv => whnf)
              refine fin2 _ _ rfl (by simp [zjg]) ?_
              have hu : decide (u = (Ex.mk o0 n0 u0 d0 p0 q0).unit) = false := decide_eq_false (fun e => h (Eq.symm e))
              rw [hn18]
              simp only [hu]
              simp
          · (refine xa ?_; conv => whnf)
            exact fin2 _ _ rfl (by simp [zjg]) (by rw [hn18, decide_eq_false (show ¬ (Ex.mk o0 n0 u0 d0 p0 q0 :: kr).length = 1 by omega)]; simp)
          · (refine xa ?_; conv => whnf)
            exact fin2 _ _ rfl (by simp [zjg]) (by rw [hn18, decide_eq_false h]; simp)
      by_cases htab : ¬ den = 0 \/ 0 < ps.length
      · (refine xa ?_; conv => whnf)
        repeat' ((with_reducible refine way ?_ ?_) <;> (intro h; conv => whnf))
        all_goals try (exfalso; omega)
        all_goals exact fin2 _ _ rfl (by simp [zjg]) (by unfold zdd; rw [if_neg h18, if_pos htab])
      have hnode : zdd c m op n u den ps ks = if 1 <= op /\ op <= 4 then decide (ks.length = 0) && zgp c.facts c.lines m op n u else decide (n = 0) && (match ks.head?, ks.getLast? with | some f, some l => ynd op u f l ks.length (zox ks) | _, _ => false) := by
        unfold zdd; rw [if_neg h18, if_neg htab]; try rfl
      cases ks with
      | cons k0 kr =>
        obtain ⟨l, hl⟩ : ∃ l, (k0 :: kr).getLast? = some l := ⟨_, List.getLast?_eq_some_getLast (by simp)⟩
        have hopr := zyx G op n u den ps (k0 :: kr) k0 l rfl hl (by omega)
        rw [hl] at hnode
        simp only [List.head?_cons] at hnode
        have hnode : zdd c m op n u den ps (k0 :: kr) = (decide (n = 0) && ynd op u k0 l (k0 :: kr).length (zox (k0 :: kr))) := by
          rw [hnode]
          split
          · rename_i h
            rw [ymg u k0 l _ _ h, Bool.and_false]
            rfl
          · rfl
        have hpos : 0 < (zm (k0 :: kr)).length := by simp [zm]
        rw [hsv] at hopr
        generalize ynd op u k0 l (k0 :: kr).length (zox (k0 :: kr)) = b1 at hopr hnode
        (refine xa ?_; conv => whnf)
        repeat' ((with_reducible refine way ?_ ?_) <;> (intro h; conv => whnf))
        all_goals try (exfalso; omega)
        all_goals first
          | exact fin2 _ _ rfl (by simp [zjg]) (by rw [hnode, decide_eq_false ‹¬ n = 0›]; rfl)
          | (refine zd rfl  hopr ?_
             (refine xr ?_; conv => whnf)
             exact fin2 _ _ rfl (by simp [zjg]) (by rw [hnode, decide_eq_true ‹n = 0›]; rfl))
      | nil =>
        have hnode : zdd c m op n u den ps [] = if 1 <= op /\ op <= 4 then zgp c.facts c.lines m op n u else false := by
          rw [hnode]
          split
          · rfl
          · simp
        by_cases hop : 1 <= op /\ op <= 4
        · rw [if_pos hop] at hnode
          rcases (show op = 1 \/ op = 2 \/ op = 3 \/ op = 4 by omega) with rfl | rfl | rfl | rfl
          · (refine xa ?_; conv => whnf)
            repeat' ((with_reducible refine way ?_ ?_) <;> (intro h; conv => whnf))
            all_goals try (exfalso; omega)
            all_goals exact fin2 _ _ rfl (by simp [zjg]) (by rw [hnode]; simp [zgp, tT, *]; try omega)
          · (refine xa ?_; conv => whnf)
            repeat' ((with_reducible refine way ?_ ?_) <;> (intro h; conv => whnf))
            all_goals try (exfalso; omega)
            (refine zx mixed rfl ?_; refine zf [] ?_; conv => whnf)
            repeat' ((with_reducible refine way ?_ ?_) <;> (intro h; conv => whnf))
            · have hlt : n.toNat < c.facts.length := by omega
              obtain ⟨d, hd⟩ : ∃ d, c.facts[n.toNat]? = some d := ⟨c.facts[n.toNat], List.getElem?_eq_getElem hlt⟩
              refine yx rfl (i := n.toNat) (by omega) (row := d.cells) (by simp [hd]) ?_
              (refine zf [] ?_; conv => whnf)
              (refine xa ?_; conv => whnf)
              refine fin2 _ _ rfl (by simp [zjg]) ?_
              have hua : zsh c.facts n u = decide (u = d.unit) := by simp only [zsh, hd]
              rw [hnode]
              have : decide (d.unit = u) = decide (u = d.unit) := decide_eq_decide.2 ⟨Eq.symm, Eq.symm⟩
              rw [this]
              simp [zgp, hua, *]; omega
            all_goals (refine xa ?_; conv => whnf)
            all_goals refine fin2 _ _ rfl (by simp [zjg]) ?_
            all_goals (rw [hnode]; simp [zgp, *]; try omega)
          · cases hlk : zv n m with
            | none =>
              (refine xa ?_; conv => whnf)
              repeat' ((with_reducible refine way ?_ ?_) <;> (intro h; conv => whnf))
              all_goals try (exfalso; omega)
              refine zau sI rfl rfl rfl rfl rfl rfl rfl rfl rfl (v := sI 0) (p := false) (by rw [hlk]; rfl) (by rw [hlk]; rfl) ?_
              (refine xr ?_; conv => whnf)
              (refine zx mixed rfl ?_; refine zf [] ?_; conv => whnf)
              (refine xa ?_; conv => whnf)
              exact fin2 _ _ rfl (by simp [zjg]) (by rw [hnode]; exact ybx hlk)
            | some line =>
              obtain ⟨hl0, hl1⟩ := hm n line hlk
              obtain ⟨d, hd⟩ : ∃ d, c.lines[line.toNat]? = some d := ⟨c.lines[line.toNat]'(by omega), List.getElem?_eq_getElem _⟩
              (refine xa ?_; conv => whnf)
              repeat' ((with_reducible refine way ?_ ?_) <;> (intro h; conv => whnf))
              all_goals try (exfalso; omega)
              refine zau sI rfl rfl rfl rfl rfl rfl rfl rfl rfl (v := sI line) (p := true) (by rw [hlk]; rfl) (by rw [hlk]; rfl) ?_
              (refine xr ?_; conv => whnf)
              (refine zx mixed rfl ?_; refine zf [] ?_; conv => whnf)
              refine yx rfl (i := line.toNat) (by omega) (row := d.cells) (by simp [hd]) ?_
              (refine zf [] ?_; conv => whnf)
              (refine xa ?_; conv => whnf)
              have hua : zsh c.lines line u = decide (u = d.unit) := by simp only [zsh, hd]
              refine fin2 _ _ rfl (by simp [zjg]) ?_
              have : decide (d.unit = u) = decide (u = d.unit) := decide_eq_decide.2 ⟨Eq.symm, Eq.symm⟩
              rw [hnode, this]
              simp [zgp, hlk, hua, *]
          · (refine xa ?_; conv => whnf)
            repeat' ((with_reducible refine way ?_ ?_) <;> (intro h; conv => whnf))
            all_goals try (exfalso; omega)
            all_goals exact fin2 _ _ rfl (by simp [zjg]) (by rw [hnode]; simp [zgp, tN, *]; try omega)
        · rw [if_neg hop] at hnode
          (refine xa ?_; conv => whnf)
          repeat' ((with_reducible refine way ?_ ?_) <;> (intro h; conv => whnf))
          all_goals try (exfalso; omega)
          all_goals exact fin2 _ _ rfl (by simp [zjg]) hnode
  · as_aux_lemma =>
      rintro done kid rest q ha hl ⟨h1, h2, h3⟩ ih
      have hw := zk (n := done.length) (by omega)
      have hks : SizeOf.sizeOf kid < SizeOf.sizeOf ks := List.sizeOf_lt_of_mem (by rw [ha]; simp)
      have hcall := IH kid (by omega) (depth + 1) q (by omega) (by omega) (by omega) h3
      simp only [jq] at h1
      have hkup := hup.1 kid (by omega) (depth + 1) q
      obtain ⟨o1, n1, u1, d1, p1, q1⟩ := kid
      (refine xa ?_; conv => whnf)
      repeat' ((with_reducible refine way ?_ ?_) <;> (intro h; conv => whnf))
      all_goals try (exfalso; omega)
      refine zi rfl rfl  (row := (Ex.mk o1 n1 u1 d1 p1 q1).cells) (by rw [hrows]; simp [ha]) ?_
      (refine xr ?_; conv => whnf)
      rw [hwd]
      refine zbb 2 rfl rfl rfl rfl rfl rfl hcall ?_
      rintro r H1 ⟨rfl, rfl⟩ _
      revert h1 hkup
      cases qp c m (.mk o1 n1 u1 d1 p1 q1) (depth + 1) q with
      | mk b q' =>
        cases b with
        | true =>
          simp only
          intro h1 hkup
          (refine xr ?_; conv => whnf)
          rw [hw]
          exact ys [1, 3, 4, 5, 7, 35, 36, 37] 4 (by rw [hH]; simp [zjg]) (by simp [zjg]) rfl (by simp [zjg, zgo]; exact ⟨rfl, rfl, rfl⟩) (ih q' ⟨h1, by simp; omega, hkup.2 trivial⟩)
        | false =>
          simp only
          intro h1 hkup
          (refine xr ?_; conv => whnf)
          refine fin _ q' rfl (by simp [zjg]) _ ?_
          rw [hstart, h1]
theorem yeo (σ:Nat->Nat) (m:List (Int × Int)):(SObj.mapI .i64 (jf sI m)).ren σ= .mapI .i64 (jf sI m):=by
 simp [SObj.ren,jf,SV.ren]
theorem ztl (c:Codex) (hcs:c.facts.length<=1000000) (m:List (Int × Int)) (hm:∀k v,zv k m=some v->0<=v/\v<c.lines.length) (e:Ex) (depth cnt:Int) (h0:0<=depth) (h1:depth<=41) (h2:0<=cnt) (h3:cnt<=400) {H:List SObj} {mi ni:Nat} (hne:mi≠ni)
  (hmi:H[mi]?=some (.mapI .i64 (jf sI m))) (hni:H[ni]?=some (.cells [sI cnt])):
  SCall Tryz.prog G 103 [c.sv,.map mi,e.sv,sI depth,.ptr ni 0] H (fun r H'=>r=sB (qp c m e depth cnt).1/\H'=H.set ni (.cells [sI (qp c m e depth cnt).2])):=by
 have hml:=lt_of_getElem? hmi;have hnl:=lt_of_getElem? hni;have hs:=zyy G c hcs m hm (SizeOf.sizeOf e+1) e (Nat.lt_succ_self _) depth cnt h0 h1 h2 h3 [];rw [List.append_nil] at hs;generalize qp c m e depth cnt=fr at hs;have hcr:∀σ,c.sv.ren σ=c.sv:=fun σ=>rfl
 have her:∀σ,e.sv.ren σ=e.sv:=fun σ=>by cases e;rfl
 have hlen2:(zjg m cnt).length=2:=rfl;have:=zop (K':=fun r H'=>r=sB fr.1/\H'=H.set ni (.cells [sI fr.2])) hs (H:=H) (fun b=>if b=0 then mi else if b=1 then ni else H.length+(b-2)) ?_ ?_ ?_ ?_ (zlm m cnt) ?_
 ·have e1:([c.sv,.map 0,e.sv,sI depth,.ptr 1 0]:List SV).map (SV.ren (fun b=>if b=0 then mi else if b=1 then ni else H.length+(b-2)))=[c.sv,.map mi,e.sv,sI depth,.ptr ni 0]:=by
   simp only [List.map_cons,List.map_nil,hcr,her];rfl
  rw [e1] at this;exact this
 ·intro b b' hb hb' h
  rw [hlen2] at hb hb';rcases (show b=0\/b=1 by omega) with rfl|rfl<;>rcases (show b'=0\/b'=1 by omega) with rfl|rfl<;>first|rfl|(exact absurd h hne)|(exact absurd h.symm hne)
 ·intro i
  simp only [hlen2];rw [if_neg (by omega),if_neg (by omega)];omega
 ·intro b o hb
  match b,hb with
  |0,hb=>
   injection hb with hb
   subst hb;rw [yeo];exact hmi
  |1,hb=>
   injection hb with hb
   subst hb;exact hni
  |b+2,hb=>simp [zjg] at hb
 ·have hcu:c.sv.under 2=true:=rfl
  have heu:e.sv.under 2=true:=by cases e;rfl
  simp only [List.all_cons,List.all_nil,hlen2,hcu,heu];rfl
 ·rintro r H1 H' ⟨H2,⟨rfl,rfl⟩,hl2,rfl⟩ hlen hl3 hsame hother
  refine ⟨rfl,?_⟩;rw [List.append_nil] at hl3 hsame hlen;have hl4:H'.length=H.length:=by
   have:(zjg m fr.2).length=2:=rfl;rw [this,hlen2] at hl3;omega
  apply List.ext_getElem?
  intro i
  by_cases hi:i=ni
  ·subst hi
   rw [List.getElem?_set_self hnl];exact hsame 1 _ rfl
  ·rw [List.getElem?_set_ne (fun h=>hi h.symm)]
   by_cases hi2:i=mi
   ·subst hi2
    have h5:=hsame 0 _ rfl;rw [yeo] at h5;exact h5.trans hmi.symm
   ·rcases Nat.lt_or_ge i H.length with hlt|hge
    ·refine hother i hlt (fun b hb h=>?_)
     rw [hlen2] at hb;rcases (show b=0\/b=1 by omega) with rfl|rfl
     ·exact hi2 h.symm
     ·exact hi h.symm
    ·rw [List.getElem?_eq_none (by omega),List.getElem?_eq_none hge]
theorem yby (c:Codex) (hcs:c.facts.length<=1000000) (m:List (Int × Int)) (hm:∀k v,zv k m=some v->0<=v/\v<c.lines.length) (e:Ex) (depth cnt:Int) (h0:0<=depth) (h1:depth<=41) (h2:0<=cnt) (h3:cnt<=400) {H:List SObj} {mi ni:Nat} (hne:mi≠ni)
  (hmi:H[mi]?=some (.mapI .i64 (jf sI m))) (hni:H[ni]?=some (.cells [sI cnt])):
  SPre Tryz.prog G 103 [c.sv,.map mi,e.sv,sI depth,.ptr ni 0] H (fun r H'=>r=sB (qp c m e depth cnt).1/\H'=H.set ni (.cells [sI (qp c m e depth cnt).2])):=by
 intro X;have hnl:=lt_of_getElem? hni;refine (ztl G c hcs m hm e depth cnt h0 h1 h2 h3 hne (H:=H++X) (by rw [List.getElem?_append_left (lt_of_getElem? hmi)];exact hmi) (by rw [List.getElem?_append_left hnl];exact hni)).mono ?_;rintro r H' ⟨rfl,rfl⟩;exact ⟨_,⟨rfl,rfl⟩,by simp,by rw [List.set_append_left _ _ hnl]⟩
theorem zvm (c:Codex) (hfit:Codex.fit c) (hcs:c.facts.length<=1000000) (hls:c.lines.length<=1000000) (has:c.arts.length<=1000000):zq Tryz.prog G 63 [c.sv] (sB (zde c)):=by
 have hlf:(c.facts.map Decl.cells).length=c.facts.length:=by simp
 have hll:(c.lines.map Decl.cells).length=c.lines.length:=by simp
 have hla:(c.arts.map Article.cells).length=c.arts.length:=by simp
 have hd1:=zjz G c.facts 0 0 (by omega);have hd2:=zjz G c.lines 1 4 (by omega);have hok0:zde c=((zae 0 0 c.facts&&decide (c.facts.length<=32))&&(zae 1 4 c.lines&&decide (c.lines.length<=32))&&decide (c.arts.length<=60)&&(match qw c.lines.length c.arts [] with|some m=>c.arts.all (zri c m)|none=>false)):=by
  unfold zde;cases zae 0 0 c.facts<;>cases zae 1 4 c.lines<;>cases decide (c.facts.length<=32)<;>cases decide (c.lines.length<=32)<;>cases decide (c.arts.length<=60)<;>rfl
 generalize zde c=ok at hok0;generalize (zae 0 0 c.facts&&decide (c.facts.length<=32))=b1 at hd1 hok0;generalize (zae 1 4 c.lines&&decide (c.lines.length<=32))=b2 at hd2 hok0;rw [show c.sv= .agg [.imm (zu c.facts),.imm (zu c.lines),.imm (wa c.arts)] from rfl];refine zg Tryz.func63 rfl (by rw [Tryz.ntmps63];simp) rfl rfl ?_;intro E hH hK;(refine ze ?_;conv=>whnf);refine zd rfl  hd1 ?_;cases b1 with
 |false=>
  (refine zc ?_;conv=>whnf);exact kB hK (by rw [hok0];rfl)
 |true=>
 (refine zc ?_;conv=>whnf);refine zd rfl  hd2 ?_;cases b2 with
 |false=>
  (refine zc ?_;conv=>whnf);exact kB hK (by rw [hok0];rfl)
 |true=>
 (refine zc ?_;conv=>whnf)
 repeat' ((with_reducible refine way ?_ ?_)<;>(intro h;conv=>whnf))
 ·exact kB hK (by rw [hok0,decide_eq_false (show ¬c.arts.length<=60 by omega)];rfl)
 have hok:ok=(match qw c.lines.length c.arts [] with|some m=>c.arts.all (zri c m)|none=>false):=by
  rw [hok0,decide_eq_true (show c.arts.length<=60 by omega)];rfl
 clear hok0 hd1 hd2;refine zh [1,3,36,37,38] ?_;change SW E _ [(1,.ptr 0 0),(3,.map 1),(36,.imm (wa c.arts)),(37,sI ((c.arts.map Article.cells).length:Nat)),(38,sI (0:Nat))] [.cells [.imm (zu c.facts),.imm (zu c.lines),.imm (wa c.arts)],.mapI .i64 (jf sI [])];rw [hla];refine zp c.arts (fun i (_:List (Int × Int))=>[(1,.ptr 0 0),(3,.map 1),(36,.imm (wa c.arts)),(37,sI (c.arts.length:Nat)),(38,sI (i:Nat))])
  (fun _ m=>[.cells [.imm (zu c.facts),.imm (zu c.lines),.imm (wa c.arts)],.mapI .i64 (jf sI m)])
  (fun _ rest m=>qw c.lines.length c.arts []=qw c.lines.length rest m) [] rfl ?_ ?_
 ·rintro m h1
  simp only [qw] at h1;rw [h1] at hok;simp only at hok;obtain ⟨hm,hlines⟩:=zjw _ _ _ _ h1 (by intro k v h;simp [zv] at h);(refine ze ?_;conv=>whnf)
  repeat' ((with_reducible refine way ?_ ?_)<;>(intro h;conv=>whnf))
  all_goals try (exfalso;omega)
  refine zh [1,3,84,85,86] ?_;change SW E _ [(1,.ptr 0 0),(3,.map 1),(84,.imm (wa c.arts)),(85,sI ((c.arts.map Article.cells).length:Nat)),(86,sI (0:Nat))] [.cells [.imm (zu c.facts),.imm (zu c.lines),.imm (wa c.arts)],.mapI .i64 (jf sI m)];rw [hla];refine zp c.arts (fun i (_:Unit)=>[(1,.ptr 0 0),(3,.map 1),(84,.imm (wa c.arts)),(85,sI (c.arts.length:Nat)),(86,sI (i:Nat))])
   (fun _ _=>[.cells [.imm (zu c.facts),.imm (zu c.lines),.imm (wa c.arts)],.mapI .i64 (jf sI m)]) (fun done rest _=>ok=rest.all (zri c m)) () hok ?_ ?_
  ·rintro _ h2
   (refine ze ?_;conv=>whnf)
   repeat' ((with_reducible refine way ?_ ?_)<;>(intro h;conv=>whnf))
   all_goals try (exfalso;omega)
   exact kB hK (by rw [h2];rfl)
  ·rintro done a rest _ ha hl h2 ih
   have hmem:a∈c.arts:=by rw [ha];simp
   have hw:=zk (n:=done.length) (by omega);obtain ⟨hun,hwh⟩:=hfit a hmem;have hline:=hlines a hmem;have hwl:(a.when_.map Ex.cells).length=a.when_.length:=by simp
   have hul:(a.unless_.map fun n=>[dI n]).length=a.unless_.length:=by simp
   obtain ⟨d,hd⟩:∃d,c.lines[a.line.toNat]?=some d:=⟨c.lines[a.line.toNat]'(by omega),List.getElem?_eq_getElem _⟩;have hlu:zus c a.line=d.unit:=by simp only [zus,hd]
   have hdr:(c.lines.map Decl.cells)[a.line.toNat]?=some d.cells:=by rw [List.getElem?_map,hd];rfl
   have bad:zri c m a=false->ok=false:=fun h=>by rw [h2,List.all_cons,h];rfl
   have good:zri c m a=true->ok=rest.all (zri c m):=fun h=>by rw [h2,List.all_cons,h];rfl
   have hart:zri c m a=(zgq a&&a.unless_.all (fun n=>(zv n m).isSome)&&a.when_.all (fun e=>(jt c m e tT).1)&&(jt c m a.amount d.unit).1):=by
    rw [<-hlu];rfl
   have hamt:∀{H:List SObj} {mi ni:Nat},mi≠ni->H[mi]?=some (.mapI .i64 (jf sI m))->H[ni]?=some (.cells [sI 0])->_:=fun {H mi ni} q1 q2 q3=>yby G c hcs m hm a.amount 1 0 (by omega) (by omega) (by omega) (by omega) (H:=H) (mi:=mi) (ni:=ni) q1 q2 q3
   have hday:=zff G a.known
   have bad1:¬(0<=a.rank/\a.rank<=1000000/\0<=a.lo/\a.lo<a.hi/\a.hi<=36525/\zjr a.known=true)->ok=false:=fun h=>bad (by
    rw [hart];have:zgq a=false:=by
     cases hb:zgq a with
     |false=>rfl
     |true=>
      unfold zgq at hb;simp only [Bool.and_eq_true,decide_eq_true_eq] at hb;exact absurd ⟨by omega,by omega,by omega,by omega,by omega,by unfold zjr;simp;omega⟩ h
    rw [this];rfl)
   have good1:0<=a.rank/\a.rank<=1000000/\0<=a.lo/\a.lo<a.hi/\a.hi<=36525/\zjr a.known=true->zgq a=true:=fun h=>by
    unfold zgq;have h5:=h.2.2.2.2.2;unfold zjr at h5;simp only [decide_eq_true_eq] at h5;simp only [Bool.and_eq_true,decide_eq_true_eq];omega
   obtain ⟨op,n,u,den,ps,ks,ham⟩:∃op n u den ps ks,a.amount= .mk op n u den ps ks:=by cases h:a.amount;exact ⟨_,_,_,_,_,_,rfl⟩
   have hrow:(c.arts.map Article.cells)[done.length]?=some [dI a.number,dI a.line,dI a.rank,dI a.lo,dI a.hi,dI a.known,qt a.when_,yb a.unless_,dI op,dI n,dS u,dI den,.isl 3 (ps.map Piece.cells),.isl 6 (zm ks)]:=by
    simp [ha,Article.cells,ham,xy,Ex.op,Ex.n,Ex.unit,Ex.den,Ex.pieces,Ex.kids]
   rw [ham] at hamt hart;(refine ze ?_;conv=>whnf)
   repeat' ((with_reducible refine way ?_ ?_)<;>(intro h;conv=>whnf))
   all_goals try (exfalso;omega)
   refine zi (i:=done.length) (row:=[dI a.number,dI a.line,dI a.rank,dI a.lo,dI a.hi,dI a.known,qt a.when_,yb a.unless_,dI op,dI n,dS u,dI den,.isl 3 (ps.map Piece.cells),.isl 6 (zm ks)]) rfl rfl hrow ?_;(refine zc ?_;conv=>whnf)
   repeat' ((with_reducible refine way ?_ ?_)<;>(intro h;conv=>whnf))
   all_goals try exact kB hK (bad1 (by omega))
   refine zd rfl  hday ?_;cases hdk:zjr a.known with
   |false=>
    (refine zc ?_;conv=>whnf);exact kB hK (bad1 (fun h=>by rw [hdk] at h;exact Bool.noConfusion h.2.2.2.2.2))
   |true=>
   have good1:=good1 ⟨by omega,by omega,by omega,by omega,by omega,hdk⟩;rw [good1,Bool.true_and] at hart;clear bad1;(refine zc ?_;conv=>whnf);refine zh [1,3,9,84,85,86,122,123,124] ?_;change SW E _ [(1,.ptr 0 0),(3,.map 1),(9,.ptr 2 0),(84,.imm (wa c.arts)),(85,sI (c.arts.length:Nat)),(86,sI (done.length:Nat)),(122,.imm (yb a.unless_)),(123,sI ((a.unless_.map fun n=>[dI n]).length:Nat)),(124,sI (0:Nat))]
    [.cells [.imm (zu c.facts),.imm (zu c.lines),.imm (wa c.arts)],.mapI .i64 (jf sI m),.cells (zut a op n u den ps ks)]
   rw [hul];refine zp a.unless_ (fun i (_:Unit)=>[(1,.ptr 0 0),(3,.map 1),(9,.ptr 2 0),(84,.imm (wa c.arts)),(85,sI (c.arts.length:Nat)),(86,sI (done.length:Nat)),(122,.imm (yb a.unless_)),(123,sI (a.unless_.length:Nat)),(124,sI (i:Nat))])
    (fun _ _=>[.cells [.imm (zu c.facts),.imm (zu c.lines),.imm (wa c.arts)],.mapI .i64 (jf sI m),.cells (zut a op n u den ps ks)])
    (fun dj _ _=>dj.all (fun n=>(zv n m).isSome)=true) () rfl ?_ ?_
   ·rintro _ hu1
    rw [hu1,Bool.true_and] at hart;(refine ze ?_;conv=>whnf)
    repeat' ((with_reducible refine way ?_ ?_)<;>(intro h;conv=>whnf))
    all_goals try (exfalso;omega)
    refine zh [1,3,9,84,85,86,138,139,140] ?_;change SW E _ [(1,.ptr 0 0),(3,.map 1),(9,.ptr 2 0),(84,.imm (wa c.arts)),(85,sI (c.arts.length:Nat)),(86,sI (done.length:Nat)),(138,.imm (qt a.when_)),(139,sI ((a.when_.map Ex.cells).length:Nat)),(140,sI (0:Nat))]
     [.cells [.imm (zu c.facts),.imm (zu c.lines),.imm (wa c.arts)],.mapI .i64 (jf sI m),.cells (zut a op n u den ps ks)]
    rw [hwl];refine zp a.when_ (fun i (_:Unit)=>[(1,.ptr 0 0),(3,.map 1),(9,.ptr 2 0),(84,.imm (wa c.arts)),(85,sI (c.arts.length:Nat)),(86,sI (done.length:Nat)),(138,.imm (qt a.when_)),(139,sI (a.when_.length:Nat)),(140,sI (i:Nat))])
     (fun _ _=>[.cells [.imm (zu c.facts),.imm (zu c.lines),.imm (wa c.arts)],.mapI .i64 (jf sI m),.cells (zut a op n u den ps ks)])
     (fun dj _ _=>dj.all (fun e=>(jt c m e tT).1)=true) () rfl ?_ ?_
    ·rintro _ hw1
     rw [hw1,Bool.true_and] at hart;(refine ze ?_;conv=>whnf)
     repeat' ((with_reducible refine way ?_ ?_)<;>(intro h;conv=>whnf))
     all_goals try (exfalso;omega)
     (refine wk 0 mixed rfl ?_;refine zn [777] (nx:=4) ?_;conv=>whnf);refine qg rfl (by exact (by decide:4<=4)) (i:=a.line.toNat) (by omega) (row:=d.cells) hdr ?_;(refine zn [777,173] (nx:=4) ?_;conv=>whnf);have hwr:(jt c m (.mk op n u den ps ks) d.unit).1=if u=d.unit then (qp c m (.mk op n u den ps ks) 1 0).1 else false:=by
      unfold jt;show (if u=d.unit then _ else _:Bool × Int).1=_;split<;>rfl
     rw [hwr] at hart
     repeat' ((with_reducible refine way ?_ ?_)<;>(intro h;conv=>whnf))
     ·rw [if_pos h] at hart
      refine yrp 4 (r:=sB (qp c m (.mk op n u den ps ks) 1 0).1) (wr:=some (3,.cells [sI (qp c m (.mk op n u den ps ks) 1 0).2])) rfl rfl rfl rfl rfl rfl (by exact (by decide:4<=4)) (by exact (by decide:4<=4)) (by rintro b ob h;cases h;exact (by decide:3<4)) ((hamt (mi:=1) (ni:=3) (by decide) rfl rfl).mono ?_) ?_
      ·rintro r H1 ⟨rfl,rfl⟩;exact ⟨rfl,rfl⟩
      rw [<-hart];cases hao:zri c m a with
      |true=>
       (refine zn [777,173] (nx:=4) ?_;conv=>whnf);refine jw ⟨sB false,[],none⟩ rfl rfl (by exact (by decide:4<=4)) (fun _ _ _=>rfl) ?_;refine jh (by kernel_rfl) ?_;(refine ze ?_;conv=>whnf);rw [hw];have hu2:([.cells [.imm (zu c.facts),.imm (zu c.lines),.imm (wa c.arts)],.mapI .i64 (jf sI m)]:List SObj).all (SObj.under 2)=true:=by simp [zgo];rfl
       exact ys [1,3,84,85,86] 2 (by simp [hH]) (by exact (by decide:2<=4)) rfl hu2 (ih () (good hao))
      |false=>
       (refine zn [777,173] (nx:=4) ?_;conv=>whnf);refine jw ⟨sB true,[],none⟩ rfl rfl (by exact (by decide:4<=4)) (fun _ _ _=>rfl) ?_;refine jh (by kernel_rfl) ?_;(refine ze ?_;conv=>whnf);exact kB hK (bad hao)
     ·rw [if_neg h] at hart
      refine jw ⟨sB true,[],none⟩ rfl rfl (by exact (by decide:4<=4)) (fun _ _ _=>rfl) ?_;refine jh (by kernel_rfl) ?_;(refine ze ?_;conv=>whnf);exact kB hK (bad hart)
    ·rintro dj e rj _ hdj hdjl hw1 ih2
     have hwj:=zk (n:=dj.length) (by omega);have hcall:∀{H:List SObj} {mi ni:Nat},mi≠ni->H[mi]?=some (.mapI .i64 (jf sI m))->H[ni]?=some (.cells [sI 0])->_:=fun {H mi ni} q1 q2 q3=>ztl G c hcs m hm e 1 0 (by omega) (by omega) (by omega) (by omega) (H:=H) (mi:=mi) (ni:=ni) q1 q2 q3
     have bad2:(jt c m e tT).1=false->ok=false:=fun h=>bad (by rw [hart,hdj,List.all_append,List.all_cons,h,Bool.false_and,Bool.and_false,Bool.false_and])
     have hrx:(a.when_.map Ex.cells)[dj.length]?=some e.cells:=by rw [hdj];simp
     have hwr:(jt c m e tT).1=if e.unit=tT then (qp c m e 1 0).1 else false:=by unfold jt;split<;>rfl
     have ih2:(jt c m e tT).1=true->_:=fun h=>ih2 () (by rw [List.all_append,hw1,List.all_cons,h];rfl)
     generalize (jt c m e tT).1=wb at bad2 hwr ih2;obtain ⟨o1,n1,u1,d1,p1,q1⟩:=e;(refine ze ?_;conv=>whnf)
     repeat' ((with_reducible refine way ?_ ?_)<;>(intro h;conv=>whnf))
     all_goals try (exfalso;omega)
     refine zi (i:=dj.length) (row:=(Ex.mk o1 n1 u1 d1 p1 q1).cells) rfl rfl hrx ?_;(refine zc ?_;conv=>whnf)
     repeat' ((with_reducible refine way ?_ ?_)<;>(intro h;conv=>whnf))
     ·refine ye rfl rfl rfl rfl rfl rfl ((hcall (mi:=1) (ni:=4) (by decide) rfl rfl).mono ?_)
      rintro r H' ⟨rfl,rfl⟩;refine ⟨by rw [List.length_set];exact Nat.le_refl _,?_⟩;rw [if_pos (show (Ex.mk o1 n1 u1 d1 p1 q1).unit=tT from h)] at hwr;rw [<-hwr];cases wb with
      |false=>
       (refine zc ?_;conv=>whnf);exact kB hK (bad2 rfl)
      |true=>
       (refine zc ?_;conv=>whnf);rw [hwj];exact ys [1,3,9,84,85,86,138,139,140] 3 (by simp [hH]) (by simp) rfl (by simp [zgo];exact ⟨rfl,rfl⟩) (ih2 rfl)
     ·rw [if_neg (fun h':(Ex.mk o1 n1 u1 d1 p1 q1).unit=tT=>h h')] at hwr
      exact kB hK (bad2 hwr)
   ·rintro dj x rj _ hdj hdjl hu1 ih2
    have hwj:=zk (n:=dj.length) (by omega);have bad2:(zv x m).isSome=false->ok=false:=fun h=>bad (by rw [hart,hdj,List.all_append,List.all_cons,h,Bool.false_and,Bool.and_false,Bool.false_and,Bool.false_and])
    have hrx:(a.unless_.map fun n=>[dI n])[dj.length]?=some [dI x]:=by rw [hdj];simp
    (refine ze ?_;conv=>whnf)
    repeat' ((with_reducible refine way ?_ ?_)<;>(intro h;conv=>whnf))
    all_goals try (exfalso;omega)
    refine zi (i:=dj.length) (row:=[dI x]) rfl rfl hrx ?_;(refine zc ?_;conv=>whnf);cases hlk:zv x m with
    |none=>
     refine zau sI rfl rfl rfl rfl rfl rfl rfl rfl rfl (v:=sI 0) (p:=false) (by rw [hlk];rfl) (by rw [hlk];rfl) ?_;(refine zc ?_;conv=>whnf);exact kB hK (bad2 (by rw [hlk];rfl))
    |some v=>
     refine zau sI rfl rfl rfl rfl rfl rfl rfl rfl rfl (v:=sI v) (p:=true) (by rw [hlk];rfl) (by rw [hlk];rfl) ?_;(refine zc ?_;conv=>whnf);rw [hwj];exact zh [1,3,9,84,85,86,122,123,124] (ih2 () (by rw [List.all_append,hu1,List.all_cons,hlk];rfl))
 ·rintro done a rest m ha hl h1 ih
  have hw:=zk (n:=done.length) (by omega);obtain ⟨op,n,u,den,ps,ks,ham⟩:∃op n u den ps ks,a.amount= .mk op n u den ps ks:=by cases h:a.amount;exact ⟨_,_,_,_,_,_,rfl⟩
  have hrow:(c.arts.map Article.cells)[done.length]?=some [dI a.number,dI a.line,dI a.rank,dI a.lo,dI a.hi,dI a.known,qt a.when_,yb a.unless_,dI op,dI n,dS u,dI den,.isl 3 (ps.map Piece.cells),.isl 6 (zm ks)]:=by
   simp [ha,Article.cells,ham,xy,Ex.op,Ex.n,Ex.unit,Ex.den,Ex.pieces,Ex.kids]
  simp only [qw] at h1;have bad:qw c.lines.length c.arts []=none->ok=false:=fun h=>by rw [hok,h]
  (refine ze ?_;conv=>whnf)
  repeat' ((with_reducible refine way ?_ ?_)<;>(intro h;conv=>whnf))
  all_goals try (exfalso;omega)
  refine zi (i:=done.length) (row:=[dI a.number,dI a.line,dI a.rank,dI a.lo,dI a.hi,dI a.known,qt a.when_,yb a.unless_,dI op,dI n,dS u,dI den,.isl 3 (ps.map Piece.cells),.isl 6 (zm ks)]) rfl rfl hrow ?_;(refine zc ?_;conv=>whnf)
  repeat' ((with_reducible refine way ?_ ?_)<;>(intro h;conv=>whnf))
  all_goals try exact kB hK (bad (by rw [h1,if_neg (by omega)]))
  rw [if_pos (by omega)] at h1;cases hlk:zv a.number m with
  |none=>
   rw [hlk] at h1;refine zau sI rfl rfl rfl rfl rfl rfl rfl rfl rfl (v:=sI 0) (p:=false) (by rw [hlk];rfl) (by rw [hlk];rfl) ?_;(refine zc ?_;conv=>whnf);refine zdo sI a.line rfl rfl rfl rfl rfl rfl rfl rfl rfl ?_;(refine zc ?_;conv=>whnf);rw [hw];exact ys [1,3,36,37,38] 2 (by simp [hH]) (by simp) rfl (by simp [zgo];rfl) (ih _ h1)
  |some l=>
   rw [hlk] at h1;refine zau sI rfl rfl rfl rfl rfl rfl rfl rfl rfl (v:=sI l) (p:=true) (by rw [hlk];rfl) (by rw [hlk];rfl) ?_;(refine zc ?_;conv=>whnf)
   repeat' ((with_reducible refine way ?_ ?_)<;>(intro h;conv=>whnf))
   ·exact kB hK (bad (by rw [h1];simp only;rw [if_neg h]))
   ·simp only at h1
    rw [if_pos (by omega)] at h1;refine zdo sI a.line rfl rfl rfl rfl rfl rfl rfl rfl rfl ?_;(refine zc ?_;conv=>whnf);rw [hw];exact ys [1,3,36,37,38] 2 (by simp [hH]) (by simp) rfl (by simp [zgo];rfl) (ih _ h1)
def zyz (prev:Option Int) (p:Fact):Bool:=
 match prev with
 |none=>true
 |some k=>decide (k<=p.known)
theorem zza (prev:Option Int) (p:Fact) (r:List Fact):zcj prev (p::r)=(zsg p&&zyz prev p&&zcj (some p.known) r):=by
 cases prev with
 |none=>rw [zcj,zyz,Bool.and_true]
 |some k=>rw [zcj,zyz]
theorem zvn (l:List Fact) (hl:l.length<=1000000000):zq Tryz.prog G 64 [.imm (qu l)] (sB (ziv l)):=by
 have hlen:(l.map Fact.cells).length=l.length:=by simp
 have hok:ziv l=(decide (l.length<=400)&&zcj none l):=rfl;generalize ziv l=ok at hok;refine zg Tryz.func64 rfl (by rw [Tryz.ntmps64];simp) rfl rfl ?_;intro E hH hK;(refine ze ?_;conv=>whnf)
 repeat' ((with_reducible refine way ?_ ?_)<;>(intro h;conv=>whnf))
 ·exact kB hK (by rw [hok,decide_eq_false (by omega)];rfl)
 rw [decide_eq_true (by omega),Bool.true_and] at hok;refine zh [0,8,9,10] ?_;change SW E _ [(0,.imm (qu l)),(8,.imm (qu l)),(9,sI ((l.map Fact.cells).length:Nat)),(10,sI (0:Nat))] [];rw [hlen];refine zp l (fun i (_:Unit)=>[(0,.imm (qu l)),(8,.imm (qu l)),(9,sI (l.length:Nat)),(10,sI (i:Nat))]) (fun _ _=>[]) (fun done rest _=>zcj none l=zcj (zbg done) rest) () rfl ?_ ?_
 ·rintro _ hv
  (refine ze ?_;conv=>whnf)
  repeat' ((with_reducible refine way ?_ ?_)<;>(intro h;conv=>whnf))
  all_goals try (exfalso;omega)
  exact kB hK (by rw [hok,hv];rfl)
 ·rintro done p rest _ hda hdl hv ih
  have hw:=zk (n:=done.length) (by omega);have hp:(l.map Fact.cells)[done.length]?=some p.cells:=by rw [hda];simp
  have hn1:=zds G p.person;have hn2:=zds G p.name;have hday:=zff G p.known;rw [zza] at hv;have bad:(zsg p&&zyz (zbg done) p)=false->ok=false:=fun h=>by rw [hok,hv,h];rfl
  have good:(zsg p&&zyz (zbg done) p)=true->zcj none l=zcj (zbg (done++[p])) rest:=fun h=>by rw [hv,h,zid];rfl
  have hform:zsg p=(qd p.person&&qd p.name&&decide (0<=p.lo/\p.lo<p.hi/\p.hi<=36525/\0<=p.known/\p.known<=36524/\ -1000000000000<=p.value/\p.value<=1000000000000)&&(!p.gone||decide (p.value=0))):=rfl;have hdk:zjr p.known=decide (0<=p.known/\p.known<=36524):=rfl;rw [hform] at bad good;generalize qd p.person=b1 at hn1 bad good;generalize qd p.name=b2 at hn2 bad good;generalize zjr p.known=b3 at hday hdk;have ih:=fun h=>ih () (good h)
  have hseq:(done=[]/\zyz (zbg done) p=true)\/∃q:Fact,1<=done.length/\(l.map Fact.cells)[done.length-1]?=some q.cells/\zyz (zbg done) p=decide (q.known<=p.known):=by
   rcases zsf done with rfl|⟨init,q,rfl⟩
   ·exact .inl ⟨rfl,rfl⟩
   ·refine .inr ⟨q,by simp,?_,by rw [zid];rfl⟩
    rw [hda,List.length_append,List.length_cons,List.length_nil,Nat.zero_add,Nat.add_sub_cancel,List.append_assoc];simp
  have w1:IntKind.i64.wrap ((done.length:Int)-1)=((done.length:Int)-1):=zr (by omega) (by omega);generalize zyz (zbg done) p=sq at bad ih hseq;(refine ze ?_;conv=>whnf)
  repeat' ((with_reducible refine way ?_ ?_)<;>(intro h;conv=>whnf))
  all_goals try (exfalso;omega)
  refine zi (i:=done.length) (row:=p.cells) rfl rfl hp ?_;(refine zc ?_;conv=>whnf);refine zx mixed rfl ?_;(refine zf [] ?_;conv=>whnf);refine yf rfl  hn1 ?_;cases b1 with
  |false=>
   (refine zf [] ?_;conv=>whnf);(refine ze ?_;conv=>whnf);exact kB hK (bad rfl)
  |true=>
  (refine zf [] ?_;conv=>whnf);refine yf rfl  hn2 ?_;cases b2 with
  |false=>
   (refine zf [] ?_;conv=>whnf);(refine ze ?_;conv=>whnf);exact kB hK (bad rfl)
  |true=>
  (refine zf [] ?_;conv=>whnf);refine yf rfl  hday ?_;cases b3 with
  |false=>
   have hdk:=of_decide_eq_false hdk.symm;(refine zf [] ?_;conv=>whnf);(refine ze ?_;conv=>whnf);exact kB hK (bad (by rw [decide_eq_false (by omega)];rfl))
  |true=>
  have hdk:=of_decide_eq_true hdk.symm;(refine zf [] ?_;conv=>whnf)
  repeat' ((with_reducible refine way ?_ ?_)<;>(intro h;conv=>whnf))
  ·rcases hseq with ⟨h0,_⟩|⟨q,hq1,hq2,hq3⟩
   ·rw [h0] at h
    exact absurd h (by decide)
   rw [w1];refine yx (i:=done.length-1) (row:=q.cells) rfl (by omega) hq2 ?_;(refine zf [] ?_;conv=>whnf);(refine ze ?_;conv=>whnf)
   repeat' ((with_reducible refine way ?_ ?_)<;>(intro h;conv=>whnf))
   all_goals try exact kB hK (bad (by rw [hq3,decide_eq_false (show ¬q.known<=p.known by omega),Bool.and_false]))
   all_goals try exact kB hK (bad (by rw [decide_eq_false (by omega)];rfl))
   all_goals try exact kB hK (bad (by rw [‹p.gone=true›,decide_eq_false ‹¬p.value=0›];simp))
   all_goals
    rw [hw];refine ys [0,8,9,10] 0 (by simp [hH]) (Nat.zero_le _) rfl rfl (ih ?_);rw [hq3,decide_eq_true (show q.known<=p.known by omega),decide_eq_true (show 0<=p.lo/\p.lo<p.hi/\p.hi<=36525/\0<=p.known/\p.known<=36524/\ -1000000000000<=p.value/\p.value<=1000000000000 by omega)]
    first|(rw [‹p.gone=false›];rfl)|(rw [decide_eq_true ‹p.value=0›];simp)
  ·rcases hseq with ⟨h0,hq3⟩|⟨q,hq1,hq2,hq3⟩
   case inr=>exact absurd (show (0:Int)<(done.length:Int) by omega) h
   (refine ze ?_;conv=>whnf)
   repeat' ((with_reducible refine way ?_ ?_)<;>(intro h;conv=>whnf))
   all_goals try exact kB hK (bad (by rw [decide_eq_false (by omega)];rfl))
   all_goals try exact kB hK (bad (by rw [‹p.gone=true›,decide_eq_false ‹¬p.value=0›];simp))
   all_goals
    rw [hw];refine ys [0,8,9,10] 0 (by simp [hH]) (Nat.zero_le _) rfl rfl (ih ?_);rw [hq3,decide_eq_true (show 0<=p.lo/\p.lo<p.hi/\p.hi<=36525/\0<=p.known/\p.known<=36524/\ -1000000000000<=p.value/\p.value<=1000000000000 by omega)]
    first|(rw [‹p.gone=false›];rfl)|(rw [decide_eq_true ‹p.value=0›];simp)
variable {G:List (Nat × D)}
theorem zzb (c:Codex) (m:List (Int × Int)) (N:Nat):(∀e:Ex,SizeOf.sizeOf e<N->zxd c m e->zbh e<=1000000->zle e)/\(∀ks:List Ex,SizeOf.sizeOf ks<N->zuu c m ks->zck ks<=1000000->zes ks):=by
 induction N with
 |zero=>exact ⟨fun e h=>by omega,fun e h=>by omega⟩
 |succ N ih=>
  refine ⟨fun e he h hs=>?_,fun ks hk h hs=>?_⟩
  ·obtain ⟨op,n,u,den,ps,ks⟩:=e
   simp only [Ex.mk.sizeOf_spec] at he;unfold zxd at h;unfold zbh at hs;have:=ysd h.1;have h2:=zix ks;unfold zle;exact ⟨by omega,by omega,ih.2 ks (by omega) h.2 (by omega)⟩
  ·cases ks with
   |nil=>unfold zes;trivial
   |cons k r=>
    simp only [List.cons.sizeOf_spec] at hk;unfold zuu at h;unfold zck at hs;unfold zes;exact ⟨ih.1 k (by omega) h.1 (by omega),ih.2 r (by omega) h.2 (by omega)⟩
theorem zzc:∀{ks:List Ex},(∀k∈ks,zle k)->zes ks
 |[],_=>by unfold zes;trivial
 |k::r,h=>by unfold zes;exact ⟨h k (by simp),zzc fun x hx=>h x (by simp [hx])⟩
theorem yte {c:Codex} (h:zde c=true) (hfew:∀a∈c.arts,a.when_.length<=1000000/\a.unless_.length<=1000000):∃m,MFit c m:=by
 obtain ⟨_,h2,m,_,h4⟩:=zjx h;refine ⟨m,by omega,fun a ha=>⟨(hfew a ha).1,zzc fun e he=>?_,(hfew a ha).2,?_⟩,fun a ha=>?_,fun a ha w hw=>?_⟩
 ·have:=(h4 a ha).2.2.1 e he
  exact (zzb c m _).1 e (Nat.lt_succ_self _) this.1 (by omega)
 ·have:=(h4 a ha).2.2.2
  exact (zzb c m _).1 a.amount (Nat.lt_succ_self _) this.1 (by omega)
 ·have:=(h4 a ha).2.2.2
  exact ⟨this.1,by omega⟩
 ·have:=(h4 a ha).2.2.1 w hw
  exact ⟨this.1,by omega⟩
theorem ytf {c:Codex} (hf:c.facts.length<=1000000) (l:List Fact) (person:ByteArray) {day:Int} (known:Int) (hd:0<=day/\day<=36524):AFit c (zbi c l person day known):=
 ⟨hf,by simp [zbi],by simp [zbi],by simp [zbi],hd⟩
theorem ybz {c:Codex} {s:List Int × List Int} {i:Int} (h:∀v∈s.2,0<=v/\v<c.arts.length) (hi:0<=i/\i<c.arts.length):∀v∈(zeb s i).2,0<=v/\v<c.arts.length:=by
 intro v hv;unfold zeb at hv;simp only at hv;split at hv
 ·rcases List.mem_append.1 hv with hv|hv
  ·exact h v hv
  ·rw [List.mem_singleton] at hv
   subst hv;exact hi
 ·exact h v hv
theorem zqp {c:Codex}:∀(l:List Int) {s:List Int × List Int},(∀v∈s.2,0<=v/\v<c.arts.length)->(∀i∈l,0<=i/\i<c.arts.length)->∀v∈(l.foldl zeb s).2,0<=v/\v<c.arts.length
 |[],_,h,_=>h
 |i::l,_,h,hl=>zqp l (ybz h (hl i (by simp))) (fun j hj=>hl j (by simp [hj]))
theorem zqq {c:Codex}:∀(f next:Nat) {s:List Int × List Int},(∀v∈s.2,0<=v/\v<c.arts.length)->∀v∈(zas c f next s).2,0<=v/\v<c.arts.length
 |0,_,_,h=>h
 |f+1,next,s,h=>by
  rw [zas];split
  ·exact h
  ·exact zqq f (next+1) (zqp _ h (fun i hi=>yds hi))
theorem ypv (c:Codex):∀v∈ygi c,0<=v/\v<c.arts.length:=zqq _ _ (zsk c).mem
theorem yep {k v:Int}:∀{m:List (Int × Int)} {p:Int × Int},p∈zco k v m->p=(k,v)\/p∈m
 |[],p,h=>by simp [zco] at h;exact .inl h
 |q::r,p,h=>by
  obtain ⟨a,b⟩:=q;rw [zco] at h;split at h
  ·rcases List.mem_cons.1 h with h|h
   ·exact .inl h
   ·exact .inr (by simp [h])
  ·rcases List.mem_cons.1 h with h|h
   ·exact .inr (by simp [h])
   ·rcases yep h with h|h
    ·exact .inl h
    ·exact .inr (by simp [h])
theorem zzd {c:Codex} {day known:Int} {m:List (Int × Int)} {x:Article × Nat} {n:Nat} (h:∀p∈m,0<=p.2/\p.2<n) (hx:x.2<n):∀p∈zam c day known m x,0<=p.2/\p.2<n:=by
 have h2:∀p∈zco x.1.number (x.2:Int) m,0<=p.2/\p.2<n:=fun p hp=>by
  rcases yep hp with rfl|hp
  ·simp only
   omega
  ·exact h p hp
 intro p hp;unfold zam at hp;split at hp
 ·exact h p hp
 ·split at hp
  ·exact h2 p hp
  ·split at hp
   ·split at hp
    ·exact h2 p hp
    ·exact h p hp
   ·exact h p hp
theorem zmk {c:Codex} {day known:Int} {n:Nat}:∀(l:List (Article × Nat)) {m:List (Int × Int)},(∀p∈m,0<=p.2/\p.2<n)->(∀x∈l,x.2<n)->(∀p∈l.foldl (zam c day known) m,0<=p.2/\p.2<n)/\(l.foldl (zam c day known) m).length<=m.length+l.length
 |[],_,h,_=>⟨h,Nat.le_refl _⟩
 |x::l,m,h,hl=>by
  have:=zmk (c:=c) (day:=day) (known:=known) l (zzd (c:=c) (day:=day) (known:=known) h (hl x (by simp))) (fun y hy=>hl y (by simp [hy]));have h2:=yec c day known m x;rw [List.foldl_cons,List.length_cons];exact ⟨this.1,by omega⟩
theorem ytg (c:Codex) (day known:Int):(∀o∈inA c day known,0<=o/\o<c.arts.length)/\(inA c day known).length<=c.arts.length:=by
 have h:=zmk (c:=c) (day:=day) (known:=known) (n:=c.arts.length) c.arts.zipIdx (m:=[]) (fun p hp=>by cases hp) (fun x hx=>by
  have:=List.snd_lt_of_mem_zipIdx hx
  omega)
 refine ⟨fun o ho=>?_,?_⟩
 ·unfold inA at ho
  rw [List.mem_mergeSort] at ho;obtain ⟨p,hp,rfl⟩:=List.mem_map.1 ho;exact h.1 p hp
 ·unfold inA
  rw [List.length_mergeSort,List.length_map];have:=h.2;rw [List.length_zipIdx,List.length_nil,Nat.zero_add] at this;exact this
theorem yho (S:AM) (U:List Bool):(zgu S U).length<=U.length:=by
 unfold zgu;refine Nat.le_trans (zpj _) ?_;rw [List.length_mergeSort];exact zpr S U U.length
theorem ymh (c:Codex) (a:Article):(ziy c a).length=c.facts.length:=by
 unfold ziy;rw [(zet _).2 a.when_ (Nat.lt_succ_self _),(zet _).1 a.amount (Nat.lt_succ_self _),List.length_replicate]
theorem yhp (c:Codex) (inF:List Int) (st:List (Int × Int)) (a:Article):(zjy c inF st a).length<=inF.length:=List.length_filter_le _ _
def yeq (c:Codex) (S:AM) (inF:List Int) (q s:Nat):List SV:=[.imm (zu c.facts),.imm (zu c.lines),.imm (wa c.arts),sI S.day,.imm (jx S.has),.imm (yb S.vals),.imm (yb S.nums),.imm (yb inF),.map q,.map s]
theorem zkk (σ:Nat->Nat) (m:List (Int × Int)):(SObj.mapI .i64 (jf sI m)).ren σ= .mapI .i64 (jf sI m):=by
 simp [SObj.ren,jf,SV.ren]
theorem ymi {f:FuncId} {arg r0:SV} {c:Codex} {S:AM} {inF:List Int} {st am st' am':List (Int × Int)} (h:SPre Tryz.prog G f [.ptr 0 0,arg] (MH c S inF st am) (fun r H1=>r=r0/\H1=MH c S inF st' am'))
  (harg:∀σ,arg.ren σ=arg) (hau:arg.under 3=true) (hr:∀σ,r0.ren σ=r0) {H:List SObj} {p q s:Nat} (hpq:p≠q) (hps:p≠s) (hqs:q≠s)
  (hp:H[p]?=some (.cells (yeq c S inF q s))) (hq:H[q]?=some (.mapI .i64 (jf sI st))) (hs:H[s]?=some (.mapI .i64 (jf sI am))):
  SCall Tryz.prog G f [.ptr p 0,arg] H (fun r H'=>r=r0/\H'=(H.set q (.mapI .i64 (jf sI st'))).set s (.mapI .i64 (jf sI am'))):=by
 have hpl:=lt_of_getElem? hp;have hql:=lt_of_getElem? hq;have hsl:=lt_of_getElem? hs;have h0:=h [];rw [List.append_nil] at h0;have hlen:(MH c S inF st am).length=3:=rfl;have:=zop (K':=fun r H'=>r=r0/\H'=(H.set q (.mapI .i64 (jf sI st'))).set s (.mapI .i64 (jf sI am'))) h0 (H:=H) (fun i=>if i=0 then p else if i=1 then q else if i=2 then s else H.length+(i-3)) ?_ ?_ ?_ ?_ (jj c S inF st am) ?_
 ·have e1:([.ptr 0 0,arg]:List SV).map (SV.ren (fun i=>if i=0 then p else if i=1 then q else if i=2 then s else H.length+(i-3)))=[.ptr p 0,arg]:=by
   simp only [List.map_cons,List.map_nil,harg];rfl
  rw [e1] at this;exact this
 ·intro b b' hb hb' h
  rw [hlen] at hb hb';rcases (show b=0\/b=1\/b=2 by omega) with rfl|rfl|rfl<;>rcases (show b'=0\/b'=1\/b'=2 by omega) with rfl|rfl|rfl<;>
   first|rfl|(exact absurd h hpq)|(exact absurd h hps)|(exact absurd h hqs)|(exact absurd h.symm hpq)|(exact absurd h.symm hps)|(exact absurd h.symm hqs)
 ·intro i
  simp only [hlen];rw [if_neg (by omega),if_neg (by omega),if_neg (by omega)];omega
 ·intro b o hb
  match b,hb with
  |0,hb=>
   injection hb with hb
   subst hb;exact hp
  |1,hb=>
   injection hb with hb
   subst hb;rw [zkk];exact hq
  |2,hb=>
   injection hb with hb
   subst hb;rw [zkk];exact hs
  |b+3,hb=>simp [MH] at hb
 ·simp only [List.all_cons,List.all_nil,hlen,hau]
  rfl
 ·rintro r H1 H' ⟨H2,⟨rfl,rfl⟩,hl2,rfl⟩ hle hl3 hsame hother
  refine ⟨hr _,?_⟩;rw [List.append_nil] at hl3 hsame hle;have hl4:H'.length=H.length:=by
   have:(MH c S inF st' am').length=3:=rfl;rw [this,hlen] at hl3;omega
  apply List.ext_getElem?
  intro i
  by_cases his:i=s
  ·subst his
   rw [List.getElem?_set_self (by rw [List.length_set];exact hsl)];have:=hsame 2 _ rfl;rw [zkk] at this;exact this
  ·rw [List.getElem?_set_ne (fun h=>his h.symm)]
   by_cases hiq:i=q
   ·subst hiq
    rw [List.getElem?_set_self hql];have:=hsame 1 _ rfl;rw [zkk] at this;exact this
   ·rw [List.getElem?_set_ne (fun h=>hiq h.symm)]
    by_cases hip:i=p
    ·subst hip
     have:=hsame 0 _ rfl;exact this.trans hp.symm
    ·rcases Nat.lt_or_ge i H.length with hlt|hge
     ·refine hother i hlt (fun b hb h=>?_)
      rw [hlen] at hb;rcases (show b=0\/b=1\/b=2 by omega) with rfl|rfl|rfl
      ·exact hip h.symm
      ·exact hiq h.symm
      ·exact his h.symm
     ·rw [List.getElem?_eq_none (by omega),List.getElem?_eq_none hge]
variable (G:List (Nat × D))
def yts (x:Ln):SV:=.agg (lnC x)
def zvo (c:Codex) (line:Ln) (S:AM) (inF:List Int) (st am:List (Int × Int)):List SObj:=
 [zbm c,.cells (lnC line),zbm c,.mapI .i64 (jf sI st),.mapI .i64 (jf sI am),.cells (yeq c S inF 3 4),.dead,.dead,.dead]
theorem ymj {c:Codex} {S:AM} {inF:List Int} {s:List (Int × Int) × List (Int × Int)} {line:Ln} (h:∀o∈inF,¬(o=line.art/\(zv o s.1).getD 0=2)):zfj c S inF s line=false:=by
 unfold zfj;split
 ·rw [if_neg]
  rintro ⟨h1,h2⟩;exact h _ h1 ⟨rfl,h2⟩
 ·rfl
theorem yca (c : Codex) (hfit : Codex.fit c) (hcs : c.facts.length <= 1000000) (hls : c.lines.length <= 1000000) (has : c.arts.length <= 1000000) (hfew : ∀ a ∈ c.arts, a.when_.length <= 1000000 /\ a.unless_.length <= 1000000)
    (l : List Fact) (hl : l.length <= 1000000) (person : ByteArray) (known : Int) (line : Ln) : zq Tryz.prog G 19 [c.sv, .imm (qu l), sS person, sI known, yts line] (sB (zcm c l person known line)) := by
  have hvc := zvm G c hfit hcs hls has
  have hvf := zvn G l (by omega)
  have hd1 := zff G line.day
  have hd2 := zff G known
  have hrep : zcm c l person known line = (zde c && ziv l && zjr line.day && zjr known && decide ((ygi c).length = c.arts.length) &&
      zfj c (zbi c l person line.day known) (inA c line.day known) (yuo c (zbi c l person line.day known) (inA c line.day known) (ygi c)) line) := by
    unfold zcm zjr
    simp only [Bool.decide_and]
  rw [hrep]
  clear hrep
  refine zg Tryz.func19 rfl (by rw [Tryz.ntmps19]; simp) rfl rfl ?_; intro E hH hK
  rw [show yts line = .agg [sI line.day, sI line.line, sI line.art, sI line.amount, .imm (yb line.facts), .imm (yb line.rests)] from rfl]
  by_cases hc : zde c = true
  case neg =>
    rw [Bool.not_eq_true] at hc
    rw [hc] at hvc hK
    (refine ze ?_; conv => whnf)
    refine zd rfl  hvc ?_
    (refine zc ?_; conv => whnf)
    exact hK _
  rw [hc] at hvc hK
  by_cases hf : ziv l = true
  case neg =>
    rw [Bool.not_eq_true] at hf
    rw [hf] at hvf hK
    (refine ze ?_; conv => whnf)
    refine zd rfl  hvc ?_
    (refine zc ?_; conv => whnf)
    refine zd rfl  hvf ?_
    (refine zc ?_; conv => whnf)
    exact hK _
  rw [hf] at hvf hK
  by_cases hld : zjr line.day = true
  case neg =>
    rw [Bool.not_eq_true] at hld
    rw [hld] at hd1 hK
    (refine ze ?_; conv => whnf)
    refine zd rfl  hvc ?_
    (refine zc ?_; conv => whnf)
    refine zd rfl  hvf ?_
    (refine zc ?_; conv => whnf)
    refine zd rfl  hd1 ?_
    (refine zc ?_; conv => whnf)
    exact hK _
  rw [hld] at hd1 hK
  by_cases hkd : zjr known = true
  case neg =>
    rw [Bool.not_eq_true] at hkd
    rw [hkd] at hd2 hK
    (refine ze ?_; conv => whnf)
    refine zd rfl  hvc ?_
    (refine zc ?_; conv => whnf)
    refine zd rfl  hvf ?_
    (refine zc ?_; conv => whnf)
    refine zd rfl  hd1 ?_
    (refine zc ?_; conv => whnf)
    refine zd rfl  hd2 ?_
    (refine zc ?_; conv => whnf)
    exact hK _
  rw [hkd] at hd2 hK
  have hday : 0 <= line.day /\ line.day <= 36524 := of_decide_eq_true hld
  obtain ⟨hc1, hc2, _, _, _⟩ := zjx hc
  obtain ⟨m, hM⟩ := yte hc hfew
  have hseq := zpi G c hM.fit hM.arts
  (refine ze ?_; conv => whnf)
  refine zd rfl  hvc ?_
  (refine zc ?_; conv => whnf)
  refine zd rfl  hvf ?_
  (refine zc ?_; conv => whnf)
  refine zd rfl  hd1 ?_
  (refine zc ?_; conv => whnf)
  refine zd rfl  hd2 ?_
  (refine zc ?_; conv => whnf)
  refine zd rfl  hseq ?_
  by_cases hsl : (ygi c).length = c.arts.length
  case neg =>
    rw [decide_eq_false hsl] at hK ⊢
    (refine zc ?_; conv => whnf)
    exact hK _
  rw [decide_eq_true hsl] at hK ⊢
  have hS := ytf (c := c) hcs l person known hday
  have hnew := zpq G c l person line.day known (by omega) hl hM.arts
  have hSd : (zbi c l person line.day known).day = line.day := rfl
  obtain ⟨hin, hil⟩ := ytg c line.day known
  have hsm := ypv c
  have hK : ∀ H', E.K (sB (zfj c (zbi c l person line.day known) (inA c line.day known) (yuo c (zbi c l person line.day known) (inA c line.day known) (ygi c)) line)) H' := hK
  generalize zbi c l person line.day known = S at hS hnew hSd hK
  generalize inA c line.day known = inF at hin hil hnew hK
  generalize ygi c = sq at hsl hsm hK ⊢
  have hrun := yph (G := G) hS hM inF sq hin (by omega) hsm (by omega) [] []
  have hra : yuo c S inF sq = sq.foldl (zrk c S inF) ([], []) := rfl
  rw [hra] at hK
  clear hra
  generalize sq.foldl (zrk c S inF) ([], []) = T at hrun hK
  obtain ⟨st, am⟩ := T
  simp only at hrun
  have hnew2 : SCall Tryz.prog G 67 [c.sv, .imm (qu l), sS person, sI line.day, sI known] [zbm c, .cells (lnC line)] (fun r H' => r = .ptr 5 0 /\ H' = zvo c line S inF [] []) := by
    refine SCall.mono (zit hnew [zbm c, .cells (lnC line)]) ?_
    rintro r H' ⟨r1, H1, ⟨rfl, rfl⟩, rfl, rfl⟩
    exact ⟨rfl, rfl⟩
  have hrun2 := ymi hrun (fun σ => rfl) rfl (fun σ => rfl) (H := zvo c line S inF [] []) (p := 5) (q := 3) (s := 4) (by decide) (by decide) (by decide) rfl rfl rfl
  have hcall : ∀ (a : Article), c.arts[line.art.toNat]? = some a -> 0 <= line.art -> SCall Tryz.prog G 69 [.ptr 5 0, sI line.art] (zvo c line S inF st am) (fun r H' => r = yts (zpc c S inF (st, am) line.art a) /\ H' = zvo c line S inF st am) := fun a ha h0 => by
    have := ymi (ykw (G := G) hS hM inF hin (by omega) st am h0 ha) (fun σ => rfl) rfl (fun σ => rfl) (H := zvo c line S inF st am) (p := 5) (q := 3) (s := 4) (by decide) (by decide) (by decide) rfl rfl rfl
    exact this
  clear hnew hrun
  (refine zc ?_; conv => whnf)
  refine ye rfl rfl rfl rfl rfl rfl (hnew2.mono ?_)
  rintro r9 H9 ⟨rfl, rfl⟩
  refine ⟨by show 2 <= 9; decide, ?_⟩
  (refine zc ?_; conv => whnf)
  refine ye rfl rfl rfl rfl rfl rfl (hrun2.mono ?_)
  rintro r9 H9 ⟨rfl, rfl⟩
  refine ⟨by show 9 <= 9; decide, ?_⟩
  refine (fun (hs : ∀ H2, H2 = zvo c line S inF st am -> SWr E _ _ _ _ H2) => hs _ rfl) ?_
  rintro _ rfl
  have hifl : (inF.map fun n => [dI n]).length = inF.length := by simp
  (refine zc ?_; conv => whnf)
  refine zh [9, 13, 56, 57, 58] ?_
  change SW E _ [(9, .ptr 1 0), (13, .ptr 5 0), (56, .imm (yb inF)), (57, sI ((inF.map fun n => [dI n]).length : Nat)), (58, sI (0 : Nat))] (zvo c line S inF st am)
  rw [hifl]
  refine zp inF (fun i (_ : Unit) => [(9, .ptr 1 0), (13, .ptr 5 0), (56, .imm (yb inF)), (57, sI (inF.length : Nat)), (58, sI (i : Nat))]) (fun _ _ => zvo c line S inF st am)
    (fun done _ _ => ∀ o ∈ done, ¬ (o = line.art /\ (zv o st).getD 0 = 2)) () (fun o ho => by cases ho) ?_ ?_
  · rintro _ hn
    rw [ymj (s := (st, am)) hn] at hK
    (refine ze ?_; conv => whnf)
    repeat' ((with_reducible refine way ?_ ?_) <;> (intro h; conv => whnf))
    all_goals try (exfalso; omega)
    exact hK _
  · rintro done o rest _ hda hdl hn ih
    have hom : o ∈ inF := by rw [hda]; simp
    have hor := hin o hom
    have hw := zk (n := done.length) (by omega)
    have hro : (inF.map fun n => [dI n])[done.length]? = some [dI o] := by rw [hda]; simp
    have hlk : ((zv o st).map sI).getD (jc (.int .i64 0)) = sI ((zv o st).getD 0) := by cases zv o st <;> rfl
    have ih := fun (h : ¬ (o = line.art /\ (zv o st).getD 0 = 2)) => ih () (fun x hx => by
      rcases List.mem_append.1 hx with hx | hx
      · exact hn x hx
      · rw [List.mem_singleton] at hx
        subst hx
        exact h)
    have hans : o = line.art -> (zv o st).getD 0 = 2 -> ∀ a, c.arts[line.art.toNat]? = some a -> zfj c S inF (st, am) line = ydr (zpc c S inF (st, am) line.art a) line := fun h1 h2 a ha => by
      have hat : zcl c line.art = some a := by unfold zcl; rw [if_neg (by omega)]; exact ha
      unfold zfj
      rw [hat]
      exact if_pos ⟨h1 ▸ hom, h1 ▸ h2⟩
    generalize hx : (zv o st).getD 0 = x at hlk ih hans
    change SW E _ [(9, .ptr 1 0), (13, .ptr 5 0), (56, .imm (yb inF)), (57, sI (inF.length : Nat)), (58, sI (done.length : Nat))] (zvo c line S inF st am)
    (refine ze ?_; conv => whnf)
    repeat' ((with_reducible refine way ?_ ?_) <;> (intro h; conv => whnf))
    all_goals try (exfalso; omega)
    refine zi (i := done.length) (row := [dI o]) rfl rfl hro ?_
    (refine zj [777, 72] 1000 ?_; conv => whnf)
    repeat' ((with_reducible refine way ?_ ?_) <;> (intro h; conv => whnf))
    · subst h
      refine zjo (l := st) (v := sI x) sI rfl rfl rfl rfl rfl rfl rfl rfl rfl hlk ?_
      (refine zc ?_; conv => whnf)
      repeat' ((with_reducible refine way ?_ ?_) <;> (intro h; conv => whnf))
      · rw [hw]
        exact zh [9, 13, 56, 57, 58] (ih fun y => absurd y.2 ‹¬ x = 2›)
      · obtain ⟨a, ha⟩ : ∃ a, c.arts[line.art.toNat]? = some a := ⟨_, List.getElem?_eq_getElem (by omega)⟩
        have ham := List.mem_of_getElem? ha
        rw [hans rfl ‹x = 2› a ha] at hK
        have hcl := hcall a ha (by omega)
        have hf1 := yho S (ziy c a)
        rw [ymh] at hf1
        have hr1 := yhp c inF st a
        have e1 : ydr (zpc c S inF (st, am) line.art a) line = (decide (a.line = line.line) && decide ((zv a.number am).getD 0 = line.amount) && decide (zgu S (ziy c a) = line.facts) && decide (zjy c inF st a = line.rests)) := rfl
        rw [e1] at hK
        have hs1 : yts (zpc c S inF (st, am) line.art a) = .agg [sI S.day, sI a.line, sI line.art, sI ((zv a.number am).getD 0), .imm (yb (zgu S (ziy c a))), .imm (yb (zjy c inF st a))] := rfl
        rw [hs1] at hcl
        have q1 := zie G (zgu S (ziy c a)) line.facts (by omega)
        have q2 := zie G (zjy c inF st a) line.rests (by omega)
        generalize zgu S (ziy c a) = F at hcl hK q1
        generalize zjy c inF st a = R at hcl hK q2
        generalize (zv a.number am).getD 0 = amt at hcl hK
        generalize decide (F = line.facts) = z1 at hK q1
        generalize decide (R = line.rests) = z2 at hK q2
        refine ye rfl rfl rfl rfl rfl rfl (hcl.mono ?_)
        rintro r9 H9 ⟨rfl, rfl⟩
        refine ⟨Nat.le_refl _, ?_⟩
        (refine zc ?_; conv => whnf)
        repeat' ((with_reducible refine way ?_ ?_) <;> (intro h; conv => whnf))
        · rw [decide_eq_true ‹a.line = line.line›, decide_eq_true ‹amt = line.amount›, Bool.true_and, Bool.true_and] at hK
          refine zd rfl  q1 ?_
          cases z1 with
          | false =>
            (refine zc ?_; conv => whnf)
            exact hK _
          | true =>
          (refine zc ?_; conv => whnf)
          refine zd rfl  q2 ?_
          (refine zc ?_; conv => whnf)
          exact hK _
        · rw [decide_eq_false ‹¬ amt = line.amount›, Bool.and_false] at hK
          exact hK _
        · rw [decide_eq_false ‹¬ a.line = line.line›] at hK
          exact hK _
    · rw [hw]
      exact zh [9, 13, 56, 57, 58] (ih fun y => absurd y.1 ‹¬ o = line.art›)
end Go.Proofs.YtjnddlifnkgncaaGreatDoor
namespace Go.Sh
variable {P:Program} {G:List (Nat × D)}
theorem yhq {f:FuncId} {args args':List SV} {r:SV} (h:zq P G f args' r) (ha:SIs args args'):zq P G f args r:=fun H w I β vs hH hv=>
 h H w I β vs hH ⟨by rw [hv.len,ha.len],fun j v s h1 h2=>by
  have hj:j<args'.length:=by
   rcases Nat.lt_or_ge j args'.length with h|h
   ·exact h
   ·rw [List.getElem?_eq_none h] at h2
    cases h2
  have hj':j<args.length:=by rw [ha.len];exact hj
  rw [List.getElem?_eq_getElem hj] at h2;cases h2
  exact ha.get j hj' hj w I β v (hv.rep j v _ h1 (List.getElem?_eq_getElem hj'))⟩
end Go.Sh
namespace Go.Proofs.YtjnddlifnkgncaaGreatDoor
open Go Go.Sh
theorem ymk {l:List Nat} (h:∀x∈l,x<18446744073709551616) (i:Nat):l.getD i 0<18446744073709551616:=by
 rw [List.getD_eq_getElem?_getD];cases hg:l[i]? with
 |none=>exact (by decide:(0:Nat)<18446744073709551616)
 |some x=>exact h x (List.mem_of_getElem? hg)
theorem yml:∀(rs:List (List Nat)) (i:Nat),(∀r∈rs,∀x∈r,x<18446744073709551616)->(pth rs i).length<=rs.length/\∀x∈pth rs i,x.sib<18446744073709551616
 |[],_,_=>⟨Nat.le_refl _,fun x hx=>by cases hx⟩
 |r::rs,i,h=>by
  obtain ⟨h1,h2⟩:=yml rs (i / 2) (fun r hr=>h r (by simp [hr]));have h3:(zha r i).length<=1/\∀x∈zha r i,x.sib<18446744073709551616:=by
   unfold zha;split
   ·refine ⟨Nat.le_refl _,fun x hx=>?_⟩
    rw [List.mem_singleton] at hx;subst hx;exact ymk (h r (by simp)) _
   ·split
    ·refine ⟨Nat.le_refl _,fun x hx=>?_⟩
     rw [List.mem_singleton] at hx;subst hx;exact ymk (h r (by simp)) _
    ·exact ⟨Nat.zero_le _,fun x hx=>by cases hx⟩
  rw [pth];refine ⟨by rw [List.length_append,List.length_cons];omega,fun x hx=>?_⟩;rcases List.mem_append.1 hx with hx|hx
  ·exact h3.2 x hx
  ·exact h2 x hx
theorem ztm:∀(f:Nat) (r:List Nat),(ww f r).length<=f+1
 |0,_=>Nat.le_refl _
 |f+1,r=>by
  rw [ww];split
  ·have:=ztm f (zbq r)
   rw [List.length_cons];omega
  ·rw [List.length_singleton]
   omega
theorem zze (l:List ByteArray) (i:Nat):(zkh l i).length<=1025/\∀x∈zkh l i,x.sib<18446744073709551616:=by
 have h1:=ztm 1024 (l.map qj)
 have h2:=yml (ww 1024 (l.map qj)) i (zqe 1024 _ (fun x hx=>by
  obtain ⟨y,_,rfl⟩:=List.mem_map.1 hx
  exact js _))
 rw [zyq];exact ⟨by omega,h2.2⟩
theorem yhr (seed:ByteArray) (i:Int) (text:ByteArray):∀x∈chainsN seed i text,x<18446744073709551616:=by
 intro x hx;unfold chainsN at hx;obtain ⟨k,_,rfl⟩:=List.mem_map.1 hx;exact zyf (js _) _
theorem ymm {s:Slip} (hg:SlipGood s) (hr:∀r∈s.rows,r.label.size<=100000/\r.reason.size<=100000) (hp:s.person.size<=1000) {sel:List Int} (hsel:zjd s.rows.length none sel=true) (hsl:sel.length<=1000000) (seed:ByteArray) (h i:Nat):DFit (showN s sel seed h i) where
 person:=Nat.le_trans hp (by decide)
 root:=by
  show s.root<_;rw [<-hg.root];exact yef _
 commit:=by
  show (znh s.rows s.blinds).length<=_;rw [zni _ _ hg.blinds];exact Nat.le_trans hg.rows.2 (by decide)
 shown:=by
  show (sel.map (showRow s)).length<=_;rw [List.length_map];exact Nat.le_trans hsl (by decide)
 row:=fun x hx=>by
  obtain ⟨k,hk,rfl⟩:=List.mem_map.1 (show x∈sel.map (showRow s) from hx);have hkr:=(zki _ _ _ hsel).2.1 k hk;have hlt:k.toNat<s.rows.length:=by omega
  have hmem:s.rows.getD k.toNat ⟨⟨#[]⟩,0,⟨#[]⟩⟩∈s.rows:=by
   rw [List.getD_eq_getElem?_getD,List.getElem?_eq_getElem hlt];exact List.getElem_mem hlt
  have h1:=hr _ hmem;have h2:=zze (zak s.rows s.blinds) k.toNat;exact ⟨Nat.le_trans h1.1 (by decide),Nat.le_trans h1.2 (by decide),Nat.le_trans h2.1 (by decide),h2.2⟩
 chains:=yhr _ _ _
 path:=by
  have h2:=zze (leavesN seed h) i;exact ⟨Nat.le_trans h2.1 (by decide),h2.2⟩
def ycb:ByteArray:=⟨#[115,101,101,100]⟩
theorem zjh:SlipGood shSlip:=⟨by kernel_rfl,by decide,by decide,rfl,by decide,by decide,rfl⟩
theorem zqr:∀r∈shSlip.rows,r.label.size<=100000/\r.reason.size<=100000:=by decide
def zkl (amount:Int) (fs:List Int):Ln:=⟨8770,0,0,amount,fs,[]⟩
theorem yvd:zcm offC yia yhz 8771 (zkl 9600 [1])=true:=by rw [zew];kernel_rfl
theorem yth:zcm offC yia yhz 8771 (zkl 9601 [1])=false:=by rw [zew];kernel_rfl
theorem yti:zcm offC yia yhz 8771 (zkl 9600 [])=false:=by rw [zew];kernel_rfl
theorem ypw:zcm offC yia yhz 8770 (zkl 9600 [1])=false:=by rw [zew];kernel_rfl
theorem yve:zcm offC yia ywl 8771 (zkl 9600 [1])=false:=by rw [zew];kernel_rfl
theorem ypx:Codex.fit offC:=fun a ha=>by
 rw [show offC.arts=[_] from rfl,List.mem_singleton] at ha;subst ha;exact ⟨Nat.zero_le _,Nat.zero_le _⟩
theorem ymn (person:ByteArray) (known:Int) (l:Ln) (b:Bool) (h:zcm offC yia person known l=b):zq Tryz.prog G37 19 [offC.sv,.imm (qu yia),sS person,sI known,yts l] (sB b):=by
 have:=yca G37 offC ypx (by decide) (by decide) (by decide) (by decide) yia (by decide) person known l;rw [h] at this;exact this
theorem yvf:zq Tryz.prog G37 9 [] (sB true):=by
 have hsel:zjd shSlip.rows.length none [0]=true:=by decide
 have hsum: -500000000<=wt (shSlip.rows.map Rw.cents) (zmr shSlip.rows.length [0])/\wt (shSlip.rows.map Rw.cents) (zmr shSlip.rows.length [0])<=500000000:=by decide
 have hok:=yta zjh hsel ycb (h:=1) (i:=1) (by decide) (by decide) hsum;have hfit:=ymm zjh zqr (by decide) hsel (by decide) ycb 1 1;have c1:=ypj ycb 1 (by decide) (by decide);have c2:=yhd;have c3:=ylq shSlip zjh zqr (by decide) [0] hsel (by decide) ycb 1 1 (by decide) (by decide) (by decide) hsum;have hhid:(showN shSlip [0] ycb 1 1).hidden=30000:=by
  show wt (shSlip.rows.map Rw.cents) (zmr shSlip.rows.length [0])=30000;decide
 generalize showN shSlip [0] ycb 1 1=d at hok hfit c3 hhid;generalize keyN ycb 1=key at hok c1;generalize shSlip=ss at c2 c3;have hbad:accOK key 1 {d with hidden:=29999}=false:=zvk hok (by rw [hhid];decide);have hzero:accOK key 0 d=false:=ypt hok (by decide);have a1:=zdc zdg key 1 d hfit;have a2:=zdc zdg key 1 {d with hidden:=29999} ⟨hfit.person,hfit.root,hfit.commit,hfit.shown,hfit.row,hfit.chains,hfit.path⟩;have a3:=zdc zdg key 0 d hfit;have hok:accOK key 1 d=true:=hok;rw [hok] at a1;rw [hbad] at a2;rw [hzero] at a3;obtain ⟨person,month,root,commit,shown,hidden,blind,⟨index,chains,path⟩⟩:=d;simp only at hhid;subst hhid;clear hok hbad hzero hfit hsel hsum;have c4:=ybk G37;have nilR:SIs (lnC (zkl 9600 [1])) (lnC (zkl 9600 [1])):=.cons (SV.Is.refl _) (.cons (SV.Is.refl _) (.cons (SV.Is.refl _) (.cons (SV.Is.refl _) (.cons (SV.Is.refl _) (.cons (SV.Is.refl _) .nil)))));have isL:∀(am:Int) (fd:D) (fs:List Int),(SV.imm fd).Is (.imm (yb fs))->(SV.agg [sI 8770,sI 0,sI 0,sI am,.imm fd,.imm yng]).Is (yts (zkl am fs)):=fun am fd fs h=>
  SIs.agg (.cons (SV.Is.refl _) (.cons (SV.Is.refl _) (.cons (SV.Is.refl _) (.cons (SV.Is.refl _) (.cons h (.cons (SV.Is.nil 1) .nil))))))
 have rp:∀(person:ByteArray) (known am:Int) (fd:D) (fs:List Int) (b:Bool),(SV.imm fd).Is (.imm (yb fs))->zcm offC yia person known (zkl am fs)=b->
   zq Tryz.prog G37 19 [offC.sv,.imm (qu yia),sS person,sI known,.agg [sI 8770,sI 0,sI 0,sI am,.imm fd,.imm yng]] (sB b):=fun person known am fd fs b h1 h2=>
  yhq (ymn person known _ b h2) (.cons (SV.Is.refl _) (.cons (SV.Is.refl _) (.cons (SV.Is.refl _) (.cons (SV.Is.refl _) (.cons (isL am fd fs h1) .nil)))))
 have r1:=rp yhz 8771 9600 (yb [1]) [1] true (SV.Is.refl _) yvd;have r2:=rp yhz 8771 9601 (yb [1]) [1] false (SV.Is.refl _) yth;have r3:=rp yhz 8771 9600 yng [] false (SV.Is.nil 1) yti;have r4:=rp yhz 8770 9600 (yb [1]) [1] false (SV.Is.refl _) ypw;have r5:=rp ywl 8771 9600 (yb [1]) [1] false (SV.Is.refl _) yve;clear rp isL nilR;refine zg Tryz.func9 rfl (by rw [Tryz.ntmps9];simp) rfl rfl ?_;intro E hH hK;(refine ze ?_;conv=>whnf);refine zd rfl  c1 ?_;(refine zc ?_;conv=>whnf);refine zd rfl  c2 ?_;(refine zc ?_;conv=>whnf);refine zd rfl  c3 ?_;(refine zc ?_;conv=>whnf);refine zd rfl  c4 ?_;(refine zc ?_;conv=>whnf);(refine wk 2 mixed rfl ?_;refine zn [] (nx:=4) ?_;conv=>whnf);(refine ze ?_;conv=>whnf);refine zd rfl  a1 ?_;(refine zc ?_;conv=>whnf);refine zd rfl  a2 ?_;(refine zc ?_;conv=>whnf);refine zd rfl  a3 ?_;(refine zc ?_;conv=>whnf);refine zd rfl  r1 ?_;(refine zc ?_;conv=>whnf);refine zd rfl  r2 ?_;(refine zc ?_;conv=>whnf);refine zd rfl  r3 ?_;(refine zc ?_;conv=>whnf);refine zd rfl  r4 ?_;(refine zc ?_;conv=>whnf);refine zd rfl  r5 ?_;(refine zc ?_;conv=>whnf);exact hK _
def byX (a:Nat) (i:Int):Int:=IntKind.u8.wrap ((a:Int).fdiv (2 ^ min (IntKind.i64.wrap (8*i)).toNat IntKind.u64.bits))
theorem yvg (a i:Nat) (hi:i<=7):byX a i=((yol a (7-i)).toNat:Int):=by
 have h1:(IntKind.i64.wrap (8*(i:Int))).toNat=8*i:=by rw [zr (by omega) (by omega)];omega
 unfold byX;rw [h1,show min (8*i) IntKind.u64.bits=8*i from Nat.min_eq_left (show 8*i<=64 by omega),yaa,yom,zhh,show 7-(7-i)=i by omega,Nat.pow_mul]
theorem zkm (G:List (Nat × D)) (a b:Nat):zq Tryz.prog G 160 [yy a,yy b] (sS (⟨#[1]⟩++zhq a++zhq b)):=by
 have hres:zaz ([1]++[byX a 7,byX a 6,byX a 5,byX a 4,byX a 3,byX a 2,byX a 1,byX a 0]++[byX b 7,byX b 6,byX b 5,byX b 4,byX b 3,byX b 2,byX b 1,byX b 0])=⟨#[1]⟩++zhq a++zhq b:=by
  have key:∀d:Nat,[byX d 7,byX d 6,byX d 5,byX d 4,byX d 3,byX d 2,byX d 1,byX d 0]=(zmy d).map fun c=>(c.toNat:Int):=fun d=>by
   have h:=fun i hi=>yvg d i hi
   show [byX d (7:Nat),byX d (6:Nat),byX d (5:Nat),byX d (4:Nat),byX d (3:Nat),byX d (2:Nat),byX d (1:Nat),byX d (0:Nat)]=_;rw [h 7 (by decide),h 6 (by decide),h 5 (by decide),h 4 (by decide),h 3 (by decide),h 2 (by decide),h 1 (by decide),h 0 (by decide)];rfl
  rw [key a,key b,show ([1]:List Int)=([1]:List UInt8).map fun c=>(c.toNat:Int) from rfl, <-List.map_append, <-List.map_append,zfo]
  apply ByteArray.ext
  simp [ByteArray.data_append,zhq]
 rw [<-hres];clear hres;refine zg Tryz.func160 rfl (by rw [Tryz.ntmps160];simp) rfl rfl ?_;intro E hH hK;(refine ze ?_;conv=>whnf);refine zh [0,1,5,8] ?_;change SW E _ [(0,yy a),(1,yy b),(5,.ptr 0 0),(8,sI 0)] [.cells [.imm (.val (.int .u8 1)),.imm (.val (.int .u8 0)),.imm (.val (.int .u8 0)),.imm (.val (.int .u8 0)),.imm (.val (.int .u8 0)),.imm (.val (.int .u8 0)),.imm (.val (.int .u8 0)),.imm (.val (.int .u8 0)),.imm (.val (.int .u8 0)),.imm (.val (.int .u8 0)),.imm (.val (.int .u8 0)),.imm (.val (.int .u8 0)),.imm (.val (.int .u8 0)),.imm (.val (.int .u8 0)),.imm (.val (.int .u8 0)),.imm (.val (.int .u8 0)),.imm (.val (.int .u8 0))]];refine zzt ?_;(refine zo [777,28] 1000 ?_;conv=>whnf);refine zh [0,1,5,8] ?_;change SW E _ [(0,yy a),(1,yy b),(5,.ptr 0 0),(8,sI 1)] [.cells [.imm (.val (.int .u8 1)),.imm (.val (.int .u8 0)),.imm (.val (.int .u8 0)),.imm (.val (.int .u8 0)),.imm (.val (.int .u8 0)),.imm (.val (.int .u8 0)),.imm (.val (.int .u8 0)),.imm (.val (.int .u8 0)),.imm (.val (.int .u8 (byX a 0))),.imm (.val (.int .u8 0)),.imm (.val (.int .u8 0)),.imm (.val (.int .u8 0)),.imm (.val (.int .u8 0)),.imm (.val (.int .u8 0)),.imm (.val (.int .u8 0)),.imm (.val (.int .u8 0)),.imm (.val (.int .u8 (byX b 0)))]];refine zag ?_;(refine zo [777,28] 1000 ?_;conv=>whnf);refine zh [0,1,5,8] ?_;change SW E _ [(0,yy a),(1,yy b),(5,.ptr 0 0),(8,sI 2)] [.cells [.imm (.val (.int .u8 1)),.imm (.val (.int .u8 0)),.imm (.val (.int .u8 0)),.imm (.val (.int .u8 0)),.imm (.val (.int .u8 0)),.imm (.val (.int .u8 0)),.imm (.val (.int .u8 0)),.imm (.val (.int .u8 (byX a 1))),.imm (.val (.int .u8 (byX a 0))),.imm (.val (.int .u8 0)),.imm (.val (.int .u8 0)),.imm (.val (.int .u8 0)),.imm (.val (.int .u8 0)),.imm (.val (.int .u8 0)),.imm (.val (.int .u8 0)),.imm (.val (.int .u8 (byX b 1))),.imm (.val (.int .u8 (byX b 0)))]];refine zag ?_;(refine zo [777,28] 1000 ?_;conv=>whnf);refine zh [0,1,5,8] ?_;change SW E _ [(0,yy a),(1,yy b),(5,.ptr 0 0),(8,sI 3)] [.cells [.imm (.val (.int .u8 1)),.imm (.val (.int .u8 0)),.imm (.val (.int .u8 0)),.imm (.val (.int .u8 0)),.imm (.val (.int .u8 0)),.imm (.val (.int .u8 0)),.imm (.val (.int .u8 (byX a 2))),.imm (.val (.int .u8 (byX a 1))),.imm (.val (.int .u8 (byX a 0))),.imm (.val (.int .u8 0)),.imm (.val (.int .u8 0)),.imm (.val (.int .u8 0)),.imm (.val (.int .u8 0)),.imm (.val (.int .u8 0)),.imm (.val (.int .u8 (byX b 2))),.imm (.val (.int .u8 (byX b 1))),.imm (.val (.int .u8 (byX b 0)))]];refine zag ?_;(refine zo [777,28] 1000 ?_;conv=>whnf);refine zh [0,1,5,8] ?_;change SW E _ [(0,yy a),(1,yy b),(5,.ptr 0 0),(8,sI 4)] [.cells [.imm (.val (.int .u8 1)),.imm (.val (.int .u8 0)),.imm (.val (.int .u8 0)),.imm (.val (.int .u8 0)),.imm (.val (.int .u8 0)),.imm (.val (.int .u8 (byX a 3))),.imm (.val (.int .u8 (byX a 2))),.imm (.val (.int .u8 (byX a 1))),.imm (.val (.int .u8 (byX a 0))),.imm (.val (.int .u8 0)),.imm (.val (.int .u8 0)),.imm (.val (.int .u8 0)),.imm (.val (.int .u8 0)),.imm (.val (.int .u8 (byX b 3))),.imm (.val (.int .u8 (byX b 2))),.imm (.val (.int .u8 (byX b 1))),.imm (.val (.int .u8 (byX b 0)))]];refine zag ?_;(refine zo [777,28] 1000 ?_;conv=>whnf);refine zh [0,1,5,8] ?_;change SW E _ [(0,yy a),(1,yy b),(5,.ptr 0 0),(8,sI 5)] [.cells [.imm (.val (.int .u8 1)),.imm (.val (.int .u8 0)),.imm (.val (.int .u8 0)),.imm (.val (.int .u8 0)),.imm (.val (.int .u8 (byX a 4))),.imm (.val (.int .u8 (byX a 3))),.imm (.val (.int .u8 (byX a 2))),.imm (.val (.int .u8 (byX a 1))),.imm (.val (.int .u8 (byX a 0))),.imm (.val (.int .u8 0)),.imm (.val (.int .u8 0)),.imm (.val (.int .u8 0)),.imm (.val (.int .u8 (byX b 4))),.imm (.val (.int .u8 (byX b 3))),.imm (.val (.int .u8 (byX b 2))),.imm (.val (.int .u8 (byX b 1))),.imm (.val (.int .u8 (byX b 0)))]];refine zag ?_;(refine zo [777,28] 1000 ?_;conv=>whnf);refine zh [0,1,5,8] ?_;change SW E _ [(0,yy a),(1,yy b),(5,.ptr 0 0),(8,sI 6)] [.cells [.imm (.val (.int .u8 1)),.imm (.val (.int .u8 0)),.imm (.val (.int .u8 0)),.imm (.val (.int .u8 (byX a 5))),.imm (.val (.int .u8 (byX a 4))),.imm (.val (.int .u8 (byX a 3))),.imm (.val (.int .u8 (byX a 2))),.imm (.val (.int .u8 (byX a 1))),.imm (.val (.int .u8 (byX a 0))),.imm (.val (.int .u8 0)),.imm (.val (.int .u8 0)),.imm (.val (.int .u8 (byX b 5))),.imm (.val (.int .u8 (byX b 4))),.imm (.val (.int .u8 (byX b 3))),.imm (.val (.int .u8 (byX b 2))),.imm (.val (.int .u8 (byX b 1))),.imm (.val (.int .u8 (byX b 0)))]];refine zag ?_;(refine zo [777,28] 1000 ?_;conv=>whnf);refine zh [0,1,5,8] ?_;change SW E _ [(0,yy a),(1,yy b),(5,.ptr 0 0),(8,sI 7)] [.cells [.imm (.val (.int .u8 1)),.imm (.val (.int .u8 0)),.imm (.val (.int .u8 (byX a 6))),.imm (.val (.int .u8 (byX a 5))),.imm (.val (.int .u8 (byX a 4))),.imm (.val (.int .u8 (byX a 3))),.imm (.val (.int .u8 (byX a 2))),.imm (.val (.int .u8 (byX a 1))),.imm (.val (.int .u8 (byX a 0))),.imm (.val (.int .u8 0)),.imm (.val (.int .u8 (byX b 6))),.imm (.val (.int .u8 (byX b 5))),.imm (.val (.int .u8 (byX b 4))),.imm (.val (.int .u8 (byX b 3))),.imm (.val (.int .u8 (byX b 2))),.imm (.val (.int .u8 (byX b 1))),.imm (.val (.int .u8 (byX b 0)))]];refine zag ?_;(refine zo [777,28] 1000 ?_;conv=>whnf);refine zh [0,1,5,8] ?_;change SW E _ [(0,yy a),(1,yy b),(5,.ptr 0 0),(8,sI 8)] [.cells [.imm (.val (.int .u8 1)),.imm (.val (.int .u8 (byX a 7))),.imm (.val (.int .u8 (byX a 6))),.imm (.val (.int .u8 (byX a 5))),.imm (.val (.int .u8 (byX a 4))),.imm (.val (.int .u8 (byX a 3))),.imm (.val (.int .u8 (byX a 2))),.imm (.val (.int .u8 (byX a 1))),.imm (.val (.int .u8 (byX a 0))),.imm (.val (.int .u8 (byX b 7))),.imm (.val (.int .u8 (byX b 6))),.imm (.val (.int .u8 (byX b 5))),.imm (.val (.int .u8 (byX b 4))),.imm (.val (.int .u8 (byX b 3))),.imm (.val (.int .u8 (byX b 2))),.imm (.val (.int .u8 (byX b 1))),.imm (.val (.int .u8 (byX b 0)))]];refine zag ?_;(refine zo [777,28] 1000 ?_;conv=>whnf);refine zmc rfl rfl rfl rfl rfl rfl (by unfold maxLen;decide) ?_;refine zst (b:=0) (n:=17) (ns:=[1]++[byX a 7,byX a 6,byX a 5,byX a 4,byX a 3,byX a 2,byX a 1,byX a 0]++[byX b 7,byX b 6,byX b 5,byX b 4,byX b 3,byX b 2,byX b 1,byX b 0]) rfl rfl rfl rfl rfl rfl rfl rfl rfl ?_;(refine zc ?_;conv=>whnf);exact hK _
end Go.Proofs.YtjnddlifnkgncaaGreatDoor
namespace Go.Sh
section
variable {P:Program} {G:List (Nat × D)} {fn:Func} {rd:Bool} {E:En P G fn rd} {t:List (Nat × SV)} {H:List SObj} {k:List Item}
def yer (ops:Array Oper) (m:Nat):Bool:=(List.range m).all fun i=>ops.toList.zipIdx.any fun (o,j)=>decide (i<j)&&decide (j<=m)&&(xf o).contains i
theorem ymo {ops:Array Oper} {m i:Nat} (h:yer ops m=true) (hi:i<m):∃(j:Nat) (o:Oper),ops[j]?=some o/\i<j/\j<=m/\i∈xf o:=by
 unfold yer at h;have:=List.all_eq_true.1 h i (List.mem_range.2 hi);rw [List.any_eq_true] at this;obtain ⟨⟨o,j⟩,hm,hc⟩:=this;simp only [Bool.and_eq_true,decide_eq_true_eq,List.contains_iff_mem] at hc;have:=List.mem_zipIdx_iff_getElem?.1 hm;exact ⟨j,o,by simpa using this,hc.1.1,hc.1.2,hc.2⟩
def zml (n m:Nat):Array Bool:=((List.range n).map fun i=>decide (i<m)).toArray
theorem yhs (n m i:Nat) (hi:i<n):(zml n m).getD i false=decide (i<m):=by
 simp [zml,Array.getD,hi]
theorem ypy {a b:Array Bool} (h:a.size=b.size) (he:∀i,i<a.size->a.getD i false=b.getD i false):a=b:=by
 apply Array.ext h
 intro i h1 h2;have:=he i h1;simpa [Array.getD,h1,h2] using this
theorem ymp {ops:Array Oper} (hnd:∀(i:Nat) o,ops[i]?=some o->∀c,o.op≠ .defer c) {R:Act->World->Prop} {b:Frame} {ro:Option Nat} {cs:List Frame} {i:Nat} {rest:List Nat} {a:Act} {w:World}
  (h:wpOp P ops (fun e _ _=>e= .normal) i R a w):∃a' w',R a' w'/\Steps P (lone (atR b ro a (.inRegion ops (i::rest)::k)) cs w) (lone (atR b ro a' (.inRegion ops rest::k)) cs w'):=by
 unfold wpOp at h;cases ho:ops[i]? with
 |none=>
  rw [ho] at h;refine ⟨a,w,h,?_⟩;have:=je (P:=P) (b:=b) (ro:=ro) (a:=a) (k:=k) (cs:=cs) (w:=w) (ops:=ops) (i:=i) (rest:=rest) (by simp [ho]);refine .one ?_;simpa [ho,Act.put] using this
 |some o=>
  rw [ho] at h;simp only at h
  by_cases hw:Region.wanted o (yielded ops a.tmps)=true
  ·rw [if_pos hw] at h
   have hg:=jm (P:=P) (b:=b) (ro:=ro) (k:=k) (cs:=cs) (w:=w) (rest:=rest) ho hw (.inr (hnd i o ho));have qi:∀v,(atR b ro a (.inRegion ops (i::rest)::k)).finish v=atR b ro (a.put o.dst v) (.inRegion ops rest::k):=fun v=>by rw [qf,ho];rfl
   rcases h with h|⟨_,a0,w0,h0,_⟩
   ·unfold Oper.wp at h
    generalize hres:(execOp a.eval o).run P w=res at h;cases res with
    |halt x w'=>cases x<;>simp [Oper.upon] at h
    |ok n w'=>
     cases n<;>simp only [Oper.upon] at h<;>first|(exact h.elim)|skip
     case value v=>exact ⟨_,_,h,.one (step_lone_go (by rw [hg, <-qi];simp [stepG.apply,hres]))⟩
     case skip=>exact ⟨_,_,h,.one (step_lone_go (by rw [hg, <-qi];simp [stepG.apply,hres]))⟩
     case defer d=>
      have hfd:({atR b ro a (.inRegion ops (i::rest)::k) with defers:=d::a.defers}:Frame).finish undef=atR b ro ({a with defers:=d::a.defers}.put o.dst undef) (.inRegion ops rest::k):=by
       cases hd:o.dst<;>simp [Frame.finish,atR,Frame.at,Act.put,ho,hd]
      exact ⟨_,_,h,.one (step_lone_go (by rw [hg, <-hfd];simp [stepG.apply,hres,atR,Frame.at]))⟩
     case enter f args=>
      obtain ⟨e,w2,fr,h1,h2,h3,h4⟩:=h (atR b ro a (.inRegion ops (i::rest)::k)::cs);cases e with
      |panicked ch=>cases h1
      |outgrown=>obtain ⟨_,_,h5,_⟩:=h1
      |returned v=>
       have henter:step P (lone (atR b ro a (.inRegion ops (i::rest)::k)) cs w)= .next (lone (Frame.enter P f args .normal) (atR b ro a (.inRegion ops (i::rest)::k)::cs) w'):=
        step_lone_go (by rw [hg];simp [stepG.apply,hres,atR,Frame.at])
       refine ⟨_,w2,h1,.head henter (Steps.trans h2 (.one ?_))⟩;rw [<-qi];exact step_leave_returned h4
     case row row args=>
      obtain ⟨v,w2,h1,h2⟩:=h (atR b ro a (.inRegion ops (i::rest)::k)) cs;have henter:step P (lone (atR b ro a (.inRegion ops (i::rest)::k)) cs w)= .next (lone (Frame.ofRow P row args .normal) (atR b ro a (.inRegion ops (i::rest)::k)::cs) w'):=
       step_lone_go (by rw [hg];simp [stepG.apply,hres,atR,Frame.at])
      rw [qi] at h2;exact ⟨_,w2,h1,.head henter h2⟩
  ·rw [if_neg hw] at h
   have:=je (P:=P) (b:=b) (ro:=ro) (a:=a) (k:=k) (cs:=cs) (w:=w) (ops:=ops) (i:=i) (rest:=rest) (by simpa [ho] using hw);simp only [ho,Option.bind_some] at this;exact ⟨_,_,h,.one this⟩
theorem ypz {ops : Array Oper} {vals : List SV} {m : Nat} (hu : Uniq ops) (hnd : ∀ (i : Nat) o, ops[i]? = some o -> ∀ c, o.op ≠ .defer c) (hm : m < ops.size) (hhead : yer ops m = true) (htail : zft ops m = true)
    (hvals : ∀ (i : Nat) o, i < m -> ops[i]? = some o -> ∃ v, vals[i]? = some v /\ Val P G fn.ntmps ops H o (tAt ops.toList vals t i) v) (cs : List Frame) :
    ∀ (fuel tt : Nat) (listed : Array Bool) (a : Act) (w : World) (I : Imm) (β : List Bnd), Mid E ops vals t H listed a w I β -> (∀ j, m <= j -> listed.getD j false = false) -> qh listed = fuel ->
      ∃ tt' a' w' I' β', Sim E (tAt ops.toList vals t m) H a' w' I' β' /\
        Steps P (lone (E.at a (.inRegion ops (Region.linearise.go .any ops fuel tt listed []) :: k)) cs w) (lone (E.at a' (.inRegion ops (m :: Region.linearise.go .any ops (ops.size - m - 1) tt' (zml ops.size (m + 1)) []) :: k)) cs w') := by
  intro fuel
  induction fuel with
  | zero =>
    intro tt listed a w I β h hnl hf
    exfalso
    have := qz (l := listed) (i := m) (by rw [h.lsize]; exact hm) (hnl m (Nat.le_refl _))
    omega
  | succ fuel ih =>
    intro tt listed a w I β h hnl hf
    have hne : Region.ready .any ops listed ≠ [] := fun hr => by
      have := zjk hu h.lsize hr m hm
      rw [hnl m (Nat.le_refl _)] at this
      cases this
    obtain ⟨i, hi, hgo⟩ : ∃ i, i ∈ Region.ready .any ops listed /\ Region.linearise.go .any ops (fuel + 1) tt listed [] = i :: Region.linearise.go .any ops fuel (tt / (Region.ready .any ops listed).length) (listed.setIfInBounds i true) [] := by
      simp only [Region.linearise.go]
      change ∃ i, _ /\ (match (Region.ready .any ops listed)[tt % (Region.ready .any ops listed).length]? with
        | some i => Region.linearise.go .any ops fuel (tt / (Region.ready .any ops listed).length) (listed.setIfInBounds i true) [i]
        | none => [].reverse) = _
      have hlt : tt % (Region.ready .any ops listed).length < (Region.ready .any ops listed).length := Nat.mod_lt _ (List.length_pos_iff.2 hne)
      refine ⟨(Region.ready .any ops listed)[tt % (Region.ready .any ops listed).length], List.getElem_mem hlt, ?_⟩
      rw [List.getElem?_eq_getElem hlt]
      simp only []
      rw [linearise_go_acc, List.reverse_singleton, List.singleton_append]
    rw [hgo]
    generalize tt / (Region.ready .any ops listed).length = tn
    obtain ⟨o, ho, hn, hb⟩ := zcr h.lsize hi
    have him : i <= m := by
      rcases Nat.lt_or_ge m i with h' | h'
      · obtain ⟨j, hj, hmj⟩ := zwf htail ho h'
        have := hb j hj
        rw [hnl j hmj] at this
        cases this
      · exact h'
    have hil : i < listed.size := by rw [h.lsize]; omega
    have hcount := qz hil hn
    rcases Nat.lt_or_eq_of_le him with hlt | rfl
    · -- a value
      obtain ⟨s, hs, hval⟩ := hvals i o hlt ho
      have next : ∀ (v : Value) (w' : World) (I' : Imm) (β' : List Bnd), Rep w' I' β' v s -> HeapOK G w' I' β' H -> Ext H.length w I β H w' I' β' H -> ∃ I' β', Mid E ops vals t H (listed.setIfInBounds i true) (a.put o.dst v) w' I' β' :=
        fun v w' I' β' h1 h2 h3 => ⟨I', β', h.put hu ho hb hval.dst hs h1 h2 h3⟩
      have hw : wpOp P ops (fun e _ _ => e = .normal) i (fun a' w' => ∃ I' β', Mid E ops vals t H (listed.setIfInBounds i true) a' w' I' β') a w := by
        unfold wpOp
        rw [ho]
        simp only
        rcases hval.how with ⟨hw, rfl⟩ | ⟨hw, hop | hcall⟩
        · rw [h.want hu ho hn hb hw]
          exact next undef w I β (.imm (.val _)) h.heap .refl
        · rw [h.want hu ho hn hb hw]
          simp only [if_true]
          left
          classical
          have hop' : sop P o.op (fun x => if x ∈ o.op.operands then zl G (tAt ops.toList vals t i) x else .any) H = some (s, H) := by
            rw [<- hop]
            exact zgg fun x hx => by simp [hx]
          obtain ⟨n, v, w', I', β', h1, h2, h3, h4, h5⟩ := zkr (o := o) (ρ := a.eval) hop' h.heap (fun x => by
            split
            · rename_i hx; exact h.eval hu ho hn hb x hx
            · exact .any _)
          unfold Oper.wp
          rw [h1]
          rcases h2 with rfl | ⟨rfl, rfl⟩
          · exact next v w' I' β' h3 h4 h5
          · exact next undef w' I' β' h3 h4 h5
        · obtain ⟨fx, args, tys, f, first, captured, hopc, hfx, hbody, hpure⟩ := hcall
          rw [h.want hu ho hn hb hw]
          simp only [if_true]
          left
          have hmem : ∀ x ∈ args, x ∈ o.op.operands := fun x hx => by rw [hopc]; simp [Op.operands, Call.operands, hx]
          have hfr := h.eval hu ho hn hb fx (by rw [hopc]; simp [Op.operands, Call.operands])
          rw [hfx] at hfr
          generalize hfv : a.eval fx = fv at hfr
          cases hfr with
          | fn _ fs cps _ _ l1 l2 r1 r2 =>
          have hrun : (execOp a.eval o).run P w = .ok (.enter f (fs ++ args.map a.eval ++ cps)) w := by
            obtain ⟨dst, op, type, pos, after, guard⟩ := o
            simp only at hopc
            subst hopc
            simp only [execOp, resolve, hfv, Deferred.ofValue, Sem.run_bind, Sem.run_pure, Result.andThen_ok, invoke]
            exact qy hbody
          have hreps : Reps w I β (fs ++ args.map a.eval ++ cps).toList (first ++ args.toList.map (zl G (tAt ops.toList vals t i)) ++ captured) := by
            have e1 : Reps w I β fs.toList first := .of_get l1 r1
            have e2 : Reps w I β (args.map a.eval).toList (args.toList.map (zl G (tAt ops.toList vals t i))) := by
              have : ∀ l : List Operand, (∀ x ∈ l, x ∈ args.toList) -> Reps w I β (l.map a.eval) (l.map (zl G (tAt ops.toList vals t i))) := by
                intro l
                induction l with
                | nil => intro _; exact .nil
                | cons x l ihl => intro hl; exact .cons (h.eval hu ho hn hb x (hmem x (by simpa using hl x (by simp)))) (ihl fun y hy => hl y (by simp [hy]))
              simpa using this args.toList (fun _ h => h)
            have e3 : Reps w I β cps.toList captured := .of_get l2 r2
            simpa using (e1.append e2).append e3
          unfold Oper.wp
          rw [hrun]
          refine (hpure w I β _ h.heap hreps).mono ?_
          rintro e w' ⟨v, r', I', β', H', rfl, ⟨rfl, rfl⟩, h1, h2, h3⟩
          exact next v w' I' β' h1 h2 h3
      obtain ⟨a1, w1, ⟨I1, β1, hmid⟩, hst⟩ := ymp (k := k) (b := E.base) (ro := E.ro) (cs := cs) (rest := Region.linearise.go .any ops fuel tn (listed.setIfInBounds i true) []) hnd hw
      obtain ⟨tt', a', w', I', β', hsim, hst'⟩ := ih tn _ a1 w1 I1 β1 hmid (fun j hj => by rw [xt (by omega)]; exact hnl j hj) (by omega)
      exact ⟨tt', a', w', I', β', hsim, Steps.trans hst hst'⟩
    · -- the operation itself
      have hbefore : ∀ n j, n = i - j -> j < i -> listed.getD j false = true := by
        intro n
        induction n using Nat.strongRecOn with
        | _ n ihn =>
          intro j hn hj
          obtain ⟨j2, o2, ho2, h1, h2, h3⟩ := ymo hhead hj
          rcases Nat.lt_or_eq_of_le h2 with h4 | h4
          · exact h.closed j2 o2 ho2 (ihn (i - j2) (by omega) j2 rfl h4) j h3
          · subst h4
            rw [ho] at ho2
            cases ho2
            exact hb j h3
      have hset : listed.setIfInBounds i true = zml ops.size (i + 1) := by
        refine ypy (by simp [zml, h.lsize]) fun j hj => ?_
        have hj : j < ops.size := by
          have := hj
          rw [Array.size_setIfInBounds, h.lsize] at this
          exact this
        rw [yhs _ _ _ hj]
        by_cases e : i = j
        · subst e
          rw [wh hil]
          simp
        · rw [xt e]
          rcases Nat.lt_or_ge j i with h1 | h1
          · rw [hbefore _ j rfl h1]
            simp
            omega
          · rw [hnl j h1]
            simp
            omega
      have hfuel : fuel = ops.size - i - 1 := by
        have hc : qh (zml ops.size (i + 1)) = ops.size - (i + 1) := by
          unfold qh zml
          rw [List.toList_toArray, List.countP_map]
          have key : ∀ n, (List.range n).countP ((fun b => !b) ∘ fun j => decide (j < i + 1)) = n - (i + 1) := fun n => by
            induction n with
            | zero => simp
            | succ n ihn =>
              rw [List.range_succ, List.countP_append, ihn]
              by_cases h1 : n < i + 1
              · simp [h1]; omega
              · simp [h1]; omega
          exact key _
        rw [<- hset] at hc
        omega
      refine ⟨tn, a, w, I, β, ⟨h.heap, fun d => ?_, h.size, h.defers, h.ext, h.hlen⟩, ?_⟩
      · by_cases hwr : ∃ (j : Nat) (p : Oper), j < i /\ ops[j]? = some p /\ p.dst = some d
        · obtain ⟨j, p, hj, hp, hpd⟩ := hwr
          rw [zcx hu vals hp hpd _ hj]
          exact h.wrote j p d hp hpd (hbefore _ j rfl hj)
        · rw [zin vals _ (fun j p hj hp hpd => hwr ⟨j, p, hj, hp, hpd⟩)]
          refine h.old d (fun j p hp hpd => ?_)
          rcases Nat.lt_or_ge j i with h1 | h1
          · exact absurd ⟨j, p, h1, hp, hpd⟩ hwr
          · exact hnl j h1
      · rw [hset, hfuel]
        exact .refl _ _
theorem zzf {id m:Nat} {all:Array Oper} {t':List (Nat × SV)} (hm:P.follows .mixedOrders=true) (hdep:zuc all=true) (hlt:m<all.size) (hhead:yer all m=true) (htail:zft all m=true)
  (hd:Draws P G fn.ntmps all H (all.toList.take m) t t') {L:List (List Nat)} (hL:zxm all (all.size-m-1) (zml all.size (m+1))=L) (h:∀l∈L,SW E (.inRegion all (m::l)::k) t' H):SW E (.code (.region id all true)::k) t H:=by
 subst hL;obtain ⟨vals,hl,rfl,hvals⟩:=zrv hd;have hu:=zud hdep;have hlm:(all.toList.take m).length=m:=by simp;omega
 rw [hlm] at h;have htk:∀i,i<=m->tAt (all.toList.take m) vals t i=tAt all.toList vals t i:=by
  intro i
  induction i with
  |zero=>intro _;rfl
  |succ i ih=>
   intro hi;rw [tAt,tAt,ih (by omega),List.getElem?_take_of_lt (by omega)]
 rw [htk m (Nat.le_refl _)] at h;refine ⟨fun a w I β cs hs=>?_⟩;have hH:HeapOK G {w with drawn:=w.drawn+1} I β H:=hs.heap.grow (fun _ _=>rfl) (fun _ _ h=>h) (fun _ _ h=>.inl h) hs.heap.inI;have hE:Ext H.length w I β H {w with drawn:=w.drawn+1} I β H:=.grow hs.heap (fun _ _=>rfl) (Nat.le_refl _) (fun _ _ h=>h) (fun _ _ h=>.inl h);have none:∀j,(Array.replicate all.size false).getD j false=false:=fun j=>by
  rw [Array.getD_eq_getD_getElem?,Array.getElem?_replicate];split<;>rfl
 have mid:Mid E all vals t H (Array.replicate all.size false) a {w with drawn:=w.drawn+1} I β:=by
  refine ⟨hH,fun j p d _ _ hl=>?_,fun d _=>(hs.tmps d).ext (by rw [hs.heap.len];exact hE),hs.size,hs.defers.ext hE,hs.ext.trans (hE.weaken hs.hlen),hs.hlen,by simp,fun i o _ hl=>?_⟩
  ·rw [none] at hl;cases hl
  ·rw [none] at hl;cases hl
 have hcnt:qh (Array.replicate all.size false)=all.size:=by
  unfold qh;rw [Array.toList_replicate,List.countP_replicate];simp
 obtain ⟨tt',a',w',I',β',hsim,hst⟩:=ypz (k:=k) hu (zhg hdep) hlt hhead htail (fun i o hi ho=>by
  obtain ⟨v,h1,h2⟩:=hvals i o (by rw [List.getElem?_take_of_lt hi];simpa using ho);rw [htk i (by omega)] at h2
  exact ⟨v,h1,h2⟩) cs all.size (w.tape w.drawn (.order E.base.fn id)) _ a _ I β mid (fun j _=>none j) hcnt
 refine .of_steps (.head zab ?_) ((h _ (yqo all (all.size-m-1) tt' _)).run a' w' I' β' cs hsim);simp only [Region.schedule,hm,Bool.true_or,if_true];exact hst
end
end Go.Sh
namespace Go.Proofs.YtjnddlifnkgncaaGreatDoor
open Go Go.Sh
def zdk:Nat->Nat->Nat->List Bool
 |0,_,_=>[]
 |f+1,size,idx=>if size<=1 then [] else if idx % 2=1\/idx+1<size then decide (idx % 2=1)::zdk f ((size+1) / 2) (idx / 2) else zdk f ((size+1) / 2) (idx / 2)
theorem ymq (f size idx:Nat) (cur:Nat) (h:¬size<=1) (h2:idx % 2=1\/idx+1<size):climb (f+1) size idx [] cur=none:=by
 rw [zhi _ _ _ _ _ h,if_pos h2]
theorem ymr (f size idx:Nat) (path:List Frk) (cur:Nat) (h:size<=1):climb (f+1) size idx path cur=if path.isEmpty then some cur else none:=by
 show (if size<=1 then _ else _)=_;rw [if_pos h]
def zbk (cur:Nat) (x:Frk):ByteArray:=if x.left=true then ⟨#[1]⟩++zhq x.sib++zhq cur else ⟨#[1]⟩++zhq cur++zhq x.sib
def qn:Nat->List Frk->List ByteArray
 |_,[]=>[]
 |cur,x::r=>zbk cur x::qn (wx (zbk cur x)) r
def zbl:Nat->List Frk->Nat
 |cur,[]=>cur
 |cur,x::r=>zbl (wx (zbk cur x)) r
theorem ytj (cur:Nat) (x:Frk):wx (zbk cur x)=if x.left=true then zbu x.sib cur else zbu cur x.sib:=by
 unfold zbk zbu;split
 ·rfl
 ·rfl
theorem zqs (f:Nat):∀(size idx:Nat) (path:List Frk) (cur r:Nat),climb f size idx path cur=some r->path.map Frk.left=zdk f size idx/\zbl cur path=r:=by
 induction f with
 |zero=>intro size idx path cur r h;rw [climb] at h;cases h
 |succ f ih=>
  intro size idx path cur r h
  by_cases h1:size<=1
  ·rw [ymr _ _ _ _ _ h1] at h
   cases path with
   |nil=>
    rw [List.isEmpty_nil,if_pos rfl] at h;rw [zdk,if_pos h1,zbl,List.map_nil];exact ⟨rfl,Option.some.inj h⟩
   |cons x p=>
    rw [List.isEmpty_cons,if_neg (by decide)] at h;cases h
  ·rw [zdk,if_neg h1]
   by_cases h2:idx % 2=1\/idx+1<size
   ·rw [if_pos h2]
    cases path with
    |nil=>rw [ymq _ _ _ _ h1 h2] at h;cases h
    |cons x p=>
     rw [zlj _ _ _ _ _ _ h1 h2] at h
     by_cases h3:x.left=decide (idx % 2=1)
     ·rw [if_pos h3] at h
      obtain ⟨g1,g2⟩:=ih _ _ _ _ _ h;rw [List.map_cons,g1,h3,zbl,ytj,h3];refine ⟨rfl,?_⟩;rw [<-g2]
      by_cases h4:idx % 2=1
      ·rw [if_pos (by simpa using h4),if_pos h4]
      ·rw [if_neg (by simpa using h4),if_neg h4]
     ·rw [if_neg h3] at h
      cases h
   ·rw [if_neg h2]
    have h4:¬idx % 2=1:=fun h=>h2 (.inl h)
    have h5:¬idx+1<size:=fun h=>h2 (.inr h)
    rw [ztd _ _ _ _ _ h1 h4 h5] at h;exact ih _ _ _ _ _ h
theorem ztn (f:Nat):∀size idx,(zdk f size idx).length<=f:=by
 induction f with
 |zero=>intro _ _;exact Nat.le_refl _
 |succ f ih=>
  intro size idx;rw [zdk];split
  ·exact Nat.zero_le _
  ·split
   ·have:=ih ((size+1) / 2) (idx / 2)
    rw [List.length_cons];omega
   ·have:=ih ((size+1) / 2) (idx / 2)
    omega
variable (G:List (Nat × D))
theorem yht (size idx:Nat) (h1:1<=size/\size<=1024) (h2:idx<size):zq Tryz.prog G 159 [sI size,sI idx] (.tup [.imm (jx (zdk 12 size idx)),sB true]):=by
 obtain ⟨S,hS⟩:∃S,S=zdk 12 size idx:=⟨_,rfl⟩;rw [<-hS];refine zg Tryz.func159 rfl (by rw [Tryz.ntmps159];simp) rfl rfl ?_;intro E hH hK;(refine ze ?_;conv=>whnf)
 repeat' ((with_reducible refine way ?_ ?_)<;>(intro h;conv=>whnf))
 all_goals try (exfalso;omega)
 refine zhy (n:=6) (kk:=1) rfl ?_;refine zh [0,1,6] ?_;change SW E _ [(0,sI size),(1,sI idx),(6,.asl 0 1 (([]:List Bool).map fun b=>[dB b]))] [.tok 1 (([]:List Bool).map fun b=>[dB b]).length];refine yq (σ:=Nat × Nat × Nat × List Bool) (fun x=>[(0,sI x.2.1),(1,sI x.2.2.1),(6,.asl 0 1 (x.2.2.2.map fun b=>[dB b]))]) (fun x=>[.tok 1 (x.2.2.2.map fun b=>[dB b]).length])
  (fun x=>S=x.2.2.2++zdk (x.1+1) x.2.1 x.2.2.1/\1<=x.2.1/\x.2.1<=2 ^ x.1/\x.2.2.1<x.2.1/\x.1<=11/\x.2.2.2.length+x.1<=11) (fun x=>x.1) ?_ (11,size,idx,[])
  ⟨hS,h1.1,Nat.le_trans h1.2 (show 1024<=2 ^ 11 by decide),h2,Nat.le_refl _,by simp⟩
 clear hS h1 h2;rintro ⟨f,size,idx,l⟩ ⟨i1,i2,i3,i4,i5,i6⟩ ih;simp only at i1 i2 i3 i4 i5 i6;have hp:2 ^ f<=2 ^ 11:=Nat.pow_le_pow_right (by decide) i5;have h11:(2:Nat) ^ 11=2048:=rfl;have w1:(idx:Int).tmod 2=((idx % 2:Nat):Int):=by rw [Int.tmod_eq_emod_of_nonneg (by omega)];rfl
 have w2:IntKind.i64.wrap ((idx:Int)+1)=((idx+1:Nat):Int):=by rw [zr (by omega) (by omega)];rfl
 have w3:IntKind.i64.wrap ((idx:Int).tdiv 2)=((idx / 2:Nat):Int):=by
  rw [Int.tdiv_eq_ediv_of_nonneg (by omega),zr (by omega) (by omega)];rfl
 have w4:IntKind.i64.wrap ((IntKind.i64.wrap ((size:Int)+1)).tdiv 2)=(((size+1) / 2:Nat):Int):=by
  rw [zr (c:=(size:Int)+1) (by omega) (by omega),Int.tdiv_eq_ediv_of_nonneg (by omega),zr (by omega) (by omega)];rfl
 have hend:size<=1->S=l:=fun h=>by rw [i1,zdk,if_pos h,List.append_nil]
 have hnext:1<size->∀l',S=l'++zdk f ((size+1) / 2) (idx / 2)->l'.length<=l.length+1->SW E _ [(0,sI ((size+1) / 2:Nat)),(1,sI (idx / 2:Nat)),(6,.asl 0 1 (l'.map fun b=>[dB b]))] [.tok 1 (l'.map fun b=>[dB b]).length]:=fun h l' hl hlen=>by
  obtain ⟨g,rfl⟩:∃g,f=g+1:=by
   cases f with
   |zero=>rw [Nat.pow_zero] at i3;omega
   |succ g=>exact ⟨g,rfl⟩
  rw [Nat.pow_succ] at i3;exact ih (g,(size+1) / 2,idx / 2,l') ⟨hl,by simp only;omega,by simp only;omega,by simp only;omega,by simp only;omega,by simp only;omega⟩ (by simp only;omega)
 clear ih;change SW E _ [(0,sI size),(1,sI idx),(6,.asl 0 1 (l.map fun b=>[dB b]))] [.tok 1 (l.map fun b=>[dB b]).length];have e:decide ((idx:Int).tmod 2=1)=decide (idx % 2=1):=by
  rw [Bool.eq_iff_iff];simp only [decide_eq_true_eq];rw [w1];omega
 have happ:1<size->(idx % 2=1\/idx+1<size)->SW E _ [(0,sI ((size+1) / 2:Nat)),(1,sI (idx / 2:Nat)),(6,.asl 0 1 ((l.map fun b=>[dB b])++[[dB (decide (idx % 2=1))]]))] [.tok 1 ((l.map fun b=>[dB b]).length+[[dB (decide (idx % 2=1))]].length)]:=fun h h'=>by
  have:=hnext h (l++[decide (idx % 2=1)]) (by rw [i1,zdk,if_neg (by omega),if_pos h',List.append_assoc,List.singleton_append]) (by simp);simp only [List.map_append,List.length_append] at this;exact this
 have hskip:1<size->¬(idx % 2=1\/idx+1<size)->SW E _ [(0,sI ((size+1) / 2:Nat)),(1,sI (idx / 2:Nat)),(6,.asl 0 1 (l.map fun b=>[dB b]))] [.tok 1 (l.map fun b=>[dB b]).length]:=fun h h'=>
  hnext h l (by rw [i1,zdk,if_neg (by omega),if_neg h']) (by omega)
 clear hnext i1;have hll:(l.map fun b=>[dB b]).length=l.length:=by simp
 (refine zo [777,38,44] 1000 ?_;conv=>whnf)
 repeat' ((with_reducible refine way ?_ ?_)<;>(intro h;conv=>whnf))
 all_goals try (exfalso;omega)
 ·rename_i ha hb
  rw [w1] at hb;rw [w2] at h;rw [e];refine yj (b:=0) (kk:=1) (rows:=l.map fun b=>[dB b]) (new:=[[dB (decide (idx % 2=1))]]) rfl ⟨by decide,rfl⟩ rfl (by rw [hll];simp only [List.length_cons,List.length_nil];omega) ?_;(refine zc ?_;conv=>whnf);rw [w3,w4];refine zh [0,1,6] ?_;exact happ (by omega) (.inr (by omega))
 ·rename_i ha hb
  rw [w1] at hb;rw [w2] at h;rw [w3,w4];refine zh [0,1,6] ?_;exact hskip (by omega) (by omega)
 ·rename_i ha
  rw [w1] at h;rw [e];refine yj (b:=0) (kk:=1) (rows:=l.map fun b=>[dB b]) (new:=[[dB (decide (idx % 2=1))]]) rfl ⟨by decide,rfl⟩ rfl (by rw [hll];simp only [List.length_cons,List.length_nil];omega) ?_;(refine zc ?_;conv=>whnf);rw [w3,w4];refine zh [0,1,6] ?_;exact happ (by omega) (.inl (by omega))
 ·rw [hend (by omega)] at hK
  refine zbc (fun k=>zdp) ?_;(refine zc ?_;conv=>whnf);exact hK _
theorem zqt (size idx:Nat) (h1:1<=size/\size<=1024) (h2:idx<size) (path:List Frk) (hp:path.map Frk.left=zdk 12 size idx):zq Tryz.prog G 119 [sI size,sI idx,.imm (xh path)] (sB true):=by
 have c1:=yht G size idx h1 h2;have hsl:=ztn 12 size idx;rw [<-hp] at c1 hsl;rw [List.length_map] at hsl;have e1:((path.map Frk.left).map fun b=>[dB b]).length=path.length:=by simp
 have e2:(path.map Frk.cells).length=path.length:=by simp
 clear hp;refine zg Tryz.func119 rfl (by rw [Tryz.ntmps119];simp) rfl rfl ?_;intro E hH hK;(refine ze ?_;conv=>whnf);refine zd rfl  c1 ?_;(refine zc ?_;conv=>whnf)
 repeat' ((with_reducible refine way ?_ ?_)<;>(intro h;conv=>whnf))
 ·rw [e1,e2] at h
  exact absurd rfl h
 refine zh [2,26,27,28] ?_;change SW E _ [(2,.imm (xh path)),(26,.imm (jx (path.map Frk.left))),(27,sI ((path.map Frk.left).map fun b=>[dB b]).length),(28,sI (0:Nat))] [];refine zp path (fun j (_:Bool)=>[(2,.imm (xh path)),(26,.imm (jx (path.map Frk.left))),(27,sI ((path.map Frk.left).map fun b=>[dB b]).length),(28,sI (j:Nat))]) (fun _ _=>[]) (fun _ _ _=>True) true trivial ?_ ?_
 ·rintro _ _
  (refine ze ?_;conv=>whnf)
  repeat' ((with_reducible refine way ?_ ?_)<;>(intro h;conv=>whnf))
  all_goals try (exfalso;omega)
  exact hK _
 ·rintro done x rest _ hda hdl _ ih
  have r1:((path.map Frk.left).map fun b=>[dB b])[done.length]?=some [dB x.left]:=by rw [hda];simp
  have r2:(path.map Frk.cells)[done.length]?=some x.cells:=by rw [hda];simp
  have wnx:IntKind.i64.wrap ((done.length:Int)+1)=((done.length+1:Nat):Int):=zk (by omega);have hnx:=ih true trivial;clear ih;obtain ⟨sb,lf⟩:=x;have hne:(lf !=lf)=false:=by cases lf<;>rfl
  (refine ze ?_;conv=>whnf)
  repeat' ((with_reducible refine way ?_ ?_)<;>(intro h;conv=>whnf))
  all_goals try (exfalso;omega)
  refine zi (i:=done.length) (row:=[dB lf]) rfl rfl r1 ?_;(refine zc ?_;conv=>whnf);refine zi (i:=done.length) (row:=[dU sb,dB lf]) rfl rfl r2 ?_;(refine zj [777,39] 1000 ?_;conv=>whnf);refine qo (r:=sB false) rfl rfl (by cases lf<;>rfl) (Nat.le_refl _) ?_;(refine zc ?_;conv=>whnf);rw [wnx];refine zh [2,26,27,28] ?_;exact hnx
theorem zqu (cur:Nat) (x:Frk):(zbk cur x).size=17:=by
 have h1:=zgy x.sib;have h2:=zgy cur;unfold zbk;split
 ·rw [ByteArray.size_append,ByteArray.size_append,h1,h2];rfl
 ·rw [ByteArray.size_append,ByteArray.size_append,h1,h2];rfl
theorem zrq (G:List (Nat × D)) (s:ByteArray) (hs:s.size<=1000000000000000):zq Tryz.prog G 131 [sS s] (sS (⟨#[0]⟩++s)):=by
 refine zg Tryz.func131 rfl (by rw [Tryz.ntmps131];simp) rfl rfl ?_;intro E hH hK;(refine zo [777,4] 1000 ?_;conv=>whnf);refine wq rfl rfl rfl rfl rfl (by show 1+s.size<=_;omega) ?_;(refine zc ?_;conv=>whnf);exact hK _
def zhc (leaf:ByteArray) (path:List Frk):List ByteArray:=(⟨#[0]⟩++leaf)::qn (qj leaf) path
theorem zto (leaf:ByteArray) (hl:leaf.size<=1000000000000000) (path:List Frk) (hp:path.length<=1000000):zq Tryz.prog G 120 [sS leaf,.imm (xh path)] (.tup [.imm (yh (zhc leaf path)),yy (zbl (qj leaf) path)]):=by
 have c1:=zrq G leaf hl;have c2:=jy G (⟨#[0]⟩++leaf) (by rw [ByteArray.size_append];show 1+leaf.size<=_;omega);change zq _ _ _ _ (yy (qj leaf)) at c2;unfold zhc;generalize qj leaf=c0 at c2 ⊢;generalize (⟨#[0]⟩++leaf:ByteArray)=t0 at c1 c2 ⊢;have e2:(path.map Frk.cells).length=path.length:=by simp
 refine zg Tryz.func120 rfl (by rw [Tryz.ntmps120];simp) rfl rfl ?_;intro E hH hK;(refine ze ?_;conv=>whnf);refine zd rfl  c1 ?_;(refine zj [777,13] 1000 ?_;conv=>whnf);refine zrz (kk:=1) (rows:=[[dS t0]]) rfl rfl rfl rfl rfl ?_;(refine zc ?_;conv=>whnf);refine zi (i:=0) (row:=[dS t0]) rfl rfl rfl ?_;(refine zc ?_;conv=>whnf);refine zd rfl  c2 ?_;(refine zc ?_;conv=>whnf);refine zh [6,7,18,19,20] ?_;change SW E _ [(6,.asl 0 1 ([t0].map fun s=>[dS s])),(7,yy c0),(18,.imm (xh path)),(19,sI (path.map Frk.cells).length),(20,sI (0:Nat))] [.tok 1 ([t0].map fun s=>[dS s]).length];refine zp path (fun j (y:Nat × List ByteArray)=>[(6,.asl 0 1 (y.2.map fun s=>[dS s])),(7,yy y.1),(18,.imm (xh path)),(19,sI (path.map Frk.cells).length),(20,sI (j:Nat))]) (fun _ y=>[.tok 1 (y.2.map fun s=>[dS s]).length])
  (fun done rest y=>t0::qn c0 path=y.2++qn y.1 rest/\zbl c0 path=zbl y.1 rest/\y.2.length=done.length+1) (c0,[t0]) ⟨rfl,rfl,rfl⟩ ?_ ?_
 ·rintro ⟨c,l⟩ ⟨h1,h2,_⟩
  have h1:t0::qn c0 path=l:=by
   have h:t0::qn c0 path=l++qn c []:=h1;rw [h,qn,List.append_nil]
  have h2:zbl c0 path=c:=h2;rw [h1,h2] at hK;(refine zo [777,41] 1000 ?_;conv=>whnf)
  repeat' ((with_reducible refine way ?_ ?_)<;>(intro h;conv=>whnf))
  all_goals try (exfalso;omega)
  refine zbc (fun k=>zdp) ?_;(refine zc ?_;conv=>whnf);exact hK _
 ·rintro done x rest ⟨c,l⟩ hda hdl ⟨h1,h2,h3⟩ ih
  simp only at h1 h2 h3;have r2:(path.map Frk.cells)[done.length]?=some x.cells:=by rw [hda];simp
  have wnx:IntKind.i64.wrap ((done.length:Int)+1)=((done.length+1:Nat):Int):=zk (by omega);have hsz:=zqu c x;rw [qn] at h1;rw [zbl] at h2;have d2:=jy G (zbk c x) (by rw [hsz];decide);have hnx:=ih (wx (zbk c x),l++[zbk c x]) ⟨by rw [h1,List.append_assoc,List.singleton_append],h2,by simp [h3]⟩;have hll:(l.map fun s=>[dS s]).length=l.length:=by simp
  clear ih h1 h2;simp only [List.map_append,List.length_append] at hnx;obtain ⟨sb,lf⟩:=x;have dl:=zkm G sb c;have dr:=zkm G c sb;cases lf with
  |true=>
   change zq _ _ _ _ (sS (zbk c ⟨sb,true⟩)) at dl;generalize zbk c ⟨sb,true⟩=tx at dl d2 hnx;generalize wx tx=hx at d2 hnx;(refine ze ?_;conv=>whnf)
   repeat' ((with_reducible refine way ?_ ?_)<;>(intro h;conv=>whnf))
   all_goals try (exfalso;omega)
   refine zi (i:=done.length) (row:=[dU sb,dB true]) rfl rfl r2 ?_;(refine zc ?_;conv=>whnf);refine zd rfl  dr ?_;(refine zc ?_;conv=>whnf);refine zd rfl  dl ?_;(refine zc ?_;conv=>whnf);refine yj (b:=0) (kk:=1) (rows:=l.map fun s=>[dS s]) (new:=[[dS tx]]) rfl ⟨by decide,rfl⟩ rfl (by rw [hll];simp only [List.length_cons,List.length_nil];omega) ?_;(refine zc ?_;conv=>whnf);refine zd rfl  d2 ?_;(refine zc ?_;conv=>whnf);rw [wnx];exact ys [6,7,18,19,20] 1 (by rw [hH];exact Nat.zero_le _) (by show 1<=2;decide) rfl rfl hnx
  |false=>
   change zq _ _ _ _ (sS (zbk c ⟨sb,false⟩)) at dr;generalize zbk c ⟨sb,false⟩=tx at dr d2 hnx;generalize wx tx=hx at d2 hnx;(refine ze ?_;conv=>whnf)
   repeat' ((with_reducible refine way ?_ ?_)<;>(intro h;conv=>whnf))
   all_goals try (exfalso;omega)
   refine zi (i:=done.length) (row:=[dU sb,dB false]) rfl rfl r2 ?_;(refine zc ?_;conv=>whnf);refine zd rfl  dr ?_;(refine zc ?_;conv=>whnf);refine yj (b:=0) (kk:=1) (rows:=l.map fun s=>[dS s]) (new:=[[dS tx]]) rfl ⟨by decide,rfl⟩ rfl (by rw [hll];simp only [List.length_cons,List.length_nil];omega) ?_;(refine zc ?_;conv=>whnf);refine zd rfl  d2 ?_;(refine zc ?_;conv=>whnf);rw [wnx];exact ys [6,7,18,19,20] 1 (by rw [hH];exact Nat.zero_le _) (by show 1<=2;decide) rfl rfl hnx
theorem yes {a b:Nat} (ha:a<18446744073709551616) (hb:b<18446744073709551616) (h:zhq a=zhq b):a=b:=by
 have hl:zmy a=zmy b:=by
  have h1:(zhq a).data.toList=(zhq b).data.toList:=by rw [h]
  exact h1
 have hk:∀k,k<=7->a / 256 ^ k % 256=b / 256 ^ k % 256:=fun k hk=>by
  have e:∀d,(zmy d)[7-k]?=some (yol d (7-k)):=fun d=>by
   unfold zmy;rw [List.getElem?_map,List.getElem?_range (by omega)];rfl
  have h1:=e a;rw [hl,e b] at h1;have h2:=congrArg UInt8.toNat (Option.some.inj h1);rw [zhh,zhh,show 7-(7-k)=k by omega] at h2;exact h2.symm
 have key:∀n k,n+k=8->a / 256 ^ k=b / 256 ^ k:=by
  intro n
  induction n with
  |zero=>
   intro k hn;have:k=8:=by omega
   subst this;rw [Nat.div_eq_of_lt (show a<256 ^ 8 from ha),Nat.div_eq_of_lt (show b<256 ^ 8 from hb)]
  |succ n ih=>
   intro k hn;have h1:=ih (k+1) (by omega);have h2:=hk k (by omega);rw [Nat.pow_succ, <-Nat.div_div_eq_div_mul, <-Nat.div_div_eq_div_mul] at h1;omega
 have:=key 8 0 rfl;simpa using this
theorem zzg {a b c:ByteArray} (h:a++b=a++c):b=c:=by
 have h1:(a++b).data.toList=(a++c).data.toList:=by rw [h]
 simp only [ByteArray.data_append,Array.toList_append] at h1;exact ByteArray.ext (Array.toList_inj.1 (List.append_cancel_left h1))
theorem yms {a b c d:ByteArray} (h:a++b=c++d) (hs:a.size=c.size):a=c/\b=d:=by
 have h1:(a++b).data.toList=(c++d).data.toList:=by rw [h]
 simp only [ByteArray.data_append,Array.toList_append] at h1;have hl:a.data.toList.length=c.data.toList.length:=by simpa using hs
 obtain ⟨g1,g2⟩:=List.append_inj h1 hl;exact ⟨ByteArray.ext (Array.toList_inj.1 g1),ByteArray.ext (Array.toList_inj.1 g2)⟩
theorem ymt {c d:Nat} {x y:Frk} (hc:c<18446744073709551616) (hd:d<18446744073709551616) (hl:x.left=y.left) (hne:c≠d):zbk c x≠zbk d y:=by
 intro h;have r1:=zgy x.sib;have r2:=zgy y.sib;have r3:=zgy c;have r4:=zgy d;unfold zbk at h;rw [hl] at h
 by_cases e:y.left=true
 ·rw [if_pos e,if_pos e] at h
  exact hne (yes hc hd (yms h (by rw [ByteArray.size_append,ByteArray.size_append,r1,r2])).2)
 ·rw [if_neg e,if_neg e] at h
  have h1:=(yms h (by rw [ByteArray.size_append,ByteArray.size_append,r3,r4])).1;exact hne (yes hc hd (zzg h1))
def yhu (p:ByteArray × ByteArray):Prop:=p.1≠p.2/\wx p.1=wx p.2
theorem ycc (p:List Frk):∀(q:List Frk) (s t:ByteArray),s≠t->p.map Frk.left=q.map Frk.left->zbl (wx s) p=zbl (wx t) q->∃x∈(s::qn (wx s) p).zip (t::qn (wx t) q),yhu x:=by
 induction p with
 |nil=>
  intro q s t hne hl h;cases q with
  |nil=>
   rw [zbl,zbl] at h;exact ⟨(s,t),by rw [List.zip_cons_cons];exact List.mem_cons_self,hne,h⟩
  |cons y q=>rw [List.map_nil,List.map_cons] at hl;cases hl
 |cons x p ih=>
  intro q s t hne hl h;cases q with
  |nil=>rw [List.map_nil,List.map_cons] at hl;cases hl
  |cons y q=>
   by_cases e:wx s=wx t
   ·exact ⟨(s,t),by rw [List.zip_cons_cons];exact List.mem_cons_self,hne,e⟩
   ·rw [List.map_cons,List.map_cons,List.cons.injEq] at hl
    rw [zbl,zbl] at h;obtain ⟨z,hz,hc⟩:=ih q (zbk (wx s) x) (zbk (wx t) y) (ymt (js _) (js _) hl.1 e) hl.2 h;refine ⟨z,?_,hc⟩;rw [qn,qn,List.zip_cons_cons];exact List.mem_cons_of_mem _ hz
open Classical in
noncomputable def collOf (l:List (ByteArray × ByteArray)):Option (ByteArray × ByteArray):=l.find? fun x=>decide (yhu x)
open Classical in
theorem yhv {p:ByteArray × ByteArray} (l:List (ByteArray × ByteArray)) (h:yhu p):collOf (p::l)=some p:=by
 unfold collOf;rw [List.find?_cons_of_pos (by simpa using h)]
open Classical in
theorem ymu {p:ByteArray × ByteArray} (l:List (ByteArray × ByteArray)) (h:¬yhu p):collOf (p::l)=collOf l:=by
 unfold collOf;rw [List.find?_cons_of_neg (by simpa using h)]
open Classical in
theorem ycd {l:List (ByteArray × ByteArray)} (h:∃x∈l,yhu x):∃q,collOf l=some q/\q∈l/\yhu q:=by
 obtain ⟨x,hx,hc⟩:=h;have:(collOf l).isSome:=by
  unfold collOf;rw [List.find?_isSome];exact ⟨x,hx,by simpa using hc⟩
 obtain ⟨q,hq⟩:=Option.isSome_iff_exists.1 this;have h1:=List.find?_some hq;exact ⟨q,hq,List.mem_of_find?_eq_some hq,by simpa using h1⟩
theorem yqa (a b:List ByteArray) (H:List SObj):SCall Tryz.prog G 121 [.imm (yh a),.imm (yh b)] H (fun r H'=>r= .fn (.func 161) [] [.ptr H.length 0,.ptr (H.length+1) 0]/\H'=H++[.cells [.imm (yh a)],.cells [.imm (yh b)]]):=by
 refine yr Tryz.func121 rfl (by rw [Tryz.ntmps121];simp) ?_;intro E hH hK;(refine ze ?_;conv=>whnf);exact hK _ _ ⟨by simp;rfl,by simp;exact ⟨rfl,rfl⟩⟩
theorem zqv (l:List ByteArray) (hne:l≠[]) (hlen:l.length<=1000000):zq Tryz.prog G 122 [.imm (yh l)] (.imm (yh l)):=by
 refine zg Tryz.func122 rfl (by rw [Tryz.ntmps122];simp) rfl rfl ?_;intro E hH hK;(refine ze ?_;conv=>whnf);refine yji rfl rfl rfl rfl rfl rfl ?_ ?_
 ·intro he
  exact absurd (List.map_eq_nil_iff.1 he) hne
 ·(refine zc ?_;conv=>whnf)
  refine yj rfl ⟨by decide,rfl⟩ (by simp) (by simp;omega) ?_;refine zbc (fun k=>zdp) ?_;(refine zc ?_;conv=>whnf);exact hK _
def HZ (u v:ByteArray) (f:Bool) (a b:List ByteArray) (lp:SObj):List SObj:=[.cells [sS u],.cells [sS v],.cells [sB f],.cells [.imm (yh a)],.cells [.imm (yh b)],lp]
theorem ycf {f : FuncId} {n0 : Nat} {tL : List (Nat × SV)} {ps : Array Tmp} {asg bd J : Code} (hps : 2 = ps.size) (a b : List ByteArray) (ha : a.length <= 1000000) (hab : a.length = b.length)
    (hy : ∀ p ∈ a.zip b, SYield Tryz.prog G 5 [sS p.1, sS p.2] (HZ ⟨#[]⟩ ⟨#[]⟩ false a b (.loop .ready f n0 tL ps asg bd))
      (fun res H' => (yhu p /\ res = false /\ H' = HZ p.1 p.2 true a b (.loop (.of (some J)) f n0 tL ps asg bd)) \/ (¬ yhu p /\ res = true /\ H' = HZ ⟨#[]⟩ ⟨#[]⟩ false a b (.loop .ready f n0 tL ps asg bd))))
    (q : ByteArray × ByteArray) (hex : collOf (a.zip b) = some q) :
    SCall Tryz.prog G 161 [.yld 5, .ptr 3 0, .ptr 4 0] (HZ ⟨#[]⟩ ⟨#[]⟩ false a b (.loop .ready f n0 tL ps asg bd)) (fun _ H' => H' = HZ q.1 q.2 true a b (.loop (.of (some J)) f n0 tL ps asg bd)) := by
  refine yr Tryz.func161 rfl (by rw [Tryz.ntmps161]; simp) ?_
  intro E hH hK
  have e1 : (a.map fun s => [dS s]).length = a.length := by simp
  have e2 : (b.map fun s => [dS s]).length = b.length := by simp
  have hmin : (if ((b.map fun s => [dS s]).length : Int) < ((a.map fun s => [dS s]).length : Int) then ((b.map fun s => [dS s]).length : Int) else ((a.map fun s => [dS s]).length : Int)) = ((a.zip b).length : Nat) := by
    rw [e1, e2, List.length_zip, hab, Nat.min_self]
    split <;> rfl
  have hzl : (a.zip b).length <= 1000000 := by rw [List.length_zip]; omega
  (refine ze ?_; conv => whnf)
  refine zh [0, 1, 2, 9, 10] ?_
  change SW E _ [(0, .yld 5), (1, .ptr 3 0), (2, .ptr 4 0), (9, sI (if ((b.map fun s => [dS s]).length : Int) < ((a.map fun s => [dS s]).length : Int) then ((b.map fun s => [dS s]).length : Int) else ((a.map fun s => [dS s]).length : Int))), (10, sI (0 : Nat))] _
  rw [hmin]
  refine zp (a.zip b) (fun j (_ : Bool) => [(0, .yld 5), (1, .ptr 3 0), (2, .ptr 4 0), (9, sI ((a.zip b).length : Nat)), (10, sI (j : Nat))]) (fun _ _ => HZ ⟨#[]⟩ ⟨#[]⟩ false a b (.loop .ready f n0 tL ps asg bd)) (fun _ rest _ => collOf rest = some q) true hex ?_ ?_
  · rintro _ hx
    have hx : (none : Option (ByteArray × ByteArray)) = some q := hx
    cases hx
  · rintro done p rest _ hda hdl hz ih
    have hz : collOf (p :: rest) = some q := hz
    obtain ⟨u, v⟩ := p
    have hyp := hy (u, v) (by rw [hda]; simp)
    have hg : (a.zip b)[done.length]? = some (u, v) := by rw [hda]; simp
    obtain ⟨g1, g2⟩ := List.getElem?_zip_eq_some.1 hg
    have r1 : (a.map fun s => [dS s])[done.length]? = some [dS u] := by rw [List.getElem?_map, g1]; rfl
    have r2 : (b.map fun s => [dS s])[done.length]? = some [dS v] := by rw [List.getElem?_map, g2]; rfl
    have wnx : IntKind.i64.wrap ((done.length : Int) + 1) = ((done.length + 1 : Nat) : Int) := zk (by omega)
    have hnx : ¬ yhu (u, v) -> _ := fun h => ih true (by rw [ymu _ h] at hz; exact hz)
    clear ih
    (refine ze ?_; conv => whnf)
    repeat' ((with_reducible refine way ?_ ?_) <;> (intro h; conv => whnf))
    all_goals try (exfalso; omega)
    refine zzf (m := 9) (L := [[10]]) rfl (by kernel_rfl) (by decide) (by kernel_rfl) (by kernel_rfl) (.op rfl rfl rfl (.op rfl rfl rfl (.op rfl rfl rfl (.op rfl rfl (zgh (i := done.length) (row := [dS u]) rfl rfl rfl rfl rfl r1) (.op rfl rfl rfl (.op rfl rfl rfl (.op rfl rfl rfl (.op rfl rfl (zgh (i := done.length) (row := [dS v]) rfl rfl rfl rfl rfl r2) (.op rfl rfl rfl (.nil _)))))))))) (by kernel_rfl) ?_
    intro l hl
    rw [List.mem_singleton] at hl
    subst hl
    refine ybb rfl rfl rfl rfl rfl rfl hps rfl (hyp.mono ?_)
    rintro res H' (⟨hc, rfl, rfl⟩ | ⟨hc, rfl, rfl⟩)
    · refine ⟨Nat.le_refl _, ?_⟩
      refine yrf rfl rfl rfl rfl (Nat.le_refl _) ?_
      refine zez ?_
      (refine ze ?_; conv => whnf)
      rw [yhv _ hc] at hz
      cases hz
      exact hK _ _ rfl
    · refine ⟨Nat.le_refl _, ?_⟩
      refine yrf rfl rfl rfl rfl (Nat.le_refl _) ?_
      refine zez ?_
      (refine ze ?_; conv => whnf)
      rw [wnx]
      refine zh [0, 1, 2, 9, 10] ?_
      exact hnx hc
theorem zzh (p:List Frk):∀c,∀x∈qn c p,x.size=17:=by
 induction p with
 |nil=>intro c x hx;rw [qn] at hx;cases hx
 |cons y p ih=>
  intro c x hx;rw [qn] at hx;rcases List.mem_cons.1 hx with rfl|hx
  ·exact zqu c y
  ·exact ih _ x hx
theorem zqw (leaf:ByteArray) (p:List Frk) (hl:leaf.size<=1000000000000000):∀x∈zhc leaf p,x.size<=1000000000000017:=by
 intro x hx;unfold zhc at hx;rcases List.mem_cons.1 hx with rfl|hx
 ·rw [ByteArray.size_append]
  show 1+leaf.size<=_;omega
 ·have:=zzh p _ x hx
  omega
theorem ycg (p:List Frk):∀c,(qn c p).length=p.length:=by
 induction p with
 |nil=>intro c;rw [qn];rfl
 |cons y p ih=>intro c;rw [qn,List.length_cons,List.length_cons,ih]
theorem ztp (leaf:ByteArray) (p:List Frk):(zhc leaf p).length=p.length+1:=by
 unfold zhc;rw [List.length_cons,ycg]
theorem ytk {p q:List Frk} {s t:ByteArray} {c d:Nat} (hs:wx s=c) (ht:wx t=d) (hne:s≠t) (hl:p.map Frk.left=q.map Frk.left) (h:zbl c p=zbl d q):∃x∈(s::qn c p).zip (t::qn d q),yhu x:=by
 subst hs ht;exact ycc p q s t hne hl h
theorem yet (a:ByteArray):wx (⟨#[0]⟩++a)=qj a:=by rw [qj]
theorem ymv {p q:List Frk} {a b:ByteArray} (hne:a≠b) (hl:p.map Frk.left=q.map Frk.left) (h:zbl (qj a) p=zbl (qj b) q):∃x∈(zhc a p).zip (zhc b q),yhu x:=by
 have ha:=yet a;have hb:=yet b;unfold zhc;generalize qj a=c at ha h ⊢;generalize qj b=d at hb h ⊢;exact ytk ha hb (fun h=>hne (zzg h)) hl h
theorem zrr {size idx root:Nat} (h1:1<=size/\size<=1024) (h2:idx<size) {a b:ByteArray} {p q:List Frk} (ha:a.size<=1000000000000000) (hb:b.size<=1000000000000000) (hne:a≠b)
  (hp:climb 12 size idx p (qj a)=some root) (hq:climb 12 size idx q (qj b)=some root):
  ∃u v:ByteArray,u≠v/\wx u=wx v/\u.size<=1000000000000017/\v.size<=1000000000000017/\zq Tryz.prog G 78 [sI size,sI idx,sS a,.imm (xh p),sS b,.imm (xh q)] (.tup [sS u,sS v,sB true]):=by
 obtain ⟨p1,p2⟩:=zqs 12 _ _ _ _ _ hp;obtain ⟨q1,q2⟩:=zqs 12 _ _ _ _ _ hq;have c1:=zqt G size idx h1 h2 p p1;have c2:=zqt G size idx h1 h2 q q1;have hsl:=ztn 12 size idx;have hpl:p.length<=12:=by rw [<-p1,List.length_map] at hsl;exact hsl
 have hql:q.length<=12:=by rw [<-q1,List.length_map] at hsl;exact hsl
 have hpq:p.length=q.length:=by
  have:=congrArg List.length (p1.trans q1.symm);simpa using this
 have c3:=zto G a ha p (by omega);have c4:=zto G b hb q (by omega);rw [p2] at c3;rw [q2] at c4;have hcoll:=ymv hne (p1.trans q1.symm) (p2.trans q2.symm);obtain ⟨z,hz,hm,hc⟩:=ycd hcoll;have hla:=ztp a p;have hlb:=ztp b q;have hsa:=zqw a p ha;have hsb:=zqw b q hb;generalize zhc a p=A at c3 hz hm hla hsa hcoll;generalize zhc b q=B at c4 hz hm hlb hsb hcoll;have hzs:∀x∈A.zip B,x.1.size<=1000000000000017/\x.2.size<=1000000000000017:=fun x hx=>⟨hsa _ (List.of_mem_zip hx).1,hsb _ (List.of_mem_zip hx).2⟩
 have hAn:A≠[]:=fun h=>by rw [h] at hla;simp at hla
 have c5:=zqv G A hAn (by omega);refine ⟨z.1,z.2,hc.1,hc.2,(hzs z hm).1,(hzs z hm).2,?_⟩;have hAl:A.length<=1000000:=by omega
 have hAB:A.length=B.length:=by omega
 clear hcoll hc hm hsl hpl hql p1 p2 q1 q2 hla hlb hsa hsb hp hq hne hAn hpq;refine zg Tryz.func78 rfl (by rw [Tryz.ntmps78];simp) rfl rfl ?_;intro E hH hK;(refine ze ?_;conv=>whnf);refine ydi ?_;(refine ze ?_;conv=>whnf);refine zd rfl  c1 ?_;(refine zc ?_;conv=>whnf);refine zd rfl  c2 ?_;(refine zc ?_;conv=>whnf);refine zd rfl  c3 ?_;(refine zc ?_;conv=>whnf);refine zd rfl  c4 ?_;(refine zc ?_;conv=>whnf)
 repeat' ((with_reducible refine way ?_ ?_)<;>(intro h;conv=>whnf))
 ·exact absurd rfl h
 refine ycn ?_;(refine ze ?_;conv=>whnf);refine zd rfl  c5 ?_;(refine zc ?_;conv=>whnf);refine ye rfl rfl rfl rfl rfl rfl ((yqa G A B _).mono ?_);rintro _ _ ⟨rfl,rfl⟩;refine ⟨by simp,?_⟩;(refine zc ?_;conv=>whnf);refine zh [19,20,21,54] ?_;change SW E _ [(19,.ptr 0 0),(20,.ptr 1 0),(21,.ptr 2 0),(54,.fn (.func 161) [] [.ptr 3 0,.ptr 4 0])] [.cells [sS ⟨#[]⟩],.cells [sS ⟨#[]⟩],.cells [sB false],.cells [.imm (yh A)],.cells [.imm (yh B)]];refine zcd rfl rfl ?_;refine (ycf G (J:=.exit 0) (tL:=[(19,.ptr 0 0),(20,.ptr 1 0),(21,.ptr 2 0),(54,.fn (.func 161) [] [.ptr 3 0,.ptr 4 0])]) rfl A B hAl hAB ?_ z hz).mono ?_
 ·as_aux_lemma=>
   rintro ⟨u,v⟩ huv;obtain ⟨s1,s2⟩:=hzs _ huv;have d1:=jy G u (by simp only at s1;omega);have d2:=jy G v (by simp only at s2;omega);have hC:yhu (u,v) ↔ u≠v/\wx u=wx v:=Iff.rfl;generalize yhu (u,v)=CC at hC ⊢;generalize wx u=cu at d1 hC;generalize wx v=cv at d2 hC;refine zce (b:=5) rfl E.hfn rfl (by decide) ?_;intro E3 hl3 hOwn hKR;(refine ze ?_;conv=>whnf);refine zjm hOwn rfl ?_;(refine ze ?_;conv=>whnf)
   repeat' ((with_reducible refine way ?_ ?_)<;>(intro h;conv=>whnf))
   ·exact hKR none _ _ (Nat.le_refl _) rfl (.inr ⟨fun hc=>(hC.1 hc).1 h,rfl,rfl⟩)
   ·refine zd rfl  d1 ?_
    (refine zc ?_;conv=>whnf);refine zd rfl  d2 ?_;(refine zj [777,61] 1000 ?_;conv=>whnf);generalize hdd:decide ((cu:Int)=(cv:Int))=dd;cases dd with
    |true=>
     have e:=of_decide_eq_true hdd;(refine zc ?_;conv=>whnf);exact hKR (some (.exit 0)) _ _ (Nat.le_refl _) rfl (.inl ⟨hC.2 ⟨h,by omega⟩,rfl,rfl⟩)
    |false=>
     have e:=of_decide_eq_false hdd;(refine zc ?_;conv=>whnf);exact hKR none _ _ (Nat.le_refl _) rfl (.inr ⟨fun hc=>e (by have:=(hC.1 hc).2;omega),rfl,rfl⟩)
 ·rintro r H' rfl
  refine ⟨Nat.le_refl _,.of (some (.exit 0)),_,rfl,.inr ⟨.exit 0,rfl,?_⟩⟩;(refine ze ?_;conv=>whnf);(refine zx mixed rfl ?_;refine zf [] ?_;conv=>whnf);(refine ze ?_;conv=>whnf);exact hK _
theorem ytl (c:Int):((zia c:Nat):Int)=if c.tmod 1073741789<0 then c.tmod 1073741789+1073741789 else c.tmod 1073741789:=by
 unfold zia;rcases Int.le_total 0 c with h|h
 ·rw [Int.tmod_eq_emod_of_nonneg h]
  split<;>omega
 ·obtain ⟨n,rfl⟩:∃n:Nat,c= -(n:Int):=⟨c.natAbs,by omega⟩
  rw [Int.neg_tmod,Int.tmod_eq_emod_of_nonneg (by omega)];split<;>omega
theorem ytm (c:Int): -1073741789<c.tmod 1073741789/\c.tmod 1073741789<1073741789:=by
 rcases Int.le_total 0 c with h|h
 ·rw [Int.tmod_eq_emod_of_nonneg h]
  omega
 ·obtain ⟨n,rfl⟩:∃n:Nat,c= -(n:Int):=⟨c.natAbs,by omega⟩
  rw [Int.neg_tmod,Int.tmod_eq_emod_of_nonneg (by omega)];omega
theorem zqx (c:Int):zq Tryz.prog G 59 [sI c] (sI (zia c)):=by
 have hv:=ytl c;have hr:=ytm c;generalize zia c=v at hv ⊢;have hw:IntKind.i64.wrap (c.tmod 1073741789+1073741789)=c.tmod 1073741789+1073741789:=zr (by omega) (by omega);refine zg Tryz.func59 rfl (by rw [Tryz.ntmps59];simp) rfl rfl ?_;intro E hH hK;(refine ze ?_;conv=>whnf)
 repeat' ((with_reducible refine way ?_ ?_)<;>(intro h;conv=>whnf))
 ·rw [if_pos h] at hv
  rw [hw, <-hv];exact hK _
 ·rw [if_neg h] at hv
  rw [<-hv];exact hK _
theorem yqb {q e n:Nat} (h:q-2=e):1*n ^ e % q=ylv q n:=by
 unfold ylv;rw [h,Nat.one_mul]
theorem yqc (n:Nat) (hn:n<1073741789):zq Tryz.prog G 60 [sI n] (sI (ylv 1073741789 n)):=by
 obtain ⟨E0,hE0⟩:∃E0:Nat,E0=1073741787:=⟨_,rfl⟩;obtain ⟨R,hR⟩:∃R,R=ylv 1073741789 n:=⟨_,rfl⟩;have hR0:1*n ^ E0 % 1073741789=R:=by
  rw [hR];exact yqb (by rw [hE0])
 rw [<-hR];clear hR;have w0:(n:Int).tmod 1073741789=(n:Int):=by
  rw [Int.tmod_eq_emod_of_nonneg (by omega)];omega
 refine zg Tryz.func60 rfl (by rw [Tryz.ntmps60];simp) rfl rfl ?_;intro E hH hK;(refine ze ?_;conv=>whnf);rw [w0];refine zh [3,4,5] ?_;change SW E _ [(3,sI (1:Nat)),(4,sI n),(5,sI (1073741787:Nat))] [];rw [<-hE0];refine yq (σ:=Nat × Nat × Nat) (fun x=>[(3,sI x.1),(4,sI x.2.1),(5,sI x.2.2)]) (fun _=>[]) (fun x=>x.1*x.2.1 ^ x.2.2 % 1073741789=R/\x.1<1073741789/\x.2.1<1073741789/\x.2.2<2000000000) (fun x=>x.2.2) ?_ (1,n,E0)
  ⟨hR0,show 1<1073741789 by decide,hn,show E0<2000000000 by omega⟩
 clear hn hR0 w0 hE0;rintro ⟨r,b,e⟩ ⟨i1,i2,i3,i4⟩ ih;simp only at i1 i2 i3 i4;have hbb:b*b<9223372036854775808:=Nat.lt_of_le_of_lt (Nat.mul_le_mul (Nat.le_of_lt i3) (Nat.le_of_lt i3)) (by decide);have hrb:r*b<9223372036854775808:=Nat.lt_of_le_of_lt (Nat.mul_le_mul (Nat.le_of_lt i2) (Nat.le_of_lt i3)) (by decide);have w1:(IntKind.i64.wrap ((b:Int)*(b:Int))).tmod 1073741789=((b*b % 1073741789:Nat):Int):=by
  rw [zr (by rw [<-Int.natCast_mul];omega) (by rw [<-Int.natCast_mul];omega),Int.tmod_eq_emod_of_nonneg (by rw [<-Int.natCast_mul];omega)];rfl
 have w2:(IntKind.i64.wrap ((r:Int)*(b:Int))).tmod 1073741789=((r*b % 1073741789:Nat):Int):=by
  rw [zr (by rw [<-Int.natCast_mul];omega) (by rw [<-Int.natCast_mul];omega),Int.tmod_eq_emod_of_nonneg (by rw [<-Int.natCast_mul];omega)];rfl
 have w3:(e:Int).tmod 2=((e % 2:Nat):Int):=by
  rw [Int.tmod_eq_emod_of_nonneg (by omega)];rfl
 have w4:IntKind.i64.wrap ((e:Int).tdiv 2)=((e / 2:Nat):Int):=by
  rw [Int.tdiv_eq_ediv_of_nonneg (by omega),zr (by omega) (by omega)];rfl
 have hend:e=0->r=R:=fun h=>by rw [<-i1,h,Nat.pow_zero,Nat.mul_one];exact (Nat.mod_eq_of_lt i2).symm
 have hnext:∀r',r'=(if e % 2=1 then r*b % 1073741789 else r)->¬e=0->SW E _ [(3,sI r'),(4,sI (b*b % 1073741789:Nat)),(5,sI (e / 2:Nat))] []:=fun r' h h0=>by
  refine ih (r',b*b % 1073741789,e / 2) ⟨?_,?_,Nat.mod_lt _ (by decide),by simp only;omega⟩ (by simp only;omega)
  ·rw [<-i1,Nat.mul_mod, <-Nat.pow_mod, <-Nat.mul_mod, <-Nat.pow_two, <-Nat.pow_mul,h]
   split
   ·rw [Nat.mod_mul_mod,Nat.mul_assoc, <-Nat.pow_succ',Nat.succ_eq_add_one,show 2*(e / 2)+1=e by omega]
   ·rw [show 2*(e / 2)=e by omega]
  ·rw [h]
   split
   ·exact Nat.mod_lt _ (by decide)
   ·exact i2
 change SW E _ [(3,sI r),(4,sI b),(5,sI e)] [];(refine ze ?_;conv=>whnf)
 repeat' ((with_reducible refine way ?_ ?_)<;>(intro h;conv=>whnf))
 ·rw [w3] at h
  rw [w1,w2,w4];refine zh [3,4,5] ?_;exact hnext _ (by rw [if_pos (by omega)]) (by omega)
 ·rw [w3] at h
  rw [w1,w4];refine zh [3,4,5] ?_;exact hnext _ (by rw [if_neg (by omega)]) (by omega)
 ·have h0:e=0:=by omega
  rw [hend h0];exact hK _
theorem ymw (b e:Nat) (hb:b<prm) (he:e<9223372036854775808):zq Tryz.prog G 61 [sI b,sI e] (sI (zko b e)):=by
 unfold prm at hb;obtain ⟨R,hR⟩:∃R,R=zko b e:=⟨_,rfl⟩;rw [<-hR];rw [zgk (by omega)] at hR;unfold prm at hR;refine zg Tryz.func61 rfl (by rw [Tryz.ntmps61];simp) rfl rfl ?_;intro E hH hK;(refine ze ?_;conv=>whnf)
 repeat' ((with_reducible refine way ?_ ?_)<;>(intro h;conv=>whnf))
 all_goals try (exfalso;omega)
 refine zh [0,1,5,6] ?_;change SW E _ [(0,sI b),(1,sI e),(5,sI (1:Nat)),(6,sI (62:Int))] [];refine yq (σ:=Nat × Nat) (fun x=>[(0,sI b),(1,sI e),(5,sI x.1),(6,sI ((x.2:Int)-1))]) (fun _=>[]) (fun x=>x.1=b ^ (e / 2 ^ x.2) % 2147483579/\x.2<=63) (fun x=>x.2) ?_ (1,63)
  ⟨by simp only;rw [Nat.div_eq_of_lt (show e<2 ^ 63 from he),Nat.pow_zero],Nat.le_refl _⟩
 rintro ⟨r,k⟩ ⟨i1,i2⟩ ih;simp only at i1 i2;have i3:r<2147483579:=by rw [i1];exact Nat.mod_lt _ (by decide)
 have hrr:r*r<9223372036854775808:=Nat.lt_of_le_of_lt (Nat.mul_le_mul (Nat.le_of_lt i3) (Nat.le_of_lt i3)) (by decide);have w1:(IntKind.i64.wrap ((r:Int)*(r:Int))).tmod 2147483579=((r*r % 2147483579:Nat):Int):=by
  rw [zr (by rw [<-Int.natCast_mul];omega) (by rw [<-Int.natCast_mul];omega),Int.tmod_eq_emod_of_nonneg (by rw [<-Int.natCast_mul];omega)];rfl
 have hsm:r*r % 2147483579<2147483579:=Nat.mod_lt _ (by decide);have hsb:(r*r % 2147483579)*b<9223372036854775808:=Nat.lt_of_le_of_lt (Nat.mul_le_mul (Nat.le_of_lt hsm) (Nat.le_of_lt hb)) (by decide);have w2:(IntKind.i64.wrap (((r*r % 2147483579:Nat):Int)*(b:Int))).tmod 2147483579=((r*r % 2147483579*b % 2147483579:Nat):Int):=by
  rw [zr (by rw [<-Int.natCast_mul];omega) (by rw [<-Int.natCast_mul];omega),Int.tmod_eq_emod_of_nonneg (by rw [<-Int.natCast_mul];omega)];rfl
 change SW E _ [(0,sI b),(1,sI e),(5,sI r),(6,sI ((k:Int)-1))] [];(refine zo [777,27] 1000 ?_;conv=>whnf)
 repeat' ((with_reducible refine way ?_ ?_)<;>(intro h;conv=>whnf))
 ·obtain ⟨k,rfl⟩:∃j,k=j+1:=⟨k-1,by omega⟩
  have ek:((k+1:Nat):Int)-1=(k:Int):=by omega
  have hdiv:e / 2 ^ k=2*(e / 2 ^ (k+1))+e / 2 ^ k % 2:=by
   rw [Nat.pow_succ, <-Nat.div_div_eq_div_mul];omega
  have hsq:r*r % 2147483579=b ^ (2*(e / 2 ^ (k+1))) % 2147483579:=by
   rw [i1, <-Nat.mul_mod, <-Nat.pow_add, <-Nat.two_mul]
  have hlt:e / 2 ^ k<9223372036854775808:=Nat.lt_of_le_of_lt (Nat.div_le_self _ _) he;have hsh:(e:Int).fdiv (2 ^ min ((k:Int)).toNat IntKind.i64.bits)=((e / 2 ^ k:Nat):Int):=by
   rw [Int.toNat_natCast,show min k IntKind.i64.bits=k from Nat.min_eq_left (show k<=64 by omega)];exact yaa e k
  have w3:=yvu (a:=e / 2 ^ k) hlt;have w5:IntKind.i64.wrap ((k:Int)-1)=(k:Int)-1:=zr (by omega) (by omega);have hnext:∀r',r'=b ^ (e / 2 ^ k) % 2147483579->SW E _ [(0,sI b),(1,sI e),(5,sI r'),(6,sI ((k:Int)-1))] []:=fun r' h=>ih (r',k) ⟨h,by simp only;omega⟩ (by simp only;omega)
  rw [ek,w1];refine zoq rfl rfl rfl rfl rfl (by omega) ?_;rw [hsh];(refine zc ?_;conv=>whnf)
  repeat' ((with_reducible refine way ?_ ?_)<;>(intro h;conv=>whnf))
  ·rw [w3] at h
   rw [w2,w5];refine zh [0,1,5,6] ?_;refine hnext _ ?_;rw [hsq,Nat.mod_mul_mod, <-Nat.pow_succ]
   congr 2
   omega
  ·rw [w3] at h
   rw [w5];refine zh [0,1,5,6] ?_;refine hnext _ ?_;rw [hsq]
   congr 2
   omega
 ·have hk:k=0:=by omega
  subst hk;rw [Nat.pow_zero,Nat.div_one, <-hR] at i1;rw [i1];exact hK _
theorem zzi {n m:Nat} (hn:n<1073741789) (hm:m<1073741789):(IntKind.i64.wrap (IntKind.i64.wrap ((n:Int)-m)+1073741789)).tmod 1073741789=(((n+1073741789-m) % 1073741789:Nat):Int):=by
 rw [zr (c:=(n:Int)-m) (by omega) (by omega),zr (by omega) (by omega),Int.tmod_eq_emod_of_nonneg (by omega)];omega
theorem ytn {q n:Nat} (h:0<q):ylv q n<q:=Nat.mod_lt _ h
theorem yqd {n r m s:Nat} (hn:n<1073741789) (hm:m<1073741789) (hr:r<1073741789) (hs:s<1073741789) (h:4 ^ n*9 ^ r % 2147483579=4 ^ m*9 ^ s % 2147483579) (hne:n≠m):
  ∃x:Int,zq Tryz.prog G 17 [sI n,sI r,sI m,sI s] (.tup [sI x,sB true]):=by
 obtain ⟨hrs,hl⟩:=ysv zyt elm4 elm9 ywu hn hm hr hs h hne;have hD:=zzi hn hm;have hE:=zzi hs hr;have hE1:(s+1073741789-r) % 1073741789<1073741789:=Nat.mod_lt _ (by decide);have hD1:(n+1073741789-m) % 1073741789<1073741789:=Nat.mod_lt _ (by decide);generalize (n+1073741789-m) % 1073741789=D0 at hD hl hD1;generalize (s+1073741789-r) % 1073741789=E0 at hE hl hE1;have c1:=yqc G E0 hE1;have hI:ylv 1073741789 E0<1073741789:=ytn (by decide);generalize ylv 1073741789 E0=I at c1 hl hI;have hmul:D0*I<9223372036854775808:=Nat.lt_of_le_of_lt (Nat.mul_le_mul (Nat.le_of_lt hD1) (Nat.le_of_lt hI)) (by decide);have w1:(IntKind.i64.wrap ((D0:Int)*(I:Int))).tmod 1073741789=((D0*I % 1073741789:Nat):Int):=by
  rw [zr (by rw [<-Int.natCast_mul];omega) (by rw [<-Int.natCast_mul];omega),Int.tmod_eq_emod_of_nonneg (by rw [<-Int.natCast_mul];omega)];rfl
 have hx:D0*I % 1073741789<1073741789:=Nat.mod_lt _ (by decide);generalize D0*I % 1073741789=X at w1 hl hx;have c2:=ymw G 4 X (by decide) (by omega);have h9:zko 4 X=9:=by
  rw [zgk (by omega)];exact hl
 rw [h9] at c2;refine ⟨X,?_⟩;clear h hl h9 hmul;refine zg Tryz.func17 rfl (by rw [Tryz.ntmps17];simp) rfl rfl ?_;intro E hH hK;(refine ze ?_;conv=>whnf)
 repeat' ((with_reducible refine way ?_ ?_)<;>(intro h;conv=>whnf))
 all_goals try (exfalso;omega)
 rw [hD,hE];refine zd rfl  c1 ?_;(refine zc ?_;conv=>whnf);rw [w1];refine zd rfl  c2 ?_;(refine zc ?_;conv=>whnf);exact hK _
theorem zkn (label:ByteArray) (c:Nat) (reason:ByteArray) (h1:label.size<=1000000000000000) (h2:reason.size<=1000000000000000) (h3:c<=1000000000000000000):
  zq Tryz.prog G 77 [sS label,sI c,sS reason] (sS (qk label c reason)):=by
 have c1:=zdj G (label.size+1) label.size (by omega) (by omega);have c2:=zdj G (c+1) c (by omega) h3;have z1:=xb (label.size:Int) (by omega) (by omega);have z2:=xb (c:Int) (by omega) (by omega);unfold qk;generalize wn (label.size:Int)=s1 at*;generalize wn (c:Int)=s2 at*;refine zg Tryz.func77 rfl (by rw [Tryz.ntmps77];simp) rfl rfl ?_;intro E hH hK;(refine ze ?_;conv=>whnf);refine zd rfl  c1 ?_;refine wq rfl rfl rfl rfl rfl (by show s1.size+1<=_;omega) ?_;(refine zj [777,12] 1000 ?_;conv=>whnf);refine wq rfl rfl rfl rfl rfl (by simp only [ByteArray.size_append];show s1.size+1+label.size<=_;omega) ?_;(refine zj [777,15] 1000 ?_;conv=>whnf);refine zd rfl  c2 ?_;refine wq rfl rfl rfl rfl rfl (by simp only [ByteArray.size_append];show s1.size+1+label.size+s2.size<=_;omega) ?_;refine wq rfl rfl rfl rfl rfl (by simp only [ByteArray.size_append];show s1.size+1+label.size+s2.size+1<=_;omega) ?_;(refine zj [777,18] 1000 ?_;conv=>whnf);refine wq rfl rfl rfl rfl rfl (by simp only [ByteArray.size_append];show s1.size+1+label.size+s2.size+1+reason.size<=_;omega) ?_;(refine zc ?_;conv=>whnf);exact hK _
theorem zqy (la:ByteArray) (c:Nat) (re:ByteArray) (h1:la.size<=140737488351232) (h2:re.size<=140737488351232) (h3:c<=9000000000000000000):(qk la c re).size<=1000000000000000:=by
 have z1:=xb (la.size:Int) (by omega) (by omega);have z2:=xb (c:Int) (by omega) (by omega);unfold qk;simp only [ByteArray.size_append];show (wn la.size).size+1+la.size+(wn c).size+1+re.size<=_;omega
structure ShwFit (s:Shw):Prop where
 label:s.label.size<=140737488351232
 reason:s.reason.size<=140737488351232
structure RowFact (a:Disc) (x:Shw) (k:Nat):Prop where
 idx:x.index=k
 lt:k<a.commit.length
 com:a.commit.getD k 0=(zjt x.cents x.blind:Nat)
 cents: -500000000<=x.cents/\x.cents<=500000000
 blind:0<=x.blind/\x.blind<1073741789
 climb:climb 12 a.commit.length k x.path (qj (qk x.label (zjt x.cents x.blind:Nat) x.reason))=some a.root
theorem ymx {a:Disc} {x:Shw} (h:RowIn a x):∃k,RowFact a x k:=by
 obtain ⟨h1,h2⟩:=h.idx;have h3:=h.opens;unfold wv at h3;rw [Bool.and_eq_true,zbs,decide_eq_true_eq] at h3;obtain ⟨⟨c1,c2,b1,b2⟩,e⟩:=h3;have h4:=(ybu h.leads).2.2.2.2;rw [e,Int.toNat_natCast] at h4;exact ⟨x.index.toNat,by omega,by omega,e,⟨c1,c2⟩,⟨b1,b2⟩,h4⟩
theorem zvp {a b:Disc} {x y:Shw} (ha:RowIn a x) (hb:RowIn b y) (hroot:a.root=b.root) (hlen:a.commit.length=b.commit.length) (hidx:x.index=y.index) (hne:¬(x.label=y.label/\x.cents=y.cents/\x.reason=y.reason)) (hl1:1<=a.commit.length/\a.commit.length<=1024)
  (fx:ShwFit x) (fy:ShwFit y):zq Tryz.prog G 22 [a.sv,b.sv,.agg (x.cells.map .imm),.agg (y.cells.map .imm)] (sB true):=by
 obtain ⟨k,ra⟩:=ymx ha;obtain ⟨k',rb⟩:=ymx hb;have hk:k'=k:=by have:=ra.idx;have:=rb.idx;omega
 subst hk;clear ha hb;have lx:=ybq x.cents x.blind;have ly:=ybq y.cents y.blind;have d1:=zkn G x.label (zjt x.cents x.blind) x.reason (Nat.le_trans fx.label (by decide)) (Nat.le_trans fx.reason (by decide)) (by omega);have d2:=zkn G y.label (zjt y.cents y.blind) y.reason (Nat.le_trans fy.label (by decide)) (Nat.le_trans fy.reason (by decide)) (by omega);have s1:=zqy x.label (zjt x.cents x.blind) x.reason fx.label fx.reason (by omega);have s2:=zqy y.label (zjt y.cents y.blind) y.reason fy.label fy.reason (by omega);have r1:(a.commit.map fun (n:Int)=>[dI n])[k']?=some [dI (zjt x.cents x.blind:Nat)]:=by
  rw [List.getElem?_map, <-ra.com,List.getD_eq_getElem?_getD,List.getElem?_eq_getElem ra.lt];rfl
 have r2:(b.commit.map fun (n:Int)=>[dI n])[k']?=some [dI (zjt y.cents y.blind:Nat)]:=by
  rw [List.getElem?_map, <-rb.com,List.getD_eq_getElem?_getD,List.getElem?_eq_getElem rb.lt];rfl
 have hcol:qk x.label (zjt x.cents x.blind:Nat) x.reason≠qk y.label (zjt y.cents y.blind:Nat) y.reason->_:=fun h=>
  zrr G (size:=a.commit.length) (idx:=k') (root:=a.root) hl1 ra.lt s1 s2 h ra.climb (by rw [hlen,hroot];exact rb.climb)
 have hlog:qk x.label (zjt x.cents x.blind:Nat) x.reason=qk y.label (zjt y.cents y.blind:Nat) y.reason->∃z:Int,zq Tryz.prog G 17 [sI (zia x.cents),sI x.blind,sI (zia y.cents),sI y.blind] (.tup [sI z,sB true]):=fun h=>by
  obtain ⟨e1,e2,e3⟩:=ymb (Nat.le_trans fx.label (by decide)) (Nat.le_trans fy.label (by decide)) ⟨by omega,by omega⟩ ⟨by omega,by omega⟩ h;have e2:=Int.ofNat_inj.1 e2;rw [zjf _ _ ra.blind.2,zjf _ _ rb.blind.2] at e2;have hv:zia x.cents≠zia y.cents:=fun hv=>hne ⟨e1,yek ra.cents rb.cents hv,e3⟩
  have hbx:=ra.blind;have hby:=rb.blind;obtain ⟨z,hz⟩:=yqd G (zqk x.cents) (zqk y.cents) (r:=x.blind.toNat) (s:=y.blind.toNat) (by omega) (by omega) e2 hv;rw [show ((x.blind.toNat:Nat):Int)=x.blind by omega,show ((y.blind.toNat:Nat):Int)=y.blind by omega] at hz;exact ⟨z,hz⟩
 have v1:=zqx G x.cents;have v2:=zqx G y.cents;have i1:=ra.idx;have i2:=rb.idx;have hml:(a.commit.map fun (n:Int)=>[dI n]).length=a.commit.length:=by simp
 clear ra rb hne s1 s2 lx ly;generalize qk x.label (zjt x.cents x.blind:Nat) x.reason=p at d1 hcol hlog;generalize qk y.label (zjt y.cents y.blind:Nat) y.reason=q at d2 hcol hlog;generalize zjt x.cents x.blind=cx at d1 r1;generalize zjt y.cents y.blind=cy at d2 r2;generalize zia x.cents=vx at v1 hlog;generalize zia y.cents=vy at v2 hlog;obtain ⟨person,month,root,commit,shown,hidden,blind,⟨index,chains,path⟩⟩:=a;obtain ⟨person',month',root',commit',shown',hidden',blind',⟨index',chains',path'⟩⟩:=b;obtain ⟨xi,xla,xce,xre,xbl,xpa⟩:=x;obtain ⟨yi,yla,yce,yre,ybl,ypa⟩:=y;simp only at i1 i2 r1 r2 hcol hml;subst i1 i2;rw [<-hml] at hcol;refine zg Tryz.func22 rfl (by rw [Tryz.ntmps22];simp) rfl rfl ?_;intro E hH hK;(refine ze ?_;conv=>whnf);refine zi (i:=k') (row:=[dI cx]) rfl rfl r1 ?_;(refine zc ?_;conv=>whnf);(refine zx mixed rfl ?_;refine zf [] ?_;conv=>whnf);refine yf rfl  d1 ?_;(refine zf [] ?_;conv=>whnf);refine yx (i:=k') (row:=[dI cy]) rfl rfl r2 ?_;(refine zf [] ?_;conv=>whnf);refine yf rfl  d2 ?_;(refine zf [] ?_;conv=>whnf);(refine ze ?_;conv=>whnf)
 repeat' ((with_reducible refine way ?_ ?_)<;>(intro h;conv=>whnf))
 ·obtain ⟨u,v,huv,hh,su,sv,cc⟩:=hcol h
  have z1:=jy G u (by omega);have z2:=jy G v (by omega);rw [hh] at z1;generalize wx v=cv at z1 z2;clear hcol hlog hh su sv;refine zd rfl  cc ?_;(refine zc ?_;conv=>whnf)
  repeat' ((with_reducible refine way ?_ ?_)<;>(intro h;conv=>whnf))
  ·refine zd rfl  z1 ?_
   (refine zc ?_;conv=>whnf);refine zd rfl  z2 ?_;(refine zj [777,74] 1000 ?_;conv=>whnf);refine qo (r:=sB true) rfl rfl (show some (SV.imm (.val (.bool (decide ((cv:Int)=(cv:Int))))),_)=_ from by rw [decide_eq_true rfl]) (Nat.le_refl _) ?_;(refine zc ?_;conv=>whnf);exact hK _
  ·exact absurd h huv
 ·obtain ⟨z,hz⟩:=hlog h
  clear hcol hlog;(refine zx mixed rfl ?_;refine zf [] ?_;conv=>whnf);refine yf rfl  v1 ?_;(refine zf [] ?_;conv=>whnf);refine yf rfl  v2 ?_;(refine zf [] ?_;conv=>whnf);refine yf rfl  hz ?_;(refine zf [] ?_;conv=>whnf);(refine ze ?_;conv=>whnf);exact hK _
end Go.Proofs.YtjnddlifnkgncaaGreatDoor
namespace Go.Sh
section
variable {P:Program} {w:World}
theorem yxg (a b:ByteArray):(a==b)=decide (a=b):=by
 cases h:decide (a=b) with
 |true=>rw [of_decide_eq_true h];exact beq_self_eq_true _
 |false=>
  rw [decide_eq_false_iff_not] at h;cases hb:(a==b) with
  |false=>rfl
  |true=>exact absurd (eq_of_beq hb) h
theorem zhd {d:Nat} {t:TypeId} {a b:ByteArray} (hu:P.underlying t=some .string):(Op.equalIn (d+1) t (.string a) (.string b)).run P w= .ok (decide (a=b)) w:=by
 simp only [Op.equalIn,Sem.run_bind,run_underlying hu,Result.andThen_ok,Sem.run_pure,yxg]
theorem zdx {t:TypeId} {cs:Array Value} {off:Nat} {v:Value} (hu:P.underlying t=some .string) (hv:cs[off]?=some v):(part t cs off).run P w= .ok v w:=by
 simp only [part,isAgg,Sem.run_bind,run_underlying hu,Result.andThen_ok,Sem.run_pure,hv];rfl
theorem zvq {t:TypeId} {f0 f1 f2:Field} {k1:IntKind} {a c a' c':ByteArray} {b b':Int} {y:IntKind} (hu:P.underlying t=some (.struct #[f0,f1,f2])) (hs:P.stoodInHeld t=false)
  (hn0:f0.name≠ "_") (hn1:f1.name≠ "_") (hn2:f2.name≠ "_") (ho0:f0.offset=0) (ho1:f1.offset=1) (ho2:f2.offset=2)
  (hi0:P.underlying f0.type=some .string) (hi1:P.underlying f1.type=some (.int k1)) (hi2:P.underlying f2.type=some .string):
  (Op.equal t (.agg #[.string a,.int y b,.string c]) (.agg #[.string a',.int y b',.string c'])).run P w= .ok (decide (a=a')&&(decide (b=b')&&decide (c=c'))) w:=by
 show (Op.equalIn (9998+1+1) t _ _).run P w=_;generalize 9998=n;rw [Op.equalIn];simp only [Sem.run_bind,run_underlying hu,Result.andThen_ok]
 simp [hs,hn0,hn1,hn2,ho0,ho1,ho2,zdx hi0 (cs:=#[.string a,.int y b,.string c]) (off:=0) rfl,zdx hi0 (cs:=#[.string a',.int y b',.string c']) (off:=0) rfl,
  jb hi1 (cs:=#[.string a,.int y b,.string c]) (off:=1) rfl,jb hi1 (cs:=#[.string a',.int y b',.string c']) (off:=1) rfl,
  zdx hi2 (cs:=#[.string a,.int y b,.string c]) (off:=2) rfl,zdx hi2 (cs:=#[.string a',.int y b',.string c']) (off:=2) rfl,zhd hi0,zbd hi1,zhd hi2,program,zmx]
 by_cases h1:a=a'<;>by_cases h2:b=b'<;>by_cases h3:c=c'<;>simp [h1,h2,h3]
end
section
variable {P:Program} {G:List (Nat × D)} {fn:Func} {rd:Bool} {E:En P G fn rd} {t:List (Nat × SV)} {H:List SObj} {k:List Item}
variable {all:Array Oper} {o:Oper} {rest:List Oper}
theorem ymy {w:World} {I:Imm} {β:List Bnd} {v:Value} {a c:ByteArray} {b:Int} (h:Rep w I β v (.agg [.imm (.val (.string a)),.imm (.val (.int .i64 b)),.imm (.val (.string c))])):v= .agg #[.string a,.int .i64 b,.string c]:=by
 cases h with
 |agg vs _ h1 h2=>
  have key:∀(j:Nat) (h:j<vs.size) (x:Value) (hj:[SV.imm (.val (.string a)),SV.imm (.val (.int .i64 b)),SV.imm (.val (.string c))][j]?=some (.imm (.val x))),vs[j]=x:=by
   intro j h x hj;have h3:=h2 j (by rw [<-h1];exact h) h;rw [List.getElem?_eq_getElem (by rw [<-h1];exact h)] at hj;rw [Option.some.inj hj] at h3;generalize vs[j]=v at h3;cases h3 with|imm h3=>cases h3;rfl
  have hs:vs.size=3:=by simpa using h1
  congr 1
  apply Array.ext (by simp [hs])
  intro i hi1 hi2;have:i=0\/i=1\/i=2:=by omega
  rcases this with rfl|rfl|rfl
  ·exact key 0 hi1 _ rfl
  ·exact key 1 hi1 _ rfl
  ·exact key 2 hi1 _ rfl
theorem zzj {ty ty':TypeId} {x y:Operand} {f0 f1 f2:Field} {k1:IntKind} {a c a' c':ByteArray} {b b':Int} (hop:o.op= .binOp .neq ty x y ty')
  (hx:zl G t x= .agg [.imm (.val (.string a)),.imm (.val (.int .i64 b)),.imm (.val (.string c))]) (hy:zl G t y= .agg [.imm (.val (.string a')),.imm (.val (.int .i64 b')),.imm (.val (.string c'))])
  (hu:P.underlying ty=some (.struct #[f0,f1,f2])) (hs:P.stoodInHeld ty=false) (hn0:f0.name≠ "_") (hn1:f1.name≠ "_") (hn2:f2.name≠ "_") (ho0:f0.offset=0) (ho1:f1.offset=1) (ho2:f2.offset=2)
  (hi0:P.underlying f0.type=some .string) (hi1:P.underlying f1.type=some (.int k1)) (hi2:P.underlying f2.type=some .string) (hg:P.eqGuardType P.depth ty=false):
  yoh P G t o (.imm (.val (.bool (!(decide (a=a')&&(decide (b=b')&&decide (c=c'))))))):=by
 intro ρ w I β hev;have hrx:=hev x (by rw [hop];simp [Op.operands]);rw [hx] at hrx;have hry:=hev y (by rw [hop];simp [Op.operands]);rw [hy] at hry;have ex:=ymy hrx;have ey:=ymy hry;obtain ⟨dst,op,type,pos,after,guard⟩:=o;simp only at hop;subst hop;refine ⟨.bool (!(decide (a=a')&&(decide (b=b')&&decide (c=c')))),?_,.imm (.val _)⟩;simp only [execOp];rw [ex,ey];have hgd:(eqGuard .neq ty x y (.agg #[.string a,.int .i64 b,.string c]) (.agg #[.string a',.int .i64 b',.string c'])).run P w= .ok () w:=by
  simp [eqGuard,program,hg,zmx]
 simp only [Sem.run_bind,hgd,Result.andThen_ok,binOp,zvq hu hs hn0 hn1 hn2 ho0 ho1 ho2 hi0 hi1 hi2,Sem.run_pure]
end
end Go.Sh
namespace Go.Proofs.YtjnddlifnkgncaaGreatDoor
open Go Go.Sh
theorem ywm {x y:Shw} (h:(!(decide (x.label=y.label)&&(decide (x.cents=y.cents)&&decide (x.reason=y.reason))))=true):¬(x.label=y.label/\x.cents=y.cents/\x.reason=y.reason):=by
 rintro ⟨h1,h2,h3⟩;rw [decide_eq_true h1,decide_eq_true h2,decide_eq_true h3] at h;exact absurd h (by decide)
theorem bindLaw_spec (key:Nat) (height:Int) (a b:Disc) (ha:DFit a) (hb:DFit b) (fa:∀s∈a.shown,ShwFit s) (fb:∀s∈b.shown,ShwFit s):
  zq Tryz.prog G37 7 [yy key,sI height,a.sv,b.sv] (sB true):=by
 have l1:=zse G37 height a ha.shown;have l2:=zse G37 height b hb.shown;have c1:=zdc zdg key height a ha;have c2:=zdc zdg key height b hb;have cc:a.root=b.root->a.commit.length=b.commit.length->accOK key height a=true->accOK key height b=true->∀x∈a.shown,∀y∈b.shown,x.index=y.index->(!(decide (x.label=y.label)&&(decide (x.cents=y.cents)&&decide (x.reason=y.reason))))=true->
   zq Tryz.prog G37 22 [a.sv,b.sv,.agg (x.cells.map .imm),.agg (y.cells.map .imm)] (sB true):=fun h1 h2 h3 h4 x hx y hy h5 h6=>
  zvp G37 (yma h3 hx) (yma h4 hy) h1 h2 h5 (ywm h6) ((ylz _).1 (zev h3).1).len (fa x hx) (fb y hy)
 have hsa:=ha.shown;have hsb:=hb.shown;have hla:=ha.commit;have hlb:=hb.commit;generalize zur height a=o1 at l1;generalize zur height b=o2 at l2;generalize accOK key height a=o4 at c1 cc;generalize accOK key height b=o5 at c2 cc;clear ha hb fa fb;obtain ⟨person,month,root,commit,shown,hidden,blind,⟨index,chains,path⟩⟩:=a;obtain ⟨person',month',root',commit',shown',hidden',blind',⟨index',chains',path'⟩⟩:=b;simp only at hsa hsb hla hlb cc;have em1:(commit.map fun (n:Int)=>[dI n]).length=commit.length:=by simp
 have em2:(commit'.map fun (n:Int)=>[dI n]).length=commit'.length:=by simp
 have es1:(shown.map Shw.cells).length=shown.length:=by simp
 have es2:(shown'.map Shw.cells).length=shown'.length:=by simp
 refine zg Tryz.func7 rfl (by rw [Tryz.ntmps7];simp) rfl rfl ?_;intro E hH hK;(refine ze ?_;conv=>whnf);refine zd rfl  yvf ?_;(refine zc ?_;conv=>whnf);refine zd rfl  l1 ?_;cases o1 with
 |false=>
  (refine zc ?_;conv=>whnf);exact hK _
 |true=>
 (refine zc ?_;conv=>whnf);refine zd rfl  l2 ?_;cases o2 with
 |false=>
  (refine zc ?_;conv=>whnf);exact hK _
 |true=>
 (refine zc ?_;conv=>whnf)
 repeat' ((with_reducible refine way ?_ ?_)<;>(intro h;conv=>whnf))
 rotate_left
 ·exact hK _
 ·exact hK _
 rename_i hroot
 have hroot:root=root':=Int.ofNat_inj.1 hroot;have hlen:commit.length=commit'.length:=by
  rw [em1,em2] at h;exact Int.ofNat_inj.1 h
 refine zd rfl  c1 ?_;cases o4 with
 |false=>
  (refine zc ?_;conv=>whnf);exact hK _
 |true=>
 (refine zc ?_;conv=>whnf);refine zd rfl  c2 ?_;cases o5 with
 |false=>
  (refine zc ?_;conv=>whnf);exact hK _
 |true=>
 (refine zc ?_;conv=>whnf);have cc:=cc hroot hlen rfl rfl;clear c1 c2 l1 l2 hroot hlen;refine zh [6,7,9,57,58,59] ?_
 let B1:SObj:=.cells [sS person,sI month,yy root,.imm (yz commit),.imm (zbe shown),sI hidden,sI blind,sI index,.imm (zaw chains),.imm (xh path)]
 let B2:SObj:=.cells [sS person',sI month',yy root',.imm (yz commit'),.imm (zbe shown'),sI hidden',sI blind',sI index',.imm (zaw chains'),.imm (xh path')]
 change SW E _ [(6,.ptr 0 0),(7,.ptr 1 0),(9,sB true),(57,.imm (zbe shown)),(58,sI (shown.map Shw.cells).length),(59,sI (0:Nat))] [B1,B2];refine zp shown (fun j (_:Bool)=>[(6,.ptr 0 0),(7,.ptr 1 0),(9,sB true),(57,.imm (zbe shown)),(58,sI (shown.map Shw.cells).length),(59,sI (j:Nat))]) (fun _ _=>[B1,B2]) (fun _ _ _=>True) true trivial ?_ ?_
 ·rintro _ _
  (refine ze ?_;conv=>whnf)
  repeat' ((with_reducible refine way ?_ ?_)<;>(intro h;conv=>whnf))
  all_goals try (exfalso;omega)
  exact hK _
 ·rintro done x rest _ hda hdl _ ih
  have r1:(shown.map Shw.cells)[done.length]?=some x.cells:=by rw [hda];simp
  have wnx:IntKind.i64.wrap ((done.length:Int)+1)=((done.length+1:Nat):Int):=zk (by omega);have cx:=cc x (by rw [hda];simp);have ih:=ih true trivial;clear cc;obtain ⟨xi,xla,xce,xre,xbl,xpa⟩:=x;show SW E _ [(6,.ptr 0 0),(7,.ptr 1 0),(9,sB true),(57,.imm (zbe shown)),(58,sI (shown.map Shw.cells).length),(59,sI (done.length:Nat))] [B1,B2];(refine ze ?_;conv=>whnf)
  repeat' ((with_reducible refine way ?_ ?_)<;>(intro h;conv=>whnf))
  all_goals try (exfalso;omega)
  refine zi (i:=done.length) (row:=[dI xi,zep xla,dI xce,zep xre,dI xbl,xh xpa]) rfl rfl r1 ?_;(refine zc ?_;conv=>whnf);refine zh [6,7,9,11,57,58,59,64,65,66] ?_
  let B3:SObj:=.cells [sI xi,sS xla,sI xce,sS xre,sI xbl,.imm (xh xpa)]
  change SW E _ [(6,.ptr 0 0),(7,.ptr 1 0),(9,sB true),(11,.ptr 2 0),(57,.imm (zbe shown)),(58,sI (shown.map Shw.cells).length),(59,sI (done.length:Nat)),(64,.imm (zbe shown')),(65,sI (shown'.map Shw.cells).length),(66,sI (0:Nat))] [B1,B2,B3];refine zp shown' (fun j (_:Bool)=>[(6,.ptr 0 0),(7,.ptr 1 0),(9,sB true),(11,.ptr 2 0),(57,.imm (zbe shown)),(58,sI (shown.map Shw.cells).length),(59,sI (done.length:Nat)),(64,.imm (zbe shown')),(65,sI (shown'.map Shw.cells).length),(66,sI (j:Nat))]) (fun _ _=>[B1,B2,B3]) (fun _ _ _=>True) true trivial ?_ ?_
  ·rintro _ _
   (refine ze ?_;conv=>whnf)
   repeat' ((with_reducible refine way ?_ ?_)<;>(intro h;conv=>whnf))
   all_goals try (exfalso;omega)
   rw [wnx];exact ys [6,7,9,57,58,59] 2 (by rw [hH];exact Nat.zero_le _) (by show 2<=3;decide) rfl rfl ih
  ·rintro done' y rest' _ hda' hdl' _ ih'
   have r2:(shown'.map Shw.cells)[done'.length]?=some y.cells:=by rw [hda'];simp
   have wnx':IntKind.i64.wrap ((done'.length:Int)+1)=((done'.length+1:Nat):Int):=zk (by omega);have cxy:=cx y (by rw [hda'];simp);have ih':=ih' true trivial;clear cx ih;obtain ⟨yi,yla,yce,yre,ybl,ypa⟩:=y;simp only at cxy;show SW E _ [(6,.ptr 0 0),(7,.ptr 1 0),(9,sB true),(11,.ptr 2 0),(57,.imm (zbe shown)),(58,sI (shown.map Shw.cells).length),(59,sI (done.length:Nat)),(64,.imm (zbe shown')),(65,sI (shown'.map Shw.cells).length),(66,sI (done'.length:Nat))] [B1,B2,B3];(refine ze ?_;conv=>whnf)
   repeat' ((with_reducible refine way ?_ ?_)<;>(intro h;conv=>whnf))
   all_goals try (exfalso;omega)
   refine zi (i:=done'.length) (row:=[dI yi,zep yla,dI yce,zep yre,dI ybl,xh ypa]) rfl rfl r2 ?_;(refine zj [777,80] 1000 ?_;conv=>whnf)
   repeat' ((with_reducible refine way ?_ ?_)<;>(intro h;conv=>whnf))
   ·have hie:xi=yi:=by assumption
    refine yjh rfl rfl (by intro c hc;cases hc) (zzj rfl rfl rfl rfl Tryz.stoodInHeld72 (by decide) (by decide) (by decide) rfl rfl rfl rfl rfl rfl Tryz.eqGuardType72) ?_;have cxy:=cxy hie;generalize (!(decide (xla=yla)&&(decide (xce=yce)&&decide (xre=yre))))=rn at cxy ⊢;cases rn with
    |true=>
     have cxy:=cxy rfl;(refine zc ?_;conv=>whnf);refine zd rfl  cxy ?_;(refine zc ?_;conv=>whnf);rw [wnx'];exact ys [6,7,9,11,57,58,59,64,65,66] 3 (by rw [hH];exact Nat.zero_le _) (by show 3<=4;decide) rfl rfl ih'
    |false=>
     (refine zc ?_;conv=>whnf);rw [wnx'];exact ys [6,7,9,11,57,58,59,64,65,66] 3 (by rw [hH];exact Nat.zero_le _) (by show 3<=4;decide) rfl rfl ih'
   ·rw [wnx']
    exact ys [6,7,9,11,57,58,59,64,65,66] 3 (by rw [hH];exact Nat.zero_le _) (by show 3<=4;decide) rfl rfl ih'
end Go.Proofs.YtjnddlifnkgncaaGreatDoor