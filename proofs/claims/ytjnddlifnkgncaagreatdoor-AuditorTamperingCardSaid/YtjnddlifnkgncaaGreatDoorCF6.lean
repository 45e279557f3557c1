/- Contracts of functions of the program, joined from TUb, TTa, TTb, TTc, TTd, TTe, TYc, TYd, TYe, TYf, TZa, TZb, TSh56, TUc, TSh59, TSh61, TTn, TTo, TTp, TTh, TSh57, TTi, TTj, TTk, TUe: no condition. -/
import Derived.Test.YtjnddlifnkgncaaGreatDoorCF5
set_option linter.unusedSimpArgs false
set_option linter.unusedVariables false
set_option maxRecDepth 10000
set_option maxHeartbeats 8000000
namespace Go.Proofs.YtjnddlifnkgncaaGreatDoor
open Go Go.Sh
theorem zuc:∀(rs:List Rw) (bs:List Int),∀c∈zoh rs bs,0<=c/\c<=9000000000000000000
 |[],_,c,h=>by cases h
 |_::_,[],c,h=>by cases h
 |r::rs,b::bs,c,h=>by
  rcases List.mem_cons.1 h with rfl|h
  ·have:=zra r b
   omega
  ·exact zuc rs bs c h
theorem ygc:∀cs:List Int,(∀c∈cs,0<=c/\c<=9000000000000000000)->szs (cs.map wu)<=21*cs.length
 |[],_=>by simp [szs]
 |c::cs,h=>by
  have h1:=h c (by simp);have h2:=xh c (by omega) (by omega);have h3:=ygc cs (fun c hc=>h c (by simp [hc]));rw [List.map_cons,zad,List.length_cons];omega
theorem ydg (person:ByteArray) (month:Int) (root:Nat) (cs:List Int) (hp:person.size<=1000) (hm:0<=month/\month<=1199) (hc:∀c∈cs,0<=c/\c<=9000000000000000000) (hn:cs.length<=1024):
  (zgi spT (ziy person month root cs)).size<=100000:=by
 have e:=yga spT paysT ([person,wu month,zek root]++cs.map wu);have hj:=zds spT ([person,wu month,zek root]++cs.map wu) paysT.data.toList;rw [<-e] at hj;have hss:szs ([person,wu month,zek root]++cs.map wu)=person.size+((wu month).size+((zek root).size+szs (cs.map wu))):=by
  show szs (person::wu month::zek root::cs.map wu)=_;simp only [zad]
 have hll:([person,wu month,zek root]++cs.map wu).length=3+cs.length:=by simp;omega
 have hsp:spT.size=1:=rfl;have hpl:paysT.data.toList.length=7:=rfl;have h1:=ygc cs hc;have h2:=xh month (by omega) (by omega);have h3:=ju root;rw [hsp,hpl,hss,hll,Nat.one_mul] at hj;have hsz:(zgi spT (paysT::([person,wu month,zek root]++cs.map wu))).data.toList.length=(zgi spT (paysT::([person,wu month,zek root]++cs.map wu))).size:=by simp
 rw [hsz] at hj;show (zgi spT (paysT::([person,wu month,zek root]++cs.map wu))).size<=_;omega
theorem yns (s:Slip) (hg:SlipGood s) (hr:∀r∈s.rows,r.label.size<=100000/\r.reason.size<=100000) (hp:s.person.size<=1000) (sel:List Int) (hsel:zjs s.rows.length none sel=true) (hsl:sel.length<=1000000) (seed:ByteArray) (n i:Nat) (hs:seed.size<=64) (hn:n<=8) (hi:i<2 ^ n)
  (hsum: -500000000<=qd (s.rows.map Rw.cents) (znq s.rows.length sel)/\qd (s.rows.map Rw.cents) (znq s.rows.length sel)<=500000000):
  zq Tryz.prog G37 11 [s.sv,.imm (yv sel),sS seed,sI n,sI i] (.tup [(showN s sel seed n i).sv,sI (0:Nat)]):=by
 have c1:=zso s hr (by have:=hg.rows;omega) (by have:=hg.rows;have:=hg.blinds;omega) true ⟨fun _=>hg,fun _=>rfl⟩;have c2:=zsm G37 sel s.rows.length hsl;rw [hsel] at c2;have hc:=hg.cents;have hb:=hg.blind;have hbl:=hg.blinds;have hrows:=hg.rows;obtain ⟨dd,hD⟩:∃d,d=showN s sel seed n i:=⟨_,rfl⟩;rw [<-hD];obtain ⟨person,month,rows,blinds,root⟩:=s;simp only at c2 hr hp hsel hsum hc hb hbl hrows;have hml:(rows.map Rw.cells).length=rows.length:=by simp
 have e2:((rows.map Rw.cells).length:Int)=(rows.length:Int):=by rw [hml]
 rw [<-e2] at c2;refine zh Tryz.func11 rfl (by rw [Tryz.ntmps11];simp) rfl rfl ?_;intro E hH hK;(refine ze ?_;conv=>whnf);refine zd rfl  c1 ?_;(refine zc ?_;conv=>whnf);refine zd rfl  c2 ?_;(refine zc ?_;conv=>whnf);have nil0:SV:=.imm (.val (.slice none 0 0));refine zeu 2 3 1 (cs:=[.imm (zfq person),sI month,yg root,.imm (.val (.slice none 0 0)),.imm (.val (.slice none 0 0)),sI 0,sI 0,sI 0,.imm (.val (.slice none 0 0)),.imm (.val (.slice none 0 0))]) rfl rfl ?_;refine zin (n:=13) (kk:=1) rfl ?_;refine zg [1,2,3,4,5,10,11,12,13,45,46,47] ?_;change SW E _ [(1,.imm (yv sel)),(2,sS seed),(3,sI n),(4,sI i),(5,.ptr 0 0),(10,.ptr 1 0),(11,sI (0:Nat)),(12,.ptr 2 0),(13,.asl 4 1 (([]:List ByteArray).map fun s=>[dS s])),(45,.imm (znp rows)),(46,sI (rows.map Rw.cells).length),(47,sI (0:Nat))]
  [.cells [.imm (zfq person),sI month,.imm (znp rows),.imm (yv blinds),yg root],.cells [.imm (zfq ⟨#[]⟩),sI 0,yg (0:Nat),.imm (.val (.slice none 0 0)),.imm (.val (.slice none 0 0)),sI 0,sI 0,sI 0,.imm (.val (.slice none 0 0)),.imm (.val (.slice none 0 0))],
   .cells [.imm (zfq person),sI month,yg root,.asl 3 1 (([]:List Int).map fun n=>[dI n]),.imm (.val (.slice none 0 0)),sI 0,sI 0,sI 0,.imm (.val (.slice none 0 0)),.imm (.val (.slice none 0 0))],.tok 1 (([]:List Int).map fun n=>[dI n]).length,.tok 1 (([]:List ByteArray).map fun s=>[dS s]).length]
 have hbl2:(blinds.map fun (n:Int)=>[dI n]).length=blinds.length:=by simp
 let T:Nat->List Int × List ByteArray->List (Nat × SV):=fun j y=>[(1,.imm (yv sel)),(2,sS seed),(3,sI n),(4,sI i),(5,.ptr 0 0),(10,.ptr 1 0),(11,sI (0:Nat)),(12,.ptr 2 0),(13,.asl 4 1 (y.2.map fun s=>[dS s])),(45,.imm (znp rows)),(46,sI (rows.map Rw.cells).length),(47,sI j)]
 let Hh:List Int × List ByteArray->List SObj:=fun y=>[.cells [.imm (zfq person),sI month,.imm (znp rows),.imm (yv blinds),yg root],.cells [.imm (zfq ⟨#[]⟩),sI 0,yg (0:Nat),.imm (.val (.slice none 0 0)),.imm (.val (.slice none 0 0)),sI 0,sI 0,sI 0,.imm (.val (.slice none 0 0)),.imm (.val (.slice none 0 0))],
   .cells [.imm (zfq person),sI month,yg root,.asl 3 1 (y.1.map fun n=>[dI n]),.imm (.val (.slice none 0 0)),sI 0,sI 0,sI 0,.imm (.val (.slice none 0 0)),.imm (.val (.slice none 0 0))],.tok 1 (y.1.map fun n=>[dI n]).length,.tok 1 (y.2.map fun s=>[dS s]).length]
 refine zp rows T (fun _ y=>Hh y) (fun done rest y=>zoh rows blinds=y.1++zoh rest (blinds.drop done.length)/\zaw rows blinds=y.2++zaw rest (blinds.drop done.length)/\y.1.length=done.length/\y.2.length=done.length) ([],[]) ⟨rfl,rfl,rfl,rfl⟩ ?_ ?_
 ·rintro ⟨cs,ls⟩ ⟨h1,h2,h3,h4⟩
  have h1:zoh rows blinds=cs:=by have h:zoh rows blinds=cs++zoh [] (blinds.drop rows.length):=h1;rw [h];simp [zoh]
  have h2:zaw rows blinds=ls:=by have h:zaw rows blinds=ls++zaw [] (blinds.drop rows.length):=h2;rw [h];simp [zaw]
  refine ja ?_;change SW E _ [(1,.imm (yv sel)),(2,sS seed),(3,sI n),(4,sI i),(5,.ptr 0 0),(10,.ptr 1 0),(11,sI (0:Nat)),(12,.ptr 2 0),(13,.imm (yr ls)),(45,.imm (znp rows)),(46,sI (rows.map Rw.cells).length),(47,sI rows.length)]
   [.cells [.imm (zfq person),sI month,.imm (znp rows),.imm (yv blinds),yg root],.cells [.imm (zfq ⟨#[]⟩),sI 0,yg (0:Nat),.imm (.val (.slice none 0 0)),.imm (.val (.slice none 0 0)),sI 0,sI 0,sI 0,.imm (.val (.slice none 0 0)),.imm (.val (.slice none 0 0))],
   .cells [.imm (zfq person),sI month,yg root,.imm (yv cs),.imm (.val (.slice none 0 0)),sI 0,sI 0,sI 0,.imm (.val (.slice none 0 0)),.imm (.val (.slice none 0 0))],.tok 1 (cs.map fun n=>[dI n]).length,.tok 1 (ls.map fun s=>[dS s]).length]
  have hcr:∀c∈cs,0<=c/\c<=9000000000000000000:=fun c hcc=>zuc rows blinds c (by rw [h1];exact hcc)
  have hcl:cs.length=rows.length:=h3;have hrt:root<18446744073709551616:=by have h:zjr (zaw rows blinds)=root:=hg.root;rw [<-h];exact ygb _
  have d1:=zwi person month root cs hp hg.month hrt hcr (by omega);have hts:(zgi spT (ziy person month root cs)).size<=9223372036854775807:=Nat.le_trans (ydg person month root cs hp hg.month hcr (by omega)) (by decide);have d2:=yni seed n i (zgi spT (ziy person month root cs)) hs hn hi hts;(refine ze ?_;conv=>whnf)
  repeat' ((with_reducible refine way ?_ ?_)<;>(intro h;conv=>whnf))
  all_goals try (exfalso;omega)
  refine zd rfl  d1 ?_;(refine zc ?_;conv=>whnf);obtain ⟨sg,hsg⟩:∃g,g=signN seed n i (zgi spT (ziy person month root cs)):=⟨_,rfl⟩;rw [<-hsg] at d2;have d3:=yix G37 sel (rows.map Rw.cells).length (by rw [hml];exact hsel) hsl (by omega);have hmk:(znq (rows.map Rw.cells).length sel).length=rows.length:=by simp [znq]
  have hsum2: -500000000<=qd (rows.map Rw.cents) (znq (rows.map Rw.cells).length sel)/\qd (rows.map Rw.cents) (znq (rows.map Rw.cells).length sel)<=500000000:=by rw [hml];exact hsum
  generalize hmk0:znq (rows.map Rw.cells).length sel=mk at d3 hmk hsum2;have d4:=zzn G37 rows mk hmk (by omega) (fun r hx=>by have:=hc r hx;omega);have d5:=zzo G37 blinds mk (by omega) (by omega) (fun b hx=>by have:=hb b hx;omega);generalize hh1:qd (rows.map Rw.cents) mk=hs1 at d4 hsum2;generalize hh2:qd blinds mk=hs2 at d5;refine zd rfl  d2 ?_;(refine zc ?_;conv=>whnf);refine zd rfl  d3 ?_;(refine zc ?_;conv=>whnf);refine zd rfl  d4 ?_;(refine zc ?_;conv=>whnf)
  repeat' ((with_reducible refine way ?_ ?_)<;>(intro h;conv=>whnf))
  all_goals try (exfalso;omega)
  refine zd rfl  d5 ?_;(refine zc ?_;conv=>whnf);refine zeu 2 4 6 (cs:=[.imm (zfq person),sI month,yg root,.imm (yv cs),.imm (.val (.slice none 0 0)),sI hs1,sI (hs2.tmod 1073741789),sI sg.index,.imm (xq sg.chains),.imm (zy sg.path)]) rfl rfl ?_;refine zg [5,10,12,13,127,128,129] ?_;have hsl2:(sel.map fun (n:Int)=>[dI n]).length=sel.length:=by simp
  change SW E _ [(5,.ptr 0 0),(10,.ptr 1 0),(12,.ptr 2 0),(13,.imm (yr ls)),(127,.imm (yv sel)),(128,sI (sel.map fun (n:Int)=>[dI n]).length),(129,sI (0:Nat))]
   [.cells [.imm (zfq person),sI month,.imm (znp rows),.imm (yv blinds),yg root],.cells [.imm (zfq ⟨#[]⟩),sI 0,yg (0:Nat),.imm (.val (.slice none 0 0)),.imm (.val (.slice none 0 0)),sI 0,sI 0,sI 0,.imm (.val (.slice none 0 0)),.imm (.val (.slice none 0 0))],
   .cells [.imm (zfq person),sI month,yg root,.imm (yv cs),.asl _ 6 (([]:List Shw).map Shw.cells),sI hs1,sI (hs2.tmod 1073741789),sI sg.index,.imm (xq sg.chains),.imm (zy sg.path)],.tok 1 (cs.map fun n=>[dI n]).length,.tok 1 (ls.map fun s=>[dS s]).length,.cells [sI sg.index,.imm (xq sg.chains),.imm (zy sg.path)],.tok 6 (([]:List Shw).map Shw.cells).length]
  let H2:List Shw->List SObj:=fun l=>[.cells [.imm (zfq person),sI month,.imm (znp rows),.imm (yv blinds),yg root],.cells [.imm (zfq ⟨#[]⟩),sI 0,yg (0:Nat),.imm (.val (.slice none 0 0)),.imm (.val (.slice none 0 0)),sI 0,sI 0,sI 0,.imm (.val (.slice none 0 0)),.imm (.val (.slice none 0 0))],
   .cells [.imm (zfq person),sI month,yg root,.imm (yv cs),.asl 6 6 (l.map Shw.cells),sI hs1,sI (hs2.tmod 1073741789),sI sg.index,.imm (xq sg.chains),.imm (zy sg.path)],.tok 1 (cs.map fun n=>[dI n]).length,.tok 1 (ls.map fun s=>[dS s]).length,.cells [sI sg.index,.imm (xq sg.chains),.imm (zy sg.path)],.tok 6 (l.map Shw.cells).length]
  refine zp sel (fun j (_:List Shw)=>[(5,.ptr 0 0),(10,.ptr 1 0),(12,.ptr 2 0),(13,.imm (yr ls)),(127,.imm (yv sel)),(128,sI (sel.map fun (n:Int)=>[dI n]).length),(129,sI j)]) (fun _ l=>H2 l) (fun done _ l=>l=done.map (showRow ⟨person,month,rows,blinds,root⟩)) [] rfl ?_ ?_
  ·rintro l hl
   have hl:l=sel.map (showRow ⟨person,month,rows,blinds,root⟩):=hl;have hdd:dd=⟨person,month,root,cs,l,hs1,hs2.tmod 1073741789,sg⟩:=by
    rw [hD,hsg, <-hh1, <-hh2, <-hmk0,hl,hml];simp only [showN,h1]
   rw [hdd] at hK;clear hdd hl hD;refine ja ?_;change SW E _ [(5,.ptr 0 0),(10,.ptr 1 0),(12,.ptr 2 0),(13,.imm (yr ls)),(127,.imm (yv sel)),(128,sI (sel.map fun (n:Int)=>[dI n]).length),(129,sI sel.length)]
    [.cells [.imm (zfq person),sI month,.imm (znp rows),.imm (yv blinds),yg root],.cells [.imm (zfq ⟨#[]⟩),sI 0,yg (0:Nat),.imm (.val (.slice none 0 0)),.imm (.val (.slice none 0 0)),sI 0,sI 0,sI 0,.imm (.val (.slice none 0 0)),.imm (.val (.slice none 0 0))],
    .cells [.imm (zfq person),sI month,yg root,.imm (yv cs),.imm (je l),sI hs1,sI (hs2.tmod 1073741789),sI sg.index,.imm (xq sg.chains),.imm (zy sg.path)],.tok 1 (cs.map fun n=>[dI n]).length,.tok 1 (ls.map fun s=>[dS s]).length,.cells [sI sg.index,.imm (xq sg.chains),.imm (zy sg.path)],.tok 6 (l.map Shw.cells).length]
   (refine ze ?_;conv=>whnf)
   repeat' ((with_reducible refine way ?_ ?_)<;>(intro h;conv=>whnf))
   all_goals try (exfalso;omega)
   exact hK _
  ·rintro done x rest l hda hdl hl ih
   have hl:l=done.map (showRow ⟨person,month,rows,blinds,root⟩):=hl;have hw:=zk (n:=done.length) (by omega);have hrow:(sel.map fun (n:Int)=>[dI n])[((done.length:Nat):Int).toNat]?=some [dI x]:=by simp [hda]
   have hxr:=(zld _ _ _ hsel).2.1 x (by rw [hda];simp);obtain ⟨k,rfl⟩:∃k:Nat,x=k:=⟨x.toNat,by omega⟩;have hk:k<rows.length:=by omega
   have hnx:=ih (l++[showRow ⟨person,month,rows,blinds,root⟩ k]) (by show l++_=(done++[_]).map _;rw [hl];simp);have e1:=zzm G37 ls k (by rw [<-h2,zdt rows blinds (by omega)];exact hk) (by rw [<-h2,zdt rows blinds (by omega)];omega) (fun y hy=>by have:=zie rows blinds hr y (by rw [h2];exact hy);omega);obtain ⟨r,hrk⟩:∃r,rows[k]?=some r:=⟨_,List.getElem?_eq_getElem hk⟩;obtain ⟨b,hbk⟩:∃b,blinds[k]?=some b:=⟨_,List.getElem?_eq_getElem (by omega)⟩;have hsh:showRow ⟨person,month,rows,blinds,root⟩ k=⟨k,r.label,r.cents,r.reason,b,zlc ls k⟩:=by
    simp only [showRow,Int.toNat_natCast,List.getD_eq_getElem?_getD,hrk,hbk,Option.getD_some,h2]
   rw [hsh] at hnx;have g1:(rows.map Rw.cells)[k]?=some r.cells:=by simp [hrk]
   have g2:(blinds.map fun (n:Int)=>[dI n])[k]?=some [dI b]:=by simp [hbk]
   generalize zlc ls k=pa at e1 hnx;clear ih hsh;obtain ⟨la,ce,re⟩:=r;have hll:l.length=done.length:=by rw [hl];simp
   clear hl;show SW E _ [(5,.ptr 0 0),(10,.ptr 1 0),(12,.ptr 2 0),(13,.imm (yr ls)),(127,.imm (yv sel)),(128,sI (sel.map fun (n:Int)=>[dI n]).length),(129,sI done.length)] (H2 l);simp only [H2,List.map_append] at hnx ⊢;(refine ze ?_;conv=>whnf)
   repeat' ((with_reducible refine way ?_ ?_)<;>(intro h;conv=>whnf))
   all_goals try (exfalso;omega)
   refine zi rfl rfl  hrow ?_;(refine zc ?_;conv=>whnf);refine zd rfl  e1 ?_;(refine zc ?_;conv=>whnf);(refine xf 0 mixed rfl ?_;refine zn [777] (nx:=7) ?_;conv=>whnf);refine qn (i:=k) (row:=[zfq la,dI ce,zfq re]) rfl (show 7<=7 by decide) rfl g1 ?_;(refine zn [777] (nx:=7) ?_;conv=>whnf);refine qn (i:=k) (row:=[dI b]) rfl (show 7<=7 by decide) rfl g2 ?_;(refine zn [777] (nx:=7) ?_;conv=>whnf);refine zev (b:=6) (kk:=6) (rows:=l.map Shw.cells) (new:=[[dI k,zfq la,dI ce,zfq re,dI b,zy pa]]) rfl rfl rfl rfl rfl rfl rfl rfl rfl rfl ⟨show 80<=65536 by decide,rfl⟩ (show 7<=7 by decide) rfl (by simp;omega) ?_;refine zaf ⟨_,[],none⟩ rfl rfl (show 7<=7 by decide) (fun _ _ _=>rfl) ?_;refine xa (b:=2) (off:=4) (d:=[.imm (zfq person),sI month,yg root,.imm (yv cs)]) (zz:=.asl 6 6 (l.map Shw.cells)) (r:=[sI hs1,sI (hs2.tmod 1073741789),sI sg.index,.imm (xq sg.chains),.imm (zy sg.path)]) (v:=.asl 6 6 (l.map Shw.cells++[[dI k,zfq la,dI ce,zfq re,dI b,zy pa]])) rfl rfl rfl rfl rfl rfl rfl rfl (show 7<=7 by decide) rfl rfl ?_;refine qf (by kernel_rfl) ?_;(refine ze ?_;conv=>whnf);rw [hw];refine zg [5,10,12,13,127,128,129] ?_;exact hnx
 ·rintro done r rest ⟨cs,ls⟩ hda hdl ⟨h1,h2,h3,h4⟩ ih
  have hw:=zk (n:=done.length) (by omega);have hrow:(rows.map Rw.cells)[((done.length:Nat):Int).toNat]?=some r.cells:=by simp [hda]
  obtain ⟨b,hbb⟩:∃b,blinds[done.length]?=some b:=⟨_,List.getElem?_eq_getElem (by omega)⟩;have hrb:(blinds.map fun (n:Int)=>[dI n])[((done.length:Nat):Int).toNat]?=some [dI b]:=by simp [hbb]
  have hdr:blinds.drop done.length=b::blinds.drop (done.length+1):=by
   rw [List.drop_eq_getElem_cons (by omega)];rw [List.getElem?_eq_getElem (by omega)] at hbb;rw [Option.some.inj hbb]
  have hbr:=hb b (List.mem_of_getElem? hbb);have hrm:r∈rows:=by rw [hda];simp
  obtain ⟨f1,f2⟩:=hr r hrm;obtain ⟨f3,f4⟩:=hc r hrm;simp only at h1 h2 h3 h4;rw [hdr,zoh] at h1;rw [hdr,zaw] at h2;have hlt:=zra r b;have hnx:=ih (cs++[(zua r b:Int)],ls++[qk r.label (zua r b) r.reason]) ⟨by rw [h1];simp,by rw [h2];simp,by simp [h3],by simp [h4]⟩;have d1:=zhk r.cents b ⟨f3,f4⟩ hbr;change zq _ _ _ _ (.tup [sI (zua r b),_]) at d1;have d2:=zfz r.label (zua r b) r.reason f1 f2 ⟨by omega,by omega⟩;generalize qk r.label (zua r b) r.reason=lf at d2 hnx;generalize zua r b=cm at d1 d2 hlt hnx;clear ih h1 h2 hdr;obtain ⟨la,ce,re⟩:=r;simp only at f3 f4 d1 d2;have hws:IntKind.i64.wrap (ce+1073741789)=ce+1073741789:=zt (by omega) (by omega);show SW E _ (T done.length (cs,ls)) (Hh (cs,ls));simp only [T,Hh,List.map_append] at hnx ⊢;(refine ze ?_;conv=>whnf)
  repeat' ((with_reducible refine way ?_ ?_)<;>(intro h;conv=>whnf))
  all_goals try (exfalso;omega)
  refine zi rfl rfl  hrow ?_;(refine zc ?_;conv=>whnf);(refine yc mixed rfl ?_;refine zf [] ?_;conv=>whnf);refine yx rfl rfl  hrb ?_;(refine zf [] ?_;conv=>whnf);rw [hws];refine ym rfl  d1 ?_;(refine zf [] ?_;conv=>whnf);(refine ze ?_;conv=>whnf);refine zr (b:=3) (kk:=1) (rows:=cs.map fun n=>[dI n]) (new:=[[dI cm]]) rfl ⟨show 8<=65536 by decide,rfl⟩ rfl (by rw [List.length_map];simp only [List.length_cons,List.length_nil];omega) ?_;(refine zc ?_;conv=>whnf);refine zd rfl  d2 ?_;(refine zc ?_;conv=>whnf);refine zr (b:=4) (kk:=1) (rows:=ls.map fun s=>[dS s]) (new:=[[dS lf]]) rfl ⟨show 16<=65536 by decide,rfl⟩ rfl (by rw [List.length_map];simp only [List.length_cons,List.length_nil];omega) ?_;(refine zc ?_;conv=>whnf);rw [hw];simp only [List.length_append] at hnx;exact yz [1,2,3,4,5,10,11,12,13,45,46,47] 5 (by rw [hH];exact Nat.zero_le _) (by show 5<=6;decide) rfl rfl hnx
def zhm (row:List Nat) (i:Nat):List Frk:=if i % 2=1 then [⟨row.getD (i-1) 0,true⟩] else if i+1<row.length then [⟨row.getD (i+1) 0,false⟩] else []
def pth:List (List Nat)->Nat->List Frk
 |[],_=>[]
 |row::rs,i=>zhm row i++pth rs (i / 2)
theorem yrw (s:Nat × List Frk) (row:List Nat):zlb s row=(s.1 / 2,s.2++zhm row s.1):=by
 unfold zlb zhm;split
 ·rfl
 ·split
  ·rfl
  ·rw [List.append_nil]
theorem zrd:∀(rs:List (List Nat)) (i:Nat) (acc:List Frk),(rs.foldl zlb (i,acc)).2=acc++pth rs i
 |[],_,acc=>(List.append_nil acc).symm
 |row::rs,i,acc=>by
  rw [List.foldl_cons,yrw,zrd rs,pth,List.append_assoc]
def ygd (rs:List (List Nat)) (v:Nat):Nat:=rs.foldl (fun _ r=>r.getD 0 0) v
theorem yrx:∀(rs:List (List Nat)),rs≠[]->∀v w,ygd rs v=ygd rs w
 |[],h,_,_=>absurd rfl h
 |_::_,_,_,_=>by rw [ygd,ygd,List.foldl_cons,List.foldl_cons]
theorem ynt (f:Nat) (r:List Nat):qg f r≠[]:=by
 cases f with
 |zero=>simp [qg]
 |succ f=>
  rw [qg];split<;>simp
theorem ynu (a:Nat):zcb [a]=[a]:=rfl
theorem zre (a b:Nat) (r:List Nat):zcb (a::b::r)=zce a b::zcb r:=by rw [zcb]
theorem zzr:∀(r:List Nat) (i:Nat),i<r.length->
  (zcb r).getD (i / 2) 0=if i % 2=1 then zce (r.getD (i-1) 0) (r.getD i 0) else if i+1<r.length then zce (r.getD i 0) (r.getD (i+1) 0) else r.getD i 0
 |[],i,h=>absurd h (Nat.not_lt_zero i)
 |[a],i,h=>by
  have e:i=0:=by
   rw [List.length_singleton] at h;omega
  rw [e,ynu,if_neg (by decide),if_neg (by rw [List.length_singleton];decide),Nat.zero_div]
 |a::b::r,0,_=>by
  rw [zre,if_neg (by decide),if_pos (by rw [List.length_cons,List.length_cons];omega),Nat.zero_div,List.getD_cons_zero,List.getD_cons_zero,List.getD_cons_succ,List.getD_cons_zero]
 |a::b::r,1,_=>by
  rw [zre,if_pos (by decide),show 1 / 2=0 by decide,show 1-1=0 by decide,List.getD_cons_zero,List.getD_cons_zero,show (1:Nat)=0+1 by decide,List.getD_cons_succ,List.getD_cons_zero]
 |a::b::r,i+2,h=>by
  have ih:=zzr r i (by rw [List.length_cons,List.length_cons] at h;omega);have g:∀j,(a::b::r).getD (j+2) 0=r.getD j 0:=fun j=>by
   rw [show j+2=j+1+1 by omega,List.getD_cons_succ,List.getD_cons_succ]
  rw [zre,show (i+2) / 2=i / 2+1 by omega,List.getD_cons_succ,ih,show (i+2) % 2=i % 2 by omega]
  by_cases h1:i % 2=1
  ·obtain ⟨j,rfl⟩:∃j,i=j+1:=⟨i-1,by omega⟩
   rw [if_pos h1,if_pos h1,show j+1-1=j by omega,show j+1+2-1=j+2 by omega,g,g]
  ·rw [if_neg h1,if_neg h1,show i+2+1=i+1+2 by omega,List.length_cons,List.length_cons,g,g]
   by_cases h2:i+1<r.length
   ·rw [if_pos h2,if_pos (by omega)]
   ·rw [if_neg h2,if_neg (by omega)]
theorem zzs (k f:Nat) (r:List Nat) (i:Nat) (hi:i<r.length) (h1:¬1<r.length):climb (k+1) r.length i (pth (qg f r) i) (r.getD i 0)=some (ygd (qg f r) 0):=by
 have h3:i=0:=by omega
 have hp:pth [r] 0=[]:=by rw [pth,pth,zhm,if_neg (by decide),if_neg (by omega),List.append_nil]
 have ht:ygd [r] 0=r.getD 0 0:=by rw [ygd,List.foldl_cons,List.foldl_nil]
 rw [h3,ztw f h1,hp,ht,climb,if_pos (by omega),List.isEmpty_nil,if_pos rfl]
theorem zme (f size idx:Nat) (x:Frk) (r:List Frk) (cur:Nat) (h:¬size<=1) (h2:idx % 2=1\/idx+1<size):
  climb (f+1) size idx (x::r) cur=if x.left=decide (idx % 2=1) then climb f ((size+1) / 2) (idx / 2) r (if idx % 2=1 then zce x.sib cur else zce cur x.sib) else none:=by
 rw [zhy _ _ _ _ _ h,if_pos h2]
theorem yjd (f size idx:Nat) (s:Nat) (r:List Frk) (cur:Nat) (h:¬size<=1) (h2:idx % 2=1):climb (f+1) size idx (⟨s,true⟩::r) cur=climb f ((size+1) / 2) (idx / 2) r (zce s cur):=by
 rw [zme _ _ _ _ _ _ h (.inl h2),decide_eq_true h2,if_pos rfl,if_pos h2]
theorem ydh (f size idx:Nat) (s:Nat) (r:List Frk) (cur:Nat) (h:¬size<=1) (h1:¬idx % 2=1) (h2:idx+1<size):climb (f+1) size idx (⟨s,false⟩::r) cur=climb f ((size+1) / 2) (idx / 2) r (zce cur s):=by
 rw [zme _ _ _ _ _ _ h (.inr h2),decide_eq_false h1,if_pos rfl,if_neg h1]
theorem zud (f size idx:Nat) (r:List Frk) (cur:Nat) (h:¬size<=1) (h1:¬idx % 2=1) (h2:¬idx+1<size):climb (f+1) size idx r cur=climb f ((size+1) / 2) (idx / 2) r cur:=by
 rw [zhy _ _ _ _ _ h,if_neg (by omega)]
theorem zzt (k:Nat):∀(f:Nat) (r:List Nat) (i:Nat),r.length<=f->i<r.length->r.length<=2 ^ k->climb (k+1) r.length i (pth (qg f r) i) (r.getD i 0)=some (ygd (qg f r) 0):=by
 induction k with
 |zero=>
  intro f r i _ hi hk;rw [Nat.pow_zero] at hk;exact zzs 0 f r i hi (by omega)
 |succ k IH=>
  intro f r i hf hi hk
  by_cases h1:1<r.length
  ·obtain ⟨f',h2,h3⟩:=zqt hf h1
   have hup:=zcq r;have ih:=IH f' (zcb r) (i / 2) h3 (by omega) (by rw [hup];rw [Nat.pow_succ] at hk;omega);clear IH;have ht:ygd (r::qg f' (zcb r)) 0=ygd (qg f' (zcb r)) 0:=by
    rw [ygd,List.foldl_cons];exact yrx _ (ynt _ _) _ _
   rw [zzr r i hi,hup] at ih;rw [h2,pth,zhm,ht];generalize ygd (qg f' (zcb r)) 0=tp at ih ⊢;generalize pth (qg f' (zcb r)) (i / 2)=pp at ih ⊢;clear h2 h3 ht hup
   by_cases h4:i % 2=1
   ·rw [if_pos h4] at ih
    rw [if_pos h4,List.singleton_append,yjd _ _ _ _ _ _ (by omega) h4,ih]
   ·rw [if_neg h4] at ih
    rw [if_neg h4]
    by_cases h5:i+1<r.length
    ·rw [if_pos h5] at ih
     rw [if_pos h5,List.singleton_append,ydh _ _ _ _ _ _ (by omega) h4 h5,ih]
    ·rw [if_neg h5] at ih
     rw [if_neg h5,List.nil_append,zud _ _ _ _ _ (by omega) h4 h5,ih]
  ·exact zzs (k+1) f r i hi h1
theorem zzu (l:List ByteArray) (i:Nat):zlc l i=pth (qg 1024 (l.map qs)) i:=by
 unfold zlc;rw [zrd,List.nil_append]
theorem ynv (l:List ByteArray):zjr l=ygd (qg 1024 (l.map qs)) 0:=by
 unfold zjr ygd;rfl
theorem ydi (l:List ByteArray) (i:Nat) (hi:i<l.length) (hl:l.length<=1024):climb 12 l.length i (zlc l i) (qs (l.getD i ⟨#[]⟩))=some (zjr l):=by
 have hlm:(l.map qs).length=l.length:=List.length_map _;have h:=zzt 11 1024 (l.map qs) i (by omega) (by omega) (by rw [hlm];exact Nat.le_trans hl (by decide));have e:(l.map qs).getD i 0=qs (l.getD i ⟨#[]⟩):=by
  rw [List.getD_eq_getElem?_getD,List.getD_eq_getElem?_getD,List.getElem?_map,List.getElem?_eq_getElem hi,Option.map_some,Option.getD_some,Option.getD_some]
 rw [<-zzu,hlm,e, <-ynv] at h;exact h
theorem zrf (l:List ByteArray) (i:Nat) (hi:i<l.length) (hl:l.length<=1024):qw (zjr l) l.length i (l.getD i ⟨#[]⟩) (zlc l i)=true:=by
 have h:=ydi l i hi hl;unfold qw;rw [Int.toNat_natCast,Int.toNat_natCast,decide_eq_true h,decide_eq_true (by omega),decide_eq_true (by omega),decide_eq_true (by omega),decide_eq_true (by omega)];rfl
def chN:Nat->Nat->Nat
 |_,0=>1
 |0,_+1=>0
 |n+1,k+1=>chN n k+chN n (k+1)
theorem zif:∀n k:Nat,n<k->chN n k=0
 |_,0,h=>absurd h (Nat.not_lt_zero _)
 |0,_+1,_=>rfl
 |n+1,k+1,h=>by rw [chN,zif n k (by omega),zif n (k+1) (by omega)]
theorem zrg (n:Nat):chN n 0=1:=by cases n<;>rfl
theorem yge:∀n:Nat,chN n n=1
 |0=>rfl
 |n+1=>by rw [chN,yge n,zif n (n+1) (by omega)]
theorem zwj:∀n k:Nat,(k+1)*chN (n+1) (k+1)=(n+1)*chN n k
 |0,0=>rfl
 |0,k+1=>by rw [zif 1 (k+1+1) (by omega),zif 0 (k+1) (by omega)];simp
 |n+1,0=>by
  have h:=zwj n 0;rw [zrg] at h;rw [show chN (n+1+1) (0+1)=chN (n+1) 0+chN (n+1) (0+1) from rfl,zrg];omega
 |n+1,k+1=>by
  have h1:=zwj n k;have h2:=zwj n (k+1);have e:chN (n+1) (k+1)=chN n k+chN n (k+1):=rfl;rw [show chN (n+1+1) (k+1+1)=chN (n+1) (k+1)+chN (n+1) (k+1+1) from rfl,Nat.mul_add,h2,Nat.add_mul (k+1) 1,h1,Nat.one_mul,Nat.add_mul (n+1) 1,Nat.one_mul];have e2:(n+1)*chN (n+1) (k+1)=(n+1)*chN n k+(n+1)*chN n (k+1):=by rw [e,Nat.mul_add]
  omega
def zzv (f:Nat->Nat):Nat->Nat
 |0=>0
 |m+1=>zzv f m+f m
theorem zzw (n a:Nat):∀m,zzv (fun k=>chN (n+1) k*a ^ k) (m+1)=a*zzv (fun k=>chN n k*a ^ k) m+zzv (fun k=>chN n k*a ^ k) (m+1)
 |0=>by simp [zzv,zrg]
 |m+1=>by
  have ih:=zzw n a m;rw [zzv,ih];show _+chN (n+1) (m+1)*a ^ (m+1)=a*(zzv (fun k=>chN n k*a ^ k) m+chN n m*a ^ m)+(zzv (fun k=>chN n k*a ^ k) (m+1)+chN n (m+1)*a ^ (m+1));have e:chN (n+1) (m+1)*a ^ (m+1)=a*(chN n m*a ^ m)+chN n (m+1)*a ^ (m+1):=by
   rw [show chN (n+1) (m+1)=chN n m+chN n (m+1) from rfl,Nat.add_mul,Nat.pow_succ,Nat.mul_comm (a ^ m) a,Nat.mul_left_comm]
  rw [e,Nat.mul_add];omega
theorem yxs (a:Nat):∀n,(a+1) ^ n=zzv (fun k=>chN n k*a ^ k) (n+1)
 |0=>by simp [zzv,zrg]
 |n+1=>by
  have h:zzv (fun k=>chN n k*a ^ k) (n+1+1)=zzv (fun k=>chN n k*a ^ k) (n+1):=by
   rw [zzv,zif n (n+1) (by omega),Nat.zero_mul,Nat.add_zero]
  rw [zzw,h, <-yxs a n,Nat.pow_succ,Nat.mul_add,Nat.mul_one,Nat.mul_comm]
structure PrimeN (q:Nat):Prop where
 two:2<=q
 cop:∀k,0<k->k<q->Nat.Coprime q k
theorem ynw {q:Nat} (hq:PrimeN q) {k:Nat} (h0:0<k) (h1:k<q):q ∣ chN q k:=by
 obtain ⟨k,rfl⟩:∃j,k=j+1:=⟨k-1,by omega⟩;obtain ⟨n,rfl⟩:∃n,q=n+1:=⟨q-1,by omega⟩;have h:n+1 ∣ (k+1)*chN (n+1) (k+1):=⟨chN n k,zwj n k⟩;exact (hq.cop (k+1) h0 h1).dvd_of_dvd_mul_left h
theorem ygf {q:Nat} (hq:PrimeN q) (a:Nat):∀m,m<q->zzv (fun k=>chN q k*a ^ k) (m+1) % q=1
 |0,_=>by
  have:=hq.two;simp [zzv,zrg,Nat.mod_eq_of_lt (show 1<q by omega)]
 |m+1,h=>by
  rw [zzv];obtain ⟨c,hc⟩:=ynw hq (k:=m+1) (by omega) h;simp only [hc];rw [Nat.mul_assoc,Nat.add_mul_mod_self_left];exact ygf hq a m (by omega)
theorem zue {q:Nat} (hq:PrimeN q):∀a:Nat,a ^ q % q=a % q
 |0=>by
  have:=hq.two;rw [Nat.zero_pow (by omega)]
 |a+1=>by
  have h2:=hq.two;have h:=ygf hq a (q-1) (by omega);rw [show q-1+1=q by omega] at h;rw [yxs,zzv,yge,Nat.one_mul,Nat.add_mod,h,zue hq a,Nat.add_mod a 1,Nat.mod_eq_of_lt (show 1<q by omega),Nat.add_comm]
theorem ydj {a b q:Nat} (h:a % q=b % q):q ∣ a-b:=Nat.dvd_of_mod_eq_zero (Nat.sub_mod_eq_zero_of_mod_eq h)
theorem zuf {q:Nat} (hq:PrimeN q) {a:Nat} (ha:a % q≠0):a ^ (q-2)*a % q=1:=by
 have h2:=hq.two;have hp:0<a:=by
  rcases Nat.eq_zero_or_pos a with h|h
  ·rw [h,Nat.zero_mod] at ha
   exact absurd rfl ha
  ·exact h
 have hc:Nat.Coprime q a:=by
  have h:=hq.cop (a % q) (by omega) (Nat.mod_lt _ (by omega));unfold Nat.Coprime at h ⊢;rw [<-h,Nat.gcd_comm q (a % q), <-Nat.gcd_rec]
 have h3:q ∣ a*a ^ (q-1)-a*1:=by
  refine ydj ?_;rw [<-Nat.pow_succ',show Nat.succ (q-1)=q by omega,Nat.mul_one];exact zue hq a
 rw [<-Nat.mul_sub] at h3;obtain ⟨c,h4⟩:=hc.dvd_of_dvd_mul_left h3;have h5:a ^ (q-1)=1+q*c:=by
  have:0<a ^ (q-1):=Nat.pow_pos hp;omega
 rw [<-Nat.pow_succ,show Nat.succ (q-2)=q-1 by omega,h5,Nat.add_mul_mod_self_left,Nat.mod_eq_of_lt (by omega)]
theorem ytl {p a b c d:Nat} (h:a % p=b % p) (k:c % p=d % p):a*c % p=b*d % p:=by rw [Nat.mul_mod,h,k, <-Nat.mul_mod]
theorem yyi {p a b:Nat} (h:a % p=b % p) (n:Nat):a ^ n % p=b ^ n % p:=by rw [Nat.pow_mod,h, <-Nat.pow_mod]
theorem zju {p a b c d:Nat} (hc:c*d % p=1 % p) (h:a*c % p=b*c % p):a % p=b % p:=by
 have h1:a*c*d % p=b*c*d % p:=ytl h rfl;have h2:∀x,x*c*d % p=x % p:=fun x=>by
  rw [Nat.mul_assoc];have:=ytl (p:=p) (a:=x) (b:=x) rfl hc
  rwa [Nat.mul_one] at this
 rwa [h2,h2] at h1
structure Elm (p q b:Nat):Prop where
 one:b ^ q % p=1 % p
theorem Elm.red {p q b:Nat} (h:Elm p q b) (e:Nat):b ^ e % p=b ^ (e % q) % p:=by
 have h1:b ^ (q*(e / q)) % p=1 % p:=by
  rw [Nat.pow_mul];have:=yyi h.one (e / q)
  rwa [Nat.one_pow] at this
 have h2:b ^ e=b ^ (q*(e / q))*b ^ (e % q):=by rw [<-Nat.pow_add,Nat.div_add_mod]
 rw [h2];have:=ytl h1 (rfl:b ^ (e % q) % p=b ^ (e % q) % p)
 rwa [Nat.one_mul] at this
theorem Elm.congr {p q b:Nat} (h:Elm p q b) {e f:Nat} (he:e % q=f % q):b ^ e % p=b ^ f % p:=by rw [h.red e,he, <-h.red f]
theorem Elm.inv {p q b:Nat} (h:Elm p q b) (hq:0<q) (e:Nat):b ^ e*b ^ (q-e % q) % p=1 % p:=by
 rw [<-Nat.pow_add,h.congr (f:=0) ?_,Nat.pow_zero];have h1:=Nat.mod_lt e hq;have h2:=Nat.div_add_mod e q;have h3:e+(q-e % q)=q+q*(e / q):=by omega
 rw [h3,Nat.add_mul_mod_self_left,Nat.mod_self,Nat.zero_mod]
theorem Elm.inj {p q b:Nat} (hq:PrimeN q) (h:Elm p q b) (hb:b % p≠1 % p) {e f:Nat} (he:e<q) (hf:f<q) (hef:b ^ e % p=b ^ f % p):e=f:=by
 have key:∀e f,e<f->f<q->b ^ e % p=b ^ f % p->False:=fun e f hlt hf hef=>by
  have h1:b ^ (f-e) % p=1 % p:=by
   refine zju (h.inv (by omega) e) ?_;rw [<-Nat.pow_add,Nat.one_mul,show f-e+e=f by omega];exact hef.symm
  have h2:=zuf hq (a:=f-e) (by rw [Nat.mod_eq_of_lt (by omega)];omega);have h3:b ^ ((f-e) ^ (q-2)*(f-e)) % p=b ^ 1 % p:=h.congr (by rw [h2,Nat.mod_eq_of_lt (by omega)]);rw [Nat.mul_comm,Nat.pow_mul,yyi h1,Nat.one_pow,Nat.pow_one] at h3;exact hb h3.symm
 rcases Nat.lt_trichotomy e f with h1|h1|h1
 ·exact (key e f h1 hf hef).elim
 ·exact h1
 ·exact (key f e h1 he hef.symm).elim
def yje (q:Nat):Nat->Nat->Bool
 |0,lo=>Nat.ble lo 1|| !(Nat.beq (q % lo) 0)
 |k+1,lo=>yje q k lo&&yje q k (lo+2 ^ k)
theorem zmf (q:Nat):∀k lo,yje q k lo=true->∀d,lo<=d->d<lo+2 ^ k->2<=d->¬d ∣ q
 |0,lo,h,d,h1,h2,h3,hd=>by
  have e:d=lo:=by omega
  subst e;have hm:=Nat.mod_eq_zero_of_dvd hd;unfold yje at h;rw [hm] at h;rw [Bool.or_eq_true] at h;rcases h with h|h
  ·have:=Nat.le_of_ble_eq_true h
   omega
  ·exact absurd h (by decide)
 |k+1,lo,h,d,h1,h2,h3,hd=>by
  unfold yje at h;rw [Bool.and_eq_true] at h;rw [Nat.pow_succ] at h2;rcases Nat.lt_or_ge d (lo+2 ^ k) with hlt|hge
  ·exact zmf q k lo h.1 d h1 hlt h3 hd
  ·exact zmf q k _ h.2 d hge (by omega) h3 hd
theorem zsp {q k:Nat} (h2:2<=q) (h:yje q k 0=true) (hk:q<2 ^ k*2 ^ k):PrimeN q:=by
 have nd:∀d,2<=d->d<q->¬d ∣ q:=fun d hd hlt hdv=>by
  obtain ⟨c,hc⟩:=hdv;have hs:=zmf q k 0 h;rcases Nat.lt_or_ge d (2 ^ k) with h1|h1
  ·exact hs d (by omega) (by omega) hd ⟨c,hc⟩
  ·rcases Nat.lt_or_ge c (2 ^ k) with h3|h3
   ·have hc2:2<=c:=by
     rcases c with _|_|c
     ·omega
     ·omega
     ·omega
    exact hs c (by omega) (by omega) hc2 ⟨d,by rw [hc,Nat.mul_comm]⟩
   ·have:=Nat.mul_le_mul h1 h3
    omega
 refine ⟨h2,fun k h0 h1=>?_⟩;have hg1:=Nat.gcd_dvd_left q k;have hg2:=Nat.gcd_dvd_right q k;have hg3:=Nat.le_of_dvd h0 hg2;have hg0:0<Nat.gcd q k:=Nat.gcd_pos_of_pos_right _ h0;unfold Nat.Coprime;rcases Nat.lt_or_ge (Nat.gcd q k) 2 with h3|h3
 ·omega
 ·exact (nd _ h3 (by omega) hg1).elim
theorem zrh:PrimeN 1073741789:=zsp (k:=15) (by decide) (by kernel_rfl) (by decide)
theorem ynx (b e:Nat) (he:e<18446744073709551616) (h:zlm b e=1):Elm 2147483579 e b:=⟨by
 rw [zgv he] at h
 exact h⟩
theorem elm4:Elm 2147483579 1073741789 4:=ynx 4 1073741789 (by decide) (by kernel_rfl)
theorem elm9:Elm 2147483579 1073741789 9:=ynx 9 1073741789 (by decide) (by kernel_rfl)
theorem yzj:(4:Nat) % 2147483579≠1 % 2147483579:=by decide
theorem xac:(9:Nat) % 2147483579≠1 % 2147483579:=by decide
theorem yry {n m r:Nat} (hn:n<1073741789) (hm:m<1073741789) (h:4 ^ n*9 ^ r % 2147483579=4 ^ m*9 ^ r % 2147483579):n=m:=
 elm4.inj zrh yzj hn hm (zju (elm9.inv (by decide) r) h)
theorem yjf {n r s:Nat} (hr:r<1073741789) (hs:s<1073741789) (h:4 ^ n*9 ^ r % 2147483579=4 ^ n*9 ^ s % 2147483579):r=s:=by
 rw [Nat.mul_comm (4 ^ n),Nat.mul_comm (4 ^ n)] at h;exact elm9.inj zrh xac hr hs (zju (elm4.inv (by decide) n) h)
def yny (q n:Nat):Nat:=n ^ (q-2) % q
theorem yrz {q n:Nat} (hq:PrimeN q) (h:n % q≠0):n*yny q n % q=1:=by
 have e:=zuf hq h;rw [Nat.mul_comm] at e;unfold yny;rw [Nat.mul_mod,Nat.mod_mod, <-Nat.mul_mod];exact e
theorem yvm {p q g k n m r s:Nat} (hq:PrimeN q) (hg:Elm p q g) (hk:Elm p q k) (hk1:g % p≠1 % p) (hn:n<q) (hm:m<q) (hr:r<q) (hs:s<q)
  (h:g ^ n*k ^ r % p=g ^ m*k ^ s % p) (hne:n≠m):r≠s/\g ^ ((n+q-m) % q*yny q ((s+q-r) % q) % q) % p=k % p:=by
 have h2:=hq.two;have hrs:r≠s:=fun e=>by
  subst e;exact hne (hg.inj hq hk1 hn hm (zju (hk.inv (by omega) r) h))
 refine ⟨hrs,?_⟩;have hE:(s+q-r) % q≠0:=by
  rcases Nat.lt_or_ge s r with h1|h1
  ·rw [Nat.mod_eq_of_lt (by omega)]
   omega
  ·rw [show s+q-r=(s-r)+q by omega,Nat.add_mod_right,Nat.mod_eq_of_lt (by omega)]
   omega
 have hI:=yrz hq (n:=(s+q-r) % q) (by rw [Nat.mod_mod];exact hE);generalize yny q ((s+q-r) % q)=I at hI ⊢;have e1:g ^ ((n+q-m) % q) % p=k ^ ((s+q-r) % q) % p:=by
  rw [<-hg.red, <-hk.red];refine zju (hk.inv (by omega) r) (zju (hg.inv (by omega) m) ?_);have a1:g ^ (n+q-m)*k ^ r*g ^ m % p=g ^ n*k ^ r % p:=by
   rw [Nat.mul_right_comm, <-Nat.pow_add,show n+q-m+m=n+q by omega];exact ytl (hg.congr (Nat.add_mod_right n q)) rfl
  have a2:k ^ (s+q-r)*k ^ r*g ^ m % p=g ^ m*k ^ s % p:=by
   rw [<-Nat.pow_add,show s+q-r+r=s+q by omega,Nat.mul_comm];exact ytl rfl (hk.congr (Nat.add_mod_right s q))
  rw [a1,a2,h]
 rw [<-hg.red,Nat.pow_mul,yyi e1, <-Nat.pow_mul,hk.congr (f:=1) (by rw [hI,Nat.mod_eq_of_lt (by omega)]),Nat.pow_one]
theorem zri (c:Int):ziq c<1073741789:=by unfold ziq;omega
theorem zgb (c b:Int) (hb:b<1073741789):zkn c b=4 ^ ziq c*9 ^ b.toNat % 2147483579:=by
 have hv:=zri c;unfold zkn;rw [zgv (by omega),zgv (by omega)];exact (Nat.mul_mod _ _ _).symm
theorem ydk (c b:Int):zkn c b<2147483579:=Nat.mod_lt _ (by decide)
theorem ygg {c e:Int} (h1: -500000000<=c/\c<=500000000) (h2: -500000000<=e/\e<=500000000) (h:ziq c=ziq e):c=e:=by
 unfold ziq at h;omega
theorem zrj {m c e b:Int} (h1:xl m c b=true) (h2:xl m e b=true):c=e:=by
 unfold xl at h1 h2;simp only [Bool.and_eq_true,zbc,decide_eq_true_eq] at h1 h2;obtain ⟨⟨a1,a2,a3,a4⟩,a5⟩:=h1;obtain ⟨⟨b1,b2,b3,b4⟩,b5⟩:=h2;rw [a5,zgb c b a4,zgb e b a4] at b5;exact ygg ⟨a1,a2⟩ ⟨b1,b2⟩ (yry (zri c) (zri e) (Int.ofNat_inj.1 b5))
theorem zrk {m c b d:Int} (h1:xl m c b=true) (h2:xl m c d=true):b=d:=by
 unfold xl at h1 h2;simp only [Bool.and_eq_true,zbc,decide_eq_true_eq] at h1 h2;obtain ⟨⟨a1,a2,a3,a4⟩,a5⟩:=h1;obtain ⟨⟨b1,b2,b3,b4⟩,b5⟩:=h2;rw [a5,zgb c b a4,zgb c d b4] at b5;have:=yjf (r:=b.toNat) (s:=d.toNat) (by omega) (by omega) (Int.ofNat_inj.1 b5);omega
theorem zzx {m m' c b:Int} (h1:xl m c b=true) (h2:xl m' c b=true):m=m':=by
 unfold xl at h1 h2;simp only [Bool.and_eq_true,decide_eq_true_eq] at h1 h2;rw [h1.2,h2.2]
theorem zwk {x:Int} (h:zaq x=true):Elm 2147483579 1073741789 x.toNat:=by
 unfold zaq at h;simp only [Bool.and_eq_true,decide_eq_true_eq] at h;exact ynx _ _ (by decide) h.2
theorem ydl {p q a b:Nat} (ha:Elm p q a) (hb:Elm p q b):Elm p q (a*b):=⟨by
 rw [Nat.mul_pow];have:=ytl ha.one hb.one
 rwa [Nat.one_mul] at this⟩
theorem ynz {p q a:Nat} (ha:Elm p q a) (n:Nat):Elm p q (a ^ n):=⟨by
 rw [<-Nat.pow_mul,Nat.mul_comm,Nat.pow_mul];have:=yyi ha.one n
 rwa [Nat.one_pow] at this⟩
theorem yvn {p q a:Nat} (ha:Elm p q a):Elm p q (a % p):=⟨by
 rw [<-Nat.pow_mod]
 exact ha.one⟩
theorem ydm (p q:Nat):Elm p q 1:=⟨by rw [Nat.one_pow]⟩
theorem Elm.cancel {p q a b c:Nat} (hq:0<q) (hc:Elm p q c) (h:a*c % p=b*c % p):a % p=b % p:=by
 refine zju (d:=c ^ (q-1)) ?_ h;rw [<-Nat.pow_succ',show Nat.succ (q-1)=q by omega];exact hc.one
theorem yxt (b e:Nat) (he:e<18446744073709551616) (h:Elm 2147483579 e b):zlm b e=1:=by
 rw [zgv he];exact h.one
theorem ysa {x:Nat} (h:Elm 2147483579 1073741789 x) (hx:x<2147483579):zaq (x:Int)=true:=by
 have h1:zlm x 1073741789=1:=yxt x 1073741789 (by decide) h;have h0:0<x:=by
  rcases Nat.eq_zero_or_pos x with h2|h2
  ·subst h2
   exact absurd h1 (by decide+kernel)
  ·exact h2
 unfold zaq;rw [Int.toNat_natCast,h1];simp;omega
theorem yvo (c b:Int) (hb:b<1073741789):Elm 2147483579 1073741789 (zkn c b):=by
 rw [zgb c b hb];exact yvn (ydl (ynz elm4 _) (ynz elm9 _))
theorem ysb (c b:Int) (hb:b<1073741789):zaq (zkn c b:Int)=true:=ysa (yvo c b hb) (ydk c b)
theorem yjg (c b:Nat) (a:Nat):chainN a (chainN b c)=chainN (a+b) c:=by
 induction a with
 |zero=>rw [zdn,Nat.zero_add]
 |succ a ih=>rw [zbe,ih,Nat.add_right_comm,zbe]
theorem yjh (l:List (Nat × Nat)):(leafS l).data.toList=l.flatMap fun x=>(zek (chainN (15-x.1) x.2)).data.toList:=by
 have key:∀(l:List (Nat × Nat)) (s:ByteArray),(l.foldl (fun s x=>s++zek (chainN (15-x.1) x.2)) s).data.toList=s.data.toList++l.flatMap fun x=>(zek (chainN (15-x.1) x.2)).data.toList:=by
  intro l
  induction l with
  |nil=>intro s;exact (List.append_nil _).symm
  |cons x l ih=>
   intro s;rw [List.foldl_cons,ih,List.flatMap_cons,ByteArray.data_append,Array.toList_append,List.append_assoc]
 exact key l _
theorem yoa {α:Type} (l:List Nat) (n:Nat) (g:Nat->α) (h:l.length=n):l.zip ((List.range n).map g)=(List.range n).map fun k=>(l.getD k 0,g k):=by
 apply List.ext_getElem?
 intro k;rcases Nat.lt_or_ge k n with hk|hk
 ·have hkl:k<l.length:=by omega
  have e:(l.zip ((List.range n).map g))[k]?=some (l[k]'hkl,g k):=List.getElem?_zip_eq_some.2 ⟨List.getElem?_eq_getElem hkl,by rw [List.getElem?_map,List.getElem?_range hk];rfl⟩;rw [e,List.getElem?_map,List.getElem?_range hk,Option.map_some,List.getD_eq_getElem?_getD,List.getElem?_eq_getElem hkl,Option.getD_some]
 ·rw [List.getElem?_eq_none (by simp;omega),List.getElem?_eq_none (by simp;omega)]
theorem yji (seed:ByteArray) (i:Nat) (text:ByteArray):leafS ((ztc text).zip (chainsN seed i text))=⟨(leafK seed i).toArray⟩:=by
 have hl:=zvr text;have hle:=ycd text;have e:(ztc text).zip (chainsN seed i text)=(List.range 18).map fun (k:Nat)=>((ztc text).getD k 0,chainN ((ztc text).getD k 0) (yfz seed i k)):=yoa _ 18 _ hl
 have h:(leafS ((ztc text).zip (chainsN seed i text))).data.toList=leafK seed i:=by
  rw [yjh,e,List.flatMap_map];unfold leafK;generalize ztc text=fg at hl hle;generalize List.range 18=rg
  congr 1
  funext k
  have hk:fg.getD k 0<=15:=by
   rw [List.getD_eq_getElem?_getD];cases hg:fg[k]? with
   |none=>exact Nat.zero_le _
   |some x=>exact hle x (List.mem_of_getElem? hg)
  rw [yjg,Nat.sub_add_cancel hk]
 rw [<-h]
theorem ydn (seed:ByteArray) {h i:Nat} (hi:i<2 ^ h):(leavesN seed h).getD i ⟨#[]⟩=⟨(leafK seed i).toArray⟩:=by
 unfold leavesN;rw [List.getD_eq_getElem?_getD,List.getElem?_map,List.getElem?_range hi];rfl
theorem yvp (seed:ByteArray) (h i:Nat) (text:ByteArray) (hh:h<=8) (hi:i<2 ^ h):signedOK (keyN seed h) h text (signN seed h i text)=true:=by
 have hp:2 ^ h<=2 ^ 8:=Nat.pow_le_pow_right (by decide) hh;have hc:(chainsN seed i text).length=18:=by simp [chainsN]
 have hl:=zrf (leavesN seed h) i (by rw [zam];exact hi) (by rw [zam];omega);rw [ydn seed hi,zam] at hl;unfold signedOK signN;simp only [Int.toNat_natCast,hc,decide_true,Bool.and_true];rw [yji,decide_eq_true (by omega),decide_eq_true (by omega)];exact hl
def zjv (fl:Nat->Bool):Nat->List Int->Nat
 |_,[]=>1
 |i,c::r=>(if fl i then 1 else c.toNat)*zjv fl (i+1) r
theorem zhn (l:List Shw):∀(cs:List Int) (i p:Nat),p<2147483579->zdo l i cs p=p*zjv (zaj l) i cs % 2147483579
 |[],_,p,h=>by rw [zdo,zjv,Nat.mul_one,Nat.mod_eq_of_lt h]
 |c::r,i,p,h=>by
  rw [zdo,zjv];split
  ·rw [zhn l r _ _ h,Nat.one_mul]
  ·rw [zhn l r _ _ (Nat.mod_lt _ (by decide)),Nat.mod_mul_mod,Nat.mul_assoc]
theorem ygh (c:Int):(ziq c:Int)=c % 1073741789:=by
 unfold ziq;omega
theorem zrl (fl:Nat->Bool):∀(rs:List Rw) (bs:List Int) (mk:List Bool) (i:Nat),bs.length=rs.length->mk.length=rs.length->(∀k,k<rs.length->mk[k]?=some (!fl (i+k)))->(∀b∈bs,0<=b/\b<1073741789)->
  ∃A B:Nat,zjv fl i (zoh rs bs) % 2147483579=4 ^ A*9 ^ B % 2147483579/\(A:Int) % 1073741789=qd (rs.map Rw.cents) mk % 1073741789/\(B:Int)=qd bs mk
 |[],bs,mk,i,_,_,_,_=>⟨0,0,rfl,by simp [qd],by cases bs<;>cases mk<;>simp_all [qd]⟩
 |r::rs,[],mk,i,h,_,_,_=>by simp at h
 |r::rs,b::bs,[],i,_,h,_,_=>by simp at h
 |r::rs,b::bs,m::mk,i,h1,h2,h3,h4=>by
  have hb:=h4 b (by simp)
  obtain ⟨A,B,e1,e2,e3⟩:=zrl fl rs bs mk (i+1) (by simpa using h1) (by simpa using h2) (fun k hk=>by
   have:=h3 (k+1) (by rw [List.length_cons];omega);rw [List.getElem?_cons_succ,show i+(k+1)=i+1+k by omega] at this
   exact this) (fun b hb=>h4 b (by simp [hb]))
  have hm:m= !fl i:=by
   have:=h3 0 (by simp);simpa using this
  rw [zoh,zjv,List.map_cons,qd,qd];cases hf:fl i with
  |true=>
   rw [hf] at hm;subst hm;refine ⟨A,B,?_,?_,?_⟩
   ·simp only [if_true,Nat.one_mul]
    exact e1
   ·simp only [Bool.not_true,Bool.false_eq_true,if_false,Int.zero_add]
    exact e2
   ·simp only [Bool.not_true,Bool.false_eq_true,if_false,Int.zero_add]
    exact e3
  |false=>
   rw [hf] at hm;subst hm;refine ⟨ziq r.cents+A,b.toNat+B,?_,?_,?_⟩
   ·simp only [Bool.false_eq_true,if_false,Int.toNat_natCast]
    have e4:zua r b % 2147483579=4 ^ ziq r.cents*9 ^ b.toNat % 2147483579:=by
     show zkn r.cents b % _=_;rw [zgb _ _ hb.2,Nat.mod_mod]
    rw [ytl e4 e1,Nat.pow_add,Nat.pow_add]
    congr 1
    simp only [Nat.mul_assoc,Nat.mul_left_comm,Nat.mul_comm]
   ·have:=ygh r.cents
    simp only [Bool.not_false,if_true];rw [Int.natCast_add];omega
   ·simp only [Bool.not_false,if_true]
    omega
theorem ygi:∀(rs:List Rw) (bs:List Int),bs.length=rs.length->∀k,k<rs.length->(zoh rs bs).getD k 0=zkn (rs.getD k ⟨⟨#[]⟩,0,⟨#[]⟩⟩).cents (bs.getD k 0)
 |[],_,_,k,hk=>absurd hk (Nat.not_lt_zero k)
 |_::_,[],h,_,_=>by simp at h
 |r::rs,b::bs,_,0,_=>rfl
 |r::rs,b::bs,h,k+1,hk=>by
  have:=ygi rs bs (by simpa using h) k (by simpa using hk);simpa [zoh] using this
theorem zzy:∀(rs:List Rw) (bs:List Int),bs.length=rs.length->∀k,k<rs.length->(zaw rs bs).getD k ⟨#[]⟩=qk (rs.getD k ⟨⟨#[]⟩,0,⟨#[]⟩⟩).label ((zoh rs bs).getD k 0) (rs.getD k ⟨⟨#[]⟩,0,⟨#[]⟩⟩).reason
 |[],_,_,k,hk=>absurd hk (Nat.not_lt_zero k)
 |_::_,[],h,_,_=>by simp at h
 |r::rs,b::bs,_,0,_=>rfl
 |r::rs,b::bs,h,k+1,hk=>by
  have:=zzy rs bs (by simpa using h) k (by simpa using hk);simpa [zaw,zoh] using this
theorem zzz:∀(rs:List Rw) (bs:List Int),(∀b∈bs,0<=b/\b<1073741789)->∀c∈zoh rs bs,zaq c=true
 |[],_,_,c,h=>by cases h
 |_::_,[],_,c,h=>by cases h
 |r::rs,b::bs,hb,c,h=>by
  rcases List.mem_cons.1 h with rfl|h
  ·exact ysb r.cents b (hb b (by simp)).2
  ·exact zzz rs bs (fun b h=>hb b (by simp [h])) c h
theorem yob (d:Disc):zir d=zgi spT (ziy d.person d.month d.root d.commit):=by
 obtain ⟨person,month,root,commit,shown,hidden,blind,sig⟩:=d;show commit.foldl (fun s c=>s++(⟨#[32]⟩++wu c)) (⟨#[112,97,121,115,108,105,112,32]⟩++person++⟨#[32]⟩++wu month++⟨#[32]⟩++zek root)=
  ([person,wu month,zek root]++commit.map wu).foldl (fun s y=>s++spT++y) paysT
 rw [List.foldl_append,List.foldl_map];have h1:(fun (s:ByteArray) (c:Int)=>s++(⟨#[32]⟩++wu c))=fun s c=>s++spT++wu c:=by
  funext s c
  exact (ByteArray.append_assoc).symm
 rw [h1]
 congr 1
theorem ygj {s:Slip} (hg:SlipGood s) (d:Disc) (hr:d.root=s.root) (hc:d.commit=zoh s.rows s.blinds):∀(l:List Int) (last:Int),l.Pairwise (· < ·)->(∀x∈l,last<x/\0<=x/\x<s.rows.length)->shownOK d last (l.map (showRow s))=true
 |[],_,_,_=>rfl
 |x::l,last,hp,h=>by
  have hx:=h x (by simp);rw [List.pairwise_cons] at hp;have ih:=ygj hg d hr hc l x hp.2 (fun y hy=>⟨hp.1 y hy,(h y (by simp [hy])).2⟩);have hlen:d.commit.length=s.rows.length:=by rw [hc];exact zoi _ _ hg.blinds
  have hk:x.toNat<s.rows.length:=by omega
  rw [List.map_cons,shownOK];have hi:(showRow s x).index=x:=rfl;rw [hi,ih,Bool.and_true];unfold shwOK;rw [hi,hlen,decide_eq_true hx.1,decide_eq_true hx.2.2,Bool.true_and,Bool.true_and,Bool.and_eq_true];have e1:cAt d x=(zkn (showRow s x).cents (showRow s x).blind:Nat):=by
   unfold cAt;rw [hc,ygi _ _ hg.blinds _ hk];rfl
  have hcm:∀r∈s.rows,r=r:=fun _ _=>rfl
  have hmem:s.rows.getD x.toNat ⟨⟨#[]⟩,0,⟨#[]⟩⟩∈s.rows:=by
   rw [List.getD_eq_getElem?_getD,List.getElem?_eq_getElem hk];exact List.getElem_mem hk
  have hbm:s.blinds.getD x.toNat 0∈s.blinds:=by
   rw [List.getD_eq_getElem?_getD,List.getElem?_eq_getElem (by rw [hg.blinds];exact hk)];exact List.getElem_mem _
  refine ⟨?_,?_⟩
  ·unfold xl
   rw [e1,Bool.and_eq_true,zbc];have b1:=hg.cents _ hmem;have b2:=hg.blind _ hbm;exact ⟨⟨b1.1,b1.2,b2.1,b2.2⟩,by simp⟩
  ·have h1:=zrf (zaw s.rows s.blinds) x.toNat (by rw [zdt _ _ hg.blinds];exact hk) (by rw [zdt _ _ hg.blinds];exact hg.rows.2)
   rw [hg.root,zzy _ _ hg.blinds _ hk,zdt _ _ hg.blinds] at h1;have e2:cAt d x=(zoh s.rows s.blinds).getD x.toNat 0:=by
    unfold cAt;rw [hc]
   have e3:(x.toNat:Int)=x:=by omega
   rw [e3] at h1;rw [hr,e2];exact h1
theorem ydo (s:Slip) (l:List Int) (i:Nat):zaj (l.map (showRow s)) i=decide ((i:Int)∈l):=by
 unfold zaj;rw [Bool.eq_iff_iff];simp only [List.any_map,List.any_eq_true,Function.comp,decide_eq_true_eq];constructor
 ·rintro ⟨x,hx,he⟩
  have he:x=i:=he;rw [<-he];exact hx
 ·intro h
  exact ⟨_,h,rfl⟩
theorem yvq {s:Slip} (hg:SlipGood s) {sel:List Int} (hsel:zjs s.rows.length none sel=true) (seed:ByteArray) {h i:Nat} (hh:h<=8) (hi:i<2 ^ h)
  (hsum: -500000000<=qd (s.rows.map Rw.cents) (znq s.rows.length sel)/\qd (s.rows.map Rw.cents) (znq s.rows.length sel)<=500000000):accOK (keyN seed h) h (showN s sel seed h i)=true:=by
 obtain ⟨p1,p2,_⟩:=zld _ _ _ hsel;have hcl:=zoi _ _ hg.blinds;have h1:zgh (showN s sel seed h i)=true:=by
  unfold zgh showN;simp only [hg.name,hcl];rw [decide_eq_true hg.month.1,decide_eq_true hg.month.2,decide_eq_true hg.rows.1,decide_eq_true hg.rows.2];simp only [Bool.true_and,List.all_eq_true];exact zzz _ _ hg.blind
 have h2:shownOK (showN s sel seed h i) (-1) (showN s sel seed h i).shown=true:=ygj hg _ rfl rfl sel (-1) p1 (fun x hx=>⟨by have:=p2 x hx;omega,p2 x hx⟩);have h3:signedOK (keyN seed h) h (zir (showN s sel seed h i)) (showN s sel seed h i).sig=true:=by
  rw [yob];exact yvp seed h i _ hh hi
 have hfl:∀k,k<s.rows.length->(znq s.rows.length sel)[k]?=some (!zaj (sel.map (showRow s)) (0+k)):=fun k hk=>by
  unfold znq;rw [List.getElem?_map,List.getElem?_range hk,Nat.zero_add,ydo];rfl
 obtain ⟨A,B,e1,e2,e3⟩:=zrl (zaj (sel.map (showRow s))) s.rows s.blinds (znq s.rows.length sel) 0 hg.blinds (by simp [znq]) hfl hg.blind;have h4:xl (zdo (showN s sel seed h i).shown 0 (showN s sel seed h i).commit 1) (showN s sel seed h i).hidden (showN s sel seed h i).blind=true:=by
  show xl (zdo (sel.map (showRow s)) 0 (zoh s.rows s.blinds) 1) (qd (s.rows.map Rw.cents) (znq s.rows.length sel)) ((qd s.blinds (znq s.rows.length sel)).tmod 1073741789)=true;rw [zhn _ _ _ _ (by decide),Nat.one_mul,e1, <-e3];generalize qd (s.rows.map Rw.cents) (znq s.rows.length sel)=hs1 at hsum e2 ⊢;have e4:(B:Int).tmod 1073741789=((B % 1073741789:Nat):Int):=by
   rw [Int.tmod_eq_emod_of_nonneg (by omega)];omega
  have hB:B % 1073741789<1073741789:=Nat.mod_lt _ (by decide);unfold xl;rw [e4,Bool.and_eq_true,zbc];refine ⟨⟨hsum.1,hsum.2,by omega,by omega⟩,?_⟩;rw [decide_eq_true_eq,zgb _ _ (by omega),Int.toNat_natCast];have e5:A % 1073741789=ziq hs1 % 1073741789:=by
   have:=ygh hs1;omega
  rw [ytl (elm4.congr e5) (elm9.red B)]
 unfold accOK;rw [h1,h2,h3,h4];rfl
theorem yjj {root h:Nat} {idx:Int} {leaf:ByteArray} {path:List Frk} (hl:qw root (2 ^ h:Nat) idx leaf path=true):0<=idx/\idx<(2 ^ h:Nat)/\path.length=h:=by
 unfold qw at hl;simp only [Bool.and_eq_true,decide_eq_true_eq] at hl;obtain ⟨⟨⟨_,h3⟩,h4⟩,h5⟩:=hl;refine ⟨h3,h4,ztd 12 h idx.toNat path (qs leaf) root (by omega) ?_⟩;rw [Int.toNat_natCast] at h5;exact h5
theorem zug {key:Nat} {height:Int} {text:ByteArray} {s:Sg} (h:signedOK key height text s=true):0<=height/\height<=8/\0<=s.index/\s.index<(2 ^ height.toNat:Nat)/\s.path.length=height.toNat:=by
 unfold signedOK at h;simp only [Bool.and_eq_true,decide_eq_true_eq] at h;obtain ⟨⟨⟨h1,h2⟩,_⟩,h4⟩:=h;exact ⟨h1,h2,yjj h4⟩
theorem qt {key:Nat} {height:Int} {d:Disc} (h:accOK key height d=true):zgh d=true/\shownOK d (-1) d.shown=true/\xl (zdo d.shown 0 d.commit 1) d.hidden d.blind=true/\signedOK key height (zir d) d.sig=true:=by
 unfold accOK at h;simp only [Bool.and_eq_true] at h;exact ⟨h.1.1.1,h.1.1.2,h.1.2,h.2⟩
theorem ysc {key key':Nat} {height h':Int} {d:Disc} (h:accOK key height d=true) (hne:h'≠height):accOK key' h' d=false:=by
 cases hb:accOK key' h' d with
 |false=>rfl
 |true=>
  obtain ⟨a1,_,_,_,a2⟩:=zug (qt h).2.2.2;obtain ⟨b1,_,_,_,b2⟩:=zug (qt hb).2.2.2;omega
structure AccIn (d:Disc):Prop where
 name:qj d.person=true
 month:0<=d.month/\d.month<=1199
 len:1<=d.commit.length/\d.commit.length<=1024
 elem:∀c∈d.commit,zaq c=true
theorem zle (d:Disc):zgh d=true ↔ AccIn d:=by
 unfold zgh;simp only [Bool.and_eq_true,decide_eq_true_eq,List.all_eq_true];exact ⟨fun h=>⟨h.1.1.1.1.1,⟨h.1.1.1.1.2,h.1.1.1.2⟩,⟨h.1.1.2,h.1.2⟩,h.2⟩,fun h=>⟨⟨⟨⟨⟨h.name,h.month.1⟩,h.month.2⟩,h.len.1⟩,h.len.2⟩,h.elem⟩⟩
theorem zjw (d:Disc):∀(l:List Shw) (last:Int),shownOK d last l=true ↔ (∀s∈l,last<s.index/\s.index<d.commit.length/\xl (cAt d s.index) s.cents s.blind=true/\qw d.root d.commit.length s.index (qk s.label (cAt d s.index) s.reason) s.path=true)/\l.Pairwise (fun x y=>x.index<y.index)
 |[],last=>by simp [shownOK]
 |s::l,last=>by
  rw [shownOK,Bool.and_eq_true,zjw d l s.index,List.pairwise_cons];unfold shwOK;simp only [Bool.and_eq_true,decide_eq_true_eq];constructor
  ·rintro ⟨⟨⟨⟨h1,h2⟩,h3⟩,h4⟩,h5,h6⟩
   refine ⟨fun x hx=>?_,fun x hx=>(h5 x hx).1,h6⟩;rcases List.mem_cons.1 hx with rfl|hx
   ·exact ⟨h1,h2,h3,h4⟩
   ·have:=h5 x hx
    exact ⟨by omega,this.2⟩
  ·rintro ⟨h1,h2,h3⟩
   have h4:=h1 s (by simp);exact ⟨⟨⟨⟨h4.1,h4.2.1⟩,h4.2.2.1⟩,h4.2.2.2⟩,fun x hx=>⟨h2 x hx,(h1 x (by simp [hx])).2⟩,h3⟩
structure RowIn (d:Disc) (s:Shw):Prop where
 idx:0<=s.index/\s.index<d.commit.length
 opens:xl (cAt d s.index) s.cents s.blind=true
 leads:qw d.root d.commit.length s.index (qk s.label (cAt d s.index) s.reason) s.path=true
theorem zdv {key:Nat} {height:Int} {d:Disc} (h:accOK key height d=true) {s:Shw} (hs:s∈d.shown):RowIn d s:=by
 have h1:=((zjw d _ _).1 (qt h).2.1).1 s hs;exact ⟨⟨by omega,h1.2.1⟩,h1.2.2.1,h1.2.2.2⟩
theorem ysd {key:Nat} {height:Int} {d:Disc} (h:accOK key height d=true):d.shown.Pairwise (fun x y=>x.index<y.index):=((zjw d _ _).1 (qt h).2.1).2
theorem yaa (fl:Nat->Bool):∀(cs:List Int) (i:Nat),(∀c∈cs,zaq c=true)->Elm 2147483579 1073741789 (zjv fl i cs)
 |[],_,_=>ydm _ _
 |c::cs,i,h=>by
  rw [zjv];refine ydl ?_ (yaa fl cs (i+1) (fun c hc=>h c (by simp [hc])));split
  ·exact ydm _ _
  ·exact zwk (h c (by simp))
theorem yab (fl:Nat->Bool):∀(cs:List Int) (i k:Nat) (n:Int),k<cs.length->fl (i+k)=false->(∀c∈cs,zaq c=true)->
  ∃P,Elm 2147483579 1073741789 P/\zjv fl i cs=P*(cs.getD k 0).toNat/\zjv fl i (cs.set k n)=P*n.toNat
 |[],_,_,_,hk,_,_=>by simp at hk
 |c::cs,i,0,n,_,hf,h=>by
  rw [Nat.add_zero] at hf;refine ⟨zjv fl (i+1) cs,yaa fl cs _ (fun c hc=>h c (by simp [hc])),?_,?_⟩
  ·rw [zjv,hf]
   simp only [Bool.false_eq_true,if_false];exact Nat.mul_comm _ _
  ·rw [List.set_cons_zero,zjv,hf]
   simp only [Bool.false_eq_true,if_false];exact Nat.mul_comm _ _
 |c::cs,i,k+1,n,hk,hf,h=>by
  obtain ⟨P,h1,h2,h3⟩:=yab fl cs (i+1) k n (by simpa using hk) (by rw [<-hf];congr 1;omega) (fun c hc=>h c (by simp [hc]));refine ⟨(if fl i then 1 else c.toNat)*P,ydl ?_ h1,?_,?_⟩
  ·split
   ·exact ydm _ _
   ·exact zwk (h c (by simp))
  ·rw [zjv,h2,List.getD_cons_succ,Nat.mul_assoc]
  ·rw [List.set_cons_succ,zjv,h3,Nat.mul_assoc]
theorem zmg {key:Nat} {height:Int} {d:Disc} (h:accOK key height d=true->False):accOK key height d=false:=by
 cases hb:accOK key height d with
 |false=>rfl
 |true=>exact (h hb).elim
theorem zlf {key:Nat} {height:Int} {d:Disc} (h:accOK key height d=true) {n:Int} (hn:n≠d.hidden):accOK key height {d with hidden:=n}=false:=
 zmg fun hb=>hn (zrj (qt hb).2.2.1 (qt h).2.2.1)
theorem yac {key:Nat} {height:Int} {d:Disc} (h:accOK key height d=true) {n:Int} (hn:n≠d.blind):accOK key height {d with blind:=n}=false:=
 zmg fun hb=>hn (zrk (qt hb).2.2.1 (qt h).2.2.1)
theorem yjk {key:Nat} {height:Int} {d:Disc} (h:accOK key height d=true) {k:Nat} (hk:k<d.commit.length) {n:Int} (hn:n≠d.commit.getD k 0):accOK key height {d with commit:=d.commit.set k n}=false:=by
 refine zmg fun hb=>hn ?_
 have a1:=(zle _).1 (qt h).1;have b1:=(zle _).1 (qt hb).1;have he:zaq n=true:=b1.elem n (List.mem_set hk n);have hc:zaq (d.commit.getD k 0)=true:=by
  rw [List.getD_eq_getElem?_getD,List.getElem?_eq_getElem hk];exact a1.elem _ (List.getElem_mem hk)
 have hr1:=zcf he;have hr2:=zcf hc;cases hf:zaj d.shown k with
 |true=>
  unfold zaj at hf;rw [List.any_eq_true] at hf;obtain ⟨s,hs,hi⟩:=hf;rw [decide_eq_true_eq] at hi;have r1:=(zdv h hs).opens;have r2:=(zdv hb hs).opens;have r3:=zzx r2 r1;unfold cAt at r3;rw [hi,Int.toNat_natCast] at r3;rw [<-r3];show n=(d.commit.set k n).getD k 0;rw [List.getD_eq_getElem?_getD,List.getElem?_set_self hk];rfl
 |false=>
  obtain ⟨P,h1,h2,h3⟩:=yab (zaj d.shown) d.commit 0 k n hk (by rw [Nat.zero_add];exact hf) a1.elem;have r1:=(qt h).2.2.1;have r2:xl (zdo d.shown 0 (d.commit.set k n) 1) d.hidden d.blind=true:=(qt hb).2.2.1;have r3:=Int.ofNat_inj.1 (zzx r2 r1);rw [zhn _ _ _ _ (by decide),zhn _ _ _ _ (by decide),Nat.one_mul,Nat.one_mul,h2,h3,Nat.mul_comm P,Nat.mul_comm P] at r3;have r4:=Elm.cancel (by decide) h1 r3;rw [Nat.mod_eq_of_lt (by omega),Nat.mod_eq_of_lt (by omega)] at r4;omega
theorem yse {p n:Nat} (e:((n:Int)*4) % (p:Int)=n):n*4 % p=n:=by
 have h:(((n*4 % p:Nat)):Int)=n:=by
  rw [Int.natCast_emod,Int.natCast_mul];exact e
 exact Int.ofNat_inj.1 h
theorem yoc {c:Int} (h:zaq c=true):(c*4) % 2147483579≠c:=by
 have hr:=zcf h;have hel:=zwk h;clear h;obtain ⟨n,rfl⟩:∃n:Nat,c=n:=⟨c.toNat,by omega⟩;have hn:n<2147483579:=by omega
 rw [Int.toNat_natCast] at hel;intro e;have e1:=yse (p:=2147483579) e;have h1:4*n % 2147483579=1*n % 2147483579:=by rw [Nat.mul_comm,e1,Nat.one_mul,Nat.mod_eq_of_lt hn]
 have h2:=@Elm.cancel 2147483579 1073741789 4 1 n (by decide) hel h1;exact yzj h2
theorem znf {l:List Shw} {i:Nat} (hi:i<l.length) (t:Shw):t∈l.set i t:=List.mem_set hi t
theorem yad {key:Nat} {height:Int} {d:Disc} (h:accOK key height d=true) {i:Nat} {s:Shw} (hs:d.shown[i]?=some s) {n:Int} (hn:n≠s.cents):accOK key height {d with shown:=d.shown.set i {s with cents:=n}}=false:=by
 refine zmg fun hb=>hn ?_
 have hi:i<d.shown.length:=by
  rcases Nat.lt_or_ge i d.shown.length with h|h
  ·exact h
  ·rw [List.getElem?_eq_none h] at hs
   cases hs
 have r1:=(zdv h (List.mem_of_getElem? hs)).opens;have r2:=(zdv hb (znf hi _)).opens;exact zrj r2 r1
theorem zwl {key:Nat} {height:Int} {d:Disc} (h:accOK key height d=true) {i:Nat} {s:Shw} (hs:d.shown[i]?=some s) {n:Int} (hn:n≠s.blind):accOK key height {d with shown:=d.shown.set i {s with blind:=n}}=false:=by
 refine zmg fun hb=>hn ?_
 have hi:i<d.shown.length:=by
  rcases Nat.lt_or_ge i d.shown.length with h|h
  ·exact h
  ·rw [List.getElem?_eq_none h] at hs
   cases hs
 have r1:=(zdv h (List.mem_of_getElem? hs)).opens;have r2:=(zdv hb (znf hi _)).opens;exact zrk r2 r1
theorem zjx {root:Nat} {size idx:Int} {leaf:ByteArray} {path:List Frk} (h:qw root size idx leaf path=true):1<=size/\size<=1024/\0<=idx/\idx<size/\climb 12 size.toNat idx.toNat path (qs leaf)=some root:=by
 unfold qw at h;simp only [Bool.and_eq_true,decide_eq_true_eq,and_assoc] at h;exact h
theorem ydp {key:Nat} {height:Int} {d:Disc} (h:accOK key height d=true) {s:Shw} (hs:s∈d.shown) {n:Nat} (hn:n≠d.root):accOK key height {d with root:=n}=false:=by
 refine zmg fun hb=>hn ?_
 have q2:qw n d.commit.length s.index (qk s.label (cAt d s.index) s.reason) s.path=true:=(zdv hb hs).leads;have r1:=(zjx (zdv h hs).leads).2.2.2.2;have r2:=(zjx q2).2.2.2.2;rw [r1] at r2;exact (Option.some.inj r2).symm
theorem zuh (n:Nat) (h:n<256):(UInt8.ofNat n).toNat=n:=by
 rw [UInt8.toNat_ofNat'];exact Nat.mod_eq_of_lt h
theorem zui:∀(f u:Nat),u<10 ^ (f+1)->∀c∈ycg f u,48<=c.toNat/\c.toNat<=57
 |0,u,h,c,hc=>by
  rw [ycg,List.mem_singleton] at hc;subst hc;rw [zuh _ (by omega)];omega
 |f+1,u,h,c,hc=>by
  rw [ycg] at hc;split at hc
  ·rw [List.mem_singleton] at hc
   subst hc;rw [zuh _ (by omega)];omega
  ·rcases List.mem_append.1 hc with hc|hc
   ·exact zui f (u / 10) (by rw [Nat.pow_succ] at h;omega) c hc
   ·rw [List.mem_singleton] at hc
    subst hc;rw [zuh _ (by omega)];omega
def yzr (l:List UInt8):Nat:=l.foldl (fun a c=>10*a+(c.toNat-48)) 0
theorem zho:∀(f u:Nat),u<10 ^ (f+1)->yzr (ycg f u)=u
 |0,u,h=>by
  show 10*0+((UInt8.ofNat (48+u)).toNat-48)=u;rw [zuh _ (by omega)];omega
 |f+1,u,h=>by
  rw [ycg];split
  ·show 10*0+((UInt8.ofNat (48+u)).toNat-48)=u
   rw [zuh _ (by omega)];omega
  ·have ih:=zho f (u / 10) (by rw [Nat.pow_succ] at h;omega)
   unfold yzr at ih ⊢;rw [List.foldl_append,ih];show 10*(u / 10)+((UInt8.ofNat (48+u % 10)).toNat-48)=u;rw [zuh _ (by omega)];omega
theorem yae {n:Int} (h:0<=n):(wu n).data.toList=ycg 19 n.toNat:=by
 unfold wu;rw [if_neg (by omega)]
theorem zwm {c:UInt8}:∀{a b x y:List UInt8},c ∉ a->c ∉ b->a++c::x=b++c::y->a=b/\x=y
 |[],[],x,y,_,_,h=>⟨rfl,by simpa using h⟩
 |[],e::b,x,y,_,h2,h=>by
  simp only [List.nil_append,List.cons_append,List.cons.injEq] at h;exact absurd (by rw [h.1];simp) h2
 |e::a,[],x,y,h1,_,h=>by
  simp only [List.nil_append,List.cons_append,List.cons.injEq] at h;exact absurd (by rw [<-h.1];simp) h1
 |e::a,f::b,x,y,h1,h2,h=>by
  simp only [List.cons_append,List.cons.injEq] at h;obtain ⟨h3,h4⟩:=zwm (fun hc=>h1 (by simp [hc])) (fun hc=>h2 (by simp [hc])) h.2;exact ⟨by rw [h.1,h3],h4⟩
theorem zuj (la:ByteArray) (c:Int) (re:ByteArray) (hc:0<=c):(qk la c re).data.toList=ycg 19 la.size++(58::(la.data.toList++(ycg 19 c.toNat++(32::re.data.toList)))):=by
 have h:=yae (n:=(la.size:Int)) (by omega);rw [Int.toNat_natCast] at h;unfold qk;simp only [ByteArray.data_append,Array.toList_append,h,yae hc,List.append_assoc];rfl
theorem yod {la lb ra rb:ByteArray} {c e:Int} (ha:la.size<=1000000000000000) (hb:lb.size<=1000000000000000) (hc:0<=c/\c<2147483579) (he:0<=e/\e<2147483579) (h:qk la c ra=qk lb e rb):la=lb/\c=e/\ra=rb:=by
 have h1:(qk la c ra).data.toList=(qk lb e rb).data.toList:=by rw [h]
 rw [zuj _ _ _ hc.1,zuj _ _ _ he.1] at h1;have big:(1000000000000000:Nat)<10 ^ 20:=by decide
 have nd:∀u:Nat,u<=1000000000000000->∀k:UInt8,(k.toNat<48\/57<k.toNat)->k ∉ ycg 19 u:=fun u hu k hk hm=>by
  have:=zui 19 u (by omega) k hm;omega
 obtain ⟨h2,h3⟩:=zwm (nd _ ha 58 (by decide)) (nd _ hb 58 (by decide)) h1;have hs:la.size=lb.size:=by
  rw [<-zho 19 la.size (by omega),h2,zho 19 lb.size (by omega)]
 have hl:la.data.toList.length=lb.data.toList.length:=by simpa using hs
 obtain ⟨h4,h5⟩:=List.append_inj h3 hl;obtain ⟨h6,h7⟩:=zwm (nd c.toNat (by omega) 32 (by decide)) (nd e.toNat (by omega) 32 (by decide)) h5;have hn:c.toNat=e.toNat:=by
  rw [<-zho 19 c.toNat (by omega),h6,zho 19 e.toNat (by omega)]
 exact ⟨ByteArray.ext (Array.toList_inj.1 h4),by omega,ByteArray.ext (Array.toList_inj.1 h7)⟩
def ydq (x:Int):List Int->List Int
 |[]=>[x]
 |y::l=>if x<=y then x::y::l else y::ydq x l
def yjl:List Int->List Int
 |[]=>[]
 |x::l=>ydq x (yjl l)
theorem zmh (x:Int):∀l,(ydq x l).Perm (x::l)
 |[]=>.refl _
 |y::l=>by
  rw [ydq];split
  ·exact .refl _
  ·exact ((zmh x l).cons y).trans (.swap x y l)
theorem zuk:∀l,(yjl l).Perm l
 |[]=>.refl _
 |x::l=>(zmh x _).trans ((zuk l).cons x)
theorem zng (x:Int):∀l,l.Pairwise (· <= ·)->(ydq x l).Pairwise (· <= ·)
 |[],_=>by simp [ydq]
 |y::l,h=>by
  rw [List.pairwise_cons] at h;rw [ydq];split
  ·rename_i hxy
   rw [List.pairwise_cons];refine ⟨fun z hz=>?_,List.pairwise_cons.2 h⟩;rcases List.mem_cons.1 hz with rfl|hz
   ·exact hxy
   ·have:=h.1 z hz;omega
  ·rename_i hxy
   rw [List.pairwise_cons];refine ⟨fun z hz=>?_,zng x l h.2⟩;rcases List.mem_cons.1 ((zmh x l).mem_iff.1 hz) with rfl|hz
   ·omega
   ·exact h.1 z hz
theorem znh:∀l,(yjl l).Pairwise (· <= ·)
 |[]=>.nil
 |x::l=>zng x _ (znh l)
theorem zlg:∀{a b:List Int},a.Perm b->a.Pairwise (· <= ·)->b.Pairwise (· <= ·)->a=b
 |[],b,h,_,_=>by rw [List.nil_perm.1 h]
 |x::a,[],h,_,_=>by cases (List.perm_nil.1 h)
 |x::a,y::b,h,ha,hb=>by
  rw [List.pairwise_cons] at ha hb;have hxy:x=y:=by
   have h1:x∈y::b:=h.mem_iff.1 (by simp);have h2:y∈x::a:=h.mem_iff.2 (by simp);rcases List.mem_cons.1 h1 with h1|h1
   ·exact h1
   ·rcases List.mem_cons.1 h2 with h2|h2
    ·exact h2.symm
    ·have:=ha.1 y h2
     have:=hb.1 x h1;omega
  subst hxy;rw [zlg h.cons_inv ha.2 hb.2]
theorem zrm (l:List Int):zbz l=yjl l:=by
 refine zlg ((List.mergeSort_perm l fun x y=>decide (x<=y)).trans (zuk l).symm) ?_ (znh l);have:=List.pairwise_mergeSort (le:=fun x y:Int=>decide (x<=y)) (fun a b c h1 h2=>by simp at*;omega) (fun a b=>by simp;omega) l;exact this.imp fun h=>by simpa using h
def inK (c:Codex) (day known:Int):List Int:=yjl ((yrb c day known).map (·.2))
theorem yxu (c:Codex) (day known:Int):inA c day known=inK c day known:=zrm _
def yoe (S:AM) (used:List Bool):List Int:=Go.Lib.compact (yjl (((List.range used.length).filter fun i=>used.getD i false&&S.has.getD i false).map fun i=>S.nums.getD i 0))
theorem yof (S:AM) (used:List Bool):zhf S used=yoe S used:=by
 unfold zhf yoe;rw [zrm]
def yvr (c:Codex) (S:AM) (inF:List Int) (s:List (Int × Int) × List (Int × Int)) (v:Int) (a:Article):Ln:=
 ⟨S.day,a.line,v,(yf a.number s.2).getD 0,yoe S (zjn c a),zkt c inF s.1 a⟩
theorem ysf (c:Codex) (S:AM) (inF:List Int) (s:List (Int × Int) × List (Int × Int)) (v:Int) (a:Article):zqa c S inF s v a=yvr c S inF s v a:=by
 unfold zqa yvr;rw [yof]
def ydr (c:Codex) (S:AM) (inF:List Int) (s:List (Int × Int) × List (Int × Int)) (line:Ln):Bool:=
 match zcw c line.art with
 |some a=>if line.art∈inF/\(yf line.art s.1).getD 0=2 then yfn (yvr c S inF s line.art a) line else false
 |none=>false
theorem yjm (c:Codex) (S:AM) (inF:List Int) (s:List (Int × Int) × List (Int × Int)) (line:Ln):zft c S inF s line=ydr c S inF s line:=by
 unfold zft ydr;cases zcw c line.art with
 |none=>rfl
 |some a=>simp only [ysf]
def yog (c:Codex) (l:List Fact) (person:ByteArray) (known:Int) (line:Ln):Bool:=
 zdq c&&zjk l&&(decide (0<=line.day)&&decide (line.day<=36524))&&(decide (0<=known)&&decide (known<=36524))&&decide ((yih c).length=c.arts.length)&&
  ydr c (zbr c l person line.day known) (inK c line.day known) (yxh c (zbr c l person line.day known) (inK c line.day known) (yih c)) line
theorem zfe (c:Codex) (l:List Fact) (person:ByteArray) (known:Int) (line:Ln):zcx c l person known line=yog c l person known line:=by
 unfold zcx yog;rw [yxu,yjm]
variable (G:List (Nat × D))
theorem yxv {b:Nat} {H0:List SObj} {f:Ex} (l:List Ex) (hb:H0[b]?=some (.cells (f.cells.map .imm))) (hu:H0.all (SObj.under H0.length)=true):yxi G 171 b H0 (fun e=> !decide (e.unit=f.unit)) l:=by
 intro e _;have hbl:=lt_of_getElem? hb;obtain ⟨xo,xn,xu,xd,xp,xk⟩:=e
 refine xc Tryz.func171 rfl (by rw [Tryz.ntmps171];simp) (by
  have h1:(Ex.mk xo xn xu xd xp xk).sv.under H0.length=true:=rfl;have h2:(SV.ptr b 0).under H0.length=true:=by simp [SV.under,hbl]
  simp only [List.all_cons,List.all_nil,h1,h2,Bool.and_true]) hu ?_
 intro E hH hK;(refine zm [777,5,7] 1000 ?_;conv=>whnf);refine wh (cs:=(Ex.mk xo xn xu xd xp xk).cells.map .imm) (v:=sS xu) rfl rfl rfl rfl (by simp) rfl ?_;(refine zj [777,5,7] 1000 ?_;conv=>whnf);refine wh (cs:=f.cells.map .imm) (v:=sS f.unit) rfl rfl rfl rfl ((List.getElem?_append_left hbl).trans hb) ?_ ?_
 ·rw [Ex.cells_eq];rfl
 (refine zc ?_;conv=>whnf);refine hK _ _ (by simp) rfl (by rw [List.take_left'];exact hu;rfl) ⟨rfl,by rw [List.take_left'];rfl⟩
theorem yoh {ks:List Ex} {f:Ex} (hf:ks.head?=some f):zpv ks= !(ks.any fun e=> !decide (e.unit=f.unit)):=by
 cases ks with
 |nil=>cases hf
 |cons a r=>
  injection hf with hf
  subst hf;rw [zpv,List.all_eq_not_any_not]
def yjn (op:Int) (u:ByteArray) (f l:Ex) (len:Int) (same:Bool):Bool:=
 if op=5 then decide (len=1)&&decide (u=tT)&&decide (f.unit=tT)
 else if op=6\/op=7 then decide (len=2)&&decide (u=tT)&&same&&decide (f.unit=tT)
 else if op=8 then decide (len=2)&&decide (u=tT)&&same
 else if op=9\/op=10 then decide (len=2)&&decide (u=tT)&&(same&& !decide (f.unit=tT))
 else if op=11\/op=12 then decide (len=2)&&(same&& !decide (f.unit=tT))&&decide (u=f.unit)
 else if op=16\/op=17 then decide (2<=len)&&(same&& !decide (f.unit=tT))&&decide (u=f.unit)
 else if op=13 then decide (len=2)&& !decide (f.unit=tT)&& !decide (l.unit=tT)&&(decide (f.unit=tN)||decide (l.unit=tN))&&decide (u=if f.unit=tN then l.unit else f.unit)
 else if op=14 then decide (len=2)&&decide (l.op=1)&&decide (l.unit=tN)&&(decide (1<=l.n)&&decide (l.n<=1000000))&& !decide (f.unit=tT)&&decide (u=f.unit)
 else if op=15 then decide (len=2)&&decide (f.unit=tM)&&zpi l.unit&&decide (u=l.unit)
 else false
theorem yvs (op:Int) (u:ByteArray) (f l:Ex) (len:Int) (same:Bool):ypk op u f l len same=yjn op u f l len same:=by
 unfold ypk yjn;rw [show (!decide (l.n<1)&& !decide (1000000<l.n))=(decide (1<=l.n)&&decide (l.n<=1000000)) from by rw [Bool.eq_iff_iff];simp]
theorem yaf (op n:Int) (u:ByteArray) (den:Int) (ps:List Piece) (ks:List Ex) (f l:Ex) (hf:ks.head?=some f) (hl:ks.getLast?=some l) (hsz:ks.length<=1000000000):
  zq Tryz.prog G 140 [(Ex.mk op n u den ps ks).sv] (sB (ypk op u f l ks.length (zpv ks))):=by
 have hrows:=wg ks;have hlen:(zo ks).length=ks.length:=by rw [hrows];simp
 have hpos:1<=ks.length:=by cases ks with|nil=>simp at hf|cons a r=>simp
 have h0:(zo ks)[0]?=some f.cells:=by
  rw [hrows];cases ks with
  |nil=>simp at hf
  |cons a r=>simp at hf;simp [hf]
 have h1:(zo ks)[ks.length-1]?=some l.cells:=by
  rw [hrows,List.getElem?_map];rw [List.getLast?_eq_getElem?] at hl;rw [hl];rfl
 have hone:ks.length=1->zpv ks=true:=by
  intro h
  match ks,h with
  |[k],_=>simp [zpv]
 have hm:IntKind.i64.wrap (((zo ks).length:Int)-1)=((ks.length-1:Nat):Int):=by rw [zt (by omega) (by omega)];omega
 have hcon:=fun H0 hb hu=>zkv G (g:=171) (b:=1) (H0:=H0) (p:=fun e=> !decide (e.unit=f.unit)) (l:=ks) rfl (lt_of_getElem? hb) hu hsz (yxv G ks hb hu)
 rw [<-hrows] at hcon;have hsame:=yoh hf;generalize (ks.any fun e=> !decide (e.unit=f.unit))=an at hcon hsame;obtain ⟨o0,n0,u0,d0,p0,q0⟩:=f;obtain ⟨o1,n1,u1,d1,p1,q1⟩:=l;have hcur:=zjh G u1;refine zh Tryz.func140 rfl (by rw [Tryz.ntmps140];simp) rfl rfl ?_;intro E hH hK;(refine xg ?_;conv=>whnf);(refine xf 2 mixed rfl ?_;refine zn [] (nx:=1) ?_;conv=>whnf);refine qn rfl (by simp) rfl  (row:=(Ex.mk o0 n0 u0 d0 p0 q0).cells) h0 ?_;(refine zn [] (nx:=1) ?_;conv=>whnf);refine qn rfl (by simp) hm (row:=(Ex.mk o1 n1 u1 d1 p1 q1).cells) h1 ?_;(refine zn [] (nx:=1) ?_;conv=>whnf);(refine xg ?_;conv=>whnf);refine zbn 3 rfl rfl rfl rfl rfl rfl (hcon _ rfl rfl) ?_;rintro r9 H9 ⟨rfl,rfl⟩ _;have hs2:an= !zpv ks:=by rw [hsame,Bool.not_not]
 clear hcon hsame;rw [yvs] at hK;generalize zpv ks=sm at hK hs2 hone;subst hs2;rw [<-hlen] at hK hone;clear hm h0 h1 hf hl hlen hpos hrows;cases sm with
 |false=>
  have hone:¬(zo ks).length=1:=fun h=>Bool.noConfusion (hone h)
  (refine wa ?_;conv=>whnf)
  repeat' ((with_reducible refine way ?_ ?_)<;>(intro h;conv=>whnf))
  all_goals try (refine kB hK ?_;(try simp [yjn,tT,tN,tM,Ex.unit,Ex.op,Ex.n, *]);(try exact decide_eq_decide.2 Iff.rfl);(try omega))
  any_goals refine zd rfl  hcur ?_
  any_goals (refine wa ?_;conv=>whnf)
  any_goals repeat' ((with_reducible refine way ?_ ?_)<;>(intro h;conv=>whnf))
  all_goals try (refine kB hK ?_;(try simp [yjn,tT,tN,tM,Ex.unit,Ex.op,Ex.n, *]);(try exact decide_eq_decide.2 Iff.rfl);(try omega))
  all_goals trace_state
 |true=>
  clear hone;(refine wa ?_;conv=>whnf)
  repeat' ((with_reducible refine way ?_ ?_)<;>(intro h;conv=>whnf))
  all_goals try (refine kB hK ?_;(try simp [yjn,tT,tN,tM,Ex.unit,Ex.op,Ex.n, *]);(try exact decide_eq_decide.2 Iff.rfl);(try omega))
  any_goals refine zd rfl  hcur ?_
  any_goals (refine wa ?_;conv=>whnf)
  any_goals repeat' ((with_reducible refine way ?_ ?_)<;>(intro h;conv=>whnf))
  all_goals try (refine kB hK ?_;(try simp [yjn,tT,tN,tM,Ex.unit,Ex.op,Ex.n, *]);(try exact decide_eq_decide.2 Iff.rfl);(try omega))
  all_goals trace_state
def zjy (m:List (Int × Int)) (n:Int):List SObj:=[.mapI .i64 (jo sI m),.cells [sI n]]
theorem zmi (m:List (Int × Int)) (n:Int):(zjy m n).all (SObj.under 2)=true:=by
 simp only [zjy,List.all_cons,zgz];rfl
theorem yoi {op:Int} (u:ByteArray) (f l:Ex) (len:Int) (same:Bool) (h:1<=op/\op<=4):ypk op u f l len same=false:=by
 unfold ypk;rw [if_neg (by omega),if_neg (by omega),if_neg (by omega),if_neg (by omega),if_neg (by omega),if_neg (by omega),if_neg (by omega),if_neg (by omega),if_neg (by omega)]
theorem yds {facts lines:List Decl} {m:List (Int × Int)} {n:Int} {u:ByteArray} (h:yf n m=none):zha facts lines m 3 n u=false:=by
 unfold zha;simp [h]
theorem yag (c : Codex) (hcs : c.facts.length <= 1000000) (m : List (Int × Int)) (hm : ∀ k v, yf k m = some v -> 0 <= v /\ v < c.lines.length) (N : Nat) : ∀ (e : Ex), SizeOf.sizeOf e < N -> ∀ (depth cnt : Int), 0 <= depth -> depth <= 41 -> 0 <= cnt -> cnt <= 400 ->
    SPre Tryz.prog G 103 [c.sv, .map 0, e.sv, sI depth, .ptr 1 0] (zjy m cnt) (fun r H1 => r = sB (qz c m e depth cnt).1 /\ H1 = zjy m (qz c m e depth cnt).2) := by
  induction N with
  | zero => intro e h; omega
  | succ N IH =>
  intro e he depth cnt hd0 hd1 hc0 hc1
  obtain ⟨op, n, u, den, ps, ks⟩ := e
  simp only [Ex.mk.sizeOf_spec] at he
  have hsv : (Ex.mk op n u den ps ks).sv = .agg [sI op, sI n, sS u, sI den, .imm (.isl 3 (ps.map Piece.cells)), .imm (.isl 6 (zo ks))] := rfl
  have hcv : c.sv = .agg [.imm (zx c.facts), .imm (zx c.lines), .imm (wm c.arts)] := rfl
  refine xc Tryz.func103 rfl (by rw [Tryz.ntmps103]; simp) rfl (zmi m cnt) ?_
  intro E hH hK
  have fin : ∀ H' q, H'.take 2 = zjy m q -> 2 <= H'.length -> ∀ b, qz c m (.mk op n u den ps ks) depth cnt = (b, q) -> E.K (sB b) H' := fun H' q h1 h2 b h3 =>
    hK _ _ h2 rfl (by show (List.take 2 H').all _ = true; rw [h1]; exact zmi m q) ⟨by rw [h3], by rw [h3]; exact h1⟩
  have hw1 : IntKind.i64.wrap (cnt + 1) = cnt + 1 := zt (by omega) (by omega)
  have hrows := wg ks
  have hlen : (zo ks).length = ks.length := by rw [hrows]; simp
  rw [hsv, hcv]
  refine zm [19] 1000 ?_; conv => whnf
  rw [hw1]
  (refine wa ?_; conv => whnf)
  repeat' ((with_reducible refine way ?_ ?_) <;> (intro h; conv => whnf))
  all_goals try exact fin _ _ rfl (by simp) _ (by simp only [qz]; rw [if_pos (by omega)])
  refine zd rfl  (zmr G u) ?_
  cases huo : zmq u with
  | false =>
    (refine wa ?_; conv => whnf)
    exact fin _ _ rfl (by simp) _ (by simp only [qz]; rw [if_pos (.inr (.inr huo))])
  | true =>
  (refine wa ?_; conv => whnf)
  have hstart : qz c m (.mk op n u den ps ks) depth cnt = (match jy c m ks (depth + 1) (cnt + 1) with | (true, cnt') => (zdp c m op n u den ps ks, cnt') | (false, cnt') => (false, cnt')) := by
    simp only [qz]; rw [if_neg (by rw [huo]; simp; omega)]; try rfl
  have hup := zyg c m (N + 1)
  have hwd : IntKind.i64.wrap (depth + 1) = depth + 1 := zt (by omega) (by omega)
  refine zg [1, 3, 4, 5, 7, 35, 36, 37] ?_
  change SW E _ [(1, .map 0), (3, sI depth), (4, .ptr 1 0), (5, .ptr 2 0), (7, .ptr 3 0), (35, .imm (.isl 6 (zo ks))), (36, sI ((zo ks).length : Nat)), (37, sI (0 : Nat))] (zjy m (cnt + 1) ++ [.cells [.imm (zx c.facts), .imm (zx c.lines), .imm (wm c.arts)], .cells [sI op, sI n, sS u, sI den, .imm (.isl 3 (ps.map Piece.cells)), .imm (.isl 6 (zo ks))]])
  rw [hlen]
  refine zp ks (fun i (_ : Int) => [(1, .map 0), (3, sI depth), (4, .ptr 1 0), (5, .ptr 2 0), (7, .ptr 3 0), (35, .imm (.isl 6 (zo ks))), (36, sI (ks.length : Nat)), (37, sI (i : Nat))])
    (fun _ q => zjy m q ++ [.cells [.imm (zx c.facts), .imm (zx c.lines), .imm (wm c.arts)], .cells [sI op, sI n, sS u, sI den, .imm (.isl 3 (ps.map Piece.cells)), .imm (.isl 6 (zo ks))]])
    (fun done rest q => jy c m ks (depth + 1) (cnt + 1) = jy c m rest (depth + 1) q /\ cnt + 1 + done.length <= q /\ q <= 400) (cnt + 1) ⟨rfl, by simp, by omega⟩ ?_ ?_
  · as_aux_lemma =>
      rintro q ⟨h1, h2, h3⟩
      simp only [jy] at h1
      rw [h1] at hstart
      simp only at hstart
      have hsz : ks.length <= 400 := by omega
      have fin2 : ∀ H' b, H'.take 2 = zjy m q -> 2 <= H'.length -> zdp c m op n u den ps ks = b -> E.K (sB b) H' := fun H' b g1 g2 g3 => fin H' q g1 g2 b (by rw [hstart, g3])
      have hpl : (ps.map Piece.cells).length = ps.length := by simp
      have hfl : (c.facts.map Decl.cells).length = c.facts.length := by simp
      clear IH hup hstart hK fin huo
      by_cases h18 : op = 18
      · subst h18
        have hn18 : zdp c m 18 n u den ps ks = (decide (n = 0) && decide (ks.length = 1) && zpi u && (match ks with | k :: _ => decide (u = k.unit) | [] => false) && zct den ps) := by unfold zdp; rw [if_pos rfl]; try rfl
        have hcur := zjh G u
        have htb := zvy G den ps
        generalize zpi u = b1 at hcur hn18
        generalize zct den ps = b2 at htb hn18
        cases ks with
        | nil =>
          (refine xg ?_; conv => whnf)
          repeat' ((with_reducible refine way ?_ ?_) <;> (intro h; conv => whnf))
          all_goals try (exfalso; omega)
          (refine yc mixed rfl ?_; refine zf [] ?_; conv => whnf)
          repeat' ((with_reducible refine way ?_ ?_) <;> (intro h; conv => whnf))
          all_goals (refine xg ?_; conv => whnf)
          all_goals exact fin2 _ _ rfl (by simp [zjy]) (by rw [hn18]; simp)
        | cons k0 kr =>
          obtain ⟨o0, n0, u0, d0, p0, q0⟩ := k0
          have h0 : (zo (Ex.mk o0 n0 u0 d0 p0 q0 :: kr))[0]? = some (Ex.mk o0 n0 u0 d0 p0 q0).cells := by simp [zo]
          (refine xg ?_; conv => whnf)
          repeat' ((with_reducible refine way ?_ ?_) <;> (intro h; conv => whnf))
          all_goals try (exfalso; omega)
          (refine yc mixed rfl ?_; refine zf [] ?_; conv => whnf)
          repeat' ((with_reducible refine way ?_ ?_) <;> (intro h; conv => whnf))
          · refine ym rfl  hcur ?_
            cases b1 with
            | false =>
              (refine zf [] ?_; conv => whnf)
              (refine xg ?_; conv => whnf)
              exact fin2 _ _ rfl (by simp [zjy]) (by rw [hn18]; simp)
            | true =>
            (refine zf [] ?_; conv => whnf)
            refine yx rfl rfl  (row := (Ex.mk o0 n0 u0 d0 p0 q0).cells) h0 ?_
            (refine zf [] ?_; conv => whnf)
            repeat' ((with_reducible refine way ?_ ?_) <;> (intro h; conv => whnf))
            · refine ym rfl  htb ?_
              (refine zf [] ?_; conv => whnf)
              (refine xg ?_; conv => whnf)
              refine fin2 _ _ rfl (by simp [zjy]) ?_
              rw [hn18, decide_eq_true ‹n = 0›, decide_eq_true (show (Ex.mk o0 n0 u0 d0 p0 q0 :: kr).length = 1 by omega)]
              have hu : decide (u = (Ex.mk o0 n0 u0 d0 p0 q0).unit) = true := decide_eq_true h.symm
              simp only [hu]
              try rfl
            · (refine xg ?_; conv => whnf)
              refine fin2 _ _ rfl (by simp [zjy]) ?_
              have hu : decide (u = (Ex.mk o0 n0 u0 d0 p0 q0).unit) = false := decide_eq_false (fun e => h (Eq.symm e))
              rw [hn18]
              simp only [hu]
              simp
          · (refine xg ?_; conv => whnf)
            exact fin2 _ _ rfl (by simp [zjy]) (by rw [hn18, decide_eq_false (show ¬ (Ex.mk o0 n0 u0 d0 p0 q0 :: kr).length = 1 by omega)]; simp)
          · (refine xg ?_; conv => whnf)
            exact fin2 _ _ rfl (by simp [zjy]) (by rw [hn18, decide_eq_false h]; simp)
      by_cases htab : ¬ den = 0 \/ 0 < ps.length
      · (refine xg ?_; conv => whnf)
        repeat' ((with_reducible refine way ?_ ?_) <;> (intro h; conv => whnf))
        all_goals try (exfalso; omega)
        all_goals exact fin2 _ _ rfl (by simp [zjy]) (by unfold zdp; rw [if_neg h18, if_pos htab])
      have hnode : zdp c m op n u den ps ks = if 1 <= op /\ op <= 4 then decide (ks.length = 0) && zha c.facts c.lines m op n u else decide (n = 0) && (match ks.head?, ks.getLast? with | some f, some l => ypk op u f l ks.length (zpv ks) | _, _ => false) := by
        unfold zdp; rw [if_neg h18, if_neg htab]; try rfl
      cases ks with
      | cons k0 kr =>
        obtain ⟨l, hl⟩ : ∃ l, (k0 :: kr).getLast? = some l := ⟨_, List.getLast?_eq_some_getLast (by simp)⟩
        have hopr := yaf G op n u den ps (k0 :: kr) k0 l rfl hl (by omega)
        rw [hl] at hnode
        simp only [List.head?_cons] at hnode
        have hnode : zdp c m op n u den ps (k0 :: kr) = (decide (n = 0) && ypk op u k0 l (k0 :: kr).length (zpv (k0 :: kr))) := by
          rw [hnode]
          split
          · rename_i h
            rw [yoi u k0 l _ _ h, Bool.and_false]
            rfl
          · rfl
        have hpos : 0 < (zo (k0 :: kr)).length := by simp [zo]
        rw [hsv] at hopr
        generalize ypk op u k0 l (k0 :: kr).length (zpv (k0 :: kr)) = b1 at hopr hnode
        (refine xg ?_; conv => whnf)
        repeat' ((with_reducible refine way ?_ ?_) <;> (intro h; conv => whnf))
        all_goals try (exfalso; omega)
        all_goals first
          | exact fin2 _ _ rfl (by simp [zjy]) (by rw [hnode, decide_eq_false ‹¬ n = 0›]; rfl)
          | (refine zd rfl  hopr ?_
             (refine wa ?_; conv => whnf)
             exact fin2 _ _ rfl (by simp [zjy]) (by rw [hnode, decide_eq_true ‹n = 0›]; rfl))
      | nil =>
        have hnode : zdp c m op n u den ps [] = if 1 <= op /\ op <= 4 then zha c.facts c.lines m op n u else false := by
          rw [hnode]
          split
          · rfl
          · simp
        by_cases hop : 1 <= op /\ op <= 4
        · rw [if_pos hop] at hnode
          rcases (show op = 1 \/ op = 2 \/ op = 3 \/ op = 4 by omega) with rfl | rfl | rfl | rfl
          · (refine xg ?_; conv => whnf)
            repeat' ((with_reducible refine way ?_ ?_) <;> (intro h; conv => whnf))
            all_goals try (exfalso; omega)
            all_goals exact fin2 _ _ rfl (by simp [zjy]) (by rw [hnode]; simp [zha, tT, *]; try omega)
          · (refine xg ?_; conv => whnf)
            repeat' ((with_reducible refine way ?_ ?_) <;> (intro h; conv => whnf))
            all_goals try (exfalso; omega)
            (refine yc mixed rfl ?_; refine zf [] ?_; conv => whnf)
            repeat' ((with_reducible refine way ?_ ?_) <;> (intro h; conv => whnf))
            · have hlt : n.toNat < c.facts.length := by omega
              obtain ⟨d, hd⟩ : ∃ d, c.facts[n.toNat]? = some d := ⟨c.facts[n.toNat], List.getElem?_eq_getElem hlt⟩
              refine yx rfl (i := n.toNat) (by omega) (row := d.cells) (by simp [hd]) ?_
              (refine zf [] ?_; conv => whnf)
              (refine xg ?_; conv => whnf)
              refine fin2 _ _ rfl (by simp [zjy]) ?_
              have hua : zth c.facts n u = decide (u = d.unit) := by simp only [zth, hd]
              rw [hnode]
              have : decide (d.unit = u) = decide (u = d.unit) := decide_eq_decide.2 ⟨Eq.symm, Eq.symm⟩
              rw [this]
              simp [zha, hua, *]; omega
            all_goals (refine xg ?_; conv => whnf)
            all_goals refine fin2 _ _ rfl (by simp [zjy]) ?_
            all_goals (rw [hnode]; simp [zha, *]; try omega)
          · cases hlk : yf n m with
            | none =>
              (refine xg ?_; conv => whnf)
              repeat' ((with_reducible refine way ?_ ?_) <;> (intro h; conv => whnf))
              all_goals try (exfalso; omega)
              refine zbh sI rfl rfl rfl rfl rfl rfl rfl rfl rfl (v := sI 0) (p := false) (by rw [hlk]; rfl) (by rw [hlk]; rfl) ?_
              (refine wa ?_; conv => whnf)
              (refine yc mixed rfl ?_; refine zf [] ?_; conv => whnf)
              (refine xg ?_; conv => whnf)
              exact fin2 _ _ rfl (by simp [zjy]) (by rw [hnode]; exact yds hlk)
            | some line =>
              obtain ⟨hl0, hl1⟩ := hm n line hlk
              obtain ⟨d, hd⟩ : ∃ d, c.lines[line.toNat]? = some d := ⟨c.lines[line.toNat]'(by omega), List.getElem?_eq_getElem _⟩
              (refine xg ?_; conv => whnf)
              repeat' ((with_reducible refine way ?_ ?_) <;> (intro h; conv => whnf))
              all_goals try (exfalso; omega)
              refine zbh sI rfl rfl rfl rfl rfl rfl rfl rfl rfl (v := sI line) (p := true) (by rw [hlk]; rfl) (by rw [hlk]; rfl) ?_
              (refine wa ?_; conv => whnf)
              (refine yc mixed rfl ?_; refine zf [] ?_; conv => whnf)
              refine yx rfl (i := line.toNat) (by omega) (row := d.cells) (by simp [hd]) ?_
              (refine zf [] ?_; conv => whnf)
              (refine xg ?_; conv => whnf)
              have hua : zth c.lines line u = decide (u = d.unit) := by simp only [zth, hd]
              refine fin2 _ _ rfl (by simp [zjy]) ?_
              have : decide (d.unit = u) = decide (u = d.unit) := decide_eq_decide.2 ⟨Eq.symm, Eq.symm⟩
              rw [hnode, this]
              simp [zha, hlk, hua, *]
          · (refine xg ?_; conv => whnf)
            repeat' ((with_reducible refine way ?_ ?_) <;> (intro h; conv => whnf))
            all_goals try (exfalso; omega)
            all_goals exact fin2 _ _ rfl (by simp [zjy]) (by rw [hnode]; simp [zha, tN, *]; try omega)
        · rw [if_neg hop] at hnode
          (refine xg ?_; conv => whnf)
          repeat' ((with_reducible refine way ?_ ?_) <;> (intro h; conv => whnf))
          all_goals try (exfalso; omega)
          all_goals exact fin2 _ _ rfl (by simp [zjy]) hnode
  · as_aux_lemma =>
      rintro done kid rest q ha hl ⟨h1, h2, h3⟩ ih
      have hw := zk (n := done.length) (by omega)
      have hks : SizeOf.sizeOf kid < SizeOf.sizeOf ks := List.sizeOf_lt_of_mem (by rw [ha]; simp)
      have hcall := IH kid (by omega) (depth + 1) q (by omega) (by omega) (by omega) h3
      simp only [jy] at h1
      have hkup := hup.1 kid (by omega) (depth + 1) q
      obtain ⟨o1, n1, u1, d1, p1, q1⟩ := kid
      (refine xg ?_; conv => whnf)
      repeat' ((with_reducible refine way ?_ ?_) <;> (intro h; conv => whnf))
      all_goals try (exfalso; omega)
      refine zi rfl rfl  (row := (Ex.mk o1 n1 u1 d1 p1 q1).cells) (by rw [hrows]; simp [ha]) ?_
      (refine wa ?_; conv => whnf)
      rw [hwd]
      refine zbn 2 rfl rfl rfl rfl rfl rfl hcall ?_
      rintro r H1 ⟨rfl, rfl⟩ _
      revert h1 hkup
      cases qz c m (.mk o1 n1 u1 d1 p1 q1) (depth + 1) q with
      | mk b q' =>
        cases b with
        | true =>
          simp only
          intro h1 hkup
          (refine wa ?_; conv => whnf)
          rw [hw]
          exact yz [1, 3, 4, 5, 7, 35, 36, 37] 4 (by rw [hH]; simp [zjy]) (by simp [zjy]) rfl (by simp [zjy, zgz]; exact ⟨rfl, rfl, rfl⟩) (ih q' ⟨h1, by simp; omega, hkup.2 trivial⟩)
        | false =>
          simp only
          intro h1 hkup
          (refine wa ?_; conv => whnf)
          refine fin _ q' rfl (by simp [zjy]) _ ?_
          rw [hstart, h1]
theorem ygk (σ:Nat->Nat) (m:List (Int × Int)):(SObj.mapI .i64 (jo sI m)).ren σ= .mapI .i64 (jo sI m):=by
 simp [SObj.ren,jo,SV.ren]
theorem zul (c:Codex) (hcs:c.facts.length<=1000000) (m:List (Int × Int)) (hm:∀k v,yf k m=some v->0<=v/\v<c.lines.length) (e:Ex) (depth cnt:Int) (h0:0<=depth) (h1:depth<=41) (h2:0<=cnt) (h3:cnt<=400) {H:List SObj} {mi ni:Nat} (hne:mi≠ni)
  (hmi:H[mi]?=some (.mapI .i64 (jo sI m))) (hni:H[ni]?=some (.cells [sI cnt])):
  SCall Tryz.prog G 103 [c.sv,.map mi,e.sv,sI depth,.ptr ni 0] H (fun r H'=>r=sB (qz c m e depth cnt).1/\H'=H.set ni (.cells [sI (qz c m e depth cnt).2])):=by
 have hml:=lt_of_getElem? hmi;have hnl:=lt_of_getElem? hni;have hs:=yag G c hcs m hm (SizeOf.sizeOf e+1) e (Nat.lt_succ_self _) depth cnt h0 h1 h2 h3 [];rw [List.append_nil] at hs;generalize qz c m e depth cnt=fr at hs;have hcr:∀σ,c.sv.ren σ=c.sv:=fun σ=>rfl
 have her:∀σ,e.sv.ren σ=e.sv:=fun σ=>by cases e;rfl
 have hlen2:(zjy m cnt).length=2:=rfl;have:=zpm (K':=fun r H'=>r=sB fr.1/\H'=H.set ni (.cells [sI fr.2])) hs (H:=H) (fun b=>if b=0 then mi else if b=1 then ni else H.length+(b-2)) ?_ ?_ ?_ ?_ (zmi m cnt) ?_
 ·have e1:([c.sv,.map 0,e.sv,sI depth,.ptr 1 0]:List SV).map (SV.ren (fun b=>if b=0 then mi else if b=1 then ni else H.length+(b-2)))=[c.sv,.map mi,e.sv,sI depth,.ptr ni 0]:=by
   simp only [List.map_cons,List.map_nil,hcr,her];rfl
  rw [e1] at this;exact this
 ·intro b b' hb hb' h
  rw [hlen2] at hb hb';rcases (show b=0\/b=1 by omega) with rfl|rfl<;>rcases (show b'=0\/b'=1 by omega) with rfl|rfl<;>first|rfl|(exact absurd h hne)|(exact absurd h.symm hne)
 ·intro i
  simp only [hlen2];rw [if_neg (by omega),if_neg (by omega)];omega
 ·intro b o hb
  match b,hb with
  |0,hb=>
   injection hb with hb
   subst hb;rw [ygk];exact hmi
  |1,hb=>
   injection hb with hb
   subst hb;exact hni
  |b+2,hb=>simp [zjy] at hb
 ·have hcu:c.sv.under 2=true:=rfl
  have heu:e.sv.under 2=true:=by cases e;rfl
  simp only [List.all_cons,List.all_nil,hlen2,hcu,heu];rfl
 ·rintro r H1 H' ⟨H2,⟨rfl,rfl⟩,hl2,rfl⟩ hlen hl3 hsame hother
  refine ⟨rfl,?_⟩;rw [List.append_nil] at hl3 hsame hlen;have hl4:H'.length=H.length:=by
   have:(zjy m fr.2).length=2:=rfl;rw [this,hlen2] at hl3;omega
  apply List.ext_getElem?
  intro i
  by_cases hi:i=ni
  ·subst hi
   rw [List.getElem?_set_self hnl];exact hsame 1 _ rfl
  ·rw [List.getElem?_set_ne (fun h=>hi h.symm)]
   by_cases hi2:i=mi
   ·subst hi2
    have h5:=hsame 0 _ rfl;rw [ygk] at h5;exact h5.trans hmi.symm
   ·rcases Nat.lt_or_ge i H.length with hlt|hge
    ·refine hother i hlt (fun b hb h=>?_)
     rw [hlen2] at hb;rcases (show b=0\/b=1 by omega) with rfl|rfl
     ·exact hi2 h.symm
     ·exact hi h.symm
    ·rw [List.getElem?_eq_none (by omega),List.getElem?_eq_none hge]
theorem ydt (c:Codex) (hcs:c.facts.length<=1000000) (m:List (Int × Int)) (hm:∀k v,yf k m=some v->0<=v/\v<c.lines.length) (e:Ex) (depth cnt:Int) (h0:0<=depth) (h1:depth<=41) (h2:0<=cnt) (h3:cnt<=400) {H:List SObj} {mi ni:Nat} (hne:mi≠ni)
  (hmi:H[mi]?=some (.mapI .i64 (jo sI m))) (hni:H[ni]?=some (.cells [sI cnt])):
  SPre Tryz.prog G 103 [c.sv,.map mi,e.sv,sI depth,.ptr ni 0] H (fun r H'=>r=sB (qz c m e depth cnt).1/\H'=H.set ni (.cells [sI (qz c m e depth cnt).2])):=by
 intro X;have hnl:=lt_of_getElem? hni;refine (zul G c hcs m hm e depth cnt h0 h1 h2 h3 hne (H:=H++X) (by rw [List.getElem?_append_left (lt_of_getElem? hmi)];exact hmi) (by rw [List.getElem?_append_left hnl];exact hni)).mono ?_;rintro r H' ⟨rfl,rfl⟩;exact ⟨_,⟨rfl,rfl⟩,by simp,by rw [List.set_append_left _ _ hnl]⟩
theorem zwn (c:Codex) (hfit:Codex.fit c) (hcs:c.facts.length<=1000000) (hls:c.lines.length<=1000000) (has:c.arts.length<=1000000):zq Tryz.prog G 63 [c.sv] (sB (zdq c)):=by
 have hlf:(c.facts.map Decl.cells).length=c.facts.length:=by simp
 have hll:(c.lines.map Decl.cells).length=c.lines.length:=by simp
 have hla:(c.arts.map Article.cells).length=c.arts.length:=by simp
 have hd1:=zku G c.facts 0 0 (by omega);have hd2:=zku G c.lines 1 4 (by omega);have hok0:zdq c=((zar 0 0 c.facts&&decide (c.facts.length<=32))&&(zar 1 4 c.lines&&decide (c.lines.length<=32))&&decide (c.arts.length<=60)&&(match jf c.lines.length c.arts [] with|some m=>c.arts.all (zsi c m)|none=>false)):=by
  unfold zdq;cases zar 0 0 c.facts<;>cases zar 1 4 c.lines<;>cases decide (c.facts.length<=32)<;>cases decide (c.lines.length<=32)<;>cases decide (c.arts.length<=60)<;>rfl
 generalize zdq c=ok at hok0;generalize (zar 0 0 c.facts&&decide (c.facts.length<=32))=b1 at hd1 hok0;generalize (zar 1 4 c.lines&&decide (c.lines.length<=32))=b2 at hd2 hok0;rw [show c.sv= .agg [.imm (zx c.facts),.imm (zx c.lines),.imm (wm c.arts)] from rfl];refine zh Tryz.func63 rfl (by rw [Tryz.ntmps63];simp) rfl rfl ?_;intro E hH hK;(refine ze ?_;conv=>whnf);refine zd rfl  hd1 ?_;cases b1 with
 |false=>
  (refine zc ?_;conv=>whnf);exact kB hK (by rw [hok0];rfl)
 |true=>
 (refine zc ?_;conv=>whnf);refine zd rfl  hd2 ?_;cases b2 with
 |false=>
  (refine zc ?_;conv=>whnf);exact kB hK (by rw [hok0];rfl)
 |true=>
 (refine zc ?_;conv=>whnf)
 repeat' ((with_reducible refine way ?_ ?_)<;>(intro h;conv=>whnf))
 ·exact kB hK (by rw [hok0,decide_eq_false (show ¬c.arts.length<=60 by omega)];rfl)
 have hok:ok=(match jf c.lines.length c.arts [] with|some m=>c.arts.all (zsi c m)|none=>false):=by
  rw [hok0,decide_eq_true (show c.arts.length<=60 by omega)];rfl
 clear hok0 hd1 hd2;refine zg [1,3,36,37,38] ?_;change SW E _ [(1,.ptr 0 0),(3,.map 1),(36,.imm (wm c.arts)),(37,sI ((c.arts.map Article.cells).length:Nat)),(38,sI (0:Nat))] [.cells [.imm (zx c.facts),.imm (zx c.lines),.imm (wm c.arts)],.mapI .i64 (jo sI [])];rw [hla];refine zp c.arts (fun i (_:List (Int × Int))=>[(1,.ptr 0 0),(3,.map 1),(36,.imm (wm c.arts)),(37,sI (c.arts.length:Nat)),(38,sI (i:Nat))])
  (fun _ m=>[.cells [.imm (zx c.facts),.imm (zx c.lines),.imm (wm c.arts)],.mapI .i64 (jo sI m)])
  (fun _ rest m=>jf c.lines.length c.arts []=jf c.lines.length rest m) [] rfl ?_ ?_
 ·rintro m h1
  simp only [jf] at h1;rw [h1] at hok;simp only at hok;obtain ⟨hm,hlines⟩:=zkr _ _ _ _ h1 (by intro k v h;simp [yf] at h);(refine ze ?_;conv=>whnf)
  repeat' ((with_reducible refine way ?_ ?_)<;>(intro h;conv=>whnf))
  all_goals try (exfalso;omega)
  refine zg [1,3,84,85,86] ?_;change SW E _ [(1,.ptr 0 0),(3,.map 1),(84,.imm (wm c.arts)),(85,sI ((c.arts.map Article.cells).length:Nat)),(86,sI (0:Nat))] [.cells [.imm (zx c.facts),.imm (zx c.lines),.imm (wm c.arts)],.mapI .i64 (jo sI m)];rw [hla];refine zp c.arts (fun i (_:Unit)=>[(1,.ptr 0 0),(3,.map 1),(84,.imm (wm c.arts)),(85,sI (c.arts.length:Nat)),(86,sI (i:Nat))])
   (fun _ _=>[.cells [.imm (zx c.facts),.imm (zx c.lines),.imm (wm c.arts)],.mapI .i64 (jo sI m)]) (fun done rest _=>ok=rest.all (zsi c m)) () hok ?_ ?_
  ·rintro _ h2
   (refine ze ?_;conv=>whnf)
   repeat' ((with_reducible refine way ?_ ?_)<;>(intro h;conv=>whnf))
   all_goals try (exfalso;omega)
   exact kB hK (by rw [h2];rfl)
  ·rintro done a rest _ ha hl h2 ih
   have hmem:a∈c.arts:=by rw [ha];simp
   have hw:=zk (n:=done.length) (by omega);obtain ⟨hun,hwh⟩:=hfit a hmem;have hline:=hlines a hmem;have hwl:(a.when_.map Ex.cells).length=a.when_.length:=by simp
   have hul:(a.unless_.map fun n=>[dI n]).length=a.unless_.length:=by simp
   obtain ⟨d,hd⟩:∃d,c.lines[a.line.toNat]?=some d:=⟨c.lines[a.line.toNat]'(by omega),List.getElem?_eq_getElem _⟩;have hlu:zvs c a.line=d.unit:=by simp only [zvs,hd]
   have hdr:(c.lines.map Decl.cells)[a.line.toNat]?=some d.cells:=by rw [List.getElem?_map,hd];rfl
   have bad:zsi c m a=false->ok=false:=fun h=>by rw [h2,List.all_cons,h];rfl
   have good:zsi c m a=true->ok=rest.all (zsi c m):=fun h=>by rw [h2,List.all_cons,h];rfl
   have hart:zsi c m a=(zhb a&&a.unless_.all (fun n=>(yf n m).isSome)&&a.when_.all (fun e=>(zac c m e tT).1)&&(zac c m a.amount d.unit).1):=by
    rw [<-hlu];rfl
   have hamt:∀{H:List SObj} {mi ni:Nat},mi≠ni->H[mi]?=some (.mapI .i64 (jo sI m))->H[ni]?=some (.cells [sI 0])->_:=fun {H mi ni} q1 q2 q3=>ydt G c hcs m hm a.amount 1 0 (by omega) (by omega) (by omega) (by omega) (H:=H) (mi:=mi) (ni:=ni) q1 q2 q3
   have hday:=zfo G a.known
   have bad1:¬(0<=a.rank/\a.rank<=1000000/\0<=a.lo/\a.lo<a.hi/\a.hi<=36525/\zkl a.known=true)->ok=false:=fun h=>bad (by
    rw [hart];have:zhb a=false:=by
     cases hb:zhb a with
     |false=>rfl
     |true=>
      unfold zhb at hb;simp only [Bool.and_eq_true,decide_eq_true_eq] at hb;exact absurd ⟨by omega,by omega,by omega,by omega,by omega,by unfold zkl;simp;omega⟩ h
    rw [this];rfl)
   have good1:0<=a.rank/\a.rank<=1000000/\0<=a.lo/\a.lo<a.hi/\a.hi<=36525/\zkl a.known=true->zhb a=true:=fun h=>by
    unfold zhb;have h5:=h.2.2.2.2.2;unfold zkl at h5;simp only [decide_eq_true_eq] at h5;simp only [Bool.and_eq_true,decide_eq_true_eq];omega
   obtain ⟨op,n,u,den,ps,ks,ham⟩:∃op n u den ps ks,a.amount= .mk op n u den ps ks:=by cases h:a.amount;exact ⟨_,_,_,_,_,_,rfl⟩
   have hrow:(c.arts.map Article.cells)[done.length]?=some [dI a.number,dI a.line,dI a.rank,dI a.lo,dI a.hi,dI a.known,jc a.when_,yh a.unless_,dI op,dI n,dS u,dI den,.isl 3 (ps.map Piece.cells),.isl 6 (zo ks)]:=by
    simp [ha,Article.cells,ham,wg,Ex.op,Ex.n,Ex.unit,Ex.den,Ex.pieces,Ex.kids]
   rw [ham] at hamt hart;(refine ze ?_;conv=>whnf)
   repeat' ((with_reducible refine way ?_ ?_)<;>(intro h;conv=>whnf))
   all_goals try (exfalso;omega)
   refine zi (i:=done.length) (row:=[dI a.number,dI a.line,dI a.rank,dI a.lo,dI a.hi,dI a.known,jc a.when_,yh a.unless_,dI op,dI n,dS u,dI den,.isl 3 (ps.map Piece.cells),.isl 6 (zo ks)]) rfl rfl hrow ?_;(refine zc ?_;conv=>whnf)
   repeat' ((with_reducible refine way ?_ ?_)<;>(intro h;conv=>whnf))
   all_goals try exact kB hK (bad1 (by omega))
   refine zd rfl  hday ?_;cases hdk:zkl a.known with
   |false=>
    (refine zc ?_;conv=>whnf);exact kB hK (bad1 (fun h=>by rw [hdk] at h;exact Bool.noConfusion h.2.2.2.2.2))
   |true=>
   have good1:=good1 ⟨by omega,by omega,by omega,by omega,by omega,hdk⟩;rw [good1,Bool.true_and] at hart;clear bad1;(refine zc ?_;conv=>whnf);refine zg [1,3,9,84,85,86,122,123,124] ?_;change SW E _ [(1,.ptr 0 0),(3,.map 1),(9,.ptr 2 0),(84,.imm (wm c.arts)),(85,sI (c.arts.length:Nat)),(86,sI (done.length:Nat)),(122,.imm (yh a.unless_)),(123,sI ((a.unless_.map fun n=>[dI n]).length:Nat)),(124,sI (0:Nat))]
    [.cells [.imm (zx c.facts),.imm (zx c.lines),.imm (wm c.arts)],.mapI .i64 (jo sI m),.cells (zvt a op n u den ps ks)]
   rw [hul];refine zp a.unless_ (fun i (_:Unit)=>[(1,.ptr 0 0),(3,.map 1),(9,.ptr 2 0),(84,.imm (wm c.arts)),(85,sI (c.arts.length:Nat)),(86,sI (done.length:Nat)),(122,.imm (yh a.unless_)),(123,sI (a.unless_.length:Nat)),(124,sI (i:Nat))])
    (fun _ _=>[.cells [.imm (zx c.facts),.imm (zx c.lines),.imm (wm c.arts)],.mapI .i64 (jo sI m),.cells (zvt a op n u den ps ks)])
    (fun dj _ _=>dj.all (fun n=>(yf n m).isSome)=true) () rfl ?_ ?_
   ·rintro _ hu1
    rw [hu1,Bool.true_and] at hart;(refine ze ?_;conv=>whnf)
    repeat' ((with_reducible refine way ?_ ?_)<;>(intro h;conv=>whnf))
    all_goals try (exfalso;omega)
    refine zg [1,3,9,84,85,86,138,139,140] ?_;change SW E _ [(1,.ptr 0 0),(3,.map 1),(9,.ptr 2 0),(84,.imm (wm c.arts)),(85,sI (c.arts.length:Nat)),(86,sI (done.length:Nat)),(138,.imm (jc a.when_)),(139,sI ((a.when_.map Ex.cells).length:Nat)),(140,sI (0:Nat))]
     [.cells [.imm (zx c.facts),.imm (zx c.lines),.imm (wm c.arts)],.mapI .i64 (jo sI m),.cells (zvt a op n u den ps ks)]
    rw [hwl];refine zp a.when_ (fun i (_:Unit)=>[(1,.ptr 0 0),(3,.map 1),(9,.ptr 2 0),(84,.imm (wm c.arts)),(85,sI (c.arts.length:Nat)),(86,sI (done.length:Nat)),(138,.imm (jc a.when_)),(139,sI (a.when_.length:Nat)),(140,sI (i:Nat))])
     (fun _ _=>[.cells [.imm (zx c.facts),.imm (zx c.lines),.imm (wm c.arts)],.mapI .i64 (jo sI m),.cells (zvt a op n u den ps ks)])
     (fun dj _ _=>dj.all (fun e=>(zac c m e tT).1)=true) () rfl ?_ ?_
    ·rintro _ hw1
     rw [hw1,Bool.true_and] at hart;(refine ze ?_;conv=>whnf)
     repeat' ((with_reducible refine way ?_ ?_)<;>(intro h;conv=>whnf))
     all_goals try (exfalso;omega)
     (refine xf 0 mixed rfl ?_;refine zn [777] (nx:=4) ?_;conv=>whnf);refine qn rfl (by exact (by decide:4<=4)) (i:=a.line.toNat) (by omega) (row:=d.cells) hdr ?_;(refine zn [777,173] (nx:=4) ?_;conv=>whnf);have hwr:(zac c m (.mk op n u den ps ks) d.unit).1=if u=d.unit then (qz c m (.mk op n u den ps ks) 1 0).1 else false:=by
      unfold zac;show (if u=d.unit then _ else _:Bool × Int).1=_;split<;>rfl
     rw [hwr] at hart
     repeat' ((with_reducible refine way ?_ ?_)<;>(intro h;conv=>whnf))
     ·rw [if_pos h] at hart
      refine yug 4 (r:=sB (qz c m (.mk op n u den ps ks) 1 0).1) (wr:=some (3,.cells [sI (qz c m (.mk op n u den ps ks) 1 0).2])) rfl rfl rfl rfl rfl rfl (by exact (by decide:4<=4)) (by exact (by decide:4<=4)) (by rintro b ob h;cases h;exact (by decide:3<4)) ((hamt (mi:=1) (ni:=3) (by decide) rfl rfl).mono ?_) ?_
      ·rintro r H1 ⟨rfl,rfl⟩;exact ⟨rfl,rfl⟩
      rw [<-hart];cases hao:zsi c m a with
      |true=>
       (refine zn [777,173] (nx:=4) ?_;conv=>whnf);refine zaf ⟨sB false,[],none⟩ rfl rfl (by exact (by decide:4<=4)) (fun _ _ _=>rfl) ?_;refine qf (by kernel_rfl) ?_;(refine ze ?_;conv=>whnf);rw [hw];have hu2:([.cells [.imm (zx c.facts),.imm (zx c.lines),.imm (wm c.arts)],.mapI .i64 (jo sI m)]:List SObj).all (SObj.under 2)=true:=by simp [zgz];rfl
       exact yz [1,3,84,85,86] 2 (by simp [hH]) (by exact (by decide:2<=4)) rfl hu2 (ih () (good hao))
      |false=>
       (refine zn [777,173] (nx:=4) ?_;conv=>whnf);refine zaf ⟨sB true,[],none⟩ rfl rfl (by exact (by decide:4<=4)) (fun _ _ _=>rfl) ?_;refine qf (by kernel_rfl) ?_;(refine ze ?_;conv=>whnf);exact kB hK (bad hao)
     ·rw [if_neg h] at hart
      refine zaf ⟨sB true,[],none⟩ rfl rfl (by exact (by decide:4<=4)) (fun _ _ _=>rfl) ?_;refine qf (by kernel_rfl) ?_;(refine ze ?_;conv=>whnf);exact kB hK (bad hart)
    ·rintro dj e rj _ hdj hdjl hw1 ih2
     have hwj:=zk (n:=dj.length) (by omega);have hcall:∀{H:List SObj} {mi ni:Nat},mi≠ni->H[mi]?=some (.mapI .i64 (jo sI m))->H[ni]?=some (.cells [sI 0])->_:=fun {H mi ni} q1 q2 q3=>zul G c hcs m hm e 1 0 (by omega) (by omega) (by omega) (by omega) (H:=H) (mi:=mi) (ni:=ni) q1 q2 q3
     have bad2:(zac c m e tT).1=false->ok=false:=fun h=>bad (by rw [hart,hdj,List.all_append,List.all_cons,h,Bool.false_and,Bool.and_false,Bool.false_and])
     have hrx:(a.when_.map Ex.cells)[dj.length]?=some e.cells:=by rw [hdj];simp
     have hwr:(zac c m e tT).1=if e.unit=tT then (qz c m e 1 0).1 else false:=by unfold zac;split<;>rfl
     have ih2:(zac c m e tT).1=true->_:=fun h=>ih2 () (by rw [List.all_append,hw1,List.all_cons,h];rfl)
     generalize (zac c m e tT).1=wb at bad2 hwr ih2;obtain ⟨o1,n1,u1,d1,p1,q1⟩:=e;(refine ze ?_;conv=>whnf)
     repeat' ((with_reducible refine way ?_ ?_)<;>(intro h;conv=>whnf))
     all_goals try (exfalso;omega)
     refine zi (i:=dj.length) (row:=(Ex.mk o1 n1 u1 d1 p1 q1).cells) rfl rfl hrx ?_;(refine zc ?_;conv=>whnf)
     repeat' ((with_reducible refine way ?_ ?_)<;>(intro h;conv=>whnf))
     ·refine zv rfl rfl rfl rfl rfl rfl ((hcall (mi:=1) (ni:=4) (by decide) rfl rfl).mono ?_)
      rintro r H' ⟨rfl,rfl⟩;refine ⟨by rw [List.length_set];exact Nat.le_refl _,?_⟩;rw [if_pos (show (Ex.mk o1 n1 u1 d1 p1 q1).unit=tT from h)] at hwr;rw [<-hwr];cases wb with
      |false=>
       (refine zc ?_;conv=>whnf);exact kB hK (bad2 rfl)
      |true=>
       (refine zc ?_;conv=>whnf);rw [hwj];exact yz [1,3,9,84,85,86,138,139,140] 3 (by simp [hH]) (by simp) rfl (by simp [zgz];exact ⟨rfl,rfl⟩) (ih2 rfl)
     ·rw [if_neg (fun h':(Ex.mk o1 n1 u1 d1 p1 q1).unit=tT=>h h')] at hwr
      exact kB hK (bad2 hwr)
   ·rintro dj x rj _ hdj hdjl hu1 ih2
    have hwj:=zk (n:=dj.length) (by omega);have bad2:(yf x m).isSome=false->ok=false:=fun h=>bad (by rw [hart,hdj,List.all_append,List.all_cons,h,Bool.false_and,Bool.and_false,Bool.false_and,Bool.false_and])
    have hrx:(a.unless_.map fun n=>[dI n])[dj.length]?=some [dI x]:=by rw [hdj];simp
    (refine ze ?_;conv=>whnf)
    repeat' ((with_reducible refine way ?_ ?_)<;>(intro h;conv=>whnf))
    all_goals try (exfalso;omega)
    refine zi (i:=dj.length) (row:=[dI x]) rfl rfl hrx ?_;(refine zc ?_;conv=>whnf);cases hlk:yf x m with
    |none=>
     refine zbh sI rfl rfl rfl rfl rfl rfl rfl rfl rfl (v:=sI 0) (p:=false) (by rw [hlk];rfl) (by rw [hlk];rfl) ?_;(refine zc ?_;conv=>whnf);exact kB hK (bad2 (by rw [hlk];rfl))
    |some v=>
     refine zbh sI rfl rfl rfl rfl rfl rfl rfl rfl rfl (v:=sI v) (p:=true) (by rw [hlk];rfl) (by rw [hlk];rfl) ?_;(refine zc ?_;conv=>whnf);rw [hwj];exact zg [1,3,9,84,85,86,122,123,124] (ih2 () (by rw [List.all_append,hu1,List.all_cons,hlk];rfl))
 ·rintro done a rest m ha hl h1 ih
  have hw:=zk (n:=done.length) (by omega);obtain ⟨op,n,u,den,ps,ks,ham⟩:∃op n u den ps ks,a.amount= .mk op n u den ps ks:=by cases h:a.amount;exact ⟨_,_,_,_,_,_,rfl⟩
  have hrow:(c.arts.map Article.cells)[done.length]?=some [dI a.number,dI a.line,dI a.rank,dI a.lo,dI a.hi,dI a.known,jc a.when_,yh a.unless_,dI op,dI n,dS u,dI den,.isl 3 (ps.map Piece.cells),.isl 6 (zo ks)]:=by
   simp [ha,Article.cells,ham,wg,Ex.op,Ex.n,Ex.unit,Ex.den,Ex.pieces,Ex.kids]
  simp only [jf] at h1;have bad:jf c.lines.length c.arts []=none->ok=false:=fun h=>by rw [hok,h]
  (refine ze ?_;conv=>whnf)
  repeat' ((with_reducible refine way ?_ ?_)<;>(intro h;conv=>whnf))
  all_goals try (exfalso;omega)
  refine zi (i:=done.length) (row:=[dI a.number,dI a.line,dI a.rank,dI a.lo,dI a.hi,dI a.known,jc a.when_,yh a.unless_,dI op,dI n,dS u,dI den,.isl 3 (ps.map Piece.cells),.isl 6 (zo ks)]) rfl rfl hrow ?_;(refine zc ?_;conv=>whnf)
  repeat' ((with_reducible refine way ?_ ?_)<;>(intro h;conv=>whnf))
  all_goals try exact kB hK (bad (by rw [h1,if_neg (by omega)]))
  rw [if_pos (by omega)] at h1;cases hlk:yf a.number m with
  |none=>
   rw [hlk] at h1;refine zbh sI rfl rfl rfl rfl rfl rfl rfl rfl rfl (v:=sI 0) (p:=false) (by rw [hlk];rfl) (by rw [hlk];rfl) ?_;(refine zc ?_;conv=>whnf);refine zea sI a.line rfl rfl rfl rfl rfl rfl rfl rfl rfl ?_;(refine zc ?_;conv=>whnf);rw [hw];exact yz [1,3,36,37,38] 2 (by simp [hH]) (by simp) rfl (by simp [zgz];rfl) (ih _ h1)
  |some l=>
   rw [hlk] at h1;refine zbh sI rfl rfl rfl rfl rfl rfl rfl rfl rfl (v:=sI l) (p:=true) (by rw [hlk];rfl) (by rw [hlk];rfl) ?_;(refine zc ?_;conv=>whnf)
   repeat' ((with_reducible refine way ?_ ?_)<;>(intro h;conv=>whnf))
   ·exact kB hK (bad (by rw [h1];simp only;rw [if_neg h]))
   ·simp only at h1
    rw [if_pos (by omega)] at h1;refine zea sI a.line rfl rfl rfl rfl rfl rfl rfl rfl rfl ?_;(refine zc ?_;conv=>whnf);rw [hw];exact yz [1,3,36,37,38] 2 (by simp [hH]) (by simp) rfl (by simp [zgz];rfl) (ih _ h1)
def yah (prev:Option Int) (p:Fact):Bool:=
 match prev with
 |none=>true
 |some k=>decide (k<=p.known)
theorem yai (prev:Option Int) (p:Fact) (r:List Fact):zcu prev (p::r)=(ztg p&&yah prev p&&zcu (some p.known) r):=by
 cases prev with
 |none=>rw [zcu,yah,Bool.and_true]
 |some k=>rw [zcu,yah]
theorem zwo (l:List Fact) (hl:l.length<=1000000000):zq Tryz.prog G 64 [.imm (jd l)] (sB (zjk l)):=by
 have hlen:(l.map Fact.cells).length=l.length:=by simp
 have hok:zjk l=(decide (l.length<=400)&&zcu none l):=rfl;generalize zjk l=ok at hok;refine zh Tryz.func64 rfl (by rw [Tryz.ntmps64];simp) rfl rfl ?_;intro E hH hK;(refine ze ?_;conv=>whnf)
 repeat' ((with_reducible refine way ?_ ?_)<;>(intro h;conv=>whnf))
 ·exact kB hK (by rw [hok,decide_eq_false (by omega)];rfl)
 rw [decide_eq_true (by omega),Bool.true_and] at hok;refine zg [0,8,9,10] ?_;change SW E _ [(0,.imm (jd l)),(8,.imm (jd l)),(9,sI ((l.map Fact.cells).length:Nat)),(10,sI (0:Nat))] [];rw [hlen];refine zp l (fun i (_:Unit)=>[(0,.imm (jd l)),(8,.imm (jd l)),(9,sI (l.length:Nat)),(10,sI (i:Nat))]) (fun _ _=>[]) (fun done rest _=>zcu none l=zcu (zbp done) rest) () rfl ?_ ?_
 ·rintro _ hv
  (refine ze ?_;conv=>whnf)
  repeat' ((with_reducible refine way ?_ ?_)<;>(intro h;conv=>whnf))
  all_goals try (exfalso;omega)
  exact kB hK (by rw [hok,hv];rfl)
 ·rintro done p rest _ hda hdl hv ih
  have hw:=zk (n:=done.length) (by omega);have hp:(l.map Fact.cells)[done.length]?=some p.cells:=by rw [hda];simp
  have hn1:=zec G p.person;have hn2:=zec G p.name;have hday:=zfo G p.known;rw [yai] at hv;have bad:(ztg p&&yah (zbp done) p)=false->ok=false:=fun h=>by rw [hok,hv,h];rfl
  have good:(ztg p&&yah (zbp done) p)=true->zcu none l=zcu (zbp (done++[p])) rest:=fun h=>by rw [hv,h,zit];rfl
  have hform:ztg p=(qj p.person&&qj p.name&&decide (0<=p.lo/\p.lo<p.hi/\p.hi<=36525/\0<=p.known/\p.known<=36524/\ -1000000000000<=p.value/\p.value<=1000000000000)&&(!p.gone||decide (p.value=0))):=rfl;have hdk:zkl p.known=decide (0<=p.known/\p.known<=36524):=rfl;rw [hform] at bad good;generalize qj p.person=b1 at hn1 bad good;generalize qj p.name=b2 at hn2 bad good;generalize zkl p.known=b3 at hday hdk;have ih:=fun h=>ih () (good h)
  have hseq:(done=[]/\yah (zbp done) p=true)\/∃q:Fact,1<=done.length/\(l.map Fact.cells)[done.length-1]?=some q.cells/\yah (zbp done) p=decide (q.known<=p.known):=by
   rcases ztf done with rfl|⟨init,q,rfl⟩
   ·exact .inl ⟨rfl,rfl⟩
   ·refine .inr ⟨q,by simp,?_,by rw [zit];rfl⟩
    rw [hda,List.length_append,List.length_cons,List.length_nil,Nat.zero_add,Nat.add_sub_cancel,List.append_assoc];simp
  have w1:IntKind.i64.wrap ((done.length:Int)-1)=((done.length:Int)-1):=zt (by omega) (by omega);generalize yah (zbp done) p=sq at bad ih hseq;(refine ze ?_;conv=>whnf)
  repeat' ((with_reducible refine way ?_ ?_)<;>(intro h;conv=>whnf))
  all_goals try (exfalso;omega)
  refine zi (i:=done.length) (row:=p.cells) rfl rfl hp ?_;(refine zc ?_;conv=>whnf);refine yc mixed rfl ?_;(refine zf [] ?_;conv=>whnf);refine ym rfl  hn1 ?_;cases b1 with
  |false=>
   (refine zf [] ?_;conv=>whnf);(refine ze ?_;conv=>whnf);exact kB hK (bad rfl)
  |true=>
  (refine zf [] ?_;conv=>whnf);refine ym rfl  hn2 ?_;cases b2 with
  |false=>
   (refine zf [] ?_;conv=>whnf);(refine ze ?_;conv=>whnf);exact kB hK (bad rfl)
  |true=>
  (refine zf [] ?_;conv=>whnf);refine ym rfl  hday ?_;cases b3 with
  |false=>
   have hdk:=of_decide_eq_false hdk.symm;(refine zf [] ?_;conv=>whnf);(refine ze ?_;conv=>whnf);exact kB hK (bad (by rw [decide_eq_false (by omega)];rfl))
  |true=>
  have hdk:=of_decide_eq_true hdk.symm;(refine zf [] ?_;conv=>whnf)
  repeat' ((with_reducible refine way ?_ ?_)<;>(intro h;conv=>whnf))
  ·rcases hseq with ⟨h0,_⟩|⟨q,hq1,hq2,hq3⟩
   ·rw [h0] at h
    exact absurd h (by decide)
   rw [w1];refine yx (i:=done.length-1) (row:=q.cells) rfl (by omega) hq2 ?_;(refine zf [] ?_;conv=>whnf);(refine ze ?_;conv=>whnf)
   repeat' ((with_reducible refine way ?_ ?_)<;>(intro h;conv=>whnf))
   all_goals try exact kB hK (bad (by rw [hq3,decide_eq_false (show ¬q.known<=p.known by omega),Bool.and_false]))
   all_goals try exact kB hK (bad (by rw [decide_eq_false (by omega)];rfl))
   all_goals try exact kB hK (bad (by rw [‹p.gone=true›,decide_eq_false ‹¬p.value=0›];simp))
   all_goals
    rw [hw];refine yz [0,8,9,10] 0 (by simp [hH]) (Nat.zero_le _) rfl rfl (ih ?_);rw [hq3,decide_eq_true (show q.known<=p.known by omega),decide_eq_true (show 0<=p.lo/\p.lo<p.hi/\p.hi<=36525/\0<=p.known/\p.known<=36524/\ -1000000000000<=p.value/\p.value<=1000000000000 by omega)]
    first|(rw [‹p.gone=false›];rfl)|(rw [decide_eq_true ‹p.value=0›];simp)
  ·rcases hseq with ⟨h0,hq3⟩|⟨q,hq1,hq2,hq3⟩
   case inr=>exact absurd (show (0:Int)<(done.length:Int) by omega) h
   (refine ze ?_;conv=>whnf)
   repeat' ((with_reducible refine way ?_ ?_)<;>(intro h;conv=>whnf))
   all_goals try exact kB hK (bad (by rw [decide_eq_false (by omega)];rfl))
   all_goals try exact kB hK (bad (by rw [‹p.gone=true›,decide_eq_false ‹¬p.value=0›];simp))
   all_goals
    rw [hw];refine yz [0,8,9,10] 0 (by simp [hH]) (Nat.zero_le _) rfl rfl (ih ?_);rw [hq3,decide_eq_true (show 0<=p.lo/\p.lo<p.hi/\p.hi<=36525/\0<=p.known/\p.known<=36524/\ -1000000000000<=p.value/\p.value<=1000000000000 by omega)]
    first|(rw [‹p.gone=false›];rfl)|(rw [decide_eq_true ‹p.value=0›];simp)
variable {G:List (Nat × D)}
theorem yaj (c:Codex) (m:List (Int × Int)) (N:Nat):(∀e:Ex,SizeOf.sizeOf e<N->zyh c m e->zbq e<=1000000->zlz e)/\(∀ks:List Ex,SizeOf.sizeOf ks<N->zvu c m ks->zcv ks<=1000000->zfb ks):=by
 induction N with
 |zero=>exact ⟨fun e h=>by omega,fun e h=>by omega⟩
 |succ N ih=>
  refine ⟨fun e he h hs=>?_,fun ks hk h hs=>?_⟩
  ·obtain ⟨op,n,u,den,ps,ks⟩:=e
   simp only [Ex.mk.sizeOf_spec] at he;unfold zyh at h;unfold zbq at hs;have:=yuv h.1;have h2:=zjm ks;unfold zlz;exact ⟨by omega,by omega,ih.2 ks (by omega) h.2 (by omega)⟩
  ·cases ks with
   |nil=>unfold zfb;trivial
   |cons k r=>
    simp only [List.cons.sizeOf_spec] at hk;unfold zvu at h;unfold zcv at hs;unfold zfb;exact ⟨ih.1 k (by omega) h.1 (by omega),ih.2 r (by omega) h.2 (by omega)⟩
theorem yak:∀{ks:List Ex},(∀k∈ks,zlz k)->zfb ks
 |[],_=>by unfold zfb;trivial
 |k::r,h=>by unfold zfb;exact ⟨h k (by simp),yak fun x hx=>h x (by simp [hx])⟩
theorem yvt {c:Codex} (h:zdq c=true) (hfew:∀a∈c.arts,a.when_.length<=1000000/\a.unless_.length<=1000000):∃m,MFit c m:=by
 obtain ⟨_,h2,m,_,h4⟩:=zks h;refine ⟨m,by omega,fun a ha=>⟨(hfew a ha).1,yak fun e he=>?_,(hfew a ha).2,?_⟩,fun a ha=>?_,fun a ha w hw=>?_⟩
 ·have:=(h4 a ha).2.2.1 e he
  exact (yaj c m _).1 e (Nat.lt_succ_self _) this.1 (by omega)
 ·have:=(h4 a ha).2.2.2
  exact (yaj c m _).1 a.amount (Nat.lt_succ_self _) this.1 (by omega)
 ·have:=(h4 a ha).2.2.2
  exact ⟨this.1,by omega⟩
 ·have:=(h4 a ha).2.2.1 w hw
  exact ⟨this.1,by omega⟩
theorem yvu {c:Codex} (hf:c.facts.length<=1000000) (l:List Fact) (person:ByteArray) {day:Int} (known:Int) (hd:0<=day/\day<=36524):AFit c (zbr c l person day known):=
 ⟨hf,by simp [zbr],by simp [zbr],by simp [zbr],hd⟩
theorem ydu {c:Codex} {s:List Int × List Int} {i:Int} (h:∀v∈s.2,0<=v/\v<c.arts.length) (hi:0<=i/\i<c.arts.length):∀v∈(zel s i).2,0<=v/\v<c.arts.length:=by
 intro v hv;unfold zel at hv;simp only at hv;split at hv
 ·rcases List.mem_append.1 hv with hv|hv
  ·exact h v hv
  ·rw [List.mem_singleton] at hv
   subst hv;exact hi
 ·exact h v hv
theorem zrn {c:Codex}:∀(l:List Int) {s:List Int × List Int},(∀v∈s.2,0<=v/\v<c.arts.length)->(∀i∈l,0<=i/\i<c.arts.length)->∀v∈(l.foldl zel s).2,0<=v/\v<c.arts.length
 |[],_,h,_=>h
 |i::l,_,h,hl=>zrn l (ydu h (hl i (by simp))) (fun j hj=>hl j (by simp [hj]))
theorem zro {c:Codex}:∀(f next:Nat) {s:List Int × List Int},(∀v∈s.2,0<=v/\v<c.arts.length)->∀v∈(zbf c f next s).2,0<=v/\v<c.arts.length
 |0,_,_,h=>h
 |f+1,next,s,h=>by
  rw [zbf];split
  ·exact h
  ·exact zro f (next+1) (zrn _ h (fun i hi=>yfo hi))
theorem ysg (c:Codex):∀v∈yih c,0<=v/\v<c.arts.length:=zro _ _ (ztk c).mem
theorem ygl {k v:Int}:∀{m:List (Int × Int)} {p:Int × Int},p∈zcz k v m->p=(k,v)\/p∈m
 |[],p,h=>by simp [zcz] at h;exact .inl h
 |q::r,p,h=>by
  obtain ⟨a,b⟩:=q;rw [zcz] at h;split at h
  ·rcases List.mem_cons.1 h with h|h
   ·exact .inl h
   ·exact .inr (by simp [h])
  ·rcases List.mem_cons.1 h with h|h
   ·exact .inr (by simp [h])
   ·rcases ygl h with h|h
    ·exact .inl h
    ·exact .inr (by simp [h])
theorem yal {c:Codex} {day known:Int} {m:List (Int × Int)} {x:Article × Nat} {n:Nat} (h:∀p∈m,0<=p.2/\p.2<n) (hx:x.2<n):∀p∈zay c day known m x,0<=p.2/\p.2<n:=by
 have h2:∀p∈zcz x.1.number (x.2:Int) m,0<=p.2/\p.2<n:=fun p hp=>by
  rcases ygl hp with rfl|hp
  ·simp only
   omega
  ·exact h p hp
 intro p hp;unfold zay at hp;split at hp
 ·exact h p hp
 ·split at hp
  ·exact h2 p hp
  ·split at hp
   ·split at hp
    ·exact h2 p hp
    ·exact h p hp
   ·exact h p hp
theorem zni {c:Codex} {day known:Int} {n:Nat}:∀(l:List (Article × Nat)) {m:List (Int × Int)},(∀p∈m,0<=p.2/\p.2<n)->(∀x∈l,x.2<n)->(∀p∈l.foldl (zay c day known) m,0<=p.2/\p.2<n)/\(l.foldl (zay c day known) m).length<=m.length+l.length
 |[],_,h,_=>⟨h,Nat.le_refl _⟩
 |x::l,m,h,hl=>by
  have:=zni (c:=c) (day:=day) (known:=known) l (yal (c:=c) (day:=day) (known:=known) h (hl x (by simp))) (fun y hy=>hl y (by simp [hy]));have h2:=yfy c day known m x;rw [List.foldl_cons,List.length_cons];exact ⟨this.1,by omega⟩
theorem yvv (c:Codex) (day known:Int):(∀o∈inA c day known,0<=o/\o<c.arts.length)/\(inA c day known).length<=c.arts.length:=by
 have h:=zni (c:=c) (day:=day) (known:=known) (n:=c.arts.length) c.arts.zipIdx (m:=[]) (fun p hp=>by cases hp) (fun x hx=>by
  have:=List.snd_lt_of_mem_zipIdx hx
  omega)
 refine ⟨fun o ho=>?_,?_⟩
 ·unfold inA at ho
  rw [List.mem_mergeSort] at ho;obtain ⟨p,hp,rfl⟩:=List.mem_map.1 ho;exact h.1 p hp
 ·unfold inA
  rw [List.length_mergeSort,List.length_map];have:=h.2;rw [List.length_zipIdx,List.length_nil,Nat.zero_add] at this;exact this
theorem yjo (S:AM) (U:List Bool):(zhf S U).length<=U.length:=by
 unfold zhf;refine Nat.le_trans (zqh _) ?_;rw [List.length_mergeSort];exact zqp S U U.length
theorem yoj (c:Codex) (a:Article):(zjn c a).length=c.facts.length:=by
 unfold zjn;rw [(zfc _).2 a.when_ (Nat.lt_succ_self _),(zfc _).1 a.amount (Nat.lt_succ_self _),List.length_replicate]
theorem yjp (c:Codex) (inF:List Int) (st:List (Int × Int)) (a:Article):(zkt c inF st a).length<=inF.length:=List.length_filter_le _ _
def ygm (c:Codex) (S:AM) (inF:List Int) (q s:Nat):List SV:=[.imm (zx c.facts),.imm (zx c.lines),.imm (wm c.arts),sI S.day,.imm (zag S.has),.imm (yh S.vals),.imm (yh S.nums),.imm (yh inF),.map q,.map s]
theorem zlh (σ:Nat->Nat) (m:List (Int × Int)):(SObj.mapI .i64 (jo sI m)).ren σ= .mapI .i64 (jo sI m):=by
 simp [SObj.ren,jo,SV.ren]
theorem yok {f:FuncId} {arg r0:SV} {c:Codex} {S:AM} {inF:List Int} {st am st' am':List (Int × Int)} (h:SPre Tryz.prog G f [.ptr 0 0,arg] (MH c S inF st am) (fun r H1=>r=r0/\H1=MH c S inF st' am'))
  (harg:∀σ,arg.ren σ=arg) (hau:arg.under 3=true) (hr:∀σ,r0.ren σ=r0) {H:List SObj} {p q s:Nat} (hpq:p≠q) (hps:p≠s) (hqs:q≠s)
  (hp:H[p]?=some (.cells (ygm c S inF q s))) (hq:H[q]?=some (.mapI .i64 (jo sI st))) (hs:H[s]?=some (.mapI .i64 (jo sI am))):
  SCall Tryz.prog G f [.ptr p 0,arg] H (fun r H'=>r=r0/\H'=(H.set q (.mapI .i64 (jo sI st'))).set s (.mapI .i64 (jo sI am'))):=by
 have hpl:=lt_of_getElem? hp;have hql:=lt_of_getElem? hq;have hsl:=lt_of_getElem? hs;have h0:=h [];rw [List.append_nil] at h0;have hlen:(MH c S inF st am).length=3:=rfl;have:=zpm (K':=fun r H'=>r=r0/\H'=(H.set q (.mapI .i64 (jo sI st'))).set s (.mapI .i64 (jo sI am'))) h0 (H:=H) (fun i=>if i=0 then p else if i=1 then q else if i=2 then s else H.length+(i-3)) ?_ ?_ ?_ ?_ (jr c S inF st am) ?_
 ·have e1:([.ptr 0 0,arg]:List SV).map (SV.ren (fun i=>if i=0 then p else if i=1 then q else if i=2 then s else H.length+(i-3)))=[.ptr p 0,arg]:=by
   simp only [List.map_cons,List.map_nil,harg];rfl
  rw [e1] at this;exact this
 ·intro b b' hb hb' h
  rw [hlen] at hb hb';rcases (show b=0\/b=1\/b=2 by omega) with rfl|rfl|rfl<;>rcases (show b'=0\/b'=1\/b'=2 by omega) with rfl|rfl|rfl<;>
   first|rfl|(exact absurd h hpq)|(exact absurd h hps)|(exact absurd h hqs)|(exact absurd h.symm hpq)|(exact absurd h.symm hps)|(exact absurd h.symm hqs)
 ·intro i
  simp only [hlen];rw [if_neg (by omega),if_neg (by omega),if_neg (by omega)];omega
 ·intro b o hb
  match b,hb with
  |0,hb=>
   injection hb with hb
   subst hb;exact hp
  |1,hb=>
   injection hb with hb
   subst hb;rw [zlh];exact hq
  |2,hb=>
   injection hb with hb
   subst hb;rw [zlh];exact hs
  |b+3,hb=>simp [MH] at hb
 ·simp only [List.all_cons,List.all_nil,hlen,hau]
  rfl
 ·rintro r H1 H' ⟨H2,⟨rfl,rfl⟩,hl2,rfl⟩ hle hl3 hsame hother
  refine ⟨hr _,?_⟩;rw [List.append_nil] at hl3 hsame hle;have hl4:H'.length=H.length:=by
   have:(MH c S inF st' am').length=3:=rfl;rw [this,hlen] at hl3;omega
  apply List.ext_getElem?
  intro i
  by_cases his:i=s
  ·subst his
   rw [List.getElem?_set_self (by rw [List.length_set];exact hsl)];have:=hsame 2 _ rfl;rw [zlh] at this;exact this
  ·rw [List.getElem?_set_ne (fun h=>his h.symm)]
   by_cases hiq:i=q
   ·subst hiq
    rw [List.getElem?_set_self hql];have:=hsame 1 _ rfl;rw [zlh] at this;exact this
   ·rw [List.getElem?_set_ne (fun h=>hiq h.symm)]
    by_cases hip:i=p
    ·subst hip
     have:=hsame 0 _ rfl;exact this.trans hp.symm
    ·rcases Nat.lt_or_ge i H.length with hlt|hge
     ·refine hother i hlt (fun b hb h=>?_)
      rw [hlen] at hb;rcases (show b=0\/b=1\/b=2 by omega) with rfl|rfl|rfl
      ·exact hip h.symm
      ·exact hiq h.symm
      ·exact his h.symm
     ·rw [List.getElem?_eq_none (by omega),List.getElem?_eq_none hge]
variable (G:List (Nat × D))
def ywl (x:Ln):SV:=.agg (lnC x)
def zwp (c:Codex) (line:Ln) (S:AM) (inF:List Int) (st am:List (Int × Int)):List SObj:=
 [zbx c,.cells (lnC line),zbx c,.mapI .i64 (jo sI st),.mapI .i64 (jo sI am),.cells (ygm c S inF 3 4),.dead,.dead,.dead]
theorem yol {c:Codex} {S:AM} {inF:List Int} {s:List (Int × Int) × List (Int × Int)} {line:Ln} (h:∀o∈inF,¬(o=line.art/\(yf o s.1).getD 0=2)):zft c S inF s line=false:=by
 unfold zft;split
 ·rw [if_neg]
  rintro ⟨h1,h2⟩;exact h _ h1 ⟨rfl,h2⟩
 ·rfl
theorem ydv (c : Codex) (hfit : Codex.fit c) (hcs : c.facts.length <= 1000000) (hls : c.lines.length <= 1000000) (has : c.arts.length <= 1000000) (hfew : ∀ a ∈ c.arts, a.when_.length <= 1000000 /\ a.unless_.length <= 1000000)
    (l : List Fact) (hl : l.length <= 1000000) (person : ByteArray) (known : Int) (line : Ln) : zq Tryz.prog G 19 [c.sv, .imm (jd l), sS person, sI known, ywl line] (sB (zcx c l person known line)) := by
  have hvc := zwn G c hfit hcs hls has
  have hvf := zwo G l (by omega)
  have hd1 := zfo G line.day
  have hd2 := zfo G known
  have hrep : zcx c l person known line = (zdq c && zjk l && zkl line.day && zkl known && decide ((yih c).length = c.arts.length) &&
      zft c (zbr c l person line.day known) (inA c line.day known) (yxh c (zbr c l person line.day known) (inA c line.day known) (yih c)) line) := by
    unfold zcx zkl
    simp only [Bool.decide_and]
  rw [hrep]
  clear hrep
  refine zh Tryz.func19 rfl (by rw [Tryz.ntmps19]; simp) rfl rfl ?_; intro E hH hK
  rw [show ywl line = .agg [sI line.day, sI line.line, sI line.art, sI line.amount, .imm (yh line.facts), .imm (yh line.rests)] from rfl]
  by_cases hc : zdq c = true
  case neg =>
    rw [Bool.not_eq_true] at hc
    rw [hc] at hvc hK
    (refine ze ?_; conv => whnf)
    refine zd rfl  hvc ?_
    (refine zc ?_; conv => whnf)
    exact hK _
  rw [hc] at hvc hK
  by_cases hf : zjk l = true
  case neg =>
    rw [Bool.not_eq_true] at hf
    rw [hf] at hvf hK
    (refine ze ?_; conv => whnf)
    refine zd rfl  hvc ?_
    (refine zc ?_; conv => whnf)
    refine zd rfl  hvf ?_
    (refine zc ?_; conv => whnf)
    exact hK _
  rw [hf] at hvf hK
  by_cases hld : zkl line.day = true
  case neg =>
    rw [Bool.not_eq_true] at hld
    rw [hld] at hd1 hK
    (refine ze ?_; conv => whnf)
    refine zd rfl  hvc ?_
    (refine zc ?_; conv => whnf)
    refine zd rfl  hvf ?_
    (refine zc ?_; conv => whnf)
    refine zd rfl  hd1 ?_
    (refine zc ?_; conv => whnf)
    exact hK _
  rw [hld] at hd1 hK
  by_cases hkd : zkl known = true
  case neg =>
    rw [Bool.not_eq_true] at hkd
    rw [hkd] at hd2 hK
    (refine ze ?_; conv => whnf)
    refine zd rfl  hvc ?_
    (refine zc ?_; conv => whnf)
    refine zd rfl  hvf ?_
    (refine zc ?_; conv => whnf)
    refine zd rfl  hd1 ?_
    (refine zc ?_; conv => whnf)
    refine zd rfl  hd2 ?_
    (refine zc ?_; conv => whnf)
    exact hK _
  rw [hkd] at hd2 hK
  have hday : 0 <= line.day /\ line.day <= 36524 := of_decide_eq_true hld
  obtain ⟨hc1, hc2, _, _, _⟩ := zks hc
  obtain ⟨m, hM⟩ := yvt hc hfew
  have hseq := zqg G c hM.fit hM.arts
  (refine ze ?_; conv => whnf)
  refine zd rfl  hvc ?_
  (refine zc ?_; conv => whnf)
  refine zd rfl  hvf ?_
  (refine zc ?_; conv => whnf)
  refine zd rfl  hd1 ?_
  (refine zc ?_; conv => whnf)
  refine zd rfl  hd2 ?_
  (refine zc ?_; conv => whnf)
  refine zd rfl  hseq ?_
  by_cases hsl : (yih c).length = c.arts.length
  case neg =>
    rw [decide_eq_false hsl] at hK ⊢
    (refine zc ?_; conv => whnf)
    exact hK _
  rw [decide_eq_true hsl] at hK ⊢
  have hS := yvu (c := c) hcs l person known hday
  have hnew := zqo G c l person line.day known (by omega) hl hM.arts
  have hSd : (zbr c l person line.day known).day = line.day := rfl
  obtain ⟨hin, hil⟩ := yvv c line.day known
  have hsm := ysg c
  have hK : ∀ H', E.K (sB (zft c (zbr c l person line.day known) (inA c line.day known) (yxh c (zbr c l person line.day known) (inA c line.day known) (yih c)) line)) H' := hK
  generalize zbr c l person line.day known = S at hS hnew hSd hK
  generalize inA c line.day known = inF at hin hil hnew hK
  generalize yih c = sq at hsl hsm hK ⊢
  have hrun := yrq (G := G) hS hM inF sq hin (by omega) hsm (by omega) [] []
  have hra : yxh c S inF sq = sq.foldl (zsk c S inF) ([], []) := rfl
  rw [hra] at hK
  clear hra
  generalize sq.foldl (zsk c S inF) ([], []) = T at hrun hK
  obtain ⟨st, am⟩ := T
  simp only at hrun
  have hnew2 : SCall Tryz.prog G 67 [c.sv, .imm (jd l), sS person, sI line.day, sI known] [zbx c, .cells (lnC line)] (fun r H' => r = .ptr 5 0 /\ H' = zwp c line S inF [] []) := by
    refine SCall.mono (zji hnew [zbx c, .cells (lnC line)]) ?_
    rintro r H' ⟨r1, H1, ⟨rfl, rfl⟩, rfl, rfl⟩
    exact ⟨rfl, rfl⟩
  have hrun2 := yok hrun (fun σ => rfl) rfl (fun σ => rfl) (H := zwp c line S inF [] []) (p := 5) (q := 3) (s := 4) (by decide) (by decide) (by decide) rfl rfl rfl
  have hcall : ∀ (a : Article), c.arts[line.art.toNat]? = some a -> 0 <= line.art -> SCall Tryz.prog G 69 [.ptr 5 0, sI line.art] (zwp c line S inF st am) (fun r H' => r = ywl (zqa c S inF (st, am) line.art a) /\ H' = zwp c line S inF st am) := fun a ha h0 => by
    have := yok (yna (G := G) hS hM inF hin (by omega) st am h0 ha) (fun σ => rfl) rfl (fun σ => rfl) (H := zwp c line S inF st am) (p := 5) (q := 3) (s := 4) (by decide) (by decide) (by decide) rfl rfl rfl
    exact this
  clear hnew hrun
  (refine zc ?_; conv => whnf)
  refine zv rfl rfl rfl rfl rfl rfl (hnew2.mono ?_)
  rintro r9 H9 ⟨rfl, rfl⟩
  refine ⟨by show 2 <= 9; decide, ?_⟩
  (refine zc ?_; conv => whnf)
  refine zv rfl rfl rfl rfl rfl rfl (hrun2.mono ?_)
  rintro r9 H9 ⟨rfl, rfl⟩
  refine ⟨by show 9 <= 9; decide, ?_⟩
  refine (fun (hs : ∀ H2, H2 = zwp c line S inF st am -> SWr E _ _ _ _ H2) => hs _ rfl) ?_
  rintro _ rfl
  have hifl : (inF.map fun n => [dI n]).length = inF.length := by simp
  (refine zc ?_; conv => whnf)
  refine zg [9, 13, 56, 57, 58] ?_
  change SW E _ [(9, .ptr 1 0), (13, .ptr 5 0), (56, .imm (yh inF)), (57, sI ((inF.map fun n => [dI n]).length : Nat)), (58, sI (0 : Nat))] (zwp c line S inF st am)
  rw [hifl]
  refine zp inF (fun i (_ : Unit) => [(9, .ptr 1 0), (13, .ptr 5 0), (56, .imm (yh inF)), (57, sI (inF.length : Nat)), (58, sI (i : Nat))]) (fun _ _ => zwp c line S inF st am)
    (fun done _ _ => ∀ o ∈ done, ¬ (o = line.art /\ (yf o st).getD 0 = 2)) () (fun o ho => by cases ho) ?_ ?_
  · rintro _ hn
    rw [yol (s := (st, am)) hn] at hK
    (refine ze ?_; conv => whnf)
    repeat' ((with_reducible refine way ?_ ?_) <;> (intro h; conv => whnf))
    all_goals try (exfalso; omega)
    exact hK _
  · rintro done o rest _ hda hdl hn ih
    have hom : o ∈ inF := by rw [hda]; simp
    have hor := hin o hom
    have hw := zk (n := done.length) (by omega)
    have hro : (inF.map fun n => [dI n])[done.length]? = some [dI o] := by rw [hda]; simp
    have hlk : ((yf o st).map sI).getD (jl (.int .i64 0)) = sI ((yf o st).getD 0) := by cases yf o st <;> rfl
    have ih := fun (h : ¬ (o = line.art /\ (yf o st).getD 0 = 2)) => ih () (fun x hx => by
      rcases List.mem_append.1 hx with hx | hx
      · exact hn x hx
      · rw [List.mem_singleton] at hx
        subst hx
        exact h)
    have hans : o = line.art -> (yf o st).getD 0 = 2 -> ∀ a, c.arts[line.art.toNat]? = some a -> zft c S inF (st, am) line = yfn (zqa c S inF (st, am) line.art a) line := fun h1 h2 a ha => by
      have hat : zcw c line.art = some a := by unfold zcw; rw [if_neg (by omega)]; exact ha
      unfold zft
      rw [hat]
      exact if_pos ⟨h1 ▸ hom, h1 ▸ h2⟩
    generalize hx : (yf o st).getD 0 = x at hlk ih hans
    change SW E _ [(9, .ptr 1 0), (13, .ptr 5 0), (56, .imm (yh inF)), (57, sI (inF.length : Nat)), (58, sI (done.length : Nat))] (zwp c line S inF st am)
    (refine ze ?_; conv => whnf)
    repeat' ((with_reducible refine way ?_ ?_) <;> (intro h; conv => whnf))
    all_goals try (exfalso; omega)
    refine zi (i := done.length) (row := [dI o]) rfl rfl hro ?_
    (refine zj [777, 72] 1000 ?_; conv => whnf)
    repeat' ((with_reducible refine way ?_ ?_) <;> (intro h; conv => whnf))
    · subst h
      refine zkh (l := st) (v := sI x) sI rfl rfl rfl rfl rfl rfl rfl rfl rfl hlk ?_
      (refine zc ?_; conv => whnf)
      repeat' ((with_reducible refine way ?_ ?_) <;> (intro h; conv => whnf))
      · rw [hw]
        exact zg [9, 13, 56, 57, 58] (ih fun y => absurd y.2 ‹¬ x = 2›)
      · obtain ⟨a, ha⟩ : ∃ a, c.arts[line.art.toNat]? = some a := ⟨_, List.getElem?_eq_getElem (by omega)⟩
        have ham := List.mem_of_getElem? ha
        rw [hans rfl ‹x = 2› a ha] at hK
        have hcl := hcall a ha (by omega)
        have hf1 := yjo S (zjn c a)
        rw [yoj] at hf1
        have hr1 := yjp c inF st a
        have e1 : yfn (zqa c S inF (st, am) line.art a) line = (decide (a.line = line.line) && decide ((yf a.number am).getD 0 = line.amount) && decide (zhf S (zjn c a) = line.facts) && decide (zkt c inF st a = line.rests)) := rfl
        rw [e1] at hK
        have hs1 : ywl (zqa c S inF (st, am) line.art a) = .agg [sI S.day, sI a.line, sI line.art, sI ((yf a.number am).getD 0), .imm (yh (zhf S (zjn c a))), .imm (yh (zkt c inF st a))] := rfl
        rw [hs1] at hcl
        have q1 := ziu G (zhf S (zjn c a)) line.facts (by omega)
        have q2 := ziu G (zkt c inF st a) line.rests (by omega)
        generalize zhf S (zjn c a) = F at hcl hK q1
        generalize zkt c inF st a = R at hcl hK q2
        generalize (yf a.number am).getD 0 = amt at hcl hK
        generalize decide (F = line.facts) = z1 at hK q1
        generalize decide (R = line.rests) = z2 at hK q2
        refine zv rfl rfl rfl rfl rfl rfl (hcl.mono ?_)
        rintro r9 H9 ⟨rfl, rfl⟩
        refine ⟨Nat.le_refl _, ?_⟩
        (refine zc ?_; conv => whnf)
        repeat' ((with_reducible refine way ?_ ?_) <;> (intro h; conv => whnf))
        · rw [decide_eq_true ‹a.line = line.line›, decide_eq_true ‹amt = line.amount›, Bool.true_and, Bool.true_and] at hK
          refine zd rfl  q1 ?_
          cases z1 with
          | false =>
            (refine zc ?_; conv => whnf)
            exact hK _
          | true =>
          (refine zc ?_; conv => whnf)
          refine zd rfl  q2 ?_
          (refine zc ?_; conv => whnf)
          exact hK _
        · rw [decide_eq_false ‹¬ amt = line.amount›, Bool.and_false] at hK
          exact hK _
        · rw [decide_eq_false ‹¬ a.line = line.line›] at hK
          exact hK _
    · rw [hw]
      exact zg [9, 13, 56, 57, 58] (ih fun y => absurd y.1 ‹¬ o = line.art›)
end Go.Proofs.YtjnddlifnkgncaaGreatDoor
namespace Go.Sh
variable {P:Program} {G:List (Nat × D)}
theorem yjq {f:FuncId} {args args':List SV} {r:SV} (h:zq P G f args' r) (ha:SIs args args'):zq P G f args r:=fun H w I β vs hH hv=>
 h H w I β vs hH ⟨by rw [hv.len,ha.len],fun j v s h1 h2=>by
  have hj:j<args'.length:=by
   rcases Nat.lt_or_ge j args'.length with h|h
   ·exact h
   ·rw [List.getElem?_eq_none h] at h2
    cases h2
  have hj':j<args.length:=by rw [ha.len];exact hj
  rw [List.getElem?_eq_getElem hj] at h2;cases h2
  exact ha.get j hj' hj w I β v (hv.rep j v _ h1 (List.getElem?_eq_getElem hj'))⟩
end Go.Sh
namespace Go.Proofs.YtjnddlifnkgncaaGreatDoor
open Go Go.Sh
theorem yom {l:List Nat} (h:∀x∈l,x<18446744073709551616) (i:Nat):l.getD i 0<18446744073709551616:=by
 rw [List.getD_eq_getElem?_getD];cases hg:l[i]? with
 |none=>exact (by decide:(0:Nat)<18446744073709551616)
 |some x=>exact h x (List.mem_of_getElem? hg)
theorem yon:∀(rs:List (List Nat)) (i:Nat),(∀r∈rs,∀x∈r,x<18446744073709551616)->(pth rs i).length<=rs.length/\∀x∈pth rs i,x.sib<18446744073709551616
 |[],_,_=>⟨Nat.le_refl _,fun x hx=>by cases hx⟩
 |r::rs,i,h=>by
  obtain ⟨h1,h2⟩:=yon rs (i / 2) (fun r hr=>h r (by simp [hr]));have h3:(zhm r i).length<=1/\∀x∈zhm r i,x.sib<18446744073709551616:=by
   unfold zhm;split
   ·refine ⟨Nat.le_refl _,fun x hx=>?_⟩
    rw [List.mem_singleton] at hx;subst hx;exact yom (h r (by simp)) _
   ·split
    ·refine ⟨Nat.le_refl _,fun x hx=>?_⟩
     rw [List.mem_singleton] at hx;subst hx;exact yom (h r (by simp)) _
    ·exact ⟨Nat.zero_le _,fun x hx=>by cases hx⟩
  rw [pth];refine ⟨by rw [List.length_append,List.length_cons];omega,fun x hx=>?_⟩;rcases List.mem_append.1 hx with hx|hx
  ·exact h3.2 x hx
  ·exact h2 x hx
theorem zum:∀(f:Nat) (r:List Nat),(qg f r).length<=f+1
 |0,_=>Nat.le_refl _
 |f+1,r=>by
  rw [qg];split
  ·have:=zum f (zcb r)
   rw [List.length_cons];omega
  ·rw [List.length_singleton]
   omega
theorem yam (l:List ByteArray) (i:Nat):(zlc l i).length<=1025/\∀x∈zlc l i,x.sib<18446744073709551616:=by
 have h1:=zum 1024 (l.map qs)
 have h2:=yon (qg 1024 (l.map qs)) i (zrc 1024 _ (fun x hx=>by
  obtain ⟨y,_,rfl⟩:=List.mem_map.1 hx
  exact zab _))
 rw [zzu];exact ⟨by omega,h2.2⟩
theorem yjr (seed:ByteArray) (i:Int) (text:ByteArray):∀x∈chainsN seed i text,x<18446744073709551616:=by
 intro x hx;unfold chainsN at hx;obtain ⟨k,_,rfl⟩:=List.mem_map.1 hx;exact zzj (zab _) _
theorem yoo {s:Slip} (hg:SlipGood s) (hr:∀r∈s.rows,r.label.size<=100000/\r.reason.size<=100000) (hp:s.person.size<=1000) {sel:List Int} (hsel:zjs s.rows.length none sel=true) (hsl:sel.length<=1000000) (seed:ByteArray) (h i:Nat):DFit (showN s sel seed h i) where
 person:=Nat.le_trans hp (by decide)
 root:=by
  show s.root<_;rw [<-hg.root];exact ygb _
 commit:=by
  show (zoh s.rows s.blinds).length<=_;rw [zoi _ _ hg.blinds];exact Nat.le_trans hg.rows.2 (by decide)
 shown:=by
  show (sel.map (showRow s)).length<=_;rw [List.length_map];exact Nat.le_trans hsl (by decide)
 row:=fun x hx=>by
  obtain ⟨k,hk,rfl⟩:=List.mem_map.1 (show x∈sel.map (showRow s) from hx);have hkr:=(zld _ _ _ hsel).2.1 k hk;have hlt:k.toNat<s.rows.length:=by omega
  have hmem:s.rows.getD k.toNat ⟨⟨#[]⟩,0,⟨#[]⟩⟩∈s.rows:=by
   rw [List.getD_eq_getElem?_getD,List.getElem?_eq_getElem hlt];exact List.getElem_mem hlt
  have h1:=hr _ hmem;have h2:=yam (zaw s.rows s.blinds) k.toNat;exact ⟨Nat.le_trans h1.1 (by decide),Nat.le_trans h1.2 (by decide),Nat.le_trans h2.1 (by decide),h2.2⟩
 chains:=yjr _ _ _
 path:=by
  have h2:=yam (leavesN seed h) i;exact ⟨Nat.le_trans h2.1 (by decide),h2.2⟩
def ydw:ByteArray:=⟨#[115,101,101,100]⟩
theorem zjz:SlipGood shSlip:=⟨by kernel_rfl,by decide,by decide,rfl,by decide,by decide,rfl⟩
theorem zrp:∀r∈shSlip.rows,r.label.size<=100000/\r.reason.size<=100000:=by decide
def zli (amount:Int) (fs:List Int):Ln:=⟨8770,0,0,amount,fs,[]⟩
theorem yxw:zcx offC yke ykd 8771 (zli 9600 [1])=true:=by rw [zfe];kernel_rfl
theorem yvw:zcx offC yke ykd 8771 (zli 9601 [1])=false:=by rw [zfe];kernel_rfl
theorem yvx:zcx offC yke ykd 8771 (zli 9600 [])=false:=by rw [zfe];kernel_rfl
theorem ysh:zcx offC yke ykd 8770 (zli 9600 [1])=false:=by rw [zfe];kernel_rfl
theorem yxx:zcx offC yke yzi 8771 (zli 9600 [1])=false:=by rw [zfe];kernel_rfl
theorem ysi:Codex.fit offC:=fun a ha=>by
 rw [show offC.arts=[_] from rfl,List.mem_singleton] at ha;subst ha;exact ⟨Nat.zero_le _,Nat.zero_le _⟩
theorem yop (person:ByteArray) (known:Int) (l:Ln) (b:Bool) (h:zcx offC yke person known l=b):zq Tryz.prog G37 19 [offC.sv,.imm (jd yke),sS person,sI known,ywl l] (sB b):=by
 have:=ydv G37 offC ysi (by decide) (by decide) (by decide) (by decide) yke (by decide) person known l;rw [h] at this;exact this
theorem ytm:zq Tryz.prog G37 9 [] (sB true):=by
 have hsel:zjs shSlip.rows.length none [0]=true:=by decide
 have hsum: -500000000<=qd (shSlip.rows.map Rw.cents) (znq shSlip.rows.length [0])/\qd (shSlip.rows.map Rw.cents) (znq shSlip.rows.length [0])<=500000000:=by decide
 have hok:=yvq zjz hsel ydw (h:=1) (i:=1) (by decide) (by decide) hsum;have hfit:=yoo zjz zrp (by decide) hsel (by decide) ydw 1 1;have c1:=yrs ydw 1 (by decide) (by decide);have c2:=yjc;have c3:=yns shSlip zjz zrp (by decide) [0] hsel (by decide) ydw 1 1 (by decide) (by decide) (by decide) hsum;have hhid:(showN shSlip [0] ydw 1 1).hidden=30000:=by
  show qd (shSlip.rows.map Rw.cents) (znq shSlip.rows.length [0])=30000;decide
 generalize showN shSlip [0] ydw 1 1=d at hok hfit c3 hhid;generalize keyN ydw 1=key at hok c1;generalize shSlip=ss at c2 c3;have hbad:accOK key 1 {d with hidden:=29999}=false:=zlf hok (by rw [hhid];decide);have hzero:accOK key 0 d=false:=ysc hok (by decide);have a1:=wy jz key 1 d hfit;have a2:=wy jz key 1 {d with hidden:=29999} ⟨hfit.person,hfit.root,hfit.commit,hfit.shown,hfit.row,hfit.chains,hfit.path⟩;have a3:=wy jz key 0 d hfit;have hok:accOK key 1 d=true:=hok;rw [hok] at a1;rw [hbad] at a2;rw [hzero] at a3;obtain ⟨person,month,root,commit,shown,hidden,blind,⟨index,chains,path⟩⟩:=d;simp only at hhid;subst hhid;clear hok hbad hzero hfit hsel hsum;have c4:=ydf G37;have nilR:SIs (lnC (zli 9600 [1])) (lnC (zli 9600 [1])):=.cons (SV.Is.refl _) (.cons (SV.Is.refl _) (.cons (SV.Is.refl _) (.cons (SV.Is.refl _) (.cons (SV.Is.refl _) (.cons (SV.Is.refl _) .nil)))));have isL:∀(am:Int) (fd:D) (fs:List Int),(SV.imm fd).Is (.imm (yh fs))->(SV.agg [sI 8770,sI 0,sI 0,sI am,.imm fd,.imm ypn]).Is (ywl (zli am fs)):=fun am fd fs h=>
  SIs.agg (.cons (SV.Is.refl _) (.cons (SV.Is.refl _) (.cons (SV.Is.refl _) (.cons (SV.Is.refl _) (.cons h (.cons (SV.Is.nil 1) .nil))))))
 have rp:∀(person:ByteArray) (known am:Int) (fd:D) (fs:List Int) (b:Bool),(SV.imm fd).Is (.imm (yh fs))->zcx offC yke person known (zli am fs)=b->
   zq Tryz.prog G37 19 [offC.sv,.imm (jd yke),sS person,sI known,.agg [sI 8770,sI 0,sI 0,sI am,.imm fd,.imm ypn]] (sB b):=fun person known am fd fs b h1 h2=>
  yjq (yop person known _ b h2) (.cons (SV.Is.refl _) (.cons (SV.Is.refl _) (.cons (SV.Is.refl _) (.cons (SV.Is.refl _) (.cons (isL am fd fs h1) .nil)))))
 have r1:=rp ykd 8771 9600 (yh [1]) [1] true (SV.Is.refl _) yxw;have r2:=rp ykd 8771 9601 (yh [1]) [1] false (SV.Is.refl _) yvw;have r3:=rp ykd 8771 9600 ypn [] false (SV.Is.nil 1) yvx;have r4:=rp ykd 8770 9600 (yh [1]) [1] false (SV.Is.refl _) ysh;have r5:=rp yzi 8771 9600 (yh [1]) [1] false (SV.Is.refl _) yxx;clear rp isL nilR;refine zh Tryz.func9 rfl (by rw [Tryz.ntmps9];simp) rfl rfl ?_;intro E hH hK;(refine ze ?_;conv=>whnf);refine zd rfl  c1 ?_;(refine zc ?_;conv=>whnf);refine zd rfl  c2 ?_;(refine zc ?_;conv=>whnf);refine zd rfl  c3 ?_;(refine zc ?_;conv=>whnf);refine zd rfl  c4 ?_;(refine zc ?_;conv=>whnf);(refine xf 2 mixed rfl ?_;refine zn [] (nx:=4) ?_;conv=>whnf);(refine ze ?_;conv=>whnf);refine zd rfl  a1 ?_;(refine zc ?_;conv=>whnf);refine zd rfl  a2 ?_;(refine zc ?_;conv=>whnf);refine zd rfl  a3 ?_;(refine zc ?_;conv=>whnf);refine zd rfl  r1 ?_;(refine zc ?_;conv=>whnf);refine zd rfl  r2 ?_;(refine zc ?_;conv=>whnf);refine zd rfl  r3 ?_;(refine zc ?_;conv=>whnf);refine zd rfl  r4 ?_;(refine zc ?_;conv=>whnf);refine zd rfl  r5 ?_;(refine zc ?_;conv=>whnf);exact hK _
end Go.Proofs.YtjnddlifnkgncaaGreatDoor
namespace Go.Sh
variable {P:Program} {G:List (Nat × D)} {fn:Func} {rd:Bool} {E:En P G fn rd} {t:List (Nat × SV)} {H:List SObj} {k:List Item} {w:World} {I:Imm} {β:List Bnd}
theorem zmj {b kk:Nat} (hb:H[b]?=some (.tok kk 0)) {b' c:Nat} (h:wv (H.set b (.vec kk [])) β b' c):wv H β b' c:=by
 have h1:=yqr (nx:=b) (x:=.vec kk []) (y:=.tok kk 0) (by simp) (by simp) h;have e:H.set b (.tok kk 0)=H:=by
  apply List.ext_getElem?
  intro i;rw [List.getElem?_set];split
  ·rename_i hi
   subst hi;rw [if_pos (lt_of_getElem? hb),hb]
  ·rfl
 rwa [e] at h1
theorem yjs {b kk:Nat} (hb:H[b]?=some (.tok kk 0)) (hH:HeapOK G w I β H):HeapOK G w I β (H.set b (.vec kk [])):=by
 refine ⟨by have:=hH.len;simpa using this,fun b' ob x hb' hx=>?_,fun b1 b2 c g1 g2=>hH.inj b1 b2 c (zmj hb g1) (zmj hb g2),hH.inI,hH.glob⟩;rw [List.getElem?_set] at hb';split at hb'
 ·rename_i hi
  subst hi;rw [if_pos (lt_of_getElem? hb)] at hb';cases hb';exact yum (hH.obj b _ x hb hx)
 ·exact hH.obj b' ob x hb' hx
theorem yoq {b kk:Nat} {v:Value} (hr:Rep w I β v (.asl b kk [])):Rep w I β v (.vec b 0):=by
 cases hr with
 |asl _ _ _ _ u n hd hb hu hl hv=>
  obtain ⟨a,cap,hu⟩:=hu;refine .vec b 0 _ u n hb ⟨a,cap,hu⟩ (Nat.zero_le _) ?_ fun e=>hv (by simpa using e)
  cases hd with
  |islNil=>exact ⟨_,_,_,rfl⟩
  |islEmpty=>exact ⟨_,_,_,rfl⟩
  |isl=>exact ⟨_,_,_,rfl⟩
theorem zlj (s b kk:Nat) (hs:qh t s= .asl b kk []) (hb:H[b]?=some (.tok kk 0)) (h:SW E k ((s,.vec b 0)::t) (H.set b (.vec kk []))):SW E k t H:=by
 refine ⟨fun a w I β cs' hsim=>?_⟩;have he:Ext H.length w I β H w I β (H.set b (.vec kk [])):={(Ext.refl:Ext H.length w I β H w I β H) with own:=fun b' c g=>.inl ⟨b',zmj hb g⟩};refine h.run a w I _ cs' ⟨yjs hb hsim.heap,fun m=>?_,hsim.size,hsim.defers.ext he,hsim.ext.trans (he.weaken hsim.hlen),by have:=hsim.hlen;simpa using this⟩
 by_cases e:s=m
 ·subst e
  simp only [qh,if_true];have:=hsim.tmps s;rw [hs] at this;exact yoq this
 ·simp only [qh,if_neg e]
  exact hsim.tmps m
section
variable {P:Program} {G:List (Nat × D)}
theorem SPre.still {f:FuncId} {args:List SV} {H:List SObj} {r:SV} (n:Nat) (hc:SPre P G f args (H.take n) (fun r' H1=>r'=r/\H1=H.take n)):zsv P G f args H r:=by
 have h:=hc (H.drop n);rw [List.take_append_drop] at h;exact h.mono fun r' H' ⟨H1,⟨h1,h2⟩,_,h3⟩=>⟨h1,by rw [h3,h2,List.take_append_drop]⟩
end
section
variable {P:Program} {G:List (Nat × D)} {w w':World} {I I':Imm} {β β':List Bnd} {H K:List SObj} {o:Oper} {ρ:Operand->Value} {m:Nat}
theorem yjt {b n off f:Nat} {x:Operand} {sT:Nat} {fs:Array Field} {fd:Field} {kk:Nat} {cs:List SV} (hop:o.op= .fieldAddr sT x f) (hH:HeapOK G w I β H) (hr:Rep w I β (ρ x) (.vptr b n off))
  (hu:P.underlying sT=some (.struct fs)) (hf:fs[f]?=some fd) {sz:Nat} (hsz:xe P fd.type=some (sz+1)) (hb:H[b]?=some (.vec kk cs)) (hlen:cs.length=n*kk) (hk:1<=kk) (hn:1<=n):OpRun P G (execOp ρ o) w I β H (.vptr b n (off+fd.offset)) H:=by
 generalize hpv:ρ x=pv at hr;cases hr with
 |vptr _ _ _ _ a m cap hbu hle hv heq=>
 rcases hH.obj b _ _ hb hbu with ⟨rfl,e⟩|⟨c,n',cap',vs,T,e,a1,a2,a3,a4,a5,a6,a7⟩
 ·exfalso
  rw [List.length_nil] at hlen;have:=Nat.mul_le_mul hn hk;omega
 ·cases e
  have hn':n=m:=by
   rw [hlen] at a5;exact Nat.eq_of_mul_eq_mul_right hk a5
  subst hn';obtain ⟨c',e,rfl⟩:=heq rfl;cases e;obtain ⟨dst,op,type,pos,after,guard⟩:=o;simp only at hop;subst hop;refine OpRun.same (v:=.pointer (some ⟨c,off+fd.offset,none⟩)) ?_ (.vptr b n (off+fd.offset) _ _ n cap hbu (Nat.le_refl _) ⟨_,rfl⟩ (fun _=>⟨c,rfl,rfl⟩)) hH;rw [hpv];exact zja (b:=c) (o:=off) hu hf hsz
end
section
variable {P:Program} {G:List (Nat × D)} {fn:Func} {rd:Bool} {E:En P G fn rd} {t:List (Nat × SV)} {H K:List SObj} {k:List Item} {m:Nat} {all:Array Oper} {rest:List Oper} {done:List Eff} {o:Oper}
theorem zmk {b n off f:Nat} {x:Operand} {sT:Nat} {fs:Array Field} {fd:Field} {kk:Nat} {cs:List SV} (hop:o.op= .fieldAddr sT x f) (hw:zu all t o.guard=some true) (hd:yb fn.ntmps o.dst=true) (hx:zl G t x= .vptr b n off)
  (hu:P.underlying sT=some (.struct fs)) (hf:fs[f]?=some fd) {sz:Nat} (hsz:xe P fd.type=some (sz+1)) (hm:m<=K.length) (hb:K[b]?=some (.vec kk cs)) (hlen:cs.length=n*kk) (hk:1<=kk) (hn:1<=n)
  (h:SWe E m all rest k (xj t o.dst (.vptr b n (off+fd.offset))) K (done++[⟨.vptr b n (off+fd.offset),[b],none⟩])):SWe E m all (o::rest) k t K done:=
 zei (e:=⟨.vptr b n (off+fd.offset),[b],none⟩) ⟨hd,.inr ⟨hw,fun K' hl ha=>zpn (by omega) fun ρ w I β hH hops=>by
  have hr:=hops x (by rw [hop];simp [Op.operands]);rw [hx] at hr
  exact yjt hop hH hr hu hf hsz (by rw [ha b (.inl (by simp))];exact hb) hlen hk hn⟩⟩ h
end
end Go.Sh
namespace Go.Proofs.YtjnddlifnkgncaaGreatDoor
open Go Go.Sh
def Disc.box (d:Disc):SObj:=.cells (d.cells.map .imm)
def Shw.box (s:Shw):SObj:=.cells (s.cells.map .imm)
theorem ytn {α:Type} (X M Y M':List α) {a b:Nat} (ha:X.length=a) (hb:X.length+M.length=b):(X++M++Y).take a++M'++(X++M++Y).drop b=X++M'++Y:=by
 subst ha hb;have h:X.length+M.length=(X++M).length:=by simp
 rw [List.append_assoc X M Y,List.take_left, <-List.append_assoc X M Y,h,List.drop_left]
theorem cmL (l:List Int):0+(l.map fun (n:Int)=>[dI n]).length=l.length:=by simp
theorem cmC (l:List Int):([]:List SV)++(l.map fun (n:Int)=>[dI n]).flatten.map SV.imm=l.map sI:=by
 rw [List.nil_append]
 induction l with
 |nil=>rfl
 |cons a l ih=>rw [List.map_cons,List.flatten_cons,List.map_append,ih];rfl
theorem yxy (pre post:List Int) (c n:Int):((pre++c::post).map sI).take (pre.length*1)++[sI n]++((pre++c::post).map sI).drop (pre.length*1+1)=(pre++n::post).map sI:=by
 have h:=ytn (pre.map sI) [sI c] (post.map sI) [sI n] (a:=pre.length*1) (b:=pre.length*1+1) (by simp) (by simp);have e1:(pre++c::post).map sI=pre.map sI++[sI c]++post.map sI:=by simp
 have e2:(pre++n::post).map sI=pre.map sI++[sI n]++post.map sI:=by simp
 rw [e1,e2];exact h
theorem yxz (l:List Int):(l.map sI).all SV.one=true:=by
 induction l with
 |nil=>rfl
 |cons a r ih=>rw [List.map_cons,List.all_cons,ih];rfl
theorem yto (l:List Int):(l.map sI).mapM SV.toD=some (l.map dI):=by
 have:=zkf (l.map dI)
 rwa [List.map_map] at this
theorem ygn (pre post:List Int) (c n:Int):qo 1 ((pre++n::post).map dI) (pre++c::post).length=(pre++n::post).map fun (n:Int)=>[dI n]:=by
 have h:(pre++c::post).length=((pre++n::post).map dI).length:=by simp
 rw [h,zhv,List.map_map];rfl
def shC (l:List Shw):List SV:=(l.map Shw.cells).flatten.map .imm
theorem shL (l:List Shw):0+(l.map Shw.cells).length=l.length:=by simp
theorem shN (l:List Shw):([]:List SV)++(l.map Shw.cells).flatten.map SV.imm=shC l:=rfl
theorem shF (l:List Shw):(l.map Shw.cells).flatten.length=l.length*6:=by
 induction l with
 |nil=>rfl
 |cons a l ih=>rw [List.map_cons,List.flatten_cons,List.length_append,ih,List.length_cons];show 6+_=_;omega
theorem zhp (l:List Shw):(shC l).length=l.length*6:=by
 unfold shC;rw [List.length_map,shF]
theorem yan (pre post:List Shw) (s:Shw):shC (pre++s::post)=shC pre++s.cells.map SV.imm++shC post:=by
 unfold shC;rw [List.map_append,List.map_cons,List.flatten_append,List.flatten_cons,List.map_append,List.map_append,List.append_assoc]
theorem yvy (pre post:List Shw) (s s':Shw) {A M B M':List SV} {a b:Nat} (h1:s.cells.map SV.imm=A++M++B) (h2:s'.cells.map SV.imm=A++M'++B) (ha:pre.length*6+A.length=a) (hb:pre.length*6+A.length+M.length=b):
  (shC (pre++s::post)).take a++M'++(shC (pre++s::post)).drop b=shC (pre++s'::post):=by
 have h:=ytn (shC pre++A) M (B++shC post) M' (a:=a) (b:=b) (by rw [List.length_append,zhp];exact ha) (by rw [List.length_append,zhp];exact hb);have e1:shC (pre++s::post)=shC pre++A++M++(B++shC post):=by rw [yan,h1];simp only [List.append_assoc]
 have e2:shC (pre++s'::post)=shC pre++A++M'++(B++shC post):=by rw [yan,h2];simp only [List.append_assoc]
 rw [e1,e2];exact h
theorem yvz (l:List Shw):(shC l).all SV.one=true:=by
 unfold shC
 induction l with
 |nil=>rfl
 |cons a r ih=>rw [List.map_cons,List.flatten_cons,List.map_append,List.all_append,ih,Bool.and_true];rfl
theorem yor (l:List Shw):(shC l).mapM SV.toD=some (l.map Shw.cells).flatten:=zkf _
theorem zwq (pre post:List Shw) (s s':Shw):qo 6 ((pre++s'::post).map Shw.cells).flatten (pre++s::post).length=(pre++s'::post).map Shw.cells:=by
 have h:(pre++s::post).length=((pre++s'::post).map Shw.cells).length:=by simp
 rw [h];refine yco 6 _ ?_;intro r hr;obtain ⟨x,_,rfl⟩:=List.mem_map.1 hr;rfl
theorem zwr (key:Nat) (height:Int) (d:Disc) (n:Int) (hc:d.commit.length<=1024) (hs:d.shown.length<=1024) (hd:DFit {d with hidden:=n}):
  SPre Tryz.prog G37 23 [.fn (.func 24) [] [.ptr 3 0],.ptr 2 0,.ptr 0 0,.ptr 1 0] [.cells [yg key],.cells [sI height],d.box,.cells [sI n]]
   (fun r H=>r=sB (!accOK key height {d with hidden:=n})/\H=[.cells [yg key],.cells [sI height],d.box,.cells [sI n]]):=by
 have c1:=wy jz key height {d with hidden:=n} hd;generalize accOK key height {d with hidden:=n}=o at c1 ⊢;clear hd;obtain ⟨person,month,root,commit,shown,hidden,blind,⟨index,chains,path⟩⟩:=d;simp only at hc hs;have em1:(commit.map fun (n:Int)=>[dI n]).length=commit.length:=by simp
 have es1:(shown.map Shw.cells).length=shown.length:=by simp
 refine xc Tryz.func23 rfl (by rw [Tryz.ntmps23];simp) rfl rfl ?_;intro E hH hK;(refine zm [777,11] 1000 ?_;conv=>whnf);refine zr (b:=5) (kk:=1) (rows:=[]) (new:=commit.map fun (n:Int)=>[dI n]) rfl ⟨by decide,rfl⟩ rfl (by rw [em1];simp only [List.length_nil];omega) ?_;(refine zj [777,16] 1000 ?_;conv=>whnf);refine zr (b:=6) (kk:=6) (rows:=[]) (new:=shown.map Shw.cells) rfl ⟨by decide,rfl⟩ rfl (by rw [es1];simp only [List.length_nil];omega) ?_;(refine zc ?_;conv=>whnf);refine zv rfl rfl rfl rfl rfl rfl (ya Tryz.func24 rfl (by rw [Tryz.ntmps24];simp) ?_);intro E2 hH2 hK2;(refine ze ?_;conv=>whnf);refine hK2 _ _ ⟨by simp,?_⟩;clear hK2 hH2 E2;refine yw (fun k=>ja) ?_;(refine zc ?_;conv=>whnf);refine zd rfl  c1 ?_;(refine zc ?_;conv=>whnf);exact hK _ _ (by show 4<=7;decide) rfl rfl ⟨rfl,rfl⟩
theorem yao (key:Nat) (height:Int) (d:Disc) (n:Int) (hc:d.commit.length<=1024) (hs:d.shown.length<=1024) (hd:DFit {d with blind:=n}):
  SPre Tryz.prog G37 23 [.fn (.func 25) [] [.ptr 3 0],.ptr 2 0,.ptr 0 0,.ptr 1 0] [.cells [yg key],.cells [sI height],d.box,.cells [sI n]]
   (fun r H=>r=sB (!accOK key height {d with blind:=n})/\H=[.cells [yg key],.cells [sI height],d.box,.cells [sI n]]):=by
 have c1:=wy jz key height {d with blind:=n} hd;generalize accOK key height {d with blind:=n}=o at c1 ⊢;clear hd;obtain ⟨person,month,root,commit,shown,hidden,blind,⟨index,chains,path⟩⟩:=d;simp only at hc hs;have em1:(commit.map fun (n:Int)=>[dI n]).length=commit.length:=by simp
 have es1:(shown.map Shw.cells).length=shown.length:=by simp
 refine xc Tryz.func23 rfl (by rw [Tryz.ntmps23];simp) rfl rfl ?_;intro E hH hK;(refine zm [777,11] 1000 ?_;conv=>whnf);refine zr (b:=5) (kk:=1) (rows:=[]) (new:=commit.map fun (n:Int)=>[dI n]) rfl ⟨by decide,rfl⟩ rfl (by rw [em1];simp only [List.length_nil];omega) ?_;(refine zj [777,16] 1000 ?_;conv=>whnf);refine zr (b:=6) (kk:=6) (rows:=[]) (new:=shown.map Shw.cells) rfl ⟨by decide,rfl⟩ rfl (by rw [es1];simp only [List.length_nil];omega) ?_;(refine zc ?_;conv=>whnf);refine zv rfl rfl rfl rfl rfl rfl (ya Tryz.func25 rfl (by rw [Tryz.ntmps25];simp) ?_);intro E2 hH2 hK2;(refine ze ?_;conv=>whnf);refine hK2 _ _ ⟨by simp,?_⟩;clear hK2 hH2 E2;refine yw (fun k=>ja) ?_;(refine zc ?_;conv=>whnf);refine zd rfl  c1 ?_;(refine zc ?_;conv=>whnf);exact hK _ _ (by show 4<=7;decide) rfl rfl ⟨rfl,rfl⟩
theorem ydx (key:Nat) (height:Int) (d:Disc) (hc:d.commit.length<=1024) (hs:d.shown.length<=1024) (hd:DFit {d with root:=(d.root+1) % 18446744073709551616}):
  SPre Tryz.prog G37 23 [.fn (.func 30) [] [.ptr 2 0],.ptr 2 0,.ptr 0 0,.ptr 1 0] [.cells [yg key],.cells [sI height],d.box]
   (fun r H=>r=sB (!accOK key height {d with root:=(d.root+1) % 18446744073709551616})/\H=[.cells [yg key],.cells [sI height],d.box]):=by
 have c1:=wy jz key height {d with root:=(d.root+1) % 18446744073709551616} hd;generalize accOK key height {d with root:=(d.root+1) % 18446744073709551616}=o at c1 ⊢;clear hd;obtain ⟨person,month,root,commit,shown,hidden,blind,⟨index,chains,path⟩⟩:=d;simp only at hc hs;have em1:(commit.map fun (n:Int)=>[dI n]).length=commit.length:=by simp
 have es1:(shown.map Shw.cells).length=shown.length:=by simp
 refine xc Tryz.func23 rfl (by rw [Tryz.ntmps23];simp) rfl rfl ?_;intro E hH hK;(refine zm [777,11] 1000 ?_;conv=>whnf);refine zr (b:=4) (kk:=1) (rows:=[]) (new:=commit.map fun (n:Int)=>[dI n]) rfl ⟨by decide,rfl⟩ rfl (by rw [em1];simp only [List.length_nil];omega) ?_;(refine zj [777,16] 1000 ?_;conv=>whnf);refine zr (b:=5) (kk:=6) (rows:=[]) (new:=shown.map Shw.cells) rfl ⟨by decide,rfl⟩ rfl (by rw [es1];simp only [List.length_nil];omega) ?_;(refine zc ?_;conv=>whnf);refine zv rfl rfl rfl rfl rfl rfl (ya Tryz.func30 rfl (by rw [Tryz.ntmps30];simp) ?_);intro E2 hH2 hK2;(refine ze ?_;conv=>whnf);refine hK2 _ _ ⟨by simp,?_⟩;clear hK2 hH2 E2;refine yw (fun k=>ja) ?_;(refine zc ?_;conv=>whnf);refine zd rfl  c1 ?_;(refine zc ?_;conv=>whnf);exact hK _ _ (by show 3<=6;decide) rfl rfl ⟨rfl,rfl⟩
theorem zws (key:Nat) (height:Int) (d:Disc) (n:Int) (text:ByteArray) (pre post:List Int) (c:Int) (hcm:d.commit=pre++c::post) (hc:d.commit.length<=1024) (hs:d.shown.length<=1024) (hd:DFit {d with commit:=pre++n::post}):
  SPre Tryz.prog G37 23 [.fn (.func 26) [] [.ptr 3 0,.ptr 5 0],.ptr 2 0,.ptr 0 0,.ptr 1 0] [.cells [yg key],.cells [sI height],d.box,.cells [sI n],.cells [sS text],.cells [sI (pre.length:Nat)]]
   (fun r H=>r=sB (!accOK key height {d with commit:=pre++n::post})/\H=[.cells [yg key],.cells [sI height],d.box,.cells [sI n],.cells [sS text],.cells [sI (pre.length:Nat)]]):=by
 have c1:=wy jz key height {d with commit:=pre++n::post} hd;generalize accOK key height {d with commit:=pre++n::post}=o at c1 ⊢;clear hd;obtain ⟨person,month,root,commit,shown,hidden,blind,⟨index,chains,path⟩⟩:=d;simp only at hc hs hcm;subst hcm;have es1:(shown.map Shw.cells).length=shown.length:=by simp
 refine xc Tryz.func23 rfl (by rw [Tryz.ntmps23];simp) rfl rfl ?_;intro E hH hK;(refine zm [777,11] 1000 ?_;conv=>whnf);refine yw (fun k=>zlj 8 7 1 rfl rfl) ?_;refine zbb (b:=7) (n:=0) (kk:=1) (cs:=[]) (new:=(pre++c::post).map fun (n:Int)=>[dI n]) rfl rfl rfl rfl rfl rfl rfl rfl rfl rfl ⟨by decide,rfl⟩ rfl rfl (by decide) (by rw [List.length_map,List.length_append,List.length_cons];omega) (by simp only [List.length_map];omega) ?_;rw [cmL,cmC];(refine zj [777,16] 1000 ?_;conv=>whnf);refine zr (b:=8) (kk:=6) (rows:=[]) (new:=shown.map Shw.cells) rfl ⟨by decide,rfl⟩ rfl (by rw [es1];simp only [List.length_nil];omega) ?_;(refine zc ?_;conv=>whnf);refine Eq.mpr (congrArg (fun h=>SWr E _ _ _ _ h) (show _=([.cells [yg key],.cells [sI height],.cells [sS person,sI month,yg root,.imm (yv (pre++c::post)),.imm (je shown),sI hidden,sI blind,sI index,.imm (xq chains),.imm (zy path)],.cells [sI n],.cells [sS text],.cells [sI (pre.length:Nat)],.cells [sS person,sI month,yg root,.vec 7 (pre++c::post).length,.asl 8 6 (shown.map Shw.cells),sI hidden,sI blind,sI index,.imm (xq chains),.imm (zy path)],.vec 1 ((pre++c::post).map sI),.tok 6 (([]:List (List D)).length+(shown.map Shw.cells).length)]:List SObj) from rfl)) ?_;refine zv rfl rfl rfl rfl rfl rfl (ya Tryz.func26 rfl (by rw [Tryz.ntmps26];simp) ?_);intro E2 hH2 hK2;(refine ze ?_;conv=>whnf);refine xf 0 mixed rfl ?_;(refine zn [777,10] (nx:=9) ?_;conv=>whnf);refine zko (b:=7) (n:=(pre++c::post).length) (kk:=1) (i:=pre.length) (cs:=(pre++c::post).map sI) rfl rfl rfl rfl rfl rfl rfl (show 9<=9 by decide) rfl (by simp) (by decide) rfl (by simp) ?_;refine zdm (b:=7) (n:=(pre++c::post).length) (off:=pre.length*1) (ns:=1) (kk:=1) (cs:=(pre++c::post).map sI) (v:=sI n) (vcs:=[sI n]) rfl rfl rfl rfl rfl rfl rfl rfl rfl (show 9<=9 by decide) rfl (by simp) (by decide) (by simp) (by decide) ?_;rw [yxy];refine qf (by kernel_rfl) ?_;refine Eq.mpr (congrArg (fun h=>SW E2 _ _ h) (show _=([.cells [yg key],.cells [sI height],.cells [sS person,sI month,yg root,.imm (yv (pre++c::post)),.imm (je shown),sI hidden,sI blind,sI index,.imm (xq chains),.imm (zy path)],.cells [sI n],.cells [sS text],.cells [sI (pre.length:Nat)],.cells [sS person,sI month,yg root,.vec 7 (pre++c::post).length,.asl 8 6 (shown.map Shw.cells),sI hidden,sI blind,sI index,.imm (xq chains),.imm (zy path)],.vec 1 ((pre++n::post).map sI),.tok 6 (([]:List (List D)).length+(shown.map Shw.cells).length)]:List SObj) from rfl)) ?_;(refine ze ?_;conv=>whnf);refine hK2 _ _ ⟨by show 9<=9;decide,?_⟩;clear hK2 hH2 E2;refine yw (fun k=>zai 6 3 7 (pre++c::post).length 1 (cs0:=[sS person,sI month,yg root,.vec 7 (pre++c::post).length,.asl 8 6 (shown.map Shw.cells),sI hidden,sI blind,sI index,.imm (xq chains),.imm (zy path)]) (cs:=(pre++n::post).map sI) (ds:=(pre++n::post).map dI) rfl rfl rfl (yxz _) (yto _) (by simp) (by decide)) ?_;rw [ygn];refine yw (fun k=>ja) ?_;(refine zc ?_;conv=>whnf);refine zd rfl  c1 ?_;(refine zc ?_;conv=>whnf);exact hK _ _ (by show 6<=9;decide) rfl rfl ⟨rfl,rfl⟩
theorem zwt (key:Nat) (height:Int) (d:Disc) (n:Int) (text:ByteArray) (pre post:List Int) (c sq:Int) (hcm:d.commit=pre++c::post) (hc:d.commit.length<=1024) (hs:d.shown.length<=1024) (hd:DFit {d with commit:=pre++sq::post}):
  SPre Tryz.prog G37 23 [.fn (.func 27) [] [.ptr 6 0,.ptr 5 0],.ptr 2 0,.ptr 0 0,.ptr 1 0] [.cells [yg key],.cells [sI height],d.box,.cells [sI n],.cells [sS text],.cells [sI (pre.length:Nat)],.cells [sI sq]]
   (fun r H=>r=sB (!accOK key height {d with commit:=pre++sq::post})/\H=[.cells [yg key],.cells [sI height],d.box,.cells [sI n],.cells [sS text],.cells [sI (pre.length:Nat)],.cells [sI sq]]):=by
 have c1:=wy jz key height {d with commit:=pre++sq::post} hd;generalize accOK key height {d with commit:=pre++sq::post}=o at c1 ⊢;clear hd;obtain ⟨person,month,root,commit,shown,hidden,blind,⟨index,chains,path⟩⟩:=d;simp only at hc hs hcm;subst hcm;have es1:(shown.map Shw.cells).length=shown.length:=by simp
 refine xc Tryz.func23 rfl (by rw [Tryz.ntmps23];simp) rfl rfl ?_;intro E hH hK;(refine zm [777,11] 1000 ?_;conv=>whnf);refine yw (fun k=>zlj 8 8 1 rfl rfl) ?_;refine zbb (b:=8) (n:=0) (kk:=1) (cs:=[]) (new:=(pre++c::post).map fun (n:Int)=>[dI n]) rfl rfl rfl rfl rfl rfl rfl rfl rfl rfl ⟨by decide,rfl⟩ rfl rfl (by decide) (by rw [List.length_map,List.length_append,List.length_cons];omega) (by simp only [List.length_map];omega) ?_;rw [cmL,cmC];(refine zj [777,16] 1000 ?_;conv=>whnf);refine zr (b:=9) (kk:=6) (rows:=[]) (new:=shown.map Shw.cells) rfl ⟨by decide,rfl⟩ rfl (by rw [es1];simp only [List.length_nil];omega) ?_;(refine zc ?_;conv=>whnf);refine Eq.mpr (congrArg (fun h=>SWr E _ _ _ _ h) (show _=([.cells [yg key],.cells [sI height],.cells [sS person,sI month,yg root,.imm (yv (pre++c::post)),.imm (je shown),sI hidden,sI blind,sI index,.imm (xq chains),.imm (zy path)],.cells [sI n],.cells [sS text],.cells [sI (pre.length:Nat)],.cells [sI sq],.cells [sS person,sI month,yg root,.vec 8 (pre++c::post).length,.asl 9 6 (shown.map Shw.cells),sI hidden,sI blind,sI index,.imm (xq chains),.imm (zy path)],.vec 1 ((pre++c::post).map sI),.tok 6 (([]:List (List D)).length+(shown.map Shw.cells).length)]:List SObj) from rfl)) ?_;refine zv rfl rfl rfl rfl rfl rfl (ya Tryz.func27 rfl (by rw [Tryz.ntmps27];simp) ?_);intro E2 hH2 hK2;(refine ze ?_;conv=>whnf);refine xf 0 mixed rfl ?_;(refine zn [777,10] (nx:=10) ?_;conv=>whnf);refine zko (b:=8) (n:=(pre++c::post).length) (kk:=1) (i:=pre.length) (cs:=(pre++c::post).map sI) rfl rfl rfl rfl rfl rfl rfl (show 10<=10 by decide) rfl (by simp) (by decide) rfl (by simp) ?_;refine zdm (b:=8) (n:=(pre++c::post).length) (off:=pre.length*1) (ns:=1) (kk:=1) (cs:=(pre++c::post).map sI) (v:=sI sq) (vcs:=[sI sq]) rfl rfl rfl rfl rfl rfl rfl rfl rfl (show 10<=10 by decide) rfl (by simp) (by decide) (by simp) (by decide) ?_;rw [yxy];refine qf (by kernel_rfl) ?_;refine Eq.mpr (congrArg (fun h=>SW E2 _ _ h) (show _=([.cells [yg key],.cells [sI height],.cells [sS person,sI month,yg root,.imm (yv (pre++c::post)),.imm (je shown),sI hidden,sI blind,sI index,.imm (xq chains),.imm (zy path)],.cells [sI n],.cells [sS text],.cells [sI (pre.length:Nat)],.cells [sI sq],.cells [sS person,sI month,yg root,.vec 8 (pre++c::post).length,.asl 9 6 (shown.map Shw.cells),sI hidden,sI blind,sI index,.imm (xq chains),.imm (zy path)],.vec 1 ((pre++sq::post).map sI),.tok 6 (([]:List (List D)).length+(shown.map Shw.cells).length)]:List SObj) from rfl)) ?_;(refine ze ?_;conv=>whnf);refine hK2 _ _ ⟨by show 10<=10;decide,?_⟩;clear hK2 hH2 E2;refine yw (fun k=>zai 7 3 8 (pre++c::post).length 1 (cs0:=[sS person,sI month,yg root,.vec 8 (pre++c::post).length,.asl 9 6 (shown.map Shw.cells),sI hidden,sI blind,sI index,.imm (xq chains),.imm (zy path)]) (cs:=(pre++sq::post).map sI) (ds:=(pre++sq::post).map dI) rfl rfl rfl (yxz _) (yto _) (by simp) (by decide)) ?_;rw [ygn];refine yw (fun k=>ja) ?_;(refine zc ?_;conv=>whnf);refine zd rfl  c1 ?_;(refine zc ?_;conv=>whnf);exact hK _ _ (by show 7<=10;decide) rfl rfl ⟨rfl,rfl⟩
theorem yap (key:Nat) (height:Int) (d:Disc) (n:Int) (text:ByteArray) (k sq:Int) (pre post:List Shw) (s:Shw) (hsh:d.shown=pre++s::post) (hc:d.commit.length<=1024) (hs:d.shown.length<=1024) (hd:DFit {d with shown:=pre++{s with cents:=n}::post}):
  SPre Tryz.prog G37 23 [.fn (.func 28) [] [.ptr 3 0,.ptr 7 0],.ptr 2 0,.ptr 0 0,.ptr 1 0] [.cells [yg key],.cells [sI height],d.box,.cells [sI n],.cells [sS text],.cells [sI k],.cells [sI sq],.cells [sI (pre.length:Nat)]]
   (fun r H=>r=sB (!accOK key height {d with shown:=pre++{s with cents:=n}::post})/\H=[.cells [yg key],.cells [sI height],d.box,.cells [sI n],.cells [sS text],.cells [sI k],.cells [sI sq],.cells [sI (pre.length:Nat)]]):=by
 have c1:=wy jz key height {d with shown:=pre++{s with cents:=n}::post} hd;generalize accOK key height {d with shown:=pre++{s with cents:=n}::post}=o at c1 ⊢;clear hd;obtain ⟨person,month,root,commit,shown,hidden,blind,⟨index,chains,path⟩⟩:=d;simp only at hc hs hsh;subst hsh;have em1:(commit.map fun (n:Int)=>[dI n]).length=commit.length:=by simp
 have hset:(shC (pre++s::post)).take (pre.length*6+2)++[sI n]++(shC (pre++s::post)).drop (pre.length*6+2+1)=shC (pre++{s with cents:=n}::post):=by
  obtain ⟨si,sla,sce,sre,sbl,spa⟩:=s;exact yvy pre post _ _ (A:=[sI si,sS sla]) (M:=[sI sce]) (B:=[sS sre,sI sbl,.imm (zy spa)]) rfl rfl rfl rfl
 have hch:=zwq pre post s {s with cents:=n};have hlen:=zhp (pre++s::post);have hlen2:(shC (pre++{s with cents:=n}::post)).length=(pre++s::post).length*6:=by rw [zhp];simp
 have hlt:pre.length*6+6<=(shC (pre++s::post)).length:=by rw [hlen,List.length_append,List.length_cons];omega
 have hpos:1<=(pre++s::post).length:=by rw [List.length_append,List.length_cons];omega
 refine xc Tryz.func23 rfl (by rw [Tryz.ntmps23];simp) rfl rfl ?_;intro E hH hK;(refine zm [777,11] 1000 ?_;conv=>whnf);refine zr (b:=9) (kk:=1) (rows:=[]) (new:=commit.map fun (n:Int)=>[dI n]) rfl ⟨by decide,rfl⟩ rfl (by rw [em1];simp only [List.length_nil];omega) ?_;(refine zj [777,16] 1000 ?_;conv=>whnf);refine yw (fun k=>zlj 13 10 6 rfl rfl) ?_;refine zbb (b:=10) (n:=0) (kk:=6) (cs:=[]) (new:=(pre++s::post).map Shw.cells) rfl rfl rfl rfl rfl rfl rfl rfl rfl rfl ⟨by decide,rfl⟩ rfl rfl (by decide) (by rw [List.length_map,List.length_append,List.length_cons];omega) (by simp only [List.length_map];omega) ?_;rw [shL,shN];(refine zc ?_;conv=>whnf);refine Eq.mpr (congrArg (fun h=>SWr E _ _ _ _ h) (show _=([.cells [yg key],.cells [sI height],.cells [sS person,sI month,yg root,.imm (yv commit),.imm (je (pre++s::post)),sI hidden,sI blind,sI index,.imm (xq chains),.imm (zy path)],.cells [sI n],.cells [sS text],.cells [sI k],.cells [sI sq],.cells [sI (pre.length:Nat)],.cells [sS person,sI month,yg root,.asl 9 1 (commit.map fun (n:Int)=>[dI n]),.vec 10 (pre++s::post).length,sI hidden,sI blind,sI index,.imm (xq chains),.imm (zy path)],.tok 1 (([]:List (List D)).length+(commit.map fun (n:Int)=>[dI n]).length),.vec 6 (shC (pre++s::post))]:List SObj) from rfl)) ?_;refine zv rfl rfl rfl rfl rfl rfl (ya Tryz.func28 rfl (by rw [Tryz.ntmps28];simp) ?_);intro E2 hH2 hK2;(refine ze ?_;conv=>whnf);refine xf 0 mixed rfl ?_;(refine zn [777,10] (nx:=11) ?_;conv=>whnf);refine zko (b:=10) (n:=(pre++s::post).length) (kk:=6) (i:=pre.length) (cs:=shC (pre++s::post)) rfl rfl rfl rfl rfl rfl rfl (show 11<=11 by decide) rfl hlen (by decide) rfl (by simp) ?_;refine zmk (b:=10) (n:=(pre++s::post).length) (off:=pre.length*6) (f:=1) (kk:=6) (cs:=shC (pre++s::post)) rfl rfl rfl rfl rfl rfl rfl (show 11<=11 by decide) rfl hlen (by decide) hpos ?_;refine zmk (b:=10) (n:=(pre++s::post).length) (off:=pre.length*6+1) (f:=1) (kk:=6) (cs:=shC (pre++s::post)) rfl rfl rfl rfl rfl rfl rfl (show 11<=11 by decide) rfl hlen (by decide) hpos ?_;refine zdm (b:=10) (n:=(pre++s::post).length) (off:=pre.length*6+2) (ns:=1) (kk:=6) (cs:=shC (pre++s::post)) (v:=sI n) (vcs:=[sI n]) rfl rfl rfl rfl rfl rfl rfl rfl rfl (show 11<=11 by decide) rfl hlen (by decide) (by omega) (by decide) ?_;rw [hset];refine qf (by kernel_rfl) ?_;refine Eq.mpr (congrArg (fun h=>SW E2 _ _ h) (show _=([.cells [yg key],.cells [sI height],.cells [sS person,sI month,yg root,.imm (yv commit),.imm (je (pre++s::post)),sI hidden,sI blind,sI index,.imm (xq chains),.imm (zy path)],.cells [sI n],.cells [sS text],.cells [sI k],.cells [sI sq],.cells [sI (pre.length:Nat)],.cells [sS person,sI month,yg root,.asl 9 1 (commit.map fun (n:Int)=>[dI n]),.vec 10 (pre++s::post).length,sI hidden,sI blind,sI index,.imm (xq chains),.imm (zy path)],.tok 1 (([]:List (List D)).length+(commit.map fun (n:Int)=>[dI n]).length),.vec 6 (shC (pre++{s with cents:=n}::post))]:List SObj) from rfl)) ?_;(refine ze ?_;conv=>whnf);refine hK2 _ _ ⟨by show 11<=11;decide,?_⟩;clear hK2 hH2 E2;refine yw (fun k=>zai 8 4 10 (pre++s::post).length 6 (cs0:=[sS person,sI month,yg root,.asl 9 1 (commit.map fun (n:Int)=>[dI n]),.vec 10 (pre++s::post).length,sI hidden,sI blind,sI index,.imm (xq chains),.imm (zy path)]) (cs:=shC (pre++{s with cents:=n}::post)) (ds:=((pre++{s with cents:=n}::post).map Shw.cells).flatten) rfl rfl rfl (yvz _) (yor _) hlen2 (by decide)) ?_;rw [hch];refine yw (fun k=>ja) ?_;(refine zc ?_;conv=>whnf);refine zd rfl  c1 ?_;(refine zc ?_;conv=>whnf);exact hK _ _ (by show 8<=11;decide) rfl rfl ⟨rfl,rfl⟩
theorem zrq (key:Nat) (height:Int) (d:Disc) (n:Int) (text:ByteArray) (k sq:Int) (pre post:List Shw) (s:Shw) (hsh:d.shown=pre++s::post) (hc:d.commit.length<=1024) (hs:d.shown.length<=1024) (hd:DFit {d with shown:=pre++{s with blind:=n}::post}):
  SPre Tryz.prog G37 23 [.fn (.func 29) [] [.ptr 3 0,.ptr 7 0],.ptr 2 0,.ptr 0 0,.ptr 1 0] [.cells [yg key],.cells [sI height],d.box,.cells [sI n],.cells [sS text],.cells [sI k],.cells [sI sq],.cells [sI (pre.length:Nat)]]
   (fun r H=>r=sB (!accOK key height {d with shown:=pre++{s with blind:=n}::post})/\H=[.cells [yg key],.cells [sI height],d.box,.cells [sI n],.cells [sS text],.cells [sI k],.cells [sI sq],.cells [sI (pre.length:Nat)]]):=by
 have c1:=wy jz key height {d with shown:=pre++{s with blind:=n}::post} hd;generalize accOK key height {d with shown:=pre++{s with blind:=n}::post}=o at c1 ⊢;clear hd;obtain ⟨person,month,root,commit,shown,hidden,blind,⟨index,chains,path⟩⟩:=d;simp only at hc hs hsh;subst hsh;have em1:(commit.map fun (n:Int)=>[dI n]).length=commit.length:=by simp
 have hset:(shC (pre++s::post)).take (pre.length*6+4)++[sI n]++(shC (pre++s::post)).drop (pre.length*6+4+1)=shC (pre++{s with blind:=n}::post):=by
  obtain ⟨si,sla,sce,sre,sbl,spa⟩:=s;exact yvy pre post _ _ (A:=[sI si,sS sla,sI sce,sS sre]) (M:=[sI sbl]) (B:=[.imm (zy spa)]) rfl rfl rfl rfl
 have hch:=zwq pre post s {s with blind:=n};have hlen:=zhp (pre++s::post);have hlen2:(shC (pre++{s with blind:=n}::post)).length=(pre++s::post).length*6:=by rw [zhp];simp
 have hlt:pre.length*6+6<=(shC (pre++s::post)).length:=by rw [hlen,List.length_append,List.length_cons];omega
 have hpos:1<=(pre++s::post).length:=by rw [List.length_append,List.length_cons];omega
 refine xc Tryz.func23 rfl (by rw [Tryz.ntmps23];simp) rfl rfl ?_;intro E hH hK;(refine zm [777,11] 1000 ?_;conv=>whnf);refine zr (b:=9) (kk:=1) (rows:=[]) (new:=commit.map fun (n:Int)=>[dI n]) rfl ⟨by decide,rfl⟩ rfl (by rw [em1];simp only [List.length_nil];omega) ?_;(refine zj [777,16] 1000 ?_;conv=>whnf);refine yw (fun k=>zlj 13 10 6 rfl rfl) ?_;refine zbb (b:=10) (n:=0) (kk:=6) (cs:=[]) (new:=(pre++s::post).map Shw.cells) rfl rfl rfl rfl rfl rfl rfl rfl rfl rfl ⟨by decide,rfl⟩ rfl rfl (by decide) (by rw [List.length_map,List.length_append,List.length_cons];omega) (by simp only [List.length_map];omega) ?_;rw [shL,shN];(refine zc ?_;conv=>whnf);refine Eq.mpr (congrArg (fun h=>SWr E _ _ _ _ h) (show _=([.cells [yg key],.cells [sI height],.cells [sS person,sI month,yg root,.imm (yv commit),.imm (je (pre++s::post)),sI hidden,sI blind,sI index,.imm (xq chains),.imm (zy path)],.cells [sI n],.cells [sS text],.cells [sI k],.cells [sI sq],.cells [sI (pre.length:Nat)],.cells [sS person,sI month,yg root,.asl 9 1 (commit.map fun (n:Int)=>[dI n]),.vec 10 (pre++s::post).length,sI hidden,sI blind,sI index,.imm (xq chains),.imm (zy path)],.tok 1 (([]:List (List D)).length+(commit.map fun (n:Int)=>[dI n]).length),.vec 6 (shC (pre++s::post))]:List SObj) from rfl)) ?_;refine zv rfl rfl rfl rfl rfl rfl (ya Tryz.func29 rfl (by rw [Tryz.ntmps29];simp) ?_);intro E2 hH2 hK2;(refine ze ?_;conv=>whnf);refine xf 0 mixed rfl ?_;(refine zn [777,10] (nx:=11) ?_;conv=>whnf);refine zko (b:=10) (n:=(pre++s::post).length) (kk:=6) (i:=pre.length) (cs:=shC (pre++s::post)) rfl rfl rfl rfl rfl rfl rfl (show 11<=11 by decide) rfl hlen (by decide) rfl (by simp) ?_;refine zmk (b:=10) (n:=(pre++s::post).length) (off:=pre.length*6) (f:=2) (kk:=6) (cs:=shC (pre++s::post)) rfl rfl rfl rfl rfl rfl rfl (show 11<=11 by decide) rfl hlen (by decide) hpos ?_;refine zdm (b:=10) (n:=(pre++s::post).length) (off:=pre.length*6+4) (ns:=1) (kk:=6) (cs:=shC (pre++s::post)) (v:=sI n) (vcs:=[sI n]) rfl rfl rfl rfl rfl rfl rfl rfl rfl (show 11<=11 by decide) rfl hlen (by decide) (by omega) (by decide) ?_;rw [hset];refine qf (by kernel_rfl) ?_;refine Eq.mpr (congrArg (fun h=>SW E2 _ _ h) (show _=([.cells [yg key],.cells [sI height],.cells [sS person,sI month,yg root,.imm (yv commit),.imm (je (pre++s::post)),sI hidden,sI blind,sI index,.imm (xq chains),.imm (zy path)],.cells [sI n],.cells [sS text],.cells [sI k],.cells [sI sq],.cells [sI (pre.length:Nat)],.cells [sS person,sI month,yg root,.asl 9 1 (commit.map fun (n:Int)=>[dI n]),.vec 10 (pre++s::post).length,sI hidden,sI blind,sI index,.imm (xq chains),.imm (zy path)],.tok 1 (([]:List (List D)).length+(commit.map fun (n:Int)=>[dI n]).length),.vec 6 (shC (pre++{s with blind:=n}::post))]:List SObj) from rfl)) ?_;(refine ze ?_;conv=>whnf);refine hK2 _ _ ⟨by show 11<=11;decide,?_⟩;clear hK2 hH2 E2;refine yw (fun k=>zai 8 4 10 (pre++s::post).length 6 (cs0:=[sS person,sI month,yg root,.asl 9 1 (commit.map fun (n:Int)=>[dI n]),.vec 10 (pre++s::post).length,sI hidden,sI blind,sI index,.imm (xq chains),.imm (zy path)]) (cs:=shC (pre++{s with blind:=n}::post)) (ds:=((pre++{s with blind:=n}::post).map Shw.cells).flatten) rfl rfl rfl (yvz _) (yor _) hlen2 (by decide)) ?_;rw [hch];refine yw (fun k=>ja) ?_;(refine zc ?_;conv=>whnf);refine zd rfl  c1 ?_;(refine zc ?_;conv=>whnf);exact hK _ _ (by show 8<=11;decide) rfl rfl ⟨rfl,rfl⟩
theorem yju (key:Nat) (height:Int) (d:Disc) (n:Int) (text:ByteArray) (k sq:Int) (pre post:List Shw) (s z:Shw) (hsh:d.shown=pre++s::post) (hc:d.commit.length<=1024) (hs:d.shown.length<=1024) (hd:DFit {d with shown:=pre++z::post}):
  SPre Tryz.prog G37 23 [.fn (.func 33) [] [.ptr 10 0,.ptr 7 0],.ptr 2 0,.ptr 0 0,.ptr 1 0] [.cells [yg key],.cells [sI height],d.box,.cells [sI n],.cells [sS text],.cells [sI k],.cells [sI sq],.cells [sI (pre.length:Nat)],.cells (s.cells.map .imm),.cells [.fn (.func 31) [] [.ptr 4 0],.fn (.func 32) [] [.ptr 4 0]],.cells (z.cells.map .imm)]
   (fun r H=>r=sB (!accOK key height {d with shown:=pre++z::post})/\H=[.cells [yg key],.cells [sI height],d.box,.cells [sI n],.cells [sS text],.cells [sI k],.cells [sI sq],.cells [sI (pre.length:Nat)],.cells (s.cells.map .imm),.cells [.fn (.func 31) [] [.ptr 4 0],.fn (.func 32) [] [.ptr 4 0]],.cells (z.cells.map .imm)]):=by
 have c1:=wy jz key height {d with shown:=pre++z::post} hd;generalize accOK key height {d with shown:=pre++z::post}=o at c1 ⊢;clear hd;obtain ⟨person,month,root,commit,shown,hidden,blind,⟨index,chains,path⟩⟩:=d;simp only at hc hs hsh;subst hsh;have em1:(commit.map fun (n:Int)=>[dI n]).length=commit.length:=by simp
 have hset:(shC (pre++s::post)).take (pre.length*6+0)++z.cells.map .imm++(shC (pre++s::post)).drop (pre.length*6+0+6)=shC (pre++z::post):=by
  exact yvy pre post s z (A:=[]) (B:=[]) (M:=s.cells.map SV.imm) (by simp) (by simp) rfl rfl
 have hch:=zwq pre post s z;have hlen:=zhp (pre++s::post);have hlen2:(shC (pre++z::post)).length=(pre++s::post).length*6:=by rw [zhp];simp
 have hlt:pre.length*6+6<=(shC (pre++s::post)).length:=by rw [hlen,List.length_append,List.length_cons];omega
 refine xc Tryz.func23 rfl (by rw [Tryz.ntmps23];simp) rfl rfl ?_;intro E hH hK;(refine zm [777,11] 1000 ?_;conv=>whnf);refine zr (b:=12) (kk:=1) (rows:=[]) (new:=commit.map fun (n:Int)=>[dI n]) rfl ⟨by decide,rfl⟩ rfl (by rw [em1];simp only [List.length_nil];omega) ?_;(refine zj [777,16] 1000 ?_;conv=>whnf);refine yw (fun k=>zlj 13 13 6 rfl rfl) ?_;refine zbb (b:=13) (n:=0) (kk:=6) (cs:=[]) (new:=(pre++s::post).map Shw.cells) rfl rfl rfl rfl rfl rfl rfl rfl rfl rfl ⟨by decide,rfl⟩ rfl rfl (by decide) (by rw [List.length_map,List.length_append,List.length_cons];omega) (by simp only [List.length_map];omega) ?_;rw [shL,shN];(refine zc ?_;conv=>whnf);refine Eq.mpr (congrArg (fun h=>SWr E _ _ _ _ h) (show _=([.cells [yg key],.cells [sI height],.cells [sS person,sI month,yg root,.imm (yv commit),.imm (je (pre++s::post)),sI hidden,sI blind,sI index,.imm (xq chains),.imm (zy path)],.cells [sI n],.cells [sS text],.cells [sI k],.cells [sI sq],.cells [sI (pre.length:Nat)],.cells (s.cells.map .imm),.cells [.fn (.func 31) [] [.ptr 4 0],.fn (.func 32) [] [.ptr 4 0]],.cells (z.cells.map .imm),.cells [sS person,sI month,yg root,.asl 12 1 (commit.map fun (n:Int)=>[dI n]),.vec 13 (pre++s::post).length,sI hidden,sI blind,sI index,.imm (xq chains),.imm (zy path)],.tok 1 (([]:List (List D)).length+(commit.map fun (n:Int)=>[dI n]).length),.vec 6 (shC (pre++s::post))]:List SObj) from rfl)) ?_;refine zv rfl rfl rfl rfl rfl rfl (ya Tryz.func33 rfl (by rw [Tryz.ntmps33];simp) ?_);intro E2 hH2 hK2;(refine ze ?_;conv=>whnf);refine xf 0 mixed rfl ?_;(refine zn [777,10] (nx:=14) ?_;conv=>whnf);refine zko (b:=13) (n:=(pre++s::post).length) (kk:=6) (i:=pre.length) (cs:=shC (pre++s::post)) rfl rfl rfl rfl rfl rfl rfl (show 14<=14 by decide) rfl hlen (by decide) rfl (by simp) ?_;refine zdm (b:=13) (n:=(pre++s::post).length) (off:=pre.length*6+0) (ns:=6) (kk:=6) (cs:=shC (pre++s::post)) (v:=.agg (z.cells.map .imm)) (vcs:=z.cells.map .imm) rfl rfl rfl rfl rfl rfl rfl rfl rfl (show 14<=14 by decide) rfl hlen (by decide) (by omega) (by decide) ?_;rw [hset];refine qf (by kernel_rfl) ?_;refine Eq.mpr (congrArg (fun h=>SW E2 _ _ h) (show _=([.cells [yg key],.cells [sI height],.cells [sS person,sI month,yg root,.imm (yv commit),.imm (je (pre++s::post)),sI hidden,sI blind,sI index,.imm (xq chains),.imm (zy path)],.cells [sI n],.cells [sS text],.cells [sI k],.cells [sI sq],.cells [sI (pre.length:Nat)],.cells (s.cells.map .imm),.cells [.fn (.func 31) [] [.ptr 4 0],.fn (.func 32) [] [.ptr 4 0]],.cells (z.cells.map .imm),.cells [sS person,sI month,yg root,.asl 12 1 (commit.map fun (n:Int)=>[dI n]),.vec 13 (pre++s::post).length,sI hidden,sI blind,sI index,.imm (xq chains),.imm (zy path)],.tok 1 (([]:List (List D)).length+(commit.map fun (n:Int)=>[dI n]).length),.vec 6 (shC (pre++z::post))]:List SObj) from rfl)) ?_;(refine ze ?_;conv=>whnf);refine hK2 _ _ ⟨by show 14<=14;decide,?_⟩;clear hK2 hH2 E2;refine yw (fun k=>zai 11 4 13 (pre++s::post).length 6 (cs0:=[sS person,sI month,yg root,.asl 12 1 (commit.map fun (n:Int)=>[dI n]),.vec 13 (pre++s::post).length,sI hidden,sI blind,sI index,.imm (xq chains),.imm (zy path)]) (cs:=shC (pre++z::post)) (ds:=((pre++z::post).map Shw.cells).flatten) rfl rfl rfl (yvz _) (yor _) hlen2 (by decide)) ?_;rw [hch];refine yw (fun k=>ja) ?_;(refine zc ?_;conv=>whnf);refine zd rfl  c1 ?_;(refine zc ?_;conv=>whnf);exact hK _ _ (by show 11<=14;decide) rfl rfl ⟨rfl,rfl⟩
theorem yos:∀(l:List Shw) (lo hi:Int),l.Pairwise (fun x y=>x.index<y.index)->(∀s∈l,lo<=s.index/\s.index<hi)->lo<=hi->(l.length:Int)<=hi-lo
 |[],lo,hi,_,_,h=>by
  rw [List.length_nil];omega
 |s::l,lo,hi,h1,h2,h=>by
  have h3:=h2 s (by simp);have ih:=yos l (s.index+1) hi (List.pairwise_cons.1 h1).2 (fun x hx=>⟨by have:=(List.pairwise_cons.1 h1).1 x hx;omega,(h2 x (by simp [hx])).2⟩) (by omega);rw [List.length_cons];omega
section
variable {key:Nat} {height:Int} {d:Disc}
theorem zka (h:accOK key height d=true):1<=d.commit.length/\d.commit.length<=1024:=((zle _).1 (qt h).1).len
theorem zbt (h:accOK key height d=true):d.shown.length<=1024:=by
 have h1:=yos d.shown 0 d.commit.length (ysd h) (fun s hs=>(zdv h hs).idx) (by omega);have h2:=(zka h).2;omega
theorem ydy {α:Type} (pre post:List α) (c n:α):(pre++c::post).set pre.length n=pre++n::post:=by
 induction pre with
 |nil=>rfl
 |cons x pre ih=>rw [List.cons_append,List.length_cons,List.set_cons_succ,ih,List.cons_append]
theorem get_mid {α:Type} (pre post:List α) (c:α):(pre++c::post)[pre.length]?=some c:=by
 induction pre with
 |nil=>rfl
 |cons x pre ih=>rw [List.cons_append,List.length_cons,List.getElem?_cons_succ,ih]
theorem yaq (h:accOK key height d=true) {pre post:List Int} {c n:Int} (hcm:d.commit=pre++c::post) (hn:n≠c):accOK key height {d with commit:=pre++n::post}=false:=by
 have h1:=yjk h (k:=pre.length) (n:=n) (by rw [hcm];simp) (by rw [hcm,List.getD_eq_getElem?_getD,get_mid];exact hn);have h2:d.commit.set pre.length n=pre++n::post:=by rw [hcm,ydy]
 rwa [h2] at h1
theorem ydz (h:accOK key height d=true) {pre post:List Shw} {s:Shw} {n:Int} (hsh:d.shown=pre++s::post) (hn:n≠s.cents):accOK key height {d with shown:=pre++{s with cents:=n}::post}=false:=by
 have h1:=yad h (i:=pre.length) (s:=s) (n:=n) (by rw [hsh,get_mid]) hn;have h2:d.shown.set pre.length {s with cents:=n}=pre++{s with cents:=n}::post:=by rw [hsh,ydy]
 rwa [h2] at h1
theorem yar (h:accOK key height d=true) {pre post:List Shw} {s:Shw} {n:Int} (hsh:d.shown=pre++s::post) (hn:n≠s.blind):accOK key height {d with shown:=pre++{s with blind:=n}::post}=false:=by
 have h1:=zwl h (i:=pre.length) (s:=s) (n:=n) (by rw [hsh,get_mid]) hn;have h2:d.shown.set pre.length {s with blind:=n}=pre++{s with blind:=n}::post:=by rw [hsh,ydy]
 rwa [h2] at h1
theorem ywa {r:Nat} (hr:r<18446744073709551616):(r+1) % 18446744073709551616≠r:=by omega
theorem yya {pre post:List Shw} {z:Shw} (h:accOK key height {d with shown:=pre++z::post}=true):RowIn d z:=by
 have r:=zdv h (s:=z) (by simp);exact ⟨r.idx,r.opens,r.leads⟩
theorem ygo (h:accOK key height d=true) {pre post:List Int} {c:Int} (hcm:d.commit=pre++c::post):zaq c=true:=
 ((zle _).1 (qt h).1).elem c (by rw [hcm];simp)
end
section
variable {d:Disc}
theorem yjv (h:DFit d) (n:Int):DFit {d with hidden:=n}:=⟨h.person,h.root,h.commit,h.shown,h.row,h.chains,h.path⟩
theorem yot (h:DFit d) (n:Int):DFit {d with blind:=n}:=⟨h.person,h.root,h.commit,h.shown,h.row,h.chains,h.path⟩
theorem ysj (h:DFit d):DFit {d with root:=(d.root+1) % 18446744073709551616}:=⟨h.person,Nat.mod_lt _ (by decide),h.commit,h.shown,h.row,h.chains,h.path⟩
theorem zun (h:DFit d) {pre post:List Int} {c n:Int} (hcm:d.commit=pre++c::post):DFit {d with commit:=pre++n::post}:=
 ⟨h.person,h.root,by
  have:=h.commit;rw [hcm] at this
  simpa using this,h.shown,h.row,h.chains,h.path⟩
theorem zrr (h:DFit d) {pre post:List Shw} {s z:Shw} (hsh:d.shown=pre++s::post) (hz:z.label.size<=1000000000000000/\z.reason.size<=1000000000000000/\z.path=s.path):DFit {d with shown:=pre++z::post}:=
 ⟨h.person,h.root,h.commit,by
  have:=h.shown;rw [hsh] at this;simpa using this,by
  intro x hx;have hs:=h.row s (by rw [hsh];simp);rcases List.mem_append.1 hx with hx|hx
  ·exact h.row x (by rw [hsh];simp [hx])
  ·rcases List.mem_cons.1 hx with rfl|hx
   ·exact ⟨hz.1,hz.2.1,by rw [hz.2.2];exact hs.2.2⟩
   ·exact h.row x (by rw [hsh];simp [hx]),h.chains,h.path⟩
end
theorem yas {α:Type} (l:List α) (i:Nat) (h:i<l.length):∃pre c post,l=pre++c::post/\pre.length=i:=
 ⟨l.take i,l[i],l.drop (i+1),by simp,by rw [List.length_take];omega⟩
def byX (a:Nat) (i:Int):Int:=IntKind.u8.wrap ((a:Int).fdiv (2 ^ min (IntKind.i64.wrap (8*i)).toNat IntKind.u64.bits))
theorem yyb (a i:Nat) (hi:i<=7):byX a i=((yqu a (7-i)).toNat:Int):=by
 have h1:(IntKind.i64.wrap (8*(i:Int))).toNat=8*i:=by rw [zt (by omega) (by omega)];omega
 unfold byX;rw [h1,show min (8*i) IntKind.u64.bits=8*i from Nat.min_eq_left (show 8*i<=64 by omega),ybp,yqv,zhx,show 7-(7-i)=i by omega,Nat.pow_mul]
theorem zlk (G:List (Nat × D)) (a b:Nat):zq Tryz.prog G 160 [yg a,yg b] (sS (⟨#[1]⟩++zig a++zig b)):=by
 have hres:zbl ([1]++[byX a 7,byX a 6,byX a 5,byX a 4,byX a 3,byX a 2,byX a 1,byX a 0]++[byX b 7,byX b 6,byX b 5,byX b 4,byX b 3,byX b 2,byX b 1,byX b 0])=⟨#[1]⟩++zig a++zig b:=by
  have key:∀d:Nat,[byX d 7,byX d 6,byX d 5,byX d 4,byX d 3,byX d 2,byX d 1,byX d 0]=(zny d).map fun c=>(c.toNat:Int):=fun d=>by
   have h:=fun i hi=>yyb d i hi
   show [byX d (7:Nat),byX d (6:Nat),byX d (5:Nat),byX d (4:Nat),byX d (3:Nat),byX d (2:Nat),byX d (1:Nat),byX d (0:Nat)]=_;rw [h 7 (by decide),h 6 (by decide),h 5 (by decide),h 4 (by decide),h 3 (by decide),h 2 (by decide),h 1 (by decide),h 0 (by decide)];rfl
  rw [key a,key b,show ([1]:List Int)=([1]:List UInt8).map fun c=>(c.toNat:Int) from rfl, <-List.map_append, <-List.map_append,zfy]
  apply ByteArray.ext
  simp [ByteArray.data_append,zig]
 rw [<-hres];clear hres;refine zh Tryz.func160 rfl (by rw [Tryz.ntmps160];simp) rfl rfl ?_;intro E hH hK;(refine ze ?_;conv=>whnf);refine zg [0,1,5,8] ?_;change SW E _ [(0,yg a),(1,yg b),(5,.ptr 0 0),(8,sI 0)] [.cells [.imm (.val (.int .u8 1)),.imm (.val (.int .u8 0)),.imm (.val (.int .u8 0)),.imm (.val (.int .u8 0)),.imm (.val (.int .u8 0)),.imm (.val (.int .u8 0)),.imm (.val (.int .u8 0)),.imm (.val (.int .u8 0)),.imm (.val (.int .u8 0)),.imm (.val (.int .u8 0)),.imm (.val (.int .u8 0)),.imm (.val (.int .u8 0)),.imm (.val (.int .u8 0)),.imm (.val (.int .u8 0)),.imm (.val (.int .u8 0)),.imm (.val (.int .u8 0)),.imm (.val (.int .u8 0))]];refine ybg ?_;(refine zm [777,28] 1000 ?_;conv=>whnf);refine zg [0,1,5,8] ?_;change SW E _ [(0,yg a),(1,yg b),(5,.ptr 0 0),(8,sI 1)] [.cells [.imm (.val (.int .u8 1)),.imm (.val (.int .u8 0)),.imm (.val (.int .u8 0)),.imm (.val (.int .u8 0)),.imm (.val (.int .u8 0)),.imm (.val (.int .u8 0)),.imm (.val (.int .u8 0)),.imm (.val (.int .u8 0)),.imm (.val (.int .u8 (byX a 0))),.imm (.val (.int .u8 0)),.imm (.val (.int .u8 0)),.imm (.val (.int .u8 0)),.imm (.val (.int .u8 0)),.imm (.val (.int .u8 0)),.imm (.val (.int .u8 0)),.imm (.val (.int .u8 0)),.imm (.val (.int .u8 (byX b 0)))]];refine zas ?_;(refine zm [777,28] 1000 ?_;conv=>whnf);refine zg [0,1,5,8] ?_;change SW E _ [(0,yg a),(1,yg b),(5,.ptr 0 0),(8,sI 2)] [.cells [.imm (.val (.int .u8 1)),.imm (.val (.int .u8 0)),.imm (.val (.int .u8 0)),.imm (.val (.int .u8 0)),.imm (.val (.int .u8 0)),.imm (.val (.int .u8 0)),.imm (.val (.int .u8 0)),.imm (.val (.int .u8 (byX a 1))),.imm (.val (.int .u8 (byX a 0))),.imm (.val (.int .u8 0)),.imm (.val (.int .u8 0)),.imm (.val (.int .u8 0)),.imm (.val (.int .u8 0)),.imm (.val (.int .u8 0)),.imm (.val (.int .u8 0)),.imm (.val (.int .u8 (byX b 1))),.imm (.val (.int .u8 (byX b 0)))]];refine zas ?_;(refine zm [777,28] 1000 ?_;conv=>whnf);refine zg [0,1,5,8] ?_;change SW E _ [(0,yg a),(1,yg b),(5,.ptr 0 0),(8,sI 3)] [.cells [.imm (.val (.int .u8 1)),.imm (.val (.int .u8 0)),.imm (.val (.int .u8 0)),.imm (.val (.int .u8 0)),.imm (.val (.int .u8 0)),.imm (.val (.int .u8 0)),.imm (.val (.int .u8 (byX a 2))),.imm (.val (.int .u8 (byX a 1))),.imm (.val (.int .u8 (byX a 0))),.imm (.val (.int .u8 0)),.imm (.val (.int .u8 0)),.imm (.val (.int .u8 0)),.imm (.val (.int .u8 0)),.imm (.val (.int .u8 0)),.imm (.val (.int .u8 (byX b 2))),.imm (.val (.int .u8 (byX b 1))),.imm (.val (.int .u8 (byX b 0)))]];refine zas ?_;(refine zm [777,28] 1000 ?_;conv=>whnf);refine zg [0,1,5,8] ?_;change SW E _ [(0,yg a),(1,yg b),(5,.ptr 0 0),(8,sI 4)] [.cells [.imm (.val (.int .u8 1)),.imm (.val (.int .u8 0)),.imm (.val (.int .u8 0)),.imm (.val (.int .u8 0)),.imm (.val (.int .u8 0)),.imm (.val (.int .u8 (byX a 3))),.imm (.val (.int .u8 (byX a 2))),.imm (.val (.int .u8 (byX a 1))),.imm (.val (.int .u8 (byX a 0))),.imm (.val (.int .u8 0)),.imm (.val (.int .u8 0)),.imm (.val (.int .u8 0)),.imm (.val (.int .u8 0)),.imm (.val (.int .u8 (byX b 3))),.imm (.val (.int .u8 (byX b 2))),.imm (.val (.int .u8 (byX b 1))),.imm (.val (.int .u8 (byX b 0)))]];refine zas ?_;(refine zm [777,28] 1000 ?_;conv=>whnf);refine zg [0,1,5,8] ?_;change SW E _ [(0,yg a),(1,yg b),(5,.ptr 0 0),(8,sI 5)] [.cells [.imm (.val (.int .u8 1)),.imm (.val (.int .u8 0)),.imm (.val (.int .u8 0)),.imm (.val (.int .u8 0)),.imm (.val (.int .u8 (byX a 4))),.imm (.val (.int .u8 (byX a 3))),.imm (.val (.int .u8 (byX a 2))),.imm (.val (.int .u8 (byX a 1))),.imm (.val (.int .u8 (byX a 0))),.imm (.val (.int .u8 0)),.imm (.val (.int .u8 0)),.imm (.val (.int .u8 0)),.imm (.val (.int .u8 (byX b 4))),.imm (.val (.int .u8 (byX b 3))),.imm (.val (.int .u8 (byX b 2))),.imm (.val (.int .u8 (byX b 1))),.imm (.val (.int .u8 (byX b 0)))]];refine zas ?_;(refine zm [777,28] 1000 ?_;conv=>whnf);refine zg [0,1,5,8] ?_;change SW E _ [(0,yg a),(1,yg b),(5,.ptr 0 0),(8,sI 6)] [.cells [.imm (.val (.int .u8 1)),.imm (.val (.int .u8 0)),.imm (.val (.int .u8 0)),.imm (.val (.int .u8 (byX a 5))),.imm (.val (.int .u8 (byX a 4))),.imm (.val (.int .u8 (byX a 3))),.imm (.val (.int .u8 (byX a 2))),.imm (.val (.int .u8 (byX a 1))),.imm (.val (.int .u8 (byX a 0))),.imm (.val (.int .u8 0)),.imm (.val (.int .u8 0)),.imm (.val (.int .u8 (byX b 5))),.imm (.val (.int .u8 (byX b 4))),.imm (.val (.int .u8 (byX b 3))),.imm (.val (.int .u8 (byX b 2))),.imm (.val (.int .u8 (byX b 1))),.imm (.val (.int .u8 (byX b 0)))]];refine zas ?_;(refine zm [777,28] 1000 ?_;conv=>whnf);refine zg [0,1,5,8] ?_;change SW E _ [(0,yg a),(1,yg b),(5,.ptr 0 0),(8,sI 7)] [.cells [.imm (.val (.int .u8 1)),.imm (.val (.int .u8 0)),.imm (.val (.int .u8 (byX a 6))),.imm (.val (.int .u8 (byX a 5))),.imm (.val (.int .u8 (byX a 4))),.imm (.val (.int .u8 (byX a 3))),.imm (.val (.int .u8 (byX a 2))),.imm (.val (.int .u8 (byX a 1))),.imm (.val (.int .u8 (byX a 0))),.imm (.val (.int .u8 0)),.imm (.val (.int .u8 (byX b 6))),.imm (.val (.int .u8 (byX b 5))),.imm (.val (.int .u8 (byX b 4))),.imm (.val (.int .u8 (byX b 3))),.imm (.val (.int .u8 (byX b 2))),.imm (.val (.int .u8 (byX b 1))),.imm (.val (.int .u8 (byX b 0)))]];refine zas ?_;(refine zm [777,28] 1000 ?_;conv=>whnf);refine zg [0,1,5,8] ?_;change SW E _ [(0,yg a),(1,yg b),(5,.ptr 0 0),(8,sI 8)] [.cells [.imm (.val (.int .u8 1)),.imm (.val (.int .u8 (byX a 7))),.imm (.val (.int .u8 (byX a 6))),.imm (.val (.int .u8 (byX a 5))),.imm (.val (.int .u8 (byX a 4))),.imm (.val (.int .u8 (byX a 3))),.imm (.val (.int .u8 (byX a 2))),.imm (.val (.int .u8 (byX a 1))),.imm (.val (.int .u8 (byX a 0))),.imm (.val (.int .u8 (byX b 7))),.imm (.val (.int .u8 (byX b 6))),.imm (.val (.int .u8 (byX b 5))),.imm (.val (.int .u8 (byX b 4))),.imm (.val (.int .u8 (byX b 3))),.imm (.val (.int .u8 (byX b 2))),.imm (.val (.int .u8 (byX b 1))),.imm (.val (.int .u8 (byX b 0)))]];refine zas ?_;(refine zm [777,28] 1000 ?_;conv=>whnf);refine zmz rfl rfl rfl rfl rfl rfl (by unfold maxLen;decide) ?_;refine ztt (b:=0) (n:=17) (ns:=[1]++[byX a 7,byX a 6,byX a 5,byX a 4,byX a 3,byX a 2,byX a 1,byX a 0]++[byX b 7,byX b 6,byX b 5,byX b 4,byX b 3,byX b 2,byX b 1,byX b 0]) rfl rfl rfl rfl rfl rfl rfl rfl rfl ?_;(refine zc ?_;conv=>whnf);exact hK _
end Go.Proofs.YtjnddlifnkgncaaGreatDoor
namespace Go.Sh
section
variable {P:Program} {G:List (Nat × D)} {fn:Func} {rd:Bool} {E:En P G fn rd} {t:List (Nat × SV)} {H:List SObj} {k:List Item}
def ygp (ops:Array Oper) (m:Nat):Bool:=(List.range m).all fun i=>ops.toList.zipIdx.any fun (o,j)=>decide (i<j)&&decide (j<=m)&&(xt o).contains i
theorem you {ops:Array Oper} {m i:Nat} (h:ygp ops m=true) (hi:i<m):∃(j:Nat) (o:Oper),ops[j]?=some o/\i<j/\j<=m/\i∈xt o:=by
 unfold ygp at h;have:=List.all_eq_true.1 h i (List.mem_range.2 hi);rw [List.any_eq_true] at this;obtain ⟨⟨o,j⟩,hm,hc⟩:=this;simp only [Bool.and_eq_true,decide_eq_true_eq,List.contains_iff_mem] at hc;have:=List.mem_zipIdx_iff_getElem?.1 hm;exact ⟨j,o,by simpa using this,hc.1.1,hc.1.2,hc.2⟩
def znj (n m:Nat):Array Bool:=((List.range n).map fun i=>decide (i<m)).toArray
theorem yjw (n m i:Nat) (hi:i<n):(znj n m).getD i false=decide (i<m):=by
 simp [znj,Array.getD,hi]
theorem ysk {a b:Array Bool} (h:a.size=b.size) (he:∀i,i<a.size->a.getD i false=b.getD i false):a=b:=by
 apply Array.ext h
 intro i h1 h2;have:=he i h1;simpa [Array.getD,h1,h2] using this
theorem yov {ops:Array Oper} (hnd:∀(i:Nat) o,ops[i]?=some o->∀c,o.op≠ .defer c) {R:Act->World->Prop} {b:Frame} {ro:Option Nat} {cs:List Frame} {i:Nat} {rest:List Nat} {a:Act} {w:World}
  (h:wpOp P ops (fun e _ _=>e= .normal) i R a w):∃a' w',R a' w'/\Steps P (lone (atR b ro a (.inRegion ops (i::rest)::k)) cs w) (lone (atR b ro a' (.inRegion ops rest::k)) cs w'):=by
 unfold wpOp at h;cases ho:ops[i]? with
 |none=>
  rw [ho] at h;refine ⟨a,w,h,?_⟩;have:=jn (P:=P) (b:=b) (ro:=ro) (a:=a) (k:=k) (cs:=cs) (w:=w) (ops:=ops) (i:=i) (rest:=rest) (by simp [ho]);refine .one ?_;simpa [ho,Act.put] using this
 |some o=>
  rw [ho] at h;simp only at h
  by_cases hw:Region.wanted o (yielded ops a.tmps)=true
  ·rw [if_pos hw] at h
   have hg:=jt (P:=P) (b:=b) (ro:=ro) (k:=k) (cs:=cs) (w:=w) (rest:=rest) ho hw (.inr (hnd i o ho));have qr:∀v,(atR b ro a (.inRegion ops (i::rest)::k)).finish v=atR b ro (a.put o.dst v) (.inRegion ops rest::k):=fun v=>by rw [qm,ho];rfl
   rcases h with h|⟨_,a0,w0,h0,_⟩
   ·unfold Oper.wp at h
    generalize hres:(execOp a.eval o).run P w=res at h;cases res with
    |halt x w'=>cases x<;>simp [Oper.upon] at h
    |ok n w'=>
     cases n<;>simp only [Oper.upon] at h<;>first|(exact h.elim)|skip
     case value v=>exact ⟨_,_,h,.one (step_lone_go (by rw [hg, <-qr];simp [stepG.apply,hres]))⟩
     case skip=>exact ⟨_,_,h,.one (step_lone_go (by rw [hg, <-qr];simp [stepG.apply,hres]))⟩
     case defer d=>
      have hfd:({atR b ro a (.inRegion ops (i::rest)::k) with defers:=d::a.defers}:Frame).finish undef=atR b ro ({a with defers:=d::a.defers}.put o.dst undef) (.inRegion ops rest::k):=by
       cases hd:o.dst<;>simp [Frame.finish,atR,Frame.at,Act.put,ho,hd]
      exact ⟨_,_,h,.one (step_lone_go (by rw [hg, <-hfd];simp [stepG.apply,hres,atR,Frame.at]))⟩
     case enter f args=>
      obtain ⟨e,w2,fr,h1,h2,h3,h4⟩:=h (atR b ro a (.inRegion ops (i::rest)::k)::cs);cases e with
      |panicked ch=>cases h1
      |outgrown=>obtain ⟨_,_,h5,_⟩:=h1
      |returned v=>
       have henter:step P (lone (atR b ro a (.inRegion ops (i::rest)::k)) cs w)= .next (lone (Frame.enter P f args .normal) (atR b ro a (.inRegion ops (i::rest)::k)::cs) w'):=
        step_lone_go (by rw [hg];simp [stepG.apply,hres,atR,Frame.at])
       refine ⟨_,w2,h1,.head henter (Steps.trans h2 (.one ?_))⟩;rw [<-qr];exact step_leave_returned h4
     case row row args=>
      obtain ⟨v,w2,h1,h2⟩:=h (atR b ro a (.inRegion ops (i::rest)::k)) cs;have henter:step P (lone (atR b ro a (.inRegion ops (i::rest)::k)) cs w)= .next (lone (Frame.ofRow P row args .normal) (atR b ro a (.inRegion ops (i::rest)::k)::cs) w'):=
       step_lone_go (by rw [hg];simp [stepG.apply,hres,atR,Frame.at])
      rw [qr] at h2;exact ⟨_,w2,h1,.head henter h2⟩
  ·rw [if_neg hw] at h
   have:=jn (P:=P) (b:=b) (ro:=ro) (a:=a) (k:=k) (cs:=cs) (w:=w) (ops:=ops) (i:=i) (rest:=rest) (by simpa [ho] using hw);simp only [ho,Option.bind_some] at this;exact ⟨_,_,h,.one this⟩
theorem ysl {ops : Array Oper} {vals : List SV} {m : Nat} (hu : Uniq ops) (hnd : ∀ (i : Nat) o, ops[i]? = some o -> ∀ c, o.op ≠ .defer c) (hm : m < ops.size) (hhead : ygp ops m = true) (htail : zge ops m = true)
    (hvals : ∀ (i : Nat) o, i < m -> ops[i]? = some o -> ∃ v, vals[i]? = some v /\ Val P G fn.ntmps ops H o (tAt ops.toList vals t i) v) (cs : List Frame) :
    ∀ (fuel tt : Nat) (listed : Array Bool) (a : Act) (w : World) (I : Imm) (β : List Bnd), Mid E ops vals t H listed a w I β -> (∀ j, m <= j -> listed.getD j false = false) -> qp listed = fuel ->
      ∃ tt' a' w' I' β', Sim E (tAt ops.toList vals t m) H a' w' I' β' /\
        Steps P (lone (E.at a (.inRegion ops (Region.linearise.go .any ops fuel tt listed []) :: k)) cs w) (lone (E.at a' (.inRegion ops (m :: Region.linearise.go .any ops (ops.size - m - 1) tt' (znj ops.size (m + 1)) []) :: k)) cs w') := by
  intro fuel
  induction fuel with
  | zero =>
    intro tt listed a w I β h hnl hf
    exfalso
    have := ji (l := listed) (i := m) (by rw [h.lsize]; exact hm) (hnl m (Nat.le_refl _))
    omega
  | succ fuel ih =>
    intro tt listed a w I β h hnl hf
    have hne : Region.ready .any ops listed ≠ [] := fun hr => by
      have := zkc hu h.lsize hr m hm
      rw [hnl m (Nat.le_refl _)] at this
      cases this
    obtain ⟨i, hi, hgo⟩ : ∃ i, i ∈ Region.ready .any ops listed /\ Region.linearise.go .any ops (fuel + 1) tt listed [] = i :: Region.linearise.go .any ops fuel (tt / (Region.ready .any ops listed).length) (listed.setIfInBounds i true) [] := by
      simp only [Region.linearise.go]
      change ∃ i, _ /\ (match (Region.ready .any ops listed)[tt % (Region.ready .any ops listed).length]? with
        | some i => Region.linearise.go .any ops fuel (tt / (Region.ready .any ops listed).length) (listed.setIfInBounds i true) [i]
        | none => [].reverse) = _
      have hlt : tt % (Region.ready .any ops listed).length < (Region.ready .any ops listed).length := Nat.mod_lt _ (List.length_pos_iff.2 hne)
      refine ⟨(Region.ready .any ops listed)[tt % (Region.ready .any ops listed).length], List.getElem_mem hlt, ?_⟩
      rw [List.getElem?_eq_getElem hlt]
      simp only []
      rw [linearise_go_acc, List.reverse_singleton, List.singleton_append]
    rw [hgo]
    generalize tt / (Region.ready .any ops listed).length = tn
    obtain ⟨o, ho, hn, hb⟩ := zdc h.lsize hi
    have him : i <= m := by
      rcases Nat.lt_or_ge m i with h' | h'
      · obtain ⟨j, hj, hmj⟩ := zxk htail ho h'
        have := hb j hj
        rw [hnl j hmj] at this
        cases this
      · exact h'
    have hil : i < listed.size := by rw [h.lsize]; omega
    have hcount := ji hil hn
    rcases Nat.lt_or_eq_of_le him with hlt | rfl
    · -- a value
      obtain ⟨s, hs, hval⟩ := hvals i o hlt ho
      have next : ∀ (v : Value) (w' : World) (I' : Imm) (β' : List Bnd), Rep w' I' β' v s -> HeapOK G w' I' β' H -> Ext H.length w I β H w' I' β' H -> ∃ I' β', Mid E ops vals t H (listed.setIfInBounds i true) (a.put o.dst v) w' I' β' :=
        fun v w' I' β' h1 h2 h3 => ⟨I', β', h.put hu ho hb hval.dst hs h1 h2 h3⟩
      have hw : wpOp P ops (fun e _ _ => e = .normal) i (fun a' w' => ∃ I' β', Mid E ops vals t H (listed.setIfInBounds i true) a' w' I' β') a w := by
        unfold wpOp
        rw [ho]
        simp only
        rcases hval.how with ⟨hw, rfl⟩ | ⟨hw, hop | hcall⟩
        · rw [h.want hu ho hn hb hw]
          exact next undef w I β (.imm (.val _)) h.heap .refl
        · rw [h.want hu ho hn hb hw]
          simp only [if_true]
          left
          classical
          have hop' : sop P o.op (fun x => if x ∈ o.op.operands then zl G (tAt ops.toList vals t i) x else .any) H = some (s, H) := by
            rw [<- hop]
            exact zgr fun x hx => by simp [hx]
          obtain ⟨n, v, w', I', β', h1, h2, h3, h4, h5⟩ := zlp (o := o) (ρ := a.eval) hop' h.heap (fun x => by
            split
            · rename_i hx; exact h.eval hu ho hn hb x hx
            · exact .any _)
          unfold Oper.wp
          rw [h1]
          rcases h2 with rfl | ⟨rfl, rfl⟩
          · exact next v w' I' β' h3 h4 h5
          · exact next undef w' I' β' h3 h4 h5
        · obtain ⟨fx, args, tys, f, first, captured, hopc, hfx, hbody, hpure⟩ := hcall
          rw [h.want hu ho hn hb hw]
          simp only [if_true]
          left
          have hmem : ∀ x ∈ args, x ∈ o.op.operands := fun x hx => by rw [hopc]; simp [Op.operands, Call.operands, hx]
          have hfr := h.eval hu ho hn hb fx (by rw [hopc]; simp [Op.operands, Call.operands])
          rw [hfx] at hfr
          generalize hfv : a.eval fx = fv at hfr
          cases hfr with
          | fn _ fs cps _ _ l1 l2 r1 r2 =>
          have hrun : (execOp a.eval o).run P w = .ok (.enter f (fs ++ args.map a.eval ++ cps)) w := by
            obtain ⟨dst, op, type, pos, after, guard⟩ := o
            simp only at hopc
            subst hopc
            simp only [execOp, resolve, hfv, Deferred.ofValue, Sem.run_bind, Sem.run_pure, Result.andThen_ok, invoke]
            exact jh hbody
          have hreps : Reps w I β (fs ++ args.map a.eval ++ cps).toList (first ++ args.toList.map (zl G (tAt ops.toList vals t i)) ++ captured) := by
            have e1 : Reps w I β fs.toList first := .of_get l1 r1
            have e2 : Reps w I β (args.map a.eval).toList (args.toList.map (zl G (tAt ops.toList vals t i))) := by
              have : ∀ l : List Operand, (∀ x ∈ l, x ∈ args.toList) -> Reps w I β (l.map a.eval) (l.map (zl G (tAt ops.toList vals t i))) := by
                intro l
                induction l with
                | nil => intro _; exact .nil
                | cons x l ihl => intro hl; exact .cons (h.eval hu ho hn hb x (hmem x (by simpa using hl x (by simp)))) (ihl fun y hy => hl y (by simp [hy]))
              simpa using this args.toList (fun _ h => h)
            have e3 : Reps w I β cps.toList captured := .of_get l2 r2
            simpa using (e1.append e2).append e3
          unfold Oper.wp
          rw [hrun]
          refine (hpure w I β _ h.heap hreps).mono ?_
          rintro e w' ⟨v, r', I', β', H', rfl, ⟨rfl, rfl⟩, h1, h2, h3⟩
          exact next v w' I' β' h1 h2 h3
      obtain ⟨a1, w1, ⟨I1, β1, hmid⟩, hst⟩ := yov (k := k) (b := E.base) (ro := E.ro) (cs := cs) (rest := Region.linearise.go .any ops fuel tn (listed.setIfInBounds i true) []) hnd hw
      obtain ⟨tt', a', w', I', β', hsim, hst'⟩ := ih tn _ a1 w1 I1 β1 hmid (fun j hj => by rw [wd (by omega)]; exact hnl j hj) (by omega)
      exact ⟨tt', a', w', I', β', hsim, Steps.trans hst hst'⟩
    · -- the operation itself
      have hbefore : ∀ n j, n = i - j -> j < i -> listed.getD j false = true := by
        intro n
        induction n using Nat.strongRecOn with
        | _ n ihn =>
          intro j hn hj
          obtain ⟨j2, o2, ho2, h1, h2, h3⟩ := you hhead hj
          rcases Nat.lt_or_eq_of_le h2 with h4 | h4
          · exact h.closed j2 o2 ho2 (ihn (i - j2) (by omega) j2 rfl h4) j h3
          · subst h4
            rw [ho] at ho2
            cases ho2
            exact hb j h3
      have hset : listed.setIfInBounds i true = znj ops.size (i + 1) := by
        refine ysk (by simp [znj, h.lsize]) fun j hj => ?_
        have hj : j < ops.size := by
          have := hj
          rw [Array.size_setIfInBounds, h.lsize] at this
          exact this
        rw [yjw _ _ _ hj]
        by_cases e : i = j
        · subst e
          rw [wq hil]
          simp
        · rw [wd e]
          rcases Nat.lt_or_ge j i with h1 | h1
          · rw [hbefore _ j rfl h1]
            simp
            omega
          · rw [hnl j h1]
            simp
            omega
      have hfuel : fuel = ops.size - i - 1 := by
        have hc : qp (znj ops.size (i + 1)) = ops.size - (i + 1) := by
          unfold qp znj
          rw [List.toList_toArray, List.countP_map]
          have key : ∀ n, (List.range n).countP ((fun b => !b) ∘ fun j => decide (j < i + 1)) = n - (i + 1) := fun n => by
            induction n with
            | zero => simp
            | succ n ihn =>
              rw [List.range_succ, List.countP_append, ihn]
              by_cases h1 : n < i + 1
              · simp [h1]; omega
              · simp [h1]; omega
          exact key _
        rw [<- hset] at hc
        omega
      refine ⟨tn, a, w, I, β, ⟨h.heap, fun d => ?_, h.size, h.defers, h.ext, h.hlen⟩, ?_⟩
      · by_cases hwr : ∃ (j : Nat) (p : Oper), j < i /\ ops[j]? = some p /\ p.dst = some d
        · obtain ⟨j, p, hj, hp, hpd⟩ := hwr
          rw [zdi hu vals hp hpd _ hj]
          exact h.wrote j p d hp hpd (hbefore _ j rfl hj)
        · rw [zje vals _ (fun j p hj hp hpd => hwr ⟨j, p, hj, hp, hpd⟩)]
          refine h.old d (fun j p hp hpd => ?_)
          rcases Nat.lt_or_ge j i with h1 | h1
          · exact absurd ⟨j, p, h1, hp, hpd⟩ hwr
          · exact hnl j h1
      · rw [hset, hfuel]
        exact .refl _ _
theorem yat {id m:Nat} {all:Array Oper} {t':List (Nat × SV)} (hm:P.follows .mixedOrders=true) (hdep:zve all=true) (hlt:m<all.size) (hhead:ygp all m=true) (htail:zge all m=true)
  (hd:Draws P G fn.ntmps all H (all.toList.take m) t t') {L:List (List Nat)} (hL:zyq all (all.size-m-1) (znj all.size (m+1))=L) (h:∀l∈L,SW E (.inRegion all (m::l)::k) t' H):SW E (.code (.region id all true)::k) t H:=by
 subst hL;obtain ⟨vals,hl,rfl,hvals⟩:=zsw hd;have hu:=zvf hdep;have hlm:(all.toList.take m).length=m:=by simp;omega
 rw [hlm] at h;have htk:∀i,i<=m->tAt (all.toList.take m) vals t i=tAt all.toList vals t i:=by
  intro i
  induction i with
  |zero=>intro _;rfl
  |succ i ih=>
   intro hi;rw [tAt,tAt,ih (by omega),List.getElem?_take_of_lt (by omega)]
 rw [htk m (Nat.le_refl _)] at h;refine ⟨fun a w I β cs hs=>?_⟩;have hH:HeapOK G {w with drawn:=w.drawn+1} I β H:=hs.heap.grow (fun _ _=>rfl) (fun _ _ h=>h) (fun _ _ h=>.inl h) hs.heap.inI;have hE:Ext H.length w I β H {w with drawn:=w.drawn+1} I β H:=.grow hs.heap (fun _ _=>rfl) (Nat.le_refl _) (fun _ _ h=>h) (fun _ _ h=>.inl h);have none:∀j,(Array.replicate all.size false).getD j false=false:=fun j=>by
  rw [Array.getD_eq_getD_getElem?,Array.getElem?_replicate];split<;>rfl
 have mid:Mid E all vals t H (Array.replicate all.size false) a {w with drawn:=w.drawn+1} I β:=by
  refine ⟨hH,fun j p d _ _ hl=>?_,fun d _=>(hs.tmps d).ext (by rw [hs.heap.len];exact hE),hs.size,hs.defers.ext hE,hs.ext.trans (hE.weaken hs.hlen),hs.hlen,by simp,fun i o _ hl=>?_⟩
  ·rw [none] at hl;cases hl
  ·rw [none] at hl;cases hl
 have hcnt:qp (Array.replicate all.size false)=all.size:=by
  unfold qp;rw [Array.toList_replicate,List.countP_replicate];simp
 obtain ⟨tt',a',w',I',β',hsim,hst⟩:=ysl (k:=k) hu (zhu hdep) hlt hhead htail (fun i o hi ho=>by
  obtain ⟨v,h1,h2⟩:=hvals i o (by rw [List.getElem?_take_of_lt hi];simpa using ho);rw [htk i (by omega)] at h2
  exact ⟨v,h1,h2⟩) cs all.size (w.tape w.drawn (.order E.base.fn id)) _ a _ I β mid (fun j _=>none j) hcnt
 refine .of_steps (.head zan ?_) ((h _ (ytd all (all.size-m-1) tt' _)).run a' w' I' β' cs hsim);simp only [Region.schedule,hm,Bool.true_or,if_true];exact hst
end
end Go.Sh
namespace Go.Proofs.YtjnddlifnkgncaaGreatDoor
open Go Go.Sh
def zdw:Nat->Nat->Nat->List Bool
 |0,_,_=>[]
 |f+1,size,idx=>if size<=1 then [] else if idx % 2=1\/idx+1<size then decide (idx % 2=1)::zdw f ((size+1) / 2) (idx / 2) else zdw f ((size+1) / 2) (idx / 2)
theorem yow (f size idx:Nat) (cur:Nat) (h:¬size<=1) (h2:idx % 2=1\/idx+1<size):climb (f+1) size idx [] cur=none:=by
 rw [zhy _ _ _ _ _ h,if_pos h2]
theorem yox (f size idx:Nat) (path:List Frk) (cur:Nat) (h:size<=1):climb (f+1) size idx path cur=if path.isEmpty then some cur else none:=by
 show (if size<=1 then _ else _)=_;rw [if_pos h]
def zbu (cur:Nat) (x:Frk):ByteArray:=if x.left=true then ⟨#[1]⟩++zig x.sib++zig cur else ⟨#[1]⟩++zig cur++zig x.sib
def qx:Nat->List Frk->List ByteArray
 |_,[]=>[]
 |cur,x::r=>zbu cur x::qx (qi (zbu cur x)) r
def zbv:Nat->List Frk->Nat
 |cur,[]=>cur
 |cur,x::r=>zbv (qi (zbu cur x)) r
theorem ywb (cur:Nat) (x:Frk):qi (zbu cur x)=if x.left=true then zce x.sib cur else zce cur x.sib:=by
 unfold zbu zce;split
 ·rfl
 ·rfl
theorem zrs (f:Nat):∀(size idx:Nat) (path:List Frk) (cur r:Nat),climb f size idx path cur=some r->path.map Frk.left=zdw f size idx/\zbv cur path=r:=by
 induction f with
 |zero=>intro size idx path cur r h;rw [climb] at h;cases h
 |succ f ih=>
  intro size idx path cur r h
  by_cases h1:size<=1
  ·rw [yox _ _ _ _ _ h1] at h
   cases path with
   |nil=>
    rw [List.isEmpty_nil,if_pos rfl] at h;rw [zdw,if_pos h1,zbv,List.map_nil];exact ⟨rfl,Option.some.inj h⟩
   |cons x p=>
    rw [List.isEmpty_cons,if_neg (by decide)] at h;cases h
  ·rw [zdw,if_neg h1]
   by_cases h2:idx % 2=1\/idx+1<size
   ·rw [if_pos h2]
    cases path with
    |nil=>rw [yow _ _ _ _ h1 h2] at h;cases h
    |cons x p=>
     rw [zme _ _ _ _ _ _ h1 h2] at h
     by_cases h3:x.left=decide (idx % 2=1)
     ·rw [if_pos h3] at h
      obtain ⟨g1,g2⟩:=ih _ _ _ _ _ h;rw [List.map_cons,g1,h3,zbv,ywb,h3];refine ⟨rfl,?_⟩;rw [<-g2]
      by_cases h4:idx % 2=1
      ·rw [if_pos (by simpa using h4),if_pos h4]
      ·rw [if_neg (by simpa using h4),if_neg h4]
     ·rw [if_neg h3] at h
      cases h
   ·rw [if_neg h2]
    have h4:¬idx % 2=1:=fun h=>h2 (.inl h)
    have h5:¬idx+1<size:=fun h=>h2 (.inr h)
    rw [zud _ _ _ _ _ h1 h4 h5] at h;exact ih _ _ _ _ _ h
theorem zuo (f:Nat):∀size idx,(zdw f size idx).length<=f:=by
 induction f with
 |zero=>intro _ _;exact Nat.le_refl _
 |succ f ih=>
  intro size idx;rw [zdw];split
  ·exact Nat.zero_le _
  ·split
   ·have:=ih ((size+1) / 2) (idx / 2)
    rw [List.length_cons];omega
   ·have:=ih ((size+1) / 2) (idx / 2)
    omega
variable (G:List (Nat × D))
theorem yjx (size idx:Nat) (h1:1<=size/\size<=1024) (h2:idx<size):zq Tryz.prog G 159 [sI size,sI idx] (.tup [.imm (zag (zdw 12 size idx)),sB true]):=by
 obtain ⟨S,hS⟩:∃S,S=zdw 12 size idx:=⟨_,rfl⟩;rw [<-hS];refine zh Tryz.func159 rfl (by rw [Tryz.ntmps159];simp) rfl rfl ?_;intro E hH hK;(refine ze ?_;conv=>whnf)
 repeat' ((with_reducible refine way ?_ ?_)<;>(intro h;conv=>whnf))
 all_goals try (exfalso;omega)
 refine zin (n:=6) (kk:=1) rfl ?_;refine zg [0,1,6] ?_;change SW E _ [(0,sI size),(1,sI idx),(6,.asl 0 1 (([]:List Bool).map fun b=>[dB b]))] [.tok 1 (([]:List Bool).map fun b=>[dB b]).length];refine yy (σ:=Nat × Nat × Nat × List Bool) (fun x=>[(0,sI x.2.1),(1,sI x.2.2.1),(6,.asl 0 1 (x.2.2.2.map fun b=>[dB b]))]) (fun x=>[.tok 1 (x.2.2.2.map fun b=>[dB b]).length])
  (fun x=>S=x.2.2.2++zdw (x.1+1) x.2.1 x.2.2.1/\1<=x.2.1/\x.2.1<=2 ^ x.1/\x.2.2.1<x.2.1/\x.1<=11/\x.2.2.2.length+x.1<=11) (fun x=>x.1) ?_ (11,size,idx,[])
  ⟨hS,h1.1,Nat.le_trans h1.2 (show 1024<=2 ^ 11 by decide),h2,Nat.le_refl _,by simp⟩
 clear hS h1 h2;rintro ⟨f,size,idx,l⟩ ⟨i1,i2,i3,i4,i5,i6⟩ ih;simp only at i1 i2 i3 i4 i5 i6;have hp:2 ^ f<=2 ^ 11:=Nat.pow_le_pow_right (by decide) i5;have h11:(2:Nat) ^ 11=2048:=rfl;have w1:(idx:Int).tmod 2=((idx % 2:Nat):Int):=by rw [Int.tmod_eq_emod_of_nonneg (by omega)];rfl
 have w2:IntKind.i64.wrap ((idx:Int)+1)=((idx+1:Nat):Int):=by rw [zt (by omega) (by omega)];rfl
 have w3:IntKind.i64.wrap ((idx:Int).tdiv 2)=((idx / 2:Nat):Int):=by
  rw [Int.tdiv_eq_ediv_of_nonneg (by omega),zt (by omega) (by omega)];rfl
 have w4:IntKind.i64.wrap ((IntKind.i64.wrap ((size:Int)+1)).tdiv 2)=(((size+1) / 2:Nat):Int):=by
  rw [zt (c:=(size:Int)+1) (by omega) (by omega),Int.tdiv_eq_ediv_of_nonneg (by omega),zt (by omega) (by omega)];rfl
 have hend:size<=1->S=l:=fun h=>by rw [i1,zdw,if_pos h,List.append_nil]
 have hnext:1<size->∀l',S=l'++zdw f ((size+1) / 2) (idx / 2)->l'.length<=l.length+1->SW E _ [(0,sI ((size+1) / 2:Nat)),(1,sI (idx / 2:Nat)),(6,.asl 0 1 (l'.map fun b=>[dB b]))] [.tok 1 (l'.map fun b=>[dB b]).length]:=fun h l' hl hlen=>by
  obtain ⟨g,rfl⟩:∃g,f=g+1:=by
   cases f with
   |zero=>rw [Nat.pow_zero] at i3;omega
   |succ g=>exact ⟨g,rfl⟩
  rw [Nat.pow_succ] at i3;exact ih (g,(size+1) / 2,idx / 2,l') ⟨hl,by simp only;omega,by simp only;omega,by simp only;omega,by simp only;omega,by simp only;omega⟩ (by simp only;omega)
 clear ih;change SW E _ [(0,sI size),(1,sI idx),(6,.asl 0 1 (l.map fun b=>[dB b]))] [.tok 1 (l.map fun b=>[dB b]).length];have e:decide ((idx:Int).tmod 2=1)=decide (idx % 2=1):=by
  rw [Bool.eq_iff_iff];simp only [decide_eq_true_eq];rw [w1];omega
 have happ:1<size->(idx % 2=1\/idx+1<size)->SW E _ [(0,sI ((size+1) / 2:Nat)),(1,sI (idx / 2:Nat)),(6,.asl 0 1 ((l.map fun b=>[dB b])++[[dB (decide (idx % 2=1))]]))] [.tok 1 ((l.map fun b=>[dB b]).length+[[dB (decide (idx % 2=1))]].length)]:=fun h h'=>by
  have:=hnext h (l++[decide (idx % 2=1)]) (by rw [i1,zdw,if_neg (by omega),if_pos h',List.append_assoc,List.singleton_append]) (by simp);simp only [List.map_append,List.length_append] at this;exact this
 have hskip:1<size->¬(idx % 2=1\/idx+1<size)->SW E _ [(0,sI ((size+1) / 2:Nat)),(1,sI (idx / 2:Nat)),(6,.asl 0 1 (l.map fun b=>[dB b]))] [.tok 1 (l.map fun b=>[dB b]).length]:=fun h h'=>
  hnext h l (by rw [i1,zdw,if_neg (by omega),if_neg h']) (by omega)
 clear hnext i1;have hll:(l.map fun b=>[dB b]).length=l.length:=by simp
 (refine zm [777,38,44] 1000 ?_;conv=>whnf)
 repeat' ((with_reducible refine way ?_ ?_)<;>(intro h;conv=>whnf))
 all_goals try (exfalso;omega)
 ·rename_i ha hb
  rw [w1] at hb;rw [w2] at h;rw [e];refine zr (b:=0) (kk:=1) (rows:=l.map fun b=>[dB b]) (new:=[[dB (decide (idx % 2=1))]]) rfl ⟨by decide,rfl⟩ rfl (by rw [hll];simp only [List.length_cons,List.length_nil];omega) ?_;(refine zc ?_;conv=>whnf);rw [w3,w4];refine zg [0,1,6] ?_;exact happ (by omega) (.inr (by omega))
 ·rename_i ha hb
  rw [w1] at hb;rw [w2] at h;rw [w3,w4];refine zg [0,1,6] ?_;exact hskip (by omega) (by omega)
 ·rename_i ha
  rw [w1] at h;rw [e];refine zr (b:=0) (kk:=1) (rows:=l.map fun b=>[dB b]) (new:=[[dB (decide (idx % 2=1))]]) rfl ⟨by decide,rfl⟩ rfl (by rw [hll];simp only [List.length_cons,List.length_nil];omega) ?_;(refine zc ?_;conv=>whnf);rw [w3,w4];refine zg [0,1,6] ?_;exact happ (by omega) (.inl (by omega))
 ·rw [hend (by omega)] at hK
  refine yw (fun k=>ja) ?_;(refine zc ?_;conv=>whnf);exact hK _
theorem zrt (size idx:Nat) (h1:1<=size/\size<=1024) (h2:idx<size) (path:List Frk) (hp:path.map Frk.left=zdw 12 size idx):zq Tryz.prog G 119 [sI size,sI idx,.imm (zy path)] (sB true):=by
 have c1:=yjx G size idx h1 h2;have hsl:=zuo 12 size idx;rw [<-hp] at c1 hsl;rw [List.length_map] at hsl;have e1:((path.map Frk.left).map fun b=>[dB b]).length=path.length:=by simp
 have e2:(path.map Frk.cells).length=path.length:=by simp
 clear hp;refine zh Tryz.func119 rfl (by rw [Tryz.ntmps119];simp) rfl rfl ?_;intro E hH hK;(refine ze ?_;conv=>whnf);refine zd rfl  c1 ?_;(refine zc ?_;conv=>whnf)
 repeat' ((with_reducible refine way ?_ ?_)<;>(intro h;conv=>whnf))
 ·rw [e1,e2] at h
  exact absurd rfl h
 refine zg [2,26,27,28] ?_;change SW E _ [(2,.imm (zy path)),(26,.imm (zag (path.map Frk.left))),(27,sI ((path.map Frk.left).map fun b=>[dB b]).length),(28,sI (0:Nat))] [];refine zp path (fun j (_:Bool)=>[(2,.imm (zy path)),(26,.imm (zag (path.map Frk.left))),(27,sI ((path.map Frk.left).map fun b=>[dB b]).length),(28,sI (j:Nat))]) (fun _ _=>[]) (fun _ _ _=>True) true trivial ?_ ?_
 ·rintro _ _
  (refine ze ?_;conv=>whnf)
  repeat' ((with_reducible refine way ?_ ?_)<;>(intro h;conv=>whnf))
  all_goals try (exfalso;omega)
  exact hK _
 ·rintro done x rest _ hda hdl _ ih
  have r1:((path.map Frk.left).map fun b=>[dB b])[done.length]?=some [dB x.left]:=by rw [hda];simp
  have r2:(path.map Frk.cells)[done.length]?=some x.cells:=by rw [hda];simp
  have wnx:IntKind.i64.wrap ((done.length:Int)+1)=((done.length+1:Nat):Int):=zk (by omega);have hnx:=ih true trivial;clear ih;obtain ⟨sb,lf⟩:=x;have hne:(lf !=lf)=false:=by cases lf<;>rfl
  (refine ze ?_;conv=>whnf)
  repeat' ((with_reducible refine way ?_ ?_)<;>(intro h;conv=>whnf))
  all_goals try (exfalso;omega)
  refine zi (i:=done.length) (row:=[dB lf]) rfl rfl r1 ?_;(refine zc ?_;conv=>whnf);refine zi (i:=done.length) (row:=[dU sb,dB lf]) rfl rfl r2 ?_;(refine zj [777,39] 1000 ?_;conv=>whnf);refine qy (r:=sB false) rfl rfl (by cases lf<;>rfl) (Nat.le_refl _) ?_;(refine zc ?_;conv=>whnf);rw [wnx];refine zg [2,26,27,28] ?_;exact hnx
theorem zru (cur:Nat) (x:Frk):(zbu cur x).size=17:=by
 have h1:=zhj x.sib;have h2:=zhj cur;unfold zbu;split
 ·rw [ByteArray.size_append,ByteArray.size_append,h1,h2];rfl
 ·rw [ByteArray.size_append,ByteArray.size_append,h1,h2];rfl
theorem zsq (G:List (Nat × D)) (s:ByteArray) (hs:s.size<=1000000000000000):zq Tryz.prog G 131 [sS s] (sS (⟨#[0]⟩++s)):=by
 refine zh Tryz.func131 rfl (by rw [Tryz.ntmps131];simp) rfl rfl ?_;intro E hH hK;(refine zm [777,4] 1000 ?_;conv=>whnf);refine wx rfl rfl rfl rfl rfl (by show 1+s.size<=_;omega) ?_;(refine zc ?_;conv=>whnf);exact hK _
def zhq (leaf:ByteArray) (path:List Frk):List ByteArray:=(⟨#[0]⟩++leaf)::qx (qs leaf) path
theorem zup (leaf:ByteArray) (hl:leaf.size<=1000000000000000) (path:List Frk) (hp:path.length<=1000000):zq Tryz.prog G 120 [sS leaf,.imm (zy path)] (.tup [.imm (yr (zhq leaf path)),yg (zbv (qs leaf) path)]):=by
 have c1:=zsq G leaf hl;have c2:=zak G (⟨#[0]⟩++leaf) (by rw [ByteArray.size_append];show 1+leaf.size<=_;omega);change zq _ _ _ _ (yg (qs leaf)) at c2;unfold zhq;generalize qs leaf=c0 at c2 ⊢;generalize (⟨#[0]⟩++leaf:ByteArray)=t0 at c1 c2 ⊢;have e2:(path.map Frk.cells).length=path.length:=by simp
 refine zh Tryz.func120 rfl (by rw [Tryz.ntmps120];simp) rfl rfl ?_;intro E hH hK;(refine ze ?_;conv=>whnf);refine zd rfl  c1 ?_;(refine zj [777,13] 1000 ?_;conv=>whnf);refine zta (kk:=1) (rows:=[[dS t0]]) rfl rfl rfl rfl rfl ?_;(refine zc ?_;conv=>whnf);refine zi (i:=0) (row:=[dS t0]) rfl rfl rfl ?_;(refine zc ?_;conv=>whnf);refine zd rfl  c2 ?_;(refine zc ?_;conv=>whnf);refine zg [6,7,18,19,20] ?_;change SW E _ [(6,.asl 0 1 ([t0].map fun s=>[dS s])),(7,yg c0),(18,.imm (zy path)),(19,sI (path.map Frk.cells).length),(20,sI (0:Nat))] [.tok 1 ([t0].map fun s=>[dS s]).length];refine zp path (fun j (y:Nat × List ByteArray)=>[(6,.asl 0 1 (y.2.map fun s=>[dS s])),(7,yg y.1),(18,.imm (zy path)),(19,sI (path.map Frk.cells).length),(20,sI (j:Nat))]) (fun _ y=>[.tok 1 (y.2.map fun s=>[dS s]).length])
  (fun done rest y=>t0::qx c0 path=y.2++qx y.1 rest/\zbv c0 path=zbv y.1 rest/\y.2.length=done.length+1) (c0,[t0]) ⟨rfl,rfl,rfl⟩ ?_ ?_
 ·rintro ⟨c,l⟩ ⟨h1,h2,_⟩
  have h1:t0::qx c0 path=l:=by
   have h:t0::qx c0 path=l++qx c []:=h1;rw [h,qx,List.append_nil]
  have h2:zbv c0 path=c:=h2;rw [h1,h2] at hK;(refine zm [777,41] 1000 ?_;conv=>whnf)
  repeat' ((with_reducible refine way ?_ ?_)<;>(intro h;conv=>whnf))
  all_goals try (exfalso;omega)
  refine yw (fun k=>ja) ?_;(refine zc ?_;conv=>whnf);exact hK _
 ·rintro done x rest ⟨c,l⟩ hda hdl ⟨h1,h2,h3⟩ ih
  simp only at h1 h2 h3;have r2:(path.map Frk.cells)[done.length]?=some x.cells:=by rw [hda];simp
  have wnx:IntKind.i64.wrap ((done.length:Int)+1)=((done.length+1:Nat):Int):=zk (by omega);have hsz:=zru c x;rw [qx] at h1;rw [zbv] at h2;have d2:=zak G (zbu c x) (by rw [hsz];decide);have hnx:=ih (qi (zbu c x),l++[zbu c x]) ⟨by rw [h1,List.append_assoc,List.singleton_append],h2,by simp [h3]⟩;have hll:(l.map fun s=>[dS s]).length=l.length:=by simp
  clear ih h1 h2;simp only [List.map_append,List.length_append] at hnx;obtain ⟨sb,lf⟩:=x;have dl:=zlk G sb c;have dr:=zlk G c sb;cases lf with
  |true=>
   change zq _ _ _ _ (sS (zbu c ⟨sb,true⟩)) at dl;generalize zbu c ⟨sb,true⟩=tx at dl d2 hnx;generalize qi tx=hx at d2 hnx;(refine ze ?_;conv=>whnf)
   repeat' ((with_reducible refine way ?_ ?_)<;>(intro h;conv=>whnf))
   all_goals try (exfalso;omega)
   refine zi (i:=done.length) (row:=[dU sb,dB true]) rfl rfl r2 ?_;(refine zc ?_;conv=>whnf);refine zd rfl  dr ?_;(refine zc ?_;conv=>whnf);refine zd rfl  dl ?_;(refine zc ?_;conv=>whnf);refine zr (b:=0) (kk:=1) (rows:=l.map fun s=>[dS s]) (new:=[[dS tx]]) rfl ⟨by decide,rfl⟩ rfl (by rw [hll];simp only [List.length_cons,List.length_nil];omega) ?_;(refine zc ?_;conv=>whnf);refine zd rfl  d2 ?_;(refine zc ?_;conv=>whnf);rw [wnx];exact yz [6,7,18,19,20] 1 (by rw [hH];exact Nat.zero_le _) (by show 1<=2;decide) rfl rfl hnx
  |false=>
   change zq _ _ _ _ (sS (zbu c ⟨sb,false⟩)) at dr;generalize zbu c ⟨sb,false⟩=tx at dr d2 hnx;generalize qi tx=hx at d2 hnx;(refine ze ?_;conv=>whnf)
   repeat' ((with_reducible refine way ?_ ?_)<;>(intro h;conv=>whnf))
   all_goals try (exfalso;omega)
   refine zi (i:=done.length) (row:=[dU sb,dB false]) rfl rfl r2 ?_;(refine zc ?_;conv=>whnf);refine zd rfl  dr ?_;(refine zc ?_;conv=>whnf);refine zr (b:=0) (kk:=1) (rows:=l.map fun s=>[dS s]) (new:=[[dS tx]]) rfl ⟨by decide,rfl⟩ rfl (by rw [hll];simp only [List.length_cons,List.length_nil];omega) ?_;(refine zc ?_;conv=>whnf);refine zd rfl  d2 ?_;(refine zc ?_;conv=>whnf);rw [wnx];exact yz [6,7,18,19,20] 1 (by rw [hH];exact Nat.zero_le _) (by show 1<=2;decide) rfl rfl hnx
theorem ygq {a b:Nat} (ha:a<18446744073709551616) (hb:b<18446744073709551616) (h:zig a=zig b):a=b:=by
 have hl:zny a=zny b:=by
  have h1:(zig a).data.toList=(zig b).data.toList:=by rw [h]
  exact h1
 have hk:∀k,k<=7->a / 256 ^ k % 256=b / 256 ^ k % 256:=fun k hk=>by
  have e:∀d,(zny d)[7-k]?=some (yqu d (7-k)):=fun d=>by
   unfold zny;rw [List.getElem?_map,List.getElem?_range (by omega)];rfl
  have h1:=e a;rw [hl,e b] at h1;have h2:=congrArg UInt8.toNat (Option.some.inj h1);rw [zhx,zhx,show 7-(7-k)=k by omega] at h2;exact h2.symm
 have key:∀n k,n+k=8->a / 256 ^ k=b / 256 ^ k:=by
  intro n
  induction n with
  |zero=>
   intro k hn;have:k=8:=by omega
   subst this;rw [Nat.div_eq_of_lt (show a<256 ^ 8 from ha),Nat.div_eq_of_lt (show b<256 ^ 8 from hb)]
  |succ n ih=>
   intro k hn;have h1:=ih (k+1) (by omega);have h2:=hk k (by omega);rw [Nat.pow_succ, <-Nat.div_div_eq_div_mul, <-Nat.div_div_eq_div_mul] at h1;omega
 have:=key 8 0 rfl;simpa using this
theorem yau {a b c:ByteArray} (h:a++b=a++c):b=c:=by
 have h1:(a++b).data.toList=(a++c).data.toList:=by rw [h]
 simp only [ByteArray.data_append,Array.toList_append] at h1;exact ByteArray.ext (Array.toList_inj.1 (List.append_cancel_left h1))
theorem yoy {a b c d:ByteArray} (h:a++b=c++d) (hs:a.size=c.size):a=c/\b=d:=by
 have h1:(a++b).data.toList=(c++d).data.toList:=by rw [h]
 simp only [ByteArray.data_append,Array.toList_append] at h1;have hl:a.data.toList.length=c.data.toList.length:=by simpa using hs
 obtain ⟨g1,g2⟩:=List.append_inj h1 hl;exact ⟨ByteArray.ext (Array.toList_inj.1 g1),ByteArray.ext (Array.toList_inj.1 g2)⟩
theorem yoz {c d:Nat} {x y:Frk} (hc:c<18446744073709551616) (hd:d<18446744073709551616) (hl:x.left=y.left) (hne:c≠d):zbu c x≠zbu d y:=by
 intro h;have r1:=zhj x.sib;have r2:=zhj y.sib;have r3:=zhj c;have r4:=zhj d;unfold zbu at h;rw [hl] at h
 by_cases e:y.left=true
 ·rw [if_pos e,if_pos e] at h
  exact hne (ygq hc hd (yoy h (by rw [ByteArray.size_append,ByteArray.size_append,r1,r2])).2)
 ·rw [if_neg e,if_neg e] at h
  have h1:=(yoy h (by rw [ByteArray.size_append,ByteArray.size_append,r3,r4])).1;exact hne (ygq hc hd (yau h1))
def yjy (p:ByteArray × ByteArray):Prop:=p.1≠p.2/\qi p.1=qi p.2
theorem yea (p:List Frk):∀(q:List Frk) (s t:ByteArray),s≠t->p.map Frk.left=q.map Frk.left->zbv (qi s) p=zbv (qi t) q->∃x∈(s::qx (qi s) p).zip (t::qx (qi t) q),yjy x:=by
 induction p with
 |nil=>
  intro q s t hne hl h;cases q with
  |nil=>
   rw [zbv,zbv] at h;exact ⟨(s,t),by rw [List.zip_cons_cons];exact List.mem_cons_self,hne,h⟩
  |cons y q=>rw [List.map_nil,List.map_cons] at hl;cases hl
 |cons x p ih=>
  intro q s t hne hl h;cases q with
  |nil=>rw [List.map_nil,List.map_cons] at hl;cases hl
  |cons y q=>
   by_cases e:qi s=qi t
   ·exact ⟨(s,t),by rw [List.zip_cons_cons];exact List.mem_cons_self,hne,e⟩
   ·rw [List.map_cons,List.map_cons,List.cons.injEq] at hl
    rw [zbv,zbv] at h;obtain ⟨z,hz,hc⟩:=ih q (zbu (qi s) x) (zbu (qi t) y) (yoz (zab _) (zab _) hl.1 e) hl.2 h;refine ⟨z,?_,hc⟩;rw [qx,qx,List.zip_cons_cons];exact List.mem_cons_of_mem _ hz
open Classical in
noncomputable def collOf (l:List (ByteArray × ByteArray)):Option (ByteArray × ByteArray):=l.find? fun x=>decide (yjy x)
open Classical in
theorem yjz {p:ByteArray × ByteArray} (l:List (ByteArray × ByteArray)) (h:yjy p):collOf (p::l)=some p:=by
 unfold collOf;rw [List.find?_cons_of_pos (by simpa using h)]
open Classical in
theorem ypb {p:ByteArray × ByteArray} (l:List (ByteArray × ByteArray)) (h:¬yjy p):collOf (p::l)=collOf l:=by
 unfold collOf;rw [List.find?_cons_of_neg (by simpa using h)]
open Classical in
theorem yeb {l:List (ByteArray × ByteArray)} (h:∃x∈l,yjy x):∃q,collOf l=some q/\q∈l/\yjy q:=by
 obtain ⟨x,hx,hc⟩:=h;have:(collOf l).isSome:=by
  unfold collOf;rw [List.find?_isSome];exact ⟨x,hx,by simpa using hc⟩
 obtain ⟨q,hq⟩:=Option.isSome_iff_exists.1 this;have h1:=List.find?_some hq;exact ⟨q,hq,List.mem_of_find?_eq_some hq,by simpa using h1⟩
theorem ysm (a b:List ByteArray) (H:List SObj):SCall Tryz.prog G 121 [.imm (yr a),.imm (yr b)] H (fun r H'=>r= .fn (.func 161) [] [.ptr H.length 0,.ptr (H.length+1) 0]/\H'=H++[.cells [.imm (yr a)],.cells [.imm (yr b)]]):=by
 refine ya Tryz.func121 rfl (by rw [Tryz.ntmps121];simp) ?_;intro E hH hK;(refine ze ?_;conv=>whnf);exact hK _ _ ⟨by simp;rfl,by simp;exact ⟨rfl,rfl⟩⟩
theorem zrv (l:List ByteArray) (hne:l≠[]) (hlen:l.length<=1000000):zq Tryz.prog G 122 [.imm (yr l)] (.imm (yr l)):=by
 refine zh Tryz.func122 rfl (by rw [Tryz.ntmps122];simp) rfl rfl ?_;intro E hH hK;(refine ze ?_;conv=>whnf);refine ylm rfl rfl rfl rfl rfl rfl ?_ ?_
 ·intro he
  exact absurd (List.map_eq_nil_iff.1 he) hne
 ·(refine zc ?_;conv=>whnf)
  refine zr rfl ⟨by decide,rfl⟩ (by simp) (by simp;omega) ?_;refine yw (fun k=>ja) ?_;(refine zc ?_;conv=>whnf);exact hK _
def HZ (u v:ByteArray) (f:Bool) (a b:List ByteArray) (lp:SObj):List SObj:=[.cells [sS u],.cells [sS v],.cells [sB f],.cells [.imm (yr a)],.cells [.imm (yr b)],lp]
theorem yec {f : FuncId} {n0 : Nat} {tL : List (Nat × SV)} {ps : Array Tmp} {asg bd J : Code} (hps : 2 = ps.size) (a b : List ByteArray) (ha : a.length <= 1000000) (hab : a.length = b.length)
    (hy : ∀ p ∈ a.zip b, SYield Tryz.prog G 5 [sS p.1, sS p.2] (HZ ⟨#[]⟩ ⟨#[]⟩ false a b (.loop .ready f n0 tL ps asg bd))
      (fun res H' => (yjy p /\ res = false /\ H' = HZ p.1 p.2 true a b (.loop (.of (some J)) f n0 tL ps asg bd)) \/ (¬ yjy p /\ res = true /\ H' = HZ ⟨#[]⟩ ⟨#[]⟩ false a b (.loop .ready f n0 tL ps asg bd))))
    (q : ByteArray × ByteArray) (hex : collOf (a.zip b) = some q) :
    SCall Tryz.prog G 161 [.yld 5, .ptr 3 0, .ptr 4 0] (HZ ⟨#[]⟩ ⟨#[]⟩ false a b (.loop .ready f n0 tL ps asg bd)) (fun _ H' => H' = HZ q.1 q.2 true a b (.loop (.of (some J)) f n0 tL ps asg bd)) := by
  refine ya Tryz.func161 rfl (by rw [Tryz.ntmps161]; simp) ?_
  intro E hH hK
  have e1 : (a.map fun s => [dS s]).length = a.length := by simp
  have e2 : (b.map fun s => [dS s]).length = b.length := by simp
  have hmin : (if ((b.map fun s => [dS s]).length : Int) < ((a.map fun s => [dS s]).length : Int) then ((b.map fun s => [dS s]).length : Int) else ((a.map fun s => [dS s]).length : Int)) = ((a.zip b).length : Nat) := by
    rw [e1, e2, List.length_zip, hab, Nat.min_self]
    split <;> rfl
  have hzl : (a.zip b).length <= 1000000 := by rw [List.length_zip]; omega
  (refine ze ?_; conv => whnf)
  refine zg [0, 1, 2, 9, 10] ?_
  change SW E _ [(0, .yld 5), (1, .ptr 3 0), (2, .ptr 4 0), (9, sI (if ((b.map fun s => [dS s]).length : Int) < ((a.map fun s => [dS s]).length : Int) then ((b.map fun s => [dS s]).length : Int) else ((a.map fun s => [dS s]).length : Int))), (10, sI (0 : Nat))] _
  rw [hmin]
  refine zp (a.zip b) (fun j (_ : Bool) => [(0, .yld 5), (1, .ptr 3 0), (2, .ptr 4 0), (9, sI ((a.zip b).length : Nat)), (10, sI (j : Nat))]) (fun _ _ => HZ ⟨#[]⟩ ⟨#[]⟩ false a b (.loop .ready f n0 tL ps asg bd)) (fun _ rest _ => collOf rest = some q) true hex ?_ ?_
  · rintro _ hx
    have hx : (none : Option (ByteArray × ByteArray)) = some q := hx
    cases hx
  · rintro done p rest _ hda hdl hz ih
    have hz : collOf (p :: rest) = some q := hz
    obtain ⟨u, v⟩ := p
    have hyp := hy (u, v) (by rw [hda]; simp)
    have hg : (a.zip b)[done.length]? = some (u, v) := by rw [hda]; simp
    obtain ⟨g1, g2⟩ := List.getElem?_zip_eq_some.1 hg
    have r1 : (a.map fun s => [dS s])[done.length]? = some [dS u] := by rw [List.getElem?_map, g1]; rfl
    have r2 : (b.map fun s => [dS s])[done.length]? = some [dS v] := by rw [List.getElem?_map, g2]; rfl
    have wnx : IntKind.i64.wrap ((done.length : Int) + 1) = ((done.length + 1 : Nat) : Int) := zk (by omega)
    have hnx : ¬ yjy (u, v) -> _ := fun h => ih true (by rw [ypb _ h] at hz; exact hz)
    clear ih
    (refine ze ?_; conv => whnf)
    repeat' ((with_reducible refine way ?_ ?_) <;> (intro h; conv => whnf))
    all_goals try (exfalso; omega)
    refine yat (m := 9) (L := [[10]]) rfl (by kernel_rfl) (by decide) (by kernel_rfl) (by kernel_rfl) (.op rfl rfl rfl (.op rfl rfl rfl (.op rfl rfl rfl (.op rfl rfl (zgs (i := done.length) (row := [dS u]) rfl rfl rfl rfl rfl r1) (.op rfl rfl rfl (.op rfl rfl rfl (.op rfl rfl rfl (.op rfl rfl (zgs (i := done.length) (row := [dS v]) rfl rfl rfl rfl rfl r2) (.op rfl rfl rfl (.nil _)))))))))) (by kernel_rfl) ?_
    intro l hl
    rw [List.mem_singleton] at hl
    subst hl
    refine ycv rfl rfl rfl rfl rfl rfl hps rfl (hyp.mono ?_)
    rintro res H' (⟨hc, rfl, rfl⟩ | ⟨hc, rfl, rfl⟩)
    · refine ⟨Nat.le_refl _, ?_⟩
      refine ytw rfl rfl rfl rfl (Nat.le_refl _) ?_
      refine zfh ?_
      (refine ze ?_; conv => whnf)
      rw [yjz _ hc] at hz
      cases hz
      exact hK _ _ rfl
    · refine ⟨Nat.le_refl _, ?_⟩
      refine ytw rfl rfl rfl rfl (Nat.le_refl _) ?_
      refine zfh ?_
      (refine ze ?_; conv => whnf)
      rw [wnx]
      refine zg [0, 1, 2, 9, 10] ?_
      exact hnx hc
theorem yav (p:List Frk):∀c,∀x∈qx c p,x.size=17:=by
 induction p with
 |nil=>intro c x hx;rw [qx] at hx;cases hx
 |cons y p ih=>
  intro c x hx;rw [qx] at hx;rcases List.mem_cons.1 hx with rfl|hx
  ·exact zru c y
  ·exact ih _ x hx
theorem zrw (leaf:ByteArray) (p:List Frk) (hl:leaf.size<=1000000000000000):∀x∈zhq leaf p,x.size<=1000000000000017:=by
 intro x hx;unfold zhq at hx;rcases List.mem_cons.1 hx with rfl|hx
 ·rw [ByteArray.size_append]
  show 1+leaf.size<=_;omega
 ·have:=yav p _ x hx
  omega
theorem yed (p:List Frk):∀c,(qx c p).length=p.length:=by
 induction p with
 |nil=>intro c;rw [qx];rfl
 |cons y p ih=>intro c;rw [qx,List.length_cons,List.length_cons,ih]
theorem zuq (leaf:ByteArray) (p:List Frk):(zhq leaf p).length=p.length+1:=by
 unfold zhq;rw [List.length_cons,yed]
theorem ywc {p q:List Frk} {s t:ByteArray} {c d:Nat} (hs:qi s=c) (ht:qi t=d) (hne:s≠t) (hl:p.map Frk.left=q.map Frk.left) (h:zbv c p=zbv d q):∃x∈(s::qx c p).zip (t::qx d q),yjy x:=by
 subst hs ht;exact yea p q s t hne hl h
theorem ygr (a:ByteArray):qi (⟨#[0]⟩++a)=qs a:=by rw [qs]
theorem ypc {p q:List Frk} {a b:ByteArray} (hne:a≠b) (hl:p.map Frk.left=q.map Frk.left) (h:zbv (qs a) p=zbv (qs b) q):∃x∈(zhq a p).zip (zhq b q),yjy x:=by
 have ha:=ygr a;have hb:=ygr b;unfold zhq;generalize qs a=c at ha h ⊢;generalize qs b=d at hb h ⊢;exact ywc ha hb (fun h=>hne (yau h)) hl h
theorem zsr {size idx root:Nat} (h1:1<=size/\size<=1024) (h2:idx<size) {a b:ByteArray} {p q:List Frk} (ha:a.size<=1000000000000000) (hb:b.size<=1000000000000000) (hne:a≠b)
  (hp:climb 12 size idx p (qs a)=some root) (hq:climb 12 size idx q (qs b)=some root):
  ∃u v:ByteArray,u≠v/\qi u=qi v/\u.size<=1000000000000017/\v.size<=1000000000000017/\zq Tryz.prog G 78 [sI size,sI idx,sS a,.imm (zy p),sS b,.imm (zy q)] (.tup [sS u,sS v,sB true]):=by
 obtain ⟨p1,p2⟩:=zrs 12 _ _ _ _ _ hp;obtain ⟨q1,q2⟩:=zrs 12 _ _ _ _ _ hq;have c1:=zrt G size idx h1 h2 p p1;have c2:=zrt G size idx h1 h2 q q1;have hsl:=zuo 12 size idx;have hpl:p.length<=12:=by rw [<-p1,List.length_map] at hsl;exact hsl
 have hql:q.length<=12:=by rw [<-q1,List.length_map] at hsl;exact hsl
 have hpq:p.length=q.length:=by
  have:=congrArg List.length (p1.trans q1.symm);simpa using this
 have c3:=zup G a ha p (by omega);have c4:=zup G b hb q (by omega);rw [p2] at c3;rw [q2] at c4;have hcoll:=ypc hne (p1.trans q1.symm) (p2.trans q2.symm);obtain ⟨z,hz,hm,hc⟩:=yeb hcoll;have hla:=zuq a p;have hlb:=zuq b q;have hsa:=zrw a p ha;have hsb:=zrw b q hb;generalize zhq a p=A at c3 hz hm hla hsa hcoll;generalize zhq b q=B at c4 hz hm hlb hsb hcoll;have hzs:∀x∈A.zip B,x.1.size<=1000000000000017/\x.2.size<=1000000000000017:=fun x hx=>⟨hsa _ (List.of_mem_zip hx).1,hsb _ (List.of_mem_zip hx).2⟩
 have hAn:A≠[]:=fun h=>by rw [h] at hla;simp at hla
 have c5:=zrv G A hAn (by omega);refine ⟨z.1,z.2,hc.1,hc.2,(hzs z hm).1,(hzs z hm).2,?_⟩;have hAl:A.length<=1000000:=by omega
 have hAB:A.length=B.length:=by omega
 clear hcoll hc hm hsl hpl hql p1 p2 q1 q2 hla hlb hsa hsb hp hq hne hAn hpq;refine zh Tryz.func78 rfl (by rw [Tryz.ntmps78];simp) rfl rfl ?_;intro E hH hK;(refine ze ?_;conv=>whnf);refine yfe ?_;(refine ze ?_;conv=>whnf);refine zd rfl  c1 ?_;(refine zc ?_;conv=>whnf);refine zd rfl  c2 ?_;(refine zc ?_;conv=>whnf);refine zd rfl  c3 ?_;(refine zc ?_;conv=>whnf);refine zd rfl  c4 ?_;(refine zc ?_;conv=>whnf)
 repeat' ((with_reducible refine way ?_ ?_)<;>(intro h;conv=>whnf))
 ·exact absurd rfl h
 refine yel ?_;(refine ze ?_;conv=>whnf);refine zd rfl  c5 ?_;(refine zc ?_;conv=>whnf);refine zv rfl rfl rfl rfl rfl rfl ((ysm G A B _).mono ?_);rintro _ _ ⟨rfl,rfl⟩;refine ⟨by simp,?_⟩;(refine zc ?_;conv=>whnf);refine zg [19,20,21,54] ?_;change SW E _ [(19,.ptr 0 0),(20,.ptr 1 0),(21,.ptr 2 0),(54,.fn (.func 161) [] [.ptr 3 0,.ptr 4 0])] [.cells [sS ⟨#[]⟩],.cells [sS ⟨#[]⟩],.cells [sB false],.cells [.imm (yr A)],.cells [.imm (yr B)]];refine zco rfl rfl ?_;refine (yec G (J:=.exit 0) (tL:=[(19,.ptr 0 0),(20,.ptr 1 0),(21,.ptr 2 0),(54,.fn (.func 161) [] [.ptr 3 0,.ptr 4 0])]) rfl A B hAl hAB ?_ z hz).mono ?_
 ·as_aux_lemma=>
   rintro ⟨u,v⟩ huv;obtain ⟨s1,s2⟩:=hzs _ huv;have d1:=zak G u (by simp only at s1;omega);have d2:=zak G v (by simp only at s2;omega);have hC:yjy (u,v) ↔ u≠v/\qi u=qi v:=Iff.rfl;generalize yjy (u,v)=CC at hC ⊢;generalize qi u=cu at d1 hC;generalize qi v=cv at d2 hC;refine zcp (b:=5) rfl E.hfn rfl (by decide) ?_;intro E3 hl3 hOwn hKR;(refine ze ?_;conv=>whnf);refine zke hOwn rfl ?_;(refine ze ?_;conv=>whnf)
   repeat' ((with_reducible refine way ?_ ?_)<;>(intro h;conv=>whnf))
   ·exact hKR none _ _ (Nat.le_refl _) rfl (.inr ⟨fun hc=>(hC.1 hc).1 h,rfl,rfl⟩)
   ·refine zd rfl  d1 ?_
    (refine zc ?_;conv=>whnf);refine zd rfl  d2 ?_;(refine zj [777,61] 1000 ?_;conv=>whnf);generalize hdd:decide ((cu:Int)=(cv:Int))=dd;cases dd with
    |true=>
     have e:=of_decide_eq_true hdd;(refine zc ?_;conv=>whnf);exact hKR (some (.exit 0)) _ _ (Nat.le_refl _) rfl (.inl ⟨hC.2 ⟨h,by omega⟩,rfl,rfl⟩)
    |false=>
     have e:=of_decide_eq_false hdd;(refine zc ?_;conv=>whnf);exact hKR none _ _ (Nat.le_refl _) rfl (.inr ⟨fun hc=>e (by have:=(hC.1 hc).2;omega),rfl,rfl⟩)
 ·rintro r H' rfl
  refine ⟨Nat.le_refl _,.of (some (.exit 0)),_,rfl,.inr ⟨.exit 0,rfl,?_⟩⟩;(refine ze ?_;conv=>whnf);(refine yc mixed rfl ?_;refine zf [] ?_;conv=>whnf);(refine ze ?_;conv=>whnf);exact hK _
theorem ywd (c:Int):((ziq c:Nat):Int)=if c.tmod 1073741789<0 then c.tmod 1073741789+1073741789 else c.tmod 1073741789:=by
 unfold ziq;rcases Int.le_total 0 c with h|h
 ·rw [Int.tmod_eq_emod_of_nonneg h]
  split<;>omega
 ·obtain ⟨n,rfl⟩:∃n:Nat,c= -(n:Int):=⟨c.natAbs,by omega⟩
  rw [Int.neg_tmod,Int.tmod_eq_emod_of_nonneg (by omega)];split<;>omega
theorem ywe (c:Int): -1073741789<c.tmod 1073741789/\c.tmod 1073741789<1073741789:=by
 rcases Int.le_total 0 c with h|h
 ·rw [Int.tmod_eq_emod_of_nonneg h]
  omega
 ·obtain ⟨n,rfl⟩:∃n:Nat,c= -(n:Int):=⟨c.natAbs,by omega⟩
  rw [Int.neg_tmod,Int.tmod_eq_emod_of_nonneg (by omega)];omega
theorem zrx (c:Int):zq Tryz.prog G 59 [sI c] (sI (ziq c)):=by
 have hv:=ywd c;have hr:=ywe c;generalize ziq c=v at hv ⊢;have hw:IntKind.i64.wrap (c.tmod 1073741789+1073741789)=c.tmod 1073741789+1073741789:=zt (by omega) (by omega);refine zh Tryz.func59 rfl (by rw [Tryz.ntmps59];simp) rfl rfl ?_;intro E hH hK;(refine ze ?_;conv=>whnf)
 repeat' ((with_reducible refine way ?_ ?_)<;>(intro h;conv=>whnf))
 ·rw [if_pos h] at hv
  rw [hw, <-hv];exact hK _
 ·rw [if_neg h] at hv
  rw [<-hv];exact hK _
theorem ysn {q e n:Nat} (h:q-2=e):1*n ^ e % q=yny q n:=by
 unfold yny;rw [h,Nat.one_mul]
theorem yso (n:Nat) (hn:n<1073741789):zq Tryz.prog G 60 [sI n] (sI (yny 1073741789 n)):=by
 obtain ⟨E0,hE0⟩:∃E0:Nat,E0=1073741787:=⟨_,rfl⟩;obtain ⟨R,hR⟩:∃R,R=yny 1073741789 n:=⟨_,rfl⟩;have hR0:1*n ^ E0 % 1073741789=R:=by
  rw [hR];exact ysn (by rw [hE0])
 rw [<-hR];clear hR;have w0:(n:Int).tmod 1073741789=(n:Int):=by
  rw [Int.tmod_eq_emod_of_nonneg (by omega)];omega
 refine zh Tryz.func60 rfl (by rw [Tryz.ntmps60];simp) rfl rfl ?_;intro E hH hK;(refine ze ?_;conv=>whnf);rw [w0];refine zg [3,4,5] ?_;change SW E _ [(3,sI (1:Nat)),(4,sI n),(5,sI (1073741787:Nat))] [];rw [<-hE0];refine yy (σ:=Nat × Nat × Nat) (fun x=>[(3,sI x.1),(4,sI x.2.1),(5,sI x.2.2)]) (fun _=>[]) (fun x=>x.1*x.2.1 ^ x.2.2 % 1073741789=R/\x.1<1073741789/\x.2.1<1073741789/\x.2.2<2000000000) (fun x=>x.2.2) ?_ (1,n,E0)
  ⟨hR0,show 1<1073741789 by decide,hn,show E0<2000000000 by omega⟩
 clear hn hR0 w0 hE0;rintro ⟨r,b,e⟩ ⟨i1,i2,i3,i4⟩ ih;simp only at i1 i2 i3 i4;have hbb:b*b<9223372036854775808:=Nat.lt_of_le_of_lt (Nat.mul_le_mul (Nat.le_of_lt i3) (Nat.le_of_lt i3)) (by decide);have hrb:r*b<9223372036854775808:=Nat.lt_of_le_of_lt (Nat.mul_le_mul (Nat.le_of_lt i2) (Nat.le_of_lt i3)) (by decide);have w1:(IntKind.i64.wrap ((b:Int)*(b:Int))).tmod 1073741789=((b*b % 1073741789:Nat):Int):=by
  rw [zt (by rw [<-Int.natCast_mul];omega) (by rw [<-Int.natCast_mul];omega),Int.tmod_eq_emod_of_nonneg (by rw [<-Int.natCast_mul];omega)];rfl
 have w2:(IntKind.i64.wrap ((r:Int)*(b:Int))).tmod 1073741789=((r*b % 1073741789:Nat):Int):=by
  rw [zt (by rw [<-Int.natCast_mul];omega) (by rw [<-Int.natCast_mul];omega),Int.tmod_eq_emod_of_nonneg (by rw [<-Int.natCast_mul];omega)];rfl
 have w3:(e:Int).tmod 2=((e % 2:Nat):Int):=by
  rw [Int.tmod_eq_emod_of_nonneg (by omega)];rfl
 have w4:IntKind.i64.wrap ((e:Int).tdiv 2)=((e / 2:Nat):Int):=by
  rw [Int.tdiv_eq_ediv_of_nonneg (by omega),zt (by omega) (by omega)];rfl
 have hend:e=0->r=R:=fun h=>by rw [<-i1,h,Nat.pow_zero,Nat.mul_one];exact (Nat.mod_eq_of_lt i2).symm
 have hnext:∀r',r'=(if e % 2=1 then r*b % 1073741789 else r)->¬e=0->SW E _ [(3,sI r'),(4,sI (b*b % 1073741789:Nat)),(5,sI (e / 2:Nat))] []:=fun r' h h0=>by
  refine ih (r',b*b % 1073741789,e / 2) ⟨?_,?_,Nat.mod_lt _ (by decide),by simp only;omega⟩ (by simp only;omega)
  ·rw [<-i1,Nat.mul_mod, <-Nat.pow_mod, <-Nat.mul_mod, <-Nat.pow_two, <-Nat.pow_mul,h]
   split
   ·rw [Nat.mod_mul_mod,Nat.mul_assoc, <-Nat.pow_succ',Nat.succ_eq_add_one,show 2*(e / 2)+1=e by omega]
   ·rw [show 2*(e / 2)=e by omega]
  ·rw [h]
   split
   ·exact Nat.mod_lt _ (by decide)
   ·exact i2
 change SW E _ [(3,sI r),(4,sI b),(5,sI e)] [];(refine ze ?_;conv=>whnf)
 repeat' ((with_reducible refine way ?_ ?_)<;>(intro h;conv=>whnf))
 ·rw [w3] at h
  rw [w1,w2,w4];refine zg [3,4,5] ?_;exact hnext _ (by rw [if_pos (by omega)]) (by omega)
 ·rw [w3] at h
  rw [w1,w4];refine zg [3,4,5] ?_;exact hnext _ (by rw [if_neg (by omega)]) (by omega)
 ·have h0:e=0:=by omega
  rw [hend h0];exact hK _
theorem ypd (b e:Nat) (hb:b<prm) (he:e<9223372036854775808):zq Tryz.prog G 61 [sI b,sI e] (sI (zlm b e)):=by
 unfold prm at hb;obtain ⟨R,hR⟩:∃R,R=zlm b e:=⟨_,rfl⟩;rw [<-hR];rw [zgv (by omega)] at hR;unfold prm at hR;refine zh Tryz.func61 rfl (by rw [Tryz.ntmps61];simp) rfl rfl ?_;intro E hH hK;(refine ze ?_;conv=>whnf)
 repeat' ((with_reducible refine way ?_ ?_)<;>(intro h;conv=>whnf))
 all_goals try (exfalso;omega)
 refine zg [0,1,5,6] ?_;change SW E _ [(0,sI b),(1,sI e),(5,sI (1:Nat)),(6,sI (62:Int))] [];refine yy (σ:=Nat × Nat) (fun x=>[(0,sI b),(1,sI e),(5,sI x.1),(6,sI ((x.2:Int)-1))]) (fun _=>[]) (fun x=>x.1=b ^ (e / 2 ^ x.2) % 2147483579/\x.2<=63) (fun x=>x.2) ?_ (1,63)
  ⟨by simp only;rw [Nat.div_eq_of_lt (show e<2 ^ 63 from he),Nat.pow_zero],Nat.le_refl _⟩
 rintro ⟨r,k⟩ ⟨i1,i2⟩ ih;simp only at i1 i2;have i3:r<2147483579:=by rw [i1];exact Nat.mod_lt _ (by decide)
 have hrr:r*r<9223372036854775808:=Nat.lt_of_le_of_lt (Nat.mul_le_mul (Nat.le_of_lt i3) (Nat.le_of_lt i3)) (by decide);have w1:(IntKind.i64.wrap ((r:Int)*(r:Int))).tmod 2147483579=((r*r % 2147483579:Nat):Int):=by
  rw [zt (by rw [<-Int.natCast_mul];omega) (by rw [<-Int.natCast_mul];omega),Int.tmod_eq_emod_of_nonneg (by rw [<-Int.natCast_mul];omega)];rfl
 have hsm:r*r % 2147483579<2147483579:=Nat.mod_lt _ (by decide);have hsb:(r*r % 2147483579)*b<9223372036854775808:=Nat.lt_of_le_of_lt (Nat.mul_le_mul (Nat.le_of_lt hsm) (Nat.le_of_lt hb)) (by decide);have w2:(IntKind.i64.wrap (((r*r % 2147483579:Nat):Int)*(b:Int))).tmod 2147483579=((r*r % 2147483579*b % 2147483579:Nat):Int):=by
  rw [zt (by rw [<-Int.natCast_mul];omega) (by rw [<-Int.natCast_mul];omega),Int.tmod_eq_emod_of_nonneg (by rw [<-Int.natCast_mul];omega)];rfl
 change SW E _ [(0,sI b),(1,sI e),(5,sI r),(6,sI ((k:Int)-1))] [];(refine zm [777,27] 1000 ?_;conv=>whnf)
 repeat' ((with_reducible refine way ?_ ?_)<;>(intro h;conv=>whnf))
 ·obtain ⟨k,rfl⟩:∃j,k=j+1:=⟨k-1,by omega⟩
  have ek:((k+1:Nat):Int)-1=(k:Int):=by omega
  have hdiv:e / 2 ^ k=2*(e / 2 ^ (k+1))+e / 2 ^ k % 2:=by
   rw [Nat.pow_succ, <-Nat.div_div_eq_div_mul];omega
  have hsq:r*r % 2147483579=b ^ (2*(e / 2 ^ (k+1))) % 2147483579:=by
   rw [i1, <-Nat.mul_mod, <-Nat.pow_add, <-Nat.two_mul]
  have hlt:e / 2 ^ k<9223372036854775808:=Nat.lt_of_le_of_lt (Nat.div_le_self _ _) he;have hsh:(e:Int).fdiv (2 ^ min ((k:Int)).toNat IntKind.i64.bits)=((e / 2 ^ k:Nat):Int):=by
   rw [Int.toNat_natCast,show min k IntKind.i64.bits=k from Nat.min_eq_left (show k<=64 by omega)];exact ybp e k
  have w3:=yyr (a:=e / 2 ^ k) hlt;have w5:IntKind.i64.wrap ((k:Int)-1)=(k:Int)-1:=zt (by omega) (by omega);have hnext:∀r',r'=b ^ (e / 2 ^ k) % 2147483579->SW E _ [(0,sI b),(1,sI e),(5,sI r'),(6,sI ((k:Int)-1))] []:=fun r' h=>ih (r',k) ⟨h,by simp only;omega⟩ (by simp only;omega)
  rw [ek,w1];refine zpo rfl rfl rfl rfl rfl (by omega) ?_;rw [hsh];(refine zc ?_;conv=>whnf)
  repeat' ((with_reducible refine way ?_ ?_)<;>(intro h;conv=>whnf))
  ·rw [w3] at h
   rw [w2,w5];refine zg [0,1,5,6] ?_;refine hnext _ ?_;rw [hsq,Nat.mod_mul_mod, <-Nat.pow_succ]
   congr 2
   omega
  ·rw [w3] at h
   rw [w5];refine zg [0,1,5,6] ?_;refine hnext _ ?_;rw [hsq]
   congr 2
   omega
 ·have hk:k=0:=by omega
  subst hk;rw [Nat.pow_zero,Nat.div_one, <-hR] at i1;rw [i1];exact hK _
end Go.Proofs.YtjnddlifnkgncaaGreatDoor