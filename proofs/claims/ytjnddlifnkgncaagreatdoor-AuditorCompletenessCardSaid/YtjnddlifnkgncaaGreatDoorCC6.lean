/- Contracts of functions of the program, joined from TUh, TTa, TTb, TTc, TTd, TTe, TYc, TYd, TYe, TYf, TZa, TZb, TSh56, TUc, TUi: no condition. -/
import Derived.Test.YtjnddlifnkgncaaGreatDoorCC5
set_option linter.unusedSimpArgs false
set_option linter.unusedVariables false
set_option maxRecDepth 10000
set_option maxHeartbeats 8000000
namespace Go.Proofs.YtjnddlifnkgncaaGreatDoor
open Go Go.Sh
def yqk (e:Nat):SV:=.tup [.agg [sS ⟨#[]⟩,sI 0,yx (0:Nat),.imm (.val (.slice none 0 0)),.imm (.val (.slice none 0 0)),sI 0,sI 0,sI 0,.imm (.val (.slice none 0 0)),.imm (.val (.slice none 0 0))],sI e]
theorem ymp (seed:ByteArray) (n:Nat) (i:Int) (text:ByteArray) (hs:seed.size<=64) (hh:n<=8) (hi:¬(0<=i/\i<(2 ^ n:Nat))):
  zp Tryz.prog G37 41 [sS seed,sI n,sI i,sS text] (.tup [.agg [sI 0,.imm (.val (.slice none 0 0)),.imm (.val (.slice none 0 0))],sI 1]):=by
 have hp:=ysd n hh;have c1:=zil G37 seed n hs hh;refine zg Tryz.func41 rfl (by rw [Tryz.ntmps41];simp) rfl rfl ?_;intro E hH hK;(refine ze ?_;conv=>whnf);refine zd rfl  c1 ?_;(refine zk [777,26] 1000 ?_;conv=>whnf)
 repeat' ((with_reducible refine way ?_ ?_)<;>(intro h;conv=>whnf))
 ·refine zyu rfl rfl rfl rfl rfl (by omega) ?_
  rw [Int.toNat_natCast,hp];(refine zc ?_;conv=>whnf)
  repeat' ((with_reducible refine way ?_ ?_)<;>(intro h;conv=>whnf))
  all_goals try (exfalso;omega)
  exact hK _
 ·exact hK _
theorem ymq (s:Slip) (hr:∀r∈s.rows,r.label.size<=100000/\r.reason.size<=100000) (hn:s.rows.length<=1000000) (hbn:s.blinds.length<=1000000) (sel:List Int) (hsl:sel.length<=1000000) (seed:ByteArray) (h i:Int) (hbad:¬(SlipGood s/\zep s.rows.length none sel=true)):
  zp Tryz.prog G37 11 [s.sv,.imm (yf sel),sS seed,sI h,sI i] (yqk 1):=by
 have c2:=zdx G37 sel s.rows.length hsl;have hml:(s.rows.map Rw.cells).length=s.rows.length:=by simp
 have e2:((s.rows.map Rw.cells).length:Int)=(s.rows.length:Int):=by rw [hml]
 rw [<-e2] at c2
 by_cases hg:SlipGood s
 ·have c1:=zbs s hr hn hbn true ⟨fun _=>hg,fun _=>rfl⟩
  have hs:zep s.rows.length none sel=false:=by
   cases hb:zep s.rows.length none sel with
   |false=>rfl
   |true=>exact absurd ⟨hg,hb⟩ hbad
  rw [e2,hs, <-e2] at c2;obtain ⟨person,month,rows,blinds,root⟩:=s;refine zg Tryz.func11 rfl (by rw [Tryz.ntmps11];simp) rfl rfl ?_;intro E hH hK;(refine ze ?_;conv=>whnf);refine zd rfl  c1 ?_;(refine zc ?_;conv=>whnf);refine zd rfl  c2 ?_;(refine zc ?_;conv=>whnf);exact hK _
 ·have c1:=zbs s hr hn hbn false ⟨fun h=>(by cases h),fun h=>absurd h hg⟩
  obtain ⟨person,month,rows,blinds,root⟩:=s;refine zg Tryz.func11 rfl (by rw [Tryz.ntmps11];simp) rfl rfl ?_;intro E hH hK;(refine ze ?_;conv=>whnf);refine zd rfl  c1 ?_;(refine zc ?_;conv=>whnf);exact hK _
theorem ztx (s:Slip) (hg:SlipGood s) (hr:∀r∈s.rows,r.label.size<=100000/\r.reason.size<=100000) (hp:s.person.size<=1000) (sel:List Int) (hsel:zep s.rows.length none sel=true) (hsl:sel.length<=1000000) (seed:ByteArray) (n:Nat) (i:Int) (hs:seed.size<=64) (hn:n<=8) (R:SV)
  (hR1:¬(0<=i/\i<(2 ^ n:Nat))->R=yqk 1)
  (hR2:0<=i/\i<(2 ^ n:Nat)->¬(-500000000<=yz (s.rows.map Rw.cents) (zfu s.rows.length sel)/\yz (s.rows.map Rw.cents) (zfu s.rows.length sel)<=500000000)->R=yqk 3)
  (hR3:0<=i/\i<(2 ^ n:Nat)->(-500000000<=yz (s.rows.map Rw.cents) (zfu s.rows.length sel)/\yz (s.rows.map Rw.cents) (zfu s.rows.length sel)<=500000000)->R= .tup [(showN s sel seed n i.toNat).sv,sI (0:Nat)]):
  zp Tryz.prog G37 11 [s.sv,.imm (yf sel),sS seed,sI n,sI i] R:=by
 have c1:=zbs s hr (by have:=hg.rows;omega) (by have:=hg.rows;have:=hg.blinds;omega) true ⟨fun _=>hg,fun _=>rfl⟩;have c2:=zdx G37 sel s.rows.length hsl;rw [hsel] at c2;have hc:=hg.cents;have hb:=hg.blind;have hbl:=hg.blinds;have hrows:=hg.rows;obtain ⟨dd,hD⟩:∃d,d=showN s sel seed n i.toNat:=⟨_,rfl⟩;rw [<-hD] at hR3;obtain ⟨person,month,rows,blinds,root⟩:=s;simp only at c2 hr hp hsel hR2 hR3 hc hb hbl hrows;have hml:(rows.map Rw.cells).length=rows.length:=by simp
 have e2:((rows.map Rw.cells).length:Int)=(rows.length:Int):=by rw [hml]
 rw [<-e2] at c2;have hRu:SV.under 0 R=true:=by
  by_cases h1:0<=i/\i<(2 ^ n:Nat)
  ·by_cases h2: -500000000<=yz (rows.map Rw.cents) (zfu rows.length sel)/\yz (rows.map Rw.cents) (zfu rows.length sel)<=500000000
   ·rw [hR3 h1 h2];rfl
   ·rw [hR2 h1 h2];rfl
  ·rw [hR1 h1];rfl
 refine zg Tryz.func11 rfl (by rw [Tryz.ntmps11];simp) rfl hRu ?_;intro E hH hK;(refine ze ?_;conv=>whnf);refine zd rfl  c1 ?_;(refine zc ?_;conv=>whnf);refine zd rfl  c2 ?_;(refine zc ?_;conv=>whnf);have nil0:SV:=.imm (.val (.slice none 0 0));refine zbk 2 3 1 (cs:=[.imm (jq person),sI month,yx root,.imm (.val (.slice none 0 0)),.imm (.val (.slice none 0 0)),sI 0,sI 0,sI 0,.imm (.val (.slice none 0 0)),.imm (.val (.slice none 0 0))]) rfl rfl ?_;refine zhk (n:=13) (kk:=1) rfl ?_;refine zh [1,2,3,4,5,10,11,12,13,45,46,47] ?_;change SW E _ [(1,.imm (yf sel)),(2,sS seed),(3,sI n),(4,sI i),(5,.ptr 0 0),(10,.ptr 1 0),(11,sI (0:Nat)),(12,.ptr 2 0),(13,.asl 4 1 (([]:List ByteArray).map fun s=>[dS s])),(45,.imm (zfs rows)),(46,sI (rows.map Rw.cells).length),(47,sI (0:Nat))]
  [.cells [.imm (jq person),sI month,.imm (zfs rows),.imm (yf blinds),yx root],.cells [.imm (jq ⟨#[]⟩),sI 0,yx (0:Nat),.imm (.val (.slice none 0 0)),.imm (.val (.slice none 0 0)),sI 0,sI 0,sI 0,.imm (.val (.slice none 0 0)),.imm (.val (.slice none 0 0))],
   .cells [.imm (jq person),sI month,yx root,.asl 3 1 (([]:List Int).map fun n=>[dI n]),.imm (.val (.slice none 0 0)),sI 0,sI 0,sI 0,.imm (.val (.slice none 0 0)),.imm (.val (.slice none 0 0))],.tok 1 (([]:List Int).map fun n=>[dI n]).length,.tok 1 (([]:List ByteArray).map fun s=>[dS s]).length]
 have hbl2:(blinds.map fun (n:Int)=>[dI n]).length=blinds.length:=by simp
 let T:Nat->List Int × List ByteArray->List (Nat × SV):=fun j y=>[(1,.imm (yf sel)),(2,sS seed),(3,sI n),(4,sI i),(5,.ptr 0 0),(10,.ptr 1 0),(11,sI (0:Nat)),(12,.ptr 2 0),(13,.asl 4 1 (y.2.map fun s=>[dS s])),(45,.imm (zfs rows)),(46,sI (rows.map Rw.cells).length),(47,sI j)]
 let Hh:List Int × List ByteArray->List SObj:=fun y=>[.cells [.imm (jq person),sI month,.imm (zfs rows),.imm (yf blinds),yx root],.cells [.imm (jq ⟨#[]⟩),sI 0,yx (0:Nat),.imm (.val (.slice none 0 0)),.imm (.val (.slice none 0 0)),sI 0,sI 0,sI 0,.imm (.val (.slice none 0 0)),.imm (.val (.slice none 0 0))],
   .cells [.imm (jq person),sI month,yx root,.asl 3 1 (y.1.map fun n=>[dI n]),.imm (.val (.slice none 0 0)),sI 0,sI 0,sI 0,.imm (.val (.slice none 0 0)),.imm (.val (.slice none 0 0))],.tok 1 (y.1.map fun n=>[dI n]).length,.tok 1 (y.2.map fun s=>[dS s]).length]
 refine zo rows T (fun _ y=>Hh y) (fun done rest y=>zin rows blinds=y.1++zin rest (blinds.drop done.length)/\qm rows blinds=y.2++qm rest (blinds.drop done.length)/\y.1.length=done.length/\y.2.length=done.length) ([],[]) ⟨rfl,rfl,rfl,rfl⟩ ?_ ?_
 ·rintro ⟨cs,ls⟩ ⟨h1,h2,h3,h4⟩
  have h1:zin rows blinds=cs:=by have h:zin rows blinds=cs++zin [] (blinds.drop rows.length):=h1;rw [h];simp [zin]
  have h2:qm rows blinds=ls:=by have h:qm rows blinds=ls++qm [] (blinds.drop rows.length):=h2;rw [h];simp [qm]
  refine zfb ?_;change SW E _ [(1,.imm (yf sel)),(2,sS seed),(3,sI n),(4,sI i),(5,.ptr 0 0),(10,.ptr 1 0),(11,sI (0:Nat)),(12,.ptr 2 0),(13,.imm (yi ls)),(45,.imm (zfs rows)),(46,sI (rows.map Rw.cells).length),(47,sI rows.length)]
   [.cells [.imm (jq person),sI month,.imm (zfs rows),.imm (yf blinds),yx root],.cells [.imm (jq ⟨#[]⟩),sI 0,yx (0:Nat),.imm (.val (.slice none 0 0)),.imm (.val (.slice none 0 0)),sI 0,sI 0,sI 0,.imm (.val (.slice none 0 0)),.imm (.val (.slice none 0 0))],
   .cells [.imm (jq person),sI month,yx root,.imm (yf cs),.imm (.val (.slice none 0 0)),sI 0,sI 0,sI 0,.imm (.val (.slice none 0 0)),.imm (.val (.slice none 0 0))],.tok 1 (cs.map fun n=>[dI n]).length,.tok 1 (ls.map fun s=>[dS s]).length]
  have hcr:∀c∈cs,0<=c/\c<=9000000000000000000:=fun c hcc=>zkq rows blinds c (by rw [h1];exact hcc)
  have hcl:cs.length=rows.length:=h3;have hrt:root<18446744073709551616:=by have h:zhd (qm rows blinds)=root:=hg.root;rw [<-h];exact ztw _
  have d1:=zjp person month root cs hp hg.month hrt hcr (by omega);have hts:(zdb spT (zdp person month root cs)).size<=9223372036854775807:=Nat.le_trans (zpn person month root cs hp hg.month hcr (by omega)) (by decide);(refine ze ?_;conv=>whnf)
  repeat' ((with_reducible refine way ?_ ?_)<;>(intro h;conv=>whnf))
  all_goals try (exfalso;omega)
  refine zd rfl  d1 ?_;(refine zc ?_;conv=>whnf)
  by_cases hi:0<=i/\i<(2 ^ n:Nat)
  case neg=>
   rw [hR1 hi] at hK;clear hR1 hR2 hR3;have d2:=ymp seed n i (zdb spT (zdp person month root cs)) hs hn hi;refine zd rfl  d2 ?_;(refine zc ?_;conv=>whnf);exact hK _
  replace hR2:=hR2 hi
  replace hR3:=hR3 hi
  clear hR1;obtain ⟨i,rfl⟩:∃j:Nat,i=j:=⟨i.toNat,by omega⟩;rw [Int.toNat_natCast] at hD;have d2:=zwy seed n i (zdb spT (zdp person month root cs)) hs hn (by omega) hts;obtain ⟨sg,hsg⟩:∃g,g=signN seed n i (zdb spT (zdp person month root cs)):=⟨_,rfl⟩;rw [<-hsg] at d2;have d3:=zrs G37 sel (rows.map Rw.cells).length (by rw [hml];exact hsel) hsl (by omega);have hmk:(zfu (rows.map Rw.cells).length sel).length=rows.length:=by simp [zfu]
  rw [<-hml] at hR2 hR3;generalize hmk0:zfu (rows.map Rw.cells).length sel=mk at d3 hmk hR2 hR3;have d4:=zlm G37 rows mk hmk (by omega) (fun r hx=>by have:=hc r hx;omega);have d5:=zln G37 blinds mk (by omega) (by omega) (fun b hx=>by have:=hb b hx;omega);generalize hh1:yz (rows.map Rw.cents) mk=hs1 at d4 hR2 hR3;generalize hh2:yz blinds mk=hs2 at d5;refine zd rfl  d2 ?_;(refine zc ?_;conv=>whnf);refine zd rfl  d3 ?_;(refine zc ?_;conv=>whnf);refine zd rfl  d4 ?_;(refine zc ?_;conv=>whnf)
  by_cases hsum2: -500000000<=hs1/\hs1<=500000000
  case neg=>
   rw [hR2 hsum2] at hK;clear hR2 hR3
   repeat' ((with_reducible refine way ?_ ?_)<;>(intro h;conv=>whnf))
   all_goals try (exfalso;omega)
   all_goals exact hK _
  rw [hR3 hsum2] at hK;clear hR2 hR3
  repeat' ((with_reducible refine way ?_ ?_)<;>(intro h;conv=>whnf))
  all_goals try (exfalso;omega)
  refine zd rfl  d5 ?_;(refine zc ?_;conv=>whnf);refine zbk 2 4 6 (cs:=[.imm (jq person),sI month,yx root,.imm (yf cs),.imm (.val (.slice none 0 0)),sI hs1,sI (hs2.tmod 1073741789),sI sg.index,.imm (jl sg.chains),.imm (wa sg.path)]) rfl rfl ?_;refine zh [5,10,12,13,127,128,129] ?_;have hsl2:(sel.map fun (n:Int)=>[dI n]).length=sel.length:=by simp
  change SW E _ [(5,.ptr 0 0),(10,.ptr 1 0),(12,.ptr 2 0),(13,.imm (yi ls)),(127,.imm (yf sel)),(128,sI (sel.map fun (n:Int)=>[dI n]).length),(129,sI (0:Nat))]
   [.cells [.imm (jq person),sI month,.imm (zfs rows),.imm (yf blinds),yx root],.cells [.imm (jq ⟨#[]⟩),sI 0,yx (0:Nat),.imm (.val (.slice none 0 0)),.imm (.val (.slice none 0 0)),sI 0,sI 0,sI 0,.imm (.val (.slice none 0 0)),.imm (.val (.slice none 0 0))],
   .cells [.imm (jq person),sI month,yx root,.imm (yf cs),.asl _ 6 (([]:List Shw).map Shw.cells),sI hs1,sI (hs2.tmod 1073741789),sI sg.index,.imm (jl sg.chains),.imm (wa sg.path)],.tok 1 (cs.map fun n=>[dI n]).length,.tok 1 (ls.map fun s=>[dS s]).length,.cells [sI sg.index,.imm (jl sg.chains),.imm (wa sg.path)],.tok 6 (([]:List Shw).map Shw.cells).length]
  let H2:List Shw->List SObj:=fun l=>[.cells [.imm (jq person),sI month,.imm (zfs rows),.imm (yf blinds),yx root],.cells [.imm (jq ⟨#[]⟩),sI 0,yx (0:Nat),.imm (.val (.slice none 0 0)),.imm (.val (.slice none 0 0)),sI 0,sI 0,sI 0,.imm (.val (.slice none 0 0)),.imm (.val (.slice none 0 0))],
   .cells [.imm (jq person),sI month,yx root,.imm (yf cs),.asl 6 6 (l.map Shw.cells),sI hs1,sI (hs2.tmod 1073741789),sI sg.index,.imm (jl sg.chains),.imm (wa sg.path)],.tok 1 (cs.map fun n=>[dI n]).length,.tok 1 (ls.map fun s=>[dS s]).length,.cells [sI sg.index,.imm (jl sg.chains),.imm (wa sg.path)],.tok 6 (l.map Shw.cells).length]
  refine zo sel (fun j (_:List Shw)=>[(5,.ptr 0 0),(10,.ptr 1 0),(12,.ptr 2 0),(13,.imm (yi ls)),(127,.imm (yf sel)),(128,sI (sel.map fun (n:Int)=>[dI n]).length),(129,sI j)]) (fun _ l=>H2 l) (fun done _ l=>l=done.map (showRow ⟨person,month,rows,blinds,root⟩)) [] rfl ?_ ?_
  ·rintro l hl
   have hl:l=sel.map (showRow ⟨person,month,rows,blinds,root⟩):=hl;have hdd:dd=⟨person,month,root,cs,l,hs1,hs2.tmod 1073741789,sg⟩:=by
    rw [hD,hsg, <-hh1, <-hh2, <-hmk0,hl,hml];simp only [showN,h1]
   rw [hdd] at hK;clear hdd hl hD;refine zfb ?_;change SW E _ [(5,.ptr 0 0),(10,.ptr 1 0),(12,.ptr 2 0),(13,.imm (yi ls)),(127,.imm (yf sel)),(128,sI (sel.map fun (n:Int)=>[dI n]).length),(129,sI sel.length)]
    [.cells [.imm (jq person),sI month,.imm (zfs rows),.imm (yf blinds),yx root],.cells [.imm (jq ⟨#[]⟩),sI 0,yx (0:Nat),.imm (.val (.slice none 0 0)),.imm (.val (.slice none 0 0)),sI 0,sI 0,sI 0,.imm (.val (.slice none 0 0)),.imm (.val (.slice none 0 0))],
    .cells [.imm (jq person),sI month,yx root,.imm (yf cs),.imm (zra l),sI hs1,sI (hs2.tmod 1073741789),sI sg.index,.imm (jl sg.chains),.imm (wa sg.path)],.tok 1 (cs.map fun n=>[dI n]).length,.tok 1 (ls.map fun s=>[dS s]).length,.cells [sI sg.index,.imm (jl sg.chains),.imm (wa sg.path)],.tok 6 (l.map Shw.cells).length]
   (refine ze ?_;conv=>whnf)
   repeat' ((with_reducible refine way ?_ ?_)<;>(intro h;conv=>whnf))
   all_goals try (exfalso;omega)
   exact hK _
  ·rintro done x rest l hda hdl hl ih
   have hl:l=done.map (showRow ⟨person,month,rows,blinds,root⟩):=hl;have hw:=zj (n:=done.length) (by omega);have hrow:(sel.map fun (n:Int)=>[dI n])[((done.length:Nat):Int).toNat]?=some [dI x]:=by simp [hda]
   have hxr:=(zgz _ _ _ hsel).2.1 x (by rw [hda];simp);obtain ⟨k,rfl⟩:∃k:Nat,x=k:=⟨x.toNat,by omega⟩;have hk:k<rows.length:=by omega
   have hnx:=ih (l++[showRow ⟨person,month,rows,blinds,root⟩ k]) (by show l++_=(done++[_]).map _;rw [hl];simp);have e1:=zph G37 ls k (by rw [<-h2,zbb rows blinds (by omega)];exact hk) (by rw [<-h2,zbb rows blinds (by omega)];omega) (fun y hy=>by have:=zeq rows blinds hr y (by rw [h2];exact hy);omega);obtain ⟨r,hrk⟩:∃r,rows[k]?=some r:=⟨_,List.getElem?_eq_getElem hk⟩;obtain ⟨b,hbk⟩:∃b,blinds[k]?=some b:=⟨_,List.getElem?_eq_getElem (by omega)⟩;have hsh:showRow ⟨person,month,rows,blinds,root⟩ k=⟨k,r.label,r.cents,r.reason,b,zhe ls k⟩:=by
    simp only [showRow,Int.toNat_natCast,List.getD_eq_getElem?_getD,hrk,hbk,Option.getD_some,h2]
   rw [hsh] at hnx;have g1:(rows.map Rw.cells)[k]?=some r.cells:=by simp [hrk]
   have g2:(blinds.map fun (n:Int)=>[dI n])[k]?=some [dI b]:=by simp [hbk]
   generalize zhe ls k=pa at e1 hnx;clear ih hsh;obtain ⟨la,ce,re⟩:=r;have hll:l.length=done.length:=by rw [hl];simp
   clear hl;show SW E _ [(5,.ptr 0 0),(10,.ptr 1 0),(12,.ptr 2 0),(13,.imm (yi ls)),(127,.imm (yf sel)),(128,sI (sel.map fun (n:Int)=>[dI n]).length),(129,sI done.length)] (H2 l);simp only [H2,List.map_append] at hnx ⊢;(refine ze ?_;conv=>whnf)
   repeat' ((with_reducible refine way ?_ ?_)<;>(intro h;conv=>whnf))
   all_goals try (exfalso;omega)
   refine zi rfl rfl  hrow ?_;(refine zc ?_;conv=>whnf);refine zd rfl  e1 ?_;(refine zc ?_;conv=>whnf);(refine xw 0 mixed rfl ?_;refine zn [777] (nx:=7) ?_;conv=>whnf);refine wh (i:=k) (row:=[jq la,dI ce,jq re]) rfl (show 7<=7 by decide) rfl g1 ?_;(refine zn [777] (nx:=7) ?_;conv=>whnf);refine wh (i:=k) (row:=[dI b]) rfl (show 7<=7 by decide) rfl g2 ?_;(refine zn [777] (nx:=7) ?_;conv=>whnf);refine zcm (b:=6) (kk:=6) (rows:=l.map Shw.cells) (new:=[[dI k,jq la,dI ce,jq re,dI b,wa pa]]) rfl rfl rfl rfl rfl rfl rfl rfl rfl rfl ⟨show 80<=65536 by decide,rfl⟩ (show 7<=7 by decide) rfl (by simp;omega) ?_;refine jf ⟨_,[],none⟩ rfl rfl (show 7<=7 by decide) (fun _ _ _=>rfl) ?_;refine ym (b:=2) (off:=4) (d:=[.imm (jq person),sI month,yx root,.imm (yf cs)]) (zz:=.asl 6 6 (l.map Shw.cells)) (r:=[sI hs1,sI (hs2.tmod 1073741789),sI sg.index,.imm (jl sg.chains),.imm (wa sg.path)]) (v:=.asl 6 6 (l.map Shw.cells++[[dI k,jq la,dI ce,jq re,dI b,wa pa]])) rfl rfl rfl rfl rfl rfl rfl rfl (show 7<=7 by decide) rfl rfl ?_;refine qh (by kernel_rfl) ?_;(refine ze ?_;conv=>whnf);rw [hw];refine zh [5,10,12,13,127,128,129] ?_;exact hnx
 ·rintro done r rest ⟨cs,ls⟩ hda hdl ⟨h1,h2,h3,h4⟩ ih
  have hw:=zj (n:=done.length) (by omega);have hrow:(rows.map Rw.cells)[((done.length:Nat):Int).toNat]?=some r.cells:=by simp [hda]
  obtain ⟨b,hbb⟩:∃b,blinds[done.length]?=some b:=⟨_,List.getElem?_eq_getElem (by omega)⟩;have hrb:(blinds.map fun (n:Int)=>[dI n])[((done.length:Nat):Int).toNat]?=some [dI b]:=by simp [hbb]
  have hdr:blinds.drop done.length=b::blinds.drop (done.length+1):=by
   rw [List.drop_eq_getElem_cons (by omega)];rw [List.getElem?_eq_getElem (by omega)] at hbb;rw [Option.some.inj hbb]
  have hbr:=hb b (List.mem_of_getElem? hbb);have hrm:r∈rows:=by rw [hda];simp
  obtain ⟨f1,f2⟩:=hr r hrm;obtain ⟨f3,f4⟩:=hc r hrm;simp only at h1 h2 h3 h4;rw [hdr,zin] at h1;rw [hdr,qm] at h2;have hlt:=zko r b;have hnx:=ih (cs++[(zlo r b:Int)],ls++[zbm r.label (zlo r b) r.reason]) ⟨by rw [h1];simp,by rw [h2];simp,by simp [h3],by simp [h4]⟩;have d1:=zdo r.cents b ⟨f3,f4⟩ hbr;change zp _ _ _ _ (.tup [sI (zlo r b),_]) at d1;have d2:=zck r.label (zlo r b) r.reason f1 f2 ⟨by omega,by omega⟩;generalize zbm r.label (zlo r b) r.reason=lf at d2 hnx;generalize zlo r b=cm at d1 d2 hlt hnx;clear ih h1 h2 hdr;obtain ⟨la,ce,re⟩:=r;simp only at f3 f4 d1 d2;have hws:IntKind.i64.wrap (ce+1073741789)=ce+1073741789:=ya (by omega) (by omega);show SW E _ (T done.length (cs,ls)) (Hh (cs,ls));simp only [T,Hh,List.map_append] at hnx ⊢;(refine ze ?_;conv=>whnf)
  repeat' ((with_reducible refine way ?_ ?_)<;>(intro h;conv=>whnf))
  all_goals try (exfalso;omega)
  refine zi rfl rfl  hrow ?_;(refine zc ?_;conv=>whnf);(refine zy mixed rfl ?_;refine zf [] ?_;conv=>whnf);refine ys rfl rfl  hrb ?_;(refine zf [] ?_;conv=>whnf);rw [hws];refine yh rfl  d1 ?_;(refine zf [] ?_;conv=>whnf);(refine ze ?_;conv=>whnf);refine yq (b:=3) (kk:=1) (rows:=cs.map fun n=>[dI n]) (new:=[[dI cm]]) rfl ⟨show 8<=65536 by decide,rfl⟩ rfl (by rw [List.length_map];simp only [List.length_cons,List.length_nil];omega) ?_;(refine zc ?_;conv=>whnf);refine zd rfl  d2 ?_;(refine zc ?_;conv=>whnf);refine yq (b:=4) (kk:=1) (rows:=ls.map fun s=>[dS s]) (new:=[[dS lf]]) rfl ⟨show 16<=65536 by decide,rfl⟩ rfl (by rw [List.length_map];simp only [List.length_cons,List.length_nil];omega) ?_;(refine zc ?_;conv=>whnf);rw [hw];simp only [List.length_append] at hnx;exact yw [1,2,3,4,5,10,11,12,13,45,46,47] 5 (by rw [hH];exact Nat.zero_le _) (by show 5<=6;decide) rfl rfl hnx
def zgq (row:List Nat) (i:Nat):List Frk:=if i % 2=1 then [⟨row.getD (i-1) 0,true⟩] else if i+1<row.length then [⟨row.getD (i+1) 0,false⟩] else []
def pth:List (List Nat)->Nat->List Frk
 |[],_=>[]
 |row::rs,i=>zgq row i++pth rs (i / 2)
theorem ymr (s:Nat × List Frk) (row:List Nat):zjo s row=(s.1 / 2,s.2++zgq row s.1):=by
 unfold zjo zgq;split
 ·rfl
 ·split
  ·rfl
  ·rw [List.append_nil]
theorem zpo:∀(rs:List (List Nat)) (i:Nat) (acc:List Frk),(rs.foldl zjo (i,acc)).2=acc++pth rs i
 |[],_,acc=>(List.append_nil acc).symm
 |row::rs,i,acc=>by
  rw [List.foldl_cons,ymr,zpo rs,pth,List.append_assoc]
def ycd (rs:List (List Nat)) (v:Nat):Nat:=rs.foldl (fun _ r=>r.getD 0 0) v
theorem yms:∀(rs:List (List Nat)),rs≠[]->∀v w,ycd rs v=ycd rs w
 |[],h,_,_=>absurd rfl h
 |_::_,_,_,_=>by rw [ycd,ycd,List.foldl_cons,List.foldl_cons]
theorem yjj (f:Nat) (r:List Nat):wt f r≠[]:=by
 cases f with
 |zero=>simp [wt]
 |succ f=>
  rw [wt];split<;>simp
theorem yjk (a:Nat):zbg [a]=[a]:=rfl
theorem zpp (a b:Nat) (r:List Nat):zbg (a::b::r)=zch a b::zbg r:=by rw [zbg]
theorem zxb:∀(r:List Nat) (i:Nat),i<r.length->
  (zbg r).getD (i / 2) 0=if i % 2=1 then zch (r.getD (i-1) 0) (r.getD i 0) else if i+1<r.length then zch (r.getD i 0) (r.getD (i+1) 0) else r.getD i 0
 |[],i,h=>absurd h (Nat.not_lt_zero i)
 |[a],i,h=>by
  have e:i=0:=by
   rw [List.length_singleton] at h;omega
  rw [e,yjk,if_neg (by decide),if_neg (by rw [List.length_singleton];decide),Nat.zero_div]
 |a::b::r,0,_=>by
  rw [zpp,if_neg (by decide),if_pos (by rw [List.length_cons,List.length_cons];omega),Nat.zero_div,List.getD_cons_zero,List.getD_cons_zero,List.getD_cons_succ,List.getD_cons_zero]
 |a::b::r,1,_=>by
  rw [zpp,if_pos (by decide),show 1 / 2=0 by decide,show 1-1=0 by decide,List.getD_cons_zero,List.getD_cons_zero,show (1:Nat)=0+1 by decide,List.getD_cons_succ,List.getD_cons_zero]
 |a::b::r,i+2,h=>by
  have ih:=zxb r i (by rw [List.length_cons,List.length_cons] at h;omega);have g:∀j,(a::b::r).getD (j+2) 0=r.getD j 0:=fun j=>by
   rw [show j+2=j+1+1 by omega,List.getD_cons_succ,List.getD_cons_succ]
  rw [zpp,show (i+2) / 2=i / 2+1 by omega,List.getD_cons_succ,ih,show (i+2) % 2=i % 2 by omega]
  by_cases h1:i % 2=1
  ·obtain ⟨j,rfl⟩:∃j,i=j+1:=⟨i-1,by omega⟩
   rw [if_pos h1,if_pos h1,show j+1-1=j by omega,show j+1+2-1=j+2 by omega,g,g]
  ·rw [if_neg h1,if_neg h1,show i+2+1=i+1+2 by omega,List.length_cons,List.length_cons,g,g]
   by_cases h2:i+1<r.length
   ·rw [if_pos h2,if_pos (by omega)]
   ·rw [if_neg h2,if_neg (by omega)]
theorem zxc (k f:Nat) (r:List Nat) (i:Nat) (hi:i<r.length) (h1:¬1<r.length):zaw (k+1) r.length i (pth (wt f r) i) (r.getD i 0)=some (ycd (wt f r) 0):=by
 have h3:i=0:=by omega
 have hp:pth [r] 0=[]:=by rw [pth,pth,zgq,if_neg (by decide),if_neg (by omega),List.append_nil]
 have ht:ycd [r] 0=r.getD 0 0:=by rw [ycd,List.foldl_cons,List.foldl_nil]
 rw [h3,zrr f h1,hp,ht,zaw,if_pos (by omega),List.isEmpty_nil,if_pos rfl]
theorem zrx (f size idx:Nat) (x:Frk) (r:List Frk) (cur:Nat) (h:¬size<=1) (h2:idx % 2=1\/idx+1<size):
  zaw (f+1) size idx (x::r) cur=if x.left=decide (idx % 2=1) then zaw f ((size+1) / 2) (idx / 2) r (if idx % 2=1 then zch x.sib cur else zch cur x.sib) else none:=by
 rw [zkh _ _ _ _ _ h,if_pos h2]
theorem yfa (f size idx:Nat) (s:Nat) (r:List Frk) (cur:Nat) (h:¬size<=1) (h2:idx % 2=1):zaw (f+1) size idx (⟨s,true⟩::r) cur=zaw f ((size+1) / 2) (idx / 2) r (zch s cur):=by
 rw [zrx _ _ _ _ _ _ h (.inl h2),decide_eq_true h2,if_pos rfl,if_pos h2]
theorem zzs (f size idx:Nat) (s:Nat) (r:List Frk) (cur:Nat) (h:¬size<=1) (h1:¬idx % 2=1) (h2:idx+1<size):zaw (f+1) size idx (⟨s,false⟩::r) cur=zaw f ((size+1) / 2) (idx / 2) r (zch cur s):=by
 rw [zrx _ _ _ _ _ _ h (.inr h2),decide_eq_false h1,if_pos rfl,if_neg h1]
theorem yfb (f size idx:Nat) (r:List Frk) (cur:Nat) (h:¬size<=1) (h1:¬idx % 2=1) (h2:¬idx+1<size):zaw (f+1) size idx r cur=zaw f ((size+1) / 2) (idx / 2) r cur:=by
 rw [zkh _ _ _ _ _ h,if_neg (by omega)]
theorem zxd (k:Nat):∀(f:Nat) (r:List Nat) (i:Nat),r.length<=f->i<r.length->r.length<=2 ^ k->zaw (k+1) r.length i (pth (wt f r) i) (r.getD i 0)=some (ycd (wt f r) 0):=by
 induction k with
 |zero=>
  intro f r i _ hi hk;rw [Nat.pow_zero] at hk;exact zxc 0 f r i hi (by omega)
 |succ k IH=>
  intro f r i hf hi hk
  by_cases h1:1<r.length
  ·obtain ⟨f',h2,h3⟩:=zpe hf h1
   have hup:=zbx r;have ih:=IH f' (zbg r) (i / 2) h3 (by omega) (by rw [hup];rw [Nat.pow_succ] at hk;omega);clear IH;have ht:ycd (r::wt f' (zbg r)) 0=ycd (wt f' (zbg r)) 0:=by
    rw [ycd,List.foldl_cons];exact yms _ (yjj _ _) _ _
   rw [zxb r i hi,hup] at ih;rw [h2,pth,zgq,ht];generalize ycd (wt f' (zbg r)) 0=tp at ih ⊢;generalize pth (wt f' (zbg r)) (i / 2)=pp at ih ⊢;clear h2 h3 ht hup
   by_cases h4:i % 2=1
   ·rw [if_pos h4] at ih
    rw [if_pos h4,List.singleton_append,yfa _ _ _ _ _ _ (by omega) h4,ih]
   ·rw [if_neg h4] at ih
    rw [if_neg h4]
    by_cases h5:i+1<r.length
    ·rw [if_pos h5] at ih
     rw [if_pos h5,List.singleton_append,zzs _ _ _ _ _ _ (by omega) h4 h5,ih]
    ·rw [if_neg h5] at ih
     rw [if_neg h5,List.nil_append,yfb _ _ _ _ _ (by omega) h4 h5,ih]
  ·exact zxc (k+1) f r i hi h1
theorem zxe (l:List ByteArray) (i:Nat):zhe l i=pth (wt 1024 (l.map zap)) i:=by
 unfold zhe;rw [zpo,List.nil_append]
theorem yjl (l:List ByteArray):zhd l=ycd (wt 1024 (l.map zap)) 0:=by
 unfold zhd ycd;rfl
theorem zzt (l:List ByteArray) (i:Nat) (hi:i<l.length) (hl:l.length<=1024):zaw 12 l.length i (zhe l i) (zap (l.getD i ⟨#[]⟩))=some (zhd l):=by
 have hlm:(l.map zap).length=l.length:=List.length_map _;have h:=zxd 11 1024 (l.map zap) i (by omega) (by omega) (by rw [hlm];exact Nat.le_trans hl (by decide));have e:(l.map zap).getD i 0=zap (l.getD i ⟨#[]⟩):=by
  rw [List.getD_eq_getElem?_getD,List.getD_eq_getElem?_getD,List.getElem?_map,List.getElem?_eq_getElem hi,Option.map_some,Option.getD_some,Option.getD_some]
 rw [<-zxe,hlm,e, <-yjl] at h;exact h
theorem zpq (l:List ByteArray) (i:Nat) (hi:i<l.length) (hl:l.length<=1024):jr (zhd l) l.length i (l.getD i ⟨#[]⟩) (zhe l i)=true:=by
 have h:=zzt l i hi hl;unfold jr;rw [Int.toNat_natCast,Int.toNat_natCast,decide_eq_true h,decide_eq_true (by omega),decide_eq_true (by omega),decide_eq_true (by omega),decide_eq_true (by omega)];rfl
def chN:Nat->Nat->Nat
 |_,0=>1
 |0,_+1=>0
 |n+1,k+1=>chN n k+chN n (k+1)
theorem zha:∀n k:Nat,n<k->chN n k=0
 |_,0,h=>absurd h (Nat.not_lt_zero _)
 |0,_+1,_=>rfl
 |n+1,k+1,h=>by rw [chN,zha n k (by omega),zha n (k+1) (by omega)]
theorem zpr (n:Nat):chN n 0=1:=by cases n<;>rfl
theorem yce:∀n:Nat,chN n n=1
 |0=>rfl
 |n+1=>by rw [chN,yce n,zha n (n+1) (by omega)]
theorem zty:∀n k:Nat,(k+1)*chN (n+1) (k+1)=(n+1)*chN n k
 |0,0=>rfl
 |0,k+1=>by rw [zha 1 (k+1+1) (by omega),zha 0 (k+1) (by omega)];simp
 |n+1,0=>by
  have h:=zty n 0;rw [zpr] at h;rw [show chN (n+1+1) (0+1)=chN (n+1) 0+chN (n+1) (0+1) from rfl,zpr];omega
 |n+1,k+1=>by
  have h1:=zty n k;have h2:=zty n (k+1);have e:chN (n+1) (k+1)=chN n k+chN n (k+1):=rfl;rw [show chN (n+1+1) (k+1+1)=chN (n+1) (k+1)+chN (n+1) (k+1+1) from rfl,Nat.mul_add,h2,Nat.add_mul (k+1) 1,h1,Nat.one_mul,Nat.add_mul (n+1) 1,Nat.one_mul];have e2:(n+1)*chN (n+1) (k+1)=(n+1)*chN n k+(n+1)*chN n (k+1):=by rw [e,Nat.mul_add]
  omega
def zxf (f:Nat->Nat):Nat->Nat
 |0=>0
 |m+1=>zxf f m+f m
theorem zxg (n a:Nat):∀m,zxf (fun k=>chN (n+1) k*a ^ k) (m+1)=a*zxf (fun k=>chN n k*a ^ k) m+zxf (fun k=>chN n k*a ^ k) (m+1)
 |0=>by simp [zxf,zpr]
 |m+1=>by
  have ih:=zxg n a m;rw [zxf,ih];show _+chN (n+1) (m+1)*a ^ (m+1)=a*(zxf (fun k=>chN n k*a ^ k) m+chN n m*a ^ m)+(zxf (fun k=>chN n k*a ^ k) (m+1)+chN n (m+1)*a ^ (m+1));have e:chN (n+1) (m+1)*a ^ (m+1)=a*(chN n m*a ^ m)+chN n (m+1)*a ^ (m+1):=by
   rw [show chN (n+1) (m+1)=chN n m+chN n (m+1) from rfl,Nat.add_mul,Nat.pow_succ,Nat.mul_comm (a ^ m) a,Nat.mul_left_comm]
  rw [e,Nat.mul_add];omega
theorem yru (a:Nat):∀n,(a+1) ^ n=zxf (fun k=>chN n k*a ^ k) (n+1)
 |0=>by simp [zxf,zpr]
 |n+1=>by
  have h:zxf (fun k=>chN n k*a ^ k) (n+1+1)=zxf (fun k=>chN n k*a ^ k) (n+1):=by
   rw [zxf,zha n (n+1) (by omega),Nat.zero_mul,Nat.add_zero]
  rw [zxg,h, <-yru a n,Nat.pow_succ,Nat.mul_add,Nat.mul_one,Nat.mul_comm]
structure PrimeN (q:Nat):Prop where
 two:2<=q
 cop:∀k,0<k->k<q->Nat.Coprime q k
theorem yjm {q:Nat} (hq:PrimeN q) {k:Nat} (h0:0<k) (h1:k<q):q ∣ chN q k:=by
 obtain ⟨k,rfl⟩:∃j,k=j+1:=⟨k-1,by omega⟩;obtain ⟨n,rfl⟩:∃n,q=n+1:=⟨q-1,by omega⟩;have h:n+1 ∣ (k+1)*chN (n+1) (k+1):=⟨chN n k,zty n k⟩;exact (hq.cop (k+1) h0 h1).dvd_of_dvd_mul_left h
theorem ycf {q:Nat} (hq:PrimeN q) (a:Nat):∀m,m<q->zxf (fun k=>chN q k*a ^ k) (m+1) % q=1
 |0,_=>by
  have:=hq.two;simp [zxf,zpr,Nat.mod_eq_of_lt (show 1<q by omega)]
 |m+1,h=>by
  rw [zxf];obtain ⟨c,hc⟩:=yjm hq (k:=m+1) (by omega) h;simp only [hc];rw [Nat.mul_assoc,Nat.add_mul_mod_self_left];exact ycf hq a m (by omega)
theorem zry {q:Nat} (hq:PrimeN q):∀a:Nat,a ^ q % q=a % q
 |0=>by
  have:=hq.two;rw [Nat.zero_pow (by omega)]
 |a+1=>by
  have h2:=hq.two;have h:=ycf hq a (q-1) (by omega);rw [show q-1+1=q by omega] at h;rw [yru,zxf,yce,Nat.one_mul,Nat.add_mod,h,zry hq a,Nat.add_mod a 1,Nat.mod_eq_of_lt (show 1<q by omega),Nat.add_comm]
theorem zzu {a b q:Nat} (h:a % q=b % q):q ∣ a-b:=Nat.dvd_of_mod_eq_zero (Nat.sub_mod_eq_zero_of_mod_eq h)
theorem yfc {q:Nat} (hq:PrimeN q) {a:Nat} (ha:a % q≠0):a ^ (q-2)*a % q=1:=by
 have h2:=hq.two;have hp:0<a:=by
  rcases Nat.eq_zero_or_pos a with h|h
  ·rw [h,Nat.zero_mod] at ha
   exact absurd rfl ha
  ·exact h
 have hc:Nat.Coprime q a:=by
  have h:=hq.cop (a % q) (by omega) (Nat.mod_lt _ (by omega));unfold Nat.Coprime at h ⊢;rw [<-h,Nat.gcd_comm q (a % q), <-Nat.gcd_rec]
 have h3:q ∣ a*a ^ (q-1)-a*1:=by
  refine zzu ?_;rw [<-Nat.pow_succ',show Nat.succ (q-1)=q by omega,Nat.mul_one];exact zry hq a
 rw [<-Nat.mul_sub] at h3;obtain ⟨c,h4⟩:=hc.dvd_of_dvd_mul_left h3;have h5:a ^ (q-1)=1+q*c:=by
  have:0<a ^ (q-1):=Nat.pow_pos hp;omega
 rw [<-Nat.pow_succ,show Nat.succ (q-2)=q-1 by omega,h5,Nat.add_mul_mod_self_left,Nat.mod_eq_of_lt (by omega)]
theorem yql {p a b c d:Nat} (h:a % p=b % p) (k:c % p=d % p):a*c % p=b*d % p:=by rw [Nat.mul_mod,h,k, <-Nat.mul_mod]
theorem ytc {p a b:Nat} (h:a % p=b % p) (n:Nat):a ^ n % p=b ^ n % p:=by rw [Nat.pow_mod,h, <-Nat.pow_mod]
theorem yjn {p a b c d:Nat} (hc:c*d % p=1 % p) (h:a*c % p=b*c % p):a % p=b % p:=by
 have h1:a*c*d % p=b*c*d % p:=yql h rfl;have h2:∀x,x*c*d % p=x % p:=fun x=>by
  rw [Nat.mul_assoc];have:=yql (p:=p) (a:=x) (b:=x) rfl hc
  rwa [Nat.mul_one] at this
 rwa [h2,h2] at h1
structure Elm (p q b:Nat):Prop where
 one:b ^ q % p=1 % p
theorem Elm.red {p q b:Nat} (h:Elm p q b) (e:Nat):b ^ e % p=b ^ (e % q) % p:=by
 have h1:b ^ (q*(e / q)) % p=1 % p:=by
  rw [Nat.pow_mul];have:=ytc h.one (e / q)
  rwa [Nat.one_pow] at this
 have h2:b ^ e=b ^ (q*(e / q))*b ^ (e % q):=by rw [<-Nat.pow_add,Nat.div_add_mod]
 rw [h2];have:=yql h1 (rfl:b ^ (e % q) % p=b ^ (e % q) % p)
 rwa [Nat.one_mul] at this
theorem Elm.congr {p q b:Nat} (h:Elm p q b) {e f:Nat} (he:e % q=f % q):b ^ e % p=b ^ f % p:=by rw [h.red e,he, <-h.red f]
theorem Elm.inv {p q b:Nat} (h:Elm p q b) (hq:0<q) (e:Nat):b ^ e*b ^ (q-e % q) % p=1 % p:=by
 rw [<-Nat.pow_add,h.congr (f:=0) ?_,Nat.pow_zero];have h1:=Nat.mod_lt e hq;have h2:=Nat.div_add_mod e q;have h3:e+(q-e % q)=q+q*(e / q):=by omega
 rw [h3,Nat.add_mul_mod_self_left,Nat.mod_self,Nat.zero_mod]
theorem Elm.inj {p q b:Nat} (hq:PrimeN q) (h:Elm p q b) (hb:b % p≠1 % p) {e f:Nat} (he:e<q) (hf:f<q) (hef:b ^ e % p=b ^ f % p):e=f:=by
 have key:∀e f,e<f->f<q->b ^ e % p=b ^ f % p->False:=fun e f hlt hf hef=>by
  have h1:b ^ (f-e) % p=1 % p:=by
   refine yjn (h.inv (by omega) e) ?_;rw [<-Nat.pow_add,Nat.one_mul,show f-e+e=f by omega];exact hef.symm
  have h2:=yfc hq (a:=f-e) (by rw [Nat.mod_eq_of_lt (by omega)];omega);have h3:b ^ ((f-e) ^ (q-2)*(f-e)) % p=b ^ 1 % p:=h.congr (by rw [h2,Nat.mod_eq_of_lt (by omega)]);rw [Nat.mul_comm,Nat.pow_mul,ytc h1,Nat.one_pow,Nat.pow_one] at h3;exact hb h3.symm
 rcases Nat.lt_trichotomy e f with h1|h1|h1
 ·exact (key e f h1 hf hef).elim
 ·exact h1
 ·exact (key f e h1 he hef.symm).elim
def yfd (q:Nat):Nat->Nat->Bool
 |0,lo=>Nat.ble lo 1|| !(Nat.beq (q % lo) 0)
 |k+1,lo=>yfd q k lo&&yfd q k (lo+2 ^ k)
theorem zkr (q:Nat):∀k lo,yfd q k lo=true->∀d,lo<=d->d<lo+2 ^ k->2<=d->¬d ∣ q
 |0,lo,h,d,h1,h2,h3,hd=>by
  have e:d=lo:=by omega
  subst e;have hm:=Nat.mod_eq_zero_of_dvd hd;unfold yfd at h;rw [hm] at h;rw [Bool.or_eq_true] at h;rcases h with h|h
  ·have:=Nat.le_of_ble_eq_true h
   omega
  ·exact absurd h (by decide)
 |k+1,lo,h,d,h1,h2,h3,hd=>by
  unfold yfd at h;rw [Bool.and_eq_true] at h;rw [Nat.pow_succ] at h2;rcases Nat.lt_or_ge d (lo+2 ^ k) with hlt|hge
  ·exact zkr q k lo h.1 d h1 hlt h3 hd
  ·exact zkr q k _ h.2 d hge (by omega) h3 hd
theorem zqo {q k:Nat} (h2:2<=q) (h:yfd q k 0=true) (hk:q<2 ^ k*2 ^ k):PrimeN q:=by
 have nd:∀d,2<=d->d<q->¬d ∣ q:=fun d hd hlt hdv=>by
  obtain ⟨c,hc⟩:=hdv;have hs:=zkr q k 0 h;rcases Nat.lt_or_ge d (2 ^ k) with h1|h1
  ·exact hs d (by omega) (by omega) hd ⟨c,hc⟩
  ·rcases Nat.lt_or_ge c (2 ^ k) with h3|h3
   ·have hc2:2<=c:=by
     rcases c with _|_|c
     ·omega
     ·omega
     ·omega
    exact hs c (by omega) (by omega) hc2 ⟨d,by rw [hc,Nat.mul_comm]⟩
   ·have:=Nat.mul_le_mul h1 h3
    omega
 refine ⟨h2,fun k h0 h1=>?_⟩;have hg1:=Nat.gcd_dvd_left q k;have hg2:=Nat.gcd_dvd_right q k;have hg3:=Nat.le_of_dvd h0 hg2;have hg0:0<Nat.gcd q k:=Nat.gcd_pos_of_pos_right _ h0;unfold Nat.Coprime;rcases Nat.lt_or_ge (Nat.gcd q k) 2 with h3|h3
 ·omega
 ·exact (nd _ h3 (by omega) hg1).elim
theorem yjo:PrimeN 1073741789:=zqo (k:=15) (by decide) (by kernel_rfl) (by decide)
theorem yns (b e:Nat) (he:e<18446744073709551616) (h:zlv b e=1):Elm 2147483579 e b:=⟨by
 rw [zke he] at h
 exact h⟩
theorem elm4:Elm 2147483579 1073741789 4:=yns 4 1073741789 (by decide) (by kernel_rfl)
theorem elm9:Elm 2147483579 1073741789 9:=yns 9 1073741789 (by decide) (by kernel_rfl)
theorem ytu:(4:Nat) % 2147483579≠1 % 2147483579:=by decide
theorem ymt {n m r:Nat} (hn:n<1073741789) (hm:m<1073741789) (h:4 ^ n*9 ^ r % 2147483579=4 ^ m*9 ^ r % 2147483579):n=m:=
 elm4.inj yjo ytu hn hm (yjn (elm9.inv (by decide) r) h)
theorem zzv (c:Int):zpz c<1073741789:=by unfold zpz;omega
theorem zps (c b:Int) (hb:b<1073741789):ydq c b=4 ^ zpz c*9 ^ b.toNat % 2147483579:=by
 have hv:=zzv c;unfold ydq;rw [zke (by omega),zke (by omega)];exact (Nat.mul_mod _ _ _).symm
theorem yps (c b:Int):ydq c b<2147483579:=Nat.mod_lt _ (by decide)
theorem ymu {c e:Int} (h1: -500000000<=c/\c<=500000000) (h2: -500000000<=e/\e<=500000000) (h:zpz c=zpz e):c=e:=by
 unfold zpz at h;omega
theorem zzw {m c e b:Int} (h1:wz m c b=true) (h2:wz m e b=true):c=e:=by
 unfold wz at h1 h2;simp only [Bool.and_eq_true,zcu,decide_eq_true_eq] at h1 h2;obtain ⟨⟨a1,a2,a3,a4⟩,a5⟩:=h1;obtain ⟨⟨b1,b2,b3,b4⟩,b5⟩:=h2;rw [a5,zps c b a4,zps e b a4] at b5;exact ymu ⟨a1,a2⟩ ⟨b1,b2⟩ (ymt (zzv c) (zzv e) (Int.ofNat_inj.1 b5))
theorem ypt {p q a b:Nat} (ha:Elm p q a) (hb:Elm p q b):Elm p q (a*b):=⟨by
 rw [Nat.mul_pow];have:=yql ha.one hb.one
 rwa [Nat.one_mul] at this⟩
theorem yjp {p q a:Nat} (ha:Elm p q a) (n:Nat):Elm p q (a ^ n):=⟨by
 rw [<-Nat.pow_mul,Nat.mul_comm,Nat.pow_mul];have:=ytc ha.one n
 rwa [Nat.one_pow] at this⟩
theorem ypu {p q a:Nat} (ha:Elm p q a):Elm p q (a % p):=⟨by
 rw [<-Nat.pow_mod]
 exact ha.one⟩
theorem yrv (b e:Nat) (he:e<18446744073709551616) (h:Elm 2147483579 e b):zlv b e=1:=by
 rw [zke he];exact h.one
theorem ymv {x:Nat} (h:Elm 2147483579 1073741789 x) (hx:x<2147483579):zeg (x:Int)=true:=by
 have h1:zlv x 1073741789=1:=yrv x 1073741789 (by decide) h;have h0:0<x:=by
  rcases Nat.eq_zero_or_pos x with h2|h2
  ·subst h2
   exact absurd h1 (by decide+kernel)
  ·exact h2
 unfold zeg;rw [Int.toNat_natCast,h1];simp;omega
theorem ypv (c b:Int) (hb:b<1073741789):Elm 2147483579 1073741789 (ydq c b):=by
 rw [zps c b hb];exact ypu (ypt (yjp elm4 _) (yjp elm9 _))
theorem ymw (c b:Int) (hb:b<1073741789):zeg (ydq c b:Int)=true:=ymv (ypv c b hb) (yps c b)
theorem yfe (c b:Nat) (a:Nat):chainN a (chainN b c)=chainN (a+b) c:=by
 induction a with
 |zero=>rw [zcw,Nat.zero_add]
 |succ a ih=>rw [zag,ih,Nat.add_right_comm,zag]
theorem yff (l:List (Nat × Nat)):(leafS l).data.toList=l.flatMap fun x=>(zdt (chainN (15-x.1) x.2)).data.toList:=by
 have key:∀(l:List (Nat × Nat)) (s:ByteArray),(l.foldl (fun s x=>s++zdt (chainN (15-x.1) x.2)) s).data.toList=s.data.toList++l.flatMap fun x=>(zdt (chainN (15-x.1) x.2)).data.toList:=by
  intro l
  induction l with
  |nil=>intro s;exact (List.append_nil _).symm
  |cons x l ih=>
   intro s;rw [List.foldl_cons,ih,List.flatMap_cons,ByteArray.data_append,Array.toList_append,List.append_assoc]
 exact key l _
theorem yjq {α:Type} (l:List Nat) (n:Nat) (g:Nat->α) (h:l.length=n):l.zip ((List.range n).map g)=(List.range n).map fun k=>(l.getD k 0,g k):=by
 apply List.ext_getElem?
 intro k;rcases Nat.lt_or_ge k n with hk|hk
 ·have hkl:k<l.length:=by omega
  have e:(l.zip ((List.range n).map g))[k]?=some (l[k]'hkl,g k):=List.getElem?_zip_eq_some.2 ⟨List.getElem?_eq_getElem hkl,by rw [List.getElem?_map,List.getElem?_range hk];rfl⟩;rw [e,List.getElem?_map,List.getElem?_range hk,Option.map_some,List.getD_eq_getElem?_getD,List.getElem?_eq_getElem hkl,Option.getD_some]
 ·rw [List.getElem?_eq_none (by simp;omega),List.getElem?_eq_none (by simp;omega)]
theorem yfg (seed:ByteArray) (i:Nat) (text:ByteArray):leafS ((zqw text).zip (chainsN seed i text))=⟨(leafK seed i).toArray⟩:=by
 have hl:=ztf text;have hle:=zyv text;have e:(zqw text).zip (chainsN seed i text)=(List.range 18).map fun (k:Nat)=>((zqw text).getD k 0,chainN ((zqw text).getD k 0) (ybz seed i k)):=yjq _ 18 _ hl
 have h:(leafS ((zqw text).zip (chainsN seed i text))).data.toList=leafK seed i:=by
  rw [yff,e,List.flatMap_map];unfold leafK;generalize zqw text=fg at hl hle;generalize List.range 18=rg
  congr 1
  funext k
  have hk:fg.getD k 0<=15:=by
   rw [List.getD_eq_getElem?_getD];cases hg:fg[k]? with
   |none=>exact Nat.zero_le _
   |some x=>exact hle x (List.mem_of_getElem? hg)
  rw [yfe,Nat.sub_add_cancel hk]
 rw [<-h]
theorem zzx (seed:ByteArray) {h i:Nat} (hi:i<2 ^ h):(leavesN seed h).getD i ⟨#[]⟩=⟨(leafK seed i).toArray⟩:=by
 unfold leavesN;rw [List.getD_eq_getElem?_getD,List.getElem?_map,List.getElem?_range hi];rfl
theorem ypw (seed:ByteArray) (h i:Nat) (text:ByteArray) (hh:h<=8) (hi:i<2 ^ h):signedOK (keyN seed h) h text (signN seed h i text)=true:=by
 have hp:2 ^ h<=2 ^ 8:=Nat.pow_le_pow_right (by decide) hh;have hc:(chainsN seed i text).length=18:=by simp [chainsN]
 have hl:=zpq (leavesN seed h) i (by rw [jn];exact hi) (by rw [jn];omega);rw [zzx seed hi,jn] at hl;unfold signedOK signN;simp only [Int.toNat_natCast,hc,decide_true,Bool.and_true];rw [yfg,decide_eq_true (by omega),decide_eq_true (by omega)];exact hl
def yfh (fl:Nat->Bool):Nat->List Int->Nat
 |_,[]=>1
 |i,c::r=>(if fl i then 1 else c.toNat)*yfh fl (i+1) r
theorem zpt (l:List Shw):∀(cs:List Int) (i p:Nat),p<2147483579->zdk l i cs p=p*yfh (zax l) i cs % 2147483579
 |[],_,p,h=>by rw [zdk,yfh,Nat.mul_one,Nat.mod_eq_of_lt h]
 |c::r,i,p,h=>by
  rw [zdk,yfh];split
  ·rw [zpt l r _ _ h,Nat.one_mul]
  ·rw [zpt l r _ _ (Nat.mod_lt _ (by decide)),Nat.mod_mul_mod,Nat.mul_assoc]
theorem ycg (c:Int):(zpz c:Int)=c % 1073741789:=by
 unfold zpz;omega
theorem zpu (fl:Nat->Bool):∀(rs:List Rw) (bs:List Int) (mk:List Bool) (i:Nat),bs.length=rs.length->mk.length=rs.length->(∀k,k<rs.length->mk[k]?=some (!fl (i+k)))->(∀b∈bs,0<=b/\b<1073741789)->
  ∃A B:Nat,yfh fl i (zin rs bs) % 2147483579=4 ^ A*9 ^ B % 2147483579/\(A:Int) % 1073741789=yz (rs.map Rw.cents) mk % 1073741789/\(B:Int)=yz bs mk
 |[],bs,mk,i,_,_,_,_=>⟨0,0,rfl,by simp [yz],by cases bs<;>cases mk<;>simp_all [yz]⟩
 |r::rs,[],mk,i,h,_,_,_=>by simp at h
 |r::rs,b::bs,[],i,_,h,_,_=>by simp at h
 |r::rs,b::bs,m::mk,i,h1,h2,h3,h4=>by
  have hb:=h4 b (by simp)
  obtain ⟨A,B,e1,e2,e3⟩:=zpu fl rs bs mk (i+1) (by simpa using h1) (by simpa using h2) (fun k hk=>by
   have:=h3 (k+1) (by rw [List.length_cons];omega);rw [List.getElem?_cons_succ,show i+(k+1)=i+1+k by omega] at this
   exact this) (fun b hb=>h4 b (by simp [hb]))
  have hm:m= !fl i:=by
   have:=h3 0 (by simp);simpa using this
  rw [zin,yfh,List.map_cons,yz,yz];cases hf:fl i with
  |true=>
   rw [hf] at hm;subst hm;refine ⟨A,B,?_,?_,?_⟩
   ·simp only [if_true,Nat.one_mul]
    exact e1
   ·simp only [Bool.not_true,Bool.false_eq_true,if_false,Int.zero_add]
    exact e2
   ·simp only [Bool.not_true,Bool.false_eq_true,if_false,Int.zero_add]
    exact e3
  |false=>
   rw [hf] at hm;subst hm;refine ⟨zpz r.cents+A,b.toNat+B,?_,?_,?_⟩
   ·simp only [Bool.false_eq_true,if_false,Int.toNat_natCast]
    have e4:zlo r b % 2147483579=4 ^ zpz r.cents*9 ^ b.toNat % 2147483579:=by
     show ydq r.cents b % _=_;rw [zps _ _ hb.2,Nat.mod_mod]
    rw [yql e4 e1,Nat.pow_add,Nat.pow_add]
    congr 1
    simp only [Nat.mul_assoc,Nat.mul_left_comm,Nat.mul_comm]
   ·have:=ycg r.cents
    simp only [Bool.not_false,if_true];rw [Int.natCast_add];omega
   ·simp only [Bool.not_false,if_true]
    omega
theorem ych:∀(rs:List Rw) (bs:List Int),bs.length=rs.length->∀k,k<rs.length->(zin rs bs).getD k 0=ydq (rs.getD k ⟨⟨#[]⟩,0,⟨#[]⟩⟩).cents (bs.getD k 0)
 |[],_,_,k,hk=>absurd hk (Nat.not_lt_zero k)
 |_::_,[],h,_,_=>by simp at h
 |r::rs,b::bs,_,0,_=>rfl
 |r::rs,b::bs,h,k+1,hk=>by
  have:=ych rs bs (by simpa using h) k (by simpa using hk);simpa [zin] using this
theorem zxh:∀(rs:List Rw) (bs:List Int),bs.length=rs.length->∀k,k<rs.length->(qm rs bs).getD k ⟨#[]⟩=zbm (rs.getD k ⟨⟨#[]⟩,0,⟨#[]⟩⟩).label ((zin rs bs).getD k 0) (rs.getD k ⟨⟨#[]⟩,0,⟨#[]⟩⟩).reason
 |[],_,_,k,hk=>absurd hk (Nat.not_lt_zero k)
 |_::_,[],h,_,_=>by simp at h
 |r::rs,b::bs,_,0,_=>rfl
 |r::rs,b::bs,h,k+1,hk=>by
  have:=zxh rs bs (by simpa using h) k (by simpa using hk);simpa [qm,zin] using this
theorem zxi:∀(rs:List Rw) (bs:List Int),(∀b∈bs,0<=b/\b<1073741789)->∀c∈zin rs bs,zeg c=true
 |[],_,_,c,h=>by cases h
 |_::_,[],_,c,h=>by cases h
 |r::rs,b::bs,hb,c,h=>by
  rcases List.mem_cons.1 h with rfl|h
  ·exact ymw r.cents b (hb b (by simp)).2
  ·exact zxi rs bs (fun b h=>hb b (by simp [h])) c h
theorem yjr (d:Disc):zhn d=zdb spT (zdp d.person d.month d.root d.commit):=by
 obtain ⟨person,month,root,commit,shown,hidden,blind,sig⟩:=d;show commit.foldl (fun s c=>s++(⟨#[32]⟩++ws c)) (⟨#[112,97,121,115,108,105,112,32]⟩++person++⟨#[32]⟩++ws month++⟨#[32]⟩++zdt root)=
  ([person,ws month,zdt root]++commit.map ws).foldl (fun s y=>s++spT++y) paysT
 rw [List.foldl_append,List.foldl_map];have h1:(fun (s:ByteArray) (c:Int)=>s++(⟨#[32]⟩++ws c))=fun s c=>s++spT++ws c:=by
  funext s c
  exact (ByteArray.append_assoc).symm
 rw [h1]
 congr 1
theorem yci {s:Slip} (hg:SlipGood s) (d:Disc) (hr:d.root=s.root) (hc:d.commit=zin s.rows s.blinds):∀(l:List Int) (last:Int),l.Pairwise (· < ·)->(∀x∈l,last<x/\0<=x/\x<s.rows.length)->shownOK d last (l.map (showRow s))=true
 |[],_,_,_=>rfl
 |x::l,last,hp,h=>by
  have hx:=h x (by simp);rw [List.pairwise_cons] at hp;have ih:=yci hg d hr hc l x hp.2 (fun y hy=>⟨hp.1 y hy,(h y (by simp [hy])).2⟩);have hlen:d.commit.length=s.rows.length:=by rw [hc];exact zmn _ _ hg.blinds
  have hk:x.toNat<s.rows.length:=by omega
  rw [List.map_cons,shownOK];have hi:(showRow s x).index=x:=rfl;rw [hi,ih,Bool.and_true];unfold shwOK;rw [hi,hlen,decide_eq_true hx.1,decide_eq_true hx.2.2,Bool.true_and,Bool.true_and,Bool.and_eq_true];have e1:cAt d x=(ydq (showRow s x).cents (showRow s x).blind:Nat):=by
   unfold cAt;rw [hc,ych _ _ hg.blinds _ hk];rfl
  have hcm:∀r∈s.rows,r=r:=fun _ _=>rfl
  have hmem:s.rows.getD x.toNat ⟨⟨#[]⟩,0,⟨#[]⟩⟩∈s.rows:=by
   rw [List.getD_eq_getElem?_getD,List.getElem?_eq_getElem hk];exact List.getElem_mem hk
  have hbm:s.blinds.getD x.toNat 0∈s.blinds:=by
   rw [List.getD_eq_getElem?_getD,List.getElem?_eq_getElem (by rw [hg.blinds];exact hk)];exact List.getElem_mem _
  refine ⟨?_,?_⟩
  ·unfold wz
   rw [e1,Bool.and_eq_true,zcu];have b1:=hg.cents _ hmem;have b2:=hg.blind _ hbm;exact ⟨⟨b1.1,b1.2,b2.1,b2.2⟩,by simp⟩
  ·have h1:=zpq (qm s.rows s.blinds) x.toNat (by rw [zbb _ _ hg.blinds];exact hk) (by rw [zbb _ _ hg.blinds];exact hg.rows.2)
   rw [hg.root,zxh _ _ hg.blinds _ hk,zbb _ _ hg.blinds] at h1;have e2:cAt d x=(zin s.rows s.blinds).getD x.toNat 0:=by
    unfold cAt;rw [hc]
   have e3:(x.toNat:Int)=x:=by omega
   rw [e3] at h1;rw [hr,e2];exact h1
theorem zzy (s:Slip) (l:List Int) (i:Nat):zax (l.map (showRow s)) i=decide ((i:Int)∈l):=by
 unfold zax;rw [Bool.eq_iff_iff];simp only [List.any_map,List.any_eq_true,Function.comp,decide_eq_true_eq];constructor
 ·rintro ⟨x,hx,he⟩
  have he:x=i:=he;rw [<-he];exact hx
 ·intro h
  exact ⟨_,h,rfl⟩
theorem yjs {s:Slip} (hg:SlipGood s) {sel:List Int} (hsel:zep s.rows.length none sel=true) (seed:ByteArray) {h i:Nat} (hh:h<=8) (hi:i<2 ^ h)
  (hsum: -500000000<=yz (s.rows.map Rw.cents) (zfu s.rows.length sel)/\yz (s.rows.map Rw.cents) (zfu s.rows.length sel)<=500000000):accOK (keyN seed h) h (showN s sel seed h i)=true:=by
 obtain ⟨p1,p2,_⟩:=zgz _ _ _ hsel;have hcl:=zmn _ _ hg.blinds;have h1:zhb (showN s sel seed h i)=true:=by
  unfold zhb showN;simp only [hg.name,hcl];rw [decide_eq_true hg.month.1,decide_eq_true hg.month.2,decide_eq_true hg.rows.1,decide_eq_true hg.rows.2];simp only [Bool.true_and,List.all_eq_true];exact zxi _ _ hg.blind
 have h2:shownOK (showN s sel seed h i) (-1) (showN s sel seed h i).shown=true:=yci hg _ rfl rfl sel (-1) p1 (fun x hx=>⟨by have:=p2 x hx;omega,p2 x hx⟩);have h3:signedOK (keyN seed h) h (zhn (showN s sel seed h i)) (showN s sel seed h i).sig=true:=by
  rw [yjr];exact ypw seed h i _ hh hi
 have hfl:∀k,k<s.rows.length->(zfu s.rows.length sel)[k]?=some (!zax (sel.map (showRow s)) (0+k)):=fun k hk=>by
  unfold zfu;rw [List.getElem?_map,List.getElem?_range hk,Nat.zero_add,zzy];rfl
 obtain ⟨A,B,e1,e2,e3⟩:=zpu (zax (sel.map (showRow s))) s.rows s.blinds (zfu s.rows.length sel) 0 hg.blinds (by simp [zfu]) hfl hg.blind;have h4:wz (zdk (showN s sel seed h i).shown 0 (showN s sel seed h i).commit 1) (showN s sel seed h i).hidden (showN s sel seed h i).blind=true:=by
  show wz (zdk (sel.map (showRow s)) 0 (zin s.rows s.blinds) 1) (yz (s.rows.map Rw.cents) (zfu s.rows.length sel)) ((yz s.blinds (zfu s.rows.length sel)).tmod 1073741789)=true;rw [zpt _ _ _ _ (by decide),Nat.one_mul,e1, <-e3];generalize yz (s.rows.map Rw.cents) (zfu s.rows.length sel)=hs1 at hsum e2 ⊢;have e4:(B:Int).tmod 1073741789=((B % 1073741789:Nat):Int):=by
   rw [Int.tmod_eq_emod_of_nonneg (by omega)];omega
  have hB:B % 1073741789<1073741789:=Nat.mod_lt _ (by decide);unfold wz;rw [e4,Bool.and_eq_true,zcu];refine ⟨⟨hsum.1,hsum.2,by omega,by omega⟩,?_⟩;rw [decide_eq_true_eq,zps _ _ (by omega),Int.toNat_natCast];have e5:A % 1073741789=zpz hs1 % 1073741789:=by
   have:=ycg hs1;omega
  rw [yql (elm4.congr e5) (elm9.red B)]
 unfold accOK;rw [h1,h2,h3,h4];rfl
theorem yfi {root h:Nat} {idx:Int} {leaf:ByteArray} {path:List Frk} (hl:jr root (2 ^ h:Nat) idx leaf path=true):0<=idx/\idx<(2 ^ h:Nat)/\path.length=h:=by
 unfold jr at hl;simp only [Bool.and_eq_true,decide_eq_true_eq] at hl;obtain ⟨⟨⟨_,h3⟩,h4⟩,h5⟩:=hl;refine ⟨h3,h4,zqy 12 h idx.toNat path (zap leaf) root (by omega) ?_⟩;rw [Int.toNat_natCast] at h5;exact h5
theorem zrz {key:Nat} {height:Int} {text:ByteArray} {s:Sg} (h:signedOK key height text s=true):0<=height/\height<=8/\0<=s.index/\s.index<(2 ^ height.toNat:Nat)/\s.path.length=height.toNat:=by
 unfold signedOK at h;simp only [Bool.and_eq_true,decide_eq_true_eq] at h;obtain ⟨⟨⟨h1,h2⟩,_⟩,h4⟩:=h;exact ⟨h1,h2,yfi h4⟩
theorem zjq {key:Nat} {height:Int} {d:Disc} (h:accOK key height d=true):zhb d=true/\shownOK d (-1) d.shown=true/\wz (zdk d.shown 0 d.commit 1) d.hidden d.blind=true/\signedOK key height (zhn d) d.sig=true:=by
 unfold accOK at h;simp only [Bool.and_eq_true] at h;exact ⟨h.1.1.1,h.1.1.2,h.1.2,h.2⟩
theorem ymx {key key':Nat} {height h':Int} {d:Disc} (h:accOK key height d=true) (hne:h'≠height):accOK key' h' d=false:=by
 cases hb:accOK key' h' d with
 |false=>rfl
 |true=>
  obtain ⟨a1,_,_,_,a2⟩:=zrz (zjq h).2.2.2;obtain ⟨b1,_,_,_,b2⟩:=zrz (zjq hb).2.2.2;omega
theorem ypx {key:Nat} {height:Int} {d:Disc} (h:accOK key height d=true->False):accOK key height d=false:=by
 cases hb:accOK key height d with
 |false=>rfl
 |true=>exact (h hb).elim
theorem ztz {key:Nat} {height:Int} {d:Disc} (h:accOK key height d=true) {n:Int} (hn:n≠d.hidden):accOK key height {d with hidden:=n}=false:=
 ypx fun hb=>hn (zzw (zjq hb).2.2.1 (zjq h).2.2.1)
def zzz (x:Int):List Int->List Int
 |[]=>[x]
 |y::l=>if x<=y then x::y::l else y::zzz x l
def yfj:List Int->List Int
 |[]=>[]
 |x::l=>zzz x (yfj l)
theorem zks (x:Int):∀l,(zzz x l).Perm (x::l)
 |[]=>.refl _
 |y::l=>by
  rw [zzz];split
  ·exact .refl _
  ·exact ((zks x l).cons y).trans (.swap x y l)
theorem zsa:∀l,(yfj l).Perm l
 |[]=>.refl _
 |x::l=>(zks x _).trans ((zsa l).cons x)
theorem zlq (x:Int):∀l,l.Pairwise (· <= ·)->(zzz x l).Pairwise (· <= ·)
 |[],_=>by simp [zzz]
 |y::l,h=>by
  rw [List.pairwise_cons] at h;rw [zzz];split
  ·rename_i hxy
   rw [List.pairwise_cons];refine ⟨fun z hz=>?_,List.pairwise_cons.2 h⟩;rcases List.mem_cons.1 hz with rfl|hz
   ·exact hxy
   ·have:=h.1 z hz;omega
  ·rename_i hxy
   rw [List.pairwise_cons];refine ⟨fun z hz=>?_,zlq x l h.2⟩;rcases List.mem_cons.1 ((zks x l).mem_iff.1 hz) with rfl|hz
   ·omega
   ·exact h.1 z hz
theorem zlr:∀l,(yfj l).Pairwise (· <= ·)
 |[]=>.nil
 |x::l=>zlq x _ (zlr l)
theorem zjr:∀{a b:List Int},a.Perm b->a.Pairwise (· <= ·)->b.Pairwise (· <= ·)->a=b
 |[],b,h,_,_=>by rw [List.nil_perm.1 h]
 |x::a,[],h,_,_=>by cases (List.perm_nil.1 h)
 |x::a,y::b,h,ha,hb=>by
  rw [List.pairwise_cons] at ha hb;have hxy:x=y:=by
   have h1:x∈y::b:=h.mem_iff.1 (by simp);have h2:y∈x::a:=h.mem_iff.2 (by simp);rcases List.mem_cons.1 h1 with h1|h1
   ·exact h1
   ·rcases List.mem_cons.1 h2 with h2|h2
    ·exact h2.symm
    ·have:=ha.1 y h2
     have:=hb.1 x h1;omega
  subst hxy;rw [zjr h.cons_inv ha.2 hb.2]
theorem zpv (l:List Int):zbe l=yfj l:=by
 refine zjr ((List.mergeSort_perm l fun x y=>decide (x<=y)).trans (zsa l).symm) ?_ (zlr l);have:=List.pairwise_mergeSort (le:=fun x y:Int=>decide (x<=y)) (fun a b c h1 h2=>by simp at*;omega) (fun a b=>by simp;omega) l;exact this.imp fun h=>by simpa using h
def inK (c:Codex) (day known:Int):List Int:=yfj ((ylw c day known).map (·.2))
theorem yrw (c:Codex) (day known:Int):inA c day known=inK c day known:=zpv _
def yjt (S:AM) (used:List Bool):List Int:=Go.Lib.compact (yfj (((List.range used.length).filter fun i=>used.getD i false&&S.has.getD i false).map fun i=>S.nums.getD i 0))
theorem yju (S:AM) (used:List Bool):zgl S used=yjt S used:=by
 unfold zgl yjt;rw [zpv]
def ypy (c:Codex) (S:AM) (inF:List Int) (s:List (Int × Int) × List (Int × Int)) (v:Int) (a:Article):Ln:=
 ⟨S.day,a.line,v,(zu a.number s.2).getD 0,yjt S (zih c a),zjf c inF s.1 a⟩
theorem ymy (c:Codex) (S:AM) (inF:List Int) (s:List (Int × Int) × List (Int × Int)) (v:Int) (a:Article):zol c S inF s v a=ypy c S inF s v a:=by
 unfold zol ypy;rw [yju]
def yaa (c:Codex) (S:AM) (inF:List Int) (s:List (Int × Int) × List (Int × Int)) (line:Ln):Bool:=
 match zcd c line.art with
 |some a=>if line.art∈inF/\(zu line.art s.1).getD 0=2 then ybn (ypy c S inF s line.art a) line else false
 |none=>false
theorem yfk (c:Codex) (S:AM) (inF:List Int) (s:List (Int × Int) × List (Int × Int)) (line:Ln):zfh c S inF s line=yaa c S inF s line:=by
 unfold zfh yaa;cases zcd c line.art with
 |none=>rfl
 |some a=>simp only [ymy]
def yjv (c:Codex) (l:List Fact) (person:ByteArray) (known:Int) (line:Ln):Bool:=
 zcy c&&zie l&&(decide (0<=line.day)&&decide (line.day<=36524))&&(decide (0<=known)&&decide (known<=36524))&&decide ((yee c).length=c.arts.length)&&
  yaa c (zba c l person line.day known) (inK c line.day known) (yrj c (zba c l person line.day known) (inK c line.day known) (yee c)) line
theorem zer (c:Codex) (l:List Fact) (person:ByteArray) (known:Int) (line:Ln):zce c l person known line=yjv c l person known line:=by
 unfold zce yjv;rw [yrw,yfk]
variable (G:List (Nat × D))
theorem yrx {b:Nat} {H0:List SObj} {f:Ex} (l:List Ex) (hb:H0[b]?=some (.cells (f.cells.map .imm))) (hu:H0.all (SObj.under H0.length)=true):yrk G 171 b H0 (fun e=> !decide (e.unit=f.unit)) l:=by
 intro e _;have hbl:=lt_of_getElem? hb;obtain ⟨xo,xn,xu,xd,xp,xk⟩:=e
 refine qg Tryz.func171 rfl (by rw [Tryz.ntmps171];simp) (by
  have h1:(Ex.mk xo xn xu xd xp xk).sv.under H0.length=true:=rfl;have h2:(SV.ptr b 0).under H0.length=true:=by simp [SV.under,hbl]
  simp only [List.all_cons,List.all_nil,h1,h2,Bool.and_true]) hu ?_
 intro E hH hK;(refine zq [777,5,7] 1000 ?_;conv=>whnf);refine xm (cs:=(Ex.mk xo xn xu xd xp xk).cells.map .imm) (v:=sS xu) rfl rfl rfl rfl (by simp) rfl ?_;(refine zk [777,5,7] 1000 ?_;conv=>whnf);refine xm (cs:=f.cells.map .imm) (v:=sS f.unit) rfl rfl rfl rfl ((List.getElem?_append_left hbl).trans hb) ?_ ?_
 ·rw [Ex.cells_eq];rfl
 (refine zc ?_;conv=>whnf);refine hK _ _ (by simp) rfl (by rw [List.take_left'];exact hu;rfl) ⟨rfl,by rw [List.take_left'];rfl⟩
theorem yjw {ks:List Ex} {f:Ex} (hf:ks.head?=some f):zog ks= !(ks.any fun e=> !decide (e.unit=f.unit)):=by
 cases ks with
 |nil=>cases hf
 |cons a r=>
  injection hf with hf
  subst hf;rw [zog,List.all_eq_not_any_not]
def yfl (op:Int) (u:ByteArray) (f l:Ex) (len:Int) (same:Bool):Bool:=
 if op=5 then decide (len=1)&&decide (u=tT)&&decide (f.unit=tT)
 else if op=6\/op=7 then decide (len=2)&&decide (u=tT)&&same&&decide (f.unit=tT)
 else if op=8 then decide (len=2)&&decide (u=tT)&&same
 else if op=9\/op=10 then decide (len=2)&&decide (u=tT)&&(same&& !decide (f.unit=tT))
 else if op=11\/op=12 then decide (len=2)&&(same&& !decide (f.unit=tT))&&decide (u=f.unit)
 else if op=16\/op=17 then decide (2<=len)&&(same&& !decide (f.unit=tT))&&decide (u=f.unit)
 else if op=13 then decide (len=2)&& !decide (f.unit=tT)&& !decide (l.unit=tT)&&(decide (f.unit=tN)||decide (l.unit=tN))&&decide (u=if f.unit=tN then l.unit else f.unit)
 else if op=14 then decide (len=2)&&decide (l.op=1)&&decide (l.unit=tN)&&(decide (1<=l.n)&&decide (l.n<=1000000))&& !decide (f.unit=tT)&&decide (u=f.unit)
 else if op=15 then decide (len=2)&&decide (f.unit=tM)&&znv l.unit&&decide (u=l.unit)
 else false
theorem ypz (op:Int) (u:ByteArray) (f l:Ex) (len:Int) (same:Bool):yki op u f l len same=yfl op u f l len same:=by
 unfold yki yfl;rw [show (!decide (l.n<1)&& !decide (1000000<l.n))=(decide (1<=l.n)&&decide (l.n<=1000000)) from by rw [Bool.eq_iff_iff];simp]
theorem zxj (op n:Int) (u:ByteArray) (den:Int) (ps:List Piece) (ks:List Ex) (f l:Ex) (hf:ks.head?=some f) (hl:ks.getLast?=some l) (hsz:ks.length<=1000000000):
  zp Tryz.prog G 140 [(Ex.mk op n u den ps ks).sv] (sB (yki op u f l ks.length (zog ks))):=by
 have hrows:=xj ks;have hlen:(zm ks).length=ks.length:=by rw [hrows];simp
 have hpos:1<=ks.length:=by cases ks with|nil=>simp at hf|cons a r=>simp
 have h0:(zm ks)[0]?=some f.cells:=by
  rw [hrows];cases ks with
  |nil=>simp at hf
  |cons a r=>simp at hf;simp [hf]
 have h1:(zm ks)[ks.length-1]?=some l.cells:=by
  rw [hrows,List.getElem?_map];rw [List.getLast?_eq_getElem?] at hl;rw [hl];rfl
 have hone:ks.length=1->zog ks=true:=by
  intro h
  match ks,h with
  |[k],_=>simp [zog]
 have hm:IntKind.i64.wrap (((zm ks).length:Int)-1)=((ks.length-1:Nat):Int):=by rw [ya (by omega) (by omega)];omega
 have hcon:=fun H0 hb hu=>zjh G (g:=171) (b:=1) (H0:=H0) (p:=fun e=> !decide (e.unit=f.unit)) (l:=ks) rfl (lt_of_getElem? hb) hu hsz (yrx G ks hb hu)
 rw [<-hrows] at hcon;have hsame:=yjw hf;generalize (ks.any fun e=> !decide (e.unit=f.unit))=an at hcon hsame;obtain ⟨o0,n0,u0,d0,p0,q0⟩:=f;obtain ⟨o1,n1,u1,d1,p1,q1⟩:=l;have hcur:=zib G u1;refine zg Tryz.func140 rfl (by rw [Tryz.ntmps140];simp) rfl rfl ?_;intro E hH hK;(refine yy ?_;conv=>whnf);(refine xw 2 mixed rfl ?_;refine zn [] (nx:=1) ?_;conv=>whnf);refine wh rfl (by simp) rfl  (row:=(Ex.mk o0 n0 u0 d0 p0 q0).cells) h0 ?_;(refine zn [] (nx:=1) ?_;conv=>whnf);refine wh rfl (by simp) hm (row:=(Ex.mk o1 n1 u1 d1 p1 q1).cells) h1 ?_;(refine zn [] (nx:=1) ?_;conv=>whnf);(refine yy ?_;conv=>whnf);refine zav 3 rfl rfl rfl rfl rfl rfl (hcon _ rfl rfl) ?_;rintro r9 H9 ⟨rfl,rfl⟩ _;have hs2:an= !zog ks:=by rw [hsame,Bool.not_not]
 clear hcon hsame;rw [ypz] at hK;generalize zog ks=sm at hK hs2 hone;subst hs2;rw [<-hlen] at hK hone;clear hm h0 h1 hf hl hlen hpos hrows;cases sm with
 |false=>
  have hone:¬(zm ks).length=1:=fun h=>Bool.noConfusion (hone h)
  (refine xh ?_;conv=>whnf)
  repeat' ((with_reducible refine way ?_ ?_)<;>(intro h;conv=>whnf))
  all_goals try (refine kB hK ?_;(try simp [yfl,tT,tN,tM,Ex.unit,Ex.op,Ex.n, *]);(try exact decide_eq_decide.2 Iff.rfl);(try omega))
  any_goals refine zd rfl  hcur ?_
  any_goals (refine xh ?_;conv=>whnf)
  any_goals repeat' ((with_reducible refine way ?_ ?_)<;>(intro h;conv=>whnf))
  all_goals try (refine kB hK ?_;(try simp [yfl,tT,tN,tM,Ex.unit,Ex.op,Ex.n, *]);(try exact decide_eq_decide.2 Iff.rfl);(try omega))
  all_goals trace_state
 |true=>
  clear hone;(refine xh ?_;conv=>whnf)
  repeat' ((with_reducible refine way ?_ ?_)<;>(intro h;conv=>whnf))
  all_goals try (refine kB hK ?_;(try simp [yfl,tT,tN,tM,Ex.unit,Ex.op,Ex.n, *]);(try exact decide_eq_decide.2 Iff.rfl);(try omega))
  any_goals refine zd rfl  hcur ?_
  any_goals (refine xh ?_;conv=>whnf)
  any_goals repeat' ((with_reducible refine way ?_ ?_)<;>(intro h;conv=>whnf))
  all_goals try (refine kB hK ?_;(try simp [yfl,tT,tN,tM,Ex.unit,Ex.op,Ex.n, *]);(try exact decide_eq_decide.2 Iff.rfl);(try omega))
  all_goals trace_state
def ziq (m:List (Int × Int)) (n:Int):List SObj:=[.mapI .i64 (qs sI m),.cells [sI n]]
theorem zkt (m:List (Int × Int)) (n:Int):(ziq m n).all (SObj.under 2)=true:=by
 simp only [ziq,List.all_cons,zgf];rfl
theorem yjx {op:Int} (u:ByteArray) (f l:Ex) (len:Int) (same:Bool) (h:1<=op/\op<=4):yki op u f l len same=false:=by
 unfold yki;rw [if_neg (by omega),if_neg (by omega),if_neg (by omega),if_neg (by omega),if_neg (by omega),if_neg (by omega),if_neg (by omega),if_neg (by omega),if_neg (by omega)]
theorem yab {facts lines:List Decl} {m:List (Int × Int)} {n:Int} {u:ByteArray} (h:zu n m=none):zgg facts lines m 3 n u=false:=by
 unfold zgg;simp [h]
theorem zxk (c : Codex) (hcs : c.facts.length <= 1000000) (m : List (Int × Int)) (hm : ∀ k v, zu k m = some v -> 0 <= v /\ v < c.lines.length) (N : Nat) : ∀ (e : Ex), SizeOf.sizeOf e < N -> ∀ (depth cnt : Int), 0 <= depth -> depth <= 41 -> 0 <= cnt -> cnt <= 400 ->
    SPre Tryz.prog G 103 [c.sv, .map 0, e.sv, sI depth, .ptr 1 0] (ziq m cnt) (fun r H1 => r = sB (qd c m e depth cnt).1 /\ H1 = ziq m (qd c m e depth cnt).2) := by
  induction N with
  | zero => intro e h; omega
  | succ N IH =>
  intro e he depth cnt hd0 hd1 hc0 hc1
  obtain ⟨op, n, u, den, ps, ks⟩ := e
  simp only [Ex.mk.sizeOf_spec] at he
  have hsv : (Ex.mk op n u den ps ks).sv = .agg [sI op, sI n, sS u, sI den, .imm (.isl 3 (ps.map Piece.cells)), .imm (.isl 6 (zm ks))] := rfl
  have hcv : c.sv = .agg [.imm (zr c.facts), .imm (zr c.lines), .imm (xr c.arts)] := rfl
  refine qg Tryz.func103 rfl (by rw [Tryz.ntmps103]; simp) rfl (zkt m cnt) ?_
  intro E hH hK
  have fin : ∀ H' q, H'.take 2 = ziq m q -> 2 <= H'.length -> ∀ b, qd c m (.mk op n u den ps ks) depth cnt = (b, q) -> E.K (sB b) H' := fun H' q h1 h2 b h3 =>
    hK _ _ h2 rfl (by show (List.take 2 H').all _ = true; rw [h1]; exact zkt m q) ⟨by rw [h3], by rw [h3]; exact h1⟩
  have hw1 : IntKind.i64.wrap (cnt + 1) = cnt + 1 := ya (by omega) (by omega)
  have hrows := xj ks
  have hlen : (zm ks).length = ks.length := by rw [hrows]; simp
  rw [hsv, hcv]
  refine zq [19] 1000 ?_; conv => whnf
  rw [hw1]
  (refine xh ?_; conv => whnf)
  repeat' ((with_reducible refine way ?_ ?_) <;> (intro h; conv => whnf))
  all_goals try exact fin _ _ rfl (by simp) _ (by simp only [qd]; rw [if_pos (by omega)])
  refine zd rfl  (zla G u) ?_
  cases huo : zkz u with
  | false =>
    (refine xh ?_; conv => whnf)
    exact fin _ _ rfl (by simp) _ (by simp only [qd]; rw [if_pos (.inr (.inr huo))])
  | true =>
  (refine xh ?_; conv => whnf)
  have hstart : qd c m (.mk op n u den ps ks) depth cnt = (match jd c m ks (depth + 1) (cnt + 1) with | (true, cnt') => (zcx c m op n u den ps ks, cnt') | (false, cnt') => (false, cnt')) := by
    simp only [qd]; rw [if_neg (by rw [huo]; simp; omega)]; try rfl
  have hup := zvs c m (N + 1)
  have hwd : IntKind.i64.wrap (depth + 1) = depth + 1 := ya (by omega) (by omega)
  refine zh [1, 3, 4, 5, 7, 35, 36, 37] ?_
  change SW E _ [(1, .map 0), (3, sI depth), (4, .ptr 1 0), (5, .ptr 2 0), (7, .ptr 3 0), (35, .imm (.isl 6 (zm ks))), (36, sI ((zm ks).length : Nat)), (37, sI (0 : Nat))] (ziq m (cnt + 1) ++ [.cells [.imm (zr c.facts), .imm (zr c.lines), .imm (xr c.arts)], .cells [sI op, sI n, sS u, sI den, .imm (.isl 3 (ps.map Piece.cells)), .imm (.isl 6 (zm ks))]])
  rw [hlen]
  refine zo ks (fun i (_ : Int) => [(1, .map 0), (3, sI depth), (4, .ptr 1 0), (5, .ptr 2 0), (7, .ptr 3 0), (35, .imm (.isl 6 (zm ks))), (36, sI (ks.length : Nat)), (37, sI (i : Nat))])
    (fun _ q => ziq m q ++ [.cells [.imm (zr c.facts), .imm (zr c.lines), .imm (xr c.arts)], .cells [sI op, sI n, sS u, sI den, .imm (.isl 3 (ps.map Piece.cells)), .imm (.isl 6 (zm ks))]])
    (fun done rest q => jd c m ks (depth + 1) (cnt + 1) = jd c m rest (depth + 1) q /\ cnt + 1 + done.length <= q /\ q <= 400) (cnt + 1) ⟨rfl, by simp, by omega⟩ ?_ ?_
  · as_aux_lemma =>
      rintro q ⟨h1, h2, h3⟩
      simp only [jd] at h1
      rw [h1] at hstart
      simp only at hstart
      have hsz : ks.length <= 400 := by omega
      have fin2 : ∀ H' b, H'.take 2 = ziq m q -> 2 <= H'.length -> zcx c m op n u den ps ks = b -> E.K (sB b) H' := fun H' b g1 g2 g3 => fin H' q g1 g2 b (by rw [hstart, g3])
      have hpl : (ps.map Piece.cells).length = ps.length := by simp
      have hfl : (c.facts.map Decl.cells).length = c.facts.length := by simp
      clear IH hup hstart hK fin huo
      by_cases h18 : op = 18
      · subst h18
        have hn18 : zcx c m 18 n u den ps ks = (decide (n = 0) && decide (ks.length = 1) && znv u && (match ks with | k :: _ => decide (u = k.unit) | [] => false) && zca den ps) := by unfold zcx; rw [if_pos rfl]; try rfl
        have hcur := zib G u
        have htb := ztm G den ps
        generalize znv u = b1 at hcur hn18
        generalize zca den ps = b2 at htb hn18
        cases ks with
        | nil =>
          (refine yy ?_; conv => whnf)
          repeat' ((with_reducible refine way ?_ ?_) <;> (intro h; conv => whnf))
          all_goals try (exfalso; omega)
          (refine zy mixed rfl ?_; refine zf [] ?_; conv => whnf)
          repeat' ((with_reducible refine way ?_ ?_) <;> (intro h; conv => whnf))
          all_goals (refine yy ?_; conv => whnf)
          all_goals exact fin2 _ _ rfl (by simp [ziq]) (by rw [hn18]; simp)
        | cons k0 kr =>
          obtain ⟨o0, n0, u0, d0, p0, q0⟩ := k0
          have h0 : (zm (Ex.mk o0 n0 u0 d0 p0 q0 :: kr))[0]? = some (Ex.mk o0 n0 u0 d0 p0 q0).cells := by simp [zm]
          (refine yy ?_; conv => whnf)
          repeat' ((with_reducible refine way ?_ ?_) <;> (intro h; conv => whnf))
          all_goals try (exfalso; omega)
          (refine zy mixed rfl ?_; refine zf [] ?_; conv => whnf)
          repeat' ((with_reducible refine way ?_ ?_) <;> (intro h; conv => whnf))
          · refine yh rfl  hcur ?_
            cases b1 with
            | false =>
              (refine zf [] ?_; conv => whnf)
              (refine yy ?_; conv => whnf)
              exact fin2 _ _ rfl (by simp [ziq]) (by rw [hn18]; simp)
            | true =>
            (refine zf [] ?_; conv => whnf)
            refine ys rfl rfl  (row := (Ex.mk o0 n0 u0 d0 p0 q0).cells) h0 ?_
            (refine zf [] ?_; conv => whnf)
            repeat' ((with_reducible refine way ?_ ?_) <;> (intro h; conv => whnf))
            · refine yh rfl  htb ?_
              (refine zf [] ?_; conv => whnf)
              (refine yy ?_; conv => whnf)
              refine fin2 _ _ rfl (by simp [ziq]) ?_
              rw [hn18, decide_eq_true ‹n = 0›, decide_eq_true (show (Ex.mk o0 n0 u0 d0 p0 q0 :: kr).length = 1 by omega)]
              have hu : decide (u = (Ex.mk o0 n0 u0 d0 p0 q0).unit) = true := decide_eq_true h.symm
              simp only [hu]
              try rfl
            · (refine yy ?_; conv => whnf)
              refine fin2 _ _ rfl (by simp [ziq]) ?_
              have hu : decide (u = (Ex.mk o0 n0 u0 d0 p0 q0).unit) = false := decide_eq_false (fun e => h (Eq.symm e))
              rw [hn18]
              simp only [hu]
              simp
          · (refine yy ?_; conv => whnf)
            exact fin2 _ _ rfl (by simp [ziq]) (by rw [hn18, decide_eq_false (show ¬ (Ex.mk o0 n0 u0 d0 p0 q0 :: kr).length = 1 by omega)]; simp)
          · (refine yy ?_; conv => whnf)
            exact fin2 _ _ rfl (by simp [ziq]) (by rw [hn18, decide_eq_false h]; simp)
      by_cases htab : ¬ den = 0 \/ 0 < ps.length
      · (refine yy ?_; conv => whnf)
        repeat' ((with_reducible refine way ?_ ?_) <;> (intro h; conv => whnf))
        all_goals try (exfalso; omega)
        all_goals exact fin2 _ _ rfl (by simp [ziq]) (by unfold zcx; rw [if_neg h18, if_pos htab])
      have hnode : zcx c m op n u den ps ks = if 1 <= op /\ op <= 4 then decide (ks.length = 0) && zgg c.facts c.lines m op n u else decide (n = 0) && (match ks.head?, ks.getLast? with | some f, some l => yki op u f l ks.length (zog ks) | _, _ => false) := by
        unfold zcx; rw [if_neg h18, if_neg htab]; try rfl
      cases ks with
      | cons k0 kr =>
        obtain ⟨l, hl⟩ : ∃ l, (k0 :: kr).getLast? = some l := ⟨_, List.getLast?_eq_some_getLast (by simp)⟩
        have hopr := zxj G op n u den ps (k0 :: kr) k0 l rfl hl (by omega)
        rw [hl] at hnode
        simp only [List.head?_cons] at hnode
        have hnode : zcx c m op n u den ps (k0 :: kr) = (decide (n = 0) && yki op u k0 l (k0 :: kr).length (zog (k0 :: kr))) := by
          rw [hnode]
          split
          · rename_i h
            rw [yjx u k0 l _ _ h, Bool.and_false]
            rfl
          · rfl
        have hpos : 0 < (zm (k0 :: kr)).length := by simp [zm]
        rw [hsv] at hopr
        generalize yki op u k0 l (k0 :: kr).length (zog (k0 :: kr)) = b1 at hopr hnode
        (refine yy ?_; conv => whnf)
        repeat' ((with_reducible refine way ?_ ?_) <;> (intro h; conv => whnf))
        all_goals try (exfalso; omega)
        all_goals first
          | exact fin2 _ _ rfl (by simp [ziq]) (by rw [hnode, decide_eq_false ‹¬ n = 0›]; rfl)
          | (refine zd rfl  hopr ?_
             (refine xh ?_; conv => whnf)
             exact fin2 _ _ rfl (by simp [ziq]) (by rw [hnode, decide_eq_true ‹n = 0›]; rfl))
      | nil =>
        have hnode : zcx c m op n u den ps [] = if 1 <= op /\ op <= 4 then zgg c.facts c.lines m op n u else false := by
          rw [hnode]
          split
          · rfl
          · simp
        by_cases hop : 1 <= op /\ op <= 4
        · rw [if_pos hop] at hnode
          rcases (show op = 1 \/ op = 2 \/ op = 3 \/ op = 4 by omega) with rfl | rfl | rfl | rfl
          · (refine yy ?_; conv => whnf)
            repeat' ((with_reducible refine way ?_ ?_) <;> (intro h; conv => whnf))
            all_goals try (exfalso; omega)
            all_goals exact fin2 _ _ rfl (by simp [ziq]) (by rw [hnode]; simp [zgg, tT, *]; try omega)
          · (refine yy ?_; conv => whnf)
            repeat' ((with_reducible refine way ?_ ?_) <;> (intro h; conv => whnf))
            all_goals try (exfalso; omega)
            (refine zy mixed rfl ?_; refine zf [] ?_; conv => whnf)
            repeat' ((with_reducible refine way ?_ ?_) <;> (intro h; conv => whnf))
            · have hlt : n.toNat < c.facts.length := by omega
              obtain ⟨d, hd⟩ : ∃ d, c.facts[n.toNat]? = some d := ⟨c.facts[n.toNat], List.getElem?_eq_getElem hlt⟩
              refine ys rfl (i := n.toNat) (by omega) (row := d.cells) (by simp [hd]) ?_
              (refine zf [] ?_; conv => whnf)
              (refine yy ?_; conv => whnf)
              refine fin2 _ _ rfl (by simp [ziq]) ?_
              have hua : zrd c.facts n u = decide (u = d.unit) := by simp only [zrd, hd]
              rw [hnode]
              have : decide (d.unit = u) = decide (u = d.unit) := decide_eq_decide.2 ⟨Eq.symm, Eq.symm⟩
              rw [this]
              simp [zgg, hua, *]; omega
            all_goals (refine yy ?_; conv => whnf)
            all_goals refine fin2 _ _ rfl (by simp [ziq]) ?_
            all_goals (rw [hnode]; simp [zgg, *]; try omega)
          · cases hlk : zu n m with
            | none =>
              (refine yy ?_; conv => whnf)
              repeat' ((with_reducible refine way ?_ ?_) <;> (intro h; conv => whnf))
              all_goals try (exfalso; omega)
              refine zal sI rfl rfl rfl rfl rfl rfl rfl rfl rfl (v := sI 0) (p := false) (by rw [hlk]; rfl) (by rw [hlk]; rfl) ?_
              (refine xh ?_; conv => whnf)
              (refine zy mixed rfl ?_; refine zf [] ?_; conv => whnf)
              (refine yy ?_; conv => whnf)
              exact fin2 _ _ rfl (by simp [ziq]) (by rw [hnode]; exact yab hlk)
            | some line =>
              obtain ⟨hl0, hl1⟩ := hm n line hlk
              obtain ⟨d, hd⟩ : ∃ d, c.lines[line.toNat]? = some d := ⟨c.lines[line.toNat]'(by omega), List.getElem?_eq_getElem _⟩
              (refine yy ?_; conv => whnf)
              repeat' ((with_reducible refine way ?_ ?_) <;> (intro h; conv => whnf))
              all_goals try (exfalso; omega)
              refine zal sI rfl rfl rfl rfl rfl rfl rfl rfl rfl (v := sI line) (p := true) (by rw [hlk]; rfl) (by rw [hlk]; rfl) ?_
              (refine xh ?_; conv => whnf)
              (refine zy mixed rfl ?_; refine zf [] ?_; conv => whnf)
              refine ys rfl (i := line.toNat) (by omega) (row := d.cells) (by simp [hd]) ?_
              (refine zf [] ?_; conv => whnf)
              (refine yy ?_; conv => whnf)
              have hua : zrd c.lines line u = decide (u = d.unit) := by simp only [zrd, hd]
              refine fin2 _ _ rfl (by simp [ziq]) ?_
              have : decide (d.unit = u) = decide (u = d.unit) := decide_eq_decide.2 ⟨Eq.symm, Eq.symm⟩
              rw [hnode, this]
              simp [zgg, hlk, hua, *]
          · (refine yy ?_; conv => whnf)
            repeat' ((with_reducible refine way ?_ ?_) <;> (intro h; conv => whnf))
            all_goals try (exfalso; omega)
            all_goals exact fin2 _ _ rfl (by simp [ziq]) (by rw [hnode]; simp [zgg, tN, *]; try omega)
        · rw [if_neg hop] at hnode
          (refine yy ?_; conv => whnf)
          repeat' ((with_reducible refine way ?_ ?_) <;> (intro h; conv => whnf))
          all_goals try (exfalso; omega)
          all_goals exact fin2 _ _ rfl (by simp [ziq]) hnode
  · as_aux_lemma =>
      rintro done kid rest q ha hl ⟨h1, h2, h3⟩ ih
      have hw := zj (n := done.length) (by omega)
      have hks : SizeOf.sizeOf kid < SizeOf.sizeOf ks := List.sizeOf_lt_of_mem (by rw [ha]; simp)
      have hcall := IH kid (by omega) (depth + 1) q (by omega) (by omega) (by omega) h3
      simp only [jd] at h1
      have hkup := hup.1 kid (by omega) (depth + 1) q
      obtain ⟨o1, n1, u1, d1, p1, q1⟩ := kid
      (refine yy ?_; conv => whnf)
      repeat' ((with_reducible refine way ?_ ?_) <;> (intro h; conv => whnf))
      all_goals try (exfalso; omega)
      refine zi rfl rfl  (row := (Ex.mk o1 n1 u1 d1 p1 q1).cells) (by rw [hrows]; simp [ha]) ?_
      (refine xh ?_; conv => whnf)
      rw [hwd]
      refine zav 2 rfl rfl rfl rfl rfl rfl hcall ?_
      rintro r H1 ⟨rfl, rfl⟩ _
      revert h1 hkup
      cases qd c m (.mk o1 n1 u1 d1 p1 q1) (depth + 1) q with
      | mk b q' =>
        cases b with
        | true =>
          simp only
          intro h1 hkup
          (refine xh ?_; conv => whnf)
          rw [hw]
          exact yw [1, 3, 4, 5, 7, 35, 36, 37] 4 (by rw [hH]; simp [ziq]) (by simp [ziq]) rfl (by simp [ziq, zgf]; exact ⟨rfl, rfl, rfl⟩) (ih q' ⟨h1, by simp; omega, hkup.2 trivial⟩)
        | false =>
          simp only
          intro h1 hkup
          (refine xh ?_; conv => whnf)
          refine fin _ q' rfl (by simp [ziq]) _ ?_
          rw [hstart, h1]
theorem ycj (σ:Nat->Nat) (m:List (Int × Int)):(SObj.mapI .i64 (qs sI m)).ren σ= .mapI .i64 (qs sI m):=by
 simp [SObj.ren,qs,SV.ren]
theorem zsb (c:Codex) (hcs:c.facts.length<=1000000) (m:List (Int × Int)) (hm:∀k v,zu k m=some v->0<=v/\v<c.lines.length) (e:Ex) (depth cnt:Int) (h0:0<=depth) (h1:depth<=41) (h2:0<=cnt) (h3:cnt<=400) {H:List SObj} {mi ni:Nat} (hne:mi≠ni)
  (hmi:H[mi]?=some (.mapI .i64 (qs sI m))) (hni:H[ni]?=some (.cells [sI cnt])):
  SCall Tryz.prog G 103 [c.sv,.map mi,e.sv,sI depth,.ptr ni 0] H (fun r H'=>r=sB (qd c m e depth cnt).1/\H'=H.set ni (.cells [sI (qd c m e depth cnt).2])):=by
 have hml:=lt_of_getElem? hmi;have hnl:=lt_of_getElem? hni;have hs:=zxk G c hcs m hm (SizeOf.sizeOf e+1) e (Nat.lt_succ_self _) depth cnt h0 h1 h2 h3 [];rw [List.append_nil] at hs;generalize qd c m e depth cnt=fr at hs;have hcr:∀σ,c.sv.ren σ=c.sv:=fun σ=>rfl
 have her:∀σ,e.sv.ren σ=e.sv:=fun σ=>by cases e;rfl
 have hlen2:(ziq m cnt).length=2:=rfl;have:=znz (K':=fun r H'=>r=sB fr.1/\H'=H.set ni (.cells [sI fr.2])) hs (H:=H) (fun b=>if b=0 then mi else if b=1 then ni else H.length+(b-2)) ?_ ?_ ?_ ?_ (zkt m cnt) ?_
 ·have e1:([c.sv,.map 0,e.sv,sI depth,.ptr 1 0]:List SV).map (SV.ren (fun b=>if b=0 then mi else if b=1 then ni else H.length+(b-2)))=[c.sv,.map mi,e.sv,sI depth,.ptr ni 0]:=by
   simp only [List.map_cons,List.map_nil,hcr,her];rfl
  rw [e1] at this;exact this
 ·intro b b' hb hb' h
  rw [hlen2] at hb hb';rcases (show b=0\/b=1 by omega) with rfl|rfl<;>rcases (show b'=0\/b'=1 by omega) with rfl|rfl<;>first|rfl|(exact absurd h hne)|(exact absurd h.symm hne)
 ·intro i
  simp only [hlen2];rw [if_neg (by omega),if_neg (by omega)];omega
 ·intro b o hb
  match b,hb with
  |0,hb=>
   injection hb with hb
   subst hb;rw [ycj];exact hmi
  |1,hb=>
   injection hb with hb
   subst hb;exact hni
  |b+2,hb=>simp [ziq] at hb
 ·have hcu:c.sv.under 2=true:=rfl
  have heu:e.sv.under 2=true:=by cases e;rfl
  simp only [List.all_cons,List.all_nil,hlen2,hcu,heu];rfl
 ·rintro r H1 H' ⟨H2,⟨rfl,rfl⟩,hl2,rfl⟩ hlen hl3 hsame hother
  refine ⟨rfl,?_⟩;rw [List.append_nil] at hl3 hsame hlen;have hl4:H'.length=H.length:=by
   have:(ziq m fr.2).length=2:=rfl;rw [this,hlen2] at hl3;omega
  apply List.ext_getElem?
  intro i
  by_cases hi:i=ni
  ·subst hi
   rw [List.getElem?_set_self hnl];exact hsame 1 _ rfl
  ·rw [List.getElem?_set_ne (fun h=>hi h.symm)]
   by_cases hi2:i=mi
   ·subst hi2
    have h5:=hsame 0 _ rfl;rw [ycj] at h5;exact h5.trans hmi.symm
   ·rcases Nat.lt_or_ge i H.length with hlt|hge
    ·refine hother i hlt (fun b hb h=>?_)
     rw [hlen2] at hb;rcases (show b=0\/b=1 by omega) with rfl|rfl
     ·exact hi2 h.symm
     ·exact hi h.symm
    ·rw [List.getElem?_eq_none (by omega),List.getElem?_eq_none hge]
theorem yac (c:Codex) (hcs:c.facts.length<=1000000) (m:List (Int × Int)) (hm:∀k v,zu k m=some v->0<=v/\v<c.lines.length) (e:Ex) (depth cnt:Int) (h0:0<=depth) (h1:depth<=41) (h2:0<=cnt) (h3:cnt<=400) {H:List SObj} {mi ni:Nat} (hne:mi≠ni)
  (hmi:H[mi]?=some (.mapI .i64 (qs sI m))) (hni:H[ni]?=some (.cells [sI cnt])):
  SPre Tryz.prog G 103 [c.sv,.map mi,e.sv,sI depth,.ptr ni 0] H (fun r H'=>r=sB (qd c m e depth cnt).1/\H'=H.set ni (.cells [sI (qd c m e depth cnt).2])):=by
 intro X;have hnl:=lt_of_getElem? hni;refine (zsb G c hcs m hm e depth cnt h0 h1 h2 h3 hne (H:=H++X) (by rw [List.getElem?_append_left (lt_of_getElem? hmi)];exact hmi) (by rw [List.getElem?_append_left hnl];exact hni)).mono ?_;rintro r H' ⟨rfl,rfl⟩;exact ⟨_,⟨rfl,rfl⟩,by simp,by rw [List.set_append_left _ _ hnl]⟩
theorem zua (c:Codex) (hfit:Codex.fit c) (hcs:c.facts.length<=1000000) (hls:c.lines.length<=1000000) (has:c.arts.length<=1000000):zp Tryz.prog G 63 [c.sv] (sB (zcy c)):=by
 have hlf:(c.facts.map Decl.cells).length=c.facts.length:=by simp
 have hll:(c.lines.map Decl.cells).length=c.lines.length:=by simp
 have hla:(c.arts.map Article.cells).length=c.arts.length:=by simp
 have hd1:=zjg G c.facts 0 0 (by omega);have hd2:=zjg G c.lines 1 4 (by omega);have hok0:zcy c=((js 0 0 c.facts&&decide (c.facts.length<=32))&&(js 1 4 c.lines&&decide (c.lines.length<=32))&&decide (c.arts.length<=60)&&(match qk c.lines.length c.arts [] with|some m=>c.arts.all (zqj c m)|none=>false)):=by
  unfold zcy;cases js 0 0 c.facts<;>cases js 1 4 c.lines<;>cases decide (c.facts.length<=32)<;>cases decide (c.lines.length<=32)<;>cases decide (c.arts.length<=60)<;>rfl
 generalize zcy c=ok at hok0;generalize (js 0 0 c.facts&&decide (c.facts.length<=32))=b1 at hd1 hok0;generalize (js 1 4 c.lines&&decide (c.lines.length<=32))=b2 at hd2 hok0;rw [show c.sv= .agg [.imm (zr c.facts),.imm (zr c.lines),.imm (xr c.arts)] from rfl];refine zg Tryz.func63 rfl (by rw [Tryz.ntmps63];simp) rfl rfl ?_;intro E hH hK;(refine ze ?_;conv=>whnf);refine zd rfl  hd1 ?_;cases b1 with
 |false=>
  (refine zc ?_;conv=>whnf);exact kB hK (by rw [hok0];rfl)
 |true=>
 (refine zc ?_;conv=>whnf);refine zd rfl  hd2 ?_;cases b2 with
 |false=>
  (refine zc ?_;conv=>whnf);exact kB hK (by rw [hok0];rfl)
 |true=>
 (refine zc ?_;conv=>whnf)
 repeat' ((with_reducible refine way ?_ ?_)<;>(intro h;conv=>whnf))
 ·exact kB hK (by rw [hok0,decide_eq_false (show ¬c.arts.length<=60 by omega)];rfl)
 have hok:ok=(match qk c.lines.length c.arts [] with|some m=>c.arts.all (zqj c m)|none=>false):=by
  rw [hok0,decide_eq_true (show c.arts.length<=60 by omega)];rfl
 clear hok0 hd1 hd2;refine zh [1,3,36,37,38] ?_;change SW E _ [(1,.ptr 0 0),(3,.map 1),(36,.imm (xr c.arts)),(37,sI ((c.arts.map Article.cells).length:Nat)),(38,sI (0:Nat))] [.cells [.imm (zr c.facts),.imm (zr c.lines),.imm (xr c.arts)],.mapI .i64 (qs sI [])];rw [hla];refine zo c.arts (fun i (_:List (Int × Int))=>[(1,.ptr 0 0),(3,.map 1),(36,.imm (xr c.arts)),(37,sI (c.arts.length:Nat)),(38,sI (i:Nat))])
  (fun _ m=>[.cells [.imm (zr c.facts),.imm (zr c.lines),.imm (xr c.arts)],.mapI .i64 (qs sI m)])
  (fun _ rest m=>qk c.lines.length c.arts []=qk c.lines.length rest m) [] rfl ?_ ?_
 ·rintro m h1
  simp only [qk] at h1;rw [h1] at hok;simp only at hok;obtain ⟨hm,hlines⟩:=zjd _ _ _ _ h1 (by intro k v h;simp [zu] at h);(refine ze ?_;conv=>whnf)
  repeat' ((with_reducible refine way ?_ ?_)<;>(intro h;conv=>whnf))
  all_goals try (exfalso;omega)
  refine zh [1,3,84,85,86] ?_;change SW E _ [(1,.ptr 0 0),(3,.map 1),(84,.imm (xr c.arts)),(85,sI ((c.arts.map Article.cells).length:Nat)),(86,sI (0:Nat))] [.cells [.imm (zr c.facts),.imm (zr c.lines),.imm (xr c.arts)],.mapI .i64 (qs sI m)];rw [hla];refine zo c.arts (fun i (_:Unit)=>[(1,.ptr 0 0),(3,.map 1),(84,.imm (xr c.arts)),(85,sI (c.arts.length:Nat)),(86,sI (i:Nat))])
   (fun _ _=>[.cells [.imm (zr c.facts),.imm (zr c.lines),.imm (xr c.arts)],.mapI .i64 (qs sI m)]) (fun done rest _=>ok=rest.all (zqj c m)) () hok ?_ ?_
  ·rintro _ h2
   (refine ze ?_;conv=>whnf)
   repeat' ((with_reducible refine way ?_ ?_)<;>(intro h;conv=>whnf))
   all_goals try (exfalso;omega)
   exact kB hK (by rw [h2];rfl)
  ·rintro done a rest _ ha hl h2 ih
   have hmem:a∈c.arts:=by rw [ha];simp
   have hw:=zj (n:=done.length) (by omega);obtain ⟨hun,hwh⟩:=hfit a hmem;have hline:=hlines a hmem;have hwl:(a.when_.map Ex.cells).length=a.when_.length:=by simp
   have hul:(a.unless_.map fun n=>[dI n]).length=a.unless_.length:=by simp
   obtain ⟨d,hd⟩:∃d,c.lines[a.line.toNat]?=some d:=⟨c.lines[a.line.toNat]'(by omega),List.getElem?_eq_getElem _⟩;have hlu:ztg c a.line=d.unit:=by simp only [ztg,hd]
   have hdr:(c.lines.map Decl.cells)[a.line.toNat]?=some d.cells:=by rw [List.getElem?_map,hd];rfl
   have bad:zqj c m a=false->ok=false:=fun h=>by rw [h2,List.all_cons,h];rfl
   have good:zqj c m a=true->ok=rest.all (zqj c m):=fun h=>by rw [h2,List.all_cons,h];rfl
   have hart:zqj c m a=(zgh a&&a.unless_.all (fun n=>(zu n m).isSome)&&a.when_.all (fun e=>(jg c m e tT).1)&&(jg c m a.amount d.unit).1):=by
    rw [<-hlu];rfl
   have hamt:∀{H:List SObj} {mi ni:Nat},mi≠ni->H[mi]?=some (.mapI .i64 (qs sI m))->H[ni]?=some (.cells [sI 0])->_:=fun {H mi ni} q1 q2 q3=>yac G c hcs m hm a.amount 1 0 (by omega) (by omega) (by omega) (by omega) (H:=H) (mi:=mi) (ni:=ni) q1 q2 q3
   have hday:=zfc G a.known
   have bad1:¬(0<=a.rank/\a.rank<=1000000/\0<=a.lo/\a.lo<a.hi/\a.hi<=36525/\ziz a.known=true)->ok=false:=fun h=>bad (by
    rw [hart];have:zgh a=false:=by
     cases hb:zgh a with
     |false=>rfl
     |true=>
      unfold zgh at hb;simp only [Bool.and_eq_true,decide_eq_true_eq] at hb;exact absurd ⟨by omega,by omega,by omega,by omega,by omega,by unfold ziz;simp;omega⟩ h
    rw [this];rfl)
   have good1:0<=a.rank/\a.rank<=1000000/\0<=a.lo/\a.lo<a.hi/\a.hi<=36525/\ziz a.known=true->zgh a=true:=fun h=>by
    unfold zgh;have h5:=h.2.2.2.2.2;unfold ziz at h5;simp only [decide_eq_true_eq] at h5;simp only [Bool.and_eq_true,decide_eq_true_eq];omega
   obtain ⟨op,n,u,den,ps,ks,ham⟩:∃op n u den ps ks,a.amount= .mk op n u den ps ks:=by cases h:a.amount;exact ⟨_,_,_,_,_,_,rfl⟩
   have hrow:(c.arts.map Article.cells)[done.length]?=some [dI a.number,dI a.line,dI a.rank,dI a.lo,dI a.hi,dI a.known,qi a.when_,yb a.unless_,dI op,dI n,dS u,dI den,.isl 3 (ps.map Piece.cells),.isl 6 (zm ks)]:=by
    simp [ha,Article.cells,ham,xj,Ex.op,Ex.n,Ex.unit,Ex.den,Ex.pieces,Ex.kids]
   rw [ham] at hamt hart;(refine ze ?_;conv=>whnf)
   repeat' ((with_reducible refine way ?_ ?_)<;>(intro h;conv=>whnf))
   all_goals try (exfalso;omega)
   refine zi (i:=done.length) (row:=[dI a.number,dI a.line,dI a.rank,dI a.lo,dI a.hi,dI a.known,qi a.when_,yb a.unless_,dI op,dI n,dS u,dI den,.isl 3 (ps.map Piece.cells),.isl 6 (zm ks)]) rfl rfl hrow ?_;(refine zc ?_;conv=>whnf)
   repeat' ((with_reducible refine way ?_ ?_)<;>(intro h;conv=>whnf))
   all_goals try exact kB hK (bad1 (by omega))
   refine zd rfl  hday ?_;cases hdk:ziz a.known with
   |false=>
    (refine zc ?_;conv=>whnf);exact kB hK (bad1 (fun h=>by rw [hdk] at h;exact Bool.noConfusion h.2.2.2.2.2))
   |true=>
   have good1:=good1 ⟨by omega,by omega,by omega,by omega,by omega,hdk⟩;rw [good1,Bool.true_and] at hart;clear bad1;(refine zc ?_;conv=>whnf);refine zh [1,3,9,84,85,86,122,123,124] ?_;change SW E _ [(1,.ptr 0 0),(3,.map 1),(9,.ptr 2 0),(84,.imm (xr c.arts)),(85,sI (c.arts.length:Nat)),(86,sI (done.length:Nat)),(122,.imm (yb a.unless_)),(123,sI ((a.unless_.map fun n=>[dI n]).length:Nat)),(124,sI (0:Nat))]
    [.cells [.imm (zr c.facts),.imm (zr c.lines),.imm (xr c.arts)],.mapI .i64 (qs sI m),.cells (zth a op n u den ps ks)]
   rw [hul];refine zo a.unless_ (fun i (_:Unit)=>[(1,.ptr 0 0),(3,.map 1),(9,.ptr 2 0),(84,.imm (xr c.arts)),(85,sI (c.arts.length:Nat)),(86,sI (done.length:Nat)),(122,.imm (yb a.unless_)),(123,sI (a.unless_.length:Nat)),(124,sI (i:Nat))])
    (fun _ _=>[.cells [.imm (zr c.facts),.imm (zr c.lines),.imm (xr c.arts)],.mapI .i64 (qs sI m),.cells (zth a op n u den ps ks)])
    (fun dj _ _=>dj.all (fun n=>(zu n m).isSome)=true) () rfl ?_ ?_
   ·rintro _ hu1
    rw [hu1,Bool.true_and] at hart;(refine ze ?_;conv=>whnf)
    repeat' ((with_reducible refine way ?_ ?_)<;>(intro h;conv=>whnf))
    all_goals try (exfalso;omega)
    refine zh [1,3,9,84,85,86,138,139,140] ?_;change SW E _ [(1,.ptr 0 0),(3,.map 1),(9,.ptr 2 0),(84,.imm (xr c.arts)),(85,sI (c.arts.length:Nat)),(86,sI (done.length:Nat)),(138,.imm (qi a.when_)),(139,sI ((a.when_.map Ex.cells).length:Nat)),(140,sI (0:Nat))]
     [.cells [.imm (zr c.facts),.imm (zr c.lines),.imm (xr c.arts)],.mapI .i64 (qs sI m),.cells (zth a op n u den ps ks)]
    rw [hwl];refine zo a.when_ (fun i (_:Unit)=>[(1,.ptr 0 0),(3,.map 1),(9,.ptr 2 0),(84,.imm (xr c.arts)),(85,sI (c.arts.length:Nat)),(86,sI (done.length:Nat)),(138,.imm (qi a.when_)),(139,sI (a.when_.length:Nat)),(140,sI (i:Nat))])
     (fun _ _=>[.cells [.imm (zr c.facts),.imm (zr c.lines),.imm (xr c.arts)],.mapI .i64 (qs sI m),.cells (zth a op n u den ps ks)])
     (fun dj _ _=>dj.all (fun e=>(jg c m e tT).1)=true) () rfl ?_ ?_
    ·rintro _ hw1
     rw [hw1,Bool.true_and] at hart;(refine ze ?_;conv=>whnf)
     repeat' ((with_reducible refine way ?_ ?_)<;>(intro h;conv=>whnf))
     all_goals try (exfalso;omega)
     (refine xw 0 mixed rfl ?_;refine zn [777] (nx:=4) ?_;conv=>whnf);refine wh rfl (by exact (by decide:4<=4)) (i:=a.line.toNat) (by omega) (row:=d.cells) hdr ?_;(refine zn [777,173] (nx:=4) ?_;conv=>whnf);have hwr:(jg c m (.mk op n u den ps ks) d.unit).1=if u=d.unit then (qd c m (.mk op n u den ps ks) 1 0).1 else false:=by
      unfold jg;show (if u=d.unit then _ else _:Bool × Int).1=_;split<;>rfl
     rw [hwr] at hart
     repeat' ((with_reducible refine way ?_ ?_)<;>(intro h;conv=>whnf))
     ·rw [if_pos h] at hart
      refine yoi 4 (r:=sB (qd c m (.mk op n u den ps ks) 1 0).1) (wr:=some (3,.cells [sI (qd c m (.mk op n u den ps ks) 1 0).2])) rfl rfl rfl rfl rfl rfl (by exact (by decide:4<=4)) (by exact (by decide:4<=4)) (by rintro b ob h;cases h;exact (by decide:3<4)) ((hamt (mi:=1) (ni:=3) (by decide) rfl rfl).mono ?_) ?_
      ·rintro r H1 ⟨rfl,rfl⟩;exact ⟨rfl,rfl⟩
      rw [<-hart];cases hao:zqj c m a with
      |true=>
       (refine zn [777,173] (nx:=4) ?_;conv=>whnf);refine jf ⟨sB false,[],none⟩ rfl rfl (by exact (by decide:4<=4)) (fun _ _ _=>rfl) ?_;refine qh (by kernel_rfl) ?_;(refine ze ?_;conv=>whnf);rw [hw];have hu2:([.cells [.imm (zr c.facts),.imm (zr c.lines),.imm (xr c.arts)],.mapI .i64 (qs sI m)]:List SObj).all (SObj.under 2)=true:=by simp [zgf];rfl
       exact yw [1,3,84,85,86] 2 (by simp [hH]) (by exact (by decide:2<=4)) rfl hu2 (ih () (good hao))
      |false=>
       (refine zn [777,173] (nx:=4) ?_;conv=>whnf);refine jf ⟨sB true,[],none⟩ rfl rfl (by exact (by decide:4<=4)) (fun _ _ _=>rfl) ?_;refine qh (by kernel_rfl) ?_;(refine ze ?_;conv=>whnf);exact kB hK (bad hao)
     ·rw [if_neg h] at hart
      refine jf ⟨sB true,[],none⟩ rfl rfl (by exact (by decide:4<=4)) (fun _ _ _=>rfl) ?_;refine qh (by kernel_rfl) ?_;(refine ze ?_;conv=>whnf);exact kB hK (bad hart)
    ·rintro dj e rj _ hdj hdjl hw1 ih2
     have hwj:=zj (n:=dj.length) (by omega);have hcall:∀{H:List SObj} {mi ni:Nat},mi≠ni->H[mi]?=some (.mapI .i64 (qs sI m))->H[ni]?=some (.cells [sI 0])->_:=fun {H mi ni} q1 q2 q3=>zsb G c hcs m hm e 1 0 (by omega) (by omega) (by omega) (by omega) (H:=H) (mi:=mi) (ni:=ni) q1 q2 q3
     have bad2:(jg c m e tT).1=false->ok=false:=fun h=>bad (by rw [hart,hdj,List.all_append,List.all_cons,h,Bool.false_and,Bool.and_false,Bool.false_and])
     have hrx:(a.when_.map Ex.cells)[dj.length]?=some e.cells:=by rw [hdj];simp
     have hwr:(jg c m e tT).1=if e.unit=tT then (qd c m e 1 0).1 else false:=by unfold jg;split<;>rfl
     have ih2:(jg c m e tT).1=true->_:=fun h=>ih2 () (by rw [List.all_append,hw1,List.all_cons,h];rfl)
     generalize (jg c m e tT).1=wb at bad2 hwr ih2;obtain ⟨o1,n1,u1,d1,p1,q1⟩:=e;(refine ze ?_;conv=>whnf)
     repeat' ((with_reducible refine way ?_ ?_)<;>(intro h;conv=>whnf))
     all_goals try (exfalso;omega)
     refine zi (i:=dj.length) (row:=(Ex.mk o1 n1 u1 d1 p1 q1).cells) rfl rfl hrx ?_;(refine zc ?_;conv=>whnf)
     repeat' ((with_reducible refine way ?_ ?_)<;>(intro h;conv=>whnf))
     ·refine ye rfl rfl rfl rfl rfl rfl ((hcall (mi:=1) (ni:=4) (by decide) rfl rfl).mono ?_)
      rintro r H' ⟨rfl,rfl⟩;refine ⟨by rw [List.length_set];exact Nat.le_refl _,?_⟩;rw [if_pos (show (Ex.mk o1 n1 u1 d1 p1 q1).unit=tT from h)] at hwr;rw [<-hwr];cases wb with
      |false=>
       (refine zc ?_;conv=>whnf);exact kB hK (bad2 rfl)
      |true=>
       (refine zc ?_;conv=>whnf);rw [hwj];exact yw [1,3,9,84,85,86,138,139,140] 3 (by simp [hH]) (by simp) rfl (by simp [zgf];exact ⟨rfl,rfl⟩) (ih2 rfl)
     ·rw [if_neg (fun h':(Ex.mk o1 n1 u1 d1 p1 q1).unit=tT=>h h')] at hwr
      exact kB hK (bad2 hwr)
   ·rintro dj x rj _ hdj hdjl hu1 ih2
    have hwj:=zj (n:=dj.length) (by omega);have bad2:(zu x m).isSome=false->ok=false:=fun h=>bad (by rw [hart,hdj,List.all_append,List.all_cons,h,Bool.false_and,Bool.and_false,Bool.false_and,Bool.false_and])
    have hrx:(a.unless_.map fun n=>[dI n])[dj.length]?=some [dI x]:=by rw [hdj];simp
    (refine ze ?_;conv=>whnf)
    repeat' ((with_reducible refine way ?_ ?_)<;>(intro h;conv=>whnf))
    all_goals try (exfalso;omega)
    refine zi (i:=dj.length) (row:=[dI x]) rfl rfl hrx ?_;(refine zc ?_;conv=>whnf);cases hlk:zu x m with
    |none=>
     refine zal sI rfl rfl rfl rfl rfl rfl rfl rfl rfl (v:=sI 0) (p:=false) (by rw [hlk];rfl) (by rw [hlk];rfl) ?_;(refine zc ?_;conv=>whnf);exact kB hK (bad2 (by rw [hlk];rfl))
    |some v=>
     refine zal sI rfl rfl rfl rfl rfl rfl rfl rfl rfl (v:=sI v) (p:=true) (by rw [hlk];rfl) (by rw [hlk];rfl) ?_;(refine zc ?_;conv=>whnf);rw [hwj];exact zh [1,3,9,84,85,86,122,123,124] (ih2 () (by rw [List.all_append,hu1,List.all_cons,hlk];rfl))
 ·rintro done a rest m ha hl h1 ih
  have hw:=zj (n:=done.length) (by omega);obtain ⟨op,n,u,den,ps,ks,ham⟩:∃op n u den ps ks,a.amount= .mk op n u den ps ks:=by cases h:a.amount;exact ⟨_,_,_,_,_,_,rfl⟩
  have hrow:(c.arts.map Article.cells)[done.length]?=some [dI a.number,dI a.line,dI a.rank,dI a.lo,dI a.hi,dI a.known,qi a.when_,yb a.unless_,dI op,dI n,dS u,dI den,.isl 3 (ps.map Piece.cells),.isl 6 (zm ks)]:=by
   simp [ha,Article.cells,ham,xj,Ex.op,Ex.n,Ex.unit,Ex.den,Ex.pieces,Ex.kids]
  simp only [qk] at h1;have bad:qk c.lines.length c.arts []=none->ok=false:=fun h=>by rw [hok,h]
  (refine ze ?_;conv=>whnf)
  repeat' ((with_reducible refine way ?_ ?_)<;>(intro h;conv=>whnf))
  all_goals try (exfalso;omega)
  refine zi (i:=done.length) (row:=[dI a.number,dI a.line,dI a.rank,dI a.lo,dI a.hi,dI a.known,qi a.when_,yb a.unless_,dI op,dI n,dS u,dI den,.isl 3 (ps.map Piece.cells),.isl 6 (zm ks)]) rfl rfl hrow ?_;(refine zc ?_;conv=>whnf)
  repeat' ((with_reducible refine way ?_ ?_)<;>(intro h;conv=>whnf))
  all_goals try exact kB hK (bad (by rw [h1,if_neg (by omega)]))
  rw [if_pos (by omega)] at h1;cases hlk:zu a.number m with
  |none=>
   rw [hlk] at h1;refine zal sI rfl rfl rfl rfl rfl rfl rfl rfl rfl (v:=sI 0) (p:=false) (by rw [hlk];rfl) (by rw [hlk];rfl) ?_;(refine zc ?_;conv=>whnf);refine zdg sI a.line rfl rfl rfl rfl rfl rfl rfl rfl rfl ?_;(refine zc ?_;conv=>whnf);rw [hw];exact yw [1,3,36,37,38] 2 (by simp [hH]) (by simp) rfl (by simp [zgf];rfl) (ih _ h1)
  |some l=>
   rw [hlk] at h1;refine zal sI rfl rfl rfl rfl rfl rfl rfl rfl rfl (v:=sI l) (p:=true) (by rw [hlk];rfl) (by rw [hlk];rfl) ?_;(refine zc ?_;conv=>whnf)
   repeat' ((with_reducible refine way ?_ ?_)<;>(intro h;conv=>whnf))
   ·exact kB hK (bad (by rw [h1];simp only;rw [if_neg h]))
   ·simp only at h1
    rw [if_pos (by omega)] at h1;refine zdg sI a.line rfl rfl rfl rfl rfl rfl rfl rfl rfl ?_;(refine zc ?_;conv=>whnf);rw [hw];exact yw [1,3,36,37,38] 2 (by simp [hH]) (by simp) rfl (by simp [zgf];rfl) (ih _ h1)
def zxl (prev:Option Int) (p:Fact):Bool:=
 match prev with
 |none=>true
 |some k=>decide (k<=p.known)
theorem zxm (prev:Option Int) (p:Fact) (r:List Fact):zcb prev (p::r)=(zrc p&&zxl prev p&&zcb (some p.known) r):=by
 cases prev with
 |none=>rw [zcb,zxl,Bool.and_true]
 |some k=>rw [zcb,zxl]
theorem zub (l:List Fact) (hl:l.length<=1000000000):zp Tryz.prog G 64 [.imm (qj l)] (sB (zie l)):=by
 have hlen:(l.map Fact.cells).length=l.length:=by simp
 have hok:zie l=(decide (l.length<=400)&&zcb none l):=rfl;generalize zie l=ok at hok;refine zg Tryz.func64 rfl (by rw [Tryz.ntmps64];simp) rfl rfl ?_;intro E hH hK;(refine ze ?_;conv=>whnf)
 repeat' ((with_reducible refine way ?_ ?_)<;>(intro h;conv=>whnf))
 ·exact kB hK (by rw [hok,decide_eq_false (by omega)];rfl)
 rw [decide_eq_true (by omega),Bool.true_and] at hok;refine zh [0,8,9,10] ?_;change SW E _ [(0,.imm (qj l)),(8,.imm (qj l)),(9,sI ((l.map Fact.cells).length:Nat)),(10,sI (0:Nat))] [];rw [hlen];refine zo l (fun i (_:Unit)=>[(0,.imm (qj l)),(8,.imm (qj l)),(9,sI (l.length:Nat)),(10,sI (i:Nat))]) (fun _ _=>[]) (fun done rest _=>zcb none l=zcb (zay done) rest) () rfl ?_ ?_
 ·rintro _ hv
  (refine ze ?_;conv=>whnf)
  repeat' ((with_reducible refine way ?_ ?_)<;>(intro h;conv=>whnf))
  all_goals try (exfalso;omega)
  exact kB hK (by rw [hok,hv];rfl)
 ·rintro done p rest _ hda hdl hv ih
  have hw:=zj (n:=done.length) (by omega);have hp:(l.map Fact.cells)[done.length]?=some p.cells:=by rw [hda];simp
  have hn1:=zdj G p.person;have hn2:=zdj G p.name;have hday:=zfc G p.known;rw [zxm] at hv;have bad:(zrc p&&zxl (zay done) p)=false->ok=false:=fun h=>by rw [hok,hv,h];rfl
  have good:(zrc p&&zxl (zay done) p)=true->zcb none l=zcb (zay (done++[p])) rest:=fun h=>by rw [hv,h,zhp];rfl
  have hform:zrc p=(wx p.person&&wx p.name&&decide (0<=p.lo/\p.lo<p.hi/\p.hi<=36525/\0<=p.known/\p.known<=36524/\ -1000000000000<=p.value/\p.value<=1000000000000)&&(!p.gone||decide (p.value=0))):=rfl;have hdk:ziz p.known=decide (0<=p.known/\p.known<=36524):=rfl;rw [hform] at bad good;generalize wx p.person=b1 at hn1 bad good;generalize wx p.name=b2 at hn2 bad good;generalize ziz p.known=b3 at hday hdk;have ih:=fun h=>ih () (good h)
  have hseq:(done=[]/\zxl (zay done) p=true)\/∃q:Fact,1<=done.length/\(l.map Fact.cells)[done.length-1]?=some q.cells/\zxl (zay done) p=decide (q.known<=p.known):=by
   rcases zrb done with rfl|⟨init,q,rfl⟩
   ·exact .inl ⟨rfl,rfl⟩
   ·refine .inr ⟨q,by simp,?_,by rw [zhp];rfl⟩
    rw [hda,List.length_append,List.length_cons,List.length_nil,Nat.zero_add,Nat.add_sub_cancel,List.append_assoc];simp
  have w1:IntKind.i64.wrap ((done.length:Int)-1)=((done.length:Int)-1):=ya (by omega) (by omega);generalize zxl (zay done) p=sq at bad ih hseq;(refine ze ?_;conv=>whnf)
  repeat' ((with_reducible refine way ?_ ?_)<;>(intro h;conv=>whnf))
  all_goals try (exfalso;omega)
  refine zi (i:=done.length) (row:=p.cells) rfl rfl hp ?_;(refine zc ?_;conv=>whnf);refine zy mixed rfl ?_;(refine zf [] ?_;conv=>whnf);refine yh rfl  hn1 ?_;cases b1 with
  |false=>
   (refine zf [] ?_;conv=>whnf);(refine ze ?_;conv=>whnf);exact kB hK (bad rfl)
  |true=>
  (refine zf [] ?_;conv=>whnf);refine yh rfl  hn2 ?_;cases b2 with
  |false=>
   (refine zf [] ?_;conv=>whnf);(refine ze ?_;conv=>whnf);exact kB hK (bad rfl)
  |true=>
  (refine zf [] ?_;conv=>whnf);refine yh rfl  hday ?_;cases b3 with
  |false=>
   have hdk:=of_decide_eq_false hdk.symm;(refine zf [] ?_;conv=>whnf);(refine ze ?_;conv=>whnf);exact kB hK (bad (by rw [decide_eq_false (by omega)];rfl))
  |true=>
  have hdk:=of_decide_eq_true hdk.symm;(refine zf [] ?_;conv=>whnf)
  repeat' ((with_reducible refine way ?_ ?_)<;>(intro h;conv=>whnf))
  ·rcases hseq with ⟨h0,_⟩|⟨q,hq1,hq2,hq3⟩
   ·rw [h0] at h
    exact absurd h (by decide)
   rw [w1];refine ys (i:=done.length-1) (row:=q.cells) rfl (by omega) hq2 ?_;(refine zf [] ?_;conv=>whnf);(refine ze ?_;conv=>whnf)
   repeat' ((with_reducible refine way ?_ ?_)<;>(intro h;conv=>whnf))
   all_goals try exact kB hK (bad (by rw [hq3,decide_eq_false (show ¬q.known<=p.known by omega),Bool.and_false]))
   all_goals try exact kB hK (bad (by rw [decide_eq_false (by omega)];rfl))
   all_goals try exact kB hK (bad (by rw [‹p.gone=true›,decide_eq_false ‹¬p.value=0›];simp))
   all_goals
    rw [hw];refine yw [0,8,9,10] 0 (by simp [hH]) (Nat.zero_le _) rfl rfl (ih ?_);rw [hq3,decide_eq_true (show q.known<=p.known by omega),decide_eq_true (show 0<=p.lo/\p.lo<p.hi/\p.hi<=36525/\0<=p.known/\p.known<=36524/\ -1000000000000<=p.value/\p.value<=1000000000000 by omega)]
    first|(rw [‹p.gone=false›];rfl)|(rw [decide_eq_true ‹p.value=0›];simp)
  ·rcases hseq with ⟨h0,hq3⟩|⟨q,hq1,hq2,hq3⟩
   case inr=>exact absurd (show (0:Int)<(done.length:Int) by omega) h
   (refine ze ?_;conv=>whnf)
   repeat' ((with_reducible refine way ?_ ?_)<;>(intro h;conv=>whnf))
   all_goals try exact kB hK (bad (by rw [decide_eq_false (by omega)];rfl))
   all_goals try exact kB hK (bad (by rw [‹p.gone=true›,decide_eq_false ‹¬p.value=0›];simp))
   all_goals
    rw [hw];refine yw [0,8,9,10] 0 (by simp [hH]) (Nat.zero_le _) rfl rfl (ih ?_);rw [hq3,decide_eq_true (show 0<=p.lo/\p.lo<p.hi/\p.hi<=36525/\0<=p.known/\p.known<=36524/\ -1000000000000<=p.value/\p.value<=1000000000000 by omega)]
    first|(rw [‹p.gone=false›];rfl)|(rw [decide_eq_true ‹p.value=0›];simp)
variable {G:List (Nat × D)}
theorem zxn (c:Codex) (m:List (Int × Int)) (N:Nat):(∀e:Ex,SizeOf.sizeOf e<N->zvt c m e->zaz e<=1000000->zkk e)/\(∀ks:List Ex,SizeOf.sizeOf ks<N->zti c m ks->zcc ks<=1000000->zem ks):=by
 induction N with
 |zero=>exact ⟨fun e h=>by omega,fun e h=>by omega⟩
 |succ N ih=>
  refine ⟨fun e he h hs=>?_,fun ks hk h hs=>?_⟩
  ·obtain ⟨op,n,u,den,ps,ks⟩:=e
   simp only [Ex.mk.sizeOf_spec] at he;unfold zvt at h;unfold zaz at hs;have:=yoz h.1;have h2:=zig ks;unfold zkk;exact ⟨by omega,by omega,ih.2 ks (by omega) h.2 (by omega)⟩
  ·cases ks with
   |nil=>unfold zem;trivial
   |cons k r=>
    simp only [List.cons.sizeOf_spec] at hk;unfold zti at h;unfold zcc at hs;unfold zem;exact ⟨ih.1 k (by omega) h.1 (by omega),ih.2 r (by omega) h.2 (by omega)⟩
theorem zxo:∀{ks:List Ex},(∀k∈ks,zkk k)->zem ks
 |[],_=>by unfold zem;trivial
 |k::r,h=>by unfold zem;exact ⟨h k (by simp),zxo fun x hx=>h x (by simp [hx])⟩
theorem yqa {c:Codex} (h:zcy c=true) (hfew:∀a∈c.arts,a.when_.length<=1000000/\a.unless_.length<=1000000):∃m,MFit c m:=by
 obtain ⟨_,h2,m,_,h4⟩:=zje h;refine ⟨m,by omega,fun a ha=>⟨(hfew a ha).1,zxo fun e he=>?_,(hfew a ha).2,?_⟩,fun a ha=>?_,fun a ha w hw=>?_⟩
 ·have:=(h4 a ha).2.2.1 e he
  exact (zxn c m _).1 e (Nat.lt_succ_self _) this.1 (by omega)
 ·have:=(h4 a ha).2.2.2
  exact (zxn c m _).1 a.amount (Nat.lt_succ_self _) this.1 (by omega)
 ·have:=(h4 a ha).2.2.2
  exact ⟨this.1,by omega⟩
 ·have:=(h4 a ha).2.2.1 w hw
  exact ⟨this.1,by omega⟩
theorem yqb {c:Codex} (hf:c.facts.length<=1000000) (l:List Fact) (person:ByteArray) {day:Int} (known:Int) (hd:0<=day/\day<=36524):AFit c (zba c l person day known):=
 ⟨hf,by simp [zba],by simp [zba],by simp [zba],hd⟩
theorem yad {c:Codex} {s:List Int × List Int} {i:Int} (h:∀v∈s.2,0<=v/\v<c.arts.length) (hi:0<=i/\i<c.arts.length):∀v∈(zdu s i).2,0<=v/\v<c.arts.length:=by
 intro v hv;unfold zdu at hv;simp only at hv;split at hv
 ·rcases List.mem_append.1 hv with hv|hv
  ·exact h v hv
  ·rw [List.mem_singleton] at hv
   subst hv;exact hi
 ·exact h v hv
theorem zpw {c:Codex}:∀(l:List Int) {s:List Int × List Int},(∀v∈s.2,0<=v/\v<c.arts.length)->(∀i∈l,0<=i/\i<c.arts.length)->∀v∈(l.foldl zdu s).2,0<=v/\v<c.arts.length
 |[],_,h,_=>h
 |i::l,_,h,hl=>zpw l (yad h (hl i (by simp))) (fun j hj=>hl j (by simp [hj]))
theorem zpx {c:Codex}:∀(f next:Nat) {s:List Int × List Int},(∀v∈s.2,0<=v/\v<c.arts.length)->∀v∈(zah c f next s).2,0<=v/\v<c.arts.length
 |0,_,_,h=>h
 |f+1,next,s,h=>by
  rw [zah];split
  ·exact h
  ·exact zpx f (next+1) (zpw _ h (fun i hi=>ybo hi))
theorem ymz (c:Codex):∀v∈yee c,0<=v/\v<c.arts.length:=zpx _ _ (zrg c).mem
theorem yck {k v:Int}:∀{m:List (Int × Int)} {p:Int × Int},p∈zcg k v m->p=(k,v)\/p∈m
 |[],p,h=>by simp [zcg] at h;exact .inl h
 |q::r,p,h=>by
  obtain ⟨a,b⟩:=q;rw [zcg] at h;split at h
  ·rcases List.mem_cons.1 h with h|h
   ·exact .inl h
   ·exact .inr (by simp [h])
  ·rcases List.mem_cons.1 h with h|h
   ·exact .inr (by simp [h])
   ·rcases yck h with h|h
    ·exact .inl h
    ·exact .inr (by simp [h])
theorem zxp {c:Codex} {day known:Int} {m:List (Int × Int)} {x:Article × Nat} {n:Nat} (h:∀p∈m,0<=p.2/\p.2<n) (hx:x.2<n):∀p∈zab c day known m x,0<=p.2/\p.2<n:=by
 have h2:∀p∈zcg x.1.number (x.2:Int) m,0<=p.2/\p.2<n:=fun p hp=>by
  rcases yck hp with rfl|hp
  ·simp only
   omega
  ·exact h p hp
 intro p hp;unfold zab at hp;split at hp
 ·exact h p hp
 ·split at hp
  ·exact h2 p hp
  ·split at hp
   ·split at hp
    ·exact h2 p hp
    ·exact h p hp
   ·exact h p hp
theorem zls {c:Codex} {day known:Int} {n:Nat}:∀(l:List (Article × Nat)) {m:List (Int × Int)},(∀p∈m,0<=p.2/\p.2<n)->(∀x∈l,x.2<n)->(∀p∈l.foldl (zab c day known) m,0<=p.2/\p.2<n)/\(l.foldl (zab c day known) m).length<=m.length+l.length
 |[],_,h,_=>⟨h,Nat.le_refl _⟩
 |x::l,m,h,hl=>by
  have:=zls (c:=c) (day:=day) (known:=known) l (zxp (c:=c) (day:=day) (known:=known) h (hl x (by simp))) (fun y hy=>hl y (by simp [hy]));have h2:=yby c day known m x;rw [List.foldl_cons,List.length_cons];exact ⟨this.1,by omega⟩
theorem yqc (c:Codex) (day known:Int):(∀o∈inA c day known,0<=o/\o<c.arts.length)/\(inA c day known).length<=c.arts.length:=by
 have h:=zls (c:=c) (day:=day) (known:=known) (n:=c.arts.length) c.arts.zipIdx (m:=[]) (fun p hp=>by cases hp) (fun x hx=>by
  have:=List.snd_lt_of_mem_zipIdx hx
  omega)
 refine ⟨fun o ho=>?_,?_⟩
 ·unfold inA at ho
  rw [List.mem_mergeSort] at ho;obtain ⟨p,hp,rfl⟩:=List.mem_map.1 ho;exact h.1 p hp
 ·unfold inA
  rw [List.length_mergeSort,List.length_map];have:=h.2;rw [List.length_zipIdx,List.length_nil,Nat.zero_add] at this;exact this
theorem yfm (S:AM) (U:List Bool):(zgl S U).length<=U.length:=by
 unfold zgl;refine Nat.le_trans (zos _) ?_;rw [List.length_mergeSort];exact zpa S U U.length
theorem yjy (c:Codex) (a:Article):(zih c a).length=c.facts.length:=by
 unfold zih;rw [(zen _).2 a.when_ (Nat.lt_succ_self _),(zen _).1 a.amount (Nat.lt_succ_self _),List.length_replicate]
theorem yfn (c:Codex) (inF:List Int) (st:List (Int × Int)) (a:Article):(zjf c inF st a).length<=inF.length:=List.length_filter_le _ _
def ycl (c:Codex) (S:AM) (inF:List Int) (q s:Nat):List SV:=[.imm (zr c.facts),.imm (zr c.lines),.imm (xr c.arts),sI S.day,.imm (zan S.has),.imm (yb S.vals),.imm (yb S.nums),.imm (yb inF),.map q,.map s]
theorem zjs (σ:Nat->Nat) (m:List (Int × Int)):(SObj.mapI .i64 (qs sI m)).ren σ= .mapI .i64 (qs sI m):=by
 simp [SObj.ren,qs,SV.ren]
theorem yjz {f:FuncId} {arg r0:SV} {c:Codex} {S:AM} {inF:List Int} {st am st' am':List (Int × Int)} (h:SPre Tryz.prog G f [.ptr 0 0,arg] (MH c S inF st am) (fun r H1=>r=r0/\H1=MH c S inF st' am'))
  (harg:∀σ,arg.ren σ=arg) (hau:arg.under 3=true) (hr:∀σ,r0.ren σ=r0) {H:List SObj} {p q s:Nat} (hpq:p≠q) (hps:p≠s) (hqs:q≠s)
  (hp:H[p]?=some (.cells (ycl c S inF q s))) (hq:H[q]?=some (.mapI .i64 (qs sI st))) (hs:H[s]?=some (.mapI .i64 (qs sI am))):
  SCall Tryz.prog G f [.ptr p 0,arg] H (fun r H'=>r=r0/\H'=(H.set q (.mapI .i64 (qs sI st'))).set s (.mapI .i64 (qs sI am'))):=by
 have hpl:=lt_of_getElem? hp;have hql:=lt_of_getElem? hq;have hsl:=lt_of_getElem? hs;have h0:=h [];rw [List.append_nil] at h0;have hlen:(MH c S inF st am).length=3:=rfl;have:=znz (K':=fun r H'=>r=r0/\H'=(H.set q (.mapI .i64 (qs sI st'))).set s (.mapI .i64 (qs sI am'))) h0 (H:=H) (fun i=>if i=0 then p else if i=1 then q else if i=2 then s else H.length+(i-3)) ?_ ?_ ?_ ?_ (qw c S inF st am) ?_
 ·have e1:([.ptr 0 0,arg]:List SV).map (SV.ren (fun i=>if i=0 then p else if i=1 then q else if i=2 then s else H.length+(i-3)))=[.ptr p 0,arg]:=by
   simp only [List.map_cons,List.map_nil,harg];rfl
  rw [e1] at this;exact this
 ·intro b b' hb hb' h
  rw [hlen] at hb hb';rcases (show b=0\/b=1\/b=2 by omega) with rfl|rfl|rfl<;>rcases (show b'=0\/b'=1\/b'=2 by omega) with rfl|rfl|rfl<;>
   first|rfl|(exact absurd h hpq)|(exact absurd h hps)|(exact absurd h hqs)|(exact absurd h.symm hpq)|(exact absurd h.symm hps)|(exact absurd h.symm hqs)
 ·intro i
  simp only [hlen];rw [if_neg (by omega),if_neg (by omega),if_neg (by omega)];omega
 ·intro b o hb
  match b,hb with
  |0,hb=>
   injection hb with hb
   subst hb;exact hp
  |1,hb=>
   injection hb with hb
   subst hb;rw [zjs];exact hq
  |2,hb=>
   injection hb with hb
   subst hb;rw [zjs];exact hs
  |b+3,hb=>simp [MH] at hb
 ·simp only [List.all_cons,List.all_nil,hlen,hau]
  rfl
 ·rintro r H1 H' ⟨H2,⟨rfl,rfl⟩,hl2,rfl⟩ hle hl3 hsame hother
  refine ⟨hr _,?_⟩;rw [List.append_nil] at hl3 hsame hle;have hl4:H'.length=H.length:=by
   have:(MH c S inF st' am').length=3:=rfl;rw [this,hlen] at hl3;omega
  apply List.ext_getElem?
  intro i
  by_cases his:i=s
  ·subst his
   rw [List.getElem?_set_self (by rw [List.length_set];exact hsl)];have:=hsame 2 _ rfl;rw [zjs] at this;exact this
  ·rw [List.getElem?_set_ne (fun h=>his h.symm)]
   by_cases hiq:i=q
   ·subst hiq
    rw [List.getElem?_set_self hql];have:=hsame 1 _ rfl;rw [zjs] at this;exact this
   ·rw [List.getElem?_set_ne (fun h=>hiq h.symm)]
    by_cases hip:i=p
    ·subst hip
     have:=hsame 0 _ rfl;exact this.trans hp.symm
    ·rcases Nat.lt_or_ge i H.length with hlt|hge
     ·refine hother i hlt (fun b hb h=>?_)
      rw [hlen] at hb;rcases (show b=0\/b=1\/b=2 by omega) with rfl|rfl|rfl
      ·exact hip h.symm
      ·exact hiq h.symm
      ·exact his h.symm
     ·rw [List.getElem?_eq_none (by omega),List.getElem?_eq_none hge]
variable (G:List (Nat × D))
def yqm (x:Ln):SV:=.agg (lnC x)
def zuc (c:Codex) (line:Ln) (S:AM) (inF:List Int) (st am:List (Int × Int)):List SObj:=
 [zbd c,.cells (lnC line),zbd c,.mapI .i64 (qs sI st),.mapI .i64 (qs sI am),.cells (ycl c S inF 3 4),.dead,.dead,.dead]
theorem yka {c:Codex} {S:AM} {inF:List Int} {s:List (Int × Int) × List (Int × Int)} {line:Ln} (h:∀o∈inF,¬(o=line.art/\(zu o s.1).getD 0=2)):zfh c S inF s line=false:=by
 unfold zfh;split
 ·rw [if_neg]
  rintro ⟨h1,h2⟩;exact h _ h1 ⟨rfl,h2⟩
 ·rfl
theorem yae (c : Codex) (hfit : Codex.fit c) (hcs : c.facts.length <= 1000000) (hls : c.lines.length <= 1000000) (has : c.arts.length <= 1000000) (hfew : ∀ a ∈ c.arts, a.when_.length <= 1000000 /\ a.unless_.length <= 1000000)
    (l : List Fact) (hl : l.length <= 1000000) (person : ByteArray) (known : Int) (line : Ln) : zp Tryz.prog G 19 [c.sv, .imm (qj l), sS person, sI known, yqm line] (sB (zce c l person known line)) := by
  have hvc := zua G c hfit hcs hls has
  have hvf := zub G l (by omega)
  have hd1 := zfc G line.day
  have hd2 := zfc G known
  have hrep : zce c l person known line = (zcy c && zie l && ziz line.day && ziz known && decide ((yee c).length = c.arts.length) &&
      zfh c (zba c l person line.day known) (inA c line.day known) (yrj c (zba c l person line.day known) (inA c line.day known) (yee c)) line) := by
    unfold zce ziz
    simp only [Bool.decide_and]
  rw [hrep]
  clear hrep
  refine zg Tryz.func19 rfl (by rw [Tryz.ntmps19]; simp) rfl rfl ?_; intro E hH hK
  rw [show yqm line = .agg [sI line.day, sI line.line, sI line.art, sI line.amount, .imm (yb line.facts), .imm (yb line.rests)] from rfl]
  by_cases hc : zcy c = true
  case neg =>
    rw [Bool.not_eq_true] at hc
    rw [hc] at hvc hK
    (refine ze ?_; conv => whnf)
    refine zd rfl  hvc ?_
    (refine zc ?_; conv => whnf)
    exact hK _
  rw [hc] at hvc hK
  by_cases hf : zie l = true
  case neg =>
    rw [Bool.not_eq_true] at hf
    rw [hf] at hvf hK
    (refine ze ?_; conv => whnf)
    refine zd rfl  hvc ?_
    (refine zc ?_; conv => whnf)
    refine zd rfl  hvf ?_
    (refine zc ?_; conv => whnf)
    exact hK _
  rw [hf] at hvf hK
  by_cases hld : ziz line.day = true
  case neg =>
    rw [Bool.not_eq_true] at hld
    rw [hld] at hd1 hK
    (refine ze ?_; conv => whnf)
    refine zd rfl  hvc ?_
    (refine zc ?_; conv => whnf)
    refine zd rfl  hvf ?_
    (refine zc ?_; conv => whnf)
    refine zd rfl  hd1 ?_
    (refine zc ?_; conv => whnf)
    exact hK _
  rw [hld] at hd1 hK
  by_cases hkd : ziz known = true
  case neg =>
    rw [Bool.not_eq_true] at hkd
    rw [hkd] at hd2 hK
    (refine ze ?_; conv => whnf)
    refine zd rfl  hvc ?_
    (refine zc ?_; conv => whnf)
    refine zd rfl  hvf ?_
    (refine zc ?_; conv => whnf)
    refine zd rfl  hd1 ?_
    (refine zc ?_; conv => whnf)
    refine zd rfl  hd2 ?_
    (refine zc ?_; conv => whnf)
    exact hK _
  rw [hkd] at hd2 hK
  have hday : 0 <= line.day /\ line.day <= 36524 := of_decide_eq_true hld
  obtain ⟨hc1, hc2, _, _, _⟩ := zje hc
  obtain ⟨m, hM⟩ := yqa hc hfew
  have hseq := zor G c hM.fit hM.arts
  (refine ze ?_; conv => whnf)
  refine zd rfl  hvc ?_
  (refine zc ?_; conv => whnf)
  refine zd rfl  hvf ?_
  (refine zc ?_; conv => whnf)
  refine zd rfl  hd1 ?_
  (refine zc ?_; conv => whnf)
  refine zd rfl  hd2 ?_
  (refine zc ?_; conv => whnf)
  refine zd rfl  hseq ?_
  by_cases hsl : (yee c).length = c.arts.length
  case neg =>
    rw [decide_eq_false hsl] at hK ⊢
    (refine zc ?_; conv => whnf)
    exact hK _
  rw [decide_eq_true hsl] at hK ⊢
  have hS := yqb (c := c) hcs l person known hday
  have hnew := zoz G c l person line.day known (by omega) hl hM.arts
  have hSd : (zba c l person line.day known).day = line.day := rfl
  obtain ⟨hin, hil⟩ := yqc c line.day known
  have hsm := ymz c
  have hK : ∀ H', E.K (sB (zfh c (zba c l person line.day known) (inA c line.day known) (yrj c (zba c l person line.day known) (inA c line.day known) (yee c)) line)) H' := hK
  generalize zba c l person line.day known = S at hS hnew hSd hK
  generalize inA c line.day known = inF at hin hil hnew hK
  generalize yee c = sq at hsl hsm hK ⊢
  have hrun := ymk (G := G) hS hM inF sq hin (by omega) hsm (by omega) [] []
  have hra : yrj c S inF sq = sq.foldl (zql c S inF) ([], []) := rfl
  rw [hra] at hK
  clear hra
  generalize sq.foldl (zql c S inF) ([], []) = T at hrun hK
  obtain ⟨st, am⟩ := T
  simp only at hrun
  have hnew2 : SCall Tryz.prog G 67 [c.sv, .imm (qj l), sS person, sI line.day, sI known] [zbd c, .cells (lnC line)] (fun r H' => r = .ptr 5 0 /\ H' = zuc c line S inF [] []) := by
    refine SCall.mono (zic hnew [zbd c, .cells (lnC line)]) ?_
    rintro r H' ⟨r1, H1, ⟨rfl, rfl⟩, rfl, rfl⟩
    exact ⟨rfl, rfl⟩
  have hrun2 := yjz hrun (fun σ => rfl) rfl (fun σ => rfl) (H := zuc c line S inF [] []) (p := 5) (q := 3) (s := 4) (by decide) (by decide) (by decide) rfl rfl rfl
  have hcall : ∀ (a : Article), c.arts[line.art.toNat]? = some a -> 0 <= line.art -> SCall Tryz.prog G 69 [.ptr 5 0, sI line.art] (zuc c line S inF st am) (fun r H' => r = yqm (zol c S inF (st, am) line.art a) /\ H' = zuc c line S inF st am) := fun a ha h0 => by
    have := yjz (yiq (G := G) hS hM inF hin (by omega) st am h0 ha) (fun σ => rfl) rfl (fun σ => rfl) (H := zuc c line S inF st am) (p := 5) (q := 3) (s := 4) (by decide) (by decide) (by decide) rfl rfl rfl
    exact this
  clear hnew hrun
  (refine zc ?_; conv => whnf)
  refine ye rfl rfl rfl rfl rfl rfl (hnew2.mono ?_)
  rintro r9 H9 ⟨rfl, rfl⟩
  refine ⟨by show 2 <= 9; decide, ?_⟩
  (refine zc ?_; conv => whnf)
  refine ye rfl rfl rfl rfl rfl rfl (hrun2.mono ?_)
  rintro r9 H9 ⟨rfl, rfl⟩
  refine ⟨by show 9 <= 9; decide, ?_⟩
  refine (fun (hs : ∀ H2, H2 = zuc c line S inF st am -> SWr E _ _ _ _ H2) => hs _ rfl) ?_
  rintro _ rfl
  have hifl : (inF.map fun n => [dI n]).length = inF.length := by simp
  (refine zc ?_; conv => whnf)
  refine zh [9, 13, 56, 57, 58] ?_
  change SW E _ [(9, .ptr 1 0), (13, .ptr 5 0), (56, .imm (yb inF)), (57, sI ((inF.map fun n => [dI n]).length : Nat)), (58, sI (0 : Nat))] (zuc c line S inF st am)
  rw [hifl]
  refine zo inF (fun i (_ : Unit) => [(9, .ptr 1 0), (13, .ptr 5 0), (56, .imm (yb inF)), (57, sI (inF.length : Nat)), (58, sI (i : Nat))]) (fun _ _ => zuc c line S inF st am)
    (fun done _ _ => ∀ o ∈ done, ¬ (o = line.art /\ (zu o st).getD 0 = 2)) () (fun o ho => by cases ho) ?_ ?_
  · rintro _ hn
    rw [yka (s := (st, am)) hn] at hK
    (refine ze ?_; conv => whnf)
    repeat' ((with_reducible refine way ?_ ?_) <;> (intro h; conv => whnf))
    all_goals try (exfalso; omega)
    exact hK _
  · rintro done o rest _ hda hdl hn ih
    have hom : o ∈ inF := by rw [hda]; simp
    have hor := hin o hom
    have hw := zj (n := done.length) (by omega)
    have hro : (inF.map fun n => [dI n])[done.length]? = some [dI o] := by rw [hda]; simp
    have hlk : ((zu o st).map sI).getD (qq (.int .i64 0)) = sI ((zu o st).getD 0) := by cases zu o st <;> rfl
    have ih := fun (h : ¬ (o = line.art /\ (zu o st).getD 0 = 2)) => ih () (fun x hx => by
      rcases List.mem_append.1 hx with hx | hx
      · exact hn x hx
      · rw [List.mem_singleton] at hx
        subst hx
        exact h)
    have hans : o = line.art -> (zu o st).getD 0 = 2 -> ∀ a, c.arts[line.art.toNat]? = some a -> zfh c S inF (st, am) line = ybn (zol c S inF (st, am) line.art a) line := fun h1 h2 a ha => by
      have hat : zcd c line.art = some a := by unfold zcd; rw [if_neg (by omega)]; exact ha
      unfold zfh
      rw [hat]
      exact if_pos ⟨h1 ▸ hom, h1 ▸ h2⟩
    generalize hx : (zu o st).getD 0 = x at hlk ih hans
    change SW E _ [(9, .ptr 1 0), (13, .ptr 5 0), (56, .imm (yb inF)), (57, sI (inF.length : Nat)), (58, sI (done.length : Nat))] (zuc c line S inF st am)
    (refine ze ?_; conv => whnf)
    repeat' ((with_reducible refine way ?_ ?_) <;> (intro h; conv => whnf))
    all_goals try (exfalso; omega)
    refine zi (i := done.length) (row := [dI o]) rfl rfl hro ?_
    (refine zk [777, 72] 1000 ?_; conv => whnf)
    repeat' ((with_reducible refine way ?_ ?_) <;> (intro h; conv => whnf))
    · subst h
      refine zix (l := st) (v := sI x) sI rfl rfl rfl rfl rfl rfl rfl rfl rfl hlk ?_
      (refine zc ?_; conv => whnf)
      repeat' ((with_reducible refine way ?_ ?_) <;> (intro h; conv => whnf))
      · rw [hw]
        exact zh [9, 13, 56, 57, 58] (ih fun y => absurd y.2 ‹¬ x = 2›)
      · obtain ⟨a, ha⟩ : ∃ a, c.arts[line.art.toNat]? = some a := ⟨_, List.getElem?_eq_getElem (by omega)⟩
        have ham := List.mem_of_getElem? ha
        rw [hans rfl ‹x = 2› a ha] at hK
        have hcl := hcall a ha (by omega)
        have hf1 := yfm S (zih c a)
        rw [yjy] at hf1
        have hr1 := yfn c inF st a
        have e1 : ybn (zol c S inF (st, am) line.art a) line = (decide (a.line = line.line) && decide ((zu a.number am).getD 0 = line.amount) && decide (zgl S (zih c a) = line.facts) && decide (zjf c inF st a = line.rests)) := rfl
        rw [e1] at hK
        have hs1 : yqm (zol c S inF (st, am) line.art a) = .agg [sI S.day, sI a.line, sI line.art, sI ((zu a.number am).getD 0), .imm (yb (zgl S (zih c a))), .imm (yb (zjf c inF st a))] := rfl
        rw [hs1] at hcl
        have q1 := zhq G (zgl S (zih c a)) line.facts (by omega)
        have q2 := zhq G (zjf c inF st a) line.rests (by omega)
        generalize zgl S (zih c a) = F at hcl hK q1
        generalize zjf c inF st a = R at hcl hK q2
        generalize (zu a.number am).getD 0 = amt at hcl hK
        generalize decide (F = line.facts) = z1 at hK q1
        generalize decide (R = line.rests) = z2 at hK q2
        refine ye rfl rfl rfl rfl rfl rfl (hcl.mono ?_)
        rintro r9 H9 ⟨rfl, rfl⟩
        refine ⟨Nat.le_refl _, ?_⟩
        (refine zc ?_; conv => whnf)
        repeat' ((with_reducible refine way ?_ ?_) <;> (intro h; conv => whnf))
        · rw [decide_eq_true ‹a.line = line.line›, decide_eq_true ‹amt = line.amount›, Bool.true_and, Bool.true_and] at hK
          refine zd rfl  q1 ?_
          cases z1 with
          | false =>
            (refine zc ?_; conv => whnf)
            exact hK _
          | true =>
          (refine zc ?_; conv => whnf)
          refine zd rfl  q2 ?_
          (refine zc ?_; conv => whnf)
          exact hK _
        · rw [decide_eq_false ‹¬ amt = line.amount›, Bool.and_false] at hK
          exact hK _
        · rw [decide_eq_false ‹¬ a.line = line.line›] at hK
          exact hK _
    · rw [hw]
      exact zh [9, 13, 56, 57, 58] (ih fun y => absurd y.1 ‹¬ o = line.art›)
end Go.Proofs.YtjnddlifnkgncaaGreatDoor
namespace Go.Sh
variable {P:Program} {G:List (Nat × D)}
theorem yfo {f:FuncId} {args args':List SV} {r:SV} (h:zp P G f args' r) (ha:SIs args args'):zp P G f args r:=fun H w I β vs hH hv=>
 h H w I β vs hH ⟨by rw [hv.len,ha.len],fun j v s h1 h2=>by
  have hj:j<args'.length:=by
   rcases Nat.lt_or_ge j args'.length with h|h
   ·exact h
   ·rw [List.getElem?_eq_none h] at h2
    cases h2
  have hj':j<args.length:=by rw [ha.len];exact hj
  rw [List.getElem?_eq_getElem hj] at h2;cases h2
  exact ha.get j hj' hj w I β v (hv.rep j v _ h1 (List.getElem?_eq_getElem hj'))⟩
end Go.Sh
namespace Go.Proofs.YtjnddlifnkgncaaGreatDoor
open Go Go.Sh
theorem ykb {l:List Nat} (h:∀x∈l,x<18446744073709551616) (i:Nat):l.getD i 0<18446744073709551616:=by
 rw [List.getD_eq_getElem?_getD];cases hg:l[i]? with
 |none=>exact (by decide:(0:Nat)<18446744073709551616)
 |some x=>exact h x (List.mem_of_getElem? hg)
theorem ykc:∀(rs:List (List Nat)) (i:Nat),(∀r∈rs,∀x∈r,x<18446744073709551616)->(pth rs i).length<=rs.length/\∀x∈pth rs i,x.sib<18446744073709551616
 |[],_,_=>⟨Nat.le_refl _,fun x hx=>by cases hx⟩
 |r::rs,i,h=>by
  obtain ⟨h1,h2⟩:=ykc rs (i / 2) (fun r hr=>h r (by simp [hr]));have h3:(zgq r i).length<=1/\∀x∈zgq r i,x.sib<18446744073709551616:=by
   unfold zgq;split
   ·refine ⟨Nat.le_refl _,fun x hx=>?_⟩
    rw [List.mem_singleton] at hx;subst hx;exact ykb (h r (by simp)) _
   ·split
    ·refine ⟨Nat.le_refl _,fun x hx=>?_⟩
     rw [List.mem_singleton] at hx;subst hx;exact ykb (h r (by simp)) _
    ·exact ⟨Nat.zero_le _,fun x hx=>by cases hx⟩
  rw [pth];refine ⟨by rw [List.length_append,List.length_cons];omega,fun x hx=>?_⟩;rcases List.mem_append.1 hx with hx|hx
  ·exact h3.2 x hx
  ·exact h2 x hx
theorem zsc:∀(f:Nat) (r:List Nat),(wt f r).length<=f+1
 |0,_=>Nat.le_refl _
 |f+1,r=>by
  rw [wt];split
  ·have:=zsc f (zbg r)
   rw [List.length_cons];omega
  ·rw [List.length_singleton]
   omega
theorem zxq (l:List ByteArray) (i:Nat):(zhe l i).length<=1025/\∀x∈zhe l i,x.sib<18446744073709551616:=by
 have h1:=zsc 1024 (l.map zap)
 have h2:=ykc (wt 1024 (l.map zap)) i (zpm 1024 _ (fun x hx=>by
  obtain ⟨y,_,rfl⟩:=List.mem_map.1 hx
  exact zaa _))
 rw [zxe];exact ⟨by omega,h2.2⟩
theorem yfp (seed:ByteArray) (i:Int) (text:ByteArray):∀x∈chainsN seed i text,x<18446744073709551616:=by
 intro x hx;unfold chainsN at hx;obtain ⟨k,_,rfl⟩:=List.mem_map.1 hx;exact zwv (zaa _) _
theorem zxr {s:Slip} (hg:SlipGood s) (hr:∀r∈s.rows,r.label.size<=100000/\r.reason.size<=100000) (hp:s.person.size<=1000) {sel:List Int} (hsel:zep s.rows.length none sel=true) (hsl:sel.length<=1000000) (seed:ByteArray) (h i:Nat):DFit (showN s sel seed h i) where
 person:=Nat.le_trans hp (by decide)
 root:=by
  show s.root<_;rw [<-hg.root];exact ztw _
 commit:=by
  show (zin s.rows s.blinds).length<=_;rw [zmn _ _ hg.blinds];exact Nat.le_trans hg.rows.2 (by decide)
 shown:=by
  show (sel.map (showRow s)).length<=_;rw [List.length_map];exact Nat.le_trans hsl (by decide)
 row:=fun x hx=>by
  obtain ⟨k,hk,rfl⟩:=List.mem_map.1 (show x∈sel.map (showRow s) from hx);have hkr:=(zgz _ _ _ hsel).2.1 k hk;have hlt:k.toNat<s.rows.length:=by omega
  have hmem:s.rows.getD k.toNat ⟨⟨#[]⟩,0,⟨#[]⟩⟩∈s.rows:=by
   rw [List.getD_eq_getElem?_getD,List.getElem?_eq_getElem hlt];exact List.getElem_mem hlt
  have h1:=hr _ hmem;have h2:=zxq (qm s.rows s.blinds) k.toNat;exact ⟨Nat.le_trans h1.1 (by decide),Nat.le_trans h1.2 (by decide),Nat.le_trans h2.1 (by decide),h2.2⟩
 chains:=yfp _ _ _
 path:=by
  have h2:=zxq (leavesN seed h) i;exact ⟨Nat.le_trans h2.1 (by decide),h2.2⟩
def yaf:ByteArray:=⟨#[115,101,101,100]⟩
theorem zir:SlipGood shSlip:=⟨by kernel_rfl,by decide,by decide,rfl,by decide,by decide,rfl⟩
theorem zpy:∀r∈shSlip.rows,r.label.size<=100000/\r.reason.size<=100000:=by decide
def zjt (amount:Int) (fs:List Int):Ln:=⟨8770,0,0,amount,fs,[]⟩
theorem yry:zce offC yfu yft 8771 (zjt 9600 [1])=true:=by rw [zer];kernel_rfl
theorem yqd:zce offC yfu yft 8771 (zjt 9601 [1])=false:=by rw [zer];kernel_rfl
theorem yqe:zce offC yfu yft 8771 (zjt 9600 [])=false:=by rw [zer];kernel_rfl
theorem yna:zce offC yfu yft 8770 (zjt 9600 [1])=false:=by rw [zer];kernel_rfl
theorem yrz:zce offC yfu ytb 8771 (zjt 9600 [1])=false:=by rw [zer];kernel_rfl
theorem ynb:Codex.fit offC:=fun a ha=>by
 rw [show offC.arts=[_] from rfl,List.mem_singleton] at ha;subst ha;exact ⟨Nat.zero_le _,Nat.zero_le _⟩
theorem ykd (person:ByteArray) (known:Int) (l:Ln) (b:Bool) (h:zce offC yfu person known l=b):zp Tryz.prog G37 19 [offC.sv,.imm (qj yfu),sS person,sI known,yqm l] (sB b):=by
 have:=yae G37 offC ynb (by decide) (by decide) (by decide) (by decide) yfu (by decide) person known l;rw [h] at this;exact this
theorem ycm:zp Tryz.prog G37 9 [] (sB true):=by
 have hsel:zep shSlip.rows.length none [0]=true:=by decide
 have hsum: -500000000<=yz (shSlip.rows.map Rw.cents) (zfu shSlip.rows.length [0])/\yz (shSlip.rows.map Rw.cents) (zfu shSlip.rows.length [0])<=500000000:=by decide
 have hok:=yjs zir hsel yaf (h:=1) (i:=1) (by decide) (by decide) hsum;have hfit:=zxr zir zpy (by decide) hsel (by decide) yaf 1 1;have c1:=yca yaf 1 (by decide) (by decide);have c2:=yez;have c3:=yji shSlip zir zpy (by decide) [0] hsel (by decide) yaf 1 1 (by decide) (by decide) (by decide) hsum;have hhid:(showN shSlip [0] yaf 1 1).hidden=30000:=by
  show yz (shSlip.rows.map Rw.cents) (zfu shSlip.rows.length [0])=30000;decide
 generalize showN shSlip [0] yaf 1 1=d at hok hfit c3 hhid;generalize keyN yaf 1=key at hok c1;generalize shSlip=ss at c2 c3;have hbad:accOK key 1 {d with hidden:=29999}=false:=ztz hok (by rw [hhid];decide);have hzero:accOK key 0 d=false:=ymx hok (by decide);have a1:=zff zdw key 1 d hfit;have a2:=zff zdw key 1 {d with hidden:=29999} ⟨hfit.person,hfit.root,hfit.commit,hfit.shown,hfit.row,hfit.chains,hfit.path⟩;have a3:=zff zdw key 0 d hfit;have hok:accOK key 1 d=true:=hok;rw [hok] at a1;rw [hbad] at a2;rw [hzero] at a3;obtain ⟨person,month,root,commit,shown,hidden,blind,⟨index,chains,path⟩⟩:=d;simp only at hhid;subst hhid;clear hok hbad hzero hfit hsel hsum;have c4:=zzr G37;have nilR:SIs (lnC (zjt 9600 [1])) (lnC (zjt 9600 [1])):=.cons (SV.Is.refl _) (.cons (SV.Is.refl _) (.cons (SV.Is.refl _) (.cons (SV.Is.refl _) (.cons (SV.Is.refl _) (.cons (SV.Is.refl _) .nil)))));have isL:∀(am:Int) (fd:D) (fs:List Int),(SV.imm fd).Is (.imm (yb fs))->(SV.agg [sI 8770,sI 0,sI 0,sI am,.imm fd,.imm ykl]).Is (yqm (zjt am fs)):=fun am fd fs h=>
  SIs.agg (.cons (SV.Is.refl _) (.cons (SV.Is.refl _) (.cons (SV.Is.refl _) (.cons (SV.Is.refl _) (.cons h (.cons (SV.Is.nil 1) .nil))))))
 have rp:∀(person:ByteArray) (known am:Int) (fd:D) (fs:List Int) (b:Bool),(SV.imm fd).Is (.imm (yb fs))->zce offC yfu person known (zjt am fs)=b->
   zp Tryz.prog G37 19 [offC.sv,.imm (qj yfu),sS person,sI known,.agg [sI 8770,sI 0,sI 0,sI am,.imm fd,.imm ykl]] (sB b):=fun person known am fd fs b h1 h2=>
  yfo (ykd person known _ b h2) (.cons (SV.Is.refl _) (.cons (SV.Is.refl _) (.cons (SV.Is.refl _) (.cons (SV.Is.refl _) (.cons (isL am fd fs h1) .nil)))))
 have r1:=rp yft 8771 9600 (yb [1]) [1] true (SV.Is.refl _) yry;have r2:=rp yft 8771 9601 (yb [1]) [1] false (SV.Is.refl _) yqd;have r3:=rp yft 8771 9600 ykl [] false (SV.Is.nil 1) yqe;have r4:=rp yft 8770 9600 (yb [1]) [1] false (SV.Is.refl _) yna;have r5:=rp ytb 8771 9600 (yb [1]) [1] false (SV.Is.refl _) yrz;clear rp isL nilR;refine zg Tryz.func9 rfl (by rw [Tryz.ntmps9];simp) rfl rfl ?_;intro E hH hK;(refine ze ?_;conv=>whnf);refine zd rfl  c1 ?_;(refine zc ?_;conv=>whnf);refine zd rfl  c2 ?_;(refine zc ?_;conv=>whnf);refine zd rfl  c3 ?_;(refine zc ?_;conv=>whnf);refine zd rfl  c4 ?_;(refine zc ?_;conv=>whnf);(refine xw 2 mixed rfl ?_;refine zn [] (nx:=4) ?_;conv=>whnf);(refine ze ?_;conv=>whnf);refine zd rfl  a1 ?_;(refine zc ?_;conv=>whnf);refine zd rfl  a2 ?_;(refine zc ?_;conv=>whnf);refine zd rfl  a3 ?_;(refine zc ?_;conv=>whnf);refine zd rfl  r1 ?_;(refine zc ?_;conv=>whnf);refine zd rfl  r2 ?_;(refine zc ?_;conv=>whnf);refine zd rfl  r3 ?_;(refine zc ?_;conv=>whnf);refine zd rfl  r4 ?_;(refine zc ?_;conv=>whnf);refine zd rfl  r5 ?_;(refine zc ?_;conv=>whnf);exact hK _
def qx (r:Rw):Bool:=decide (r.label.size<=60)&&decide (r.reason.size<=400)
def jx (s:Slip):Bool:=decide (s.rows.length<=40)&&decide (s.blinds.length<=49)&&decide (s.person.size<=40)&&s.rows.all qx
theorem zxs (G:List (Nat × D)) (s:Slip) (hn:s.rows.length<=1000000000000000):zp Tryz.prog G 36 [s.sv,sI 40] (sB (jx s)):=by
 have bad:¬(s.rows.length<=40/\s.blinds.length<=49/\s.person.size<=40)->jx s=false:=fun h=>by
  cases hb:jx s with
  |false=>rfl
  |true=>
   unfold jx at hb;simp only [Bool.and_eq_true,decide_eq_true_eq] at hb;exact absurd ⟨hb.1.1.1,hb.1.1.2,hb.1.2⟩ h
 have good:s.rows.length<=40/\s.blinds.length<=49/\s.person.size<=40->jx s=s.rows.all qx:=fun h=>by
  unfold jx;rw [decide_eq_true h.1,decide_eq_true h.2.1,decide_eq_true h.2.2];rfl
 generalize jx s=ok at bad good;obtain ⟨person,month,rows,blinds,root⟩:=s;simp only at hn bad good;have hml:(rows.map Rw.cells).length=rows.length:=by simp
 have hbl:(blinds.map fun (n:Int)=>[dI n]).length=blinds.length:=by simp
 show zp Tryz.prog G 36 [.agg [sS person,sI month,.imm (zfs rows),.imm (yf blinds),yx root],sI 40] (sB ok);refine zg Tryz.func36 rfl (by rw [Tryz.ntmps36];simp) rfl rfl ?_;intro E hH hK;(refine ze ?_;conv=>whnf)
 repeat' ((with_reducible refine way ?_ ?_)<;>(intro h;conv=>whnf))
 ·rw [bad (by omega)] at hK
  exact hK _
 ·rename_i h1 h2
  have w49:IntKind.i64.wrap (40+9)=49:=rfl;rw [w49] at h2;rw [good ⟨by omega,by omega,by omega⟩] at hK;clear bad good h1 h2 h;refine zh [2,5] ?_;change SW E _ [(2,.ptr 0 0),(5,sI (0:Nat))] [.cells [sS person,sI month,.imm (zfs rows),.imm (yf blinds),yx root]];refine zo rows (fun j (_:Bool)=>[(2,.ptr 0 0),(5,sI (j:Nat))]) (fun _ _=>[.cells [sS person,sI month,.imm (zfs rows),.imm (yf blinds),yx root]]) (fun _ rest _=>rows.all qx=rest.all qx) true rfl ?_ ?_
  ·rintro _ h1
   have h1:rows.all qx=true:=h1;rw [h1] at hK;(refine ze ?_;conv=>whnf)
   repeat' ((with_reducible refine way ?_ ?_)<;>(intro h;conv=>whnf))
   all_goals try (exfalso;omega)
   exact hK _
  ·rintro done r rest _ hda hdl h1 ih
   have hrow:(rows.map Rw.cells)[done.length]?=some r.cells:=by rw [hda];simp
   have wnx:IntKind.i64.wrap ((done.length:Int)+1)=((done.length+1:Nat):Int):=zj (by omega);have h1:rows.all qx=(r::rest).all qx:=h1;rw [List.all_cons] at h1;have hbad:qx r=false->rows.all qx=false:=fun h=>by rw [h1,h,Bool.false_and]
   have hgood:qx r=true->rows.all qx=rest.all qx:=fun h=>by rw [h1,h,Bool.true_and]
   have hnx:=fun h=>ih true (hgood h)
   clear h1 ih hgood;unfold qx at hbad hnx;obtain ⟨la,ce,re⟩:=r;simp only [Bool.and_eq_true,decide_eq_true_eq] at hbad hnx
   have hbad:¬(la.size<=60/\re.size<=400)->rows.all qx=false:=fun h=>hbad (by
    cases hb:decide (la.size<=60)&&decide (re.size<=400) with
    |false=>rfl
    |true=>
     simp only [Bool.and_eq_true,decide_eq_true_eq] at hb
     exact absurd hb h)
   (refine ze ?_;conv=>whnf)
   repeat' ((with_reducible refine way ?_ ?_)<;>(intro h;conv=>whnf))
   all_goals try (exfalso;omega)
   refine zi (i:=done.length) (row:=[jq la,dI ce,jq re]) rfl rfl hrow ?_;(refine zc ?_;conv=>whnf)
   repeat' ((with_reducible refine way ?_ ?_)<;>(intro h;conv=>whnf))
   ·refine zi (i:=done.length) (row:=[jq la,dI ce,jq re]) rfl rfl hrow ?_
    (refine zc ?_;conv=>whnf)
    repeat' ((with_reducible refine way ?_ ?_)<;>(intro h;conv=>whnf))
    ·rw [hbad (by omega)] at hK
     exact hK _
    ·rw [wnx]
     refine zh [2,5] ?_;exact hnx ⟨by omega,by omega⟩
   ·rw [hbad (by omega)] at hK
    exact hK _
 ·have w49:IntKind.i64.wrap (40+9)=49:=rfl
  rw [w49] at h;rw [bad (by omega)] at hK;exact hK _
 ·rw [bad (by omega)] at hK
  exact hK _
def zmo (s:Slip) (seed:ByteArray) (h:Int):Bool:=jx s&&decide (seed.size<=64)&&decide (0<=h)&&decide (h<=2)
theorem zud (G:List (Nat × D)) (s:Slip) (hn:s.rows.length<=1000000000000000) (seed:ByteArray) (h:Int):zp Tryz.prog G 10 [s.sv,sS seed,sI h] (sB (zmo s seed h)):=by
 have c1:=zxs G s hn;unfold zmo;generalize jx s=ok at c1;obtain ⟨person,month,rows,blinds,root⟩:=s;refine zg Tryz.func10 rfl (by rw [Tryz.ntmps10];simp) rfl rfl ?_;intro E hH hK;(refine ze ?_;conv=>whnf);refine zd rfl  c1 ?_;cases ok with
 |false=>
  (refine zc ?_;conv=>whnf);exact kB hK rfl
 |true=>
  (refine zc ?_;conv=>whnf)
  repeat' ((with_reducible refine way ?_ ?_)<;>(intro h;conv=>whnf))
  all_goals (refine kB hK ?_;rw [Bool.eq_iff_iff];simp only [Bool.and_eq_true,Bool.true_and,decide_eq_true_eq,Bool.false_eq_true,iff_false,iff_true];omega)
theorem complLaw_spec (s:Slip) (hs:s.rows.length<=1000000000000000) (sel:List Int) (hsl:sel.length<=1000000000000000) (seed:ByteArray) (height i:Int):
  zp Tryz.prog G37 3 [s.sv,.imm (yf sel),sS seed,sI height,sI i] (sB true):=by
 have c1:=zud G37 s hs seed height;have hml:(sel.map fun (n:Int)=>[dI n]).length=sel.length:=by simp
 cases hu:zmo s seed height with
 |false=>
  rw [hu] at c1;obtain ⟨person,month,rows,blinds,root⟩:=s;refine zg Tryz.func3 rfl (by rw [Tryz.ntmps3];simp) rfl rfl ?_;intro E hH hK;(refine ze ?_;conv=>whnf);refine zd rfl  ycm ?_;(refine zc ?_;conv=>whnf);refine zd rfl  c1 ?_;(refine zc ?_;conv=>whnf);exact hK _
 |true=>
  rw [hu] at c1;unfold zmo jx at hu;simp only [Bool.and_eq_true,decide_eq_true_eq,List.all_eq_true] at hu;obtain ⟨⟨⟨⟨⟨⟨u1,u2⟩,u3⟩,u4⟩,u5⟩,u6⟩,u7⟩:=hu;obtain ⟨n,rfl⟩:∃n:Nat,height=n:=⟨height.toNat,by omega⟩;have hr:∀r∈s.rows,r.label.size<=100000/\r.reason.size<=100000:=fun r h=>by
   have:=u4 r h;unfold qx at this;simp only [Bool.and_eq_true,decide_eq_true_eq] at this;omega
  have c2:=yca seed n u5 (by omega)
  by_cases h60:60<sel.length
  ·obtain ⟨person,month,rows,blinds,root⟩:=s
   refine zg Tryz.func3 rfl (by rw [Tryz.ntmps3];simp) rfl rfl ?_;intro E hH hK;(refine ze ?_;conv=>whnf);refine zd rfl  ycm ?_;(refine zc ?_;conv=>whnf);refine zd rfl  c1 ?_;(refine zc ?_;conv=>whnf)
   repeat' ((with_reducible refine way ?_ ?_)<;>(intro h;conv=>whnf))
   all_goals try (exfalso;omega)
   exact hK _
  ·have err:∀e:Nat,¬e=0->zp Tryz.prog G37 11 [s.sv,.imm (yf sel),sS seed,sI n,sI i] (yqk e)->
     zp Tryz.prog G37 3 [s.sv,.imm (yf sel),sS seed,sI n,sI i] (sB true):=fun e he c3=>by
    clear hr u4;obtain ⟨person,month,rows,blinds,root⟩:=s;refine zg Tryz.func3 rfl (by rw [Tryz.ntmps3];simp) rfl rfl ?_;intro E hH hK;(refine ze ?_;conv=>whnf);refine zd rfl  ycm ?_;(refine zc ?_;conv=>whnf);refine zd rfl  c1 ?_;(refine zc ?_;conv=>whnf)
    repeat' ((with_reducible refine way ?_ ?_)<;>(intro h;conv=>whnf))
    all_goals try (exfalso;omega)
    refine zd rfl  c3 ?_;(refine zc ?_;conv=>whnf);refine zd rfl  c2 ?_;(refine zc ?_;conv=>whnf)
    repeat' ((with_reducible refine way ?_ ?_)<;>(intro h;conv=>whnf))
    all_goals try (exfalso;omega)
    exact hK _
   by_cases hgood:SlipGood s/\zep s.rows.length none sel=true
   ·obtain ⟨hg,hsel⟩:=hgood
    by_cases hi:0<=i/\i<(2 ^ n:Nat)
    ·by_cases hsum: -500000000<=yz (s.rows.map Rw.cents) (zfu s.rows.length sel)/\yz (s.rows.map Rw.cents) (zfu s.rows.length sel)<=500000000
     ·have c3:=ztx s hg hr (by omega) sel hsel (by omega) seed n i u5 (by omega) (.tup [(showN s sel seed n i.toNat).sv,sI (0:Nat)]) (fun h=>absurd hi h) (fun _ h=>absurd hsum h) (fun _ _=>rfl)
      have hok:=yjs hg hsel seed (h:=n) (i:=i.toNat) (by omega) (by omega) hsum;have hfit:=zxr hg hr (by omega) hsel (by omega) seed n i.toNat;generalize showN s sel seed n i.toNat=d at c3 hok hfit;have c4:=zff zdw (keyN seed n) n d hfit;rw [hok] at c4;generalize keyN seed n=key at c2 c4;clear err hok hfit hr u4 hg hsum;obtain ⟨person,month,rows,blinds,root⟩:=s;obtain ⟨person',month',root',commit',shown',hidden',blind',⟨index',chains',path'⟩⟩:=d;refine zg Tryz.func3 rfl (by rw [Tryz.ntmps3];simp) rfl rfl ?_;intro E hH hK;(refine ze ?_;conv=>whnf);refine zd rfl  ycm ?_;(refine zc ?_;conv=>whnf);refine zd rfl  c1 ?_;(refine zc ?_;conv=>whnf)
      repeat' ((with_reducible refine way ?_ ?_)<;>(intro h;conv=>whnf))
      all_goals try (exfalso;omega)
      refine zd rfl  c3 ?_;(refine zc ?_;conv=>whnf);refine zd rfl  c2 ?_;(refine zc ?_;conv=>whnf);refine zd rfl  c4 ?_;(refine zc ?_;conv=>whnf);exact hK _
     ·exact err 3 (by decide) (ztx s hg hr (by omega) sel hsel (by omega) seed n i u5 (by omega) (yqk 3) (fun h=>absurd hi h) (fun _ _=>rfl) (fun _ h=>absurd h hsum))
    ·exact err 1 (by decide) (ztx s hg hr (by omega) sel hsel (by omega) seed n i u5 (by omega) (yqk 1) (fun _=>rfl) (fun h _=>absurd h hi) (fun h _=>absurd h hi))
   ·exact err 1 (by decide) (ymq s hr (by omega) (by omega) sel (by omega) seed n i hgood)
end Go.Proofs.YtjnddlifnkgncaaGreatDoor