/- Contracts of functions of the program, joined from TUf, TTl, TTr, TSh60, TSh62, TTq: no condition. -/
import Derived.Test.YtjnddlifnkgncaaGreatDoorCF6
set_option linter.unusedSimpArgs false
set_option linter.unusedVariables false
set_option maxRecDepth 10000
set_option maxHeartbeats 8000000
namespace Go.Proofs.YtjnddlifnkgncaaGreatDoor
open Go Go.Sh
variable (G:List (Nat × D))
theorem yaw {n m:Nat} (hn:n<1073741789) (hm:m<1073741789):(IntKind.i64.wrap (IntKind.i64.wrap ((n:Int)-m)+1073741789)).tmod 1073741789=(((n+1073741789-m) % 1073741789:Nat):Int):=by
 rw [zt (c:=(n:Int)-m) (by omega) (by omega),zt (by omega) (by omega),Int.tmod_eq_emod_of_nonneg (by omega)];omega
theorem ywf {q n:Nat} (h:0<q):yny q n<q:=Nat.mod_lt _ h
theorem ysp {n r m s:Nat} (hn:n<1073741789) (hm:m<1073741789) (hr:r<1073741789) (hs:s<1073741789) (h:4 ^ n*9 ^ r % 2147483579=4 ^ m*9 ^ s % 2147483579) (hne:n≠m):
  ∃x:Int,zq Tryz.prog G 17 [sI n,sI r,sI m,sI s] (.tup [sI x,sB true]):=by
 obtain ⟨hrs,hl⟩:=yvm zrh elm4 elm9 yzj hn hm hr hs h hne;have hD:=yaw hn hm;have hE:=yaw hs hr;have hE1:(s+1073741789-r) % 1073741789<1073741789:=Nat.mod_lt _ (by decide);have hD1:(n+1073741789-m) % 1073741789<1073741789:=Nat.mod_lt _ (by decide);generalize (n+1073741789-m) % 1073741789=D0 at hD hl hD1;generalize (s+1073741789-r) % 1073741789=E0 at hE hl hE1;have c1:=yso G E0 hE1;have hI:yny 1073741789 E0<1073741789:=ywf (by decide);generalize yny 1073741789 E0=I at c1 hl hI;have hmul:D0*I<9223372036854775808:=Nat.lt_of_le_of_lt (Nat.mul_le_mul (Nat.le_of_lt hD1) (Nat.le_of_lt hI)) (by decide);have w1:(IntKind.i64.wrap ((D0:Int)*(I:Int))).tmod 1073741789=((D0*I % 1073741789:Nat):Int):=by
  rw [zt (by rw [<-Int.natCast_mul];omega) (by rw [<-Int.natCast_mul];omega),Int.tmod_eq_emod_of_nonneg (by rw [<-Int.natCast_mul];omega)];rfl
 have hx:D0*I % 1073741789<1073741789:=Nat.mod_lt _ (by decide);generalize D0*I % 1073741789=X at w1 hl hx;have c2:=ypd G 4 X (by decide) (by omega);have h9:zlm 4 X=9:=by
  rw [zgv (by omega)];exact hl
 rw [h9] at c2;refine ⟨X,?_⟩;clear h hl h9 hmul;refine zh Tryz.func17 rfl (by rw [Tryz.ntmps17];simp) rfl rfl ?_;intro E hH hK;(refine ze ?_;conv=>whnf)
 repeat' ((with_reducible refine way ?_ ?_)<;>(intro h;conv=>whnf))
 all_goals try (exfalso;omega)
 rw [hD,hE];refine zd rfl  c1 ?_;(refine zc ?_;conv=>whnf);rw [w1];refine zd rfl  c2 ?_;(refine zc ?_;conv=>whnf);exact hK _
theorem zll (label:ByteArray) (c:Nat) (reason:ByteArray) (h1:label.size<=1000000000000000) (h2:reason.size<=1000000000000000) (h3:c<=1000000000000000000):
  zq Tryz.prog G 77 [sS label,sI c,sS reason] (sS (qk label c reason)):=by
 have c1:=zdu G (label.size+1) label.size (by omega) (by omega);have c2:=zdu G (c+1) c (by omega) h3;have z1:=xh (label.size:Int) (by omega) (by omega);have z2:=xh (c:Int) (by omega) (by omega);unfold qk;generalize wu (label.size:Int)=s1 at*;generalize wu (c:Int)=s2 at*;refine zh Tryz.func77 rfl (by rw [Tryz.ntmps77];simp) rfl rfl ?_;intro E hH hK;(refine ze ?_;conv=>whnf);refine zd rfl  c1 ?_;refine wx rfl rfl rfl rfl rfl (by show s1.size+1<=_;omega) ?_;(refine zj [777,12] 1000 ?_;conv=>whnf);refine wx rfl rfl rfl rfl rfl (by simp only [ByteArray.size_append];show s1.size+1+label.size<=_;omega) ?_;(refine zj [777,15] 1000 ?_;conv=>whnf);refine zd rfl  c2 ?_;refine wx rfl rfl rfl rfl rfl (by simp only [ByteArray.size_append];show s1.size+1+label.size+s2.size<=_;omega) ?_;refine wx rfl rfl rfl rfl rfl (by simp only [ByteArray.size_append];show s1.size+1+label.size+s2.size+1<=_;omega) ?_;(refine zj [777,18] 1000 ?_;conv=>whnf);refine wx rfl rfl rfl rfl rfl (by simp only [ByteArray.size_append];show s1.size+1+label.size+s2.size+1+reason.size<=_;omega) ?_;(refine zc ?_;conv=>whnf);exact hK _
theorem zry (la:ByteArray) (c:Nat) (re:ByteArray) (h1:la.size<=140737488351232) (h2:re.size<=140737488351232) (h3:c<=9000000000000000000):(qk la c re).size<=1000000000000000:=by
 have z1:=xh (la.size:Int) (by omega) (by omega);have z2:=xh (c:Int) (by omega) (by omega);unfold qk;simp only [ByteArray.size_append];show (wu la.size).size+1+la.size+(wu c).size+1+re.size<=_;omega
structure ShwFit (s:Shw):Prop where
 label:s.label.size<=140737488351232
 reason:s.reason.size<=140737488351232
structure RowFact (a:Disc) (x:Shw) (k:Nat):Prop where
 idx:x.index=k
 lt:k<a.commit.length
 com:a.commit.getD k 0=(zkn x.cents x.blind:Nat)
 cents: -500000000<=x.cents/\x.cents<=500000000
 blind:0<=x.blind/\x.blind<1073741789
 climb:climb 12 a.commit.length k x.path (qs (qk x.label (zkn x.cents x.blind:Nat) x.reason))=some a.root
theorem ype {a:Disc} {x:Shw} (h:RowIn a x):∃k,RowFact a x k:=by
 obtain ⟨h1,h2⟩:=h.idx;have h3:=h.opens;unfold xl at h3;rw [Bool.and_eq_true,zbc,decide_eq_true_eq] at h3;obtain ⟨⟨c1,c2,b1,b2⟩,e⟩:=h3;have h4:=(zjx h.leads).2.2.2.2;rw [e,Int.toNat_natCast] at h4;exact ⟨x.index.toNat,by omega,by omega,e,⟨c1,c2⟩,⟨b1,b2⟩,h4⟩
theorem zwu {a b:Disc} {x y:Shw} (ha:RowIn a x) (hb:RowIn b y) (hroot:a.root=b.root) (hlen:a.commit.length=b.commit.length) (hidx:x.index=y.index) (hne:¬(x.label=y.label/\x.cents=y.cents/\x.reason=y.reason)) (hl1:1<=a.commit.length/\a.commit.length<=1024)
  (fx:ShwFit x) (fy:ShwFit y):zq Tryz.prog G 22 [a.sv,b.sv,.agg (x.cells.map .imm),.agg (y.cells.map .imm)] (sB true):=by
 obtain ⟨k,ra⟩:=ype ha;obtain ⟨k',rb⟩:=ype hb;have hk:k'=k:=by have:=ra.idx;have:=rb.idx;omega
 subst hk;clear ha hb;have lx:=ydk x.cents x.blind;have ly:=ydk y.cents y.blind;have d1:=zll G x.label (zkn x.cents x.blind) x.reason (Nat.le_trans fx.label (by decide)) (Nat.le_trans fx.reason (by decide)) (by omega);have d2:=zll G y.label (zkn y.cents y.blind) y.reason (Nat.le_trans fy.label (by decide)) (Nat.le_trans fy.reason (by decide)) (by omega);have s1:=zry x.label (zkn x.cents x.blind) x.reason fx.label fx.reason (by omega);have s2:=zry y.label (zkn y.cents y.blind) y.reason fy.label fy.reason (by omega);have r1:(a.commit.map fun (n:Int)=>[dI n])[k']?=some [dI (zkn x.cents x.blind:Nat)]:=by
  rw [List.getElem?_map, <-ra.com,List.getD_eq_getElem?_getD,List.getElem?_eq_getElem ra.lt];rfl
 have r2:(b.commit.map fun (n:Int)=>[dI n])[k']?=some [dI (zkn y.cents y.blind:Nat)]:=by
  rw [List.getElem?_map, <-rb.com,List.getD_eq_getElem?_getD,List.getElem?_eq_getElem rb.lt];rfl
 have hcol:qk x.label (zkn x.cents x.blind:Nat) x.reason≠qk y.label (zkn y.cents y.blind:Nat) y.reason->_:=fun h=>
  zsr G (size:=a.commit.length) (idx:=k') (root:=a.root) hl1 ra.lt s1 s2 h ra.climb (by rw [hlen,hroot];exact rb.climb)
 have hlog:qk x.label (zkn x.cents x.blind:Nat) x.reason=qk y.label (zkn y.cents y.blind:Nat) y.reason->∃z:Int,zq Tryz.prog G 17 [sI (ziq x.cents),sI x.blind,sI (ziq y.cents),sI y.blind] (.tup [sI z,sB true]):=fun h=>by
  obtain ⟨e1,e2,e3⟩:=yod (Nat.le_trans fx.label (by decide)) (Nat.le_trans fy.label (by decide)) ⟨by omega,by omega⟩ ⟨by omega,by omega⟩ h;have e2:=Int.ofNat_inj.1 e2;rw [zgb _ _ ra.blind.2,zgb _ _ rb.blind.2] at e2;have hv:ziq x.cents≠ziq y.cents:=fun hv=>hne ⟨e1,ygg ra.cents rb.cents hv,e3⟩
  have hbx:=ra.blind;have hby:=rb.blind;obtain ⟨z,hz⟩:=ysp G (zri x.cents) (zri y.cents) (r:=x.blind.toNat) (s:=y.blind.toNat) (by omega) (by omega) e2 hv;rw [show ((x.blind.toNat:Nat):Int)=x.blind by omega,show ((y.blind.toNat:Nat):Int)=y.blind by omega] at hz;exact ⟨z,hz⟩
 have v1:=zrx G x.cents;have v2:=zrx G y.cents;have i1:=ra.idx;have i2:=rb.idx;have hml:(a.commit.map fun (n:Int)=>[dI n]).length=a.commit.length:=by simp
 clear ra rb hne s1 s2 lx ly;generalize qk x.label (zkn x.cents x.blind:Nat) x.reason=p at d1 hcol hlog;generalize qk y.label (zkn y.cents y.blind:Nat) y.reason=q at d2 hcol hlog;generalize zkn x.cents x.blind=cx at d1 r1;generalize zkn y.cents y.blind=cy at d2 r2;generalize ziq x.cents=vx at v1 hlog;generalize ziq y.cents=vy at v2 hlog;obtain ⟨person,month,root,commit,shown,hidden,blind,⟨index,chains,path⟩⟩:=a;obtain ⟨person',month',root',commit',shown',hidden',blind',⟨index',chains',path'⟩⟩:=b;obtain ⟨xi,xla,xce,xre,xbl,xpa⟩:=x;obtain ⟨yi,yla,yce,yre,ybl,ypa⟩:=y;simp only at i1 i2 r1 r2 hcol hml;subst i1 i2;rw [<-hml] at hcol;refine zh Tryz.func22 rfl (by rw [Tryz.ntmps22];simp) rfl rfl ?_;intro E hH hK;(refine ze ?_;conv=>whnf);refine zi (i:=k') (row:=[dI cx]) rfl rfl r1 ?_;(refine zc ?_;conv=>whnf);(refine yc mixed rfl ?_;refine zf [] ?_;conv=>whnf);refine ym rfl  d1 ?_;(refine zf [] ?_;conv=>whnf);refine yx (i:=k') (row:=[dI cy]) rfl rfl r2 ?_;(refine zf [] ?_;conv=>whnf);refine ym rfl  d2 ?_;(refine zf [] ?_;conv=>whnf);(refine ze ?_;conv=>whnf)
 repeat' ((with_reducible refine way ?_ ?_)<;>(intro h;conv=>whnf))
 ·obtain ⟨u,v,huv,hh,su,sv,cc⟩:=hcol h
  have z1:=zak G u (by omega);have z2:=zak G v (by omega);rw [hh] at z1;generalize qi v=cv at z1 z2;clear hcol hlog hh su sv;refine zd rfl  cc ?_;(refine zc ?_;conv=>whnf)
  repeat' ((with_reducible refine way ?_ ?_)<;>(intro h;conv=>whnf))
  ·refine zd rfl  z1 ?_
   (refine zc ?_;conv=>whnf);refine zd rfl  z2 ?_;(refine zj [777,74] 1000 ?_;conv=>whnf);refine qy (r:=sB true) rfl rfl (show some (SV.imm (.val (.bool (decide ((cv:Int)=(cv:Int))))),_)=_ from by rw [decide_eq_true rfl]) (Nat.le_refl _) ?_;(refine zc ?_;conv=>whnf);exact hK _
  ·exact absurd h huv
 ·obtain ⟨z,hz⟩:=hlog h
  clear hcol hlog;(refine yc mixed rfl ?_;refine zf [] ?_;conv=>whnf);refine ym rfl  v1 ?_;(refine zf [] ?_;conv=>whnf);refine ym rfl  v2 ?_;(refine zf [] ?_;conv=>whnf);refine ym rfl  hz ?_;(refine zf [] ?_;conv=>whnf);(refine ze ?_;conv=>whnf);exact hK _
theorem ytp {x y:Shw} (h:(!(decide (x.label=y.label)&&(decide (x.cents=y.cents)&&decide (x.reason=y.reason))))=true):¬(x.label=y.label/\x.cents=y.cents/\x.reason=y.reason):=by
 rintro ⟨h1,h2,h3⟩;rw [decide_eq_true h1,decide_eq_true h2,decide_eq_true h3] at h;exact absurd h (by decide)
section
variable {key:Nat} {height:Int} {d:Disc} {n:Int} {text:ByteArray} {k sq:Int} {pre post:List Shw} {s z:Shw}
theorem ysq (hd:DFit d) (fd:∀s∈d.shown,ShwFit s) (hac:accOK key height d=true) (hsh:d.shown=pre++s::post) (hne:n≠s.cents):
  SPre Tryz.prog G37 23 [.fn (.func 28) [] [.ptr 3 0,.ptr 7 0],.ptr 2 0,.ptr 0 0,.ptr 1 0] [.cells [yg key],.cells [sI height],d.box,.cells [sI n],.cells [sS text],.cells [sI k],.cells [sI sq],.cells [sI (pre.length:Nat)]]
   (fun r H=>r=sB true/\H=[.cells [yg key],.cells [sI height],d.box,.cells [sI n],.cells [sS text],.cells [sI k],.cells [sI sq],.cells [sI (pre.length:Nat)]]):=by
 have hs:=fd s (by rw [hsh];simp);have:=yap key height d n text k sq pre post s hsh (zka hac).2 (zbt hac) (zrr hd hsh ⟨Nat.le_trans hs.label (by decide),Nat.le_trans hs.reason (by decide),rfl⟩);rw [ydz hac hsh hne] at this;exact this
theorem yee (hd:DFit d) (fd:∀s∈d.shown,ShwFit s) (hac:accOK key height d=true) (hsh:d.shown=pre++s::post) (hne:n≠s.blind):
  SPre Tryz.prog G37 23 [.fn (.func 29) [] [.ptr 3 0,.ptr 7 0],.ptr 2 0,.ptr 0 0,.ptr 1 0] [.cells [yg key],.cells [sI height],d.box,.cells [sI n],.cells [sS text],.cells [sI k],.cells [sI sq],.cells [sI (pre.length:Nat)]]
   (fun r H=>r=sB true/\H=[.cells [yg key],.cells [sI height],d.box,.cells [sI n],.cells [sS text],.cells [sI k],.cells [sI sq],.cells [sI (pre.length:Nat)]]):=by
 have hs:=fd s (by rw [hsh];simp);have:=zrq key height d n text k sq pre post s hsh (zka hac).2 (zbt hac) (zrr hd hsh ⟨Nat.le_trans hs.label (by decide),Nat.le_trans hs.reason (by decide),rfl⟩);rw [yar hac hsh hne] at this;exact this
theorem ywg (hd:DFit d) (hac:accOK key height d=true) (hsh:d.shown=pre++s::post):
  SPre Tryz.prog G37 23 [.fn (.func 30) [] [.ptr 2 0],.ptr 2 0,.ptr 0 0,.ptr 1 0] [.cells [yg key],.cells [sI height],d.box]
   (fun r H=>r=sB true/\H=[.cells [yg key],.cells [sI height],d.box]):=by
 have:=ydx key height d (zka hac).2 (zbt hac) (ysj hd);rw [ydp hac (s:=s) (by rw [hsh];simp) (ywa hd.root)] at this;exact this
theorem yyc (hd:DFit d) (fd:∀s∈d.shown,ShwFit s) (hac:accOK key height d=true) (hsh:d.shown=pre++s::post) (hl:z.label.size<=140737488351232) (hr:z.reason.size<=140737488351232) (hi:z.index=s.index) (hp:z.path=s.path) (hne:¬(z.label=s.label/\z.cents=s.cents/\z.reason=s.reason)):
  ∃o:Bool,SPre Tryz.prog G37 23 [.fn (.func 33) [] [.ptr 10 0,.ptr 7 0],.ptr 2 0,.ptr 0 0,.ptr 1 0] [.cells [yg key],.cells [sI height],d.box,.cells [sI n],.cells [sS text],.cells [sI k],.cells [sI sq],.cells [sI (pre.length:Nat)],.cells (s.cells.map .imm),.cells [.fn (.func 31) [] [.ptr 4 0],.fn (.func 32) [] [.ptr 4 0]],.cells (z.cells.map .imm)]
   (fun r H=>r=sB o/\H=[.cells [yg key],.cells [sI height],d.box,.cells [sI n],.cells [sS text],.cells [sI k],.cells [sI sq],.cells [sI (pre.length:Nat)],.cells (s.cells.map .imm),.cells [.fn (.func 31) [] [.ptr 4 0],.fn (.func 32) [] [.ptr 4 0]],.cells (z.cells.map .imm)])
   /\(o=false->zq Tryz.prog G37 22 [d.sv,d.sv,.agg (s.cells.map .imm),.agg (z.cells.map .imm)] (sB true)):=by
 have hs:=fd s (by rw [hsh];simp);refine ⟨_,yju key height d n text k sq pre post s z hsh (zka hac).2 (zbt hac) (zrr hd hsh ⟨Nat.le_trans hl (by decide),Nat.le_trans hr (by decide),hp⟩),fun ho=>?_⟩;have ho:accOK key height {d with shown:=pre++z::post}=true:=by
  revert ho
  cases accOK key height {d with shown:=pre++z::post}<;>simp
 exact zwu G37 (zdv hac (s:=s) (by rw [hsh];simp)) (yya ho) rfl rfl hi.symm (fun h=>hne ⟨h.1.symm,h.2.1.symm,h.2.2.symm⟩) (zka hac) hs ⟨hl,hr⟩
end
end Go.Proofs.YtjnddlifnkgncaaGreatDoor
namespace Go.Sh
section
variable {P:Program} {w:World}
theorem xad (a b:ByteArray):(a==b)=decide (a=b):=by
 cases h:decide (a=b) with
 |true=>rw [of_decide_eq_true h];exact beq_self_eq_true _
 |false=>
  rw [decide_eq_false_iff_not] at h;cases hb:(a==b) with
  |false=>rfl
  |true=>exact absurd (eq_of_beq hb) h
theorem zhr {d:Nat} {t:TypeId} {a b:ByteArray} (hu:P.underlying t=some .string):(Op.equalIn (d+1) t (.string a) (.string b)).run P w= .ok (decide (a=b)) w:=by
 simp only [Op.equalIn,Sem.run_bind,run_underlying hu,Result.andThen_ok,Sem.run_pure,xad]
theorem zeg {t:TypeId} {cs:Array Value} {off:Nat} {v:Value} (hu:P.underlying t=some .string) (hv:cs[off]?=some v):(part t cs off).run P w= .ok v w:=by
 simp only [part,isAgg,Sem.run_bind,run_underlying hu,Result.andThen_ok,Sem.run_pure,hv];rfl
theorem zwv {t:TypeId} {f0 f1 f2:Field} {k1:IntKind} {a c a' c':ByteArray} {b b':Int} {y:IntKind} (hu:P.underlying t=some (.struct #[f0,f1,f2])) (hs:P.stoodInHeld t=false)
  (hn0:f0.name≠ "_") (hn1:f1.name≠ "_") (hn2:f2.name≠ "_") (ho0:f0.offset=0) (ho1:f1.offset=1) (ho2:f2.offset=2)
  (hi0:P.underlying f0.type=some .string) (hi1:P.underlying f1.type=some (.int k1)) (hi2:P.underlying f2.type=some .string):
  (Op.equal t (.agg #[.string a,.int y b,.string c]) (.agg #[.string a',.int y b',.string c'])).run P w= .ok (decide (a=a')&&(decide (b=b')&&decide (c=c'))) w:=by
 show (Op.equalIn (9998+1+1) t _ _).run P w=_;generalize 9998=n;rw [Op.equalIn];simp only [Sem.run_bind,run_underlying hu,Result.andThen_ok]
 simp [hs,hn0,hn1,hn2,ho0,ho1,ho2,zeg hi0 (cs:=#[.string a,.int y b,.string c]) (off:=0) rfl,zeg hi0 (cs:=#[.string a',.int y b',.string c']) (off:=0) rfl,
  jk hi1 (cs:=#[.string a,.int y b,.string c]) (off:=1) rfl,jk hi1 (cs:=#[.string a',.int y b',.string c']) (off:=1) rfl,
  zeg hi2 (cs:=#[.string a,.int y b,.string c]) (off:=2) rfl,zeg hi2 (cs:=#[.string a',.int y b',.string c']) (off:=2) rfl,zhr hi0,zbo hi1,zhr hi2,program,znw]
 by_cases h1:a=a'<;>by_cases h2:b=b'<;>by_cases h3:c=c'<;>simp [h1,h2,h3]
end
section
variable {P:Program} {G:List (Nat × D)} {fn:Func} {rd:Bool} {E:En P G fn rd} {t:List (Nat × SV)} {H:List SObj} {k:List Item}
variable {all:Array Oper} {o:Oper} {rest:List Oper}
theorem ypf {w:World} {I:Imm} {β:List Bnd} {v:Value} {a c:ByteArray} {b:Int} (h:Rep w I β v (.agg [.imm (.val (.string a)),.imm (.val (.int .i64 b)),.imm (.val (.string c))])):v= .agg #[.string a,.int .i64 b,.string c]:=by
 cases h with
 |agg vs _ h1 h2=>
  have key:∀(j:Nat) (h:j<vs.size) (x:Value) (hj:[SV.imm (.val (.string a)),SV.imm (.val (.int .i64 b)),SV.imm (.val (.string c))][j]?=some (.imm (.val x))),vs[j]=x:=by
   intro j h x hj;have h3:=h2 j (by rw [<-h1];exact h) h;rw [List.getElem?_eq_getElem (by rw [<-h1];exact h)] at hj;rw [Option.some.inj hj] at h3;generalize vs[j]=v at h3;cases h3 with|imm h3=>cases h3;rfl
  have hs:vs.size=3:=by simpa using h1
  congr 1
  apply Array.ext (by simp [hs])
  intro i hi1 hi2;have:i=0\/i=1\/i=2:=by omega
  rcases this with rfl|rfl|rfl
  ·exact key 0 hi1 _ rfl
  ·exact key 1 hi1 _ rfl
  ·exact key 2 hi1 _ rfl
theorem znk {ty ty':TypeId} {x y:Operand} {f0 f1 f2:Field} {k1:IntKind} {a c a' c':ByteArray} {b b':Int} (hop:o.op= .binOp .neq ty x y ty')
  (hx:zl G t x= .agg [.imm (.val (.string a)),.imm (.val (.int .i64 b)),.imm (.val (.string c))]) (hy:zl G t y= .agg [.imm (.val (.string a')),.imm (.val (.int .i64 b')),.imm (.val (.string c'))])
  (hu:P.underlying ty=some (.struct #[f0,f1,f2])) (hs:P.stoodInHeld ty=false) (hn0:f0.name≠ "_") (hn1:f1.name≠ "_") (hn2:f2.name≠ "_") (ho0:f0.offset=0) (ho1:f1.offset=1) (ho2:f2.offset=2)
  (hi0:P.underlying f0.type=some .string) (hi1:P.underlying f1.type=some (.int k1)) (hi2:P.underlying f2.type=some .string) (hg:P.eqGuardType P.depth ty=false):
  yqo P G t o (.imm (.val (.bool (!(decide (a=a')&&(decide (b=b')&&decide (c=c'))))))):=by
 intro ρ w I β hev;have hrx:=hev x (by rw [hop];simp [Op.operands]);rw [hx] at hrx;have hry:=hev y (by rw [hop];simp [Op.operands]);rw [hy] at hry;have ex:=ypf hrx;have ey:=ypf hry;obtain ⟨dst,op,type,pos,after,guard⟩:=o;simp only at hop;subst hop;refine ⟨.bool (!(decide (a=a')&&(decide (b=b')&&decide (c=c')))),?_,.imm (.val _)⟩;simp only [execOp];rw [ex,ey];have hgd:(eqGuard .neq ty x y (.agg #[.string a,.int .i64 b,.string c]) (.agg #[.string a',.int .i64 b',.string c'])).run P w= .ok () w:=by
  simp [eqGuard,program,hg,znw]
 simp only [Sem.run_bind,hgd,Result.andThen_ok,binOp,zwv hu hs hn0 hn1 hn2 ho0 ho1 ho2 hi0 hi1 hi2,Sem.run_pure]
end
section
variable {P:Program} {G:List (Nat × D)} {w:World}
theorem ysr {t e:TypeId} {z a b x y:Value} (hu:P.underlying t=some (.slice e)) (hk:xe P e=some 1) (hz:jx P e=some z) (ha:a.cells=#[x]) (hb:b.cells=#[y]):
  (Instr.buildSlice t 2 #[(0,a),(1,b)]).run P w= .ok (.slice (some ⟨w.heap.size,0,none⟩) 2 2) (w.alloc (.cells #[x,y] e)):=by
 have hf:Instr.fill (fun i=>some (i*1,1)) ((Array.range (2*1)).map (z.cells[· % z.cells.size]!)) [(0,a),(1,b)]=some #[x,y]:=by
  have:∀f:Nat->Value,(Array.range (2*1)).map f=#[f 0,f 1]:=fun f=>by
   apply Array.ext'
   rw [Array.toList_map,Array.toList_range];rfl
  rw [this];simp [Instr.fill,ha,hb]
 simp only [Instr.buildSlice,Sem.run_bind,run_underlying hu,Result.andThen_ok,ys hk];rw [if_neg (by decide),if_neg (by decide)];simp only [Sem.run_pure,Sem.run_bind,Result.andThen_ok,zae hz,hf,newRow,run_newObj];rfl
end
section
variable {P:Program} {G:List (Nat × D)} {fn:Func} {rd:Bool} {E:En P G fn rd} {t:List (Nat × SV)} {H:List SObj} {k:List Item} {all:Array Oper} {rest:List Oper} {o:Oper}
theorem zur {l:Array Value} {s:SV} {w:World} {I:Imm} {β:List Bnd} (h:Reps w I β l.toList [s]):∃x,l=#[x]:=by
 obtain ⟨l⟩:=l;have:=h.len
 match l,this with
 |[x],_=>exact ⟨x,rfl⟩
theorem yss {ty e:Nat} {x y:Operand} {z:Value} {sx sy:SV} (hop:o.op= .buildSlice ty 2 #[(0,x),(1,y)]) (hw:zu all t o.guard=some true) (hd:yb fn.ntmps o.dst=true)
  (hu:P.underlying ty=some (.slice e)) (hk:xe P e=some 1) (hz:jx P e=some z) (hx:(zl G t x).cells=some [sx]) (hy:(zl G t y).cells=some [sy])
  (h:SWr E all rest k (xj t o.dst (.osl H.length 0 2)) (H++[.cells [sx,sy]])):SWr E all (o::rest) k t H:=by
 refine qq hw hd (fun c e=>by rw [hop] at e;cases e) (by simp) (fun ρ w I β hH hev=>?_) h;have h1:=(hev x).cellsReps hx;have h2:=(hev y).cellsReps hy;obtain ⟨a,ha⟩:=zur h1;obtain ⟨b,hb⟩:=zur h2;obtain ⟨dst,op,type,pos,after,guard⟩:=o;simp only at hop;subst hop;have hr:Reps w I β (#[a,b]:Array Value).toList [sx,sy]:=by
  rw [ha] at h1;rw [hb] at h2;exact h1.append h2
 obtain ⟨g1,g2,g3⟩:=zgk (T:=e) hH hr;have hps:(#[(0,x),(1,y)]:Array (Nat × Operand)).map (fun p=>(p.1,ρ p.2))=#[(0,ρ x),(1,ρ y)]:=by simp
 have hrun:=ysr (P:=P) (w:=w) hu hk hz ha hb;rw [<-hps] at hrun;refine OpRun.value hrun ?_ g1 g2;exact .osl H.length w.heap.size 0 2 2 (by rw [<-hH.len];simp) (Nat.le_refl _) (by unfold maxLen;omega)
theorem zbw {fx:Operand} {args:Array Operand} {tys:Array TypeId} {f:FuncId} {first captured:List SV} {r:SV} {argv:List SV} (hop:o.op= .call ⟨.value fx,args,tys⟩) (hw:zu all t o.guard=some true) (hd:yb fn.ntmps o.dst=true)
  (hf:zl G t fx= .fn (.func f) first captured) (hb:wk P f=true) (hargs:first++args.toList.map (zl G t)++captured=argv) (hc:zsv P G f argv H r) (h:SWr E all rest k (xj t o.dst r) H):SWr E all (o::rest) k t H:=by
 refine zv hop hw hd hf hb hargs (hc.mono ?_);rintro _ _ ⟨rfl,rfl⟩;exact ⟨Nat.le_refl _,h⟩
end
end Go.Sh
namespace Go.Proofs.YtjnddlifnkgncaaGreatDoor
open Go Go.Sh
theorem tampLaw_spec (key:Nat) (height:Int) (d:Disc) (hd:DFit d) (fd:∀s∈d.shown,ShwFit s) (pick:Int) (hp:0<=pick/\pick<=255) (n:Int) (text:ByteArray) (ht:text.size<=140737488351232):
  zq Tryz.prog G37 8 [yg key,sI height,d.sv,.imm (.val (.int .u8 pick)),sI n,sS text] (sB true):=by
 have l1:=yid G37 height d hd.shown;have c1:=wy jz key height d hd;generalize ycj height d=o1 at l1;have hlen:accOK key height d=true->(1<=d.commit.length/\d.commit.length<=1024)/\d.shown.length<=1024:=fun h=>⟨zka h,zbt h⟩
 cases hac:accOK key height d with
 |false=>
  rw [hac] at c1;clear hlen;obtain ⟨person,month,root,commit,shown,hidden,blind,⟨index,chains,path⟩⟩:=d;refine zh Tryz.func8 rfl (by rw [Tryz.ntmps8];simp) rfl rfl ?_;intro E hH hK;(refine ze ?_;conv=>whnf);refine zd rfl  ytm ?_;(refine zc ?_;conv=>whnf);refine zd rfl  l1 ?_;cases o1 with
  |false=>
   (refine zc ?_;conv=>whnf);exact hK _
  |true=>
  (refine zc ?_;conv=>whnf)
  repeat' ((with_reducible refine way ?_ ?_)<;>(intro h;conv=>whnf))
  ·refine zd rfl  c1 ?_
   (refine zc ?_;conv=>whnf);exact hK _
  ·exact hK _
 |true=>
 rw [hac] at c1;obtain ⟨⟨hl1,hl2⟩,hl3⟩:=hlen hac;have hkl:pick.toNat % d.commit.length<d.commit.length:=Nat.mod_lt _ (by omega);obtain ⟨pre,c,post,hcm,hk⟩:=yas d.commit _ hkl;have ek:(IntKind.i64.wrap pick).tmod ((d.commit.map fun (n:Int)=>[dI n]).length:Nat)=((pre.length:Nat):Int):=by
  rw [show IntKind.i64.wrap pick=pick from zt (by omega) (by omega),List.length_map,Int.tmod_eq_emod_of_nonneg hp.1,hk,Int.natCast_emod,Int.toNat_of_nonneg hp.1]
 have hcr:=zcf (ygo hac hcm);have esq:(IntKind.i64.wrap (c*4)).tmod 2147483579=(c*4) % 2147483579:=by
  rw [show IntKind.i64.wrap (c*4)=c*4 from zt (by omega) (by omega),Int.tmod_eq_emod_of_nonneg (by omega)]
 have g1:n≠d.hidden->SPre Tryz.prog G37 23 [.fn (.func 24) [] [.ptr 3 0],.ptr 2 0,.ptr 0 0,.ptr 1 0] [.cells [yg key],.cells [sI height],d.box,.cells [sI n]] (fun r H=>r=sB true/\H=[.cells [yg key],.cells [sI height],d.box,.cells [sI n]]):=fun h=>by
  have:=zwr key height d n hl2 hl3 (yjv hd n);rw [zlf hac h] at this;exact this
 have g2:n≠d.blind->SPre Tryz.prog G37 23 [.fn (.func 25) [] [.ptr 3 0],.ptr 2 0,.ptr 0 0,.ptr 1 0] [.cells [yg key],.cells [sI height],d.box,.cells [sI n]] (fun r H=>r=sB true/\H=[.cells [yg key],.cells [sI height],d.box,.cells [sI n]]):=fun h=>by
  have:=yao key height d n hl2 hl3 (yot hd n);rw [yac hac h] at this;exact this
 have g3:n≠c->SPre Tryz.prog G37 23 [.fn (.func 26) [] [.ptr 3 0,.ptr 5 0],.ptr 2 0,.ptr 0 0,.ptr 1 0] [.cells [yg key],.cells [sI height],d.box,.cells [sI n],.cells [sS text],.cells [sI (pre.length:Nat)]] (fun r H=>r=sB true/\H=[.cells [yg key],.cells [sI height],d.box,.cells [sI n],.cells [sS text],.cells [sI (pre.length:Nat)]]):=fun h=>by
  have:=zws key height d n text pre post c hcm hl2 hl3 (zun hd hcm);rw [yaq hac hcm h] at this;exact this
 have g4:SPre Tryz.prog G37 23 [.fn (.func 27) [] [.ptr 6 0,.ptr 5 0],.ptr 2 0,.ptr 0 0,.ptr 1 0] [.cells [yg key],.cells [sI height],d.box,.cells [sI n],.cells [sS text],.cells [sI (pre.length:Nat)],.cells [sI ((c*4) % 2147483579)]] (fun r H=>r=sB true/\H=[.cells [yg key],.cells [sI height],d.box,.cells [sI n],.cells [sS text],.cells [sI (pre.length:Nat)],.cells [sI ((c*4) % 2147483579)]]):=by
  have:=zwt key height d n text pre post c ((c*4) % 2147483579) hcm hl2 hl3 (zun hd hcm);rw [yaq hac hcm (yoc (ygo hac hcm))] at this;exact this
 have r1:(d.commit.map fun (n:Int)=>[dI n])[pre.length]?=some [dI c]:=by rw [List.getElem?_map,hcm,get_mid];rfl
 have em1:(d.commit.map fun (n:Int)=>[dI n]).length=d.commit.length:=by simp
 obtain ⟨person,month,root,commit,shown,hidden,blind,⟨index,chains,path⟩⟩:=d;refine zh Tryz.func8 rfl (by rw [Tryz.ntmps8];simp) rfl rfl ?_;intro E hH hK;(refine ze ?_;conv=>whnf);refine zd rfl  ytm ?_;(refine zc ?_;conv=>whnf);refine zd rfl  l1 ?_;cases o1 with
 |false=>
  (refine zc ?_;conv=>whnf);exact hK _
 |true=>
 (refine zc ?_;conv=>whnf)
 repeat' ((with_reducible refine way ?_ ?_)<;>(intro h;conv=>whnf))
 rotate_left
 ·exact hK _
 refine zd rfl  c1 ?_;(refine zj [777,52] 1000 ?_;conv=>whnf)
 repeat' ((with_reducible refine way ?_ ?_)<;>(intro h;conv=>whnf))
 ·exact hK _
 refine ycz rfl rfl rfl rfl rfl (by rw [em1];omega) ?_;rw [ek];(refine zc ?_;conv=>whnf);refine zi (i:=pre.length) (row:=[dI c]) rfl rfl r1 ?_;(refine zc ?_;conv=>whnf);refine zg [3,6,7,8,10,11,12,13,14,15,16] ?_;refine Eq.mpr (congrArg (fun z=>SW E _ _ [.cells [yg key],.cells [sI height],.cells [sS person,sI month,yg root,.imm (yv commit),.imm (je shown),sI hidden,sI blind,sI index,.imm (xq chains),.imm (zy path)],.cells [sI n],.cells [sS text],.cells [sI (pre.length:Nat)],.cells [sI z]]) esq) ?_;change SW E _ [(3,.imm (.val (.int .u8 pick))),(6,.ptr 0 0),(7,.ptr 1 0),(8,.ptr 2 0),(10,.ptr 3 0),(11,.ptr 4 0),(12,sB false),(13,sB true),(14,.fn (.func 23) [] [.ptr 2 0,.ptr 0 0,.ptr 1 0]),(15,.ptr 5 0),(16,.ptr 6 0)] _;refine' (fun (tail:SW E _ [(3,.imm (.val (.int .u8 pick))),(6,.ptr 0 0),(7,.ptr 1 0),(8,.ptr 2 0),(10,.ptr 3 0),(11,.ptr 4 0),(12,sB false),(13,sB true),(14,.fn (.func 23) [] [.ptr 2 0,.ptr 0 0,.ptr 1 0]),(102,sB false)] [.cells [yg key],.cells [sI height],.cells [sS person,sI month,yg root,.imm (yv commit),.imm (je shown),sI hidden,sI blind,sI index,.imm (xq chains),.imm (zy path)],.cells [sI n],.cells [sS text],.cells [sI (pre.length:Nat)],.cells [sI ((c*4) % 2147483579)]])=>?_) ?_
 rotate_left
 ·(refine yc mixed rfl ?_;refine zf [] ?_;conv=>whnf)
  repeat' ((with_reducible refine way ?_ ?_)<;>(intro h;first|(exfalso;omega)|(conv=>whnf)))
  ·refine ws rfl rfl rfl rfl rfl rfl (SPre.still 4 (g1 (by assumption))) ?_
   (refine zf [] ?_;conv=>whnf)
   repeat' ((with_reducible refine way ?_ ?_)<;>(intro h;first|(exfalso;omega)|(conv=>whnf)))
   ·refine ws rfl rfl rfl rfl rfl rfl (SPre.still 4 (g2 (by assumption))) ?_
    (refine zf [] ?_;conv=>whnf);refine yx (i:=pre.length) (row:=[dI c]) rfl rfl r1 ?_;(refine zf [] ?_;conv=>whnf)
    repeat' ((with_reducible refine way ?_ ?_)<;>(intro h;first|(exfalso;omega)|(conv=>whnf)))
    ·refine ws rfl rfl rfl rfl rfl rfl (SPre.still 6 (g3 (by assumption))) ?_
     (refine zf [] ?_;conv=>whnf);refine ws rfl rfl rfl rfl rfl rfl (SPre.still 7 g4) ?_;(refine zf [] ?_;conv=>whnf);refine zg [3,6,7,8,10,11,12,13,14,102] ?_;exact tail
    ·refine ws rfl rfl rfl rfl rfl rfl (SPre.still 7 g4) ?_
     (refine zf [] ?_;conv=>whnf);refine zg [3,6,7,8,10,11,12,13,14,102] ?_;exact tail
   ·refine yx (i:=pre.length) (row:=[dI c]) rfl rfl r1 ?_
    (refine zf [] ?_;conv=>whnf)
    repeat' ((with_reducible refine way ?_ ?_)<;>(intro h;first|(exfalso;omega)|(conv=>whnf)))
    ·refine ws rfl rfl rfl rfl rfl rfl (SPre.still 6 (g3 (by assumption))) ?_
     (refine zf [] ?_;conv=>whnf);refine ws rfl rfl rfl rfl rfl rfl (SPre.still 7 g4) ?_;(refine zf [] ?_;conv=>whnf);refine zg [3,6,7,8,10,11,12,13,14,102] ?_;exact tail
    ·refine ws rfl rfl rfl rfl rfl rfl (SPre.still 7 g4) ?_
     (refine zf [] ?_;conv=>whnf);refine zg [3,6,7,8,10,11,12,13,14,102] ?_;exact tail
  ·refine ws rfl rfl rfl rfl rfl rfl (SPre.still 4 (g2 (by assumption))) ?_
   (refine zf [] ?_;conv=>whnf);refine yx (i:=pre.length) (row:=[dI c]) rfl rfl r1 ?_;(refine zf [] ?_;conv=>whnf)
   repeat' ((with_reducible refine way ?_ ?_)<;>(intro h;first|(exfalso;omega)|(conv=>whnf)))
   ·refine ws rfl rfl rfl rfl rfl rfl (SPre.still 6 (g3 (by assumption))) ?_
    (refine zf [] ?_;conv=>whnf);refine ws rfl rfl rfl rfl rfl rfl (SPre.still 7 g4) ?_;(refine zf [] ?_;conv=>whnf);refine zg [3,6,7,8,10,11,12,13,14,102] ?_;exact tail
   ·refine ws rfl rfl rfl rfl rfl rfl (SPre.still 7 g4) ?_
    (refine zf [] ?_;conv=>whnf);refine zg [3,6,7,8,10,11,12,13,14,102] ?_;exact tail
  ·refine yx (i:=pre.length) (row:=[dI c]) rfl rfl r1 ?_
   (refine zf [] ?_;conv=>whnf)
   repeat' ((with_reducible refine way ?_ ?_)<;>(intro h;first|(exfalso;omega)|(conv=>whnf)))
   ·refine ws rfl rfl rfl rfl rfl rfl (SPre.still 6 (g3 (by assumption))) ?_
    (refine zf [] ?_;conv=>whnf);refine ws rfl rfl rfl rfl rfl rfl (SPre.still 7 g4) ?_;(refine zf [] ?_;conv=>whnf);refine zg [3,6,7,8,10,11,12,13,14,102] ?_;exact tail
   ·refine ws rfl rfl rfl rfl rfl rfl (SPre.still 7 g4) ?_
    (refine zf [] ?_;conv=>whnf);refine zg [3,6,7,8,10,11,12,13,14,102] ?_;exact tail
 have es1:(shown.map Shw.cells).length=shown.length:=by simp
 (refine zm [777,113] 1000 ?_;conv=>whnf)
 repeat' ((with_reducible refine way ?_ ?_)<;>(intro h;conv=>whnf))
 ·exact hK _
 have hne0:shown.length≠0:=fun e=>h (by rw [es1,e];rfl)
 obtain ⟨pre2,s,post2,hsh,hk2⟩:=yas shown (pick.toNat % shown.length) (Nat.mod_lt _ (by omega));have ek2:(IntKind.i64.wrap pick).tmod ((shown.map Shw.cells).length:Nat)=((pre2.length:Nat):Int):=by
  rw [show IntKind.i64.wrap pick=pick from zt (by omega) (by omega),es1,Int.tmod_eq_emod_of_nonneg hp.1,hk2,Int.natCast_emod,Int.toNat_of_nonneg hp.1]
 have r2:(shown.map Shw.cells)[pre2.length]?=some s.cells:=by rw [List.getElem?_map,hsh,get_mid];rfl
 have fs:=fd s (by simp only;rw [hsh];simp);refine ycz rfl rfl rfl rfl rfl (by rw [es1];omega) ?_;rw [ek2];(refine zj [777,117] 1000 ?_;conv=>whnf);have g5:=fun h=>ysq (n:=n) (text:=text) (k:=(pre.length:Nat)) (sq:=(c*4) % 2147483579) hd fd hac hsh h
 have g6:=fun h=>yee (n:=n) (text:=text) (k:=(pre.length:Nat)) (sq:=(c*4) % 2147483579) hd fd hac hsh h
 have g7:=ywg hd hac hsh;have g8:=fun z=>yyc (n:=n) (text:=text) (k:=(pre.length:Nat)) (sq:=(c*4) % 2147483579) (z:=z) hd fd hac hsh
 obtain ⟨si,sla,sce,sre,sbl,spa⟩:=s;simp only at g5 g6;refine zi (i:=pre2.length) (row:=[dI si,zfq sla,dI sce,zfq sre,dI sbl,zy spa]) rfl rfl r2 ?_;refine' (fun (tail2:SWr E _ _ _ [(8,.ptr 2 0),(11,.ptr 4 0),(12,sB false),(13,sB true),(14,.fn (.func 23) [] [.ptr 2 0,.ptr 0 0,.ptr 1 0]),(17,.ptr 7 0),(18,.ptr 8 0),(148,.fn (.func 31) [] [.ptr 4 0]),(149,.fn (.func 32) [] [.ptr 4 0])] [.cells [yg key],.cells [sI height],.cells [sS person,sI month,yg root,.imm (yv commit),.imm (je shown),sI hidden,sI blind,sI index,.imm (xq chains),.imm (zy path)],.cells [sI n],.cells [sS text],.cells [sI (pre.length:Nat)],.cells [sI ((c*4) % 2147483579)],.cells [sI (pre2.length:Nat)],.cells [sI si,sS sla,sI sce,sS sre,sI sbl,.imm (zy spa)]])=>?_) ?_
 rotate_left 3
 ·(refine zc ?_;conv=>whnf)
  repeat' ((with_reducible refine way ?_ ?_)<;>(intro h;first|(exfalso;omega)|(conv=>whnf)))
  ·refine zbw rfl rfl rfl rfl rfl rfl (SPre.still 8 (g5 (by assumption))) ?_
   (refine zc ?_;conv=>whnf)
   repeat' ((with_reducible refine way ?_ ?_)<;>(intro h;first|(exfalso;omega)|(conv=>whnf)))
   ·refine zbw rfl rfl rfl rfl rfl rfl (SPre.still 8 (g6 (by assumption))) ?_
    (refine zc ?_;conv=>whnf);refine zbw rfl rfl rfl rfl rfl rfl (SPre.still 3 g7) ?_;(refine zc ?_;conv=>whnf);refine yw (fun k=>zg [8,11,12,13,14,17,18,148,149]) ?_;exact tail2
   ·refine zbw rfl rfl rfl rfl rfl rfl (SPre.still 3 g7) ?_
    (refine zc ?_;conv=>whnf);refine yw (fun k=>zg [8,11,12,13,14,17,18,148,149]) ?_;exact tail2
  ·refine zbw rfl rfl rfl rfl rfl rfl (SPre.still 8 (g6 (by assumption))) ?_
   (refine zc ?_;conv=>whnf);refine zbw rfl rfl rfl rfl rfl rfl (SPre.still 3 g7) ?_;(refine zc ?_;conv=>whnf);refine yw (fun k=>zg [8,11,12,13,14,17,18,148,149]) ?_;exact tail2
  ·refine zbw rfl rfl rfl rfl rfl rfl (SPre.still 3 g7) ?_
   (refine zc ?_;conv=>whnf);refine yw (fun k=>zg [8,11,12,13,14,17,18,148,149]) ?_;exact tail2
 refine yss rfl rfl rfl rfl rfl rfl rfl rfl ?_;(refine zc ?_;conv=>whnf);refine zg [8,11,12,13,14,17,18,150,151,152] ?_;change SW E _ [(8,.ptr 2 0),(11,.ptr 4 0),(12,sB false),(13,sB true),(14,.fn (.func 23) [] [.ptr 2 0,.ptr 0 0,.ptr 1 0]),(17,.ptr 7 0),(18,.ptr 8 0),(150,.osl 9 0 2),(151,sI 2),(152,sI (0:Nat))] [.cells [yg key],.cells [sI height],.cells [sS person,sI month,yg root,.imm (yv commit),.imm (je shown),sI hidden,sI blind,sI index,.imm (xq chains),.imm (zy path)],.cells [sI n],.cells [sS text],.cells [sI (pre.length:Nat)],.cells [sI ((c*4) % 2147483579)],.cells [sI (pre2.length:Nat)],.cells [sI si,sS sla,sI sce,sS sre,sI sbl,.imm (zy spa)],.cells [.fn (.func 31) [] [.ptr 4 0],.fn (.func 32) [] [.ptr 4 0]]];refine zp [false,true] (fun j (_:Unit)=>[(8,.ptr 2 0),(11,.ptr 4 0),(12,sB false),(13,sB true),(14,.fn (.func 23) [] [.ptr 2 0,.ptr 0 0,.ptr 1 0]),(17,.ptr 7 0),(18,.ptr 8 0),(150,.osl 9 0 2),(151,sI 2),(152,sI (j:Nat))]) (fun _ _=>[.cells [yg key],.cells [sI height],.cells [sS person,sI month,yg root,.imm (yv commit),.imm (je shown),sI hidden,sI blind,sI index,.imm (xq chains),.imm (zy path)],.cells [sI n],.cells [sS text],.cells [sI (pre.length:Nat)],.cells [sI ((c*4) % 2147483579)],.cells [sI (pre2.length:Nat)],.cells [sI si,sS sla,sI sce,sS sre,sI sbl,.imm (zy spa)],.cells [.fn (.func 31) [] [.ptr 4 0],.fn (.func 32) [] [.ptr 4 0]]]) (fun _ _ _=>True) () trivial ?_ ?_
 ·rintro _ _
  (refine ze ?_;conv=>whnf);exact hK _
 ·rintro done x rest _ hda hdl _ ih
  have ih:=ih () trivial;rcases done with _|⟨y,_|⟨y',done⟩⟩
  ·change SW E _ [(8,.ptr 2 0),(11,.ptr 4 0),(12,sB false),(13,sB true),(14,.fn (.func 23) [] [.ptr 2 0,.ptr 0 0,.ptr 1 0]),(17,.ptr 7 0),(18,.ptr 8 0),(150,.osl 9 0 2),(151,sI 2),(152,sI 0)] [.cells [yg key],.cells [sI height],.cells [sS person,sI month,yg root,.imm (yv commit),.imm (je shown),sI hidden,sI blind,sI index,.imm (xq chains),.imm (zy path)],.cells [sI n],.cells [sS text],.cells [sI (pre.length:Nat)],.cells [sI ((c*4) % 2147483579)],.cells [sI (pre2.length:Nat)],.cells [sI si,sS sla,sI sce,sS sre,sI sbl,.imm (zy spa)],.cells [.fn (.func 31) [] [.ptr 4 0],.fn (.func 32) [] [.ptr 4 0]]]
   change SW E _ [(8,.ptr 2 0),(11,.ptr 4 0),(12,sB false),(13,sB true),(14,.fn (.func 23) [] [.ptr 2 0,.ptr 0 0,.ptr 1 0]),(17,.ptr 7 0),(18,.ptr 8 0),(150,.osl 9 0 2),(151,sI 2),(152,sI 1)] [.cells [yg key],.cells [sI height],.cells [sS person,sI month,yg root,.imm (yv commit),.imm (je shown),sI hidden,sI blind,sI index,.imm (xq chains),.imm (zy path)],.cells [sI n],.cells [sS text],.cells [sI (pre.length:Nat)],.cells [sI ((c*4) % 2147483579)],.cells [sI (pre2.length:Nat)],.cells [sI si,sS sla,sI sce,sS sre,sI sbl,.imm (zy spa)],.cells [.fn (.func 31) [] [.ptr 4 0],.fn (.func 32) [] [.ptr 4 0]]] at ih;(refine ze ?_;conv=>whnf);refine zah (i:=0) rfl rfl rfl rfl rfl rfl rfl rfl (by decide) ?_;(refine zc ?_;conv=>whnf);refine zv rfl rfl rfl rfl rfl rfl (ya Tryz.func31 rfl (by rw [Tryz.ntmps31];simp) ?_);intro E2 hH2 hK2;(refine ze ?_;conv=>whnf);refine hK2 _ _ ⟨by show 11<=11;decide,?_⟩;clear hK2 hH2 E2;(refine zj [777,163] 1000 ?_;conv=>whnf);refine ybr rfl rfl (by intro c hc;cases hc) (znk rfl rfl rfl rfl Tryz.stoodInHeld72 (by decide) (by decide) (by decide) rfl rfl rfl rfl rfl rfl Tryz.eqGuardType72) ?_;have hz:=ytp (x:=⟨si,text,sce,sre,sbl,spa⟩) (y:=⟨si,sla,sce,sre,sbl,spa⟩);have hq:=g8 ⟨si,text,sce,sre,sbl,spa⟩ ht fs.reason rfl rfl
   dsimp only at hz hq
   generalize (!(decide (text=sla)&&(decide (sce=sce)&&decide (sre=sre))))=rn at hz ⊢;cases rn with
   |true=>
    obtain ⟨o,hrow,hcol⟩:=hq (hz rfl);(refine zc ?_;conv=>whnf);refine zbw rfl rfl rfl rfl rfl rfl (SPre.still 11 hrow) ?_;cases o with
    |true=>
     (refine zc ?_;conv=>whnf);exact yz [8,11,12,13,14,17,18,150,151,152] 10 (by rw [hH];exact Nat.zero_le _) (by show 10<=11;decide) rfl rfl ih
    |false=>
     have hcol:=hcol rfl;(refine zc ?_;conv=>whnf);refine zd rfl  hcol ?_;(refine zc ?_;conv=>whnf);exact yz [8,11,12,13,14,17,18,150,151,152] 10 (by rw [hH];exact Nat.zero_le _) (by show 10<=11;decide) rfl rfl ih
   |false=>
    (refine zc ?_;conv=>whnf);exact yz [8,11,12,13,14,17,18,150,151,152] 10 (by rw [hH];exact Nat.zero_le _) (by show 10<=11;decide) rfl rfl ih
  ·obtain ⟨rfl,hda⟩:=List.cons.inj hda
   change SW E _ [(8,.ptr 2 0),(11,.ptr 4 0),(12,sB false),(13,sB true),(14,.fn (.func 23) [] [.ptr 2 0,.ptr 0 0,.ptr 1 0]),(17,.ptr 7 0),(18,.ptr 8 0),(150,.osl 9 0 2),(151,sI 2),(152,sI 1)] [.cells [yg key],.cells [sI height],.cells [sS person,sI month,yg root,.imm (yv commit),.imm (je shown),sI hidden,sI blind,sI index,.imm (xq chains),.imm (zy path)],.cells [sI n],.cells [sS text],.cells [sI (pre.length:Nat)],.cells [sI ((c*4) % 2147483579)],.cells [sI (pre2.length:Nat)],.cells [sI si,sS sla,sI sce,sS sre,sI sbl,.imm (zy spa)],.cells [.fn (.func 31) [] [.ptr 4 0],.fn (.func 32) [] [.ptr 4 0]]];change SW E _ [(8,.ptr 2 0),(11,.ptr 4 0),(12,sB false),(13,sB true),(14,.fn (.func 23) [] [.ptr 2 0,.ptr 0 0,.ptr 1 0]),(17,.ptr 7 0),(18,.ptr 8 0),(150,.osl 9 0 2),(151,sI 2),(152,sI 2)] [.cells [yg key],.cells [sI height],.cells [sS person,sI month,yg root,.imm (yv commit),.imm (je shown),sI hidden,sI blind,sI index,.imm (xq chains),.imm (zy path)],.cells [sI n],.cells [sS text],.cells [sI (pre.length:Nat)],.cells [sI ((c*4) % 2147483579)],.cells [sI (pre2.length:Nat)],.cells [sI si,sS sla,sI sce,sS sre,sI sbl,.imm (zy spa)],.cells [.fn (.func 31) [] [.ptr 4 0],.fn (.func 32) [] [.ptr 4 0]]] at ih;(refine ze ?_;conv=>whnf);refine zah (i:=1) rfl rfl rfl rfl rfl rfl rfl rfl (by decide) ?_;(refine zc ?_;conv=>whnf);refine zv rfl rfl rfl rfl rfl rfl (ya Tryz.func32 rfl (by rw [Tryz.ntmps32];simp) ?_);intro E2 hH2 hK2;(refine ze ?_;conv=>whnf);refine hK2 _ _ ⟨by show 11<=11;decide,?_⟩;clear hK2 hH2 E2;(refine zj [777,163] 1000 ?_;conv=>whnf);refine ybr rfl rfl (by intro c hc;cases hc) (znk rfl rfl rfl rfl Tryz.stoodInHeld72 (by decide) (by decide) (by decide) rfl rfl rfl rfl rfl rfl Tryz.eqGuardType72) ?_;have hz:=ytp (x:=⟨si,sla,sce,text,sbl,spa⟩) (y:=⟨si,sla,sce,sre,sbl,spa⟩);have hq:=g8 ⟨si,sla,sce,text,sbl,spa⟩ fs.label ht rfl rfl
   dsimp only at hz hq
   generalize (!(decide (sla=sla)&&(decide (sce=sce)&&decide (text=sre))))=rn at hz ⊢;cases rn with
   |true=>
    obtain ⟨o,hrow,hcol⟩:=hq (hz rfl);(refine zc ?_;conv=>whnf);refine zbw rfl rfl rfl rfl rfl rfl (SPre.still 11 hrow) ?_;cases o with
    |true=>
     (refine zc ?_;conv=>whnf);exact yz [8,11,12,13,14,17,18,150,151,152] 10 (by rw [hH];exact Nat.zero_le _) (by show 10<=11;decide) rfl rfl ih
    |false=>
     have hcol:=hcol rfl;(refine zc ?_;conv=>whnf);refine zd rfl  hcol ?_;(refine zc ?_;conv=>whnf);exact yz [8,11,12,13,14,17,18,150,151,152] 10 (by rw [hH];exact Nat.zero_le _) (by show 10<=11;decide) rfl rfl ih
   |false=>
    (refine zc ?_;conv=>whnf);exact yz [8,11,12,13,14,17,18,150,151,152] 10 (by rw [hH];exact Nat.zero_le _) (by show 10<=11;decide) rfl rfl ih
  ·exfalso
   simp only [List.length_cons,List.length_nil] at hdl;omega
end Go.Proofs.YtjnddlifnkgncaaGreatDoor