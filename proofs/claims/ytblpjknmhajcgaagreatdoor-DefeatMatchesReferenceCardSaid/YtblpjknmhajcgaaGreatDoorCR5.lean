/- Contracts of functions of the program, joined from TBe, TPa, TBh, TKr, TSh46, TBi, TPb, TPc, TPd, TSh47, TCc, TEa, TEb, TEc, TEd, TQa, TQb, TQc, TBf, TQd, TEe, TEg: no condition. -/
import Derived.Test.YtblpjknmhajcgaaGreatDoorCR4
set_option linter.unusedSimpArgs false
set_option linter.unusedVariables false
set_option maxRecDepth 10000
set_option maxHeartbeats 8000000
namespace Go.Proofs.YtblpjknmhajcgaaGreatDoor
open Go Go.Sh
def YS (c:Codex) (vers:List Int) (q:Sr) (i:Nat):SObj:=(NS c vers q).getD i .dead
theorem yxw (c:Codex) (vers:List Int) (q:Sr):NSH (YS c vers q) (yj c vers q)=NS c vers q:=rfl
structure SearchC (c:Codex):Prop where
 need:NeedC c
 fit:FitC c
 vers:∀vs:List Int,(∀v∈vs,0<=v/\v<c.arts.length)->vs.length<=100000->(zr vs).length<=60
 wit:∀(vs:List Int) (q:Sr),(∀v∈vs,0<=v/\v<c.arts.length)->vs.length<=100000->ws c vs=some q->WitOK (YS c (zr vs) q) c (zr vs) q
def zmg (o:Option View):SV:=
 match o with
 |some v=>.tup [.agg [sI v.day,.imm (qu v.has),.imm (zi v.value),.imm (zi v.arts)],sB true]
 |none=>.tup [.agg jc,sB false]
def ylw (o:Option View):SV:=.tup [View.sv (o.getD zrk),sB o.isSome]
theorem yco (o:Option View):(zmg o).Is (ylw o):=by
 cases o with
 |some v=>exact SV.Is.refl _
 |none=>exact SIs.tup (.cons (SIs.agg (.cons (SV.Is.refl _) (.cons (SV.Is.nil 1) (.cons (SV.Is.nil 1) (.cons (SV.Is.nil 1) .nil))))) (.cons (SV.Is.refl _) .nil))
theorem yti (c:Codex) (vers:List Int) (q:Sr):ytg c vers q=zmg (jb c vers q):=by unfold ytg zmg;cases jb c vers q<;>rfl
theorem yqh (o:Option View) (n:Nat):(zmg o).sh n=zmg o:=by cases o<;>rfl
theorem zkf (c : Codex) (hS : SearchC c) (vs : List Int) (hv : ∀ v ∈ vs, 0 <= v /\ v < c.arts.length) (hvz : vs.length <= 100000) (X : List SObj) :
    SCall Tryz.prog G0 40 [c.sv, .imm (zi vs)] X (fun r H' => match ws c vs with
      | some q => r = .tup [.ptr (2 + X.length) 0, sB true] /\ H' = X ++ (NS c (zr vs) q).map (SObj.sh X.length)
      | none => ∃ p H1, (p = .imm (.val (.pointer none)) \/ p = .ptr (2 + X.length) 0) /\ r = .tup [p, sB false] /\ H' = X ++ H1) := by
  have h := zmv (zvr G0 c hS.fit vs hv hvz (hS.vers vs hv hvz)) X
  rw [List.map_nil, List.append_nil] at h
  refine SCall.mono h ?_
  rintro r H' ⟨r1, H1, h1, rfl, rfl⟩
  cases hq : ws c vs with
  | some q =>
    rw [hq] at h1
    obtain ⟨rfl, rfl⟩ := h1
    exact ⟨rfl, rfl⟩
  | none =>
    rw [hq] at h1
    obtain ⟨p, rfl | rfl, rfl⟩ := h1
    · exact ⟨_, _, .inl rfl, rfl, rfl⟩
    · exact ⟨_, _, .inr rfl, rfl, rfl⟩
theorem yqi {P:Program} {G:List (Nat × D)} {f:FuncId} {args:List SV} {H:List SObj} {K:SV->List SObj->Prop} (h:SCall P G f args H K):SCall P G f args H (fun r H'=>K r H'/\H.length<=H'.length):=fun w I β vs hH hv=>
 (h w I β vs hH hv).mono fun e w' ⟨v,r,I',β',H',h1,h2,h3,h4,h5⟩=>⟨v,r,I',β',H',h1,⟨h2,by
  rcases Nat.eq_zero_or_pos H.length with h0|h0
  ·omega
  ·have hb:H.length-1<β.length:=by rw [hH.len];omega
   obtain ⟨y,hy,_⟩:=h5.keep (H.length-1) _ (by omega) (List.getElem?_eq_getElem hb);have:=lt_of_getElem? hy;rw [h4.len] at this
   omega⟩,h3,h4,h5⟩
theorem zpt (c:Codex) (hS:SearchC c) (vs:List Int) (hv:∀v∈vs,0<=v/\v<c.arts.length) (hvz:vs.length<=100000) (q:Sr) (hq:ws c vs=some q) (X:List SObj):
  SCall Tryz.prog G0 41 [.ptr (2+X.length) 0] (X++(NS c (zr vs) q).map (SObj.sh X.length)) (fun r H'=>r=zmg (jb c (zr vs) q)/\(∃H1,H'=X++H1)/\(X++(NS c (zr vs) q).map (SObj.sh X.length)).length<=H'.length):=by
 have h:=zmv (ycj (hS.wit vs q hv hvz hq)) X;rw [yxw] at h;refine SCall.mono (yqi h) ?_;rintro r H' ⟨⟨r1,H1,rfl,rfl,rfl⟩,hl⟩;rw [yti,yqh];exact ⟨rfl,⟨_,rfl⟩,hl⟩
theorem yqj (c:Codex) (hfit:Codex.fit c) (hS:zv c=true->SearchC c) (hz:c.arts.length<=1000000) (vs:List Int) (hvz:vs.length<=100000):
  zw Tryz.prog G0 11 [c.sv,.imm (zi vs)] (zmg (yg c vs)):=by
 have hal:(c.arts.map Article.cells).length=c.arts.length:=by simp
 have hvl:(vs.map fun n=>[dI n]).length=vs.length:=by simp
 have hV:=zbh G0 c hfit;refine zc Tryz.func11 rfl (by rw [Tryz.ntmps11];simp) rfl (by cases yg c vs<;>rfl) ?_;intro E hH hK;have hun:∀b,zv c=b->yg c vs=if b&&vs.all (fun v=>decide (0<=v)&&decide (v<c.arts.length)) then (match ws c vs with|some s=>jb c (zr vs) s|none=>none) else none:=fun b hb=>by rw [<-hb];rfl
 generalize hz2:zv c=z at hV hS hun;have hun:=hun z rfl;rw [show c.sv= .agg [.imm (zj c.facts),.imm (zj c.lines),.imm (yl c.arts)] from rfl];(refine zf ?_;conv=>whnf);refine ze rfl  hV ?_;cases z<;>((refine za ?_;conv=>whnf))
 ·rw [hun] at hK
  exact hK _
 refine zg [1,2,4,14,15,16] ?_;change SW E _ [(1,.imm (zi vs)),(2,.ptr 0 0),(4,.ptr 1 0),(14,.imm (zi vs)),(15,sI (vs.map fun n=>[dI n]).length),(16,sI 0)] [.cells [.imm (zj c.facts),.imm (zj c.lines),.imm (yl c.arts)],.cells jc];refine zo vs (fun i (_:Unit)=>[(1,.imm (zi vs)),(2,.ptr 0 0),(4,.ptr 1 0),(14,.imm (zi vs)),(15,sI (vs.map fun n=>[dI n]).length),(16,sI i)]) (fun _ _=>[.cells [.imm (zj c.facts),.imm (zj c.lines),.imm (yl c.arts)],.cells jc])
  (fun done _ _=>∀v∈done,0<=v/\v<c.arts.length) () (by simp) ?_ ?_
 ·rintro _ hv
  have hall:vs.all (fun v=>decide (0<=v)&&decide (v<c.arts.length))=true:=List.all_eq_true.2 fun v h=>by
   have:=hv v h;simp only [Bool.and_eq_true,decide_eq_true_eq];exact this
  rw [hall,Bool.true_and,if_pos rfl] at hun;have hN:=zkf c (hS rfl) vs hv hvz [.cells [.imm (zj c.facts),.imm (zj c.lines),.imm (yl c.arts)],.cells jc];(refine zf ?_;conv=>whnf)
  repeat' ((with_reducible refine way ?_ ?_)<;>(intro h;conv=>whnf))
  all_goals try (exfalso;omega)
  refine qb rfl rfl rfl rfl rfl rfl (hN.mono ?_);intro r H' hK1;cases hq:ws c vs with
  |none=>
   rw [hq] at hK1 hun;obtain ⟨p,H1,hp,rfl,rfl⟩:=hK1;refine ⟨Nat.le_add_left 2 _,?_⟩;rw [hun] at hK;refine Eq.mpr (congrArg (fun h=>SWr E _ _ _ _ h) (show _= .cells [.imm (zj c.facts),.imm (zj c.lines),.imm (yl c.arts)]:: .cells jc::H1 from rfl)) ?_;rcases hp with rfl|rfl<;>((refine za ?_;conv=>whnf))<;>exact hK _
  |some q=>
   have hWt:=zpt c (hS rfl) vs hv hvz q hq [.cells [.imm (zj c.facts),.imm (zj c.lines),.imm (yl c.arts)],.cells jc];rw [hq] at hK1 hun;simp only at hun;obtain ⟨rfl,rfl⟩:=hK1;refine ⟨by rw [List.length_append];exact Nat.le_add_right _ _,?_⟩;(refine za ?_;conv=>whnf);refine qb rfl rfl rfl rfl rfl rfl (hWt.mono ?_);rintro r H' ⟨rfl,⟨H1,rfl⟩,hl⟩;refine ⟨hl,?_⟩;rw [hun] at hK;generalize jb c (zr vs) q=o at hK ⊢;refine Eq.mpr (congrArg (fun h=>SWr E _ _ _ _ h) (show _= .cells [.imm (zj c.facts),.imm (zj c.lines),.imm (yl c.arts)]:: .cells jc::H1 from rfl)) ?_;cases o<;>((refine za ?_;conv=>whnf))<;>exact hK _
 ·rintro done x rest _ hda hdl h1 ih
  have hw:=zk (n:=done.length) (by omega);have hrx:(vs.map fun n=>[dI n])[((done.length:Nat):Int).toNat]?=some [dI x]:=by simp [hda]
  have hxm:x∈vs:=by rw [hda];simp
  have hbad:¬(0<=x/\x<c.arts.length)->yg c vs=none:=fun h=>by
   rw [hun,if_neg];intro h2;rw [Bool.true_and] at h2;have:=List.all_eq_true.1 h2 x hxm;simp only [Bool.and_eq_true,decide_eq_true_eq] at this;exact h this
  (refine zf ?_;conv=>whnf)
  repeat' ((with_reducible refine way ?_ ?_)<;>(intro h;conv=>whnf))
  all_goals try (exfalso;omega)
  refine zh rfl rfl  hrx ?_;(refine za ?_;conv=>whnf)
  repeat' ((with_reducible refine way ?_ ?_)<;>(intro h;conv=>whnf))
  ·rw [hbad (by omega)] at hK
   exact hK _
  ·rw [hw]
   refine zg [1,2,4,14,15,16] ?_;refine ih () fun v hm=>?_
   rcases List.mem_append.1 hm with hm|hm
   ·exact h1 v hm
   ·simp at hm;rw [hm];omega
  ·rw [hbad (by omega)] at hK
   exact hK _
theorem zim (c:Codex) (hfit:Codex.fit c) (hS:zv c=true->SearchC c) (hz:c.arts.length<=1000000) (vs:List Int) (hvz:vs.length<=100000):
  zw Tryz.prog G0 11 [c.sv,.imm (zi vs)] (ylw (yg c vs)):=zao (yqj c hfit hS hz vs hvz) (yco _)
mutual
def zfj (c:Codex) (m:List (Int × Int)):Ex->Prop
 | .mk op n u den ps ks=>jn c m op n u den ps ks=true/\zzh c m ks
def zzh (c:Codex) (m:List (Int × Int)):List Ex->Prop
 |[]=>True
 |e::r=>zfj c m e/\zzh c m r
end
theorem qv {c:Codex} {m:List (Int × Int)}:∀{ks:List Ex},zzh c m ks->∀k∈ks,zfj c m k
 |_::_,h,k,hk=>by
  unfold zzh at h;rcases List.mem_cons.1 hk with rfl|hk
  ·exact h.1
  ·exact qv h.2 k hk
theorem yvx (c:Codex) (m:List (Int × Int)) (N:Nat):(∀e:Ex,SizeOf.sizeOf e<N->∀d cnt:Int,(zai c m e d cnt).1=true->zfj c m e/\(zai c m e d cnt).2=cnt+yx e)/\
  (∀ks:List Ex,SizeOf.sizeOf ks<N->∀d cnt:Int,(jf c m ks d cnt).1=true->zzh c m ks/\(jf c m ks d cnt).2=cnt+yb ks):=by
 induction N with
 |zero=>exact ⟨fun e h=>by omega,fun e h=>by omega⟩
 |succ N ih=>
  refine ⟨fun e he d cnt h=>?_,fun ks hk d cnt h=>?_⟩
  ·obtain ⟨op,n,u,den,ps,ks⟩:=e
   simp only [Ex.mk.sizeOf_spec] at he;have h1:=ih.2 ks (by omega) (d+1) (cnt+1);simp only [zai] at h ⊢;split at h
   ·cases h
   ·rename_i hc
    rw [if_neg hc]
    revert h h1
    cases jf c m ks (d+1) (cnt+1) with
    |mk b q=>
     cases b with
     |true=>
      intro h1 h;have h1:=h1 rfl;simp only at h h1 ⊢;refine ⟨?_,?_⟩
      ·unfold zfj;exact ⟨h,h1.1⟩
      ·rw [h1.2];unfold yx;omega
     |false=>intro _ h;cases h
  ·cases ks with
   |nil=>simp [jf,zzh,yb]
   |cons k r=>
    simp only [List.cons.sizeOf_spec] at hk;have h1:=ih.1 k (by omega) d cnt;simp only [jf] at h ⊢
    revert h h1
    cases zai c m k d cnt with
    |mk b q=>
     cases b with
     |true=>
      intro h h1;have h1:=h1 rfl;simp only at h h1 ⊢;have h2:=ih.2 r (by omega) d q h;refine ⟨?_,?_⟩
      ·unfold zzh;exact ⟨h1.1,h2.1⟩
      ·rw [h2.2,h1.2,yb];omega
     |false=>intro h;cases h
theorem ztw {c:Codex} {m:List (Int × Int)} {e:Ex} {u:ByteArray} (h:(jg c m e u).1=true):zfj c m e/\yx e<=400:=by
 unfold jg at h;split at h
 ·obtain ⟨h1,h2⟩:=(yvx c m _).1 e (Nat.lt_succ_self _) 1 0 h
  have h3:=((ybl c m _).1 e (Nat.lt_succ_self _) 1 0).2 h;exact ⟨h1,by omega⟩
 ·cases h
theorem zkg (nl:Int):∀(l:List Article) (m0 m:List (Int × Int)),qi nl l m0=some m->(∀k v,zx k m0=some v->1<=k/\k<=1000000)->∀k v,zx k m=some v->1<=k/\k<=1000000
 |[],m0,m,h,h0=>by simp [qi] at h;subst h;exact h0
 |a::r,m0,m,h,h0=>by
  simp only [qi] at h;split at h
  ·rename_i hc
   have h1:∀k v,zx k (ains a.number a.line m0)=some v->1<=k/\k<=1000000:=fun k v hk=>by
    rw [zau] at hk;split at hk
    ·rename_i e
     have e:k=a.number:=by simpa using e
     subst e;exact ⟨hc.1,hc.2.1⟩
    ·exact h0 k v hk
   have hm:qi nl r (ains a.number a.line m0)=some m:=by
    split at h
    ·split at h
     ·exact h
     ·cases h
    ·exact h
   exact zkg nl r _ m hm h1
  ·cases h
theorem qr {c:Codex} (h:zv c=true):c.facts.length<=32/\c.arts.length<=60/\∃m,(∀k v,zx k m=some v->1<=k/\k<=1000000)/\∀a∈c.arts,
  zda a=true/\a.unless_.all (fun n=>(zx n m).isSome)=true/\(∀e∈a.when_,zfj c m e/\yx e<=400)/\zfj c m a.amount/\yx a.amount<=400:=by
 unfold zv at h;simp only [Bool.and_eq_true,decide_eq_true_eq] at h;obtain ⟨⟨⟨⟨⟨h1,h2⟩,h3⟩,h4⟩,h5⟩,h6⟩:=h;refine ⟨h1,h3,?_⟩;cases hl:qi c.lines.length c.arts [] with
 |none=>rw [hl] at h6;cases h6
 |some m=>
  rw [hl] at h6;simp only [List.all_eq_true] at h6;refine ⟨m,zkg _ _ _ _ hl (fun k v h=>by cases h),fun a ha=>?_⟩;have:=h6 a ha;unfold zmt at this;simp only [Bool.and_eq_true,List.all_eq_true] at this;obtain ⟨⟨⟨g1,g2⟩,g3⟩,g4⟩:=this;exact ⟨g1,List.all_eq_true.2 g2,fun e he=>ztw (g3 e he),ztw g4⟩
theorem yvy {c:Codex} {m:List (Int × Int)} {op n:Int} {u:ByteArray} {den:Int} {ps:List Piece} {ks:List Ex} (h:jn c m op n u den ps ks=true):ps.length<=64:=by
 unfold jn at h;split at h
 ·simp only [Bool.and_eq_true,zbf,decide_eq_true_eq] at h
  exact h.2.1.2
 ·split at h
  ·cases h
  ·rename_i hh
   omega
theorem ycp (c:Codex) (m:List (Int × Int)) (N:Nat):(∀e:Ex,SizeOf.sizeOf e<N->zfj c m e->yx e<=1000000->zjh e)/\(∀ks:List Ex,SizeOf.sizeOf ks<N->zzh c m ks->yb ks<=1000000->zet ks):=by
 induction N with
 |zero=>exact ⟨fun e h=>by omega,fun e h=>by omega⟩
 |succ N ih=>
  refine ⟨fun e he h hs=>?_,fun ks hk h hs=>?_⟩
  ·obtain ⟨op,n,u,den,ps,ks⟩:=e
   simp only [Ex.mk.sizeOf_spec] at he;unfold zfj at h;unfold yx at hs;have:=yvy h.1;have h2:=zch ks;unfold zjh;exact ⟨by omega,by omega,ih.2 ks (by omega) h.2 (by omega)⟩
  ·cases ks with
   |nil=>unfold zet;trivial
   |cons k r=>
    simp only [List.cons.sizeOf_spec] at hk;unfold zzh at h;unfold yb at hs;unfold zet;exact ⟨ih.1 k (by omega) h.1 (by omega),ih.2 r (by omega) h.2 (by omega)⟩
theorem ycq:∀{ks:List Ex},(∀k∈ks,zjh k)->zet ks
 |[],_=>by unfold zet;trivial
 |k::r,h=>by unfold zet;exact ⟨h k (by simp),ycq fun x hx=>h x (by simp [hx])⟩
theorem yix {c:Codex} (h:zv c=true) (hfew:∀a∈c.arts,a.when_.length<=1000000/\a.unless_.length<=1000000):NeedC c:=by
 obtain ⟨_,h2,m,_,h4⟩:=qr h;refine {arts:=by omega,len:=fun a ha=>(hfew a ha).1,exs:=fun a ha=>ycq fun e he=>?_,uls:=fun a ha=>(hfew a ha).2,amt:=fun a ha=>?_}
 ·have:=(h4 a ha).2.2.1 e he
  exact (ycp c m _).1 e (Nat.lt_succ_self _) this.1 (by omega)
 ·have:=(h4 a ha).2.2.2
  exact (ycp c m _).1 _ (Nat.lt_succ_self _) this.1 (by omega)
variable (G:List (Nat × D))
def zqy (c:Codex):List SV:=(yc c).map fun l=>.imm (zi l)
def OH (c:Codex) (out:List Int):List SObj:=[zav c,.cells (zqy c),.cells [.osl 1 0 c.arts.length],.mapI .i64 (zdw sB (qd [] out)),.cells [.map 3]]
theorem znc {α:Type} (f:α->D) (l:List α) (n:Nat):SV.under.allUnder n (l.map fun x=>SV.imm (f x))=true:=by
 induction l with
 |nil=>rfl
 |cons a l ih=>simp [SV.under.allUnder,SV.under,ih]
theorem zzi (c:Codex) (out:List Int):(OH c out).all (SObj.under 5)=true:=by
 have h:(SObj.cells (zqy c)).under 5=true:=znc _ _ _;simp only [OH,List.all_cons,List.all_nil,h,zwo,Bool.and_true];rfl
theorem ytj (out:List Int) (k:Int):((zx k (qd [] out)).map sB).getD (jk (.bool false))=sB (decide (k∈out)):=by
 rw [zkd]
 by_cases hk:k∈out
 ·rw [if_pos hk,decide_eq_true hk];rfl
 ·rw [if_neg hk,decide_eq_false hk];rfl
theorem jp (c:Codex):(yc c).length=c.arts.length:=by simp [yc]
theorem zcr {c:Codex} {j:Nat} (h:j<c.arts.length):(yc c)[j]?=some (xe c j):=by simp [yc,h]
theorem ready_spec (c:Codex) (hlen:∀j:Nat,(xe c j).length<=1000000) (hz:c.arts.length<=1000000) (out:List Int) (j:Nat) (hj:j<c.arts.length):
  SPre Tryz.prog G 61 [sI j,.ptr 2 0,.ptr 4 0] (OH c out) (fun r H'=>r=sB (decide (∀x∈xe c j,x∈out))/\H'=OH c out):=by
 refine qg Tryz.func61 rfl (by rw [Tryz.ntmps61];simp) rfl (zzi _ _) ?_;intro E hH hK;have hl:=hlen j;have hla:((xe c j).map fun n=>[dI n]).length=(xe c j).length:=by simp
 have hbl:(zqy c).length=c.arts.length:=by simp [zqy,jp]
 have hbg:(zqy c)[j]?=some (.imm (zi (xe c j))):=by rw [zqy,List.getElem?_map,zcr hj];rfl
 (refine zf ?_;conv=>whnf);refine zfy (i:=j) rfl rfl rfl rfl rfl rfl rfl rfl hj ?_;refine wt (v:=.imm (zi (xe c j))) rfl rfl rfl rfl rfl (by show (zqy c)[0+j*1]?=_;rw [Nat.zero_add,Nat.mul_one];exact hbg) ?_;(refine za ?_;conv=>whnf);refine zg [1,2,10,11,12] ?_;generalize xe c j=nd at hl hla hK;change SW E _ [(1,.ptr 2 0),(2,.ptr 4 0),(10,.imm (zi nd)),(11,sI (nd.map fun n=>[dI n]).length),(12,sI 0)] (OH c out);refine zo nd (fun i (_:Unit)=>[(1,.ptr 2 0),(2,.ptr 4 0),(10,.imm (zi nd)),(11,sI (nd.map fun n=>[dI n]).length),(12,sI i)]) (fun _ _=>OH c out) (fun done _ _=>∀x∈done,x∈out) () (by simp) ?_ ?_
 ·rintro _ h1
  (refine zf ?_;conv=>whnf)
  repeat' ((with_reducible refine way ?_ ?_)<;>(intro h;conv=>whnf))
  all_goals try (exfalso;omega)
  exact hK _ _ (Nat.le_refl _) rfl (zzi c out) ⟨congrArg sB (decide_eq_true h1).symm,rfl⟩
 ·rintro done x rest _ hda hdl h1 ih
  have hw:=zk (n:=done.length) (by omega);have hrx:(nd.map fun n=>[dI n])[((done.length:Nat):Int).toNat]?=some [dI x]:=by simp [hda]
  have hxm:x∈nd:=by rw [hda];simp
  (refine zf ?_;conv=>whnf)
  repeat' ((with_reducible refine way ?_ ?_)<;>(intro h;conv=>whnf))
  all_goals try (exfalso;omega)
  refine zh rfl rfl  hrx ?_;(refine za ?_;conv=>whnf);refine zhk (b:=3) (l:=qd [] out) sB rfl rfl rfl rfl rfl rfl rfl rfl rfl (v:=sB (decide (x∈out))) (ytj _ _) ?_;cases hd:decide (x∈out)<;>((refine za ?_;conv=>whnf))
  ·have hd:=of_decide_eq_false hd
   have hf:¬∀x∈nd,x∈out:=fun h=>hd (h x hxm)
   exact hK _ _ (Nat.le_refl _) rfl (zzi c out) ⟨congrArg sB (decide_eq_false hf).symm,rfl⟩
  ·have hd:=of_decide_eq_true hd
   rw [hw];refine zg [1,2,10,11,12] ?_;refine ih () fun y hy=>?_
   rcases List.mem_append.1 hy with hy|hy
   ·exact h1 y hy
   ·simp at hy;rw [hy];exact hd
abbrev mg (M:List Int) (i j:Nat):Int:=M.getD (i*60+j) 0
theorem zws {M:List Int} {i j a b:Nat} {v:Int} (hl:M.length=3600) (hi:i<60) (hj:j<60) (hb:b<60):mg (M.set (i*60+j) v) a b=if a=i/\b=j then v else mg M a b:=by
 unfold mg;rw [List.getD_eq_getElem?_getD,List.getD_eq_getElem?_getD,List.getElem?_set]
 by_cases h:i*60+j=a*60+b
 ·rw [if_pos h,if_pos (by omega),if_pos (by omega)]
  rfl
 ·rw [if_neg h,if_neg (by omega)]
structure DecM (n:Nat) (M' M:List Int):Prop where
 len:M'.length=3600
 le:∀i j,i<n->j<n->mg M' i j<=mg M i j
theorem DecM.refl {n:Nat} {M:List Int} (h:M.length=3600):DecM n M M:=⟨h,fun _ _ _ _=>Int.le_refl _⟩
theorem DecM.trans {n:Nat} {A B C:List Int} (h:DecM n A B) (h':DecM n B C):DecM n A C:=⟨h.len,fun i j hi hj=>Int.le_trans (h.le i j hi hj) (h'.le i j hi hj)⟩
theorem zkh {α:Type} {n:Nat} {f:List Int->α->List Int}:∀(l:List α) (_:∀M x,x∈l->M.length=3600->DecM n (f M x) M) (M:List Int),M.length=3600->DecM n (l.foldl f M) M
 |[],_,M,h=>.refl h
 |x::l,hf,M,h=>(zkh l (fun M y hy=>hf M y (List.mem_cons_of_mem _ hy)) (f M x) (hf M x (by simp) h).len).trans (hf M x (by simp) h)
theorem yiy {α:Type} {n:Nat} {f:List Int->α->List Int} {l:List α} (hf:∀M x,x∈l->M.length=3600->DecM n (f M x) M) {M:List Int} (h:M.length=3600) {x:α} (hx:x∈l):
  ∃M1,DecM n M1 M/\DecM n (l.foldl f M) (f M1 x):=by
 obtain ⟨a,b,rfl⟩:=List.append_of_mem hx;have h1:=zkh a (fun M y hy=>hf M y (by simp [hy])) M h;refine ⟨_,h1,?_⟩;rw [List.foldl_append,List.foldl_cons];exact zkh b (fun M y hy=>hf M y (by simp [hy])) _ (hf _ x (by simp) h1.len).len
def zex (k i:Nat) (M:List Int) (j:Nat):List Int:=M.set (i*60+j) (min (mg M i j) (mg M i k+mg M k j))
def zvs (n k:Nat) (M:List Int) (i:Nat):List Int:=(List.range n).foldl (zex k i) M
def zea (n:Nat) (M:List Int) (k:Nat):List Int:=(List.range n).foldl (zvs n k) M
def yvz (n:Nat) (M:List Int):List Int:=(List.range n).foldl (zea n) M
section
variable {n:Nat} (hn:n<=60)
include hn
theorem zwt {k i j:Nat} {M:List Int} (hi:i<n) (hj:j<n) (h:M.length=3600):DecM n (zex k i M j) M:=by
 refine ⟨by simp [zex,h],fun a b ha hb=>?_⟩;rw [zex,zws h (by omega) (by omega) (by omega)];split
 ·rename_i e
  rw [e.1,e.2];omega
 ·exact Int.le_refl _
theorem yqk {k i j:Nat} {M:List Int} (hi:i<n) (hj:j<n) (h:M.length=3600):mg (zex k i M j) i j<=mg M i k+mg M k j:=by
 rw [zex,zws h (by omega) (by omega) (by omega),if_pos ⟨rfl,rfl⟩];omega
theorem ycr {k i:Nat} {M:List Int} (hi:i<n) (h:M.length=3600):DecM n (zvs n k M i) M:=
 zkh _ (fun M x hx h=>zwt hn hi (by simpa using hx) h) M h
theorem yfn {k:Nat} {M:List Int} (h:M.length=3600):DecM n (zea n M k) M:=
 zkh _ (fun M x hx h=>ycr hn (by simpa using hx) h) M h
theorem ylx {k i j:Nat} {M:List Int} (hk:k<n) (hi:i<n) (hj:j<n) (h:M.length=3600):mg (zea n M k) i j<=mg M i k+mg M k j:=by
 obtain ⟨M1,h1,h2⟩:=yiy (n:=n) (f:=zvs n k) (l:=List.range n) (fun M x hx h=>ycr hn (by simpa using hx) h) h (x:=i) (by simpa using hi);obtain ⟨M2,h3,h4⟩:=yiy (n:=n) (f:=zex k i) (l:=List.range n) (fun M x hx h=>zwt hn hi (by simpa using hx) h) h1.len (x:=j) (by simpa using hj);have e1:=h2.le i j hi hj;have e2:=h4.le i j hi hj;have e3:=yqk hn (k:=k) hi hj h3.len;have e4:=(h3.trans h1).le i k hi hk;have e5:=(h3.trans h1).le k j hk hj;have e6:mg (zvs n k M1 i) i j=mg (List.foldl (zex k i) M1 (List.range n)) i j:=rfl;have e7:mg (zea n M k) i j=mg (List.foldl (zvs n k) M (List.range n)) i j:=rfl;omega
end
inductive WalkB (E:Nat->Nat->Prop) (K:Nat):Nat->Nat->Nat->Prop
 |one {i j:Nat}:E i j->WalkB E K i j 1
 |step {i k j L:Nat}:E i k->k<K->WalkB E K k j L->WalkB E K i j (L+1)
theorem WalkB.split {E:Nat->Nat->Prop} {K i j L:Nat} (h:WalkB E (K+1) i j L):WalkB E K i j L\/∃L1 L2,WalkB E K i K L1/\WalkB E K K j L2/\L1+L2<=L:=by
 induction h with
 |one h=>exact .inl (.one h)
 |@step i k j L h hk _ ih=>
  rcases ih with h1|⟨L1,L2,h1,h2,h3⟩
  ·by_cases e:k=K
   ·subst e
    exact .inr ⟨1,L,.one h,h1,by omega⟩
   ·exact .inl (.step h (by omega) h1)
  ·by_cases e:k=K
   ·subst e
    exact .inr ⟨1,L2,.one h,h2,by omega⟩
   ·exact .inr ⟨L1+1,L2,.step h (by omega) h1,h2,by omega⟩
theorem WalkB.append {E:Nat->Nat->Prop} {K i k j L L':Nat} (h:WalkB E K i k L) (h':WalkB E K k j L') (hk:k<K):WalkB E K i j (L+L'):=by
 induction h with
 |one h=>rw [Nat.add_comm];exact .step h hk h'
 |@step i k j L h h1 _ ih=>
  have:=ih h' hk;rw [show L+1+L'=L+L'+1 by omega];exact .step h h1 this
theorem zlk:∀{n:Nat} {l:List Nat},l.Nodup->(∀x∈l,x<n)->l.length<=n
 |0,l,_,h=>by
  cases l with
  |nil=>simp
  |cons a l=>have:=h a (by simp);omega
 |n+1,l,hd,h=>by
  by_cases hm:n∈l
  ·have h1:=zlk (n:=n) (l:=l.erase n) (hd.erase n) (fun x hx=>by
    have:=(hd.mem_erase_iff).1 hx;have:=h x this.2
    omega)
   rw [List.length_erase_of_mem hm] at h1;omega
  ·have:=zlk (n:=n) (l:=l) hd (fun x hx=>by
    have:=h x hx;have:x≠n:=fun e=>hm (e ▸ hx)
    omega)
   omega
theorem WalkB.points {E:Nat->Nat->Prop} {n j:Nat}:∀{L i:Nat},i<n->WalkB E n i j L->(∀L',WalkB E n i j L'->L<=L')->
  ∃vs:List Nat,vs.length=L/\vs.Nodup/\(∀x∈vs,x<n)/\∀x∈vs,∃m,m<=L/\WalkB E n x j m
 |0,i,_,h,_=>by cases h
 |L+1,i,hi,h,hmin=>by
  cases h with
  |one h=>exact ⟨[i],rfl,by simp,by simpa using hi,fun x hx=>by simp at hx;subst hx;exact ⟨1,by omega,.one h⟩⟩
  |@step _ k _ _ h hk hw=>
   obtain ⟨vs,h1,h2,h3,h4⟩:=WalkB.points hk hw (fun L' hw'=>by have:=hmin _ (.step h hk hw');omega);refine ⟨i::vs,by simp [h1],?_,fun x hx=>?_,fun x hx=>?_⟩
   ·rw [List.nodup_cons]
    refine ⟨fun hm=>?_,h2⟩;obtain ⟨m,hm1,hm2⟩:=h4 i hm;have:=hmin m hm2;omega
   ·rcases List.mem_cons.1 hx with rfl|hx
    ·exact hi
    ·exact h3 x hx
   ·rcases List.mem_cons.1 hx with rfl|hx
    ·exact ⟨L+1,Nat.le_refl _,.step h hk hw⟩
    ·obtain ⟨m,hm1,hm2⟩:=h4 x hx
     exact ⟨m,by omega,hm2⟩
theorem WalkB.short {E:Nat->Nat->Prop} {n j L i:Nat} (h:WalkB E n i j L) (hi:i<n):∃L',L'<=n/\WalkB E n i j L':=by
 induction L using Nat.strongRecOn generalizing i with
 |ind L ih=>
  by_cases hmin:∀L',WalkB E n i j L'->L<=L'
  ·obtain ⟨vs,h1,h2,h3,_⟩:=WalkB.points hi h hmin
   exact ⟨L,by have:=zlk h2 h3;omega,h⟩
  ·obtain ⟨L',h1⟩:=Classical.not_forall.1 hmin
   obtain ⟨h2,h3⟩:=Classical.not_imp.1 h1;exact ih L' (by omega) h2 hi
structure FW (E:Nat->Nat->Prop) (n K:Nat) (M:List Int):Prop where
 len:M.length=3600
 low:∀i j,i<n->j<n->1<=mg M i j
 sound:∀i j,i<n->j<n->mg M i j<1000->∃L:Nat,WalkB E n i j L/\mg M i j=L
 comp:∀i j L,i<n->j<n->WalkB E K i j L->mg M i j<=L
structure FS (E:Nat->Nat->Prop) (n:Nat) (M:List Int):Prop where
 len:M.length=3600
 low:∀i j,i<n->j<n->1<=mg M i j
 sound:∀i j,i<n->j<n->mg M i j<1000->∃L:Nat,WalkB E n i j L/\mg M i j=L
theorem FS.cell {E:Nat->Nat->Prop} {n k i j:Nat} {M:List Int} (hn:n<=60) (hk:k<n) (hi:i<n) (hj:j<n) (h:FS E n M):FS E n (zex k i M j):=by
 have h1:=h.low i j hi hj;have h2:=h.low i k hi hk;have h3:=h.low k j hk hj;refine ⟨by simp [zex,h.len],fun a b ha hb=>?_,fun a b ha hb hlt=>?_⟩
 ·rw [zex,zws h.len (by omega) (by omega) (by omega)]
  split
  ·omega
  ·exact h.low a b ha hb
 ·rw [zex,zws h.len (by omega) (by omega) (by omega)] at hlt ⊢
  split at hlt
  ·rename_i e
   rw [if_pos e,e.1,e.2];rcases Int.le_total (mg M i j) (mg M i k+mg M k j) with h4|h4
   ·rw [Int.min_eq_left h4] at hlt ⊢
    exact h.sound i j hi hj hlt
   ·rw [Int.min_eq_right h4] at hlt ⊢
    obtain ⟨L1,w1,e1⟩:=h.sound i k hi hk (by omega);obtain ⟨L2,w2,e2⟩:=h.sound k j hk hj (by omega);exact ⟨L1+L2,w1.append w2 hk,by omega⟩
  ·rename_i e
   rw [if_neg e];exact h.sound a b ha hb hlt
theorem xz {α:Type} {Q:List Int->Prop} {f:List Int->α->List Int}:∀(l:List α) (_:∀M x,x∈l->Q M->Q (f M x)) (M:List Int),Q M->Q (l.foldl f M)
 |[],_,_,h=>h
 |x::l,hf,M,h=>xz l (fun M y hy=>hf M y (List.mem_cons_of_mem _ hy)) (f M x) (hf M x (by simp) h)
theorem FS.round {E:Nat->Nat->Prop} {n k:Nat} {M:List Int} (hn:n<=60) (hk:k<n) (h:FS E n M):FS E n (zea n M k):=
 xz _ (fun M i hi h=>xz (Q:=FS E n) _ (fun _ j hj h=>h.cell hn hk (by simpa using hi) (by simpa using hj)) M h) M h
theorem FW.round {E:Nat->Nat->Prop} {n k:Nat} {M:List Int} (hn:n<=60) (hk:k<n) (h:FW E n k M):FW E n (k+1) (zea n M k):=by
 obtain ⟨g1,g2,g3⟩:=FS.round hn hk ⟨h.len,h.low,h.sound⟩;refine ⟨g1,g2,g3,fun i j L hi hj hw=>?_⟩;rcases hw.split with h1|⟨L1,L2,h1,h2,h3⟩
 ·have:=(yfn hn (k:=k) h.len).le i j hi hj
  have:=h.comp i j L hi hj h1;omega
 ·have:=ylx hn hk hi hj h.len
  have:=h.comp i k L1 hi hk h1;have:=h.comp k j L2 hk hj h2;omega
theorem FW.all {E:Nat->Nat->Prop} {n:Nat} {M:List Int} (hn:n<=60) (h:FW E n 0 M):FW E n n (yvz n M):=by
 have:∀m,m<=n->FW E n m ((List.range m).foldl (zea n) M):=by
  intro m
  induction m with
  |zero=>intro _;exact h
  |succ m ih=>
   intro hm;rw [List.range_succ,List.foldl_append];exact (ih (by omega)).round hn (by omega)
 exact this n (Nat.le_refl _)
def initRow (nd:List (List Int)) (M:List Int) (i:Nat):List Int:=
 (nd.getD i []).foldl (fun M x=>M.set (i*60+x.toNat) 1) ((List.range nd.length).foldl (fun M j=>M.set (i*60+j) 1000) M)
def zin (nd:List (List Int)):List Int:=(List.range nd.length).foldl (initRow nd) (List.replicate 3600 0)
def yiz (nd:List (List Int)):Prop:=nd.length<=60/\∀i,∀x∈nd.getD i [],0<=x/\x<nd.length
def zjl (nd:List (List Int)) (i j:Nat):Prop:=(j:Int)∈nd.getD i []
theorem yfo {i:Nat}:∀(l:List Nat) (M:List Int),(l.foldl (fun M j=>M.set (i*60+j) 1000) M).length=M.length
 |[],_=>rfl
 |x::l,M=>by rw [List.foldl_cons,yfo l];simp
theorem yql {i:Nat}:∀(l:List Int) (M:List Int),(l.foldl (fun M x=>M.set (i*60+x.toNat) 1) M).length=M.length
 |[],_=>rfl
 |x::l,M=>by rw [List.foldl_cons,yql l];simp
theorem yqm {i a b:Nat} (hi:i<60) (hb:b<60):∀(l:List Nat) (M:List Int),M.length=3600->(∀x∈l,x<60)->
  mg (l.foldl (fun M j=>M.set (i*60+j) 1000) M) a b=if a=i/\b∈l then 1000 else mg M a b
 |[],M,_,_=>by simp
 |x::l,M,hl,h=>by
  rw [List.foldl_cons,yqm hi hb l _ (by simpa using hl) (fun y hy=>h y (by simp [hy])),zws hl hi (h x (by simp)) hb]
  by_cases e:a=i<;>by_cases e2:b=x<;>by_cases e3:b∈l<;>simp [e,e2,e3]<;>(try (subst e2;simp_all))<;>(try omega)
theorem yqn {i a b:Nat} (hi:i<60) (hb:b<60):∀(l:List Int) (M:List Int),M.length=3600->(∀x∈l,0<=x/\x<60)->
  mg (l.foldl (fun M x=>M.set (i*60+x.toNat) 1) M) a b=if a=i/\(b:Int)∈l then 1 else mg M a b
 |[],M,_,_=>by simp
 |x::l,M,hl,h=>by
  have hx:=h x (by simp);rw [List.foldl_cons,yqn hi hb l _ (by simpa using hl) (fun y hy=>h y (by simp [hy])),zws hl hi (by omega) hb]
  by_cases e:a=i
  ·by_cases e3:(b:Int)∈l
   ·simp [e,e3]
   ·by_cases e2:(b:Int)=x
    ·have h1:b=x.toNat:=by omega
     rw [if_neg (fun h=>e3 h.2),if_pos ⟨e,h1⟩,if_pos ⟨e,by rw [e2];simp⟩]
    ·have:¬b=x.toNat:=by omega
     simp [e,e3,this,e2]
  ·simp [e]
theorem yfp {nd:List (List Int)} (hnd:yiz nd) {M:List Int} (hl:M.length=3600) {i a b:Nat} (hi:i<nd.length) (hb:b<nd.length):
  mg (initRow nd M i) a b=if a=i then (if (b:Int)∈nd.getD i [] then 1 else 1000) else mg M a b:=by
 have h60:=hnd.1;unfold initRow;rw [yqn (by omega) (by omega) _ _ (by rw [yfo,hl]) (fun x hx=>by have:=hnd.2 i x hx;omega),yqm (by omega) (by omega) _ _ hl (fun x hx=>by have:=List.mem_range.1 hx;omega)];have hbr:b∈List.range nd.length:=by simpa using hb
 by_cases e:a=i
 ·by_cases e2:(b:Int)∈nd.getD i []
  ·rw [if_pos ⟨e,e2⟩,if_pos e,if_pos e2]
  ·rw [if_neg (fun h=>e2 h.2),if_pos ⟨e,hbr⟩,if_pos e,if_neg e2]
 ·rw [if_neg (fun h=>e h.1),if_neg (fun h=>e h.1),if_neg e]
theorem ztx (nd:List (List Int)) (M:List Int) (i:Nat):(initRow nd M i).length=M.length:=by rw [initRow,yql,yfo]
theorem znd {nd:List (List Int)} (hnd:yiz nd) {a b:Nat} (ha:a<nd.length) (hb:b<nd.length):mg (zin nd) a b=if (b:Int)∈nd.getD a [] then 1 else 1000:=by
 have key:∀m,m<=nd.length->((List.range m).foldl (initRow nd) (List.replicate 3600 0)).length=3600/\∀a,a<m->mg ((List.range m).foldl (initRow nd) (List.replicate 3600 0)) a b=if (b:Int)∈nd.getD a [] then 1 else 1000:=by
  intro m
  induction m with
  |zero=>intro _;exact ⟨List.length_replicate,fun a ha=>by omega⟩
  |succ m ih=>
   intro hm;obtain ⟨h1,h2⟩:=ih (by omega);rw [List.range_succ,List.foldl_append];refine ⟨by rw [List.foldl_cons,List.foldl_nil,ztx,h1],fun a ha=>?_⟩;rw [List.foldl_cons,List.foldl_nil,yfp hnd h1 (by omega) hb]
   by_cases e:a=m
   ·subst e;simp
   ·rw [if_neg e,h2 a (by omega)]
 exact (key nd.length (Nat.le_refl _)).2 a ha
theorem yfq (nd:List (List Int)):(zin nd).length=3600:=by
 unfold zin;generalize List.range nd.length=l;have:∀(l:List Nat) (M:List Int),M.length=3600->(l.foldl (initRow nd) M).length=3600:=by
  intro l
  induction l with
  |nil=>intro M h;exact h
  |cons x l ih=>intro M h;rw [List.foldl_cons];exact ih _ (by rw [ztx,h])
 exact this l _ List.length_replicate
theorem ywa {nd:List (List Int)} (hnd:yiz nd):FW (zjl nd) nd.length 0 (zin nd):=by
 refine ⟨yfq nd,fun i j hi hj=>?_,fun i j hi hj h=>?_,fun i j L hi hj hw=>?_⟩
 ·rw [znd hnd hi hj];split<;>omega
 ·rw [znd hnd hi hj] at h ⊢
  split at h
  ·rename_i e
   exact ⟨1,.one e,by rw [if_pos e];rfl⟩
  ·omega
 ·cases hw with
  |one h=>rw [znd hnd hi hj,if_pos (show (j:Int)∈nd.getD i [] from h)];omega
  |step _ h _=>omega
def ww (nd:List (List Int)):List Int:=yvz nd.length (zin nd)
theorem zty {nd:List (List Int)} (hnd:yiz nd):FW (zjl nd) nd.length nd.length (ww nd):=(ywa hnd).all hnd.1
def zdf (M:List Int) (s:Int) (i:Nat):Int:=if mg M i i<1000/\(s<0\/mg M i i<mg M s.toNat s.toNat) then (i:Int) else s
def zbq (M:List Int) (n:Nat):Int:=(List.range n).foldl (zdf M) (-1)
theorem zki (M:List Int):∀n:Nat,(zbq M n= -1/\∀i,i<n->1000<=mg M i i)\/∃s:Nat,zbq M n=s/\s<n/\mg M s s<1000/\(∀i,i<n->mg M s s<=mg M i i)/\∀i,i<s->mg M s s<mg M i i
 |0=>.inl ⟨rfl,fun i hi=>by omega⟩
 |n+1=>by
  have e:zbq M (n+1)=zdf M (zbq M n) n:=by
   unfold zbq;rw [List.range_succ,List.foldl_append];rfl
  rw [e];rcases zki M n with ⟨h1,h2⟩|⟨s,h1,h2,h3,h4,h5⟩
  ·rw [h1]
   unfold zdf
   by_cases hc:mg M n n<1000
   ·rw [if_pos ⟨hc,.inl (by omega)⟩]
    refine .inr ⟨n,rfl,by omega,hc,fun i hi=>?_,fun i hi=>?_⟩
    ·by_cases e:i=n
     ·subst e;exact Int.le_refl _
     ·have:=h2 i (by omega);omega
    ·have:=h2 i (by omega);omega
   ·rw [if_neg (fun h=>hc h.1)]
    refine .inl ⟨rfl,fun i hi=>?_⟩
    by_cases e:i=n
    ·subst e;omega
    ·exact h2 i (by omega)
  ·rw [h1]
   unfold zdf;have hs:((s:Nat):Int).toNat=s:=by omega
   rw [hs]
   by_cases hc:mg M n n<1000/\(((s:Nat):Int)<0\/mg M n n<mg M s s)
   ·rw [if_pos hc]
    refine .inr ⟨n,rfl,by omega,hc.1,fun i hi=>?_,fun i hi=>?_⟩
    ·by_cases e:i=n
     ·subst e;exact Int.le_refl _
     ·have:=h4 i (by omega);omega
    ·have:=h4 i (by omega);omega
   ·rw [if_neg hc]
    refine .inr ⟨s,rfl,by omega,h3,fun i hi=>?_,h5⟩
    by_cases e:i=n
    ·subst e;omega
    ·exact h4 i (by omega)
def zio (nd:List (List Int)) (M:List Int) (start:Nat) (left:Int) (last:Nat):Option Int:=(nd.getD last []).find? fun x=>decide (mg M x.toNat start=left)
def zaz (nd:List (List Int)) (M:List Int) (start:Nat):Nat->Nat->List Int
 |0,_=>[]
 |left+1,last=>match zio nd M start (left+1:Nat) last with
  |some x=>x::zaz nd M start left x.toNat
  |none=>zaz nd M start left last
def zak (nd:List (List Int)):List Int:=
 let M:=ww nd
 let s:=zbq M nd.length
 if s<0 then [] else s::zaz nd M s.toNat (mg M s.toNat s.toNat-1).toNat s.toNat
theorem ztz {nd:List (List Int)} (hnd:yiz nd) {start:Nat} (hs:start<nd.length):∀(left last:Nat),last<nd.length->mg (ww nd) last start=(left+1:Nat)->left<999->
  (zaz nd (ww nd) start left last).length=left/\
  ∀k:Nat,∀x,(((last:Nat):Int)::zaz nd (ww nd) start left last)[k]?=some x->0<=x/\x<nd.length/\mg (ww nd) x.toNat start=((left+1-k:Nat):Int)/\
   ∀y,(((last:Nat):Int)::zaz nd (ww nd) start left last)[k+1]?=some y->y∈nd.getD x.toNat []
 |0,last,hl,hd,_=>by
  refine ⟨rfl,fun k x hx=>?_⟩;cases k with
  |zero=>
   simp only [zaz,List.getElem?_cons_zero,Option.some.injEq] at hx;subst hx;exact ⟨by omega,by omega,by simpa using hd,fun y hy=>by simp [zaz] at hy⟩
  |succ k=>simp [zaz] at hx
 |left+1,last,hl,hd,hlt=>by
  have hF:=zty hnd;have hex:∃x,zio nd (ww nd) start (left+1:Nat) last=some x/\0<=x/\x<nd.length/\x∈nd.getD last []/\mg (ww nd) x.toNat start=(left+1:Nat):=by
   obtain ⟨L,hw,he⟩:=hF.sound last start hl hs (by omega);have hL:L=left+2:=by omega
   subst hL;cases hw with
   |@step _ k _ _ h1 h2 h3=>
    have hk:mg (ww nd) k start=(left+1:Nat):=by
     have a1:=hF.comp k start (left+1) (by omega) hs h3;have a2:=hF.low k start (by omega) hs;obtain ⟨L',w',e'⟩:=hF.sound k start (by omega) hs (by omega);have:=hF.comp last start (L'+1) hl hs (.step h1 h2 w');omega
    have hne:zio nd (ww nd) start (left+1:Nat) last≠none:=by
     unfold zio;rw [Ne,List.find?_eq_none];intro hall;have:=hall (k:Int) h1;simp only [Int.toNat_natCast,hk,decide_true,not_true_eq_false] at this
    obtain ⟨x,hx⟩:=Option.ne_none_iff_exists'.1 hne;have hm:=List.mem_of_find?_eq_some hx;have hr:=hnd.2 last x hm;have hp:=List.find?_some hx;exact ⟨x,hx,hr.1,hr.2,hm,by simpa using hp⟩
  obtain ⟨x,hx,h0,h1,hm,hdx⟩:=hex;obtain ⟨g1,g2⟩:=ztz hnd hs left x.toNat (by omega) hdx (by omega);have hxn:((x.toNat:Nat):Int)=x:=by omega
  rw [hxn] at g2;have e:zaz nd (ww nd) start (left+1) last=x::zaz nd (ww nd) start left x.toNat:=by
   rw [zaz,hx]
  rw [e];refine ⟨by simp [g1],fun k y hy=>?_⟩;cases k with
  |zero=>
   simp only [List.getElem?_cons_zero,Option.some.injEq] at hy;subst hy;refine ⟨by omega,by omega,by simpa using hd,fun z hz=>?_⟩;simp only [List.getElem?_cons_succ,List.getElem?_cons_zero,Option.some.injEq] at hz;subst hz;simpa using hm
  |succ k=>
   rw [List.getElem?_cons_succ] at hy;obtain ⟨a1,a2,a3,a4⟩:=g2 k y hy;refine ⟨a1,a2,by rw [a3];congr 1;omega,fun z hz=>?_⟩;rw [List.getElem?_cons_succ] at hz;exact a4 z hz
theorem yfr {nd:List (List Int)} (hnd:yiz nd):(zak nd=[]/\∀i L,i<nd.length->¬WalkB (zjl nd) nd.length i i L)\/
  ∃s m:Nat,(zak nd)[0]?=some (s:Int)/\(zak nd).length=m/\1<=m/\m<1000/\s<nd.length/\(∀i L,i<nd.length->WalkB (zjl nd) nd.length i i L->m<=L)/\(∀i,i<nd.length->mg (ww nd) i i=m->s<=i)/\
   (∀k:Nat,∀x,(zak nd)[k]?=some x->0<=x/\x<nd.length/\mg (ww nd) x.toNat s=((m-k:Nat):Int)/\∀y,(zak nd)[k+1]?=some y->y∈nd.getD x.toNat []):=by
 have hF:=zty hnd;rcases zki (ww nd) nd.length with ⟨h1,h2⟩|⟨s,h1,h2,h3,h4,h5⟩
 ·left
  refine ⟨by simp [zak,h1],fun i L hi hw=>?_⟩;have hge:=h2 i hi;obtain ⟨L',h6,h7⟩:=WalkB.short hw hi;have:=hF.comp i i L' hi hi h7;have:=hnd.1;omega
 ·right
  obtain ⟨L,hw,he⟩:=hF.sound s s h2 h2 h3;have hlow:=hF.low s s h2 h2;have hs0:¬((s:Nat):Int)<0:=by omega
  have hsn:((s:Nat):Int).toNat=s:=by omega
  have hm1:(mg (ww nd) s s-1).toNat=L-1:=by omega
  have er:zak nd=(s:Int)::zaz nd (ww nd) s (L-1) s:=by
   simp only [zak,h1,if_neg hs0,hsn,hm1]
  obtain ⟨g1,g2⟩:=ztz hnd h2 (L-1) s h2 (by omega) (by omega);rw [er];have hlen:((s:Int)::zaz nd (ww nd) s (L-1) s).length=L:=by rw [List.length_cons,g1];omega
  refine ⟨s,L,rfl,hlen,by omega,by omega,h2,fun i L' hi hw'=>?_,fun i hi hm=>?_,fun k x hx=>?_⟩
  ·have:=hF.comp i i L' hi hi hw'
   have:=h4 i hi;omega
  ·rcases Nat.lt_or_ge i s with h'|h'
   ·have:=h5 i h';omega
   ·exact h'
  ·obtain ⟨a1,a2,a3,a4⟩:=g2 k x hx
   exact ⟨a1,a2,by rw [a3];congr 1;omega,a4⟩
end Go.Proofs.YtblpjknmhajcgaaGreatDoor
namespace Go.Sh
section
variable {P:Program} {G:List (Nat × D)} {w:World} {I:Imm} {β:List Bnd} {H:List SObj}
theorem yly {t:TypeId} {len k:Nat} {ss:List (Nat × SV)} {ps:Array (Nat × Value)} {rows:List (List D)} (h:qz P t len ss H=some (.imm (.isl k rows),H)) (hrl:rows.length=len) (hH:HeapOK G w I β H) (hp:RepParts w I β ps.toList ss):
  ∃u w' I' β',(Instr.buildSlice t len ps).run P w= .ok u w'/\Rep w' I' β' u (.asl H.length k rows)/\HeapOK G w' I' β' (H++[.tok k len])/\Ext H.length w I β H w' I' β' (H++[.tok k len]):=by
 unfold qz at h;split at h<;>first|(cases h;done)|skip
 rename_i e hu
 split at h<;>first|(cases h;done)|skip
 rename_i k' z hk hz
 split at h
 ·cases h
 rename_i hbig
 split at h
 ·split at h<;>cases h
 ·rename_i h0
  split at h<;>first|(cases h;done)|skip
  rename_i rows' hf
  split at h<;>first|(cases h;done)|skip
  rename_i hpl
  cases h;have hz0:¬len*k=0:=by
   intro hc;rcases Nat.mul_eq_zero.1 hc with hc|hc
   ·exact h0 hc
   ·exact hbig (.inr hc)
  have hlk:len<=len*k:=Nat.le_mul_of_pos_right len (Nat.pos_of_ne_zero fun h=>hbig (.inr h));have hb24:¬len*k>2 ^ 24:=fun h=>hbig (.inl h)
  obtain ⟨vs',B,h1,h2,h3,h4⟩:=zxu (vs:=(Array.range (len*k)).map (z.cells[· % z.cells.size]!)) hf hp (by simp [hpl]);simp only [Nat.zero_mul,List.take_zero,List.nil_append] at h2;obtain ⟨h5,h6⟩:=hH.allocTok (m:=H.length) (k:=k) (n:=len) (cap:=len) (vs:=vs') (T:=e) (by rw [<-Array.length_toList,h2, <-hrl];exact h3.1) (Nat.le_refl _) (by unfold maxLen;omega);have hrun:(Instr.buildSlice t len ps).run P w= .ok (.slice (some ⟨w.heap.size,0,none⟩) len len) (w.alloc (.cells vs' e)):=by
   simp only [Instr.buildSlice,Sem.run_bind,run_underlying hu,Result.andThen_ok,wi hk];rw [if_neg (fun h=>hbig (.inl h)),if_neg hz0];simp only [Sem.run_pure,Sem.run_bind,Result.andThen_ok,zcv hz,h1,newRow,run_newObj];rfl
  refine ⟨_,_,_,_,hrun,.asl H.length k rows _ _ len ?_ (by rw [<-hH.len];simp) ⟨_,len,rfl⟩ (by omega) (fun _=>rfl),h5,h6⟩;have:=(h3.mono h6.imm h6.cell).drep (by omega) (fun o ho=>⟨.inr ⟨rfl,ho⟩,by rw [wg (wj _), <-h2];simp⟩) (Nat.le_refl _) (by unfold maxLen;omega);exact this
end
section
variable {P:Program} {G:List (Nat × D)} {fn:Func} {rd:Bool} {E:En P G fn rd} {t:List (Nat × SV)} {H K:List SObj} {k:List Item} {m:Nat} {all:Array Oper} {rest:List Oper} {done:List Eff} {o:Oper}
theorem zwu {ty len kk:Nat} {ps:Array (Nat × Operand)} {rows:List (List D)} (hop:o.op= .buildSlice ty len ps) (hw:yq all t o.guard=some true) (hd:yv fn.ntmps o.dst=true)
  (hb:qz P ty len (ps.toList.map fun p=>(p.1,zq G t p.2)) H=some (.imm (.isl kk rows),H)) (hrl:rows.length=len)
  (h:SWr E all rest k (wz t o.dst (.asl H.length kk rows)) (H++[.tok kk len])):SWr E all (o::rest) k t H:=by
 refine zce hw hd (fun c e=>by rw [hop] at e;cases e) (by simp) (fun ρ w I β hH hev=>?_) h;obtain ⟨dst,op,type,pos,after,guard⟩:=o;simp only at hop;subst hop;obtain ⟨u,w',I',β',h1,h2,h3,h4⟩:=yly (ps:=ps.map fun p=>(p.1,ρ p.2)) hb hrl hH (by simpa using zjq hev ps.toList);exact OpRun.value h1 h2 h3 h4
theorem yqo {ty e n len:Nat} {x ix:Operand} {b off i:Nat} {mm:Int} {kk:IntKind} (hx:zq G t x= .ptr b off) (hi:zq G t ix= .imm (.val (.int kk mm)))
  (hu:P.underlying ty=some (.array len e)) (hn:qm P e=some n) (hmm:mm=(i:Int)) (hr:i<len) (H:List SObj):sop P (.indexAddr ty x ix) (zq G t) H=some (.ptr b (off+i*n),H):=by
 subst hmm;simp only [sop,hi,zbj,hu,hn,hx];rw [if_pos (by omega)];simp
theorem zkj {ty e n len:Nat} {x ix:Operand} {b off i:Nat} {mm:Int} {kk:IntKind} (hop:o.op= .indexAddr ty x ix)
  (hw:yq all t o.guard=some true) (hd:yv fn.ntmps o.dst=true) (hx:zq G t x= .ptr b off) (hi:zq G t ix= .imm (.val (.int kk mm)))
  (hu:P.underlying ty=some (.array len e)) (hn:qm P e=some n) (hmm:mm=(i:Int)) (hr:i<len)
  (h:SWr E all rest k (wz t o.dst (.ptr b (off+i*n))) H):SWr E all (o::rest) k t H:=
 zdn hw hd (by rw [hop];exact yqo hx hi hu hn hmm hr H) (Nat.le_refl _) h
theorem zdg {ty e n len:Nat} {x ix:Operand} {b off i:Nat} {mm:Int} {kk:IntKind} (hop:o.op= .indexAddr ty x ix)
  (hw:yq all t o.guard=some true) (hd:yv fn.ntmps o.dst=true) (hx:zq G t x= .ptr b off) (hi:zq G t ix= .imm (.val (.int kk mm)))
  (hu:P.underlying ty=some (.array len e)) (hn:qm P e=some n) (hm:m<=K.length) (hmm:mm=(i:Int)) (hr:i<len)
  (h:SWe E m all rest k (wz t o.dst (.ptr b (off+i*n))) K (done++[⟨.ptr b (off+i*n),[],none⟩])):SWe E m all (o::rest) k t K done:=
 qp ⟨.ptr b (off+i*n),[],none⟩ hw hd hm (fun K' _ _=>by rw [hop];exact yqo hx hi hu hn hmm hr K') h
end
end Go.Sh
namespace Go.Proofs.YtblpjknmhajcgaaGreatDoor
open Go Go.Sh
variable (G:List (Nat × D))
abbrev zhr (M:List Int):SObj:=.cells (M.map sI)
theorem zgu {M:List Int} (hl:M.length=3600) {i j:Nat} (hi:i<60) (hj:j<60) {off:Nat} (ho:off=i*60+j):znl Tryz.prog 3 (M.map sI) off=some (sI (mg M i j)):=by
 subst ho;show (M.map sI)[i*60+j]?=_;rw [List.getElem?_map,mg,List.getD_eq_getElem?_getD];have:i*60+j<M.length:=by omega
 rw [List.getElem?_eq_getElem this];rfl
section
variable {P:Program} {G:List (Nat × D)} {fn:Func} {rd:Bool} {E:En P G fn rd} {t:List (Nat × SV)} {H K:List SObj} {k:List Item} {m:Nat} {all:Array Oper} {rest:List Oper} {done:List Eff} {o:Oper}
theorem ylz {ty:Nat} {v:SV} (hop:o.op= .build ty #[]) (hw:yq all t o.guard=some true) (hd:yv fn.ntmps o.dst=true) (hb:zsg P ty []=some v) (h:SWr E all rest k (wz t o.dst v) H):SWr E all (o::rest) k t H:=
 zdn (r:=v) (H':=H) hw hd (by rw [hop];simp only [sop,List.map_nil,hb,Option.map_some]) (Nat.le_refl _) h
theorem yqp {ty:Nat} {cs:List SV} (hop:o.op= .alloc ty) (hw:yq all t o.guard=some true) (hd:yv fn.ntmps o.dst=true) (hz:(zbb P ty).map zek=some cs) (h:SWr E all rest k (wz t o.dst (.ptr H.length 0)) (H++[.cells cs])):SWr E all (o::rest) k t H:=by
 obtain ⟨z,h1,h2⟩:=Option.map_eq_some_iff.1 hz;exact zdn (r:=.ptr H.length 0) (H':=H++[.cells cs]) hw hd (by rw [hop];simp only [sop,h1,Option.map_some,h2]) (by simp) h
theorem zll {ty:Nat} {ax vx:Operand} {b off p:Nat} {M:List Int} {v:Int} (hop:o.op= .store ty ax vx) (hw:yq all t o.guard=some true) (hd:yv fn.ntmps o.dst=true) (ha:zq G t ax= .ptr b off) (hv:zq G t vx=sI v) (hsz:qm P ty=some 1)
  (hb:H[b]?=some (zhr M)) (ho:off=p) (hp:p<M.length) (h:SWr E all rest k (wz t o.dst .any) (H.set b (zhr (M.set p v)))):SWr E all (o::rest) k t H:=by
 have e:zhr (M.set p v)= .cells ((M.take p).map sI++sI v::(M.drop (p+1)).map sI):=by rw [zmz sI M p hp v]
 rw [e] at h;exact zbe (zz:=sI (M[p]'hp)) (d:=(M.take p).map sI) (r:=(M.drop (p+1)).map sI) hop hw hd ha hv rfl rfl hsz (by rw [hb,zhr,zeu sI M p hp]) (by rw [ho,List.length_map,List.length_take];omega) h
theorem zwv {ty:Nat} {ax vx:Operand} {b off p:Nat} {M:List Int} {v:Int} (hop:o.op= .store ty ax vx) (hw:yq all t o.guard=some true) (hd:yv fn.ntmps o.dst=true) (ha:zq G t ax= .ptr b off) (hv:zq G t vx=sI v) (hsz:qm P ty=some 1) (hm:m<=K.length)
  (hb:K[b]?=some (zhr M)) (ho:off=p) (hp:p<M.length) (h:SWe E m all rest k (wz t o.dst .any) (K.set b (zhr (M.set p v))) (done++[⟨.any,[b],some (b,zhr (M.set p v))⟩])):SWe E m all (o::rest) k t K done:=by
 have e:zhr (M.set p v)= .cells ((M.take p).map sI++sI v::(M.drop (p+1)).map sI):=by rw [zmz sI M p hp v]
 rw [e] at h;exact zfw (zz:=sI (M[p]'hp)) (d:=(M.take p).map sI) (r:=(M.drop (p+1)).map sI) hop hw hd ha hv rfl rfl hsz hm (by rw [hb,zhr,zeu sI M p hp]) (by rw [ho,List.length_map,List.length_take];omega) h
end
theorem ywb:zsg Tryz.prog 84 []=some (.agg (List.replicate 3600 (sI 0))):=by kernel_rfl
theorem ywc:(zbb Tryz.prog 84).map zek=some (List.replicate 3600 (sI 0)):=by kernel_rfl
def Bd (M:List Int):Prop:=M.length=3600/\∀x∈M,0<=x/\x<=1000
theorem Bd.set {M:List Int} (h:Bd M) (p:Nat) {v:Int} (hv:0<=v/\v<=1000):Bd (M.set p v):=⟨by rw [List.length_set];exact h.1,fun x hx=>by
 rcases List.mem_or_eq_of_mem_set hx with hx|rfl
 ·exact h.2 x hx
 ·exact hv⟩
theorem Bd.mg {M:List Int} (h:Bd M) (i j:Nat):0<=mg M i j/\mg M i j<=1000:=by
 unfold Go.Proofs.YtblpjknmhajcgaaGreatDoor.mg;rw [List.getD_eq_getElem?_getD];cases hg:M[i*60+j]? with
 |none=>simp
 |some x=>exact h.2 x (List.mem_of_getElem? hg)
theorem Bd.cell {M:List Int} (h:Bd M) (k i j:Nat):Bd (zex k i M j):=by
 have h1:=h.mg i j;have h2:=h.mg i k;have h3:=h.mg k j;exact h.set _ (by omega)
theorem Bd.row {M:List Int} (h:Bd M) (n k i:Nat):Bd (zvs n k M i):=xz (Q:=Bd) _ (fun _ j _ h=>h.cell k i j) M h
theorem Bd.round {M:List Int} (h:Bd M) (n k:Nat):Bd (zea n M k):=xz (Q:=Bd) _ (fun _ i _ h=>h.row n k i) M h
theorem Bd.initRow {M:List Int} (h:Bd M) (nd:List (List Int)) (i:Nat):Bd (initRow nd M i):=by
 unfold Go.Proofs.YtblpjknmhajcgaaGreatDoor.initRow;refine xz (Q:=Bd) _ (fun _ _ _ h=>h.set _ (by decide)) _ ?_;exact xz (Q:=Bd) _ (fun _ _ _ h=>h.set _ (by decide)) M h
theorem Bd.zero:Bd (List.replicate 3600 0):=⟨by rw [List.length_replicate],fun x hx=>by rw [(List.mem_replicate.1 hx).2];decide⟩
theorem zga {α:Type} (f:α->Nat->α) (M:α) (i:Nat):(List.range (i+1)).foldl f M=f ((List.range i).foldl f M) i:=by rw [List.range_succ,List.foldl_append];rfl
theorem yxx (c:Codex) (hfit:Codex.fit c) (hN:zv c=true->NeedC c) (h60:zv c=true->c.arts.length<=60) (hnd:zv c=true->yiz (yc c)) (hlen:∀j:Nat,(xe c j).length<=1000000) (hz:c.arts.length<=1000000):
  zw Tryz.prog G 19 [c.sv] (if zv c=true/\zak (yc c)≠[] then .imm (zi (zak (yc c))) else zdp):=by
 have hal:(c.arts.map Article.cells).length=c.arts.length:=by simp
 have hV:=zbh G c hfit;refine zc Tryz.func19 rfl (by rw [Tryz.ntmps19];simp) rfl (by split<;>rfl) ?_;intro E hH hK;generalize hz2:zv c=z at hV hN hK h60 hnd;rw [show c.sv= .agg [.imm (zj c.facts),.imm (zj c.lines),.imm (yl c.arts)] from rfl];(refine zf ?_;conv=>whnf);refine ze rfl  hV ?_;cases z
 ·(refine za ?_;conv=>whnf)
  exact hK _
 have hN:=hN rfl;have h60:=h60 rfl;have hnd:=hnd rfl;have hndl:=jp c;(refine we [777,25] 1000 ?_;conv=>whnf);rw [hal];obtain ⟨M0,hM0⟩:∃M0:List Int,M0=List.replicate 3600 0:=⟨_,rfl⟩;have hB0:Bd M0:=hM0 ▸ Bd.zero;have hm0:List.replicate 3600 (sI 0)=M0.map sI:=by rw [hM0,List.map_replicate]
 have b84:=ywb;have a84:=ywc;rw [hm0] at b84 a84;refine ylz rfl rfl rfl b84 ?_;refine yqp rfl rfl rfl a84 ?_;refine zkb (b:=1) (n:=3600) (new:=M0.map sI) (old:=M0.map sI) rfl rfl rfl rfl rfl (by rw [<-hm0,List.all_replicate];rfl) (by kernel_rfl) (by rw [List.length_map];exact hB0.1) rfl (by rw [List.length_map];exact hB0.1) ?_;refine Eq.mpr (congrArg (fun h=>SWr E _ _ _ _ h) (show _=[zav c,zhr M0] from rfl)) ?_;(refine za ?_;conv=>whnf);refine yig (n:=c.arts.length) (zz:=zdp) rfl rfl rfl rfl rfl rfl rfl rfl rfl ⟨by decide,rfl⟩ rfl rfl rfl (by omega) ?_;(refine za ?_;conv=>whnf);refine zg [1,3,4,5,28,29] ?_;change SW E _ [(1,.ptr 0 0),(3,sI c.arts.length),(4,.ptr 1 0),(5,.osl 2 0 c.arts.length),(28,sI c.arts.length),(29,sI 0)] [zav c,zhr M0,.cells (List.replicate c.arts.length zdp)];have hBi:∀i,Bd ((List.range i).foldl (initRow (yc c)) M0):=fun i=>xz (Q:=Bd) _ (fun _ j _ h=>h.initRow _ j) M0 hB0
 refine zo c.arts (fun i (_:Unit)=>[(1,.ptr 0 0),(3,sI c.arts.length),(4,.ptr 1 0),(5,.osl 2 0 c.arts.length),(28,sI c.arts.length),(29,sI i)]) (fun i _=>[zav c,zhr ((List.range i).foldl (initRow (yc c)) M0),.cells (((yc c).take i).map (fun l=>SV.imm (zi l))++List.replicate (c.arts.length-i) zdp)])
  (fun _ _ _=>True) () trivial ?_ ?_
 ·rintro _ _
  rw [Nat.sub_self,List.replicate_zero,List.append_nil,List.take_of_length_le (by rw [jp];exact Nat.le_refl _)];have hB1:=hBi c.arts.length;have hI:(List.range c.arts.length).foldl (initRow (yc c)) M0=zin (yc c):=by rw [zin,hndl,hM0]
  have hDi:ww (yc c)=(List.range c.arts.length).foldl (zea c.arts.length) (zin (yc c)):=by rw [ww,yvz,hndl]
  rw [hI] at hB1 ⊢;generalize zin (yc c)=M1 at hB1 hDi ⊢;(refine zf ?_;conv=>whnf)
  repeat' ((with_reducible refine way ?_ ?_)<;>(intro h;conv=>whnf))
  all_goals try (exfalso;omega)
  refine zg [1,3,4,5,62,63] ?_;have hBk:∀k,Bd ((List.range k).foldl (zea c.arts.length) M1):=fun k=>xz (Q:=Bd) _ (fun _ j _ h=>h.round _ j) M1 hB1
  change SW E _ [(1,.ptr 0 0),(3,sI c.arts.length),(4,.ptr 1 0),(5,.osl 2 0 c.arts.length),(62,sI c.arts.length),(63,sI 0)] [zav c,zhr (M1),.cells (zqy c)];refine zo (List.range c.arts.length) (fun k (_:Unit)=>[(1,.ptr 0 0),(3,sI c.arts.length),(4,.ptr 1 0),(5,.osl 2 0 c.arts.length),(62,sI c.arts.length),(63,sI k)]) (fun k _=>[zav c,zhr ((List.range k).foldl (zea c.arts.length) M1),.cells (zqy c)]) (fun _ _ _=>True) () trivial ?_ ?_
  ·rintro _ _
   rw [List.length_range, <-hDi];have hBD:=hBk c.arts.length;rw [<-hDi] at hBD;clear hDi hBk hBi hB1 hM0 hB0 hm0 b84 a84;have hro:zak (yc c)=if zbq (ww (yc c)) c.arts.length<0 then [] else zbq (ww (yc c)) c.arts.length::zaz (yc c) (ww (yc c)) (zbq (ww (yc c)) c.arts.length).toNat (mg (ww (yc c)) (zbq (ww (yc c)) c.arts.length).toNat (zbq (ww (yc c)) c.arts.length).toNat-1).toNat (zbq (ww (yc c)) c.arts.length).toNat:=by rw [zak,hndl]
   have hlow:∀i j,i<c.arts.length->j<c.arts.length->1<=mg (ww (yc c)) i j:=fun i j hi hj=>(zty hnd).low i j (by rw [hndl];exact hi) (by rw [hndl];exact hj)
   generalize ww (yc c)=D at hBD hro hlow ⊢;(refine zf ?_;conv=>whnf)
   repeat' ((with_reducible refine way ?_ ?_)<;>(intro h;conv=>whnf))
   all_goals try (exfalso;omega)
   refine zg [1,3,4,5,13,98,99] ?_;change SW E _ [(1,.ptr 0 0),(3,sI c.arts.length),(4,.ptr 1 0),(5,.osl 2 0 c.arts.length),(13,sI (-1)),(98,sI c.arts.length),(99,sI 0)] [zav c,zhr D,.cells (zqy c)];refine zo (List.range c.arts.length) (fun i (s:Int)=>[(1,.ptr 0 0),(3,sI c.arts.length),(4,.ptr 1 0),(5,.osl 2 0 c.arts.length),(13,sI s),(98,sI c.arts.length),(99,sI i)]) (fun _ _=>[zav c,zhr D,.cells (zqy c)])
    (fun done _ s=>s=zbq D done.length/\(s= -1\/0<=s/\s<c.arts.length)) (-1) ⟨rfl,.inl rfl⟩ ?_ ?_
   ·rintro s ⟨s1,s2⟩
    rw [List.length_range] at s1 ⊢;rw [<-s1] at hro
    by_cases hs0:s<0
    ·rw [if_pos hs0] at hro
     rw [hro,if_neg (by simp)] at hK;(refine zf ?_;conv=>whnf)
     repeat' ((with_reducible refine way ?_ ?_)<;>(intro h;conv=>whnf))
     all_goals try (exfalso;omega)
     exact hK _
    rw [if_neg hs0] at hro;rw [if_pos ⟨rfl,by rw [hro];simp⟩] at hK;have hss:=hBD.mg s.toNat s.toNat;have hsl:=hlow s.toNat s.toNat (by omega) (by omega);(refine qs [777,130] 1000 ?_;conv=>whnf)
    repeat' ((with_reducible refine way ?_ ?_)<;>(intro h;conv=>whnf))
    all_goals try (exfalso;omega)
    refine zwu (rows:=[[dI s]]) (kk:=1) rfl rfl rfl rfl rfl ?_;(refine we [777,133] 1000 ?_;conv=>whnf);refine zkj (i:=s.toNat) (n:=60) rfl rfl rfl rfl rfl rfl (by rfl) (Int.toNat_of_nonneg (by omega)).symm (by omega) ?_;refine zkj (i:=s.toNat) (n:=1) rfl rfl rfl rfl rfl rfl (by rfl) (Int.toNat_of_nonneg (by omega)).symm (by omega) ?_;refine wt (v:=sI (mg D s.toNat s.toNat)) rfl rfl rfl rfl rfl (zgu hBD.1 (i:=s.toNat) (j:=s.toNat) (by omega) (by omega) (by omega)) ?_;(refine za ?_;conv=>whnf);refine zg [4,5,13,15,16] ?_;have hw0:IntKind.i64.wrap (mg D s.toNat s.toNat-1)=(((mg D s.toNat s.toNat-1).toNat:Nat):Int):=by
     rw [yz (c:=mg D s.toNat s.toNat-1) (by omega) (by omega)];omega
    change SW E _ [(4,.ptr 1 0),(5,.osl 2 0 c.arts.length),(13,sI s),(15,.asl 3 1 ((([]:List Int)++[s]).map fun n=>[dI n])),(16,sI (IntKind.i64.wrap (mg D s.toNat s.toNat-1)))] [zav c,zhr D,.cells (zqy c),.tok 1 1];rw [hw0];refine xc (σ:=Nat × List Int × Int) (fun x=>[(4,.ptr 1 0),(5,.osl 2 0 c.arts.length),(13,sI s),(15,.asl 3 1 ((x.2.1++[x.2.2]).map fun n=>[dI n])),(16,sI x.1)]) (fun x=>[zav c,zhr D,.cells (zqy c),.tok 1 ((x.2.1++[x.2.2]).map fun n=>[dI n]).length])
     (fun x=>zak (yc c)=x.2.1++[x.2.2]++zaz (yc c) D s.toNat x.1 x.2.2.toNat/\0<=x.2.2/\x.2.2<c.arts.length/\x.2.1.length+x.1<=1000) (fun x=>x.1) ?_ ((mg D s.toNat s.toNat-1).toNat,[],s) ⟨by rw [hro];rfl,by simp only;omega,by simp only;omega,by simp only [List.length_nil];omega⟩
    rintro ⟨left,P,last⟩ ⟨r1,r2,r3,r4⟩ ihl;simp only at r1 r2 r3 r4 ihl;show SW E _ [(4,.ptr 1 0),(5,.osl 2 0 c.arts.length),(13,sI s),(15,.asl 3 1 ((P++[last]).map fun n=>[dI n])),(16,sI left)] [zav c,zhr D,.cells (zqy c),.tok 1 ((P++[last]).map fun n=>[dI n]).length];have hPl:((P++[last]).map fun n=>[dI n]).length=P.length+1:=by simp
    cases left with
    |zero=>
     rw [zaz,List.append_nil] at r1;rw [r1] at hK;refine zay ?_;change SW E _ [(4,.ptr 1 0),(5,.osl 2 0 c.arts.length),(13,sI s),(15,.imm (zi (P++[last]))),(16,sI 0)] _;(refine zf ?_;conv=>whnf);exact hK _
    |succ left=>
     have hbg:(zqy c)[last.toNat]?=some (.imm (zi (xe c (last.toNat:Int)))):=by rw [zqy,List.getElem?_map,zcr (by omega)];rfl
     have hgd:(yc c).getD last.toNat []=xe c (last.toNat:Int):=by rw [List.getD_eq_getElem?_getD,zcr (by omega)];rfl
     have hnr:∀y∈xe c (last.toNat:Int),0<=y/\y<c.arts.length:=fun y hy=>by
      have:=hnd.2 last.toNat y (by rw [hgd];exact hy);rw [hndl] at this;exact this
     have hnl:=hlen last.toNat;have hrg:zaz (yc c) D s.toNat (left+1) last.toNat=match (xe c (last.toNat:Int)).find? (fun x=>decide (mg D x.toNat s.toNat=((left+1:Nat):Int))) with|some x=>x::zaz (yc c) D s.toNat left x.toNat|none=>zaz (yc c) D s.toNat left last.toNat:=by rw [zaz,zio,hgd];try rfl
     rw [hrg] at r1;generalize xe c (last.toNat:Int)=nl at hbg hnr hnl r1;have hwl:IntKind.i64.wrap (((left+1:Nat):Int)-1)=((left:Nat):Int):=by rw [yz (c:=((left+1:Nat):Int)-1) (by omega) (by omega)];omega
     have hwp:IntKind.i64.wrap ((((P++[last]).map fun n=>[dI n]).length:Int)-1)=((P.length:Nat):Int):=by rw [hPl,yz (c:=((P.length+1:Nat):Int)-1) (by omega) (by omega)];omega
     (refine zf ?_;conv=>whnf)
     repeat' ((with_reducible refine way ?_ ?_)<;>(intro h;conv=>whnf))
     all_goals try (exfalso;omega)
     refine zh rfl  hwp (row:=[dI last]) (by simp) ?_;(refine we [777,148] 1000 ?_;conv=>whnf);refine zfy (i:=last.toNat) rfl rfl rfl rfl rfl rfl rfl (Int.toNat_of_nonneg r2).symm (by omega) ?_;refine wt (v:=.imm (zi nl)) rfl rfl rfl rfl rfl (by show (zqy c)[0+last.toNat*1]?=_;rw [Nat.zero_add,Nat.mul_one];exact hbg) ?_;(refine za ?_;conv=>whnf);refine zg [4,5,13,15,16,149,150,151] ?_;have hnl2:(nl.map fun n=>[dI n]).length=nl.length:=by simp
     change SW E _ [(4,.ptr 1 0),(5,.osl 2 0 c.arts.length),(13,sI s),(15,.asl 3 1 ((P++[last]).map fun n=>[dI n])),(16,sI ((left+1:Nat):Int)),(149,.imm (zi nl)),(150,sI (nl.map fun n=>[dI n]).length),(151,sI 0)] [zav c,zhr D,.cells (zqy c),.tok 1 ((P++[last]).map fun n=>[dI n]).length];have hu4:∀m,[zav c,zhr D,SObj.cells (zqy c),SObj.tok 1 m].all (SObj.under 4)=true:=fun m=>by
      have h1:(zhr D).under 4=true:=znc _ _ _;have h2:(SObj.cells (zqy c)).under 4=true:=znc _ _ _;simp only [List.all_cons,List.all_nil,h1,h2,Bool.and_true];rfl
     refine zo nl (fun i (_:Unit)=>[(4,.ptr 1 0),(5,.osl 2 0 c.arts.length),(13,sI s),(15,.asl 3 1 ((P++[last]).map fun n=>[dI n])),(16,sI ((left+1:Nat):Int)),(149,.imm (zi nl)),(150,sI (nl.map fun n=>[dI n]).length),(151,sI i)]) (fun _ _=>[zav c,zhr D,.cells (zqy c),.tok 1 ((P++[last]).map fun n=>[dI n]).length])
      (fun done _ _=>∀x∈done,decide (mg D x.toNat s.toNat=((left+1:Nat):Int))=false) () (by simp) ?_ ?_
     ·rintro _ g1
      have hfn:nl.find? (fun x=>decide (mg D x.toNat s.toNat=((left+1:Nat):Int)))=none:=List.find?_eq_none.2 fun x hx=>by rw [g1 x hx];decide
      rw [hfn] at r1;(refine zf ?_;conv=>whnf)
      repeat' ((with_reducible refine way ?_ ?_)<;>(intro h;conv=>whnf))
      all_goals try (exfalso;omega)
      rw [hwl];refine zg [4,5,13,15,16] ?_;exact ihl (left,P,last) ⟨r1,r2,r3,by simp only;omega⟩ (by simp only;omega)
     ·rintro dx y rx _ hdax hdlx g1 ihx
      have hwx:=zk (n:=dx.length) (by omega);have hry:(nl.map fun n=>[dI n])[((dx.length:Nat):Int).toNat]?=some [dI y]:=by simp [hdax]
      have hyr:=hnr y (by rw [hdax];simp);(refine zf ?_;conv=>whnf)
      repeat' ((with_reducible refine way ?_ ?_)<;>(intro h;conv=>whnf))
      all_goals try (exfalso;omega)
      refine zh rfl rfl  hry ?_;(refine we [777,157] 1000 ?_;conv=>whnf);refine zkj (i:=y.toNat) (n:=60) rfl rfl rfl rfl rfl rfl (by rfl) (Int.toNat_of_nonneg hyr.1).symm (by omega) ?_;(refine we [777,158] 1000 ?_;conv=>whnf);refine zkj (i:=s.toNat) (n:=1) rfl rfl rfl rfl rfl rfl (by rfl) (Int.toNat_of_nonneg (by omega)).symm (by omega) ?_;refine wt (v:=sI (mg D y.toNat s.toNat)) rfl rfl rfl rfl rfl (zgu hBD.1 (i:=y.toNat) (j:=s.toNat) (by omega) (by omega) (by omega)) ?_;(refine za ?_;conv=>whnf)
      by_cases he:mg D y.toNat s.toNat=((left+1:Nat):Int)
      ·have hfs:nl.find? (fun x=>decide (mg D x.toNat s.toNat=((left+1:Nat):Int)))=some y:=by
        rw [hdax,List.find?_append,List.find?_eq_none.2 (fun x hx=>by rw [g1 x hx];decide),Option.none_or,List.find?_cons,decide_eq_true he]
       rw [hfs] at r1
       repeat' ((with_reducible refine way ?_ ?_)<;>(intro h;conv=>whnf))
       all_goals try (exfalso;omega)
       refine wm (b:=3) (kk:=1) (rows:=(P++[last]).map fun n=>[dI n]) (new:=[[dI y]]) rfl ⟨by decide,rfl⟩ rfl (by rw [hPl];simp only [List.length_cons,List.length_nil];omega) ?_;have e5:((P++[last]).map fun n=>[dI n])++[[dI y]]=((P++[last])++[y]).map fun n=>[dI n]:=by simp
       have e6:((P++[last]).map fun n=>[dI n]).length+[[dI y]].length=(((P++[last])++[y]).map fun n=>[dI n]).length:=by simp
       refine Eq.mpr (congrArg (fun v=>SWr E _ _ _ (wz _ _ (.asl 3 1 v)) _) e5) ?_;refine Eq.mpr (congrArg (fun v=>SWr E _ _ _ _ (List.set _ 3 (.tok 1 v))) e6) ?_;(refine za ?_;conv=>whnf);rw [hwl];refine zg [4,5,13,15,16] ?_;exact ihl (left,P++[last],y) ⟨by simp only;rw [r1];simp,hyr.1,hyr.2,by simp only [List.length_append,List.length_cons,List.length_nil];omega⟩ (by simp only;omega)
      ·repeat' ((with_reducible refine way ?_ ?_)<;>(intro h;conv=>whnf))
       all_goals try (exfalso;omega)
       rw [hwx];refine zg [4,5,13,15,16,149,150,151] ?_;refine ihx () fun x hx=>?_
       rcases List.mem_append.1 hx with hx|hx
       ·exact g1 x hx
       ·simp at hx;rw [hx];exact decide_eq_false he
   ·rintro di xi ri s hdai hdli ⟨s1,s2⟩ ihi
    rw [List.length_range] at hdli;have hwi:=zk (n:=di.length) (by omega);have hst:zbq D (di.length+1)=zdf D s di.length:=by rw [zbq,zga, <-zbq, <-s1]
    (refine zf ?_;conv=>whnf)
    repeat' ((with_reducible refine way ?_ ?_)<;>(intro h;conv=>whnf))
    all_goals try (exfalso;omega)
    (refine zu 0 mixed rfl ?_;refine zb [777,104] (nx:=3) ?_;conv=>whnf);refine zdg (i:=di.length) (n:=60) rfl rfl rfl rfl rfl rfl (by rfl) (show 3<=3 by decide) rfl (by omega) ?_;refine zdg (i:=di.length) (n:=1) rfl rfl rfl rfl rfl rfl (by rfl) (show 3<=3 by decide) rfl (by omega) ?_;refine zad (v:=sI (mg D di.length di.length)) rfl rfl rfl (show 3<=3 by decide) rfl rfl (zgu hBD.1 (i:=di.length) (j:=di.length) (by omega) (by omega) (by omega)) ?_;refine qp ⟨sB (decide (mg D di.length di.length<1000)),[],none⟩ rfl rfl (show 3<=3 by decide) (fun _ _ _=>rfl) ?_
    by_cases hc:mg D di.length di.length<1000
    ·rw [decide_eq_true hc]
     (refine zb [777,110] (nx:=3) ?_;conv=>whnf);refine qp ⟨sB (decide (s<0)),[],none⟩ rfl rfl (show 3<=3 by decide) (fun _ _ _=>rfl) ?_
     by_cases hs0:s<0
     ·rw [decide_eq_true hs0]
      (refine zb [777,124] (nx:=3) ?_;conv=>whnf);refine qp ⟨sB true,[],none⟩ rfl rfl (show 3<=3 by decide) (fun _ _ _=>rfl) ?_;refine qt (by kernel_rfl) ?_;(refine zf ?_;conv=>whnf);rw [hwi];refine zg [1,3,4,5,13,98,99] ?_;refine ihi (di.length:Int) ⟨?_,?_⟩
      ·rw [List.length_append,List.length_cons,List.length_nil,hst,zdf,if_pos ⟨hc,.inl hs0⟩]
      ·omega
     ·rw [decide_eq_false hs0]
      (refine zb [777,114] (nx:=3) ?_;conv=>whnf);refine zdg (i:=di.length) (n:=60) rfl rfl rfl rfl rfl rfl (by rfl) (show 3<=3 by decide) rfl (by omega) ?_;refine zdg (i:=di.length) (n:=1) rfl rfl rfl rfl rfl rfl (by rfl) (show 3<=3 by decide) rfl (by omega) ?_;refine zad (v:=sI (mg D di.length di.length)) rfl rfl rfl (show 3<=3 by decide) rfl rfl (zgu hBD.1 (i:=di.length) (j:=di.length) (by omega) (by omega) (by omega)) ?_;(refine zb [777,119] (nx:=3) ?_;conv=>whnf);refine zdg (i:=s.toNat) (n:=60) rfl rfl rfl rfl rfl rfl (by rfl) (show 3<=3 by decide) (Int.toNat_of_nonneg (by omega)).symm (by omega) ?_;refine zdg (i:=s.toNat) (n:=1) rfl rfl rfl rfl rfl rfl (by rfl) (show 3<=3 by decide) (Int.toNat_of_nonneg (by omega)).symm (by omega) ?_;refine zad (v:=sI (mg D s.toNat s.toNat)) rfl rfl rfl (show 3<=3 by decide) rfl rfl (zgu hBD.1 (i:=s.toNat) (j:=s.toNat) (by omega) (by omega) (by omega)) ?_;refine qp ⟨sB (decide (mg D di.length di.length<mg D s.toNat s.toNat)),[],none⟩ rfl rfl (show 3<=3 by decide) (fun _ _ _=>rfl) ?_
      by_cases hlt:mg D di.length di.length<mg D s.toNat s.toNat
      ·rw [decide_eq_true hlt]
       (refine zb [777,124] (nx:=3) ?_;conv=>whnf);refine qp ⟨sB true,[],none⟩ rfl rfl (show 3<=3 by decide) (fun _ _ _=>rfl) ?_;refine qt (by kernel_rfl) ?_;(refine zf ?_;conv=>whnf);rw [hwi];refine zg [1,3,4,5,13,98,99] ?_;refine ihi (di.length:Int) ⟨?_,?_⟩
       ·rw [List.length_append,List.length_cons,List.length_nil,hst,zdf,if_pos ⟨hc,.inr hlt⟩]
       ·omega
      ·rw [decide_eq_false hlt]
       (refine zb [777,124] (nx:=3) ?_;conv=>whnf);refine qp ⟨sB false,[],none⟩ rfl rfl (show 3<=3 by decide) (fun _ _ _=>rfl) ?_;refine qt (by kernel_rfl) ?_;(refine zf ?_;conv=>whnf);rw [hwi];refine zg [1,3,4,5,13,98,99] ?_;refine ihi s ⟨?_,?_⟩
       ·rw [List.length_append,List.length_cons,List.length_nil,hst,zdf,if_neg (fun h=>h.2.elim hs0 hlt)]
       ·omega
    ·rw [decide_eq_false hc]
     (refine zb [777,124] (nx:=3) ?_;conv=>whnf);refine qp ⟨sB false,[],none⟩ rfl rfl (show 3<=3 by decide) (fun _ _ _=>rfl) ?_;refine qt (by kernel_rfl) ?_;(refine zf ?_;conv=>whnf);rw [hwi];refine zg [1,3,4,5,13,98,99] ?_;refine ihi s ⟨?_,?_⟩
     ·rw [List.length_append,List.length_cons,List.length_nil,hst,zdf,if_neg (fun h=>hc h.1)]
     ·omega
  ·rintro dk xk rk _ hdak hdlk _ ihk
   rw [List.length_range] at hdlk;have hwk:=zk (n:=dk.length) (by omega);have hB:=hBk dk.length;rw [zga] at ihk;generalize (List.range dk.length).foldl (zea c.arts.length) M1=Mk at hB ihk ⊢;rw [zea] at ihk;(refine zf ?_;conv=>whnf)
   repeat' ((with_reducible refine way ?_ ?_)<;>(intro h;conv=>whnf))
   all_goals try (exfalso;omega)
   refine zg [1,3,4,5,10,62,63,66,67] ?_;have hBi2:∀i,Bd ((List.range i).foldl (zvs c.arts.length dk.length) Mk):=fun i=>xz (Q:=Bd) _ (fun _ j _ h=>h.row _ _ j) Mk hB
   change SW E _ [(1,.ptr 0 0),(3,sI c.arts.length),(4,.ptr 1 0),(5,.osl 2 0 c.arts.length),(10,sI dk.length),(62,sI c.arts.length),(63,sI dk.length),(66,sI c.arts.length),(67,sI 0)] [zav c,zhr (Mk),.cells (zqy c)];refine zo (List.range c.arts.length) (fun i (_:Unit)=>[(1,.ptr 0 0),(3,sI c.arts.length),(4,.ptr 1 0),(5,.osl 2 0 c.arts.length),(10,sI dk.length),(62,sI c.arts.length),(63,sI dk.length),(66,sI c.arts.length),(67,sI i)]) (fun i _=>[zav c,zhr ((List.range i).foldl (zvs c.arts.length dk.length) Mk),.cells (zqy c)]) (fun _ _ _=>True) () trivial ?_ ?_
   ·rintro _ _
    rw [List.length_range];(refine zf ?_;conv=>whnf)
    repeat' ((with_reducible refine way ?_ ?_)<;>(intro h;conv=>whnf))
    all_goals try (exfalso;omega)
    rw [hwk];refine zg [1,3,4,5,62,63] ?_;exact ihk () trivial
   ·rintro di xi ri _ hdai hdli _ ihi
    rw [List.length_range] at hdli;have hwi:=zk (n:=di.length) (by omega);have hB:=hBi2 di.length;rw [zga] at ihi;generalize (List.range di.length).foldl (zvs c.arts.length dk.length) Mk=Mi at hB ihi ⊢;rw [zvs] at ihi;(refine zf ?_;conv=>whnf)
    repeat' ((with_reducible refine way ?_ ?_)<;>(intro h;conv=>whnf))
    all_goals try (exfalso;omega)
    refine zg [1,3,4,5,10,11,62,63,66,67,70,71] ?_;have hBj:∀j,Bd ((List.range j).foldl (zex dk.length di.length) Mi):=fun j=>xz (Q:=Bd) _ (fun _ j _ h=>h.cell _ _ j) Mi hB
    change SW E _ [(1,.ptr 0 0),(3,sI c.arts.length),(4,.ptr 1 0),(5,.osl 2 0 c.arts.length),(10,sI dk.length),(11,sI di.length),(62,sI c.arts.length),(63,sI dk.length),(66,sI c.arts.length),(67,sI di.length),(70,sI c.arts.length),(71,sI 0)] [zav c,zhr (Mi),.cells (zqy c)];refine zo (List.range c.arts.length) (fun j (_:Unit)=>[(1,.ptr 0 0),(3,sI c.arts.length),(4,.ptr 1 0),(5,.osl 2 0 c.arts.length),(10,sI dk.length),(11,sI di.length),(62,sI c.arts.length),(63,sI dk.length),(66,sI c.arts.length),(67,sI di.length),(70,sI c.arts.length),(71,sI j)]) (fun j _=>[zav c,zhr ((List.range j).foldl (zex dk.length di.length) Mi),.cells (zqy c)]) (fun _ _ _=>True) () trivial ?_ ?_
    ·rintro _ _
     rw [List.length_range];(refine zf ?_;conv=>whnf)
     repeat' ((with_reducible refine way ?_ ?_)<;>(intro h;conv=>whnf))
     all_goals try (exfalso;omega)
     rw [hwi];refine zg [1,3,4,5,10,62,63,66,67] ?_;exact ihi () trivial
    rintro dj xj rj _ hdaj hdlj _ ihj;rw [List.length_range] at hdlj;have hwj:=zk (n:=dj.length) (by omega);have hB:=hBj dj.length;rw [zga] at ihj;generalize (List.range dj.length).foldl (zex dk.length di.length) Mi=M at hB ihj ⊢;have hmin:(if IntKind.i64.wrap (mg M di.length dk.length+mg M dk.length dj.length)<mg M di.length dj.length then IntKind.i64.wrap (mg M di.length dk.length+mg M dk.length dj.length) else mg M di.length dj.length)=min (mg M di.length dj.length) (mg M di.length dk.length+mg M dk.length dj.length):=by
     have h1:=hB.mg di.length dk.length;have h2:=hB.mg dk.length dj.length;rw [yz (c:=mg M di.length dk.length+mg M dk.length dj.length) (by omega) (by omega)];split<;>omega
    rw [zex] at ihj;(refine zf ?_;conv=>whnf)
    repeat' ((with_reducible refine way ?_ ?_)<;>(intro h;conv=>whnf))
    all_goals try (exfalso;omega)
    (refine zu 0 mixed rfl ?_;refine zb [777,78] (nx:=3) ?_;conv=>whnf);refine zdg (i:=di.length) (n:=60) rfl rfl rfl rfl rfl rfl (by rfl) (show 3<=3 by decide) rfl (by omega) ?_;refine zdg (i:=dj.length) (n:=1) rfl rfl rfl rfl rfl rfl (by rfl) (show 3<=3 by decide) rfl (by omega) ?_;refine zad (v:=sI (mg M di.length dj.length)) rfl rfl rfl (show 3<=3 by decide) rfl rfl (zgu hB.1 (i:=di.length) (j:=dj.length) (by omega) (by omega) (by omega)) ?_;(refine zb [777,83] (nx:=3) ?_;conv=>whnf);refine zdg (i:=di.length) (n:=60) rfl rfl rfl rfl rfl rfl (by rfl) (show 3<=3 by decide) rfl (by omega) ?_;refine zdg (i:=dk.length) (n:=1) rfl rfl rfl rfl rfl rfl (by rfl) (show 3<=3 by decide) rfl (by omega) ?_;refine zad (v:=sI (mg M di.length dk.length)) rfl rfl rfl (show 3<=3 by decide) rfl rfl (zgu hB.1 (i:=di.length) (j:=dk.length) (by omega) (by omega) (by omega)) ?_;(refine zb [777,88] (nx:=3) ?_;conv=>whnf);refine zdg (i:=dk.length) (n:=60) rfl rfl rfl rfl rfl rfl (by rfl) (show 3<=3 by decide) rfl (by omega) ?_;refine zdg (i:=dj.length) (n:=1) rfl rfl rfl rfl rfl rfl (by rfl) (show 3<=3 by decide) rfl (by omega) ?_;refine zad (v:=sI (mg M dk.length dj.length)) rfl rfl rfl (show 3<=3 by decide) rfl rfl (zgu hB.1 (i:=dk.length) (j:=dj.length) (by omega) (by omega) (by omega)) ?_;(refine zb [777,93] (nx:=3) ?_;conv=>whnf);refine zdg (i:=di.length) (n:=60) rfl rfl rfl rfl rfl rfl (by rfl) (show 3<=3 by decide) rfl (by omega) ?_;refine zdg (i:=dj.length) (n:=1) rfl rfl rfl rfl rfl rfl (by rfl) (show 3<=3 by decide) rfl (by omega) ?_;refine zwv (b:=1) (M:=M) (p:=di.length*60+dj.length) (v:=if IntKind.i64.wrap (mg M di.length dk.length+mg M dk.length dj.length)<mg M di.length dj.length then IntKind.i64.wrap (mg M di.length dk.length+mg M dk.length dj.length) else mg M di.length dj.length) rfl rfl rfl rfl rfl rfl (show 3<=3 by decide) rfl (by omega) (by rw [hB.1];omega) ?_;rw [hmin];refine qt (by kernel_rfl) ?_;refine Eq.mpr (congrArg (fun h=>SW E _ _ h) (show _=[zav c,zhr (M.set (di.length*60+dj.length) (min (mg M di.length dj.length) (mg M di.length dk.length+mg M dk.length dj.length))),.cells (zqy c)] from rfl)) ?_;(refine zf ?_;conv=>whnf);rw [hwj];refine zg [1,3,4,5,10,11,62,63,66,67,70,71] ?_;exact ihj () trivial
 ·rintro done x rest _ hda hdl _ ih
  have hw:=zk (n:=done.length) (by omega);have hi60:done.length<60:=by omega
  have hnp:=yfl G c hfit (fun _=>hN) (by omega) (done.length:Int);rw [if_pos ⟨by omega,by omega,hz2⟩] at hnp;have htk:(yc c).take (done.length+1)=(yc c).take done.length++[xe c (done.length:Int)]:=by rw [List.take_add_one,zcr (by omega)];rfl
  have hrp:List.replicate (c.arts.length-done.length) zdp=zdp::List.replicate (c.arts.length-(done.length+1)) zdp:=by rw [show c.arts.length-done.length=(c.arts.length-(done.length+1))+1 by omega,List.replicate_succ]
  have htl:((yc c).take done.length).length=done.length:=by rw [List.length_take,jp];omega
  have hgd:(yc c).getD done.length []=xe c (done.length:Int):=by rw [List.getD_eq_getElem?_getD,zcr (by omega)];rfl
  have hnr:∀y∈xe c (done.length:Int),0<=y/\y<c.arts.length:=fun y hy=>by
   have:=hnd.2 done.length y (by rw [hgd];exact hy);rw [hndl] at this;exact this
  have hnl:=hlen done.length;rw [zga,htk,List.map_append,List.append_assoc] at ih;rw [hrp];have hBd:=hBi done.length;generalize (yc c).take done.length=A at htl ih ⊢;generalize hMi:(List.range done.length).foldl (initRow (yc c)) M0=Mi at hBd ih ⊢;rw [initRow,hgd,hndl] at ih;(refine zf ?_;conv=>whnf)
  repeat' ((with_reducible refine way ?_ ?_)<;>(intro h;conv=>whnf))
  all_goals try (exfalso;omega)
  refine zg [1,3,4,5,6,28,29,32,33] ?_;change SW E _ [(1,.ptr 0 0),(3,sI c.arts.length),(4,.ptr 1 0),(5,.osl 2 0 c.arts.length),(6,sI done.length),(28,sI c.arts.length),(29,sI done.length),(32,sI c.arts.length),(33,sI 0)] _;refine zo (List.range c.arts.length) (fun j (_:Unit)=>[(1,.ptr 0 0),(3,sI c.arts.length),(4,.ptr 1 0),(5,.osl 2 0 c.arts.length),(6,sI done.length),(28,sI c.arts.length),(29,sI done.length),(32,sI c.arts.length),(33,sI j)]) (fun j _=>[zav c,zhr ((List.range j).foldl (fun M j=>M.set (done.length*60+j) 1000) Mi),.cells (A.map (fun l=>SV.imm (zi l))++zdp::List.replicate (c.arts.length-(done.length+1)) zdp)])
   (fun _ _ _=>True) () trivial ?_ ?_
  ·rintro _ _
   rw [List.length_range];have hBf:Bd ((List.range c.arts.length).foldl (fun M j=>M.set (done.length*60+j) 1000) Mi):=xz (Q:=Bd) _ (fun _ _ _ h=>h.set _ (by decide)) Mi hBd;generalize (List.range c.arts.length).foldl (fun M j=>M.set (done.length*60+j) 1000) Mi=Mf at hBf ih ⊢;(refine zf ?_;conv=>whnf)
   repeat' ((with_reducible refine way ?_ ?_)<;>(intro h;conv=>whnf))
   all_goals try (exfalso;omega)
   refine ze rfl  hnp ?_;refine zfy (i:=done.length) rfl rfl rfl rfl rfl rfl rfl rfl (by omega) ?_;refine zbe (d:=A.map (fun l=>SV.imm (zi l))) (zz:=zdp) (r:=List.replicate (c.arts.length-(done.length+1)) zdp) (v:=.imm (zi (xe c (done.length:Int)))) rfl rfl rfl rfl rfl rfl rfl rfl rfl (by show 0+done.length*1=_;rw [List.length_map,htl];omega) ?_;refine Eq.mpr (congrArg (fun h=>SWr E _ _ _ _ h) (show _=[zav c,zhr Mf,.cells (A.map (fun l=>SV.imm (zi l))++ .imm (zi (xe c (done.length:Int)))::List.replicate (c.arts.length-(done.length+1)) zdp)] from rfl)) ?_;generalize xe c (done.length:Int)=nd at hnr hnl ih ⊢;(refine za ?_;conv=>whnf);refine zfy (i:=done.length) rfl rfl rfl rfl rfl rfl rfl rfl (by omega) ?_;refine wt (v:=.imm (zi nd)) rfl rfl rfl rfl rfl (by show (A.map (fun l=>SV.imm (zi l))++SV.imm (zi nd)::List.replicate (c.arts.length-(done.length+1)) zdp)[0+done.length*1]?=_;rw [List.getElem?_append_right (by rw [List.length_map,htl];omega),List.length_map,htl,show 0+done.length*1-done.length=0 by omega];rfl) ?_;(refine za ?_;conv=>whnf);refine zg [1,3,4,5,6,28,29,50,51,52] ?_;have hndl2:(nd.map fun n=>[dI n]).length=nd.length:=by simp
   change SW E _ [(1,.ptr 0 0),(3,sI c.arts.length),(4,.ptr 1 0),(5,.osl 2 0 c.arts.length),(6,sI done.length),(28,sI c.arts.length),(29,sI done.length),(50,.imm (zi nd)),(51,sI (nd.map fun n=>[dI n]).length),(52,sI 0)] _;refine zo nd (fun j (_:Unit)=>[(1,.ptr 0 0),(3,sI c.arts.length),(4,.ptr 1 0),(5,.osl 2 0 c.arts.length),(6,sI done.length),(28,sI c.arts.length),(29,sI done.length),(50,.imm (zi nd)),(51,sI (nd.map fun n=>[dI n]).length),(52,sI j)]) (fun j _=>[zav c,zhr ((nd.take j).foldl (fun M x=>M.set (done.length*60+x.toNat) 1) Mf),.cells (A.map (fun l=>SV.imm (zi l))++ .imm (zi nd)::List.replicate (c.arts.length-(done.length+1)) zdp)])
    (fun _ _ _=>True) () trivial ?_ ?_
   ·rintro _ _
    rw [List.take_length];(refine zf ?_;conv=>whnf)
    repeat' ((with_reducible refine way ?_ ?_)<;>(intro h;conv=>whnf))
    all_goals try (exfalso;omega)
    rw [hw];refine zg [1,3,4,5,28,29] ?_;exact ih () trivial
   ·rintro dx y rx _ hdax hdlx _ ihx
    have hwx:=zk (n:=dx.length) (by omega);have hry:(nd.map fun n=>[dI n])[((dx.length:Nat):Int).toNat]?=some [dI y]:=by simp [hdax]
    have hyr:=hnr y (by rw [hdax];simp);have htk2:nd.take (dx.length+1)=nd.take dx.length++[y]:=by rw [List.take_add_one];simp [hdax]
    rw [htk2,List.foldl_append] at ihx;have hBx:Bd ((nd.take dx.length).foldl (fun M x=>M.set (done.length*60+x.toNat) 1) Mf):=xz (Q:=Bd) _ (fun _ _ _ h=>h.set _ (by decide)) Mf hBf;generalize (nd.take dx.length).foldl (fun M x=>M.set (done.length*60+x.toNat) 1) Mf=Mx at hBx ihx ⊢;(refine qs [777,53] 1000 ?_;conv=>whnf);(refine za ?_;conv=>whnf)
    repeat' ((with_reducible refine way ?_ ?_)<;>(intro h;conv=>whnf))
    all_goals try (exfalso;omega)
    refine zh rfl rfl  hry ?_;(refine we [777,58] 1000 ?_;conv=>whnf);refine zkj (i:=done.length) (n:=60) rfl rfl rfl rfl rfl rfl (by rfl) rfl (by omega) ?_;(refine we [777,59] 1000 ?_;conv=>whnf);refine zkj (i:=y.toNat) (n:=1) rfl rfl rfl rfl rfl rfl (by rfl) (Int.toNat_of_nonneg hyr.1).symm (by omega) ?_;refine zll (b:=1) (M:=Mx) (p:=done.length*60+y.toNat) (v:=1) rfl rfl rfl rfl rfl rfl rfl (by omega) (by rw [hBx.1];omega) ?_;(refine za ?_;conv=>whnf);rw [hwx];refine zg [1,3,4,5,6,28,29,50,51,52] ?_;exact ihx () trivial
  ·rintro dj xj rj _ hdaj hdlj _ ihj
   rw [List.length_range] at hdlj;have hwj:=zk (n:=dj.length) (by omega);have hBf:Bd ((List.range dj.length).foldl (fun M j=>M.set (done.length*60+j) 1000) Mi):=xz (Q:=Bd) _ (fun _ _ _ h=>h.set _ (by decide)) Mi hBd;rw [zga] at ihj;generalize (List.range dj.length).foldl (fun M j=>M.set (done.length*60+j) 1000) Mi=Mf at hBf ihj ⊢;(refine qs [777,38] 1000 ?_;conv=>whnf)
   repeat' ((with_reducible refine way ?_ ?_)<;>(intro h;conv=>whnf))
   all_goals try (exfalso;omega)
   refine zkj (i:=done.length) (n:=60) rfl rfl rfl rfl rfl rfl (by rfl) rfl (by omega) ?_;(refine we [777,39] 1000 ?_;conv=>whnf);refine zkj (i:=dj.length) (n:=1) rfl rfl rfl rfl rfl rfl (by rfl) rfl (by omega) ?_;refine zll (b:=1) (M:=Mf) (p:=done.length*60+dj.length) (v:=1000) rfl rfl rfl rfl rfl rfl rfl (by omega) (by rw [hBf.1];omega) ?_;(refine za ?_;conv=>whnf);rw [hwj];refine zg [1,3,4,5,6,28,29,32,33] ?_;exact ihj () trivial
theorem zpu (c:Codex) (hfit:Codex.fit c) (hN:zv c=true->NeedC c) (h60:zv c=true->c.arts.length<=60) (hnd:zv c=true->yiz (yc c)) (hlen:∀j:Nat,(xe c j).length<=1000000) (hz:c.arts.length<=1000000):
  zw Tryz.prog G 19 [c.sv] (.imm (zi (if zv c=true then zak (yc c) else []))):=by
 have h:=yxx G c hfit hN h60 hnd hlen hz
 by_cases h1:zv c=true
 ·rw [if_pos h1]
  by_cases h2:zak (yc c)=[]
  ·rw [if_neg (fun h=>h.2 h2)] at h
   rw [h2];exact zao h (SV.Is.nil 1)
  ·rw [if_pos ⟨h1,h2⟩] at h
   exact h
 ·rw [if_neg (fun h=>h1 h.1)] at h
  rw [if_neg h1];exact zao h (SV.Is.nil 1)
def zqz (m:List (Int × Int)):Prop:=∀k v,zx k m=some v->1<=k/\k<=1000000
theorem zey {c:Codex} {m:List (Int × Int)} {op n:Int} {u:ByteArray} {den:Int} {ps:List Piece} {ks:List Ex} (h:jn c m op n u den ps ks=true) (hop:1<=op/\op<=4):ks=[]/\zcn c.facts c.lines m op n u=true:=by
 unfold jn at h;rw [if_neg (by omega)] at h;split at h
 ·cases h
 ·simp only [Bool.and_eq_true,decide_eq_true_eq] at h
  exact ⟨List.length_eq_zero_iff.1 h.1,h.2⟩
theorem zzj {c:Codex} {m:List (Int × Int)} {op n:Int} {u:ByteArray} {den:Int} {ps:List Piece} {ks:List Ex} (h:jn c m op n u den ps ks=true) (hop:5<=op/\op<=17):
  n=0/\∃f l,ks.head?=some f/\ks.getLast?=some l/\zbu op u f l ks.length (zdl ks)=true:=by
 unfold jn at h;rw [if_neg (by omega)] at h;split at h
 ·cases h
 ·rw [if_neg (by omega)] at h
  simp only [Bool.and_eq_true,decide_eq_true_eq] at h;refine ⟨h.1,?_⟩;have h2:=h.2;cases hf:ks.head? with
  |none=>rw [hf] at h2;cases h2
  |some f=>
   cases hl:ks.getLast? with
   |none=>rw [hf,hl] at h2;cases h2
   |some l=>rw [hf,hl] at h2;exact ⟨f,l,rfl,rfl,h2⟩
theorem yxy {c:Codex} {m:List (Int × Int)} (hm:zqz m) (hF:c.facts.length<=32) {op n:Int} {u:ByteArray} {den:Int} {ps:List Piece} {ks:List Ex} (h:jn c m op n u den ps ks=true): -1000000000000<=n/\n<=1000000000000:=by
 by_cases h1:1<=op/\op<=4
 ·have hl:=(zey h h1).2
  unfold zcn at hl;split at hl
  ·simp only [Bool.and_eq_true,decide_eq_true_eq] at hl;omega
  ·split at hl
   ·simp only [Bool.and_eq_true,decide_eq_true_eq] at hl;omega
   ·split at hl
    ·cases hk:zx n m with
     |none=>rw [hk] at hl;cases hl
     |some v=>have:=hm n v hk;omega
    ·simp only [Bool.and_eq_true,decide_eq_true_eq] at hl;omega
 ·unfold jn at h
  split at h
  ·simp only [Bool.and_eq_true,decide_eq_true_eq] at h;omega
  ·split at h
   ·cases h
   ·simp only [Bool.and_eq_true,decide_eq_true_eq] at h;omega
theorem zez {c:Codex} {m:List (Int × Int)} {op n:Int} {u:ByteArray} {den:Int} {ps:List Piece} {ks:List Ex} (h:jn c m op n u den ps ks=true) (h2:op=2):0<=n/\n<c.facts.length:=by
 have hl:=(zey h (by omega)).2;unfold zcn at hl;rw [if_neg (by omega),if_pos h2] at hl;simp only [Bool.and_eq_true,decide_eq_true_eq] at hl;exact hl.1
theorem zua {c:Codex} {m:List (Int × Int)} {op n:Int} {u:ByteArray} {den:Int} {ps:List Piece} {ks:List Ex} (h:jn c m op n u den ps ks=true) (h2:op=4):1<=n/\n<=4:=by
 have hl:=(zey h (by omega)).2;unfold zcn at hl;rw [if_neg (by omega),if_neg (by omega),if_neg (by omega)] at hl;simp only [Bool.and_eq_true,decide_eq_true_eq] at hl;exact hl.1
theorem zzk {c:Codex} {m:List (Int × Int)} {op n:Int} {u:ByteArray} {den:Int} {ps:List Piece} {ks:List Ex} (h:jn c m op n u den ps ks=true) (h2:op=5):∃k,ks=[k]:=by
 obtain ⟨_,f,l,_,_,g⟩:=zzj h (by omega);unfold zbu at g;rw [if_pos h2] at g;simp only [Bool.and_eq_true,decide_eq_true_eq] at g;exact List.length_eq_one_iff.1 (by have:=g.1.1;omega)
theorem yfs {ks:List Ex} (h:(ks.length:Int)=2):∃k l,ks=[k,l]:=by
 match ks,h with
 |[k,l],_=>exact ⟨k,l,rfl⟩
theorem zlm {c:Codex} {m:List (Int × Int)} {op n:Int} {u:ByteArray} {den:Int} {ps:List Piece} {ks:List Ex} (h:jn c m op n u den ps ks=true) (h2:6<=op/\op<=10):∃k l,ks=[k,l]:=by
 obtain ⟨_,f,l,_,_,g⟩:=zzj h (by omega);unfold zbu at g;rw [if_neg (by omega)] at g;split at g
 ·simp only [Bool.and_eq_true,decide_eq_true_eq] at g
  exact yfs (by omega)
 ·split at g
  ·simp only [Bool.and_eq_true,decide_eq_true_eq] at g
   exact yfs (by omega)
  ·rw [if_pos (by omega)] at g
   simp only [Bool.and_eq_true,decide_eq_true_eq] at g;exact yfs (by omega)
theorem yja {c:Codex} {m:List (Int × Int)} (hm:zqz m) (hF:c.facts.length<=12) {k:Ex} (h:zfj c m k):KidOK k:=by
 obtain ⟨op,n,u,den,ps,ks⟩:=k;unfold zfj at h;refine ⟨fun h2=>?_,fun h2=>?_,?_⟩
 ·have:=zez h.1 h2
  show 0<=n/\n<12;omega
 ·have:=zua h.1 h2
  show 0<=n/\n<=4;omega
 ·exact yxy hm (by omega) h.1
theorem zpv {c:Codex} {m:List (Int × Int)} (hm:zqz m) (hF:c.facts.length<=12):∀(N:Nat) (e:Ex),SizeOf.sizeOf e<N->zfj c m e->yiv e
 |0,_,h,_=>by omega
 |N+1,.mk op n u den ps ks,hN,h=>by
  simp only [Ex.mk.sizeOf_spec] at hN;unfold zfj at h;unfold yiv;refine ⟨fun h2=>?_,fun h2=>?_,?_⟩
  ·have:=zez h.1 h2;omega
  ·obtain ⟨k,l,rfl⟩:=zlm h.1 (by omega)
   exact ⟨k,l,rfl,yja hm hF (qv h.2 k (by simp)),yja hm hF (qv h.2 l (by simp))⟩
  ·split
   ·rename_i h5
    obtain ⟨k,rfl⟩:=zzk h.1 h5;simp only [List.cons.sizeOf_spec] at hN;exact ⟨rfl,zpv hm hF N k (by omega) (qv h.2 k (by simp))⟩
   ·split
    ·rename_i h6
     obtain ⟨k,l,rfl⟩:=zlm h.1 (by omega);simp only [List.cons.sizeOf_spec] at hN;exact ⟨rfl,zpv hm hF N k (by omega) (qv h.2 k (by simp)),zpv hm hF N l (by omega) (qv h.2 l (by simp))⟩
    ·trivial
theorem zln:∀(N:Nat) (e:Ex),SizeOf.sizeOf e<N->zps e<=yx e/\ycn e<=yx e
 |0,_,h=>by omega
 |N+1,.mk op n u den ps ks,hN=>by
  simp only [Ex.mk.sizeOf_spec] at hN;rw [yx];unfold zps ycn
  match ks,hN with
  |[],_=>simp only [yb];split<;>split<;>(try split)<;>omega
  |[k],hN=>
   simp only [List.cons.sizeOf_spec] at hN;have:=zln N k (by omega);simp only [yb];split<;>split<;>(try split)<;>omega
  |k::l::r,hN=>
   simp only [List.cons.sizeOf_spec] at hN;have h1:=zln N k (by omega);have h2:=zln N l (by omega);rw [yb,yb];simp only;split<;>split<;>(try split)<;>omega
theorem ywd {c:Codex} (h:zv c=true) (hF:c.facts.length<=12) (hw:∀a∈c.arts,a.when_.length<=41):FitC c:=by
 obtain ⟨_,h2,m,hm,h4⟩:=qr h;refine ⟨fun a ha e he=>zpv hm hF _ e (Nat.lt_succ_self _) ((h4 a ha).2.2.1 e he).1,hw,fun a ha e he=>?_,fun a ha e he=>?_⟩
 ·have h1:=((h4 a ha).2.2.1 e he).2
  have:=(zln _ e (Nat.lt_succ_self _)).1;omega
 ·have h1:=((h4 a ha).2.2.1 e he).2
  have:=(zln _ e (Nat.lt_succ_self _)).2;omega
theorem zkk (d:Array Int) (hs:∀i j,i<=j->j<d.size->d[i]! <=d[j]!):∀m,m<=d.size->(Go.Lib.compactUpTo d m).Pairwise (· < ·)/\∀x∈Go.Lib.compactUpTo d m,x<=d[m-1]!
 |0,_=>by simp [Go.Lib.compactUpTo]
 |m+1,hm=>by
  obtain ⟨h1,h2⟩:=zkk d hs m (by omega);rw [Go.Lib.compactUpTo_succ];have hle:d[m-1]! <=d[m]! :=hs _ _ (by omega) (by omega);cases hk:Go.Lib.keeps d m with
  |false=>
   simp only [Bool.false_eq_true,if_false,List.append_nil];exact ⟨h1,fun x hx=>by have:=h2 x hx;rw [Nat.add_sub_cancel];omega⟩
  |true=>
   simp only [if_true];have hlt:∀x∈Go.Lib.compactUpTo d m,x<d[m]! :=fun x hx=>by
    rcases Nat.eq_zero_or_pos m with h0|h0
    ·subst h0;simp [Go.Lib.compactUpTo] at hx
    ·have hne:d[m]! ≠d[m-1]! :=fun e=>by
      rw [Go.Lib.keeps_neg h0 e] at hk;cases hk
     have:=h2 x hx;omega
   refine ⟨?_,fun x hx=>?_⟩
   ·rw [List.pairwise_append]
    exact ⟨h1,by simp,fun a ha b hb=>by simp at hb;rw [hb];exact hlt a ha⟩
   ·rw [Nat.add_sub_cancel]
    rcases List.mem_append.1 hx with hx|hx
    ·have:=hlt x hx;omega
    ·simp at hx;omega
theorem zpw (vs:List Int):(zr vs).Pairwise (· < ·):=by
 have hs:(zcs vs).Pairwise (· <= ·):=by
  have:=List.pairwise_mergeSort (le:=fun x y:Int=>decide (x<=y)) (fun a b c h1 h2=>by simp at*;omega) (fun a b=>by simp;omega) vs;exact this.imp fun h=>by simpa using h
 have hi:∀i j,i<=j->j<(zcs vs).toArray.size->(zcs vs).toArray[i]! <=(zcs vs).toArray[j]! :=fun i j hij hj=>by
  simp only [List.size_toArray] at hj;have e1:(zcs vs).toArray[i]! =(zcs vs)[i]'(by omega):=by simp;rw [List.getElem?_eq_getElem (show i<(zcs vs).length by omega)];rfl
  have e2:(zcs vs).toArray[j]! =(zcs vs)[j]:=by simp;rw [List.getElem?_eq_getElem hj];rfl
  rw [e1,e2];rcases Nat.lt_or_ge i j with h|h
  ·exact List.pairwise_iff_getElem.1 hs i j (by omega) hj h
  ·have:i=j:=by omega
   subst this;exact Int.le_refl _
 exact (zkk _ hi _ (Nat.le_refl _)).1
theorem zhs {vs:List Int} {n:Nat} (h:∀v∈vs,0<=v/\v<n):(zr vs).length<=n:=by
 have hm:∀v∈zr vs,0<=v/\v<n:=fun v hv=>h v ((List.mergeSort_perm vs fun x y=>decide (x<=y)).mem_iff.1 (zik hv))
 have hp:=zpw vs;have hnd:((zr vs).map Int.toNat).Nodup:=by
  rw [List.nodup_iff_pairwise_ne,List.pairwise_map];refine (List.Pairwise.and_mem.1 hp).imp ?_;rintro a b ⟨ha,hb,hab⟩ e;have:=hm a ha;have:=hm b hb;omega
 have:=zlk (n:=n) hnd (fun x hx=>by
  obtain ⟨v,hv,rfl⟩:=List.mem_map.1 hx;have:=hm v hv
  omega)
 rwa [List.length_map] at this
theorem zub {c:Codex} (h:c.arts.length<=60):yiz (yc c):=by
 refine ⟨by rw [jp];exact h,fun i x hx=>?_⟩;rw [jp];rw [List.getD_eq_getElem?_getD] at hx
 by_cases hi:i<c.arts.length
 ·rw [zcr hi] at hx
  have hx:x∈xe c (i:Int):=hx;obtain ⟨a,ha⟩:∃a,c.arts[i]?=some a:=⟨_,List.getElem?_eq_getElem hi⟩;obtain ⟨b,h1,_⟩:=(yev (yia ha) x).1 hx;obtain ⟨j,rfl,hj⟩:=znw h1;have:=lt_of_getElem? hj;omega
 ·rw [List.getElem?_eq_none (by rw [jp];omega)] at hx
  cases hx
theorem zpx (c:Codex) (names:List Int) (v:Int):∀(l:List Article) (i:Nat),(zac c names v l i).length<=l.length
 |[],i=>by simp [zac]
 |a::r,i=>by
  have:=zpx c names v r (i+1);rw [zac,List.length_append];simp only [List.length_cons];split<;>simp<;>omega
theorem ziq (c:Codex) (v:Int):(xe c v).length<=c.arts.length:=by
 unfold xe;split
 ·exact zpx _ _ _ _ _
 ·simp
theorem Cond.cov_mono {A B:List Cond} (h:∀x∈A,x∈B):∀c:Cond,c.cov A->c.cov B
 | .none,_=>trivial
 | .plain _,hc=>hc
 | .cmp _ _ _,hc=>fun hd=>⟨h _ (hc hd).1,(hc hd).2⟩
 | .neg c,hc=>Cond.cov_mono h c hc
 | .conn _ l r,hc=>⟨Cond.cov_mono h l hc.1,Cond.cov_mono h r hc.2⟩
abbrev yxz (q:Sr) (f:Int):Prop:=(zx f q.cands).isSome=true
structure CGood (nf:Nat) (q:Sr) (x:Cond):Prop where
 ok:x.ok nf
 good:x.good
 inF:x.inF (yxz q)
 cov:x.cov q.atoms
structure Grow (q q':Sr):Prop where
 has:∀f,yxz q f->yxz q' f
 atoms:∀x∈q.atoms,x∈q'.atoms
theorem Grow.refl (q:Sr):Grow q q:=⟨fun _ h=>h,fun _ h=>h⟩
theorem Grow.trans {a b c:Sr} (h:Grow a b) (h':Grow b c):Grow a c:=⟨fun f hf=>h'.has f (h.has f hf),fun x hx=>h'.atoms x (h.atoms x hx)⟩
theorem CGood.grow {nf:Nat} {q q':Sr} {x:Cond} (h:CGood nf q x) (hg:Grow q q'):CGood nf q' x:=
 ⟨h.ok,h.good,Cond.inF_mono (fun f hf=>hg.has f hf) x h.inF,Cond.cov_mono hg.atoms x h.cov⟩
structure CInv (nf:Nat) (q:Sr):Prop where
 rng:∀e∈q.cands,0<=e.1/\e.1<nf
 nd:(q.cands.map (·.1)).Nodup
 ndv:∀e∈q.cands,e.2.Nodup
 atoms:∀x∈q.atoms,x.ok nf/\∃op l r,x= .cmp op l r
theorem zra:∀(vs vals:List Int),vals.Nodup->(vs.foldl qx vals).Nodup
 |[],_,h=>h
 |v::vs,vals,h=>by
  refine zra vs _ ?_;unfold qx;split
  ·split
   ·exact h
   ·rename_i hn
    rw [List.nodup_append];exact ⟨h,by simp,fun a ha b hb=>by simp at hb;subst hb;rintro rfl;exact hn ha⟩
  ·exact h
theorem CInv.cand {nf:Nat} {q:Sr} (h:CInv nf q) {f:Int} (hf:0<=f/\f<nf) (vs:List Int):CInv nf (q.cand f vs)/\Grow q (q.cand f vs)/\yxz (q.cand f vs) f:=by
 have hlk:∀g,zx g (q.cand f vs).cands=if g==f then some (vs.foldl qx ((zx f q.cands).getD [])) else zx g q.cands:=fun g=>zau g f _ _
 refine ⟨⟨fun e he=>?_,?_,fun e he=>?_,h.atoms⟩,⟨fun g hg=>?_,fun x hx=>hx⟩,?_⟩
 ·rcases zlf he with rfl|he
  ·exact hf
  ·exact h.rng e he
 ·show ((ains f _ q.cands).map (·.1)).Nodup
  rw [ztu];split
  ·exact h.nd
  ·rename_i hn
   rw [List.nodup_append];exact ⟨h.nd,by simp,fun a ha b hb=>by simp at hb;subst hb;rintro rfl;exact hn ha⟩
 ·rcases zlf he with rfl|he
  ·refine zra _ _ ?_
   cases hl:zx f q.cands with
   |none=>simp
   |some w=>exact h.ndv _ (zbn hl)
  ·exact h.ndv e he
 ·show (zx g (q.cand f vs).cands).isSome=true
  rw [hlk];split
  ·rfl
  ·exact hg
 ·show (zx f (q.cand f vs).cands).isSome=true
  rw [hlk];simp
theorem CInv.date {nf:Nat} {q:Sr} (h:CInv nf q) (i:Int):CInv nf (q.date i):=⟨h.rng,h.nd,h.ndv,h.atoms⟩
theorem CInv.cmpCand {c:Codex} {m:List (Int × Int)} {nf:Nat} (hnf:c.facts.length=nf) {q:Sr} (h:CInv nf q) {f:Ex} (g:Ex) (hf:zfj c m f):CInv nf (cmpCand q f g)/\Grow q (cmpCand q f g)/\(f.op=2->yxz (cmpCand q f g) f.n):=by
 unfold Go.Proofs.YtblpjknmhajcgaaGreatDoor.cmpCand;split
 ·rename_i h2
  exact ⟨h,.refl _,fun e=>absurd e h2⟩
 ·rename_i h2
  have hr:0<=f.n/\f.n<nf:=by
   obtain ⟨op,n,u,den,ps,ks⟩:=f;unfold zfj at hf;have:=zez hf.1 (by simpa [Ex.op] using h2);rw [hnf] at this;exact this
  split
  ·obtain ⟨a,b,d⟩:=h.cand hr [0,1];exact ⟨a,b,fun _=>d⟩
  ·obtain ⟨a,b,d⟩:=h.cand hr [0,g.n,g.n+1];exact ⟨a,b,fun _=>d⟩
theorem zry {nf:Nat}:∀(ks:List Ex) (q:Sr) (n:Int),CInv nf q->CInv nf (wo ks q n).2.1/\Grow q (wo ks q n).2.1
 |[],q,_,h=>⟨h,.refl q⟩
 |k::r,q,n,h=>by
  simp only [wo];split
  ·exact zry r q (n+1) h
  ·split
   ·obtain ⟨a,b⟩:=zry r (q.date k.n) n (h.date _)
    exact ⟨a,⟨fun f hf=>b.has f hf,fun x hx=>b.atoms x hx⟩⟩
   ·split
    ·exact zry r q n h
    ·exact ⟨h,.refl q⟩
theorem yjb {l r:Ex} {q s1:Sr} {n:Int} (h:wo [l,r] q 0=(true,s1,n)) (hn:n≠0):(l.op=1\/r.op=1)/\(l.op=1\/l.op=2\/l.op=4)/\(r.op=1\/r.op=2\/r.op=4):=by
 simp only [wo] at h
 by_cases l1:l.op=1
 ·by_cases r1:r.op=1
  ·exact ⟨.inl l1,.inl l1,.inl r1⟩
  ·rw [if_pos l1,if_neg r1] at h
   by_cases r4:r.op=4
   ·exact ⟨.inl l1,.inl l1,.inr (.inr r4)⟩
   ·rw [if_neg r4] at h
    by_cases r2:r.op=2
    ·exact ⟨.inl l1,.inl l1,.inr (.inl r2)⟩
    ·rw [if_neg r2] at h;cases h
 ·rw [if_neg l1] at h
  by_cases l4:l.op=4
  ·rw [if_pos l4] at h
   by_cases r1:r.op=1
   ·exact ⟨.inr r1,.inr (.inr l4),.inl r1⟩
   ·rw [if_neg r1] at h
    by_cases r4:r.op=4
    ·rw [if_pos r4] at h;cases h;exact absurd rfl hn
    ·rw [if_neg r4] at h
     by_cases r2:r.op=2
     ·rw [if_pos r2] at h;cases h;exact absurd rfl hn
     ·rw [if_neg r2] at h;cases h
  ·rw [if_neg l4] at h
   by_cases l2:l.op=2
   ·rw [if_pos l2] at h
    by_cases r1:r.op=1
    ·exact ⟨.inr r1,.inr (.inl l2),.inl r1⟩
    ·rw [if_neg r1] at h
     by_cases r4:r.op=4
     ·rw [if_pos r4] at h;cases h;exact absurd rfl hn
     ·rw [if_neg r4] at h
      by_cases r2:r.op=2
      ·rw [if_pos r2] at h;cases h;exact absurd rfl hn
      ·rw [if_neg r2] at h;cases h
   ·rw [if_neg l2] at h;cases h
theorem yuk {c:Codex} {m:List (Int × Int)} {nf:Nat} (hnf:c.facts.length=nf) {k:Ex} (h:zfj c m k):Opd.ok nf ⟨k.op,k.n⟩:=by
 obtain ⟨op,n,u,den,ps,ks⟩:=k;unfold zfj at h;refine ⟨fun h2=>?_,fun h4=>?_⟩
 ·have:=zez h.1 h2;rw [hnf] at this;exact this
 ·have:=zua h.1 h4;show 0<=n/\n<=4;omega
theorem ywe {c:Codex} {m:List (Int × Int)} {nf:Nat} (hnf:c.facts.length=nf) {q:Sr} (h:CInv nf q) (op:Int) {l r:Ex} (hl:zfj c m l) (hr:zfj c m r):
  CInv nf (cmpOf q op [l,r]).2.2/\Grow q (cmpOf q op [l,r]).2.2/\((cmpOf q op [l,r]).2.1=true->CGood nf (cmpOf q op [l,r]).2.2 (cmpOf q op [l,r]).1):=by
 have h1:=zry [l,r] q 0 h;unfold cmpOf;cases hz:wo [l,r] q 0 with
 |mk b z=>
  obtain ⟨s1,n⟩:=z;rw [hz] at h1;simp only at h1;cases b with
  |false=>exact ⟨h1.1,h1.2,fun h=>by cases h⟩
  |true=>
   simp only
   by_cases hn:n=0
   ·rw [if_pos hn];exact ⟨h1.1,h1.2,fun h=>by cases h⟩
   ·rw [if_neg hn]
    obtain ⟨t1,t2,t3⟩:=yjb hz hn;obtain ⟨a1,a2,a3⟩:=h1.1.cmpCand hnf r hl;obtain ⟨b1,b2,b3⟩:=a1.cmpCand hnf l hr;have hok:Cond.ok nf (.cmp op ⟨l.op,l.n⟩ ⟨r.op,r.n⟩):=⟨yuk hnf hl,yuk hnf hr⟩;have hg:=(h1.2.trans a2).trans b2;split
    ·rename_i hd
     have hg2:Grow (cmpCand (cmpCand s1 l r) r l) {cmpCand (cmpCand s1 l r) r l with atoms:=(cmpCand (cmpCand s1 l r) r l).atoms++[.cmp op ⟨l.op,l.n⟩ ⟨r.op,r.n⟩]}:=⟨fun _ h=>h,fun x hx=>by simp [hx]⟩;refine ⟨⟨b1.rng,b1.nd,b1.ndv,fun x hx=>?_⟩,hg.trans hg2,fun _=>⟨hok,trivial,⟨fun e=>b2.has _ (a3 e),fun e=>b3 e⟩,fun _=>⟨by simp,?_,?_⟩⟩⟩
     ·rcases List.mem_append.1 hx with hx|hx
      ·exact b1.atoms x hx
      ·simp at hx;subst hx;exact ⟨hok,_,_,_,rfl⟩
     ·show l.op≠2;omega
     ·show r.op≠2;omega
    ·rename_i hd
     exact ⟨b1,hg,fun _=>⟨hok,trivial,⟨fun e=>b2.has _ (a3 e),fun e=>b3 e⟩,fun hh=>absurd hh hd⟩⟩
theorem zlo {c:Codex} {m:List (Int × Int)} {nf:Nat} (hnf:c.facts.length=nf):∀(N:Nat) (e:Ex) (q:Sr),SizeOf.sizeOf e<N->zfj c m e->CInv nf q->
  CInv nf (simpleOf e q).2.2/\Grow q (simpleOf e q).2.2/\((simpleOf e q).2.1=true->CGood nf (simpleOf e q).2.2 (simpleOf e q).1)
 |0,_,_,h,_,_=>by omega
 |N+1,.mk op n u den ps ks,q,hN,h,hq=>by
  simp only [Ex.mk.sizeOf_spec] at hN;unfold zfj at h;rw [zke]
  by_cases h1:op=1
  ·rw [if_pos h1]
   exact ⟨hq,.refl q,fun _=>{ok:=⟨fun e=>absurd e (show ¬(1:Int)=2 by decide),fun e=>absurd e (show ¬(1:Int)=4 by decide)⟩,good:=trivial,inF:=fun e=>absurd e (show ¬(1:Int)=2 by decide),cov:=fun e=>absurd e (show ¬(1:Int)=4 by decide)}⟩
  rw [if_neg h1]
  by_cases h2:op=2
  ·rw [if_pos h2]
   have hr:=zez h.1 h2;rw [hnf] at hr;obtain ⟨a,b,d⟩:=hq.cand hr [0,1];exact ⟨a,b,fun _=>{ok:=⟨fun _=>hr,fun e=>absurd e (show ¬(2:Int)=4 by decide)⟩,good:=trivial,inF:=fun _=>d,cov:=fun e=>absurd e (show ¬(2:Int)=4 by decide)}⟩
  rw [if_neg h2]
  by_cases h3:op=8\/op=9\/op=10
  ·rw [if_pos h3]
   obtain ⟨k,l,rfl⟩:=zlm h.1 (by omega);exact ywe hnf hq op (qv h.2 k (by simp)) (qv h.2 l (by simp))
  rw [if_neg h3]
  by_cases h4:op=5
  ·rw [if_pos h4]
   obtain ⟨k,rfl⟩:=zzk h.1 h4;simp only [List.cons.sizeOf_spec] at hN;obtain ⟨a,b,d⟩:=zlo hnf N k q (by omega) (qv h.2 k (by simp)) hq;exact ⟨a,b,fun e=>⟨(d e).ok,(d e).good,(d e).inF,(d e).cov⟩⟩
  rw [if_neg h4]
  by_cases h5:op=6\/op=7
  ·rw [if_pos h5]
   obtain ⟨k,l,rfl⟩:=zlm h.1 (by omega);simp only [List.cons.sizeOf_spec] at hN;obtain ⟨a,b,d⟩:=zlo hnf N k q (by omega) (qv h.2 k (by simp)) hq;obtain ⟨a',b',d'⟩:=zlo hnf N l _ (by omega) (qv h.2 l (by simp)) a;refine ⟨a',b.trans b',fun e=>?_⟩;simp only [Bool.and_eq_true] at e;have g1:=(d e.1).grow b';have g2:=d' e.2;exact ⟨⟨g1.ok,g2.ok⟩,⟨by split<;>simp,g1.good,g2.good⟩,⟨g1.inF,g2.inF⟩,⟨g1.cov,g2.cov⟩⟩
  rw [if_neg h5];exact ⟨hq,.refl q,fun e=>by cases e⟩
structure CFull (nf:Nat) (q:Sr) (k:Nat):Prop where
 inv:CInv nf q
 srk:SrK q
 conds:∀x∈q.conds,CGood nf q x
 cz:q.conds.length<=k
 az:q.atoms.length<=k*400
 bz:candB q (k*2400)
theorem ycs {c:Codex} {m:List (Int × Int)} (hm:zqz m) {nf:Nat} (hnf:c.facts.length=nf) (hF:nf<=12):∀(es:List Ex) (q q':Sr) (k:Nat),(∀e∈es,zfj c m e/\yx e<=400)->CFull nf q k->zfd es q=some q'->CFull nf q' (k+es.length)
 |[],q,q',k,_,h,hw=>by
  simp only [zfd,Option.some.injEq] at hw;subst hw;exact h
 |e::r,q,q',k,he,h,hw=>by
  have hfx:=zpv hm (by omega) _ e (Nat.lt_succ_self _) (he e (by simp)).1;have h1:=zlo hnf _ e q (Nat.lt_succ_self _) (he e (by simp)).1 h.inv;have h2:=jh _ e q (Nat.lt_succ_self _) hfx h.srk;have h3:=zew _ e q _ (Nat.lt_succ_self _) hfx h.bz;have h4:=zcq _ e q (Nat.lt_succ_self _) hfx;have h5:=zln _ e (Nat.lt_succ_self _);have h6:=(he e (by simp)).2;rw [zfd] at hw;generalize simpleOf e q=z at h1 h2 h3 h4 hw;obtain ⟨cd,b,q1⟩:=z;simp only at h1 h2 h3 h4 hw;cases b with
  |false=>cases hw
  |true=>
   have hn:CFull nf {q1 with conds:=q1.conds++[cd]} (k+1):=by
    have hgc:∀x,CGood nf q1 x->CGood nf {q1 with conds:=q1.conds++[cd]} x:=fun x hx=>⟨hx.ok,hx.good,hx.inF,hx.cov⟩
    refine ⟨⟨h1.1.rng,h1.1.nd,h1.1.ndv,h1.1.atoms⟩,⟨h2.1.cands,h2.1.dates⟩,fun x hx=>?_,?_,?_,?_⟩
    ·rcases List.mem_append.1 hx with hx|hx
     ·rw [h4] at hx
      exact hgc x ((h.conds x hx).grow h1.2.1)
     ·simp at hx;subst hx;exact hgc _ (h1.2.2 rfl)
    ·have:=h.cz
     simp only [List.length_append,h4,List.length_cons,List.length_nil];omega
    ·have:=h.az
     have:=h2.2;show q1.atoms.length<=_;omega
    ·exact candB.mono (q:={q1 with conds:=q1.conds++[cd]}) h3 (by omega)
   have:=ycs hm hnf hF r _ q' (k+1) (fun x hx=>he x (by simp [hx])) hn hw
   rwa [show k+1+r.length=k+(e::r).length by simp;omega] at this
theorem CFull.up {nf:Nat} {q:Sr} {k k':Nat} (h:CFull nf q k) (hk:k<=k'):CFull nf q k':=⟨h.inv,h.srk,h.conds,by have:=h.cz;omega,by have:=h.az;omega,h.bz.mono (by omega)⟩
theorem zuc {c:Codex} {m:List (Int × Int)} (hm:zqz m) {nf:Nat} (hnf:c.facts.length=nf) (hF:nf<=12) (ha:∀a∈c.arts,a.when_.length<=41/\∀e∈a.when_,zfj c m e/\yx e<=400):
  ∀(vs:List Int) (q q':Sr) (k:Nat),CFull nf q k->zbv c vs q=some q'->CFull nf q' (k+vs.length*41)
 |[],q,q',k,h,hw=>by
  simp only [zbv,Option.some.injEq] at hw;subst hw;simpa using h
 |v::r,q,q',k,h,hw=>by
  rw [zbv] at hw;cases hv:qj c v with
  |none=>rw [hv] at hw;cases hw
  |some a=>
   rw [hv] at hw;simp only at hw;obtain ⟨h1,h2⟩:=ha a (zhq hv);cases hwn:zfd a.when_ q with
   |none=>rw [hwn] at hw;cases hw
   |some q1=>
    rw [hwn] at hw;simp only at hw;have g1:=(ycs hm hnf hF _ q q1 k h2 h hwn).up (k':=k+41) (by omega);have g2:=zuc hm hnf hF ha r q1 q' _ g1 hw
    rwa [show k+41+r.length*41=k+(v::r).length*41 by simp;omega] at g2
theorem yya (nf:Nat):CFull nf sr0 0:=⟨⟨by simp [sr0],by simp [sr0],by simp [sr0],by simp [sr0]⟩,⟨⟨by simp [sr0],by simp [sr0]⟩,rfl⟩,by simp [sr0],by simp [sr0],by simp [sr0],by intro e he;cases he⟩
theorem zne {c:Codex} (h:zv c=true) (hF:c.facts.length<=12) (hw:∀a∈c.arts,a.when_.length<=41) {vs:List Int} (hv:∀v∈vs,0<=v/\v<c.arts.length) {q:Sr} (hq:ws c vs=some q):
  CFull c.facts.length q 2460/\zbv c (zr vs) sr0=some q:=by
 obtain ⟨_,h60,m,hm,h4⟩:=qr h;unfold ws at hq;cases hg:zbv c (zr vs) sr0 with
 |none=>rw [hg] at hq;cases hq
 |some q1=>
  rw [hg] at hq;simp only at hq;split at hq
  ·cases hq
   have:=zuc hm rfl hF (fun a ha=>⟨hw a ha,(h4 a ha).2.2.1⟩) _ sr0 q 0 (yya _) hg;have hl:=zhs hv;exact ⟨this.up (by omega),rfl⟩
  ·cases hq
theorem zca {l:List Int} {x:Int}:x∈zcs l ↔ x∈l:=(List.mergeSort_perm l fun x y=>decide (x<=y)).mem_iff
theorem zud {l:List Int} (h:l.Nodup):(zcs l).Pairwise (· < ·):=by
 have hs:=List.pairwise_mergeSort (le:=fun x y:Int=>decide (x<=y)) (fun a b c h1 h2=>by simp at*;omega) (fun a b=>by simp;omega) l;have hn:(zcs l).Nodup:=(List.mergeSort_perm l fun x y=>decide (x<=y)).nodup_iff.2 h;rw [List.nodup_iff_pairwise_ne] at hn;exact (hs.and hn).imp fun h=>by have:=h.1;have:=h.2;simp at*;omega
theorem yqq {nf:Nat} {q:Sr} {k:Nat} (h:CFull nf q k):SrOK q nf:=by
 have hkeys:∀f,f∈zcs (q.cands.map (·.1))->0<=f/\f<nf:=fun f hf=>by
  obtain ⟨e,he,rfl⟩:=List.mem_map.1 (zca.1 hf);exact h.inv.rng e he
 have hfst:(yh q.cands).map (·.1)=zcs (q.cands.map (·.1)):=by
  unfold yh;rw [List.map_map];exact List.map_id _
 refine ⟨fun x hx=>(h.conds x hx).good,fun day=>⟨by simp [st0],fun e he=>?_,?_,fun e he=>?_,fun x hx=>?_,fun e he=>?_⟩,fun x hx=>(h.conds x hx).cov⟩
 ·have:e.1∈zcs (q.cands.map (·.1)):=by rw [<-hfst];exact List.mem_map.2 ⟨e,he,rfl⟩
  have:=hkeys _ this;simpa [st0] using this
 ·rw [hfst]
  exact (List.mergeSort_perm _ fun x y=>decide (x<=y)).nodup_iff.2 h.inv.nd
 ·simp only [st0,List.getD_eq_getElem?_getD,List.getElem?_replicate]
  split<;>rfl
 ·refine Cond.inF_mono (fun f hf=>.inr ?_) x (h.conds x hx).inF
  have hf:f∈q.cands.map (·.1):=by
   have:=zev (k:=f) (l:=q.cands);exact of_decide_eq_true (this ▸ hf:decide (f∈q.cands.map (·.1))=true)
  exact ⟨_,List.mem_map.2 ⟨f,zca.2 hf,rfl⟩,rfl⟩
 ·obtain ⟨f,hf,rfl⟩:=List.mem_map.1 he
  refine zud ?_;cases hl:zx f q.cands with
  |none=>simp
  |some w=>exact h.inv.ndv _ (zbn hl)
theorem ytk {c:Codex} (h:zv c=true) (hF:c.facts.length<=12) (hw:∀a∈c.arts,a.when_.length<=41) {vs:List Int} (hv:∀v∈vs,0<=v/\v<c.arts.length) {q:Sr} (hq:ws c vs=some q):
  WitOK (YS c (zr vs) q) c (zr vs) q:=by
 obtain ⟨_,h60,m,hm,h4⟩:=qr h;obtain ⟨hf,_⟩:=zne h hF hw hv hq;have hl:=zhs hv;have hcr:∀e∈q.cands,0<=e.1/\e.1<12:=hf.srk.cands.rng;have hu:=zcf (c:=c) (vers:=zr vs) (q:=q) hcr;have hcl:q.cands.length<=12:=by
  have:=zlk (n:=12) (l:=(q.cands.map (·.1)).map Int.toNat) (by
   rw [List.nodup_iff_pairwise_ne,List.pairwise_map];have hn:=hf.inv.nd;rw [List.nodup_iff_pairwise_ne] at hn;refine (List.Pairwise.and_mem.1 hn).imp ?_;rintro a b ⟨ha,hb,hab⟩ e;obtain ⟨x,hx,rfl⟩:=List.mem_map.1 ha;obtain ⟨y,hy,rfl⟩:=List.mem_map.1 hb;have:=hcr x hx;have:=hcr y hy;exact hab (by omega)) (fun x hx=>by
   obtain ⟨f,hff,rfl⟩:=List.mem_map.1 hx;obtain ⟨e,he,rfl⟩:=List.mem_map.1 hff;have:=hcr e he
   omega)
  simpa using this
 refine {und:=fun i=>?_,maps:=⟨rfl,hcr,fun e he=>?_,hf.inv.nd,fun e he=>?_⟩,nf:=by omega,arts:=by omega,days:=fun a ha=>?_,versR:=fun v hvv=>?_,vsz:=by omega,cz:=by have:=hf.cz;omega,az:=by have:=hf.az;omega,conds:=fun x hx=>(hf.conds x hx).ok,atoms:=hf.inv.atoms,sr:=yqq hf,csz:=by omega}
 ·unfold YS
  rw [List.getD_eq_getElem?_getD];cases hg:(NS c (zr vs) q)[i]? with
  |none=>rfl
  |some o=>exact List.all_eq_true.1 hu o (List.mem_of_getElem? hg)
 ·unfold YS
  rw [List.getD_eq_getElem?_getD,ycl (hcr e he),zby hf.inv.nd he];rfl
 ·have:=hf.bz e he
  omega
 ·have:=(h4 a ha).1
  unfold zda at this;simp only [Bool.and_eq_true,decide_eq_true_eq] at this;omega
 ·exact hv v ((List.mergeSort_perm vs fun x y=>decide (x<=y)).mem_iff.1 (zik hvv))
theorem zpy {c:Codex} (h:zv c=true) (hF:c.facts.length<=12) (hw:∀a∈c.arts,a.when_.length<=41/\a.unless_.length<=80):SearchC c:=by
 obtain ⟨_,h60,_⟩:=qr h;refine ⟨yix h (fun a ha=>by have:=hw a ha;omega),ywd h hF (fun a ha=>(hw a ha).1),fun vs hv _=>by have:=zhs hv;omega,fun vs q hv _ hq=>ytk h hF (fun a ha=>(hw a ha).1) hv hq⟩
end Go.Proofs.YtblpjknmhajcgaaGreatDoor
namespace Go.Sh
section
variable {P:Program} {G:List (Nat × D)} {w:World} {I:Imm} {β:List Bnd} {H:List SObj} {o:Oper} {ρ:Operand->Value}
theorem yft {b n kk by_ e e':Nat} {z:Value} {sx xx:Operand} {sT xT:Nat} {cs:List SV} {new:List (List D)} (hop:o.op= .call ⟨.builtin .append,#[sx,xx],#[sT,xT]⟩)
  (hH:HeapOK G w I β H) (hr:Rep w I β (ρ sx) (.vec b n)) (hrx:Rep w I β (ρ xx) (.imm (.isl kk new))) (hu:P.underlying sT=some (.slice e)) (hxu:P.underlying xT=some (.slice e'))
  (hpk:qm P e=some kk) (hby:zcl P e=some by_) (hz:zbb P e=some z) (hcond:by_<=65536/\z.cells.size=kk) (hb:H[b]?=some (.vec kk cs)) (hlen:cs.length=n*kk) (hk:1<=kk) (hnew:1<=new.length) (hsmall:n+new.length<=1073741824):
  OpRun P G (execOp ρ o) w I β H (.vec b (n+new.length)) (H.set b (.vec kk (cs++new.flatten.map SV.imm))):=by
 obtain ⟨hbu,hnow⟩:=zmr hH hb hr hlen hk;generalize hxv:ρ xx=xv at hrx;cases hrx with|imm hrx=>
 obtain ⟨B,hB,hxl,hxc⟩:=hrx.flat (P:=P);have hBs:B.length=new.length*kk:=hB.len;have hfl:(new.flatten.map SV.imm).length=new.length*kk:=by
  rw [List.length_map];have:∀L:List (List D),(∀i (h:i<L.length),(L[i]'h).length=kk)->L.flatten.length=L.length*kk:=by
   intro L
   induction L with
   |nil=>intro _;simp
   |cons r L ih=>
    intro hall;have h0:r.length=kk:=hall 0 (by simp);have h1:=ih (fun i h=>by have:=hall (i+1) (by simpa using h);simpa using this);simp only [List.flatten_cons,List.length_append,List.length_cons,h0,h1,Nat.succ_mul];omega
  exact this new hB.row
 have hblt:=lt_of_getElem? hb;have hbxlt:=lt_of_getElem? hbu;have hnl:(cs++new.flatten.map SV.imm).length=(n+new.length)*kk:=by rw [List.length_append,hlen,hfl,Nat.add_mul]
 obtain ⟨dst,op,type,pos,after,guard⟩:=o;simp only at hop;subst hop;have rowsOK:∀(w':World) (β':List Bnd) (vs:List Value) (vs':Array Value),(∀c o,I c o->w'.cell? ⟨c,o,none⟩=w.cell? ⟨c,o,none⟩)->Keeps β.length β β'->vs.length=n*kk->
   (∀j (h:j<cs.length) (h':j<vs.length),Rep w I β (vs[j]'h') (cs[j]'h))->(∀j,j<n*kk+new.length*kk->vs'[j]?=(vs++B)[j]?)->
   ∀j (h:j<(cs++new.flatten.map SV.imm).length) (h':j<vs'.size),Rep w' I β' (vs'[j]'h') ((cs++new.flatten.map SV.imm)[j]'h):=by
  intro w' β' vs vs' hcell hkeep hvl hrep hget j hj hj';have hj2:j<n*kk+new.length*kk:=by rw [hnl,Nat.add_mul] at hj;exact hj
  have hg:=hget j hj2;rw [Array.getElem?_eq_getElem hj'] at hg;rcases Nat.lt_or_ge j (n*kk) with hlt|hge
  ·have hjc:j<cs.length:=by omega
   have hjv:j<vs.length:=by omega
   rw [List.getElem_append_left hjc];rw [List.getElem?_append_left hjv,List.getElem?_eq_getElem hjv] at hg;rw [Option.some.inj hg];exact (hrep j hjc hjv).mono (fun _ _ h=>h) hcell hkeep
  ·rw [List.getElem?_append_right (by omega),hvl] at hg
   obtain ⟨d,hd1,hd2⟩:=yhw hB hk hg.symm;have:(cs++new.flatten.map SV.imm)[j]?=some (.imm d):=by
    rw [List.getElem?_append_right (by omega),hlen,List.getElem?_map,hd1];rfl
   rw [List.getElem?_eq_getElem hj] at this;rw [Option.some.inj this];exact .imm (hd2.mono (fun _ _ h=>h) hcell)
 have grow:∀(A:List Value) (ua:Option Addr) (ucap:Nat),ρ sx= .slice ua n ucap->A.length=n*kk->(∀j (h:j<cs.length) (h':j<A.length),Rep w I β (A[j]'h') (cs[j]'h))->
   (∀w':World,w'.heap=w.heap->(Builtin.firstCells kk n (.slice ua n ucap)).run P w'= .ok A.toArray w')->¬n+new.length<=ucap->
   OpRun P G (execOp ρ ⟨dst,.call ⟨.builtin .append,#[sx,xx],#[sT,xT]⟩,type,pos,after,guard⟩) w I β H (.vec b (n+new.length)) (H.set b (.vec kk (cs++new.flatten.map .imm))):=by
  intro A ua ucap hsv hAs hArep hsc hg;obtain ⟨newCap,rest',hc1,hc2,hrest,hrun⟩:=ziz (w:=w) (ty:=type) hu hxu hpk hby hz (base:=ua) (n:=n) (cap:=ucap) (A:=A) (B:=B) hxl (fun w' hw'=>hxc w' (fun c o _=>by simp [World.cell?,hw'])) hsc hg hsmall hcond.1;have hrs:rest'.size=(newCap-(n+new.length))*kk:=by rw [hrest];simp [Builtin.zeroCells,hcond.2]
  have hvs:(A.toArray++B.toArray++rest').size=newCap*kk:=by
   simp only [Array.size_append,List.size_toArray,hAs,hBs,hrs];rw [<-Nat.add_mul, <-Nat.add_mul];congr 1;omega
  have hnewblk:(w.drew.alloc (.cells (A.toArray++B.toArray++rest') e)).heap[w.heap.size]?=some (.cells (A.toArray++B.toArray++rest') e (0,0)):=wj (w:=w.drew) _;have hold:∀c,c<w.heap.size->(w.drew.alloc (.cells (A.toArray++B.toArray++rest') e)).heap[c]?=w.heap[c]?:=fun c hc=>by
   show (w.heap.push _)[c]?=_;rw [Array.getElem?_push,if_neg (by omega)]
  have hcell:∀c o,I c o->(w.drew.alloc (.cells (A.toArray++B.toArray++rest') e)).cell? ⟨c,o,none⟩=w.cell? ⟨c,o,none⟩:=fun c o hc=>xg (hold c (hH.inI c o hc)) o
  rw [hsv] at hbu;have hkeep:Keeps β.length β (β.set b (.tok (.slice (some ⟨w.heap.size,0,none⟩) (n+new.length) newCap))):=by
   intro b' x _ hb'
   by_cases e:b'=b
   ·subst e
    rw [hbu] at hb';cases hb';exact ⟨_,List.getElem?_set_self hbxlt,.inr ⟨_,rfl,.inr ⟨_,_,_,_,_,_,rfl,rfl,by omega⟩⟩⟩
   ·exact ⟨x,by rw [List.getElem?_set_ne (Ne.symm e)];exact hb',x.le_refl⟩
  obtain ⟨g1,g2⟩:=hH.moveVec (m:=H.length) (n:=n) (n':=n+new.length) (u':=.slice (some ⟨w.heap.size,0,none⟩) (n+new.length) newCap) (w':=w.drew.alloc (.cells (A.toArray++B.toArray++rest') e)) (I':=I) (o1:=.vec kk (cs++new.flatten.map .imm)) hb (by simp) hbu ⟨_,_,_,_,rfl,rfl⟩ (by omega)
   (by simp) (fun c hc _=>hold c hc) hcell (fun _ _ h=>h) (fun _ _ h=>.inl h) (fun c o hi=>by have:=hH.inI c o hi;simp;omega) (fun c hc=>by cases hc;exact .inr (Nat.le_refl _))
   (.inr ⟨w.heap.size,n+new.length,newCap,_,e,rfl,hnewblk,hvs,hc1,hc2,hnl,rowsOK _ _ A _ hcell hkeep hAs hArep (fun j hj=>by
    rw [Array.getElem?_append_left (by simp [hAs,hBs];omega)];simp),fun o hi=>by have:=hH.inI _ o hi;omega⟩)
  exact .value (by rw [<-hsv] at hrun;simpa [builtin,hxv] using hrun) (.vec b _ _ _ (n+new.length) (List.getElem?_set_self hbxlt) ⟨_,_,rfl⟩ (Nat.le_refl _) ⟨_,_,_,rfl⟩ (fun _=>rfl)) g1 g2
 rcases hnow with ⟨hn0,hsv,hcs⟩|⟨c,cap,vs,T,hsv,h2,h3,h4,h5,h6,h7⟩
 ·subst hn0
  exact grow [] none 0 hsv (by simp) (fun j h h'=>by simp at h') (fun w' _=>by rfl) (by omega)
 ·by_cases hfit:n+new.length<=cap
  ·have hle2:n*kk+new.length*kk<=vs.size:=by rw [h3, <-Nat.add_mul];exact Nat.mul_le_mul_right kk hfit
   have hrun:=zcw (w:=w) (ty:=type) hu hxu hpk (n:=n) (cap:=cap) (m:=new.length) (c:=c) hxl (hxc w (fun _ _ _=>rfl)) hfit h2 hB.len hB.one h3;generalize hW:w.setRow c (vs.toList.take (n*kk)++B++vs.toList.drop (n*kk+new.length*kk)).toArray=W at hrun;have hnb:W.heap[c]?=some (.cells (vs.toList.take (n*kk)++B++vs.toList.drop (n*kk+new.length*kk)).toArray T (0,0)):=by rw [<-hW];exact setRow_heap w c vs _ T _ h2
   have hother:∀c',c'≠c->W.heap[c']?=w.heap[c']?:=by
    intro c' hne;rw [<-hW];simp [World.setRow,Array.getElem?_modify,Ne.symm hne]
   have hsz:W.heap.size=w.heap.size:=by rw [<-hW];simp [World.setRow]
   have hcell:∀c' o,I c' o->W.cell? ⟨c',o,none⟩=w.cell? ⟨c',o,none⟩:=fun c' o hi=>xg (hother c' (fun e=>h7 o (e ▸ hi))) o
   rw [hsv] at hbu;have hkeep:Keeps β.length β (β.set b (.tok (.slice (some ⟨c,0,none⟩) (n+new.length) cap))):=by
    intro b' x _ hb'
    by_cases e:b'=b
    ·subst e
     rw [hbu] at hb';cases hb';exact ⟨_,List.getElem?_set_self hbxlt,.inr ⟨_,rfl,.inr ⟨_,_,_,_,_,_,rfl,rfl,by omega⟩⟩⟩
    ·exact ⟨x,by rw [List.getElem?_set_ne (Ne.symm e)];exact hb',x.le_refl⟩
   have hAl:(vs.toList.take (n*kk)).length=n*kk:=by simp;omega
   obtain ⟨g1,g2⟩:=hH.moveVec (m:=H.length) (n:=n) (n':=n+new.length) (u':=.slice (some ⟨c,0,none⟩) (n+new.length) cap) (w':=W) (I':=I) (o1:=.vec kk (cs++new.flatten.map .imm)) hb (by simp) hbu ⟨_,_,_,_,rfl,rfl⟩ (by omega)
    (by omega) (fun c' _ hne=>hother c' (fun e=>hne (by rw [e];rfl))) hcell (fun _ _ h=>h) (fun _ _ h=>.inl h) (fun c' o hi=>by rw [hsz];exact hH.inI c' o hi) (fun c' hc=>by cases hc;exact .inl rfl)
    (.inr ⟨c,n+new.length,cap,_,T,rfl,hnb,by simp only [List.size_toArray,List.length_append,List.length_take,List.length_drop,Array.length_toList,hBs];omega,hfit,h5,hnl,
     rowsOK _ _ (vs.toList.take (n*kk)) _ hcell hkeep hAl (fun j h h'=>by
      have hj:j<vs.size:=by simp at h';omega
      have:=h6 j h hj;simpa using this) (fun j hj=>by
      rw [List.getElem?_toArray,List.getElem?_append_left (by rw [List.length_append,hAl,hBs];exact hj)]),h7⟩) (by rw [<-hW];exact ⟨rfl,rfl⟩)
   exact .value (by rw [<-hsv] at hrun;simpa [builtin,hxv] using hrun) (.vec b _ _ _ (n+new.length) (List.getElem?_set_self hbxlt) ⟨_,_,rfl⟩ (Nat.le_refl _) ⟨_,_,_,rfl⟩ (fun _=>rfl)) g1 g2
  ·have hAl:(vs.toList.take (n*kk)).length=n*kk:=by
    have:n*kk<=vs.size:=by rw [h3];exact Nat.mul_le_mul_right kk h4
    simp;omega
   refine grow (vs.toList.take (n*kk)) _ cap hsv hAl (fun j h h'=>by
      have hj:j<vs.size:=by simp at h';omega
      have:=h6 j h hj
      simpa using this) (fun w' hw'=>?_) hfit
   have:=run_loadCells_list (P:=P) w' ⟨c,0,none⟩ (vs.toList.take (n*kk)) (fun j x hx=>by
    have hj:j<n*kk:=by rw [<-hAl];exact lt_of_getElem? hx
    rw [zal,xg (w:=w) (by rw [hw']),wg h2];rw [List.getElem?_take_of_lt hj] at hx
    simpa using hx)
   rw [hAl] at this;simpa [Builtin.firstCells] using this
theorem yfu {b n off ns:Nat} {ax vx:Operand} {ty:Nat} {vcs:List SV} {kk:Nat} {cs:List SV} (hop:o.op= .store ty ax vx) (hH:HeapOK G w I β H) (hr:Rep w I β (ρ ax) (.vptr b n off)) (hrv:Reps w I β (ρ vx).cells.toList vcs)
  (hone:vcs.all SV.one=true) (hsz:qm P ty=some ns) (hns:vcs.length=ns) (hb:H[b]?=some (.vec kk cs)) (hlen:cs.length=n*kk) (hk:1<=kk) (hoff:off+ns<=cs.length) (hpos:1<=ns):
  OpRun P G (execOp ρ o) w I β H .any (H.set b (.vec kk (cs.take off++vcs++cs.drop (off+ns)))):=by
 generalize hpv:ρ ax=pv at hr;cases hr with
 |vptr _ _ _ _ a m cap hbu hle hv' heq=>
 rcases hH.obj b _ _ hb hbu with ⟨rfl,e⟩|⟨c,n',cap',vs,T,e,a1,a2,a3,a4,a5,a6,a7⟩
 ·simp at hoff
  omega
 ·cases e
  have hn':n=m:=by
   rw [hlen] at a5;exact Nat.eq_of_mul_eq_mul_right hk a5
  subst hn';obtain ⟨c',e,rfl⟩:=heq rfl;cases e;have hLl:(ρ vx).cells.toList.length=ns:=by rw [hrv.len];exact hns
  have hcsz:(ρ vx).cells.size=ns:=by simpa using hLl
  have hle2:off+ns<=vs.size:=by
   rw [a2];rw [a5] at hoff;exact Nat.le_trans hoff (Nat.mul_le_mul_right kk a3)
  generalize hL:(ρ vx).cells.toList=L at hrv hLl
  have hst:=run_storeCells_at (P:=P) c off T L 0 vs w a1 (by omega) (fun v hv=>by
   obtain ⟨j,hj,rfl⟩:=List.mem_iff_getElem.1 hv;have hj':j<vcs.length:=by rw [<-hrv.len];exact hj
   exact (hrv.rep j _ _ (List.getElem?_eq_getElem hj) (List.getElem?_eq_getElem hj')).oneCell (List.all_eq_true.1 hone _ (List.getElem_mem hj')))
  simp only [Nat.add_zero,hLl] at hst;generalize hW:(vs.toList.take off++L++vs.toList.drop (off+ns)).toArray=W at hst;have hWs:W.size=vs.size:=by rw [<-hW];simp;omega
  have hWj:∀j (hj:j<W.size),W[j]?=if off<=j/\j<off+ns then L[j-off]? else vs[j]?:=fun j hj=>by
   rw [<-hW,List.getElem?_toArray];rcases Nat.lt_or_ge j off with h1|h1
   ·rw [List.append_assoc,List.getElem?_append_left (by simp;omega),List.getElem?_take_of_lt h1,if_neg (by omega)];simp
   ·rcases Nat.lt_or_ge j (off+ns) with h2|h2
    ·rw [List.append_assoc,List.getElem?_append_right (by simp;omega),List.getElem?_append_left (by simp;omega),if_pos ⟨h1,h2⟩]
     congr 1
     simp;omega
    ·rw [List.getElem?_append_right (by simp;omega),List.getElem?_drop,if_neg (by omega)]
     simp
     congr 1
     omega
  have hnew':(w.setRow c W).heap[c]?=some (.cells W T (0,0)):=setRow_heap w c vs W T (0,0) a1;have hother:∀c',c'≠c->(w.setRow c W).heap[c']?=w.heap[c']?:=by
   intro c' hne;simp [World.setRow,Array.getElem?_modify,Ne.symm hne]
  have hIc:∀b o,I b o->(w.setRow c W).cell? ⟨b,o,none⟩=w.cell? ⟨b,o,none⟩:=fun b' o' hi=>xg (hother b' (fun e=>a7 o' (e ▸ hi))) o'
  have hcl:(cs.take off++vcs++cs.drop (off+ns)).length=cs.length:=by simp;omega
  obtain ⟨g1,g2⟩:=hH.changeB (m:=H.length) (w':=w.setRow c W) (o':=.vec kk (cs.take off++vcs++cs.drop (off+ns))) hb (by simp) hbu rfl hother (by simp [World.setRow]) a7
   (.inr ⟨c,n,cap,_,T,rfl,hnew',by rw [hWs];exact a2,a3,a4,by rw [hcl];exact a5,fun j hj hj'=>by
    have hj1:j<cs.length:=by rw [<-hcl];exact hj
    have hj2:j<vs.size:=by rw [<-hWs];exact hj'
    have h2:=Array.getElem?_eq_getElem hj';rw [hWj j hj'] at h2;have h3:=List.getElem?_eq_getElem hj;generalize (cs.take off++vcs++cs.drop (off+ns))[j]'hj=y at h3 ⊢
    by_cases hin:off<=j/\j<off+ns
    ·rw [if_pos hin] at h2
     rw [List.append_assoc,List.getElem?_append_right (by simp;omega),List.getElem?_append_left (by simp;omega)] at h3;have e1:j-(cs.take off).length=j-off:=by simp;omega
     rw [e1] at h3;exact (hrv.rep (j-off) _ _ h2 h3).mono (fun _ _ h=>h) hIc (.refl _ _)
    ·rw [if_neg hin,Array.getElem?_eq_getElem hj2] at h2
     have h4:(cs.take off++vcs++cs.drop (off+ns))[j]?=cs[j]?:=by
      rcases Nat.lt_or_ge j off with h1|h1
      ·rw [List.append_assoc,List.getElem?_append_left (by simp;omega),List.getElem?_take_of_lt h1]
      ·rw [List.getElem?_append_right (by simp;omega),List.getElem?_drop]
       congr 1
       simp;omega
     rw [h4,List.getElem?_eq_getElem hj1] at h3;rw [<-Option.some.inj h2, <-Option.some.inj h3]
     exact (a6 j hj1 hj2).mono (fun _ _ h=>h) hIc (.refl _ _),a7⟩)
  obtain ⟨dst,op,type,pos,after,guard⟩:=o;simp only at hop;subst hop;refine OpRun.unit (w':=w.setRow c W) ?_ g1 g2;rw [hpv];simp only [Instr.storeAt,Instr.sureAddr,storeVar,Sem.run_bind,Sem.run_pure,Result.andThen_ok,wi hsz];rw [if_neg (by rw [hcsz];simp),hL];exact hst
end
section
variable {P:Program} {G:List (Nat × D)} {fn:Func} {rd:Bool} {E:En P G fn rd} {t:List (Nat × SV)} {H K:List SObj} {k:List Item} {m:Nat} {all:Array Oper} {rest:List Oper} {done:List Eff} {o:Oper}
theorem yfv {b n kk by_ e e':Nat} {z:Value} {sx xx:Operand} {sT xT:Nat} {cs:List SV} {new:List (List D)} (hop:o.op= .call ⟨.builtin .append,#[sx,xx],#[sT,xT]⟩)
  (hw:yq all t o.guard=some true) (hd:yv fn.ntmps o.dst=true) (hs:zq G t sx= .vec b n) (hx:zq G t xx= .imm (.isl kk new)) (hu:P.underlying sT=some (.slice e)) (hxu:P.underlying xT=some (.slice e'))
  (hpk:qm P e=some kk) (hby:zcl P e=some by_) (hz:zbb P e=some z) (hcond:by_<=65536/\z.cells.size=kk) (hm:m<=K.length) (hb:K[b]?=some (.vec kk cs)) (hlen:cs.length=n*kk) (hk:1<=kk) (hnew:1<=new.length) (hsmall:n+new.length<=1073741824)
  (h:SWe E m all rest k (wz t o.dst (.vec b (n+new.length))) (K.set b (.vec kk (cs++new.flatten.map SV.imm))) (done++[⟨.vec b (n+new.length),[b],some (b,.vec kk (cs++new.flatten.map SV.imm))⟩])):SWe E m all (o::rest) k t K done:=
 zib (e:=⟨.vec b (n+new.length),[b],some (b,.vec kk (cs++new.flatten.map SV.imm))⟩) ⟨hd,.inr ⟨hw,fun K' hl ha ρ w I β hH _ hops=>by
  have hr:=hops sx (by rw [hop];simp [Op.operands,Call.operands]);rw [hs] at hr;have hrx:=hops xx (by rw [hop];simp [Op.operands,Call.operands]);rw [hx] at hrx;have hb':K'[b]?=some (.vec kk cs):=by rw [ha b (.inl (by simp))];exact hb
  obtain ⟨nn,v,w',I',β',h1,h2,h3,h4,h5⟩:=yft hop hH hr hrx hu hxu hpk hby hz hcond hb' hlen hk hnew hsmall;have hk:Keeps β.length β β':=by rw [hH.len];exact h5.keep
  exact .inl ⟨nn,v,w',I',β',h1,h2,h3,h4,h5.weaken (by omega),hk.toD,fun b hb _=>hk.dummy (lt_of_getElem? hb) hb⟩⟩⟩ h
theorem yct (b0 j b n kk : Nat) {cs0 cs : List SV} {ds : List D} (hb0 : H[b0]? = some (.cells cs0)) (hj : cs0[j]? = some (.vec b n)) (hb : H[b]? = some (.vec kk cs)) (hone : cs.all SV.one = true) (hds : cs.mapM SV.toD = some ds) (hlen : cs.length = n * kk) (hk : 1 <= kk)
    (h : SW E k t ((H.set b .dead).set b0 (.cells (cs0.set j (.imm (.isl kk (jz kk ds n))))))) : SW E k t H := by
  refine ⟨fun a w I β cs' hsim => ?_⟩
  have hbl := lt_of_getElem? hb
  have hbl0 := lt_of_getElem? hb0
  have hjl := lt_of_getElem? hj
  have hne0 : b0 ≠ b := by rintro rfl; rw [hb0] at hb; cases hb
  obtain ⟨x0, hx0⟩ : ∃ x0, β[b0]? = some x0 := ⟨_, List.getElem?_eq_getElem (by rw [hsim.heap.len]; exact hbl0)⟩
  have hobj := hsim.heap.obj b0 _ _ hb0 hx0
  cases x0 with
  | tok u => exact hobj.elim
  | blk c0 =>
  obtain ⟨vs0, T0, o1, o2, o3, o4⟩ := hobj
  have hj2 : j < vs0.size := by rw [o2]; exact hjl
  have hr := o3 j hjl hj2
  rw [show cs0[j] = .vec b n by rw [List.getElem?_eq_getElem hjl] at hj; exact Option.some.inj hj] at hr
  obtain ⟨hbu, hnow⟩ := zmr hsim.heap hb hr hlen hk
  obtain ⟨hdl, hdg⟩ := zno hds
  generalize hNC : SObj.cells (cs0.set j (.imm (.isl kk (jz kk ds n)))) = NC at h
  have hget : ∀ b', ((H.set b .dead).set b0 NC)[b']? = if b' = b0 then some NC else if b' = b then some .dead else H[b']? := fun b' => by
    by_cases e1 : b' = b0
    · subst e1; rw [if_pos rfl, List.getElem?_set_self (by rw [List.length_set]; exact hbl0)]
    · rw [if_neg e1, List.getElem?_set_ne (Ne.symm e1)]
      by_cases e2 : b' = b
      · subst e2; rw [if_pos rfl, List.getElem?_set_self hbl]
      · rw [if_neg e2, List.getElem?_set_ne (Ne.symm e2)]
  have hsub : ∀ b' c', jr ((H.set b .dead).set b0 NC) β b' c' -> b' ≠ b /\ jr H β b' c' := by
    rintro b' c' ⟨o, x, h1, h2, h3, h4⟩
    rw [hget] at h1
    split at h1
    · rename_i e; subst e
      exact ⟨hne0, _, x, hb0, by simp, h3, h4⟩
    · split at h1
      · cases h1; exact absurd rfl h2
      · rename_i e1 e2
        exact ⟨e2, o, x, h1, h2, h3, h4⟩
  have fin : ∀ (I' : Imm), (∀ c o, I c o -> I' c o) -> (∀ c' o, I' c' o -> I c' o \/ jr H β b c') -> DRep w I' (vs0[j]'hj2) (.isl kk (jz kk ds n)) -> E.Goal (lone (E.at a k) cs' w) cs' := by
    intro I' hI hnew hd
    refine h.run a w I' β cs' ⟨⟨by simp [hsim.heap.len], fun b' o x h1 h2 => ?_, fun b1 b2 c' h1 h2 => hsim.heap.inj b1 b2 c' (hsub b1 c' h1).2 (hsub b2 c' h2).2, fun c' o hi => ?_, fun g d hg => (hsim.heap.glob g d hg).mono hI (fun _ _ _ => rfl)⟩,
      fun m => (hsim.tmps m).mono hI (fun _ _ _ => rfl) (.refl _ _), hsim.size, ?_, ?_, by simpa using hsim.hlen⟩
    · rw [hget] at h1
      split at h1
      · rename_i e; subst e
        cases h1
        rw [hx0] at h2
        cases h2
        rw [<- hNC]
        refine ⟨vs0, T0, o1, by rw [List.length_set]; exact o2, fun i hi hi' => ?_, fun o hi => ?_⟩
        · by_cases e : j = i
          · subst e
            rw [List.getElem_set_self]
            exact .imm hd
          · rw [List.getElem_set_ne e]
            exact (o3 i (by simpa using hi) hi').mono hI (fun _ _ _ => rfl) (.refl _ _)
        · rcases hnew c0 o hi with h3 | h3
          · exact o4 o h3
          · exact hne0 (hsim.heap.inj b' b c0 ⟨_, _, hb0, by simp, hx0, rfl⟩ h3)
      · split at h1
        · cases h1; trivial
        · rename_i e1 e2
          by_cases hdead : o = .dead
          · subst hdead; trivial
          · refine (hsim.heap.obj b' o x h1 h2).mono (fun _ _ => rfl) hI (fun _ _ _ => rfl) (.refl _ _) (fun c' q hc hi => ?_)
            rcases hnew c' q hi with h3 | h3
            · exact h3
            · exact absurd (hsim.heap.inj b' b c' ⟨o, x, h1, hdead, h2, hc⟩ h3) e2
    · rcases hnew c' o hi with h3 | h3
      · exact hsim.heap.inI c' o h3
      · exact hsim.heap.owns_lt h3
    · obtain ⟨bs, d1, d2, d3⟩ := hsim.defers
      exact ⟨bs, d1, d2, fun c' hc => ⟨(d3 c' hc).1, (d3 c' hc).2.1, fun b' hb' => (d3 c' hc).2.2 b' (hsub b' c' hb').2⟩⟩
    · exact { hsim.ext with
        imm := fun c' o hi => hI _ _ (hsim.ext.imm c' o hi)
        own := fun b' c' ho => hsim.ext.own b' c' (hsub b' c' ho).2
        new := fun c' o hi => by
          rcases hnew c' o hi with h3 | h3
          · exact hsim.ext.new c' o h3
          · exact .inr (hsim.ext.own b c' h3) }
  rcases hnow with ⟨hn0, hsv, hcs⟩ | ⟨c, cap, vs, T, hsv, a1, a2, a3, a4, a5, a6⟩
  · subst hn0
    exact fin I (fun _ _ h => h) (fun _ _ h => .inl h) (by rw [hsv]; exact .islNil kk)
  · have hown : jr H β b c := ⟨_, _, hb, by simp, hbu, by rw [hsv]; rfl⟩
    have hle : cs.length <= vs.size := by rw [hlen, a2]; exact Nat.mul_le_mul_right kk a3
    refine fin (I.plus c cs.length) (fun _ _ h => .inl h) (fun c' o hi => hi.imp id (fun h => by rw [h.1]; exact hown)) ?_
    rw [hsv]
    refine zmo (vs := vs.toList.take cs.length) (by rw [hdl, hlen]) (fun o ho => .inr ⟨rfl, by omega⟩) (fun o ho => ?_) (by simp; omega) (fun v hv => ?_) (fun o v d hv hd => ?_) a3 a4
    · rw [wg a1, List.getElem?_take_of_lt (by omega)]; simp
    · obtain ⟨j, hj, rfl⟩ := List.mem_iff_getElem.1 hv
      have hjj : j < cs.length /\ j < vs.size := by simp at hj; omega
      have hj' := hjj.2
      have := (a5 j (by omega) hj').oneCell (List.all_eq_true.1 hone _ (List.getElem_mem (by omega)))
      simpa using this
    · have hvv : o < cs.length /\ o < vs.size := by have := lt_of_getElem? hv; simp at this; omega
      have hv' := hvv.2
      have ho : o < cs.length := hvv.1
      rw [List.getElem?_take_of_lt ho] at hv
      obtain ⟨d', hd', hs'⟩ := hdg o _ (List.getElem?_eq_getElem ho)
      rw [hd] at hd'
      cases hd'
      have hvv : v = vs[o] := by simpa [hv'] using hv.symm
      subst hvv
      exact ((a5 o ho hv').toD hs').mono (fun _ _ h => .inl h) (fun _ _ _ => rfl)
theorem zue {b n off ns:Nat} {ax vx:Operand} {ty:Nat} {vcs:List SV} {kk:Nat} {cs:List SV} (hop:o.op= .store ty ax vx) (hw:yq all t o.guard=some true) (hd:yv fn.ntmps o.dst=true) (ha:zq G t ax= .vptr b n off)
  (hv:(zq G t vx).cells=some vcs) (hone:vcs.all SV.one=true) (hsz:qm P ty=some ns) (hns:vcs.length=ns) (hb:H[b]?=some (.vec kk cs)) (hlen:cs.length=n*kk) (hk:1<=kk) (hoff:off+ns<=cs.length) (hpos:1<=ns)
  (h:SWr E all rest k (wz t o.dst .any) (H.set b (.vec kk (cs.take off++vcs++cs.drop (off+ns))))):SWr E all (o::rest) k t H:=by
 refine zce hw hd (fun c e=>by rw [hop] at e;cases e) (by simp) (fun ρ w I β hH hev=>?_) h;have hr:=hev ax;rw [ha] at hr;exact yfu hop hH hr ((hev vx).cellsReps hv) hone hsz hns hb hlen hk hoff hpos
end
end Go.Sh
namespace Go.Proofs.YtblpjknmhajcgaaGreatDoor
open Go Go.Sh
variable (G:List (Nat × D))
theorem zkl (l:List Int) (x:Int) (hz:l.length<=9223372036854775807):zw Tryz.prog G 31 [.imm (zi l),sI x] (sB (decide (x∈l))):=by
 have hla:(l.map fun n=>[dI n]).length=l.length:=by simp
 refine zc Tryz.func31 rfl (by rw [Tryz.ntmps31];simp) rfl rfl ?_;intro E hH hK;(refine zf ?_;conv=>whnf);refine zg [0,1,5] ?_;refine zo l (fun i (_:Unit)=>[(0,.imm (zi l)),(1,sI x),(5,sI i)]) (fun _ _=>[]) (fun done _ _=>x ∉ done) () (by simp) ?_ ?_
 ·rintro _ h1
  (refine zf ?_;conv=>whnf)
  repeat' ((with_reducible refine way ?_ ?_)<;>(intro h;conv=>whnf))
  all_goals try (exfalso;omega)
  rw [decide_eq_false h1] at hK;exact hK _
 ·rintro done y rest _ hda hdl h1 ih
  have hw:=zk (n:=done.length) (by omega);have hrx:(l.map fun n=>[dI n])[((done.length:Nat):Int).toNat]?=some [dI y]:=by simp [hda]
  (refine zf ?_;conv=>whnf)
  repeat' ((with_reducible refine way ?_ ?_)<;>(intro h;conv=>whnf))
  all_goals try (exfalso;omega)
  refine zh rfl rfl  hrx ?_;(refine za ?_;conv=>whnf)
  repeat' ((with_reducible refine way ?_ ?_)<;>(intro h;conv=>whnf))
  ·rw [decide_eq_true (show x∈l by rw [hda,h];simp)] at hK
   exact hK _
  ·rw [hw]
   refine zg [0,1,5] ?_;exact ih () (by simp only [List.mem_append,List.mem_cons,List.not_mem_nil,or_false,not_or];exact ⟨h1,fun e=>h e.symm⟩)
theorem zgb (a b:List Int) (ha:a.length<=1000000000) (hb:b.length<=1000000000):zw Tryz.prog G 16 [.imm (zi a),.imm (zi b)] (sB (decide (a=b))):=by
 have hla:(a.map fun n=>[dI n]).length=a.length:=by simp
 have hlb:(b.map fun n=>[dI n]).length=b.length:=by simp
 refine zc Tryz.func16 rfl (by rw [Tryz.ntmps16];simp) rfl rfl ?_;intro E hH hK;(refine zf ?_;conv=>whnf)
 repeat' ((with_reducible refine way ?_ ?_)<;>(intro h;conv=>whnf))
 ·rw [decide_eq_false (show ¬a=b by rintro rfl;omega)] at hK
  exact hK _
 have hll:a.length=b.length:=by omega
 refine zg [0,1,5] ?_;refine zo a (fun i (_:Unit)=>[(0,.imm (zi a)),(1,.imm (zi b)),(5,sI i)]) (fun _ _=>[]) (fun done _ _=>done=b.take done.length) () (by simp) ?_ ?_
 ·rintro _ h1
  rw [hll,List.take_length] at h1;(refine zf ?_;conv=>whnf)
  repeat' ((with_reducible refine way ?_ ?_)<;>(intro h;conv=>whnf))
  all_goals try (exfalso;omega)
  rw [decide_eq_true h1] at hK;exact hK _
 ·rintro done x rest _ hda hdl h1 ih
  have hw:=zk (n:=done.length) (by omega);have hlt:done.length<b.length:=by omega
  obtain ⟨y,hy⟩:∃y,b[done.length]?=some y:=⟨_,List.getElem?_eq_getElem hlt⟩;have hrx:(a.map fun n=>[dI n])[done.length]?=some [dI x]:=by simp [hda]
  have hry:(b.map fun n=>[dI n])[done.length]?=some [dI y]:=by simp [hy]
  have hax:a[done.length]?=some x:=by simp [hda]
  have htk:b.take (done.length+1)=b.take done.length++[y]:=by rw [List.take_add_one,hy];rfl
  (refine zf ?_;conv=>whnf)
  repeat' ((with_reducible refine way ?_ ?_)<;>(intro h;conv=>whnf))
  all_goals try (exfalso;omega)
  (refine zu 0 mixed rfl ?_;refine zb [777] (nx:=0) ?_;conv=>whnf);refine zt (i:=done.length) (row:=[dI x]) rfl (by simp) rfl hrx ?_;(refine zb [777] (nx:=0) ?_;conv=>whnf);refine zt (i:=done.length) (row:=[dI y]) rfl (by simp) rfl hry ?_;(refine zb [777] (nx:=0) ?_;conv=>whnf);(refine zf ?_;conv=>whnf)
  repeat' ((with_reducible refine way ?_ ?_)<;>(intro h;conv=>whnf))
  ·have hne:=h
   rw [decide_eq_false (show ¬a=b by rintro rfl;rw [hax] at hy;exact hne (Option.some.inj hy))] at hK;exact hK _
  ·rw [hw]
   refine zg [0,1,5] ?_;refine ih () ?_;rw [List.length_append,List.length_cons,List.length_nil,htk, <-h1,h]
theorem zgc (v w:View) (hv:v.fit) (hw1:w.fit) (hz:v.has.length<=1000000000/\v.value.length<=1000000000/\v.arts.length<=1000000000) (hz2:w.value.length<=1000000000/\w.arts.length<=1000000000):
  zw Tryz.prog G 15 [v.sv,w.sv] (sB (v.same' w)):=by
 obtain ⟨d1,h1,v1,a1⟩:=v;obtain ⟨d2,h2,v2,a2⟩:=w;simp only at hz hz2;have hla:(h1.map fun b=>[dB b]).length=h1.length:=by simp
 have hlb:(h2.map fun b=>[dB b]).length=h2.length:=by simp
 have hs1:=zgb G v1 v2 hz.2.1 hz2.1;have hs2:=zgb G a1 a2 hz.2.2 hz2.2;have he:View.same' ⟨d1,h1,v1,a1⟩ ⟨d2,h2,v2,a2⟩=(decide (d1=d2)&&decide (h1=h2)&&decide (v1=v2)&&decide (a1=a2)):=by
  simp [View.same',View.same,Bool.and_assoc]
 rw [he];generalize decide (v1=v2)=z1 at hs1;generalize decide (a1=a2)=z2 at hs2;refine zc Tryz.func15 rfl (by rw [Tryz.ntmps15];simp) rfl rfl ?_;intro E hH hK;(refine zf ?_;conv=>whnf)
 repeat' ((with_reducible refine way ?_ ?_)<;>(intro h;conv=>whnf))
 ·have h':¬h1.length=h2.length:=by simp only at h;omega
  rw [decide_eq_false (show ¬h1=h2 by rintro rfl;exact h' rfl),Bool.and_false,Bool.false_and,Bool.false_and] at hK;exact hK _
 ·rename_i g1
  have hll:h1.length=h2.length:=by simp only at h;omega
  have g1:d1=d2:=g1;rw [decide_eq_true g1,Bool.true_and] at hK;refine zg [2,3,5] ?_;change SW E _ [(2,.ptr 0 0),(3,.ptr 1 0),(5,sI 0)] [.cells [sI d1,.imm (qu h1),.imm (zi v1),.imm (zi a1)],.cells [sI d2,.imm (qu h2),.imm (zi v2),.imm (zi a2)]];refine zo h1 (fun i (_:Unit)=>[(2,.ptr 0 0),(3,.ptr 1 0),(5,sI i)]) (fun _ _=>[.cells [sI d1,.imm (qu h1),.imm (zi v1),.imm (zi a1)],.cells [sI d2,.imm (qu h2),.imm (zi v2),.imm (zi a2)]]) (fun done _ _=>done=h2.take done.length) () (by simp) ?_ ?_
  ·rintro _ e1
   rw [hll,List.take_length] at e1;rw [decide_eq_true e1,Bool.true_and] at hK;(refine zf ?_;conv=>whnf)
   repeat' ((with_reducible refine way ?_ ?_)<;>(intro h;conv=>whnf))
   all_goals try (exfalso;omega)
   refine ze rfl  hs1 ?_;cases z1<;>((refine za ?_;conv=>whnf))
   ·exact hK _
   ·refine ze rfl  hs2 ?_
    (refine za ?_;conv=>whnf);exact hK _
  ·rintro done x rest _ hda hdl e1 ih
   have hw:=zk (n:=done.length) (by omega);have hlt:done.length<h2.length:=by omega
   obtain ⟨y,hy⟩:∃y,h2[done.length]?=some y:=⟨_,List.getElem?_eq_getElem hlt⟩;have hrx:(h1.map fun b=>[dB b])[done.length]?=some [dB x]:=by simp [hda]
   have hry:(h2.map fun b=>[dB b])[done.length]?=some [dB y]:=by simp [hy]
   have hax:h1[done.length]?=some x:=by simp [hda]
   have htk:h2.take (done.length+1)=h2.take done.length++[y]:=by rw [List.take_add_one,hy];rfl
   have hno:x≠y->decide (h1=h2)=false:=fun hne=>decide_eq_false (by rintro rfl;rw [hax] at hy;exact hne (Option.some.inj hy))
   have hyes:x=y->done++[x]=h2.take (done++[x]).length:=fun e=>by rw [List.length_append,List.length_cons,List.length_nil,htk, <-e1,e]
   (refine zf ?_;conv=>whnf)
   repeat' ((with_reducible refine way ?_ ?_)<;>(intro h;conv=>whnf))
   all_goals try (exfalso;omega)
   (refine zu 0 mixed rfl ?_;refine zb [777] (nx:=2) ?_;conv=>whnf);refine zt (i:=done.length) (row:=[dB x]) rfl (show 2<=2 by decide) rfl hrx ?_;(refine zb [777] (nx:=2) ?_;conv=>whnf);refine zt (i:=done.length) (row:=[dB y]) rfl (show 2<=2 by decide) rfl hry ?_;cases x<;>cases y<;>((refine zb [777] (nx:=2) ?_;conv=>whnf))<;>((refine zf ?_;conv=>whnf))
   ·rw [hw]
    refine zg [2,3,5] ?_;exact ih () (hyes rfl)
   ·rw [hno (by decide),Bool.false_and,Bool.false_and] at hK
    exact hK _
   ·rw [hno (by decide),Bool.false_and,Bool.false_and] at hK
    exact hK _
   ·rw [hw]
    refine zg [2,3,5] ?_;exact ih () (hyes rfl)
 ·have h':¬d1=d2:=h
  rw [decide_eq_false h',Bool.false_and,Bool.false_and,Bool.false_and] at hK;exact hK _
theorem ycu (c:Codex) (vs:List Int) (hz:vs.length<=1000000) (hv:∀v∈vs,0<=v/\v<c.arts.length):
  zw Tryz.prog G 26 [c.sv,.imm (zi vs)] (.tup [sI (ym c vs).1,sI (ym c vs).2]):=by
 have hal:(c.arts.map Article.cells).length=c.arts.length:=by simp
 have hvl:(vs.map fun n=>[dI n]).length=vs.length:=by simp
 refine zc Tryz.func26 rfl (by rw [Tryz.ntmps26];simp) rfl rfl ?_;intro E hH hK;rw [show c.sv= .agg [.imm (zj c.facts),.imm (zj c.lines),.imm (yl c.arts)] from rfl];(refine zf ?_;conv=>whnf);refine zg [1,2,6,7,8] ?_;change SW E _ [(1,.imm (zi vs)),(2,.ptr 0 0),(6,sI 0),(7,sI 36525),(8,sI 0)] [.cells [.imm (zj c.facts),.imm (zj c.lines),.imm (yl c.arts)]];refine zo vs (fun i (r:Int × Int)=>[(1,.imm (zi vs)),(2,.ptr 0 0),(6,sI r.1),(7,sI r.2),(8,sI i)]) (fun _ _=>[.cells [.imm (zj c.facts),.imm (zj c.lines),.imm (yl c.arts)]])
  (fun done _ r=>r=ym c done) (0,36525) rfl ?_ ?_
 ·rintro r h1
  rw [<-h1] at hK;(refine zf ?_;conv=>whnf)
  repeat' ((with_reducible refine way ?_ ?_)<;>(intro h;conv=>whnf))
  all_goals try (exfalso;omega)
  exact hK _
 ·rintro done x rest r hda hdl h1 ih
  have hw:=zk (n:=done.length) (by omega);have hrx:(vs.map fun n=>[dI n])[done.length]?=some [dI x]:=by simp [hda]
  have hxr:=hv x (by rw [hda];simp);obtain ⟨a,ha⟩:∃a,c.arts[x.toNat]?=some a:=⟨_,List.getElem?_eq_getElem (by omega)⟩;have hax:qj c x=some a:=by unfold qj;rw [if_neg (by omega)];exact ha
  obtain ⟨op,n,u,den,ps,ks,hamt⟩:=jo a;have hra:=zgr c ha hamt;have hsn:ym c (done++[x])=(max r.1 a.lo,min r.2 a.hi):=by
   unfold ym;rw [List.foldl_append];show (match qj c x with|some a=>_|none=>_)=_;rw [hax,h1];rfl
  (refine zf ?_;conv=>whnf)
  repeat' ((with_reducible refine way ?_ ?_)<;>(intro h;conv=>whnf))
  all_goals try (exfalso;omega)
  (refine zu 0 mixed rfl ?_;refine zb [777] (nx:=1) ?_;conv=>whnf);refine zt (i:=done.length) (row:=[dI x]) rfl (show 1<=1 by decide) rfl hrx ?_;(refine zb [777] (nx:=1) ?_;conv=>whnf);refine zt (i:=x.toNat) (row:=[dI a.number,dI a.line,dI a.rank,dI a.lo,dI a.hi,dI a.known,ye a.when_,zi a.unless_,dI op,dI n,dS u,dI den,.isl 3 (ps.map Piece.cells),.isl 6 (zd ks)]) rfl (show 1<=1 by decide) (Int.toNat_of_nonneg hxr.1).symm hra ?_;(refine zb [777] (nx:=1) ?_;conv=>whnf);refine zg [1,2,6,7,8] ?_;change SW E _ [(1,.imm (zi vs)),(2,.ptr 0 0),(6,sI (if r.1<a.lo then a.lo else r.1)),(7,sI r.2),(8,sI done.length)] [.cells [.imm (zj c.facts),.imm (zj c.lines),.imm (yl c.arts)]];(refine zu 0 mixed rfl ?_;refine zb [777] (nx:=1) ?_;conv=>whnf);refine zt (i:=done.length) (row:=[dI x]) rfl (show 1<=1 by decide) rfl hrx ?_;(refine zb [777] (nx:=1) ?_;conv=>whnf);refine zt (i:=x.toNat) (row:=[dI a.number,dI a.line,dI a.rank,dI a.lo,dI a.hi,dI a.known,ye a.when_,zi a.unless_,dI op,dI n,dS u,dI den,.isl 3 (ps.map Piece.cells),.isl 6 (zd ks)]) rfl (show 1<=1 by decide) (Int.toNat_of_nonneg hxr.1).symm hra ?_;(refine zb [777] (nx:=1) ?_;conv=>whnf);refine zg [1,2,6,7,8] ?_;change SW E _ [(1,.imm (zi vs)),(2,.ptr 0 0),(6,sI (if r.1<a.lo then a.lo else r.1)),(7,sI (if a.hi<r.2 then a.hi else r.2)),(8,sI done.length)] [.cells [.imm (zj c.facts),.imm (zj c.lines),.imm (yl c.arts)]];have e1:(if r.1<a.lo then a.lo else r.1)=max r.1 a.lo:=by omega
  have e2:(if a.hi<r.2 then a.hi else r.2)=min r.2 a.hi:=by omega
  rw [e1,e2];(refine zf ?_;conv=>whnf);rw [hw];exact zg [1,2,6,7,8] (ih (max r.1 a.lo,min r.2 a.hi) hsn.symm)
def zmh (c:Codex) (v:Int):List Ex:=match qj c v with|some a=>a.when_|none=>[]
def ya (c:Codex) (vs:List Int):List Ex:=vs.flatMap (zmh c)
theorem zgd {c:Codex} (hw:∀a∈c.arts,a.when_.length<=100):∀vs:List Int,(ya c vs).length<=100*vs.length
 |[]=>by simp [ya]
 |v::vs=>by
  have ih:=zgd hw vs;have h1:(zmh c v).length<=100:=by
   unfold zmh qj;split
   ·rename_i a h
    split at h
    ·cases h
    ·exact hw a (List.mem_of_getElem? h)
   ·simp
  show (zmh c v++ya c vs).length<=_;rw [List.length_append,List.length_cons];omega
theorem zkm (c:Codex) (vs:List Int) (hz:vs.length<=100000) (hv:∀v∈vs,0<=v/\v<c.arts.length) (hwh:∀a∈c.arts,a.when_.length<=100):
  zw Tryz.prog G 42 [c.sv,.imm (zi vs)] (.imm (ye (ya c vs))):=by
 have hal:(c.arts.map Article.cells).length=c.arts.length:=by simp
 have hvl:(vs.map fun n=>[dI n]).length=vs.length:=by simp
 refine zc Tryz.func42 rfl (by rw [Tryz.ntmps42];simp) rfl rfl ?_;intro E hH hK;rw [show c.sv= .agg [.imm (zj c.facts),.imm (zj c.lines),.imm (yl c.arts)] from rfl];(refine zf ?_;conv=>whnf);refine zjr (n:=5) (kk:=6) rfl ?_;refine zg [1,2,5,6] ?_;change SW E _ [(1,.imm (zi vs)),(2,.ptr 0 0),(5,.asl 1 6 []),(6,sI 0)] [.cells [.imm (zj c.facts),.imm (zj c.lines),.imm (yl c.arts)],.tok 6 0];refine zo vs (fun i (l:List Ex)=>[(1,.imm (zi vs)),(2,.ptr 0 0),(5,.asl 1 6 (l.map Ex.cells)),(6,sI i)]) (fun _ l=>[.cells [.imm (zj c.facts),.imm (zj c.lines),.imm (yl c.arts)],.tok 6 (l.map Ex.cells).length])
  (fun done _ l=>l=ya c done) [] rfl ?_ ?_
 ·rintro l h1
  rw [<-h1] at hK;refine zay ?_;change SW E _ [(1,.imm (zi vs)),(2,.ptr 0 0),(5,.imm (ye l)),(6,sI vs.length)] _;(refine zf ?_;conv=>whnf)
  repeat' ((with_reducible refine way ?_ ?_)<;>(intro h;conv=>whnf))
  all_goals try (exfalso;omega)
  exact hK _
 ·rintro done x rest l hda hdl h1 ih
  have hw:=zk (n:=done.length) (by omega);have hrx:(vs.map fun n=>[dI n])[done.length]?=some [dI x]:=by simp [hda]
  have hxr:=hv x (by rw [hda];simp);obtain ⟨a,ha⟩:∃a,c.arts[x.toNat]?=some a:=⟨_,List.getElem?_eq_getElem (by omega)⟩;have hax:qj c x=some a:=by unfold qj;rw [if_neg (by omega)];exact ha
  obtain ⟨op,n,u,den,ps,ks,hamt⟩:=jo a;have hra:=zgr c ha hamt;have hsn:ya c (done++[x])=l++a.when_:=by
   unfold ya at h1 ⊢;rw [List.flatMap_append, <-h1];simp [zmh,hax]
  have hlen:=zgd hwh done;rw [<-h1] at hlen;have hwl:=hwh a (List.mem_of_getElem? ha);(refine zf ?_;conv=>whnf)
  repeat' ((with_reducible refine way ?_ ?_)<;>(intro h;conv=>whnf))
  all_goals try (exfalso;omega)
  (refine zu 0 mixed rfl ?_;refine zb [777] (nx:=2) ?_;conv=>whnf);refine zt (i:=done.length) (row:=[dI x]) rfl (show 2<=2 by decide) rfl hrx ?_;(refine zb [777] (nx:=2) ?_;conv=>whnf);refine zt (i:=x.toNat) (row:=[dI a.number,dI a.line,dI a.rank,dI a.lo,dI a.hi,dI a.known,ye a.when_,zi a.unless_,dI op,dI n,dS u,dI den,.isl 3 (ps.map Piece.cells),.isl 6 (zd ks)]) rfl (show 2<=2 by decide) (Int.toNat_of_nonneg hxr.1).symm hra ?_;(refine zb [777] (nx:=2) ?_;conv=>whnf);refine zfo (b:=1) (kk:=6) (rows:=l.map Ex.cells) (new:=a.when_.map Ex.cells) rfl rfl rfl rfl rfl rfl rfl rfl rfl rfl ⟨by decide,rfl⟩ (show 2<=2 by decide) rfl (by rw [List.length_map,List.length_map];omega) ?_;have e5:(l.map Ex.cells)++(a.when_.map Ex.cells)=(l++a.when_).map Ex.cells:=by simp
  (refine zb [777] (nx:=2) ?_;conv=>whnf);refine zg [1,2,5,6] ?_;refine Eq.mpr (congrArg (fun v=>SW E _ [(1,.imm (zi vs)),(2,.ptr 0 0),(5,.asl 1 6 v),(6,sI done.length)] [.cells [.imm (zj c.facts),.imm (zj c.lines),.imm (yl c.arts)],.tok 6 v.length]) e5) ?_;(refine zf ?_;conv=>whnf);rw [hw];exact zg [1,2,5,6] (ih (l++a.when_) hsn.symm)
theorem yfw (d:Int):zw Tryz.prog G 73 [sI d] (sI (zaj d)):=by
 by_cases hd:0<=d/\d<=36524
 ·have e1:IntKind.i64.wrap (6+d.tmod 7)=6+d.tmod 7:=by rw [Int.tmod_eq_emod_of_nonneg (by omega),yz (by omega) (by omega)]
  have e2:=Int.tmod_eq_emod_of_nonneg (a:=d) (b:=7) (by omega);have e3:=Int.tmod_eq_emod_of_nonneg (a:=d+5) (b:=7) (by omega);refine zc Tryz.func73 rfl (by rw [Tryz.ntmps73];simp) rfl rfl ?_;intro E hH hK;(refine zl ?_;conv=>whnf)
  repeat' ((with_reducible refine way ?_ ?_)<;>(intro h;conv=>whnf))
  all_goals try (exfalso;omega)
  all_goals rw [e1] at*
  ·rw [yz (by omega) (by omega)]
   refine kI hK ?_;rw [zaj,if_pos hd];omega
  ·refine kI hK ?_
   rw [zaj,if_pos hd];omega
 ·refine zc Tryz.func73 rfl (by rw [Tryz.ntmps73];simp) rfl rfl ?_;intro E hH hK
  (refine zl ?_;conv=>whnf)
  repeat' ((with_reducible refine way ?_ ?_)<;>(intro h;conv=>whnf))
  all_goals try (exfalso;omega)
  all_goals exact kI hK (by rw [zaj,if_neg hd])
theorem yma (y m:Nat) (hm:m<12):zjv (2000+(y:Int)) ((m:Int)+1)=lenOf (12*y+m):=by
 unfold lenOf;rw [show (12*y+m) / 12=y by omega,show (12*y+m) % 12=m by omega]
theorem yfx (d:Int):zw Tryz.prog G 72 [sI d] (yuh (wn d)):=by
 by_cases hd:0<=d/\d<=36524
 case neg=>
  refine zc Tryz.func72 rfl (by rw [Tryz.ntmps72];simp) rfl rfl ?_;intro E hH hK;rw [wn,if_neg hd] at hK;(refine zl ?_;conv=>whnf)
  repeat' ((with_reducible refine way ?_ ?_)<;>(intro h;conv=>whnf))
  all_goals try (exfalso;omega)
  all_goals exact hK _
 refine zc Tryz.func72 rfl (by rw [Tryz.ntmps72];simp) rfl rfl ?_;intro E hH hK;(refine zl ?_;conv=>whnf)
 repeat' ((with_reducible refine way ?_ ?_)<;>(intro h;conv=>whnf))
 all_goals try (exfalso;omega)
 refine zg [0,5,6] ?_;have e0:d=d-zy (12*((0,0):Nat × Nat).1+((0,0):Nat × Nat).2):=by simp [zy]
 refine Eq.mpr (congrArg (fun v=>SW E _ [(0,sI v),(5,sI 2000),(6,sI 1)] _) e0) ?_;refine xc (σ:=Nat × Nat) (fun y=>[(0,sI (d-zy (12*y.1+y.2))),(5,sI (2000+(y.1:Int))),(6,sI ((y.2:Int)+1))]) (fun _=>[]) (fun y=>y.1<=99/\y.2<12/\zy (12*y.1+y.2)<=d) (fun y=>1200-(12*y.1+y.2)) ?_ (0,0) ⟨by simp,by simp,by simp [zy];omega⟩;rintro ⟨y,m⟩ ⟨hy,hm,hle⟩ ih;simp only at hy hm hle ih;have hst:zy (12*y+m+1)=zy (12*y+m)+lenOf (12*y+m):=rfl;have hlr:=zci (12*y+m);have hfb:=zie (12*y+m);have hD:=ybf G (2000+(y:Int)) ((m:Int)+1);rw [yma y m hm] at hD;change SW E _ [(0,sI (d-zy (12*y+m))),(5,sI (2000+(y:Int))),(6,sI ((m:Int)+1))] _;(refine zl ?_;conv=>whnf);refine ze rfl  hD ?_;(refine zm ?_;conv=>whnf)
 repeat' ((with_reducible refine way ?_ ?_)<;>(intro h;conv=>whnf))
 ·refine ze rfl  hD ?_
  (refine zm ?_;conv=>whnf);have e1:IntKind.i64.wrap (d-zy (12*y+m)-lenOf (12*y+m))=d-zy (12*y+m+1):=by rw [yz (by omega) (by omega)];omega
  have e2:IntKind.i64.wrap ((m:Int)+1+1)=(m:Int)+2:=by rw [yz (by omega) (by omega)];omega
  rw [e2];have hlt:=zwh (d:=d) (y:=y) (m:=m+1) (r:=d-zy (12*y+m+1)) hd.2 (by omega) (by rw [show 12*y+(m+1)=12*y+m+1 by omega];omega)
  repeat' ((with_reducible refine way ?_ ?_)<;>(intro h;conv=>whnf))
  ·have hm12:m=11:=by omega
   subst hm12;rw [e1,yz (by omega) (by omega)];refine zg [0,5,6] ?_;have:=ih (y+1,0) ⟨by simp only;omega,by simp,by simp only [show 12*(y+1)+0=12*y+11+1 by omega];omega⟩ (by simp only;omega);simp only [show 12*(y+1)+0=12*y+11+1 by omega,show 2000+((y+1:Nat):Int)=2000+(y:Int)+1 by omega] at this;exact this
  ·rw [e1]
   refine zg [0,5,6] ?_;have:=ih (y,m+1) ⟨by simp only;omega,by simp only;omega,by simp only [show 12*y+(m+1)=12*y+m+1 by omega];omega⟩ (by simp only;omega);simp only [show 12*y+(m+1)=12*y+m+1 by omega,show ((m+1:Nat):Int)+1=(m:Int)+2 by omega] at this;exact this
 ·have:=zer (d:=d) (y:=y) (m:=m) (r:=d-zy (12*y+m)) hd (by omega) (by omega) (by omega) (by omega)
  rw [this] at hK;rw [yz (c:=d-zy (12*y+m)+1) (by omega) (by omega)];exact hK _
abbrev yfy (p:Int × Int × Int × Int × Int):SV:=.agg [sI p.1,sI p.2.1,sI p.2.2.1,sI p.2.2.2.1,sI p.2.2.2.2]
theorem zzl (d:Int):zw Tryz.prog G 43 [sI d] (yfy (yf d)):=by
 refine zc Tryz.func43 rfl (by rw [Tryz.ntmps43];simp) rfl rfl ?_;intro E hH hK;(refine zl ?_;conv=>whnf);refine ze rfl  (yfx G d) ?_;(refine zm ?_;conv=>whnf);refine ze rfl  (yfw G d) ?_;(refine zm ?_;conv=>whnf);exact hK _
def zbr (p:zag) (vs:List Int) (e:Ex):Int:=if e.op=2 then vs.getD e.n.toNat 0 else if e.op=4 then zjz p e.n else e.n
def yqr (nf:Nat) (e:Ex):Prop:=(e.op=2->0<=e.n/\e.n<nf)/\(e.op=4->0<=e.n/\e.n<=4)
def holdsE (p:zag) (vs:List Int):Ex->Bool
 | .mk op n u den ps ks=>
  if op=5 then match ks with|k::_=> !holdsE p vs k|[]=>false
  else if op=6 then match ks with|k::l::_=>holdsE p vs k&&holdsE p vs l|_=>false
  else if op=7 then match ks with|k::l::_=>holdsE p vs k||holdsE p vs l|_=>false
  else if op=1\/op=2 then !decide (zbr p vs (.mk op n u den ps ks)=0)
  else match ks with|k::l::_=>zrr op (zbr p vs k) (zbr p vs l)|_=>false
def readE (nf:Nat):Ex->Prop
 | .mk op n _ _ _ ks=>
  if op=5 then match ks with|[k]=>readE nf k|_=>False
  else if op=6\/op=7 then match ks with|[k,l]=>readE nf k/\readE nf l|_=>False
  else if op=1 then True
  else if op=2 then 0<=n/\n<nf
  else if op=8\/op=9\/op=10 then match ks with|[k,l]=>yqr nf k/\yqr nf l|_=>False
  else False
theorem zgv (e:Ex) (p:zag) (vs:List Int) (h:yqr vs.length e) (hz:vs.length<=1000000):zw Tryz.prog G 107 [e.sv,yfy p,.imm (zi vs)] (sI (zbr p vs e)):=by
 obtain ⟨op,n,u,den,ps,ks⟩:=e;obtain ⟨h2,h4⟩:=h;change op=2->0<=n/\n<vs.length at h2;change op=4->0<=n/\n<=4 at h4;have hvl:(vs.map fun n=>[dI n]).length=vs.length:=by simp
 rw [show zbr p vs (.mk op n u den ps ks)=if op=2 then vs.getD n.toNat 0 else if op=4 then zjz p n else n from rfl]
 by_cases e2:op=2
 ·subst e2
  have h2:=h2 rfl;obtain ⟨v,hv⟩:∃v,vs[n.toNat]?=some v:=⟨_,List.getElem?_eq_getElem (by omega)⟩;have hrow:(vs.map fun n=>[dI n])[n.toNat]?=some [dI v]:=by simp [hv]
  rw [if_pos rfl,List.getD_eq_getElem?_getD,hv];refine zc Tryz.func107 rfl (by rw [Tryz.ntmps107];simp) rfl rfl ?_;intro E hH hK;(refine zf ?_;conv=>whnf);refine zh (i:=n.toNat) rfl (by omega) hrow ?_;(refine za ?_;conv=>whnf);exact hK _
 ·rw [if_neg e2]
  by_cases e4:op=4
  ·subst e4
   have h4:=h4 rfl;rw [if_pos rfl];have hc:n=0\/n=1\/n=2\/n=3\/n=4:=by omega
   rcases hc with rfl|rfl|rfl|rfl|rfl
   all_goals refine zc Tryz.func107 rfl (by rw [Tryz.ntmps107];simp) rfl rfl ?_;intro E hH hK
   all_goals (refine zf ?_;conv=>whnf)
   all_goals exact hK _
  ·rw [if_neg e4]
   refine zc Tryz.func107 rfl (by rw [Tryz.ntmps107];simp) rfl rfl ?_;intro E hH hK;(refine zf ?_;conv=>whnf)
   repeat' ((with_reducible refine way ?_ ?_)<;>(intro h;conv=>whnf))
   all_goals try (exfalso;omega)
   exact hK _
theorem zfa (p:zag) (vs:List Int) (hz:vs.length<=1000000):∀(N:Nat) (e:Ex),SizeOf.sizeOf e<N->readE vs.length e->zw Tryz.prog G 76 [e.sv,yfy p,.imm (zi vs)] (sB (holdsE p vs e))
 |0,_,h,_=>by omega
 |N+1,.mk op n u den ps ks,hN,hr=>by
  simp only [Ex.mk.sizeOf_spec] at hN;unfold readE at hr;split at hr
  ·rename_i e
   subst e
   match ks,hr,hN with
   |[k],hr,hN=>
    simp only [List.cons.sizeOf_spec] at hN;have h1:=zfa p vs hz N k (by omega) hr;unfold holdsE;rw [if_pos rfl];simp only;generalize holdsE p vs k=b1 at h1;obtain ⟨kop,kn,ku,kden,kps,kks⟩:=k;refine zc Tryz.func76 rfl (by rw [Tryz.ntmps76];simp) rfl rfl ?_;intro E hH hK;(refine zf ?_;conv=>whnf);(refine zu 0 mixed rfl ?_;refine zb [777] (nx:=2) ?_;conv=>whnf);refine zt (i:=0) (row:=[dI kop,dI kn,dS ku,dI kden,.isl 3 (kps.map Piece.cells),.isl 6 (zd kks)]) rfl (show 2<=2 by decide) rfl rfl ?_;(refine zb [777] (nx:=2) ?_;conv=>whnf);refine yi rfl (show 2<=2 by decide) h1 ?_;(refine zb [777] (nx:=2) ?_;conv=>whnf);(refine zf ?_;conv=>whnf);exact hK _
  split at hr
  ·rename_i _ e
   match ks,hr,hN with
   |[k,l],hr,hN=>
    simp only [List.cons.sizeOf_spec] at hN;have h1:=zfa p vs hz N k (by omega) hr.1;have h2:=zfa p vs hz N l (by omega) hr.2;unfold holdsE;simp only;generalize holdsE p vs k=b1 at h1;generalize holdsE p vs l=b2 at h2;obtain ⟨kop,kn,ku,kden,kps,kks⟩:=k;obtain ⟨lop,ln,lu,lden,lps,lks⟩:=l;rcases e with rfl|rfl
    ·rw [if_neg (by decide),if_pos rfl]
     refine zc Tryz.func76 rfl (by rw [Tryz.ntmps76];simp) rfl rfl ?_;intro E hH hK;(refine zf ?_;conv=>whnf);(refine zu 0 mixed rfl ?_;refine zb [777] (nx:=2) ?_;conv=>whnf);refine zt (i:=0) (row:=[dI kop,dI kn,dS ku,dI kden,.isl 3 (kps.map Piece.cells),.isl 6 (zd kks)]) rfl (show 2<=2 by decide) rfl rfl ?_;(refine zb [777] (nx:=2) ?_;conv=>whnf);refine yi rfl (show 2<=2 by decide) h1 ?_;cases b1<;>((refine zb [777] (nx:=2) ?_;conv=>whnf))
     ·(refine zf ?_;conv=>whnf)
      exact hK _
     ·refine zt (i:=1) (row:=[dI lop,dI ln,dS lu,dI lden,.isl 3 (lps.map Piece.cells),.isl 6 (zd lks)]) rfl (show 2<=2 by decide) rfl rfl ?_
      (refine zb [777] (nx:=2) ?_;conv=>whnf);refine yi rfl (show 2<=2 by decide) h2 ?_;(refine zb [777] (nx:=2) ?_;conv=>whnf);(refine zf ?_;conv=>whnf);exact hK _
    ·rw [if_neg (by decide),if_neg (by decide),if_pos rfl]
     refine zc Tryz.func76 rfl (by rw [Tryz.ntmps76];simp) rfl rfl ?_;intro E hH hK;(refine zf ?_;conv=>whnf);(refine zu 0 mixed rfl ?_;refine zb [777] (nx:=2) ?_;conv=>whnf);refine zt (i:=0) (row:=[dI kop,dI kn,dS ku,dI kden,.isl 3 (kps.map Piece.cells),.isl 6 (zd kks)]) rfl (show 2<=2 by decide) rfl rfl ?_;(refine zb [777] (nx:=2) ?_;conv=>whnf);refine yi rfl (show 2<=2 by decide) h1 ?_;cases b1<;>((refine zb [777] (nx:=2) ?_;conv=>whnf))
     ·refine zt (i:=1) (row:=[dI lop,dI ln,dS lu,dI lden,.isl 3 (lps.map Piece.cells),.isl 6 (zd lks)]) rfl (show 2<=2 by decide) rfl rfl ?_
      (refine zb [777] (nx:=2) ?_;conv=>whnf);refine yi rfl (show 2<=2 by decide) h2 ?_;(refine zb [777] (nx:=2) ?_;conv=>whnf);(refine zf ?_;conv=>whnf);exact hK _
     ·(refine zf ?_;conv=>whnf)
      exact hK _
  split at hr
  ·rename_i _ _ e
   subst e;have hv:=zgv G (.mk 1 n u den ps ks) p vs ⟨fun h=>(by cases h),fun h=>(by cases h)⟩ hz;unfold holdsE;rw [if_neg (by decide),if_neg (by decide),if_neg (by decide),if_pos (by decide)];generalize zbr p vs (.mk 1 n u den ps ks)=v at hv;refine zc Tryz.func76 rfl (by rw [Tryz.ntmps76];simp) rfl rfl ?_;intro E hH hK;(refine zf ?_;conv=>whnf);refine ze rfl  hv ?_;(refine za ?_;conv=>whnf);exact hK _
  split at hr
  ·rename_i _ _ _ e
   subst e;have hv:=zgv G (.mk 2 n u den ps ks) p vs ⟨fun _=>hr,fun h=>(by cases h)⟩ hz;unfold holdsE;rw [if_neg (by decide),if_neg (by decide),if_neg (by decide),if_pos (by decide)];generalize zbr p vs (.mk 2 n u den ps ks)=v at hv;refine zc Tryz.func76 rfl (by rw [Tryz.ntmps76];simp) rfl rfl ?_;intro E hH hK;(refine zf ?_;conv=>whnf);refine ze rfl  hv ?_;(refine za ?_;conv=>whnf);exact hK _
  split at hr
  ·rename_i _ _ _ _ e
   match ks,hr with
   |[k,l],hr=>
    have h1:=zgv G k p vs hr.1 hz;have h2:=zgv G l p vs hr.2 hz;unfold holdsE;simp only;generalize zbr p vs k=b1 at h1;generalize zbr p vs l=b2 at h2;obtain ⟨kop,kn,ku,kden,kps,kks⟩:=k;obtain ⟨lop,ln,lu,lden,lps,lks⟩:=l;rcases e with rfl|rfl|rfl
    all_goals rw [if_neg (by decide),if_neg (by decide),if_neg (by decide),if_neg (by decide)]
    all_goals refine zc Tryz.func76 rfl (by rw [Tryz.ntmps76];simp) rfl rfl ?_;intro E hH hK
    all_goals (refine zf ?_;conv=>whnf)
    all_goals (refine zu 0 mixed rfl ?_;refine zb [777] (nx:=2) ?_;conv=>whnf)
    all_goals refine zt (i:=0) (row:=[dI kop,dI kn,dS ku,dI kden,.isl 3 (kps.map Piece.cells),.isl 6 (zd kks)]) rfl (show 2<=2 by decide) rfl rfl ?_
    all_goals ((refine zb [777] (nx:=2) ?_;conv=>whnf))
    all_goals refine yi rfl (show 2<=2 by decide) h1 ?_
    all_goals (refine zb [777] (nx:=2) ?_;conv=>whnf)
    all_goals (refine zf ?_;conv=>whnf)
    all_goals (refine zg [2,3,4,7] ?_)
    all_goals (refine zu 0 mixed rfl ?_;refine zb [777] (nx:=2) ?_;conv=>whnf)
    all_goals refine zt (i:=1) (row:=[dI lop,dI ln,dS lu,dI lden,.isl 3 (lps.map Piece.cells),.isl 6 (zd lks)]) rfl (show 2<=2 by decide) rfl rfl ?_
    all_goals ((refine zb [777] (nx:=2) ?_;conv=>whnf))
    all_goals refine yi rfl (show 2<=2 by decide) h2 ?_
    all_goals (refine zb [777] (nx:=2) ?_;conv=>whnf)
    all_goals (refine zf ?_;conv=>whnf)
    all_goals repeat' ((with_reducible refine way ?_ ?_)<;>(intro h;conv=>whnf))
    all_goals first|exact hK _|exact kB hK (by unfold zrr;simp;omega)
  ·exact hr.elim
theorem ycv (all:List Ex) (p:zag) (vs:List Int) (hz:vs.length<=1000000) (ha:all.length<=1000000) (hr:∀e∈all,readE vs.length e):
  zw Tryz.prog G 56 [.imm (ye all),yfy p,.imm (zi vs)] (sB (all.all (holdsE p vs))):=by
 have hal:(all.map Ex.cells).length=all.length:=by simp
 refine zc Tryz.func56 rfl (by rw [Tryz.ntmps56];simp) rfl rfl ?_;intro E hH hK;(refine zf ?_;conv=>whnf);refine zg [0,2,4,7] ?_;change SW E _ [(0,.imm (ye all)),(2,.imm (zi vs)),(4,.ptr 0 0),(7,sI 0)] [.cells [sI p.1,sI p.2.1,sI p.2.2.1,sI p.2.2.2.1,sI p.2.2.2.2]];refine zo all (fun i (_:Unit)=>[(0,.imm (ye all)),(2,.imm (zi vs)),(4,.ptr 0 0),(7,sI i)]) (fun _ _=>[.cells [sI p.1,sI p.2.1,sI p.2.2.1,sI p.2.2.2.1,sI p.2.2.2.2]])
  (fun done _ _=>done.all (holdsE p vs)=true) () rfl ?_ ?_
 ·rintro _ h1
  rw [h1] at hK;(refine zf ?_;conv=>whnf)
  repeat' ((with_reducible refine way ?_ ?_)<;>(intro h;conv=>whnf))
  all_goals try (exfalso;omega)
  exact hK _
 ·rintro done x rest _ hda hdl h1 ih
  have hw:=zk (n:=done.length) (by omega);have hx:=zfa G p vs hz _ x (Nat.lt_succ_self _) (hr x (by rw [hda];simp));have hsn:(done++[x]).all (holdsE p vs)=holdsE p vs x:=by rw [List.all_append,h1];simp
  have hno:holdsE p vs x=false->all.all (holdsE p vs)=false:=fun h=>by rw [hda,List.all_append,List.all_cons,h,Bool.false_and,Bool.and_false]
  have hrow:(all.map Ex.cells)[done.length]?=some x.cells:=by simp [hda]
  rw [hsn] at ih;generalize holdsE p vs x=b1 at hx ih hno;obtain ⟨kop,kn,ku,kden,kps,kks⟩:=x;(refine zf ?_;conv=>whnf)
  repeat' ((with_reducible refine way ?_ ?_)<;>(intro h;conv=>whnf))
  all_goals try (exfalso;omega)
  (refine zu 0 mixed rfl ?_;refine zb [777] (nx:=1) ?_;conv=>whnf);refine zt (i:=done.length) (row:=[dI kop,dI kn,dS ku,dI kden,.isl 3 (kps.map Piece.cells),.isl 6 (zd kks)]) rfl (show 1<=1 by decide) rfl hrow ?_;(refine zb [777] (nx:=1) ?_;conv=>whnf);refine yi rfl (show 1<=1 by decide) hx ?_;cases b1<;>((refine zb [777] (nx:=1) ?_;conv=>whnf))<;>((refine zf ?_;conv=>whnf))
  ·rw [hno rfl] at hK
   exact hK _
  ·rw [hw]
   exact zg [0,2,4,7] (ih () rfl)
def zoy (c:Codex) (f:Int):Bool:=match c.facts[f.toNat]? with|some d=>decide (d.unit=tT)|none=>false
def zhf (e:Ex):Bool:=decide (e.op=1)||decide (e.op=2)||(decide (e.op=4)&&(decide (1<=e.n)&&decide (e.n<=4)))
def zcj (op:Int):Bool:=decide (op=8)||decide (op=9)||decide (op=10)
def simpE (c:Codex):Ex->Bool
 | .mk op n u _ _ ks=>
  if op=1 then decide (u=tT)
  else if op=2 then zoy c n
  else if op=5 then match ks with|[k]=>simpE c k|_=>false
  else if op=6\/op=7 then match ks with|[k,l]=>simpE c k&&simpE c l|_=>false
  else match ks with|[k,l]=>zcj op&&zhf k&&zhf l&&(decide (k.op=1)||decide (l.op=1))|_=>false
def cP (c:Codex) (f x:Int) (a b:Ex):Prop:=a.op=2/\a.n=f/\b.op=1/\zoy c f=false/\(x=b.n\/x=b.n+1)
def cE (c : Codex) (f x : Int) : Ex -> Prop
  | .mk op n _ _ _ ks => (op = 2 /\ n = f /\ (x = 0 \/ (zoy c f = true /\ x = 1))) \/ (match ks with
    | [k] => cE c f x k
    | [k, l] => cE c f x k \/ cE c f x l \/ (zcj op = true /\ (cP c f x k l \/ cP c f x l k))
    | _ => False)
inductive Shape (c:Codex) (m:List (Int × Int)) (op n:Int) (u:ByteArray) (ks:List Ex):Prop
 |const:op=1->ks=[]->u=tT->Shape c m op n u ks
 |fact:op=2->ks=[]->0<=n/\n<c.facts.length->zoy c n=true->Shape c m op n u ks
 |neg (k:Ex):op=5->ks=[k]->zfj c m k->k.unit=tT->Shape c m op n u ks
 |conn (k l:Ex):op=6\/op=7->ks=[k,l]->zfj c m k->zfj c m l->k.unit=tT->l.unit=tT->Shape c m op n u ks
 |cmp (k l:Ex):op=8\/op=9\/op=10->ks=[k,l]->zfj c m k->zfj c m l->Shape c m op n u ks
 |other:op≠1->op≠2->op≠5->¬(op=6\/op=7)->¬(op=8\/op=9\/op=10)->Shape c m op n u ks
theorem ycw {c:Codex} {m:List (Int × Int)} {op n:Int} {u:ByteArray} {den:Int} {ps:List Piece} {ks:List Ex} (h:jn c m op n u den ps ks=true) (h2:op=2):zoy c n=decide (u=tT):=by
 have hl:=(zey h (by omega)).2;unfold zcn at hl;rw [if_neg (by omega),if_pos h2] at hl;simp only [Bool.and_eq_true,decide_eq_true_eq] at hl;have h3:=hl.2;unfold zeq at h3;unfold zoy;cases hg:c.facts[n.toNat]? with
 |none=>rw [hg] at h3;cases h3
 |some d=>
  rw [hg] at h3;have h3:=of_decide_eq_true h3;rw [h3]
theorem zww {c:Codex} {m:List (Int × Int)} {op n:Int} {u:ByteArray} {den:Int} {ps:List Piece} {ks:List Ex} (h:jn c m op n u den ps ks=true) (h2:op=1):0<=n/\n<=999999999999:=by
 have hl:=(zey h (by omega)).2;unfold zcn at hl;rw [if_pos h2] at hl;simp only [Bool.and_eq_true,decide_eq_true_eq] at hl;exact hl.1
theorem zfk {c:Codex} {m:List (Int × Int)} {op n:Int} {u:ByteArray} {den:Int} {ps:List Piece} {ks:List Ex} (h:zfj c m (.mk op n u den ps ks)) (hu:u=tT):Shape c m op n u ks:=by
 unfold zfj at h;obtain ⟨hn,hk⟩:=h
 by_cases h1:op=1
 ·exact .const h1 (zey hn (by omega)).1 hu
 by_cases h2:op=2
 ·exact .fact h2 (zey hn (by omega)).1 (zez hn h2) (by rw [ycw hn h2];simpa using hu)
 by_cases h5:op=5
 ·obtain ⟨k,rfl⟩:=zzk hn h5
  obtain ⟨_,f,l,hf,hl,g⟩:=zzj hn (by omega);simp only [List.head?_cons,Option.some.injEq] at hf;subst hf;unfold zbu at g;rw [if_pos h5] at g;simp only [Bool.and_eq_true,decide_eq_true_eq] at g;exact .neg k h5 rfl (qv hk k (by simp)) g.2
 by_cases h6:op=6\/op=7
 ·obtain ⟨k,l,rfl⟩:=zlm hn (by omega)
  obtain ⟨_,f,l',hf,hl,g⟩:=zzj hn (by omega);simp only [List.head?_cons,Option.some.injEq] at hf;subst hf;unfold zbu at g;rw [if_neg h5,if_pos h6] at g;simp only [Bool.and_eq_true,decide_eq_true_eq] at g;have hs:=g.1.2;unfold zdl at hs;simp only [List.all_cons,List.all_nil,Bool.and_eq_true,decide_eq_true_eq] at hs;exact .conn k l h6 rfl (qv hk k (by simp)) (qv hk l (by simp)) g.2 (by rw [hs.2.1,g.2])
 by_cases h8:op=8\/op=9\/op=10
 ·obtain ⟨k,l,rfl⟩:=zlm hn (by omega)
  exact .cmp k l h8 rfl (qv hk k (by simp)) (qv hk l (by simp))
 exact .other h1 h2 h5 h6 h8
structure LeafE (c:Codex) (k:Ex):Prop where
 no:k.kids=[]
 k1:k.op=1->0<=k.n/\k.n<=999999999999
 k2:k.op=2->0<=k.n/\k.n<c.facts.length/\zoy c k.n=decide (k.unit=tT)
 k4:k.op=4->1<=k.n/\k.n<=4
theorem zck {c:Codex} {m:List (Int × Int)} {k:Ex} (h:zfj c m k) (hp:k.op=1\/k.op=2\/k.op=4):LeafE c k:=by
 obtain ⟨op,n,u,den,ps,ks⟩:=k;unfold zfj at h;change op=1\/op=2\/op=4 at hp;exact ⟨(zey h.1 (by omega)).1,fun e=>zww h.1 e,fun e=>⟨(zez h.1 e).1,(zez h.1 e).2,ycw h.1 e⟩,fun e=>zua h.1 e⟩
theorem zba {e:Ex} (h:zhf e=true):e.op=1\/e.op=2\/e.op=4:=by
 unfold zhf at h;simp only [Bool.or_eq_true,Bool.and_eq_true,decide_eq_true_eq] at h;omega
theorem part_of {c:Codex} {m:List (Int × Int)} {e:Ex} (ha:zfj c m e):zhf e=(decide (e.op=1)||decide (e.op=2)||decide (e.op=4)):=by
 unfold zhf
 by_cases h4:e.op=4
 ·have:=(zck ha (.inr (.inr h4))).k4 h4
  simp [h4,this]
 ·simp [h4]
theorem zuf {c:Codex} {f x:Int} {k:Ex} (h:LeafE c k):cE c f x k ↔ (k.op=2/\k.n=f/\(x=0\/(zoy c f=true/\x=1))):=by
 obtain ⟨op,n,u,den,ps,ks⟩:=k;have hk:ks=[]:=h.no;subst hk;unfold cE;simp [Ex.op,Ex.n]
def zct (q:Sr) (f:Int):List Int:=(zx f q.cands).getD []
def zug (q:Sr):Prop:=∀e∈q.cands,(0:Int)∈e.2
theorem znf {x:Int}:∀(vs l:List Int),x∈vs.foldl qx l ↔ x∈l\/(x∈vs/\x<=1000000000000)
 |[],l=>by simp
 |v::vs,l=>by
  rw [List.foldl_cons,znf vs];unfold qx
  by_cases h:v<=1000000000000
  ·rw [if_pos h]
   by_cases hm:v∈l
   ·rw [if_pos hm]
    constructor
    ·rintro (h1|⟨h1,h2⟩)
     ·exact .inl h1
     ·exact .inr ⟨by simp [h1],h2⟩
    ·rintro (h1|⟨h1,h2⟩)
     ·exact .inl h1
     ·rcases List.mem_cons.1 h1 with rfl|h1
      ·exact .inl hm
      ·exact .inr ⟨h1,h2⟩
   ·rw [if_neg hm]
    constructor
    ·rintro (h1|⟨h1,h2⟩)
     ·rcases List.mem_append.1 h1 with h1|h1
      ·exact .inl h1
      ·simp at h1;subst h1;exact .inr ⟨by simp,h⟩
     ·exact .inr ⟨by simp [h1],h2⟩
    ·rintro (h1|⟨h1,h2⟩)
     ·exact .inl (by simp [h1])
     ·rcases List.mem_cons.1 h1 with rfl|h1
      ·exact .inl (by simp)
      ·exact .inr ⟨h1,h2⟩
  ·rw [if_neg h]
   constructor
   ·rintro (h1|⟨h1,h2⟩)
    ·exact .inl h1
    ·exact .inr ⟨by simp [h1],h2⟩
   ·rintro (h1|⟨h1,h2⟩)
    ·exact .inl h1
    ·rcases List.mem_cons.1 h1 with rfl|h1
     ·exact absurd h2 h
     ·exact .inr ⟨h1,h2⟩
theorem zzm {q:Sr} {f g x:Int} {vs:List Int}:x∈zct (q.cand f vs) g ↔ x∈zct q g\/(g=f/\x∈vs/\x<=1000000000000):=by
 have hlk:zx g (q.cand f vs).cands=if g==f then some (vs.foldl qx ((zx f q.cands).getD [])) else zx g q.cands:=zau g f _ _
 unfold zct;rw [hlk]
 by_cases h:g=f
 ·subst h
  simp only [beq_self_eq_true,if_true,Option.getD_some];rw [znf];simp
 ·rw [if_neg (by simpa using h)]
  simp [h]
theorem zuh {q:Sr} (h:zug q) (f:Int) {vs:List Int} (hv:(0:Int)∈vs):zug (q.cand f vs):=fun e he=>by
 rcases zlf he with rfl|he
 ·show (0:Int)∈vs.foldl qx _
  rw [znf];exact .inr ⟨hv,by omega⟩
 ·exact h e he
theorem zoj (s:Sr) (a b:Ex):(cmpCand s a b).dates=s.dates:=by
 unfold cmpCand;split
 ·rfl
 ·split<;>rfl
theorem zrb {s:Sr} (h:zug s) (a b:Ex):zug (cmpCand s a b):=by
 unfold cmpCand;split
 ·exact h
 ·split
  ·exact zuh h _ (by simp)
  ·exact zuh h _ (by simp)
theorem zui {c:Codex} {s:Sr} {a b:Ex} {f x:Int} (ha:LeafE c a) (hb:LeafE c b) (h1:a.op=1\/b.op=1):x∈zct (cmpCand s a b) f ↔ x∈zct s f\/(cE c f x a\/cP c f x a b):=by
 rw [zuf ha];unfold cmpCand cP
 by_cases h2:a.op=2
 ·rw [if_neg (by simp [h2])]
  have hb1:b.op=1:=by omega
  have hbn:=hb.k1 hb1;have hu:=(ha.k2 h2).2.2;split
  ·rename_i e
   rw [e] at hu;simp only [decide_true] at hu;rw [zzm];constructor
   ·rintro (h|⟨h3,h4,h5⟩)
    ·exact .inl h
    ·subst h3
     simp at h4;exact .inr (.inl ⟨h2,rfl,h4.imp id fun h=>⟨hu,h⟩⟩)
   ·rintro (h|⟨_,h3,h4⟩|⟨_,h3,_,h4,h5⟩)
    ·exact .inl h
    ·refine .inr ⟨h3.symm,?_,?_⟩
     ·rcases h4 with h4|h4<;>simp [h4]
     ·omega
    ·subst h3;rw [hu] at h4;cases h4
  ·rename_i e
   have hu:zoy c a.n=false:=by rw [hu];simpa using e
   rw [zzm];constructor
   ·rintro (h|⟨h3,h4,h5⟩)
    ·exact .inl h
    ·subst h3
     simp at h4;rcases h4 with h4|h4
     ·exact .inr (.inl ⟨h2,rfl,.inl h4⟩)
     ·exact .inr (.inr ⟨h2,rfl,hb1,hu,h4⟩)
   ·rintro (h|⟨_,h3,h4⟩|⟨_,h3,_,h4,h5⟩)
    ·exact .inl h
    ·subst h3
     rcases h4 with h4|h4
     ·exact .inr ⟨rfl,by simp [h4],by omega⟩
     ·rw [hu] at h4;cases h4.1
    ·exact .inr ⟨h3.symm,by rcases h5 with h5|h5<;>simp [h5],by omega⟩
 ·rw [if_pos h2]
  constructor
  ·exact .inl
  ·rintro (h|⟨h,_⟩|⟨h,_⟩)
   ·exact h
   ·exact absurd h h2
   ·exact absurd h h2
theorem zlp:∀(ks:List Ex) (q:Sr) (n:Int) (s1:Sr) (k:Int),wo ks q n=(true,s1,k)->q.dates.length=5->(∀e∈ks,e.op=4->1<=e.n/\e.n<=4)->
  s1.dates.length=5/\(∀j,q.dates.getD j false=true->s1.dates.getD j false=true)/\(∀e∈ks,e.op=4->s1.dates.getD e.n.toNat false=true)/\s1.cands=q.cands
 |[],q,n,s1,k,h,h5,_=>by
  simp only [wo,Prod.mk.injEq] at h;obtain ⟨_,rfl,_⟩:=h;exact ⟨h5,fun _ h=>h,fun _ h=>(by cases h),rfl⟩
 |e::r,q,n,s1,k,h,h5,hd=>by
  simp only [wo] at h;split at h
  ·rename_i h1
   obtain ⟨a1,a2,a3,a4⟩:=zlp r q _ s1 k h h5 fun x hx=>hd x (by simp [hx])
   refine ⟨a1,a2,fun x hx h4=>?_,a4⟩;rcases List.mem_cons.1 hx with rfl|hx
   ·omega
   ·exact a3 x hx h4
  ·split at h
   ·rename_i h4
    have hr:=hd e (by simp) h4;obtain ⟨a1,a2,a3,a4⟩:=zlp r (q.date e.n) _ s1 k h (by simp [Sr.date,h5]) fun x hx=>hd x (by simp [hx])
    have hset:∀j,(q.date e.n).dates.getD j false=if e.n.toNat=j/\j<q.dates.length then true else q.dates.getD j false:=fun j=>zgs _ _ _ _ _
    refine ⟨a1,fun j hj=>a2 j (by rw [hset];split;rfl;exact hj),fun x hx h4=>?_,a4⟩;rcases List.mem_cons.1 hx with rfl|hx
    ·exact a2 _ (by rw [hset,if_pos ⟨rfl,by omega⟩])
    ·exact a3 x hx h4
   ·split at h
    ·rename_i h2
     obtain ⟨a1,a2,a3,a4⟩:=zlp r q _ s1 k h h5 fun x hx=>hd x (by simp [hx])
     refine ⟨a1,a2,fun x hx h4=>?_,a4⟩;rcases List.mem_cons.1 hx with rfl|hx
     ·omega
     ·exact a3 x hx h4
    ·cases h
theorem ywf (l r:Ex) (q:Sr):((wo [l,r] q 0).1&& !decide ((wo [l,r] q 0).2.2=0))=((decide (l.op=1)||decide (l.op=2)||decide (l.op=4))&&(decide (r.op=1)||decide (r.op=2)||decide (r.op=4))&&(decide (l.op=1)||decide (r.op=1))):=by
 simp only [wo]
 by_cases l1:l.op=1
 ·by_cases r1:r.op=1
  ·simp [l1,r1]
  ·by_cases r4:r.op=4
   ·simp [l1,r4]
   ·by_cases r2:r.op=2
    ·simp [l1,r2]
    ·simp [l1,r1,r2,r4]
 ·by_cases l4:l.op=4
  ·by_cases r1:r.op=1
   ·simp [l4,r1]
   ·by_cases r4:r.op=4
    ·simp [l4,r4]
    ·by_cases r2:r.op=2
     ·simp [l4,r2]
     ·simp [l4,r1,r2,r4]
  ·by_cases l2:l.op=2
   ·by_cases r1:r.op=1
    ·simp [l2,r1]
    ·by_cases r4:r.op=4
     ·simp [l2,r4]
     ·by_cases r2:r.op=2
      ·simp [l2,r2]
      ·simp [l2,r1,r2,r4]
   ·simp [l1,l2,l4]
structure SimpR (c:Codex) (q:Sr) (e:Ex) (x:Cond) (q':Sr):Prop where
 tru:∀p vs,x.tru p vs=holdsE p vs e
 mem:∀f x,x∈zct q' f ↔ x∈zct q f\/cE c f x e
 zero:zug q->zug q'
 len:q'.dates.length=5
 dates:x.dateIn q'.dates
 dgrow:∀j,q.dates.getD j false=true->q'.dates.getD j false=true
theorem Cond.dateIn_mono {d d':List Bool} (h:∀j,d.getD j false=true->d'.getD j false=true):∀c:Cond,c.dateIn d->c.dateIn d'
 | .none,_=>trivial
 | .plain _,hc=>fun e=>⟨(hc e).1,(hc e).2.1,h _ (hc e).2.2⟩
 | .cmp _ _ _,hc=>⟨fun e=>⟨(hc.1 e).1,(hc.1 e).2.1,h _ (hc.1 e).2.2⟩,fun e=>⟨(hc.2 e).1,(hc.2 e).2.1,h _ (hc.2 e).2.2⟩⟩
 | .neg c,hc=>Cond.dateIn_mono h c hc
 | .conn _ l r,hc=>⟨Cond.dateIn_mono h l hc.1,Cond.dateIn_mono h r hc.2⟩
theorem zeb {op:Int} (h:op=8\/op=9\/op=10) (n:Int) (u:ByteArray) (den:Int) (ps:List Piece) (k l:Ex) (p:zag) (vs:List Int):
  holdsE p vs (.mk op n u den ps [k,l])=zrr op (zbr p vs k) (zbr p vs l):=by
 unfold holdsE;rw [if_neg (by omega),if_neg (by omega),if_neg (by omega),if_neg (by omega)]
theorem zdh {op:Int} (h:op=8\/op=9\/op=10) (c:Codex) (n:Int) (u:ByteArray) (den:Int) (ps:List Piece) (k l:Ex):
  simpE c (.mk op n u den ps [k,l])=(zhf k&&zhf l&&(decide (k.op=1)||decide (l.op=1))):=by
 have hc:zcj op=true:=by unfold zcj;rcases h with rfl|rfl|rfl<;>rfl
 unfold simpE;rw [if_neg (by omega),if_neg (by omega),if_neg (by omega),if_neg (by omega)];simp only [hc,Bool.true_and]
theorem ywg {c:Codex} {m:List (Int × Int)} {op:Int} (hop:op=8\/op=9\/op=10) (n:Int) (u:ByteArray) (den:Int) (ps:List Piece) {l r:Ex} (hl:zfj c m l) (hr:zfj c m r) (q:Sr) (h5:q.dates.length=5):
  (cmpOf q op [l,r]).2.1=simpE c (.mk op n u den ps [l,r])/\((cmpOf q op [l,r]).2.1=true->SimpR c q (.mk op n u den ps [l,r]) (cmpOf q op [l,r]).1 (cmpOf q op [l,r]).2.2):=by
 have hok:=ywf l r q;rw [zdh hop,part_of hl,part_of hr, <-hok];have hc:zcj op=true:=by unfold zcj;rcases hop with rfl|rfl|rfl<;>rfl
 unfold cmpOf;cases hz:wo [l,r] q 0 with
 |mk b z=>
  obtain ⟨s1,k⟩:=z;cases b with
  |false=>exact ⟨rfl,fun h=>by cases h⟩
  |true=>
   simp only
   by_cases hn:k=0
   ·rw [if_pos hn];exact ⟨by simp [hn],fun h=>by cases h⟩
   ·rw [if_neg hn]
    obtain ⟨t1,t2,t3⟩:=yjb hz hn;have hll:=zck hl (by omega);have hlr:=zck hr (by omega)
    obtain ⟨d1,d2,d3,d4⟩:=zlp _ _ _ _ _ hz h5 (fun e he h4=>by
     rcases List.mem_cons.1 he with rfl|he
     ·exact hll.k4 h4
     ·simp at he;subst he;exact hlr.k4 h4)
    have hcd:(cmpCand (cmpCand s1 l r) r l).dates=s1.dates:=by rw [zoj,zoj]
    have hcl:∀f,zct s1 f=zct q f:=fun f=>by unfold zct;rw [d4]
    have hmem:∀f x,x∈zct (cmpCand (cmpCand s1 l r) r l) f ↔ x∈zct q f\/cE c f x (.mk op n u den ps [l,r]):=fun f x=>by
     rw [zui hlr hll (by omega),zui hll hlr (by omega),hcl];rw [cE.eq_def c f x (.mk op n u den ps [l,r])];simp only [hc,true_and];constructor
     ·rintro ((h|h|h)|h|h)
      ·exact .inl h
      ·exact .inr (.inr (.inl h))
      ·exact .inr (.inr (.inr (.inr (.inl h))))
      ·exact .inr (.inr (.inr (.inl h)))
      ·exact .inr (.inr (.inr (.inr (.inr h))))
     ·rintro (h|h|h|h|h|h)
      ·exact .inl (.inl h)
      ·omega
      ·exact .inl (.inr (.inl h))
      ·exact .inr (.inl h)
      ·exact .inl (.inr (.inr h))
      ·exact .inr (.inr h)
    have hz1:zug q->zug (cmpCand (cmpCand s1 l r) r l):=fun h=>zrb (zrb (by unfold zug;rw [d4];exact h) _ _) _ _
    have hdi:Cond.dateIn s1.dates (.cmp op ⟨l.op,l.n⟩ ⟨r.op,r.n⟩):=⟨fun e=>⟨(hll.k4 e).1,(hll.k4 e).2,d3 l (by simp) e⟩,fun e=>⟨(hlr.k4 e).1,(hlr.k4 e).2,d3 r (by simp) e⟩⟩;refine ⟨by simp [hn],fun _=>?_⟩;have htru:∀p vs,Cond.tru p vs (.cmp op ⟨l.op,l.n⟩ ⟨r.op,r.n⟩)=holdsE p vs (.mk op n u den ps [l,r]):=fun p vs=>by rw [zeb hop];rfl
    split
    ·exact ⟨htru,hmem,hz1,by show (cmpCand (cmpCand s1 l r) r l).dates.length=5;rw [hcd];exact d1,by show Cond.dateIn (cmpCand (cmpCand s1 l r) r l).dates _;rw [hcd];exact hdi,fun j hj=>by show (cmpCand (cmpCand s1 l r) r l).dates.getD j false=true;rw [hcd];exact d2 j hj⟩
    ·exact ⟨htru,hmem,hz1,by rw [hcd];exact d1,by rw [hcd];exact hdi,fun j hj=>by rw [hcd];exact d2 j hj⟩
theorem zlq {c:Codex} {m:List (Int × Int)}:∀(N:Nat) (e:Ex) (q:Sr),SizeOf.sizeOf e<N->zfj c m e->e.unit=tT->q.dates.length=5->
  (simpleOf e q).2.1=simpE c e/\((simpleOf e q).2.1=true->SimpR c q e (simpleOf e q).1 (simpleOf e q).2.2)
 |0,_,_,h,_,_,_=>by omega
 |N+1,.mk op n u den ps ks,q,hN,h,hu,h5=>by
  simp only [Ex.mk.sizeOf_spec] at hN;have hu:u=tT:=hu;rw [zke];cases zfk h hu with
  |const h1 hk hu'=>
   subst h1 hk;rw [if_pos rfl];refine ⟨by unfold simpE;rw [if_pos rfl];exact (decide_eq_true hu').symm,fun _=>⟨fun p vs=>?_,fun f x=>?_,fun h=>h,h5,fun e=>?_,fun _ h=>h⟩⟩
   ·unfold holdsE;rfl
   ·unfold cE;simp
   ·exact absurd e (show ¬(1:Int)=4 by decide)
  |fact h1 hk hr ht=>
   subst h1 hk;rw [if_neg (by decide),if_pos rfl];refine ⟨by unfold simpE;rw [if_neg (by decide),if_pos rfl];exact ht.symm,fun _=>⟨fun p vs=>?_,fun f x=>?_,fun h=>zuh h _ (by simp),h5,fun e=>?_,fun _ h=>h⟩⟩
   ·unfold holdsE;rfl
   ·rw [zzm]
    unfold cE;simp only [true_and,or_false];constructor
    ·rintro (h|⟨h1,h2,h3⟩)
     ·exact .inl h
     ·subst h1
      simp at h2;exact .inr ⟨rfl,h2.imp id fun h=>⟨ht,h⟩⟩
    ·rintro (h|⟨h1,h2⟩)
     ·exact .inl h
     ·exact .inr ⟨h1.symm,by rcases h2 with h2|h2<;>simp [h2],by omega⟩
   ·exact absurd e (show ¬(2:Int)=4 by decide)
  |neg k h1 hk hka hku=>
   subst h1 hk;rw [if_neg (by decide),if_neg (by decide),if_neg (by decide),if_pos rfl];simp only [List.cons.sizeOf_spec] at hN;obtain ⟨a,b⟩:=zlq N k q (by omega) hka hku h5;refine ⟨by rw [simpE.eq_def];simp only [show ¬(5:Int)=1 by decide,show ¬(5:Int)=2 by decide,if_false,if_true];exact a,fun hs=>?_⟩;have b:=b hs;refine ⟨fun p vs=>?_,fun f x=>?_,b.zero,b.len,b.dates,b.dgrow⟩
   ·rw [holdsE.eq_def]
    simp only [if_true,Cond.tru];rw [b.tru]
   ·rw [cE.eq_def]
    simp only [show ¬(5:Int)=2 by decide,false_and,false_or];exact b.mem f x
  |conn k l h1 hk hka hla hku hlu=>
   subst hk;rw [if_neg (by omega),if_neg (by omega),if_neg (by omega),if_neg (by omega),if_pos h1];simp only [List.cons.sizeOf_spec] at hN;obtain ⟨a,b⟩:=zlq N k q (by omega) hka hku h5;have hsE:simpE c (.mk op n u den ps [k,l])=(simpE c k&&simpE c l):=by
    rw [simpE.eq_def];simp only;rw [if_neg (by omega),if_neg (by omega),if_neg (by omega),if_pos h1]
   simp only;rw [hsE]
   by_cases hk:(simpleOf k q).2.1=true
   ·have b:=b hk
    obtain ⟨a',b'⟩:=zlq N l (simpleOf k q).2.2 (by omega) hla hlu b.len;refine ⟨by rw [<-a,hk,a'];try rfl,fun hs=>?_⟩;rw [hk,Bool.true_and] at hs;have b':=b' hs;refine ⟨fun p vs=>?_,fun f x=>?_,fun h=>b'.zero (b.zero h),b'.len,⟨Cond.dateIn_mono b'.dgrow _ b.dates,b'.dates⟩,fun j hj=>b'.dgrow j (b.dgrow j hj)⟩
    ·rw [holdsE.eq_def]
     simp only [Cond.tru];rw [b.tru,b'.tru];rcases h1 with rfl|rfl
     ·rfl
     ·rfl
    ·have hc:zcj op=false:=by unfold zcj;rcases h1 with rfl|rfl<;>rfl
     rw [b'.mem,b.mem,cE.eq_def c f x (.mk op n u den ps [k,l])];simp only [hc];constructor
     ·rintro ((h|h)|h)
      ·exact .inl h
      ·exact .inr (.inr (.inl h))
      ·exact .inr (.inr (.inr (.inl h)))
     ·rintro (h|h|h|h|h)
      ·exact .inl (.inl h)
      ·omega
      ·exact .inl (.inr h)
      ·exact .inr h
      ·cases h.1
   ·have hk:(simpleOf k q).2.1=false:=by simpa using hk
    rw [<-a,hk];exact ⟨by simp,fun h=>by simp at h⟩
  |cmp k l h1 hk hka hla=>
   subst hk;rw [if_neg (by omega),if_neg (by omega),if_pos h1];exact ywg h1 n u den ps hka hla q h5
  |other h1 h2 h3 h4 h5'=>
   rw [if_neg h1,if_neg h2,if_neg h5',if_neg h3,if_neg h4];refine ⟨?_,fun h=>by cases h⟩;unfold simpE;rw [if_neg h1,if_neg h2,if_neg h3,if_neg h4];have hc:zcj op=false:=by unfold zcj;simp;omega
   split
   ·simp [hc]
   ·rfl
structure RefOK (c:Codex) (q:Sr) (es:List Ex):Prop where
 len:q.dates.length=5
 zero:zug q
 mem:∀f x,x∈zct q f ↔ ∃e∈es,cE c f x e
 sat:∀p vs,yta q.conds p vs ↔ ∀e∈es,holdsE p vs e=true
 dates:∀x∈q.conds,x.dateIn q.dates
def ycx (c:Codex) (m:List (Int × Int)) (e:Ex):Prop:=zfj c m e/\e.unit=tT
theorem yjc {c:Codex} {m:List (Int × Int)} (hm:zqz m) (hF:c.facts.length<=12):∀(es done:List Ex) (q:Sr),(∀e∈es,ycx c m e)->RefOK c q done->
  (zfd es q).isSome=es.all (simpE c)/\∀q',zfd es q=some q'->RefOK c q' (done++es)
 |[],done,q,_,hq=>⟨rfl,fun q' h=>by simp only [zfd,Option.some.injEq] at h;subst h;simpa using hq⟩
 |e::r,done,q,he,hq=>by
  obtain ⟨hea,heu⟩:=he e (by simp);have h1:=zlq _ e q (Nat.lt_succ_self _) hea heu hq.len;have h4:=zcq _ e q (Nat.lt_succ_self _) (zpv hm (by omega) _ e (Nat.lt_succ_self _) hea);rw [zfd,List.all_cons];generalize simpleOf e q=z at h1 h4;obtain ⟨cd,b,q1⟩:=z;simp only at h1 h4 ⊢;cases b with
  |false=>rw [<-h1.1];exact ⟨rfl,fun _ h=>by cases h⟩
  |true=>
   obtain ⟨h1,h2⟩:=h1;have h2:=h2 rfl;have hn:RefOK c {q1 with conds:=q1.conds++[cd]} (done++[e]):=by
    refine ⟨h2.len,h2.zero hq.zero,fun f x=>?_,fun p vs=>?_,fun x hx=>?_⟩
    ·show x∈zct q1 f ↔ _
     rw [h2.mem,hq.mem];simp [or_and_right,exists_or]
    ·have:=hq.sat p vs
     unfold yta at this ⊢;simp only [h4,List.mem_append,List.mem_singleton,or_imp,forall_and,forall_eq];rw [this,h2.tru]
    ·show x.dateIn q1.dates
     simp only [h4,List.mem_append,List.mem_singleton] at hx;rcases hx with hx|rfl
     ·exact Cond.dateIn_mono h2.dgrow _ (hq.dates x hx)
     ·exact h2.dates
   obtain ⟨g1,g2⟩:=yjc hm hF r (done++[e]) _ (fun x hx=>he x (by simp [hx])) hn;rw [<-h1,Bool.true_and];exact ⟨g1,fun q' h=>by have:=g2 q' h;simpa using this⟩
theorem yjd {c:Codex} {m:List (Int × Int)} (hm:zqz m) (hF:c.facts.length<=12) (ha:∀a∈c.arts,∀e∈a.when_,ycx c m e):∀(vs:List Int) (done:List Ex) (q:Sr),(∀v∈vs,0<=v/\v<c.arts.length)->RefOK c q done->
  (zbv c vs q).isSome=(ya c vs).all (simpE c)/\∀q',zbv c vs q=some q'->RefOK c q' (done++ya c vs)
 |[],done,q,_,hq=>⟨rfl,fun q' h=>by simp only [zbv,Option.some.injEq] at h;subst h;simpa [ya] using hq⟩
 |v::r,done,q,hv,hq=>by
  have hc:ya c (v::r)=zmh c v++ya c r:=rfl;rw [zbv,hc,List.all_append];have hvr:=hv v (by simp);cases hav:qj c v with
  |none=>
   exfalso
   unfold qj at hav;simp at hav;omega
  |some a=>
   have hw:zmh c v=a.when_:=by unfold zmh;rw [hav]
   obtain ⟨g1,g2⟩:=yjc hm hF a.when_ done q (ha a (zhq hav)) hq;rw [hw];simp only;cases hwn:zfd a.when_ q with
   |none=>
    rw [hwn] at g1;simp only;rw [<-g1];exact ⟨rfl,fun _ h=>by cases h⟩
   |some q1=>
    rw [hwn] at g1;simp only;rw [<-g1];obtain ⟨f1,f2⟩:=yjd hm hF ha r (done++a.when_) q1 (fun x hx=>hv x (by simp [hx])) (g2 q1 hwn);exact ⟨by simpa using f1,fun q' h=>by have:=f2 q' h;simpa using this⟩
theorem xam (c:Codex):RefOK c sr0 []:=⟨rfl,fun e he=>by simp [sr0] at he,fun f x=>by simp [zct,sr0,zx],fun p vs=>by simp [yta,sr0],fun x hx=>by simp [sr0] at hx⟩
def zok (v:Int) (l:List Int) (r:Int):Int:=l.foldl (fun r x=>if x<=v/\r<x then x else r) r
theorem zge (v:Int):∀(l:List Int) (r:Int),r<=v->r<=zok v l r/\zok v l r<=v/\(zok v l r=r\/zok v l r∈l)/\∀x∈l,x<=v->x<=zok v l r
 |[],r,h=>⟨Int.le_refl _,h,.inl rfl,fun x hx=>by cases hx⟩
 |y::l,r,h=>by
  have e:zok v (y::l) r=zok v l (if y<=v/\r<y then y else r):=rfl;rw [e]
  by_cases hy:y<=v/\r<y
  ·rw [if_pos hy]
   obtain ⟨a,b,d,g⟩:=zge v l y hy.1;refine ⟨by omega,b,.inr ?_,fun x hx hv=>?_⟩
   ·rcases d with d|d
    ·rw [d];simp
    ·simp [d]
   ·rcases List.mem_cons.1 hx with rfl|hx
    ·exact a
    ·exact g x hx hv
  ·rw [if_neg hy]
   obtain ⟨a,b,d,g⟩:=zge v l r h;refine ⟨a,b,d.imp id fun d=>by simp [d],fun x hx hv=>?_⟩;rcases List.mem_cons.1 hx with rfl|hx
   ·omega
   ·exact g x hx hv
def yrt (nf:Nat) (q:Sr) (v:List Int):List Int:=(List.range nf).map fun (i:Nat)=>zok (v.getD i 0) (zct q i) 0
theorem zrz (nf:Nat) (q:Sr) (v:List Int) (i:Nat):(yrt nf q v).getD i 0=if i<nf then zok (v.getD i 0) (zct q i) 0 else 0:=by
 unfold yrt;rw [List.getD_eq_getElem?_getD,List.getElem?_map]
 by_cases h:i<nf
 ·rw [if_pos h,List.getElem?_range h];rfl
 ·rw [if_neg h,List.getElem?_eq_none (by simp;omega)];rfl
theorem ywh {op v v' n:Int} (h:v'<=v) (h1:n<=v->n<=v') (h2:n+1<=v->n+1<=v'):zrr op v' n=zrr op v n/\zrr op n v'=zrr op n v:=by
 unfold zrr;constructor
 ·split
  ·rw [decide_eq_decide];omega
  ·split
   ·rw [decide_eq_decide];omega
   ·rw [decide_eq_decide];omega
 ·split
  ·rw [decide_eq_decide];omega
  ·split
   ·rw [decide_eq_decide];omega
   ·rw [decide_eq_decide];omega
theorem zwx {p:zag} {vs:List Int} {e:Ex} (h:e.op=2):zbr p vs e=vs.getD e.n.toNat 0:=by unfold zbr;rw [if_pos h]
theorem zuj {p:zag} {vs:List Int} {e:Ex} (h:e.op=1):zbr p vs e=e.n:=by unfold zbr;rw [if_neg (by omega),if_neg (by omega)]
theorem zfq {p:zag} {vs vs':List Int} {e:Ex} (h:e.op≠2):zbr p vs e=zbr p vs' e:=by unfold zbr;rw [if_neg h,if_neg h]
theorem zir {c:Codex} {m:List (Int × Int)} {p:zag} {vs vs':List Int} (h0:∀i:Nat,0<=vs'.getD i 0/\vs'.getD i 0<=vs.getD i 0) (hT:∀i:Nat,zoy c i=true->vs.getD i 0<=1):
  ∀(N:Nat) (e:Ex),SizeOf.sizeOf e<N->zfj c m e->e.unit=tT->simpE c e=true->(∀(f:Nat) x,cE c f x e->x<=vs.getD f 0->x<=vs'.getD f 0)->holdsE p vs' e=holdsE p vs e
 |0,_,h,_,_,_,_=>by omega
 |N+1,.mk op n u den ps ks,hN,h,hu,hs,hc=>by
  simp only [Ex.mk.sizeOf_spec] at hN;have hu:u=tT:=hu;cases zfk h hu with
  |const h1 hk hu=>
   subst h1 hk;unfold holdsE;rfl
  |fact h1 hk hr ht=>
   subst h1 hk;obtain ⟨i,rfl⟩:∃i:Nat,n=i:=⟨n.toNat,by omega⟩;have h3:=hc i 1 (by unfold cE;exact .inl ⟨rfl,rfl,.inr ⟨ht,rfl⟩⟩);have h4:=h0 i;have e1:∀w:List Int,holdsE p w (.mk 2 (i:Int) u den ps [])= !decide (w.getD i 0=0):=fun w=>by unfold holdsE;rfl
   rw [e1,e1]
   congr 1
   rw [decide_eq_decide];omega
  |neg k h1 hk hka hku=>
   subst h1 hk;simp only [List.cons.sizeOf_spec] at hN;have hsk:simpE c k=true:=by
    rw [simpE.eq_def] at hs;simpa only [show ¬(5:Int)=1 by decide,show ¬(5:Int)=2 by decide,if_false,if_true] using hs
   have:=zir (p:=p) h0 hT N k (by omega) hka hku hsk (fun f x hx=>hc f x (by rw [cE.eq_def];exact .inr hx));rw [holdsE.eq_def,holdsE.eq_def p vs];simp only [if_true];rw [this]
  |conn k l h1 hk hka hla hku hlu=>
   subst hk;simp only [List.cons.sizeOf_spec] at hN;have hsE:simpE c (.mk op n u den ps [k,l])=(simpE c k&&simpE c l):=by
    rw [simpE.eq_def];simp only;rw [if_neg (by omega),if_neg (by omega),if_neg (by omega),if_pos h1]
   rw [hsE,Bool.and_eq_true] at hs;have g1:=zir (p:=p) h0 hT N k (by omega) hka hku hs.1 (fun f x hx=>hc f x (by rw [cE.eq_def];exact .inr (.inl hx)));have g2:=zir (p:=p) h0 hT N l (by omega) hla hlu hs.2 (fun f x hx=>hc f x (by rw [cE.eq_def];exact .inr (.inr (.inl hx))));rw [holdsE.eq_def,holdsE.eq_def p vs];simp only;rw [g1,g2];rcases h1 with rfl|rfl<;>rfl
  |cmp k l h1 hk hka hla=>
   subst hk;rw [zdh h1] at hs;simp only [Bool.and_eq_true,Bool.or_eq_true,decide_eq_true_eq] at hs;have hlk:=zck hka (zba hs.1.1);have hll:=zck hla (zba hs.1.2);have hce:zcj op=true:=by unfold zcj;rcases h1 with rfl|rfl|rfl<;>rfl
   rw [zeb h1,zeb h1];have key:∀a b:Ex,LeafE c a->a.op=2->b.op=1->(∀(f:Nat) x,cE c f x a->x<=vs.getD f 0->x<=vs'.getD f 0)->(∀(f:Nat) x,cP c f x a b->x<=vs.getD f 0->x<=vs'.getD f 0)->
     zrr op (zbr p vs' a) (zbr p vs' b)=zrr op (zbr p vs a) (zbr p vs b)/\zrr op (zbr p vs' b) (zbr p vs' a)=zrr op (zbr p vs b) (zbr p vs a):=by
    intro a b ha ha2 hb1 hx hy;rw [zwx ha2,zwx ha2,zuj hb1,zuj hb1];obtain ⟨i,hi⟩:∃i:Nat,a.n=i:=⟨a.n.toNat,by have:=ha.k2 ha2;omega⟩;rw [show a.n.toNat=i by omega];have h3:=h0 i;cases ht:zoy c i with
    |true=>
     have h4:=hT i ht;have h5:=hx i 1 ((zuf ha).2 ⟨ha2,hi,.inr ⟨ht,rfl⟩⟩);rw [show vs'.getD i 0=vs.getD i 0 by omega];exact ⟨rfl,rfl⟩
    |false=>
     exact ywh h3.2 (hy i _ ⟨ha2,hi,hb1,ht,.inl rfl⟩) (hy i _ ⟨ha2,hi,hb1,ht,.inr rfl⟩)
   by_cases hk2:k.op=2
   ·exact (key k l hlk hk2 (by omega) (fun f x hx=>hc f x (by rw [cE.eq_def];exact .inr (.inl hx))) (fun f x hx=>hc f x (by rw [cE.eq_def];exact .inr (.inr (.inr ⟨hce,.inl hx⟩))))).1
   ·by_cases hl2:l.op=2
    ·exact (key l k hll hl2 (by omega) (fun f x hx=>hc f x (by rw [cE.eq_def];exact .inr (.inr (.inl hx)))) (fun f x hx=>hc f x (by rw [cE.eq_def];exact .inr (.inr (.inr ⟨hce,.inr hx⟩))))).2
    ·rw [zfq (vs':=vs) hk2,zfq (vs':=vs) hl2]
  |other h1 h2 h3 h4 h5=>
   exfalso
   unfold simpE at hs;rw [if_neg h1,if_neg h2,if_neg h3,if_neg h4] at hs;have hce:zcj op=false:=by unfold zcj;simp;omega
   split at hs
   ·simp [hce] at hs
   ·cases hs
theorem ycy {v v' w:List Int} (h:∀i:Nat,v'.getD i 0<=v.getD i 0):∀fs:List Int,zpp fs v w=true->zpp fs v' w=true
 |[],hl=>by cases hl
 |f::r,hl=>by
  simp only [zpp] at hl ⊢;have:=h f.toNat
  by_cases e:v.getD f.toNat 0=w.getD f.toNat 0
  ·rw [if_neg (by omega)] at hl
   by_cases e':v'.getD f.toNat 0=w.getD f.toNat 0
   ·rw [if_neg (by omega)];exact ycy h r hl
   ·rw [if_pos e'];exact decide_eq_true (by omega)
  ·rw [if_pos e] at hl
   have:=of_decide_eq_true hl;rw [if_pos (by omega)];exact decide_eq_true (by omega)
theorem zbo {c:Codex} (h:zv c=true):∃m,zqz m/\∀a∈c.arts,∀e∈a.when_,ycx c m e:=by
 unfold zv at h;simp only [Bool.and_eq_true,decide_eq_true_eq] at h;obtain ⟨_,h6⟩:=h;cases hl:qi c.lines.length c.arts [] with
 |none=>rw [hl] at h6;cases h6
 |some m=>
  rw [hl] at h6;simp only [List.all_eq_true] at h6;refine ⟨m,zkg _ _ _ _ hl (fun k v h=>by cases h),fun a ha e he=>?_⟩;have:=h6 a ha;unfold zmt at this;simp only [Bool.and_eq_true,List.all_eq_true] at this;have hw:=this.1.2 e he;refine ⟨(ztw hw).1,?_⟩;unfold jg at hw;split at hw
  ·assumption
  ·cases hw
theorem zwy {vs:List Int} {v:Int} (h:v∈zr vs):v∈vs:=(List.mergeSort_perm vs fun x y=>decide (x<=y)).mem_iff.1 (zik h)
theorem zpz (c:Codex):∀(vs:List Int) (r:Int × Int),r.1<=(vs.foldl (zgt c) r).1/\(vs.foldl (zgt c) r).2<=r.2
 |[],r=>⟨Int.le_refl _,Int.le_refl _⟩
 |v::vs,r=>by
  rw [List.foldl_cons];have:=zpz c vs (zgt c r v);have h2:r.1<=(zgt c r v).1/\(zgt c r v).2<=r.2:=by
   unfold zgt;split
   ·constructor<;>simp only<;>omega
   ·exact ⟨Int.le_refl _,Int.le_refl _⟩
  omega
theorem zqa {c:Codex} (h:zv c=true) (hF:c.facts.length<=12) {vs:List Int} (hv:∀v∈vs,0<=v/\v<c.arts.length):
  (zbv c (zr vs) sr0).isSome=(ya c (zr vs)).all (simpE c)/\∀q,zbv c (zr vs) sr0=some q->RefOK c q (ya c (zr vs)):=by
 obtain ⟨m,hm,hc⟩:=zbo h;have:=yjd hm hF hc (zr vs) [] sr0 (fun v hvv=>hv v (zwy hvv)) (xam c);simpa using this
def ymb (c:Codex) (v:List Int):Prop:=∀i:Nat,0<=v.getD i 0/\(zoy c i=true->v.getD i 0<=1)
theorem yqs {nf:Nat} {q:Sr} {k:Nat} (hq:CFull nf q k) (hz:zug q) {v:List Int} (h0:∀i:Nat,0<=v.getD i 0):zhp q nf (yrt nf q v):=by
 refine ⟨by simp [yrt,st0],fun e he=>?_,fun i hi=>?_⟩
 ·obtain ⟨f,hf,rfl⟩:=List.mem_map.1 he
  obtain ⟨e,hee,rfl⟩:=List.mem_map.1 (zca.1 hf);have hr:=hq.inv.rng e hee;have hl:=zby hq.inv.nd hee;show (yrt nf q v).getD e.1.toNat 0∈zcs ((zx e.1 q.cands).getD []);rw [zca,hl,zrz,if_pos (by omega)];have hc:zct q (e.1.toNat:Int)=e.2:=by unfold zct;rw [Int.toNat_of_nonneg hr.1,hl];rfl
  rw [hc];obtain ⟨_,_,d,_⟩:=zge (v.getD e.1.toNat 0) e.2 0 (h0 _);rcases d with d|d
  ·rw [d];exact hz e hee
  ·exact d
 ·have hz':(st0 nf 0).vs.getD i 0=0:=by
   simp only [st0,List.getD_eq_getElem?_getD,List.getElem?_replicate];split<;>rfl
  rw [hz',zrz];split
  ·have hn:zx (i:Int) q.cands=none:=by
    cases hl:zx (i:Int) q.cands with
    |none=>rfl
    |some w=>
     exfalso
     have hm:=zbn hl;refine hi (_,_) (List.mem_map.2 ⟨(i:Int),zca.2 (List.mem_map.2 ⟨_,hm,rfl⟩),rfl⟩) ?_;simp
   unfold zct;rw [hn];rfl
  ·rfl
theorem yqt {c:Codex} (h:zv c=true) (hF:c.facts.length<=12) (hw:∀a∈c.arts,a.when_.length<=41) {vs:List Int} (hv:∀v∈vs,0<=v/\v<c.arts.length) {q:Sr} (hq:ws c vs=some q):
  (∀w,jb c (zr vs) q=some w->(ym c (zr vs)).1<=w.day/\w.day<(ym c (zr vs)).2/\w.value.length=c.facts.length/\w.has=((List.range c.facts.length).map fun (i:Nat)=>(zx (i:Int) q.cands).isSome)/\w.arts=zr vs/\
   (∀e∈ya c (zr vs),holdsE (yf w.day) w.value e=true)/\zhp q c.facts.length w.value/\
   ∀d v,(ym c (zr vs)).1<=d->d<(ym c (zr vs)).2->ymb c v->(∀e∈ya c (zr vs),holdsE (yf d) v e=true)->w.day<=d/\(w.day=d->zpp (zhe q) v w.value=false))/\
  (jb c (zr vs) q=none->∀d v,(ym c (zr vs)).1<=d->d<(ym c (zr vs)).2->ymb c v->¬∀e∈ya c (zr vs),holdsE (yf d) v e=true):=by
 obtain ⟨hfull,hgo⟩:=zne h hF hw hv hq;obtain ⟨hs1,hs2⟩:=zqa h hF hv;have hR:=hs2 q hgo;rw [hgo] at hs1;have hsimp:∀e∈ya c (zr vs),simpE c e=true:=List.all_eq_true.1 hs1.symm;obtain ⟨m,hm,hc⟩:=zbo h;have hN:∀e∈ya c (zr vs),ycx c m e:=fun e he=>by
  unfold ya at he;obtain ⟨v,hvv,he⟩:=List.mem_flatMap.1 he;unfold zmh at he;cases ha:qj c v with
  |none=>rw [ha] at he;cases he
  |some a=>rw [ha] at he;exact hc a (zhq ha) e he
 have hfw:=zpz c (zr vs) (0,36525);have hfr:(zr vs).foldl (zgt c) (0,36525)=ym c (zr vs):=rfl;rw [hfr] at hfw;simp only at hfw;obtain ⟨w1,w2⟩:=ypm (yqq hfull) hR.dates hfw.1 hfw.2;have low:∀d v,ymb c v->(∀e∈ya c (zr vs),holdsE (yf d) v e=true)->zhp q c.facts.length (yrt c.facts.length q v)/\yaa q d (yrt c.facts.length q v)/\∀i:Nat,(yrt c.facts.length q v).getD i 0<=v.getD i 0:=by
  intro d v hg hh;have hb:∀i:Nat,0<=(yrt c.facts.length q v).getD i 0/\(yrt c.facts.length q v).getD i 0<=v.getD i 0:=fun i=>by
   rw [zrz];have h0:=(hg i).1;split
   ·obtain ⟨a,b,_,_⟩:=zge (v.getD i 0) (zct q i) 0 h0
    exact ⟨a,b⟩
   ·exact ⟨Int.le_refl _,h0⟩
  refine ⟨yqs hfull hR.zero fun i=>(hg i).1,(hR.sat _ _).2 fun e he=>?_,fun i=>(hb i).2⟩
  have:=zir (p:=yf d) (m:=m) hb (fun i=>(hg i).2) _ e (Nat.lt_succ_self _) (hN e he).1 (hN e he).2 (hsimp e he) (fun f x hx hxv=>by
   rw [zrz]
   by_cases hf:f<c.facts.length
   ·rw [if_pos hf]
    obtain ⟨_,_,_,g⟩:=zge (v.getD f 0) (zct q f) 0 (hg f).1;exact g x ((hR.mem _ _).2 ⟨e,he,hx⟩) hxv
   ·exfalso
    have hm:=(hR.mem f x).2 ⟨e,he,hx⟩;unfold zct at hm;cases hl:zx (f:Int) q.cands with
    |none=>rw [hl] at hm;cases hm
    |some l=>have:=hfull.inv.rng _ (zbn hl);simp only at this;omega)
  rw [this];exact hh e he
 unfold jb;simp only;constructor
 ·intro w hw
  cases hg:zdy q c.facts.length (min (ym c (zr vs)).2 ((ym c (zr vs)).1+xl q.dates)-(ym c (zr vs)).1).toNat (ym c (zr vs)).1 [] with
  |none=>rw [hg] at hw;cases hw
  |some z=>
   obtain ⟨d,vals⟩:=z;rw [hg] at hw;simp only [Option.some.injEq] at hw;subst hw;obtain ⟨a1,a2,a3,a4,a5⟩:=w1 d vals hg;refine ⟨a1,a2,by have:=a3.len;simpa [st0] using this,rfl,rfl,(hR.sat _ _).1 a4,a3,fun d' v' b1 b2 b3 b4=>?_⟩;obtain ⟨l1,l2,l3⟩:=low d' v' b3 b4;obtain ⟨g1,g2⟩:=a5 d' _ b1 b2 l1 l2;refine ⟨g1,fun e=>?_⟩;have:=g2 e;cases hless:zpp (zhe q) v' vals with
   |false=>rfl
   |true=>rw [ycy l3 _ hless] at this;cases this
 ·intro hw
  cases hg:zdy q c.facts.length (min (ym c (zr vs)).2 ((ym c (zr vs)).1+xl q.dates)-(ym c (zr vs)).1).toNat (ym c (zr vs)).1 [] with
  |some z=>obtain ⟨d,vals⟩:=z;rw [hg] at hw;cases hw
  |none=>
   intro d v b1 b2 b3 b4;obtain ⟨l1,l2,_⟩:=low d v b3 b4;exact w2 hg d _ b1 b2 l1 l2
def zwz (n:Int):List Int->List Int
 |[]=>[n]
 |x::r=>if n<x then n::x::r else x::zwz n r
def zol (l:List Int) (n:Int):List Int:=if n<0\/1000000000000<n\/n∈l then l else zwz n l
theorem zzn {x n:Int}:∀l:List Int,x∈zwz n l ↔ x=n\/x∈l
 |[]=>by simp [zwz]
 |y::r=>by
  unfold zwz;split
  ·simp
  ·simp only [List.mem_cons,zzn r]
   constructor
   ·rintro (h|h|h)
    ·exact .inr (.inl h)
    ·exact .inl h
    ·exact .inr (.inr h)
   ·rintro (h|h|h)
    ·exact .inr (.inl h)
    ·exact .inl h
    ·exact .inr (.inr h)
theorem yje {n:Int}:∀l:List Int,l.Pairwise (· < ·)->n ∉ l->(zwz n l).Pairwise (· < ·)
 |[],_,_=>by simp [zwz]
 |y::r,h,hn=>by
  simp only [List.pairwise_cons] at h;simp only [List.mem_cons,not_or] at hn;unfold zwz;split
  ·rename_i hlt
   simp only [List.pairwise_cons,List.mem_cons];refine ⟨fun a ha=>?_,h.1,h.2⟩;rcases ha with rfl|ha
   ·exact hlt
   ·have:=h.1 a ha;omega
  ·simp only [List.pairwise_cons]
   refine ⟨fun a ha=>?_,yje r h.2 hn.2⟩;rcases (zzn r).1 ha with rfl|ha
   ·omega
   ·exact h.1 a ha
theorem yjf (n:Int):∀l:List Int,(zwz n l).length=l.length+1
 |[]=>rfl
 |x::r=>by
  unfold zwz;split
  ·rfl
  ·simp [yjf n r]
theorem zom {x n:Int} {l:List Int} (h0:0<=n) (h1:n<=1000000000000):x∈zol l n ↔ x∈l\/x=n:=by
 unfold zol;split
 ·rename_i h
  have h:n∈l:=by
   rcases h with h|h|h
   ·omega
   ·omega
   ·exact h
  constructor
  ·exact .inl
  ·rintro (h2|rfl)
   ·exact h2
   ·exact h
 ·rw [zzn];exact Or.comm
theorem zon {n:Int} {l:List Int} (h:l.Pairwise (· < ·)):(zol l n).Pairwise (· < ·):=by
 unfold zol;split
 ·exact h
 ·rename_i h1
  exact yje l h fun h2=>h1 (.inr (.inr h2))
theorem zlr (l:List Int) (n:Int):(zol l n).length<=l.length+1:=by
 unfold zol;split
 ·omega
 ·rw [yjf];omega
theorem zuk:∀l l':List Int,l.Pairwise (· < ·)->l'.Pairwise (· < ·)->(∀x,x∈l ↔ x∈l')->l=l'
 |[],[],_,_,_=>rfl
 |[],b::r',_,_,h=>by have:=(h b).2 (by simp);cases this
 |a::r,[],_,_,h=>by have:=(h a).1 (by simp);cases this
 |a::r,b::r',h1,h2,h=>by
  simp only [List.pairwise_cons] at h1 h2;have e:a=b:=by
   rcases List.mem_cons.1 ((h a).1 (by simp)) with e|ha
   ·exact e
   ·rcases List.mem_cons.1 ((h b).2 (by simp)) with e|hb
    ·exact e.symm
    ·have:=h1.1 b hb;have:=h2.1 a ha;omega
  subst e;refine congrArg _ (zuk r r' h1.2 h2.2 fun x=>?_);constructor
  ·intro hx
   rcases List.mem_cons.1 ((h x).1 (by simp [hx])) with rfl|hx'
   ·have:=h1.1 x hx;omega
   ·exact hx'
  ·intro hx
   rcases List.mem_cons.1 ((h x).2 (by simp [hx])) with rfl|hx'
   ·have:=h2.1 x hx;omega
   ·exact hx'
def zgl (c:Codex) (f op:Int) (k o:Ex) (l:List Int):List Int:=if zcj op=true/\k.op=2/\k.n=f/\o.op=1/\zoy c f=false then zol (zol l o.n) (o.n+1) else l
def zdm (c:Codex) (f op n:Int) (l:List Int):List Int:=if op=2/\n=f then (if zoy c f=true then zol (zol l 0) 1 else zol l 0) else l
def candE (c:Codex) (f:Int):Ex->List Int->List Int
 | .mk op n _ _ _ ks,l=>match ks with
  |[k]=>candE c f k (zdm c f op n l)
  |[k,r]=>zgl c f op r k (candE c f r (zgl c f op k r (candE c f k (zdm c f op n l))))
  |_=>zdm c f op n l
def yab (c:Codex) (f:Int) (es:List Ex):List Int:=es.foldl (fun l e=>candE c f e l) []
theorem zgf {c:Codex} {f op n x:Int} {l:List Int}:x∈zdm c f op n l ↔ x∈l\/(op=2/\n=f/\(x=0\/(zoy c f=true/\x=1))):=by
 unfold zdm
 by_cases h:op=2/\n=f
 ·rw [if_pos h]
  cases ht:zoy c f with
  |true=>
   rw [if_pos rfl,zom (by omega) (by omega),zom (by omega) (by omega)];constructor
   ·rintro ((h1|h1)|h1)
    ·exact .inl h1
    ·exact .inr ⟨h.1,h.2,.inl h1⟩
    ·exact .inr ⟨h.1,h.2,.inr ⟨rfl,h1⟩⟩
   ·rintro (h1|⟨_,_,h1|⟨_,h1⟩⟩)
    ·exact .inl (.inl h1)
    ·exact .inl (.inr h1)
    ·exact .inr h1
  |false=>
   rw [if_neg (by simp),zom (by omega) (by omega)];constructor
   ·rintro (h1|h1)
    ·exact .inl h1
    ·exact .inr ⟨h.1,h.2,.inl h1⟩
   ·rintro (h1|⟨_,_,h1|⟨h1,_⟩⟩)
    ·exact .inl h1
    ·exact .inr h1
    ·cases h1
 ·rw [if_neg h]
  constructor
  ·exact .inl
  ·rintro (h1|⟨h1,h2,_⟩)
   ·exact h1
   ·exact absurd ⟨h1,h2⟩ h
theorem zgg {c:Codex} {f op n:Int} {l:List Int} (h:l.Pairwise (· < ·)):(zdm c f op n l).Pairwise (· < ·):=by
 unfold zdm;split
 ·split
  ·exact zon (zon h)
  ·exact zon h
 ·exact h
theorem ycz {c:Codex} {f op x:Int} {k o:Ex} {l:List Int} (ho:LeafE c o):x∈zgl c f op k o l ↔ x∈l\/(zcj op=true/\cP c f x k o):=by
 unfold zgl cP
 by_cases h:zcj op=true/\k.op=2/\k.n=f/\o.op=1/\zoy c f=false
 ·rw [if_pos h]
  obtain ⟨h1,h2,h3,h4,h5⟩:=h;have:=ho.k1 h4;rw [zom (by omega) (by omega),zom (by omega) (by omega)];constructor
  ·rintro ((h|h)|h)
   ·exact .inl h
   ·exact .inr ⟨h1,h2,h3,h4,h5,.inl h⟩
   ·exact .inr ⟨h1,h2,h3,h4,h5,.inr h⟩
  ·rintro (h|⟨_,_,_,_,_,h|h⟩)
   ·exact .inl (.inl h)
   ·exact .inl (.inr h)
   ·exact .inr h
 ·rw [if_neg h]
  constructor
  ·exact .inl
  ·rintro (h1|⟨h1,h2,h3,h4,h5,_⟩)
   ·exact h1
   ·exact absurd ⟨h1,h2,h3,h4,h5⟩ h
theorem yda {c:Codex} {f op:Int} {k o:Ex} {l:List Int} (h:l.Pairwise (· < ·)):(zgl c f op k o l).Pairwise (· < ·):=by
 unfold zgl;split
 ·exact zon (zon h)
 ·exact h
theorem zzo {c:Codex} {f op:Int} (h:zcj op=false) (k o:Ex) (l:List Int):zgl c f op k o l=l:=by
 unfold zgl;rw [if_neg (fun h2=>by rw [h] at h2;cases h2.1)]
theorem zxa {c:Codex} {f:Int} {k:Ex} (h:LeafE c k) (l:List Int):candE c f k l=zdm c f k.op k.n l:=by
 obtain ⟨op,n,u,den,ps,ks⟩:=k;have hk:ks=[]:=h.no;subst hk;unfold candE;rfl
theorem zls {c:Codex} {m:List (Int × Int)} {f:Int}:∀(N:Nat) (e:Ex),SizeOf.sizeOf e<N->zfj c m e->e.unit=tT->simpE c e=true->∀l:List Int,l.Pairwise (· < ·)->(candE c f e l).Pairwise (· < ·)/\∀x,x∈candE c f e l ↔ x∈l\/cE c f x e
 |0,_,h,_,_,_,_,_=>by omega
 |N+1,.mk op n u den ps ks,hN,h,hu,hs,l,hl=>by
  simp only [Ex.mk.sizeOf_spec] at hN;have hu:u=tT:=hu;cases zfk h hu with
  |const h1 hk hu=>
   subst hk;refine ⟨by unfold candE;exact zgg hl,fun x=>?_⟩;unfold candE;rw [cE.eq_def];simp only [zgf,or_false]
  |fact h1 hk hr ht=>
   subst hk;refine ⟨by unfold candE;exact zgg hl,fun x=>?_⟩;unfold candE;rw [cE.eq_def];simp only [zgf,or_false]
  |neg k h1 hk hka hku=>
   subst h1 hk;simp only [List.cons.sizeOf_spec] at hN;have hsk:simpE c k=true:=by
    rw [simpE.eq_def] at hs;simpa only [show ¬(5:Int)=1 by decide,show ¬(5:Int)=2 by decide,if_false,if_true] using hs
   have:=zls (f:=f) N k (by omega) hka hku hsk (zdm c f 5 n l) (zgg hl);refine ⟨by rw [candE.eq_def];exact this.1,fun x=>?_⟩;rw [candE.eq_def,cE.eq_def];simp only;rw [this.2,zgf,or_assoc]
  |conn k r h1 hk hka hra hku hru=>
   subst hk;simp only [List.cons.sizeOf_spec] at hN;have hsE:simpE c (.mk op n u den ps [k,r])=(simpE c k&&simpE c r):=by
    rw [simpE.eq_def];simp only;rw [if_neg (by omega),if_neg (by omega),if_neg (by omega),if_pos h1]
   rw [hsE,Bool.and_eq_true] at hs;have hc:zcj op=false:=by unfold zcj;rcases h1 with rfl|rfl<;>rfl
   have g1:=zls (f:=f) N k (by omega) hka hku hs.1 (zdm c f op n l) (zgg hl);have g2:=zls (f:=f) N r (by omega) hra hru hs.2 _ g1.1;have e:candE c f (.mk op n u den ps [k,r]) l=candE c f r (candE c f k (zdm c f op n l)):=by
    rw [candE.eq_def];simp only;rw [zzo hc,zzo hc]
   rw [e];refine ⟨g2.1,fun x=>?_⟩;rw [g2.2,g1.2,zgf,cE.eq_def c f x (.mk op n u den ps [k,r])];simp only [hc];constructor
   ·rintro (((h|h)|h)|h)
    ·exact .inl h
    ·exact .inr (.inl h)
    ·exact .inr (.inr (.inl h))
    ·exact .inr (.inr (.inr (.inl h)))
   ·rintro (h|h|h|h|h)
    ·exact .inl (.inl (.inl h))
    ·exact .inl (.inl (.inr h))
    ·exact .inl (.inr h)
    ·exact .inr h
    ·cases h.1
  |cmp k r h1 hk hka hra=>
   subst hk;rw [zdh h1] at hs;simp only [Bool.and_eq_true,Bool.or_eq_true,decide_eq_true_eq] at hs;have hlk:=zck hka (zba hs.1.1);have hlr:=zck hra (zba hs.1.2);have e:candE c f (.mk op n u den ps [k,r]) l=zgl c f op r k (zdm c f r.op r.n (zgl c f op k r (zdm c f k.op k.n (zdm c f op n l)))):=by
    rw [candE.eq_def];simp only;rw [zxa hlk,zxa hlr]
   rw [e];refine ⟨yda (zgg (yda (zgg (zgg hl)))),fun x=>?_⟩;rw [ycz hlk,zgf,ycz hlr,zgf,zgf,cE.eq_def, <-zuf hlk, <-zuf hlr];simp only;constructor
   ·rintro (((((h|h)|h)|h)|h)|h)
    ·exact .inl h
    ·exact .inr (.inl h)
    ·exact .inr (.inr (.inl h))
    ·exact .inr (.inr (.inr (.inr ⟨h.1,.inl h.2⟩)))
    ·exact .inr (.inr (.inr (.inl h)))
    ·exact .inr (.inr (.inr (.inr ⟨h.1,.inr h.2⟩)))
   ·rintro (h|h|h|h|⟨h,h'|h'⟩)
    ·exact .inl (.inl (.inl (.inl (.inl h))))
    ·exact .inl (.inl (.inl (.inl (.inr h))))
    ·exact .inl (.inl (.inl (.inr h)))
    ·exact .inl (.inr h)
    ·exact .inl (.inl (.inr ⟨h,h'⟩))
    ·exact .inr ⟨h,h'⟩
  |other h1 h2 h3 h4 h5=>
   exfalso
   unfold simpE at hs;rw [if_neg h1,if_neg h2,if_neg h3,if_neg h4] at hs;have hce:zcj op=false:=by unfold zcj;simp;omega
   split at hs
   ·simp [hce] at hs
   ·cases hs
theorem zqb {c:Codex} {m:List (Int × Int)} {f:Int}:∀(es:List Ex),(∀e∈es,ycx c m e/\simpE c e=true)->∀l:List Int,l.Pairwise (· < ·)->(es.foldl (fun l e=>candE c f e l) l).Pairwise (· < ·)/\∀x,x∈es.foldl (fun l e=>candE c f e l) l ↔ x∈l\/∃e∈es,cE c f x e
 |[],_,l,hl=>⟨hl,fun x=>by simp⟩
 |e::r,h,l,hl=>by
  obtain ⟨⟨h1,h2⟩,h3⟩:=h e (by simp);have g:=zls (f:=f) _ e (Nat.lt_succ_self _) h1 h2 h3 l hl;have g2:=zqb (f:=f) r (fun x hx=>h x (by simp [hx])) _ g.1;rw [List.foldl_cons];refine ⟨g2.1,fun x=>?_⟩;rw [g2.2,g.2,or_assoc];simp
theorem ywi {c:Codex} {m:List (Int × Int)} {q:Sr} {nf k:Nat} {es:List Ex} (hf:CFull nf q k) (hR:RefOK c q es) (he:∀e∈es,ycx c m e/\simpE c e=true) (f:Int):yab c f es=zcs (zct q f):=by
 obtain ⟨g1,g2⟩:=zqb (f:=f) es he [] .nil;refine zuk _ _ g1 (zud ?_) fun x=>?_
 ·unfold zct
  cases hl:zx f q.cands with
  |none=>simp
  |some w=>exact hf.inv.ndv _ (zbn hl)
 ·rw [zca,hR.mem]
  have:=g2 x;simpa [yab] using this
def zgh (ns:List Int):Int:=ns.foldr (· * ·) 1
def yqu (B:Int) (ns:List Int) (p:Int):Int:=ns.foldl (fun p n=>min (p*n) B) p
theorem zqc {B:Int} (hB:1<=B):∀(ns:List Int) (p:Int),1<=p->(∀n∈ns,1<=n)->yqu B ns (min p B)=min (p*zgh ns) B
 |[],p,_,_=>by simp [yqu,zgh]
 |n::r,p,hp,h=>by
  have h1:=h n (by simp);have hpn:p<=p*n:=by
   have:=Int.mul_le_mul_of_nonneg_left h1 (show 0<=p by omega);omega
  have hBn:B<=B*n:=by
   have:=Int.mul_le_mul_of_nonneg_left h1 (show 0<=B by omega);omega
  have e:min (min p B*n) B=min (p*n) B:=by
   by_cases hb:p<=B
   ·rw [Int.min_eq_left hb]
   ·rw [Int.min_eq_right (by omega:B<=p),Int.min_eq_right hBn,Int.min_eq_right (by omega:B<=p*n)]
  show yqu B r (min (min p B*n) B)=_;rw [e,zqc hB r (p*n) (by omega) fun x hx=>h x (by simp [hx])];show min (p*n*zgh r) B=min (p*(n*zgh r)) B;rw [Int.mul_assoc]
theorem zgw:∀a b:List Int,zgh (a++b)=zgh a*zgh b
 |[],b=>by simp [zgh]
 |n::a,b=>by
  show n*zgh (a++b)=n*zgh a*zgh b;rw [zgw a b,Int.mul_assoc]
theorem yjg (g g':Nat->Int) (k:Nat) (h1:g' k=1) (h:∀i,i≠k->g i=g' i):∀n,zgh ((List.range n).map g)=(if k<n then g k else 1)*zgh ((List.range n).map g')
 |0=>by simp [zgh]
 |n+1=>by
  rw [List.range_succ,List.map_append,List.map_append,zgw,zgw,yjg g g' k h1 h n];show _*zgh [g n]=_*(_*zgh [g' n]);have e1:∀y:Int,zgh [y]=y:=fun y=>by simp [zgh]
  rw [e1,e1]
  by_cases hk:k=n
  ·subst hk
   rw [if_neg (by omega),if_pos (by omega),h1,Int.one_mul,Int.mul_one,Int.mul_comm]
  ·rw [h n (by omega)]
   by_cases hn:k<n
   ·rw [if_pos hn,if_pos (by omega),Int.mul_assoc]
   ·rw [if_neg hn,if_neg (by omega),Int.one_mul,Int.one_mul]
theorem zxb (nf:Nat):∀m:List (Int × List Int),(m.map (·.1)).Nodup->(∀e∈m,0<=e.1/\e.1<nf)->(∀e∈m,1<=e.2.length)->
  zgh (m.map fun e=>(e.2.length:Int))=zgh ((List.range nf).map fun (i:Nat)=>max 1 ((((zx (i:Int) m).getD []).length:Nat):Int))
 |[],_,_,_=>by
  have:∀n,zgh ((List.range n).map fun (i:Nat)=>max 1 ((((zx (i:Int) ([]:List (Int × List Int))).getD []).length:Nat):Int))=1:=by
   intro n
   induction n with
   |zero=>rfl
   |succ n ih=>rw [List.range_succ,List.map_append,zgw,ih];rfl
  rw [this];rfl
 |(k,l)::r,hn,hr,hl=>by
  simp only [List.map_cons,List.nodup_cons] at hn;obtain ⟨j,hj⟩:∃j:Nat,k=j:=⟨k.toNat,by have:=hr (k,l) (by simp);simp only at this;omega⟩;have hkr:=hr (k,l) (by simp);simp only at hkr;have hnone:zx k r=none:=by
   have:=zev (k:=k) (l:=r);rw [decide_eq_false hn.1] at this;simpa using this
  rw [yjg _ (fun (i:Nat)=>max 1 ((((zx (i:Int) r).getD []).length:Nat):Int)) j]
  ·rw [if_pos (by omega), <-zxb nf r hn.2 (fun e he=>hr e (by simp [he])) fun e he=>hl e (by simp [he])]
   have h1:=hl (k,l) (by simp);simp only at h1;have e:(zx (j:Int) ((k,l)::r))=some l:=by rw [<-hj];simp [zx]
   rw [e];show (l.length:Int)*_=max 1 (l.length:Int)*_;rw [Int.max_eq_right (by omega)];rfl
  ·rw [<-hj,hnone];rfl
  ·intro i hi
   have:zx (i:Int) ((k,l)::r)=zx (i:Int) r:=by
    simp only [zx];rw [if_neg];simp;omega
   rw [this]
def zji (ls:List (List Int)):Int:=ls.foldl (fun p l=>min (p*max 1 (l.length:Int)) 1000000) 1
def zfb (c:Codex) (es:List Ex):List (List Int):=(List.range c.facts.length).map fun (i:Nat)=>yab c i es
def zgi (c:Codex) (vs:List Int):Bool:=(ya c vs).all (simpE c)&&decide (zji (zfb c (ya c vs))<=4096)
theorem zzp {α β γ:Type} (f:γ->β->γ) (g:α->β):∀(l:List α) (p:γ),l.foldl (fun p a=>f p (g a)) p=(l.map g).foldl f p
 |[],_=>rfl
 |a::l,p=>zzp f g l _
theorem zec {c:Codex} {P:Ex->Prop} (h:∀a∈c.arts,∀e∈a.when_,P e) {vs:List Int}:∀e∈ya c vs,P e:=fun e he=>by
 unfold ya at he;obtain ⟨v,hvv,he⟩:=List.mem_flatMap.1 he;unfold zmh at he;cases ha:qj c v with
 |none=>rw [ha] at he;cases he
 |some a=>rw [ha] at he;exact h a (zhq ha) e he
theorem zng {c:Codex} (h:zv c=true) (hF:c.facts.length<=12) (hw:∀a∈c.arts,a.when_.length<=41) {vs:List Int} (hv:∀v∈vs,0<=v/\v<c.arts.length):
  (ws c vs).isSome=zgi c (zr vs)/\∀q,ws c vs=some q->∀f,yab c f (ya c (zr vs))=zcs (zct q f):=by
 obtain ⟨m,hm,hc⟩:=zbo h;have hN:=zec (c:=c) hc (vs:=zr vs);obtain ⟨hs1,hs2⟩:=zqa h hF hv;unfold zgi ws;cases hg:zbv c (zr vs) sr0 with
 |none=>
  rw [hg] at hs1;rw [<-hs1];exact ⟨rfl,fun q hq=>by cases hq⟩
 |some q=>
  rw [hg] at hs1;rw [<-hs1];have hR:=hs2 q hg;have hsimp:∀e∈ya c (zr vs),simpE c e=true:=List.all_eq_true.1 hs1.symm;obtain ⟨_,h60,m',hm',h4⟩:=qr h;have hl:=zhs hv;have hfull:=(zuc hm' rfl hF (fun a ha=>⟨hw a ha,(h4 a ha).2.2.1⟩) _ sr0 q 0 (yya _) hg).up (k':=2460) (by omega);have hLe:=ywi hfull hR fun e he=>⟨hN e he,hsimp e he⟩
  have hone:∀e∈q.cands,1<=e.2.length:=fun e he=>by
   have:=hR.zero e he;cases hh:e.2 with
   |nil=>rw [hh] at this;cases this
   |cons a l=>simp
  have hp1:zhm q.cands=min (zgh (q.cands.map fun e=>(e.2.length:Int))) 4097:=by
   have:=zqc (B:=4097) (by omega) (q.cands.map fun e=>(e.2.length:Int)) 1 (by omega) (fun n hn=>by
    obtain ⟨e,he,rfl⟩:=List.mem_map.1 hn;have:=hone e he
    omega)
   rw [Int.one_mul] at this;rw [<-this];unfold zhm yqu;exact zzp (fun p n=>min (p*n) 4097) (fun e:Int × List Int=>(e.2.length:Int)) q.cands 1
  have hp2:zji (zfb c (ya c (zr vs)))=min (zgh ((List.range c.facts.length).map fun (i:Nat)=>max 1 ((((zx (i:Int) q.cands).getD []).length:Nat):Int))) 1000000:=by
   have:=zqc (B:=1000000) (by omega) ((List.range c.facts.length).map fun (i:Nat)=>max 1 ((((zx (i:Int) q.cands).getD []).length:Nat):Int)) 1 (by omega) (fun n hn=>by
    obtain ⟨e,he,rfl⟩:=List.mem_map.1 hn
    omega)
   rw [Int.one_mul] at this;rw [<-this];unfold zji zfb yqu;rw [zzp (fun p n=>min (p*n) 1000000) (fun l:List Int=>max 1 (l.length:Int)),List.map_map];show List.foldl _ 1 _=_
   congr 1
   refine List.map_congr_left fun i hi=>?_
   show max 1 ((yab c i (ya c (zr vs))).length:Int)=_;rw [hLe,(List.mergeSort_perm _ _).length_eq];rfl
  have hpe:=zxb c.facts.length q.cands hfull.inv.nd hfull.inv.rng hone;rw [<-hpe] at hp2;simp only;have hle:zhm q.cands<=4096 ↔ zji (zfb c (ya c (zr vs)))<=4096:=by
   rw [hp1,hp2];omega
  refine ⟨?_,fun q' hq' f=>?_⟩
  ·by_cases h0:zhm q.cands<=4096
   ·rw [if_pos h0,decide_eq_true (hle.1 h0)];rfl
   ·rw [if_neg h0,decide_eq_false (fun h1=>h0 (hle.2 h1))];rfl
  ·split at hq'
   ·cases hq';exact hLe f
   ·cases hq'
def yfz (c:Codex):SObj:=.cells [.imm (zj c.facts),.imm (zj c.lines),.imm (yl c.arts)]
def isDead (c:Codex) (i:Int):Bool:=(ws c [i]).isSome&&(yg c [i]).isNone
theorem zlt {c:Codex} (hok:zv c=true) {vs:List Int} (hv:∀v∈vs,0<=v/\v<c.arts.length):yg c vs=match ws c vs with|some s=>jb c (zr vs) s|none=>none:=by
 have hall:vs.all (fun v=>decide (0<=v)&&decide (v<c.arts.length))=true:=List.all_eq_true.2 fun v h=>by
  have:=hv v h;simp only [Bool.and_eq_true,decide_eq_true_eq];exact this
 unfold yg;rw [hok,hall,Bool.true_and,if_pos rfl]
 try rfl
theorem zoo {c:Codex} (hok:zv c=true):zdo c=((List.range c.arts.length).map fun (i:Nat)=>(i:Int)).filter (isDead c):=by
 unfold zdo;rw [if_pos hok];rfl
theorem yyb (c:Codex) (hfit:Codex.fit c) (hS:zv c=true->SearchC c) (hz:c.arts.length<=1000000):
  zw Tryz.prog G0 17 [c.sv] (if zv c=true then .imm (zi (zdo c)) else zdp):=by
 have hal:(c.arts.map Article.cells).length=c.arts.length:=by simp
 have hV:=zbh G0 c hfit;refine zc Tryz.func17 rfl (by rw [Tryz.ntmps17];simp) rfl (by split<;>rfl) ?_;intro E hH hK;have hdo:=@zoo c;have hwi:=@zlt c;generalize hz2:zv c=z at hV hS hK hdo hwi;rw [show c.sv= .agg [.imm (zj c.facts),.imm (zj c.lines),.imm (yl c.arts)] from rfl];(refine zf ?_;conv=>whnf);refine ze rfl  hV ?_;cases z<;>((refine za ?_;conv=>whnf))
 ·exact hK _
 have hS:=hS rfl;rw [if_pos rfl,hdo rfl] at hK;refine zjr (n:=3) (kk:=1) rfl ?_;refine zg [1,3,13,14,15] ?_;change SW E _ [(1,.ptr 0 0),(3,.asl 1 1 []),(13,.imm (yl c.arts)),(14,sI (c.arts.map Article.cells).length),(15,sI 0)] [yfz c,.tok 1 0];refine zo c.arts (fun i (l:List Int)=>[(1,.ptr 0 0),(3,.asl 1 1 (l.map fun n=>[dI n])),(13,.imm (yl c.arts)),(14,sI (c.arts.map Article.cells).length),(15,sI i)]) (fun _ l=>[yfz c,.tok 1 (l.map fun n=>[dI n]).length])
  (fun done rest l=>l=((List.range done.length).map fun (i:Nat)=>(i:Int)).filter (isDead c)/\l.length<=done.length) [] ⟨rfl,by simp⟩ ?_ ?_
 ·rintro l ⟨h2,_⟩
  rw [<-h2] at hK;refine zay ?_;change SW E _ [(1,.ptr 0 0),(3,.imm (zi l)),(13,.imm (yl c.arts)),(14,sI (c.arts.map Article.cells).length),(15,sI c.arts.length)] _;(refine zf ?_;conv=>whnf)
  repeat' ((with_reducible refine way ?_ ?_)<;>(intro h;conv=>whnf))
  all_goals try (exfalso;omega)
  exact hK _
 ·rintro done x rest l hda hdl ⟨h2,h3⟩ ih
  have hw:=zk (n:=done.length) (by omega);have hi:∀v∈[(done.length:Int)],0<=v/\v<c.arts.length:=fun v hv=>by simp at hv;subst hv;omega
  have hN:=zkf c hS [(done.length:Int)] hi (by simp) [yfz c,.tok 1 (l.map fun n=>[dI n]).length];have hwi2:=hwi rfl hi;have hsn:∀b,isDead c (done.length:Int)=b->((List.range (done.length+1)).map fun (i:Nat)=>(i:Int)).filter (isDead c)=l++(if b=true then [(done.length:Int)] else []):=fun b hb=>by
   rw [List.range_succ,List.map_append,List.filter_append, <-h2];simp only [List.map_cons,List.map_nil,List.filter_cons,hb,List.filter_nil]
  have hnx:∀b,isDead c (done.length:Int)=b->b=false->SW E _ _ _:=fun b hb hf=>by
   subst hf;have e:=hsn _ hb;simp only [Bool.false_eq_true,if_false,List.append_nil] at e;exact ih l ⟨by rw [List.length_append];exact e.symm,by simp only [List.length_append,List.length_cons,List.length_nil];omega⟩
  (refine zf ?_;conv=>whnf)
  repeat' ((with_reducible refine way ?_ ?_)<;>(intro h;conv=>whnf))
  all_goals try (exfalso;omega)
  refine qb (argv:=[c.sv,.imm (zi [(done.length:Int)])]) rfl rfl rfl rfl rfl rfl (hN.mono ?_);intro r H' hK1;have hkc:∀m,([yfz c,SObj.tok 1 m]).all (SObj.under 2)=true:=fun _=>rfl
  cases hq:ws c [(done.length:Int)] with
  |none=>
   rw [hq] at hK1;have hdd:isDead c (done.length:Int)=false:=by unfold isDead;rw [hq];rfl
   obtain ⟨p,H1,hp,rfl,rfl⟩:=hK1;refine ⟨Nat.le_add_left 2 _,?_⟩;refine Eq.mpr (congrArg (fun h=>SWr E _ _ _ _ h) (show _=yfz c:: .tok 1 (l.map fun n=>[dI n]).length::H1 from rfl)) ?_;rcases hp with rfl|rfl<;>((refine za ?_;conv=>whnf))<;>rw [hw]
   all_goals exact yy [1,3,13,14,15] 2 (by rw [hH];exact Nat.zero_le 2) (Nat.succ_le_succ (Nat.succ_le_succ (Nat.zero_le _))) rfl (hkc _) (hnx _ hdd rfl)
  |some q=>
   have hWt:=zpt c hS [(done.length:Int)] hi (by simp) q hq [yfz c,.tok 1 (l.map fun n=>[dI n]).length];rw [hq] at hK1 hwi2;simp only at hwi2;obtain ⟨rfl,rfl⟩:=hK1;refine ⟨by rw [List.length_append];exact Nat.le_add_right _ _,?_⟩;(refine za ?_;conv=>whnf);refine qb rfl rfl rfl rfl rfl rfl (hWt.mono ?_);rintro r H' ⟨rfl,⟨H1,rfl⟩,hl⟩;refine ⟨hl,?_⟩;rw [<-hwi2];have hdd:isDead c (done.length:Int)=(yg c [(done.length:Int)]).isNone:=by unfold isDead;rw [hq];rfl
   refine jx (t':=[(1,.ptr 0 0),(3,.asl 1 1 (l.map fun n=>[dI n])),(4,sI done.length),(13,.imm (yl c.arts)),(14,sI (c.arts.map Article.cells).length),(15,sI done.length),(29,zmg (yg c [(done.length:Int)]))]) (H':=[yfz c,.tok 1 (l.map fun n=>[dI n]).length])
    (fun k h=>zg [1,3,4,13,14,15,29] (yhi 2 (by rw [hH];exact Nat.zero_le 2) (Nat.succ_le_succ (Nat.succ_le_succ (Nat.zero_le _))) (by cases yg c [(done.length:Int)]<;>rfl) (hkc _) h)) ?_
   generalize yg c [(done.length:Int)]=o at hdd ⊢;cases o with
   |none=>
    have e:=hsn _ hdd;simp only [Option.isNone_none,if_true] at e;(refine za ?_;conv=>whnf);refine wm (b:=1) (kk:=1) (rows:=l.map fun n=>[dI n]) (new:=[[dI done.length]]) rfl ⟨by decide,rfl⟩ rfl (by rw [List.length_map];simp only [List.length_cons,List.length_nil];omega) ?_;have e5:(l.map fun n=>[dI n])++[[dI done.length]]=(l++[(done.length:Int)]).map fun n=>[dI n]:=by simp
    have e6:(l.map fun n=>[dI n]).length+[[dI done.length]].length=((l++[(done.length:Int)]).map fun n=>[dI n]).length:=by simp
    refine Eq.mpr (congrArg (fun v=>SWr E _ _ _ (wz _ _ (.asl 1 1 v)) _) e5) ?_;refine Eq.mpr (congrArg (fun v=>SWr E _ _ _ _ (List.set _ 1 (.tok 1 v))) e6) ?_;(refine za ?_;conv=>whnf);rw [hw];refine yy [1,3,13,14,15] 2 (by rw [hH];exact Nat.zero_le 2) (Nat.succ_le_succ (Nat.succ_le_succ (Nat.zero_le _))) rfl (hkc _) ?_;refine ih (l++[(done.length:Int)]) ⟨?_,?_⟩
    ·rw [List.length_append];exact e.symm
    ·simp only [List.length_append,List.length_cons,List.length_nil];omega
   |some v=>
    (refine za ?_;conv=>whnf);rw [hw];exact yy [1,3,13,14,15] 2 (by rw [hH];exact Nat.zero_le 2) (Nat.succ_le_succ (Nat.succ_le_succ (Nat.zero_le _))) rfl (hkc _) (hnx _ hdd rfl)
theorem zxc (c:Codex) (hfit:Codex.fit c) (hS:zv c=true->SearchC c) (hz:c.arts.length<=1000000):
  zw Tryz.prog G0 17 [c.sv] (.imm (zi (zdo c))):=by
 have h:=yyb c hfit hS hz;split at h
 ·exact h
 ·rename_i hn
  rw [show zdo c=[] by unfold zdo;rw [if_neg hn]];exact zao h (SV.Is.nil 1)
theorem yga {l:List Int} {v:Int} (h:v∈l):v∈Go.Lib.compact l:=by
 obtain ⟨j,hj,rfl⟩:=List.mem_iff_getElem.1 h;have key:∀j,∃k,k<=j/\Go.Lib.keeps l.toArray k=true/\l.toArray[k]! =l.toArray[j]! :=by
  intro j
  induction j with
  |zero=>exact ⟨0,Nat.le_refl _,Go.Lib.keeps_lt_one _ 0 (by omega),rfl⟩
  |succ j ih=>
   by_cases e:l.toArray[j+1]! =l.toArray[j+1-1]!
   ·obtain ⟨k,h1,h2,h3⟩:=ih
    exact ⟨k,by omega,h2,by rw [h3,e,Nat.add_sub_cancel]⟩
   ·exact ⟨j+1,Nat.le_refl _,Go.Lib.keeps_pos e,rfl⟩
 obtain ⟨k,h1,h2,h3⟩:=key j;unfold Go.Lib.compact Go.Lib.compactUpTo;refine List.mem_map.2 ⟨k,List.mem_filter.2 ⟨List.mem_range.2 (by omega),h2⟩,?_⟩;show l.toArray[k]! =_;rw [h3];simp [hj]
theorem zxd {vs:List Int} {v:Int}:v∈zr vs ↔ v∈vs:=⟨zwy,fun h=>yga ((List.mergeSort_perm vs fun x y=>decide (x<=y)).mem_iff.2 h)⟩
theorem ygb {l:List Int} (h:l.Pairwise (· < ·)):zr l=l:=zuk _ _ (zpw l) h fun _=>zxd
def zed (c:Codex) (vs:List Int):List Int:=((List.range c.arts.length).map fun (i:Nat)=>(i:Int)).filter fun i=>decide (i∈vs)
theorem yqv (c:Codex) (vs:List Int):(zed c vs).Pairwise (· < ·):=by
 refine List.Pairwise.filter _ ?_;rw [List.pairwise_map];exact List.pairwise_lt_range.imp fun h=>by omega
theorem ydb {c:Codex} {vs:List Int}:∀v∈zed c vs,0<=v/\v<c.arts.length:=fun v hv=>by
 obtain ⟨i,hi,rfl⟩:=List.mem_map.1 (List.mem_filter.1 hv).1;have:=List.mem_range.1 hi;omega
theorem zzq {c:Codex} {vs:List Int} (hv:∀v∈vs,0<=v/\v<c.arts.length):zed c vs=zr vs:=zuk _ _ (yqv c vs) (zpw vs) fun x=>by
 rw [zxd];unfold zed;simp only [List.mem_filter,decide_eq_true_eq];constructor
 ·exact fun h=>h.2
 ·intro h
  have:=hv x h;exact ⟨List.mem_map.2 ⟨x.toNat,List.mem_range.2 (by omega),by omega⟩,h⟩
theorem yjh {c:Codex} (vs:List Int):0<=(ym c vs).1/\(ym c vs).2<=36525:=by
 have:=zpz c vs (0,36525);exact this
theorem zqd {c:Codex} (h:zv c=true) (hF:c.facts.length<=12) (hw:∀a∈c.arts,a.when_.length<=41) {vs:List Int} (hv:∀v∈vs,0<=v/\v<c.arts.length):
  (zgi c (zr vs)=false->yg c vs=none)/\
  (zgi c (zr vs)=true->yg c vs=none->∀d v,(ym c (zr vs)).1<=d->d<(ym c (zr vs)).2->ymb c v->(ya c (zr vs)).all (holdsE (yf d) v)=false)/\
  (∀w,yg c vs=some w->zgi c (zr vs)=true/\(ym c (zr vs)).1<=w.day/\w.day<(ym c (zr vs)).2/\w.value.length=c.facts.length/\w.has.length=c.facts.length/\w.arts=zr vs/\
   (ya c (zr vs)).all (holdsE (yf w.day) w.value)=true):=by
 have hsc:=(zng h hF hw hv).1;rw [zlt h hv];cases hq:ws c vs with
 |none=>
  rw [hq] at hsc;refine ⟨fun _=>rfl,fun h1=>?_,fun w hw=>by cases hw⟩;rw [<-hsc] at h1;cases h1
 |some q=>
  rw [hq] at hsc;obtain ⟨w1,w2⟩:=yqt h hF hw hv hq;refine ⟨fun h1=>?_,fun _ hn d v h1 h2 h3=>?_,fun w hw=>?_⟩
  ·rw [<-hsc] at h1
   cases h1
  ·cases ha:(ya c (zr vs)).all (holdsE (yf d) v) with
   |false=>rfl
   |true=>exact absurd (List.all_eq_true.1 ha) (w2 hn d v h1 h2 h3)
  ·obtain ⟨a1,a2,a3,a4,a5,a6,_,_⟩:=w1 w hw
   exact ⟨hsc.symm,a1,a2,a3,by rw [a4];simp,a5,List.all_eq_true.2 a6⟩
theorem yqw {c:Codex} (h:zv c=true) (hF:c.facts.length<=12) (hw:∀a∈c.arts,a.when_.length<=41) {i:Nat} (hi:i<c.arts.length):
  decide ((i:Int)∈zdo c)=(zgi c [(i:Int)]&& !(yg c [(i:Int)]).isSome)/\
  (decide ((i:Int)∈zdo c)=true->∀a,c.arts[i]?=some a->∀d v,a.lo<=d->d<a.hi->ymb c v->(ya c [(i:Int)]).all (holdsE (yf d) v)=false):=by
 have hv:∀v∈[(i:Int)],0<=v/\v<c.arts.length:=fun v hv=>by simp at hv;subst hv;omega
 have hvo:zr [(i:Int)]=[(i:Int)]:=ygb (by simp);have hsc:=(zng h hF hw hv).1;rw [hvo] at hsc;have hmem:decide ((i:Int)∈zdo c)=isDead c i:=by
  rw [zoo h];simp only [List.mem_filter];rw [Bool.eq_iff_iff];simp only [decide_eq_true_eq];constructor
  ·exact fun h=>h.2
  ·exact fun h=>⟨List.mem_map.2 ⟨i,List.mem_range.2 hi,rfl⟩,h⟩
 have h1:decide ((i:Int)∈zdo c)=(zgi c [(i:Int)]&& !(yg c [(i:Int)]).isSome):=by
  rw [hmem];unfold isDead;rw [hsc];cases yg c [(i:Int)]<;>rfl
 refine ⟨h1,fun hd a ha d v hlo hhi hg=>?_⟩;rw [h1] at hd;simp only [Bool.and_eq_true,Bool.not_eq_true',Option.isSome_eq_false_iff,Option.isNone_iff_eq_none] at hd;have hfr:ym c [(i:Int)]=(max 0 a.lo,min 36525 a.hi):=by
  unfold ym;simp only [List.foldl_cons,List.foldl_nil];have:qj c (i:Int)=some a:=by unfold qj;rw [if_neg (by omega)];exact ha
  rw [this]
 have hah:=qr h;obtain ⟨_,_,m,_,h4⟩:=hah;have hhd:=(h4 a (List.mem_of_getElem? ha)).1;unfold zda at hhd;simp only [Bool.and_eq_true,decide_eq_true_eq] at hhd;have:=(zqd h hF hw hv).2.1 (by rw [hvo];exact hd.1) hd.2 d v (by rw [hvo,hfr];simp only;omega) (by rw [hvo,hfr];simp only;omega) hg;rw [hvo] at this;exact this
theorem zas (op:Int):zw Tryz.prog G 75 [sI op] (sB (zcj op)):=by
 by_cases h8:op=8
 ·subst h8
  refine zc Tryz.func75 rfl (by rw [Tryz.ntmps75];simp) rfl rfl ?_;intro E hH hK;(refine zl ?_;conv=>whnf);exact hK _
 by_cases h9:op=9
 ·subst h9
  refine zc Tryz.func75 rfl (by rw [Tryz.ntmps75];simp) rfl rfl ?_;intro E hH hK;(refine zl ?_;conv=>whnf);exact hK _
 by_cases h10:op=10
 ·subst h10
  refine zc Tryz.func75 rfl (by rw [Tryz.ntmps75];simp) rfl rfl ?_;intro E hH hK;(refine zl ?_;conv=>whnf);exact hK _
 have hc:zcj op=decide (op=10):=by unfold zcj;simp [h8,h9]
 rw [hc];refine zc Tryz.func75 rfl (by rw [Tryz.ntmps75];simp) rfl rfl ?_;intro E hH hK;(refine zl ?_;conv=>whnf)
 repeat' ((with_reducible refine way ?_ ?_)<;>(intro h;conv=>whnf))
 all_goals try (exfalso;omega)
 exact hK _
theorem zul (e:Ex):zw Tryz.prog G 85 [e.sv] (sB (zhf e)):=by
 obtain ⟨op,n,u,den,ps,ks⟩:=e
 by_cases h1:op=1
 ·subst h1
  rw [show zhf (.mk 1 n u den ps ks)=true from rfl];refine zc Tryz.func85 rfl (by rw [Tryz.ntmps85];simp) rfl rfl ?_;intro E hH hK;(refine zl ?_;conv=>whnf);exact hK _
 by_cases h2:op=2
 ·subst h2
  rw [show zhf (.mk 2 n u den ps ks)=true from rfl];refine zc Tryz.func85 rfl (by rw [Tryz.ntmps85];simp) rfl rfl ?_;intro E hH hK;(refine zl ?_;conv=>whnf);exact hK _
 by_cases h4:op=4
 ·subst h4
  by_cases hn:1<=n
  ·rw [show zhf (.mk 4 n u den ps ks)=decide (n<=4) by unfold zhf;simp [Ex.op,Ex.n,hn];try rfl]
   refine zc Tryz.func85 rfl (by rw [Tryz.ntmps85];simp) rfl rfl ?_;intro E hH hK;(refine zl ?_;conv=>whnf)
   repeat' ((with_reducible refine way ?_ ?_)<;>(intro h;conv=>whnf))
   all_goals try (exfalso;omega)
   exact hK _
  ·rw [show zhf (.mk 4 n u den ps ks)=false by unfold zhf;simp [Ex.op,Ex.n,hn]]
   refine zc Tryz.func85 rfl (by rw [Tryz.ntmps85];simp) rfl rfl ?_;intro E hH hK;(refine zl ?_;conv=>whnf)
   repeat' ((with_reducible refine way ?_ ?_)<;>(intro h;conv=>whnf))
   all_goals try (exfalso;omega)
   exact hK _
 rw [show zhf (.mk op n u den ps ks)=false by unfold zhf;simp [Ex.op,h1,h2,h4]];refine zc Tryz.func85 rfl (by rw [Tryz.ntmps85];simp) rfl rfl ?_;intro E hH hK;(refine zl ?_;conv=>whnf)
 repeat' ((with_reducible refine way ?_ ?_)<;>(intro h;conv=>whnf))
 all_goals try (exfalso;omega)
 exact hK _
theorem zlu (l:List Int) (n:Int) (hz:l.length<=100000000):zw Tryz.prog G 86 [.imm (zi l),sI n] (.imm (zi (zol l n))):=by
 have hvl:(l.map fun n=>[dI n]).length=l.length:=by simp
 have hin:=zkl G l n (by omega)
 by_cases h1:n<0
 ·rw [show zol l n=l from if_pos (.inl h1)]
  refine zc Tryz.func86 rfl (by rw [Tryz.ntmps86];simp) rfl rfl ?_;intro E hH hK;(refine zf ?_;conv=>whnf)
  repeat' ((with_reducible refine way ?_ ?_)<;>(intro h;conv=>whnf))
  all_goals try (exfalso;omega)
  exact hK _
 by_cases h2:1000000000000<n
 ·rw [show zol l n=l from if_pos (.inr (.inl h2))]
  refine zc Tryz.func86 rfl (by rw [Tryz.ntmps86];simp) rfl rfl ?_;intro E hH hK;(refine zf ?_;conv=>whnf)
  repeat' ((with_reducible refine way ?_ ?_)<;>(intro h;conv=>whnf))
  all_goals try (exfalso;omega)
  exact hK _
 by_cases h3:n∈l
 ·rw [show zol l n=l from if_pos (.inr (.inr h3))]
  rw [decide_eq_true h3] at hin;refine zc Tryz.func86 rfl (by rw [Tryz.ntmps86];simp) rfl rfl ?_;intro E hH hK;(refine zf ?_;conv=>whnf)
  repeat' ((with_reducible refine way ?_ ?_)<;>(intro h;conv=>whnf))
  all_goals try (exfalso;omega)
  refine ze rfl  hin ?_;(refine za ?_;conv=>whnf);exact hK _
 rw [show zol l n=zwz n l from if_neg (by rintro (h|h|h);exact h1 h;exact h2 h;exact h3 h)];rw [decide_eq_false h3] at hin;refine zc Tryz.func86 rfl (by rw [Tryz.ntmps86];simp) rfl rfl ?_;intro E hH hK;(refine zf ?_;conv=>whnf)
 repeat' ((with_reducible refine way ?_ ?_)<;>(intro h;conv=>whnf))
 all_goals try (exfalso;omega)
 refine ze rfl  hin ?_;(refine za ?_;conv=>whnf);refine zjr (n:=5) (kk:=1) rfl ?_;refine zg [0,1,5,6,7] ?_;change SW E _ [(0,.imm (zi l)),(1,sI n),(5,.asl 0 1 []),(6,sB false),(7,sI 0)] [.tok 1 0];refine zo l (fun i (s:List Int × Bool)=>[(0,.imm (zi l)),(1,sI n),(5,.asl 0 1 (s.1.map fun n=>[dI n])),(6,sB s.2),(7,sI i)]) (fun _ s=>[.tok 1 (s.1.map fun n=>[dI n]).length])
  (fun done rest s=>zwz n l=s.1++(if s.2=true then rest else zwz n rest)/\s.1.length<=2*done.length+1) ([],false) ⟨rfl,by simp⟩ ?_ ?_
 ·rintro ⟨out,dn⟩ ⟨h4,h5⟩
  change zwz n l=out++_ at h4;change out.length<=_ at h5;change SW E _ [(0,.imm (zi l)),(1,sI n),(5,.asl 0 1 (out.map fun n=>[dI n])),(6,sB dn),(7,sI l.length)] [.tok 1 (out.map fun n=>[dI n]).length];cases dn with
  |true=>
   simp only [if_true,List.append_nil] at h4;rw [h4] at hK;refine zay ?_;change SW E _ [(0,.imm (zi l)),(1,sI n),(5,.imm (zi out)),(6,sB true),(7,sI l.length)] _;(refine zf ?_;conv=>whnf)
   repeat' ((with_reducible refine way ?_ ?_)<;>(intro h;conv=>whnf))
   all_goals try (exfalso;omega)
   exact hK _
  |false=>
   simp only [Bool.false_eq_true,if_false,zwz] at h4;rw [h4] at hK;(refine zf ?_;conv=>whnf)
   repeat' ((with_reducible refine way ?_ ?_)<;>(intro h;conv=>whnf))
   all_goals try (exfalso;omega)
   refine wm (b:=0) (kk:=1) (rows:=out.map fun n=>[dI n]) (new:=[[dI n]]) rfl ⟨by decide,rfl⟩ rfl (by rw [List.length_map];simp only [List.length_cons,List.length_nil];omega) ?_;have e5:(out.map fun n=>[dI n])++[[dI n]]=(out++[n]).map fun n=>[dI n]:=by simp
   refine Eq.mpr (congrArg (fun v=>SWr E _ _ _ (wz _ _ (.asl 0 1 v)) _) e5) ?_;refine jx (fun k=>zay) ?_;(refine za ?_;conv=>whnf);exact hK _
 ·rintro done x rest ⟨out,dn⟩ hda hdl ⟨h4,h5⟩ ih
  change zwz n l=out++_ at h4;change out.length<=_ at h5;have hw:=zk (n:=done.length) (by omega);have hrx:(l.map fun n=>[dI n])[done.length]?=some [dI x]:=by simp [hda]
  change SW E _ [(0,.imm (zi l)),(1,sI n),(5,.asl 0 1 (out.map fun n=>[dI n])),(6,sB dn),(7,sI done.length)] [.tok 1 (out.map fun n=>[dI n]).length];have fin:∀out' dn',zwz n l=out'++(if dn'=true then rest else zwz n rest)->out'.length<=2*done.length+3->SW E _ _ _:=fun out' dn' g1 g2=>ih (out',dn') ⟨g1,by simp only [List.length_append,List.length_cons,List.length_nil];omega⟩
  cases dn with
  |true=>
   simp only [if_true] at h4;(refine zf ?_;conv=>whnf)
   repeat' ((with_reducible refine way ?_ ?_)<;>(intro h;conv=>whnf))
   all_goals try (exfalso;omega)
   refine zh (i:=done.length) (row:=[dI x]) rfl rfl hrx ?_;(refine za ?_;conv=>whnf);refine wm (b:=0) (kk:=1) (rows:=out.map fun n=>[dI n]) (new:=[[dI x]]) rfl ⟨by decide,rfl⟩ rfl (by rw [List.length_map];simp only [List.length_cons,List.length_nil];omega) ?_;have e5:(out.map fun n=>[dI n])++[[dI x]]=(out++[x]).map fun n=>[dI n]:=by simp
   have e6:(out.map fun n=>[dI n]).length+[[dI x]].length=((out++[x]).map fun n=>[dI n]).length:=by simp
   refine Eq.mpr (congrArg (fun v=>SWr E _ _ _ (wz _ _ (.asl 0 1 v)) _) e5) ?_;refine Eq.mpr (congrArg (fun v=>SWr E _ _ _ _ (List.set _ 0 (.tok 1 v))) e6) ?_;(refine za ?_;conv=>whnf);rw [hw];exact zg [0,1,5,6,7] (fin (out++[x]) true (by rw [h4];simp) (by simp;omega))
  |false=>
   simp only [Bool.false_eq_true,if_false] at h4;(refine zf ?_;conv=>whnf)
   repeat' ((with_reducible refine way ?_ ?_)<;>(intro h;conv=>whnf))
   all_goals try (exfalso;omega)
   refine zh (i:=done.length) (row:=[dI x]) rfl rfl hrx ?_;(refine za ?_;conv=>whnf)
   repeat' ((with_reducible refine way ?_ ?_)<;>(intro h;conv=>whnf))
   ·refine wm (b:=0) (kk:=1) (rows:=out.map fun n=>[dI n]) (new:=[[dI n]]) rfl ⟨by decide,rfl⟩ rfl (by rw [List.length_map];simp only [List.length_cons,List.length_nil];omega) ?_
    have e5:(out.map fun n=>[dI n])++[[dI n]]=(out++[n]).map fun n=>[dI n]:=by simp
    have e6:(out.map fun n=>[dI n]).length+[[dI n]].length=((out++[n]).map fun n=>[dI n]).length:=by simp
    refine Eq.mpr (congrArg (fun v=>SWr E _ _ _ (wz _ _ (.asl 0 1 v)) _) e5) ?_;refine Eq.mpr (congrArg (fun v=>SWr E _ _ _ _ (List.set _ 0 (.tok 1 v))) e6) ?_;(refine za ?_;conv=>whnf);refine zh (i:=done.length) (row:=[dI x]) rfl rfl hrx ?_;(refine za ?_;conv=>whnf);refine wm (b:=0) (kk:=1) (rows:=(out++[n]).map fun n=>[dI n]) (new:=[[dI x]]) rfl ⟨by decide,rfl⟩ rfl (by rw [List.length_map];simp only [List.length_append,List.length_cons,List.length_nil];omega) ?_;have e7:((out++[n]).map fun n=>[dI n])++[[dI x]]=(out++[n]++[x]).map fun n=>[dI n]:=by simp
    have e8:((out++[n]).map fun n=>[dI n]).length+[[dI x]].length=((out++[n]++[x]).map fun n=>[dI n]).length:=by simp
    refine Eq.mpr (congrArg (fun v=>SWr E _ _ _ (wz _ _ (.asl 0 1 v)) _) e7) ?_;refine Eq.mpr (congrArg (fun v=>SWr E _ _ _ _ (List.set _ 0 (.tok 1 v))) e8) ?_;(refine za ?_;conv=>whnf);rw [hw];exact zg [0,1,5,6,7] (fin (out++[n]++[x]) true (by rw [h4,zwz,if_pos (by assumption)];simp) (by simp;omega))
   ·refine zh (i:=done.length) (row:=[dI x]) rfl rfl hrx ?_
    (refine za ?_;conv=>whnf);refine wm (b:=0) (kk:=1) (rows:=out.map fun n=>[dI n]) (new:=[[dI x]]) rfl ⟨by decide,rfl⟩ rfl (by rw [List.length_map];simp only [List.length_cons,List.length_nil];omega) ?_;have e5:(out.map fun n=>[dI n])++[[dI x]]=(out++[x]).map fun n=>[dI n]:=by simp
    have e6:(out.map fun n=>[dI n]).length+[[dI x]].length=((out++[x]).map fun n=>[dI n]).length:=by simp
    refine Eq.mpr (congrArg (fun v=>SWr E _ _ _ (wz _ _ (.asl 0 1 v)) _) e5) ?_;refine Eq.mpr (congrArg (fun v=>SWr E _ _ _ _ (List.set _ 0 (.tok 1 v))) e6) ?_;(refine za ?_;conv=>whnf);rw [hw];exact zg [0,1,5,6,7] (fin (out++[x]) false (by rw [h4,zwz,if_neg (by assumption)];simp) (by simp;omega))
theorem ymc (c:Codex) (n:Int) (u:ByteArray) (den:Int) (ps:List Piece) (k:Ex) (b1:Bool) (h1:zw Tryz.prog G 54 [c.sv,k.sv] (sB b1)):
  zw Tryz.prog G 54 [c.sv,(Ex.mk 5 n u den ps [k]).sv] (sB b1):=by
 obtain ⟨kop,kn,ku,kden,kps,kks⟩:=k;rw [show c.sv= .agg [.imm (zj c.facts),.imm (zj c.lines),.imm (yl c.arts)] from rfl] at h1 ⊢;refine zc Tryz.func54 rfl (by rw [Tryz.ntmps54];simp) rfl rfl ?_;intro E hH hK;(refine zf ?_;conv=>whnf);refine zg [2,3,4,5] ?_;(refine zu 0 mixed rfl ?_;refine zb [777] (nx:=2) ?_;conv=>whnf);refine zt (i:=0) (row:=[dI kop,dI kn,dS ku,dI kden,.isl 3 (kps.map Piece.cells),.isl 6 (zd kks)]) rfl (show 2<=2 by decide) rfl rfl ?_;(refine zb [777] (nx:=2) ?_;conv=>whnf);refine yi rfl (show 2<=2 by decide) h1 ?_;(refine zb [777,4] (nx:=2) ?_;conv=>whnf);refine qp ⟨sB b1,[],none⟩ rfl rfl (show 2<=2 by decide) (fun _ _ _=>rfl) ?_;refine qt (by kernel_rfl) ?_;(refine zf ?_;conv=>whnf);exact hK _
theorem ygc (c:Codex) {op:Int} (hop:op=6\/op=7) (n:Int) (u:ByteArray) (den:Int) (ps:List Piece) (k l:Ex) (b1 b2:Bool) (h1:zw Tryz.prog G 54 [c.sv,k.sv] (sB b1))
  (h2:zw Tryz.prog G 54 [c.sv,l.sv] (sB b2)):zw Tryz.prog G 54 [c.sv,(Ex.mk op n u den ps [k,l]).sv] (sB (b1&&b2)):=by
 obtain ⟨kop,kn,ku,kden,kps,kks⟩:=k;obtain ⟨lop,ln,lu,lden,lps,lks⟩:=l;rw [show c.sv= .agg [.imm (zj c.facts),.imm (zj c.lines),.imm (yl c.arts)] from rfl] at h1 h2 ⊢;refine zc Tryz.func54 rfl (by rw [Tryz.ntmps54];simp) rfl rfl ?_;intro E hH hK;rcases hop with rfl|rfl
 all_goals
  (refine zf ?_;conv=>whnf);refine zg [2,3,4,5] ?_;(refine zu 0 mixed rfl ?_;refine zb [777] (nx:=2) ?_;conv=>whnf);refine zt (i:=0) (row:=[dI kop,dI kn,dS ku,dI kden,.isl 3 (kps.map Piece.cells),.isl 6 (zd kks)]) rfl (show 2<=2 by decide) rfl rfl ?_;(refine zb [777] (nx:=2) ?_;conv=>whnf);refine yi rfl (show 2<=2 by decide) h1 ?_;cases b1<;>(refine zb [777,4] (nx:=2) ?_;conv=>whnf)
  ·refine qp ⟨sB false,[],none⟩ rfl rfl (show 2<=2 by decide) (fun _ _ _=>rfl) ?_
   refine qt (by kernel_rfl) ?_;(refine zf ?_;conv=>whnf);exact hK _
  ·refine zt (i:=1) (row:=[dI lop,dI ln,dS lu,dI lden,.isl 3 (lps.map Piece.cells),.isl 6 (zd lks)]) rfl (show 2<=2 by decide) rfl rfl ?_
   (refine zb [777] (nx:=2) ?_;conv=>whnf);refine yi rfl (show 2<=2 by decide) h2 ?_;(refine zb [777,4] (nx:=2) ?_;conv=>whnf);refine qp ⟨sB b2,[],none⟩ rfl rfl (show 2<=2 by decide) (fun _ _ _=>rfl) ?_;refine qt (by kernel_rfl) ?_;(refine zf ?_;conv=>whnf);exact hK _
theorem ymd (c:Codex) {op:Int} (hop:op=8\/op=9\/op=10) (n:Int) (u:ByteArray) (den:Int) (ps:List Piece) (k l:Ex):
  zw Tryz.prog G 54 [c.sv,(Ex.mk op n u den ps [k,l]).sv] (sB (zhf k&&zhf l&&(decide (k.op=1)||decide (l.op=1)))):=by
 have hcmp:=zas G op;rw [show zcj op=true by unfold zcj;rcases hop with rfl|rfl|rfl<;>rfl] at hcmp;have hs1:=zul G k;have hs2:=zul G l;generalize zhf k=b1 at hs1;generalize zhf l=b2 at hs2;obtain ⟨kop,kn,ku,kden,kps,kks⟩:=k;obtain ⟨lop,ln,lu,lden,lps,lks⟩:=l;rw [show c.sv= .agg [.imm (zj c.facts),.imm (zj c.lines),.imm (yl c.arts)] from rfl];simp only [Ex.op];refine zc Tryz.func54 rfl (by rw [Tryz.ntmps54];simp) rfl rfl ?_;intro E hH hK;rcases hop with rfl|rfl|rfl
 all_goals
  (refine zf ?_;conv=>whnf);refine ze rfl  hcmp ?_;(refine za ?_;conv=>whnf);refine zh (i:=0) (row:=[dI kop,dI kn,dS ku,dI kden,.isl 3 (kps.map Piece.cells),.isl 6 (zd kks)]) rfl rfl rfl ?_;(refine za ?_;conv=>whnf);refine ze rfl  hs1 ?_;cases b1<;>((refine za ?_;conv=>whnf))
  ·exact hK _
  refine zh (i:=1) (row:=[dI lop,dI ln,dS lu,dI lden,.isl 3 (lps.map Piece.cells),.isl 6 (zd lks)]) rfl rfl rfl ?_;(refine za ?_;conv=>whnf);refine ze rfl  hs2 ?_;cases b2<;>((refine za ?_;conv=>whnf))
  ·exact hK _
  refine zh (i:=0) (row:=[dI kop,dI kn,dS ku,dI kden,.isl 3 (kps.map Piece.cells),.isl 6 (zd kks)]) rfl rfl rfl ?_;(refine za ?_;conv=>whnf);change ∀H',E.K (sB (true&&true&&(decide (kop=1)||decide (lop=1)))) H' at hK;cases h3:decide (kop=1)<;>(conv=>whnf)
  case true=>
   rw [decide_eq_true (of_decide_eq_true h3)] at hK;exact hK _
  ·rw [decide_eq_false (of_decide_eq_false h3)] at hK
   refine zh (i:=1) (row:=[dI lop,dI ln,dS lu,dI lden,.isl 3 (lps.map Piece.cells),.isl 6 (zd lks)]) rfl rfl rfl ?_;(refine za ?_;conv=>whnf);exact hK _
theorem zdi (c:Codex) (m:List (Int × Int)):∀(N:Nat) (e:Ex),SizeOf.sizeOf e<N->zfj c m e->e.unit=tT->zw Tryz.prog G 54 [c.sv,e.sv] (sB (simpE c e))
 |0,_,h,_,_=>by omega
 |N+1,.mk op n u den ps ks,hN,h,hu=>by
  simp only [Ex.mk.sizeOf_spec] at hN;have hu:u=tT:=hu;cases zfk h hu with
  |const h1 hk hu=>
   subst h1 hk;rw [show simpE c (.mk 1 n u den ps [])=decide (u=tT) by unfold simpE;rfl];refine zc Tryz.func54 rfl (by rw [Tryz.ntmps54];simp) rfl rfl ?_;intro E hH hK;(refine zf ?_;conv=>whnf);exact hK _
  |fact h1 hk hr ht=>
   subst h1 hk;obtain ⟨d,hd⟩:∃d,c.facts[n.toNat]?=some d:=⟨_,List.getElem?_eq_getElem (by omega)⟩;have hrow:(c.facts.map Decl.cells)[n.toNat]?=some [dS d.name,dS d.unit,dI d.role]:=by simp [hd,Decl.cells]
   rw [show simpE c (.mk 2 n u den ps [])=decide (d.unit=tT) by unfold simpE zoy;rw [if_neg (by decide),if_pos rfl,hd]];refine zc Tryz.func54 rfl (by rw [Tryz.ntmps54];simp) rfl rfl ?_;intro E hH hK;rw [show c.sv= .agg [.imm (zj c.facts),.imm (zj c.lines),.imm (yl c.arts)] from rfl];(refine zf ?_;conv=>whnf);refine zh (i:=n.toNat) rfl (by omega) hrow ?_;(refine za ?_;conv=>whnf);exact hK _
  |neg k h1 hk hka hku=>
   subst h1 hk;simp only [List.cons.sizeOf_spec] at hN;have h1:=zdi c m N k (by omega) hka hku;rw [show simpE c (.mk 5 n u den ps [k])=simpE c k by rw [simpE.eq_def];simp only [show ¬(5:Int)=1 by decide,show ¬(5:Int)=2 by decide,if_false,if_true]];exact ymc G c n u den ps k _ h1
  |conn k l h1 hk hka hla hku hlu=>
   subst hk;simp only [List.cons.sizeOf_spec] at hN;have hs1:=zdi c m N k (by omega) hka hku;have hs2:=zdi c m N l (by omega) hla hlu
   rw [show simpE c (.mk op n u den ps [k,l])=(simpE c k&&simpE c l) by
    rw [simpE.eq_def];simp only
    rw [if_neg (by omega),if_neg (by omega),if_neg (by omega),if_pos h1]]
   exact ygc G c h1 n u den ps k l _ _ hs1 hs2
  |cmp k l h1 hk hka hla=>
   subst hk;rw [zdh h1];exact ymd G c h1 n u den ps k l
  |other h1 h2 h3 h4 h5=>
   have hc:zcj op=false:=by unfold zcj;simp;omega
   have hs:simpE c (.mk op n u den ps ks)=false:=by
    unfold simpE;rw [if_neg h1,if_neg h2,if_neg h3,if_neg h4];split
    ·simp [hc]
    ·rfl
   rw [hs];have hcmp:=zas G op;rw [hc] at hcmp;refine zc Tryz.func54 rfl (by rw [Tryz.ntmps54];simp) rfl rfl ?_;intro E hH hK;rw [show c.sv= .agg [.imm (zj c.facts),.imm (zj c.lines),.imm (yl c.arts)] from rfl];(refine zf ?_;conv=>whnf)
   repeat' ((with_reducible refine way ?_ ?_)<;>(intro h;conv=>whnf))
   all_goals try (exfalso;omega)
   refine ze rfl  hcmp ?_;(refine za ?_;conv=>whnf);exact hK _
end Go.Proofs.YtblpjknmhajcgaaGreatDoor