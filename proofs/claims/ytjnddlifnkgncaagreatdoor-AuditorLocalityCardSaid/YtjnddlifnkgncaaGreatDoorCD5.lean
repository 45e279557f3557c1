/- Contracts of functions of the program, joined from TYw, TYx, TYy, TZq, TZc, TSh54, TZd, TZe, TZi, TSh55, TZj, TZr, TZg, TZh, TZk, TZl, TZm, TZn, TZo, TZp, TZs, TZf, TZt: no condition. -/
import Derived.Test.YtjnddlifnkgncaaGreatDoorCD4
import Derived.Lib.MakeNoZero
import Derived.Shelf.Strings.Builder1
set_option linter.unusedSimpArgs false
set_option linter.unusedVariables false
set_option maxRecDepth 100000
set_option maxHeartbeats 8000000
namespace Go.Proofs.YtjnddlifnkgncaaGreatDoor
open Go Go.Sh
variable (G:List (Nat × D))
def NMh (c:Codex) (day:Int) (A B C:List SV):List SObj:=
 [zcc c,.mapI .i64 (jp sI []),.mapI .i64 (jp sI []),.cells [.imm (zp c.facts),.imm (zp c.lines),.imm (yv c.arts),sI day,.osl 4 0 c.facts.length,.osl 5 0 c.facts.length,.osl 6 0 c.facts.length,zkh,.map 1,.map 2],.cells A,.cells B,.cells C]
theorem zgq (N:Nat) (l:List Bool):SV.under.allUnder N (l.map sB)=true:=by
 induction l with
 |nil=>rfl
 |cons a r ih=>simpa [SV.under.allUnder,SV.under] using ih
theorem yna (N:Nat) (l:List SV) (h:∀x∈l,x.under N=true):SV.under.allUnder N l=true:=by
 induction l with
 |nil=>rfl
 |cons a r ih=>
  simp only [SV.under.allUnder,Bool.and_eq_true];exact ⟨h a (by simp),ih fun x hx=>h x (by simp [hx])⟩
theorem zrm {c:Codex} {day:Int} {A B C:List SV} {N:Nat} (hN:7<=N) (hA:SV.under.allUnder N A=true) (hB:SV.under.allUnder N B=true) (hC:SV.under.allUnder N C=true):(NMh c day A B C).all (SObj.under N)=true:=by
 have e1:SObj.under N (.cells A)=true:=hA;have e2:SObj.under N (.cells B)=true:=hB;have e3:SObj.under N (.cells C)=true:=hC;have e4:SObj.under N (.cells [.imm (zp c.facts),.imm (zp c.lines),.imm (yv c.arts),sI day,.osl 4 0 c.facts.length,.osl 5 0 c.facts.length,.osl 6 0 c.facts.length,zkh,.map 1,.map 2])=true:=by
  simp [SObj.under,SV.under.allUnder,SV.under];omega
 simp only [NMh,List.all_cons,List.all_nil,e1,e2,e3,e4,zmw];rfl
def zcf (d:List Bool) (m:Nat):List SV:=d.map sB++List.replicate m (sB false)
def qi (d:List Int) (m:Nat):List SV:=d.map sI++List.replicate m (sI 0)
theorem zrn (N:Nat) (d:List Bool) (m:Nat):SV.under.allUnder N (zcf d m)=true:=yna N _ fun x hx=>by
 rcases List.mem_append.1 hx with h|h
 ·obtain ⟨b,_,rfl⟩:=List.mem_map.1 h;rfl
 ·rw [(List.mem_replicate.1 h).2];rfl
theorem zgr (N:Nat) (d:List Int) (m:Nat):SV.under.allUnder N (qi d m)=true:=yna N _ fun x hx=>by
 rcases List.mem_append.1 hx with h|h
 ·obtain ⟨b,_,rfl⟩:=List.mem_map.1 h;rfl
 ·rw [(List.mem_replicate.1 h).2];rfl
theorem zao (d:List Bool) (b:Bool) (m:Nat):zcf (d++[b]) m=d.map sB++sB b::List.replicate m (sB false):=by simp [zcf]
theorem xt (d:List Int) (b:Int) (m:Nat):qi (d++[b]) m=d.map sI++sI b::List.replicate m (sI 0):=by simp [qi]
theorem yik (d:List Bool) (m:Nat):zcf d (m+1)=zcf (d++[false]) m:=by rw [zao,zcf,List.replicate_succ]
theorem zug (d:List Int) (m:Nat):qi d (m+1)=qi (d++[0]) m:=by rw [xt,qi,List.replicate_succ]
def yft (c:Codex) (S:AM) (inF:List Int):List SV:=[.imm (zp c.facts),.imm (zp c.lines),.imm (yv c.arts),sI S.day,.imm (zbn S.has),.imm (ye S.vals),.imm (ye S.nums),.imm (ye inF),.map 1,.map 2]
theorem yil {c:Codex} {day known:Int} {m:List (Int × Int)} {n:Nat} {x:Article × Nat} (h:∀k v,zy k m=some v->0<=v/\v<n) (hx:x.2=n):∀k v,zy k (zbd c day known m x)=some v->0<=v/\v<(n+1:Nat):=by
 have h1:∀k v,zy k m=some v->0<=v/\v<(n+1:Nat):=fun k v hk=>by have:=h k v hk;omega
 have h2:∀k v,zy k (zdg x.1.number (x.2:Int) m)=some v->0<=v/\v<(n+1:Nat):=fun k v hk=>by
  rw [zfi] at hk;split at hk
  ·cases hk
   omega
  ·exact h1 k v hk
 intro k v hk;unfold zbd at hk;split at hk
 ·exact h1 k v hk
 ·split at hk
  ·exact h2 k v hk
  ·split at hk
   ·split at hk
    ·exact h2 k v hk
    ·exact h1 k v hk
   ·exact h1 k v hk
def NVh (c:Codex) (day:Int) (A B C:List SV) (o7:SObj) (vs:List Int):List SObj:=
 [zcc c,.mapI .i64 (jp sI []),.mapI .i64 (jp sI []),.cells [.imm (zp c.facts),.imm (zp c.lines),.imm (yv c.arts),sI day,.osl 4 0 c.facts.length,.osl 5 0 c.facts.length,.osl 6 0 c.facts.length,.vec 8 vs.length,.map 1,.map 2],.cells A,.cells B,.cells C,o7,.vec 1 (vs.map sI)]
def unS:SV->Int
 | .imm (.val (.int _ n))=>n
 |_=>0
theorem zzr (k v:Int):∀m:List (Int × Int),(zdg k v m).length<=m.length+1
 |[]=>by simp [zdg]
 |p::r=>by
  obtain ⟨q,w⟩:=p;rw [zdg];split
  ·simp
  ·have:=zzr k v r
   simp;omega
theorem yfu (c:Codex) (day known:Int) (m:List (Int × Int)) (x:Article × Nat):(zbd c day known m x).length<=m.length+1:=by
 have:=zzr x.1.number (x.2:Int) m;unfold zbd;split
 ·omega
 ·split
  ·exact this
  ·split
   ·split
    ·exact this
    ·omega
   ·omega
theorem zoz (l:List Int):(l.map sI).all SV.one=true:=by
 induction l with
 |nil=>rfl
 |cons a r ih=>rw [List.map_cons,List.all_cons,ih];rfl
theorem ynb (l:List Bool):(l.map sB).all SV.one=true:=by
 induction l with
 |nil=>rfl
 |cons a r ih=>rw [List.map_cons,List.all_cons,ih];rfl
theorem zpa (l:List Int):(l.map sI).mapM SV.toD=some (l.map dI):=by
 have:=zos (l.map dI)
 rwa [List.map_map] at this
theorem ync (l:List Bool):(l.map sB).mapM SV.toD=some (l.map dB):=by
 have:=zos (l.map dB)
 rwa [List.map_map] at this
theorem zgs (l:List Int):jc 1 (l.map dI) l.length=l.map fun n=>[dI n]:=by
 have:=zmi (l.map dI);rw [List.length_map,List.map_map] at this;exact this
theorem zzs (l:List Bool):jc 1 (l.map dB) l.length=l.map fun n=>[dB n]:=by
 have:=zmi (l.map dB);rw [List.length_map,List.map_map] at this;exact this
theorem zmx (b n:Nat) (d:D) (l:List Int):SV.shut.shutL b n d (l.map sI)=l.map sI:=by
 induction l with
 |nil=>rfl
 |cons a r ih=>rw [List.map_cons,SV.shut.shutL,ih];rfl
theorem zzt {fn:Func} {rd:Bool} {E:En Tryz.prog G fn rd} {k:List Item} (c:Codex) (S:AM) (inF:List Int) (hE:E.H.length=0) (hh:S.has.length=c.facts.length) (hv:S.vals.length=c.facts.length) (hn:S.nums.length=c.facts.length)
  (h:SW E k [(11,.ptr 3 0)] [zcc c,.mapI .i64 (jp sI []),.mapI .i64 (jp sI []),.cells (yft c S inF),.dead,.dead,.dead]):
  SW E k [(11,.ptr 3 0)] (NVh c S.day (S.has.map sB) (S.vals.map sI) (S.nums.map sI) .dead inF):=by
 refine zbo 3 7 8 inF.length 1 (cs0:=[.imm (zp c.facts),.imm (zp c.lines),.imm (yv c.arts),sI S.day,.osl 4 0 c.facts.length,.osl 5 0 c.facts.length,.osl 6 0 c.facts.length,.vec 8 inF.length,.map 1,.map 2]) (cs:=inF.map sI) (ds:=inF.map dI) rfl rfl rfl (zoz inF) (zpa inF) (by simp) (Nat.le_refl 1) ?_;rw [zgs];refine zto 7 (by rw [hE];exact Nat.zero_le 7) (by show 7<=9;decide) rfl ?_ ?_
 ·have e1:SObj.under 7 (.cells (S.has.map sB))=true:=zgq 7 _
  have e2:SObj.under 7 (.cells (S.vals.map sI))=true:=zae 7 _;have e3:SObj.under 7 (.cells (S.nums.map sI))=true:=zae 7 _;show (true&&(true&&(true&&(true&&(SObj.under 7 (.cells (S.has.map sB))&&(SObj.under 7 (.cells (S.vals.map sI))&&(SObj.under 7 (.cells (S.nums.map sI))&&true)))))))=true;rw [e1,e2,e3];rfl
 refine zkx 4 c.facts.length 1 (cs:=S.has.map sB) (junk:=[]) (ds:=S.has.map dB) (t':=[(11,.ptr 3 0)])
  (H':=[zcc c,.mapI .i64 (jp sI []),.mapI .i64 (jp sI []),.cells [.imm (zp c.facts),.imm (zp c.lines),.imm (yv c.arts),sI S.day,.imm (zbn S.has),.osl 5 0 c.facts.length,.osl 6 0 c.facts.length,.imm (ye inF),.map 1,.map 2],.dead,.cells (S.vals.map sI),.cells (S.nums.map sI)])
  (by rw [List.append_nil];rfl) (ynb _) (ync _) (by simp [hh]) rfl ?_ ?_
 ·rw [<-hh,zzs]
  show _=[zcc c,.mapI .i64 (jp sI []),.mapI .i64 (jp sI []),.cells [.imm (zp c.facts),.imm (zp c.lines),.imm (yv c.arts),sI S.day,.imm (zbn S.has),.osl 5 0 S.has.length,.osl 6 0 S.has.length,.imm (ye inF),.map 1,.map 2],.dead,.cells (S.vals.map sI),.cells (S.nums.map sI)]
  conv=>rhs;rw [<-zmx 4 S.has.length (.isl 1 (S.has.map fun n=>[dB n])) S.vals, <-zmx 4 S.has.length (.isl 1 (S.has.map fun n=>[dB n])) S.nums]
  simp [NVh,SObj.shut,SV.shut,SV.shut.shutL,zcc,hh,zbn,ye,jp]
 refine zkx 5 c.facts.length 1 (cs:=S.vals.map sI) (junk:=[]) (ds:=S.vals.map dI) (t':=[(11,.ptr 3 0)])
  (H':=[zcc c,.mapI .i64 (jp sI []),.mapI .i64 (jp sI []),.cells [.imm (zp c.facts),.imm (zp c.lines),.imm (yv c.arts),sI S.day,.imm (zbn S.has),.imm (ye S.vals),.osl 6 0 c.facts.length,.imm (ye inF),.map 1,.map 2],.dead,.dead,.cells (S.nums.map sI)])
  (by rw [List.append_nil];rfl) (zoz _) (zpa _) (by simp [hv]) rfl ?_ ?_
 ·rw [<-hv,zgs]
  simp [SObj.shut,SV.shut,SV.shut.shutL,zcc,zmx,zbn,ye,jp]
 refine zkx 6 c.facts.length 1 (cs:=S.nums.map sI) (junk:=[]) (ds:=S.nums.map dI) (t':=[(11,.ptr 3 0)]) (H':=_)
  (by rw [List.append_nil];rfl) (zoz _) (zpa _) (by simp [hn]) rfl ?_ h
 rw [<-hn,zgs];simp [SObj.shut,SV.shut,SV.shut.shutL,zcc,zbn,ye,jp,yft]
theorem zro (c : Codex) (l : List Fact) (person : ByteArray) (day known : Int) (hf : c.facts.length <= 1000) (hl : l.length <= 1000000) (hz : c.arts.length <= 1000) :
    SCall Tryz.prog G 67 [c.sv, .imm (yz l), sS person, sI day, sI known] [] (fun r H' => r = .ptr 3 0 /\ H' = [zcc c, .mapI .i64 (jp sI []), .mapI .i64 (jp sI []), .cells (yft c (zax c l person day known) (inA c day known)), .dead, .dead, .dead]) := by
  have hfl : (c.facts.map Decl.cells).length = c.facts.length := by simp
  have hll : (l.map Fact.cells).length = l.length := by simp
  have hal : (c.arts.map Article.cells).length = c.arts.length := by simp
  rw [show c.sv = .agg [.imm (zp c.facts), .imm (zp c.lines), .imm (yv c.arts)] from rfl]
  refine xb Tryz.func67 rfl (by rw [Tryz.ntmps67]; simp) ?_
  intro E hH hK
  (refine zg ?_; conv => whnf)
  refine znn (n := c.facts.length) (zz := sB false) rfl rfl rfl rfl rfl rfl rfl rfl rfl ⟨by decide, rfl⟩ rfl (by rw [<- hfl]) (by rw [<- hfl]) (by omega) ?_
  (refine zc ?_; conv => whnf)
  refine znn (n := c.facts.length) (zz := sI 0) rfl rfl rfl rfl rfl rfl rfl rfl rfl ⟨by decide, rfl⟩ rfl (by rw [<- hfl]) (by rw [<- hfl]) (by omega) ?_
  (refine zc ?_; conv => whnf)
  refine znn (n := c.facts.length) (zz := sI 0) rfl rfl rfl rfl rfl rfl rfl rfl rfl ⟨by decide, rfl⟩ rfl (by rw [<- hfl]) (by rw [<- hfl]) (by omega) ?_
  (refine zc ?_; conv => whnf)
  refine zi [1, 2, 3, 4, 5, 11, 51, 52, 53] ?_
  change SW E _ [(1, .imm (yz l)), (2, sS person), (3, sI day), (4, sI known), (5, .ptr 0 0), (11, .ptr 3 0), (51, .imm (zp c.facts)), (52, sI ((c.facts.map Decl.cells).length : Nat)), (53, sI (0 : Nat))] (NMh c day (zcf [] c.facts.length) (qi [] c.facts.length) (qi [] c.facts.length))
  rw [hfl]
  have hfa : ∀ d : List Decl, (d.map fun x => (zfs l person day known x).1).length = d.length := fun d => by simp
  have hfv : ∀ d : List Decl, (d.map fun x => (zfs l person day known x).2.1).length = d.length := fun d => by simp
  have hfn : ∀ d : List Decl, (d.map fun x => (zfs l person day known x).2.2).length = d.length := fun d => by simp
  refine zr c.facts (fun i (_ : Unit) => [(1, .imm (yz l)), (2, sS person), (3, sI day), (4, sI known), (5, .ptr 0 0), (11, .ptr 3 0), (51, .imm (zp c.facts)), (52, sI (c.facts.length : Nat)), (53, sI (i : Nat))])
    (fun i _ => NMh c day (zcf ((c.facts.take i).map fun x => (zfs l person day known x).1) (c.facts.length - i)) (qi ((c.facts.take i).map fun x => (zfs l person day known x).2.1) (c.facts.length - i)) (qi ((c.facts.take i).map fun x => (zfs l person day known x).2.2) (c.facts.length - i)))
    (fun done rest _ => True) () trivial ?_ ?_
  · rintro _ _
    rw [List.take_length, Nat.sub_self]
    have e1 : zcf (c.facts.map fun x => (zfs l person day known x).1) 0 = (zax c l person day known).has.map sB := by simp [zcf, zax]
    have e2 : qi (c.facts.map fun x => (zfs l person day known x).2.1) 0 = (zax c l person day known).vals.map sI := by simp [qi, zax]
    have e3 : qi (c.facts.map fun x => (zfs l person day known x).2.2) 0 = (zax c l person day known).nums.map sI := by simp [qi, zax]
    rw [e1, e2, e3]
    clear e1 e2 e3 hfa hfv hfn
    have hh : (zax c l person day known).has.length = c.facts.length := by simp [zax]
    have hv : (zax c l person day known).vals.length = c.facts.length := by simp [zax]
    have hn : (zax c l person day known).nums.length = c.facts.length := by simp [zax]
    have hd : (zax c l person day known).day = day := rfl
    generalize zax c l person day known = S at hh hv hn hd hK
    change SW E _ [(1, .imm (yz l)), (2, sS person), (3, sI day), (4, sI known), (5, .ptr 0 0), (11, .ptr 3 0), (51, .imm (zp c.facts)), (52, sI (c.facts.length : Nat)), (53, sI (c.facts.length : Nat))] _
    (refine zg ?_; conv => whnf)
    repeat' ((with_reducible refine way ?_ ?_) <;> (intro h; conv => whnf))
    all_goals try (exfalso; omega)
    refine zi [3, 4, 5, 11, 16, 137, 138, 139] ?_
    change SW E _ [(3, sI day), (4, sI known), (5, .ptr 0 0), (11, .ptr 3 0), (16, .map 7), (137, .imm (yv c.arts)), (138, sI ((c.arts.map Article.cells).length : Nat)), (139, sI (0 : Nat))] (NMh c day (S.has.map sB) (S.vals.map sI) (S.nums.map sI) ++ [.mapI .i64 (jp sI [])])
    rw [hal]
    refine zr c.arts (fun i (_ : List (Int × Int)) => [(3, sI day), (4, sI known), (5, .ptr 0 0), (11, .ptr 3 0), (16, .map 7), (137, .imm (yv c.arts)), (138, sI (c.arts.length : Nat)), (139, sI (i : Nat))])
      (fun _ m => NMh c day (S.has.map sB) (S.vals.map sI) (S.nums.map sI) ++ [.mapI .i64 (jp sI m)])
      (fun done rest m => yqy c day known = (rest.zipIdx done.length).foldl (zbd c day known) m /\ (∀ k v, zy k m = some v -> 0 <= v /\ v < done.length) /\ m.length <= done.length) [] ⟨rfl, (fun k v h => by cases h), Nat.le_refl 0⟩ ?_ ?_
    · rintro m ⟨hm, _, hml⟩
      have hm : yqy c day known = m := hm
      have hin : inA c day known = zce (m.map (·.2)) := by unfold inA; rw [hm]
      rw [hin] at hK
      clear hin hm
      change SW E _ [(3, sI day), (4, sI known), (5, .ptr 0 0), (11, .ptr 3 0), (16, .map 7), (137, .imm (yv c.arts)), (138, sI (c.arts.length : Nat)), (139, sI (c.arts.length : Nat))] (NMh c day (S.has.map sB) (S.vals.map sI) (S.nums.map sI) ++ [.mapI .i64 (jp sI m)])
      refine zmk 3 7 1 (cs := [.imm (zp c.facts), .imm (zp c.lines), .imm (yv c.arts), sI day, .osl 4 0 c.facts.length, .osl 5 0 c.facts.length, .osl 6 0 c.facts.length, zkh, .map 1, .map 2]) rfl rfl ?_
      refine yws (b := 7) (es := jp sI m) rfl ?_
      intro es' clock hes hst
      (refine yb [777, 186] 1000 ?_; conv => whnf)
      repeat' ((with_reducible refine way ?_ ?_) <;> (intro h; conv => whnf))
      all_goals try (exfalso; omega)
      refine ylr rfl rfl rfl rfl rfl rfl ?_
      (refine zc ?_; conv => whnf)
      refine zi [11, 186] ?_
      change SW E _ [(11, .ptr 3 0), (186, .ptr 9 0)] (NVh c day (S.has.map sB) (S.vals.map sI) (S.nums.map sI) (.pin .i64 es' clock) [] ++ [.iter 7 clock [] clock])
      have hes2 : es'.map (·.2.2) = (m.map (·.2)).map sI := by
        have : es'.map (·.2.2) = (es'.map (·.2)).map (·.2) := by rw [List.map_map]; rfl
        rw [this, hes]
        simp [jp]
      have hval : ∀ x ∈ es', ∃ v, x.2.2 = sI v := fun x hx => by
        have h1 : x.2.2 ∈ es'.map (·.2.2) := List.mem_map.2 ⟨x, hx, rfl⟩
        rw [hes2] at h1
        obtain ⟨v, _, hv⟩ := List.mem_map.1 h1
        exact ⟨v, hv.symm⟩
      have hel : es'.length = m.length := by
        have := congrArg List.length hes2
        simpa using this
      refine yx (σ := List Nat × List Int) (fun _ => [(11, .ptr 3 0), (186, .ptr 9 0)]) (fun x => NVh c day (S.has.map sB) (S.vals.map sI) (S.nums.map sI) (.pin .i64 es' clock) x.2 ++ [.iter 7 clock x.1 clock])
        (fun x => (x.2.map sI ++ (zea es' x.1).map (·.2.2)).Perm (es'.map (·.2.2))) (fun x => (zea es' x.1).length) ?_ ([], []) (by simp [yls])
      rintro ⟨seen, vs⟩ hp ih2
      simp only at hp ih2
      have hvl : vs.length <= 1000 := by
        have := hp.length_eq
        simp only [List.length_append, List.length_map] at this
        omega
      change SW E _ [(11, .ptr 3 0), (186, .ptr 9 0)] (NVh c day (S.has.map sB) (S.vals.map sI) (S.nums.map sI) (.pin .i64 es' clock) vs ++ [.iter 7 clock seen clock])
      (refine zg ?_; conv => whnf)
      refine yqp rfl rfl rfl rfl rfl rfl hst (Nat.le_refl _) (fun h0 => ?_) (fun e he => ?_)
      · rw [h0, List.map_nil, List.append_nil, hes2] at hp
        have hp2 : vs.Perm (m.map (·.2)) := by
          have := hp.map unS
          rwa [List.map_map, List.map_map, show (unS ∘ sI) = id from rfl, List.map_id, List.map_id] at this
        have hso := ymu hp2
        refine zan (t' := [(187, .tup [.imm (.val (.bool false))]), (11, .ptr 3 0)]) (H' := NVh c day (S.has.map sB) (S.vals.map sI) (S.nums.map sI) .dead vs) (fun k h => zi [187, 11] (by
          refine ytw 7 ?_
          refine zto 9 (by rw [hH]; exact Nat.zero_le 9) (by show 9 <= 10; decide) rfl ?_ ?_
          · have e1 : SObj.under 9 (.cells (S.has.map sB)) = true := zgq 9 _
            have e2 : SObj.under 9 (.cells (S.vals.map sI)) = true := zae 9 _
            have e3 : SObj.under 9 (.cells (S.nums.map sI)) = true := zae 9 _
            have e4 : SObj.under 9 (.vec 1 (vs.map sI)) = true := zae 9 _
            show (true && (true && (true && (true && (SObj.under 9 (.cells (S.has.map sB)) && (SObj.under 9 (.cells (S.vals.map sI)) && (SObj.under 9 (.cells (S.nums.map sI)) && (true && (SObj.under 9 (.vec 1 (vs.map sI)) && true))))))))) = true
            rw [e1, e2, e3, e4]
            rfl
          · exact h)) ?_
        (refine zc ?_; conv => whnf)
        refine ym rfl rfl rfl rfl rfl rfl ((zud G 8 vs _ rfl (by omega)).mono ?_)
        rintro r9 H9 ⟨rfl, rfl⟩
        refine ⟨by rw [List.length_set]; exact Nat.le_refl _, ?_⟩
        rw [hso]
        have hsl : vs.length = (zce (m.map (·.2))).length := by rw [<- hso]; simp
        refine zan (t' := [(11, .ptr 3 0)]) (H' := [zcc c, .mapI .i64 (jp sI []), .mapI .i64 (jp sI []), .cells (yft c S (zce (m.map (·.2)))), .dead, .dead, .dead]) (fun k h => zi [11] (by
          have := zzt G c S (zce (m.map (·.2))) (by rw [hH]; rfl) hh hv hn h
          rw [hd] at this
          unfold NVh at this
          rw [<- hsl] at this
          exact this)) ?_
        (refine zc ?_; conv => whnf)
        exact hK _ _ ⟨rfl, rfl⟩
      · obtain ⟨v, hv'⟩ := hval e (zyf he)
        have hperm := yho hst.1 he
        have hmem := zyf he
        obtain ⟨e1, f, e3⟩ := e
        simp only at hv' hperm
        subst hv'
        (refine zl [777, 189] 1000 ?_; conv => whnf)
        refine ylu (e := (e1, f, sI v)) rfl rfl rfl rfl rfl rfl hmem ?_
        (refine zl [777, 198] 1000 ?_; conv => whnf)
        refine zcn (b := 8) (n := vs.length) (kk := 1) (cs := vs.map sI) (new := [[dI v]]) rfl rfl rfl rfl rfl rfl rfl rfl rfl rfl ⟨by decide, rfl⟩ rfl (by simp) (Nat.le_refl 1) (Nat.le_refl 1) (by show vs.length + 1 <= _; omega) ?_
        (refine zc ?_; conv => whnf)
        refine (fun (hs : ∀ H2, H2 = NVh c day (S.has.map sB) (S.vals.map sI) (S.nums.map sI) (.pin .i64 es' clock) (vs ++ [v]) ++ [.iter 7 clock (seen ++ [e1]) clock] -> SW E _ _ H2) => hs _ ?_) ?_
        · simp [NVh]
          exact ⟨rfl, rfl⟩
        · rintro _ rfl
          have hpm := hperm.map (·.2.2)
          have hpl := hperm.length_eq
          simp only [List.map_cons, List.length_cons] at hpm hpl
          refine zi [11, 186] (ih2 (seen ++ [e1], vs ++ [v]) ?_ (by simp only; omega))
          rw [List.map_append]
          simp only [List.map_cons, List.map_nil, List.append_assoc, List.cons_append, List.nil_append]
          exact ((List.Perm.refl (vs.map sI)).append hpm.symm).trans hp
    · rintro done a rest m hda hdl ⟨hm, hmr, hml⟩ ih
      rw [List.zipIdx_cons, List.foldl_cons] at hm
      have hai : c.arts[done.length]? = some a := by rw [hda]; simp
      have ih := fun m' (h : zbd c day known m (a, done.length) = m') => ih m' ⟨by rw [hm, h, List.length_append, List.length_singleton], by rw [List.length_append, List.length_singleton, <- h]; exact yil hmr rfl, by rw [List.length_append, List.length_singleton, <- h]; have := yfu c day known m (a, done.length); omega⟩
      obtain ⟨aop, an, au, ad, ap, ak, hma⟩ : ∃ op n u den ps ks, a.amount = .mk op n u den ps ks := by cases h : a.amount; exact ⟨_, _, _, _, _, _, rfl⟩
      have hrx : (c.arts.map Article.cells)[done.length]? = some a.cells := by rw [List.getElem?_map, hai]; rfl
      rw [zhz hma] at hrx
      have hw := zk (n := done.length) (by omega)
      have hu8 : ∀ (m : List (Int × Int)), (NMh c day (S.has.map sB) (S.vals.map sI) (S.nums.map sI) ++ [SObj.mapI .i64 (jp sI m)]).all (SObj.under 8) = true := fun m => by
        rw [List.all_append, zrm (by omega) (zgq 8 _) (zae 8 _) (zae 8 _)]
        simp only [List.all_cons, List.all_nil, zhu]
        rfl
      change SW E _ [(3, sI day), (4, sI known), (5, .ptr 0 0), (11, .ptr 3 0), (16, .map 7), (137, .imm (yv c.arts)), (138, sI (c.arts.length : Nat)), (139, sI (done.length : Nat))] (NMh c day (S.has.map sB) (S.vals.map sI) (S.nums.map sI) ++ [.mapI .i64 (jp sI m)])
      (refine zg ?_; conv => whnf)
      repeat' ((with_reducible refine way ?_ ?_) <;> (intro h; conv => whnf))
      all_goals try (exfalso; omega)
      refine zh (i := done.length) (row := ypl a aop an au ad ap ak) rfl rfl hrx ?_
      by_cases hskip : day < a.lo \/ a.hi <= day \/ known < a.known
      · have ih := ih m (if_pos hskip)
        (refine zl [777, 164] 1000 ?_; conv => whnf)
        repeat' ((with_reducible refine way ?_ ?_) <;> (intro h; conv => whnf))
        all_goals first
          | (rw [hw]
             exact yq [3, 4, 5, 11, 16, 137, 138, 139] 8 (by rw [hH]; exact Nat.zero_le 8) (by show 8 <= 9; decide) (by rfl) (hu8 _) ih)
          | (exfalso; omega)
      · have hst : zbd c day known m (a, done.length) = match zy a.number m with
            | none => zdg a.number (done.length : Int) m
            | some o => match zdj c o with
              | some b => if b.known <= a.known then zdg a.number (done.length : Int) m else m
              | none => m := if_neg hskip
        rw [hst] at ih
        (refine zl [777, 164] 1000 ?_; conv => whnf)
        repeat' ((with_reducible refine way ?_ ?_) <;> (intro h; conv => whnf))
        all_goals try (exfalso; omega)
        generalize hq : zy a.number m = lk at ih
        cases lk with
        | none =>
          have ih := ih _ rfl
          refine zbl (l := m) (v := sI 0) (p := false) sI rfl rfl rfl rfl rfl rfl rfl rfl rfl (by rw [hq]; rfl) (by rw [hq]; rfl) ?_
          (refine zc ?_; conv => whnf)
          refine zt mixed rfl ?_
          (refine zd [] ?_; conv => whnf)
          (refine yb [777, 999] 1000 ?_; conv => whnf)
          · refine zek (l := m) sI (done.length : Int) rfl rfl rfl rfl rfl rfl rfl rfl rfl ?_
            refine (fun (hs : ∀ H2, H2 = NMh c day (S.has.map sB) (S.vals.map sI) (S.nums.map sI) ++ [SObj.mapI .i64 (jp sI (zdg a.number (done.length : Int) m))] ++ [.cells (jj a aop an au ad ap ak)] -> SWr E _ _ _ _ H2) => hs _ rfl) ?_
            rintro _ rfl
            (refine zc ?_; conv => whnf)
            rw [hw]
            exact yq [3, 4, 5, 11, 16, 137, 138, 139] 8 (by rw [hH]; exact Nat.zero_le 8) (by show 8 <= 9; decide) (by rfl) (hu8 _) ih
        | some o =>
          have hor := hmr _ _ hq
          obtain ⟨b, hb⟩ : ∃ b, c.arts[o.toNat]? = some b := ⟨_, List.getElem?_eq_getElem (by omega)⟩
          have hob : zdj c o = some b := by unfold zdj; rw [if_neg (by omega)]; exact hb
          simp only [hob] at ih
          obtain ⟨bop, bn, bu, bd, bp, bk, hmb⟩ : ∃ op n u den ps ks, b.amount = .mk op n u den ps ks := by cases h : b.amount; exact ⟨_, _, _, _, _, _, rfl⟩
          have hrb : (c.arts.map Article.cells)[o.toNat]? = some b.cells := by rw [List.getElem?_map, hb]; rfl
          rw [zhz hmb] at hrb
          refine zbl (l := m) (v := sI o) (p := true) sI rfl rfl rfl rfl rfl rfl rfl rfl rfl (by rw [hq]; rfl) (by rw [hq]; rfl) ?_
          (refine zc ?_; conv => whnf)
          refine zt mixed rfl ?_
          (refine zd [175] ?_; conv => whnf)
          refine yc (i := o.toNat) (row := ypl b bop bn bu bd bp bk) rfl (by omega) hrb ?_
          (refine zd [] ?_; conv => whnf)
          (refine yb [777, 999] 1000 ?_; conv => whnf)
          repeat' ((with_reducible refine way ?_ ?_) <;> (intro h; conv => whnf))
          · have ih := ih _ (if_pos ‹b.known <= a.known›)
            refine zek (l := m) sI (done.length : Int) rfl rfl rfl rfl rfl rfl rfl rfl rfl ?_
            refine (fun (hs : ∀ H2, H2 = NMh c day (S.has.map sB) (S.vals.map sI) (S.nums.map sI) ++ [SObj.mapI .i64 (jp sI (zdg a.number (done.length : Int) m))] ++ [.cells (jj a aop an au ad ap ak)] -> SWr E _ _ _ _ H2) => hs _ rfl) ?_
            rintro _ rfl
            (refine zc ?_; conv => whnf)
            rw [hw]
            exact yq [3, 4, 5, 11, 16, 137, 138, 139] 8 (by rw [hH]; exact Nat.zero_le 8) (by show 8 <= 9; decide) (by rfl) (hu8 _) ih
          · have ih := ih _ (if_neg ‹¬ b.known <= a.known›)
            rw [hw]
            exact yq [3, 4, 5, 11, 16, 137, 138, 139] 8 (by rw [hH]; exact Nat.zero_le 8) (by show 8 <= 9; decide) (by rfl) (hu8 _) ih
  · rintro done d rest _ hda hdl _ ih
    have ih := ih () trivial
    have htk : c.facts.take done.length = done := by rw [hda]; simp
    have htk1 : c.facts.take (done.length + 1) = done ++ [d] := by rw [hda, show done ++ d :: rest = (done ++ [d]) ++ rest by simp, List.take_left' (by simp)]
    rw [htk1, List.map_append, List.map_append, List.map_append] at ih
    rw [htk]
    have ha := hfa done
    have hv := hfv done
    have hn := hfn done
    have hrm : c.facts.length - done.length = (c.facts.length - (done.length + 1)) + 1 := by omega
    rw [hrm, yik, zug, zug]
    generalize c.facts.length - (done.length + 1) = q at ih
    generalize done.map (fun x => (zfs l person day known x).1) = dA at ih ha
    generalize done.map (fun x => (zfs l person day known x).2.1) = dV at ih hv
    generalize done.map (fun x => (zfs l person day known x).2.2) = dN at ih hn
    have hrx : (c.facts.map Decl.cells)[done.length]? = some d.cells := by rw [hda]; simp
    have hw := zk (n := done.length) (by omega)
    (refine zg ?_; conv => whnf)
    repeat' ((with_reducible refine way ?_ ?_) <;> (intro h; conv => whnf))
    all_goals try (exfalso; omega)
    refine zh (i := done.length) (row := d.cells) rfl rfl hrx ?_
    (refine zc ?_; conv => whnf)
    refine zi [1, 2, 3, 4, 5, 11, 12, 13, 51, 52, 53, 58, 59, 60] ?_
    change SW E _ [(1, .imm (yz l)), (2, sS person), (3, sI day), (4, sI known), (5, .ptr 0 0), (11, .ptr 3 0), (12, sI (done.length : Nat)), (13, .ptr 7 0), (51, .imm (zp c.facts)), (52, sI (c.facts.length : Nat)), (53, sI (done.length : Nat)), (58, .imm (yz l)), (59, sI ((l.map Fact.cells).length : Nat)), (60, sI (0 : Nat))] (NMh c day (zcf (dA ++ [false]) q) (qi (dV ++ [0]) q) (qi (dN ++ [0]) q) ++ [.cells [sS d.name, sS d.unit, sI d.role]])
    rw [hll]
    refine zr l (fun j (_ : Bool × Int × Int) => [(1, .imm (yz l)), (2, sS person), (3, sI day), (4, sI known), (5, .ptr 0 0), (11, .ptr 3 0), (12, sI (done.length : Nat)), (13, .ptr 7 0), (51, .imm (zp c.facts)), (52, sI (c.facts.length : Nat)), (53, sI (done.length : Nat)), (58, .imm (yz l)), (59, sI (l.length : Nat)), (60, sI (j : Nat))])
      (fun _ s => NMh c day (zcf (dA ++ [s.1]) q) (qi (dV ++ [s.2.1]) q) (qi (dN ++ [s.2.2]) q) ++ [.cells [sS d.name, sS d.unit, sI d.role]])
      (fun done rest s => zfs l person day known d = (rest.zipIdx done.length).foldl (zlh d person day known) s) (false, 0, 0) rfl ?_ ?_
    · rintro s hs
      have hs : zfs l person day known d = s := hs
      rw [<- hs]
      change SW E _ [(1, .imm (yz l)), (2, sS person), (3, sI day), (4, sI known), (5, .ptr 0 0), (11, .ptr 3 0), (12, sI (done.length : Nat)), (13, .ptr 7 0), (51, .imm (zp c.facts)), (52, sI (c.facts.length : Nat)), (53, sI (done.length : Nat)), (58, .imm (yz l)), (59, sI (l.length : Nat)), (60, sI (l.length : Nat))] _
      (refine zg ?_; conv => whnf)
      repeat' ((with_reducible refine way ?_ ?_) <;> (intro h; conv => whnf))
      all_goals try (exfalso; omega)
      rw [hw]
      refine yq [1, 2, 3, 4, 5, 11, 51, 52, 53] 7 (by rw [hH]; exact Nat.zero_le 7) (by show 7 <= 8; decide) (by rfl) (zrm (Nat.le_refl 7) (zrn 7 _ _) (zgr 7 _ _) (zgr 7 _ _)) ih
    · rintro df f rf ⟨sb, sv, sn⟩ hdf hdlf hs ih2
      rw [List.zipIdx_cons, List.foldl_cons] at hs
      have hrf : (l.map Fact.cells)[df.length]? = some f.cells := by rw [hdf]; simp
      have hwf := zk (n := df.length) (by omega)
      have hu8 : ∀ (A : List Bool) (B C : List Int) (qa qb qc : Nat), (NMh c day (zcf A qa) (qi B qb) (qi C qc) ++ [SObj.cells [sS d.name, sS d.unit, sI d.role]]).all (SObj.under 8) = true := fun A B C qa qb qc => by
        rw [List.all_append, zrm (by omega) (zrn 8 _ _) (zgr 8 _ _) (zgr 8 _ _)]
        rfl
      have ihs : ∀ (s' : Bool × Int × Int), zlh d person day known (sb, sv, sn) (f, df.length) = s' -> SW E _ [(1, .imm (yz l)), (2, sS person), (3, sI day), (4, sI known), (5, .ptr 0 0), (11, .ptr 3 0), (12, sI (done.length : Nat)), (13, .ptr 7 0), (51, .imm (zp c.facts)), (52, sI (c.facts.length : Nat)), (53, sI (done.length : Nat)), (58, .imm (yz l)), (59, sI (l.length : Nat)), (60, sI ((df.length + 1 : Nat)))]
          (NMh c day (zcf (dA ++ [s'.1]) q) (qi (dV ++ [s'.2.1]) q) (qi (dN ++ [s'.2.2]) q) ++ [.cells [sS d.name, sS d.unit, sI d.role]]) := fun s' h => ih2 s' (by rw [hs, h, List.length_append, List.length_singleton])
      clear ih2 hs ih
      change SW E _ [(1, .imm (yz l)), (2, sS person), (3, sI day), (4, sI known), (5, .ptr 0 0), (11, .ptr 3 0), (12, sI (done.length : Nat)), (13, .ptr 7 0), (51, .imm (zp c.facts)), (52, sI (c.facts.length : Nat)), (53, sI (done.length : Nat)), (58, .imm (yz l)), (59, sI (l.length : Nat)), (60, sI (df.length : Nat))] (NMh c day (zcf (dA ++ [sb]) q) (qi (dV ++ [sv]) q) (qi (dN ++ [sn]) q) ++ [.cells [sS d.name, sS d.unit, sI d.role]])
      by_cases hskip : ¬ f.person = person \/ ¬ f.name = d.name \/ day < f.lo \/ f.hi <= day \/ known < f.known
      · have ihs := ihs (sb, sv, sn) (if_pos hskip)
        (refine zg ?_; conv => whnf)
        repeat' ((with_reducible refine way ?_ ?_) <;> (intro h; conv => whnf))
        all_goals try (exfalso; omega)
        refine zh (i := df.length) (row := f.cells) rfl rfl hrf ?_
        (refine zl [777, 116] 1000 ?_; conv => whnf)
        repeat' ((with_reducible refine way ?_ ?_) <;> (intro h; conv => whnf))
        all_goals first
          | (rw [hwf]
             exact yq [1, 2, 3, 4, 5, 11, 12, 13, 51, 52, 53, 58, 59, 60] 8 (by rw [hH]; exact Nat.zero_le 8) (by show 8 <= 9; decide) (by rfl) (hu8 _ _ _ _ _ _) ihs)
          | (exfalso
             rcases hskip with x | x | x | x | x <;> first | exact x (by assumption) | omega)
      · have ihs := ihs _ (if_neg hskip)
        simp only at ihs
        simp only [not_or, Classical.not_not] at hskip
        obtain ⟨g1, g2, g3, g4, g5⟩ := hskip
        (refine zg ?_; conv => whnf)
        repeat' ((with_reducible refine way ?_ ?_) <;> (intro h; conv => whnf))
        all_goals try (exfalso; omega)
        refine zh (i := df.length) (row := f.cells) rfl rfl hrf ?_
        (refine zl [777, 116] 1000 ?_; conv => whnf)
        repeat' ((with_reducible refine way ?_ ?_) <;> (intro h; conv => whnf))
        all_goals try contradiction
        refine zi [1, 2, 3, 4, 5, 11, 12, 13, 14, 15, 51, 52, 53, 58, 59, 60] ?_
        change SW E _ [(1, .imm (yz l)), (2, sS person), (3, sI day), (4, sI known), (5, .ptr 0 0), (11, .ptr 3 0), (12, sI (done.length : Nat)), (13, .ptr 7 0), (14, sI (df.length : Nat)), (15, .ptr 8 0), (51, .imm (zp c.facts)), (52, sI (c.facts.length : Nat)), (53, sI (done.length : Nat)), (58, .imm (yz l)), (59, sI (l.length : Nat)), (60, sI (df.length : Nat))] (NMh c day (zcf (dA ++ [sb]) q) (qi (dV ++ [sv]) q) (qi (dN ++ [sn]) q) ++ [.cells [sS d.name, sS d.unit, sI d.role]] ++ [.cells [sS f.person, sS f.name, sI f.lo, sI f.hi, sI f.known, sI f.value, sB f.gone]])
        (refine wd 0 mixed rfl ?_; refine zq [777, 117] (nx := 9) ?_; conv => whnf)
        generalize f.gone = fg at ihs ⊢
        cases fg
        all_goals (try (conv => whnf))
        repeat' ((with_reducible refine way ?_ ?_) <;> (intro h; conv => whnf))
        · have ihs := ihs
          rw [show (!false && (!decide (d.unit = tT) || decide (f.value = 0) || decide (f.value = 1))) = decide (f.value = 1) by rw [decide_eq_true (show d.unit = tT by assumption), decide_eq_false (show ¬ f.value = 0 by assumption)]; rfl] at ihs
          refine zdh (i := done.length) rfl rfl rfl rfl rfl rfl rfl (show 9 <= 9 by decide) rfl (by omega) ?_
          refine xc (b := 4) (off := 0 + done.length * 1) (v := sB (decide (f.value = 1))) (d := dA.map sB) (zz := sB sb) (r := List.replicate q (sB false)) rfl rfl rfl rfl rfl rfl rfl rfl (show 9 <= 9 by decide) (by rw [<- zao]; rfl) (by rw [List.length_map]; omega) ?_
          refine jr (by kernel_rfl) ?_
          refine (fun (hs : ∀ H2, H2 = NMh c day (zcf (dA ++ [(decide (f.value = 1))]) q) (qi (dV ++ [sv]) q) (qi (dN ++ [sn]) q) ++ [.cells [sS d.name, sS d.unit, sI d.role]] ++ [.cells [sS f.person, sS f.name, sI f.lo, sI f.hi, sI f.known, sI f.value, sB false]] -> SW E _ _ H2) => hs _ (by rw [show zcf (dA ++ [(decide (f.value = 1))]) q = dA.map sB ++ sB (decide (f.value = 1)) :: List.replicate q (sB false) from zao _ _ _]; rfl)) ?_
          rintro _ rfl
          (refine zg ?_; conv => whnf)
          (refine wd 0 mixed rfl ?_; refine zq [777, 131] (nx := 9) ?_; conv => whnf)
          refine zdh (i := done.length) rfl rfl rfl rfl rfl rfl rfl (show 9 <= 9 by decide) rfl (by omega) ?_
          refine xc (b := 5) (off := 0 + done.length * 1) (v := sI f.value) (d := dV.map sI) (zz := sI sv) (r := List.replicate q (sI 0)) rfl rfl rfl rfl rfl rfl rfl rfl (show 9 <= 9 by decide) (by rw [<- xt]; rfl) (by rw [List.length_map]; omega) ?_
          (refine zq [777, 132] (nx := 9) ?_; conv => whnf)
          refine zdh (i := done.length) rfl rfl rfl rfl rfl rfl rfl (show 9 <= 9 by decide) rfl (by omega) ?_
          refine xc (b := 6) (off := 0 + done.length * 1) (v := sI (df.length : Nat)) (d := dN.map sI) (zz := sI sn) (r := List.replicate q (sI 0)) rfl rfl rfl rfl rfl rfl rfl rfl (show 9 <= 9 by decide) (by rw [<- xt dN sn q]; rfl) (by rw [List.length_map]; omega) ?_
          refine jr (by kernel_rfl) ?_
          refine (fun (hs : ∀ H2, H2 = NMh c day (zcf (dA ++ [(decide (f.value = 1))]) q) (qi (dV ++ [f.value]) q) (qi (dN ++ [(df.length : Int)]) q) ++ [.cells [sS d.name, sS d.unit, sI d.role]] ++ [.cells [sS f.person, sS f.name, sI f.lo, sI f.hi, sI f.known, sI f.value, sB false]] -> SW E _ _ H2) => hs _ (by rw [show qi (dV ++ [f.value]) q = dV.map sI ++ sI f.value :: List.replicate q (sI 0) from xt _ _ _, show qi (dN ++ [(df.length : Int)]) q = dN.map sI ++ sI (df.length : Int) :: List.replicate q (sI 0) from xt _ _ _]; rfl)) ?_
          rintro _ rfl
          (refine zg ?_; conv => whnf)
          rw [hwf]
          exact yq [1, 2, 3, 4, 5, 11, 12, 13, 51, 52, 53, 58, 59, 60] 8 (by rw [hH]; exact Nat.zero_le 8) (by show 8 <= 9; decide) (by rfl) (hu8 _ _ _ _ _ _) ihs
        · have ihs := ihs
          rw [show (!false && (!decide (d.unit = tT) || decide (f.value = 0) || decide (f.value = 1))) = true by rw [decide_eq_true (show f.value = 0 by assumption), Bool.or_true]; rfl] at ihs
          refine zdh (i := done.length) rfl rfl rfl rfl rfl rfl rfl (show 9 <= 9 by decide) rfl (by omega) ?_
          refine xc (b := 4) (off := 0 + done.length * 1) (v := sB true) (d := dA.map sB) (zz := sB sb) (r := List.replicate q (sB false)) rfl rfl rfl rfl rfl rfl rfl rfl (show 9 <= 9 by decide) (by rw [<- zao]; rfl) (by rw [List.length_map]; omega) ?_
          refine jr (by kernel_rfl) ?_
          refine (fun (hs : ∀ H2, H2 = NMh c day (zcf (dA ++ [true]) q) (qi (dV ++ [sv]) q) (qi (dN ++ [sn]) q) ++ [.cells [sS d.name, sS d.unit, sI d.role]] ++ [.cells [sS f.person, sS f.name, sI f.lo, sI f.hi, sI f.known, sI f.value, sB false]] -> SW E _ _ H2) => hs _ (by rw [show zcf (dA ++ [true]) q = dA.map sB ++ sB true :: List.replicate q (sB false) from zao _ _ _]; rfl)) ?_
          rintro _ rfl
          (refine zg ?_; conv => whnf)
          (refine wd 0 mixed rfl ?_; refine zq [777, 131] (nx := 9) ?_; conv => whnf)
          refine zdh (i := done.length) rfl rfl rfl rfl rfl rfl rfl (show 9 <= 9 by decide) rfl (by omega) ?_
          refine xc (b := 5) (off := 0 + done.length * 1) (v := sI f.value) (d := dV.map sI) (zz := sI sv) (r := List.replicate q (sI 0)) rfl rfl rfl rfl rfl rfl rfl rfl (show 9 <= 9 by decide) (by rw [<- xt]; rfl) (by rw [List.length_map]; omega) ?_
          (refine zq [777, 132] (nx := 9) ?_; conv => whnf)
          refine zdh (i := done.length) rfl rfl rfl rfl rfl rfl rfl (show 9 <= 9 by decide) rfl (by omega) ?_
          refine xc (b := 6) (off := 0 + done.length * 1) (v := sI (df.length : Nat)) (d := dN.map sI) (zz := sI sn) (r := List.replicate q (sI 0)) rfl rfl rfl rfl rfl rfl rfl rfl (show 9 <= 9 by decide) (by rw [<- xt dN sn q]; rfl) (by rw [List.length_map]; omega) ?_
          refine jr (by kernel_rfl) ?_
          refine (fun (hs : ∀ H2, H2 = NMh c day (zcf (dA ++ [true]) q) (qi (dV ++ [f.value]) q) (qi (dN ++ [(df.length : Int)]) q) ++ [.cells [sS d.name, sS d.unit, sI d.role]] ++ [.cells [sS f.person, sS f.name, sI f.lo, sI f.hi, sI f.known, sI f.value, sB false]] -> SW E _ _ H2) => hs _ (by rw [show qi (dV ++ [f.value]) q = dV.map sI ++ sI f.value :: List.replicate q (sI 0) from xt _ _ _, show qi (dN ++ [(df.length : Int)]) q = dN.map sI ++ sI (df.length : Int) :: List.replicate q (sI 0) from xt _ _ _]; rfl)) ?_
          rintro _ rfl
          (refine zg ?_; conv => whnf)
          rw [hwf]
          exact yq [1, 2, 3, 4, 5, 11, 12, 13, 51, 52, 53, 58, 59, 60] 8 (by rw [hH]; exact Nat.zero_le 8) (by show 8 <= 9; decide) (by rfl) (hu8 _ _ _ _ _ _) ihs
        · have ihs := ihs
          rw [show (!false && (!decide (d.unit = tT) || decide (f.value = 0) || decide (f.value = 1))) = true by rw [decide_eq_false (show ¬ d.unit = tT by assumption)]; rfl] at ihs
          refine zdh (i := done.length) rfl rfl rfl rfl rfl rfl rfl (show 9 <= 9 by decide) rfl (by omega) ?_
          refine xc (b := 4) (off := 0 + done.length * 1) (v := sB true) (d := dA.map sB) (zz := sB sb) (r := List.replicate q (sB false)) rfl rfl rfl rfl rfl rfl rfl rfl (show 9 <= 9 by decide) (by rw [<- zao]; rfl) (by rw [List.length_map]; omega) ?_
          refine jr (by kernel_rfl) ?_
          refine (fun (hs : ∀ H2, H2 = NMh c day (zcf (dA ++ [true]) q) (qi (dV ++ [sv]) q) (qi (dN ++ [sn]) q) ++ [.cells [sS d.name, sS d.unit, sI d.role]] ++ [.cells [sS f.person, sS f.name, sI f.lo, sI f.hi, sI f.known, sI f.value, sB false]] -> SW E _ _ H2) => hs _ (by rw [show zcf (dA ++ [true]) q = dA.map sB ++ sB true :: List.replicate q (sB false) from zao _ _ _]; rfl)) ?_
          rintro _ rfl
          (refine zg ?_; conv => whnf)
          (refine wd 0 mixed rfl ?_; refine zq [777, 131] (nx := 9) ?_; conv => whnf)
          refine zdh (i := done.length) rfl rfl rfl rfl rfl rfl rfl (show 9 <= 9 by decide) rfl (by omega) ?_
          refine xc (b := 5) (off := 0 + done.length * 1) (v := sI f.value) (d := dV.map sI) (zz := sI sv) (r := List.replicate q (sI 0)) rfl rfl rfl rfl rfl rfl rfl rfl (show 9 <= 9 by decide) (by rw [<- xt]; rfl) (by rw [List.length_map]; omega) ?_
          (refine zq [777, 132] (nx := 9) ?_; conv => whnf)
          refine zdh (i := done.length) rfl rfl rfl rfl rfl rfl rfl (show 9 <= 9 by decide) rfl (by omega) ?_
          refine xc (b := 6) (off := 0 + done.length * 1) (v := sI (df.length : Nat)) (d := dN.map sI) (zz := sI sn) (r := List.replicate q (sI 0)) rfl rfl rfl rfl rfl rfl rfl rfl (show 9 <= 9 by decide) (by rw [<- xt dN sn q]; rfl) (by rw [List.length_map]; omega) ?_
          refine jr (by kernel_rfl) ?_
          refine (fun (hs : ∀ H2, H2 = NMh c day (zcf (dA ++ [true]) q) (qi (dV ++ [f.value]) q) (qi (dN ++ [(df.length : Int)]) q) ++ [.cells [sS d.name, sS d.unit, sI d.role]] ++ [.cells [sS f.person, sS f.name, sI f.lo, sI f.hi, sI f.known, sI f.value, sB false]] -> SW E _ _ H2) => hs _ (by rw [show qi (dV ++ [f.value]) q = dV.map sI ++ sI f.value :: List.replicate q (sI 0) from xt _ _ _, show qi (dN ++ [(df.length : Int)]) q = dN.map sI ++ sI (df.length : Int) :: List.replicate q (sI 0) from xt _ _ _]; rfl)) ?_
          rintro _ rfl
          (refine zg ?_; conv => whnf)
          rw [hwf]
          exact yq [1, 2, 3, 4, 5, 11, 12, 13, 51, 52, 53, 58, 59, 60] 8 (by rw [hH]; exact Nat.zero_le 8) (by show 8 <= 9; decide) (by rfl) (hu8 _ _ _ _ _ _) ihs
        · have ihs := ihs
          rw [show (!true && (!decide (d.unit = tT) || decide (f.value = 0) || decide (f.value = 1))) = false from rfl] at ihs
          refine zdh (i := done.length) rfl rfl rfl rfl rfl rfl rfl (show 9 <= 9 by decide) rfl (by omega) ?_
          refine xc (b := 4) (off := 0 + done.length * 1) (v := sB false) (d := dA.map sB) (zz := sB sb) (r := List.replicate q (sB false)) rfl rfl rfl rfl rfl rfl rfl rfl (show 9 <= 9 by decide) (by rw [<- zao]; rfl) (by rw [List.length_map]; omega) ?_
          refine jr (by kernel_rfl) ?_
          refine (fun (hs : ∀ H2, H2 = NMh c day (zcf (dA ++ [false]) q) (qi (dV ++ [sv]) q) (qi (dN ++ [sn]) q) ++ [.cells [sS d.name, sS d.unit, sI d.role]] ++ [.cells [sS f.person, sS f.name, sI f.lo, sI f.hi, sI f.known, sI f.value, sB true]] -> SW E _ _ H2) => hs _ (by rw [show zcf (dA ++ [false]) q = dA.map sB ++ sB false :: List.replicate q (sB false) from zao _ _ _]; rfl)) ?_
          rintro _ rfl
          (refine zg ?_; conv => whnf)
          (refine wd 0 mixed rfl ?_; refine zq [777, 131] (nx := 9) ?_; conv => whnf)
          refine zdh (i := done.length) rfl rfl rfl rfl rfl rfl rfl (show 9 <= 9 by decide) rfl (by omega) ?_
          refine xc (b := 5) (off := 0 + done.length * 1) (v := sI f.value) (d := dV.map sI) (zz := sI sv) (r := List.replicate q (sI 0)) rfl rfl rfl rfl rfl rfl rfl rfl (show 9 <= 9 by decide) (by rw [<- xt]; rfl) (by rw [List.length_map]; omega) ?_
          (refine zq [777, 132] (nx := 9) ?_; conv => whnf)
          refine zdh (i := done.length) rfl rfl rfl rfl rfl rfl rfl (show 9 <= 9 by decide) rfl (by omega) ?_
          refine xc (b := 6) (off := 0 + done.length * 1) (v := sI (df.length : Nat)) (d := dN.map sI) (zz := sI sn) (r := List.replicate q (sI 0)) rfl rfl rfl rfl rfl rfl rfl rfl (show 9 <= 9 by decide) (by rw [<- xt dN sn q]; rfl) (by rw [List.length_map]; omega) ?_
          refine jr (by kernel_rfl) ?_
          refine (fun (hs : ∀ H2, H2 = NMh c day (zcf (dA ++ [false]) q) (qi (dV ++ [f.value]) q) (qi (dN ++ [(df.length : Int)]) q) ++ [.cells [sS d.name, sS d.unit, sI d.role]] ++ [.cells [sS f.person, sS f.name, sI f.lo, sI f.hi, sI f.known, sI f.value, sB true]] -> SW E _ _ H2) => hs _ (by rw [show qi (dV ++ [f.value]) q = dV.map sI ++ sI f.value :: List.replicate q (sI 0) from xt _ _ _, show qi (dN ++ [(df.length : Int)]) q = dN.map sI ++ sI (df.length : Int) :: List.replicate q (sI 0) from xt _ _ _]; rfl)) ?_
          rintro _ rfl
          (refine zg ?_; conv => whnf)
          rw [hwf]
          exact yq [1, 2, 3, 4, 5, 11, 12, 13, 51, 52, 53, 58, 59, 60] 8 (by rw [hH]; exact Nat.zero_le 8) (by show 8 <= 9; decide) (by rfl) (hu8 _ _ _ _ _ _) ihs
variable {G:List (Nat × D)}
structure MFit (c:Codex) (m:List (Int × Int)):Prop where
 arts:c.arts.length<=1000
 fit:∀a∈c.arts,ArtFit a
 amt:∀a∈c.arts,zyw c m a.amount/\xg a.amount<=1000000
 whn:∀a∈c.arts,∀w∈a.when_,zyw c m w/\xg w<=1000000
theorem ysu {c:Codex} {m:List (Int × Int)} {S:AM} (hS:AFit c S) (inF:List Int) (st am:List (Int × Int)) {e:Ex} (he:zyw c m e) (hz:xg e<=1000000):
  SPre Tryz.prog G 107 [.ptr 0 0,e.sv] (MH c S inF st am) (fun r H1=>r= .tup [sI ((zct S am e).getD 0),sB (zct S am e).isSome]/\H1=MH c S inF st am):=
 yfq (by rfl) (jv c S inF st am) (yii hS inF st am _ e (Nat.lt_succ_self _) he hz)
theorem ynd (c:Codex) (S:AM) (inF:List Int) (st am:List (Int × Int)) (a:Article):(MH c S inF st am++[SObj.cells (a.cells.map .imm)]).all (SObj.under 4)=true:=by
 rw [List.all_append,zcp (m:=3) (n:=4) (by omega) (jv c S inF st am)];simp only [List.all_cons,List.all_nil,zis];rfl
def okW (S:AM) (am:List (Int × Int)) (w:Ex):Bool:=(zct S am w).isSome&& !decide ((zct S am w).getD 0=0)
theorem yrm {c : Codex} {m : List (Int × Int)} {S : AM} (hS : AFit c S) (hM : MFit c m) (inF seq : List Int) (hin : ∀ o ∈ inF, 0 <= o /\ o < c.arts.length) (hiz : inF.length <= 1000000) (hsq : ∀ v ∈ seq, 0 <= v /\ v < c.arts.length) (hsz : seq.length <= 1000000) (st am : List (Int × Int)) :
    SPre Tryz.prog G 68 [.ptr 0 0, .imm (ye seq)] (MH c S inF st am) (fun r H1 => r = .tup [] /\ H1 = MH c S inF (seq.foldl (zte c S inF) (st, am)).1 (seq.foldl (zte c S inF) (st, am)).2) := by
  have hal : (c.arts.map Article.cells).length = c.arts.length := by simp
  have hsl : (seq.map fun n => [dI n]).length = seq.length := by simp
  have hil : (inF.map fun n => [dI n]).length = inF.length := by simp
  refine jh Tryz.func68 rfl (by rw [Tryz.ntmps68]; simp) rfl (jv c S inF st am) ?_
  intro E hH hK
  generalize hT : seq.foldl (zte c S inF) (st, am) = T at hK
  have hH3 : E.H.length = 3 := hH
  have fin : E.K (.tup []) (MH c S inF T.1 T.2) := hK _ _ (Nat.le_refl 3) rfl (jv c S inF T.1 T.2) ⟨rfl, rfl⟩
  clear hK hH
  (refine zg ?_; conv => whnf)
  refine zi [0, 16, 17, 18] ?_
  change SW E _ [(0, .ptr 0 0), (16, .imm (ye seq)), (17, sI ((seq.map fun n => [dI n]).length : Nat)), (18, sI (0 : Nat))] (MH c S inF st am)
  rw [hsl]
  refine zr seq (fun i (_ : List (Int × Int) × List (Int × Int)) => [(0, .ptr 0 0), (16, .imm (ye seq)), (17, sI (seq.length : Nat)), (18, sI (i : Nat))]) (fun _ s => MH c S inF s.1 s.2) (fun _ rest s => rest.foldl (zte c S inF) s = T) (st, am) hT ?_ ?_
  · rintro ⟨st, am⟩ hs
    have hs : (st, am) = T := hs
    subst hs
    change SW E _ [(0, .ptr 0 0), (16, .imm (ye seq)), (17, sI (seq.length : Nat)), (18, sI (seq.length : Nat))] (MH c S inF st am)
    (refine zg ?_; conv => whnf)
    repeat' ((with_reducible refine way ?_ ?_) <;> (intro h; conv => whnf))
    all_goals try (exfalso; omega)
    exact fin
  · clear hT st am
    rintro done v rest ⟨st, am⟩ hda hdl hs ih
    rw [List.foldl_cons] at hs
    have hvr := hsq v (by rw [hda]; simp)
    obtain ⟨a, ha⟩ : ∃ a, c.arts[v.toNat]? = some a := ⟨_, List.getElem?_eq_getElem (by omega)⟩
    have ham := List.mem_of_getElem? ha
    have hva : zdj c v = some a := by unfold zdj; rw [if_neg (by omega)]; exact ha
    have hvn : v = (v.toNat : Int) := by omega
    have ih := fun s' (h : zte c S inF (st, am) v = s') => ih s' (by rw [<- h]; exact hs)
    have zcd : zte c S inF (st, am) v = (if v ∈ inF then
      if ymm S am a = true then
        (inF.foldl (zgn c a v) (zdg v 2 (zdg v 0 st)), if (zy v (inF.foldl (zgn c a v) (zdg v 2 (zdg v 0 st)))).getD 0 = 2 then zdg a.number ((zct S am a.amount).getD 0) am else am)
      else (zdg v 0 st, am) else (st, am)) := by unfold zte; rw [hva]
    rw [zcd] at ih
    clear zcd hs
    have hrs : (seq.map fun n => [dI n])[done.length]? = some [dI v] := by rw [hda]; simp
    have hw := zk (n := done.length) (by omega)
    have hcon := zkf G inF v (by omega)
    change SW E _ [(0, .ptr 0 0), (16, .imm (ye seq)), (17, sI (seq.length : Nat)), (18, sI (done.length : Nat))] (MH c S inF st am)
    (refine zg ?_; conv => whnf)
    repeat' ((with_reducible refine way ?_ ?_) <;> (intro h; conv => whnf))
    all_goals try (exfalso; omega)
    refine zh (i := done.length) (row := [dI v]) rfl rfl hrs ?_
    (refine zc ?_; conv => whnf)
    refine ze rfl  hcon ?_
    by_cases hvin : v ∈ inF
    case neg =>
      rw [if_neg hvin] at ih
      rw [decide_eq_false hvin]
      have ih := ih _ rfl
      (refine zc ?_; conv => whnf)
      rw [hw]
      exact zi [0, 16, 17, 18] ih
    rw [if_pos hvin] at ih
    rw [decide_eq_true hvin]
    obtain ⟨aop, an, au, ad, ap, ak, hma⟩ : ∃ op n u den ps ks, a.amount = .mk op n u den ps ks := by cases h : a.amount; exact ⟨_, _, _, _, _, _, rfl⟩
    have hrx : (c.arts.map Article.cells)[v.toNat]? = some a.cells := by rw [List.getElem?_map, ha]; rfl
    rw [zhz hma] at hrx
    (refine zl [777, 35] 1000 ?_; conv => whnf)
    refine zh (i := v.toNat) (row := ypl a aop an au ad ap ak) rfl hvn hrx ?_
    have hbx : a.cells.map SV.imm = jj a aop an au ad ap ak := zez hma
    have hbu := fun st am => ynd c S inF st am a
    rw [hbx] at hbu
    (refine zl [777, 37] 1000 ?_; conv => whnf)
    (refine zl [777, 999] 1000 ?_; conv => whnf)
    refine zek (l := st) sI 0 rfl rfl rfl rfl rfl rfl rfl rfl rfl ?_
    refine (fun (hs : ∀ H2, H2 = MH c S inF (zdg v 0 st) am ++ [SObj.cells (jj a aop an au ad ap ak)] -> SWr E _ _ _ _ H2) => hs _ rfl) ?_
    rintro _ rfl
    generalize zdg v 0 st = st1 at ih
    have hamt := ysu (G := G) hS inF st1 am (hM.amt a ham).1 (hM.amt a ham).2
    have hho : ymm S am a = ((zct S am a.amount).isSome && a.when_.all (okW S am)) := rfl
    rw [hma] at hamt
    rw [hho] at ih
    clear hho
    rw [hma] at ih
    generalize zct S am (.mk aop an au ad ap ak) = amt at hamt ih
    (refine zc ?_; conv => whnf)
    refine zbu 3 rfl rfl rfl rfl rfl rfl hamt ?_
    rintro r9 H9 ⟨rfl, rfl⟩ _
    refine (fun (hs : ∀ H2, H2 = MH c S inF st1 am ++ [SObj.cells (jj a aop an au ad ap ak)] -> SWr E _ _ _ _ H2) => hs _ rfl) ?_
    rintro _ rfl
    have hwl : (a.when_.map Ex.cells).length = a.when_.length := by simp
    have hwz := (hM.fit a ham).len
    (refine zc ?_; conv => whnf)
    refine zi [0, 5, 6, 7, 8, 16, 17, 18, 50, 51, 52] ?_
    change SW E _ [(0, .ptr 0 0), (5, sI v), (6, .ptr 3 0), (7, sI (amt.getD 0)), (8, sB amt.isSome), (16, .imm (ye seq)), (17, sI (seq.length : Nat)), (18, sI (done.length : Nat)), (50, .imm (qp a.when_)), (51, sI ((a.when_.map Ex.cells).length : Nat)), (52, sI (0 : Nat))] (MH c S inF st1 am ++ [SObj.cells (jj a aop an au ad ap ak)])
    rw [hwl]
    refine zr a.when_ (fun i (b : Bool) => [(0, .ptr 0 0), (5, sI v), (6, .ptr 3 0), (7, sI (amt.getD 0)), (8, sB b), (16, .imm (ye seq)), (17, sI (seq.length : Nat)), (18, sI (done.length : Nat)), (50, .imm (qp a.when_)), (51, sI (a.when_.length : Nat)), (52, sI (i : Nat))]) (fun _ _ => MH c S inF st1 am ++ [SObj.cells (jj a aop an au ad ap ak)])
      (fun _ rest b => (amt.isSome && a.when_.all (okW S am)) = (b && rest.all (okW S am))) amt.isSome rfl ?_ ?_
    · rintro b hb
      have hb : (amt.isSome && a.when_.all (okW S am)) = b := by rw [hb]; exact Bool.and_true b
      rw [hb] at ih
      cases b with
      | false =>
        have ih := ih (st1, am) rfl
        (refine zg ?_; conv => whnf)
        repeat' ((with_reducible refine way ?_ ?_) <;> (intro h; conv => whnf))
        all_goals try (exfalso; omega)
        rw [hw]
        exact yq [0, 16, 17, 18] 3 (by rw [hH3]; exact Nat.le_refl 3) (by show 3 <= 4; decide) (by rfl) (jv c S inF st1 am) ih
      | true =>
        rw [if_pos rfl] at ih
        have hlk : ∀ (k : Int) (q : List (Int × Int)), ((zy k q).map sI).getD (jm (.int .i64 0)) = sI ((zy k q).getD 0) := fun k q => by cases zy k q <;> rfl
        clear hb
        change SW E _ [(0, .ptr 0 0), (5, sI v), (6, .ptr 3 0), (7, sI (amt.getD 0)), (8, sB true), (16, .imm (ye seq)), (17, sI (seq.length : Nat)), (18, sI (done.length : Nat)), (50, .imm (qp a.when_)), (51, sI (a.when_.length : Nat)), (52, sI (a.when_.length : Nat))] (MH c S inF st1 am ++ [SObj.cells (jj a aop an au ad ap ak)])
        (refine yb [777, 73] 1000 ?_; conv => whnf)
        repeat' ((with_reducible refine way ?_ ?_) <;> (intro h; conv => whnf))
        all_goals try (exfalso; omega)
        (refine zl [777, 999] 1000 ?_; conv => whnf)
        refine zek (l := st1) sI 2 rfl rfl rfl rfl rfl rfl rfl rfl rfl ?_
        refine (fun (hs : ∀ H2, H2 = MH c S inF (zdg v 2 st1) am ++ [SObj.cells (jj a aop an au ad ap ak)] -> SWr E _ _ _ _ H2) => hs _ rfl) ?_
        rintro _ rfl
        generalize zdg v 2 st1 = st2 at ih
        (refine zc ?_; conv => whnf)
        refine zi [0, 5, 6, 7, 16, 17, 18, 81, 82, 83] ?_
        change SW E _ [(0, .ptr 0 0), (5, sI v), (6, .ptr 3 0), (7, sI (amt.getD 0)), (16, .imm (ye seq)), (17, sI (seq.length : Nat)), (18, sI (done.length : Nat)), (81, .imm (ye inF)), (82, sI ((inF.map fun n => [dI n]).length : Nat)), (83, sI (0 : Nat))] (MH c S inF st2 am ++ [SObj.cells (jj a aop an au ad ap ak)])
        rw [hil]
        refine zr inF (fun i (_ : List (Int × Int)) => [(0, .ptr 0 0), (5, sI v), (6, .ptr 3 0), (7, sI (amt.getD 0)), (16, .imm (ye seq)), (17, sI (seq.length : Nat)), (18, sI (done.length : Nat)), (81, .imm (ye inF)), (82, sI (inF.length : Nat)), (83, sI (i : Nat))]) (fun _ q => MH c S inF q am ++ [SObj.cells (jj a aop an au ad ap ak)])
          (fun _ rest q => inF.foldl (zgn c a v) st2 = rest.foldl (zgn c a v) q) st2 rfl ?_ ?_
        · rintro st3 h3
          have h3 : inF.foldl (zgn c a v) st2 = st3 := h3
          rw [h3] at ih
          clear h3
          have hlv := hlk v st3
          generalize (zy v st3).getD 0 = x at hlv ih
          (refine yb [777, 130] 1000 ?_; conv => whnf)
          repeat' ((with_reducible refine way ?_ ?_) <;> (intro h; conv => whnf))
          all_goals try (exfalso; omega)
          refine zkw (l := st3) (v := sI x) sI rfl rfl rfl rfl rfl rfl rfl rfl rfl hlv ?_
          (refine zc ?_; conv => whnf)
          repeat' ((with_reducible refine way ?_ ?_) <;> (intro h; conv => whnf))
          · rw [if_pos ‹x = 2›] at ih
            have ih := ih _ rfl
            refine zi [0, 6, 7, 16, 17, 18] ?_
            change SW E _ [(0, .ptr 0 0), (6, .ptr 3 0), (7, sI (amt.getD 0)), (16, .imm (ye seq)), (17, sI (seq.length : Nat)), (18, sI (done.length : Nat))] (MH c S inF st3 am ++ [SObj.cells (jj a aop an au ad ap ak)])
            (refine wd 0 mixed rfl ?_; refine zq [777, 999] (nx := 4) ?_; conv => whnf)
            refine yqn (l := am) sI (amt.getD 0) rfl rfl rfl rfl rfl rfl rfl rfl (show 4 <= 4 by decide) rfl ?_
            refine jr (by kernel_rfl) ?_
            refine (fun (hs : ∀ H2, H2 = MH c S inF st3 (zdg a.number (amt.getD 0) am) ++ [SObj.cells (jj a aop an au ad ap ak)] -> SW E _ _ H2) => hs _ rfl) ?_
            rintro _ rfl
            (refine zg ?_; conv => whnf)
            rw [hw]
            exact yq [0, 16, 17, 18] 3 (by rw [hH3]; exact Nat.le_refl 3) (by show 3 <= 4; decide) (by rfl) (jv c S inF st3 _) ih
          · rw [if_neg ‹¬ x = 2›] at ih
            have ih := ih _ rfl
            rw [hw]
            exact yq [0, 16, 17, 18] 3 (by rw [hH3]; exact Nat.le_refl 3) (by show 3 <= 4; decide) (by rfl) (jv c S inF st3 _) ih
        · clear ih
          rintro di o ri q hdi hdli hq ih3
          rw [List.foldl_cons] at hq
          have hor := hin o (by rw [hdi]; simp)
          obtain ⟨b, hb⟩ : ∃ b, c.arts[o.toNat]? = some b := ⟨_, List.getElem?_eq_getElem (by omega)⟩
          have hbm := List.mem_of_getElem? hb
          have hob : zdj c o = some b := by unfold zdj; rw [if_neg (by omega)]; exact hb
          have hon : o = (o.toNat : Int) := by omega
          have ih3 := fun q' (h : zgn c a v q o = q') => ih3 q' (by rw [<- h]; exact hq)
          have hst : zgn c a v q o = if (zy o q).getD 0 = 2 /\ ¬ o = v /\ (decide (b.number ∈ a.unless_) || zwf b a) = true then zdg v 1 q else q := by
            unfold zgn ywz
            rw [hob]
          rw [hst] at ih3
          clear hst hq
          have hw3 := zk (n := di.length) (by omega)
          have hri : (inF.map fun n => [dI n])[di.length]? = some [dI o] := by rw [hdi]; simp
          have c1 := zkf G a.unless_ b.number (by have := (hM.fit a ham).uls; omega)
          have c2 := zre G b a (hM.fit b hbm) (hM.fit a ham)
          obtain ⟨bop, bn, bu, bd, bp, bk, hmb⟩ : ∃ op n u den ps ks, b.amount = .mk op n u den ps ks := by cases h : b.amount; exact ⟨_, _, _, _, _, _, rfl⟩
          have hrb : (c.arts.map Article.cells)[o.toNat]? = some b.cells := by rw [List.getElem?_map, hb]; rfl
          rw [zhz hmb] at hrb
          rw [zoy hma, zoy hmb] at c2
          generalize decide (b.number ∈ a.unless_) = z1 at c1 ih3
          generalize zwf b a = z2 at c2 ih3
          have hlv := hlk o q
          generalize (zy o q).getD 0 = x at hlv ih3
          change SW E _ [(0, .ptr 0 0), (5, sI v), (6, .ptr 3 0), (7, sI (amt.getD 0)), (16, .imm (ye seq)), (17, sI (seq.length : Nat)), (18, sI (done.length : Nat)), (81, .imm (ye inF)), (82, sI (inF.length : Nat)), (83, sI (di.length : Nat))] (MH c S inF q am ++ [SObj.cells (jj a aop an au ad ap ak)])
          (refine zg ?_; conv => whnf)
          repeat' ((with_reducible refine way ?_ ?_) <;> (intro h; conv => whnf))
          all_goals try (exfalso; omega)
          refine zh (i := di.length) (row := [dI o]) rfl rfl hri ?_
          (refine zl [777, 93] 1000 ?_; conv => whnf)
          refine zh (i := o.toNat) (row := ypl b bop bn bu bd bp bk) rfl hon hrb ?_
          (refine zl [777, 100] 1000 ?_; conv => whnf)
          refine zkw (l := q) (v := sI x) sI rfl rfl rfl rfl rfl rfl rfl rfl rfl hlv ?_
          (refine zl [777, 112] 1000 ?_; conv => whnf)
          repeat' ((with_reducible refine way ?_ ?_) <;> (intro h; conv => whnf))
          · refine ze rfl  c1 ?_
            cases z1 with
            | true =>
              have ih3 := ih3 _ (if_pos ⟨‹x = 2›, ‹¬ o = v›, rfl⟩)
              (refine zl [777, 119] 1000 ?_; conv => whnf)
              (refine zl [777, 999] 1000 ?_; conv => whnf)
              refine zek (l := q) sI 1 rfl rfl rfl rfl rfl rfl rfl rfl rfl ?_
              refine (fun (hs : ∀ H2, H2 = MH c S inF (zdg v 1 q) am ++ [SObj.cells (jj a aop an au ad ap ak)] ++ [SObj.cells (jj b bop bn bu bd bp bk)] -> SWr E _ _ _ _ H2) => hs _ rfl) ?_
              rintro _ rfl
              (refine zc ?_; conv => whnf)
              rw [hw3]
              exact yq [0, 5, 6, 7, 16, 17, 18, 81, 82, 83] 4 (by rw [hH3]; decide) (by show 4 <= 5; decide) (by rfl) (hbu _ am) ih3
            | false =>
            (refine zc ?_; conv => whnf)
            refine ze rfl  c2 ?_
            cases z2 with
            | true =>
              have ih3 := ih3 _ (if_pos ⟨‹x = 2›, ‹¬ o = v›, rfl⟩)
              (refine zl [777, 119] 1000 ?_; conv => whnf)
              (refine zl [777, 999] 1000 ?_; conv => whnf)
              refine zek (l := q) sI 1 rfl rfl rfl rfl rfl rfl rfl rfl rfl ?_
              refine (fun (hs : ∀ H2, H2 = MH c S inF (zdg v 1 q) am ++ [SObj.cells (jj a aop an au ad ap ak)] ++ [SObj.cells (jj b bop bn bu bd bp bk)] -> SWr E _ _ _ _ H2) => hs _ rfl) ?_
              rintro _ rfl
              (refine zc ?_; conv => whnf)
              rw [hw3]
              exact yq [0, 5, 6, 7, 16, 17, 18, 81, 82, 83] 4 (by rw [hH3]; decide) (by show 4 <= 5; decide) (by rfl) (hbu _ am) ih3
            | false =>
              have ih3 := ih3 _ (if_neg (fun x => by cases x.2.2))
              (refine zc ?_; conv => whnf)
              rw [hw3]
              exact yq [0, 5, 6, 7, 16, 17, 18, 81, 82, 83] 4 (by rw [hH3]; decide) (by show 4 <= 5; decide) (by rfl) (hbu _ am) ih3
          · have ih3 := ih3 _ (if_neg (fun x => x.2.1 ‹o = v›))
            rw [hw3]
            exact yq [0, 5, 6, 7, 16, 17, 18, 81, 82, 83] 4 (by rw [hH3]; decide) (by show 4 <= 5; decide) (by rfl) (hbu _ am) ih3
          · have ih3 := ih3 _ (if_neg (fun y => absurd y.1 ‹¬ x = 2›))
            rw [hw3]
            exact yq [0, 5, 6, 7, 16, 17, 18, 81, 82, 83] 4 (by rw [hH3]; decide) (by show 4 <= 5; decide) (by rfl) (hbu _ am) ih3
    · rintro dw w rw_ b hdw hdlw hb ih2
      have hw2 := zk (n := dw.length) (by omega)
      have hwm : w ∈ a.when_ := by rw [hdw]; simp
      have htw := ysu (G := G) hS inF st1 am (hM.whn a ham w hwm).1 (hM.whn a ham w hwm).2
      have hb : (amt.isSome && a.when_.all (okW S am)) = ((b && ((zct S am w).isSome && !decide ((zct S am w).getD 0 = 0))) && rw_.all (okW S am)) := by
        rw [hb, List.all_cons]
        cases b <;> rfl
      have hrw : (a.when_.map Ex.cells)[dw.length]? = some w.cells := by rw [hdw]; simp
      have ih2 := fun b' (h : (b && ((zct S am w).isSome && !decide ((zct S am w).getD 0 = 0))) = b') => ih2 b' (by rw [<- h]; exact hb)
      clear hb
      obtain ⟨xo, xn, xu, xd, xp, xk⟩ := w
      generalize zct S am (Ex.mk xo xn xu xd xp xk) = vx at htw ih2
      (refine zg ?_; conv => whnf)
      repeat' ((with_reducible refine way ?_ ?_) <;> (intro h; conv => whnf))
      all_goals try (exfalso; omega)
      refine zh (i := dw.length) (row := (Ex.mk xo xn xu xd xp xk).cells) rfl rfl hrw ?_
      (refine zc ?_; conv => whnf)
      refine zbu 3 rfl rfl rfl rfl rfl rfl htw ?_
      rintro r9 H9 ⟨rfl, rfl⟩ _
      cases b with
      | false =>
        have ih2 := ih2 false rfl
        (refine zc ?_; conv => whnf)
        rw [hw2]
        exact yq [0, 5, 6, 7, 8, 16, 17, 18, 50, 51, 52] 4 (by rw [hH3]; decide) (by show 4 <= 5; decide) (by rfl) (hbu st1 am) ih2
      | true =>
        cases vx with
        | none =>
          have ih2 := ih2 false rfl
          (refine zc ?_; conv => whnf)
          rw [hw2]
          exact yq [0, 5, 6, 7, 8, 16, 17, 18, 50, 51, 52] 4 (by rw [hH3]; decide) (by show 4 <= 5; decide) (by rfl) (hbu st1 am) ih2
        | some z =>
          have ih2 := ih2 (!decide (z = 0)) rfl
          (refine zc ?_; conv => whnf)
          rw [hw2]
          exact yq [0, 5, 6, 7, 8, 16, 17, 18, 50, 51, 52] 4 (by rw [hH3]; decide) (by show 4 <= 5; decide) (by rfl) (hbu st1 am) ih2
theorem zzu (σ:Nat->Nat) (l:List Bool):(SObj.cells (l.map sB)).ren σ= .cells (l.map sB):=by
 simp only [SObj.ren,zew,List.map_map];rfl
theorem yne {c:Codex} {m:List (Int × Int)} {e:Ex} (he:zyw c m e) (hz:xg e<=1000000) {used:List Bool} (hul:used.length=c.facts.length) {H:List SObj} {b:Nat} (hb:H[b]?=some (.cells (used.map sB))):
  SCall Tryz.prog G 109 [e.sv,.osl b 0 used.length] H (fun r H'=>r= .tup []/\H'=H.set b (.cells ((zay e used).map sB))):=by
 have hbl:=lt_of_getElem? hb;have hs:=ymz G _ e (Nat.lt_succ_self _) he hz used hul [];rw [List.append_nil] at hs;have her:∀σ,e.sv.ren σ=e.sv:=fun σ=>by cases e;rfl
 have hlen1:(bH used).length=1:=rfl;have:=zqn (K':=fun r H'=>r= .tup []/\H'=H.set b (.cells ((zay e used).map sB))) hs (H:=H) (fun i=>if i=0 then b else H.length+(i-1)) ?_ ?_ ?_ ?_ (zll used) ?_
 ·have e1:([e.sv,.osl 0 0 used.length]:List SV).map (SV.ren (fun i=>if i=0 then b else H.length+(i-1)))=[e.sv,.osl b 0 used.length]:=by
   simp only [List.map_cons,List.map_nil,her];rfl
  rw [e1] at this;exact this
 ·intro i j hi hj _
  rw [hlen1] at hi hj;omega
 ·intro i
  simp only [hlen1];rw [if_neg (by omega)];omega
 ·intro i o hi
  match i,hi with
  |0,hi=>
   injection hi with hi
   subst hi;rw [zzu];exact hb
  |i+1,hi=>simp [bH] at hi
 ·have heu:e.sv.under 1=true:=by cases e;rfl
  simp only [List.all_cons,List.all_nil,hlen1,heu];rfl
 ·rintro r H1 H' ⟨H2,⟨rfl,rfl⟩,hl2,rfl⟩ hlen hl3 hsame hother
  refine ⟨rfl,?_⟩;rw [List.append_nil] at hl3 hsame hlen;have hl4:H'.length=H.length:=by
   have:(bH (zay e used)).length=1:=rfl;rw [this,hlen1] at hl3;omega
  apply List.ext_getElem?
  intro i
  by_cases hi:i=b
  ·subst hi
   rw [List.getElem?_set_self hbl];have:=hsame 0 _ rfl;rw [zzu] at this;exact this
  ·rw [List.getElem?_set_ne (fun h=>hi h.symm)]
   rcases Nat.lt_or_ge i H.length with hlt|hge
   ·refine hother i hlt (fun j hj h=>?_)
    rw [hlen1] at hj;have:j=0:=by omega
    subst this;exact hi h.symm
   ·rw [List.getElem?_eq_none (by omega),List.getElem?_eq_none hge]
def Ln.sv (x:Ln):SV:=.agg [sI x.day,sI x.line,sI x.art,sI x.amount,.imm (ye x.facts),.imm (ye x.rests)]
def lnC (x:Ln):List SV:=[sI x.day,sI x.line,sI x.art,sI x.amount,.imm (ye x.facts),.imm (ye x.rests)]
def LH (c:Codex) (S:AM) (inF:List Int) (st am:List (Int × Int)) (B x:List SV) (U:List Bool):List SObj:=
 MH c S inF st am++[.cells [sI 0,sI 0,sI 0,sI 0,zkh,zkh]]++[.cells B]++[.cells x]++[.cells (U.map sB)]
theorem zpb {c:Codex} {S:AM} {inF:List Int} {st am:List (Int × Int)} {B x:List SV} {U:List Bool} {N:Nat} (hN:7<=N) (hB:SV.under.allUnder N B=true) (hx:SV.under.allUnder N x=true):(LH c S inF st am B x U).all (SObj.under N)=true:=by
 have e1:SObj.under N (.cells B)=true:=hB;have e2:SObj.under N (.cells x)=true:=hx;have e3:SObj.under N (.cells (U.map sB))=true:=zgq N U;have e4:SObj.under N (.cells [sI 0,sI 0,sI 0,sI 0,zkh,zkh])=true:=rfl;rw [LH,List.all_append,List.all_append,List.all_append,List.all_append,zcp (m:=3) (n:=N) (by omega) (jv c S inF st am)];simp only [List.all_cons,List.all_nil,e1,e2,e3,e4];rfl
def zoh (S:AM) (U:List Bool) (n:Nat):List Int:=((List.range n).filter fun i=>U.getD i false&&S.has.getD i false).map fun i=>S.nums.getD i 0
theorem yim (S:AM) (U:List Bool) (n:Nat):zoh S U (n+1)=zoh S U n++if (U.getD n false&&S.has.getD n false)=true then [S.nums.getD n 0] else []:=by
 unfold zoh;rw [List.range_succ,List.filter_append,List.map_append]
 by_cases h:(U.getD n false&&S.has.getD n false)=true
 ·rw [if_pos h]
  simp only [List.filter_cons,h,if_true,List.filter_nil,List.map_cons,List.map_nil]
 ·rw [if_neg h]
  simp only [List.filter_cons,h,List.filter_nil,List.map_nil];rfl
theorem zrp (S:AM) (U:List Bool) (n:Nat):(zoh S U n).length<=n:=by
 unfold zoh;have:=List.length_filter_le (fun i=>U.getD i false&&S.has.getD i false) (List.range n);simp only [List.length_map,List.length_range] at this ⊢;exact this
theorem ynf {c:Codex} {m:List (Int × Int)} {S:AM} (hS:AFit c S) (hM:MFit c m) (inF:List Int) (hin:∀o∈inF,0<=o/\o<c.arts.length) (hiz:inF.length<=1000000) (st am:List (Int × Int)) {v:Int} {a:Article} (hv:0<=v) (ha:c.arts[v.toNat]?=some a):
  SPre Tryz.prog G 69 [.ptr 0 0,sI v] (MH c S inF st am) (fun r H1=>r= .agg (lnC (zra c S inF (st,am) v a))/\H1=MH c S inF st am):=by
 have hil:(inF.map fun n=>[dI n]).length=inF.length:=by simp
 have hwl:(a.when_.map Ex.cells).length=a.when_.length:=by simp
 have hhl:(S.has.map fun b=>[dB b]).length=S.has.length:=by simp
 have ham:=List.mem_of_getElem? ha;have hvl:=lt_of_getElem? ha;have hvn:v=(v.toNat:Int):=by omega
 have hwz:=(hM.fit a ham).len;refine jh Tryz.func69 rfl (by rw [Tryz.ntmps69];simp) rfl (jv c S inF st am) ?_;intro E hH hK;have hH3:E.H.length=3:=hH;have fin:∀X,E.K (.agg (lnC (zra c S inF (st,am) v a))) (MH c S inF st am++X):=fun X=>hK _ _ (by show 3<=(MH c S inF st am++X).length;rw [List.length_append];show 3<=3+X.length;omega) rfl (jv c S inF st am) ⟨rfl,rfl⟩
 clear hK hH;obtain ⟨aop,an,au,ad,ap,ak,hma⟩:∃op n u den ps ks,a.amount= .mk op n u den ps ks:=by cases h:a.amount;exact ⟨_,_,_,_,_,_,rfl⟩
 have hrx:(c.arts.map Article.cells)[v.toNat]?=some a.cells:=by rw [List.getElem?_map,ha];rfl
 rw [zhz hma] at hrx;have hlk:∀(k:Int) (q:List (Int × Int)),((zy k q).map sI).getD (jm (.int .i64 0))=sI ((zy k q).getD 0):=fun k q=>by cases zy k q<;>rfl
 (refine yb [777,24] 1000 ?_;conv=>whnf);refine zh (i:=v.toNat) (row:=ypl a aop an au ad ap ak) rfl hvn hrx ?_;(refine zc ?_;conv=>whnf);refine zi [0,1,4,5] ?_;change SW E _ [(0,.ptr 0 0),(1,sI v),(4,.ptr 3 0),(5,.ptr 4 0)] (MH c S inF st am++[.cells [sI 0,sI 0,sI 0,sI 0,zkh,zkh]]++[.cells (jj a aop an au ad ap ak)]);(refine wd 1 mixed rfl ?_;refine zq [777,39] (nx:=5) ?_;conv=>whnf);have hla:=hlk a.number am;refine yms (l:=am) (v:=sI ((zy a.number am).getD 0)) sI rfl rfl rfl rfl rfl rfl rfl rfl (show 5<=6 by decide) rfl hla ?_;(refine zq [777] (nx:=5) ?_;conv=>whnf);(refine zg ?_;conv=>whnf);refine znn (n:=S.has.length) (zz:=sB false) rfl rfl rfl rfl rfl rfl rfl rfl rfl ⟨by decide,rfl⟩ rfl (by rw [<-hhl]) (by rw [<-hhl]) (by have:=hS.has;have:=hS.few;omega) ?_;have hBu:∀N,SV.under.allUnder N (jj a aop an au ad ap ak)=true:=fun N=>by
  have:=zis a N;rw [zez hma] at this;exact this
 have hnf:=hS.has;have hnz:=hS.few;generalize hX:[sI S.day,sI a.line,sI v,sI ((zy a.number am).getD 0),zkh,zkh]=X0;have hXu:∀N,SV.under.allUnder N X0=true:=fun N=>by rw [<-hX];rfl
 refine (fun (hs:∀H2,H2=LH c S inF st am (jj a aop an au ad ap ak) X0 (List.replicate S.has.length false)->SWr E _ _ _ _ H2)=>hs _ (by rw [LH,List.map_replicate, <-hX];rfl)) ?_;rintro _ rfl;(refine zc ?_;conv=>whnf);have hua:zke c a=zft a.when_ (zay a.amount (List.replicate S.has.length false)):=by unfold zke;rw [hnf]
 have hul:(List.replicate S.has.length false).length=S.has.length:=by simp
 generalize List.replicate S.has.length false=U0 at hua hul;have hmk:=yne (G:=G) (hM.amt a ham).1 (hM.amt a ham).2 (used:=U0) (by omega) (H:=LH c S inF st am (jj a aop an au ad ap ak) X0 U0) (b:=6) rfl;have hul1:(zay a.amount U0).length=S.has.length:=by rw [(zfv _).1 a.amount (Nat.lt_succ_self _) U0];exact hul
 rw [hul] at hmk;generalize zay a.amount U0=U1 at hmk hua hul1;rw [hma] at hmk;refine ym rfl rfl rfl rfl rfl rfl (hmk.mono ?_);rintro r9 H9 ⟨rfl,rfl⟩;refine ⟨by rw [List.length_set];exact Nat.le_refl _,?_⟩;refine (fun (hs:∀H2,H2=LH c S inF st am (jj a aop an au ad ap ak) X0 U1->SWr E _ _ _ _ H2)=>hs _ rfl) ?_;rintro _ rfl;clear hmk hul;(refine zc ?_;conv=>whnf);refine zi [0,1,4,5,6,7,52,53,54] ?_;change SW E _ [(0,.ptr 0 0),(1,sI v),(4,.ptr 3 0),(5,.ptr 4 0),(6,.ptr 5 0),(7,.osl 6 0 S.has.length),(52,.imm (qp a.when_)),(53,sI ((a.when_.map Ex.cells).length:Nat)),(54,sI (0:Nat))] (LH c S inF st am (jj a aop an au ad ap ak) X0 U1);rw [hwl];refine zr a.when_ (fun i (_:List Bool)=>[(0,.ptr 0 0),(1,sI v),(4,.ptr 3 0),(5,.ptr 4 0),(6,.ptr 5 0),(7,.osl 6 0 S.has.length),(52,.imm (qp a.when_)),(53,sI (a.when_.length:Nat)),(54,sI (i:Nat))]) (fun _ U=>LH c S inF st am (jj a aop an au ad ap ak) X0 U)
  (fun _ rest U=>U.length=S.has.length/\zke c a=zft rest U) U1 ⟨hul1,hua⟩ ?_ ?_
 ·rintro U ⟨hUl,hU⟩
  have hU:zke c a=U:=by rw [hU,zft]
  clear hua hul1 U1;have hfa:zhx S (zke c a)=Go.Lib.compact (zce (zoh S U U.length)):=by rw [hU];rfl
  change SW E _ [(0,.ptr 0 0),(1,sI v),(4,.ptr 3 0),(5,.ptr 4 0),(6,.ptr 5 0),(7,.osl 6 0 S.has.length),(52,.imm (qp a.when_)),(53,sI (a.when_.length:Nat)),(54,sI (a.when_.length:Nat))] (LH c S inF st am (jj a aop an au ad ap ak) X0 U);subst hX;(refine zg ?_;conv=>whnf)
  repeat' ((with_reducible refine way ?_ ?_)<;>(intro h;conv=>whnf))
  all_goals try (exfalso;omega)
  refine zmk 5 4 1 (cs:=[sI S.day,sI a.line,sI v,sI ((zy a.number am).getD 0),zkh,zkh]) rfl rfl ?_;refine zi [0,1,4,5,6,62,63,64] ?_;change SW E _ [(0,.ptr 0 0),(1,sI v),(4,.ptr 3 0),(5,.ptr 4 0),(6,.ptr 5 0),(62,.osl 6 0 S.has.length),(63,sI (S.has.length:Nat)),(64,sI (0:Nat))] (LH c S inF st am (jj a aop an au ad ap ak) [sI S.day,sI a.line,sI v,sI ((zy a.number am).getD 0),.vec 7 (zoh S U 0).length,zkh] U++[.vec 1 ((zoh S U 0).map sI)]);rw [<-hUl];refine zr U (fun i (_:List Int)=>[(0,.ptr 0 0),(1,sI v),(4,.ptr 3 0),(5,.ptr 4 0),(6,.ptr 5 0),(62,.osl 6 0 U.length),(63,sI (U.length:Nat)),(64,sI (i:Nat))])
   (fun _ fs=>LH c S inF st am (jj a aop an au ad ap ak) [sI S.day,sI a.line,sI v,sI ((zy a.number am).getD 0),.vec 7 fs.length,zkh] U++[.vec 1 (fs.map sI)]) (fun done _ fs=>fs=zoh S U done.length) (zoh S U 0) rfl ?_ ?_
  ·rintro fs rfl
   have hfl:=zrp S U U.length;generalize zoh S U U.length=fs at hfa hfl;change SW E _ [(0,.ptr 0 0),(1,sI v),(4,.ptr 3 0),(5,.ptr 4 0),(6,.ptr 5 0),(62,.osl 6 0 U.length),(63,sI (U.length:Nat)),(64,sI (U.length:Nat))] (LH c S inF st am (jj a aop an au ad ap ak) [sI S.day,sI a.line,sI v,sI ((zy a.number am).getD 0),.vec 7 fs.length,zkh] U++[SObj.vec 1 (fs.map sI)]);(refine zg ?_;conv=>whnf)
   repeat' ((with_reducible refine way ?_ ?_)<;>(intro h;conv=>whnf))
   all_goals try (exfalso;omega)
   refine ym rfl rfl rfl rfl rfl rfl ((zud G 7 fs _ rfl (by have:=hS.few;omega)).mono ?_);rintro r9 H9 ⟨rfl,rfl⟩;refine ⟨by rw [List.length_set];exact Nat.le_refl _,?_⟩;have hsl:fs.length=(zce fs).length:=by simp
   refine (fun (hs:∀H2,H2=LH c S inF st am (jj a aop an au ad ap ak) [sI S.day,sI a.line,sI v,sI ((zy a.number am).getD 0),.vec 7 (zce fs).length,zkh] U++[SObj.vec 1 ((zce fs).map sI)]->SWr E _ _ _ _ H2)=>hs _ (by rw [<-hsl];rfl)) ?_;rintro _ rfl;have hfz:(zce fs).length<=1073741824:=by have:=hS.few;omega
   generalize zce fs=fs2 at hfa hfz;(refine zc ?_;conv=>whnf);refine ym rfl rfl rfl rfl rfl rfl ((zri G 7 fs2 _ rfl hfz).mono ?_);rintro r9 H9 ⟨rfl,rfl⟩;refine ⟨by rw [List.length_set];exact Nat.le_refl _,?_⟩;rw [<-hfa];generalize hF:zhx S (zke c a)=F;(refine zc ?_;conv=>whnf);refine zi [0,1,4,5,6,102,103,104] ?_;change SW E _ [(0,.ptr 0 0),(1,sI v),(4,.ptr 3 0),(5,.ptr 4 0),(6,.ptr 5 0),(102,.imm (ye inF)),(103,sI ((inF.map fun n=>[dI n]).length:Nat)),(104,sI (0:Nat))] (LH c S inF st am (jj a aop an au ad ap ak) [sI S.day,sI a.line,sI v,sI ((zy a.number am).getD 0),.imm (ye F),zkh] U++[SObj.dead]);rw [hil];refine zto 7 (by rw [hH3];decide) (by show 7<=8;decide) (by rfl) (zpb (Nat.le_refl 7) (hBu 7) rfl) ?_;refine zmk 5 5 1 (cs:=[sI S.day,sI a.line,sI v,sI ((zy a.number am).getD 0),.imm (ye F),zkh]) rfl rfl ?_;change SW E _ [(0,.ptr 0 0),(1,sI v),(4,.ptr 3 0),(5,.ptr 4 0),(6,.ptr 5 0),(102,.imm (ye inF)),(103,sI (inF.length:Nat)),(104,sI (0:Nat))] (LH c S inF st am (jj a aop an au ad ap ak) [sI S.day,sI a.line,sI v,sI ((zy a.number am).getD 0),.imm (ye F),.vec 7 ([]:List Int).length] U++[SObj.vec 1 (([]:List Int).map sI)]);have hre:zli c inF st a=inF.filter (fun o=>zty a (ymk c o)&&decide ((zy o st).getD 0=2)):=rfl;have hlen8:∀rs:List Int,(LH c S inF st am (jj a aop an au ad ap ak) [sI S.day,sI a.line,sI v,sI ((zy a.number am).getD 0),.imm (ye F),.vec 7 rs.length] U++[SObj.vec 1 (rs.map sI)]).all (SObj.under 8)=true:=fun rs=>by
    have e1:SObj.under 8 (.vec 1 (rs.map sI))=true:=zae 8 rs;rw [List.all_append,zpb (by omega) (hBu 8) rfl];simp only [List.all_cons,List.all_nil,e1];rfl
   refine zr inF (fun i (_:List Int)=>[(0,.ptr 0 0),(1,sI v),(4,.ptr 3 0),(5,.ptr 4 0),(6,.ptr 5 0),(102,.imm (ye inF)),(103,sI (inF.length:Nat)),(104,sI (i:Nat))])
    (fun _ rs=>LH c S inF st am (jj a aop an au ad ap ak) [sI S.day,sI a.line,sI v,sI ((zy a.number am).getD 0),.imm (ye F),.vec 7 rs.length] U++[SObj.vec 1 (rs.map sI)]) (fun done rest rs=>zli c inF st a=rs++rest.filter (fun o=>zty a (ymk c o)&&decide ((zy o st).getD 0=2))/\rs.length<=done.length) [] ⟨hre,Nat.le_refl 0⟩ ?_ ?_
   ·rintro rs ⟨hrs,hrl⟩
    rw [List.filter_nil,List.append_nil] at hrs;have hln:lnC (zra c S inF (st,am) v a)=[sI S.day,sI a.line,sI v,sI ((zy a.number am).getD 0),.imm (ye F),.imm (ye rs)]:=by
     unfold lnC zra;rw [hF,hrs]
    rw [hln] at fin;change SW E _ [(0,.ptr 0 0),(1,sI v),(4,.ptr 3 0),(5,.ptr 4 0),(6,.ptr 5 0),(102,.imm (ye inF)),(103,sI (inF.length:Nat)),(104,sI (inF.length:Nat))] (LH c S inF st am (jj a aop an au ad ap ak) [sI S.day,sI a.line,sI v,sI ((zy a.number am).getD 0),.imm (ye F),.vec 7 rs.length] U++[SObj.vec 1 (rs.map sI)]);refine zbo 5 5 7 rs.length 1 (cs0:=[sI S.day,sI a.line,sI v,sI ((zy a.number am).getD 0),.imm (ye F),.vec 7 rs.length]) (cs:=rs.map sI) (ds:=rs.map dI) rfl rfl rfl (zoz rs) (zpa rs) (by simp) (Nat.le_refl 1) ?_;rw [zgs];(refine zg ?_;conv=>whnf)
    repeat' ((with_reducible refine way ?_ ?_)<;>(intro h;conv=>whnf))
    all_goals try (exfalso;omega)
    exact fin _
   ·rintro di o ri rs hdi hdli ⟨hrs,hrl⟩ ih4
    have hor:=hin o (by rw [hdi];simp);obtain ⟨b,hb⟩:∃b,c.arts[o.toNat]?=some b:=⟨_,List.getElem?_eq_getElem (by omega)⟩;have hbm:=List.mem_of_getElem? hb;have hob:zdj c o=some b:=by unfold zdj;rw [if_neg (by omega)];exact hb
    have hon:o=(o.toNat:Int):=by omega
    have hnum:ymk c o=b.number:=by unfold ymk;rw [hob]
    have hw4:=zk (n:=di.length) (by omega);have hri:(inF.map fun n=>[dI n])[di.length]?=some [dI o]:=by rw [hdi];simp
    rw [List.filter_cons,hnum] at hrs
    have ih4:=fun rs' (h:(if (zty a b.number&&decide ((zy o st).getD 0=2))=true then rs++[o] else rs)=rs')=>ih4 rs' ⟨by
     rw [hrs, <-h]
     split<;>simp,by rw [<-h];split<;>simp<;>omega⟩
    clear hrs;obtain ⟨bop,bn,bu,bd,bp,bk,hmb⟩:∃op n u den ps ks,b.amount= .mk op n u den ps ks:=by cases h:b.amount;exact ⟨_,_,_,_,_,_,rfl⟩
    have hrb:(c.arts.map Article.cells)[o.toNat]?=some b.cells:=by rw [List.getElem?_map,hb];rfl
    rw [zhz hmb] at hrb;have hnm:zty a b.number=(decide (b.number∈wq a.amount)||a.when_.any fun w=>decide (b.number∈wq w)):=by
     unfold zty;rw [zir]
    rw [hnm] at ih4;clear hnm;have c3:=zdr G b.number _ a.amount (Nat.lt_succ_self _) (hM.fit a ham).amt;rw [hma] at c3 ih4;generalize decide (b.number∈wq (.mk aop an au ad ap ak))=z3 at c3 ih4;change SW E _ [(0,.ptr 0 0),(1,sI v),(4,.ptr 3 0),(5,.ptr 4 0),(6,.ptr 5 0),(102,.imm (ye inF)),(103,sI (inF.length:Nat)),(104,sI (di.length:Nat))] (LH c S inF st am (jj a aop an au ad ap ak) [sI S.day,sI a.line,sI v,sI ((zy a.number am).getD 0),.imm (ye F),.vec 7 rs.length] U++[SObj.vec 1 (rs.map sI)]);(refine zg ?_;conv=>whnf)
    repeat' ((with_reducible refine way ?_ ?_)<;>(intro h;conv=>whnf))
    all_goals try (exfalso;omega)
    refine zh (i:=di.length) (row:=[dI o]) rfl rfl hri ?_;(refine zl [777,114] 1000 ?_;conv=>whnf);refine zh (i:=o.toNat) (row:=ypl b bop bn bu bd bp bk) rfl hon hrb ?_;(refine zc ?_;conv=>whnf);refine ze rfl  c3 ?_;(refine zc ?_;conv=>whnf);refine zi [0,1,4,5,6,13,14,15,102,103,104,122,123,124] ?_;change SW E _ [(0,.ptr 0 0),(1,sI v),(4,.ptr 3 0),(5,.ptr 4 0),(6,.ptr 5 0),(13,sI o),(14,sI b.number),(15,sB z3),(102,.imm (ye inF)),(103,sI (inF.length:Nat)),(104,sI (di.length:Nat)),(122,.imm (qp a.when_)),(123,sI ((a.when_.map Ex.cells).length:Nat)),(124,sI (0:Nat))] (LH c S inF st am (jj a aop an au ad ap ak) [sI S.day,sI a.line,sI v,sI ((zy a.number am).getD 0),.imm (ye F),.vec 7 rs.length] U++[SObj.vec 1 (rs.map sI)]);rw [hwl];refine zr a.when_ (fun i (nm:Bool)=>[(0,.ptr 0 0),(1,sI v),(4,.ptr 3 0),(5,.ptr 4 0),(6,.ptr 5 0),(13,sI o),(14,sI b.number),(15,sB nm),(102,.imm (ye inF)),(103,sI (inF.length:Nat)),(104,sI (di.length:Nat)),(122,.imm (qp a.when_)),(123,sI (a.when_.length:Nat)),(124,sI (i:Nat))]) (fun _ _=>LH c S inF st am (jj a aop an au ad ap ak) [sI S.day,sI a.line,sI v,sI ((zy a.number am).getD 0),.imm (ye F),.vec 7 rs.length] U++[SObj.vec 1 (rs.map sI)])
     (fun _ rest nm=>(z3||a.when_.any fun w=>decide (b.number∈wq w))=(nm||rest.any fun w=>decide (b.number∈wq w))) z3 rfl ?_ ?_
    ·rintro nm hnm
     have hnm:(z3||a.when_.any fun w=>decide (b.number∈wq w))=nm:=by rw [hnm];exact Bool.or_false nm
     rw [hnm] at ih4;clear hnm;have hlv:=hlk o st;generalize (zy o st).getD 0=x at hlv ih4;change SW E _ [(0,.ptr 0 0),(1,sI v),(4,.ptr 3 0),(5,.ptr 4 0),(6,.ptr 5 0),(13,sI o),(14,sI b.number),(15,sB nm),(102,.imm (ye inF)),(103,sI (inF.length:Nat)),(104,sI (di.length:Nat)),(122,.imm (qp a.when_)),(123,sI (a.when_.length:Nat)),(124,sI (a.when_.length:Nat))] (LH c S inF st am (jj a aop an au ad ap ak) [sI S.day,sI a.line,sI v,sI ((zy a.number am).getD 0),.imm (ye F),.vec 7 rs.length] U++[SObj.vec 1 (rs.map sI)]);cases nm with
     |false=>
      have ih4:=ih4 rs (if_neg (by simp));(refine zg ?_;conv=>whnf)
      repeat' ((with_reducible refine way ?_ ?_)<;>(intro h;conv=>whnf))
      all_goals try (exfalso;omega)
      rw [hw4];exact zi [0,1,4,5,6,102,103,104] ih4
     |true=>
      (refine yb [777,142] 1000 ?_;conv=>whnf)
      repeat' ((with_reducible refine way ?_ ?_)<;>(intro h;conv=>whnf))
      all_goals try (exfalso;omega)
      refine zkw (l:=st) (v:=sI x) sI rfl rfl rfl rfl rfl rfl rfl rfl rfl hlv ?_;(refine zl [777,149] 1000 ?_;conv=>whnf)
      repeat' ((with_reducible refine way ?_ ?_)<;>(intro h;conv=>whnf))
      ·have ih4:=ih4 (rs++[o]) (if_pos (by rw [decide_eq_true ‹x=2›];rfl))
       refine zcn (b:=7) (n:=rs.length) (kk:=1) (cs:=rs.map sI) (new:=[[dI o]]) rfl rfl rfl rfl rfl rfl rfl rfl rfl rfl ⟨by decide,rfl⟩ rfl (by simp) (Nat.le_refl 1) (Nat.le_refl 1) (by show rs.length+1<=_;omega) ?_;(refine zc ?_;conv=>whnf);refine (fun (hs:∀H2,H2=LH c S inF st am (jj a aop an au ad ap ak) [sI S.day,sI a.line,sI v,sI ((zy a.number am).getD 0),.imm (ye F),.vec 7 (rs++[o]).length] U++[SObj.vec 1 ((rs++[o]).map sI)]->SW E _ _ H2)=>hs _ (by rw [List.length_append,List.map_append];rfl)) ?_;rintro _ rfl;rw [hw4];exact zi [0,1,4,5,6,102,103,104] ih4
      ·have ih4:=ih4 rs (if_neg (by rw [decide_eq_false ‹¬x=2›];simp))
       rw [hw4];exact zi [0,1,4,5,6,102,103,104] ih4
    ·rintro dw w rw_ nm hdw hdlw hnm ih5
     have hw5:=zk (n:=dw.length) (by omega);have hwm:w∈a.when_:=by rw [hdw];simp
     have c5:=zdr G b.number _ w (Nat.lt_succ_self _) (zbp (hM.fit a ham).exs w hwm)
     have ih5:=fun nm' (h:(nm||decide (b.number∈wq w))=nm')=>ih5 nm' (by
      rw [hnm, <-h,List.any_cons,Bool.or_assoc])
     clear hnm ih4;have hrw:(a.when_.map Ex.cells)[dw.length]?=some w.cells:=by rw [hdw];simp
     generalize decide (b.number∈wq w)=zw at c5 ih5;obtain ⟨xo,xn,xu,xd,xp,xk⟩:=w;change SW E _ [(0,.ptr 0 0),(1,sI v),(4,.ptr 3 0),(5,.ptr 4 0),(6,.ptr 5 0),(13,sI o),(14,sI b.number),(15,sB nm),(102,.imm (ye inF)),(103,sI (inF.length:Nat)),(104,sI (di.length:Nat)),(122,.imm (qp a.when_)),(123,sI (a.when_.length:Nat)),(124,sI (dw.length:Nat))] (LH c S inF st am (jj a aop an au ad ap ak) [sI S.day,sI a.line,sI v,sI ((zy a.number am).getD 0),.imm (ye F),.vec 7 rs.length] U++[SObj.vec 1 (rs.map sI)]);cases nm with
     |true=>
      have ih5:=ih5 true rfl;(refine zg ?_;conv=>whnf)
      repeat' ((with_reducible refine way ?_ ?_)<;>(intro h;conv=>whnf))
      all_goals try (exfalso;omega)
      refine zh (i:=dw.length) (row:=(Ex.mk xo xn xu xd xp xk).cells) rfl rfl hrw ?_;(refine zc ?_;conv=>whnf);rw [hw5];exact yq [0,1,4,5,6,13,14,15,102,103,104,122,123,124] 8 (by rw [hH3];decide) (by show 8<=9;decide) (by rfl) (hlen8 rs) ih5
     |false=>
      have ih5:=ih5 zw rfl;(refine zg ?_;conv=>whnf)
      repeat' ((with_reducible refine way ?_ ?_)<;>(intro h;conv=>whnf))
      all_goals try (exfalso;omega)
      refine zh (i:=dw.length) (row:=(Ex.mk xo xn xu xd xp xk).cells) rfl rfl hrw ?_;(refine zc ?_;conv=>whnf);refine ze rfl  c5 ?_;(refine zc ?_;conv=>whnf);rw [hw5];exact yq [0,1,4,5,6,13,14,15,102,103,104,122,123,124] 8 (by rw [hH3];decide) (by show 8<=9;decide) (by rfl) (hlen8 rs) ih5
  ·rintro du u ru fs hdu hdlu rfl ih3
   have hw3:=zk (n:=du.length) (by omega);have hui:U[du.length]?=some u:=by rw [hdu];simp
   have hug:U.getD du.length false=u:=by rw [List.getD_eq_getElem?_getD,hui];rfl
   have hUm:(U.map sB)[0+du.length*1]?=some (sB u):=by rw [Nat.zero_add,Nat.mul_one,List.getElem?_map,hui];rfl
   have hhr:=zzq (l:=S.has) (n:=(du.length:Int)) (by omega) (by omega);have hnr:=yfs (l:=S.nums) (n:=(du.length:Int)) (by omega) (by have:=hS.nums;omega);rw [Int.toNat_natCast] at hhr hnr;have ih3:=ih3 _ (by rw [List.length_append,List.length_singleton]);rw [yim,hug] at ih3;have hfl:=zrp S U du.length;have hul:=hUl;generalize zoh S U du.length=fs at ih3 hfl;generalize S.has.getD du.length false=hb at hhr ih3;generalize S.nums.getD du.length 0=nn at hnr ih3;have hu8:∀fs:List Int,(LH c S inF st am (jj a aop an au ad ap ak) [sI S.day,sI a.line,sI v,sI ((zy a.number am).getD 0),.vec 7 fs.length,zkh] U++[SObj.vec 1 (fs.map sI)]).all (SObj.under 8)=true:=fun fs=>by
    have e1:SObj.under 8 (.vec 1 (fs.map sI))=true:=zae 8 fs;rw [List.all_append,zpb (by omega) (hBu 8) rfl];simp only [List.all_cons,List.all_nil,e1];rfl
   change SW E _ [(0,.ptr 0 0),(1,sI v),(4,.ptr 3 0),(5,.ptr 4 0),(6,.ptr 5 0),(62,.osl 6 0 U.length),(63,sI (U.length:Nat)),(64,sI (du.length:Nat))] (LH c S inF st am (jj a aop an au ad ap ak) [sI S.day,sI a.line,sI v,sI ((zy a.number am).getD 0),.vec 7 fs.length,zkh] U++[SObj.vec 1 (fs.map sI)]);(refine yb [777,67] 1000 ?_;conv=>whnf)
   repeat' ((with_reducible refine way ?_ ?_)<;>(intro h;conv=>whnf))
   all_goals try (exfalso;omega)
   refine zbg (i:=du.length) rfl rfl rfl rfl rfl rfl rfl rfl (by omega) ?_;refine wk (b:=6) (cs:=U.map sB) (v:=sB u) rfl rfl rfl rfl rfl hUm ?_;cases u with
   |false=>
    rw [if_neg (by simp),List.append_nil] at ih3;(refine zc ?_;conv=>whnf);rw [hw3];exact zi [0,1,4,5,6,62,63,64] ih3
   |true=>
    (refine zl [777,76] 1000 ?_;conv=>whnf);refine zh (i:=du.length) (row:=[dB hb]) rfl rfl hhr ?_;cases hb with
    |false=>
     rw [if_neg (by simp),List.append_nil] at ih3;(refine zc ?_;conv=>whnf);rw [hw3];exact zi [0,1,4,5,6,62,63,64] ih3
    |true=>
     rw [if_pos (show (true&&true)=true from rfl)] at ih3;(refine zc ?_;conv=>whnf);refine zi [0,1,4,5,6,10,62,63,64] ?_;change SW E _ [(0,.ptr 0 0),(1,sI v),(4,.ptr 3 0),(5,.ptr 4 0),(6,.ptr 5 0),(10,sI (du.length:Nat)),(62,.osl 6 0 U.length),(63,sI (U.length:Nat)),(64,sI (du.length:Nat))] (LH c S inF st am (jj a aop an au ad ap ak) [sI S.day,sI a.line,sI v,sI ((zy a.number am).getD 0),.vec 7 fs.length,zkh] U++[SObj.vec 1 (fs.map sI)]);(refine wd 0 mixed rfl ?_;refine zq [777,86] (nx:=8) ?_;conv=>whnf);refine qv (i:=du.length) (row:=[dI nn]) rfl (show 8<=8 by decide) rfl hnr ?_;(refine zq [777,89] (nx:=8) ?_;conv=>whnf);refine ycb (b:=7) (n:=fs.length) (kk:=1) (cs:=fs.map sI) (new:=[[dI nn]]) rfl rfl rfl rfl rfl rfl rfl rfl rfl rfl ⟨by decide,rfl⟩ (show 8<=8 by decide) rfl (by simp) (Nat.le_refl 1) (Nat.le_refl 1) (by show fs.length+1<=_;omega) ?_;(refine zq [777,999] (nx:=8) ?_;conv=>whnf);refine xc (b:=5) (off:=4) (v:=.vec 7 (fs.length+1)) (d:=[sI S.day,sI a.line,sI v,sI ((zy a.number am).getD 0)]) (zz:=.vec 7 fs.length) (r:=[zkh]) rfl rfl rfl rfl rfl rfl rfl rfl (show 8<=8 by decide) rfl rfl ?_;refine jr (by kernel_rfl) ?_;refine (fun (hs:∀H2,H2=LH c S inF st am (jj a aop an au ad ap ak) [sI S.day,sI a.line,sI v,sI ((zy a.number am).getD 0),.vec 7 (fs++[nn]).length,zkh] U++[SObj.vec 1 ((fs++[nn]).map sI)]->SW E _ _ H2)=>hs _ (by rw [List.length_append,List.map_append];rfl)) ?_;rintro _ rfl;(refine zg ?_;conv=>whnf);rw [hw3];exact zi [0,1,4,5,6,62,63,64] ih3
 ·rintro dw w rw_ U hdw hdlw ⟨hUl,hU⟩ ih2
  rw [zft] at hU;have hw2:=zk (n:=dw.length) (by omega);have hwm:w∈a.when_:=by rw [hdw];simp
  have hmk:=yne (G:=G) (hM.whn a ham w hwm).1 (hM.whn a ham w hwm).2 (used:=U) (by omega) (H:=LH c S inF st am (jj a aop an au ad ap ak) X0 U++[.cells (w.cells.map .imm)]) (b:=6) rfl;have hul2:(zay w U).length=S.has.length:=by rw [(zfv _).1 w (Nat.lt_succ_self _) U];exact hUl
  have ih2:=ih2 _ ⟨hul2,hU⟩;rw [hUl] at hmk;have hrw:(a.when_.map Ex.cells)[dw.length]?=some w.cells:=by rw [hdw];simp
  generalize zay w U=U2 at hmk ih2;obtain ⟨xo,xn,xu,xd,xp,xk⟩:=w;change SW E _ [(0,.ptr 0 0),(1,sI v),(4,.ptr 3 0),(5,.ptr 4 0),(6,.ptr 5 0),(7,.osl 6 0 S.has.length),(52,.imm (qp a.when_)),(53,sI (a.when_.length:Nat)),(54,sI (dw.length:Nat))] (LH c S inF st am (jj a aop an au ad ap ak) X0 U);(refine zg ?_;conv=>whnf)
  repeat' ((with_reducible refine way ?_ ?_)<;>(intro h;conv=>whnf))
  all_goals try (exfalso;omega)
  refine zh (i:=dw.length) (row:=(Ex.mk xo xn xu xd xp xk).cells) rfl rfl hrw ?_;(refine zc ?_;conv=>whnf);refine (fun (hs:∀H2,H2=LH c S inF st am (jj a aop an au ad ap ak) X0 U++[.cells ((Ex.mk xo xn xu xd xp xk).cells.map .imm)]->SWr E _ _ _ _ H2)=>hs _ rfl) ?_;rintro _ rfl;refine ym rfl rfl rfl rfl rfl rfl (hmk.mono ?_);rintro r9 H9 ⟨rfl,rfl⟩;refine ⟨by rw [List.length_set];exact Nat.le_refl _,?_⟩;refine (fun (hs:∀H2,H2=LH c S inF st am (jj a aop an au ad ap ak) X0 U2++[.cells ((Ex.mk xo xn xu xd xp xk).cells.map .imm)]->SWr E _ _ _ _ H2)=>hs _ rfl) ?_;rintro _ rfl;(refine zc ?_;conv=>whnf);rw [hw2];exact yq [0,1,4,5,6,7,52,53,54] 7 (by rw [hH3];decide) (by show 7<=8;decide) (by rfl) (zpb (Nat.le_refl 7) (hBu 7) (hXu 7)) ih2
open Go Go.Sh Go.RowKit
theorem yin (b n:Nat) (p:Value) (T:Nat) (w:World) (hbk:w.heap[b]?=some (.cells #[p,.slice none 0 0] T (0,0))) (hn:n<=281474976710656):
  Calls Tryz.prog 194 #[.pointer (some ⟨b,0,none⟩),.int .i64 n] w fun e w'=>e= .returned (.tuple #[])/\
   ∃cs:Array Value,n<=cs.size/\cs.size<=maxLen/\w'=((w.setCell ⟨b,1,none⟩ (.slice (some ⟨w.heap.size,0,none⟩) 0 cs.size)).alloc (.cells cs 5)).drew.drew.drew:=by
 obtain ⟨cs,hrun,hle,hmax⟩:=Lib.run_makeNoZero (P:=Tryz.prog) w.drew #[3] 159 5 rfl n hn;have hw:IntKind.i64.wrap (IntKind.i64.wrap 0+(n:Int))=n:=by
  rw [IntKind.wrap_i64,IntKind.wrap_i64];omega
 have hcall:(callFunc 210 #[.int .i64 (IntKind.i64.wrap (IntKind.i64.wrap 0+(n:Int)))]).run Tryz.prog w.drew= .ok (.value (.slice (some ⟨w.drew.heap.size,0,none⟩) n cs.size)) (w.drew.drew.drew.alloc (.cells cs 5)):=by
  rw [hw,run_callFunc_extern Tryz.func210 (by kernel_rfl) (by kernel_rfl) (by kernel_rfl) (e:=Extern.BytealgMakeNoZero.makeNoZero #[3] #[159]) (by kernel_rfl),hrun];rfl
 have hlt:b<w.heap.size:=by
  rcases Nat.lt_or_ge b w.heap.size with h'|h'
  ·exact h'
  ·simp [Array.getElem?_eq_none h'] at hbk
 have c1:w.drew.cell? ⟨b,1,none⟩=some (.slice none 0 0):=by
  have:w.drew.heap[b]?=_:=hbk;rw [Lib.cell_of_heap this];rfl
 have c2:(w.alloc (.cells cs 5)).cell? ⟨b,1,none⟩=some (.slice none 0 0):=by
  have:(w.alloc (.cells cs 5)).heap[b]?=_:=(Lib.alloc_old w _ b hlt).trans hbk;rw [Lib.cell_of_heap this];rfl
 have f2:(w.alloc (.cells cs 5)).frozen? ⟨b,1,none⟩=false:=Lib.frozen_of_heap ((Lib.alloc_old w _ b hlt).trans hbk) 1;have hcopy:∀W:World,(Builtin.copy_ #[159,159] 3 #[.slice (some ⟨w.heap.size,0,none⟩) 0 cs.size,.slice none 0 0]).run Tryz.prog W= .ok (goInt 0) W:=
  fun W=>run_copy_none W 159 159 3 5 _ _ 0 cs.size 0 0 rfl (by kernel_rfl) rfl
 clear hw;have mixed:=mixed;have hm:=hmax (by unfold maxLen;omega)
 go_enter Tryz.func194,Tryz.ntmps194
 go_wp2
 go_region_o
 all_goals (go_wp2;go_end0;exact ⟨rfl,cs,hle,hm,rfl⟩)
variable (G:List (Nat × D))
theorem yio (x:Nat) (c:UInt8) (hx:x<18446744073709551616):zv Tryz.prog G 123 [wu x,.imm (dU8 c)] (wu (zcd x c.toNat)):=by
 refine zf Tryz.func123 rfl (by rw [Tryz.ntmps123];simp) rfl rfl ?_;intro E hH hK;have hb:c.toNat<18446744073709551616:=Nat.lt_trans c.toNat_lt (by decide);(refine zg ?_;conv=>whnf);rw [yhm hb,ypi hx hb,ywn,yzw,ypi (Nat.mod_lt _ (by decide)) (zhs _ (Nat.mod_lt _ (by decide)))];exact hK _
theorem ydd (x:Nat) (hx:x<18446744073709551616):zv Tryz.prog G 124 [wu x] (wu (mix x 2147483648 13787848793156543929)):=by
 refine zf Tryz.func124 rfl (by rw [Tryz.ntmps124];simp) rfl rfl ?_;intro E hH hK;(refine zg ?_;conv=>whnf);rw [yzu,ywq hx,ywo];exact hK _
theorem zzv (x:Nat) (hx:x<18446744073709551616):zv Tryz.prog G 125 [wu x] (wu (mix x 134217728 10723151780598845931)):=by
 refine zf Tryz.func125 rfl (by rw [Tryz.ntmps125];simp) rfl rfl ?_;intro E hH hK;(refine zg ?_;conv=>whnf);rw [yzv,ywr hx,ywp];exact hK _
theorem zib (s:ByteArray) (hs:s.size<=9223372036854775807):zv Tryz.prog G 79 [sS s] (wu (zev s)):=by
 have hl:=zdb s;refine zf Tryz.func79 rfl (by rw [Tryz.ntmps79];simp) rfl rfl ?_;intro E hH hK;(refine zg ?_;conv=>whnf);refine zi [0,3,7,8] ?_;change SW E _ [(0,sS s),(3,wu 2611923443488327891),(7,sI s.size),(8,sI (0:Nat))] [];unfold zev at hK;have hz:2611923443488327891<18446744073709551616:=by decide
 generalize (2611923443488327891:Nat)=z0 at hK hz ⊢;refine Eq.mpr (congrArg (fun n:Nat=>SW E _ [(0,sS s),(3,wu z0),(7,sI n),(8,sI (0:Nat))] []) hl.symm) ?_;refine zr s.data.toList (fun i x=>[(0,sS s),(3,wu x),(7,sI s.data.toList.length),(8,sI i)]) (fun _ _=>[]) (fun _ rest x=>x<18446744073709551616/\yby z0 s.data.toList=yby x rest) z0 ⟨hz,rfl⟩ ?_ ?_
 ·rintro x ⟨h1,h2⟩
  have h2:yby z0 s.data.toList=x:=h2;rw [h2] at hK;have hsz:s.size<18446744073709551616:=by omega
  have hx:=yez h1 hsz;have c1:=ydd G (x ^^^ s.size) hx;have c2:=zzv G (mix (x ^^^ s.size) 2147483648 13787848793156543929) (zyd _ _ _);(refine zg ?_;conv=>whnf)
  repeat' ((with_reducible refine way ?_ ?_)<;>(intro h;conv=>whnf))
  all_goals try (exfalso;omega)
  rw [yhm hsz,ypi h1 hsz];refine ze rfl  c1 ?_;(refine zc ?_;conv=>whnf);refine ze rfl  c2 ?_;(refine zc ?_;conv=>whnf);refine Eq.mpr (congrArg (fun a:Int=>E.K (.imm (.val (.int .u64 a))) []) ?_) (hK []);rw [yzx,ypi (zyd _ _ _) (zhs _ (zyd _ _ _))];rfl
 ·rintro done b rest x hda hdl ⟨h1,h2⟩ ih
  have hw:=zk (n:=done.length) (by omega);have hget:s.data.toList[done.length]?=some b:=by rw [hda];simp
  have hnext:=ih (zcd x b.toNat) ⟨yfa _ _,h2⟩;have c1:=yio G x b h1;(refine zg ?_;conv=>whnf)
  repeat' ((with_reducible refine way ?_ ?_)<;>(intro h;conv=>whnf))
  all_goals try (exfalso;omega)
  refine ww rfl rfl rfl rfl rfl rfl  hget ?_;(refine zc ?_;conv=>whnf);refine ze rfl  c1 ?_;(refine zc ?_;conv=>whnf);rw [hw];exact zi [0,3,7,8] hnext
end Go.Proofs.YtjnddlifnkgncaaGreatDoor
namespace Go.Sh
section
variable {P:Program} {G:List (Nat × D)} {fn:Func} {rd:Bool} {E:En P G fn rd} {t:List (Nat × SV)} {H:List SObj} {k:List Item} {all:Array Oper} {rest:List Oper} {o:Oper}
theorem yip {ty e n len off i:Nat} {x ix:Operand} {cells:List D} {mm:Int} {kk:IntKind} (hop:o.op= .indexAddr ty x ix)
  (hw:ya all t o.guard=some true) (hd:yf fn.ntmps o.dst=true) (hx:zo G t x= .imm (.row cells off)) (hi:zo G t ix= .imm (.val (.int kk mm)))
  (hu:P.underlying ty=some (.array len e)) (hn:xj P e=some n) (hmm:mm=(i:Int)) (hr:i<len)
  (h:SWr E all rest k (xl t o.dst (.imm (.row cells (off+i*n)))) H):SWr E all (o::rest) k t H:=by
 refine jd hw hd (r:=.imm (.row cells (off+i*n))) ?_ (Nat.le_refl _) h;subst hmm;rw [hop];simp only [sop,hi,zab,hu,hn,hx];rw [if_pos (by omega)];simp
theorem yde {ty off:Nat} {x:Operand} {cells:List D} {d:D} (hop:o.op= .load ty x)
  (hw:ya all t o.guard=some true) (hd:yf fn.ntmps o.dst=true) (hx:zo G t x= .imm (.row cells off)) (hp:ytg P ty=some false) (hr:cells[off]?=some d)
  (h:SWr E all rest k (xl t o.dst (.imm d)) H):SWr E all (o::rest) k t H:=by
 refine jd hw hd (r:=.imm d) ?_ (Nat.le_refl _) h;rw [hop];simp only [sop,hx,zbe,zjq,hp,List.getElem?_map,hr];rfl
theorem znu {ty e n len b off:Nat} {x:Operand} (hx:zo G t x= .ptr b off) (hu:P.underlying ty=some (.array len e)) (hn:xj P e=some n) (hlen:len<=maxLen) (H:List SObj):
  sop P (.slice ty x none none none) (zo G t) H=some (.osl b off len,H):=by
 simp only [sop,Option.map_none,zni,hu,hx,hn,if_pos hlen,Option.map_some]
theorem zzw {ty e n len b off:Nat} {x:Operand} (hop:o.op= .slice ty x none none none) (hw:ya all t o.guard=some true) (hd:yf fn.ntmps o.dst=true) (hx:zo G t x= .ptr b off)
  (hu:P.underlying ty=some (.array len e)) (hn:xj P e=some n) (hlen:len<=maxLen) (h:SWr E all rest k (xl t o.dst (.osl b off len)) H):SWr E all (o::rest) k t H:=
 jd hw hd (by rw [hop];exact znu hx hu hn hlen H) (Nat.le_refl _) h
theorem znv {ty e n len b off:Nat} {x:Operand} (hop:o.op= .slice ty x none none none) (hw:ya all t o.guard=some true) (hd:yf fn.ntmps o.dst=true) (hx:zo G t x= .ptr b off)
  (hu:P.underlying ty=some (.array len e)) (hn:xj P e=some n) (hlen:len<=maxLen) (h:SWd E all rest k (xl t o.dst (.osl b off len)) H):SWd E all (o::rest) k t H:=
 znk hw hd (by rw [hop];exact znu hx hu hn hlen H) h
theorem zuh {s d e:TypeId} {b n:Nat} {ns:List Int} (hb:H[b]?=some (.cells (ns.map fun i=>.imm (.val (.int .u8 i))))) (hn:n=ns.length) (hs:P.underlying s=some (.slice e)) (hde:P.underlying e=some (.int .u8)) (hdd:P.underlying d=some .string):
  zfd P s d H (.osl b 0 n)=some (.string (zck ns)):=by
 simp only [zfd,hs,hde,hdd,hb,zpo,hn,if_true]
theorem yiq {s d e:TypeId} {x:Operand} {b n:Nat} {ns:List Int} (hop:o.op= .convert s d x) (hw:ya all t o.guard=some true) (hd:yf fn.ntmps o.dst=true)
  (hx:zo G t x= .osl b 0 n) (hb:H[b]?=some (.cells (ns.map fun i=>.imm (.val (.int .u8 i))))) (hn:n=ns.length) (hs:P.underlying s=some (.slice e)) (hde:P.underlying e=some (.int .u8)) (hdd:P.underlying d=some .string)
  (h:SWr E all rest k (xl t o.dst (.imm (.val (.string (zck ns))))) H):SWr E all (o::rest) k t H:=
 jd hw hd (by rw [hop];simp only [sop,hx,zuh hb hn hs hde hdd,Option.map_some]) (Nat.le_refl _) h
theorem zui {s d e:TypeId} {x:Operand} {b n:Nat} {ns:List Int} (hop:o.op= .convert s d x) (hw:ya all t o.guard=some true) (hd:yf fn.ntmps o.dst=true)
  (hx:zo G t x= .osl b 0 n) (hb:H[b]?=some (.cells (ns.map fun i=>.imm (.val (.int .u8 i))))) (hn:n=ns.length) (hs:P.underlying s=some (.slice e)) (hde:P.underlying e=some (.int .u8)) (hdd:P.underlying d=some .string)
  (h:SWd E all rest k (xl t o.dst (.imm (.val (.string (zck ns))))) H):SWd E all (o::rest) k t H:=
 znk hw hd (by rw [hop];simp only [sop,hx,zuh hb hn hs hde hdd,Option.map_some]) h
theorem zed (h:SW E k (t.map fun x=>(x.1,x.2.solid)) H):SW E k t H:=
 ⟨fun a w I β cs hs=>h.run a w I β cs ⟨hs.heap,fun n=>by rw [ztp];exact (hs.tmps n).solid,hs.size,hs.defers,hs.ext,hs.hlen⟩⟩
end
end Go.Sh
namespace Go.Proofs.YtjnddlifnkgncaaGreatDoor
open Go Go.Sh
def yvd:D:=.row (([48,49,50,51,52,53,54,55,56,57,97,98,99,100,101,102]:List UInt8).map dU8) 0
def yzd:D:=.row (([4,9]:List Int).map dI) 0
def G37:List (Nat × D):=[(2,.tab (Lib.pow10Tab.map fun z=>Value.int .u64 z)),(0,yzd),(1,yvd)]
abbrev bS (c:UInt8):SV:=.imm (dU8 c)
theorem yng:∀x,x<16->((([48,49,50,51,52,53,54,55,56,57,97,98,99,100,101,102]:List UInt8).map dU8))[0+x*1]?=some (dU8 (ypj x)):=by
 intro x hx;have:x=0\/x=1\/x=2\/x=3\/x=4\/x=5\/x=6\/x=7\/x=8\/x=9\/x=10\/x=11\/x=12\/x=13\/x=14\/x=15:=by omega
 rcases this with rfl|rfl|rfl|rfl|rfl|rfl|rfl|rfl|rfl|rfl|rfl|rfl|rfl|rfl|rfl|rfl<;>rfl
theorem ynh (d i:Nat) (h:i<16):(zyp d).drop (15-i)=ypj (d / 16 ^ i % 16)::(zyp d).drop (16-i):=by
 have hl:(zyp d).length=16:=by simp [zyp,ztr]
 rw [List.drop_eq_getElem_cons (by omega)]
 congr 1
 ·simp only [zyp,ztr,List.getElem_map,List.getElem_range,nib]
  rw [show 15-(15-i)=i by omega]
 ·rw [show 15-i+1=16-i by omega]
theorem sh4 (a:Nat):(a:Int).fdiv (2 ^ min (Int.toNat 4) IntKind.u64.bits)=((a / 16:Nat):Int):=ywa a rfl
theorem ysv (l:List UInt8):∀b:ByteArray,(l.map fun c=>(c.toNat:Int)).foldl (fun r n=>r.push (UInt8.ofNat n.toNat)) b=⟨b.data++l.toArray⟩:=by
 induction l with
 |nil=>intro b;simp
 |cons x l ih=>
  intro b;rw [List.map_cons,List.foldl_cons,ih]
  congr 1
  show b.data.push _++_=_;simp
theorem zrq (d:Nat) (hd:d<18446744073709551616):zv Tryz.prog G37 89 [wu d] (sS (zex d)):=by
 have hl:(zyp d).length=16:=by simp [zyp,ztr]
 refine zf Tryz.func89 rfl (by rw [Tryz.ntmps89];simp) rfl rfl ?_;intro E hH hK;(refine zg ?_;conv=>whnf);refine zi [0,3,6] ?_;change SW E _ [(0,wu d),(3,.ptr 0 0),(6,sI (0:Nat))] [.cells (List.replicate 16 (bS 0)++[].map bS)];refine zr (List.range 16) (fun j (x:Nat × List UInt8)=>[(0,wu x.1),(3,.ptr 0 0),(6,sI j)]) (fun i x=>[.cells (List.replicate (16-i) (bS 0)++x.2.map bS)]) (fun done _ x=>x.1=d / 16 ^ done.length/\x.2=(zyp d).drop (16-done.length)) (d,[]) ⟨by simp,by simp [hl]⟩ ?_ ?_
 ·rintro ⟨x,l⟩ ⟨_,h⟩
  have h:l=zyp d:=h;subst h;clear ‹x=_›;(refine zg ?_;conv=>whnf)
  repeat' ((with_reducible refine way ?_ ?_)<;>(intro h;conv=>whnf))
  all_goals try (exfalso;omega)
  refine zzw rfl rfl rfl rfl rfl rfl (by unfold maxLen;decide) ?_;refine yiq (b:=0) (n:=16) (ns:=(zyp d).map fun c=>(c.toNat:Int)) rfl rfl rfl rfl (by show some (SObj.cells ((zyp d).map bS))=_;rw [List.map_map];rfl) (by simp [hl]) rfl rfl rfl ?_;unfold zck;rw [ysv];(refine zc ?_;conv=>whnf);refine Eq.mpr (congrArg (fun b=>E.K (sS b) _) ?_) (hK _);show (⟨#[]++(zyp d).toArray⟩:ByteArray)=_;simp [zex]
 ·rintro done j rest ⟨x,l⟩ hda hdl ⟨h,h'⟩ ih
  simp only at h h';have hj:done.length<16:=by simp at hdl;omega
  have hw:=zk (n:=done.length) (by omega);have hx:x<18446744073709551616:=by rw [h];exact zhs _ hd
  have hnx:=ih (x / 16,ypj (x % 16)::l) ⟨by simp only;rw [h,List.length_append,List.length_cons,List.length_nil,Nat.zero_add,Nat.pow_succ,Nat.div_div_eq_div_mul],by simp only;rw [h,h',List.length_append,List.length_cons,List.length_nil, <-ynh d done.length hj,show 16-(done.length+(0+1))=15-done.length by omega]⟩;have hw2:IntKind.i64.wrap (15-(done.length:Int))=((15-done.length:Nat):Int):=by rw [yg (by omega) (by omega)];omega
  have hrep:List.replicate (16-done.length) (bS 0)=List.replicate (15-done.length) (bS 0)++[bS 0]:=by rw [show 16-done.length=15-done.length+1 by omega,List.replicate_succ']
  rw [hrep];(refine yb [777,13] 1000 ?_;conv=>whnf)
  repeat' ((with_reducible refine way ?_ ?_)<;>(intro h;conv=>whnf))
  all_goals try (exfalso;omega)
  rw [yue hx];refine yip (i:=x % 16) rfl rfl rfl rfl rfl rfl rfl rfl (Nat.mod_lt _ (by decide)) ?_;refine yde rfl rfl rfl rfl rfl (yng _ (Nat.mod_lt _ (by decide))) ?_;generalize ypj (x % 16)=c at hnx ⊢;refine zmo (i:=15-done.length) rfl rfl rfl rfl rfl rfl rfl hw2 (by omega) ?_;refine zbf (d:=List.replicate (15-done.length) (bS 0)) (zz:=bS 0) (r:=l.map bS) (v:=bS c) rfl rfl rfl rfl rfl rfl rfl rfl (by simp) (by show 0+(15-done.length)*1=_;simp) ?_;(refine zc ?_;conv=>whnf);rw [sh4,hw];refine zi [0,3,6] ?_;have he:16-(done.length+1)=15-done.length:=by omega
  rw [he] at hnx;exact hnx
theorem zpc (d:Nat):(zvx d).length=8:=by simp [zvx]
theorem yni (d i:Nat) (h:i<8):(zvx d).drop (7-i)=UInt8.ofNat (d / 256 ^ i % 256)::(zvx d).drop (8-i):=by
 have hl:=zpc d;rw [List.drop_eq_getElem_cons (by omega)]
 congr 1
 ·simp only [zvx,List.getElem_map,List.getElem_range,yug]
  rw [show 7-(7-i)=i by omega]
 ·rw [show 7-i+1=8-i by omega]
theorem sh8 (a:Nat):(a:Int).fdiv (2 ^ min (Int.toNat 8) IntKind.u64.bits)=((a / 256:Nat):Int):=ywa a rfl
theorem zzx (n:Nat):(UInt8.ofNat (n % 256)).toNat=n % 256:=by
 rw [UInt8.toNat_ofNat'];exact Nat.mod_eq_of_lt (Nat.mod_lt _ (by decide))
theorem zuj (G:List (Nat × D)) (d:Nat) (hd:d<18446744073709551616):zv Tryz.prog G 165 [wu d] (.agg ((zvx d).map bS)):=by
 have hl:=zpc d;refine zf Tryz.func165 rfl (by rw [Tryz.ntmps165];simp) rfl rfl ?_;intro E hH hK;(refine zg ?_;conv=>whnf);refine zi [0,2,3,6] ?_;change SW E _ [(0,wu d),(2,.ptr 0 0),(3,.ptr 1 0),(6,sI (0:Nat))] [.cells (List.replicate 8 (bS 0)),.cells (List.replicate 8 (bS 0)++[].map bS)];refine zr (List.range 8) (fun j (x:Nat × List UInt8)=>[(0,wu x.1),(2,.ptr 0 0),(3,.ptr 1 0),(6,sI j)]) (fun i x=>[.cells (List.replicate 8 (bS 0)),.cells (List.replicate (8-i) (bS 0)++x.2.map bS)]) (fun done _ x=>x.1=d / 256 ^ done.length/\x.2=(zvx d).drop (8-done.length)) (d,[]) ⟨by simp,by simp [hl]⟩ ?_ ?_
 ·rintro ⟨x,l⟩ ⟨_,h⟩
  have h:l=zvx d:=h;rw [<-h] at hK hl
  match l,hl with
  |[a0,a1,a2,a3,a4,a5,a6,a7],_=>
  (refine zg ?_;conv=>whnf)
  repeat' ((with_reducible refine way ?_ ?_)<;>(intro h;conv=>whnf))
  all_goals try (exfalso;omega)
  exact hK _
 ·rintro done j rest ⟨x,l⟩ hda hdl ⟨h,h'⟩ ih
  simp only at h h';have hj:done.length<8:=by simp at hdl;omega
  have hw:=zk (n:=done.length) (by omega);have hx:x<18446744073709551616:=by rw [h];exact zhs _ hd
  have hnx:=ih (x / 256,UInt8.ofNat (x % 256)::l) ⟨by simp only;rw [h,List.length_append,List.length_cons,List.length_nil,Nat.zero_add,Nat.pow_succ,Nat.div_div_eq_div_mul],by simp only;rw [h,h',List.length_append,List.length_cons,List.length_nil, <-yni d done.length hj,show 8-(done.length+(0+1))=7-done.length by omega]⟩;have hw2:IntKind.i64.wrap (7-(done.length:Int))=((7-done.length:Nat):Int):=by rw [yg (by omega) (by omega)];omega
  have hrep:List.replicate (8-done.length) (bS 0)=List.replicate (7-done.length) (bS 0)++[bS 0]:=by rw [show 8-done.length=7-done.length+1 by omega,List.replicate_succ']
  have hc:(x:Nat) % 256=(UInt8.ofNat (x % 256)).toNat:=(zzx x).symm;rw [hrep];(refine yb [777,13] 1000 ?_;conv=>whnf)
  repeat' ((with_reducible refine way ?_ ?_)<;>(intro h;conv=>whnf))
  all_goals try (exfalso;omega)
  rw [yui,hc];generalize UInt8.ofNat (x % 256)=c at hnx ⊢;refine zmo (i:=7-done.length) rfl rfl rfl rfl rfl rfl rfl hw2 (by omega) ?_;refine zbf (d:=List.replicate (7-done.length) (bS 0)) (zz:=bS 0) (r:=l.map bS) (v:=bS c) rfl rfl rfl rfl rfl rfl rfl rfl (by simp) (by show 0+(7-done.length)*1=_;simp) ?_;(refine zc ?_;conv=>whnf);rw [sh8,hw];refine zi [0,2,3,6] ?_;have he:8-(done.length+1)=7-done.length:=by omega
  rw [he] at hnx;exact hnx
theorem zlp (l:List UInt8):zck (l.map fun c=>(c.toNat:Int))=⟨l.toArray⟩:=by
 unfold zck;rw [ysv];show (⟨#[]++l.toArray⟩:ByteArray)=_;simp
theorem ynj (d:Nat):(ztt d).size=8:=by
 show (zvx d).toArray.size=8;simp [zvx]
theorem ynk (G:List (Nat × D)) (a b:Nat) (ha:a<18446744073709551616) (hb:b<18446744073709551616):zv Tryz.prog G 132 [wu a,wu b] (wu (zdo a b)):=by
 have c1:=zuj G a ha;have c2:=zuj G b hb;have ra:ztt a=zck ((zvx a).map fun c=>(c.toNat:Int)):=(zlp _).symm;have rb:ztt b=zck ((zvx b).map fun c=>(c.toNat:Int)):=(zlp _).symm;have za:=ynj a;have zb:=ynj b;have c3:=zib G (⟨#[1]⟩++ztt a++ztt b) (by rw [ByteArray.size_append,ByteArray.size_append,za,zb];decide);change zv _ _ _ _ (wu (zdo a b)) at c3;have la:=zpc a;have lb:=zpc b;generalize zdo a b=r at c3 ⊢;generalize ztt a=sa at*;generalize ztt b=sb at*;generalize zvx a=x at*;generalize zvx b=y at*
 match x,la,y,lb with
 |[a0,a1,a2,a3,a4,a5,a6,a7],_,[b0,b1,b2,b3,b4,b5,b6,b7],_=>
 refine zf Tryz.func132 rfl (by rw [Tryz.ntmps132];simp) rfl rfl ?_;intro E hH hK;(refine zg ?_;conv=>whnf);refine ze rfl  c1 ?_;(refine zc ?_;conv=>whnf);refine ze rfl  c2 ?_;(refine zc ?_;conv=>whnf);refine zi [5,6] ?_;change SW E _ [(5,.ptr 0 0),(6,.ptr 1 0)] [.cells ([a0,a1,a2,a3,a4,a5,a6,a7].map bS),.cells ([b0,b1,b2,b3,b4,b5,b6,b7].map bS)];(refine zt mixed rfl ?_;refine zd [] ?_;conv=>whnf);refine znv rfl rfl rfl rfl rfl rfl (by unfold maxLen;decide) ?_;refine zui (b:=0) (n:=8) (ns:=[a0,a1,a2,a3,a4,a5,a6,a7].map fun c=>(c.toNat:Int)) rfl rfl rfl rfl rfl rfl rfl rfl rfl ?_;rw [<-ra];(refine zd [13] ?_;conv=>whnf);refine zbh rfl rfl rfl rfl rfl (by rw [za];decide) ?_;refine znv rfl rfl rfl rfl rfl rfl (by unfold maxLen;decide) ?_;refine zui (b:=1) (n:=8) (ns:=[b0,b1,b2,b3,b4,b5,b6,b7].map fun c=>(c.toNat:Int)) rfl rfl rfl rfl rfl rfl rfl rfl rfl ?_;rw [<-rb];refine zbh rfl rfl rfl rfl rfl (by rw [ByteArray.size_append,za,zb];decide) ?_;refine zu rfl  c3 ?_;(refine zd [] ?_;conv=>whnf);(refine zg ?_;conv=>whnf);exact hK _
theorem zgt:yuk G37:=⟨_,List.Mem.head _,by kernel_rfl⟩
theorem ydf (n c:Nat):chainN n (zvy c)=chainN (n+1) c:=by
 induction n with
 |zero=>rw [zeb,zbi,zeb]
 |succ n ih=>rw [zbi,ih,zbi (n+1)]
theorem zzy {c:Nat} (hc:c<18446744073709551616) (n:Nat):chainN n c<18446744073709551616:=by
 cases n with
 |zero=>rw [zeb];exact hc
 |succ n=>rw [zbi];exact zvz _
def HW (r c n:Nat) (lp:SObj):List SObj:=[.cells [wu r],.cells [wu c],.cells [sI n],lp]
theorem yir (G:List (Nat × D)) (c n:Nat) (H:List SObj):SCall Tryz.prog G 129 [wu c,sI n] H (fun r H'=>r= .fn (.func 164) [] [.ptr H.length 0,.ptr (H.length+1) 0]/\H'=H++[.cells [wu c],.cells [sI n]]):=by
 refine xb Tryz.func129 rfl (by rw [Tryz.ntmps129];simp) ?_;intro E hH hK;(refine zg ?_;conv=>whnf);exact hK _ _ ⟨by simp;rfl,by simp;exact ⟨rfl,rfl⟩⟩
theorem zwk {f:FuncId} {n0:Nat} {tL:List (Nat × SV)} {ps:Array Tmp} {asg bd:Code} (hps:1=ps.size)
  (hy:∀r c n,c<18446744073709551616->SYield Tryz.prog G37 3 [wu c] (HW r c n (.loop .ready f n0 tL ps asg bd)) (fun res H'=>res=true/\H'=HW c c n (.loop .ready f n0 tL ps asg bd)))
  (r c n:Nat) (hc:c<18446744073709551616) (hn:n<=15):
  SCall Tryz.prog G37 164 [.yld 3,.ptr 1 0,.ptr 2 0] (HW r c n (.loop .ready f n0 tL ps asg bd)) (fun _ H'=>H'=HW (chainN n c) (chainN n c) 0 (.loop .ready f n0 tL ps asg bd)):=by
 refine xb Tryz.func164 rfl (by rw [Tryz.ntmps164];simp) ?_;intro E hH hK;generalize hR:chainN n c=R at hK;(refine zg ?_;conv=>whnf);refine zi [0,1,2] ?_;change SW E _ [(0,.yld 3),(1,.ptr 1 0),(2,.ptr 2 0)] _;refine yx (σ:=Nat × Nat × Nat) (fun _=>[(0,.yld 3),(1,.ptr 1 0),(2,.ptr 2 0)]) (fun x=>HW x.1 x.2.1 x.2.2 (.loop .ready f n0 tL ps asg bd)) (fun x=>chainN x.2.2 x.2.1=R/\x.2.1<18446744073709551616/\x.2.2<=15) (fun x=>x.2.2) ?_ (r,c,n) ⟨hR,hc,hn⟩;clear hR hc hn;rintro ⟨r,c,n⟩ ⟨i1,i2,i3⟩ ih;simp only at i1 i2 i3;have hyy:=hy r c n i2;have c1:=zrq c i2;have c2:=zib G37 (⟨#[2]⟩++zex c) (by rw [ByteArray.size_append,jz];decide);change zv _ _ _ _ (wu (zvy c)) at c2;show SW E _ _ (HW r c n (.loop .ready f n0 tL ps asg bd));(refine zg ?_;conv=>whnf);refine zqc rfl rfl rfl rfl rfl hps rfl (hyy.mono ?_);rintro _ _ ⟨rfl,rfl⟩;refine ⟨Nat.le_refl _,?_⟩;cases n with
 |zero=>
  (refine zc ?_;conv=>whnf);rw [<-i1] at hK;exact hK _ _ rfl
 |succ n=>
  have hw:IntKind.i64.wrap (((n+1:Nat):Int)-1)=(n:Int):=by rw [yg (by omega) (by omega)];omega
  have hnx:=ih (c,zvy c,n) ⟨by rw [<-i1];exact ydf n c,zvz _,by simp only;omega⟩ (by simp only;omega);have h0:0<((n+1:Nat):Int):=by omega
  (refine zc ?_;conv=>whnf)
  repeat' ((with_reducible refine way ?_ ?_)<;>(intro h;conv=>whnf))
  all_goals try (exfalso;omega)
  refine ze rfl  c1 ?_;(refine zl [777,13] 1000 ?_;conv=>whnf);refine jt rfl rfl rfl rfl rfl (by rw [jz];decide) ?_;(refine zc ?_;conv=>whnf);refine ze rfl  c2 ?_;(refine zc ?_;conv=>whnf);rw [hw];exact zi [0,1,2] hnx
theorem zzz (c n:Nat) (hc:c<18446744073709551616) (hn:n<=15):zv Tryz.prog G37 87 [wu c,sI n] (wu (chainN n c)):=by
 refine zf Tryz.func87 rfl (by rw [Tryz.ntmps87];simp) rfl rfl ?_;intro E hH hK;(refine zg ?_;conv=>whnf);refine ym rfl rfl rfl rfl rfl rfl ((yir G37 c n _).mono ?_);rintro _ _ ⟨rfl,rfl⟩;refine ⟨by simp,?_⟩;(refine zc ?_;conv=>whnf);refine zi [5,9] ?_;change SW E _ [(5,.ptr 0 0),(9,.fn (.func 164) [] [.ptr 1 0,.ptr 2 0])] [.cells [wu (0:Nat)],.cells [wu c],.cells [sI n]];refine zei rfl rfl ?_;refine (zwk (tL:=[(5,.ptr 0 0),(9,.fn (.func 164) [] [.ptr 1 0,.ptr 2 0])]) rfl ?_ 0 c n hc hn).mono ?_
 ·intro r c n hc
  refine zej (b:=3) rfl E.hfn rfl (by decide) ?_;intro E3 hl3 hOwn hKR;(refine zg ?_;conv=>whnf);refine zor hOwn rfl ?_;(refine zg ?_;conv=>whnf);exact hKR none _ _ (Nat.le_refl _) rfl ⟨rfl,rfl⟩
 ·rintro r H' rfl
  refine ⟨Nat.le_refl _,.ready,_,rfl,.inl ⟨rfl,?_⟩⟩;(refine zg ?_;conv=>whnf);exact hK _
def yyj (seed:ByteArray) (j k:Int):ByteArray:=⟨#[3]⟩++ql j++⟨#[32]⟩++ql k++⟨#[32]⟩++seed
def yfv (seed:ByteArray) (j k:Int):Nat:=zev (yyj seed j k)
theorem zrr (seed:ByteArray) (j k:Int) (hs:seed.size<=1000000000000) (hj:0<=j/\j<=1000000000) (hk:0<=k/\k<=1000000000):zv Tryz.prog G37 88 [sS seed,sI j,sI k] (wu (yfv seed j k)):=by
 have c1:=ztc zgt j (by omega) (by omega);have c2:=ztc zgt k (by omega) (by omega);have z1:=wy j (by omega) (by omega);have z2:=wy k (by omega) (by omega);have c3:=zib G37 (yyj seed j k) (by unfold yyj;simp only [ByteArray.size_append];show 1+(ql j).size+1+(ql k).size+1+seed.size<=_;omega);change zv _ _ _ _ (wu (yfv seed j k)) at c3;unfold yyj at c3;generalize yfv seed j k=r at c3 ⊢;generalize ql j=sj at*;generalize ql k=sk at*;refine zf Tryz.func88 rfl (by rw [Tryz.ntmps88];simp) rfl rfl ?_;intro E hH hK;(refine zg ?_;conv=>whnf);refine ze rfl  c1 ?_;refine jt rfl rfl rfl rfl rfl (by show 1+sj.size<=_;omega) ?_;refine jt rfl rfl rfl rfl rfl (by simp only [ByteArray.size_append];show 1+sj.size+1<=_;omega) ?_;(refine zl [777,13] 1000 ?_;conv=>whnf);refine ze rfl  c2 ?_;refine jt rfl rfl rfl rfl rfl (by simp only [ByteArray.size_append];show 1+sj.size+1+sk.size<=_;omega) ?_;refine jt rfl rfl rfl rfl rfl (by simp only [ByteArray.size_append];show 1+sj.size+1+sk.size+1<=_;omega) ?_;(refine zl [777,16] 1000 ?_;conv=>whnf);refine jt rfl rfl rfl rfl rfl (by simp only [ByteArray.size_append];show 1+sj.size+1+sk.size+1+seed.size<=_;omega) ?_;refine ze rfl  c3 ?_;(refine zc ?_;conv=>whnf);exact hK _
end Go.Proofs.YtjnddlifnkgncaaGreatDoor
namespace Go.Sh
section
variable {P:Program} {G:List (Nat × D)} {w:World} {I:Imm} {β:List Bnd} {H:List SObj}
section
variable {sT xT ty e:TypeId} {k by_:Nat} {z:Value}
variable (hu:P.underlying sT=some (.slice e)) (hx:P.underlying xT=some .string) (hk:xj P e=some k) (hby:jx P e=some by_) (hz:zai P e=some z)
include hu hx hk
theorem zhd {n cap m c:Nat} {xv:Value} {B:List Value} {cur:Array Value} {T:TypeId} (hxl:∃s0:ByteArray,xv= .string s0/\s0.size=m) (hxc:(Builtin.firstCells k m xv).run P w= .ok B.toArray w)
  (hfit:n+m<=cap) (hg:w.heap[c]?=some (.cells cur T (0,0))) (hB:B.length=m*k) (hone:∀x∈B,x.oneCell'=true) (hcur:cur.size=cap*k):
  (Builtin.append_ #[sT,xT] ty #[.slice (some ⟨c,0,none⟩) n cap,xv]).run P w=
   .ok (.slice (some ⟨c,0,none⟩) (n+m) cap) (w.setRow c (cur.toList.take (n*k)++B++cur.toList.drop (n*k+m*k)).toArray):=by
 obtain ⟨s0,rfl,hs0⟩:=hxl;have hle:n*k+m*k<=cur.size:=by rw [hcur, <-Nat.add_mul];exact Nat.mul_le_mul_right k hfit
 have hst:=run_storeCells_at (P:=P) c (n*k) T B 0 cur w hg (by rw [hB];omega) hone;simp only [Nat.add_zero,hB] at hst;simp only [Builtin.append_,Sem.run_bind,run_underlying hu,Result.andThen_ok,yw hk,run_underlying hx,Sem.run_pure,Bool.false_eq_true,if_false,Builtin.lenOf,hs0,hfit,if_true,Bool.not_false,hxc,wv,Nat.zero_add,hst,List.getElem?_toArray,List.getElem?_cons_zero,List.getElem?_cons_succ]
theorem zoi {ty:TypeId} {xv:Value} (hxl:∃s0:ByteArray,xv= .string s0/\s0.size=0) (hxc:(Builtin.firstCells k 0 xv).run P w= .ok #[] w):
  (Builtin.append_ #[sT,xT] ty #[.slice none 0 0,xv]).run P w= .ok (.slice none 0 0) w:=by
 obtain ⟨s0,rfl,hs0⟩:=hxl;simp only [Builtin.append_,Sem.run_bind,run_underlying hu,Result.andThen_ok,yw hk,run_underlying hx,Sem.run_pure,Bool.false_eq_true,if_false,Builtin.lenOf,hs0,Nat.add_zero,Nat.le_refl,if_true,Bool.not_false,hxc,List.getElem?_toArray,List.getElem?_cons_zero,List.getElem?_cons_succ]
include hby hz
theorem zlq {ty:TypeId} {n cap m:Nat} {base:Option Addr} {xv:Value} {A B:List Value} (hxl:∃s0:ByteArray,xv= .string s0/\s0.size=m) (hxc:∀w':World,w'.heap=w.heap->(Builtin.firstCells k m xv).run P w'= .ok B.toArray w')
  (hsc:∀w':World,w'.heap=w.heap->(Builtin.firstCells k n (.slice base n cap)).run P w'= .ok A.toArray w') (hgrow:¬n+m<=cap) (hsmall:n+m<=4611686018427387904) (hcap:(2*(n+m)+192)*by_<=281474976710656):
  ∃newCap rest,n+m<=newCap/\newCap<=maxLen/\rest=Builtin.zeroCells z.cells (newCap-(n+m))/\
   (Builtin.append_ #[sT,xT] ty #[.slice base n cap,xv]).run P w= .ok (.slice (some ⟨w.heap.size,0,none⟩) (n+m) newCap) (w.drew.alloc (.cells (A.toArray++B.toArray++rest) e)):=by
 obtain ⟨s0,rfl,hs0⟩:=hxl;have hinfo:(typeInfo e).run P w= .ok ((P.info? e).getD default) w/\((P.info? e).getD default).bytes=by_:=by
  unfold jx at hby;cases hi:P.info? e with
  |none=>simp [hi] at hby
  |some i=>simp [hi] at hby;simp [typeInfo,hi,hby]
 have hinfo2:(typeInfo e).run P w.drew= .ok ((P.info? e).getD default) w.drew:=by
  unfold jx at hby;cases hi:P.info? e with
  |none=>simp [hi] at hby
  |some i=>simp [typeInfo,hi]
 have hmax:¬((n+m:Nat):Int)>IntKind.i64.max:=by
  have:IntKind.i64.max=9223372036854775807:=by decide
  rw [this];omega
 have hcapb:¬Builtin.nextslicecap (n+m) cap*by_>2 ^ 48:=by
  have h1:=zhk hgrow;have h2:Builtin.nextslicecap (n+m) cap*by_<=(2*(n+m)+192)*by_:=Nat.mul_le_mul_right _ h1;omega
 refine ⟨Question.cut (.appendCap (n+m) cap e) (w.tape w.drawn (.appendCap (n+m) cap e)),_,?_,?_,rfl,?_⟩
 ·simp [Question.cut]
 ·unfold maxLen
  simp only [Question.cut];have:w.tape w.drawn (.appendCap (n+m) cap e) % (2 ^ 63-(n+m))<2 ^ 63-(n+m):=Nat.mod_lt _ (by omega);omega
 ·have hx':=hxc w.drew rfl
  have hs':=hsc w.drew rfl
  simp only [Builtin.append_,Sem.run_bind,run_underlying hu,Result.andThen_ok,yw hk,run_underlying hx,Sem.run_pure,Builtin.lenOf,hs0,hgrow,Bool.false_eq_true,if_false,
   Bool.not_false,if_true,hinfo.1,List.getElem?_toArray,List.getElem?_cons_zero,List.getElem?_cons_succ,false_or]
  rw [if_neg (fun h=>hmax h.1)];simp only [Sem.run_bind,Result.andThen_ok,hinfo.1,hinfo.2];rw [if_neg hcapb];simp only [Sem.run_bind,Sem.run_pure,run_choose,Question.forced,Bool.false_eq_true,if_false,World.drew_eq,Result.andThen_ok,hinfo2,run_askRoom,hs',hx',zas hz,newRow,run_newObj,World.alloc_eq,World.size_drew]
end
theorem zoj {sT xT ty e : TypeId} {by_ : Nat} {z : Value} {xv : Value} {new : List (List D)}
    (hu : P.underlying sT = some (.slice e)) (hxu : P.underlying xT = some .string) (hk : xj P e = some 1) (hby : jx P e = some by_) (hz : zai P e = some z)
    (hzk : z.cells.size = 1) (hxl : ∃ s0 : ByteArray, xv = .string s0 /\ s0.size = new.length) :
    ∀ (w : World) (I : Imm) (β : List Bnd) (H : List SObj) (b n : Nat) (rows : List (List D)) (sv : Value) (B : List Value), HeapOK G w I β H -> Rep w I β sv (.asl b 1 rows) -> H[b]? = some (.btok e n) -> n = rows.length ->
      n + new.length <= 4611686018427387904 -> (2 * (n + new.length) + 192) * by_ <= 281474976710656 -> Flat w I 1 new B -> (∀ w' : World, (∀ c o, I c o -> w'.cell? ⟨c, o, none⟩ = w.cell? ⟨c, o, none⟩) -> (Builtin.firstCells 1 new.length xv).run P w' = .ok B.toArray w') ->
      ∃ u w' I' β', (Builtin.append_ #[sT, xT] ty #[sv, xv]).run P w = .ok u w' /\ Rep w' I' β' u (.asl b 1 (rows ++ new)) /\ HeapOK G w' I' β' (H.set b (.btok e (n + new.length))) /\
        ∀ m, Ext m w I β H w' I' β' (H.set b (.btok e (n + new.length))) := by
  intro w I β H b n rows sv B hH hs hb hn hsmall hcap hB hxc
  cases hs with
  | asl _ _ _ _ u n' hd hbu hus hle heq =>
  obtain ⟨ua, ucap, rfl⟩ := hus
  have hob := hH.obj b _ _ hb hbu
  have hn' : n' = n := by
    rcases hob with ⟨h1, h2⟩ | ⟨c, cap, vs, h1, _⟩
    · cases h2; exact h1.symm
    · cases h1; rfl
  subst hn'
  have hsv := heq hn.symm
  subst hsv
  have hblt := lt_of_getElem? hb
  have hbxlt := lt_of_getElem? hbu
  obtain ⟨A, hA, hsl, hsc⟩ := hd.flat (P := P)
  have hlenR : (rows ++ new).length = n' + new.length := by simp [hn]
  by_cases hm0 : new.length = 0
  · -- nothing is appended
    have hnil : new = [] := List.length_eq_zero_iff.1 hm0
    subst hnil
    have hrun : (Builtin.append_ #[sT, xT] ty #[.slice ua n' ucap, xv]).run P w = .ok (.slice ua n' ucap) w := by
      have hBn : B = [] := List.length_eq_zero_iff.1 (by rw [hB.len]; simp)
      subst hBn
      rcases hob with ⟨h1, h2⟩ | ⟨c, cap, vs, h1, h2, h3, h4, h5, h6⟩
      · cases h2
        exact zoi hu hxu hk hxl (by simpa using hxc w (fun _ _ _ => rfl))
      · cases h1
        have := zhd (w := w) (ty := ty) hu hxu hk (n := n') (cap := ucap) (m := 0) (c := c) hxl (by simpa using hxc w (fun _ _ _ => rfl)) (by omega) h2 (by simp) (by simp) h3
        rw [this]
        have ee : (vs.toList.take (n' * 1) ++ [] ++ vs.toList.drop (n' * 1 + 0 * 1)).toArray = vs := by simp
        rw [ee, setRow_self w c vs e (0, 0) h2]
        simp
    refine ⟨_, w, I, β, hrun, ?_, ?_, ?_⟩
    · rw [List.append_nil]; exact .asl b 1 rows _ _ n' hd hbu ⟨_, _, rfl⟩ hle heq
    · rw [List.length_nil, Nat.add_zero, set_self hb]; exact hH
    · rw [List.length_nil, Nat.add_zero, set_self hb]; exact fun m => .refl
  · -- it grows, or there is room
    have grow : ¬ n' + new.length <= ucap -> (Bnd.tok (.slice ua n' ucap)).block = none \/ True ->
        ∃ u w' I' β', (Builtin.append_ #[sT, xT] ty #[.slice ua n' ucap, xv]).run P w = .ok u w' /\ Rep w' I' β' u (.asl b 1 (rows ++ new)) /\ HeapOK G w' I' β' (H.set b (.btok e (n' + new.length))) /\
          ∀ m, Ext m w I β H w' I' β' (H.set b (.btok e (n' + new.length))) := by
      intro hg _
      obtain ⟨newCap, rest, hc1, hc2, hrest, hrun⟩ := zlq (w := w) (ty := ty) hu hxu hk hby hz (base := ua) (n := n') (cap := ucap) (A := A) (B := B) hxl (fun w' hw' => hxc w' (fun c o _ => by simp [World.cell?, hw']))
        (fun w' hw' => by have := hsc w' (fun c o _ => by simp [World.cell?, hw']); rw [<- hn] at this; exact this) hg hsmall hcap
      have hAs : A.length = n' * 1 := by rw [hA.len, hn]
      have hBs : B.length = new.length * 1 := hB.len
      have hrs : rest.size = (newCap - (n' + new.length)) * 1 := by rw [hrest]; simp [Builtin.zeroCells, hzk]
      have hvs : (A.toArray ++ B.toArray ++ rest).size = newCap * 1 := by
        simp only [Array.size_append, List.size_toArray, hAs, hBs, hrs]
        rw [<- Nat.add_mul, <- Nat.add_mul]; congr 1; omega
      have hsize : w.drew.heap.size = w.heap.size := rfl
      have hnewblk : (w.drew.alloc (.cells (A.toArray ++ B.toArray ++ rest) e)).heap[w.heap.size]? = some (.cells (A.toArray ++ B.toArray ++ rest) e (0, 0)) := ys (w := w.drew) _
      have hold : ∀ c, c < w.heap.size -> (w.drew.alloc (.cells (A.toArray ++ B.toArray ++ rest) e)).heap[c]? = w.heap[c]? := fun c hc => by
        show (w.heap.push _)[c]? = _
        rw [Array.getElem?_push, if_neg (by omega)]
      have hcell : ∀ c o, I c o -> (w.drew.alloc (.cells (A.toArray ++ B.toArray ++ rest) e)).cell? ⟨c, o, none⟩ = w.cell? ⟨c, o, none⟩ := fun c o hc => yh (hold c (hH.inI c o hc)) o
      have hIm : ∀ c o, I c o -> (I.plus w.heap.size ((n' + new.length) * 1)) c o := fun _ _ h => .inl h
      have hmv := fun m => hH.moveBtok (m := m) (n' := n' + new.length) (u' := .slice (some ⟨w.heap.size, 0, none⟩) (n' + new.length) newCap) (w' := w.drew.alloc (.cells (A.toArray ++ B.toArray ++ rest) e)) (I' := I.plus w.heap.size ((n' + new.length) * 1)) hb hbu ⟨_, _, _, _, rfl, rfl⟩ (by omega)
        (by simp) (fun c hc _ => hold c hc) hcell hIm
        (by rintro c o (hi | ⟨rfl, _⟩)
            · exact .inl hi
            · exact .inr rfl)
        (by rintro c o (hi | ⟨rfl, _⟩)
            · have := hH.inI c o hi; simp; omega
            · simp)
        (fun c hc => by cases hc; exact .inr (Nat.le_refl _))
        (.inr ⟨w.heap.size, newCap, _, rfl, hnewblk, hvs, hc1, hc2, fun o ho => by
          rintro (hi | ⟨_, hi⟩)
          · have := hH.inI _ o hi; omega
          · omega⟩)
      refine ⟨_, _, _, _, hrun, ?_, (hmv 0).1, fun m => (hmv m).2⟩
      refine .asl b 1 (rows ++ new) _ _ (n' + new.length) ?_ (List.getElem?_set_self hbxlt) ⟨_, _, rfl⟩ (by omega) (fun _ => rfl)
      refine ((hA.mono hIm hcell).append (hB.mono hIm hcell)).drep hlenR.symm (fun t ht => ⟨.inr ⟨rfl, ht⟩, ?_⟩) hc1 hc2
      rw [cell_of_heap hnewblk]
      have : t < A.length + B.length := by rw [hAs, hBs, <- Nat.add_mul]; exact ht
      rw [Array.getElem?_append_left (by simpa using this)]
      simp
    rcases hob with ⟨h1, h2⟩ | ⟨c, cap, vs, h1, h2, h3, h4, h5, h6⟩
    · cases h2
      exact grow (by omega) (.inr trivial)
    · cases h1
      by_cases hfit : n' + new.length <= ucap
      · have hrun := zhd (w := w) (ty := ty) hu hxu hk (n := n') (cap := ucap) (m := new.length) (c := c) hxl (hxc w (fun _ _ _ => rfl)) hfit h2 hB.len hB.one h3
        have hBs : B.length = new.length * 1 := hB.len
        obtain ⟨A', hA', _, _, _, hcells⟩ := hd.flatAt
        have hAs : A'.length = n' * 1 := by rw [hA'.len, hn]
        have hle2 : n' * 1 + new.length * 1 <= vs.size := by rw [h3, <- Nat.add_mul]; exact Nat.mul_le_mul_right 1 hfit
        generalize hW : w.setRow c (vs.toList.take (n' * 1) ++ B ++ vs.toList.drop (n' * 1 + new.length * 1)).toArray = W at hrun
        have hnb : W.heap[c]? = some (.cells (vs.toList.take (n' * 1) ++ B ++ vs.toList.drop (n' * 1 + new.length * 1)).toArray e (0, 0)) := by rw [<- hW]; exact setRow_heap w c vs _ e _ h2
        have hother : ∀ c', c' ≠ c -> W.heap[c']? = w.heap[c']? := by
          intro c' hne
          rw [<- hW]; simp [World.setRow, Array.getElem?_modify, Ne.symm hne]
        have hsz : W.heap.size = w.heap.size := by rw [<- hW]; simp [World.setRow]
        have hlow : ∀ o, o < n' * 1 -> W.cell? ⟨c, o, none⟩ = w.cell? ⟨c, o, none⟩ := by
          intro o ho
          rw [cell_of_heap hnb, cell_of_heap h2]
          simp only [List.getElem?_toArray, List.append_assoc]
          rw [List.getElem?_append_left (by simp; omega), List.getElem?_take, if_pos ho]
          simp
        have hcell : ∀ c' o, I c' o -> W.cell? ⟨c', o, none⟩ = w.cell? ⟨c', o, none⟩ := by
          intro c' o hi
          by_cases e : c' = c
          · subst e
            exact hlow o (Nat.lt_of_not_le fun h => h6 o h hi)
          · exact yh (hother c' e) o
        have hIm : ∀ c' o, I c' o -> (fun b' o => I b' o \/ (b' = c /\ n' * 1 <= o /\ o < (n' + new.length) * 1)) c' o := fun _ _ h => .inl h
        have hmv := fun m => hH.moveBtok (m := m) (n' := n' + new.length) (u' := .slice (some ⟨c, 0, none⟩) (n' + new.length) ucap) (w' := W) (I' := fun b' o => I b' o \/ (b' = c /\ n' * 1 <= o /\ o < (n' + new.length) * 1)) hb hbu ⟨_, _, _, _, rfl, rfl⟩ (by omega)
          (by omega) (fun c' _ hne => hother c' (fun e => hne (by rw [e]; rfl))) hcell hIm
          (by rintro c' o (hi | ⟨rfl, _⟩)
              · exact .inl hi
              · exact .inr rfl)
          (by rintro c' o (hi | ⟨rfl, _⟩)
              · rw [hsz]; exact hH.inI c' o hi
              · rw [hsz]; exact xw h2)
          (fun c' hc => by cases hc; exact .inl rfl)
          (.inr ⟨c, ucap, _, rfl, hnb, by simp only [List.size_toArray, List.length_append, List.length_take, List.length_drop, Array.length_toList, hBs]; omega, hfit, h5, fun o ho => by
            rintro (hi | ⟨_, _, hi⟩)
            · exact h6 o (Nat.le_trans (Nat.mul_le_mul_right 1 (Nat.le_add_right _ _)) ho) hi
            · omega⟩) (by rw [<- hW]; exact ⟨rfl, rfl⟩)
        refine ⟨_, W, _, _, hrun, ?_, (hmv 0).1, fun m => (hmv m).2⟩
        refine .asl b 1 (rows ++ new) _ _ (n' + new.length) ?_ (List.getElem?_set_self hbxlt) ⟨_, _, rfl⟩ (by omega) (fun _ => rfl)
        refine ((hA'.mono hIm hcell).append (hB.mono hIm hcell)).drep hlenR.symm (fun t ht => ?_) hfit h5
        rcases Nat.lt_or_ge t (n' * 1) with hlt | hge
        · have := hcells t (by rw [<- hn]; exact hlt)
          rw [Nat.zero_add] at this
          exact ⟨.inl this.1, by rw [hlow t hlt, this.2, List.getElem?_append_left (by omega)]⟩
        · refine ⟨.inr ⟨rfl, hge, ht⟩, ?_⟩
          rw [cell_of_heap hnb]
          have hlt2 : t - n' * 1 < B.length := by rw [hBs]; rw [Nat.add_mul] at ht; omega
          rw [List.getElem?_append_right (by omega), hAs]
          simp only [List.getElem?_toArray, List.append_assoc]
          have hlt3 : (List.take (n' * 1) vs.toList).length = n' * 1 := by simp; omega
          rw [List.getElem?_append_right (by omega), hlt3, List.getElem?_append_left hlt2]
      · exact grow hfit (.inr trivial)
end
theorem yis (w:World) (I:Imm) (l:List UInt8):Flat w I 1 (l.map fun c=>[D.val (.int .u8 c.toNat)]) (l.map fun c=>Value.int .u8 c.toNat):=by
 refine ⟨by simp,fun i hi=>by simp,fun v hv=>?_,fun i j hi hj x hx=>?_⟩
 ·obtain ⟨c,_,rfl⟩:=List.mem_map.1 hv
  rfl
 ·have hj0:j=0:=by simp at hj;omega
  subst hj0;simp only [Nat.mul_one,Nat.add_zero,List.getElem?_map] at hx;have hil:i<l.length:=by simpa using hi
  rw [List.getElem?_eq_getElem hil] at hx;simp only [Option.map_some,Option.some.injEq] at hx;subst hx;simp only [List.getElem_map,List.getElem_cons_zero];exact .val _
section
variable {P:Program} {G:List (Nat × D)} {fn:Func} {rd:Bool} {E:En P G fn rd} {t:List (Nat × SV)} {H:List SObj} {k:List Item} {all:Array Oper} {rest:List Oper} {o:Oper}
theorem zrs {b by_ e:Nat} {z:Value} {sx xx:Operand} {sT xT:Nat} {rows:List (List D)} {s:ByteArray} (hop:o.op= .call ⟨.builtin .append,#[sx,xx],#[sT,xT]⟩)
  (hw:ya all t o.guard=some true) (hd:yf fn.ntmps o.dst=true) (hs:zo G t sx= .asl b 1 rows) (hx:zo G t xx= .imm (.val (.string s))) (hu:P.underlying sT=some (.slice e)) (hu':P.underlying xT=some .string)
  (hk:xj P e=some 1) (hby:jx P e=some by_) (hz:zai P e=some z) (hcond:by_<=65536/\z.cells.size=1) (hb:H[b]?=some (.btok e rows.length)) (hlen:rows.length+s.size<=1073741824)
  (h:SWr E all rest k (xl t o.dst (.asl b 1 (rows++s.data.toList.map fun c=>[D.val (.int .u8 c.toNat)]))) (H.set b (.btok e (rows.length+s.size)))):SWr E all (o::rest) k t H:=by
 refine qf (r:=.asl b 1 (rows++s.data.toList.map fun c=>[D.val (.int .u8 c.toNat)])) (H':=H.set b (.btok e (rows.length+s.size))) hw hd (fun c e=>by rw [hop] at e;cases e) (by simp) (fun ρ w I β hH hev=>?_) h;obtain ⟨dst,op,type,pos,after,guard⟩:=o;simp only at hop;subst hop;have h1:=hev sx;rw [hs] at h1;have h2:=hev xx;rw [hx] at h2;generalize hxv:ρ xx=xv at h2;cases h2 with|imm h2=>cases h2 with|val _=>
 have hl:(s.data.toList.map fun c=>[D.val (.int .u8 c.toNat)]).length=s.size:=by simp
 have hcap:(2*(rows.length+s.size)+192)*by_<=281474976710656:=by
  have h2:(2*(rows.length+s.size)+192)*by_<=(2*1073741824+192)*65536:=Nat.mul_le_mul (by omega) hcond.1;omega
 obtain ⟨u,w',I',β',g1,g2,g3,g4⟩:=zoj (ty:=type) (xv:=.string s) (new:=s.data.toList.map fun c=>[D.val (.int .u8 c.toNat)]) hu hu' hk hby hz hcond.2 ⟨s,rfl,hl.symm⟩ w I β H b _ rows (ρ sx) _ hH h1 hb rfl (by rw [hl];omega) (by rw [hl];exact hcap) (yis w I _)
  (fun w' _=>by
   rw [hl];simp only [Builtin.firstCells,Sem.run_pure]
   congr 1
   apply Array.ext'
   simp)
 rw [hl] at g3 g4;refine OpRun.value (u:=u) ?_ g2 g3 (g4 _);show Sem.run P (Builtin.append_ #[sT,xT] type (Array.map ρ #[sx,xx])) w=_;rw [show Array.map ρ #[sx,xx]=#[ρ sx,ρ xx] by simp,hxv];exact g1
end
end Go.Sh
namespace Go.Proofs.YtjnddlifnkgncaaGreatDoor
open Go Go.Sh
theorem zak (G:List (Nat × D)) (l:List UInt8) (s:ByteArray) (hl:l.length+s.size<=1000000):SCall Tryz.prog G 93 [.ptr 0 0,sS s] (zst l) (fun r H'=>r= .tup [sI s.size,.imm (.val .nilIface)]/\H'=zst (l++s.data.toList)):=by
 refine xb Tryz.func93 rfl (by rw [Tryz.ntmps93];simp) fun E hH hK=>?_
 have e5:(l.map fun c=>[dU8 c])++(s.data.toList.map fun c=>[dU8 c])=(l++s.data.toList).map fun c=>[dU8 c]:=by simp
 have e6:(l.map fun c=>[dU8 c]).length+s.size=((l++s.data.toList).map fun c=>[dU8 c]).length:=by simp
 have hlm:(l.map fun c=>[dU8 c]).length=l.length:=by simp
 (refine zg ?_;conv=>whnf);refine ym rfl rfl rfl rfl rfl rfl ((yfe G (.asl 1 1 (l.map fun c=>[dU8 c])) rfl [.btok 5 (l.map fun c=>[dU8 c]).length]).mono fun r H' ⟨h1,h2⟩=>⟨by rw [h2];exact Nat.le_refl _,?_⟩);subst h1 h2;(refine zc ?_;conv=>whnf);refine zrs (b:=1) (rows:=l.map fun c=>[dU8 c]) (s:=s) rfl rfl rfl rfl rfl rfl rfl rfl rfl rfl ⟨show 1<=65536 by decide,rfl⟩ rfl (by rw [hlm];omega) ?_;refine Eq.mpr (congrArg (fun v=>SWr E _ _ _ (xl _ _ (.asl 1 1 v)) _) e5) ?_;refine Eq.mpr (congrArg (fun v=>SWr E _ _ _ _ (List.set _ 1 (.btok 5 v))) e6) ?_;(refine zc ?_;conv=>whnf);exact hK _ _ ⟨rfl,rfl⟩
theorem zwl (G:List (Nat × D)) (s:ByteArray) (hl:s.size<=1000000):SCall Tryz.prog G 93 [.ptr 0 0,sS s] [.bld 161] (fun r H'=>r= .tup [sI s.size,.imm (.val .nilIface)]/\H'=zst s.data.toList):=by
 refine xb Tryz.func93 rfl (by rw [Tryz.ntmps93];simp) fun E hH hK=>?_
 have e6:0+s.size=(s.data.toList.map fun c=>[dU8 c]).length:=by simp
 (refine zg ?_;conv=>whnf);refine ym rfl rfl rfl rfl rfl rfl ((zqr G).mono fun r H' ⟨h1,h2⟩=>⟨by rw [h2];exact Nat.le_refl _,?_⟩);subst h1 h2;refine zan (fun _ h=>zqq 0 1 5 (cs:=[.ptr 0 0,yuf]) rfl rfl h) ?_;change SWr E _ _ _ _ [.cells [.ptr 0 0,.asl 1 1 []],.btok 5 0];(refine zc ?_;conv=>whnf);refine zrs (b:=1) (rows:=[]) (s:=s) rfl rfl rfl rfl rfl rfl rfl rfl rfl rfl ⟨show 1<=65536 by decide,rfl⟩ rfl (by simp;omega) ?_;refine Eq.mpr (congrArg (fun v=>SWr E _ _ _ _ (List.set _ 1 (.btok 5 v))) e6) ?_;(refine zc ?_;conv=>whnf);exact hK _ _ ⟨rfl,rfl⟩
theorem ynl (G:List (Nat × D)) (n:Nat) (hn:n<=281474976710656):SCall Tryz.prog G 194 [.ptr 0 0,sI n] [.cells [.ptr 0 0,yuf]] (fun r H'=>r= .tup []/\H'=[.cells [.ptr 0 0,.asl 1 1 []],.btok 5 0]):=by
 intro w I β vs hH hv;obtain ⟨a,b,e1,ha,hb⟩:=hv.two;cases ha with
 |ptr _ c _ hc=>
 cases hb with|imm hb=>
 cases hb with|val _=>
 obtain rfl:vs=#[.pointer (some ⟨c,0,none⟩),.int .i64 n]:=by
  apply Array.ext'
  rw [e1]
 obtain ⟨us,T,h1,h2,h3,h4⟩:=hH.obj 0 _ _ rfl hc;have hβl:β.length=1:=hH.len;have h2:us.size=2:=h2;have q0:=h3 0 (by decide) (by omega);have q1:=h3 1 (by decide) (by omega);obtain ⟨p,hp⟩:∃p,p=us[0]'(by omega):=⟨_,rfl⟩;have hus:us=#[p,.slice none 0 0]:=by
  apply Array.ext
  ·rw [h2];rfl
  ·intro j hj hj'
   match j,hj with
   |0,_=>exact hp.symm
   |1,_=>
    have q1':Rep w I β (us[1]'(by omega)) yuf:=q1;generalize us[1]'(by omega)=u at q1' ⊢;cases q1' with|imm q=>cases q;rfl
   |j+2,hj=>omega
 have q0:Rep w I β p (.ptr 0 0):=by rw [hp];exact q0
 subst hus;have hlt:c<w.heap.size:=xw h1;refine (yin c n p T w h1 hn).mono ?_;rintro e w' ⟨rfl,cs,hle,hm,rfl⟩;obtain ⟨v,hv'⟩:∃v,v=Value.slice (some ⟨w.heap.size,0,none⟩) 0 cs.size:=⟨_,rfl⟩;rw [<-hv'];have hs1:(w.setCell ⟨c,1,none⟩ v).heap.size=w.heap.size:=by simp [World.setCell]
 obtain ⟨W,hW⟩:∃W,W=((w.setCell ⟨c,1,none⟩ v).alloc (.cells cs 5)).drew.drew.drew:=⟨_,rfl⟩;have hWh:W.heap=(w.setCell ⟨c,1,none⟩ v).heap.push (.cells cs 5):=by rw [hW];rfl
 have hWe:zeu w W:=by rw [hW];exact ⟨rfl,rfl⟩
 rw [<-hW];clear hW;have hsz:W.heap.size=w.heap.size+1:=by rw [hWh,Array.size_push,hs1]
 have hW0:W.heap[c]?=some (.cells #[p,v] T (0,0)):=by
  rw [hWh,Array.getElem?_push,if_neg (by omega)];simp [World.setCell,Array.getElem?_modify,h1]
 have hW1:W.heap[w.heap.size]?=some (.cells cs 5 (0,0)):=by
  rw [hWh,Array.getElem?_push,if_pos (by omega)]
 have hold:∀c',c'<w.heap.size->c'≠c->W.heap[c']?=w.heap[c']?:=fun c' hc' hne=>by
  rw [hWh,Array.getElem?_push,if_neg (by omega)];simp [World.setCell,Array.getElem?_modify,Ne.symm hne]
 have hcell:∀c' o,I c' o->W.cell? ⟨c',o,none⟩=w.cell? ⟨c',o,none⟩:=fun c' o hi=>yh (hold c' (hH.inI c' o hi) (fun e=>h4 o (e ▸ hi))) o
 have o0:qe [SObj.cells [.ptr 0 0,yuf]] β 0 c:=⟨_,_,rfl,by simp,hc,rfl⟩;have hb0:(β++[Bnd.tok v])[0]?=some (.blk c):=by rw [List.getElem?_append_left (by omega)];exact hc
 have hb1:(β++[Bnd.tok v])[1]?=some (.tok v):=by rw [List.getElem?_append_right (by omega),hβl];rfl
 have hown:∀b c',qe [SObj.cells [.ptr 0 0,.asl 1 1 []],.btok 5 0] (β++[Bnd.tok v]) b c'->(b=0/\c'=c)\/(b=1/\c'=w.heap.size):=by
  rintro b c' ⟨o,x,g1,g2,g3,g4⟩
  match b,g1 with
  |0,_=>rw [hb0] at g3;cases g3;cases g4;exact .inl ⟨rfl,rfl⟩
  |1,_=>rw [hb1] at g3;cases g3;rw [hv'] at g4;cases g4;exact .inr ⟨rfl,rfl⟩
 refine ⟨_,.tup [],I,β++[.tok v],_,rfl,⟨rfl,rfl⟩,.tup #[] [] rfl (fun j h=>by simp at h),⟨by simp [hβl],fun b o x g1 g2=>?_,fun b b' c' g1 g2=>?_,fun c' o hi=>by rw [hsz];have:=hH.inI c' o hi;omega,fun gg d hg=>(hH.glob gg d hg).mono (fun _ _ h=>h) hcell⟩,?_⟩
 ·match b,g1 with
  |0,g1=>
   cases g1;rw [hb0] at g2;cases g2;refine ⟨#[p,v],T,hW0,rfl,fun j hj hj'=>?_,h4⟩
   match j,hj with
   |0,_=>exact q0.mono (fun _ _ h=>h) hcell (.push _ _ _)
   |1,_=>
    refine Rep.asl 1 1 [] v v 0 ?_ hb1 ⟨_,_,hv'⟩ (Nat.le_refl _) (fun _=>rfl);rw [hv'];exact DRep.isl w.heap.size 0 cs.size 1 [] (fun _ _=>undef) (Nat.zero_le _) hm (fun i h=>by simp at h) (fun i j h=>by simp at h) (fun i j h=>by simp at h)
  |1,g1=>
   cases g1;rw [hb1] at g2;cases g2;exact .inr ⟨w.heap.size,cs.size,cs,hv',hW1,(Nat.mul_one _).symm,Nat.zero_le _,hm,fun o _ hi=>Nat.lt_irrefl _ (hH.inI _ o hi)⟩
 ·rcases hown _ _ g1 with ⟨rfl,rfl⟩|⟨rfl,rfl⟩
  ·rcases hown _ _ g2 with ⟨rfl,_⟩|⟨_,e⟩
   ·rfl
   ·omega
  ·rcases hown _ _ g2 with ⟨_,e⟩|⟨rfl,_⟩
   ·omega
   ·rfl
 ·exact {imm:=fun _ _ h=>h,cell:=hcell,keep:=.push _ _ _,old:=fun c' hc' hn=>hold c' hc' (fun e=>hn 0 (e ▸ o0)),own:=fun b c' h=>(hown b c' h).elim (fun ⟨_,e⟩=>.inl ⟨0,e ▸ o0⟩) (fun ⟨_,e⟩=>.inr (by omega)),new:=fun _ _ h=>.inl h,size:=by omega,env:=hWe}
def xf (l:List ByteArray):D:=.isl 1 (l.map fun s=>[dS s])
def zcg:List Nat->List Nat
 |a::b::r=>zdo a b::zcg r
 |l=>l
theorem zde:∀l:List Nat,(zcg l).length=(l.length+1) / 2
 |[]=>rfl
 |[_]=>by simp [zcg]
 |a::b::r=>by
  rw [zcg,List.length_cons,zde r];simp only [List.length_cons];omega
def qn:Nat->List Nat->List (List Nat)
 |0,r=>[r]
 |f+1,r=>if 1<r.length then r::qn f (zcg r) else [r]
theorem zuk (f:Nat) {r:List Nat} (h:¬1<r.length):qn f r=[r]:=by
 cases f with
 |zero=>rfl
 |succ f=>rw [qn,if_neg h]
theorem zrt {f:Nat} {r:List Nat} (hf:r.length<=f) (h:1<r.length):∃f',qn f r=r::qn f' (zcg r)/\(zcg r).length<=f':=by
 obtain ⟨f,rfl⟩:∃f',f=f'+1:=⟨f-1,by omega⟩;refine ⟨f,by rw [qn,if_pos h],?_⟩;rw [zde];omega
theorem zwm {l:List Nat} (h:∀x∈l,x<18446744073709551616):∀x∈zcg l,x<18446744073709551616:=by
 match l,h with
 |[],h=>exact h
 |[_],h=>exact h
 |a::b::r,h=>
  intro x hx;rw [zcg] at hx;rcases List.mem_cons.1 hx with rfl|hx
  ·exact zbc _
  ·exact zwm (fun y hy=>h y (by simp [hy])) x hx
theorem zwn (G:List (Nat × D)) (s:ByteArray) (hs:s.size<=1000000000000):zv Tryz.prog G 131 [sS s] (sS (⟨#[0]⟩++s)):=by
 refine zf Tryz.func131 rfl (by rw [Tryz.ntmps131];simp) rfl rfl ?_;intro E hH hK;(refine yb [777,4] 1000 ?_;conv=>whnf);refine jt rfl rfl rfl rfl rfl (by show 1+s.size<=_;omega) ?_;(refine zc ?_;conv=>whnf);exact hK _
theorem zru (G:List (Nat × D)) (l:List ByteArray) (h1:1<=l.length) (h2:l.length<=1024):zv Tryz.prog G 91 [.imm (xf l)] (sI (0:Nat)):=by
 have hl:(l.map fun s=>[dS s]).length=l.length:=by simp
 refine zf Tryz.func91 rfl (by rw [Tryz.ntmps91];simp) rfl rfl ?_;intro E hH hK;(refine zg ?_;conv=>whnf)
 repeat' ((with_reducible refine way ?_ ?_)<;>(intro h;conv=>whnf))
 all_goals try (exfalso;omega)
 exact hK _
theorem yaa (G:List (Nat × D)) (l:List ByteArray) (H:List SObj):SCall Tryz.prog G 92 [.imm (xf l)] H (fun r H'=>r= .fn (.func 130) [] [.ptr H.length 0]/\H'=H++[.cells [.imm (xf l)]]):=by
 refine xb Tryz.func92 rfl (by rw [Tryz.ntmps92];simp) ?_;intro E hH hK;(refine zg ?_;conv=>whnf);exact hK _ _ ⟨rfl,rfl⟩
structure RowH {σ:Type} (Hf:σ->List SObj) (N b L:Nat) (leaves:List ByteArray) (lp:SObj):Prop where
 len:∀s,(Hf s).length=N
 box:∀s,(Hf s)[b]?=some (.cells [.imm (xf leaves)])
 loop:∀s,(Hf s)[L]?=some lp
 und:∀s,(Hf s).all (SObj.under N)=true
 lb:b<N
 lL:L<N
theorem znw (G:List (Nat × D)) {σ:Type} {Hf:σ->List SObj} {N b L:Nat} {leaves:List ByteArray} {f:FuncId} {n:Nat} {tL:List (Nat × SV)} {ps:Array Tmp} {asg bd:Code} (hf:RowH Hf N b L leaves (.loop .ready f n tL ps asg bd)) (hps:1=ps.size) (step:σ->List Nat->σ)
  (hl1:1<=leaves.length) (hl2:leaves.length<=1024) (hsz:∀x∈leaves,x.size<=1000000000000)
  (Iv:σ->List Nat->Prop) (hiv:∀s row,Iv s row->Iv (step s row) (zcg row))
  (hy:∀s row,Iv s row->1<=row.length->row.length<=1024->(∀x∈row,x<18446744073709551616)->SYield Tryz.prog G L [.imm (zcq row)] (Hf s) (fun res H'=>res=true/\N<=H'.length/\H'.take N=Hf (step s row)))
  (s0:σ) (h0:Iv s0 (leaves.map zbq)):
  SCall Tryz.prog G 130 [.yld L,.ptr b 0] (Hf s0) (fun _ H'=>N<=H'.length/\H'.take N=Hf ((qn 1024 (leaves.map zbq)).foldl step s0)):=by
 refine xb Tryz.func130 rfl (by rw [Tryz.ntmps130];simp) ?_;intro E hH hK;rw [hf.len] at hH;have hlN:=hf.lL;have hbN:=hf.lb;have hlm:(leaves.map fun s=>[dS s]).length=leaves.length:=by simp
 have hund:=hf.und s0;have hlen:=hf.len s0;(refine yb [777,8] 1000 ?_;conv=>whnf);refine wk (v:=.imm (xf leaves)) rfl rfl rfl rfl (hf.box _) rfl ?_;(refine zc ?_;conv=>whnf);refine zje (n:=3) (kk:=1) rfl ?_;refine zi [0,3,8,9,10] ?_;rw [hlen];change SW E _ [(0,.yld L),(3,.asl N 1 (([]:List Nat).map fun n=>[dU n])),(8,.imm (xf leaves)),(9,sI (leaves.map fun s=>[dS s]).length),(10,sI (0:Nat))] (Hf s0++[.tok 1 (([]:List Nat).map fun n=>[dU n]).length]);refine zr leaves (fun i (l:List Nat)=>[(0,.yld L),(3,.asl N 1 (l.map fun n=>[dU n])),(8,.imm (xf leaves)),(9,sI (leaves.map fun s=>[dS s]).length),(10,sI i)]) (fun _ l=>Hf s0++[.tok 1 (l.map fun n=>[dU n]).length]) (fun done rest l=>l=done.map zbq) [] rfl ?_ ?_
 ·rintro l h
  have h:l=leaves.map zbq:=h;subst h;(refine zg ?_;conv=>whnf)
  repeat' ((with_reducible refine way ?_ ?_)<;>(intro h;conv=>whnf))
  all_goals try (exfalso;omega)
  refine zed ?_;refine yq [0,3] N (by omega) (by simp [hlen]) (by show ((decide (L<N))&&(true&&true))=true;simp;omega) (by rw [List.take_append_of_le_length (by omega),List.take_of_length_le (by omega)];exact hund) ?_;rw [List.take_append_of_le_length (by omega),List.take_of_length_le (by omega)];obtain ⟨row0,hrow0⟩:∃r,r=leaves.map zbq:=⟨_,rfl⟩;rw [<-hrow0] at h0 hK;change SW E _ [(0,.yld L),(3,.imm (zcq (leaves.map zbq)))] (Hf s0);rw [<-hrow0];have hr1:1<=row0.length:=by rw [hrow0,List.length_map];exact hl1
  have hr2:row0.length<=1024:=by rw [hrow0,List.length_map];exact hl2
  have hr3:∀x∈row0,x<18446744073709551616:=by
   rw [hrow0];intro x hx;obtain ⟨y,_,rfl⟩:=List.mem_map.1 hx;exact zbc _
  generalize hR:(qn 1024 row0).foldl step s0=R at hK;refine yx (σ:=σ × List Nat × Nat) (fun y=>[(0,.yld L),(3,.imm (zcq y.2.1))]) (fun y=>Hf y.1)
   (fun y=>(qn y.2.2 y.2.1).foldl step y.1=R/\Iv y.1 y.2.1/\y.2.1.length<=y.2.2/\1<=y.2.1.length/\y.2.1.length<=1024/\(∀x∈y.2.1,x<18446744073709551616)) (fun y=>y.2.1.length) ?_ (s0,row0,1024) ⟨hR,h0,hr2,hr1,hr2,hr3⟩
  clear hR h0 hr1 hr2 hr3 hrow0 hund hlen;rintro ⟨s,row,fu⟩ ⟨i1,i2,i3,i4,i5,i6⟩ ih;simp only at i1 i2 i3 i4 i5 i6;change SW E _ [(0,.yld L),(3,.imm (zcq row))] (Hf s);have hrl:(row.map fun n=>[dU n]).length=row.length:=by simp
  have hyy:=hy s row i2 i4 i5 i6;have hund:=hf.und (step s row);have hlen:=hf.len (step s row);(refine zg ?_;conv=>whnf);refine zqc rfl rfl rfl rfl (hf.loop s) hps rfl (hyy.mono ?_);rintro _ H' ⟨rfl,hl',ht⟩;refine ⟨by rw [hf.len];exact hl',?_⟩
  by_cases hmore:1<row.length
  ·obtain ⟨f',g1,g2⟩:=zrt i3 hmore
   rw [g1,List.foldl_cons] at i1;have hnext:=ih (step s row,zcg row,f') ⟨i1,hiv s row i2,g2,by simp only;rw [zde];omega,by simp only;rw [zde];omega,zwm i6⟩ (by simp only;rw [zde];omega);clear i1 hyy ih;simp only at hnext;generalize step s row=s' at hnext ht hund hlen;(refine zc ?_;conv=>whnf)
   repeat' ((with_reducible refine way ?_ ?_)<;>(intro h;conv=>whnf))
   all_goals try (exfalso;omega)
   refine yq [0,3,6,7] N (by omega) hl' (by show ((decide (L<N))&&(true&&(true&&(true&&true))))=true;simp;omega) (by rw [ht];exact hund) ?_;rw [ht];refine zje (n:=6) (kk:=1) rfl ?_;rw [hlen];refine zi [0,3,6,7] ?_;change SW E _ [(0,.yld L),(3,.imm (zcq row)),(6,.asl N 1 (([]:List Nat).map fun n=>[dU n])),(7,sI (0:Nat))] (Hf s'++[.tok 1 (([]:List Nat).map fun n=>[dU n]).length]);refine yx (σ:=List Nat × List Nat × Nat) (fun y=>[(0,.yld L),(3,.imm (zcq row)),(6,.asl N 1 (y.1.map fun n=>[dU n])),(7,sI y.2.2)]) (fun y=>Hf s'++[.tok 1 (y.1.map fun n=>[dU n]).length])
    (fun y=>row.drop y.2.2=y.2.1/\zcg row=y.1++zcg y.2.1/\y.2.2+y.2.1.length=row.length/\y.1.length<=y.2.2/\y.2.2 % 2=0) (fun y=>y.2.1.length) ?_ ([],row,0) ⟨rfl,rfl,by simp,Nat.le_refl _,rfl⟩
   rintro ⟨nx,rs,i⟩ ⟨j1,j2,j3,j4,j5⟩ ih2;simp only at j1 j2 j3 j4 j5;change SW E _ [(0,.yld L),(3,.imm (zcq row)),(6,.asl N 1 (nx.map fun n=>[dU n])),(7,sI i)] (Hf s'++[.tok 1 (nx.map fun n=>[dU n]).length]);have hget:∀j,row[i+j]?=rs[j]?:=fun j=>by rw [<-j1,List.getElem?_drop]
   have hw1:=zk (n:=i) (by omega);have htok:∀n,(Hf s'++[SObj.tok 1 n])[N]?=some (.tok 1 n):=fun n=>by rw [List.getElem?_append_right (by omega),hlen];simp
   match rs,j1,j2,j3,ih2,hget with
   |a::b::r,j1,j2,j3,ih2,hget=>
    simp only [List.length_cons] at j3;have ha:(row.map fun n=>[dU n])[i]?=some [dU a]:=by rw [List.getElem?_map,show i=i+0 from rfl,hget 0];rfl
    have hb:(row.map fun n=>[dU n])[i+1]?=some [dU b]:=by rw [List.getElem?_map,hget 1];rfl
    have ra:a<18446744073709551616:=i6 a (List.mem_of_getElem? (hget 0));have rb:b<18446744073709551616:=i6 b (List.mem_of_getElem? (hget 1));have c1:=ynk G a b ra rb;have hnx:=ih2 (nx++[zdo a b],r,i+2) ⟨by rw [show i+2=i+1+1 from rfl, <-List.drop_drop, <-List.drop_drop,j1];rfl,by rw [j2,zcg];simp,by simp only;omega,by simp only [List.length_append,List.length_cons,List.length_nil];omega,by simp only;omega⟩ (by simp only [List.length_cons];omega);have hw2:IntKind.i64.wrap ((i:Int)+2)=((i+2:Nat):Int):=by rw [yg (by omega) (by omega)];omega
    rw [List.map_append,List.length_append] at hnx;(refine zg ?_;conv=>whnf);rw [hw1]
    repeat' ((with_reducible refine way ?_ ?_)<;>(intro h;conv=>whnf))
    all_goals try (exfalso;omega)
    refine wd 0 mixed rfl ?_;have hK1:N+1<=(Hf s'++[SObj.tok 1 (nx.map fun n=>[dU n]).length]++List.replicate 0 SObj.dead).length:=by simp;omega
    have hK2:(Hf s'++[SObj.tok 1 (nx.map fun n=>[dU n]).length]).length<=(Hf s'++[SObj.tok 1 (nx.map fun n=>[dU n]).length]++List.replicate 0 SObj.dead).length:=by simp
    refine zaj ⟨_,[],none⟩ rfl rfl hK2 (fun _ _ _=>rfl) ?_;refine zaj ⟨_,[],none⟩ rfl rfl hK2 (fun _ _ _=>rfl) ?_;refine zaj ⟨_,[],none⟩ rfl rfl hK2 (fun _ _ _=>rfl) ?_;refine qv (i:=i) (row:=[dU a]) rfl hK2 rfl ha ?_;refine zaj ⟨_,[],none⟩ rfl rfl hK2 (fun _ _ _=>rfl) ?_;refine zaj ⟨_,[],none⟩ rfl rfl hK2 (fun _ _ _=>rfl) ?_;refine zaj ⟨_,[],none⟩ rfl rfl hK2 (fun _ _ _=>rfl) ?_;refine zaj ⟨_,[],none⟩ rfl rfl hK2 (fun _ _ _=>rfl) ?_;refine qv (i:=i+1) (row:=[dU b]) rfl hK2 hw1 hb ?_;refine zaj ⟨_,[],none⟩ rfl rfl hK2 (fun _ _ _=>rfl) ?_;refine zqf rfl hK2 c1 ?_;refine zaj ⟨_,[],none⟩ rfl rfl hK2 (fun _ _ _=>rfl) ?_;refine zco (b:=N) (kk:=1) (rows:=nx.map fun n=>[dU n]) (new:=[[dU (zdo a b)]]) rfl rfl rfl rfl rfl rfl rfl rfl rfl rfl ⟨show 8<=65536 by decide,rfl⟩ hK2 (by rw [List.replicate_zero,List.append_nil];exact htok _) (by simp;omega) ?_;refine zaj ⟨_,[],none⟩ rfl rfl (by rw [List.length_set];exact hK2) (fun _ _ _=>rfl) ?_;refine jr (by kernel_rfl) ?_;(refine zg ?_;conv=>whnf);rw [hw2];refine zi [0,3,6,7] ?_;have eH:zhb (Hf s'++[SObj.tok 1 (nx.map fun n=>[dU n]).length]++List.replicate 0 SObj.dead) (some (N,.tok 1 ((nx.map fun n=>[dU n])++[[dU (zdo a b)]]).length))=Hf s'++[.tok 1 ((nx.map fun n=>[dU n]).length+([zdo a b].map fun n=>[dU n]).length)]:=by
     show (Hf s'++[SObj.tok 1 (nx.map fun n=>[dU n]).length]++List.replicate 0 SObj.dead).set N _=_;rw [List.replicate_zero,List.append_nil,List.set_append_right _ _ (by omega),hlen,Nat.sub_self,List.length_append];rfl
    refine Eq.mpr (congrArg (fun h=>SW E _ _ h) eH) ?_;exact hnx
   |[x],j1,j2,j3,ih2,hget=>
    simp only [List.length_cons,List.length_nil] at j3;have hm:(((row.map fun n=>[dU n]).length:Nat):Int).tmod 2=1:=by rw [Int.tmod_eq_emod_of_nonneg (by omega)];omega
    have hx:(row.map fun n=>[dU n])[i]?=some [dU x]:=by rw [List.getElem?_map,show i=i+0 from rfl,hget 0];rfl
    have hw3:IntKind.i64.wrap ((((row.map fun n=>[dU n]).length:Nat):Int)-1)=(i:Int):=by rw [yg (by omega) (by omega)];omega
    (refine zg ?_;conv=>whnf);rw [hw1]
    repeat' ((with_reducible refine way ?_ ?_)<;>(intro h;conv=>whnf))
    all_goals try (exfalso;omega)
    ·refine zh (i:=i) (row:=[dU x]) rfl hw3 hx ?_
     (refine zl [777,61] 1000 ?_;conv=>whnf);refine yy (b:=N) (kk:=1) (rows:=nx.map fun n=>[dU n]) (new:=[[dU x]]) rfl ⟨by decide,rfl⟩ (htok _) (by simp;omega) ?_;(refine zc ?_;conv=>whnf);refine zed ?_;refine yq [0,3] N (by omega) (by simp [hlen]) (by show ((decide (L<N))&&(true&&true))=true;simp;omega) ?_ ?_
     all_goals rw [List.set_append_right _ _ (by omega),List.take_append_of_le_length (by omega),List.take_of_length_le (by omega)]
     ·exact hund
     ·have e:zcg row=nx++[x]:=j2
      rw [e] at hnext;have e5:(nx.map fun n=>[dU n])++[[dU x]]=(nx++[x]).map fun n=>[dU n]:=by simp
      refine Eq.mpr (congrArg (fun v=>SW E _ [(0,.yld L),(3,.imm (.isl 1 v))] _) e5) ?_;exact hnext
   |[],j1,j2,j3,ih2,hget=>
    simp only [List.length_nil] at j3;have hm:¬(((row.map fun n=>[dU n]).length:Nat):Int).tmod 2=1:=by rw [Int.tmod_eq_emod_of_nonneg (by omega)];omega
    (refine zg ?_;conv=>whnf);rw [hw1]
    repeat' ((with_reducible refine way ?_ ?_)<;>(intro h;conv=>whnf))
    all_goals try (exfalso;omega)
    ·refine zed ?_
     refine yq [0,3] N (by omega) (by simp [hlen]) (by show ((decide (L<N))&&(true&&true))=true;simp;omega) ?_ ?_
     all_goals rw [List.take_append_of_le_length (by omega),List.take_of_length_le (by omega)]
     ·exact hund
     ·have e:zcg row=nx:=by rw [j2];simp [zcg]
      rw [e] at hnext;exact hnext
  ·rw [zuk _ hmore] at i1
   (refine zc ?_;conv=>whnf)
   repeat' ((with_reducible refine way ?_ ?_)<;>(intro h;conv=>whnf))
   all_goals try (exfalso;omega)
   exact hK _ _ ⟨hl',by rw [ht, <-i1];rfl⟩
 ·rintro done x rest l hda hdl h ih
  have hdn:l=done.map zbq:=h;have hw:=zk (n:=done.length) (by omega);have hrow:(leaves.map fun s=>[dS s])[((done.length:Nat):Int).toNat]?=some [dS x]:=by simp [hda]
  have hxs:=hsz x (by rw [hda];simp);have c1:=zwn G x hxs;have c2:=zib G (⟨#[0]⟩++x) (by rw [ByteArray.size_append];show 1+x.size<=_;omega);change zv _ _ _ _ (wu (zbq x)) at c2;have hll:l.length=done.length:=by rw [hdn];simp
  (refine zg ?_;conv=>whnf)
  repeat' ((with_reducible refine way ?_ ?_)<;>(intro h;conv=>whnf))
  all_goals try (exfalso;omega)
  refine zh rfl rfl  hrow ?_;(refine zc ?_;conv=>whnf);refine ze rfl  c1 ?_;(refine zc ?_;conv=>whnf);refine ze rfl  c2 ?_;(refine zc ?_;conv=>whnf);refine yy (b:=N) (kk:=1) (rows:=l.map fun n=>[dU n]) (new:=[[dU (zbq x)]]) rfl ⟨by decide,rfl⟩ (by rw [List.getElem?_append_right (by omega),hlen];simp) (by rw [List.length_map];simp only [List.length_cons,List.length_nil];omega) ?_;(refine zc ?_;conv=>whnf);rw [hw,List.set_append_right _ _ (by omega),hlen,Nat.sub_self];refine zi [0,3,8,9,10] ?_;have:=ih (l++[zbq x]) (by show l++[zbq x]=(done++[x]).map zbq;rw [hdn];simp);rw [List.map_append,List.length_append] at this;exact this
def zki (leaves:List ByteArray):Nat:=(qn 1024 (leaves.map zbq)).foldl (fun _ r=>r.getD 0 0) 0
def RH (leaves:List ByteArray) (lp:SObj) (v:Nat):List SObj:=[.cells [wu v],.cells [.imm (xf leaves)],lp]
theorem zrv (G : List (Nat × D)) (leaves : List ByteArray) (hl1 : 1 <= leaves.length) (hl2 : leaves.length <= 1024) (hsz : ∀ x ∈ leaves, x.size <= 1000000000000) :
    zv Tryz.prog G 50 [.imm (xf leaves)] (.tup [wu (zki leaves), sI (0 : Nat)]) := by
  have c0 := zru G leaves hl1 hl2
  refine zf Tryz.func50 rfl (by rw [Tryz.ntmps50]; simp) rfl rfl ?_; intro E hH hK
  (refine zg ?_; conv => whnf)
  refine ze rfl  c0 ?_
  (refine zc ?_; conv => whnf)
  refine ym rfl rfl rfl rfl rfl rfl ((yaa G leaves _).mono ?_)
  rintro _ _ ⟨rfl, rfl⟩
  refine ⟨by simp, ?_⟩
  (refine zc ?_; conv => whnf)
  refine zi [5, 13] ?_
  change SW E _ [(5, .ptr 0 0), (13, .fn (.func 130) [] [.ptr 1 0])] [.cells [wu (0 : Nat)], .cells [.imm (xf leaves)]]
  refine zei rfl rfl ?_
  refine (znw G (σ := Nat) (Hf := RH leaves (.loop .ready E.f _ [(5, .ptr 0 0), (13, .fn (.func 130) [] [.ptr 1 0])] _ _ _)) (N := 3) (b := 1) (L := 2) (leaves := leaves)
    ⟨fun _ => rfl, fun _ => rfl, fun _ => rfl, fun _ => rfl, by decide, by decide⟩ rfl (fun _ r => r.getD 0 0) hl1 hl2 hsz (fun _ _ => True) (fun _ _ _ => trivial) ?_ 0 trivial).mono ?_
  · intro v row _ h1 h2 h3
    have hrow : (row.map fun n => [dU n])[((0 : Nat) : Int).toNat]? = some [dU (row.getD 0 0)] := by
      cases row with
      | nil => simp at h1
      | cons a r => rfl
    refine zej (b := 2) rfl E.hfn rfl (by decide) ?_
    intro E3 hl3 hOwn hKR
    (refine zg ?_; conv => whnf)
    refine zor hOwn rfl ?_
    (refine zg ?_; conv => whnf)
    refine zh rfl rfl  hrow ?_
    (refine zc ?_; conv => whnf)
    exact hKR none _ _ (Nat.le_refl _) rfl ⟨rfl, Nat.le_refl _, rfl⟩
  · rintro r H' ⟨hl, ht⟩
    have hg2 : H'[2]? = (H'.take 3)[2]? := by rw [List.getElem?_take, if_pos (by decide)]
    refine ⟨hl, .ready, [(5, .ptr 0 0), (13, .fn (.func 130) [] [.ptr 1 0])], by show H'[2]? = _; rw [hg2, ht]; rfl, .inl ⟨rfl, ?_⟩⟩
    have ht2 : (H'.set 2 .dead).take 2 = [.cells [wu (zki leaves)], .cells [.imm (xf leaves)]] := by
      rw [List.take_set_of_le (Nat.le_refl _)]
      have : H'.take 2 = (H'.take 3).take 2 := by rw [List.take_take]; rfl
      rw [this, ht]
      rfl
    refine yq [5] 2 (by rw [hH]; exact Nat.zero_le _) (by simp; omega) rfl (by show (List.take 2 (H'.set 2 .dead)).all (SObj.under 2) = true; rw [ht2]; rfl) ?_
    show SW E _ _ ((H'.set 2 .dead).take 2)
    rw [ht2]
    (refine zg ?_; conv => whnf)
    exact hK _
def zlr (s:Nat × List Frk) (row:List Nat):Nat × List Frk:=
 (s.1 / 2,if s.1 % 2=1 then s.2++[⟨row.getD (s.1-1) 0,true⟩] else if s.1+1<row.length then s.2++[⟨row.getD (s.1+1) 0,false⟩] else s.2)
def zls (leaves:List ByteArray) (i:Nat):List Frk:=((qn 1024 (leaves.map zbq)).foldl zlr (i,[])).2
def PH (leaves:List ByteArray) (lp:SObj) (s:Nat × List Frk):List SObj:=[.cells [sI s.1],.cells [.asl 2 2 (s.2.map Frk.cells)],.tok 2 (s.2.map Frk.cells).length,.cells [.imm (xf leaves)],lp]
theorem yab (G : List (Nat × D)) (leaves : List ByteArray) (i : Nat) (hi : i < leaves.length) (hl2 : leaves.length <= 1024) (hsz : ∀ x ∈ leaves, x.size <= 1000000000000) :
    zv Tryz.prog G 48 [.imm (xf leaves), sI i] (.tup [.imm (jl (zls leaves i)), sI (0 : Nat)]) := by
  have c0 := zru G leaves (by omega) hl2
  have hlm : (leaves.map fun s => [dS s]).length = leaves.length := by simp
  refine zf Tryz.func48 rfl (by rw [Tryz.ntmps48]; simp) rfl rfl ?_; intro E hH hK
  (refine zg ?_; conv => whnf)
  refine ze rfl  c0 ?_
  (refine zc ?_; conv => whnf)
  repeat' ((with_reducible refine way ?_ ?_) <;> (intro h; conv => whnf))
  all_goals try (exfalso; omega)
  refine zan (fun _ h => zfm 1 0 2 (cs := [.imm (.val (.slice none 0 0))]) rfl rfl h) ?_
  refine ym rfl rfl rfl rfl rfl rfl ((yaa G leaves _).mono ?_)
  rintro _ _ ⟨rfl, rfl⟩
  refine ⟨by simp, ?_⟩
  (refine zc ?_; conv => whnf)
  refine zi [3, 7, 23] ?_
  change SW E _ [(3, .ptr 0 0), (7, .ptr 1 0), (23, .fn (.func 130) [] [.ptr 3 0])] [.cells [sI i], .cells [.asl 2 2 (([] : List Frk).map Frk.cells)], .tok 2 (([] : List Frk).map Frk.cells).length, .cells [.imm (xf leaves)]]
  refine zei rfl rfl ?_
  refine (znw G (σ := Nat × List Frk) (Hf := PH leaves (.loop .ready E.f _ [(3, .ptr 0 0), (7, .ptr 1 0), (23, .fn (.func 130) [] [.ptr 3 0])] _ _ _)) (N := 5) (b := 3) (L := 4) (leaves := leaves)
    ⟨fun _ => rfl, fun _ => rfl, fun _ => rfl, fun _ => rfl, by decide, by decide⟩ rfl zlr (by omega) hl2 hsz (fun s row => s.1 < row.length /\ s.2.length + row.length <= 2000) ?_ ?_ (i, []) ⟨by simp only [List.length_map]; exact hi, by simp only [List.length_map, List.length_nil]; omega⟩).mono ?_
  · rintro ⟨i, p⟩ row ⟨h1, h2⟩
    simp only at h1 h2
    refine ⟨by simp only [zlr]; rw [zde]; omega, ?_⟩
    simp only [zlr]
    rw [zde]
    split
    · rw [List.length_append]; simp only [List.length_cons, List.length_nil]; omega
    · split
      · rw [List.length_append]; simp only [List.length_cons, List.length_nil]; omega
      · omega
  · rintro ⟨i, p⟩ row ⟨h1, h2⟩ h3 h4 h5
    simp only at h1 h2
    have hrl : (row.map fun n => [dU n]).length = row.length := by simp
    have hm : (i : Int).tmod 2 = ((i % 2 : Nat) : Int) := by rw [Int.tmod_eq_emod_of_nonneg (by omega)]; rfl
    have hq : (i : Int).tdiv 2 = ((i / 2 : Nat) : Int) := by rw [Int.tdiv_eq_ediv_of_nonneg (by omega)]; rfl
    refine zej (b := 4) rfl E.hfn rfl (by decide) ?_
    intro E3 hl3 hOwn hKR
    (refine zg ?_; conv => whnf)
    refine zor hOwn rfl ?_
    (refine zg ?_; conv => whnf)
    have hwq : IntKind.i64.wrap ((i : Int).tdiv 2) = ((i / 2 : Nat) : Int) := by rw [hq, yg (by omega) (by omega)]
    have hw2 := zk (n := i) (by omega)
    rw [hm]
    repeat' ((with_reducible refine way ?_ ?_) <;> (intro h; conv => whnf))
    · have hodd : i % 2 = 1 := by omega
      have hw1 : IntKind.i64.wrap ((i : Int) - 1) = ((i - 1 : Nat) : Int) := by rw [yg (by omega) (by omega)]; omega
      have hs2 : zlr (i, p) row = (i / 2, p ++ [⟨row.getD (i - 1) 0, true⟩]) := by simp only [zlr, if_pos hodd]
      rw [hs2] at hKR
      have hg : (row.map fun n => [dU n])[i - 1]? = some [dU (row.getD (i - 1) 0)] := by
        rw [List.getElem?_map, List.getD_eq_getElem?_getD, List.getElem?_eq_getElem (by omega)]
        rfl
      generalize row.getD (i - 1) 0 = v at hg hKR hs2 ⊢
      refine zi [3, 7, 8] ?_
      change SW E3 _ [(3, .ptr 0 0), (7, .ptr 1 0), (8, .imm (zcq row))] [.cells [sI i], .cells [.asl 2 2 (p.map Frk.cells)], .tok 2 (p.map Frk.cells).length, .cells [.imm (xf leaves)], _]
      (refine wd 0 mixed rfl ?_; refine zq [777] (nx := 5) ?_; conv => whnf)
      refine qv (i := i - 1) (row := [dU v]) rfl (show 5 <= 5 by decide) hw1 hg ?_
      (refine zq [777] (nx := 5) ?_; conv => whnf)
      refine zco (b := 2) (kk := 2) (rows := p.map Frk.cells) (new := [[dU v, dB true]]) rfl rfl rfl rfl rfl rfl rfl rfl rfl rfl ⟨show 16 <= 65536 by decide, rfl⟩ (show 5 <= 5 by decide) rfl (by simp; omega) ?_
      refine xc (b := 1) (off := 0) (d := []) (zz := .asl 2 2 (p.map Frk.cells)) (r := []) (v := .asl 2 2 (p.map Frk.cells ++ [[dU v, dB true]])) rfl rfl rfl rfl rfl rfl rfl rfl (show 5 <= 5 by decide) rfl rfl ?_
      refine jr (by kernel_rfl) ?_
      (refine zg ?_; conv => whnf)
      refine hKR none _ _ (Nat.le_refl _) rfl ⟨rfl, Nat.le_refl _, ?_⟩
      simp only [PH, List.map_append]
      rw [<- hwq]
      rfl
    · have h2 : IntKind.i64.wrap ((i : Int) + 1) < (((row.map fun n => [dU n]).length : Nat) : Int) := h
      rw [hw2, hrl] at h2
      have hodd : ¬ i % 2 = 1 := by omega
      have h3 : i + 1 < row.length := by omega
      have hs2 : zlr (i, p) row = (i / 2, p ++ [⟨row.getD (i + 1) 0, false⟩]) := by simp only [zlr, if_neg hodd, if_pos h3]
      rw [hs2] at hKR
      have hg : (row.map fun n => [dU n])[i + 1]? = some [dU (row.getD (i + 1) 0)] := by
        rw [List.getElem?_map, List.getD_eq_getElem?_getD, List.getElem?_eq_getElem (by omega)]
        rfl
      generalize row.getD (i + 1) 0 = v at hg hKR hs2 ⊢
      refine zi [3, 7, 8] ?_
      change SW E3 _ [(3, .ptr 0 0), (7, .ptr 1 0), (8, .imm (zcq row))] [.cells [sI i], .cells [.asl 2 2 (p.map Frk.cells)], .tok 2 (p.map Frk.cells).length, .cells [.imm (xf leaves)], _]
      (refine wd 0 mixed rfl ?_; refine zq [777] (nx := 5) ?_; conv => whnf)
      refine qv (i := i + 1) (row := [dU v]) rfl (show 5 <= 5 by decide) hw2 hg ?_
      (refine zq [777] (nx := 5) ?_; conv => whnf)
      refine zco (b := 2) (kk := 2) (rows := p.map Frk.cells) (new := [[dU v, dB false]]) rfl rfl rfl rfl rfl rfl rfl rfl rfl rfl ⟨show 16 <= 65536 by decide, rfl⟩ (show 5 <= 5 by decide) rfl (by simp; omega) ?_
      refine xc (b := 1) (off := 0) (d := []) (zz := .asl 2 2 (p.map Frk.cells)) (r := []) (v := .asl 2 2 (p.map Frk.cells ++ [[dU v, dB false]])) rfl rfl rfl rfl rfl rfl rfl rfl (show 5 <= 5 by decide) rfl rfl ?_
      refine jr (by kernel_rfl) ?_
      (refine zg ?_; conv => whnf)
      refine hKR none _ _ (Nat.le_refl _) rfl ⟨rfl, Nat.le_refl _, ?_⟩
      simp only [PH, List.map_append]
      rw [<- hwq]
      rfl
    · have h2 : ¬ IntKind.i64.wrap ((i : Int) + 1) < (((row.map fun n => [dU n]).length : Nat) : Int) := h
      rw [hw2, hrl] at h2
      have hodd : ¬ i % 2 = 1 := by omega
      have h3 : ¬ i + 1 < row.length := by omega
      have hs2 : zlr (i, p) row = (i / 2, p) := by simp only [zlr, if_neg hodd, if_neg h3]
      rw [hs2] at hKR
      refine hKR none _ _ (Nat.le_refl _) rfl ⟨rfl, Nat.le_refl _, ?_⟩
      simp only [PH]
      rw [<- hwq]
      rfl
  · rintro r H' ⟨hl, ht⟩
    have hg2 : H'[4]? = (H'.take 5)[4]? := by rw [List.getElem?_take, if_pos (by decide)]
    refine ⟨hl, .ready, [(3, .ptr 0 0), (7, .ptr 1 0), (23, .fn (.func 130) [] [.ptr 3 0])], by show H'[4]? = _; rw [hg2, ht]; rfl, .inl ⟨rfl, ?_⟩⟩
    obtain ⟨⟨ie, pe⟩, hse⟩ : ∃ s, (qn 1024 (leaves.map zbq)).foldl zlr (i, []) = s := ⟨_, rfl⟩
    have hpe : zls leaves i = pe := by unfold zls; rw [hse]
    rw [hse] at ht
    rw [hpe] at hK
    have ht2 : (H'.set 4 .dead).take 3 = [.cells [sI ie], .cells [.asl 2 2 (pe.map Frk.cells)], .tok 2 (pe.map Frk.cells).length] := by
      rw [List.take_set_of_le (by decide)]
      have : H'.take 3 = (H'.take 5).take 3 := by rw [List.take_take]; rfl
      rw [this, ht]
      rfl
    refine yq [7] 3 (by rw [hH]; exact Nat.zero_le _) (by simp; omega) rfl (by show (List.take 3 (H'.set 4 .dead)).all (SObj.under 3) = true; rw [ht2]; rfl) ?_
    show SW E _ _ ((H'.set 4 .dead).take 3)
    rw [ht2]
    refine zbv ?_
    (refine zg ?_; conv => whnf)
    exact hK _
theorem yrn (G:List (Nat × D)) (l:List UInt8) (s:ByteArray) (h0:s.data.toList≠[]) (hl:l.length+s.size<=1000000):SCall Tryz.prog G 93 [.ptr 0 0,sS s] (zvw l) (fun r H'=>r= .tup [sI s.size,.imm (.val .nilIface)]/\H'=zvw (l++s.data.toList)):=by
 cases l with
 |nil=>
  have hb:zvw ([]++s.data.toList)=zst s.data.toList:=by
   rw [List.nil_append];generalize s.data.toList=x at h0;cases x with
   |nil=>exact absurd rfl h0
   |cons y x=>rfl
  rw [hb];exact zwl G s (by omega)
 |cons x l=>exact zak G (x::l) s hl
theorem yve (l x:List UInt8):(zvw l).length<=(zvw (l++x)).length:=by
 cases l with
 |nil=>cases x with
  |nil=>exact Nat.le_refl _
  |cons y x=>exact Nat.le_succ 1
 |cons y l=>exact Nat.le_refl 2
noncomputable def leafK (seed:ByteArray) (j:Int):List UInt8:=(List.range 18).flatMap fun (k:Nat)=>(zex (chainN 15 (yfv seed j k))).data.toList
noncomputable def leavesN (seed:ByteArray) (h:Nat):List ByteArray:=(List.range (2 ^ h)).map fun (j:Nat)=>⟨(leafK seed j).toArray⟩
theorem zal (seed:ByteArray) (h:Nat):(leavesN seed h).length=2 ^ h:=by simp [leavesN]
theorem zrw (d:Nat):(zex d).data.toList.length=16:=by
 have:=jz d;rw [Array.length_toList];exact this
theorem zrx (seed:ByteArray) (h:Nat) (hs:seed.size<=1000000000000) (hh:h<=8):zv Tryz.prog G37 51 [sS seed,sI h] (.imm (xf (leavesN seed h))):=by
 have hp:=yyv h hh;have h256:2 ^ h<=256:=Nat.le_trans (Nat.pow_le_pow_right (by decide) hh) (by decide);have hlen:=zal seed h;unfold leavesN at hlen ⊢;generalize hL:2 ^ h=L at hp h256 hlen ⊢;refine zf Tryz.func51 rfl (by rw [Tryz.ntmps51];simp) rfl rfl ?_;intro E hH hK;(refine yb [777,10] 1000 ?_;conv=>whnf);refine ymb rfl rfl rfl rfl rfl (by omega) ?_;rw [Int.toNat_natCast,hp];(refine zc ?_;conv=>whnf);refine zje (n:=5) (kk:=1) rfl ?_;refine zi [0,5,10,11] ?_;change SW E _ [(0,sS seed),(5,.asl 0 1 (([]:List ByteArray).map fun s=>[dS s])),(10,sI L),(11,sI (0:Nat))] [.tok 1 (([]:List ByteArray).map fun s=>[dS s]).length];have hrl:(List.range L).length=L:=List.length_range;rw [show sI (L:Nat)=sI ((List.range L).length:Nat) by rw [hrl]];refine zr (List.range L) (fun i (l:List ByteArray)=>[(0,sS seed),(5,.asl 0 1 (l.map fun s=>[dS s])),(10,sI (List.range L).length),(11,sI i)]) (fun _ l=>[.tok 1 (l.map fun s=>[dS s]).length])
  (fun done _ l=>l=done.map fun (j:Nat)=>(⟨(leafK seed j).toArray⟩:ByteArray)) [] rfl ?_ ?_
 ·rintro l h1
  have h1:l=(List.range L).map fun (j:Nat)=>(⟨(leafK seed j).toArray⟩:ByteArray):=h1
  subst h1;refine zed ?_;change SW E _ [(0,sS seed),(5,.imm (xf ((List.range L).map fun (j:Nat)=>(⟨(leafK seed j).toArray⟩:ByteArray)))),(10,sI (List.range L).length),(11,sI (List.range L).length)] _;generalize ((List.range L).map fun (j:Nat)=>(⟨(leafK seed j).toArray⟩:ByteArray))=ls at hK ⊢;(refine zg ?_;conv=>whnf)
  repeat' ((with_reducible refine way ?_ ?_)<;>(intro h;conv=>whnf))
  all_goals try (exfalso;omega)
  exact hK _
 ·rintro done j rest l hda hdl h1 ih
  have h1:l=done.map fun (j:Nat)=>(⟨(leafK seed j).toArray⟩:ByteArray):=h1
  have hj:j=done.length:=by
   have h2:(List.range L)[done.length]?=some j:=by rw [hda];simp
   rw [List.getElem?_range (by omega)] at h2;exact (Option.some.inj h2).symm
  have hw:=zk (n:=done.length) (by omega);have hll:l.length=done.length:=by rw [h1];simp
  have hnx:=ih (l++[⟨(leafK seed j).toArray⟩]) (by show l++_=(done++[j]).map _;rw [h1];simp);rw [List.map_append,List.length_append] at hnx;clear ih h1;(refine yb [777,7] 1000 ?_;conv=>whnf)
  repeat' ((with_reducible refine way ?_ ?_)<;>(intro h;conv=>whnf))
  all_goals try (exfalso;omega)
  refine zfo rfl rfl rfl rfl rfl ?_;(refine zc ?_;conv=>whnf);refine zi [0,5,6,7,10,11,14] ?_;change SW E _ [(0,sS seed),(5,.asl 0 1 (l.map fun s=>[dS s])),(6,sI done.length),(7,.ptr 1 0),(10,sI (List.range L).length),(11,sI done.length),(14,sI (0:Nat))] ([.tok 1 (l.map fun s=>[dS s]).length]++(zvw []).map (SObj.sh 1));refine zr (List.range 18) (fun i (_:List UInt8)=>[(0,sS seed),(5,.asl 0 1 (l.map fun s=>[dS s])),(6,sI done.length),(7,.ptr 1 0),(10,sI (List.range L).length),(11,sI done.length),(14,sI i)]) (fun _ l2=>[.tok 1 (l.map fun s=>[dS s]).length]++(zvw l2).map (SObj.sh 1))
   (fun done2 _ l2=>l2=done2.flatMap (fun (k:Nat)=>(zex (chainN 15 (yfv seed done.length k))).data.toList)/\l2.length=16*done2.length) [] ⟨rfl,rfl⟩ ?_ ?_
  ·rintro l2 ⟨h2,h3⟩
   have h2:l2=leafK seed done.length:=h2;rw [hj, <-h2] at hnx;have h3:l2.length=16*18:=h3;have h0:l2≠[]:=by intro e;rw [e] at h3;cases h3
   have hstr:=zka (zfp G37 l2 h0 (by omega)) [.tok 1 (l.map fun s=>[dS s]).length];have hb:zvw l2=zst l2:=by cases l2 with|nil=>exact absurd rfl h0|cons x l=>rfl
   rw [hb];(refine zg ?_;conv=>whnf)
   repeat' ((with_reducible refine way ?_ ?_)<;>(intro h;conv=>whnf))
   all_goals try (exfalso;omega)
   refine ym rfl rfl rfl rfl rfl rfl (hstr.mono ?_);rintro _ _ ⟨_,_,⟨rfl,rfl⟩,rfl,rfl⟩;refine ⟨Nat.le_refl _,?_⟩;(refine zc ?_;conv=>whnf);refine yy (b:=0) (kk:=1) (rows:=l.map fun s=>[dS s]) (new:=[[dS ⟨l2.toArray⟩]]) rfl ⟨by decide,rfl⟩ rfl (by rw [List.length_map];simp only [List.length_cons,List.length_nil];omega) ?_;(refine zc ?_;conv=>whnf);rw [hw];exact yq [0,5,10,11] 1 (by rw [hH];exact Nat.zero_le _) (Nat.succ_le_succ (Nat.zero_le _)) rfl rfl hnx
  ·rintro done2 k rest2 l2 hda2 hdl2 ⟨h2,h3⟩ ih2
   have hk:k=done2.length:=by
    have h4:(List.range 18)[done2.length]?=some k:=by rw [hda2];simp
    rw [List.getElem?_range (by simp at hdl2;omega)] at h4;exact (Option.some.inj h4).symm
   have hk18:done2.length<18:=by simp at hdl2;omega
   have hw2:=zk (n:=done2.length) (by omega);have c1:=zrr seed (done.length:Int) (done2.length:Int) hs (by omega) (by omega);have hsl:yfv seed done.length done2.length<18446744073709551616:=zbc _;have hnx2:=ih2 (l2++(zex (chainN 15 (yfv seed done.length done2.length))).data.toList) ⟨by rw [h2,hk,List.flatMap_append];simp,by rw [List.length_append,zrw,List.length_append,h3];simp only [List.length_cons,List.length_nil];omega⟩;generalize yfv seed done.length done2.length=sec at c1 hsl hnx2;have c2:=zzz sec 15 hsl (by decide);have hcl:=zzy hsl 15;generalize chainN 15 sec=cc at c2 hcl hnx2;have c3:=zrq cc hcl;have hhx:=zrw cc;have hhz:=jz cc;generalize zex cc=hx at c3 hhx hhz hnx2;have c4:=zka (yrn G37 l2 hx (by intro e;rw [e] at hhx;cases hhx) (by omega)) [.tok 1 (l.map fun s=>[dS s]).length];(refine zg ?_;conv=>whnf)
   repeat' ((with_reducible refine way ?_ ?_)<;>(intro h;conv=>whnf))
   all_goals try (exfalso;omega)
   refine ze rfl  c1 ?_;(refine zc ?_;conv=>whnf);refine ze rfl  c2 ?_;(refine zc ?_;conv=>whnf);refine ze rfl  c3 ?_;(refine zc ?_;conv=>whnf);refine ym rfl rfl rfl rfl rfl rfl (c4.mono ?_);rintro _ _ ⟨_,_,⟨rfl,rfl⟩,rfl,rfl⟩;refine ⟨by have:=yve l2 hx.data.toList;simp only [List.length_append,List.length_map];omega,?_⟩;(refine zc ?_;conv=>whnf);rw [hw2];exact zi [0,5,6,7,10,11,14] hnx2
theorem zry (G:List (Nat × D)) (seed:ByteArray) (h:Nat) (hs:seed.size<=64) (hh:h<=8):zv Tryz.prog G 49 [sS seed,sI h] (sB true):=by
 have h1:((seed.size:Nat):Int)<=64:=by omega
 have h2:0<=(h:Int):=by omega
 have h3:(h:Int)<=8:=by omega
 refine zf Tryz.func49 rfl (by rw [Tryz.ntmps49];simp) rfl rfl ?_;intro E hH hK;(refine zg ?_;conv=>whnf)
 repeat' ((with_reducible refine way ?_ ?_)<;>(intro h;conv=>whnf))
 all_goals try (exfalso;omega)
 exact kB hK (by simp [h1,h2,h3])
noncomputable def keyN (seed:ByteArray) (h:Nat):Nat:=zki (leavesN seed h)
theorem ynm (seed:ByteArray) (j:Int):(⟨(leafK seed j).toArray⟩:ByteArray).size=288:=by
 show (leafK seed j).toArray.size=288;rw [List.size_toArray];unfold leafK;rw [List.length_flatMap];simp only [zrw];rfl
theorem znx (seed:ByteArray) (h:Nat):∀x∈leavesN seed h,x.size=288:=by
 intro x hx;unfold leavesN at hx;obtain ⟨j,_,rfl⟩:=List.mem_map.1 hx;exact ynm seed j
theorem yro (seed:ByteArray) (h:Nat) (hs:seed.size<=64) (hh:h<=8):zv Tryz.prog G37 12 [sS seed,sI h] (.tup [wu (keyN seed h),sI (0:Nat)]):=by
 have c1:=zry G37 seed h hs hh;have c2:=zrx seed h (by omega) hh;have h256:2 ^ h<=256:=Nat.le_trans (Nat.pow_le_pow_right (by decide) hh) (by decide);have hpos:0<2 ^ h:=Nat.pow_pos (by decide);have c3:=zrv G37 (leavesN seed h) (by rw [zal];omega) (by rw [zal];omega) (fun x hx=>by rw [znx seed h x hx];decide);change zv _ _ _ _ (.tup [wu (keyN seed h),_]) at c3;generalize keyN seed h=key at c3 ⊢;generalize leavesN seed h=ls at c2 c3;refine zf Tryz.func12 rfl (by rw [Tryz.ntmps12];simp) rfl rfl ?_;intro E hH hK;(refine zg ?_;conv=>whnf);refine ze rfl  c1 ?_;(refine zc ?_;conv=>whnf);refine ze rfl  c2 ?_;(refine zc ?_;conv=>whnf);refine ze rfl  c3 ?_;(refine zc ?_;conv=>whnf);exact hK _
theorem yxe {a:Nat} (ha:a<18446744073709551616):IntKind.i64.wrap ((BitVec.ofInt IntKind.i64.bits (IntKind.i64.wrap (a:Int))&&&BitVec.ofInt IntKind.i64.bits 15).toNat:Int)=((a % 16:Nat):Int):=by
 have h1:BitVec.ofInt 64 (IntKind.i64.wrap (a:Int))=BitVec.ofNat 64 a:=by
  apply BitVec.eq_of_toNat_eq
  rw [BitVec.toNat_ofInt,BitVec.toNat_ofNat];have hb:IntKind.i64.bits=64:=rfl;have hs:IntKind.i64.signed=true:=rfl;unfold IntKind.wrap;simp only [hb,hs,Bool.true_and];split<;>omega
 have h:(BitVec.ofInt IntKind.i64.bits (IntKind.i64.wrap (a:Int))&&&BitVec.ofInt IntKind.i64.bits 15).toNat=a % 16:=by
  show (BitVec.ofInt 64 (IntKind.i64.wrap (a:Int))&&&BitVec.ofInt 64 ((15:Nat):Int)).toNat=a % 16;rw [h1,zgi,BitVec.toNat_and,BitVec.toNat_ofNat,BitVec.toNat_ofNat,Nat.mod_eq_of_lt (show a<2 ^ 64 by omega),Nat.mod_eq_of_lt (by decide)];exact Nat.and_two_pow_sub_one_eq_mod a 4
 rw [h,yg (by omega) (by omega)]
theorem ynn {cs:List SV} {i:Nat} {v:SV} (h:cs[i]?=some v):zjq Tryz.prog 3 cs i=some v:=by
 have hp:ytg Tryz.prog 3=some false:=rfl;simp only [zjq,hp];exact h
theorem zwo (G:List (Nat × D)) (s:ByteArray) (hs:s.size<=9223372036854775807):zv Tryz.prog G 86 [sS s] (.agg ((zts s).map fun (n:Nat)=>sI n)):=by
 have hh:=zib G s hs;have hlt:=zbc s;unfold zts;generalize zev s=d at hh hlt;refine zf Tryz.func86 rfl (by rw [Tryz.ntmps86];simp) rfl rfl ?_;intro E hH hK;(refine zg ?_;conv=>whnf);refine ze rfl  hh ?_;(refine zc ?_;conv=>whnf);refine zi [2,3,4,5,10] ?_;change SW E _ [(2,.ptr 0 0),(3,.ptr 1 0),(4,wu d),(5,sI (0:Nat)),(10,sI (0:Nat))] [.cells (List.replicate 18 (sI 0)),.cells (([]:List Nat).map (fun (n:Nat)=>sI n)++List.replicate 18 (sI 0))];refine zr (List.range 16) (fun j (l:List Nat)=>[(2,.ptr 0 0),(3,.ptr 1 0),(4,wu d),(5,sI (wx l)),(10,sI j)]) (fun i l=>[.cells (List.replicate 18 (sI 0)),.cells (l.map (fun (n:Nat)=>sI n)++List.replicate (18-i) (sI 0))])
  (fun done _ l=>l=(List.range done.length).map (nib d)) [] rfl ?_ ?_
 ·rintro l h
  have h:l=ztr d:=h;have hr:wx (ztr d)<=240:=zfn 16 (nib d);have hn:(ztr d).length=16:=by simp [ztr]
  rw [<-h] at hr hn hK;clear h;have d1:IntKind.i64.wrap ((wx l:Int).tdiv 16)=((wx l / 16:Nat):Int):=by
   rw [Int.tdiv_eq_ediv_of_nonneg (by omega),yg (by omega) (by omega)];rfl
  have d2:(wx l:Int).tmod 16=((wx l % 16:Nat):Int):=by
   rw [Int.tmod_eq_emod_of_nonneg (by omega)];rfl
  generalize wx l=c at*
  match l,hn with
  |[a0,a1,a2,a3,a4,a5,a6,a7,a8,a9,a10,a11,a12,a13,a14,a15],_=>
  (refine zg ?_;conv=>whnf)
  repeat' ((with_reducible refine way ?_ ?_)<;>(intro h;conv=>whnf))
  all_goals try (exfalso;omega)
  rw [d1,d2];exact hK _
 ·rintro done j rest l hda hdl h ih
  have hj:done.length<16:=by simp at hdl;omega
  have hsh:=ycd d done.length hj;have hll:l.length=done.length:=by rw [h];simp
  have hr:wx l<=15*done.length:=by rw [h];exact zfn _ _
  have hnx:=ih (l++[nib d done.length]) (by rw [List.length_append,List.length_cons,List.length_nil,List.range_succ,List.map_append, <-h];rfl);have hq:d / 16 ^ (15-done.length)<18446744073709551616:=zhs _ hlt;have hw0:IntKind.i64.wrap (60-IntKind.i64.wrap (4*(done.length:Int)))=60-4*(done.length:Int):=by rw [yg (c:=4*(done.length:Int)) (by omega) (by omega),yg (by omega) (by omega)]
  have hw1:=zk (n:=done.length) (by omega);have hrep:List.replicate (18-done.length) (sI 0)=sI 0::List.replicate (18-(done.length+1)) (sI 0):=by rw [show 18-done.length=18-(done.length+1)+1 by omega];rfl
  rw [hrep];(refine yb [777,18] 1000 ?_;conv=>whnf)
  repeat' ((with_reducible refine way ?_ ?_)<;>(intro h;conv=>whnf))
  all_goals try (exfalso;omega)
  rw [hw0];refine zvu rfl rfl rfl rfl rfl (by omega) ?_;rw [hsh];(refine zl [777,21] 1000 ?_;conv=>whnf);rw [yxe hq];have hnl:=yfd d done.length;rw [show d / 16 ^ (15-done.length) % 16=nib d done.length from rfl];rw [zkb] at hnx;generalize nib d done.length=x at hnx hnl ⊢;have w2:IntKind.i64.wrap (15-(x:Int))=((15-x:Nat):Int):=by rw [yg (by omega) (by omega)];omega
  have w3:IntKind.i64.wrap ((wx l:Int)+((15-x:Nat):Int))=((wx l+(15-x):Nat):Int):=by rw [yg (by omega) (by omega)];omega
  refine zmo (i:=done.length) rfl rfl rfl rfl rfl rfl rfl rfl (by omega) ?_;refine zbf (d:=l.map (fun (n:Nat)=>sI n)) (zz:=sI 0) (r:=List.replicate (18-(done.length+1)) (sI 0)) (v:=sI x) rfl rfl rfl rfl rfl rfl rfl rfl rfl (by show 0+done.length*1=_;simp [hll]) ?_;(refine zl [777,24] 1000 ?_;conv=>whnf);refine zmo (i:=done.length) rfl rfl rfl rfl rfl rfl rfl rfl (by omega) ?_;refine wk (v:=sI x) rfl rfl rfl rfl rfl (show zjq Tryz.prog 3 _ (0+done.length*1)=_ from ynn (by rw [Nat.zero_add,Nat.mul_one,List.getElem?_append_right (by simp [hll])];simp [hll])) ?_;(refine zc ?_;conv=>whnf);rw [w2,w3,hw1];refine zi [2,3,4,5,10] ?_;rw [List.map_append,List.append_assoc] at hnx;exact hnx
end Go.Proofs.YtjnddlifnkgncaaGreatDoor
namespace Go.Sh
section
variable {P:Program} {G:List (Nat × D)} {fn:Func} {rd:Bool} {E:En P G fn rd} {t:List (Nat × SV)} {H:List SObj} {k:List Item} {all:Array Oper} {rest:List Oper} {o:Oper}
theorem yit {ty e len i:Nat} {x ix:Operand} {cs:List SV} {v:SV} {mm:Int} {kk:IntKind} (hop:o.op= .index ty x ix) (hw:ya all t o.guard=some true) (hd:yf fn.ntmps o.dst=true) (hx:zo G t x= .agg cs)
  (hi:zo G t ix= .imm (.val (.int kk mm))) (hu:P.underlying ty=some (.array len e)) (hn:xj P e=some 1) (hp:ytg P e=some false) (hmm:mm=(i:Int)) (hr:i<len) (hv:cs[i]?=some v) (h:SWr E all rest k (xl t o.dst v) H):SWr E all (o::rest) k t H:=by
 refine jd hw hd (r:=v) ?_ (Nat.le_refl _) h;rw [hop];subst hmm;have hs:znh P ty (i:Int) (.agg cs)=some v:=by
  simp only [znh,hu,hn];rw [if_pos (by omega),Int.toNat_natCast,Nat.mul_one];simp only [zjq,hp,hv]
 simp only [sop,hi,hx,hs,Option.map_some]
end
end Go.Sh
namespace Go.Proofs.YtjnddlifnkgncaaGreatDoor
open Go Go.Sh
noncomputable def chainsN (seed:ByteArray) (i:Int) (text:ByteArray):List Nat:=(List.range 18).map fun (k:Nat)=>chainN ((zts text).getD k 0) (yfv seed i k)
noncomputable def signN (seed:ByteArray) (h i:Nat) (text:ByteArray):Sg:=⟨i,chainsN seed i text,zls (leavesN seed h) i⟩
theorem yno (seed:ByteArray) (n i:Nat) (text:ByteArray) (hs:seed.size<=64) (hh:n<=8) (hi:i<2 ^ n) (ht:text.size<=9223372036854775807):
  zv Tryz.prog G37 41 [sS seed,sI n,sI i,sS text] (.tup [.agg ((signN seed n i text).cells.map .imm),sI (0:Nat)]):=by
 have hp:=yyv n hh;have h256:2 ^ n<=256:=Nat.le_trans (Nat.pow_le_pow_right (by decide) hh) (by decide);have c1:=zry G37 seed n hs hh;have c2:=zwo G37 text ht;have c3:=zrx seed n (by omega) hh;have c4:=yab G37 (leavesN seed n) i (by rw [zal];exact hi) (by rw [zal];omega) (fun x hx=>by rw [znx seed n x hx];decide);have hfl:=zwa text;have hfle:=ycj text;unfold signN chainsN;generalize leavesN seed n=ls at c3 c4 ⊢;generalize zls ls i=pa at c4 ⊢;generalize zts text=fg at c2 hfl hfle ⊢;refine zf Tryz.func41 rfl (by rw [Tryz.ntmps41];simp) rfl rfl ?_;intro E hH hK;(refine zg ?_;conv=>whnf);refine ze rfl  c1 ?_;(refine zl [777,26] 1000 ?_;conv=>whnf);refine ymb rfl rfl rfl rfl rfl (by omega) ?_;rw [Int.toNat_natCast,hp];(refine zc ?_;conv=>whnf)
 repeat' ((with_reducible refine way ?_ ?_)<;>(intro h;conv=>whnf))
 all_goals try (exfalso;omega)
 refine ze rfl  c2 ?_;(refine zc ?_;conv=>whnf);refine zfm 1 1 1 (cs:=[sI i,.imm (.val (.slice none 0 0)),.imm (.val (.slice none 0 0))]) rfl rfl ?_;refine zi [0,1,2,8,9,10,33,34] ?_;obtain ⟨F,hF⟩:∃F:Nat->Nat,F=fun k=>chainN (fg.getD k 0) (yfv seed i k):=⟨_,rfl⟩
 rw [<-hF] at hK;change SW E _ [(0,sS seed),(1,sI n),(2,sI i),(8,.ptr 0 0),(9,sI (0:Nat)),(10,.ptr 1 0),(33,.agg (fg.map fun (n:Nat)=>sI n)),(34,sI (0:Nat))]
  [.cells [sI (0:Nat),.imm (.val (.slice none 0 0)),.imm (.val (.slice none 0 0))],.cells [sI i,.asl 2 1 (([]:List Nat).map fun (n:Nat)=>[dU n]),.imm (.val (.slice none 0 0))],.tok 1 (([]:List Nat).map fun (n:Nat)=>[dU n]).length]
 refine zr (List.range 18) (fun j (_:List Nat)=>[(0,sS seed),(1,sI n),(2,sI i),(8,.ptr 0 0),(9,sI (0:Nat)),(10,.ptr 1 0),(33,.agg (fg.map fun (n:Nat)=>sI n)),(34,sI j)])
  (fun _ l=>[.cells [sI (0:Nat),.imm (.val (.slice none 0 0)),.imm (.val (.slice none 0 0))],.cells [sI i,.asl 2 1 (l.map fun (n:Nat)=>[dU n]),.imm (.val (.slice none 0 0))],.tok 1 (l.map fun (n:Nat)=>[dU n]).length])
  (fun done _ l=>l=done.map F) [] rfl ?_ ?_
 ·rintro l h1
  have h1:l=(List.range 18).map F:=h1;rw [<-h1] at hK;clear h1 hF;refine zbv ?_;change SW E _ [(0,sS seed),(1,sI n),(2,sI i),(8,.ptr 0 0),(9,sI (0:Nat)),(10,.ptr 1 0),(33,.agg (SV.solid.solidL (fg.map fun (n:Nat)=>sI n))),(34,sI (List.range 18).length)]
   [.cells [sI (0:Nat),.imm (.val (.slice none 0 0)),.imm (.val (.slice none 0 0))],.cells [sI i,.imm (zcq l),.imm (.val (.slice none 0 0))],.tok 1 (l.map fun (n:Nat)=>[dU n]).length]
  (refine zg ?_;conv=>whnf)
  repeat' ((with_reducible refine way ?_ ?_)<;>(intro h;conv=>whnf))
  all_goals try (exfalso;omega)
  refine ze rfl  c3 ?_;(refine zc ?_;conv=>whnf);refine ze rfl  c4 ?_;(refine zc ?_;conv=>whnf);exact hK _
 ·rintro done j rest l hda hdl h1 ih
  have h1:l=done.map F:=h1;have hj:j=done.length:=by
   have h2:(List.range 18)[done.length]?=some j:=by rw [hda];simp
   rw [List.getElem?_range (by simp at hdl;omega)] at h2;exact (Option.some.inj h2).symm
  have h18:done.length<18:=by simp at hdl;omega
  have hw:=zk (n:=done.length) (by omega);have hll:l.length=done.length:=by rw [h1];simp
  have hnx:=ih (l++[F done.length]) (by show l++_=(done++[j]).map F;rw [h1,hj];simp);have hFd:F done.length=chainN (fg.getD done.length 0) (yfv seed i done.length):=by rw [hF]
  have hdg:fg.getD done.length 0<=15:=hfle _ (by rw [List.getD_eq_getElem?_getD,List.getElem?_eq_getElem (by omega)];exact List.getElem_mem _);have hgt:(fg.map fun (n:Nat)=>sI n)[done.length]?=some (sI (fg.getD done.length 0)):=by
   rw [List.getElem?_map,List.getD_eq_getElem?_getD,List.getElem?_eq_getElem (by omega)];rfl
  have d1:=zrr seed (i:Int) (done.length:Int) (by omega) (by omega) (by omega);have d2:=zzz (yfv seed i done.length) (fg.getD done.length 0) (zbc _) hdg;rw [<-hFd] at d2;generalize yfv seed i done.length=sec at d1 d2;generalize fg.getD done.length 0=dg at hdg hgt d2;generalize F done.length=v at d2 hnx;rw [List.map_append] at hnx;clear ih h1 hF hFd;(refine yb [777,37] 1000 ?_;conv=>whnf)
  repeat' ((with_reducible refine way ?_ ?_)<;>(intro h;conv=>whnf))
  all_goals try (exfalso;omega)
  refine yit (v:=sI dg) rfl rfl rfl rfl rfl rfl rfl rfl rfl h18 hgt ?_;(refine zc ?_;conv=>whnf);(refine wd 0 mixed rfl ?_;refine zq [777] (nx:=3) ?_;conv=>whnf);refine zqf rfl (show 3<=3 by decide) d1 ?_;(refine zq [777] (nx:=3) ?_;conv=>whnf);refine zqf rfl (show 3<=3 by decide) d2 ?_;(refine zq [777] (nx:=3) ?_;conv=>whnf);refine zco (b:=2) (kk:=1) (rows:=l.map fun (n:Nat)=>[dU n]) (new:=[[dU v]]) rfl rfl rfl rfl rfl rfl rfl rfl rfl rfl ⟨show 8<=65536 by decide,rfl⟩ (show 3<=3 by decide) rfl (by simp;omega) ?_;refine zaj ⟨_,[],none⟩ rfl rfl (show 3<=3 by decide) (fun _ _ _=>rfl) ?_;refine xc (b:=1) (off:=1) (d:=[sI i]) (zz:=.asl 2 1 (l.map fun (n:Nat)=>[dU n])) (r:=[.imm (.val (.slice none 0 0))]) (v:=.asl 2 1 ((l.map fun (n:Nat)=>[dU n])++[[dU v]])) rfl rfl rfl rfl rfl rfl rfl rfl (show 3<=3 by decide) rfl rfl ?_;refine jr (by kernel_rfl) ?_;(refine zg ?_;conv=>whnf);rw [hw];refine zi [0,1,2,8,9,10,33,34] ?_;exact hnx
variable (G:List (Nat × D))
theorem zwp (s : ByteArray) : zv Tryz.prog G 80 [sS s] (sB (xq s)) := by
  refine zf Tryz.func80 rfl (by rw [Tryz.ntmps80]; simp) rfl rfl ?_; intro E hH hK
  have hl := zdb s
  (refine zm ?_; conv => whnf)
  repeat' ((with_reducible refine way ?_ ?_) <;> (intro h; conv => whnf))
  · cases hs : s.data.toList with
    | nil => exact absurd (zjz hs) ‹_›
    | cons b0 r0 =>
      have h0 : s.data.toList[0]? = some b0 := by rw [hs]; rfl
      have bad : zag b0 = false -> xq s = false := fun h => by simp [xq, hs, qw, h]
      refine ww rfl rfl rfl rfl rfl rfl  h0 ?_
      (refine zn ?_; conv => whnf)
      repeat' ((with_reducible refine way ?_ ?_) <;> (intro h; conv => whnf))
      · refine ww rfl rfl rfl rfl rfl rfl  h0 ?_
        (refine zn ?_; conv => whnf)
        repeat' ((with_reducible refine way ?_ ?_) <;> (intro h; conv => whnf))
        · exact kB hK (bad (by simp [zag]; omega))
        · have hhead : qw s.data.toList = true := by rw [hs]; simp [qw, zag]; omega
          have hsz : s.size <= 16 := by omega
          clear hs
          refine zi [0, 23, 24] ?_
          refine yx (σ := List UInt8 × List UInt8) (fun x => [(0, sS s), (23, sI s.size), (24, sI x.1.length)]) (fun _ => [])
            (fun x => s.data.toList = x.1 ++ x.2 /\ x.1.all zfk = true) (fun x => x.2.length) ?_ ([], s.data.toList) ⟨rfl, rfl⟩
          rintro ⟨done, rest⟩ ⟨ha, hv⟩ ih
          dsimp only at ha hv ih ⊢
          have hlen : done.length + rest.length = s.size := by rw [<- hl, ha]; simp
          (refine zm ?_; conv => whnf)
          repeat' ((with_reducible refine way ?_ ?_) <;> (intro h; conv => whnf))
          · cases rest with
            | nil => simp at hlen; omega
            | cons b rest =>
              have hget : s.data.toList[done.length]? = some b := by rw [ha]; simp
              have hw : IntKind.i64.wrap ((done.length : Int) + 1) = (((done ++ [b]).length : Nat) : Int) := by rw [zk (by omega)]; simp
              have bad : zfk b = false -> xq s = false := fun h => by simp [xq, ha, h]
              refine ww rfl rfl rfl rfl rfl rfl  hget ?_
              (refine zn ?_; conv => whnf)
              repeat' ((with_reducible refine way ?_ ?_) <;> (intro h; conv => whnf))
              all_goals first
                | exact kB hK (bad (by simp [zfk, zag, zlb]; omega))
                | (rw [hw]
                   refine zi [0, 23, 24] (ih (done ++ [b], rest) ⟨by simp [ha], ?_⟩ (by simp))
                   simp [hv, zfk, zag, zlb]; omega)
          · cases rest with
            | nil => exact kB hK (by rw [List.append_nil] at ha; unfold xq; rw [hhead, ha, hv]; simp [hsz])
            | cons b rest => simp at hlen; omega
      · exact kB hK (bad (by simp [zag]; omega))
  · exact kB hK (by simp [xq]; omega)
  · exact kB hK (by rw [h]; rfl)
structure Rw where
 label:ByteArray
 cents:Int
 reason:ByteArray
def Rw.cells (r:Rw):List D:=[zhf r.label,dI r.cents,zhf r.reason]
def zok (l:List Rw):D:=.isl 3 (l.map Rw.cells)
theorem zny (c:Int):zv Tryz.prog G 126 [sI c] (sB (decide (-500000000<=c)&&decide (c<=500000000))):=by
 refine zf Tryz.func126 rfl (by rw [Tryz.ntmps126];simp) rfl rfl ?_;intro E hH hK;(refine zg ?_;conv=>whnf)
 repeat' ((with_reducible refine way ?_ ?_)<;>(intro h;conv=>whnf))
 ·exact kB hK (by simp [*])
 ·exact kB hK (by simp [*])
def yxf:Option Int->Int->Bool
 |none,_=>true
 |some q,v=>decide (q<v)
def zkj (n:Int):Option Int->List Int->Bool
 |_,[]=>true
 |p,v::r=>decide (0<=v)&&decide (v<n)&&yxf p v&&zkj n (some v) r
theorem ztg (l:List Int) (n:Int) (hl:l.length<=1000000):zv Tryz.prog G 38 [.imm (xh l),sI n] (sB (zkj n none l)):=by
 have hml:(l.map fun (n:Int)=>[dI n]).length=l.length:=by simp
 refine zf Tryz.func38 rfl (by rw [Tryz.ntmps38];simp) rfl rfl ?_;intro E hH hK;(refine zg ?_;conv=>whnf);refine zi [0,1,7,8,9] ?_;change SW E _ [(0,.imm (xh l)),(1,sI n),(7,.imm (xh l)),(8,sI (l.map fun (n:Int)=>[dI n]).length),(9,sI (0:Nat))] [];refine zr l (fun i (_:Option Int)=>[(0,.imm (xh l)),(1,sI n),(7,.imm (xh l)),(8,sI (l.map fun (n:Int)=>[dI n]).length),(9,sI i)]) (fun _ _=>[])
  (fun done rest p=>zkj n none l=zkj n p rest/\p=done.getLast?) none ⟨rfl,rfl⟩ ?_ ?_
 ·rintro p ⟨h1,_⟩
  rw [h1] at hK;(refine zg ?_;conv=>whnf)
  repeat' ((with_reducible refine way ?_ ?_)<;>(intro h;conv=>whnf))
  all_goals try (exfalso;omega)
  exact hK _
 ·rintro done v rest p hda hdl ⟨h1,h2⟩ ih
  have hw:=zk (n:=done.length) (by omega);have hrow:(l.map fun (n:Int)=>[dI n])[((done.length:Nat):Int).toNat]?=some [dI v]:=by simp [hda]
  have hnx:zkj n none l=zkj n (some v) rest->SW E _ _ _:=fun h=>ih (some v) ⟨h,by simp⟩
  rw [zkj] at h1;have hbad:∀b,b=false->zkj n none l=b->E.K (sB false) []:=fun b hb h=>by
   have:=hK [];rw [h,hb] at this;exact this
  rcases List.eq_nil_or_concat done with rfl|⟨d',q,hdq⟩
  ·have h2:p=none:=h2
   subst h2;(refine zg ?_;conv=>whnf)
   repeat' ((with_reducible refine way ?_ ?_)<;>(intro h;conv=>whnf))
   all_goals try (exfalso;omega)
   refine zh rfl rfl  hrow ?_;(refine zc ?_;conv=>whnf)
   repeat' ((with_reducible refine way ?_ ?_)<;>(intro h;conv=>whnf))
   all_goals try (exfalso;omega)
   ·rw [hw]
    refine zi [0,1,7,8,9] (hnx ?_);rw [h1,decide_eq_true (show 0<=v by omega),decide_eq_true (show v<n by omega)];rfl
   ·exact hbad _ (by rw [decide_eq_false (show ¬v<n by omega)];simp) h1
   ·exact hbad _ (by rw [decide_eq_false (show ¬0<=v by omega)];simp) h1
  ·rw [List.concat_eq_append] at hdq
   have h2:p=some q:=by rw [h2,hdq];simp
   subst h2;have hql:done.length=d'.length+1:=by rw [hdq];simp
   have hq:(l.map fun (n:Int)=>[dI n])[d'.length]?=some [dI q]:=by simp [hda,hdq]
   have hwm:IntKind.i64.wrap ((done.length:Int)-1)=(d'.length:Int):=by rw [yg (by omega) (by omega)];omega
   (refine zg ?_;conv=>whnf)
   repeat' ((with_reducible refine way ?_ ?_)<;>(intro h;conv=>whnf))
   all_goals try (exfalso;omega)
   refine zh rfl rfl  hrow ?_;(refine zc ?_;conv=>whnf)
   repeat' ((with_reducible refine way ?_ ?_)<;>(intro h;conv=>whnf))
   all_goals try (exfalso;omega)
   ·refine zh (i:=d'.length) (row:=[dI q]) rfl hwm hq ?_
    (refine zc ?_;conv=>whnf)
    repeat' ((with_reducible refine way ?_ ?_)<;>(intro h;conv=>whnf))
    ·exact hbad _ (by rw [show yxf (some q) v=decide (q<v) from rfl,decide_eq_false (show ¬q<v by omega)];simp) h1
    ·rw [hw]
     refine zi [0,1,7,8,9] (hnx ?_);rw [h1,decide_eq_true (show 0<=v by omega),decide_eq_true (show v<n by omega),show yxf (some q) v=decide (q<v) from rfl,decide_eq_true (show q<v by omega)];rfl
   ·exact hbad _ (by rw [decide_eq_false (show ¬v<n by omega)];simp) h1
   ·exact hbad _ (by rw [decide_eq_false (show ¬0<=v by omega)];simp) h1
theorem zlt (n:Int):∀(l:List Int) (p:Option Int),zkj n p l=true->l.Pairwise (· < ·)/\(∀x∈l,0<=x/\x<n)/\(∀q∈p,∀x∈l,q<x)
 |[],p,_=>⟨.nil,fun x hx=>(by cases hx),fun q _ x hx=>(by cases hx)⟩
 |v::r,p,h=>by
  have h:(decide (0<=v)&&decide (v<n)&&yxf p v&&zkj n (some v) r)=true:=h;simp only [Bool.and_eq_true,decide_eq_true_eq] at h;obtain ⟨⟨⟨h1,h2⟩,h3⟩,h4⟩:=h;obtain ⟨g1,g2,g3⟩:=zlt n r (some v) h4;have g3:=g3 v rfl;refine ⟨List.pairwise_cons.2 ⟨g3,g1⟩,fun x hx=>?_,fun q hq x hx=>?_⟩
  ·rcases List.mem_cons.1 hx with rfl|hx
   ·exact ⟨h1,h2⟩
   ·exact g2 x hx
  ·cases hq
   have h3:q<v:=by simpa [yxf] using h3
   rcases List.mem_cons.1 hx with rfl|hx
   ·exact h3
   ·have:=g3 x hx;omega
def zol (n:Nat) (l:List Int):List Bool:=(List.range n).map fun (i:Nat)=> !decide ((i:Int)∈l)
theorem yiu (l:List Int) (n:Nat) (hs:zkj n none l=true) (hl:l.length<=1000000) (hn:n<=1000000):zv Tryz.prog G 43 [.imm (xh l),sI n] (.imm (zbn (zol n l))):=by
 obtain ⟨hp,hb,_⟩:=zlt n l none hs;have hml:(l.map fun (n:Int)=>[dI n]).length=l.length:=by simp
 refine zf Tryz.func43 rfl (by rw [Tryz.ntmps43];simp) rfl rfl ?_;intro E hH hK;(refine zg ?_;conv=>whnf);refine yqq ?_;(refine zg ?_;conv=>whnf);refine znn (n:=n) (zz:=sB false) rfl rfl rfl rfl rfl rfl rfl rfl rfl ⟨show 1<=65536 by decide,rfl⟩ rfl rfl rfl (by omega) ?_;(refine zc ?_;conv=>whnf);refine ypv ?_;(refine zg ?_;conv=>whnf);refine zi [0,5,6,11,12] ?_;change SW E _ [(0,.imm (xh l)),(5,.osl 0 0 n),(6,sI (0:Nat)),(11,sI n),(12,sI (0:Nat))] [.cells (([]:List Bool).map sB++List.replicate n (sB false))];have hrl:(List.range n).length=n:=List.length_range;have hrn:sI (n:Nat)=sI ((List.range n).length:Nat):=by rw [hrl]
 rw [hrn];refine zr (List.range n) (fun i (y:List Int × List Int × List Bool)=>[(0,.imm (xh l)),(5,.osl 0 0 n),(6,sI y.1.length),(11,sI (List.range n).length),(12,sI i)]) (fun i y=>[.cells (y.2.2.map sB++List.replicate (n-i) (sB false))])
  (fun done _ y=>l=y.1++y.2.1/\(∀x∈y.1,x<done.length)/\(∀x∈y.2.1,(done.length:Int)<=x)/\y.2.2=(List.range done.length).map fun (i:Nat)=> !decide ((i:Int)∈l)) ([],l,[]) ⟨rfl,fun x hx=>(by cases hx),fun x hx=>(hb x hx).1,rfl⟩ ?_ ?_
 ·rintro ⟨pre,post,mk⟩ ⟨h1,h2,h3,h4⟩
  have h4:mk=zol n l:=by unfold zol;rw [<-hrl];exact h4
  have hmk:mk.length=n:=by rw [h4];simp [zol]
  have hch:jc 1 (mk.map dB) n=mk.map fun b=>[dB b]:=by
   have:=zmi (mk.map dB);rw [List.length_map,hmk,List.map_map] at this;exact this
  rw [<-h4] at hK;have h0:List.replicate (n-(List.range n).length) (sB false)=[]:=by rw [hrl,Nat.sub_self];rfl
  refine zkx 0 n 1 (cs:=mk.map sB) (junk:=[]) (ds:=mk.map dB) (t':=[(0,.imm (xh l)),(5,.imm (zbn mk)),(6,sI pre.length),(11,sI (List.range n).length),(12,sI (List.range n).length)]) (H':=[.dead]) (by simp) (by simp [SV.one]) (by rw [show mk.map sB=(mk.map dB).map SV.imm by simp];exact zos _) (by simp [hmk]) (by rw [hch];simp [SV.shut,zbn]) (by simp [SObj.shut]) ?_;(refine zg ?_;conv=>whnf)
  repeat' ((with_reducible refine way ?_ ?_)<;>(intro h;conv=>whnf))
  all_goals try (exfalso;omega)
  exact hK _
 ·rintro done j rest ⟨pre,post,mk⟩ hda hdl ⟨h1,h2,h3,h4⟩ ih
  simp only at h1 h2 h3 h4;have hdn:done.length<n:=by omega
  have hw:=zk (n:=done.length) (by omega);have hmk:mk.length=done.length:=by rw [h4];simp
  have hpl:pre.length+post.length=l.length:=by rw [h1];simp
  have hdl1:(done++[j]).length=done.length+1:=by simp
  have hrep:List.replicate (n-done.length) (sB false)=sB false::List.replicate (n-(done.length+1)) (sB false):=by rw [show n-done.length=n-(done.length+1)+1 by omega];rfl
  have hin:∀post',post=(done.length:Int)::post'->SW E _ [(0,.imm (xh l)),(5,.osl 0 0 n),(6,sI (pre.length+1:Nat)),(11,sI (List.range n).length),(12,sI (done.length+1:Nat))] [.cells (mk.map sB++sB false::List.replicate (n-(done.length+1)) (sB false))]:=fun post' e=>by
   subst e;have hmem:((done.length:Nat):Int)∈l:=by rw [h1];simp
   have:=ih (pre++[(done.length:Int)],post',mk++[false]) ⟨by rw [h1];simp,fun x hx=>by
     rw [hdl1];rcases List.mem_append.1 hx with hx|hx
     ·have:=h2 x hx;omega
     ·have:x=(done.length:Int):=by simpa using hx
      omega,fun x hx=>by
     rw [hdl1];rw [h1] at hp;have:=(List.pairwise_cons.1 (List.pairwise_append.1 hp).2.1).1 x hx
     omega,by rw [hdl1,List.range_succ,List.map_append, <-h4];simp [hmem]⟩
   simpa using this
  have hout:(∀x∈post,(done.length:Int)≠x)->SW E _ [(0,.imm (xh l)),(5,.osl 0 0 n),(6,sI pre.length),(11,sI (List.range n).length),(12,sI (done.length+1:Nat))] [.cells (mk.map sB++sB true::List.replicate (n-(done.length+1)) (sB false))]:=fun hne=>by
   have hmem:¬((done.length:Nat):Int)∈l:=by
    rw [h1];intro hm;rcases List.mem_append.1 hm with hm|hm
    ·have:=h2 _ hm;omega
    ·exact hne _ hm rfl
   have:=ih (pre,post,mk++[true]) ⟨h1,fun x hx=>by rw [hdl1];have:=h2 x hx;omega,fun x hx=>by
     rw [hdl1];have h5:=h3 x hx;have h6:=hne x hx
     omega,by rw [hdl1,List.range_succ,List.map_append, <-h4];simp [hmem]⟩
   simpa using this
  clear ih h4;rw [hrep];cases post with
  |nil=>
   simp only [List.length_nil] at hpl;(refine zg ?_;conv=>whnf)
   repeat' ((with_reducible refine way ?_ ?_)<;>(intro h;conv=>whnf))
   all_goals try (exfalso;omega)
   ·exfalso
    have h':((pre.length:Nat):Int)<(((l.map fun (n:Int)=>[dI n]).length:Nat):Int):=h;omega
   ·refine zbg (i:=done.length) rfl rfl rfl rfl rfl rfl rfl rfl (by omega) ?_
    refine zbf (d:=mk.map sB) (zz:=sB false) (r:=List.replicate (n-(done.length+1)) (sB false)) (v:=sB true) rfl rfl rfl rfl rfl rfl rfl rfl rfl (by show 0+done.length*1=_;simp [hmk]) ?_;(refine zc ?_;conv=>whnf);rw [hw];refine zi [0,5,6,11,12] (hout ?_);intro x hx;cases hx
  |cons x post=>
   simp only [List.length_cons] at hpl;have hx:(l.map fun (n:Int)=>[dI n])[pre.length]?=some [dI x]:=by rw [h1];simp
   have hwp:=zk (n:=pre.length) (by omega);rw [h1] at hp;have hgt:=(List.pairwise_cons.1 (List.pairwise_append.1 hp).2.1).1;have hge:=h3 x (by simp);(refine zg ?_;conv=>whnf)
   repeat' ((with_reducible refine way ?_ ?_)<;>(intro h;conv=>whnf))
   all_goals try (exfalso;omega)
   refine zh (i:=pre.length) (row:=[dI x]) rfl rfl hx ?_;(refine zc ?_;conv=>whnf)
   repeat' ((with_reducible refine way ?_ ?_)<;>(intro h;conv=>whnf))
   ·rw [hw,hwp]
    exact zi [0,5,6,11,12] (hin post (by rw [h]))
   ·refine zbg (i:=done.length) rfl rfl rfl rfl rfl rfl rfl rfl (by omega) ?_
    refine zbf (d:=mk.map sB) (zz:=sB false) (r:=List.replicate (n-(done.length+1)) (sB false)) (v:=sB true) rfl rfl rfl rfl rfl rfl rfl rfl rfl (by show 0+done.length*1=_;simp [hmk]) ?_;(refine zc ?_;conv=>whnf);rw [hw];refine zi [0,5,6,11,12] (hout ?_);intro y hy;rcases List.mem_cons.1 hy with rfl|hy
    ·omega
    ·have:=hgt y hy;omega
   ·exfalso
    have h':¬((pre.length:Nat):Int)<(((l.map fun (n:Int)=>[dI n]).length:Nat):Int):=h;omega
theorem zwq (r:Rw):zv Tryz.prog G 45 [.agg (r.cells.map .imm)] (sI r.cents):=by
 obtain ⟨a,c,b⟩:=r;refine zf Tryz.func45 rfl (by rw [Tryz.ntmps45];simp) rfl rfl ?_;intro E hH hK;(refine zg ?_;conv=>whnf);exact hK _
theorem yiv (n:Int):zv Tryz.prog G 47 [sI n] (sI n):=by
 refine zf Tryz.func47 rfl (by rw [Tryz.ntmps47];simp) rfl rfl ?_;intro E hH hK;(refine zg ?_;conv=>whnf);exact hK _
def qj:List Int->List Bool->Int
 |c::cs,b::bs=>(if b then c else 0)+qj cs bs
 |_,_=>0
theorem yac (rows:List Rw) (mk:List Bool) (hl:mk.length=rows.length) (hn:rows.length<=1000000) (hb:∀r∈rows, -2000000000<=r.cents/\r.cents<=2000000000):
  zv Tryz.prog G 44 [.imm (zok rows),.imm (zbn mk),.fn (.func 45) [] []] (sI (qj (rows.map Rw.cents) mk)):=by
 have hml:(rows.map Rw.cells).length=rows.length:=by simp
 have hkl:(mk.map fun b=>[dB b]).length=mk.length:=by simp
 refine zf Tryz.func44 rfl (by rw [Tryz.ntmps44];simp) rfl rfl ?_;intro E hH hK;(refine zg ?_;conv=>whnf);refine zi [1,2,7,10,11,12] ?_;change SW E _ [(1,.imm (zbn mk)),(2,.fn (.func 45) [] []),(7,sI 0),(10,.imm (zok rows)),(11,sI (rows.map Rw.cells).length),(12,sI (0:Nat))] [];refine zr rows (fun i (s:Int)=>[(1,.imm (zbn mk)),(2,.fn (.func 45) [] []),(7,sI s),(10,.imm (zok rows)),(11,sI (rows.map Rw.cells).length),(12,sI i)]) (fun _ _=>[])
  (fun done rest s=>qj (rows.map Rw.cents) mk=s+qj (rest.map Rw.cents) (mk.drop done.length)/\ -2000000000*(done.length:Int)<=s/\s<=2000000000*(done.length:Int)) 0 ⟨by simp,by simp,by simp⟩ ?_ ?_
 ·rintro s ⟨h1,_,_⟩
  have h0:qj ([].map Rw.cents) (mk.drop rows.length)=0:=by cases mk.drop rows.length<;>rfl
  rw [h0,Int.add_zero] at h1;rw [h1] at hK;(refine zg ?_;conv=>whnf)
  repeat' ((with_reducible refine way ?_ ?_)<;>(intro h;conv=>whnf))
  all_goals try (exfalso;omega)
  exact hK _
 ·rintro done r rest s hda hdl ⟨h1,h2,h3⟩ ih
  have hw:=zk (n:=done.length) (by omega);have hrow:(rows.map Rw.cells)[((done.length:Nat):Int).toNat]?=some r.cells:=by simp [hda]
  obtain ⟨b,hbb⟩:∃b,mk[done.length]?=some b:=⟨_,List.getElem?_eq_getElem (by omega)⟩;have hrb:(mk.map fun b=>[dB b])[((done.length:Nat):Int).toNat]?=some [dB b]:=by simp [hbb]
  have hbr:=hb r (by rw [hda];simp);have hc:=zwq G r;have hdr:mk.drop done.length=b::mk.drop (done.length+1):=by
   rw [List.drop_eq_getElem_cons (by omega)];rw [List.getElem?_eq_getElem (by omega)] at hbb;rw [Option.some.inj hbb]
  rw [hdr,List.map_cons,qj] at h1;have hnx:SW E _ _ _:=ih (s+(if b then r.cents else 0)) ⟨by rw [h1,Int.add_assoc];congr 2;simp,by rw [List.length_append];simp only [List.length_cons,List.length_nil];split<;>omega,by rw [List.length_append];simp only [List.length_cons,List.length_nil];split<;>omega⟩;clear ih h1 hdr;obtain ⟨la,ce,re⟩:=r;have hws:IntKind.i64.wrap (s+ce)=s+ce:=yg (by simp only at hbr;omega) (by simp only at hbr;omega);(refine zg ?_;conv=>whnf)
  repeat' ((with_reducible refine way ?_ ?_)<;>(intro h;conv=>whnf))
  all_goals try (exfalso;omega)
  refine zh rfl rfl  hrow ?_;(refine zc ?_;conv=>whnf);refine zh rfl rfl  hrb ?_;(refine zc ?_;conv=>whnf);cases b with
  |false=>
   conv=>whnf
   rw [hw];refine yq [1,2,7,10,11,12] 0 (by rw [hH];exact Nat.zero_le 0) (Nat.zero_le _) rfl rfl ?_;rw [if_neg (by decide),Int.add_zero] at hnx;exact hnx
  |true=>
   conv=>whnf
   refine ze rfl  hc ?_;(refine zc ?_;conv=>whnf);rw [hw,hws];refine yq [1,2,7,10,11,12] 0 (by rw [hH];exact Nat.zero_le 0) (Nat.zero_le _) rfl rfl ?_;exact hnx
theorem yad (rows:List Int) (mk:List Bool) (hl:mk.length=rows.length) (hn:rows.length<=1000000) (hb:∀r∈rows, -2000000000<=r/\r<=2000000000):
  zv Tryz.prog G 46 [.imm (xh rows),.imm (zbn mk),.fn (.func 47) [] []] (sI (qj rows mk)):=by
 have hml:(rows.map fun (n:Int)=>[dI n]).length=rows.length:=by simp
 have hkl:(mk.map fun b=>[dB b]).length=mk.length:=by simp
 refine zf Tryz.func46 rfl (by rw [Tryz.ntmps46];simp) rfl rfl ?_;intro E hH hK;(refine zg ?_;conv=>whnf);refine zi [1,2,7,10,11,12] ?_;change SW E _ [(1,.imm (zbn mk)),(2,.fn (.func 47) [] []),(7,sI 0),(10,.imm (xh rows)),(11,sI (rows.map fun (n:Int)=>[dI n]).length),(12,sI (0:Nat))] [];refine zr rows (fun i (s:Int)=>[(1,.imm (zbn mk)),(2,.fn (.func 47) [] []),(7,sI s),(10,.imm (xh rows)),(11,sI (rows.map fun (n:Int)=>[dI n]).length),(12,sI i)]) (fun _ _=>[])
  (fun done rest s=>qj rows mk=s+qj rest (mk.drop done.length)/\ -2000000000*(done.length:Int)<=s/\s<=2000000000*(done.length:Int)) 0 ⟨by simp,by simp,by simp⟩ ?_ ?_
 ·rintro s ⟨h1,_,_⟩
  have h0:qj [] (mk.drop rows.length)=0:=by cases mk.drop rows.length<;>rfl
  rw [h0,Int.add_zero] at h1;rw [h1] at hK;(refine zg ?_;conv=>whnf)
  repeat' ((with_reducible refine way ?_ ?_)<;>(intro h;conv=>whnf))
  all_goals try (exfalso;omega)
  exact hK _
 ·rintro done r rest s hda hdl ⟨h1,h2,h3⟩ ih
  have hw:=zk (n:=done.length) (by omega);have hrow:(rows.map fun (n:Int)=>[dI n])[((done.length:Nat):Int).toNat]?=some [dI r]:=by simp [hda]
  obtain ⟨b,hbb⟩:∃b,mk[done.length]?=some b:=⟨_,List.getElem?_eq_getElem (by omega)⟩;have hrb:(mk.map fun b=>[dB b])[((done.length:Nat):Int).toNat]?=some [dB b]:=by simp [hbb]
  have hbr:=hb r (by rw [hda];simp);have hc:=yiv G r;have hdr:mk.drop done.length=b::mk.drop (done.length+1):=by
   rw [List.drop_eq_getElem_cons (by omega)];rw [List.getElem?_eq_getElem (by omega)] at hbb;rw [Option.some.inj hbb]
  rw [hdr,qj] at h1;have hnx:SW E _ _ _:=ih (s+(if b then r else 0)) ⟨by rw [h1,Int.add_assoc];congr 2;simp,by rw [List.length_append];simp only [List.length_cons,List.length_nil];split<;>omega,by rw [List.length_append];simp only [List.length_cons,List.length_nil];split<;>omega⟩;clear ih h1 hdr;have hws:IntKind.i64.wrap (s+r)=s+r:=yg (by omega) (by omega);(refine zg ?_;conv=>whnf)
  repeat' ((with_reducible refine way ?_ ?_)<;>(intro h;conv=>whnf))
  all_goals try (exfalso;omega)
  refine zh rfl rfl  hrow ?_;(refine zc ?_;conv=>whnf);refine zh rfl rfl  hrb ?_;(refine zc ?_;conv=>whnf);cases b with
  |false=>
   conv=>whnf
   rw [hw];refine yq [1,2,7,10,11,12] 0 (by rw [hH];exact Nat.zero_le 0) (Nat.zero_le _) rfl rfl ?_;rw [if_neg (by decide),Int.add_zero] at hnx;exact hnx
  |true=>
   conv=>whnf
   refine ze rfl  hc ?_;(refine zc ?_;conv=>whnf);rw [hw,hws];refine yq [1,2,7,10,11,12] 0 (by rw [hH];exact Nat.zero_le 0) (Nat.zero_le _) rfl rfl ?_;exact hnx
theorem zul (G:List (Nat × D)) (n:Nat) (h1:1<=n) (hn:n<=1000000):SCall Tryz.prog G 163 [.ptr 0 0,sI n] [.bld 161] (fun r H'=>r= .tup []/\H'=zst []):=by
 have hg:=ynl G n (by omega);refine xb Tryz.func163 rfl (by rw [Tryz.ntmps163];simp) fun E hH hK=>?_
 (refine zg ?_;conv=>whnf);refine ym rfl rfl rfl rfl rfl rfl ((zqr G).mono fun r H' ⟨h1,h2⟩=>⟨by rw [h2];exact Nat.le_refl _,?_⟩);subst h1 h2;(refine zc ?_;conv=>whnf)
 repeat' ((with_reducible refine way ?_ ?_)<;>(intro h;conv=>whnf))
 all_goals try (exfalso;omega)
 (refine zt mixed rfl ?_;refine zd [] ?_;conv=>whnf);(refine zg ?_;conv=>whnf)
 repeat' ((with_reducible refine way ?_ ?_)<;>(intro h;conv=>whnf))
 ·refine ym rfl rfl rfl rfl rfl rfl (hg.mono fun r H' ⟨h1,h2⟩=>⟨by rw [h2];decide,?_⟩)
  subst h1 h2;(refine zc ?_;conv=>whnf);exact hK _ _ ⟨rfl,rfl⟩
 ·exact absurd (show (0:Int)<(n:Int) by omega) h
def szs (l:List ByteArray):Nat:=(l.map ByteArray.size).sum
def zhg (sep:ByteArray):List ByteArray->ByteArray
 |[]=>⟨#[]⟩
 |x::r=>r.foldl (fun s y=>s++sep++y) x
theorem zah (x:ByteArray) (l:List ByteArray):szs (x::l)=x.size+szs l:=by simp [szs]
theorem zmy (a b:List ByteArray):szs (a++b)=szs a+szs b:=by simp [szs]
def zdk (sep:ByteArray) (x:List UInt8) (r:List ByteArray):List UInt8:=r.foldl (fun s y=>s++sep.data.toList++y.data.toList) x
theorem zee (sep:ByteArray):∀(r:List ByteArray) (x:List UInt8),(zdk sep x r).length=x.length+sep.size*r.length+szs r
 |[],x=>by simp [zdk,szs]
 |y::r,x=>by
  show (zdk sep (x++sep.data.toList++y.data.toList) r).length=_;rw [zee sep r,zah];have h1:sep.data.toList.length=sep.size:=by simp
  have h2:y.data.toList.length=y.size:=by simp
  simp only [List.length_append,List.length_cons,h1,h2,Nat.mul_add,Nat.mul_one];omega
theorem zum (sep:ByteArray) (x:List UInt8) (r:List ByteArray) (y:ByteArray):zdk sep x (r++[y])=zdk sep x r++sep.data.toList++y.data.toList:=by
 unfold zdk;rw [List.foldl_append];rfl
theorem yfw (sep x:ByteArray) (r:List ByteArray):(zhg sep (x::r)).data.toList=zdk sep x.data.toList r:=by
 show (r.foldl (fun s y=>s++sep++y) x).data.toList=_
 induction r generalizing x with
 |nil=>rfl
 |cons y r ih=>
  rw [List.foldl_cons,ih];show zdk sep (x++sep++y).data.toList r=zdk sep (x.data.toList++sep.data.toList++y.data.toList) r
  congr 1
theorem zun (G:List (Nat × D)) (sep x:ByteArray) (r:List ByteArray) (hr:r≠[]) (h1:1<=(zdk sep x.data.toList r).length) (h2:(zdk sep x.data.toList r).length<=1000000) (h3:r.length<=100000):
  zv Tryz.prog G 128 [.imm (xf (x::r)),sS sep] (sS (zhg sep (x::r))):=by
 have hjl:=zee sep r x.data.toList;have hxs:x.data.toList.length=x.size:=by simp
 have hrl:1<=r.length:=List.length_pos_iff.2 hr;have hres:zhg sep (x::r)=⟨(zdk sep x.data.toList r).toArray⟩:=by
  have:=yfw sep x r;rw [<-this]
 rw [hres];have hlm:((x::r).map fun s=>[dS s]).length=r.length+1:=by simp
 have hll:((x::r).map fun s=>[dS s]).length=(x::r).length:=by simp
 obtain ⟨n0,hn0⟩:∃n,n=sep.size*r.length:=⟨_,rfl⟩;have hz0:sep.size<=n0:=by rw [hn0];exact Nat.le_mul_of_pos_right _ hrl
 have hsep0:¬0<(sep.size:Int)->n0=0:=fun h=>by
  have:sep.size=0:=by omega
  rw [hn0,this,Nat.zero_mul]
 have hjl2:(zdk sep x.data.toList r).length=x.size+n0+szs r:=by rw [hjl,hxs,hn0]
 refine zf Tryz.func128 rfl (by rw [Tryz.ntmps128];simp) rfl rfl ?_;intro E hH hK;(refine yb [777,28] 1000 ?_;conv=>whnf)
 repeat' ((with_reducible refine way ?_ ?_)<;>(intro h;conv=>whnf))
 ·exact absurd h (by rw [hlm];omega)
 ·have hw1:IntKind.i64.wrap ((((x::r).map fun s=>[dS s]).length:Nat)-1:Int)=(r.length:Int):=by rw [hlm,yg (by omega) (by omega)];omega
  have hq1:(9223372036854775807:Nat) / 100000<=9223372036854775807 / r.length:=Nat.div_le_div_left h3 hrl;have hq:IntKind.i64.wrap ((9223372036854775807:Int).tdiv (r.length:Int))=((9223372036854775807 / r.length:Nat):Int):=by
   have hle:9223372036854775807 / r.length<=9223372036854775807:=Nat.div_le_self _ _;rw [Int.tdiv_eq_ediv_of_nonneg (by omega),show (9223372036854775807:Int) / (r.length:Int)=((9223372036854775807 / r.length:Nat):Int) from rfl,yg (by omega) (by omega)]
  have hmul:IntKind.i64.wrap ((sep.size:Int)*(r.length:Int))=(n0:Int):=by
   rw [<-Int.natCast_mul, <-hn0,yg (by omega) (by omega)]
  have hadd:IntKind.i64.wrap (0+(n0:Int))=(n0:Int):=by rw [yg (by omega) (by omega)];omega
  rw [hw1];refine yda rfl rfl rfl rfl rfl (by omega) ?_;rw [hq];(refine zc ?_;conv=>whnf)
  repeat' ((with_reducible refine way ?_ ?_)<;>(intro h;conv=>whnf))
  all_goals try (exfalso;omega)
  rw [hw1,hmul,hadd];refine zi [0,1,5,39,40,41] ?_;change SW E _ [(0,.imm (xf (x::r))),(1,sS sep),(5,sI n0),(39,.imm (xf (x::r))),(40,sI ((x::r).map fun s=>[dS s]).length),(41,sI (0:Nat))] [];refine zr (x::r) (fun i (s:Nat)=>[(0,.imm (xf (x::r))),(1,sS sep),(5,sI s),(39,.imm (xf (x::r))),(40,sI ((x::r).map fun s=>[dS s]).length),(41,sI i)]) (fun _ _=>[]) (fun done _ s=>s=n0+szs done) n0 rfl ?_ ?_
  ·rintro s hs
   have hs:s=(zdk sep x.data.toList r).length:=by rw [hs,zah,hjl2];omega
   subst hs;have c1:=zul G (zdk sep x.data.toList r).length h1 h2;have c2:=zak G [] x (by simp;omega);(refine yb [777,8] 1000 ?_;conv=>whnf)
   repeat' ((with_reducible refine way ?_ ?_)<;>(intro h;conv=>whnf))
   all_goals try (exfalso;omega)
   refine zfo rfl rfl rfl rfl rfl ?_;(refine zc ?_;conv=>whnf);refine ym rfl rfl rfl rfl rfl rfl (c1.mono fun r H' ⟨h1,h2⟩=>⟨by rw [h2];decide,?_⟩);subst h1 h2;(refine zc ?_;conv=>whnf);refine zh (i:=0) (row:=[dS x]) rfl rfl rfl ?_;(refine zc ?_;conv=>whnf);refine ym rfl rfl rfl rfl rfl rfl (c2.mono fun r H' ⟨h1,h2⟩=>⟨by rw [h2];exact Nat.le_refl _,?_⟩);subst h1 h2;(refine zc ?_;conv=>whnf);refine zlc (m:=1) rfl rfl rfl rfl rfl rfl rfl (by simp) ?_;(refine zc ?_;conv=>whnf);refine zi [1,8,63,64,65] ?_;change SW E _ [(1,sS sep),(8,.ptr 0 0),(63,.imm (xf r)),(64,sI (r.map fun s=>[dS s]).length),(65,sI (0:Nat))] (zst x.data.toList);have hlr:(r.map fun s=>[dS s]).length=r.length:=by simp
   refine zr r (fun i (_:List UInt8)=>[(1,sS sep),(8,.ptr 0 0),(63,.imm (xf r)),(64,sI (r.map fun s=>[dS s]).length),(65,sI i)]) (fun _ l=>zst l) (fun done _ l=>l=zdk sep x.data.toList done) x.data.toList rfl ?_ ?_
   ·rintro l hl
    have hl:l=zdk sep x.data.toList r:=hl;rw [<-hl] at hK;have hne:l≠[]:=by intro e;rw [hl] at e;rw [e] at h1;simp at h1
    have c5:=zfp G l hne (by rw [hl];exact h2);(refine zg ?_;conv=>whnf)
    repeat' ((with_reducible refine way ?_ ?_)<;>(intro h;conv=>whnf))
    all_goals try (exfalso;omega)
    refine ym rfl rfl rfl rfl rfl rfl (c5.mono fun r H' ⟨h1,h2⟩=>⟨by rw [h2];exact Nat.le_refl _,?_⟩);subst h1 h2;(refine zc ?_;conv=>whnf);exact hK _
   ·rintro done y rest l hda hdl hl ih
    have hl:l=zdk sep x.data.toList done:=hl;have hw:=zk (n:=done.length) (by omega);have hrow:(r.map fun s=>[dS s])[((done.length:Nat):Int).toNat]?=some [dS y]:=by rw [hda];simp
    have hbound:l.length+sep.size+y.size<=1000000:=by
     have e1:=zee sep done x.data.toList;have e2:szs r=szs done+y.size+szs rest:=by rw [hda,zmy,zah];omega
     rw [<-hl] at e1;rw [hdl,Nat.mul_add,Nat.mul_add,Nat.mul_one] at hjl;omega
    have hsl:sep.data.toList.length=sep.size:=by simp
    have c3:=zak G l sep (by omega);have c4:=zak G (l++sep.data.toList) y (by rw [List.length_append,hsl];exact hbound);have hnx:=ih (l++sep.data.toList++y.data.toList) (by show _=zdk sep x.data.toList (done++[y]);rw [zum,hl]);(refine zg ?_;conv=>whnf)
    repeat' ((with_reducible refine way ?_ ?_)<;>(intro h;conv=>whnf))
    all_goals try (exfalso;omega)
    refine zh rfl rfl  hrow ?_;(refine zc ?_;conv=>whnf);refine ym rfl rfl rfl rfl rfl rfl (c3.mono fun r H' ⟨h1,h2⟩=>⟨by rw [h2];exact Nat.le_refl _,?_⟩);subst h1 h2;(refine zc ?_;conv=>whnf);refine ym rfl rfl rfl rfl rfl rfl (c4.mono fun r H' ⟨h1,h2⟩=>⟨by rw [h2];exact Nat.le_refl _,?_⟩);subst h1 h2;(refine zc ?_;conv=>whnf);rw [hw];exact zi [1,8,63,64,65] hnx
  ·rintro done y rest s hda hdl hs ih
   have hdl2:r.length+1=done.length+1+rest.length:=by simpa using hdl
   have hw:=zk (n:=done.length) (by omega);have hrow:((x::r).map fun s=>[dS s])[((done.length:Nat):Int).toNat]?=some [dS y]:=by rw [hda];simp
   have hsum:szs (x::r)=szs done+y.size+szs rest:=by rw [hda,zmy,zah];omega
   rw [zah] at hsum;have hs:s=n0+szs done:=hs;have hnx:=ih (s+y.size) (by show s+y.size=n0+szs (done++[y]);rw [zmy,hs];simp [szs];omega);have hw2:IntKind.i64.wrap (9223372036854775807-(s:Int))=9223372036854775807-(s:Int):=yg (by omega) (by omega);have hw3:IntKind.i64.wrap ((s:Int)+(y.size:Int))=((s+y.size:Nat):Int):=by rw [yg (by omega) (by omega)];omega
   (refine zg ?_;conv=>whnf)
   repeat' ((with_reducible refine way ?_ ?_)<;>(intro h;conv=>whnf))
   all_goals try (exfalso;omega)
   refine zh rfl rfl  hrow ?_;(refine zc ?_;conv=>whnf);rw [hw2]
   repeat' ((with_reducible refine way ?_ ?_)<;>(intro h;conv=>whnf))
   all_goals try (exfalso;omega)
   rw [hw,hw3];exact zi [0,1,5,39,40,41] hnx
 ·have hn00:=hsep0 h
  have hz:∀t' H',SW E t' [(0,.imm (xf (x::r))),(1,sS sep),(5,sI n0),(39,.imm (xf (x::r))),(40,sI ((x::r).map fun s=>[dS s]).length),(41,sI (0:Nat))] H'->SW E t' [(0,.imm (xf (x::r))),(1,sS sep),(5,sI 0),(39,.imm (xf (x::r))),(40,sI ((x::r).map fun s=>[dS s]).length),(41,sI (0:Nat))] H':=fun _ _ h=>by rw [hn00] at h;exact h
  refine zi [0,1,5,39,40,41] ?_;refine hz _ _ ?_;change SW E _ [(0,.imm (xf (x::r))),(1,sS sep),(5,sI n0),(39,.imm (xf (x::r))),(40,sI ((x::r).map fun s=>[dS s]).length),(41,sI (0:Nat))] [];refine zr (x::r) (fun i (s:Nat)=>[(0,.imm (xf (x::r))),(1,sS sep),(5,sI s),(39,.imm (xf (x::r))),(40,sI ((x::r).map fun s=>[dS s]).length),(41,sI i)]) (fun _ _=>[]) (fun done _ s=>s=n0+szs done) n0 rfl ?_ ?_
  ·rintro s hs
   have hs:s=(zdk sep x.data.toList r).length:=by rw [hs,zah,hjl2];omega
   subst hs;have c1:=zul G (zdk sep x.data.toList r).length h1 h2;have c2:=zak G [] x (by simp;omega);(refine yb [777,8] 1000 ?_;conv=>whnf)
   repeat' ((with_reducible refine way ?_ ?_)<;>(intro h;conv=>whnf))
   all_goals try (exfalso;omega)
   refine zfo rfl rfl rfl rfl rfl ?_;(refine zc ?_;conv=>whnf);refine ym rfl rfl rfl rfl rfl rfl (c1.mono fun r H' ⟨h1,h2⟩=>⟨by rw [h2];decide,?_⟩);subst h1 h2;(refine zc ?_;conv=>whnf);refine zh (i:=0) (row:=[dS x]) rfl rfl rfl ?_;(refine zc ?_;conv=>whnf);refine ym rfl rfl rfl rfl rfl rfl (c2.mono fun r H' ⟨h1,h2⟩=>⟨by rw [h2];exact Nat.le_refl _,?_⟩);subst h1 h2;(refine zc ?_;conv=>whnf);refine zlc (m:=1) rfl rfl rfl rfl rfl rfl rfl (by simp) ?_;(refine zc ?_;conv=>whnf);refine zi [1,8,63,64,65] ?_;change SW E _ [(1,sS sep),(8,.ptr 0 0),(63,.imm (xf r)),(64,sI (r.map fun s=>[dS s]).length),(65,sI (0:Nat))] (zst x.data.toList);have hlr:(r.map fun s=>[dS s]).length=r.length:=by simp
   refine zr r (fun i (_:List UInt8)=>[(1,sS sep),(8,.ptr 0 0),(63,.imm (xf r)),(64,sI (r.map fun s=>[dS s]).length),(65,sI i)]) (fun _ l=>zst l) (fun done _ l=>l=zdk sep x.data.toList done) x.data.toList rfl ?_ ?_
   ·rintro l hl
    have hl:l=zdk sep x.data.toList r:=hl;rw [<-hl] at hK;have hne:l≠[]:=by intro e;rw [hl] at e;rw [e] at h1;simp at h1
    have c5:=zfp G l hne (by rw [hl];exact h2);(refine zg ?_;conv=>whnf)
    repeat' ((with_reducible refine way ?_ ?_)<;>(intro h;conv=>whnf))
    all_goals try (exfalso;omega)
    refine ym rfl rfl rfl rfl rfl rfl (c5.mono fun r H' ⟨h1,h2⟩=>⟨by rw [h2];exact Nat.le_refl _,?_⟩);subst h1 h2;(refine zc ?_;conv=>whnf);exact hK _
   ·rintro done y rest l hda hdl hl ih
    have hl:l=zdk sep x.data.toList done:=hl;have hw:=zk (n:=done.length) (by omega);have hrow:(r.map fun s=>[dS s])[((done.length:Nat):Int).toNat]?=some [dS y]:=by rw [hda];simp
    have hbound:l.length+sep.size+y.size<=1000000:=by
     have e1:=zee sep done x.data.toList;have e2:szs r=szs done+y.size+szs rest:=by rw [hda,zmy,zah];omega
     rw [<-hl] at e1;rw [hdl,Nat.mul_add,Nat.mul_add,Nat.mul_one] at hjl;omega
    have hsl:sep.data.toList.length=sep.size:=by simp
    have c3:=zak G l sep (by omega);have c4:=zak G (l++sep.data.toList) y (by rw [List.length_append,hsl];exact hbound);have hnx:=ih (l++sep.data.toList++y.data.toList) (by show _=zdk sep x.data.toList (done++[y]);rw [zum,hl]);(refine zg ?_;conv=>whnf)
    repeat' ((with_reducible refine way ?_ ?_)<;>(intro h;conv=>whnf))
    all_goals try (exfalso;omega)
    refine zh rfl rfl  hrow ?_;(refine zc ?_;conv=>whnf);refine ym rfl rfl rfl rfl rfl rfl (c3.mono fun r H' ⟨h1,h2⟩=>⟨by rw [h2];exact Nat.le_refl _,?_⟩);subst h1 h2;(refine zc ?_;conv=>whnf);refine ym rfl rfl rfl rfl rfl rfl (c4.mono fun r H' ⟨h1,h2⟩=>⟨by rw [h2];exact Nat.le_refl _,?_⟩);subst h1 h2;(refine zc ?_;conv=>whnf);rw [hw];exact zi [1,8,63,64,65] hnx
  ·rintro done y rest s hda hdl hs ih
   have hdl2:r.length+1=done.length+1+rest.length:=by simpa using hdl
   have hw:=zk (n:=done.length) (by omega);have hrow:((x::r).map fun s=>[dS s])[((done.length:Nat):Int).toNat]?=some [dS y]:=by rw [hda];simp
   have hsum:szs (x::r)=szs done+y.size+szs rest:=by rw [hda,zmy,zah];omega
   rw [zah] at hsum;have hs:s=n0+szs done:=hs;have hnx:=ih (s+y.size) (by show s+y.size=n0+szs (done++[y]);rw [zmy,hs];simp [szs];omega);have hw2:IntKind.i64.wrap (9223372036854775807-(s:Int))=9223372036854775807-(s:Int):=yg (by omega) (by omega);have hw3:IntKind.i64.wrap ((s:Int)+(y.size:Int))=((s+y.size:Nat):Int):=by rw [yg (by omega) (by omega)];omega
   (refine zg ?_;conv=>whnf)
   repeat' ((with_reducible refine way ?_ ?_)<;>(intro h;conv=>whnf))
   all_goals try (exfalso;omega)
   refine zh rfl rfl  hrow ?_;(refine zc ?_;conv=>whnf);rw [hw2]
   repeat' ((with_reducible refine way ?_ ?_)<;>(intro h;conv=>whnf))
   all_goals try (exfalso;omega)
   rw [hw,hw3];exact zi [0,1,5,39,40,41] hnx
def HP (b r e:Nat) (lp:SObj):List SObj:=[.cells [sI b],.cells [sI r],.cells [sI e],lp]
theorem ynp (G:List (Nat × D)) (n:Nat) (H:List SObj):SCall Tryz.prog G 127 [sI n] H (fun r H'=>r= .fn (.func 162) [] [.ptr H.length 0]/\H'=H++[.cells [sI n]]):=by
 refine xb Tryz.func127 rfl (by rw [Tryz.ntmps127];simp) ?_;intro E hH hK;(refine zg ?_;conv=>whnf);exact hK _ _ ⟨rfl,rfl⟩
theorem yae (G:List (Nat × D)) {f:FuncId} {n:Nat} {tL:List (Nat × SV)} {ps:Array Tmp} {asg bd:Code} (hps:1=ps.size)
  (hy:∀b r e,b<prm->r<prm->e<9223372036854775808->SYield Tryz.prog G 3 [sB (decide (e % 2=1))] (HP b r e (.loop .ready f n tL ps asg bd)) (fun res H'=>res=true/\H'=HP (b*b % prm) (if e % 2=1 then r*b % prm else r) e (.loop .ready f n tL ps asg bd)))
  (b r e:Nat) (hb:b<prm) (hr:r<prm) (he:e<9223372036854775808):
  SCall Tryz.prog G 162 [.yld 3,.ptr 2 0] (HP b r e (.loop .ready f n tL ps asg bd)) (fun _ H'=>∃b',H'=HP b' (r*b ^ e % prm) 0 (.loop .ready f n tL ps asg bd)):=by
 refine xb Tryz.func162 rfl (by rw [Tryz.ntmps162];simp) ?_;intro E hH hK;generalize hR:r*b ^ e % prm=R at hK;(refine zg ?_;conv=>whnf);refine zi [0,1] ?_;change SW E _ [(0,.yld 3),(1,.ptr 2 0)] _;refine yx (σ:=Nat × Nat × Nat) (fun _=>[(0,.yld 3),(1,.ptr 2 0)]) (fun x=>HP x.1 x.2.1 x.2.2 (.loop .ready f n tL ps asg bd)) (fun x=>x.2.1*x.1 ^ x.2.2 % prm=R/\x.1<prm/\x.2.1<prm/\x.2.2<9223372036854775808) (fun x=>x.2.2) ?_ (b,r,e) ⟨hR,hb,hr,he⟩;clear hR hb hr he;rintro ⟨b,r,e⟩ ⟨i1,i2,i3,i4⟩ ih;simp only at i1 i2 i3 i4;have w3:=yzt (a:=e) i4;have w4:(e:Int).fdiv (2 ^ min (1:Int).toNat IntKind.i64.bits)=((e / 2:Nat):Int):=ylk e 1;have hend:e=0->r=R:=fun h=>by rw [<-i1,h,Nat.pow_zero,Nat.mul_one];exact (Nat.mod_eq_of_lt i3).symm
 have hnext:¬e=0->SW E _ [(0,.yld 3),(1,.ptr 2 0)] (HP (b*b % prm) (if e % 2=1 then r*b % prm else r) (e / 2) (.loop .ready f n tL ps asg bd)):=fun h0=>by
  refine ih (b*b % prm,(if e % 2=1 then r*b % prm else r),e / 2) ⟨?_,Nat.mod_lt _ (by decide),?_,by simp only;omega⟩ (by simp only;omega)
  ·simp only
   rw [<-i1,Nat.mul_mod, <-Nat.pow_mod, <-Nat.mul_mod, <-Nat.pow_two, <-Nat.pow_mul];split
   ·rw [Nat.mod_mul_mod,Nat.mul_assoc, <-Nat.pow_succ',Nat.succ_eq_add_one,show 2*(e / 2)+1=e by omega]
   ·rw [show 2*(e / 2)=e by omega]
  ·simp only
   split
   ·exact Nat.mod_lt _ (by decide)
   ·exact i3
 have hyy:=hy b r e i2 i3 i4;show SW E _ _ (HP b r e (.loop .ready f n tL ps asg bd));have hdec:decide (((e % 2:Nat):Int)=1)=decide (e % 2=1):=by
  congr 1
  exact propext (by omega)
 (refine zg ?_;conv=>whnf)
 repeat' ((with_reducible refine way ?_ ?_)<;>(intro h;conv=>whnf))
 ·have h0:¬e=0:=by omega
  rw [w3,hdec];refine zqc rfl rfl rfl rfl rfl hps rfl (hyy.mono ?_);rintro _ _ ⟨rfl,rfl⟩;refine ⟨Nat.le_refl _,?_⟩;(refine zc ?_;conv=>whnf);rw [w4];exact zi [0,1] (hnext h0)
 ·have h0:e=0:=by omega
  subst h0;rw [hend rfl];exact hK _ _ ⟨b,rfl⟩
theorem zrz (G:List (Nat × D)) (b e:Nat) (hb:b<prm) (he:e<9223372036854775808):zv Tryz.prog G 84 [sI b,sI e] (sI (zog b e)):=by
 have hpe:zog b e=b ^ e % prm:=zmm (by omega);have hb':b<2147483579:=hb;refine zf Tryz.func84 rfl (by rw [Tryz.ntmps84];simp) rfl rfl ?_;intro E hH hK;(refine zg ?_;conv=>whnf)
 repeat' ((with_reducible refine way ?_ ?_)<;>(intro h;conv=>whnf))
 all_goals try (exfalso;omega)
 refine ym rfl rfl rfl rfl rfl rfl ((ynp G e _).mono ?_);rintro _ _ ⟨rfl,rfl⟩;refine ⟨by simp,?_⟩;(refine zc ?_;conv=>whnf);refine zi [2,5,18] ?_;change SW E _ [(2,.ptr 0 0),(5,.ptr 1 0),(18,.fn (.func 162) [] [.ptr 2 0])] [.cells [sI b],.cells [sI (1:Nat)],.cells [sI e]];refine zei rfl rfl ?_;refine (yae G (tL:=[(2,.ptr 0 0),(5,.ptr 1 0),(18,.fn (.func 162) [] [.ptr 2 0])]) rfl ?_ b 1 e hb (by decide) he).mono ?_
 ·intro b r e hb hr he
  have hbb:b*b<9223372036854775808:=Nat.lt_of_le_of_lt (Nat.mul_le_mul (Nat.le_of_lt hb) (Nat.le_of_lt hb)) (by decide);have hrb:r*b<9223372036854775808:=Nat.lt_of_le_of_lt (Nat.mul_le_mul (Nat.le_of_lt hr) (Nat.le_of_lt hb)) (by decide);have w1:(IntKind.i64.wrap ((b:Int)*(b:Int))).tmod 2147483579=((b*b % prm:Nat):Int):=by
   rw [yg (by rw [<-Int.natCast_mul];omega) (by rw [<-Int.natCast_mul];omega),Int.tmod_eq_emod_of_nonneg (by rw [<-Int.natCast_mul];omega)];rfl
  have w2:(IntKind.i64.wrap ((r:Int)*(b:Int))).tmod 2147483579=((r*b % prm:Nat):Int):=by
   rw [yg (by rw [<-Int.natCast_mul];omega) (by rw [<-Int.natCast_mul];omega),Int.tmod_eq_emod_of_nonneg (by rw [<-Int.natCast_mul];omega)];rfl
  refine zej (b:=3) rfl E.hfn rfl (by decide) ?_;intro E3 hl3 hOwn hKR;(refine zg ?_;conv=>whnf);refine zor hOwn rfl ?_;(refine zg ?_;conv=>whnf)
  repeat' ((with_reducible refine way ?_ ?_)<;>(intro h;conv=>whnf))
  ·refine hKR none _ _ (Nat.le_refl _) rfl ⟨rfl,?_⟩
   rw [if_pos h];unfold HP;rw [<-w1, <-w2];rfl
  ·refine hKR none _ _ (Nat.le_refl _) rfl ⟨rfl,?_⟩
   rw [if_neg h];unfold HP;rw [<-w1];rfl
 ·rintro r H' ⟨b',rfl⟩
  refine ⟨Nat.le_refl _,.ready,_,rfl,.inl ⟨rfl,?_⟩⟩;rw [Nat.one_mul, <-hpe];(refine zg ?_;conv=>whnf);exact hK _
def ynq (v x:Nat):Nat:=zog 4 v*zog 9 x % 2147483579
theorem zkk (v x:Nat) (hv:v<ord) (hx:x<ord):zv Tryz.prog G37 39 [sI v,sI x] (.tup [sI (ynq v x),sI (0:Nat)]):=by
 have hv':v<1073741789:=hv;have hx':x<1073741789:=hx;have c1:=zrz G37 4 v (by decide) (by omega);have c2:=zrz G37 9 x (by decide) (by omega);have l1:=zvs 4 v;have l2:=zvs 9 x;have hm:zog 4 v*zog 9 x<9223372036854775808:=Nat.lt_of_le_of_lt (Nat.mul_le_mul (Nat.le_of_lt l1) (Nat.le_of_lt l2)) (by decide);have hw:(IntKind.i64.wrap (((zog 4 v:Nat):Int)*((zog 9 x:Nat):Int))).tmod 2147483579=((ynq v x:Nat):Int):=by
  rw [yg (by rw [<-Int.natCast_mul];omega) (by rw [<-Int.natCast_mul];omega),Int.tmod_eq_emod_of_nonneg (by rw [<-Int.natCast_mul];omega)];rfl
 generalize ynq v x=c at hw ⊢;generalize zog 4 v=p at*;generalize zog 9 x=q at*;refine zf Tryz.func39 rfl (by rw [Tryz.ntmps39];simp) rfl rfl ?_;intro E hH hK;(refine zg ?_;conv=>whnf)
 repeat' ((with_reducible refine way ?_ ?_)<;>(intro h;conv=>whnf))
 all_goals try (exfalso;omega)
 (refine zt mixed rfl ?_;refine zd [] ?_;conv=>whnf);refine zu rfl  c1 ?_;(refine zd [] ?_;conv=>whnf);refine zu rfl  c2 ?_;(refine zd [] ?_;conv=>whnf);rw [hw];(refine zg ?_;conv=>whnf);exact hK _
theorem yvf (s:ByteArray):s++(⟨#[]⟩:ByteArray)=s:=by
 apply ByteArray.ext
 simp [ByteArray.data_append]
theorem zgu (label:ByteArray) (c:Int) (reason:ByteArray) (h1:label.size<=100000) (h2:reason.size<=100000) (h3: -9000000000000000000<=c/\c<=9000000000000000000):
  zv Tryz.prog G37 40 [sS label,sI c,sS reason] (sS (zdi label c reason)):=by
 have c1:=ztc zgt (label.size:Int) (by omega) (by omega);have c2:=ztc zgt c (by omega) (by omega);have z1:=wy (label.size:Int) (by omega) (by omega);have z2:=wy c (by omega) (by omega);have e:zdi label c reason=zhg ⟨#[]⟩ [ql label.size,⟨#[58]⟩,label,ql c,⟨#[32]⟩,reason]:=by
  unfold zdi zhg;simp only [List.foldl_cons,List.foldl_nil,yvf]
 rw [e];generalize ql label.size=s1 at*;generalize ql c=s2 at*;have hl:=zee ⟨#[]⟩ [(⟨#[58]⟩:ByteArray),label,s2,⟨#[32]⟩,reason] s1.data.toList;have hs1:s1.data.toList.length=s1.size:=by simp
 have hz:szs [(⟨#[58]⟩:ByteArray),label,s2,⟨#[32]⟩,reason]=1+(label.size+(s2.size+(1+reason.size))):=by
  simp only [zah];show 1+(label.size+(s2.size+(1+(reason.size+0))))=_;omega
 have h0:(⟨#[]⟩:ByteArray).size=0:=rfl;rw [hs1,hz,h0,Nat.zero_mul] at hl;have c3:=zun G37 ⟨#[]⟩ s1 [(⟨#[58]⟩:ByteArray),label,s2,⟨#[32]⟩,reason] (by simp) (by omega) (by omega) (by simp);generalize zhg ⟨#[]⟩ [s1,(⟨#[58]⟩:ByteArray),label,s2,⟨#[32]⟩,reason]=res at c3 ⊢;have c4:zv Tryz.prog G37 85 [.imm (xf [s1,(⟨#[58]⟩:ByteArray),label,s2,⟨#[32]⟩,reason])] (sS res):=by
  refine zf Tryz.func85 rfl (by rw [Tryz.ntmps85];simp) rfl rfl ?_;intro E hH hK;(refine zg ?_;conv=>whnf);refine ze rfl  c3 ?_;(refine zc ?_;conv=>whnf);exact hK _
 refine zf Tryz.func40 rfl (by rw [Tryz.ntmps40];simp) rfl rfl ?_;intro E hH hK;(refine zg ?_;conv=>whnf);refine ze rfl  c1 ?_;(refine zc ?_;conv=>whnf);refine ze rfl  c2 ?_;(refine zc ?_;conv=>whnf);refine ze rfl  c4 ?_;(refine zc ?_;conv=>whnf);exact hK _
structure Slip where
 person:ByteArray
 month:Int
 rows:List Rw
 blinds:List Int
 root:Nat
def Slip.cells (s:Slip):List D:=[zhf s.person,dI s.month,zok s.rows,xh s.blinds,dU s.root]
def Slip.sv (s:Slip):SV:=.agg (s.cells.map .imm)
def zuo (r:Rw) (b:Int):Nat:=yhn r.cents b
def zpd:List Rw->List Int->List Int
 |r::rs,b::bs=>(zuo r b:Int)::zpd rs bs
 |_,_=>[]
def zaz:List Rw->List Int->List ByteArray
 |r::rs,b::bs=>zdi r.label (zuo r b) r.reason::zaz rs bs
 |_,_=>[]
theorem zpe:∀(rs:List Rw) (bs:List Int),bs.length=rs.length->(zpd rs bs).length=rs.length
 |[],[],_=>rfl
 |_::rs,_::bs,h=>by simp [zpd,zpe rs bs (by simpa using h)]
 |[],_::_,h=>by simp at h
 |_::_,[],h=>by simp at h
theorem zef:∀(rs:List Rw) (bs:List Int),bs.length=rs.length->(zaz rs bs).length=rs.length
 |[],[],_=>rfl
 |_::rs,_::bs,h=>by simp [zaz,zef rs bs (by simpa using h)]
 |[],_::_,h=>by simp at h
 |_::_,[],h=>by simp at h
def yze (r:Rw):Prop:=r.label.size<=100000/\r.reason.size<=100000/\ -500000000<=r.cents/\r.cents<=500000000
theorem zsa (r:Rw) (b:Int):zuo r b<2147483579:=Nat.mod_lt _ (by decide)
theorem zic (c b:Int) (hc: -500000000<=c/\c<=500000000) (hb:0<=b/\b<1073741789):zv Tryz.prog G37 39 [sI ((c+1073741789).tmod 1073741789),sI b] (.tup [sI (yhn c b),sI (0:Nat)]):=by
 have h1:(c+1073741789).tmod 1073741789=((zss c:Nat):Int):=by
  rw [Int.tmod_eq_emod_of_nonneg (by omega)];unfold zss;omega
 have h2:b=((b.toNat:Nat):Int):=by omega
 have h:=zkk (zss c) b.toNat (by unfold zss ord;omega) (by unfold ord;omega);rw [h1];rw [h2];exact h
theorem yaf (rows:List Rw) (blinds:List Int) (hl:blinds.length=rows.length) (hn:rows.length<=1024) (hr:∀r∈rows,yze r) (hb:∀b∈blinds,0<=b/\b<1073741789):
  zv Tryz.prog G37 83 [.imm (zok rows),.imm (xh blinds)] (.tup [.imm (xf (zaz rows blinds)),sB true]):=by
 have hml:(rows.map Rw.cells).length=rows.length:=by simp
 refine zf Tryz.func83 rfl (by rw [Tryz.ntmps83];simp) rfl rfl ?_;intro E hH hK;(refine zg ?_;conv=>whnf);refine zje (n:=6) (kk:=1) rfl ?_;refine zi [1,6,11,12,13] ?_;change SW E _ [(1,.imm (xh blinds)),(6,.asl 0 1 (([]:List ByteArray).map fun s=>[dS s])),(11,.imm (zok rows)),(12,sI (rows.map Rw.cells).length),(13,sI (0:Nat))] [.tok 1 (([]:List ByteArray).map fun s=>[dS s]).length];refine zr rows (fun i (l:List ByteArray)=>[(1,.imm (xh blinds)),(6,.asl 0 1 (l.map fun s=>[dS s])),(11,.imm (zok rows)),(12,sI (rows.map Rw.cells).length),(13,sI i)]) (fun _ l=>[.tok 1 (l.map fun s=>[dS s]).length])
  (fun done rest l=>zaz rows blinds=l++zaz rest (blinds.drop done.length)/\l.length=done.length) [] ⟨rfl,rfl⟩ ?_ ?_
 ·rintro l ⟨h1,h2⟩
  have h1:zaz rows blinds=l:=by rw [h1];simp [zaz]
  rw [h1] at hK;refine zed ?_;change SW E _ [(1,.imm (xh blinds)),(6,.imm (xf l)),(11,.imm (zok rows)),(12,sI (rows.map Rw.cells).length),(13,sI rows.length)] _;(refine zg ?_;conv=>whnf)
  repeat' ((with_reducible refine way ?_ ?_)<;>(intro h;conv=>whnf))
  all_goals try (exfalso;omega)
  exact hK _
 ·rintro done r rest l hda hdl ⟨h1,h2⟩ ih
  have hw:=zk (n:=done.length) (by omega);have hrow:(rows.map Rw.cells)[((done.length:Nat):Int).toNat]?=some r.cells:=by simp [hda]
  obtain ⟨b,hbb⟩:∃b,blinds[done.length]?=some b:=⟨_,List.getElem?_eq_getElem (by omega)⟩;have hrb:(blinds.map fun (n:Int)=>[dI n])[((done.length:Nat):Int).toNat]?=some [dI b]:=by simp [hbb]
  have hdr:blinds.drop done.length=b::blinds.drop (done.length+1):=by
   rw [List.drop_eq_getElem_cons (by omega)];rw [List.getElem?_eq_getElem (by omega)] at hbb;rw [Option.some.inj hbb]
  have hbr:=hb b (List.mem_of_getElem? hbb);obtain ⟨f1,f2,f3,f4⟩:=hr r (by rw [hda];simp);rw [hdr,zaz] at h1;have hlt:=zsa r b;have hnx:=ih (l++[zdi r.label (zuo r b) r.reason]) ⟨by rw [h1];simp,by simp [h2]⟩;rw [List.map_append,List.length_append] at hnx;have c0:=zny G37 r.cents;rw [decide_eq_true f3,decide_eq_true f4] at c0;have c1:=zic r.cents b ⟨f3,f4⟩ hbr;change zv _ _ _ _ (.tup [sI (zuo r b),_]) at c1;have c2:=zgu r.label (zuo r b) r.reason f1 f2 ⟨by omega,by omega⟩;generalize zdi r.label (zuo r b) r.reason=lf at c2 hnx;generalize zuo r b=cm at c1 c2 hlt;clear ih h1 hdr;obtain ⟨la,ce,re⟩:=r;simp only at f3 f4 c0 c1 c2;have hws:IntKind.i64.wrap (ce+1073741789)=ce+1073741789:=yg (by omega) (by omega);(refine zg ?_;conv=>whnf)
  repeat' ((with_reducible refine way ?_ ?_)<;>(intro h;conv=>whnf))
  all_goals try (exfalso;omega)
  refine zh rfl rfl  hrow ?_;(refine zc ?_;conv=>whnf);refine ze rfl  c0 ?_;(refine zc ?_;conv=>whnf);(refine zt mixed rfl ?_;refine zd [] ?_;conv=>whnf);refine yc rfl rfl  hrb ?_;(refine zd [] ?_;conv=>whnf);rw [hws];refine zu rfl  c1 ?_;(refine zd [] ?_;conv=>whnf);(refine zg ?_;conv=>whnf);refine ze rfl  c2 ?_;(refine zc ?_;conv=>whnf);refine yy (b:=0) (kk:=1) (rows:=l.map fun s=>[dS s]) (new:=[[dS lf]]) rfl ⟨by decide,rfl⟩ rfl (by rw [List.length_map];simp only [List.length_cons,List.length_nil];omega) ?_;(refine zc ?_;conv=>whnf);rw [hw];exact yq [1,6,11,12,13] 1 (by rw [hH];exact Nat.zero_le _) (Nat.succ_le_succ (Nat.zero_le _)) rfl rfl hnx
end Go.Proofs.YtjnddlifnkgncaaGreatDoor