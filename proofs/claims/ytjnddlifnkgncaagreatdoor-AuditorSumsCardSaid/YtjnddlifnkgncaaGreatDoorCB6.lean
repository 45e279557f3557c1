/- Contracts of functions of the program, joined from TTb, TTc, TTd, TTe, TYc, TYd, TYe, TYf, TZa, TZb, TSh56, TUc, TUe, TUf, TUg: no condition. -/
import Derived.Test.YtjnddlifnkgncaaGreatDoorCB5
set_option linter.unusedSimpArgs false
set_option linter.unusedVariables false
set_option maxRecDepth 10000
set_option maxHeartbeats 8000000
namespace Go.Proofs.YtjnddlifnkgncaaGreatDoor
open Go Go.Sh
def chN:Nat->Nat->Nat
 |_,0=>1
 |0,_+1=>0
 |n+1,k+1=>chN n k+chN n (k+1)
theorem zgw:∀n k:Nat,n<k->chN n k=0
 |_,0,h=>absurd h (Nat.not_lt_zero _)
 |0,_+1,_=>rfl
 |n+1,k+1,h=>by rw [chN,zgw n k (by omega),zgw n (k+1) (by omega)]
theorem zpq (n:Nat):chN n 0=1:=by cases n<;>rfl
theorem ycl:∀n:Nat,chN n n=1
 |0=>rfl
 |n+1=>by rw [chN,ycl n,zgw n (n+1) (by omega)]
theorem zub:∀n k:Nat,(k+1)*chN (n+1) (k+1)=(n+1)*chN n k
 |0,0=>rfl
 |0,k+1=>by rw [zgw 1 (k+1+1) (by omega),zgw 0 (k+1) (by omega)];simp
 |n+1,0=>by
  have h:=zub n 0;rw [zpq] at h;rw [show chN (n+1+1) (0+1)=chN (n+1) 0+chN (n+1) (0+1) from rfl,zpq];omega
 |n+1,k+1=>by
  have h1:=zub n k;have h2:=zub n (k+1);have e:chN (n+1) (k+1)=chN n k+chN n (k+1):=rfl;rw [show chN (n+1+1) (k+1+1)=chN (n+1) (k+1)+chN (n+1) (k+1+1) from rfl,Nat.mul_add,h2,Nat.add_mul (k+1) 1,h1,Nat.one_mul,Nat.add_mul (n+1) 1,Nat.one_mul];have e2:(n+1)*chN (n+1) (k+1)=(n+1)*chN n k+(n+1)*chN n (k+1):=by rw [e,Nat.mul_add]
  omega
def zxi (f:Nat->Nat):Nat->Nat
 |0=>0
 |m+1=>zxi f m+f m
theorem zxj (n a:Nat):∀m,zxi (fun k=>chN (n+1) k*a ^ k) (m+1)=a*zxi (fun k=>chN n k*a ^ k) m+zxi (fun k=>chN n k*a ^ k) (m+1)
 |0=>by simp [zxi,zpq]
 |m+1=>by
  have ih:=zxj n a m;rw [zxi,ih];show _+chN (n+1) (m+1)*a ^ (m+1)=a*(zxi (fun k=>chN n k*a ^ k) m+chN n m*a ^ m)+(zxi (fun k=>chN n k*a ^ k) (m+1)+chN n (m+1)*a ^ (m+1));have e:chN (n+1) (m+1)*a ^ (m+1)=a*(chN n m*a ^ m)+chN n (m+1)*a ^ (m+1):=by
   rw [show chN (n+1) (m+1)=chN n m+chN n (m+1) from rfl,Nat.add_mul,Nat.pow_succ,Nat.mul_comm (a ^ m) a,Nat.mul_left_comm]
  rw [e,Nat.mul_add];omega
theorem ysp (a:Nat):∀n,(a+1) ^ n=zxi (fun k=>chN n k*a ^ k) (n+1)
 |0=>by simp [zxi,zpq]
 |n+1=>by
  have h:zxi (fun k=>chN n k*a ^ k) (n+1+1)=zxi (fun k=>chN n k*a ^ k) (n+1):=by
   rw [zxi,zgw n (n+1) (by omega),Nat.zero_mul,Nat.add_zero]
  rw [zxj,h, <-ysp a n,Nat.pow_succ,Nat.mul_add,Nat.mul_one,Nat.mul_comm]
structure PrimeN (q:Nat):Prop where
 two:2<=q
 cop:∀k,0<k->k<q->Nat.Coprime q k
theorem yjw {q:Nat} (hq:PrimeN q) {k:Nat} (h0:0<k) (h1:k<q):q ∣ chN q k:=by
 obtain ⟨k,rfl⟩:∃j,k=j+1:=⟨k-1,by omega⟩;obtain ⟨n,rfl⟩:∃n,q=n+1:=⟨q-1,by omega⟩;have h:n+1 ∣ (k+1)*chN (n+1) (k+1):=⟨chN n k,zub n k⟩;exact (hq.cop (k+1) h0 h1).dvd_of_dvd_mul_left h
theorem ycm {q:Nat} (hq:PrimeN q) (a:Nat):∀m,m<q->zxi (fun k=>chN q k*a ^ k) (m+1) % q=1
 |0,_=>by
  have:=hq.two;simp [zxi,zpq,Nat.mod_eq_of_lt (show 1<q by omega)]
 |m+1,h=>by
  rw [zxi];obtain ⟨c,hc⟩:=yjw hq (k:=m+1) (by omega) h;simp only [hc];rw [Nat.mul_assoc,Nat.add_mul_mod_self_left];exact ycm hq a m (by omega)
theorem zsa {q:Nat} (hq:PrimeN q):∀a:Nat,a ^ q % q=a % q
 |0=>by
  have:=hq.two;rw [Nat.zero_pow (by omega)]
 |a+1=>by
  have h2:=hq.two;have h:=ycm hq a (q-1) (by omega);rw [show q-1+1=q by omega] at h;rw [ysp,zxi,ycl,Nat.one_mul,Nat.add_mod,h,zsa hq a,Nat.add_mod a 1,Nat.mod_eq_of_lt (show 1<q by omega),Nat.add_comm]
theorem zzz {a b q:Nat} (h:a % q=b % q):q ∣ a-b:=Nat.dvd_of_mod_eq_zero (Nat.sub_mod_eq_zero_of_mod_eq h)
theorem zsb {q:Nat} (hq:PrimeN q) {a:Nat} (ha:a % q≠0):a ^ (q-2)*a % q=1:=by
 have h2:=hq.two;have hp:0<a:=by
  rcases Nat.eq_zero_or_pos a with h|h
  ·rw [h,Nat.zero_mod] at ha
   exact absurd rfl ha
  ·exact h
 have hc:Nat.Coprime q a:=by
  have h:=hq.cop (a % q) (by omega) (Nat.mod_lt _ (by omega));unfold Nat.Coprime at h ⊢;rw [<-h,Nat.gcd_comm q (a % q), <-Nat.gcd_rec]
 have h3:q ∣ a*a ^ (q-1)-a*1:=by
  refine zzz ?_;rw [<-Nat.pow_succ',show Nat.succ (q-1)=q by omega,Nat.mul_one];exact zsa hq a
 rw [<-Nat.mul_sub] at h3;obtain ⟨c,h4⟩:=hc.dvd_of_dvd_mul_left h3;have h5:a ^ (q-1)=1+q*c:=by
  have:0<a ^ (q-1):=Nat.pow_pos hp;omega
 rw [<-Nat.pow_succ,show Nat.succ (q-2)=q-1 by omega,h5,Nat.add_mul_mod_self_left,Nat.mod_eq_of_lt (by omega)]
theorem ygd {p a b c d:Nat} (h:a % p=b % p) (k:c % p=d % p):a*c % p=b*d % p:=by rw [Nat.mul_mod,h,k, <-Nat.mul_mod]
theorem ytc {p a b:Nat} (h:a % p=b % p) (n:Nat):a ^ n % p=b ^ n % p:=by rw [Nat.pow_mod,h, <-Nat.pow_mod]
theorem zks {p a b c d:Nat} (hc:c*d % p=1 % p) (h:a*c % p=b*c % p):a % p=b % p:=by
 have h1:a*c*d % p=b*c*d % p:=ygd h rfl;have h2:∀x,x*c*d % p=x % p:=fun x=>by
  rw [Nat.mul_assoc];have:=ygd (p:=p) (a:=x) (b:=x) rfl hc
  rwa [Nat.mul_one] at this
 rwa [h2,h2] at h1
structure Elm (p q b:Nat):Prop where
 one:b ^ q % p=1 % p
theorem Elm.red {p q b:Nat} (h:Elm p q b) (e:Nat):b ^ e % p=b ^ (e % q) % p:=by
 have h1:b ^ (q*(e / q)) % p=1 % p:=by
  rw [Nat.pow_mul];have:=ytc h.one (e / q)
  rwa [Nat.one_pow] at this
 have h2:b ^ e=b ^ (q*(e / q))*b ^ (e % q):=by rw [<-Nat.pow_add,Nat.div_add_mod]
 rw [h2];have:=ygd h1 (rfl:b ^ (e % q) % p=b ^ (e % q) % p)
 rwa [Nat.one_mul] at this
theorem Elm.congr {p q b:Nat} (h:Elm p q b) {e f:Nat} (he:e % q=f % q):b ^ e % p=b ^ f % p:=by rw [h.red e,he, <-h.red f]
theorem Elm.inv {p q b:Nat} (h:Elm p q b) (hq:0<q) (e:Nat):b ^ e*b ^ (q-e % q) % p=1 % p:=by
 rw [<-Nat.pow_add,h.congr (f:=0) ?_,Nat.pow_zero];have h1:=Nat.mod_lt e hq;have h2:=Nat.div_add_mod e q;have h3:e+(q-e % q)=q+q*(e / q):=by omega
 rw [h3,Nat.add_mul_mod_self_left,Nat.mod_self,Nat.zero_mod]
theorem Elm.inj {p q b:Nat} (hq:PrimeN q) (h:Elm p q b) (hb:b % p≠1 % p) {e f:Nat} (he:e<q) (hf:f<q) (hef:b ^ e % p=b ^ f % p):e=f:=by
 have key:∀e f,e<f->f<q->b ^ e % p=b ^ f % p->False:=fun e f hlt hf hef=>by
  have h1:b ^ (f-e) % p=1 % p:=by
   refine zks (h.inv (by omega) e) ?_;rw [<-Nat.pow_add,Nat.one_mul,show f-e+e=f by omega];exact hef.symm
  have h2:=zsb hq (a:=f-e) (by rw [Nat.mod_eq_of_lt (by omega)];omega);have h3:b ^ ((f-e) ^ (q-2)*(f-e)) % p=b ^ 1 % p:=h.congr (by rw [h2,Nat.mod_eq_of_lt (by omega)]);rw [Nat.mul_comm,Nat.pow_mul,ytc h1,Nat.one_pow,Nat.pow_one] at h3;exact hb h3.symm
 rcases Nat.lt_trichotomy e f with h1|h1|h1
 ·exact (key e f h1 hf hef).elim
 ·exact h1
 ·exact (key f e h1 he hef.symm).elim
def yfm (q:Nat):Nat->Nat->Bool
 |0,lo=>Nat.ble lo 1|| !(Nat.beq (q % lo) 0)
 |k+1,lo=>yfm q k lo&&yfm q k (lo+2 ^ k)
theorem zkt (q:Nat):∀k lo,yfm q k lo=true->∀d,lo<=d->d<lo+2 ^ k->2<=d->¬d ∣ q
 |0,lo,h,d,h1,h2,h3,hd=>by
  have e:d=lo:=by omega
  subst e;have hm:=Nat.mod_eq_zero_of_dvd hd;unfold yfm at h;rw [hm] at h;rw [Bool.or_eq_true] at h;rcases h with h|h
  ·have:=Nat.le_of_ble_eq_true h
   omega
  ·exact absurd h (by decide)
 |k+1,lo,h,d,h1,h2,h3,hd=>by
  unfold yfm at h;rw [Bool.and_eq_true] at h;rw [Nat.pow_succ] at h2;rcases Nat.lt_or_ge d (lo+2 ^ k) with hlt|hge
  ·exact zkt q k lo h.1 d h1 hlt h3 hd
  ·exact zkt q k _ h.2 d hge (by omega) h3 hd
theorem zqo {q k:Nat} (h2:2<=q) (h:yfm q k 0=true) (hk:q<2 ^ k*2 ^ k):PrimeN q:=by
 have nd:∀d,2<=d->d<q->¬d ∣ q:=fun d hd hlt hdv=>by
  obtain ⟨c,hc⟩:=hdv;have hs:=zkt q k 0 h;rcases Nat.lt_or_ge d (2 ^ k) with h1|h1
  ·exact hs d (by omega) (by omega) hd ⟨c,hc⟩
  ·rcases Nat.lt_or_ge c (2 ^ k) with h3|h3
   ·have hc2:2<=c:=by
     rcases c with _|_|c
     ·omega
     ·omega
     ·omega
    exact hs c (by omega) (by omega) hc2 ⟨d,by rw [hc,Nat.mul_comm]⟩
   ·have:=Nat.mul_le_mul h1 h3
    omega
 refine ⟨h2,fun k h0 h1=>?_⟩;have hg1:=Nat.gcd_dvd_left q k;have hg2:=Nat.gcd_dvd_right q k;have hg3:=Nat.le_of_dvd h0 hg2;have hg0:0<Nat.gcd q k:=Nat.gcd_pos_of_pos_right _ h0;unfold Nat.Coprime;rcases Nat.lt_or_ge (Nat.gcd q k) 2 with h3|h3
 ·omega
 ·exact (nd _ h3 (by omega) hg1).elim
theorem zxk:PrimeN 1073741789:=zqo (k:=15) (by decide) (by kernel_rfl) (by decide)
theorem yjx (b e:Nat) (he:e<18446744073709551616) (h:zjv b e=1):Elm 2147483579 e b:=⟨by
 rw [zfx he] at h
 exact h⟩
theorem elm4:Elm 2147483579 1073741789 4:=yjx 4 1073741789 (by decide) (by kernel_rfl)
theorem elm9:Elm 2147483579 1073741789 9:=yjx 9 1073741789 (by decide) (by kernel_rfl)
theorem yuk:(4:Nat) % 2147483579≠1 % 2147483579:=by decide
theorem ynh {n m r:Nat} (hn:n<1073741789) (hm:m<1073741789) (h:4 ^ n*9 ^ r % 2147483579=4 ^ m*9 ^ r % 2147483579):n=m:=
 elm4.inj zxk yuk hn hm (zks (elm9.inv (by decide) r) h)
def yjy (q n:Nat):Nat:=n ^ (q-2) % q
theorem yni {q n:Nat} (hq:PrimeN q) (h:n % q≠0):n*yjy q n % q=1:=by
 have e:=zsb hq h;rw [Nat.mul_comm] at e;unfold yjy;rw [Nat.mul_mod,Nat.mod_mod, <-Nat.mul_mod];exact e
theorem yqm {p q g k n m r s:Nat} (hq:PrimeN q) (hg:Elm p q g) (hk:Elm p q k) (hk1:g % p≠1 % p) (hn:n<q) (hm:m<q) (hr:r<q) (hs:s<q)
  (h:g ^ n*k ^ r % p=g ^ m*k ^ s % p) (hne:n≠m):r≠s/\g ^ ((n+q-m) % q*yjy q ((s+q-r) % q) % q) % p=k % p:=by
 have h2:=hq.two;have hrs:r≠s:=fun e=>by
  subst e;exact hne (hg.inj hq hk1 hn hm (zks (hk.inv (by omega) r) h))
 refine ⟨hrs,?_⟩;have hE:(s+q-r) % q≠0:=by
  rcases Nat.lt_or_ge s r with h1|h1
  ·rw [Nat.mod_eq_of_lt (by omega)]
   omega
  ·rw [show s+q-r=(s-r)+q by omega,Nat.add_mod_right,Nat.mod_eq_of_lt (by omega)]
   omega
 have hI:=yni hq (n:=(s+q-r) % q) (by rw [Nat.mod_mod];exact hE);generalize yjy q ((s+q-r) % q)=I at hI ⊢;have e1:g ^ ((n+q-m) % q) % p=k ^ ((s+q-r) % q) % p:=by
  rw [<-hg.red, <-hk.red];refine zks (hk.inv (by omega) r) (zks (hg.inv (by omega) m) ?_);have a1:g ^ (n+q-m)*k ^ r*g ^ m % p=g ^ n*k ^ r % p:=by
   rw [Nat.mul_right_comm, <-Nat.pow_add,show n+q-m+m=n+q by omega];exact ygd (hg.congr (Nat.add_mod_right n q)) rfl
  have a2:k ^ (s+q-r)*k ^ r*g ^ m % p=g ^ m*k ^ s % p:=by
   rw [<-Nat.pow_add,show s+q-r+r=s+q by omega,Nat.mul_comm];exact ygd rfl (hk.congr (Nat.add_mod_right s q))
  rw [a1,a2,h]
 rw [<-hg.red,Nat.pow_mul,ytc e1, <-Nat.pow_mul,hk.congr (f:=1) (by rw [hI,Nat.mod_eq_of_lt (by omega)]),Nat.pow_one]
theorem zij (c:Int):zew c<1073741789:=by unfold zew;omega
theorem zik (c b:Int) (hb:b<1073741789):ydz c b=4 ^ zew c*9 ^ b.toNat % 2147483579:=by
 have hv:=zij c;unfold ydz;rw [zfx (by omega),zfx (by omega)];exact (Nat.mul_mod _ _ _).symm
theorem yqn (c b:Int):ydz c b<2147483579:=Nat.mod_lt _ (by decide)
theorem ynj {c e:Int} (h1: -500000000<=c/\c<=500000000) (h2: -500000000<=e/\e<=500000000) (h:zew c=zew e):c=e:=by
 unfold zew at h;omega
theorem yaa {m c e b:Int} (h1:xt m c b=true) (h2:xt m e b=true):c=e:=by
 unfold xt at h1 h2;simp only [Bool.and_eq_true,jl,decide_eq_true_eq] at h1 h2;obtain ⟨⟨a1,a2,a3,a4⟩,a5⟩:=h1;obtain ⟨⟨b1,b2,b3,b4⟩,b5⟩:=h2;rw [a5,zik c b a4,zik e b a4] at b5;exact ynj ⟨a1,a2⟩ ⟨b1,b2⟩ (ynh (zij c) (zij e) (Int.ofNat_inj.1 b5))
theorem ynk {x:Int} (h:zbs x=true):Elm 2147483579 1073741789 x.toNat:=by
 unfold zbs at h;simp only [Bool.and_eq_true,decide_eq_true_eq] at h;exact yjx _ _ (by decide) h.2
theorem yjz {p q a b:Nat} (ha:Elm p q a) (hb:Elm p q b):Elm p q (a*b):=⟨by
 rw [Nat.mul_pow];have:=ygd ha.one hb.one
 rwa [Nat.one_mul] at this⟩
theorem yka {p q a:Nat} (ha:Elm p q a) (n:Nat):Elm p q (a ^ n):=⟨by
 rw [<-Nat.pow_mul,Nat.mul_comm,Nat.pow_mul];have:=ytc ha.one n
 rwa [Nat.one_pow] at this⟩
theorem yqo {p q a:Nat} (ha:Elm p q a):Elm p q (a % p):=⟨by
 rw [<-Nat.pow_mod]
 exact ha.one⟩
theorem ykb (p q:Nat):Elm p q 1:=⟨by rw [Nat.one_pow]⟩
theorem Elm.cancel {p q a b c:Nat} (hq:0<q) (hc:Elm p q c) (h:a*c % p=b*c % p):a % p=b % p:=by
 refine zks (d:=c ^ (q-1)) ?_ h;rw [<-Nat.pow_succ',show Nat.succ (q-1)=q by omega];exact hc.one
theorem ysq (b e:Nat) (he:e<18446744073709551616) (h:Elm 2147483579 e b):zjv b e=1:=by
 rw [zfx he];exact h.one
theorem ynl {x:Nat} (h:Elm 2147483579 1073741789 x) (hx:x<2147483579):zbs (x:Int)=true:=by
 have h1:zjv x 1073741789=1:=ysq x 1073741789 (by decide) h;have h0:0<x:=by
  rcases Nat.eq_zero_or_pos x with h2|h2
  ·subst h2
   exact absurd h1 (by decide+kernel)
  ·exact h2
 unfold zbs;rw [Int.toNat_natCast,h1];simp;omega
theorem yqp (c b:Int) (hb:b<1073741789):Elm 2147483579 1073741789 (ydz c b):=by
 rw [zik c b hb];exact yqo (yjz (yka elm4 _) (yka elm9 _))
theorem ynm (c b:Int) (hb:b<1073741789):zbs (ydz c b:Int)=true:=ynl (yqp c b hb) (yqn c b)
theorem yfn (c b:Nat) (a:Nat):chainN a (chainN b c)=chainN (a+b) c:=by
 induction a with
 |zero=>rw [zcq,Nat.zero_add]
 |succ a ih=>rw [zaf,ih,Nat.add_right_comm,zaf]
theorem yfo (l:List (Nat × Nat)):(leafS l).data.toList=l.flatMap fun x=>(zdo (chainN (15-x.1) x.2)).data.toList:=by
 have key:∀(l:List (Nat × Nat)) (s:ByteArray),(l.foldl (fun s x=>s++zdo (chainN (15-x.1) x.2)) s).data.toList=s.data.toList++l.flatMap fun x=>(zdo (chainN (15-x.1) x.2)).data.toList:=by
  intro l
  induction l with
  |nil=>intro s;exact (List.append_nil _).symm
  |cons x l ih=>
   intro s;rw [List.foldl_cons,ih,List.flatMap_cons,ByteArray.data_append,Array.toList_append,List.append_assoc]
 exact key l _
theorem ykc {α:Type} (l:List Nat) (n:Nat) (g:Nat->α) (h:l.length=n):l.zip ((List.range n).map g)=(List.range n).map fun k=>(l.getD k 0,g k):=by
 apply List.ext_getElem?
 intro k;rcases Nat.lt_or_ge k n with hk|hk
 ·have hkl:k<l.length:=by omega
  have e:(l.zip ((List.range n).map g))[k]?=some (l[k]'hkl,g k):=List.getElem?_zip_eq_some.2 ⟨List.getElem?_eq_getElem hkl,by rw [List.getElem?_map,List.getElem?_range hk];rfl⟩;rw [e,List.getElem?_map,List.getElem?_range hk,Option.map_some,List.getD_eq_getElem?_getD,List.getElem?_eq_getElem hkl,Option.getD_some]
 ·rw [List.getElem?_eq_none (by simp;omega),List.getElem?_eq_none (by simp;omega)]
theorem yfp (seed:ByteArray) (i:Nat) (text:ByteArray):leafS ((zqx text).zip (chainsN seed i text))=⟨(leafK seed i).toArray⟩:=by
 have hl:=zth text;have hle:=zyz text;have e:(zqx text).zip (chainsN seed i text)=(List.range 18).map fun (k:Nat)=>((zqx text).getD k 0,chainN ((zqx text).getD k 0) (ycg seed i k)):=ykc _ 18 _ hl
 have h:(leafS ((zqx text).zip (chainsN seed i text))).data.toList=leafK seed i:=by
  rw [yfo,e,List.flatMap_map];unfold leafK;generalize zqx text=fg at hl hle;generalize List.range 18=rg
  congr 1
  funext k
  have hk:fg.getD k 0<=15:=by
   rw [List.getD_eq_getElem?_getD];cases hg:fg[k]? with
   |none=>exact Nat.zero_le _
   |some x=>exact hle x (List.mem_of_getElem? hg)
  rw [yfn,Nat.sub_add_cancel hk]
 rw [<-h]
theorem yab (seed:ByteArray) {h i:Nat} (hi:i<2 ^ h):(leavesN seed h).getD i ⟨#[]⟩=⟨(leafK seed i).toArray⟩:=by
 unfold leavesN;rw [List.getD_eq_getElem?_getD,List.getElem?_map,List.getElem?_range hi];rfl
theorem yqq (seed:ByteArray) (h i:Nat) (text:ByteArray) (hh:h<=8) (hi:i<2 ^ h):signedOK (keyN seed h) h text (signN seed h i text)=true:=by
 have hp:2 ^ h<=2 ^ 8:=Nat.pow_le_pow_right (by decide) hh;have hc:(chainsN seed i text).length=18:=by simp [chainsN]
 have hl:=zpp (leavesN seed h) i (by rw [jn];exact hi) (by rw [jn];omega);rw [yab seed hi,jn] at hl;unfold signedOK signN;simp only [Int.toNat_natCast,hc,decide_true,Bool.and_true];rw [yfp,decide_eq_true (by omega),decide_eq_true (by omega)];exact hl
def zcy (fl:Nat->Bool):Nat->List Int->Nat
 |_,[]=>1
 |i,c::r=>(if fl i then 1 else c.toNat)*zcy fl (i+1) r
theorem zjr (l:List Shw):∀(cs:List Int) (i p:Nat),p<2147483579->zdh l i cs p=p*zcy (xi l) i cs % 2147483579
 |[],_,p,h=>by rw [zdh,zcy,Nat.mul_one,Nat.mod_eq_of_lt h]
 |c::r,i,p,h=>by
  rw [zdh,zcy];split
  ·rw [zjr l r _ _ h,Nat.one_mul]
  ·rw [zjr l r _ _ (Nat.mod_lt _ (by decide)),Nat.mod_mul_mod,Nat.mul_assoc]
theorem ycn (c:Int):(zew c:Int)=c % 1073741789:=by
 unfold zew;omega
theorem zpr (fl:Nat->Bool):∀(rs:List Rw) (bs:List Int) (mk:List Bool) (i:Nat),bs.length=rs.length->mk.length=rs.length->(∀k,k<rs.length->mk[k]?=some (!fl (i+k)))->(∀b∈bs,0<=b/\b<1073741789)->
  ∃A B:Nat,zcy fl i (zmm rs bs) % 2147483579=4 ^ A*9 ^ B % 2147483579/\(A:Int) % 1073741789=wn (rs.map Rw.cents) mk % 1073741789/\(B:Int)=wn bs mk
 |[],bs,mk,i,_,_,_,_=>⟨0,0,rfl,by simp [wn],by cases bs<;>cases mk<;>simp_all [wn]⟩
 |r::rs,[],mk,i,h,_,_,_=>by simp at h
 |r::rs,b::bs,[],i,_,h,_,_=>by simp at h
 |r::rs,b::bs,m::mk,i,h1,h2,h3,h4=>by
  have hb:=h4 b (by simp)
  obtain ⟨A,B,e1,e2,e3⟩:=zpr fl rs bs mk (i+1) (by simpa using h1) (by simpa using h2) (fun k hk=>by
   have:=h3 (k+1) (by rw [List.length_cons];omega);rw [List.getElem?_cons_succ,show i+(k+1)=i+1+k by omega] at this
   exact this) (fun b hb=>h4 b (by simp [hb]))
  have hm:m= !fl i:=by
   have:=h3 0 (by simp);simpa using this
  rw [zmm,zcy,List.map_cons,wn,wn];cases hf:fl i with
  |true=>
   rw [hf] at hm;subst hm;refine ⟨A,B,?_,?_,?_⟩
   ·simp only [if_true,Nat.one_mul]
    exact e1
   ·simp only [Bool.not_true,Bool.false_eq_true,if_false,Int.zero_add]
    exact e2
   ·simp only [Bool.not_true,Bool.false_eq_true,if_false,Int.zero_add]
    exact e3
  |false=>
   rw [hf] at hm;subst hm;refine ⟨zew r.cents+A,b.toNat+B,?_,?_,?_⟩
   ·simp only [Bool.false_eq_true,if_false,Int.toNat_natCast]
    have e4:zrw r b % 2147483579=4 ^ zew r.cents*9 ^ b.toNat % 2147483579:=by
     show ydz r.cents b % _=_;rw [zik _ _ hb.2,Nat.mod_mod]
    rw [ygd e4 e1,Nat.pow_add,Nat.pow_add]
    congr 1
    simp only [Nat.mul_assoc,Nat.mul_left_comm,Nat.mul_comm]
   ·have:=ycn r.cents
    simp only [Bool.not_false,if_true];rw [Int.natCast_add];omega
   ·simp only [Bool.not_false,if_true]
    omega
theorem yco:∀(rs:List Rw) (bs:List Int),bs.length=rs.length->∀k,k<rs.length->(zmm rs bs).getD k 0=ydz (rs.getD k ⟨⟨#[]⟩,0,⟨#[]⟩⟩).cents (bs.getD k 0)
 |[],_,_,k,hk=>absurd hk (Nat.not_lt_zero k)
 |_::_,[],h,_,_=>by simp at h
 |r::rs,b::bs,_,0,_=>rfl
 |r::rs,b::bs,h,k+1,hk=>by
  have:=yco rs bs (by simpa using h) k (by simpa using hk);simpa [zmm] using this
theorem zxl:∀(rs:List Rw) (bs:List Int),bs.length=rs.length->∀k,k<rs.length->(jv rs bs).getD k ⟨#[]⟩=zbj (rs.getD k ⟨⟨#[]⟩,0,⟨#[]⟩⟩).label ((zmm rs bs).getD k 0) (rs.getD k ⟨⟨#[]⟩,0,⟨#[]⟩⟩).reason
 |[],_,_,k,hk=>absurd hk (Nat.not_lt_zero k)
 |_::_,[],h,_,_=>by simp at h
 |r::rs,b::bs,_,0,_=>rfl
 |r::rs,b::bs,h,k+1,hk=>by
  have:=zxl rs bs (by simpa using h) k (by simpa using hk);simpa [jv,zmm] using this
theorem zxm:∀(rs:List Rw) (bs:List Int),(∀b∈bs,0<=b/\b<1073741789)->∀c∈zmm rs bs,zbs c=true
 |[],_,_,c,h=>by cases h
 |_::_,[],_,c,h=>by cases h
 |r::rs,b::bs,hb,c,h=>by
  rcases List.mem_cons.1 h with rfl|h
  ·exact ynm r.cents b (hb b (by simp)).2
  ·exact zxm rs bs (fun b h=>hb b (by simp [h])) c h
theorem ykd (d:Disc):zhg d=zfn spT (zhn d.person d.month d.root d.commit):=by
 obtain ⟨person,month,root,commit,shown,hidden,blind,sig⟩:=d;show commit.foldl (fun s c=>s++(⟨#[32]⟩++ws c)) (⟨#[112,97,121,115,108,105,112,32]⟩++person++⟨#[32]⟩++ws month++⟨#[32]⟩++zdo root)=
  ([person,ws month,zdo root]++commit.map ws).foldl (fun s y=>s++spT++y) paysT
 rw [List.foldl_append,List.foldl_map];have h1:(fun (s:ByteArray) (c:Int)=>s++(⟨#[32]⟩++ws c))=fun s c=>s++spT++ws c:=by
  funext s c
  exact (ByteArray.append_assoc).symm
 rw [h1]
 congr 1
theorem ycp {s:Slip} (hg:SlipGood s) (d:Disc) (hr:d.root=s.root) (hc:d.commit=zmm s.rows s.blinds):∀(l:List Int) (last:Int),l.Pairwise (· < ·)->(∀x∈l,last<x/\0<=x/\x<s.rows.length)->shownOK d last (l.map (showRow s))=true
 |[],_,_,_=>rfl
 |x::l,last,hp,h=>by
  have hx:=h x (by simp);rw [List.pairwise_cons] at hp;have ih:=ycp hg d hr hc l x hp.2 (fun y hy=>⟨hp.1 y hy,(h y (by simp [hy])).2⟩);have hlen:d.commit.length=s.rows.length:=by rw [hc];exact zmn _ _ hg.blinds
  have hk:x.toNat<s.rows.length:=by omega
  rw [List.map_cons,shownOK];have hi:(showRow s x).index=x:=rfl;rw [hi,ih,Bool.and_true];unfold shwOK;rw [hi,hlen,decide_eq_true hx.1,decide_eq_true hx.2.2,Bool.true_and,Bool.true_and,Bool.and_eq_true];have e1:cAt d x=(ydz (showRow s x).cents (showRow s x).blind:Nat):=by
   unfold cAt;rw [hc,yco _ _ hg.blinds _ hk];rfl
  have hcm:∀r∈s.rows,r=r:=fun _ _=>rfl
  have hmem:s.rows.getD x.toNat ⟨⟨#[]⟩,0,⟨#[]⟩⟩∈s.rows:=by
   rw [List.getD_eq_getElem?_getD,List.getElem?_eq_getElem hk];exact List.getElem_mem hk
  have hbm:s.blinds.getD x.toNat 0∈s.blinds:=by
   rw [List.getD_eq_getElem?_getD,List.getElem?_eq_getElem (by rw [hg.blinds];exact hk)];exact List.getElem_mem _
  refine ⟨?_,?_⟩
  ·unfold xt
   rw [e1,Bool.and_eq_true,jl];have b1:=hg.cents _ hmem;have b2:=hg.blind _ hbm;exact ⟨⟨b1.1,b1.2,b2.1,b2.2⟩,by simp⟩
  ·have h1:=zpp (jv s.rows s.blinds) x.toNat (by rw [zcx _ _ hg.blinds];exact hk) (by rw [zcx _ _ hg.blinds];exact hg.rows.2)
   rw [hg.root,zxl _ _ hg.blinds _ hk,zcx _ _ hg.blinds] at h1;have e2:cAt d x=(zmm s.rows s.blinds).getD x.toNat 0:=by
    unfold cAt;rw [hc]
   have e3:(x.toNat:Int)=x:=by omega
   rw [e3] at h1;rw [hr,e2];exact h1
theorem yac (s:Slip) (l:List Int) (i:Nat):xi (l.map (showRow s)) i=decide ((i:Int)∈l):=by
 unfold xi;rw [Bool.eq_iff_iff];simp only [List.any_map,List.any_eq_true,Function.comp,decide_eq_true_eq];constructor
 ·rintro ⟨x,hx,he⟩
  have he:x=i:=he;rw [<-he];exact hx
 ·intro h
  exact ⟨_,h,rfl⟩
theorem yqr {s:Slip} (hg:SlipGood s) {sel:List Int} (hsel:zig s.rows.length none sel=true) (seed:ByteArray) {h i:Nat} (hh:h<=8) (hi:i<2 ^ h)
  (hsum: -500000000<=wn (s.rows.map Rw.cents) (zlx s.rows.length sel)/\wn (s.rows.map Rw.cents) (zlx s.rows.length sel)<=500000000):accOK (keyN seed h) h (showN s sel seed h i)=true:=by
 obtain ⟨p1,p2,_⟩:=zjq _ _ _ hsel;have hcl:=zmn _ _ hg.blinds;have h1:zfm (showN s sel seed h i)=true:=by
  unfold zfm showN;simp only [hg.name,hcl];rw [decide_eq_true hg.month.1,decide_eq_true hg.month.2,decide_eq_true hg.rows.1,decide_eq_true hg.rows.2];simp only [Bool.true_and,List.all_eq_true];exact zxm _ _ hg.blind
 have h2:shownOK (showN s sel seed h i) (-1) (showN s sel seed h i).shown=true:=ycp hg _ rfl rfl sel (-1) p1 (fun x hx=>⟨by have:=p2 x hx;omega,p2 x hx⟩);have h3:signedOK (keyN seed h) h (zhg (showN s sel seed h i)) (showN s sel seed h i).sig=true:=by
  rw [ykd];exact yqq seed h i _ hh hi
 have hfl:∀k,k<s.rows.length->(zlx s.rows.length sel)[k]?=some (!xi (sel.map (showRow s)) (0+k)):=fun k hk=>by
  unfold zlx;rw [List.getElem?_map,List.getElem?_range hk,Nat.zero_add,yac];rfl
 obtain ⟨A,B,e1,e2,e3⟩:=zpr (xi (sel.map (showRow s))) s.rows s.blinds (zlx s.rows.length sel) 0 hg.blinds (by simp [zlx]) hfl hg.blind;have h4:xt (zdh (showN s sel seed h i).shown 0 (showN s sel seed h i).commit 1) (showN s sel seed h i).hidden (showN s sel seed h i).blind=true:=by
  show xt (zdh (sel.map (showRow s)) 0 (zmm s.rows s.blinds) 1) (wn (s.rows.map Rw.cents) (zlx s.rows.length sel)) ((wn s.blinds (zlx s.rows.length sel)).tmod 1073741789)=true;rw [zjr _ _ _ _ (by decide),Nat.one_mul,e1, <-e3];generalize wn (s.rows.map Rw.cents) (zlx s.rows.length sel)=hs1 at hsum e2 ⊢;have e4:(B:Int).tmod 1073741789=((B % 1073741789:Nat):Int):=by
   rw [Int.tmod_eq_emod_of_nonneg (by omega)];omega
  have hB:B % 1073741789<1073741789:=Nat.mod_lt _ (by decide);unfold xt;rw [e4,Bool.and_eq_true,jl];refine ⟨⟨hsum.1,hsum.2,by omega,by omega⟩,?_⟩;rw [decide_eq_true_eq,zik _ _ (by omega),Int.toNat_natCast];have e5:A % 1073741789=zew hs1 % 1073741789:=by
   have:=ycn hs1;omega
  rw [ygd (elm4.congr e5) (elm9.red B)]
 unfold accOK;rw [h1,h2,h3,h4];rfl
theorem yfq {root h:Nat} {idx:Int} {leaf:ByteArray} {path:List Frk} (hl:jc root (2 ^ h:Nat) idx leaf path=true):0<=idx/\idx<(2 ^ h:Nat)/\path.length=h:=by
 unfold jc at hl;simp only [Bool.and_eq_true,decide_eq_true_eq] at hl;obtain ⟨⟨⟨_,h3⟩,h4⟩,h5⟩:=hl;refine ⟨h3,h4,zqz 12 h idx.toNat path (zao leaf) root (by omega) ?_⟩;rw [Int.toNat_natCast] at h5;exact h5
theorem zsc {key:Nat} {height:Int} {text:ByteArray} {s:Sg} (h:signedOK key height text s=true):0<=height/\height<=8/\0<=s.index/\s.index<(2 ^ height.toNat:Nat)/\s.path.length=height.toNat:=by
 unfold signedOK at h;simp only [Bool.and_eq_true,decide_eq_true_eq] at h;obtain ⟨⟨⟨h1,h2⟩,_⟩,h4⟩:=h;exact ⟨h1,h2,yfq h4⟩
theorem zba {key:Nat} {height:Int} {d:Disc} (h:accOK key height d=true):zfm d=true/\shownOK d (-1) d.shown=true/\xt (zdh d.shown 0 d.commit 1) d.hidden d.blind=true/\signedOK key height (zhg d) d.sig=true:=by
 unfold accOK at h;simp only [Bool.and_eq_true] at h;exact ⟨h.1.1.1,h.1.1.2,h.1.2,h.2⟩
theorem ynn {key key':Nat} {height h':Int} {d:Disc} (h:accOK key height d=true) (hne:h'≠height):accOK key' h' d=false:=by
 cases hb:accOK key' h' d with
 |false=>rfl
 |true=>
  obtain ⟨a1,_,_,_,a2⟩:=zsc (zba h).2.2.2;obtain ⟨b1,_,_,_,b2⟩:=zsc (zba hb).2.2.2;omega
structure AccIn (d:Disc):Prop where
 name:wx d.person=true
 month:0<=d.month/\d.month<=1199
 len:1<=d.commit.length/\d.commit.length<=1024
 elem:∀c∈d.commit,zbs c=true
theorem yke (d:Disc):zfm d=true ↔ AccIn d:=by
 unfold zfm;simp only [Bool.and_eq_true,decide_eq_true_eq,List.all_eq_true];exact ⟨fun h=>⟨h.1.1.1.1.1,⟨h.1.1.1.1.2,h.1.1.1.2⟩,⟨h.1.1.2,h.1.2⟩,h.2⟩,fun h=>⟨⟨⟨⟨⟨h.name,h.month.1⟩,h.month.2⟩,h.len.1⟩,h.len.2⟩,h.elem⟩⟩
theorem zil (d:Disc):∀(l:List Shw) (last:Int),shownOK d last l=true ↔ (∀s∈l,last<s.index/\s.index<d.commit.length/\xt (cAt d s.index) s.cents s.blind=true/\jc d.root d.commit.length s.index (zbj s.label (cAt d s.index) s.reason) s.path=true)/\l.Pairwise (fun x y=>x.index<y.index)
 |[],last=>by simp [shownOK]
 |s::l,last=>by
  rw [shownOK,Bool.and_eq_true,zil d l s.index,List.pairwise_cons];unfold shwOK;simp only [Bool.and_eq_true,decide_eq_true_eq];constructor
  ·rintro ⟨⟨⟨⟨h1,h2⟩,h3⟩,h4⟩,h5,h6⟩
   refine ⟨fun x hx=>?_,fun x hx=>(h5 x hx).1,h6⟩;rcases List.mem_cons.1 hx with rfl|hx
   ·exact ⟨h1,h2,h3,h4⟩
   ·have:=h5 x hx
    exact ⟨by omega,this.2⟩
  ·rintro ⟨h1,h2,h3⟩
   have h4:=h1 s (by simp);exact ⟨⟨⟨⟨h4.1,h4.2.1⟩,h4.2.2.1⟩,h4.2.2.2⟩,fun x hx=>⟨h2 x hx,(h1 x (by simp [hx])).2⟩,h3⟩
structure RowIn (d:Disc) (s:Shw):Prop where
 idx:0<=s.index/\s.index<d.commit.length
 opens:xt (cAt d s.index) s.cents s.blind=true
 leads:jc d.root d.commit.length s.index (zbj s.label (cAt d s.index) s.reason) s.path=true
theorem zuc {key:Nat} {height:Int} {d:Disc} (h:accOK key height d=true) {s:Shw} (hs:s∈d.shown):RowIn d s:=by
 have h1:=((zil d _ _).1 (zba h).2.1).1 s hs;exact ⟨⟨by omega,h1.2.1⟩,h1.2.2.1,h1.2.2.2⟩
theorem yno {key:Nat} {height:Int} {d:Disc} (h:accOK key height d=true):d.shown.Pairwise (fun x y=>x.index<y.index):=((zil d _ _).1 (zba h).2.1).2
theorem zxn (fl:Nat->Bool):∀(cs:List Int) (i:Nat),(∀c∈cs,zbs c=true)->Elm 2147483579 1073741789 (zcy fl i cs)
 |[],_,_=>ykb _ _
 |c::cs,i,h=>by
  rw [zcy];refine yjz ?_ (zxn fl cs (i+1) (fun c hc=>h c (by simp [hc])));split
  ·exact ykb _ _
  ·exact ynk (h c (by simp))
theorem yqs {key:Nat} {height:Int} {d:Disc} (h:accOK key height d=true->False):accOK key height d=false:=by
 cases hb:accOK key height d with
 |false=>rfl
 |true=>exact (h hb).elim
theorem zud {key:Nat} {height:Int} {d:Disc} (h:accOK key height d=true) {n:Int} (hn:n≠d.hidden):accOK key height {d with hidden:=n}=false:=
 yqs fun hb=>hn (yaa (zba hb).2.2.1 (zba h).2.2.1)
def zqp (v b:Int):List Shw->Int × Int
 |[]=>(v,b)
 |s::l=>zqp ((v+zew s.cents) % 1073741789) ((b+s.blind) % 1073741789) l
def ysr (d:Disc):Int × Int:=zqp (zew d.hidden) d.blind d.shown
theorem zxo (fl gl:Nat->Bool) (k:Nat):∀(cs:List Int) (i:Nat),fl k=false->(∀j,j≠k->gl j=fl j)->gl k=true->i<=k->k<i+cs.length->zcy fl i cs=zcy gl i cs*(cs.getD (k-i) 0).toNat
 |[],i,_,_,_,h1,h2=>by
  rw [List.length_nil] at h2;omega
 |c::cs,i,h1,h2,h3,h4,h5=>by
  have same:∀(cs:List Int) (i:Nat),k<i->zcy fl i cs=zcy gl i cs:=by
   intro cs
   induction cs with
   |nil=>intro i _;rfl
   |cons c cs ih=>
    intro i hi;rw [zcy,zcy,ih (i+1) (by omega),h2 i (by omega)]
  rw [zcy,zcy]
  by_cases e:i=k
  ·subst e
   rw [h1,h3,Nat.sub_self,same cs (i+1) (by omega)];simp only [Bool.false_eq_true,if_false,if_true,Nat.one_mul];exact Nat.mul_comm _ _
  ·rw [List.length_cons] at h5
   rw [zxo fl gl k cs (i+1) h1 h2 h3 (by omega) (by omega),h2 i e,Nat.mul_assoc,show k-i=(k-(i+1))+1 by omega,List.getD_cons_succ]
theorem ycq (cs:List Int):∀(l done:List Shw) (v b:Int),0<=v/\v<1073741789->0<=b/\b<1073741789->(done++l).Pairwise (fun x y=>x.index<y.index)->
  (∀s∈l,0<=s.index/\s.index<cs.length/\xt (cs.getD s.index.toNat 0) s.cents s.blind=true)->
  ∃N B:Nat,zqp v b l=((N:Int),(B:Int))/\N<1073741789/\B<1073741789/\4 ^ N*9 ^ B*zcy (xi (done++l)) 0 cs % 2147483579=4 ^ v.toNat*9 ^ b.toNat*zcy (xi done) 0 cs % 2147483579
 |[],done,v,b,hv,hb,_,_=>⟨v.toNat,b.toNat,by rw [zqp];congr 1<;>omega,by omega,by omega,by rw [List.append_nil]⟩
 |s::l,done,v,b,hv,hb,hp,h=>by
  obtain ⟨h1,h2,h3⟩:=h s (by simp);unfold xt at h3;rw [Bool.and_eq_true,jl,decide_eq_true_eq] at h3;obtain ⟨⟨_,_,h4,h5⟩,h6⟩:=h3;have hvl:=zij s.cents;have e:done++s::l=(done++[s])++l:=by simp
  obtain ⟨N,B,g1,g2,g3,g4⟩:=ycq cs l (done++[s]) ((v+zew s.cents) % 1073741789) ((b+s.blind) % 1073741789) ⟨by omega,by omega⟩ ⟨by omega,by omega⟩ (by rw [<-e];exact hp) (fun x hxx=>h x (by simp [hxx]));refine ⟨N,B,by rw [zqp];exact g1,g2,g3,?_⟩;rw [e,g4];have hnot:xi done s.index.toNat=false:=by
   cases hf:xi done s.index.toNat with
   |false=>rfl
   |true=>
    unfold xi at hf;rw [List.any_eq_true] at hf;obtain ⟨y,hy,hi⟩:=hf;rw [decide_eq_true_eq] at hi;have:=(List.pairwise_append.1 hp).2.2 y hy s (by simp);omega
  have hother:∀j,j≠s.index.toNat->xi (done++[s]) j=xi done j:=fun j hj=>by
   unfold xi;rw [List.any_append];have:decide (s.index=(j:Int))=false:=by
    rw [decide_eq_false_iff_not];omega
   simp [this]
  have hself:xi (done++[s]) s.index.toNat=true:=by
   unfold xi;rw [List.any_append];have:decide (s.index=(s.index.toNat:Int))=true:=by
    rw [decide_eq_true_eq];omega
   simp only [List.any_cons,this,Bool.true_or,Bool.or_true]
  rw [zxo (xi done) (xi (done++[s])) s.index.toNat cs 0 hnot hother hself (Nat.zero_le _) (by omega),Nat.sub_zero];have e1:((v+zew s.cents) % 1073741789).toNat % 1073741789=(v.toNat+zew s.cents) % 1073741789:=by omega
  have e2:((b+s.blind) % 1073741789).toNat % 1073741789=(b.toNat+s.blind.toNat) % 1073741789:=by omega
  have e3:(cs.getD s.index.toNat 0).toNat % 2147483579=4 ^ zew s.cents*9 ^ s.blind.toNat % 2147483579:=by
   rw [h6,Int.toNat_natCast,zik _ _ h5,Nat.mod_mod]
  have e4:4 ^ ((v+zew s.cents) % 1073741789).toNat*9 ^ ((b+s.blind) % 1073741789).toNat % 2147483579=4 ^ v.toNat*9 ^ b.toNat*(cs.getD s.index.toNat 0).toNat % 2147483579:=by
   rw [ygd (elm4.congr e1) (elm9.congr e2),Nat.pow_add,Nat.pow_add,ygd (rfl:4 ^ v.toNat*9 ^ b.toNat % 2147483579=_) e3]
   congr 1
   simp only [Nat.mul_assoc,Nat.mul_left_comm]
  rw [ygd e4 rfl]
  congr 1
  simp only [Nat.mul_assoc,Nat.mul_left_comm,Nat.mul_comm]
theorem ykf {key:Nat} {height:Int} {d:Disc} (h:accOK key height d=true):∃N B:Nat,ysr d=((N:Int),(B:Int))/\N<1073741789/\B<1073741789/\4 ^ N*9 ^ B % 2147483579=zcy (fun _=>false) 0 d.commit % 2147483579:=by
 have a1:=(yke _).1 (zba h).1;have r1:=(zba h).2.2.1;unfold xt at r1;rw [Bool.and_eq_true,jl,decide_eq_true_eq] at r1;obtain ⟨⟨_,_,h4,h5⟩,h6⟩:=r1;have h6:=Int.ofNat_inj.1 h6;rw [zjr _ _ _ _ (by decide),Nat.one_mul,zik _ _ h5] at h6;have hvl:=zij d.hidden;obtain ⟨N,B,g1,g2,g3,g4⟩:=ycq d.commit d.shown [] (zew d.hidden) d.blind ⟨by omega,by omega⟩ ⟨h4,h5⟩ (yno h) (fun s hs=>⟨(zuc h hs).idx.1,(zuc h hs).idx.2,(zuc h hs).opens⟩);refine ⟨N,B,g1,g2,g3,?_⟩;rw [List.nil_append,Int.toNat_natCast] at g4;have e:(xi []:Nat->Bool)=fun _=>false:=rfl
 rw [e] at g4;have k1:4 ^ N*9 ^ B*zcy (xi d.shown) 0 d.commit % 2147483579=zcy (fun _=>false) 0 d.commit*zcy (xi d.shown) 0 d.commit % 2147483579:=by
  rw [g4,ygd h6.symm rfl,Nat.mul_comm]
 exact Elm.cancel (by decide) (zxn _ _ _ a1.elem) k1
def yad (x:Int):List Int->List Int
 |[]=>[x]
 |y::l=>if x<=y then x::y::l else y::yad x l
def yfr:List Int->List Int
 |[]=>[]
 |x::l=>yad x (yfr l)
theorem zku (x:Int):∀l,(yad x l).Perm (x::l)
 |[]=>.refl _
 |y::l=>by
  rw [yad];split
  ·exact .refl _
  ·exact ((zku x l).cons y).trans (.swap x y l)
theorem zsd:∀l,(yfr l).Perm l
 |[]=>.refl _
 |x::l=>(zku x _).trans ((zsd l).cons x)
theorem zlp (x:Int):∀l,l.Pairwise (· <= ·)->(yad x l).Pairwise (· <= ·)
 |[],_=>by simp [yad]
 |y::l,h=>by
  rw [List.pairwise_cons] at h;rw [yad];split
  ·rename_i hxy
   rw [List.pairwise_cons];refine ⟨fun z hz=>?_,List.pairwise_cons.2 h⟩;rcases List.mem_cons.1 hz with rfl|hz
   ·exact hxy
   ·have:=h.1 z hz;omega
  ·rename_i hxy
   rw [List.pairwise_cons];refine ⟨fun z hz=>?_,zlp x l h.2⟩;rcases List.mem_cons.1 ((zku x l).mem_iff.1 hz) with rfl|hz
   ·omega
   ·exact h.1 z hz
theorem zlq:∀l,(yfr l).Pairwise (· <= ·)
 |[]=>.nil
 |x::l=>zlp x _ (zlq l)
theorem zjs:∀{a b:List Int},a.Perm b->a.Pairwise (· <= ·)->b.Pairwise (· <= ·)->a=b
 |[],b,h,_,_=>by rw [List.nil_perm.1 h]
 |x::a,[],h,_,_=>by cases (List.perm_nil.1 h)
 |x::a,y::b,h,ha,hb=>by
  rw [List.pairwise_cons] at ha hb;have hxy:x=y:=by
   have h1:x∈y::b:=h.mem_iff.1 (by simp);have h2:y∈x::a:=h.mem_iff.2 (by simp);rcases List.mem_cons.1 h1 with h1|h1
   ·exact h1
   ·rcases List.mem_cons.1 h2 with h2|h2
    ·exact h2.symm
    ·have:=ha.1 y h2
     have:=hb.1 x h1;omega
  subst hxy;rw [zjs h.cons_inv ha.2 hb.2]
theorem zps (l:List Int):zbc l=yfr l:=by
 refine zjs ((List.mergeSort_perm l fun x y=>decide (x<=y)).trans (zsd l).symm) ?_ (zlq l);have:=List.pairwise_mergeSort (le:=fun x y:Int=>decide (x<=y)) (fun a b c h1 h2=>by simp at*;omega) (fun a b=>by simp;omega) l;exact this.imp fun h=>by simpa using h
def inK (c:Codex) (day known:Int):List Int:=yfr ((yml c day known).map (·.2))
theorem yss (c:Codex) (day known:Int):inA c day known=inK c day known:=zps _
def ykg (S:AM) (used:List Bool):List Int:=Go.Lib.compact (yfr (((List.range used.length).filter fun i=>used.getD i false&&S.has.getD i false).map fun i=>S.nums.getD i 0))
theorem ykh (S:AM) (used:List Bool):zgh S used=ykg S used:=by
 unfold zgh ykg;rw [zps]
def yqt (c:Codex) (S:AM) (inF:List Int) (s:List (Int × Int) × List (Int × Int)) (v:Int) (a:Article):Ln:=
 ⟨S.day,a.line,v,(zv a.number s.2).getD 0,ykg S (zib c a),zjf c inF s.1 a⟩
theorem ynp (c:Codex) (S:AM) (inF:List Int) (s:List (Int × Int) × List (Int × Int)) (v:Int) (a:Article):zok c S inF s v a=yqt c S inF s v a:=by
 unfold zok yqt;rw [ykh]
def yae (c:Codex) (S:AM) (inF:List Int) (s:List (Int × Int) × List (Int × Int)) (line:Ln):Bool:=
 match zca c line.art with
 |some a=>if line.art∈inF/\(zv line.art s.1).getD 0=2 then ybu (yqt c S inF s line.art a) line else false
 |none=>false
theorem yfs (c:Codex) (S:AM) (inF:List Int) (s:List (Int × Int) × List (Int × Int)) (line:Ln):zfa c S inF s line=yae c S inF s line:=by
 unfold zfa yae;cases zca c line.art with
 |none=>rfl
 |some a=>simp only [ynp]
def yki (c:Codex) (l:List Fact) (person:ByteArray) (known:Int) (line:Ln):Bool:=
 zct c&&zhy l&&(decide (0<=line.day)&&decide (line.day<=36524))&&(decide (0<=known)&&decide (known<=36524))&&decide ((yen c).length=c.arts.length)&&
  yae c (zay c l person line.day known) (inK c line.day known) (yse c (zay c l person line.day known) (inK c line.day known) (yen c)) line
theorem zek (c:Codex) (l:List Fact) (person:ByteArray) (known:Int) (line:Ln):zcb c l person known line=yki c l person known line:=by
 unfold zcb yki;rw [yss,yfs]
variable (G:List (Nat × D))
theorem yst {b:Nat} {H0:List SObj} {f:Ex} (l:List Ex) (hb:H0[b]?=some (.cells (f.cells.map .imm))) (hu:H0.all (SObj.under H0.length)=true):ysf G 171 b H0 (fun e=> !decide (e.unit=f.unit)) l:=by
 intro e _;have hbl:=lt_of_getElem? hb;obtain ⟨xo,xn,xu,xd,xp,xk⟩:=e
 refine qh Tryz.func171 rfl (by rw [Tryz.ntmps171];simp) (by
  have h1:(Ex.mk xo xn xu xd xp xk).sv.under H0.length=true:=rfl;have h2:(SV.ptr b 0).under H0.length=true:=by simp [SV.under,hbl]
  simp only [List.all_cons,List.all_nil,h1,h2,Bool.and_true]) hu ?_
 intro E hH hK;(refine zq [777,5,7] 1000 ?_;conv=>whnf);refine xl (cs:=(Ex.mk xo xn xu xd xp xk).cells.map .imm) (v:=sS xu) rfl rfl rfl rfl (by simp) rfl ?_;(refine zk [777,5,7] 1000 ?_;conv=>whnf);refine xl (cs:=f.cells.map .imm) (v:=sS f.unit) rfl rfl rfl rfl ((List.getElem?_append_left hbl).trans hb) ?_ ?_
 ·rw [Ex.cells_eq];rfl
 (refine zc ?_;conv=>whnf);refine hK _ _ (by simp) rfl (by rw [List.take_left'];exact hu;rfl) ⟨rfl,by rw [List.take_left'];rfl⟩
theorem ykj {ks:List Ex} {f:Ex} (hf:ks.head?=some f):zof ks= !(ks.any fun e=> !decide (e.unit=f.unit)):=by
 cases ks with
 |nil=>cases hf
 |cons a r=>
  injection hf with hf
  subst hf;rw [zof,List.all_eq_not_any_not]
def yft (op:Int) (u:ByteArray) (f l:Ex) (len:Int) (same:Bool):Bool:=
 if op=5 then decide (len=1)&&decide (u=tT)&&decide (f.unit=tT)
 else if op=6\/op=7 then decide (len=2)&&decide (u=tT)&&same&&decide (f.unit=tT)
 else if op=8 then decide (len=2)&&decide (u=tT)&&same
 else if op=9\/op=10 then decide (len=2)&&decide (u=tT)&&(same&& !decide (f.unit=tT))
 else if op=11\/op=12 then decide (len=2)&&(same&& !decide (f.unit=tT))&&decide (u=f.unit)
 else if op=16\/op=17 then decide (2<=len)&&(same&& !decide (f.unit=tT))&&decide (u=f.unit)
 else if op=13 then decide (len=2)&& !decide (f.unit=tT)&& !decide (l.unit=tT)&&(decide (f.unit=tN)||decide (l.unit=tN))&&decide (u=if f.unit=tN then l.unit else f.unit)
 else if op=14 then decide (len=2)&&decide (l.op=1)&&decide (l.unit=tN)&&(decide (1<=l.n)&&decide (l.n<=1000000))&& !decide (f.unit=tT)&&decide (u=f.unit)
 else if op=15 then decide (len=2)&&decide (f.unit=tM)&&znt l.unit&&decide (u=l.unit)
 else false
theorem yqu (op:Int) (u:ByteArray) (f l:Ex) (len:Int) (same:Bool):ykx op u f l len same=yft op u f l len same:=by
 unfold ykx yft;rw [show (!decide (l.n<1)&& !decide (1000000<l.n))=(decide (1<=l.n)&&decide (l.n<=1000000)) from by rw [Bool.eq_iff_iff];simp]
theorem zxp (op n:Int) (u:ByteArray) (den:Int) (ps:List Piece) (ks:List Ex) (f l:Ex) (hf:ks.head?=some f) (hl:ks.getLast?=some l) (hsz:ks.length<=1000000000):
  zp Tryz.prog G 140 [(Ex.mk op n u den ps ks).sv] (sB (ykx op u f l ks.length (zof ks))):=by
 have hrows:=xh ks;have hlen:(zm ks).length=ks.length:=by rw [hrows];simp
 have hpos:1<=ks.length:=by cases ks with|nil=>simp at hf|cons a r=>simp
 have h0:(zm ks)[0]?=some f.cells:=by
  rw [hrows];cases ks with
  |nil=>simp at hf
  |cons a r=>simp at hf;simp [hf]
 have h1:(zm ks)[ks.length-1]?=some l.cells:=by
  rw [hrows,List.getElem?_map];rw [List.getLast?_eq_getElem?] at hl;rw [hl];rfl
 have hone:ks.length=1->zof ks=true:=by
  intro h
  match ks,h with
  |[k],_=>simp [zof]
 have hm:IntKind.i64.wrap (((zm ks).length:Int)-1)=((ks.length-1:Nat):Int):=by rw [zu (by omega) (by omega)];omega
 have hcon:=fun H0 hb hu=>zjh G (g:=171) (b:=1) (H0:=H0) (p:=fun e=> !decide (e.unit=f.unit)) (l:=ks) rfl (lt_of_getElem? hb) hu hsz (yst G ks hb hu)
 rw [<-hrows] at hcon;have hsame:=ykj hf;generalize (ks.any fun e=> !decide (e.unit=f.unit))=an at hcon hsame;obtain ⟨o0,n0,u0,d0,p0,q0⟩:=f;obtain ⟨o1,n1,u1,d1,p1,q1⟩:=l;have hcur:=zhv G u1;refine zg Tryz.func140 rfl (by rw [Tryz.ntmps140];simp) rfl rfl ?_;intro E hH hK;(refine yj ?_;conv=>whnf);(refine wd 2 mixed rfl ?_;refine zn [] (nx:=1) ?_;conv=>whnf);refine wz rfl (by simp) rfl  (row:=(Ex.mk o0 n0 u0 d0 p0 q0).cells) h0 ?_;(refine zn [] (nx:=1) ?_;conv=>whnf);refine wz rfl (by simp) hm (row:=(Ex.mk o1 n1 u1 d1 p1 q1).cells) h1 ?_;(refine zn [] (nx:=1) ?_;conv=>whnf);(refine yj ?_;conv=>whnf);refine zau 3 rfl rfl rfl rfl rfl rfl (hcon _ rfl rfl) ?_;rintro r9 H9 ⟨rfl,rfl⟩ _;have hs2:an= !zof ks:=by rw [hsame,Bool.not_not]
 clear hcon hsame;rw [yqu] at hK;generalize zof ks=sm at hK hs2 hone;subst hs2;rw [<-hlen] at hK hone;clear hm h0 h1 hf hl hlen hpos hrows;cases sm with
 |false=>
  have hone:¬(zm ks).length=1:=fun h=>Bool.noConfusion (hone h)
  (refine xf ?_;conv=>whnf)
  repeat' ((with_reducible refine way ?_ ?_)<;>(intro h;conv=>whnf))
  all_goals try (refine kB hK ?_;(try simp [yft,tT,tN,tM,Ex.unit,Ex.op,Ex.n, *]);(try exact decide_eq_decide.2 Iff.rfl);(try omega))
  any_goals refine zd rfl  hcur ?_
  any_goals (refine xf ?_;conv=>whnf)
  any_goals repeat' ((with_reducible refine way ?_ ?_)<;>(intro h;conv=>whnf))
  all_goals try (refine kB hK ?_;(try simp [yft,tT,tN,tM,Ex.unit,Ex.op,Ex.n, *]);(try exact decide_eq_decide.2 Iff.rfl);(try omega))
  all_goals trace_state
 |true=>
  clear hone;(refine xf ?_;conv=>whnf)
  repeat' ((with_reducible refine way ?_ ?_)<;>(intro h;conv=>whnf))
  all_goals try (refine kB hK ?_;(try simp [yft,tT,tN,tM,Ex.unit,Ex.op,Ex.n, *]);(try exact decide_eq_decide.2 Iff.rfl);(try omega))
  any_goals refine zd rfl  hcur ?_
  any_goals (refine xf ?_;conv=>whnf)
  any_goals repeat' ((with_reducible refine way ?_ ?_)<;>(intro h;conv=>whnf))
  all_goals try (refine kB hK ?_;(try simp [yft,tT,tN,tM,Ex.unit,Ex.op,Ex.n, *]);(try exact decide_eq_decide.2 Iff.rfl);(try omega))
  all_goals trace_state
def zim (m:List (Int × Int)) (n:Int):List SObj:=[.mapI .i64 (qr sI m),.cells [sI n]]
theorem zkv (m:List (Int × Int)) (n:Int):(zim m n).all (SObj.under 2)=true:=by
 simp only [zim,List.all_cons,zgb];rfl
theorem ykk {op:Int} (u:ByteArray) (f l:Ex) (len:Int) (same:Bool) (h:1<=op/\op<=4):ykx op u f l len same=false:=by
 unfold ykx;rw [if_neg (by omega),if_neg (by omega),if_neg (by omega),if_neg (by omega),if_neg (by omega),if_neg (by omega),if_neg (by omega),if_neg (by omega),if_neg (by omega)]
theorem yaf {facts lines:List Decl} {m:List (Int × Int)} {n:Int} {u:ByteArray} (h:zv n m=none):zgc facts lines m 3 n u=false:=by
 unfold zgc;simp [h]
theorem zxq (c : Codex) (hcs : c.facts.length <= 1000000) (m : List (Int × Int)) (hm : ∀ k v, zv k m = some v -> 0 <= v /\ v < c.lines.length) (N : Nat) : ∀ (e : Ex), SizeOf.sizeOf e < N -> ∀ (depth cnt : Int), 0 <= depth -> depth <= 41 -> 0 <= cnt -> cnt <= 400 ->
    SPre Tryz.prog G 103 [c.sv, .map 0, e.sv, sI depth, .ptr 1 0] (zim m cnt) (fun r H1 => r = sB (qe c m e depth cnt).1 /\ H1 = zim m (qe c m e depth cnt).2) := by
  induction N with
  | zero => intro e h; omega
  | succ N IH =>
  intro e he depth cnt hd0 hd1 hc0 hc1
  obtain ⟨op, n, u, den, ps, ks⟩ := e
  simp only [Ex.mk.sizeOf_spec] at he
  have hsv : (Ex.mk op n u den ps ks).sv = .agg [sI op, sI n, sS u, sI den, .imm (.isl 3 (ps.map Piece.cells)), .imm (.isl 6 (zm ks))] := rfl
  have hcv : c.sv = .agg [.imm (zr c.facts), .imm (zr c.lines), .imm (xr c.arts)] := rfl
  refine qh Tryz.func103 rfl (by rw [Tryz.ntmps103]; simp) rfl (zkv m cnt) ?_
  intro E hH hK
  have fin : ∀ H' q, H'.take 2 = zim m q -> 2 <= H'.length -> ∀ b, qe c m (.mk op n u den ps ks) depth cnt = (b, q) -> E.K (sB b) H' := fun H' q h1 h2 b h3 =>
    hK _ _ h2 rfl (by show (List.take 2 H').all _ = true; rw [h1]; exact zkv m q) ⟨by rw [h3], by rw [h3]; exact h1⟩
  have hw1 : IntKind.i64.wrap (cnt + 1) = cnt + 1 := zu (by omega) (by omega)
  have hrows := xh ks
  have hlen : (zm ks).length = ks.length := by rw [hrows]; simp
  rw [hsv, hcv]
  refine zq [19] 1000 ?_; conv => whnf
  rw [hw1]
  (refine xf ?_; conv => whnf)
  repeat' ((with_reducible refine way ?_ ?_) <;> (intro h; conv => whnf))
  all_goals try exact fin _ _ rfl (by simp) _ (by simp only [qe]; rw [if_pos (by omega)])
  refine zd rfl  (zlc G u) ?_
  cases huo : zlb u with
  | false =>
    (refine xf ?_; conv => whnf)
    exact fin _ _ rfl (by simp) _ (by simp only [qe]; rw [if_pos (.inr (.inr huo))])
  | true =>
  (refine xf ?_; conv => whnf)
  have hstart : qe c m (.mk op n u den ps ks) depth cnt = (match jd c m ks (depth + 1) (cnt + 1) with | (true, cnt') => (zcs c m op n u den ps ks, cnt') | (false, cnt') => (false, cnt')) := by
    simp only [qe]; rw [if_neg (by rw [huo]; simp; omega)]; try rfl
  have hup := zvt c m (N + 1)
  have hwd : IntKind.i64.wrap (depth + 1) = depth + 1 := zu (by omega) (by omega)
  refine zh [1, 3, 4, 5, 7, 35, 36, 37] ?_
  change SW E _ [(1, .map 0), (3, sI depth), (4, .ptr 1 0), (5, .ptr 2 0), (7, .ptr 3 0), (35, .imm (.isl 6 (zm ks))), (36, sI ((zm ks).length : Nat)), (37, sI (0 : Nat))] (zim m (cnt + 1) ++ [.cells [.imm (zr c.facts), .imm (zr c.lines), .imm (xr c.arts)], .cells [sI op, sI n, sS u, sI den, .imm (.isl 3 (ps.map Piece.cells)), .imm (.isl 6 (zm ks))]])
  rw [hlen]
  refine zo ks (fun i (_ : Int) => [(1, .map 0), (3, sI depth), (4, .ptr 1 0), (5, .ptr 2 0), (7, .ptr 3 0), (35, .imm (.isl 6 (zm ks))), (36, sI (ks.length : Nat)), (37, sI (i : Nat))])
    (fun _ q => zim m q ++ [.cells [.imm (zr c.facts), .imm (zr c.lines), .imm (xr c.arts)], .cells [sI op, sI n, sS u, sI den, .imm (.isl 3 (ps.map Piece.cells)), .imm (.isl 6 (zm ks))]])
    (fun done rest q => jd c m ks (depth + 1) (cnt + 1) = jd c m rest (depth + 1) q /\ cnt + 1 + done.length <= q /\ q <= 400) (cnt + 1) ⟨rfl, by simp, by omega⟩ ?_ ?_
  · as_aux_lemma =>
      rintro q ⟨h1, h2, h3⟩
      simp only [jd] at h1
      rw [h1] at hstart
      simp only at hstart
      have hsz : ks.length <= 400 := by omega
      have fin2 : ∀ H' b, H'.take 2 = zim m q -> 2 <= H'.length -> zcs c m op n u den ps ks = b -> E.K (sB b) H' := fun H' b g1 g2 g3 => fin H' q g1 g2 b (by rw [hstart, g3])
      have hpl : (ps.map Piece.cells).length = ps.length := by simp
      have hfl : (c.facts.map Decl.cells).length = c.facts.length := by simp
      clear IH hup hstart hK fin huo
      by_cases h18 : op = 18
      · subst h18
        have hn18 : zcs c m 18 n u den ps ks = (decide (n = 0) && decide (ks.length = 1) && znt u && (match ks with | k :: _ => decide (u = k.unit) | [] => false) && zbx den ps) := by unfold zcs; rw [if_pos rfl]; try rfl
        have hcur := zhv G u
        have htb := ztq G den ps
        generalize znt u = b1 at hcur hn18
        generalize zbx den ps = b2 at htb hn18
        cases ks with
        | nil =>
          (refine yj ?_; conv => whnf)
          repeat' ((with_reducible refine way ?_ ?_) <;> (intro h; conv => whnf))
          all_goals try (exfalso; omega)
          (refine zx mixed rfl ?_; refine zf [] ?_; conv => whnf)
          repeat' ((with_reducible refine way ?_ ?_) <;> (intro h; conv => whnf))
          all_goals (refine yj ?_; conv => whnf)
          all_goals exact fin2 _ _ rfl (by simp [zim]) (by rw [hn18]; simp)
        | cons k0 kr =>
          obtain ⟨o0, n0, u0, d0, p0, q0⟩ := k0
          have h0 : (zm (Ex.mk o0 n0 u0 d0 p0 q0 :: kr))[0]? = some (Ex.mk o0 n0 u0 d0 p0 q0).cells := by simp [zm]
          (refine yj ?_; conv => whnf)
          repeat' ((with_reducible refine way ?_ ?_) <;> (intro h; conv => whnf))
          all_goals try (exfalso; omega)
          (refine zx mixed rfl ?_; refine zf [] ?_; conv => whnf)
          repeat' ((with_reducible refine way ?_ ?_) <;> (intro h; conv => whnf))
          · refine yg rfl  hcur ?_
            cases b1 with
            | false =>
              (refine zf [] ?_; conv => whnf)
              (refine yj ?_; conv => whnf)
              exact fin2 _ _ rfl (by simp [zim]) (by rw [hn18]; simp)
            | true =>
            (refine zf [] ?_; conv => whnf)
            refine ym rfl rfl  (row := (Ex.mk o0 n0 u0 d0 p0 q0).cells) h0 ?_
            (refine zf [] ?_; conv => whnf)
            repeat' ((with_reducible refine way ?_ ?_) <;> (intro h; conv => whnf))
            · refine yg rfl  htb ?_
              (refine zf [] ?_; conv => whnf)
              (refine yj ?_; conv => whnf)
              refine fin2 _ _ rfl (by simp [zim]) ?_
              rw [hn18, decide_eq_true ‹n = 0›, decide_eq_true (show (Ex.mk o0 n0 u0 d0 p0 q0 :: kr).length = 1 by omega)]
              have hu : decide (u = (Ex.mk o0 n0 u0 d0 p0 q0).unit) = true := decide_eq_true h.symm
              simp only [hu]
              try rfl
            · (refine yj ?_; conv => whnf)
              refine fin2 _ _ rfl (by simp [zim]) ?_
              have hu : decide (u = (Ex.mk o0 n0 u0 d0 p0 q0).unit) = false := decide_eq_false (fun e => h (Eq.symm e))
              rw [hn18]
              simp only [hu]
              simp
          · (refine yj ?_; conv => whnf)
            exact fin2 _ _ rfl (by simp [zim]) (by rw [hn18, decide_eq_false (show ¬ (Ex.mk o0 n0 u0 d0 p0 q0 :: kr).length = 1 by omega)]; simp)
          · (refine yj ?_; conv => whnf)
            exact fin2 _ _ rfl (by simp [zim]) (by rw [hn18, decide_eq_false h]; simp)
      by_cases htab : ¬ den = 0 \/ 0 < ps.length
      · (refine yj ?_; conv => whnf)
        repeat' ((with_reducible refine way ?_ ?_) <;> (intro h; conv => whnf))
        all_goals try (exfalso; omega)
        all_goals exact fin2 _ _ rfl (by simp [zim]) (by unfold zcs; rw [if_neg h18, if_pos htab])
      have hnode : zcs c m op n u den ps ks = if 1 <= op /\ op <= 4 then decide (ks.length = 0) && zgc c.facts c.lines m op n u else decide (n = 0) && (match ks.head?, ks.getLast? with | some f, some l => ykx op u f l ks.length (zof ks) | _, _ => false) := by
        unfold zcs; rw [if_neg h18, if_neg htab]; try rfl
      cases ks with
      | cons k0 kr =>
        obtain ⟨l, hl⟩ : ∃ l, (k0 :: kr).getLast? = some l := ⟨_, List.getLast?_eq_some_getLast (by simp)⟩
        have hopr := zxp G op n u den ps (k0 :: kr) k0 l rfl hl (by omega)
        rw [hl] at hnode
        simp only [List.head?_cons] at hnode
        have hnode : zcs c m op n u den ps (k0 :: kr) = (decide (n = 0) && ykx op u k0 l (k0 :: kr).length (zof (k0 :: kr))) := by
          rw [hnode]
          split
          · rename_i h
            rw [ykk u k0 l _ _ h, Bool.and_false]
            rfl
          · rfl
        have hpos : 0 < (zm (k0 :: kr)).length := by simp [zm]
        rw [hsv] at hopr
        generalize ykx op u k0 l (k0 :: kr).length (zof (k0 :: kr)) = b1 at hopr hnode
        (refine yj ?_; conv => whnf)
        repeat' ((with_reducible refine way ?_ ?_) <;> (intro h; conv => whnf))
        all_goals try (exfalso; omega)
        all_goals first
          | exact fin2 _ _ rfl (by simp [zim]) (by rw [hnode, decide_eq_false ‹¬ n = 0›]; rfl)
          | (refine zd rfl  hopr ?_
             (refine xf ?_; conv => whnf)
             exact fin2 _ _ rfl (by simp [zim]) (by rw [hnode, decide_eq_true ‹n = 0›]; rfl))
      | nil =>
        have hnode : zcs c m op n u den ps [] = if 1 <= op /\ op <= 4 then zgc c.facts c.lines m op n u else false := by
          rw [hnode]
          split
          · rfl
          · simp
        by_cases hop : 1 <= op /\ op <= 4
        · rw [if_pos hop] at hnode
          rcases (show op = 1 \/ op = 2 \/ op = 3 \/ op = 4 by omega) with rfl | rfl | rfl | rfl
          · (refine yj ?_; conv => whnf)
            repeat' ((with_reducible refine way ?_ ?_) <;> (intro h; conv => whnf))
            all_goals try (exfalso; omega)
            all_goals exact fin2 _ _ rfl (by simp [zim]) (by rw [hnode]; simp [zgc, tT, *]; try omega)
          · (refine yj ?_; conv => whnf)
            repeat' ((with_reducible refine way ?_ ?_) <;> (intro h; conv => whnf))
            all_goals try (exfalso; omega)
            (refine zx mixed rfl ?_; refine zf [] ?_; conv => whnf)
            repeat' ((with_reducible refine way ?_ ?_) <;> (intro h; conv => whnf))
            · have hlt : n.toNat < c.facts.length := by omega
              obtain ⟨d, hd⟩ : ∃ d, c.facts[n.toNat]? = some d := ⟨c.facts[n.toNat], List.getElem?_eq_getElem hlt⟩
              refine ym rfl (i := n.toNat) (by omega) (row := d.cells) (by simp [hd]) ?_
              (refine zf [] ?_; conv => whnf)
              (refine yj ?_; conv => whnf)
              refine fin2 _ _ rfl (by simp [zim]) ?_
              have hua : zre c.facts n u = decide (u = d.unit) := by simp only [zre, hd]
              rw [hnode]
              have : decide (d.unit = u) = decide (u = d.unit) := decide_eq_decide.2 ⟨Eq.symm, Eq.symm⟩
              rw [this]
              simp [zgc, hua, *]; omega
            all_goals (refine yj ?_; conv => whnf)
            all_goals refine fin2 _ _ rfl (by simp [zim]) ?_
            all_goals (rw [hnode]; simp [zgc, *]; try omega)
          · cases hlk : zv n m with
            | none =>
              (refine yj ?_; conv => whnf)
              repeat' ((with_reducible refine way ?_ ?_) <;> (intro h; conv => whnf))
              all_goals try (exfalso; omega)
              refine zak sI rfl rfl rfl rfl rfl rfl rfl rfl rfl (v := sI 0) (p := false) (by rw [hlk]; rfl) (by rw [hlk]; rfl) ?_
              (refine xf ?_; conv => whnf)
              (refine zx mixed rfl ?_; refine zf [] ?_; conv => whnf)
              (refine yj ?_; conv => whnf)
              exact fin2 _ _ rfl (by simp [zim]) (by rw [hnode]; exact yaf hlk)
            | some line =>
              obtain ⟨hl0, hl1⟩ := hm n line hlk
              obtain ⟨d, hd⟩ : ∃ d, c.lines[line.toNat]? = some d := ⟨c.lines[line.toNat]'(by omega), List.getElem?_eq_getElem _⟩
              (refine yj ?_; conv => whnf)
              repeat' ((with_reducible refine way ?_ ?_) <;> (intro h; conv => whnf))
              all_goals try (exfalso; omega)
              refine zak sI rfl rfl rfl rfl rfl rfl rfl rfl rfl (v := sI line) (p := true) (by rw [hlk]; rfl) (by rw [hlk]; rfl) ?_
              (refine xf ?_; conv => whnf)
              (refine zx mixed rfl ?_; refine zf [] ?_; conv => whnf)
              refine ym rfl (i := line.toNat) (by omega) (row := d.cells) (by simp [hd]) ?_
              (refine zf [] ?_; conv => whnf)
              (refine yj ?_; conv => whnf)
              have hua : zre c.lines line u = decide (u = d.unit) := by simp only [zre, hd]
              refine fin2 _ _ rfl (by simp [zim]) ?_
              have : decide (d.unit = u) = decide (u = d.unit) := decide_eq_decide.2 ⟨Eq.symm, Eq.symm⟩
              rw [hnode, this]
              simp [zgc, hlk, hua, *]
          · (refine yj ?_; conv => whnf)
            repeat' ((with_reducible refine way ?_ ?_) <;> (intro h; conv => whnf))
            all_goals try (exfalso; omega)
            all_goals exact fin2 _ _ rfl (by simp [zim]) (by rw [hnode]; simp [zgc, tN, *]; try omega)
        · rw [if_neg hop] at hnode
          (refine yj ?_; conv => whnf)
          repeat' ((with_reducible refine way ?_ ?_) <;> (intro h; conv => whnf))
          all_goals try (exfalso; omega)
          all_goals exact fin2 _ _ rfl (by simp [zim]) hnode
  · as_aux_lemma =>
      rintro done kid rest q ha hl ⟨h1, h2, h3⟩ ih
      have hw := zj (n := done.length) (by omega)
      have hks : SizeOf.sizeOf kid < SizeOf.sizeOf ks := List.sizeOf_lt_of_mem (by rw [ha]; simp)
      have hcall := IH kid (by omega) (depth + 1) q (by omega) (by omega) (by omega) h3
      simp only [jd] at h1
      have hkup := hup.1 kid (by omega) (depth + 1) q
      obtain ⟨o1, n1, u1, d1, p1, q1⟩ := kid
      (refine yj ?_; conv => whnf)
      repeat' ((with_reducible refine way ?_ ?_) <;> (intro h; conv => whnf))
      all_goals try (exfalso; omega)
      refine zi rfl rfl  (row := (Ex.mk o1 n1 u1 d1 p1 q1).cells) (by rw [hrows]; simp [ha]) ?_
      (refine xf ?_; conv => whnf)
      rw [hwd]
      refine zau 2 rfl rfl rfl rfl rfl rfl hcall ?_
      rintro r H1 ⟨rfl, rfl⟩ _
      revert h1 hkup
      cases qe c m (.mk o1 n1 u1 d1 p1 q1) (depth + 1) q with
      | mk b q' =>
        cases b with
        | true =>
          simp only
          intro h1 hkup
          (refine xf ?_; conv => whnf)
          rw [hw]
          exact yw [1, 3, 4, 5, 7, 35, 36, 37] 4 (by rw [hH]; simp [zim]) (by simp [zim]) rfl (by simp [zim, zgb]; exact ⟨rfl, rfl, rfl⟩) (ih q' ⟨h1, by simp; omega, hkup.2 trivial⟩)
        | false =>
          simp only
          intro h1 hkup
          (refine xf ?_; conv => whnf)
          refine fin _ q' rfl (by simp [zim]) _ ?_
          rw [hstart, h1]
theorem ycr (σ:Nat->Nat) (m:List (Int × Int)):(SObj.mapI .i64 (qr sI m)).ren σ= .mapI .i64 (qr sI m):=by
 simp [SObj.ren,qr,SV.ren]
theorem zse (c:Codex) (hcs:c.facts.length<=1000000) (m:List (Int × Int)) (hm:∀k v,zv k m=some v->0<=v/\v<c.lines.length) (e:Ex) (depth cnt:Int) (h0:0<=depth) (h1:depth<=41) (h2:0<=cnt) (h3:cnt<=400) {H:List SObj} {mi ni:Nat} (hne:mi≠ni)
  (hmi:H[mi]?=some (.mapI .i64 (qr sI m))) (hni:H[ni]?=some (.cells [sI cnt])):
  SCall Tryz.prog G 103 [c.sv,.map mi,e.sv,sI depth,.ptr ni 0] H (fun r H'=>r=sB (qe c m e depth cnt).1/\H'=H.set ni (.cells [sI (qe c m e depth cnt).2])):=by
 have hml:=lt_of_getElem? hmi;have hnl:=lt_of_getElem? hni;have hs:=zxq G c hcs m hm (SizeOf.sizeOf e+1) e (Nat.lt_succ_self _) depth cnt h0 h1 h2 h3 [];rw [List.append_nil] at hs;generalize qe c m e depth cnt=fr at hs;have hcr:∀σ,c.sv.ren σ=c.sv:=fun σ=>rfl
 have her:∀σ,e.sv.ren σ=e.sv:=fun σ=>by cases e;rfl
 have hlen2:(zim m cnt).length=2:=rfl;have:=znx (K':=fun r H'=>r=sB fr.1/\H'=H.set ni (.cells [sI fr.2])) hs (H:=H) (fun b=>if b=0 then mi else if b=1 then ni else H.length+(b-2)) ?_ ?_ ?_ ?_ (zkv m cnt) ?_
 ·have e1:([c.sv,.map 0,e.sv,sI depth,.ptr 1 0]:List SV).map (SV.ren (fun b=>if b=0 then mi else if b=1 then ni else H.length+(b-2)))=[c.sv,.map mi,e.sv,sI depth,.ptr ni 0]:=by
   simp only [List.map_cons,List.map_nil,hcr,her];rfl
  rw [e1] at this;exact this
 ·intro b b' hb hb' h
  rw [hlen2] at hb hb';rcases (show b=0\/b=1 by omega) with rfl|rfl<;>rcases (show b'=0\/b'=1 by omega) with rfl|rfl<;>first|rfl|(exact absurd h hne)|(exact absurd h.symm hne)
 ·intro i
  simp only [hlen2];rw [if_neg (by omega),if_neg (by omega)];omega
 ·intro b o hb
  match b,hb with
  |0,hb=>
   injection hb with hb
   subst hb;rw [ycr];exact hmi
  |1,hb=>
   injection hb with hb
   subst hb;exact hni
  |b+2,hb=>simp [zim] at hb
 ·have hcu:c.sv.under 2=true:=rfl
  have heu:e.sv.under 2=true:=by cases e;rfl
  simp only [List.all_cons,List.all_nil,hlen2,hcu,heu];rfl
 ·rintro r H1 H' ⟨H2,⟨rfl,rfl⟩,hl2,rfl⟩ hlen hl3 hsame hother
  refine ⟨rfl,?_⟩;rw [List.append_nil] at hl3 hsame hlen;have hl4:H'.length=H.length:=by
   have:(zim m fr.2).length=2:=rfl;rw [this,hlen2] at hl3;omega
  apply List.ext_getElem?
  intro i
  by_cases hi:i=ni
  ·subst hi
   rw [List.getElem?_set_self hnl];exact hsame 1 _ rfl
  ·rw [List.getElem?_set_ne (fun h=>hi h.symm)]
   by_cases hi2:i=mi
   ·subst hi2
    have h5:=hsame 0 _ rfl;rw [ycr] at h5;exact h5.trans hmi.symm
   ·rcases Nat.lt_or_ge i H.length with hlt|hge
    ·refine hother i hlt (fun b hb h=>?_)
     rw [hlen2] at hb;rcases (show b=0\/b=1 by omega) with rfl|rfl
     ·exact hi2 h.symm
     ·exact hi h.symm
    ·rw [List.getElem?_eq_none (by omega),List.getElem?_eq_none hge]
theorem yag (c:Codex) (hcs:c.facts.length<=1000000) (m:List (Int × Int)) (hm:∀k v,zv k m=some v->0<=v/\v<c.lines.length) (e:Ex) (depth cnt:Int) (h0:0<=depth) (h1:depth<=41) (h2:0<=cnt) (h3:cnt<=400) {H:List SObj} {mi ni:Nat} (hne:mi≠ni)
  (hmi:H[mi]?=some (.mapI .i64 (qr sI m))) (hni:H[ni]?=some (.cells [sI cnt])):
  SPre Tryz.prog G 103 [c.sv,.map mi,e.sv,sI depth,.ptr ni 0] H (fun r H'=>r=sB (qe c m e depth cnt).1/\H'=H.set ni (.cells [sI (qe c m e depth cnt).2])):=by
 intro X;have hnl:=lt_of_getElem? hni;refine (zse G c hcs m hm e depth cnt h0 h1 h2 h3 hne (H:=H++X) (by rw [List.getElem?_append_left (lt_of_getElem? hmi)];exact hmi) (by rw [List.getElem?_append_left hnl];exact hni)).mono ?_;rintro r H' ⟨rfl,rfl⟩;exact ⟨_,⟨rfl,rfl⟩,by simp,by rw [List.set_append_left _ _ hnl]⟩
theorem zue (c:Codex) (hfit:Codex.fit c) (hcs:c.facts.length<=1000000) (hls:c.lines.length<=1000000) (has:c.arts.length<=1000000):zp Tryz.prog G 63 [c.sv] (sB (zct c)):=by
 have hlf:(c.facts.map Decl.cells).length=c.facts.length:=by simp
 have hll:(c.lines.map Decl.cells).length=c.lines.length:=by simp
 have hla:(c.arts.map Article.cells).length=c.arts.length:=by simp
 have hd1:=zjg G c.facts 0 0 (by omega);have hd2:=zjg G c.lines 1 4 (by omega);have hok0:zct c=((jq 0 0 c.facts&&decide (c.facts.length<=32))&&(jq 1 4 c.lines&&decide (c.lines.length<=32))&&decide (c.arts.length<=60)&&(match qk c.lines.length c.arts [] with|some m=>c.arts.all (zqh c m)|none=>false)):=by
  unfold zct;cases jq 0 0 c.facts<;>cases jq 1 4 c.lines<;>cases decide (c.facts.length<=32)<;>cases decide (c.lines.length<=32)<;>cases decide (c.arts.length<=60)<;>rfl
 generalize zct c=ok at hok0;generalize (jq 0 0 c.facts&&decide (c.facts.length<=32))=b1 at hd1 hok0;generalize (jq 1 4 c.lines&&decide (c.lines.length<=32))=b2 at hd2 hok0;rw [show c.sv= .agg [.imm (zr c.facts),.imm (zr c.lines),.imm (xr c.arts)] from rfl];refine zg Tryz.func63 rfl (by rw [Tryz.ntmps63];simp) rfl rfl ?_;intro E hH hK;(refine ze ?_;conv=>whnf);refine zd rfl  hd1 ?_;cases b1 with
 |false=>
  (refine zc ?_;conv=>whnf);exact kB hK (by rw [hok0];rfl)
 |true=>
 (refine zc ?_;conv=>whnf);refine zd rfl  hd2 ?_;cases b2 with
 |false=>
  (refine zc ?_;conv=>whnf);exact kB hK (by rw [hok0];rfl)
 |true=>
 (refine zc ?_;conv=>whnf)
 repeat' ((with_reducible refine way ?_ ?_)<;>(intro h;conv=>whnf))
 ·exact kB hK (by rw [hok0,decide_eq_false (show ¬c.arts.length<=60 by omega)];rfl)
 have hok:ok=(match qk c.lines.length c.arts [] with|some m=>c.arts.all (zqh c m)|none=>false):=by
  rw [hok0,decide_eq_true (show c.arts.length<=60 by omega)];rfl
 clear hok0 hd1 hd2;refine zh [1,3,36,37,38] ?_;change SW E _ [(1,.ptr 0 0),(3,.map 1),(36,.imm (xr c.arts)),(37,sI ((c.arts.map Article.cells).length:Nat)),(38,sI (0:Nat))] [.cells [.imm (zr c.facts),.imm (zr c.lines),.imm (xr c.arts)],.mapI .i64 (qr sI [])];rw [hla];refine zo c.arts (fun i (_:List (Int × Int))=>[(1,.ptr 0 0),(3,.map 1),(36,.imm (xr c.arts)),(37,sI (c.arts.length:Nat)),(38,sI (i:Nat))])
  (fun _ m=>[.cells [.imm (zr c.facts),.imm (zr c.lines),.imm (xr c.arts)],.mapI .i64 (qr sI m)])
  (fun _ rest m=>qk c.lines.length c.arts []=qk c.lines.length rest m) [] rfl ?_ ?_
 ·rintro m h1
  simp only [qk] at h1;rw [h1] at hok;simp only at hok;obtain ⟨hm,hlines⟩:=zjd _ _ _ _ h1 (by intro k v h;simp [zv] at h);(refine ze ?_;conv=>whnf)
  repeat' ((with_reducible refine way ?_ ?_)<;>(intro h;conv=>whnf))
  all_goals try (exfalso;omega)
  refine zh [1,3,84,85,86] ?_;change SW E _ [(1,.ptr 0 0),(3,.map 1),(84,.imm (xr c.arts)),(85,sI ((c.arts.map Article.cells).length:Nat)),(86,sI (0:Nat))] [.cells [.imm (zr c.facts),.imm (zr c.lines),.imm (xr c.arts)],.mapI .i64 (qr sI m)];rw [hla];refine zo c.arts (fun i (_:Unit)=>[(1,.ptr 0 0),(3,.map 1),(84,.imm (xr c.arts)),(85,sI (c.arts.length:Nat)),(86,sI (i:Nat))])
   (fun _ _=>[.cells [.imm (zr c.facts),.imm (zr c.lines),.imm (xr c.arts)],.mapI .i64 (qr sI m)]) (fun done rest _=>ok=rest.all (zqh c m)) () hok ?_ ?_
  ·rintro _ h2
   (refine ze ?_;conv=>whnf)
   repeat' ((with_reducible refine way ?_ ?_)<;>(intro h;conv=>whnf))
   all_goals try (exfalso;omega)
   exact kB hK (by rw [h2];rfl)
  ·rintro done a rest _ ha hl h2 ih
   have hmem:a∈c.arts:=by rw [ha];simp
   have hw:=zj (n:=done.length) (by omega);obtain ⟨hun,hwh⟩:=hfit a hmem;have hline:=hlines a hmem;have hwl:(a.when_.map Ex.cells).length=a.when_.length:=by simp
   have hul:(a.unless_.map fun n=>[dI n]).length=a.unless_.length:=by simp
   obtain ⟨d,hd⟩:∃d,c.lines[a.line.toNat]?=some d:=⟨c.lines[a.line.toNat]'(by omega),List.getElem?_eq_getElem _⟩;have hlu:ztk c a.line=d.unit:=by simp only [ztk,hd]
   have hdr:(c.lines.map Decl.cells)[a.line.toNat]?=some d.cells:=by rw [List.getElem?_map,hd];rfl
   have bad:zqh c m a=false->ok=false:=fun h=>by rw [h2,List.all_cons,h];rfl
   have good:zqh c m a=true->ok=rest.all (zqh c m):=fun h=>by rw [h2,List.all_cons,h];rfl
   have hart:zqh c m a=(zgd a&&a.unless_.all (fun n=>(zv n m).isSome)&&a.when_.all (fun e=>(jf c m e tT).1)&&(jf c m a.amount d.unit).1):=by
    rw [<-hlu];rfl
   have hamt:∀{H:List SObj} {mi ni:Nat},mi≠ni->H[mi]?=some (.mapI .i64 (qr sI m))->H[ni]?=some (.cells [sI 0])->_:=fun {H mi ni} q1 q2 q3=>yag G c hcs m hm a.amount 1 0 (by omega) (by omega) (by omega) (by omega) (H:=H) (mi:=mi) (ni:=ni) q1 q2 q3
   have hday:=zeu G a.known
   have bad1:¬(0<=a.rank/\a.rank<=1000000/\0<=a.lo/\a.lo<a.hi/\a.hi<=36525/\ziz a.known=true)->ok=false:=fun h=>bad (by
    rw [hart];have:zgd a=false:=by
     cases hb:zgd a with
     |false=>rfl
     |true=>
      unfold zgd at hb;simp only [Bool.and_eq_true,decide_eq_true_eq] at hb;exact absurd ⟨by omega,by omega,by omega,by omega,by omega,by unfold ziz;simp;omega⟩ h
    rw [this];rfl)
   have good1:0<=a.rank/\a.rank<=1000000/\0<=a.lo/\a.lo<a.hi/\a.hi<=36525/\ziz a.known=true->zgd a=true:=fun h=>by
    unfold zgd;have h5:=h.2.2.2.2.2;unfold ziz at h5;simp only [decide_eq_true_eq] at h5;simp only [Bool.and_eq_true,decide_eq_true_eq];omega
   obtain ⟨op,n,u,den,ps,ks,ham⟩:∃op n u den ps ks,a.amount= .mk op n u den ps ks:=by cases h:a.amount;exact ⟨_,_,_,_,_,_,rfl⟩
   have hrow:(c.arts.map Article.cells)[done.length]?=some [dI a.number,dI a.line,dI a.rank,dI a.lo,dI a.hi,dI a.known,qi a.when_,yb a.unless_,dI op,dI n,dS u,dI den,.isl 3 (ps.map Piece.cells),.isl 6 (zm ks)]:=by
    simp [ha,Article.cells,ham,xh,Ex.op,Ex.n,Ex.unit,Ex.den,Ex.pieces,Ex.kids]
   rw [ham] at hamt hart;(refine ze ?_;conv=>whnf)
   repeat' ((with_reducible refine way ?_ ?_)<;>(intro h;conv=>whnf))
   all_goals try (exfalso;omega)
   refine zi (i:=done.length) (row:=[dI a.number,dI a.line,dI a.rank,dI a.lo,dI a.hi,dI a.known,qi a.when_,yb a.unless_,dI op,dI n,dS u,dI den,.isl 3 (ps.map Piece.cells),.isl 6 (zm ks)]) rfl rfl hrow ?_;(refine zc ?_;conv=>whnf)
   repeat' ((with_reducible refine way ?_ ?_)<;>(intro h;conv=>whnf))
   all_goals try exact kB hK (bad1 (by omega))
   refine zd rfl  hday ?_;cases hdk:ziz a.known with
   |false=>
    (refine zc ?_;conv=>whnf);exact kB hK (bad1 (fun h=>by rw [hdk] at h;exact Bool.noConfusion h.2.2.2.2.2))
   |true=>
   have good1:=good1 ⟨by omega,by omega,by omega,by omega,by omega,hdk⟩;rw [good1,Bool.true_and] at hart;clear bad1;(refine zc ?_;conv=>whnf);refine zh [1,3,9,84,85,86,122,123,124] ?_;change SW E _ [(1,.ptr 0 0),(3,.map 1),(9,.ptr 2 0),(84,.imm (xr c.arts)),(85,sI (c.arts.length:Nat)),(86,sI (done.length:Nat)),(122,.imm (yb a.unless_)),(123,sI ((a.unless_.map fun n=>[dI n]).length:Nat)),(124,sI (0:Nat))]
    [.cells [.imm (zr c.facts),.imm (zr c.lines),.imm (xr c.arts)],.mapI .i64 (qr sI m),.cells (ztl a op n u den ps ks)]
   rw [hul];refine zo a.unless_ (fun i (_:Unit)=>[(1,.ptr 0 0),(3,.map 1),(9,.ptr 2 0),(84,.imm (xr c.arts)),(85,sI (c.arts.length:Nat)),(86,sI (done.length:Nat)),(122,.imm (yb a.unless_)),(123,sI (a.unless_.length:Nat)),(124,sI (i:Nat))])
    (fun _ _=>[.cells [.imm (zr c.facts),.imm (zr c.lines),.imm (xr c.arts)],.mapI .i64 (qr sI m),.cells (ztl a op n u den ps ks)])
    (fun dj _ _=>dj.all (fun n=>(zv n m).isSome)=true) () rfl ?_ ?_
   ·rintro _ hu1
    rw [hu1,Bool.true_and] at hart;(refine ze ?_;conv=>whnf)
    repeat' ((with_reducible refine way ?_ ?_)<;>(intro h;conv=>whnf))
    all_goals try (exfalso;omega)
    refine zh [1,3,9,84,85,86,138,139,140] ?_;change SW E _ [(1,.ptr 0 0),(3,.map 1),(9,.ptr 2 0),(84,.imm (xr c.arts)),(85,sI (c.arts.length:Nat)),(86,sI (done.length:Nat)),(138,.imm (qi a.when_)),(139,sI ((a.when_.map Ex.cells).length:Nat)),(140,sI (0:Nat))]
     [.cells [.imm (zr c.facts),.imm (zr c.lines),.imm (xr c.arts)],.mapI .i64 (qr sI m),.cells (ztl a op n u den ps ks)]
    rw [hwl];refine zo a.when_ (fun i (_:Unit)=>[(1,.ptr 0 0),(3,.map 1),(9,.ptr 2 0),(84,.imm (xr c.arts)),(85,sI (c.arts.length:Nat)),(86,sI (done.length:Nat)),(138,.imm (qi a.when_)),(139,sI (a.when_.length:Nat)),(140,sI (i:Nat))])
     (fun _ _=>[.cells [.imm (zr c.facts),.imm (zr c.lines),.imm (xr c.arts)],.mapI .i64 (qr sI m),.cells (ztl a op n u den ps ks)])
     (fun dj _ _=>dj.all (fun e=>(jf c m e tT).1)=true) () rfl ?_ ?_
    ·rintro _ hw1
     rw [hw1,Bool.true_and] at hart;(refine ze ?_;conv=>whnf)
     repeat' ((with_reducible refine way ?_ ?_)<;>(intro h;conv=>whnf))
     all_goals try (exfalso;omega)
     (refine wd 0 mixed rfl ?_;refine zn [777] (nx:=4) ?_;conv=>whnf);refine wz rfl (by exact (by decide:4<=4)) (i:=a.line.toNat) (by omega) (row:=d.cells) hdr ?_;(refine zn [777,173] (nx:=4) ?_;conv=>whnf);have hwr:(jf c m (.mk op n u den ps ks) d.unit).1=if u=d.unit then (qe c m (.mk op n u den ps ks) 1 0).1 else false:=by
      unfold jf;show (if u=d.unit then _ else _:Bool × Int).1=_;split<;>rfl
     rw [hwr] at hart
     repeat' ((with_reducible refine way ?_ ?_)<;>(intro h;conv=>whnf))
     ·rw [if_pos h] at hart
      refine ypc 4 (r:=sB (qe c m (.mk op n u den ps ks) 1 0).1) (wr:=some (3,.cells [sI (qe c m (.mk op n u den ps ks) 1 0).2])) rfl rfl rfl rfl rfl rfl (by exact (by decide:4<=4)) (by exact (by decide:4<=4)) (by rintro b ob h;cases h;exact (by decide:3<4)) ((hamt (mi:=1) (ni:=3) (by decide) rfl rfl).mono ?_) ?_
      ·rintro r H1 ⟨rfl,rfl⟩;exact ⟨rfl,rfl⟩
      rw [<-hart];cases hao:zqh c m a with
      |true=>
       (refine zn [777,173] (nx:=4) ?_;conv=>whnf);refine jk ⟨sB false,[],none⟩ rfl rfl (by exact (by decide:4<=4)) (fun _ _ _=>rfl) ?_;refine qt (by kernel_rfl) ?_;(refine ze ?_;conv=>whnf);rw [hw];have hu2:([.cells [.imm (zr c.facts),.imm (zr c.lines),.imm (xr c.arts)],.mapI .i64 (qr sI m)]:List SObj).all (SObj.under 2)=true:=by simp [zgb];rfl
       exact yw [1,3,84,85,86] 2 (by simp [hH]) (by exact (by decide:2<=4)) rfl hu2 (ih () (good hao))
      |false=>
       (refine zn [777,173] (nx:=4) ?_;conv=>whnf);refine jk ⟨sB true,[],none⟩ rfl rfl (by exact (by decide:4<=4)) (fun _ _ _=>rfl) ?_;refine qt (by kernel_rfl) ?_;(refine ze ?_;conv=>whnf);exact kB hK (bad hao)
     ·rw [if_neg h] at hart
      refine jk ⟨sB true,[],none⟩ rfl rfl (by exact (by decide:4<=4)) (fun _ _ _=>rfl) ?_;refine qt (by kernel_rfl) ?_;(refine ze ?_;conv=>whnf);exact kB hK (bad hart)
    ·rintro dj e rj _ hdj hdjl hw1 ih2
     have hwj:=zj (n:=dj.length) (by omega);have hcall:∀{H:List SObj} {mi ni:Nat},mi≠ni->H[mi]?=some (.mapI .i64 (qr sI m))->H[ni]?=some (.cells [sI 0])->_:=fun {H mi ni} q1 q2 q3=>zse G c hcs m hm e 1 0 (by omega) (by omega) (by omega) (by omega) (H:=H) (mi:=mi) (ni:=ni) q1 q2 q3
     have bad2:(jf c m e tT).1=false->ok=false:=fun h=>bad (by rw [hart,hdj,List.all_append,List.all_cons,h,Bool.false_and,Bool.and_false,Bool.false_and])
     have hrx:(a.when_.map Ex.cells)[dj.length]?=some e.cells:=by rw [hdj];simp
     have hwr:(jf c m e tT).1=if e.unit=tT then (qe c m e 1 0).1 else false:=by unfold jf;split<;>rfl
     have ih2:(jf c m e tT).1=true->_:=fun h=>ih2 () (by rw [List.all_append,hw1,List.all_cons,h];rfl)
     generalize (jf c m e tT).1=wb at bad2 hwr ih2;obtain ⟨o1,n1,u1,d1,p1,q1⟩:=e;(refine ze ?_;conv=>whnf)
     repeat' ((with_reducible refine way ?_ ?_)<;>(intro h;conv=>whnf))
     all_goals try (exfalso;omega)
     refine zi (i:=dj.length) (row:=(Ex.mk o1 n1 u1 d1 p1 q1).cells) rfl rfl hrx ?_;(refine zc ?_;conv=>whnf)
     repeat' ((with_reducible refine way ?_ ?_)<;>(intro h;conv=>whnf))
     ·refine ye rfl rfl rfl rfl rfl rfl ((hcall (mi:=1) (ni:=4) (by decide) rfl rfl).mono ?_)
      rintro r H' ⟨rfl,rfl⟩;refine ⟨by rw [List.length_set];exact Nat.le_refl _,?_⟩;rw [if_pos (show (Ex.mk o1 n1 u1 d1 p1 q1).unit=tT from h)] at hwr;rw [<-hwr];cases wb with
      |false=>
       (refine zc ?_;conv=>whnf);exact kB hK (bad2 rfl)
      |true=>
       (refine zc ?_;conv=>whnf);rw [hwj];exact yw [1,3,9,84,85,86,138,139,140] 3 (by simp [hH]) (by simp) rfl (by simp [zgb];exact ⟨rfl,rfl⟩) (ih2 rfl)
     ·rw [if_neg (fun h':(Ex.mk o1 n1 u1 d1 p1 q1).unit=tT=>h h')] at hwr
      exact kB hK (bad2 hwr)
   ·rintro dj x rj _ hdj hdjl hu1 ih2
    have hwj:=zj (n:=dj.length) (by omega);have bad2:(zv x m).isSome=false->ok=false:=fun h=>bad (by rw [hart,hdj,List.all_append,List.all_cons,h,Bool.false_and,Bool.and_false,Bool.false_and,Bool.false_and])
    have hrx:(a.unless_.map fun n=>[dI n])[dj.length]?=some [dI x]:=by rw [hdj];simp
    (refine ze ?_;conv=>whnf)
    repeat' ((with_reducible refine way ?_ ?_)<;>(intro h;conv=>whnf))
    all_goals try (exfalso;omega)
    refine zi (i:=dj.length) (row:=[dI x]) rfl rfl hrx ?_;(refine zc ?_;conv=>whnf);cases hlk:zv x m with
    |none=>
     refine zak sI rfl rfl rfl rfl rfl rfl rfl rfl rfl (v:=sI 0) (p:=false) (by rw [hlk];rfl) (by rw [hlk];rfl) ?_;(refine zc ?_;conv=>whnf);exact kB hK (bad2 (by rw [hlk];rfl))
    |some v=>
     refine zak sI rfl rfl rfl rfl rfl rfl rfl rfl rfl (v:=sI v) (p:=true) (by rw [hlk];rfl) (by rw [hlk];rfl) ?_;(refine zc ?_;conv=>whnf);rw [hwj];exact zh [1,3,9,84,85,86,122,123,124] (ih2 () (by rw [List.all_append,hu1,List.all_cons,hlk];rfl))
 ·rintro done a rest m ha hl h1 ih
  have hw:=zj (n:=done.length) (by omega);obtain ⟨op,n,u,den,ps,ks,ham⟩:∃op n u den ps ks,a.amount= .mk op n u den ps ks:=by cases h:a.amount;exact ⟨_,_,_,_,_,_,rfl⟩
  have hrow:(c.arts.map Article.cells)[done.length]?=some [dI a.number,dI a.line,dI a.rank,dI a.lo,dI a.hi,dI a.known,qi a.when_,yb a.unless_,dI op,dI n,dS u,dI den,.isl 3 (ps.map Piece.cells),.isl 6 (zm ks)]:=by
   simp [ha,Article.cells,ham,xh,Ex.op,Ex.n,Ex.unit,Ex.den,Ex.pieces,Ex.kids]
  simp only [qk] at h1;have bad:qk c.lines.length c.arts []=none->ok=false:=fun h=>by rw [hok,h]
  (refine ze ?_;conv=>whnf)
  repeat' ((with_reducible refine way ?_ ?_)<;>(intro h;conv=>whnf))
  all_goals try (exfalso;omega)
  refine zi (i:=done.length) (row:=[dI a.number,dI a.line,dI a.rank,dI a.lo,dI a.hi,dI a.known,qi a.when_,yb a.unless_,dI op,dI n,dS u,dI den,.isl 3 (ps.map Piece.cells),.isl 6 (zm ks)]) rfl rfl hrow ?_;(refine zc ?_;conv=>whnf)
  repeat' ((with_reducible refine way ?_ ?_)<;>(intro h;conv=>whnf))
  all_goals try exact kB hK (bad (by rw [h1,if_neg (by omega)]))
  rw [if_pos (by omega)] at h1;cases hlk:zv a.number m with
  |none=>
   rw [hlk] at h1;refine zak sI rfl rfl rfl rfl rfl rfl rfl rfl rfl (v:=sI 0) (p:=false) (by rw [hlk];rfl) (by rw [hlk];rfl) ?_;(refine zc ?_;conv=>whnf);refine zdd sI a.line rfl rfl rfl rfl rfl rfl rfl rfl rfl ?_;(refine zc ?_;conv=>whnf);rw [hw];exact yw [1,3,36,37,38] 2 (by simp [hH]) (by simp) rfl (by simp [zgb];rfl) (ih _ h1)
  |some l=>
   rw [hlk] at h1;refine zak sI rfl rfl rfl rfl rfl rfl rfl rfl rfl (v:=sI l) (p:=true) (by rw [hlk];rfl) (by rw [hlk];rfl) ?_;(refine zc ?_;conv=>whnf)
   repeat' ((with_reducible refine way ?_ ?_)<;>(intro h;conv=>whnf))
   ·exact kB hK (bad (by rw [h1];simp only;rw [if_neg h]))
   ·simp only at h1
    rw [if_pos (by omega)] at h1;refine zdd sI a.line rfl rfl rfl rfl rfl rfl rfl rfl rfl ?_;(refine zc ?_;conv=>whnf);rw [hw];exact yw [1,3,36,37,38] 2 (by simp [hH]) (by simp) rfl (by simp [zgb];rfl) (ih _ h1)
def zxr (prev:Option Int) (p:Fact):Bool:=
 match prev with
 |none=>true
 |some k=>decide (k<=p.known)
theorem zxs (prev:Option Int) (p:Fact) (r:List Fact):zby prev (p::r)=(zrd p&&zxr prev p&&zby (some p.known) r):=by
 cases prev with
 |none=>rw [zby,zxr,Bool.and_true]
 |some k=>rw [zby,zxr]
theorem zuf (l:List Fact) (hl:l.length<=1000000000):zp Tryz.prog G 64 [.imm (qj l)] (sB (zhy l)):=by
 have hlen:(l.map Fact.cells).length=l.length:=by simp
 have hok:zhy l=(decide (l.length<=400)&&zby none l):=rfl;generalize zhy l=ok at hok;refine zg Tryz.func64 rfl (by rw [Tryz.ntmps64];simp) rfl rfl ?_;intro E hH hK;(refine ze ?_;conv=>whnf)
 repeat' ((with_reducible refine way ?_ ?_)<;>(intro h;conv=>whnf))
 ·exact kB hK (by rw [hok,decide_eq_false (by omega)];rfl)
 rw [decide_eq_true (by omega),Bool.true_and] at hok;refine zh [0,8,9,10] ?_;change SW E _ [(0,.imm (qj l)),(8,.imm (qj l)),(9,sI ((l.map Fact.cells).length:Nat)),(10,sI (0:Nat))] [];rw [hlen];refine zo l (fun i (_:Unit)=>[(0,.imm (qj l)),(8,.imm (qj l)),(9,sI (l.length:Nat)),(10,sI (i:Nat))]) (fun _ _=>[]) (fun done rest _=>zby none l=zby (zaw done) rest) () rfl ?_ ?_
 ·rintro _ hv
  (refine ze ?_;conv=>whnf)
  repeat' ((with_reducible refine way ?_ ?_)<;>(intro h;conv=>whnf))
  all_goals try (exfalso;omega)
  exact kB hK (by rw [hok,hv];rfl)
 ·rintro done p rest _ hda hdl hv ih
  have hw:=zj (n:=done.length) (by omega);have hp:(l.map Fact.cells)[done.length]?=some p.cells:=by rw [hda];simp
  have hn1:=zdg G p.person;have hn2:=zdg G p.name;have hday:=zeu G p.known;rw [zxs] at hv;have bad:(zrd p&&zxr (zaw done) p)=false->ok=false:=fun h=>by rw [hok,hv,h];rfl
  have good:(zrd p&&zxr (zaw done) p)=true->zby none l=zby (zaw (done++[p])) rest:=fun h=>by rw [hv,h,zhi];rfl
  have hform:zrd p=(wx p.person&&wx p.name&&decide (0<=p.lo/\p.lo<p.hi/\p.hi<=36525/\0<=p.known/\p.known<=36524/\ -1000000000000<=p.value/\p.value<=1000000000000)&&(!p.gone||decide (p.value=0))):=rfl;have hdk:ziz p.known=decide (0<=p.known/\p.known<=36524):=rfl;rw [hform] at bad good;generalize wx p.person=b1 at hn1 bad good;generalize wx p.name=b2 at hn2 bad good;generalize ziz p.known=b3 at hday hdk;have ih:=fun h=>ih () (good h)
  have hseq:(done=[]/\zxr (zaw done) p=true)\/∃q:Fact,1<=done.length/\(l.map Fact.cells)[done.length-1]?=some q.cells/\zxr (zaw done) p=decide (q.known<=p.known):=by
   rcases zrc done with rfl|⟨init,q,rfl⟩
   ·exact .inl ⟨rfl,rfl⟩
   ·refine .inr ⟨q,by simp,?_,by rw [zhi];rfl⟩
    rw [hda,List.length_append,List.length_cons,List.length_nil,Nat.zero_add,Nat.add_sub_cancel,List.append_assoc];simp
  have w1:IntKind.i64.wrap ((done.length:Int)-1)=((done.length:Int)-1):=zu (by omega) (by omega);generalize zxr (zaw done) p=sq at bad ih hseq;(refine ze ?_;conv=>whnf)
  repeat' ((with_reducible refine way ?_ ?_)<;>(intro h;conv=>whnf))
  all_goals try (exfalso;omega)
  refine zi (i:=done.length) (row:=p.cells) rfl rfl hp ?_;(refine zc ?_;conv=>whnf);refine zx mixed rfl ?_;(refine zf [] ?_;conv=>whnf);refine yg rfl  hn1 ?_;cases b1 with
  |false=>
   (refine zf [] ?_;conv=>whnf);(refine ze ?_;conv=>whnf);exact kB hK (bad rfl)
  |true=>
  (refine zf [] ?_;conv=>whnf);refine yg rfl  hn2 ?_;cases b2 with
  |false=>
   (refine zf [] ?_;conv=>whnf);(refine ze ?_;conv=>whnf);exact kB hK (bad rfl)
  |true=>
  (refine zf [] ?_;conv=>whnf);refine yg rfl  hday ?_;cases b3 with
  |false=>
   have hdk:=of_decide_eq_false hdk.symm;(refine zf [] ?_;conv=>whnf);(refine ze ?_;conv=>whnf);exact kB hK (bad (by rw [decide_eq_false (by omega)];rfl))
  |true=>
  have hdk:=of_decide_eq_true hdk.symm;(refine zf [] ?_;conv=>whnf)
  repeat' ((with_reducible refine way ?_ ?_)<;>(intro h;conv=>whnf))
  ·rcases hseq with ⟨h0,_⟩|⟨q,hq1,hq2,hq3⟩
   ·rw [h0] at h
    exact absurd h (by decide)
   rw [w1];refine ym (i:=done.length-1) (row:=q.cells) rfl (by omega) hq2 ?_;(refine zf [] ?_;conv=>whnf);(refine ze ?_;conv=>whnf)
   repeat' ((with_reducible refine way ?_ ?_)<;>(intro h;conv=>whnf))
   all_goals try exact kB hK (bad (by rw [hq3,decide_eq_false (show ¬q.known<=p.known by omega),Bool.and_false]))
   all_goals try exact kB hK (bad (by rw [decide_eq_false (by omega)];rfl))
   all_goals try exact kB hK (bad (by rw [‹p.gone=true›,decide_eq_false ‹¬p.value=0›];simp))
   all_goals
    rw [hw];refine yw [0,8,9,10] 0 (by simp [hH]) (Nat.zero_le _) rfl rfl (ih ?_);rw [hq3,decide_eq_true (show q.known<=p.known by omega),decide_eq_true (show 0<=p.lo/\p.lo<p.hi/\p.hi<=36525/\0<=p.known/\p.known<=36524/\ -1000000000000<=p.value/\p.value<=1000000000000 by omega)]
    first|(rw [‹p.gone=false›];rfl)|(rw [decide_eq_true ‹p.value=0›];simp)
  ·rcases hseq with ⟨h0,hq3⟩|⟨q,hq1,hq2,hq3⟩
   case inr=>exact absurd (show (0:Int)<(done.length:Int) by omega) h
   (refine ze ?_;conv=>whnf)
   repeat' ((with_reducible refine way ?_ ?_)<;>(intro h;conv=>whnf))
   all_goals try exact kB hK (bad (by rw [decide_eq_false (by omega)];rfl))
   all_goals try exact kB hK (bad (by rw [‹p.gone=true›,decide_eq_false ‹¬p.value=0›];simp))
   all_goals
    rw [hw];refine yw [0,8,9,10] 0 (by simp [hH]) (Nat.zero_le _) rfl rfl (ih ?_);rw [hq3,decide_eq_true (show 0<=p.lo/\p.lo<p.hi/\p.hi<=36525/\0<=p.known/\p.known<=36524/\ -1000000000000<=p.value/\p.value<=1000000000000 by omega)]
    first|(rw [‹p.gone=false›];rfl)|(rw [decide_eq_true ‹p.value=0›];simp)
variable {G:List (Nat × D)}
theorem zxt (c:Codex) (m:List (Int × Int)) (N:Nat):(∀e:Ex,SizeOf.sizeOf e<N->zvu c m e->zax e<=1000000->zkn e)/\(∀ks:List Ex,SizeOf.sizeOf ks<N->ztm c m ks->zbz ks<=1000000->zeh ks):=by
 induction N with
 |zero=>exact ⟨fun e h=>by omega,fun e h=>by omega⟩
 |succ N ih=>
  refine ⟨fun e he h hs=>?_,fun ks hk h hs=>?_⟩
  ·obtain ⟨op,n,u,den,ps,ks⟩:=e
   simp only [Ex.mk.sizeOf_spec] at he;unfold zvu at h;unfold zax at hs;have:=ypu h.1;have h2:=zia ks;unfold zkn;exact ⟨by omega,by omega,ih.2 ks (by omega) h.2 (by omega)⟩
  ·cases ks with
   |nil=>unfold zeh;trivial
   |cons k r=>
    simp only [List.cons.sizeOf_spec] at hk;unfold ztm at h;unfold zbz at hs;unfold zeh;exact ⟨ih.1 k (by omega) h.1 (by omega),ih.2 r (by omega) h.2 (by omega)⟩
theorem zxu:∀{ks:List Ex},(∀k∈ks,zkn k)->zeh ks
 |[],_=>by unfold zeh;trivial
 |k::r,h=>by unfold zeh;exact ⟨h k (by simp),zxu fun x hx=>h x (by simp [hx])⟩
theorem yqv {c:Codex} (h:zct c=true) (hfew:∀a∈c.arts,a.when_.length<=1000000/\a.unless_.length<=1000000):∃m,MFit c m:=by
 obtain ⟨_,h2,m,_,h4⟩:=zje h;refine ⟨m,by omega,fun a ha=>⟨(hfew a ha).1,zxu fun e he=>?_,(hfew a ha).2,?_⟩,fun a ha=>?_,fun a ha w hw=>?_⟩
 ·have:=(h4 a ha).2.2.1 e he
  exact (zxt c m _).1 e (Nat.lt_succ_self _) this.1 (by omega)
 ·have:=(h4 a ha).2.2.2
  exact (zxt c m _).1 a.amount (Nat.lt_succ_self _) this.1 (by omega)
 ·have:=(h4 a ha).2.2.2
  exact ⟨this.1,by omega⟩
 ·have:=(h4 a ha).2.2.1 w hw
  exact ⟨this.1,by omega⟩
theorem yqw {c:Codex} (hf:c.facts.length<=1000000) (l:List Fact) (person:ByteArray) {day:Int} (known:Int) (hd:0<=day/\day<=36524):AFit c (zay c l person day known):=
 ⟨hf,by simp [zay],by simp [zay],by simp [zay],hd⟩
theorem yah {c:Codex} {s:List Int × List Int} {i:Int} (h:∀v∈s.2,0<=v/\v<c.arts.length) (hi:0<=i/\i<c.arts.length):∀v∈(zdp s i).2,0<=v/\v<c.arts.length:=by
 intro v hv;unfold zdp at hv;simp only at hv;split at hv
 ·rcases List.mem_append.1 hv with hv|hv
  ·exact h v hv
  ·rw [List.mem_singleton] at hv
   subst hv;exact hi
 ·exact h v hv
theorem zpt {c:Codex}:∀(l:List Int) {s:List Int × List Int},(∀v∈s.2,0<=v/\v<c.arts.length)->(∀i∈l,0<=i/\i<c.arts.length)->∀v∈(l.foldl zdp s).2,0<=v/\v<c.arts.length
 |[],_,h,_=>h
 |i::l,_,h,hl=>zpt l (yah h (hl i (by simp))) (fun j hj=>hl j (by simp [hj]))
theorem zpu {c:Codex}:∀(f next:Nat) {s:List Int × List Int},(∀v∈s.2,0<=v/\v<c.arts.length)->∀v∈(zag c f next s).2,0<=v/\v<c.arts.length
 |0,_,_,h=>h
 |f+1,next,s,h=>by
  rw [zag];split
  ·exact h
  ·exact zpu f (next+1) (zpt _ h (fun i hi=>ybv hi))
theorem ynq (c:Codex):∀v∈yen c,0<=v/\v<c.arts.length:=zpu _ _ (zrh c).mem
theorem ycs {k v:Int}:∀{m:List (Int × Int)} {p:Int × Int},p∈zcd k v m->p=(k,v)\/p∈m
 |[],p,h=>by simp [zcd] at h;exact .inl h
 |q::r,p,h=>by
  obtain ⟨a,b⟩:=q;rw [zcd] at h;split at h
  ·rcases List.mem_cons.1 h with h|h
   ·exact .inl h
   ·exact .inr (by simp [h])
  ·rcases List.mem_cons.1 h with h|h
   ·exact .inr (by simp [h])
   ·rcases ycs h with h|h
    ·exact .inl h
    ·exact .inr (by simp [h])
theorem zxv {c:Codex} {day known:Int} {m:List (Int × Int)} {x:Article × Nat} {n:Nat} (h:∀p∈m,0<=p.2/\p.2<n) (hx:x.2<n):∀p∈jz c day known m x,0<=p.2/\p.2<n:=by
 have h2:∀p∈zcd x.1.number (x.2:Int) m,0<=p.2/\p.2<n:=fun p hp=>by
  rcases ycs hp with rfl|hp
  ·simp only
   omega
  ·exact h p hp
 intro p hp;unfold jz at hp;split at hp
 ·exact h p hp
 ·split at hp
  ·exact h2 p hp
  ·split at hp
   ·split at hp
    ·exact h2 p hp
    ·exact h p hp
   ·exact h p hp
theorem zlr {c:Codex} {day known:Int} {n:Nat}:∀(l:List (Article × Nat)) {m:List (Int × Int)},(∀p∈m,0<=p.2/\p.2<n)->(∀x∈l,x.2<n)->(∀p∈l.foldl (jz c day known) m,0<=p.2/\p.2<n)/\(l.foldl (jz c day known) m).length<=m.length+l.length
 |[],_,h,_=>⟨h,Nat.le_refl _⟩
 |x::l,m,h,hl=>by
  have:=zlr (c:=c) (day:=day) (known:=known) l (zxv (c:=c) (day:=day) (known:=known) h (hl x (by simp))) (fun y hy=>hl y (by simp [hy]));have h2:=ycf c day known m x;rw [List.foldl_cons,List.length_cons];exact ⟨this.1,by omega⟩
theorem yqx (c:Codex) (day known:Int):(∀o∈inA c day known,0<=o/\o<c.arts.length)/\(inA c day known).length<=c.arts.length:=by
 have h:=zlr (c:=c) (day:=day) (known:=known) (n:=c.arts.length) c.arts.zipIdx (m:=[]) (fun p hp=>by cases hp) (fun x hx=>by
  have:=List.snd_lt_of_mem_zipIdx hx
  omega)
 refine ⟨fun o ho=>?_,?_⟩
 ·unfold inA at ho
  rw [List.mem_mergeSort] at ho;obtain ⟨p,hp,rfl⟩:=List.mem_map.1 ho;exact h.1 p hp
 ·unfold inA
  rw [List.length_mergeSort,List.length_map];have:=h.2;rw [List.length_zipIdx,List.length_nil,Nat.zero_add] at this;exact this
theorem yfu (S:AM) (U:List Bool):(zgh S U).length<=U.length:=by
 unfold zgh;refine Nat.le_trans (zor _) ?_;rw [List.length_mergeSort];exact zoz S U U.length
theorem ykl (c:Codex) (a:Article):(zib c a).length=c.facts.length:=by
 unfold zib;rw [(zei _).2 a.when_ (Nat.lt_succ_self _),(zei _).1 a.amount (Nat.lt_succ_self _),List.length_replicate]
theorem yfv (c:Codex) (inF:List Int) (st:List (Int × Int)) (a:Article):(zjf c inF st a).length<=inF.length:=List.length_filter_le _ _
def yct (c:Codex) (S:AM) (inF:List Int) (q s:Nat):List SV:=[.imm (zr c.facts),.imm (zr c.lines),.imm (xr c.arts),sI S.day,.imm (zam S.has),.imm (yb S.vals),.imm (yb S.nums),.imm (yb inF),.map q,.map s]
theorem zjt (σ:Nat->Nat) (m:List (Int × Int)):(SObj.mapI .i64 (qr sI m)).ren σ= .mapI .i64 (qr sI m):=by
 simp [SObj.ren,qr,SV.ren]
theorem ykm {f:FuncId} {arg r0:SV} {c:Codex} {S:AM} {inF:List Int} {st am st' am':List (Int × Int)} (h:SPre Tryz.prog G f [.ptr 0 0,arg] (MH c S inF st am) (fun r H1=>r=r0/\H1=MH c S inF st' am'))
  (harg:∀σ,arg.ren σ=arg) (hau:arg.under 3=true) (hr:∀σ,r0.ren σ=r0) {H:List SObj} {p q s:Nat} (hpq:p≠q) (hps:p≠s) (hqs:q≠s)
  (hp:H[p]?=some (.cells (yct c S inF q s))) (hq:H[q]?=some (.mapI .i64 (qr sI st))) (hs:H[s]?=some (.mapI .i64 (qr sI am))):
  SCall Tryz.prog G f [.ptr p 0,arg] H (fun r H'=>r=r0/\H'=(H.set q (.mapI .i64 (qr sI st'))).set s (.mapI .i64 (qr sI am'))):=by
 have hpl:=lt_of_getElem? hp;have hql:=lt_of_getElem? hq;have hsl:=lt_of_getElem? hs;have h0:=h [];rw [List.append_nil] at h0;have hlen:(MH c S inF st am).length=3:=rfl;have:=znx (K':=fun r H'=>r=r0/\H'=(H.set q (.mapI .i64 (qr sI st'))).set s (.mapI .i64 (qr sI am'))) h0 (H:=H) (fun i=>if i=0 then p else if i=1 then q else if i=2 then s else H.length+(i-3)) ?_ ?_ ?_ ?_ (qw c S inF st am) ?_
 ·have e1:([.ptr 0 0,arg]:List SV).map (SV.ren (fun i=>if i=0 then p else if i=1 then q else if i=2 then s else H.length+(i-3)))=[.ptr p 0,arg]:=by
   simp only [List.map_cons,List.map_nil,harg];rfl
  rw [e1] at this;exact this
 ·intro b b' hb hb' h
  rw [hlen] at hb hb';rcases (show b=0\/b=1\/b=2 by omega) with rfl|rfl|rfl<;>rcases (show b'=0\/b'=1\/b'=2 by omega) with rfl|rfl|rfl<;>
   first|rfl|(exact absurd h hpq)|(exact absurd h hps)|(exact absurd h hqs)|(exact absurd h.symm hpq)|(exact absurd h.symm hps)|(exact absurd h.symm hqs)
 ·intro i
  simp only [hlen];rw [if_neg (by omega),if_neg (by omega),if_neg (by omega)];omega
 ·intro b o hb
  match b,hb with
  |0,hb=>
   injection hb with hb
   subst hb;exact hp
  |1,hb=>
   injection hb with hb
   subst hb;rw [zjt];exact hq
  |2,hb=>
   injection hb with hb
   subst hb;rw [zjt];exact hs
  |b+3,hb=>simp [MH] at hb
 ·simp only [List.all_cons,List.all_nil,hlen,hau]
  rfl
 ·rintro r H1 H' ⟨H2,⟨rfl,rfl⟩,hl2,rfl⟩ hle hl3 hsame hother
  refine ⟨hr _,?_⟩;rw [List.append_nil] at hl3 hsame hle;have hl4:H'.length=H.length:=by
   have:(MH c S inF st' am').length=3:=rfl;rw [this,hlen] at hl3;omega
  apply List.ext_getElem?
  intro i
  by_cases his:i=s
  ·subst his
   rw [List.getElem?_set_self (by rw [List.length_set];exact hsl)];have:=hsame 2 _ rfl;rw [zjt] at this;exact this
  ·rw [List.getElem?_set_ne (fun h=>his h.symm)]
   by_cases hiq:i=q
   ·subst hiq
    rw [List.getElem?_set_self hql];have:=hsame 1 _ rfl;rw [zjt] at this;exact this
   ·rw [List.getElem?_set_ne (fun h=>hiq h.symm)]
    by_cases hip:i=p
    ·subst hip
     have:=hsame 0 _ rfl;exact this.trans hp.symm
    ·rcases Nat.lt_or_ge i H.length with hlt|hge
     ·refine hother i hlt (fun b hb h=>?_)
      rw [hlen] at hb;rcases (show b=0\/b=1\/b=2 by omega) with rfl|rfl|rfl
      ·exact hip h.symm
      ·exact hiq h.symm
      ·exact his h.symm
     ·rw [List.getElem?_eq_none (by omega),List.getElem?_eq_none hge]
variable (G:List (Nat × D))
def yri (x:Ln):SV:=.agg (lnC x)
def zug (c:Codex) (line:Ln) (S:AM) (inF:List Int) (st am:List (Int × Int)):List SObj:=
 [zbb c,.cells (lnC line),zbb c,.mapI .i64 (qr sI st),.mapI .i64 (qr sI am),.cells (yct c S inF 3 4),.dead,.dead,.dead]
theorem ykn {c:Codex} {S:AM} {inF:List Int} {s:List (Int × Int) × List (Int × Int)} {line:Ln} (h:∀o∈inF,¬(o=line.art/\(zv o s.1).getD 0=2)):zfa c S inF s line=false:=by
 unfold zfa;split
 ·rw [if_neg]
  rintro ⟨h1,h2⟩;exact h _ h1 ⟨rfl,h2⟩
 ·rfl
theorem yai (c : Codex) (hfit : Codex.fit c) (hcs : c.facts.length <= 1000000) (hls : c.lines.length <= 1000000) (has : c.arts.length <= 1000000) (hfew : ∀ a ∈ c.arts, a.when_.length <= 1000000 /\ a.unless_.length <= 1000000)
    (l : List Fact) (hl : l.length <= 1000000) (person : ByteArray) (known : Int) (line : Ln) : zp Tryz.prog G 19 [c.sv, .imm (qj l), sS person, sI known, yri line] (sB (zcb c l person known line)) := by
  have hvc := zue G c hfit hcs hls has
  have hvf := zuf G l (by omega)
  have hd1 := zeu G line.day
  have hd2 := zeu G known
  have hrep : zcb c l person known line = (zct c && zhy l && ziz line.day && ziz known && decide ((yen c).length = c.arts.length) &&
      zfa c (zay c l person line.day known) (inA c line.day known) (yse c (zay c l person line.day known) (inA c line.day known) (yen c)) line) := by
    unfold zcb ziz
    simp only [Bool.decide_and]
  rw [hrep]
  clear hrep
  refine zg Tryz.func19 rfl (by rw [Tryz.ntmps19]; simp) rfl rfl ?_; intro E hH hK
  rw [show yri line = .agg [sI line.day, sI line.line, sI line.art, sI line.amount, .imm (yb line.facts), .imm (yb line.rests)] from rfl]
  by_cases hc : zct c = true
  case neg =>
    rw [Bool.not_eq_true] at hc
    rw [hc] at hvc hK
    (refine ze ?_; conv => whnf)
    refine zd rfl  hvc ?_
    (refine zc ?_; conv => whnf)
    exact hK _
  rw [hc] at hvc hK
  by_cases hf : zhy l = true
  case neg =>
    rw [Bool.not_eq_true] at hf
    rw [hf] at hvf hK
    (refine ze ?_; conv => whnf)
    refine zd rfl  hvc ?_
    (refine zc ?_; conv => whnf)
    refine zd rfl  hvf ?_
    (refine zc ?_; conv => whnf)
    exact hK _
  rw [hf] at hvf hK
  by_cases hld : ziz line.day = true
  case neg =>
    rw [Bool.not_eq_true] at hld
    rw [hld] at hd1 hK
    (refine ze ?_; conv => whnf)
    refine zd rfl  hvc ?_
    (refine zc ?_; conv => whnf)
    refine zd rfl  hvf ?_
    (refine zc ?_; conv => whnf)
    refine zd rfl  hd1 ?_
    (refine zc ?_; conv => whnf)
    exact hK _
  rw [hld] at hd1 hK
  by_cases hkd : ziz known = true
  case neg =>
    rw [Bool.not_eq_true] at hkd
    rw [hkd] at hd2 hK
    (refine ze ?_; conv => whnf)
    refine zd rfl  hvc ?_
    (refine zc ?_; conv => whnf)
    refine zd rfl  hvf ?_
    (refine zc ?_; conv => whnf)
    refine zd rfl  hd1 ?_
    (refine zc ?_; conv => whnf)
    refine zd rfl  hd2 ?_
    (refine zc ?_; conv => whnf)
    exact hK _
  rw [hkd] at hd2 hK
  have hday : 0 <= line.day /\ line.day <= 36524 := of_decide_eq_true hld
  obtain ⟨hc1, hc2, _, _, _⟩ := zje hc
  obtain ⟨m, hM⟩ := yqv hc hfew
  have hseq := zoq G c hM.fit hM.arts
  (refine ze ?_; conv => whnf)
  refine zd rfl  hvc ?_
  (refine zc ?_; conv => whnf)
  refine zd rfl  hvf ?_
  (refine zc ?_; conv => whnf)
  refine zd rfl  hd1 ?_
  (refine zc ?_; conv => whnf)
  refine zd rfl  hd2 ?_
  (refine zc ?_; conv => whnf)
  refine zd rfl  hseq ?_
  by_cases hsl : (yen c).length = c.arts.length
  case neg =>
    rw [decide_eq_false hsl] at hK ⊢
    (refine zc ?_; conv => whnf)
    exact hK _
  rw [decide_eq_true hsl] at hK ⊢
  have hS := yqw (c := c) hcs l person known hday
  have hnew := zoy G c l person line.day known (by omega) hl hM.arts
  have hSd : (zay c l person line.day known).day = line.day := rfl
  obtain ⟨hin, hil⟩ := yqx c line.day known
  have hsm := ynq c
  have hK : ∀ H', E.K (sB (zfa c (zay c l person line.day known) (inA c line.day known) (yse c (zay c l person line.day known) (inA c line.day known) (yen c)) line)) H' := hK
  generalize zay c l person line.day known = S at hS hnew hSd hK
  generalize inA c line.day known = inF at hin hil hnew hK
  generalize yen c = sq at hsl hsm hK ⊢
  have hrun := ymz (G := G) hS hM inF sq hin (by omega) hsm (by omega) [] []
  have hra : yse c S inF sq = sq.foldl (zqj c S inF) ([], []) := rfl
  rw [hra] at hK
  clear hra
  generalize sq.foldl (zqj c S inF) ([], []) = T at hrun hK
  obtain ⟨st, am⟩ := T
  simp only at hrun
  have hnew2 : SCall Tryz.prog G 67 [c.sv, .imm (qj l), sS person, sI line.day, sI known] [zbb c, .cells (lnC line)] (fun r H' => r = .ptr 5 0 /\ H' = zug c line S inF [] []) := by
    refine SCall.mono (zhw hnew [zbb c, .cells (lnC line)]) ?_
    rintro r H' ⟨r1, H1, ⟨rfl, rfl⟩, rfl, rfl⟩
    exact ⟨rfl, rfl⟩
  have hrun2 := ykm hrun (fun σ => rfl) rfl (fun σ => rfl) (H := zug c line S inF [] []) (p := 5) (q := 3) (s := 4) (by decide) (by decide) (by decide) rfl rfl rfl
  have hcall : ∀ (a : Article), c.arts[line.art.toNat]? = some a -> 0 <= line.art -> SCall Tryz.prog G 69 [.ptr 5 0, sI line.art] (zug c line S inF st am) (fun r H' => r = yri (zok c S inF (st, am) line.art a) /\ H' = zug c line S inF st am) := fun a ha h0 => by
    have := ykm (yiz (G := G) hS hM inF hin (by omega) st am h0 ha) (fun σ => rfl) rfl (fun σ => rfl) (H := zug c line S inF st am) (p := 5) (q := 3) (s := 4) (by decide) (by decide) (by decide) rfl rfl rfl
    exact this
  clear hnew hrun
  (refine zc ?_; conv => whnf)
  refine ye rfl rfl rfl rfl rfl rfl (hnew2.mono ?_)
  rintro r9 H9 ⟨rfl, rfl⟩
  refine ⟨by show 2 <= 9; decide, ?_⟩
  (refine zc ?_; conv => whnf)
  refine ye rfl rfl rfl rfl rfl rfl (hrun2.mono ?_)
  rintro r9 H9 ⟨rfl, rfl⟩
  refine ⟨by show 9 <= 9; decide, ?_⟩
  refine (fun (hs : ∀ H2, H2 = zug c line S inF st am -> SWr E _ _ _ _ H2) => hs _ rfl) ?_
  rintro _ rfl
  have hifl : (inF.map fun n => [dI n]).length = inF.length := by simp
  (refine zc ?_; conv => whnf)
  refine zh [9, 13, 56, 57, 58] ?_
  change SW E _ [(9, .ptr 1 0), (13, .ptr 5 0), (56, .imm (yb inF)), (57, sI ((inF.map fun n => [dI n]).length : Nat)), (58, sI (0 : Nat))] (zug c line S inF st am)
  rw [hifl]
  refine zo inF (fun i (_ : Unit) => [(9, .ptr 1 0), (13, .ptr 5 0), (56, .imm (yb inF)), (57, sI (inF.length : Nat)), (58, sI (i : Nat))]) (fun _ _ => zug c line S inF st am)
    (fun done _ _ => ∀ o ∈ done, ¬ (o = line.art /\ (zv o st).getD 0 = 2)) () (fun o ho => by cases ho) ?_ ?_
  · rintro _ hn
    rw [ykn (s := (st, am)) hn] at hK
    (refine ze ?_; conv => whnf)
    repeat' ((with_reducible refine way ?_ ?_) <;> (intro h; conv => whnf))
    all_goals try (exfalso; omega)
    exact hK _
  · rintro done o rest _ hda hdl hn ih
    have hom : o ∈ inF := by rw [hda]; simp
    have hor := hin o hom
    have hw := zj (n := done.length) (by omega)
    have hro : (inF.map fun n => [dI n])[done.length]? = some [dI o] := by rw [hda]; simp
    have hlk : ((zv o st).map sI).getD (qp (.int .i64 0)) = sI ((zv o st).getD 0) := by cases zv o st <;> rfl
    have ih := fun (h : ¬ (o = line.art /\ (zv o st).getD 0 = 2)) => ih () (fun x hx => by
      rcases List.mem_append.1 hx with hx | hx
      · exact hn x hx
      · rw [List.mem_singleton] at hx
        subst hx
        exact h)
    have hans : o = line.art -> (zv o st).getD 0 = 2 -> ∀ a, c.arts[line.art.toNat]? = some a -> zfa c S inF (st, am) line = ybu (zok c S inF (st, am) line.art a) line := fun h1 h2 a ha => by
      have hat : zca c line.art = some a := by unfold zca; rw [if_neg (by omega)]; exact ha
      unfold zfa
      rw [hat]
      exact if_pos ⟨h1 ▸ hom, h1 ▸ h2⟩
    generalize hx : (zv o st).getD 0 = x at hlk ih hans
    change SW E _ [(9, .ptr 1 0), (13, .ptr 5 0), (56, .imm (yb inF)), (57, sI (inF.length : Nat)), (58, sI (done.length : Nat))] (zug c line S inF st am)
    (refine ze ?_; conv => whnf)
    repeat' ((with_reducible refine way ?_ ?_) <;> (intro h; conv => whnf))
    all_goals try (exfalso; omega)
    refine zi (i := done.length) (row := [dI o]) rfl rfl hro ?_
    (refine zk [777, 72] 1000 ?_; conv => whnf)
    repeat' ((with_reducible refine way ?_ ?_) <;> (intro h; conv => whnf))
    · subst h
      refine ziv (l := st) (v := sI x) sI rfl rfl rfl rfl rfl rfl rfl rfl rfl hlk ?_
      (refine zc ?_; conv => whnf)
      repeat' ((with_reducible refine way ?_ ?_) <;> (intro h; conv => whnf))
      · rw [hw]
        exact zh [9, 13, 56, 57, 58] (ih fun y => absurd y.2 ‹¬ x = 2›)
      · obtain ⟨a, ha⟩ : ∃ a, c.arts[line.art.toNat]? = some a := ⟨_, List.getElem?_eq_getElem (by omega)⟩
        have ham := List.mem_of_getElem? ha
        rw [hans rfl ‹x = 2› a ha] at hK
        have hcl := hcall a ha (by omega)
        have hf1 := yfu S (zib c a)
        rw [ykl] at hf1
        have hr1 := yfv c inF st a
        have e1 : ybu (zok c S inF (st, am) line.art a) line = (decide (a.line = line.line) && decide ((zv a.number am).getD 0 = line.amount) && decide (zgh S (zib c a) = line.facts) && decide (zjf c inF st a = line.rests)) := rfl
        rw [e1] at hK
        have hs1 : yri (zok c S inF (st, am) line.art a) = .agg [sI S.day, sI a.line, sI line.art, sI ((zv a.number am).getD 0), .imm (yb (zgh S (zib c a))), .imm (yb (zjf c inF st a))] := rfl
        rw [hs1] at hcl
        have q1 := zhj G (zgh S (zib c a)) line.facts (by omega)
        have q2 := zhj G (zjf c inF st a) line.rests (by omega)
        generalize zgh S (zib c a) = F at hcl hK q1
        generalize zjf c inF st a = R at hcl hK q2
        generalize (zv a.number am).getD 0 = amt at hcl hK
        generalize decide (F = line.facts) = z1 at hK q1
        generalize decide (R = line.rests) = z2 at hK q2
        refine ye rfl rfl rfl rfl rfl rfl (hcl.mono ?_)
        rintro r9 H9 ⟨rfl, rfl⟩
        refine ⟨Nat.le_refl _, ?_⟩
        (refine zc ?_; conv => whnf)
        repeat' ((with_reducible refine way ?_ ?_) <;> (intro h; conv => whnf))
        · rw [decide_eq_true ‹a.line = line.line›, decide_eq_true ‹amt = line.amount›, Bool.true_and, Bool.true_and] at hK
          refine zd rfl  q1 ?_
          cases z1 with
          | false =>
            (refine zc ?_; conv => whnf)
            exact hK _
          | true =>
          (refine zc ?_; conv => whnf)
          refine zd rfl  q2 ?_
          (refine zc ?_; conv => whnf)
          exact hK _
        · rw [decide_eq_false ‹¬ amt = line.amount›, Bool.and_false] at hK
          exact hK _
        · rw [decide_eq_false ‹¬ a.line = line.line›] at hK
          exact hK _
    · rw [hw]
      exact zh [9, 13, 56, 57, 58] (ih fun y => absurd y.1 ‹¬ o = line.art›)
end Go.Proofs.YtjnddlifnkgncaaGreatDoor
namespace Go.Sh
variable {P:Program} {G:List (Nat × D)}
theorem yfw {f:FuncId} {args args':List SV} {r:SV} (h:zp P G f args' r) (ha:SIs args args'):zp P G f args r:=fun H w I β vs hH hv=>
 h H w I β vs hH ⟨by rw [hv.len,ha.len],fun j v s h1 h2=>by
  have hj:j<args'.length:=by
   rcases Nat.lt_or_ge j args'.length with h|h
   ·exact h
   ·rw [List.getElem?_eq_none h] at h2
    cases h2
  have hj':j<args.length:=by rw [ha.len];exact hj
  rw [List.getElem?_eq_getElem hj] at h2;cases h2
  exact ha.get j hj' hj w I β v (hv.rep j v _ h1 (List.getElem?_eq_getElem hj'))⟩
end Go.Sh
namespace Go.Proofs.YtjnddlifnkgncaaGreatDoor
open Go Go.Sh
theorem yko {l:List Nat} (h:∀x∈l,x<18446744073709551616) (i:Nat):l.getD i 0<18446744073709551616:=by
 rw [List.getD_eq_getElem?_getD];cases hg:l[i]? with
 |none=>exact (by decide:(0:Nat)<18446744073709551616)
 |some x=>exact h x (List.mem_of_getElem? hg)
theorem ykp:∀(rs:List (List Nat)) (i:Nat),(∀r∈rs,∀x∈r,x<18446744073709551616)->(pth rs i).length<=rs.length/\∀x∈pth rs i,x.sib<18446744073709551616
 |[],_,_=>⟨Nat.le_refl _,fun x hx=>by cases hx⟩
 |r::rs,i,h=>by
  obtain ⟨h1,h2⟩:=ykp rs (i / 2) (fun r hr=>h r (by simp [hr]));have h3:(zgn r i).length<=1/\∀x∈zgn r i,x.sib<18446744073709551616:=by
   unfold zgn;split
   ·refine ⟨Nat.le_refl _,fun x hx=>?_⟩
    rw [List.mem_singleton] at hx;subst hx;exact yko (h r (by simp)) _
   ·split
    ·refine ⟨Nat.le_refl _,fun x hx=>?_⟩
     rw [List.mem_singleton] at hx;subst hx;exact yko (h r (by simp)) _
    ·exact ⟨Nat.zero_le _,fun x hx=>by cases hx⟩
  rw [pth];refine ⟨by rw [List.length_append,List.length_cons];omega,fun x hx=>?_⟩;rcases List.mem_append.1 hx with hx|hx
  ·exact h3.2 x hx
  ·exact h2 x hx
theorem zsf:∀(f:Nat) (r:List Nat),(wt f r).length<=f+1
 |0,_=>Nat.le_refl _
 |f+1,r=>by
  rw [wt];split
  ·have:=zsf f (zbe r)
   rw [List.length_cons];omega
  ·rw [List.length_singleton]
   omega
theorem zxw (l:List ByteArray) (i:Nat):(zjp l i).length<=1025/\∀x∈zjp l i,x.sib<18446744073709551616:=by
 have h1:=zsf 1024 (l.map zao)
 have h2:=ykp (wt 1024 (l.map zao)) i (zpm 1024 _ (fun x hx=>by
  obtain ⟨y,_,rfl⟩:=List.mem_map.1 hx
  exact jy _))
 rw [zxh];exact ⟨by omega,h2.2⟩
theorem yfx (seed:ByteArray) (i:Int) (text:ByteArray):∀x∈chainsN seed i text,x<18446744073709551616:=by
 intro x hx;unfold chainsN at hx;obtain ⟨k,_,rfl⟩:=List.mem_map.1 hx;exact zww (jy _) _
theorem ykq {s:Slip} (hg:SlipGood s) (hr:∀r∈s.rows,r.label.size<=100000/\r.reason.size<=100000) (hp:s.person.size<=1000) {sel:List Int} (hsel:zig s.rows.length none sel=true) (hsl:sel.length<=1000000) (seed:ByteArray) (h i:Nat):DFit (showN s sel seed h i) where
 person:=Nat.le_trans hp (by decide)
 root:=by
  show s.root<_;rw [<-hg.root];exact yci _
 commit:=by
  show (zmm s.rows s.blinds).length<=_;rw [zmn _ _ hg.blinds];exact Nat.le_trans hg.rows.2 (by decide)
 shown:=by
  show (sel.map (showRow s)).length<=_;rw [List.length_map];exact Nat.le_trans hsl (by decide)
 row:=fun x hx=>by
  obtain ⟨k,hk,rfl⟩:=List.mem_map.1 (show x∈sel.map (showRow s) from hx);have hkr:=(zjq _ _ _ hsel).2.1 k hk;have hlt:k.toNat<s.rows.length:=by omega
  have hmem:s.rows.getD k.toNat ⟨⟨#[]⟩,0,⟨#[]⟩⟩∈s.rows:=by
   rw [List.getD_eq_getElem?_getD,List.getElem?_eq_getElem hlt];exact List.getElem_mem hlt
  have h1:=hr _ hmem;have h2:=zxw (jv s.rows s.blinds) k.toNat;exact ⟨Nat.le_trans h1.1 (by decide),Nat.le_trans h1.2 (by decide),Nat.le_trans h2.1 (by decide),h2.2⟩
 chains:=yfx _ _ _
 path:=by
  have h2:=zxw (leavesN seed h) i;exact ⟨Nat.le_trans h2.1 (by decide),h2.2⟩
def yaj:ByteArray:=⟨#[115,101,101,100]⟩
theorem zin:SlipGood shSlip:=⟨by kernel_rfl,by decide,by decide,rfl,by decide,by decide,rfl⟩
theorem zpv:∀r∈shSlip.rows,r.label.size<=100000/\r.reason.size<=100000:=by decide
def zju (amount:Int) (fs:List Int):Ln:=⟨8770,0,0,amount,fs,[]⟩
theorem ysu:zcb offC ygc ygb 8771 (zju 9600 [1])=true:=by rw [zek];kernel_rfl
theorem yqy:zcb offC ygc ygb 8771 (zju 9601 [1])=false:=by rw [zek];kernel_rfl
theorem yqz:zcb offC ygc ygb 8771 (zju 9600 [])=false:=by rw [zek];kernel_rfl
theorem ynr:zcb offC ygc ygb 8770 (zju 9600 [1])=false:=by rw [zek];kernel_rfl
theorem ysv:zcb offC ygc yuc 8771 (zju 9600 [1])=false:=by rw [zek];kernel_rfl
theorem yns:Codex.fit offC:=fun a ha=>by
 rw [show offC.arts=[_] from rfl,List.mem_singleton] at ha;subst ha;exact ⟨Nat.zero_le _,Nat.zero_le _⟩
theorem ykr (person:ByteArray) (known:Int) (l:Ln) (b:Bool) (h:zcb offC ygc person known l=b):zp Tryz.prog G37 19 [offC.sv,.imm (qj ygc),sS person,sI known,yri l] (sB b):=by
 have:=yai G37 offC yns (by decide) (by decide) (by decide) (by decide) ygc (by decide) person known l;rw [h] at this;exact this
theorem ysw:zp Tryz.prog G37 9 [] (sB true):=by
 have hsel:zig shSlip.rows.length none [0]=true:=by decide
 have hsum: -500000000<=wn (shSlip.rows.map Rw.cents) (zlx shSlip.rows.length [0])/\wn (shSlip.rows.map Rw.cents) (zlx shSlip.rows.length [0])<=500000000:=by decide
 have hok:=yqr zin hsel yaj (h:=1) (i:=1) (by decide) (by decide) hsum;have hfit:=ykq zin zpv (by decide) hsel (by decide) yaj 1 1;have c1:=ynb yaj 1 (by decide) (by decide);have c2:=yfj;have c3:=yjs shSlip zin zpv (by decide) [0] hsel (by decide) yaj 1 1 (by decide) (by decide) (by decide) hsum;have hhid:(showN shSlip [0] yaj 1 1).hidden=30000:=by
  show wn (shSlip.rows.map Rw.cents) (zlx shSlip.rows.length [0])=30000;decide
 generalize showN shSlip [0] yaj 1 1=d at hok hfit c3 hhid;generalize keyN yaj 1=key at hok c1;generalize shSlip=ss at c2 c3;have hbad:accOK key 1 {d with hidden:=29999}=false:=zud hok (by rw [hhid];decide);have hzero:accOK key 0 d=false:=ynn hok (by decide);have a1:=zcr zcv key 1 d hfit;have a2:=zcr zcv key 1 {d with hidden:=29999} ⟨hfit.person,hfit.root,hfit.commit,hfit.shown,hfit.row,hfit.chains,hfit.path⟩;have a3:=zcr zcv key 0 d hfit;have hok:accOK key 1 d=true:=hok;rw [hok] at a1;rw [hbad] at a2;rw [hzero] at a3;obtain ⟨person,month,root,commit,shown,hidden,blind,⟨index,chains,path⟩⟩:=d;simp only at hhid;subst hhid;clear hok hbad hzero hfit hsel hsum;have c4:=zzv G37;have nilR:SIs (lnC (zju 9600 [1])) (lnC (zju 9600 [1])):=.cons (SV.Is.refl _) (.cons (SV.Is.refl _) (.cons (SV.Is.refl _) (.cons (SV.Is.refl _) (.cons (SV.Is.refl _) (.cons (SV.Is.refl _) .nil)))));have isL:∀(am:Int) (fd:D) (fs:List Int),(SV.imm fd).Is (.imm (yb fs))->(SV.agg [sI 8770,sI 0,sI 0,sI am,.imm fd,.imm yla]).Is (yri (zju am fs)):=fun am fd fs h=>
  SIs.agg (.cons (SV.Is.refl _) (.cons (SV.Is.refl _) (.cons (SV.Is.refl _) (.cons (SV.Is.refl _) (.cons h (.cons (SV.Is.nil 1) .nil))))))
 have rp:∀(person:ByteArray) (known am:Int) (fd:D) (fs:List Int) (b:Bool),(SV.imm fd).Is (.imm (yb fs))->zcb offC ygc person known (zju am fs)=b->
   zp Tryz.prog G37 19 [offC.sv,.imm (qj ygc),sS person,sI known,.agg [sI 8770,sI 0,sI 0,sI am,.imm fd,.imm yla]] (sB b):=fun person known am fd fs b h1 h2=>
  yfw (ykr person known _ b h2) (.cons (SV.Is.refl _) (.cons (SV.Is.refl _) (.cons (SV.Is.refl _) (.cons (SV.Is.refl _) (.cons (isL am fd fs h1) .nil)))))
 have r1:=rp ygb 8771 9600 (yb [1]) [1] true (SV.Is.refl _) ysu;have r2:=rp ygb 8771 9601 (yb [1]) [1] false (SV.Is.refl _) yqy;have r3:=rp ygb 8771 9600 yla [] false (SV.Is.nil 1) yqz;have r4:=rp ygb 8770 9600 (yb [1]) [1] false (SV.Is.refl _) ynr;have r5:=rp yuc 8771 9600 (yb [1]) [1] false (SV.Is.refl _) ysv;clear rp isL nilR;refine zg Tryz.func9 rfl (by rw [Tryz.ntmps9];simp) rfl rfl ?_;intro E hH hK;(refine ze ?_;conv=>whnf);refine zd rfl  c1 ?_;(refine zc ?_;conv=>whnf);refine zd rfl  c2 ?_;(refine zc ?_;conv=>whnf);refine zd rfl  c3 ?_;(refine zc ?_;conv=>whnf);refine zd rfl  c4 ?_;(refine zc ?_;conv=>whnf);(refine wd 2 mixed rfl ?_;refine zn [] (nx:=4) ?_;conv=>whnf);(refine ze ?_;conv=>whnf);refine zd rfl  a1 ?_;(refine zc ?_;conv=>whnf);refine zd rfl  a2 ?_;(refine zc ?_;conv=>whnf);refine zd rfl  a3 ?_;(refine zc ?_;conv=>whnf);refine zd rfl  r1 ?_;(refine zc ?_;conv=>whnf);refine zd rfl  r2 ?_;(refine zc ?_;conv=>whnf);refine zd rfl  r3 ?_;(refine zc ?_;conv=>whnf);refine zd rfl  r4 ?_;(refine zc ?_;conv=>whnf);refine zd rfl  r5 ?_;(refine zc ?_;conv=>whnf);exact hK _
variable (G:List (Nat × D))
theorem yra (c:Int):((zew c:Nat):Int)=if c.tmod 1073741789<0 then c.tmod 1073741789+1073741789 else c.tmod 1073741789:=by
 unfold zew;rcases Int.le_total 0 c with h|h
 ·rw [Int.tmod_eq_emod_of_nonneg h]
  split<;>omega
 ·obtain ⟨n,rfl⟩:∃n:Nat,c= -(n:Int):=⟨c.natAbs,by omega⟩
  rw [Int.neg_tmod,Int.tmod_eq_emod_of_nonneg (by omega)];split<;>omega
theorem yrb (c:Int): -1073741789<c.tmod 1073741789/\c.tmod 1073741789<1073741789:=by
 rcases Int.le_total 0 c with h|h
 ·rw [Int.tmod_eq_emod_of_nonneg h]
  omega
 ·obtain ⟨n,rfl⟩:∃n:Nat,c= -(n:Int):=⟨c.natAbs,by omega⟩
  rw [Int.neg_tmod,Int.tmod_eq_emod_of_nonneg (by omega)];omega
theorem zpw (c:Int):zp Tryz.prog G 59 [sI c] (sI (zew c)):=by
 have hv:=yra c;have hr:=yrb c;generalize zew c=v at hv ⊢;have hw:IntKind.i64.wrap (c.tmod 1073741789+1073741789)=c.tmod 1073741789+1073741789:=zu (by omega) (by omega);refine zg Tryz.func59 rfl (by rw [Tryz.ntmps59];simp) rfl rfl ?_;intro E hH hK;(refine ze ?_;conv=>whnf)
 repeat' ((with_reducible refine way ?_ ?_)<;>(intro h;conv=>whnf))
 ·rw [if_pos h] at hv
  rw [hw, <-hv];exact hK _
 ·rw [if_neg h] at hv
  rw [<-hv];exact hK _
theorem ynt {q e n:Nat} (h:q-2=e):1*n ^ e % q=yjy q n:=by
 unfold yjy;rw [h,Nat.one_mul]
theorem ynu (n:Nat) (hn:n<1073741789):zp Tryz.prog G 60 [sI n] (sI (yjy 1073741789 n)):=by
 obtain ⟨E0,hE0⟩:∃E0:Nat,E0=1073741787:=⟨_,rfl⟩;obtain ⟨R,hR⟩:∃R,R=yjy 1073741789 n:=⟨_,rfl⟩;have hR0:1*n ^ E0 % 1073741789=R:=by
  rw [hR];exact ynt (by rw [hE0])
 rw [<-hR];clear hR;have w0:(n:Int).tmod 1073741789=(n:Int):=by
  rw [Int.tmod_eq_emod_of_nonneg (by omega)];omega
 refine zg Tryz.func60 rfl (by rw [Tryz.ntmps60];simp) rfl rfl ?_;intro E hH hK;(refine ze ?_;conv=>whnf);rw [w0];refine zh [3,4,5] ?_;change SW E _ [(3,sI (1:Nat)),(4,sI n),(5,sI (1073741787:Nat))] [];rw [<-hE0];refine yi (σ:=Nat × Nat × Nat) (fun x=>[(3,sI x.1),(4,sI x.2.1),(5,sI x.2.2)]) (fun _=>[]) (fun x=>x.1*x.2.1 ^ x.2.2 % 1073741789=R/\x.1<1073741789/\x.2.1<1073741789/\x.2.2<2000000000) (fun x=>x.2.2) ?_ (1,n,E0)
  ⟨hR0,show 1<1073741789 by decide,hn,show E0<2000000000 by omega⟩
 clear hn hR0 w0 hE0;rintro ⟨r,b,e⟩ ⟨i1,i2,i3,i4⟩ ih;simp only at i1 i2 i3 i4;have hbb:b*b<9223372036854775808:=Nat.lt_of_le_of_lt (Nat.mul_le_mul (Nat.le_of_lt i3) (Nat.le_of_lt i3)) (by decide);have hrb:r*b<9223372036854775808:=Nat.lt_of_le_of_lt (Nat.mul_le_mul (Nat.le_of_lt i2) (Nat.le_of_lt i3)) (by decide);have w1:(IntKind.i64.wrap ((b:Int)*(b:Int))).tmod 1073741789=((b*b % 1073741789:Nat):Int):=by
  rw [zu (by rw [<-Int.natCast_mul];omega) (by rw [<-Int.natCast_mul];omega),Int.tmod_eq_emod_of_nonneg (by rw [<-Int.natCast_mul];omega)];rfl
 have w2:(IntKind.i64.wrap ((r:Int)*(b:Int))).tmod 1073741789=((r*b % 1073741789:Nat):Int):=by
  rw [zu (by rw [<-Int.natCast_mul];omega) (by rw [<-Int.natCast_mul];omega),Int.tmod_eq_emod_of_nonneg (by rw [<-Int.natCast_mul];omega)];rfl
 have w3:(e:Int).tmod 2=((e % 2:Nat):Int):=by
  rw [Int.tmod_eq_emod_of_nonneg (by omega)];rfl
 have w4:IntKind.i64.wrap ((e:Int).tdiv 2)=((e / 2:Nat):Int):=by
  rw [Int.tdiv_eq_ediv_of_nonneg (by omega),zu (by omega) (by omega)];rfl
 have hend:e=0->r=R:=fun h=>by rw [<-i1,h,Nat.pow_zero,Nat.mul_one];exact (Nat.mod_eq_of_lt i2).symm
 have hnext:∀r',r'=(if e % 2=1 then r*b % 1073741789 else r)->¬e=0->SW E _ [(3,sI r'),(4,sI (b*b % 1073741789:Nat)),(5,sI (e / 2:Nat))] []:=fun r' h h0=>by
  refine ih (r',b*b % 1073741789,e / 2) ⟨?_,?_,Nat.mod_lt _ (by decide),by simp only;omega⟩ (by simp only;omega)
  ·rw [<-i1,Nat.mul_mod, <-Nat.pow_mod, <-Nat.mul_mod, <-Nat.pow_two, <-Nat.pow_mul,h]
   split
   ·rw [Nat.mod_mul_mod,Nat.mul_assoc, <-Nat.pow_succ',Nat.succ_eq_add_one,show 2*(e / 2)+1=e by omega]
   ·rw [show 2*(e / 2)=e by omega]
  ·rw [h]
   split
   ·exact Nat.mod_lt _ (by decide)
   ·exact i2
 change SW E _ [(3,sI r),(4,sI b),(5,sI e)] [];(refine ze ?_;conv=>whnf)
 repeat' ((with_reducible refine way ?_ ?_)<;>(intro h;conv=>whnf))
 ·rw [w3] at h
  rw [w1,w2,w4];refine zh [3,4,5] ?_;exact hnext _ (by rw [if_pos (by omega)]) (by omega)
 ·rw [w3] at h
  rw [w1,w4];refine zh [3,4,5] ?_;exact hnext _ (by rw [if_neg (by omega)]) (by omega)
 ·have h0:e=0:=by omega
  rw [hend h0];exact hK _
theorem yks (b e:Nat) (hb:b<prm) (he:e<9223372036854775808):zp Tryz.prog G 61 [sI b,sI e] (sI (zjv b e)):=by
 unfold prm at hb;obtain ⟨R,hR⟩:∃R,R=zjv b e:=⟨_,rfl⟩;rw [<-hR];rw [zfx (by omega)] at hR;unfold prm at hR;refine zg Tryz.func61 rfl (by rw [Tryz.ntmps61];simp) rfl rfl ?_;intro E hH hK;(refine ze ?_;conv=>whnf)
 repeat' ((with_reducible refine way ?_ ?_)<;>(intro h;conv=>whnf))
 all_goals try (exfalso;omega)
 refine zh [0,1,5,6] ?_;change SW E _ [(0,sI b),(1,sI e),(5,sI (1:Nat)),(6,sI (62:Int))] [];refine yi (σ:=Nat × Nat) (fun x=>[(0,sI b),(1,sI e),(5,sI x.1),(6,sI ((x.2:Int)-1))]) (fun _=>[]) (fun x=>x.1=b ^ (e / 2 ^ x.2) % 2147483579/\x.2<=63) (fun x=>x.2) ?_ (1,63)
  ⟨by simp only;rw [Nat.div_eq_of_lt (show e<2 ^ 63 from he),Nat.pow_zero],Nat.le_refl _⟩
 rintro ⟨r,k⟩ ⟨i1,i2⟩ ih;simp only at i1 i2;have i3:r<2147483579:=by rw [i1];exact Nat.mod_lt _ (by decide)
 have hrr:r*r<9223372036854775808:=Nat.lt_of_le_of_lt (Nat.mul_le_mul (Nat.le_of_lt i3) (Nat.le_of_lt i3)) (by decide);have w1:(IntKind.i64.wrap ((r:Int)*(r:Int))).tmod 2147483579=((r*r % 2147483579:Nat):Int):=by
  rw [zu (by rw [<-Int.natCast_mul];omega) (by rw [<-Int.natCast_mul];omega),Int.tmod_eq_emod_of_nonneg (by rw [<-Int.natCast_mul];omega)];rfl
 have hsm:r*r % 2147483579<2147483579:=Nat.mod_lt _ (by decide);have hsb:(r*r % 2147483579)*b<9223372036854775808:=Nat.lt_of_le_of_lt (Nat.mul_le_mul (Nat.le_of_lt hsm) (Nat.le_of_lt hb)) (by decide);have w2:(IntKind.i64.wrap (((r*r % 2147483579:Nat):Int)*(b:Int))).tmod 2147483579=((r*r % 2147483579*b % 2147483579:Nat):Int):=by
  rw [zu (by rw [<-Int.natCast_mul];omega) (by rw [<-Int.natCast_mul];omega),Int.tmod_eq_emod_of_nonneg (by rw [<-Int.natCast_mul];omega)];rfl
 change SW E _ [(0,sI b),(1,sI e),(5,sI r),(6,sI ((k:Int)-1))] [];(refine zq [777,27] 1000 ?_;conv=>whnf)
 repeat' ((with_reducible refine way ?_ ?_)<;>(intro h;conv=>whnf))
 ·obtain ⟨k,rfl⟩:∃j,k=j+1:=⟨k-1,by omega⟩
  have ek:((k+1:Nat):Int)-1=(k:Int):=by omega
  have hdiv:e / 2 ^ k=2*(e / 2 ^ (k+1))+e / 2 ^ k % 2:=by
   rw [Nat.pow_succ, <-Nat.div_div_eq_div_mul];omega
  have hsq:r*r % 2147483579=b ^ (2*(e / 2 ^ (k+1))) % 2147483579:=by
   rw [i1, <-Nat.mul_mod, <-Nat.pow_add, <-Nat.two_mul]
  have hlt:e / 2 ^ k<9223372036854775808:=Nat.lt_of_le_of_lt (Nat.div_le_self _ _) he;have hsh:(e:Int).fdiv (2 ^ min ((k:Int)).toNat IntKind.i64.bits)=((e / 2 ^ k:Nat):Int):=by
   rw [Int.toNat_natCast,show min k IntKind.i64.bits=k from Nat.min_eq_left (show k<=64 by omega)];exact ydy e k
  have w3:=ytl (a:=e / 2 ^ k) hlt;have w5:IntKind.i64.wrap ((k:Int)-1)=(k:Int)-1:=zu (by omega) (by omega);have hnext:∀r',r'=b ^ (e / 2 ^ k) % 2147483579->SW E _ [(0,sI b),(1,sI e),(5,sI r'),(6,sI ((k:Int)-1))] []:=fun r' h=>ih (r',k) ⟨h,by simp only;omega⟩ (by simp only;omega)
  rw [ek,w1];refine zny rfl rfl rfl rfl rfl (by omega) ?_;rw [hsh];(refine zc ?_;conv=>whnf)
  repeat' ((with_reducible refine way ?_ ?_)<;>(intro h;conv=>whnf))
  ·rw [w3] at h
   rw [w2,w5];refine zh [0,1,5,6] ?_;refine hnext _ ?_;rw [hsq,Nat.mod_mul_mod, <-Nat.pow_succ]
   congr 2
   omega
  ·rw [w3] at h
   rw [w5];refine zh [0,1,5,6] ?_;refine hnext _ ?_;rw [hsq]
   congr 2
   omega
 ·have hk:k=0:=by omega
  subst hk;rw [Nat.pow_zero,Nat.div_one, <-hR] at i1;rw [i1];exact hK _
theorem zxx {n m:Nat} (hn:n<1073741789) (hm:m<1073741789):(IntKind.i64.wrap (IntKind.i64.wrap ((n:Int)-m)+1073741789)).tmod 1073741789=(((n+1073741789-m) % 1073741789:Nat):Int):=by
 rw [zu (c:=(n:Int)-m) (by omega) (by omega),zu (by omega) (by omega),Int.tmod_eq_emod_of_nonneg (by omega)];omega
theorem yrc {q n:Nat} (h:0<q):yjy q n<q:=Nat.mod_lt _ h
theorem ynv {n r m s:Nat} (hn:n<1073741789) (hm:m<1073741789) (hr:r<1073741789) (hs:s<1073741789) (h:4 ^ n*9 ^ r % 2147483579=4 ^ m*9 ^ s % 2147483579) (hne:n≠m):
  ∃x:Int,zp Tryz.prog G 17 [sI n,sI r,sI m,sI s] (.tup [sI x,sB true]):=by
 obtain ⟨hrs,hl⟩:=yqm zxk elm4 elm9 yuk hn hm hr hs h hne;have hD:=zxx hn hm;have hE:=zxx hs hr;have hE1:(s+1073741789-r) % 1073741789<1073741789:=Nat.mod_lt _ (by decide);have hD1:(n+1073741789-m) % 1073741789<1073741789:=Nat.mod_lt _ (by decide);generalize (n+1073741789-m) % 1073741789=D0 at hD hl hD1;generalize (s+1073741789-r) % 1073741789=E0 at hE hl hE1;have c1:=ynu G E0 hE1;have hI:yjy 1073741789 E0<1073741789:=yrc (by decide);generalize yjy 1073741789 E0=I at c1 hl hI;have hmul:D0*I<9223372036854775808:=Nat.lt_of_le_of_lt (Nat.mul_le_mul (Nat.le_of_lt hD1) (Nat.le_of_lt hI)) (by decide);have w1:(IntKind.i64.wrap ((D0:Int)*(I:Int))).tmod 1073741789=((D0*I % 1073741789:Nat):Int):=by
  rw [zu (by rw [<-Int.natCast_mul];omega) (by rw [<-Int.natCast_mul];omega),Int.tmod_eq_emod_of_nonneg (by rw [<-Int.natCast_mul];omega)];rfl
 have hx:D0*I % 1073741789<1073741789:=Nat.mod_lt _ (by decide);generalize D0*I % 1073741789=X at w1 hl hx;have c2:=yks G 4 X (by decide) (by omega);have h9:zjv 4 X=9:=by
  rw [zfx (by omega)];exact hl
 rw [h9] at c2;refine ⟨X,?_⟩;clear h hl h9 hmul;refine zg Tryz.func17 rfl (by rw [Tryz.ntmps17];simp) rfl rfl ?_;intro E hH hK;(refine ze ?_;conv=>whnf)
 repeat' ((with_reducible refine way ?_ ?_)<;>(intro h;conv=>whnf))
 all_goals try (exfalso;omega)
 rw [hD,hE];refine zd rfl  c1 ?_;(refine zc ?_;conv=>whnf);rw [w1];refine zd rfl  c2 ?_;(refine zc ?_;conv=>whnf);exact hK _
theorem yak (d:Disc) (hl:d.shown.length<=1000000000000000) (hb:0<=d.blind/\d.blind<1073741789) (hr:∀s∈d.shown,0<=s.blind/\s.blind<1073741789):zp Tryz.prog G 16 [d.sv] (.tup [sI (ysr d).1,sI (ysr d).2]):=by
 obtain ⟨person,month,root,commit,shown,hidden,blind,⟨index,chains,path⟩⟩:=d;simp only at hl hb hr;obtain ⟨T,hT⟩:∃T,T=zqp (zew hidden) blind shown:=⟨_,rfl⟩;show zp Tryz.prog G 16 [.agg [sS person,sI month,xm root,.imm (yv commit),.imm (zee shown),sI hidden,sI blind,sI index,.imm (zae chains),.imm (wu path)]] (.tup [sI (zqp (zew hidden) blind shown).1,sI (zqp (zew hidden) blind shown).2]);rw [<-hT];have v0:=zpw G hidden;have hv0:=zij hidden;generalize zew hidden=vh at v0 hv0 hT;have hml:(shown.map Shw.cells).length=shown.length:=by simp
 refine zg Tryz.func16 rfl (by rw [Tryz.ntmps16];simp) rfl rfl ?_;intro E hH hK;(refine ze ?_;conv=>whnf);(refine zx mixed rfl ?_;refine zf [] ?_;conv=>whnf);refine yg rfl  v0 ?_;(refine zf [] ?_;conv=>whnf);(refine ze ?_;conv=>whnf);refine zh [1,4,5,14,15,16] ?_;change SW E _ [(1,.ptr 0 0),(4,sI vh),(5,sI blind),(14,.imm (zee shown)),(15,sI (shown.map Shw.cells).length),(16,sI (0:Nat))] [.cells [sS person,sI month,xm root,.imm (yv commit),.imm (zee shown),sI hidden,sI blind,sI index,.imm (zae chains),.imm (wu path)]];refine zo shown (fun j (y:Int × Int)=>[(1,.ptr 0 0),(4,sI y.1),(5,sI y.2),(14,.imm (zee shown)),(15,sI (shown.map Shw.cells).length),(16,sI (j:Nat))]) (fun _ _=>[.cells [sS person,sI month,xm root,.imm (yv commit),.imm (zee shown),sI hidden,sI blind,sI index,.imm (zae chains),.imm (wu path)]])
  (fun done rest y=>T=zqp y.1 y.2 rest/\(0<=y.1/\y.1<1073741789)/\0<=y.2/\y.2<1073741789) (vh,blind) ⟨hT,by simp only;omega,hb⟩ ?_ ?_
 ·rintro ⟨v,b⟩ ⟨h1,_,_⟩
  have h1:T=(v,b):=h1;subst h1;(refine ze ?_;conv=>whnf)
  repeat' ((with_reducible refine way ?_ ?_)<;>(intro h;conv=>whnf))
  all_goals try (exfalso;omega)
  exact hK _
 ·rintro done s rest ⟨v,b⟩ hda hdl ⟨h1,h2,h3⟩ ih
  simp only at h1 h2 h3;have hs:(shown.map Shw.cells)[done.length]?=some s.cells:=by rw [hda];simp
  have hsb:=hr s (by rw [hda];simp);have v1:=zpw G s.cents;have hv1:=zij s.cents;rw [zqp] at h1;generalize zew s.cents=vc at v1 hv1 h1;have wnx:IntKind.i64.wrap ((done.length:Int)+1)=((done.length+1:Nat):Int):=zj (by omega);have w1:(IntKind.i64.wrap (v+(vc:Int))).tmod 1073741789=(v+vc) % 1073741789:=by rw [zu (by omega) (by omega),Int.tmod_eq_emod_of_nonneg (by omega)]
  have w2:(IntKind.i64.wrap (b+s.blind)).tmod 1073741789=(b+s.blind) % 1073741789:=by rw [zu (by omega) (by omega),Int.tmod_eq_emod_of_nonneg (by omega)]
  have hnx:=ih ((v+vc) % 1073741789,(b+s.blind) % 1073741789) ⟨h1,by simp only;omega,by simp only;omega⟩;clear ih;simp only at hnx;obtain ⟨ix,la,ce,re,bl,pa⟩:=s;(refine ze ?_;conv=>whnf)
  repeat' ((with_reducible refine way ?_ ?_)<;>(intro h;conv=>whnf))
  all_goals try (exfalso;omega)
  refine zi (i:=done.length) (row:=[dI ix,zex la,dI ce,zex re,dI bl,wu pa]) rfl rfl hs ?_;(refine zc ?_;conv=>whnf);(refine zx mixed rfl ?_;refine zf [] ?_;conv=>whnf);refine yg rfl  v1 ?_;(refine zf [] ?_;conv=>whnf);(refine ze ?_;conv=>whnf);rw [wnx,w1,w2];exact yw [1,4,5,14,15,16] 1 (by rw [hH];exact Nat.zero_le _) (by show 1<=2;decide) rfl rfl hnx
theorem zpx {m c b:Int} (h:xt m c b=true):0<=b/\b<1073741789:=by
 unfold xt at h;rw [Bool.and_eq_true,jl] at h;exact ⟨h.1.2.2.1,h.1.2.2.2⟩
theorem zsg (G:List (Nat × D)) {key:Nat} {height:Int} {d:Disc} (h:accOK key height d=true) (hd:DFit d):zp Tryz.prog G 16 [d.sv] (.tup [sI (ysr d).1,sI (ysr d).2]):=
 yak G d hd.shown (zpx (zba h).2.2.1) (fun _ hs=>zpx (zuc h hs).opens)
theorem sumsLaw_spec (key:Nat) (height:Int) (a b:Disc) (ha:DFit a) (hb:DFit b):
  zp Tryz.prog G37 4 [xm key,sI height,a.sv,b.sv] (sB true):=by
 have l1:=zrb G37 height a ha.shown;have l2:=zrb G37 height b hb.shown;have c1:=zcr zcv key height a ha;have c2:=zcr zcv key height b hb;have c3:=ztj G37 a.commit b.commit (Nat.le_trans ha.commit (by decide));have key1:decide (a.commit=b.commit)=true->accOK key height a=true->accOK key height b=true->∃N B M S:Nat,zp Tryz.prog G37 16 [a.sv] (.tup [sI N,sI B])/\zp Tryz.prog G37 16 [b.sv] (.tup [sI M,sI S])/\
   (N≠M->∃x:Int,zp Tryz.prog G37 17 [sI N,sI B,sI M,sI S] (.tup [sI x,sB true])):=fun h1 h2 h3=>by
  have t1:=zsg G37 h2 ha;have t2:=zsg G37 h3 hb;obtain ⟨N,B,e1,n1,b1,p1⟩:=ykf h2;obtain ⟨M,S,e2,n2,b2,p2⟩:=ykf h3;rw [e1] at t1;rw [e2] at t2;rw [of_decide_eq_true h1] at p1;exact ⟨N,B,M,S,t1,t2,fun hne=>ynv G37 n1 n2 b1 b2 (p1.trans p2.symm) hne⟩
 generalize zti height a=o1 at l1;generalize zti height b=o2 at l2;generalize decide (a.commit=b.commit)=o3 at c3 key1;generalize accOK key height a=o4 at c1 key1;generalize accOK key height b=o5 at c2 key1;obtain ⟨person,month,root,commit,shown,hidden,blind,⟨index,chains,path⟩⟩:=a;obtain ⟨person',month',root',commit',shown',hidden',blind',⟨index',chains',path'⟩⟩:=b;clear ha hb;refine zg Tryz.func4 rfl (by rw [Tryz.ntmps4];simp) rfl rfl ?_;intro E hH hK;(refine ze ?_;conv=>whnf);refine zd rfl  ysw ?_;(refine zc ?_;conv=>whnf);refine zd rfl  l1 ?_;cases o1 with
 |false=>
  (refine zc ?_;conv=>whnf);exact hK _
 |true=>
 (refine zc ?_;conv=>whnf);refine zd rfl  l2 ?_;cases o2 with
 |false=>
  (refine zc ?_;conv=>whnf);exact hK _
 |true=>
 (refine zc ?_;conv=>whnf);refine zd rfl  c3 ?_;cases o3 with
 |false=>
  (refine zc ?_;conv=>whnf);exact hK _
 |true=>
 (refine zc ?_;conv=>whnf);refine zd rfl  c1 ?_;cases o4 with
 |false=>
  (refine zc ?_;conv=>whnf);exact hK _
 |true=>
 (refine zc ?_;conv=>whnf);refine zd rfl  c2 ?_;cases o5 with
 |false=>
  (refine zc ?_;conv=>whnf);exact hK _
 |true=>
 obtain ⟨N,B,M,S,t1,t2,hlog⟩:=key1 rfl rfl rfl;(refine zc ?_;conv=>whnf);refine zd rfl  t1 ?_;(refine zc ?_;conv=>whnf);refine zd rfl  t2 ?_;(refine zc ?_;conv=>whnf)
 repeat' ((with_reducible refine way ?_ ?_)<;>(intro h;conv=>whnf))
 ·exact hK _
 ·obtain ⟨x,hx⟩:=hlog (by omega)
  refine zd rfl  hx ?_;(refine zc ?_;conv=>whnf);exact hK _
end Go.Proofs.YtjnddlifnkgncaaGreatDoor