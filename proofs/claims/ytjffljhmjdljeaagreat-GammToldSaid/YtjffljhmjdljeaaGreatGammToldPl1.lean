/- Plain theory of the numbers that the statement speaks of: printed from the proofs' own texts, as far as this statement needs it. -/
import Derived.Test.YtjffljhmjdljeaaGreatGammToldPl0
set_option linter.unusedVariables false
set_option linter.unusedSimpArgs false
namespace Go.Proofs.YtjffljhmjdljeaaGreat.Gen
open Go Go.Abs Go.Plain
open Go.IntKind (i64 u64 u32)
theorem zzj (neg:Bool) {n:Nat} (hsz:SZ n) {e:Int} (he : -1152921504606846976≤e∧e≤1152921504606846976):zay ⟨neg,digs n⟩ e=some (dy (nrm (sg neg n) e)):=by
 have h1:=ziE (z:=sg neg n) (by rw [zbm]; exact hsz) he
 rw [zlx] at h1
 have hm:qE neg (digs n)=qE (decide (sg neg n<0)) (digs n):=by
  rw [Qt _ hsz,Qt _ hsz]
  have:=QS (sg neg n)
  rw [zbm] at this
  rw [this]
 rw [← h1]
 unfold zay
 simp only [hm]
theorem zo1 {d:D} (hs:SZ d.m.natAbs) (he : -1152921504606846976≤d.e∧d.e≤1152921504606846976):zaI (dy d)=some (d.e+(blen d.m.natAbs:Nat)):=by
 have hl:=zx hs
 unfold zaI dy iOf
 simp only
 rw [zgj (dgd _) wa,dvd]
 simp only [obn]
 unfold SZ at hs
 rw [w64 wa wa]
theorem zo2 {d:D} (hs:SZ d.m.natAbs) (he : -1152921504606846976≤d.e∧d.e≤1152921504606846976):zcC (dy d)=some (inR d):=by
 have hl:=zx hs
 have h1:=zah d.m
 have hM:(dy d).M=iOf d.m:=rfl
 unfold zcC zfE inR
 rw [hM]
 by_cases h0:d.m=0
 ·rw [wc (h1.2 h0)]; simp [h0]
 ·rw [we (fun h=>h0 (h1.1 h)),zo1 hs he]
  have hb:ZU (iOf d.m).Mag=some ((blen d.m.natAbs:Nat):Int):=by
   show ZU (digs d.m.natAbs)=_
   rw [zgj (dgd _) wa,dvd]
  have hde:(dy d).E=d.e:=rfl
  rw [hb,hde]
  simp only [obn]
  have e0:(d.m == 0)=false:=by simp [h0]
  rw [e0,Bool.false_or]
  by_cases c1:d.e+(blen d.m.natAbs:Nat) ≥ -65536
  ·rw [wc c1]
   by_cases c2:d.e+(blen d.m.natAbs:Nat)≤65536
   ·rw [wc c2]
    by_cases c3:d.e ≥ -131072
    ·rw [wc c3]
     by_cases c4:d.e≤131072
     ·rw [wc c4]
      congr 1
      apply decide_eq_decide.2
      omega
     ·rw [we c4]; congr 1; symm; apply decide_eq_false; omega
    ·rw [we c3]; congr 1; symm; apply decide_eq_false; omega
   ·rw [we c2]; congr 1; symm; apply decide_eq_false; omega
  ·rw [we c1]; congr 1; symm; apply decide_eq_false; omega
theorem ziF {d:D} (h:TD d):QM (dy d)=some (dy (qr d).1,(qr d).2):=by
 unfold QM
 rw [zo2 h.1 h.2]
 simp only [obn]
 unfold qr
 cases inR d with
 | true=>rfl
 | false=>simp [qp]
theorem zzk {m:Int} (hm:SZ m.natAbs) {e:Int} (he : -100000≤e∧e≤100000):zhU (iOf m) e=some (dy (zcU m e).1,(zcU m e).2):=by
 unfold zhU
 rw [we wa,show decide (e>100000)=false by simp; omega]
 unfold zoa
 rw [we wb,ziE hm wa]
 simp only [obn]
 show ((zcC (dy (nrm m e))).bind _)=_
 have ht:=ziA hm (e:=e) wa
 rw [zo2 ht.1 ht.2]
 simp only [obn]
 unfold zcU
 cases inR (nrm m e) with
 | true=>rfl
 | false=>simp [qp]
theorem zzl {a:za} (h:a.Mag.length≤274877906944):zhP a=some (zaS a):=by
 unfold zhP zfw zaS
 by_cases h0:a.Mag.length=0
 ·rw [wc wa,wc h0]
  cases hn:a.Neg with
  | false=>rw [wc wb]; rfl
  | true=>rw [we wb,we wa]; rfl
 ·have hw:i64.wrap ((a.Mag.length:Int)-1)=((a.Mag.length-1:Nat):Int):=by rw [w64]<;>omega
  rw [we wa,we h0,hw,wc wa,wc wa,kz,Int.toNat_natCast]
theorem zsQ {x:AD} (hd:Dig x.M.Mag) (hl:x.M.Mag.length≤274877906944):qB x=some (zbZ x):=by
 unfold qB zkJ zbZ
 rw [zzl hl]
 simp only [obn]
 cases hr:zaS x.M with
 | false=>simp
 | true=>
  rw [we wb]
  simp only [Bool.true_and]
  by_cases h0:x.M.Mag.length=0
  ·rw [wc wa,wc h0]
  ·rw [we wa,we h0,wc wa,kz]
   obtain ⟨d,hd1,hd2⟩:=zL hd 0
   rw [hd1,show (2:Int)=((2:Nat):Int) by rfl,zlu,Int.toNat_natCast,Nat.testBit_zero]
   by_cases h1:d % 2=1
   ·rw [wc wa]
    by_cases h2:x.E ≥ -131072
    ·rw [wc h2]
     simp [h1]
     intro _; omega
    ·rw [we h2]
     simp [h1]; omega
   ·rw [we wa]
    simp [h1]
theorem Za {d:D} (h:okD d) (hs:SZ d.m.natAbs):qB (dy d)=some true:=by
 rw [zsQ (dgd _) (by have:=zx hs; show (digs d.m.natAbs).length≤_; omega),zst h]
theorem zsR {x y:Int} (hx:SZ x.natAbs) (hy:SZ y.natAbs):zfy (iOf x) (iOf y)=some (sgc x y):=by
 have h1:=zx hx
 have h2:=zx hy
 unfold zfy
 rw [ziB hx,ziB hy]
 simp only [obn]
 unfold zn7 zn6
 have eN:∀ z:Int,(iOf z).Neg=decide (z<0):=fun _=>rfl
 have eM:∀ z:Int,(iOf z).Mag=digs z.natAbs:=fun _=>rfl
 rw [eN,eN,eM,eM]
 simp only [zgk (dgd x.natAbs) (dgd y.natAbs) wa wa,zgk (dgd y.natAbs) (dgd x.natAbs) wa wa,dvd,obn]
 unfold sgc
 by_cases hxn:x<0<;>by_cases hyn:y<0<;>simp only [hxn,hyn,decide_true,decide_false,Bool.not_false,Bool.not_true,if_true,if_false,Bool.false_eq_true,not_true_eq_false,not_false_eq_true]
 ·congr 1
  by_cases h:x<y
  ·rw [wc h,wc wa]
  ·rw [we h,we wa]
   by_cases h':y<x
   ·rw [wc h',wc wa]
   ·rw [we h',we wa]
 ·rw [wc wa]
 ·rw [we wa,wc wa]
 ·congr 1
  by_cases h:x<y
  ·rw [wc h,wc wa]
  ·rw [we h,we wa]
   by_cases h':y<x
   ·rw [wc h',wc wa]
   ·rw [we h',we wa]
theorem zzm {a:za} {k:Nat} : ∀ (c v n:Nat),n≤100000*c→blen v+n≤k→k≤1048576→∀ f,c<f→zfB a f (n:Int) (digs v)=some (iOf (sg a.Neg (v*2 ^ n))):=by
 intro c
 induction c with
 | zero=>
  intro v n hn hv hk f hf
  obtain ⟨f,rfl⟩:∃ k,f=k+1:=⟨f-1,wa⟩
  have h0:n=0:=wa
  subst h0
  rw [zfB,we wa]
  unfold zn8
  rw [Qt _ (by unfold SZ; omega)]
  simp
 | succ c ih=>
  intro v n hn hv hk f hf
  obtain ⟨f,rfl⟩:∃ k,f=k+1:=⟨f-1,wa⟩
  have hl:=zx (n:=v) (by unfold SZ; omega)
  rw [zfB]
  by_cases h:n=0
  ·subst h
   rw [we wa]
   unfold zn8
   rw [Qt _ (by unfold SZ; omega)]
   simp
  ·rw [wc wa]
   have hm:mn (n:Int) 100000=((min n 100000:Nat):Int):=by unfold mn; split<;>omega
   rw [hm,ziD (dgd v) wa wa,dvd]
   simp only [obn]
   rw [show (n:Int)-((min n 100000:Nat):Int)=((n-min n 100000:Nat):Int) by omega,zW wa]
   have hvb:blen (v*2 ^ min n 100000)+(n-min n 100000)≤k:=by
    by_cases h0:v=0
    ·subst h0; rw [Nat.zero_mul,zag]; omega
    ·rw [zcO h0]; omega
   have e:=ih (v*2 ^ min n 100000) (n-min n 100000) wa hvb hk f wa
   rw [Nat.mul_assoc,← Nat.pow_add,show min n 100000+(n-min n 100000)=n by omega] at e
   exact e
theorem zlG {z:Int} {n:Nat} (h:blen z.natAbs+n≤1048576):zcB (iOf z) (n:Int)=some (iOf (z*2 ^ n)):=by
 unfold zcB
 have:=zzm (a:=iOf z) 12 z.natAbs n wa h (Nat.le_refl _) fuel (by unfold fuel; omega)
 refine this.trans ?_
 congr 2
 show sg (decide (z<0)) (z.natAbs*2 ^ n)=_
 rw [Nat.mul_comm,zgd,QS,Int.mul_comm]
 simp
def liftD (x y:D):Int × Int × Int:=if x.m=0 then (0,y.m,y.e) else if y.m=0 then (x.m,0,x.e) else if x.e>y.e then (x.m*2 ^ (x.e-y.e).toNat,y.m,y.e) else (x.m,y.m*2 ^ (y.e-x.e).toNat,x.e)
theorem zsS {x y:D} (hx:WD x) (hy:WD y):zfC (dy x) (dy y)=some (iOf (liftD x y).1,iOf (liftD x y).2.1,(liftD x y).2.2):=by
 have ex:=hx.e
 have ey:=hy.e
 have bx:=hx.2
 have b_y:=hy.2
 have h1:=zah x.m
 have h2:=zah y.m
 have hM:∀ d:D,(dy d).M=iOf d.m:=fun _=>rfl
 have hE:∀ d:D,(dy d).E=d.e:=fun _=>rfl
 have i0:(⟨false,[]⟩:za)=iOf 0:=by simp [iOf,qJ]
 unfold zfC liftD
 rw [hM,hM,hE,hE]
 by_cases hx0:x.m=0
 ·rw [wc (h1.2 hx0),wc hx0,i0]
 ·rw [we (fun h=>hx0 (h1.1 h)),we hx0]
  by_cases hy0:y.m=0
  ·rw [wc (h2.2 hy0),wc hy0,i0]
  ·rw [we (fun h=>hy0 (h2.1 h)),we hy0]
   by_cases h:x.e>y.e
   ·have hw:i64.wrap (x.e-y.e)=((x.e-y.e).toNat:Int):=by rw [w64]<;>omega
    rw [wc h,wc h,hw,zlG wa]
    rfl
   ·have hw:i64.wrap (y.e-x.e)=((y.e-x.e).toNat:Int):=by rw [w64]<;>omega
    rw [we h,we h,hw,zlG wa]
    rfl
theorem zsT {x y:D} (hx:WD x) (hy:WD y):blen (liftD x y).1.natAbs≤524288∧blen (liftD x y).2.1.natAbs≤524288∧-131072≤(liftD x y).2.2∧(liftD x y).2.2≤131072:=by
 have ex:=hx.e
 have ey:=hy.e
 have bx:=hx.2
 have b_y:=hy.2
 have b1:=zlB x.m (x.e-y.e).toNat
 have b2:=zlB y.m (y.e-x.e).toNat
 unfold liftD
 split
 ·simp [zag]; omega
 ·split
  ·simp [zag]; omega
  ·split
   ·simp only; omega
   ·simp only; omega
theorem zzn (x y:D):val x=((liftD x y).1:Rat)*p2 (liftD x y).2.2∧val y=((liftD x y).2.1:Rat)*p2 (liftD x y).2.2:=by
 unfold liftD
 split
 ·rename_i h; exact ⟨by rw [QT h]; simp,rfl⟩
 ·split
  ·rename_i h; exact ⟨rfl,by rw [QT h]; simp⟩
  ·split
   ·refine ⟨?_,rfl⟩
    simp only
    unfold val
    rw [zcP (x:=x.e) (y:=y.e) wa,Rat.intCast_mul]; grind
   ·refine ⟨rfl,?_⟩
    simp only
    unfold val
    rw [zcP (x:=y.e) (y:=x.e) wa,Rat.intCast_mul]; grind
theorem zzo {a b p:Rat} (hp:0<p):a*p<b*p↔a<b:=by
 constructor
 ·intro h
  by_cases h':a<b
  ·exact h'
  ·have:=Rat.mul_le_mul_of_nonneg_right (show b≤a by grind) (Rat.le_of_lt hp)
   grind
 ·intro h; exact Rat.mul_lt_mul_of_pos_right h hp
theorem zzp (x y:D):sgc (liftD x y).1 (liftD x y).2.1=zp x y:=by
 obtain ⟨h1,h2⟩:=zzn x y
 rw [zbY,h1,h2]
 generalize (liftD x y).1=a
 generalize (liftD x y).2.1=b
 have hp:=zb (liftD x y).2.2
 simp only [zzo hp]
 unfold sgc
 have e1:(a:Rat)<(b:Rat)↔a<b:=by exact_mod_cast Iff.rfl
 have e2:(b:Rat)<(a:Rat)↔b<a:=by exact_mod_cast Iff.rfl
 by_cases h3:a<b
 ·rw [wc h3,wc (e1.2 h3)]
 ·rw [we h3,we (fun h=>h3 (e1.1 h))]
  by_cases h4:b<a
  ·rw [wc h4,wc (e2.2 h4)]
  ·rw [we h4,we (fun h=>h4 (e2.1 h))]
theorem zzq {x y:D} (h:(x.m<0↔¬y.m<0)∨x.m=0∨y.m=0):sgc x.m y.m=zp x y:=by
 have n1:=zel x
 have n2:=zel y
 have p1:=zge x
 have p2:=zge y
 have z1:=zem x
 have z2:=zem y
 rw [zbY]
 unfold sgc
 rcases (show x.m<0∨x.m=0∨0<x.m by omega) with h1 | h1 | h1<;>rcases (show y.m<0∨y.m=0∨0<y.m by omega) with h2 | h2 | h2
 ·omega
 ·have a1:=n1.2 h1; have a2:=z2.2 h2
  rw [wc wa,wc (by grind)]
 ·have a1:=n1.2 h1; have a2:=p2.2 h2
  rw [wc wa,wc (by grind)]
 ·have a1:=z1.2 h1; have a2:=n2.2 h2
  rw [we wa,wc wa,we (by grind),wc (by grind)]
 ·have a1:=z1.2 h1; have a2:=z2.2 h2
  rw [we wa,we wa,we (by grind),we (by grind)]
 ·have a1:=z1.2 h1; have a2:=p2.2 h2
  rw [wc wa,wc (by grind)]
 ·have a1:=p1.2 h1; have a2:=n2.2 h2
  rw [we wa,wc wa,we (by grind),wc (by grind)]
 ·have a1:=p1.2 h1; have a2:=z2.2 h2
  rw [we wa,wc wa,we (by grind),wc (by grind)]
 ·omega
theorem zb2 {x y:D} (hx:WD x) (hy:WD y):zaa (dy x) (dy y)=some (zp x y):=by
 have ex:=hx.e
 have ey:=hy.e
 have bx:=hx.sz
 have b_y:=hy.sz
 have m1:=zah x.m
 have m2:=zah y.m
 have hN:∀ d:D,(dy d).M.Neg=decide (d.m<0):=fun _=>rfl
 have hM:∀ d:D,(dy d).M=iOf d.m:=fun _=>rfl
 unfold zaa zn9
 rw [Za hx.1 hx.sz,Za hy.1 hy.sz]
 simp only [obn]
 rw [we wb,we wb]
 have j2t:(x.m<0↔¬y.m<0)∨x.m=0∨y.m=0→zfD (dy x) (dy y) true=some (zp x y):=by
  intro h
  unfold zfD
  rw [wc rfl,hM,hM,zsR bx b_y]
  simp only [obn]
  rw [zzq h]
 rw [hN,hN]
 by_cases hs:decide (x.m<0)=decide (y.m<0)
 ·rw [we (by simp [hs]),hM,hM]
  by_cases h1:x.m=0
  ·rw [wc (m1.2 h1)]; exact j2t (Or.inr (Or.inl h1))
  ·rw [we (fun h=>h1 (m1.1 h))]
   by_cases h2:y.m=0
   ·rw [show ((((iOf y.m).Mag.length:Nat):Int) == 0)=true by rw [m2.2 h2]; rfl]; exact j2t (Or.inr (Or.inr h2))
   ·rw [show ((((iOf y.m).Mag.length:Nat):Int) == 0)=false by rw [beq_eq_false_iff_ne]; exact fun h=>h2 (m2.1 h)]
    have hs':x.m<0↔y.m<0:=decide_eq_decide.1 hs
    unfold zfD
    rw [we wb,zo1 bx wa,zo1 b_y wa]
    simp only [obn]
    by_cases hz:x.e+(blen x.m.natAbs:Nat)=y.e+(blen y.m.natAbs:Nat)
    ·rw [we (by simpa using hz),zsS hx hy]
     simp only [obn]
     obtain ⟨l1,l2,-⟩:=zsT hx hy
     rw [zsR (by unfold SZ; omega) (by unfold SZ; omega)]
     simp only [obn]
     rw [zzp]
    ·rw [wc hz,hN]
     rw [zbY]
     have nn:∀ d:D,d.m<0→0<(negD d).m:=fun d h=>by unfold negD; simp only; omega
     have na:∀ d:D,(negD d).m.natAbs=d.m.natAbs:=fun d=>by unfold negD; simp
     have ne:∀ d:D,(negD d).e=d.e:=fun d=>rfl
     rcases (show x.e+(blen x.m.natAbs:Nat)<y.e+(blen y.m.natAbs:Nat)∨y.e+(blen y.m.natAbs:Nat)<x.e+(blen x.m.natAbs:Nat) by omega) with hlt | hlt
     ·by_cases hneg:x.m<0
      ·have hv:=zcR (x:=negD x) (y:=negD y) (nn _ hneg) (nn _ (hs'.1 hneg)) (by rw [na,na,ne,ne]; exact hlt)
       rw [qK,qK] at hv
       rw [wc (by simp [hlt,hneg]),we (by grind),wc (by grind)]
      ·have hv:=zcR (x:=x) (y:=y) wa wa hlt
       rw [we (by simp [hlt]; omega),wc hv]
     ·by_cases hneg:x.m<0
      ·have hv:=zcR (x:=negD y) (y:=negD x) (nn _ (hs'.1 hneg)) (nn _ hneg) (by rw [na,na,ne,ne]; exact hlt)
       rw [qK,qK] at hv
       rw [we (by simp [hneg]; omega),wc (by grind)]
      ·have hv:=zcR (x:=y) (y:=x) wa wa hlt
       rw [wc (by simp; omega),we (by grind),wc hv]
 ·rw [wc (by simpa using hs)]
  exact j2t (Or.inl (by
   by_cases h1:x.m<0<;>by_cases h2:y.m<0<;>simp [h1,h2] at hs ⊢))
theorem zzr {a b:za} (hl:a.Mag.length=b.Mag.length) (hs:a.Mag.length≤1099511627776):∀ (r i:Nat),i+r=a.Mag.length→a.Mag.take i=b.Mag.take i→∀ f,r<f→zfT a b f (i:Int)=some (decide (a.Mag=b.Mag)):=by
 intro r
 induction r with
 | zero=>
  intro i hi ht f hf
  obtain ⟨f,rfl⟩:∃ k,f=k+1:=⟨f-1,wa⟩
  rw [List.take_of_length_le wa,List.take_of_length_le wa] at ht
  rw [zfT,we wa]
  simp [zrP,ht]
 | succ r ih=>
  intro i hi ht f hf
  obtain ⟨f,rfl⟩:∃ k,f=k+1:=⟨f-1,wa⟩
  rw [zfT,wc wa,wc wa,wc wa,kz]
  simp only [Int.toNat_natCast]
  by_cases h:a.Mag.getD i 0=b.Mag.getD i 0
  ·rw [we (by simpa using h),show (i:Int)+1=((i+1:Nat):Int) by omega,zW wa]
   refine ih (i+1) wa ?_ f wa
   rw [List.take_succ_eq_append_getElem wa,List.take_succ_eq_append_getElem wa,ht]
   rw [List.getD_eq_getElem?_getD,List.getD_eq_getElem?_getD,List.getElem?_eq_getElem (show i<a.Mag.length by omega),List.getElem?_eq_getElem (show i<b.Mag.length by omega),Option.getD_some,Option.getD_some] at h
   rw [h]
  ·rw [wc h]
   congr 1; symm; apply decide_eq_false
   intro he; rw [he] at h; exact h rfl
theorem zzs {x y:Int} (h:iOf x=iOf y):x=y:=by
 have h1:sg (iOf x).Neg (dval (iOf x).Mag)=x:=by unfold iOf; simp only; rw [dvd,QS]
 have h2:sg (iOf y).Neg (dval (iOf y).Mag)=y:=by unfold iOf; simp only; rw [dvd,QS]
 rw [← h1,← h2,h]
theorem zzt {x y:Int} (hx:SZ x.natAbs):zif (iOf x) (iOf y)=some (decide (x=y)):=by
 have h1:=zx hx
 unfold zif zos
 by_cases hn:(iOf x).Neg=(iOf y).Neg
 ·rw [we (by simp [hn])]
  by_cases hl:(iOf x).Mag.length=(iOf y).Mag.length
  ·have hlen:(iOf x).Mag.length=(digs x.natAbs).length:=rfl
   have e:=zzr hl wa (iOf x).Mag.length 0 wa wb fuel (by unfold fuel; omega)
   rw [we (by simp [hl])]
   refine e.trans ?_
   congr 1
   apply decide_eq_decide.2
   constructor
   ·intro h
    apply zzs
    have:∀ a b:za,a.Neg=b.Neg→a.Mag=b.Mag→a=b:=fun a b h1 h2=>by cases a; cases b; simp only at h1 h2; rw [h1,h2]
    exact this _ _ hn h
   ·rintro rfl; rfl
  ·rw [wc (by simp; omega)]
   congr 1; symm; apply decide_eq_false
   rintro rfl; exact hl rfl
 ·rw [wc (by simpa using hn),wc rfl]
  congr 1; symm; apply decide_eq_false
  rintro rfl; exact hn rfl
theorem zsU {x y:D} (hx:SZ x.m.natAbs):zfU (dy x) (dy y)=some (decide (x=y)):=by
 unfold zfU zot
 have hM:∀ d:D,(dy d).M=iOf d.m:=fun _=>rfl
 have hE:∀ d:D,(dy d).E=d.e:=fun _=>rfl
 rw [hM,hM,hE,hE,zzt hx]
 have ext:x=y↔x.m=y.m∧x.e=y.e:=by
  constructor
  ·rintro rfl; exact ⟨rfl,rfl⟩
  ·intro h; cases x; cases y; simp only at h; rw [h.1,h.2]
 by_cases h:x.e=y.e
 ·rw [wc h]
  simp only [obn]
  congr 1
  apply decide_eq_decide.2
  rw [ext]; simp [h]
 ·rw [we h]
  congr 1; symm; apply decide_eq_false
  rintro rfl; exact h rfl
structure I where
 lo:D
 hi:D
def zI:I:=⟨zD,zD⟩
def iv (a:I):AI:=⟨dy a.lo,dy a.hi⟩
def okI (a:I):Prop:=WD a.lo∧WD a.hi∧val a.lo≤val a.hi
theorem zw:iv zI=⟨⟨⟨false,[]⟩,0⟩,⟨⟨false,[]⟩,0⟩⟩:=by unfold iv zI; simp only [qp]
theorem zsV:okI zI:=⟨qj,qj,Rat.le_refl⟩
theorem ziG (x:AD):(⟨x.M,x.E⟩:AD)=x:=rfl
theorem zsW (x:AI):(⟨⟨x.Lo.M,x.Lo.E⟩,⟨x.Hi.M,x.Hi.E⟩⟩:AI)=x:=rfl
theorem zM (a:I):(iv a).Lo=dy a.lo:=rfl
theorem zR (a:I):(iv a).Hi=dy a.hi:=rfl
def zo {α:Type} (r:D × Int) (z:α) (f:D→α × Int):α × Int:=if r.2=0 then f r.1 else (z,r.2)
def st {α:Type} (e:Int) (z:α) (r:α × Int):α × Int:=if e=0 then r else (z,e)
theorem zeo {a:I} (h:okI a):QJ (iv a)=some true:=by
 obtain ⟨h1,h2,h3⟩:=h
 unfold QJ zhq
 rw [zM,zR,ZX h1.1 h1.sz]
 simp only [obn,if_true]
 rw [ZX h2.1 h2.sz]
 simp only [obn,if_true]
 rw [Ze h1 h2]
 simp only [obn]
 congr 1
 exact decide_eq_true ((zcQ _ _).2 h3)
def hasI (a:I) (x:D):Bool:=decide (zp a.lo x≤0) && decide (zp x a.hi≤0)
theorem zbq (a:I) (x:D):hasI a x=true↔val a.lo≤val x∧val x≤val a.hi:=by
 unfold hasI
 rw [Bool.and_eq_true,decide_eq_true_iff,decide_eq_true_iff,zcQ,zcQ]
theorem zo3 {a:I} (h:okI a) {x:D} (hx:WD x):zdP (iv a) (dy x)=some (hasI a x):=by
 unfold zdP zhw
 rw [zeo h]
 simp only [obn,if_true]
 rw [ZX hx.1 hx.sz]
 simp only [obn,if_true]
 rw [zM,zR,Ze h.1 hx,Ze hx h.2.1]
 simp only [obn]
 unfold hasI
 by_cases h1:zp a.lo x≤0
 ·rw [wc h1,decide_eq_true h1,Bool.true_and]
 ·rw [we h1,decide_eq_false h1,Bool.false_and]
def inI (a b:I):Bool:=hasI b a.lo && hasI b a.hi
theorem zzu {a b:I} (ha:okI a) (hb:okI b):zfg (iv a) (iv b)=some (inI a b):=by
 unfold zfg zkq
 rw [zeo ha]
 simp only [obn,if_true]
 rw [zM,zR,zo3 hb ha.1,zo3 hb ha.2.1]
 simp only [obn]
 unfold inI
 cases hasI b a.lo<;>simp
theorem zsX (x e p:Int):zdJ x e p=some (if e=0 then (x == 0,x) else (false,e)):=by
 unfold zdJ znI
 by_cases h:e=0
 ·rw [wc h,wc h]
 ·rw [we h,we h]
  have:(e == 0)=false:=by simpa using h
  rw [this]
theorem zsY (l:List AI) (p e:Int) (i n:Nat) (hi:l.length≤i):za6 l p (n+1) (i:Int) e=some (e == 0,e):=by
 rw [za6,we wa]; rfl
theorem zo4 (l:List AI) (p e:Int) (i n:Nat) (hi:i<l.length) (hi':i≤1000) (hr:QJ (l.getD i zAI)=some true):za6 l p (n+1) (i:Int) e=za6 l p n ((i+1:Nat):Int) e:=by
 rw [za6,wc wa,wc wa]
 simp only [Int.toNat_natCast,zsW]
 rw [hr]
 simp only [obn]
 rw [we wb]
 unfold znJ
 rw [we wb,show ((i:Int)+1)=((i+1:Nat):Int) by omega,zW wa]
theorem ziH {a:I} (ha:okI a) (e p:Int):ZS [iv a] e p=some (e == 0,e):=by
 unfold ZS
 obtain ⟨f,hf⟩:=zai
 rw [hf]
 exact (zo4 [iv a] p e 0 (f+1+1) wb wa (zeo ha)).trans (zsY [iv a] p e 1 (f+1) wb)
theorem zlH {a b:I} (ha:okI a) (hb:okI b) (e p:Int):ZS [iv a,iv b] e p=some (e == 0,e):=by
 unfold ZS
 obtain ⟨f,hf⟩:=zai
 rw [hf]
 exact (zo4 [iv a,iv b] p e 0 (f+1+1) wb wa (zeo ha)).trans ((zo4 [iv a,iv b] p e 1 (f+1) wb wa (zeo hb)).trans (zsY [iv a,iv b] p e 2 f wb))
theorem zb3 (x:D) (y e p:Int):zaD (dy x) y e p=some (if e=0 then (if y=0 then (dy x,0) else (dy zD,y)) else (dy zD,e)):=by
 unfold zaD
 rw [zsX,qp]
 simp only [obn]
 by_cases h:e=0
 ·rw [wc h,wc h]
  by_cases h2:y=0
  ·rw [wc h2,h2]; rfl
  ·rw [we h2,wc (by simpa using h2)]
 ·rw [we h,we h]; rfl
theorem zcV {x y:D} (hx:WD x) (hy:WD y) (e p:Int):zcr (dy x) (dy y) e p=some (dy (st e zD (zo (zH x y) zD fun s=>(s,0))).1,(st e zD (zo (zH x y) zD fun s=>(s,0))).2):=by
 unfold zcr st zo
 by_cases h:e=0
 ·rw [we (by simpa using h),wc h,zyY hx hy]
  simp only [obn]
  rw [zb3,wc h]
  simp only [obn]
  by_cases h2:(zH x y).2=0
  ·rw [wc h2,wc h2]
  ·rw [we h2,we h2]
 ·rw [wc h,we h,qp]
theorem zlI {x:D} (hx:WD x) {p:Nat} (hp:2≤p∧p≤400) (e:Int):zct (dy x) e (p:Int)=some (dy (st e zD (zo (zn x p false) zD fun s=>(s,0))).1,(st e zD (zo (zn x p false) zD fun s=>(s,0))).2):=by
 unfold zct st zo
 by_cases h:e=0
 ·rw [we (by simpa using h),wc h,zsJ hx hp]
  simp only [obn]
  rw [zb3,wc h]
  simp only [obn]
  by_cases h2:(zn x p false).2=0
  ·rw [wc h2,wc h2]
  ·rw [we h2,we h2]
 ·rw [wc h,we h,qp]
theorem zb4 {x:D} (hx:WD x) {p:Nat} (hp:2≤p∧p≤400) (e:Int):zcu (dy x) e (p:Int)=some (dy (st e zD (zo (zn x p true) zD fun s=>(s,0))).1,(st e zD (zo (zn x p true) zD fun s=>(s,0))).2):=by
 unfold zcu st zo
 by_cases h:e=0
 ·rw [we (by simpa using h),wc h,zsJ hx hp]
  simp only [obn]
  rw [zb3,wc h]
  simp only [obn]
  by_cases h2:(zn x p true).2=0
  ·rw [wc h2,wc h2]
  ·rw [we h2,we h2]
 ·rw [wc h,we h,qp]
theorem qU (x y:D) (e p:Int):za7 (dy x) (dy y) e p=some (iv (if e=0 then ⟨x,y⟩ else zI)):=by
 unfold za7
 by_cases h:e=0
 ·rw [we (by simpa using h),wc h]; rfl
 ·rw [wc h,we h,zw]
def ZY (p:Nat) (a b:I):I × Int:=zo (zH a.lo b.lo) zI fun s=>zo (zn s p false) zI fun lo=>zo (zH a.hi b.hi) zI fun t=>zo (zn t p true) zI fun hi=>(⟨lo,hi⟩,0)
theorem zcW {r:D × Int} (h:WD r.1) (e:Int):WD (st e zD (zo r zD fun s=>(s,0))).1:=by
 unfold st zo
 split
 ·split
  ·exact h
  ·exact qj
 ·exact qj
theorem zu {α:Type} {e:Int} (h:e≠0) (z:α) (r:α × Int):st e z r=(z,e):=by unfold st; rw [we h]
theorem zd {α:Type} (z:α) (r:α × Int):st 0 z r=r:=by unfold st; rw [wc rfl]
theorem Zu {e:Int} (h:e≠0):¬(e == 0)=true:=by simpa using h
theorem ze {α:Type} {r:D × Int} (h:r.2=0) (z:α) (f:D→α × Int):zo r z f=f r.1:=by unfold zo; rw [wc h]
theorem zg {α:Type} {r:D × Int} (h:r.2≠0) (z:α) (f:D→α × Int):zo r z f=(z,r.2):=by unfold zo; rw [we h]
theorem zo5 {a b:I} (ha:okI a) (hb:okI b) {p:Nat} (hp:2≤p∧p≤400) (e:Int):Qb (iv a) (iv b) e (p:Int)=some (iv (st e zI (ZY p a b)).1,(st e zI (ZY p a b)).2):=by
 unfold Qb
 rw [zlH ha hb]
 simp only [obn]
 by_cases h:e=0
 ·subst h
  rw [we wb,zM,zM,zR,zR,zd,zcV ha.1 hb.1,zd]
  simp only [obn]
  rw [zlI (x:=(zo (zH a.lo b.lo) zD fun s=>(s,0)).1) (by
   have:=zcW (zcT ha.1 hb.1) 0; rwa [zd] at this) hp]
  simp only [obn]
  unfold ZY
  by_cases h1:(zH a.lo b.lo).2=0
  ·rw [ze h1,ze h1,zd]
   by_cases h2:(zn (zH a.lo b.lo).1 p false).2=0
   ·rw [ze h2,ze h2,zcV ha.2.1 hb.2.1,zd]
    simp only [obn]
    rw [zb4 (x:=(zo (zH a.hi b.hi) zD fun s=>(s,0)).1) (by
     have:=zcW (zcT ha.2.1 hb.2.1) 0; rwa [zd] at this) hp]
    simp only [obn]
    by_cases h3:(zH a.hi b.hi).2=0
    ·rw [ze h3,ze h3,zd]
     by_cases h4:(zn (zH a.hi b.hi).1 p true).2=0
     ·rw [ze h4,ze h4,qU]
      simp only [obn]
      rfl
     ·rw [zg h4,zg h4,qU]
      simp only [obn]
      rw [we h4]
    ·rw [zg h3,zg h3,zu h3,qU]
     simp only [obn]
     rw [we h3]
   ·rw [zg h2,zg h2,zcV ha.2.1 hb.2.1,zu h2]
    simp only [obn]
    rw [zb4 qj hp,zu h2]
    simp only [obn]
    rw [qU]
    simp only [obn]
    rw [we h2]
  ·rw [zg h1,zg h1,zu h1,zcV ha.2.1 hb.2.1,zu h1]
   simp only [obn]
   rw [zb4 qj hp,zu h1]
   simp only [obn]
   rw [qU]
   simp only [obn]
   rw [we h1]
 ·rw [wc (Zu h),zu h,zw]
theorem zlJ {x:D} (h:WD x):okI ⟨x,x⟩:=⟨h,h,Rat.le_refl⟩
theorem ziI {x:D} (hx:WD x) (e p:Int):zaC (dy x) e p=some (iv (st e zI (⟨x,x⟩,0)).1,(st e zI ((⟨x,x⟩:I),0)).2):=by
 unfold zaC
 have:(⟨dy x,dy x⟩:AI)=iv ⟨x,x⟩:=rfl
 rw [this,ziH (zlJ hx)]
 simp only [obn]
 by_cases h:e=0
 ·subst h; rw [we wb,zd]
 ·rw [wc (Zu h),zu h,zw]
def intI (n:Int):I:=⟨fromD n,fromD n⟩
theorem zzv {n:Int} (hn : -9223372036854775808≤n∧n≤9223372036854775807) (e p:Int):qI n e p=some (iv (st e zI (intI n,0)).1,(st e zI (intI n,0)).2):=by
 unfold qI
 rw [zoW hn]
 simp only [obn]
 rw [ziI (zb1 hn)]
 simp only [obn]
 rfl
def negI (a:I):I:=⟨negD a.hi,negD a.lo⟩
theorem zlK {a:I} (h:okI a):okI (negI a):=by
 refine ⟨h.2.1.neg,h.1.neg,?_⟩
 show val (negD a.hi)≤val (negD a.lo)
 rw [qK,qK]
 have:=h.2.2
 grind
theorem zsZ {a:I} (h:okI a) (e p:Int):zbG (iv a) e p=some (iv (st e zI (negI a,0)).1,(st e zI (negI a,0)).2):=by
 unfold zbG
 rw [ziH h]
 simp only [obn]
 by_cases h0:e=0
 ·subst h0
  rw [we wb,zd,zM,zR,ziz h.1,ziz h.2.1]
  simp only [obn]
  rfl
 ·rw [wc (Zu h0),zu h0,zw]
def zep (p:Nat) (a b:I):I × Int:=ZY p a (negI b)
theorem zs0 {a b:I} (ha:okI a) (hb:okI b) {p:Nat} (hp:2≤p∧p≤400) (e:Int):zbH (iv a) (iv b) e (p:Int)=some (iv (st e zI (zep p a b)).1,(st e zI (zep p a b)).2):=by
 unfold zbH
 rw [zsZ hb]
 simp only [obn]
 by_cases h0:e=0
 ·subst h0
  rw [zd,zd,zo5 ha (zlK hb) hp,zd]
  simp only [obn]
  rfl
 ·rw [zu h0,zo5 ha zsV hp,zu h0,zu h0]
  simp only [obn]
def minD (m x:D):D:=if zp x m<0 then x else m
def maxD (m x:D):D:=if 0<zp x m then x else m
theorem ziJ (m x:D):(minD m x=m∧val m≤val x)∨(minD m x=x∧val x<val m):=by
 unfold minD
 by_cases h:zp x m<0
 ·rw [wc h]; right; exact ⟨rfl,(zgf _ _).1 h⟩
 ·rw [we h]; left
  have:=mt (zgf x m).2 h
  exact ⟨rfl,by grind⟩
theorem ziK (m x:D):(maxD m x=m∧val x≤val m)∨(maxD m x=x∧val m<val x):=by
 unfold maxD
 by_cases h:0<zp x m
 ·rw [wc h]; right; exact ⟨rfl,(zlz _ _).1 h⟩
 ·rw [we h]; left
  have:=mt (zlz x m).2 h
  exact ⟨rfl,by grind⟩
theorem zlL {m x:D} (hm:WD m) (hx:WD x):WD (minD m x):=by unfold minD; split<;>assumption
theorem zlM {m x:D} (hm:WD m) (hx:WD x):WD (maxD m x):=by unfold maxD; split<;>assumption
theorem zeq (l:List D) (i:Nat) (h:i<l.length):(l.map dy).getD i zAD=dy (l.getD i zD):=by
 simp [List.getD,List.getElem?_map,List.getElem?_eq_getElem h]
theorem zzw (x:D) (l:List D) (hl:∀ y ∈ l,WD y) (hlen:l.length≤1000):∀ (r i:Nat) (m M:D),i+r=l.length→WD m→WD M→∀ f,r<f→
  zdN ((x :: l).map dy) f (i:Int) (dy m).M.Neg (dy m).M.Mag (dy m).E (dy M).M.Neg (dy M).M.Mag (dy M).E=some (dy ((l.drop i).foldl minD m),dy ((l.drop i).foldl maxD M)):=by
 have hdrop:(((x :: l).map dy).take ((x :: l).map dy).length).drop 1=l.map dy:=by
  rw [List.take_length]; simp
 intro r
 induction r with
 | zero=>
  intro i m M hi hm hM f hf
  obtain ⟨f,rfl⟩:∃ k,f=k+1:=⟨f-1,wa⟩
  rw [zdN,hdrop,we (by rw [List.length_map]; omega),List.drop_eq_nil_of_le wa]
  rfl
 | succ r ih=>
  intro i m M hi hm hM f hf
  obtain ⟨f,rfl⟩:∃ k,f=k+1:=⟨f-1,wa⟩
  have hin:i<l.length:=wa
  have hmem:l.getD i zD ∈ l:=by
   rw [List.getD_eq_getElem?_getD,List.getElem?_eq_getElem hin]; exact List.getElem_mem hin
  have hW:=hl _ hmem
  have hdc:l.drop i=l.getD i zD :: l.drop (i+1):=by
   rw [List.drop_eq_getElem_cons hin,List.getD_eq_getElem?_getD,List.getElem?_eq_getElem hin]; rfl
  have hw:i64.wrap ((i:Int)+1)=((i+1:Nat):Int):=by rw [w64]<;>omega
  rw [zdN]
  unfold znS znR
  simp only [hdrop,hw]
  rw [wc (by rw [List.length_map]; omega),wc (by rw [List.length_map]; omega),Int.toNat_natCast,zeq l i hin]
  generalize hg:l.getD i zD=y at *
  have e1:∀ d:D,(⟨⟨(dy d).M.Neg,(dy d).M.Mag⟩,(dy d).E⟩:AD)=dy d:=fun _=>rfl
  simp only [ziG,e1]
  rw [Ze hW hm]
  simp only [obn]
  rw [Ze hW hM]
  simp only [obn]
  rw [hdc,List.foldl_cons,List.foldl_cons]
  have hmin:minD m y=if zp y m<0 then y else m:=rfl
  have hmax:maxD M y=if 0<zp y M then y else M:=rfl
  by_cases h1:zp y m<0
  ·rw [wc h1]
   by_cases h2:0<zp y M
   ·rw [wc h2,hmin,hmax,wc h1,wc h2]
    exact ih (i+1) y y wa hW hW f wa
   ·rw [we h2,hmin,hmax,wc h1,we h2]
    exact ih (i+1) y M wa hW hM f wa
  ·rw [we h1]
   by_cases h2:0<zp y M
   ·rw [wc h2,hmin,hmax,we h1,wc h2]
    exact ih (i+1) m y wa hm hW f wa
   ·rw [we h2,hmin,hmax,we h1,we h2]
    exact ih (i+1) m M wa hm hM f wa
theorem zzx (x:D) (l:List D) (hx:WD x) (hl:∀ y ∈ l,WD y) (hlen:l.length≤1000):zcv ((x :: l).map dy)=some (dy (l.foldl minD x),dy (l.foldl maxD x)):=by
 unfold zcv
 have hlen2:((x :: l).map dy).length=l.length+1:=wb
 rw [wc wa,wc wa,wc wa]
 have h0:((x :: l).map dy).getD 0 zAD=dy x:=rfl
 rw [h0]
 exact zzw x l hl hlen l.length 0 x x wa hx hx fuel (by unfold fuel; omega)
theorem zs1:∀ (l:List D) (x:D),WD x→(∀ y ∈ l,WD y)→WD (l.foldl minD x)
 | [],_,hx,_=>hx
 | y :: l,x,hx,hl=>zs1 l (minD x y) (zlL hx (hl y List.mem_cons_self)) fun z hz=>hl z (List.mem_cons_of_mem _ hz)
theorem zs2:∀ (l:List D) (x:D),WD x→(∀ y ∈ l,WD y)→WD (l.foldl maxD x)
 | [],_,hx,_=>hx
 | y :: l,x,hx,hl=>zs2 l (maxD x y) (zlM hx (hl y List.mem_cons_self)) fun z hz=>hl z (List.mem_cons_of_mem _ hz)
def Qu (a:I) (n:Int):I × Int:=zo (qz a.lo n) zI fun lo=>zo (qz a.hi n) zI fun hi=>(⟨lo,hi⟩,0)
def zaj (p:Nat) (a:I):I × Int:=zo (zn a.lo p false) zI fun lo=>zo (zn a.hi p true) zI fun hi=>(⟨lo,hi⟩,0)
def zzy (p:Nat) (a:I):I × Int:=zo (zsM a.lo p false) zI fun lo=>zo (zsM a.hi p true) zI fun hi=>(⟨lo,hi⟩,0)
def ZZ (p:Nat) (a:I) (d:D):I × Int:=zo (zH a.lo (negD d)) zI fun s=>zo (zn s p false) zI fun lo=>zo (zH a.hi d) zI fun t=>zo (zn t p true) zI fun hi=>(⟨lo,hi⟩,0)
theorem zzz {a:I} (ha:okI a) {n:Int} (hn : -100000≤n∧n≤100000) (e p:Int):ZC (iv a) n e p=some (iv (st e zI (Qu a n)).1,(st e zI (Qu a n)).2):=by
 unfold ZC
 rw [ziH ha]
 simp only [obn]
 by_cases h:e=0
 ·subst h
  rw [we wb,zM,zR,zd,zoV ha.1 hn]
  simp only [obn]
  rw [zb3,wc rfl]
  unfold Qu
  by_cases h1:(qz a.lo n).2=0
  ·rw [ze h1,wc h1]
   simp only [obn]
   rw [we wb,zoV ha.2.1 hn]
   simp only [obn]
   rw [zb3,wc rfl]
   by_cases h2:(qz a.hi n).2=0
   ·rw [ze h2,wc h2]
    simp only [obn]
    rw [qU]
    simp only [obn]
    rfl
   ·rw [zg h2,we h2]
    simp only [obn]
    rw [qU,we h2]
    simp only [obn]
  ·rw [zg h1,we h1]
   simp only [obn]
   rw [wc (by simpa using h1),zw]
 ·rw [wc (Zu h),zu h,zw]
theorem zs3 {a:I} (ha:okI a) {p:Nat} (hp:2≤p∧p≤400) (e:Int):zcz (iv a) e (p:Int)=some (iv (st e zI (zaj p a)).1,(st e zI (zaj p a)).2):=by
 unfold zcz
 rw [ziH ha]
 simp only [obn]
 by_cases h:e=0
 ·subst h
  rw [we wb,zM,zR,zd,zlI ha.1 hp,zd]
  simp only [obn]
  rw [zb4 ha.2.1 hp]
  simp only [obn]
  unfold zaj
  by_cases h1:(zn a.lo p false).2=0
  ·rw [ze h1,ze h1,zd]
   by_cases h2:(zn a.hi p true).2=0
   ·rw [ze h2,ze h2,qU]
    simp only [obn]
    rfl
   ·rw [zg h2,zg h2,qU]
    simp only [obn]
    rw [we h2]
  ·rw [zg h1,zg h1,zu h1,qU]
   simp only [obn]
   rw [we h1]
 ·rw [wc (Zu h),zu h,zw]
theorem zs4 {a:I} (ha:okI a) {d:D} (hd:WD d) (hd0:0≤val d) {p:Nat} (hp:2≤p∧p≤400) (e:Int):zbK (iv a) (dy d) e (p:Int)=some (iv (st e zI (ZZ p a d)).1,(st e zI (ZZ p a d)).2):=by
 unfold zbK
 have hz:(⟨⟨⟨false,[]⟩,0⟩,dy d⟩:AI)=iv ⟨zD,d⟩:=by unfold iv; simp only [qp]
 have hok:okI ⟨zD,d⟩:=⟨qj,hd,by show val zD≤val d; rw [qT]; exact hd0⟩
 rw [hz,zlH ha hok]
 simp only [obn]
 by_cases h:e=0
 ·subst h
  rw [we wb,ziz hd]
  simp only [obn]
  rw [zM,zR,zd,zcV ha.1 hd.neg,zd]
  simp only [obn]
  rw [zlI (x:=(zo (zH a.lo (negD d)) zD fun s=>(s,0)).1) (by
   have:=zcW (zcT ha.1 hd.neg) 0; rwa [zd] at this) hp]
  simp only [obn]
  unfold ZZ
  by_cases h1:(zH a.lo (negD d)).2=0
  ·rw [ze h1,ze h1,zd]
   by_cases h2:(zn (zH a.lo (negD d)).1 p false).2=0
   ·rw [ze h2,ze h2,zcV ha.2.1 hd,zd]
    simp only [obn]
    rw [zb4 (x:=(zo (zH a.hi d) zD fun s=>(s,0)).1) (by
     have:=zcW (zcT ha.2.1 hd) 0; rwa [zd] at this) hp]
    simp only [obn]
    by_cases h3:(zH a.hi d).2=0
    ·rw [ze h3,ze h3,zd]
     by_cases h4:(zn (zH a.hi d).1 p true).2=0
     ·rw [ze h4,ze h4,qU]
      simp only [obn]
      rfl
     ·rw [zg h4,zg h4,qU]
      simp only [obn]
      rw [we h4]
    ·rw [zg h3,zg h3,zu h3,qU]
     simp only [obn]
     rw [we h3]
   ·rw [zg h2,zg h2,zcV ha.2.1 hd,zu h2]
    simp only [obn]
    rw [zb4 qj hp,zu h2]
    simp only [obn]
    rw [qU]
    simp only [obn]
    rw [we h2]
  ·rw [zg h1,zg h1,zu h1,zcV ha.2.1 hd,zu h1]
   simp only [obn]
   rw [zb4 qj hp,zu h1]
   simp only [obn]
   rw [qU]
   simp only [obn]
   rw [we h1]
 ·rw [wc (Zu h),zu h,zw]
def qO (f:D→D→D × Int) (x:D) (s:Int × List D) (y:D):Int × List D:=
 if s.1=0 then (if (f x y).2=0 then (0,s.2++[(f x y).1]) else ((f x y).2,s.2++[zD])) else (s.1,s.2++[zD])
def rowF (f:D→D→D × Int) (ys:List D) (s:Int × List D) (x:D):Int × List D:=ys.foldl (qO f x) s
def fourF (f:D→D→D × Int) (xs ys:List D):Int × List D:=xs.foldl (rowF f ys) (0,[])
theorem zer (f:D→D→D × Int) (x:D) (s:Int × List D) (y:D):(qO f x s y).2.length=s.2.length+1:=by
 unfold qO
 split
 ·split<;>simp
 ·simp
theorem zo6 (f:D→D→D × Int) (x:D):∀ (ys:List D) (s:Int × List D),(ys.foldl (qO f x) s).2.length=s.2.length+ys.length
 | [],s=>wb
 | y :: ys,s=>by rw [List.foldl_cons,zo6 f x ys,zer,List.length_cons]; omega
theorem zzA {f:D→D→D × Int} (hf:∀ x y,WD x→WD y→WD (f x y).1) {x y:D} (hx:WD x) (hy:WD y) {s:Int × List D} (hs:∀ z ∈ s.2,WD z):∀ z ∈ (qO f x s y).2,WD z:=by
 unfold qO
 split
 ·split
  ·intro z hz
   rcases List.mem_append.1 hz with h | h
   ·exact hs z h
   ·have:z=(f x y).1:=by simpa using h
    subst this; exact hf x y hx hy
  ·intro z hz
   rcases List.mem_append.1 hz with h | h
   ·exact hs z h
   ·have:z=zD:=by simpa using h
    subst this; exact qj
 ·intro z hz
  rcases List.mem_append.1 hz with h | h
  ·exact hs z h
  ·have:z=zD:=by simpa using h
   subst this; exact qj
theorem zs5 {f:D→D→D × Int} (hf:∀ x y,WD x→WD y→WD (f x y).1) {x:D} (hx:WD x):∀ (ys:List D) (_:∀ y ∈ ys,WD y) (s:Int × List D) (_:∀ z ∈ s.2,WD z),∀ z ∈ (ys.foldl (qO f x) s).2,WD z
 | [],_,s,hs=>hs
 | y :: ys,hys,s,hs=>by
  rw [List.foldl_cons]
  exact zs5 hf hx ys (fun z hz=>hys z (List.mem_cons_of_mem _ hz)) _ (zzA hf hx (hys y List.mem_cons_self) hs)
theorem zlN {f:D→D→D × Int} (hf:∀ x y,WD x→WD y→WD (f x y).1) {ys:List D} (hys:∀ y ∈ ys,WD y):∀ (xs:List D) (_:∀ x ∈ xs,WD x) (s:Int × List D) (_:∀ z ∈ s.2,WD z),∀ z ∈ (xs.foldl (rowF f ys) s).2,WD z
 | [],_,s,hs=>hs
 | x :: xs,hxs,s,hs=>by
  rw [List.foldl_cons]
  exact zlN hf hys xs (fun z hz=>hxs z (List.mem_cons_of_mem _ hz)) _ (zs5 hf (hxs x List.mem_cons_self) ys hys s hs)
theorem getD_mem {l:List D} {i:Nat} (h:i<l.length):l.getD i zD ∈ l:=by
 rw [List.getD_eq_getElem?_getD,List.getElem?_eq_getElem h]; exact List.getElem_mem h
theorem zgl {l:List D} {i:Nat} (h:i<l.length):l.drop i=l.getD i zD :: l.drop (i+1):=by
 rw [List.drop_eq_getElem_cons h,List.getD_eq_getElem?_getD,List.getElem?_eq_getElem h]; rfl
theorem zzB {xs ys:List D} (hxs:∀ x ∈ xs,WD x) (hys:∀ y ∈ ys,WD y) (hly:ys.length≤10) (hlx:xs.length≤10) {i:Nat} (hi:i<xs.length) (p:Int) (ag:Int→Int→List AD→Option (List AD × Int)) :
  ∀ (r j:Nat) (e:Int) (O:List D),j+r=ys.length→O.length+r≤2000→∀ n,r<n→
   zbF (ys.map dy) (xs.map dy) (i:Int) p ag n (j:Int) e (O.map dy)=ag ((i+1:Nat):Int) ((ys.drop j).foldl (qO timesD (xs.getD i zD)) (e,O)).1 (((ys.drop j).foldl (qO timesD (xs.getD i zD)) (e,O)).2.map dy):=by
 intro r
 induction r with
 | zero=>
  intro j e O hj hO n hn
  obtain ⟨n,rfl⟩:∃ k,n=k+1:=⟨n-1,wa⟩
  rw [zbF,we (by rw [List.length_map]; omega),List.drop_eq_nil_of_le wa]
  unfold zkg zkf
  rw [show ((i:Int)+1)=((i+1:Nat):Int) by omega,zW wa]
  rfl
 | succ r ih=>
  intro j e O hj hO n hn
  obtain ⟨n,rfl⟩:∃ k,n=k+1:=⟨n-1,wa⟩
  have hjn:j<ys.length:=wa
  have hy:=hys _ (getD_mem hjn)
  have hx:=hxs _ (getD_mem hi)
  have hrow:zbF (ys.map dy) (xs.map dy) (i:Int) p ag (n+1) (j:Int) e (O.map dy)=zbF (ys.map dy) (xs.map dy) (i:Int) p ag n ((j+1:Nat):Int) (qO timesD (xs.getD i zD) (e,O) (ys.getD j zD)).1 ((qO timesD (xs.getD i zD) (e,O) (ys.getD j zD)).2.map dy):=by
   rw [zbF,wc (by rw [List.length_map]; omega),wc (by rw [List.length_map]; omega)]
   simp only [Int.toNat_natCast]
   rw [zeq xs i hi,zeq ys j hjn]
   simp only [ziG]
   rw [zy1 hx hy]
   simp only [obn]
   rw [zb3]
   simp only [obn]
   rw [wc (by simp only [List.length_cons,List.length_nil,List.length_map]; omega),show ((j:Int)+1)=((j+1:Nat):Int) by omega,zW wa]
   unfold qO
   by_cases h:e=0
   ·subst h
    rw [wc rfl,wc rfl]
    by_cases h2:(timesD (xs.getD i zD) (ys.getD j zD)).2=0
    ·rw [wc h2,wc h2]; simp
    ·rw [we h2,we h2]; simp
   ·rw [we h,we h]; simp
  rw [hrow,zgl hjn,List.foldl_cons]
  exact ih (j+1) _ _ wa (by rw [zer]; simp only; omega) n wa
theorem zzC {xs ys:List D} (hxs:∀ x ∈ xs,WD x) (hys:∀ y ∈ ys,WD y) (hly:ys.length≤10) (hlx:xs.length≤10) (p:Int) :
  ∀ (r i:Nat) (e:Int) (O:List D),i+r=xs.length→O.length≤100*i→∀ n,r<n→
   zaE (xs.map dy) (ys.map dy) p n (i:Int) e (O.map dy)=some (((xs.drop i).foldl (rowF timesD ys) (e,O)).2.map dy,((xs.drop i).foldl (rowF timesD ys) (e,O)).1):=by
 intro r
 induction r with
 | zero=>
  intro i e O hi hO n hn
  obtain ⟨n,rfl⟩:∃ k,n=k+1:=⟨n-1,wa⟩
  rw [zaE,we (by rw [List.length_map]; omega),List.drop_eq_nil_of_le wa]
  rfl
 | succ r ih=>
  intro i e O hi hO n hn
  obtain ⟨n,rfl⟩:∃ k,n=k+1:=⟨n-1,wa⟩
  have hin:i<xs.length:=wa
  rw [zaE,wc (by rw [List.length_map]; omega),wc (by rw [List.length_map]; omega)]
  have h7:=zzB hxs hys hly hlx hin p (fun z0 z1 z2=>zaE (xs.map dy) (ys.map dy) p n z0 z1 z2) ys.length 0 e O wa wa fuel (by unfold fuel; omega)
  refine h7.trans ?_
  rw [List.drop_zero,zgl hin,List.foldl_cons]
  exact ih (i+1) _ _ wa (by rw [zo6]; simp only; omega) n wa
def endsL (a:I):List D:=if zp a.lo a.hi=0 then [a.lo] else [a.lo,a.hi]
theorem zbr {a:I} (h:okI a):∀ x ∈ endsL a,WD x:=by
 unfold endsL
 split
 ·intro x hx; have:x=a.lo:=by simpa using hx
  subst this; exact h.1
 ·intro x hx
  have:x=a.lo∨x=a.hi:=by simpa using hx
  rcases this with rfl | rfl
  ·exact h.1
  ·exact h.2.1
theorem zgm (a:I):(endsL a).length≤2:=by unfold endsL; split<;>simp
theorem zzD {x y:D} : zp x y=0↔val x=val y:=by
 rw [zbY]
 constructor
 ·intro h
  by_cases h1:val x<val y
  ·rw [wc h1] at h; simp at h
  ·rw [we h1] at h
   by_cases h2:val y<val x
   ·rw [wc h2] at h; simp at h
   ·grind
 ·intro h
  rw [we (by grind),we (by grind)]
theorem Qv {a:I} (h:okI a):endsL a=[a.lo,a.hi]∨(a.lo=a.hi∧endsL a=[a.lo]):=by
 unfold endsL
 by_cases h1:zp a.lo a.hi=0
 ·rw [wc h1]; right; exact ⟨zyR h.1.1 h.2.1.1 (zzD.1 h1),rfl⟩
 ·rw [we h1]; left; rfl
theorem zzE {a b:I} (ha:okI a) (hb:okI b) (p:Int):zhu (iv a) (iv b) 0 p=some ((fourF timesD (endsL a) (endsL b)).2.map dy,(fourF timesD (endsL a) (endsL b)).1):=by
 have key:∀ xs ys:List D,(∀ x ∈ xs,WD x)→(∀ y ∈ ys,WD y)→ys.length≤2→xs.length≤2→zfc (xs.map dy) p 0 (ys.map dy)=some ((fourF timesD xs ys).2.map dy,(fourF timesD xs ys).1):=by
  intro xs ys hx hy hl1 hl2
  unfold zfc
  have:=zzC hx hy wa wa p xs.length 0 0 [] wa wb fuel (by unfold fuel; omega)
  rw [List.drop_zero] at this
  exact this
 have kx:=zbr ha
 have ky:=zbr hb
 have lx:=zgm a
 have ly:=zgm b
 have k:=key _ _ kx ky ly lx
 unfold zhu zht
 rw [zM,zM,zR,zR,Ze ha.1 ha.2.1,Ze hb.1 hb.2.1]
 simp only [obn]
 rw [← k]
 unfold endsL
 have e1:∀ x y:D,[dy x,dy y].take 1=[x].map dy:=fun _ _=>rfl
 have e2:∀ x y:D,[dy x,dy y]=[x,y].map dy:=fun _ _=>rfl
 by_cases h1:zp a.lo a.hi=0
 ·rw [wc h1,wc wb,wc h1]
  by_cases h2:zp b.lo b.hi=0
  ·rw [wc h2,wc wb,wc h2]; rfl
  ·rw [we h2,we h2]; rfl
 ·rw [we h1,we h1]
  by_cases h2:zp b.lo b.hi=0
  ·rw [wc h2,wc wb,wc h2]; rfl
  ·rw [we h2,we h2]; rfl
def minL:List D→D
 | []=>zD
 | x :: l=>l.foldl minD x
def maxL:List D→D
 | []=>zD
 | x :: l=>l.foldl maxD x
theorem zs6 {l:List D} (h:∀ x ∈ l,WD x):WD (minL l):=by
 cases l with
 | nil=>exact qj
 | cons x l=>exact zs1 l x (h x List.mem_cons_self) fun y hy=>h y (List.mem_cons_of_mem _ hy)
theorem zs7 {l:List D} (h:∀ x ∈ l,WD x):WD (maxL l):=by
 cases l with
 | nil=>exact qj
 | cons x l=>exact zs2 l x (h x List.mem_cons_self) fun y hy=>h y (List.mem_cons_of_mem _ hy)
theorem zlO {l:List D} (h0:l≠[]) (h:∀ x ∈ l,WD x) (hlen:l.length≤1000):zcv (l.map dy)=some (dy (minL l),dy (maxL l)):=by
 cases l with
 | nil=>exact absurd rfl h0
 | cons x l=>exact zzx x l (h x List.mem_cons_self) (fun y hy=>h y (List.mem_cons_of_mem _ hy)) (by simp at hlen; omega)
theorem zlP {m x:D} (h:val m≤val x):minD m x=m:=by
 rcases ziJ m x with h1 | h1
 ·exact h1.1
 ·exact absurd h1.2 (by grind)
theorem zlQ {m x:D} (h:val x≤val m):maxD m x=m:=by
 rcases ziK m x with h1 | h1
 ·exact h1.1
 ·exact absurd h1.2 (by grind)
theorem zs8 (x:D):minD x x=x:=zlP (Rat.le_refl)
theorem zs9 (x:D):maxD x x=x:=zlQ (Rat.le_refl)
theorem zgn (m x:D):val (minD m x)≤val m∧val (minD m x)≤val x:=by
 rcases ziJ m x with h | h
 ·rw [h.1]; exact ⟨Rat.le_refl,h.2⟩
 ·rw [h.1]; exact ⟨by grind,Rat.le_refl⟩
theorem zgo (m x:D):val m≤val (maxD m x)∧val x≤val (maxD m x):=by
 rcases ziK m x with h | h
 ·rw [h.1]; exact ⟨Rat.le_refl,h.2⟩
 ·rw [h.1]; exact ⟨by grind,Rat.le_refl⟩
def Zf {α:Type} (f:D→D→D × Int) (x1 x2 y1 y2:D) (z:α) (k:D→D→D→D→α × Int):α × Int:=
 zo (f x1 y1) z fun q1=>zo (f x1 y2) z fun q2=>zo (f x2 y1) z fun q3=>zo (f x2 y2) z fun q4=>k q1 q2 q3 q4
def qk (a b c d:D):D:=minD (minD (minD a b) c) d
def qf (a b c d:D):D:=maxD (maxD (maxD a b) c) d
theorem zo7 {α:Type} (f:D→D→D × Int) (x1 x2 y1 y2:D) (xs ys:List D) (hx:xs=[x1,x2]∨(x1=x2∧xs=[x1])) (hy:ys=[y1,y2]∨(y1=y2∧ys=[y1])) (z:α) (g:D→D→α × Int) :
  (if (fourF f xs ys).1=0 then g (minL (fourF f xs ys).2) (maxL (fourF f xs ys).2) else (z,(fourF f xs ys).1))=Zf f x1 x2 y1 y2 z (fun a b c d=>g (qk a b c d) (qf a b c d)):=by
 unfold Zf qk qf
 rcases hx with rfl | ⟨rfl,rfl⟩<;>rcases hy with rfl | ⟨rfl,rfl⟩
 ·by_cases h1:(f x1 y1).2=0<;>by_cases h2:(f x1 y2).2=0<;>by_cases h3:(f x2 y1).2=0<;>by_cases h4:(f x2 y2).2=0<;>simp [fourF,rowF,qO,zo,minL,maxL,h1,h2,h3,h4]
 ·by_cases h1:(f x1 y1).2=0<;>by_cases h3:(f x2 y1).2=0<;>simp [fourF,rowF,qO,zo,minL,maxL,h1,h3,zs8,zs9]
  rw [zlP (zgn _ _).2,zlQ (zgo _ _).2]
 ·by_cases h1:(f x1 y1).2=0<;>by_cases h2:(f x1 y2).2=0<;>simp [fourF,rowF,qO,zo,minL,maxL,h1,h2]
  rw [zlP (zgn _ _).1,zlQ (zgo _ _).1,zlP (zgn _ _).2,zlQ (zgo _ _).2]
 ·by_cases h1:(f x1 y1).2=0<;>simp [fourF,rowF,qO,zo,minL,maxL,h1,zs8,zs9]
def Qw (p:Nat) (a b:I):I × Int:=Zf timesD a.lo a.hi b.lo b.hi zI fun q1 q2 q3 q4=>zo (zn (qk q1 q2 q3 q4) p false) zI fun lo=>zo (zn (qf q1 q2 q3 q4) p true) zI fun hi=>(⟨lo,hi⟩,0)
theorem zo8 {f:D→D→D × Int} {a b:I} (ha:okI a) (hb:okI b):(fourF f (endsL a) (endsL b)).2≠[]:=by
 intro h
 have:(fourF f (endsL a) (endsL b)).2.length=0:=by rw [h]; rfl
 unfold fourF at this
 rcases Qv ha with h1 | ⟨-,h1⟩<;>rcases Qv hb with h2 | ⟨-,h2⟩<;>rw [h1,h2] at this<;>simp [rowF,zer] at this
theorem zta {f:D→D→D × Int} {a b:I} (ha:okI a) (hb:okI b):(fourF f (endsL a) (endsL b)).2.length≤4:=by
 unfold fourF
 rcases Qv ha with h1 | ⟨-,h1⟩<;>rcases Qv hb with h2 | ⟨-,h2⟩<;>rw [h1,h2]<;>simp [rowF,zer]
theorem zzF {a b:I} (ha:okI a) (hb:okI b) {p:Nat} (hp:2≤p∧p≤400) (e:Int):ZB (iv a) (iv b) e (p:Int)=some (iv (st e zI (Qw p a b)).1,(st e zI (Qw p a b)).2):=by
 unfold ZB
 rw [zlH ha hb]
 simp only [obn]
 by_cases h:e=0
 ·subst h
  rw [we wb,zd,zzE ha hb]
  simp only [obn]
  have hW:∀ z ∈ (fourF timesD (endsL a) (endsL b)).2,WD z:=zlN (fun _ _ _ _=>zsD) (zbr hb) _ (zbr ha) _ (by intro z hz; cases hz)
  have hl:=zta (f:=timesD) ha hb
  rw [zlO (zo8 ha hb) hW wa]
  simp only [obn]
  have hm:=zo7 timesD a.lo a.hi b.lo b.hi (endsL a) (endsL b) (Qv ha) (Qv hb) zI (fun m M=>zo (zn m p false) zI fun lo=>zo (zn M p true) zI fun hi=>(⟨lo,hi⟩,0))
  unfold Qw
  rw [← hm]
  have hWm:=zs6 hW
  have hWM:=zs7 hW
  generalize (fourF timesD (endsL a) (endsL b)).1=e at *
  generalize minL (fourF timesD (endsL a) (endsL b)).2=m at *
  generalize maxL (fourF timesD (endsL a) (endsL b)).2=M at *
  rw [zlI hWm hp]
  simp only [obn]
  by_cases h0:e=0
  ·subst h0
   rw [wc rfl,zd,zb4 hWM hp]
   simp only [obn]
   by_cases h1:(zn m p false).2=0
   ·rw [ze h1,ze h1,zd]
    by_cases h2:(zn M p true).2=0
    ·rw [ze h2,ze h2,qU]
     simp only [obn]
     rfl
    ·rw [zg h2,zg h2,qU]
     simp only [obn]
     rw [we h2]
   ·rw [zg h1,zg h1,zu h1,qU]
    simp only [obn]
    rw [we h1]
  ·rw [we h0,zu h0,zb4 hWM hp,zu h0]
   simp only [obn]
   rw [qU,we h0]
   simp only [obn]
 ·rw [wc (Zu h),zu h,zw]
theorem zzG {xs ys:List D} (hxs:∀ x ∈ xs,WD x) (hys:∀ y ∈ ys,WD y) (hly:ys.length≤10) (hlx:xs.length≤10) {i:Nat} (hi:i<xs.length) {p:Nat} (hp:2≤p∧p≤400) (up:Bool) (ag:Int→Int→List AD→Option (List AD × Int)) :
  ∀ (r j:Nat) (e:Int) (O:List D),j+r=ys.length→O.length+r≤2000→∀ n,r<n→
   zbJ (ys.map dy) (xs.map dy) (i:Int) (p:Int) up ag n (j:Int) e (O.map dy)=ag ((i+1:Nat):Int) ((ys.drop j).foldl (qO (fun x y=>divD x y p up) (xs.getD i zD)) (e,O)).1 (((ys.drop j).foldl (qO (fun x y=>divD x y p up) (xs.getD i zD)) (e,O)).2.map dy):=by
 intro r
 induction r with
 | zero=>
  intro j e O hj hO n hn
  obtain ⟨n,rfl⟩:∃ k,n=k+1:=⟨n-1,wa⟩
  rw [zbJ,we (by rw [List.length_map]; omega),List.drop_eq_nil_of_le wa]
  unfold zkp zko
  rw [show ((i:Int)+1)=((i+1:Nat):Int) by omega,zW wa]
  rfl
 | succ r ih=>
  intro j e O hj hO n hn
  obtain ⟨n,rfl⟩:∃ k,n=k+1:=⟨n-1,wa⟩
  have hjn:j<ys.length:=wa
  have hy:=hys _ (getD_mem hjn)
  have hx:=hxs _ (getD_mem hi)
  have hrow:zbJ (ys.map dy) (xs.map dy) (i:Int) (p:Int) up ag (n+1) (j:Int) e (O.map dy)=zbJ (ys.map dy) (xs.map dy) (i:Int) (p:Int) up ag n ((j+1:Nat):Int) (qO (fun x y=>divD x y p up) (xs.getD i zD) (e,O) (ys.getD j zD)).1 ((qO (fun x y=>divD x y p up) (xs.getD i zD) (e,O) (ys.getD j zD)).2.map dy):=by
   rw [zbJ,wc (by rw [List.length_map]; omega),wc (by rw [List.length_map]; omega)]
   simp only [Int.toNat_natCast]
   rw [zeq xs i hi,zeq ys j hjn]
   simp only [ziG]
   unfold zkn
   rw [zy7 hx hy hp up]
   simp only [obn]
   rw [zb3]
   simp only [obn]
   rw [wc (by simp only [List.length_cons,List.length_nil,List.length_map]; omega),show ((j:Int)+1)=((j+1:Nat):Int) by omega,zW wa]
   unfold qO
   by_cases h:e=0
   ·subst h
    rw [wc rfl,wc rfl]
    by_cases h2:(divD (xs.getD i zD) (ys.getD j zD) p up).2=0
    ·rw [wc h2,wc h2]; simp
    ·rw [we h2,we h2]; simp
   ·rw [we h,we h]; simp
  rw [hrow,zgl hjn,List.foldl_cons]
  exact ih (j+1) _ _ wa (by rw [zer]; simp only; omega) n wa
theorem ztb {xs ys:List D} (hxs:∀ x ∈ xs,WD x) (hys:∀ y ∈ ys,WD y) (hly:ys.length≤10) (hlx:xs.length≤10) {p:Nat} (hp:2≤p∧p≤400) (up:Bool) :
  ∀ (r i:Nat) (e:Int) (O:List D),i+r=xs.length→O.length≤100*i→∀ n,r<n→
   zaF (xs.map dy) (ys.map dy) (p:Int) up n (i:Int) e (O.map dy)=some (((xs.drop i).foldl (rowF (fun x y=>divD x y p up) ys) (e,O)).2.map dy,((xs.drop i).foldl (rowF (fun x y=>divD x y p up) ys) (e,O)).1):=by
 intro r
 induction r with
 | zero=>
  intro i e O hi hO n hn
  obtain ⟨n,rfl⟩:∃ k,n=k+1:=⟨n-1,wa⟩
  rw [zaF,we (by rw [List.length_map]; omega),List.drop_eq_nil_of_le wa]
  rfl
 | succ r ih=>
  intro i e O hi hO n hn
  obtain ⟨n,rfl⟩:∃ k,n=k+1:=⟨n-1,wa⟩
  have hin:i<xs.length:=wa
  rw [zaF,wc (by rw [List.length_map]; omega),wc (by rw [List.length_map]; omega)]
  have h7:=zzG hxs hys hly hlx hin hp up (fun z0 z1 z2=>zaF (xs.map dy) (ys.map dy) (p:Int) up n z0 z1 z2) ys.length 0 e O wa wa fuel (by unfold fuel; omega)
  refine h7.trans ?_
  rw [List.drop_zero,zgl hin,List.foldl_cons]
  exact ih (i+1) _ _ wa (by rw [zo6]; simp only; omega) n wa
theorem ztc {a b:I} (ha:okI a) (hb:okI b) {p:Nat} (hp:2≤p∧p≤400) (up:Bool):zcy (iv a) (iv b) 0 (p:Int) up=some ((fourF (fun x y=>divD x y p up) (endsL a) (endsL b)).2.map dy,(fourF (fun x y=>divD x y p up) (endsL a) (endsL b)).1):=by
 have key:∀ xs ys:List D,(∀ x ∈ xs,WD x)→(∀ y ∈ ys,WD y)→ys.length≤2→xs.length≤2→zdV (xs.map dy) (p:Int) up 0 (ys.map dy)=some ((fourF (fun x y=>divD x y p up) xs ys).2.map dy,(fourF (fun x y=>divD x y p up) xs ys).1):=by
  intro xs ys hx hy hl1 hl2
  unfold zdV
  have:=ztb hx hy wa wa hp up xs.length 0 0 [] wa wb fuel (by unfold fuel; omega)
  rw [List.drop_zero] at this
  exact this
 have kx:=zbr ha
 have ky:=zbr hb
 have lx:=zgm a
 have ly:=zgm b
 have k:=key _ _ kx ky ly lx
 unfold zcy zff
 rw [zM,zM,zR,zR,Ze ha.1 ha.2.1,Ze hb.1 hb.2.1]
 simp only [obn]
 rw [← k]
 unfold endsL
 have e1:∀ x y:D,[dy x,dy y].take 1=[x].map dy:=fun _ _=>rfl
 have e2:∀ x y:D,[dy x,dy y]=[x,y].map dy:=fun _ _=>rfl
 by_cases h1:zp a.lo a.hi=0
 ·rw [wc h1,wc wb,wc h1]
  by_cases h2:zp b.lo b.hi=0
  ·rw [wc h2,wc wb,wc h2]; rfl
  ·rw [we h2,we h2]; rfl
 ·rw [we h1,we h1]
  by_cases h2:zp b.lo b.hi=0
  ·rw [wc h2,wc wb,wc h2]; rfl
  ·rw [we h2,we h2]; rfl
def Z0 (p:Nat) (a b:I):I × Int:=if hasI b zD then (zI,3) else
 Zf (fun x y=>divD x y p false) a.lo a.hi b.lo b.hi zI fun q1 q2 q3 q4=>Zf (fun x y=>divD x y p true) a.lo a.hi b.lo b.hi zI fun r1 r2 r3 r4=>(⟨qk q1 q2 q3 q4,qf r1 r2 r3 r4⟩,0)
theorem zzH {f:D→D→D × Int} {xs ys:List D} {e:Int} (he:e≠0):∀ (s:Int × List D),s.1=e→(xs.foldl (rowF f ys) s).1=e:=by
 have h1:∀ (x:D) (s:Int × List D) (y:D),s.1=e→(qO f x s y).1=e:=by
  intro x s y hs
  unfold qO
  rw [we (by rw [hs]; exact he)]
  exact hs
 have h2:∀ (x:D) (l:List D) (s:Int × List D),s.1=e→(l.foldl (qO f x) s).1=e:=by
  intro x l
  induction l with
  | nil=>intro s hs; exact hs
  | cons y l ih=>intro s hs; rw [List.foldl_cons]; exact ih _ (h1 x s y hs)
 induction xs with
 | nil=>intro s hs; exact hs
 | cons x l ih=>intro s hs; rw [List.foldl_cons]; exact ih _ (h2 x ys s hs)
theorem zzI {a b:I} (ha:okI a) (hb:okI b) {p:Nat} (hp:2≤p∧p≤400) (up:Bool) {e:Int} (he:e≠0):∃ L:List D,zcy (iv a) (iv b) e (p:Int) up=some (L.map dy,e)∧L≠[]∧L.length≤4∧∀ z ∈ L,WD z:=by
 have kx:=zbr ha
 have ky:=zbr hb
 have lx:=zgm a
 have ly:=zgm b
 have hk:=ztb kx ky wa wa hp up (endsL a).length 0 e [] wa wb fuel (by unfold fuel; omega)
 rw [List.drop_zero,zzH he _ rfl] at hk
 refine ⟨_,?_,?_,?_,zlN (f:=fun x y=>divD x y p up) (fun _ _ _ _=>zaT) ky (endsL a) kx (e,[]) (by intro z hz; cases hz)⟩
 ·unfold zcy zff zdV
  rw [zM,zM,zR,zR,Ze ha.1 ha.2.1,Ze hb.1 hb.2.1]
  simp only [obn]
  rw [← hk]
  unfold endsL
  by_cases h1:zp a.lo a.hi=0
  ·rw [wc h1,wc wb,wc h1]
   by_cases h2:zp b.lo b.hi=0
   ·rw [wc h2,wc wb,wc h2]; rfl
   ·rw [we h2,we h2]; rfl
  ·rw [we h1,we h1]
   by_cases h2:zp b.lo b.hi=0
   ·rw [wc h2,wc wb,wc h2]; rfl
   ·rw [we h2,we h2]; rfl
 ·intro h
  have hlen:((endsL a).foldl (rowF (fun x y=>divD x y p up) (endsL b)) (e,[])).2.length=0:=by rw [h]; rfl
  rcases Qv ha with h1 | ⟨-,h1⟩<;>rcases Qv hb with h2 | ⟨-,h2⟩<;>rw [h1,h2] at hlen<;>simp [rowF,zer] at hlen
 ·rcases Qv ha with h1 | ⟨-,h1⟩<;>rcases Qv hb with h2 | ⟨-,h2⟩<;>rw [h1,h2]<;>simp [rowF,zer]
theorem zzJ {a b:I} (ha:okI a) (hb:okI b) {p:Nat} (hp:2≤p∧p≤400) (e:Int):Qq (iv a) (iv b) e (p:Int)=some (iv (st e zI (Z0 p a b)).1,(st e zI (Z0 p a b)).2):=by
 unfold Qq
 rw [zlH ha hb]
 simp only [obn]
 by_cases h:e=0
 ·subst h
  rw [we wb,zd,← qp,zo3 hb qj]
  simp only [obn]
  unfold Z0
  by_cases hz:hasI b zD=true
  ·rw [wc hz,wc hz,zsX]
   simp only [obn]
   rfl
  ·rw [we hz,we hz]
   unfold zhx
   simp only [obn]
   rw [ztc ha hb hp]
   simp only [obn]
   have hW:∀ up,∀ z ∈ (fourF (fun x y=>divD x y p up) (endsL a) (endsL b)).2,WD z:=fun up=>zlN (fun _ _ _ _=>zaT) (zbr hb) _ (zbr ha) _ (by intro z hz; cases hz)
   have hl:=fun up=>zta (f:=fun x y=>divD x y p up) ha hb
   rw [zlO (zo8 ha hb) (hW false) (by have:=hl false; omega)]
   simp only [obn]
   rw [← zo7 (fun x y=>divD x y p false) a.lo a.hi b.lo b.hi (endsL a) (endsL b) (Qv ha) (Qv hb) zI (fun m _=>Zf (fun x y=>divD x y p true) a.lo a.hi b.lo b.hi zI fun r1 r2 r3 r4=>(⟨m,qf r1 r2 r3 r4⟩,0))]
   by_cases h0:(fourF (fun x y=>divD x y p false) (endsL a) (endsL b)).1=0
   ·rw [h0,wc rfl,ztc ha hb hp]
    simp only [obn]
    rw [zlO (zo8 ha hb) (hW true) (by have:=hl true; omega)]
    simp only [obn]
    rw [qU]
    simp only [obn]
    generalize minL (fourF (fun x y=>divD x y p false) (endsL a) (endsL b)).2=m
    rw [← zo7 (fun x y=>divD x y p true) a.lo a.hi b.lo b.hi (endsL a) (endsL b) (Qv ha) (Qv hb) zI (fun _ M=>(⟨m,M⟩,0))]
    by_cases h1:(fourF (fun x y=>divD x y p true) (endsL a) (endsL b)).1=0
    ·rw [wc h1,wc h1,h1]
    ·rw [we h1,we h1]
   ·rw [we h0]
    obtain ⟨L,l1,l2,l3,l4⟩:=zzI ha hb hp true h0
    rw [l1]
    simp only [obn]
    rw [zlO l2 l4 wa]
    simp only [obn]
    rw [qU,we h0]
    simp only [obn]
 ·rw [wc (Zu h),zu h,zw]
theorem zY {a b:Nat} (h:a≤b):(a:Rat)≤(b:Rat):=by exact_mod_cast h
theorem zzK {a b:Nat} (h:a<b):(a:Rat)<(b:Rat):=by exact_mod_cast h
theorem natCast_nonneg (a:Nat):(0:Rat)≤(a:Rat):=by exact_mod_cast Nat.zero_le a
theorem qL {a b p:Rat} (hp:0<p):a*p≤b*p↔a≤b:=by
 constructor
 ·intro h
  by_cases h':a≤b
  ·exact h'
  ·have:=Rat.mul_lt_mul_of_pos_right (show b<a by grind) hp
   grind
 ·intro h; exact Rat.mul_le_mul_of_nonneg_right h (Rat.le_of_lt hp)
theorem Qf (neg:Bool) (m:Nat) (e:Int) (s:Bool) (p:Nat) (away:Bool):val (Zt neg m e s p away)=(sg neg (cutN m s p away):Rat)*p2 (e+(blen m-p:Nat)):=by
 unfold Zt; rw [ziv]
theorem zzL (m:Nat) (s:Bool) (p:Nat):cutN m s p false*2 ^ (blen m-p)≤m:=by
 unfold cutN
 simp only [Bool.and_false,Bool.false_eq_true,if_false,Nat.add_zero]
 exact Nat.div_mul_le_self _ _
theorem zzM (m:Nat) (s:Bool) (p:Nat):m+(if s then 1 else 0)≤cutN m s p true*2 ^ (blen m-p):=by
 unfold cutN
 have h1:=Nat.div_add_mod m (2 ^ (blen m-p))
 have hp:0<2 ^ (blen m-p):=Nat.pow_pos (by decide)
 have h2:=Nat.mod_lt m hp
 generalize 2 ^ (blen m-p)=W at *
 rw [Nat.add_mul,Nat.mul_comm (m / W) W]
 cases s with
 | true=>simp; omega
 | false=>
  by_cases h:m % W=0
  ·simp [h]; omega
  ·simp [h]; omega
theorem zo9 (m:Nat) (s:Bool) (p:Nat) (away:Bool):cutN m s p away≤2 ^ p:=by
 unfold cutN
 have h1:=Zk m
 have h2:m / 2 ^ (blen m-p)<2 ^ p:=by
  rw [Nat.div_lt_iff_lt_mul (Nat.pow_pos (by decide)),← Nat.pow_add]
  exact Nat.lt_of_lt_of_le h1 (Nat.pow_le_pow_right (by decide) wa)
 split<;>omega
theorem ztd (m:Nat) (s:Bool) (p:Nat) (away:Bool) (h:0<blen m-p):2 ^ (p-1)≤cutN m s p away∨p=0:=by
 rcases Nat.eq_zero_or_pos p with hp | hp
 ·exact Or.inr hp
 ·left
  have h0:m≠0:=by intro h0; subst h0; rw [zag] at h; omega
  have h1:=QR h0
  unfold cutN
  refine Nat.le_trans ?_ (Nat.le_add_right _ _)
  rw [Nat.le_div_iff_mul_le (Nat.pow_pos (by decide)),← Nat.pow_add]
  refine Nat.le_trans (Nat.pow_le_pow_right (by decide) wa) h1
def rnd (x:D) (p:Nat) (up:Bool):D:=Zt (decide (x.m<0)) x.m.natAbs x.e false p (up != decide (x.m<0))
theorem zpa (x:D) (p:Nat) (up:Bool):zn x p up=qr (rnd x p up):=rfl
theorem qG (e:Int) (n:Nat):p2 (e+(n:Nat))=((2 ^ n:Nat):Rat)*p2 e:=by rw [Int.add_comm,zy,qS]
theorem ZH {x:D} (h:¬x.m<0):val x=(x.m.natAbs:Rat)*p2 x.e:=by
 unfold val
 congr 1
 have:x.m=(x.m.natAbs:Int):=wa
 conv=>lhs; rw [this]
 rw [Rat.intCast_natCast]
theorem ZI {x:D} (h:x.m<0):val x = -((x.m.natAbs:Rat)*p2 x.e):=by
 unfold val
 have:x.m = -(x.m.natAbs:Int):=wa
 conv=>lhs; rw [this]
 rw [Rat.intCast_neg,Rat.intCast_natCast,Rat.neg_mul]
theorem Qg (n:Nat):((sg false n:Int):Rat)=(n:Rat):=by
 show (((n:Nat):Int):Rat)=(n:Rat)
 rw [Rat.intCast_natCast]
theorem Qi (n:Nat):((sg true n:Int):Rat) = -(n:Rat):=by
 show ((-((n:Nat):Int):Int):Rat) = -(n:Rat)
 rw [Rat.intCast_neg,Rat.intCast_natCast]
theorem zlR (m:Nat) (e:Int) (s:Bool) (p:Nat):((cutN m s p false:Nat):Rat)*p2 (e+(blen m-p:Nat))≤(m:Rat)*p2 e:=by
 rw [qG,← Rat.mul_assoc,← Rat.natCast_mul,qL (zb e)]
 exact zY (zzL m s p)
theorem zlS (m:Nat) (e:Int) (s:Bool) (p:Nat):((m+(if s then 1 else 0):Nat):Rat)*p2 e≤((cutN m s p true:Nat):Rat)*p2 (e+(blen m-p:Nat)):=by
 rw [qG,← Rat.mul_assoc,← Rat.natCast_mul,qL (zb e)]
 exact zY (zzM m s p)
theorem zlT (x:D) (p:Nat):val (rnd x p false)≤val x:=by
 unfold rnd
 rw [Qf]
 by_cases h:x.m<0
 ·rw [ZI h,decide_eq_true h,Qi]
  have:=zlS x.m.natAbs x.e false p
  simp at this ⊢
  grind
 ·rw [ZH h,decide_eq_false h,Qg]
  exact zlR _ _ _ _
theorem zlU (x:D) (p:Nat):val x≤val (rnd x p true):=by
 unfold rnd
 rw [Qf]
 by_cases h:x.m<0
 ·rw [ZI h,decide_eq_true h,Qi]
  have:=zlR x.m.natAbs x.e false p
  simp at this ⊢
  grind
 ·rw [ZH h,decide_eq_false h,Qg]
  have:=zlS x.m.natAbs x.e false p
  simp at this ⊢
  exact this
def rep (p:Nat) (q:Rat):Prop:=∃ (w f:Int),q=(w:Rat)*p2 f∧w.natAbs≤2 ^ p
theorem zlV (x:D) (p:Nat) (up:Bool):rep p (val (rnd x p up)):=by
 unfold rnd
 rw [Qf]
 exact ⟨_,_,rfl,by rw [zbm]; exact zo9 _ _ _ _⟩
theorem zzN (x:D) (p:Nat) (up:Bool):val (rnd (negD x) p (!up)) = -val (rnd x p up):=by
 unfold rnd
 have e1:(negD x).m.natAbs=x.m.natAbs:=by unfold negD; simp
 have e2:(negD x).e=x.e:=rfl
 rw [Qf,Qf,e1,e2]
 have hm:(negD x).m = -x.m:=rfl
 rcases (show x.m<0∨x.m=0∨0<x.m by omega) with h | h | h
 ·rw [decide_eq_true h,decide_eq_false (show ¬(negD x).m<0 by omega),Qi,Qg]
  have:((!up) != false)=(up != true):=by cases up<;>rfl
  rw [this,Rat.neg_mul,Rat.neg_neg]
 ·rw [decide_eq_false (show ¬x.m<0 by omega),decide_eq_false (show ¬(negD x).m<0 by omega),h]
  have:∀ b,cutN (0:Int).natAbs false p b=0:=by intro b; unfold cutN; simp
  rw [this,this]
  simp [sg]
 ·rw [decide_eq_false (show ¬x.m<0 by omega),decide_eq_true (show (negD x).m<0 by omega),Qi,Qg]
  have:((!up) != true)=(up != false):=by cases up<;>rfl
  rw [this,Rat.neg_mul]
theorem ziL {a b:Nat} (h:(a:Rat)≤(b:Rat)):a≤b:=by exact_mod_cast h
theorem zzO {a b:Int} (h:a<b):p2 a<p2 b:=by
 have h1:=qe (show a+1≤b by omega)
 have h2:=zb a
 rw [zy] at h1
 have:p2 1=2:=by rw [show (1:Int)=((1:Nat):Int) by rfl,qS]; rfl
 rw [this] at h1
 grind
theorem zgp {a b:Int} : p2 a≤p2 b↔a≤b:=by
 constructor
 ·intro h
  rcases (show a≤b∨b<a by omega) with h1 | h1
  ·exact h1
  ·have:=zzO h1; grind
 ·exact qe
theorem zzP {m p:Nat} (h:blen m-p=0) (away:Bool):cutN m false p away=m:=by
 unfold cutN; rw [h]; simp [Nat.mod_one]
theorem zzQ {x:D} {p:Nat} (h:blen x.m.natAbs-p=0) (up:Bool):val (rnd x p up)=val x:=by
 unfold rnd
 rw [Qf,h,zzP h]
 by_cases hx:x.m<0
 ·rw [decide_eq_true hx,Qi,ZI hx,Rat.neg_mul]; simp
 ·rw [decide_eq_false hx,Qg,ZH hx]; simp
theorem ziM {w:Int} {p:Nat} (hw:w.natAbs≤2 ^ p) (f:Int):(w.natAbs:Rat)*p2 f≤p2 (f+(p:Nat)):=by
 rw [qG,qL (zb f)]; exact zY hw
theorem zpb {x:D} {p:Nat} (hp:1≤p) {y:Rat} (hy:rep p y) (h:y≤val x):y≤val (rnd x p false):=by
 by_cases hn0:blen x.m.natAbs-p=0
 ·rw [zzQ hn0]; exact h
 obtain ⟨w,f,rfl,hw⟩:=hy
 have hwb:=ziM hw f
 unfold rnd
 rw [Qf]
 generalize hn:blen x.m.natAbs-p=n at *
 have hM0:x.m.natAbs≠0:=by intro h0; rw [h0,zag] at hn; omega
 have hMge:=QR hM0
 have hbl:blen x.m.natAbs=n+p:=wa
 rw [hbl] at hMge
 by_cases hx:x.m<0
 ·
  rw [decide_eq_true hx,Qi]
  rw [ZI hx] at h
  have hb:(false != true)=true:=rfl
  rw [hb]
  generalize x.m.natAbs=M at *
  have hMpos:(0:Rat)<(M:Rat)*p2 x.e:=Rat.mul_pos (by exact_mod_cast (Nat.pos_of_ne_zero hM0)) (zb x.e)
  have hw0:w<0:=by
   rcases (show w<0∨0≤w by omega) with h1 | h1
   ·exact h1
   ·have h2:(0:Rat)≤(w:Rat):=by exact_mod_cast h1
    have h3:=Rat.mul_nonneg h2 (Rat.le_of_lt (zb f))
    grind
  obtain ⟨v,rfl⟩:∃ v:Nat,w = -(v:Int):=⟨w.natAbs,wa⟩
  rw [Int.natAbs_neg,Int.natAbs_natCast] at hwb hw
  rw [Rat.intCast_neg,Rat.intCast_natCast] at h ⊢
  have h1:(M:Rat)*p2 x.e≤(v:Rat)*p2 f:=by grind
  have goal:((cutN M false p true:Nat):Rat)*p2 (x.e+(n:Nat))≤(v:Rat)*p2 f:=by
   have hp2:0<2 ^ n:=Nat.pow_pos (by decide)
   have h3:=Nat.div_add_mod M (2 ^ n)
   have h4:=Nat.mod_lt M hp2
   by_cases hf:x.e+(n:Nat)≤f
   ·
    obtain ⟨k,hk⟩:∃ k:Nat,f=x.e+(n:Nat)+(k:Nat):=⟨(f-(x.e+(n:Nat))).toNat,wa⟩
    rw [hk,qG _ k,← Rat.mul_assoc,qL (zb _),← Rat.natCast_mul]
    rw [hk,qG _ k,qG _ n,← Rat.mul_assoc,← Rat.mul_assoc,qL (zb _),← Rat.natCast_mul,← Rat.natCast_mul] at h1
    have h2:=ziL h1
    apply zY
    unfold cutN
    rw [hn]
    simp only [Bool.false_or,Bool.and_true]
    by_cases hr:M % 2 ^ n=0
    ·simp only [hr,bne_self_eq_false,Bool.false_eq_true,if_false,Nat.add_zero]
     have h6:M / 2 ^ n*2 ^ n≤v*2 ^ k*2 ^ n:=by rw [Nat.mul_comm (M / 2 ^ n)]; omega
     exact Nat.le_of_mul_le_mul_right h6 hp2
    ·have:(M % 2 ^ n != 0)=true:=by simpa using hr
     rw [this,wc rfl]
     have h5:M / 2 ^ n*2 ^ n<v*2 ^ k*2 ^ n:=by rw [Nat.mul_comm (M / 2 ^ n)]; omega
     exact Nat.lt_of_mul_lt_mul_right h5
   ·
    have h5:(M:Rat)*p2 x.e≤p2 (x.e+((n+p-1:Nat):Int)):=by
     have:=qe (show f+(p:Nat)≤x.e+((n+p-1:Nat):Int) by omega)
     grind
    rw [qG,qL (zb _)] at h5
    have h6:=ziL h5
    have hMe:M=2 ^ (n+p-1):=wa
    have hMd:M=2 ^ n*2 ^ (p-1):=by rw [hMe,← Nat.pow_add]; congr 1; omega
    have hc:cutN M false p true*2 ^ n=M:=by
     unfold cutN
     rw [hn,hMd,Nat.mul_mod_right,Nat.mul_div_cancel_left _ hp2]
     simp [Nat.mul_comm]
    rw [qG,← Rat.mul_assoc,← Rat.natCast_mul,hc]
    exact h1
  grind
 ·rw [decide_eq_false hx,Qg]
  rw [ZH hx] at h
  have hb:(false != false)=false:=rfl
  rw [hb]
  have hge:=ztd x.m.natAbs false p false wa
  generalize x.m.natAbs=M at *
  have hnn:(0:Rat)≤((cutN M false p false:Nat):Rat)*p2 (x.e+(n:Nat)):=Rat.mul_nonneg (natCast_nonneg _) (Rat.le_of_lt (zb _))
  rcases (show w≤0∨0<w by omega) with h1 | h1
  ·have h2:(w:Rat)≤0:=by exact_mod_cast h1
   have h3:=Rat.mul_nonneg (show (0:Rat) ≤ -(w:Rat) by grind) (Rat.le_of_lt (zb f))
   grind
  ·obtain ⟨v,rfl⟩:∃ v:Nat,w=(v:Int):=⟨w.natAbs,wa⟩
   rw [Int.natAbs_natCast] at hwb hw
   rw [Rat.intCast_natCast] at h ⊢
   by_cases hf:x.e+(n:Nat)≤f
   ·obtain ⟨k,hk⟩:∃ k:Nat,f=x.e+(n:Nat)+(k:Nat):=⟨(f-(x.e+(n:Nat))).toNat,wa⟩
    rw [hk,qG _ k,← Rat.mul_assoc,qL (zb _),← Rat.natCast_mul]
    rw [hk,qG _ k,qG _ n,← Rat.mul_assoc,← Rat.mul_assoc,qL (zb _),← Rat.natCast_mul,← Rat.natCast_mul] at h
    have h2:=ziL h
    apply zY
    unfold cutN
    rw [hn]
    simp only [Bool.and_false,Bool.false_eq_true,if_false,Nat.add_zero]
    rw [Nat.le_div_iff_mul_le (Nat.pow_pos (by decide))]
    exact h2
   ·have h3:2 ^ (p-1)≤cutN M false p false:=by
     rcases hge with h3 | h3
     ·exact h3
     ·omega
    have h4:=zY h3
    have h5:=Rat.mul_le_mul_of_nonneg_right h4 (Rat.le_of_lt (zb (x.e+(n:Nat))))
    rw [← qG] at h5
    have:=qe (show f+(p:Nat)≤x.e+(n:Nat)+((p-1:Nat):Int) by omega)
    grind
theorem zb5 {p:Nat} {y:Rat} (h:rep p y):rep p (-y):=by
 obtain ⟨w,f,rfl,hw⟩:=h
 exact ⟨-w,f,by rw [Rat.intCast_neg,Rat.neg_mul],by rwa [Int.natAbs_neg]⟩
theorem zte {x:D} {p:Nat} (hp:1≤p) {y:Rat} (hy:rep p y) (h:val x≤y):val (rnd x p true)≤y:=by
 have h1:=zzN x p true
 have h2:=zpb (x:=negD x) hp (zb5 hy) (by rw [qK]; grind)
 rw [show (!true)=false by rfl] at h1
 rw [h1] at h2
 grind
def G (L:Int) (q:Rat):Prop:=∃ z:Int,q=(z:Rat)*p2 L
def B (H:Int) (q:Rat):Prop:=-(p2 H)≤q∧q≤p2 H
theorem G.add {L:Int} {x y:Rat} (hx:G L x) (hy:G L y):G L (x+y):=by
 obtain ⟨a,rfl⟩:=hx
 obtain ⟨b,rfl⟩:=hy
 exact ⟨a+b,by rw [Rat.intCast_add]; grind⟩
theorem G.neg {L:Int} {x:Rat} (hx:G L x):G L (-x):=by
 obtain ⟨a,rfl⟩:=hx
 exact ⟨-a,by rw [Rat.intCast_neg]; grind⟩
theorem G.mul {L M:Int} {x y:Rat} (hx:G L x) (hy:G M y):G (L+M) (x*y):=by
 obtain ⟨a,rfl⟩:=hx
 obtain ⟨b,rfl⟩:=hy
 exact ⟨a*b,by rw [Rat.intCast_mul,zy]; grind⟩
theorem G.mono {L M:Int} {x:Rat} (hx:G L x) (h:M≤L):G M x:=by
 obtain ⟨a,rfl⟩:=hx
 exact ⟨a*2 ^ (L-M).toNat,by rw [Rat.intCast_mul,Rat.mul_assoc,← zcP h]⟩
theorem G.zero (L:Int):G L 0:=⟨0,wb⟩
theorem G.of {z:Int} {L M:Int} (h:M≤L):G M ((z:Rat)*p2 L):=G.mono ⟨z,rfl⟩ h
theorem B.mono {H K:Int} {x:Rat} (hx:B H x) (h:H≤K):B K x:=by
 have:=qe h
 unfold B at *
 grind
theorem zlW (H:Int):p2 (H+1)=2*p2 H:=by
 rw [zy,show (1:Int)=((1:Nat):Int) by rfl,qS]
 have:((2 ^ 1:Nat):Rat)=2:=by rfl
 rw [this]; grind
theorem B.add {H:Int} {x y:Rat} (hx:B H x) (hy:B H y):B (H+1) (x+y):=by
 unfold B at *
 rw [zlW]
 grind
theorem B.neg {H:Int} {x:Rat} (hx:B H x):B H (-x):=by unfold B at *; grind
theorem B.zero (H:Int):B H 0:=by have:=zb H; unfold B; grind
theorem zlX {a b x y:Rat} (hx : -a≤x∧x≤a) (hy : -b≤y∧y≤b) : -(a*b)≤x*y∧x*y≤a*b:=by
 have h1:=Rat.mul_nonneg (show 0≤a-x by grind) (show 0≤b-y by grind)
 have h2:=Rat.mul_nonneg (show 0≤a+x by grind) (show 0≤b+y by grind)
 have h3:=Rat.mul_nonneg (show 0≤a-x by grind) (show 0≤b+y by grind)
 have h4:=Rat.mul_nonneg (show 0≤a+x by grind) (show 0≤b-y by grind)
 constructor<;>grind
theorem B.mul {H K:Int} {x y:Rat} (hx:B H x) (hy:B K y):B (H+K) (x*y):=by
 unfold B at *
 rw [zy]
 exact zlX hx hy
def odd0 (d:D):Prop:=(d.m=0→d.e=0)∧(d.m≠0→d.m % 2=1)
theorem WD.odd0 {d:D} (h:WD d):odd0 d:=by
 rcases h.1 with h1 | h1
 ·exact ⟨fun _=>h1.2,fun h=>absurd h1.1 h⟩
 ·exact ⟨fun h=>wa,fun _=>h1.1⟩
theorem G_e {d:D} (ho:odd0 d) (h0:d.m≠0) {L:Int} (h:G L (val d)):L≤d.e:=by
 rcases (show L≤d.e∨d.e<L by omega) with h1 | h1
 ·exact h1
 ·exfalso
  obtain ⟨z,hz⟩:=h
  have hp:=zb d.e
  have e1:(d.m:Rat)=((z*2 ^ (L-d.e).toNat:Int):Rat):=by
   unfold val at hz
   rw [zcP (show d.e≤L by omega),← Rat.mul_assoc,← Rat.intCast_mul] at hz
   have:=congrArg (· * (p2 d.e)⁻¹) hz
   simp only [Rat.mul_assoc] at this
   rw [Rat.mul_inv_cancel _ (by grind),Rat.mul_one,Rat.mul_one] at this
   exact this
  have e2:d.m=z*2 ^ (L-d.e).toNat:=by exact_mod_cast e1
  obtain ⟨k,hk⟩:∃ k,(L-d.e).toNat=k+1:=⟨(L-d.e).toNat-1,wa⟩
  rw [hk,Int.pow_succ,← Int.mul_assoc] at e2
  have:=ho.2 h0
  omega
theorem zpc (d:D):(negD d).m.natAbs=d.m.natAbs:=by unfold negD; simp
theorem zgq {d:D} (h0:d.m≠0) {H:Int} (h:B H (val d)):d.e+(blen d.m.natAbs:Nat)≤H+1:=by
 rcases (show 0<d.m∨d.m<0 by omega) with h1 | h1
 ·have h2:=zoO h1
  have h3:p2 (d.e+(blen d.m.natAbs:Nat)-1)≤p2 H:=by have:=h.2; grind
  have:=zgp.1 h3
  omega
 ·have h2:=zoO (d:=negD d) (by show 0 < -d.m; omega)
  rw [qK,zpc] at h2
  have h4:(negD d).e=d.e:=rfl
  rw [h4] at h2
  have h3:p2 (d.e+(blen d.m.natAbs:Nat)-1)≤p2 H:=by have:=h.1; grind
  have:=zgp.1 h3
  omega
theorem ztf {d:D} (ho:odd0 d) {L H:Int} (hG:G L (val d)) (hB:B H (val d)) (hL : -60000≤L) (hH:H≤60000):inR d=true:=by
 unfold inR
 by_cases h0:d.m=0
 ·simp [h0]
 ·have h1:=G_e ho h0 hG
  have h2:=zgq h0 hB
  have h3:=zbW (n:=d.m.natAbs) wa
  have:(d.m == 0)=false:=by simp [h0]
  rw [this,Bool.false_or]
  exact decide_eq_true wa
theorem zzR {d:D} (h:inR d=true):qr d=(d,0):=by unfold qr; rw [wc h]
structure Okd (d:D) (L H:Int):Prop where
 w:WD d
 g:G L (val d)
 b:B H (val d)
theorem Okd.mono {d:D} {L H L' H':Int} (h:Okd d L H) (h1:L'≤L) (h2:H≤H'):Okd d L' H':=⟨h.w,h.g.mono h1,h.b.mono h2⟩
theorem Okd.neg {d:D} {L H:Int} (h:Okd d L H):Okd (negD d) L H:=⟨h.w.neg,by rw [qK]; exact h.g.neg,by rw [qK]; exact h.b.neg⟩
theorem ztg (L H:Int):Okd zD L H:=⟨qj,by rw [qT]; exact G.zero L,by rw [qT]; exact B.zero H⟩
theorem ziN {d:D} (ho:odd0 d) {L H:Int} (hG:G L (val d)) (hB:B H (val d)) (hL : -60000≤L) (hH:H≤60000):qr d=(d,0)∧Okd d L H:=by
 have ht:=zzR (ztf ho hG hB hL hH)
 refine ⟨ht,⟨?_,hG,hB⟩⟩
 have:=zgh ho
 rw [ht] at this
 exact this
theorem zlY {x y:D} {L H:Int} (hx:Okd x L H) (hy:Okd y L H) (hL : -60000≤L) (hH:H+1≤60000):∃ d,zH x y=(d,0)∧val d=val x+val y∧Okd d L (H+1):=by
 have hv:=zoN x y
 obtain ⟨h1,h2⟩:=ziN (d:=sumD x y) (L:=L) (H:=H+1) (zsA hx.w hy.w) (by rw [hv]; exact hx.g.add hy.g) (by rw [hv]; exact hx.b.add hy.b) hL hH
 exact ⟨sumD x y,h1,hv,h2⟩
theorem zlZ {x y:D} {L H M K:Int} (hx:Okd x L H) (hy:Okd y M K) (hL : -60000≤L+M) (hH:H+K≤60000):∃ d,timesD x y=(d,0)∧val d=val x*val y∧Okd d (L+M) (H+K):=by
 have hv:=zyQ x y
 obtain ⟨h1,h2⟩:=ziN (d:=mulD x y) (L:=L+M) (H:=H+K) (zb0 _ _) (by rw [hv]; exact hx.g.mul hy.g) (by rw [hv]; exact hx.b.mul hy.b) hL hH
 exact ⟨mulD x y,h1,hv,h2⟩
theorem zth {x:D} {n:Int} : val ⟨x.m,x.e+n⟩=val x*p2 n:=by unfold val; simp only; rw [zy,Rat.mul_assoc]
theorem zti {x:D} {L H n:Int} (hx:Okd x L H) (hL : -60000≤L+n) (hH:H+n≤60000):∃ d,qz x n=(d,0)∧val d=val x*p2 n∧Okd d (L+n) (H+n):=by
 unfold qz
 by_cases h:x.m=0
 ·rw [wc h]
  exact ⟨zD,rfl,by rw [qT,QT h,Rat.zero_mul],ztg _ _⟩
 ·rw [we h]
  have hv:=zth (x:=x) (n:=n)
  have hg:G (L+n) (val ⟨x.m,x.e+n⟩):=by
   rw [hv]; exact hx.g.mul ⟨1,wb⟩
  have hb:B (H+n) (val ⟨x.m,x.e+n⟩):=by
   rw [hv]
   have:=hx.b
   unfold B at *
   rw [zy]
   have hp:=zb n
   have h1:=Rat.mul_le_mul_of_nonneg_right this.1 (Rat.le_of_lt hp)
   have h2:=Rat.mul_le_mul_of_nonneg_right this.2 (Rat.le_of_lt hp)
   grind
  obtain ⟨h1,h2⟩:=ziN (d:=⟨x.m,x.e+n⟩) ⟨fun h0=>absurd h0 h,fun _=>hx.w.odd0.2 h⟩ hg hb hL hH
  exact ⟨_,h1,hv,h2⟩
theorem zzS {x:D} {L:Int} (ho:odd0 x) (h:G L (val x)) (p:Nat) (up:Bool):G L (val (rnd x p up)):=by
 unfold rnd
 rw [Qf]
 by_cases h0:x.m=0
 ·have:∀ b,cutN (x.m).natAbs false p b=0:=by intro b; rw [h0]; unfold cutN; simp
  rw [this]
  have:sg (decide (x.m<0)) 0=0:=by rw [zoK]
  rw [this]
  simp
  exact G.zero L
 ·have:=G_e ho h0 h
  exact G.of wa
theorem qM (p:Nat) (H:Int):rep p (p2 H):=⟨1,H,wb,by have:=Nat.pow_pos (n:=p) (show 0<2 by decide); simp; omega⟩
theorem zzT {x:D} {H:Int} (h:B H (val x)) {p:Nat} (hp:1≤p) (up:Bool):B H (val (rnd x p up)):=by
 have h1:=zlT x p
 have h2:=zlU x p
 cases up with
 | false=>
  have:=zpb hp (zb5 (qM p H)) h.1
  exact ⟨this,by have:=h.2; grind⟩
 | true=>
  have:=zte hp (qM p H) h.2
  exact ⟨by have:=h.1; grind,this⟩
theorem ztj {x:D} {L H:Int} (hx:Okd x L H) {p:Nat} (hp:1≤p) (up:Bool) (hL : -60000≤L) (hH:H≤60000):zn x p up=(rnd x p up,0)∧Okd (rnd x p up) L H:=by
 rw [zpa]
 exact ziN (zb0 _ _) (zzS hx.w.odd0 hx.g p up) (zzT hx.b hp up) hL hH
structure OkI (a:I) (L H:Int):Prop where
 lo:Okd a.lo L H
 hi:Okd a.hi L H
 le:val a.lo≤val a.hi
theorem OkI.ok {a:I} {L H:Int} (h:OkI a L H):okI a:=⟨h.lo.w,h.hi.w,h.le⟩
theorem OkI.mono {a:I} {L H L' H':Int} (h:OkI a L H) (h1:L'≤L) (h2:H≤H'):OkI a L' H':=⟨h.lo.mono h1 h2,h.hi.mono h1 h2,h.le⟩
theorem OkI.neg {a:I} {L H:Int} (h:OkI a L H):OkI (negI a) L H:=⟨h.hi.neg,h.lo.neg,(zlK h.ok).2.2⟩
structure Enc (p:Nat) (c:I) (u v:Rat):Prop where
 lo:val c.lo≤u
 hi:v≤val c.hi
 blo:∀ q,rep p q→q≤u→q≤val c.lo
 bhi:∀ q,rep p q→v≤q→val c.hi≤q
 rlo:rep p (val c.lo)
 rhi:rep p (val c.hi)
theorem zzU {x y:D} {p:Nat} (hp:1≤p) {u v:Rat} (hx:val x=u) (hy:val y=v):Enc p ⟨rnd x p false,rnd y p true⟩ u v:=by
 subst hx; subst hy
 exact ⟨zlT x p,zlU y p,fun q h1 h2=>zpb hp h1 h2,fun q h1 h2=>zte hp h1 h2,zlV _ _ _,zlV _ _ _⟩
theorem zl0 {x y:D} {L H:Int} (hx:Okd x L H) (hy:Okd y L H) (hle:val x≤val y) {p:Nat} (hp:1≤p) (hL : -60000≤L) (hH:H≤60000) :
  ∃ c,(zo (zn x p false) zI fun lo=>zo (zn y p true) zI fun hi=>((⟨lo,hi⟩:I),0))=(c,0)∧OkI c L H∧Enc p c (val x) (val y):=by
 obtain ⟨r1,o1⟩:=ztj hx hp false hL hH
 obtain ⟨r2,o2⟩:=ztj hy hp true hL hH
 refine ⟨⟨rnd x p false,rnd y p true⟩,?_,⟨o1,o2,?_⟩,zzU hp rfl rfl⟩
 ·rw [r1,ze rfl,r2,ze rfl]
 ·have h1:=zlT x p
  have h2:=zlU y p
  show val (rnd x p false)≤val (rnd y p true)
  grind
theorem zbs {a b:I} {L H:Int} (ha:OkI a L H) (hb:OkI b L H) {p:Nat} (hp:1≤p) (hL : -60000≤L) (hH:H+1≤60000) :
  ∃ c,ZY p a b=(c,0)∧OkI c L (H+1)∧Enc p c (val a.lo+val b.lo) (val a.hi+val b.hi):=by
 obtain ⟨s,s1,s2,s3⟩:=zlY ha.lo hb.lo hL hH
 obtain ⟨t,t1,t2,t3⟩:=zlY ha.hi hb.hi hL hH
 have h1:=ha.le
 have h2:=hb.le
 obtain ⟨c,c1,c2,c3⟩:=zl0 s3 t3 (by grind) hp hL hH
 refine ⟨c,?_,c2,by rw [← s2,← t2]; exact c3⟩
 unfold ZY
 rw [s1,ze rfl,t1,← c1]
 congr 1
theorem ziO {a:I} {L H:Int} (ha:OkI a L H) {p:Nat} (hp:1≤p) (hL : -60000≤L) (hH:H≤60000) :
  ∃ c,zaj p a=(c,0)∧OkI c L H∧Enc p c (val a.lo) (val a.hi):=zl0 ha.lo ha.hi ha.le hp hL hH
theorem zl1 {a:I} {L H:Int} (ha:OkI a L H) {d:D} (hd:Okd d L H) (hd0:0≤val d) {p:Nat} (hp:1≤p) (hL : -60000≤L) (hH:H+1≤60000) :
  ∃ c,ZZ p a d=(c,0)∧OkI c L (H+1)∧Enc p c (val a.lo-val d) (val a.hi+val d):=by
 obtain ⟨s,s1,s2,s3⟩:=zlY ha.lo hd.neg hL hH
 obtain ⟨t,t1,t2,t3⟩:=zlY ha.hi hd hL hH
 rw [qK] at s2
 have h1:=ha.le
 obtain ⟨c,c1,c2,c3⟩:=zl0 s3 t3 (by grind) hp hL hH
 refine ⟨c,?_,c2,by rw [← t2,show val a.lo-val d=val s by rw [s2]; grind]; exact c3⟩
 unfold ZZ
 rw [s1,ze rfl,t1,← c1]
 congr 1
theorem zgr {x y:D} {L H:Int} (hx:Okd x L H) (hy:Okd y L H):Okd (minD x y) L H:=by unfold minD; split<;>assumption
theorem zgs {x y:D} {L H:Int} (hx:Okd x L H) (hy:Okd y L H):Okd (maxD x y) L H:=by unfold maxD; split<;>assumption
theorem zl2 (a b c d:D):val (qk a b c d)≤val a∧val (qk a b c d)≤val b∧val (qk a b c d)≤val c∧val (qk a b c d)≤val d:=by
 have h1:=zgn a b
 have h2:=zgn (minD a b) c
 have h3:=zgn (minD (minD a b) c) d
 unfold qk
 grind
theorem zl3 (a b c d:D):val a≤val (qf a b c d)∧val b≤val (qf a b c d)∧val c≤val (qf a b c d)∧val d≤val (qf a b c d):=by
 have h1:=zgo a b
 have h2:=zgo (maxD a b) c
 have h3:=zgo (maxD (maxD a b) c) d
 unfold qf
 grind
theorem ztk (a b c d:D):val (qk a b c d)=val a∨val (qk a b c d)=val b∨val (qk a b c d)=val c∨val (qk a b c d)=val d:=by
 unfold qk
 rcases ziJ (minD (minD a b) c) d with h | h
 ·rw [h.1]
  rcases ziJ (minD a b) c with h | h
  ·rw [h.1]
   rcases ziJ a b with h | h
   ·rw [h.1]; left; rfl
   ·rw [h.1]; right; left; rfl
  ·rw [h.1]; right; right; left; rfl
 ·rw [h.1]; right; right; right; rfl
theorem ztl (a b c d:D):val (qf a b c d)=val a∨val (qf a b c d)=val b∨val (qf a b c d)=val c∨val (qf a b c d)=val d:=by
 unfold qf
 rcases ziK (maxD (maxD a b) c) d with h | h
 ·rw [h.1]
  rcases ziK (maxD a b) c with h | h
  ·rw [h.1]
   rcases ziK a b with h | h
   ·rw [h.1]; left; rfl
   ·rw [h.1]; right; left; rfl
  ·rw [h.1]; right; right; left; rfl
 ·rw [h.1]; right; right; right; rfl
structure Prod (a b:I) (u v:Rat):Prop where
 h1:u≤val a.lo*val b.lo∧val a.lo*val b.lo≤v
 h2:u≤val a.lo*val b.hi∧val a.lo*val b.hi≤v
 h3:u≤val a.hi*val b.lo∧val a.hi*val b.lo≤v
 h4:u≤val a.hi*val b.hi∧val a.hi*val b.hi≤v
 mu:u=val a.lo*val b.lo∨u=val a.lo*val b.hi∨u=val a.hi*val b.lo∨u=val a.hi*val b.hi
 mv:v=val a.lo*val b.lo∨v=val a.lo*val b.hi∨v=val a.hi*val b.lo∨v=val a.hi*val b.hi
theorem zak {a b:I} {L H M K:Int} (ha:OkI a L H) (hb:OkI b M K) {p:Nat} (hp:1≤p) (hL : -60000≤L+M) (hH:H+K≤60000) :
  ∃ c u v,Qw p a b=(c,0)∧OkI c (L+M) (H+K)∧Enc p c u v∧Prod a b u v:=by
 obtain ⟨q1,e1,v1,o1⟩:=zlZ ha.lo hb.lo hL hH
 obtain ⟨q2,e2,v2,o2⟩:=zlZ ha.lo hb.hi hL hH
 obtain ⟨q3,e3,v3,o3⟩:=zlZ ha.hi hb.lo hL hH
 obtain ⟨q4,e4,v4,o4⟩:=zlZ ha.hi hb.hi hL hH
 have m1:=zl2 q1 q2 q3 q4
 have m2:=zl3 q1 q2 q3 q4
 have omin:Okd (qk q1 q2 q3 q4) (L+M) (H+K):=zgr (zgr (zgr o1 o2) o3) o4
 have omax:Okd (qf q1 q2 q3 q4) (L+M) (H+K):=zgs (zgs (zgs o1 o2) o3) o4
 obtain ⟨c,c1,c2,c3⟩:=zl0 omin omax (by grind) hp hL hH
 refine ⟨c,_,_,?_,c2,c3,?_⟩
 ·unfold Qw Zf
  rw [e1,ze rfl,e2,ze rfl,e3,ze rfl,e4,ze rfl]
  exact c1
 ·have n1:=ztk q1 q2 q3 q4
  have n2:=ztl q1 q2 q3 q4
  rw [v1,v2,v3,v4] at *
  exact ⟨⟨m1.1,m2.1⟩,⟨m1.2.1,m2.2.1⟩,⟨m1.2.2.1,m2.2.2.1⟩,⟨m1.2.2.2,m2.2.2.2⟩,n1,n2⟩
theorem zpd {l h x y q:Rat} (h1:l≤x) (h2:x≤h) (h3:q≤l*y) (h4:q≤h*y):q≤x*y:=by
 rcases (show 0≤y∨y≤0 by grind) with hy | hy
 ·have:=Rat.mul_le_mul_of_nonneg_right h1 hy; grind
 ·have:=Rat.mul_le_mul_of_nonneg_right h2 (show 0 ≤ -y by grind); grind
theorem zpe {l h x y q:Rat} (h1:l≤x) (h2:x≤h) (h3:l*y≤q) (h4:h*y≤q):x*y≤q:=by
 rcases (show 0≤y∨y≤0 by grind) with hy | hy
 ·have:=Rat.mul_le_mul_of_nonneg_right h2 hy; grind
 ·have:=Rat.mul_le_mul_of_nonneg_right h1 (show 0 ≤ -y by grind); grind
instance:DecidableEq I:=fun x y=>
 if h:x.lo=y.lo∧x.hi=y.hi then isTrue (by cases x; cases y; simp only at h; rw [h.1,h.2]) else isFalse (fun e=>h (by rw [e]; exact ⟨rfl,rfl⟩))
theorem zzV {a:Int} (h:(Lit.int .u32 a).wf=true):0≤a∧a<4294967296:=by
 simp [Lit.wf,IntKind.min,IntKind.max,IntKind.signed,IntKind.bits] at h
 omega
theorem zzW {a:Int} (h:(Lit.int .i64 a).wf=true) : -9223372036854775808≤a∧a≤9223372036854775807:=by
 simp [Lit.wf,IntKind.min,IntKind.max,IntKind.signed,IntKind.bits] at h
 omega
theorem zzX {x:AD} (h:gAD x):Dig x.M.Mag:=fun d hd=>zzV (h.1.2.2 d hd)
theorem zgt {p:Nat} (hp:2≤p∧p≤400):Q8 (p:Int)=some (Sum.inr (0,0,(p:Int))):=by
 unfold Q8 znH
 rw [we wa,we (by simp; omega)]
theorem zzY {x y:I} (hx:okI x):zig (iv x) (iv y)=some (decide (x=y)):=by
 unfold zig zou
 rw [zM,zM,zR,zR,zsU hx.1.sz,zsU hx.2.1.sz]
 simp only [obn]
 have ext:x=y↔x.lo=y.lo∧x.hi=y.hi:=by
  constructor
  ·rintro rfl; exact ⟨rfl,rfl⟩
  ·intro h; cases x; cases y; simp only at h; rw [h.1,h.2]
 by_cases h:x.lo=y.lo
 ·rw [wc (by simpa using h)]
  congr 1
  apply decide_eq_decide.2
  rw [ext]; simp [h]
 ·rw [we (by simpa using h)]
  congr 1; symm; apply decide_eq_false
  rintro rfl; exact h rfl
theorem ziP:p2 (-1)=1 / 2:=by
 have h:=zy (-1) 1
 rw [show (-1:Int)+1=0 by decide,zN,show (1:Int)=((1:Nat):Int) by rfl,qS] at h
 have:((2 ^ 1:Nat):Rat)=2:=by rfl
 rw [this] at h
 grind
theorem zzZ {n:Int} (hn : -9223372036854775808≤n∧n≤9223372036854775807):okI (intI n):=zlJ (zb1 hn)
theorem zz0 {d:D} (h:(decide (d.m % 2=1) && decide (-131072≤d.e) && decide (d.e≤131072) && decide (blen d.m.natAbs≤262144))=true):WD d:=by
 simp only [Bool.and_eq_true,decide_eq_true_eq] at h
 exact ⟨Or.inr ⟨h.1.1.1,h.1.1.2,h.1.2⟩,h.2⟩
theorem zgu {a b z:Rat} (hb:b≠0) (h:z*b=a):a / b=z:=by
 rw [Rat.div_def,← h,Rat.mul_assoc,Rat.mul_inv_cancel _ hb,Rat.mul_one]
theorem ZJ {a b:Rat} (hb:b≠0):a / b*b=a:=by
 rw [Rat.div_def,Rat.mul_assoc,Rat.inv_mul_cancel _ hb,Rat.mul_one]
theorem zz1 (m:Nat) (s:Bool) (p:Nat) (away:Bool) (hp:1≤p):cutN m s p away*2 ^ (blen m-p)≤2*m+1:=by
 unfold cutN
 have h1:=Nat.div_mul_le_self m (2 ^ (blen m-p))
 have h2:2 ^ (blen m-p)≤m+1:=by
  by_cases h0:m=0
  ·subst h0; rw [zag]; simp
  ·have:=QR h0
   have h3:2 ^ (blen m-p)≤2 ^ (blen m-1):=Nat.pow_le_pow_right (by decide) wa
   omega
 rw [Nat.add_mul]
 split
 ·rw [Nat.one_mul]; omega
 ·omega
theorem zz2 (m:Nat) (e:Int) (s:Bool) (p:Nat) (away:Bool) (hp:1≤p):((cutN m s p away:Nat):Rat)*p2 (e+(blen m-p:Nat))≤((2*m+1:Nat):Rat)*p2 e:=by
 rw [qG,← Rat.mul_assoc,← Rat.natCast_mul,qL (zb e)]
 exact zY (zz1 m s p away hp)
theorem zz3 (m:Nat) (e:Int) (s:Bool) (p:Nat) (away:Bool):0≤((cutN m s p away:Nat):Rat)*p2 (e+(blen m-p:Nat)):=Rat.mul_nonneg (natCast_nonneg _) (Rat.le_of_lt (zb _))
theorem ratio {v Y:Nat} (hY:Y≠0):((v / Y:Nat):Rat)≤(v:Rat) / (Y:Rat)∧(v:Rat) / (Y:Rat)≤((v / Y+(if (v % Y != 0) then 1 else 0):Nat):Rat):=by
 have hp:(0:Rat)<(Y:Rat):=by exact_mod_cast Nat.pos_of_ne_zero hY
 have hm:=ZJ (a:=(v:Rat)) (b:=(Y:Rat)) (by grind)
 have h1:=Nat.div_add_mod v Y
 have h2:=Nat.mod_lt v (Nat.pos_of_ne_zero hY)
 constructor
 ·rw [← qL hp,hm,← Rat.natCast_mul]
  exact zY (Nat.div_mul_le_self _ _)
 ·rw [← qL hp,hm,← Rat.natCast_mul]
  apply zY
  by_cases h:v % Y=0
  ·have e:(v % Y != 0)=false:=by simpa using h
   rw [e]; simp; rw [Nat.mul_comm]; omega
  ·have e:(v % Y != 0)=true:=by simpa using h
   rw [e,wc rfl,Nat.add_mul,Nat.one_mul,Nat.mul_comm (v / Y) Y]; omega
theorem zz4 {d:D} {H:Int} (h:B H (val d)):(d.m.natAbs:Rat)*p2 d.e≤p2 H:=by
 by_cases hx:d.m<0
 ·have:=ZI hx; have:=h.1; grind
 ·have:=ZH hx; have:=h.2; grind
theorem Z1 {x y:D} {L H M K:Int} (hx:Okd x L H) (hy:Okd y M K) (hy0:val y≠0) {p:Nat} (hp:1≤p) (up:Bool) (hL : -60000≤L-K-p-2) (hH:H-M+2≤60000) :
  ∃ d,divD x y p up=(d,0)∧Okd d (L-K-p-2) (H-M+2)∧(up=false→val d≤val x / val y)∧(up=true→val x / val y≤val d):=by
 have hym:y.m≠0:=fun h=>hy0 (QT h)
 unfold divD
 rw [we hym]
 by_cases hxm:x.m=0
 ·rw [wc hxm]
  have:val x / val y=0:=zgu hy0 (by rw [QT hxm,Rat.zero_mul])
  rw [this]
  exact ⟨zD,rfl,ztg _ _,fun _=>by rw [qT]; exact Rat.le_refl,fun _=>by rw [qT]; exact Rat.le_refl⟩
 rw [we hxm]
 have gx:=G_e hx.w.odd0 hxm hx.g
 have gy:=G_e hy.w.odd0 hym hy.g
 have sx:=zgq hxm hx.b
 have sy:=zgq hym hy.b
 have bx:=zbW (n:=x.m.natAbs) wa
 have b_y:=zbW (n:=y.m.natAbs) wa
 have ax:=zz4 hx.b
 have hX0:x.m.natAbs≠0:=wa
 have hY0:y.m.natAbs≠0:=wa
 have hbv:=zcO hX0 (p+2+blen y.m.natAbs-blen x.m.natAbs)
 have hkE:L-K-p-2≤x.e-y.e-(p+2+blen y.m.natAbs-blen x.m.natAbs:Nat):=wa
 have hkb:blen y.m.natAbs<blen (x.m.natAbs*2 ^ (p+2+blen y.m.natAbs-blen x.m.natAbs)):=wa
 generalize p+2+blen y.m.natAbs-blen x.m.natAbs=k at *
 generalize hE:x.e-y.e-(k:Int)=E at *
 have hYle:p2 M≤(y.m.natAbs:Rat)*p2 y.e:=by
  have h1:=qe gy
  have h2:(1:Rat)≤(y.m.natAbs:Rat):=by exact_mod_cast (show 1≤y.m.natAbs by omega)
  have h3:=Rat.mul_le_mul_of_nonneg_right h2 (Rat.le_of_lt (zb y.e))
  grind
 have hvx:((x.m.natAbs*2 ^ k:Nat):Rat)*p2 (x.e-k)=(x.m.natAbs:Rat)*p2 x.e:=by
  rw [Rat.natCast_mul,Rat.mul_assoc,← qG]; congr 2; omega
 generalize hv:x.m.natAbs*2 ^ k=v at *
 have hr:=ratio (v:=v) hY0
 have hq1:1≤v / y.m.natAbs:=by
  rw [Nat.le_div_iff_mul_le wa,Nat.one_mul]
  rcases Nat.lt_or_ge v y.m.natAbs with h | h
  ·have:=zaf (Nat.le_of_lt h); omega
  ·exact h
 have hYp:(0:Rat)<(y.m.natAbs:Rat):=by exact_mod_cast Nat.pos_of_ne_zero hY0
 have hQ:(v:Rat) / (y.m.natAbs:Rat)*p2 E*((y.m.natAbs:Rat)*p2 y.e)=(x.m.natAbs:Rat)*p2 x.e:=by
  have e1:=ZJ (a:=(v:Rat)) (b:=(y.m.natAbs:Rat)) (by grind)
  have e2:p2 E*p2 y.e=p2 (x.e-k):=by rw [← zy]; congr 1; omega
  calc (v:Rat) / (y.m.natAbs:Rat)*p2 E*((y.m.natAbs:Rat)*p2 y.e)=((v:Rat) / (y.m.natAbs:Rat)*(y.m.natAbs:Rat))*(p2 E*p2 y.e):=by grind
   _=(x.m.natAbs:Rat)*p2 x.e:=by rw [e1,e2,hvx]
 have hpE:=zb E
 have hlo:=zlR (v / y.m.natAbs) E (v % y.m.natAbs != 0) p
 have hhi:=zlS (v / y.m.natAbs) E (v % y.m.natAbs != 0) p
 have hro:=fun away=>zz2 (v / y.m.natAbs) E (v % y.m.natAbs != 0) p away hp
 have hnn:=fun away=>zz3 (v / y.m.natAbs) E (v % y.m.natAbs != 0) p away
 have r1:=Rat.mul_le_mul_of_nonneg_right hr.1 (Rat.le_of_lt hpE)
 have r2:=Rat.mul_le_mul_of_nonneg_right hr.2 (Rat.le_of_lt hpE)
 have hq1':(1:Rat)≤((v / y.m.natAbs:Nat):Rat):=by exact_mod_cast hq1
 have r3:=Rat.mul_le_mul_of_nonneg_right hq1' (Rat.le_of_lt hpE)
 have hQle:(v:Rat) / (y.m.natAbs:Rat)*p2 E≤p2 (H-M):=by
  have hQ0:0≤(v:Rat) / (y.m.natAbs:Rat)*p2 E:=by grind
  have h1:=Rat.mul_le_mul_of_nonneg_left hYle hQ0
  rw [hQ] at h1
  have h2:p2 (H-M)*p2 M=p2 H:=by rw [← zy]; congr 1; omega
  rw [← qL (zb M),h2]
  grind
 have hcast:((2*(v / y.m.natAbs)+1:Nat):Rat)=2*((v / y.m.natAbs:Nat):Rat)+1:=by
  rw [Rat.natCast_add,Rat.natCast_mul]; rfl
 rw [hcast] at hro
 generalize hQv:(v:Rat) / (y.m.natAbs:Rat)*p2 E=Q at *
 have h2s:p2 (H-M+2)=4*p2 (H-M):=by rw [show H-M+2=H-M+1+1 by omega,zlW,zlW]; grind
 have hB:∀ neg away,B (H-M+2) (val (Zt neg (v / y.m.natAbs) E (v % y.m.natAbs != 0) p away)):=by
  intro neg away
  rw [Qf]
  have h1:=hro away
  have h2:=hnn away
  unfold B
  rw [h2s]
  cases neg with
  | true=>rw [Qi,Rat.neg_mul]; constructor<;>grind
  | false=>rw [Qg]; constructor<;>grind
 have hG:∀ neg away,G (L-K-p-2) (val (Zt neg (v / y.m.natAbs) E (v % y.m.natAbs != 0) p away)):=by
  intro neg away
  rw [Qf]
  exact G.of wa
 obtain ⟨t1,t2⟩:=ziN (d:=Zt (decide (x.m<0) != decide (y.m<0)) (v / y.m.natAbs) E (v % y.m.natAbs != 0) p (up != (decide (x.m<0) != decide (y.m<0)))) (zb0 _ _) (hG _ _) (hB _ _) hL hH
 refine ⟨_,t1,t2,?_⟩
 rw [Qf]
 have hsgn:val x / val y=if (decide (x.m<0) != decide (y.m<0))=true then -Q else Q:=by
  apply zgu hy0
  by_cases h1:x.m<0<;>by_cases h2:y.m<0
  ·rw [ZI h1,ZI h2,we (by simp [h1,h2])]; grind
  ·rw [ZI h1,ZH h2,wc (by simp [h1,h2])]; grind
  ·rw [ZH h1,ZI h2,wc (by simp [h1,h2])]; grind
  ·rw [ZH h1,ZH h2,we (by simp [h1,h2])]; grind
 rw [hsgn]
 generalize (decide (x.m<0) != decide (y.m<0))=neg
 cases neg with
 | true=>
  rw [wc rfl,Qi,Rat.neg_mul]
  constructor
  ·rintro rfl
   have:(false != true)=true:=rfl
   rw [this]
   grind
  ·rintro rfl
   have:(true != true)=false:=rfl
   rw [this]
   grind
 | false=>
  rw [we wb,Qg]
  constructor
  ·rintro rfl
   have:(false != false)=false:=rfl
   rw [this]
   grind
  ·rintro rfl
   have:(true != false)=true:=rfl
   rw [this]
   grind
theorem sq_le {a b:Rat} (ha:0≤a) (hb:0≤b) (h:a*a≤b*b):a≤b:=by
 by_cases h1:a≤b
 ·exact h1
 ·have h2:=Rat.mul_lt_mul_of_pos_right (show b<a by grind) (show 0<a by grind)
  have h3:=Rat.mul_le_mul_of_nonneg_left (show b≤a by grind) hb
  grind
theorem ztm {l y:Rat} (h:0<l*y) (hle:l≤y):y⁻¹≤l⁻¹:=by
 have hl:l≠0:=by intro h0; rw [h0] at h; simp at h
 have hy:y≠0:=by intro h0; rw [h0] at h; simp at h
 rw [← qL h]
 have e1:y⁻¹*(l*y)=l:=by
  rw [Rat.mul_comm l y,← Rat.mul_assoc,Rat.inv_mul_cancel _ hy,Rat.one_mul]
 have e2:l⁻¹*(l*y)=y:=by
  rw [← Rat.mul_assoc,Rat.inv_mul_cancel _ hl,Rat.one_mul]
 rw [e1,e2]; exact hle
theorem ztn {a b:Rat} (h:(0<a∧0<b)∨(a<0∧b<0)):0<a*b:=by
 rcases h with h | h
 ·exact Rat.mul_pos h.1 h.2
 ·have:=Rat.mul_pos (show 0 < -a by grind) (show 0 < -b by grind)
  grind
theorem ziQ {b:I} (h:hasI b zD=false):0<val b.lo∨val b.hi<0:=by
 have h1:=mt (zbq b zD).2 (by rw [h]; simp)
 rw [qT] at h1
 by_cases h2:val b.lo≤0
 ·right; by_cases h3:0≤val b.hi
  ·exact absurd ⟨h2,h3⟩ h1
  ·grind
 ·left; grind
theorem zpf {a b:I} {L H M K:Int} (ha:OkI a L H) (hb:OkI b M K) (hz:hasI b zD=false) {p:Nat} (hp:1≤p) (hL : -60000≤L-K-p-2) (hH:H-M+2≤60000) :
  ∃ c,Z0 p a b=(c,0)∧OkI c (L-K-p-2) (H-M+2)∧∀ x y:Rat,val a.lo≤x→x≤val a.hi→val b.lo≤y→y≤val b.hi→val c.lo≤x / y∧x / y≤val c.hi:=by
 have hs:=ziQ hz
 have hble:=hb.le
 have hale:=ha.le
 have nl:val b.lo≠0:=by grind
 have nh:val b.hi≠0:=by grind
 obtain ⟨q1,e1,o1,d1,-⟩:=Z1 ha.lo hb.lo nl hp false hL hH
 obtain ⟨q2,e2,o2,d2,-⟩:=Z1 ha.lo hb.hi nh hp false hL hH
 obtain ⟨q3,e3,o3,d3,-⟩:=Z1 ha.hi hb.lo nl hp false hL hH
 obtain ⟨q4,e4,o4,d4,-⟩:=Z1 ha.hi hb.hi nh hp false hL hH
 obtain ⟨r1,f1,u1,-,c1⟩:=Z1 ha.lo hb.lo nl hp true hL hH
 obtain ⟨r2,f2,u2,-,c2⟩:=Z1 ha.lo hb.hi nh hp true hL hH
 obtain ⟨r3,f3,u3,-,c3⟩:=Z1 ha.hi hb.lo nl hp true hL hH
 obtain ⟨r4,f4,u4,-,c4⟩:=Z1 ha.hi hb.hi nh hp true hL hH
 have d1:=d1 rfl
 have d2:=d2 rfl
 have d3:=d3 rfl
 have d4:=d4 rfl
 have c1:=c1 rfl
 have c2:=c2 rfl
 have c3:=c3 rfl
 have c4:=c4 rfl
 have m1:=zl2 q1 q2 q3 q4
 have m2:=zl3 r1 r2 r3 r4
 have omin:Okd (qk q1 q2 q3 q4) (L-K-p-2) (H-M+2):=zgr (zgr (zgr o1 o2) o3) o4
 have omax:Okd (qf r1 r2 r3 r4) (L-K-p-2) (H-M+2):=zgs (zgs (zgs u1 u2) u3) u4
 refine ⟨⟨qk q1 q2 q3 q4,qf r1 r2 r3 r4⟩,?_,⟨omin,omax,?_⟩,?_⟩
 ·unfold Z0 Zf
  rw [hz,we wb]
  simp only [e1,e2,e3,e4,f1,f2,f3,f4]
  rfl
 ·show val (qk q1 q2 q3 q4)≤val (qf r1 r2 r3 r4)
  grind
 ·intro x y hx1 hx2 hy1 hy2
  show val (qk q1 q2 q3 q4)≤x / y∧x / y≤val (qf r1 r2 r3 r4)
  generalize val (qk q1 q2 q3 q4)=u at *
  generalize val (qf r1 r2 r3 r4)=v at *
  rw [Rat.div_def] at d1 d2 d3 d4 c1 c2 c3 c4 ⊢
  have i1:y⁻¹≤(val b.lo)⁻¹:=ztm (ztn (by grind)) hy1
  have i2:(val b.hi)⁻¹≤y⁻¹:=ztm (ztn (by grind)) hy2
  have c:∀ s t:Rat,s*t=t*s:=fun s t=>Rat.mul_comm s t
  have l1:u≤val a.lo*y⁻¹:=by rw [c]; exact zpd i2 i1 (by rw [c]; grind) (by rw [c]; grind)
  have l2:u≤val a.hi*y⁻¹:=by rw [c]; exact zpd i2 i1 (by rw [c]; grind) (by rw [c]; grind)
  have l3:val a.lo*y⁻¹≤v:=by rw [c]; exact zpe i2 i1 (by rw [c]; grind) (by rw [c]; grind)
  have l4:val a.hi*y⁻¹≤v:=by rw [c]; exact zpe i2 i1 (by rw [c]; grind) (by rw [c]; grind)
  exact ⟨zpd hx1 hx2 l1 l2,zpe hx1 hx2 l3 l4⟩
theorem zz5 {b:I} (h:hasI b zD=true) (p:Nat) (a:I):Z0 p a b=(zI,3):=by
 unfold Z0; rw [wc h]
theorem zz6 {a b:I} (h1:val b.lo≤val a.lo) (h2:val a.hi≤val b.hi) (h3:val a.lo≤val a.hi):inI a b=true:=by
 unfold inI
 rw [Bool.and_eq_true]
 exact ⟨(zbq b a.lo).2 ⟨h1,by grind⟩,(zbq b a.hi).2 ⟨by grind,h2⟩⟩
theorem Enc.sub {p:Nat} {c d:I} {u v u' v':Rat} (hc:Enc p c u v) (hd:Enc p d u' v') (h1:u'≤u) (h2:v≤v'):val d.lo≤val c.lo∧val c.hi≤val d.hi:=by
 constructor
 ·refine hc.blo _ hd.rlo ?_
  have:=hd.lo; grind
 ·refine hc.bhi _ hd.rhi ?_
  have:=hd.hi; grind
theorem zes {a:I} {L H n:Int} (ha:OkI a L H) (hL : -60000≤L+n) (hH:H+n≤60000):∃ c,Qu a n=(c,0)∧OkI c (L+n) (H+n)∧val c.lo=val a.lo*p2 n∧val c.hi=val a.hi*p2 n:=by
 obtain ⟨d,d1,d2,d3⟩:=zti (n:=n) ha.lo hL hH
 obtain ⟨e,e1,e2,e3⟩:=zti (n:=n) ha.hi hL hH
 refine ⟨⟨d,e⟩,?_,⟨d3,e3,?_⟩,d2,e2⟩
 ·unfold Qu; rw [d1,ze rfl,e1,ze rfl]
 ·show val d≤val e
  rw [d2,e2]
  exact Rat.mul_le_mul_of_nonneg_right ha.le (Rat.le_of_lt (zb n))
theorem zpg (n:Int) (x:Rat):x*p2 n*p2 (-n)=x:=by
 rw [Rat.mul_assoc,← zy,show n + -n=0 by omega,zN,Rat.mul_one]
theorem zz7 {a b:List Int} (ha:Dig a) (hb:Dig b) (hla:a.length≤1073741824) (hlb:b.length≤1073741824) {i:Nat} (hi:i<a.length) (ag:Int→List Int→Option (List Int)) :
  ∀ (r k:Nat) (c:Int) (O:List Int),k+r=b.length→Dig O→O.length=a.length+b.length→0≤c∧c<4294967296→O.getD (i+b.length) 0=0→∀ n,r<n→
   ∃ O',zd3 b (i:Int) a ag n c (k:Int) O=ag ((i+1:Nat):Int) O'∧Dig O'∧O'.length=a.length+b.length∧dval O'=dval O+4294967296 ^ (i+k)*(c.toNat+(a.getD i 0).toNat*dval (b.drop k))∧
    ∀ j,i+b.length<j→O'.getD j 0=O.getD j 0:=by
 intro r
 have hz:(kInt .u32).z=0:=rfl
 have hx:=ZV ha i
 induction r with
 | zero=>
  intro k c O hk hO hl hc h0 n hn
  obtain ⟨n,rfl⟩:∃ k,n=k+1:=⟨n-1,wa⟩
  have hw:i64.wrap ((i:Int)+(b.length:Int))=((i+b.length:Nat):Int):=by rw [w64]<;>omega
  have hw2:i64.wrap ((i:Int)+1)=((i+1:Nat):Int):=by rw [w64]<;>omega
  have hc':u32.wrap c=c:=by rw [QP]; omega
  refine ⟨O.set (i+b.length) c,?_,Qe hO _ hc,by simp [hl],?_,fun j hj=>zbj _ _ wa⟩
  ·rw [zd3,we wa]
   unfold zkV
   rw [hw,wc (by simp only [Int.toNat_natCast]; omega)]
   unfold zkU
   rw [hw2,hc']
   simp only [Int.toNat_natCast]
  ·have:=zae O (i+b.length) c wa
   rw [h0] at this
   have hk':k=b.length:=wa
   have hd:b.drop k=[]:=List.drop_eq_nil_of_le wa
   rw [hd,hk']
   simp only [dval,Int.toNat_zero,Nat.mul_zero,Nat.add_zero] at this ⊢
   exact this
 | succ r ih=>
  intro k c O hk hO hl hc h0 n hn
  obtain ⟨n,rfl⟩:∃ k,n=k+1:=⟨n-1,wa⟩
  have hy:=ZV hb k
  have ho:=ZV hO (i+k)
  have hw:i64.wrap ((i:Int)+(k:Int))=((i+k:Nat):Int):=by rw [w64]<;>omega
  have hw2:i64.wrap ((k:Int)+1)=((k+1:Nat):Int):=by rw [w64]<;>omega
  have hxy:0≤a.getD i 0*b.getD k 0∧a.getD i 0*b.getD k 0≤4294967295*4294967295:=by
   refine ⟨Int.mul_nonneg hx.1 hy.1,?_⟩
   exact Int.mul_le_mul wa wa hy.1 wa
  let s:Int:=a.getD i 0*b.getD k 0+O.getD (i+k) 0+c
  have hs:0≤s∧s<18446744073709551616:=by
   show 0≤a.getD i 0*b.getD k 0+O.getD (i+k) 0+c∧a.getD i 0*b.getD k 0+O.getD (i+k) 0+c<18446744073709551616
   omega
  have hwr:u64.wrap ((u64.wrap ((u64.wrap ((u64.wrap (a.getD i 0))*(u64.wrap (b.getD k 0))))+(u64.wrap (O.getD (i+k) 0))))+c)=s:=by
   simp only [zbT]
   rw [Int.emod_eq_of_lt hx.1 wa,Int.emod_eq_of_lt hy.1 wa,Int.emod_eq_of_lt ho.1 wa,Int.emod_eq_of_lt hxy.1 wa]
   show (((a.getD i 0*b.getD k 0+O.getD (i+k) 0) % 18446744073709551616)+c) % 18446744073709551616=a.getD i 0*b.getD k 0+O.getD (i+k) 0+c
   have h3:0≤a.getD i 0*b.getD k 0+O.getD (i+k) 0:=wa
   have h4:a.getD i 0*b.getD k 0+O.getD (i+k) 0+c<18446744073709551616:=hs.2
   omega
  have hsh:shrI .u64 s 32=s / 4294967296:=by
   unfold shrI
   simp [IntKind.bits]
   rw [Int.fdiv_eq_ediv_of_nonneg _ (by decide)]
  have hlo:u32.wrap s=s % 4294967296:=QP
  obtain ⟨O',e,d1,d2,d3,d4⟩:=ih (k+1) (s / 4294967296) (O.set (i+k) (s % 4294967296)) wa (Qe hO _ wa) (by simp [hl]) wa (by rw [zbj _ _ wa]; exact h0) n wa
  refine ⟨O',?_,d1,d2,?_,fun j hj=>by rw [d4 j hj,zbj _ _ wa]⟩
  ·rw [zd3,wc wa,wc wa,wc wa,hw,hz]
   simp only [Int.toNat_natCast]
   rw [wc wa,wc wa,hwr,hsh,hlo,hw2]
   exact e
  ·rw [d3]
   have h5:=zae O (i+k) (s % 4294967296) wa
   rw [zV b k]
   have e1:i+(k+1)=i+k+1:=wa
   rw [e1,Nat.pow_succ]
   generalize 4294967296 ^ (i+k)=W at h5 ⊢
   generalize dval (b.drop (k+1))=T
   have h6:(s % 4294967296).toNat+4294967296*(s / 4294967296).toNat=(a.getD i 0).toNat*(b.getD k 0).toNat+(O.getD (i+k) 0).toNat+c.toNat:=by
    have h7:s.toNat=(a.getD i 0).toNat*(b.getD k 0).toNat+(O.getD (i+k) 0).toNat+c.toNat:=by
     have h8:((a.getD i 0).toNat:Int)=a.getD i 0:=Int.toNat_of_nonneg hx.1
     have h9:((b.getD k 0).toNat:Int)=b.getD k 0:=Int.toNat_of_nonneg hy.1
     have:(s.toNat:Int)=((a.getD i 0).toNat*(b.getD k 0).toNat+(O.getD (i+k) 0).toNat+c.toNat:Nat):=by
      rw [Int.toNat_of_nonneg hs.1]
      simp only [Int.natCast_add,Int.natCast_mul]
      rw [h8,h9,Int.toNat_of_nonneg ho.1,Int.toNat_of_nonneg hc.1]
     exact_mod_cast this
    omega
   generalize (s % 4294967296).toNat=lo at *
   generalize (s / 4294967296).toNat=hi' at *
   generalize (a.getD i 0).toNat=x at *
   generalize (b.getD k 0).toNat=y at *
   generalize (O.getD (i+k) 0).toNat=o at *
   generalize c.toNat=c' at *
   have h10:W*(lo+4294967296*hi')=W*(x*y+o+c'):=by rw [h6]
   grind
theorem zz8 {a b:List Int} (ha:Dig a) (hb:Dig b) (hla:a.length≤1073741824) (hlb:b.length≤1073741824) :
  ∀ (r i:Nat) (O:List Int),i+r=a.length→Dig O→O.length=a.length+b.length→(∀ j,i+b.length≤j→O.getD j 0=0)→∀ n,r<n→
   zad a b n (i:Int) O=some (digs (dval O+4294967296 ^ i*(dval (a.drop i)*dval b))):=by
 intro r
 induction r with
 | zero=>
  intro i O hi hO hl h0 n hn
  obtain ⟨n,rfl⟩:∃ k,n=k+1:=⟨n-1,wa⟩
  rw [zad,we wa]
  unfold zkT
  rw [QU hO wa]
  have hd:a.drop i=[]:=List.drop_eq_nil_of_le wa
  rw [hd]
  simp [dval]
 | succ r ih=>
  intro i O hi hO hl h0 n hn
  obtain ⟨n,rfl⟩:∃ k,n=k+1:=⟨n-1,wa⟩
  rw [zad,wc wa]
  obtain ⟨O',e,d1,d2,d3,d4⟩:=zz7 ha hb hla hlb (i:=i) wa (fun z0 z1=>zad a b n z0 z1) b.length 0 0 O wa hO hl wa (h0 _ (Nat.le_refl _)) fuel (by unfold fuel; omega)
  refine Eq.trans e ?_
  show zad a b n ((i+1:Nat):Int) O'=_
  rw [ih (i+1) O' wa d1 d2 (fun j hj=>by rw [d4 j wa]; exact h0 j wa) n wa,d3,zV a i,Nat.pow_succ]
  congr 2
  simp only [Nat.add_zero,List.drop_zero,Int.toNat_zero,Nat.zero_add]
  grind
theorem zph {a b:List Int} (ha:Dig a) (hb:Dig b) (hl:a.length≤1073741824) (hl':b.length≤1073741824):zd4 a b=some (digs (dval a*dval b)):=by
 unfold zd4
 have hw:i64.wrap ((a.length:Int)+(b.length:Int))=((a.length+b.length:Nat):Int):=by rw [w64]<;>omega
 rw [hw,wc wa,kz,Int.toNat_natCast]
 have:=zz8 ha hb hl hl' a.length 0 (List.replicate (a.length+b.length) 0) wa (zbV _) wb (fun j _=>zlq _ _) fuel (by unfold fuel; omega)
 rw [zf6,List.drop_zero] at this
 simp only [Nat.zero_add,Nat.pow_zero,Nat.one_mul] at this
 exact this
theorem ziR {a:Int} (h:0≤a) (h2:a<18446744073709551616):zbB a=some (digs a.toNat):=by
 unfold zbB
 have e1:shrI .u64 a 32=a / 4294967296:=by
  obtain ⟨n,rfl⟩:∃ n:Nat,a=n:=⟨a.toNat,wa⟩
  rw [zf7]; simp
 have hd:Dig [u32.wrap a,u32.wrap (shrI .u64 a 32)]:=by
  intro d hd
  simp only [List.mem_cons,List.not_mem_nil,or_false] at hd
  rcases hd with rfl | rfl<;>rw [QP]<;>omega
 rw [QU hd wb]
 have e2:dval [u32.wrap a,u32.wrap (shrI .u64 a 32)]=a.toNat:=by
  simp only [dval,QP,e1]
  omega
 rw [e2]; rfl
theorem zl4 {l:List Int} {i d:Nat} (h:l.getD i 0=(d:Int)):dval (l.take (i+1))=dval (l.take i)+4294967296 ^ i*d:=by rw [zcK,h,Int.toNat_natCast]
theorem zz9 {P A B c x y v D:Nat} (h:D+P*c=A+B) (hv:v=x+y+c):D+P*v=(A+P*x)+(B+P*y):=by
 subst hv; rw [Nat.mul_add,Nat.mul_add]; omega
theorem zAa {a b:List Int} (ha:Dig a) (hb:Dig b) (hl:a.length≤1073741824) (hl':b.length≤1073741824) :
  ∀ (r i c:Nat) (p:List Int),i+r=max a.length b.length+1→Dig p→p.length=i→c≤1→dval p+4294967296 ^ i*c=dval (a.take i)+dval (b.take i)→
   ∀ f,r<f→zd1 a b f (c:Int) (i:Int) p=some (digs (dval a+dval b)):=by
 have hm:mx (a.length:Int) (b.length:Int)=((max a.length b.length:Nat):Int):=by unfold mx; split<;>omega
 have hw:i64.wrap (((max a.length b.length:Nat):Int)+1)=((max a.length b.length+1:Nat):Int):=by rw [w64]<;>omega
 intro r
 induction r with
 | zero=>
  intro i c p hi hp hlp hc hv f hf
  obtain ⟨f,rfl⟩:∃ k,f=k+1:=⟨f-1,wa⟩
  rw [zd1,hm,hw,we wa]
  unfold zkM
  rw [QU hp wa]
  simp only [obn]
  rw [List.take_of_length_le wa,List.take_of_length_le wa] at hv
  have hc0:c=0:=by
   rcases (show c=0∨c=1 by omega) with h | h
   ·exact h
   ·exfalso
    subst h
    have h1:=qF ha
    have h2:=qF hb
    have h3:4294967296 ^ a.length≤4294967296 ^ max a.length b.length:=Nat.pow_le_pow_right (by decide) wa
    have h4:4294967296 ^ b.length≤4294967296 ^ max a.length b.length:=Nat.pow_le_pow_right (by decide) wa
    have hi':i=max a.length b.length+1:=wa
    rw [hi',Nat.pow_succ] at hv
    omega
  subst hc0
  rw [Nat.mul_zero,Nat.add_zero] at hv
  rw [hv]
 | succ r ih=>
  intro i c p hi hp hlp hc hv f hf
  obtain ⟨f,rfl⟩:∃ k,f=k+1:=⟨f-1,wa⟩
  obtain ⟨x,hx,hx'⟩:=zL ha i
  obtain ⟨y,hy,hy'⟩:=zL hb i
  rw [zd1,hm,hw,wc wa,zbp ha,zbp hb]
  simp only [obn]
  rw [hx,hy,← Int.natCast_add,zG (x:=x+y) wa,← Int.natCast_add,zG (x:=x+y+c) wa,ZW,zf7]
  rw [wc (by simp only [List.length_cons,List.length_nil]; omega),show (i:Int)+1=((i+1:Nat):Int) by omega,zW wa]
  refine ih (i+1) _ _ wa (ziC hp (Nat.mod_lt _ (by decide))) (by rw [List.length_append]; simp; exact hlp) wa ?_ f wa
  refine zsP hlp ?_ (Nat.mod_add_div _ 4294967296).symm
  rw [zl4 hx,zl4 hy]
  exact zz9 hv rfl
theorem zpi {a b:List Int} (ha:Dig a) (hb:Dig b) (hl:a.length≤1073741824) (hl':b.length≤1073741824):zcD a b=some (digs (dval a+dval b)):=by
 unfold zcD
 exact zAa ha hb hl hl' (max a.length b.length+1) 0 0 [] wa (by intro d hd; cases hd) rfl wa (by simp [dval]) fuel (by unfold fuel; omega)
theorem zAb {P A B W x y e e' v D:Nat} (h:D+B=A+P*e) (hv:v+y+e=x+W*e'):D+P*v+(B+P*y)=A+P*x+P*W*e':=by
 have h1:P*(v+y+e)=P*(x+W*e'):=by rw [hv]
 simp only [Nat.mul_add,← Nat.mul_assoc] at h1
 omega
theorem zAc {p a b:List Int} {i x y e v e':Nat} (hlp:p.length=i) (hx:a.getD i 0=(x:Int)) (hy:b.getD i 0=(y:Int)) (hv:dval p+dval (b.take i)=dval (a.take i)+4294967296 ^ i*e) (h:v+y+e=x+4294967296*e') :
  dval (p++[(v:Int)])+dval (b.take (i+1))=dval (a.take (i+1))+4294967296 ^ (i+1)*e':=by
 have e5:dval [(v:Int)]=v:=by simp only [dval,Int.toNat_natCast,Nat.mul_zero,Nat.add_zero]
 rw [zl4 hx,zl4 hy,zbU,hlp,e5,Nat.pow_succ]
 exact zAb hv h
theorem zAd {a b:List Int} (ha:Dig a) (hb:Dig b) (hl:a.length≤1073741824) (hle:dval b≤dval a) :
  ∀ (r i e:Nat) (p:List Int),i+r=a.length→Dig p→p.length=i→e≤1→dval p+dval (b.take i)=dval (a.take i)+4294967296 ^ i*e→
   ∀ f,r<f→zd2 a b f (e:Int) (i:Int) p=some (digs (dval a-dval b),true):=by
 intro r
 induction r with
 | zero=>
  intro i e p hi hp hlp he hv f hf
  obtain ⟨f,rfl⟩:∃ k,f=k+1:=⟨f-1,wa⟩
  rw [zd2,we wa]
  unfold zkP
  rw [QU hp wa]
  simp only [obn]
  have hb0:dval (b.drop i)=0:=by
   rcases Nat.eq_zero_or_pos (dval (b.drop i)) with h | h
   ·exact h
   ·exfalso
    have:=zo0 (a:=a) (b:=b) ha (i:=i) (by rw [List.drop_eq_nil_of_le wa]; exact h)
    omega
  have hbt:dval b=dval (b.take i):=by rw [zcJ b i,hb0,Nat.mul_zero,Nat.add_zero]
  rw [List.take_of_length_le (show a.length≤i by omega),← hbt] at hv
  have hpl:=qF hp
  rw [hlp] at hpl
  have he0:e=0:=by
   rcases (show e=0∨e=1 by omega) with h | h
   ·exact h
   ·subst h; omega
  subst he0
  rw [Nat.mul_zero,Nat.add_zero] at hv
  rw [show dval a-dval b=dval p by omega]
 | succ r ih=>
  intro i e p hi hp hlp he hv f hf
  obtain ⟨f,rfl⟩:∃ k,f=k+1:=⟨f-1,wa⟩
  obtain ⟨x,hx,hx'⟩:=zL ha i
  obtain ⟨y,hy,hy'⟩:=zL hb i
  have e1:u64.wrap ((x:Int)+4294967296)=((x+4294967296:Nat):Int):=by rw [show (x:Int)+4294967296=((x+4294967296:Nat):Int) by omega,zG wa]
  have e2:u64.wrap (((x+4294967296:Nat):Int)-(y:Int))=((x+4294967296-y:Nat):Int):=by rw [show ((x+4294967296:Nat):Int)-(y:Int)=((x+4294967296-y:Nat):Int) by omega,zG wa]
  have e3:u64.wrap (((x+4294967296-y:Nat):Int)-(e:Int))=((x+4294967296-y-e:Nat):Int):=by rw [show ((x+4294967296-y:Nat):Int)-(e:Int)=((x+4294967296-y-e:Nat):Int) by omega,zG wa]
  have e4:u64.wrap (1-(((x+4294967296-y-e) / 4294967296:Nat):Int))=((1-(x+4294967296-y-e) / 4294967296:Nat):Int):=by rw [show 1-(((x+4294967296-y-e) / 4294967296:Nat):Int)=((1-(x+4294967296-y-e) / 4294967296:Nat):Int) by omega,zG wa]
  rw [zd2,wc wa,zbp ha,zbp hb]
  simp only [obn]
  rw [hx,hy,e1,e2,e3,ZW,zf7,e4]
  rw [wc (by simp only [List.length_cons,List.length_nil]; omega),show (i:Int)+1=((i+1:Nat):Int) by omega,zW wa]
  refine ih (i+1) _ _ wa (ziC hp (Nat.mod_lt _ (by decide))) (by rw [List.length_append]; simp; exact hlp) wa ?_ f wa
  exact zAc hlp hx hy hv wa
theorem zl5 {a b:List Int} (ha:Dig a) (hb:Dig b) (hl:a.length≤1073741824) (hl':b.length≤1073741824):zcE a b=some (if dval a<dval b then ([],false) else (digs (dval a-dval b),true)):=by
 unfold zcE
 rw [zgk ha hb hl hl']
 simp only [obn]
 by_cases h:dval a<dval b
 ·rw [wc h,wc (by decide),wc h]
 ·rw [we h,we (by split<;>decide),we h]
  exact zAd ha hb hl wa a.length 0 0 [] wa (by intro d hd; cases hd) rfl wa (by simp [dval]) fuel (by unfold fuel; omega)
theorem zAe {z:Int} (h:SZ z.natAbs):zfK (iOf z)=some (iOf (-z)):=by
 unfold zfK
 show ((qE (!decide (z<0)) (digs z.natAbs)).bind fun x2=>some x2)=_
 rw [Qt _ h]
 simp only [obn]
 congr 2
 unfold sg
 by_cases h:z<0<;>simp [h]<;>omega
theorem zl6 {d:D} (h:WD d):zcI (dy d)=some (dy (negD d)):=by
 unfold zcI
 rw [Za h.1 h.sz]
 simp only [obn]
 rw [we wb]
 show ((zfK (iOf d.m)).bind _)=_
 rw [zAe h.sz]
 rfl
theorem zto {n:Int} (h : -9223372036854775808≤n∧n≤9223372036854775807):zeS n=some (iOf n):=by
 unfold zeS
 have hsz:SZ n.natAbs:=by
  have:blen n.natAbs≤64:=zaQ wa
  unfold SZ; omega
 by_cases hn:n<0
 ·have e0:i64.wrap (0-i64.wrap (n+1)) = -(n+1):=by
   rw [w64 (x:=n+1) wa wa,w64 wa wa]; omega
  have e:u64.wrap (u64.wrap (i64.wrap (0-i64.wrap (n+1)))+1)=((n.natAbs:Nat):Int):=by rw [e0]; simp only [zbT]; omega
  rw [wc hn,e,ziR wa wa,Int.toNat_natCast]
  simp only [obn]
  rw [Qt _ hsz]
  simp only [obn]
  congr 2
  unfold sg; simp; omega
 ·have e:u64.wrap n=((n.natAbs:Nat):Int):=by simp only [zbT]; omega
  rw [we hn,e,ziR wa wa,Int.toNat_natCast]
  simp only [obn]
  rw [Qt _ hsz]
  simp only [obn]
  congr 2
  unfold sg; simp; omega
theorem zgv {n:Int} (h : -9223372036854775808≤n∧n≤9223372036854775807):zaX n=some (dy (fromD n)):=by
 have hsz:SZ n.natAbs:=by
  have:blen n.natAbs≤64:=zaQ wa
  unfold SZ; omega
 unfold zaX
 rw [zto h]
 simp only [obn]
 rw [ziE hsz wa]
 rfl
theorem ziS {e:Int} (he : -60000≤e∧e≤60000):zbb e=some (dy ⟨1,e⟩):=by
 unfold zbb
 rw [zto wa]
 simp only [obn]
 rw [zzk (by unfold SZ; decide) wa,zsG he]
 rfl
theorem zAf {x y:Int} (hx:SZ x.natAbs) (hy:SZ y.natAbs) (hs:SZ (x.natAbs+y.natAbs)):zh0 (iOf x) (iOf y)=some (iOf (x+y)):=by
 have h1:=zx hx
 have h2:=zx hy
 have eN:∀ z:Int,(iOf z).Neg=decide (z<0):=fun _=>rfl
 have eM:∀ z:Int,(iOf z).Mag=digs z.natAbs:=fun _=>rfl
 unfold zh0
 rw [eN,eN,eM,eM]
 by_cases hsame:decide (x<0)=decide (y<0)
 ·rw [wc (by simp [hsame]),zpi (dgd _) (dgd _) wa wa,dvd,dvd]
  simp only [obn]
  rw [Qt _ hs]
  simp only [obn]
  congr 2
  unfold sg
  by_cases hxn:x<0<;>by_cases hyn:y<0<;>simp [hxn,hyn] at hsame ⊢ <;> omega
 ·rw [we (by simp; exact fun h=>hsame (by simp [h])),zl5 (dgd _) (dgd _) wa wa,dvd,dvd]
  simp only [obn]
  by_cases hlt:x.natAbs<y.natAbs
  ·rw [wc hlt,we wb,zl5 (dgd _) (dgd _) wa wa,dvd,dvd,we wa]
   simp only [obn]
   rw [Qt _ (zaR wa hs)]
   simp only [obn]
   congr 2
   unfold sg
   by_cases hxn:x<0<;>by_cases hyn:y<0<;>simp [hxn,hyn] at hsame ⊢ <;> omega
  ·rw [we hlt,wc rfl]
   rw [Qt _ (zaR wa hs)]
   simp only [obn]
   congr 2
   unfold sg
   by_cases hxn:x<0<;>by_cases hyn:y<0<;>simp [hxn,hyn] at hsame ⊢ <;> omega
theorem zAg {x y:D} (hx:okD x) (hy:okD y):nrm ((liftD x y).1+(liftD x y).2.1) (liftD x y).2.2=sumD x y:=by
 unfold liftD sumD
 by_cases h1:x.m=0
 ·rw [wc h1,wc h1]; simp only; rw [Int.zero_add,zix hy]
 ·rw [we h1,we h1]
  by_cases h2:y.m=0
  ·rw [wc h2,wc h2]; simp only; rw [Int.add_zero,zix hx]
  ·rw [we h2,we h2]
   by_cases h3:x.e>y.e
   ·rw [wc h3,we wa]
   ·rw [we h3]
    by_cases h4:x.e<y.e
    ·rw [wc h4]; simp only; rw [Int.add_comm]
    ·rw [we h4]
     have h5:x.e=y.e:=wa
     rw [h5,Int.sub_self]; simp
theorem zAh {x y:D} (hx:WD x) (hy:WD y):zh1 (dy x) (dy y)=some (dy (zH x y).1,(zH x y).2):=by
 obtain ⟨l1,l2,l3,l4⟩:=zsT hx hy
 have b2:=zej (liftD x y).1.natAbs (liftD x y).2.1.natAbs
 have b3:=zoS (liftD x y).1 (liftD x y).2.1
 unfold zh1 zoh
 rw [Za hx.1 hx.sz,Za hy.1 hy.sz]
 simp only [obn]
 rw [we wb,we wb,zsS hx hy]
 simp only [obn]
 rw [zAf (by unfold SZ; omega) (by unfold SZ; omega) (by unfold SZ; omega)]
 simp only [obn]
 rw [ziE (by unfold SZ; omega) wa,zAg hx.1 hy.1]
 simp only [obn]
 show ((QM (dy (sumD x y))).bind _)=_
 rw [ziF (zsB hx hy)]
 rfl
theorem zAi {x y:Int} (hx:SZ x.natAbs) (hy:SZ y.natAbs) (hs:SZ (x.natAbs*y.natAbs)):zh3 (iOf x) (iOf y)=some (iOf (x*y)):=by
 have h1:=zx hx
 have h2:=zx hy
 have eN:∀ z:Int,(iOf z).Neg=decide (z<0):=fun _=>rfl
 have eM:∀ z:Int,(iOf z).Mag=digs z.natAbs:=fun _=>rfl
 unfold zh3
 rw [eN,eN,eM,eM,zph (dgd _) (dgd _) wa wa,dvd,dvd]
 simp only [obn]
 rw [Qt _ hs,zsC]
 rfl
theorem zAj {x y:D} (hx:WD x) (hy:WD y):zh4 (dy x) (dy y)=some (dy (timesD x y).1,(timesD x y).2):=by
 have ex:=hx.e
 have ey:=hy.e
 unfold zh4 zol
 rw [Za hx.1 hx.sz,Za hy.1 hy.sz]
 simp only [obn]
 have hM:∀ d:D,(dy d).M=iOf d.m:=fun _=>rfl
 have hE:∀ d:D,(dy d).E=d.e:=fun _=>rfl
 rw [we wb,we wb,hM,hM,hE,hE,zAi hx.sz hy.sz (zlD hx hy)]
 simp only [obn]
 have hs:SZ (x.m*y.m).natAbs:=by rw [Int.natAbs_mul]; exact zlD hx hy
 rw [w64 wa wa,ziE hs wa]
 simp only [obn]
 have ht:TD (mulD x y):=ziA hs wa
 show ((QM (dy (mulD x y))).bind _)=_
 rw [ziF ht]
 rfl
theorem zl7 {x:D} (hx:WD x) {n:Int} (hn : -100000≤n∧n≤100000):zbQ (dy x) n=some (dy (qz x n).1,(qz x n).2):=by
 have ex:=hx.e
 have h1:=zah x.m
 have hM:∀ d:D,(dy d).M=iOf d.m:=fun _=>rfl
 have hE:∀ d:D,(dy d).E=d.e:=fun _=>rfl
 unfold zbQ zkX
 rw [Za hx.1 hx.sz]
 simp only [obn]
 rw [we wb,we wa,show decide (n>100000)=false by simp; omega,we wb]
 unfold qz
 rw [hM,hE]
 by_cases h:x.m=0
 ·rw [wc (h1.2 h),wc h]
  have:x=zD:=by
   rcases hx.1 with h2 | h2
   ·cases x; simp only at h2; unfold zD; rw [h2.1,h2.2]
   ·omega
  rw [this]
 ·rw [we (fun h2=>h (h1.1 h2)),we h,w64 wa wa]
  show ((QM (dy ⟨x.m,x.e+n⟩)).bind _)=_
  have ht:TD ⟨x.m,x.e+n⟩:=⟨hx.sz,by simp only; omega,by simp only; omega⟩
  rw [ziF ht]
  rfl
theorem ztp (neg away st:Bool) {q:Nat} (hq:blen q≤1048000) {e:Int} (he : -2000000≤e∧e≤2000000) :
  zkR neg away (digs q) e st=some (dy (nrm (sg neg (q+if st && away then 1 else 0)) e)):=by
 have hs:SZ q:=by unfold SZ; omega
 have hl:=zx hs
 have key:∀ n:Nat,SZ n→zkQ neg e (digs n)=some (dy (nrm (sg neg n) e)):=by
  intro n hn
  unfold zkQ
  rw [zzj neg hn wa]
  rfl
 have h1:SZ (q+1):=by
  have:=zej q 1
  have h1:blen 1=1:=by decide
  unfold SZ; omega
 have d1:Dig [1]:=by
  intro d hd
  have:d=1:=by simpa using hd
  subst this; omega
 have a1:zcD (digs q) [1]=some (digs (q+1)):=by
  rw [zpi (dgd _) d1 wa wb,dvd]
  rfl
 unfold zkR zoj
 cases st<;>cases away<;>simp only [if_true,if_false,Bool.false_eq_true,Bool.and_true,Bool.and_false,Nat.add_zero,a1,obn]
 ·exact key q hs
 ·exact key q hs
 ·exact key q hs
 ·exact key (q+1) h1
theorem zAk {a:List Int} {n:Nat} (hn:100000<n):QK a (n:Int)=some ([],false):=by
 unfold QK zfA
 rw [we wa,show decide ((n:Int)>100000)=true by simp; omega,wc rfl]
theorem ztq (neg:Bool) {m p:Nat} (hm:blen m≤1048000) {e:Int} (he : -900000≤e∧e≤900000) (st away:Bool) (hp:p≤1000) (hodd:blen m≤100000∨m % 2=1) :
  zcG neg (digs m) e st (p:Int) away=some (dy (Zt neg m e st p away)):=by
 have hl:=zx (n:=m) (by unfold SZ; omega)
 unfold zcG
 rw [zgj (dgd _) wa,dvd]
 simp only [obn]
 have hw:i64.wrap (((blen m:Nat):Int)-(p:Int))=((blen m:Nat):Int)-(p:Int):=by rw [w64]<;>omega
 rw [hw]
 unfold Zt cutN
 by_cases h:p<blen m
 ·rw [wc wa]
  have hn:((blen m:Nat):Int)-(p:Int)=((blen m-p:Nat):Int):=wa
  rw [hn]
  have hq:blen (m / 2 ^ (blen m-p))≤1048000:=by have:=zaf (Nat.div_le_self m (2 ^ (blen m-p))); omega
  have hlq:=zx (n:=m / 2 ^ (blen m-p)) (by unfold SZ; omega)
  rw [zlF (dgd _) wa wa,dvd]
  simp only [obn]
  have hj4:∀ s,zkS neg away (digs (m / 2 ^ (blen m-p))) e ((blen m:Nat):Int) (p:Int) s=some (dy (nrm (sg neg (m / 2 ^ (blen m-p)+if s && away then 1 else 0)) (e+(blen m-p:Nat)))):=by
   intro s
   unfold zkS
   rw [hw,hn,w64 wa wa]
   exact ztp neg away s hq wa
  have hback:∃ l b,QK (digs (m / 2 ^ (blen m-p))) ((blen m-p:Nat):Int)=some (l,b)∧zba l (digs m)=some (if m % 2 ^ (blen m-p)=0 then 0 else -1):=by
   have hdm:=Nat.div_add_mod m (2 ^ (blen m-p))
   have hml:=Nat.mod_lt m (Nat.pow_pos (n:=blen m-p) (show 0<2 by decide))
   by_cases hfar:blen m-p≤100000
   ·refine ⟨_,_,ziD (dgd _) wa hfar,?_⟩
    rw [dvd]
    have hbb:(digs (m / 2 ^ (blen m-p)*2 ^ (blen m-p))).length≤32769:=Nat.le_trans (zir (Nat.div_mul_le_self _ _)) hl
    rw [zgk (dgd _) (dgd _) wa wa,dvd,dvd]
    congr 1
    rw [Nat.mul_comm (m / 2 ^ (blen m-p))]
    generalize 2 ^ (blen m-p)*(m / 2 ^ (blen m-p))=Z at *
    by_cases h0:m % 2 ^ (blen m-p)=0
    ·rw [wc h0,we wa,we wa]
    ·rw [we h0,wc wa]
   ·refine ⟨[],false,zAk wa,?_⟩
    rw [zgk (by intro d hd; cases hd) (dgd _) wb wa,dvd]
    have hm0:0<m:=by
     rcases Nat.eq_zero_or_pos m with h0 | h0
     ·subst h0; rw [zag] at h; omega
     ·exact h0
    have h1:m % 2 ^ (blen m-p)≠0:=by
     obtain ⟨k,hk⟩:∃ k,blen m-p=k+1:=⟨blen m-p-1,wa⟩
     rw [hk]
     intro h0
     have h2:m % 2=1:=by rcases hodd with h3 | h3<;>omega
     have h4:=Nat.div_add_mod m (2 ^ (k+1))
     rw [h0,Nat.add_zero,Nat.pow_succ,Nat.mul_comm (2 ^ k) 2,Nat.mul_assoc] at h4
     omega
    rw [we h1,wc (by simpa [dval] using hm0)]
  obtain ⟨l,b,hb1,hb2⟩:=hback
  rw [hb1]
  simp only [obn]
  rw [hb2]
  simp only [obn]
  cases st with
  | true=>rw [wc rfl,hj4]; rfl
  | false=>
   rw [we wb,hj4]
   have:((if m % 2 ^ (blen m-p)=0 then (0:Int) else -1) != 0)=(m % 2 ^ (blen m-p) != 0):=by
    by_cases h0:m % 2 ^ (blen m-p)=0
    ·rw [wc h0,h0]; rfl
    ·rw [we h0]
     have e2:(m % 2 ^ (blen m-p) != 0)=true:=by rw [bne_iff_ne]; exact h0
     rw [e2]; rfl
   rw [this,Bool.false_or]
 ·rw [we wa]
  have h0:blen m-p=0:=wa
  rw [h0,Nat.pow_zero,Nat.div_one,Nat.mod_one,ztp neg away st hm wa]
  simp
theorem ztr {p:Int} (h:2≤p∧p≤400):zfH p=some true:=by
 unfold zfH zoi
 rw [wc wa,show decide (p≤400)=true by simp; omega]
theorem zAl {x:D} (hx:WD x) {p:Nat} (hp:2≤p∧p≤400) (up:Bool):zh2 (dy x) (p:Int) up=some (dy (zn x p up).1,(zn x p up).2):=by
 have ex:=hx.e
 have bx:=hx.2
 unfold zh2 zok
 rw [Za hx.1 hx.sz]
 simp only [obn]
 rw [we wb,ztr wa]
 simp only [obn]
 have e1:=ztq (decide (x.m<0)) (m:=x.m.natAbs) wa (e:=x.e) wa false (up != decide (x.m<0)) (p:=p) wa (by
  rcases hx.1 with h1 | h1
  ·left; rw [h1.1]; simp [blen]
  ·right; omega)
 have e2:zcG (dy x).M.Neg (dy x).M.Mag (dy x).E false (p:Int) (up != (dy x).M.Neg)=zcG (decide (x.m<0)) (digs x.m.natAbs) x.e false (p:Int) (up != decide (x.m<0)):=rfl
 rw [we wb,e2,e1]
 simp only [obn]
 have ht:TD (rnd x p up):=zlE _ wa wa _ _
 show ((QM (dy (rnd x p up))).bind _)=_
 rw [ziF ht]
 rfl
theorem zAm {a:List Int} (ha:Dig a) (hl:a.length≤1073741824) {d:Nat} (hd0:0<d) (hd:d<4294967296) :
  ∀ (j:Nat) (r:Nat) (Q:List Int),j≤a.length→Dig Q→Q.length=a.length→r<d→dval (a.drop j)=dval (Q.drop j)*d+r→
   ∀ f,j<f→zd8 a (d:Int) f (r:Int) ((j:Int)-1) Q=some (digs (dval a / d),digs (dval a % d)):=by
 intro j
 induction j with
 | zero=>
  intro r Q hj hQ hlQ hr hv f hf
  obtain ⟨f,rfl⟩:∃ k,f=k+1:=⟨f-1,wa⟩
  rw [zd8,we wa]
  unfold zkY
  rw [QU hQ wa,ziR wa wa]
  rw [List.drop_zero,List.drop_zero] at hv
  have e1:dval a / d=dval Q:=by
   rw [hv,Nat.mul_comm,Nat.mul_add_div hd0,Nat.div_eq_of_lt hr,Nat.add_zero]
  have e2:dval a % d=r:=by
   rw [hv,Nat.mul_comm,Nat.mul_add_mod,Nat.mod_eq_of_lt hr]
  rw [e1,e2,Int.toNat_natCast]; rfl
 | succ j ih=>
  intro r Q hj hQ hlQ hr hv f hf
  obtain ⟨f,rfl⟩:∃ k,f=k+1:=⟨f-1,wa⟩
  obtain ⟨x,hx,hx'⟩:=zL ha j
  have hj':((j+1:Nat):Int)-1=(j:Int):=wa
  have hq:(r*4294967296+x) / d<4294967296:=by
   rw [Nat.div_lt_iff_lt_mul wa]
   have:(r+1)*4294967296≤d*4294967296:=Nat.mul_le_mul_right _ hr
   rw [Nat.mul_comm 4294967296 d]
   omega
  rw [zd8,hj',wc wa,wc wa,wc wa,kz]
  simp only [Int.toNat_natCast]
  rw [wc wa,wc wa,hx,zG (x:=x) wa,zcL wa,zbk wa wa,zgb hx',zga,zlu,zG wa,ZW,Nat.mod_eq_of_lt hq,w64 wa wa]
  refine ih _ _ wa (Qe hQ _ (digC hq)) (by simp [hlQ]) (Nat.mod_lt _ wa) ?_ f wa
  rw [zV a j,hx,zV (Q.set j _) j,getD_set _ _ wa,zcM _ _ wa,Int.toNat_natCast,Int.toNat_natCast]
  exact zr6 hv
theorem zAn {a:List Int} (ha:Dig a) (hl:a.length≤1073741824) {d:Nat} (hd0:0<d) (hd:d<4294967296):zh7 a (d:Int)=some (digs (dval a / d),digs (dval a % d)):=by
 unfold zh7
 rw [wc wa,kz,w64 wa wa]
 exact zAm ha hl hd0 hd a.length 0 (List.replicate a.length 0) wa (zbV _) wb hd0 (by simp [dval]) fuel (by unfold fuel; omega)
theorem zAo (n k:Nat):dval ((digs n).drop k)=n / 4294967296 ^ k:=by
 rcases Nat.le_total k (digs n).length with h | h
 ·rw [← zin (dgd n) k h,dvd]
 ·rw [List.drop_eq_nil_of_le h]
  have h1:=qF (dgd n)
  rw [dvd] at h1
  symm
  exact Nat.div_eq_of_lt (Nat.lt_of_lt_of_le h1 (Nat.pow_le_pow_right (by decide) h))
theorem zAp {q D R P t d1:Nat} (h1:q*D≤R) (h2:R<(t+1)*P) (h3:d1*P≤D):q*d1≤t:=by
 rcases Nat.lt_or_ge t (q*d1) with h | h
 ·exfalso
  have h4:(t+1)*P≤q*d1*P:=Nat.mul_le_mul_right _ h
  have h5:q*(d1*P)≤q*D:=Nat.mul_le_mul_left _ h3
  rw [← Nat.mul_assoc] at h5
  omega
 ·exact h
theorem zAq (R P:Nat) (hP:0<P):R<(R / P+1)*P:=by
 have:=Nat.lt_mul_div_succ R hP
 rwa [Nat.mul_comm] at this
theorem zAr {R D:Nat} (hD:2≤(digs D).length) (hDl:(digs D).length≤1073741824) (hR:R<4294967296*D):∃ g:Nat,zh8 (digs R) (digs D)=some (g:Int)∧R / D≤g∧g<4294967296:=by
 have hD0:D≠0:=by intro h; subst h; rw [qJ] at hD; simp at hD
 have hdl:=qF (dgd D)
 rw [dvd] at hdl
 have hdge:=zle hD0
 obtain ⟨t1,t2⟩:=zio hD0
 obtain ⟨d1,hd1,hd1'⟩:=zL (dgd D) ((digs D).length-1)
 rw [hd1,Int.toNat_natCast] at t1
 have hd0:d1≠0:=by intro h; subst h; exact t2 hd1
 have hq:R / D<4294967296:=by rw [Nat.div_lt_iff_lt_mul wa]; exact hR
 have hqD:R / D*D≤R:=Nat.div_mul_le_self _ _
 have hRlen:(digs R).length≤(digs D).length+1:=by
  refine QQ ?_
  rw [Nat.pow_succ,Nat.mul_comm]
  refine Nat.lt_trans hR ?_
  exact Nat.mul_lt_mul_of_pos_left hdl wa
 have hdP:d1*4294967296 ^ ((digs D).length-1)≤D:=by rw [← t1]; exact Nat.div_mul_le_self _ _
 generalize hn:(digs D).length=n at *
 unfold zh8
 rw [hn]
 by_cases h1:(digs R).length<n
 ·rw [wc wa]
  refine ⟨0,rfl,?_,wa⟩
  have hrl:=qF (dgd R)
  rw [dvd] at hrl
  have:4294967296 ^ (digs R).length≤4294967296 ^ (n-1):=Nat.pow_le_pow_right (by decide) wa
  rw [Nat.div_eq_of_lt wa]
  exact Nat.le_refl 0
 ·have hw:i64.wrap ((n:Int)-1)=((n-1:Nat):Int):=by rw [w64]<;>omega
  have hj1:∀ t:Nat,t<18446744073709551616→zkZ (digs D) (t:Int)=some ((min (t / d1) 4294967295:Nat):Int):=by
   intro t ht
   have hb:t / d1<18446744073709551616:=Nat.lt_of_le_of_lt (Nat.div_le_self _ _) ht
   have hmn:mn ((t / d1:Nat):Int) 4294967295=((min (t / d1) 4294967295:Nat):Int):=by unfold mn; split<;>omega
   unfold zkZ
   rw [hn,hw,wc wa,kz,Int.toNat_natCast,hd1,zG (x:=d1) wa,wc wa,zga,zG hb,hmn]
  have hfin:∀ t:Nat,R<(t+1)*4294967296 ^ (n-1)→R / D≤min (t / d1) 4294967295:=by
   intro t ht
   have:=zAp hqD ht hdP
   have:R / D≤t / d1:=by rw [Nat.le_div_iff_mul_le wa]; exact this
   omega
  obtain ⟨r0,hr0,hr0'⟩:=zL (dgd R) (n-1)
  obtain ⟨r1,hr1,hr1'⟩:=zL (dgd R) n
  have htop:dval ((digs R).drop (n-1))=r0+4294967296*dval ((digs R).drop n):=by
   have:=zV (digs R) (n-1)
   rw [hr0,Int.toNat_natCast,show n-1+1=n by omega] at this; exact this
  have hltP:=zAq R (4294967296 ^ (n-1)) (Nat.pow_pos (by decide))
  rw [← zAo] at hltP
  rw [we wa,hw,wc wa,kz]
  simp only [Int.toNat_natCast]
  by_cases h2:(digs R).length>n
  ·have hdn:dval ((digs R).drop n)=r1:=by
    have:=zV (digs R) n
    rw [hr1,Int.toNat_natCast,List.drop_eq_nil_of_le (show (digs R).length≤n+1 by omega)] at this
    simpa [dval] using this
   rw [wc wa,wc wa,hr0,hr1,zG (x:=r0) wa,zG (x:=r1) wa,zcL hr1',zbk wa wa,zlr hr0',hj1 _ wa]
   refine ⟨_,rfl,hfin _ ?_,wa⟩
   rw [htop,hdn] at hltP
   exact hltP
  ·have hdn:dval ((digs R).drop n)=0:=by rw [List.drop_eq_nil_of_le wa]; rfl
   rw [we wa,hr0,zG (x:=r0) wa,hj1 _ wa]
   refine ⟨_,rfl,hfin _ ?_,wa⟩
   rw [htop,hdn,Nat.mul_zero,Nat.add_zero] at hltP
   exact hltP
theorem zpj {x y m n:Nat} (hx:(digs x).length≤m) (hy:(digs y).length≤n):(digs (x*y)).length≤m+n:=by
 refine QQ ?_
 have h1:=qF (dgd x)
 have h2:=qF (dgd y)
 rw [dvd] at h1 h2
 have ex:4294967296 ^ (digs x).length≤4294967296 ^ m:=Nat.pow_le_pow_right (by decide) hx
 have ey:4294967296 ^ (digs y).length≤4294967296 ^ n:=Nat.pow_le_pow_right (by decide) hy
 rw [Nat.pow_add]
 exact Nat.mul_lt_mul'' wa wa
theorem zAs {Q:List Int} {i g:Nat} (ag:List Int→Int→List Int→Option (List Int × List Int × Bool)) (hi:i<Q.length) (hil:i≤1099511627776) (hg:g<4294967296) (r:List Int):zh9 (i:Int) Q ag (g:Int) r=ag r ((i:Int)-1) (Q.set i (g:Int)):=by
 unfold zh9 zk1
 rw [wc wa,w64 wa wa,ZW,Nat.mod_eq_of_lt hg,Int.toNat_natCast]
theorem zAt {R D i q:Nat} {Q:List Int} (hq:R / D=q) (ag:List Int→Int→List Int→Option (List Int × List Int × Bool)) (hD0:0<D) (hDl:(digs D).length≤1000000) (hRl:(digs R).length≤1000000) (hi:i<Q.length) (hil:i≤1099511627776) :
  ∀ (k g:Nat),g=q+k→g<4294967296→∀ f,k<f→zd9 (digs D,true) (digs R) (i:Int) Q ag f (g:Int) (if R<D*g then ([],false) else (digs (R-D*g),true)).1 (if R<D*g then ([],false) else (digs (R-D*g),true)).2=ag (digs (R % D)) ((i:Int)-1) (Q.set i (q:Int)):=by
 have h1:=Nat.div_add_mod R D
 have h2:=Nat.mod_lt R hD0
 rw [hq] at h1
 intro k
 induction k with
 | zero=>
  intro g hg hgW f hf
  obtain ⟨f,rfl⟩:∃ k,f=k+1:=⟨f-1,wa⟩
  rw [Nat.add_zero] at hg
  subst hg
  rw [we wa,zd9,we wb,zAs ag hi hil hgW]
  have:R-D*g=R % D:=wa
  rw [this]
 | succ k ih=>
  intro g hg hgW f hf
  obtain ⟨f,rfl⟩:∃ k,f=k+1:=⟨f-1,wa⟩
  have hlt:R<D*g:=by
   have:D*(q+1)≤D*g:=Nat.mul_le_mul_left _ wa
   rw [Nat.mul_add,Nat.mul_one] at this
   omega
  have hwg:u64.wrap ((g:Int)-1)=((g-1:Nat):Int):=by rw [show (g:Int)-1=((g-1:Nat):Int) by omega,zG wa]
  have hgl:(digs (g-1)).length≤1:=QQ wa
  have hDgl:=zpj (x:=D) (y:=g-1) hDl hgl
  rw [wc hlt,zd9,wc wb,hwg,ziR wa wa,Int.toNat_natCast]
  simp only [obn]
  rw [zph (dgd _) (dgd _) wa wa,dvd,dvd]
  simp only [obn]
  rw [zl5 (dgd _) (dgd _) wa wa,dvd,dvd]
  simp only [obn]
  exact ih (g-1) wa wa f wa
theorem zAu {n:List Int} {D s:Nat} {bl:List Int} (hD:2≤(digs D).length) (hDl:(digs D).length≤900000) (hn:Dig n) (hnl:n.length≤900000) (b:Bool) (x6:Int) (hs:i64.wrap (i64.wrap (32*(bl.length:Int))-x6)=(s:Int)) (hs2:s≤32) :
  ∀ (k R:Nat) (Q:List Int),k≤n.length→Dig Q→Q.length=n.length→R<D→dval (Q.drop k)*D+R=dval (n.drop k)→
   ∀ f,k<f→zaL (n,b) (digs D,true) bl x6 f (digs R) ((k:Int)-1) Q=some (digs (dval n / D),digs (dval n % D / 2 ^ s),true):=by
 intro k
 induction k with
 | zero=>
  intro R Q hk hQ hlQ hR hv f hf
  obtain ⟨f,rfl⟩:∃ k,f=k+1:=⟨f-1,wa⟩
  have hRl:(digs R).length≤(digs D).length:=zir wa
  rw [zaL,we wa]
  unfold zk0
  rw [QU hQ wa]
  simp only [obn]
  rw [hs,zlF (dgd _) wa wa,dvd]
  simp only [obn]
  rw [List.drop_zero,List.drop_zero] at hv
  have hD0:0<D:=wa
  have e1:dval n / D=dval Q:=by
   rw [← hv,Nat.mul_comm,Nat.mul_add_div hD0,Nat.div_eq_of_lt hR,Nat.add_zero]
  have e2:dval n % D=R:=by
   rw [← hv,Nat.mul_comm,Nat.mul_add_mod,Nat.mod_eq_of_lt hR]
  rw [e1,e2]
 | succ k ih=>
  intro R Q hk hQ hlQ hR hv f hf
  obtain ⟨f,rfl⟩:∃ k,f=k+1:=⟨f-1,wa⟩
  obtain ⟨x,hx,hx'⟩:=zL hn k
  have hk':((k+1:Nat):Int)-1=(k:Int):=wa
  have hRl:(digs R).length≤(digs D).length:=zir wa
  have hdig:Dig ([(x:Int)]++digs R):=zoG (by
   intro d hd
   have:d=(x:Int):=by simpa using hd
   subst this; exact digC hx') (dgd R)
  have hval:dval ([(x:Int)]++digs R)=x+4294967296*R:=by
   show dval ((x:Int) :: digs R)=_
   simp only [dval,Int.toNat_natCast,dvd]
  have hR':x+4294967296*R<4294967296*D:=by
   have:4294967296*(R+1)≤4294967296*D:=Nat.mul_le_mul_left _ hR
   omega
  generalize hRn:x+4294967296*R=R' at *
  obtain ⟨g,g1,g2,g3⟩:=zAr (R:=R') hD wa hR'
  have hgl:(digs g).length≤1:=QQ wa
  have hDgl:=zpj (x:=D) (y:=g) hDl hgl
  have hRl':(digs R').length≤900001:=by
   have h1:=zpj (x:=4294967296) (y:=D) (m:=2) (n:=900000) (QQ (by decide)) hDl
   have h2:=zir (show R'≤4294967296*D by omega)
   have h3:(digs R').length≤(digs D).length+1:=by
    refine QQ ?_
    have hdl:=qF (dgd D)
    rw [dvd] at hdl
    rw [Nat.pow_succ,Nat.mul_comm]
    exact Nat.lt_trans hR' (Nat.mul_lt_mul_of_pos_left hdl wa)
   omega
  rw [zaL,hk',wc wa,wc (by simp only; omega)]
  simp only [Int.toNat_natCast,kz]
  rw [hx,wc (by simp only [List.length_cons,List.length_nil]; omega),QU hdig (by simp only [List.length_append,List.length_cons,List.length_nil]; omega),hval]
  simp only [obn]
  rw [g1]
  simp only [obn]
  rw [ziR wa wa,Int.toNat_natCast]
  simp only [obn]
  rw [zph (dgd _) (dgd _) wa wa,dvd,dvd]
  simp only [obn]
  rw [zl5 (dgd _) (dgd _) wa wa,dvd,dvd]
  simp only [obn]
  have hqW:R' / D<4294967296:=Nat.lt_of_le_of_lt g2 g3
  have hdm:=Nat.div_add_mod R' D
  have hml:=Nat.mod_lt R' (show 0<D by omega)
  generalize hq:R' / D=q at *
  have h5:=zAt (i:=k) (Q:=Q) hq (fun z0 z1 z2=>zaL (n,b) (digs D,true) bl x6 f z0 z1 z2) wa wa wa wa wa (g-q) g wa g3 fuel (by unfold fuel; omega)
  refine h5.trans ?_
  refine ih (R' % D) _ wa (Qe hQ _ (digC hqW)) (by simp [hlQ]) hml ?_ f wa
  rw [zV n k,hx,zV (Q.set k _) k,getD_set _ _ wa,zcM _ _ wa,Int.toNat_natCast,Int.toNat_natCast]
  exact zsd (y:=R) (by rw [Nat.mul_comm q D]; omega) hv rfl
theorem zAv {a b:List Int} (ha:Dig a) (hb:Dig b) (hl:a.length≤800000) (hl':b.length≤800000):zia a b=some (if dval b=0 then ([],[],false) else (digs (dval a / dval b),digs (dval a % dval b),true)):=by
 unfold zia
 have h2:=Qs hb
 rw [QU hb wa]
 simp only [obn]
 generalize dval b=B at *
 by_cases hB:B=0
 ·subst hB
  rw [wc (by rw [qJ]; rfl),wc rfl]
 ·have hp:=zaP hB
  rw [we wa,we hB]
  by_cases h1:(digs B).length=1
  ·rw [wc wa,wc wa,kz]
   obtain ⟨t,ht,ht',t0,-,-⟩:=zis hB
   rw [h1,Nat.sub_self] at ht
   have hBt:B=t:=by
    have:=zV (digs B) 0
    rw [List.drop_zero,dvd,List.drop_eq_nil_of_le wa,ht,Int.toNat_natCast] at this
    simpa [dval] using this
   rw [ht,zG wa,zAn ha wa wa ht',← hBt]
   rfl
  ·obtain ⟨t,ht,ht',t0,hbt,hbl⟩:=zis hB
   have htp:=zbW t0
   rw [we wa,zgj (dgd _) wa,dvd]
   simp only [obn]
   have hs:i64.wrap (i64.wrap (32*((digs B).length:Int))-((blen B:Nat):Int))=((32-blen t:Nat):Int):=by
    rw [w64 (x:=32*((digs B).length:Int)) wa wa,w64]<;>omega
   rw [hs,ziD (dgd _) wa wa,dvd]
   simp only [obn]
   rw [ziD ha wa wa]
   simp only [obn]
   generalize hsv:32-blen t=s at *
   obtain ⟨c1,c2⟩:=zse (B:=B) (m:=(digs B).length) (s:=s) wa wa hB
   have hlen:=zsf c2 c1 wa
   have hal:(digs (dval a*2 ^ s)).length≤a.length+1:=QQ (zsg wa (qF ha))
   have hBpos:0<B*2 ^ s:=Nat.mul_pos wa (Nat.pow_pos (by decide))
   have hloop:=zAu (n:=digs (dval a*2 ^ s)) (D:=B*2 ^ s) (s:=s) (bl:=digs B) wa wa (dgd _) wa true ((blen B:Nat):Int) hs wa
    (digs (dval a*2 ^ s)).length 0 (List.replicate (digs (dval a*2 ^ s)).length 0) wa (zbV _) wb hBpos (by rw [List.drop_eq_nil_of_le wb,List.drop_eq_nil_of_le (Nat.le_refl _)]; simp [dval]) fuel (by unfold fuel; omega)
   rw [dvd,qJ,Nat.mul_div_mul_right _ _ (Nat.pow_pos (by decide)),Nat.mul_mod_mul_right,Nat.mul_div_cancel _ (Nat.pow_pos (by decide))] at hloop
   rw [wc wa,w64 wa wa]
   exact hloop
theorem zAw {X n:Nat} (h:blen X+n≤1048576):zh6 (digs X) (n:Int)=some (digs (X*2 ^ n)):=by
 unfold zh6
 have e:(⟨false,digs X⟩:za)=iOf (X:Int):=by
  unfold iOf
  rw [Int.natAbs_natCast,show decide ((X:Int)<0)=false by simp]
 rw [e,zlG (by rw [Int.natAbs_natCast]; exact h)]
 simp only [obn]
 show some (digs ((X:Int)*2 ^ n).natAbs)=_
 rw [zoR,Int.natAbs_natCast]
theorem zts {x y:D} (hx:WD x) (hy:WD y) (hbx:blen x.m.natAbs≤90000) (hby:blen y.m.natAbs≤90000) {p:Nat} (hp:2≤p∧p≤400) (up:Bool):zfM (dy x) (dy y) (p:Int) up=some (dy (divD x y p up).1,(divD x y p up).2):=by
 have ex:=hx.e
 have ey:=hy.e
 have lx:=zx hx.sz
 have ly:=zoH y.m.natAbs
 have m1:=zah x.m
 have m2:=zah y.m
 have hM:∀ d:D,(dy d).M=iOf d.m:=fun _=>rfl
 have hMag:∀ d:D,(dy d).M.Mag=digs d.m.natAbs:=fun _=>rfl
 have hE:∀ d:D,(dy d).E=d.e:=fun _=>rfl
 have hN:∀ d:D,(dy d).M.Neg=decide (d.m<0):=fun _=>rfl
 unfold zfM zk2
 rw [Za hx.1 hx.sz,Za hy.1 hy.sz]
 simp only [obn]
 rw [we wb,we wb,ztr wa]
 simp only [obn]
 rw [we wb]
 unfold divD
 by_cases h2:y.m=0
 ·rw [wc (by rw [hM]; exact m2.2 h2),wc h2,qp]
 ·rw [we (by rw [hM]; exact fun h=>h2 (m2.1 h)),we h2]
  by_cases h1:x.m=0
  ·rw [wc (by rw [hM]; exact m1.2 h1),wc h1,qp]
  ·rw [we (by rw [hM]; exact fun h=>h1 (m1.1 h)),we h1]
   have bM:∀ d:D,SZ d.m.natAbs→ZU (dy d).M.Mag=some ((blen d.m.natAbs:Nat):Int):=by
    intro d hd
    have:=zx hd
    rw [hMag,zgj (dgd _) wa,dvd]
   rw [bM y hy.sz,bM x hx.sz]
   simp only [obn]
   have hk:mx 0 (i64.wrap (i64.wrap (i64.wrap ((p:Int)+2)+((blen y.m.natAbs:Nat):Int))-((blen x.m.natAbs:Nat):Int)))=((p+2+blen y.m.natAbs-blen x.m.natAbs:Nat):Int):=by
    rw [w64 (x:=(p:Int)+2) wa wa,w64 (x:=(p:Int)+2+((blen y.m.natAbs:Nat):Int)) wa wa,w64 wa wa]
    rw [show (p:Int)+2+((blen y.m.natAbs:Nat):Int)=((p+2+blen y.m.natAbs:Nat):Int) by omega,zsL]
   rw [hk]
   have h0:x.m.natAbs≠0:=wa
   have hbk:=zcO h0 (p+2+blen y.m.natAbs-blen x.m.natAbs)
   generalize hkk:p+2+blen y.m.natAbs-blen x.m.natAbs=k at *
   rw [hMag,hMag,zAw wa]
   simp only [obn]
   have hl2:=zoH (x.m.natAbs*2 ^ k)
   rw [zAv (dgd _) (dgd _) wa wa,dvd,dvd,we wa]
   simp only [obn]
   rw [zoY,hE,hE,hN,hN,w64 (x:=x.e-y.e) wa wa,w64 wa wa]
   have hq:blen (x.m.natAbs*2 ^ k / y.m.natAbs)≤100000:=by
    have:=zaf (Nat.div_le_self (x.m.natAbs*2 ^ k) y.m.natAbs)
    omega
   rw [ztq _ wa wa _ _ wa (Or.inl hq)]
   simp only [obn]
   have ht:=zlE (decide (x.m<0) != decide (y.m<0)) (m:=x.m.natAbs*2 ^ k / y.m.natAbs) (p:=p) wa (e:=x.e-y.e-(k:Int)) wa (x.m.natAbs*2 ^ k % y.m.natAbs != 0) (up != (decide (x.m<0) != decide (y.m<0)))
   have e3:=ziF ht
   refine Eq.trans (congrArg (fun o=>Option.bind o _) e3) ?_
   rfl
theorem zcX {a:I} (h:okI a):Qr (iv a)=some true:=by
 obtain ⟨h1,h2,h3⟩:=h
 unfold Qr zhQ
 rw [zM,zR,Za h1.1 h1.sz,Za h2.1 h2.sz]
 simp only [obn,if_true]
 rw [zb2 h1 h2]
 simp only [obn]
 congr 1
 exact decide_eq_true ((zcQ _ _).2 h3)
theorem zl8 {a:I} (h:okI a) {x:D} (hx:WD x):zbO (iv a) (dy x)=some (hasI a x):=by
 unfold zbO zhR
 rw [zcX h,Za hx.1 hx.sz]
 simp only [obn,if_true]
 rw [zM,zR,zb2 h.1 hx,zb2 hx h.2.1]
 simp only [obn]
 unfold hasI
 by_cases h1:zp a.lo x≤0
 ·rw [wc h1,decide_eq_true h1,Bool.true_and]
 ·rw [we h1,decide_eq_false h1,Bool.false_and]
theorem zAx {a b:I} (ha:okI a) (hb:okI b):zfN (iv a) (iv b)=some (inI a b):=by
 unfold zfN zk4
 rw [zcX ha]
 simp only [obn,if_true]
 rw [zM,zR,zl8 hb ha.1,zl8 hb ha.2.1]
 simp only [obn]
 unfold inI
 cases hasI b a.lo<;>simp
theorem zgw {p:Nat} (hp:2≤p∧p≤400):zab (p:Int)=some (Sum.inr ((p:Int),0)):=by
 unfold zab zof
 rw [we wa,we (by simp; omega)]
theorem zbt (x p e:Int):QL x p e=some (if e=0 then (x == 0,x) else (false,e)):=by
 unfold QL zog
 by_cases h:e=0
 ·rw [wc h,wc h]
 ·rw [we h,we h]
  have:(e == 0)=false:=by simpa using h
  rw [this]
theorem ztt (l:List AI) (p e:Int) (i n:Nat) (hi:l.length≤i):zbP l p e (n+1) (i:Int)=some (e == 0,e):=by
 rw [zbP,we wa]; rfl
theorem zpk (l:List AI) (p e:Int) (i n:Nat) (hi:i<l.length) (hi':i≤1000) (hr:Qr (l.getD i zAI)=some true):zbP l p e (n+1) (i:Int)=zbP l p e n ((i+1:Nat):Int):=by
 rw [zbP,wc wa,wc wa]
 simp only [Int.toNat_natCast,zsW]
 rw [hr]
 simp only [obn]
 rw [we wb,show ((i:Int)+1)=((i+1:Nat):Int) by omega,zW wa]
theorem ziT {a:I} (ha:okI a) (p e:Int):ZD [iv a] p e=some (e == 0,e):=by
 unfold ZD
 obtain ⟨f,hf⟩:=zai
 rw [hf]
 exact (zpk [iv a] p e 0 (f+1+1) wb wa (zcX ha)).trans (ztt [iv a] p e 1 (f+1) wb)
theorem ziU {a b:I} (ha:okI a) (hb:okI b) (p e:Int):ZD [iv a,iv b] p e=some (e == 0,e):=by
 unfold ZD
 obtain ⟨f,hf⟩:=zai
 rw [hf]
 exact (zpk [iv a,iv b] p e 0 (f+1+1) wb wa (zcX ha)).trans ((zpk [iv a,iv b] p e 1 (f+1) wb wa (zcX hb)).trans (ztt [iv a,iv b] p e 2 f wb))
theorem zpl {d:D} (h:(qr d).2≠0):(qr d).1=zD∧(qr d).2=4:=by
 unfold qr at *
 by_cases h1:inR d=true
 ·rw [wc h1] at h; exact absurd rfl h
 ·rw [we h1]; exact ⟨rfl,rfl⟩
theorem zcY {x y:D} (hx:WD x) (hy:WD y) (p e:Int):zcF (dy x) (dy y) p e=some (dy (st e zD (zo (zH x y) zD fun s=>(s,0))).1,(st e zD (zo (zH x y) zD fun s=>(s,0))).2):=by
 unfold zcF st zo
 by_cases h:e=0
 ·rw [we (by simpa using h),wc h,zAh hx hy]
  simp only [obn]
  rw [zbt,wc h]
  simp only [obn]
  by_cases h2:(zH x y).2=0
  ·rw [wc h2,h2]
  ·rw [we h2,(zpl (d:=sumD x y) h2).1.symm]; rfl
 ·rw [wc h,we h,qp]
theorem QV {x:D} (hx:WD x) {p:Nat} (hp:2≤p∧p≤400) (up:Bool) (e:Int):zac (dy x) up (p:Int) e=some (dy (st e zD (zo (zn x p up) zD fun s=>(s,0))).1,(st e zD (zo (zn x p up) zD fun s=>(s,0))).2):=by
 unfold zac st zo
 by_cases h:e=0
 ·rw [we (by simpa using h),wc h,zAl hx hp]
  simp only [obn]
  rw [zbt,wc h]
  simp only [obn]
  by_cases h2:(zn x p up).2=0
  ·rw [wc h2,h2]
  ·rw [we h2,(zpl (d:=rnd x p up) h2).1.symm]; rfl
 ·rw [wc h,we h,qp]
theorem ZK (x y:D) (e p:Int):zbf (dy x) (dy y) p e=some (iv (if e=0 then ⟨x,y⟩ else zI)):=by
 unfold zbf
 by_cases h:e=0
 ·rw [we (by simpa using h),wc h]; rfl
 ·rw [wc h,we h,zw]
theorem zl9 {x:D} (hx:WD x) (e p:Int):zaK (dy x) p e=some (iv (st e zI (⟨x,x⟩,0)).1,(st e zI ((⟨x,x⟩:I),0)).2):=by
 unfold zaK
 have:(⟨dy x,dy x⟩:AI)=iv ⟨x,x⟩:=rfl
 rw [this,ziT (zlJ hx)]
 simp only [obn]
 by_cases h:e=0
 ·subst h; rw [we wb,zd]
 ·rw [wc (Zu h),zu h,zw]
theorem zAy {n:Int} (hn : -9223372036854775808≤n∧n≤9223372036854775807) (e p:Int):qN n p e=some (iv (st e zI (intI n,0)).1,(st e zI (intI n,0)).2):=by
 unfold qN
 rw [zgv hn]
 simp only [obn]
 rw [zl9 (zb1 hn)]
 simp only [obn]
 rfl
theorem ztu {a b:I} (ha:okI a) (hb:okI b) {p:Nat} (hp:2≤p∧p≤400) (e:Int):Zs (iv a) (iv b) (p:Int) e=some (iv (st e zI (ZY p a b)).1,(st e zI (ZY p a b)).2):=by
 unfold Zs
 rw [ziU ha hb]
 simp only [obn]
 by_cases h:e=0
 ·subst h
  rw [we wb,zM,zM,zR,zR,zd,zcY ha.1 hb.1,zd]
  simp only [obn]
  rw [QV (x:=(zo (zH a.lo b.lo) zD fun s=>(s,0)).1) (by
   have:=zcW (zcT ha.1 hb.1) 0; rwa [zd] at this) hp]
  simp only [obn]
  unfold ZY
  by_cases h1:(zH a.lo b.lo).2=0
  ·rw [ze h1,ze h1,zd]
   by_cases h2:(zn (zH a.lo b.lo).1 p false).2=0
   ·rw [ze h2,ze h2,zcY ha.2.1 hb.2.1,zd]
    simp only [obn]
    rw [QV (x:=(zo (zH a.hi b.hi) zD fun s=>(s,0)).1) (by
     have:=zcW (zcT ha.2.1 hb.2.1) 0; rwa [zd] at this) hp]
    simp only [obn]
    by_cases h3:(zH a.hi b.hi).2=0
    ·rw [ze h3,ze h3,zd]
     by_cases h4:(zn (zH a.hi b.hi).1 p true).2=0
     ·rw [ze h4,ze h4,ZK]
      simp only [obn]
      rfl
     ·rw [zg h4,zg h4,ZK]
      simp only [obn]
      rw [we h4]
    ·rw [zg h3,zg h3,zu h3,ZK]
     simp only [obn]
     rw [we h3]
   ·rw [zg h2,zg h2,zcY ha.2.1 hb.2.1,zu h2]
    simp only [obn]
    rw [QV qj hp,zu h2]
    simp only [obn]
    rw [ZK]
    simp only [obn]
    rw [we h2]
  ·rw [zg h1,zg h1,zu h1,zcY ha.2.1 hb.2.1,zu h1]
   simp only [obn]
   rw [QV qj hp,zu h1]
   simp only [obn]
   rw [ZK]
   simp only [obn]
   rw [we h1]
 ·rw [wc (Zu h),zu h,zw]
theorem ztv {a:I} (h:okI a) (e p:Int):zd7 (iv a) p e=some (iv (st e zI (negI a,0)).1,(st e zI (negI a,0)).2):=by
 unfold zd7
 rw [ziT h]
 simp only [obn]
 by_cases h0:e=0
 ·subst h0
  rw [we wb,zd,zM,zR,zl6 h.1,zl6 h.2.1]
  simp only [obn]
  rfl
 ·rw [wc (Zu h0),zu h0,zw]
theorem ztw {a:I} (ha:okI a) {d:D} (hd:WD d) (hd0:0≤val d) {p:Nat} (hp:2≤p∧p≤400) (e:Int):zec (iv a) (dy d) (p:Int) e=some (iv (st e zI (ZZ p a d)).1,(st e zI (ZZ p a d)).2):=by
 unfold zec
 have hz:(⟨⟨⟨false,[]⟩,0⟩,dy d⟩:AI)=iv ⟨zD,d⟩:=by unfold iv; simp only [qp]
 have hok:okI ⟨zD,d⟩:=⟨qj,hd,by show val zD≤val d; rw [qT]; exact hd0⟩
 rw [hz,ziU ha hok]
 simp only [obn]
 by_cases h:e=0
 ·subst h
  rw [we wb,zl6 hd]
  simp only [obn]
  rw [zM,zR,zd,zcY ha.1 hd.neg,zd]
  simp only [obn]
  rw [QV (x:=(zo (zH a.lo (negD d)) zD fun s=>(s,0)).1) (by
   have:=zcW (zcT ha.1 hd.neg) 0; rwa [zd] at this) hp]
  simp only [obn]
  unfold ZZ
  by_cases h1:(zH a.lo (negD d)).2=0
  ·rw [ze h1,ze h1,zd]
   by_cases h2:(zn (zH a.lo (negD d)).1 p false).2=0
   ·rw [ze h2,ze h2,zcY ha.2.1 hd,zd]
    simp only [obn]
    rw [QV (x:=(zo (zH a.hi d) zD fun s=>(s,0)).1) (by
     have:=zcW (zcT ha.2.1 hd) 0; rwa [zd] at this) hp]
    simp only [obn]
    by_cases h3:(zH a.hi d).2=0
    ·rw [ze h3,ze h3,zd]
     by_cases h4:(zn (zH a.hi d).1 p true).2=0
     ·rw [ze h4,ze h4,ZK]
      simp only [obn]
      rfl
     ·rw [zg h4,zg h4,ZK]
      simp only [obn]
      rw [we h4]
    ·rw [zg h3,zg h3,zu h3,ZK]
     simp only [obn]
     rw [we h3]
   ·rw [zg h2,zg h2,zcY ha.2.1 hd,zu h2]
    simp only [obn]
    rw [QV qj hp,zu h2]
    simp only [obn]
    rw [ZK]
    simp only [obn]
    rw [we h2]
  ·rw [zg h1,zg h1,zu h1,zcY ha.2.1 hd,zu h1]
   simp only [obn]
   rw [QV qj hp,zu h1]
   simp only [obn]
   rw [ZK]
   simp only [obn]
   rw [we h1]
 ·rw [wc (Zu h),zu h,zw]
theorem ztx {a b:I} (ha:okI a) (hb:okI b) {p:Nat} (hp:2≤p∧p≤400) (e:Int):zbg (iv a) (iv b) (p:Int) e=some (iv (st e zI (zep p a b)).1,(st e zI (zep p a b)).2):=by
 unfold zbg
 rw [ziU ha hb]
 simp only [obn]
 by_cases h0:e=0
 ·subst h0
  rw [we wb,ztv hb]
  simp only [obn]
  rw [zd,zd,ztu ha (zlK hb) hp,zd]
  simp only [obn]
  rfl
 ·rw [wc (Zu h0),zu h0,zw]
theorem zAz {a:I} (ha:okI a) {n:Int} (hn : -100000≤n∧n≤100000) (e p:Int):ZF (iv a) n p e=some (iv (st e zI (Qu a n)).1,(st e zI (Qu a n)).2):=by
 unfold ZF
 rw [ziT ha]
 simp only [obn]
 by_cases h:e=0
 ·subst h
  rw [we wb,zM,zR,zd,zl7 ha.1 hn]
  simp only [obn]
  rw [zbt,wc rfl]
  simp only [obn]
  unfold Qu
  by_cases h1:(qz a.lo n).2=0
  ·rw [ze h1,we (by simp [h1]),zl7 ha.2.1 hn]
   simp only [obn]
   rw [zbt,wc h1]
   simp only [obn]
   rw [ZK]
   simp only [obn]
   by_cases h2:(qz a.hi n).2=0
   ·rw [ze h2,wc h2,h2]
   ·rw [zg h2,we h2]
  ·rw [zg h1,wc (by simpa using h1),zw]
 ·rw [wc (Zu h),zu h,zw]
theorem zAA (l:List D) (hl:∀ y ∈ l,WD y) (hlen:l.length≤1000):∀ (r i:Nat) (m:D),i+r=l.length→WD m→∀ f,r<f→
  zd5 (l.map dy) f (i:Int) (dy m).M.Neg (dy m).M.Mag (dy m).E=some (dy ((l.drop i).foldl minD m)):=by
 intro r
 induction r with
 | zero=>
  intro i m hi hm f hf
  obtain ⟨f,rfl⟩:∃ k,f=k+1:=⟨f-1,wa⟩
  rw [zd5,we (by rw [List.length_map]; omega),List.drop_eq_nil_of_le wa]
  rfl
 | succ r ih=>
  intro i m hi hm f hf
  obtain ⟨f,rfl⟩:∃ k,f=k+1:=⟨f-1,wa⟩
  have hin:i<l.length:=wa
  have hW:=hl _ (getD_mem hin)
  have hw:i64.wrap ((i:Int)+1)=((i+1:Nat):Int):=by rw [w64]<;>omega
  rw [zd5]
  unfold zom
  simp only [hw]
  rw [wc (by rw [List.length_map]; omega),wc (by rw [List.length_map]; omega),Int.toNat_natCast,zeq l i hin,zgl hin,List.foldl_cons]
  generalize l.getD i zD=y at *
  have e1:∀ d:D,(⟨⟨(dy d).M.Neg,(dy d).M.Mag⟩,(dy d).E⟩:AD)=dy d:=fun _=>rfl
  simp only [e1]
  rw [zb2 hW hm]
  simp only [obn]
  have hmin:minD m y=if zp y m<0 then y else m:=rfl
  by_cases h1:zp y m<0
  ·rw [wc h1,wc (by rw [List.length_map]; omega),hmin,wc h1]
   exact ih (i+1) y wa hW f wa
  ·rw [we h1,hmin,we h1]
   exact ih (i+1) m wa hm f wa
theorem zty {l:List D} (h0:l≠[]) (hl:∀ y ∈ l,WD y) (hlen:l.length≤1000):zfI (l.map dy)=some (dy (minL l)):=by
 cases l with
 | nil=>exact absurd rfl h0
 | cons x l=>
  unfold zfI
  rw [wc wb]
  have e:((x :: l).map dy).getD 0 zAD=dy x:=rfl
  rw [e]
  exact zAA (x :: l) hl hlen l.length 1 x (by simp; omega) (hl x List.mem_cons_self) fuel (by simp at hlen; unfold fuel; omega)
theorem zAB (l:List D) (hl:∀ y ∈ l,WD y) (hlen:l.length≤1000):∀ (r i:Nat) (m:D),i+r=l.length→WD m→∀ f,r<f→
  zd6 (l.map dy) f (i:Int) (dy m).M.Neg (dy m).M.Mag (dy m).E=some (dy ((l.drop i).foldl maxD m)):=by
 intro r
 induction r with
 | zero=>
  intro i m hi hm f hf
  obtain ⟨f,rfl⟩:∃ k,f=k+1:=⟨f-1,wa⟩
  rw [zd6,we (by rw [List.length_map]; omega),List.drop_eq_nil_of_le wa]
  rfl
 | succ r ih=>
  intro i m hi hm f hf
  obtain ⟨f,rfl⟩:∃ k,f=k+1:=⟨f-1,wa⟩
  have hin:i<l.length:=wa
  have hW:=hl _ (getD_mem hin)
  have hw:i64.wrap ((i:Int)+1)=((i+1:Nat):Int):=by rw [w64]<;>omega
  rw [zd6]
  unfold zon
  simp only [hw]
  rw [wc (by rw [List.length_map]; omega),wc (by rw [List.length_map]; omega),Int.toNat_natCast,zeq l i hin,zgl hin,List.foldl_cons]
  generalize l.getD i zD=y at *
  have e1:∀ d:D,(⟨⟨(dy d).M.Neg,(dy d).M.Mag⟩,(dy d).E⟩:AD)=dy d:=fun _=>rfl
  simp only [e1]
  rw [zb2 hW hm]
  simp only [obn]
  have hmin:maxD m y=if 0<zp y m then y else m:=rfl
  by_cases h1:0<zp y m
  ·rw [wc h1,wc (by rw [List.length_map]; omega),hmin,wc h1]
   exact ih (i+1) y wa hW f wa
  ·rw [we h1,hmin,we h1]
   exact ih (i+1) m wa hm f wa
theorem ztz {l:List D} (h0:l≠[]) (hl:∀ y ∈ l,WD y) (hlen:l.length≤1000):zfJ (l.map dy)=some (dy (maxL l)):=by
 cases l with
 | nil=>exact absurd rfl h0
 | cons x l=>
  unfold zfJ
  rw [wc wb]
  have e:((x :: l).map dy).getD 0 zAD=dy x:=rfl
  rw [e]
  exact zAB (x :: l) hl hlen l.length 1 x (by simp; omega) (hl x List.mem_cons_self) fuel (by simp at hlen; unfold fuel; omega)
theorem zma {a b:I} (p:Int) (i:Nat) (hi:i<4) (x y:D) (hx:WD x) (hy:WD y) (ex:([dy a.lo,dy a.lo,dy a.hi,dy a.hi]:List AD).getD i zAD=dy x) (ey:([dy b.lo,dy b.hi,dy b.lo,dy b.hi]:List AD).getD i zAD=dy y) (O:List D) (hO:O.length≤10) (n:Nat) :
  zcH (iv a) (iv b) p (n+1) (i:Int) 0 (O.map dy)=if (timesD x y).2=0 then zcH (iv a) (iv b) p n ((i+1:Nat):Int) 0 ((O++[(timesD x y).1]).map dy) else some (iv zI,(timesD x y).2):=by
 rw [zcH,wc wa,wc (by simp only [List.length_cons,List.length_nil]; omega),wc (by simp only [List.length_cons,List.length_nil]; omega)]
 simp only [Int.toNat_natCast,zM,zR]
 rw [ex,ey]
 simp only [ziG]
 rw [zAj hx hy]
 simp only [obn]
 rw [zbt,wc rfl]
 simp only [obn]
 by_cases h:(timesD x y).2=0
 ·rw [wc h,we (by simp [h]),wc (by simp only [List.length_cons,List.length_nil,List.length_map]; omega),show ((i:Int)+1)=((i+1:Nat):Int) by omega,zW wa,h,List.map_append]
  rfl
 ·rw [we h,wc (by simpa using h),zw]
theorem ztA (a b c d:D):minL [a,b,c,d]=qk a b c d:=rfl
theorem ztB (a b c d:D):maxL [a,b,c,d]=qf a b c d:=rfl
theorem zAC {a b:I} (ha:okI a) (hb:okI b) {p:Nat} (hp:2≤p∧p≤400) (e:Int):ZE (iv a) (iv b) (p:Int) e=some (iv (st e zI (Qw p a b)).1,(st e zI (Qw p a b)).2):=by
 unfold ZE
 rw [ziU ha hb]
 simp only [obn]
 by_cases h:e=0
 ·subst h
  rw [we wb,zd]
  obtain ⟨f0,hf0⟩:∃ f,fuel=f+1+1+1+1+1:=⟨18446744073709551611,by unfold fuel; omega⟩
  rw [hf0]
  have s0:=zma (a:=a) (b:=b) (p:Int) 0 wa a.lo b.lo ha.1 hb.1 rfl rfl [] wb (f0+1+1+1+1)
  refine Eq.trans s0 ?_
  unfold Qw Zf
  by_cases h1:(timesD a.lo b.lo).2=0
  ·rw [wc h1,ze h1]
   have s1:=zma (a:=a) (b:=b) (p:Int) 1 wa a.lo b.hi ha.1 hb.2.1 rfl rfl ([]++[(timesD a.lo b.lo).1]) wb (f0+1+1+1)
   refine Eq.trans s1 ?_
   by_cases h2:(timesD a.lo b.hi).2=0
   ·rw [wc h2,ze h2]
    have s2:=zma (a:=a) (b:=b) (p:Int) 2 wa a.hi b.lo ha.2.1 hb.1 rfl rfl ([]++[(timesD a.lo b.lo).1]++[(timesD a.lo b.hi).1]) wb (f0+1+1)
    refine Eq.trans s2 ?_
    by_cases h3:(timesD a.hi b.lo).2=0
    ·rw [wc h3,ze h3]
     have s3:=zma (a:=a) (b:=b) (p:Int) 3 wa a.hi b.hi ha.2.1 hb.2.1 rfl rfl ([]++[(timesD a.lo b.lo).1]++[(timesD a.lo b.hi).1]++[(timesD a.hi b.lo).1]) wb (f0+1)
     refine Eq.trans s3 ?_
     by_cases h4:(timesD a.hi b.hi).2=0
     ·rw [wc h4,ze h4,zcH,we wa]
      have hW:∀ y ∈ [(timesD a.lo b.lo).1,(timesD a.lo b.hi).1,(timesD a.hi b.lo).1,(timesD a.hi b.hi).1],WD y:=by
       intro y hy
       simp only [List.mem_cons,List.not_mem_nil,or_false] at hy
       rcases hy with rfl | rfl | rfl | rfl<;>exact zsD
      have hml:=zty (l:=[(timesD a.lo b.lo).1,(timesD a.lo b.hi).1,(timesD a.hi b.lo).1,(timesD a.hi b.hi).1]) wb hW wb
      have hMl:=ztz (l:=[(timesD a.lo b.lo).1,(timesD a.lo b.hi).1,(timesD a.hi b.lo).1,(timesD a.hi b.hi).1]) wb hW wb
      have hWm:=zs6 hW
      have hWM:=zs7 hW
      rw [ztA] at hml hWm
      rw [ztB] at hMl hWM
      unfold zkW
      have el:([]++[(timesD a.lo b.lo).1]++[(timesD a.lo b.hi).1]++[(timesD a.hi b.lo).1]++[(timesD a.hi b.hi).1])=[(timesD a.lo b.lo).1,(timesD a.lo b.hi).1,(timesD a.hi b.lo).1,(timesD a.hi b.hi).1]:=rfl
      rw [el,hml]
      simp only [obn]
      rw [QV hWm hp,zd]
      simp only [obn]
      rw [hMl]
      simp only [obn]
      rw [QV hWM hp]
      simp only [obn]
      rw [ZK]
      simp only [obn]
      generalize qk (timesD a.lo b.lo).1 (timesD a.lo b.hi).1 (timesD a.hi b.lo).1 (timesD a.hi b.hi).1=m
      generalize qf (timesD a.lo b.lo).1 (timesD a.lo b.hi).1 (timesD a.hi b.lo).1 (timesD a.hi b.hi).1=M
      by_cases h5:(zn m p false).2=0
      ·rw [ze h5,ze h5,zd]
       by_cases h6:(zn M p true).2=0
       ·rw [ze h6,ze h6]; rfl
       ·rw [zg h6,zg h6]
        simp only
        rw [we h6]
      ·rw [zg h5,zg h5,zu h5]
       simp only
       rw [we h5]
     ·rw [we h4,zg h4]
    ·rw [we h3,zg h3]
   ·rw [we h2,zg h2]
  ·rw [we h1,zg h1]
 ·rw [wc (Zu h),zu h,zw]
theorem zpm {x y:D} (hy:y.m≠0) {p:Nat} {up:Bool} (h:(divD x y p up).2≠0):(divD x y p up).2=4:=by
 unfold divD at *
 rw [we hy] at h ⊢
 by_cases hx:x.m=0
 ·rw [wc hx] at h; exact absurd rfl h
 ·rw [we hx] at h ⊢; exact (zpl h).2
theorem zcZ {r:D × Int} {f:D→I × Int} (hr:r.2≠0→r.2=4) (h:r.2=0→f r.1=(zI,4)):zo r zI f=(zI,4):=by
 by_cases h0:r.2=0
 ·rw [ze h0]; exact h h0
 ·rw [zg h0,hr h0]
theorem zmb {a b:I} {p:Nat} (hp:2≤p∧p≤400) (i:Nat) (hi:i<4) (x y:D) (hx:WD x) (hy:WD y) (hbx:blen x.m.natAbs≤90000) (hby:blen y.m.natAbs≤90000) (hy0:y.m≠0) (ex:([dy a.lo,dy a.lo,dy a.hi,dy a.hi]:List AD).getD i zAD=dy x) (ey:([dy b.lo,dy b.hi,dy b.lo,dy b.hi]:List AD).getD i zAD=dy y) (O P:List D) (hO:O.length≤10) (hP:P.length≤10) (n:Nat) :
  zaM (iv a) (iv b) (p:Int) (n+1) (i:Int) 0 (O.map dy) (P.map dy)=if (divD x y p false).2=0∧(divD x y p true).2=0 then zaM (iv a) (iv b) (p:Int) n ((i+1:Nat):Int) 0 ((O++[(divD x y p false).1]).map dy) ((P++[(divD x y p true).1]).map dy) else some (iv zI,4):=by
 rw [zaM,wc wa,wc (by simp only [List.length_cons,List.length_nil]; omega),wc (by simp only [List.length_cons,List.length_nil]; omega)]
 simp only [Int.toNat_natCast,zM,zR]
 rw [ex,ey]
 simp only [ziG]
 rw [zts hx hy hbx hby hp]
 simp only [obn]
 rw [wc (by simp only [List.length_cons,List.length_nil]; omega),wc (by simp only [List.length_cons,List.length_nil]; omega),zts hx hy hbx hby hp]
 simp only [obn]
 rw [zbt,wc rfl]
 simp only [obn]
 unfold zib
 by_cases h:(divD x y p false).2=0
 ·rw [we (by simp [h]),zbt,wc h]
  simp only [obn]
  by_cases h2:(divD x y p true).2=0
  ·have hc:(divD x y p false).2=0∧(divD x y p true).2=0:=⟨h,h2⟩
   rw [wc hc,we (by simp [h2]),wc (by simp only [List.length_cons,List.length_nil,List.length_map]; omega),wc (by simp only [List.length_cons,List.length_nil,List.length_map]; omega),show ((i:Int)+1)=((i+1:Nat):Int) by omega,zW wa,h2,List.map_append,List.map_append]
   rfl
  ·rw [wc (by simpa using h2),we (fun h3=>h2 h3.2),zpm hy0 h2,zw]
 ·rw [wc (by simpa using h),wc rfl,we (fun h3=>h h3.1),zpm hy0 h,zw]
theorem zAE {a b:I} (ha:okI a) (hb:okI b) (sa:blen a.lo.m.natAbs≤90000∧blen a.hi.m.natAbs≤90000) (sb:blen b.lo.m.natAbs≤90000∧blen b.hi.m.natAbs≤90000) {p:Nat} (hp:2≤p∧p≤400) (e:Int):QN (iv a) (iv b) (p:Int) e=some (iv (st e zI (Z0 p a b)).1,(st e zI (Z0 p a b)).2):=by
 unfold QN
 rw [ziU ha hb]
 simp only [obn]
 by_cases h:e=0
 ·subst h
  rw [we wb,zd,← qp,zl8 hb qj]
  simp only [obn]
  unfold Z0
  by_cases hz:hasI b zD=true
  ·rw [wc hz,wc hz,zbt,wc rfl]
   simp only [obn]
   rfl
  ·rw [we hz,we hz]
   have hz':hasI b zD=false:=by simpa using hz
   have hs:=ziQ hz'
   have hble:=hb.2.2
   have zl:=zem b.lo
   have zh:=zem b.hi
   have nl:b.lo.m≠0:=fun h0=>by have:=zl.2 h0; grind
   have nh:b.hi.m≠0:=fun h0=>by have:=zh.2 h0; grind
   obtain ⟨f0,hf0⟩:∃ f,fuel=f+1+1+1+1+1:=⟨18446744073709551611,by unfold fuel; omega⟩
   rw [hf0]
   have E:∀ x y:D,y.m≠0→∀ up,(divD x y p up).2≠0→(divD x y p up).2=4:=fun x y hy up h=>zpm hy h
   have hgoal:∀ R:Option (AI × Int),(R=some (iv zI,4)∧((divD a.lo b.lo p false).2≠0∨(divD a.lo b.lo p true).2≠0∨(divD a.lo b.hi p false).2≠0∨(divD a.lo b.hi p true).2≠0∨(divD a.hi b.lo p false).2≠0∨(divD a.hi b.lo p true).2≠0∨(divD a.hi b.hi p false).2≠0∨(divD a.hi b.hi p true).2≠0))∨
     (((divD a.lo b.lo p false).2=0∧(divD a.lo b.lo p true).2=0∧(divD a.lo b.hi p false).2=0∧(divD a.lo b.hi p true).2=0∧(divD a.hi b.lo p false).2=0∧(divD a.hi b.lo p true).2=0∧(divD a.hi b.hi p false).2=0∧(divD a.hi b.hi p true).2=0)∧R=some (iv ⟨qk (divD a.lo b.lo p false).1 (divD a.lo b.hi p false).1 (divD a.hi b.lo p false).1 (divD a.hi b.hi p false).1,qf (divD a.lo b.lo p true).1 (divD a.lo b.hi p true).1 (divD a.hi b.lo p true).1 (divD a.hi b.hi p true).1⟩,0))→
     R=some (iv (Zf (fun x y=>divD x y p false) a.lo a.hi b.lo b.hi zI fun q1 q2 q3 q4=>Zf (fun x y=>divD x y p true) a.lo a.hi b.lo b.hi zI fun r1 r2 r3 r4=>((⟨qk q1 q2 q3 q4,qf r1 r2 r3 r4⟩:I),0)).1,(Zf (fun x y=>divD x y p false) a.lo a.hi b.lo b.hi zI fun q1 q2 q3 q4=>Zf (fun x y=>divD x y p true) a.lo a.hi b.lo b.hi zI fun r1 r2 r3 r4=>((⟨qk q1 q2 q3 q4,qf r1 r2 r3 r4⟩:I),0)).2):=by
    rintro R (⟨rfl,hor⟩ | ⟨⟨g1,g2,g3,g4,g5,g6,g7,g8⟩,rfl⟩)
    ·have:(Zf (fun x y=>divD x y p false) a.lo a.hi b.lo b.hi zI fun q1 q2 q3 q4=>Zf (fun x y=>divD x y p true) a.lo a.hi b.lo b.hi zI fun r1 r2 r3 r4=>((⟨qk q1 q2 q3 q4,qf r1 r2 r3 r4⟩:I),0))=(zI,4):=by
      unfold Zf
      refine zcZ (E _ _ nl _) fun k1=>zcZ (E _ _ nh _) fun k3=>zcZ (E _ _ nl _) fun k5=>zcZ (E _ _ nh _) fun k7=>zcZ (E _ _ nl _) fun k2=>zcZ (E _ _ nh _) fun k4=>zcZ (E _ _ nl _) fun k6=>zcZ (E _ _ nh _) fun k8=>?_
      exfalso
      simp only at k1 k2 k3 k4 k5 k6 k7 k8
      rcases hor with h | h | h | h | h | h | h | h
      ·exact h k1
      ·exact h k2
      ·exact h k3
      ·exact h k4
      ·exact h k5
      ·exact h k6
      ·exact h k7
      ·exact h k8
     rw [this]
    ·unfold Zf
     rw [ze g1,ze g3,ze g5,ze g7]
     simp only
     rw [ze g2,ze g4,ze g6,ze g8]
   apply hgoal
   have s0:=zmb (a:=a) (b:=b) hp 0 wa a.lo b.lo ha.1 hb.1 sa.1 sb.1 nl rfl rfl [] [] wb wb (f0+1+1+1+1)
   have s1:=zmb (a:=a) (b:=b) hp 1 wa a.lo b.hi ha.1 hb.2.1 sa.1 sb.2 nh rfl rfl ([]++[(divD a.lo b.lo p false).1]) ([]++[(divD a.lo b.lo p true).1]) wb wb (f0+1+1+1)
   have s2:=zmb (a:=a) (b:=b) hp 2 wa a.hi b.lo ha.2.1 hb.1 sa.2 sb.1 nl rfl rfl ([]++[(divD a.lo b.lo p false).1]++[(divD a.lo b.hi p false).1]) ([]++[(divD a.lo b.lo p true).1]++[(divD a.lo b.hi p true).1]) wb wb (f0+1+1)
   have s3:=zmb (a:=a) (b:=b) hp 3 wa a.hi b.hi ha.2.1 hb.2.1 sa.2 sb.2 nh rfl rfl ([]++[(divD a.lo b.lo p false).1]++[(divD a.lo b.hi p false).1]++[(divD a.hi b.lo p false).1]) ([]++[(divD a.lo b.lo p true).1]++[(divD a.lo b.hi p true).1]++[(divD a.hi b.lo p true).1]) wb wb (f0+1)
   have s0':zaM (iv a) (iv b) (p:Int) (f0+1+1+1+1+1) 0 0 [] []=_:=s0
   rw [s0']
   by_cases c0:(divD a.lo b.lo p false).2=0∧(divD a.lo b.lo p true).2=0
   ·rw [wc c0,s1]
    by_cases c1:(divD a.lo b.hi p false).2=0∧(divD a.lo b.hi p true).2=0
    ·rw [wc c1,s2]
     by_cases c2:(divD a.hi b.lo p false).2=0∧(divD a.hi b.lo p true).2=0
     ·rw [wc c2,s3]
      by_cases c3:(divD a.hi b.hi p false).2=0∧(divD a.hi b.hi p true).2=0
      ·rw [wc c3,zaM,we wa]
       right
       refine ⟨⟨c0.1,c0.2,c1.1,c1.2,c2.1,c2.2,c3.1,c3.2⟩,?_⟩
       have hW:∀ up,∀ y ∈ [(divD a.lo b.lo p up).1,(divD a.lo b.hi p up).1,(divD a.hi b.lo p up).1,(divD a.hi b.hi p up).1],WD y:=by
        intro up y hy
        simp only [List.mem_cons,List.not_mem_nil,or_false] at hy
        rcases hy with rfl | rfl | rfl | rfl<;>exact zaT
       have hml:=zty (l:=[(divD a.lo b.lo p false).1,(divD a.lo b.hi p false).1,(divD a.hi b.lo p false).1,(divD a.hi b.hi p false).1]) wb (hW false) wb
       have hMl:=ztz (l:=[(divD a.lo b.lo p true).1,(divD a.lo b.hi p true).1,(divD a.hi b.lo p true).1,(divD a.hi b.hi p true).1]) wb (hW true) wb
       rw [ztA] at hml
       rw [ztB] at hMl
       unfold zk3
       simp only [List.nil_append,List.cons_append] at hml hMl ⊢
       rw [hml]
       simp only [obn]
       rw [hMl]
       simp only [obn]
       rw [ZK,wc rfl]
       rfl
      ·rw [we c3]
       left; refine ⟨rfl,?_⟩
       by_cases d:(divD a.hi b.hi p false).2=0
       ·exact Or.inr (Or.inr (Or.inr (Or.inr (Or.inr (Or.inr (Or.inr fun e=>c3 ⟨d,e⟩))))))
       ·exact Or.inr (Or.inr (Or.inr (Or.inr (Or.inr (Or.inr (Or.inl d))))))
     ·rw [we c2]
      left; refine ⟨rfl,?_⟩
      by_cases d:(divD a.hi b.lo p false).2=0
      ·exact Or.inr (Or.inr (Or.inr (Or.inr (Or.inr (Or.inl fun e=>c2 ⟨d,e⟩)))))
      ·exact Or.inr (Or.inr (Or.inr (Or.inr (Or.inl d))))
    ·rw [we c1]
     left; refine ⟨rfl,?_⟩
     by_cases d:(divD a.lo b.hi p false).2=0
     ·exact Or.inr (Or.inr (Or.inr (Or.inl fun e=>c1 ⟨d,e⟩)))
     ·exact Or.inr (Or.inr (Or.inl d))
   ·rw [we c0]
    left; refine ⟨rfl,?_⟩
    by_cases d:(divD a.lo b.lo p false).2=0
    ·exact Or.inr (Or.inl fun e=>c0 ⟨d,e⟩)
    ·exact Or.inl d
 ·rw [wc (Zu h),zu h,zw]
structure SI (a:I):Prop where
 ok:okI a
 lo:blen a.lo.m.natAbs≤1000
 hi:blen a.hi.m.natAbs≤1000
theorem zO:SI zI:=⟨zsV,by decide,by decide⟩
theorem SI.l {a:I} (h:SI a):blen a.lo.m.natAbs≤90000∧blen a.hi.m.natAbs≤90000:=by have:=h.lo; have:=h.hi; omega
theorem zc0 {d:D} (h:(qr d).2=0):(qr d).1=d:=by
 unfold qr at *
 by_cases h1:inR d=true
 ·rw [wc h1]
 ·rw [we h1] at h; simp at h
theorem zAF {n p:Nat} (h:n≤2 ^ p):blen n≤p+1:=by
 have:=zaf h
 rwa [zlw] at this
theorem ztC (neg:Bool) (m:Nat) (e:Int) (s:Bool) (p:Nat) (away:Bool):blen (Zt neg m e s p away).m.natAbs≤p+1:=by
 refine Nat.le_trans (ziw _ _) ?_
 rw [zbm]
 exact zAF (zo9 m s p away)
theorem ztD {d:D} {k:Nat} (h:blen d.m.natAbs≤k):blen (qr d).1.m.natAbs≤k:=by
 unfold qr
 split
 ·exact h
 ·show blen (0:Int).natAbs≤k
  simp [blen]
theorem ztE (x:D) {p:Nat} (up:Bool):blen (zn x p up).1.m.natAbs≤p+1:=ztD (ztC _ _ _ _ _ _)
theorem zAG {x:D} {p:Nat} (h:(zn x p false).2=0):val (zn x p false).1≤val x:=by
 rw [zpa] at *; rw [zc0 h]; exact zlT x p
theorem zAH {x:D} {p:Nat} (h:(zn x p true).2=0):val x≤val (zn x p true).1:=by
 rw [zpa] at *; rw [zc0 h]; exact zlU x p
theorem zpn {x y:D} (hle:val x≤val y) {p:Nat} (hp:p≤400):SI (zo (zn x p false) zI fun lo=>zo (zn y p true) zI fun hi=>((⟨lo,hi⟩:I),0)).1:=by
 by_cases h1:(zn x p false).2=0
 ·rw [ze h1]
  by_cases h2:(zn y p true).2=0
  ·rw [ze h2]
   have a1:=zAG h1
   have a2:=zAH h2
   have b1:=ztE x (p:=p) false
   have b2:=ztE y (p:=p) true
   exact ⟨⟨zsK,zsK,by show val (zn x p false).1≤val (zn y p true).1; grind⟩,by show blen (zn x p false).1.m.natAbs≤1000; omega,by show blen (zn y p true).1.m.natAbs≤1000; omega⟩
  ·rw [zg h2]; exact zO
 ·rw [zg h1]; exact zO
theorem zmc {x y:D} (h:(zH x y).2=0):val (zH x y).1=val x+val y:=by
 unfold zH at *; rw [zc0 h,zoN]
theorem ztF {s t:D × Int} {p:Nat} (h:s.2=0→t.2=0→val s.1≤val t.1) (hp:p≤400):SI (zo s zI fun s=>zo (zn s p false) zI fun lo=>zo t zI fun t=>zo (zn t p true) zI fun hi=>((⟨lo,hi⟩:I),0)).1:=by
 by_cases h1:s.2=0
 ·rw [ze h1]
  by_cases h2:t.2=0
  ·have:=zpn (h h1 h2) hp
   by_cases h3:(zn s.1 p false).2=0
   ·rw [ze h3] at this ⊢
    rw [ze h2]; exact this
   ·rw [zg h3]; exact zO
  ·by_cases h3:(zn s.1 p false).2=0
   ·rw [ze h3,zg h2]; exact zO
   ·rw [zg h3]; exact zO
 ·rw [zg h1]; exact zO
theorem ztG {a b:I} (ha:SI a) (hb:SI b) {p:Nat} (hp:p≤400):SI (ZY p a b).1:=by
 refine ztF (fun h1 h2=>?_) hp
 rw [zmc h1,zmc h2]
 have:=ha.ok.2.2
 have:=hb.ok.2.2
 grind
end Go.Proofs.YtjffljhmjdljeaaGreat.Gen
