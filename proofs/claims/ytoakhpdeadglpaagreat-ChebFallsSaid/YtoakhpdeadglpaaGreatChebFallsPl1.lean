/- Plain theory of the numbers that the statement speaks of: printed from the proofs' own texts, as far as this statement needs it. -/
import Derived.Test.YtoakhpdeadglpaaGreatChebFallsPl0
set_option linter.unusedVariables false
set_option linter.unusedSimpArgs false
namespace Go.Proofs.YtoakhpdeadglpaaGreat.Gen
open Go Go.Abs Go.Plain
theorem rinRange_eq {d:D} (hs:SZ d.m.natAbs) (he : -1152921504606846976≤d.e∧d.e≤1152921504606846976):r05_inRange (dy d)=some (inR d):=by
 have hl:=sz_len hs
 have h1:=iOf_mag_zero d.m
 have hM:(dy d).M=iOf d.m:=rfl
 unfold r05_inRange r05_inRange_j1 inR
 rw [hM]
 by_cases h0:d.m=0
 ·rw [if_pos (h1.2 h0)]; simp [h0]
 ·rw [if_neg (fun h=>h0 (h1.1 h)),rsize_eq hs he]
  have hb:r01_Bits (iOf d.m).Mag=some ((blen d.m.natAbs:Nat):Int):=by
   show r01_Bits (digs d.m.natAbs)=_
   rw [rBits_eq (dgd _) (by omega),dvd]
  have hde:(dy d).E=d.e:=rfl
  rw [hb,hde]
  simp only [obn]
  have e0:(d.m == 0)=false:=by simp [h0]
  rw [e0,Bool.false_or]
  by_cases c1:d.e+(blen d.m.natAbs:Nat) ≥ -65536
  ·rw [if_pos c1]
   by_cases c2:d.e+(blen d.m.natAbs:Nat)≤65536
   ·rw [if_pos c2]
    by_cases c3:d.e ≥ -131072
    ·rw [if_pos c3]
     by_cases c4:d.e≤131072
     ·rw [if_pos c4]
      congr 1
      apply decide_eq_decide.2
      omega
     ·rw [if_neg c4]; congr 1; symm; apply decide_eq_false; omega
    ·rw [if_neg c3]; congr 1; symm; apply decide_eq_false; omega
   ·rw [if_neg c2]; congr 1; symm; apply decide_eq_false; omega
  ·rw [if_neg c1]; congr 1; symm; apply decide_eq_false; omega
theorem rMake5_eq {m:Int} (hm:SZ m.natAbs) {e:Int} (he : -100000≤e∧e≤100000):r05_Make (iOf m) e=some (dy (makeD m e).1,(makeD m e).2):=by
 unfold r05_Make
 rw [if_neg (by omega),show decide (e>100000)=false by simp; omega]
 unfold r05_Make_j1
 rw [if_neg (by simp),rnorm_iOf hm (by omega)]
 simp only [obn]
 show ((r05_inRange (dy (nrm m e))).bind _)=_
 have ht:=nrm_TD hm (e:=e) (by omega)
 rw [rinRange_eq ht.1 ht.2]
 simp only [obn]
 unfold makeD
 cases inR (nrm m e) with
 | true=>rfl
 | false=>simp [dy_z]
theorem rRight4_eq {a:ApiInt} (h:a.Mag.length≤274877906944):r04_Right a=some (rightI a):=by
 unfold r04_Right r04_Right_j1 rightI
 by_cases h0:a.Mag.length=0
 ·rw [if_pos (by omega),if_pos h0]
  cases hn:a.Neg with
  | false=>rw [if_pos (by simp)]; rfl
  | true=>rw [if_neg (by simp),if_neg (by omega)]; rfl
 ·have hw:IntKind.i64.wrap ((a.Mag.length:Int)-1)=((a.Mag.length-1:Nat):Int):=by rw [w64]<;>omega
  rw [if_neg (by omega),if_neg h0,hw,if_pos (by omega),if_pos (by omega),kz,Int.toNat_natCast]
theorem rRight5_eq {x:AD} (hd:Dig x.M.Mag) (hl:x.M.Mag.length≤274877906944):r05_Right x=some (rightD x):=by
 unfold r05_Right r05_Right_j1 rightD
 rw [rRight4_eq hl]
 simp only [obn]
 cases hr:rightI x.M with
 | false=>simp
 | true=>
  rw [if_neg (by simp)]
  simp only [Bool.true_and]
  by_cases h0:x.M.Mag.length=0
  ·rw [if_pos (by omega),if_pos h0]
  ·rw [if_neg (by omega),if_neg h0,if_pos (by omega),kz]
   obtain ⟨d,hd1,hd2⟩:=digN hd 0
   rw [hd1,show (2:Int)=((2:Nat):Int) by rfl,tmodn,Int.toNat_natCast,Nat.testBit_zero]
   by_cases h1:d % 2=1
   ·rw [if_pos (by omega)]
    by_cases h2:x.E ≥ -131072
    ·rw [if_pos h2]
     simp [h1]
     intro _; omega
    ·rw [if_neg h2]
     simp [h1]; omega
   ·rw [if_neg (by omega)]
    simp [h1]
theorem rRight5_dy {d:D} (h:okD d) (hs:SZ d.m.natAbs):r05_Right (dy d)=some true:=by
 rw [rRight5_eq (dgd _) (by have:=sz_len hs; show (digs d.m.natAbs).length≤_; omega),rightD_dy h]
theorem rCmp4_eq {x y:Int} (hx:SZ x.natAbs) (hy:SZ y.natAbs):r04_Cmp (iOf x) (iOf y)=some (sgc x y):=by
 have h1:=sz_len hx
 have h2:=sz_len hy
 unfold r04_Cmp
 rw [rMake_iOf hx,rMake_iOf hy]
 simp only [obn]
 unfold r04_Cmp_j1 r04_Cmp_j2
 have eN:∀ z:Int,(iOf z).Neg=decide (z<0):=fun _=>rfl
 have eM:∀ z:Int,(iOf z).Mag=digs z.natAbs:=fun _=>rfl
 rw [eN,eN,eM,eM]
 simp only [rCmp_eq (dgd x.natAbs) (dgd y.natAbs) (by omega) (by omega),rCmp_eq (dgd y.natAbs) (dgd x.natAbs) (by omega) (by omega),dvd,obn]
 unfold sgc
 by_cases hxn:x<0<;>by_cases hyn:y<0<;>simp only [hxn,hyn,decide_true,decide_false,Bool.not_false,Bool.not_true,if_true,if_false,Bool.false_eq_true,not_true_eq_false,not_false_eq_true]
 ·congr 1
  by_cases h:x<y
  ·rw [if_pos h,if_pos (by omega)]
  ·rw [if_neg h,if_neg (by omega)]
   by_cases h':y<x
   ·rw [if_pos h',if_pos (by omega)]
   ·rw [if_neg h',if_neg (by omega)]
 ·rw [if_pos (by omega)]
 ·rw [if_neg (by omega),if_pos (by omega)]
 ·congr 1
  by_cases h:x<y
  ·rw [if_pos h,if_pos (by omega)]
  ·rw [if_neg h,if_neg (by omega)]
   by_cases h':y<x
   ·rw [if_pos h',if_pos (by omega)]
   ·rw [if_neg h',if_neg (by omega)]
theorem rup_l2 {a:ApiInt} {k:Nat} : ∀ (c v n:Nat),n≤100000*c→blen v+n≤k→k≤1048576→∀ f,c<f→r05_up_l2 a f (n:Int) (digs v)=some (iOf (sg a.Neg (v*2 ^ n))):=by
 intro c
 induction c with
 | zero=>
  intro v n hn hv hk f hf
  obtain ⟨f,rfl⟩:∃ k,f=k+1:=⟨f-1,by omega⟩
  have h0:n=0:=by omega
  subst h0
  rw [r05_up_l2,if_neg (by omega)]
  unfold r05_up_j1
  rw [rMake_digs _ (by unfold SZ; omega)]
  simp
 | succ c ih=>
  intro v n hn hv hk f hf
  obtain ⟨f,rfl⟩:∃ k,f=k+1:=⟨f-1,by omega⟩
  have hl:=sz_len (n:=v) (by unfold SZ; omega)
  rw [r05_up_l2]
  by_cases h:n=0
  ·subst h
   rw [if_neg (by omega)]
   unfold r05_up_j1
   rw [rMake_digs _ (by unfold SZ; omega)]
   simp
  ·rw [if_pos (by omega)]
   have hm:mn (n:Int) 100000=((min n 100000:Nat):Int):=by unfold mn; split<;>omega
   rw [hm,rShl_eq (dgd v) (by omega) (by omega),dvd]
   simp only [obn]
   rw [show (n:Int)-((min n 100000:Nat):Int)=((n-min n 100000:Nat):Int) by omega,w64n (by omega)]
   have hvb:blen (v*2 ^ min n 100000)+(n-min n 100000)≤k:=by
    by_cases h0:v=0
    ·subst h0; rw [Nat.zero_mul,blen_zero]; omega
    ·rw [blen_shl h0]; omega
   have e:=ih (v*2 ^ min n 100000) (n-min n 100000) (by omega) hvb hk f (by omega)
   rw [Nat.mul_assoc,← Nat.pow_add,show min n 100000+(n-min n 100000)=n by omega] at e
   exact e
theorem rup_eq {z:Int} {n:Nat} (h:blen z.natAbs+n≤1048576):r05_up (iOf z) (n:Int)=some (iOf (z*2 ^ n)):=by
 unfold r05_up
 have:=rup_l2 (a:=iOf z) 12 z.natAbs n (by omega) h (Nat.le_refl _) fuel (by unfold fuel; omega)
 refine this.trans ?_
 congr 2
 show sg (decide (z<0)) (z.natAbs*2 ^ n)=_
 rw [Nat.mul_comm,sg_mul,sg_abs,Int.mul_comm]
 simp
def liftD (x y:D):Int × Int × Int:=if x.m=0 then (0,y.m,y.e) else if y.m=0 then (x.m,0,x.e) else if x.e>y.e then (x.m*2 ^ (x.e-y.e).toNat,y.m,y.e) else (x.m,y.m*2 ^ (y.e-x.e).toNat,x.e)
theorem rlift_eq {x y:D} (hx:WD x) (hy:WD y):r05_lift (dy x) (dy y)=some (iOf (liftD x y).1,iOf (liftD x y).2.1,(liftD x y).2.2):=by
 have ex:=hx.e
 have ey:=hy.e
 have bx:=hx.2
 have b_y:=hy.2
 have h1:=iOf_mag_zero x.m
 have h2:=iOf_mag_zero y.m
 have hM:∀ d:D,(dy d).M=iOf d.m:=fun _=>rfl
 have hE:∀ d:D,(dy d).E=d.e:=fun _=>rfl
 have i0:(⟨false,[]⟩:ApiInt)=iOf 0:=by simp [iOf,digs_zero]
 unfold r05_lift liftD
 rw [hM,hM,hE,hE]
 by_cases hx0:x.m=0
 ·rw [if_pos (h1.2 hx0),if_pos hx0,i0]
 ·rw [if_neg (fun h=>hx0 (h1.1 h)),if_neg hx0]
  by_cases hy0:y.m=0
  ·rw [if_pos (h2.2 hy0),if_pos hy0,i0]
  ·rw [if_neg (fun h=>hy0 (h2.1 h)),if_neg hy0]
   by_cases h:x.e>y.e
   ·have hw:IntKind.i64.wrap (x.e-y.e)=((x.e-y.e).toNat:Int):=by rw [w64]<;>omega
    rw [if_pos h,if_pos h,hw,rup_eq (by omega)]
    rfl
   ·have hw:IntKind.i64.wrap (y.e-x.e)=((y.e-x.e).toNat:Int):=by rw [w64]<;>omega
    rw [if_neg h,if_neg h,hw,rup_eq (by omega)]
    rfl
theorem lift_sz {x y:D} (hx:WD x) (hy:WD y):blen (liftD x y).1.natAbs≤524288∧blen (liftD x y).2.1.natAbs≤524288∧-131072≤(liftD x y).2.2∧(liftD x y).2.2≤131072:=by
 have ex:=hx.e
 have ey:=hy.e
 have bx:=hx.2
 have b_y:=hy.2
 have b1:=blen_abs_shl x.m (x.e-y.e).toNat
 have b2:=blen_abs_shl y.m (y.e-x.e).toNat
 unfold liftD
 split
 ·simp [blen_zero]; omega
 ·split
  ·simp [blen_zero]; omega
  ·split
   ·simp only; omega
   ·simp only; omega
theorem val_lift (x y:D):val x=((liftD x y).1:Rat)*p2 (liftD x y).2.2∧val y=((liftD x y).2.1:Rat)*p2 (liftD x y).2.2:=by
 unfold liftD
 split
 ·rename_i h; exact ⟨by rw [val_zero_m h]; simp,rfl⟩
 ·split
  ·rename_i h; exact ⟨rfl,by rw [val_zero_m h]; simp⟩
  ·split
   ·refine ⟨?_,rfl⟩
    simp only
    unfold val
    rw [p2_diff (x:=x.e) (y:=y.e) (by omega),Rat.intCast_mul]; grind
   ·refine ⟨rfl,?_⟩
    simp only
    unfold val
    rw [p2_diff (x:=y.e) (y:=x.e) (by omega),Rat.intCast_mul]; grind
theorem mul_lt_iff {a b p:Rat} (hp:0<p):a*p<b*p↔a<b:=by
 constructor
 ·intro h
  by_cases h':a<b
  ·exact h'
  ·have:=Rat.mul_le_mul_of_nonneg_right (show b≤a by grind) (Rat.le_of_lt hp)
   grind
 ·intro h; exact Rat.mul_lt_mul_of_pos_right h hp
theorem sgc_lift (x y:D):sgc (liftD x y).1 (liftD x y).2.1=cmpD x y:=by
 obtain ⟨h1,h2⟩:=val_lift x y
 rw [cmpD_eq,h1,h2]
 generalize (liftD x y).1=a
 generalize (liftD x y).2.1=b
 have hp:=p2_pos (liftD x y).2.2
 simp only [mul_lt_iff hp]
 unfold sgc
 have e1:(a:Rat)<(b:Rat)↔a<b:=by exact_mod_cast Iff.rfl
 have e2:(b:Rat)<(a:Rat)↔b<a:=by exact_mod_cast Iff.rfl
 by_cases h3:a<b
 ·rw [if_pos h3,if_pos (e1.2 h3)]
 ·rw [if_neg h3,if_neg (fun h=>h3 (e1.1 h))]
  by_cases h4:b<a
  ·rw [if_pos h4,if_pos (e2.2 h4)]
  ·rw [if_neg h4,if_neg (fun h=>h4 (e2.1 h))]
theorem cmp_sign {x y:D} (h:(x.m<0↔¬y.m<0)∨x.m=0∨y.m=0):sgc x.m y.m=cmpD x y:=by
 have n1:=val_neg_iff x
 have n2:=val_neg_iff y
 have p1:=val_pos_iff x
 have p2:=val_pos_iff y
 have z1:=val_zero_iff x
 have z2:=val_zero_iff y
 rw [cmpD_eq]
 unfold sgc
 rcases (show x.m<0∨x.m=0∨0<x.m by omega) with h1 | h1 | h1<;>rcases (show y.m<0∨y.m=0∨0<y.m by omega) with h2 | h2 | h2
 ·omega
 ·have a1:=n1.2 h1; have a2:=z2.2 h2
  rw [if_pos (by omega),if_pos (by grind)]
 ·have a1:=n1.2 h1; have a2:=p2.2 h2
  rw [if_pos (by omega),if_pos (by grind)]
 ·have a1:=z1.2 h1; have a2:=n2.2 h2
  rw [if_neg (by omega),if_pos (by omega),if_neg (by grind),if_pos (by grind)]
 ·have a1:=z1.2 h1; have a2:=z2.2 h2
  rw [if_neg (by omega),if_neg (by omega),if_neg (by grind),if_neg (by grind)]
 ·have a1:=z1.2 h1; have a2:=p2.2 h2
  rw [if_pos (by omega),if_pos (by grind)]
 ·have a1:=p1.2 h1; have a2:=n2.2 h2
  rw [if_neg (by omega),if_pos (by omega),if_neg (by grind),if_pos (by grind)]
 ·have a1:=p1.2 h1; have a2:=z2.2 h2
  rw [if_neg (by omega),if_pos (by omega),if_neg (by grind),if_pos (by grind)]
 ·omega
theorem rCmp5_eq {x y:D} (hx:WD x) (hy:WD y):r05_Cmp (dy x) (dy y)=some (cmpD x y):=by
 have ex:=hx.e
 have ey:=hy.e
 have bx:=hx.sz
 have b_y:=hy.sz
 have m1:=iOf_mag_zero x.m
 have m2:=iOf_mag_zero y.m
 have hN:∀ d:D,(dy d).M.Neg=decide (d.m<0):=fun _=>rfl
 have hM:∀ d:D,(dy d).M=iOf d.m:=fun _=>rfl
 unfold r05_Cmp r05_Cmp_j1
 rw [rRight5_dy hx.1 hx.sz,rRight5_dy hy.1 hy.sz]
 simp only [obn]
 rw [if_neg (by simp),if_neg (by simp)]
 have j2t:(x.m<0↔¬y.m<0)∨x.m=0∨y.m=0→r05_Cmp_j2 (dy x) (dy y) true=some (cmpD x y):=by
  intro h
  unfold r05_Cmp_j2
  rw [if_pos rfl,hM,hM,rCmp4_eq bx b_y]
  simp only [obn]
  rw [cmp_sign h]
 rw [hN,hN]
 by_cases hs:decide (x.m<0)=decide (y.m<0)
 ·rw [if_neg (by simp [hs]),hM,hM]
  by_cases h1:x.m=0
  ·rw [if_pos (m1.2 h1)]; exact j2t (Or.inr (Or.inl h1))
  ·rw [if_neg (fun h=>h1 (m1.1 h))]
   by_cases h2:y.m=0
   ·rw [show ((((iOf y.m).Mag.length:Nat):Int) == 0)=true by rw [m2.2 h2]; rfl]; exact j2t (Or.inr (Or.inr h2))
   ·rw [show ((((iOf y.m).Mag.length:Nat):Int) == 0)=false by rw [beq_eq_false_iff_ne]; exact fun h=>h2 (m2.1 h)]
    have hs':x.m<0↔y.m<0:=decide_eq_decide.1 hs
    unfold r05_Cmp_j2
    rw [if_neg (by simp),rsize_eq bx (by omega),rsize_eq b_y (by omega)]
    simp only [obn]
    by_cases hz:x.e+(blen x.m.natAbs:Nat)=y.e+(blen y.m.natAbs:Nat)
    ·rw [if_neg (by simpa using hz),rlift_eq hx hy]
     simp only [obn]
     obtain ⟨l1,l2,-⟩:=lift_sz hx hy
     rw [rCmp4_eq (by unfold SZ; omega) (by unfold SZ; omega)]
     simp only [obn]
     rw [sgc_lift]
    ·rw [if_pos hz,hN]
     rw [cmpD_eq]
     have nn:∀ d:D,d.m<0→0<(negD d).m:=fun d h=>by unfold negD; simp only; omega
     have na:∀ d:D,(negD d).m.natAbs=d.m.natAbs:=fun d=>by unfold negD; simp
     have ne:∀ d:D,(negD d).e=d.e:=fun d=>rfl
     rcases (show x.e+(blen x.m.natAbs:Nat)<y.e+(blen y.m.natAbs:Nat)∨y.e+(blen y.m.natAbs:Nat)<x.e+(blen x.m.natAbs:Nat) by omega) with hlt | hlt
     ·by_cases hneg:x.m<0
      ·have hv:=size_lt (x:=negD x) (y:=negD y) (nn _ hneg) (nn _ (hs'.1 hneg)) (by rw [na,na,ne,ne]; exact hlt)
       rw [val_neg,val_neg] at hv
       rw [if_pos (by simp [hlt,hneg]),if_neg (by grind),if_pos (by grind)]
      ·have hv:=size_lt (x:=x) (y:=y) (by omega) (by omega) hlt
       rw [if_neg (by simp [hlt]; omega),if_pos hv]
     ·by_cases hneg:x.m<0
      ·have hv:=size_lt (x:=negD y) (y:=negD x) (nn _ (hs'.1 hneg)) (nn _ hneg) (by rw [na,na,ne,ne]; exact hlt)
       rw [val_neg,val_neg] at hv
       rw [if_neg (by simp [hneg]; omega),if_pos (by grind)]
      ·have hv:=size_lt (x:=y) (y:=x) (by omega) (by omega) hlt
       rw [if_pos (by simp; omega),if_neg (by grind),if_pos hv]
 ·rw [if_pos (by simpa using hs)]
  exact j2t (Or.inl (by
   by_cases h1:x.m<0<;>by_cases h2:y.m<0<;>simp [h1,h2] at hs ⊢))
structure I where
 lo:D
 hi:D
def zI:I:=⟨zD,zD⟩
def iv (a:I):AI:=⟨dy a.lo,dy a.hi⟩
def okI (a:I):Prop:=WD a.lo∧WD a.hi∧val a.lo≤val a.hi
theorem iv_z:iv zI=⟨⟨⟨false,[]⟩,0⟩,⟨⟨false,[]⟩,0⟩⟩:=by unfold iv zI; simp only [dy_z]
theorem okI_z:okI zI:=⟨WD_z,WD_z,Rat.le_refl⟩
theorem etaDy (x:AD):(⟨x.M,x.E⟩:AD)=x:=rfl
theorem etaIv (x:AI):(⟨⟨x.Lo.M,x.Lo.E⟩,⟨x.Hi.M,x.Hi.E⟩⟩:AI)=x:=rfl
theorem ivLo (a:I):(iv a).Lo=dy a.lo:=rfl
theorem ivHi (a:I):(iv a).Hi=dy a.hi:=rfl
def bindE {α:Type} (r:D × Int) (z:α) (f:D→α × Int):α × Int:=if r.2=0 then f r.1 else (z,r.2)
def st {α:Type} (e:Int) (z:α) (r:α × Int):α × Int:=if e=0 then r else (z,e)
theorem ivRight_eq {a:I} (h:okI a):iv_Right (iv a)=some true:=by
 obtain ⟨h1,h2,h3⟩:=h
 unfold iv_Right iv_Right_j1
 rw [ivLo,ivHi,dyad_Right_dy h1.1 h1.sz]
 simp only [obn,if_true]
 rw [dyad_Right_dy h2.1 h2.sz]
 simp only [obn,if_true]
 rw [dyad_Cmp_eq h1 h2]
 simp only [obn]
 congr 1
 exact decide_eq_true ((cmpD_le _ _).2 h3)
def hasI (a:I) (x:D):Bool:=decide (cmpD a.lo x≤0) && decide (cmpD x a.hi≤0)
theorem hasI_iff (a:I) (x:D):hasI a x=true↔val a.lo≤val x∧val x≤val a.hi:=by
 unfold hasI
 rw [Bool.and_eq_true,decide_eq_true_iff,decide_eq_true_iff,cmpD_le,cmpD_le]
theorem ivHas_eq {a:I} (h:okI a) {x:D} (hx:WD x):iv_Has (iv a) (dy x)=some (hasI a x):=by
 unfold iv_Has iv_Has_j1
 rw [ivRight_eq h]
 simp only [obn,if_true]
 rw [dyad_Right_dy hx.1 hx.sz]
 simp only [obn,if_true]
 rw [ivLo,ivHi,dyad_Cmp_eq h.1 hx,dyad_Cmp_eq hx h.2.1]
 simp only [obn]
 unfold hasI
 by_cases h1:cmpD a.lo x≤0
 ·rw [if_pos h1,decide_eq_true h1,Bool.true_and]
 ·rw [if_neg h1,decide_eq_false h1,Bool.false_and]
def inI (a b:I):Bool:=hasI b a.lo && hasI b a.hi
theorem ivIn_eq {a b:I} (ha:okI a) (hb:okI b):iv_In (iv a) (iv b)=some (inI a b):=by
 unfold iv_In iv_In_j1
 rw [ivRight_eq ha]
 simp only [obn,if_true]
 rw [ivLo,ivHi,ivHas_eq hb ha.1,ivHas_eq hb ha.2.1]
 simp only [obn]
 unfold inI
 cases hasI b a.lo<;>simp
theorem note_eq (x e p:Int):iv_trouble_note x e p=some (if e=0 then (x == 0,x) else (false,e)):=by
 unfold iv_trouble_note iv_trouble_note_j1
 by_cases h:e=0
 ·rw [if_pos h,if_pos h]
 ·rw [if_neg h,if_neg h]
  have:(e == 0)=false:=by simpa using h
  rw [this]
theorem fine_nil (l:List AI) (p e:Int) (i n:Nat) (hi:l.length≤i):cv_fine_l2 l p (n+1) (i:Int) e=some (e == 0,e):=by
 rw [cv_fine_l2,if_neg (by omega)]; rfl
theorem fine_cons (l:List AI) (p e:Int) (i n:Nat) (hi:i<l.length) (hi':i≤1000) (hr:iv_Right (l.getD i zAI)=some true):cv_fine_l2 l p (n+1) (i:Int) e=cv_fine_l2 l p n ((i+1:Nat):Int) e:=by
 rw [cv_fine_l2,if_pos (by omega),if_pos (by omega)]
 simp only [Int.toNat_natCast,etaIv]
 rw [hr]
 simp only [obn]
 rw [if_neg (by simp)]
 unfold cv_fine_j3
 rw [if_neg (by simp),show ((i:Int)+1)=((i+1:Nat):Int) by omega,w64n (by omega)]
theorem fine_one {a:I} (ha:okI a) (e p:Int):cv_fine [iv a] e p=some (e == 0,e):=by
 unfold cv_fine
 obtain ⟨f,hf⟩:=fuel_succ
 rw [hf]
 exact (fine_cons [iv a] p e 0 (f+1+1) (by simp) (by omega) (ivRight_eq ha)).trans (fine_nil [iv a] p e 1 (f+1) (by simp))
theorem fine_two {a b:I} (ha:okI a) (hb:okI b) (e p:Int):cv_fine [iv a,iv b] e p=some (e == 0,e):=by
 unfold cv_fine
 obtain ⟨f,hf⟩:=fuel_succ
 rw [hf]
 exact (fine_cons [iv a,iv b] p e 0 (f+1+1) (by simp) (by omega) (ivRight_eq ha)).trans ((fine_cons [iv a,iv b] p e 1 (f+1) (by simp) (by omega) (ivRight_eq hb)).trans (fine_nil [iv a,iv b] p e 2 f (by simp)))
theorem take_eq (x:D) (y e p:Int):cv_take (dy x) y e p=some (if e=0 then (if y=0 then (dy x,0) else (dy zD,y)) else (dy zD,e)):=by
 unfold cv_take
 rw [note_eq,dy_z]
 simp only [obn]
 by_cases h:e=0
 ·rw [if_pos h,if_pos h]
  by_cases h2:y=0
  ·rw [if_pos h2,h2]; rfl
  ·rw [if_neg h2,if_pos (by simpa using h2)]
 ·rw [if_neg h,if_neg h]; rfl
theorem sumE_eq {x y:D} (hx:WD x) (hy:WD y) (e p:Int):cv_sum (dy x) (dy y) e p=some (dy (st e zD (bindE (addD x y) zD fun s=>(s,0))).1,(st e zD (bindE (addD x y) zD fun s=>(s,0))).2):=by
 unfold cv_sum st bindE
 by_cases h:e=0
 ·rw [if_neg (by simpa using h),if_pos h,dyad_Add_eq hx hy]
  simp only [obn]
  rw [take_eq,if_pos h]
  simp only [obn]
  by_cases h2:(addD x y).2=0
  ·rw [if_pos h2,if_pos h2]
  ·rw [if_neg h2,if_neg h2]
 ·rw [if_pos h,if_neg h,dy_z]
theorem downE_eq {x:D} (hx:WD x) {p:Nat} (hp:2≤p∧p≤400) (e:Int):cv_down (dy x) e (p:Int)=some (dy (st e zD (bindE (roundD x p false) zD fun s=>(s,0))).1,(st e zD (bindE (roundD x p false) zD fun s=>(s,0))).2):=by
 unfold cv_down st bindE
 by_cases h:e=0
 ·rw [if_neg (by simpa using h),if_pos h,dyad_Round_eq hx hp]
  simp only [obn]
  rw [take_eq,if_pos h]
  simp only [obn]
  by_cases h2:(roundD x p false).2=0
  ·rw [if_pos h2,if_pos h2]
  ·rw [if_neg h2,if_neg h2]
 ·rw [if_pos h,if_neg h,dy_z]
theorem upE_eq {x:D} (hx:WD x) {p:Nat} (hp:2≤p∧p≤400) (e:Int):cv_up (dy x) e (p:Int)=some (dy (st e zD (bindE (roundD x p true) zD fun s=>(s,0))).1,(st e zD (bindE (roundD x p true) zD fun s=>(s,0))).2):=by
 unfold cv_up st bindE
 by_cases h:e=0
 ·rw [if_neg (by simpa using h),if_pos h,dyad_Round_eq hx hp]
  simp only [obn]
  rw [take_eq,if_pos h]
  simp only [obn]
  by_cases h2:(roundD x p true).2=0
  ·rw [if_pos h2,if_pos h2]
  ·rw [if_neg h2,if_neg h2]
 ·rw [if_pos h,if_neg h,dy_z]
theorem outE_eq (x y:D) (e p:Int):cv_out (dy x) (dy y) e p=some (iv (if e=0 then ⟨x,y⟩ else zI)):=by
 unfold cv_out
 by_cases h:e=0
 ·rw [if_neg (by simpa using h),if_pos h]; rfl
 ·rw [if_pos h,if_neg h,iv_z]
def addI (p:Nat) (a b:I):I × Int:=bindE (addD a.lo b.lo) zI fun s=>bindE (roundD s p false) zI fun lo=>bindE (addD a.hi b.hi) zI fun t=>bindE (roundD t p true) zI fun hi=>(⟨lo,hi⟩,0)
theorem WD_bind {r:D × Int} (h:WD r.1) (e:Int):WD (st e zD (bindE r zD fun s=>(s,0))).1:=by
 unfold st bindE
 split
 ·split
  ·exact h
  ·exact WD_z
 ·exact WD_z
theorem st_ne {α:Type} {e:Int} (h:e≠0) (z:α) (r:α × Int):st e z r=(z,e):=by unfold st; rw [if_neg h]
theorem st_zero {α:Type} (z:α) (r:α × Int):st 0 z r=r:=by unfold st; rw [if_pos rfl]
theorem fine_no {e:Int} (h:e≠0):¬(e == 0)=true:=by simpa using h
theorem bindE_ok {α:Type} {r:D × Int} (h:r.2=0) (z:α) (f:D→α × Int):bindE r z f=f r.1:=by unfold bindE; rw [if_pos h]
theorem bindE_no {α:Type} {r:D × Int} (h:r.2≠0) (z:α) (f:D→α × Int):bindE r z f=(z,r.2):=by unfold bindE; rw [if_neg h]
theorem ivAdd_eq {a b:I} (ha:okI a) (hb:okI b) {p:Nat} (hp:2≤p∧p≤400) (e:Int):cv_Add (iv a) (iv b) e (p:Int)=some (iv (st e zI (addI p a b)).1,(st e zI (addI p a b)).2):=by
 unfold cv_Add
 rw [fine_two ha hb]
 simp only [obn]
 by_cases h:e=0
 ·subst h
  rw [if_neg (by simp),ivLo,ivLo,ivHi,ivHi,st_zero,sumE_eq ha.1 hb.1,st_zero]
  simp only [obn]
  rw [downE_eq (x:=(bindE (addD a.lo b.lo) zD fun s=>(s,0)).1) (by
   have:=WD_bind (WD_add ha.1 hb.1) 0; rwa [st_zero] at this) hp]
  simp only [obn]
  unfold addI
  by_cases h1:(addD a.lo b.lo).2=0
  ·rw [bindE_ok h1,bindE_ok h1,st_zero]
   by_cases h2:(roundD (addD a.lo b.lo).1 p false).2=0
   ·rw [bindE_ok h2,bindE_ok h2,sumE_eq ha.2.1 hb.2.1,st_zero]
    simp only [obn]
    rw [upE_eq (x:=(bindE (addD a.hi b.hi) zD fun s=>(s,0)).1) (by
     have:=WD_bind (WD_add ha.2.1 hb.2.1) 0; rwa [st_zero] at this) hp]
    simp only [obn]
    by_cases h3:(addD a.hi b.hi).2=0
    ·rw [bindE_ok h3,bindE_ok h3,st_zero]
     by_cases h4:(roundD (addD a.hi b.hi).1 p true).2=0
     ·rw [bindE_ok h4,bindE_ok h4,outE_eq]
      simp only [obn]
      rfl
     ·rw [bindE_no h4,bindE_no h4,outE_eq]
      simp only [obn]
      rw [if_neg h4]
    ·rw [bindE_no h3,bindE_no h3,st_ne h3,outE_eq]
     simp only [obn]
     rw [if_neg h3]
   ·rw [bindE_no h2,bindE_no h2,sumE_eq ha.2.1 hb.2.1,st_ne h2]
    simp only [obn]
    rw [upE_eq WD_z hp,st_ne h2]
    simp only [obn]
    rw [outE_eq]
    simp only [obn]
    rw [if_neg h2]
  ·rw [bindE_no h1,bindE_no h1,st_ne h1,sumE_eq ha.2.1 hb.2.1,st_ne h1]
   simp only [obn]
   rw [upE_eq WD_z hp,st_ne h1]
   simp only [obn]
   rw [outE_eq]
   simp only [obn]
   rw [if_neg h1]
 ·rw [if_pos (fine_no h),st_ne h,iv_z]
theorem okI_point {x:D} (h:WD x):okI ⟨x,x⟩:=⟨h,h,Rat.le_refl⟩
theorem ivPoint_eq {x:D} (hx:WD x) (e p:Int):cv_Point (dy x) e p=some (iv (st e zI (⟨x,x⟩,0)).1,(st e zI ((⟨x,x⟩:I),0)).2):=by
 unfold cv_Point
 have:(⟨dy x,dy x⟩:AI)=iv ⟨x,x⟩:=rfl
 rw [this,fine_one (okI_point hx)]
 simp only [obn]
 by_cases h:e=0
 ·subst h; rw [if_neg (by simp),st_zero]
 ·rw [if_pos (fine_no h),st_ne h,iv_z]
def intI (n:Int):I:=⟨fromD n,fromD n⟩
theorem ivInt_eq {n:Int} (hn : -9223372036854775808≤n∧n≤9223372036854775807) (e p:Int):cv_Int n e p=some (iv (st e zI (intI n,0)).1,(st e zI (intI n,0)).2):=by
 unfold cv_Int
 rw [dyad_From_eq hn]
 simp only [obn]
 rw [ivPoint_eq (WD_from hn)]
 simp only [obn]
 rfl
def negI (a:I):I:=⟨negD a.hi,negD a.lo⟩
theorem okI_neg {a:I} (h:okI a):okI (negI a):=by
 refine ⟨h.2.1.neg,h.1.neg,?_⟩
 show val (negD a.hi)≤val (negD a.lo)
 rw [val_neg,val_neg]
 have:=h.2.2
 grind
theorem ivNeg_eq {a:I} (h:okI a) (e p:Int):cv_Neg (iv a) e p=some (iv (st e zI (negI a,0)).1,(st e zI (negI a,0)).2):=by
 unfold cv_Neg
 rw [fine_one h]
 simp only [obn]
 by_cases h0:e=0
 ·subst h0
  rw [if_neg (by simp),st_zero,ivLo,ivHi,dyad_Neg_eq h.1,dyad_Neg_eq h.2.1]
  simp only [obn]
  rfl
 ·rw [if_pos (fine_no h0),st_ne h0,iv_z]
def subI (p:Nat) (a b:I):I × Int:=addI p a (negI b)
theorem ivSub_eq {a b:I} (ha:okI a) (hb:okI b) {p:Nat} (hp:2≤p∧p≤400) (e:Int):cv_Sub (iv a) (iv b) e (p:Int)=some (iv (st e zI (subI p a b)).1,(st e zI (subI p a b)).2):=by
 unfold cv_Sub
 rw [ivNeg_eq hb]
 simp only [obn]
 by_cases h0:e=0
 ·subst h0
  rw [st_zero,st_zero,ivAdd_eq ha (okI_neg hb) hp,st_zero]
  simp only [obn]
  rfl
 ·rw [st_ne h0,ivAdd_eq ha okI_z hp,st_ne h0,st_ne h0]
  simp only [obn]
def minD (m x:D):D:=if cmpD x m<0 then x else m
def maxD (m x:D):D:=if 0<cmpD x m then x else m
theorem minD_val (m x:D):(minD m x=m∧val m≤val x)∨(minD m x=x∧val x<val m):=by
 unfold minD
 by_cases h:cmpD x m<0
 ·rw [if_pos h]; right; exact ⟨rfl,(cmpD_lt _ _).1 h⟩
 ·rw [if_neg h]; left
  have:=mt (cmpD_lt x m).2 h
  exact ⟨rfl,by grind⟩
theorem maxD_val (m x:D):(maxD m x=m∧val x≤val m)∨(maxD m x=x∧val m<val x):=by
 unfold maxD
 by_cases h:0<cmpD x m
 ·rw [if_pos h]; right; exact ⟨rfl,(cmpD_gt _ _).1 h⟩
 ·rw [if_neg h]; left
  have:=mt (cmpD_gt x m).2 h
  exact ⟨rfl,by grind⟩
theorem minD_WD {m x:D} (hm:WD m) (hx:WD x):WD (minD m x):=by unfold minD; split<;>assumption
theorem maxD_WD {m x:D} (hm:WD m) (hx:WD x):WD (maxD m x):=by unfold maxD; split<;>assumption
theorem map_getD (l:List D) (i:Nat) (h:i<l.length):(l.map dy).getD i zAD=dy (l.getD i zD):=by
 simp [List.getD,List.getElem?_map,List.getElem?_eq_getElem h]
theorem ends_loop (x:D) (l:List D) (hl:∀ y ∈ l,WD y) (hlen:l.length≤1000):∀ (r i:Nat) (m M:D),i+r=l.length→WD m→WD M→∀ f,r<f→
  iv_ends_l2 ((x :: l).map dy) f (i:Int) (dy m).M.Neg (dy m).M.Mag (dy m).E (dy M).M.Neg (dy M).M.Mag (dy M).E=some (dy ((l.drop i).foldl minD m),dy ((l.drop i).foldl maxD M)):=by
 have hdrop:(((x :: l).map dy).take ((x :: l).map dy).length).drop 1=l.map dy:=by
  rw [List.take_length]; simp
 intro r
 induction r with
 | zero=>
  intro i m M hi hm hM f hf
  obtain ⟨f,rfl⟩:∃ k,f=k+1:=⟨f-1,by omega⟩
  rw [iv_ends_l2,hdrop,if_neg (by rw [List.length_map]; omega),List.drop_eq_nil_of_le (by omega)]
  rfl
 | succ r ih=>
  intro i m M hi hm hM f hf
  obtain ⟨f,rfl⟩:∃ k,f=k+1:=⟨f-1,by omega⟩
  have hin:i<l.length:=by omega
  have hmem:l.getD i zD ∈ l:=by
   rw [List.getD_eq_getElem?_getD,List.getElem?_eq_getElem hin]; exact List.getElem_mem hin
  have hW:=hl _ hmem
  have hdc:l.drop i=l.getD i zD :: l.drop (i+1):=by
   rw [List.drop_eq_getElem_cons hin,List.getD_eq_getElem?_getD,List.getElem?_eq_getElem hin]; rfl
  have hw:IntKind.i64.wrap ((i:Int)+1)=((i+1:Nat):Int):=by rw [w64]<;>omega
  rw [iv_ends_l2]
  unfold iv_ends_j3 iv_ends_j4
  simp only [hdrop,hw]
  rw [if_pos (by rw [List.length_map]; omega),if_pos (by rw [List.length_map]; omega),Int.toNat_natCast,map_getD l i hin]
  generalize hg:l.getD i zD=y at *
  have e1:∀ d:D,(⟨⟨(dy d).M.Neg,(dy d).M.Mag⟩,(dy d).E⟩:AD)=dy d:=fun _=>rfl
  simp only [etaDy,e1]
  rw [dyad_Cmp_eq hW hm]
  simp only [obn]
  rw [dyad_Cmp_eq hW hM]
  simp only [obn]
  rw [hdc,List.foldl_cons,List.foldl_cons]
  have hmin:minD m y=if cmpD y m<0 then y else m:=rfl
  have hmax:maxD M y=if 0<cmpD y M then y else M:=rfl
  by_cases h1:cmpD y m<0
  ·rw [if_pos h1]
   by_cases h2:0<cmpD y M
   ·rw [if_pos h2,hmin,hmax,if_pos h1,if_pos h2]
    exact ih (i+1) y y (by omega) hW hW f (by omega)
   ·rw [if_neg h2,hmin,hmax,if_pos h1,if_neg h2]
    exact ih (i+1) y M (by omega) hW hM f (by omega)
  ·rw [if_neg h1]
   by_cases h2:0<cmpD y M
   ·rw [if_pos h2,hmin,hmax,if_neg h1,if_pos h2]
    exact ih (i+1) m y (by omega) hm hW f (by omega)
   ·rw [if_neg h2,hmin,hmax,if_neg h1,if_neg h2]
    exact ih (i+1) m M (by omega) hm hM f (by omega)
theorem ends_eq (x:D) (l:List D) (hx:WD x) (hl:∀ y ∈ l,WD y) (hlen:l.length≤1000):iv_ends ((x :: l).map dy)=some (dy (l.foldl minD x),dy (l.foldl maxD x)):=by
 unfold iv_ends
 have hlen2:((x :: l).map dy).length=l.length+1:=by simp
 rw [if_pos (by omega),if_pos (by omega),if_pos (by omega)]
 have h0:((x :: l).map dy).getD 0 zAD=dy x:=rfl
 rw [h0]
 exact ends_loop x l hl hlen l.length 0 x x (by omega) hx hx fuel (by unfold fuel; omega)
theorem WD_foldmin:∀ (l:List D) (x:D),WD x→(∀ y ∈ l,WD y)→WD (l.foldl minD x)
 | [],_,hx,_=>hx
 | y :: l,x,hx,hl=>WD_foldmin l (minD x y) (minD_WD hx (hl y List.mem_cons_self)) fun z hz=>hl z (List.mem_cons_of_mem _ hz)
theorem WD_foldmax:∀ (l:List D) (x:D),WD x→(∀ y ∈ l,WD y)→WD (l.foldl maxD x)
 | [],_,hx,_=>hx
 | y :: l,x,hx,hl=>WD_foldmax l (maxD x y) (maxD_WD hx (hl y List.mem_cons_self)) fun z hz=>hl z (List.mem_cons_of_mem _ hz)
def scaleI (a:I) (n:Int):I × Int:=bindE (scaleD a.lo n) zI fun lo=>bindE (scaleD a.hi n) zI fun hi=>(⟨lo,hi⟩,0)
def outI (p:Nat) (a:I):I × Int:=bindE (roundD a.lo p false) zI fun lo=>bindE (roundD a.hi p true) zI fun hi=>(⟨lo,hi⟩,0)
def sqrtI (p:Nat) (a:I):I × Int:=bindE (sqrtD a.lo p false) zI fun lo=>bindE (sqrtD a.hi p true) zI fun hi=>(⟨lo,hi⟩,0)
def wideI (p:Nat) (a:I) (d:D):I × Int:=bindE (addD a.lo (negD d)) zI fun s=>bindE (roundD s p false) zI fun lo=>bindE (addD a.hi d) zI fun t=>bindE (roundD t p true) zI fun hi=>(⟨lo,hi⟩,0)
def midI (p:Nat) (a:I):D × Int:=bindE (addD a.lo a.hi) zD fun s=>bindE (scaleD s (-1)) zD fun h=>bindE (roundD h p false) zD fun r=>(r,0)
theorem ivScale_eq {a:I} (ha:okI a) {n:Int} (hn : -100000≤n∧n≤100000) (e p:Int):cv_Scale (iv a) n e p=some (iv (st e zI (scaleI a n)).1,(st e zI (scaleI a n)).2):=by
 unfold cv_Scale
 rw [fine_one ha]
 simp only [obn]
 by_cases h:e=0
 ·subst h
  rw [if_neg (by simp),ivLo,ivHi,st_zero,dyad_Scale_eq ha.1 hn]
  simp only [obn]
  rw [take_eq,if_pos rfl]
  unfold scaleI
  by_cases h1:(scaleD a.lo n).2=0
  ·rw [bindE_ok h1,if_pos h1]
   simp only [obn]
   rw [if_neg (by simp),dyad_Scale_eq ha.2.1 hn]
   simp only [obn]
   rw [take_eq,if_pos rfl]
   by_cases h2:(scaleD a.hi n).2=0
   ·rw [bindE_ok h2,if_pos h2]
    simp only [obn]
    rw [outE_eq]
    simp only [obn]
    rfl
   ·rw [bindE_no h2,if_neg h2]
    simp only [obn]
    rw [outE_eq,if_neg h2]
    simp only [obn]
  ·rw [bindE_no h1,if_neg h1]
   simp only [obn]
   rw [if_pos (by simpa using h1),iv_z]
 ·rw [if_pos (fine_no h),st_ne h,iv_z]
theorem ivOut_eq {a:I} (ha:okI a) {p:Nat} (hp:2≤p∧p≤400) (e:Int):cv_Out (iv a) e (p:Int)=some (iv (st e zI (outI p a)).1,(st e zI (outI p a)).2):=by
 unfold cv_Out
 rw [fine_one ha]
 simp only [obn]
 by_cases h:e=0
 ·subst h
  rw [if_neg (by simp),ivLo,ivHi,st_zero,downE_eq ha.1 hp,st_zero]
  simp only [obn]
  rw [upE_eq ha.2.1 hp]
  simp only [obn]
  unfold outI
  by_cases h1:(roundD a.lo p false).2=0
  ·rw [bindE_ok h1,bindE_ok h1,st_zero]
   by_cases h2:(roundD a.hi p true).2=0
   ·rw [bindE_ok h2,bindE_ok h2,outE_eq]
    simp only [obn]
    rfl
   ·rw [bindE_no h2,bindE_no h2,outE_eq]
    simp only [obn]
    rw [if_neg h2]
  ·rw [bindE_no h1,bindE_no h1,st_ne h1,outE_eq]
   simp only [obn]
   rw [if_neg h1]
 ·rw [if_pos (fine_no h),st_ne h,iv_z]
theorem ivWide_eq {a:I} (ha:okI a) {d:D} (hd:WD d) (hd0:0≤val d) {p:Nat} (hp:2≤p∧p≤400) (e:Int):cv_Wide (iv a) (dy d) e (p:Int)=some (iv (st e zI (wideI p a d)).1,(st e zI (wideI p a d)).2):=by
 unfold cv_Wide
 have hz:(⟨⟨⟨false,[]⟩,0⟩,dy d⟩:AI)=iv ⟨zD,d⟩:=by unfold iv; simp only [dy_z]
 have hok:okI ⟨zD,d⟩:=⟨WD_z,hd,by show val zD≤val d; rw [val_z]; exact hd0⟩
 rw [hz,fine_two ha hok]
 simp only [obn]
 by_cases h:e=0
 ·subst h
  rw [if_neg (by simp),dyad_Neg_eq hd]
  simp only [obn]
  rw [ivLo,ivHi,st_zero,sumE_eq ha.1 hd.neg,st_zero]
  simp only [obn]
  rw [downE_eq (x:=(bindE (addD a.lo (negD d)) zD fun s=>(s,0)).1) (by
   have:=WD_bind (WD_add ha.1 hd.neg) 0; rwa [st_zero] at this) hp]
  simp only [obn]
  unfold wideI
  by_cases h1:(addD a.lo (negD d)).2=0
  ·rw [bindE_ok h1,bindE_ok h1,st_zero]
   by_cases h2:(roundD (addD a.lo (negD d)).1 p false).2=0
   ·rw [bindE_ok h2,bindE_ok h2,sumE_eq ha.2.1 hd,st_zero]
    simp only [obn]
    rw [upE_eq (x:=(bindE (addD a.hi d) zD fun s=>(s,0)).1) (by
     have:=WD_bind (WD_add ha.2.1 hd) 0; rwa [st_zero] at this) hp]
    simp only [obn]
    by_cases h3:(addD a.hi d).2=0
    ·rw [bindE_ok h3,bindE_ok h3,st_zero]
     by_cases h4:(roundD (addD a.hi d).1 p true).2=0
     ·rw [bindE_ok h4,bindE_ok h4,outE_eq]
      simp only [obn]
      rfl
     ·rw [bindE_no h4,bindE_no h4,outE_eq]
      simp only [obn]
      rw [if_neg h4]
    ·rw [bindE_no h3,bindE_no h3,st_ne h3,outE_eq]
     simp only [obn]
     rw [if_neg h3]
   ·rw [bindE_no h2,bindE_no h2,sumE_eq ha.2.1 hd,st_ne h2]
    simp only [obn]
    rw [upE_eq WD_z hp,st_ne h2]
    simp only [obn]
    rw [outE_eq]
    simp only [obn]
    rw [if_neg h2]
  ·rw [bindE_no h1,bindE_no h1,st_ne h1,sumE_eq ha.2.1 hd,st_ne h1]
   simp only [obn]
   rw [upE_eq WD_z hp,st_ne h1]
   simp only [obn]
   rw [outE_eq]
   simp only [obn]
   rw [if_neg h1]
 ·rw [if_pos (fine_no h),st_ne h,iv_z]
theorem ivMid_eq {a:I} (ha:okI a) {p:Nat} (hp:2≤p∧p≤400) (e:Int):cv_Mid (iv a) e (p:Int)=some (dy (st e zD (midI p a)).1,(st e zD (midI p a)).2):=by
 unfold cv_Mid
 rw [fine_one ha]
 simp only [obn]
 by_cases h:e=0
 ·subst h
  rw [if_neg (by simp),ivLo,ivHi,st_zero,sumE_eq ha.1 ha.2.1,st_zero]
  simp only [obn]
  unfold midI
  by_cases h1:(addD a.lo a.hi).2=0
  ·have hs:=WD_add ha.1 ha.2.1
   rw [bindE_ok h1,bindE_ok h1,if_neg (by simp),dyad_Scale_eq hs (by omega)]
   simp only [obn]
   rw [take_eq,if_pos rfl]
   by_cases h2:(scaleD (addD a.lo a.hi).1 (-1)).2=0
   ·rw [bindE_ok h2,if_pos h2]
    simp only [obn]
    rw [downE_eq (WD_scale hs _) hp,st_zero]
    simp only [obn]
   ·rw [bindE_no h2,if_neg h2]
    simp only [obn]
    rw [downE_eq WD_z hp,st_ne h2]
    simp only [obn]
  ·rw [bindE_no h1,bindE_no h1,if_pos (by simpa using h1),dy_z]
 ·rw [if_pos (fine_no h),st_ne h,dy_z]
def stepF (f:D→D→D × Int) (x:D) (s:Int × List D) (y:D):Int × List D:=
 if s.1=0 then (if (f x y).2=0 then (0,s.2++[(f x y).1]) else ((f x y).2,s.2++[zD])) else (s.1,s.2++[zD])
def rowF (f:D→D→D × Int) (ys:List D) (s:Int × List D) (x:D):Int × List D:=ys.foldl (stepF f x) s
def fourF (f:D→D→D × Int) (xs ys:List D):Int × List D:=xs.foldl (rowF f ys) (0,[])
theorem step_len (f:D→D→D × Int) (x:D) (s:Int × List D) (y:D):(stepF f x s y).2.length=s.2.length+1:=by
 unfold stepF
 split
 ·split<;>simp
 ·simp
theorem fold_len (f:D→D→D × Int) (x:D):∀ (ys:List D) (s:Int × List D),(ys.foldl (stepF f x) s).2.length=s.2.length+ys.length
 | [],s=>by simp
 | y :: ys,s=>by rw [List.foldl_cons,fold_len f x ys,step_len,List.length_cons]; omega
theorem step_WD {f:D→D→D × Int} (hf:∀ x y,WD x→WD y→WD (f x y).1) {x y:D} (hx:WD x) (hy:WD y) {s:Int × List D} (hs:∀ z ∈ s.2,WD z):∀ z ∈ (stepF f x s y).2,WD z:=by
 unfold stepF
 split
 ·split
  ·intro z hz
   rcases List.mem_append.1 hz with h | h
   ·exact hs z h
   ·have:z=(f x y).1:=by simpa using h
    subst this; exact hf x y hx hy
  ·intro z hz
   rcases List.mem_append.1 hz with h | h
   ·exact hs z h
   ·have:z=zD:=by simpa using h
    subst this; exact WD_z
 ·intro z hz
  rcases List.mem_append.1 hz with h | h
  ·exact hs z h
  ·have:z=zD:=by simpa using h
   subst this; exact WD_z
theorem row_WD {f:D→D→D × Int} (hf:∀ x y,WD x→WD y→WD (f x y).1) {x:D} (hx:WD x):∀ (ys:List D) (_:∀ y ∈ ys,WD y) (s:Int × List D) (_:∀ z ∈ s.2,WD z),∀ z ∈ (ys.foldl (stepF f x) s).2,WD z
 | [],_,s,hs=>hs
 | y :: ys,hys,s,hs=>by
  rw [List.foldl_cons]
  exact row_WD hf hx ys (fun z hz=>hys z (List.mem_cons_of_mem _ hz)) _ (step_WD hf hx (hys y List.mem_cons_self) hs)
theorem four_WD {f:D→D→D × Int} (hf:∀ x y,WD x→WD y→WD (f x y).1) {ys:List D} (hys:∀ y ∈ ys,WD y):∀ (xs:List D) (_:∀ x ∈ xs,WD x) (s:Int × List D) (_:∀ z ∈ s.2,WD z),∀ z ∈ (xs.foldl (rowF f ys) s).2,WD z
 | [],_,s,hs=>hs
 | x :: xs,hxs,s,hs=>by
  rw [List.foldl_cons]
  exact four_WD hf hys xs (fun z hz=>hxs z (List.mem_cons_of_mem _ hz)) _ (row_WD hf (hxs x List.mem_cons_self) ys hys s hs)
theorem getD_mem {l:List D} {i:Nat} (h:i<l.length):l.getD i zD ∈ l:=by
 rw [List.getD_eq_getElem?_getD,List.getElem?_eq_getElem h]; exact List.getElem_mem h
theorem drop_getD {l:List D} {i:Nat} (h:i<l.length):l.drop i=l.getD i zD :: l.drop (i+1):=by
 rw [List.drop_eq_getElem_cons h,List.getD_eq_getElem?_getD,List.getElem?_eq_getElem h]; rfl
theorem mul_l7 {xs ys:List D} (hxs:∀ x ∈ xs,WD x) (hys:∀ y ∈ ys,WD y) (hly:ys.length≤10) (hlx:xs.length≤10) {i:Nat} (hi:i<xs.length) (p:Int) (ag:Int→Int→List AD→Option (List AD × Int)) :
  ∀ (r j:Nat) (e:Int) (O:List D),j+r=ys.length→O.length+r≤2000→∀ n,r<n→
   cv_four_6ec2_l7 (ys.map dy) (xs.map dy) (i:Int) p ag n (j:Int) e (O.map dy)=ag ((i+1:Nat):Int) ((ys.drop j).foldl (stepF timesD (xs.getD i zD)) (e,O)).1 (((ys.drop j).foldl (stepF timesD (xs.getD i zD)) (e,O)).2.map dy):=by
 intro r
 induction r with
 | zero=>
  intro j e O hj hO n hn
  obtain ⟨n,rfl⟩:∃ k,n=k+1:=⟨n-1,by omega⟩
  rw [cv_four_6ec2_l7,if_neg (by rw [List.length_map]; omega),List.drop_eq_nil_of_le (by omega)]
  unfold cv_four_6ec2_j6 cv_four_6ec2_j5
  rw [show ((i:Int)+1)=((i+1:Nat):Int) by omega,w64n (by omega)]
  rfl
 | succ r ih=>
  intro j e O hj hO n hn
  obtain ⟨n,rfl⟩:∃ k,n=k+1:=⟨n-1,by omega⟩
  have hjn:j<ys.length:=by omega
  have hy:=hys _ (getD_mem hjn)
  have hx:=hxs _ (getD_mem hi)
  have hrow:cv_four_6ec2_l7 (ys.map dy) (xs.map dy) (i:Int) p ag (n+1) (j:Int) e (O.map dy)=cv_four_6ec2_l7 (ys.map dy) (xs.map dy) (i:Int) p ag n ((j+1:Nat):Int) (stepF timesD (xs.getD i zD) (e,O) (ys.getD j zD)).1 ((stepF timesD (xs.getD i zD) (e,O) (ys.getD j zD)).2.map dy):=by
   rw [cv_four_6ec2_l7,if_pos (by rw [List.length_map]; omega),if_pos (by rw [List.length_map]; omega)]
   simp only [Int.toNat_natCast]
   rw [map_getD xs i hi,map_getD ys j hjn]
   simp only [etaDy]
   rw [dyad_Mul_eq hx hy]
   simp only [obn]
   rw [take_eq]
   simp only [obn]
   rw [if_pos (by simp only [List.length_cons,List.length_nil,List.length_map]; omega),show ((j:Int)+1)=((j+1:Nat):Int) by omega,w64n (by omega)]
   unfold stepF
   by_cases h:e=0
   ·subst h
    rw [if_pos rfl,if_pos rfl]
    by_cases h2:(timesD (xs.getD i zD) (ys.getD j zD)).2=0
    ·rw [if_pos h2,if_pos h2]; simp
    ·rw [if_neg h2,if_neg h2]; simp
   ·rw [if_neg h,if_neg h]; simp
  rw [hrow,drop_getD hjn,List.foldl_cons]
  exact ih (j+1) _ _ (by omega) (by rw [step_len]; simp only; omega) n (by omega)
theorem mul_l4 {xs ys:List D} (hxs:∀ x ∈ xs,WD x) (hys:∀ y ∈ ys,WD y) (hly:ys.length≤10) (hlx:xs.length≤10) (p:Int) :
  ∀ (r i:Nat) (e:Int) (O:List D),i+r=xs.length→O.length≤100*i→∀ n,r<n→
   cv_four_6ec2_l4 (xs.map dy) (ys.map dy) p n (i:Int) e (O.map dy)=some (((xs.drop i).foldl (rowF timesD ys) (e,O)).2.map dy,((xs.drop i).foldl (rowF timesD ys) (e,O)).1):=by
 intro r
 induction r with
 | zero=>
  intro i e O hi hO n hn
  obtain ⟨n,rfl⟩:∃ k,n=k+1:=⟨n-1,by omega⟩
  rw [cv_four_6ec2_l4,if_neg (by rw [List.length_map]; omega),List.drop_eq_nil_of_le (by omega)]
  rfl
 | succ r ih=>
  intro i e O hi hO n hn
  obtain ⟨n,rfl⟩:∃ k,n=k+1:=⟨n-1,by omega⟩
  have hin:i<xs.length:=by omega
  rw [cv_four_6ec2_l4,if_pos (by rw [List.length_map]; omega),if_pos (by rw [List.length_map]; omega)]
  have h7:=mul_l7 hxs hys hly hlx hin p (fun z0 z1 z2=>cv_four_6ec2_l4 (xs.map dy) (ys.map dy) p n z0 z1 z2) ys.length 0 e O (by omega) (by omega) fuel (by unfold fuel; omega)
  refine h7.trans ?_
  rw [List.drop_zero,drop_getD hin,List.foldl_cons]
  exact ih (i+1) _ _ (by omega) (by rw [fold_len]; simp only; omega) n (by omega)
def endsL (a:I):List D:=if cmpD a.lo a.hi=0 then [a.lo] else [a.lo,a.hi]
theorem endsL_WD {a:I} (h:okI a):∀ x ∈ endsL a,WD x:=by
 unfold endsL
 split
 ·intro x hx; have:x=a.lo:=by simpa using hx
  subst this; exact h.1
 ·intro x hx
  have:x=a.lo∨x=a.hi:=by simpa using hx
  rcases this with rfl | rfl
  ·exact h.1
  ·exact h.2.1
theorem endsL_len (a:I):(endsL a).length≤2:=by unfold endsL; split<;>simp
theorem cmpD_zero {x y:D} : cmpD x y=0↔val x=val y:=by
 rw [cmpD_eq]
 constructor
 ·intro h
  by_cases h1:val x<val y
  ·rw [if_pos h1] at h; simp at h
  ·rw [if_neg h1] at h
   by_cases h2:val y<val x
   ·rw [if_pos h2] at h; simp at h
   ·grind
 ·intro h
  rw [if_neg (by grind),if_neg (by grind)]
theorem endsL_two {a:I} (h:okI a):endsL a=[a.lo,a.hi]∨(a.lo=a.hi∧endsL a=[a.lo]):=by
 unfold endsL
 by_cases h1:cmpD a.lo a.hi=0
 ·rw [if_pos h1]; right; exact ⟨okD_ext h.1.1 h.2.1.1 (cmpD_zero.1 h1),rfl⟩
 ·rw [if_neg h1]; left; rfl
theorem mulFour_eq {a b:I} (ha:okI a) (hb:okI b) (p:Int):cv_four_6ec2 (iv a) (iv b) 0 p=some ((fourF timesD (endsL a) (endsL b)).2.map dy,(fourF timesD (endsL a) (endsL b)).1):=by
 have key:∀ xs ys:List D,(∀ x ∈ xs,WD x)→(∀ y ∈ ys,WD y)→ys.length≤2→xs.length≤2→cv_four_6ec2_j2 (xs.map dy) p 0 (ys.map dy)=some ((fourF timesD xs ys).2.map dy,(fourF timesD xs ys).1):=by
  intro xs ys hx hy hl1 hl2
  unfold cv_four_6ec2_j2
  have:=mul_l4 hx hy (by omega) (by omega) p xs.length 0 0 [] (by omega) (by simp) fuel (by unfold fuel; omega)
  rw [List.drop_zero] at this
  exact this
 have kx:=endsL_WD ha
 have ky:=endsL_WD hb
 have lx:=endsL_len a
 have ly:=endsL_len b
 have k:=key _ _ kx ky ly lx
 unfold cv_four_6ec2 cv_four_6ec2_j1
 rw [ivLo,ivLo,ivHi,ivHi,dyad_Cmp_eq ha.1 ha.2.1,dyad_Cmp_eq hb.1 hb.2.1]
 simp only [obn]
 rw [← k]
 unfold endsL
 have e1:∀ x y:D,[dy x,dy y].take 1=[x].map dy:=fun _ _=>rfl
 have e2:∀ x y:D,[dy x,dy y]=[x,y].map dy:=fun _ _=>rfl
 by_cases h1:cmpD a.lo a.hi=0
 ·rw [if_pos h1,if_pos (by simp),if_pos h1]
  by_cases h2:cmpD b.lo b.hi=0
  ·rw [if_pos h2,if_pos (by simp),if_pos h2]; rfl
  ·rw [if_neg h2,if_neg h2]; rfl
 ·rw [if_neg h1,if_neg h1]
  by_cases h2:cmpD b.lo b.hi=0
  ·rw [if_pos h2,if_pos (by simp),if_pos h2]; rfl
  ·rw [if_neg h2,if_neg h2]; rfl
def minL:List D→D
 | []=>zD
 | x :: l=>l.foldl minD x
def maxL:List D→D
 | []=>zD
 | x :: l=>l.foldl maxD x
theorem minL_WD {l:List D} (h:∀ x ∈ l,WD x):WD (minL l):=by
 cases l with
 | nil=>exact WD_z
 | cons x l=>exact WD_foldmin l x (h x List.mem_cons_self) fun y hy=>h y (List.mem_cons_of_mem _ hy)
theorem maxL_WD {l:List D} (h:∀ x ∈ l,WD x):WD (maxL l):=by
 cases l with
 | nil=>exact WD_z
 | cons x l=>exact WD_foldmax l x (h x List.mem_cons_self) fun y hy=>h y (List.mem_cons_of_mem _ hy)
theorem ends_eqL {l:List D} (h0:l≠[]) (h:∀ x ∈ l,WD x) (hlen:l.length≤1000):iv_ends (l.map dy)=some (dy (minL l),dy (maxL l)):=by
 cases l with
 | nil=>exact absurd rfl h0
 | cons x l=>exact ends_eq x l (h x List.mem_cons_self) (fun y hy=>h y (List.mem_cons_of_mem _ hy)) (by simp at hlen; omega)
theorem minD_stay {m x:D} (h:val m≤val x):minD m x=m:=by
 rcases minD_val m x with h1 | h1
 ·exact h1.1
 ·exact absurd h1.2 (by grind)
theorem maxD_stay {m x:D} (h:val x≤val m):maxD m x=m:=by
 rcases maxD_val m x with h1 | h1
 ·exact h1.1
 ·exact absurd h1.2 (by grind)
theorem minD_self (x:D):minD x x=x:=minD_stay (Rat.le_refl)
theorem maxD_self (x:D):maxD x x=x:=maxD_stay (Rat.le_refl)
theorem minD_le (m x:D):val (minD m x)≤val m∧val (minD m x)≤val x:=by
 rcases minD_val m x with h | h
 ·rw [h.1]; exact ⟨Rat.le_refl,h.2⟩
 ·rw [h.1]; exact ⟨by grind,Rat.le_refl⟩
theorem maxD_ge (m x:D):val m≤val (maxD m x)∧val x≤val (maxD m x):=by
 rcases maxD_val m x with h | h
 ·rw [h.1]; exact ⟨Rat.le_refl,h.2⟩
 ·rw [h.1]; exact ⟨by grind,Rat.le_refl⟩
def four4 {α:Type} (f:D→D→D × Int) (x1 x2 y1 y2:D) (z:α) (k:D→D→D→D→α × Int):α × Int:=
 bindE (f x1 y1) z fun q1=>bindE (f x1 y2) z fun q2=>bindE (f x2 y1) z fun q3=>bindE (f x2 y2) z fun q4=>k q1 q2 q3 q4
def min4 (a b c d:D):D:=minD (minD (minD a b) c) d
def max4 (a b c d:D):D:=maxD (maxD (maxD a b) c) d
theorem four_fin {α:Type} (f:D→D→D × Int) (x1 x2 y1 y2:D) (xs ys:List D) (hx:xs=[x1,x2]∨(x1=x2∧xs=[x1])) (hy:ys=[y1,y2]∨(y1=y2∧ys=[y1])) (z:α) (g:D→D→α × Int) :
  (if (fourF f xs ys).1=0 then g (minL (fourF f xs ys).2) (maxL (fourF f xs ys).2) else (z,(fourF f xs ys).1))=four4 f x1 x2 y1 y2 z (fun a b c d=>g (min4 a b c d) (max4 a b c d)):=by
 unfold four4 min4 max4
 rcases hx with rfl | ⟨rfl,rfl⟩<;>rcases hy with rfl | ⟨rfl,rfl⟩
 ·by_cases h1:(f x1 y1).2=0<;>by_cases h2:(f x1 y2).2=0<;>by_cases h3:(f x2 y1).2=0<;>by_cases h4:(f x2 y2).2=0<;>simp [fourF,rowF,stepF,bindE,minL,maxL,h1,h2,h3,h4]
 ·by_cases h1:(f x1 y1).2=0<;>by_cases h3:(f x2 y1).2=0<;>simp [fourF,rowF,stepF,bindE,minL,maxL,h1,h3,minD_self,maxD_self]
  rw [minD_stay (minD_le _ _).2,maxD_stay (maxD_ge _ _).2]
 ·by_cases h1:(f x1 y1).2=0<;>by_cases h2:(f x1 y2).2=0<;>simp [fourF,rowF,stepF,bindE,minL,maxL,h1,h2]
  rw [minD_stay (minD_le _ _).1,maxD_stay (maxD_ge _ _).1,minD_stay (minD_le _ _).2,maxD_stay (maxD_ge _ _).2]
 ·by_cases h1:(f x1 y1).2=0<;>simp [fourF,rowF,stepF,bindE,minL,maxL,h1,minD_self,maxD_self]
def mulI (p:Nat) (a b:I):I × Int:=four4 timesD a.lo a.hi b.lo b.hi zI fun q1 q2 q3 q4=>bindE (roundD (min4 q1 q2 q3 q4) p false) zI fun lo=>bindE (roundD (max4 q1 q2 q3 q4) p true) zI fun hi=>(⟨lo,hi⟩,0)
theorem four_ne {f:D→D→D × Int} {a b:I} (ha:okI a) (hb:okI b):(fourF f (endsL a) (endsL b)).2≠[]:=by
 intro h
 have:(fourF f (endsL a) (endsL b)).2.length=0:=by rw [h]; rfl
 unfold fourF at this
 rcases endsL_two ha with h1 | ⟨-,h1⟩<;>rcases endsL_two hb with h2 | ⟨-,h2⟩<;>rw [h1,h2] at this<;>simp [rowF,step_len] at this
theorem four_len {f:D→D→D × Int} {a b:I} (ha:okI a) (hb:okI b):(fourF f (endsL a) (endsL b)).2.length≤4:=by
 unfold fourF
 rcases endsL_two ha with h1 | ⟨-,h1⟩<;>rcases endsL_two hb with h2 | ⟨-,h2⟩<;>rw [h1,h2]<;>simp [rowF,step_len]
theorem ivMul_eq {a b:I} (ha:okI a) (hb:okI b) {p:Nat} (hp:2≤p∧p≤400) (e:Int):cv_Mul (iv a) (iv b) e (p:Int)=some (iv (st e zI (mulI p a b)).1,(st e zI (mulI p a b)).2):=by
 unfold cv_Mul
 rw [fine_two ha hb]
 simp only [obn]
 by_cases h:e=0
 ·subst h
  rw [if_neg (by simp),st_zero,mulFour_eq ha hb]
  simp only [obn]
  have hW:∀ z ∈ (fourF timesD (endsL a) (endsL b)).2,WD z:=four_WD (fun _ _ _ _=>WD_times) (endsL_WD hb) _ (endsL_WD ha) _ (by intro z hz; cases hz)
  have hl:=four_len (f:=timesD) ha hb
  rw [ends_eqL (four_ne ha hb) hW (by omega)]
  simp only [obn]
  have hm:=four_fin timesD a.lo a.hi b.lo b.hi (endsL a) (endsL b) (endsL_two ha) (endsL_two hb) zI (fun m M=>bindE (roundD m p false) zI fun lo=>bindE (roundD M p true) zI fun hi=>(⟨lo,hi⟩,0))
  unfold mulI
  rw [← hm]
  have hWm:=minL_WD hW
  have hWM:=maxL_WD hW
  generalize (fourF timesD (endsL a) (endsL b)).1=e at *
  generalize minL (fourF timesD (endsL a) (endsL b)).2=m at *
  generalize maxL (fourF timesD (endsL a) (endsL b)).2=M at *
  rw [downE_eq hWm hp]
  simp only [obn]
  by_cases h0:e=0
  ·subst h0
   rw [if_pos rfl,st_zero,upE_eq hWM hp]
   simp only [obn]
   by_cases h1:(roundD m p false).2=0
   ·rw [bindE_ok h1,bindE_ok h1,st_zero]
    by_cases h2:(roundD M p true).2=0
    ·rw [bindE_ok h2,bindE_ok h2,outE_eq]
     simp only [obn]
     rfl
    ·rw [bindE_no h2,bindE_no h2,outE_eq]
     simp only [obn]
     rw [if_neg h2]
   ·rw [bindE_no h1,bindE_no h1,st_ne h1,outE_eq]
    simp only [obn]
    rw [if_neg h1]
  ·rw [if_neg h0,st_ne h0,upE_eq hWM hp,st_ne h0]
   simp only [obn]
   rw [outE_eq,if_neg h0]
   simp only [obn]
 ·rw [if_pos (fine_no h),st_ne h,iv_z]
theorem div_l7 {xs ys:List D} (hxs:∀ x ∈ xs,WD x) (hys:∀ y ∈ ys,WD y) (hly:ys.length≤10) (hlx:xs.length≤10) {i:Nat} (hi:i<xs.length) {p:Nat} (hp:2≤p∧p≤400) (up:Bool) (ag:Int→Int→List AD→Option (List AD × Int)) :
  ∀ (r j:Nat) (e:Int) (O:List D),j+r=ys.length→O.length+r≤2000→∀ n,r<n→
   cv_four_e8e7_l7 (ys.map dy) (xs.map dy) (i:Int) (p:Int) up ag n (j:Int) e (O.map dy)=ag ((i+1:Nat):Int) ((ys.drop j).foldl (stepF (fun x y=>divD x y p up) (xs.getD i zD)) (e,O)).1 (((ys.drop j).foldl (stepF (fun x y=>divD x y p up) (xs.getD i zD)) (e,O)).2.map dy):=by
 intro r
 induction r with
 | zero=>
  intro j e O hj hO n hn
  obtain ⟨n,rfl⟩:∃ k,n=k+1:=⟨n-1,by omega⟩
  rw [cv_four_e8e7_l7,if_neg (by rw [List.length_map]; omega),List.drop_eq_nil_of_le (by omega)]
  unfold cv_four_e8e7_j6 cv_four_e8e7_j5
  rw [show ((i:Int)+1)=((i+1:Nat):Int) by omega,w64n (by omega)]
  rfl
 | succ r ih=>
  intro j e O hj hO n hn
  obtain ⟨n,rfl⟩:∃ k,n=k+1:=⟨n-1,by omega⟩
  have hjn:j<ys.length:=by omega
  have hy:=hys _ (getD_mem hjn)
  have hx:=hxs _ (getD_mem hi)
  have hrow:cv_four_e8e7_l7 (ys.map dy) (xs.map dy) (i:Int) (p:Int) up ag (n+1) (j:Int) e (O.map dy)=cv_four_e8e7_l7 (ys.map dy) (xs.map dy) (i:Int) (p:Int) up ag n ((j+1:Nat):Int) (stepF (fun x y=>divD x y p up) (xs.getD i zD) (e,O) (ys.getD j zD)).1 ((stepF (fun x y=>divD x y p up) (xs.getD i zD) (e,O) (ys.getD j zD)).2.map dy):=by
   rw [cv_four_e8e7_l7,if_pos (by rw [List.length_map]; omega),if_pos (by rw [List.length_map]; omega)]
   simp only [Int.toNat_natCast]
   rw [map_getD xs i hi,map_getD ys j hjn]
   simp only [etaDy]
   unfold cv_Div_1_1
   rw [dyad_Div_eq hx hy hp up]
   simp only [obn]
   rw [take_eq]
   simp only [obn]
   rw [if_pos (by simp only [List.length_cons,List.length_nil,List.length_map]; omega),show ((j:Int)+1)=((j+1:Nat):Int) by omega,w64n (by omega)]
   unfold stepF
   by_cases h:e=0
   ·subst h
    rw [if_pos rfl,if_pos rfl]
    by_cases h2:(divD (xs.getD i zD) (ys.getD j zD) p up).2=0
    ·rw [if_pos h2,if_pos h2]; simp
    ·rw [if_neg h2,if_neg h2]; simp
   ·rw [if_neg h,if_neg h]; simp
  rw [hrow,drop_getD hjn,List.foldl_cons]
  exact ih (j+1) _ _ (by omega) (by rw [step_len]; simp only; omega) n (by omega)
theorem div_l4 {xs ys:List D} (hxs:∀ x ∈ xs,WD x) (hys:∀ y ∈ ys,WD y) (hly:ys.length≤10) (hlx:xs.length≤10) {p:Nat} (hp:2≤p∧p≤400) (up:Bool) :
  ∀ (r i:Nat) (e:Int) (O:List D),i+r=xs.length→O.length≤100*i→∀ n,r<n→
   cv_four_e8e7_l4 (xs.map dy) (ys.map dy) (p:Int) up n (i:Int) e (O.map dy)=some (((xs.drop i).foldl (rowF (fun x y=>divD x y p up) ys) (e,O)).2.map dy,((xs.drop i).foldl (rowF (fun x y=>divD x y p up) ys) (e,O)).1):=by
 intro r
 induction r with
 | zero=>
  intro i e O hi hO n hn
  obtain ⟨n,rfl⟩:∃ k,n=k+1:=⟨n-1,by omega⟩
  rw [cv_four_e8e7_l4,if_neg (by rw [List.length_map]; omega),List.drop_eq_nil_of_le (by omega)]
  rfl
 | succ r ih=>
  intro i e O hi hO n hn
  obtain ⟨n,rfl⟩:∃ k,n=k+1:=⟨n-1,by omega⟩
  have hin:i<xs.length:=by omega
  rw [cv_four_e8e7_l4,if_pos (by rw [List.length_map]; omega),if_pos (by rw [List.length_map]; omega)]
  have h7:=div_l7 hxs hys hly hlx hin hp up (fun z0 z1 z2=>cv_four_e8e7_l4 (xs.map dy) (ys.map dy) (p:Int) up n z0 z1 z2) ys.length 0 e O (by omega) (by omega) fuel (by unfold fuel; omega)
  refine h7.trans ?_
  rw [List.drop_zero,drop_getD hin,List.foldl_cons]
  exact ih (i+1) _ _ (by omega) (by rw [fold_len]; simp only; omega) n (by omega)
theorem divFour_eq {a b:I} (ha:okI a) (hb:okI b) {p:Nat} (hp:2≤p∧p≤400) (up:Bool):cv_four_e8e7 (iv a) (iv b) 0 (p:Int) up=some ((fourF (fun x y=>divD x y p up) (endsL a) (endsL b)).2.map dy,(fourF (fun x y=>divD x y p up) (endsL a) (endsL b)).1):=by
 have key:∀ xs ys:List D,(∀ x ∈ xs,WD x)→(∀ y ∈ ys,WD y)→ys.length≤2→xs.length≤2→cv_four_e8e7_j2 (xs.map dy) (p:Int) up 0 (ys.map dy)=some ((fourF (fun x y=>divD x y p up) xs ys).2.map dy,(fourF (fun x y=>divD x y p up) xs ys).1):=by
  intro xs ys hx hy hl1 hl2
  unfold cv_four_e8e7_j2
  have:=div_l4 hx hy (by omega) (by omega) hp up xs.length 0 0 [] (by omega) (by simp) fuel (by unfold fuel; omega)
  rw [List.drop_zero] at this
  exact this
 have kx:=endsL_WD ha
 have ky:=endsL_WD hb
 have lx:=endsL_len a
 have ly:=endsL_len b
 have k:=key _ _ kx ky ly lx
 unfold cv_four_e8e7 cv_four_e8e7_j1
 rw [ivLo,ivLo,ivHi,ivHi,dyad_Cmp_eq ha.1 ha.2.1,dyad_Cmp_eq hb.1 hb.2.1]
 simp only [obn]
 rw [← k]
 unfold endsL
 have e1:∀ x y:D,[dy x,dy y].take 1=[x].map dy:=fun _ _=>rfl
 have e2:∀ x y:D,[dy x,dy y]=[x,y].map dy:=fun _ _=>rfl
 by_cases h1:cmpD a.lo a.hi=0
 ·rw [if_pos h1,if_pos (by simp),if_pos h1]
  by_cases h2:cmpD b.lo b.hi=0
  ·rw [if_pos h2,if_pos (by simp),if_pos h2]; rfl
  ·rw [if_neg h2,if_neg h2]; rfl
 ·rw [if_neg h1,if_neg h1]
  by_cases h2:cmpD b.lo b.hi=0
  ·rw [if_pos h2,if_pos (by simp),if_pos h2]; rfl
  ·rw [if_neg h2,if_neg h2]; rfl
def divI (p:Nat) (a b:I):I × Int:=if hasI b zD then (zI,3) else
 four4 (fun x y=>divD x y p false) a.lo a.hi b.lo b.hi zI fun q1 q2 q3 q4=>four4 (fun x y=>divD x y p true) a.lo a.hi b.lo b.hi zI fun r1 r2 r3 r4=>(⟨min4 q1 q2 q3 q4,max4 r1 r2 r3 r4⟩,0)
theorem fourF_ne {f:D→D→D × Int} {xs ys:List D} {e:Int} (he:e≠0):∀ (s:Int × List D),s.1=e→(xs.foldl (rowF f ys) s).1=e:=by
 have h1:∀ (x:D) (s:Int × List D) (y:D),s.1=e→(stepF f x s y).1=e:=by
  intro x s y hs
  unfold stepF
  rw [if_neg (by rw [hs]; exact he)]
  exact hs
 have h2:∀ (x:D) (l:List D) (s:Int × List D),s.1=e→(l.foldl (stepF f x) s).1=e:=by
  intro x l
  induction l with
  | nil=>intro s hs; exact hs
  | cons y l ih=>intro s hs; rw [List.foldl_cons]; exact ih _ (h1 x s y hs)
 induction xs with
 | nil=>intro s hs; exact hs
 | cons x l ih=>intro s hs; rw [List.foldl_cons]; exact ih _ (h2 x ys s hs)
theorem divFour_ne {a b:I} (ha:okI a) (hb:okI b) {p:Nat} (hp:2≤p∧p≤400) (up:Bool) {e:Int} (he:e≠0):∃ L:List D,cv_four_e8e7 (iv a) (iv b) e (p:Int) up=some (L.map dy,e)∧L≠[]∧L.length≤4∧∀ z ∈ L,WD z:=by
 have kx:=endsL_WD ha
 have ky:=endsL_WD hb
 have lx:=endsL_len a
 have ly:=endsL_len b
 have hk:=div_l4 kx ky (by omega) (by omega) hp up (endsL a).length 0 e [] (by omega) (by simp) fuel (by unfold fuel; omega)
 rw [List.drop_zero,fourF_ne he _ rfl] at hk
 refine ⟨_,?_,?_,?_,four_WD (f:=fun x y=>divD x y p up) (fun _ _ _ _=>WD_div) ky (endsL a) kx (e,[]) (by intro z hz; cases hz)⟩
 ·unfold cv_four_e8e7 cv_four_e8e7_j1 cv_four_e8e7_j2
  rw [ivLo,ivLo,ivHi,ivHi,dyad_Cmp_eq ha.1 ha.2.1,dyad_Cmp_eq hb.1 hb.2.1]
  simp only [obn]
  rw [← hk]
  unfold endsL
  by_cases h1:cmpD a.lo a.hi=0
  ·rw [if_pos h1,if_pos (by simp),if_pos h1]
   by_cases h2:cmpD b.lo b.hi=0
   ·rw [if_pos h2,if_pos (by simp),if_pos h2]; rfl
   ·rw [if_neg h2,if_neg h2]; rfl
  ·rw [if_neg h1,if_neg h1]
   by_cases h2:cmpD b.lo b.hi=0
   ·rw [if_pos h2,if_pos (by simp),if_pos h2]; rfl
   ·rw [if_neg h2,if_neg h2]; rfl
 ·intro h
  have hlen:((endsL a).foldl (rowF (fun x y=>divD x y p up) (endsL b)) (e,[])).2.length=0:=by rw [h]; rfl
  rcases endsL_two ha with h1 | ⟨-,h1⟩<;>rcases endsL_two hb with h2 | ⟨-,h2⟩<;>rw [h1,h2] at hlen<;>simp [rowF,step_len] at hlen
 ·rcases endsL_two ha with h1 | ⟨-,h1⟩<;>rcases endsL_two hb with h2 | ⟨-,h2⟩<;>rw [h1,h2]<;>simp [rowF,step_len]
theorem ivDiv_eq {a b:I} (ha:okI a) (hb:okI b) {p:Nat} (hp:2≤p∧p≤400) (e:Int):cv_Div (iv a) (iv b) e (p:Int)=some (iv (st e zI (divI p a b)).1,(st e zI (divI p a b)).2):=by
 unfold cv_Div
 rw [fine_two ha hb]
 simp only [obn]
 by_cases h:e=0
 ·subst h
  rw [if_neg (by simp),st_zero,← dy_z,ivHas_eq hb WD_z]
  simp only [obn]
  unfold divI
  by_cases hz:hasI b zD=true
  ·rw [if_pos hz,if_pos hz,note_eq]
   simp only [obn]
   rfl
  ·rw [if_neg hz,if_neg hz]
   unfold cv_Div_1
   simp only [obn]
   rw [divFour_eq ha hb hp]
   simp only [obn]
   have hW:∀ up,∀ z ∈ (fourF (fun x y=>divD x y p up) (endsL a) (endsL b)).2,WD z:=fun up=>four_WD (fun _ _ _ _=>WD_div) (endsL_WD hb) _ (endsL_WD ha) _ (by intro z hz; cases hz)
   have hl:=fun up=>four_len (f:=fun x y=>divD x y p up) ha hb
   rw [ends_eqL (four_ne ha hb) (hW false) (by have:=hl false; omega)]
   simp only [obn]
   rw [← four_fin (fun x y=>divD x y p false) a.lo a.hi b.lo b.hi (endsL a) (endsL b) (endsL_two ha) (endsL_two hb) zI (fun m _=>four4 (fun x y=>divD x y p true) a.lo a.hi b.lo b.hi zI fun r1 r2 r3 r4=>(⟨m,max4 r1 r2 r3 r4⟩,0))]
   by_cases h0:(fourF (fun x y=>divD x y p false) (endsL a) (endsL b)).1=0
   ·rw [h0,if_pos rfl,divFour_eq ha hb hp]
    simp only [obn]
    rw [ends_eqL (four_ne ha hb) (hW true) (by have:=hl true; omega)]
    simp only [obn]
    rw [outE_eq]
    simp only [obn]
    generalize minL (fourF (fun x y=>divD x y p false) (endsL a) (endsL b)).2=m
    rw [← four_fin (fun x y=>divD x y p true) a.lo a.hi b.lo b.hi (endsL a) (endsL b) (endsL_two ha) (endsL_two hb) zI (fun _ M=>(⟨m,M⟩,0))]
    by_cases h1:(fourF (fun x y=>divD x y p true) (endsL a) (endsL b)).1=0
    ·rw [if_pos h1,if_pos h1,h1]
    ·rw [if_neg h1,if_neg h1]
   ·rw [if_neg h0]
    obtain ⟨L,l1,l2,l3,l4⟩:=divFour_ne ha hb hp true h0
    rw [l1]
    simp only [obn]
    rw [ends_eqL l2 l4 (by omega)]
    simp only [obn]
    rw [outE_eq,if_neg h0]
    simp only [obn]
 ·rw [if_pos (fine_no h),st_ne h,iv_z]
theorem natCast_le {a b:Nat} (h:a≤b):(a:Rat)≤(b:Rat):=by exact_mod_cast h
theorem natCast_lt {a b:Nat} (h:a<b):(a:Rat)<(b:Rat):=by exact_mod_cast h
theorem natCast_nonneg (a:Nat):(0:Rat)≤(a:Rat):=by exact_mod_cast Nat.zero_le a
theorem mul_le_iff {a b p:Rat} (hp:0<p):a*p≤b*p↔a≤b:=by
 constructor
 ·intro h
  by_cases h':a≤b
  ·exact h'
  ·have:=Rat.mul_lt_mul_of_pos_right (show b<a by grind) hp
   grind
 ·intro h; exact Rat.mul_le_mul_of_nonneg_right h (Rat.le_of_lt hp)
theorem val_cut (neg:Bool) (m:Nat) (e:Int) (s:Bool) (p:Nat) (away:Bool):val (cutD neg m e s p away)=(sg neg (cutN m s p away):Rat)*p2 (e+(blen m-p:Nat)):=by
 unfold cutD; rw [val_nrm]
theorem cutN_lo (m:Nat) (s:Bool) (p:Nat):cutN m s p false*2 ^ (blen m-p)≤m:=by
 unfold cutN
 simp only [Bool.and_false,Bool.false_eq_true,if_false,Nat.add_zero]
 exact Nat.div_mul_le_self _ _
theorem cutN_hi (m:Nat) (s:Bool) (p:Nat):m+(if s then 1 else 0)≤cutN m s p true*2 ^ (blen m-p):=by
 unfold cutN
 have h1:=Nat.div_add_mod m (2 ^ (blen m-p))
 have hp:0<2 ^ (blen m-p):=Nat.pow_pos (by decide)
 have h2:=Nat.mod_lt m hp
 generalize 2 ^ (blen m-p)=W at *
 rw [Nat.add_mul,Nat.mul_comm (m / W) W]
 cases s with
 | true=>simp; omega
 | false=>
  by_cases h:m % W=0
  ·simp [h]; omega
  ·simp [h]; omega
theorem cutN_le (m:Nat) (s:Bool) (p:Nat) (away:Bool):cutN m s p away≤2 ^ p:=by
 unfold cutN
 have h1:=blen_lt m
 have h2:m / 2 ^ (blen m-p)<2 ^ p:=by
  rw [Nat.div_lt_iff_lt_mul (Nat.pow_pos (by decide)),← Nat.pow_add]
  exact Nat.lt_of_lt_of_le h1 (Nat.pow_le_pow_right (by decide) (by omega))
 split<;>omega
theorem cutN_ge (m:Nat) (s:Bool) (p:Nat) (away:Bool) (h:0<blen m-p):2 ^ (p-1)≤cutN m s p away∨p=0:=by
 rcases Nat.eq_zero_or_pos p with hp | hp
 ·exact Or.inr hp
 ·left
  have h0:m≠0:=by intro h0; subst h0; rw [blen_zero] at h; omega
  have h1:=blen_le h0
  unfold cutN
  refine Nat.le_trans ?_ (Nat.le_add_right _ _)
  rw [Nat.le_div_iff_mul_le (Nat.pow_pos (by decide)),← Nat.pow_add]
  refine Nat.le_trans (Nat.pow_le_pow_right (by decide) (by omega)) h1
def rnd (x:D) (p:Nat) (up:Bool):D:=cutD (decide (x.m<0)) x.m.natAbs x.e false p (up != decide (x.m<0))
theorem roundD_eq (x:D) (p:Nat) (up:Bool):roundD x p up=tell (rnd x p up):=rfl
theorem p2_split (e:Int) (n:Nat):p2 (e+(n:Nat))=((2 ^ n:Nat):Rat)*p2 e:=by rw [Int.add_comm,p2_add,p2_nat]
theorem val_abs_pos {x:D} (h:¬x.m<0):val x=(x.m.natAbs:Rat)*p2 x.e:=by
 unfold val
 congr 1
 have:x.m=(x.m.natAbs:Int):=by omega
 conv=>lhs; rw [this]
 rw [Rat.intCast_natCast]
theorem val_abs_neg {x:D} (h:x.m<0):val x = -((x.m.natAbs:Rat)*p2 x.e):=by
 unfold val
 have:x.m = -(x.m.natAbs:Int):=by omega
 conv=>lhs; rw [this]
 rw [Rat.intCast_neg,Rat.intCast_natCast,Rat.neg_mul]
theorem sg_pos_cast (n:Nat):((sg false n:Int):Rat)=(n:Rat):=by
 show (((n:Nat):Int):Rat)=(n:Rat)
 rw [Rat.intCast_natCast]
theorem sg_neg_cast (n:Nat):((sg true n:Int):Rat) = -(n:Rat):=by
 show ((-((n:Nat):Int):Int):Rat) = -(n:Rat)
 rw [Rat.intCast_neg,Rat.intCast_natCast]
theorem cut_lo (m:Nat) (e:Int) (s:Bool) (p:Nat):((cutN m s p false:Nat):Rat)*p2 (e+(blen m-p:Nat))≤(m:Rat)*p2 e:=by
 rw [p2_split,← Rat.mul_assoc,← Rat.natCast_mul,mul_le_iff (p2_pos e)]
 exact natCast_le (cutN_lo m s p)
theorem cut_hi (m:Nat) (e:Int) (s:Bool) (p:Nat):((m+(if s then 1 else 0):Nat):Rat)*p2 e≤((cutN m s p true:Nat):Rat)*p2 (e+(blen m-p:Nat)):=by
 rw [p2_split,← Rat.mul_assoc,← Rat.natCast_mul,mul_le_iff (p2_pos e)]
 exact natCast_le (cutN_hi m s p)
theorem rnd_down (x:D) (p:Nat):val (rnd x p false)≤val x:=by
 unfold rnd
 rw [val_cut]
 by_cases h:x.m<0
 ·rw [val_abs_neg h,decide_eq_true h,sg_neg_cast]
  have:=cut_hi x.m.natAbs x.e false p
  simp at this ⊢
  grind
 ·rw [val_abs_pos h,decide_eq_false h,sg_pos_cast]
  exact cut_lo _ _ _ _
theorem rnd_up (x:D) (p:Nat):val x≤val (rnd x p true):=by
 unfold rnd
 rw [val_cut]
 by_cases h:x.m<0
 ·rw [val_abs_neg h,decide_eq_true h,sg_neg_cast]
  have:=cut_lo x.m.natAbs x.e false p
  simp at this ⊢
  grind
 ·rw [val_abs_pos h,decide_eq_false h,sg_pos_cast]
  have:=cut_hi x.m.natAbs x.e false p
  simp at this ⊢
  exact this
def rep (p:Nat) (q:Rat):Prop:=∃ (w f:Int),q=(w:Rat)*p2 f∧w.natAbs≤2 ^ p
theorem rnd_rep (x:D) (p:Nat) (up:Bool):rep p (val (rnd x p up)):=by
 unfold rnd
 rw [val_cut]
 exact ⟨_,_,rfl,by rw [sg_abs']; exact cutN_le _ _ _ _⟩
theorem rnd_neg (x:D) (p:Nat) (up:Bool):val (rnd (negD x) p (!up)) = -val (rnd x p up):=by
 unfold rnd
 have e1:(negD x).m.natAbs=x.m.natAbs:=by unfold negD; simp
 have e2:(negD x).e=x.e:=rfl
 rw [val_cut,val_cut,e1,e2]
 have hm:(negD x).m = -x.m:=rfl
 rcases (show x.m<0∨x.m=0∨0<x.m by omega) with h | h | h
 ·rw [decide_eq_true h,decide_eq_false (show ¬(negD x).m<0 by omega),sg_neg_cast,sg_pos_cast]
  have:((!up) != false)=(up != true):=by cases up<;>rfl
  rw [this,Rat.neg_mul,Rat.neg_neg]
 ·rw [decide_eq_false (show ¬x.m<0 by omega),decide_eq_false (show ¬(negD x).m<0 by omega),h]
  have:∀ b,cutN (0:Int).natAbs false p b=0:=by intro b; unfold cutN; simp
  rw [this,this]
  simp [sg]
 ·rw [decide_eq_false (show ¬x.m<0 by omega),decide_eq_true (show (negD x).m<0 by omega),sg_neg_cast,sg_pos_cast]
  have:((!up) != true)=(up != false):=by cases up<;>rfl
  rw [this,Rat.neg_mul]
theorem nat_le_of_cast {a b:Nat} (h:(a:Rat)≤(b:Rat)):a≤b:=by exact_mod_cast h
theorem p2_lt {a b:Int} (h:a<b):p2 a<p2 b:=by
 have h1:=p2_le (show a+1≤b by omega)
 have h2:=p2_pos a
 rw [p2_add] at h1
 have:p2 1=2:=by rw [show (1:Int)=((1:Nat):Int) by rfl,p2_nat]; rfl
 rw [this] at h1
 grind
theorem p2_le_iff {a b:Int} : p2 a≤p2 b↔a≤b:=by
 constructor
 ·intro h
  rcases (show a≤b∨b<a by omega) with h1 | h1
  ·exact h1
  ·have:=p2_lt h1; grind
 ·exact p2_le
theorem cutN_none {m p:Nat} (h:blen m-p=0) (away:Bool):cutN m false p away=m:=by
 unfold cutN; rw [h]; simp [Nat.mod_one]
theorem rnd_none {x:D} {p:Nat} (h:blen x.m.natAbs-p=0) (up:Bool):val (rnd x p up)=val x:=by
 unfold rnd
 rw [val_cut,h,cutN_none h]
 by_cases hx:x.m<0
 ·rw [decide_eq_true hx,sg_neg_cast,val_abs_neg hx,Rat.neg_mul]; simp
 ·rw [decide_eq_false hx,sg_pos_cast,val_abs_pos hx]; simp
theorem rep_bound {w:Int} {p:Nat} (hw:w.natAbs≤2 ^ p) (f:Int):(w.natAbs:Rat)*p2 f≤p2 (f+(p:Nat)):=by
 rw [p2_split,mul_le_iff (p2_pos f)]; exact natCast_le hw
theorem rnd_best {x:D} {p:Nat} (hp:1≤p) {y:Rat} (hy:rep p y) (h:y≤val x):y≤val (rnd x p false):=by
 by_cases hn0:blen x.m.natAbs-p=0
 ·rw [rnd_none hn0]; exact h
 obtain ⟨w,f,rfl,hw⟩:=hy
 have hwb:=rep_bound hw f
 unfold rnd
 rw [val_cut]
 generalize hn:blen x.m.natAbs-p=n at *
 have hM0:x.m.natAbs≠0:=by intro h0; rw [h0,blen_zero] at hn; omega
 have hMge:=blen_le hM0
 have hbl:blen x.m.natAbs=n+p:=by omega
 rw [hbl] at hMge
 by_cases hx:x.m<0
 ·
  rw [decide_eq_true hx,sg_neg_cast]
  rw [val_abs_neg hx] at h
  have hb:(false != true)=true:=rfl
  rw [hb]
  generalize x.m.natAbs=M at *
  have hMpos:(0:Rat)<(M:Rat)*p2 x.e:=Rat.mul_pos (by exact_mod_cast (Nat.pos_of_ne_zero hM0)) (p2_pos x.e)
  have hw0:w<0:=by
   rcases (show w<0∨0≤w by omega) with h1 | h1
   ·exact h1
   ·have h2:(0:Rat)≤(w:Rat):=by exact_mod_cast h1
    have h3:=Rat.mul_nonneg h2 (Rat.le_of_lt (p2_pos f))
    grind
  obtain ⟨v,rfl⟩:∃ v:Nat,w = -(v:Int):=⟨w.natAbs,by omega⟩
  rw [Int.natAbs_neg,Int.natAbs_natCast] at hwb hw
  rw [Rat.intCast_neg,Rat.intCast_natCast] at h ⊢
  have h1:(M:Rat)*p2 x.e≤(v:Rat)*p2 f:=by grind
  have goal:((cutN M false p true:Nat):Rat)*p2 (x.e+(n:Nat))≤(v:Rat)*p2 f:=by
   have hp2:0<2 ^ n:=Nat.pow_pos (by decide)
   have h3:=Nat.div_add_mod M (2 ^ n)
   have h4:=Nat.mod_lt M hp2
   by_cases hf:x.e+(n:Nat)≤f
   ·
    obtain ⟨k,hk⟩:∃ k:Nat,f=x.e+(n:Nat)+(k:Nat):=⟨(f-(x.e+(n:Nat))).toNat,by omega⟩
    rw [hk,p2_split _ k,← Rat.mul_assoc,mul_le_iff (p2_pos _),← Rat.natCast_mul]
    rw [hk,p2_split _ k,p2_split _ n,← Rat.mul_assoc,← Rat.mul_assoc,mul_le_iff (p2_pos _),← Rat.natCast_mul,← Rat.natCast_mul] at h1
    have h2:=nat_le_of_cast h1
    apply natCast_le
    unfold cutN
    rw [hn]
    simp only [Bool.false_or,Bool.and_true]
    by_cases hr:M % 2 ^ n=0
    ·simp only [hr,bne_self_eq_false,Bool.false_eq_true,if_false,Nat.add_zero]
     have h6:M / 2 ^ n*2 ^ n≤v*2 ^ k*2 ^ n:=by rw [Nat.mul_comm (M / 2 ^ n)]; omega
     exact Nat.le_of_mul_le_mul_right h6 hp2
    ·have:(M % 2 ^ n != 0)=true:=by simpa using hr
     rw [this,if_pos rfl]
     have h5:M / 2 ^ n*2 ^ n<v*2 ^ k*2 ^ n:=by rw [Nat.mul_comm (M / 2 ^ n)]; omega
     exact Nat.lt_of_mul_lt_mul_right h5
   ·
    have h5:(M:Rat)*p2 x.e≤p2 (x.e+((n+p-1:Nat):Int)):=by
     have:=p2_le (show f+(p:Nat)≤x.e+((n+p-1:Nat):Int) by omega)
     grind
    rw [p2_split,mul_le_iff (p2_pos _)] at h5
    have h6:=nat_le_of_cast h5
    have hMe:M=2 ^ (n+p-1):=by omega
    have hMd:M=2 ^ n*2 ^ (p-1):=by rw [hMe,← Nat.pow_add]; congr 1; omega
    have hc:cutN M false p true*2 ^ n=M:=by
     unfold cutN
     rw [hn,hMd,Nat.mul_mod_right,Nat.mul_div_cancel_left _ hp2]
     simp [Nat.mul_comm]
    rw [p2_split,← Rat.mul_assoc,← Rat.natCast_mul,hc]
    exact h1
  grind
 ·rw [decide_eq_false hx,sg_pos_cast]
  rw [val_abs_pos hx] at h
  have hb:(false != false)=false:=rfl
  rw [hb]
  have hge:=cutN_ge x.m.natAbs false p false (by omega)
  generalize x.m.natAbs=M at *
  have hnn:(0:Rat)≤((cutN M false p false:Nat):Rat)*p2 (x.e+(n:Nat)):=Rat.mul_nonneg (natCast_nonneg _) (Rat.le_of_lt (p2_pos _))
  rcases (show w≤0∨0<w by omega) with h1 | h1
  ·have h2:(w:Rat)≤0:=by exact_mod_cast h1
   have h3:=Rat.mul_nonneg (show (0:Rat) ≤ -(w:Rat) by grind) (Rat.le_of_lt (p2_pos f))
   grind
  ·obtain ⟨v,rfl⟩:∃ v:Nat,w=(v:Int):=⟨w.natAbs,by omega⟩
   rw [Int.natAbs_natCast] at hwb hw
   rw [Rat.intCast_natCast] at h ⊢
   by_cases hf:x.e+(n:Nat)≤f
   ·obtain ⟨k,hk⟩:∃ k:Nat,f=x.e+(n:Nat)+(k:Nat):=⟨(f-(x.e+(n:Nat))).toNat,by omega⟩
    rw [hk,p2_split _ k,← Rat.mul_assoc,mul_le_iff (p2_pos _),← Rat.natCast_mul]
    rw [hk,p2_split _ k,p2_split _ n,← Rat.mul_assoc,← Rat.mul_assoc,mul_le_iff (p2_pos _),← Rat.natCast_mul,← Rat.natCast_mul] at h
    have h2:=nat_le_of_cast h
    apply natCast_le
    unfold cutN
    rw [hn]
    simp only [Bool.and_false,Bool.false_eq_true,if_false,Nat.add_zero]
    rw [Nat.le_div_iff_mul_le (Nat.pow_pos (by decide))]
    exact h2
   ·have h3:2 ^ (p-1)≤cutN M false p false:=by
     rcases hge with h3 | h3
     ·exact h3
     ·omega
    have h4:=natCast_le h3
    have h5:=Rat.mul_le_mul_of_nonneg_right h4 (Rat.le_of_lt (p2_pos (x.e+(n:Nat))))
    rw [← p2_split] at h5
    have:=p2_le (show f+(p:Nat)≤x.e+(n:Nat)+((p-1:Nat):Int) by omega)
    grind
theorem rep_neg {p:Nat} {y:Rat} (h:rep p y):rep p (-y):=by
 obtain ⟨w,f,rfl,hw⟩:=h
 exact ⟨-w,f,by rw [Rat.intCast_neg,Rat.neg_mul],by rwa [Int.natAbs_neg]⟩
theorem rnd_best_up {x:D} {p:Nat} (hp:1≤p) {y:Rat} (hy:rep p y) (h:val x≤y):val (rnd x p true)≤y:=by
 have h1:=rnd_neg x p true
 have h2:=rnd_best (x:=negD x) hp (rep_neg hy) (by rw [val_neg]; grind)
 rw [show (!true)=false by rfl] at h1
 rw [h1] at h2
 grind
def G (L:Int) (q:Rat):Prop:=∃ z:Int,q=(z:Rat)*p2 L
def B (H:Int) (q:Rat):Prop:=-(p2 H)≤q∧q≤p2 H
theorem G.add {L:Int} {x y:Rat} (hx:G L x) (hy:G L y):G L (x+y):=by
 obtain ⟨a,rfl⟩:=hx
 obtain ⟨b,rfl⟩:=hy
 exact ⟨a+b,by rw [Rat.intCast_add]; grind⟩
theorem G.neg {L:Int} {x:Rat} (hx:G L x):G L (-x):=by
 obtain ⟨a,rfl⟩:=hx
 exact ⟨-a,by rw [Rat.intCast_neg]; grind⟩
theorem G.mul {L M:Int} {x y:Rat} (hx:G L x) (hy:G M y):G (L+M) (x*y):=by
 obtain ⟨a,rfl⟩:=hx
 obtain ⟨b,rfl⟩:=hy
 exact ⟨a*b,by rw [Rat.intCast_mul,p2_add]; grind⟩
theorem G.mono {L M:Int} {x:Rat} (hx:G L x) (h:M≤L):G M x:=by
 obtain ⟨a,rfl⟩:=hx
 exact ⟨a*2 ^ (L-M).toNat,by rw [Rat.intCast_mul,Rat.mul_assoc,← p2_diff h]⟩
theorem G.zero (L:Int):G L 0:=⟨0,by simp⟩
theorem G.of {z:Int} {L M:Int} (h:M≤L):G M ((z:Rat)*p2 L):=G.mono ⟨z,rfl⟩ h
theorem B.mono {H K:Int} {x:Rat} (hx:B H x) (h:H≤K):B K x:=by
 have:=p2_le h
 unfold B at *
 grind
theorem p2_succ (H:Int):p2 (H+1)=2*p2 H:=by
 rw [p2_add,show (1:Int)=((1:Nat):Int) by rfl,p2_nat]
 have:((2 ^ 1:Nat):Rat)=2:=by rfl
 rw [this]; grind
theorem B.add {H:Int} {x y:Rat} (hx:B H x) (hy:B H y):B (H+1) (x+y):=by
 unfold B at *
 rw [p2_succ]
 grind
theorem B.neg {H:Int} {x:Rat} (hx:B H x):B H (-x):=by unfold B at *; grind
theorem B.zero (H:Int):B H 0:=by have:=p2_pos H; unfold B; grind
theorem mul_abs_le {a b x y:Rat} (hx : -a≤x∧x≤a) (hy : -b≤y∧y≤b) : -(a*b)≤x*y∧x*y≤a*b:=by
 have h1:=Rat.mul_nonneg (show 0≤a-x by grind) (show 0≤b-y by grind)
 have h2:=Rat.mul_nonneg (show 0≤a+x by grind) (show 0≤b+y by grind)
 have h3:=Rat.mul_nonneg (show 0≤a-x by grind) (show 0≤b+y by grind)
 have h4:=Rat.mul_nonneg (show 0≤a+x by grind) (show 0≤b-y by grind)
 constructor<;>grind
theorem B.mul {H K:Int} {x y:Rat} (hx:B H x) (hy:B K y):B (H+K) (x*y):=by
 unfold B at *
 rw [p2_add]
 exact mul_abs_le hx hy
def odd0 (d:D):Prop:=(d.m=0→d.e=0)∧(d.m≠0→d.m % 2=1)
theorem WD.odd0 {d:D} (h:WD d):odd0 d:=by
 rcases h.1 with h1 | h1
 ·exact ⟨fun _=>h1.2,fun h=>absurd h1.1 h⟩
 ·exact ⟨fun h=>by omega,fun _=>h1.1⟩
theorem G_e {d:D} (ho:odd0 d) (h0:d.m≠0) {L:Int} (h:G L (val d)):L≤d.e:=by
 rcases (show L≤d.e∨d.e<L by omega) with h1 | h1
 ·exact h1
 ·exfalso
  obtain ⟨z,hz⟩:=h
  have hp:=p2_pos d.e
  have e1:(d.m:Rat)=((z*2 ^ (L-d.e).toNat:Int):Rat):=by
   unfold val at hz
   rw [p2_diff (show d.e≤L by omega),← Rat.mul_assoc,← Rat.intCast_mul] at hz
   have:=congrArg (· * (p2 d.e)⁻¹) hz
   simp only [Rat.mul_assoc] at this
   rw [Rat.mul_inv_cancel _ (by grind),Rat.mul_one,Rat.mul_one] at this
   exact this
  have e2:d.m=z*2 ^ (L-d.e).toNat:=by exact_mod_cast e1
  obtain ⟨k,hk⟩:∃ k,(L-d.e).toNat=k+1:=⟨(L-d.e).toNat-1,by omega⟩
  rw [hk,Int.pow_succ,← Int.mul_assoc] at e2
  have:=ho.2 h0
  omega
theorem negD_abs (d:D):(negD d).m.natAbs=d.m.natAbs:=by unfold negD; simp
theorem B_size {d:D} (h0:d.m≠0) {H:Int} (h:B H (val d)):d.e+(blen d.m.natAbs:Nat)≤H+1:=by
 rcases (show 0<d.m∨d.m<0 by omega) with h1 | h1
 ·have h2:=val_ge_size h1
  have h3:p2 (d.e+(blen d.m.natAbs:Nat)-1)≤p2 H:=by have:=h.2; grind
  have:=p2_le_iff.1 h3
  omega
 ·have h2:=val_ge_size (d:=negD d) (by show 0 < -d.m; omega)
  rw [val_neg,negD_abs] at h2
  have h4:(negD d).e=d.e:=rfl
  rw [h4] at h2
  have h3:p2 (d.e+(blen d.m.natAbs:Nat)-1)≤p2 H:=by have:=h.1; grind
  have:=p2_le_iff.1 h3
  omega
theorem inR_of {d:D} (ho:odd0 d) {L H:Int} (hG:G L (val d)) (hB:B H (val d)) (hL : -60000≤L) (hH:H≤60000):inR d=true:=by
 unfold inR
 by_cases h0:d.m=0
 ·simp [h0]
 ·have h1:=G_e ho h0 hG
  have h2:=B_size h0 hB
  have h3:=blen_pos (n:=d.m.natAbs) (by omega)
  have:(d.m == 0)=false:=by simp [h0]
  rw [this,Bool.false_or]
  exact decide_eq_true (by omega)
theorem tell_of {d:D} (h:inR d=true):tell d=(d,0):=by unfold tell; rw [if_pos h]
structure Okd (d:D) (L H:Int):Prop where
 w:WD d
 g:G L (val d)
 b:B H (val d)
theorem Okd.mono {d:D} {L H L' H':Int} (h:Okd d L H) (h1:L'≤L) (h2:H≤H'):Okd d L' H':=⟨h.w,h.g.mono h1,h.b.mono h2⟩
theorem Okd.neg {d:D} {L H:Int} (h:Okd d L H):Okd (negD d) L H:=⟨h.w.neg,by rw [val_neg]; exact h.g.neg,by rw [val_neg]; exact h.b.neg⟩
theorem Okd_z (L H:Int):Okd zD L H:=⟨WD_z,by rw [val_z]; exact G.zero L,by rw [val_z]; exact B.zero H⟩
theorem told_ok {d:D} (ho:odd0 d) {L H:Int} (hG:G L (val d)) (hB:B H (val d)) (hL : -60000≤L) (hH:H≤60000):tell d=(d,0)∧Okd d L H:=by
 have ht:=tell_of (inR_of ho hG hB hL hH)
 refine ⟨ht,⟨?_,hG,hB⟩⟩
 have:=WD_tell ho
 rw [ht] at this
 exact this
theorem add_ok {x y:D} {L H:Int} (hx:Okd x L H) (hy:Okd y L H) (hL : -60000≤L) (hH:H+1≤60000):∃ d,addD x y=(d,0)∧val d=val x+val y∧Okd d L (H+1):=by
 have hv:=val_sum x y
 obtain ⟨h1,h2⟩:=told_ok (d:=sumD x y) (L:=L) (H:=H+1) (sum_ok hx.w hy.w) (by rw [hv]; exact hx.g.add hy.g) (by rw [hv]; exact hx.b.add hy.b) hL hH
 exact ⟨sumD x y,h1,hv,h2⟩
theorem times_ok {x y:D} {L H M K:Int} (hx:Okd x L H) (hy:Okd y M K) (hL : -60000≤L+M) (hH:H+K≤60000):∃ d,timesD x y=(d,0)∧val d=val x*val y∧Okd d (L+M) (H+K):=by
 have hv:=val_mul x y
 obtain ⟨h1,h2⟩:=told_ok (d:=mulD x y) (L:=L+M) (H:=H+K) (nrm_ok _ _) (by rw [hv]; exact hx.g.mul hy.g) (by rw [hv]; exact hx.b.mul hy.b) hL hH
 exact ⟨mulD x y,h1,hv,h2⟩
theorem val_scale {x:D} {n:Int} : val ⟨x.m,x.e+n⟩=val x*p2 n:=by unfold val; simp only; rw [p2_add,Rat.mul_assoc]
theorem scale_ok {x:D} {L H n:Int} (hx:Okd x L H) (hL : -60000≤L+n) (hH:H+n≤60000):∃ d,scaleD x n=(d,0)∧val d=val x*p2 n∧Okd d (L+n) (H+n):=by
 unfold scaleD
 by_cases h:x.m=0
 ·rw [if_pos h]
  exact ⟨zD,rfl,by rw [val_z,val_zero_m h,Rat.zero_mul],Okd_z _ _⟩
 ·rw [if_neg h]
  have hv:=val_scale (x:=x) (n:=n)
  have hg:G (L+n) (val ⟨x.m,x.e+n⟩):=by
   rw [hv]; exact hx.g.mul ⟨1,by simp⟩
  have hb:B (H+n) (val ⟨x.m,x.e+n⟩):=by
   rw [hv]
   have:=hx.b
   unfold B at *
   rw [p2_add]
   have hp:=p2_pos n
   have h1:=Rat.mul_le_mul_of_nonneg_right this.1 (Rat.le_of_lt hp)
   have h2:=Rat.mul_le_mul_of_nonneg_right this.2 (Rat.le_of_lt hp)
   grind
  obtain ⟨h1,h2⟩:=told_ok (d:=⟨x.m,x.e+n⟩) ⟨fun h0=>absurd h0 h,fun _=>hx.w.odd0.2 h⟩ hg hb hL hH
  exact ⟨_,h1,hv,h2⟩
theorem rnd_G {x:D} {L:Int} (ho:odd0 x) (h:G L (val x)) (p:Nat) (up:Bool):G L (val (rnd x p up)):=by
 unfold rnd
 rw [val_cut]
 by_cases h0:x.m=0
 ·have:∀ b,cutN (x.m).natAbs false p b=0:=by intro b; rw [h0]; unfold cutN; simp
  rw [this]
  have:sg (decide (x.m<0)) 0=0:=by rw [sg_zero]
  rw [this]
  simp
  exact G.zero L
 ·have:=G_e ho h0 h
  exact G.of (by omega)
theorem rep_p2 (p:Nat) (H:Int):rep p (p2 H):=⟨1,H,by simp,by have:=Nat.pow_pos (n:=p) (show 0<2 by decide); simp; omega⟩
theorem rnd_B {x:D} {H:Int} (h:B H (val x)) {p:Nat} (hp:1≤p) (up:Bool):B H (val (rnd x p up)):=by
 have h1:=rnd_down x p
 have h2:=rnd_up x p
 cases up with
 | false=>
  have:=rnd_best hp (rep_neg (rep_p2 p H)) h.1
  exact ⟨this,by have:=h.2; grind⟩
 | true=>
  have:=rnd_best_up hp (rep_p2 p H) h.2
  exact ⟨by have:=h.1; grind,this⟩
theorem round_ok {x:D} {L H:Int} (hx:Okd x L H) {p:Nat} (hp:1≤p) (up:Bool) (hL : -60000≤L) (hH:H≤60000):roundD x p up=(rnd x p up,0)∧Okd (rnd x p up) L H:=by
 rw [roundD_eq]
 exact told_ok (nrm_ok _ _) (rnd_G hx.w.odd0 hx.g p up) (rnd_B hx.b hp up) hL hH
structure OkI (a:I) (L H:Int):Prop where
 lo:Okd a.lo L H
 hi:Okd a.hi L H
 le:val a.lo≤val a.hi
theorem OkI.ok {a:I} {L H:Int} (h:OkI a L H):okI a:=⟨h.lo.w,h.hi.w,h.le⟩
theorem OkI.mono {a:I} {L H L' H':Int} (h:OkI a L H) (h1:L'≤L) (h2:H≤H'):OkI a L' H':=⟨h.lo.mono h1 h2,h.hi.mono h1 h2,h.le⟩
theorem OkI.neg {a:I} {L H:Int} (h:OkI a L H):OkI (negI a) L H:=⟨h.hi.neg,h.lo.neg,(okI_neg h.ok).2.2⟩
structure Enc (p:Nat) (c:I) (u v:Rat):Prop where
 lo:val c.lo≤u
 hi:v≤val c.hi
 blo:∀ q,rep p q→q≤u→q≤val c.lo
 bhi:∀ q,rep p q→v≤q→val c.hi≤q
 rlo:rep p (val c.lo)
 rhi:rep p (val c.hi)
theorem enc_of {x y:D} {p:Nat} (hp:1≤p) {u v:Rat} (hx:val x=u) (hy:val y=v):Enc p ⟨rnd x p false,rnd y p true⟩ u v:=by
 subst hx; subst hy
 exact ⟨rnd_down x p,rnd_up y p,fun q h1 h2=>rnd_best hp h1 h2,fun q h1 h2=>rnd_best_up hp h1 h2,rnd_rep _ _ _,rnd_rep _ _ _⟩
theorem two_ok {x y:D} {L H:Int} (hx:Okd x L H) (hy:Okd y L H) (hle:val x≤val y) {p:Nat} (hp:1≤p) (hL : -60000≤L) (hH:H≤60000) :
  ∃ c,(bindE (roundD x p false) zI fun lo=>bindE (roundD y p true) zI fun hi=>((⟨lo,hi⟩:I),0))=(c,0)∧OkI c L H∧Enc p c (val x) (val y):=by
 obtain ⟨r1,o1⟩:=round_ok hx hp false hL hH
 obtain ⟨r2,o2⟩:=round_ok hy hp true hL hH
 refine ⟨⟨rnd x p false,rnd y p true⟩,?_,⟨o1,o2,?_⟩,enc_of hp rfl rfl⟩
 ·rw [r1,bindE_ok rfl,r2,bindE_ok rfl]
 ·have h1:=rnd_down x p
  have h2:=rnd_up y p
  show val (rnd x p false)≤val (rnd y p true)
  grind
theorem addI_ok {a b:I} {L H:Int} (ha:OkI a L H) (hb:OkI b L H) {p:Nat} (hp:1≤p) (hL : -60000≤L) (hH:H+1≤60000) :
  ∃ c,addI p a b=(c,0)∧OkI c L (H+1)∧Enc p c (val a.lo+val b.lo) (val a.hi+val b.hi):=by
 obtain ⟨s,s1,s2,s3⟩:=add_ok ha.lo hb.lo hL hH
 obtain ⟨t,t1,t2,t3⟩:=add_ok ha.hi hb.hi hL hH
 have h1:=ha.le
 have h2:=hb.le
 obtain ⟨c,c1,c2,c3⟩:=two_ok s3 t3 (by grind) hp hL hH
 refine ⟨c,?_,c2,by rw [← s2,← t2]; exact c3⟩
 unfold addI
 rw [s1,bindE_ok rfl,t1,← c1]
 congr 1
theorem outI_ok {a:I} {L H:Int} (ha:OkI a L H) {p:Nat} (hp:1≤p) (hL : -60000≤L) (hH:H≤60000) :
  ∃ c,outI p a=(c,0)∧OkI c L H∧Enc p c (val a.lo) (val a.hi):=two_ok ha.lo ha.hi ha.le hp hL hH
theorem wideI_ok {a:I} {L H:Int} (ha:OkI a L H) {d:D} (hd:Okd d L H) (hd0:0≤val d) {p:Nat} (hp:1≤p) (hL : -60000≤L) (hH:H+1≤60000) :
  ∃ c,wideI p a d=(c,0)∧OkI c L (H+1)∧Enc p c (val a.lo-val d) (val a.hi+val d):=by
 obtain ⟨s,s1,s2,s3⟩:=add_ok ha.lo hd.neg hL hH
 obtain ⟨t,t1,t2,t3⟩:=add_ok ha.hi hd hL hH
 rw [val_neg] at s2
 have h1:=ha.le
 obtain ⟨c,c1,c2,c3⟩:=two_ok s3 t3 (by grind) hp hL hH
 refine ⟨c,?_,c2,by rw [← t2,show val a.lo-val d=val s by rw [s2]; grind]; exact c3⟩
 unfold wideI
 rw [s1,bindE_ok rfl,t1,← c1]
 congr 1
theorem minD_Ok {x y:D} {L H:Int} (hx:Okd x L H) (hy:Okd y L H):Okd (minD x y) L H:=by unfold minD; split<;>assumption
theorem maxD_Ok {x y:D} {L H:Int} (hx:Okd x L H) (hy:Okd y L H):Okd (maxD x y) L H:=by unfold maxD; split<;>assumption
theorem min4_le (a b c d:D):val (min4 a b c d)≤val a∧val (min4 a b c d)≤val b∧val (min4 a b c d)≤val c∧val (min4 a b c d)≤val d:=by
 have h1:=minD_le a b
 have h2:=minD_le (minD a b) c
 have h3:=minD_le (minD (minD a b) c) d
 unfold min4
 grind
theorem max4_ge (a b c d:D):val a≤val (max4 a b c d)∧val b≤val (max4 a b c d)∧val c≤val (max4 a b c d)∧val d≤val (max4 a b c d):=by
 have h1:=maxD_ge a b
 have h2:=maxD_ge (maxD a b) c
 have h3:=maxD_ge (maxD (maxD a b) c) d
 unfold max4
 grind
theorem min4_mem (a b c d:D):val (min4 a b c d)=val a∨val (min4 a b c d)=val b∨val (min4 a b c d)=val c∨val (min4 a b c d)=val d:=by
 unfold min4
 rcases minD_val (minD (minD a b) c) d with h | h
 ·rw [h.1]
  rcases minD_val (minD a b) c with h | h
  ·rw [h.1]
   rcases minD_val a b with h | h
   ·rw [h.1]; left; rfl
   ·rw [h.1]; right; left; rfl
  ·rw [h.1]; right; right; left; rfl
 ·rw [h.1]; right; right; right; rfl
theorem max4_mem (a b c d:D):val (max4 a b c d)=val a∨val (max4 a b c d)=val b∨val (max4 a b c d)=val c∨val (max4 a b c d)=val d:=by
 unfold max4
 rcases maxD_val (maxD (maxD a b) c) d with h | h
 ·rw [h.1]
  rcases maxD_val (maxD a b) c with h | h
  ·rw [h.1]
   rcases maxD_val a b with h | h
   ·rw [h.1]; left; rfl
   ·rw [h.1]; right; left; rfl
  ·rw [h.1]; right; right; left; rfl
 ·rw [h.1]; right; right; right; rfl
structure Prod (a b:I) (u v:Rat):Prop where
 h1:u≤val a.lo*val b.lo∧val a.lo*val b.lo≤v
 h2:u≤val a.lo*val b.hi∧val a.lo*val b.hi≤v
 h3:u≤val a.hi*val b.lo∧val a.hi*val b.lo≤v
 h4:u≤val a.hi*val b.hi∧val a.hi*val b.hi≤v
 mu:u=val a.lo*val b.lo∨u=val a.lo*val b.hi∨u=val a.hi*val b.lo∨u=val a.hi*val b.hi
 mv:v=val a.lo*val b.lo∨v=val a.lo*val b.hi∨v=val a.hi*val b.lo∨v=val a.hi*val b.hi
theorem mulI_ok {a b:I} {L H M K:Int} (ha:OkI a L H) (hb:OkI b M K) {p:Nat} (hp:1≤p) (hL : -60000≤L+M) (hH:H+K≤60000) :
  ∃ c u v,mulI p a b=(c,0)∧OkI c (L+M) (H+K)∧Enc p c u v∧Prod a b u v:=by
 obtain ⟨q1,e1,v1,o1⟩:=times_ok ha.lo hb.lo hL hH
 obtain ⟨q2,e2,v2,o2⟩:=times_ok ha.lo hb.hi hL hH
 obtain ⟨q3,e3,v3,o3⟩:=times_ok ha.hi hb.lo hL hH
 obtain ⟨q4,e4,v4,o4⟩:=times_ok ha.hi hb.hi hL hH
 have m1:=min4_le q1 q2 q3 q4
 have m2:=max4_ge q1 q2 q3 q4
 have omin:Okd (min4 q1 q2 q3 q4) (L+M) (H+K):=minD_Ok (minD_Ok (minD_Ok o1 o2) o3) o4
 have omax:Okd (max4 q1 q2 q3 q4) (L+M) (H+K):=maxD_Ok (maxD_Ok (maxD_Ok o1 o2) o3) o4
 obtain ⟨c,c1,c2,c3⟩:=two_ok omin omax (by grind) hp hL hH
 refine ⟨c,_,_,?_,c2,c3,?_⟩
 ·unfold mulI four4
  rw [e1,bindE_ok rfl,e2,bindE_ok rfl,e3,bindE_ok rfl,e4,bindE_ok rfl]
  exact c1
 ·have n1:=min4_mem q1 q2 q3 q4
  have n2:=max4_mem q1 q2 q3 q4
  rw [v1,v2,v3,v4] at *
  exact ⟨⟨m1.1,m2.1⟩,⟨m1.2.1,m2.2.1⟩,⟨m1.2.2.1,m2.2.2.1⟩,⟨m1.2.2.2,m2.2.2.2⟩,n1,n2⟩
theorem line_le {l h x y q:Rat} (h1:l≤x) (h2:x≤h) (h3:q≤l*y) (h4:q≤h*y):q≤x*y:=by
 rcases (show 0≤y∨y≤0 by grind) with hy | hy
 ·have:=Rat.mul_le_mul_of_nonneg_right h1 hy; grind
 ·have:=Rat.mul_le_mul_of_nonneg_right h2 (show 0 ≤ -y by grind); grind
theorem line_ge {l h x y q:Rat} (h1:l≤x) (h2:x≤h) (h3:l*y≤q) (h4:h*y≤q):x*y≤q:=by
 rcases (show 0≤y∨y≤0 by grind) with hy | hy
 ·have:=Rat.mul_le_mul_of_nonneg_right h2 hy; grind
 ·have:=Rat.mul_le_mul_of_nonneg_right h1 (show 0 ≤ -y by grind); grind
instance:DecidableEq I:=fun x y=>
 if h:x.lo=y.lo∧x.hi=y.hi then isTrue (by cases x; cases y; simp only at h; rw [h.1,h.2]) else isFalse (fun e=>h (by rw [e]; exact ⟨rfl,rfl⟩))
theorem wf_i64 {a:Int} (h:(Lit.int .i64 a).wf=true) : -9223372036854775808≤a∧a≤9223372036854775807:=by
 simp [Lit.wf,IntKind.min,IntKind.max,IntKind.signed,IntKind.bits] at h
 omega
theorem ivNew_eq {p:Nat} (hp:2≤p∧p≤400):iv_New (p:Int)=some (Sum.inr (0,0,(p:Int))):=by
 unfold iv_New iv_New_j1
 rw [if_neg (by omega),if_neg (by simp; omega)]
theorem wrap_low (a:Int) (h : -9223372036854775808≤a∧a<0):IntKind.i64.wrap (0-IntKind.i64.wrap (a+1))=((-(a+1)).toNat:Int):=by
 rw [w64 (x:=a+1) (by omega) (by omega),w64 (by omega) (by omega)]; omega
theorem p2_half:p2 (-1)=1 / 2:=by
 have h:=p2_add (-1) 1
 rw [show (-1:Int)+1=0 by decide,p2_zero,show (1:Int)=((1:Nat):Int) by rfl,p2_nat] at h
 have:((2 ^ 1:Nat):Rat)=2:=by rfl
 rw [this] at h
 grind
theorem okI_int {n:Int} (hn : -9223372036854775808≤n∧n≤9223372036854775807):okI (intI n):=okI_point (WD_from hn)
theorem div_of_mul {a b z:Rat} (hb:b≠0) (h:z*b=a):a / b=z:=by
 rw [Rat.div_def,← h,Rat.mul_assoc,Rat.mul_inv_cancel _ hb,Rat.mul_one]
theorem mul_of_div {a b:Rat} (hb:b≠0):a / b*b=a:=by
 rw [Rat.div_def,Rat.mul_assoc,Rat.inv_mul_cancel _ hb,Rat.mul_one]
theorem cutN_rough (m:Nat) (s:Bool) (p:Nat) (away:Bool) (hp:1≤p):cutN m s p away*2 ^ (blen m-p)≤2*m+1:=by
 unfold cutN
 have h1:=Nat.div_mul_le_self m (2 ^ (blen m-p))
 have h2:2 ^ (blen m-p)≤m+1:=by
  by_cases h0:m=0
  ·subst h0; rw [blen_zero]; simp
  ·have:=blen_le h0
   have h3:2 ^ (blen m-p)≤2 ^ (blen m-1):=Nat.pow_le_pow_right (by decide) (by omega)
   omega
 rw [Nat.add_mul]
 split
 ·rw [Nat.one_mul]; omega
 ·omega
theorem cut_rough (m:Nat) (e:Int) (s:Bool) (p:Nat) (away:Bool) (hp:1≤p):((cutN m s p away:Nat):Rat)*p2 (e+(blen m-p:Nat))≤((2*m+1:Nat):Rat)*p2 e:=by
 rw [p2_split,← Rat.mul_assoc,← Rat.natCast_mul,mul_le_iff (p2_pos e)]
 exact natCast_le (cutN_rough m s p away hp)
theorem cut_nonneg (m:Nat) (e:Int) (s:Bool) (p:Nat) (away:Bool):0≤((cutN m s p away:Nat):Rat)*p2 (e+(blen m-p:Nat)):=Rat.mul_nonneg (natCast_nonneg _) (Rat.le_of_lt (p2_pos _))
theorem ratio {v Y:Nat} (hY:Y≠0):((v / Y:Nat):Rat)≤(v:Rat) / (Y:Rat)∧(v:Rat) / (Y:Rat)≤((v / Y+(if (v % Y != 0) then 1 else 0):Nat):Rat):=by
 have hp:(0:Rat)<(Y:Rat):=by exact_mod_cast Nat.pos_of_ne_zero hY
 have hm:=mul_of_div (a:=(v:Rat)) (b:=(Y:Rat)) (by grind)
 have h1:=Nat.div_add_mod v Y
 have h2:=Nat.mod_lt v (Nat.pos_of_ne_zero hY)
 constructor
 ·rw [← mul_le_iff hp,hm,← Rat.natCast_mul]
  exact natCast_le (Nat.div_mul_le_self _ _)
 ·rw [← mul_le_iff hp,hm,← Rat.natCast_mul]
  apply natCast_le
  by_cases h:v % Y=0
  ·have e:(v % Y != 0)=false:=by simpa using h
   rw [e]; simp; rw [Nat.mul_comm]; omega
  ·have e:(v % Y != 0)=true:=by simpa using h
   rw [e,if_pos rfl,Nat.add_mul,Nat.one_mul,Nat.mul_comm (v / Y) Y]; omega
theorem abs_le_p2 {d:D} {H:Int} (h:B H (val d)):(d.m.natAbs:Rat)*p2 d.e≤p2 H:=by
 by_cases hx:d.m<0
 ·have:=val_abs_neg hx; have:=h.1; grind
 ·have:=val_abs_pos hx; have:=h.2; grind
theorem div_ok {x y:D} {L H M K:Int} (hx:Okd x L H) (hy:Okd y M K) (hy0:val y≠0) {p:Nat} (hp:1≤p) (up:Bool) (hL : -60000≤L-K-p-2) (hH:H-M+2≤60000) :
  ∃ d,divD x y p up=(d,0)∧Okd d (L-K-p-2) (H-M+2)∧(up=false→val d≤val x / val y)∧(up=true→val x / val y≤val d):=by
 have hym:y.m≠0:=fun h=>hy0 (val_zero_m h)
 unfold divD
 rw [if_neg hym]
 by_cases hxm:x.m=0
 ·rw [if_pos hxm]
  have:val x / val y=0:=div_of_mul hy0 (by rw [val_zero_m hxm,Rat.zero_mul])
  rw [this]
  exact ⟨zD,rfl,Okd_z _ _,fun _=>by rw [val_z]; exact Rat.le_refl,fun _=>by rw [val_z]; exact Rat.le_refl⟩
 rw [if_neg hxm]
 have gx:=G_e hx.w.odd0 hxm hx.g
 have gy:=G_e hy.w.odd0 hym hy.g
 have sx:=B_size hxm hx.b
 have sy:=B_size hym hy.b
 have bx:=blen_pos (n:=x.m.natAbs) (by omega)
 have b_y:=blen_pos (n:=y.m.natAbs) (by omega)
 have ax:=abs_le_p2 hx.b
 have hX0:x.m.natAbs≠0:=by omega
 have hY0:y.m.natAbs≠0:=by omega
 have hbv:=blen_shl hX0 (p+2+blen y.m.natAbs-blen x.m.natAbs)
 have hkE:L-K-p-2≤x.e-y.e-(p+2+blen y.m.natAbs-blen x.m.natAbs:Nat):=by omega
 have hkb:blen y.m.natAbs<blen (x.m.natAbs*2 ^ (p+2+blen y.m.natAbs-blen x.m.natAbs)):=by omega
 generalize p+2+blen y.m.natAbs-blen x.m.natAbs=k at *
 generalize hE:x.e-y.e-(k:Int)=E at *
 have hYle:p2 M≤(y.m.natAbs:Rat)*p2 y.e:=by
  have h1:=p2_le gy
  have h2:(1:Rat)≤(y.m.natAbs:Rat):=by exact_mod_cast (show 1≤y.m.natAbs by omega)
  have h3:=Rat.mul_le_mul_of_nonneg_right h2 (Rat.le_of_lt (p2_pos y.e))
  grind
 have hvx:((x.m.natAbs*2 ^ k:Nat):Rat)*p2 (x.e-k)=(x.m.natAbs:Rat)*p2 x.e:=by
  rw [Rat.natCast_mul,Rat.mul_assoc,← p2_split]; congr 2; omega
 generalize hv:x.m.natAbs*2 ^ k=v at *
 have hr:=ratio (v:=v) hY0
 have hq1:1≤v / y.m.natAbs:=by
  rw [Nat.le_div_iff_mul_le (by omega),Nat.one_mul]
  rcases Nat.lt_or_ge v y.m.natAbs with h | h
  ·have:=blen_mono (Nat.le_of_lt h); omega
  ·exact h
 have hYp:(0:Rat)<(y.m.natAbs:Rat):=by exact_mod_cast Nat.pos_of_ne_zero hY0
 have hQ:(v:Rat) / (y.m.natAbs:Rat)*p2 E*((y.m.natAbs:Rat)*p2 y.e)=(x.m.natAbs:Rat)*p2 x.e:=by
  have e1:=mul_of_div (a:=(v:Rat)) (b:=(y.m.natAbs:Rat)) (by grind)
  have e2:p2 E*p2 y.e=p2 (x.e-k):=by rw [← p2_add]; congr 1; omega
  calc (v:Rat) / (y.m.natAbs:Rat)*p2 E*((y.m.natAbs:Rat)*p2 y.e)=((v:Rat) / (y.m.natAbs:Rat)*(y.m.natAbs:Rat))*(p2 E*p2 y.e):=by grind
   _=(x.m.natAbs:Rat)*p2 x.e:=by rw [e1,e2,hvx]
 have hpE:=p2_pos E
 have hlo:=cut_lo (v / y.m.natAbs) E (v % y.m.natAbs != 0) p
 have hhi:=cut_hi (v / y.m.natAbs) E (v % y.m.natAbs != 0) p
 have hro:=fun away=>cut_rough (v / y.m.natAbs) E (v % y.m.natAbs != 0) p away hp
 have hnn:=fun away=>cut_nonneg (v / y.m.natAbs) E (v % y.m.natAbs != 0) p away
 have r1:=Rat.mul_le_mul_of_nonneg_right hr.1 (Rat.le_of_lt hpE)
 have r2:=Rat.mul_le_mul_of_nonneg_right hr.2 (Rat.le_of_lt hpE)
 have hq1':(1:Rat)≤((v / y.m.natAbs:Nat):Rat):=by exact_mod_cast hq1
 have r3:=Rat.mul_le_mul_of_nonneg_right hq1' (Rat.le_of_lt hpE)
 have hQle:(v:Rat) / (y.m.natAbs:Rat)*p2 E≤p2 (H-M):=by
  have hQ0:0≤(v:Rat) / (y.m.natAbs:Rat)*p2 E:=by grind
  have h1:=Rat.mul_le_mul_of_nonneg_left hYle hQ0
  rw [hQ] at h1
  have h2:p2 (H-M)*p2 M=p2 H:=by rw [← p2_add]; congr 1; omega
  rw [← mul_le_iff (p2_pos M),h2]
  grind
 have hcast:((2*(v / y.m.natAbs)+1:Nat):Rat)=2*((v / y.m.natAbs:Nat):Rat)+1:=by
  rw [Rat.natCast_add,Rat.natCast_mul]; rfl
 rw [hcast] at hro
 generalize hQv:(v:Rat) / (y.m.natAbs:Rat)*p2 E=Q at *
 have h2s:p2 (H-M+2)=4*p2 (H-M):=by rw [show H-M+2=H-M+1+1 by omega,p2_succ,p2_succ]; grind
 have hB:∀ neg away,B (H-M+2) (val (cutD neg (v / y.m.natAbs) E (v % y.m.natAbs != 0) p away)):=by
  intro neg away
  rw [val_cut]
  have h1:=hro away
  have h2:=hnn away
  unfold B
  rw [h2s]
  cases neg with
  | true=>rw [sg_neg_cast,Rat.neg_mul]; constructor<;>grind
  | false=>rw [sg_pos_cast]; constructor<;>grind
 have hG:∀ neg away,G (L-K-p-2) (val (cutD neg (v / y.m.natAbs) E (v % y.m.natAbs != 0) p away)):=by
  intro neg away
  rw [val_cut]
  exact G.of (by omega)
 obtain ⟨t1,t2⟩:=told_ok (d:=cutD (decide (x.m<0) != decide (y.m<0)) (v / y.m.natAbs) E (v % y.m.natAbs != 0) p (up != (decide (x.m<0) != decide (y.m<0)))) (nrm_ok _ _) (hG _ _) (hB _ _) hL hH
 refine ⟨_,t1,t2,?_⟩
 rw [val_cut]
 have hsgn:val x / val y=if (decide (x.m<0) != decide (y.m<0))=true then -Q else Q:=by
  apply div_of_mul hy0
  by_cases h1:x.m<0<;>by_cases h2:y.m<0
  ·rw [val_abs_neg h1,val_abs_neg h2,if_neg (by simp [h1,h2])]; grind
  ·rw [val_abs_neg h1,val_abs_pos h2,if_pos (by simp [h1,h2])]; grind
  ·rw [val_abs_pos h1,val_abs_neg h2,if_pos (by simp [h1,h2])]; grind
  ·rw [val_abs_pos h1,val_abs_pos h2,if_neg (by simp [h1,h2])]; grind
 rw [hsgn]
 generalize (decide (x.m<0) != decide (y.m<0))=neg
 cases neg with
 | true=>
  rw [if_pos rfl,sg_neg_cast,Rat.neg_mul]
  constructor
  ·rintro rfl
   have:(false != true)=true:=rfl
   rw [this]
   grind
  ·rintro rfl
   have:(true != true)=false:=rfl
   rw [this]
   grind
 | false=>
  rw [if_neg (by simp),sg_pos_cast]
  constructor
  ·rintro rfl
   have:(false != false)=false:=rfl
   rw [this]
   grind
  ·rintro rfl
   have:(true != false)=true:=rfl
   rw [this]
   grind
theorem sq_le {a b:Rat} (ha:0≤a) (hb:0≤b) (h:a*a≤b*b):a≤b:=by
 by_cases h1:a≤b
 ·exact h1
 ·have h2:=Rat.mul_lt_mul_of_pos_right (show b<a by grind) (show 0<a by grind)
  have h3:=Rat.mul_le_mul_of_nonneg_left (show b≤a by grind) hb
  grind
theorem inv_anti {l y:Rat} (h:0<l*y) (hle:l≤y):y⁻¹≤l⁻¹:=by
 have hl:l≠0:=by intro h0; rw [h0] at h; simp at h
 have hy:y≠0:=by intro h0; rw [h0] at h; simp at h
 rw [← mul_le_iff h]
 have e1:y⁻¹*(l*y)=l:=by
  rw [Rat.mul_comm l y,← Rat.mul_assoc,Rat.inv_mul_cancel _ hy,Rat.one_mul]
 have e2:l⁻¹*(l*y)=y:=by
  rw [← Rat.mul_assoc,Rat.inv_mul_cancel _ hl,Rat.one_mul]
 rw [e1,e2]; exact hle
theorem mul_pos_of {a b:Rat} (h:(0<a∧0<b)∨(a<0∧b<0)):0<a*b:=by
 rcases h with h | h
 ·exact Rat.mul_pos h.1 h.2
 ·have:=Rat.mul_pos (show 0 < -a by grind) (show 0 < -b by grind)
  grind
theorem has_zero {b:I} (h:hasI b zD=false):0<val b.lo∨val b.hi<0:=by
 have h1:=mt (hasI_iff b zD).2 (by rw [h]; simp)
 rw [val_z] at h1
 by_cases h2:val b.lo≤0
 ·right; by_cases h3:0≤val b.hi
  ·exact absurd ⟨h2,h3⟩ h1
  ·grind
 ·left; grind
theorem divI_ok {a b:I} {L H M K:Int} (ha:OkI a L H) (hb:OkI b M K) (hz:hasI b zD=false) {p:Nat} (hp:1≤p) (hL : -60000≤L-K-p-2) (hH:H-M+2≤60000) :
  ∃ c,divI p a b=(c,0)∧OkI c (L-K-p-2) (H-M+2)∧∀ x y:Rat,val a.lo≤x→x≤val a.hi→val b.lo≤y→y≤val b.hi→val c.lo≤x / y∧x / y≤val c.hi:=by
 have hs:=has_zero hz
 have hble:=hb.le
 have hale:=ha.le
 have nl:val b.lo≠0:=by grind
 have nh:val b.hi≠0:=by grind
 obtain ⟨q1,e1,o1,d1,-⟩:=div_ok ha.lo hb.lo nl hp false hL hH
 obtain ⟨q2,e2,o2,d2,-⟩:=div_ok ha.lo hb.hi nh hp false hL hH
 obtain ⟨q3,e3,o3,d3,-⟩:=div_ok ha.hi hb.lo nl hp false hL hH
 obtain ⟨q4,e4,o4,d4,-⟩:=div_ok ha.hi hb.hi nh hp false hL hH
 obtain ⟨r1,f1,u1,-,c1⟩:=div_ok ha.lo hb.lo nl hp true hL hH
 obtain ⟨r2,f2,u2,-,c2⟩:=div_ok ha.lo hb.hi nh hp true hL hH
 obtain ⟨r3,f3,u3,-,c3⟩:=div_ok ha.hi hb.lo nl hp true hL hH
 obtain ⟨r4,f4,u4,-,c4⟩:=div_ok ha.hi hb.hi nh hp true hL hH
 have d1:=d1 rfl
 have d2:=d2 rfl
 have d3:=d3 rfl
 have d4:=d4 rfl
 have c1:=c1 rfl
 have c2:=c2 rfl
 have c3:=c3 rfl
 have c4:=c4 rfl
 have m1:=min4_le q1 q2 q3 q4
 have m2:=max4_ge r1 r2 r3 r4
 have omin:Okd (min4 q1 q2 q3 q4) (L-K-p-2) (H-M+2):=minD_Ok (minD_Ok (minD_Ok o1 o2) o3) o4
 have omax:Okd (max4 r1 r2 r3 r4) (L-K-p-2) (H-M+2):=maxD_Ok (maxD_Ok (maxD_Ok u1 u2) u3) u4
 refine ⟨⟨min4 q1 q2 q3 q4,max4 r1 r2 r3 r4⟩,?_,⟨omin,omax,?_⟩,?_⟩
 ·unfold divI four4
  rw [hz,if_neg (by simp)]
  simp only [e1,e2,e3,e4,f1,f2,f3,f4]
  rfl
 ·show val (min4 q1 q2 q3 q4)≤val (max4 r1 r2 r3 r4)
  grind
 ·intro x y hx1 hx2 hy1 hy2
  show val (min4 q1 q2 q3 q4)≤x / y∧x / y≤val (max4 r1 r2 r3 r4)
  generalize val (min4 q1 q2 q3 q4)=u at *
  generalize val (max4 r1 r2 r3 r4)=v at *
  rw [Rat.div_def] at d1 d2 d3 d4 c1 c2 c3 c4 ⊢
  have i1:y⁻¹≤(val b.lo)⁻¹:=inv_anti (mul_pos_of (by grind)) hy1
  have i2:(val b.hi)⁻¹≤y⁻¹:=inv_anti (mul_pos_of (by grind)) hy2
  have c:∀ s t:Rat,s*t=t*s:=fun s t=>Rat.mul_comm s t
  have l1:u≤val a.lo*y⁻¹:=by rw [c]; exact line_le i2 i1 (by rw [c]; grind) (by rw [c]; grind)
  have l2:u≤val a.hi*y⁻¹:=by rw [c]; exact line_le i2 i1 (by rw [c]; grind) (by rw [c]; grind)
  have l3:val a.lo*y⁻¹≤v:=by rw [c]; exact line_ge i2 i1 (by rw [c]; grind) (by rw [c]; grind)
  have l4:val a.hi*y⁻¹≤v:=by rw [c]; exact line_ge i2 i1 (by rw [c]; grind) (by rw [c]; grind)
  exact ⟨line_le hx1 hx2 l1 l2,line_ge hx1 hx2 l3 l4⟩
theorem divI_zero {b:I} (h:hasI b zD=true) (p:Nat) (a:I):divI p a b=(zI,3):=by
 unfold divI; rw [if_pos h]
theorem inI_true {a b:I} (h1:val b.lo≤val a.lo) (h2:val a.hi≤val b.hi) (h3:val a.lo≤val a.hi):inI a b=true:=by
 unfold inI
 rw [Bool.and_eq_true]
 exact ⟨(hasI_iff b a.lo).2 ⟨h1,by grind⟩,(hasI_iff b a.hi).2 ⟨by grind,h2⟩⟩
theorem Enc.sub {p:Nat} {c d:I} {u v u' v':Rat} (hc:Enc p c u v) (hd:Enc p d u' v') (h1:u'≤u) (h2:v≤v'):val d.lo≤val c.lo∧val c.hi≤val d.hi:=by
 constructor
 ·refine hc.blo _ hd.rlo ?_
  have:=hd.lo; grind
 ·refine hc.bhi _ hd.rhi ?_
  have:=hd.hi; grind
theorem scaleI_ok {a:I} {L H n:Int} (ha:OkI a L H) (hL : -60000≤L+n) (hH:H+n≤60000):∃ c,scaleI a n=(c,0)∧OkI c (L+n) (H+n)∧val c.lo=val a.lo*p2 n∧val c.hi=val a.hi*p2 n:=by
 obtain ⟨d,d1,d2,d3⟩:=scale_ok (n:=n) ha.lo hL hH
 obtain ⟨e,e1,e2,e3⟩:=scale_ok (n:=n) ha.hi hL hH
 refine ⟨⟨d,e⟩,?_,⟨d3,e3,?_⟩,d2,e2⟩
 ·unfold scaleI; rw [d1,bindE_ok rfl,e1,bindE_ok rfl]
 ·show val d≤val e
  rw [d2,e2]
  exact Rat.mul_le_mul_of_nonneg_right ha.le (Rat.le_of_lt (p2_pos n))
theorem rFrom_eq {a:Int} (h:0≤a) (h2:a<18446744073709551616):r01_From a=some (digs a.toNat):=by
 unfold r01_From
 have e1:shrI .u64 a 32=a / 4294967296:=by
  obtain ⟨n,rfl⟩:∃ n:Nat,a=n:=⟨a.toNat,by omega⟩
  rw [shr32n]; simp
 have hd:Dig [IntKind.u32.wrap a,IntKind.u32.wrap (shrI .u64 a 32)]:=by
  intro d hd
  simp only [List.mem_cons,List.not_mem_nil,or_false] at hd
  rcases hd with rfl | rfl<;>rw [wu32]<;>omega
 rw [rTrim_eq hd (by simp)]
 have e2:dval [IntKind.u32.wrap a,IntKind.u32.wrap (shrI .u64 a 32)]=a.toNat:=by
  simp only [dval,wu32,e1]
  omega
 rw [e2]; rfl
theorem rFrom4_eq {n:Int} (h : -9223372036854775808≤n∧n≤9223372036854775807):r04_From n=some (iOf n):=by
 unfold r04_From
 have hsz:SZ n.natAbs:=by
  have:blen n.natAbs≤64:=blen_le_of (by omega)
  unfold SZ; omega
 by_cases hn:n<0
 ·have e0:IntKind.i64.wrap (0-IntKind.i64.wrap (n+1)) = -(n+1):=by
   rw [w64 (x:=n+1) (by omega) (by omega),w64 (by omega) (by omega)]; omega
  have e:IntKind.u64.wrap (IntKind.u64.wrap (IntKind.i64.wrap (0-IntKind.i64.wrap (n+1)))+1)=((n.natAbs:Nat):Int):=by rw [e0]; simp only [wu64]; omega
  rw [if_pos hn,e,rFrom_eq (by omega) (by omega),Int.toNat_natCast]
  simp only [obn]
  rw [rMake_digs _ hsz]
  simp only [obn]
  congr 2
  unfold sg; simp; omega
 ·have e:IntKind.u64.wrap n=((n.natAbs:Nat):Int):=by simp only [wu64]; omega
  rw [if_neg hn,e,rFrom_eq (by omega) (by omega),Int.toNat_natCast]
  simp only [obn]
  rw [rMake_digs _ hsz]
  simp only [obn]
  congr 2
  unfold sg; simp; omega
theorem rFrom5_eq {n:Int} (h : -9223372036854775808≤n∧n≤9223372036854775807):r05_From n=some (dy (fromD n)):=by
 have hsz:SZ n.natAbs:=by
  have:blen n.natAbs≤64:=blen_le_of (by omega)
  unfold SZ; omega
 unfold r05_From
 rw [rFrom4_eq h]
 simp only [obn]
 rw [rnorm_iOf hsz (by omega)]
 rfl
theorem rHalf_eq {e:Int} (he : -60000≤e∧e≤60000):r05_Half e=some (dy ⟨1,e⟩):=by
 unfold r05_Half
 rw [rFrom4_eq (by omega)]
 simp only [obn]
 rw [rMake5_eq (by unfold SZ; decide) (by omega),half_make he]
 rfl
structure SI (a:I):Prop where
 ok:okI a
 lo:blen a.lo.m.natAbs≤1000
 hi:blen a.hi.m.natAbs≤1000
theorem SI_z:SI zI:=⟨okI_z,by decide,by decide⟩
theorem tell_ok' {d:D} (h:(tell d).2=0):(tell d).1=d:=by
 unfold tell at *
 by_cases h1:inR d=true
 ·rw [if_pos h1]
 ·rw [if_neg h1] at h; simp at h
theorem blen_le_pow {n p:Nat} (h:n≤2 ^ p):blen n≤p+1:=by
 have:=blen_mono h
 rwa [blen_pow] at this
theorem cutD_blen (neg:Bool) (m:Nat) (e:Int) (s:Bool) (p:Nat) (away:Bool):blen (cutD neg m e s p away).m.natAbs≤p+1:=by
 refine Nat.le_trans (nrm_blen _ _) ?_
 rw [sg_abs']
 exact blen_le_pow (cutN_le m s p away)
theorem tell_blen {d:D} {k:Nat} (h:blen d.m.natAbs≤k):blen (tell d).1.m.natAbs≤k:=by
 unfold tell
 split
 ·exact h
 ·show blen (0:Int).natAbs≤k
  simp [blen]
theorem round_blen (x:D) {p:Nat} (up:Bool):blen (roundD x p up).1.m.natAbs≤p+1:=tell_blen (cutD_blen _ _ _ _ _ _)
theorem round_dn {x:D} {p:Nat} (h:(roundD x p false).2=0):val (roundD x p false).1≤val x:=by
 rw [roundD_eq] at *; rw [tell_ok' h]; exact rnd_down x p
theorem round_upv {x:D} {p:Nat} (h:(roundD x p true).2=0):val x≤val (roundD x p true).1:=by
 rw [roundD_eq] at *; rw [tell_ok' h]; exact rnd_up x p
theorem SI_two {x y:D} (hle:val x≤val y) {p:Nat} (hp:p≤400):SI (bindE (roundD x p false) zI fun lo=>bindE (roundD y p true) zI fun hi=>((⟨lo,hi⟩:I),0)).1:=by
 by_cases h1:(roundD x p false).2=0
 ·rw [bindE_ok h1]
  by_cases h2:(roundD y p true).2=0
  ·rw [bindE_ok h2]
   have a1:=round_dn h1
   have a2:=round_upv h2
   have b1:=round_blen x (p:=p) false
   have b2:=round_blen y (p:=p) true
   exact ⟨⟨WD_round,WD_round,by show val (roundD x p false).1≤val (roundD y p true).1; grind⟩,by show blen (roundD x p false).1.m.natAbs≤1000; omega,by show blen (roundD y p true).1.m.natAbs≤1000; omega⟩
  ·rw [bindE_no h2]; exact SI_z
 ·rw [bindE_no h1]; exact SI_z
theorem add_val {x y:D} (h:(addD x y).2=0):val (addD x y).1=val x+val y:=by
 unfold addD at *; rw [tell_ok' h,val_sum]
theorem bind4 {s t:D × Int} {p:Nat} (h:s.2=0→t.2=0→val s.1≤val t.1) (hp:p≤400):SI (bindE s zI fun s=>bindE (roundD s p false) zI fun lo=>bindE t zI fun t=>bindE (roundD t p true) zI fun hi=>((⟨lo,hi⟩:I),0)).1:=by
 by_cases h1:s.2=0
 ·rw [bindE_ok h1]
  by_cases h2:t.2=0
  ·have:=SI_two (h h1 h2) hp
   by_cases h3:(roundD s.1 p false).2=0
   ·rw [bindE_ok h3] at this ⊢
    rw [bindE_ok h2]; exact this
   ·rw [bindE_no h3]; exact SI_z
  ·by_cases h3:(roundD s.1 p false).2=0
   ·rw [bindE_ok h3,bindE_no h2]; exact SI_z
   ·rw [bindE_no h3]; exact SI_z
 ·rw [bindE_no h1]; exact SI_z
theorem SI_add {a b:I} (ha:SI a) (hb:SI b) {p:Nat} (hp:p≤400):SI (addI p a b).1:=by
 refine bind4 (fun h1 h2=>?_) hp
 rw [add_val h1,add_val h2]
 have:=ha.ok.2.2
 have:=hb.ok.2.2
 grind
theorem SI_wide {a:I} (ha:SI a) {d:D} (hd:0≤val d) {p:Nat} (hp:p≤400):SI (wideI p a d).1:=by
 refine bind4 (fun h1 h2=>?_) hp
 rw [add_val h1,add_val h2,val_neg]
 have:=ha.ok.2.2
 grind
theorem SI_neg {a:I} (ha:SI a):SI (negI a):=⟨okI_neg ha.ok,by show blen (negD a.hi).m.natAbs≤1000; rw [negD_abs]; exact ha.hi,by show blen (negD a.lo).m.natAbs≤1000; rw [negD_abs]; exact ha.lo⟩
theorem SI_sub {a b:I} (ha:SI a) (hb:SI b) {p:Nat} (hp:p≤400):SI (subI p a b).1:=SI_add ha (SI_neg hb) hp
theorem SI_int {n:Int} (hn : -9223372036854775808≤n∧n≤9223372036854775807):SI (intI n):=by
 have hb:blen n.natAbs≤64:=blen_le_of (by omega)
 have h1:=nrm_blen n 0
 exact ⟨okI_int hn,by show blen (fromD n).m.natAbs≤1000; unfold fromD; omega,by show blen (fromD n).m.natAbs≤1000; unfold fromD; omega⟩
theorem SI_mul {a b:I} {p:Nat} (hp:p≤400):SI (mulI p a b).1:=by
 unfold mulI four4
 by_cases h1:(timesD a.lo b.lo).2=0
 ·rw [bindE_ok h1]
  by_cases h2:(timesD a.lo b.hi).2=0
  ·rw [bindE_ok h2]
   by_cases h3:(timesD a.hi b.lo).2=0
   ·rw [bindE_ok h3]
    by_cases h4:(timesD a.hi b.hi).2=0
    ·rw [bindE_ok h4]
     refine SI_two ?_ hp
     have m1:=min4_le (timesD a.lo b.lo).1 (timesD a.lo b.hi).1 (timesD a.hi b.lo).1 (timesD a.hi b.hi).1
     have m2:=max4_ge (timesD a.lo b.lo).1 (timesD a.lo b.hi).1 (timesD a.hi b.lo).1 (timesD a.hi b.hi).1
     grind
    ·rw [bindE_no h4]; exact SI_z
   ·rw [bindE_no h3]; exact SI_z
  ·rw [bindE_no h2]; exact SI_z
 ·rw [bindE_no h1]; exact SI_z
theorem div_dir {x y:D} (hy0:val y≠0) {p:Nat} (up:Bool) (h:(divD x y p up).2=0):(up=false→val (divD x y p up).1≤val x / val y)∧(up=true→val x / val y≤val (divD x y p up).1):=by
 have hym:y.m≠0:=fun h=>hy0 (val_zero_m h)
 unfold divD at *
 rw [if_neg hym] at h ⊢
 by_cases hxm:x.m=0
 ·rw [if_pos hxm]
  have:val x / val y=0:=div_of_mul hy0 (by rw [val_zero_m hxm,Rat.zero_mul])
  rw [this]
  exact ⟨fun _=>by rw [val_z]; exact Rat.le_refl,fun _=>by rw [val_z]; exact Rat.le_refl⟩
 rw [if_neg hxm] at h ⊢
 rw [tell_ok' h]
 have hX0:x.m.natAbs≠0:=by omega
 have hY0:y.m.natAbs≠0:=by omega
 generalize p+2+blen y.m.natAbs-blen x.m.natAbs=k at *
 generalize hE:x.e-y.e-(k:Int)=E at *
 have hvx:((x.m.natAbs*2 ^ k:Nat):Rat)*p2 (x.e-k)=(x.m.natAbs:Rat)*p2 x.e:=by
  rw [Rat.natCast_mul,Rat.mul_assoc,← p2_split]; congr 2; omega
 generalize hv:x.m.natAbs*2 ^ k=v at *
 have hr:=ratio (v:=v) hY0
 have hYp:(0:Rat)<(y.m.natAbs:Rat):=by exact_mod_cast Nat.pos_of_ne_zero hY0
 have hQ:(v:Rat) / (y.m.natAbs:Rat)*p2 E*((y.m.natAbs:Rat)*p2 y.e)=(x.m.natAbs:Rat)*p2 x.e:=by
  have e1:=mul_of_div (a:=(v:Rat)) (b:=(y.m.natAbs:Rat)) (by grind)
  have e2:p2 E*p2 y.e=p2 (x.e-k):=by rw [← p2_add]; congr 1; omega
  calc (v:Rat) / (y.m.natAbs:Rat)*p2 E*((y.m.natAbs:Rat)*p2 y.e)=((v:Rat) / (y.m.natAbs:Rat)*(y.m.natAbs:Rat))*(p2 E*p2 y.e):=by grind
   _=(x.m.natAbs:Rat)*p2 x.e:=by rw [e1,e2,hvx]
 have hpE:=p2_pos E
 have hlo:=cut_lo (v / y.m.natAbs) E (v % y.m.natAbs != 0) p
 have hhi:=cut_hi (v / y.m.natAbs) E (v % y.m.natAbs != 0) p
 have r1:=Rat.mul_le_mul_of_nonneg_right hr.1 (Rat.le_of_lt hpE)
 have r2:=Rat.mul_le_mul_of_nonneg_right hr.2 (Rat.le_of_lt hpE)
 generalize hQv:(v:Rat) / (y.m.natAbs:Rat)*p2 E=Q at *
 rw [val_cut]
 have hsgn:val x / val y=if (decide (x.m<0) != decide (y.m<0))=true then -Q else Q:=by
  apply div_of_mul hy0
  by_cases h1:x.m<0<;>by_cases h2:y.m<0
  ·rw [val_abs_neg h1,val_abs_neg h2,if_neg (by simp [h1,h2])]; grind
  ·rw [val_abs_neg h1,val_abs_pos h2,if_pos (by simp [h1,h2])]; grind
  ·rw [val_abs_pos h1,val_abs_neg h2,if_pos (by simp [h1,h2])]; grind
  ·rw [val_abs_pos h1,val_abs_pos h2,if_neg (by simp [h1,h2])]; grind
 rw [hsgn]
 generalize (decide (x.m<0) != decide (y.m<0))=neg
 cases neg with
 | true=>
  rw [if_pos rfl,sg_neg_cast,Rat.neg_mul]
  constructor
  ·rintro rfl
   have:(false != true)=true:=rfl
   rw [this]
   grind
  ·rintro rfl
   have:(true != true)=false:=rfl
   rw [this]
   grind
 | false=>
  rw [if_neg (by simp),sg_pos_cast]
  constructor
  ·rintro rfl
   have:(false != false)=false:=rfl
   rw [this]
   grind
  ·rintro rfl
   have:(true != false)=true:=rfl
   rw [this]
   grind
theorem div_blen (x y:D) (p:Nat) (up:Bool):blen (divD x y p up).1.m.natAbs≤p+1:=by
 unfold divD
 split
 ·show blen (0:Int).natAbs≤_; simp [blen]
 ·split
  ·show blen (0:Int).natAbs≤_; simp [blen]
  ·exact tell_blen (cutD_blen _ _ _ _ _ _)
theorem min4_blen {a b c d:D} {k:Nat} (ha:blen a.m.natAbs≤k) (hb:blen b.m.natAbs≤k) (hc:blen c.m.natAbs≤k) (hd:blen d.m.natAbs≤k):blen (min4 a b c d).m.natAbs≤k∧blen (max4 a b c d).m.natAbs≤k:=by
 have m:∀ x y:D,blen x.m.natAbs≤k→blen y.m.natAbs≤k→blen (minD x y).m.natAbs≤k:=by
  intro x y hx hy; unfold minD; split<;>assumption
 have M:∀ x y:D,blen x.m.natAbs≤k→blen y.m.natAbs≤k→blen (maxD x y).m.natAbs≤k:=by
  intro x y hx hy; unfold maxD; split<;>assumption
 exact ⟨m _ _ (m _ _ (m _ _ ha hb) hc) hd,M _ _ (M _ _ (M _ _ ha hb) hc) hd⟩
theorem SI_div {a b:I} (hb:okI b) {p:Nat} (hp:p≤400):SI (divI p a b).1:=by
 unfold divI
 by_cases hz:hasI b zD=true
 ·rw [if_pos hz]; exact SI_z
 rw [if_neg hz]
 have hz':hasI b zD=false:=by simpa using hz
 have hs:=has_zero hz'
 have hble:=hb.2.2
 have nl:val b.lo≠0:=by grind
 unfold four4
 by_cases h1:(divD a.lo b.lo p false).2=0
 ·rw [bindE_ok h1]
  by_cases h2:(divD a.lo b.hi p false).2=0
  ·rw [bindE_ok h2]
   by_cases h3:(divD a.hi b.lo p false).2=0
   ·rw [bindE_ok h3]
    by_cases h4:(divD a.hi b.hi p false).2=0
    ·rw [bindE_ok h4]
     simp only
     by_cases k1:(divD a.lo b.lo p true).2=0
     ·rw [bindE_ok k1]
      by_cases k2:(divD a.lo b.hi p true).2=0
      ·rw [bindE_ok k2]
       by_cases k3:(divD a.hi b.lo p true).2=0
       ·rw [bindE_ok k3]
        by_cases k4:(divD a.hi b.hi p true).2=0
        ·rw [bindE_ok k4]
         have m1:=min4_le (divD a.lo b.lo p false).1 (divD a.lo b.hi p false).1 (divD a.hi b.lo p false).1 (divD a.hi b.hi p false).1
         have m2:=max4_ge (divD a.lo b.lo p true).1 (divD a.lo b.hi p true).1 (divD a.hi b.lo p true).1 (divD a.hi b.hi p true).1
         have d1:=(div_dir nl false h1).1 rfl
         have d2:=(div_dir nl true k1).2 rfl
         have b1:=(min4_blen (div_blen a.lo b.lo p false) (div_blen a.lo b.hi p false) (div_blen a.hi b.lo p false) (div_blen a.hi b.hi p false)).1
         have b2:=(min4_blen (div_blen a.lo b.lo p true) (div_blen a.lo b.hi p true) (div_blen a.hi b.lo p true) (div_blen a.hi b.hi p true)).2
         have w1:WD (min4 (divD a.lo b.lo p false).1 (divD a.lo b.hi p false).1 (divD a.hi b.lo p false).1 (divD a.hi b.hi p false).1):=minD_WD (minD_WD (minD_WD WD_div WD_div) WD_div) WD_div
         have w2:WD (max4 (divD a.lo b.lo p true).1 (divD a.lo b.hi p true).1 (divD a.hi b.lo p true).1 (divD a.hi b.hi p true).1):=maxD_WD (maxD_WD (maxD_WD WD_div WD_div) WD_div) WD_div
         generalize min4 (divD a.lo b.lo p false).1 (divD a.lo b.hi p false).1 (divD a.hi b.lo p false).1 (divD a.hi b.hi p false).1=m at *
         generalize max4 (divD a.lo b.lo p true).1 (divD a.lo b.hi p true).1 (divD a.hi b.lo p true).1 (divD a.hi b.hi p true).1=M at *
         exact ⟨⟨w1,w2,by show val m≤val M; grind⟩,by show blen m.m.natAbs≤1000; omega,by show blen M.m.natAbs≤1000; omega⟩
        ·rw [bindE_no k4]; exact SI_z
       ·rw [bindE_no k3]; exact SI_z
      ·rw [bindE_no k2]; exact SI_z
     ·rw [bindE_no k1]; exact SI_z
    ·rw [bindE_no h4]; exact SI_z
   ·rw [bindE_no h3]; exact SI_z
  ·rw [bindE_no h2]; exact SI_z
 ·rw [bindE_no h1]; exact SI_z
theorem SI_st {r:I × Int} (h:SI r.1) (e:Int):SI (st e zI r).1:=by
 unfold st; split
 ·exact h
 ·exact SI_z
def mS (p:Nat) (a b:I) (e:Int):I × Int:=st e zI (mulI p a b)
def dS (p:Nat) (a b:I) (e:Int):I × Int:=st e zI (divI p a b)
def aS (p:Nat) (a b:I) (e:Int):I × Int:=st e zI (addI p a b)
def nS (a:I) (e:Int):I × Int:=st e zI (negI a,0)
def iS (n:Int) (e:Int):I × Int:=st e zI (intI n,0)
def wS (p:Nat) (a:I) (d:D) (e:Int):I × Int:=st e zI (wideI p a d)
theorem SI_mS {p:Nat} (hp:p≤400) (a b:I) (e:Int):SI (mS p a b e).1:=SI_st (SI_mul hp) e
theorem SI_dS {p:Nat} (hp:p≤400) (a:I) {b:I} (hb:SI b) (e:Int):SI (dS p a b e).1:=SI_st (SI_div hb.ok hp) e
theorem SI_aS {p:Nat} (hp:p≤400) {a b:I} (ha:SI a) (hb:SI b) (e:Int):SI (aS p a b e).1:=SI_st (SI_add ha hb hp) e
theorem SI_nS {a:I} (ha:SI a) (e:Int):SI (nS a e).1:=SI_st (r:=(negI a,0)) (SI_neg ha) e
theorem SI_iS {n:Int} (hn : -1000000≤n∧n≤1000000) (e:Int):SI (iS n e).1:=SI_st (r:=(intI n,0)) (SI_int (by omega)) e
theorem pMul {p:Nat} (hp:2≤p∧p≤400) {a b:I} (ha:SI a) (hb:SI b) (e:Int):cv_Mul (iv a) (iv b) e (p:Int)=some (iv (mS p a b e).1,(mS p a b e).2):=ivMul_eq ha.ok hb.ok hp e
theorem pDiv {p:Nat} (hp:2≤p∧p≤400) {a b:I} (ha:SI a) (hb:SI b) (e:Int):cv_Div (iv a) (iv b) e (p:Int)=some (iv (dS p a b e).1,(dS p a b e).2):=ivDiv_eq ha.ok hb.ok hp e
theorem pAdd {p:Nat} (hp:2≤p∧p≤400) {a b:I} (ha:SI a) (hb:SI b) (e:Int):cv_Add (iv a) (iv b) e (p:Int)=some (iv (aS p a b e).1,(aS p a b e).2):=ivAdd_eq ha.ok hb.ok hp e
theorem pNeg {a:I} (ha:SI a) (e p:Int):cv_Neg (iv a) e p=some (iv (nS a e).1,(nS a e).2):=ivNeg_eq ha.ok e p
theorem pInt {n:Int} (hn : -1000000≤n∧n≤1000000) (e p:Int):cv_Int n e p=some (iv (iS n e).1,(iS n e).2):=ivInt_eq (by omega) e p
def serL (p:Nat) (next:Nat→I→Int→I × I × Int):Nat→Nat→I→I→Int→I × Int
 | 0,_,s,_,e=>(s,e)
 | k+1,i,s,t,e=>serL p next k (i+1) (aS p s (next (i+1) t e).2.1 (next (i+1) t e).2.2).1 (next (i+1) t e).1 (aS p s (next (i+1) t e).2.1 (next (i+1) t e).2.2).2
def finS (p:Nat) (r:I × Int):I × Int:=wS p r.1 ⟨1,-(p:Int)⟩ r.2
def turnS (p:Nat) (t q:I) (b:Int) (e:Int):I × Int:=nS (dS p (mS p t q e).1 (iS b (mS p t q e).2).1 (iS b (mS p t q e).2).2).1 (dS p (mS p t q e).1 (iS b (mS p t q e).2).1 (iS b (mS p t q e).2).2).2
def nSin (p:Nat) (q:I) (i:Nat) (t:I) (e:Int):I × I × Int:=((turnS p t q ((2*i*(2*i+1):Nat):Int) e).1,(turnS p t q ((2*i*(2*i+1):Nat):Int) e).1,(turnS p t q ((2*i*(2*i+1):Nat):Int) e).2)
def nCos (p:Nat) (q:I) (i:Nat) (t:I) (e:Int):I × I × Int:=((turnS p t q (((2*i-1)*2*i:Nat):Int) e).1,(turnS p t q (((2*i-1)*2*i:Nat):Int) e).1,(turnS p t q (((2*i-1)*2*i:Nat):Int) e).2)
def oddS (p:Nat) (i:Nat) (g:I × Int):I × I × Int:=(g.1,(dS p g.1 (iS ((2*i+1:Nat):Int) g.2).1 (iS ((2*i+1:Nat):Int) g.2).2).1,(dS p g.1 (iS ((2*i+1:Nat):Int) g.2).1 (iS ((2*i+1:Nat):Int) g.2).2).2)
def nAtan (p:Nat) (q:I) (i:Nat) (t:I) (e:Int):I × I × Int:=oddS p i (nS (mS p t q e).1 (mS p t q e).2)
theorem SI_turn {p:Nat} (hp:p≤400) (t q:I) {b:Int} (hb : -1000000≤b∧b≤1000000) (e:Int):SI (turnS p t q b e).1:=SI_nS (SI_dS hp _ (SI_iS hb _) _) _
theorem sq_small {i:Nat} (h:i≤300):2*i*(2*i+1)≤1000000∧(2*i-1)*2*i≤1000000:=by
 have h1:2*i*(2*i+1)≤600*601:=Nat.mul_le_mul (by omega) (by omega)
 have h2:(2*i-1)*2*i≤1200*300:=Nat.mul_le_mul (by omega) (by omega)
 omega
theorem nSin_SI {p:Nat} (hp:p≤400) (y:I) {i:Nat} (hi:i≤300) (t:I) (e:Int):SI (nSin p y i t e).1∧SI (nSin p y i t e).2.1:=by
 have:=sq_small hi
 exact ⟨SI_turn hp _ _ (by omega) _,SI_turn hp _ _ (by omega) _⟩
theorem nCos_SI {p:Nat} (hp:p≤400) (y:I) {i:Nat} (hi:i≤300) (t:I) (e:Int):SI (nCos p y i t e).1∧SI (nCos p y i t e).2.1:=by
 have:=sq_small hi
 exact ⟨SI_turn hp _ _ (by omega) _,SI_turn hp _ _ (by omega) _⟩
theorem nAtan_SI {p:Nat} (hp:p≤400) (y:I) {i:Nat} (hi:i≤300) (t:I) (e:Int):SI (nAtan p y i t e).1∧SI (nAtan p y i t e).2.1:=⟨SI_nS (SI_mS hp _ _ _) _,SI_dS hp _ (SI_iS (by omega) _) _⟩
theorem ivEta (a:I):(⟨⟨⟨(iv a).Lo.M.Neg,(iv a).Lo.M.Mag⟩,(iv a).Lo.E⟩,⟨⟨(iv a).Hi.M.Neg,(iv a).Hi.M.Mag⟩,(iv a).Hi.E⟩⟩:AI)=iv a:=rfl
theorem WD_half {k:Int} (h : -60000≤k∧k≤60000):WD ⟨1,k⟩:=⟨Or.inr ⟨rfl,by simp only; omega,by simp only; omega⟩,by show blen 1≤262144; rw [show blen 1=1 by decide]; omega⟩
theorem val_half (k:Int):val ⟨1,k⟩=p2 k:=by unfold val; simp
theorem SI_fin {p:Nat} (hp:p≤400) {r:I × Int} (h:SI r.1):SI (finS p r).1:=SI_st (SI_wide h (by rw [val_half]; exact Rat.le_of_lt (p2_pos _)) hp) _
theorem pWide {p:Nat} (hp:2≤p∧p≤400) {a:I} (ha:SI a) (e:Int):cv_Wide (iv a) (dy ⟨1,-(p:Int)⟩) e (p:Int)=some (iv (finS p (a,e)).1,(finS p (a,e)).2):=
 ivWide_eq ha.ok (WD_half (by omega)) (by rw [val_half]; exact Rat.le_of_lt (p2_pos _)) hp e
theorem negHalf {p:Nat} (hp:p≤400):dyad_Half (IntKind.i64.wrap (0-(p:Int)))=some (dy ⟨1,-(p:Int)⟩):=by
 rw [w64 (by omega) (by omega),show 0-(p:Int) = -(p:Int) by omega,dyad_Half_eq (by omega)]
theorem terms_eq {p:Nat} (hp:p≤400):small_Terms (p:Int)=some ((p / 2+4:Nat):Int):=by
 unfold small_Terms
 have h1:mx (p:Int) 0=(p:Int):=by unfold mx; split<;>omega
 have h2:mn (p:Int) 400=(p:Int):=by unfold mn; split<;>omega
 rw [h1,h2,show (2:Int)=((2:Nat):Int) by rfl,tdivn,w64n (by omega),w64 (by omega) (by omega)]
 rfl
theorem turned_eq {p:Nat} (hp:2≤p∧p≤400) {t q:I} (ht:SI t) (hq:SI q) {b:Int} (hb : -1000000≤b∧b≤1000000) (e:Int):small_turned (iv t) (iv q) b e (p:Int)=some (iv (turnS p t q b e).1,(turnS p t q b e).2):=by
 unfold small_turned
 rw [pMul hp ht hq]
 simp only [obn]
 rw [pInt hb]
 simp only [obn]
 rw [pDiv hp (SI_mS hp.2 _ _ _) (SI_iS hb _)]
 simp only [obn]
 rw [pNeg (SI_dS hp.2 _ (SI_iS hb _) _)]
 rfl
theorem wsin {i:Nat} (h:i≤300):IntKind.i64.wrap (IntKind.i64.wrap (2*(i:Int))*IntKind.i64.wrap (IntKind.i64.wrap (2*(i:Int))+1))=((2*i*(2*i+1):Nat):Int):=by
 have:=sq_small h
 rw [w64 (x:=2*(i:Int)) (by omega) (by omega),w64 (x:=2*(i:Int)+1) (by omega) (by omega),show 2*(i:Int)*(2*(i:Int)+1)=((2*i*(2*i+1):Nat):Int) by simp,w64n (by omega)]
theorem wcos {i:Nat} (h:i≤300) (h0:1≤i):IntKind.i64.wrap (IntKind.i64.wrap (IntKind.i64.wrap (IntKind.i64.wrap (2*(i:Int))-1)*2)*(i:Int))=(((2*i-1)*2*i:Nat):Int):=by
 have:=sq_small h
 rw [w64 (x:=2*(i:Int)) (by omega) (by omega),w64 (x:=2*(i:Int)-1) (by omega) (by omega),show 2*(i:Int)-1=((2*i-1:Nat):Int) by omega,w64 (x:=((2*i-1:Nat):Int)*2) (by omega) (by omega),show ((2*i-1:Nat):Int)*2*(i:Int)=(((2*i-1)*2*i:Nat):Int) by simp,w64n (by omega)]
theorem wodd {i:Nat} (h:i≤300):IntKind.i64.wrap (IntKind.i64.wrap (2*(i:Int))+1)=((2*i+1:Nat):Int):=by
 rw [w64 (x:=2*(i:Int)) (by omega) (by omega),w64 (by omega) (by omega)]; omega
theorem nSin_eq {p:Nat} (hp:2≤p∧p≤400) {q t:I} (hq:SI q) (ht:SI t) {i:Nat} (hi:i≤300) (h0:1≤i) (e:Int):small_plain_1_7cba (i:Int) (iv t) e (p:Int) (iv q).Lo.M.Neg (iv q).Lo.M.Mag (iv q).Lo.E (iv q).Hi.M.Neg (iv q).Hi.M.Mag (iv q).Hi.E=some (iv (nSin p q i t e).1,iv (nSin p q i t e).2.1,(nSin p q i t e).2.2):=by
 have:=sq_small hi
 unfold small_plain_1_7cba small_Sin_1
 rw [ivEta,wsin hi,turned_eq hp ht hq (by omega)]
 rfl
theorem nCos_eq {p:Nat} (hp:2≤p∧p≤400) {q t:I} (hq:SI q) (ht:SI t) {i:Nat} (hi:i≤300) (h0:1≤i) (e:Int):small_plain_1_b404 (i:Int) (iv t) e (p:Int) (iv q).Lo.M.Neg (iv q).Lo.M.Mag (iv q).Lo.E (iv q).Hi.M.Neg (iv q).Hi.M.Mag (iv q).Hi.E=some (iv (nCos p q i t e).1,iv (nCos p q i t e).2.1,(nCos p q i t e).2.2):=by
 have:=sq_small hi
 unfold small_plain_1_b404 small_Cos_1
 rw [ivEta,wcos hi h0,turned_eq hp ht hq (by omega)]
 rfl
theorem nAtan_eq {p:Nat} (hp:2≤p∧p≤400) {q t:I} (hq:SI q) (ht:SI t) {i:Nat} (hi:i≤300) (h0:1≤i) (e:Int):small_odd_1_df97 (i:Int) (iv t) e (p:Int) (iv q).Lo.M.Neg (iv q).Lo.M.Mag (iv q).Lo.E (iv q).Hi.M.Neg (iv q).Hi.M.Mag (iv q).Hi.E=some (iv (nAtan p q i t e).1,iv (nAtan p q i t e).2.1,(nAtan p q i t e).2.2):=by
 unfold small_odd_1_df97
 rw [ivEta,wodd hi,pMul hp ht hq]
 simp only [obn]
 rw [pNeg (SI_mS hp.2 _ _ _)]
 simp only [obn]
 rw [pInt (by omega)]
 simp only [obn]
 rw [pDiv hp (SI_nS (SI_mS hp.2 _ _ _) _) (SI_iS (by omega) _)]
 rfl
theorem nSin_loop {p:Nat} (hp:2≤p∧p≤400) {q:I} (hq:SI q):∀ (r i:Nat) (s t:I) (e:Int),i+r=p / 2+4→SI s→SI t→∀ f,r<f→small_series_f1ab_l2 ((p / 2+4:Nat):Int) (p:Int) (iv q).Lo.M.Neg (iv q).Lo.M.Mag (iv q).Lo.E (iv q).Hi.M.Neg (iv q).Hi.M.Mag (iv q).Hi.E f (i:Int) e (iv s).Lo.M.Neg (iv s).Lo.M.Mag (iv s).Lo.E (iv s).Hi.M.Neg (iv s).Hi.M.Mag (iv s).Hi.E (iv t).Lo.M.Neg (iv t).Lo.M.Mag (iv t).Lo.E (iv t).Hi.M.Neg (iv t).Hi.M.Mag (iv t).Hi.E=some (iv (finS p (serL p (nSin p q) r i s t e)).1,(finS p (serL p (nSin p q) r i s t e)).2):=by
 intro r
 induction r with
 | zero=>
  intro i s t e hi hs ht f hf
  obtain ⟨f,rfl⟩:∃ k,f=k+1:=⟨f-1,by omega⟩
  rw [small_series_f1ab_l2,if_neg (by omega)]
  unfold small_series_f1ab_j1 cv_Prec
  simp only [obn]
  rw [negHalf hp.2]
  simp only [obn]
  rw [ivEta,pWide hp hs]
  rfl
 | succ r ih=>
  intro i s t e hi hs ht f hf
  obtain ⟨f,rfl⟩:∃ k,f=k+1:=⟨f-1,by omega⟩
  have hn:=nSin_SI hp.2 q (i:=i+1) (by omega) t e
  rw [small_series_f1ab_l2,if_pos (by omega),show ((i:Int)+1)=((i+1:Nat):Int) by omega,w64n (by omega),ivEta,ivEta,nSin_eq hp hq ht (by omega) (by omega)]
  simp only [obn]
  rw [pAdd hp hs hn.2]
  simp only [obn]
  exact ih (i+1) _ _ _ (by omega) (SI_aS hp.2 hs hn.2 _) hn.1 f (by omega)
theorem nCos_loop {p:Nat} (hp:2≤p∧p≤400) {q:I} (hq:SI q):∀ (r i:Nat) (s t:I) (e:Int),i+r=p / 2+4→SI s→SI t→∀ f,r<f→small_series_7c7a_l2 ((p / 2+4:Nat):Int) (p:Int) (iv q).Lo.M.Neg (iv q).Lo.M.Mag (iv q).Lo.E (iv q).Hi.M.Neg (iv q).Hi.M.Mag (iv q).Hi.E f (i:Int) e (iv s).Lo.M.Neg (iv s).Lo.M.Mag (iv s).Lo.E (iv s).Hi.M.Neg (iv s).Hi.M.Mag (iv s).Hi.E (iv t).Lo.M.Neg (iv t).Lo.M.Mag (iv t).Lo.E (iv t).Hi.M.Neg (iv t).Hi.M.Mag (iv t).Hi.E=some (iv (finS p (serL p (nCos p q) r i s t e)).1,(finS p (serL p (nCos p q) r i s t e)).2):=by
 intro r
 induction r with
 | zero=>
  intro i s t e hi hs ht f hf
  obtain ⟨f,rfl⟩:∃ k,f=k+1:=⟨f-1,by omega⟩
  rw [small_series_7c7a_l2,if_neg (by omega)]
  unfold small_series_7c7a_j1 cv_Prec
  simp only [obn]
  rw [negHalf hp.2]
  simp only [obn]
  rw [ivEta,pWide hp hs]
  rfl
 | succ r ih=>
  intro i s t e hi hs ht f hf
  obtain ⟨f,rfl⟩:∃ k,f=k+1:=⟨f-1,by omega⟩
  have hn:=nCos_SI hp.2 q (i:=i+1) (by omega) t e
  rw [small_series_7c7a_l2,if_pos (by omega),show ((i:Int)+1)=((i+1:Nat):Int) by omega,w64n (by omega),ivEta,ivEta,nCos_eq hp hq ht (by omega) (by omega)]
  simp only [obn]
  rw [pAdd hp hs hn.2]
  simp only [obn]
  exact ih (i+1) _ _ _ (by omega) (SI_aS hp.2 hs hn.2 _) hn.1 f (by omega)
theorem nAtan_loop {p:Nat} (hp:2≤p∧p≤400) {q:I} (hq:SI q):∀ (r i:Nat) (s t:I) (e:Int),i+r=p / 2+4→SI s→SI t→∀ f,r<f→small_series_5374_l2 ((p / 2+4:Nat):Int) (p:Int) (iv q).Lo.M.Neg (iv q).Lo.M.Mag (iv q).Lo.E (iv q).Hi.M.Neg (iv q).Hi.M.Mag (iv q).Hi.E f (i:Int) e (iv s).Lo.M.Neg (iv s).Lo.M.Mag (iv s).Lo.E (iv s).Hi.M.Neg (iv s).Hi.M.Mag (iv s).Hi.E (iv t).Lo.M.Neg (iv t).Lo.M.Mag (iv t).Lo.E (iv t).Hi.M.Neg (iv t).Hi.M.Mag (iv t).Hi.E=some (iv (finS p (serL p (nAtan p q) r i s t e)).1,(finS p (serL p (nAtan p q) r i s t e)).2):=by
 intro r
 induction r with
 | zero=>
  intro i s t e hi hs ht f hf
  obtain ⟨f,rfl⟩:∃ k,f=k+1:=⟨f-1,by omega⟩
  rw [small_series_5374_l2,if_neg (by omega)]
  unfold small_series_5374_j1 cv_Prec
  simp only [obn]
  rw [negHalf hp.2]
  simp only [obn]
  rw [ivEta,pWide hp hs]
  rfl
 | succ r ih=>
  intro i s t e hi hs ht f hf
  obtain ⟨f,rfl⟩:∃ k,f=k+1:=⟨f-1,by omega⟩
  have hn:=nAtan_SI hp.2 q (i:=i+1) (by omega) t e
  rw [small_series_5374_l2,if_pos (by omega),show ((i:Int)+1)=((i+1:Nat):Int) by omega,w64n (by omega),ivEta,ivEta,nAtan_eq hp hq ht (by omega) (by omega)]
  simp only [obn]
  rw [pAdd hp hs hn.2]
  simp only [obn]
  exact ih (i+1) _ _ _ (by omega) (SI_aS hp.2 hs hn.2 _) hn.1 f (by omega)
def box (k:Int):I:=⟨negD ⟨1,k⟩,⟨1,k⟩⟩
theorem SI_box {k:Int} (h : -60000≤k∧k≤60000):okI (box k):=by
 refine ⟨(WD_half h).neg,WD_half h,?_⟩
 show val (negD ⟨1,k⟩)≤val ⟨1,k⟩
 rw [val_neg,val_half]
 have:=p2_pos k
 grind
theorem hasI_int00:hasI (intI 0) zD=true:=by decide +kernel
theorem small_in_eq {p:Nat} (hp:2≤p∧p≤400) {y:I} (hy:SI y) {k:Int} (hk : -60000≤k∧k≤60000) (e:Int):small_in (iv y) k e (p:Int)=some (if e=0 then (if inI y (box k)=true then (true,0) else (false,3)) else (false,e)):=by
 unfold small_in iv_trouble_Err
 rw [dyad_Half_eq hk]
 simp only [obn]
 rw [pNeg hy]
 simp only [obn]
 by_cases h:e=0
 ·subst h
  have hn:(nS y 0).2=0:=rfl
  rw [hn,if_neg (by simp),if_pos rfl,dyad_Neg_eq (WD_half hk)]
  simp only [obn]
  have hb:iv_In (iv y) (iv (box k))=some (inI y (box k)):=ivIn_eq hy.ok (SI_box hk)
  refine Eq.trans (congrArg (fun o=>Option.bind o _) hb) ?_
  simp only [obn]
  by_cases h1:inI y (box k)=true
  ·rw [if_pos h1,if_pos h1]
  ·rw [if_neg h1,if_neg h1,pInt (by omega)]
   simp only [obn]
   have i1:(iS 1 0).2=0:=rfl
   rw [i1,pInt (by omega)]
   simp only [obn]
   rw [pDiv hp (SI_iS (by omega) _) (SI_iS (by omega) _)]
   simp only [obn]
   have hd:dS p (iS 1 0).1 (iS 0 0).1 (iS 0 0).2=(zI,3):=by
    show st 0 zI (divI p (intI 1) (intI 0))=_
    rw [st_zero,divI_zero hasI_int00]
   rw [hd]
 ·have hn:(nS y e).2=e:=by unfold nS; rw [st_ne h]
  rw [hn,if_pos h,if_neg h]
theorem SI_ser {p:Nat} (hp:p≤400) (next:Nat→I→Int→I × I × Int) (hn:∀ (i:Nat) (t:I) (e:Int),i≤300→SI (next i t e).1∧SI (next i t e).2.1):∀ (k i:Nat) (s t:I) (e:Int),i+k≤300→SI s→SI (serL p next k i s t e).1:=by
 intro k
 induction k with
 | zero=>intro i s t e _ hs; exact hs
 | succ k ih=>
  intro i s t e hi hs
  exact ih (i+1) _ _ _ (by omega) (SI_aS hp hs (hn (i+1) t e (by omega)).2 _)
def sinI (p:Nat) (y:I):I × Int:=if inI y (box 0)=true then finS p (serL p (nSin p (mS p y y 0).1) (p / 2+4) 0 y y (mS p y y 0).2) else (zI,3)
def cosI (p:Nat) (y:I):I × Int:=if inI y (box 0)=true then finS p (serL p (nCos p (mS p y y 0).1) (p / 2+4) 0 (iS 1 (mS p y y 0).2).1 (iS 1 (mS p y y 0).2).1 (mS p y y 0).2) else (zI,3)
def atanI (p:Nat) (y:I):I × Int:=if inI y (box (-1))=true then finS p (serL p (nAtan p (mS p y y 0).1) (p / 2+4) 0 y y (mS p y y 0).2) else (zI,3)
theorem iS_e (n e:Int):(iS n e).2=e:=by unfold iS st; split<;>simp [*]
theorem smallSin_eq {p:Nat} (hp:2≤p∧p≤400) {y:I} (hy:SI y) (e:Int):small_Sin (iv y) e (p:Int)=some (iv (st e zI (sinI p y)).1,(st e zI (sinI p y)).2):=by
 unfold small_Sin small_plain_c50f small_series_f1ab cv_Prec
 rw [small_in_eq hp hy (by omega)]
 simp only [obn]
 by_cases h:e=0
 ·subst h
  rw [if_pos rfl,st_zero]
  unfold sinI
  by_cases h1:inI y (box (0))=true
  ·rw [if_pos h1,if_pos h1,if_neg (by simp)]
   rw [pMul hp hy hy]
   simp only [obn]
   rw [terms_eq hp.2]
   simp only [obn]
   have hl:=nSin_loop hp (SI_mS hp.2 y y 0) (p / 2+4) 0 y y (mS p y y 0).2 (by omega) hy hy fuel (by unfold fuel; omega)
   refine Eq.trans (congrArg (fun o=>Option.bind o _) (congrArg (fun o=>Option.bind o _) hl)) ?_
   rfl
  ·rw [if_neg h1,if_neg h1,if_pos (by simp),iv_z]
 ·rw [if_neg h,if_pos (by simp),st_ne h,iv_z]
theorem smallCos_eq {p:Nat} (hp:2≤p∧p≤400) {y:I} (hy:SI y) (e:Int):small_Cos (iv y) e (p:Int)=some (iv (st e zI (cosI p y)).1,(st e zI (cosI p y)).2):=by
 unfold small_Cos small_plain_fc4a small_series_7c7a cv_Prec
 rw [small_in_eq hp hy (by omega)]
 simp only [obn]
 by_cases h:e=0
 ·subst h
  rw [if_pos rfl,st_zero]
  unfold cosI
  by_cases h1:inI y (box (0))=true
  ·rw [if_pos h1,if_pos h1,if_neg (by simp)]
   rw [pMul hp hy hy]
   simp only [obn]
   rw [pInt (by omega)]
   simp only [obn]
   rw [iS_e,terms_eq hp.2]
   simp only [obn]
   have hl:=nCos_loop hp (SI_mS hp.2 y y 0) (p / 2+4) 0 (iS 1 (mS p y y 0).2).1 (iS 1 (mS p y y 0).2).1 (mS p y y 0).2 (by omega) (SI_iS (by omega) _) (SI_iS (by omega) _) fuel (by unfold fuel; omega)
   refine Eq.trans (congrArg (fun o=>Option.bind o _) (congrArg (fun o=>Option.bind o _) hl)) ?_
   rfl
  ·rw [if_neg h1,if_neg h1,if_pos (by simp),iv_z]
 ·rw [if_neg h,if_pos (by simp),st_ne h,iv_z]
theorem smallAtan_eq {p:Nat} (hp:2≤p∧p≤400) {y:I} (hy:SI y) (e:Int):small_Atan (iv y) e (p:Int)=some (iv (st e zI (atanI p y)).1,(st e zI (atanI p y)).2):=by
 unfold small_Atan small_odd_8ed8 small_series_5374 cv_Prec
 rw [small_in_eq hp hy (by omega)]
 simp only [obn]
 by_cases h:e=0
 ·subst h
  rw [if_pos rfl,st_zero]
  unfold atanI
  by_cases h1:inI y (box (-1))=true
  ·rw [if_pos h1,if_pos h1,if_neg (by simp)]
   rw [pMul hp hy hy]
   simp only [obn]
   rw [terms_eq hp.2]
   simp only [obn]
   have hl:=nAtan_loop hp (SI_mS hp.2 y y 0) (p / 2+4) 0 y y (mS p y y 0).2 (by omega) hy hy fuel (by unfold fuel; omega)
   refine Eq.trans (congrArg (fun o=>Option.bind o _) (congrArg (fun o=>Option.bind o _) hl)) ?_
   rfl
  ·rw [if_neg h1,if_neg h1,if_pos (by simp),iv_z]
   rfl
 ·rw [if_neg h,if_pos (by simp),st_ne h,iv_z]
  rfl
theorem SI_sin {p:Nat} (hp:p≤400) {y:I} (hy:SI y):SI (sinI p y).1:=by
 unfold sinI; split
 ·exact SI_fin hp (SI_ser hp _ (fun i t e hi=>nSin_SI hp _ hi t e) _ _ _ _ _ (by omega) hy)
 ·exact SI_z
theorem SI_cos {p:Nat} (hp:p≤400) {y:I} : SI (cosI p y).1:=by
 unfold cosI; split
 ·exact SI_fin hp (SI_ser hp _ (fun i t e hi=>nCos_SI hp _ hi t e) _ _ _ _ _ (by omega) (SI_iS (by omega) _))
 ·exact SI_z
theorem SI_atan {p:Nat} (hp:p≤400) {y:I} (hy:SI y):SI (atanI p y).1:=by
 unfold atanI; split
 ·exact SI_fin hp (SI_ser hp _ (fun i t e hi=>nAtan_SI hp _ hi t e) _ _ _ _ _ (by omega) hy)
 ·exact SI_z
theorem scale_val {x:D} {n:Int} (h:(scaleD x n).2=0):val (scaleD x n).1=val x*p2 n∧blen (scaleD x n).1.m.natAbs≤blen x.m.natAbs:=by
 unfold scaleD at *
 by_cases h0:x.m=0
 ·rw [if_pos h0]; exact ⟨by rw [val_z,val_zero_m h0,Rat.zero_mul],by show blen (0:Int).natAbs≤_; simp [blen]⟩
 ·rw [if_neg h0] at h ⊢
  rw [tell_ok' h]
  exact ⟨val_scale,Nat.le_refl _⟩
theorem SI_scale {a:I} (ha:SI a) (n:Int):SI (scaleI a n).1:=by
 unfold scaleI
 by_cases h1:(scaleD a.lo n).2=0
 ·rw [bindE_ok h1]
  by_cases h2:(scaleD a.hi n).2=0
  ·rw [bindE_ok h2]
   obtain ⟨v1,b1⟩:=scale_val h1
   obtain ⟨v2,b2⟩:=scale_val h2
   have:=ha.lo
   have:=ha.hi
   refine ⟨⟨WD_scale ha.ok.1 n,WD_scale ha.ok.2.1 n,?_⟩,by show blen (scaleD a.lo n).1.m.natAbs≤1000; omega,by show blen (scaleD a.hi n).1.m.natAbs≤1000; omega⟩
   show val (scaleD a.lo n).1≤val (scaleD a.hi n).1
   rw [v1,v2]
   exact Rat.mul_le_mul_of_nonneg_right ha.ok.2.2 (Rat.le_of_lt (p2_pos n))
  ·rw [bindE_no h2]; exact SI_z
 ·rw [bindE_no h1]; exact SI_z
def scS (a:I) (n:Int) (e:Int):I × Int:=st e zI (scaleI a n)
def suS (p:Nat) (a b:I) (e:Int):I × Int:=st e zI (subI p a b)
def sqS (p:Nat) (a:I) (e:Int):I × Int:=st e zI (sqrtI p a)
def atS (p:Nat) (a:I) (e:Int):I × Int:=st e zI (atanI p a)
def recS (p:Nat) (n:Int) (e:Int):I × Int:=dS p (iS 1 e).1 (iS n (iS 1 e).2).1 (iS n (iS 1 e).2).2
def onePi (p:Nat) (n:Int) (e:Int):I × Int:=atS p (recS p n e).1 (recS p n e).2
def piS (p:Nat) (e:Int):I × Int:=
 suS p (scS (onePi p 5 e).1 4 (onePi p 239 (onePi p 5 e).2).2).1 (scS (onePi p 239 (onePi p 5 e).2).1 2 (scS (onePi p 5 e).1 4 (onePi p 239 (onePi p 5 e).2).2).2).1 (scS (onePi p 239 (onePi p 5 e).2).1 2 (scS (onePi p 5 e).1 4 (onePi p 239 (onePi p 5 e).2).2).2).2
def rootS (p:Nat) (e:Int):I × Int:=sqS p (piS p e).1 (piS p e).2
theorem SI_rec {p:Nat} (hp:p≤400) {n:Int} (hn : -1000000≤n∧n≤1000000) (e:Int):SI (recS p n e).1:=SI_dS hp _ (SI_iS hn _) _
theorem SI_one {p:Nat} (hp:p≤400) {n:Int} (hn : -1000000≤n∧n≤1000000) (e:Int):SI (onePi p n e).1:=SI_st (SI_atan hp (SI_rec hp hn e)) _
theorem SI_sc {a:I} (ha:SI a) (n e:Int):SI (scS a n e).1:=SI_st (SI_scale ha n) e
theorem SI_pi {p:Nat} (hp:p≤400) (e:Int):SI (piS p e).1:=SI_st (SI_sub (SI_sc (SI_one hp (by omega) _) _ _) (SI_sc (SI_one hp (by omega) _) _ _) hp) _
theorem pScale {a:I} (ha:SI a) {n:Int} (hn : -100000≤n∧n≤100000) (e p:Int):cv_Scale (iv a) n e p=some (iv (scS a n e).1,(scS a n e).2):=ivScale_eq ha.ok hn e p
theorem parts_l5 {p:Nat} (hp:2≤p∧p≤400) (e:Int):konst_parts_3d9d 5 4 239 2 e (p:Int)=some ([iv (scS (onePi p 5 e).1 4 (onePi p 239 (onePi p 5 e).2).2).1,iv (scS (onePi p 239 (onePi p 5 e).2).1 2 (scS (onePi p 5 e).1 4 (onePi p 239 (onePi p 5 e).2).2).2).1],(scS (onePi p 239 (onePi p 5 e).2).1 2 (scS (onePi p 5 e).1 4 (onePi p 239 (onePi p 5 e).2).2).2).2):=by
 unfold konst_parts_3d9d
 obtain ⟨f,hf⟩:=fuel_succ
 rw [hf]
 rw [konst_parts_3d9d_l5,if_pos (by omega),if_pos rfl,pInt (by omega)]
 simp only [obn]
 rw [pInt (by omega)]
 simp only [obn]
 rw [pDiv hp (SI_iS (by omega) _) (SI_iS (by omega) _)]
 simp only [obn]
 have h1:small_Atan (iv (recS p 5 e).1) (recS p 5 e).2 (p:Int)=some (iv (onePi p 5 e).1,(onePi p 5 e).2):=smallAtan_eq hp (SI_rec hp.2 (by omega) e) _
 refine Eq.trans (congrArg (fun o=>Option.bind o _) h1) ?_
 simp only [obn]
 rw [if_pos (by simp)]
 unfold konst_parts_3d9d_j6
 rw [if_pos (by simp),show IntKind.i64.wrap (0+1)=1 by decide]
 dsimp only
 rw [konst_parts_3d9d_l5,if_pos (by omega),if_neg (by decide),if_pos rfl,pInt (by omega)]
 simp only [obn]
 rw [pInt (by omega)]
 simp only [obn]
 rw [pDiv hp (SI_iS (by omega) _) (SI_iS (by omega) _)]
 simp only [obn]
 have h2:small_Atan (iv (recS p 239 (onePi p 5 e).2).1) (recS p 239 (onePi p 5 e).2).2 (p:Int)=some (iv (onePi p 239 (onePi p 5 e).2).1,(onePi p 239 (onePi p 5 e).2).2):=smallAtan_eq hp (SI_rec hp.2 (by omega) _) _
 refine Eq.trans (congrArg (fun o=>Option.bind o _) h2) ?_
 simp only [obn]
 rw [if_pos (by simp)]
 unfold konst_parts_3d9d_j6
 rw [if_pos (by simp),show IntKind.i64.wrap (1+1)=2 by decide]
 dsimp only
 rw [konst_parts_3d9d_l5,if_neg (by omega)]
 unfold konst_parts_3d9d_j1
 rw [hf]
 rw [konst_parts_3d9d_l3,if_pos (by omega),if_pos rfl,if_pos (by simp),if_pos (by simp)]
 have k1:=pScale (SI_one hp.2 (n:=5) (by omega) e) (n:=4) (by omega) (onePi p 239 (onePi p 5 e).2).2 (p:Int)
 refine Eq.trans (congrArg (fun o=>Option.bind o _) k1) ?_
 simp only [obn]
 rw [if_pos (by simp)]
 unfold konst_parts_3d9d_j4
 rw [if_pos (by simp),show IntKind.i64.wrap (0+1)=1 by decide]
 dsimp only
 rw [konst_parts_3d9d_l3,if_pos (by omega),if_neg (by decide),if_pos rfl,if_pos (by simp),if_pos (by simp)]
 have k2:=pScale (SI_one hp.2 (n:=239) (by omega) (onePi p 5 e).2) (n:=2) (by omega) (scS (onePi p 5 e).1 4 (onePi p 239 (onePi p 5 e).2).2).2 (p:Int)
 refine Eq.trans (congrArg (fun o=>Option.bind o _) k2) ?_
 simp only [obn]
 rw [if_pos (by simp)]
 unfold konst_parts_3d9d_j4
 rw [if_pos (by simp),show IntKind.i64.wrap (1+1)=2 by decide]
 dsimp only
 rw [konst_parts_3d9d_l3,if_neg (by omega)]
 rfl
theorem Pi_eq {p:Nat} (hp:2≤p∧p≤400) (e:Int):konst_Pi e (p:Int)=some (iv (piS p e).1,(piS p e).2):=by
 unfold konst_Pi
 rw [parts_l5 hp]
 simp only [obn]
 rw [if_pos (by simp),if_pos (by simp)]
 have k:=ivSub_eq (SI_sc (SI_one hp.2 (n:=5) (by omega) e) 4 (onePi p 239 (onePi p 5 e).2).2).ok (SI_sc (SI_one hp.2 (n:=239) (by omega) (onePi p 5 e).2) 2 (scS (onePi p 5 e).1 4 (onePi p 239 (onePi p 5 e).2).2).2).ok hp (scS (onePi p 239 (onePi p 5 e).2).1 2 (scS (onePi p 5 e).1 4 (onePi p 239 (onePi p 5 e).2).2).2).2
 refine Eq.trans (congrArg (fun o=>Option.bind o _) k) ?_
 rfl
def fitB (d:D) (p:Int):Bool:=decide (2≤p) && decide (p≤336) && decide (blen d.m.natAbs≤400)
theorem dy_mag (d:D):(dy d).M.Mag=digs d.m.natAbs:=rfl
theorem bits_dy {d:D} (h:SZ d.m.natAbs):nat_Bits (dy d).M.Mag=some ((blen d.m.natAbs:Nat):Int):=by
 rw [dy_mag,nat_Bits_eq (dgd _) (by have:=sz_len h; omega),dvd]
def sizeB (d:D):Int × Bool:=if d.m=0 then (0,false) else (d.e+(blen d.m.natAbs:Nat),true)
theorem WD.szE {d:D} (h:WD d) : -1152921504606846976≤d.e∧d.e≤1152921504606846976:=by have:=h.e; omega
theorem dyad_Size_eq {d:D} (h:WD d):dyad_Size (dy d)=some (sizeB d):=by
 unfold dyad_Size dyad_Size_j1
 rw [dyad_Right_dy h.1 h.sz]
 simp only [obn]
 rw [if_neg (by simp),dyad_zero_eq]
 simp only [obn]
 unfold sizeB
 by_cases h0:d.m=0
 ·rw [if_pos (by simpa using h0),if_pos h0]
 ·rw [if_neg (by simpa using h0),if_neg h0,dyad_size_eq h.sz h.szE]; rfl
def doneS (p:Nat) (r:I × Int):I × Int:=st r.2 zI (outI p r.1)
theorem SI_out {a:I} (ha:SI a) {p:Nat} (hp:p≤400):SI (outI p a).1:=SI_two ha.ok.2.2 hp
theorem SI_done {r:I × Int} (h:SI r.1) {p:Nat} (hp:p≤400):SI (doneS p r).1:=SI_st (SI_out h hp) _
theorem SI_pt {d:D} (h:WD d) (hb:blen d.m.natAbs≤1000):SI ⟨d,d⟩:=⟨okI_point h,hb,hb⟩
theorem fitB_p {d:D} {p:Int} (h:fitB d p=true):(∃ q:Nat,p=(q:Int)∧2≤q∧q≤336)∧blen d.m.natAbs≤400:=by
 unfold fitB at h
 simp only [Bool.and_eq_true,decide_eq_true_eq] at h
 exact ⟨⟨p.toNat,by omega,by omega,by omega⟩,h.2⟩
theorem zI_eta:(⟨⟨⟨false,[]⟩,0⟩,⟨⟨false,[]⟩,0⟩⟩:AI)=iv zI:=iv_z.symm
theorem pSub {p:Nat} (hp:2≤p∧p≤400) {a b:I} (ha:SI a) (hb:SI b) (e:Int):cv_Sub (iv a) (iv b) e (p:Int)=some (iv (suS p a b e).1,(suS p a b e).2):=ivSub_eq ha.ok hb.ok hp e
theorem SI_suS {p:Nat} (hp:p≤400) {a b:I} (ha:SI a) (hb:SI b) (e:Int):SI (suS p a b e).1:=SI_st (SI_sub ha hb hp) e
theorem fl_neg {a k:Nat} (hk:0<k):(-(a:Int)) / (k:Int) = -(((a+(k-1)) / k:Nat):Int):=by
 have h1:=Nat.div_add_mod (a+(k-1)) k
 have h2:=Nat.mod_lt (a+(k-1)) hk
 generalize (a+(k-1)) / k=q at *
 generalize (a+(k-1)) % k=r at *
 have h3:(k:Int)*q+r=a+(k-1):=by
  have:((k*q+r:Nat):Int)=((a+(k-1):Nat):Int):=by rw [h1]
  push_cast at this
  omega
 have e : -(a:Int)=(k-1-r)+k*(-q):=by
  have:(k:Int) * -(q:Int) = -((k:Int)*q):=Int.mul_neg _ _
  omega
 rw [e,Int.add_mul_ediv_left _ _ (by omega),Int.ediv_eq_zero_of_lt (by omega) (by omega)]
 omega
theorem zint_Shift_eq {z:Int} {n:Nat} (h0:0<n) (hn:n≤100000) (hz:blen z.natAbs≤900000):zint_Shift (iOf z) (-(n:Int))=some (iOf (z / 2 ^ n),true):=by
 have hsz:SZ z.natAbs:=by unfold SZ; omega
 have hl:=sz_len hsz
 have hW:IntKind.i64.wrap (0 - -(n:Int))=(n:Int):=by rw [w64 (by omega) (by omega)]; omega
 have hp:0<2 ^ n:=Nat.pow_pos (by decide)
 have hbz:=blen_lt z.natAbs
 have e2:((2:Int) ^ n)=((2 ^ n:Nat):Int):=by push_cast; first | done | rfl
 have hsum:SZ (z.natAbs+(2 ^ n-1)):=by
  have h1:=blen_add z.natAbs (2 ^ n-1)
  have h2:blen (2 ^ n-1)≤n:=blen_le_of (by omega)
  unfold SZ; omega
 unfold zint_Shift zint_Shift_j1
 rw [if_neg (by omega),show decide (-(n:Int)>100000)=false from decide_eq_false (by omega),if_neg (by simp),zint_of_iOf hsz]
 simp only [obn]
 rw [if_neg (by omega)]
 have fin:∀ v:Nat,SZ v→zint_Shift_j2 (-(n:Int)) ⟨⟨digs z.natAbs⟩,decide (z<0)⟩ (digs v)=some (iOf (sg (decide (z<0)) (v / 2 ^ n)),true):=by
  intro v hv
  unfold zint_Shift_j2
  have:=sz_len hv
  rw [hW,nat_Shr_eq (dgd _) (by omega) (by omega),dvd]
  simp only [obn]
  rw [zint_Make_digs _ (sz_le (Nat.div_le_self _ _) hv)]
  rfl
 by_cases hneg:z<0
 ·have h2l:(digs 1).length≤32769:=sz_len (by unfold SZ; decide)
  rw [if_pos (by simpa using hneg),nat_From_eq (by omega) (by omega)]
  simp only [obn]
  rw [hW,show (1:Int).toNat=1 from rfl,nat_Shl_eq (dgd _) (by omega) hn,dvd,Nat.one_mul]
  simp only [obn]
  have hs2:SZ (2 ^ n):=by unfold SZ; rw [blen_pow]; omega
  have h1l:=sz_len hs2
  rw [nat_Sub_eq (dgd _) (dgd _) (by omega) (by omega),dvd,dvd,if_neg (by omega)]
  simp only [obn]
  have h3l:(digs (2 ^ n-1)).length≤32769:=sz_len (sz_le (by omega) hs2)
  rw [nat_Add_eq (dgd _) (dgd _) (by omega) (by omega),dvd,dvd]
  simp only [obn]
  rw [fin _ hsum,decide_eq_true hneg,e2]
  congr 2
  have e3:z = -(z.natAbs:Int):=by omega
  conv=>rhs; rw [e3,fl_neg hp]
  rfl
 ·rw [if_neg (by simpa using hneg),fin _ hsz,decide_eq_false hneg,e2]
  congr 2
  have e3:z=(z.natAbs:Int):=by omega
  conv=>rhs; rw [e3,← Int.natCast_ediv]
  rfl
def flD (d:D):Int:=if 0≤d.e then d.m*2 ^ d.e.toNat else d.m / 2 ^ (-d.e).toNat
def floorS (d:D):Int × Int:=if inR d then (flD d,0) else (0,4)
theorem iOf_zero:(⟨false,[]⟩:ApiInt)=iOf 0:=by unfold iOf; simp [digs_zero]
theorem idiv_blen (z:Int) (n:Nat):blen (z / 2 ^ n).natAbs≤blen z.natAbs:=by
 refine blen_mono ?_
 have hp:(0:Int)<2 ^ n:=Int.pow_pos (by decide)
 rcases Int.lt_or_le z 0 with h | h
 ·have h1:z≤z / 2 ^ n:=by
   rw [Int.le_ediv_iff_mul_le hp]
   have h3:=Int.mul_nonpos_of_nonpos_of_nonneg (a:=z) (b:=2 ^ n-1) (by omega) (by omega)
   rw [Int.mul_sub,Int.mul_one] at h3
   omega
  have h2:z / 2 ^ n<0:=Int.ediv_neg_of_neg_of_pos h hp
  omega
 ·have h1:=Int.ediv_le_self (a:=z) (2 ^ n) h
  have h2:=Int.ediv_nonneg h (show (0:Int)≤2 ^ n by omega)
  omega
theorem floor_loop {c:Nat} : ∀ (z:Int) (n:Nat),n≤100000*c→n≤200000→blen z.natAbs≤900000→∀ f,c<f→dyad_Floor_l3 f (n:Int) (iOf z).Neg (iOf z).Mag=some (iOf (z / 2 ^ n),0):=by
 induction c with
 | zero=>
  intro z n hn _ _ f hf
  obtain ⟨f,rfl⟩:∃ g,f=g+1:=⟨f-1,by omega⟩
  have:n=0:=by omega
  subst this
  rw [dyad_Floor_l3,if_neg (by omega)]
  unfold dyad_Floor_j2
  rw [Int.pow_zero,Int.ediv_one]
 | succ c ih=>
  intro z n hn hn2 hz f hf
  obtain ⟨f,rfl⟩:∃ g,f=g+1:=⟨f-1,by omega⟩
  rw [dyad_Floor_l3]
  by_cases h0:n=0
  ·subst h0
   rw [if_neg (by omega)]
   unfold dyad_Floor_j2
   rw [Int.pow_zero,Int.ediv_one]
  ·rw [if_pos (by omega)]
   have eta:(⟨(iOf z).Neg,(iOf z).Mag⟩:ApiInt)=iOf z:=rfl
   have hm:mn (n:Int) 100000=((min n 100000:Nat):Int):=by unfold mn; split<;>omega
   rw [eta,hm,w64 (by omega) (by omega),show 0-((min n 100000:Nat):Int) = -((min n 100000:Nat):Int) by omega,zint_Shift_eq (by omega) (by omega) hz]
   simp only [obn]
   rw [w64 (by omega) (by omega)]
   by_cases h1:n≤100000
   ·rw [show min n 100000=n by omega]
    obtain ⟨f,rfl⟩:∃ g,f=g+1:=⟨f-1,by omega⟩
    rw [dyad_Floor_l3,if_neg (by omega)]
    rfl
   ·rw [show min n 100000=100000 by omega,show (n:Int)-100000=((n-100000:Nat):Int) by omega]
    have h2:=ih (z / 2 ^ 100000) (n-100000) (by omega) (by omega) (Nat.le_trans (idiv_blen z 100000) hz) f (by omega)
    rw [h2,Int.ediv_ediv_of_nonneg (Int.pow_nonneg (by decide)),← Int.pow_add,show 100000+(n-100000)=n by omega]
theorem dyad_Floor_eq {d:D} (hd:WD d):dyad_Floor (dy d)=some (iOf (floorS d).1,(floorS d).2):=by
 have he:=hd.e
 have hb:=hd.2
 unfold dyad_Floor dyad_Floor_j1 floorS
 rw [right_one hd]
 simp only [obn]
 rw [if_neg (by simp),dyad_inRange_eq hd.sz hd.szE]
 simp only [obn,must_eq]
 cases hr:inR d with
 | false=>
  simp only [Bool.false_eq_true,if_false,if_true]
  rw [if_pos (by decide),iOf_zero]
 | true=>
  simp only [if_true]
  rw [if_neg (by decide)]
  unfold flD
  have hE:(dy d).E=d.e:=rfl
  have hM:(dy d).M=iOf d.m:=rfl
  rw [hE,hM]
  by_cases h0:0≤d.e
  ·obtain ⟨n,hn⟩:∃ n:Nat,d.e=(n:Int):=⟨d.e.toNat,by omega⟩
   rw [if_pos (by omega),if_pos h0,hn,Int.toNat_natCast,show (iOf d.m).Mag=digs d.m.natAbs from rfl,dyad_up_eq (by omega)]
   simp only [obn]
   rw [show (iOf d.m).Neg=decide (d.m<0) from rfl,zint_Make_digs _ (by unfold SZ; have:=blen_mul d.m.natAbs (2 ^ n); have:=blen_pow n; omega)]
   simp only [obn]
   congr 3
   rw [Nat.mul_comm,sg_mul,sg_abs,Int.mul_comm]
   push_cast
   rfl
  ·obtain ⟨n,hn⟩:∃ n:Nat,d.e = -(n:Int):=⟨(-d.e).toNat,by omega⟩
   rw [if_neg (by omega),if_neg h0,hn,w64 (by omega) (by omega),show 0 - -(n:Int)=(n:Int) by omega,show (- -(n:Int)).toNat=n by omega]
   exact floor_loop (c:=2) d.m n (by omega) (by omega) (by omega) fuel (by unfold fuel; omega)
theorem digs_two {n:Nat} (h:(digs n).length≤2):n=((digs n).getD 0 0).toNat+4294967296*((digs n).getD 1 0).toNat:=by
 have h1:=dvd n
 have h2:dval (digs n)=((digs n).getD 0 0).toNat+4294967296*((digs n).getD 1 0).toNat:=by
  rw [show dval (digs n)=dval ((digs n).drop 0) by simp,dval_drop,dval_drop,List.drop_eq_nil_of_le (by omega)]
  simp [dval]
 omega
theorem digs_len_two {n:Nat} : (digs n).length≤2↔n<18446744073709551616:=by
 constructor
 ·intro h
  have h2:=dval_lt (dgd n)
  rw [dvd] at h2
  have h3:4294967296 ^ (digs n).length≤4294967296 ^ 2:=Nat.pow_le_pow_right (by decide) h
  have h4:(4294967296:Nat) ^ 2=18446744073709551616:=by decide
  omega
 ·intro h
  have h4:(4294967296:Nat) ^ 2=18446744073709551616:=by decide
  exact digs_length (k:=2) (by omega)
theorem nat_Small_eq {n:Nat} (hl:(digs n).length≤1099511627776):nat_Small (digs n)=some (if n<18446744073709551616 then ((n:Int),true) else (0,false)):=by
 unfold nat_Small
 rw [nat_trim_eq (dgd _) (by omega),dvd]
 simp only [obn]
 by_cases hn:n<18446744073709551616
 ·have h2:=digs_len_two.2 hn
  have hd:=digs_two h2
  rw [if_pos hn]
  by_cases h0:(digs n).length=0
  ·rw [if_pos (by omega)]
   have:digs n=[]:=List.eq_nil_of_length_eq_zero h0
   rw [this] at hd
   simp at hd
   rw [hd]; rfl
  ·rw [if_neg (by omega)]
   obtain ⟨a,ha,ha2⟩:=digN (dgd n) 0
   obtain ⟨b,hb,hb2⟩:=digN (dgd n) 1
   rw [ha,hb,Int.toNat_natCast,Int.toNat_natCast] at hd
   by_cases h1:(digs n).length=1
   ·rw [if_pos (by omega),if_pos (by omega),kz,ha,u64n (by omega)]
    have:(digs n).getD 1 0=0:=by simp [List.getD,List.getElem?_eq_none (show (digs n).length≤1 by omega)]
    congr 3; omega
   ·have h1b:(digs n).length=2:=by omega
    rw [if_neg (by omega),if_pos (by omega),if_pos (by omega),if_pos (by omega),kz,ha,hb,u64n (by omega),u64n (by omega),shl32n hb2,or64n (by omega) (by omega),or_lo ha2]
    congr 3; omega
 ·have h2:=mt digs_len_two.1 hn
  rw [if_neg hn,if_neg (by omega),if_neg (by omega),if_neg (by omega)]
def smallZ (z:Int):Int × Bool:=if -9223372036854775808≤z∧z≤9223372036854775807 then (z,true) else (0,false)
theorem zint_Small_eq {z:Int} (hz:SZ z.natAbs):zint_Small (iOf z)=some (smallZ z):=by
 have hl:=sz_len hz
 unfold zint_Small
 rw [zint_of_iOf hz]
 simp only [obn]
 rw [nat_Small_eq (by omega)]
 simp only [obn]
 unfold zint_Small_j1 zint_Small_j2 smallZ
 by_cases hn:z.natAbs<18446744073709551616
 ·rw [if_pos hn]
  simp only
  rw [if_pos True.intro]
  by_cases h0:z<0
  ·rw [if_pos (by simpa using h0)]
   by_cases h1:(z.natAbs:Int)≤9223372036854775808
   ·rw [decide_eq_true h1,if_pos rfl,if_pos (by omega)]
    congr 2
    rw [wu64,show (0-(z.natAbs:Int)) % 18446744073709551616=z+18446744073709551616 by omega]
    unfold IntKind.wrap
    simp [IntKind.bits,IntKind.signed]
    omega
   ·rw [decide_eq_false h1,if_neg (by simp),if_pos True.intro,if_neg (by simp [h0]),if_neg (by simp),if_neg (by omega)]
  ·rw [if_neg (by simpa using h0),if_neg (by simp),if_pos True.intro,if_pos (by simpa using h0)]
   by_cases h1:(z.natAbs:Int)<9223372036854775808
   ·rw [decide_eq_true h1,if_pos rfl,if_pos (by omega),w64 (by omega) (by omega)]
    congr 2; omega
   ·rw [decide_eq_false h1,if_neg (by simp),if_neg (by omega)]
 ·rw [if_neg hn]
  simp only
  rw [if_neg (by simp),if_neg (by simp),if_neg (by simp),if_neg (by simp),if_neg (by omega)]
theorem smallZ_in (z:Int) : -9223372036854775808≤(smallZ z).1∧(smallZ z).1≤9223372036854775807:=by
 unfold smallZ; split
 ·assumption
 ·simp
theorem flD_sz {d:D} (hd:WD d):SZ (flD d).natAbs:=by
 have he:=hd.e
 have hb:=hd.2
 unfold flD SZ
 split
 ·have:=blen_abs_shl d.m d.e.toNat; omega
 ·have:=idiv_blen d.m (-d.e).toNat; omega
theorem floorS_sz {d:D} (hd:WD d):SZ (floorS d).1.natAbs:=by
 unfold floorS; split
 ·exact flD_sz hd
 ·unfold SZ; decide
def pS (d:D) (e:Int):I × Int:=st e zI (⟨d,d⟩,0)
def jS (n:Int) (e:Int):I × Int:=st e zI (intI n,0)
theorem SI_pS {d:D} (h:WD d) (hb:blen d.m.natAbs≤1000) (e:Int):SI (pS d e).1:=SI_st (r:=(⟨d,d⟩,0)) (SI_pt h hb) e
theorem SI_jS {n:Int} (hn : -9223372036854775808≤n∧n≤9223372036854775807) (e:Int):SI (jS n e).1:=SI_st (r:=(intI n,0)) (SI_int hn) e
def tuH (w:Nat):I × Int:=scS (piS w 0).1 (-1) (piS w 0).2
def tuQ (d:D) (w:Nat) (h:I × Int):I × Int:=
 let x:=pS d h.2
 let q:=dS w x.1 h.1 x.2
 let f:=pS ⟨1,-1⟩ q.2
 aS w q.1 f.1 f.2
def tuR (d:D) (w:Nat) (h:I × Int) (k e:Int):I × Int:=
 let x:=pS d e
 let i:=jS k x.2
 let m:=mS w i.1 h.1 i.2
 suS w x.1 m.1 m.2
def turnsT (q:I × Int) (r:Int→I × Int):Int × I × Int:=
 if q.2≠0 then (0,zI,q.2) else
 if (floorS q.1.lo).2≠0∨(smallZ (floorS q.1.lo).1).2=false then (0,zI,4) else
 if (r (smallZ (floorS q.1.lo).1).1).2≠0 then (0,zI,(r (smallZ (floorS q.1.lo).1).1).2) else ((smallZ (floorS q.1.lo).1).1,(r (smallZ (floorS q.1.lo).1).1).1,0)
def turnsH (d:D) (w:Nat) (h:I × Int):Int × I × Int:=turnsT (tuQ d w h) fun k=>tuR d w h k (tuQ d w h).2
def turnsS (d:D) (p:Nat):Int × I × Int:=
 if d.m≠0∧11<d.e+(blen d.m.natAbs:Nat) then (0,zI,4) else turnsH d (p+32) (tuH (p+32))
def turnsR (d:D) (p:Int):Int × I × Int:=if fitB d p then turnsS d p.toNat else (0,zI,1)
theorem tfits_eq {d:D} (hd:okD d) (hs:SZ d.m.natAbs) (p:Int):trig_fits (dy d) p=some (fitB d p):=by
 unfold trig_fits trig_fits_j1 fitB
 by_cases h1:2≤p
 ·rw [if_pos (by omega),decide_eq_true h1]
  by_cases h2:p≤336
  ·rw [if_pos h2,decide_eq_true h2,dyad_Right_dy hd hs]
   simp only [obn]
   rw [if_pos True.intro,bits_dy hs]
   simp only [obn]
   congr 1
   simp
   omega
  ·rw [if_neg h2,decide_eq_false h2]; rfl
 ·rw [if_neg (by omega),decide_eq_false h1]; rfl
theorem SI_tuH {w:Nat} (hw:w≤400):SI (tuH w).1:=SI_sc (SI_pi hw 0) _ _
theorem WD_h1:WD ⟨1,-1⟩:=WD_half (by omega)
theorem SI_tuQ {d:D} {w:Nat} (hw:w≤400) {h:I × Int} (hh:SI h.1):SI (tuQ d w h).1:=SI_aS hw (SI_dS hw _ hh _) (SI_pS WD_h1 (by decide) _) _
theorem SI_tuR {d:D} (hd:WD d) (hb:blen d.m.natAbs≤1000) {w:Nat} (hw:w≤400) (h:I × Int) (k e:Int):SI (tuR d w h k e).1:=SI_suS hw (SI_pS hd hb _) (SI_mS hw _ _ _) _
theorem SI_turnsT {q:I × Int} {r:Int→I × Int} (h:∀ k,SI (r k).1):SI (turnsT q r).2.1:=by
 unfold turnsT
 split
 ·exact SI_z
 ·split
  ·exact SI_z
  ·split
   ·exact SI_z
   ·exact h _
theorem SI_turnsS {d:D} (hd:WD d) (hb:blen d.m.natAbs≤1000) {p:Nat} (hp:p≤336):SI (turnsS d p).2.1:=by
 unfold turnsS turnsH
 split
 ·exact SI_z
 ·exact SI_turnsT fun k=>SI_tuR hd hb (by omega) _ _ _
theorem pPS {d:D} (h:WD d) (e p:Int):cv_Point (dy d) e p=some (iv (pS d e).1,(pS d e).2):=ivPoint_eq h e p
theorem pJS {n:Int} (hn : -9223372036854775808≤n∧n≤9223372036854775807) (e p:Int):cv_Int n e p=some (iv (jS n e).1,(jS n e).2):=ivInt_eq hn e p
theorem turns_h {d:D} (hd:WD d) (hb:blen d.m.natAbs≤400) {w:Nat} (hw:2≤w∧w≤400) {h:I × Int} (hh:SI h.1) {s:Int × Bool} (hs : -9223372036854775808≤s.1∧s.1≤9223372036854775807) (q:I × Int):trig_Turns_j2 (dy d) (iv q.1,q.2) (0,0,(w:Int)) s (iv h.1,h.2) false=some ((if (tuR d w h s.1 q.2).2≠0 then (0,zI,(tuR d w h s.1 q.2).2) else (s.1,(tuR d w h s.1 q.2).1,0)).1,iv (if (tuR d w h s.1 q.2).2≠0 then ((0:Int),zI,(tuR d w h s.1 q.2).2) else (s.1,(tuR d w h s.1 q.2).1,0)).2.1,(if (tuR d w h s.1 q.2).2≠0 then ((0:Int),zI,(tuR d w h s.1 q.2).2) else (s.1,(tuR d w h s.1 q.2).1,0)).2.2):=by
 have hf2:suS w (pS d q.2).1 (mS w (jS s.1 (pS d q.2).2).1 h.1 (jS s.1 (pS d q.2).2).2).1 (mS w (jS s.1 (pS d q.2).2).1 h.1 (jS s.1 (pS d q.2).2).2).2=tuR d w h s.1 q.2:=rfl
 have s1:=SI_pS hd (show blen d.m.natAbs≤1000 by omega) q.2
 have s2:=SI_jS hs (pS d q.2).2
 have s3:=SI_mS hw.2 (jS s.1 (pS d q.2).2).1 h.1 (jS s.1 (pS d q.2).2).2
 have e1:=pPS hd q.2 (w:Int)
 have e2:=pJS hs (pS d q.2).2 (w:Int)
 have e3:=pMul hw s2 hh (jS s.1 (pS d q.2).2).2
 have e4:=pSub hw s1 s3 (mS w (jS s.1 (pS d q.2).2).1 h.1 (jS s.1 (pS d q.2).2).2).2
 rw [hf2] at e4
 generalize tuR d w h s.1 q.2=r at *
 generalize pS d q.2=x at *
 generalize jS s.1 x.2=i at *
 generalize mS w i.1 h.1 i.2=m at *
 unfold trig_Turns_j2
 rw [if_neg (by simp)]
 refine Eq.trans (congrArg (fun o=>Option.bind o _) e1) ?_
 simp only [obn]
 refine Eq.trans (congrArg (fun o=>Option.bind o _) e2) ?_
 simp only [obn]
 refine Eq.trans (congrArg (fun o=>Option.bind o _) e3) ?_
 simp only [obn]
 refine Eq.trans (congrArg (fun o=>Option.bind o _) e4) ?_
 simp only [obn]
 unfold iv_trouble_Err
 simp only [obn]
 by_cases h2:r.2=0
 ·rw [if_neg (by simp [h2]),if_neg (by simp [h2])]
 ·rw [if_pos h2,if_pos h2,zI_eta]
theorem turns_t (d:D) {w:Nat} (h:I × Int) (s:Int × Bool) (q:I × Int):trig_Turns_j2 (dy d) (iv q.1,q.2) (0,0,(w:Int)) s (iv h.1,h.2) true=some (0,iv zI,4):=by
 unfold trig_Turns_j2
 rw [if_pos rfl,zI_eta]
theorem turns_j1 {d:D} (hd:WD d) (hb:blen d.m.natAbs≤400) {p:Nat} (hp:2≤p∧p≤336):trig_Turns_j1 (p:Int) (dy d) false=some ((turnsH d (p+32) (tuH (p+32))).1,iv (turnsH d (p+32) (tuH (p+32))).2.1,(turnsH d (p+32) (tuH (p+32))).2.2):=by
 have hw:2≤p+32∧p+32≤400:=by omega
 have e0:=Pi_eq hw 0
 have e1:=pScale (SI_pi hw.2 0) (n:=-1) (by omega) (piS (p+32) 0).2 ((p+32:Nat):Int)
 have hh:scS (piS (p+32) 0).1 (-1) (piS (p+32) 0).2=tuH (p+32):=rfl
 have s0:=SI_tuH hw.2
 rw [hh] at e1
 generalize tuH (p+32)=h at *
 generalize piS (p+32) 0=g at *
 unfold trig_Turns_j1
 rw [if_neg (by simp),w64 (by omega) (by omega),show (p:Int)+32=((p+32:Nat):Int) by omega,ivNew_eq hw]
 simp only [obn]
 rw [e0]
 simp only [obn]
 refine Eq.trans (congrArg (fun o=>Option.bind o _) e1) ?_
 simp only [obn]
 generalize p+32=w at *
 clear e0 e1 hh
 have hf:aS w (dS w (pS d h.2).1 h.1 (pS d h.2).2).1 (pS ⟨1,-1⟩ (dS w (pS d h.2).1 h.1 (pS d h.2).2).2).1 (pS ⟨1,-1⟩ (dS w (pS d h.2).1 h.1 (pS d h.2).2).2).2=tuQ d w h:=rfl
 have s1:=SI_pS hd (show blen d.m.natAbs≤1000 by omega) h.2
 have s2:=SI_dS hw.2 (pS d h.2).1 s0 (pS d h.2).2
 have s3:=SI_pS WD_h1 (by decide) (dS w (pS d h.2).1 h.1 (pS d h.2).2).2
 have f1:=pPS hd h.2 (w:Int)
 have f2:=pDiv hw s1 s0 (pS d h.2).2
 have f3:=pPS WD_h1 (dS w (pS d h.2).1 h.1 (pS d h.2).2).2 (w:Int)
 have f4:=pAdd hw s2 s3 (pS ⟨1,-1⟩ (dS w (pS d h.2).1 h.1 (pS d h.2).2).2).2
 have sq:=SI_tuQ (d:=d) hw.2 s0
 rw [hf] at f4
 unfold turnsH
 have kh:=fun {s:Int × Bool} hs=>turns_h hd hb hw s0 (s:=s) hs (tuQ d w h)
 have kt:=fun s=>turns_t d (w:=w) h s (tuQ d w h)
 generalize tuQ d w h=q at *
 generalize pS d h.2=x at *
 generalize dS w x.1 h.1 x.2=y at *
 generalize pS ⟨1,-1⟩ y.2=z at *
 refine Eq.trans (congrArg (fun o=>Option.bind o _) f1) ?_
 simp only [obn]
 refine Eq.trans (congrArg (fun o=>Option.bind o _) f2) ?_
 simp only [obn]
 rw [dyad_Half_eq (by omega)]
 simp only [obn]
 refine Eq.trans (congrArg (fun o=>Option.bind o _) f3) ?_
 simp only [obn]
 refine Eq.trans (congrArg (fun o=>Option.bind o _) f4) ?_
 simp only [obn]
 unfold iv_trouble_Err
 simp only [obn]
 unfold turnsT
 by_cases h1:q.2=0
 ·rw [if_neg (by simp [h1]),if_neg (by simp [h1]),ivLo]
  have g1:=dyad_Floor_eq sq.ok.1
  have g2:=zint_Small_eq (floorS_sz sq.ok.1)
  have hk:=smallZ_in (floorS q.1.lo).1
  generalize floorS q.1.lo=f at *
  refine Eq.trans (congrArg (fun o=>Option.bind o _) g1) ?_
  simp only [obn]
  refine Eq.trans (congrArg (fun o=>Option.bind o _) g2) ?_
  simp only [obn]
  generalize smallZ f.1=s at *
  by_cases h2:f.2=0
  ·rw [if_neg (by simp [h2])]
   by_cases h3:s.2=false
   ·rw [if_pos (Or.inr h3),h3,show (!false)=true from rfl,kt]
   ·have h3':s.2=true:=by simpa using h3
    rw [if_neg (by simp [h2,h3']),h3',show (!true)=false from rfl,kh hk]
  ·rw [if_pos h2,if_pos (Or.inl h2),kt]
 ·rw [if_pos h1,if_pos h1,zI_eta]
theorem Turns_eq {d:D} (hd:WD d) (p:Int):trig_Turns (dy d) p=some ((turnsR d p).1,iv (turnsR d p).2.1,(turnsR d p).2.2):=by
 unfold trig_Turns turnsR
 rw [tfits_eq hd.1 hd.sz]
 simp only [obn]
 cases hf:fitB d p with
 | false=>rw [if_pos (by simp),if_neg (by simp),zI_eta]
 | true=>
  obtain ⟨⟨q,rfl,hq⟩,hb⟩:=fitB_p hf
  rw [if_neg (by simp),if_pos rfl,Int.toNat_natCast,dyad_Size_eq hd]
  simp only [obn]
  unfold sizeB
  by_cases h0:d.m=0
  ·rw [if_pos h0,if_neg (by simp)]
   unfold turnsS; rw [if_neg (by simp [h0])]; exact turns_j1 hd hb hq
  ·rw [if_neg h0,if_pos rfl]
   by_cases h11:11<d.e+(blen d.m.natAbs:Nat)
   ·rw [show decide (d.e+(blen d.m.natAbs:Nat)>11)=true from decide_eq_true h11]
    unfold trig_Turns_j1 turnsS
    rw [if_pos rfl,if_pos ⟨h0,h11⟩,zI_eta]
   ·rw [show decide (d.e+(blen d.m.natAbs:Nat)>11)=false from decide_eq_false h11]
    unfold turnsS; rw [if_neg (by simp [h11])]; exact turns_j1 hd hb hq
theorem SI_turnsR {d:D} (hd:WD d) {p:Int} : SI (turnsR d p).2.1:=by
 unfold turnsR
 split
 ·rename_i h
  obtain ⟨⟨q,rfl,hq⟩,hb⟩:=fitB_p h
  rw [Int.toNat_natCast]; exact SI_turnsS hd (by omega) hq.2
 ·exact SI_z
theorem shr_one64 (z:Int):shrI .i64 z 1=z / 2:=by
 unfold shrI
 rw [show min (1:Int).toNat IntKind.i64.bits=1 by decide,Int.fdiv_eq_ediv_of_nonneg _ (by decide)]
 rfl
def quS (k:Int) (y:I) (p:Nat):I × Int:=
 let a:=if k % 2=0 then st 0 zI (sinI (p+32) y) else st 0 zI (cosI (p+32) y)
 if k / 2 % 2=0 then doneS p a else doneS p (nS a.1 a.2)
theorem SI_quA (k:Int) {y:I} (hy:SI y) {w:Nat} (hw:w≤400):SI (if k % 2=0 then st 0 zI (sinI w y) else st 0 zI (cosI w y)).1:=by
 split
 ·exact SI_st (SI_sin hw hy) 0
 ·exact SI_st (SI_cos hw) 0
theorem SI_quS {k:Int} {y:I} (hy:SI y) {p:Nat} (hp:p≤336):SI (quS k y p).1:=by
 have h:=SI_quA k hy (w:=p+32) (by omega)
 unfold quS
 simp only
 split
 ·exact SI_done h (by omega)
 ·exact SI_done (SI_nS h _) (by omega)
theorem tdone_eq {a:I} (ha:SI a) {p:Nat} (hp:2≤p∧p≤400) (e w:Int):trig_done (iv a) (p:Int) e w=some (iv (doneS p (a,e)).1,(doneS p (a,e)).2):=by
 unfold trig_done iv_trouble_Err
 simp only [obn]
 by_cases h:e=0
 ·subst h
  rw [if_neg (by simp),ivNew_eq hp]
  simp only [obn]
  have:=ivOut_eq ha.ok hp 0
  refine Eq.trans (congrArg (fun o=>Option.bind o _) this) ?_
  rfl
 ·rw [if_pos h]
  unfold doneS
  rw [st_ne h,iv_z]
theorem one_a (k:Int):trig_one_func_c_iv_Calc_y_api_Iv_api_Iv_69d9 k=some (if k % 2=0 then Sum.inl () else Sum.inr ()):=by
 unfold trig_one_func_c_iv_Calc_y_api_Iv_api_Iv_69d9
 rw [and_one64]
 by_cases h:k % 2=0
 ·rw [if_pos h,if_pos h]
 ·rw [if_neg h,if_pos (by omega),if_neg h]
theorem one_b (k a b:Int):trig_one_func_a_api_Iv_api_Iv_4a04 k a b=some (if k % 2=0 then Sum.inl () else Sum.inr ()):=by
 unfold trig_one_func_a_api_Iv_api_Iv_4a04
 rw [and_one64]
 by_cases h:k % 2=0
 ·rw [if_pos h,if_pos h]
 ·rw [if_neg h,if_pos (by omega),if_neg h]
theorem quarter_of {x:AD} {k:Int} {y:I} (hy:SI y) {p:Nat} (hp:2≤p∧p≤336) (e:trig_Turns x (p:Int)=some (k,iv y,0)) (m:Int):trig_quarter x (p:Int) m=some (iv (quS (IntKind.i64.wrap (k+m)) y p).1,(quS (IntKind.i64.wrap (k+m)) y p).2):=by
 have hw:2≤p+32∧p+32≤400:=by omega
 have h1:=smallSin_eq hw hy 0
 have h2:=smallCos_eq hw hy 0
 have g1:=SI_st (SI_sin hw.2 hy) 0
 have g2:=SI_st (SI_cos (y:=y) hw.2) 0
 unfold trig_quarter
 rw [e]
 simp only [obn]
 rw [if_neg (by simp),w64 (x:=(p:Int)+32) (by omega) (by omega),show (p:Int)+32=((p+32:Nat):Int) by omega,ivNew_eq hw]
 simp only [obn]
 rw [one_a]
 simp only [obn]
 unfold quS
 simp only
 generalize IntKind.i64.wrap (k+m)=z
 by_cases h0:z % 2=0
 ·rw [if_pos h0,if_pos h0]
  simp only
  refine Eq.trans (congrArg (fun o=>Option.bind o _) h1) ?_
  generalize st 0 zI (sinI (p+32) y)=a at *
  simp only [obn]
  rw [one_b,shr_one64]
  simp only [obn]
  by_cases h3:z / 2 % 2=0
  ·rw [if_pos h3,if_pos h3]
   simp only
   unfold trig_quarter_1
   simp only [obn]
   refine Eq.trans (congrArg (fun o=>Option.bind o _) (tdone_eq g1 (by omega) _ _)) ?_
   rfl
  ·rw [if_neg h3,if_neg h3]
   simp only
   refine Eq.trans (congrArg (fun o=>Option.bind o _) (pNeg g1 _ _)) ?_
   simp only [obn]
   refine Eq.trans (congrArg (fun o=>Option.bind o _) (tdone_eq (SI_nS g1 _) (by omega) _ _)) ?_
   rfl
 ·rw [if_neg h0,if_neg h0]
  simp only
  refine Eq.trans (congrArg (fun o=>Option.bind o _) h2) ?_
  generalize st 0 zI (cosI (p+32) y)=a at *
  simp only [obn]
  rw [one_b,shr_one64]
  simp only [obn]
  by_cases h3:z / 2 % 2=0
  ·rw [if_pos h3,if_pos h3]
   simp only
   unfold trig_quarter_1
   simp only [obn]
   refine Eq.trans (congrArg (fun o=>Option.bind o _) (tdone_eq g2 (by omega) _ _)) ?_
   rfl
  ·rw [if_neg h3,if_neg h3]
   simp only
   refine Eq.trans (congrArg (fun o=>Option.bind o _) (pNeg g2 _ _)) ?_
   simp only [obn]
   refine Eq.trans (congrArg (fun o=>Option.bind o _) (tdone_eq (SI_nS g2 _) (by omega) _ _)) ?_
   rfl
def sinR (d:D) (p m:Int):I × Int:=if (turnsR d p).2.2≠0 then (zI,(turnsR d p).2.2) else quS (IntKind.i64.wrap ((turnsR d p).1+m)) (turnsR d p).2.1 p.toNat
theorem turnsR_fit {d:D} {p:Int} (h:(turnsR d p).2.2=0):∃ q:Nat,p=(q:Int)∧2≤q∧q≤336:=by
 unfold turnsR at h
 cases hf:fitB d p with
 | false=>rw [hf,if_neg (by simp)] at h; exact absurd h (by decide)
 | true=>exact (fitB_p hf).1
theorem SI_sinR {d:D} (hd:WD d) {p m:Int} : SI (sinR d p m).1:=by
 unfold sinR
 by_cases h:(turnsR d p).2.2=0
 ·rw [if_neg (by simp [h])]
  obtain ⟨q,hq,hq2⟩:=turnsR_fit h
  exact SI_quS (SI_turnsR hd) (by omega)
 ·rw [if_pos h]; exact SI_z
theorem quarter_eq {d:D} (hd:WD d) (p m:Int):trig_quarter (dy d) p m=some (iv (sinR d p m).1,(sinR d p m).2):=by
 have ht:=Turns_eq hd p
 have hs:SI (turnsR d p).2.1:=SI_turnsR hd
 have hf:=turnsR_fit (d:=d) (p:=p)
 unfold sinR
 generalize turnsR d p=t at *
 by_cases h:t.2.2=0
 ·obtain ⟨q,rfl,hq⟩:=hf h
  rw [if_neg (by simp [h]),Int.toNat_natCast]
  rw [h] at ht
  exact quarter_of hs hq ht m
 ·rw [if_pos h]
  unfold trig_quarter
  rw [ht]
  simp only [obn]
  rw [if_pos h,zI_eta]
theorem tCos_eq {d:D} (hd:WD d) (p:Int):trig_Cos (dy d) p=some (iv (sinR d p 1).1,(sinR d p 1).2):=by
 unfold trig_Cos
 refine Eq.trans (congrArg (fun o=>Option.bind o _) (quarter_eq hd p 1)) ?_
 rfl
end Go.Proofs.YtoakhpdeadglpaaGreat.Gen
namespace Go.An
abbrev clsT {F:Type→Type} {α:Type} (_:F α):Type→Type:=F
abbrev clsO {S:Type→Type} {F:(R:Type)→S R→(l:LE R)→LT R→Std.IsPreorder R→Prop} {α:Type} {s:S α} {l:LE α} {t:LT α} {p:Std.IsPreorder α} (_:F α s l t p):(R:Type)→S R→(l:LE R)→LT R→Std.IsPreorder R→Prop:=fun R a b c d=>F R a b c d
abbrev clsN {S:Type→Type} {F:(R:Type)→S R→Prop} {α:Type} {s:S α} (_:F α s):(R:Type)→S R→Prop:=fun R a=>F R a
theorem qabs {a b x y:Rat} (hx : -a≤x∧x≤a) (hy : -b≤y∧y≤b) : -(a*b)≤x*y∧x*y≤a*b:=by
 have h1:=Rat.mul_nonneg (show 0≤a-x by grind) (show 0≤b-y by grind)
 have h2:=Rat.mul_nonneg (show 0≤a+x by grind) (show 0≤b+y by grind)
 have h3:=Rat.mul_nonneg (show 0≤a-x by grind) (show 0≤b+y by grind)
 have h4:=Rat.mul_nonneg (show 0≤a+x by grind) (show 0≤b-y by grind)
 constructor<;>grind
structure CS where
 f:Nat→Rat
 c:∀ e:Rat,0<e→∃ N,∀ m n,N≤m→N≤n→f m-f n≤e
theorem CS.ext {a b:CS} (h:∀ n,a.f n=b.f n):a=b:=by
 cases a; cases b; simp only [CS.mk.injEq]; exact funext h
def CS.le (a b:CS):Prop:=∀ e:Rat,0<e→∃ N,∀ n,N≤n→a.f n-b.f n≤e
theorem CS.le_refl (a:CS):a.le a:=fun e h=>⟨0,fun n _=>by grind⟩
theorem CS.le_trans {a b c:CS} (h:a.le b) (k:b.le c):a.le c:=fun e he=>by
 obtain ⟨N,hN⟩:=h (e / 2) (by grind)
 obtain ⟨M,hM⟩:=k (e / 2) (by grind)
 refine ⟨max N M,fun n hn=>?_⟩
 have h1:=hN n (by omega)
 have h2:=hM n (by omega)
 grind
theorem CS.gap {a b:CS} (h:¬a.le b):∃ e:Rat,0<e∧∃ N,∀ n,N≤n→b.f n+e≤a.f n:=by
 unfold CS.le at h
 simp only [Classical.not_forall,not_exists] at h
 obtain ⟨e,he,h⟩:=h
 obtain ⟨N,hN⟩:=a.c (e / 4) (by grind)
 obtain ⟨M,hM⟩:=b.c (e / 4) (by grind)
 obtain ⟨n,hn,k⟩:=h (max N M)
 refine ⟨e / 2,by grind,max N M,fun m hm=>?_⟩
 have h1:=hN n m (by omega) (by omega)
 have h2:=hM m n (by omega) (by omega)
 grind
theorem CS.le_total (a b:CS):a.le b∨b.le a:=by
 rcases Classical.em (a.le b) with h | h
 ·exact Or.inl h
 ·obtain ⟨e,he,N,hN⟩:=CS.gap h
  exact Or.inr fun d hd=>⟨N,fun n hn=>by have:=hN n hn; grind⟩
theorem CS.bnd (a:CS):∃ B:Rat,0<B∧∃ N,∀ n,N≤n→-B≤a.f n∧a.f n≤B:=by
 obtain ⟨N,hN⟩:=a.c 1 (by decide)
 have key:∀ x:Rat,∃ B:Rat,0<B∧x+1≤B∧-B≤x-1:=by
  intro x
  rcases (show 0≤x∨x≤0 by grind) with h | h
  ·exact ⟨x+1,by grind,by grind,by grind⟩
  ·exact ⟨-x+1,by grind,by grind,by grind⟩
 obtain ⟨B,hB,h1,h2⟩:=key (a.f N)
 refine ⟨B,hB,N,fun n hn=>?_⟩
 have h3:=hN n N hn (Nat.le_refl _)
 have h4:=hN N n (Nat.le_refl _) hn
 grind
def CS.ofRat (q:Rat):CS:=⟨fun _=>q,fun e he=>⟨0,fun m n _ _=>by grind⟩⟩
def CS.neg (a:CS):CS:=⟨fun n=>-a.f n,fun e he=>by
 obtain ⟨N,hN⟩:=a.c e he
 exact ⟨N,fun m n hm hn=>by have:=hN n m hn hm; grind⟩⟩
def CS.add (a b:CS):CS:=⟨fun n=>a.f n+b.f n,fun e he=>by
 obtain ⟨N,hN⟩:=a.c (e / 2) (by grind)
 obtain ⟨M,hM⟩:=b.c (e / 2) (by grind)
 refine ⟨max N M,fun m n hm hn=>?_⟩
 have h1:=hN m n (by omega) (by omega)
 have h2:=hM m n (by omega) (by omega)
 grind⟩
theorem small {e B:Rat} (he:0<e) (hB:0<B):∃ d:Rat,0<d∧B*d≤e:=⟨e*B⁻¹,Rat.mul_pos he (Rat.inv_pos.2 hB),by rw [Rat.mul_comm e,← Rat.mul_assoc,Rat.mul_inv_cancel _ (by grind),Rat.one_mul]; grind⟩
theorem CS.c2 (a:CS) {e:Rat} (he:0<e):∃ N,∀ m n,N≤m→N≤n→-e≤a.f m-a.f n∧a.f m-a.f n≤e:=by
 obtain ⟨N,hN⟩:=a.c e he
 exact ⟨N,fun m n hm hn=>⟨by have:=hN n m hn hm; grind,hN m n hm hn⟩⟩
def CS.mul (a b:CS):CS:=⟨fun n=>a.f n*b.f n,fun e he=>by
 obtain ⟨A,hA,N1,h1⟩:=a.bnd
 obtain ⟨B,hB,N2,h2⟩:=b.bnd
 obtain ⟨d,hd,hd'⟩:=small (e:=e) (B:=A+B) he (by grind)
 obtain ⟨N3,h3⟩:=a.c2 hd
 obtain ⟨N4,h4⟩:=b.c2 hd
 refine ⟨max (max N1 N2) (max N3 N4),fun m n hm hn=>?_⟩
 have k1:=qabs (h1 m (by omega)) (h4 m n (by omega) (by omega))
 have k2:=qabs (h2 n (by omega)) (h3 m n (by omega) (by omega))
 grind⟩
instance CS.st:Setoid CS:=⟨fun a b=>a.le b∧b.le a,⟨fun a=>⟨a.le_refl,a.le_refl⟩,fun h=>⟨h.2,h.1⟩,fun h k=>⟨CS.le_trans h.1 k.1,CS.le_trans k.2 h.2⟩⟩⟩
theorem CS.neg_le {a b:CS} (h:a.le b):b.neg.le a.neg:=fun e he=>by
 obtain ⟨N,hN⟩:=h e he
 exact ⟨N,fun n hn=>by have:=hN n hn; simp only [CS.neg]; grind⟩
theorem CS.add_le {a b c d:CS} (h:a.le b) (k:c.le d):(a.add c).le (b.add d):=fun e he=>by
 obtain ⟨N,hN⟩:=h (e / 2) (by grind)
 obtain ⟨M,hM⟩:=k (e / 2) (by grind)
 refine ⟨max N M,fun n hn=>?_⟩
 have h1:=hN n (by omega)
 have h2:=hM n (by omega)
 simp only [CS.add]; grind
theorem CS.add_le_iff {a b:CS} (c:CS):a.le b↔(a.add c).le (b.add c):=⟨fun h=>CS.add_le h c.le_refl,fun h e he=>by
 obtain ⟨N,hN⟩:=h e he
 exact ⟨N,fun n hn=>by have:=hN n hn; simp only [CS.add] at this; grind⟩⟩
theorem CS.eq2 {a b:CS} (h:a ≈ b) {e:Rat} (he:0<e):∃ N,∀ n,N≤n→-e≤a.f n-b.f n∧a.f n-b.f n≤e:=by
 obtain ⟨N,hN⟩:=h.1 e he
 obtain ⟨M,hM⟩:=h.2 e he
 refine ⟨max N M,fun n hn=>?_⟩
 have h1:=hN n (by omega)
 have h2:=hM n (by omega)
 grind
theorem CS.mul_le {a b:CS} (h:a ≈ b) (c:CS):(a.mul c).le (b.mul c):=fun e he=>by
 obtain ⟨C,hC,N,hN⟩:=c.bnd
 obtain ⟨d,hd,hd'⟩:=small (e:=e) (B:=C) he hC
 obtain ⟨M,hM⟩:=CS.eq2 h hd
 refine ⟨max N M,fun n hn=>?_⟩
 have k:=qabs (hN n (by omega)) (hM n (by omega))
 simp only [CS.mul]; grind
theorem CS.mul_comm' (a b:CS):a.mul b=b.mul a:=CS.ext fun n=>Rat.mul_comm _ _
theorem CS.mul_eq {a b c d:CS} (h:a ≈ b) (k:c ≈ d):a.mul c ≈ b.mul d:=by
 refine ⟨CS.le_trans (CS.mul_le h c) ?_,CS.le_trans ?_ (CS.mul_le (Setoid.symm h) c)⟩
 ·rw [CS.mul_comm' b c,CS.mul_comm' b d]; exact CS.mul_le k b
 ·rw [CS.mul_comm' b c,CS.mul_comm' b d]; exact CS.mul_le (Setoid.symm k) b
def R:Type:=Quotient CS.st
def mk (a:CS):R:=Quotient.mk _ a
theorem ind {p:R→Prop} (h:∀ a,p (mk a)) (x:R):p x:=Quotient.ind h x
def ofQ (q:Rat):R:=mk (CS.ofRat q)
instance:Neg R:=⟨Quotient.lift (fun a=>mk a.neg) fun _ _ h=>Quotient.sound ⟨CS.neg_le h.2,CS.neg_le h.1⟩⟩
instance:Add R:=⟨Quotient.lift₂ (fun a b=>mk (a.add b)) fun _ _ _ _ h k=>Quotient.sound ⟨CS.add_le h.1 k.1,CS.add_le h.2 k.2⟩⟩
instance:Sub R:=⟨fun a b=>a + -b⟩
instance:Mul R:=⟨Quotient.lift₂ (fun a b=>mk (a.mul b)) fun _ _ _ _ h k=>Quotient.sound (CS.mul_eq h k)⟩
instance:LE R:=⟨Quotient.lift₂ CS.le fun _ _ _ _ h k=>propext ⟨fun e=>CS.le_trans h.2 (CS.le_trans e k.1),fun e=>CS.le_trans h.1 (CS.le_trans e k.2)⟩⟩
instance:LT R:=⟨fun a b=>a≤b∧¬b≤a⟩
instance:NatCast R:=⟨fun n=>ofQ n⟩
instance:IntCast R:=⟨fun n=>ofQ n⟩
instance (n:Nat):OfNat R n:=⟨ofQ n⟩
def npow (x:R):Nat→R
 | 0=>1
 | n+1=>npow x n*x
instance:HPow R Nat R:=⟨npow⟩
instance:SMul Nat R:=⟨fun n x=>n*x⟩
instance:SMul Int R:=⟨fun n x=>n*x⟩
theorem mk_ext {a b:CS} (h:∀ n,a.f n=b.f n):mk a=mk b:=congrArg mk (CS.ext h)
theorem ofQ_add (p q:Rat):ofQ (p+q)=ofQ p+ofQ q:=rfl
theorem ofQ_mul (p q:Rat):ofQ (p*q)=ofQ p*ofQ q:=rfl
theorem ofQ_neg (p:Rat):ofQ (-p) = -ofQ p:=rfl
theorem radd_comm (a b:R):a+b=b+a:=by
 induction a using ind; induction b using ind; exact mk_ext fun n=>Rat.add_comm _ _
theorem rmul_comm (a b:R):a*b=b*a:=by
 induction a using ind; induction b using ind; exact mk_ext fun n=>Rat.mul_comm _ _
theorem radd_zero (a:R):a+0=a:=by
 induction a using ind; exact mk_ext fun n=>by simp only [CS.add,CS.ofRat]; grind
theorem rmul_one (a:R):a*1=a:=by
 induction a using ind; exact mk_ext fun n=>by simp only [CS.mul,CS.ofRat]; grind
theorem rdistrib (a b c:R):a*(b+c)=a*b+a*c:=by
 induction a using ind; induction b using ind; induction c using ind; exact mk_ext fun n=>by simp only [CS.mul,CS.add]; grind
theorem rzero_mul (a:R):0*a=0:=by
 induction a using ind; exact mk_ext fun n=>by simp only [CS.mul,CS.ofRat]; grind
theorem rneg_add (a:R) : -a+a=0:=by
 induction a using ind; exact mk_ext fun n=>by simp only [CS.add,CS.neg,CS.ofRat]; grind
theorem rneg_mul (a b:R) : -a*b = -(a*b):=by
 induction a using ind; induction b using ind; exact mk_ext fun n=>by simp only [CS.mul,CS.neg]; grind
instance rring:clsT Dyadic.instCommRing R where
 nsmul:=⟨fun n x=>n*x⟩
 zsmul:=⟨fun n x=>n*x⟩
 npow:=inferInstance
 add_zero:=radd_zero
 add_comm:=radd_comm
 add_assoc a b c:=by
  induction a using ind; induction b using ind; induction c using ind; exact mk_ext fun n=>Rat.add_assoc _ _ _
 mul_assoc a b c:=by
  induction a using ind; induction b using ind; induction c using ind; exact mk_ext fun n=>Rat.mul_assoc _ _ _
 mul_one:=rmul_one
 one_mul a:=by rw [rmul_comm]; exact rmul_one a
 zero_mul:=rzero_mul
 mul_zero a:=by rw [rmul_comm]; exact rzero_mul a
 mul_comm:=rmul_comm
 pow_zero _:=rfl
 pow_succ _ _:=rfl
 sub_eq_add_neg _ _:=rfl
 neg_add_cancel:=rneg_add
 neg_zsmul i a:=by
  show ofQ ((-i:Int):Rat)*a = -(ofQ i*a)
  rw [← rneg_mul,← ofQ_neg,Rat.intCast_neg]
 left_distrib:=rdistrib
 right_distrib a b c:=by rw [rmul_comm,rdistrib,rmul_comm c a,rmul_comm c b]
 intCast_neg i:=by show ofQ ((-i:Int):Rat) = -(ofQ i); rw [← ofQ_neg,Rat.intCast_neg]
 ofNat_succ n:=by show ofQ ((n+1:Nat):Rat)=ofQ n+ofQ 1; rw [← ofQ_add,Rat.natCast_add]; rfl
theorem rle_refl (a:R):a≤a:=by induction a using ind; exact CS.le_refl _
theorem rle_trans {a b c:R} (h:a≤b) (k:b≤c):a≤c:=by
 induction a using ind; induction b using ind; induction c using ind; exact CS.le_trans h k
theorem rle_antisymm {a b:R} (h:a≤b) (k:b≤a):a=b:=by
 induction a using ind; induction b using ind; exact Quotient.sound ⟨h,k⟩
theorem rle_total (a b:R):a≤b∨b≤a:=by
 induction a using ind; induction b using ind; exact CS.le_total _ _
instance:Std.IsLinearOrder R where
 le_refl:=rle_refl
 le_trans _ _ _:=rle_trans
 le_antisymm _ _:=rle_antisymm
 le_total:=rle_total
instance:Std.LawfulOrderLT R where
 lt_iff _ _:=Iff.rfl
theorem radd_le {a b:R} (c:R):a≤b↔a+c≤b+c:=by
 induction a using ind; induction b using ind; induction c using ind; exact CS.add_le_iff _
theorem lt_gap {a b:CS} (h:mk a<mk b):∃ e:Rat,0<e∧∃ N,∀ n,N≤n→a.f n+e≤b.f n:=CS.gap h.2
theorem gap_lt {a b:CS} {e:Rat} (he:0<e) {N:Nat} (h:∀ n,N≤n→a.f n+e≤b.f n):mk a<mk b:=
 ⟨fun d hd=>⟨N,fun n hn=>by have:=h n hn; grind⟩,fun k=>by
  obtain ⟨M,hM⟩:=k (e / 2) (by grind)
  have h1:=hM (max N M) (by omega)
  have h2:=h (max N M) (by omega)
  grind⟩
theorem rmul_lt {a b c:R} (h:a<b) (hc:0<c):c*a<c*b:=by
 induction a using ind; induction b using ind; induction c using ind
 obtain ⟨e,he,N,hN⟩:=lt_gap h
 obtain ⟨d,hd,M,hM⟩:=lt_gap hc
 refine gap_lt (Rat.mul_pos hd he) (N:=max N M) fun n hn=>?_
 have h1:=hN n (by omega)
 have h2:=hM n (by omega)
 simp only [CS.ofRat,CS.mul] at *
 rename_i x y z
 have h3:d*e≤z.f n*(y.f n-x.f n):=by
  have k1:=Rat.mul_le_mul_of_nonneg_left (c:=d) (show e≤y.f n-x.f n by grind) (by grind)
  have k2:=Rat.mul_le_mul_of_nonneg_right (c:=y.f n-x.f n) (show d≤z.f n by grind) (by grind)
  grind
 grind
theorem rzero_lt_one:(0:R)<1:=gap_lt (e:=1) (by decide) (N:=0) fun n _=>by simp only [CS.ofRat]; grind
theorem rmul_lt' {a b c:R} (h:a<b) (hc:0<c):a*c<b*c:=by rw [rmul_comm a,rmul_comm b]; exact rmul_lt h hc
instance:clsO Dyadic.instOrderedRing R inferInstance inferInstance inferInstance inferInstance where
 add_le_left_iff c:=radd_le c
 zero_lt_one:=rzero_lt_one
 mul_lt_mul_of_pos_left h hc:=rmul_lt h hc
 mul_lt_mul_of_pos_right h hc:=rmul_lt' h hc
instance:clsN Dyadic.instNoNatZeroDivisors R inferInstance where
 no_nat_zero_divisors k a b h1 h2:=by
  have h3:ofQ k*a=ofQ k*b:=h2
  have h4:ofQ (1 / k)*ofQ k=1:=by
   rw [← ofQ_mul]
   have:(1 / (k:Rat))*k=1:=by
    rw [Rat.div_def,Rat.one_mul,Rat.inv_mul_cancel]
    exact_mod_cast h1
   rw [this]; rfl
  have h5:ofQ (1 / k)*ofQ k*a=ofQ (1 / k)*ofQ k*b:=by grind
  rw [h4] at h5; grind
theorem ofQ_le {p q:Rat} : ofQ p≤ofQ q↔p≤q:=by
 constructor
 ·intro h
  rcases Classical.em (p≤q) with k | k
  ·exact k
  ·obtain ⟨N,hN⟩:=h ((p-q) / 2) (by grind)
   have:=hN N (Nat.le_refl _)
   simp only [CS.ofRat] at this; grind
 ·intro h e he; exact ⟨0,fun n _=>by simp only [CS.ofRat]; grind⟩
theorem ofQ_lt {p q:Rat} : ofQ p<ofQ q↔p<q:=by
 have h:=@ofQ_le q p
 constructor
 ·intro k; have:¬ofQ q≤ofQ p:=by grind
  rw [h] at this; grind
 ·intro k; have:¬q≤p:=by grind
  rw [← h] at this; grind
theorem ofQ_sub (p q:Rat):ofQ (p-q)=ofQ p-ofQ q:=by rw [Rat.sub_eq_add_neg,ofQ_add,ofQ_neg]; grind
theorem ofQ_one:ofQ 1=1:=rfl
theorem ofQ_nat (n:Nat):ofQ (n:Rat)=(n:R):=rfl
theorem ofQ_int (n:Int):ofQ (n:Rat)=(n:R):=rfl
theorem ofQ_half (e:Rat):ofQ (e / 2)+ofQ (e / 2)=ofQ e:=by rw [← ofQ_add]; congr 1; grind
theorem ofQ_pos {e:Rat} (h:0<e):0<ofQ e:=ofQ_lt.2 h
theorem ofQ_pow (q:Rat) (n:Nat):ofQ (q ^ n)=ofQ q ^ n:=by
 induction n with
 | zero=>rw [Rat.pow_zero]; rfl
 | succ n ih=>rw [Rat.pow_succ,ofQ_mul,ih]; rfl
theorem cast_le {m n:Nat} (h:m≤n):(m:R)≤(n:R):=ofQ_le.2 (by exact_mod_cast h)
theorem cast_succ (n:Nat):((n+1:Nat):R)=(n:R)+1:=by rw [← ofQ_nat,Rat.natCast_add,ofQ_add]; rfl
theorem cast_nonneg (n:Nat):0≤(n:R):=cast_le (m:=0) (Nat.zero_le n)
theorem eq_of_le {x y:R} (h:∀ e:Rat,0<e→x≤y+ofQ e):x≤y:=by
 rcases rle_total x y with k | k
 ·exact k
 ·rcases Classical.em (x≤y) with q | q
  ·exact q
  ·exfalso
   induction x using ind; induction y using ind
   rename_i a b
   obtain ⟨e,he,N,hN⟩:=lt_gap (a:=b) (b:=a) ⟨k,q⟩
   obtain ⟨M,hM⟩:=h (e / 2) (by grind) (e / 4) (by grind)
   have h1:=hN (max N M) (by omega)
   have h2:=hM (max N M) (by omega)
   simp only [CS.add,CS.ofRat] at h2
   grind
theorem near (x:R) {e:Rat} (he:0<e):∃ q:Rat,x-ofQ q≤ofQ e∧ofQ q-x≤ofQ e:=by
 induction x using ind
 rename_i a
 obtain ⟨N,hN⟩:=a.c e he
 refine ⟨a.f N,?_,?_⟩
 ·exact fun d hd=>⟨N,fun n hn=>by have:=hN n N hn (Nat.le_refl _); simp only [CS.add,CS.neg,CS.ofRat]; grind⟩
 ·exact fun d hd=>⟨N,fun n hn=>by have:=hN N n (Nat.le_refl _) hn; simp only [CS.add,CS.neg,CS.ofRat]; grind⟩
theorem archQ (x:Rat):∃ n:Nat,x≤(n:Rat):=by
 refine ⟨x.ceil.toNat,?_⟩
 have h1:=Rat.le_ceil (x:=x)
 have h2:(x.ceil:Rat)≤((x.ceil.toNat:Int):Rat):=by exact_mod_cast Int.self_le_toNat _
 have h3:((x.ceil.toNat:Int):Rat)=(x.ceil.toNat:Rat):=by exact_mod_cast rfl
 grind
theorem arch (x:R):∃ n:Nat,x≤(n:R):=by
 obtain ⟨q,h,_⟩:=near x (e:=1) (by decide)
 obtain ⟨n,hn⟩:=archQ (q+1)
 have:=ofQ_le.2 hn
 rw [ofQ_add,ofQ_nat] at this
 exact ⟨n,by grind⟩
noncomputable def ab (x:R):R:=@ite _ (0≤x) (Classical.propDecidable _) x (-x)
theorem ab_nonneg (x:R):0≤ab x:=by unfold ab; split<;>grind
theorem ab_le {x b:R} : ab x≤b↔-b≤x∧x≤b:=by unfold ab; split<;>grind
theorem le_ab (x:R):x≤ab x∧-x≤ab x:=by unfold ab; split<;>grind
theorem ab_neg (x:R):ab (-x)=ab x:=by unfold ab; split<;>split<;>grind
theorem ab_add (x y:R):ab (x+y)≤ab x+ab y:=by unfold ab; split<;>split<;>split<;>grind
theorem ab_sub (x y:R):ab (x-y)≤ab x+ab y:=by unfold ab; split<;>split<;>split<;>grind
theorem ab_of {x:R} (h:0≤x):ab x=x:=by unfold ab; rw [if_pos h]
theorem ab_zero:ab 0=0:=ab_of (by grind)
theorem rmul_nonneg {x y:R} (hx:0≤x) (hy:0≤y):0≤x*y:=by
 rcases Classical.em (x=0) with h | h
 ·subst h; grind
 ·have:=rmul_lt (a:=0) (b:=x) (c:=y)
  rcases Classical.em (y=0) with k | k
  ·subst k; grind
  ·have:=this (by grind) (by grind); grind
theorem rmul_le {a b c:R} (h:a≤b) (hc:0≤c):a*c≤b*c:=by have:=rmul_nonneg (show 0≤b-a by grind) hc; grind
theorem rmul_le' {a b c:R} (h:a≤b) (hc:0≤c):c*a≤c*b:=by have:=rmul_nonneg (show 0≤b-a by grind) hc; grind
theorem rmul_mono {a b c d:R} (h:a≤b) (k:c≤d) (ha:0≤a) (hd:0≤d):a*c≤b*d:=rle_trans (rmul_le' k ha) (rmul_le h hd)
theorem rmul_pos {x y:R} (hx:0<x) (hy:0<y):0<x*y:=by have:=rmul_lt hy hx; grind
theorem sq_nonneg (x:R):0≤x*x:=by
 rcases rle_total 0 x with h | h
 ·exact rmul_nonneg h h
 ·have:=rmul_nonneg (x:=-x) (y:=-x) (by grind) (by grind); grind
theorem ab_mul (x y:R):ab (x*y)=ab x*ab y:=by
 unfold ab
 split<;>rename_i h1<;>split<;>rename_i h2<;>split<;>rename_i h3
 ·rfl
 ·have:=rmul_nonneg (x:=x) (y:=-y) h2 (by grind); grind
 ·have:=rmul_nonneg (x:=-x) (y:=y) (by grind) h3; grind
 ·grind
 ·exact absurd (rmul_nonneg h2 h3) h1
 ·grind
 ·grind
 ·have:=rmul_nonneg (x:=-x) (y:=-y) (by grind) (by grind); grind
theorem rpow_succ (x:R) (n:Nat):x ^ (n+1)=x ^ n*x:=rfl
theorem rpow_zero (x:R):x ^ 0=1:=rfl
theorem ab_pow (x:R) (n:Nat):ab (x ^ n)=ab x ^ n:=by
 induction n with
 | zero=>exact ab_of (by rw [rpow_zero]; grind)
 | succ n ih=>rw [rpow_succ,rpow_succ,ab_mul,ih]
theorem pow_nonneg {x:R} (h:0≤x) (n:Nat):0≤x ^ n:=by
 induction n with
 | zero=>rw [rpow_zero]; grind
 | succ n ih=>rw [rpow_succ]; exact rmul_nonneg ih h
theorem pow_mono {x y:R} (h:0≤x) (k:x≤y) (n:Nat):x ^ n≤y ^ n:=by
 induction n with
 | zero=>rw [rpow_zero,rpow_zero]; grind
 | succ n ih=>rw [rpow_succ,rpow_succ]; exact rmul_mono ih k (pow_nonneg h n) (by grind)
theorem pow_mul' (x y:R) (n:Nat):(x*y) ^ n=x ^ n*y ^ n:=by
 induction n with
 | zero=>rw [rpow_zero,rpow_zero,rpow_zero]; grind
 | succ n ih=>rw [rpow_succ,rpow_succ,rpow_succ,ih]; grind
end Go.An
