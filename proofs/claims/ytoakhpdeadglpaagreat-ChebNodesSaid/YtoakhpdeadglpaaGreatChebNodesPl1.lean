/- Plain theory of the numbers that the statement speaks of: printed from the proofs' own texts, as far as this statement needs it. -/
import Derived.Test.YtoakhpdeadglpaaGreatChebNodesPl0
set_option linter.unusedVariables false
set_option linter.unusedSimpArgs false
namespace Go.Proofs.YtoakhpdeadglpaaGreat.Gen
open Go Go.Abs Go.Plain
theorem rtold_eq {d:D} (h:TD d):r05_told (dy d)=some (dy (tell d).1,(tell d).2):=by
 unfold r05_told
 rw [rinRange_eq h.1 h.2]
 simp only [obn]
 unfold tell
 cases inR d with
 | true=>rfl
 | false=>simp [dy_z]
theorem rMake5_eq {m:Int} (hm:SZ m.natAbs) {e:Int} (he : -100000≤e∧e≤100000):r05_Make (iOf m) e=some (dy (makeD m e).1,(makeD m e).2):=by
 unfold r05_Make
 rw [if_neg (by omega),show decide (e>100000)=false by simp; omega]
 unfold r05_Make_j1
 rw [if_neg (by simp),rnorm_iOf hm (by omega)]
 simp only [obn]
 show ((r05_inRange (dy (nrm m e))).bind _)=_
 have ht:=nrm_TD hm (e:=e) (by omega)
 rw [rinRange_eq ht.1 ht.2]
 simp only [obn]
 unfold makeD
 cases inR (nrm m e) with
 | true=>rfl
 | false=>simp [dy_z]
theorem rRight4_eq {a:ApiInt} (h:a.Mag.length≤274877906944):r04_Right a=some (rightI a):=by
 unfold r04_Right r04_Right_j1 rightI
 by_cases h0:a.Mag.length=0
 ·rw [if_pos (by omega),if_pos h0]
  cases hn:a.Neg with
  | false=>rw [if_pos (by simp)]; rfl
  | true=>rw [if_neg (by simp),if_neg (by omega)]; rfl
 ·have hw:IntKind.i64.wrap ((a.Mag.length:Int)-1)=((a.Mag.length-1:Nat):Int):=by rw [w64]<;>omega
  rw [if_neg (by omega),if_neg h0,hw,if_pos (by omega),if_pos (by omega),kz,Int.toNat_natCast]
theorem rRight5_eq {x:AD} (hd:Dig x.M.Mag) (hl:x.M.Mag.length≤274877906944):r05_Right x=some (rightD x):=by
 unfold r05_Right r05_Right_j1 rightD
 rw [rRight4_eq hl]
 simp only [obn]
 cases hr:rightI x.M with
 | false=>simp
 | true=>
  rw [if_neg (by simp)]
  simp only [Bool.true_and]
  by_cases h0:x.M.Mag.length=0
  ·rw [if_pos (by omega),if_pos h0]
  ·rw [if_neg (by omega),if_neg h0,if_pos (by omega),kz]
   obtain ⟨d,hd1,hd2⟩:=digN hd 0
   rw [hd1,show (2:Int)=((2:Nat):Int) by rfl,tmodn,Int.toNat_natCast,Nat.testBit_zero]
   by_cases h1:d % 2=1
   ·rw [if_pos (by omega)]
    by_cases h2:x.E ≥ -131072
    ·rw [if_pos h2]
     simp [h1]
     intro _; omega
    ·rw [if_neg h2]
     simp [h1]; omega
   ·rw [if_neg (by omega)]
    simp [h1]
theorem rRight5_dy {d:D} (h:okD d) (hs:SZ d.m.natAbs):r05_Right (dy d)=some true:=by
 rw [rRight5_eq (dgd _) (by have:=sz_len hs; show (digs d.m.natAbs).length≤_; omega),rightD_dy h]
theorem rCmp4_eq {x y:Int} (hx:SZ x.natAbs) (hy:SZ y.natAbs):r04_Cmp (iOf x) (iOf y)=some (sgc x y):=by
 have h1:=sz_len hx
 have h2:=sz_len hy
 unfold r04_Cmp
 rw [rMake_iOf hx,rMake_iOf hy]
 simp only [obn]
 unfold r04_Cmp_j1 r04_Cmp_j2
 have eN:∀ z:Int,(iOf z).Neg=decide (z<0):=fun _=>rfl
 have eM:∀ z:Int,(iOf z).Mag=digs z.natAbs:=fun _=>rfl
 rw [eN,eN,eM,eM]
 simp only [rCmp_eq (dgd x.natAbs) (dgd y.natAbs) (by omega) (by omega),rCmp_eq (dgd y.natAbs) (dgd x.natAbs) (by omega) (by omega),dvd,obn]
 unfold sgc
 by_cases hxn:x<0<;>by_cases hyn:y<0<;>simp only [hxn,hyn,decide_true,decide_false,Bool.not_false,Bool.not_true,if_true,if_false,Bool.false_eq_true,not_true_eq_false,not_false_eq_true]
 ·congr 1
  by_cases h:x<y
  ·rw [if_pos h,if_pos (by omega)]
  ·rw [if_neg h,if_neg (by omega)]
   by_cases h':y<x
   ·rw [if_pos h',if_pos (by omega)]
   ·rw [if_neg h',if_neg (by omega)]
 ·rw [if_pos (by omega)]
 ·rw [if_neg (by omega),if_pos (by omega)]
 ·congr 1
  by_cases h:x<y
  ·rw [if_pos h,if_pos (by omega)]
  ·rw [if_neg h,if_neg (by omega)]
   by_cases h':y<x
   ·rw [if_pos h',if_pos (by omega)]
   ·rw [if_neg h',if_neg (by omega)]
theorem rup_l2 {a:ApiInt} {k:Nat} : ∀ (c v n:Nat),n≤100000*c→blen v+n≤k→k≤1048576→∀ f,c<f→r05_up_l2 a f (n:Int) (digs v)=some (iOf (sg a.Neg (v*2 ^ n))):=by
 intro c
 induction c with
 | zero=>
  intro v n hn hv hk f hf
  obtain ⟨f,rfl⟩:∃ k,f=k+1:=⟨f-1,by omega⟩
  have h0:n=0:=by omega
  subst h0
  rw [r05_up_l2,if_neg (by omega)]
  unfold r05_up_j1
  rw [rMake_digs _ (by unfold SZ; omega)]
  simp
 | succ c ih=>
  intro v n hn hv hk f hf
  obtain ⟨f,rfl⟩:∃ k,f=k+1:=⟨f-1,by omega⟩
  have hl:=sz_len (n:=v) (by unfold SZ; omega)
  rw [r05_up_l2]
  by_cases h:n=0
  ·subst h
   rw [if_neg (by omega)]
   unfold r05_up_j1
   rw [rMake_digs _ (by unfold SZ; omega)]
   simp
  ·rw [if_pos (by omega)]
   have hm:mn (n:Int) 100000=((min n 100000:Nat):Int):=by unfold mn; split<;>omega
   rw [hm,rShl_eq (dgd v) (by omega) (by omega),dvd]
   simp only [obn]
   rw [show (n:Int)-((min n 100000:Nat):Int)=((n-min n 100000:Nat):Int) by omega,w64n (by omega)]
   have hvb:blen (v*2 ^ min n 100000)+(n-min n 100000)≤k:=by
    by_cases h0:v=0
    ·subst h0; rw [Nat.zero_mul,blen_zero]; omega
    ·rw [blen_shl h0]; omega
   have e:=ih (v*2 ^ min n 100000) (n-min n 100000) (by omega) hvb hk f (by omega)
   rw [Nat.mul_assoc,← Nat.pow_add,show min n 100000+(n-min n 100000)=n by omega] at e
   exact e
theorem rup_eq {z:Int} {n:Nat} (h:blen z.natAbs+n≤1048576):r05_up (iOf z) (n:Int)=some (iOf (z*2 ^ n)):=by
 unfold r05_up
 have:=rup_l2 (a:=iOf z) 12 z.natAbs n (by omega) h (Nat.le_refl _) fuel (by unfold fuel; omega)
 refine this.trans ?_
 congr 2
 show sg (decide (z<0)) (z.natAbs*2 ^ n)=_
 rw [Nat.mul_comm,sg_mul,sg_abs,Int.mul_comm]
 simp
def liftD (x y:D):Int × Int × Int:=if x.m=0 then (0,y.m,y.e) else if y.m=0 then (x.m,0,x.e) else if x.e>y.e then (x.m*2 ^ (x.e-y.e).toNat,y.m,y.e) else (x.m,y.m*2 ^ (y.e-x.e).toNat,x.e)
theorem rlift_eq {x y:D} (hx:WD x) (hy:WD y):r05_lift (dy x) (dy y)=some (iOf (liftD x y).1,iOf (liftD x y).2.1,(liftD x y).2.2):=by
 have ex:=hx.e
 have ey:=hy.e
 have bx:=hx.2
 have b_y:=hy.2
 have h1:=iOf_mag_zero x.m
 have h2:=iOf_mag_zero y.m
 have hM:∀ d:D,(dy d).M=iOf d.m:=fun _=>rfl
 have hE:∀ d:D,(dy d).E=d.e:=fun _=>rfl
 have i0:(⟨false,[]⟩:ApiInt)=iOf 0:=by simp [iOf,digs_zero]
 unfold r05_lift liftD
 rw [hM,hM,hE,hE]
 by_cases hx0:x.m=0
 ·rw [if_pos (h1.2 hx0),if_pos hx0,i0]
 ·rw [if_neg (fun h=>hx0 (h1.1 h)),if_neg hx0]
  by_cases hy0:y.m=0
  ·rw [if_pos (h2.2 hy0),if_pos hy0,i0]
  ·rw [if_neg (fun h=>hy0 (h2.1 h)),if_neg hy0]
   by_cases h:x.e>y.e
   ·have hw:IntKind.i64.wrap (x.e-y.e)=((x.e-y.e).toNat:Int):=by rw [w64]<;>omega
    rw [if_pos h,if_pos h,hw,rup_eq (by omega)]
    rfl
   ·have hw:IntKind.i64.wrap (y.e-x.e)=((y.e-x.e).toNat:Int):=by rw [w64]<;>omega
    rw [if_neg h,if_neg h,hw,rup_eq (by omega)]
    rfl
theorem lift_sz {x y:D} (hx:WD x) (hy:WD y):blen (liftD x y).1.natAbs≤524288∧blen (liftD x y).2.1.natAbs≤524288∧-131072≤(liftD x y).2.2∧(liftD x y).2.2≤131072:=by
 have ex:=hx.e
 have ey:=hy.e
 have bx:=hx.2
 have b_y:=hy.2
 have b1:=blen_abs_shl x.m (x.e-y.e).toNat
 have b2:=blen_abs_shl y.m (y.e-x.e).toNat
 unfold liftD
 split
 ·simp [blen_zero]; omega
 ·split
  ·simp [blen_zero]; omega
  ·split
   ·simp only; omega
   ·simp only; omega
theorem val_lift (x y:D):val x=((liftD x y).1:Rat)*p2 (liftD x y).2.2∧val y=((liftD x y).2.1:Rat)*p2 (liftD x y).2.2:=by
 unfold liftD
 split
 ·rename_i h; exact ⟨by rw [val_zero_m h]; simp,rfl⟩
 ·split
  ·rename_i h; exact ⟨rfl,by rw [val_zero_m h]; simp⟩
  ·split
   ·refine ⟨?_,rfl⟩
    simp only
    unfold val
    rw [p2_diff (x:=x.e) (y:=y.e) (by omega),Rat.intCast_mul]; grind
   ·refine ⟨rfl,?_⟩
    simp only
    unfold val
    rw [p2_diff (x:=y.e) (y:=x.e) (by omega),Rat.intCast_mul]; grind
theorem mul_lt_iff {a b p:Rat} (hp:0<p):a*p<b*p↔a<b:=by
 constructor
 ·intro h
  by_cases h':a<b
  ·exact h'
  ·have:=Rat.mul_le_mul_of_nonneg_right (show b≤a by grind) (Rat.le_of_lt hp)
   grind
 ·intro h; exact Rat.mul_lt_mul_of_pos_right h hp
theorem sgc_lift (x y:D):sgc (liftD x y).1 (liftD x y).2.1=cmpD x y:=by
 obtain ⟨h1,h2⟩:=val_lift x y
 rw [cmpD_eq,h1,h2]
 generalize (liftD x y).1=a
 generalize (liftD x y).2.1=b
 have hp:=p2_pos (liftD x y).2.2
 simp only [mul_lt_iff hp]
 unfold sgc
 have e1:(a:Rat)<(b:Rat)↔a<b:=by exact_mod_cast Iff.rfl
 have e2:(b:Rat)<(a:Rat)↔b<a:=by exact_mod_cast Iff.rfl
 by_cases h3:a<b
 ·rw [if_pos h3,if_pos (e1.2 h3)]
 ·rw [if_neg h3,if_neg (fun h=>h3 (e1.1 h))]
  by_cases h4:b<a
  ·rw [if_pos h4,if_pos (e2.2 h4)]
  ·rw [if_neg h4,if_neg (fun h=>h4 (e2.1 h))]
theorem cmp_sign {x y:D} (h:(x.m<0↔¬y.m<0)∨x.m=0∨y.m=0):sgc x.m y.m=cmpD x y:=by
 have n1:=val_neg_iff x
 have n2:=val_neg_iff y
 have p1:=val_pos_iff x
 have p2:=val_pos_iff y
 have z1:=val_zero_iff x
 have z2:=val_zero_iff y
 rw [cmpD_eq]
 unfold sgc
 rcases (show x.m<0∨x.m=0∨0<x.m by omega) with h1 | h1 | h1<;>rcases (show y.m<0∨y.m=0∨0<y.m by omega) with h2 | h2 | h2
 ·omega
 ·have a1:=n1.2 h1; have a2:=z2.2 h2
  rw [if_pos (by omega),if_pos (by grind)]
 ·have a1:=n1.2 h1; have a2:=p2.2 h2
  rw [if_pos (by omega),if_pos (by grind)]
 ·have a1:=z1.2 h1; have a2:=n2.2 h2
  rw [if_neg (by omega),if_pos (by omega),if_neg (by grind),if_pos (by grind)]
 ·have a1:=z1.2 h1; have a2:=z2.2 h2
  rw [if_neg (by omega),if_neg (by omega),if_neg (by grind),if_neg (by grind)]
 ·have a1:=z1.2 h1; have a2:=p2.2 h2
  rw [if_pos (by omega),if_pos (by grind)]
 ·have a1:=p1.2 h1; have a2:=n2.2 h2
  rw [if_neg (by omega),if_pos (by omega),if_neg (by grind),if_pos (by grind)]
 ·have a1:=p1.2 h1; have a2:=z2.2 h2
  rw [if_neg (by omega),if_pos (by omega),if_neg (by grind),if_pos (by grind)]
 ·omega
theorem rCmp5_eq {x y:D} (hx:WD x) (hy:WD y):r05_Cmp (dy x) (dy y)=some (cmpD x y):=by
 have ex:=hx.e
 have ey:=hy.e
 have bx:=hx.sz
 have b_y:=hy.sz
 have m1:=iOf_mag_zero x.m
 have m2:=iOf_mag_zero y.m
 have hN:∀ d:D,(dy d).M.Neg=decide (d.m<0):=fun _=>rfl
 have hM:∀ d:D,(dy d).M=iOf d.m:=fun _=>rfl
 unfold r05_Cmp r05_Cmp_j1
 rw [rRight5_dy hx.1 hx.sz,rRight5_dy hy.1 hy.sz]
 simp only [obn]
 rw [if_neg (by simp),if_neg (by simp)]
 have j2t:(x.m<0↔¬y.m<0)∨x.m=0∨y.m=0→r05_Cmp_j2 (dy x) (dy y) true=some (cmpD x y):=by
  intro h
  unfold r05_Cmp_j2
  rw [if_pos rfl,hM,hM,rCmp4_eq bx b_y]
  simp only [obn]
  rw [cmp_sign h]
 rw [hN,hN]
 by_cases hs:decide (x.m<0)=decide (y.m<0)
 ·rw [if_neg (by simp [hs]),hM,hM]
  by_cases h1:x.m=0
  ·rw [if_pos (m1.2 h1)]; exact j2t (Or.inr (Or.inl h1))
  ·rw [if_neg (fun h=>h1 (m1.1 h))]
   by_cases h2:y.m=0
   ·rw [show ((((iOf y.m).Mag.length:Nat):Int) == 0)=true by rw [m2.2 h2]; rfl]; exact j2t (Or.inr (Or.inr h2))
   ·rw [show ((((iOf y.m).Mag.length:Nat):Int) == 0)=false by rw [beq_eq_false_iff_ne]; exact fun h=>h2 (m2.1 h)]
    have hs':x.m<0↔y.m<0:=decide_eq_decide.1 hs
    unfold r05_Cmp_j2
    rw [if_neg (by simp),rsize_eq bx (by omega),rsize_eq b_y (by omega)]
    simp only [obn]
    by_cases hz:x.e+(blen x.m.natAbs:Nat)=y.e+(blen y.m.natAbs:Nat)
    ·rw [if_neg (by simpa using hz),rlift_eq hx hy]
     simp only [obn]
     obtain ⟨l1,l2,-⟩:=lift_sz hx hy
     rw [rCmp4_eq (by unfold SZ; omega) (by unfold SZ; omega)]
     simp only [obn]
     rw [sgc_lift]
    ·rw [if_pos hz,hN]
     rw [cmpD_eq]
     have nn:∀ d:D,d.m<0→0<(negD d).m:=fun d h=>by unfold negD; simp only; omega
     have na:∀ d:D,(negD d).m.natAbs=d.m.natAbs:=fun d=>by unfold negD; simp
     have ne:∀ d:D,(negD d).e=d.e:=fun d=>rfl
     rcases (show x.e+(blen x.m.natAbs:Nat)<y.e+(blen y.m.natAbs:Nat)∨y.e+(blen y.m.natAbs:Nat)<x.e+(blen x.m.natAbs:Nat) by omega) with hlt | hlt
     ·by_cases hneg:x.m<0
      ·have hv:=size_lt (x:=negD x) (y:=negD y) (nn _ hneg) (nn _ (hs'.1 hneg)) (by rw [na,na,ne,ne]; exact hlt)
       rw [val_neg,val_neg] at hv
       rw [if_pos (by simp [hlt,hneg]),if_neg (by grind),if_pos (by grind)]
      ·have hv:=size_lt (x:=x) (y:=y) (by omega) (by omega) hlt
       rw [if_neg (by simp [hlt]; omega),if_pos hv]
     ·by_cases hneg:x.m<0
      ·have hv:=size_lt (x:=negD y) (y:=negD x) (nn _ (hs'.1 hneg)) (nn _ hneg) (by rw [na,na,ne,ne]; exact hlt)
       rw [val_neg,val_neg] at hv
       rw [if_neg (by simp [hneg]; omega),if_pos (by grind)]
      ·have hv:=size_lt (x:=y) (y:=x) (by omega) (by omega) hlt
       rw [if_pos (by simp; omega),if_neg (by grind),if_pos hv]
 ·rw [if_pos (by simpa using hs)]
  exact j2t (Or.inl (by
   by_cases h1:x.m<0<;>by_cases h2:y.m<0<;>simp [h1,h2] at hs ⊢))
theorem same_l3 {a b:ApiInt} (hl:a.Mag.length=b.Mag.length) (hs:a.Mag.length≤1099511627776):∀ (r i:Nat),i+r=a.Mag.length→a.Mag.take i=b.Mag.take i→∀ f,r<f→r04_Same_l3 a b f (i:Int)=some (decide (a.Mag=b.Mag)):=by
 intro r
 induction r with
 | zero=>
  intro i hi ht f hf
  obtain ⟨f,rfl⟩:∃ k,f=k+1:=⟨f-1,by omega⟩
  rw [List.take_of_length_le (by omega),List.take_of_length_le (by omega)] at ht
  rw [r04_Same_l3,if_neg (by omega)]
  simp [r04_Same_j2,ht]
 | succ r ih=>
  intro i hi ht f hf
  obtain ⟨f,rfl⟩:∃ k,f=k+1:=⟨f-1,by omega⟩
  rw [r04_Same_l3,if_pos (by omega),if_pos (by omega),if_pos (by omega),kz]
  simp only [Int.toNat_natCast]
  by_cases h:a.Mag.getD i 0=b.Mag.getD i 0
  ·rw [if_neg (by simpa using h),show (i:Int)+1=((i+1:Nat):Int) by omega,w64n (by omega)]
   refine ih (i+1) (by omega) ?_ f (by omega)
   rw [List.take_succ_eq_append_getElem (by omega),List.take_succ_eq_append_getElem (by omega),ht]
   rw [List.getD_eq_getElem?_getD,List.getD_eq_getElem?_getD,List.getElem?_eq_getElem (show i<a.Mag.length by omega),List.getElem?_eq_getElem (show i<b.Mag.length by omega),Option.getD_some,Option.getD_some] at h
   rw [h]
  ·rw [if_pos h]
   congr 1; symm; apply decide_eq_false
   intro he; rw [he] at h; exact h rfl
theorem iOf_inj {x y:Int} (h:iOf x=iOf y):x=y:=by
 have h1:sg (iOf x).Neg (dval (iOf x).Mag)=x:=by unfold iOf; simp only; rw [dvd,sg_abs]
 have h2:sg (iOf y).Neg (dval (iOf y).Mag)=y:=by unfold iOf; simp only; rw [dvd,sg_abs]
 rw [← h1,← h2,h]
theorem same4_eq {x y:Int} (hx:SZ x.natAbs):r04_Same (iOf x) (iOf y)=some (decide (x=y)):=by
 have h1:=sz_len hx
 unfold r04_Same r04_Same_j1
 by_cases hn:(iOf x).Neg=(iOf y).Neg
 ·rw [if_neg (by simp [hn])]
  by_cases hl:(iOf x).Mag.length=(iOf y).Mag.length
  ·have hlen:(iOf x).Mag.length=(digs x.natAbs).length:=rfl
   have e:=same_l3 hl (by omega) (iOf x).Mag.length 0 (by omega) (by simp) fuel (by unfold fuel; omega)
   rw [if_neg (by simp [hl])]
   refine e.trans ?_
   congr 1
   apply decide_eq_decide.2
   constructor
   ·intro h
    apply iOf_inj
    have:∀ a b:ApiInt,a.Neg=b.Neg→a.Mag=b.Mag→a=b:=fun a b h1 h2=>by cases a; cases b; simp only at h1 h2; rw [h1,h2]
    exact this _ _ hn h
   ·rintro rfl; rfl
  ·rw [if_pos (by simp; omega)]
   congr 1; symm; apply decide_eq_false
   rintro rfl; exact hl rfl
 ·rw [if_pos (by simpa using hn),if_pos rfl]
  congr 1; symm; apply decide_eq_false
  rintro rfl; exact hn rfl
theorem same5_eq {x y:D} (hx:SZ x.m.natAbs):r05_Same (dy x) (dy y)=some (decide (x=y)):=by
 unfold r05_Same r05_Same_j1
 have hM:∀ d:D,(dy d).M=iOf d.m:=fun _=>rfl
 have hE:∀ d:D,(dy d).E=d.e:=fun _=>rfl
 rw [hM,hM,hE,hE,same4_eq hx]
 have ext:x=y↔x.m=y.m∧x.e=y.e:=by
  constructor
  ·rintro rfl; exact ⟨rfl,rfl⟩
  ·intro h; cases x; cases y; simp only at h; rw [h.1,h.2]
 by_cases h:x.e=y.e
 ·rw [if_pos h]
  simp only [obn]
  congr 1
  apply decide_eq_decide.2
  rw [ext]; simp [h]
 ·rw [if_neg h]
  congr 1; symm; apply decide_eq_false
  rintro rfl; exact h rfl
structure I where
 lo:D
 hi:D
def zI:I:=⟨zD,zD⟩
def iv (a:I):AI:=⟨dy a.lo,dy a.hi⟩
def okI (a:I):Prop:=WD a.lo∧WD a.hi∧val a.lo≤val a.hi
theorem iv_z:iv zI=⟨⟨⟨false,[]⟩,0⟩,⟨⟨false,[]⟩,0⟩⟩:=by unfold iv zI; simp only [dy_z]
theorem okI_z:okI zI:=⟨WD_z,WD_z,Rat.le_refl⟩
theorem etaDy (x:AD):(⟨x.M,x.E⟩:AD)=x:=rfl
theorem etaIv (x:AI):(⟨⟨x.Lo.M,x.Lo.E⟩,⟨x.Hi.M,x.Hi.E⟩⟩:AI)=x:=rfl
theorem ivLo (a:I):(iv a).Lo=dy a.lo:=rfl
theorem ivHi (a:I):(iv a).Hi=dy a.hi:=rfl
def bindE {α:Type} (r:D × Int) (z:α) (f:D→α × Int):α × Int:=if r.2=0 then f r.1 else (z,r.2)
def st {α:Type} (e:Int) (z:α) (r:α × Int):α × Int:=if e=0 then r else (z,e)
theorem ivRight_eq {a:I} (h:okI a):iv_Right (iv a)=some true:=by
 obtain ⟨h1,h2,h3⟩:=h
 unfold iv_Right iv_Right_j1
 rw [ivLo,ivHi,dyad_Right_dy h1.1 h1.sz]
 simp only [obn,if_true]
 rw [dyad_Right_dy h2.1 h2.sz]
 simp only [obn,if_true]
 rw [dyad_Cmp_eq h1 h2]
 simp only [obn]
 congr 1
 exact decide_eq_true ((cmpD_le _ _).2 h3)
def hasI (a:I) (x:D):Bool:=decide (cmpD a.lo x≤0) && decide (cmpD x a.hi≤0)
theorem hasI_iff (a:I) (x:D):hasI a x=true↔val a.lo≤val x∧val x≤val a.hi:=by
 unfold hasI
 rw [Bool.and_eq_true,decide_eq_true_iff,decide_eq_true_iff,cmpD_le,cmpD_le]
theorem ivHas_eq {a:I} (h:okI a) {x:D} (hx:WD x):iv_Has (iv a) (dy x)=some (hasI a x):=by
 unfold iv_Has iv_Has_j1
 rw [ivRight_eq h]
 simp only [obn,if_true]
 rw [dyad_Right_dy hx.1 hx.sz]
 simp only [obn,if_true]
 rw [ivLo,ivHi,dyad_Cmp_eq h.1 hx,dyad_Cmp_eq hx h.2.1]
 simp only [obn]
 unfold hasI
 by_cases h1:cmpD a.lo x≤0
 ·rw [if_pos h1,decide_eq_true h1,Bool.true_and]
 ·rw [if_neg h1,decide_eq_false h1,Bool.false_and]
def inI (a b:I):Bool:=hasI b a.lo && hasI b a.hi
theorem ivIn_eq {a b:I} (ha:okI a) (hb:okI b):iv_In (iv a) (iv b)=some (inI a b):=by
 unfold iv_In iv_In_j1
 rw [ivRight_eq ha]
 simp only [obn,if_true]
 rw [ivLo,ivHi,ivHas_eq hb ha.1,ivHas_eq hb ha.2.1]
 simp only [obn]
 unfold inI
 cases hasI b a.lo<;>simp
theorem note_eq (x e p:Int):iv_trouble_note x e p=some (if e=0 then (x == 0,x) else (false,e)):=by
 unfold iv_trouble_note iv_trouble_note_j1
 by_cases h:e=0
 ·rw [if_pos h,if_pos h]
 ·rw [if_neg h,if_neg h]
  have:(e == 0)=false:=by simpa using h
  rw [this]
theorem fine_nil (l:List AI) (p e:Int) (i n:Nat) (hi:l.length≤i):cv_fine_l2 l p (n+1) (i:Int) e=some (e == 0,e):=by
 rw [cv_fine_l2,if_neg (by omega)]; rfl
theorem fine_cons (l:List AI) (p e:Int) (i n:Nat) (hi:i<l.length) (hi':i≤1000) (hr:iv_Right (l.getD i zAI)=some true):cv_fine_l2 l p (n+1) (i:Int) e=cv_fine_l2 l p n ((i+1:Nat):Int) e:=by
 rw [cv_fine_l2,if_pos (by omega),if_pos (by omega)]
 simp only [Int.toNat_natCast,etaIv]
 rw [hr]
 simp only [obn]
 rw [if_neg (by simp)]
 unfold cv_fine_j3
 rw [if_neg (by simp),show ((i:Int)+1)=((i+1:Nat):Int) by omega,w64n (by omega)]
theorem fine_one {a:I} (ha:okI a) (e p:Int):cv_fine [iv a] e p=some (e == 0,e):=by
 unfold cv_fine
 obtain ⟨f,hf⟩:=fuel_succ
 rw [hf]
 exact (fine_cons [iv a] p e 0 (f+1+1) (by simp) (by omega) (ivRight_eq ha)).trans (fine_nil [iv a] p e 1 (f+1) (by simp))
theorem fine_two {a b:I} (ha:okI a) (hb:okI b) (e p:Int):cv_fine [iv a,iv b] e p=some (e == 0,e):=by
 unfold cv_fine
 obtain ⟨f,hf⟩:=fuel_succ
 rw [hf]
 exact (fine_cons [iv a,iv b] p e 0 (f+1+1) (by simp) (by omega) (ivRight_eq ha)).trans ((fine_cons [iv a,iv b] p e 1 (f+1) (by simp) (by omega) (ivRight_eq hb)).trans (fine_nil [iv a,iv b] p e 2 f (by simp)))
theorem take_eq (x:D) (y e p:Int):cv_take (dy x) y e p=some (if e=0 then (if y=0 then (dy x,0) else (dy zD,y)) else (dy zD,e)):=by
 unfold cv_take
 rw [note_eq,dy_z]
 simp only [obn]
 by_cases h:e=0
 ·rw [if_pos h,if_pos h]
  by_cases h2:y=0
  ·rw [if_pos h2,h2]; rfl
  ·rw [if_neg h2,if_pos (by simpa using h2)]
 ·rw [if_neg h,if_neg h]; rfl
theorem sumE_eq {x y:D} (hx:WD x) (hy:WD y) (e p:Int):cv_sum (dy x) (dy y) e p=some (dy (st e zD (bindE (addD x y) zD fun s=>(s,0))).1,(st e zD (bindE (addD x y) zD fun s=>(s,0))).2):=by
 unfold cv_sum st bindE
 by_cases h:e=0
 ·rw [if_neg (by simpa using h),if_pos h,dyad_Add_eq hx hy]
  simp only [obn]
  rw [take_eq,if_pos h]
  simp only [obn]
  by_cases h2:(addD x y).2=0
  ·rw [if_pos h2,if_pos h2]
  ·rw [if_neg h2,if_neg h2]
 ·rw [if_pos h,if_neg h,dy_z]
theorem downE_eq {x:D} (hx:WD x) {p:Nat} (hp:2≤p∧p≤400) (e:Int):cv_down (dy x) e (p:Int)=some (dy (st e zD (bindE (roundD x p false) zD fun s=>(s,0))).1,(st e zD (bindE (roundD x p false) zD fun s=>(s,0))).2):=by
 unfold cv_down st bindE
 by_cases h:e=0
 ·rw [if_neg (by simpa using h),if_pos h,dyad_Round_eq hx hp]
  simp only [obn]
  rw [take_eq,if_pos h]
  simp only [obn]
  by_cases h2:(roundD x p false).2=0
  ·rw [if_pos h2,if_pos h2]
  ·rw [if_neg h2,if_neg h2]
 ·rw [if_pos h,if_neg h,dy_z]
theorem upE_eq {x:D} (hx:WD x) {p:Nat} (hp:2≤p∧p≤400) (e:Int):cv_up (dy x) e (p:Int)=some (dy (st e zD (bindE (roundD x p true) zD fun s=>(s,0))).1,(st e zD (bindE (roundD x p true) zD fun s=>(s,0))).2):=by
 unfold cv_up st bindE
 by_cases h:e=0
 ·rw [if_neg (by simpa using h),if_pos h,dyad_Round_eq hx hp]
  simp only [obn]
  rw [take_eq,if_pos h]
  simp only [obn]
  by_cases h2:(roundD x p true).2=0
  ·rw [if_pos h2,if_pos h2]
  ·rw [if_neg h2,if_neg h2]
 ·rw [if_pos h,if_neg h,dy_z]
theorem outE_eq (x y:D) (e p:Int):cv_out (dy x) (dy y) e p=some (iv (if e=0 then ⟨x,y⟩ else zI)):=by
 unfold cv_out
 by_cases h:e=0
 ·rw [if_neg (by simpa using h),if_pos h]; rfl
 ·rw [if_pos h,if_neg h,iv_z]
def addI (p:Nat) (a b:I):I × Int:=bindE (addD a.lo b.lo) zI fun s=>bindE (roundD s p false) zI fun lo=>bindE (addD a.hi b.hi) zI fun t=>bindE (roundD t p true) zI fun hi=>(⟨lo,hi⟩,0)
theorem WD_bind {r:D × Int} (h:WD r.1) (e:Int):WD (st e zD (bindE r zD fun s=>(s,0))).1:=by
 unfold st bindE
 split
 ·split
  ·exact h
  ·exact WD_z
 ·exact WD_z
theorem st_ne {α:Type} {e:Int} (h:e≠0) (z:α) (r:α × Int):st e z r=(z,e):=by unfold st; rw [if_neg h]
theorem st_zero {α:Type} (z:α) (r:α × Int):st 0 z r=r:=by unfold st; rw [if_pos rfl]
theorem fine_no {e:Int} (h:e≠0):¬(e == 0)=true:=by simpa using h
theorem bindE_ok {α:Type} {r:D × Int} (h:r.2=0) (z:α) (f:D→α × Int):bindE r z f=f r.1:=by unfold bindE; rw [if_pos h]
theorem bindE_no {α:Type} {r:D × Int} (h:r.2≠0) (z:α) (f:D→α × Int):bindE r z f=(z,r.2):=by unfold bindE; rw [if_neg h]
theorem ivAdd_eq {a b:I} (ha:okI a) (hb:okI b) {p:Nat} (hp:2≤p∧p≤400) (e:Int):cv_Add (iv a) (iv b) e (p:Int)=some (iv (st e zI (addI p a b)).1,(st e zI (addI p a b)).2):=by
 unfold cv_Add
 rw [fine_two ha hb]
 simp only [obn]
 by_cases h:e=0
 ·subst h
  rw [if_neg (by simp),ivLo,ivLo,ivHi,ivHi,st_zero,sumE_eq ha.1 hb.1,st_zero]
  simp only [obn]
  rw [downE_eq (x:=(bindE (addD a.lo b.lo) zD fun s=>(s,0)).1) (by
   have:=WD_bind (WD_add ha.1 hb.1) 0; rwa [st_zero] at this) hp]
  simp only [obn]
  unfold addI
  by_cases h1:(addD a.lo b.lo).2=0
  ·rw [bindE_ok h1,bindE_ok h1,st_zero]
   by_cases h2:(roundD (addD a.lo b.lo).1 p false).2=0
   ·rw [bindE_ok h2,bindE_ok h2,sumE_eq ha.2.1 hb.2.1,st_zero]
    simp only [obn]
    rw [upE_eq (x:=(bindE (addD a.hi b.hi) zD fun s=>(s,0)).1) (by
     have:=WD_bind (WD_add ha.2.1 hb.2.1) 0; rwa [st_zero] at this) hp]
    simp only [obn]
    by_cases h3:(addD a.hi b.hi).2=0
    ·rw [bindE_ok h3,bindE_ok h3,st_zero]
     by_cases h4:(roundD (addD a.hi b.hi).1 p true).2=0
     ·rw [bindE_ok h4,bindE_ok h4,outE_eq]
      simp only [obn]
      rfl
     ·rw [bindE_no h4,bindE_no h4,outE_eq]
      simp only [obn]
      rw [if_neg h4]
    ·rw [bindE_no h3,bindE_no h3,st_ne h3,outE_eq]
     simp only [obn]
     rw [if_neg h3]
   ·rw [bindE_no h2,bindE_no h2,sumE_eq ha.2.1 hb.2.1,st_ne h2]
    simp only [obn]
    rw [upE_eq WD_z hp,st_ne h2]
    simp only [obn]
    rw [outE_eq]
    simp only [obn]
    rw [if_neg h2]
  ·rw [bindE_no h1,bindE_no h1,st_ne h1,sumE_eq ha.2.1 hb.2.1,st_ne h1]
   simp only [obn]
   rw [upE_eq WD_z hp,st_ne h1]
   simp only [obn]
   rw [outE_eq]
   simp only [obn]
   rw [if_neg h1]
 ·rw [if_pos (fine_no h),st_ne h,iv_z]
theorem okI_point {x:D} (h:WD x):okI ⟨x,x⟩:=⟨h,h,Rat.le_refl⟩
theorem ivPoint_eq {x:D} (hx:WD x) (e p:Int):cv_Point (dy x) e p=some (iv (st e zI (⟨x,x⟩,0)).1,(st e zI ((⟨x,x⟩:I),0)).2):=by
 unfold cv_Point
 have:(⟨dy x,dy x⟩:AI)=iv ⟨x,x⟩:=rfl
 rw [this,fine_one (okI_point hx)]
 simp only [obn]
 by_cases h:e=0
 ·subst h; rw [if_neg (by simp),st_zero]
 ·rw [if_pos (fine_no h),st_ne h,iv_z]
def intI (n:Int):I:=⟨fromD n,fromD n⟩
theorem ivInt_eq {n:Int} (hn : -9223372036854775808≤n∧n≤9223372036854775807) (e p:Int):cv_Int n e p=some (iv (st e zI (intI n,0)).1,(st e zI (intI n,0)).2):=by
 unfold cv_Int
 rw [dyad_From_eq hn]
 simp only [obn]
 rw [ivPoint_eq (WD_from hn)]
 simp only [obn]
 rfl
def negI (a:I):I:=⟨negD a.hi,negD a.lo⟩
theorem okI_neg {a:I} (h:okI a):okI (negI a):=by
 refine ⟨h.2.1.neg,h.1.neg,?_⟩
 show val (negD a.hi)≤val (negD a.lo)
 rw [val_neg,val_neg]
 have:=h.2.2
 grind
theorem ivNeg_eq {a:I} (h:okI a) (e p:Int):cv_Neg (iv a) e p=some (iv (st e zI (negI a,0)).1,(st e zI (negI a,0)).2):=by
 unfold cv_Neg
 rw [fine_one h]
 simp only [obn]
 by_cases h0:e=0
 ·subst h0
  rw [if_neg (by simp),st_zero,ivLo,ivHi,dyad_Neg_eq h.1,dyad_Neg_eq h.2.1]
  simp only [obn]
  rfl
 ·rw [if_pos (fine_no h0),st_ne h0,iv_z]
def subI (p:Nat) (a b:I):I × Int:=addI p a (negI b)
theorem ivSub_eq {a b:I} (ha:okI a) (hb:okI b) {p:Nat} (hp:2≤p∧p≤400) (e:Int):cv_Sub (iv a) (iv b) e (p:Int)=some (iv (st e zI (subI p a b)).1,(st e zI (subI p a b)).2):=by
 unfold cv_Sub
 rw [ivNeg_eq hb]
 simp only [obn]
 by_cases h0:e=0
 ·subst h0
  rw [st_zero,st_zero,ivAdd_eq ha (okI_neg hb) hp,st_zero]
  simp only [obn]
  rfl
 ·rw [st_ne h0,ivAdd_eq ha okI_z hp,st_ne h0,st_ne h0]
  simp only [obn]
def minD (m x:D):D:=if cmpD x m<0 then x else m
def maxD (m x:D):D:=if 0<cmpD x m then x else m
theorem minD_val (m x:D):(minD m x=m∧val m≤val x)∨(minD m x=x∧val x<val m):=by
 unfold minD
 by_cases h:cmpD x m<0
 ·rw [if_pos h]; right; exact ⟨rfl,(cmpD_lt _ _).1 h⟩
 ·rw [if_neg h]; left
  have:=mt (cmpD_lt x m).2 h
  exact ⟨rfl,by grind⟩
theorem maxD_val (m x:D):(maxD m x=m∧val x≤val m)∨(maxD m x=x∧val m<val x):=by
 unfold maxD
 by_cases h:0<cmpD x m
 ·rw [if_pos h]; right; exact ⟨rfl,(cmpD_gt _ _).1 h⟩
 ·rw [if_neg h]; left
  have:=mt (cmpD_gt x m).2 h
  exact ⟨rfl,by grind⟩
theorem minD_WD {m x:D} (hm:WD m) (hx:WD x):WD (minD m x):=by unfold minD; split<;>assumption
theorem maxD_WD {m x:D} (hm:WD m) (hx:WD x):WD (maxD m x):=by unfold maxD; split<;>assumption
theorem map_getD (l:List D) (i:Nat) (h:i<l.length):(l.map dy).getD i zAD=dy (l.getD i zD):=by
 simp [List.getD,List.getElem?_map,List.getElem?_eq_getElem h]
theorem ends_loop (x:D) (l:List D) (hl:∀ y ∈ l,WD y) (hlen:l.length≤1000):∀ (r i:Nat) (m M:D),i+r=l.length→WD m→WD M→∀ f,r<f→
  iv_ends_l2 ((x :: l).map dy) f (i:Int) (dy m).M.Neg (dy m).M.Mag (dy m).E (dy M).M.Neg (dy M).M.Mag (dy M).E=some (dy ((l.drop i).foldl minD m),dy ((l.drop i).foldl maxD M)):=by
 have hdrop:(((x :: l).map dy).take ((x :: l).map dy).length).drop 1=l.map dy:=by
  rw [List.take_length]; simp
 intro r
 induction r with
 | zero=>
  intro i m M hi hm hM f hf
  obtain ⟨f,rfl⟩:∃ k,f=k+1:=⟨f-1,by omega⟩
  rw [iv_ends_l2,hdrop,if_neg (by rw [List.length_map]; omega),List.drop_eq_nil_of_le (by omega)]
  rfl
 | succ r ih=>
  intro i m M hi hm hM f hf
  obtain ⟨f,rfl⟩:∃ k,f=k+1:=⟨f-1,by omega⟩
  have hin:i<l.length:=by omega
  have hmem:l.getD i zD ∈ l:=by
   rw [List.getD_eq_getElem?_getD,List.getElem?_eq_getElem hin]; exact List.getElem_mem hin
  have hW:=hl _ hmem
  have hdc:l.drop i=l.getD i zD :: l.drop (i+1):=by
   rw [List.drop_eq_getElem_cons hin,List.getD_eq_getElem?_getD,List.getElem?_eq_getElem hin]; rfl
  have hw:IntKind.i64.wrap ((i:Int)+1)=((i+1:Nat):Int):=by rw [w64]<;>omega
  rw [iv_ends_l2]
  unfold iv_ends_j3 iv_ends_j4
  simp only [hdrop,hw]
  rw [if_pos (by rw [List.length_map]; omega),if_pos (by rw [List.length_map]; omega),Int.toNat_natCast,map_getD l i hin]
  generalize hg:l.getD i zD=y at *
  have e1:∀ d:D,(⟨⟨(dy d).M.Neg,(dy d).M.Mag⟩,(dy d).E⟩:AD)=dy d:=fun _=>rfl
  simp only [etaDy,e1]
  rw [dyad_Cmp_eq hW hm]
  simp only [obn]
  rw [dyad_Cmp_eq hW hM]
  simp only [obn]
  rw [hdc,List.foldl_cons,List.foldl_cons]
  have hmin:minD m y=if cmpD y m<0 then y else m:=rfl
  have hmax:maxD M y=if 0<cmpD y M then y else M:=rfl
  by_cases h1:cmpD y m<0
  ·rw [if_pos h1]
   by_cases h2:0<cmpD y M
   ·rw [if_pos h2,hmin,hmax,if_pos h1,if_pos h2]
    exact ih (i+1) y y (by omega) hW hW f (by omega)
   ·rw [if_neg h2,hmin,hmax,if_pos h1,if_neg h2]
    exact ih (i+1) y M (by omega) hW hM f (by omega)
  ·rw [if_neg h1]
   by_cases h2:0<cmpD y M
   ·rw [if_pos h2,hmin,hmax,if_neg h1,if_pos h2]
    exact ih (i+1) m y (by omega) hm hW f (by omega)
   ·rw [if_neg h2,hmin,hmax,if_neg h1,if_neg h2]
    exact ih (i+1) m M (by omega) hm hM f (by omega)
theorem ends_eq (x:D) (l:List D) (hx:WD x) (hl:∀ y ∈ l,WD y) (hlen:l.length≤1000):iv_ends ((x :: l).map dy)=some (dy (l.foldl minD x),dy (l.foldl maxD x)):=by
 unfold iv_ends
 have hlen2:((x :: l).map dy).length=l.length+1:=by simp
 rw [if_pos (by omega),if_pos (by omega),if_pos (by omega)]
 have h0:((x :: l).map dy).getD 0 zAD=dy x:=rfl
 rw [h0]
 exact ends_loop x l hl hlen l.length 0 x x (by omega) hx hx fuel (by unfold fuel; omega)
theorem WD_foldmin:∀ (l:List D) (x:D),WD x→(∀ y ∈ l,WD y)→WD (l.foldl minD x)
 | [],_,hx,_=>hx
 | y :: l,x,hx,hl=>WD_foldmin l (minD x y) (minD_WD hx (hl y List.mem_cons_self)) fun z hz=>hl z (List.mem_cons_of_mem _ hz)
theorem WD_foldmax:∀ (l:List D) (x:D),WD x→(∀ y ∈ l,WD y)→WD (l.foldl maxD x)
 | [],_,hx,_=>hx
 | y :: l,x,hx,hl=>WD_foldmax l (maxD x y) (maxD_WD hx (hl y List.mem_cons_self)) fun z hz=>hl z (List.mem_cons_of_mem _ hz)
def scaleI (a:I) (n:Int):I × Int:=bindE (scaleD a.lo n) zI fun lo=>bindE (scaleD a.hi n) zI fun hi=>(⟨lo,hi⟩,0)
def outI (p:Nat) (a:I):I × Int:=bindE (roundD a.lo p false) zI fun lo=>bindE (roundD a.hi p true) zI fun hi=>(⟨lo,hi⟩,0)
def wideI (p:Nat) (a:I) (d:D):I × Int:=bindE (addD a.lo (negD d)) zI fun s=>bindE (roundD s p false) zI fun lo=>bindE (addD a.hi d) zI fun t=>bindE (roundD t p true) zI fun hi=>(⟨lo,hi⟩,0)
def midI (p:Nat) (a:I):D × Int:=bindE (addD a.lo a.hi) zD fun s=>bindE (scaleD s (-1)) zD fun h=>bindE (roundD h p false) zD fun r=>(r,0)
theorem ivScale_eq {a:I} (ha:okI a) {n:Int} (hn : -100000≤n∧n≤100000) (e p:Int):cv_Scale (iv a) n e p=some (iv (st e zI (scaleI a n)).1,(st e zI (scaleI a n)).2):=by
 unfold cv_Scale
 rw [fine_one ha]
 simp only [obn]
 by_cases h:e=0
 ·subst h
  rw [if_neg (by simp),ivLo,ivHi,st_zero,dyad_Scale_eq ha.1 hn]
  simp only [obn]
  rw [take_eq,if_pos rfl]
  unfold scaleI
  by_cases h1:(scaleD a.lo n).2=0
  ·rw [bindE_ok h1,if_pos h1]
   simp only [obn]
   rw [if_neg (by simp),dyad_Scale_eq ha.2.1 hn]
   simp only [obn]
   rw [take_eq,if_pos rfl]
   by_cases h2:(scaleD a.hi n).2=0
   ·rw [bindE_ok h2,if_pos h2]
    simp only [obn]
    rw [outE_eq]
    simp only [obn]
    rfl
   ·rw [bindE_no h2,if_neg h2]
    simp only [obn]
    rw [outE_eq,if_neg h2]
    simp only [obn]
  ·rw [bindE_no h1,if_neg h1]
   simp only [obn]
   rw [if_pos (by simpa using h1),iv_z]
 ·rw [if_pos (fine_no h),st_ne h,iv_z]
theorem ivOut_eq {a:I} (ha:okI a) {p:Nat} (hp:2≤p∧p≤400) (e:Int):cv_Out (iv a) e (p:Int)=some (iv (st e zI (outI p a)).1,(st e zI (outI p a)).2):=by
 unfold cv_Out
 rw [fine_one ha]
 simp only [obn]
 by_cases h:e=0
 ·subst h
  rw [if_neg (by simp),ivLo,ivHi,st_zero,downE_eq ha.1 hp,st_zero]
  simp only [obn]
  rw [upE_eq ha.2.1 hp]
  simp only [obn]
  unfold outI
  by_cases h1:(roundD a.lo p false).2=0
  ·rw [bindE_ok h1,bindE_ok h1,st_zero]
   by_cases h2:(roundD a.hi p true).2=0
   ·rw [bindE_ok h2,bindE_ok h2,outE_eq]
    simp only [obn]
    rfl
   ·rw [bindE_no h2,bindE_no h2,outE_eq]
    simp only [obn]
    rw [if_neg h2]
  ·rw [bindE_no h1,bindE_no h1,st_ne h1,outE_eq]
   simp only [obn]
   rw [if_neg h1]
 ·rw [if_pos (fine_no h),st_ne h,iv_z]
theorem ivWide_eq {a:I} (ha:okI a) {d:D} (hd:WD d) (hd0:0≤val d) {p:Nat} (hp:2≤p∧p≤400) (e:Int):cv_Wide (iv a) (dy d) e (p:Int)=some (iv (st e zI (wideI p a d)).1,(st e zI (wideI p a d)).2):=by
 unfold cv_Wide
 have hz:(⟨⟨⟨false,[]⟩,0⟩,dy d⟩:AI)=iv ⟨zD,d⟩:=by unfold iv; simp only [dy_z]
 have hok:okI ⟨zD,d⟩:=⟨WD_z,hd,by show val zD≤val d; rw [val_z]; exact hd0⟩
 rw [hz,fine_two ha hok]
 simp only [obn]
 by_cases h:e=0
 ·subst h
  rw [if_neg (by simp),dyad_Neg_eq hd]
  simp only [obn]
  rw [ivLo,ivHi,st_zero,sumE_eq ha.1 hd.neg,st_zero]
  simp only [obn]
  rw [downE_eq (x:=(bindE (addD a.lo (negD d)) zD fun s=>(s,0)).1) (by
   have:=WD_bind (WD_add ha.1 hd.neg) 0; rwa [st_zero] at this) hp]
  simp only [obn]
  unfold wideI
  by_cases h1:(addD a.lo (negD d)).2=0
  ·rw [bindE_ok h1,bindE_ok h1,st_zero]
   by_cases h2:(roundD (addD a.lo (negD d)).1 p false).2=0
   ·rw [bindE_ok h2,bindE_ok h2,sumE_eq ha.2.1 hd,st_zero]
    simp only [obn]
    rw [upE_eq (x:=(bindE (addD a.hi d) zD fun s=>(s,0)).1) (by
     have:=WD_bind (WD_add ha.2.1 hd) 0; rwa [st_zero] at this) hp]
    simp only [obn]
    by_cases h3:(addD a.hi d).2=0
    ·rw [bindE_ok h3,bindE_ok h3,st_zero]
     by_cases h4:(roundD (addD a.hi d).1 p true).2=0
     ·rw [bindE_ok h4,bindE_ok h4,outE_eq]
      simp only [obn]
      rfl
     ·rw [bindE_no h4,bindE_no h4,outE_eq]
      simp only [obn]
      rw [if_neg h4]
    ·rw [bindE_no h3,bindE_no h3,st_ne h3,outE_eq]
     simp only [obn]
     rw [if_neg h3]
   ·rw [bindE_no h2,bindE_no h2,sumE_eq ha.2.1 hd,st_ne h2]
    simp only [obn]
    rw [upE_eq WD_z hp,st_ne h2]
    simp only [obn]
    rw [outE_eq]
    simp only [obn]
    rw [if_neg h2]
  ·rw [bindE_no h1,bindE_no h1,st_ne h1,sumE_eq ha.2.1 hd,st_ne h1]
   simp only [obn]
   rw [upE_eq WD_z hp,st_ne h1]
   simp only [obn]
   rw [outE_eq]
   simp only [obn]
   rw [if_neg h1]
 ·rw [if_pos (fine_no h),st_ne h,iv_z]
theorem ivMid_eq {a:I} (ha:okI a) {p:Nat} (hp:2≤p∧p≤400) (e:Int):cv_Mid (iv a) e (p:Int)=some (dy (st e zD (midI p a)).1,(st e zD (midI p a)).2):=by
 unfold cv_Mid
 rw [fine_one ha]
 simp only [obn]
 by_cases h:e=0
 ·subst h
  rw [if_neg (by simp),ivLo,ivHi,st_zero,sumE_eq ha.1 ha.2.1,st_zero]
  simp only [obn]
  unfold midI
  by_cases h1:(addD a.lo a.hi).2=0
  ·have hs:=WD_add ha.1 ha.2.1
   rw [bindE_ok h1,bindE_ok h1,if_neg (by simp),dyad_Scale_eq hs (by omega)]
   simp only [obn]
   rw [take_eq,if_pos rfl]
   by_cases h2:(scaleD (addD a.lo a.hi).1 (-1)).2=0
   ·rw [bindE_ok h2,if_pos h2]
    simp only [obn]
    rw [downE_eq (WD_scale hs _) hp,st_zero]
    simp only [obn]
   ·rw [bindE_no h2,if_neg h2]
    simp only [obn]
    rw [downE_eq WD_z hp,st_ne h2]
    simp only [obn]
  ·rw [bindE_no h1,bindE_no h1,if_pos (by simpa using h1),dy_z]
 ·rw [if_pos (fine_no h),st_ne h,dy_z]
def stepF (f:D→D→D × Int) (x:D) (s:Int × List D) (y:D):Int × List D:=
 if s.1=0 then (if (f x y).2=0 then (0,s.2++[(f x y).1]) else ((f x y).2,s.2++[zD])) else (s.1,s.2++[zD])
def rowF (f:D→D→D × Int) (ys:List D) (s:Int × List D) (x:D):Int × List D:=ys.foldl (stepF f x) s
def fourF (f:D→D→D × Int) (xs ys:List D):Int × List D:=xs.foldl (rowF f ys) (0,[])
theorem step_len (f:D→D→D × Int) (x:D) (s:Int × List D) (y:D):(stepF f x s y).2.length=s.2.length+1:=by
 unfold stepF
 split
 ·split<;>simp
 ·simp
theorem fold_len (f:D→D→D × Int) (x:D):∀ (ys:List D) (s:Int × List D),(ys.foldl (stepF f x) s).2.length=s.2.length+ys.length
 | [],s=>by simp
 | y :: ys,s=>by rw [List.foldl_cons,fold_len f x ys,step_len,List.length_cons]; omega
theorem step_WD {f:D→D→D × Int} (hf:∀ x y,WD x→WD y→WD (f x y).1) {x y:D} (hx:WD x) (hy:WD y) {s:Int × List D} (hs:∀ z ∈ s.2,WD z):∀ z ∈ (stepF f x s y).2,WD z:=by
 unfold stepF
 split
 ·split
  ·intro z hz
   rcases List.mem_append.1 hz with h | h
   ·exact hs z h
   ·have:z=(f x y).1:=by simpa using h
    subst this; exact hf x y hx hy
  ·intro z hz
   rcases List.mem_append.1 hz with h | h
   ·exact hs z h
   ·have:z=zD:=by simpa using h
    subst this; exact WD_z
 ·intro z hz
  rcases List.mem_append.1 hz with h | h
  ·exact hs z h
  ·have:z=zD:=by simpa using h
   subst this; exact WD_z
theorem row_WD {f:D→D→D × Int} (hf:∀ x y,WD x→WD y→WD (f x y).1) {x:D} (hx:WD x):∀ (ys:List D) (_:∀ y ∈ ys,WD y) (s:Int × List D) (_:∀ z ∈ s.2,WD z),∀ z ∈ (ys.foldl (stepF f x) s).2,WD z
 | [],_,s,hs=>hs
 | y :: ys,hys,s,hs=>by
  rw [List.foldl_cons]
  exact row_WD hf hx ys (fun z hz=>hys z (List.mem_cons_of_mem _ hz)) _ (step_WD hf hx (hys y List.mem_cons_self) hs)
theorem four_WD {f:D→D→D × Int} (hf:∀ x y,WD x→WD y→WD (f x y).1) {ys:List D} (hys:∀ y ∈ ys,WD y):∀ (xs:List D) (_:∀ x ∈ xs,WD x) (s:Int × List D) (_:∀ z ∈ s.2,WD z),∀ z ∈ (xs.foldl (rowF f ys) s).2,WD z
 | [],_,s,hs=>hs
 | x :: xs,hxs,s,hs=>by
  rw [List.foldl_cons]
  exact four_WD hf hys xs (fun z hz=>hxs z (List.mem_cons_of_mem _ hz)) _ (row_WD hf (hxs x List.mem_cons_self) ys hys s hs)
theorem getD_mem {l:List D} {i:Nat} (h:i<l.length):l.getD i zD ∈ l:=by
 rw [List.getD_eq_getElem?_getD,List.getElem?_eq_getElem h]; exact List.getElem_mem h
theorem drop_getD {l:List D} {i:Nat} (h:i<l.length):l.drop i=l.getD i zD :: l.drop (i+1):=by
 rw [List.drop_eq_getElem_cons h,List.getD_eq_getElem?_getD,List.getElem?_eq_getElem h]; rfl
theorem mul_l7 {xs ys:List D} (hxs:∀ x ∈ xs,WD x) (hys:∀ y ∈ ys,WD y) (hly:ys.length≤10) (hlx:xs.length≤10) {i:Nat} (hi:i<xs.length) (p:Int) (ag:Int→Int→List AD→Option (List AD × Int)) :
  ∀ (r j:Nat) (e:Int) (O:List D),j+r=ys.length→O.length+r≤2000→∀ n,r<n→
   cv_four_6ec2_l7 (ys.map dy) (xs.map dy) (i:Int) p ag n (j:Int) e (O.map dy)=ag ((i+1:Nat):Int) ((ys.drop j).foldl (stepF timesD (xs.getD i zD)) (e,O)).1 (((ys.drop j).foldl (stepF timesD (xs.getD i zD)) (e,O)).2.map dy):=by
 intro r
 induction r with
 | zero=>
  intro j e O hj hO n hn
  obtain ⟨n,rfl⟩:∃ k,n=k+1:=⟨n-1,by omega⟩
  rw [cv_four_6ec2_l7,if_neg (by rw [List.length_map]; omega),List.drop_eq_nil_of_le (by omega)]
  unfold cv_four_6ec2_j6 cv_four_6ec2_j5
  rw [show ((i:Int)+1)=((i+1:Nat):Int) by omega,w64n (by omega)]
  rfl
 | succ r ih=>
  intro j e O hj hO n hn
  obtain ⟨n,rfl⟩:∃ k,n=k+1:=⟨n-1,by omega⟩
  have hjn:j<ys.length:=by omega
  have hy:=hys _ (getD_mem hjn)
  have hx:=hxs _ (getD_mem hi)
  have hrow:cv_four_6ec2_l7 (ys.map dy) (xs.map dy) (i:Int) p ag (n+1) (j:Int) e (O.map dy)=cv_four_6ec2_l7 (ys.map dy) (xs.map dy) (i:Int) p ag n ((j+1:Nat):Int) (stepF timesD (xs.getD i zD) (e,O) (ys.getD j zD)).1 ((stepF timesD (xs.getD i zD) (e,O) (ys.getD j zD)).2.map dy):=by
   rw [cv_four_6ec2_l7,if_pos (by rw [List.length_map]; omega),if_pos (by rw [List.length_map]; omega)]
   simp only [Int.toNat_natCast]
   rw [map_getD xs i hi,map_getD ys j hjn]
   simp only [etaDy]
   rw [dyad_Mul_eq hx hy]
   simp only [obn]
   rw [take_eq]
   simp only [obn]
   rw [if_pos (by simp only [List.length_cons,List.length_nil,List.length_map]; omega),show ((j:Int)+1)=((j+1:Nat):Int) by omega,w64n (by omega)]
   unfold stepF
   by_cases h:e=0
   ·subst h
    rw [if_pos rfl,if_pos rfl]
    by_cases h2:(timesD (xs.getD i zD) (ys.getD j zD)).2=0
    ·rw [if_pos h2,if_pos h2]; simp
    ·rw [if_neg h2,if_neg h2]; simp
   ·rw [if_neg h,if_neg h]; simp
  rw [hrow,drop_getD hjn,List.foldl_cons]
  exact ih (j+1) _ _ (by omega) (by rw [step_len]; simp only; omega) n (by omega)
theorem mul_l4 {xs ys:List D} (hxs:∀ x ∈ xs,WD x) (hys:∀ y ∈ ys,WD y) (hly:ys.length≤10) (hlx:xs.length≤10) (p:Int) :
  ∀ (r i:Nat) (e:Int) (O:List D),i+r=xs.length→O.length≤100*i→∀ n,r<n→
   cv_four_6ec2_l4 (xs.map dy) (ys.map dy) p n (i:Int) e (O.map dy)=some (((xs.drop i).foldl (rowF timesD ys) (e,O)).2.map dy,((xs.drop i).foldl (rowF timesD ys) (e,O)).1):=by
 intro r
 induction r with
 | zero=>
  intro i e O hi hO n hn
  obtain ⟨n,rfl⟩:∃ k,n=k+1:=⟨n-1,by omega⟩
  rw [cv_four_6ec2_l4,if_neg (by rw [List.length_map]; omega),List.drop_eq_nil_of_le (by omega)]
  rfl
 | succ r ih=>
  intro i e O hi hO n hn
  obtain ⟨n,rfl⟩:∃ k,n=k+1:=⟨n-1,by omega⟩
  have hin:i<xs.length:=by omega
  rw [cv_four_6ec2_l4,if_pos (by rw [List.length_map]; omega),if_pos (by rw [List.length_map]; omega)]
  have h7:=mul_l7 hxs hys hly hlx hin p (fun z0 z1 z2=>cv_four_6ec2_l4 (xs.map dy) (ys.map dy) p n z0 z1 z2) ys.length 0 e O (by omega) (by omega) fuel (by unfold fuel; omega)
  refine h7.trans ?_
  rw [List.drop_zero,drop_getD hin,List.foldl_cons]
  exact ih (i+1) _ _ (by omega) (by rw [fold_len]; simp only; omega) n (by omega)
def endsL (a:I):List D:=if cmpD a.lo a.hi=0 then [a.lo] else [a.lo,a.hi]
theorem endsL_WD {a:I} (h:okI a):∀ x ∈ endsL a,WD x:=by
 unfold endsL
 split
 ·intro x hx; have:x=a.lo:=by simpa using hx
  subst this; exact h.1
 ·intro x hx
  have:x=a.lo∨x=a.hi:=by simpa using hx
  rcases this with rfl | rfl
  ·exact h.1
  ·exact h.2.1
theorem endsL_len (a:I):(endsL a).length≤2:=by unfold endsL; split<;>simp
theorem cmpD_zero {x y:D} : cmpD x y=0↔val x=val y:=by
 rw [cmpD_eq]
 constructor
 ·intro h
  by_cases h1:val x<val y
  ·rw [if_pos h1] at h; simp at h
  ·rw [if_neg h1] at h
   by_cases h2:val y<val x
   ·rw [if_pos h2] at h; simp at h
   ·grind
 ·intro h
  rw [if_neg (by grind),if_neg (by grind)]
theorem endsL_two {a:I} (h:okI a):endsL a=[a.lo,a.hi]∨(a.lo=a.hi∧endsL a=[a.lo]):=by
 unfold endsL
 by_cases h1:cmpD a.lo a.hi=0
 ·rw [if_pos h1]; right; exact ⟨okD_ext h.1.1 h.2.1.1 (cmpD_zero.1 h1),rfl⟩
 ·rw [if_neg h1]; left; rfl
theorem mulFour_eq {a b:I} (ha:okI a) (hb:okI b) (p:Int):cv_four_6ec2 (iv a) (iv b) 0 p=some ((fourF timesD (endsL a) (endsL b)).2.map dy,(fourF timesD (endsL a) (endsL b)).1):=by
 have key:∀ xs ys:List D,(∀ x ∈ xs,WD x)→(∀ y ∈ ys,WD y)→ys.length≤2→xs.length≤2→cv_four_6ec2_j2 (xs.map dy) p 0 (ys.map dy)=some ((fourF timesD xs ys).2.map dy,(fourF timesD xs ys).1):=by
  intro xs ys hx hy hl1 hl2
  unfold cv_four_6ec2_j2
  have:=mul_l4 hx hy (by omega) (by omega) p xs.length 0 0 [] (by omega) (by simp) fuel (by unfold fuel; omega)
  rw [List.drop_zero] at this
  exact this
 have kx:=endsL_WD ha
 have ky:=endsL_WD hb
 have lx:=endsL_len a
 have ly:=endsL_len b
 have k:=key _ _ kx ky ly lx
 unfold cv_four_6ec2 cv_four_6ec2_j1
 rw [ivLo,ivLo,ivHi,ivHi,dyad_Cmp_eq ha.1 ha.2.1,dyad_Cmp_eq hb.1 hb.2.1]
 simp only [obn]
 rw [← k]
 unfold endsL
 have e1:∀ x y:D,[dy x,dy y].take 1=[x].map dy:=fun _ _=>rfl
 have e2:∀ x y:D,[dy x,dy y]=[x,y].map dy:=fun _ _=>rfl
 by_cases h1:cmpD a.lo a.hi=0
 ·rw [if_pos h1,if_pos (by simp),if_pos h1]
  by_cases h2:cmpD b.lo b.hi=0
  ·rw [if_pos h2,if_pos (by simp),if_pos h2]; rfl
  ·rw [if_neg h2,if_neg h2]; rfl
 ·rw [if_neg h1,if_neg h1]
  by_cases h2:cmpD b.lo b.hi=0
  ·rw [if_pos h2,if_pos (by simp),if_pos h2]; rfl
  ·rw [if_neg h2,if_neg h2]; rfl
def minL:List D→D
 | []=>zD
 | x :: l=>l.foldl minD x
def maxL:List D→D
 | []=>zD
 | x :: l=>l.foldl maxD x
theorem minL_WD {l:List D} (h:∀ x ∈ l,WD x):WD (minL l):=by
 cases l with
 | nil=>exact WD_z
 | cons x l=>exact WD_foldmin l x (h x List.mem_cons_self) fun y hy=>h y (List.mem_cons_of_mem _ hy)
theorem maxL_WD {l:List D} (h:∀ x ∈ l,WD x):WD (maxL l):=by
 cases l with
 | nil=>exact WD_z
 | cons x l=>exact WD_foldmax l x (h x List.mem_cons_self) fun y hy=>h y (List.mem_cons_of_mem _ hy)
theorem ends_eqL {l:List D} (h0:l≠[]) (h:∀ x ∈ l,WD x) (hlen:l.length≤1000):iv_ends (l.map dy)=some (dy (minL l),dy (maxL l)):=by
 cases l with
 | nil=>exact absurd rfl h0
 | cons x l=>exact ends_eq x l (h x List.mem_cons_self) (fun y hy=>h y (List.mem_cons_of_mem _ hy)) (by simp at hlen; omega)
theorem minD_stay {m x:D} (h:val m≤val x):minD m x=m:=by
 rcases minD_val m x with h1 | h1
 ·exact h1.1
 ·exact absurd h1.2 (by grind)
theorem maxD_stay {m x:D} (h:val x≤val m):maxD m x=m:=by
 rcases maxD_val m x with h1 | h1
 ·exact h1.1
 ·exact absurd h1.2 (by grind)
theorem minD_self (x:D):minD x x=x:=minD_stay (Rat.le_refl)
theorem maxD_self (x:D):maxD x x=x:=maxD_stay (Rat.le_refl)
theorem minD_le (m x:D):val (minD m x)≤val m∧val (minD m x)≤val x:=by
 rcases minD_val m x with h | h
 ·rw [h.1]; exact ⟨Rat.le_refl,h.2⟩
 ·rw [h.1]; exact ⟨by grind,Rat.le_refl⟩
theorem maxD_ge (m x:D):val m≤val (maxD m x)∧val x≤val (maxD m x):=by
 rcases maxD_val m x with h | h
 ·rw [h.1]; exact ⟨Rat.le_refl,h.2⟩
 ·rw [h.1]; exact ⟨by grind,Rat.le_refl⟩
def four4 {α:Type} (f:D→D→D × Int) (x1 x2 y1 y2:D) (z:α) (k:D→D→D→D→α × Int):α × Int:=
 bindE (f x1 y1) z fun q1=>bindE (f x1 y2) z fun q2=>bindE (f x2 y1) z fun q3=>bindE (f x2 y2) z fun q4=>k q1 q2 q3 q4
def min4 (a b c d:D):D:=minD (minD (minD a b) c) d
def max4 (a b c d:D):D:=maxD (maxD (maxD a b) c) d
theorem four_fin {α:Type} (f:D→D→D × Int) (x1 x2 y1 y2:D) (xs ys:List D) (hx:xs=[x1,x2]∨(x1=x2∧xs=[x1])) (hy:ys=[y1,y2]∨(y1=y2∧ys=[y1])) (z:α) (g:D→D→α × Int) :
  (if (fourF f xs ys).1=0 then g (minL (fourF f xs ys).2) (maxL (fourF f xs ys).2) else (z,(fourF f xs ys).1))=four4 f x1 x2 y1 y2 z (fun a b c d=>g (min4 a b c d) (max4 a b c d)):=by
 unfold four4 min4 max4
 rcases hx with rfl | ⟨rfl,rfl⟩<;>rcases hy with rfl | ⟨rfl,rfl⟩
 ·by_cases h1:(f x1 y1).2=0<;>by_cases h2:(f x1 y2).2=0<;>by_cases h3:(f x2 y1).2=0<;>by_cases h4:(f x2 y2).2=0<;>simp [fourF,rowF,stepF,bindE,minL,maxL,h1,h2,h3,h4]
 ·by_cases h1:(f x1 y1).2=0<;>by_cases h3:(f x2 y1).2=0<;>simp [fourF,rowF,stepF,bindE,minL,maxL,h1,h3,minD_self,maxD_self]
  rw [minD_stay (minD_le _ _).2,maxD_stay (maxD_ge _ _).2]
 ·by_cases h1:(f x1 y1).2=0<;>by_cases h2:(f x1 y2).2=0<;>simp [fourF,rowF,stepF,bindE,minL,maxL,h1,h2]
  rw [minD_stay (minD_le _ _).1,maxD_stay (maxD_ge _ _).1,minD_stay (minD_le _ _).2,maxD_stay (maxD_ge _ _).2]
 ·by_cases h1:(f x1 y1).2=0<;>simp [fourF,rowF,stepF,bindE,minL,maxL,h1,minD_self,maxD_self]
def mulI (p:Nat) (a b:I):I × Int:=four4 timesD a.lo a.hi b.lo b.hi zI fun q1 q2 q3 q4=>bindE (roundD (min4 q1 q2 q3 q4) p false) zI fun lo=>bindE (roundD (max4 q1 q2 q3 q4) p true) zI fun hi=>(⟨lo,hi⟩,0)
theorem four_ne {f:D→D→D × Int} {a b:I} (ha:okI a) (hb:okI b):(fourF f (endsL a) (endsL b)).2≠[]:=by
 intro h
 have:(fourF f (endsL a) (endsL b)).2.length=0:=by rw [h]; rfl
 unfold fourF at this
 rcases endsL_two ha with h1 | ⟨-,h1⟩<;>rcases endsL_two hb with h2 | ⟨-,h2⟩<;>rw [h1,h2] at this<;>simp [rowF,step_len] at this
theorem four_len {f:D→D→D × Int} {a b:I} (ha:okI a) (hb:okI b):(fourF f (endsL a) (endsL b)).2.length≤4:=by
 unfold fourF
 rcases endsL_two ha with h1 | ⟨-,h1⟩<;>rcases endsL_two hb with h2 | ⟨-,h2⟩<;>rw [h1,h2]<;>simp [rowF,step_len]
theorem ivMul_eq {a b:I} (ha:okI a) (hb:okI b) {p:Nat} (hp:2≤p∧p≤400) (e:Int):cv_Mul (iv a) (iv b) e (p:Int)=some (iv (st e zI (mulI p a b)).1,(st e zI (mulI p a b)).2):=by
 unfold cv_Mul
 rw [fine_two ha hb]
 simp only [obn]
 by_cases h:e=0
 ·subst h
  rw [if_neg (by simp),st_zero,mulFour_eq ha hb]
  simp only [obn]
  have hW:∀ z ∈ (fourF timesD (endsL a) (endsL b)).2,WD z:=four_WD (fun _ _ _ _=>WD_times) (endsL_WD hb) _ (endsL_WD ha) _ (by intro z hz; cases hz)
  have hl:=four_len (f:=timesD) ha hb
  rw [ends_eqL (four_ne ha hb) hW (by omega)]
  simp only [obn]
  have hm:=four_fin timesD a.lo a.hi b.lo b.hi (endsL a) (endsL b) (endsL_two ha) (endsL_two hb) zI (fun m M=>bindE (roundD m p false) zI fun lo=>bindE (roundD M p true) zI fun hi=>(⟨lo,hi⟩,0))
  unfold mulI
  rw [← hm]
  have hWm:=minL_WD hW
  have hWM:=maxL_WD hW
  generalize (fourF timesD (endsL a) (endsL b)).1=e at *
  generalize minL (fourF timesD (endsL a) (endsL b)).2=m at *
  generalize maxL (fourF timesD (endsL a) (endsL b)).2=M at *
  rw [downE_eq hWm hp]
  simp only [obn]
  by_cases h0:e=0
  ·subst h0
   rw [if_pos rfl,st_zero,upE_eq hWM hp]
   simp only [obn]
   by_cases h1:(roundD m p false).2=0
   ·rw [bindE_ok h1,bindE_ok h1,st_zero]
    by_cases h2:(roundD M p true).2=0
    ·rw [bindE_ok h2,bindE_ok h2,outE_eq]
     simp only [obn]
     rfl
    ·rw [bindE_no h2,bindE_no h2,outE_eq]
     simp only [obn]
     rw [if_neg h2]
   ·rw [bindE_no h1,bindE_no h1,st_ne h1,outE_eq]
    simp only [obn]
    rw [if_neg h1]
  ·rw [if_neg h0,st_ne h0,upE_eq hWM hp,st_ne h0]
   simp only [obn]
   rw [outE_eq,if_neg h0]
   simp only [obn]
 ·rw [if_pos (fine_no h),st_ne h,iv_z]
theorem div_l7 {xs ys:List D} (hxs:∀ x ∈ xs,WD x) (hys:∀ y ∈ ys,WD y) (hly:ys.length≤10) (hlx:xs.length≤10) {i:Nat} (hi:i<xs.length) {p:Nat} (hp:2≤p∧p≤400) (up:Bool) (ag:Int→Int→List AD→Option (List AD × Int)) :
  ∀ (r j:Nat) (e:Int) (O:List D),j+r=ys.length→O.length+r≤2000→∀ n,r<n→
   cv_four_e8e7_l7 (ys.map dy) (xs.map dy) (i:Int) (p:Int) up ag n (j:Int) e (O.map dy)=ag ((i+1:Nat):Int) ((ys.drop j).foldl (stepF (fun x y=>divD x y p up) (xs.getD i zD)) (e,O)).1 (((ys.drop j).foldl (stepF (fun x y=>divD x y p up) (xs.getD i zD)) (e,O)).2.map dy):=by
 intro r
 induction r with
 | zero=>
  intro j e O hj hO n hn
  obtain ⟨n,rfl⟩:∃ k,n=k+1:=⟨n-1,by omega⟩
  rw [cv_four_e8e7_l7,if_neg (by rw [List.length_map]; omega),List.drop_eq_nil_of_le (by omega)]
  unfold cv_four_e8e7_j6 cv_four_e8e7_j5
  rw [show ((i:Int)+1)=((i+1:Nat):Int) by omega,w64n (by omega)]
  rfl
 | succ r ih=>
  intro j e O hj hO n hn
  obtain ⟨n,rfl⟩:∃ k,n=k+1:=⟨n-1,by omega⟩
  have hjn:j<ys.length:=by omega
  have hy:=hys _ (getD_mem hjn)
  have hx:=hxs _ (getD_mem hi)
  have hrow:cv_four_e8e7_l7 (ys.map dy) (xs.map dy) (i:Int) (p:Int) up ag (n+1) (j:Int) e (O.map dy)=cv_four_e8e7_l7 (ys.map dy) (xs.map dy) (i:Int) (p:Int) up ag n ((j+1:Nat):Int) (stepF (fun x y=>divD x y p up) (xs.getD i zD) (e,O) (ys.getD j zD)).1 ((stepF (fun x y=>divD x y p up) (xs.getD i zD) (e,O) (ys.getD j zD)).2.map dy):=by
   rw [cv_four_e8e7_l7,if_pos (by rw [List.length_map]; omega),if_pos (by rw [List.length_map]; omega)]
   simp only [Int.toNat_natCast]
   rw [map_getD xs i hi,map_getD ys j hjn]
   simp only [etaDy]
   unfold cv_Div_1_1
   rw [dyad_Div_eq hx hy hp up]
   simp only [obn]
   rw [take_eq]
   simp only [obn]
   rw [if_pos (by simp only [List.length_cons,List.length_nil,List.length_map]; omega),show ((j:Int)+1)=((j+1:Nat):Int) by omega,w64n (by omega)]
   unfold stepF
   by_cases h:e=0
   ·subst h
    rw [if_pos rfl,if_pos rfl]
    by_cases h2:(divD (xs.getD i zD) (ys.getD j zD) p up).2=0
    ·rw [if_pos h2,if_pos h2]; simp
    ·rw [if_neg h2,if_neg h2]; simp
   ·rw [if_neg h,if_neg h]; simp
  rw [hrow,drop_getD hjn,List.foldl_cons]
  exact ih (j+1) _ _ (by omega) (by rw [step_len]; simp only; omega) n (by omega)
theorem div_l4 {xs ys:List D} (hxs:∀ x ∈ xs,WD x) (hys:∀ y ∈ ys,WD y) (hly:ys.length≤10) (hlx:xs.length≤10) {p:Nat} (hp:2≤p∧p≤400) (up:Bool) :
  ∀ (r i:Nat) (e:Int) (O:List D),i+r=xs.length→O.length≤100*i→∀ n,r<n→
   cv_four_e8e7_l4 (xs.map dy) (ys.map dy) (p:Int) up n (i:Int) e (O.map dy)=some (((xs.drop i).foldl (rowF (fun x y=>divD x y p up) ys) (e,O)).2.map dy,((xs.drop i).foldl (rowF (fun x y=>divD x y p up) ys) (e,O)).1):=by
 intro r
 induction r with
 | zero=>
  intro i e O hi hO n hn
  obtain ⟨n,rfl⟩:∃ k,n=k+1:=⟨n-1,by omega⟩
  rw [cv_four_e8e7_l4,if_neg (by rw [List.length_map]; omega),List.drop_eq_nil_of_le (by omega)]
  rfl
 | succ r ih=>
  intro i e O hi hO n hn
  obtain ⟨n,rfl⟩:∃ k,n=k+1:=⟨n-1,by omega⟩
  have hin:i<xs.length:=by omega
  rw [cv_four_e8e7_l4,if_pos (by rw [List.length_map]; omega),if_pos (by rw [List.length_map]; omega)]
  have h7:=div_l7 hxs hys hly hlx hin hp up (fun z0 z1 z2=>cv_four_e8e7_l4 (xs.map dy) (ys.map dy) (p:Int) up n z0 z1 z2) ys.length 0 e O (by omega) (by omega) fuel (by unfold fuel; omega)
  refine h7.trans ?_
  rw [List.drop_zero,drop_getD hin,List.foldl_cons]
  exact ih (i+1) _ _ (by omega) (by rw [fold_len]; simp only; omega) n (by omega)
theorem divFour_eq {a b:I} (ha:okI a) (hb:okI b) {p:Nat} (hp:2≤p∧p≤400) (up:Bool):cv_four_e8e7 (iv a) (iv b) 0 (p:Int) up=some ((fourF (fun x y=>divD x y p up) (endsL a) (endsL b)).2.map dy,(fourF (fun x y=>divD x y p up) (endsL a) (endsL b)).1):=by
 have key:∀ xs ys:List D,(∀ x ∈ xs,WD x)→(∀ y ∈ ys,WD y)→ys.length≤2→xs.length≤2→cv_four_e8e7_j2 (xs.map dy) (p:Int) up 0 (ys.map dy)=some ((fourF (fun x y=>divD x y p up) xs ys).2.map dy,(fourF (fun x y=>divD x y p up) xs ys).1):=by
  intro xs ys hx hy hl1 hl2
  unfold cv_four_e8e7_j2
  have:=div_l4 hx hy (by omega) (by omega) hp up xs.length 0 0 [] (by omega) (by simp) fuel (by unfold fuel; omega)
  rw [List.drop_zero] at this
  exact this
 have kx:=endsL_WD ha
 have ky:=endsL_WD hb
 have lx:=endsL_len a
 have ly:=endsL_len b
 have k:=key _ _ kx ky ly lx
 unfold cv_four_e8e7 cv_four_e8e7_j1
 rw [ivLo,ivLo,ivHi,ivHi,dyad_Cmp_eq ha.1 ha.2.1,dyad_Cmp_eq hb.1 hb.2.1]
 simp only [obn]
 rw [← k]
 unfold endsL
 have e1:∀ x y:D,[dy x,dy y].take 1=[x].map dy:=fun _ _=>rfl
 have e2:∀ x y:D,[dy x,dy y]=[x,y].map dy:=fun _ _=>rfl
 by_cases h1:cmpD a.lo a.hi=0
 ·rw [if_pos h1,if_pos (by simp),if_pos h1]
  by_cases h2:cmpD b.lo b.hi=0
  ·rw [if_pos h2,if_pos (by simp),if_pos h2]; rfl
  ·rw [if_neg h2,if_neg h2]; rfl
 ·rw [if_neg h1,if_neg h1]
  by_cases h2:cmpD b.lo b.hi=0
  ·rw [if_pos h2,if_pos (by simp),if_pos h2]; rfl
  ·rw [if_neg h2,if_neg h2]; rfl
def divI (p:Nat) (a b:I):I × Int:=if hasI b zD then (zI,3) else
 four4 (fun x y=>divD x y p false) a.lo a.hi b.lo b.hi zI fun q1 q2 q3 q4=>four4 (fun x y=>divD x y p true) a.lo a.hi b.lo b.hi zI fun r1 r2 r3 r4=>(⟨min4 q1 q2 q3 q4,max4 r1 r2 r3 r4⟩,0)
theorem fourF_ne {f:D→D→D × Int} {xs ys:List D} {e:Int} (he:e≠0):∀ (s:Int × List D),s.1=e→(xs.foldl (rowF f ys) s).1=e:=by
 have h1:∀ (x:D) (s:Int × List D) (y:D),s.1=e→(stepF f x s y).1=e:=by
  intro x s y hs
  unfold stepF
  rw [if_neg (by rw [hs]; exact he)]
  exact hs
 have h2:∀ (x:D) (l:List D) (s:Int × List D),s.1=e→(l.foldl (stepF f x) s).1=e:=by
  intro x l
  induction l with
  | nil=>intro s hs; exact hs
  | cons y l ih=>intro s hs; rw [List.foldl_cons]; exact ih _ (h1 x s y hs)
 induction xs with
 | nil=>intro s hs; exact hs
 | cons x l ih=>intro s hs; rw [List.foldl_cons]; exact ih _ (h2 x ys s hs)
theorem divFour_ne {a b:I} (ha:okI a) (hb:okI b) {p:Nat} (hp:2≤p∧p≤400) (up:Bool) {e:Int} (he:e≠0):∃ L:List D,cv_four_e8e7 (iv a) (iv b) e (p:Int) up=some (L.map dy,e)∧L≠[]∧L.length≤4∧∀ z ∈ L,WD z:=by
 have kx:=endsL_WD ha
 have ky:=endsL_WD hb
 have lx:=endsL_len a
 have ly:=endsL_len b
 have hk:=div_l4 kx ky (by omega) (by omega) hp up (endsL a).length 0 e [] (by omega) (by simp) fuel (by unfold fuel; omega)
 rw [List.drop_zero,fourF_ne he _ rfl] at hk
 refine ⟨_,?_,?_,?_,four_WD (f:=fun x y=>divD x y p up) (fun _ _ _ _=>WD_div) ky (endsL a) kx (e,[]) (by intro z hz; cases hz)⟩
 ·unfold cv_four_e8e7 cv_four_e8e7_j1 cv_four_e8e7_j2
  rw [ivLo,ivLo,ivHi,ivHi,dyad_Cmp_eq ha.1 ha.2.1,dyad_Cmp_eq hb.1 hb.2.1]
  simp only [obn]
  rw [← hk]
  unfold endsL
  by_cases h1:cmpD a.lo a.hi=0
  ·rw [if_pos h1,if_pos (by simp),if_pos h1]
   by_cases h2:cmpD b.lo b.hi=0
   ·rw [if_pos h2,if_pos (by simp),if_pos h2]; rfl
   ·rw [if_neg h2,if_neg h2]; rfl
  ·rw [if_neg h1,if_neg h1]
   by_cases h2:cmpD b.lo b.hi=0
   ·rw [if_pos h2,if_pos (by simp),if_pos h2]; rfl
   ·rw [if_neg h2,if_neg h2]; rfl
 ·intro h
  have hlen:((endsL a).foldl (rowF (fun x y=>divD x y p up) (endsL b)) (e,[])).2.length=0:=by rw [h]; rfl
  rcases endsL_two ha with h1 | ⟨-,h1⟩<;>rcases endsL_two hb with h2 | ⟨-,h2⟩<;>rw [h1,h2] at hlen<;>simp [rowF,step_len] at hlen
 ·rcases endsL_two ha with h1 | ⟨-,h1⟩<;>rcases endsL_two hb with h2 | ⟨-,h2⟩<;>rw [h1,h2]<;>simp [rowF,step_len]
theorem ivDiv_eq {a b:I} (ha:okI a) (hb:okI b) {p:Nat} (hp:2≤p∧p≤400) (e:Int):cv_Div (iv a) (iv b) e (p:Int)=some (iv (st e zI (divI p a b)).1,(st e zI (divI p a b)).2):=by
 unfold cv_Div
 rw [fine_two ha hb]
 simp only [obn]
 by_cases h:e=0
 ·subst h
  rw [if_neg (by simp),st_zero,← dy_z,ivHas_eq hb WD_z]
  simp only [obn]
  unfold divI
  by_cases hz:hasI b zD=true
  ·rw [if_pos hz,if_pos hz,note_eq]
   simp only [obn]
   rfl
  ·rw [if_neg hz,if_neg hz]
   unfold cv_Div_1
   simp only [obn]
   rw [divFour_eq ha hb hp]
   simp only [obn]
   have hW:∀ up,∀ z ∈ (fourF (fun x y=>divD x y p up) (endsL a) (endsL b)).2,WD z:=fun up=>four_WD (fun _ _ _ _=>WD_div) (endsL_WD hb) _ (endsL_WD ha) _ (by intro z hz; cases hz)
   have hl:=fun up=>four_len (f:=fun x y=>divD x y p up) ha hb
   rw [ends_eqL (four_ne ha hb) (hW false) (by have:=hl false; omega)]
   simp only [obn]
   rw [← four_fin (fun x y=>divD x y p false) a.lo a.hi b.lo b.hi (endsL a) (endsL b) (endsL_two ha) (endsL_two hb) zI (fun m _=>four4 (fun x y=>divD x y p true) a.lo a.hi b.lo b.hi zI fun r1 r2 r3 r4=>(⟨m,max4 r1 r2 r3 r4⟩,0))]
   by_cases h0:(fourF (fun x y=>divD x y p false) (endsL a) (endsL b)).1=0
   ·rw [h0,if_pos rfl,divFour_eq ha hb hp]
    simp only [obn]
    rw [ends_eqL (four_ne ha hb) (hW true) (by have:=hl true; omega)]
    simp only [obn]
    rw [outE_eq]
    simp only [obn]
    generalize minL (fourF (fun x y=>divD x y p false) (endsL a) (endsL b)).2=m
    rw [← four_fin (fun x y=>divD x y p true) a.lo a.hi b.lo b.hi (endsL a) (endsL b) (endsL_two ha) (endsL_two hb) zI (fun _ M=>(⟨m,M⟩,0))]
    by_cases h1:(fourF (fun x y=>divD x y p true) (endsL a) (endsL b)).1=0
    ·rw [if_pos h1,if_pos h1,h1]
    ·rw [if_neg h1,if_neg h1]
   ·rw [if_neg h0]
    obtain ⟨L,l1,l2,l3,l4⟩:=divFour_ne ha hb hp true h0
    rw [l1]
    simp only [obn]
    rw [ends_eqL l2 l4 (by omega)]
    simp only [obn]
    rw [outE_eq,if_neg h0]
    simp only [obn]
 ·rw [if_pos (fine_no h),st_ne h,iv_z]
theorem natCast_le {a b:Nat} (h:a≤b):(a:Rat)≤(b:Rat):=by exact_mod_cast h
theorem mul_le_iff {a b p:Rat} (hp:0<p):a*p≤b*p↔a≤b:=by
 constructor
 ·intro h
  by_cases h':a≤b
  ·exact h'
  ·have:=Rat.mul_lt_mul_of_pos_right (show b<a by grind) hp
   grind
 ·intro h; exact Rat.mul_le_mul_of_nonneg_right h (Rat.le_of_lt hp)
theorem val_cut (neg:Bool) (m:Nat) (e:Int) (s:Bool) (p:Nat) (away:Bool):val (cutD neg m e s p away)=(sg neg (cutN m s p away):Rat)*p2 (e+(blen m-p:Nat)):=by
 unfold cutD; rw [val_nrm]
theorem cutN_lo (m:Nat) (s:Bool) (p:Nat):cutN m s p false*2 ^ (blen m-p)≤m:=by
 unfold cutN
 simp only [Bool.and_false,Bool.false_eq_true,if_false,Nat.add_zero]
 exact Nat.div_mul_le_self _ _
theorem cutN_hi (m:Nat) (s:Bool) (p:Nat):m+(if s then 1 else 0)≤cutN m s p true*2 ^ (blen m-p):=by
 unfold cutN
 have h1:=Nat.div_add_mod m (2 ^ (blen m-p))
 have hp:0<2 ^ (blen m-p):=Nat.pow_pos (by decide)
 have h2:=Nat.mod_lt m hp
 generalize 2 ^ (blen m-p)=W at *
 rw [Nat.add_mul,Nat.mul_comm (m / W) W]
 cases s with
 | true=>simp; omega
 | false=>
  by_cases h:m % W=0
  ·simp [h]; omega
  ·simp [h]; omega
theorem cutN_le (m:Nat) (s:Bool) (p:Nat) (away:Bool):cutN m s p away≤2 ^ p:=by
 unfold cutN
 have h1:=blen_lt m
 have h2:m / 2 ^ (blen m-p)<2 ^ p:=by
  rw [Nat.div_lt_iff_lt_mul (Nat.pow_pos (by decide)),← Nat.pow_add]
  exact Nat.lt_of_lt_of_le h1 (Nat.pow_le_pow_right (by decide) (by omega))
 split<;>omega
def rnd (x:D) (p:Nat) (up:Bool):D:=cutD (decide (x.m<0)) x.m.natAbs x.e false p (up != decide (x.m<0))
theorem roundD_eq (x:D) (p:Nat) (up:Bool):roundD x p up=tell (rnd x p up):=rfl
theorem p2_split (e:Int) (n:Nat):p2 (e+(n:Nat))=((2 ^ n:Nat):Rat)*p2 e:=by rw [Int.add_comm,p2_add,p2_nat]
theorem val_abs_pos {x:D} (h:¬x.m<0):val x=(x.m.natAbs:Rat)*p2 x.e:=by
 unfold val
 congr 1
 have:x.m=(x.m.natAbs:Int):=by omega
 conv=>lhs; rw [this]
 rw [Rat.intCast_natCast]
theorem val_abs_neg {x:D} (h:x.m<0):val x = -((x.m.natAbs:Rat)*p2 x.e):=by
 unfold val
 have:x.m = -(x.m.natAbs:Int):=by omega
 conv=>lhs; rw [this]
 rw [Rat.intCast_neg,Rat.intCast_natCast,Rat.neg_mul]
theorem sg_pos_cast (n:Nat):((sg false n:Int):Rat)=(n:Rat):=by
 show (((n:Nat):Int):Rat)=(n:Rat)
 rw [Rat.intCast_natCast]
theorem sg_neg_cast (n:Nat):((sg true n:Int):Rat) = -(n:Rat):=by
 show ((-((n:Nat):Int):Int):Rat) = -(n:Rat)
 rw [Rat.intCast_neg,Rat.intCast_natCast]
theorem cut_lo (m:Nat) (e:Int) (s:Bool) (p:Nat):((cutN m s p false:Nat):Rat)*p2 (e+(blen m-p:Nat))≤(m:Rat)*p2 e:=by
 rw [p2_split,← Rat.mul_assoc,← Rat.natCast_mul,mul_le_iff (p2_pos e)]
 exact natCast_le (cutN_lo m s p)
theorem cut_hi (m:Nat) (e:Int) (s:Bool) (p:Nat):((m+(if s then 1 else 0):Nat):Rat)*p2 e≤((cutN m s p true:Nat):Rat)*p2 (e+(blen m-p:Nat)):=by
 rw [p2_split,← Rat.mul_assoc,← Rat.natCast_mul,mul_le_iff (p2_pos e)]
 exact natCast_le (cutN_hi m s p)
theorem rnd_down (x:D) (p:Nat):val (rnd x p false)≤val x:=by
 unfold rnd
 rw [val_cut]
 by_cases h:x.m<0
 ·rw [val_abs_neg h,decide_eq_true h,sg_neg_cast]
  have:=cut_hi x.m.natAbs x.e false p
  simp at this ⊢
  grind
 ·rw [val_abs_pos h,decide_eq_false h,sg_pos_cast]
  exact cut_lo _ _ _ _
theorem rnd_up (x:D) (p:Nat):val x≤val (rnd x p true):=by
 unfold rnd
 rw [val_cut]
 by_cases h:x.m<0
 ·rw [val_abs_neg h,decide_eq_true h,sg_neg_cast]
  have:=cut_lo x.m.natAbs x.e false p
  simp at this ⊢
  grind
 ·rw [val_abs_pos h,decide_eq_false h,sg_pos_cast]
  have:=cut_hi x.m.natAbs x.e false p
  simp at this ⊢
  exact this
def rep (p:Nat) (q:Rat):Prop:=∃ (w f:Int),q=(w:Rat)*p2 f∧w.natAbs≤2 ^ p
def G (L:Int) (q:Rat):Prop:=∃ z:Int,q=(z:Rat)*p2 L
def B (H:Int) (q:Rat):Prop:=-(p2 H)≤q∧q≤p2 H
theorem G.add {L:Int} {x y:Rat} (hx:G L x) (hy:G L y):G L (x+y):=by
 obtain ⟨a,rfl⟩:=hx
 obtain ⟨b,rfl⟩:=hy
 exact ⟨a+b,by rw [Rat.intCast_add]; grind⟩
theorem G.neg {L:Int} {x:Rat} (hx:G L x):G L (-x):=by
 obtain ⟨a,rfl⟩:=hx
 exact ⟨-a,by rw [Rat.intCast_neg]; grind⟩
theorem G.mul {L M:Int} {x y:Rat} (hx:G L x) (hy:G M y):G (L+M) (x*y):=by
 obtain ⟨a,rfl⟩:=hx
 obtain ⟨b,rfl⟩:=hy
 exact ⟨a*b,by rw [Rat.intCast_mul,p2_add]; grind⟩
theorem G.mono {L M:Int} {x:Rat} (hx:G L x) (h:M≤L):G M x:=by
 obtain ⟨a,rfl⟩:=hx
 exact ⟨a*2 ^ (L-M).toNat,by rw [Rat.intCast_mul,Rat.mul_assoc,← p2_diff h]⟩
theorem G.of {z:Int} {L M:Int} (h:M≤L):G M ((z:Rat)*p2 L):=G.mono ⟨z,rfl⟩ h
theorem B.mono {H K:Int} {x:Rat} (hx:B H x) (h:H≤K):B K x:=by
 have:=p2_le h
 unfold B at *
 grind
theorem p2_succ (H:Int):p2 (H+1)=2*p2 H:=by
 rw [p2_add,show (1:Int)=((1:Nat):Int) by rfl,p2_nat]
 have:((2 ^ 1:Nat):Rat)=2:=by rfl
 rw [this]; grind
theorem B.add {H:Int} {x y:Rat} (hx:B H x) (hy:B H y):B (H+1) (x+y):=by
 unfold B at *
 rw [p2_succ]
 grind
theorem B.neg {H:Int} {x:Rat} (hx:B H x):B H (-x):=by unfold B at *; grind
theorem mul_abs_le {a b x y:Rat} (hx : -a≤x∧x≤a) (hy : -b≤y∧y≤b) : -(a*b)≤x*y∧x*y≤a*b:=by
 have h1:=Rat.mul_nonneg (show 0≤a-x by grind) (show 0≤b-y by grind)
 have h2:=Rat.mul_nonneg (show 0≤a+x by grind) (show 0≤b+y by grind)
 have h3:=Rat.mul_nonneg (show 0≤a-x by grind) (show 0≤b+y by grind)
 have h4:=Rat.mul_nonneg (show 0≤a+x by grind) (show 0≤b-y by grind)
 constructor<;>grind
theorem B.mul {H K:Int} {x y:Rat} (hx:B H x) (hy:B K y):B (H+K) (x*y):=by
 unfold B at *
 rw [p2_add]
 exact mul_abs_le hx hy
theorem negD_abs (d:D):(negD d).m.natAbs=d.m.natAbs:=by unfold negD; simp
structure Okd (d:D) (L H:Int):Prop where
 w:WD d
 g:G L (val d)
 b:B H (val d)
theorem Okd.mono {d:D} {L H L' H':Int} (h:Okd d L H) (h1:L'≤L) (h2:H≤H'):Okd d L' H':=⟨h.w,h.g.mono h1,h.b.mono h2⟩
theorem Okd.neg {d:D} {L H:Int} (h:Okd d L H):Okd (negD d) L H:=⟨h.w.neg,by rw [val_neg]; exact h.g.neg,by rw [val_neg]; exact h.b.neg⟩
theorem val_scale {x:D} {n:Int} : val ⟨x.m,x.e+n⟩=val x*p2 n:=by unfold val; simp only; rw [p2_add,Rat.mul_assoc]
structure OkI (a:I) (L H:Int):Prop where
 lo:Okd a.lo L H
 hi:Okd a.hi L H
 le:val a.lo≤val a.hi
theorem OkI.ok {a:I} {L H:Int} (h:OkI a L H):okI a:=⟨h.lo.w,h.hi.w,h.le⟩
theorem OkI.mono {a:I} {L H L' H':Int} (h:OkI a L H) (h1:L'≤L) (h2:H≤H'):OkI a L' H':=⟨h.lo.mono h1 h2,h.hi.mono h1 h2,h.le⟩
theorem OkI.neg {a:I} {L H:Int} (h:OkI a L H):OkI (negI a) L H:=⟨h.hi.neg,h.lo.neg,(okI_neg h.ok).2.2⟩
structure Enc (p:Nat) (c:I) (u v:Rat):Prop where
 lo:val c.lo≤u
 hi:v≤val c.hi
 blo:∀ q,rep p q→q≤u→q≤val c.lo
 bhi:∀ q,rep p q→v≤q→val c.hi≤q
 rlo:rep p (val c.lo)
 rhi:rep p (val c.hi)
theorem min4_le (a b c d:D):val (min4 a b c d)≤val a∧val (min4 a b c d)≤val b∧val (min4 a b c d)≤val c∧val (min4 a b c d)≤val d:=by
 have h1:=minD_le a b
 have h2:=minD_le (minD a b) c
 have h3:=minD_le (minD (minD a b) c) d
 unfold min4
 grind
theorem max4_ge (a b c d:D):val a≤val (max4 a b c d)∧val b≤val (max4 a b c d)∧val c≤val (max4 a b c d)∧val d≤val (max4 a b c d):=by
 have h1:=maxD_ge a b
 have h2:=maxD_ge (maxD a b) c
 have h3:=maxD_ge (maxD (maxD a b) c) d
 unfold max4
 grind
structure Prod (a b:I) (u v:Rat):Prop where
 h1:u≤val a.lo*val b.lo∧val a.lo*val b.lo≤v
 h2:u≤val a.lo*val b.hi∧val a.lo*val b.hi≤v
 h3:u≤val a.hi*val b.lo∧val a.hi*val b.lo≤v
 h4:u≤val a.hi*val b.hi∧val a.hi*val b.hi≤v
 mu:u=val a.lo*val b.lo∨u=val a.lo*val b.hi∨u=val a.hi*val b.lo∨u=val a.hi*val b.hi
 mv:v=val a.lo*val b.lo∨v=val a.lo*val b.hi∨v=val a.hi*val b.lo∨v=val a.hi*val b.hi
instance:DecidableEq I:=fun x y=>
 if h:x.lo=y.lo∧x.hi=y.hi then isTrue (by cases x; cases y; simp only at h; rw [h.1,h.2]) else isFalse (fun e=>h (by rw [e]; exact ⟨rfl,rfl⟩))
theorem ivNew_eq {p:Nat} (hp:2≤p∧p≤400):iv_New (p:Int)=some (Sum.inr (0,0,(p:Int))):=by
 unfold iv_New iv_New_j1
 rw [if_neg (by omega),if_neg (by simp; omega)]
theorem okI_int {n:Int} (hn : -9223372036854775808≤n∧n≤9223372036854775807):okI (intI n):=okI_point (WD_from hn)
theorem div_of_mul {a b z:Rat} (hb:b≠0) (h:z*b=a):a / b=z:=by
 rw [Rat.div_def,← h,Rat.mul_assoc,Rat.mul_inv_cancel _ hb,Rat.mul_one]
theorem mul_of_div {a b:Rat} (hb:b≠0):a / b*b=a:=by
 rw [Rat.div_def,Rat.mul_assoc,Rat.inv_mul_cancel _ hb,Rat.mul_one]
theorem ratio {v Y:Nat} (hY:Y≠0):((v / Y:Nat):Rat)≤(v:Rat) / (Y:Rat)∧(v:Rat) / (Y:Rat)≤((v / Y+(if (v % Y != 0) then 1 else 0):Nat):Rat):=by
 have hp:(0:Rat)<(Y:Rat):=by exact_mod_cast Nat.pos_of_ne_zero hY
 have hm:=mul_of_div (a:=(v:Rat)) (b:=(Y:Rat)) (by grind)
 have h1:=Nat.div_add_mod v Y
 have h2:=Nat.mod_lt v (Nat.pos_of_ne_zero hY)
 constructor
 ·rw [← mul_le_iff hp,hm,← Rat.natCast_mul]
  exact natCast_le (Nat.div_mul_le_self _ _)
 ·rw [← mul_le_iff hp,hm,← Rat.natCast_mul]
  apply natCast_le
  by_cases h:v % Y=0
  ·have e:(v % Y != 0)=false:=by simpa using h
   rw [e]; simp; rw [Nat.mul_comm]; omega
  ·have e:(v % Y != 0)=true:=by simpa using h
   rw [e,if_pos rfl,Nat.add_mul,Nat.one_mul,Nat.mul_comm (v / Y) Y]; omega
theorem sq_le {a b:Rat} (ha:0≤a) (hb:0≤b) (h:a*a≤b*b):a≤b:=by
 by_cases h1:a≤b
 ·exact h1
 ·have h2:=Rat.mul_lt_mul_of_pos_right (show b<a by grind) (show 0<a by grind)
  have h3:=Rat.mul_le_mul_of_nonneg_left (show b≤a by grind) hb
  grind
theorem has_zero {b:I} (h:hasI b zD=false):0<val b.lo∨val b.hi<0:=by
 have h1:=mt (hasI_iff b zD).2 (by rw [h]; simp)
 rw [val_z] at h1
 by_cases h2:val b.lo≤0
 ·right; by_cases h3:0≤val b.hi
  ·exact absurd ⟨h2,h3⟩ h1
  ·grind
 ·left; grind
theorem divI_zero {b:I} (h:hasI b zD=true) (p:Nat) (a:I):divI p a b=(zI,3):=by
 unfold divI; rw [if_pos h]
theorem Enc.sub {p:Nat} {c d:I} {u v u' v':Rat} (hc:Enc p c u v) (hd:Enc p d u' v') (h1:u'≤u) (h2:v≤v'):val d.lo≤val c.lo∧val c.hi≤val d.hi:=by
 constructor
 ·refine hc.blo _ hd.rlo ?_
  have:=hd.lo; grind
 ·refine hc.bhi _ hd.rhi ?_
  have:=hd.hi; grind
theorem rmul_inner {a b:List Int} (ha:Dig a) (hb:Dig b) (hla:a.length≤1073741824) (hlb:b.length≤1073741824) {i:Nat} (hi:i<a.length) (ag:Int→List Int→Option (List Int)) :
  ∀ (r k:Nat) (c:Int) (O:List Int),k+r=b.length→Dig O→O.length=a.length+b.length→0≤c∧c<4294967296→O.getD (i+b.length) 0=0→∀ n,r<n→
   ∃ O',r01_Mul_l5 b (i:Int) a ag n c (k:Int) O=ag ((i+1:Nat):Int) O'∧Dig O'∧O'.length=a.length+b.length∧dval O'=dval O+4294967296 ^ (i+k)*(c.toNat+(a.getD i 0).toNat*dval (b.drop k))∧
    ∀ j,i+b.length<j→O'.getD j 0=O.getD j 0:=by
 intro r
 have hz:(kInt .u32).z=0:=rfl
 have hx:=dig_getD ha i
 induction r with
 | zero=>
  intro k c O hk hO hl hc h0 n hn
  obtain ⟨n,rfl⟩:∃ k,n=k+1:=⟨n-1,by omega⟩
  have hw:IntKind.i64.wrap ((i:Int)+(b.length:Int))=((i+b.length:Nat):Int):=by rw [w64]<;>omega
  have hw2:IntKind.i64.wrap ((i:Int)+1)=((i+1:Nat):Int):=by rw [w64]<;>omega
  have hc':IntKind.u32.wrap c=c:=by rw [wu32]; omega
  refine ⟨O.set (i+b.length) c,?_,dig_set hO _ hc,by simp [hl],?_,fun j hj=>getD_set_ne _ _ (by omega)⟩
  ·rw [r01_Mul_l5,if_neg (by omega)]
   unfold r01_Mul_j4
   rw [hw,if_pos (by simp only [Int.toNat_natCast]; omega)]
   unfold r01_Mul_j3
   rw [hw2,hc']
   simp only [Int.toNat_natCast]
  ·have:=dval_set O (i+b.length) c (by omega)
   rw [h0] at this
   have hk':k=b.length:=by omega
   have hd:b.drop k=[]:=List.drop_eq_nil_of_le (by omega)
   rw [hd,hk']
   simp only [dval,Int.toNat_zero,Nat.mul_zero,Nat.add_zero] at this ⊢
   exact this
 | succ r ih=>
  intro k c O hk hO hl hc h0 n hn
  obtain ⟨n,rfl⟩:∃ k,n=k+1:=⟨n-1,by omega⟩
  have hy:=dig_getD hb k
  have ho:=dig_getD hO (i+k)
  have hw:IntKind.i64.wrap ((i:Int)+(k:Int))=((i+k:Nat):Int):=by rw [w64]<;>omega
  have hw2:IntKind.i64.wrap ((k:Int)+1)=((k+1:Nat):Int):=by rw [w64]<;>omega
  have hxy:0≤a.getD i 0*b.getD k 0∧a.getD i 0*b.getD k 0≤4294967295*4294967295:=by
   refine ⟨Int.mul_nonneg hx.1 hy.1,?_⟩
   exact Int.mul_le_mul (by omega) (by omega) hy.1 (by omega)
  let s:Int:=a.getD i 0*b.getD k 0+O.getD (i+k) 0+c
  have hs:0≤s∧s<18446744073709551616:=by
   show 0≤a.getD i 0*b.getD k 0+O.getD (i+k) 0+c∧a.getD i 0*b.getD k 0+O.getD (i+k) 0+c<18446744073709551616
   omega
  have hwr:IntKind.u64.wrap ((IntKind.u64.wrap ((IntKind.u64.wrap ((IntKind.u64.wrap (a.getD i 0))*(IntKind.u64.wrap (b.getD k 0))))+(IntKind.u64.wrap (O.getD (i+k) 0))))+c)=s:=by
   simp only [wu64]
   rw [Int.emod_eq_of_lt hx.1 (by omega),Int.emod_eq_of_lt hy.1 (by omega),Int.emod_eq_of_lt ho.1 (by omega),Int.emod_eq_of_lt hxy.1 (by omega)]
   show (((a.getD i 0*b.getD k 0+O.getD (i+k) 0) % 18446744073709551616)+c) % 18446744073709551616=a.getD i 0*b.getD k 0+O.getD (i+k) 0+c
   have h3:0≤a.getD i 0*b.getD k 0+O.getD (i+k) 0:=by omega
   have h4:a.getD i 0*b.getD k 0+O.getD (i+k) 0+c<18446744073709551616:=hs.2
   omega
  have hsh:shrI .u64 s 32=s / 4294967296:=by
   unfold shrI
   simp [IntKind.bits]
   rw [Int.fdiv_eq_ediv_of_nonneg _ (by decide)]
  have hlo:IntKind.u32.wrap s=s % 4294967296:=wu32
  obtain ⟨O',e,d1,d2,d3,d4⟩:=ih (k+1) (s / 4294967296) (O.set (i+k) (s % 4294967296)) (by omega) (dig_set hO _ (by omega)) (by simp [hl]) (by omega) (by rw [getD_set_ne _ _ (by omega)]; exact h0) n (by omega)
  refine ⟨O',?_,d1,d2,?_,fun j hj=>by rw [d4 j hj,getD_set_ne _ _ (by omega)]⟩
  ·rw [r01_Mul_l5,if_pos (by omega),if_pos (by omega),if_pos (by omega),hw,hz]
   simp only [Int.toNat_natCast]
   rw [if_pos (by omega),if_pos (by omega),hwr,hsh,hlo,hw2]
   exact e
  ·rw [d3]
   have h5:=dval_set O (i+k) (s % 4294967296) (by omega)
   rw [dval_drop b k]
   have e1:i+(k+1)=i+k+1:=by omega
   rw [e1,Nat.pow_succ]
   generalize 4294967296 ^ (i+k)=W at h5 ⊢
   generalize dval (b.drop (k+1))=T
   have h6:(s % 4294967296).toNat+4294967296*(s / 4294967296).toNat=(a.getD i 0).toNat*(b.getD k 0).toNat+(O.getD (i+k) 0).toNat+c.toNat:=by
    have h7:s.toNat=(a.getD i 0).toNat*(b.getD k 0).toNat+(O.getD (i+k) 0).toNat+c.toNat:=by
     have h8:((a.getD i 0).toNat:Int)=a.getD i 0:=Int.toNat_of_nonneg hx.1
     have h9:((b.getD k 0).toNat:Int)=b.getD k 0:=Int.toNat_of_nonneg hy.1
     have:(s.toNat:Int)=((a.getD i 0).toNat*(b.getD k 0).toNat+(O.getD (i+k) 0).toNat+c.toNat:Nat):=by
      rw [Int.toNat_of_nonneg hs.1]
      simp only [Int.natCast_add,Int.natCast_mul]
      rw [h8,h9,Int.toNat_of_nonneg ho.1,Int.toNat_of_nonneg hc.1]
     exact_mod_cast this
    omega
   generalize (s % 4294967296).toNat=lo at *
   generalize (s / 4294967296).toNat=hi' at *
   generalize (a.getD i 0).toNat=x at *
   generalize (b.getD k 0).toNat=y at *
   generalize (O.getD (i+k) 0).toNat=o at *
   generalize c.toNat=c' at *
   have h10:W*(lo+4294967296*hi')=W*(x*y+o+c'):=by rw [h6]
   grind
theorem rmul_outer {a b:List Int} (ha:Dig a) (hb:Dig b) (hla:a.length≤1073741824) (hlb:b.length≤1073741824) :
  ∀ (r i:Nat) (O:List Int),i+r=a.length→Dig O→O.length=a.length+b.length→(∀ j,i+b.length≤j→O.getD j 0=0)→∀ n,r<n→
   r01_Mul_l2 a b n (i:Int) O=some (digs (dval O+4294967296 ^ i*(dval (a.drop i)*dval b))):=by
 intro r
 induction r with
 | zero=>
  intro i O hi hO hl h0 n hn
  obtain ⟨n,rfl⟩:∃ k,n=k+1:=⟨n-1,by omega⟩
  rw [r01_Mul_l2,if_neg (by omega)]
  unfold r01_Mul_j1
  rw [rTrim_eq hO (by omega)]
  have hd:a.drop i=[]:=List.drop_eq_nil_of_le (by omega)
  rw [hd]
  simp [dval]
 | succ r ih=>
  intro i O hi hO hl h0 n hn
  obtain ⟨n,rfl⟩:∃ k,n=k+1:=⟨n-1,by omega⟩
  rw [r01_Mul_l2,if_pos (by omega)]
  obtain ⟨O',e,d1,d2,d3,d4⟩:=rmul_inner ha hb hla hlb (i:=i) (by omega) (fun z0 z1=>r01_Mul_l2 a b n z0 z1) b.length 0 0 O (by omega) hO hl (by omega) (h0 _ (Nat.le_refl _)) fuel (by unfold fuel; omega)
  refine Eq.trans e ?_
  show r01_Mul_l2 a b n ((i+1:Nat):Int) O'=_
  rw [ih (i+1) O' (by omega) d1 d2 (fun j hj=>by rw [d4 j (by omega)]; exact h0 j (by omega)) n (by omega),d3,dval_drop a i,Nat.pow_succ]
  congr 2
  simp only [Nat.add_zero,List.drop_zero,Int.toNat_zero,Nat.zero_add]
  grind
theorem rMul_eq {a b:List Int} (ha:Dig a) (hb:Dig b) (hl:a.length≤1073741824) (hl':b.length≤1073741824):r01_Mul a b=some (digs (dval a*dval b)):=by
 unfold r01_Mul
 have hw:IntKind.i64.wrap ((a.length:Int)+(b.length:Int))=((a.length+b.length:Nat):Int):=by rw [w64]<;>omega
 rw [hw,if_pos (by omega),kz,Int.toNat_natCast]
 have:=rmul_outer ha hb hl hl' a.length 0 (List.replicate (a.length+b.length) 0) (by omega) (dig_replicate _) (by simp) (fun j _=>getD_replicate _ _) fuel (by unfold fuel; omega)
 rw [dval_replicate,List.drop_zero] at this
 simp only [Nat.zero_add,Nat.pow_zero,Nat.one_mul] at this
 exact this
theorem rFrom_eq {a:Int} (h:0≤a) (h2:a<18446744073709551616):r01_From a=some (digs a.toNat):=by
 unfold r01_From
 have e1:shrI .u64 a 32=a / 4294967296:=by
  obtain ⟨n,rfl⟩:∃ n:Nat,a=n:=⟨a.toNat,by omega⟩
  rw [shr32n]; simp
 have hd:Dig [IntKind.u32.wrap a,IntKind.u32.wrap (shrI .u64 a 32)]:=by
  intro d hd
  simp only [List.mem_cons,List.not_mem_nil,or_false] at hd
  rcases hd with rfl | rfl<;>rw [wu32]<;>omega
 rw [rTrim_eq hd (by simp)]
 have e2:dval [IntKind.u32.wrap a,IntKind.u32.wrap (shrI .u64 a 32)]=a.toNat:=by
  simp only [dval,wu32,e1]
  omega
 rw [e2]; rfl
theorem take_succ_val {l:List Int} {i d:Nat} (h:l.getD i 0=(d:Int)):dval (l.take (i+1))=dval (l.take i)+4294967296 ^ i*d:=by rw [dval_take_succ,h,Int.toNat_natCast]
theorem add_alg {P A B c x y v D:Nat} (h:D+P*c=A+B) (hv:v=x+y+c):D+P*v=(A+P*x)+(B+P*y):=by
 subst hv; rw [Nat.mul_add,Nat.mul_add]; omega
theorem rAdd_loop {a b:List Int} (ha:Dig a) (hb:Dig b) (hl:a.length≤1073741824) (hl':b.length≤1073741824) :
  ∀ (r i c:Nat) (p:List Int),i+r=max a.length b.length+1→Dig p→p.length=i→c≤1→dval p+4294967296 ^ i*c=dval (a.take i)+dval (b.take i)→
   ∀ f,r<f→r01_Add_l2 a b f (c:Int) (i:Int) p=some (digs (dval a+dval b)):=by
 have hm:mx (a.length:Int) (b.length:Int)=((max a.length b.length:Nat):Int):=by unfold mx; split<;>omega
 have hw:IntKind.i64.wrap (((max a.length b.length:Nat):Int)+1)=((max a.length b.length+1:Nat):Int):=by rw [w64]<;>omega
 intro r
 induction r with
 | zero=>
  intro i c p hi hp hlp hc hv f hf
  obtain ⟨f,rfl⟩:∃ k,f=k+1:=⟨f-1,by omega⟩
  rw [r01_Add_l2,hm,hw,if_neg (by omega)]
  unfold r01_Add_j1
  rw [rTrim_eq hp (by omega)]
  simp only [obn]
  rw [List.take_of_length_le (by omega),List.take_of_length_le (by omega)] at hv
  have hc0:c=0:=by
   rcases (show c=0∨c=1 by omega) with h | h
   ·exact h
   ·exfalso
    subst h
    have h1:=dval_lt ha
    have h2:=dval_lt hb
    have h3:4294967296 ^ a.length≤4294967296 ^ max a.length b.length:=Nat.pow_le_pow_right (by decide) (by omega)
    have h4:4294967296 ^ b.length≤4294967296 ^ max a.length b.length:=Nat.pow_le_pow_right (by decide) (by omega)
    have hi':i=max a.length b.length+1:=by omega
    rw [hi',Nat.pow_succ] at hv
    omega
  subst hc0
  rw [Nat.mul_zero,Nat.add_zero] at hv
  rw [hv]
 | succ r ih=>
  intro i c p hi hp hlp hc hv f hf
  obtain ⟨f,rfl⟩:∃ k,f=k+1:=⟨f-1,by omega⟩
  obtain ⟨x,hx,hx'⟩:=digN ha i
  obtain ⟨y,hy,hy'⟩:=digN hb i
  rw [r01_Add_l2,hm,hw,if_pos (by omega),rat_eq ha,rat_eq hb]
  simp only [obn]
  rw [hx,hy,← Int.natCast_add,u64n (x:=x+y) (by omega),← Int.natCast_add,u64n (x:=x+y+c) (by omega),u32n,shr32n]
  rw [if_pos (by simp only [List.length_cons,List.length_nil]; omega),show (i:Int)+1=((i+1:Nat):Int) by omega,w64n (by omega)]
  refine ih (i+1) _ _ (by omega) (dig_snoc hp (Nat.mod_lt _ (by decide))) (by rw [List.length_append]; simp; exact hlp) (by omega) ?_ f (by omega)
  refine snoc_eq hlp ?_ (Nat.mod_add_div _ 4294967296).symm
  rw [take_succ_val hx,take_succ_val hy]
  exact add_alg hv rfl
theorem rAdd_eq {a b:List Int} (ha:Dig a) (hb:Dig b) (hl:a.length≤1073741824) (hl':b.length≤1073741824):r01_Add a b=some (digs (dval a+dval b)):=by
 unfold r01_Add
 exact rAdd_loop ha hb hl hl' (max a.length b.length+1) 0 0 [] (by omega) (by intro d hd; cases hd) rfl (by omega) (by simp [dval]) fuel (by unfold fuel; omega)
theorem sub_alg {P A B W x y e e' v D:Nat} (h:D+B=A+P*e) (hv:v+y+e=x+W*e'):D+P*v+(B+P*y)=A+P*x+P*W*e':=by
 have h1:P*(v+y+e)=P*(x+W*e'):=by rw [hv]
 simp only [Nat.mul_add,← Nat.mul_assoc] at h1
 omega
theorem rsub_step {p a b:List Int} {i x y e v e':Nat} (hlp:p.length=i) (hx:a.getD i 0=(x:Int)) (hy:b.getD i 0=(y:Int)) (hv:dval p+dval (b.take i)=dval (a.take i)+4294967296 ^ i*e) (h:v+y+e=x+4294967296*e') :
  dval (p++[(v:Int)])+dval (b.take (i+1))=dval (a.take (i+1))+4294967296 ^ (i+1)*e':=by
 have e5:dval [(v:Int)]=v:=by simp only [dval,Int.toNat_natCast,Nat.mul_zero,Nat.add_zero]
 rw [take_succ_val hx,take_succ_val hy,dval_append,hlp,e5,Nat.pow_succ]
 exact sub_alg hv h
theorem rSub_loop {a b:List Int} (ha:Dig a) (hb:Dig b) (hl:a.length≤1073741824) (hle:dval b≤dval a) :
  ∀ (r i e:Nat) (p:List Int),i+r=a.length→Dig p→p.length=i→e≤1→dval p+dval (b.take i)=dval (a.take i)+4294967296 ^ i*e→
   ∀ f,r<f→r01_Sub_l2 a b f (e:Int) (i:Int) p=some (digs (dval a-dval b),true):=by
 intro r
 induction r with
 | zero=>
  intro i e p hi hp hlp he hv f hf
  obtain ⟨f,rfl⟩:∃ k,f=k+1:=⟨f-1,by omega⟩
  rw [r01_Sub_l2,if_neg (by omega)]
  unfold r01_Sub_j1
  rw [rTrim_eq hp (by omega)]
  simp only [obn]
  have hb0:dval (b.drop i)=0:=by
   rcases Nat.eq_zero_or_pos (dval (b.drop i)) with h | h
   ·exact h
   ·exfalso
    have:=lt_of_drop (a:=a) (b:=b) ha (i:=i) (by rw [List.drop_eq_nil_of_le (by omega)]; exact h)
    omega
  have hbt:dval b=dval (b.take i):=by rw [dval_split b i,hb0,Nat.mul_zero,Nat.add_zero]
  rw [List.take_of_length_le (show a.length≤i by omega),← hbt] at hv
  have hpl:=dval_lt hp
  rw [hlp] at hpl
  have he0:e=0:=by
   rcases (show e=0∨e=1 by omega) with h | h
   ·exact h
   ·subst h; omega
  subst he0
  rw [Nat.mul_zero,Nat.add_zero] at hv
  rw [show dval a-dval b=dval p by omega]
 | succ r ih=>
  intro i e p hi hp hlp he hv f hf
  obtain ⟨f,rfl⟩:∃ k,f=k+1:=⟨f-1,by omega⟩
  obtain ⟨x,hx,hx'⟩:=digN ha i
  obtain ⟨y,hy,hy'⟩:=digN hb i
  have e1:IntKind.u64.wrap ((x:Int)+4294967296)=((x+4294967296:Nat):Int):=by rw [show (x:Int)+4294967296=((x+4294967296:Nat):Int) by omega,u64n (by omega)]
  have e2:IntKind.u64.wrap (((x+4294967296:Nat):Int)-(y:Int))=((x+4294967296-y:Nat):Int):=by rw [show ((x+4294967296:Nat):Int)-(y:Int)=((x+4294967296-y:Nat):Int) by omega,u64n (by omega)]
  have e3:IntKind.u64.wrap (((x+4294967296-y:Nat):Int)-(e:Int))=((x+4294967296-y-e:Nat):Int):=by rw [show ((x+4294967296-y:Nat):Int)-(e:Int)=((x+4294967296-y-e:Nat):Int) by omega,u64n (by omega)]
  have e4:IntKind.u64.wrap (1-(((x+4294967296-y-e) / 4294967296:Nat):Int))=((1-(x+4294967296-y-e) / 4294967296:Nat):Int):=by rw [show 1-(((x+4294967296-y-e) / 4294967296:Nat):Int)=((1-(x+4294967296-y-e) / 4294967296:Nat):Int) by omega,u64n (by omega)]
  rw [r01_Sub_l2,if_pos (by omega),rat_eq ha,rat_eq hb]
  simp only [obn]
  rw [hx,hy,e1,e2,e3,u32n,shr32n,e4]
  rw [if_pos (by simp only [List.length_cons,List.length_nil]; omega),show (i:Int)+1=((i+1:Nat):Int) by omega,w64n (by omega)]
  refine ih (i+1) _ _ (by omega) (dig_snoc hp (Nat.mod_lt _ (by decide))) (by rw [List.length_append]; simp; exact hlp) (by omega) ?_ f (by omega)
  exact rsub_step hlp hx hy hv (by omega)
theorem rSub_eq {a b:List Int} (ha:Dig a) (hb:Dig b) (hl:a.length≤1073741824) (hl':b.length≤1073741824):r01_Sub a b=some (if dval a<dval b then ([],false) else (digs (dval a-dval b),true)):=by
 unfold r01_Sub
 rw [rCmp_eq ha hb hl hl']
 simp only [obn]
 by_cases h:dval a<dval b
 ·rw [if_pos h,if_pos (by decide),if_pos h]
 ·rw [if_neg h,if_neg (by split<;>decide),if_neg h]
  exact rSub_loop ha hb hl (by omega) a.length 0 0 [] (by omega) (by intro d hd; cases hd) rfl (by omega) (by simp [dval]) fuel (by unfold fuel; omega)
theorem rNeg4_eq {z:Int} (h:SZ z.natAbs):r04_Neg (iOf z)=some (iOf (-z)):=by
 unfold r04_Neg
 show ((r04_Make (!decide (z<0)) (digs z.natAbs)).bind fun x2=>some x2)=_
 rw [rMake_digs _ h]
 simp only [obn]
 congr 2
 unfold sg
 by_cases h:z<0<;>simp [h]<;>omega
theorem rNeg5_eq {d:D} (h:WD d):r05_Neg (dy d)=some (dy (negD d)):=by
 unfold r05_Neg
 rw [rRight5_dy h.1 h.sz]
 simp only [obn]
 rw [if_neg (by simp)]
 show ((r04_Neg (iOf d.m)).bind _)=_
 rw [rNeg4_eq h.sz]
 rfl
theorem rFrom4_eq {n:Int} (h : -9223372036854775808≤n∧n≤9223372036854775807):r04_From n=some (iOf n):=by
 unfold r04_From
 have hsz:SZ n.natAbs:=by
  have:blen n.natAbs≤64:=blen_le_of (by omega)
  unfold SZ; omega
 by_cases hn:n<0
 ·have e0:IntKind.i64.wrap (0-IntKind.i64.wrap (n+1)) = -(n+1):=by
   rw [w64 (x:=n+1) (by omega) (by omega),w64 (by omega) (by omega)]; omega
  have e:IntKind.u64.wrap (IntKind.u64.wrap (IntKind.i64.wrap (0-IntKind.i64.wrap (n+1)))+1)=((n.natAbs:Nat):Int):=by rw [e0]; simp only [wu64]; omega
  rw [if_pos hn,e,rFrom_eq (by omega) (by omega),Int.toNat_natCast]
  simp only [obn]
  rw [rMake_digs _ hsz]
  simp only [obn]
  congr 2
  unfold sg; simp; omega
 ·have e:IntKind.u64.wrap n=((n.natAbs:Nat):Int):=by simp only [wu64]; omega
  rw [if_neg hn,e,rFrom_eq (by omega) (by omega),Int.toNat_natCast]
  simp only [obn]
  rw [rMake_digs _ hsz]
  simp only [obn]
  congr 2
  unfold sg; simp; omega
theorem rFrom5_eq {n:Int} (h : -9223372036854775808≤n∧n≤9223372036854775807):r05_From n=some (dy (fromD n)):=by
 have hsz:SZ n.natAbs:=by
  have:blen n.natAbs≤64:=blen_le_of (by omega)
  unfold SZ; omega
 unfold r05_From
 rw [rFrom4_eq h]
 simp only [obn]
 rw [rnorm_iOf hsz (by omega)]
 rfl
theorem rHalf_eq {e:Int} (he : -60000≤e∧e≤60000):r05_Half e=some (dy ⟨1,e⟩):=by
 unfold r05_Half
 rw [rFrom4_eq (by omega)]
 simp only [obn]
 rw [rMake5_eq (by unfold SZ; decide) (by omega),half_make he]
 rfl
theorem rAdd4_eq {x y:Int} (hx:SZ x.natAbs) (hy:SZ y.natAbs) (hs:SZ (x.natAbs+y.natAbs)):r04_Add (iOf x) (iOf y)=some (iOf (x+y)):=by
 have h1:=sz_len hx
 have h2:=sz_len hy
 have eN:∀ z:Int,(iOf z).Neg=decide (z<0):=fun _=>rfl
 have eM:∀ z:Int,(iOf z).Mag=digs z.natAbs:=fun _=>rfl
 unfold r04_Add
 rw [eN,eN,eM,eM]
 by_cases hsame:decide (x<0)=decide (y<0)
 ·rw [if_pos (by simp [hsame]),rAdd_eq (dgd _) (dgd _) (by omega) (by omega),dvd,dvd]
  simp only [obn]
  rw [rMake_digs _ hs]
  simp only [obn]
  congr 2
  unfold sg
  by_cases hxn:x<0<;>by_cases hyn:y<0<;>simp [hxn,hyn] at hsame ⊢ <;> omega
 ·rw [if_neg (by simp; exact fun h=>hsame (by simp [h])),rSub_eq (dgd _) (dgd _) (by omega) (by omega),dvd,dvd]
  simp only [obn]
  by_cases hlt:x.natAbs<y.natAbs
  ·rw [if_pos hlt,if_neg (by simp),rSub_eq (dgd _) (dgd _) (by omega) (by omega),dvd,dvd,if_neg (by omega)]
   simp only [obn]
   rw [rMake_digs _ (sz_le (by omega) hs)]
   simp only [obn]
   congr 2
   unfold sg
   by_cases hxn:x<0<;>by_cases hyn:y<0<;>simp [hxn,hyn] at hsame ⊢ <;> omega
  ·rw [if_neg hlt,if_pos rfl]
   rw [rMake_digs _ (sz_le (by omega) hs)]
   simp only [obn]
   congr 2
   unfold sg
   by_cases hxn:x<0<;>by_cases hyn:y<0<;>simp [hxn,hyn] at hsame ⊢ <;> omega
theorem lift_sum {x y:D} (hx:okD x) (hy:okD y):nrm ((liftD x y).1+(liftD x y).2.1) (liftD x y).2.2=sumD x y:=by
 unfold liftD sumD
 by_cases h1:x.m=0
 ·rw [if_pos h1,if_pos h1]; simp only; rw [Int.zero_add,nrm_self hy]
 ·rw [if_neg h1,if_neg h1]
  by_cases h2:y.m=0
  ·rw [if_pos h2,if_pos h2]; simp only; rw [Int.add_zero,nrm_self hx]
  ·rw [if_neg h2,if_neg h2]
   by_cases h3:x.e>y.e
   ·rw [if_pos h3,if_neg (by omega)]
   ·rw [if_neg h3]
    by_cases h4:x.e<y.e
    ·rw [if_pos h4]; simp only; rw [Int.add_comm]
    ·rw [if_neg h4]
     have h5:x.e=y.e:=by omega
     rw [h5,Int.sub_self]; simp
theorem rAdd5_eq {x y:D} (hx:WD x) (hy:WD y):r05_Add (dy x) (dy y)=some (dy (addD x y).1,(addD x y).2):=by
 obtain ⟨l1,l2,l3,l4⟩:=lift_sz hx hy
 have b2:=blen_add (liftD x y).1.natAbs (liftD x y).2.1.natAbs
 have b3:=blen_sum_abs (liftD x y).1 (liftD x y).2.1
 unfold r05_Add r05_Add_j1
 rw [rRight5_dy hx.1 hx.sz,rRight5_dy hy.1 hy.sz]
 simp only [obn]
 rw [if_neg (by simp),if_neg (by simp),rlift_eq hx hy]
 simp only [obn]
 rw [rAdd4_eq (by unfold SZ; omega) (by unfold SZ; omega) (by unfold SZ; omega)]
 simp only [obn]
 rw [rnorm_iOf (by unfold SZ; omega) (by omega),lift_sum hx.1 hy.1]
 simp only [obn]
 show ((r05_told (dy (sumD x y))).bind _)=_
 rw [rtold_eq (sum_TD hx hy)]
 rfl
theorem rMul4_eq {x y:Int} (hx:SZ x.natAbs) (hy:SZ y.natAbs) (hs:SZ (x.natAbs*y.natAbs)):r04_Mul (iOf x) (iOf y)=some (iOf (x*y)):=by
 have h1:=sz_len hx
 have h2:=sz_len hy
 have eN:∀ z:Int,(iOf z).Neg=decide (z<0):=fun _=>rfl
 have eM:∀ z:Int,(iOf z).Mag=digs z.natAbs:=fun _=>rfl
 unfold r04_Mul
 rw [eN,eN,eM,eM,rMul_eq (dgd _) (dgd _) (by omega) (by omega),dvd,dvd]
 simp only [obn]
 rw [rMake_digs _ hs,neg_xor]
 rfl
theorem rMul5_eq {x y:D} (hx:WD x) (hy:WD y):r05_Mul (dy x) (dy y)=some (dy (timesD x y).1,(timesD x y).2):=by
 have ex:=hx.e
 have ey:=hy.e
 unfold r05_Mul r05_Mul_j1
 rw [rRight5_dy hx.1 hx.sz,rRight5_dy hy.1 hy.sz]
 simp only [obn]
 have hM:∀ d:D,(dy d).M=iOf d.m:=fun _=>rfl
 have hE:∀ d:D,(dy d).E=d.e:=fun _=>rfl
 rw [if_neg (by simp),if_neg (by simp),hM,hM,hE,hE,rMul4_eq hx.sz hy.sz (mul_blen hx hy)]
 simp only [obn]
 have hs:SZ (x.m*y.m).natAbs:=by rw [Int.natAbs_mul]; exact mul_blen hx hy
 rw [w64 (by omega) (by omega),rnorm_iOf hs (by omega)]
 simp only [obn]
 have ht:TD (mulD x y):=nrm_TD hs (by omega)
 show ((r05_told (dy (mulD x y))).bind _)=_
 rw [rtold_eq ht]
 rfl
theorem rScale5_eq {x:D} (hx:WD x) {n:Int} (hn : -100000≤n∧n≤100000):r05_Scale (dy x) n=some (dy (scaleD x n).1,(scaleD x n).2):=by
 have ex:=hx.e
 have h1:=iOf_mag_zero x.m
 have hM:∀ d:D,(dy d).M=iOf d.m:=fun _=>rfl
 have hE:∀ d:D,(dy d).E=d.e:=fun _=>rfl
 unfold r05_Scale r05_Scale_j1
 rw [rRight5_dy hx.1 hx.sz]
 simp only [obn]
 rw [if_neg (by simp),if_neg (by omega),show decide (n>100000)=false by simp; omega,if_neg (by simp)]
 unfold scaleD
 rw [hM,hE]
 by_cases h:x.m=0
 ·rw [if_pos (h1.2 h),if_pos h]
  have:x=zD:=by
   rcases hx.1 with h2 | h2
   ·cases x; simp only at h2; unfold zD; rw [h2.1,h2.2]
   ·omega
  rw [this]
 ·rw [if_neg (fun h2=>h (h1.1 h2)),if_neg h,w64 (by omega) (by omega)]
  show ((r05_told (dy ⟨x.m,x.e+n⟩)).bind _)=_
  have ht:TD ⟨x.m,x.e+n⟩:=⟨hx.sz,by simp only; omega,by simp only; omega⟩
  rw [rtold_eq ht]
  rfl
theorem rcut_j1_eq (neg away st:Bool) {q:Nat} (hq:blen q≤1048000) {e:Int} (he : -2000000≤e∧e≤2000000) :
  r05_cut_j1 neg away (digs q) e st=some (dy (nrm (sg neg (q+if st && away then 1 else 0)) e)):=by
 have hs:SZ q:=by unfold SZ; omega
 have hl:=sz_len hs
 have key:∀ n:Nat,SZ n→r05_cut_j3 neg e (digs n)=some (dy (nrm (sg neg n) e)):=by
  intro n hn
  unfold r05_cut_j3
  rw [rnorm_sg neg hn (by omega)]
  rfl
 have h1:SZ (q+1):=by
  have:=blen_add q 1
  have h1:blen 1=1:=by decide
  unfold SZ; omega
 have d1:Dig [1]:=by
  intro d hd
  have:d=1:=by simpa using hd
  subst this; omega
 have a1:r01_Add (digs q) [1]=some (digs (q+1)):=by
  rw [rAdd_eq (dgd _) d1 (by omega) (by simp),dvd]
  rfl
 unfold r05_cut_j1 r05_cut_j2
 cases st<;>cases away<;>simp only [if_true,if_false,Bool.false_eq_true,Bool.and_true,Bool.and_false,Nat.add_zero,a1,obn]
 ·exact key q hs
 ·exact key q hs
 ·exact key q hs
 ·exact key (q+1) h1
theorem rShl_far {a:List Int} {n:Nat} (hn:100000<n):r01_Shl a (n:Int)=some ([],false):=by
 unfold r01_Shl r01_Shl_j1
 rw [if_neg (by omega),show decide ((n:Int)>100000)=true by simp; omega,if_pos rfl]
theorem rcut_eq (neg:Bool) {m p:Nat} (hm:blen m≤1048000) {e:Int} (he : -900000≤e∧e≤900000) (st away:Bool) (hp:p≤1000) (hodd:blen m≤100000∨m % 2=1) :
  r05_cut neg (digs m) e st (p:Int) away=some (dy (cutD neg m e st p away)):=by
 have hl:=sz_len (n:=m) (by unfold SZ; omega)
 unfold r05_cut
 rw [rBits_eq (dgd _) (by omega),dvd]
 simp only [obn]
 have hw:IntKind.i64.wrap (((blen m:Nat):Int)-(p:Int))=((blen m:Nat):Int)-(p:Int):=by rw [w64]<;>omega
 rw [hw]
 unfold cutD cutN
 by_cases h:p<blen m
 ·rw [if_pos (by omega)]
  have hn:((blen m:Nat):Int)-(p:Int)=((blen m-p:Nat):Int):=by omega
  rw [hn]
  have hq:blen (m / 2 ^ (blen m-p))≤1048000:=by have:=blen_mono (Nat.div_le_self m (2 ^ (blen m-p))); omega
  have hlq:=sz_len (n:=m / 2 ^ (blen m-p)) (by unfold SZ; omega)
  rw [rShr_eq (dgd _) (by omega) (by omega),dvd]
  simp only [obn]
  have hj4:∀ s,r05_cut_j4 neg away (digs (m / 2 ^ (blen m-p))) e ((blen m:Nat):Int) (p:Int) s=some (dy (nrm (sg neg (m / 2 ^ (blen m-p)+if s && away then 1 else 0)) (e+(blen m-p:Nat)))):=by
   intro s
   unfold r05_cut_j4
   rw [hw,hn,w64 (by omega) (by omega)]
   exact rcut_j1_eq neg away s hq (by omega)
  have hback:∃ l b,r01_Shl (digs (m / 2 ^ (blen m-p))) ((blen m-p:Nat):Int)=some (l,b)∧r01_Cmp l (digs m)=some (if m % 2 ^ (blen m-p)=0 then 0 else -1):=by
   have hdm:=Nat.div_add_mod m (2 ^ (blen m-p))
   have hml:=Nat.mod_lt m (Nat.pow_pos (n:=blen m-p) (show 0<2 by decide))
   by_cases hfar:blen m-p≤100000
   ·refine ⟨_,_,rShl_eq (dgd _) (by omega) hfar,?_⟩
    rw [dvd]
    have hbb:(digs (m / 2 ^ (blen m-p)*2 ^ (blen m-p))).length≤32769:=Nat.le_trans (digs_len_mono (Nat.div_mul_le_self _ _)) hl
    rw [rCmp_eq (dgd _) (dgd _) (by omega) (by omega),dvd,dvd]
    congr 1
    rw [Nat.mul_comm (m / 2 ^ (blen m-p))]
    generalize 2 ^ (blen m-p)*(m / 2 ^ (blen m-p))=Z at *
    by_cases h0:m % 2 ^ (blen m-p)=0
    ·rw [if_pos h0,if_neg (by omega),if_neg (by omega)]
    ·rw [if_neg h0,if_pos (by omega)]
   ·refine ⟨[],false,rShl_far (by omega),?_⟩
    rw [rCmp_eq (by intro d hd; cases hd) (dgd _) (by simp) (by omega),dvd]
    have hm0:0<m:=by
     rcases Nat.eq_zero_or_pos m with h0 | h0
     ·subst h0; rw [blen_zero] at h; omega
     ·exact h0
    have h1:m % 2 ^ (blen m-p)≠0:=by
     obtain ⟨k,hk⟩:∃ k,blen m-p=k+1:=⟨blen m-p-1,by omega⟩
     rw [hk]
     intro h0
     have h2:m % 2=1:=by rcases hodd with h3 | h3<;>omega
     have h4:=Nat.div_add_mod m (2 ^ (k+1))
     rw [h0,Nat.add_zero,Nat.pow_succ,Nat.mul_comm (2 ^ k) 2,Nat.mul_assoc] at h4
     omega
    rw [if_neg h1,if_pos (by simpa [dval] using hm0)]
  obtain ⟨l,b,hb1,hb2⟩:=hback
  rw [hb1]
  simp only [obn]
  rw [hb2]
  simp only [obn]
  cases st with
  | true=>rw [if_pos rfl,hj4]; rfl
  | false=>
   rw [if_neg (by simp),hj4]
   have:((if m % 2 ^ (blen m-p)=0 then (0:Int) else -1) != 0)=(m % 2 ^ (blen m-p) != 0):=by
    by_cases h0:m % 2 ^ (blen m-p)=0
    ·rw [if_pos h0,h0]; rfl
    ·rw [if_neg h0]
     have e2:(m % 2 ^ (blen m-p) != 0)=true:=by rw [bne_iff_ne]; exact h0
     rw [e2]; rfl
   rw [this,Bool.false_or]
 ·rw [if_neg (by omega)]
  have h0:blen m-p=0:=by omega
  rw [h0,Nat.pow_zero,Nat.div_one,Nat.mod_one,rcut_j1_eq neg away st hm (by omega)]
  simp
theorem rprec_eq {p:Int} (h:2≤p∧p≤400):r05_prec p=some true:=by
 unfold r05_prec r05_prec_j1
 rw [if_pos (by omega),show decide (p≤400)=true by simp; omega]
theorem rRound_eq {x:D} (hx:WD x) {p:Nat} (hp:2≤p∧p≤400) (up:Bool):r05_Round (dy x) (p:Int) up=some (dy (roundD x p up).1,(roundD x p up).2):=by
 have ex:=hx.e
 have bx:=hx.2
 unfold r05_Round r05_Round_j1
 rw [rRight5_dy hx.1 hx.sz]
 simp only [obn]
 rw [if_neg (by simp),rprec_eq (by omega)]
 simp only [obn]
 have e1:=rcut_eq (decide (x.m<0)) (m:=x.m.natAbs) (by omega) (e:=x.e) (by omega) false (up != decide (x.m<0)) (p:=p) (by omega) (by
  rcases hx.1 with h1 | h1
  ·left; rw [h1.1]; simp [blen]
  ·right; omega)
 have e2:r05_cut (dy x).M.Neg (dy x).M.Mag (dy x).E false (p:Int) (up != (dy x).M.Neg)=r05_cut (decide (x.m<0)) (digs x.m.natAbs) x.e false (p:Int) (up != decide (x.m<0)):=rfl
 rw [if_neg (by simp),e2,e1]
 simp only [obn]
 have ht:TD (rnd x p up):=cut_TD _ (by omega) (by omega) _ _
 show ((r05_told (dy (rnd x p up))).bind _)=_
 rw [rtold_eq ht]
 rfl
theorem rshort_loop {a:List Int} (ha:Dig a) (hl:a.length≤1073741824) {d:Nat} (hd0:0<d) (hd:d<4294967296) :
  ∀ (j:Nat) (r:Nat) (Q:List Int),j≤a.length→Dig Q→Q.length=a.length→r<d→dval (a.drop j)=dval (Q.drop j)*d+r→
   ∀ f,j<f→r03_short_l2 a (d:Int) f (r:Int) ((j:Int)-1) Q=some (digs (dval a / d),digs (dval a % d)):=by
 intro j
 induction j with
 | zero=>
  intro r Q hj hQ hlQ hr hv f hf
  obtain ⟨f,rfl⟩:∃ k,f=k+1:=⟨f-1,by omega⟩
  rw [r03_short_l2,if_neg (by omega)]
  unfold r03_short_j1
  rw [rTrim_eq hQ (by omega),rFrom_eq (by omega) (by omega)]
  rw [List.drop_zero,List.drop_zero] at hv
  have e1:dval a / d=dval Q:=by
   rw [hv,Nat.mul_comm,Nat.mul_add_div hd0,Nat.div_eq_of_lt hr,Nat.add_zero]
  have e2:dval a % d=r:=by
   rw [hv,Nat.mul_comm,Nat.mul_add_mod,Nat.mod_eq_of_lt hr]
  rw [e1,e2,Int.toNat_natCast]; rfl
 | succ j ih=>
  intro r Q hj hQ hlQ hr hv f hf
  obtain ⟨f,rfl⟩:∃ k,f=k+1:=⟨f-1,by omega⟩
  obtain ⟨x,hx,hx'⟩:=digN ha j
  have hj':((j+1:Nat):Int)-1=(j:Int):=by omega
  have hq:(r*4294967296+x) / d<4294967296:=by
   rw [Nat.div_lt_iff_lt_mul (by omega)]
   have:(r+1)*4294967296≤d*4294967296:=Nat.mul_le_mul_right _ hr
   rw [Nat.mul_comm 4294967296 d]
   omega
  rw [r03_short_l2,hj',if_pos (by omega),if_pos (by omega),if_pos (by omega),kz]
  simp only [Int.toNat_natCast]
  rw [if_pos (by omega),if_pos (by omega),hx,u64n (x:=x) (by omega),shl32n (by omega),or64n (by omega) (by omega),or_lo hx',tdivn,tmodn,u64n (by omega),u32n,Nat.mod_eq_of_lt hq,w64 (by omega) (by omega)]
  refine ih _ _ (by omega) (dig_set hQ _ (digC hq)) (by simp [hlQ]) (Nat.mod_lt _ (by omega)) ?_ f (by omega)
  rw [dval_drop a j,hx,dval_drop (Q.set j _) j,getD_set _ _ (by omega),drop_set _ _ (by omega),Int.toNat_natCast,Int.toNat_natCast]
  exact short_alg hv
theorem rshort_eq {a:List Int} (ha:Dig a) (hl:a.length≤1073741824) {d:Nat} (hd0:0<d) (hd:d<4294967296):r03_short a (d:Int)=some (digs (dval a / d),digs (dval a % d)):=by
 unfold r03_short
 rw [if_pos (by omega),kz,w64 (by omega) (by omega)]
 exact rshort_loop ha hl hd0 hd a.length 0 (List.replicate a.length 0) (by omega) (dig_replicate _) (by simp) hd0 (by simp [dval]) fuel (by unfold fuel; omega)
theorem digs_drop (n k:Nat):dval ((digs n).drop k)=n / 4294967296 ^ k:=by
 rcases Nat.le_total k (digs n).length with h | h
 ·rw [← dval_div (dgd n) k h,dvd]
 ·rw [List.drop_eq_nil_of_le h]
  have h1:=dval_lt (dgd n)
  rw [dvd] at h1
  symm
  exact Nat.div_eq_of_lt (Nat.lt_of_lt_of_le h1 (Nat.pow_le_pow_right (by decide) h))
theorem guess_ge {q D R P t d1:Nat} (h1:q*D≤R) (h2:R<(t+1)*P) (h3:d1*P≤D):q*d1≤t:=by
 rcases Nat.lt_or_ge t (q*d1) with h | h
 ·exfalso
  have h4:(t+1)*P≤q*d1*P:=Nat.mul_le_mul_right _ h
  have h5:q*(d1*P)≤q*D:=Nat.mul_le_mul_left _ h3
  rw [← Nat.mul_assoc] at h5
  omega
 ·exact h
theorem lt_succ_mul (R P:Nat) (hP:0<P):R<(R / P+1)*P:=by
 have:=Nat.lt_mul_div_succ R hP
 rwa [Nat.mul_comm] at this
theorem rguess_eq {R D:Nat} (hD:2≤(digs D).length) (hDl:(digs D).length≤1073741824) (hR:R<4294967296*D):∃ g:Nat,r03_guess (digs R) (digs D)=some (g:Int)∧R / D≤g∧g<4294967296:=by
 have hD0:D≠0:=by intro h; subst h; rw [digs_zero] at hD; simp at hD
 have hdl:=dval_lt (dgd D)
 rw [dvd] at hdl
 have hdge:=digs_ge hD0
 obtain ⟨t1,t2⟩:=digs_top hD0
 obtain ⟨d1,hd1,hd1'⟩:=digN (dgd D) ((digs D).length-1)
 rw [hd1,Int.toNat_natCast] at t1
 have hd0:d1≠0:=by intro h; subst h; exact t2 hd1
 have hq:R / D<4294967296:=by rw [Nat.div_lt_iff_lt_mul (by omega)]; exact hR
 have hqD:R / D*D≤R:=Nat.div_mul_le_self _ _
 have hRlen:(digs R).length≤(digs D).length+1:=by
  refine digs_length ?_
  rw [Nat.pow_succ,Nat.mul_comm]
  refine Nat.lt_trans hR ?_
  exact Nat.mul_lt_mul_of_pos_left hdl (by omega)
 have hdP:d1*4294967296 ^ ((digs D).length-1)≤D:=by rw [← t1]; exact Nat.div_mul_le_self _ _
 generalize hn:(digs D).length=n at *
 unfold r03_guess
 rw [hn]
 by_cases h1:(digs R).length<n
 ·rw [if_pos (by omega)]
  refine ⟨0,rfl,?_,by omega⟩
  have hrl:=dval_lt (dgd R)
  rw [dvd] at hrl
  have:4294967296 ^ (digs R).length≤4294967296 ^ (n-1):=Nat.pow_le_pow_right (by decide) (by omega)
  rw [Nat.div_eq_of_lt (by omega)]
  exact Nat.le_refl 0
 ·have hw:IntKind.i64.wrap ((n:Int)-1)=((n-1:Nat):Int):=by rw [w64]<;>omega
  have hj1:∀ t:Nat,t<18446744073709551616→r03_guess_j1 (digs D) (t:Int)=some ((min (t / d1) 4294967295:Nat):Int):=by
   intro t ht
   have hb:t / d1<18446744073709551616:=Nat.lt_of_le_of_lt (Nat.div_le_self _ _) ht
   have hmn:mn ((t / d1:Nat):Int) 4294967295=((min (t / d1) 4294967295:Nat):Int):=by unfold mn; split<;>omega
   unfold r03_guess_j1
   rw [hn,hw,if_pos (by omega),kz,Int.toNat_natCast,hd1,u64n (x:=d1) (by omega),if_pos (by omega),tdivn,u64n hb,hmn]
  have hfin:∀ t:Nat,R<(t+1)*4294967296 ^ (n-1)→R / D≤min (t / d1) 4294967295:=by
   intro t ht
   have:=guess_ge hqD ht hdP
   have:R / D≤t / d1:=by rw [Nat.le_div_iff_mul_le (by omega)]; exact this
   omega
  obtain ⟨r0,hr0,hr0'⟩:=digN (dgd R) (n-1)
  obtain ⟨r1,hr1,hr1'⟩:=digN (dgd R) n
  have htop:dval ((digs R).drop (n-1))=r0+4294967296*dval ((digs R).drop n):=by
   have:=dval_drop (digs R) (n-1)
   rw [hr0,Int.toNat_natCast,show n-1+1=n by omega] at this; exact this
  have hltP:=lt_succ_mul R (4294967296 ^ (n-1)) (Nat.pow_pos (by decide))
  rw [← digs_drop] at hltP
  rw [if_neg (by omega),hw,if_pos (by omega),kz]
  simp only [Int.toNat_natCast]
  by_cases h2:(digs R).length>n
  ·have hdn:dval ((digs R).drop n)=r1:=by
    have:=dval_drop (digs R) n
    rw [hr1,Int.toNat_natCast,List.drop_eq_nil_of_le (show (digs R).length≤n+1 by omega)] at this
    simpa [dval] using this
   rw [if_pos (by omega),if_pos (by omega),hr0,hr1,u64n (x:=r0) (by omega),u64n (x:=r1) (by omega),shl32n hr1',or64n (by omega) (by omega),or_hi hr0',hj1 _ (by omega)]
   refine ⟨_,rfl,hfin _ ?_,by omega⟩
   rw [htop,hdn] at hltP
   exact hltP
  ·have hdn:dval ((digs R).drop n)=0:=by rw [List.drop_eq_nil_of_le (by omega)]; rfl
   rw [if_neg (by omega),hr0,u64n (x:=r0) (by omega),hj1 _ (by omega)]
   refine ⟨_,rfl,hfin _ ?_,by omega⟩
   rw [htop,hdn,Nat.mul_zero,Nat.add_zero] at hltP
   exact hltP
theorem digs_mul_len {x y m n:Nat} (hx:(digs x).length≤m) (hy:(digs y).length≤n):(digs (x*y)).length≤m+n:=by
 refine digs_length ?_
 have h1:=dval_lt (dgd x)
 have h2:=dval_lt (dgd y)
 rw [dvd] at h1 h2
 have ex:4294967296 ^ (digs x).length≤4294967296 ^ m:=Nat.pow_le_pow_right (by decide) hx
 have ey:4294967296 ^ (digs y).length≤4294967296 ^ n:=Nat.pow_le_pow_right (by decide) hy
 rw [Nat.pow_add]
 exact Nat.mul_lt_mul'' (by omega) (by omega)
theorem rj4_eq {Q:List Int} {i g:Nat} (ag:List Int→Int→List Int→Option (List Int × List Int × Bool)) (hi:i<Q.length) (hil:i≤1099511627776) (hg:g<4294967296) (r:List Int):r03_DivMod_j4 (i:Int) Q ag (g:Int) r=ag r ((i:Int)-1) (Q.set i (g:Int)):=by
 unfold r03_DivMod_j4 r03_DivMod_j3
 rw [if_pos (by omega),w64 (by omega) (by omega),u32n,Nat.mod_eq_of_lt hg,Int.toNat_natCast]
theorem rl5_eq {R D i q:Nat} {Q:List Int} (hq:R / D=q) (ag:List Int→Int→List Int→Option (List Int × List Int × Bool)) (hD0:0<D) (hDl:(digs D).length≤1000000) (hRl:(digs R).length≤1000000) (hi:i<Q.length) (hil:i≤1099511627776) :
  ∀ (k g:Nat),g=q+k→g<4294967296→∀ f,k<f→r03_DivMod_l5 (digs D,true) (digs R) (i:Int) Q ag f (g:Int) (if R<D*g then ([],false) else (digs (R-D*g),true)).1 (if R<D*g then ([],false) else (digs (R-D*g),true)).2=ag (digs (R % D)) ((i:Int)-1) (Q.set i (q:Int)):=by
 have h1:=Nat.div_add_mod R D
 have h2:=Nat.mod_lt R hD0
 rw [hq] at h1
 intro k
 induction k with
 | zero=>
  intro g hg hgW f hf
  obtain ⟨f,rfl⟩:∃ k,f=k+1:=⟨f-1,by omega⟩
  rw [Nat.add_zero] at hg
  subst hg
  rw [if_neg (by omega),r03_DivMod_l5,if_neg (by simp),rj4_eq ag hi hil hgW]
  have:R-D*g=R % D:=by omega
  rw [this]
 | succ k ih=>
  intro g hg hgW f hf
  obtain ⟨f,rfl⟩:∃ k,f=k+1:=⟨f-1,by omega⟩
  have hlt:R<D*g:=by
   have:D*(q+1)≤D*g:=Nat.mul_le_mul_left _ (by omega)
   rw [Nat.mul_add,Nat.mul_one] at this
   omega
  have hwg:IntKind.u64.wrap ((g:Int)-1)=((g-1:Nat):Int):=by rw [show (g:Int)-1=((g-1:Nat):Int) by omega,u64n (by omega)]
  have hgl:(digs (g-1)).length≤1:=digs_length (by omega)
  have hDgl:=digs_mul_len (x:=D) (y:=g-1) hDl hgl
  rw [if_pos hlt,r03_DivMod_l5,if_pos (by simp),hwg,rFrom_eq (by omega) (by omega),Int.toNat_natCast]
  simp only [obn]
  rw [rMul_eq (dgd _) (dgd _) (by omega) (by omega),dvd,dvd]
  simp only [obn]
  rw [rSub_eq (dgd _) (dgd _) (by omega) (by omega),dvd,dvd]
  simp only [obn]
  exact ih (g-1) (by omega) (by omega) f (by omega)
theorem rlong_loop {n:List Int} {D s:Nat} {bl:List Int} (hD:2≤(digs D).length) (hDl:(digs D).length≤900000) (hn:Dig n) (hnl:n.length≤900000) (b:Bool) (x6:Int) (hs:IntKind.i64.wrap (IntKind.i64.wrap (32*(bl.length:Int))-x6)=(s:Int)) (hs2:s≤32) :
  ∀ (k R:Nat) (Q:List Int),k≤n.length→Dig Q→Q.length=n.length→R<D→dval (Q.drop k)*D+R=dval (n.drop k)→
   ∀ f,k<f→r03_DivMod_l2 (n,b) (digs D,true) bl x6 f (digs R) ((k:Int)-1) Q=some (digs (dval n / D),digs (dval n % D / 2 ^ s),true):=by
 intro k
 induction k with
 | zero=>
  intro R Q hk hQ hlQ hR hv f hf
  obtain ⟨f,rfl⟩:∃ k,f=k+1:=⟨f-1,by omega⟩
  have hRl:(digs R).length≤(digs D).length:=digs_len_mono (by omega)
  rw [r03_DivMod_l2,if_neg (by omega)]
  unfold r03_DivMod_j1
  rw [rTrim_eq hQ (by omega)]
  simp only [obn]
  rw [hs,rShr_eq (dgd _) (by omega) (by omega),dvd]
  simp only [obn]
  rw [List.drop_zero,List.drop_zero] at hv
  have hD0:0<D:=by omega
  have e1:dval n / D=dval Q:=by
   rw [← hv,Nat.mul_comm,Nat.mul_add_div hD0,Nat.div_eq_of_lt hR,Nat.add_zero]
  have e2:dval n % D=R:=by
   rw [← hv,Nat.mul_comm,Nat.mul_add_mod,Nat.mod_eq_of_lt hR]
  rw [e1,e2]
 | succ k ih=>
  intro R Q hk hQ hlQ hR hv f hf
  obtain ⟨f,rfl⟩:∃ k,f=k+1:=⟨f-1,by omega⟩
  obtain ⟨x,hx,hx'⟩:=digN hn k
  have hk':((k+1:Nat):Int)-1=(k:Int):=by omega
  have hRl:(digs R).length≤(digs D).length:=digs_len_mono (by omega)
  have hdig:Dig ([(x:Int)]++digs R):=dig_append (by
   intro d hd
   have:d=(x:Int):=by simpa using hd
   subst this; exact digC hx') (dgd R)
  have hval:dval ([(x:Int)]++digs R)=x+4294967296*R:=by
   show dval ((x:Int) :: digs R)=_
   simp only [dval,Int.toNat_natCast,dvd]
  have hR':x+4294967296*R<4294967296*D:=by
   have:4294967296*(R+1)≤4294967296*D:=Nat.mul_le_mul_left _ hR
   omega
  generalize hRn:x+4294967296*R=R' at *
  obtain ⟨g,g1,g2,g3⟩:=rguess_eq (R:=R') hD (by omega) hR'
  have hgl:(digs g).length≤1:=digs_length (by omega)
  have hDgl:=digs_mul_len (x:=D) (y:=g) hDl hgl
  have hRl':(digs R').length≤900001:=by
   have h1:=digs_mul_len (x:=4294967296) (y:=D) (m:=2) (n:=900000) (digs_length (by decide)) hDl
   have h2:=digs_len_mono (show R'≤4294967296*D by omega)
   have h3:(digs R').length≤(digs D).length+1:=by
    refine digs_length ?_
    have hdl:=dval_lt (dgd D)
    rw [dvd] at hdl
    rw [Nat.pow_succ,Nat.mul_comm]
    exact Nat.lt_trans hR' (Nat.mul_lt_mul_of_pos_left hdl (by omega))
   omega
  rw [r03_DivMod_l2,hk',if_pos (by omega),if_pos (by simp only; omega)]
  simp only [Int.toNat_natCast,kz]
  rw [hx,if_pos (by simp only [List.length_cons,List.length_nil]; omega),rTrim_eq hdig (by simp only [List.length_append,List.length_cons,List.length_nil]; omega),hval]
  simp only [obn]
  rw [g1]
  simp only [obn]
  rw [rFrom_eq (by omega) (by omega),Int.toNat_natCast]
  simp only [obn]
  rw [rMul_eq (dgd _) (dgd _) (by omega) (by omega),dvd,dvd]
  simp only [obn]
  rw [rSub_eq (dgd _) (dgd _) (by omega) (by omega),dvd,dvd]
  simp only [obn]
  have hqW:R' / D<4294967296:=Nat.lt_of_le_of_lt g2 g3
  have hdm:=Nat.div_add_mod R' D
  have hml:=Nat.mod_lt R' (show 0<D by omega)
  generalize hq:R' / D=q at *
  have h5:=rl5_eq (i:=k) (Q:=Q) hq (fun z0 z1 z2=>r03_DivMod_l2 (n,b) (digs D,true) bl x6 f z0 z1 z2) (by omega) (by omega) (by omega) (by omega) (by omega) (g-q) g (by omega) g3 fuel (by unfold fuel; omega)
  refine h5.trans ?_
  refine ih (R' % D) _ (by omega) (dig_set hQ _ (digC hqW)) (by simp [hlQ]) hml ?_ f (by omega)
  rw [dval_drop n k,hx,dval_drop (Q.set k _) k,getD_set _ _ (by omega),drop_set _ _ (by omega),Int.toNat_natCast,Int.toNat_natCast]
  exact long_inv (y:=R) (by rw [Nat.mul_comm q D]; omega) hv rfl
theorem rDivMod_eq {a b:List Int} (ha:Dig a) (hb:Dig b) (hl:a.length≤800000) (hl':b.length≤800000):r03_DivMod a b=some (if dval b=0 then ([],[],false) else (digs (dval a / dval b),digs (dval a % dval b),true)):=by
 unfold r03_DivMod
 have h2:=digs_len_le hb
 rw [rTrim_eq hb (by omega)]
 simp only [obn]
 generalize dval b=B at *
 by_cases hB:B=0
 ·subst hB
  rw [if_pos (by rw [digs_zero]; rfl),if_pos rfl]
 ·have hp:=digs_len_pos hB
  rw [if_neg (by omega),if_neg hB]
  by_cases h1:(digs B).length=1
  ·rw [if_pos (by omega),if_pos (by omega),kz]
   obtain ⟨t,ht,ht',t0,-,-⟩:=blen_digs hB
   rw [h1,Nat.sub_self] at ht
   have hBt:B=t:=by
    have:=dval_drop (digs B) 0
    rw [List.drop_zero,dvd,List.drop_eq_nil_of_le (by omega),ht,Int.toNat_natCast] at this
    simpa [dval] using this
   rw [ht,u64n (by omega),rshort_eq ha (by omega) (by omega) ht',← hBt]
   rfl
  ·obtain ⟨t,ht,ht',t0,hbt,hbl⟩:=blen_digs hB
   have htp:=blen_pos t0
   rw [if_neg (by omega),rBits_eq (dgd _) (by omega),dvd]
   simp only [obn]
   have hs:IntKind.i64.wrap (IntKind.i64.wrap (32*((digs B).length:Int))-((blen B:Nat):Int))=((32-blen t:Nat):Int):=by
    rw [w64 (x:=32*((digs B).length:Int)) (by omega) (by omega),w64]<;>omega
   rw [hs,rShl_eq (dgd _) (by omega) (by omega),dvd]
   simp only [obn]
   rw [rShl_eq ha (by omega) (by omega)]
   simp only [obn]
   generalize hsv:32-blen t=s at *
   obtain ⟨c1,c2⟩:=scaled_top (B:=B) (m:=(digs B).length) (s:=s) (by omega) (by omega) hB
   have hlen:=len_eq c2 c1 (by omega)
   have hal:(digs (dval a*2 ^ s)).length≤a.length+1:=digs_length (up_lt (by omega) (dval_lt ha))
   have hBpos:0<B*2 ^ s:=Nat.mul_pos (by omega) (Nat.pow_pos (by decide))
   have hloop:=rlong_loop (n:=digs (dval a*2 ^ s)) (D:=B*2 ^ s) (s:=s) (bl:=digs B) (by omega) (by omega) (dgd _) (by omega) true ((blen B:Nat):Int) hs (by omega)
    (digs (dval a*2 ^ s)).length 0 (List.replicate (digs (dval a*2 ^ s)).length 0) (by omega) (dig_replicate _) (by simp) hBpos (by rw [List.drop_eq_nil_of_le (by simp),List.drop_eq_nil_of_le (Nat.le_refl _)]; simp [dval]) fuel (by unfold fuel; omega)
   rw [dvd,digs_zero,Nat.mul_div_mul_right _ _ (Nat.pow_pos (by decide)),Nat.mul_mod_mul_right,Nat.mul_div_cancel _ (Nat.pow_pos (by decide))] at hloop
   rw [if_pos (by omega),w64 (by omega) (by omega)]
   exact hloop
theorem rupMag_eq {X n:Nat} (h:blen X+n≤1048576):r05_upMag (digs X) (n:Int)=some (digs (X*2 ^ n)):=by
 unfold r05_upMag
 have e:(⟨false,digs X⟩:ApiInt)=iOf (X:Int):=by
  unfold iOf
  rw [Int.natAbs_natCast,show decide ((X:Int)<0)=false by simp]
 rw [e,rup_eq (by rw [Int.natAbs_natCast]; exact h)]
 simp only [obn]
 show some (digs ((X:Int)*2 ^ n).natAbs)=_
 rw [abs_shl,Int.natAbs_natCast]
theorem rDiv5_eq {x y:D} (hx:WD x) (hy:WD y) (hbx:blen x.m.natAbs≤90000) (hby:blen y.m.natAbs≤90000) {p:Nat} (hp:2≤p∧p≤400) (up:Bool):r05_Div (dy x) (dy y) (p:Int) up=some (dy (divD x y p up).1,(divD x y p up).2):=by
 have ex:=hx.e
 have ey:=hy.e
 have lx:=sz_len hx.sz
 have ly:=digs_len_blen y.m.natAbs
 have m1:=iOf_mag_zero x.m
 have m2:=iOf_mag_zero y.m
 have hM:∀ d:D,(dy d).M=iOf d.m:=fun _=>rfl
 have hMag:∀ d:D,(dy d).M.Mag=digs d.m.natAbs:=fun _=>rfl
 have hE:∀ d:D,(dy d).E=d.e:=fun _=>rfl
 have hN:∀ d:D,(dy d).M.Neg=decide (d.m<0):=fun _=>rfl
 unfold r05_Div r05_Div_j1
 rw [rRight5_dy hx.1 hx.sz,rRight5_dy hy.1 hy.sz]
 simp only [obn]
 rw [if_neg (by simp),if_neg (by simp),rprec_eq (by omega)]
 simp only [obn]
 rw [if_neg (by simp)]
 unfold divD
 by_cases h2:y.m=0
 ·rw [if_pos (by rw [hM]; exact m2.2 h2),if_pos h2,dy_z]
 ·rw [if_neg (by rw [hM]; exact fun h=>h2 (m2.1 h)),if_neg h2]
  by_cases h1:x.m=0
  ·rw [if_pos (by rw [hM]; exact m1.2 h1),if_pos h1,dy_z]
  ·rw [if_neg (by rw [hM]; exact fun h=>h1 (m1.1 h)),if_neg h1]
   have bM:∀ d:D,SZ d.m.natAbs→r01_Bits (dy d).M.Mag=some ((blen d.m.natAbs:Nat):Int):=by
    intro d hd
    have:=sz_len hd
    rw [hMag,rBits_eq (dgd _) (by omega),dvd]
   rw [bM y hy.sz,bM x hx.sz]
   simp only [obn]
   have hk:mx 0 (IntKind.i64.wrap (IntKind.i64.wrap (IntKind.i64.wrap ((p:Int)+2)+((blen y.m.natAbs:Nat):Int))-((blen x.m.natAbs:Nat):Int)))=((p+2+blen y.m.natAbs-blen x.m.natAbs:Nat):Int):=by
    rw [w64 (x:=(p:Int)+2) (by omega) (by omega),w64 (x:=(p:Int)+2+((blen y.m.natAbs:Nat):Int)) (by omega) (by omega),w64 (by omega) (by omega)]
    rw [show (p:Int)+2+((blen y.m.natAbs:Nat):Int)=((p+2+blen y.m.natAbs:Nat):Int) by omega,mx_sub]
   rw [hk]
   have h0:x.m.natAbs≠0:=by omega
   have hbk:=blen_shl h0 (p+2+blen y.m.natAbs-blen x.m.natAbs)
   generalize hkk:p+2+blen y.m.natAbs-blen x.m.natAbs=k at *
   rw [hMag,hMag,rupMag_eq (by omega)]
   simp only [obn]
   have hl2:=digs_len_blen (x.m.natAbs*2 ^ k)
   rw [rDivMod_eq (dgd _) (dgd _) (by omega) (by omega),dvd,dvd,if_neg (by omega)]
   simp only [obn]
   rw [digs_len_zero,hE,hE,hN,hN,w64 (x:=x.e-y.e) (by omega) (by omega),w64 (by omega) (by omega)]
   have hq:blen (x.m.natAbs*2 ^ k / y.m.natAbs)≤100000:=by
    have:=blen_mono (Nat.div_le_self (x.m.natAbs*2 ^ k) y.m.natAbs)
    omega
   rw [rcut_eq _ (by omega) (by omega) _ _ (by omega) (Or.inl hq)]
   simp only [obn]
   have ht:=cut_TD (decide (x.m<0) != decide (y.m<0)) (m:=x.m.natAbs*2 ^ k / y.m.natAbs) (p:=p) (by omega) (e:=x.e-y.e-(k:Int)) (by omega) (x.m.natAbs*2 ^ k % y.m.natAbs != 0) (up != (decide (x.m<0) != decide (y.m<0)))
   have e3:=rtold_eq ht
   refine Eq.trans (congrArg (fun o=>Option.bind o _) e3) ?_
   rfl
theorem rRight6_eq {a:I} (h:okI a):r06_Right (iv a)=some true:=by
 obtain ⟨h1,h2,h3⟩:=h
 unfold r06_Right r06_Right_j1
 rw [ivLo,ivHi,rRight5_dy h1.1 h1.sz,rRight5_dy h2.1 h2.sz]
 simp only [obn,if_true]
 rw [rCmp5_eq h1 h2]
 simp only [obn]
 congr 1
 exact decide_eq_true ((cmpD_le _ _).2 h3)
theorem rHas6_eq {a:I} (h:okI a) {x:D} (hx:WD x):r06_Has (iv a) (dy x)=some (hasI a x):=by
 unfold r06_Has r06_Has_j1
 rw [rRight6_eq h,rRight5_dy hx.1 hx.sz]
 simp only [obn,if_true]
 rw [ivLo,ivHi,rCmp5_eq h.1 hx,rCmp5_eq hx h.2.1]
 simp only [obn]
 unfold hasI
 by_cases h1:cmpD a.lo x≤0
 ·rw [if_pos h1,decide_eq_true h1,Bool.true_and]
 ·rw [if_neg h1,decide_eq_false h1,Bool.false_and]
theorem rIn6_eq {a b:I} (ha:okI a) (hb:okI b):r06_In (iv a) (iv b)=some (inI a b):=by
 unfold r06_In r06_In_j1
 rw [rRight6_eq ha]
 simp only [obn,if_true]
 rw [ivLo,ivHi,rHas6_eq hb ha.1,rHas6_eq hb ha.2.1]
 simp only [obn]
 unfold inI
 cases hasI b a.lo<;>simp
theorem rNew6_eq {p:Nat} (hp:2≤p∧p≤400):r06_New (p:Int)=some (Sum.inr ((p:Int),0)):=by
 unfold r06_New r06_New_j1
 rw [if_neg (by omega),if_neg (by simp; omega)]
theorem rerr_eq (x p e:Int):r06_Cerr x p e=some (if e=0 then (x == 0,x) else (false,e)):=by
 unfold r06_Cerr r06_Cerr_j1
 by_cases h:e=0
 ·rw [if_pos h,if_pos h]
 ·rw [if_neg h,if_neg h]
  have:(e == 0)=false:=by simpa using h
  rw [this]
theorem rarg_nil (l:List AI) (p e:Int) (i n:Nat) (hi:l.length≤i):r06_Carg_l2 l p e (n+1) (i:Int)=some (e == 0,e):=by
 rw [r06_Carg_l2,if_neg (by omega)]; rfl
theorem rarg_cons (l:List AI) (p e:Int) (i n:Nat) (hi:i<l.length) (hi':i≤1000) (hr:r06_Right (l.getD i zAI)=some true):r06_Carg_l2 l p e (n+1) (i:Int)=r06_Carg_l2 l p e n ((i+1:Nat):Int):=by
 rw [r06_Carg_l2,if_pos (by omega),if_pos (by omega)]
 simp only [Int.toNat_natCast,etaIv]
 rw [hr]
 simp only [obn]
 rw [if_neg (by simp),show ((i:Int)+1)=((i+1:Nat):Int) by omega,w64n (by omega)]
theorem rarg_one {a:I} (ha:okI a) (p e:Int):r06_Carg [iv a] p e=some (e == 0,e):=by
 unfold r06_Carg
 obtain ⟨f,hf⟩:=fuel_succ
 rw [hf]
 exact (rarg_cons [iv a] p e 0 (f+1+1) (by simp) (by omega) (rRight6_eq ha)).trans (rarg_nil [iv a] p e 1 (f+1) (by simp))
theorem rarg_two {a b:I} (ha:okI a) (hb:okI b) (p e:Int):r06_Carg [iv a,iv b] p e=some (e == 0,e):=by
 unfold r06_Carg
 obtain ⟨f,hf⟩:=fuel_succ
 rw [hf]
 exact (rarg_cons [iv a,iv b] p e 0 (f+1+1) (by simp) (by omega) (rRight6_eq ha)).trans ((rarg_cons [iv a,iv b] p e 1 (f+1) (by simp) (by omega) (rRight6_eq hb)).trans (rarg_nil [iv a,iv b] p e 2 f (by simp)))
theorem tell_err {d:D} (h:(tell d).2≠0):(tell d).1=zD∧(tell d).2=4:=by
 unfold tell at *
 by_cases h1:inR d=true
 ·rw [if_pos h1] at h; exact absurd rfl h
 ·rw [if_neg h1]; exact ⟨rfl,rfl⟩
theorem raddE_eq {x y:D} (hx:WD x) (hy:WD y) (p e:Int):r06_Cadd (dy x) (dy y) p e=some (dy (st e zD (bindE (addD x y) zD fun s=>(s,0))).1,(st e zD (bindE (addD x y) zD fun s=>(s,0))).2):=by
 unfold r06_Cadd st bindE
 by_cases h:e=0
 ·rw [if_neg (by simpa using h),if_pos h,rAdd5_eq hx hy]
  simp only [obn]
  rw [rerr_eq,if_pos h]
  simp only [obn]
  by_cases h2:(addD x y).2=0
  ·rw [if_pos h2,h2]
  ·rw [if_neg h2,(tell_err (d:=sumD x y) h2).1.symm]; rfl
 ·rw [if_pos h,if_neg h,dy_z]
theorem rroundE_eq {x:D} (hx:WD x) {p:Nat} (hp:2≤p∧p≤400) (up:Bool) (e:Int):r06_Cround (dy x) up (p:Int) e=some (dy (st e zD (bindE (roundD x p up) zD fun s=>(s,0))).1,(st e zD (bindE (roundD x p up) zD fun s=>(s,0))).2):=by
 unfold r06_Cround st bindE
 by_cases h:e=0
 ·rw [if_neg (by simpa using h),if_pos h,rRound_eq hx hp]
  simp only [obn]
  rw [rerr_eq,if_pos h]
  simp only [obn]
  by_cases h2:(roundD x p up).2=0
  ·rw [if_pos h2,h2]
  ·rw [if_neg h2,(tell_err (d:=rnd x p up) h2).1.symm]; rfl
 ·rw [if_pos h,if_neg h,dy_z]
theorem routE_eq (x y:D) (e p:Int):r06_Cout (dy x) (dy y) p e=some (iv (if e=0 then ⟨x,y⟩ else zI)):=by
 unfold r06_Cout
 by_cases h:e=0
 ·rw [if_neg (by simpa using h),if_pos h]; rfl
 ·rw [if_pos h,if_neg h,iv_z]
theorem rivPoint_eq {x:D} (hx:WD x) (e p:Int):r06_CPoint (dy x) p e=some (iv (st e zI (⟨x,x⟩,0)).1,(st e zI ((⟨x,x⟩:I),0)).2):=by
 unfold r06_CPoint
 have:(⟨dy x,dy x⟩:AI)=iv ⟨x,x⟩:=rfl
 rw [this,rarg_one (okI_point hx)]
 simp only [obn]
 by_cases h:e=0
 ·subst h; rw [if_neg (by simp),st_zero]
 ·rw [if_pos (fine_no h),st_ne h,iv_z]
theorem rivInt_eq {n:Int} (hn : -9223372036854775808≤n∧n≤9223372036854775807) (e p:Int):r06_CInt n p e=some (iv (st e zI (intI n,0)).1,(st e zI (intI n,0)).2):=by
 unfold r06_CInt
 rw [rFrom5_eq hn]
 simp only [obn]
 rw [rivPoint_eq (WD_from hn)]
 simp only [obn]
 rfl
theorem rivAdd_eq {a b:I} (ha:okI a) (hb:okI b) {p:Nat} (hp:2≤p∧p≤400) (e:Int):r06_CAdd (iv a) (iv b) (p:Int) e=some (iv (st e zI (addI p a b)).1,(st e zI (addI p a b)).2):=by
 unfold r06_CAdd
 rw [rarg_two ha hb]
 simp only [obn]
 by_cases h:e=0
 ·subst h
  rw [if_neg (by simp),ivLo,ivLo,ivHi,ivHi,st_zero,raddE_eq ha.1 hb.1,st_zero]
  simp only [obn]
  rw [rroundE_eq (x:=(bindE (addD a.lo b.lo) zD fun s=>(s,0)).1) (by
   have:=WD_bind (WD_add ha.1 hb.1) 0; rwa [st_zero] at this) hp]
  simp only [obn]
  unfold addI
  by_cases h1:(addD a.lo b.lo).2=0
  ·rw [bindE_ok h1,bindE_ok h1,st_zero]
   by_cases h2:(roundD (addD a.lo b.lo).1 p false).2=0
   ·rw [bindE_ok h2,bindE_ok h2,raddE_eq ha.2.1 hb.2.1,st_zero]
    simp only [obn]
    rw [rroundE_eq (x:=(bindE (addD a.hi b.hi) zD fun s=>(s,0)).1) (by
     have:=WD_bind (WD_add ha.2.1 hb.2.1) 0; rwa [st_zero] at this) hp]
    simp only [obn]
    by_cases h3:(addD a.hi b.hi).2=0
    ·rw [bindE_ok h3,bindE_ok h3,st_zero]
     by_cases h4:(roundD (addD a.hi b.hi).1 p true).2=0
     ·rw [bindE_ok h4,bindE_ok h4,routE_eq]
      simp only [obn]
      rfl
     ·rw [bindE_no h4,bindE_no h4,routE_eq]
      simp only [obn]
      rw [if_neg h4]
    ·rw [bindE_no h3,bindE_no h3,st_ne h3,routE_eq]
     simp only [obn]
     rw [if_neg h3]
   ·rw [bindE_no h2,bindE_no h2,raddE_eq ha.2.1 hb.2.1,st_ne h2]
    simp only [obn]
    rw [rroundE_eq WD_z hp,st_ne h2]
    simp only [obn]
    rw [routE_eq]
    simp only [obn]
    rw [if_neg h2]
  ·rw [bindE_no h1,bindE_no h1,st_ne h1,raddE_eq ha.2.1 hb.2.1,st_ne h1]
   simp only [obn]
   rw [rroundE_eq WD_z hp,st_ne h1]
   simp only [obn]
   rw [routE_eq]
   simp only [obn]
   rw [if_neg h1]
 ·rw [if_pos (fine_no h),st_ne h,iv_z]
theorem rivNeg_eq {a:I} (h:okI a) (e p:Int):r06_CNeg (iv a) p e=some (iv (st e zI (negI a,0)).1,(st e zI (negI a,0)).2):=by
 unfold r06_CNeg
 rw [rarg_one h]
 simp only [obn]
 by_cases h0:e=0
 ·subst h0
  rw [if_neg (by simp),st_zero,ivLo,ivHi,rNeg5_eq h.1,rNeg5_eq h.2.1]
  simp only [obn]
  rfl
 ·rw [if_pos (fine_no h0),st_ne h0,iv_z]
theorem rivWide_eq {a:I} (ha:okI a) {d:D} (hd:WD d) (hd0:0≤val d) {p:Nat} (hp:2≤p∧p≤400) (e:Int):r06_CWide (iv a) (dy d) (p:Int) e=some (iv (st e zI (wideI p a d)).1,(st e zI (wideI p a d)).2):=by
 unfold r06_CWide
 have hz:(⟨⟨⟨false,[]⟩,0⟩,dy d⟩:AI)=iv ⟨zD,d⟩:=by unfold iv; simp only [dy_z]
 have hok:okI ⟨zD,d⟩:=⟨WD_z,hd,by show val zD≤val d; rw [val_z]; exact hd0⟩
 rw [hz,rarg_two ha hok]
 simp only [obn]
 by_cases h:e=0
 ·subst h
  rw [if_neg (by simp),rNeg5_eq hd]
  simp only [obn]
  rw [ivLo,ivHi,st_zero,raddE_eq ha.1 hd.neg,st_zero]
  simp only [obn]
  rw [rroundE_eq (x:=(bindE (addD a.lo (negD d)) zD fun s=>(s,0)).1) (by
   have:=WD_bind (WD_add ha.1 hd.neg) 0; rwa [st_zero] at this) hp]
  simp only [obn]
  unfold wideI
  by_cases h1:(addD a.lo (negD d)).2=0
  ·rw [bindE_ok h1,bindE_ok h1,st_zero]
   by_cases h2:(roundD (addD a.lo (negD d)).1 p false).2=0
   ·rw [bindE_ok h2,bindE_ok h2,raddE_eq ha.2.1 hd,st_zero]
    simp only [obn]
    rw [rroundE_eq (x:=(bindE (addD a.hi d) zD fun s=>(s,0)).1) (by
     have:=WD_bind (WD_add ha.2.1 hd) 0; rwa [st_zero] at this) hp]
    simp only [obn]
    by_cases h3:(addD a.hi d).2=0
    ·rw [bindE_ok h3,bindE_ok h3,st_zero]
     by_cases h4:(roundD (addD a.hi d).1 p true).2=0
     ·rw [bindE_ok h4,bindE_ok h4,routE_eq]
      simp only [obn]
      rfl
     ·rw [bindE_no h4,bindE_no h4,routE_eq]
      simp only [obn]
      rw [if_neg h4]
    ·rw [bindE_no h3,bindE_no h3,st_ne h3,routE_eq]
     simp only [obn]
     rw [if_neg h3]
   ·rw [bindE_no h2,bindE_no h2,raddE_eq ha.2.1 hd,st_ne h2]
    simp only [obn]
    rw [rroundE_eq WD_z hp,st_ne h2]
    simp only [obn]
    rw [routE_eq]
    simp only [obn]
    rw [if_neg h2]
  ·rw [bindE_no h1,bindE_no h1,st_ne h1,raddE_eq ha.2.1 hd,st_ne h1]
   simp only [obn]
   rw [rroundE_eq WD_z hp,st_ne h1]
   simp only [obn]
   rw [routE_eq]
   simp only [obn]
   rw [if_neg h1]
 ·rw [if_pos (fine_no h),st_ne h,iv_z]
theorem rivSub_eq {a b:I} (ha:okI a) (hb:okI b) {p:Nat} (hp:2≤p∧p≤400) (e:Int):r06_CSub (iv a) (iv b) (p:Int) e=some (iv (st e zI (subI p a b)).1,(st e zI (subI p a b)).2):=by
 unfold r06_CSub
 rw [rarg_two ha hb]
 simp only [obn]
 by_cases h0:e=0
 ·subst h0
  rw [if_neg (by simp),rivNeg_eq hb]
  simp only [obn]
  rw [st_zero,st_zero,rivAdd_eq ha (okI_neg hb) hp,st_zero]
  simp only [obn]
  rfl
 ·rw [if_pos (fine_no h0),st_ne h0,iv_z]
theorem rivScale_eq {a:I} (ha:okI a) {n:Int} (hn : -100000≤n∧n≤100000) (e p:Int):r06_CScale (iv a) n p e=some (iv (st e zI (scaleI a n)).1,(st e zI (scaleI a n)).2):=by
 unfold r06_CScale
 rw [rarg_one ha]
 simp only [obn]
 by_cases h:e=0
 ·subst h
  rw [if_neg (by simp),ivLo,ivHi,st_zero,rScale5_eq ha.1 hn]
  simp only [obn]
  rw [rerr_eq,if_pos rfl]
  simp only [obn]
  unfold scaleI
  by_cases h1:(scaleD a.lo n).2=0
  ·rw [bindE_ok h1,if_neg (by simp [h1]),rScale5_eq ha.2.1 hn]
   simp only [obn]
   rw [rerr_eq,if_pos h1]
   simp only [obn]
   rw [routE_eq]
   simp only [obn]
   by_cases h2:(scaleD a.hi n).2=0
   ·rw [bindE_ok h2,if_pos h2,h2]
   ·rw [bindE_no h2,if_neg h2]
  ·rw [bindE_no h1,if_pos (by simpa using h1),iv_z]
 ·rw [if_pos (fine_no h),st_ne h,iv_z]
theorem rleast_loop (l:List D) (hl:∀ y ∈ l,WD y) (hlen:l.length≤1000):∀ (r i:Nat) (m:D),i+r=l.length→WD m→∀ f,r<f→
  r06_least_l2 (l.map dy) f (i:Int) (dy m).M.Neg (dy m).M.Mag (dy m).E=some (dy ((l.drop i).foldl minD m)):=by
 intro r
 induction r with
 | zero=>
  intro i m hi hm f hf
  obtain ⟨f,rfl⟩:∃ k,f=k+1:=⟨f-1,by omega⟩
  rw [r06_least_l2,if_neg (by rw [List.length_map]; omega),List.drop_eq_nil_of_le (by omega)]
  rfl
 | succ r ih=>
  intro i m hi hm f hf
  obtain ⟨f,rfl⟩:∃ k,f=k+1:=⟨f-1,by omega⟩
  have hin:i<l.length:=by omega
  have hW:=hl _ (getD_mem hin)
  have hw:IntKind.i64.wrap ((i:Int)+1)=((i+1:Nat):Int):=by rw [w64]<;>omega
  rw [r06_least_l2]
  unfold r06_least_j3
  simp only [hw]
  rw [if_pos (by rw [List.length_map]; omega),if_pos (by rw [List.length_map]; omega),Int.toNat_natCast,map_getD l i hin,drop_getD hin,List.foldl_cons]
  generalize l.getD i zD=y at *
  have e1:∀ d:D,(⟨⟨(dy d).M.Neg,(dy d).M.Mag⟩,(dy d).E⟩:AD)=dy d:=fun _=>rfl
  simp only [e1]
  rw [rCmp5_eq hW hm]
  simp only [obn]
  have hmin:minD m y=if cmpD y m<0 then y else m:=rfl
  by_cases h1:cmpD y m<0
  ·rw [if_pos h1,if_pos (by rw [List.length_map]; omega),hmin,if_pos h1]
   exact ih (i+1) y (by omega) hW f (by omega)
  ·rw [if_neg h1,hmin,if_neg h1]
   exact ih (i+1) m (by omega) hm f (by omega)
theorem rleast_eq {l:List D} (h0:l≠[]) (hl:∀ y ∈ l,WD y) (hlen:l.length≤1000):r06_least (l.map dy)=some (dy (minL l)):=by
 cases l with
 | nil=>exact absurd rfl h0
 | cons x l=>
  unfold r06_least
  rw [if_pos (by simp)]
  have e:((x :: l).map dy).getD 0 zAD=dy x:=rfl
  rw [e]
  exact rleast_loop (x :: l) hl hlen l.length 1 x (by simp; omega) (hl x List.mem_cons_self) fuel (by simp at hlen; unfold fuel; omega)
theorem rgreat_loop (l:List D) (hl:∀ y ∈ l,WD y) (hlen:l.length≤1000):∀ (r i:Nat) (m:D),i+r=l.length→WD m→∀ f,r<f→
  r06_greatest_l2 (l.map dy) f (i:Int) (dy m).M.Neg (dy m).M.Mag (dy m).E=some (dy ((l.drop i).foldl maxD m)):=by
 intro r
 induction r with
 | zero=>
  intro i m hi hm f hf
  obtain ⟨f,rfl⟩:∃ k,f=k+1:=⟨f-1,by omega⟩
  rw [r06_greatest_l2,if_neg (by rw [List.length_map]; omega),List.drop_eq_nil_of_le (by omega)]
  rfl
 | succ r ih=>
  intro i m hi hm f hf
  obtain ⟨f,rfl⟩:∃ k,f=k+1:=⟨f-1,by omega⟩
  have hin:i<l.length:=by omega
  have hW:=hl _ (getD_mem hin)
  have hw:IntKind.i64.wrap ((i:Int)+1)=((i+1:Nat):Int):=by rw [w64]<;>omega
  rw [r06_greatest_l2]
  unfold r06_greatest_j3
  simp only [hw]
  rw [if_pos (by rw [List.length_map]; omega),if_pos (by rw [List.length_map]; omega),Int.toNat_natCast,map_getD l i hin,drop_getD hin,List.foldl_cons]
  generalize l.getD i zD=y at *
  have e1:∀ d:D,(⟨⟨(dy d).M.Neg,(dy d).M.Mag⟩,(dy d).E⟩:AD)=dy d:=fun _=>rfl
  simp only [e1]
  rw [rCmp5_eq hW hm]
  simp only [obn]
  have hmin:maxD m y=if 0<cmpD y m then y else m:=rfl
  by_cases h1:0<cmpD y m
  ·rw [if_pos h1,if_pos (by rw [List.length_map]; omega),hmin,if_pos h1]
   exact ih (i+1) y (by omega) hW f (by omega)
  ·rw [if_neg h1,hmin,if_neg h1]
   exact ih (i+1) m (by omega) hm f (by omega)
theorem rgreat_eq {l:List D} (h0:l≠[]) (hl:∀ y ∈ l,WD y) (hlen:l.length≤1000):r06_greatest (l.map dy)=some (dy (maxL l)):=by
 cases l with
 | nil=>exact absurd rfl h0
 | cons x l=>
  unfold r06_greatest
  rw [if_pos (by simp)]
  have e:((x :: l).map dy).getD 0 zAD=dy x:=rfl
  rw [e]
  exact rgreat_loop (x :: l) hl hlen l.length 1 x (by simp; omega) (hl x List.mem_cons_self) fuel (by simp at hlen; unfold fuel; omega)
theorem rmul_step {a b:I} (p:Int) (i:Nat) (hi:i<4) (x y:D) (hx:WD x) (hy:WD y) (ex:([dy a.lo,dy a.lo,dy a.hi,dy a.hi]:List AD).getD i zAD=dy x) (ey:([dy b.lo,dy b.hi,dy b.lo,dy b.hi]:List AD).getD i zAD=dy y) (O:List D) (hO:O.length≤10) (n:Nat) :
  r06_CMul_l2 (iv a) (iv b) p (n+1) (i:Int) 0 (O.map dy)=if (timesD x y).2=0 then r06_CMul_l2 (iv a) (iv b) p n ((i+1:Nat):Int) 0 ((O++[(timesD x y).1]).map dy) else some (iv zI,(timesD x y).2):=by
 rw [r06_CMul_l2,if_pos (by omega),if_pos (by simp only [List.length_cons,List.length_nil]; omega),if_pos (by simp only [List.length_cons,List.length_nil]; omega)]
 simp only [Int.toNat_natCast,ivLo,ivHi]
 rw [ex,ey]
 simp only [etaDy]
 rw [rMul5_eq hx hy]
 simp only [obn]
 rw [rerr_eq,if_pos rfl]
 simp only [obn]
 by_cases h:(timesD x y).2=0
 ·rw [if_pos h,if_neg (by simp [h]),if_pos (by simp only [List.length_cons,List.length_nil,List.length_map]; omega),show ((i:Int)+1)=((i+1:Nat):Int) by omega,w64n (by omega),h,List.map_append]
  rfl
 ·rw [if_neg h,if_pos (by simpa using h),iv_z]
theorem min4_L (a b c d:D):minL [a,b,c,d]=min4 a b c d:=rfl
theorem max4_L (a b c d:D):maxL [a,b,c,d]=max4 a b c d:=rfl
theorem rivMul_eq {a b:I} (ha:okI a) (hb:okI b) {p:Nat} (hp:2≤p∧p≤400) (e:Int):r06_CMul (iv a) (iv b) (p:Int) e=some (iv (st e zI (mulI p a b)).1,(st e zI (mulI p a b)).2):=by
 unfold r06_CMul
 rw [rarg_two ha hb]
 simp only [obn]
 by_cases h:e=0
 ·subst h
  rw [if_neg (by simp),st_zero]
  obtain ⟨f0,hf0⟩:∃ f,fuel=f+1+1+1+1+1:=⟨18446744073709551611,by unfold fuel; omega⟩
  rw [hf0]
  have s0:=rmul_step (a:=a) (b:=b) (p:Int) 0 (by omega) a.lo b.lo ha.1 hb.1 rfl rfl [] (by simp) (f0+1+1+1+1)
  refine Eq.trans s0 ?_
  unfold mulI four4
  by_cases h1:(timesD a.lo b.lo).2=0
  ·rw [if_pos h1,bindE_ok h1]
   have s1:=rmul_step (a:=a) (b:=b) (p:Int) 1 (by omega) a.lo b.hi ha.1 hb.2.1 rfl rfl ([]++[(timesD a.lo b.lo).1]) (by simp) (f0+1+1+1)
   refine Eq.trans s1 ?_
   by_cases h2:(timesD a.lo b.hi).2=0
   ·rw [if_pos h2,bindE_ok h2]
    have s2:=rmul_step (a:=a) (b:=b) (p:Int) 2 (by omega) a.hi b.lo ha.2.1 hb.1 rfl rfl ([]++[(timesD a.lo b.lo).1]++[(timesD a.lo b.hi).1]) (by simp) (f0+1+1)
    refine Eq.trans s2 ?_
    by_cases h3:(timesD a.hi b.lo).2=0
    ·rw [if_pos h3,bindE_ok h3]
     have s3:=rmul_step (a:=a) (b:=b) (p:Int) 3 (by omega) a.hi b.hi ha.2.1 hb.2.1 rfl rfl ([]++[(timesD a.lo b.lo).1]++[(timesD a.lo b.hi).1]++[(timesD a.hi b.lo).1]) (by simp) (f0+1)
     refine Eq.trans s3 ?_
     by_cases h4:(timesD a.hi b.hi).2=0
     ·rw [if_pos h4,bindE_ok h4,r06_CMul_l2,if_neg (by omega)]
      have hW:∀ y ∈ [(timesD a.lo b.lo).1,(timesD a.lo b.hi).1,(timesD a.hi b.lo).1,(timesD a.hi b.hi).1],WD y:=by
       intro y hy
       simp only [List.mem_cons,List.not_mem_nil,or_false] at hy
       rcases hy with rfl | rfl | rfl | rfl<;>exact WD_times
      have hml:=rleast_eq (l:=[(timesD a.lo b.lo).1,(timesD a.lo b.hi).1,(timesD a.hi b.lo).1,(timesD a.hi b.hi).1]) (by simp) hW (by simp)
      have hMl:=rgreat_eq (l:=[(timesD a.lo b.lo).1,(timesD a.lo b.hi).1,(timesD a.hi b.lo).1,(timesD a.hi b.hi).1]) (by simp) hW (by simp)
      have hWm:=minL_WD hW
      have hWM:=maxL_WD hW
      rw [min4_L] at hml hWm
      rw [max4_L] at hMl hWM
      unfold r06_CMul_j1
      have el:([]++[(timesD a.lo b.lo).1]++[(timesD a.lo b.hi).1]++[(timesD a.hi b.lo).1]++[(timesD a.hi b.hi).1])=[(timesD a.lo b.lo).1,(timesD a.lo b.hi).1,(timesD a.hi b.lo).1,(timesD a.hi b.hi).1]:=rfl
      rw [el,hml]
      simp only [obn]
      rw [rroundE_eq hWm hp,st_zero]
      simp only [obn]
      rw [hMl]
      simp only [obn]
      rw [rroundE_eq hWM hp]
      simp only [obn]
      rw [routE_eq]
      simp only [obn]
      generalize min4 (timesD a.lo b.lo).1 (timesD a.lo b.hi).1 (timesD a.hi b.lo).1 (timesD a.hi b.hi).1=m
      generalize max4 (timesD a.lo b.lo).1 (timesD a.lo b.hi).1 (timesD a.hi b.lo).1 (timesD a.hi b.hi).1=M
      by_cases h5:(roundD m p false).2=0
      ·rw [bindE_ok h5,bindE_ok h5,st_zero]
       by_cases h6:(roundD M p true).2=0
       ·rw [bindE_ok h6,bindE_ok h6]; rfl
       ·rw [bindE_no h6,bindE_no h6]
        simp only
        rw [if_neg h6]
      ·rw [bindE_no h5,bindE_no h5,st_ne h5]
       simp only
       rw [if_neg h5]
     ·rw [if_neg h4,bindE_no h4]
    ·rw [if_neg h3,bindE_no h3]
   ·rw [if_neg h2,bindE_no h2]
  ·rw [if_neg h1,bindE_no h1]
 ·rw [if_pos (fine_no h),st_ne h,iv_z]
theorem divD_err {x y:D} (hy:y.m≠0) {p:Nat} {up:Bool} (h:(divD x y p up).2≠0):(divD x y p up).2=4:=by
 unfold divD at *
 rw [if_neg hy] at h ⊢
 by_cases hx:x.m=0
 ·rw [if_pos hx] at h; exact absurd rfl h
 ·rw [if_neg hx] at h ⊢; exact (tell_err h).2
theorem bindE_Z {r:D × Int} {f:D→I × Int} (hr:r.2≠0→r.2=4) (h:r.2=0→f r.1=(zI,4)):bindE r zI f=(zI,4):=by
 by_cases h0:r.2=0
 ·rw [bindE_ok h0]; exact h h0
 ·rw [bindE_no h0,hr h0]
theorem rdiv_step {a b:I} {p:Nat} (hp:2≤p∧p≤400) (i:Nat) (hi:i<4) (x y:D) (hx:WD x) (hy:WD y) (hbx:blen x.m.natAbs≤90000) (hby:blen y.m.natAbs≤90000) (hy0:y.m≠0) (ex:([dy a.lo,dy a.lo,dy a.hi,dy a.hi]:List AD).getD i zAD=dy x) (ey:([dy b.lo,dy b.hi,dy b.lo,dy b.hi]:List AD).getD i zAD=dy y) (O P:List D) (hO:O.length≤10) (hP:P.length≤10) (n:Nat) :
  r06_CDiv_l2 (iv a) (iv b) (p:Int) (n+1) (i:Int) 0 (O.map dy) (P.map dy)=if (divD x y p false).2=0∧(divD x y p true).2=0 then r06_CDiv_l2 (iv a) (iv b) (p:Int) n ((i+1:Nat):Int) 0 ((O++[(divD x y p false).1]).map dy) ((P++[(divD x y p true).1]).map dy) else some (iv zI,4):=by
 rw [r06_CDiv_l2,if_pos (by omega),if_pos (by simp only [List.length_cons,List.length_nil]; omega),if_pos (by simp only [List.length_cons,List.length_nil]; omega)]
 simp only [Int.toNat_natCast,ivLo,ivHi]
 rw [ex,ey]
 simp only [etaDy]
 rw [rDiv5_eq hx hy hbx hby hp]
 simp only [obn]
 rw [if_pos (by simp only [List.length_cons,List.length_nil]; omega),if_pos (by simp only [List.length_cons,List.length_nil]; omega),rDiv5_eq hx hy hbx hby hp]
 simp only [obn]
 rw [rerr_eq,if_pos rfl]
 simp only [obn]
 unfold r06_CDiv_j3
 by_cases h:(divD x y p false).2=0
 ·rw [if_neg (by simp [h]),rerr_eq,if_pos h]
  simp only [obn]
  by_cases h2:(divD x y p true).2=0
  ·have hc:(divD x y p false).2=0∧(divD x y p true).2=0:=⟨h,h2⟩
   rw [if_pos hc,if_neg (by simp [h2]),if_pos (by simp only [List.length_cons,List.length_nil,List.length_map]; omega),if_pos (by simp only [List.length_cons,List.length_nil,List.length_map]; omega),show ((i:Int)+1)=((i+1:Nat):Int) by omega,w64n (by omega),h2,List.map_append,List.map_append]
   rfl
  ·rw [if_pos (by simpa using h2),if_neg (fun h3=>h2 h3.2),divD_err hy0 h2,iv_z]
 ·rw [if_pos (by simpa using h),if_pos rfl,if_neg (fun h3=>h h3.1),divD_err hy0 h,iv_z]
theorem rivDiv_eq {a b:I} (ha:okI a) (hb:okI b) (sa:blen a.lo.m.natAbs≤90000∧blen a.hi.m.natAbs≤90000) (sb:blen b.lo.m.natAbs≤90000∧blen b.hi.m.natAbs≤90000) {p:Nat} (hp:2≤p∧p≤400) (e:Int):r06_CDiv (iv a) (iv b) (p:Int) e=some (iv (st e zI (divI p a b)).1,(st e zI (divI p a b)).2):=by
 unfold r06_CDiv
 rw [rarg_two ha hb]
 simp only [obn]
 by_cases h:e=0
 ·subst h
  rw [if_neg (by simp),st_zero,← dy_z,rHas6_eq hb WD_z]
  simp only [obn]
  unfold divI
  by_cases hz:hasI b zD=true
  ·rw [if_pos hz,if_pos hz,rerr_eq,if_pos rfl]
   simp only [obn]
   rfl
  ·rw [if_neg hz,if_neg hz]
   have hz':hasI b zD=false:=by simpa using hz
   have hs:=has_zero hz'
   have hble:=hb.2.2
   have zl:=val_zero_iff b.lo
   have zh:=val_zero_iff b.hi
   have nl:b.lo.m≠0:=fun h0=>by have:=zl.2 h0; grind
   have nh:b.hi.m≠0:=fun h0=>by have:=zh.2 h0; grind
   obtain ⟨f0,hf0⟩:∃ f,fuel=f+1+1+1+1+1:=⟨18446744073709551611,by unfold fuel; omega⟩
   rw [hf0]
   have E:∀ x y:D,y.m≠0→∀ up,(divD x y p up).2≠0→(divD x y p up).2=4:=fun x y hy up h=>divD_err hy h
   have hgoal:∀ R:Option (AI × Int),(R=some (iv zI,4)∧((divD a.lo b.lo p false).2≠0∨(divD a.lo b.lo p true).2≠0∨(divD a.lo b.hi p false).2≠0∨(divD a.lo b.hi p true).2≠0∨(divD a.hi b.lo p false).2≠0∨(divD a.hi b.lo p true).2≠0∨(divD a.hi b.hi p false).2≠0∨(divD a.hi b.hi p true).2≠0))∨
     (((divD a.lo b.lo p false).2=0∧(divD a.lo b.lo p true).2=0∧(divD a.lo b.hi p false).2=0∧(divD a.lo b.hi p true).2=0∧(divD a.hi b.lo p false).2=0∧(divD a.hi b.lo p true).2=0∧(divD a.hi b.hi p false).2=0∧(divD a.hi b.hi p true).2=0)∧R=some (iv ⟨min4 (divD a.lo b.lo p false).1 (divD a.lo b.hi p false).1 (divD a.hi b.lo p false).1 (divD a.hi b.hi p false).1,max4 (divD a.lo b.lo p true).1 (divD a.lo b.hi p true).1 (divD a.hi b.lo p true).1 (divD a.hi b.hi p true).1⟩,0))→
     R=some (iv (four4 (fun x y=>divD x y p false) a.lo a.hi b.lo b.hi zI fun q1 q2 q3 q4=>four4 (fun x y=>divD x y p true) a.lo a.hi b.lo b.hi zI fun r1 r2 r3 r4=>((⟨min4 q1 q2 q3 q4,max4 r1 r2 r3 r4⟩:I),0)).1,(four4 (fun x y=>divD x y p false) a.lo a.hi b.lo b.hi zI fun q1 q2 q3 q4=>four4 (fun x y=>divD x y p true) a.lo a.hi b.lo b.hi zI fun r1 r2 r3 r4=>((⟨min4 q1 q2 q3 q4,max4 r1 r2 r3 r4⟩:I),0)).2):=by
    rintro R (⟨rfl,hor⟩ | ⟨⟨g1,g2,g3,g4,g5,g6,g7,g8⟩,rfl⟩)
    ·have:(four4 (fun x y=>divD x y p false) a.lo a.hi b.lo b.hi zI fun q1 q2 q3 q4=>four4 (fun x y=>divD x y p true) a.lo a.hi b.lo b.hi zI fun r1 r2 r3 r4=>((⟨min4 q1 q2 q3 q4,max4 r1 r2 r3 r4⟩:I),0))=(zI,4):=by
      unfold four4
      refine bindE_Z (E _ _ nl _) fun k1=>bindE_Z (E _ _ nh _) fun k3=>bindE_Z (E _ _ nl _) fun k5=>bindE_Z (E _ _ nh _) fun k7=>bindE_Z (E _ _ nl _) fun k2=>bindE_Z (E _ _ nh _) fun k4=>bindE_Z (E _ _ nl _) fun k6=>bindE_Z (E _ _ nh _) fun k8=>?_
      exfalso
      simp only at k1 k2 k3 k4 k5 k6 k7 k8
      rcases hor with h | h | h | h | h | h | h | h
      ·exact h k1
      ·exact h k2
      ·exact h k3
      ·exact h k4
      ·exact h k5
      ·exact h k6
      ·exact h k7
      ·exact h k8
     rw [this]
    ·unfold four4
     rw [bindE_ok g1,bindE_ok g3,bindE_ok g5,bindE_ok g7]
     simp only
     rw [bindE_ok g2,bindE_ok g4,bindE_ok g6,bindE_ok g8]
   apply hgoal
   have s0:=rdiv_step (a:=a) (b:=b) hp 0 (by omega) a.lo b.lo ha.1 hb.1 sa.1 sb.1 nl rfl rfl [] [] (by simp) (by simp) (f0+1+1+1+1)
   have s1:=rdiv_step (a:=a) (b:=b) hp 1 (by omega) a.lo b.hi ha.1 hb.2.1 sa.1 sb.2 nh rfl rfl ([]++[(divD a.lo b.lo p false).1]) ([]++[(divD a.lo b.lo p true).1]) (by simp) (by simp) (f0+1+1+1)
   have s2:=rdiv_step (a:=a) (b:=b) hp 2 (by omega) a.hi b.lo ha.2.1 hb.1 sa.2 sb.1 nl rfl rfl ([]++[(divD a.lo b.lo p false).1]++[(divD a.lo b.hi p false).1]) ([]++[(divD a.lo b.lo p true).1]++[(divD a.lo b.hi p true).1]) (by simp) (by simp) (f0+1+1)
   have s3:=rdiv_step (a:=a) (b:=b) hp 3 (by omega) a.hi b.hi ha.2.1 hb.2.1 sa.2 sb.2 nh rfl rfl ([]++[(divD a.lo b.lo p false).1]++[(divD a.lo b.hi p false).1]++[(divD a.hi b.lo p false).1]) ([]++[(divD a.lo b.lo p true).1]++[(divD a.lo b.hi p true).1]++[(divD a.hi b.lo p true).1]) (by simp) (by simp) (f0+1)
   have s0':r06_CDiv_l2 (iv a) (iv b) (p:Int) (f0+1+1+1+1+1) 0 0 [] []=_:=s0
   rw [s0']
   by_cases c0:(divD a.lo b.lo p false).2=0∧(divD a.lo b.lo p true).2=0
   ·rw [if_pos c0,s1]
    by_cases c1:(divD a.lo b.hi p false).2=0∧(divD a.lo b.hi p true).2=0
    ·rw [if_pos c1,s2]
     by_cases c2:(divD a.hi b.lo p false).2=0∧(divD a.hi b.lo p true).2=0
     ·rw [if_pos c2,s3]
      by_cases c3:(divD a.hi b.hi p false).2=0∧(divD a.hi b.hi p true).2=0
      ·rw [if_pos c3,r06_CDiv_l2,if_neg (by omega)]
       right
       refine ⟨⟨c0.1,c0.2,c1.1,c1.2,c2.1,c2.2,c3.1,c3.2⟩,?_⟩
       have hW:∀ up,∀ y ∈ [(divD a.lo b.lo p up).1,(divD a.lo b.hi p up).1,(divD a.hi b.lo p up).1,(divD a.hi b.hi p up).1],WD y:=by
        intro up y hy
        simp only [List.mem_cons,List.not_mem_nil,or_false] at hy
        rcases hy with rfl | rfl | rfl | rfl<;>exact WD_div
       have hml:=rleast_eq (l:=[(divD a.lo b.lo p false).1,(divD a.lo b.hi p false).1,(divD a.hi b.lo p false).1,(divD a.hi b.hi p false).1]) (by simp) (hW false) (by simp)
       have hMl:=rgreat_eq (l:=[(divD a.lo b.lo p true).1,(divD a.lo b.hi p true).1,(divD a.hi b.lo p true).1,(divD a.hi b.hi p true).1]) (by simp) (hW true) (by simp)
       rw [min4_L] at hml
       rw [max4_L] at hMl
       unfold r06_CDiv_j1
       simp only [List.nil_append,List.cons_append] at hml hMl ⊢
       rw [hml]
       simp only [obn]
       rw [hMl]
       simp only [obn]
       rw [routE_eq,if_pos rfl]
       rfl
      ·rw [if_neg c3]
       left; refine ⟨rfl,?_⟩
       by_cases d:(divD a.hi b.hi p false).2=0
       ·exact Or.inr (Or.inr (Or.inr (Or.inr (Or.inr (Or.inr (Or.inr fun e=>c3 ⟨d,e⟩))))))
       ·exact Or.inr (Or.inr (Or.inr (Or.inr (Or.inr (Or.inr (Or.inl d))))))
     ·rw [if_neg c2]
      left; refine ⟨rfl,?_⟩
      by_cases d:(divD a.hi b.lo p false).2=0
      ·exact Or.inr (Or.inr (Or.inr (Or.inr (Or.inr (Or.inl fun e=>c2 ⟨d,e⟩)))))
      ·exact Or.inr (Or.inr (Or.inr (Or.inr (Or.inl d))))
    ·rw [if_neg c1]
     left; refine ⟨rfl,?_⟩
     by_cases d:(divD a.lo b.hi p false).2=0
     ·exact Or.inr (Or.inr (Or.inr (Or.inl fun e=>c1 ⟨d,e⟩)))
     ·exact Or.inr (Or.inr (Or.inl d))
   ·rw [if_neg c0]
    left; refine ⟨rfl,?_⟩
    by_cases d:(divD a.lo b.lo p false).2=0
    ·exact Or.inr (Or.inl fun e=>c0 ⟨d,e⟩)
    ·exact Or.inl d
 ·rw [if_pos (fine_no h),st_ne h,iv_z]
structure SI (a:I):Prop where
 ok:okI a
 lo:blen a.lo.m.natAbs≤1000
 hi:blen a.hi.m.natAbs≤1000
theorem SI_z:SI zI:=⟨okI_z,by decide,by decide⟩
theorem SI.l {a:I} (h:SI a):blen a.lo.m.natAbs≤90000∧blen a.hi.m.natAbs≤90000:=by have:=h.lo; have:=h.hi; omega
theorem tell_ok' {d:D} (h:(tell d).2=0):(tell d).1=d:=by
 unfold tell at *
 by_cases h1:inR d=true
 ·rw [if_pos h1]
 ·rw [if_neg h1] at h; simp at h
theorem blen_le_pow {n p:Nat} (h:n≤2 ^ p):blen n≤p+1:=by
 have:=blen_mono h
 rwa [blen_pow] at this
theorem cutD_blen (neg:Bool) (m:Nat) (e:Int) (s:Bool) (p:Nat) (away:Bool):blen (cutD neg m e s p away).m.natAbs≤p+1:=by
 refine Nat.le_trans (nrm_blen _ _) ?_
 rw [sg_abs']
 exact blen_le_pow (cutN_le m s p away)
theorem tell_blen {d:D} {k:Nat} (h:blen d.m.natAbs≤k):blen (tell d).1.m.natAbs≤k:=by
 unfold tell
 split
 ·exact h
 ·show blen (0:Int).natAbs≤k
  simp [blen]
theorem round_blen (x:D) {p:Nat} (up:Bool):blen (roundD x p up).1.m.natAbs≤p+1:=tell_blen (cutD_blen _ _ _ _ _ _)
theorem round_dn {x:D} {p:Nat} (h:(roundD x p false).2=0):val (roundD x p false).1≤val x:=by
 rw [roundD_eq] at *; rw [tell_ok' h]; exact rnd_down x p
theorem round_upv {x:D} {p:Nat} (h:(roundD x p true).2=0):val x≤val (roundD x p true).1:=by
 rw [roundD_eq] at *; rw [tell_ok' h]; exact rnd_up x p
theorem SI_two {x y:D} (hle:val x≤val y) {p:Nat} (hp:p≤400):SI (bindE (roundD x p false) zI fun lo=>bindE (roundD y p true) zI fun hi=>((⟨lo,hi⟩:I),0)).1:=by
 by_cases h1:(roundD x p false).2=0
 ·rw [bindE_ok h1]
  by_cases h2:(roundD y p true).2=0
  ·rw [bindE_ok h2]
   have a1:=round_dn h1
   have a2:=round_upv h2
   have b1:=round_blen x (p:=p) false
   have b2:=round_blen y (p:=p) true
   exact ⟨⟨WD_round,WD_round,by show val (roundD x p false).1≤val (roundD y p true).1; grind⟩,by show blen (roundD x p false).1.m.natAbs≤1000; omega,by show blen (roundD y p true).1.m.natAbs≤1000; omega⟩
  ·rw [bindE_no h2]; exact SI_z
 ·rw [bindE_no h1]; exact SI_z
theorem add_val {x y:D} (h:(addD x y).2=0):val (addD x y).1=val x+val y:=by
 unfold addD at *; rw [tell_ok' h,val_sum]
theorem bind4 {s t:D × Int} {p:Nat} (h:s.2=0→t.2=0→val s.1≤val t.1) (hp:p≤400):SI (bindE s zI fun s=>bindE (roundD s p false) zI fun lo=>bindE t zI fun t=>bindE (roundD t p true) zI fun hi=>((⟨lo,hi⟩:I),0)).1:=by
 by_cases h1:s.2=0
 ·rw [bindE_ok h1]
  by_cases h2:t.2=0
  ·have:=SI_two (h h1 h2) hp
   by_cases h3:(roundD s.1 p false).2=0
   ·rw [bindE_ok h3] at this ⊢
    rw [bindE_ok h2]; exact this
   ·rw [bindE_no h3]; exact SI_z
  ·by_cases h3:(roundD s.1 p false).2=0
   ·rw [bindE_ok h3,bindE_no h2]; exact SI_z
   ·rw [bindE_no h3]; exact SI_z
 ·rw [bindE_no h1]; exact SI_z
theorem SI_add {a b:I} (ha:SI a) (hb:SI b) {p:Nat} (hp:p≤400):SI (addI p a b).1:=by
 refine bind4 (fun h1 h2=>?_) hp
 rw [add_val h1,add_val h2]
 have:=ha.ok.2.2
 have:=hb.ok.2.2
 grind
theorem SI_wide {a:I} (ha:SI a) {d:D} (hd:0≤val d) {p:Nat} (hp:p≤400):SI (wideI p a d).1:=by
 refine bind4 (fun h1 h2=>?_) hp
 rw [add_val h1,add_val h2,val_neg]
 have:=ha.ok.2.2
 grind
theorem SI_neg {a:I} (ha:SI a):SI (negI a):=⟨okI_neg ha.ok,by show blen (negD a.hi).m.natAbs≤1000; rw [negD_abs]; exact ha.hi,by show blen (negD a.lo).m.natAbs≤1000; rw [negD_abs]; exact ha.lo⟩
theorem SI_sub {a b:I} (ha:SI a) (hb:SI b) {p:Nat} (hp:p≤400):SI (subI p a b).1:=SI_add ha (SI_neg hb) hp
theorem SI_int {n:Int} (hn : -9223372036854775808≤n∧n≤9223372036854775807):SI (intI n):=by
 have hb:blen n.natAbs≤64:=blen_le_of (by omega)
 have h1:=nrm_blen n 0
 exact ⟨okI_int hn,by show blen (fromD n).m.natAbs≤1000; unfold fromD; omega,by show blen (fromD n).m.natAbs≤1000; unfold fromD; omega⟩
theorem SI_mul {a b:I} {p:Nat} (hp:p≤400):SI (mulI p a b).1:=by
 unfold mulI four4
 by_cases h1:(timesD a.lo b.lo).2=0
 ·rw [bindE_ok h1]
  by_cases h2:(timesD a.lo b.hi).2=0
  ·rw [bindE_ok h2]
   by_cases h3:(timesD a.hi b.lo).2=0
   ·rw [bindE_ok h3]
    by_cases h4:(timesD a.hi b.hi).2=0
    ·rw [bindE_ok h4]
     refine SI_two ?_ hp
     have m1:=min4_le (timesD a.lo b.lo).1 (timesD a.lo b.hi).1 (timesD a.hi b.lo).1 (timesD a.hi b.hi).1
     have m2:=max4_ge (timesD a.lo b.lo).1 (timesD a.lo b.hi).1 (timesD a.hi b.lo).1 (timesD a.hi b.hi).1
     grind
    ·rw [bindE_no h4]; exact SI_z
   ·rw [bindE_no h3]; exact SI_z
  ·rw [bindE_no h2]; exact SI_z
 ·rw [bindE_no h1]; exact SI_z
theorem div_dir {x y:D} (hy0:val y≠0) {p:Nat} (up:Bool) (h:(divD x y p up).2=0):(up=false→val (divD x y p up).1≤val x / val y)∧(up=true→val x / val y≤val (divD x y p up).1):=by
 have hym:y.m≠0:=fun h=>hy0 (val_zero_m h)
 unfold divD at *
 rw [if_neg hym] at h ⊢
 by_cases hxm:x.m=0
 ·rw [if_pos hxm]
  have:val x / val y=0:=div_of_mul hy0 (by rw [val_zero_m hxm,Rat.zero_mul])
  rw [this]
  exact ⟨fun _=>by rw [val_z]; exact Rat.le_refl,fun _=>by rw [val_z]; exact Rat.le_refl⟩
 rw [if_neg hxm] at h ⊢
 rw [tell_ok' h]
 have hX0:x.m.natAbs≠0:=by omega
 have hY0:y.m.natAbs≠0:=by omega
 generalize p+2+blen y.m.natAbs-blen x.m.natAbs=k at *
 generalize hE:x.e-y.e-(k:Int)=E at *
 have hvx:((x.m.natAbs*2 ^ k:Nat):Rat)*p2 (x.e-k)=(x.m.natAbs:Rat)*p2 x.e:=by
  rw [Rat.natCast_mul,Rat.mul_assoc,← p2_split]; congr 2; omega
 generalize hv:x.m.natAbs*2 ^ k=v at *
 have hr:=ratio (v:=v) hY0
 have hYp:(0:Rat)<(y.m.natAbs:Rat):=by exact_mod_cast Nat.pos_of_ne_zero hY0
 have hQ:(v:Rat) / (y.m.natAbs:Rat)*p2 E*((y.m.natAbs:Rat)*p2 y.e)=(x.m.natAbs:Rat)*p2 x.e:=by
  have e1:=mul_of_div (a:=(v:Rat)) (b:=(y.m.natAbs:Rat)) (by grind)
  have e2:p2 E*p2 y.e=p2 (x.e-k):=by rw [← p2_add]; congr 1; omega
  calc (v:Rat) / (y.m.natAbs:Rat)*p2 E*((y.m.natAbs:Rat)*p2 y.e)=((v:Rat) / (y.m.natAbs:Rat)*(y.m.natAbs:Rat))*(p2 E*p2 y.e):=by grind
   _=(x.m.natAbs:Rat)*p2 x.e:=by rw [e1,e2,hvx]
 have hpE:=p2_pos E
 have hlo:=cut_lo (v / y.m.natAbs) E (v % y.m.natAbs != 0) p
 have hhi:=cut_hi (v / y.m.natAbs) E (v % y.m.natAbs != 0) p
 have r1:=Rat.mul_le_mul_of_nonneg_right hr.1 (Rat.le_of_lt hpE)
 have r2:=Rat.mul_le_mul_of_nonneg_right hr.2 (Rat.le_of_lt hpE)
 generalize hQv:(v:Rat) / (y.m.natAbs:Rat)*p2 E=Q at *
 rw [val_cut]
 have hsgn:val x / val y=if (decide (x.m<0) != decide (y.m<0))=true then -Q else Q:=by
  apply div_of_mul hy0
  by_cases h1:x.m<0<;>by_cases h2:y.m<0
  ·rw [val_abs_neg h1,val_abs_neg h2,if_neg (by simp [h1,h2])]; grind
  ·rw [val_abs_neg h1,val_abs_pos h2,if_pos (by simp [h1,h2])]; grind
  ·rw [val_abs_pos h1,val_abs_neg h2,if_pos (by simp [h1,h2])]; grind
  ·rw [val_abs_pos h1,val_abs_pos h2,if_neg (by simp [h1,h2])]; grind
 rw [hsgn]
 generalize (decide (x.m<0) != decide (y.m<0))=neg
 cases neg with
 | true=>
  rw [if_pos rfl,sg_neg_cast,Rat.neg_mul]
  constructor
  ·rintro rfl
   have:(false != true)=true:=rfl
   rw [this]
   grind
  ·rintro rfl
   have:(true != true)=false:=rfl
   rw [this]
   grind
 | false=>
  rw [if_neg (by simp),sg_pos_cast]
  constructor
  ·rintro rfl
   have:(false != false)=false:=rfl
   rw [this]
   grind
  ·rintro rfl
   have:(true != false)=true:=rfl
   rw [this]
   grind
theorem div_blen (x y:D) (p:Nat) (up:Bool):blen (divD x y p up).1.m.natAbs≤p+1:=by
 unfold divD
 split
 ·show blen (0:Int).natAbs≤_; simp [blen]
 ·split
  ·show blen (0:Int).natAbs≤_; simp [blen]
  ·exact tell_blen (cutD_blen _ _ _ _ _ _)
theorem min4_blen {a b c d:D} {k:Nat} (ha:blen a.m.natAbs≤k) (hb:blen b.m.natAbs≤k) (hc:blen c.m.natAbs≤k) (hd:blen d.m.natAbs≤k):blen (min4 a b c d).m.natAbs≤k∧blen (max4 a b c d).m.natAbs≤k:=by
 have m:∀ x y:D,blen x.m.natAbs≤k→blen y.m.natAbs≤k→blen (minD x y).m.natAbs≤k:=by
  intro x y hx hy; unfold minD; split<;>assumption
 have M:∀ x y:D,blen x.m.natAbs≤k→blen y.m.natAbs≤k→blen (maxD x y).m.natAbs≤k:=by
  intro x y hx hy; unfold maxD; split<;>assumption
 exact ⟨m _ _ (m _ _ (m _ _ ha hb) hc) hd,M _ _ (M _ _ (M _ _ ha hb) hc) hd⟩
theorem SI_div {a b:I} (hb:okI b) {p:Nat} (hp:p≤400):SI (divI p a b).1:=by
 unfold divI
 by_cases hz:hasI b zD=true
 ·rw [if_pos hz]; exact SI_z
 rw [if_neg hz]
 have hz':hasI b zD=false:=by simpa using hz
 have hs:=has_zero hz'
 have hble:=hb.2.2
 have nl:val b.lo≠0:=by grind
 unfold four4
 by_cases h1:(divD a.lo b.lo p false).2=0
 ·rw [bindE_ok h1]
  by_cases h2:(divD a.lo b.hi p false).2=0
  ·rw [bindE_ok h2]
   by_cases h3:(divD a.hi b.lo p false).2=0
   ·rw [bindE_ok h3]
    by_cases h4:(divD a.hi b.hi p false).2=0
    ·rw [bindE_ok h4]
     simp only
     by_cases k1:(divD a.lo b.lo p true).2=0
     ·rw [bindE_ok k1]
      by_cases k2:(divD a.lo b.hi p true).2=0
      ·rw [bindE_ok k2]
       by_cases k3:(divD a.hi b.lo p true).2=0
       ·rw [bindE_ok k3]
        by_cases k4:(divD a.hi b.hi p true).2=0
        ·rw [bindE_ok k4]
         have m1:=min4_le (divD a.lo b.lo p false).1 (divD a.lo b.hi p false).1 (divD a.hi b.lo p false).1 (divD a.hi b.hi p false).1
         have m2:=max4_ge (divD a.lo b.lo p true).1 (divD a.lo b.hi p true).1 (divD a.hi b.lo p true).1 (divD a.hi b.hi p true).1
         have d1:=(div_dir nl false h1).1 rfl
         have d2:=(div_dir nl true k1).2 rfl
         have b1:=(min4_blen (div_blen a.lo b.lo p false) (div_blen a.lo b.hi p false) (div_blen a.hi b.lo p false) (div_blen a.hi b.hi p false)).1
         have b2:=(min4_blen (div_blen a.lo b.lo p true) (div_blen a.lo b.hi p true) (div_blen a.hi b.lo p true) (div_blen a.hi b.hi p true)).2
         have w1:WD (min4 (divD a.lo b.lo p false).1 (divD a.lo b.hi p false).1 (divD a.hi b.lo p false).1 (divD a.hi b.hi p false).1):=minD_WD (minD_WD (minD_WD WD_div WD_div) WD_div) WD_div
         have w2:WD (max4 (divD a.lo b.lo p true).1 (divD a.lo b.hi p true).1 (divD a.hi b.lo p true).1 (divD a.hi b.hi p true).1):=maxD_WD (maxD_WD (maxD_WD WD_div WD_div) WD_div) WD_div
         generalize min4 (divD a.lo b.lo p false).1 (divD a.lo b.hi p false).1 (divD a.hi b.lo p false).1 (divD a.hi b.hi p false).1=m at *
         generalize max4 (divD a.lo b.lo p true).1 (divD a.lo b.hi p true).1 (divD a.hi b.lo p true).1 (divD a.hi b.hi p true).1=M at *
         exact ⟨⟨w1,w2,by show val m≤val M; grind⟩,by show blen m.m.natAbs≤1000; omega,by show blen M.m.natAbs≤1000; omega⟩
        ·rw [bindE_no k4]; exact SI_z
       ·rw [bindE_no k3]; exact SI_z
      ·rw [bindE_no k2]; exact SI_z
     ·rw [bindE_no k1]; exact SI_z
    ·rw [bindE_no h4]; exact SI_z
   ·rw [bindE_no h3]; exact SI_z
  ·rw [bindE_no h2]; exact SI_z
 ·rw [bindE_no h1]; exact SI_z
theorem SI_st {r:I × Int} (h:SI r.1) (e:Int):SI (st e zI r).1:=by
 unfold st; split
 ·exact h
 ·exact SI_z
def mS (p:Nat) (a b:I) (e:Int):I × Int:=st e zI (mulI p a b)
def dS (p:Nat) (a b:I) (e:Int):I × Int:=st e zI (divI p a b)
def aS (p:Nat) (a b:I) (e:Int):I × Int:=st e zI (addI p a b)
def nS (a:I) (e:Int):I × Int:=st e zI (negI a,0)
def iS (n:Int) (e:Int):I × Int:=st e zI (intI n,0)
def wS (p:Nat) (a:I) (d:D) (e:Int):I × Int:=st e zI (wideI p a d)
theorem SI_mS {p:Nat} (hp:p≤400) (a b:I) (e:Int):SI (mS p a b e).1:=SI_st (SI_mul hp) e
theorem SI_dS {p:Nat} (hp:p≤400) (a:I) {b:I} (hb:SI b) (e:Int):SI (dS p a b e).1:=SI_st (SI_div hb.ok hp) e
theorem SI_aS {p:Nat} (hp:p≤400) {a b:I} (ha:SI a) (hb:SI b) (e:Int):SI (aS p a b e).1:=SI_st (SI_add ha hb hp) e
theorem SI_nS {a:I} (ha:SI a) (e:Int):SI (nS a e).1:=SI_st (r:=(negI a,0)) (SI_neg ha) e
theorem SI_iS {n:Int} (hn : -1000000≤n∧n≤1000000) (e:Int):SI (iS n e).1:=SI_st (r:=(intI n,0)) (SI_int (by omega)) e
theorem pMul {p:Nat} (hp:2≤p∧p≤400) {a b:I} (ha:SI a) (hb:SI b) (e:Int):cv_Mul (iv a) (iv b) e (p:Int)=some (iv (mS p a b e).1,(mS p a b e).2):=ivMul_eq ha.ok hb.ok hp e
theorem pDiv {p:Nat} (hp:2≤p∧p≤400) {a b:I} (ha:SI a) (hb:SI b) (e:Int):cv_Div (iv a) (iv b) e (p:Int)=some (iv (dS p a b e).1,(dS p a b e).2):=ivDiv_eq ha.ok hb.ok hp e
theorem pAdd {p:Nat} (hp:2≤p∧p≤400) {a b:I} (ha:SI a) (hb:SI b) (e:Int):cv_Add (iv a) (iv b) e (p:Int)=some (iv (aS p a b e).1,(aS p a b e).2):=ivAdd_eq ha.ok hb.ok hp e
theorem pNeg {a:I} (ha:SI a) (e p:Int):cv_Neg (iv a) e p=some (iv (nS a e).1,(nS a e).2):=ivNeg_eq ha.ok e p
theorem pInt {n:Int} (hn : -1000000≤n∧n≤1000000) (e p:Int):cv_Int n e p=some (iv (iS n e).1,(iS n e).2):=ivInt_eq (by omega) e p
theorem rMulS {p:Nat} (hp:2≤p∧p≤400) {a b:I} (ha:SI a) (hb:SI b) (e:Int):r06_CMul (iv a) (iv b) (p:Int) e=some (iv (mS p a b e).1,(mS p a b e).2):=rivMul_eq ha.ok hb.ok hp e
theorem rDivS {p:Nat} (hp:2≤p∧p≤400) {a b:I} (ha:SI a) (hb:SI b) (e:Int):r06_CDiv (iv a) (iv b) (p:Int) e=some (iv (dS p a b e).1,(dS p a b e).2):=rivDiv_eq ha.ok hb.ok ha.l hb.l hp e
theorem rAddS {p:Nat} (hp:2≤p∧p≤400) {a b:I} (ha:SI a) (hb:SI b) (e:Int):r06_CAdd (iv a) (iv b) (p:Int) e=some (iv (aS p a b e).1,(aS p a b e).2):=rivAdd_eq ha.ok hb.ok hp e
theorem rNegS {a:I} (ha:SI a) (e p:Int):r06_CNeg (iv a) p e=some (iv (nS a e).1,(nS a e).2):=rivNeg_eq ha.ok e p
theorem rIntS {n:Int} (hn : -1000000≤n∧n≤1000000) (e p:Int):r06_CInt n p e=some (iv (iS n e).1,(iS n e).2):=rivInt_eq (by omega) e p
def serL (p:Nat) (next:Nat→I→Int→I × I × Int):Nat→Nat→I→I→Int→I × Int
 | 0,_,s,_,e=>(s,e)
 | k+1,i,s,t,e=>serL p next k (i+1) (aS p s (next (i+1) t e).2.1 (next (i+1) t e).2.2).1 (next (i+1) t e).1 (aS p s (next (i+1) t e).2.1 (next (i+1) t e).2.2).2
def finS (p:Nat) (r:I × Int):I × Int:=wS p r.1 ⟨1,-(p:Int)⟩ r.2
def turnS (p:Nat) (t q:I) (b:Int) (e:Int):I × Int:=nS (dS p (mS p t q e).1 (iS b (mS p t q e).2).1 (iS b (mS p t q e).2).2).1 (dS p (mS p t q e).1 (iS b (mS p t q e).2).1 (iS b (mS p t q e).2).2).2
def nSin (p:Nat) (q:I) (i:Nat) (t:I) (e:Int):I × I × Int:=((turnS p t q ((2*i*(2*i+1):Nat):Int) e).1,(turnS p t q ((2*i*(2*i+1):Nat):Int) e).1,(turnS p t q ((2*i*(2*i+1):Nat):Int) e).2)
def nCos (p:Nat) (q:I) (i:Nat) (t:I) (e:Int):I × I × Int:=((turnS p t q (((2*i-1)*2*i:Nat):Int) e).1,(turnS p t q (((2*i-1)*2*i:Nat):Int) e).1,(turnS p t q (((2*i-1)*2*i:Nat):Int) e).2)
def oddS (p:Nat) (i:Nat) (g:I × Int):I × I × Int:=(g.1,(dS p g.1 (iS ((2*i+1:Nat):Int) g.2).1 (iS ((2*i+1:Nat):Int) g.2).2).1,(dS p g.1 (iS ((2*i+1:Nat):Int) g.2).1 (iS ((2*i+1:Nat):Int) g.2).2).2)
def nAtan (p:Nat) (q:I) (i:Nat) (t:I) (e:Int):I × I × Int:=oddS p i (nS (mS p t q e).1 (mS p t q e).2)
theorem SI_turn {p:Nat} (hp:p≤400) (t q:I) {b:Int} (hb : -1000000≤b∧b≤1000000) (e:Int):SI (turnS p t q b e).1:=SI_nS (SI_dS hp _ (SI_iS hb _) _) _
theorem sq_small {i:Nat} (h:i≤300):2*i*(2*i+1)≤1000000∧(2*i-1)*2*i≤1000000:=by
 have h1:2*i*(2*i+1)≤600*601:=Nat.mul_le_mul (by omega) (by omega)
 have h2:(2*i-1)*2*i≤1200*300:=Nat.mul_le_mul (by omega) (by omega)
 omega
theorem nSin_SI {p:Nat} (hp:p≤400) (y:I) {i:Nat} (hi:i≤300) (t:I) (e:Int):SI (nSin p y i t e).1∧SI (nSin p y i t e).2.1:=by
 have:=sq_small hi
 exact ⟨SI_turn hp _ _ (by omega) _,SI_turn hp _ _ (by omega) _⟩
theorem nCos_SI {p:Nat} (hp:p≤400) (y:I) {i:Nat} (hi:i≤300) (t:I) (e:Int):SI (nCos p y i t e).1∧SI (nCos p y i t e).2.1:=by
 have:=sq_small hi
 exact ⟨SI_turn hp _ _ (by omega) _,SI_turn hp _ _ (by omega) _⟩
theorem nAtan_SI {p:Nat} (hp:p≤400) (y:I) {i:Nat} (hi:i≤300) (t:I) (e:Int):SI (nAtan p y i t e).1∧SI (nAtan p y i t e).2.1:=⟨SI_nS (SI_mS hp _ _ _) _,SI_dS hp _ (SI_iS (by omega) _) _⟩
theorem ivEta (a:I):(⟨⟨⟨(iv a).Lo.M.Neg,(iv a).Lo.M.Mag⟩,(iv a).Lo.E⟩,⟨⟨(iv a).Hi.M.Neg,(iv a).Hi.M.Mag⟩,(iv a).Hi.E⟩⟩:AI)=iv a:=rfl
theorem WD_half {k:Int} (h : -60000≤k∧k≤60000):WD ⟨1,k⟩:=⟨Or.inr ⟨rfl,by simp only; omega,by simp only; omega⟩,by show blen 1≤262144; rw [show blen 1=1 by decide]; omega⟩
theorem val_half (k:Int):val ⟨1,k⟩=p2 k:=by unfold val; simp
theorem SI_fin {p:Nat} (hp:p≤400) {r:I × Int} (h:SI r.1):SI (finS p r).1:=SI_st (SI_wide h (by rw [val_half]; exact Rat.le_of_lt (p2_pos _)) hp) _
theorem pWide {p:Nat} (hp:2≤p∧p≤400) {a:I} (ha:SI a) (e:Int):cv_Wide (iv a) (dy ⟨1,-(p:Int)⟩) e (p:Int)=some (iv (finS p (a,e)).1,(finS p (a,e)).2):=
 ivWide_eq ha.ok (WD_half (by omega)) (by rw [val_half]; exact Rat.le_of_lt (p2_pos _)) hp e
theorem rWideS {p:Nat} (hp:2≤p∧p≤400) {a:I} (ha:SI a) (e:Int):r06_CWide (iv a) (dy ⟨1,-(p:Int)⟩) (p:Int) e=some (iv (finS p (a,e)).1,(finS p (a,e)).2):=
 rivWide_eq ha.ok (WD_half (by omega)) (by rw [val_half]; exact Rat.le_of_lt (p2_pos _)) hp e
theorem negHalf {p:Nat} (hp:p≤400):dyad_Half (IntKind.i64.wrap (0-(p:Int)))=some (dy ⟨1,-(p:Int)⟩):=by
 rw [w64 (by omega) (by omega),show 0-(p:Int) = -(p:Int) by omega,dyad_Half_eq (by omega)]
theorem rnegHalf {p:Nat} (hp:p≤400):r05_Half (IntKind.i64.wrap (0-(p:Int)))=some (dy ⟨1,-(p:Int)⟩):=by
 rw [w64 (by omega) (by omega),show 0-(p:Int) = -(p:Int) by omega,rHalf_eq (by omega)]
theorem rends_eq {p:Nat} (hp:2≤p∧p≤400) {a:I} (ha:SI a) (e:Int):r07_ends (iv a) (p:Int) e=some (iv (finS p (a,e)).1,(finS p (a,e)).2):=by
 unfold r07_ends
 rw [rnegHalf hp.2]
 simp only [obn]
 rw [rWideS hp ha]
 rfl
theorem terms_eq {p:Nat} (hp:p≤400):small_Terms (p:Int)=some ((p / 2+4:Nat):Int):=by
 unfold small_Terms
 have h1:mx (p:Int) 0=(p:Int):=by unfold mx; split<;>omega
 have h2:mn (p:Int) 400=(p:Int):=by unfold mn; split<;>omega
 rw [h1,h2,show (2:Int)=((2:Nat):Int) by rfl,tdivn,w64n (by omega),w64 (by omega) (by omega)]
 rfl
theorem rterms_eq {p:Nat} (hp:p≤400):r07_Terms (p:Int)=some ((p / 2+4:Nat):Int):=by
 unfold r07_Terms
 have h1:mx (p:Int) 0=(p:Int):=by unfold mx; split<;>omega
 have h2:mn (p:Int) 400=(p:Int):=by unfold mn; split<;>omega
 rw [h1,h2,show (2:Int)=((2:Nat):Int) by rfl,tdivn,w64n (by omega),w64 (by omega) (by omega)]
 rfl
theorem turned_eq {p:Nat} (hp:2≤p∧p≤400) {t q:I} (ht:SI t) (hq:SI q) {b:Int} (hb : -1000000≤b∧b≤1000000) (e:Int):small_turned (iv t) (iv q) b e (p:Int)=some (iv (turnS p t q b e).1,(turnS p t q b e).2):=by
 unfold small_turned
 rw [pMul hp ht hq]
 simp only [obn]
 rw [pInt hb]
 simp only [obn]
 rw [pDiv hp (SI_mS hp.2 _ _ _) (SI_iS hb _)]
 simp only [obn]
 rw [pNeg (SI_dS hp.2 _ (SI_iS hb _) _)]
 rfl
theorem wsin {i:Nat} (h:i≤300):IntKind.i64.wrap (IntKind.i64.wrap (2*(i:Int))*IntKind.i64.wrap (IntKind.i64.wrap (2*(i:Int))+1))=((2*i*(2*i+1):Nat):Int):=by
 have:=sq_small h
 rw [w64 (x:=2*(i:Int)) (by omega) (by omega),w64 (x:=2*(i:Int)+1) (by omega) (by omega),show 2*(i:Int)*(2*(i:Int)+1)=((2*i*(2*i+1):Nat):Int) by simp,w64n (by omega)]
theorem wcos {i:Nat} (h:i≤300) (h0:1≤i):IntKind.i64.wrap (IntKind.i64.wrap (IntKind.i64.wrap (IntKind.i64.wrap (2*(i:Int))-1)*2)*(i:Int))=(((2*i-1)*2*i:Nat):Int):=by
 have:=sq_small h
 rw [w64 (x:=2*(i:Int)) (by omega) (by omega),w64 (x:=2*(i:Int)-1) (by omega) (by omega),show 2*(i:Int)-1=((2*i-1:Nat):Int) by omega,w64 (x:=((2*i-1:Nat):Int)*2) (by omega) (by omega),show ((2*i-1:Nat):Int)*2*(i:Int)=(((2*i-1)*2*i:Nat):Int) by simp,w64n (by omega)]
theorem wodd {i:Nat} (h:i≤300):IntKind.i64.wrap (IntKind.i64.wrap (2*(i:Int))+1)=((2*i+1:Nat):Int):=by
 rw [w64 (x:=2*(i:Int)) (by omega) (by omega),w64 (by omega) (by omega)]; omega
theorem nSin_eq {p:Nat} (hp:2≤p∧p≤400) {q t:I} (hq:SI q) (ht:SI t) {i:Nat} (hi:i≤300) (h0:1≤i) (e:Int):small_plain_1_7cba (i:Int) (iv t) e (p:Int) (iv q).Lo.M.Neg (iv q).Lo.M.Mag (iv q).Lo.E (iv q).Hi.M.Neg (iv q).Hi.M.Mag (iv q).Hi.E=some (iv (nSin p q i t e).1,iv (nSin p q i t e).2.1,(nSin p q i t e).2.2):=by
 have:=sq_small hi
 unfold small_plain_1_7cba small_Sin_1
 rw [ivEta,wsin hi,turned_eq hp ht hq (by omega)]
 rfl
theorem nCos_eq {p:Nat} (hp:2≤p∧p≤400) {q t:I} (hq:SI q) (ht:SI t) {i:Nat} (hi:i≤300) (h0:1≤i) (e:Int):small_plain_1_b404 (i:Int) (iv t) e (p:Int) (iv q).Lo.M.Neg (iv q).Lo.M.Mag (iv q).Lo.E (iv q).Hi.M.Neg (iv q).Hi.M.Mag (iv q).Hi.E=some (iv (nCos p q i t e).1,iv (nCos p q i t e).2.1,(nCos p q i t e).2.2):=by
 have:=sq_small hi
 unfold small_plain_1_b404 small_Cos_1
 rw [ivEta,wcos hi h0,turned_eq hp ht hq (by omega)]
 rfl
theorem nAtan_eq {p:Nat} (hp:2≤p∧p≤400) {q t:I} (hq:SI q) (ht:SI t) {i:Nat} (hi:i≤300) (h0:1≤i) (e:Int):small_odd_1_df97 (i:Int) (iv t) e (p:Int) (iv q).Lo.M.Neg (iv q).Lo.M.Mag (iv q).Lo.E (iv q).Hi.M.Neg (iv q).Hi.M.Mag (iv q).Hi.E=some (iv (nAtan p q i t e).1,iv (nAtan p q i t e).2.1,(nAtan p q i t e).2.2):=by
 unfold small_odd_1_df97
 rw [ivEta,wodd hi,pMul hp ht hq]
 simp only [obn]
 rw [pNeg (SI_mS hp.2 _ _ _)]
 simp only [obn]
 rw [pInt (by omega)]
 simp only [obn]
 rw [pDiv hp (SI_nS (SI_mS hp.2 _ _ _) _) (SI_iS (by omega) _)]
 rfl
theorem nSin_loop {p:Nat} (hp:2≤p∧p≤400) {q:I} (hq:SI q):∀ (r i:Nat) (s t:I) (e:Int),i+r=p / 2+4→SI s→SI t→∀ f,r<f→small_series_f1ab_l2 ((p / 2+4:Nat):Int) (p:Int) (iv q).Lo.M.Neg (iv q).Lo.M.Mag (iv q).Lo.E (iv q).Hi.M.Neg (iv q).Hi.M.Mag (iv q).Hi.E f (i:Int) e (iv s).Lo.M.Neg (iv s).Lo.M.Mag (iv s).Lo.E (iv s).Hi.M.Neg (iv s).Hi.M.Mag (iv s).Hi.E (iv t).Lo.M.Neg (iv t).Lo.M.Mag (iv t).Lo.E (iv t).Hi.M.Neg (iv t).Hi.M.Mag (iv t).Hi.E=some (iv (finS p (serL p (nSin p q) r i s t e)).1,(finS p (serL p (nSin p q) r i s t e)).2):=by
 intro r
 induction r with
 | zero=>
  intro i s t e hi hs ht f hf
  obtain ⟨f,rfl⟩:∃ k,f=k+1:=⟨f-1,by omega⟩
  rw [small_series_f1ab_l2,if_neg (by omega)]
  unfold small_series_f1ab_j1 cv_Prec
  simp only [obn]
  rw [negHalf hp.2]
  simp only [obn]
  rw [ivEta,pWide hp hs]
  rfl
 | succ r ih=>
  intro i s t e hi hs ht f hf
  obtain ⟨f,rfl⟩:∃ k,f=k+1:=⟨f-1,by omega⟩
  have hn:=nSin_SI hp.2 q (i:=i+1) (by omega) t e
  rw [small_series_f1ab_l2,if_pos (by omega),show ((i:Int)+1)=((i+1:Nat):Int) by omega,w64n (by omega),ivEta,ivEta,nSin_eq hp hq ht (by omega) (by omega)]
  simp only [obn]
  rw [pAdd hp hs hn.2]
  simp only [obn]
  exact ih (i+1) _ _ _ (by omega) (SI_aS hp.2 hs hn.2 _) hn.1 f (by omega)
theorem nCos_loop {p:Nat} (hp:2≤p∧p≤400) {q:I} (hq:SI q):∀ (r i:Nat) (s t:I) (e:Int),i+r=p / 2+4→SI s→SI t→∀ f,r<f→small_series_7c7a_l2 ((p / 2+4:Nat):Int) (p:Int) (iv q).Lo.M.Neg (iv q).Lo.M.Mag (iv q).Lo.E (iv q).Hi.M.Neg (iv q).Hi.M.Mag (iv q).Hi.E f (i:Int) e (iv s).Lo.M.Neg (iv s).Lo.M.Mag (iv s).Lo.E (iv s).Hi.M.Neg (iv s).Hi.M.Mag (iv s).Hi.E (iv t).Lo.M.Neg (iv t).Lo.M.Mag (iv t).Lo.E (iv t).Hi.M.Neg (iv t).Hi.M.Mag (iv t).Hi.E=some (iv (finS p (serL p (nCos p q) r i s t e)).1,(finS p (serL p (nCos p q) r i s t e)).2):=by
 intro r
 induction r with
 | zero=>
  intro i s t e hi hs ht f hf
  obtain ⟨f,rfl⟩:∃ k,f=k+1:=⟨f-1,by omega⟩
  rw [small_series_7c7a_l2,if_neg (by omega)]
  unfold small_series_7c7a_j1 cv_Prec
  simp only [obn]
  rw [negHalf hp.2]
  simp only [obn]
  rw [ivEta,pWide hp hs]
  rfl
 | succ r ih=>
  intro i s t e hi hs ht f hf
  obtain ⟨f,rfl⟩:∃ k,f=k+1:=⟨f-1,by omega⟩
  have hn:=nCos_SI hp.2 q (i:=i+1) (by omega) t e
  rw [small_series_7c7a_l2,if_pos (by omega),show ((i:Int)+1)=((i+1:Nat):Int) by omega,w64n (by omega),ivEta,ivEta,nCos_eq hp hq ht (by omega) (by omega)]
  simp only [obn]
  rw [pAdd hp hs hn.2]
  simp only [obn]
  exact ih (i+1) _ _ _ (by omega) (SI_aS hp.2 hs hn.2 _) hn.1 f (by omega)
theorem nAtan_loop {p:Nat} (hp:2≤p∧p≤400) {q:I} (hq:SI q):∀ (r i:Nat) (s t:I) (e:Int),i+r=p / 2+4→SI s→SI t→∀ f,r<f→small_series_5374_l2 ((p / 2+4:Nat):Int) (p:Int) (iv q).Lo.M.Neg (iv q).Lo.M.Mag (iv q).Lo.E (iv q).Hi.M.Neg (iv q).Hi.M.Mag (iv q).Hi.E f (i:Int) e (iv s).Lo.M.Neg (iv s).Lo.M.Mag (iv s).Lo.E (iv s).Hi.M.Neg (iv s).Hi.M.Mag (iv s).Hi.E (iv t).Lo.M.Neg (iv t).Lo.M.Mag (iv t).Lo.E (iv t).Hi.M.Neg (iv t).Hi.M.Mag (iv t).Hi.E=some (iv (finS p (serL p (nAtan p q) r i s t e)).1,(finS p (serL p (nAtan p q) r i s t e)).2):=by
 intro r
 induction r with
 | zero=>
  intro i s t e hi hs ht f hf
  obtain ⟨f,rfl⟩:∃ k,f=k+1:=⟨f-1,by omega⟩
  rw [small_series_5374_l2,if_neg (by omega)]
  unfold small_series_5374_j1 cv_Prec
  simp only [obn]
  rw [negHalf hp.2]
  simp only [obn]
  rw [ivEta,pWide hp hs]
  rfl
 | succ r ih=>
  intro i s t e hi hs ht f hf
  obtain ⟨f,rfl⟩:∃ k,f=k+1:=⟨f-1,by omega⟩
  have hn:=nAtan_SI hp.2 q (i:=i+1) (by omega) t e
  rw [small_series_5374_l2,if_pos (by omega),show ((i:Int)+1)=((i+1:Nat):Int) by omega,w64n (by omega),ivEta,ivEta,nAtan_eq hp hq ht (by omega) (by omega)]
  simp only [obn]
  rw [pAdd hp hs hn.2]
  simp only [obn]
  exact ih (i+1) _ _ _ (by omega) (SI_aS hp.2 hs hn.2 _) hn.1 f (by omega)
theorem rnSin_loop {p:Nat} (hp:2≤p∧p≤400) {q:I} (hq:SI q) (e0:Int):∀ (r i:Nat) (s t:I) (e:Int),i+r=p / 2+4→SI s→SI t→∀ f,r<f→r07_Sin_l2 (p:Int) (iv q,e0) f ((i+1:Nat):Int) e (iv s).Lo.M.Neg (iv s).Lo.M.Mag (iv s).Lo.E (iv s).Hi.M.Neg (iv s).Hi.M.Mag (iv s).Hi.E (iv t).Lo.M.Neg (iv t).Lo.M.Mag (iv t).Lo.E (iv t).Hi.M.Neg (iv t).Hi.M.Mag (iv t).Hi.E=some (iv (finS p (serL p (nSin p q) r i s t e)).1,(finS p (serL p (nSin p q) r i s t e)).2):=by
 intro r
 induction r with
 | zero=>
  intro i s t e hi hs ht f hf
  obtain ⟨f,rfl⟩:∃ k,f=k+1:=⟨f-1,by omega⟩
  rw [r07_Sin_l2,rterms_eq hp.2]
  simp only [obn]
  rw [if_neg (by omega)]
  unfold r07_Sin_j1
  rw [ivEta,rends_eq hp hs]
  rfl
 | succ r ih=>
  intro i s t e hi hs ht f hf
  obtain ⟨f,rfl⟩:∃ k,f=k+1:=⟨f-1,by omega⟩
  have hsq:=sq_small (i:=i+1) (by omega)
  have hn:=nSin_SI hp.2 q (i:=i+1) (by omega) t e
  rw [r07_Sin_l2,rterms_eq hp.2]
  simp only [obn]
  rw [if_pos (by omega)]
  rw [ivEta,wsin (by omega),rMulS hp ht hq]
  simp only [obn]
  rw [rIntS (by omega)]
  simp only [obn]
  rw [rDivS hp (SI_mS hp.2 _ _ _) (SI_iS (by omega) _)]
  simp only [obn]
  rw [rNegS (SI_dS hp.2 _ (SI_iS (by omega) _) _)]
  simp only [obn]
  have ha:r06_CAdd (iv s) (iv (nSin p q (i+1) t e).2.1) (p:Int) (nSin p q (i+1) t e).2.2=_:=rAddS hp hs hn.2 _
  refine Eq.trans (congrArg (fun o=>Option.bind o _) ha) ?_
  simp only [obn]
  rw [show (((i+1:Nat):Int)+1)=((i+1+1:Nat):Int) by omega,w64n (by omega)]
  exact ih (i+1) _ _ _ (by omega) (SI_aS hp.2 hs hn.2 _) hn.1 f (by omega)
theorem rnCos_loop {p:Nat} (hp:2≤p∧p≤400) {q:I} (hq:SI q) (e0:Int):∀ (r i:Nat) (s t:I) (e:Int),i+r=p / 2+4→SI s→SI t→∀ f,r<f→r07_Cos_l2 (p:Int) (iv q,e0) f ((i+1:Nat):Int) e (iv s).Lo.M.Neg (iv s).Lo.M.Mag (iv s).Lo.E (iv s).Hi.M.Neg (iv s).Hi.M.Mag (iv s).Hi.E (iv t).Lo.M.Neg (iv t).Lo.M.Mag (iv t).Lo.E (iv t).Hi.M.Neg (iv t).Hi.M.Mag (iv t).Hi.E=some (iv (finS p (serL p (nCos p q) r i s t e)).1,(finS p (serL p (nCos p q) r i s t e)).2):=by
 intro r
 induction r with
 | zero=>
  intro i s t e hi hs ht f hf
  obtain ⟨f,rfl⟩:∃ k,f=k+1:=⟨f-1,by omega⟩
  rw [r07_Cos_l2,rterms_eq hp.2]
  simp only [obn]
  rw [if_neg (by omega)]
  unfold r07_Cos_j1
  rw [ivEta,rends_eq hp hs]
  rfl
 | succ r ih=>
  intro i s t e hi hs ht f hf
  obtain ⟨f,rfl⟩:∃ k,f=k+1:=⟨f-1,by omega⟩
  have hsq:=sq_small (i:=i+1) (by omega)
  have hn:=nCos_SI hp.2 q (i:=i+1) (by omega) t e
  rw [r07_Cos_l2,rterms_eq hp.2]
  simp only [obn]
  rw [if_pos (by omega)]
  rw [ivEta,wcos (by omega) (by omega),rMulS hp ht hq]
  simp only [obn]
  rw [rIntS (by omega)]
  simp only [obn]
  rw [rDivS hp (SI_mS hp.2 _ _ _) (SI_iS (by omega) _)]
  simp only [obn]
  rw [rNegS (SI_dS hp.2 _ (SI_iS (by omega) _) _)]
  simp only [obn]
  have ha:r06_CAdd (iv s) (iv (nCos p q (i+1) t e).2.1) (p:Int) (nCos p q (i+1) t e).2.2=_:=rAddS hp hs hn.2 _
  refine Eq.trans (congrArg (fun o=>Option.bind o _) ha) ?_
  simp only [obn]
  rw [show (((i+1:Nat):Int)+1)=((i+1+1:Nat):Int) by omega,w64n (by omega)]
  exact ih (i+1) _ _ _ (by omega) (SI_aS hp.2 hs hn.2 _) hn.1 f (by omega)
theorem rnAtan_loop {p:Nat} (hp:2≤p∧p≤400) {q:I} (hq:SI q) (e0:Int):∀ (r i:Nat) (s t:I) (e:Int),i+r=p / 2+4→SI s→SI t→∀ f,r<f→r07_Atan_l2 (p:Int) (iv q,e0) f ((i+1:Nat):Int) e (iv s).Lo.M.Neg (iv s).Lo.M.Mag (iv s).Lo.E (iv s).Hi.M.Neg (iv s).Hi.M.Mag (iv s).Hi.E (iv t).Lo.M.Neg (iv t).Lo.M.Mag (iv t).Lo.E (iv t).Hi.M.Neg (iv t).Hi.M.Mag (iv t).Hi.E=some (iv (finS p (serL p (nAtan p q) r i s t e)).1,(finS p (serL p (nAtan p q) r i s t e)).2):=by
 intro r
 induction r with
 | zero=>
  intro i s t e hi hs ht f hf
  obtain ⟨f,rfl⟩:∃ k,f=k+1:=⟨f-1,by omega⟩
  rw [r07_Atan_l2,rterms_eq hp.2]
  simp only [obn]
  rw [if_neg (by omega)]
  unfold r07_Atan_j1
  rw [ivEta,rends_eq hp hs]
  rfl
 | succ r ih=>
  intro i s t e hi hs ht f hf
  obtain ⟨f,rfl⟩:∃ k,f=k+1:=⟨f-1,by omega⟩
  have hsq:=sq_small (i:=i+1) (by omega)
  have hn:=nAtan_SI hp.2 q (i:=i+1) (by omega) t e
  rw [r07_Atan_l2,rterms_eq hp.2]
  simp only [obn]
  rw [if_pos (by omega)]
  rw [ivEta,wodd (by omega),rMulS hp ht hq]
  simp only [obn]
  rw [rNegS (SI_mS hp.2 _ _ _)]
  simp only [obn]
  rw [rIntS (by omega)]
  simp only [obn]
  rw [rDivS hp (SI_nS (SI_mS hp.2 _ _ _) _) (SI_iS (by omega) _)]
  simp only [obn]
  have ha:r06_CAdd (iv s) (iv (nAtan p q (i+1) t e).2.1) (p:Int) (nAtan p q (i+1) t e).2.2=_:=rAddS hp hs hn.2 _
  refine Eq.trans (congrArg (fun o=>Option.bind o _) ha) ?_
  simp only [obn]
  rw [show (((i+1:Nat):Int)+1)=((i+1+1:Nat):Int) by omega,w64n (by omega)]
  exact ih (i+1) _ _ _ (by omega) (SI_aS hp.2 hs hn.2 _) hn.1 f (by omega)
def box (k:Int):I:=⟨negD ⟨1,k⟩,⟨1,k⟩⟩
theorem SI_box {k:Int} (h : -60000≤k∧k≤60000):okI (box k):=by
 refine ⟨(WD_half h).neg,WD_half h,?_⟩
 show val (negD ⟨1,k⟩)≤val ⟨1,k⟩
 rw [val_neg,val_half]
 have:=p2_pos k
 grind
theorem hasI_int00:hasI (intI 0) zD=true:=by decide +kernel
theorem small_in_eq {p:Nat} (hp:2≤p∧p≤400) {y:I} (hy:SI y) {k:Int} (hk : -60000≤k∧k≤60000) (e:Int):small_in (iv y) k e (p:Int)=some (if e=0 then (if inI y (box k)=true then (true,0) else (false,3)) else (false,e)):=by
 unfold small_in iv_trouble_Err
 rw [dyad_Half_eq hk]
 simp only [obn]
 rw [pNeg hy]
 simp only [obn]
 by_cases h:e=0
 ·subst h
  have hn:(nS y 0).2=0:=rfl
  rw [hn,if_neg (by simp),if_pos rfl,dyad_Neg_eq (WD_half hk)]
  simp only [obn]
  have hb:iv_In (iv y) (iv (box k))=some (inI y (box k)):=ivIn_eq hy.ok (SI_box hk)
  refine Eq.trans (congrArg (fun o=>Option.bind o _) hb) ?_
  simp only [obn]
  by_cases h1:inI y (box k)=true
  ·rw [if_pos h1,if_pos h1]
  ·rw [if_neg h1,if_neg h1,pInt (by omega)]
   simp only [obn]
   have i1:(iS 1 0).2=0:=rfl
   rw [i1,pInt (by omega)]
   simp only [obn]
   rw [pDiv hp (SI_iS (by omega) _) (SI_iS (by omega) _)]
   simp only [obn]
   have hd:dS p (iS 1 0).1 (iS 0 0).1 (iS 0 0).2=(zI,3):=by
    show st 0 zI (divI p (intI 1) (intI 0))=_
    rw [st_zero,divI_zero hasI_int00]
   rw [hd]
 ·have hn:(nS y e).2=e:=by unfold nS; rw [st_ne h]
  rw [hn,if_pos h,if_neg h]
theorem rfits_eq {p:Nat} {y:I} (hy:SI y) {k:Int} (hk : -60000≤k∧k≤60000) (e:Int):r07_fits (iv y) k (p:Int) e=some (if e=0 then (if inI y (box k)=true then (true,0) else (false,3)) else (false,e)):=by
 unfold r07_fits
 by_cases h:e=0
 ·subst h
  rw [if_neg (by simp),if_pos rfl,rRight6_eq hy.ok]
  simp only [obn]
  rw [if_neg (by simp),rHalf_eq hk]
  simp only [obn]
  rw [rNeg5_eq (WD_half hk)]
  simp only [obn]
  have hb:r06_In (iv y) (iv (box k))=some (inI y (box k)):=rIn6_eq hy.ok (SI_box hk)
  refine Eq.trans (congrArg (fun o=>Option.bind o _) hb) ?_
  simp only [obn]
  by_cases h1:inI y (box k)=true
  ·rw [if_neg (by simp [h1]),if_pos h1]
  ·rw [if_pos h1,if_neg h1]
 ·rw [if_pos h,if_neg h]
theorem SI_ser {p:Nat} (hp:p≤400) (next:Nat→I→Int→I × I × Int) (hn:∀ (i:Nat) (t:I) (e:Int),i≤300→SI (next i t e).1∧SI (next i t e).2.1):∀ (k i:Nat) (s t:I) (e:Int),i+k≤300→SI s→SI (serL p next k i s t e).1:=by
 intro k
 induction k with
 | zero=>intro i s t e _ hs; exact hs
 | succ k ih=>
  intro i s t e hi hs
  exact ih (i+1) _ _ _ (by omega) (SI_aS hp hs (hn (i+1) t e (by omega)).2 _)
def sinI (p:Nat) (y:I):I × Int:=if inI y (box 0)=true then finS p (serL p (nSin p (mS p y y 0).1) (p / 2+4) 0 y y (mS p y y 0).2) else (zI,3)
def cosI (p:Nat) (y:I):I × Int:=if inI y (box 0)=true then finS p (serL p (nCos p (mS p y y 0).1) (p / 2+4) 0 (iS 1 (mS p y y 0).2).1 (iS 1 (mS p y y 0).2).1 (mS p y y 0).2) else (zI,3)
def atanI (p:Nat) (y:I):I × Int:=if inI y (box (-1))=true then finS p (serL p (nAtan p (mS p y y 0).1) (p / 2+4) 0 y y (mS p y y 0).2) else (zI,3)
theorem iS_e (n e:Int):(iS n e).2=e:=by unfold iS st; split<;>simp [*]
theorem smallSin_eq {p:Nat} (hp:2≤p∧p≤400) {y:I} (hy:SI y) (e:Int):small_Sin (iv y) e (p:Int)=some (iv (st e zI (sinI p y)).1,(st e zI (sinI p y)).2):=by
 unfold small_Sin small_plain_c50f small_series_f1ab cv_Prec
 rw [small_in_eq hp hy (by omega)]
 simp only [obn]
 by_cases h:e=0
 ·subst h
  rw [if_pos rfl,st_zero]
  unfold sinI
  by_cases h1:inI y (box (0))=true
  ·rw [if_pos h1,if_pos h1,if_neg (by simp)]
   rw [pMul hp hy hy]
   simp only [obn]
   rw [terms_eq hp.2]
   simp only [obn]
   have hl:=nSin_loop hp (SI_mS hp.2 y y 0) (p / 2+4) 0 y y (mS p y y 0).2 (by omega) hy hy fuel (by unfold fuel; omega)
   refine Eq.trans (congrArg (fun o=>Option.bind o _) (congrArg (fun o=>Option.bind o _) hl)) ?_
   rfl
  ·rw [if_neg h1,if_neg h1,if_pos (by simp),iv_z]
 ·rw [if_neg h,if_pos (by simp),st_ne h,iv_z]
end Go.Proofs.YtoakhpdeadglpaaGreat.Gen
