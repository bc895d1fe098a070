/- Plain theory of the numbers that the statement speaks of: printed from the proofs' own texts, as far as this statement needs it. -/
import Derived.Test.YtoakhpdeadglpaaGreatChebNodesPl1
set_option linter.unusedVariables false
set_option linter.unusedSimpArgs false
namespace Go.Proofs.YtoakhpdeadglpaaGreat.Gen
open Go Go.Abs Go.Plain
theorem rSin_eq {p:Nat} (hp:2≤p∧p≤400) {y:I} (hy:SI y) (e:Int):r07_Sin (iv y) (p:Int) e=some (iv (st e zI (sinI p y)).1,(st e zI (sinI p y)).2):=by
 unfold r07_Sin
 rw [rfits_eq hy (by omega)]
 simp only [obn]
 by_cases h:e=0
 ·subst h
  rw [if_pos rfl,st_zero]
  unfold sinI
  by_cases h1:inI y (box (0))=true
  ·rw [if_pos h1,if_pos h1,if_neg (by simp)]
   rw [rMulS hp hy hy]
   simp only [obn]
   exact rnSin_loop hp (SI_mS hp.2 y y 0) _ (p / 2+4) 0 y y (mS p y y 0).2 (by omega) hy hy fuel (by unfold fuel; omega)
  ·rw [if_neg h1,if_neg h1,if_pos (by simp),iv_z]
 ·rw [if_neg h,if_pos (by simp),st_ne h,iv_z]
theorem smallCos_eq {p:Nat} (hp:2≤p∧p≤400) {y:I} (hy:SI y) (e:Int):small_Cos (iv y) e (p:Int)=some (iv (st e zI (cosI p y)).1,(st e zI (cosI p y)).2):=by
 unfold small_Cos small_plain_fc4a small_series_7c7a cv_Prec
 rw [small_in_eq hp hy (by omega)]
 simp only [obn]
 by_cases h:e=0
 ·subst h
  rw [if_pos rfl,st_zero]
  unfold cosI
  by_cases h1:inI y (box (0))=true
  ·rw [if_pos h1,if_pos h1,if_neg (by simp)]
   rw [pMul hp hy hy]
   simp only [obn]
   rw [pInt (by omega)]
   simp only [obn]
   rw [iS_e,terms_eq hp.2]
   simp only [obn]
   have hl:=nCos_loop hp (SI_mS hp.2 y y 0) (p / 2+4) 0 (iS 1 (mS p y y 0).2).1 (iS 1 (mS p y y 0).2).1 (mS p y y 0).2 (by omega) (SI_iS (by omega) _) (SI_iS (by omega) _) fuel (by unfold fuel; omega)
   refine Eq.trans (congrArg (fun o=>Option.bind o _) (congrArg (fun o=>Option.bind o _) hl)) ?_
   rfl
  ·rw [if_neg h1,if_neg h1,if_pos (by simp),iv_z]
 ·rw [if_neg h,if_pos (by simp),st_ne h,iv_z]
theorem rCos_eq {p:Nat} (hp:2≤p∧p≤400) {y:I} (hy:SI y) (e:Int):r07_Cos (iv y) (p:Int) e=some (iv (st e zI (cosI p y)).1,(st e zI (cosI p y)).2):=by
 unfold r07_Cos
 rw [rfits_eq hy (by omega)]
 simp only [obn]
 by_cases h:e=0
 ·subst h
  rw [if_pos rfl,st_zero]
  unfold cosI
  by_cases h1:inI y (box (0))=true
  ·rw [if_pos h1,if_pos h1,if_neg (by simp)]
   rw [rMulS hp hy hy]
   simp only [obn]
   rw [rIntS (by omega)]
   simp only [obn]
   rw [rIntS (by omega)]
   simp only [obn]
   rw [iS_e,iS_e]
   exact rnCos_loop hp (SI_mS hp.2 y y 0) _ (p / 2+4) 0 (iS 1 (mS p y y 0).2).1 (iS 1 (mS p y y 0).2).1 (mS p y y 0).2 (by omega) (SI_iS (by omega) _) (SI_iS (by omega) _) fuel (by unfold fuel; omega)
  ·rw [if_neg h1,if_neg h1,if_pos (by simp),iv_z]
 ·rw [if_neg h,if_pos (by simp),st_ne h,iv_z]
theorem smallAtan_eq {p:Nat} (hp:2≤p∧p≤400) {y:I} (hy:SI y) (e:Int):small_Atan (iv y) e (p:Int)=some (iv (st e zI (atanI p y)).1,(st e zI (atanI p y)).2):=by
 unfold small_Atan small_odd_8ed8 small_series_5374 cv_Prec
 rw [small_in_eq hp hy (by omega)]
 simp only [obn]
 by_cases h:e=0
 ·subst h
  rw [if_pos rfl,st_zero]
  unfold atanI
  by_cases h1:inI y (box (-1))=true
  ·rw [if_pos h1,if_pos h1,if_neg (by simp)]
   rw [pMul hp hy hy]
   simp only [obn]
   rw [terms_eq hp.2]
   simp only [obn]
   have hl:=nAtan_loop hp (SI_mS hp.2 y y 0) (p / 2+4) 0 y y (mS p y y 0).2 (by omega) hy hy fuel (by unfold fuel; omega)
   refine Eq.trans (congrArg (fun o=>Option.bind o _) (congrArg (fun o=>Option.bind o _) hl)) ?_
   rfl
  ·rw [if_neg h1,if_neg h1,if_pos (by simp),iv_z]
   rfl
 ·rw [if_neg h,if_pos (by simp),st_ne h,iv_z]
  rfl
theorem rAtan_eq {p:Nat} (hp:2≤p∧p≤400) {y:I} (hy:SI y) (e:Int):r07_Atan (iv y) (p:Int) e=some (iv (st e zI (atanI p y)).1,(st e zI (atanI p y)).2):=by
 unfold r07_Atan
 rw [rfits_eq hy (by omega)]
 simp only [obn]
 by_cases h:e=0
 ·subst h
  rw [if_pos rfl,st_zero]
  unfold atanI
  by_cases h1:inI y (box (-1))=true
  ·rw [if_pos h1,if_pos h1,if_neg (by simp)]
   rw [rMulS hp hy hy]
   simp only [obn]
   exact rnAtan_loop hp (SI_mS hp.2 y y 0) _ (p / 2+4) 0 y y (mS p y y 0).2 (by omega) hy hy fuel (by unfold fuel; omega)
  ·rw [if_neg h1,if_neg h1,if_pos (by simp),iv_z]
 ·rw [if_neg h,if_pos (by simp),st_ne h,iv_z]
theorem SI_sin {p:Nat} (hp:p≤400) {y:I} (hy:SI y):SI (sinI p y).1:=by
 unfold sinI; split
 ·exact SI_fin hp (SI_ser hp _ (fun i t e hi=>nSin_SI hp _ hi t e) _ _ _ _ _ (by omega) hy)
 ·exact SI_z
theorem SI_cos {p:Nat} (hp:p≤400) {y:I} : SI (cosI p y).1:=by
 unfold cosI; split
 ·exact SI_fin hp (SI_ser hp _ (fun i t e hi=>nCos_SI hp _ hi t e) _ _ _ _ _ (by omega) (SI_iS (by omega) _))
 ·exact SI_z
theorem SI_atan {p:Nat} (hp:p≤400) {y:I} (hy:SI y):SI (atanI p y).1:=by
 unfold atanI; split
 ·exact SI_fin hp (SI_ser hp _ (fun i t e hi=>nAtan_SI hp _ hi t e) _ _ _ _ _ (by omega) hy)
 ·exact SI_z
theorem scale_val {x:D} {n:Int} (h:(scaleD x n).2=0):val (scaleD x n).1=val x*p2 n∧blen (scaleD x n).1.m.natAbs≤blen x.m.natAbs:=by
 unfold scaleD at *
 by_cases h0:x.m=0
 ·rw [if_pos h0]; exact ⟨by rw [val_z,val_zero_m h0,Rat.zero_mul],by show blen (0:Int).natAbs≤_; simp [blen]⟩
 ·rw [if_neg h0] at h ⊢
  rw [tell_ok' h]
  exact ⟨val_scale,Nat.le_refl _⟩
theorem SI_scale {a:I} (ha:SI a) (n:Int):SI (scaleI a n).1:=by
 unfold scaleI
 by_cases h1:(scaleD a.lo n).2=0
 ·rw [bindE_ok h1]
  by_cases h2:(scaleD a.hi n).2=0
  ·rw [bindE_ok h2]
   obtain ⟨v1,b1⟩:=scale_val h1
   obtain ⟨v2,b2⟩:=scale_val h2
   have:=ha.lo
   have:=ha.hi
   refine ⟨⟨WD_scale ha.ok.1 n,WD_scale ha.ok.2.1 n,?_⟩,by show blen (scaleD a.lo n).1.m.natAbs≤1000; omega,by show blen (scaleD a.hi n).1.m.natAbs≤1000; omega⟩
   show val (scaleD a.lo n).1≤val (scaleD a.hi n).1
   rw [v1,v2]
   exact Rat.mul_le_mul_of_nonneg_right ha.ok.2.2 (Rat.le_of_lt (p2_pos n))
  ·rw [bindE_no h2]; exact SI_z
 ·rw [bindE_no h1]; exact SI_z
def scS (a:I) (n:Int) (e:Int):I × Int:=st e zI (scaleI a n)
def suS (p:Nat) (a b:I) (e:Int):I × Int:=st e zI (subI p a b)
def atS (p:Nat) (a:I) (e:Int):I × Int:=st e zI (atanI p a)
def recS (p:Nat) (n:Int) (e:Int):I × Int:=dS p (iS 1 e).1 (iS n (iS 1 e).2).1 (iS n (iS 1 e).2).2
def onePi (p:Nat) (n:Int) (e:Int):I × Int:=atS p (recS p n e).1 (recS p n e).2
def piS (p:Nat) (e:Int):I × Int:=
 suS p (scS (onePi p 5 e).1 4 (onePi p 239 (onePi p 5 e).2).2).1 (scS (onePi p 239 (onePi p 5 e).2).1 2 (scS (onePi p 5 e).1 4 (onePi p 239 (onePi p 5 e).2).2).2).1 (scS (onePi p 239 (onePi p 5 e).2).1 2 (scS (onePi p 5 e).1 4 (onePi p 239 (onePi p 5 e).2).2).2).2
theorem SI_rec {p:Nat} (hp:p≤400) {n:Int} (hn : -1000000≤n∧n≤1000000) (e:Int):SI (recS p n e).1:=SI_dS hp _ (SI_iS hn _) _
theorem SI_one {p:Nat} (hp:p≤400) {n:Int} (hn : -1000000≤n∧n≤1000000) (e:Int):SI (onePi p n e).1:=SI_st (SI_atan hp (SI_rec hp hn e)) _
theorem SI_sc {a:I} (ha:SI a) (n e:Int):SI (scS a n e).1:=SI_st (SI_scale ha n) e
theorem SI_pi {p:Nat} (hp:p≤400) (e:Int):SI (piS p e).1:=SI_st (SI_sub (SI_sc (SI_one hp (by omega) _) _ _) (SI_sc (SI_one hp (by omega) _) _ _) hp) _
theorem pScale {a:I} (ha:SI a) {n:Int} (hn : -100000≤n∧n≤100000) (e p:Int):cv_Scale (iv a) n e p=some (iv (scS a n e).1,(scS a n e).2):=ivScale_eq ha.ok hn e p
theorem rScaleS {a:I} (ha:SI a) {n:Int} (hn : -100000≤n∧n≤100000) (e p:Int):r06_CScale (iv a) n p e=some (iv (scS a n e).1,(scS a n e).2):=rivScale_eq ha.ok hn e p
theorem parts_l5 {p:Nat} (hp:2≤p∧p≤400) (e:Int):konst_parts_3d9d 5 4 239 2 e (p:Int)=some ([iv (scS (onePi p 5 e).1 4 (onePi p 239 (onePi p 5 e).2).2).1,iv (scS (onePi p 239 (onePi p 5 e).2).1 2 (scS (onePi p 5 e).1 4 (onePi p 239 (onePi p 5 e).2).2).2).1],(scS (onePi p 239 (onePi p 5 e).2).1 2 (scS (onePi p 5 e).1 4 (onePi p 239 (onePi p 5 e).2).2).2).2):=by
 unfold konst_parts_3d9d
 obtain ⟨f,hf⟩:=fuel_succ
 rw [hf]
 rw [konst_parts_3d9d_l5,if_pos (by omega),if_pos rfl,pInt (by omega)]
 simp only [obn]
 rw [pInt (by omega)]
 simp only [obn]
 rw [pDiv hp (SI_iS (by omega) _) (SI_iS (by omega) _)]
 simp only [obn]
 have h1:small_Atan (iv (recS p 5 e).1) (recS p 5 e).2 (p:Int)=some (iv (onePi p 5 e).1,(onePi p 5 e).2):=smallAtan_eq hp (SI_rec hp.2 (by omega) e) _
 refine Eq.trans (congrArg (fun o=>Option.bind o _) h1) ?_
 simp only [obn]
 rw [if_pos (by simp)]
 unfold konst_parts_3d9d_j6
 rw [if_pos (by simp),show IntKind.i64.wrap (0+1)=1 by decide]
 dsimp only
 rw [konst_parts_3d9d_l5,if_pos (by omega),if_neg (by decide),if_pos rfl,pInt (by omega)]
 simp only [obn]
 rw [pInt (by omega)]
 simp only [obn]
 rw [pDiv hp (SI_iS (by omega) _) (SI_iS (by omega) _)]
 simp only [obn]
 have h2:small_Atan (iv (recS p 239 (onePi p 5 e).2).1) (recS p 239 (onePi p 5 e).2).2 (p:Int)=some (iv (onePi p 239 (onePi p 5 e).2).1,(onePi p 239 (onePi p 5 e).2).2):=smallAtan_eq hp (SI_rec hp.2 (by omega) _) _
 refine Eq.trans (congrArg (fun o=>Option.bind o _) h2) ?_
 simp only [obn]
 rw [if_pos (by simp)]
 unfold konst_parts_3d9d_j6
 rw [if_pos (by simp),show IntKind.i64.wrap (1+1)=2 by decide]
 dsimp only
 rw [konst_parts_3d9d_l5,if_neg (by omega)]
 unfold konst_parts_3d9d_j1
 rw [hf]
 rw [konst_parts_3d9d_l3,if_pos (by omega),if_pos rfl,if_pos (by simp),if_pos (by simp)]
 have k1:=pScale (SI_one hp.2 (n:=5) (by omega) e) (n:=4) (by omega) (onePi p 239 (onePi p 5 e).2).2 (p:Int)
 refine Eq.trans (congrArg (fun o=>Option.bind o _) k1) ?_
 simp only [obn]
 rw [if_pos (by simp)]
 unfold konst_parts_3d9d_j4
 rw [if_pos (by simp),show IntKind.i64.wrap (0+1)=1 by decide]
 dsimp only
 rw [konst_parts_3d9d_l3,if_pos (by omega),if_neg (by decide),if_pos rfl,if_pos (by simp),if_pos (by simp)]
 have k2:=pScale (SI_one hp.2 (n:=239) (by omega) (onePi p 5 e).2) (n:=2) (by omega) (scS (onePi p 5 e).1 4 (onePi p 239 (onePi p 5 e).2).2).2 (p:Int)
 refine Eq.trans (congrArg (fun o=>Option.bind o _) k2) ?_
 simp only [obn]
 rw [if_pos (by simp)]
 unfold konst_parts_3d9d_j4
 rw [if_pos (by simp),show IntKind.i64.wrap (1+1)=2 by decide]
 dsimp only
 rw [konst_parts_3d9d_l3,if_neg (by omega)]
 rfl
theorem Pi_eq {p:Nat} (hp:2≤p∧p≤400) (e:Int):konst_Pi e (p:Int)=some (iv (piS p e).1,(piS p e).2):=by
 unfold konst_Pi
 rw [parts_l5 hp]
 simp only [obn]
 rw [if_pos (by simp),if_pos (by simp)]
 have k:=ivSub_eq (SI_sc (SI_one hp.2 (n:=5) (by omega) e) 4 (onePi p 239 (onePi p 5 e).2).2).ok (SI_sc (SI_one hp.2 (n:=239) (by omega) (onePi p 5 e).2) 2 (scS (onePi p 5 e).1 4 (onePi p 239 (onePi p 5 e).2).2).2).ok hp (scS (onePi p 239 (onePi p 5 e).2).1 2 (scS (onePi p 5 e).1 4 (onePi p 239 (onePi p 5 e).2).2).2).2
 refine Eq.trans (congrArg (fun o=>Option.bind o _) k) ?_
 rfl
theorem rPi_eq {p:Nat} (hp:2≤p∧p≤400) (e:Int):r08_Pi (p:Int) e=some (iv (piS p e).1,(piS p e).2):=by
 have one:∀ (n:Int) (e:Int),-1000000≤n∧n≤1000000→r07_Atan (iv (recS p n e).1) (p:Int) (recS p n e).2=some (iv (onePi p n e).1,(onePi p n e).2):=fun n e hn=>rAtan_eq hp (SI_rec hp.2 hn e) _
 unfold r08_Pi
 rw [rIntS (by omega)]
 simp only [obn]
 rw [rIntS (by omega)]
 simp only [obn]
 rw [rDivS hp (SI_iS (by omega) _) (SI_iS (by omega) _)]
 simp only [obn]
 refine Eq.trans (congrArg (fun o=>Option.bind o _) (one 5 e (by omega))) ?_
 simp only [obn]
 rw [rIntS (by omega)]
 simp only [obn]
 rw [rIntS (by omega)]
 simp only [obn]
 rw [rDivS hp (SI_iS (by omega) _) (SI_iS (by omega) _)]
 simp only [obn]
 refine Eq.trans (congrArg (fun o=>Option.bind o _) (one 239 _ (by omega))) ?_
 simp only [obn]
 rw [rScaleS (SI_one hp.2 (by omega) _) (by omega)]
 simp only [obn]
 rw [rScaleS (SI_one hp.2 (by omega) _) (by omega)]
 simp only [obn]
 have k:=rivSub_eq (SI_sc (SI_one hp.2 (n:=5) (by omega) e) 4 (onePi p 239 (onePi p 5 e).2).2).ok (SI_sc (SI_one hp.2 (n:=239) (by omega) (onePi p 5 e).2) 2 (scS (onePi p 5 e).1 4 (onePi p 239 (onePi p 5 e).2).2).2).ok hp (scS (onePi p 239 (onePi p 5 e).2).1 2 (scS (onePi p 5 e).1 4 (onePi p 239 (onePi p 5 e).2).2).2).2
 refine Eq.trans (congrArg (fun o=>Option.bind o _) k) ?_
 rfl
def fitB (d:D) (p:Int):Bool:=decide (2≤p) && decide (p≤336) && decide (blen d.m.natAbs≤400)
theorem dy_mag (d:D):(dy d).M.Mag=digs d.m.natAbs:=rfl
theorem bits_dy {d:D} (h:SZ d.m.natAbs):nat_Bits (dy d).M.Mag=some ((blen d.m.natAbs:Nat):Int):=by
 rw [dy_mag,nat_Bits_eq (dgd _) (by have:=sz_len h; omega),dvd]
theorem rbits_dy {d:D} (h:SZ d.m.natAbs):r01_Bits (dy d).M.Mag=some ((blen d.m.natAbs:Nat):Int):=by
 rw [dy_mag,rBits_eq (dgd _) (by have:=sz_len h; omega),dvd]
theorem rFits9_eq {d:D} (hd:okD d) (hs:SZ d.m.natAbs) (p:Int):r09_Fits (dy d) p=some (fitB d p):=by
 unfold r09_Fits r09_Fits_j1
 rw [rRight5_dy hd hs]
 simp only [obn]
 rw [if_pos True.intro]
 unfold fitB
 by_cases h1:2≤p
 ·rw [if_pos h1,decide_eq_true h1]
  by_cases h2:p≤336
  ·rw [if_pos h2,rbits_dy hs,decide_eq_true h2]
   simp only [obn]
   congr 1
   simp
   omega
  ·rw [if_neg h2,decide_eq_false h2]; rfl
 ·rw [if_neg h1,decide_eq_false h1]; rfl
def sizeB (d:D):Int × Bool:=if d.m=0 then (0,false) else (d.e+(blen d.m.natAbs:Nat),true)
theorem WD.szE {d:D} (h:WD d) : -1152921504606846976≤d.e∧d.e≤1152921504606846976:=by have:=h.e; omega
theorem dyad_Size_eq {d:D} (h:WD d):dyad_Size (dy d)=some (sizeB d):=by
 unfold dyad_Size dyad_Size_j1
 rw [dyad_Right_dy h.1 h.sz]
 simp only [obn]
 rw [if_neg (by simp),dyad_zero_eq]
 simp only [obn]
 unfold sizeB
 by_cases h0:d.m=0
 ·rw [if_pos (by simpa using h0),if_pos h0]
 ·rw [if_neg (by simpa using h0),if_neg h0,dyad_size_eq h.sz h.szE]; rfl
theorem rSize5_eq {d:D} (h:WD d):r05_Size (dy d)=some (sizeB d):=by
 have hm:=iOf_mag_zero d.m
 unfold r05_Size r05_Size_j1
 rw [rRight5_dy h.1 h.sz]
 simp only [obn]
 rw [if_neg (by simp)]
 unfold sizeB
 have hl:(((dy d).M.Mag.length:Int) == 0)=decide (d.m=0):=by
  have:(dy d).M=iOf d.m:=rfl
  rw [this]
  by_cases h0:d.m=0
  ·rw [decide_eq_true h0]; simpa using hm.2 h0
  ·rw [decide_eq_false h0]
   have:=mt hm.1 h0
   simpa using this
 rw [hl]
 by_cases h0:d.m=0
 ·rw [if_pos (by simpa using h0),if_pos h0]
 ·rw [if_neg (by simpa using h0),if_neg h0]
  unfold r05_size
  rw [rbits_dy h.sz]
  simp only [obn]
  have:=h.e
  have:=h.2
  rw [show (dy d).E=d.e from rfl,w64 (by omega) (by omega)]
def doneS (p:Nat) (r:I × Int):I × Int:=st r.2 zI (outI p r.1)
theorem SI_out {a:I} (ha:SI a) {p:Nat} (hp:p≤400):SI (outI p a).1:=SI_two ha.ok.2.2 hp
theorem SI_done {r:I × Int} (h:SI r.1) {p:Nat} (hp:p≤400):SI (doneS p r).1:=SI_st (SI_out h hp) _
theorem rOut6_eq {a:I} (ha:SI a) {p:Nat} (hp:2≤p∧p≤400):r06_COut (iv a) (p:Int) 0=some (iv (outI p a).1,(outI p a).2):=by
 unfold r06_COut
 rw [rarg_one ha.ok]
 simp only [obn]
 rw [if_neg (by simp),ivLo,ivHi,rroundE_eq ha.ok.1 hp,st_zero]
 simp only [obn]
 unfold outI
 by_cases h1:(roundD a.lo p false).2=0
 ·rw [bindE_ok h1,bindE_ok h1,rroundE_eq ha.ok.2.1 hp,st_zero]
  simp only [obn]
  by_cases h2:(roundD a.hi p true).2=0
  ·rw [bindE_ok h2,bindE_ok h2,routE_eq]; rfl
  ·rw [bindE_no h2,bindE_no h2,routE_eq,if_neg h2]; rfl
 ·rw [bindE_no h1,bindE_no h1,rroundE_eq ha.ok.2.1 hp,st_ne h1]
  simp only [obn]
  rw [routE_eq,if_neg h1]; rfl
theorem rEnds_eq {a:I} (ha:SI a) {p:Nat} (hp:2≤p∧p≤400) (w e:Int):r09_Ends (iv a) (p:Int) w e=some (iv (doneS p (a,e)).1,(doneS p (a,e)).2):=by
 unfold r09_Ends
 by_cases h:e=0
 ·subst h
  rw [if_neg (by simp),rNew6_eq hp]
  simp only [obn]
  refine Eq.trans (congrArg (fun o=>Option.bind o _) (rOut6_eq ha hp)) ?_
  rfl
 ·rw [if_pos h]
  unfold doneS
  rw [st_ne h,iv_z]
theorem SI_pt {d:D} (h:WD d) (hb:blen d.m.natAbs≤1000):SI ⟨d,d⟩:=⟨okI_point h,hb,hb⟩
theorem fitB_p {d:D} {p:Int} (h:fitB d p=true):(∃ q:Nat,p=(q:Int)∧2≤q∧q≤336)∧blen d.m.natAbs≤400:=by
 unfold fitB at h
 simp only [Bool.and_eq_true,decide_eq_true_eq] at h
 exact ⟨⟨p.toNat,by omega,by omega,by omega⟩,h.2⟩
theorem zI_eta:(⟨⟨⟨false,[]⟩,0⟩,⟨⟨false,[]⟩,0⟩⟩:AI)=iv zI:=iv_z.symm
theorem pSub {p:Nat} (hp:2≤p∧p≤400) {a b:I} (ha:SI a) (hb:SI b) (e:Int):cv_Sub (iv a) (iv b) e (p:Int)=some (iv (suS p a b e).1,(suS p a b e).2):=ivSub_eq ha.ok hb.ok hp e
theorem rSubS {p:Nat} (hp:2≤p∧p≤400) {a b:I} (ha:SI a) (hb:SI b) (e:Int):r06_CSub (iv a) (iv b) (p:Int) e=some (iv (suS p a b e).1,(suS p a b e).2):=rivSub_eq ha.ok hb.ok hp e
theorem SI_suS {p:Nat} (hp:p≤400) {a b:I} (ha:SI a) (hb:SI b) (e:Int):SI (suS p a b e).1:=SI_st (SI_sub ha hb hp) e
theorem fl_neg {a k:Nat} (hk:0<k):(-(a:Int)) / (k:Int) = -(((a+(k-1)) / k:Nat):Int):=by
 have h1:=Nat.div_add_mod (a+(k-1)) k
 have h2:=Nat.mod_lt (a+(k-1)) hk
 generalize (a+(k-1)) / k=q at *
 generalize (a+(k-1)) % k=r at *
 have h3:(k:Int)*q+r=a+(k-1):=by
  have:((k*q+r:Nat):Int)=((a+(k-1):Nat):Int):=by rw [h1]
  push_cast at this
  omega
 have e : -(a:Int)=(k-1-r)+k*(-q):=by
  have:(k:Int) * -(q:Int) = -((k:Int)*q):=Int.mul_neg _ _
  omega
 rw [e,Int.add_mul_ediv_left _ _ (by omega),Int.ediv_eq_zero_of_lt (by omega) (by omega)]
 omega
theorem zint_Shift_eq {z:Int} {n:Nat} (h0:0<n) (hn:n≤100000) (hz:blen z.natAbs≤900000):zint_Shift (iOf z) (-(n:Int))=some (iOf (z / 2 ^ n),true):=by
 have hsz:SZ z.natAbs:=by unfold SZ; omega
 have hl:=sz_len hsz
 have hW:IntKind.i64.wrap (0 - -(n:Int))=(n:Int):=by rw [w64 (by omega) (by omega)]; omega
 have hp:0<2 ^ n:=Nat.pow_pos (by decide)
 have hbz:=blen_lt z.natAbs
 have e2:((2:Int) ^ n)=((2 ^ n:Nat):Int):=by push_cast; first | done | rfl
 have hsum:SZ (z.natAbs+(2 ^ n-1)):=by
  have h1:=blen_add z.natAbs (2 ^ n-1)
  have h2:blen (2 ^ n-1)≤n:=blen_le_of (by omega)
  unfold SZ; omega
 unfold zint_Shift zint_Shift_j1
 rw [if_neg (by omega),show decide (-(n:Int)>100000)=false from decide_eq_false (by omega),if_neg (by simp),zint_of_iOf hsz]
 simp only [obn]
 rw [if_neg (by omega)]
 have fin:∀ v:Nat,SZ v→zint_Shift_j2 (-(n:Int)) ⟨⟨digs z.natAbs⟩,decide (z<0)⟩ (digs v)=some (iOf (sg (decide (z<0)) (v / 2 ^ n)),true):=by
  intro v hv
  unfold zint_Shift_j2
  have:=sz_len hv
  rw [hW,nat_Shr_eq (dgd _) (by omega) (by omega),dvd]
  simp only [obn]
  rw [zint_Make_digs _ (sz_le (Nat.div_le_self _ _) hv)]
  rfl
 by_cases hneg:z<0
 ·have h2l:(digs 1).length≤32769:=sz_len (by unfold SZ; decide)
  rw [if_pos (by simpa using hneg),nat_From_eq (by omega) (by omega)]
  simp only [obn]
  rw [hW,show (1:Int).toNat=1 from rfl,nat_Shl_eq (dgd _) (by omega) hn,dvd,Nat.one_mul]
  simp only [obn]
  have hs2:SZ (2 ^ n):=by unfold SZ; rw [blen_pow]; omega
  have h1l:=sz_len hs2
  rw [nat_Sub_eq (dgd _) (dgd _) (by omega) (by omega),dvd,dvd,if_neg (by omega)]
  simp only [obn]
  have h3l:(digs (2 ^ n-1)).length≤32769:=sz_len (sz_le (by omega) hs2)
  rw [nat_Add_eq (dgd _) (dgd _) (by omega) (by omega),dvd,dvd]
  simp only [obn]
  rw [fin _ hsum,decide_eq_true hneg,e2]
  congr 2
  have e3:z = -(z.natAbs:Int):=by omega
  conv=>rhs; rw [e3,fl_neg hp]
  rfl
 ·rw [if_neg (by simpa using hneg),fin _ hsz,decide_eq_false hneg,e2]
  congr 2
  have e3:z=(z.natAbs:Int):=by omega
  conv=>rhs; rw [e3,← Int.natCast_ediv]
  rfl
theorem rShift_eq {z:Int} {n:Nat} (h0:0<n) (hn:n≤100000) (hz:blen z.natAbs≤900000):r04_Shift (iOf z) (-(n:Int))=some (iOf (z / 2 ^ n),true):=by
 have hsz:SZ z.natAbs:=by unfold SZ; omega
 have hl:=sz_len hsz
 have hW:IntKind.i64.wrap (0 - -(n:Int))=(n:Int):=by rw [w64 (by omega) (by omega)]; omega
 have hp:0<2 ^ n:=Nat.pow_pos (by decide)
 have e2:((2:Int) ^ n)=((2 ^ n:Nat):Int):=by push_cast; first | done | rfl
 have hsd:SZ (z.natAbs / 2 ^ n):=sz_le (Nat.div_le_self _ _) hsz
 have hld:=sz_len hsd
 have hMag:(iOf z).Mag=digs z.natAbs:=rfl
 have hNeg:(iOf z).Neg=decide (z<0):=rfl
 unfold r04_Shift r04_Shift_j1
 rw [if_neg (by omega),show decide (-(n:Int)>100000)=false from decide_eq_false (by omega),if_neg (by simp),rMake_iOf hsz]
 simp only [obn]
 rw [if_neg (by omega),hMag,hNeg,hW,rShr_eq (dgd _) (by omega) (by omega),dvd]
 simp only [obn]
 rw [rShl_eq (dgd _) (by omega) hn,dvd]
 simp only [obn]
 have hback:z.natAbs / 2 ^ n*2 ^ n≤z.natAbs:=Nat.div_mul_le_self _ _
 have hsb:SZ (z.natAbs / 2 ^ n*2 ^ n):=sz_le hback hsz
 have hlb:=sz_len hsb
 have fin:∀ v:Nat,SZ v→r04_Shift_j3 (iOf z) (digs v)=some (iOf (sg (decide (z<0)) v),true):=by
  intro v hv
  unfold r04_Shift_j3
  rw [hNeg,rMake_digs _ hv]
  rfl
 unfold r04_Shift_j2
 by_cases hneg:z<0
 ·rw [if_pos (by simpa using hneg),rCmp_eq (dgd _) (dgd _) (by omega) (by omega),dvd,dvd]
  simp only [obn]
  have e3:z = -(z.natAbs:Int):=by omega
  have hdm:=Nat.div_add_mod z.natAbs (2 ^ n)
  have hml:=Nat.mod_lt z.natAbs hp
  rw [decide_eq_true hneg] at fin
  by_cases hm:z.natAbs % 2 ^ n=0
  ·have hz2:z.natAbs / 2 ^ n*2 ^ n=z.natAbs:=by rw [Nat.mul_comm]; omega
   have hcmp:(if z.natAbs / 2 ^ n*2 ^ n<z.natAbs then (-1:Int) else if z.natAbs<z.natAbs / 2 ^ n*2 ^ n then 1 else 0)=0:=by rw [hz2]; simp
   rw [hcmp,if_neg (by simp),fin _ hsd,e2]
   congr 2
   conv=>rhs; rw [e3,fl_neg hp]
   have:(z.natAbs+(2 ^ n-1)) / 2 ^ n=z.natAbs / 2 ^ n:=by
    rw [Nat.div_eq_iff hp]
    constructor
    ·omega
    ·rw [hz2]; omega
   rw [this]; rfl
  ·have hlt:z.natAbs / 2 ^ n*2 ^ n<z.natAbs:=by rw [Nat.mul_comm]; omega
   have hcmp:(if z.natAbs / 2 ^ n*2 ^ n<z.natAbs then (-1:Int) else if z.natAbs<z.natAbs / 2 ^ n*2 ^ n then 1 else 0) = -1:=if_pos hlt
   rw [hcmp,if_pos (by decide)]
   have h1l:([1]:List Int)=digs 1:=(digs_of (l:=[1]) (by intro d hd; have:d=1:=(by simpa using hd); omega) (by simp)).symm
   have h2l:(digs 1).length≤32769:=sz_len (by unfold SZ; decide)
   rw [h1l,rAdd_eq (dgd _) (dgd _) (by omega) (by omega),dvd,dvd]
   simp only [obn]
   have hs1:SZ (z.natAbs / 2 ^ n+1):=by
    refine sz_le (n:=z.natAbs) ?_ hsz
    have h5:z.natAbs / 2 ^ n*2≤z.natAbs / 2 ^ n*2 ^ n:=Nat.mul_le_mul_left _ (by have:=Nat.pow_le_pow_right (n:=2) (by decide) h0; omega)
    omega
   rw [fin _ hs1,e2]
   congr 2
   conv=>rhs; rw [e3,fl_neg hp]
   have:(z.natAbs+(2 ^ n-1)) / 2 ^ n=z.natAbs / 2 ^ n+1:=by
    rw [Nat.div_eq_iff hp,Nat.add_mul,Nat.one_mul]
    constructor
    ·omega
    ·rw [Nat.mul_comm] at hlt ⊢; omega
   rw [this]; rfl
 ·rw [if_neg (by simpa using hneg),if_neg (by simp),fin _ hsd,decide_eq_false hneg,e2]
  congr 2
  have e3:z=(z.natAbs:Int):=by omega
  conv=>rhs; rw [e3,← Int.natCast_ediv]
  rfl
def flD (d:D):Int:=if 0≤d.e then d.m*2 ^ d.e.toNat else d.m / 2 ^ (-d.e).toNat
def floorS (d:D):Int × Int:=if inR d then (flD d,0) else (0,4)
theorem iOf_zero:(⟨false,[]⟩:ApiInt)=iOf 0:=by unfold iOf; simp [digs_zero]
theorem idiv_blen (z:Int) (n:Nat):blen (z / 2 ^ n).natAbs≤blen z.natAbs:=by
 refine blen_mono ?_
 have hp:(0:Int)<2 ^ n:=Int.pow_pos (by decide)
 rcases Int.lt_or_le z 0 with h | h
 ·have h1:z≤z / 2 ^ n:=by
   rw [Int.le_ediv_iff_mul_le hp]
   have h3:=Int.mul_nonpos_of_nonpos_of_nonneg (a:=z) (b:=2 ^ n-1) (by omega) (by omega)
   rw [Int.mul_sub,Int.mul_one] at h3
   omega
  have h2:z / 2 ^ n<0:=Int.ediv_neg_of_neg_of_pos h hp
  omega
 ·have h1:=Int.ediv_le_self (a:=z) (2 ^ n) h
  have h2:=Int.ediv_nonneg h (show (0:Int)≤2 ^ n by omega)
  omega
theorem floor_loop {c:Nat} : ∀ (z:Int) (n:Nat),n≤100000*c→n≤200000→blen z.natAbs≤900000→∀ f,c<f→dyad_Floor_l3 f (n:Int) (iOf z).Neg (iOf z).Mag=some (iOf (z / 2 ^ n),0):=by
 induction c with
 | zero=>
  intro z n hn _ _ f hf
  obtain ⟨f,rfl⟩:∃ g,f=g+1:=⟨f-1,by omega⟩
  have:n=0:=by omega
  subst this
  rw [dyad_Floor_l3,if_neg (by omega)]
  unfold dyad_Floor_j2
  rw [Int.pow_zero,Int.ediv_one]
 | succ c ih=>
  intro z n hn hn2 hz f hf
  obtain ⟨f,rfl⟩:∃ g,f=g+1:=⟨f-1,by omega⟩
  rw [dyad_Floor_l3]
  by_cases h0:n=0
  ·subst h0
   rw [if_neg (by omega)]
   unfold dyad_Floor_j2
   rw [Int.pow_zero,Int.ediv_one]
  ·rw [if_pos (by omega)]
   have eta:(⟨(iOf z).Neg,(iOf z).Mag⟩:ApiInt)=iOf z:=rfl
   have hm:mn (n:Int) 100000=((min n 100000:Nat):Int):=by unfold mn; split<;>omega
   rw [eta,hm,w64 (by omega) (by omega),show 0-((min n 100000:Nat):Int) = -((min n 100000:Nat):Int) by omega,zint_Shift_eq (by omega) (by omega) hz]
   simp only [obn]
   rw [w64 (by omega) (by omega)]
   by_cases h1:n≤100000
   ·rw [show min n 100000=n by omega]
    obtain ⟨f,rfl⟩:∃ g,f=g+1:=⟨f-1,by omega⟩
    rw [dyad_Floor_l3,if_neg (by omega)]
    rfl
   ·rw [show min n 100000=100000 by omega,show (n:Int)-100000=((n-100000:Nat):Int) by omega]
    have h2:=ih (z / 2 ^ 100000) (n-100000) (by omega) (by omega) (Nat.le_trans (idiv_blen z 100000) hz) f (by omega)
    rw [h2,Int.ediv_ediv_of_nonneg (Int.pow_nonneg (by decide)),← Int.pow_add,show 100000+(n-100000)=n by omega]
theorem dyad_Floor_eq {d:D} (hd:WD d):dyad_Floor (dy d)=some (iOf (floorS d).1,(floorS d).2):=by
 have he:=hd.e
 have hb:=hd.2
 unfold dyad_Floor dyad_Floor_j1 floorS
 rw [right_one hd]
 simp only [obn]
 rw [if_neg (by simp),dyad_inRange_eq hd.sz hd.szE]
 simp only [obn,must_eq]
 cases hr:inR d with
 | false=>
  simp only [Bool.false_eq_true,if_false,if_true]
  rw [if_pos (by decide),iOf_zero]
 | true=>
  simp only [if_true]
  rw [if_neg (by decide)]
  unfold flD
  have hE:(dy d).E=d.e:=rfl
  have hM:(dy d).M=iOf d.m:=rfl
  rw [hE,hM]
  by_cases h0:0≤d.e
  ·obtain ⟨n,hn⟩:∃ n:Nat,d.e=(n:Int):=⟨d.e.toNat,by omega⟩
   rw [if_pos (by omega),if_pos h0,hn,Int.toNat_natCast,show (iOf d.m).Mag=digs d.m.natAbs from rfl,dyad_up_eq (by omega)]
   simp only [obn]
   rw [show (iOf d.m).Neg=decide (d.m<0) from rfl,zint_Make_digs _ (by unfold SZ; have:=blen_mul d.m.natAbs (2 ^ n); have:=blen_pow n; omega)]
   simp only [obn]
   congr 3
   rw [Nat.mul_comm,sg_mul,sg_abs,Int.mul_comm]
   push_cast
   rfl
  ·obtain ⟨n,hn⟩:∃ n:Nat,d.e = -(n:Int):=⟨(-d.e).toNat,by omega⟩
   rw [if_neg (by omega),if_neg h0,hn,w64 (by omega) (by omega),show 0 - -(n:Int)=(n:Int) by omega,show (- -(n:Int)).toNat=n by omega]
   exact floor_loop (c:=2) d.m n (by omega) (by omega) (by omega) fuel (by unfold fuel; omega)
theorem rFloor_eq {d:D} (hd:WD d):r05_Floor (dy d)=some (iOf (floorS d).1,(floorS d).2):=by
 have he:=hd.e
 have hb:=hd.2
 unfold r05_Floor r05_Floor_j1 floorS
 rw [rRight5_dy hd.1 hd.sz]
 simp only [obn]
 rw [if_neg (by simp),rinRange_eq hd.sz hd.szE]
 simp only [obn]
 cases hr:inR d with
 | false=>rw [if_pos (by simp),if_neg (by simp),iOf_zero]
 | true=>
  rw [if_neg (by simp),if_pos rfl]
  unfold flD
  have hE:(dy d).E=d.e:=rfl
  have hM:(dy d).M=iOf d.m:=rfl
  rw [hE,hM]
  by_cases h0:0≤d.e
  ·obtain ⟨n,hn⟩:∃ n:Nat,d.e=(n:Int):=⟨d.e.toNat,by omega⟩
   rw [if_pos (by omega),if_pos h0,hn,Int.toNat_natCast,rup_eq (by omega)]
   rfl
  ·obtain ⟨n,hn⟩:∃ n:Nat,d.e = -(n:Int):=⟨(-d.e).toNat,by omega⟩
   have hm:mn (n:Int) 100000=((min n 100000:Nat):Int):=by unfold mn; split<;>omega
   rw [if_neg (by omega),if_neg h0,hn,w64 (x:=0 - -(n:Int)) (by omega) (by omega),show 0 - -(n:Int)=(n:Int) by omega,show (- -(n:Int)).toNat=n by omega,hm,w64 (by omega) (by omega),show 0-((min n 100000:Nat):Int) = -((min n 100000:Nat):Int) by omega,rShift_eq (by omega) (by omega) (by omega)]
   simp only [obn]
   by_cases h1:n≤100000
   ·rw [if_neg (by omega),show min n 100000=n by omega]
   ·rw [if_pos (by omega),show min n 100000=100000 by omega,w64 (by omega) (by omega),show -(n:Int)+((100000:Nat):Int) = -((n-100000:Nat):Int) by omega]
    refine Eq.trans (congrArg (fun o=>Option.bind o _) (rShift_eq (z:=d.m / 2 ^ 100000) (n:=n-100000) (by omega) (by omega) (Nat.le_trans (idiv_blen d.m 100000) (by omega)))) ?_
    simp only [obn]
    rw [Int.ediv_ediv_of_nonneg (Int.pow_nonneg (by decide)),← Int.pow_add,show 100000+(n-100000)=n by omega]
theorem digs_two {n:Nat} (h:(digs n).length≤2):n=((digs n).getD 0 0).toNat+4294967296*((digs n).getD 1 0).toNat:=by
 have h1:=dvd n
 have h2:dval (digs n)=((digs n).getD 0 0).toNat+4294967296*((digs n).getD 1 0).toNat:=by
  rw [show dval (digs n)=dval ((digs n).drop 0) by simp,dval_drop,dval_drop,List.drop_eq_nil_of_le (by omega)]
  simp [dval]
 omega
theorem digs_len_two {n:Nat} : (digs n).length≤2↔n<18446744073709551616:=by
 constructor
 ·intro h
  have h2:=dval_lt (dgd n)
  rw [dvd] at h2
  have h3:4294967296 ^ (digs n).length≤4294967296 ^ 2:=Nat.pow_le_pow_right (by decide) h
  have h4:(4294967296:Nat) ^ 2=18446744073709551616:=by decide
  omega
 ·intro h
  have h4:(4294967296:Nat) ^ 2=18446744073709551616:=by decide
  exact digs_length (k:=2) (by omega)
theorem nat_Small_eq {n:Nat} (hl:(digs n).length≤1099511627776):nat_Small (digs n)=some (if n<18446744073709551616 then ((n:Int),true) else (0,false)):=by
 unfold nat_Small
 rw [nat_trim_eq (dgd _) (by omega),dvd]
 simp only [obn]
 by_cases hn:n<18446744073709551616
 ·have h2:=digs_len_two.2 hn
  have hd:=digs_two h2
  rw [if_pos hn]
  by_cases h0:(digs n).length=0
  ·rw [if_pos (by omega)]
   have:digs n=[]:=List.eq_nil_of_length_eq_zero h0
   rw [this] at hd
   simp at hd
   rw [hd]; rfl
  ·rw [if_neg (by omega)]
   obtain ⟨a,ha,ha2⟩:=digN (dgd n) 0
   obtain ⟨b,hb,hb2⟩:=digN (dgd n) 1
   rw [ha,hb,Int.toNat_natCast,Int.toNat_natCast] at hd
   by_cases h1:(digs n).length=1
   ·rw [if_pos (by omega),if_pos (by omega),kz,ha,u64n (by omega)]
    have:(digs n).getD 1 0=0:=by simp [List.getD,List.getElem?_eq_none (show (digs n).length≤1 by omega)]
    congr 3; omega
   ·have h1b:(digs n).length=2:=by omega
    rw [if_neg (by omega),if_pos (by omega),if_pos (by omega),if_pos (by omega),kz,ha,hb,u64n (by omega),u64n (by omega),shl32n hb2,or64n (by omega) (by omega),or_lo ha2]
    congr 3; omega
 ·have h2:=mt digs_len_two.1 hn
  rw [if_neg hn,if_neg (by omega),if_neg (by omega),if_neg (by omega)]
def smallZ (z:Int):Int × Bool:=if -9223372036854775808≤z∧z≤9223372036854775807 then (z,true) else (0,false)
theorem zint_Small_eq {z:Int} (hz:SZ z.natAbs):zint_Small (iOf z)=some (smallZ z):=by
 have hl:=sz_len hz
 unfold zint_Small
 rw [zint_of_iOf hz]
 simp only [obn]
 rw [nat_Small_eq (by omega)]
 simp only [obn]
 unfold zint_Small_j1 zint_Small_j2 smallZ
 by_cases hn:z.natAbs<18446744073709551616
 ·rw [if_pos hn]
  simp only
  rw [if_pos True.intro]
  by_cases h0:z<0
  ·rw [if_pos (by simpa using h0)]
   by_cases h1:(z.natAbs:Int)≤9223372036854775808
   ·rw [decide_eq_true h1,if_pos rfl,if_pos (by omega)]
    congr 2
    rw [wu64,show (0-(z.natAbs:Int)) % 18446744073709551616=z+18446744073709551616 by omega]
    unfold IntKind.wrap
    simp [IntKind.bits,IntKind.signed]
    omega
   ·rw [decide_eq_false h1,if_neg (by simp),if_pos True.intro,if_neg (by simp [h0]),if_neg (by simp),if_neg (by omega)]
  ·rw [if_neg (by simpa using h0),if_neg (by simp),if_pos True.intro,if_pos (by simpa using h0)]
   by_cases h1:(z.natAbs:Int)<9223372036854775808
   ·rw [decide_eq_true h1,if_pos rfl,if_pos (by omega),w64 (by omega) (by omega)]
    congr 2; omega
   ·rw [decide_eq_false h1,if_neg (by simp),if_neg (by omega)]
 ·rw [if_neg hn]
  simp only
  rw [if_neg (by simp),if_neg (by simp),if_neg (by simp),if_neg (by simp),if_neg (by omega)]
theorem rSmall_eq {z:Int} (hz:SZ z.natAbs):r04_Small (iOf z)=some (smallZ z):=by
 have hl:=sz_len hz
 unfold r04_Small
 rw [rMake_iOf hz]
 simp only [obn]
 have hS:r01_Small (iOf z).Mag=some (if z.natAbs<18446744073709551616 then ((z.natAbs:Int),true) else (0,false)):=by
  unfold r01_Small
  rw [show (iOf z).Mag=digs z.natAbs from rfl,rTrim_digs hz]
  simp only [obn]
  by_cases hn:z.natAbs<18446744073709551616
  ·have h2:=digs_len_two.2 hn
   have hd:=digs_two h2
   obtain ⟨a,ha,ha2⟩:=digN (dgd z.natAbs) 0
   obtain ⟨b,hb,hb2⟩:=digN (dgd z.natAbs) 1
   have r0:=rat_eq (dgd z.natAbs) (i:=0)
   have r1:=rat_eq (dgd z.natAbs) (i:=1)
   rw [show ((0:Nat):Int)=0 from rfl] at r0
   rw [show ((1:Nat):Int)=1 from rfl] at r1
   rw [ha,hb,Int.toNat_natCast,Int.toNat_natCast] at hd
   rw [if_neg (by omega),if_pos hn,r0]
   simp only [obn]
   rw [r1]
   simp only [obn]
   rw [ha,hb,shl32n hb2,or64n (by omega) (by omega),Nat.or_comm,or_lo ha2]
   congr 3; omega
  ·have h2:=mt digs_len_two.1 hn
   rw [if_pos (by omega),if_neg hn]
 rw [hS]
 simp only [obn]
 unfold r04_Small_j1 smallZ
 rw [show (iOf z).Neg=decide (z<0) from rfl]
 by_cases hn:z.natAbs<18446744073709551616
 ·rw [if_pos hn]
  simp only
  rw [if_neg (by simp)]
  by_cases h1:(z.natAbs:Int)>9223372036854775808
  ·rw [if_pos h1,if_pos True.intro,if_neg (by omega)]
  ·rw [if_neg h1]
   by_cases h2:(z.natAbs:Int)=9223372036854775808
   ·rw [if_pos h2]
    by_cases h0:z<0
    ·rw [if_neg (by simpa using h0),if_neg (by simpa using h0),if_pos (by omega),if_pos (by omega)]
     congr 2; omega
    ·rw [if_pos (by simpa using h0),if_neg (by omega)]
   ·rw [if_neg h2,if_neg (by simp)]
    by_cases h0:z<0
    ·rw [if_neg (by simpa using h0),if_neg (by omega),if_pos (by omega),w64 (x:=(z.natAbs:Int)) (by omega) (by omega),w64 (by omega) (by omega)]
     congr 2; omega
    ·rw [if_pos (by simpa using h0),if_pos (by omega),w64 (by omega) (by omega)]
     congr 2; omega
 ·rw [if_neg hn]
  simp only
  rw [if_pos (by simp),if_pos True.intro,if_neg (by omega)]
theorem smallZ_in (z:Int) : -9223372036854775808≤(smallZ z).1∧(smallZ z).1≤9223372036854775807:=by
 unfold smallZ; split
 ·assumption
 ·simp
theorem flD_sz {d:D} (hd:WD d):SZ (flD d).natAbs:=by
 have he:=hd.e
 have hb:=hd.2
 unfold flD SZ
 split
 ·have:=blen_abs_shl d.m d.e.toNat; omega
 ·have:=idiv_blen d.m (-d.e).toNat; omega
theorem floorS_sz {d:D} (hd:WD d):SZ (floorS d).1.natAbs:=by
 unfold floorS; split
 ·exact flD_sz hd
 ·unfold SZ; decide
def pS (d:D) (e:Int):I × Int:=st e zI (⟨d,d⟩,0)
def jS (n:Int) (e:Int):I × Int:=st e zI (intI n,0)
theorem SI_pS {d:D} (h:WD d) (hb:blen d.m.natAbs≤1000) (e:Int):SI (pS d e).1:=SI_st (r:=(⟨d,d⟩,0)) (SI_pt h hb) e
theorem SI_jS {n:Int} (hn : -9223372036854775808≤n∧n≤9223372036854775807) (e:Int):SI (jS n e).1:=SI_st (r:=(intI n,0)) (SI_int hn) e
def tuH (w:Nat):I × Int:=scS (piS w 0).1 (-1) (piS w 0).2
def tuQ (d:D) (w:Nat) (h:I × Int):I × Int:=
 let x:=pS d h.2
 let q:=dS w x.1 h.1 x.2
 let f:=pS ⟨1,-1⟩ q.2
 aS w q.1 f.1 f.2
def tuR (d:D) (w:Nat) (h:I × Int) (k e:Int):I × Int:=
 let x:=pS d e
 let i:=jS k x.2
 let m:=mS w i.1 h.1 i.2
 suS w x.1 m.1 m.2
def turnsT (q:I × Int) (r:Int→I × Int):Int × I × Int:=
 if q.2≠0 then (0,zI,q.2) else
 if (floorS q.1.lo).2≠0∨(smallZ (floorS q.1.lo).1).2=false then (0,zI,4) else
 if (r (smallZ (floorS q.1.lo).1).1).2≠0 then (0,zI,(r (smallZ (floorS q.1.lo).1).1).2) else ((smallZ (floorS q.1.lo).1).1,(r (smallZ (floorS q.1.lo).1).1).1,0)
def turnsH (d:D) (w:Nat) (h:I × Int):Int × I × Int:=turnsT (tuQ d w h) fun k=>tuR d w h k (tuQ d w h).2
def turnsS (d:D) (p:Nat):Int × I × Int:=
 if d.m≠0∧11<d.e+(blen d.m.natAbs:Nat) then (0,zI,4) else turnsH d (p+32) (tuH (p+32))
def turnsR (d:D) (p:Int):Int × I × Int:=if fitB d p then turnsS d p.toNat else (0,zI,1)
theorem tfits_eq {d:D} (hd:okD d) (hs:SZ d.m.natAbs) (p:Int):trig_fits (dy d) p=some (fitB d p):=by
 unfold trig_fits trig_fits_j1 fitB
 by_cases h1:2≤p
 ·rw [if_pos (by omega),decide_eq_true h1]
  by_cases h2:p≤336
  ·rw [if_pos h2,decide_eq_true h2,dyad_Right_dy hd hs]
   simp only [obn]
   rw [if_pos True.intro,bits_dy hs]
   simp only [obn]
   congr 1
   simp
   omega
  ·rw [if_neg h2,decide_eq_false h2]; rfl
 ·rw [if_neg (by omega),decide_eq_false h1]; rfl
theorem SI_tuH {w:Nat} (hw:w≤400):SI (tuH w).1:=SI_sc (SI_pi hw 0) _ _
theorem WD_h1:WD ⟨1,-1⟩:=WD_half (by omega)
theorem SI_tuQ {d:D} {w:Nat} (hw:w≤400) {h:I × Int} (hh:SI h.1):SI (tuQ d w h).1:=SI_aS hw (SI_dS hw _ hh _) (SI_pS WD_h1 (by decide) _) _
theorem SI_tuR {d:D} (hd:WD d) (hb:blen d.m.natAbs≤1000) {w:Nat} (hw:w≤400) (h:I × Int) (k e:Int):SI (tuR d w h k e).1:=SI_suS hw (SI_pS hd hb _) (SI_mS hw _ _ _) _
theorem SI_turnsT {q:I × Int} {r:Int→I × Int} (h:∀ k,SI (r k).1):SI (turnsT q r).2.1:=by
 unfold turnsT
 split
 ·exact SI_z
 ·split
  ·exact SI_z
  ·split
   ·exact SI_z
   ·exact h _
theorem SI_turnsS {d:D} (hd:WD d) (hb:blen d.m.natAbs≤1000) {p:Nat} (hp:p≤336):SI (turnsS d p).2.1:=by
 unfold turnsS turnsH
 split
 ·exact SI_z
 ·exact SI_turnsT fun k=>SI_tuR hd hb (by omega) _ _ _
theorem pPS {d:D} (h:WD d) (e p:Int):cv_Point (dy d) e p=some (iv (pS d e).1,(pS d e).2):=ivPoint_eq h e p
theorem pJS {n:Int} (hn : -9223372036854775808≤n∧n≤9223372036854775807) (e p:Int):cv_Int n e p=some (iv (jS n e).1,(jS n e).2):=ivInt_eq hn e p
theorem rPS {d:D} (h:WD d) (e p:Int):r06_CPoint (dy d) p e=some (iv (pS d e).1,(pS d e).2):=rivPoint_eq h e p
theorem rJS {n:Int} (hn : -9223372036854775808≤n∧n≤9223372036854775807) (e p:Int):r06_CInt n p e=some (iv (jS n e).1,(jS n e).2):=rivInt_eq hn e p
theorem turns_h {d:D} (hd:WD d) (hb:blen d.m.natAbs≤400) {w:Nat} (hw:2≤w∧w≤400) {h:I × Int} (hh:SI h.1) {s:Int × Bool} (hs : -9223372036854775808≤s.1∧s.1≤9223372036854775807) (q:I × Int):trig_Turns_j2 (dy d) (iv q.1,q.2) (0,0,(w:Int)) s (iv h.1,h.2) false=some ((if (tuR d w h s.1 q.2).2≠0 then (0,zI,(tuR d w h s.1 q.2).2) else (s.1,(tuR d w h s.1 q.2).1,0)).1,iv (if (tuR d w h s.1 q.2).2≠0 then ((0:Int),zI,(tuR d w h s.1 q.2).2) else (s.1,(tuR d w h s.1 q.2).1,0)).2.1,(if (tuR d w h s.1 q.2).2≠0 then ((0:Int),zI,(tuR d w h s.1 q.2).2) else (s.1,(tuR d w h s.1 q.2).1,0)).2.2):=by
 have hf2:suS w (pS d q.2).1 (mS w (jS s.1 (pS d q.2).2).1 h.1 (jS s.1 (pS d q.2).2).2).1 (mS w (jS s.1 (pS d q.2).2).1 h.1 (jS s.1 (pS d q.2).2).2).2=tuR d w h s.1 q.2:=rfl
 have s1:=SI_pS hd (show blen d.m.natAbs≤1000 by omega) q.2
 have s2:=SI_jS hs (pS d q.2).2
 have s3:=SI_mS hw.2 (jS s.1 (pS d q.2).2).1 h.1 (jS s.1 (pS d q.2).2).2
 have e1:=pPS hd q.2 (w:Int)
 have e2:=pJS hs (pS d q.2).2 (w:Int)
 have e3:=pMul hw s2 hh (jS s.1 (pS d q.2).2).2
 have e4:=pSub hw s1 s3 (mS w (jS s.1 (pS d q.2).2).1 h.1 (jS s.1 (pS d q.2).2).2).2
 rw [hf2] at e4
 generalize tuR d w h s.1 q.2=r at *
 generalize pS d q.2=x at *
 generalize jS s.1 x.2=i at *
 generalize mS w i.1 h.1 i.2=m at *
 unfold trig_Turns_j2
 rw [if_neg (by simp)]
 refine Eq.trans (congrArg (fun o=>Option.bind o _) e1) ?_
 simp only [obn]
 refine Eq.trans (congrArg (fun o=>Option.bind o _) e2) ?_
 simp only [obn]
 refine Eq.trans (congrArg (fun o=>Option.bind o _) e3) ?_
 simp only [obn]
 refine Eq.trans (congrArg (fun o=>Option.bind o _) e4) ?_
 simp only [obn]
 unfold iv_trouble_Err
 simp only [obn]
 by_cases h2:r.2=0
 ·rw [if_neg (by simp [h2]),if_neg (by simp [h2])]
 ·rw [if_pos h2,if_pos h2,zI_eta]
theorem turns_t (d:D) {w:Nat} (h:I × Int) (s:Int × Bool) (q:I × Int):trig_Turns_j2 (dy d) (iv q.1,q.2) (0,0,(w:Int)) s (iv h.1,h.2) true=some (0,iv zI,4):=by
 unfold trig_Turns_j2
 rw [if_pos rfl,zI_eta]
theorem turns_j1 {d:D} (hd:WD d) (hb:blen d.m.natAbs≤400) {p:Nat} (hp:2≤p∧p≤336):trig_Turns_j1 (p:Int) (dy d) false=some ((turnsH d (p+32) (tuH (p+32))).1,iv (turnsH d (p+32) (tuH (p+32))).2.1,(turnsH d (p+32) (tuH (p+32))).2.2):=by
 have hw:2≤p+32∧p+32≤400:=by omega
 have e0:=Pi_eq hw 0
 have e1:=pScale (SI_pi hw.2 0) (n:=-1) (by omega) (piS (p+32) 0).2 ((p+32:Nat):Int)
 have hh:scS (piS (p+32) 0).1 (-1) (piS (p+32) 0).2=tuH (p+32):=rfl
 have s0:=SI_tuH hw.2
 rw [hh] at e1
 generalize tuH (p+32)=h at *
 generalize piS (p+32) 0=g at *
 unfold trig_Turns_j1
 rw [if_neg (by simp),w64 (by omega) (by omega),show (p:Int)+32=((p+32:Nat):Int) by omega,ivNew_eq hw]
 simp only [obn]
 rw [e0]
 simp only [obn]
 refine Eq.trans (congrArg (fun o=>Option.bind o _) e1) ?_
 simp only [obn]
 generalize p+32=w at *
 clear e0 e1 hh
 have hf:aS w (dS w (pS d h.2).1 h.1 (pS d h.2).2).1 (pS ⟨1,-1⟩ (dS w (pS d h.2).1 h.1 (pS d h.2).2).2).1 (pS ⟨1,-1⟩ (dS w (pS d h.2).1 h.1 (pS d h.2).2).2).2=tuQ d w h:=rfl
 have s1:=SI_pS hd (show blen d.m.natAbs≤1000 by omega) h.2
 have s2:=SI_dS hw.2 (pS d h.2).1 s0 (pS d h.2).2
 have s3:=SI_pS WD_h1 (by decide) (dS w (pS d h.2).1 h.1 (pS d h.2).2).2
 have f1:=pPS hd h.2 (w:Int)
 have f2:=pDiv hw s1 s0 (pS d h.2).2
 have f3:=pPS WD_h1 (dS w (pS d h.2).1 h.1 (pS d h.2).2).2 (w:Int)
 have f4:=pAdd hw s2 s3 (pS ⟨1,-1⟩ (dS w (pS d h.2).1 h.1 (pS d h.2).2).2).2
 have sq:=SI_tuQ (d:=d) hw.2 s0
 rw [hf] at f4
 unfold turnsH
 have kh:=fun {s:Int × Bool} hs=>turns_h hd hb hw s0 (s:=s) hs (tuQ d w h)
 have kt:=fun s=>turns_t d (w:=w) h s (tuQ d w h)
 generalize tuQ d w h=q at *
 generalize pS d h.2=x at *
 generalize dS w x.1 h.1 x.2=y at *
 generalize pS ⟨1,-1⟩ y.2=z at *
 refine Eq.trans (congrArg (fun o=>Option.bind o _) f1) ?_
 simp only [obn]
 refine Eq.trans (congrArg (fun o=>Option.bind o _) f2) ?_
 simp only [obn]
 rw [dyad_Half_eq (by omega)]
 simp only [obn]
 refine Eq.trans (congrArg (fun o=>Option.bind o _) f3) ?_
 simp only [obn]
 refine Eq.trans (congrArg (fun o=>Option.bind o _) f4) ?_
 simp only [obn]
 unfold iv_trouble_Err
 simp only [obn]
 unfold turnsT
 by_cases h1:q.2=0
 ·rw [if_neg (by simp [h1]),if_neg (by simp [h1]),ivLo]
  have g1:=dyad_Floor_eq sq.ok.1
  have g2:=zint_Small_eq (floorS_sz sq.ok.1)
  have hk:=smallZ_in (floorS q.1.lo).1
  generalize floorS q.1.lo=f at *
  refine Eq.trans (congrArg (fun o=>Option.bind o _) g1) ?_
  simp only [obn]
  refine Eq.trans (congrArg (fun o=>Option.bind o _) g2) ?_
  simp only [obn]
  generalize smallZ f.1=s at *
  by_cases h2:f.2=0
  ·rw [if_neg (by simp [h2])]
   by_cases h3:s.2=false
   ·rw [if_pos (Or.inr h3),h3,show (!false)=true from rfl,kt]
   ·have h3':s.2=true:=by simpa using h3
    rw [if_neg (by simp [h2,h3']),h3',show (!true)=false from rfl,kh hk]
  ·rw [if_pos h2,if_pos (Or.inl h2),kt]
 ·rw [if_pos h1,if_pos h1,zI_eta]
theorem rturns_h {d:D} (hd:WD d) (hb:blen d.m.natAbs≤400) {w:Nat} (hw:2≤w∧w≤400) {h:I × Int} (hh:SI h.1) {s:Int × Bool} (hs : -9223372036854775808≤s.1∧s.1≤9223372036854775807) (q:I × Int):r10_Turns_j2 (dy d) ((w:Int),0) (iv q.1,q.2) s (iv h.1,h.2) false=some ((if (tuR d w h s.1 q.2).2≠0 then (0,zI,(tuR d w h s.1 q.2).2) else (s.1,(tuR d w h s.1 q.2).1,0)).1,iv (if (tuR d w h s.1 q.2).2≠0 then ((0:Int),zI,(tuR d w h s.1 q.2).2) else (s.1,(tuR d w h s.1 q.2).1,0)).2.1,(if (tuR d w h s.1 q.2).2≠0 then ((0:Int),zI,(tuR d w h s.1 q.2).2) else (s.1,(tuR d w h s.1 q.2).1,0)).2.2):=by
 have hf2:suS w (pS d q.2).1 (mS w (jS s.1 (pS d q.2).2).1 h.1 (jS s.1 (pS d q.2).2).2).1 (mS w (jS s.1 (pS d q.2).2).1 h.1 (jS s.1 (pS d q.2).2).2).2=tuR d w h s.1 q.2:=rfl
 have s1:=SI_pS hd (show blen d.m.natAbs≤1000 by omega) q.2
 have s2:=SI_jS hs (pS d q.2).2
 have s3:=SI_mS hw.2 (jS s.1 (pS d q.2).2).1 h.1 (jS s.1 (pS d q.2).2).2
 have e1:=rPS hd q.2 (w:Int)
 have e2:=rJS hs (pS d q.2).2 (w:Int)
 have e3:=rMulS hw s2 hh (jS s.1 (pS d q.2).2).2
 have e4:=rSubS hw s1 s3 (mS w (jS s.1 (pS d q.2).2).1 h.1 (jS s.1 (pS d q.2).2).2).2
 rw [hf2] at e4
 generalize tuR d w h s.1 q.2=r at *
 generalize pS d q.2=x at *
 generalize jS s.1 x.2=i at *
 generalize mS w i.1 h.1 i.2=m at *
 unfold r10_Turns_j2
 rw [if_neg (by simp)]
 refine Eq.trans (congrArg (fun o=>Option.bind o _) e1) ?_
 simp only [obn]
 refine Eq.trans (congrArg (fun o=>Option.bind o _) e2) ?_
 simp only [obn]
 refine Eq.trans (congrArg (fun o=>Option.bind o _) e3) ?_
 simp only [obn]
 refine Eq.trans (congrArg (fun o=>Option.bind o _) e4) ?_
 simp only [obn]
 by_cases h2:r.2=0
 ·rw [if_neg (by simp [h2]),if_neg (by simp [h2])]
 ·rw [if_pos h2,if_pos h2,zI_eta]
theorem rturns_t (d:D) {w:Nat} (h:I × Int) (s:Int × Bool) (q:I × Int):r10_Turns_j2 (dy d) ((w:Int),0) (iv q.1,q.2) s (iv h.1,h.2) true=some (0,iv zI,4):=by
 unfold r10_Turns_j2
 rw [if_pos rfl,zI_eta]
theorem rturns_j1 {d:D} (hd:WD d) (hb:blen d.m.natAbs≤400) {p:Nat} (hp:2≤p∧p≤336):r10_Turns_j1 (p:Int) (dy d) false=some ((turnsH d (p+32) (tuH (p+32))).1,iv (turnsH d (p+32) (tuH (p+32))).2.1,(turnsH d (p+32) (tuH (p+32))).2.2):=by
 have hw:2≤p+32∧p+32≤400:=by omega
 have e0:=rPi_eq hw 0
 have e1:=rScaleS (SI_pi hw.2 0) (n:=-1) (by omega) (piS (p+32) 0).2 ((p+32:Nat):Int)
 have hh:scS (piS (p+32) 0).1 (-1) (piS (p+32) 0).2=tuH (p+32):=rfl
 have s0:=SI_tuH hw.2
 rw [hh] at e1
 generalize tuH (p+32)=h at *
 generalize piS (p+32) 0=g at *
 unfold r10_Turns_j1
 rw [if_neg (by simp),w64 (by omega) (by omega),show (p:Int)+32=((p+32:Nat):Int) by omega,rNew6_eq hw]
 simp only [obn]
 rw [e0]
 simp only [obn]
 refine Eq.trans (congrArg (fun o=>Option.bind o _) e1) ?_
 simp only [obn]
 generalize p+32=w at *
 clear e0 e1 hh
 have hf:aS w (dS w (pS d h.2).1 h.1 (pS d h.2).2).1 (pS ⟨1,-1⟩ (dS w (pS d h.2).1 h.1 (pS d h.2).2).2).1 (pS ⟨1,-1⟩ (dS w (pS d h.2).1 h.1 (pS d h.2).2).2).2=tuQ d w h:=rfl
 have s1:=SI_pS hd (show blen d.m.natAbs≤1000 by omega) h.2
 have s2:=SI_dS hw.2 (pS d h.2).1 s0 (pS d h.2).2
 have s3:=SI_pS WD_h1 (by decide) (dS w (pS d h.2).1 h.1 (pS d h.2).2).2
 have f1:=rPS hd h.2 (w:Int)
 have f2:=rDivS hw s1 s0 (pS d h.2).2
 have f3:=rPS WD_h1 (dS w (pS d h.2).1 h.1 (pS d h.2).2).2 (w:Int)
 have f4:=rAddS hw s2 s3 (pS ⟨1,-1⟩ (dS w (pS d h.2).1 h.1 (pS d h.2).2).2).2
 have sq:=SI_tuQ (d:=d) hw.2 s0
 rw [hf] at f4
 unfold turnsH
 have kh:=fun {s:Int × Bool} hs=>rturns_h hd hb hw s0 (s:=s) hs (tuQ d w h)
 have kt:=fun s=>rturns_t d (w:=w) h s (tuQ d w h)
 generalize tuQ d w h=q at *
 generalize pS d h.2=x at *
 generalize dS w x.1 h.1 x.2=y at *
 generalize pS ⟨1,-1⟩ y.2=z at *
 refine Eq.trans (congrArg (fun o=>Option.bind o _) f1) ?_
 simp only [obn]
 refine Eq.trans (congrArg (fun o=>Option.bind o _) f2) ?_
 simp only [obn]
 rw [rHalf_eq (by omega)]
 simp only [obn]
 refine Eq.trans (congrArg (fun o=>Option.bind o _) f3) ?_
 simp only [obn]
 refine Eq.trans (congrArg (fun o=>Option.bind o _) f4) ?_
 simp only [obn]
 unfold turnsT
 by_cases h1:q.2=0
 ·rw [if_neg (by simp [h1]),if_neg (by simp [h1]),ivLo]
  have g1:=rFloor_eq sq.ok.1
  have g2:=rSmall_eq (floorS_sz sq.ok.1)
  have hk:=smallZ_in (floorS q.1.lo).1
  generalize floorS q.1.lo=f at *
  refine Eq.trans (congrArg (fun o=>Option.bind o _) g1) ?_
  simp only [obn]
  refine Eq.trans (congrArg (fun o=>Option.bind o _) g2) ?_
  simp only [obn]
  generalize smallZ f.1=s at *
  by_cases h2:f.2=0
  ·rw [if_neg (by simp [h2])]
   by_cases h3:s.2=false
   ·rw [if_pos (Or.inr h3),h3,show (!false)=true from rfl,kt]
   ·have h3':s.2=true:=by simpa using h3
    rw [if_neg (by simp [h2,h3']),h3',show (!true)=false from rfl,kh hk]
  ·rw [if_pos h2,if_pos (Or.inl h2),kt]
 ·rw [if_pos h1,if_pos h1,zI_eta]
theorem Turns_eq {d:D} (hd:WD d) (p:Int):trig_Turns (dy d) p=some ((turnsR d p).1,iv (turnsR d p).2.1,(turnsR d p).2.2):=by
 unfold trig_Turns turnsR
 rw [tfits_eq hd.1 hd.sz]
 simp only [obn]
 cases hf:fitB d p with
 | false=>rw [if_pos (by simp),if_neg (by simp),zI_eta]
 | true=>
  obtain ⟨⟨q,rfl,hq⟩,hb⟩:=fitB_p hf
  rw [if_neg (by simp),if_pos rfl,Int.toNat_natCast,dyad_Size_eq hd]
  simp only [obn]
  unfold sizeB
  by_cases h0:d.m=0
  ·rw [if_pos h0,if_neg (by simp)]
   unfold turnsS; rw [if_neg (by simp [h0])]; exact turns_j1 hd hb hq
  ·rw [if_neg h0,if_pos rfl]
   by_cases h11:11<d.e+(blen d.m.natAbs:Nat)
   ·rw [show decide (d.e+(blen d.m.natAbs:Nat)>11)=true from decide_eq_true h11]
    unfold trig_Turns_j1 turnsS
    rw [if_pos rfl,if_pos ⟨h0,h11⟩,zI_eta]
   ·rw [show decide (d.e+(blen d.m.natAbs:Nat)>11)=false from decide_eq_false h11]
    unfold turnsS; rw [if_neg (by simp [h11])]; exact turns_j1 hd hb hq
theorem rTurns_eq {d:D} (hd:WD d) (p:Int):r10_Turns (dy d) p=some ((turnsR d p).1,iv (turnsR d p).2.1,(turnsR d p).2.2):=by
 unfold r10_Turns turnsR
 rw [rFits9_eq hd.1 hd.sz]
 simp only [obn]
 cases hf:fitB d p with
 | false=>rw [if_pos (by simp),if_neg (by simp),zI_eta]
 | true=>
  obtain ⟨⟨q,rfl,hq⟩,hb⟩:=fitB_p hf
  rw [if_neg (by simp),if_pos rfl,Int.toNat_natCast,rSize5_eq hd]
  simp only [obn]
  unfold sizeB
  by_cases h0:d.m=0
  ·rw [if_pos h0,if_neg (by simp)]
   unfold turnsS; rw [if_neg (by simp [h0])]; exact rturns_j1 hd hb hq
  ·rw [if_neg h0,if_pos rfl]
   by_cases h11:11<d.e+(blen d.m.natAbs:Nat)
   ·rw [show decide (d.e+(blen d.m.natAbs:Nat)>11)=true from decide_eq_true h11]
    unfold r10_Turns_j1 turnsS
    rw [if_pos rfl,if_pos ⟨h0,h11⟩,zI_eta]
   ·rw [show decide (d.e+(blen d.m.natAbs:Nat)>11)=false from decide_eq_false h11]
    unfold turnsS; rw [if_neg (by simp [h11])]; exact rturns_j1 hd hb hq
theorem SI_turnsR {d:D} (hd:WD d) {p:Int} : SI (turnsR d p).2.1:=by
 unfold turnsR
 split
 ·rename_i h
  obtain ⟨⟨q,rfl,hq⟩,hb⟩:=fitB_p h
  rw [Int.toNat_natCast]; exact SI_turnsS hd (by omega) hq.2
 ·exact SI_z
theorem and_two64 (z:Int):andI .i64 z 2=2*(z / 2 % 2):=by
 unfold andI
 have e:(BitVec.ofInt IntKind.i64.bits z &&& BitVec.ofInt IntKind.i64.bits 2).toNat=(2*(z / 2 % 2)).toNat:=by
  show (BitVec.ofInt 64 z &&& BitVec.ofInt 64 2).toNat=_
  rw [BitVec.toNat_and,BitVec.toNat_ofInt]
  have:(BitVec.ofInt 64 2).toNat=2 ^ 1:=by decide
  rw [this,and_pow,Nat.testBit_eq_decide_div_mod_eq]
  have h2:((2 ^ 64:Nat):Int)=18446744073709551616:=by decide
  rw [h2]
  by_cases h:(z % 18446744073709551616).toNat / 2 % 2=1
  ·rw [show (z % 18446744073709551616).toNat / 2 ^ 1 % 2=1 from h,decide_eq_true rfl,if_pos rfl]
   omega
  ·rw [show (2:Nat) ^ 1=2 from rfl,decide_eq_false h,if_neg (by simp)]
   omega
 rw [e,w64 (by omega) (by omega)]
 omega
theorem shr_one64 (z:Int):shrI .i64 z 1=z / 2:=by
 unfold shrI
 rw [show min (1:Int).toNat IntKind.i64.bits=1 by decide,Int.fdiv_eq_ediv_of_nonneg _ (by decide)]
 rfl
def quS (k:Int) (y:I) (p:Nat):I × Int:=
 let a:=if k % 2=0 then st 0 zI (sinI (p+32) y) else st 0 zI (cosI (p+32) y)
 if k / 2 % 2=0 then doneS p a else doneS p (nS a.1 a.2)
theorem SI_quA (k:Int) {y:I} (hy:SI y) {w:Nat} (hw:w≤400):SI (if k % 2=0 then st 0 zI (sinI w y) else st 0 zI (cosI w y)).1:=by
 split
 ·exact SI_st (SI_sin hw hy) 0
 ·exact SI_st (SI_cos hw) 0
theorem SI_quS {k:Int} {y:I} (hy:SI y) {p:Nat} (hp:p≤336):SI (quS k y p).1:=by
 have h:=SI_quA k hy (w:=p+32) (by omega)
 unfold quS
 simp only
 split
 ·exact SI_done h (by omega)
 ·exact SI_done (SI_nS h _) (by omega)
theorem tdone_eq {a:I} (ha:SI a) {p:Nat} (hp:2≤p∧p≤400) (e w:Int):trig_done (iv a) (p:Int) e w=some (iv (doneS p (a,e)).1,(doneS p (a,e)).2):=by
 unfold trig_done iv_trouble_Err
 simp only [obn]
 by_cases h:e=0
 ·subst h
  rw [if_neg (by simp),ivNew_eq hp]
  simp only [obn]
  have:=ivOut_eq ha.ok hp 0
  refine Eq.trans (congrArg (fun o=>Option.bind o _) this) ?_
  rfl
 ·rw [if_pos h]
  unfold doneS
  rw [st_ne h,iv_z]
theorem one_a (k:Int):trig_one_func_c_iv_Calc_y_api_Iv_api_Iv_69d9 k=some (if k % 2=0 then Sum.inl () else Sum.inr ()):=by
 unfold trig_one_func_c_iv_Calc_y_api_Iv_api_Iv_69d9
 rw [and_one64]
 by_cases h:k % 2=0
 ·rw [if_pos h,if_pos h]
 ·rw [if_neg h,if_pos (by omega),if_neg h]
theorem one_b (k a b:Int):trig_one_func_a_api_Iv_api_Iv_4a04 k a b=some (if k % 2=0 then Sum.inl () else Sum.inr ()):=by
 unfold trig_one_func_a_api_Iv_api_Iv_4a04
 rw [and_one64]
 by_cases h:k % 2=0
 ·rw [if_pos h,if_pos h]
 ·rw [if_neg h,if_pos (by omega),if_neg h]
theorem quarter_of {x:AD} {k:Int} {y:I} (hy:SI y) {p:Nat} (hp:2≤p∧p≤336) (e:trig_Turns x (p:Int)=some (k,iv y,0)) (m:Int):trig_quarter x (p:Int) m=some (iv (quS (IntKind.i64.wrap (k+m)) y p).1,(quS (IntKind.i64.wrap (k+m)) y p).2):=by
 have hw:2≤p+32∧p+32≤400:=by omega
 have h1:=smallSin_eq hw hy 0
 have h2:=smallCos_eq hw hy 0
 have g1:=SI_st (SI_sin hw.2 hy) 0
 have g2:=SI_st (SI_cos (y:=y) hw.2) 0
 unfold trig_quarter
 rw [e]
 simp only [obn]
 rw [if_neg (by simp),w64 (x:=(p:Int)+32) (by omega) (by omega),show (p:Int)+32=((p+32:Nat):Int) by omega,ivNew_eq hw]
 simp only [obn]
 rw [one_a]
 simp only [obn]
 unfold quS
 simp only
 generalize IntKind.i64.wrap (k+m)=z
 by_cases h0:z % 2=0
 ·rw [if_pos h0,if_pos h0]
  simp only
  refine Eq.trans (congrArg (fun o=>Option.bind o _) h1) ?_
  generalize st 0 zI (sinI (p+32) y)=a at *
  simp only [obn]
  rw [one_b,shr_one64]
  simp only [obn]
  by_cases h3:z / 2 % 2=0
  ·rw [if_pos h3,if_pos h3]
   simp only
   unfold trig_quarter_1
   simp only [obn]
   refine Eq.trans (congrArg (fun o=>Option.bind o _) (tdone_eq g1 (by omega) _ _)) ?_
   rfl
  ·rw [if_neg h3,if_neg h3]
   simp only
   refine Eq.trans (congrArg (fun o=>Option.bind o _) (pNeg g1 _ _)) ?_
   simp only [obn]
   refine Eq.trans (congrArg (fun o=>Option.bind o _) (tdone_eq (SI_nS g1 _) (by omega) _ _)) ?_
   rfl
 ·rw [if_neg h0,if_neg h0]
  simp only
  refine Eq.trans (congrArg (fun o=>Option.bind o _) h2) ?_
  generalize st 0 zI (cosI (p+32) y)=a at *
  simp only [obn]
  rw [one_b,shr_one64]
  simp only [obn]
  by_cases h3:z / 2 % 2=0
  ·rw [if_pos h3,if_pos h3]
   simp only
   unfold trig_quarter_1
   simp only [obn]
   refine Eq.trans (congrArg (fun o=>Option.bind o _) (tdone_eq g2 (by omega) _ _)) ?_
   rfl
  ·rw [if_neg h3,if_neg h3]
   simp only
   refine Eq.trans (congrArg (fun o=>Option.bind o _) (pNeg g2 _ _)) ?_
   simp only [obn]
   refine Eq.trans (congrArg (fun o=>Option.bind o _) (tdone_eq (SI_nS g2 _) (by omega) _ _)) ?_
   rfl
theorem rquarter_eq {k:Int} {y:I} (hy:SI y) {p:Nat} (hp:2≤p∧p≤336):r10_quarter k (iv y) (p:Int)=some (iv (quS k y p).1,(quS k y p).2):=by
 have hw:2≤p+32∧p+32≤400:=by omega
 have h1:=rSin_eq hw hy 0
 have h2:=rCos_eq hw hy 0
 have g1:=SI_st (SI_sin hw.2 hy) 0
 have g2:=SI_st (SI_cos (y:=y) hw.2) 0
 have fin:∀ a:I × Int,SI a.1→r10_quarter_j1 k (((p+32:Nat):Int),0) (p:Int) a.2 (iv a.1).Lo.M.Neg (iv a.1).Lo.M.Mag (iv a.1).Lo.E (iv a.1).Hi.M.Neg (iv a.1).Hi.M.Mag (iv a.1).Hi.E=some (iv (if k / 2 % 2=0 then doneS p a else doneS p (nS a.1 a.2)).1,(if k / 2 % 2=0 then doneS p a else doneS p (nS a.1 a.2)).2):=by
  intro a ha
  unfold r10_quarter_j1 r10_quarter_j2
  rw [and_two64]
  by_cases h3:k / 2 % 2=0
  ·rw [if_neg (by omega),if_pos h3,ivEta]
   refine Eq.trans (congrArg (fun o=>Option.bind o _) (rEnds_eq ha (by omega) _ _)) ?_
   rfl
  ·rw [if_pos (by omega),if_neg h3,ivEta]
   refine Eq.trans (congrArg (fun o=>Option.bind o _) (rNegS ha _ _)) ?_
   simp only [obn]
   rw [ivEta]
   refine Eq.trans (congrArg (fun o=>Option.bind o _) (rEnds_eq (SI_nS ha _) (by omega) _ _)) ?_
   rfl
 unfold r10_quarter
 rw [w64 (x:=(p:Int)+32) (by omega) (by omega),show (p:Int)+32=((p+32:Nat):Int) by omega,rNew6_eq hw]
 simp only [obn]
 rw [and_one64]
 unfold quS
 simp only
 by_cases h0:k % 2=0
 ·rw [if_pos h0,if_pos h0]
  refine Eq.trans (congrArg (fun o=>Option.bind o _) h1) ?_
  generalize st 0 zI (sinI (p+32) y)=a at *
  simp only [obn]
  exact fin a g1
 ·rw [if_neg h0,if_neg h0]
  refine Eq.trans (congrArg (fun o=>Option.bind o _) h2) ?_
  generalize st 0 zI (cosI (p+32) y)=a at *
  simp only [obn]
  exact fin a g2
def sinR (d:D) (p m:Int):I × Int:=if (turnsR d p).2.2≠0 then (zI,(turnsR d p).2.2) else quS (IntKind.i64.wrap ((turnsR d p).1+m)) (turnsR d p).2.1 p.toNat
theorem turnsR_fit {d:D} {p:Int} (h:(turnsR d p).2.2=0):∃ q:Nat,p=(q:Int)∧2≤q∧q≤336:=by
 unfold turnsR at h
 cases hf:fitB d p with
 | false=>rw [hf,if_neg (by simp)] at h; exact absurd h (by decide)
 | true=>exact (fitB_p hf).1
theorem SI_sinR {d:D} (hd:WD d) {p m:Int} : SI (sinR d p m).1:=by
 unfold sinR
 by_cases h:(turnsR d p).2.2=0
 ·rw [if_neg (by simp [h])]
  obtain ⟨q,hq,hq2⟩:=turnsR_fit h
  exact SI_quS (SI_turnsR hd) (by omega)
 ·rw [if_pos h]; exact SI_z
theorem quarter_eq {d:D} (hd:WD d) (p m:Int):trig_quarter (dy d) p m=some (iv (sinR d p m).1,(sinR d p m).2):=by
 have ht:=Turns_eq hd p
 have hs:SI (turnsR d p).2.1:=SI_turnsR hd
 have hf:=turnsR_fit (d:=d) (p:=p)
 unfold sinR
 generalize turnsR d p=t at *
 by_cases h:t.2.2=0
 ·obtain ⟨q,rfl,hq⟩:=hf h
  rw [if_neg (by simp [h]),Int.toNat_natCast]
  rw [h] at ht
  exact quarter_of hs hq ht m
 ·rw [if_pos h]
  unfold trig_quarter
  rw [ht]
  simp only [obn]
  rw [if_pos h,zI_eta]
theorem tCos_eq {d:D} (hd:WD d) (p:Int):trig_Cos (dy d) p=some (iv (sinR d p 1).1,(sinR d p 1).2):=by
 unfold trig_Cos
 refine Eq.trans (congrArg (fun o=>Option.bind o _) (quarter_eq hd p 1)) ?_
 rfl
theorem rCos10_eq {d:D} (hd:WD d) (p:Int):r10_Cos (dy d) p=some (iv (sinR d p 1).1,(sinR d p 1).2):=by
 have ht:=rTurns_eq hd p
 have hs:SI (turnsR d p).2.1:=SI_turnsR hd
 have hf:=turnsR_fit (d:=d) (p:=p)
 unfold sinR r10_Cos
 generalize turnsR d p=t at *
 rw [ht]
 simp only [obn]
 by_cases h:t.2.2=0
 ·obtain ⟨q,rfl,hq⟩:=hf h
  rw [if_neg (by simp [h]),if_neg (by simp [h]),Int.toNat_natCast]
  refine Eq.trans (congrArg (fun o=>Option.bind o _) (rquarter_eq hs hq)) ?_
  rfl
 ·rw [if_pos h,if_pos h,zI_eta]
end Go.Proofs.YtoakhpdeadglpaaGreat.Gen
namespace Go.An
abbrev clsT {F:Type→Type} {α:Type} (_:F α):Type→Type:=F
abbrev clsO {S:Type→Type} {F:(R:Type)→S R→(l:LE R)→LT R→Std.IsPreorder R→Prop} {α:Type} {s:S α} {l:LE α} {t:LT α} {p:Std.IsPreorder α} (_:F α s l t p):(R:Type)→S R→(l:LE R)→LT R→Std.IsPreorder R→Prop:=fun R a b c d=>F R a b c d
abbrev clsN {S:Type→Type} {F:(R:Type)→S R→Prop} {α:Type} {s:S α} (_:F α s):(R:Type)→S R→Prop:=fun R a=>F R a
theorem qabs {a b x y:Rat} (hx : -a≤x∧x≤a) (hy : -b≤y∧y≤b) : -(a*b)≤x*y∧x*y≤a*b:=by
 have h1:=Rat.mul_nonneg (show 0≤a-x by grind) (show 0≤b-y by grind)
 have h2:=Rat.mul_nonneg (show 0≤a+x by grind) (show 0≤b+y by grind)
 have h3:=Rat.mul_nonneg (show 0≤a-x by grind) (show 0≤b+y by grind)
 have h4:=Rat.mul_nonneg (show 0≤a+x by grind) (show 0≤b-y by grind)
 constructor<;>grind
structure CS where
 f:Nat→Rat
 c:∀ e:Rat,0<e→∃ N,∀ m n,N≤m→N≤n→f m-f n≤e
theorem CS.ext {a b:CS} (h:∀ n,a.f n=b.f n):a=b:=by
 cases a; cases b; simp only [CS.mk.injEq]; exact funext h
def CS.le (a b:CS):Prop:=∀ e:Rat,0<e→∃ N,∀ n,N≤n→a.f n-b.f n≤e
theorem CS.le_refl (a:CS):a.le a:=fun e h=>⟨0,fun n _=>by grind⟩
theorem CS.le_trans {a b c:CS} (h:a.le b) (k:b.le c):a.le c:=fun e he=>by
 obtain ⟨N,hN⟩:=h (e / 2) (by grind)
 obtain ⟨M,hM⟩:=k (e / 2) (by grind)
 refine ⟨max N M,fun n hn=>?_⟩
 have h1:=hN n (by omega)
 have h2:=hM n (by omega)
 grind
theorem CS.gap {a b:CS} (h:¬a.le b):∃ e:Rat,0<e∧∃ N,∀ n,N≤n→b.f n+e≤a.f n:=by
 unfold CS.le at h
 simp only [Classical.not_forall,not_exists] at h
 obtain ⟨e,he,h⟩:=h
 obtain ⟨N,hN⟩:=a.c (e / 4) (by grind)
 obtain ⟨M,hM⟩:=b.c (e / 4) (by grind)
 obtain ⟨n,hn,k⟩:=h (max N M)
 refine ⟨e / 2,by grind,max N M,fun m hm=>?_⟩
 have h1:=hN n m (by omega) (by omega)
 have h2:=hM m n (by omega) (by omega)
 grind
theorem CS.le_total (a b:CS):a.le b∨b.le a:=by
 rcases Classical.em (a.le b) with h | h
 ·exact Or.inl h
 ·obtain ⟨e,he,N,hN⟩:=CS.gap h
  exact Or.inr fun d hd=>⟨N,fun n hn=>by have:=hN n hn; grind⟩
theorem CS.bnd (a:CS):∃ B:Rat,0<B∧∃ N,∀ n,N≤n→-B≤a.f n∧a.f n≤B:=by
 obtain ⟨N,hN⟩:=a.c 1 (by decide)
 have key:∀ x:Rat,∃ B:Rat,0<B∧x+1≤B∧-B≤x-1:=by
  intro x
  rcases (show 0≤x∨x≤0 by grind) with h | h
  ·exact ⟨x+1,by grind,by grind,by grind⟩
  ·exact ⟨-x+1,by grind,by grind,by grind⟩
 obtain ⟨B,hB,h1,h2⟩:=key (a.f N)
 refine ⟨B,hB,N,fun n hn=>?_⟩
 have h3:=hN n N hn (Nat.le_refl _)
 have h4:=hN N n (Nat.le_refl _) hn
 grind
def CS.ofRat (q:Rat):CS:=⟨fun _=>q,fun e he=>⟨0,fun m n _ _=>by grind⟩⟩
def CS.neg (a:CS):CS:=⟨fun n=>-a.f n,fun e he=>by
 obtain ⟨N,hN⟩:=a.c e he
 exact ⟨N,fun m n hm hn=>by have:=hN n m hn hm; grind⟩⟩
def CS.add (a b:CS):CS:=⟨fun n=>a.f n+b.f n,fun e he=>by
 obtain ⟨N,hN⟩:=a.c (e / 2) (by grind)
 obtain ⟨M,hM⟩:=b.c (e / 2) (by grind)
 refine ⟨max N M,fun m n hm hn=>?_⟩
 have h1:=hN m n (by omega) (by omega)
 have h2:=hM m n (by omega) (by omega)
 grind⟩
theorem small {e B:Rat} (he:0<e) (hB:0<B):∃ d:Rat,0<d∧B*d≤e:=⟨e*B⁻¹,Rat.mul_pos he (Rat.inv_pos.2 hB),by rw [Rat.mul_comm e,← Rat.mul_assoc,Rat.mul_inv_cancel _ (by grind),Rat.one_mul]; grind⟩
theorem CS.c2 (a:CS) {e:Rat} (he:0<e):∃ N,∀ m n,N≤m→N≤n→-e≤a.f m-a.f n∧a.f m-a.f n≤e:=by
 obtain ⟨N,hN⟩:=a.c e he
 exact ⟨N,fun m n hm hn=>⟨by have:=hN n m hn hm; grind,hN m n hm hn⟩⟩
def CS.mul (a b:CS):CS:=⟨fun n=>a.f n*b.f n,fun e he=>by
 obtain ⟨A,hA,N1,h1⟩:=a.bnd
 obtain ⟨B,hB,N2,h2⟩:=b.bnd
 obtain ⟨d,hd,hd'⟩:=small (e:=e) (B:=A+B) he (by grind)
 obtain ⟨N3,h3⟩:=a.c2 hd
 obtain ⟨N4,h4⟩:=b.c2 hd
 refine ⟨max (max N1 N2) (max N3 N4),fun m n hm hn=>?_⟩
 have k1:=qabs (h1 m (by omega)) (h4 m n (by omega) (by omega))
 have k2:=qabs (h2 n (by omega)) (h3 m n (by omega) (by omega))
 grind⟩
instance CS.st:Setoid CS:=⟨fun a b=>a.le b∧b.le a,⟨fun a=>⟨a.le_refl,a.le_refl⟩,fun h=>⟨h.2,h.1⟩,fun h k=>⟨CS.le_trans h.1 k.1,CS.le_trans k.2 h.2⟩⟩⟩
theorem CS.neg_le {a b:CS} (h:a.le b):b.neg.le a.neg:=fun e he=>by
 obtain ⟨N,hN⟩:=h e he
 exact ⟨N,fun n hn=>by have:=hN n hn; simp only [CS.neg]; grind⟩
theorem CS.add_le {a b c d:CS} (h:a.le b) (k:c.le d):(a.add c).le (b.add d):=fun e he=>by
 obtain ⟨N,hN⟩:=h (e / 2) (by grind)
 obtain ⟨M,hM⟩:=k (e / 2) (by grind)
 refine ⟨max N M,fun n hn=>?_⟩
 have h1:=hN n (by omega)
 have h2:=hM n (by omega)
 simp only [CS.add]; grind
theorem CS.add_le_iff {a b:CS} (c:CS):a.le b↔(a.add c).le (b.add c):=⟨fun h=>CS.add_le h c.le_refl,fun h e he=>by
 obtain ⟨N,hN⟩:=h e he
 exact ⟨N,fun n hn=>by have:=hN n hn; simp only [CS.add] at this; grind⟩⟩
theorem CS.eq2 {a b:CS} (h:a ≈ b) {e:Rat} (he:0<e):∃ N,∀ n,N≤n→-e≤a.f n-b.f n∧a.f n-b.f n≤e:=by
 obtain ⟨N,hN⟩:=h.1 e he
 obtain ⟨M,hM⟩:=h.2 e he
 refine ⟨max N M,fun n hn=>?_⟩
 have h1:=hN n (by omega)
 have h2:=hM n (by omega)
 grind
theorem CS.mul_le {a b:CS} (h:a ≈ b) (c:CS):(a.mul c).le (b.mul c):=fun e he=>by
 obtain ⟨C,hC,N,hN⟩:=c.bnd
 obtain ⟨d,hd,hd'⟩:=small (e:=e) (B:=C) he hC
 obtain ⟨M,hM⟩:=CS.eq2 h hd
 refine ⟨max N M,fun n hn=>?_⟩
 have k:=qabs (hN n (by omega)) (hM n (by omega))
 simp only [CS.mul]; grind
theorem CS.mul_comm' (a b:CS):a.mul b=b.mul a:=CS.ext fun n=>Rat.mul_comm _ _
theorem CS.mul_eq {a b c d:CS} (h:a ≈ b) (k:c ≈ d):a.mul c ≈ b.mul d:=by
 refine ⟨CS.le_trans (CS.mul_le h c) ?_,CS.le_trans ?_ (CS.mul_le (Setoid.symm h) c)⟩
 ·rw [CS.mul_comm' b c,CS.mul_comm' b d]; exact CS.mul_le k b
 ·rw [CS.mul_comm' b c,CS.mul_comm' b d]; exact CS.mul_le (Setoid.symm k) b
def R:Type:=Quotient CS.st
def mk (a:CS):R:=Quotient.mk _ a
theorem ind {p:R→Prop} (h:∀ a,p (mk a)) (x:R):p x:=Quotient.ind h x
def ofQ (q:Rat):R:=mk (CS.ofRat q)
instance:Neg R:=⟨Quotient.lift (fun a=>mk a.neg) fun _ _ h=>Quotient.sound ⟨CS.neg_le h.2,CS.neg_le h.1⟩⟩
instance:Add R:=⟨Quotient.lift₂ (fun a b=>mk (a.add b)) fun _ _ _ _ h k=>Quotient.sound ⟨CS.add_le h.1 k.1,CS.add_le h.2 k.2⟩⟩
instance:Sub R:=⟨fun a b=>a + -b⟩
instance:Mul R:=⟨Quotient.lift₂ (fun a b=>mk (a.mul b)) fun _ _ _ _ h k=>Quotient.sound (CS.mul_eq h k)⟩
instance:LE R:=⟨Quotient.lift₂ CS.le fun _ _ _ _ h k=>propext ⟨fun e=>CS.le_trans h.2 (CS.le_trans e k.1),fun e=>CS.le_trans h.1 (CS.le_trans e k.2)⟩⟩
instance:LT R:=⟨fun a b=>a≤b∧¬b≤a⟩
instance:NatCast R:=⟨fun n=>ofQ n⟩
instance:IntCast R:=⟨fun n=>ofQ n⟩
instance (n:Nat):OfNat R n:=⟨ofQ n⟩
def npow (x:R):Nat→R
 | 0=>1
 | n+1=>npow x n*x
instance:HPow R Nat R:=⟨npow⟩
instance:SMul Nat R:=⟨fun n x=>n*x⟩
instance:SMul Int R:=⟨fun n x=>n*x⟩
theorem mk_ext {a b:CS} (h:∀ n,a.f n=b.f n):mk a=mk b:=congrArg mk (CS.ext h)
theorem ofQ_add (p q:Rat):ofQ (p+q)=ofQ p+ofQ q:=rfl
theorem ofQ_mul (p q:Rat):ofQ (p*q)=ofQ p*ofQ q:=rfl
theorem ofQ_neg (p:Rat):ofQ (-p) = -ofQ p:=rfl
theorem radd_comm (a b:R):a+b=b+a:=by
 induction a using ind; induction b using ind; exact mk_ext fun n=>Rat.add_comm _ _
theorem rmul_comm (a b:R):a*b=b*a:=by
 induction a using ind; induction b using ind; exact mk_ext fun n=>Rat.mul_comm _ _
theorem radd_zero (a:R):a+0=a:=by
 induction a using ind; exact mk_ext fun n=>by simp only [CS.add,CS.ofRat]; grind
theorem rmul_one (a:R):a*1=a:=by
 induction a using ind; exact mk_ext fun n=>by simp only [CS.mul,CS.ofRat]; grind
theorem rdistrib (a b c:R):a*(b+c)=a*b+a*c:=by
 induction a using ind; induction b using ind; induction c using ind; exact mk_ext fun n=>by simp only [CS.mul,CS.add]; grind
theorem rzero_mul (a:R):0*a=0:=by
 induction a using ind; exact mk_ext fun n=>by simp only [CS.mul,CS.ofRat]; grind
theorem rneg_add (a:R) : -a+a=0:=by
 induction a using ind; exact mk_ext fun n=>by simp only [CS.add,CS.neg,CS.ofRat]; grind
theorem rneg_mul (a b:R) : -a*b = -(a*b):=by
 induction a using ind; induction b using ind; exact mk_ext fun n=>by simp only [CS.mul,CS.neg]; grind
instance rring:clsT Dyadic.instCommRing R where
 nsmul:=⟨fun n x=>n*x⟩
 zsmul:=⟨fun n x=>n*x⟩
 npow:=inferInstance
 add_zero:=radd_zero
 add_comm:=radd_comm
 add_assoc a b c:=by
  induction a using ind; induction b using ind; induction c using ind; exact mk_ext fun n=>Rat.add_assoc _ _ _
 mul_assoc a b c:=by
  induction a using ind; induction b using ind; induction c using ind; exact mk_ext fun n=>Rat.mul_assoc _ _ _
 mul_one:=rmul_one
 one_mul a:=by rw [rmul_comm]; exact rmul_one a
 zero_mul:=rzero_mul
 mul_zero a:=by rw [rmul_comm]; exact rzero_mul a
 mul_comm:=rmul_comm
 pow_zero _:=rfl
 pow_succ _ _:=rfl
 sub_eq_add_neg _ _:=rfl
 neg_add_cancel:=rneg_add
 neg_zsmul i a:=by
  show ofQ ((-i:Int):Rat)*a = -(ofQ i*a)
  rw [← rneg_mul,← ofQ_neg,Rat.intCast_neg]
 left_distrib:=rdistrib
 right_distrib a b c:=by rw [rmul_comm,rdistrib,rmul_comm c a,rmul_comm c b]
 intCast_neg i:=by show ofQ ((-i:Int):Rat) = -(ofQ i); rw [← ofQ_neg,Rat.intCast_neg]
 ofNat_succ n:=by show ofQ ((n+1:Nat):Rat)=ofQ n+ofQ 1; rw [← ofQ_add,Rat.natCast_add]; rfl
theorem rle_refl (a:R):a≤a:=by induction a using ind; exact CS.le_refl _
theorem rle_trans {a b c:R} (h:a≤b) (k:b≤c):a≤c:=by
 induction a using ind; induction b using ind; induction c using ind; exact CS.le_trans h k
theorem rle_antisymm {a b:R} (h:a≤b) (k:b≤a):a=b:=by
 induction a using ind; induction b using ind; exact Quotient.sound ⟨h,k⟩
theorem rle_total (a b:R):a≤b∨b≤a:=by
 induction a using ind; induction b using ind; exact CS.le_total _ _
instance:Std.IsLinearOrder R where
 le_refl:=rle_refl
 le_trans _ _ _:=rle_trans
 le_antisymm _ _:=rle_antisymm
 le_total:=rle_total
instance:Std.LawfulOrderLT R where
 lt_iff _ _:=Iff.rfl
theorem radd_le {a b:R} (c:R):a≤b↔a+c≤b+c:=by
 induction a using ind; induction b using ind; induction c using ind; exact CS.add_le_iff _
theorem lt_gap {a b:CS} (h:mk a<mk b):∃ e:Rat,0<e∧∃ N,∀ n,N≤n→a.f n+e≤b.f n:=CS.gap h.2
theorem gap_lt {a b:CS} {e:Rat} (he:0<e) {N:Nat} (h:∀ n,N≤n→a.f n+e≤b.f n):mk a<mk b:=
 ⟨fun d hd=>⟨N,fun n hn=>by have:=h n hn; grind⟩,fun k=>by
  obtain ⟨M,hM⟩:=k (e / 2) (by grind)
  have h1:=hM (max N M) (by omega)
  have h2:=h (max N M) (by omega)
  grind⟩
theorem rmul_lt {a b c:R} (h:a<b) (hc:0<c):c*a<c*b:=by
 induction a using ind; induction b using ind; induction c using ind
 obtain ⟨e,he,N,hN⟩:=lt_gap h
 obtain ⟨d,hd,M,hM⟩:=lt_gap hc
 refine gap_lt (Rat.mul_pos hd he) (N:=max N M) fun n hn=>?_
 have h1:=hN n (by omega)
 have h2:=hM n (by omega)
 simp only [CS.ofRat,CS.mul] at *
 rename_i x y z
 have h3:d*e≤z.f n*(y.f n-x.f n):=by
  have k1:=Rat.mul_le_mul_of_nonneg_left (c:=d) (show e≤y.f n-x.f n by grind) (by grind)
  have k2:=Rat.mul_le_mul_of_nonneg_right (c:=y.f n-x.f n) (show d≤z.f n by grind) (by grind)
  grind
 grind
theorem rzero_lt_one:(0:R)<1:=gap_lt (e:=1) (by decide) (N:=0) fun n _=>by simp only [CS.ofRat]; grind
theorem rmul_lt' {a b c:R} (h:a<b) (hc:0<c):a*c<b*c:=by rw [rmul_comm a,rmul_comm b]; exact rmul_lt h hc
instance:clsO Dyadic.instOrderedRing R inferInstance inferInstance inferInstance inferInstance where
 add_le_left_iff c:=radd_le c
 zero_lt_one:=rzero_lt_one
 mul_lt_mul_of_pos_left h hc:=rmul_lt h hc
 mul_lt_mul_of_pos_right h hc:=rmul_lt' h hc
instance:clsN Dyadic.instNoNatZeroDivisors R inferInstance where
 no_nat_zero_divisors k a b h1 h2:=by
  have h3:ofQ k*a=ofQ k*b:=h2
  have h4:ofQ (1 / k)*ofQ k=1:=by
   rw [← ofQ_mul]
   have:(1 / (k:Rat))*k=1:=by
    rw [Rat.div_def,Rat.one_mul,Rat.inv_mul_cancel]
    exact_mod_cast h1
   rw [this]; rfl
  have h5:ofQ (1 / k)*ofQ k*a=ofQ (1 / k)*ofQ k*b:=by grind
  rw [h4] at h5; grind
theorem ofQ_le {p q:Rat} : ofQ p≤ofQ q↔p≤q:=by
 constructor
 ·intro h
  rcases Classical.em (p≤q) with k | k
  ·exact k
  ·obtain ⟨N,hN⟩:=h ((p-q) / 2) (by grind)
   have:=hN N (Nat.le_refl _)
   simp only [CS.ofRat] at this; grind
 ·intro h e he; exact ⟨0,fun n _=>by simp only [CS.ofRat]; grind⟩
theorem ofQ_lt {p q:Rat} : ofQ p<ofQ q↔p<q:=by
 have h:=@ofQ_le q p
 constructor
 ·intro k; have:¬ofQ q≤ofQ p:=by grind
  rw [h] at this; grind
 ·intro k; have:¬q≤p:=by grind
  rw [← h] at this; grind
theorem ofQ_sub (p q:Rat):ofQ (p-q)=ofQ p-ofQ q:=by rw [Rat.sub_eq_add_neg,ofQ_add,ofQ_neg]; grind
theorem ofQ_one:ofQ 1=1:=rfl
theorem ofQ_nat (n:Nat):ofQ (n:Rat)=(n:R):=rfl
theorem ofQ_half (e:Rat):ofQ (e / 2)+ofQ (e / 2)=ofQ e:=by rw [← ofQ_add]; congr 1; grind
theorem ofQ_pos {e:Rat} (h:0<e):0<ofQ e:=ofQ_lt.2 h
theorem ofQ_pow (q:Rat) (n:Nat):ofQ (q ^ n)=ofQ q ^ n:=by
 induction n with
 | zero=>rw [Rat.pow_zero]; rfl
 | succ n ih=>rw [Rat.pow_succ,ofQ_mul,ih]; rfl
theorem cast_le {m n:Nat} (h:m≤n):(m:R)≤(n:R):=ofQ_le.2 (by exact_mod_cast h)
theorem cast_succ (n:Nat):((n+1:Nat):R)=(n:R)+1:=by rw [← ofQ_nat,Rat.natCast_add,ofQ_add]; rfl
theorem cast_nonneg (n:Nat):0≤(n:R):=cast_le (m:=0) (Nat.zero_le n)
theorem eq_of_le {x y:R} (h:∀ e:Rat,0<e→x≤y+ofQ e):x≤y:=by
 rcases rle_total x y with k | k
 ·exact k
 ·rcases Classical.em (x≤y) with q | q
  ·exact q
  ·exfalso
   induction x using ind; induction y using ind
   rename_i a b
   obtain ⟨e,he,N,hN⟩:=lt_gap (a:=b) (b:=a) ⟨k,q⟩
   obtain ⟨M,hM⟩:=h (e / 2) (by grind) (e / 4) (by grind)
   have h1:=hN (max N M) (by omega)
   have h2:=hM (max N M) (by omega)
   simp only [CS.add,CS.ofRat] at h2
   grind
theorem near (x:R) {e:Rat} (he:0<e):∃ q:Rat,x-ofQ q≤ofQ e∧ofQ q-x≤ofQ e:=by
 induction x using ind
 rename_i a
 obtain ⟨N,hN⟩:=a.c e he
 refine ⟨a.f N,?_,?_⟩
 ·exact fun d hd=>⟨N,fun n hn=>by have:=hN n N hn (Nat.le_refl _); simp only [CS.add,CS.neg,CS.ofRat]; grind⟩
 ·exact fun d hd=>⟨N,fun n hn=>by have:=hN N n (Nat.le_refl _) hn; simp only [CS.add,CS.neg,CS.ofRat]; grind⟩
theorem archQ (x:Rat):∃ n:Nat,x≤(n:Rat):=by
 refine ⟨x.ceil.toNat,?_⟩
 have h1:=Rat.le_ceil (x:=x)
 have h2:(x.ceil:Rat)≤((x.ceil.toNat:Int):Rat):=by exact_mod_cast Int.self_le_toNat _
 have h3:((x.ceil.toNat:Int):Rat)=(x.ceil.toNat:Rat):=by exact_mod_cast rfl
 grind
theorem arch (x:R):∃ n:Nat,x≤(n:R):=by
 obtain ⟨q,h,_⟩:=near x (e:=1) (by decide)
 obtain ⟨n,hn⟩:=archQ (q+1)
 have:=ofQ_le.2 hn
 rw [ofQ_add,ofQ_nat] at this
 exact ⟨n,by grind⟩
noncomputable def ab (x:R):R:=@ite _ (0≤x) (Classical.propDecidable _) x (-x)
theorem ab_nonneg (x:R):0≤ab x:=by unfold ab; split<;>grind
theorem ab_le {x b:R} : ab x≤b↔-b≤x∧x≤b:=by unfold ab; split<;>grind
theorem le_ab (x:R):x≤ab x∧-x≤ab x:=by unfold ab; split<;>grind
theorem ab_neg (x:R):ab (-x)=ab x:=by unfold ab; split<;>split<;>grind
theorem ab_add (x y:R):ab (x+y)≤ab x+ab y:=by unfold ab; split<;>split<;>split<;>grind
theorem ab_sub (x y:R):ab (x-y)≤ab x+ab y:=by unfold ab; split<;>split<;>split<;>grind
theorem ab_of {x:R} (h:0≤x):ab x=x:=by unfold ab; rw [if_pos h]
theorem ab_zero:ab 0=0:=ab_of (by grind)
theorem rmul_nonneg {x y:R} (hx:0≤x) (hy:0≤y):0≤x*y:=by
 rcases Classical.em (x=0) with h | h
 ·subst h; grind
 ·have:=rmul_lt (a:=0) (b:=x) (c:=y)
  rcases Classical.em (y=0) with k | k
  ·subst k; grind
  ·have:=this (by grind) (by grind); grind
theorem rmul_le {a b c:R} (h:a≤b) (hc:0≤c):a*c≤b*c:=by have:=rmul_nonneg (show 0≤b-a by grind) hc; grind
theorem rmul_le' {a b c:R} (h:a≤b) (hc:0≤c):c*a≤c*b:=by have:=rmul_nonneg (show 0≤b-a by grind) hc; grind
theorem rmul_mono {a b c d:R} (h:a≤b) (k:c≤d) (ha:0≤a) (hd:0≤d):a*c≤b*d:=rle_trans (rmul_le' k ha) (rmul_le h hd)
theorem rmul_pos {x y:R} (hx:0<x) (hy:0<y):0<x*y:=by have:=rmul_lt hy hx; grind
theorem sq_nonneg (x:R):0≤x*x:=by
 rcases rle_total 0 x with h | h
 ·exact rmul_nonneg h h
 ·have:=rmul_nonneg (x:=-x) (y:=-x) (by grind) (by grind); grind
theorem ab_mul (x y:R):ab (x*y)=ab x*ab y:=by
 unfold ab
 split<;>rename_i h1<;>split<;>rename_i h2<;>split<;>rename_i h3
 ·rfl
 ·have:=rmul_nonneg (x:=x) (y:=-y) h2 (by grind); grind
 ·have:=rmul_nonneg (x:=-x) (y:=y) (by grind) h3; grind
 ·grind
 ·exact absurd (rmul_nonneg h2 h3) h1
 ·grind
 ·grind
 ·have:=rmul_nonneg (x:=-x) (y:=-y) (by grind) (by grind); grind
theorem rpow_succ (x:R) (n:Nat):x ^ (n+1)=x ^ n*x:=rfl
theorem rpow_zero (x:R):x ^ 0=1:=rfl
theorem ab_pow (x:R) (n:Nat):ab (x ^ n)=ab x ^ n:=by
 induction n with
 | zero=>exact ab_of (by rw [rpow_zero]; grind)
 | succ n ih=>rw [rpow_succ,rpow_succ,ab_mul,ih]
theorem pow_nonneg {x:R} (h:0≤x) (n:Nat):0≤x ^ n:=by
 induction n with
 | zero=>rw [rpow_zero]; grind
 | succ n ih=>rw [rpow_succ]; exact rmul_nonneg ih h
theorem pow_mono {x y:R} (h:0≤x) (k:x≤y) (n:Nat):x ^ n≤y ^ n:=by
 induction n with
 | zero=>rw [rpow_zero,rpow_zero]; grind
 | succ n ih=>rw [rpow_succ,rpow_succ]; exact rmul_mono ih k (pow_nonneg h n) (by grind)
theorem pow_mul' (x y:R) (n:Nat):(x*y) ^ n=x ^ n*y ^ n:=by
 induction n with
 | zero=>rw [rpow_zero,rpow_zero,rpow_zero]; grind
 | succ n ih=>rw [rpow_succ,rpow_succ,rpow_succ,ih]; grind
theorem has_inv {x:R} (h:x≠0):∃ y,x*y=1:=by
 have pos:∀ x:R,0<x→∃ y,x*y=1:=by
  intro x hx
  induction x using ind
  rename_i a
  obtain ⟨e,he,N,hN⟩:=lt_gap hx
  have h0:∀ n,N≤n→e≤a.f n:=fun n hn=>by have:=hN n hn; simp only [CS.ofRat] at this; grind
  have inv:∀ q:Rat,e≤q→q*q⁻¹=1∧0≤q⁻¹∧q⁻¹≤e⁻¹:=by
   intro q hq
   have h1:q*q⁻¹=1:=Rat.mul_inv_cancel _ (by grind)
   have h2:e*e⁻¹=1:=Rat.mul_inv_cancel _ (by grind)
   have h3:0<q⁻¹:=Rat.inv_pos.2 (by grind)
   have h4:0<e⁻¹:=Rat.inv_pos.2 he
   have h5:=Rat.mul_le_mul_of_nonneg_right (c:=q⁻¹*e⁻¹) hq (Rat.le_of_lt (Rat.mul_pos h3 h4))
   refine ⟨h1,Rat.le_of_lt h3,?_⟩
   have h6:e*(q⁻¹*e⁻¹)=q⁻¹:=by grind
   have h7:q*(q⁻¹*e⁻¹)=e⁻¹:=by grind
   grind
  refine ⟨mk ⟨fun n=>(a.f n)⁻¹,fun d hd=>?_⟩,?_⟩
  ·obtain ⟨c,hc,hc'⟩:=small (e:=d) (B:=e⁻¹*e⁻¹) hd (Rat.mul_pos (Rat.inv_pos.2 he) (Rat.inv_pos.2 he))
   obtain ⟨M,hM⟩:=a.c2 hc
   refine ⟨max N M,fun m n hm hn=>?_⟩
   have k1:=inv _ (h0 m (by omega))
   have k2:=inv _ (h0 n (by omega))
   have k3:=hM n m (by omega) (by omega)
   have k4:=qabs (a:=e⁻¹) (x:=(a.f m)⁻¹) (b:=e⁻¹) (y:=(a.f n)⁻¹) (by grind) (by grind)
   have k5:=qabs k4 k3
   have k6:(a.f m)⁻¹-(a.f n)⁻¹=(a.f m)⁻¹*(a.f n)⁻¹*(a.f n-a.f m):=by grind
   show (a.f m)⁻¹-(a.f n)⁻¹≤d
   rw [k6]; exact Rat.le_trans k5.2 hc'
  ·refine Quotient.sound ⟨fun d hd=>⟨N,fun n hn=>?_⟩,fun d hd=>⟨N,fun n hn=>?_⟩⟩
   ·have:=(inv _ (h0 n hn)).1; simp only [CS.mul,CS.ofRat]; grind
   ·have:=(inv _ (h0 n hn)).1; simp only [CS.mul,CS.ofRat]; grind
 rcases rle_total 0 x with k | k
 ·exact pos x (by grind)
 ·obtain ⟨y,hy⟩:=pos (-x) (by grind)
  exact ⟨-y,by grind⟩
noncomputable instance:Inv R:=⟨fun x=>@dite _ (∃ y,x*y=1) (Classical.propDecidable _) (fun h=>Classical.choose h) fun _=>0⟩
theorem mul_inv {x:R} (h:x≠0):x*x⁻¹=1:=by
 have k:=has_inv h
 have e:x⁻¹=Classical.choose k:=dif_pos k
 rw [e]; exact Classical.choose_spec k
noncomputable instance:Div R:=⟨fun x y=>x*y⁻¹⟩
theorem inv_pos {x:R} (h:0<x):0<x⁻¹:=by
 have h1:=mul_inv (x:=x) (by grind)
 rcases rle_total x⁻¹ 0 with k | k
 ·have:=rmul_nonneg (x:=x) (y:=-x⁻¹) (by grind) (by grind); grind
 ·rcases Classical.em (x⁻¹=0) with q | q
  ·rw [q] at h1; grind
  ·grind
theorem ofQ_inv {q:Rat} (h:q≠0):ofQ q⁻¹=(ofQ q)⁻¹:=by
 have h1:ofQ q*ofQ q⁻¹=1:=by rw [← ofQ_mul,Rat.mul_inv_cancel _ h]; rfl
 have h2:=mul_inv (x:=ofQ q) (by intro k; rw [k] at h1; grind)
 grind
theorem cancel {x y c:R} (hc:0<c) (h:x*c≤y*c):x≤y:=by
 have:=rmul_le h (show 0≤c⁻¹ by have:=inv_pos hc; grind)
 have k:=mul_inv (x:=c) (by grind)
 have h1:x*c*c⁻¹=x:=by grind
 have h2:y*c*c⁻¹=y:=by grind
 grind
theorem small' {e:Rat} (he:0<e) (B:R):∃ d:Rat,0<d∧B*ofQ d≤ofQ e:=by
 obtain ⟨n,hn⟩:=arch B
 obtain ⟨d,hd,h⟩:=small (e:=e) (B:=((n+1:Nat):Rat)) he (by exact_mod_cast Nat.succ_pos n)
 refine ⟨d,hd,?_⟩
 have h1:=ofQ_le.2 h
 rw [ofQ_mul,ofQ_nat,cast_succ] at h1
 have:=rmul_le (show B≤(n:R)+1 by grind) (show 0≤ofQ d by have:=ofQ_pos hd; grind)
 grind
def Conv (s:Nat→R) (x:R):Prop:=∀ e:Rat,0<e→∃ N,∀ n,N≤n→s n-x≤ofQ e∧x-s n≤ofQ e
theorem Conv.le {s t:Nat→R} {x y:R} (h:Conv s x) (k:Conv t y) (N:Nat) (hl:∀ n,N≤n→s n≤t n):x≤y:=eq_of_le fun e he=>by
 obtain ⟨M,hM⟩:=h (e / 2) (by grind)
 obtain ⟨L,hL⟩:=k (e / 2) (by grind)
 have h1:=hM (max N (max M L)) (by omega)
 have h2:=hL (max N (max M L)) (by omega)
 have h3:=hl (max N (max M L)) (by omega)
 have h4:=ofQ_half e
 grind
theorem Conv.uniq {s:Nat→R} {x y:R} (h:Conv s x) (k:Conv s y):x=y:=
 rle_antisymm (h.le k 0 fun n _=>rle_refl _) (k.le h 0 fun n _=>rle_refl _)
theorem Conv.const (x:R):Conv (fun _=>x) x:=fun e he=>⟨0,fun n _=>by have:=ofQ_pos he; grind⟩
theorem Conv.add {s t:Nat→R} {x y:R} (h:Conv s x) (k:Conv t y):Conv (fun n=>s n+t n) (x+y):=fun e he=>by
 obtain ⟨M,hM⟩:=h (e / 2) (by grind)
 obtain ⟨L,hL⟩:=k (e / 2) (by grind)
 refine ⟨max M L,fun n hn=>?_⟩
 have h1:=hM n (by omega)
 have h2:=hL n (by omega)
 have h4:=ofQ_half e
 grind
theorem Conv.mul_c {s:Nat→R} {x:R} (h:Conv s x) (c:R):Conv (fun n=>s n*c) (x*c):=fun e he=>by
 obtain ⟨d,hd,hd'⟩:=small' he (ab c)
 obtain ⟨M,hM⟩:=h d hd
 refine ⟨M,fun n hn=>?_⟩
 have h1:=hM n hn
 have h2:ab ((s n-x)*c)≤ofQ e:=by
  rw [ab_mul]
  have:=rmul_le (ab_le.2 (show -ofQ d≤s n-x∧s n-x≤ofQ d by grind)) (ab_nonneg c)
  grind
 have:=ab_le.1 h2
 grind
theorem Conv.neg {s:Nat→R} {x:R} (h:Conv s x):Conv (fun n=>-s n) (-x):=fun e he=>by
 obtain ⟨N,hN⟩:=h e he
 exact ⟨N,fun n hn=>by have:=hN n hn; grind⟩
theorem Conv.sub {s t:Nat→R} {x y:R} (h:Conv s x) (k:Conv t y):Conv (fun n=>s n-t n) (x-y):=by
 have:=h.add k.neg
 have e:x-y=x + -y:=by grind
 rw [e]
 intro d hd
 obtain ⟨N,hN⟩:=this d hd
 exact ⟨N,fun n hn=>by have:=hN n hn; grind⟩
theorem Conv.shift {s:Nat→R} {x:R} (h:Conv s x) (k:Nat):Conv (fun n=>s (n+k)) x:=fun e he=>by
 obtain ⟨N,hN⟩:=h e he
 exact ⟨N,fun n hn=>hN (n+k) (by omega)⟩
theorem Conv.congr {s t:Nat→R} {x:R} (h:Conv s x) (k:∀ n,s n=t n):Conv t x:=by
 have:s=t:=funext k
 rwa [← this]
theorem Conv.le_c {s:Nat→R} {x y:R} (h:Conv s x) (N:Nat) (hl:∀ n,N≤n→s n≤y):x≤y:=h.le (Conv.const y) N hl
theorem Conv.ge_c {s:Nat→R} {x y:R} (h:Conv s x) (N:Nat) (hl:∀ n,N≤n→y≤s n):y≤x:=(Conv.const y).le h N hl
theorem Conv.ab_le {s:Nat→R} {x y:R} (h:Conv s x) (N:Nat) (hl:∀ n,N≤n→ab (s n)≤y):ab x≤y:=
 An.ab_le.2 ⟨h.ge_c N fun n hn=>(An.ab_le.1 (hl n hn)).1,h.le_c N fun n hn=>(An.ab_le.1 (hl n hn)).2⟩
theorem complete {s:Nat→R} (h:∀ e:Rat,0<e→∃ N,∀ m n,N≤m→N≤n→s m-s n≤ofQ e):∃ x,Conv s x:=by
 have hq:∀ n:Nat,∃ q:Rat,s n-ofQ q≤ofQ (((n+1:Nat):Rat)⁻¹)∧ofQ q-s n≤ofQ (((n+1:Nat):Rat)⁻¹):=fun n=>near (s n) (Rat.inv_pos.2 (by exact_mod_cast Nat.succ_pos n))
 have hsm:∀ e:Rat,0<e→∃ N:Nat,∀ n,N≤n→((n+1:Nat):Rat)⁻¹≤e:=by
  intro e he
  obtain ⟨N,hN⟩:=archQ e⁻¹
  refine ⟨N,fun n hn=>?_⟩
  have h1:e*e⁻¹=1:=Rat.mul_inv_cancel _ (by grind)
  have hp:(0:Rat)<((n+1:Nat):Rat):=by exact_mod_cast Nat.succ_pos n
  have h2:((n+1:Nat):Rat)*((n+1:Nat):Rat)⁻¹=1:=Rat.mul_inv_cancel _ (by grind)
  have h3:(N:Rat)≤((n+1:Nat):Rat):=by exact_mod_cast (by omega:N≤n+1)
  have h4:=Rat.mul_le_mul_of_nonneg_left (c:=e*((n+1:Nat):Rat)⁻¹) (show e⁻¹≤((n+1:Nat):Rat) by grind) (Rat.le_of_lt (Rat.mul_pos he (Rat.inv_pos.2 hp)))
  generalize ((n+1:Nat):Rat)=z at *
  have h5:e*z⁻¹*e⁻¹=z⁻¹:=by grind
  have h6:e*z⁻¹*z=e:=by grind
  grind
 obtain ⟨q,hq⟩:=Classical.axiomOfChoice hq
 have key:∀ e:Rat,0<e→∃ N,∀ m n,N≤m→N≤n→q m-q n≤e:=by
  intro e he
  obtain ⟨N,hN⟩:=h (e / 2) (by grind)
  obtain ⟨M,hM⟩:=hsm (e / 4) (by grind)
  refine ⟨max N M,fun m n hm hn=>?_⟩
  have h1:=hN m n (by omega) (by omega)
  have h2:=ofQ_le.2 (hM m (by omega))
  have h3:=ofQ_le.2 (hM n (by omega))
  have h4:=hq m
  have h5:=hq n
  rw [← ofQ_le,ofQ_sub]
  have h6:ofQ (e / 4)+ofQ (e / 4)=ofQ (e / 2):=by rw [← ofQ_add]; congr 1; grind
  have h7:=ofQ_half e
  grind
 refine ⟨mk ⟨q,key⟩,fun e he=>?_⟩
 obtain ⟨N,hN⟩:=key (e / 2) (by grind)
 obtain ⟨M,hM⟩:=hsm (e / 2) (by grind)
 refine ⟨max N M,fun n hn=>?_⟩
 have h1:=hq n
 have h2:=ofQ_le.2 (hM n (by omega))
 have h3:=ofQ_half e
 have h4:ofQ (q n)-mk ⟨q,key⟩≤ofQ (e / 2):=fun d hd=>⟨N,fun m hm=>by have:=hN n m (by omega) hm; simp only [CS.add,CS.neg,CS.ofRat]; grind⟩
 have h5:mk ⟨q,key⟩-ofQ (q n)≤ofQ (e / 2):=fun d hd=>⟨N,fun m hm=>by have:=hN m n hm (by omega); simp only [CS.add,CS.neg,CS.ofRat]; grind⟩
 grind
theorem between {x y:R} (h:x<y):∃ z,x<z∧z<y:=by
 have k:=ofQ_half 1
 rw [ofQ_one] at k
 generalize ofQ (1 / 2)=c at k
 have e:(x+y)*c+(x+y)*c=x+y:=by grind
 exact ⟨(x+y)*c,by grind,by grind⟩
def psum (a:Nat→R) (x:R):Nat→R
 | 0=>0
 | n+1=>psum a x n+a n*x ^ n
structure Geo (t w:R):Prop where
 h0:0≤t
 h1:t<1
 hw:w*(1-t)=1
theorem Geo.pos {t w:R} (h:Geo t w):0<w:=by
 have h1:=h.h1
 rcases rle_total w 0 with k | k
 ·have:=rmul_nonneg (x:=-w) (y:=1-t) (by grind) (by grind); have:=h.hw; grind
 ·rcases Classical.em (w=0) with q | q
  ·have:=h.hw; subst q; grind
  ·grind
theorem ratio {x r:R} (hx:0≤x) (h:x<r):∃ t w,Geo t w∧x=t*r:=by
 have hr:0<r:=by grind
 have hi:=mul_inv (x:=r) (by grind)
 have h1:x*r⁻¹<1:=by have:=rmul_lt' h (inv_pos hr); grind
 exact ⟨x*r⁻¹,(1-x*r⁻¹)⁻¹,⟨rmul_nonneg hx (by have:=inv_pos hr; grind),h1,by rw [rmul_comm]; exact mul_inv (by grind)⟩,by grind⟩
theorem pow_small {t w:R} (h:Geo t w) (n:Nat):t ^ n*(1+n*(1-t))≤1:=by
 induction n with
 | zero=>rw [rpow_zero,show ((0:Nat):R)=0 from rfl]; grind
 | succ n ih=>
  rw [rpow_succ,cast_succ]
  have h1:t*(1+(n+1)*(1-t))≤1+n*(1-t):=by
   have:=rmul_nonneg (x:=(n:R)+1) (y:=(1-t)*(1-t)) (by have:=cast_nonneg n; grind) (sq_nonneg _)
   grind
  have h2:=rmul_le' h1 (pow_nonneg h.h0 n)
  have h3:t ^ n*t*(1+(n+1)*(1-t))=t ^ n*(t*(1+(n+1)*(1-t))):=by grind
  grind
theorem pow_lim {t w:R} (h:Geo t w) {B:R} (hB:0≤B) {e:Rat} (he:0<e):∃ N:Nat,∀ n:Nat,N≤n→B*t ^ n≤ofQ e:=by
 have hd:0<1-t:=by have:=h.h1; grind
 have hed:=rmul_pos (ofQ_pos he) hd
 obtain ⟨N,hN⟩:=arch (B*(ofQ e*(1-t))⁻¹)
 have hi:=mul_inv (x:=ofQ e*(1-t)) (by grind)
 have h1:B≤N*(ofQ e*(1-t)):=by
  have:=rmul_le hN (show 0≤ofQ e*(1-t) by grind)
  have k:B*(ofQ e*(1-t))⁻¹*(ofQ e*(1-t))=B:=by grind
  grind
 refine ⟨N,fun n hn=>?_⟩
 have h2:=rmul_le (cast_le hn) (show 0≤ofQ e*(1-t) by grind)
 have h3:=pow_small h n
 have h4:=rmul_le (show B≤ofQ e*(1+n*(1-t)) by have:=ofQ_pos he; grind) (pow_nonneg h.h0 n)
 have h5:=rmul_le' h3 (show 0≤ofQ e by have:=ofQ_pos he; grind)
 grind
structure PB (a:Nat→R) (r K:R):Prop where
 r0:0<r
 h:∀ n,ab (a n)*r ^ n≤K
theorem PB.k0 {a:Nat→R} {r K:R} (h:PB a r K):0≤K:=by
 have h1:=h.h 0
 have h2:=ab_nonneg (a 0)
 rw [rpow_zero] at h1; grind
theorem PB.term {a:Nat→R} {r K:R} (h:PB a r K) {t x:R} (ht:0≤t) (hx:ab x≤t*r) (n:Nat):ab (a n*x ^ n)≤K*t ^ n:=by
 rw [ab_mul,ab_pow]
 have h1:=pow_mono (ab_nonneg x) hx n
 rw [pow_mul'] at h1
 have h2:=rmul_le' h1 (ab_nonneg (a n))
 have h3:=rmul_le (h.h n) (pow_nonneg ht n)
 have h4:ab (a n)*(t ^ n*r ^ n)=ab (a n)*r ^ n*t ^ n:=by grind
 grind
theorem psum_tail {a:Nat→R} {r K:R} (h:PB a r K) {t w x:R} (hg:Geo t w) (hx:ab x≤t*r) (m k:Nat):ab (psum a x (m+k)-psum a x m)+K*w*t ^ (m+k)≤K*w*t ^ m:=by
 induction k with
 | zero=>
  have:psum a x (m+0)-psum a x m=0:=by rw [Nat.add_zero]; grind
  rw [this,ab_zero,Nat.add_zero]; grind
 | succ k ih=>
  have h1:=h.term hg.h0 hx (m+k)
  have h2:=ab_add (psum a x (m+k)-psum a x m) (a (m+k)*x ^ (m+k))
  have h3:psum a x (m+(k+1))-psum a x m=psum a x (m+k)-psum a x m+a (m+k)*x ^ (m+k):=by
   show psum a x (m+k)+a (m+k)*x ^ (m+k)-psum a x m=_; grind
  rw [h3]
  have h4:t ^ (m+(k+1))=t ^ (m+k)*t:=rfl
  have h5:=hg.hw
  have h6:K*t ^ (m+k)+K*w*(t ^ (m+k)*t)=K*w*t ^ (m+k):=by grind
  rw [h4]; grind
theorem psum_conv {a:Nat→R} {r K:R} (h:PB a r K) {x:R} (hx:ab x<r):∃ y,Conv (psum a x) y:=by
 obtain ⟨t,w,hg,hxt⟩:=ratio (ab_nonneg x) hx
 refine complete fun e he=>?_
 have hKw:0≤K*w:=rmul_nonneg h.k0 (by have:=hg.pos; grind)
 obtain ⟨N,hN⟩:=pow_lim hg hKw (e:=e / 2) (by grind)
 have key:∀ n,N≤n→ab (psum a x n-psum a x N)≤ofQ (e / 2):=by
  intro n hn
  obtain ⟨k,rfl⟩:∃ k,n=N+k:=⟨n-N,by omega⟩
  have h1:=psum_tail h hg (show ab x≤t*r by grind) N k
  have h2:=hN N (Nat.le_refl _)
  have h3:=rmul_nonneg hKw (pow_nonneg hg.h0 (N+k))
  grind
 refine ⟨N,fun m n hm hn=>?_⟩
 have h1:=ab_le.1 (key m hm)
 have h2:=ab_le.1 (key n hn)
 have h3:=ofQ_half e
 grind
noncomputable def ps (a:Nat→R) (x:R):R:=@dite _ (∃ y,Conv (psum a x) y) (Classical.propDecidable _) (fun h=>Classical.choose h) fun _=>0
theorem ps_conv {a:Nat→R} {r K:R} (h:PB a r K) {x:R} (hx:ab x<r):Conv (psum a x) (ps a x):=by
 have k:=psum_conv h hx
 have e:ps a x=Classical.choose k:=dif_pos k
 rw [e]; exact Classical.choose_spec k
theorem ps_tail {a:Nat→R} {r K:R} (h:PB a r K) {t w x:R} (hg:Geo t w) (hx:ab x≤t*r) (m:Nat):ab (ps a x-psum a x m)≤K*w*t ^ m:=by
 have hxr:ab x<r:=by have:=rmul_lt' hg.h1 h.r0; grind
 have h1:=((ps_conv h hxr).shift m).sub (Conv.const (psum a x m))
 refine h1.ab_le 0 fun n _=>?_
 have h2:=psum_tail h hg hx m n
 rw [Nat.add_comm m n] at h2
 have h3:=rmul_nonneg (rmul_nonneg h.k0 (show 0≤w by have:=hg.pos; grind)) (pow_nonneg hg.h0 (n+m))
 grind
theorem ps_eq {a:Nat→R} {x y:R} (h:Conv (psum a x) y):ps a x=y:=by
 have k:∃ y,Conv (psum a x) y:=⟨y,h⟩
 have e:ps a x=Classical.choose k:=dif_pos k
 rw [e]; exact (Classical.choose_spec k).uniq h
theorem psum_zero (a:Nat→R) (n:Nat):psum a 0 (n+1)=a 0:=by
 induction n with
 | zero=>show 0+a 0*(0:R) ^ 0=a 0; rw [rpow_zero]; grind
 | succ n ih=>show psum a 0 (n+1)+a (n+1)*(0:R) ^ (n+1)=a 0; rw [ih,rpow_succ]; grind
theorem ps_zero (a:Nat→R):ps a 0=a 0:=ps_eq fun e he=>⟨1,fun n hn=>by
 obtain ⟨k,rfl⟩:∃ k,n=k+1:=⟨n-1,by omega⟩
 rw [psum_zero]; have:=ofQ_pos he; grind⟩
def da (a:Nat→R) (n:Nat):R:=((n+1:Nat):R)*a (n+1)
def dq (x y:R):Nat→R
 | 0=>0
 | n+1=>y*dq x y n+((n+1:Nat):R)*x ^ n
theorem dq_eq (x y:R) (n:Nat):y ^ (n+1)-x ^ (n+1)-((n+1:Nat):R)*x ^ n*(y-x)=dq x y n*((y-x)*(y-x)):=by
 induction n with
 | zero=>
  rw [show dq x y 0=0 from rfl,rpow_succ,rpow_succ,rpow_zero,rpow_zero,show ((0+1:Nat):R)=1 from rfl]; grind
 | succ n ih=>
  rw [show dq x y (n+1)=y*dq x y n+((n+1:Nat):R)*x ^ n from rfl,rpow_succ y,rpow_succ x (n+1),cast_succ (n+1)]
  have h:x ^ (n+1)=x ^ n*x:=rfl
  generalize dq x y n=d at *
  generalize y ^ (n+1)=Y at *
  generalize ((n+1:Nat):R)=c at *
  rw [h] at ih ⊢
  generalize x ^ n=z at *
  grind
def gq (t:R):Nat→R
 | 0=>0
 | n+1=>t*gq t n+((n+1:Nat):R)*t ^ n
theorem gq_nonneg {t:R} (h:0≤t) (n:Nat):0≤gq t n:=by
 induction n with
 | zero=>exact rle_refl 0
 | succ n ih=>
  have h1:=rmul_nonneg h ih
  have h2:=rmul_nonneg (cast_nonneg (n+1)) (pow_nonneg h n)
  show 0≤t*gq t n+((n+1:Nat):R)*t ^ n
  grind
theorem dq_le {t r x y:R} (ht:0≤t) (hr:0≤r) (hx:ab x≤t*r) (hy:ab y≤t*r) (n:Nat):ab (dq x y n)*r≤gq t n*r ^ n:=by
 induction n with
 | zero=>rw [show dq x y 0=0 from rfl,show gq t 0=0 from rfl,ab_zero]; grind
 | succ n ih=>
  rw [show dq x y (n+1)=y*dq x y n+((n+1:Nat):R)*x ^ n from rfl,show gq t (n+1)=t*gq t n+((n+1:Nat):R)*t ^ n from rfl,rpow_succ r]
  have h1:=ab_add (y*dq x y n) (((n+1:Nat):R)*x ^ n)
  rw [ab_mul,ab_mul,ab_pow,ab_of (cast_nonneg (n+1))] at h1
  have h2:=pow_mono (ab_nonneg x) hx n
  rw [pow_mul'] at h2
  have h3:=rmul_le' h2 (cast_nonneg (n+1))
  have h4:=rmul_mono hy ih (ab_nonneg y) (rmul_nonneg (gq_nonneg ht n) (pow_nonneg hr n))
  have h5:=rmul_le h1 hr
  have h6:=rmul_le h3 hr
  have h7:(ab y*ab (dq x y n)+((n+1:Nat):R)*ab x ^ n)*r=ab y*(ab (dq x y n)*r)+((n+1:Nat):R)*ab x ^ n*r:=by grind
  have h8:(t*gq t n+((n+1:Nat):R)*t ^ n)*(r ^ n*r)=t*r*(gq t n*r ^ n)+((n+1:Nat):R)*(t ^ n*r ^ n)*r:=by grind
  grind
def e0 (t:R):Nat→R
 | 0=>0
 | n+1=>e0 t n+t ^ n
def e1 (t:R):Nat→R
 | 0=>0
 | n+1=>e1 t n+((n+1:Nat):R)*t ^ n
def e2 (t:R):Nat→R
 | 0=>0
 | n+1=>e2 t n+gq t n
theorem e0_eq (t:R) (n:Nat):(1-t)*e0 t n+t ^ n=1:=by
 induction n with
 | zero=>rw [show e0 t 0=0 from rfl,rpow_zero]; grind
 | succ n ih=>rw [show e0 t (n+1)=e0 t n+t ^ n from rfl,rpow_succ]; grind
theorem e1_eq (t:R) (n:Nat):(1-t)*e1 t n+n*t ^ n=e0 t n:=by
 induction n with
 | zero=>rw [show e0 t 0=0 from rfl,show e1 t 0=0 from rfl,show ((0:Nat):R)=0 from rfl]; grind
 | succ n ih=>rw [show e0 t (n+1)=e0 t n+t ^ n from rfl,show e1 t (n+1)=e1 t n+((n+1:Nat):R)*t ^ n from rfl,rpow_succ,cast_succ]; grind
theorem e2_eq (t:R) (n:Nat):(1-t)*e2 t n+gq t n=e1 t n:=by
 induction n with
 | zero=>rw [show e2 t 0=0 from rfl,show e1 t 0=0 from rfl,show gq t 0=0 from rfl]; grind
 | succ n ih=>rw [show e2 t (n+1)=e2 t n+gq t n from rfl,show e1 t (n+1)=e1 t n+((n+1:Nat):R)*t ^ n from rfl,show gq t (n+1)=t*gq t n+((n+1:Nat):R)*t ^ n from rfl]; grind
theorem by_w {t w x y:R} (hg:Geo t w) (h:(1-t)*x≤y):x≤w*y:=by
 have h1:=rmul_le' h (show 0≤w by have:=hg.pos; grind)
 have h2:=hg.hw
 have h3:w*((1-t)*x)=x:=by grind
 grind
theorem e1_le {t w:R} (hg:Geo t w) (n:Nat):e1 t n≤w*w:=by
 have h1:=e0_eq t n
 have h2:=e1_eq t n
 have h3:=by_w hg (show (1-t)*e0 t n≤1 by have:=pow_nonneg hg.h0 n; grind)
 refine by_w hg ?_
 have:=rmul_nonneg (cast_nonneg n) (pow_nonneg hg.h0 n)
 grind
theorem e2_le {t w:R} (hg:Geo t w) (n:Nat):e2 t n≤w*(w*w):=by
 refine by_w hg ?_
 have h1:=e2_eq t n
 have h2:=e1_le hg n
 have h3:=gq_nonneg hg.h0 n
 grind
theorem nt_le {t w:R} (hg:Geo t w) (n:Nat):((n+1:Nat):R)*t ^ n≤w*w:=by
 have h1:=e1_le hg (n+1)
 rw [show e1 t (n+1)=e1 t n+((n+1:Nat):R)*t ^ n from rfl] at h1
 have h2:0≤e1 t n:=by
  clear h1
  induction n with
  | zero=>exact rle_refl 0
  | succ n ih=>
   have:=rmul_nonneg (cast_nonneg (n+1)) (pow_nonneg hg.h0 n)
   show 0≤e1 t n+((n+1:Nat):R)*t ^ n
   grind
 grind
theorem PB.da {a:Nat→R} {r K:R} (h:PB a r K) {s:R} (hs:0<s) (hsr:s<r):∃ L,PB (da a) s L:=by
 obtain ⟨t,w,hg,e⟩:=ratio (show 0≤s by grind) hsr
 have hi:=mul_inv (x:=r) (by have:=h.r0; grind)
 refine ⟨K*(w*w)*r⁻¹,hs,fun n=>?_⟩
 have h1:=nt_le hg n
 have h2:=h.h (n+1)
 have hri:=inv_pos h.r0
 rw [An.da,ab_mul,ab_of (cast_nonneg (n+1)),e,pow_mul']
 have h3:=rmul_mono h1 h2 (rmul_nonneg (cast_nonneg (n+1)) (pow_nonneg hg.h0 n)) h.k0
 have h4:=rmul_le h3 (show 0≤r⁻¹ by grind)
 have h5:((n+1:Nat):R)*t ^ n*(ab (a (n+1))*r ^ (n+1))*r⁻¹=((n+1:Nat):R)*ab (a (n+1))*(t ^ n*r ^ n):=by rw [rpow_succ]; grind
 grind
def sq (a:Nat→R) (x y:R):Nat→R
 | 0=>0
 | n+1=>sq a x y n+a (n+1)*dq x y n
theorem sq_eq (a:Nat→R) (x y:R) (n:Nat):psum a y (n+1)-psum a x (n+1)-psum (da a) x n*(y-x)=sq a x y n*((y-x)*(y-x)):=by
 induction n with
 | zero=>
  rw [show sq a x y 0=0 from rfl,show psum (da a) x 0=0 from rfl,show psum a y (0+1)=0+a 0*y ^ 0 from rfl,show psum a x (0+1)=0+a 0*x ^ 0 from rfl,rpow_zero,rpow_zero]; grind
 | succ n ih=>
  rw [show sq a x y (n+1)=sq a x y n+a (n+1)*dq x y n from rfl,show psum (da a) x (n+1)=psum (da a) x n+da a n*x ^ n from rfl,show psum a y (n+1+1)=psum a y (n+1)+a (n+1)*y ^ (n+1) from rfl,show psum a x (n+1+1)=psum a x (n+1)+a (n+1)*x ^ (n+1) from rfl]
  have h:=dq_eq x y n
  rw [da]
  generalize dq x y n=d at *
  generalize y ^ (n+1)=Y at *
  generalize x ^ (n+1)=X at *
  generalize x ^ n=z at *
  generalize ((n+1:Nat):R)=c at *
  generalize a (n+1)=A at *
  generalize psum a y (n+1)=p1 at *
  generalize psum a x (n+1)=p2 at *
  generalize psum (da a) x n=p3 at *
  generalize sq a x y n=p4 at *
  have h8:Y=X+c*z*(y-x)+d*((y-x)*(y-x)):=by grind
  have h9:p1=p2+p3*(y-x)+p4*((y-x)*(y-x)):=by grind
  rw [h8,h9]; grind
theorem sq_le {a:Nat→R} {r K:R} (h:PB a r K) {t x y:R} (ht:0≤t) (hx:ab x≤t*r) (hy:ab y≤t*r) (n:Nat):ab (sq a x y n)*(r*r)≤K*e2 t n:=by
 induction n with
 | zero=>rw [show sq a x y 0=0 from rfl,show e2 t 0=0 from rfl,ab_zero]; grind
 | succ n ih=>
  rw [show sq a x y (n+1)=sq a x y n+a (n+1)*dq x y n from rfl,show e2 t (n+1)=e2 t n+gq t n from rfl]
  have h1:=ab_add (sq a x y n) (a (n+1)*dq x y n)
  rw [ab_mul] at h1
  have hr:=h.r0
  have h2:=dq_le ht (by grind) hx hy n
  have h3:=rmul_le' h2 (rmul_nonneg (ab_nonneg (a (n+1))) (show 0≤r by grind))
  have h4:=rmul_le (h.h (n+1)) (gq_nonneg ht n)
  have h5:=rmul_le h1 (show 0≤r*r from rmul_nonneg (by grind) (by grind))
  have h6:ab (a (n+1))*r*(ab (dq x y n)*r)=ab (a (n+1))*ab (dq x y n)*(r*r):=by grind
  have h7:ab (a (n+1))*r*(gq t n*r ^ n)=ab (a (n+1))*r ^ (n+1)*gq t n:=by rw [rpow_succ]; grind
  grind
theorem ps_quad {a:Nat→R} {r K:R} (h:PB a r K) {s:R} (hs:0≤s) (hsr:s<r):∃ C,0≤C∧∀ x y,ab x≤s→ab y≤s→ab (ps a y-ps a x-ps (da a) x*(y-x))≤C*((y-x)*(y-x)):=by
 obtain ⟨t,w,hg,e⟩:=ratio hs hsr
 have hr:=h.r0
 have hrr:=rmul_pos hr hr
 have hi:=mul_inv (x:=r*r) (by grind)
 have hip:=inv_pos hrr
 have hwp:=hg.pos
 have hKw:0≤K*(w*(w*w)):=rmul_nonneg h.k0 (rmul_nonneg (by grind) (rmul_nonneg (by grind) (by grind)))
 refine ⟨K*(w*(w*w))*(r*r)⁻¹,rmul_nonneg hKw (by grind),fun x y hx hy=>?_⟩
 obtain ⟨s',hs1,hs2⟩:∃ s',s<s'∧s'<r:=between hsr
 obtain ⟨L,hL⟩:=h.da (s:=s') (by grind) hs2
 have c1:=(ps_conv h (show ab y<r by grind)).shift 1
 have c2:=(ps_conv h (show ab x<r by grind)).shift 1
 have c3:=(ps_conv hL (show ab x<s' by grind)).mul_c (y-x)
 refine ((c1.sub c2).sub c3).ab_le 0 fun n _=>?_
 rw [sq_eq,ab_mul,ab_of (sq_nonneg _)]
 refine rmul_le ?_ (sq_nonneg _)
 have h1:=sq_le h hg.h0 (show ab x≤t*r by grind) (show ab y≤t*r by grind) n
 have h2:=rmul_le' (e2_le hg n) h.k0
 refine cancel hrr ?_
 have h3:K*(w*(w*w))*(r*r)⁻¹*(r*r)=K*(w*(w*w)):=by grind
 grind
def In (a b x:R):Prop:=a≤x∧x≤b
def Dv (f g:R→R) (a b:R):Prop:=∃ C,0≤C∧(∀ x,In a b x→ab (f x)≤C∧ab (g x)≤C)∧∀ x y,In a b x→In a b y→ab (f y-f x)≤C*ab (y-x)∧ab (f y-f x-g x*(y-x))≤C*((y-x)*(y-x))
theorem Dv.congr {f g f' g':R→R} {a b:R} (h:Dv f g a b) (h1:∀ x,In a b x→f x=f' x) (h2:∀ x,In a b x→g x=g' x):Dv f' g' a b:=by
 obtain ⟨C,hC,hb,hq⟩:=h
 refine ⟨C,hC,fun x hx=>?_,fun x y hx hy=>?_⟩
 ·rw [← h1 x hx,← h2 x hx]; exact hb x hx
 ·rw [← h1 x hx,← h2 x hx,← h1 y hy]; exact hq x y hx hy
theorem Dv.sub_iv {f g:R→R} {a b:R} (h:Dv f g a b) {c d:R} (h1:a≤c) (h2:d≤b):Dv f g c d:=by
 obtain ⟨C,hC,hb,hq⟩:=h
 have k:∀ x,In c d x→In a b x:=fun x hx=>⟨rle_trans h1 hx.1,rle_trans hx.2 h2⟩
 exact ⟨C,hC,fun x hx=>hb x (k x hx),fun x y hx hy=>hq x y (k x hx) (k y hy)⟩
theorem Dv.const (c a b:R):Dv (fun _=>c) (fun _=>0) a b:=by
 refine ⟨ab c,ab_nonneg c,fun x _=>⟨rle_refl _,by rw [ab_zero]; exact ab_nonneg c⟩,fun x y _ _=>?_⟩
 have e1:c-c=0:=by grind
 have e2:c-c-0*(y-x)=0:=by grind
 rw [e2,e1,ab_zero]
 exact ⟨rmul_nonneg (ab_nonneg c) (ab_nonneg _),rmul_nonneg (ab_nonneg c) (sq_nonneg _)⟩
theorem ab_one:ab 1=1:=ab_of (by have:=rzero_lt_one; grind)
theorem Dv.id (a b:R):Dv (fun x=>x) (fun _=>1) a b:=by
 have h1:=ab_nonneg a
 have h2:=ab_nonneg b
 have h3:=le_ab a
 have h4:=le_ab b
 refine ⟨ab a+ab b+1,by grind,fun x hx=>⟨ab_le.2 ?_,by rw [ab_one]; grind⟩,fun x y _ _=>?_⟩
 ·have:=hx.1; have:=hx.2; grind
 ·have e2:y-x-1*(y-x)=0:=by grind
  rw [e2,ab_zero]
  refine ⟨?_,rmul_nonneg (by grind) (sq_nonneg _)⟩
  have:=rmul_le (show 1≤ab a+ab b+1 by grind) (ab_nonneg (y-x)); grind
theorem Dv.add {f g f' g':R→R} {a b:R} (h:Dv f g a b) (k:Dv f' g' a b):Dv (fun x=>f x+f' x) (fun x=>g x+g' x) a b:=by
 obtain ⟨C,hC,hb,hq⟩:=h
 obtain ⟨D,hD,kb,kq⟩:=k
 refine ⟨C+D,by grind,fun x hx=>?_,fun x y hx hy=>?_⟩
 ·have h1:=hb x hx; have h2:=kb x hx
  have h3:=ab_add (f x) (f' x); have h4:=ab_add (g x) (g' x)
  grind
 ·have h1:=hq x y hx hy; have h2:=kq x y hx hy
  have h3:=ab_add (f y-f x) (f' y-f' x)
  have h4:=ab_add (f y-f x-g x*(y-x)) (f' y-f' x-g' x*(y-x))
  have e1:f y+f' y-(f x+f' x)=f y-f x+(f' y-f' x):=by grind
  have e2:f y+f' y-(f x+f' x)-(g x+g' x)*(y-x)=f y-f x-g x*(y-x)+(f' y-f' x-g' x*(y-x)):=by grind
  rw [e2,e1]
  grind
theorem Dv.mul {f g f' g':R→R} {a b:R} (h:Dv f g a b) (k:Dv f' g' a b):Dv (fun x=>f x*f' x) (fun x=>g x*f' x+f x*g' x) a b:=by
 obtain ⟨C,hC,hb,hq⟩:=h
 obtain ⟨D,hD,kb,kq⟩:=k
 have hCD:=rmul_nonneg hC hD
 refine ⟨3*(C*D),by grind,fun x hx=>?_,fun x y hx hy=>?_⟩
 ·have h1:=hb x hx; have h2:=kb x hx
  have h3:=rmul_mono h1.1 h2.1 (ab_nonneg _) hD
  have h4:=rmul_mono h1.2 h2.1 (ab_nonneg _) hD
  have h5:=rmul_mono h1.1 h2.2 (ab_nonneg _) hD
  have h6:=ab_add (g x*f' x) (f x*g' x)
  rw [ab_mul,ab_mul] at h6
  rw [ab_mul]
  grind
 ·have h1:=hq x y hx hy; have h2:=kq x y hx hy; have h3:=hb x hx; have h4:=kb y hy; have h4':=kb x hx
  have hn:=ab_nonneg (y-x)
  have hsq:=sq_nonneg (y-x)
  have e0:ab (y-x)*ab (y-x)=(y-x)*(y-x):=by rw [← ab_mul,ab_of hsq]
  constructor
  ·have e1:f y*f' y-f x*f' x=(f y-f x)*f' y+f x*(f' y-f' x):=by grind
   have h5:=ab_add ((f y-f x)*f' y) (f x*(f' y-f' x))
   rw [ab_mul,ab_mul] at h5
   have h6:=rmul_mono h1.1 h4.1 (ab_nonneg _) hD
   have h7:=rmul_mono h3.1 h2.1 (ab_nonneg _) (rmul_nonneg hD hn)
   have h8:=rmul_nonneg hCD hn
   rw [e1]; grind
  ·have e1:f y*f' y-f x*f' x-(g x*f' x+f x*g' x)*(y-x)=f x*(f' y-f' x-g' x*(y-x))+f' x*(f y-f x-g x*(y-x))+(f y-f x)*(f' y-f' x):=by grind
   have h5:=ab_add (f x*(f' y-f' x-g' x*(y-x))+f' x*(f y-f x-g x*(y-x))) ((f y-f x)*(f' y-f' x))
   have h6:=ab_add (f x*(f' y-f' x-g' x*(y-x))) (f' x*(f y-f x-g x*(y-x)))
   rw [ab_mul] at h5
   rw [ab_mul,ab_mul] at h6
   have h7:=rmul_mono h3.1 h2.2 (ab_nonneg _) (rmul_nonneg hD hsq)
   have h8:=rmul_mono h4'.1 h1.2 (ab_nonneg _) (rmul_nonneg hC hsq)
   have h9:=rmul_mono h1.1 h2.1 (ab_nonneg _) (rmul_nonneg hD hn)
   have e2:C*ab (y-x)*(D*ab (y-x))=C*D*((y-x)*(y-x)):=by rw [← e0]; grind
   rw [e1]; grind
theorem Dv.smul {f g:R→R} {a b:R} (c:R) (h:Dv f g a b):Dv (fun x=>c*f x) (fun x=>c*g x) a b:=
 ((Dv.const c a b).mul h).congr (fun _ _=>rfl) fun x _=>by grind
theorem Dv.neg {f g:R→R} {a b:R} (h:Dv f g a b):Dv (fun x=>-f x) (fun x=>-g x) a b:=
 (h.smul (-1)).congr (fun x _=>by grind) fun x _=>by grind
theorem Dv.sub {f g f' g':R→R} {a b:R} (h:Dv f g a b) (k:Dv f' g' a b):Dv (fun x=>f x-f' x) (fun x=>g x-g' x) a b:=
 (h.add k.neg).congr (fun x _=>by grind) fun x _=>by grind
theorem Dv.comp {f g f' g':R→R} {a b:R} {c d:R} (h:Dv f g a b) (k:Dv f' g' c d) (hr:∀ x,In a b x→In c d (f x)):Dv (fun x=>f' (f x)) (fun x=>g' (f x)*g x) a b:=by
 obtain ⟨C,hC,hb,hq⟩:=h
 obtain ⟨D,hD,kb,kq⟩:=k
 have hCD:=rmul_nonneg hC hD
 have hCCD:=rmul_nonneg hC hCD
 refine ⟨D+C*D+C*(C*D),by grind,fun x hx=>?_,fun x y hx hy=>?_⟩
 ·have h1:=hb x hx; have h2:=kb _ (hr x hx)
  have h3:=rmul_mono h1.2 h2.2 (ab_nonneg _) hD
  rw [ab_mul]; grind
 ·have h1:=hq x y hx hy; have h2:=kq _ _ (hr x hx) (hr y hy); have h3:=hb x hx; have h4:=kb _ (hr x hx)
  have hn:=ab_nonneg (y-x)
  have hsq:=sq_nonneg (y-x)
  have e0:ab (y-x)*ab (y-x)=(y-x)*(y-x):=by rw [← ab_mul,ab_of hsq]
  have e3:ab (f y-f x)*ab (f y-f x)=(f y-f x)*(f y-f x):=by rw [← ab_mul,ab_of (sq_nonneg _)]
  constructor
  ·have h5:=rmul_le' h1.1 hD
   have h6:=rmul_nonneg hD hn
   have h7:=rmul_nonneg hCCD hn
   grind
  ·have e1:f' (f y)-f' (f x)-g' (f x)*g x*(y-x)=(f' (f y)-f' (f x)-g' (f x)*(f y-f x))+g' (f x)*(f y-f x-g x*(y-x)):=by grind
   have h5:=ab_add (f' (f y)-f' (f x)-g' (f x)*(f y-f x)) (g' (f x)*(f y-f x-g x*(y-x)))
   rw [ab_mul] at h5
   have h6:=rmul_mono h4.2 h1.2 (ab_nonneg _) (rmul_nonneg hC hsq)
   have h7:=rmul_mono h1.1 h1.1 (ab_nonneg _) (rmul_nonneg hC hn)
   have h8:C*ab (y-x)*(C*ab (y-x))=C*C*((y-x)*(y-x)):=by rw [← e0]; grind
   have h9:=rmul_le' (show (f y-f x)*(f y-f x)≤C*C*((y-x)*(y-x)) by grind) hD
   have h10:=rmul_nonneg hD hsq
   rw [e1]; grind
theorem Dv.ps {u:Nat→R} {r K:R} (h:PB u r K) {s:R} (hs:0≤s) (hsr:s<r):Dv (ps u) (ps (da u)) (-s) s:=by
 obtain ⟨C,hC,hq⟩:=ps_quad h hs hsr
 obtain ⟨t,w,hg,e⟩:=ratio hs hsr
 obtain ⟨s',hs1,hs2⟩:=between hsr
 obtain ⟨L,hL⟩:=h.da (s:=s') (by grind) hs2
 obtain ⟨t',w',hg',e'⟩:=ratio hs hs1
 have b1:∀ x,In (-s) s x→ab x≤s:=fun x hx=>ab_le.2 hx
 have b2:∀ x,In (-s) s x→ab (An.ps u x)≤K*w:=fun x hx=>by
  have h1:=ps_tail h hg (show ab x≤t*r by have:=b1 x hx; grind) 0
  rw [show psum u x 0=0 from rfl,rpow_zero] at h1
  have h2:An.ps u x-0=An.ps u x:=by grind
  rw [h2] at h1; grind
 have b3:∀ x,In (-s) s x→ab (An.ps (da u) x)≤L*w':=fun x hx=>by
  have h1:=ps_tail hL hg' (show ab x≤t'*s' by have:=b1 x hx; grind) 0
  rw [show psum (da u) x 0=0 from rfl,rpow_zero] at h1
  have h2:An.ps (da u) x-0=An.ps (da u) x:=by grind
  rw [h2] at h1; grind
 have hKw:0≤K*w:=rmul_nonneg h.k0 (by have:=hg.pos; grind)
 have hLw:0≤L*w':=rmul_nonneg hL.k0 (by have:=hg'.pos; grind)
 have hCs:=rmul_nonneg hC hs
 refine ⟨K*w+L*w'+C+2*(C*s),by grind,fun x hx=>⟨by have:=b2 x hx; grind,by have:=b3 x hx; grind⟩,fun x y hx hy=>?_⟩
 have h1:=hq x y (b1 x hx) (b1 y hy)
 have hn:=ab_nonneg (y-x)
 have hsq:=sq_nonneg (y-x)
 have e0:ab (y-x)*ab (y-x)=(y-x)*(y-x):=by rw [← ab_mul,ab_of hsq]
 have hd:ab (y-x)≤2*s:=by have:=hx.1; have:=hx.2; have:=hy.1; have:=hy.2; exact ab_le.2 (by grind)
 constructor
 ·have e1:An.ps u y-An.ps u x=(An.ps u y-An.ps u x-An.ps (da u) x*(y-x))+An.ps (da u) x*(y-x):=by grind
  have h2:=ab_add (An.ps u y-An.ps u x-An.ps (da u) x*(y-x)) (An.ps (da u) x*(y-x))
  rw [ab_mul] at h2
  have h3:=rmul_le (b3 x hx) hn
  have h4:=rmul_le' hd (rmul_nonneg hC hn)
  have h5:=rmul_nonneg hKw hn
  have h6:=rmul_nonneg hC hn
  rw [← e0] at h1
  rw [e1]; grind
 ·have h2:=rmul_nonneg hKw hsq
  have h3:=rmul_nonneg hLw hsq
  have h4:=rmul_nonneg hCs hsq
  grind
theorem Dv.mono {f g:R→R} {a b:R} (h:Dv f g a b) (hab:a≤b) (hg:∀ x,In a b x→0≤g x):f a≤f b:=by
 obtain ⟨C,hC,_,hq⟩:=h
 refine eq_of_le fun e he=>?_
 have hep:=ofQ_pos he
 obtain ⟨N,hN⟩:=arch (C*((b-a)*(b-a))*(ofQ e)⁻¹)
 have hi:=mul_inv (x:=ofQ e) (by grind)
 have h1:C*((b-a)*(b-a))≤((N+1:Nat):R)*ofQ e:=by
  have h2:=rmul_le hN (show 0≤ofQ e by grind)
  have h3:C*((b-a)*(b-a))*(ofQ e)⁻¹*ofQ e=C*((b-a)*(b-a)):=by grind
  rw [cast_succ]; grind
 have hn0:(0:R)<((N+1:Nat):R):=by rw [cast_succ]; have:=cast_nonneg N; have:=rzero_lt_one; grind
 have hni:=mul_inv (x:=((N+1:Nat):R)) (by grind)
 have hnp:=inv_pos hn0
 generalize hd:(b-a)*((N+1:Nat):R)⁻¹=d
 have hd0:0≤d:=by rw [← hd]; exact rmul_nonneg (by grind) (by grind)
 have hdn:((N+1:Nat):R)*d=b-a:=by grind
 have step:∀ i:Nat,i≤N+1→f a-i*(C*(d*d))≤f (a+i*d):=by
  intro i
  induction i with
  | zero=>
   intro _
   have:a+((0:Nat):R)*d=a:=by rw [show ((0:Nat):R)=0 from rfl]; grind
   rw [this,show ((0:Nat):R)=0 from rfl]; grind
  | succ i ih=>
   intro hi
   have h2:=ih (by omega)
   have in0:In a b (a+i*d):=by
    have k1:=rmul_le (cast_le (show i≤N+1 by omega)) hd0
    have k2:=rmul_nonneg (cast_nonneg i) hd0
    exact ⟨by grind,by grind⟩
   have in1:In a b (a+((i+1:Nat):R)*d):=by
    have k1:=rmul_le (cast_le hi) hd0
    have k2:=rmul_nonneg (cast_nonneg (i+1)) hd0
    exact ⟨by grind,by grind⟩
   have h3:=(hq _ _ in0 in1).2
   have e1:a+((i+1:Nat):R)*d-(a+i*d)=d:=by rw [cast_succ]; grind
   rw [e1] at h3
   have h4:=(ab_le.1 h3).1
   have h5:=rmul_nonneg (hg _ in0) hd0
   have h6:((i+1:Nat):R)*(C*(d*d))=i*(C*(d*d))+C*(d*d):=by rw [cast_succ]; grind
   rw [h6]; grind
 have h2:=step (N+1) (Nat.le_refl _)
 have e2:a+((N+1:Nat):R)*d=b:=by grind
 rw [e2] at h2
 have h3:((N+1:Nat):R)*(C*(d*d))≤ofQ e:=by
  refine cancel hn0 ?_
  have:((N+1:Nat):R)*(C*(d*d))*((N+1:Nat):R)=C*((b-a)*(b-a)):=by rw [← hdn]; grind
  rw [this]; grind
 grind
theorem Dv.fixed {f g:R→R} {a b:R} (h:Dv f g a b) (hab:a≤b) (hg:∀ x,In a b x→g x=0):f a=f b:=by
 refine rle_antisymm (h.mono hab fun x hx=>by rw [hg x hx]; exact rle_refl _) ?_
 have:=h.neg.mono hab fun x hx=>by rw [hg x hx]; grind
 grind
theorem Dv.between {f g:R→R} {a b:R} (h:Dv f g a b) (hab:a≤b) {m M:R} (hg:∀ x,In a b x→m≤g x∧g x≤M):m*(b-a)≤f b-f a∧f b-f a≤M*(b-a):=by
 have h1:=(h.sub ((Dv.id a b).smul m)).mono hab fun x hx=>by have:=(hg x hx).1; grind
 have h2:=(((Dv.id a b).smul M).sub h).mono hab fun x hx=>by have:=(hg x hx).2; grind
 grind
theorem Dv.same {f g:R→R} {a b:R} (h:Dv f g a b) (hg:∀ x,In a b x→g x=0) {x y:R} (hx:In a b x) (hy:In a b y):f x=f y:=by
 rcases rle_total x y with k | k
 ·exact (h.sub_iv hx.1 hy.2).fixed k fun z hz=>hg z ⟨rle_trans hx.1 hz.1,rle_trans hz.2 hy.2⟩
 ·exact ((h.sub_iv hy.1 hx.2).fixed k fun z hz=>hg z ⟨rle_trans hy.1 hz.1,rle_trans hz.2 hx.2⟩).symm
theorem Dv.inv {f g u:R→R} {a b:R} (h:Dv f g a b) {M:R} (hM:0≤M) (hu:∀ x,In a b x→u x*f x=1∧ab (u x)≤M):Dv u (fun x=>-(g x*(u x*u x))) a b:=by
 obtain ⟨C,hC,hb,hq⟩:=h
 have hMM:=rmul_nonneg hM hM
 have hMMM:=rmul_nonneg hM hMM
 have h1:=rmul_nonneg hC hMM
 have h2:=rmul_nonneg (rmul_nonneg hC hC) hMMM
 refine ⟨M+C*(M*M)+C*C*(M*(M*M)),by grind,fun x hx=>?_,fun x y hx hy=>?_⟩
 ·have k1:=(hu x hx).2
  have k2:=rmul_mono k1 k1 (ab_nonneg _) hM
  have k3:=rmul_mono (hb x hx).2 k2 (ab_nonneg _) hMM
  rw [ab_neg,ab_mul,ab_mul]; grind
 ·have k1:=hu x hx; have k2:=hu y hy
  have k3:=hq x y hx hy
  have hn:=ab_nonneg (y-x)
  have hsq:=sq_nonneg (y-x)
  have e0:ab (y-x)*ab (y-x)=(y-x)*(y-x):=by rw [← ab_mul,ab_of hsq]
  have e1:u y-u x = -(u x*u y*(f y-f x)):=by grind
  have m1:=rmul_mono k1.2 k2.2 (ab_nonneg _) hM
  have l1:ab (u y-u x)≤C*(M*M)*ab (y-x):=by
   rw [e1,ab_neg,ab_mul,ab_mul]
   have:=rmul_mono m1 k3.1 (rmul_nonneg (ab_nonneg _) (ab_nonneg _)) (rmul_nonneg hC hn)
   grind
  constructor
  ·have:=rmul_nonneg hM hn
   have:=rmul_nonneg h2 hn
   grind
  ·have e2:u y-u x - -(g x*(u x*u x))*(y-x) = -(u x*u y*(f y-f x-g x*(y-x)))-g x*u x*(y-x)*(u y-u x):=by
    have:u x*u y*(f y-f x)=u x-u y:=by grind
    grind
   have q1:=ab_sub (-(u x*u y*(f y-f x-g x*(y-x)))) (g x*u x*(y-x)*(u y-u x))
   rw [ab_neg,ab_mul,ab_mul,ab_mul (g x*u x*(y-x)),ab_mul (g x*u x),ab_mul (g x)] at q1
   have q2:=rmul_mono m1 k3.2 (rmul_nonneg (ab_nonneg _) (ab_nonneg _)) (rmul_nonneg hC hsq)
   have q3:=rmul_mono (hb x hx).2 k1.2 (ab_nonneg _) hM
   have q4:=rmul_mono (rmul_le q3 hn) l1 (rmul_nonneg (rmul_nonneg (ab_nonneg _) (ab_nonneg _)) hn) (rmul_nonneg h1 hn)
   have q5:C*M*ab (y-x)*(C*(M*M)*ab (y-x))=C*C*(M*(M*M))*((y-x)*(y-x)):=by rw [← e0]; grind
   have q6:=rmul_nonneg hM hsq
   rw [e2]; grind
noncomputable def rf:Nat→R
 | 0=>1
 | n+1=>rf n*((n+1:Nat):R)⁻¹
theorem cast_pos (n:Nat):(0:R)<((n+1:Nat):R):=by rw [cast_succ]; have:=cast_nonneg n; have:=rzero_lt_one; grind
theorem rf_succ (n:Nat):((n+1:Nat):R)*rf (n+1)=rf n:=by
 have:=mul_inv (x:=((n+1:Nat):R)) (by have:=cast_pos n; grind)
 rw [show rf (n+1)=rf n*((n+1:Nat):R)⁻¹ from rfl]; grind
theorem rf_pos (n:Nat):0<rf n:=by
 induction n with
 | zero=>exact rzero_lt_one
 | succ n ih=>exact rmul_pos ih (inv_pos (cast_pos n))
theorem upto (u:Nat→R) (N:Nat):∃ K,∀ n,n≤N→u n≤K:=by
 induction N with
 | zero=>exact ⟨u 0,fun n hn=>by rw [Nat.le_zero.1 hn]; exact rle_refl _⟩
 | succ N ih=>
  obtain ⟨K,hK⟩:=ih
  have h1:=le_ab K
  have h2:=le_ab (u (N+1))
  refine ⟨ab K+ab (u (N+1)),fun n hn=>?_⟩
  have h3:=ab_nonneg K
  have h4:=ab_nonneg (u (N+1))
  rcases Nat.lt_or_ge N n with k | k
  ·rw [show n=N+1 by omega]; grind
  ·have:=hK n k; grind
theorem rf_bound {r:R} (hr:0<r):∃ K,∀ n,rf n*r ^ n≤K:=by
 obtain ⟨N,hN⟩:=arch r
 obtain ⟨K,hK⟩:=upto (fun n=>rf n*r ^ n) N
 refine ⟨K,fun n=>?_⟩
 induction n with
 | zero=>exact hK 0 (Nat.zero_le _)
 | succ n ih=>
  rcases Nat.lt_or_ge n N with k | k
  ·exact hK (n+1) k
  ·have h1:=rf_succ n
   have h2:r≤((n+1:Nat):R):=rle_trans hN (cast_le (by omega))
   have h3:=rmul_nonneg (show 0≤rf (n+1) by have:=rf_pos (n+1); grind) (pow_nonneg (show 0≤r by grind) n)
   have h4:=rmul_le' h2 h3
   have h5:rf (n+1)*r ^ n*((n+1:Nat):R)=rf n*r ^ n:=by rw [← h1]; grind
   rw [rpow_succ]; grind
theorem PB.of {a:Nat→R} (h:∀ n,ab (a n)≤rf n) {r:R} (hr:0<r):∃ K,PB a r K:=by
 obtain ⟨K,hK⟩:=rf_bound hr
 exact ⟨K,hr,fun n=>rle_trans (rmul_le (h n) (pow_nonneg (by grind) n)) (hK n)⟩
theorem Dv.rf {a:Nat→R} (h:∀ n,ab (a n)≤rf n) {s:R} (hs:0≤s):Dv (An.ps a) (An.ps (An.da a)) (-s) s:=by
 obtain ⟨K,hK⟩:=PB.of h (r:=s+1) (by have:=rzero_lt_one; grind)
 exact Dv.ps hK hs (by have:=rzero_lt_one; grind)
theorem in_of {s x:R} (h:ab x≤s):In (-s) s x:=ab_le.1 h
theorem Dv.back {f g:R→R} {s c:R} (h:Dv f g (-(s+ab c)) (s+ab c)):Dv (fun t=>f (c-t)) (fun t=>-g (c-t)) (-s) s:=by
 have h1:=((Dv.const c (-s) s).sub (Dv.id (-s) s)).comp h (fun x hx=>by
  have:=le_ab c
  have:=hx.1
  have:=hx.2
  exact ⟨by grind,by grind⟩)
 exact h1.congr (fun _ _=>rfl) fun x _=>by grind
theorem half_ex (x:R):∃ y,x=y+y:=⟨x*ofQ (1 / 2),by have k:=ofQ_half 1; rw [ofQ_one] at k; grind⟩
def sg4:Nat→R × R
 | 0=>(0,1)
 | n+1=>((sg4 n).2,-(sg4 n).1)
def sS (n:Nat):R:=(sg4 n).1
def sC (n:Nat):R:=(sg4 n).2
theorem sS_succ (n:Nat):sS (n+1)=sC n:=rfl
theorem sC_succ (n:Nat):sC (n+1) = -sS n:=rfl
theorem sg_ab (n:Nat):ab (sS n)≤1∧ab (sC n)≤1:=by
 induction n with
 | zero=>exact ⟨by rw [show sS 0=0 from rfl,ab_zero]; have:=rzero_lt_one; grind,by rw [show sC 0=1 from rfl,ab_one]; exact rle_refl _⟩
 | succ n ih=>rw [sS_succ,sC_succ,ab_neg]; exact ⟨ih.2,ih.1⟩
noncomputable def cs (n:Nat):R:=sS n*rf n
noncomputable def cco (n:Nat):R:=sC n*rf n
noncomputable def S (x:R):R:=ps cs x
noncomputable def C (x:R):R:=ps cco x
theorem sg_rf {a:R} (n:Nat) (h:ab a≤1):ab (a*rf n)≤rf n:=by
 rw [ab_mul,ab_of (show 0≤rf n by have:=rf_pos n; grind)]
 have:=rmul_le h (show 0≤rf n by have:=rf_pos n; grind); grind
theorem cs_ab (n:Nat):ab (cs n)≤rf n:=sg_rf n (sg_ab n).1
theorem cc_ab (n:Nat):ab (cco n)≤rf n:=sg_rf n (sg_ab n).2
theorem da_cs:da cs=cco:=funext fun n=>by rw [da,cs,cco,sS_succ]; have:=rf_succ n; grind
theorem da_cc:da cco=fun n=>-cs n:=funext fun n=>by rw [da,cs,cco,sC_succ]; have:=rf_succ n; grind
theorem psum_neg (a:Nat→R) (x:R) (n:Nat):psum (fun n=>-a n) x n = -psum a x n:=by
 induction n with
 | zero=>show (0:R) = -0; grind
 | succ n ih=>show psum (fun n=>-a n) x n + -a n*x ^ n = -(psum a x n+a n*x ^ n); rw [ih]; grind
theorem ps_rf {a:Nat→R} (h:∀ n,ab (a n)≤rf n) (x:R):Conv (psum a x) (ps a x):=by
 obtain ⟨K,hK⟩:=PB.of h (r:=ab x+1) (by have:=ab_nonneg x; have:=rzero_lt_one; grind)
 exact ps_conv hK (by have:=rzero_lt_one; grind)
theorem ps_neg_cs (x:R):ps (fun n=>-cs n) x = -S x:=ps_eq ((ps_rf cs_ab x).neg.congr fun n=>(psum_neg cs x n).symm)
theorem S_dv {s:R} (hs:0≤s):Dv S C (-s) s:=by
 have:=Dv.rf cs_ab hs
 rwa [da_cs] at this
theorem C_dv {s:R} (hs:0≤s):Dv C (fun x=>-S x) (-s) s:=by
 have:=Dv.rf cc_ab hs
 rw [da_cc] at this
 exact this.congr (fun _ _=>rfl) fun x _=>ps_neg_cs x
theorem S_zero:S 0=0:=by rw [S,ps_zero,cs,show sS 0=0 from rfl]; grind
theorem C_zero:C 0=1:=by rw [C,ps_zero,cco,show sC 0=1 from rfl,show rf 0=1 from rfl]; grind
theorem S_add (x y:R):S (x+y)=S x*C y+C x*S y:=by
 have hs:0≤ab x+ab (x+y):=by have:=ab_nonneg x; have:=ab_nonneg (x+y); grind
 generalize hsd:ab x+ab (x+y)=s at hs
 have hn:=ab_nonneg (x+y)
 have h1:=((S_dv hs).mul (Dv.back (s:=s) (c:=x+y) (C_dv (by grind)))).add ((C_dv hs).mul (Dv.back (s:=s) (c:=x+y) (S_dv (by grind))))
 have h2:=h1.same (fun t _=>by grind) (x:=0) (y:=x) (in_of (by rw [ab_zero]; exact hs)) (in_of (by grind))
 rw [S_zero,C_zero,show x+y-0=x+y by grind,show x+y-x=y by grind] at h2
 grind
theorem C_add (x y:R):C (x+y)=C x*C y-S x*S y:=by
 have hs:0≤ab x+ab (x+y):=by have:=ab_nonneg x; have:=ab_nonneg (x+y); grind
 generalize hsd:ab x+ab (x+y)=s at hs
 have hn:=ab_nonneg (x+y)
 have h1:=((C_dv hs).mul (Dv.back (s:=s) (c:=x+y) (C_dv (by grind)))).sub ((S_dv hs).mul (Dv.back (s:=s) (c:=x+y) (S_dv (by grind))))
 have h2:=h1.same (fun t _=>by grind) (x:=0) (y:=x) (in_of (by rw [ab_zero]; exact hs)) (in_of (by grind))
 rw [S_zero,C_zero,show x+y-0=x+y by grind,show x+y-x=y by grind] at h2
 grind
theorem SC_one (x:R):S x*S x+C x*C x=1:=by
 have hs:=ab_nonneg x
 have h1:=((S_dv hs).mul (S_dv hs)).add ((C_dv hs).mul (C_dv hs))
 have h2:=h1.same (fun t _=>by grind) (x:=0) (y:=x) (in_of (by rw [ab_zero]; exact hs)) (in_of (rle_refl _))
 rw [S_zero,C_zero] at h2; grind
theorem SC_neg (x:R):S (-x) = -S x∧C (-x)=C x:=by
 have h1:=S_add x (-x)
 have h2:=C_add x (-x)
 rw [show x + -x=0 by grind,S_zero] at h1
 rw [show x + -x=0 by grind,C_zero] at h2
 have h3:=SC_one x
 generalize S x=s at *
 generalize C x=c at *
 have e1:s*(s*C (-x)+c*S (-x))=0:=by rw [← h1]; grind
 have e2:c*(c*C (-x)-s*S (-x))=c:=by rw [← h2]; grind
 have e3:c*(s*C (-x)+c*S (-x))=0:=by rw [← h1]; grind
 have e4:s*(c*C (-x)-s*S (-x))=s:=by rw [← h2]; grind
 have e5:(s*s+c*c)*C (-x)=c:=by grind
 have e6:(s*s+c*c)*S (-x) = -s:=by grind
 rw [h3] at e5 e6
 exact ⟨by grind,by grind⟩
theorem S_le (x:R):ab (S x)≤1∧ab (C x)≤1:=by
 have h:=SC_one x
 have h1:=sq_nonneg (S x)
 have h2:=sq_nonneg (C x)
 have key:∀ z:R,z*z≤1→ab z≤1:=by
  intro z hz
  rcases rle_total (ab z) 1 with k | k
  ·exact k
  ·have h3:=rmul_mono k k (by have:=rzero_lt_one; grind) (ab_nonneg z)
   have h4:ab z*ab z=z*z:=by rw [← ab_mul,ab_of (sq_nonneg z)]
   have h5:=rmul_le' k (ab_nonneg z)
   grind
 exact ⟨key _ (by grind),key _ (by grind)⟩
theorem Dv.bnd {f g:R→R} {a b:R} (h:Dv f g a b):∃ M,0≤M∧∀ x,In a b x→ab (f x)≤M:=by
 obtain ⟨C,hC,hb,_⟩:=h
 exact ⟨C,hC,fun x hx=>(hb x hx).1⟩
theorem Dv.compE {f g f' g':R→R} {a b:R} (h:Dv f g a b) (k:∀ s,0≤s→Dv f' g' (-s) s):Dv (fun x=>f' (f x)) (fun x=>g' (f x)*g x) a b:=by
 obtain ⟨M,hM,hb⟩:=h.bnd
 exact h.comp (k M hM) fun x hx=>ab_le.1 (hb x hx)
theorem sq_zero {x:R} (h:x*x=0):x=0:=by
 rcases Classical.em (x=0) with k | k
 ·exact k
 ·have:=mul_inv k; grind
theorem one_pow (n:Nat):(1:R) ^ n=1:=by
 induction n with
 | zero=>rfl
 | succ n ih=>rw [rpow_succ,ih]; grind
theorem PB.one {a:Nat→R} (h:∀ n,ab (a n)≤1):PB a 1 1:=⟨rzero_lt_one,fun n=>by rw [one_pow]; have:=h n; grind⟩
theorem inv_le_one (n:Nat):((n+1:Nat):R)⁻¹≤1:=by
 have h1:=mul_inv (x:=((n+1:Nat):R)) (by have:=cast_pos n; grind)
 have h2:=rmul_le (show (1:R)≤((n+1:Nat):R) by rw [cast_succ]; have:=cast_nonneg n; grind) (show 0≤((n+1:Nat):R)⁻¹ by have:=inv_pos (cast_pos n); grind)
 grind
theorem over_ab {a:Nat→R} (h0:a 0=0) (h:∀ n,ab (a n)≤1) (n:Nat):ab (a n*((n:Nat):R)⁻¹)≤1:=by
 cases n with
 | zero=>rw [h0,show (0:R)*((0:Nat):R)⁻¹=0 by grind,ab_zero]; have:=rzero_lt_one; grind
 | succ n=>
  have hp:=inv_pos (cast_pos n)
  rw [ab_mul,ab_of (show 0≤((n+1:Nat):R)⁻¹ by grind)]
  have:=rmul_mono (h (n+1)) (inv_le_one n) (ab_nonneg _) (show (0:R)≤1 by have:=rzero_lt_one; grind)
  grind
theorem over_da {a:Nat→R} (n:Nat):da (fun n=>a n*((n:Nat):R)⁻¹) n=a (n+1):=by
 have:=mul_inv (x:=((n+1:Nat):R)) (by have:=cast_pos n; grind)
 rw [da]; grind
noncomputable def atc (n:Nat):R:=sS n*((n:Nat):R)⁻¹
noncomputable def A (x:R):R:=ps atc x
noncomputable def Q (x:R):R:=ps sC x
theorem atc_pb:PB atc 1 1:=PB.one (over_ab rfl fun n=>(sg_ab n).1)
theorem sC_pb:PB sC 1 1:=PB.one fun n=>(sg_ab n).2
theorem A_zero:A 0=0:=by rw [A,ps_zero,atc,show sS 0=0 from rfl]; grind
theorem A_dv {s:R} (hs:0≤s) (h1:s<1):Dv A Q (-s) s:=by
 have:=Dv.ps atc_pb hs h1
 rwa [show da atc=sC from funext over_da] at this
theorem Q_fin (x:R) (n:Nat):psum sC x (n+2)+psum sC x n*(x*x)=1:=by
 induction n with
 | zero=>rw [show psum sC x (0+2)=0+1*x ^ 0 + -0*x ^ (0+1) from rfl,show psum sC x 0=0 from rfl,rpow_zero]; grind
 | succ n ih=>
  rw [show psum sC x (n+1+2)=psum sC x (n+2)+sC (n+2)*x ^ (n+2) from rfl,show psum sC x (n+1)=psum sC x n+sC n*x ^ n from rfl,show sC (n+2) = -sC n from rfl,rpow_succ,rpow_succ]; grind
theorem Q_eq {x:R} (h:ab x<1):Q x*(1+x*x)=1:=by
 have c:=ps_conv sC_pb h
 have h1:=(c.shift 2).add (c.mul_c (x*x))
 have h2:=h1.congr fun n=>Q_fin x n
 have:=h2.uniq (Conv.const 1)
 rw [Q]; grind
theorem Q_dv {s:R} (hs:0≤s) (h1:s<1):Dv Q (fun x=>-((x+x)*(Q x*Q x))) (-s) s:=by
 obtain ⟨M,hM,hb⟩:=(Dv.ps sC_pb hs h1).bnd
 have h2:=(Dv.const 1 (-s) s).add ((Dv.id (-s) s).mul (Dv.id (-s) s))
 refine (h2.inv hM fun x hx=>⟨?_,hb x hx⟩).congr (fun _ _=>rfl) fun x _=>?_
 ·have:=Q_eq (x:=x) (by have:=ab_le.2 hx; grind)
  exact this
 ·show -((0+(1*x+x*1))*(ps sC x*ps sC x)) = -((x+x)*(Q x*Q x))
  rw [Q]; grind
theorem tan_A {z:R} (h:ab z<1):S (A z)=z*C (A z):=by
 have hs:=ab_nonneg z
 have dA:=A_dv hs h
 have dS:=dA.compE fun s hs=>S_dv hs
 have dC:=dA.compE fun s hs=>C_dv hs
 have dD:=dC.add ((Dv.id (-ab z) (ab z)).mul dS)
 have dW:=(dD.mul dD).mul (Q_dv hs h)
 have hz:=dW.same (fun x hx=>by
  have hq:=Q_eq (x:=x) (by have:=ab_le.2 hx; grind)
  generalize Q x=q at *
  generalize S (A x)=u at *
  generalize C (A x)=v at *
  have e1 : -u*q+(1*u+x*(v*q))=x*q*(v+x*u):=by
   have:u=u*(q*(1+x*x)):=by rw [hq]; grind
   grind
  rw [e1]; grind) (x:=0) (y:=z) (in_of (by rw [ab_zero]; exact hs)) (in_of (rle_refl _))
 have q0:Q 0=1:=by rw [Q,ps_zero]; rfl
 rw [A_zero,S_zero,C_zero,q0] at hz
 have hq:=Q_eq h
 have h1:=SC_one (A z)
 generalize Q z=q at *
 generalize S (A z)=u at *
 generalize C (A z)=v at *
 have h2:(v+z*u)*(v+z*u)*q=1:=by grind
 have h3:(v+z*u)*(v+z*u)=1+z*z:=by
  have:(v+z*u)*(v+z*u)*(q*(1+z*z))=1*(1+z*z):=by rw [← h2]; grind
  rw [hq] at this; grind
 have h4:(u-z*v)*(u-z*v)=0:=by
  have:(u-z*v)*(u-z*v)+(v+z*u)*(v+z*u)=(1+z*z)*(u*u+v*v):=by grind
  rw [h3,h1] at this; grind
 have:=sq_zero h4
 grind
def eo:Nat→R × R
 | 0=>(0,1)
 | n+1=>((eo n).2,(eo n).1)
def od (n:Nat):R:=(eo n).1
noncomputable def ahc (n:Nat):R:=od n*((n:Nat):R)⁻¹
noncomputable def H (x:R):R:=ps ahc x
noncomputable def Ln (y:R):R:=H ((y-1)*(y+1)⁻¹)+H ((y-1)*(y+1)⁻¹)
noncomputable def hp:R:=8*A (ofQ (1 / 5))-2*A (ofQ (1 / 239))
theorem q_ab {q:Rat} (h:0≤q) (h1:q<1):ab (ofQ q)<1:=by
 rw [ab_of (show 0≤ofQ q from ofQ_le.2 h)]; exact ofQ_lt.2 h1
theorem hp_eq:S hp=1∧C hp=0:=by
 have a1:=tan_A (q_ab (q:=1 / 5) (by decide +kernel) (by decide +kernel))
 have a2:=tan_A (q_ab (q:=1 / 239) (by decide +kernel) (by decide +kernel))
 have f5:5*ofQ (1 / 5)=1:=by rw [show (5:R)=ofQ 5 from rfl,← ofQ_mul,show (5:Rat)*(1 / 5)=1 by decide +kernel]; rfl
 have f239:239*ofQ (1 / 239)=1:=by rw [show (239:R)=ofQ 239 from rfl,← ofQ_mul,show (239:Rat)*(1 / 239)=1 by decide +kernel]; rfl
 rw [hp]
 generalize ofQ (1 / 5)=s at *
 generalize ofQ (1 / 239)=t at *
 generalize A s=a at *
 generalize A t=b at *
 have o1:=SC_one a
 have o2:=SC_one b
 have d1:=S_add a a
 have d2:=C_add a a
 have q1:=S_add (a+a) (a+a)
 have q2:=C_add (a+a) (a+a)
 have p1:=S_add (a+a+(a+a)) (-b)
 have p2:=C_add (a+a+(a+a)) (-b)
 rw [(SC_neg b).1,(SC_neg b).2] at p1 p2
 have r1:=S_add (a+a+(a+a) + -b) (a+a+(a+a) + -b)
 have r2:=C_add (a+a+(a+a) + -b) (a+a+(a+a) + -b)
 have o3:=SC_one (a+a+(a+a) + -b)
 rw [show 8*a-2*b=a+a+(a+a) + -b+(a+a+(a+a) + -b) by grind]
 generalize S (a+a+(a+a) + -b)=X at *
 generalize C (a+a+(a+a) + -b)=Y at *
 generalize S (a+a+(a+a))=S4 at *
 generalize C (a+a+(a+a))=C4 at *
 generalize S (a+a)=S2 at *
 generalize C (a+a)=C2 at *
 generalize C a=c at *
 generalize C b=e at *
 have g1:5*S a=c:=by rw [a1]; grind
 have g2:239*S b=e:=by rw [a2]; grind
 clear a1 a2
 generalize S a=u at *
 generalize S b=v at *
 have k1:12*S2=5*C2:=by rw [d1,d2,← g1]; grind
 have k2:119*S4=120*C4:=by
  have:S2*C2*12=5*(C2*C2):=by grind
  have:144*(S2*S2)=25*(C2*C2):=by grind
  rw [q1,q2]; grind
 have k3:119*X=119*Y:=by
  rw [p1,p2,← g2]
  have h1:119*(S4*(239*v))=120*239*(C4*v):=by grind
  have h2:119*(S4*v)=120*(C4*v):=by grind
  grind
 have k4:X=Y:=by grind
 rw [k4] at o3 r1 r2
 exact ⟨by grind,by grind⟩
theorem S_hp (x:R):S (x+hp)=C x:=by rw [S_add,hp_eq.1,hp_eq.2]; grind
noncomputable def hf:R:=ofQ (1 / 2)
end Go.An
namespace Go.Proofs.YtoakhpdeadglpaaGreat.Gen
open Go Go.Abs Go.Plain Go.An
structure Mem (a:I) (x:R):Prop where
 lo:ofQ (val a.lo)≤x
 hi:x≤ofQ (val a.hi)
structure Has (r:I × Int) (x:R) (L H:Int):Prop where
 e:r.2=0
 ok:OkI r.1 L H
 m:Mem r.1 x
theorem Has.mono {r:I × Int} {x:R} {L H L' H':Int} (h:Has r x L H) (h1:L'≤L) (h2:H≤H'):Has r x L' H':=⟨h.e,h.ok.mono h1 h2,h.m⟩
end Go.Proofs.YtoakhpdeadglpaaGreat.Gen
namespace Go.An
theorem sizeR {f g:R→R} (h:∀ s,0≤s→Dv f g (-s) s) {x M:R} (hM:∀ z,ab z≤ab x→ab (g z)≤M):ab (f x-f 0)≤M*ab x:=by
 have hs:=ab_nonneg x
 have d:=h _ hs
 have hg:∀ z,In (-ab x) (ab x) z→-M≤g z∧g z≤M:=fun z hz=>ab_le.1 (hM z (ab_le.2 hz))
 rcases rle_total 0 x with k | k
 ·have e:=ab_of k
  have b:=(d.sub_iv (c:=0) (d:=x) (by grind) (by grind)).between k (m:=-M) (M:=M) fun z hz=>hg z ⟨by have:=hz.1; grind,by have:=hz.2; grind⟩
  rw [e]; exact ab_le.2 (by grind)
 ·have e:ab x = -x:=by rw [← ab_neg]; exact ab_of (by grind)
  have b:=(d.sub_iv (c:=x) (d:=0) (by grind) (by grind)).between k (m:=-M) (M:=M) fun z hz=>hg z ⟨by have:=hz.1; grind,by have:=hz.2; grind⟩
  rw [e]; exact ab_le.2 (by grind)
theorem S_size (x:R):ab (S x)≤ab x:=by
 have h:=sizeR (fun s hs=>S_dv hs) (x:=x) (M:=1) fun z _=>(S_le z).2
 rw [S_zero] at h
 have e:S x-0=S x:=by grind
 rw [e] at h; grind
theorem C_size (x:R):1-x*x≤C x:=by
 have h:=sizeR (fun s hs=>C_dv hs) (x:=x) (M:=ab x) fun z hz=>by
  rw [ab_neg]; exact rle_trans (S_size z) hz
 rw [C_zero] at h
 have e:ab x*ab x=x*x:=by rw [← ab_mul,ab_of (sq_nonneg x)]
 rw [e] at h
 have:=(ab_le.1 h).1
 grind
theorem sq_lt_one {u:R} (h:ab u<1):u*u<1:=by
 have e:ab u*ab u=u*u:=by rw [← ab_mul,ab_of (sq_nonneg u)]
 have h1:=rmul_le (show ab u≤1 by grind) (ab_nonneg u)
 grind
theorem S_pos {u:R} (h0:0<u) (h1:u<1):0<S u:=by
 have hu:ab u=u:=ab_of (by grind)
 have hq:=sq_lt_one (u:=u) (by grind)
 have b:=((S_dv (s:=u) (by grind)).sub_iv (c:=0) (d:=u) (by grind) (by grind)).between (by grind) (m:=1-u*u) (M:=1) fun z hz=>by
  have k1:=C_size z
  have k2:=rmul_mono hz.2 hz.2 hz.1 (show 0≤u by grind)
  have k3:=(ab_le.1 (S_le z).2).2
  exact ⟨by grind,k3⟩
 rw [S_zero] at b
 have:=rmul_pos (show 0<1-u*u by grind) h0
 grind
end Go.An
namespace Go.Proofs.YtoakhpdeadglpaaGreat.Gen
open Go Go.Abs Go.Plain Go.An
structure HasW (r:I × Int) (x:R) (L H:Int) (w:Rat):Prop where
 h:Has r x L H
 w:val r.1.hi-val r.1.lo≤w
theorem HasW.mono {r:I × Int} {x:R} {L H L' H':Int} {w w':Rat} (h:HasW r x L H w) (h1:L'≤L) (h2:H≤H') (h3:w≤w'):HasW r x L' H' w':=⟨h.h.mono h1 h2,by have:=h.w; grind⟩
end Go.Proofs.YtoakhpdeadglpaaGreat.Gen
namespace Go.An
def q4:Nat→Rat × Rat
 | 0=>(0,1)
 | n+1=>((q4 n).2,-(q4 n).1)
def atq (n:Nat):Rat:=(q4 n).1*(n:Rat)⁻¹
def qsum (a:Nat→Rat) (x:Rat):Nat→Rat
 | 0=>0
 | n+1=>qsum a x n+a n*x ^ n
theorem q4_eq (n:Nat):sg4 n=(ofQ (q4 n).1,ofQ (q4 n).2):=by
 induction n with
 | zero=>rfl
 | succ n ih=>rw [sg4,q4,ih,ofQ_neg]
theorem over_q {a:R} {q:Rat} {n:Nat} (h:a=ofQ q) (h0:n=0→q=0):a*((n:Nat):R)⁻¹=ofQ (q*(n:Rat)⁻¹):=by
 cases n with
 | zero=>rw [h,h0 rfl,Rat.zero_mul]; show (0:R)*_=0; grind
 | succ n=>rw [h,ofQ_mul,ofQ_inv (by exact_mod_cast Nat.succ_ne_zero n),ofQ_nat]
theorem atc_q (n:Nat):atc n=ofQ (atq n):=over_q (by rw [sS,q4_eq]) (by rintro rfl; rfl)
theorem psum_q {a:Nat→R} {b:Nat→Rat} (h:∀ n,a n=ofQ (b n)) (x:Rat) (n:Nat):psum a (ofQ x) n=ofQ (qsum b x n):=by
 induction n with
 | zero=>rfl
 | succ n ih=>rw [psum,qsum,ih,h,ofQ_add,ofQ_mul,ofQ_pow]
theorem geo_q {q:Rat} (h0:0≤q) (h1:q<1):Geo (ofQ q) (ofQ (1-q)⁻¹):=⟨ofQ_le.2 h0,ofQ_lt.2 h1,by
 rw [← ofQ_one,← ofQ_sub,← ofQ_mul,Rat.inv_mul_cancel _ (by grind)]⟩
theorem near_q {a:Nat→R} {b:Nat→Rat} (h:∀ n,a n=ofQ (b n)) (hb:∀ n,ab (a n)≤1) {q:Rat} (h0:0≤q) (h1:q<1) (n:Nat):ofQ (qsum b q n-(1-q)⁻¹*q ^ n)≤ps a (ofQ q)∧ps a (ofQ q)≤ofQ (qsum b q n+(1-q)⁻¹*q ^ n):=by
 have h2:=ps_tail (PB.one hb) (geo_q h0 h1) (x:=ofQ q) (by rw [ab_of (ofQ_le.2 h0)]; grind) n
 rw [psum_q h,← ofQ_pow] at h2
 have h3:=ab_le.1 h2
 rw [ofQ_sub,ofQ_add,ofQ_mul]
 exact ⟨by grind,by grind⟩
theorem A_q {q:Rat} (h0:0≤q) (h1:q<1) (n:Nat):ofQ (qsum atq q n-(1-q)⁻¹*q ^ n)≤A (ofQ q)∧A (ofQ q)≤ofQ (qsum atq q n+(1-q)⁻¹*q ^ n):=near_q atc_q (over_ab rfl fun n=>(sg_ab n).1) h0 h1 n
theorem pi_q:(31415926535897932384626433832794 / 10000000000000000000000000000000:Rat)≤16*(qsum atq (1 / 5) 50-(1-1 / 5)⁻¹*(1 / 5) ^ 50)-4*(qsum atq (1 / 239) 16+(1-1 / 239)⁻¹*(1 / 239) ^ 16)∧16*(qsum atq (1 / 5) 50+(1-1 / 5)⁻¹*(1 / 5) ^ 50)-4*(qsum atq (1 / 239) 16-(1-1 / 239)⁻¹*(1 / 239) ^ 16)≤(31415926535897932384626433832796 / 10000000000000000000000000000000:Rat):=by decide +kernel
theorem pi_near:ofQ (31415926535897932384626433832794 / 10000000000000000000000000000000)≤hp+hp∧hp+hp≤ofQ (31415926535897932384626433832796 / 10000000000000000000000000000000):=by
 have a1:=A_q (q:=1 / 5) (by decide +kernel) (by decide +kernel) 50
 have a2:=A_q (q:=1 / 239) (by decide +kernel) (by decide +kernel) 16
 have h1:=ofQ_le.2 pi_q.1
 have h2:=ofQ_le.2 pi_q.2
 have e16:ofQ 16=16:=rfl
 have e4:ofQ 4=4:=rfl
 generalize qsum atq (1 / 5) 50-(1-1 / 5)⁻¹*(1 / 5) ^ 50=l1 at *
 generalize qsum atq (1 / 5) 50+(1-1 / 5)⁻¹*(1 / 5) ^ 50=u1 at *
 generalize qsum atq (1 / 239) 16-(1-1 / 239)⁻¹*(1 / 239) ^ 16=l2 at *
 generalize qsum atq (1 / 239) 16+(1-1 / 239)⁻¹*(1 / 239) ^ 16=u2 at *
 rw [ofQ_sub,ofQ_mul,ofQ_mul,e16,e4] at h1 h2
 rw [hp]
 generalize A (ofQ (1 / 5))=x at *
 generalize A (ofQ (1 / 239))=y at *
 exact ⟨by grind,by grind⟩
def bnN:Nat→Int
 | 1=>1 | 2=>-1 | 3=>1 | 4=>-1 | 5=>5 | 6=>-691 | 7=>7 | 8=>-3617 | 9=>43867 | 10=>-174611 | _=>0
def bnD:Nat→Nat
 | 1=>6 | 2=>30 | 3=>42 | 4=>30 | 5=>66 | 6=>2730 | 7=>6 | 8=>510 | 9=>798 | 10=>330 | _=>1
def cK (k:Nat):Rat:=(bnN k:Rat) / ((bnD k*2*k*(2*k-1):Nat):Rat)
noncomputable def stS (y:R):Nat→R
 | 0=>0
 | k+1=>stS y k+ofQ (cK (k+1))*y⁻¹ ^ (2*k+1)
noncomputable def st (K:R) (y:R):R:=(y-hf)*Ln y-y+stS y 10+K
end Go.An
namespace Go.Proofs.YtoakhpdeadglpaaGreat.Gen
open Go Go.Abs Go.Plain Go.An
def Far (l:Int) (x:Rat):Prop:=x=0∨p2 l≤x∨x ≤ -p2 l
structure HasF (r:I × Int) (x:R) (l:Int) (p:Nat) (H:Int):Prop where
 h:Has r x (l-p) H
 lo:Far l (val r.1.lo)
 hi:Far l (val r.1.hi)
theorem Far.mono {l m:Int} {x:Rat} (h:Far l x) (k:m≤l):Far m x:=by
 have:=p2_le k
 rcases h with h | h | h
 ·exact Or.inl h
 ·right; left; grind
 ·right; right; grind
theorem HasF.mono {r:I × Int} {x:R} {l m H K:Int} {p:Nat} (h:HasF r x l p H) (k:m≤l) (hH:H≤K):HasF r x m p K:=⟨h.h.mono (by omega) hH,h.lo.mono k,h.hi.mono k⟩
structure Rel (c:I) (α:Rat):Prop where
 pos:0<val c.lo
 le:val c.lo≤val c.hi
 rel:val c.hi≤val c.lo*(1+α)
end Go.Proofs.YtoakhpdeadglpaaGreat.Gen
namespace Go.An
theorem hp_bounds:(1:R)<hp∧hp<2:=by
 have h:=pi_near
 have a:=ofQ_le.2 (show (3:Rat)≤31415926535897932384626433832794 / 10000000000000000000000000000000 by decide +kernel)
 have b:=ofQ_le.2 (show (31415926535897932384626433832796 / 10000000000000000000000000000000:Rat)≤16 / 5 by decide +kernel)
 have c:=ofQ_lt.2 (show (16 / 5:Rat)<4 by decide +kernel)
 have e3:ofQ 3=(1:R)+1+1:=by rw [← ofQ_one,← ofQ_add,← ofQ_add]; exact congrArg ofQ (by decide +kernel)
 have e4:ofQ 4=(1:R)+1+1+1:=by rw [← ofQ_one,← ofQ_add,← ofQ_add,← ofQ_add]; exact congrArg ofQ (by decide +kernel)
 have e2:(2:R)=1+1:=by grind
 have h01:=rzero_lt_one
 rw [e3] at a
 rw [e4] at c
 constructor<;>grind
theorem S_two (u:R):S (u+u)=2*(S u*C u):=by rw [S_add]; grind
theorem C_pos1 {u:R} (h:ab u<1):0<C u:=by
 have a:=C_size u
 have b:=sq_lt_one h
 grind
theorem S_pos2 {u:R} (h0:0<u) (h2:u<2):0<S u:=by
 obtain ⟨v,rfl⟩:=half_ex u
 have h01:=rzero_lt_one
 have v0:0<v:=by grind
 have v1:v<1:=by grind
 have a:=S_pos v0 v1
 have b:=C_pos1 (u:=v) (by rw [ab_of (by grind)]; exact v1)
 have m:=rmul_pos a b
 rw [S_two]
 grind
theorem C_pos {u:R} (h1 : -hp<u) (h2:u<hp):0<C u:=by
 have hb:=hp_bounds
 have key:∀ t:R,0≤t→t<hp→0<C t:=by
  intro t t0 t1
  have s:=S_pos2 (u:=hp-t) (by grind) (by grind)
  have e:S (hp-t)=C t:=by
   rw [show hp-t = -t+hp by grind,S_hp,(SC_neg t).2]
  rwa [e] at s
 rcases Classical.em (0≤u) with k | k
 ·exact key u k h2
 ·have:=key (-u) (by grind) (by grind)
  rwa [(SC_neg u).2] at this
theorem S_pos_pi {u:R} (h0:0<u) (h2:u<hp+hp):0<S u:=by
 obtain ⟨v,rfl⟩:=half_ex u
 have hb:=hp_bounds
 have h01:=rzero_lt_one
 have a:=S_pos2 (u:=v) (by grind) (by grind)
 have b:=C_pos (u:=v) (by grind) (by grind)
 have m:=rmul_pos a b
 rw [S_two]
 grind
structure Tan (x a:R):Prop where
 lo : -hp<a
 hi:a<hp
 t:S a=x*C a
theorem Tan.sub {x y a b:R} (h:Tan x a) (k:Tan y b):S (b-a)=(y-x)*(C a*C b):=by
 rw [show b-a=b + -a by grind,S_add,(SC_neg a).1,(SC_neg a).2,h.t,k.t]; grind
theorem Tan.lt {x y a b:R} (h:Tan x a) (k:Tan y b) (hab:a<b):x<y:=by
 have a1:=h.lo; have a2:=h.hi; have b1:=k.lo; have b2:=k.hi
 have s:=S_pos_pi (u:=b-a) (by grind) (by grind)
 rw [h.sub k] at s
 have c:=rmul_pos (C_pos a1 a2) (C_pos b1 b2)
 rcases Classical.em (x<y) with g | g
 ·exact g
 ·have:=rmul_nonneg (show 0≤x-y by grind) (show 0≤C a*C b by grind)
  grind
theorem Tan.mono {x y a b:R} (h:Tan x a) (k:Tan y b) (hxy:x≤y):a≤b:=by
 rcases Classical.em (a≤b) with g | g
 ·exact g
 ·have:=k.lt h (show b<a by grind); grind
theorem Tan.inj {x a b:R} (h:Tan x a) (k:Tan x b):a=b:=rle_antisymm (h.mono k (rle_refl _)) (k.mono h (rle_refl _))
end Go.An
namespace Go.Proofs.YtoakhpdeadglpaaGreat.Gen
open Go Go.Abs Go.Plain Go.An
structure PR (w:Nat) (c:I) (z:R) (l K:Int) (α:Rat):Prop where
 h:Has (c,0) z (l-w) K
 r:Rel c α
 lo:p2 l≤val c.lo
 rl:rep w (val c.lo)
 rh:rep w (val c.hi)
theorem PR.hi {w:Nat} {c:I} {z:R} {l K:Int} {α:Rat} (h:PR w c z l K α):val c.hi≤p2 K:=h.h.ok.hi.b.2
def nodeM (j:Nat):I × Int:=mS 64 (piS 64 0).1 (iS ((2*j+1:Nat):Int) (piS 64 0).2).1 (iS ((2*j+1:Nat):Int) (piS 64 0).2).2
def nodeA (j d:Nat):I × Int:=dS 64 (nodeM j).1 (iS ((2*d+2:Nat):Int) (nodeM j).2).1 (iS ((2*d+2:Nat):Int) (nodeM j).2).2
def nodeB (b:D × Int):D × Int:=if b.2≠0 then (zD,b.2) else if (sinR b.1 64 1).2≠0 then (zD,(sinR b.1 64 1).2) else st b.2 zD (midI 64 (sinR b.1 64 1).1)
def nodeR (j d:Nat):D × Int:=nodeB (st (nodeA j d).2 zD (midI 64 (nodeA j d).1))
theorem bindE_WD {r:D × Int} {f:D→D × Int} (h:WD (f r.1).1):WD (bindE r zD f).1:=by
 unfold bindE
 split
 ·exact h
 ·exact WD_z
theorem WD_mid {p:Nat} {a:I} : WD (midI p a).1:=bindE_WD (bindE_WD (bindE_WD WD_round))
theorem WD_st {e:Int} {r:D × Int} (h:WD r.1):WD (st e zD r).1:=by
 unfold st
 split
 ·exact h
 ·exact WD_z
theorem Node_in {j d:Nat} (hd:1≤d∧d≤16) (hj:j≤d):cheb_Node (j:Int) (d:Int)=some (dy (nodeR j d).1,(nodeR j d).2):=by
 obtain ⟨q,hq⟩:∃ q:Nat,q=64:=⟨64,rfl⟩
 have hw:2≤q∧q≤400:=by omega
 have e0:cheb_Node (j:Int) (d:Int)=cheb_Node_j1 (j:Int) (d:Int) false:=by
  unfold cheb_Node cheb_degree cheb_degree_j1
  rw [if_pos (by omega),decide_eq_true (by omega)]
  simp only [obn]
  rw [if_neg (by simp),if_neg (by omega),decide_eq_false (by omega)]
 have en:iv_New 64=some (Sum.inr (0,0,(q:Int))):=by rw [← ivNew_eq hw,hq]; rfl
 have eq:(64:Int)=(q:Int):=by rw [hq]; rfl
 rw [e0]
 unfold nodeR nodeB nodeA nodeM cheb_Node_j1 iv_trouble_Err
 rw [if_neg (by simp),en,← hq,eq]
 simp only [obn]
 have e1:=Pi_eq hw 0
 have s1:=SI_pi hw.2 0
 generalize piS q 0=P at *
 rw [e1]
 simp only [obn]
 have e2:=pInt (n:=((2*j+1:Nat):Int)) (by omega) P.2 (q:Int)
 have s2:=SI_iS (n:=((2*j+1:Nat):Int)) (by omega) P.2
 rw [w64 (x:=2*(j:Int)) (by omega) (by omega),w64 (x:=2*(j:Int)+1) (by omega) (by omega),show 2*(j:Int)+1=((2*j+1:Nat):Int) by omega]
 generalize iS ((2*j+1:Nat):Int) P.2=c1 at *
 refine Eq.trans (congrArg (fun o=>Option.bind o _) e2) ?_
 simp only [obn]
 have e3:=pMul hw s1 s2 c1.2
 have s3:=SI_mS hw.2 P.1 c1.1 c1.2
 generalize mS q P.1 c1.1 c1.2=m at *
 refine Eq.trans (congrArg (fun o=>Option.bind o _) e3) ?_
 simp only [obn]
 have e4:=pInt (n:=((2*d+2:Nat):Int)) (by omega) m.2 (q:Int)
 have s4:=SI_iS (n:=((2*d+2:Nat):Int)) (by omega) m.2
 rw [w64 (x:=2*(d:Int)) (by omega) (by omega),w64 (x:=2*(d:Int)+2) (by omega) (by omega),show 2*(d:Int)+2=((2*d+2:Nat):Int) by omega]
 generalize iS ((2*d+2:Nat):Int) m.2=c2 at *
 refine Eq.trans (congrArg (fun o=>Option.bind o _) e4) ?_
 simp only [obn]
 have e5:=pDiv hw s3 s4 c2.2
 have s5:=SI_dS hw.2 m.1 s4 c2.2
 generalize dS q m.1 c2.1 c2.2=k at *
 refine Eq.trans (congrArg (fun o=>Option.bind o _) e5) ?_
 simp only [obn]
 have e6:=ivMid_eq s5.ok hw k.2
 have w6:WD (st k.2 zD (midI q k.1)).1:=WD_st WD_mid
 generalize st k.2 zD (midI q k.1)=b at *
 refine Eq.trans (congrArg (fun o=>Option.bind o _) e6) ?_
 simp only [obn]
 by_cases h1:b.2=0
 ·have e7:=tCos_eq w6 (q:Int)
  have s7:SI (sinR b.1 (q:Int) 1).1:=SI_sinR w6
  rw [if_neg (by simpa using h1),if_neg (by simpa using h1)]
  generalize sinR b.1 (q:Int) 1=v at *
  refine Eq.trans (congrArg (fun o=>Option.bind o _) e7) ?_
  simp only [obn]
  by_cases h2:v.2=0
  ·rw [if_neg (by simpa using h2),if_neg (by simpa using h2)]
   refine Eq.trans (congrArg (fun o=>Option.bind o _) (ivMid_eq s7.ok hw b.2)) ?_
   rfl
  ·rw [if_pos h2,if_pos h2,dy_z]
 ·rw [if_pos h1,if_pos h1,dy_z]
theorem node01:(nodeR 0 1).2=0∧0<cmpD (nodeR 0 1).1 ⟨1,-1⟩∧cmpD (nodeR 0 1).1 (fromD 1)<0:=by decide +kernel
theorem nodeR_WD {j d:Nat} : WD (nodeR j d).1:=by
 unfold nodeR nodeB
 split
 ·exact WD_z
 ·split
  ·exact WD_z
  ·exact WD_st WD_mid
theorem node00:cheb_Node 0 0=some (⟨⟨false,[]⟩,0⟩,1):=rfl
theorem build15:((cheb_Build 8 0 ⟨⟨false,[1]⟩,0⟩ 0 10 4 9).map fun x=>(x.2.2,x.2.1))=some (3,0):=by decide +kernel
theorem from15:r05_From 1=some ⟨⟨false,[1]⟩,0⟩:=rfl
theorem half15:r05_Half (-1)=some ⟨⟨false,[1]⟩,-1⟩:=rfl
theorem dy_one:dy (fromD 1)=⟨⟨false,[1]⟩,0⟩:=Option.some.inj ((rFrom5_eq (n:=1) (by omega)).symm.trans from15)
theorem dy_half:dy ⟨1,-1⟩=⟨⟨false,[1]⟩,-1⟩:=Option.some.inj ((rHalf_eq (e:=-1) (by omega)).symm.trans half15)
theorem examples15:l15_examples=some true:=by
 obtain ⟨n1,n2,n3⟩:=node01
 have e:=Node_in (j:=0) (d:=1) (by omega) (by omega)
 have w:WD (nodeR 0 1).1:=nodeR_WD
 obtain ⟨b,eb,hb⟩:=Option.map_eq_some_iff.1 build15
 simp only [Prod.mk.injEq] at hb
 have c1:=rCmp5_eq w (WD_half (k:=-1) (by omega))
 have c2:=rCmp5_eq w (WD_from (n:=1) (by omega))
 rw [dy_half] at c1
 rw [dy_one] at c2
 generalize nodeR 0 1=v at *
 have e:cheb_Node 0 1=some (dy v.1,v.2):=e
 unfold l15_examples l15_examples_j1
 rw [node00]
 simp only [obn]
 rw [from15]
 simp only [obn]
 rw [eb]
 simp only [obn]
 rw [e]
 simp only [obn]
 rw [if_pos True.intro,if_pos hb.1,if_pos hb.2,if_pos n1,half15]
 simp only [obn]
 refine Eq.trans (congrArg (fun o=>Option.bind o _) c1) ?_
 simp only [obn]
 rw [if_pos n2]
 refine Eq.trans (congrArg (fun o=>Option.bind o _) c2) ?_
 simp only [obn]
 rw [decide_eq_true n3]
theorem dy15 {x y:D} (hx:WD x):l15_dy (dy x) (dy y)=some (decide (x=y)):=by
 unfold l15_dy
 rw [same5_eq hx.sz]
 rfl
theorem rivMid_eq {a:I} (ha:okI a) {p:Nat} (hp:2≤p∧p≤400) (e:Int):r06_CMid (iv a) (p:Int) e=some (dy (st e zD (midI p a)).1,(st e zD (midI p a)).2):=by
 unfold r06_CMid
 rw [rarg_one ha]
 simp only [obn]
 by_cases h:e=0
 ·subst h
  rw [if_neg (by simp),ivLo,ivHi,st_zero,raddE_eq ha.1 ha.2.1,st_zero]
  simp only [obn]
  unfold midI
  by_cases h1:(addD a.lo a.hi).2=0
  ·have hs:=WD_add ha.1 ha.2.1
   rw [bindE_ok h1,bindE_ok h1,if_neg (by simp),rScale5_eq hs (by omega)]
   simp only [obn]
   rw [rerr_eq,if_pos rfl]
   simp only [obn]
   rw [rroundE_eq (WD_scale hs _) hp]
   simp only [obn]
   by_cases h2:(scaleD (addD a.lo a.hi).1 (-1)).2=0
   ·rw [bindE_ok h2,h2,st_zero]
   ·rw [bindE_no h2,st_ne h2]
  ·rw [bindE_no h1,bindE_no h1,if_pos (by simpa using h1),dy_z]
 ·rw [if_pos (fine_no h),st_ne h,dy_z]
theorem rNode_in {j d:Nat} (hd:1≤d∧d≤16) (hj:j≤d):r15_Node (j:Int) (d:Int)=some (dy (nodeR j d).1,(nodeR j d).2):=by
 obtain ⟨q,hq⟩:∃ q:Nat,q=64:=⟨64,rfl⟩
 have hw:2≤q∧q≤400:=by omega
 have e0:r15_Node (j:Int) (d:Int)=r15_Node_j1 (j:Int) (d:Int) false:=by
  unfold r15_Node
  rw [if_neg (by omega),if_neg (by omega),if_neg (by omega),decide_eq_false (by omega)]
 have en:r06_New 64=some (Sum.inr ((q:Int),0)):=by rw [← rNew6_eq hw,hq]; rfl
 have eq:(64:Int)=(q:Int):=by rw [hq]; rfl
 rw [e0]
 unfold nodeR nodeB nodeA nodeM r15_Node_j1
 rw [if_neg (by simp),en,← hq,eq]
 simp only [obn]
 have e1:=rPi_eq hw 0
 have s1:=SI_pi hw.2 0
 generalize piS q 0=P at *
 rw [e1]
 simp only [obn]
 have e2:=rIntS (n:=((2*j+1:Nat):Int)) (by omega) P.2 (q:Int)
 have s2:=SI_iS (n:=((2*j+1:Nat):Int)) (by omega) P.2
 rw [w64 (x:=2*(j:Int)) (by omega) (by omega),w64 (x:=2*(j:Int)+1) (by omega) (by omega),show 2*(j:Int)+1=((2*j+1:Nat):Int) by omega]
 generalize iS ((2*j+1:Nat):Int) P.2=c1 at *
 refine Eq.trans (congrArg (fun o=>Option.bind o _) e2) ?_
 simp only [obn]
 have e3:=rMulS hw s1 s2 c1.2
 have s3:=SI_mS hw.2 P.1 c1.1 c1.2
 generalize mS q P.1 c1.1 c1.2=m at *
 refine Eq.trans (congrArg (fun o=>Option.bind o _) e3) ?_
 simp only [obn]
 have e4:=rIntS (n:=((2*d+2:Nat):Int)) (by omega) m.2 (q:Int)
 have s4:=SI_iS (n:=((2*d+2:Nat):Int)) (by omega) m.2
 rw [w64 (x:=(d:Int)+1) (by omega) (by omega),w64 (x:=2*((d:Int)+1)) (by omega) (by omega),show 2*((d:Int)+1)=((2*d+2:Nat):Int) by omega]
 generalize iS ((2*d+2:Nat):Int) m.2=c2 at *
 refine Eq.trans (congrArg (fun o=>Option.bind o _) e4) ?_
 simp only [obn]
 have e5:=rDivS hw s3 s4 c2.2
 have s5:=SI_dS hw.2 m.1 s4 c2.2
 generalize dS q m.1 c2.1 c2.2=k at *
 refine Eq.trans (congrArg (fun o=>Option.bind o _) e5) ?_
 simp only [obn]
 have e6:=rivMid_eq s5.ok hw k.2
 have w6:WD (st k.2 zD (midI q k.1)).1:=WD_st WD_mid
 generalize st k.2 zD (midI q k.1)=b at *
 refine Eq.trans (congrArg (fun o=>Option.bind o _) e6) ?_
 simp only [obn]
 by_cases h1:b.2=0
 ·have e7:=rCos10_eq w6 (q:Int)
  have s7:SI (sinR b.1 (q:Int) 1).1:=SI_sinR w6
  rw [if_neg (by simpa using h1),if_neg (by simpa using h1)]
  generalize sinR b.1 (q:Int) 1=v at *
  refine Eq.trans (congrArg (fun o=>Option.bind o _) e7) ?_
  simp only [obn]
  by_cases h2:v.2=0
  ·rw [if_neg (by simpa using h2),if_neg (by simpa using h2)]
   refine Eq.trans (congrArg (fun o=>Option.bind o _) (rivMid_eq s7.ok hw b.2)) ?_
   rfl
  ·rw [if_pos h2,if_pos h2,dy_z]
 ·rw [if_pos h1,if_pos h1,dy_z]
theorem node_out {j d:Int} (h:¬(1≤d∧d≤16∧0≤j∧j≤d)):cheb_Node j d=some (dy zD,1)∧r15_Node j d=some (dy zD,1):=by
 have c:∀ x y,cheb_Node_j1 x y true=some (dy zD,1):=fun x y=>by unfold cheb_Node_j1; rw [if_pos rfl,dy_z]
 have r:∀ x y,r15_Node_j1 x y true=some (dy zD,1):=fun x y=>by unfold r15_Node_j1; rw [if_pos rfl,dy_z]
 constructor
 ·unfold cheb_Node cheb_degree cheb_degree_j1
  by_cases h1:d≥1
  ·rw [if_pos h1]
   simp only [obn]
   by_cases h2:d≤16
   ·rw [decide_eq_true h2,if_neg (by simp)]
    by_cases h3:j<0
    ·rw [if_pos h3,c]
    ·rw [if_neg h3,decide_eq_true (by omega),c]
   ·rw [decide_eq_false h2,if_pos (by simp),c]
  ·rw [if_neg h1]
   simp only [obn]
   rw [if_pos (by simp),c]
 ·unfold r15_Node
  by_cases h1:d<1
  ·rw [if_pos h1,r]
  ·rw [if_neg h1]
   by_cases h2:d>16
   ·rw [if_pos h2,r]
   ·rw [if_neg h2]
    by_cases h3:j<0
    ·rw [if_pos h3,r]
    ·rw [if_neg h3,decide_eq_true (by omega),r]
theorem ChebNodes_true (a0:Int) (_:(Lit.int .i64 a0).wf=true) (a1:Int) (_:(Lit.int .i64 a1).wf=true):l15_ChebNodes a0 a1=some true:=by
 obtain ⟨r,wr,e1,e2⟩:∃ r:D × Int,WD r.1∧cheb_Node a0 a1=some (dy r.1,r.2)∧r15_Node a0 a1=some (dy r.1,r.2):=by
  by_cases h:1≤a1∧a1≤16∧0≤a0∧a0≤a1
  ·obtain ⟨j,rfl⟩:∃ j:Nat,a0=(j:Int):=⟨a0.toNat,by omega⟩
   obtain ⟨d,rfl⟩:∃ d:Nat,a1=(d:Int):=⟨a1.toNat,by omega⟩
   exact ⟨nodeR j d,nodeR_WD,Node_in (by omega) (by omega),rNode_in (by omega) (by omega)⟩
  ·exact ⟨(zD,1),WD_z,(node_out h).1,(node_out h).2⟩
 have e3:=dy15 (x:=r.1) (y:=r.1) wr
 rw [decide_eq_true rfl] at e3
 unfold l15_ChebNodes l15_ChebNodes_j1
 rw [examples15]
 simp only [obn]
 rw [if_neg (by simp),e1]
 simp only [obn]
 rw [e2]
 simp only [obn]
 refine Eq.trans (congrArg (fun o=>Option.bind o _) e3) ?_
 simp only [obn]
 rw [if_pos True.intro,if_pos True.intro]
 simp
end Go.Proofs.YtoakhpdeadglpaaGreat.Gen
