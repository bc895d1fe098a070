/- Plain theory of the numbers that the statement speaks of: printed from the proofs' own texts, as far as this statement needs it. -/
import Derived.Test.YtpmpcohbpankaaaGreatSmallSeriesPl1
namespace Go.Proofs.YtpmpcohbpankaaaGreat.Gen
open Go Go.Abs Go.Plain
theorem rExp_eq {p:Nat} (hp:2≤p∧p≤400) {y:I} (hy:SI y) (e:Int):r07_Exp (iv y) (p:Int) e=some (iv (st e zI (expI p y)).1,(st e zI (expI p y)).2):=by
 unfold r07_Exp
 rw [rfits_eq hy (by omega)]
 simp only [obind]
 by_cases h:e=0
 ·subst h
  rw [if_pos rfl,st_zero]
  unfold expI
  by_cases h1:inI y (box (-3))=true
  ·rw [if_pos h1,if_pos h1,if_neg (by simp)]
   rw [rIntS (by omega)]
   simp only [obind]
   rw [rIntS (by omega)]
   simp only [obind]
   rw [iS_e,iS_e,iS_zero]
   exact rnExp_loop hp hy (p / 2+4) 0 (intI 1) (intI 1) 0 (by omega) (SI_iS (n:=1) (by omega) 0) (SI_iS (n:=1) (by omega) 0) fuel (by unfold fuel; omega)
  ·rw [if_neg h1,if_neg h1,if_pos (by simp),iv_z]
 ·rw [if_neg h,if_pos (by simp),st_ne h,iv_z]
theorem smallExp_bad {p:Int} {y:ApiIv} (hr:iv_Right y=some false):small_Exp y 0 p=some (iv zI,1):=by
 unfold small_Exp small_plain_1fcd small_series_361b cv_Prec
 rw [small_in_bad hr (by omega)]
 simp only [obind]
 rw [if_pos (by simp),iv_z]
theorem rExp_bad {p:Int} {y:ApiIv} (hr:r06_Right y=some false):r07_Exp y p 0=some (iv zI,1):=by
 unfold r07_Exp
 rw [rfits_bad hr]
 simp only [obind]
 rw [if_pos (by simp),iv_z]
theorem smallSin_eq {p:Nat} (hp:2≤p∧p≤400) {y:I} (hy:SI y) (e:Int):small_Sin (iv y) e (p:Int)=some (iv (st e zI (sinI p y)).1,(st e zI (sinI p y)).2):=by
 unfold small_Sin small_plain_c50f small_series_f1ab cv_Prec
 rw [small_in_eq hp hy (by omega)]
 simp only [obind]
 by_cases h:e=0
 ·subst h
  rw [if_pos rfl,st_zero]
  unfold sinI
  by_cases h1:inI y (box (0))=true
  ·rw [if_pos h1,if_pos h1,if_neg (by simp)]
   rw [pMul hp hy hy]
   simp only [obind]
   rw [terms_eq hp.2]
   simp only [obind]
   have hl:=nSin_loop hp (SI_mS hp.2 y y 0) (p / 2+4) 0 y y (mS p y y 0).2 (by omega) hy hy fuel (by unfold fuel; omega)
   refine Eq.trans (congrArg (fun o=>Option.bind o _) (congrArg (fun o=>Option.bind o _) hl)) ?_
   rfl
  ·rw [if_neg h1,if_neg h1,if_pos (by simp),iv_z]
 ·rw [if_neg h,if_pos (by simp),st_ne h,iv_z]
theorem rSin_eq {p:Nat} (hp:2≤p∧p≤400) {y:I} (hy:SI y) (e:Int):r07_Sin (iv y) (p:Int) e=some (iv (st e zI (sinI p y)).1,(st e zI (sinI p y)).2):=by
 unfold r07_Sin
 rw [rfits_eq hy (by omega)]
 simp only [obind]
 by_cases h:e=0
 ·subst h
  rw [if_pos rfl,st_zero]
  unfold sinI
  by_cases h1:inI y (box (0))=true
  ·rw [if_pos h1,if_pos h1,if_neg (by simp)]
   rw [rMulS hp hy hy]
   simp only [obind]
   exact rnSin_loop hp (SI_mS hp.2 y y 0) _ (p / 2+4) 0 y y (mS p y y 0).2 (by omega) hy hy fuel (by unfold fuel; omega)
  ·rw [if_neg h1,if_neg h1,if_pos (by simp),iv_z]
 ·rw [if_neg h,if_pos (by simp),st_ne h,iv_z]
theorem smallSin_bad {p:Int} {y:ApiIv} (hr:iv_Right y=some false):small_Sin y 0 p=some (iv zI,1):=by
 unfold small_Sin small_plain_c50f small_series_f1ab cv_Prec
 rw [small_in_bad hr (by omega)]
 simp only [obind]
 rw [if_pos (by simp),iv_z]
theorem rSin_bad {p:Int} {y:ApiIv} (hr:r06_Right y=some false):r07_Sin y p 0=some (iv zI,1):=by
 unfold r07_Sin
 rw [rfits_bad hr]
 simp only [obind]
 rw [if_pos (by simp),iv_z]
theorem smallCos_eq {p:Nat} (hp:2≤p∧p≤400) {y:I} (hy:SI y) (e:Int):small_Cos (iv y) e (p:Int)=some (iv (st e zI (cosI p y)).1,(st e zI (cosI p y)).2):=by
 unfold small_Cos small_plain_fc4a small_series_7c7a cv_Prec
 rw [small_in_eq hp hy (by omega)]
 simp only [obind]
 by_cases h:e=0
 ·subst h
  rw [if_pos rfl,st_zero]
  unfold cosI
  by_cases h1:inI y (box (0))=true
  ·rw [if_pos h1,if_pos h1,if_neg (by simp)]
   rw [pMul hp hy hy]
   simp only [obind]
   rw [pInt (by omega)]
   simp only [obind]
   rw [iS_e,terms_eq hp.2]
   simp only [obind]
   have hl:=nCos_loop hp (SI_mS hp.2 y y 0) (p / 2+4) 0 (iS 1 (mS p y y 0).2).1 (iS 1 (mS p y y 0).2).1 (mS p y y 0).2 (by omega) (SI_iS (by omega) _) (SI_iS (by omega) _) fuel (by unfold fuel; omega)
   refine Eq.trans (congrArg (fun o=>Option.bind o _) (congrArg (fun o=>Option.bind o _) hl)) ?_
   rfl
  ·rw [if_neg h1,if_neg h1,if_pos (by simp),iv_z]
 ·rw [if_neg h,if_pos (by simp),st_ne h,iv_z]
theorem rCos_eq {p:Nat} (hp:2≤p∧p≤400) {y:I} (hy:SI y) (e:Int):r07_Cos (iv y) (p:Int) e=some (iv (st e zI (cosI p y)).1,(st e zI (cosI p y)).2):=by
 unfold r07_Cos
 rw [rfits_eq hy (by omega)]
 simp only [obind]
 by_cases h:e=0
 ·subst h
  rw [if_pos rfl,st_zero]
  unfold cosI
  by_cases h1:inI y (box (0))=true
  ·rw [if_pos h1,if_pos h1,if_neg (by simp)]
   rw [rMulS hp hy hy]
   simp only [obind]
   rw [rIntS (by omega)]
   simp only [obind]
   rw [rIntS (by omega)]
   simp only [obind]
   rw [iS_e,iS_e]
   exact rnCos_loop hp (SI_mS hp.2 y y 0) _ (p / 2+4) 0 (iS 1 (mS p y y 0).2).1 (iS 1 (mS p y y 0).2).1 (mS p y y 0).2 (by omega) (SI_iS (by omega) _) (SI_iS (by omega) _) fuel (by unfold fuel; omega)
  ·rw [if_neg h1,if_neg h1,if_pos (by simp),iv_z]
 ·rw [if_neg h,if_pos (by simp),st_ne h,iv_z]
theorem smallCos_bad {p:Int} {y:ApiIv} (hr:iv_Right y=some false):small_Cos y 0 p=some (iv zI,1):=by
 unfold small_Cos small_plain_fc4a small_series_7c7a cv_Prec
 rw [small_in_bad hr (by omega)]
 simp only [obind]
 rw [if_pos (by simp),iv_z]
theorem rCos_bad {p:Int} {y:ApiIv} (hr:r06_Right y=some false):r07_Cos y p 0=some (iv zI,1):=by
 unfold r07_Cos
 rw [rfits_bad hr]
 simp only [obind]
 rw [if_pos (by simp),iv_z]
theorem smallAtan_eq {p:Nat} (hp:2≤p∧p≤400) {y:I} (hy:SI y) (e:Int):small_Atan (iv y) e (p:Int)=some (iv (st e zI (atanI p y)).1,(st e zI (atanI p y)).2):=by
 unfold small_Atan small_odd_8ed8 small_series_5374 cv_Prec
 rw [small_in_eq hp hy (by omega)]
 simp only [obind]
 by_cases h:e=0
 ·subst h
  rw [if_pos rfl,st_zero]
  unfold atanI
  by_cases h1:inI y (box (-1))=true
  ·rw [if_pos h1,if_pos h1,if_neg (by simp)]
   rw [pMul hp hy hy]
   simp only [obind]
   rw [terms_eq hp.2]
   simp only [obind]
   have hl:=nAtan_loop hp (SI_mS hp.2 y y 0) (p / 2+4) 0 y y (mS p y y 0).2 (by omega) hy hy fuel (by unfold fuel; omega)
   refine Eq.trans (congrArg (fun o=>Option.bind o _) (congrArg (fun o=>Option.bind o _) hl)) ?_
   rfl
  ·rw [if_neg h1,if_neg h1,if_pos (by simp),iv_z]
   rfl
 ·rw [if_neg h,if_pos (by simp),st_ne h,iv_z]
  rfl
theorem rAtan_eq {p:Nat} (hp:2≤p∧p≤400) {y:I} (hy:SI y) (e:Int):r07_Atan (iv y) (p:Int) e=some (iv (st e zI (atanI p y)).1,(st e zI (atanI p y)).2):=by
 unfold r07_Atan
 rw [rfits_eq hy (by omega)]
 simp only [obind]
 by_cases h:e=0
 ·subst h
  rw [if_pos rfl,st_zero]
  unfold atanI
  by_cases h1:inI y (box (-1))=true
  ·rw [if_pos h1,if_pos h1,if_neg (by simp)]
   rw [rMulS hp hy hy]
   simp only [obind]
   exact rnAtan_loop hp (SI_mS hp.2 y y 0) _ (p / 2+4) 0 y y (mS p y y 0).2 (by omega) hy hy fuel (by unfold fuel; omega)
  ·rw [if_neg h1,if_neg h1,if_pos (by simp),iv_z]
 ·rw [if_neg h,if_pos (by simp),st_ne h,iv_z]
theorem smallAtan_bad {p:Int} {y:ApiIv} (hr:iv_Right y=some false):small_Atan y 0 p=some (iv zI,1):=by
 unfold small_Atan small_odd_8ed8 small_series_5374 cv_Prec
 rw [small_in_bad hr (by omega)]
 simp only [obind]
 rw [if_pos (by simp),iv_z]
 rfl
theorem rAtan_bad {p:Int} {y:ApiIv} (hr:r06_Right y=some false):r07_Atan y p 0=some (iv zI,1):=by
 unfold r07_Atan
 rw [rfits_bad hr]
 simp only [obind]
 rw [if_pos (by simp),iv_z]
theorem smallAtanh_eq {p:Nat} (hp:2≤p∧p≤400) {y:I} (hy:SI y) (e:Int):small_Atanh (iv y) e (p:Int)=some (iv (st e zI (atanhI p y)).1,(st e zI (atanhI p y)).2):=by
 unfold small_Atanh small_odd_cdf0 small_series_78b1 cv_Prec
 rw [small_in_eq hp hy (by omega)]
 simp only [obind]
 by_cases h:e=0
 ·subst h
  rw [if_pos rfl,st_zero]
  unfold atanhI
  by_cases h1:inI y (box (-1))=true
  ·rw [if_pos h1,if_pos h1,if_neg (by simp)]
   rw [pMul hp hy hy]
   simp only [obind]
   rw [terms_eq hp.2]
   simp only [obind]
   have hl:=nAtanh_loop hp (SI_mS hp.2 y y 0) (p / 2+4) 0 y y (mS p y y 0).2 (by omega) hy hy fuel (by unfold fuel; omega)
   refine Eq.trans (congrArg (fun o=>Option.bind o _) (congrArg (fun o=>Option.bind o _) hl)) ?_
   rfl
  ·rw [if_neg h1,if_neg h1,if_pos (by simp),iv_z]
   rfl
 ·rw [if_neg h,if_pos (by simp),st_ne h,iv_z]
  rfl
theorem rAtanh_eq {p:Nat} (hp:2≤p∧p≤400) {y:I} (hy:SI y) (e:Int):r07_Atanh (iv y) (p:Int) e=some (iv (st e zI (atanhI p y)).1,(st e zI (atanhI p y)).2):=by
 unfold r07_Atanh
 rw [rfits_eq hy (by omega)]
 simp only [obind]
 by_cases h:e=0
 ·subst h
  rw [if_pos rfl,st_zero]
  unfold atanhI
  by_cases h1:inI y (box (-1))=true
  ·rw [if_pos h1,if_pos h1,if_neg (by simp)]
   rw [rMulS hp hy hy]
   simp only [obind]
   exact rnAtanh_loop hp (SI_mS hp.2 y y 0) _ (p / 2+4) 0 y y (mS p y y 0).2 (by omega) hy hy fuel (by unfold fuel; omega)
  ·rw [if_neg h1,if_neg h1,if_pos (by simp),iv_z]
 ·rw [if_neg h,if_pos (by simp),st_ne h,iv_z]
theorem smallAtanh_bad {p:Int} {y:ApiIv} (hr:iv_Right y=some false):small_Atanh y 0 p=some (iv zI,1):=by
 unfold small_Atanh small_odd_cdf0 small_series_78b1 cv_Prec
 rw [small_in_bad hr (by omega)]
 simp only [obind]
 rw [if_pos (by simp),iv_z]
 rfl
theorem rAtanh_bad {p:Int} {y:ApiIv} (hr:r06_Right y=some false):r07_Atanh y p 0=some (iv zI,1):=by
 unfold r07_Atanh
 rw [rfits_bad hr]
 simp only [obind]
 rw [if_pos (by simp),iv_z]
theorem SI_exp {p:Nat} (hp:p≤400) {y:I} : SI (expI p y).1:=by
 unfold expI; split
 ·exact SI_fin hp (SI_ser hp _ (fun i t e hi=>nExp_SI hp y hi t e) _ _ _ _ _ (by omega) (SI_int (by omega)))
 ·exact SI_z
theorem SI_sin {p:Nat} (hp:p≤400) {y:I} (hy:SI y):SI (sinI p y).1:=by
 unfold sinI; split
 ·exact SI_fin hp (SI_ser hp _ (fun i t e hi=>nSin_SI hp _ hi t e) _ _ _ _ _ (by omega) hy)
 ·exact SI_z
theorem SI_cos {p:Nat} (hp:p≤400) {y:I} : SI (cosI p y).1:=by
 unfold cosI; split
 ·exact SI_fin hp (SI_ser hp _ (fun i t e hi=>nCos_SI hp _ hi t e) _ _ _ _ _ (by omega) (SI_iS (by omega) _))
 ·exact SI_z
theorem SI_atan {p:Nat} (hp:p≤400) {y:I} (hy:SI y):SI (atanI p y).1:=by
 unfold atanI; split
 ·exact SI_fin hp (SI_ser hp _ (fun i t e hi=>nAtan_SI hp _ hi t e) _ _ _ _ _ (by omega) hy)
 ·exact SI_z
theorem SI_atanh {p:Nat} (hp:p≤400) {y:I} (hy:SI y):SI (atanhI p y).1:=by
 unfold atanhI; split
 ·exact SI_fin hp (SI_ser hp _ (fun i t e hi=>nAtanh_SI hp _ hi t e) _ _ _ _ _ (by omega) hy)
 ·exact SI_z
theorem right_cases {lo hi:ApiDy} (h1:Dig lo.M.Mag) (h2:Dig hi.M.Mag) (l1:lo.M.Mag.length≤31) (l2:hi.M.Mag.length≤31):(∃ a,SI a∧(⟨lo,hi⟩:ApiIv)=iv a)∨(iv_Right ⟨lo,hi⟩=some false∧r06_Right ⟨lo,hi⟩=some false):=by
 have e1:=dyad_Right_eq h1 (by omega)
 have e2:=dyad_Right_eq h2 (by omega)
 have f1:=rRight5_eq h1 (by omega)
 have f2:=rRight5_eq h2 (by omega)
 unfold iv_Right iv_Right_j1 r06_Right r06_Right_j1
 simp only
 rw [e1,e2,f1,f2]
 simp only [obind]
 cases c1:rightD lo with
 | false=>right; simp
 | true=>
  cases c2:rightD hi with
  | false=>right; simp
  | true=>
   obtain ⟨d1,k1,rfl,b1⟩:=rightD_ex h1 c1
   obtain ⟨d2,k2,rfl,b2⟩:=rightD_ex h2 c2
   have v1:=blen_of_len h1
   have v2:=blen_of_len h2
   have w1:WD d1:=⟨k1,by rw [b1]; omega⟩
   have w2:WD d2:=⟨k2,by rw [b2]; omega⟩
   simp only [if_true]
   rw [dyad_Cmp_eq w1 w2,rCmp5_eq w1 w2]
   simp only [obind]
   by_cases hc:cmpD d1 d2≤0
   ·left
    exact ⟨⟨d1,d2⟩,⟨⟨w1,w2,(cmpD_le _ _).1 hc⟩,by show blen d1.m.natAbs≤1000; rw [b1]; omega,by show blen d2.m.natAbs≤1000; rw [b2]; omega⟩,rfl⟩
   ·right
    simp [hc]
theorem ivNew_bad {p:Int} (h:p<2):iv_New p=some (Sum.inl 1):=by
 unfold iv_New iv_New_j1
 rw [if_pos h,if_pos rfl]
theorem rNew_bad {p:Int} (h:p<2):r06_New p=some (Sum.inl ()):=by
 unfold r06_New r06_New_j1
 rw [if_pos h,if_pos rfl]
theorem same07_eq {x y:I} (hx:okI x):l07_same (iv x) (iv y)=some (decide (x=y)):=by
 unfold l07_same
 rw [same_eq hx]; rfl
theorem ex07_has:hasI (expI 30 (intI 0)).1 (fromD 1)=true∧(expI 30 (intI 0)).2=0:=by decide +kernel
theorem examples07:l07_examples=some true:=by
 have hN:=ivNew_eq (p:=30) (by omega)
 have hI:=pInt (n:=0) (by omega) 0 30
 have hE:=smallExp_eq (p:=30) (by omega) (SI_int (n:=0) (by omega)) 0
 have hH:=ivHas_eq (SI_exp (p:=30) (by omega) (y:=intI 0)).ok (WD_from (n:=1) (by omega))
 rw [ex07_has.1] at hH
 rw [st_zero,ex07_has.2] at hE
 rw [show ((30:Nat):Int)=30 by rfl] at hN hE
 have ht:small_Terms 64=some 36:=by decide
 unfold l07_examples l07_examples_j1
 rw [hN]
 simp only [obind]
 rw [if_neg (by simp),hI]
 simp only [obind]
 have hE':small_Exp (iv (iS 0 0).1) (iS 0 0).2 30=some (iv (expI 30 (intI 0)).1,0):=hE
 rw [hE']
 simp only [obind]
 rw [ht]
 simp only [obind,if_true]
 rw [rFrom5_eq (by omega)]
 simp only [obind]
 rw [hH]
 rfl
theorem j5_true {r:I × Int} (hr:SI r.1) {p:Nat} (hp:p≤400) {a1:Int} (ha:mn a1 120=(p:Int)) :
  l07_SmallSeries_j5 true (0,0,(p:Int)) a1 r.2 r.2 (iv r.1).Lo.M.Neg (iv r.1).Lo.M.Mag (iv r.1).Lo.E (iv r.1).Hi.M.Neg (iv r.1).Hi.M.Mag (iv r.1).Hi.E (iv r.1).Lo.M.Neg (iv r.1).Lo.M.Mag (iv r.1).Lo.E (iv r.1).Hi.M.Neg (iv r.1).Hi.M.Mag (iv r.1).Hi.E=some true:=by
 unfold l07_SmallSeries_j5 l07_SmallSeries_j6 iv_trouble_Err
 rw [ivEta,same07_eq hr.ok,ha,terms_eq hp,rterms_eq hp]
 simp only [obind,decide_true,if_true]
 rw [beq_self_eq_true]
theorem dig_cut {x:ApiDy} (hx:gApiDy x):Dig (x.M.Mag.take (min x.M.Mag.length 8))∧(x.M.Mag.take (min x.M.Mag.length 8)).length≤31:=⟨dig_take (g_dig hx) _,by rw [List.length_take]; omega⟩
theorem SmallSeries_true (a0:Int) (g0:(Lit.int .i64 a0).wf=true) (a1:Int) (g1:(Lit.int .i64 a1).wf=true) (a2:ApiDy) (g2:gApiDy a2) (a3:ApiDy) (g3:gApiDy a3):l07_SmallSeries a0 a1 a2 a3=some true:=by
 have w0:=wf_i64 g0
 unfold l07_SmallSeries
 rw [examples07]
 simp only [obind]
 rw [if_neg (by simp)]
 by_cases hp1:a1<2
 ·have hm:mn a1 120=a1:=by unfold mn; split<;>omega
  rw [hm,ivNew_bad hp1,rNew_bad hp1]
  rfl
 ·obtain ⟨p,hp,hpl,hph⟩:∃ p:Nat,mn a1 120=(p:Int)∧2≤p∧p≤120:=⟨(mn a1 120).toNat,by unfold mn; split<;>omega,by unfold mn; split<;>omega,by unfold mn; split<;>omega⟩
  have hpp:2≤p∧p≤400:=by omega
  rw [hp,ivNew_eq hpp,rNew6_eq hpp]
  simp only [obind]
  have m2:mn (a2.M.Mag.length:Int) 8=((min a2.M.Mag.length 8:Nat):Int):=by unfold mn; split<;>omega
  have m3:mn (a3.M.Mag.length:Int) 8=((min a3.M.Mag.length 8:Nat):Int):=by unfold mn; split<;>omega
  obtain ⟨d2,e2⟩:=dig_cut g2
  obtain ⟨d3,e3⟩:=dig_cut g3
  have hc:=right_cases (lo:=⟨⟨a2.M.Neg,a2.M.Mag.take (min a2.M.Mag.length 8)⟩,a2.E⟩) (hi:=⟨⟨a3.M.Neg,a3.M.Mag.take (min a3.M.Mag.length 8)⟩,a3.E⟩) d2 d3 e2 e3
  have key:∀ n:Int,l07_SmallSeries_j4 a2 a3 (0,0,(p:Int)) ((p:Int),0) true a1 n=some true:=by
   intro n
   unfold l07_SmallSeries_j4 l07_SmallSeries_j9 l07_SmallSeries_j8 l07_SmallSeries_j7
   rw [m2,m3]
   rw [if_pos (by omega),if_pos (by omega)]
   simp only [Int.toNat_natCast]
   rcases hc with ⟨y,hy,he⟩ | ⟨hb1,hb2⟩
   ·rw [he]
    split
    ·rw [smallExp_eq hpp hy]; simp only [obind]; rw [rExp_eq hpp hy]; simp only [obind]; rw [st_zero]
     exact j5_true (SI_exp hpp.2) hpp.2 hp
    ·split
     ·rw [smallSin_eq hpp hy]; simp only [obind]; rw [rSin_eq hpp hy]; simp only [obind]; rw [st_zero]
      exact j5_true (SI_sin hpp.2 hy) hpp.2 hp
     ·split
      ·rw [smallCos_eq hpp hy]; simp only [obind]; rw [rCos_eq hpp hy]; simp only [obind]; rw [st_zero]
       exact j5_true (SI_cos hpp.2) hpp.2 hp
      ·split
       ·rw [smallAtan_eq hpp hy]; simp only [obind]; rw [rAtan_eq hpp hy]; simp only [obind]; rw [st_zero]
        exact j5_true (SI_atan hpp.2 hy) hpp.2 hp
       ·rw [smallAtanh_eq hpp hy]; simp only [obind]; rw [rAtanh_eq hpp hy]; simp only [obind]; rw [st_zero]
        exact j5_true (SI_atanh hpp.2 hy) hpp.2 hp
   ·have hj:=j5_true (r:=(zI,1)) SI_z hpp.2 hp
    split
    ·rw [smallExp_bad hb1]; simp only [obind]; rw [rExp_bad hb2]; simp only [obind]; exact hj
    ·split
     ·rw [smallSin_bad hb1]; simp only [obind]; rw [rSin_bad hb2]; simp only [obind]; exact hj
     ·split
      ·rw [smallCos_bad hb1]; simp only [obind]; rw [rCos_bad hb2]; simp only [obind]; exact hj
      ·split
       ·rw [smallAtan_bad hb1]; simp only [obind]; rw [rAtan_bad hb2]; simp only [obind]; exact hj
       ·rw [smallAtanh_bad hb1]; simp only [obind]; rw [rAtanh_bad hb2]; simp only [obind]; exact hj
  split
  ·exact key _
  ·exact key _
end Go.Proofs.YtpmpcohbpankaaaGreat.Gen
