/- Plain theory of the numbers that the statement speaks of: printed from the proofs' own texts, as far as this statement needs it. -/
import Derived.Test.YtpmpcohbpankaaaGreatKonstToldPl1
namespace Go.Proofs.YtpmpcohbpankaaaGreat.Gen
open Go Go.Abs Go.Plain
theorem WD_half {k:Int} (h : -60000≤k∧k≤60000):WD ⟨1,k⟩:=⟨Or.inr ⟨rfl,by simp only; omega,by simp only; omega⟩,by show blen 1≤262144; rw [show blen 1=1 by decide]; omega⟩
theorem val_half (k:Int):val ⟨1,k⟩=p2 k:=by unfold val; simp
theorem SI_fin {p:Nat} (hp:p≤400) {r:I × Int} (h:SI r.1):SI (finS p r).1:=SI_st (SI_wide h (by rw [val_half]; exact Rat.le_of_lt (p2_pos _)) hp) _
theorem pWide {p:Nat} (hp:2≤p∧p≤400) {a:I} (ha:SI a) (e:Int):cv_Wide (iv a) (dy ⟨1,-(p:Int)⟩) e (p:Int)=some (iv (finS p (a,e)).1,(finS p (a,e)).2):=
 ivWide_eq ha.ok (WD_half (by omega)) (by rw [val_half]; exact Rat.le_of_lt (p2_pos _)) hp e
theorem rWideS {p:Nat} (hp:2≤p∧p≤400) {a:I} (ha:SI a) (e:Int):r06_CWide (iv a) (dy ⟨1,-(p:Int)⟩) (p:Int) e=some (iv (finS p (a,e)).1,(finS p (a,e)).2):=
 rivWide_eq ha.ok (WD_half (by omega)) (by rw [val_half]; exact Rat.le_of_lt (p2_pos _)) hp e
theorem negHalf {p:Nat} (hp:p≤400):dyad_Half (IntKind.i64.wrap (0-(p:Int)))=some (dy ⟨1,-(p:Int)⟩):=by
 rw [w64 (by omega) (by omega),show 0-(p:Int) = -(p:Int) by omega,dyad_Half_eq (by omega)]
theorem rnegHalf {p:Nat} (hp:p≤400):r05_Half (IntKind.i64.wrap (0-(p:Int)))=some (dy ⟨1,-(p:Int)⟩):=by
 rw [w64 (by omega) (by omega),show 0-(p:Int) = -(p:Int) by omega,rHalf_eq (by omega)]
theorem rends_eq {p:Nat} (hp:2≤p∧p≤400) {a:I} (ha:SI a) (e:Int):r07_ends (iv a) (p:Int) e=some (iv (finS p (a,e)).1,(finS p (a,e)).2):=by
 unfold r07_ends
 rw [rnegHalf hp.2]
 simp only [obn]
 rw [rWideS hp ha]
 rfl
theorem terms_eq {p:Nat} (hp:p≤400):small_Terms (p:Int)=some ((p / 2+4:Nat):Int):=by
 unfold small_Terms
 have h1:mx (p:Int) 0=(p:Int):=by unfold mx; split<;>omega
 have h2:mn (p:Int) 400=(p:Int):=by unfold mn; split<;>omega
 rw [h1,h2,show (2:Int)=((2:Nat):Int) by rfl,tdivn,w64n (by omega),w64 (by omega) (by omega)]
 rfl
theorem rterms_eq {p:Nat} (hp:p≤400):r07_Terms (p:Int)=some ((p / 2+4:Nat):Int):=by
 unfold r07_Terms
 have h1:mx (p:Int) 0=(p:Int):=by unfold mx; split<;>omega
 have h2:mn (p:Int) 400=(p:Int):=by unfold mn; split<;>omega
 rw [h1,h2,show (2:Int)=((2:Nat):Int) by rfl,tdivn,w64n (by omega),w64 (by omega) (by omega)]
 rfl
theorem wodd {i:Nat} (h:i≤300):IntKind.i64.wrap (IntKind.i64.wrap (2*(i:Int))+1)=((2*i+1:Nat):Int):=by
 rw [w64 (x:=2*(i:Int)) (by omega) (by omega),w64 (by omega) (by omega)]; omega
theorem nAtan_eq {p:Nat} (hp:2≤p∧p≤400) {q t:I} (hq:SI q) (ht:SI t) {i:Nat} (hi:i≤300) (h0:1≤i) (e:Int):small_odd_1_df97 (i:Int) (iv t) e (p:Int) (iv q).Lo.M.Neg (iv q).Lo.M.Mag (iv q).Lo.E (iv q).Hi.M.Neg (iv q).Hi.M.Mag (iv q).Hi.E=some (iv (nAtan p q i t e).1,iv (nAtan p q i t e).2.1,(nAtan p q i t e).2.2):=by
 unfold small_odd_1_df97
 rw [ivEta,wodd hi,pMul hp ht hq]
 simp only [obn]
 rw [pNeg (SI_mS hp.2 _ _ _)]
 simp only [obn]
 rw [pInt (by omega)]
 simp only [obn]
 rw [pDiv hp (SI_nS (SI_mS hp.2 _ _ _) _) (SI_iS (by omega) _)]
 rfl
theorem nAtanh_eq {p:Nat} (hp:2≤p∧p≤400) {q t:I} (hq:SI q) (ht:SI t) {i:Nat} (hi:i≤300) (h0:1≤i) (e:Int):small_odd_1_da03 (i:Int) (iv t) e (p:Int) (iv q).Lo.M.Neg (iv q).Lo.M.Mag (iv q).Lo.E (iv q).Hi.M.Neg (iv q).Hi.M.Mag (iv q).Hi.E=some (iv (nAtanh p q i t e).1,iv (nAtanh p q i t e).2.1,(nAtanh p q i t e).2.2):=by
 unfold small_odd_1_da03 small_Atanh_1
 rw [ivEta,wodd hi,pMul hp ht hq]
 simp only [obn]
 rw [pInt (by omega)]
 simp only [obn]
 rw [pDiv hp (SI_mS hp.2 _ _ _) (SI_iS (by omega) _)]
 rfl
theorem nAtan_loop {p:Nat} (hp:2≤p∧p≤400) {q:I} (hq:SI q):∀ (r i:Nat) (s t:I) (e:Int),i+r=p / 2+4→SI s→SI t→∀ f,r<f→small_series_5374_l2 ((p / 2+4:Nat):Int) (p:Int) (iv q).Lo.M.Neg (iv q).Lo.M.Mag (iv q).Lo.E (iv q).Hi.M.Neg (iv q).Hi.M.Mag (iv q).Hi.E f (i:Int) e (iv s).Lo.M.Neg (iv s).Lo.M.Mag (iv s).Lo.E (iv s).Hi.M.Neg (iv s).Hi.M.Mag (iv s).Hi.E (iv t).Lo.M.Neg (iv t).Lo.M.Mag (iv t).Lo.E (iv t).Hi.M.Neg (iv t).Hi.M.Mag (iv t).Hi.E=some (iv (finS p (serL p (nAtan p q) r i s t e)).1,(finS p (serL p (nAtan p q) r i s t e)).2):=by
 intro r
 induction r with
 | zero=>
  intro i s t e hi hs ht f hf
  obtain ⟨f,rfl⟩:∃ k,f=k+1:=⟨f-1,by omega⟩
  rw [small_series_5374_l2,if_neg (by omega)]
  unfold small_series_5374_j1 cv_Prec
  simp only [obn]
  rw [negHalf hp.2]
  simp only [obn]
  rw [ivEta,pWide hp hs]
  rfl
 | succ r ih=>
  intro i s t e hi hs ht f hf
  obtain ⟨f,rfl⟩:∃ k,f=k+1:=⟨f-1,by omega⟩
  have hn:=nAtan_SI hp.2 q (i:=i+1) (by omega) t e
  rw [small_series_5374_l2,if_pos (by omega),show ((i:Int)+1)=((i+1:Nat):Int) by omega,w64n (by omega),ivEta,ivEta,nAtan_eq hp hq ht (by omega) (by omega)]
  simp only [obn]
  rw [pAdd hp hs hn.2]
  simp only [obn]
  exact ih (i+1) _ _ _ (by omega) (SI_aS hp.2 hs hn.2 _) hn.1 f (by omega)
theorem nAtanh_loop {p:Nat} (hp:2≤p∧p≤400) {q:I} (hq:SI q):∀ (r i:Nat) (s t:I) (e:Int),i+r=p / 2+4→SI s→SI t→∀ f,r<f→small_series_78b1_l2 ((p / 2+4:Nat):Int) (p:Int) (iv q).Lo.M.Neg (iv q).Lo.M.Mag (iv q).Lo.E (iv q).Hi.M.Neg (iv q).Hi.M.Mag (iv q).Hi.E f (i:Int) e (iv s).Lo.M.Neg (iv s).Lo.M.Mag (iv s).Lo.E (iv s).Hi.M.Neg (iv s).Hi.M.Mag (iv s).Hi.E (iv t).Lo.M.Neg (iv t).Lo.M.Mag (iv t).Lo.E (iv t).Hi.M.Neg (iv t).Hi.M.Mag (iv t).Hi.E=some (iv (finS p (serL p (nAtanh p q) r i s t e)).1,(finS p (serL p (nAtanh p q) r i s t e)).2):=by
 intro r
 induction r with
 | zero=>
  intro i s t e hi hs ht f hf
  obtain ⟨f,rfl⟩:∃ k,f=k+1:=⟨f-1,by omega⟩
  rw [small_series_78b1_l2,if_neg (by omega)]
  unfold small_series_78b1_j1 cv_Prec
  simp only [obn]
  rw [negHalf hp.2]
  simp only [obn]
  rw [ivEta,pWide hp hs]
  rfl
 | succ r ih=>
  intro i s t e hi hs ht f hf
  obtain ⟨f,rfl⟩:∃ k,f=k+1:=⟨f-1,by omega⟩
  have hn:=nAtanh_SI hp.2 q (i:=i+1) (by omega) t e
  rw [small_series_78b1_l2,if_pos (by omega),show ((i:Int)+1)=((i+1:Nat):Int) by omega,w64n (by omega),ivEta,ivEta,nAtanh_eq hp hq ht (by omega) (by omega)]
  simp only [obn]
  rw [pAdd hp hs hn.2]
  simp only [obn]
  exact ih (i+1) _ _ _ (by omega) (SI_aS hp.2 hs hn.2 _) hn.1 f (by omega)
theorem rnAtan_loop {p:Nat} (hp:2≤p∧p≤400) {q:I} (hq:SI q) (e0:Int):∀ (r i:Nat) (s t:I) (e:Int),i+r=p / 2+4→SI s→SI t→∀ f,r<f→r07_Atan_l2 (p:Int) (iv q,e0) f ((i+1:Nat):Int) e (iv s).Lo.M.Neg (iv s).Lo.M.Mag (iv s).Lo.E (iv s).Hi.M.Neg (iv s).Hi.M.Mag (iv s).Hi.E (iv t).Lo.M.Neg (iv t).Lo.M.Mag (iv t).Lo.E (iv t).Hi.M.Neg (iv t).Hi.M.Mag (iv t).Hi.E=some (iv (finS p (serL p (nAtan p q) r i s t e)).1,(finS p (serL p (nAtan p q) r i s t e)).2):=by
 intro r
 induction r with
 | zero=>
  intro i s t e hi hs ht f hf
  obtain ⟨f,rfl⟩:∃ k,f=k+1:=⟨f-1,by omega⟩
  rw [r07_Atan_l2,rterms_eq hp.2]
  simp only [obn]
  rw [if_neg (by omega)]
  unfold r07_Atan_j1
  rw [ivEta,rends_eq hp hs]
  rfl
 | succ r ih=>
  intro i s t e hi hs ht f hf
  obtain ⟨f,rfl⟩:∃ k,f=k+1:=⟨f-1,by omega⟩
  have hsq:=sq_small (i:=i+1) (by omega)
  have hn:=nAtan_SI hp.2 q (i:=i+1) (by omega) t e
  rw [r07_Atan_l2,rterms_eq hp.2]
  simp only [obn]
  rw [if_pos (by omega)]
  rw [ivEta,wodd (by omega),rMulS hp ht hq]
  simp only [obn]
  rw [rNegS (SI_mS hp.2 _ _ _)]
  simp only [obn]
  rw [rIntS (by omega)]
  simp only [obn]
  rw [rDivS hp (SI_nS (SI_mS hp.2 _ _ _) _) (SI_iS (by omega) _)]
  simp only [obn]
  have ha:r06_CAdd (iv s) (iv (nAtan p q (i+1) t e).2.1) (p:Int) (nAtan p q (i+1) t e).2.2=_:=rAddS hp hs hn.2 _
  refine Eq.trans (congrArg (fun o=>Option.bind o _) ha) ?_
  simp only [obn]
  rw [show (((i+1:Nat):Int)+1)=((i+1+1:Nat):Int) by omega,w64n (by omega)]
  exact ih (i+1) _ _ _ (by omega) (SI_aS hp.2 hs hn.2 _) hn.1 f (by omega)
theorem rnAtanh_loop {p:Nat} (hp:2≤p∧p≤400) {q:I} (hq:SI q) (e0:Int):∀ (r i:Nat) (s t:I) (e:Int),i+r=p / 2+4→SI s→SI t→∀ f,r<f→r07_Atanh_l2 (p:Int) (iv q,e0) f ((i+1:Nat):Int) e (iv s).Lo.M.Neg (iv s).Lo.M.Mag (iv s).Lo.E (iv s).Hi.M.Neg (iv s).Hi.M.Mag (iv s).Hi.E (iv t).Lo.M.Neg (iv t).Lo.M.Mag (iv t).Lo.E (iv t).Hi.M.Neg (iv t).Hi.M.Mag (iv t).Hi.E=some (iv (finS p (serL p (nAtanh p q) r i s t e)).1,(finS p (serL p (nAtanh p q) r i s t e)).2):=by
 intro r
 induction r with
 | zero=>
  intro i s t e hi hs ht f hf
  obtain ⟨f,rfl⟩:∃ k,f=k+1:=⟨f-1,by omega⟩
  rw [r07_Atanh_l2,rterms_eq hp.2]
  simp only [obn]
  rw [if_neg (by omega)]
  unfold r07_Atanh_j1
  rw [ivEta,rends_eq hp hs]
  rfl
 | succ r ih=>
  intro i s t e hi hs ht f hf
  obtain ⟨f,rfl⟩:∃ k,f=k+1:=⟨f-1,by omega⟩
  have hsq:=sq_small (i:=i+1) (by omega)
  have hn:=nAtanh_SI hp.2 q (i:=i+1) (by omega) t e
  rw [r07_Atanh_l2,rterms_eq hp.2]
  simp only [obn]
  rw [if_pos (by omega)]
  rw [ivEta,wodd (by omega),rMulS hp ht hq]
  simp only [obn]
  rw [rIntS (by omega)]
  simp only [obn]
  rw [rDivS hp (SI_mS hp.2 _ _ _) (SI_iS (by omega) _)]
  simp only [obn]
  have ha:r06_CAdd (iv s) (iv (nAtanh p q (i+1) t e).2.1) (p:Int) (nAtanh p q (i+1) t e).2.2=_:=rAddS hp hs hn.2 _
  refine Eq.trans (congrArg (fun o=>Option.bind o _) ha) ?_
  simp only [obn]
  rw [show (((i+1:Nat):Int)+1)=((i+1+1:Nat):Int) by omega,w64n (by omega)]
  exact ih (i+1) _ _ _ (by omega) (SI_aS hp.2 hs hn.2 _) hn.1 f (by omega)
def box (k:Int):I:=⟨negD ⟨1,k⟩,⟨1,k⟩⟩
theorem SI_box {k:Int} (h : -60000≤k∧k≤60000):okI (box k):=by
 refine ⟨(WD_half h).neg,WD_half h,?_⟩
 show val (negD ⟨1,k⟩)≤val ⟨1,k⟩
 rw [val_neg,val_half]
 have:=p2_pos k
 grind
theorem hasI_int00:hasI (intI 0) zD=true:=by decide +kernel
theorem small_in_eq {p:Nat} (hp:2≤p∧p≤400) {y:I} (hy:SI y) {k:Int} (hk : -60000≤k∧k≤60000) (e:Int):small_in (iv y) k e (p:Int)=some (if e=0 then (if inI y (box k)=true then (true,0) else (false,3)) else (false,e)):=by
 unfold small_in iv_trouble_Err
 rw [dyad_Half_eq hk]
 simp only [obn]
 rw [pNeg hy]
 simp only [obn]
 by_cases h:e=0
 ·subst h
  have hn:(nS y 0).2=0:=rfl
  rw [hn,if_neg (by simp),if_pos rfl,dyad_Neg_eq (WD_half hk)]
  simp only [obn]
  have hb:iv_In (iv y) (iv (box k))=some (inI y (box k)):=ivIn_eq hy.ok (SI_box hk)
  refine Eq.trans (congrArg (fun o=>Option.bind o _) hb) ?_
  simp only [obn]
  by_cases h1:inI y (box k)=true
  ·rw [if_pos h1,if_pos h1]
  ·rw [if_neg h1,if_neg h1,pInt (by omega)]
   simp only [obn]
   have i1:(iS 1 0).2=0:=rfl
   rw [i1,pInt (by omega)]
   simp only [obn]
   rw [pDiv hp (SI_iS (by omega) _) (SI_iS (by omega) _)]
   simp only [obn]
   have hd:dS p (iS 1 0).1 (iS 0 0).1 (iS 0 0).2=(zI,3):=by
    show st 0 zI (divI p (intI 1) (intI 0))=_
    rw [st_zero,divI_zero hasI_int00]
   rw [hd]
 ·have hn:(nS y e).2=e:=by unfold nS; rw [st_ne h]
  rw [hn,if_pos h,if_neg h]
theorem rfits_eq {p:Nat} {y:I} (hy:SI y) {k:Int} (hk : -60000≤k∧k≤60000) (e:Int):r07_fits (iv y) k (p:Int) e=some (if e=0 then (if inI y (box k)=true then (true,0) else (false,3)) else (false,e)):=by
 unfold r07_fits
 by_cases h:e=0
 ·subst h
  rw [if_neg (by simp),if_pos rfl,rRight6_eq hy.ok]
  simp only [obn]
  rw [if_neg (by simp),rHalf_eq hk]
  simp only [obn]
  rw [rNeg5_eq (WD_half hk)]
  simp only [obn]
  have hb:r06_In (iv y) (iv (box k))=some (inI y (box k)):=rIn6_eq hy.ok (SI_box hk)
  refine Eq.trans (congrArg (fun o=>Option.bind o _) hb) ?_
  simp only [obn]
  by_cases h1:inI y (box k)=true
  ·rw [if_neg (by simp [h1]),if_pos h1]
  ·rw [if_pos h1,if_neg h1]
 ·rw [if_pos h,if_neg h]
theorem SI_ser {p:Nat} (hp:p≤400) (next:Nat→I→Int→I × I × Int) (hn:∀ (i:Nat) (t:I) (e:Int),i≤300→SI (next i t e).1∧SI (next i t e).2.1):∀ (k i:Nat) (s t:I) (e:Int),i+k≤300→SI s→SI (serL p next k i s t e).1:=by
 intro k
 induction k with
 | zero=>intro i s t e _ hs; exact hs
 | succ k ih=>
  intro i s t e hi hs
  exact ih (i+1) _ _ _ (by omega) (SI_aS hp hs (hn (i+1) t e (by omega)).2 _)
def atanI (p:Nat) (y:I):I × Int:=if inI y (box (-1))=true then finS p (serL p (nAtan p (mS p y y 0).1) (p / 2+4) 0 y y (mS p y y 0).2) else (zI,3)
def atanhI (p:Nat) (y:I):I × Int:=if inI y (box (-1))=true then finS p (serL p (nAtanh p (mS p y y 0).1) (p / 2+4) 0 y y (mS p y y 0).2) else (zI,3)
theorem smallAtan_eq {p:Nat} (hp:2≤p∧p≤400) {y:I} (hy:SI y) (e:Int):small_Atan (iv y) e (p:Int)=some (iv (st e zI (atanI p y)).1,(st e zI (atanI p y)).2):=by
 unfold small_Atan small_odd_8ed8 small_series_5374 cv_Prec
 rw [small_in_eq hp hy (by omega)]
 simp only [obn]
 by_cases h:e=0
 ·subst h
  rw [if_pos rfl,st_zero]
  unfold atanI
  by_cases h1:inI y (box (-1))=true
  ·rw [if_pos h1,if_pos h1,if_neg (by simp)]
   rw [pMul hp hy hy]
   simp only [obn]
   rw [terms_eq hp.2]
   simp only [obn]
   have hl:=nAtan_loop hp (SI_mS hp.2 y y 0) (p / 2+4) 0 y y (mS p y y 0).2 (by omega) hy hy fuel (by unfold fuel; omega)
   refine Eq.trans (congrArg (fun o=>Option.bind o _) (congrArg (fun o=>Option.bind o _) hl)) ?_
   rfl
  ·rw [if_neg h1,if_neg h1,if_pos (by simp),iv_z]
   rfl
 ·rw [if_neg h,if_pos (by simp),st_ne h,iv_z]
  rfl
theorem rAtan_eq {p:Nat} (hp:2≤p∧p≤400) {y:I} (hy:SI y) (e:Int):r07_Atan (iv y) (p:Int) e=some (iv (st e zI (atanI p y)).1,(st e zI (atanI p y)).2):=by
 unfold r07_Atan
 rw [rfits_eq hy (by omega)]
 simp only [obn]
 by_cases h:e=0
 ·subst h
  rw [if_pos rfl,st_zero]
  unfold atanI
  by_cases h1:inI y (box (-1))=true
  ·rw [if_pos h1,if_pos h1,if_neg (by simp)]
   rw [rMulS hp hy hy]
   simp only [obn]
   exact rnAtan_loop hp (SI_mS hp.2 y y 0) _ (p / 2+4) 0 y y (mS p y y 0).2 (by omega) hy hy fuel (by unfold fuel; omega)
  ·rw [if_neg h1,if_neg h1,if_pos (by simp),iv_z]
 ·rw [if_neg h,if_pos (by simp),st_ne h,iv_z]
theorem smallAtanh_eq {p:Nat} (hp:2≤p∧p≤400) {y:I} (hy:SI y) (e:Int):small_Atanh (iv y) e (p:Int)=some (iv (st e zI (atanhI p y)).1,(st e zI (atanhI p y)).2):=by
 unfold small_Atanh small_odd_cdf0 small_series_78b1 cv_Prec
 rw [small_in_eq hp hy (by omega)]
 simp only [obn]
 by_cases h:e=0
 ·subst h
  rw [if_pos rfl,st_zero]
  unfold atanhI
  by_cases h1:inI y (box (-1))=true
  ·rw [if_pos h1,if_pos h1,if_neg (by simp)]
   rw [pMul hp hy hy]
   simp only [obn]
   rw [terms_eq hp.2]
   simp only [obn]
   have hl:=nAtanh_loop hp (SI_mS hp.2 y y 0) (p / 2+4) 0 y y (mS p y y 0).2 (by omega) hy hy fuel (by unfold fuel; omega)
   refine Eq.trans (congrArg (fun o=>Option.bind o _) (congrArg (fun o=>Option.bind o _) hl)) ?_
   rfl
  ·rw [if_neg h1,if_neg h1,if_pos (by simp),iv_z]
   rfl
 ·rw [if_neg h,if_pos (by simp),st_ne h,iv_z]
  rfl
theorem rAtanh_eq {p:Nat} (hp:2≤p∧p≤400) {y:I} (hy:SI y) (e:Int):r07_Atanh (iv y) (p:Int) e=some (iv (st e zI (atanhI p y)).1,(st e zI (atanhI p y)).2):=by
 unfold r07_Atanh
 rw [rfits_eq hy (by omega)]
 simp only [obn]
 by_cases h:e=0
 ·subst h
  rw [if_pos rfl,st_zero]
  unfold atanhI
  by_cases h1:inI y (box (-1))=true
  ·rw [if_pos h1,if_pos h1,if_neg (by simp)]
   rw [rMulS hp hy hy]
   simp only [obn]
   exact rnAtanh_loop hp (SI_mS hp.2 y y 0) _ (p / 2+4) 0 y y (mS p y y 0).2 (by omega) hy hy fuel (by unfold fuel; omega)
  ·rw [if_neg h1,if_neg h1,if_pos (by simp),iv_z]
 ·rw [if_neg h,if_pos (by simp),st_ne h,iv_z]
theorem SI_atan {p:Nat} (hp:p≤400) {y:I} (hy:SI y):SI (atanI p y).1:=by
 unfold atanI; split
 ·exact SI_fin hp (SI_ser hp _ (fun i t e hi=>nAtan_SI hp _ hi t e) _ _ _ _ _ (by omega) hy)
 ·exact SI_z
theorem SI_atanh {p:Nat} (hp:p≤400) {y:I} (hy:SI y):SI (atanhI p y).1:=by
 unfold atanhI; split
 ·exact SI_fin hp (SI_ser hp _ (fun i t e hi=>nAtanh_SI hp _ hi t e) _ _ _ _ _ (by omega) hy)
 ·exact SI_z
theorem ivNew_bad {p:Int} (h:p<2):iv_New p=some (Sum.inl 1):=by
 unfold iv_New iv_New_j1
 rw [if_pos h,if_pos rfl]
theorem rNew_bad {p:Int} (h:p<2):r06_New p=some (Sum.inl ()):=by
 unfold r06_New r06_New_j1
 rw [if_pos h,if_pos rfl]
theorem sqrt_dir {x:D} {p:Nat} (up:Bool) (h:(sqrtD x p up).2=0):0≤val x∧0≤val (sqrtD x p up).1∧(up=false→val (sqrtD x p up).1*val (sqrtD x p up).1≤val x)∧(up=true→val x≤val (sqrtD x p up).1*val (sqrtD x p up).1):=by
 unfold sqrtD at *
 by_cases hneg:x.m<0
 ·rw [if_pos hneg] at h; simp at h
 have hx0:0≤val x:=by have:=mt (val_neg_iff x).1 hneg; grind
 refine ⟨hx0,?_⟩
 rw [if_neg hneg] at h ⊢
 by_cases hxm:x.m=0
 ·rw [if_pos hxm]
  refine ⟨by rw [val_z]; exact Rat.le_refl,fun _=>?_,fun _=>?_⟩<;>rw [val_z,val_zero_m hxm]<;>simp<;>exact Rat.le_refl
 rw [if_neg hxm] at h ⊢
 rw [tell_ok' h]
 have hev:=rootK_even x p
 have hX0:x.m.natAbs≠0:=by omega
 generalize rootK x p=k at *
 generalize hE:(x.e-(k:Int)) / 2=E
 have hE2:x.e=E+E+k:=by omega
 have hvx:((x.m.natAbs*2 ^ k:Nat):Rat)*(p2 E*p2 E)=val x:=by
  rw [val_abs_pos hneg,hE2,p2_split,p2_add,Rat.natCast_mul]; grind
 generalize x.m.natAbs*2 ^ k=N at *
 obtain ⟨s1,s2⟩:=isqrt_spec N
 generalize isqrt N=s at *
 have hpE:=p2_pos E
 have hlo:=cut_lo s E (N-s*s != 0) p
 have hhi:=cut_hi s E (N-s*s != 0) p
 have hnn:=fun away=>cut_nonneg s E (N-s*s != 0) p away
 have hsN:((s:Rat)*p2 E)*((s:Rat)*p2 E)≤val x:=by
  have h1:((s*s:Nat):Rat)≤(N:Rat):=natCast_le s1
  have h2:=Rat.mul_le_mul_of_nonneg_right h1 (Rat.mul_nonneg (Rat.le_of_lt hpE) (Rat.le_of_lt hpE))
  rw [hvx,Rat.natCast_mul] at h2
  grind
 rw [val_cut,sg_pos_cast]
 refine ⟨hnn up,?_,?_⟩
 ·rintro rfl
  have:=sq_mono (hnn false) hlo
  grind
 ·rintro rfl
  have h1:(0:Rat)≤((s+(if (N-s*s != 0) then 1 else 0):Nat):Rat)*p2 E:=Rat.mul_nonneg (natCast_nonneg _) (Rat.le_of_lt hpE)
  have h2:=sq_mono h1 hhi
  refine Rat.le_trans ?_ h2
  have h3:N≤(s+(if (N-s*s != 0) then 1 else 0))*(s+(if (N-s*s != 0) then 1 else 0)):=by
   by_cases h:N-s*s=0
   ·have e:(N-s*s != 0)=false:=by simpa using h
    rw [e]; simp; omega
   ·have e:(N-s*s != 0)=true:=by simpa using h
    rw [e,if_pos rfl]; omega
  have h4:=natCast_le h3
  have h5:=Rat.mul_le_mul_of_nonneg_right h4 (Rat.mul_nonneg (Rat.le_of_lt hpE) (Rat.le_of_lt hpE))
  rw [hvx,Rat.natCast_mul] at h5
  grind
theorem sqrt_blen (x:D) (p:Nat) (up:Bool):blen (sqrtD x p up).1.m.natAbs≤p+1:=by
 unfold sqrtD
 split
 ·show blen (0:Int).natAbs≤_; simp [blen]
 ·split
  ·show blen (0:Int).natAbs≤_; simp [blen]
  ·exact tell_blen (cutD_blen _ _ _ _ _ _)
theorem SI_sqrt {a:I} (ha:okI a) {p:Nat} (hp:p≤400):SI (sqrtI p a).1:=by
 unfold sqrtI
 by_cases h1:(sqrtD a.lo p false).2=0
 ·rw [bindE_ok h1]
  by_cases h2:(sqrtD a.hi p true).2=0
  ·rw [bindE_ok h2]
   obtain ⟨a1,a2,a3,-⟩:=sqrt_dir false h1
   obtain ⟨b1,b2,-,b4⟩:=sqrt_dir true h2
   have a3:=a3 rfl
   have b4:=b4 rfl
   have l1:=sqrt_blen a.lo p false
   have l2:=sqrt_blen a.hi p true
   have hle:=ha.2.2
   exact ⟨⟨WD_sqrt,WD_sqrt,sq_le a2 b2 (by grind)⟩,by show blen (sqrtD a.lo p false).1.m.natAbs≤1000; omega,by show blen (sqrtD a.hi p true).1.m.natAbs≤1000; omega⟩
  ·rw [bindE_no h2]; exact SI_z
 ·rw [bindE_no h1]; exact SI_z
theorem scale_val {x:D} {n:Int} (h:(scaleD x n).2=0):val (scaleD x n).1=val x*p2 n∧blen (scaleD x n).1.m.natAbs≤blen x.m.natAbs:=by
 unfold scaleD at *
 by_cases h0:x.m=0
 ·rw [if_pos h0]; exact ⟨by rw [val_z,val_zero_m h0,Rat.zero_mul],by show blen (0:Int).natAbs≤_; simp [blen]⟩
 ·rw [if_neg h0] at h ⊢
  rw [tell_ok' h]
  exact ⟨val_scale,Nat.le_refl _⟩
theorem SI_scale {a:I} (ha:SI a) (n:Int):SI (scaleI a n).1:=by
 unfold scaleI
 by_cases h1:(scaleD a.lo n).2=0
 ·rw [bindE_ok h1]
  by_cases h2:(scaleD a.hi n).2=0
  ·rw [bindE_ok h2]
   obtain ⟨v1,b1⟩:=scale_val h1
   obtain ⟨v2,b2⟩:=scale_val h2
   have:=ha.lo
   have:=ha.hi
   refine ⟨⟨WD_scale ha.ok.1 n,WD_scale ha.ok.2.1 n,?_⟩,by show blen (scaleD a.lo n).1.m.natAbs≤1000; omega,by show blen (scaleD a.hi n).1.m.natAbs≤1000; omega⟩
   show val (scaleD a.lo n).1≤val (scaleD a.hi n).1
   rw [v1,v2]
   exact Rat.mul_le_mul_of_nonneg_right ha.ok.2.2 (Rat.le_of_lt (p2_pos n))
  ·rw [bindE_no h2]; exact SI_z
 ·rw [bindE_no h1]; exact SI_z
def scS (a:I) (n:Int) (e:Int):I × Int:=st e zI (scaleI a n)
def suS (p:Nat) (a b:I) (e:Int):I × Int:=st e zI (subI p a b)
def sqS (p:Nat) (a:I) (e:Int):I × Int:=st e zI (sqrtI p a)
def atS (p:Nat) (a:I) (e:Int):I × Int:=st e zI (atanI p a)
def ahS (p:Nat) (a:I) (e:Int):I × Int:=st e zI (atanhI p a)
def recS (p:Nat) (n:Int) (e:Int):I × Int:=dS p (iS 1 e).1 (iS n (iS 1 e).2).1 (iS n (iS 1 e).2).2
def onePi (p:Nat) (n:Int) (e:Int):I × Int:=atS p (recS p n e).1 (recS p n e).2
def piS (p:Nat) (e:Int):I × Int:=
 suS p (scS (onePi p 5 e).1 4 (onePi p 239 (onePi p 5 e).2).2).1 (scS (onePi p 239 (onePi p 5 e).2).1 2 (scS (onePi p 5 e).1 4 (onePi p 239 (onePi p 5 e).2).2).2).1 (scS (onePi p 239 (onePi p 5 e).2).1 2 (scS (onePi p 5 e).1 4 (onePi p 239 (onePi p 5 e).2).2).2).2
def ln2S (p:Nat) (e:Int):I × Int:=scS (ahS p (recS p 3 e).1 (recS p 3 e).2).1 1 (ahS p (recS p 3 e).1 (recS p 3 e).2).2
def rootS (p:Nat) (e:Int):I × Int:=sqS p (piS p e).1 (piS p e).2
theorem SI_rec {p:Nat} (hp:p≤400) {n:Int} (hn : -1000000≤n∧n≤1000000) (e:Int):SI (recS p n e).1:=SI_dS hp _ (SI_iS hn _) _
theorem SI_one {p:Nat} (hp:p≤400) {n:Int} (hn : -1000000≤n∧n≤1000000) (e:Int):SI (onePi p n e).1:=SI_st (SI_atan hp (SI_rec hp hn e)) _
theorem SI_sc {a:I} (ha:SI a) (n e:Int):SI (scS a n e).1:=SI_st (SI_scale ha n) e
theorem SI_pi {p:Nat} (hp:p≤400) (e:Int):SI (piS p e).1:=SI_st (SI_sub (SI_sc (SI_one hp (by omega) _) _ _) (SI_sc (SI_one hp (by omega) _) _ _) hp) _
theorem SI_ln2 {p:Nat} (hp:p≤400) (e:Int):SI (ln2S p e).1:=SI_sc (SI_st (SI_atanh hp (SI_rec hp (by omega) e)) _) _ _
theorem SI_root {p:Nat} (hp:p≤400) (e:Int):SI (rootS p e).1:=SI_st (SI_sqrt (SI_pi hp e).ok hp) _
theorem pScale {a:I} (ha:SI a) {n:Int} (hn : -100000≤n∧n≤100000) (e p:Int):cv_Scale (iv a) n e p=some (iv (scS a n e).1,(scS a n e).2):=ivScale_eq ha.ok hn e p
theorem rScaleS {a:I} (ha:SI a) {n:Int} (hn : -100000≤n∧n≤100000) (e p:Int):r06_CScale (iv a) n p e=some (iv (scS a n e).1,(scS a n e).2):=rivScale_eq ha.ok hn e p
theorem parts_l5 {p:Nat} (hp:2≤p∧p≤400) (e:Int):konst_parts_3d9d 5 4 239 2 e (p:Int)=some ([iv (scS (onePi p 5 e).1 4 (onePi p 239 (onePi p 5 e).2).2).1,iv (scS (onePi p 239 (onePi p 5 e).2).1 2 (scS (onePi p 5 e).1 4 (onePi p 239 (onePi p 5 e).2).2).2).1],(scS (onePi p 239 (onePi p 5 e).2).1 2 (scS (onePi p 5 e).1 4 (onePi p 239 (onePi p 5 e).2).2).2).2):=by
 unfold konst_parts_3d9d
 obtain ⟨f,hf⟩:=fuel_succ
 rw [hf]
 rw [konst_parts_3d9d_l5,if_pos (by omega),if_pos rfl,pInt (by omega)]
 simp only [obn]
 rw [pInt (by omega)]
 simp only [obn]
 rw [pDiv hp (SI_iS (by omega) _) (SI_iS (by omega) _)]
 simp only [obn]
 have h1:small_Atan (iv (recS p 5 e).1) (recS p 5 e).2 (p:Int)=some (iv (onePi p 5 e).1,(onePi p 5 e).2):=smallAtan_eq hp (SI_rec hp.2 (by omega) e) _
 refine Eq.trans (congrArg (fun o=>Option.bind o _) h1) ?_
 simp only [obn]
 rw [if_pos (by simp)]
 unfold konst_parts_3d9d_j6
 rw [if_pos (by simp),show IntKind.i64.wrap (0+1)=1 by decide]
 dsimp only
 rw [konst_parts_3d9d_l5,if_pos (by omega),if_neg (by decide),if_pos rfl,pInt (by omega)]
 simp only [obn]
 rw [pInt (by omega)]
 simp only [obn]
 rw [pDiv hp (SI_iS (by omega) _) (SI_iS (by omega) _)]
 simp only [obn]
 have h2:small_Atan (iv (recS p 239 (onePi p 5 e).2).1) (recS p 239 (onePi p 5 e).2).2 (p:Int)=some (iv (onePi p 239 (onePi p 5 e).2).1,(onePi p 239 (onePi p 5 e).2).2):=smallAtan_eq hp (SI_rec hp.2 (by omega) _) _
 refine Eq.trans (congrArg (fun o=>Option.bind o _) h2) ?_
 simp only [obn]
 rw [if_pos (by simp)]
 unfold konst_parts_3d9d_j6
 rw [if_pos (by simp),show IntKind.i64.wrap (1+1)=2 by decide]
 dsimp only
 rw [konst_parts_3d9d_l5,if_neg (by omega)]
 unfold konst_parts_3d9d_j1
 rw [hf]
 rw [konst_parts_3d9d_l3,if_pos (by omega),if_pos rfl,if_pos (by simp),if_pos (by simp)]
 have k1:=pScale (SI_one hp.2 (n:=5) (by omega) e) (n:=4) (by omega) (onePi p 239 (onePi p 5 e).2).2 (p:Int)
 refine Eq.trans (congrArg (fun o=>Option.bind o _) k1) ?_
 simp only [obn]
 rw [if_pos (by simp)]
 unfold konst_parts_3d9d_j4
 rw [if_pos (by simp),show IntKind.i64.wrap (0+1)=1 by decide]
 dsimp only
 rw [konst_parts_3d9d_l3,if_pos (by omega),if_neg (by decide),if_pos rfl,if_pos (by simp),if_pos (by simp)]
 have k2:=pScale (SI_one hp.2 (n:=239) (by omega) (onePi p 5 e).2) (n:=2) (by omega) (scS (onePi p 5 e).1 4 (onePi p 239 (onePi p 5 e).2).2).2 (p:Int)
 refine Eq.trans (congrArg (fun o=>Option.bind o _) k2) ?_
 simp only [obn]
 rw [if_pos (by simp)]
 unfold konst_parts_3d9d_j4
 rw [if_pos (by simp),show IntKind.i64.wrap (1+1)=2 by decide]
 dsimp only
 rw [konst_parts_3d9d_l3,if_neg (by omega)]
 rfl
theorem Pi_eq {p:Nat} (hp:2≤p∧p≤400) (e:Int):konst_Pi e (p:Int)=some (iv (piS p e).1,(piS p e).2):=by
 unfold konst_Pi
 rw [parts_l5 hp]
 simp only [obn]
 rw [if_pos (by simp),if_pos (by simp)]
 have k:=ivSub_eq (SI_sc (SI_one hp.2 (n:=5) (by omega) e) 4 (onePi p 239 (onePi p 5 e).2).2).ok (SI_sc (SI_one hp.2 (n:=239) (by omega) (onePi p 5 e).2) 2 (scS (onePi p 5 e).1 4 (onePi p 239 (onePi p 5 e).2).2).2).ok hp (scS (onePi p 239 (onePi p 5 e).2).1 2 (scS (onePi p 5 e).1 4 (onePi p 239 (onePi p 5 e).2).2).2).2
 refine Eq.trans (congrArg (fun o=>Option.bind o _) k) ?_
 rfl
theorem rPi_eq {p:Nat} (hp:2≤p∧p≤400) (e:Int):r08_Pi (p:Int) e=some (iv (piS p e).1,(piS p e).2):=by
 have one:∀ (n:Int) (e:Int),-1000000≤n∧n≤1000000→r07_Atan (iv (recS p n e).1) (p:Int) (recS p n e).2=some (iv (onePi p n e).1,(onePi p n e).2):=fun n e hn=>rAtan_eq hp (SI_rec hp.2 hn e) _
 unfold r08_Pi
 rw [rIntS (by omega)]
 simp only [obn]
 rw [rIntS (by omega)]
 simp only [obn]
 rw [rDivS hp (SI_iS (by omega) _) (SI_iS (by omega) _)]
 simp only [obn]
 refine Eq.trans (congrArg (fun o=>Option.bind o _) (one 5 e (by omega))) ?_
 simp only [obn]
 rw [rIntS (by omega)]
 simp only [obn]
 rw [rIntS (by omega)]
 simp only [obn]
 rw [rDivS hp (SI_iS (by omega) _) (SI_iS (by omega) _)]
 simp only [obn]
 refine Eq.trans (congrArg (fun o=>Option.bind o _) (one 239 _ (by omega))) ?_
 simp only [obn]
 rw [rScaleS (SI_one hp.2 (by omega) _) (by omega)]
 simp only [obn]
 rw [rScaleS (SI_one hp.2 (by omega) _) (by omega)]
 simp only [obn]
 have k:=rivSub_eq (SI_sc (SI_one hp.2 (n:=5) (by omega) e) 4 (onePi p 239 (onePi p 5 e).2).2).ok (SI_sc (SI_one hp.2 (n:=239) (by omega) (onePi p 5 e).2) 2 (scS (onePi p 5 e).1 4 (onePi p 239 (onePi p 5 e).2).2).2).ok hp (scS (onePi p 239 (onePi p 5 e).2).1 2 (scS (onePi p 5 e).1 4 (onePi p 239 (onePi p 5 e).2).2).2).2
 refine Eq.trans (congrArg (fun o=>Option.bind o _) k) ?_
 rfl
theorem Ln2_eq {p:Nat} (hp:2≤p∧p≤400) (e:Int):konst_Ln2 e (p:Int)=some (iv (ln2S p e).1,(ln2S p e).2):=by
 unfold konst_Ln2 konst_parts_b550
 obtain ⟨f,hf⟩:=fuel_succ
 rw [hf]
 rw [konst_parts_b550_l4,if_pos (by omega),if_pos rfl,pInt (by omega)]
 simp only [obn]
 rw [pInt (by omega)]
 simp only [obn]
 rw [pDiv hp (SI_iS (by omega) _) (SI_iS (by omega) _)]
 simp only [obn]
 have h1:small_Atanh (iv (recS p 3 e).1) (recS p 3 e).2 (p:Int)=some (iv (ahS p (recS p 3 e).1 (recS p 3 e).2).1,(ahS p (recS p 3 e).1 (recS p 3 e).2).2):=smallAtanh_eq hp (SI_rec hp.2 (by omega) e) _
 refine Eq.trans (congrArg (fun o=>Option.bind o _) (congrArg (fun o=>Option.bind o _) h1)) ?_
 simp only [obn]
 rw [if_pos (by simp),show IntKind.i64.wrap (0+1)=1 by decide]
 rw [konst_parts_b550_l4,if_neg (by omega)]
 unfold konst_parts_b550_j1
 rw [hf]
 rw [konst_parts_b550_l3,if_pos (by omega),if_pos rfl,if_pos (by simp),if_pos (by simp)]
 have k1:=pScale (SI_st (SI_atanh hp.2 (SI_rec hp.2 (n:=3) (by omega) e)) (recS p 3 e).2) (n:=1) (by omega) (ahS p (recS p 3 e).1 (recS p 3 e).2).2 (p:Int)
 refine Eq.trans (congrArg (fun o=>Option.bind o _) (congrArg (fun o=>Option.bind o _) k1)) ?_
 simp only [obn]
 rw [if_pos (by simp),if_pos (by simp),show IntKind.i64.wrap (0+1)=1 by decide]
 rw [konst_parts_b550_l3,if_neg (by omega)]
 unfold konst_parts_b550_j2
 simp only [obn]
 rw [if_pos (by simp)]
 rfl
theorem rLn2_eq {p:Nat} (hp:2≤p∧p≤400) (e:Int):r08_Ln2 (p:Int) e=some (iv (ln2S p e).1,(ln2S p e).2):=by
 unfold r08_Ln2
 rw [rIntS (by omega)]
 simp only [obn]
 rw [rIntS (by omega)]
 simp only [obn]
 rw [rDivS hp (SI_iS (by omega) _) (SI_iS (by omega) _)]
 simp only [obn]
 have h1:r07_Atanh (iv (recS p 3 e).1) (p:Int) (recS p 3 e).2=some (iv (ahS p (recS p 3 e).1 (recS p 3 e).2).1,(ahS p (recS p 3 e).1 (recS p 3 e).2).2):=rAtanh_eq hp (SI_rec hp.2 (by omega) e) _
 refine Eq.trans (congrArg (fun o=>Option.bind o _) h1) ?_
 simp only [obn]
 have k1:=rScaleS (SI_st (SI_atanh hp.2 (SI_rec hp.2 (n:=3) (by omega) e)) (recS p 3 e).2) (n:=1) (by omega) (ahS p (recS p 3 e).1 (recS p 3 e).2).2 (p:Int)
 refine Eq.trans (congrArg (fun o=>Option.bind o _) k1) ?_
 rfl
theorem Root_eq {p:Nat} (hp:2≤p∧p≤400) (e:Int):konst_Root e (p:Int)=some (iv (rootS p e).1,(rootS p e).2):=by
 unfold konst_Root
 rw [Pi_eq hp]
 simp only [obn]
 have k:=ivSqrt_eq (SI_pi hp.2 e).ok (SI_pi hp.2 e).l2 hp (piS p e).2
 refine Eq.trans (congrArg (fun o=>Option.bind o _) k) ?_
 rfl
theorem rRoot_eq {p:Nat} (hp:2≤p∧p≤400) (e:Int):r08_Root (p:Int) e=some (iv (rootS p e).1,(rootS p e).2):=by
 unfold r08_Root
 rw [rPi_eq hp]
 simp only [obn]
 have k:=rivSqrt_eq (SI_pi hp.2 e).ok (SI_pi hp.2 e).l hp (piS p e).2
 refine Eq.trans (congrArg (fun o=>Option.bind o _) k) ?_
 rfl
theorem same08_eq {x y:I} (hx:okI x):l08_same (iv x) (iv y)=some (decide (x=y)):=by
 unfold l08_same
 rw [same_eq hx]; rfl
theorem ex08:(piS 64 0).2=0∧cmpD (fromD 3) (piS 64 0).1.lo<0∧cmpD (piS 64 0).1.hi (fromD 4)<0:=by decide +kernel
theorem examples08:l08_examples=some true:=by
 obtain ⟨x1,x2,x3⟩:=ex08
 have hN:=ivNew_eq (p:=64) (by omega)
 have hP:=Pi_eq (p:=64) (by omega) 0
 rw [show ((64:Nat):Int)=64 by rfl] at hN hP
 have hS:=(SI_pi (p:=64) (by omega) 0).ok
 unfold l08_examples l08_examples_j1 iv_trouble_Err
 rw [hN]
 simp only [obn]
 rw [if_neg (by simp),hP]
 simp only [obn]
 rw [if_pos x1,rFrom5_eq (by omega)]
 simp only [obn]
 have c1:r05_Cmp (dy (fromD 3)) (iv (piS 64 0).1).Lo=some (cmpD (fromD 3) (piS 64 0).1.lo):=rCmp5_eq (WD_from (by omega)) hS.1
 have c2:r05_Cmp (iv (piS 64 0).1).Hi (dy (fromD 4))=some (cmpD (piS 64 0).1.hi (fromD 4)):=rCmp5_eq hS.2.1 (WD_from (by omega))
 rw [c1]
 simp only [obn]
 rw [if_pos x2,rFrom5_eq (by omega)]
 simp only [obn]
 rw [c2]
 simp only [obn]
 rw [decide_eq_true x3]
theorem KonstTold_true (a0:Int) (g0:(Lit.int .i64 a0).wf=true) (a1:Int) (g1:(Lit.int .i64 a1).wf=true):l08_KonstTold a0 a1=some true:=by
 unfold l08_KonstTold
 rw [examples08]
 simp only [obn]
 rw [if_neg (by simp)]
 by_cases hp1:a0<2
 ·have hm:mn a0 200=a0:=by unfold mn; split<;>omega
  rw [hm,ivNew_bad hp1,rNew_bad hp1]
  rfl
 ·obtain ⟨p,hp,hpl,hph⟩:∃ p:Nat,mn a0 200=(p:Int)∧2≤p∧p≤200:=⟨(mn a0 200).toNat,by unfold mn; split<;>omega,by unfold mn; split<;>omega,by unfold mn; split<;>omega⟩
  have hpp:2≤p∧p≤400:=by omega
  rw [hp,ivNew_eq hpp,rNew6_eq hpp]
  simp only [obn]
  have key:∀ n:Int,l08_KonstTold_j4 (0,0,(p:Int)) ((p:Int),0) true n=some true:=by
   intro n
   unfold l08_KonstTold_j4 l08_KonstTold_j7 l08_KonstTold_j5 l08_KonstTold_j6 iv_trouble_Err
   split
   ·rw [Pi_eq hpp,rPi_eq hpp]
    simp only [obn]
    rw [same08_eq (SI_pi hpp.2 0).ok]
    simp
   ·split
    ·rw [Ln2_eq hpp,rLn2_eq hpp]
     simp only [obn]
     rw [same08_eq (SI_ln2 hpp.2 0).ok]
     simp
    ·rw [Root_eq hpp,rRoot_eq hpp]
     simp only [obn]
     rw [same08_eq (SI_root hpp.2 0).ok]
     simp
  split
  ·exact key _
  ·exact key _
end Go.Proofs.YtpmpcohbpankaaaGreat.Gen
