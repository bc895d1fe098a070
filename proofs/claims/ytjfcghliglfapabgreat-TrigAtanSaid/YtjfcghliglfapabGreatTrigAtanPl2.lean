/- Plain theory of the numbers that the statement speaks of: printed from the proofs' own texts, as far as this statement needs it. -/
import Derived.Test.YtjfcghliglfapabGreatTrigAtanPl1
namespace Go.Proofs.YtjfcghliglfapabGreat.Gen
open Go Go.Abs Go.Plain
theorem rAddS {p:Nat} (hp:2≤p∧p≤400) {a b:I} (ha:SI a) (hb:SI b) (e:Int):r06_CAdd (iv a) (iv b) (p:Int) e=some (iv (aS p a b e).1,(aS p a b e).2):=rivAdd_eq ha.ok hb.ok hp e
theorem rNegS {a:I} (ha:SI a) (e p:Int):r06_CNeg (iv a) p e=some (iv (nS a e).1,(nS a e).2):=rivNeg_eq ha.ok e p
theorem rIntS {n:Int} (hn : -1000000≤n∧n≤1000000) (e p:Int):r06_CInt n p e=some (iv (iS n e).1,(iS n e).2):=rivInt_eq (by omega) e p
def serL (p:Nat) (next:Nat→I→Int→I × I × Int):Nat→Nat→I→I→Int→I × Int
 | 0,_,s,_,e=>(s,e)
 | k+1,i,s,t,e=>serL p next k (i+1) (aS p s (next (i+1) t e).2.1 (next (i+1) t e).2.2).1 (next (i+1) t e).1 (aS p s (next (i+1) t e).2.1 (next (i+1) t e).2.2).2
def finS (p:Nat) (r:I × Int):I × Int:=wS p r.1 ⟨1,-(p:Int)⟩ r.2
def turnS (p:Nat) (t q:I) (b:Int) (e:Int):I × Int:=nS (dS p (mS p t q e).1 (iS b (mS p t q e).2).1 (iS b (mS p t q e).2).2).1 (dS p (mS p t q e).1 (iS b (mS p t q e).2).1 (iS b (mS p t q e).2).2).2
def nSin (p:Nat) (q:I) (i:Nat) (t:I) (e:Int):I × I × Int:=((turnS p t q ((2*i*(2*i+1):Nat):Int) e).1,(turnS p t q ((2*i*(2*i+1):Nat):Int) e).1,(turnS p t q ((2*i*(2*i+1):Nat):Int) e).2)
def nCos (p:Nat) (q:I) (i:Nat) (t:I) (e:Int):I × I × Int:=((turnS p t q (((2*i-1)*2*i:Nat):Int) e).1,(turnS p t q (((2*i-1)*2*i:Nat):Int) e).1,(turnS p t q (((2*i-1)*2*i:Nat):Int) e).2)
def oddS (p:Nat) (i:Nat) (g:I × Int):I × I × Int:=(g.1,(dS p g.1 (iS ((2*i+1:Nat):Int) g.2).1 (iS ((2*i+1:Nat):Int) g.2).2).1,(dS p g.1 (iS ((2*i+1:Nat):Int) g.2).1 (iS ((2*i+1:Nat):Int) g.2).2).2)
def nAtan (p:Nat) (q:I) (i:Nat) (t:I) (e:Int):I × I × Int:=oddS p i (nS (mS p t q e).1 (mS p t q e).2)
theorem SI_turn {p:Nat} (hp:p≤400) (t q:I) {b:Int} (hb : -1000000≤b∧b≤1000000) (e:Int):SI (turnS p t q b e).1:=SI_nS (SI_dS hp _ (SI_iS hb _) _) _
theorem sq_small {i:Nat} (h:i≤300):2*i*(2*i+1)≤1000000∧(2*i-1)*2*i≤1000000:=by
 have h1:2*i*(2*i+1)≤600*601:=Nat.mul_le_mul (by omega) (by omega)
 have h2:(2*i-1)*2*i≤1200*300:=Nat.mul_le_mul (by omega) (by omega)
 omega
theorem nSin_SI {p:Nat} (hp:p≤400) (y:I) {i:Nat} (hi:i≤300) (t:I) (e:Int):SI (nSin p y i t e).1∧SI (nSin p y i t e).2.1:=by
 have:=sq_small hi
 exact ⟨SI_turn hp _ _ (by omega) _,SI_turn hp _ _ (by omega) _⟩
theorem nCos_SI {p:Nat} (hp:p≤400) (y:I) {i:Nat} (hi:i≤300) (t:I) (e:Int):SI (nCos p y i t e).1∧SI (nCos p y i t e).2.1:=by
 have:=sq_small hi
 exact ⟨SI_turn hp _ _ (by omega) _,SI_turn hp _ _ (by omega) _⟩
theorem nAtan_SI {p:Nat} (hp:p≤400) (y:I) {i:Nat} (hi:i≤300) (t:I) (e:Int):SI (nAtan p y i t e).1∧SI (nAtan p y i t e).2.1:=⟨SI_nS (SI_mS hp _ _ _) _,SI_dS hp _ (SI_iS (by omega) _) _⟩
theorem ivEta (a:I):(⟨⟨⟨(iv a).Lo.M.Neg,(iv a).Lo.M.Mag⟩,(iv a).Lo.E⟩,⟨⟨(iv a).Hi.M.Neg,(iv a).Hi.M.Mag⟩,(iv a).Hi.E⟩⟩:AI)=iv a:=rfl
theorem WD_half {k:Int} (h : -60000≤k∧k≤60000):WD ⟨1,k⟩:=⟨Or.inr ⟨rfl,by simp only; omega,by simp only; omega⟩,by show blen 1≤262144; rw [show blen 1=1 by decide]; omega⟩
theorem val_half (k:Int):val ⟨1,k⟩=p2 k:=by unfold val; simp
theorem SI_fin {p:Nat} (hp:p≤400) {r:I × Int} (h:SI r.1):SI (finS p r).1:=SI_st (SI_wide h (by rw [val_half]; exact Rat.le_of_lt (p2_pos _)) hp) _
theorem pWide {p:Nat} (hp:2≤p∧p≤400) {a:I} (ha:SI a) (e:Int):cv_Wide (iv a) (dy ⟨1,-(p:Int)⟩) e (p:Int)=some (iv (finS p (a,e)).1,(finS p (a,e)).2):=
 ivWide_eq ha.ok (WD_half (by omega)) (by rw [val_half]; exact Rat.le_of_lt (p2_pos _)) hp e
theorem rWideS {p:Nat} (hp:2≤p∧p≤400) {a:I} (ha:SI a) (e:Int):r06_CWide (iv a) (dy ⟨1,-(p:Int)⟩) (p:Int) e=some (iv (finS p (a,e)).1,(finS p (a,e)).2):=
 rivWide_eq ha.ok (WD_half (by omega)) (by rw [val_half]; exact Rat.le_of_lt (p2_pos _)) hp e
theorem negHalf {p:Nat} (hp:p≤400):dyad_Half (IntKind.i64.wrap (0-(p:Int)))=some (dy ⟨1,-(p:Int)⟩):=by
 rw [w64 (by omega) (by omega),show 0-(p:Int) = -(p:Int) by omega,dyad_Half_eq (by omega)]
theorem rnegHalf {p:Nat} (hp:p≤400):r05_Half (IntKind.i64.wrap (0-(p:Int)))=some (dy ⟨1,-(p:Int)⟩):=by
 rw [w64 (by omega) (by omega),show 0-(p:Int) = -(p:Int) by omega,rHalf_eq (by omega)]
theorem rends_eq {p:Nat} (hp:2≤p∧p≤400) {a:I} (ha:SI a) (e:Int):r07_ends (iv a) (p:Int) e=some (iv (finS p (a,e)).1,(finS p (a,e)).2):=by
 unfold r07_ends
 rw [rnegHalf hp.2]
 simp only [obn]
 rw [rWideS hp ha]
 rfl
theorem terms_eq {p:Nat} (hp:p≤400):small_Terms (p:Int)=some ((p / 2+4:Nat):Int):=by
 unfold small_Terms
 have h1:mx (p:Int) 0=(p:Int):=by unfold mx; split<;>omega
 have h2:mn (p:Int) 400=(p:Int):=by unfold mn; split<;>omega
 rw [h1,h2,show (2:Int)=((2:Nat):Int) by rfl,tdivn,w64n (by omega),w64 (by omega) (by omega)]
 rfl
theorem rterms_eq {p:Nat} (hp:p≤400):r07_Terms (p:Int)=some ((p / 2+4:Nat):Int):=by
 unfold r07_Terms
 have h1:mx (p:Int) 0=(p:Int):=by unfold mx; split<;>omega
 have h2:mn (p:Int) 400=(p:Int):=by unfold mn; split<;>omega
 rw [h1,h2,show (2:Int)=((2:Nat):Int) by rfl,tdivn,w64n (by omega),w64 (by omega) (by omega)]
 rfl
theorem turned_eq {p:Nat} (hp:2≤p∧p≤400) {t q:I} (ht:SI t) (hq:SI q) {b:Int} (hb : -1000000≤b∧b≤1000000) (e:Int):small_turned (iv t) (iv q) b e (p:Int)=some (iv (turnS p t q b e).1,(turnS p t q b e).2):=by
 unfold small_turned
 rw [pMul hp ht hq]
 simp only [obn]
 rw [pInt hb]
 simp only [obn]
 rw [pDiv hp (SI_mS hp.2 _ _ _) (SI_iS hb _)]
 simp only [obn]
 rw [pNeg (SI_dS hp.2 _ (SI_iS hb _) _)]
 rfl
theorem wsin {i:Nat} (h:i≤300):IntKind.i64.wrap (IntKind.i64.wrap (2*(i:Int))*IntKind.i64.wrap (IntKind.i64.wrap (2*(i:Int))+1))=((2*i*(2*i+1):Nat):Int):=by
 have:=sq_small h
 rw [w64 (x:=2*(i:Int)) (by omega) (by omega),w64 (x:=2*(i:Int)+1) (by omega) (by omega),show 2*(i:Int)*(2*(i:Int)+1)=((2*i*(2*i+1):Nat):Int) by simp,w64n (by omega)]
theorem wcos {i:Nat} (h:i≤300) (h0:1≤i):IntKind.i64.wrap (IntKind.i64.wrap (IntKind.i64.wrap (IntKind.i64.wrap (2*(i:Int))-1)*2)*(i:Int))=(((2*i-1)*2*i:Nat):Int):=by
 have:=sq_small h
 rw [w64 (x:=2*(i:Int)) (by omega) (by omega),w64 (x:=2*(i:Int)-1) (by omega) (by omega),show 2*(i:Int)-1=((2*i-1:Nat):Int) by omega,w64 (x:=((2*i-1:Nat):Int)*2) (by omega) (by omega),show ((2*i-1:Nat):Int)*2*(i:Int)=(((2*i-1)*2*i:Nat):Int) by simp,w64n (by omega)]
theorem wodd {i:Nat} (h:i≤300):IntKind.i64.wrap (IntKind.i64.wrap (2*(i:Int))+1)=((2*i+1:Nat):Int):=by
 rw [w64 (x:=2*(i:Int)) (by omega) (by omega),w64 (by omega) (by omega)]; omega
theorem nSin_eq {p:Nat} (hp:2≤p∧p≤400) {q t:I} (hq:SI q) (ht:SI t) {i:Nat} (hi:i≤300) (h0:1≤i) (e:Int):small_plain_1_7cba (i:Int) (iv t) e (p:Int) (iv q).Lo.M.Neg (iv q).Lo.M.Mag (iv q).Lo.E (iv q).Hi.M.Neg (iv q).Hi.M.Mag (iv q).Hi.E=some (iv (nSin p q i t e).1,iv (nSin p q i t e).2.1,(nSin p q i t e).2.2):=by
 have:=sq_small hi
 unfold small_plain_1_7cba small_Sin_1
 rw [ivEta,wsin hi,turned_eq hp ht hq (by omega)]
 rfl
theorem nCos_eq {p:Nat} (hp:2≤p∧p≤400) {q t:I} (hq:SI q) (ht:SI t) {i:Nat} (hi:i≤300) (h0:1≤i) (e:Int):small_plain_1_b404 (i:Int) (iv t) e (p:Int) (iv q).Lo.M.Neg (iv q).Lo.M.Mag (iv q).Lo.E (iv q).Hi.M.Neg (iv q).Hi.M.Mag (iv q).Hi.E=some (iv (nCos p q i t e).1,iv (nCos p q i t e).2.1,(nCos p q i t e).2.2):=by
 have:=sq_small hi
 unfold small_plain_1_b404 small_Cos_1
 rw [ivEta,wcos hi h0,turned_eq hp ht hq (by omega)]
 rfl
theorem nAtan_eq {p:Nat} (hp:2≤p∧p≤400) {q t:I} (hq:SI q) (ht:SI t) {i:Nat} (hi:i≤300) (h0:1≤i) (e:Int):small_odd_1_df97 (i:Int) (iv t) e (p:Int) (iv q).Lo.M.Neg (iv q).Lo.M.Mag (iv q).Lo.E (iv q).Hi.M.Neg (iv q).Hi.M.Mag (iv q).Hi.E=some (iv (nAtan p q i t e).1,iv (nAtan p q i t e).2.1,(nAtan p q i t e).2.2):=by
 unfold small_odd_1_df97
 rw [ivEta,wodd hi,pMul hp ht hq]
 simp only [obn]
 rw [pNeg (SI_mS hp.2 _ _ _)]
 simp only [obn]
 rw [pInt (by omega)]
 simp only [obn]
 rw [pDiv hp (SI_nS (SI_mS hp.2 _ _ _) _) (SI_iS (by omega) _)]
 rfl
theorem nSin_loop {p:Nat} (hp:2≤p∧p≤400) {q:I} (hq:SI q):∀ (r i:Nat) (s t:I) (e:Int),i+r=p / 2+4→SI s→SI t→∀ f,r<f→small_series_f1ab_l2 ((p / 2+4:Nat):Int) (p:Int) (iv q).Lo.M.Neg (iv q).Lo.M.Mag (iv q).Lo.E (iv q).Hi.M.Neg (iv q).Hi.M.Mag (iv q).Hi.E f (i:Int) e (iv s).Lo.M.Neg (iv s).Lo.M.Mag (iv s).Lo.E (iv s).Hi.M.Neg (iv s).Hi.M.Mag (iv s).Hi.E (iv t).Lo.M.Neg (iv t).Lo.M.Mag (iv t).Lo.E (iv t).Hi.M.Neg (iv t).Hi.M.Mag (iv t).Hi.E=some (iv (finS p (serL p (nSin p q) r i s t e)).1,(finS p (serL p (nSin p q) r i s t e)).2):=by
 intro r
 induction r with
 | zero=>
  intro i s t e hi hs ht f hf
  obtain ⟨f,rfl⟩:∃ k,f=k+1:=⟨f-1,by omega⟩
  rw [small_series_f1ab_l2,if_neg (by omega)]
  unfold small_series_f1ab_j1 cv_Prec
  simp only [obn]
  rw [negHalf hp.2]
  simp only [obn]
  rw [ivEta,pWide hp hs]
  rfl
 | succ r ih=>
  intro i s t e hi hs ht f hf
  obtain ⟨f,rfl⟩:∃ k,f=k+1:=⟨f-1,by omega⟩
  have hn:=nSin_SI hp.2 q (i:=i+1) (by omega) t e
  rw [small_series_f1ab_l2,if_pos (by omega),show ((i:Int)+1)=((i+1:Nat):Int) by omega,w64n (by omega),ivEta,ivEta,nSin_eq hp hq ht (by omega) (by omega)]
  simp only [obn]
  rw [pAdd hp hs hn.2]
  simp only [obn]
  exact ih (i+1) _ _ _ (by omega) (SI_aS hp.2 hs hn.2 _) hn.1 f (by omega)
theorem nCos_loop {p:Nat} (hp:2≤p∧p≤400) {q:I} (hq:SI q):∀ (r i:Nat) (s t:I) (e:Int),i+r=p / 2+4→SI s→SI t→∀ f,r<f→small_series_7c7a_l2 ((p / 2+4:Nat):Int) (p:Int) (iv q).Lo.M.Neg (iv q).Lo.M.Mag (iv q).Lo.E (iv q).Hi.M.Neg (iv q).Hi.M.Mag (iv q).Hi.E f (i:Int) e (iv s).Lo.M.Neg (iv s).Lo.M.Mag (iv s).Lo.E (iv s).Hi.M.Neg (iv s).Hi.M.Mag (iv s).Hi.E (iv t).Lo.M.Neg (iv t).Lo.M.Mag (iv t).Lo.E (iv t).Hi.M.Neg (iv t).Hi.M.Mag (iv t).Hi.E=some (iv (finS p (serL p (nCos p q) r i s t e)).1,(finS p (serL p (nCos p q) r i s t e)).2):=by
 intro r
 induction r with
 | zero=>
  intro i s t e hi hs ht f hf
  obtain ⟨f,rfl⟩:∃ k,f=k+1:=⟨f-1,by omega⟩
  rw [small_series_7c7a_l2,if_neg (by omega)]
  unfold small_series_7c7a_j1 cv_Prec
  simp only [obn]
  rw [negHalf hp.2]
  simp only [obn]
  rw [ivEta,pWide hp hs]
  rfl
 | succ r ih=>
  intro i s t e hi hs ht f hf
  obtain ⟨f,rfl⟩:∃ k,f=k+1:=⟨f-1,by omega⟩
  have hn:=nCos_SI hp.2 q (i:=i+1) (by omega) t e
  rw [small_series_7c7a_l2,if_pos (by omega),show ((i:Int)+1)=((i+1:Nat):Int) by omega,w64n (by omega),ivEta,ivEta,nCos_eq hp hq ht (by omega) (by omega)]
  simp only [obn]
  rw [pAdd hp hs hn.2]
  simp only [obn]
  exact ih (i+1) _ _ _ (by omega) (SI_aS hp.2 hs hn.2 _) hn.1 f (by omega)
theorem nAtan_loop {p:Nat} (hp:2≤p∧p≤400) {q:I} (hq:SI q):∀ (r i:Nat) (s t:I) (e:Int),i+r=p / 2+4→SI s→SI t→∀ f,r<f→small_series_5374_l2 ((p / 2+4:Nat):Int) (p:Int) (iv q).Lo.M.Neg (iv q).Lo.M.Mag (iv q).Lo.E (iv q).Hi.M.Neg (iv q).Hi.M.Mag (iv q).Hi.E f (i:Int) e (iv s).Lo.M.Neg (iv s).Lo.M.Mag (iv s).Lo.E (iv s).Hi.M.Neg (iv s).Hi.M.Mag (iv s).Hi.E (iv t).Lo.M.Neg (iv t).Lo.M.Mag (iv t).Lo.E (iv t).Hi.M.Neg (iv t).Hi.M.Mag (iv t).Hi.E=some (iv (finS p (serL p (nAtan p q) r i s t e)).1,(finS p (serL p (nAtan p q) r i s t e)).2):=by
 intro r
 induction r with
 | zero=>
  intro i s t e hi hs ht f hf
  obtain ⟨f,rfl⟩:∃ k,f=k+1:=⟨f-1,by omega⟩
  rw [small_series_5374_l2,if_neg (by omega)]
  unfold small_series_5374_j1 cv_Prec
  simp only [obn]
  rw [negHalf hp.2]
  simp only [obn]
  rw [ivEta,pWide hp hs]
  rfl
 | succ r ih=>
  intro i s t e hi hs ht f hf
  obtain ⟨f,rfl⟩:∃ k,f=k+1:=⟨f-1,by omega⟩
  have hn:=nAtan_SI hp.2 q (i:=i+1) (by omega) t e
  rw [small_series_5374_l2,if_pos (by omega),show ((i:Int)+1)=((i+1:Nat):Int) by omega,w64n (by omega),ivEta,ivEta,nAtan_eq hp hq ht (by omega) (by omega)]
  simp only [obn]
  rw [pAdd hp hs hn.2]
  simp only [obn]
  exact ih (i+1) _ _ _ (by omega) (SI_aS hp.2 hs hn.2 _) hn.1 f (by omega)
theorem rnAtan_loop {p:Nat} (hp:2≤p∧p≤400) {q:I} (hq:SI q) (e0:Int):∀ (r i:Nat) (s t:I) (e:Int),i+r=p / 2+4→SI s→SI t→∀ f,r<f→r07_Atan_l2 (p:Int) (iv q,e0) f ((i+1:Nat):Int) e (iv s).Lo.M.Neg (iv s).Lo.M.Mag (iv s).Lo.E (iv s).Hi.M.Neg (iv s).Hi.M.Mag (iv s).Hi.E (iv t).Lo.M.Neg (iv t).Lo.M.Mag (iv t).Lo.E (iv t).Hi.M.Neg (iv t).Hi.M.Mag (iv t).Hi.E=some (iv (finS p (serL p (nAtan p q) r i s t e)).1,(finS p (serL p (nAtan p q) r i s t e)).2):=by
 intro r
 induction r with
 | zero=>
  intro i s t e hi hs ht f hf
  obtain ⟨f,rfl⟩:∃ k,f=k+1:=⟨f-1,by omega⟩
  rw [r07_Atan_l2,rterms_eq hp.2]
  simp only [obn]
  rw [if_neg (by omega)]
  unfold r07_Atan_j1
  rw [ivEta,rends_eq hp hs]
  rfl
 | succ r ih=>
  intro i s t e hi hs ht f hf
  obtain ⟨f,rfl⟩:∃ k,f=k+1:=⟨f-1,by omega⟩
  have hsq:=sq_small (i:=i+1) (by omega)
  have hn:=nAtan_SI hp.2 q (i:=i+1) (by omega) t e
  rw [r07_Atan_l2,rterms_eq hp.2]
  simp only [obn]
  rw [if_pos (by omega)]
  rw [ivEta,wodd (by omega),rMulS hp ht hq]
  simp only [obn]
  rw [rNegS (SI_mS hp.2 _ _ _)]
  simp only [obn]
  rw [rIntS (by omega)]
  simp only [obn]
  rw [rDivS hp (SI_nS (SI_mS hp.2 _ _ _) _) (SI_iS (by omega) _)]
  simp only [obn]
  have ha:r06_CAdd (iv s) (iv (nAtan p q (i+1) t e).2.1) (p:Int) (nAtan p q (i+1) t e).2.2=_:=rAddS hp hs hn.2 _
  refine Eq.trans (congrArg (fun o=>Option.bind o _) ha) ?_
  simp only [obn]
  rw [show (((i+1:Nat):Int)+1)=((i+1+1:Nat):Int) by omega,w64n (by omega)]
  exact ih (i+1) _ _ _ (by omega) (SI_aS hp.2 hs hn.2 _) hn.1 f (by omega)
def box (k:Int):I:=⟨negD ⟨1,k⟩,⟨1,k⟩⟩
theorem SI_box {k:Int} (h : -60000≤k∧k≤60000):okI (box k):=by
 refine ⟨(WD_half h).neg,WD_half h,?_⟩
 show val (negD ⟨1,k⟩)≤val ⟨1,k⟩
 rw [val_neg,val_half]
 have:=p2_pos k
 grind
theorem hasI_int00:hasI (intI 0) zD=true:=by decide +kernel
theorem small_in_eq {p:Nat} (hp:2≤p∧p≤400) {y:I} (hy:SI y) {k:Int} (hk : -60000≤k∧k≤60000) (e:Int):small_in (iv y) k e (p:Int)=some (if e=0 then (if inI y (box k)=true then (true,0) else (false,3)) else (false,e)):=by
 unfold small_in iv_trouble_Err
 rw [dyad_Half_eq hk]
 simp only [obn]
 rw [pNeg hy]
 simp only [obn]
 by_cases h:e=0
 ·subst h
  have hn:(nS y 0).2=0:=rfl
  rw [hn,if_neg (by simp),if_pos rfl,dyad_Neg_eq (WD_half hk)]
  simp only [obn]
  have hb:iv_In (iv y) (iv (box k))=some (inI y (box k)):=ivIn_eq hy.ok (SI_box hk)
  refine Eq.trans (congrArg (fun o=>Option.bind o _) hb) ?_
  simp only [obn]
  by_cases h1:inI y (box k)=true
  ·rw [if_pos h1,if_pos h1]
  ·rw [if_neg h1,if_neg h1,pInt (by omega)]
   simp only [obn]
   have i1:(iS 1 0).2=0:=rfl
   rw [i1,pInt (by omega)]
   simp only [obn]
   rw [pDiv hp (SI_iS (by omega) _) (SI_iS (by omega) _)]
   simp only [obn]
   have hd:dS p (iS 1 0).1 (iS 0 0).1 (iS 0 0).2=(zI,3):=by
    show st 0 zI (divI p (intI 1) (intI 0))=_
    rw [st_zero,divI_zero hasI_int00]
   rw [hd]
 ·have hn:(nS y e).2=e:=by unfold nS; rw [st_ne h]
  rw [hn,if_pos h,if_neg h]
theorem rfits_eq {p:Nat} {y:I} (hy:SI y) {k:Int} (hk : -60000≤k∧k≤60000) (e:Int):r07_fits (iv y) k (p:Int) e=some (if e=0 then (if inI y (box k)=true then (true,0) else (false,3)) else (false,e)):=by
 unfold r07_fits
 by_cases h:e=0
 ·subst h
  rw [if_neg (by simp),if_pos rfl,rRight6_eq hy.ok]
  simp only [obn]
  rw [if_neg (by simp),rHalf_eq hk]
  simp only [obn]
  rw [rNeg5_eq (WD_half hk)]
  simp only [obn]
  have hb:r06_In (iv y) (iv (box k))=some (inI y (box k)):=rIn6_eq hy.ok (SI_box hk)
  refine Eq.trans (congrArg (fun o=>Option.bind o _) hb) ?_
  simp only [obn]
  by_cases h1:inI y (box k)=true
  ·rw [if_neg (by simp [h1]),if_pos h1]
  ·rw [if_pos h1,if_neg h1]
 ·rw [if_pos h,if_neg h]
theorem SI_ser {p:Nat} (hp:p≤400) (next:Nat→I→Int→I × I × Int) (hn:∀ (i:Nat) (t:I) (e:Int),i≤300→SI (next i t e).1∧SI (next i t e).2.1):∀ (k i:Nat) (s t:I) (e:Int),i+k≤300→SI s→SI (serL p next k i s t e).1:=by
 intro k
 induction k with
 | zero=>intro i s t e _ hs; exact hs
 | succ k ih=>
  intro i s t e hi hs
  exact ih (i+1) _ _ _ (by omega) (SI_aS hp hs (hn (i+1) t e (by omega)).2 _)
def sinI (p:Nat) (y:I):I × Int:=if inI y (box 0)=true then finS p (serL p (nSin p (mS p y y 0).1) (p / 2+4) 0 y y (mS p y y 0).2) else (zI,3)
def cosI (p:Nat) (y:I):I × Int:=if inI y (box 0)=true then finS p (serL p (nCos p (mS p y y 0).1) (p / 2+4) 0 (iS 1 (mS p y y 0).2).1 (iS 1 (mS p y y 0).2).1 (mS p y y 0).2) else (zI,3)
def atanI (p:Nat) (y:I):I × Int:=if inI y (box (-1))=true then finS p (serL p (nAtan p (mS p y y 0).1) (p / 2+4) 0 y y (mS p y y 0).2) else (zI,3)
theorem iS_e (n e:Int):(iS n e).2=e:=by unfold iS st; split<;>simp [*]
theorem smallSin_eq {p:Nat} (hp:2≤p∧p≤400) {y:I} (hy:SI y) (e:Int):small_Sin (iv y) e (p:Int)=some (iv (st e zI (sinI p y)).1,(st e zI (sinI p y)).2):=by
 unfold small_Sin small_plain_c50f small_series_f1ab cv_Prec
 rw [small_in_eq hp hy (by omega)]
 simp only [obn]
 by_cases h:e=0
 ·subst h
  rw [if_pos rfl,st_zero]
  unfold sinI
  by_cases h1:inI y (box (0))=true
  ·rw [if_pos h1,if_pos h1,if_neg (by simp)]
   rw [pMul hp hy hy]
   simp only [obn]
   rw [terms_eq hp.2]
   simp only [obn]
   have hl:=nSin_loop hp (SI_mS hp.2 y y 0) (p / 2+4) 0 y y (mS p y y 0).2 (by omega) hy hy fuel (by unfold fuel; omega)
   refine Eq.trans (congrArg (fun o=>Option.bind o _) (congrArg (fun o=>Option.bind o _) hl)) ?_
   rfl
  ·rw [if_neg h1,if_neg h1,if_pos (by simp),iv_z]
 ·rw [if_neg h,if_pos (by simp),st_ne h,iv_z]
theorem smallCos_eq {p:Nat} (hp:2≤p∧p≤400) {y:I} (hy:SI y) (e:Int):small_Cos (iv y) e (p:Int)=some (iv (st e zI (cosI p y)).1,(st e zI (cosI p y)).2):=by
 unfold small_Cos small_plain_fc4a small_series_7c7a cv_Prec
 rw [small_in_eq hp hy (by omega)]
 simp only [obn]
 by_cases h:e=0
 ·subst h
  rw [if_pos rfl,st_zero]
  unfold cosI
  by_cases h1:inI y (box (0))=true
  ·rw [if_pos h1,if_pos h1,if_neg (by simp)]
   rw [pMul hp hy hy]
   simp only [obn]
   rw [pInt (by omega)]
   simp only [obn]
   rw [iS_e,terms_eq hp.2]
   simp only [obn]
   have hl:=nCos_loop hp (SI_mS hp.2 y y 0) (p / 2+4) 0 (iS 1 (mS p y y 0).2).1 (iS 1 (mS p y y 0).2).1 (mS p y y 0).2 (by omega) (SI_iS (by omega) _) (SI_iS (by omega) _) fuel (by unfold fuel; omega)
   refine Eq.trans (congrArg (fun o=>Option.bind o _) (congrArg (fun o=>Option.bind o _) hl)) ?_
   rfl
  ·rw [if_neg h1,if_neg h1,if_pos (by simp),iv_z]
 ·rw [if_neg h,if_pos (by simp),st_ne h,iv_z]
theorem smallAtan_eq {p:Nat} (hp:2≤p∧p≤400) {y:I} (hy:SI y) (e:Int):small_Atan (iv y) e (p:Int)=some (iv (st e zI (atanI p y)).1,(st e zI (atanI p y)).2):=by
 unfold small_Atan small_odd_8ed8 small_series_5374 cv_Prec
 rw [small_in_eq hp hy (by omega)]
 simp only [obn]
 by_cases h:e=0
 ·subst h
  rw [if_pos rfl,st_zero]
  unfold atanI
  by_cases h1:inI y (box (-1))=true
  ·rw [if_pos h1,if_pos h1,if_neg (by simp)]
   rw [pMul hp hy hy]
   simp only [obn]
   rw [terms_eq hp.2]
   simp only [obn]
   have hl:=nAtan_loop hp (SI_mS hp.2 y y 0) (p / 2+4) 0 y y (mS p y y 0).2 (by omega) hy hy fuel (by unfold fuel; omega)
   refine Eq.trans (congrArg (fun o=>Option.bind o _) (congrArg (fun o=>Option.bind o _) hl)) ?_
   rfl
  ·rw [if_neg h1,if_neg h1,if_pos (by simp),iv_z]
   rfl
 ·rw [if_neg h,if_pos (by simp),st_ne h,iv_z]
  rfl
theorem rAtan_eq {p:Nat} (hp:2≤p∧p≤400) {y:I} (hy:SI y) (e:Int):r07_Atan (iv y) (p:Int) e=some (iv (st e zI (atanI p y)).1,(st e zI (atanI p y)).2):=by
 unfold r07_Atan
 rw [rfits_eq hy (by omega)]
 simp only [obn]
 by_cases h:e=0
 ·subst h
  rw [if_pos rfl,st_zero]
  unfold atanI
  by_cases h1:inI y (box (-1))=true
  ·rw [if_pos h1,if_pos h1,if_neg (by simp)]
   rw [rMulS hp hy hy]
   simp only [obn]
   exact rnAtan_loop hp (SI_mS hp.2 y y 0) _ (p / 2+4) 0 y y (mS p y y 0).2 (by omega) hy hy fuel (by unfold fuel; omega)
  ·rw [if_neg h1,if_neg h1,if_pos (by simp),iv_z]
 ·rw [if_neg h,if_pos (by simp),st_ne h,iv_z]
theorem SI_sin {p:Nat} (hp:p≤400) {y:I} (hy:SI y):SI (sinI p y).1:=by
 unfold sinI; split
 ·exact SI_fin hp (SI_ser hp _ (fun i t e hi=>nSin_SI hp _ hi t e) _ _ _ _ _ (by omega) hy)
 ·exact SI_z
theorem SI_cos {p:Nat} (hp:p≤400) {y:I} : SI (cosI p y).1:=by
 unfold cosI; split
 ·exact SI_fin hp (SI_ser hp _ (fun i t e hi=>nCos_SI hp _ hi t e) _ _ _ _ _ (by omega) (SI_iS (by omega) _))
 ·exact SI_z
theorem SI_atan {p:Nat} (hp:p≤400) {y:I} (hy:SI y):SI (atanI p y).1:=by
 unfold atanI; split
 ·exact SI_fin hp (SI_ser hp _ (fun i t e hi=>nAtan_SI hp _ hi t e) _ _ _ _ _ (by omega) hy)
 ·exact SI_z
theorem sqrt_dir {x:D} {p:Nat} (up:Bool) (h:(sqrtD x p up).2=0):0≤val x∧0≤val (sqrtD x p up).1∧(up=false→val (sqrtD x p up).1*val (sqrtD x p up).1≤val x)∧(up=true→val x≤val (sqrtD x p up).1*val (sqrtD x p up).1):=by
 unfold sqrtD at *
 by_cases hneg:x.m<0
 ·rw [if_pos hneg] at h; simp at h
 have hx0:0≤val x:=by have:=mt (val_neg_iff x).1 hneg; grind
 refine ⟨hx0,?_⟩
 rw [if_neg hneg] at h ⊢
 by_cases hxm:x.m=0
 ·rw [if_pos hxm]
  refine ⟨by rw [val_z]; exact Rat.le_refl,fun _=>?_,fun _=>?_⟩<;>rw [val_z,val_zero_m hxm]<;>simp<;>exact Rat.le_refl
 rw [if_neg hxm] at h ⊢
 rw [tell_ok' h]
 have hev:=rootK_even x p
 have hX0:x.m.natAbs≠0:=by omega
 generalize rootK x p=k at *
 generalize hE:(x.e-(k:Int)) / 2=E
 have hE2:x.e=E+E+k:=by omega
 have hvx:((x.m.natAbs*2 ^ k:Nat):Rat)*(p2 E*p2 E)=val x:=by
  rw [val_abs_pos hneg,hE2,p2_split,p2_add,Rat.natCast_mul]; grind
 generalize x.m.natAbs*2 ^ k=N at *
 obtain ⟨s1,s2⟩:=isqrt_spec N
 generalize isqrt N=s at *
 have hpE:=p2_pos E
 have hlo:=cut_lo s E (N-s*s != 0) p
 have hhi:=cut_hi s E (N-s*s != 0) p
 have hnn:=fun away=>cut_nonneg s E (N-s*s != 0) p away
 have hsN:((s:Rat)*p2 E)*((s:Rat)*p2 E)≤val x:=by
  have h1:((s*s:Nat):Rat)≤(N:Rat):=natCast_le s1
  have h2:=Rat.mul_le_mul_of_nonneg_right h1 (Rat.mul_nonneg (Rat.le_of_lt hpE) (Rat.le_of_lt hpE))
  rw [hvx,Rat.natCast_mul] at h2
  grind
 rw [val_cut,sg_pos_cast]
 refine ⟨hnn up,?_,?_⟩
 ·rintro rfl
  have:=sq_mono (hnn false) hlo
  grind
 ·rintro rfl
  have h1:(0:Rat)≤((s+(if (N-s*s != 0) then 1 else 0):Nat):Rat)*p2 E:=Rat.mul_nonneg (natCast_nonneg _) (Rat.le_of_lt hpE)
  have h2:=sq_mono h1 hhi
  refine Rat.le_trans ?_ h2
  have h3:N≤(s+(if (N-s*s != 0) then 1 else 0))*(s+(if (N-s*s != 0) then 1 else 0)):=by
   by_cases h:N-s*s=0
   ·have e:(N-s*s != 0)=false:=by simpa using h
    rw [e]; simp; omega
   ·have e:(N-s*s != 0)=true:=by simpa using h
    rw [e,if_pos rfl]; omega
  have h4:=natCast_le h3
  have h5:=Rat.mul_le_mul_of_nonneg_right h4 (Rat.mul_nonneg (Rat.le_of_lt hpE) (Rat.le_of_lt hpE))
  rw [hvx,Rat.natCast_mul] at h5
  grind
theorem sqrt_blen (x:D) (p:Nat) (up:Bool):blen (sqrtD x p up).1.m.natAbs≤p+1:=by
 unfold sqrtD
 split
 ·show blen (0:Int).natAbs≤_; simp [blen]
 ·split
  ·show blen (0:Int).natAbs≤_; simp [blen]
  ·exact tell_blen (cutD_blen _ _ _ _ _ _)
theorem SI_sqrt {a:I} (ha:okI a) {p:Nat} (hp:p≤400):SI (sqrtI p a).1:=by
 unfold sqrtI
 by_cases h1:(sqrtD a.lo p false).2=0
 ·rw [bindE_ok h1]
  by_cases h2:(sqrtD a.hi p true).2=0
  ·rw [bindE_ok h2]
   obtain ⟨a1,a2,a3,-⟩:=sqrt_dir false h1
   obtain ⟨b1,b2,-,b4⟩:=sqrt_dir true h2
   have a3:=a3 rfl
   have b4:=b4 rfl
   have l1:=sqrt_blen a.lo p false
   have l2:=sqrt_blen a.hi p true
   have hle:=ha.2.2
   exact ⟨⟨WD_sqrt,WD_sqrt,sq_le a2 b2 (by grind)⟩,by show blen (sqrtD a.lo p false).1.m.natAbs≤1000; omega,by show blen (sqrtD a.hi p true).1.m.natAbs≤1000; omega⟩
  ·rw [bindE_no h2]; exact SI_z
 ·rw [bindE_no h1]; exact SI_z
theorem scale_val {x:D} {n:Int} (h:(scaleD x n).2=0):val (scaleD x n).1=val x*p2 n∧blen (scaleD x n).1.m.natAbs≤blen x.m.natAbs:=by
 unfold scaleD at *
 by_cases h0:x.m=0
 ·rw [if_pos h0]; exact ⟨by rw [val_z,val_zero_m h0,Rat.zero_mul],by show blen (0:Int).natAbs≤_; simp [blen]⟩
 ·rw [if_neg h0] at h ⊢
  rw [tell_ok' h]
  exact ⟨val_scale,Nat.le_refl _⟩
theorem SI_scale {a:I} (ha:SI a) (n:Int):SI (scaleI a n).1:=by
 unfold scaleI
 by_cases h1:(scaleD a.lo n).2=0
 ·rw [bindE_ok h1]
  by_cases h2:(scaleD a.hi n).2=0
  ·rw [bindE_ok h2]
   obtain ⟨v1,b1⟩:=scale_val h1
   obtain ⟨v2,b2⟩:=scale_val h2
   have:=ha.lo
   have:=ha.hi
   refine ⟨⟨WD_scale ha.ok.1 n,WD_scale ha.ok.2.1 n,?_⟩,by show blen (scaleD a.lo n).1.m.natAbs≤1000; omega,by show blen (scaleD a.hi n).1.m.natAbs≤1000; omega⟩
   show val (scaleD a.lo n).1≤val (scaleD a.hi n).1
   rw [v1,v2]
   exact Rat.mul_le_mul_of_nonneg_right ha.ok.2.2 (Rat.le_of_lt (p2_pos n))
  ·rw [bindE_no h2]; exact SI_z
 ·rw [bindE_no h1]; exact SI_z
def scS (a:I) (n:Int) (e:Int):I × Int:=st e zI (scaleI a n)
def suS (p:Nat) (a b:I) (e:Int):I × Int:=st e zI (subI p a b)
def sqS (p:Nat) (a:I) (e:Int):I × Int:=st e zI (sqrtI p a)
def atS (p:Nat) (a:I) (e:Int):I × Int:=st e zI (atanI p a)
def recS (p:Nat) (n:Int) (e:Int):I × Int:=dS p (iS 1 e).1 (iS n (iS 1 e).2).1 (iS n (iS 1 e).2).2
def onePi (p:Nat) (n:Int) (e:Int):I × Int:=atS p (recS p n e).1 (recS p n e).2
def piS (p:Nat) (e:Int):I × Int:=
 suS p (scS (onePi p 5 e).1 4 (onePi p 239 (onePi p 5 e).2).2).1 (scS (onePi p 239 (onePi p 5 e).2).1 2 (scS (onePi p 5 e).1 4 (onePi p 239 (onePi p 5 e).2).2).2).1 (scS (onePi p 239 (onePi p 5 e).2).1 2 (scS (onePi p 5 e).1 4 (onePi p 239 (onePi p 5 e).2).2).2).2
theorem SI_rec {p:Nat} (hp:p≤400) {n:Int} (hn : -1000000≤n∧n≤1000000) (e:Int):SI (recS p n e).1:=SI_dS hp _ (SI_iS hn _) _
theorem SI_one {p:Nat} (hp:p≤400) {n:Int} (hn : -1000000≤n∧n≤1000000) (e:Int):SI (onePi p n e).1:=SI_st (SI_atan hp (SI_rec hp hn e)) _
theorem SI_sc {a:I} (ha:SI a) (n e:Int):SI (scS a n e).1:=SI_st (SI_scale ha n) e
theorem SI_pi {p:Nat} (hp:p≤400) (e:Int):SI (piS p e).1:=SI_st (SI_sub (SI_sc (SI_one hp (by omega) _) _ _) (SI_sc (SI_one hp (by omega) _) _ _) hp) _
theorem pScale {a:I} (ha:SI a) {n:Int} (hn : -100000≤n∧n≤100000) (e p:Int):cv_Scale (iv a) n e p=some (iv (scS a n e).1,(scS a n e).2):=ivScale_eq ha.ok hn e p
theorem rScaleS {a:I} (ha:SI a) {n:Int} (hn : -100000≤n∧n≤100000) (e p:Int):r06_CScale (iv a) n p e=some (iv (scS a n e).1,(scS a n e).2):=rivScale_eq ha.ok hn e p
theorem parts_l5 {p:Nat} (hp:2≤p∧p≤400) (e:Int):konst_parts_3d9d 5 4 239 2 e (p:Int)=some ([iv (scS (onePi p 5 e).1 4 (onePi p 239 (onePi p 5 e).2).2).1,iv (scS (onePi p 239 (onePi p 5 e).2).1 2 (scS (onePi p 5 e).1 4 (onePi p 239 (onePi p 5 e).2).2).2).1],(scS (onePi p 239 (onePi p 5 e).2).1 2 (scS (onePi p 5 e).1 4 (onePi p 239 (onePi p 5 e).2).2).2).2):=by
 unfold konst_parts_3d9d
 obtain ⟨f,hf⟩:=fuel_succ
 rw [hf]
 rw [konst_parts_3d9d_l5,if_pos (by omega),if_pos rfl,pInt (by omega)]
 simp only [obn]
 rw [pInt (by omega)]
 simp only [obn]
 rw [pDiv hp (SI_iS (by omega) _) (SI_iS (by omega) _)]
 simp only [obn]
 have h1:small_Atan (iv (recS p 5 e).1) (recS p 5 e).2 (p:Int)=some (iv (onePi p 5 e).1,(onePi p 5 e).2):=smallAtan_eq hp (SI_rec hp.2 (by omega) e) _
 refine Eq.trans (congrArg (fun o=>Option.bind o _) h1) ?_
 simp only [obn]
 rw [if_pos (by simp)]
 unfold konst_parts_3d9d_j6
 rw [if_pos (by simp),show IntKind.i64.wrap (0+1)=1 by decide]
 dsimp only
 rw [konst_parts_3d9d_l5,if_pos (by omega),if_neg (by decide),if_pos rfl,pInt (by omega)]
 simp only [obn]
 rw [pInt (by omega)]
 simp only [obn]
 rw [pDiv hp (SI_iS (by omega) _) (SI_iS (by omega) _)]
 simp only [obn]
 have h2:small_Atan (iv (recS p 239 (onePi p 5 e).2).1) (recS p 239 (onePi p 5 e).2).2 (p:Int)=some (iv (onePi p 239 (onePi p 5 e).2).1,(onePi p 239 (onePi p 5 e).2).2):=smallAtan_eq hp (SI_rec hp.2 (by omega) _) _
 refine Eq.trans (congrArg (fun o=>Option.bind o _) h2) ?_
 simp only [obn]
 rw [if_pos (by simp)]
 unfold konst_parts_3d9d_j6
 rw [if_pos (by simp),show IntKind.i64.wrap (1+1)=2 by decide]
 dsimp only
 rw [konst_parts_3d9d_l5,if_neg (by omega)]
 unfold konst_parts_3d9d_j1
 rw [hf]
 rw [konst_parts_3d9d_l3,if_pos (by omega),if_pos rfl,if_pos (by simp),if_pos (by simp)]
 have k1:=pScale (SI_one hp.2 (n:=5) (by omega) e) (n:=4) (by omega) (onePi p 239 (onePi p 5 e).2).2 (p:Int)
 refine Eq.trans (congrArg (fun o=>Option.bind o _) k1) ?_
 simp only [obn]
 rw [if_pos (by simp)]
 unfold konst_parts_3d9d_j4
 rw [if_pos (by simp),show IntKind.i64.wrap (0+1)=1 by decide]
 dsimp only
 rw [konst_parts_3d9d_l3,if_pos (by omega),if_neg (by decide),if_pos rfl,if_pos (by simp),if_pos (by simp)]
 have k2:=pScale (SI_one hp.2 (n:=239) (by omega) (onePi p 5 e).2) (n:=2) (by omega) (scS (onePi p 5 e).1 4 (onePi p 239 (onePi p 5 e).2).2).2 (p:Int)
 refine Eq.trans (congrArg (fun o=>Option.bind o _) k2) ?_
 simp only [obn]
 rw [if_pos (by simp)]
 unfold konst_parts_3d9d_j4
 rw [if_pos (by simp),show IntKind.i64.wrap (1+1)=2 by decide]
 dsimp only
 rw [konst_parts_3d9d_l3,if_neg (by omega)]
 rfl
theorem Pi_eq {p:Nat} (hp:2≤p∧p≤400) (e:Int):konst_Pi e (p:Int)=some (iv (piS p e).1,(piS p e).2):=by
 unfold konst_Pi
 rw [parts_l5 hp]
 simp only [obn]
 rw [if_pos (by simp),if_pos (by simp)]
 have k:=ivSub_eq (SI_sc (SI_one hp.2 (n:=5) (by omega) e) 4 (onePi p 239 (onePi p 5 e).2).2).ok (SI_sc (SI_one hp.2 (n:=239) (by omega) (onePi p 5 e).2) 2 (scS (onePi p 5 e).1 4 (onePi p 239 (onePi p 5 e).2).2).2).ok hp (scS (onePi p 239 (onePi p 5 e).2).1 2 (scS (onePi p 5 e).1 4 (onePi p 239 (onePi p 5 e).2).2).2).2
 refine Eq.trans (congrArg (fun o=>Option.bind o _) k) ?_
 rfl
theorem rPi_eq {p:Nat} (hp:2≤p∧p≤400) (e:Int):r08_Pi (p:Int) e=some (iv (piS p e).1,(piS p e).2):=by
 have one:∀ (n:Int) (e:Int),-1000000≤n∧n≤1000000→r07_Atan (iv (recS p n e).1) (p:Int) (recS p n e).2=some (iv (onePi p n e).1,(onePi p n e).2):=fun n e hn=>rAtan_eq hp (SI_rec hp.2 hn e) _
 unfold r08_Pi
 rw [rIntS (by omega)]
 simp only [obn]
 rw [rIntS (by omega)]
 simp only [obn]
 rw [rDivS hp (SI_iS (by omega) _) (SI_iS (by omega) _)]
 simp only [obn]
 refine Eq.trans (congrArg (fun o=>Option.bind o _) (one 5 e (by omega))) ?_
 simp only [obn]
 rw [rIntS (by omega)]
 simp only [obn]
 rw [rIntS (by omega)]
 simp only [obn]
 rw [rDivS hp (SI_iS (by omega) _) (SI_iS (by omega) _)]
 simp only [obn]
 refine Eq.trans (congrArg (fun o=>Option.bind o _) (one 239 _ (by omega))) ?_
 simp only [obn]
 rw [rScaleS (SI_one hp.2 (by omega) _) (by omega)]
 simp only [obn]
 rw [rScaleS (SI_one hp.2 (by omega) _) (by omega)]
 simp only [obn]
 have k:=rivSub_eq (SI_sc (SI_one hp.2 (n:=5) (by omega) e) 4 (onePi p 239 (onePi p 5 e).2).2).ok (SI_sc (SI_one hp.2 (n:=239) (by omega) (onePi p 5 e).2) 2 (scS (onePi p 5 e).1 4 (onePi p 239 (onePi p 5 e).2).2).2).ok hp (scS (onePi p 239 (onePi p 5 e).2).1 2 (scS (onePi p 5 e).1 4 (onePi p 239 (onePi p 5 e).2).2).2).2
 refine Eq.trans (congrArg (fun o=>Option.bind o _) k) ?_
 rfl
def fitB (d:D) (p:Int):Bool:=decide (2≤p) && decide (p≤336) && decide (blen d.m.natAbs≤400)
theorem dy_mag (d:D):(dy d).M.Mag=digs d.m.natAbs:=rfl
theorem bits_dy {d:D} (h:SZ d.m.natAbs):nat_Bits (dy d).M.Mag=some ((blen d.m.natAbs:Nat):Int):=by
 rw [dy_mag,nat_Bits_eq (dgd _) (by have:=sz_len h; omega),dvd]
theorem rbits_dy {d:D} (h:SZ d.m.natAbs):r01_Bits (dy d).M.Mag=some ((blen d.m.natAbs:Nat):Int):=by
 rw [dy_mag,rBits_eq (dgd _) (by have:=sz_len h; omega),dvd]
theorem rFits9_eq {d:D} (hd:okD d) (hs:SZ d.m.natAbs) (p:Int):r09_Fits (dy d) p=some (fitB d p):=by
 unfold r09_Fits r09_Fits_j1
 rw [rRight5_dy hd hs]
 simp only [obn]
 rw [if_pos True.intro]
 unfold fitB
 by_cases h1:2≤p
 ·rw [if_pos h1,decide_eq_true h1]
  by_cases h2:p≤336
  ·rw [if_pos h2,rbits_dy hs,decide_eq_true h2]
   simp only [obn]
   congr 1
   simp
   omega
  ·rw [if_neg h2,decide_eq_false h2]; rfl
 ·rw [if_neg h1,decide_eq_false h1]; rfl
theorem rFits9_bad {x:AD} (hr:r05_Right x=some false) (p:Int):r09_Fits x p=some false:=by
 unfold r09_Fits r09_Fits_j1
 rw [hr]
 simp only [obn]
 rw [if_neg (by simp)]
def sizeB (d:D):Int × Bool:=if d.m=0 then (0,false) else (d.e+(blen d.m.natAbs:Nat),true)
theorem WD.szE {d:D} (h:WD d) : -1152921504606846976≤d.e∧d.e≤1152921504606846976:=by have:=h.e; omega
theorem dyad_Size_eq {d:D} (h:WD d):dyad_Size (dy d)=some (sizeB d):=by
 unfold dyad_Size dyad_Size_j1
 rw [dyad_Right_dy h.1 h.sz]
 simp only [obn]
 rw [if_neg (by simp),dyad_zero_eq]
 simp only [obn]
 unfold sizeB
 by_cases h0:d.m=0
 ·rw [if_pos (by simpa using h0),if_pos h0]
 ·rw [if_neg (by simpa using h0),if_neg h0,dyad_size_eq h.sz h.szE]; rfl
def doneS (p:Nat) (r:I × Int):I × Int:=st r.2 zI (outI p r.1)
theorem SI_out {a:I} (ha:SI a) {p:Nat} (hp:p≤400):SI (outI p a).1:=SI_two ha.ok.2.2 hp
theorem SI_done {r:I × Int} (h:SI r.1) {p:Nat} (hp:p≤400):SI (doneS p r).1:=SI_st (SI_out h hp) _
theorem rOut6_eq {a:I} (ha:SI a) {p:Nat} (hp:2≤p∧p≤400):r06_COut (iv a) (p:Int) 0=some (iv (outI p a).1,(outI p a).2):=by
 unfold r06_COut
 rw [rarg_one ha.ok]
 simp only [obn]
 rw [if_neg (by simp),ivLo,ivHi,rroundE_eq ha.ok.1 hp,st_zero]
 simp only [obn]
 unfold outI
 by_cases h1:(roundD a.lo p false).2=0
 ·rw [bindE_ok h1,bindE_ok h1,rroundE_eq ha.ok.2.1 hp,st_zero]
  simp only [obn]
  by_cases h2:(roundD a.hi p true).2=0
  ·rw [bindE_ok h2,bindE_ok h2,routE_eq]; rfl
  ·rw [bindE_no h2,bindE_no h2,routE_eq,if_neg h2]; rfl
 ·rw [bindE_no h1,bindE_no h1,rroundE_eq ha.ok.2.1 hp,st_ne h1]
  simp only [obn]
  rw [routE_eq,if_neg h1]; rfl
theorem rEnds_eq {a:I} (ha:SI a) {p:Nat} (hp:2≤p∧p≤400) (w e:Int):r09_Ends (iv a) (p:Int) w e=some (iv (doneS p (a,e)).1,(doneS p (a,e)).2):=by
 unfold r09_Ends
 by_cases h:e=0
 ·subst h
  rw [if_neg (by simp),rNew6_eq hp]
  simp only [obn]
  refine Eq.trans (congrArg (fun o=>Option.bind o _) (rOut6_eq ha hp)) ?_
  rfl
 ·rw [if_pos h]
  unfold doneS
  rw [st_ne h,iv_z]
theorem SI_pt {d:D} (h:WD d) (hb:blen d.m.natAbs≤1000):SI ⟨d,d⟩:=⟨okI_point h,hb,hb⟩
theorem fitB_p {d:D} {p:Int} (h:fitB d p=true):(∃ q:Nat,p=(q:Int)∧2≤q∧q≤336)∧blen d.m.natAbs≤400:=by
 unfold fitB at h
 simp only [Bool.and_eq_true,decide_eq_true_eq] at h
 exact ⟨⟨p.toNat,by omega,by omega,by omega⟩,h.2⟩
theorem zI_eta:(⟨⟨⟨false,[]⟩,0⟩,⟨⟨false,[]⟩,0⟩⟩:AI)=iv zI:=iv_z.symm
theorem pSub {p:Nat} (hp:2≤p∧p≤400) {a b:I} (ha:SI a) (hb:SI b) (e:Int):cv_Sub (iv a) (iv b) e (p:Int)=some (iv (suS p a b e).1,(suS p a b e).2):=ivSub_eq ha.ok hb.ok hp e
theorem rSubS {p:Nat} (hp:2≤p∧p≤400) {a b:I} (ha:SI a) (hb:SI b) (e:Int):r06_CSub (iv a) (iv b) (p:Int) e=some (iv (suS p a b e).1,(suS p a b e).2):=rivSub_eq ha.ok hb.ok hp e
theorem SI_suS {p:Nat} (hp:p≤400) {a b:I} (ha:SI a) (hb:SI b) (e:Int):SI (suS p a b e).1:=SI_st (SI_sub ha hb hp) e
theorem right_one' {x:AD} (h:Dig x.M.Mag) (l:x.M.Mag.length≤31):(∃ d,WD d∧blen d.m.natAbs≤1000∧x=dy d)∨(dyad_Right x=some false∧r05_Right x=some false):=by
 have e1:=dyad_Right_eq h (by omega)
 have f1:=rRight5_eq h (by omega)
 cases c:rightD x with
 | false=>right; rw [e1,f1,c]; exact ⟨rfl,rfl⟩
 | true=>
  obtain ⟨d,k,rfl,b⟩:=rightD_ex h c
  have v:=blen_of_len h
  exact Or.inl ⟨d,⟨k,by rw [b]; omega⟩,by rw [b]; omega,rfl⟩
theorem cut_dig {x:AD} (hx:gAD x) (k:Nat) (hk:k≤31):Dig (x.M.Mag.take (min x.M.Mag.length k))∧(x.M.Mag.take (min x.M.Mag.length k)).length≤31:=⟨dig_take (g_dig hx) _,by rw [List.length_take]; omega⟩
theorem fl_neg {a k:Nat} (hk:0<k):(-(a:Int)) / (k:Int) = -(((a+(k-1)) / k:Nat):Int):=by
 have h1:=Nat.div_add_mod (a+(k-1)) k
 have h2:=Nat.mod_lt (a+(k-1)) hk
 generalize (a+(k-1)) / k=q at *
 generalize (a+(k-1)) % k=r at *
 have h3:(k:Int)*q+r=a+(k-1):=by
  have:((k*q+r:Nat):Int)=((a+(k-1):Nat):Int):=by rw [h1]
  push_cast at this
  omega
 have e : -(a:Int)=(k-1-r)+k*(-q):=by
  have:(k:Int) * -(q:Int) = -((k:Int)*q):=Int.mul_neg _ _
  omega
 rw [e,Int.add_mul_ediv_left _ _ (by omega),Int.ediv_eq_zero_of_lt (by omega) (by omega)]
 omega
theorem zint_Shift_eq {z:Int} {n:Nat} (h0:0<n) (hn:n≤100000) (hz:blen z.natAbs≤900000):zint_Shift (iOf z) (-(n:Int))=some (iOf (z / 2 ^ n),true):=by
 have hsz:SZ z.natAbs:=by unfold SZ; omega
 have hl:=sz_len hsz
 have hW:IntKind.i64.wrap (0 - -(n:Int))=(n:Int):=by rw [w64 (by omega) (by omega)]; omega
 have hp:0<2 ^ n:=Nat.pow_pos (by decide)
 have hbz:=blen_lt z.natAbs
 have e2:((2:Int) ^ n)=((2 ^ n:Nat):Int):=by push_cast; first | done | rfl
 have hsum:SZ (z.natAbs+(2 ^ n-1)):=by
  have h1:=blen_add z.natAbs (2 ^ n-1)
  have h2:blen (2 ^ n-1)≤n:=blen_le_of (by omega)
  unfold SZ; omega
 unfold zint_Shift zint_Shift_j1
 rw [if_neg (by omega),show decide (-(n:Int)>100000)=false from decide_eq_false (by omega),if_neg (by simp),zint_of_iOf hsz]
 simp only [obn]
 rw [if_neg (by omega)]
 have fin:∀ v:Nat,SZ v→zint_Shift_j2 (-(n:Int)) ⟨⟨digs z.natAbs⟩,decide (z<0)⟩ (digs v)=some (iOf (sg (decide (z<0)) (v / 2 ^ n)),true):=by
  intro v hv
  unfold zint_Shift_j2
  have:=sz_len hv
  rw [hW,nat_Shr_eq (dgd _) (by omega) (by omega),dvd]
  simp only [obn]
  rw [zint_Make_digs _ (sz_le (Nat.div_le_self _ _) hv)]
  rfl
 by_cases hneg:z<0
 ·have h2l:(digs 1).length≤32769:=sz_len (by unfold SZ; decide)
  rw [if_pos (by simpa using hneg),nat_From_eq (by omega) (by omega)]
  simp only [obn]
  rw [hW,show (1:Int).toNat=1 from rfl,nat_Shl_eq (dgd _) (by omega) hn,dvd,Nat.one_mul]
  simp only [obn]
  have hs2:SZ (2 ^ n):=by unfold SZ; rw [blen_pow]; omega
  have h1l:=sz_len hs2
  rw [nat_Sub_eq (dgd _) (dgd _) (by omega) (by omega),dvd,dvd,if_neg (by omega)]
  simp only [obn]
  have h3l:(digs (2 ^ n-1)).length≤32769:=sz_len (sz_le (by omega) hs2)
  rw [nat_Add_eq (dgd _) (dgd _) (by omega) (by omega),dvd,dvd]
  simp only [obn]
  rw [fin _ hsum,decide_eq_true hneg,e2]
  congr 2
  have e3:z = -(z.natAbs:Int):=by omega
  conv=>rhs; rw [e3,fl_neg hp]
  rfl
 ·rw [if_neg (by simpa using hneg),fin _ hsz,decide_eq_false hneg,e2]
  congr 2
  have e3:z=(z.natAbs:Int):=by omega
  conv=>rhs; rw [e3,← Int.natCast_ediv]
  rfl
def flD (d:D):Int:=if 0≤d.e then d.m*2 ^ d.e.toNat else d.m / 2 ^ (-d.e).toNat
def floorS (d:D):Int × Int:=if inR d then (flD d,0) else (0,4)
theorem iOf_zero:(⟨false,[]⟩:ApiInt)=iOf 0:=by unfold iOf; simp [digs_zero]
theorem idiv_blen (z:Int) (n:Nat):blen (z / 2 ^ n).natAbs≤blen z.natAbs:=by
 refine blen_mono ?_
 have hp:(0:Int)<2 ^ n:=Int.pow_pos (by decide)
 rcases Int.lt_or_le z 0 with h | h
 ·have h1:z≤z / 2 ^ n:=by
   rw [Int.le_ediv_iff_mul_le hp]
   have h3:=Int.mul_nonpos_of_nonpos_of_nonneg (a:=z) (b:=2 ^ n-1) (by omega) (by omega)
   rw [Int.mul_sub,Int.mul_one] at h3
   omega
  have h2:z / 2 ^ n<0:=Int.ediv_neg_of_neg_of_pos h hp
  omega
 ·have h1:=Int.ediv_le_self (a:=z) (2 ^ n) h
  have h2:=Int.ediv_nonneg h (show (0:Int)≤2 ^ n by omega)
  omega
theorem floor_loop {c:Nat} : ∀ (z:Int) (n:Nat),n≤100000*c→n≤200000→blen z.natAbs≤900000→∀ f,c<f→dyad_Floor_l3 f (n:Int) (iOf z).Neg (iOf z).Mag=some (iOf (z / 2 ^ n),0):=by
 induction c with
 | zero=>
  intro z n hn _ _ f hf
  obtain ⟨f,rfl⟩:∃ g,f=g+1:=⟨f-1,by omega⟩
  have:n=0:=by omega
  subst this
  rw [dyad_Floor_l3,if_neg (by omega)]
  unfold dyad_Floor_j2
  rw [Int.pow_zero,Int.ediv_one]
 | succ c ih=>
  intro z n hn hn2 hz f hf
  obtain ⟨f,rfl⟩:∃ g,f=g+1:=⟨f-1,by omega⟩
  rw [dyad_Floor_l3]
  by_cases h0:n=0
  ·subst h0
   rw [if_neg (by omega)]
   unfold dyad_Floor_j2
   rw [Int.pow_zero,Int.ediv_one]
  ·rw [if_pos (by omega)]
   have eta:(⟨(iOf z).Neg,(iOf z).Mag⟩:ApiInt)=iOf z:=rfl
   have hm:mn (n:Int) 100000=((min n 100000:Nat):Int):=by unfold mn; split<;>omega
   rw [eta,hm,w64 (by omega) (by omega),show 0-((min n 100000:Nat):Int) = -((min n 100000:Nat):Int) by omega,zint_Shift_eq (by omega) (by omega) hz]
   simp only [obn]
   rw [w64 (by omega) (by omega)]
   by_cases h1:n≤100000
   ·rw [show min n 100000=n by omega]
    obtain ⟨f,rfl⟩:∃ g,f=g+1:=⟨f-1,by omega⟩
    rw [dyad_Floor_l3,if_neg (by omega)]
    rfl
   ·rw [show min n 100000=100000 by omega,show (n:Int)-100000=((n-100000:Nat):Int) by omega]
    have h2:=ih (z / 2 ^ 100000) (n-100000) (by omega) (by omega) (Nat.le_trans (idiv_blen z 100000) hz) f (by omega)
    rw [h2,Int.ediv_ediv_of_nonneg (Int.pow_nonneg (by decide)),← Int.pow_add,show 100000+(n-100000)=n by omega]
theorem dyad_Floor_eq {d:D} (hd:WD d):dyad_Floor (dy d)=some (iOf (floorS d).1,(floorS d).2):=by
 have he:=hd.e
 have hb:=hd.2
 unfold dyad_Floor dyad_Floor_j1 floorS
 rw [right_one hd]
 simp only [obn]
 rw [if_neg (by simp),dyad_inRange_eq hd.sz hd.szE]
 simp only [obn,must_eq]
 cases hr:inR d with
 | false=>
  simp only [Bool.false_eq_true,if_false,if_true]
  rw [if_pos (by decide),iOf_zero]
 | true=>
  simp only [if_true]
  rw [if_neg (by decide)]
  unfold flD
  have hE:(dy d).E=d.e:=rfl
  have hM:(dy d).M=iOf d.m:=rfl
  rw [hE,hM]
  by_cases h0:0≤d.e
  ·obtain ⟨n,hn⟩:∃ n:Nat,d.e=(n:Int):=⟨d.e.toNat,by omega⟩
   rw [if_pos (by omega),if_pos h0,hn,Int.toNat_natCast,show (iOf d.m).Mag=digs d.m.natAbs from rfl,dyad_up_eq (by omega)]
   simp only [obn]
   rw [show (iOf d.m).Neg=decide (d.m<0) from rfl,zint_Make_digs _ (by unfold SZ; have:=blen_mul d.m.natAbs (2 ^ n); have:=blen_pow n; omega)]
   simp only [obn]
   congr 3
   rw [Nat.mul_comm,sg_mul,sg_abs,Int.mul_comm]
   push_cast
   rfl
  ·obtain ⟨n,hn⟩:∃ n:Nat,d.e = -(n:Int):=⟨(-d.e).toNat,by omega⟩
   rw [if_neg (by omega),if_neg h0,hn,w64 (by omega) (by omega),show 0 - -(n:Int)=(n:Int) by omega,show (- -(n:Int)).toNat=n by omega]
   exact floor_loop (c:=2) d.m n (by omega) (by omega) (by omega) fuel (by unfold fuel; omega)
theorem digs_two {n:Nat} (h:(digs n).length≤2):n=((digs n).getD 0 0).toNat+4294967296*((digs n).getD 1 0).toNat:=by
 have h1:=dvd n
 have h2:dval (digs n)=((digs n).getD 0 0).toNat+4294967296*((digs n).getD 1 0).toNat:=by
  rw [show dval (digs n)=dval ((digs n).drop 0) by simp,dval_drop,dval_drop,List.drop_eq_nil_of_le (by omega)]
  simp [dval]
 omega
theorem digs_len_two {n:Nat} : (digs n).length≤2↔n<18446744073709551616:=by
 constructor
 ·intro h
  have h2:=dval_lt (dgd n)
  rw [dvd] at h2
  have h3:4294967296 ^ (digs n).length≤4294967296 ^ 2:=Nat.pow_le_pow_right (by decide) h
  have h4:(4294967296:Nat) ^ 2=18446744073709551616:=by decide
  omega
 ·intro h
  have h4:(4294967296:Nat) ^ 2=18446744073709551616:=by decide
  exact digs_length (k:=2) (by omega)
theorem nat_Small_eq {n:Nat} (hl:(digs n).length≤1099511627776):nat_Small (digs n)=some (if n<18446744073709551616 then ((n:Int),true) else (0,false)):=by
 unfold nat_Small
 rw [nat_trim_eq (dgd _) (by omega),dvd]
 simp only [obn]
 by_cases hn:n<18446744073709551616
 ·have h2:=digs_len_two.2 hn
  have hd:=digs_two h2
  rw [if_pos hn]
  by_cases h0:(digs n).length=0
  ·rw [if_pos (by omega)]
   have:digs n=[]:=List.eq_nil_of_length_eq_zero h0
   rw [this] at hd
   simp at hd
   rw [hd]; rfl
  ·rw [if_neg (by omega)]
   obtain ⟨a,ha,ha2⟩:=digN (dgd n) 0
   obtain ⟨b,hb,hb2⟩:=digN (dgd n) 1
   rw [ha,hb,Int.toNat_natCast,Int.toNat_natCast] at hd
   by_cases h1:(digs n).length=1
   ·rw [if_pos (by omega),if_pos (by omega),kz,ha,u64n (by omega)]
    have:(digs n).getD 1 0=0:=by simp [List.getD,List.getElem?_eq_none (show (digs n).length≤1 by omega)]
    congr 3; omega
   ·have h1b:(digs n).length=2:=by omega
    rw [if_neg (by omega),if_pos (by omega),if_pos (by omega),if_pos (by omega),kz,ha,hb,u64n (by omega),u64n (by omega),shl32n hb2,or64n (by omega) (by omega),or_lo ha2]
    congr 3; omega
 ·have h2:=mt digs_len_two.1 hn
  rw [if_neg hn,if_neg (by omega),if_neg (by omega),if_neg (by omega)]
def smallZ (z:Int):Int × Bool:=if -9223372036854775808≤z∧z≤9223372036854775807 then (z,true) else (0,false)
theorem zint_Small_eq {z:Int} (hz:SZ z.natAbs):zint_Small (iOf z)=some (smallZ z):=by
 have hl:=sz_len hz
 unfold zint_Small
 rw [zint_of_iOf hz]
 simp only [obn]
 rw [nat_Small_eq (by omega)]
 simp only [obn]
 unfold zint_Small_j1 zint_Small_j2 smallZ
 by_cases hn:z.natAbs<18446744073709551616
 ·rw [if_pos hn]
  simp only
  rw [if_pos True.intro]
  by_cases h0:z<0
  ·rw [if_pos (by simpa using h0)]
   by_cases h1:(z.natAbs:Int)≤9223372036854775808
   ·rw [decide_eq_true h1,if_pos rfl,if_pos (by omega)]
    congr 2
    rw [wu64,show (0-(z.natAbs:Int)) % 18446744073709551616=z+18446744073709551616 by omega]
    unfold IntKind.wrap
    simp [IntKind.bits,IntKind.signed]
    omega
   ·rw [decide_eq_false h1,if_neg (by simp),if_pos True.intro,if_neg (by simp [h0]),if_neg (by simp),if_neg (by omega)]
  ·rw [if_neg (by simpa using h0),if_neg (by simp),if_pos True.intro,if_pos (by simpa using h0)]
   by_cases h1:(z.natAbs:Int)<9223372036854775808
   ·rw [decide_eq_true h1,if_pos rfl,if_pos (by omega),w64 (by omega) (by omega)]
    congr 2; omega
   ·rw [decide_eq_false h1,if_neg (by simp),if_neg (by omega)]
 ·rw [if_neg hn]
  simp only
  rw [if_neg (by simp),if_neg (by simp),if_neg (by simp),if_neg (by simp),if_neg (by omega)]
theorem smallZ_in (z:Int) : -9223372036854775808≤(smallZ z).1∧(smallZ z).1≤9223372036854775807:=by
 unfold smallZ; split
 ·assumption
 ·simp
theorem flD_sz {d:D} (hd:WD d):SZ (flD d).natAbs:=by
 have he:=hd.e
 have hb:=hd.2
 unfold flD SZ
 split
 ·have:=blen_abs_shl d.m d.e.toNat; omega
 ·have:=idiv_blen d.m (-d.e).toNat; omega
theorem floorS_sz {d:D} (hd:WD d):SZ (floorS d).1.natAbs:=by
 unfold floorS; split
 ·exact flD_sz hd
 ·unfold SZ; decide
def pS (d:D) (e:Int):I × Int:=st e zI (⟨d,d⟩,0)
def jS (n:Int) (e:Int):I × Int:=st e zI (intI n,0)
theorem SI_pS {d:D} (h:WD d) (hb:blen d.m.natAbs≤1000) (e:Int):SI (pS d e).1:=SI_st (r:=(⟨d,d⟩,0)) (SI_pt h hb) e
theorem SI_jS {n:Int} (hn : -9223372036854775808≤n∧n≤9223372036854775807) (e:Int):SI (jS n e).1:=SI_st (r:=(intI n,0)) (SI_int hn) e
def tuH (w:Nat):I × Int:=scS (piS w 0).1 (-1) (piS w 0).2
def tuQ (d:D) (w:Nat) (h:I × Int):I × Int:=
 let x:=pS d h.2
 let q:=dS w x.1 h.1 x.2
 let f:=pS ⟨1,-1⟩ q.2
 aS w q.1 f.1 f.2
def tuR (d:D) (w:Nat) (h:I × Int) (k e:Int):I × Int:=
 let x:=pS d e
 let i:=jS k x.2
 let m:=mS w i.1 h.1 i.2
 suS w x.1 m.1 m.2
def turnsT (q:I × Int) (r:Int→I × Int):Int × I × Int:=
 if q.2≠0 then (0,zI,q.2) else
 if (floorS q.1.lo).2≠0∨(smallZ (floorS q.1.lo).1).2=false then (0,zI,4) else
 if (r (smallZ (floorS q.1.lo).1).1).2≠0 then (0,zI,(r (smallZ (floorS q.1.lo).1).1).2) else ((smallZ (floorS q.1.lo).1).1,(r (smallZ (floorS q.1.lo).1).1).1,0)
def turnsH (d:D) (w:Nat) (h:I × Int):Int × I × Int:=turnsT (tuQ d w h) fun k=>tuR d w h k (tuQ d w h).2
def turnsS (d:D) (p:Nat):Int × I × Int:=
 if d.m≠0∧11<d.e+(blen d.m.natAbs:Nat) then (0,zI,4) else turnsH d (p+32) (tuH (p+32))
def turnsR (d:D) (p:Int):Int × I × Int:=if fitB d p then turnsS d p.toNat else (0,zI,1)
theorem tfits_eq {d:D} (hd:okD d) (hs:SZ d.m.natAbs) (p:Int):trig_fits (dy d) p=some (fitB d p):=by
 unfold trig_fits trig_fits_j1 fitB
 by_cases h1:2≤p
 ·rw [if_pos (by omega),decide_eq_true h1]
  by_cases h2:p≤336
  ·rw [if_pos h2,decide_eq_true h2,dyad_Right_dy hd hs]
   simp only [obn]
   rw [if_pos True.intro,bits_dy hs]
   simp only [obn]
   congr 1
   simp
   omega
  ·rw [if_neg h2,decide_eq_false h2]; rfl
 ·rw [if_neg (by omega),decide_eq_false h1]; rfl
theorem tfits_bad {x:AD} (hr:dyad_Right x=some false) (p:Int):trig_fits x p=some false:=by
 unfold trig_fits trig_fits_j1
 split
 ·split
  ·rw [hr]; rfl
  ·rfl
 ·rfl
theorem SI_tuH {w:Nat} (hw:w≤400):SI (tuH w).1:=SI_sc (SI_pi hw 0) _ _
theorem WD_h1:WD ⟨1,-1⟩:=WD_half (by omega)
theorem SI_tuQ {d:D} {w:Nat} (hw:w≤400) {h:I × Int} (hh:SI h.1):SI (tuQ d w h).1:=SI_aS hw (SI_dS hw _ hh _) (SI_pS WD_h1 (by decide) _) _
theorem SI_tuR {d:D} (hd:WD d) (hb:blen d.m.natAbs≤1000) {w:Nat} (hw:w≤400) (h:I × Int) (k e:Int):SI (tuR d w h k e).1:=SI_suS hw (SI_pS hd hb _) (SI_mS hw _ _ _) _
theorem SI_turnsT {q:I × Int} {r:Int→I × Int} (h:∀ k,SI (r k).1):SI (turnsT q r).2.1:=by
 unfold turnsT
 split
 ·exact SI_z
 ·split
  ·exact SI_z
  ·split
   ·exact SI_z
   ·exact h _
theorem SI_turnsS {d:D} (hd:WD d) (hb:blen d.m.natAbs≤1000) {p:Nat} (hp:p≤336):SI (turnsS d p).2.1:=by
 unfold turnsS turnsH
 split
 ·exact SI_z
 ·exact SI_turnsT fun k=>SI_tuR hd hb (by omega) _ _ _
theorem pPS {d:D} (h:WD d) (e p:Int):cv_Point (dy d) e p=some (iv (pS d e).1,(pS d e).2):=ivPoint_eq h e p
theorem pJS {n:Int} (hn : -9223372036854775808≤n∧n≤9223372036854775807) (e p:Int):cv_Int n e p=some (iv (jS n e).1,(jS n e).2):=ivInt_eq hn e p
theorem rPS {d:D} (h:WD d) (e p:Int):r06_CPoint (dy d) p e=some (iv (pS d e).1,(pS d e).2):=rivPoint_eq h e p
theorem turns_h {d:D} (hd:WD d) (hb:blen d.m.natAbs≤400) {w:Nat} (hw:2≤w∧w≤400) {h:I × Int} (hh:SI h.1) {s:Int × Bool} (hs : -9223372036854775808≤s.1∧s.1≤9223372036854775807) (q:I × Int):trig_Turns_j2 (dy d) (iv q.1,q.2) (0,0,(w:Int)) s (iv h.1,h.2) false=some ((if (tuR d w h s.1 q.2).2≠0 then (0,zI,(tuR d w h s.1 q.2).2) else (s.1,(tuR d w h s.1 q.2).1,0)).1,iv (if (tuR d w h s.1 q.2).2≠0 then ((0:Int),zI,(tuR d w h s.1 q.2).2) else (s.1,(tuR d w h s.1 q.2).1,0)).2.1,(if (tuR d w h s.1 q.2).2≠0 then ((0:Int),zI,(tuR d w h s.1 q.2).2) else (s.1,(tuR d w h s.1 q.2).1,0)).2.2):=by
 have hf2:suS w (pS d q.2).1 (mS w (jS s.1 (pS d q.2).2).1 h.1 (jS s.1 (pS d q.2).2).2).1 (mS w (jS s.1 (pS d q.2).2).1 h.1 (jS s.1 (pS d q.2).2).2).2=tuR d w h s.1 q.2:=rfl
 have s1:=SI_pS hd (show blen d.m.natAbs≤1000 by omega) q.2
 have s2:=SI_jS hs (pS d q.2).2
 have s3:=SI_mS hw.2 (jS s.1 (pS d q.2).2).1 h.1 (jS s.1 (pS d q.2).2).2
 have e1:=pPS hd q.2 (w:Int)
 have e2:=pJS hs (pS d q.2).2 (w:Int)
 have e3:=pMul hw s2 hh (jS s.1 (pS d q.2).2).2
 have e4:=pSub hw s1 s3 (mS w (jS s.1 (pS d q.2).2).1 h.1 (jS s.1 (pS d q.2).2).2).2
 rw [hf2] at e4
 generalize tuR d w h s.1 q.2=r at *
 generalize pS d q.2=x at *
 generalize jS s.1 x.2=i at *
 generalize mS w i.1 h.1 i.2=m at *
 unfold trig_Turns_j2
 rw [if_neg (by simp)]
 refine Eq.trans (congrArg (fun o=>Option.bind o _) e1) ?_
 simp only [obn]
 refine Eq.trans (congrArg (fun o=>Option.bind o _) e2) ?_
 simp only [obn]
 refine Eq.trans (congrArg (fun o=>Option.bind o _) e3) ?_
 simp only [obn]
 refine Eq.trans (congrArg (fun o=>Option.bind o _) e4) ?_
 simp only [obn]
 unfold iv_trouble_Err
 simp only [obn]
 by_cases h2:r.2=0
 ·rw [if_neg (by simp [h2]),if_neg (by simp [h2])]
 ·rw [if_pos h2,if_pos h2,zI_eta]
theorem turns_t (d:D) {w:Nat} (h:I × Int) (s:Int × Bool) (q:I × Int):trig_Turns_j2 (dy d) (iv q.1,q.2) (0,0,(w:Int)) s (iv h.1,h.2) true=some (0,iv zI,4):=by
 unfold trig_Turns_j2
 rw [if_pos rfl,zI_eta]
theorem turns_j1 {d:D} (hd:WD d) (hb:blen d.m.natAbs≤400) {p:Nat} (hp:2≤p∧p≤336):trig_Turns_j1 (p:Int) (dy d) false=some ((turnsH d (p+32) (tuH (p+32))).1,iv (turnsH d (p+32) (tuH (p+32))).2.1,(turnsH d (p+32) (tuH (p+32))).2.2):=by
 have hw:2≤p+32∧p+32≤400:=by omega
 have e0:=Pi_eq hw 0
 have e1:=pScale (SI_pi hw.2 0) (n:=-1) (by omega) (piS (p+32) 0).2 ((p+32:Nat):Int)
 have hh:scS (piS (p+32) 0).1 (-1) (piS (p+32) 0).2=tuH (p+32):=rfl
 have s0:=SI_tuH hw.2
 rw [hh] at e1
 generalize tuH (p+32)=h at *
 generalize piS (p+32) 0=g at *
 unfold trig_Turns_j1
 rw [if_neg (by simp),w64 (by omega) (by omega),show (p:Int)+32=((p+32:Nat):Int) by omega,ivNew_eq hw]
 simp only [obn]
 rw [e0]
 simp only [obn]
 refine Eq.trans (congrArg (fun o=>Option.bind o _) e1) ?_
 simp only [obn]
 generalize p+32=w at *
 clear e0 e1 hh
 have hf:aS w (dS w (pS d h.2).1 h.1 (pS d h.2).2).1 (pS ⟨1,-1⟩ (dS w (pS d h.2).1 h.1 (pS d h.2).2).2).1 (pS ⟨1,-1⟩ (dS w (pS d h.2).1 h.1 (pS d h.2).2).2).2=tuQ d w h:=rfl
 have s1:=SI_pS hd (show blen d.m.natAbs≤1000 by omega) h.2
 have s2:=SI_dS hw.2 (pS d h.2).1 s0 (pS d h.2).2
 have s3:=SI_pS WD_h1 (by decide) (dS w (pS d h.2).1 h.1 (pS d h.2).2).2
 have f1:=pPS hd h.2 (w:Int)
 have f2:=pDiv hw s1 s0 (pS d h.2).2
 have f3:=pPS WD_h1 (dS w (pS d h.2).1 h.1 (pS d h.2).2).2 (w:Int)
 have f4:=pAdd hw s2 s3 (pS ⟨1,-1⟩ (dS w (pS d h.2).1 h.1 (pS d h.2).2).2).2
 have sq:=SI_tuQ (d:=d) hw.2 s0
 rw [hf] at f4
 unfold turnsH
 have kh:=fun {s:Int × Bool} hs=>turns_h hd hb hw s0 (s:=s) hs (tuQ d w h)
 have kt:=fun s=>turns_t d (w:=w) h s (tuQ d w h)
 generalize tuQ d w h=q at *
 generalize pS d h.2=x at *
 generalize dS w x.1 h.1 x.2=y at *
 generalize pS ⟨1,-1⟩ y.2=z at *
 refine Eq.trans (congrArg (fun o=>Option.bind o _) f1) ?_
 simp only [obn]
 refine Eq.trans (congrArg (fun o=>Option.bind o _) f2) ?_
 simp only [obn]
 rw [dyad_Half_eq (by omega)]
 simp only [obn]
 refine Eq.trans (congrArg (fun o=>Option.bind o _) f3) ?_
 simp only [obn]
 refine Eq.trans (congrArg (fun o=>Option.bind o _) f4) ?_
 simp only [obn]
 unfold iv_trouble_Err
 simp only [obn]
 unfold turnsT
 by_cases h1:q.2=0
 ·rw [if_neg (by simp [h1]),if_neg (by simp [h1]),ivLo]
  have g1:=dyad_Floor_eq sq.ok.1
  have g2:=zint_Small_eq (floorS_sz sq.ok.1)
  have hk:=smallZ_in (floorS q.1.lo).1
  generalize floorS q.1.lo=f at *
  refine Eq.trans (congrArg (fun o=>Option.bind o _) g1) ?_
  simp only [obn]
  refine Eq.trans (congrArg (fun o=>Option.bind o _) g2) ?_
  simp only [obn]
  generalize smallZ f.1=s at *
  by_cases h2:f.2=0
  ·rw [if_neg (by simp [h2])]
   by_cases h3:s.2=false
   ·rw [if_pos (Or.inr h3),h3,show (!false)=true from rfl,kt]
   ·have h3':s.2=true:=by simpa using h3
    rw [if_neg (by simp [h2,h3']),h3',show (!true)=false from rfl,kh hk]
  ·rw [if_pos h2,if_pos (Or.inl h2),kt]
 ·rw [if_pos h1,if_pos h1,zI_eta]
theorem Turns_eq {d:D} (hd:WD d) (p:Int):trig_Turns (dy d) p=some ((turnsR d p).1,iv (turnsR d p).2.1,(turnsR d p).2.2):=by
 unfold trig_Turns turnsR
 rw [tfits_eq hd.1 hd.sz]
 simp only [obn]
 cases hf:fitB d p with
 | false=>rw [if_pos (by simp),if_neg (by simp),zI_eta]
 | true=>
  obtain ⟨⟨q,rfl,hq⟩,hb⟩:=fitB_p hf
  rw [if_neg (by simp),if_pos rfl,Int.toNat_natCast,dyad_Size_eq hd]
  simp only [obn]
  unfold sizeB
  by_cases h0:d.m=0
  ·rw [if_pos h0,if_neg (by simp)]
   unfold turnsS; rw [if_neg (by simp [h0])]; exact turns_j1 hd hb hq
  ·rw [if_neg h0,if_pos rfl]
   by_cases h11:11<d.e+(blen d.m.natAbs:Nat)
   ·rw [show decide (d.e+(blen d.m.natAbs:Nat)>11)=true from decide_eq_true h11]
    unfold trig_Turns_j1 turnsS
    rw [if_pos rfl,if_pos ⟨h0,h11⟩,zI_eta]
   ·rw [show decide (d.e+(blen d.m.natAbs:Nat)>11)=false from decide_eq_false h11]
    unfold turnsS; rw [if_neg (by simp [h11])]; exact turns_j1 hd hb hq
theorem SI_turnsR {d:D} (hd:WD d) {p:Int} : SI (turnsR d p).2.1:=by
 unfold turnsR
 split
 ·rename_i h
  obtain ⟨⟨q,rfl,hq⟩,hb⟩:=fitB_p h
  rw [Int.toNat_natCast]; exact SI_turnsS hd (by omega) hq.2
 ·exact SI_z
theorem shr_one64 (z:Int):shrI .i64 z 1=z / 2:=by
 unfold shrI
 rw [show min (1:Int).toNat IntKind.i64.bits=1 by decide,Int.fdiv_eq_ediv_of_nonneg _ (by decide)]
 rfl
def quS (k:Int) (y:I) (p:Nat):I × Int:=
 let a:=if k % 2=0 then st 0 zI (sinI (p+32) y) else st 0 zI (cosI (p+32) y)
 if k / 2 % 2=0 then doneS p a else doneS p (nS a.1 a.2)
theorem SI_quA (k:Int) {y:I} (hy:SI y) {w:Nat} (hw:w≤400):SI (if k % 2=0 then st 0 zI (sinI w y) else st 0 zI (cosI w y)).1:=by
 split
 ·exact SI_st (SI_sin hw hy) 0
 ·exact SI_st (SI_cos hw) 0
theorem SI_quS {k:Int} {y:I} (hy:SI y) {p:Nat} (hp:p≤336):SI (quS k y p).1:=by
 have h:=SI_quA k hy (w:=p+32) (by omega)
 unfold quS
 simp only
 split
 ·exact SI_done h (by omega)
 ·exact SI_done (SI_nS h _) (by omega)
theorem tdone_eq {a:I} (ha:SI a) {p:Nat} (hp:2≤p∧p≤400) (e w:Int):trig_done (iv a) (p:Int) e w=some (iv (doneS p (a,e)).1,(doneS p (a,e)).2):=by
 unfold trig_done iv_trouble_Err
 simp only [obn]
 by_cases h:e=0
 ·subst h
  rw [if_neg (by simp),ivNew_eq hp]
  simp only [obn]
  have:=ivOut_eq ha.ok hp 0
  refine Eq.trans (congrArg (fun o=>Option.bind o _) this) ?_
  rfl
 ·rw [if_pos h]
  unfold doneS
  rw [st_ne h,iv_z]
theorem one_a (k:Int):trig_one_func_c_iv_Calc_y_api_Iv_api_Iv_69d9 k=some (if k % 2=0 then Sum.inl () else Sum.inr ()):=by
 unfold trig_one_func_c_iv_Calc_y_api_Iv_api_Iv_69d9
 rw [and_one64]
 by_cases h:k % 2=0
 ·rw [if_pos h,if_pos h]
 ·rw [if_neg h,if_pos (by omega),if_neg h]
theorem one_b (k a b:Int):trig_one_func_a_api_Iv_api_Iv_4a04 k a b=some (if k % 2=0 then Sum.inl () else Sum.inr ()):=by
 unfold trig_one_func_a_api_Iv_api_Iv_4a04
 rw [and_one64]
 by_cases h:k % 2=0
 ·rw [if_pos h,if_pos h]
 ·rw [if_neg h,if_pos (by omega),if_neg h]
theorem quarter_of {x:AD} {k:Int} {y:I} (hy:SI y) {p:Nat} (hp:2≤p∧p≤336) (e:trig_Turns x (p:Int)=some (k,iv y,0)) (m:Int):trig_quarter x (p:Int) m=some (iv (quS (IntKind.i64.wrap (k+m)) y p).1,(quS (IntKind.i64.wrap (k+m)) y p).2):=by
 have hw:2≤p+32∧p+32≤400:=by omega
 have h1:=smallSin_eq hw hy 0
 have h2:=smallCos_eq hw hy 0
 have g1:=SI_st (SI_sin hw.2 hy) 0
 have g2:=SI_st (SI_cos (y:=y) hw.2) 0
 unfold trig_quarter
 rw [e]
 simp only [obn]
 rw [if_neg (by simp),w64 (x:=(p:Int)+32) (by omega) (by omega),show (p:Int)+32=((p+32:Nat):Int) by omega,ivNew_eq hw]
 simp only [obn]
 rw [one_a]
 simp only [obn]
 unfold quS
 simp only
 generalize IntKind.i64.wrap (k+m)=z
 by_cases h0:z % 2=0
 ·rw [if_pos h0,if_pos h0]
  simp only
  refine Eq.trans (congrArg (fun o=>Option.bind o _) h1) ?_
  generalize st 0 zI (sinI (p+32) y)=a at *
  simp only [obn]
  rw [one_b,shr_one64]
  simp only [obn]
  by_cases h3:z / 2 % 2=0
  ·rw [if_pos h3,if_pos h3]
   simp only
   unfold trig_quarter_1
   simp only [obn]
   refine Eq.trans (congrArg (fun o=>Option.bind o _) (tdone_eq g1 (by omega) _ _)) ?_
   rfl
  ·rw [if_neg h3,if_neg h3]
   simp only
   refine Eq.trans (congrArg (fun o=>Option.bind o _) (pNeg g1 _ _)) ?_
   simp only [obn]
   refine Eq.trans (congrArg (fun o=>Option.bind o _) (tdone_eq (SI_nS g1 _) (by omega) _ _)) ?_
   rfl
 ·rw [if_neg h0,if_neg h0]
  simp only
  refine Eq.trans (congrArg (fun o=>Option.bind o _) h2) ?_
  generalize st 0 zI (cosI (p+32) y)=a at *
  simp only [obn]
  rw [one_b,shr_one64]
  simp only [obn]
  by_cases h3:z / 2 % 2=0
  ·rw [if_pos h3,if_pos h3]
   simp only
   unfold trig_quarter_1
   simp only [obn]
   refine Eq.trans (congrArg (fun o=>Option.bind o _) (tdone_eq g2 (by omega) _ _)) ?_
   rfl
  ·rw [if_neg h3,if_neg h3]
   simp only
   refine Eq.trans (congrArg (fun o=>Option.bind o _) (pNeg g2 _ _)) ?_
   simp only [obn]
   refine Eq.trans (congrArg (fun o=>Option.bind o _) (tdone_eq (SI_nS g2 _) (by omega) _ _)) ?_
   rfl
def sinR (d:D) (p m:Int):I × Int:=if (turnsR d p).2.2≠0 then (zI,(turnsR d p).2.2) else quS (IntKind.i64.wrap ((turnsR d p).1+m)) (turnsR d p).2.1 p.toNat
theorem turnsR_fit {d:D} {p:Int} (h:(turnsR d p).2.2=0):∃ q:Nat,p=(q:Int)∧2≤q∧q≤336:=by
 unfold turnsR at h
 cases hf:fitB d p with
 | false=>rw [hf,if_neg (by simp)] at h; exact absurd h (by decide)
 | true=>exact (fitB_p hf).1
theorem SI_sinR {d:D} (hd:WD d) {p m:Int} : SI (sinR d p m).1:=by
 unfold sinR
 by_cases h:(turnsR d p).2.2=0
 ·rw [if_neg (by simp [h])]
  obtain ⟨q,hq,hq2⟩:=turnsR_fit h
  exact SI_quS (SI_turnsR hd) (by omega)
 ·rw [if_pos h]; exact SI_z
theorem quarter_eq {d:D} (hd:WD d) (p m:Int):trig_quarter (dy d) p m=some (iv (sinR d p m).1,(sinR d p m).2):=by
 have ht:=Turns_eq hd p
 have hs:SI (turnsR d p).2.1:=SI_turnsR hd
 have hf:=turnsR_fit (d:=d) (p:=p)
 unfold sinR
 generalize turnsR d p=t at *
 by_cases h:t.2.2=0
 ·obtain ⟨q,rfl,hq⟩:=hf h
  rw [if_neg (by simp [h]),Int.toNat_natCast]
  rw [h] at ht
  exact quarter_of hs hq ht m
 ·rw [if_pos h]
  unfold trig_quarter
  rw [ht]
  simp only [obn]
  rw [if_pos h,zI_eta]
theorem tSin_eq {d:D} (hd:WD d) (p:Int):trig_Sin (dy d) p=some (iv (sinR d p 0).1,(sinR d p 0).2):=by
 unfold trig_Sin
 refine Eq.trans (congrArg (fun o=>Option.bind o _) (quarter_eq hd p 0)) ?_
 rfl
theorem tCos_eq {d:D} (hd:WD d) (p:Int):trig_Cos (dy d) p=some (iv (sinR d p 1).1,(sinR d p 1).2):=by
 unfold trig_Cos
 refine Eq.trans (congrArg (fun o=>Option.bind o _) (quarter_eq hd p 1)) ?_
 rfl
theorem cut10_eq {x:AD} (hx:gAD x):l10_cut x 14=some ⟨⟨x.M.Neg,x.M.Mag.take (min x.M.Mag.length 14)⟩,x.E⟩:=by
 have hl:x.M.Mag.length≤9223372036854775807:=by have:=hx.1.2.1; unfold maxLen at this; omega
 have hm:mn (x.M.Mag.length:Int) 14=((min x.M.Mag.length 14:Nat):Int):=by unfold mn; split<;>omega
 unfold l10_cut
 rw [hm,if_pos (by omega),Int.toNat_natCast]
theorem same10_eq {x y:I} (hx:okI x):l10_same (iv x) (iv y)=some (decide (x=y)):=by
 unfold l10_same
 rw [same_eq hx]; rfl
theorem ex10:(turnsR (fromD 3) 30).1=2∧(turnsR (fromD 3) 30).2.2=0∧(turnsR (fromD 3) 30).2.1.lo.m<0∧(sinR zD 20 0).2=0∧hasI (sinR zD 20 0).1 zD=true∧(sinR (fromD 4000) 20 1).2=4:=by decide +kernel
theorem has_z {r:I × Int} (hr:SI r.1) (h:hasI r.1 zD=true):r06_Has (iv r.1) ⟨⟨false,[]⟩,0⟩=some true:=by
 have:=rHas6_eq hr.ok WD_z
 rw [dy_z] at this
 rw [this,h]
theorem ex10_of {a:Int × I × Int} {b c:I × Int} (e1:trig_Turns (dy (fromD 3)) 30=some (a.1,iv a.2.1,a.2.2)) (e2:trig_Sin ⟨⟨false,[]⟩,0⟩ 20=some (iv b.1,b.2)) (e3:trig_Cos (dy (fromD 4000)) 20=some (iv c.1,c.2)) (h:a.1=2∧a.2.2=0∧a.2.1.lo.m<0∧b.2=0∧hasI b.1 zD=true∧c.2=4) (hb:SI b.1):l10_examples=some true:=by
 unfold l10_examples l10_examples_j1
 rw [rFrom5_eq (by omega)]
 simp only [obn]
 refine Eq.trans (congrArg (fun o=>Option.bind o _) e1) ?_
 simp only [obn]
 rw [e2]
 simp only [obn]
 rw [rFrom5_eq (by omega)]
 simp only [obn]
 refine Eq.trans (congrArg (fun o=>Option.bind o _) e3) ?_
 simp only [obn]
 rw [if_pos h.1,if_pos h.2.1,if_pos (show (iv a.2.1).Lo.M.Neg=true from decide_eq_true h.2.2.1),if_pos h.2.2.2.1]
 refine Eq.trans (congrArg (fun o=>Option.bind o _) (has_z hb h.2.2.2.2.1)) ?_
 simp only [obn]
 rw [if_pos True.intro,h.2.2.2.2.2]
 rfl
theorem examples10:l10_examples=some true:=by
 have h1:=Turns_eq (WD_from (n:=3) (by omega)) 30
 have h2:=tSin_eq WD_z 20
 have h3:=tCos_eq (WD_from (n:=4000) (by omega)) 20
 rw [dy_z] at h2
 exact ex10_of h1 h2 h3 ex10 (SI_sinR WD_z)
def absD (d:D):D:=⟨(d.m.natAbs:Int),d.e⟩
def thS (w:Nat) (r:I × Int):I × Int:=
 let i:=iS 1 r.2
 let j:=iS 1 i.2
 let m:=mS w r.1 r.1 j.2
 let s:=aS w j.1 m.1 m.2
 let q:=sqS w s.1 s.2
 let b:=aS w i.1 q.1 q.2
 dS w r.1 b.1 b.2
def tpS (w:Nat) (b:I × Int):I × Int:=
 let g:=piS w b.2
 let h:=scS g.1 (-1) g.2
 suS w h.1 b.1 h.2
def tbS (w:Nat) (r:I × Int):I × Int:=
 let a:=atS w r.1 r.2
 scS a.1 2 a.2
def tqS (w:Nat) (big:Bool) (r:I × Int):I × Int:=if big=true then tpS w (tbS w r) else tbS w r
def teS (p:Nat) (neg:Bool) (c:I × Int):I × Int:=if neg=true then doneS p (nS c.1 c.2) else doneS p c
def tdS (w:Nat) (x:I × Int):I × Int:=
 let i:=iS 1 x.2
 dS w i.1 x.1 i.2
def txS (d:D) (w:Nat) (x:I × Int):I × Int:=if cmpD (absD d) (fromD 1)>0 then tdS w x else x
def ttS (d:D) (p:Nat):I × Int:=teS p (decide (d.m<0)) (tqS (p+32) (decide (cmpD (absD d) (fromD 1)>0)) (thS (p+32) (thS (p+32) (txS d (p+32) (pS (absD d) 0)))))
def tanR (d:D) (p:Int):I × Int:=if fitB d p then ttS d p.toNat else (zI,1)
theorem WD_abs {d:D} (h:WD d):WD (absD d):=by
 constructor
 ·have h1:=h.1
  unfold okD at h1 ⊢
  unfold absD
  simp only
  omega
 ·exact h.2
theorem dy_abs (d:D):(⟨⟨false,(dy d).M.Mag⟩,(dy d).E⟩:AD)=dy (absD d):=by
 unfold dy absD iOf
 simp
theorem pSq {p:Nat} (hp:2≤p∧p≤400) {a:I} (ha:SI a) (e:Int):cv_Sqrt (iv a) e (p:Int)=some (iv (sqS p a e).1,(sqS p a e).2):=ivSqrt_eq ha.ok ⟨by have:=ha.lo; omega,by have:=ha.hi; omega⟩ hp e
theorem rSq {p:Nat} (hp:2≤p∧p≤400) {a:I} (ha:SI a) (e:Int):r06_CSqrt (iv a) (p:Int) e=some (iv (sqS p a e).1,(sqS p a e).2):=rivSqrt_eq ha.ok ⟨by have:=ha.lo; omega,by have:=ha.hi; omega⟩ hp e
theorem pAt {p:Nat} (hp:2≤p∧p≤400) {a:I} (ha:SI a) (e:Int):small_Atan (iv a) e (p:Int)=some (iv (atS p a e).1,(atS p a e).2):=smallAtan_eq hp ha e
theorem rAt {p:Nat} (hp:2≤p∧p≤400) {a:I} (ha:SI a) (e:Int):r07_Atan (iv a) (p:Int) e=some (iv (atS p a e).1,(atS p a e).2):=rAtan_eq hp ha e
theorem SI_thS {w:Nat} (hw:w≤400) (r:I × Int):SI (thS w r).1:=SI_dS hw _ (SI_aS hw (SI_iS (by omega) _) (SI_st (SI_sqrt (SI_aS hw (SI_iS (by omega) _) (SI_mS hw _ _ _) _).ok hw) _) _) _
theorem SI_tbS {w:Nat} (hw:w≤400) {r:I × Int} (hr:SI r.1):SI (tbS w r).1:=SI_sc (SI_st (SI_atan hw hr) _) _ _
theorem SI_tpS {w:Nat} (hw:w≤400) {r:I × Int} (hr:SI r.1):SI (tpS w r).1:=SI_suS hw (SI_sc (SI_pi hw _) _ _) hr _
theorem SI_tqS {w:Nat} (hw:w≤400) (b:Bool) {r:I × Int} (hr:SI r.1):SI (tqS w b r).1:=by
 unfold tqS
 split
 ·exact SI_tpS hw (SI_tbS hw hr)
 ·exact SI_tbS hw hr
theorem SI_teS {p:Nat} (hp:p≤400) (b:Bool) {r:I × Int} (hr:SI r.1):SI (teS p b r).1:=by
 unfold teS
 split
 ·exact SI_done (SI_nS hr _) hp
 ·exact SI_done hr hp
theorem SI_ttS {d:D} {p:Nat} (hp:p≤336):SI (ttS d p).1:=SI_teS (by omega) _ (SI_tqS (by omega) _ (SI_thS (by omega) _))
theorem SI_tanR {d:D} {p:Int} : SI (tanR d p).1:=by
 unfold tanR
 split
 ·rename_i h
  obtain ⟨⟨q,rfl,hq⟩,hb⟩:=fitB_p h
  rw [Int.toNat_natCast]; exact SI_ttS hq.2
 ·exact SI_z
theorem atan_j3 {x:AD} {p w:Nat} (hp:2≤p∧p≤400) {c:I × Int} (hc:SI c.1):trig_Atan_j3 x (0,0,(w:Int)) (p:Int) c.2 (iv c.1).Lo.M.Neg (iv c.1).Lo.M.Mag (iv c.1).Lo.E (iv c.1).Hi.M.Neg (iv c.1).Hi.M.Mag (iv c.1).Hi.E=some (iv (teS p x.M.Neg c).1,(teS p x.M.Neg c).2):=by
 unfold trig_Atan_j3 trig_Atan_j4 teS
 by_cases h:x.M.Neg=true
 ·rw [if_pos h,if_pos h,ivEta]
  refine Eq.trans (congrArg (fun o=>Option.bind o _) (pNeg hc _ _)) ?_
  simp only [obn]
  rw [ivEta]
  refine Eq.trans (congrArg (fun o=>Option.bind o _) (tdone_eq (SI_nS hc _) hp _ _)) ?_
  rfl
 ·rw [if_neg h,if_neg h,ivEta]
  refine Eq.trans (congrArg (fun o=>Option.bind o _) (tdone_eq hc hp _ _)) ?_
  rfl
theorem atan_j2 {x:AD} {p w:Nat} (hp:2≤p∧p≤400) (hw:2≤w∧w≤400) (b:Bool) {c:I × Int} (hc:SI c.1):trig_Atan_j2 (0,0,(w:Int)) b x (p:Int) c.2 (iv c.1).Lo.M.Neg (iv c.1).Lo.M.Mag (iv c.1).Lo.E (iv c.1).Hi.M.Neg (iv c.1).Hi.M.Mag (iv c.1).Hi.E=some (iv (teS p x.M.Neg (tqS w b c)).1,(teS p x.M.Neg (tqS w b c)).2):=by
 have e1:=pAt hw hc c.2
 have s1:SI (atS w c.1 c.2).1:=SI_st (SI_atan hw.2 hc) _
 have e2:=pScale s1 (n:=2) (by omega) (atS w c.1 c.2).2 (w:Int)
 have s2:=SI_tbS hw.2 hc
 have e3:=Pi_eq hw (tbS w c).2
 have s3:=SI_pi hw.2 (tbS w c).2
 have e4:=pScale s3 (n:=-1) (by omega) (piS w (tbS w c).2).2 (w:Int)
 have s4:=SI_sc s3 (-1) (piS w (tbS w c).2).2
 have e5:=pSub hw s4 s2 (scS (piS w (tbS w c).2).1 (-1) (piS w (tbS w c).2).2).2
 have s5:=SI_tpS hw.2 s2
 unfold tqS
 unfold tpS at s5 ⊢
 have f2:scS (atS w c.1 c.2).1 2 (atS w c.1 c.2).2=tbS w c:=rfl
 rw [f2] at e2
 generalize tbS w c=t at *
 generalize atS w c.1 c.2=a at *
 simp only at s5 ⊢
 generalize piS w t.2=g at *
 generalize scS g.1 (-1) g.2=h at *
 generalize suS w h.1 t.1 h.2=u at *
 unfold trig_Atan_j2
 rw [ivEta]
 refine Eq.trans (congrArg (fun o=>Option.bind o _) e1) ?_
 simp only [obn]
 refine Eq.trans (congrArg (fun o=>Option.bind o _) e2) ?_
 simp only [obn]
 by_cases hb:b=true
 ·rw [if_pos hb,if_pos hb]
  refine Eq.trans (congrArg (fun o=>Option.bind o _) e3) ?_
  simp only [obn]
  refine Eq.trans (congrArg (fun o=>Option.bind o _) e4) ?_
  simp only [obn]
  refine Eq.trans (congrArg (fun o=>Option.bind o _) e5) ?_
  simp only [obn]
  exact atan_j3 hp s5
 ·rw [if_neg hb,if_neg hb]
  exact atan_j3 hp s2
theorem atan_step {x:AD} {p w:Nat} (hw:2≤w∧w≤400) (b:Bool) {c:I × Int} (hc:SI c.1) (f:Nat) {i:Int} (hi:i<2):trig_Atan_l5 (0,0,(w:Int)) b x (p:Int) (f+1) i c.2 (iv c.1).Lo.M.Neg (iv c.1).Lo.M.Mag (iv c.1).Lo.E (iv c.1).Hi.M.Neg (iv c.1).Hi.M.Mag (iv c.1).Hi.E=trig_Atan_l5 (0,0,(w:Int)) b x (p:Int) f (IntKind.i64.wrap (i+1)) (thS w c).2 (iv (thS w c).1).Lo.M.Neg (iv (thS w c).1).Lo.M.Mag (iv (thS w c).1).Lo.E (iv (thS w c).1).Hi.M.Neg (iv (thS w c).1).Hi.M.Mag (iv (thS w c).1).Hi.E:=by
 have h1:=SI_iS (n:=1) (by omega) c.2
 have e1:=pInt (n:=1) (by omega) c.2 (w:Int)
 have h2:=SI_iS (n:=1) (by omega) (iS 1 c.2).2
 have e2:=pInt (n:=1) (by omega) (iS 1 c.2).2 (w:Int)
 unfold thS
 simp only
 generalize iS 1 c.2=r1 at *
 generalize iS 1 r1.2=r2 at *
 have e3:=pMul hw hc hc r2.2
 have h3:=SI_mS hw.2 c.1 c.1 r2.2
 generalize mS w c.1 c.1 r2.2=r3 at *
 have e4:=pAdd hw h2 h3 r3.2
 have h4:=SI_aS hw.2 h2 h3 r3.2
 generalize aS w r2.1 r3.1 r3.2=r4 at *
 have e5:=pSq hw h4 r4.2
 have h5:SI (sqS w r4.1 r4.2).1:=SI_st (SI_sqrt h4.ok hw.2) r4.2
 generalize sqS w r4.1 r4.2=r5 at *
 have e6:=pAdd hw h1 h5 r5.2
 have h6:=SI_aS hw.2 h1 h5 r5.2
 generalize aS w r1.1 r5.1 r5.2=r6 at *
 have e7:=pDiv hw hc h6 r6.2
 generalize dS w c.1 r6.1 r6.2=r7 at *
 rw [trig_Atan_l5,if_pos hi]
 refine Eq.trans (congrArg (fun o=>Option.bind o _) e1) ?_
 simp only [obn]
 refine Eq.trans (congrArg (fun o=>Option.bind o _) e2) ?_
 simp only [obn]
 refine Eq.trans (congrArg (fun o=>Option.bind o _) e3) ?_
 simp only [obn]
 refine Eq.trans (congrArg (fun o=>Option.bind o _) e4) ?_
 simp only [obn]
 refine Eq.trans (congrArg (fun o=>Option.bind o _) e5) ?_
 simp only [obn]
 refine Eq.trans (congrArg (fun o=>Option.bind o _) e6) ?_
 simp only [obn]
 refine Eq.trans (congrArg (fun o=>Option.bind o _) e7) ?_
 rfl
theorem atan_j1 {x:AD} {p w:Nat} (hp:2≤p∧p≤400) (hw:2≤w∧w≤400) (b:Bool) {c:I × Int} (hc:SI c.1):trig_Atan_j1 (0,0,(w:Int)) x (p:Int) b c.2 (iv c.1).Lo.M.Neg (iv c.1).Lo.M.Mag (iv c.1).Lo.E (iv c.1).Hi.M.Neg (iv c.1).Hi.M.Mag (iv c.1).Hi.E=some (iv (teS p x.M.Neg (tqS w b (thS w (thS w c)))).1,(teS p x.M.Neg (tqS w b (thS w (thS w c)))).2):=by
 unfold trig_Atan_j1
 obtain ⟨f,hf⟩:=fuel_succ
 have h1:=SI_thS hw.2 c
 have h2:=SI_thS hw.2 (thS w c)
 rw [hf,atan_step hw b hc _ (by omega),show IntKind.i64.wrap (0+1)=1 by decide]
 generalize thS w c=c1 at *
 rw [atan_step hw b h1 _ (by omega),show IntKind.i64.wrap (1+1)=2 by decide]
 generalize thS w c1=c2 at *
 rw [trig_Atan_l5,if_neg (by omega)]
 exact atan_j2 hp hw b h2
theorem Atan_eq {d:D} (hd:WD d) (p:Int):trig_Atan (dy d) p=some (iv (tanR d p).1,(tanR d p).2):=by
 unfold trig_Atan tanR
 rw [tfits_eq hd.1 hd.sz]
 simp only [obn]
 cases hf:fitB d p with
 | false=>rw [if_pos (by simp),if_neg (by simp),zI_eta]
 | true=>
  obtain ⟨⟨q,rfl,hq⟩,hb⟩:=fitB_p hf
  have hw:2≤q+32∧q+32≤400:=by omega
  have ha:=WD_abs hd
  have s1:=SI_pS ha (show blen (absD d).m.natAbs≤1000 from Nat.le_trans hb (by omega)) 0
  have e1:=pPS ha 0 ((q+32:Nat):Int)
  rw [if_neg (by simp),if_pos rfl,Int.toNat_natCast,w64 (x:=(q:Int)+32) (by omega) (by omega),show (q:Int)+32=((q+32:Nat):Int) by omega,ivNew_eq hw,dy_abs]
  simp only [obn]
  unfold ttS txS
  have hc:=dyad_Cmp_eq ha (WD_from (n:=1) (by omega))
  have hn:(dy d).M.Neg=decide (d.m<0):=rfl
  have k1:=fun b {c:I × Int} (hc:SI c.1)=>atan_j1 (x:=dy d) (p:=q) (by omega) hw b hc
  rw [hn] at k1
  generalize cmpD (absD d) (fromD 1)=z at *
  generalize pS (absD d) 0=x at *
  refine Eq.trans (congrArg (fun o=>Option.bind o _) e1) ?_
  simp only [obn]
  rw [dyad_From_eq (by omega)]
  simp only [obn]
  refine Eq.trans (congrArg (fun o=>Option.bind o _) hc) ?_
  simp only [obn]
  by_cases hz:z>0
  ·rw [if_pos hz,if_pos hz,decide_eq_true hz]
   have h2:=SI_iS (n:=1) (by omega) x.2
   have e2:=pInt (n:=1) (by omega) x.2 ((q+32:Nat):Int)
   unfold tdS
   simp only
   generalize iS 1 x.2=i at *
   have e3:=pDiv hw h2 s1 i.2
   have h3:=SI_dS hw.2 i.1 s1 i.2
   generalize dS (q+32) i.1 x.1 i.2=r at *
   refine Eq.trans (congrArg (fun o=>Option.bind o _) e2) ?_
   simp only [obn]
   refine Eq.trans (congrArg (fun o=>Option.bind o _) e3) ?_
   simp only [obn]
   exact k1 true h3
  ·rw [if_neg hz,if_neg hz,decide_eq_false hz]
   exact k1 false s1
theorem ratan_j5 {x:AD} {p w:Nat} (hp:2≤p∧p≤400) {c:I × Int} (hc:SI c.1):r10_Atan_j5 x ((w:Int),0) (p:Int) c.2 (iv c.1).Lo.M.Neg (iv c.1).Lo.M.Mag (iv c.1).Lo.E (iv c.1).Hi.M.Neg (iv c.1).Hi.M.Mag (iv c.1).Hi.E=some (iv (teS p x.M.Neg c).1,(teS p x.M.Neg c).2):=by
 unfold r10_Atan_j5 r10_Atan_j6 teS
 by_cases h:x.M.Neg=true
 ·rw [if_pos h,if_pos h,ivEta]
  refine Eq.trans (congrArg (fun o=>Option.bind o _) (rNegS hc _ _)) ?_
  simp only [obn]
  rw [ivEta]
  refine Eq.trans (congrArg (fun o=>Option.bind o _) (rEnds_eq (SI_nS hc _) hp _ _)) ?_
  rfl
 ·rw [if_neg h,if_neg h,ivEta]
  refine Eq.trans (congrArg (fun o=>Option.bind o _) (rEnds_eq hc hp _ _)) ?_
  rfl
theorem ratan_j4 {x:AD} {p w:Nat} (hp:2≤p∧p≤400) (hw:2≤w∧w≤400) (b:Bool) {c:I × Int} (hc:SI c.1):r10_Atan_j4 ((w:Int),0) b x (p:Int) c.2 (iv c.1).Lo.M.Neg (iv c.1).Lo.M.Mag (iv c.1).Lo.E (iv c.1).Hi.M.Neg (iv c.1).Hi.M.Mag (iv c.1).Hi.E=some (iv (teS p x.M.Neg (tqS w b c)).1,(teS p x.M.Neg (tqS w b c)).2):=by
 have e1:=rAt hw hc c.2
 have s1:SI (atS w c.1 c.2).1:=SI_st (SI_atan hw.2 hc) _
 have e2:=rScaleS s1 (n:=2) (by omega) (atS w c.1 c.2).2 (w:Int)
 have s2:=SI_tbS hw.2 hc
 have e3:=rPi_eq hw (tbS w c).2
 have s3:=SI_pi hw.2 (tbS w c).2
 have e4:=rScaleS s3 (n:=-1) (by omega) (piS w (tbS w c).2).2 (w:Int)
 have s4:=SI_sc s3 (-1) (piS w (tbS w c).2).2
 have e5:=rSubS hw s4 s2 (scS (piS w (tbS w c).2).1 (-1) (piS w (tbS w c).2).2).2
 have s5:=SI_tpS hw.2 s2
 unfold tqS
 unfold tpS at s5 ⊢
 have f2:scS (atS w c.1 c.2).1 2 (atS w c.1 c.2).2=tbS w c:=rfl
 rw [f2] at e2
 generalize tbS w c=t at *
 generalize atS w c.1 c.2=a at *
 simp only at s5 ⊢
 generalize piS w t.2=g at *
 generalize scS g.1 (-1) g.2=h at *
 generalize suS w h.1 t.1 h.2=u at *
 unfold r10_Atan_j4
 rw [ivEta]
 refine Eq.trans (congrArg (fun o=>Option.bind o _) e1) ?_
 simp only [obn]
 refine Eq.trans (congrArg (fun o=>Option.bind o _) e2) ?_
 simp only [obn]
 by_cases hb:b=true
 ·rw [if_pos hb,if_pos hb]
  refine Eq.trans (congrArg (fun o=>Option.bind o _) e3) ?_
  simp only [obn]
  refine Eq.trans (congrArg (fun o=>Option.bind o _) e4) ?_
  simp only [obn]
  refine Eq.trans (congrArg (fun o=>Option.bind o _) e5) ?_
  simp only [obn]
  exact ratan_j5 hp s5
 ·rw [if_neg hb,if_neg hb]
  exact ratan_j5 hp s2
theorem ratan_step {x:AD} {p w:Nat} (hw:2≤w∧w≤400) (b:Bool) {c:I × Int} (hc:SI c.1) (f:Nat) {i:Int} (hi:i<2):r10_Atan_l7 ((w:Int),0) b x (p:Int) (f+1) i c.2 (iv c.1).Lo.M.Neg (iv c.1).Lo.M.Mag (iv c.1).Lo.E (iv c.1).Hi.M.Neg (iv c.1).Hi.M.Mag (iv c.1).Hi.E=r10_Atan_l7 ((w:Int),0) b x (p:Int) f (IntKind.i64.wrap (i+1)) (thS w c).2 (iv (thS w c).1).Lo.M.Neg (iv (thS w c).1).Lo.M.Mag (iv (thS w c).1).Lo.E (iv (thS w c).1).Hi.M.Neg (iv (thS w c).1).Hi.M.Mag (iv (thS w c).1).Hi.E:=by
 have h1:=SI_iS (n:=1) (by omega) c.2
 have e1:=rIntS (n:=1) (by omega) c.2 (w:Int)
 have h2:=SI_iS (n:=1) (by omega) (iS 1 c.2).2
 have e2:=rIntS (n:=1) (by omega) (iS 1 c.2).2 (w:Int)
 unfold thS
 simp only
 generalize iS 1 c.2=r1 at *
 generalize iS 1 r1.2=r2 at *
 have e3:=rMulS hw hc hc r2.2
 have h3:=SI_mS hw.2 c.1 c.1 r2.2
 generalize mS w c.1 c.1 r2.2=r3 at *
 have e4:=rAddS hw h2 h3 r3.2
 have h4:=SI_aS hw.2 h2 h3 r3.2
 generalize aS w r2.1 r3.1 r3.2=r4 at *
 have e5:=rSq hw h4 r4.2
 have h5:SI (sqS w r4.1 r4.2).1:=SI_st (SI_sqrt h4.ok hw.2) r4.2
 generalize sqS w r4.1 r4.2=r5 at *
 have e6:=rAddS hw h1 h5 r5.2
 have h6:=SI_aS hw.2 h1 h5 r5.2
 generalize aS w r1.1 r5.1 r5.2=r6 at *
 have e7:=rDivS hw hc h6 r6.2
 generalize dS w c.1 r6.1 r6.2=r7 at *
 rw [r10_Atan_l7,if_pos hi]
 refine Eq.trans (congrArg (fun o=>Option.bind o _) e1) ?_
 simp only [obn]
 refine Eq.trans (congrArg (fun o=>Option.bind o _) e2) ?_
 simp only [obn]
 refine Eq.trans (congrArg (fun o=>Option.bind o _) e3) ?_
 simp only [obn]
 refine Eq.trans (congrArg (fun o=>Option.bind o _) e4) ?_
 simp only [obn]
 refine Eq.trans (congrArg (fun o=>Option.bind o _) e5) ?_
 simp only [obn]
 refine Eq.trans (congrArg (fun o=>Option.bind o _) e6) ?_
 simp only [obn]
 refine Eq.trans (congrArg (fun o=>Option.bind o _) e7) ?_
 rfl
theorem ratan_j3 {x:AD} {p w:Nat} (hp:2≤p∧p≤400) (hw:2≤w∧w≤400) (b:Bool) {c:I × Int} (hc:SI c.1):r10_Atan_j3 ((w:Int),0) x (p:Int) b c.2 (iv c.1).Lo.M.Neg (iv c.1).Lo.M.Mag (iv c.1).Lo.E (iv c.1).Hi.M.Neg (iv c.1).Hi.M.Mag (iv c.1).Hi.E=some (iv (teS p x.M.Neg (tqS w b (thS w (thS w c)))).1,(teS p x.M.Neg (tqS w b (thS w (thS w c)))).2):=by
 unfold r10_Atan_j3
 obtain ⟨f,hf⟩:=fuel_succ
 have h1:=SI_thS hw.2 c
 have h2:=SI_thS hw.2 (thS w c)
 rw [hf,ratan_step hw b hc _ (by omega),show IntKind.i64.wrap (0+1)=1 by decide]
 generalize thS w c=c1 at *
 rw [ratan_step hw b h1 _ (by omega),show IntKind.i64.wrap (1+1)=2 by decide]
 generalize thS w c1=c2 at *
 rw [r10_Atan_l7,if_neg (by omega)]
 exact ratan_j4 hp hw b h2
theorem ratan_j2 {d:D} (hd:WD d) {q:Nat} (hq:2≤q∧q≤336) (hb:blen d.m.natAbs≤400):r10_Atan_j2 (((q+32:Nat):Int),0) (dy d) (q:Int) (dy (absD d)).M.Neg (dy (absD d)).M.Mag (dy (absD d)).E=some (iv (ttS d q).1,(ttS d q).2):=by
 have hw:2≤q+32∧q+32≤400:=by omega
 have ha:=WD_abs hd
 have s1:=SI_pS ha (show blen (absD d).m.natAbs≤1000 from Nat.le_trans hb (by omega)) 0
 have e1:=rPS ha 0 ((q+32:Nat):Int)
 unfold r10_Atan_j2
 rw [show (⟨⟨(dy (absD d)).M.Neg,(dy (absD d)).M.Mag⟩,(dy (absD d)).E⟩:AD)=dy (absD d) from rfl]
 unfold ttS txS
 have hc:=rCmp5_eq ha (WD_from (n:=1) (by omega))
 have hn:(dy d).M.Neg=decide (d.m<0):=rfl
 have k1:=fun b {c:I × Int} (hc:SI c.1)=>ratan_j3 (x:=dy d) (p:=q) (by omega) hw b hc
 rw [hn] at k1
 generalize cmpD (absD d) (fromD 1)=z at *
 generalize pS (absD d) 0=x at *
 refine Eq.trans (congrArg (fun o=>Option.bind o _) e1) ?_
 simp only [obn]
 rw [rFrom5_eq (by omega)]
 simp only [obn]
 refine Eq.trans (congrArg (fun o=>Option.bind o _) hc) ?_
 simp only [obn]
 by_cases hz:z>0
 ·rw [if_pos hz,if_pos hz,decide_eq_true hz]
  have h2:=SI_iS (n:=1) (by omega) x.2
  have e2:=rIntS (n:=1) (by omega) x.2 ((q+32:Nat):Int)
  unfold tdS
  simp only
  generalize iS 1 x.2=i at *
  have e3:=rDivS hw h2 s1 i.2
  have h3:=SI_dS hw.2 i.1 s1 i.2
  generalize dS (q+32) i.1 x.1 i.2=r at *
  refine Eq.trans (congrArg (fun o=>Option.bind o _) e2) ?_
  simp only [obn]
  refine Eq.trans (congrArg (fun o=>Option.bind o _) e3) ?_
  simp only [obn]
  exact k1 true h3
 ·rw [if_neg hz,if_neg hz,decide_eq_false hz]
  exact k1 false s1
theorem neg_abs {d:D} (h:d.m<0):negD d=absD d:=by
 unfold negD absD
 rw [show -d.m=(d.m.natAbs:Int) by omega]
theorem pos_abs {d:D} (h:¬d.m<0):d=absD d:=by
 unfold absD
 rw [show (d.m.natAbs:Int)=d.m by omega]
theorem rAtan10_eq {d:D} (hd:WD d) (p:Int):r10_Atan (dy d) p=some (iv (tanR d p).1,(tanR d p).2):=by
 unfold r10_Atan tanR
 rw [rFits9_eq hd.1 hd.sz]
 simp only [obn]
 cases hf:fitB d p with
 | false=>rw [if_pos (by simp),if_neg (by simp),zI_eta]
 | true=>
  obtain ⟨⟨q,rfl,hq⟩,hb⟩:=fitB_p hf
  have hw:2≤q+32∧q+32≤400:=by omega
  rw [if_neg (by simp),if_pos rfl,Int.toNat_natCast,w64 (x:=(q:Int)+32) (by omega) (by omega),show (q:Int)+32=((q+32:Nat):Int) by omega,rNew6_eq hw]
  simp only [obn]
  have k:=ratan_j2 hd hq hb
  by_cases h0:d.m<0
  ·rw [if_pos (show (dy d).M.Neg=true from decide_eq_true h0),rNeg5_eq hd,neg_abs h0]
   simp only [obn]
   exact k
  ·rw [if_neg (show ¬(dy d).M.Neg=true by rw [show (dy d).M.Neg=decide (d.m<0) from rfl,decide_eq_false h0]; simp)]
   rw [← pos_abs h0] at k
   exact k
theorem tAtan_bad {x:AD} (hr:dyad_Right x=some false) (p:Int):trig_Atan x p=some (iv zI,1):=by
 unfold trig_Atan
 rw [tfits_bad hr]
 simp only [obn]
 rw [if_pos (by simp),zI_eta]
theorem rAtan10_bad {x:AD} (hr:r05_Right x=some false) (p:Int):r10_Atan x p=some (iv zI,1):=by
 unfold r10_Atan
 rw [rFits9_bad hr]
 simp only [obn]
 rw [if_pos (by simp),zI_eta]
theorem atan_true {x:AD} {p:Int} {r:I × Int} (hr:SI r.1) (e1:trig_Atan x p=some (iv r.1,r.2)) (e2:r10_Atan x p=some (iv r.1,r.2)) (a0:AD) (hc:l10_cut a0 14=some x) (a1:Int) (hp:mn a1 100=p):l10_TrigAtan a0 a1=some true:=by
 unfold l10_TrigAtan l10_TrigAtan_j1
 rw [examples10]
 simp only [obn]
 rw [if_neg (by simp),hc,hp]
 simp only [obn]
 rw [e1]
 simp only [obn]
 rw [e2]
 simp only [obn]
 refine Eq.trans (congrArg (fun o=>Option.bind o _) (same10_eq hr.ok)) ?_
 simp only [obn]
 simp
theorem TrigAtan_true (a0:AD) (g0:gAD a0) (a1:Int) (g1:(Lit.int .i64 a1).wf=true):l10_TrigAtan a0 a1=some true:=by
 obtain ⟨h1,h2⟩:=cut_dig g0 14 (by omega)
 rcases right_one' (x:=⟨⟨a0.M.Neg,a0.M.Mag.take (min a0.M.Mag.length 14)⟩,a0.E⟩) h1 h2 with ⟨d,hd,hb,e⟩ | ⟨e1,e2⟩
 ·have hc:=cut10_eq g0
  rw [e] at hc
  exact atan_true SI_tanR (Atan_eq hd _) (rAtan10_eq hd _) a0 hc a1 rfl
 ·exact atan_true (r:=(zI,1)) SI_z (tAtan_bad e1 _) (rAtan10_bad e2 _) a0 (cut10_eq g0) a1 rfl
end Go.Proofs.YtjfcghliglfapabGreat.Gen
