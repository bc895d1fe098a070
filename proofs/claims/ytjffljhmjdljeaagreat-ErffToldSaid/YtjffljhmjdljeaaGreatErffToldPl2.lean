/- Plain theory of the numbers that the statement speaks of: printed from the proofs' own texts, as far as this statement needs it. -/
import Derived.Test.YtjffljhmjdljeaaGreatErffToldPl1
set_option linter.unusedVariables false
set_option linter.unusedSimpArgs false
namespace Go.Proofs.YtjffljhmjdljeaaGreat.Gen
open Go Go.Abs Go.Plain
theorem min4_blen {a b c d:D} {k:Nat} (ha:blen a.m.natAbs≤k) (hb:blen b.m.natAbs≤k) (hc:blen c.m.natAbs≤k) (hd:blen d.m.natAbs≤k):blen (min4 a b c d).m.natAbs≤k∧blen (max4 a b c d).m.natAbs≤k:=by
 have m:∀ x y:D,blen x.m.natAbs≤k→blen y.m.natAbs≤k→blen (minD x y).m.natAbs≤k:=by
  intro x y hx hy; unfold minD; split<;>assumption
 have M:∀ x y:D,blen x.m.natAbs≤k→blen y.m.natAbs≤k→blen (maxD x y).m.natAbs≤k:=by
  intro x y hx hy; unfold maxD; split<;>assumption
 exact ⟨m _ _ (m _ _ (m _ _ ha hb) hc) hd,M _ _ (M _ _ (M _ _ ha hb) hc) hd⟩
theorem SI_div {a b:I} (hb:okI b) {p:Nat} (hp:p≤400):SI (divI p a b).1:=by
 unfold divI
 by_cases hz:hasI b zD=true
 ·rw [if_pos hz]; exact SI_z
 rw [if_neg hz]
 have hz':hasI b zD=false:=by simpa using hz
 have hs:=has_zero hz'
 have hble:=hb.2.2
 have nl:val b.lo≠0:=by grind
 unfold four4
 by_cases h1:(divD a.lo b.lo p false).2=0
 ·rw [bindE_ok h1]
  by_cases h2:(divD a.lo b.hi p false).2=0
  ·rw [bindE_ok h2]
   by_cases h3:(divD a.hi b.lo p false).2=0
   ·rw [bindE_ok h3]
    by_cases h4:(divD a.hi b.hi p false).2=0
    ·rw [bindE_ok h4]
     simp only
     by_cases k1:(divD a.lo b.lo p true).2=0
     ·rw [bindE_ok k1]
      by_cases k2:(divD a.lo b.hi p true).2=0
      ·rw [bindE_ok k2]
       by_cases k3:(divD a.hi b.lo p true).2=0
       ·rw [bindE_ok k3]
        by_cases k4:(divD a.hi b.hi p true).2=0
        ·rw [bindE_ok k4]
         have m1:=min4_le (divD a.lo b.lo p false).1 (divD a.lo b.hi p false).1 (divD a.hi b.lo p false).1 (divD a.hi b.hi p false).1
         have m2:=max4_ge (divD a.lo b.lo p true).1 (divD a.lo b.hi p true).1 (divD a.hi b.lo p true).1 (divD a.hi b.hi p true).1
         have d1:=(div_dir nl false h1).1 rfl
         have d2:=(div_dir nl true k1).2 rfl
         have b1:=(min4_blen (div_blen a.lo b.lo p false) (div_blen a.lo b.hi p false) (div_blen a.hi b.lo p false) (div_blen a.hi b.hi p false)).1
         have b2:=(min4_blen (div_blen a.lo b.lo p true) (div_blen a.lo b.hi p true) (div_blen a.hi b.lo p true) (div_blen a.hi b.hi p true)).2
         have w1:WD (min4 (divD a.lo b.lo p false).1 (divD a.lo b.hi p false).1 (divD a.hi b.lo p false).1 (divD a.hi b.hi p false).1):=minD_WD (minD_WD (minD_WD WD_div WD_div) WD_div) WD_div
         have w2:WD (max4 (divD a.lo b.lo p true).1 (divD a.lo b.hi p true).1 (divD a.hi b.lo p true).1 (divD a.hi b.hi p true).1):=maxD_WD (maxD_WD (maxD_WD WD_div WD_div) WD_div) WD_div
         generalize min4 (divD a.lo b.lo p false).1 (divD a.lo b.hi p false).1 (divD a.hi b.lo p false).1 (divD a.hi b.hi p false).1=m at *
         generalize max4 (divD a.lo b.lo p true).1 (divD a.lo b.hi p true).1 (divD a.hi b.lo p true).1 (divD a.hi b.hi p true).1=M at *
         exact ⟨⟨w1,w2,by show val m≤val M; grind⟩,by show blen m.m.natAbs≤1000; omega,by show blen M.m.natAbs≤1000; omega⟩
        ·rw [bindE_no k4]; exact SI_z
       ·rw [bindE_no k3]; exact SI_z
      ·rw [bindE_no k2]; exact SI_z
     ·rw [bindE_no k1]; exact SI_z
    ·rw [bindE_no h4]; exact SI_z
   ·rw [bindE_no h3]; exact SI_z
  ·rw [bindE_no h2]; exact SI_z
 ·rw [bindE_no h1]; exact SI_z
theorem SI_st {r:I × Int} (h:SI r.1) (e:Int):SI (st e zI r).1:=by
 unfold st; split
 ·exact h
 ·exact SI_z
def mS (p:Nat) (a b:I) (e:Int):I × Int:=st e zI (mulI p a b)
def dS (p:Nat) (a b:I) (e:Int):I × Int:=st e zI (divI p a b)
def aS (p:Nat) (a b:I) (e:Int):I × Int:=st e zI (addI p a b)
def nS (a:I) (e:Int):I × Int:=st e zI (negI a,0)
def iS (n:Int) (e:Int):I × Int:=st e zI (intI n,0)
def wS (p:Nat) (a:I) (d:D) (e:Int):I × Int:=st e zI (wideI p a d)
theorem SI_mS {p:Nat} (hp:p≤400) (a b:I) (e:Int):SI (mS p a b e).1:=SI_st (SI_mul hp) e
theorem SI_dS {p:Nat} (hp:p≤400) (a:I) {b:I} (hb:SI b) (e:Int):SI (dS p a b e).1:=SI_st (SI_div hb.ok hp) e
theorem SI_aS {p:Nat} (hp:p≤400) {a b:I} (ha:SI a) (hb:SI b) (e:Int):SI (aS p a b e).1:=SI_st (SI_add ha hb hp) e
theorem SI_nS {a:I} (ha:SI a) (e:Int):SI (nS a e).1:=SI_st (r:=(negI a,0)) (SI_neg ha) e
theorem SI_iS {n:Int} (hn : -1000000≤n∧n≤1000000) (e:Int):SI (iS n e).1:=SI_st (r:=(intI n,0)) (SI_int (by omega)) e
theorem pMul {p:Nat} (hp:2≤p∧p≤400) {a b:I} (ha:SI a) (hb:SI b) (e:Int):cv_Mul (iv a) (iv b) e (p:Int)=some (iv (mS p a b e).1,(mS p a b e).2):=ivMul_eq ha.ok hb.ok hp e
theorem pDiv {p:Nat} (hp:2≤p∧p≤400) {a b:I} (ha:SI a) (hb:SI b) (e:Int):cv_Div (iv a) (iv b) e (p:Int)=some (iv (dS p a b e).1,(dS p a b e).2):=ivDiv_eq ha.ok hb.ok hp e
theorem pAdd {p:Nat} (hp:2≤p∧p≤400) {a b:I} (ha:SI a) (hb:SI b) (e:Int):cv_Add (iv a) (iv b) e (p:Int)=some (iv (aS p a b e).1,(aS p a b e).2):=ivAdd_eq ha.ok hb.ok hp e
theorem pNeg {a:I} (ha:SI a) (e p:Int):cv_Neg (iv a) e p=some (iv (nS a e).1,(nS a e).2):=ivNeg_eq ha.ok e p
theorem pInt {n:Int} (hn : -1000000≤n∧n≤1000000) (e p:Int):cv_Int n e p=some (iv (iS n e).1,(iS n e).2):=ivInt_eq (by omega) e p
theorem rMulS {p:Nat} (hp:2≤p∧p≤400) {a b:I} (ha:SI a) (hb:SI b) (e:Int):r06_CMul (iv a) (iv b) (p:Int) e=some (iv (mS p a b e).1,(mS p a b e).2):=rivMul_eq ha.ok hb.ok hp e
theorem rDivS {p:Nat} (hp:2≤p∧p≤400) {a b:I} (ha:SI a) (hb:SI b) (e:Int):r06_CDiv (iv a) (iv b) (p:Int) e=some (iv (dS p a b e).1,(dS p a b e).2):=rivDiv_eq ha.ok hb.ok ha.l hb.l hp e
theorem rAddS {p:Nat} (hp:2≤p∧p≤400) {a b:I} (ha:SI a) (hb:SI b) (e:Int):r06_CAdd (iv a) (iv b) (p:Int) e=some (iv (aS p a b e).1,(aS p a b e).2):=rivAdd_eq ha.ok hb.ok hp e
theorem rNegS {a:I} (ha:SI a) (e p:Int):r06_CNeg (iv a) p e=some (iv (nS a e).1,(nS a e).2):=rivNeg_eq ha.ok e p
theorem rIntS {n:Int} (hn : -1000000≤n∧n≤1000000) (e p:Int):r06_CInt n p e=some (iv (iS n e).1,(iS n e).2):=rivInt_eq (by omega) e p
def serL (p:Nat) (next:Nat→I→Int→I × I × Int):Nat→Nat→I→I→Int→I × Int
 | 0,_,s,_,e=>(s,e)
 | k+1,i,s,t,e=>serL p next k (i+1) (aS p s (next (i+1) t e).2.1 (next (i+1) t e).2.2).1 (next (i+1) t e).1 (aS p s (next (i+1) t e).2.1 (next (i+1) t e).2.2).2
def finS (p:Nat) (r:I × Int):I × Int:=wS p r.1 ⟨1,-(p:Int)⟩ r.2
def nExp (p:Nat) (y:I) (i:Nat) (t:I) (e:Int):I × I × Int:=((dS p (mS p t y e).1 (iS i (mS p t y e).2).1 (iS i (mS p t y e).2).2).1,(dS p (mS p t y e).1 (iS i (mS p t y e).2).1 (iS i (mS p t y e).2).2).1,(dS p (mS p t y e).1 (iS i (mS p t y e).2).1 (iS i (mS p t y e).2).2).2)
def oddS (p:Nat) (i:Nat) (g:I × Int):I × I × Int:=(g.1,(dS p g.1 (iS ((2*i+1:Nat):Int) g.2).1 (iS ((2*i+1:Nat):Int) g.2).2).1,(dS p g.1 (iS ((2*i+1:Nat):Int) g.2).1 (iS ((2*i+1:Nat):Int) g.2).2).2)
def nAtan (p:Nat) (q:I) (i:Nat) (t:I) (e:Int):I × I × Int:=oddS p i (nS (mS p t q e).1 (mS p t q e).2)
theorem sq_small {i:Nat} (h:i≤300):2*i*(2*i+1)≤1000000∧(2*i-1)*2*i≤1000000:=by
 have h1:2*i*(2*i+1)≤600*601:=Nat.mul_le_mul (by omega) (by omega)
 have h2:(2*i-1)*2*i≤1200*300:=Nat.mul_le_mul (by omega) (by omega)
 omega
theorem nExp_SI {p:Nat} (hp:p≤400) (y:I) {i:Nat} (hi:i≤300) (t:I) (e:Int):SI (nExp p y i t e).1∧SI (nExp p y i t e).2.1:=⟨SI_dS hp _ (SI_iS (by omega) _) _,SI_dS hp _ (SI_iS (by omega) _) _⟩
theorem nAtan_SI {p:Nat} (hp:p≤400) (y:I) {i:Nat} (hi:i≤300) (t:I) (e:Int):SI (nAtan p y i t e).1∧SI (nAtan p y i t e).2.1:=⟨SI_nS (SI_mS hp _ _ _) _,SI_dS hp _ (SI_iS (by omega) _) _⟩
theorem ivEta (a:I):(⟨⟨⟨(iv a).Lo.M.Neg,(iv a).Lo.M.Mag⟩,(iv a).Lo.E⟩,⟨⟨(iv a).Hi.M.Neg,(iv a).Hi.M.Mag⟩,(iv a).Hi.E⟩⟩:AI)=iv a:=rfl
theorem WD_half {k:Int} (h : -60000≤k∧k≤60000):WD ⟨1,k⟩:=⟨Or.inr ⟨rfl,by simp only; omega,by simp only; omega⟩,by show blen 1≤262144; rw [show blen 1=1 by decide]; omega⟩
theorem val_half (k:Int):val ⟨1,k⟩=p2 k:=by unfold val; simp
theorem SI_fin {p:Nat} (hp:p≤400) {r:I × Int} (h:SI r.1):SI (finS p r).1:=SI_st (SI_wide h (by rw [val_half]; exact Rat.le_of_lt (p2_pos _)) hp) _
theorem pWide {p:Nat} (hp:2≤p∧p≤400) {a:I} (ha:SI a) (e:Int):cv_Wide (iv a) (dy ⟨1,-(p:Int)⟩) e (p:Int)=some (iv (finS p (a,e)).1,(finS p (a,e)).2):=
 ivWide_eq ha.ok (WD_half (by omega)) (by rw [val_half]; exact Rat.le_of_lt (p2_pos _)) hp e
theorem rWideS {p:Nat} (hp:2≤p∧p≤400) {a:I} (ha:SI a) (e:Int):r06_CWide (iv a) (dy ⟨1,-(p:Int)⟩) (p:Int) e=some (iv (finS p (a,e)).1,(finS p (a,e)).2):=
 rivWide_eq ha.ok (WD_half (by omega)) (by rw [val_half]; exact Rat.le_of_lt (p2_pos _)) hp e
theorem negHalf {p:Nat} (hp:p≤400):dyad_Half (IntKind.i64.wrap (0-(p:Int)))=some (dy ⟨1,-(p:Int)⟩):=by
 rw [w64 (by omega) (by omega),show 0-(p:Int) = -(p:Int) by omega,dyad_Half_eq (by omega)]
theorem rnegHalf {p:Nat} (hp:p≤400):r05_Half (IntKind.i64.wrap (0-(p:Int)))=some (dy ⟨1,-(p:Int)⟩):=by
 rw [w64 (by omega) (by omega),show 0-(p:Int) = -(p:Int) by omega,rHalf_eq (by omega)]
theorem rends_eq {p:Nat} (hp:2≤p∧p≤400) {a:I} (ha:SI a) (e:Int):r07_ends (iv a) (p:Int) e=some (iv (finS p (a,e)).1,(finS p (a,e)).2):=by
 unfold r07_ends
 rw [rnegHalf hp.2]
 simp only [obn]
 rw [rWideS hp ha]
 rfl
theorem terms_eq {p:Nat} (hp:p≤400):small_Terms (p:Int)=some ((p / 2+4:Nat):Int):=by
 unfold small_Terms
 have h1:mx (p:Int) 0=(p:Int):=by unfold mx; split<;>omega
 have h2:mn (p:Int) 400=(p:Int):=by unfold mn; split<;>omega
 rw [h1,h2,show (2:Int)=((2:Nat):Int) by rfl,tdivn,w64n (by omega),w64 (by omega) (by omega)]
 rfl
theorem rterms_eq {p:Nat} (hp:p≤400):r07_Terms (p:Int)=some ((p / 2+4:Nat):Int):=by
 unfold r07_Terms
 have h1:mx (p:Int) 0=(p:Int):=by unfold mx; split<;>omega
 have h2:mn (p:Int) 400=(p:Int):=by unfold mn; split<;>omega
 rw [h1,h2,show (2:Int)=((2:Nat):Int) by rfl,tdivn,w64n (by omega),w64 (by omega) (by omega)]
 rfl
theorem wodd {i:Nat} (h:i≤300):IntKind.i64.wrap (IntKind.i64.wrap (2*(i:Int))+1)=((2*i+1:Nat):Int):=by
 rw [w64 (x:=2*(i:Int)) (by omega) (by omega),w64 (by omega) (by omega)]; omega
theorem nExp_eq {p:Nat} (hp:2≤p∧p≤400) {q t:I} (hq:SI q) (ht:SI t) {i:Nat} (hi:i≤300) (h0:1≤i) (e:Int):small_plain_1_c88c (i:Int) (iv t) e (p:Int) (iv q).Lo.M.Neg (iv q).Lo.M.Mag (iv q).Lo.E (iv q).Hi.M.Neg (iv q).Hi.M.Mag (iv q).Hi.E=some (iv (nExp p q i t e).1,iv (nExp p q i t e).2.1,(nExp p q i t e).2.2):=by
 unfold small_plain_1_c88c small_Exp_1
 rw [ivEta,pMul hp ht hq]
 simp only [obn]
 rw [pInt (by omega)]
 simp only [obn]
 rw [pDiv hp (SI_mS hp.2 _ _ _) (SI_iS (by omega) _)]
 rfl
theorem nAtan_eq {p:Nat} (hp:2≤p∧p≤400) {q t:I} (hq:SI q) (ht:SI t) {i:Nat} (hi:i≤300) (h0:1≤i) (e:Int):small_odd_1_df97 (i:Int) (iv t) e (p:Int) (iv q).Lo.M.Neg (iv q).Lo.M.Mag (iv q).Lo.E (iv q).Hi.M.Neg (iv q).Hi.M.Mag (iv q).Hi.E=some (iv (nAtan p q i t e).1,iv (nAtan p q i t e).2.1,(nAtan p q i t e).2.2):=by
 unfold small_odd_1_df97
 rw [ivEta,wodd hi,pMul hp ht hq]
 simp only [obn]
 rw [pNeg (SI_mS hp.2 _ _ _)]
 simp only [obn]
 rw [pInt (by omega)]
 simp only [obn]
 rw [pDiv hp (SI_nS (SI_mS hp.2 _ _ _) _) (SI_iS (by omega) _)]
 rfl
theorem nExp_loop {p:Nat} (hp:2≤p∧p≤400) {q:I} (hq:SI q):∀ (r i:Nat) (s t:I) (e:Int),i+r=p / 2+4→SI s→SI t→∀ f,r<f→small_series_361b_l2 ((p / 2+4:Nat):Int) (p:Int) (iv q).Lo.M.Neg (iv q).Lo.M.Mag (iv q).Lo.E (iv q).Hi.M.Neg (iv q).Hi.M.Mag (iv q).Hi.E f (i:Int) e (iv s).Lo.M.Neg (iv s).Lo.M.Mag (iv s).Lo.E (iv s).Hi.M.Neg (iv s).Hi.M.Mag (iv s).Hi.E (iv t).Lo.M.Neg (iv t).Lo.M.Mag (iv t).Lo.E (iv t).Hi.M.Neg (iv t).Hi.M.Mag (iv t).Hi.E=some (iv (finS p (serL p (nExp p q) r i s t e)).1,(finS p (serL p (nExp p q) r i s t e)).2):=by
 intro r
 induction r with
 | zero=>
  intro i s t e hi hs ht f hf
  obtain ⟨f,rfl⟩:∃ k,f=k+1:=⟨f-1,by omega⟩
  rw [small_series_361b_l2,if_neg (by omega)]
  unfold small_series_361b_j1 cv_Prec
  simp only [obn]
  rw [negHalf hp.2]
  simp only [obn]
  rw [ivEta,pWide hp hs]
  rfl
 | succ r ih=>
  intro i s t e hi hs ht f hf
  obtain ⟨f,rfl⟩:∃ k,f=k+1:=⟨f-1,by omega⟩
  have hn:=nExp_SI hp.2 q (i:=i+1) (by omega) t e
  rw [small_series_361b_l2,if_pos (by omega),show ((i:Int)+1)=((i+1:Nat):Int) by omega,w64n (by omega),ivEta,ivEta,nExp_eq hp hq ht (by omega) (by omega)]
  simp only [obn]
  rw [pAdd hp hs hn.2]
  simp only [obn]
  exact ih (i+1) _ _ _ (by omega) (SI_aS hp.2 hs hn.2 _) hn.1 f (by omega)
theorem nAtan_loop {p:Nat} (hp:2≤p∧p≤400) {q:I} (hq:SI q):∀ (r i:Nat) (s t:I) (e:Int),i+r=p / 2+4→SI s→SI t→∀ f,r<f→small_series_5374_l2 ((p / 2+4:Nat):Int) (p:Int) (iv q).Lo.M.Neg (iv q).Lo.M.Mag (iv q).Lo.E (iv q).Hi.M.Neg (iv q).Hi.M.Mag (iv q).Hi.E f (i:Int) e (iv s).Lo.M.Neg (iv s).Lo.M.Mag (iv s).Lo.E (iv s).Hi.M.Neg (iv s).Hi.M.Mag (iv s).Hi.E (iv t).Lo.M.Neg (iv t).Lo.M.Mag (iv t).Lo.E (iv t).Hi.M.Neg (iv t).Hi.M.Mag (iv t).Hi.E=some (iv (finS p (serL p (nAtan p q) r i s t e)).1,(finS p (serL p (nAtan p q) r i s t e)).2):=by
 intro r
 induction r with
 | zero=>
  intro i s t e hi hs ht f hf
  obtain ⟨f,rfl⟩:∃ k,f=k+1:=⟨f-1,by omega⟩
  rw [small_series_5374_l2,if_neg (by omega)]
  unfold small_series_5374_j1 cv_Prec
  simp only [obn]
  rw [negHalf hp.2]
  simp only [obn]
  rw [ivEta,pWide hp hs]
  rfl
 | succ r ih=>
  intro i s t e hi hs ht f hf
  obtain ⟨f,rfl⟩:∃ k,f=k+1:=⟨f-1,by omega⟩
  have hn:=nAtan_SI hp.2 q (i:=i+1) (by omega) t e
  rw [small_series_5374_l2,if_pos (by omega),show ((i:Int)+1)=((i+1:Nat):Int) by omega,w64n (by omega),ivEta,ivEta,nAtan_eq hp hq ht (by omega) (by omega)]
  simp only [obn]
  rw [pAdd hp hs hn.2]
  simp only [obn]
  exact ih (i+1) _ _ _ (by omega) (SI_aS hp.2 hs hn.2 _) hn.1 f (by omega)
theorem rnExp_loop {p:Nat} (hp:2≤p∧p≤400) {q:I} (hq:SI q):∀ (r i:Nat) (s t:I) (e:Int),i+r=p / 2+4→SI s→SI t→∀ f,r<f→r07_Exp_l2 (p:Int) (iv q) f ((i+1:Nat):Int) e (iv s).Lo.M.Neg (iv s).Lo.M.Mag (iv s).Lo.E (iv s).Hi.M.Neg (iv s).Hi.M.Mag (iv s).Hi.E (iv t).Lo.M.Neg (iv t).Lo.M.Mag (iv t).Lo.E (iv t).Hi.M.Neg (iv t).Hi.M.Mag (iv t).Hi.E=some (iv (finS p (serL p (nExp p q) r i s t e)).1,(finS p (serL p (nExp p q) r i s t e)).2):=by
 intro r
 induction r with
 | zero=>
  intro i s t e hi hs ht f hf
  obtain ⟨f,rfl⟩:∃ k,f=k+1:=⟨f-1,by omega⟩
  rw [r07_Exp_l2,rterms_eq hp.2]
  simp only [obn]
  rw [if_neg (by omega)]
  unfold r07_Exp_j1
  rw [ivEta,rends_eq hp hs]
  rfl
 | succ r ih=>
  intro i s t e hi hs ht f hf
  obtain ⟨f,rfl⟩:∃ k,f=k+1:=⟨f-1,by omega⟩
  have hsq:=sq_small (i:=i+1) (by omega)
  have hn:=nExp_SI hp.2 q (i:=i+1) (by omega) t e
  rw [r07_Exp_l2,rterms_eq hp.2]
  simp only [obn]
  rw [if_pos (by omega)]
  rw [ivEta,rMulS hp ht hq]
  simp only [obn]
  rw [rIntS (by omega)]
  simp only [obn]
  rw [rDivS hp (SI_mS hp.2 _ _ _) (SI_iS (by omega) _)]
  simp only [obn]
  have ha:r06_CAdd (iv s) (iv (nExp p q (i+1) t e).2.1) (p:Int) (nExp p q (i+1) t e).2.2=_:=rAddS hp hs hn.2 _
  refine Eq.trans (congrArg (fun o=>Option.bind o _) ha) ?_
  simp only [obn]
  rw [show (((i+1:Nat):Int)+1)=((i+1+1:Nat):Int) by omega,w64n (by omega)]
  exact ih (i+1) _ _ _ (by omega) (SI_aS hp.2 hs hn.2 _) hn.1 f (by omega)
theorem rnAtan_loop {p:Nat} (hp:2≤p∧p≤400) {q:I} (hq:SI q) (e0:Int):∀ (r i:Nat) (s t:I) (e:Int),i+r=p / 2+4→SI s→SI t→∀ f,r<f→r07_Atan_l2 (p:Int) (iv q,e0) f ((i+1:Nat):Int) e (iv s).Lo.M.Neg (iv s).Lo.M.Mag (iv s).Lo.E (iv s).Hi.M.Neg (iv s).Hi.M.Mag (iv s).Hi.E (iv t).Lo.M.Neg (iv t).Lo.M.Mag (iv t).Lo.E (iv t).Hi.M.Neg (iv t).Hi.M.Mag (iv t).Hi.E=some (iv (finS p (serL p (nAtan p q) r i s t e)).1,(finS p (serL p (nAtan p q) r i s t e)).2):=by
 intro r
 induction r with
 | zero=>
  intro i s t e hi hs ht f hf
  obtain ⟨f,rfl⟩:∃ k,f=k+1:=⟨f-1,by omega⟩
  rw [r07_Atan_l2,rterms_eq hp.2]
  simp only [obn]
  rw [if_neg (by omega)]
  unfold r07_Atan_j1
  rw [ivEta,rends_eq hp hs]
  rfl
 | succ r ih=>
  intro i s t e hi hs ht f hf
  obtain ⟨f,rfl⟩:∃ k,f=k+1:=⟨f-1,by omega⟩
  have hsq:=sq_small (i:=i+1) (by omega)
  have hn:=nAtan_SI hp.2 q (i:=i+1) (by omega) t e
  rw [r07_Atan_l2,rterms_eq hp.2]
  simp only [obn]
  rw [if_pos (by omega)]
  rw [ivEta,wodd (by omega),rMulS hp ht hq]
  simp only [obn]
  rw [rNegS (SI_mS hp.2 _ _ _)]
  simp only [obn]
  rw [rIntS (by omega)]
  simp only [obn]
  rw [rDivS hp (SI_nS (SI_mS hp.2 _ _ _) _) (SI_iS (by omega) _)]
  simp only [obn]
  have ha:r06_CAdd (iv s) (iv (nAtan p q (i+1) t e).2.1) (p:Int) (nAtan p q (i+1) t e).2.2=_:=rAddS hp hs hn.2 _
  refine Eq.trans (congrArg (fun o=>Option.bind o _) ha) ?_
  simp only [obn]
  rw [show (((i+1:Nat):Int)+1)=((i+1+1:Nat):Int) by omega,w64n (by omega)]
  exact ih (i+1) _ _ _ (by omega) (SI_aS hp.2 hs hn.2 _) hn.1 f (by omega)
def box (k:Int):I:=⟨negD ⟨1,k⟩,⟨1,k⟩⟩
theorem SI_box {k:Int} (h : -60000≤k∧k≤60000):okI (box k):=by
 refine ⟨(WD_half h).neg,WD_half h,?_⟩
 show val (negD ⟨1,k⟩)≤val ⟨1,k⟩
 rw [val_neg,val_half]
 have:=p2_pos k
 grind
theorem hasI_int00:hasI (intI 0) zD=true:=by decide +kernel
theorem small_in_eq {p:Nat} (hp:2≤p∧p≤400) {y:I} (hy:SI y) {k:Int} (hk : -60000≤k∧k≤60000) (e:Int):small_in (iv y) k e (p:Int)=some (if e=0 then (if inI y (box k)=true then (true,0) else (false,3)) else (false,e)):=by
 unfold small_in iv_trouble_Err
 rw [dyad_Half_eq hk]
 simp only [obn]
 rw [pNeg hy]
 simp only [obn]
 by_cases h:e=0
 ·subst h
  have hn:(nS y 0).2=0:=rfl
  rw [hn,if_neg (by simp),if_pos rfl,dyad_Neg_eq (WD_half hk)]
  simp only [obn]
  have hb:iv_In (iv y) (iv (box k))=some (inI y (box k)):=ivIn_eq hy.ok (SI_box hk)
  refine Eq.trans (congrArg (fun o=>Option.bind o _) hb) ?_
  simp only [obn]
  by_cases h1:inI y (box k)=true
  ·rw [if_pos h1,if_pos h1]
  ·rw [if_neg h1,if_neg h1,pInt (by omega)]
   simp only [obn]
   have i1:(iS 1 0).2=0:=rfl
   rw [i1,pInt (by omega)]
   simp only [obn]
   rw [pDiv hp (SI_iS (by omega) _) (SI_iS (by omega) _)]
   simp only [obn]
   have hd:dS p (iS 1 0).1 (iS 0 0).1 (iS 0 0).2=(zI,3):=by
    show st 0 zI (divI p (intI 1) (intI 0))=_
    rw [st_zero,divI_zero hasI_int00]
   rw [hd]
 ·have hn:(nS y e).2=e:=by unfold nS; rw [st_ne h]
  rw [hn,if_pos h,if_neg h]
theorem rfits_eq {p:Nat} {y:I} (hy:SI y) {k:Int} (hk : -60000≤k∧k≤60000) (e:Int):r07_fits (iv y) k (p:Int) e=some (if e=0 then (if inI y (box k)=true then (true,0) else (false,3)) else (false,e)):=by
 unfold r07_fits
 by_cases h:e=0
 ·subst h
  rw [if_neg (by simp),if_pos rfl,rRight6_eq hy.ok]
  simp only [obn]
  rw [if_neg (by simp),rHalf_eq hk]
  simp only [obn]
  rw [rNeg5_eq (WD_half hk)]
  simp only [obn]
  have hb:r06_In (iv y) (iv (box k))=some (inI y (box k)):=rIn6_eq hy.ok (SI_box hk)
  refine Eq.trans (congrArg (fun o=>Option.bind o _) hb) ?_
  simp only [obn]
  by_cases h1:inI y (box k)=true
  ·rw [if_neg (by simp [h1]),if_pos h1]
  ·rw [if_pos h1,if_neg h1]
 ·rw [if_pos h,if_neg h]
theorem SI_ser {p:Nat} (hp:p≤400) (next:Nat→I→Int→I × I × Int) (hn:∀ (i:Nat) (t:I) (e:Int),i≤300→SI (next i t e).1∧SI (next i t e).2.1):∀ (k i:Nat) (s t:I) (e:Int),i+k≤300→SI s→SI (serL p next k i s t e).1:=by
 intro k
 induction k with
 | zero=>intro i s t e _ hs; exact hs
 | succ k ih=>
  intro i s t e hi hs
  exact ih (i+1) _ _ _ (by omega) (SI_aS hp hs (hn (i+1) t e (by omega)).2 _)
def expI (p:Nat) (y:I):I × Int:=if inI y (box (-3))=true then finS p (serL p (nExp p y) (p / 2+4) 0 (intI 1) (intI 1) 0) else (zI,3)
def atanI (p:Nat) (y:I):I × Int:=if inI y (box (-1))=true then finS p (serL p (nAtan p (mS p y y 0).1) (p / 2+4) 0 y y (mS p y y 0).2) else (zI,3)
theorem iS_e (n e:Int):(iS n e).2=e:=by unfold iS st; split<;>simp [*]
theorem iS_zero (n:Int):(iS n 0).1=intI n:=rfl
theorem smallExp_eq {p:Nat} (hp:2≤p∧p≤400) {y:I} (hy:SI y) (e:Int):small_Exp (iv y) e (p:Int)=some (iv (st e zI (expI p y)).1,(st e zI (expI p y)).2):=by
 unfold small_Exp small_plain_1fcd small_series_361b cv_Prec
 rw [small_in_eq hp hy (by omega)]
 simp only [obn]
 by_cases h:e=0
 ·subst h
  rw [if_pos rfl,st_zero]
  unfold expI
  by_cases h1:inI y (box (-3))=true
  ·rw [if_pos h1,if_pos h1,if_neg (by simp)]
   rw [pInt (by omega)]
   simp only [obn]
   rw [iS_zero,iS_e,terms_eq hp.2]
   simp only [obn]
   have hl:=nExp_loop hp hy (p / 2+4) 0 (intI 1) (intI 1) 0 (by omega) (SI_iS (n:=1) (by omega) 0) (SI_iS (n:=1) (by omega) 0) fuel (by unfold fuel; omega)
   refine Eq.trans (congrArg (fun o=>Option.bind o _) (congrArg (fun o=>Option.bind o _) hl)) ?_
   rfl
  ·rw [if_neg h1,if_neg h1,if_pos (by simp),iv_z]
 ·rw [if_neg h,if_pos (by simp),st_ne h,iv_z]
theorem rExp_eq {p:Nat} (hp:2≤p∧p≤400) {y:I} (hy:SI y) (e:Int):r07_Exp (iv y) (p:Int) e=some (iv (st e zI (expI p y)).1,(st e zI (expI p y)).2):=by
 unfold r07_Exp
 rw [rfits_eq hy (by omega)]
 simp only [obn]
 by_cases h:e=0
 ·subst h
  rw [if_pos rfl,st_zero]
  unfold expI
  by_cases h1:inI y (box (-3))=true
  ·rw [if_pos h1,if_pos h1,if_neg (by simp)]
   rw [rIntS (by omega)]
   simp only [obn]
   rw [rIntS (by omega)]
   simp only [obn]
   rw [iS_e,iS_e,iS_zero]
   exact rnExp_loop hp hy (p / 2+4) 0 (intI 1) (intI 1) 0 (by omega) (SI_iS (n:=1) (by omega) 0) (SI_iS (n:=1) (by omega) 0) fuel (by unfold fuel; omega)
  ·rw [if_neg h1,if_neg h1,if_pos (by simp),iv_z]
 ·rw [if_neg h,if_pos (by simp),st_ne h,iv_z]
theorem smallAtan_eq {p:Nat} (hp:2≤p∧p≤400) {y:I} (hy:SI y) (e:Int):small_Atan (iv y) e (p:Int)=some (iv (st e zI (atanI p y)).1,(st e zI (atanI p y)).2):=by
 unfold small_Atan small_odd_8ed8 small_series_5374 cv_Prec
 rw [small_in_eq hp hy (by omega)]
 simp only [obn]
 by_cases h:e=0
 ·subst h
  rw [if_pos rfl,st_zero]
  unfold atanI
  by_cases h1:inI y (box (-1))=true
  ·rw [if_pos h1,if_pos h1,if_neg (by simp)]
   rw [pMul hp hy hy]
   simp only [obn]
   rw [terms_eq hp.2]
   simp only [obn]
   have hl:=nAtan_loop hp (SI_mS hp.2 y y 0) (p / 2+4) 0 y y (mS p y y 0).2 (by omega) hy hy fuel (by unfold fuel; omega)
   refine Eq.trans (congrArg (fun o=>Option.bind o _) (congrArg (fun o=>Option.bind o _) hl)) ?_
   rfl
  ·rw [if_neg h1,if_neg h1,if_pos (by simp),iv_z]
   rfl
 ·rw [if_neg h,if_pos (by simp),st_ne h,iv_z]
  rfl
theorem rAtan_eq {p:Nat} (hp:2≤p∧p≤400) {y:I} (hy:SI y) (e:Int):r07_Atan (iv y) (p:Int) e=some (iv (st e zI (atanI p y)).1,(st e zI (atanI p y)).2):=by
 unfold r07_Atan
 rw [rfits_eq hy (by omega)]
 simp only [obn]
 by_cases h:e=0
 ·subst h
  rw [if_pos rfl,st_zero]
  unfold atanI
  by_cases h1:inI y (box (-1))=true
  ·rw [if_pos h1,if_pos h1,if_neg (by simp)]
   rw [rMulS hp hy hy]
   simp only [obn]
   exact rnAtan_loop hp (SI_mS hp.2 y y 0) _ (p / 2+4) 0 y y (mS p y y 0).2 (by omega) hy hy fuel (by unfold fuel; omega)
  ·rw [if_neg h1,if_neg h1,if_pos (by simp),iv_z]
 ·rw [if_neg h,if_pos (by simp),st_ne h,iv_z]
theorem SI_exp {p:Nat} (hp:p≤400) {y:I} : SI (expI p y).1:=by
 unfold expI; split
 ·exact SI_fin hp (SI_ser hp _ (fun i t e hi=>nExp_SI hp y hi t e) _ _ _ _ _ (by omega) (SI_int (by omega)))
 ·exact SI_z
theorem SI_atan {p:Nat} (hp:p≤400) {y:I} (hy:SI y):SI (atanI p y).1:=by
 unfold atanI; split
 ·exact SI_fin hp (SI_ser hp _ (fun i t e hi=>nAtan_SI hp _ hi t e) _ _ _ _ _ (by omega) hy)
 ·exact SI_z
theorem sqrt_dir {x:D} {p:Nat} (up:Bool) (h:(sqrtD x p up).2=0):0≤val x∧0≤val (sqrtD x p up).1∧(up=false→val (sqrtD x p up).1*val (sqrtD x p up).1≤val x)∧(up=true→val x≤val (sqrtD x p up).1*val (sqrtD x p up).1):=by
 unfold sqrtD at *
 by_cases hneg:x.m<0
 ·rw [if_pos hneg] at h; simp at h
 have hx0:0≤val x:=by have:=mt (val_neg_iff x).1 hneg; grind
 refine ⟨hx0,?_⟩
 rw [if_neg hneg] at h ⊢
 by_cases hxm:x.m=0
 ·rw [if_pos hxm]
  refine ⟨by rw [val_z]; exact Rat.le_refl,fun _=>?_,fun _=>?_⟩<;>rw [val_z,val_zero_m hxm]<;>simp<;>exact Rat.le_refl
 rw [if_neg hxm] at h ⊢
 rw [tell_ok' h]
 have hev:=rootK_even x p
 have hX0:x.m.natAbs≠0:=by omega
 generalize rootK x p=k at *
 generalize hE:(x.e-(k:Int)) / 2=E
 have hE2:x.e=E+E+k:=by omega
 have hvx:((x.m.natAbs*2 ^ k:Nat):Rat)*(p2 E*p2 E)=val x:=by
  rw [val_abs_pos hneg,hE2,p2_split,p2_add,Rat.natCast_mul]; grind
 generalize x.m.natAbs*2 ^ k=N at *
 obtain ⟨s1,s2⟩:=isqrt_spec N
 generalize isqrt N=s at *
 have hpE:=p2_pos E
 have hlo:=cut_lo s E (N-s*s != 0) p
 have hhi:=cut_hi s E (N-s*s != 0) p
 have hnn:=fun away=>cut_nonneg s E (N-s*s != 0) p away
 have hsN:((s:Rat)*p2 E)*((s:Rat)*p2 E)≤val x:=by
  have h1:((s*s:Nat):Rat)≤(N:Rat):=natCast_le s1
  have h2:=Rat.mul_le_mul_of_nonneg_right h1 (Rat.mul_nonneg (Rat.le_of_lt hpE) (Rat.le_of_lt hpE))
  rw [hvx,Rat.natCast_mul] at h2
  grind
 rw [val_cut,sg_pos_cast]
 refine ⟨hnn up,?_,?_⟩
 ·rintro rfl
  have:=sq_mono (hnn false) hlo
  grind
 ·rintro rfl
  have h1:(0:Rat)≤((s+(if (N-s*s != 0) then 1 else 0):Nat):Rat)*p2 E:=Rat.mul_nonneg (natCast_nonneg _) (Rat.le_of_lt hpE)
  have h2:=sq_mono h1 hhi
  refine Rat.le_trans ?_ h2
  have h3:N≤(s+(if (N-s*s != 0) then 1 else 0))*(s+(if (N-s*s != 0) then 1 else 0)):=by
   by_cases h:N-s*s=0
   ·have e:(N-s*s != 0)=false:=by simpa using h
    rw [e]; simp; omega
   ·have e:(N-s*s != 0)=true:=by simpa using h
    rw [e,if_pos rfl]; omega
  have h4:=natCast_le h3
  have h5:=Rat.mul_le_mul_of_nonneg_right h4 (Rat.mul_nonneg (Rat.le_of_lt hpE) (Rat.le_of_lt hpE))
  rw [hvx,Rat.natCast_mul] at h5
  grind
theorem sqrt_blen (x:D) (p:Nat) (up:Bool):blen (sqrtD x p up).1.m.natAbs≤p+1:=by
 unfold sqrtD
 split
 ·show blen (0:Int).natAbs≤_; simp [blen]
 ·split
  ·show blen (0:Int).natAbs≤_; simp [blen]
  ·exact tell_blen (cutD_blen _ _ _ _ _ _)
theorem SI_sqrt {a:I} (ha:okI a) {p:Nat} (hp:p≤400):SI (sqrtI p a).1:=by
 unfold sqrtI
 by_cases h1:(sqrtD a.lo p false).2=0
 ·rw [bindE_ok h1]
  by_cases h2:(sqrtD a.hi p true).2=0
  ·rw [bindE_ok h2]
   obtain ⟨a1,a2,a3,-⟩:=sqrt_dir false h1
   obtain ⟨b1,b2,-,b4⟩:=sqrt_dir true h2
   have a3:=a3 rfl
   have b4:=b4 rfl
   have l1:=sqrt_blen a.lo p false
   have l2:=sqrt_blen a.hi p true
   have hle:=ha.2.2
   exact ⟨⟨WD_sqrt,WD_sqrt,sq_le a2 b2 (by grind)⟩,by show blen (sqrtD a.lo p false).1.m.natAbs≤1000; omega,by show blen (sqrtD a.hi p true).1.m.natAbs≤1000; omega⟩
  ·rw [bindE_no h2]; exact SI_z
 ·rw [bindE_no h1]; exact SI_z
theorem scale_val {x:D} {n:Int} (h:(scaleD x n).2=0):val (scaleD x n).1=val x*p2 n∧blen (scaleD x n).1.m.natAbs≤blen x.m.natAbs:=by
 unfold scaleD at *
 by_cases h0:x.m=0
 ·rw [if_pos h0]; exact ⟨by rw [val_z,val_zero_m h0,Rat.zero_mul],by show blen (0:Int).natAbs≤_; simp [blen]⟩
 ·rw [if_neg h0] at h ⊢
  rw [tell_ok' h]
  exact ⟨val_scale,Nat.le_refl _⟩
theorem SI_scale {a:I} (ha:SI a) (n:Int):SI (scaleI a n).1:=by
 unfold scaleI
 by_cases h1:(scaleD a.lo n).2=0
 ·rw [bindE_ok h1]
  by_cases h2:(scaleD a.hi n).2=0
  ·rw [bindE_ok h2]
   obtain ⟨v1,b1⟩:=scale_val h1
   obtain ⟨v2,b2⟩:=scale_val h2
   have:=ha.lo
   have:=ha.hi
   refine ⟨⟨WD_scale ha.ok.1 n,WD_scale ha.ok.2.1 n,?_⟩,by show blen (scaleD a.lo n).1.m.natAbs≤1000; omega,by show blen (scaleD a.hi n).1.m.natAbs≤1000; omega⟩
   show val (scaleD a.lo n).1≤val (scaleD a.hi n).1
   rw [v1,v2]
   exact Rat.mul_le_mul_of_nonneg_right ha.ok.2.2 (Rat.le_of_lt (p2_pos n))
  ·rw [bindE_no h2]; exact SI_z
 ·rw [bindE_no h1]; exact SI_z
def scS (a:I) (n:Int) (e:Int):I × Int:=st e zI (scaleI a n)
def suS (p:Nat) (a b:I) (e:Int):I × Int:=st e zI (subI p a b)
def sqS (p:Nat) (a:I) (e:Int):I × Int:=st e zI (sqrtI p a)
def atS (p:Nat) (a:I) (e:Int):I × Int:=st e zI (atanI p a)
def recS (p:Nat) (n:Int) (e:Int):I × Int:=dS p (iS 1 e).1 (iS n (iS 1 e).2).1 (iS n (iS 1 e).2).2
def onePi (p:Nat) (n:Int) (e:Int):I × Int:=atS p (recS p n e).1 (recS p n e).2
def piS (p:Nat) (e:Int):I × Int:=
 suS p (scS (onePi p 5 e).1 4 (onePi p 239 (onePi p 5 e).2).2).1 (scS (onePi p 239 (onePi p 5 e).2).1 2 (scS (onePi p 5 e).1 4 (onePi p 239 (onePi p 5 e).2).2).2).1 (scS (onePi p 239 (onePi p 5 e).2).1 2 (scS (onePi p 5 e).1 4 (onePi p 239 (onePi p 5 e).2).2).2).2
def rootS (p:Nat) (e:Int):I × Int:=sqS p (piS p e).1 (piS p e).2
theorem SI_rec {p:Nat} (hp:p≤400) {n:Int} (hn : -1000000≤n∧n≤1000000) (e:Int):SI (recS p n e).1:=SI_dS hp _ (SI_iS hn _) _
theorem SI_one {p:Nat} (hp:p≤400) {n:Int} (hn : -1000000≤n∧n≤1000000) (e:Int):SI (onePi p n e).1:=SI_st (SI_atan hp (SI_rec hp hn e)) _
theorem SI_sc {a:I} (ha:SI a) (n e:Int):SI (scS a n e).1:=SI_st (SI_scale ha n) e
theorem SI_pi {p:Nat} (hp:p≤400) (e:Int):SI (piS p e).1:=SI_st (SI_sub (SI_sc (SI_one hp (by omega) _) _ _) (SI_sc (SI_one hp (by omega) _) _ _) hp) _
theorem SI_root {p:Nat} (hp:p≤400) (e:Int):SI (rootS p e).1:=SI_st (SI_sqrt (SI_pi hp e).ok hp) _
theorem pScale {a:I} (ha:SI a) {n:Int} (hn : -100000≤n∧n≤100000) (e p:Int):cv_Scale (iv a) n e p=some (iv (scS a n e).1,(scS a n e).2):=ivScale_eq ha.ok hn e p
theorem rScaleS {a:I} (ha:SI a) {n:Int} (hn : -100000≤n∧n≤100000) (e p:Int):r06_CScale (iv a) n p e=some (iv (scS a n e).1,(scS a n e).2):=rivScale_eq ha.ok hn e p
theorem parts_l5 {p:Nat} (hp:2≤p∧p≤400) (e:Int):konst_parts_3d9d 5 4 239 2 e (p:Int)=some ([iv (scS (onePi p 5 e).1 4 (onePi p 239 (onePi p 5 e).2).2).1,iv (scS (onePi p 239 (onePi p 5 e).2).1 2 (scS (onePi p 5 e).1 4 (onePi p 239 (onePi p 5 e).2).2).2).1],(scS (onePi p 239 (onePi p 5 e).2).1 2 (scS (onePi p 5 e).1 4 (onePi p 239 (onePi p 5 e).2).2).2).2):=by
 unfold konst_parts_3d9d
 obtain ⟨f,hf⟩:=fuel_succ
 rw [hf]
 rw [konst_parts_3d9d_l5,if_pos (by omega),if_pos rfl,pInt (by omega)]
 simp only [obn]
 rw [pInt (by omega)]
 simp only [obn]
 rw [pDiv hp (SI_iS (by omega) _) (SI_iS (by omega) _)]
 simp only [obn]
 have h1:small_Atan (iv (recS p 5 e).1) (recS p 5 e).2 (p:Int)=some (iv (onePi p 5 e).1,(onePi p 5 e).2):=smallAtan_eq hp (SI_rec hp.2 (by omega) e) _
 refine Eq.trans (congrArg (fun o=>Option.bind o _) h1) ?_
 simp only [obn]
 rw [if_pos (by simp)]
 unfold konst_parts_3d9d_j6
 rw [if_pos (by simp),show IntKind.i64.wrap (0+1)=1 by decide]
 dsimp only
 rw [konst_parts_3d9d_l5,if_pos (by omega),if_neg (by decide),if_pos rfl,pInt (by omega)]
 simp only [obn]
 rw [pInt (by omega)]
 simp only [obn]
 rw [pDiv hp (SI_iS (by omega) _) (SI_iS (by omega) _)]
 simp only [obn]
 have h2:small_Atan (iv (recS p 239 (onePi p 5 e).2).1) (recS p 239 (onePi p 5 e).2).2 (p:Int)=some (iv (onePi p 239 (onePi p 5 e).2).1,(onePi p 239 (onePi p 5 e).2).2):=smallAtan_eq hp (SI_rec hp.2 (by omega) _) _
 refine Eq.trans (congrArg (fun o=>Option.bind o _) h2) ?_
 simp only [obn]
 rw [if_pos (by simp)]
 unfold konst_parts_3d9d_j6
 rw [if_pos (by simp),show IntKind.i64.wrap (1+1)=2 by decide]
 dsimp only
 rw [konst_parts_3d9d_l5,if_neg (by omega)]
 unfold konst_parts_3d9d_j1
 rw [hf]
 rw [konst_parts_3d9d_l3,if_pos (by omega),if_pos rfl,if_pos (by simp),if_pos (by simp)]
 have k1:=pScale (SI_one hp.2 (n:=5) (by omega) e) (n:=4) (by omega) (onePi p 239 (onePi p 5 e).2).2 (p:Int)
 refine Eq.trans (congrArg (fun o=>Option.bind o _) k1) ?_
 simp only [obn]
 rw [if_pos (by simp)]
 unfold konst_parts_3d9d_j4
 rw [if_pos (by simp),show IntKind.i64.wrap (0+1)=1 by decide]
 dsimp only
 rw [konst_parts_3d9d_l3,if_pos (by omega),if_neg (by decide),if_pos rfl,if_pos (by simp),if_pos (by simp)]
 have k2:=pScale (SI_one hp.2 (n:=239) (by omega) (onePi p 5 e).2) (n:=2) (by omega) (scS (onePi p 5 e).1 4 (onePi p 239 (onePi p 5 e).2).2).2 (p:Int)
 refine Eq.trans (congrArg (fun o=>Option.bind o _) k2) ?_
 simp only [obn]
 rw [if_pos (by simp)]
 unfold konst_parts_3d9d_j4
 rw [if_pos (by simp),show IntKind.i64.wrap (1+1)=2 by decide]
 dsimp only
 rw [konst_parts_3d9d_l3,if_neg (by omega)]
 rfl
theorem Pi_eq {p:Nat} (hp:2≤p∧p≤400) (e:Int):konst_Pi e (p:Int)=some (iv (piS p e).1,(piS p e).2):=by
 unfold konst_Pi
 rw [parts_l5 hp]
 simp only [obn]
 rw [if_pos (by simp),if_pos (by simp)]
 have k:=ivSub_eq (SI_sc (SI_one hp.2 (n:=5) (by omega) e) 4 (onePi p 239 (onePi p 5 e).2).2).ok (SI_sc (SI_one hp.2 (n:=239) (by omega) (onePi p 5 e).2) 2 (scS (onePi p 5 e).1 4 (onePi p 239 (onePi p 5 e).2).2).2).ok hp (scS (onePi p 239 (onePi p 5 e).2).1 2 (scS (onePi p 5 e).1 4 (onePi p 239 (onePi p 5 e).2).2).2).2
 refine Eq.trans (congrArg (fun o=>Option.bind o _) k) ?_
 rfl
theorem rPi_eq {p:Nat} (hp:2≤p∧p≤400) (e:Int):r08_Pi (p:Int) e=some (iv (piS p e).1,(piS p e).2):=by
 have one:∀ (n:Int) (e:Int),-1000000≤n∧n≤1000000→r07_Atan (iv (recS p n e).1) (p:Int) (recS p n e).2=some (iv (onePi p n e).1,(onePi p n e).2):=fun n e hn=>rAtan_eq hp (SI_rec hp.2 hn e) _
 unfold r08_Pi
 rw [rIntS (by omega)]
 simp only [obn]
 rw [rIntS (by omega)]
 simp only [obn]
 rw [rDivS hp (SI_iS (by omega) _) (SI_iS (by omega) _)]
 simp only [obn]
 refine Eq.trans (congrArg (fun o=>Option.bind o _) (one 5 e (by omega))) ?_
 simp only [obn]
 rw [rIntS (by omega)]
 simp only [obn]
 rw [rIntS (by omega)]
 simp only [obn]
 rw [rDivS hp (SI_iS (by omega) _) (SI_iS (by omega) _)]
 simp only [obn]
 refine Eq.trans (congrArg (fun o=>Option.bind o _) (one 239 _ (by omega))) ?_
 simp only [obn]
 rw [rScaleS (SI_one hp.2 (by omega) _) (by omega)]
 simp only [obn]
 rw [rScaleS (SI_one hp.2 (by omega) _) (by omega)]
 simp only [obn]
 have k:=rivSub_eq (SI_sc (SI_one hp.2 (n:=5) (by omega) e) 4 (onePi p 239 (onePi p 5 e).2).2).ok (SI_sc (SI_one hp.2 (n:=239) (by omega) (onePi p 5 e).2) 2 (scS (onePi p 5 e).1 4 (onePi p 239 (onePi p 5 e).2).2).2).ok hp (scS (onePi p 239 (onePi p 5 e).2).1 2 (scS (onePi p 5 e).1 4 (onePi p 239 (onePi p 5 e).2).2).2).2
 refine Eq.trans (congrArg (fun o=>Option.bind o _) k) ?_
 rfl
theorem Root_eq {p:Nat} (hp:2≤p∧p≤400) (e:Int):konst_Root e (p:Int)=some (iv (rootS p e).1,(rootS p e).2):=by
 unfold konst_Root
 rw [Pi_eq hp]
 simp only [obn]
 have k:=ivSqrt_eq (SI_pi hp.2 e).ok (SI_pi hp.2 e).l2 hp (piS p e).2
 refine Eq.trans (congrArg (fun o=>Option.bind o _) k) ?_
 rfl
theorem rRoot_eq {p:Nat} (hp:2≤p∧p≤400) (e:Int):r08_Root (p:Int) e=some (iv (rootS p e).1,(rootS p e).2):=by
 unfold r08_Root
 rw [rPi_eq hp]
 simp only [obn]
 have k:=rivSqrt_eq (SI_pi hp.2 e).ok (SI_pi hp.2 e).l hp (piS p e).2
 refine Eq.trans (congrArg (fun o=>Option.bind o _) k) ?_
 rfl
def scaleR (x:D) (n:Int):D × Int:=if -100000≤n∧n≤100000 then scaleD x n else (zD,4)
def scaleRI (a:I) (n:Int):I × Int:=bindE (scaleR a.lo n) zI fun lo=>bindE (scaleR a.hi n) zI fun hi=>(⟨lo,hi⟩,0)
theorem scaleRI_in {a:I} {n:Int} (h : -100000≤n∧n≤100000):scaleRI a n=scaleI a n:=by unfold scaleRI scaleI scaleR; rw [if_pos h,if_pos h]
theorem scaleRI_out {a:I} {n:Int} (h:¬(-100000≤n∧n≤100000)):scaleRI a n=(zI,4):=by unfold scaleRI scaleR; rw [if_neg h,bindE_no (by decide)]
theorem dyad_ScaleR_eq {x:D} (hx:WD x) (n:Int):dyad_Scale (dy x) n=some (dy (scaleR x n).1,(scaleR x n).2):=by
 unfold scaleR
 by_cases h : -100000≤n∧n≤100000
 ·rw [if_pos h]; exact dyad_Scale_eq hx h
 ·rw [if_neg h]
  unfold dyad_Scale dyad_Scale_j1 dyad_Scale_j2
  rw [right_one hx]
  simp only [obn,dyad_within_eq,must_eq,dyad_zero_eq]
  rw [if_pos True.intro,show decide (-100000≤n∧n≤100000)=false by simpa using h]
  simp only [Bool.false_eq_true,if_false,if_true]
  rw [if_neg (by decide),told_err (by decide)]
  rfl
theorem rScaleR_eq {x:D} (hx:WD x) (n:Int):r05_Scale (dy x) n=some (dy (scaleR x n).1,(scaleR x n).2):=by
 unfold scaleR
 by_cases h : -100000≤n∧n≤100000
 ·rw [if_pos h]; exact rScale5_eq hx h
 ·rw [if_neg h]
  unfold r05_Scale r05_Scale_j1
  rw [rRight5_dy hx.1 hx.sz]
  simp only [obn]
  rw [if_neg (by simp)]
  by_cases h1:n < -100000
  ·rw [if_pos h1,if_pos True.intro,← dy_z]
  ·rw [if_neg h1,show decide (n>100000)=true by simp; omega,if_pos rfl,← dy_z]
theorem ivScaleR_eq {a:I} (ha:okI a) (n:Int) (e p:Int):cv_Scale (iv a) n e p=some (iv (st e zI (scaleRI a n)).1,(st e zI (scaleRI a n)).2):=by
 unfold cv_Scale
 rw [fine_one ha]
 simp only [obn]
 by_cases h:e=0
 ·subst h
  rw [if_neg (by simp),ivLo,ivHi,st_zero,dyad_ScaleR_eq ha.1 n]
  simp only [obn]
  rw [take_eq,if_pos rfl]
  unfold scaleRI
  by_cases h1:(scaleR a.lo n).2=0
  ·rw [bindE_ok h1,if_pos h1]
   simp only [obn]
   rw [if_neg (by simp),dyad_ScaleR_eq ha.2.1 n]
   simp only [obn]
   rw [take_eq,if_pos rfl]
   by_cases h2:(scaleR a.hi n).2=0
   ·rw [bindE_ok h2,if_pos h2]
    simp only [obn]
    rw [outE_eq]
    simp only [obn]
    rfl
   ·rw [bindE_no h2,if_neg h2]
    simp only [obn]
    rw [outE_eq,if_neg h2]
    simp only [obn]
  ·rw [bindE_no h1,if_neg h1]
   simp only [obn]
   rw [if_pos (by simpa using h1),iv_z]
 ·rw [if_pos (fine_no h),st_ne h,iv_z]
theorem rivScaleR_eq {a:I} (ha:okI a) (n:Int) (e p:Int):r06_CScale (iv a) n p e=some (iv (st e zI (scaleRI a n)).1,(st e zI (scaleRI a n)).2):=by
 unfold r06_CScale
 rw [rarg_one ha]
 simp only [obn]
 by_cases h:e=0
 ·subst h
  rw [if_neg (by simp),ivLo,ivHi,st_zero,rScaleR_eq ha.1 n]
  simp only [obn]
  rw [rerr_eq,if_pos rfl]
  simp only [obn]
  unfold scaleRI
  by_cases h1:(scaleR a.lo n).2=0
  ·rw [bindE_ok h1,if_neg (by simp [h1]),rScaleR_eq ha.2.1 n]
   simp only [obn]
   rw [rerr_eq,if_pos h1]
   simp only [obn]
   rw [routE_eq]
   simp only [obn]
   by_cases h2:(scaleR a.hi n).2=0
   ·rw [bindE_ok h2,if_pos h2,h2]
   ·rw [bindE_no h2,if_neg h2]
  ·rw [bindE_no h1,if_pos (by simpa using h1),iv_z]
 ·rw [if_pos (fine_no h),st_ne h,iv_z]
theorem SI_scaleR {a:I} (ha:SI a) (n:Int):SI (scaleRI a n).1:=by
 by_cases h : -100000≤n∧n≤100000
 ·rw [scaleRI_in h]; exact SI_scale ha n
 ·rw [scaleRI_out h]; exact SI_z
def srS (a:I) (n:Int) (e:Int):I × Int:=st e zI (scaleRI a n)
theorem SI_sr {a:I} (ha:SI a) (n e:Int):SI (srS a n e).1:=SI_st (SI_scaleR ha n) e
theorem pScaleR {a:I} (ha:SI a) (n e p:Int):cv_Scale (iv a) n e p=some (iv (srS a n e).1,(srS a n e).2):=ivScaleR_eq ha.ok n e p
theorem rScaleRS {a:I} (ha:SI a) (n e p:Int):r06_CScale (iv a) n p e=some (iv (srS a n e).1,(srS a n e).2):=rivScaleR_eq ha.ok n e p
def fitB (d:D) (p:Int):Bool:=decide (2≤p) && decide (p≤336) && decide (blen d.m.natAbs≤400)
theorem dy_mag (d:D):(dy d).M.Mag=digs d.m.natAbs:=rfl
theorem bits_dy {d:D} (h:SZ d.m.natAbs):nat_Bits (dy d).M.Mag=some ((blen d.m.natAbs:Nat):Int):=by
 rw [dy_mag,nat_Bits_eq (dgd _) (by have:=sz_len h; omega),dvd]
theorem rbits_dy {d:D} (h:SZ d.m.natAbs):r01_Bits (dy d).M.Mag=some ((blen d.m.natAbs:Nat):Int):=by
 rw [dy_mag,rBits_eq (dgd _) (by have:=sz_len h; omega),dvd]
theorem eta_dy (x:AD):(⟨x.M,x.E⟩:AD)=x:=rfl
theorem fits_end {l:List AD} {i n:Nat} (hi:l.length≤i):expo_fits_l3 l (n+1) (i:Int)=some true:=by
 rw [expo_fits_l3,if_neg (by omega)]; rfl
theorem fits_ok {l:List AD} {i n:Nat} {d:D} (hi:i<l.length) (hi':i≤1000) (he:l.getD i zAD=dy d) (hd:okD d) (hs:SZ d.m.natAbs):expo_fits_l3 l (n+1) (i:Int)=if blen d.m.natAbs≤400 then expo_fits_l3 l n ((i+1:Nat):Int) else some false:=by
 rw [expo_fits_l3,if_pos (by omega),if_pos (by omega),Int.toNat_natCast,he,eta_dy,dyad_Right_dy hd hs]
 simp only [obn]
 rw [if_neg (by simp),bits_dy hs]
 simp only [obn]
 unfold expo_fits_j4
 by_cases h:blen d.m.natAbs≤400
 ·rw [if_pos h,show decide ((blen d.m.natAbs:Int)>400)=false by simp; omega,if_neg (by simp),w64 (by omega) (by omega)]; rfl
 ·rw [if_neg h,show decide ((blen d.m.natAbs:Int)>400)=true by simp; omega,if_pos rfl]
theorem fits_of {l:List AD} {p:Int} {r:Bool} (h:expo_fits_l3 l fuel 0=some r):expo_fits p l=some (decide (2≤p) && decide (p≤336) && r):=by
 unfold expo_fits expo_fits_j1
 by_cases h1:p<2
 ·rw [if_pos h1,if_pos rfl,show decide (2≤p)=false by simp; omega]; rfl
 ·rw [if_neg h1,show decide (2≤p)=true by simp; omega]
  by_cases h2:p≤336
  ·rw [show decide (p>336)=false by simp; omega,if_neg (by simp),h,show decide (p≤336)=true by simp; omega]; rfl
  ·rw [show decide (p>336)=true by simp; omega,if_pos rfl,show decide (p≤336)=false by simp; omega]; rfl
theorem fits_one {d:D} (hd:okD d) (hs:SZ d.m.natAbs) (p:Int):expo_fits p [dy d]=some (fitB d p):=by
 obtain ⟨f,hf⟩:=fuel_succ
 rw [fits_of (r:=decide (blen d.m.natAbs≤400))]
 ·rfl
 ·have h0:=fits_ok (l:=[dy d]) (i:=0) (n:=f+1+1) (d:=d) (by simp) (by omega) rfl hd hs
  have h1:=fits_end (l:=[dy d]) (i:=1) (n:=f+1) (by simp)
  rw [hf,show (0:Int)=((0:Nat):Int) from rfl,h0]
  by_cases h:blen d.m.natAbs≤400
  ·rw [if_pos h,h1,decide_eq_true h]
  ·rw [if_neg h,decide_eq_false h]
theorem rFits9_eq {d:D} (hd:okD d) (hs:SZ d.m.natAbs) (p:Int):r09_Fits (dy d) p=some (fitB d p):=by
 unfold r09_Fits r09_Fits_j1
 rw [rRight5_dy hd hs]
 simp only [obn]
 rw [if_pos True.intro]
 unfold fitB
 by_cases h1:2≤p
 ·rw [if_pos h1,decide_eq_true h1]
  by_cases h2:p≤336
  ·rw [if_pos h2,rbits_dy hs,decide_eq_true h2]
   simp only [obn]
   congr 1
   simp
   omega
  ·rw [if_neg h2,decide_eq_false h2]; rfl
 ·rw [if_neg h1,decide_eq_false h1]; rfl
def sizeB (d:D):Int × Bool:=if d.m=0 then (0,false) else (d.e+(blen d.m.natAbs:Nat),true)
theorem WD.szE {d:D} (h:WD d) : -1152921504606846976≤d.e∧d.e≤1152921504606846976:=by have:=h.e; omega
theorem dyad_Size_eq {d:D} (h:WD d):dyad_Size (dy d)=some (sizeB d):=by
 unfold dyad_Size dyad_Size_j1
 rw [dyad_Right_dy h.1 h.sz]
 simp only [obn]
 rw [if_neg (by simp),dyad_zero_eq]
 simp only [obn]
 unfold sizeB
 by_cases h0:d.m=0
 ·rw [if_pos (by simpa using h0),if_pos h0]
 ·rw [if_neg (by simpa using h0),if_neg h0,dyad_size_eq h.sz h.szE]; rfl
theorem rSize5_eq {d:D} (h:WD d):r05_Size (dy d)=some (sizeB d):=by
 have hm:=iOf_mag_zero d.m
 unfold r05_Size r05_Size_j1
 rw [rRight5_dy h.1 h.sz]
 simp only [obn]
 rw [if_neg (by simp)]
 unfold sizeB
 have hl:(((dy d).M.Mag.length:Int) == 0)=decide (d.m=0):=by
  have:(dy d).M=iOf d.m:=rfl
  rw [this]
  by_cases h0:d.m=0
  ·rw [decide_eq_true h0]; simpa using hm.2 h0
  ·rw [decide_eq_false h0]
   have:=mt hm.1 h0
   simpa using this
 rw [hl]
 by_cases h0:d.m=0
 ·rw [if_pos (by simpa using h0),if_pos h0]
 ·rw [if_neg (by simpa using h0),if_neg h0]
  unfold r05_size
  rw [rbits_dy h.sz]
  simp only [obn]
  have:=h.e
  have:=h.2
  rw [show (dy d).E=d.e from rfl,w64 (by omega) (by omega)]
def doneS (p:Nat) (r:I × Int):I × Int:=st r.2 zI (outI p r.1)
theorem SI_out {a:I} (ha:SI a) {p:Nat} (hp:p≤400):SI (outI p a).1:=SI_two ha.ok.2.2 hp
theorem SI_done {r:I × Int} (h:SI r.1) {p:Nat} (hp:p≤400):SI (doneS p r).1:=SI_st (SI_out h hp) _
theorem done_eq {a:I} (ha:SI a) {p:Nat} (hp:2≤p∧p≤400) (e w:Int):expo_done (iv a) (p:Int) e w=some (iv (doneS p (a,e)).1,(doneS p (a,e)).2):=by
 unfold expo_done iv_trouble_Err
 simp only [obn]
 by_cases h:e=0
 ·subst h
  rw [if_neg (by simp),ivNew_eq hp]
  simp only [obn]
  have:=ivOut_eq ha.ok hp 0
  refine Eq.trans (congrArg (fun o=>Option.bind o _) this) ?_
  rfl
 ·rw [if_pos h]
  unfold doneS
  rw [st_ne h,iv_z]
theorem rOut6_eq {a:I} (ha:SI a) {p:Nat} (hp:2≤p∧p≤400):r06_COut (iv a) (p:Int) 0=some (iv (outI p a).1,(outI p a).2):=by
 unfold r06_COut
 rw [rarg_one ha.ok]
 simp only [obn]
 rw [if_neg (by simp),ivLo,ivHi,rroundE_eq ha.ok.1 hp,st_zero]
 simp only [obn]
 unfold outI
 by_cases h1:(roundD a.lo p false).2=0
 ·rw [bindE_ok h1,bindE_ok h1,rroundE_eq ha.ok.2.1 hp,st_zero]
  simp only [obn]
  by_cases h2:(roundD a.hi p true).2=0
  ·rw [bindE_ok h2,bindE_ok h2,routE_eq]; rfl
  ·rw [bindE_no h2,bindE_no h2,routE_eq,if_neg h2]; rfl
 ·rw [bindE_no h1,bindE_no h1,rroundE_eq ha.ok.2.1 hp,st_ne h1]
  simp only [obn]
  rw [routE_eq,if_neg h1]; rfl
theorem rEnds_eq {a:I} (ha:SI a) {p:Nat} (hp:2≤p∧p≤400) (w e:Int):r09_Ends (iv a) (p:Int) w e=some (iv (doneS p (a,e)).1,(doneS p (a,e)).2):=by
 unfold r09_Ends
 by_cases h:e=0
 ·subst h
  rw [if_neg (by simp),rNew6_eq hp]
  simp only [obn]
  refine Eq.trans (congrArg (fun o=>Option.bind o _) (rOut6_eq ha hp)) ?_
  rfl
 ·rw [if_pos h]
  unfold doneS
  rw [st_ne h,iv_z]
def powS (w:Nat):Nat→I × Int→I × Int
 | 0,r=>r
 | k+1,r=>powS w k (mS w r.1 r.1 r.2)
def exN (d:D):Nat:=if d.m=0 then 0 else (d.e+(blen d.m.natAbs:Nat)+3).toNat
def eS (w:Nat) (r:I × Int):I × Int:=st r.2 zI (expI w r.1)
def exS (d:D) (p:Nat):I × Int:=
 if d.m≠0∧11<d.e+(blen d.m.natAbs:Nat) then (zI,4) else doneS p (powS (p+32) (exN d) (eS (p+32) (srS ⟨d,d⟩ (-(exN d:Int)) 0)))
theorem SI_pow {w:Nat} (hw:w≤400):∀ (k:Nat) (r:I × Int),SI r.1→SI (powS w k r).1
 | 0,_,h=>h
 | k+1,r,_=>SI_pow hw k _ (SI_mS hw _ _ _)
theorem exp_loop {w p h:Nat} (hw:2≤w∧w≤400) (hp:2≤p∧p≤400) (hh:h≤1000):∀ (k i:Nat) (a:I) (e:Int),i+k=h→SI a→∀ f,k<f→expo_Exp_l4 (h:Int) (0,0,(w:Int)) (p:Int) f (i:Int) e (iv a).Lo.M.Neg (iv a).Lo.M.Mag (iv a).Lo.E (iv a).Hi.M.Neg (iv a).Hi.M.Mag (iv a).Hi.E=some (iv (doneS p (powS w k (a,e))).1,(doneS p (powS w k (a,e))).2):=by
 intro k
 induction k with
 | zero=>
  intro i a e hi ha f hf
  obtain ⟨f,rfl⟩:∃ g,f=g+1:=⟨f-1,by omega⟩
  rw [expo_Exp_l4,if_neg (by omega)]
  unfold expo_Exp_j3
  rw [ivEta]
  refine Eq.trans (congrArg (fun o=>Option.bind o _) (done_eq ha hp e _)) ?_
  rfl
 | succ k ih=>
  intro i a e hi ha f hf
  obtain ⟨f,rfl⟩:∃ g,f=g+1:=⟨f-1,by omega⟩
  rw [expo_Exp_l4,if_pos (by omega),ivEta]
  refine Eq.trans (congrArg (fun o=>Option.bind o _) (pMul hw ha ha e)) ?_
  simp only [obn]
  rw [show IntKind.i64.wrap ((i:Int)+1)=((i+1:Nat):Int) by rw [w64 (by omega) (by omega)]; rfl]
  exact ih (i+1) _ _ (by omega) (SI_mS hw.2 _ _ _) f (by omega)
theorem rexp_loop {w p h:Nat} (hw:2≤w∧w≤400) (hp:2≤p∧p≤400) (hh:h≤1000) (x:Int):∀ (k i:Nat) (a:I) (e:Int),i+k=h→SI a→∀ f,k<f→r09_Exp_l4 (h:Int) ((w:Int),x) (p:Int) f (i:Int) e (iv a).Lo.M.Neg (iv a).Lo.M.Mag (iv a).Lo.E (iv a).Hi.M.Neg (iv a).Hi.M.Mag (iv a).Hi.E=some (iv (doneS p (powS w k (a,e))).1,(doneS p (powS w k (a,e))).2):=by
 intro k
 induction k with
 | zero=>
  intro i a e hi ha f hf
  obtain ⟨f,rfl⟩:∃ g,f=g+1:=⟨f-1,by omega⟩
  rw [r09_Exp_l4,if_neg (by omega)]
  unfold r09_Exp_j3
  rw [ivEta]
  refine Eq.trans (congrArg (fun o=>Option.bind o _) (rEnds_eq ha hp _ e)) ?_
  rfl
 | succ k ih=>
  intro i a e hi ha f hf
  obtain ⟨f,rfl⟩:∃ g,f=g+1:=⟨f-1,by omega⟩
  rw [r09_Exp_l4,if_pos (by omega),ivEta]
  refine Eq.trans (congrArg (fun o=>Option.bind o _) (rMulS hw ha ha e)) ?_
  simp only [obn]
  rw [show IntKind.i64.wrap ((i:Int)+1)=((i+1:Nat):Int) by rw [w64 (by omega) (by omega)]; rfl]
  exact ih (i+1) _ _ (by omega) (SI_mS hw.2 _ _ _) f (by omega)
theorem SI_pt {d:D} (h:WD d) (hb:blen d.m.natAbs≤1000):SI ⟨d,d⟩:=⟨okI_point h,hb,hb⟩
theorem pPt {d:D} (h:WD d) (e p:Int):cv_Point (dy d) e p=some (iv (st e zI (⟨d,d⟩,0)).1,(st e zI ((⟨d,d⟩:I),0)).2):=ivPoint_eq h e p
theorem exp_j2 {d:D} (hd:WD d) (hb:blen d.m.natAbs≤400) {p h:Nat} (hp:2≤p∧p≤336) (hh:h≤1000):expo_Exp_j2 (p:Int) (dy d) (h:Int)=some (iv (doneS p (powS (p+32) h (eS (p+32) (srS ⟨d,d⟩ (-(h:Int)) 0)))).1,(doneS p (powS (p+32) h (eS (p+32) (srS ⟨d,d⟩ (-(h:Int)) 0)))).2):=by
 unfold expo_Exp_j2
 have hw:2≤p+32∧p+32≤400:=by omega
 have s1:=SI_sr (SI_pt hd (by omega)) (-(h:Int)) 0
 rw [w64 (by omega) (by omega),show (p:Int)+32=((p+32:Nat):Int) by omega,ivNew_eq hw]
 simp only [obn]
 rw [pPt hd,st_zero]
 simp only [obn]
 rw [w64 (by omega) (by omega),show 0-(h:Int) = -(h:Int) by omega]
 refine Eq.trans (congrArg (fun o=>Option.bind o _) (pScaleR (SI_pt hd (by omega)) _ 0 _)) ?_
 simp only [obn]
 refine Eq.trans (congrArg (fun o=>Option.bind o _) (smallExp_eq hw s1 _)) ?_
 simp only [obn]
 exact exp_loop hw (by omega) hh h 0 _ _ (by omega) (SI_st (SI_exp hw.2) _) fuel (by unfold fuel; omega)
theorem rexp_j2 {d:D} (hd:WD d) (hb:blen d.m.natAbs≤400) {p h:Nat} (hp:2≤p∧p≤336) (hh:h≤1000):r09_Exp_j2 (p:Int) (dy d) (h:Int)=some (iv (doneS p (powS (p+32) h (eS (p+32) (srS ⟨d,d⟩ (-(h:Int)) 0)))).1,(doneS p (powS (p+32) h (eS (p+32) (srS ⟨d,d⟩ (-(h:Int)) 0)))).2):=by
 unfold r09_Exp_j2
 have hw:2≤p+32∧p+32≤400:=by omega
 have s1:=SI_sr (SI_pt hd (by omega)) (-(h:Int)) 0
 rw [w64 (by omega) (by omega),show (p:Int)+32=((p+32:Nat):Int) by omega,rNew6_eq hw]
 simp only [obn]
 rw [rivPoint_eq hd,st_zero]
 simp only [obn]
 rw [w64 (by omega) (by omega),show 0-(h:Int) = -(h:Int) by omega]
 refine Eq.trans (congrArg (fun o=>Option.bind o _) (rScaleRS (SI_pt hd (by omega)) _ 0 _)) ?_
 simp only [obn]
 refine Eq.trans (congrArg (fun o=>Option.bind o _) (rExp_eq hw s1 _)) ?_
 simp only [obn]
 exact rexp_loop hw (by omega) hh 0 h 0 _ _ (by omega) (SI_st (SI_exp hw.2) _) fuel (by unfold fuel; omega)
def expR (d:D) (p:Int):I × Int:=if fitB d p then exS d p.toNat else (zI,1)
theorem fitB_p {d:D} {p:Int} (h:fitB d p=true):(∃ q:Nat,p=(q:Int)∧2≤q∧q≤336)∧blen d.m.natAbs≤400:=by
 unfold fitB at h
 simp only [Bool.and_eq_true,decide_eq_true_eq] at h
 exact ⟨⟨p.toNat,by omega,by omega,by omega⟩,h.2⟩
theorem Exp_eq {d:D} (hd:WD d) (p:Int):expo_Exp (dy d) p=some (iv (expR d p).1,(expR d p).2):=by
 unfold expo_Exp expR
 rw [fits_one hd.1 hd.sz]
 simp only [obn]
 cases hf:fitB d p with
 | false=>rw [if_pos (by simp),if_neg (by simp),iv_z]
 | true=>
  obtain ⟨⟨q,rfl,hq⟩,hb⟩:=fitB_p hf
  rw [if_neg (by simp),if_pos rfl,Int.toNat_natCast,dyad_Size_eq hd]
  simp only [obn]
  unfold expo_Exp_j1 sizeB exS exN
  by_cases h0:d.m=0
  ·rw [if_pos h0,if_neg (by simp),if_neg (by simp),if_neg (by simp),if_neg (by simp [h0]),if_pos h0]
   have:=exp_j2 hd hb (h:=0) hq (by omega)
   rw [show ((0:Nat):Int)=0 from rfl] at this
   exact this
  ·rw [if_neg h0,if_pos rfl,if_neg h0]
   by_cases h11:11<d.e+(blen d.m.natAbs:Nat)
   ·rw [show decide (d.e+(blen d.m.natAbs:Nat)>11)=true by simpa using h11,if_pos rfl,if_pos ⟨h0,h11⟩,iv_z]
   ·have he:=hd.e
    rw [show decide (d.e+(blen d.m.natAbs:Nat)>11)=false by simpa using h11,if_neg (by simp),if_pos rfl,if_neg (by simp [h11])]
    have hm:mx 0 (IntKind.i64.wrap (d.e+(blen d.m.natAbs:Nat)+3))=((d.e+(blen d.m.natAbs:Nat)+3).toNat:Int):=by
     rw [w64 (by omega) (by omega)]; unfold mx; split<;>omega
    rw [hm]
    exact exp_j2 hd hb hq (by omega)
theorem rExp9_eq {d:D} (hd:WD d) (p:Int):r09_Exp (dy d) p=some (iv (expR d p).1,(expR d p).2):=by
 unfold r09_Exp expR
 rw [rFits9_eq hd.1 hd.sz]
 simp only [obn]
 cases hf:fitB d p with
 | false=>rw [if_pos (by simp),if_neg (by simp),iv_z]
 | true=>
  obtain ⟨⟨q,rfl,hq⟩,hb⟩:=fitB_p hf
  rw [if_neg (by simp),if_pos rfl,Int.toNat_natCast,rSize5_eq hd]
  simp only [obn]
  unfold r09_Exp_j1 sizeB exS exN
  by_cases h0:d.m=0
  ·rw [if_pos h0,if_neg (by simp),if_neg (by simp),if_neg (by simp),if_neg (by simp [h0]),if_pos h0]
   have:=rexp_j2 hd hb (h:=0) hq (by omega)
   rw [show ((0:Nat):Int)=0 from rfl] at this
   exact this
  ·rw [if_neg h0,if_pos rfl,if_neg h0]
   by_cases h11:11<d.e+(blen d.m.natAbs:Nat)
   ·rw [show decide (d.e+(blen d.m.natAbs:Nat)>11)=true by simpa using h11,if_pos rfl,if_pos ⟨h0,h11⟩,iv_z]
   ·have he:=hd.e
    rw [show decide (d.e+(blen d.m.natAbs:Nat)>11)=false by simpa using h11,if_neg (by simp),if_pos rfl,if_neg (by simp [h11])]
    have hm:mx (IntKind.i64.wrap (d.e+(blen d.m.natAbs:Nat)+3)) 0=((d.e+(blen d.m.natAbs:Nat)+3).toNat:Int):=by
     rw [w64 (by omega) (by omega)]; unfold mx; split<;>omega
    rw [hm]
    exact rexp_j2 hd hb hq (by omega)
theorem zI_eta:(⟨⟨⟨false,[]⟩,0⟩,⟨⟨false,[]⟩,0⟩⟩:AI)=iv zI:=iv_z.symm
theorem SI_exS {d:D} {p:Nat} (hp:p≤336):SI (exS d p).1:=by
 unfold exS
 split
 ·exact SI_z
 ·exact SI_done (SI_pow (by omega) _ _ (SI_st (SI_exp (by omega)) _)) (by omega)
theorem SI_expR {d:D} {p:Int} : SI (expR d p).1:=by
 unfold expR
 split
 ·rename_i h
  obtain ⟨⟨q,rfl,hq⟩,-⟩:=fitB_p h
  exact SI_exS (by simpa using hq.2)
 ·exact SI_z
theorem pSub {p:Nat} (hp:2≤p∧p≤400) {a b:I} (ha:SI a) (hb:SI b) (e:Int):cv_Sub (iv a) (iv b) e (p:Int)=some (iv (suS p a b e).1,(suS p a b e).2):=ivSub_eq ha.ok hb.ok hp e
theorem rSubS {p:Nat} (hp:2≤p∧p≤400) {a b:I} (ha:SI a) (hb:SI b) (e:Int):r06_CSub (iv a) (iv b) (p:Int) e=some (iv (suS p a b e).1,(suS p a b e).2):=rivSub_eq ha.ok hb.ok hp e
theorem SI_suS {p:Nat} (hp:p≤400) {a b:I} (ha:SI a) (hb:SI b) (e:Int):SI (suS p a b e).1:=SI_st (SI_sub ha hb hp) e
theorem right_one' {x:AD} (h:Dig x.M.Mag) (l:x.M.Mag.length≤31):(∃ d,WD d∧blen d.m.natAbs≤1000∧x=dy d)∨(dyad_Right x=some false∧r05_Right x=some false):=by
 have e1:=dyad_Right_eq h (by omega)
 have f1:=rRight5_eq h (by omega)
 cases c:rightD x with
 | false=>right; rw [e1,f1,c]; exact ⟨rfl,rfl⟩
 | true=>
  obtain ⟨d,k,rfl,b⟩:=rightD_ex h c
  have v:=blen_of_len h
  exact Or.inl ⟨d,⟨k,by rw [b]; omega⟩,by rw [b]; omega,rfl⟩
theorem cut_dig {x:AD} (hx:gAD x) (k:Nat) (hk:k≤31):Dig (x.M.Mag.take (min x.M.Mag.length k))∧(x.M.Mag.take (min x.M.Mag.length k)).length≤31:=⟨dig_take (g_dig hx) _,by rw [List.length_take]; omega⟩
theorem fl_neg {a k:Nat} (hk:0<k):(-(a:Int)) / (k:Int) = -(((a+(k-1)) / k:Nat):Int):=by
 have h1:=Nat.div_add_mod (a+(k-1)) k
 have h2:=Nat.mod_lt (a+(k-1)) hk
 generalize (a+(k-1)) / k=q at *
 generalize (a+(k-1)) % k=r at *
 have h3:(k:Int)*q+r=a+(k-1):=by
  have:((k*q+r:Nat):Int)=((a+(k-1):Nat):Int):=by rw [h1]
  push_cast at this
  omega
 have e : -(a:Int)=(k-1-r)+k*(-q):=by
  have:(k:Int) * -(q:Int) = -((k:Int)*q):=Int.mul_neg _ _
  omega
 rw [e,Int.add_mul_ediv_left _ _ (by omega),Int.ediv_eq_zero_of_lt (by omega) (by omega)]
 omega
theorem zint_Shift_eq {z:Int} {n:Nat} (h0:0<n) (hn:n≤100000) (hz:blen z.natAbs≤900000):zint_Shift (iOf z) (-(n:Int))=some (iOf (z / 2 ^ n),true):=by
 have hsz:SZ z.natAbs:=by unfold SZ; omega
 have hl:=sz_len hsz
 have hW:IntKind.i64.wrap (0 - -(n:Int))=(n:Int):=by rw [w64 (by omega) (by omega)]; omega
 have hp:0<2 ^ n:=Nat.pow_pos (by decide)
 have hbz:=blen_lt z.natAbs
 have e2:((2:Int) ^ n)=((2 ^ n:Nat):Int):=by push_cast; first | done | rfl
 have hsum:SZ (z.natAbs+(2 ^ n-1)):=by
  have h1:=blen_add z.natAbs (2 ^ n-1)
  have h2:blen (2 ^ n-1)≤n:=blen_le_of (by omega)
  unfold SZ; omega
 unfold zint_Shift zint_Shift_j1
 rw [if_neg (by omega),show decide (-(n:Int)>100000)=false from decide_eq_false (by omega),if_neg (by simp),zint_of_iOf hsz]
 simp only [obn]
 rw [if_neg (by omega)]
 have fin:∀ v:Nat,SZ v→zint_Shift_j2 (-(n:Int)) ⟨⟨digs z.natAbs⟩,decide (z<0)⟩ (digs v)=some (iOf (sg (decide (z<0)) (v / 2 ^ n)),true):=by
  intro v hv
  unfold zint_Shift_j2
  have:=sz_len hv
  rw [hW,nat_Shr_eq (dgd _) (by omega) (by omega),dvd]
  simp only [obn]
  rw [zint_Make_digs _ (sz_le (Nat.div_le_self _ _) hv)]
  rfl
 by_cases hneg:z<0
 ·have h2l:(digs 1).length≤32769:=sz_len (by unfold SZ; decide)
  rw [if_pos (by simpa using hneg),nat_From_eq (by omega) (by omega)]
  simp only [obn]
  rw [hW,show (1:Int).toNat=1 from rfl,nat_Shl_eq (dgd _) (by omega) hn,dvd,Nat.one_mul]
  simp only [obn]
  have hs2:SZ (2 ^ n):=by unfold SZ; rw [blen_pow]; omega
  have h1l:=sz_len hs2
  rw [nat_Sub_eq (dgd _) (dgd _) (by omega) (by omega),dvd,dvd,if_neg (by omega)]
  simp only [obn]
  have h3l:(digs (2 ^ n-1)).length≤32769:=sz_len (sz_le (by omega) hs2)
  rw [nat_Add_eq (dgd _) (dgd _) (by omega) (by omega),dvd,dvd]
  simp only [obn]
  rw [fin _ hsum,decide_eq_true hneg,e2]
  congr 2
  have e3:z = -(z.natAbs:Int):=by omega
  conv=>rhs; rw [e3,fl_neg hp]
  rfl
 ·rw [if_neg (by simpa using hneg),fin _ hsz,decide_eq_false hneg,e2]
  congr 2
  have e3:z=(z.natAbs:Int):=by omega
  conv=>rhs; rw [e3,← Int.natCast_ediv]
  rfl
theorem rShift_eq {z:Int} {n:Nat} (h0:0<n) (hn:n≤100000) (hz:blen z.natAbs≤900000):r04_Shift (iOf z) (-(n:Int))=some (iOf (z / 2 ^ n),true):=by
 have hsz:SZ z.natAbs:=by unfold SZ; omega
 have hl:=sz_len hsz
 have hW:IntKind.i64.wrap (0 - -(n:Int))=(n:Int):=by rw [w64 (by omega) (by omega)]; omega
 have hp:0<2 ^ n:=Nat.pow_pos (by decide)
 have e2:((2:Int) ^ n)=((2 ^ n:Nat):Int):=by push_cast; first | done | rfl
 have hsd:SZ (z.natAbs / 2 ^ n):=sz_le (Nat.div_le_self _ _) hsz
 have hld:=sz_len hsd
 have hMag:(iOf z).Mag=digs z.natAbs:=rfl
 have hNeg:(iOf z).Neg=decide (z<0):=rfl
 unfold r04_Shift r04_Shift_j1
 rw [if_neg (by omega),show decide (-(n:Int)>100000)=false from decide_eq_false (by omega),if_neg (by simp),rMake_iOf hsz]
 simp only [obn]
 rw [if_neg (by omega),hMag,hNeg,hW,rShr_eq (dgd _) (by omega) (by omega),dvd]
 simp only [obn]
 rw [rShl_eq (dgd _) (by omega) hn,dvd]
 simp only [obn]
 have hback:z.natAbs / 2 ^ n*2 ^ n≤z.natAbs:=Nat.div_mul_le_self _ _
 have hsb:SZ (z.natAbs / 2 ^ n*2 ^ n):=sz_le hback hsz
 have hlb:=sz_len hsb
 have fin:∀ v:Nat,SZ v→r04_Shift_j3 (iOf z) (digs v)=some (iOf (sg (decide (z<0)) v),true):=by
  intro v hv
  unfold r04_Shift_j3
  rw [hNeg,rMake_digs _ hv]
  rfl
 unfold r04_Shift_j2
 by_cases hneg:z<0
 ·rw [if_pos (by simpa using hneg),rCmp_eq (dgd _) (dgd _) (by omega) (by omega),dvd,dvd]
  simp only [obn]
  have e3:z = -(z.natAbs:Int):=by omega
  have hdm:=Nat.div_add_mod z.natAbs (2 ^ n)
  have hml:=Nat.mod_lt z.natAbs hp
  rw [decide_eq_true hneg] at fin
  by_cases hm:z.natAbs % 2 ^ n=0
  ·have hz2:z.natAbs / 2 ^ n*2 ^ n=z.natAbs:=by rw [Nat.mul_comm]; omega
   have hcmp:(if z.natAbs / 2 ^ n*2 ^ n<z.natAbs then (-1:Int) else if z.natAbs<z.natAbs / 2 ^ n*2 ^ n then 1 else 0)=0:=by rw [hz2]; simp
   rw [hcmp,if_neg (by simp),fin _ hsd,e2]
   congr 2
   conv=>rhs; rw [e3,fl_neg hp]
   have:(z.natAbs+(2 ^ n-1)) / 2 ^ n=z.natAbs / 2 ^ n:=by
    rw [Nat.div_eq_iff hp]
    constructor
    ·omega
    ·rw [hz2]; omega
   rw [this]; rfl
  ·have hlt:z.natAbs / 2 ^ n*2 ^ n<z.natAbs:=by rw [Nat.mul_comm]; omega
   have hcmp:(if z.natAbs / 2 ^ n*2 ^ n<z.natAbs then (-1:Int) else if z.natAbs<z.natAbs / 2 ^ n*2 ^ n then 1 else 0) = -1:=if_pos hlt
   rw [hcmp,if_pos (by decide)]
   have h1l:([1]:List Int)=digs 1:=(digs_of (l:=[1]) (by intro d hd; have:d=1:=(by simpa using hd); omega) (by simp)).symm
   have h2l:(digs 1).length≤32769:=sz_len (by unfold SZ; decide)
   rw [h1l,rAdd_eq (dgd _) (dgd _) (by omega) (by omega),dvd,dvd]
   simp only [obn]
   have hs1:SZ (z.natAbs / 2 ^ n+1):=by
    refine sz_le (n:=z.natAbs) ?_ hsz
    have h5:z.natAbs / 2 ^ n*2≤z.natAbs / 2 ^ n*2 ^ n:=Nat.mul_le_mul_left _ (by have:=Nat.pow_le_pow_right (n:=2) (by decide) h0; omega)
    omega
   rw [fin _ hs1,e2]
   congr 2
   conv=>rhs; rw [e3,fl_neg hp]
   have:(z.natAbs+(2 ^ n-1)) / 2 ^ n=z.natAbs / 2 ^ n+1:=by
    rw [Nat.div_eq_iff hp,Nat.add_mul,Nat.one_mul]
    constructor
    ·omega
    ·rw [Nat.mul_comm] at hlt ⊢; omega
   rw [this]; rfl
 ·rw [if_neg (by simpa using hneg),if_neg (by simp),fin _ hsd,decide_eq_false hneg,e2]
  congr 2
  have e3:z=(z.natAbs:Int):=by omega
  conv=>rhs; rw [e3,← Int.natCast_ediv]
  rfl
def flD (d:D):Int:=if 0≤d.e then d.m*2 ^ d.e.toNat else d.m / 2 ^ (-d.e).toNat
def floorS (d:D):Int × Int:=if inR d then (flD d,0) else (0,4)
theorem iOf_zero:(⟨false,[]⟩:ApiInt)=iOf 0:=by unfold iOf; simp [digs_zero]
theorem idiv_blen (z:Int) (n:Nat):blen (z / 2 ^ n).natAbs≤blen z.natAbs:=by
 refine blen_mono ?_
 have hp:(0:Int)<2 ^ n:=Int.pow_pos (by decide)
 rcases Int.lt_or_le z 0 with h | h
 ·have h1:z≤z / 2 ^ n:=by
   rw [Int.le_ediv_iff_mul_le hp]
   have h3:=Int.mul_nonpos_of_nonpos_of_nonneg (a:=z) (b:=2 ^ n-1) (by omega) (by omega)
   rw [Int.mul_sub,Int.mul_one] at h3
   omega
  have h2:z / 2 ^ n<0:=Int.ediv_neg_of_neg_of_pos h hp
  omega
 ·have h1:=Int.ediv_le_self (a:=z) (2 ^ n) h
  have h2:=Int.ediv_nonneg h (show (0:Int)≤2 ^ n by omega)
  omega
theorem floor_loop {c:Nat} : ∀ (z:Int) (n:Nat),n≤100000*c→n≤200000→blen z.natAbs≤900000→∀ f,c<f→dyad_Floor_l3 f (n:Int) (iOf z).Neg (iOf z).Mag=some (iOf (z / 2 ^ n),0):=by
 induction c with
 | zero=>
  intro z n hn _ _ f hf
  obtain ⟨f,rfl⟩:∃ g,f=g+1:=⟨f-1,by omega⟩
  have:n=0:=by omega
  subst this
  rw [dyad_Floor_l3,if_neg (by omega)]
  unfold dyad_Floor_j2
  rw [Int.pow_zero,Int.ediv_one]
 | succ c ih=>
  intro z n hn hn2 hz f hf
  obtain ⟨f,rfl⟩:∃ g,f=g+1:=⟨f-1,by omega⟩
  rw [dyad_Floor_l3]
  by_cases h0:n=0
  ·subst h0
   rw [if_neg (by omega)]
   unfold dyad_Floor_j2
   rw [Int.pow_zero,Int.ediv_one]
  ·rw [if_pos (by omega)]
   have eta:(⟨(iOf z).Neg,(iOf z).Mag⟩:ApiInt)=iOf z:=rfl
   have hm:mn (n:Int) 100000=((min n 100000:Nat):Int):=by unfold mn; split<;>omega
   rw [eta,hm,w64 (by omega) (by omega),show 0-((min n 100000:Nat):Int) = -((min n 100000:Nat):Int) by omega,zint_Shift_eq (by omega) (by omega) hz]
   simp only [obn]
   rw [w64 (by omega) (by omega)]
   by_cases h1:n≤100000
   ·rw [show min n 100000=n by omega]
    obtain ⟨f,rfl⟩:∃ g,f=g+1:=⟨f-1,by omega⟩
    rw [dyad_Floor_l3,if_neg (by omega)]
    rfl
   ·rw [show min n 100000=100000 by omega,show (n:Int)-100000=((n-100000:Nat):Int) by omega]
    have h2:=ih (z / 2 ^ 100000) (n-100000) (by omega) (by omega) (Nat.le_trans (idiv_blen z 100000) hz) f (by omega)
    rw [h2,Int.ediv_ediv_of_nonneg (Int.pow_nonneg (by decide)),← Int.pow_add,show 100000+(n-100000)=n by omega]
theorem dyad_Floor_eq {d:D} (hd:WD d):dyad_Floor (dy d)=some (iOf (floorS d).1,(floorS d).2):=by
 have he:=hd.e
 have hb:=hd.2
 unfold dyad_Floor dyad_Floor_j1 floorS
 rw [right_one hd]
 simp only [obn]
 rw [if_neg (by simp),dyad_inRange_eq hd.sz hd.szE]
 simp only [obn,must_eq]
 cases hr:inR d with
 | false=>
  simp only [Bool.false_eq_true,if_false,if_true]
  rw [if_pos (by decide),iOf_zero]
 | true=>
  simp only [if_true]
  rw [if_neg (by decide)]
  unfold flD
  have hE:(dy d).E=d.e:=rfl
  have hM:(dy d).M=iOf d.m:=rfl
  rw [hE,hM]
  by_cases h0:0≤d.e
  ·obtain ⟨n,hn⟩:∃ n:Nat,d.e=(n:Int):=⟨d.e.toNat,by omega⟩
   rw [if_pos (by omega),if_pos h0,hn,Int.toNat_natCast,show (iOf d.m).Mag=digs d.m.natAbs from rfl,dyad_up_eq (by omega)]
   simp only [obn]
   rw [show (iOf d.m).Neg=decide (d.m<0) from rfl,zint_Make_digs _ (by unfold SZ; have:=blen_mul d.m.natAbs (2 ^ n); have:=blen_pow n; omega)]
   simp only [obn]
   congr 3
   rw [Nat.mul_comm,sg_mul,sg_abs,Int.mul_comm]
   push_cast
   rfl
  ·obtain ⟨n,hn⟩:∃ n:Nat,d.e = -(n:Int):=⟨(-d.e).toNat,by omega⟩
   rw [if_neg (by omega),if_neg h0,hn,w64 (by omega) (by omega),show 0 - -(n:Int)=(n:Int) by omega,show (- -(n:Int)).toNat=n by omega]
   exact floor_loop (c:=2) d.m n (by omega) (by omega) (by omega) fuel (by unfold fuel; omega)
theorem rFloor_eq {d:D} (hd:WD d):r05_Floor (dy d)=some (iOf (floorS d).1,(floorS d).2):=by
 have he:=hd.e
 have hb:=hd.2
 unfold r05_Floor r05_Floor_j1 floorS
 rw [rRight5_dy hd.1 hd.sz]
 simp only [obn]
 rw [if_neg (by simp),rinRange_eq hd.sz hd.szE]
 simp only [obn]
 cases hr:inR d with
 | false=>rw [if_pos (by simp),if_neg (by simp),iOf_zero]
 | true=>
  rw [if_neg (by simp),if_pos rfl]
  unfold flD
  have hE:(dy d).E=d.e:=rfl
  have hM:(dy d).M=iOf d.m:=rfl
  rw [hE,hM]
  by_cases h0:0≤d.e
  ·obtain ⟨n,hn⟩:∃ n:Nat,d.e=(n:Int):=⟨d.e.toNat,by omega⟩
   rw [if_pos (by omega),if_pos h0,hn,Int.toNat_natCast,rup_eq (by omega)]
   rfl
  ·obtain ⟨n,hn⟩:∃ n:Nat,d.e = -(n:Int):=⟨(-d.e).toNat,by omega⟩
   have hm:mn (n:Int) 100000=((min n 100000:Nat):Int):=by unfold mn; split<;>omega
   rw [if_neg (by omega),if_neg h0,hn,w64 (x:=0 - -(n:Int)) (by omega) (by omega),show 0 - -(n:Int)=(n:Int) by omega,show (- -(n:Int)).toNat=n by omega,hm,w64 (by omega) (by omega),show 0-((min n 100000:Nat):Int) = -((min n 100000:Nat):Int) by omega,rShift_eq (by omega) (by omega) (by omega)]
   simp only [obn]
   by_cases h1:n≤100000
   ·rw [if_neg (by omega),show min n 100000=n by omega]
   ·rw [if_pos (by omega),show min n 100000=100000 by omega,w64 (by omega) (by omega),show -(n:Int)+((100000:Nat):Int) = -((n-100000:Nat):Int) by omega]
    refine Eq.trans (congrArg (fun o=>Option.bind o _) (rShift_eq (z:=d.m / 2 ^ 100000) (n:=n-100000) (by omega) (by omega) (Nat.le_trans (idiv_blen d.m 100000) (by omega)))) ?_
    simp only [obn]
    rw [Int.ediv_ediv_of_nonneg (Int.pow_nonneg (by decide)),← Int.pow_add,show 100000+(n-100000)=n by omega]
theorem digs_two {n:Nat} (h:(digs n).length≤2):n=((digs n).getD 0 0).toNat+4294967296*((digs n).getD 1 0).toNat:=by
 have h1:=dvd n
 have h2:dval (digs n)=((digs n).getD 0 0).toNat+4294967296*((digs n).getD 1 0).toNat:=by
  rw [show dval (digs n)=dval ((digs n).drop 0) by simp,dval_drop,dval_drop,List.drop_eq_nil_of_le (by omega)]
  simp [dval]
 omega
theorem digs_len_two {n:Nat} : (digs n).length≤2↔n<18446744073709551616:=by
 constructor
 ·intro h
  have h2:=dval_lt (dgd n)
  rw [dvd] at h2
  have h3:4294967296 ^ (digs n).length≤4294967296 ^ 2:=Nat.pow_le_pow_right (by decide) h
  have h4:(4294967296:Nat) ^ 2=18446744073709551616:=by decide
  omega
 ·intro h
  have h4:(4294967296:Nat) ^ 2=18446744073709551616:=by decide
  exact digs_length (k:=2) (by omega)
theorem nat_Small_eq {n:Nat} (hl:(digs n).length≤1099511627776):nat_Small (digs n)=some (if n<18446744073709551616 then ((n:Int),true) else (0,false)):=by
 unfold nat_Small
 rw [nat_trim_eq (dgd _) (by omega),dvd]
 simp only [obn]
 by_cases hn:n<18446744073709551616
 ·have h2:=digs_len_two.2 hn
  have hd:=digs_two h2
  rw [if_pos hn]
  by_cases h0:(digs n).length=0
  ·rw [if_pos (by omega)]
   have:digs n=[]:=List.eq_nil_of_length_eq_zero h0
   rw [this] at hd
   simp at hd
   rw [hd]; rfl
  ·rw [if_neg (by omega)]
   obtain ⟨a,ha,ha2⟩:=digN (dgd n) 0
   obtain ⟨b,hb,hb2⟩:=digN (dgd n) 1
   rw [ha,hb,Int.toNat_natCast,Int.toNat_natCast] at hd
   by_cases h1:(digs n).length=1
   ·rw [if_pos (by omega),if_pos (by omega),kz,ha,u64n (by omega)]
    have:(digs n).getD 1 0=0:=by simp [List.getD,List.getElem?_eq_none (show (digs n).length≤1 by omega)]
    congr 3; omega
   ·have h1b:(digs n).length=2:=by omega
    rw [if_neg (by omega),if_pos (by omega),if_pos (by omega),if_pos (by omega),kz,ha,hb,u64n (by omega),u64n (by omega),shl32n hb2,or64n (by omega) (by omega),or_lo ha2]
    congr 3; omega
 ·have h2:=mt digs_len_two.1 hn
  rw [if_neg hn,if_neg (by omega),if_neg (by omega),if_neg (by omega)]
def smallZ (z:Int):Int × Bool:=if -9223372036854775808≤z∧z≤9223372036854775807 then (z,true) else (0,false)
theorem zint_Small_eq {z:Int} (hz:SZ z.natAbs):zint_Small (iOf z)=some (smallZ z):=by
 have hl:=sz_len hz
 unfold zint_Small
 rw [zint_of_iOf hz]
 simp only [obn]
 rw [nat_Small_eq (by omega)]
 simp only [obn]
 unfold zint_Small_j1 zint_Small_j2 smallZ
 by_cases hn:z.natAbs<18446744073709551616
 ·rw [if_pos hn]
  simp only
  rw [if_pos True.intro]
  by_cases h0:z<0
  ·rw [if_pos (by simpa using h0)]
   by_cases h1:(z.natAbs:Int)≤9223372036854775808
   ·rw [decide_eq_true h1,if_pos rfl,if_pos (by omega)]
    congr 2
    rw [wu64,show (0-(z.natAbs:Int)) % 18446744073709551616=z+18446744073709551616 by omega]
    unfold IntKind.wrap
    simp [IntKind.bits,IntKind.signed]
    omega
   ·rw [decide_eq_false h1,if_neg (by simp),if_pos True.intro,if_neg (by simp [h0]),if_neg (by simp),if_neg (by omega)]
  ·rw [if_neg (by simpa using h0),if_neg (by simp),if_pos True.intro,if_pos (by simpa using h0)]
   by_cases h1:(z.natAbs:Int)<9223372036854775808
   ·rw [decide_eq_true h1,if_pos rfl,if_pos (by omega),w64 (by omega) (by omega)]
    congr 2; omega
   ·rw [decide_eq_false h1,if_neg (by simp),if_neg (by omega)]
 ·rw [if_neg hn]
  simp only
  rw [if_neg (by simp),if_neg (by simp),if_neg (by simp),if_neg (by simp),if_neg (by omega)]
theorem rSmall_eq {z:Int} (hz:SZ z.natAbs):r04_Small (iOf z)=some (smallZ z):=by
 have hl:=sz_len hz
 unfold r04_Small
 rw [rMake_iOf hz]
 simp only [obn]
 have hS:r01_Small (iOf z).Mag=some (if z.natAbs<18446744073709551616 then ((z.natAbs:Int),true) else (0,false)):=by
  unfold r01_Small
  rw [show (iOf z).Mag=digs z.natAbs from rfl,rTrim_digs hz]
  simp only [obn]
  by_cases hn:z.natAbs<18446744073709551616
  ·have h2:=digs_len_two.2 hn
   have hd:=digs_two h2
   obtain ⟨a,ha,ha2⟩:=digN (dgd z.natAbs) 0
   obtain ⟨b,hb,hb2⟩:=digN (dgd z.natAbs) 1
   have r0:=rat_eq (dgd z.natAbs) (i:=0)
   have r1:=rat_eq (dgd z.natAbs) (i:=1)
   rw [show ((0:Nat):Int)=0 from rfl] at r0
   rw [show ((1:Nat):Int)=1 from rfl] at r1
   rw [ha,hb,Int.toNat_natCast,Int.toNat_natCast] at hd
   rw [if_neg (by omega),if_pos hn,r0]
   simp only [obn]
   rw [r1]
   simp only [obn]
   rw [ha,hb,shl32n hb2,or64n (by omega) (by omega),Nat.or_comm,or_lo ha2]
   congr 3; omega
  ·have h2:=mt digs_len_two.1 hn
   rw [if_pos (by omega),if_neg hn]
 rw [hS]
 simp only [obn]
 unfold r04_Small_j1 smallZ
 rw [show (iOf z).Neg=decide (z<0) from rfl]
 by_cases hn:z.natAbs<18446744073709551616
 ·rw [if_pos hn]
  simp only
  rw [if_neg (by simp)]
  by_cases h1:(z.natAbs:Int)>9223372036854775808
  ·rw [if_pos h1,if_pos True.intro,if_neg (by omega)]
  ·rw [if_neg h1]
   by_cases h2:(z.natAbs:Int)=9223372036854775808
   ·rw [if_pos h2]
    by_cases h0:z<0
    ·rw [if_neg (by simpa using h0),if_neg (by simpa using h0),if_pos (by omega),if_pos (by omega)]
     congr 2; omega
    ·rw [if_pos (by simpa using h0),if_neg (by omega)]
   ·rw [if_neg h2,if_neg (by simp)]
    by_cases h0:z<0
    ·rw [if_neg (by simpa using h0),if_neg (by omega),if_pos (by omega),w64 (x:=(z.natAbs:Int)) (by omega) (by omega),w64 (by omega) (by omega)]
     congr 2; omega
    ·rw [if_pos (by simpa using h0),if_pos (by omega),w64 (by omega) (by omega)]
     congr 2; omega
 ·rw [if_neg hn]
  simp only
  rw [if_pos (by simp),if_pos True.intro,if_neg (by omega)]
theorem flD_sz {d:D} (hd:WD d):SZ (flD d).natAbs:=by
 have he:=hd.e
 have hb:=hd.2
 unfold flD SZ
 split
 ·have:=blen_abs_shl d.m d.e.toNat; omega
 ·have:=idiv_blen d.m (-d.e).toNat; omega
theorem floorS_sz {d:D} (hd:WD d):SZ (floorS d).1.natAbs:=by
 unfold floorS; split
 ·exact flD_sz hd
 ·unfold SZ; decide
def pS (d:D) (e:Int):I × Int:=st e zI (⟨d,d⟩,0)
theorem SI_pS {d:D} (h:WD d) (hb:blen d.m.natAbs≤1000) (e:Int):SI (pS d e).1:=SI_st (r:=(⟨d,d⟩,0)) (SI_pt h hb) e
theorem pPS {d:D} (h:WD d) (e p:Int):cv_Point (dy d) e p=some (iv (pS d e).1,(pS d e).2):=ivPoint_eq h e p
theorem rPS {d:D} (h:WD d) (e p:Int):r06_CPoint (dy d) p e=some (iv (pS d e).1,(pS d e).2):=rivPoint_eq h e p
def absD (d:D):D:=⟨(d.m.natAbs:Int),d.e⟩
theorem WD_abs {d:D} (h:WD d):WD (absD d):=by
 constructor
 ·have h1:=h.1
  unfold okD at h1 ⊢
  unfold absD
  simp only
  omega
 ·exact h.2
theorem dy_abs (d:D):(⟨⟨false,(dy d).M.Mag⟩,(dy d).E⟩:AD)=dy (absD d):=by
 unfold dy absD iOf
 simp
theorem neg_abs {d:D} (h:d.m<0):negD d=absD d:=by
 unfold negD absD
 rw [show -d.m=(d.m.natAbs:Int) by omega]
theorem pos_abs {d:D} (h:¬d.m<0):d=absD d:=by
 unfold absD
 rw [show (d.m.natAbs:Int)=d.m by omega]
end Go.Proofs.YtjffljhmjdljeaaGreat.Gen
namespace Go.An
abbrev clsT {F:Type→Type} {α:Type} (_:F α):Type→Type:=F
abbrev clsO {S:Type→Type} {F:(R:Type)→S R→(l:LE R)→LT R→Std.IsPreorder R→Prop} {α:Type} {s:S α} {l:LE α} {t:LT α} {p:Std.IsPreorder α} (_:F α s l t p):(R:Type)→S R→(l:LE R)→LT R→Std.IsPreorder R→Prop:=fun R a b c d=>F R a b c d
abbrev clsN {S:Type→Type} {F:(R:Type)→S R→Prop} {α:Type} {s:S α} (_:F α s):(R:Type)→S R→Prop:=fun R a=>F R a
theorem qabs {a b x y:Rat} (hx : -a≤x∧x≤a) (hy : -b≤y∧y≤b) : -(a*b)≤x*y∧x*y≤a*b:=by
 have h1:=Rat.mul_nonneg (show 0≤a-x by grind) (show 0≤b-y by grind)
 have h2:=Rat.mul_nonneg (show 0≤a+x by grind) (show 0≤b+y by grind)
 have h3:=Rat.mul_nonneg (show 0≤a-x by grind) (show 0≤b+y by grind)
 have h4:=Rat.mul_nonneg (show 0≤a+x by grind) (show 0≤b-y by grind)
 constructor<;>grind
structure CS where
 f:Nat→Rat
 c:∀ e:Rat,0<e→∃ N,∀ m n,N≤m→N≤n→f m-f n≤e
theorem CS.ext {a b:CS} (h:∀ n,a.f n=b.f n):a=b:=by
 cases a; cases b; simp only [CS.mk.injEq]; exact funext h
def CS.le (a b:CS):Prop:=∀ e:Rat,0<e→∃ N,∀ n,N≤n→a.f n-b.f n≤e
theorem CS.le_refl (a:CS):a.le a:=fun e h=>⟨0,fun n _=>by grind⟩
theorem CS.le_trans {a b c:CS} (h:a.le b) (k:b.le c):a.le c:=fun e he=>by
 obtain ⟨N,hN⟩:=h (e / 2) (by grind)
 obtain ⟨M,hM⟩:=k (e / 2) (by grind)
 refine ⟨max N M,fun n hn=>?_⟩
 have h1:=hN n (by omega)
 have h2:=hM n (by omega)
 grind
theorem CS.gap {a b:CS} (h:¬a.le b):∃ e:Rat,0<e∧∃ N,∀ n,N≤n→b.f n+e≤a.f n:=by
 unfold CS.le at h
 simp only [Classical.not_forall,not_exists] at h
 obtain ⟨e,he,h⟩:=h
 obtain ⟨N,hN⟩:=a.c (e / 4) (by grind)
 obtain ⟨M,hM⟩:=b.c (e / 4) (by grind)
 obtain ⟨n,hn,k⟩:=h (max N M)
 refine ⟨e / 2,by grind,max N M,fun m hm=>?_⟩
 have h1:=hN n m (by omega) (by omega)
 have h2:=hM m n (by omega) (by omega)
 grind
theorem CS.le_total (a b:CS):a.le b∨b.le a:=by
 rcases Classical.em (a.le b) with h | h
 ·exact Or.inl h
 ·obtain ⟨e,he,N,hN⟩:=CS.gap h
  exact Or.inr fun d hd=>⟨N,fun n hn=>by have:=hN n hn; grind⟩
theorem CS.bnd (a:CS):∃ B:Rat,0<B∧∃ N,∀ n,N≤n→-B≤a.f n∧a.f n≤B:=by
 obtain ⟨N,hN⟩:=a.c 1 (by decide)
 have key:∀ x:Rat,∃ B:Rat,0<B∧x+1≤B∧-B≤x-1:=by
  intro x
  rcases (show 0≤x∨x≤0 by grind) with h | h
  ·exact ⟨x+1,by grind,by grind,by grind⟩
  ·exact ⟨-x+1,by grind,by grind,by grind⟩
 obtain ⟨B,hB,h1,h2⟩:=key (a.f N)
 refine ⟨B,hB,N,fun n hn=>?_⟩
 have h3:=hN n N hn (Nat.le_refl _)
 have h4:=hN N n (Nat.le_refl _) hn
 grind
def CS.ofRat (q:Rat):CS:=⟨fun _=>q,fun e he=>⟨0,fun m n _ _=>by grind⟩⟩
def CS.neg (a:CS):CS:=⟨fun n=>-a.f n,fun e he=>by
 obtain ⟨N,hN⟩:=a.c e he
 exact ⟨N,fun m n hm hn=>by have:=hN n m hn hm; grind⟩⟩
def CS.add (a b:CS):CS:=⟨fun n=>a.f n+b.f n,fun e he=>by
 obtain ⟨N,hN⟩:=a.c (e / 2) (by grind)
 obtain ⟨M,hM⟩:=b.c (e / 2) (by grind)
 refine ⟨max N M,fun m n hm hn=>?_⟩
 have h1:=hN m n (by omega) (by omega)
 have h2:=hM m n (by omega) (by omega)
 grind⟩
theorem small {e B:Rat} (he:0<e) (hB:0<B):∃ d:Rat,0<d∧B*d≤e:=⟨e*B⁻¹,Rat.mul_pos he (Rat.inv_pos.2 hB),by rw [Rat.mul_comm e,← Rat.mul_assoc,Rat.mul_inv_cancel _ (by grind),Rat.one_mul]; grind⟩
theorem CS.c2 (a:CS) {e:Rat} (he:0<e):∃ N,∀ m n,N≤m→N≤n→-e≤a.f m-a.f n∧a.f m-a.f n≤e:=by
 obtain ⟨N,hN⟩:=a.c e he
 exact ⟨N,fun m n hm hn=>⟨by have:=hN n m hn hm; grind,hN m n hm hn⟩⟩
def CS.mul (a b:CS):CS:=⟨fun n=>a.f n*b.f n,fun e he=>by
 obtain ⟨A,hA,N1,h1⟩:=a.bnd
 obtain ⟨B,hB,N2,h2⟩:=b.bnd
 obtain ⟨d,hd,hd'⟩:=small (e:=e) (B:=A+B) he (by grind)
 obtain ⟨N3,h3⟩:=a.c2 hd
 obtain ⟨N4,h4⟩:=b.c2 hd
 refine ⟨max (max N1 N2) (max N3 N4),fun m n hm hn=>?_⟩
 have k1:=qabs (h1 m (by omega)) (h4 m n (by omega) (by omega))
 have k2:=qabs (h2 n (by omega)) (h3 m n (by omega) (by omega))
 grind⟩
instance CS.st:Setoid CS:=⟨fun a b=>a.le b∧b.le a,⟨fun a=>⟨a.le_refl,a.le_refl⟩,fun h=>⟨h.2,h.1⟩,fun h k=>⟨CS.le_trans h.1 k.1,CS.le_trans k.2 h.2⟩⟩⟩
theorem CS.neg_le {a b:CS} (h:a.le b):b.neg.le a.neg:=fun e he=>by
 obtain ⟨N,hN⟩:=h e he
 exact ⟨N,fun n hn=>by have:=hN n hn; simp only [CS.neg]; grind⟩
theorem CS.add_le {a b c d:CS} (h:a.le b) (k:c.le d):(a.add c).le (b.add d):=fun e he=>by
 obtain ⟨N,hN⟩:=h (e / 2) (by grind)
 obtain ⟨M,hM⟩:=k (e / 2) (by grind)
 refine ⟨max N M,fun n hn=>?_⟩
 have h1:=hN n (by omega)
 have h2:=hM n (by omega)
 simp only [CS.add]; grind
theorem CS.add_le_iff {a b:CS} (c:CS):a.le b↔(a.add c).le (b.add c):=⟨fun h=>CS.add_le h c.le_refl,fun h e he=>by
 obtain ⟨N,hN⟩:=h e he
 exact ⟨N,fun n hn=>by have:=hN n hn; simp only [CS.add] at this; grind⟩⟩
theorem CS.eq2 {a b:CS} (h:a ≈ b) {e:Rat} (he:0<e):∃ N,∀ n,N≤n→-e≤a.f n-b.f n∧a.f n-b.f n≤e:=by
 obtain ⟨N,hN⟩:=h.1 e he
 obtain ⟨M,hM⟩:=h.2 e he
 refine ⟨max N M,fun n hn=>?_⟩
 have h1:=hN n (by omega)
 have h2:=hM n (by omega)
 grind
theorem CS.mul_le {a b:CS} (h:a ≈ b) (c:CS):(a.mul c).le (b.mul c):=fun e he=>by
 obtain ⟨C,hC,N,hN⟩:=c.bnd
 obtain ⟨d,hd,hd'⟩:=small (e:=e) (B:=C) he hC
 obtain ⟨M,hM⟩:=CS.eq2 h hd
 refine ⟨max N M,fun n hn=>?_⟩
 have k:=qabs (hN n (by omega)) (hM n (by omega))
 simp only [CS.mul]; grind
theorem CS.mul_comm' (a b:CS):a.mul b=b.mul a:=CS.ext fun n=>Rat.mul_comm _ _
theorem CS.mul_eq {a b c d:CS} (h:a ≈ b) (k:c ≈ d):a.mul c ≈ b.mul d:=by
 refine ⟨CS.le_trans (CS.mul_le h c) ?_,CS.le_trans ?_ (CS.mul_le (Setoid.symm h) c)⟩
 ·rw [CS.mul_comm' b c,CS.mul_comm' b d]; exact CS.mul_le k b
 ·rw [CS.mul_comm' b c,CS.mul_comm' b d]; exact CS.mul_le (Setoid.symm k) b
def R:Type:=Quotient CS.st
def mk (a:CS):R:=Quotient.mk _ a
theorem ind {p:R→Prop} (h:∀ a,p (mk a)) (x:R):p x:=Quotient.ind h x
def ofQ (q:Rat):R:=mk (CS.ofRat q)
instance:Neg R:=⟨Quotient.lift (fun a=>mk a.neg) fun _ _ h=>Quotient.sound ⟨CS.neg_le h.2,CS.neg_le h.1⟩⟩
instance:Add R:=⟨Quotient.lift₂ (fun a b=>mk (a.add b)) fun _ _ _ _ h k=>Quotient.sound ⟨CS.add_le h.1 k.1,CS.add_le h.2 k.2⟩⟩
instance:Sub R:=⟨fun a b=>a + -b⟩
instance:Mul R:=⟨Quotient.lift₂ (fun a b=>mk (a.mul b)) fun _ _ _ _ h k=>Quotient.sound (CS.mul_eq h k)⟩
instance:LE R:=⟨Quotient.lift₂ CS.le fun _ _ _ _ h k=>propext ⟨fun e=>CS.le_trans h.2 (CS.le_trans e k.1),fun e=>CS.le_trans h.1 (CS.le_trans e k.2)⟩⟩
instance:LT R:=⟨fun a b=>a≤b∧¬b≤a⟩
instance:NatCast R:=⟨fun n=>ofQ n⟩
instance:IntCast R:=⟨fun n=>ofQ n⟩
instance (n:Nat):OfNat R n:=⟨ofQ n⟩
def npow (x:R):Nat→R
 | 0=>1
 | n+1=>npow x n*x
instance:HPow R Nat R:=⟨npow⟩
instance:SMul Nat R:=⟨fun n x=>n*x⟩
instance:SMul Int R:=⟨fun n x=>n*x⟩
theorem mk_ext {a b:CS} (h:∀ n,a.f n=b.f n):mk a=mk b:=congrArg mk (CS.ext h)
theorem ofQ_add (p q:Rat):ofQ (p+q)=ofQ p+ofQ q:=rfl
theorem ofQ_mul (p q:Rat):ofQ (p*q)=ofQ p*ofQ q:=rfl
theorem ofQ_neg (p:Rat):ofQ (-p) = -ofQ p:=rfl
theorem radd_comm (a b:R):a+b=b+a:=by
 induction a using ind; induction b using ind; exact mk_ext fun n=>Rat.add_comm _ _
theorem rmul_comm (a b:R):a*b=b*a:=by
 induction a using ind; induction b using ind; exact mk_ext fun n=>Rat.mul_comm _ _
theorem radd_zero (a:R):a+0=a:=by
 induction a using ind; exact mk_ext fun n=>by simp only [CS.add,CS.ofRat]; grind
theorem rmul_one (a:R):a*1=a:=by
 induction a using ind; exact mk_ext fun n=>by simp only [CS.mul,CS.ofRat]; grind
theorem rdistrib (a b c:R):a*(b+c)=a*b+a*c:=by
 induction a using ind; induction b using ind; induction c using ind; exact mk_ext fun n=>by simp only [CS.mul,CS.add]; grind
theorem rzero_mul (a:R):0*a=0:=by
 induction a using ind; exact mk_ext fun n=>by simp only [CS.mul,CS.ofRat]; grind
theorem rneg_add (a:R) : -a+a=0:=by
 induction a using ind; exact mk_ext fun n=>by simp only [CS.add,CS.neg,CS.ofRat]; grind
theorem rneg_mul (a b:R) : -a*b = -(a*b):=by
 induction a using ind; induction b using ind; exact mk_ext fun n=>by simp only [CS.mul,CS.neg]; grind
instance rring:clsT Dyadic.instCommRing R where
 nsmul:=⟨fun n x=>n*x⟩
 zsmul:=⟨fun n x=>n*x⟩
 npow:=inferInstance
 add_zero:=radd_zero
 add_comm:=radd_comm
 add_assoc a b c:=by
  induction a using ind; induction b using ind; induction c using ind; exact mk_ext fun n=>Rat.add_assoc _ _ _
 mul_assoc a b c:=by
  induction a using ind; induction b using ind; induction c using ind; exact mk_ext fun n=>Rat.mul_assoc _ _ _
 mul_one:=rmul_one
 one_mul a:=by rw [rmul_comm]; exact rmul_one a
 zero_mul:=rzero_mul
 mul_zero a:=by rw [rmul_comm]; exact rzero_mul a
 mul_comm:=rmul_comm
 pow_zero _:=rfl
 pow_succ _ _:=rfl
 sub_eq_add_neg _ _:=rfl
 neg_add_cancel:=rneg_add
 neg_zsmul i a:=by
  show ofQ ((-i:Int):Rat)*a = -(ofQ i*a)
  rw [← rneg_mul,← ofQ_neg,Rat.intCast_neg]
 left_distrib:=rdistrib
 right_distrib a b c:=by rw [rmul_comm,rdistrib,rmul_comm c a,rmul_comm c b]
 intCast_neg i:=by show ofQ ((-i:Int):Rat) = -(ofQ i); rw [← ofQ_neg,Rat.intCast_neg]
 ofNat_succ n:=by show ofQ ((n+1:Nat):Rat)=ofQ n+ofQ 1; rw [← ofQ_add,Rat.natCast_add]; rfl
theorem rle_refl (a:R):a≤a:=by induction a using ind; exact CS.le_refl _
theorem rle_trans {a b c:R} (h:a≤b) (k:b≤c):a≤c:=by
 induction a using ind; induction b using ind; induction c using ind; exact CS.le_trans h k
theorem rle_antisymm {a b:R} (h:a≤b) (k:b≤a):a=b:=by
 induction a using ind; induction b using ind; exact Quotient.sound ⟨h,k⟩
theorem rle_total (a b:R):a≤b∨b≤a:=by
 induction a using ind; induction b using ind; exact CS.le_total _ _
instance:Std.IsLinearOrder R where
 le_refl:=rle_refl
 le_trans _ _ _:=rle_trans
 le_antisymm _ _:=rle_antisymm
 le_total:=rle_total
instance:Std.LawfulOrderLT R where
 lt_iff _ _:=Iff.rfl
theorem radd_le {a b:R} (c:R):a≤b↔a+c≤b+c:=by
 induction a using ind; induction b using ind; induction c using ind; exact CS.add_le_iff _
theorem lt_gap {a b:CS} (h:mk a<mk b):∃ e:Rat,0<e∧∃ N,∀ n,N≤n→a.f n+e≤b.f n:=CS.gap h.2
theorem gap_lt {a b:CS} {e:Rat} (he:0<e) {N:Nat} (h:∀ n,N≤n→a.f n+e≤b.f n):mk a<mk b:=
 ⟨fun d hd=>⟨N,fun n hn=>by have:=h n hn; grind⟩,fun k=>by
  obtain ⟨M,hM⟩:=k (e / 2) (by grind)
  have h1:=hM (max N M) (by omega)
  have h2:=h (max N M) (by omega)
  grind⟩
theorem rmul_lt {a b c:R} (h:a<b) (hc:0<c):c*a<c*b:=by
 induction a using ind; induction b using ind; induction c using ind
 obtain ⟨e,he,N,hN⟩:=lt_gap h
 obtain ⟨d,hd,M,hM⟩:=lt_gap hc
 refine gap_lt (Rat.mul_pos hd he) (N:=max N M) fun n hn=>?_
 have h1:=hN n (by omega)
 have h2:=hM n (by omega)
 simp only [CS.ofRat,CS.mul] at *
 rename_i x y z
 have h3:d*e≤z.f n*(y.f n-x.f n):=by
  have k1:=Rat.mul_le_mul_of_nonneg_left (c:=d) (show e≤y.f n-x.f n by grind) (by grind)
  have k2:=Rat.mul_le_mul_of_nonneg_right (c:=y.f n-x.f n) (show d≤z.f n by grind) (by grind)
  grind
 grind
theorem rzero_lt_one:(0:R)<1:=gap_lt (e:=1) (by decide) (N:=0) fun n _=>by simp only [CS.ofRat]; grind
theorem rmul_lt' {a b c:R} (h:a<b) (hc:0<c):a*c<b*c:=by rw [rmul_comm a,rmul_comm b]; exact rmul_lt h hc
instance:clsO Dyadic.instOrderedRing R inferInstance inferInstance inferInstance inferInstance where
 add_le_left_iff c:=radd_le c
 zero_lt_one:=rzero_lt_one
 mul_lt_mul_of_pos_left h hc:=rmul_lt h hc
 mul_lt_mul_of_pos_right h hc:=rmul_lt' h hc
instance:clsN Dyadic.instNoNatZeroDivisors R inferInstance where
 no_nat_zero_divisors k a b h1 h2:=by
  have h3:ofQ k*a=ofQ k*b:=h2
  have h4:ofQ (1 / k)*ofQ k=1:=by
   rw [← ofQ_mul]
   have:(1 / (k:Rat))*k=1:=by
    rw [Rat.div_def,Rat.one_mul,Rat.inv_mul_cancel]
    exact_mod_cast h1
   rw [this]; rfl
  have h5:ofQ (1 / k)*ofQ k*a=ofQ (1 / k)*ofQ k*b:=by grind
  rw [h4] at h5; grind
theorem ofQ_le {p q:Rat} : ofQ p≤ofQ q↔p≤q:=by
 constructor
 ·intro h
  rcases Classical.em (p≤q) with k | k
  ·exact k
  ·obtain ⟨N,hN⟩:=h ((p-q) / 2) (by grind)
   have:=hN N (Nat.le_refl _)
   simp only [CS.ofRat] at this; grind
 ·intro h e he; exact ⟨0,fun n _=>by simp only [CS.ofRat]; grind⟩
theorem ofQ_lt {p q:Rat} : ofQ p<ofQ q↔p<q:=by
 have h:=@ofQ_le q p
 constructor
 ·intro k; have:¬ofQ q≤ofQ p:=by grind
  rw [h] at this; grind
 ·intro k; have:¬q≤p:=by grind
  rw [← h] at this; grind
theorem ofQ_sub (p q:Rat):ofQ (p-q)=ofQ p-ofQ q:=by rw [Rat.sub_eq_add_neg,ofQ_add,ofQ_neg]; grind
theorem ofQ_one:ofQ 1=1:=rfl
theorem ofQ_nat (n:Nat):ofQ (n:Rat)=(n:R):=rfl
theorem ofQ_half (e:Rat):ofQ (e / 2)+ofQ (e / 2)=ofQ e:=by rw [← ofQ_add]; congr 1; grind
theorem ofQ_pos {e:Rat} (h:0<e):0<ofQ e:=ofQ_lt.2 h
theorem cast_le {m n:Nat} (h:m≤n):(m:R)≤(n:R):=ofQ_le.2 (by exact_mod_cast h)
theorem cast_succ (n:Nat):((n+1:Nat):R)=(n:R)+1:=by rw [← ofQ_nat,Rat.natCast_add,ofQ_add]; rfl
theorem cast_nonneg (n:Nat):0≤(n:R):=cast_le (m:=0) (Nat.zero_le n)
theorem eq_of_le {x y:R} (h:∀ e:Rat,0<e→x≤y+ofQ e):x≤y:=by
 rcases rle_total x y with k | k
 ·exact k
 ·rcases Classical.em (x≤y) with q | q
  ·exact q
  ·exfalso
   induction x using ind; induction y using ind
   rename_i a b
   obtain ⟨e,he,N,hN⟩:=lt_gap (a:=b) (b:=a) ⟨k,q⟩
   obtain ⟨M,hM⟩:=h (e / 2) (by grind) (e / 4) (by grind)
   have h1:=hN (max N M) (by omega)
   have h2:=hM (max N M) (by omega)
   simp only [CS.add,CS.ofRat] at h2
   grind
theorem near (x:R) {e:Rat} (he:0<e):∃ q:Rat,x-ofQ q≤ofQ e∧ofQ q-x≤ofQ e:=by
 induction x using ind
 rename_i a
 obtain ⟨N,hN⟩:=a.c e he
 refine ⟨a.f N,?_,?_⟩
 ·exact fun d hd=>⟨N,fun n hn=>by have:=hN n N hn (Nat.le_refl _); simp only [CS.add,CS.neg,CS.ofRat]; grind⟩
 ·exact fun d hd=>⟨N,fun n hn=>by have:=hN N n (Nat.le_refl _) hn; simp only [CS.add,CS.neg,CS.ofRat]; grind⟩
theorem archQ (x:Rat):∃ n:Nat,x≤(n:Rat):=by
 refine ⟨x.ceil.toNat,?_⟩
 have h1:=Rat.le_ceil (x:=x)
 have h2:(x.ceil:Rat)≤((x.ceil.toNat:Int):Rat):=by exact_mod_cast Int.self_le_toNat _
 have h3:((x.ceil.toNat:Int):Rat)=(x.ceil.toNat:Rat):=by exact_mod_cast rfl
 grind
theorem arch (x:R):∃ n:Nat,x≤(n:R):=by
 obtain ⟨q,h,_⟩:=near x (e:=1) (by decide)
 obtain ⟨n,hn⟩:=archQ (q+1)
 have:=ofQ_le.2 hn
 rw [ofQ_add,ofQ_nat] at this
 exact ⟨n,by grind⟩
noncomputable def ab (x:R):R:=@ite _ (0≤x) (Classical.propDecidable _) x (-x)
theorem ab_nonneg (x:R):0≤ab x:=by unfold ab; split<;>grind
theorem ab_le {x b:R} : ab x≤b↔-b≤x∧x≤b:=by unfold ab; split<;>grind
theorem le_ab (x:R):x≤ab x∧-x≤ab x:=by unfold ab; split<;>grind
theorem ab_neg (x:R):ab (-x)=ab x:=by unfold ab; split<;>split<;>grind
theorem ab_add (x y:R):ab (x+y)≤ab x+ab y:=by unfold ab; split<;>split<;>split<;>grind
theorem ab_of {x:R} (h:0≤x):ab x=x:=by unfold ab; rw [if_pos h]
theorem ab_zero:ab 0=0:=ab_of (by grind)
theorem rmul_nonneg {x y:R} (hx:0≤x) (hy:0≤y):0≤x*y:=by
 rcases Classical.em (x=0) with h | h
 ·subst h; grind
 ·have:=rmul_lt (a:=0) (b:=x) (c:=y)
  rcases Classical.em (y=0) with k | k
  ·subst k; grind
  ·have:=this (by grind) (by grind); grind
theorem rmul_le {a b c:R} (h:a≤b) (hc:0≤c):a*c≤b*c:=by have:=rmul_nonneg (show 0≤b-a by grind) hc; grind
theorem rmul_le' {a b c:R} (h:a≤b) (hc:0≤c):c*a≤c*b:=by have:=rmul_nonneg (show 0≤b-a by grind) hc; grind
theorem rmul_mono {a b c d:R} (h:a≤b) (k:c≤d) (ha:0≤a) (hd:0≤d):a*c≤b*d:=rle_trans (rmul_le' k ha) (rmul_le h hd)
theorem rmul_pos {x y:R} (hx:0<x) (hy:0<y):0<x*y:=by have:=rmul_lt hy hx; grind
theorem sq_nonneg (x:R):0≤x*x:=by
 rcases rle_total 0 x with h | h
 ·exact rmul_nonneg h h
 ·have:=rmul_nonneg (x:=-x) (y:=-x) (by grind) (by grind); grind
theorem ab_mul (x y:R):ab (x*y)=ab x*ab y:=by
 unfold ab
 split<;>rename_i h1<;>split<;>rename_i h2<;>split<;>rename_i h3
 ·rfl
 ·have:=rmul_nonneg (x:=x) (y:=-y) h2 (by grind); grind
 ·have:=rmul_nonneg (x:=-x) (y:=y) (by grind) h3; grind
 ·grind
 ·exact absurd (rmul_nonneg h2 h3) h1
 ·grind
 ·grind
 ·have:=rmul_nonneg (x:=-x) (y:=-y) (by grind) (by grind); grind
theorem rpow_succ (x:R) (n:Nat):x ^ (n+1)=x ^ n*x:=rfl
theorem rpow_zero (x:R):x ^ 0=1:=rfl
theorem ab_pow (x:R) (n:Nat):ab (x ^ n)=ab x ^ n:=by
 induction n with
 | zero=>exact ab_of (by rw [rpow_zero]; grind)
 | succ n ih=>rw [rpow_succ,rpow_succ,ab_mul,ih]
theorem pow_nonneg {x:R} (h:0≤x) (n:Nat):0≤x ^ n:=by
 induction n with
 | zero=>rw [rpow_zero]; grind
 | succ n ih=>rw [rpow_succ]; exact rmul_nonneg ih h
theorem pow_mono {x y:R} (h:0≤x) (k:x≤y) (n:Nat):x ^ n≤y ^ n:=by
 induction n with
 | zero=>rw [rpow_zero,rpow_zero]; grind
 | succ n ih=>rw [rpow_succ,rpow_succ]; exact rmul_mono ih k (pow_nonneg h n) (by grind)
theorem pow_mul' (x y:R) (n:Nat):(x*y) ^ n=x ^ n*y ^ n:=by
 induction n with
 | zero=>rw [rpow_zero,rpow_zero,rpow_zero]; grind
 | succ n ih=>rw [rpow_succ,rpow_succ,rpow_succ,ih]; grind
theorem has_inv {x:R} (h:x≠0):∃ y,x*y=1:=by
 have pos:∀ x:R,0<x→∃ y,x*y=1:=by
  intro x hx
  induction x using ind
  rename_i a
  obtain ⟨e,he,N,hN⟩:=lt_gap hx
  have h0:∀ n,N≤n→e≤a.f n:=fun n hn=>by have:=hN n hn; simp only [CS.ofRat] at this; grind
  have inv:∀ q:Rat,e≤q→q*q⁻¹=1∧0≤q⁻¹∧q⁻¹≤e⁻¹:=by
   intro q hq
   have h1:q*q⁻¹=1:=Rat.mul_inv_cancel _ (by grind)
   have h2:e*e⁻¹=1:=Rat.mul_inv_cancel _ (by grind)
   have h3:0<q⁻¹:=Rat.inv_pos.2 (by grind)
   have h4:0<e⁻¹:=Rat.inv_pos.2 he
   have h5:=Rat.mul_le_mul_of_nonneg_right (c:=q⁻¹*e⁻¹) hq (Rat.le_of_lt (Rat.mul_pos h3 h4))
   refine ⟨h1,Rat.le_of_lt h3,?_⟩
   have h6:e*(q⁻¹*e⁻¹)=q⁻¹:=by grind
   have h7:q*(q⁻¹*e⁻¹)=e⁻¹:=by grind
   grind
  refine ⟨mk ⟨fun n=>(a.f n)⁻¹,fun d hd=>?_⟩,?_⟩
  ·obtain ⟨c,hc,hc'⟩:=small (e:=d) (B:=e⁻¹*e⁻¹) hd (Rat.mul_pos (Rat.inv_pos.2 he) (Rat.inv_pos.2 he))
   obtain ⟨M,hM⟩:=a.c2 hc
   refine ⟨max N M,fun m n hm hn=>?_⟩
   have k1:=inv _ (h0 m (by omega))
   have k2:=inv _ (h0 n (by omega))
   have k3:=hM n m (by omega) (by omega)
   have k4:=qabs (a:=e⁻¹) (x:=(a.f m)⁻¹) (b:=e⁻¹) (y:=(a.f n)⁻¹) (by grind) (by grind)
   have k5:=qabs k4 k3
   have k6:(a.f m)⁻¹-(a.f n)⁻¹=(a.f m)⁻¹*(a.f n)⁻¹*(a.f n-a.f m):=by grind
   show (a.f m)⁻¹-(a.f n)⁻¹≤d
   rw [k6]; exact Rat.le_trans k5.2 hc'
  ·refine Quotient.sound ⟨fun d hd=>⟨N,fun n hn=>?_⟩,fun d hd=>⟨N,fun n hn=>?_⟩⟩
   ·have:=(inv _ (h0 n hn)).1; simp only [CS.mul,CS.ofRat]; grind
   ·have:=(inv _ (h0 n hn)).1; simp only [CS.mul,CS.ofRat]; grind
 rcases rle_total 0 x with k | k
 ·exact pos x (by grind)
 ·obtain ⟨y,hy⟩:=pos (-x) (by grind)
  exact ⟨-y,by grind⟩
noncomputable instance:Inv R:=⟨fun x=>@dite _ (∃ y,x*y=1) (Classical.propDecidable _) (fun h=>Classical.choose h) fun _=>0⟩
theorem mul_inv {x:R} (h:x≠0):x*x⁻¹=1:=by
 have k:=has_inv h
 have e:x⁻¹=Classical.choose k:=dif_pos k
 rw [e]; exact Classical.choose_spec k
noncomputable instance:Div R:=⟨fun x y=>x*y⁻¹⟩
theorem inv_pos {x:R} (h:0<x):0<x⁻¹:=by
 have h1:=mul_inv (x:=x) (by grind)
 rcases rle_total x⁻¹ 0 with k | k
 ·have:=rmul_nonneg (x:=x) (y:=-x⁻¹) (by grind) (by grind); grind
 ·rcases Classical.em (x⁻¹=0) with q | q
  ·rw [q] at h1; grind
  ·grind
theorem cancel {x y c:R} (hc:0<c) (h:x*c≤y*c):x≤y:=by
 have:=rmul_le h (show 0≤c⁻¹ by have:=inv_pos hc; grind)
 have k:=mul_inv (x:=c) (by grind)
 have h1:x*c*c⁻¹=x:=by grind
 have h2:y*c*c⁻¹=y:=by grind
 grind
theorem small' {e:Rat} (he:0<e) (B:R):∃ d:Rat,0<d∧B*ofQ d≤ofQ e:=by
 obtain ⟨n,hn⟩:=arch B
 obtain ⟨d,hd,h⟩:=small (e:=e) (B:=((n+1:Nat):Rat)) he (by exact_mod_cast Nat.succ_pos n)
 refine ⟨d,hd,?_⟩
 have h1:=ofQ_le.2 h
 rw [ofQ_mul,ofQ_nat,cast_succ] at h1
 have:=rmul_le (show B≤(n:R)+1 by grind) (show 0≤ofQ d by have:=ofQ_pos hd; grind)
 grind
def Conv (s:Nat→R) (x:R):Prop:=∀ e:Rat,0<e→∃ N,∀ n,N≤n→s n-x≤ofQ e∧x-s n≤ofQ e
theorem Conv.le {s t:Nat→R} {x y:R} (h:Conv s x) (k:Conv t y) (N:Nat) (hl:∀ n,N≤n→s n≤t n):x≤y:=eq_of_le fun e he=>by
 obtain ⟨M,hM⟩:=h (e / 2) (by grind)
 obtain ⟨L,hL⟩:=k (e / 2) (by grind)
 have h1:=hM (max N (max M L)) (by omega)
 have h2:=hL (max N (max M L)) (by omega)
 have h3:=hl (max N (max M L)) (by omega)
 have h4:=ofQ_half e
 grind
theorem Conv.uniq {s:Nat→R} {x y:R} (h:Conv s x) (k:Conv s y):x=y:=
 rle_antisymm (h.le k 0 fun n _=>rle_refl _) (k.le h 0 fun n _=>rle_refl _)
theorem Conv.const (x:R):Conv (fun _=>x) x:=fun e he=>⟨0,fun n _=>by have:=ofQ_pos he; grind⟩
theorem Conv.add {s t:Nat→R} {x y:R} (h:Conv s x) (k:Conv t y):Conv (fun n=>s n+t n) (x+y):=fun e he=>by
 obtain ⟨M,hM⟩:=h (e / 2) (by grind)
 obtain ⟨L,hL⟩:=k (e / 2) (by grind)
 refine ⟨max M L,fun n hn=>?_⟩
 have h1:=hM n (by omega)
 have h2:=hL n (by omega)
 have h4:=ofQ_half e
 grind
theorem Conv.mul_c {s:Nat→R} {x:R} (h:Conv s x) (c:R):Conv (fun n=>s n*c) (x*c):=fun e he=>by
 obtain ⟨d,hd,hd'⟩:=small' he (ab c)
 obtain ⟨M,hM⟩:=h d hd
 refine ⟨M,fun n hn=>?_⟩
 have h1:=hM n hn
 have h2:ab ((s n-x)*c)≤ofQ e:=by
  rw [ab_mul]
  have:=rmul_le (ab_le.2 (show -ofQ d≤s n-x∧s n-x≤ofQ d by grind)) (ab_nonneg c)
  grind
 have:=ab_le.1 h2
 grind
theorem Conv.neg {s:Nat→R} {x:R} (h:Conv s x):Conv (fun n=>-s n) (-x):=fun e he=>by
 obtain ⟨N,hN⟩:=h e he
 exact ⟨N,fun n hn=>by have:=hN n hn; grind⟩
theorem Conv.sub {s t:Nat→R} {x y:R} (h:Conv s x) (k:Conv t y):Conv (fun n=>s n-t n) (x-y):=by
 have:=h.add k.neg
 have e:x-y=x + -y:=by grind
 rw [e]
 intro d hd
 obtain ⟨N,hN⟩:=this d hd
 exact ⟨N,fun n hn=>by have:=hN n hn; grind⟩
theorem Conv.shift {s:Nat→R} {x:R} (h:Conv s x) (k:Nat):Conv (fun n=>s (n+k)) x:=fun e he=>by
 obtain ⟨N,hN⟩:=h e he
 exact ⟨N,fun n hn=>hN (n+k) (by omega)⟩
theorem Conv.congr {s t:Nat→R} {x:R} (h:Conv s x) (k:∀ n,s n=t n):Conv t x:=by
 have:s=t:=funext k
 rwa [← this]
theorem Conv.le_c {s:Nat→R} {x y:R} (h:Conv s x) (N:Nat) (hl:∀ n,N≤n→s n≤y):x≤y:=h.le (Conv.const y) N hl
theorem Conv.ge_c {s:Nat→R} {x y:R} (h:Conv s x) (N:Nat) (hl:∀ n,N≤n→y≤s n):y≤x:=(Conv.const y).le h N hl
theorem Conv.ab_le {s:Nat→R} {x y:R} (h:Conv s x) (N:Nat) (hl:∀ n,N≤n→ab (s n)≤y):ab x≤y:=
 An.ab_le.2 ⟨h.ge_c N fun n hn=>(An.ab_le.1 (hl n hn)).1,h.le_c N fun n hn=>(An.ab_le.1 (hl n hn)).2⟩
theorem complete {s:Nat→R} (h:∀ e:Rat,0<e→∃ N,∀ m n,N≤m→N≤n→s m-s n≤ofQ e):∃ x,Conv s x:=by
 have hq:∀ n:Nat,∃ q:Rat,s n-ofQ q≤ofQ (((n+1:Nat):Rat)⁻¹)∧ofQ q-s n≤ofQ (((n+1:Nat):Rat)⁻¹):=fun n=>near (s n) (Rat.inv_pos.2 (by exact_mod_cast Nat.succ_pos n))
 have hsm:∀ e:Rat,0<e→∃ N:Nat,∀ n,N≤n→((n+1:Nat):Rat)⁻¹≤e:=by
  intro e he
  obtain ⟨N,hN⟩:=archQ e⁻¹
  refine ⟨N,fun n hn=>?_⟩
  have h1:e*e⁻¹=1:=Rat.mul_inv_cancel _ (by grind)
  have hp:(0:Rat)<((n+1:Nat):Rat):=by exact_mod_cast Nat.succ_pos n
  have h2:((n+1:Nat):Rat)*((n+1:Nat):Rat)⁻¹=1:=Rat.mul_inv_cancel _ (by grind)
  have h3:(N:Rat)≤((n+1:Nat):Rat):=by exact_mod_cast (by omega:N≤n+1)
  have h4:=Rat.mul_le_mul_of_nonneg_left (c:=e*((n+1:Nat):Rat)⁻¹) (show e⁻¹≤((n+1:Nat):Rat) by grind) (Rat.le_of_lt (Rat.mul_pos he (Rat.inv_pos.2 hp)))
  generalize ((n+1:Nat):Rat)=z at *
  have h5:e*z⁻¹*e⁻¹=z⁻¹:=by grind
  have h6:e*z⁻¹*z=e:=by grind
  grind
 obtain ⟨q,hq⟩:=Classical.axiomOfChoice hq
 have key:∀ e:Rat,0<e→∃ N,∀ m n,N≤m→N≤n→q m-q n≤e:=by
  intro e he
  obtain ⟨N,hN⟩:=h (e / 2) (by grind)
  obtain ⟨M,hM⟩:=hsm (e / 4) (by grind)
  refine ⟨max N M,fun m n hm hn=>?_⟩
  have h1:=hN m n (by omega) (by omega)
  have h2:=ofQ_le.2 (hM m (by omega))
  have h3:=ofQ_le.2 (hM n (by omega))
  have h4:=hq m
  have h5:=hq n
  rw [← ofQ_le,ofQ_sub]
  have h6:ofQ (e / 4)+ofQ (e / 4)=ofQ (e / 2):=by rw [← ofQ_add]; congr 1; grind
  have h7:=ofQ_half e
  grind
 refine ⟨mk ⟨q,key⟩,fun e he=>?_⟩
 obtain ⟨N,hN⟩:=key (e / 2) (by grind)
 obtain ⟨M,hM⟩:=hsm (e / 2) (by grind)
 refine ⟨max N M,fun n hn=>?_⟩
 have h1:=hq n
 have h2:=ofQ_le.2 (hM n (by omega))
 have h3:=ofQ_half e
 have h4:ofQ (q n)-mk ⟨q,key⟩≤ofQ (e / 2):=fun d hd=>⟨N,fun m hm=>by have:=hN n m (by omega) hm; simp only [CS.add,CS.neg,CS.ofRat]; grind⟩
 have h5:mk ⟨q,key⟩-ofQ (q n)≤ofQ (e / 2):=fun d hd=>⟨N,fun m hm=>by have:=hN m n hm (by omega); simp only [CS.add,CS.neg,CS.ofRat]; grind⟩
 grind
theorem between {x y:R} (h:x<y):∃ z,x<z∧z<y:=by
 have k:=ofQ_half 1
 rw [ofQ_one] at k
 generalize ofQ (1 / 2)=c at k
 have e:(x+y)*c+(x+y)*c=x+y:=by grind
 exact ⟨(x+y)*c,by grind,by grind⟩
def psum (a:Nat→R) (x:R):Nat→R
 | 0=>0
 | n+1=>psum a x n+a n*x ^ n
structure Geo (t w:R):Prop where
 h0:0≤t
 h1:t<1
 hw:w*(1-t)=1
theorem Geo.pos {t w:R} (h:Geo t w):0<w:=by
 have h1:=h.h1
 rcases rle_total w 0 with k | k
 ·have:=rmul_nonneg (x:=-w) (y:=1-t) (by grind) (by grind); have:=h.hw; grind
 ·rcases Classical.em (w=0) with q | q
  ·have:=h.hw; subst q; grind
  ·grind
theorem ratio {x r:R} (hx:0≤x) (h:x<r):∃ t w,Geo t w∧x=t*r:=by
 have hr:0<r:=by grind
 have hi:=mul_inv (x:=r) (by grind)
 have h1:x*r⁻¹<1:=by have:=rmul_lt' h (inv_pos hr); grind
 exact ⟨x*r⁻¹,(1-x*r⁻¹)⁻¹,⟨rmul_nonneg hx (by have:=inv_pos hr; grind),h1,by rw [rmul_comm]; exact mul_inv (by grind)⟩,by grind⟩
theorem pow_small {t w:R} (h:Geo t w) (n:Nat):t ^ n*(1+n*(1-t))≤1:=by
 induction n with
 | zero=>rw [rpow_zero,show ((0:Nat):R)=0 from rfl]; grind
 | succ n ih=>
  rw [rpow_succ,cast_succ]
  have h1:t*(1+(n+1)*(1-t))≤1+n*(1-t):=by
   have:=rmul_nonneg (x:=(n:R)+1) (y:=(1-t)*(1-t)) (by have:=cast_nonneg n; grind) (sq_nonneg _)
   grind
  have h2:=rmul_le' h1 (pow_nonneg h.h0 n)
  have h3:t ^ n*t*(1+(n+1)*(1-t))=t ^ n*(t*(1+(n+1)*(1-t))):=by grind
  grind
theorem pow_lim {t w:R} (h:Geo t w) {B:R} (hB:0≤B) {e:Rat} (he:0<e):∃ N:Nat,∀ n:Nat,N≤n→B*t ^ n≤ofQ e:=by
 have hd:0<1-t:=by have:=h.h1; grind
 have hed:=rmul_pos (ofQ_pos he) hd
 obtain ⟨N,hN⟩:=arch (B*(ofQ e*(1-t))⁻¹)
 have hi:=mul_inv (x:=ofQ e*(1-t)) (by grind)
 have h1:B≤N*(ofQ e*(1-t)):=by
  have:=rmul_le hN (show 0≤ofQ e*(1-t) by grind)
  have k:B*(ofQ e*(1-t))⁻¹*(ofQ e*(1-t))=B:=by grind
  grind
 refine ⟨N,fun n hn=>?_⟩
 have h2:=rmul_le (cast_le hn) (show 0≤ofQ e*(1-t) by grind)
 have h3:=pow_small h n
 have h4:=rmul_le (show B≤ofQ e*(1+n*(1-t)) by have:=ofQ_pos he; grind) (pow_nonneg h.h0 n)
 have h5:=rmul_le' h3 (show 0≤ofQ e by have:=ofQ_pos he; grind)
 grind
structure PB (a:Nat→R) (r K:R):Prop where
 r0:0<r
 h:∀ n,ab (a n)*r ^ n≤K
theorem PB.k0 {a:Nat→R} {r K:R} (h:PB a r K):0≤K:=by
 have h1:=h.h 0
 have h2:=ab_nonneg (a 0)
 rw [rpow_zero] at h1; grind
theorem PB.term {a:Nat→R} {r K:R} (h:PB a r K) {t x:R} (ht:0≤t) (hx:ab x≤t*r) (n:Nat):ab (a n*x ^ n)≤K*t ^ n:=by
 rw [ab_mul,ab_pow]
 have h1:=pow_mono (ab_nonneg x) hx n
 rw [pow_mul'] at h1
 have h2:=rmul_le' h1 (ab_nonneg (a n))
 have h3:=rmul_le (h.h n) (pow_nonneg ht n)
 have h4:ab (a n)*(t ^ n*r ^ n)=ab (a n)*r ^ n*t ^ n:=by grind
 grind
theorem psum_tail {a:Nat→R} {r K:R} (h:PB a r K) {t w x:R} (hg:Geo t w) (hx:ab x≤t*r) (m k:Nat):ab (psum a x (m+k)-psum a x m)+K*w*t ^ (m+k)≤K*w*t ^ m:=by
 induction k with
 | zero=>
  have:psum a x (m+0)-psum a x m=0:=by rw [Nat.add_zero]; grind
  rw [this,ab_zero,Nat.add_zero]; grind
 | succ k ih=>
  have h1:=h.term hg.h0 hx (m+k)
  have h2:=ab_add (psum a x (m+k)-psum a x m) (a (m+k)*x ^ (m+k))
  have h3:psum a x (m+(k+1))-psum a x m=psum a x (m+k)-psum a x m+a (m+k)*x ^ (m+k):=by
   show psum a x (m+k)+a (m+k)*x ^ (m+k)-psum a x m=_; grind
  rw [h3]
  have h4:t ^ (m+(k+1))=t ^ (m+k)*t:=rfl
  have h5:=hg.hw
  have h6:K*t ^ (m+k)+K*w*(t ^ (m+k)*t)=K*w*t ^ (m+k):=by grind
  rw [h4]; grind
theorem psum_conv {a:Nat→R} {r K:R} (h:PB a r K) {x:R} (hx:ab x<r):∃ y,Conv (psum a x) y:=by
 obtain ⟨t,w,hg,hxt⟩:=ratio (ab_nonneg x) hx
 refine complete fun e he=>?_
 have hKw:0≤K*w:=rmul_nonneg h.k0 (by have:=hg.pos; grind)
 obtain ⟨N,hN⟩:=pow_lim hg hKw (e:=e / 2) (by grind)
 have key:∀ n,N≤n→ab (psum a x n-psum a x N)≤ofQ (e / 2):=by
  intro n hn
  obtain ⟨k,rfl⟩:∃ k,n=N+k:=⟨n-N,by omega⟩
  have h1:=psum_tail h hg (show ab x≤t*r by grind) N k
  have h2:=hN N (Nat.le_refl _)
  have h3:=rmul_nonneg hKw (pow_nonneg hg.h0 (N+k))
  grind
 refine ⟨N,fun m n hm hn=>?_⟩
 have h1:=ab_le.1 (key m hm)
 have h2:=ab_le.1 (key n hn)
 have h3:=ofQ_half e
 grind
noncomputable def ps (a:Nat→R) (x:R):R:=@dite _ (∃ y,Conv (psum a x) y) (Classical.propDecidable _) (fun h=>Classical.choose h) fun _=>0
theorem ps_conv {a:Nat→R} {r K:R} (h:PB a r K) {x:R} (hx:ab x<r):Conv (psum a x) (ps a x):=by
 have k:=psum_conv h hx
 have e:ps a x=Classical.choose k:=dif_pos k
 rw [e]; exact Classical.choose_spec k
theorem ps_tail {a:Nat→R} {r K:R} (h:PB a r K) {t w x:R} (hg:Geo t w) (hx:ab x≤t*r) (m:Nat):ab (ps a x-psum a x m)≤K*w*t ^ m:=by
 have hxr:ab x<r:=by have:=rmul_lt' hg.h1 h.r0; grind
 have h1:=((ps_conv h hxr).shift m).sub (Conv.const (psum a x m))
 refine h1.ab_le 0 fun n _=>?_
 have h2:=psum_tail h hg hx m n
 rw [Nat.add_comm m n] at h2
 have h3:=rmul_nonneg (rmul_nonneg h.k0 (show 0≤w by have:=hg.pos; grind)) (pow_nonneg hg.h0 (n+m))
 grind
theorem ps_eq {a:Nat→R} {x y:R} (h:Conv (psum a x) y):ps a x=y:=by
 have k:∃ y,Conv (psum a x) y:=⟨y,h⟩
 have e:ps a x=Classical.choose k:=dif_pos k
 rw [e]; exact (Classical.choose_spec k).uniq h
theorem psum_zero (a:Nat→R) (n:Nat):psum a 0 (n+1)=a 0:=by
 induction n with
 | zero=>show 0+a 0*(0:R) ^ 0=a 0; rw [rpow_zero]; grind
 | succ n ih=>show psum a 0 (n+1)+a (n+1)*(0:R) ^ (n+1)=a 0; rw [ih,rpow_succ]; grind
theorem ps_zero (a:Nat→R):ps a 0=a 0:=ps_eq fun e he=>⟨1,fun n hn=>by
 obtain ⟨k,rfl⟩:∃ k,n=k+1:=⟨n-1,by omega⟩
 rw [psum_zero]; have:=ofQ_pos he; grind⟩
def da (a:Nat→R) (n:Nat):R:=((n+1:Nat):R)*a (n+1)
def dq (x y:R):Nat→R
 | 0=>0
 | n+1=>y*dq x y n+((n+1:Nat):R)*x ^ n
theorem dq_eq (x y:R) (n:Nat):y ^ (n+1)-x ^ (n+1)-((n+1:Nat):R)*x ^ n*(y-x)=dq x y n*((y-x)*(y-x)):=by
 induction n with
 | zero=>
  rw [show dq x y 0=0 from rfl,rpow_succ,rpow_succ,rpow_zero,rpow_zero,show ((0+1:Nat):R)=1 from rfl]; grind
 | succ n ih=>
  rw [show dq x y (n+1)=y*dq x y n+((n+1:Nat):R)*x ^ n from rfl,rpow_succ y,rpow_succ x (n+1),cast_succ (n+1)]
  have h:x ^ (n+1)=x ^ n*x:=rfl
  generalize dq x y n=d at *
  generalize y ^ (n+1)=Y at *
  generalize ((n+1:Nat):R)=c at *
  rw [h] at ih ⊢
  generalize x ^ n=z at *
  grind
def gq (t:R):Nat→R
 | 0=>0
 | n+1=>t*gq t n+((n+1:Nat):R)*t ^ n
theorem gq_nonneg {t:R} (h:0≤t) (n:Nat):0≤gq t n:=by
 induction n with
 | zero=>exact rle_refl 0
 | succ n ih=>
  have h1:=rmul_nonneg h ih
  have h2:=rmul_nonneg (cast_nonneg (n+1)) (pow_nonneg h n)
  show 0≤t*gq t n+((n+1:Nat):R)*t ^ n
  grind
theorem dq_le {t r x y:R} (ht:0≤t) (hr:0≤r) (hx:ab x≤t*r) (hy:ab y≤t*r) (n:Nat):ab (dq x y n)*r≤gq t n*r ^ n:=by
 induction n with
 | zero=>rw [show dq x y 0=0 from rfl,show gq t 0=0 from rfl,ab_zero]; grind
 | succ n ih=>
  rw [show dq x y (n+1)=y*dq x y n+((n+1:Nat):R)*x ^ n from rfl,show gq t (n+1)=t*gq t n+((n+1:Nat):R)*t ^ n from rfl,rpow_succ r]
  have h1:=ab_add (y*dq x y n) (((n+1:Nat):R)*x ^ n)
  rw [ab_mul,ab_mul,ab_pow,ab_of (cast_nonneg (n+1))] at h1
  have h2:=pow_mono (ab_nonneg x) hx n
  rw [pow_mul'] at h2
  have h3:=rmul_le' h2 (cast_nonneg (n+1))
  have h4:=rmul_mono hy ih (ab_nonneg y) (rmul_nonneg (gq_nonneg ht n) (pow_nonneg hr n))
  have h5:=rmul_le h1 hr
  have h6:=rmul_le h3 hr
  have h7:(ab y*ab (dq x y n)+((n+1:Nat):R)*ab x ^ n)*r=ab y*(ab (dq x y n)*r)+((n+1:Nat):R)*ab x ^ n*r:=by grind
  have h8:(t*gq t n+((n+1:Nat):R)*t ^ n)*(r ^ n*r)=t*r*(gq t n*r ^ n)+((n+1:Nat):R)*(t ^ n*r ^ n)*r:=by grind
  grind
def e0 (t:R):Nat→R
 | 0=>0
 | n+1=>e0 t n+t ^ n
def e1 (t:R):Nat→R
 | 0=>0
 | n+1=>e1 t n+((n+1:Nat):R)*t ^ n
def e2 (t:R):Nat→R
 | 0=>0
 | n+1=>e2 t n+gq t n
theorem e0_eq (t:R) (n:Nat):(1-t)*e0 t n+t ^ n=1:=by
 induction n with
 | zero=>rw [show e0 t 0=0 from rfl,rpow_zero]; grind
 | succ n ih=>rw [show e0 t (n+1)=e0 t n+t ^ n from rfl,rpow_succ]; grind
theorem e1_eq (t:R) (n:Nat):(1-t)*e1 t n+n*t ^ n=e0 t n:=by
 induction n with
 | zero=>rw [show e0 t 0=0 from rfl,show e1 t 0=0 from rfl,show ((0:Nat):R)=0 from rfl]; grind
 | succ n ih=>rw [show e0 t (n+1)=e0 t n+t ^ n from rfl,show e1 t (n+1)=e1 t n+((n+1:Nat):R)*t ^ n from rfl,rpow_succ,cast_succ]; grind
theorem e2_eq (t:R) (n:Nat):(1-t)*e2 t n+gq t n=e1 t n:=by
 induction n with
 | zero=>rw [show e2 t 0=0 from rfl,show e1 t 0=0 from rfl,show gq t 0=0 from rfl]; grind
 | succ n ih=>rw [show e2 t (n+1)=e2 t n+gq t n from rfl,show e1 t (n+1)=e1 t n+((n+1:Nat):R)*t ^ n from rfl,show gq t (n+1)=t*gq t n+((n+1:Nat):R)*t ^ n from rfl]; grind
theorem by_w {t w x y:R} (hg:Geo t w) (h:(1-t)*x≤y):x≤w*y:=by
 have h1:=rmul_le' h (show 0≤w by have:=hg.pos; grind)
 have h2:=hg.hw
 have h3:w*((1-t)*x)=x:=by grind
 grind
theorem e1_le {t w:R} (hg:Geo t w) (n:Nat):e1 t n≤w*w:=by
 have h1:=e0_eq t n
 have h2:=e1_eq t n
 have h3:=by_w hg (show (1-t)*e0 t n≤1 by have:=pow_nonneg hg.h0 n; grind)
 refine by_w hg ?_
 have:=rmul_nonneg (cast_nonneg n) (pow_nonneg hg.h0 n)
 grind
theorem e2_le {t w:R} (hg:Geo t w) (n:Nat):e2 t n≤w*(w*w):=by
 refine by_w hg ?_
 have h1:=e2_eq t n
 have h2:=e1_le hg n
 have h3:=gq_nonneg hg.h0 n
 grind
theorem nt_le {t w:R} (hg:Geo t w) (n:Nat):((n+1:Nat):R)*t ^ n≤w*w:=by
 have h1:=e1_le hg (n+1)
 rw [show e1 t (n+1)=e1 t n+((n+1:Nat):R)*t ^ n from rfl] at h1
 have h2:0≤e1 t n:=by
  clear h1
  induction n with
  | zero=>exact rle_refl 0
  | succ n ih=>
   have:=rmul_nonneg (cast_nonneg (n+1)) (pow_nonneg hg.h0 n)
   show 0≤e1 t n+((n+1:Nat):R)*t ^ n
   grind
 grind
theorem PB.da {a:Nat→R} {r K:R} (h:PB a r K) {s:R} (hs:0<s) (hsr:s<r):∃ L,PB (da a) s L:=by
 obtain ⟨t,w,hg,e⟩:=ratio (show 0≤s by grind) hsr
 have hi:=mul_inv (x:=r) (by have:=h.r0; grind)
 refine ⟨K*(w*w)*r⁻¹,hs,fun n=>?_⟩
 have h1:=nt_le hg n
 have h2:=h.h (n+1)
 have hri:=inv_pos h.r0
 rw [An.da,ab_mul,ab_of (cast_nonneg (n+1)),e,pow_mul']
 have h3:=rmul_mono h1 h2 (rmul_nonneg (cast_nonneg (n+1)) (pow_nonneg hg.h0 n)) h.k0
 have h4:=rmul_le h3 (show 0≤r⁻¹ by grind)
 have h5:((n+1:Nat):R)*t ^ n*(ab (a (n+1))*r ^ (n+1))*r⁻¹=((n+1:Nat):R)*ab (a (n+1))*(t ^ n*r ^ n):=by rw [rpow_succ]; grind
 grind
def sq (a:Nat→R) (x y:R):Nat→R
 | 0=>0
 | n+1=>sq a x y n+a (n+1)*dq x y n
theorem sq_eq (a:Nat→R) (x y:R) (n:Nat):psum a y (n+1)-psum a x (n+1)-psum (da a) x n*(y-x)=sq a x y n*((y-x)*(y-x)):=by
 induction n with
 | zero=>
  rw [show sq a x y 0=0 from rfl,show psum (da a) x 0=0 from rfl,show psum a y (0+1)=0+a 0*y ^ 0 from rfl,show psum a x (0+1)=0+a 0*x ^ 0 from rfl,rpow_zero,rpow_zero]; grind
 | succ n ih=>
  rw [show sq a x y (n+1)=sq a x y n+a (n+1)*dq x y n from rfl,show psum (da a) x (n+1)=psum (da a) x n+da a n*x ^ n from rfl,show psum a y (n+1+1)=psum a y (n+1)+a (n+1)*y ^ (n+1) from rfl,show psum a x (n+1+1)=psum a x (n+1)+a (n+1)*x ^ (n+1) from rfl]
  have h:=dq_eq x y n
  rw [da]
  generalize dq x y n=d at *
  generalize y ^ (n+1)=Y at *
  generalize x ^ (n+1)=X at *
  generalize x ^ n=z at *
  generalize ((n+1:Nat):R)=c at *
  generalize a (n+1)=A at *
  generalize psum a y (n+1)=p1 at *
  generalize psum a x (n+1)=p2 at *
  generalize psum (da a) x n=p3 at *
  generalize sq a x y n=p4 at *
  have h8:Y=X+c*z*(y-x)+d*((y-x)*(y-x)):=by grind
  have h9:p1=p2+p3*(y-x)+p4*((y-x)*(y-x)):=by grind
  rw [h8,h9]; grind
theorem sq_le {a:Nat→R} {r K:R} (h:PB a r K) {t x y:R} (ht:0≤t) (hx:ab x≤t*r) (hy:ab y≤t*r) (n:Nat):ab (sq a x y n)*(r*r)≤K*e2 t n:=by
 induction n with
 | zero=>rw [show sq a x y 0=0 from rfl,show e2 t 0=0 from rfl,ab_zero]; grind
 | succ n ih=>
  rw [show sq a x y (n+1)=sq a x y n+a (n+1)*dq x y n from rfl,show e2 t (n+1)=e2 t n+gq t n from rfl]
  have h1:=ab_add (sq a x y n) (a (n+1)*dq x y n)
  rw [ab_mul] at h1
  have hr:=h.r0
  have h2:=dq_le ht (by grind) hx hy n
  have h3:=rmul_le' h2 (rmul_nonneg (ab_nonneg (a (n+1))) (show 0≤r by grind))
  have h4:=rmul_le (h.h (n+1)) (gq_nonneg ht n)
  have h5:=rmul_le h1 (show 0≤r*r from rmul_nonneg (by grind) (by grind))
  have h6:ab (a (n+1))*r*(ab (dq x y n)*r)=ab (a (n+1))*ab (dq x y n)*(r*r):=by grind
  have h7:ab (a (n+1))*r*(gq t n*r ^ n)=ab (a (n+1))*r ^ (n+1)*gq t n:=by rw [rpow_succ]; grind
  grind
theorem ps_quad {a:Nat→R} {r K:R} (h:PB a r K) {s:R} (hs:0≤s) (hsr:s<r):∃ C,0≤C∧∀ x y,ab x≤s→ab y≤s→ab (ps a y-ps a x-ps (da a) x*(y-x))≤C*((y-x)*(y-x)):=by
 obtain ⟨t,w,hg,e⟩:=ratio hs hsr
 have hr:=h.r0
 have hrr:=rmul_pos hr hr
 have hi:=mul_inv (x:=r*r) (by grind)
 have hip:=inv_pos hrr
 have hwp:=hg.pos
 have hKw:0≤K*(w*(w*w)):=rmul_nonneg h.k0 (rmul_nonneg (by grind) (rmul_nonneg (by grind) (by grind)))
 refine ⟨K*(w*(w*w))*(r*r)⁻¹,rmul_nonneg hKw (by grind),fun x y hx hy=>?_⟩
 obtain ⟨s',hs1,hs2⟩:∃ s',s<s'∧s'<r:=between hsr
 obtain ⟨L,hL⟩:=h.da (s:=s') (by grind) hs2
 have c1:=(ps_conv h (show ab y<r by grind)).shift 1
 have c2:=(ps_conv h (show ab x<r by grind)).shift 1
 have c3:=(ps_conv hL (show ab x<s' by grind)).mul_c (y-x)
 refine ((c1.sub c2).sub c3).ab_le 0 fun n _=>?_
 rw [sq_eq,ab_mul,ab_of (sq_nonneg _)]
 refine rmul_le ?_ (sq_nonneg _)
 have h1:=sq_le h hg.h0 (show ab x≤t*r by grind) (show ab y≤t*r by grind) n
 have h2:=rmul_le' (e2_le hg n) h.k0
 refine cancel hrr ?_
 have h3:K*(w*(w*w))*(r*r)⁻¹*(r*r)=K*(w*(w*w)):=by grind
 grind
def In (a b x:R):Prop:=a≤x∧x≤b
def Dv (f g:R→R) (a b:R):Prop:=∃ C,0≤C∧(∀ x,In a b x→ab (f x)≤C∧ab (g x)≤C)∧∀ x y,In a b x→In a b y→ab (f y-f x)≤C*ab (y-x)∧ab (f y-f x-g x*(y-x))≤C*((y-x)*(y-x))
theorem Dv.congr {f g f' g':R→R} {a b:R} (h:Dv f g a b) (h1:∀ x,In a b x→f x=f' x) (h2:∀ x,In a b x→g x=g' x):Dv f' g' a b:=by
 obtain ⟨C,hC,hb,hq⟩:=h
 refine ⟨C,hC,fun x hx=>?_,fun x y hx hy=>?_⟩
 ·rw [← h1 x hx,← h2 x hx]; exact hb x hx
 ·rw [← h1 x hx,← h2 x hx,← h1 y hy]; exact hq x y hx hy
theorem Dv.sub_iv {f g:R→R} {a b:R} (h:Dv f g a b) {c d:R} (h1:a≤c) (h2:d≤b):Dv f g c d:=by
 obtain ⟨C,hC,hb,hq⟩:=h
 have k:∀ x,In c d x→In a b x:=fun x hx=>⟨rle_trans h1 hx.1,rle_trans hx.2 h2⟩
 exact ⟨C,hC,fun x hx=>hb x (k x hx),fun x y hx hy=>hq x y (k x hx) (k y hy)⟩
theorem Dv.const (c a b:R):Dv (fun _=>c) (fun _=>0) a b:=by
 refine ⟨ab c,ab_nonneg c,fun x _=>⟨rle_refl _,by rw [ab_zero]; exact ab_nonneg c⟩,fun x y _ _=>?_⟩
 have e1:c-c=0:=by grind
 have e2:c-c-0*(y-x)=0:=by grind
 rw [e2,e1,ab_zero]
 exact ⟨rmul_nonneg (ab_nonneg c) (ab_nonneg _),rmul_nonneg (ab_nonneg c) (sq_nonneg _)⟩
theorem ab_one:ab 1=1:=ab_of (by have:=rzero_lt_one; grind)
theorem Dv.id (a b:R):Dv (fun x=>x) (fun _=>1) a b:=by
 have h1:=ab_nonneg a
 have h2:=ab_nonneg b
 have h3:=le_ab a
 have h4:=le_ab b
 refine ⟨ab a+ab b+1,by grind,fun x hx=>⟨ab_le.2 ?_,by rw [ab_one]; grind⟩,fun x y _ _=>?_⟩
 ·have:=hx.1; have:=hx.2; grind
 ·have e2:y-x-1*(y-x)=0:=by grind
  rw [e2,ab_zero]
  refine ⟨?_,rmul_nonneg (by grind) (sq_nonneg _)⟩
  have:=rmul_le (show 1≤ab a+ab b+1 by grind) (ab_nonneg (y-x)); grind
theorem Dv.add {f g f' g':R→R} {a b:R} (h:Dv f g a b) (k:Dv f' g' a b):Dv (fun x=>f x+f' x) (fun x=>g x+g' x) a b:=by
 obtain ⟨C,hC,hb,hq⟩:=h
 obtain ⟨D,hD,kb,kq⟩:=k
 refine ⟨C+D,by grind,fun x hx=>?_,fun x y hx hy=>?_⟩
 ·have h1:=hb x hx; have h2:=kb x hx
  have h3:=ab_add (f x) (f' x); have h4:=ab_add (g x) (g' x)
  grind
 ·have h1:=hq x y hx hy; have h2:=kq x y hx hy
  have h3:=ab_add (f y-f x) (f' y-f' x)
  have h4:=ab_add (f y-f x-g x*(y-x)) (f' y-f' x-g' x*(y-x))
  have e1:f y+f' y-(f x+f' x)=f y-f x+(f' y-f' x):=by grind
  have e2:f y+f' y-(f x+f' x)-(g x+g' x)*(y-x)=f y-f x-g x*(y-x)+(f' y-f' x-g' x*(y-x)):=by grind
  rw [e2,e1]
  grind
theorem Dv.mul {f g f' g':R→R} {a b:R} (h:Dv f g a b) (k:Dv f' g' a b):Dv (fun x=>f x*f' x) (fun x=>g x*f' x+f x*g' x) a b:=by
 obtain ⟨C,hC,hb,hq⟩:=h
 obtain ⟨D,hD,kb,kq⟩:=k
 have hCD:=rmul_nonneg hC hD
 refine ⟨3*(C*D),by grind,fun x hx=>?_,fun x y hx hy=>?_⟩
 ·have h1:=hb x hx; have h2:=kb x hx
  have h3:=rmul_mono h1.1 h2.1 (ab_nonneg _) hD
  have h4:=rmul_mono h1.2 h2.1 (ab_nonneg _) hD
  have h5:=rmul_mono h1.1 h2.2 (ab_nonneg _) hD
  have h6:=ab_add (g x*f' x) (f x*g' x)
  rw [ab_mul,ab_mul] at h6
  rw [ab_mul]
  grind
 ·have h1:=hq x y hx hy; have h2:=kq x y hx hy; have h3:=hb x hx; have h4:=kb y hy; have h4':=kb x hx
  have hn:=ab_nonneg (y-x)
  have hsq:=sq_nonneg (y-x)
  have e0:ab (y-x)*ab (y-x)=(y-x)*(y-x):=by rw [← ab_mul,ab_of hsq]
  constructor
  ·have e1:f y*f' y-f x*f' x=(f y-f x)*f' y+f x*(f' y-f' x):=by grind
   have h5:=ab_add ((f y-f x)*f' y) (f x*(f' y-f' x))
   rw [ab_mul,ab_mul] at h5
   have h6:=rmul_mono h1.1 h4.1 (ab_nonneg _) hD
   have h7:=rmul_mono h3.1 h2.1 (ab_nonneg _) (rmul_nonneg hD hn)
   have h8:=rmul_nonneg hCD hn
   rw [e1]; grind
  ·have e1:f y*f' y-f x*f' x-(g x*f' x+f x*g' x)*(y-x)=f x*(f' y-f' x-g' x*(y-x))+f' x*(f y-f x-g x*(y-x))+(f y-f x)*(f' y-f' x):=by grind
   have h5:=ab_add (f x*(f' y-f' x-g' x*(y-x))+f' x*(f y-f x-g x*(y-x))) ((f y-f x)*(f' y-f' x))
   have h6:=ab_add (f x*(f' y-f' x-g' x*(y-x))) (f' x*(f y-f x-g x*(y-x)))
   rw [ab_mul] at h5
   rw [ab_mul,ab_mul] at h6
   have h7:=rmul_mono h3.1 h2.2 (ab_nonneg _) (rmul_nonneg hD hsq)
   have h8:=rmul_mono h4'.1 h1.2 (ab_nonneg _) (rmul_nonneg hC hsq)
   have h9:=rmul_mono h1.1 h2.1 (ab_nonneg _) (rmul_nonneg hD hn)
   have e2:C*ab (y-x)*(D*ab (y-x))=C*D*((y-x)*(y-x)):=by rw [← e0]; grind
   rw [e1]; grind
theorem Dv.smul {f g:R→R} {a b:R} (c:R) (h:Dv f g a b):Dv (fun x=>c*f x) (fun x=>c*g x) a b:=
 ((Dv.const c a b).mul h).congr (fun _ _=>rfl) fun x _=>by grind
theorem Dv.neg {f g:R→R} {a b:R} (h:Dv f g a b):Dv (fun x=>-f x) (fun x=>-g x) a b:=
 (h.smul (-1)).congr (fun x _=>by grind) fun x _=>by grind
theorem Dv.sub {f g f' g':R→R} {a b:R} (h:Dv f g a b) (k:Dv f' g' a b):Dv (fun x=>f x-f' x) (fun x=>g x-g' x) a b:=
 (h.add k.neg).congr (fun x _=>by grind) fun x _=>by grind
theorem Dv.comp {f g f' g':R→R} {a b:R} {c d:R} (h:Dv f g a b) (k:Dv f' g' c d) (hr:∀ x,In a b x→In c d (f x)):Dv (fun x=>f' (f x)) (fun x=>g' (f x)*g x) a b:=by
 obtain ⟨C,hC,hb,hq⟩:=h
 obtain ⟨D,hD,kb,kq⟩:=k
 have hCD:=rmul_nonneg hC hD
 have hCCD:=rmul_nonneg hC hCD
 refine ⟨D+C*D+C*(C*D),by grind,fun x hx=>?_,fun x y hx hy=>?_⟩
 ·have h1:=hb x hx; have h2:=kb _ (hr x hx)
  have h3:=rmul_mono h1.2 h2.2 (ab_nonneg _) hD
  rw [ab_mul]; grind
 ·have h1:=hq x y hx hy; have h2:=kq _ _ (hr x hx) (hr y hy); have h3:=hb x hx; have h4:=kb _ (hr x hx)
  have hn:=ab_nonneg (y-x)
  have hsq:=sq_nonneg (y-x)
  have e0:ab (y-x)*ab (y-x)=(y-x)*(y-x):=by rw [← ab_mul,ab_of hsq]
  have e3:ab (f y-f x)*ab (f y-f x)=(f y-f x)*(f y-f x):=by rw [← ab_mul,ab_of (sq_nonneg _)]
  constructor
  ·have h5:=rmul_le' h1.1 hD
   have h6:=rmul_nonneg hD hn
   have h7:=rmul_nonneg hCCD hn
   grind
  ·have e1:f' (f y)-f' (f x)-g' (f x)*g x*(y-x)=(f' (f y)-f' (f x)-g' (f x)*(f y-f x))+g' (f x)*(f y-f x-g x*(y-x)):=by grind
   have h5:=ab_add (f' (f y)-f' (f x)-g' (f x)*(f y-f x)) (g' (f x)*(f y-f x-g x*(y-x)))
   rw [ab_mul] at h5
   have h6:=rmul_mono h4.2 h1.2 (ab_nonneg _) (rmul_nonneg hC hsq)
   have h7:=rmul_mono h1.1 h1.1 (ab_nonneg _) (rmul_nonneg hC hn)
   have h8:C*ab (y-x)*(C*ab (y-x))=C*C*((y-x)*(y-x)):=by rw [← e0]; grind
   have h9:=rmul_le' (show (f y-f x)*(f y-f x)≤C*C*((y-x)*(y-x)) by grind) hD
   have h10:=rmul_nonneg hD hsq
   rw [e1]; grind
theorem Dv.ps {u:Nat→R} {r K:R} (h:PB u r K) {s:R} (hs:0≤s) (hsr:s<r):Dv (ps u) (ps (da u)) (-s) s:=by
 obtain ⟨C,hC,hq⟩:=ps_quad h hs hsr
 obtain ⟨t,w,hg,e⟩:=ratio hs hsr
 obtain ⟨s',hs1,hs2⟩:=between hsr
 obtain ⟨L,hL⟩:=h.da (s:=s') (by grind) hs2
 obtain ⟨t',w',hg',e'⟩:=ratio hs hs1
 have b1:∀ x,In (-s) s x→ab x≤s:=fun x hx=>ab_le.2 hx
 have b2:∀ x,In (-s) s x→ab (An.ps u x)≤K*w:=fun x hx=>by
  have h1:=ps_tail h hg (show ab x≤t*r by have:=b1 x hx; grind) 0
  rw [show psum u x 0=0 from rfl,rpow_zero] at h1
  have h2:An.ps u x-0=An.ps u x:=by grind
  rw [h2] at h1; grind
 have b3:∀ x,In (-s) s x→ab (An.ps (da u) x)≤L*w':=fun x hx=>by
  have h1:=ps_tail hL hg' (show ab x≤t'*s' by have:=b1 x hx; grind) 0
  rw [show psum (da u) x 0=0 from rfl,rpow_zero] at h1
  have h2:An.ps (da u) x-0=An.ps (da u) x:=by grind
  rw [h2] at h1; grind
 have hKw:0≤K*w:=rmul_nonneg h.k0 (by have:=hg.pos; grind)
 have hLw:0≤L*w':=rmul_nonneg hL.k0 (by have:=hg'.pos; grind)
 have hCs:=rmul_nonneg hC hs
 refine ⟨K*w+L*w'+C+2*(C*s),by grind,fun x hx=>⟨by have:=b2 x hx; grind,by have:=b3 x hx; grind⟩,fun x y hx hy=>?_⟩
 have h1:=hq x y (b1 x hx) (b1 y hy)
 have hn:=ab_nonneg (y-x)
 have hsq:=sq_nonneg (y-x)
 have e0:ab (y-x)*ab (y-x)=(y-x)*(y-x):=by rw [← ab_mul,ab_of hsq]
 have hd:ab (y-x)≤2*s:=by have:=hx.1; have:=hx.2; have:=hy.1; have:=hy.2; exact ab_le.2 (by grind)
 constructor
 ·have e1:An.ps u y-An.ps u x=(An.ps u y-An.ps u x-An.ps (da u) x*(y-x))+An.ps (da u) x*(y-x):=by grind
  have h2:=ab_add (An.ps u y-An.ps u x-An.ps (da u) x*(y-x)) (An.ps (da u) x*(y-x))
  rw [ab_mul] at h2
  have h3:=rmul_le (b3 x hx) hn
  have h4:=rmul_le' hd (rmul_nonneg hC hn)
  have h5:=rmul_nonneg hKw hn
  have h6:=rmul_nonneg hC hn
  rw [← e0] at h1
  rw [e1]; grind
 ·have h2:=rmul_nonneg hKw hsq
  have h3:=rmul_nonneg hLw hsq
  have h4:=rmul_nonneg hCs hsq
  grind
theorem Dv.mono {f g:R→R} {a b:R} (h:Dv f g a b) (hab:a≤b) (hg:∀ x,In a b x→0≤g x):f a≤f b:=by
 obtain ⟨C,hC,_,hq⟩:=h
 refine eq_of_le fun e he=>?_
 have hep:=ofQ_pos he
 obtain ⟨N,hN⟩:=arch (C*((b-a)*(b-a))*(ofQ e)⁻¹)
 have hi:=mul_inv (x:=ofQ e) (by grind)
 have h1:C*((b-a)*(b-a))≤((N+1:Nat):R)*ofQ e:=by
  have h2:=rmul_le hN (show 0≤ofQ e by grind)
  have h3:C*((b-a)*(b-a))*(ofQ e)⁻¹*ofQ e=C*((b-a)*(b-a)):=by grind
  rw [cast_succ]; grind
 have hn0:(0:R)<((N+1:Nat):R):=by rw [cast_succ]; have:=cast_nonneg N; have:=rzero_lt_one; grind
 have hni:=mul_inv (x:=((N+1:Nat):R)) (by grind)
 have hnp:=inv_pos hn0
 generalize hd:(b-a)*((N+1:Nat):R)⁻¹=d
 have hd0:0≤d:=by rw [← hd]; exact rmul_nonneg (by grind) (by grind)
 have hdn:((N+1:Nat):R)*d=b-a:=by grind
 have step:∀ i:Nat,i≤N+1→f a-i*(C*(d*d))≤f (a+i*d):=by
  intro i
  induction i with
  | zero=>
   intro _
   have:a+((0:Nat):R)*d=a:=by rw [show ((0:Nat):R)=0 from rfl]; grind
   rw [this,show ((0:Nat):R)=0 from rfl]; grind
  | succ i ih=>
   intro hi
   have h2:=ih (by omega)
   have in0:In a b (a+i*d):=by
    have k1:=rmul_le (cast_le (show i≤N+1 by omega)) hd0
    have k2:=rmul_nonneg (cast_nonneg i) hd0
    exact ⟨by grind,by grind⟩
   have in1:In a b (a+((i+1:Nat):R)*d):=by
    have k1:=rmul_le (cast_le hi) hd0
    have k2:=rmul_nonneg (cast_nonneg (i+1)) hd0
    exact ⟨by grind,by grind⟩
   have h3:=(hq _ _ in0 in1).2
   have e1:a+((i+1:Nat):R)*d-(a+i*d)=d:=by rw [cast_succ]; grind
   rw [e1] at h3
   have h4:=(ab_le.1 h3).1
   have h5:=rmul_nonneg (hg _ in0) hd0
   have h6:((i+1:Nat):R)*(C*(d*d))=i*(C*(d*d))+C*(d*d):=by rw [cast_succ]; grind
   rw [h6]; grind
 have h2:=step (N+1) (Nat.le_refl _)
 have e2:a+((N+1:Nat):R)*d=b:=by grind
 rw [e2] at h2
 have h3:((N+1:Nat):R)*(C*(d*d))≤ofQ e:=by
  refine cancel hn0 ?_
  have:((N+1:Nat):R)*(C*(d*d))*((N+1:Nat):R)=C*((b-a)*(b-a)):=by rw [← hdn]; grind
  rw [this]; grind
 grind
theorem Dv.fixed {f g:R→R} {a b:R} (h:Dv f g a b) (hab:a≤b) (hg:∀ x,In a b x→g x=0):f a=f b:=by
 refine rle_antisymm (h.mono hab fun x hx=>by rw [hg x hx]; exact rle_refl _) ?_
 have:=h.neg.mono hab fun x hx=>by rw [hg x hx]; grind
 grind
theorem Dv.same {f g:R→R} {a b:R} (h:Dv f g a b) (hg:∀ x,In a b x→g x=0) {x y:R} (hx:In a b x) (hy:In a b y):f x=f y:=by
 rcases rle_total x y with k | k
 ·exact (h.sub_iv hx.1 hy.2).fixed k fun z hz=>hg z ⟨rle_trans hx.1 hz.1,rle_trans hz.2 hy.2⟩
 ·exact ((h.sub_iv hy.1 hx.2).fixed k fun z hz=>hg z ⟨rle_trans hy.1 hz.1,rle_trans hz.2 hx.2⟩).symm
noncomputable def rf:Nat→R
 | 0=>1
 | n+1=>rf n*((n+1:Nat):R)⁻¹
theorem cast_pos (n:Nat):(0:R)<((n+1:Nat):R):=by rw [cast_succ]; have:=cast_nonneg n; have:=rzero_lt_one; grind
theorem rf_succ (n:Nat):((n+1:Nat):R)*rf (n+1)=rf n:=by
 have:=mul_inv (x:=((n+1:Nat):R)) (by have:=cast_pos n; grind)
 rw [show rf (n+1)=rf n*((n+1:Nat):R)⁻¹ from rfl]; grind
theorem rf_pos (n:Nat):0<rf n:=by
 induction n with
 | zero=>exact rzero_lt_one
 | succ n ih=>exact rmul_pos ih (inv_pos (cast_pos n))
theorem upto (u:Nat→R) (N:Nat):∃ K,∀ n,n≤N→u n≤K:=by
 induction N with
 | zero=>exact ⟨u 0,fun n hn=>by rw [Nat.le_zero.1 hn]; exact rle_refl _⟩
 | succ N ih=>
  obtain ⟨K,hK⟩:=ih
  have h1:=le_ab K
  have h2:=le_ab (u (N+1))
  refine ⟨ab K+ab (u (N+1)),fun n hn=>?_⟩
  have h3:=ab_nonneg K
  have h4:=ab_nonneg (u (N+1))
  rcases Nat.lt_or_ge N n with k | k
  ·rw [show n=N+1 by omega]; grind
  ·have:=hK n k; grind
theorem rf_bound {r:R} (hr:0<r):∃ K,∀ n,rf n*r ^ n≤K:=by
 obtain ⟨N,hN⟩:=arch r
 obtain ⟨K,hK⟩:=upto (fun n=>rf n*r ^ n) N
 refine ⟨K,fun n=>?_⟩
 induction n with
 | zero=>exact hK 0 (Nat.zero_le _)
 | succ n ih=>
  rcases Nat.lt_or_ge n N with k | k
  ·exact hK (n+1) k
  ·have h1:=rf_succ n
   have h2:r≤((n+1:Nat):R):=rle_trans hN (cast_le (by omega))
   have h3:=rmul_nonneg (show 0≤rf (n+1) by have:=rf_pos (n+1); grind) (pow_nonneg (show 0≤r by grind) n)
   have h4:=rmul_le' h2 h3
   have h5:rf (n+1)*r ^ n*((n+1:Nat):R)=rf n*r ^ n:=by rw [← h1]; grind
   rw [rpow_succ]; grind
theorem PB.of {a:Nat→R} (h:∀ n,ab (a n)≤rf n) {r:R} (hr:0<r):∃ K,PB a r K:=by
 obtain ⟨K,hK⟩:=rf_bound hr
 exact ⟨K,hr,fun n=>rle_trans (rmul_le (h n) (pow_nonneg (by grind) n)) (hK n)⟩
theorem Dv.rf {a:Nat→R} (h:∀ n,ab (a n)≤rf n) {s:R} (hs:0≤s):Dv (An.ps a) (An.ps (An.da a)) (-s) s:=by
 obtain ⟨K,hK⟩:=PB.of h (r:=s+1) (by have:=rzero_lt_one; grind)
 exact Dv.ps hK hs (by have:=rzero_lt_one; grind)
noncomputable def E (x:R):R:=ps rf x
theorem in_of {s x:R} (h:ab x≤s):In (-s) s x:=ab_le.1 h
theorem Dv.back {f g:R→R} {s c:R} (h:Dv f g (-(s+ab c)) (s+ab c)):Dv (fun t=>f (c-t)) (fun t=>-g (c-t)) (-s) s:=by
 have h1:=((Dv.const c (-s) s).sub (Dv.id (-s) s)).comp h (fun x hx=>by
  have:=le_ab c
  have:=hx.1
  have:=hx.2
  exact ⟨by grind,by grind⟩)
 exact h1.congr (fun _ _=>rfl) fun x _=>by grind
def sg4:Nat→R × R
 | 0=>(0,1)
 | n+1=>((sg4 n).2,-(sg4 n).1)
def sS (n:Nat):R:=(sg4 n).1
def sC (n:Nat):R:=(sg4 n).2
theorem sS_succ (n:Nat):sS (n+1)=sC n:=rfl
theorem sC_succ (n:Nat):sC (n+1) = -sS n:=rfl
theorem sg_ab (n:Nat):ab (sS n)≤1∧ab (sC n)≤1:=by
 induction n with
 | zero=>exact ⟨by rw [show sS 0=0 from rfl,ab_zero]; have:=rzero_lt_one; grind,by rw [show sC 0=1 from rfl,ab_one]; exact rle_refl _⟩
 | succ n ih=>rw [sS_succ,sC_succ,ab_neg]; exact ⟨ih.2,ih.1⟩
noncomputable def cs (n:Nat):R:=sS n*rf n
noncomputable def cco (n:Nat):R:=sC n*rf n
noncomputable def S (x:R):R:=ps cs x
noncomputable def C (x:R):R:=ps cco x
theorem sg_rf {a:R} (n:Nat) (h:ab a≤1):ab (a*rf n)≤rf n:=by
 rw [ab_mul,ab_of (show 0≤rf n by have:=rf_pos n; grind)]
 have:=rmul_le h (show 0≤rf n by have:=rf_pos n; grind); grind
theorem cs_ab (n:Nat):ab (cs n)≤rf n:=sg_rf n (sg_ab n).1
theorem cc_ab (n:Nat):ab (cco n)≤rf n:=sg_rf n (sg_ab n).2
theorem da_cs:da cs=cco:=funext fun n=>by rw [da,cs,cco,sS_succ]; have:=rf_succ n; grind
theorem da_cc:da cco=fun n=>-cs n:=funext fun n=>by rw [da,cs,cco,sC_succ]; have:=rf_succ n; grind
theorem psum_neg (a:Nat→R) (x:R) (n:Nat):psum (fun n=>-a n) x n = -psum a x n:=by
 induction n with
 | zero=>show (0:R) = -0; grind
 | succ n ih=>show psum (fun n=>-a n) x n + -a n*x ^ n = -(psum a x n+a n*x ^ n); rw [ih]; grind
theorem ps_rf {a:Nat→R} (h:∀ n,ab (a n)≤rf n) (x:R):Conv (psum a x) (ps a x):=by
 obtain ⟨K,hK⟩:=PB.of h (r:=ab x+1) (by have:=ab_nonneg x; have:=rzero_lt_one; grind)
 exact ps_conv hK (by have:=rzero_lt_one; grind)
theorem ps_neg_cs (x:R):ps (fun n=>-cs n) x = -S x:=ps_eq ((ps_rf cs_ab x).neg.congr fun n=>(psum_neg cs x n).symm)
theorem S_dv {s:R} (hs:0≤s):Dv S C (-s) s:=by
 have:=Dv.rf cs_ab hs
 rwa [da_cs] at this
theorem C_dv {s:R} (hs:0≤s):Dv C (fun x=>-S x) (-s) s:=by
 have:=Dv.rf cc_ab hs
 rw [da_cc] at this
 exact this.congr (fun _ _=>rfl) fun x _=>ps_neg_cs x
theorem S_zero:S 0=0:=by rw [S,ps_zero,cs,show sS 0=0 from rfl]; grind
theorem C_zero:C 0=1:=by rw [C,ps_zero,cco,show sC 0=1 from rfl,show rf 0=1 from rfl]; grind
theorem S_add (x y:R):S (x+y)=S x*C y+C x*S y:=by
 have hs:0≤ab x+ab (x+y):=by have:=ab_nonneg x; have:=ab_nonneg (x+y); grind
 generalize hsd:ab x+ab (x+y)=s at hs
 have hn:=ab_nonneg (x+y)
 have h1:=((S_dv hs).mul (Dv.back (s:=s) (c:=x+y) (C_dv (by grind)))).add ((C_dv hs).mul (Dv.back (s:=s) (c:=x+y) (S_dv (by grind))))
 have h2:=h1.same (fun t _=>by grind) (x:=0) (y:=x) (in_of (by rw [ab_zero]; exact hs)) (in_of (by grind))
 rw [S_zero,C_zero,show x+y-0=x+y by grind,show x+y-x=y by grind] at h2
 grind
theorem C_add (x y:R):C (x+y)=C x*C y-S x*S y:=by
 have hs:0≤ab x+ab (x+y):=by have:=ab_nonneg x; have:=ab_nonneg (x+y); grind
 generalize hsd:ab x+ab (x+y)=s at hs
 have hn:=ab_nonneg (x+y)
 have h1:=((C_dv hs).mul (Dv.back (s:=s) (c:=x+y) (C_dv (by grind)))).sub ((S_dv hs).mul (Dv.back (s:=s) (c:=x+y) (S_dv (by grind))))
 have h2:=h1.same (fun t _=>by grind) (x:=0) (y:=x) (in_of (by rw [ab_zero]; exact hs)) (in_of (by grind))
 rw [S_zero,C_zero,show x+y-0=x+y by grind,show x+y-x=y by grind] at h2
 grind
theorem SC_one (x:R):S x*S x+C x*C x=1:=by
 have hs:=ab_nonneg x
 have h1:=((S_dv hs).mul (S_dv hs)).add ((C_dv hs).mul (C_dv hs))
 have h2:=h1.same (fun t _=>by grind) (x:=0) (y:=x) (in_of (by rw [ab_zero]; exact hs)) (in_of (rle_refl _))
 rw [S_zero,C_zero] at h2; grind
theorem SC_neg (x:R):S (-x) = -S x∧C (-x)=C x:=by
 have h1:=S_add x (-x)
 have h2:=C_add x (-x)
 rw [show x + -x=0 by grind,S_zero] at h1
 rw [show x + -x=0 by grind,C_zero] at h2
 have h3:=SC_one x
 generalize S x=s at *
 generalize C x=c at *
 have e1:s*(s*C (-x)+c*S (-x))=0:=by rw [← h1]; grind
 have e2:c*(c*C (-x)-s*S (-x))=c:=by rw [← h2]; grind
 have e3:c*(s*C (-x)+c*S (-x))=0:=by rw [← h1]; grind
 have e4:s*(c*C (-x)-s*S (-x))=s:=by rw [← h2]; grind
 have e5:(s*s+c*c)*C (-x)=c:=by grind
 have e6:(s*s+c*c)*S (-x) = -s:=by grind
 rw [h3] at e5 e6
 exact ⟨by grind,by grind⟩
noncomputable def atc (n:Nat):R:=sS n*((n:Nat):R)⁻¹
noncomputable def A (x:R):R:=ps atc x
def eo:Nat→R × R
 | 0=>(0,1)
 | n+1=>((eo n).2,(eo n).1)
def od (n:Nat):R:=(eo n).1
noncomputable def ahc (n:Nat):R:=od n*((n:Nat):R)⁻¹
noncomputable def H (x:R):R:=ps ahc x
noncomputable def Ln (y:R):R:=H ((y-1)*(y+1)⁻¹)+H ((y-1)*(y+1)⁻¹)
noncomputable def hp:R:=8*A (ofQ (1 / 5))-2*A (ofQ (1 / 239))
noncomputable def hf:R:=ofQ (1 / 2)
end Go.An
namespace Go.Proofs.YtjffljhmjdljeaaGreat.Gen
open Go Go.Abs Go.Plain Go.An
theorem val_from (n:Int):val (fromD n)=(n:Rat):=by unfold fromD; rw [val_nrm,p2_zero,Rat.mul_one]
end Go.Proofs.YtjffljhmjdljeaaGreat.Gen
namespace Go.An
def bnN:Nat→Int
 | 1=>1 | 2=>-1 | 3=>1 | 4=>-1 | 5=>5 | 6=>-691 | 7=>7 | 8=>-3617 | 9=>43867 | 10=>-174611 | _=>0
def bnD:Nat→Nat
 | 1=>6 | 2=>30 | 3=>42 | 4=>30 | 5=>66 | 6=>2730 | 7=>6 | 8=>510 | 9=>798 | 10=>330 | _=>1
def cK (k:Nat):Rat:=(bnN k:Rat) / ((bnD k*2*k*(2*k-1):Nat):Rat)
noncomputable def stS (y:R):Nat→R
 | 0=>0
 | k+1=>stS y k+ofQ (cK (k+1))*y⁻¹ ^ (2*k+1)
noncomputable def st (K:R) (y:R):R:=(y-hf)*Ln y-y+stS y 10+K
end Go.An
namespace Go.Proofs.YtjffljhmjdljeaaGreat.Gen
open Go Go.Abs Go.Plain Go.An
theorem flD_val (d:D):(flD d:Rat)≤val d∧val d<(flD d:Rat)+1:=by
 unfold flD
 show _≤(d.m:Rat)*p2 d.e∧(d.m:Rat)*p2 d.e<_
 by_cases h:0≤d.e
 ·rw [if_pos h]
  have e:((d.m*2 ^ d.e.toNat:Int):Rat)=(d.m:Rat)*p2 d.e:=by
   have:=p2_nat d.e.toNat
   rw [Int.toNat_of_nonneg h] at this
   rw [Rat.intCast_mul,this]
   congr 1
  rw [e]
  exact ⟨Rat.le_refl,by grind⟩
 ·rw [if_neg h]
  have hp:=p2_pos d.e
  have hk:(0:Int)<2 ^ (-d.e).toNat:=Int.pow_pos (by decide)
  have e:p2 d.e*((2 ^ (-d.e).toNat:Int):Rat)=1:=by
   have h1:=p2_nat (-d.e).toNat
   rw [Int.toNat_of_nonneg (by omega)] at h1
   have h2:((2 ^ (-d.e).toNat:Int):Rat)=p2 (-d.e):=by rw [h1]; rfl
   rw [h2,← p2_add,show d.e + -d.e=0 by omega,p2_zero]
  generalize (2 ^ (-d.e).toNat:Int)=z at *
  generalize p2 d.e=t at *
  have h1:=Int.mul_ediv_add_emod d.m z
  have h2:=Int.emod_nonneg d.m (show z≠0 by omega)
  have h3:=Int.emod_lt_of_pos d.m hk
  have g1:((d.m / z:Int):Rat)*(z:Rat)≤(d.m:Rat):=by
   have:=intCast_le (show d.m / z*z≤d.m by rw [Int.mul_comm]; omega)
   rwa [Rat.intCast_mul] at this
  have g2:(d.m:Rat)<((d.m / z:Int):Rat)*(z:Rat)+(z:Rat):=by
   have:=intCast_lt (show d.m<d.m / z*z+z by rw [Int.mul_comm]; omega)
   rwa [Rat.intCast_add,Rat.intCast_mul] at this
  clear h1 h2 h3
  generalize ((d.m / z:Int):Rat)=q at *
  generalize (d.m:Rat)=m at *
  generalize (z:Rat)=z at *
  have e5:q*z*t=q:=by rw [Rat.mul_assoc,Rat.mul_comm z t,e,Rat.mul_one]
  constructor
  ·have:=Rat.mul_le_mul_of_nonneg_right g1 (Rat.le_of_lt hp)
   rwa [e5] at this
  ·have:=Rat.mul_lt_mul_of_pos_right g2 hp
   rwa [Rat.add_mul,e5,Rat.mul_comm z t,e] at this
def Far (l:Int) (x:Rat):Prop:=x=0∨p2 l≤x∨x ≤ -p2 l
theorem Far.neg {l:Int} {x:Rat} (h:Far l x):Far l (-x):=by
 rcases h with h | h | h
 ·left; grind
 ·right; right; grind
 ·right; left; grind
end Go.Proofs.YtjffljhmjdljeaaGreat.Gen
namespace Go.An
structure Tan (x a:R):Prop where
 lo : -hp<a
 hi:a<hp
 t:S a=x*C a
theorem Tan.neg {x a:R} (h:Tan x a):Tan (-x) (-a):=by
 have a1:=h.lo; have a2:=h.hi
 refine ⟨by grind,by grind,?_⟩
 rw [(SC_neg a).1,(SC_neg a).2,h.t]; grind
end Go.An
namespace Go.Proofs.YtjffljhmjdljeaaGreat.Gen
open Go Go.Abs Go.Plain Go.An
def NN (a:I):Prop:=0≤a.lo.m∧0≤a.hi.m
theorem nrm_nn {m:Int} (h:0≤m) (e:Int):0≤(nrm m e).m:=by
 unfold nrm
 split
 ·exact Int.le_refl _
 ·exact Int.ediv_nonneg h (Int.le_of_lt (Int.pow_pos (by decide)))
theorem tell_nn {d:D} (h:0≤d.m):0≤(tell d).1.m:=by
 unfold tell
 split
 ·exact h
 ·exact Int.le_refl _
theorem sg_nn (n:Nat):0≤sg false n:=by unfold sg; simp
theorem round_nn {x:D} (h:0≤x.m) (p:Nat) (up:Bool):0≤(roundD x p up).1.m:=by
 unfold roundD cutD
 rw [decide_eq_false (by omega)]
 exact tell_nn (nrm_nn (sg_nn _) _)
theorem times_nn {x y:D} (hx:0≤x.m) (hy:0≤y.m):0≤(timesD x y).1.m:=tell_nn (nrm_nn (Int.mul_nonneg hx hy) _)
theorem div_nn {x y:D} (hx:0≤x.m) (hy:0≤y.m) (p:Nat) (up:Bool):0≤(divD x y p up).1.m:=by
 unfold divD
 split
 ·exact Int.le_refl _
 ·split
  ·exact Int.le_refl _
  ·rw [show (decide (x.m<0) != decide (y.m<0))=false by rw [decide_eq_false (by omega),decide_eq_false (by omega)]; rfl]
   exact tell_nn (nrm_nn (sg_nn _) _)
theorem min_nn {x y:D} (hx:0≤x.m) (hy:0≤y.m):0≤(minD x y).m:=by unfold minD; split<;>assumption
theorem max_nn {x y:D} (hx:0≤x.m) (hy:0≤y.m):0≤(maxD x y).m:=by unfold maxD; split<;>assumption
theorem NN_z:NN zI:=⟨Int.le_refl _,Int.le_refl _⟩
theorem bind_nn {r:D × Int} {f:D→I × Int} (h:∀ d,(r.2=0→d=r.1)→NN (f r.1).1):NN (bindE r zI f).1:=by
 unfold bindE
 split
 ·exact h r.1 fun _=>rfl
 ·exact NN_z
theorem mul_nn {a b:I} (ha:NN a) (hb:NN b) (p:Nat):NN (mulI p a b).1:=by
 unfold mulI four4
 have h1:=times_nn ha.1 hb.1
 have h2:=times_nn ha.1 hb.2
 have h3:=times_nn ha.2 hb.1
 have h4:=times_nn ha.2 hb.2
 refine bind_nn fun _ _=>bind_nn fun _ _=>bind_nn fun _ _=>bind_nn fun _ _=>bind_nn fun _ _=>bind_nn fun _ _=>?_
 exact ⟨round_nn (min_nn (min_nn (min_nn h1 h2) h3) h4) _ _,round_nn (max_nn (max_nn (max_nn h1 h2) h3) h4) _ _⟩
theorem divI_nn {a b:I} (ha:NN a) (hb:NN b) (p:Nat):NN (divI p a b).1:=by
 unfold divI
 split
 ·exact NN_z
 ·unfold four4
  refine bind_nn fun _ _=>bind_nn fun _ _=>bind_nn fun _ _=>bind_nn fun _ _=>bind_nn fun _ _=>bind_nn fun _ _=>bind_nn fun _ _=>bind_nn fun _ _=>?_
  exact ⟨min_nn (min_nn (min_nn (div_nn ha.1 hb.1 _ _) (div_nn ha.1 hb.2 _ _)) (div_nn ha.2 hb.1 _ _)) (div_nn ha.2 hb.2 _ _),max_nn (max_nn (max_nn (div_nn ha.1 hb.1 _ _) (div_nn ha.1 hb.2 _ _)) (div_nn ha.2 hb.1 _ _)) (div_nn ha.2 hb.2 _ _)⟩
theorem scale_nn {x:D} (h:0≤x.m) (n:Int):0≤(scaleD x n).1.m:=by
 unfold scaleD
 split
 ·exact Int.le_refl _
 ·exact tell_nn h
theorem scaleI_nn {a:I} (ha:NN a) (n:Int):NN (scaleI a n).1:=by
 unfold scaleI
 exact bind_nn fun _ _=>bind_nn fun _ _=>⟨scale_nn ha.1 _,scale_nn ha.2 _⟩
theorem st_nn {r:I × Int} (h:NN r.1) (e:Int):NN (st e zI r).1:=by
 unfold st
 split
 ·exact h
 ·exact NN_z
theorem int_nn {n:Int} (h:0≤n):NN (intI n):=⟨nrm_nn h 0,nrm_nn h 0⟩
theorem val_nn {d:D} (h:0≤d.m):0≤val d:=by
 unfold val
 exact Rat.mul_nonneg (by exact_mod_cast h) (Rat.le_of_lt (p2_pos _))
def eN (w:Nat) (tw:I) (i:Nat) (t:I) (e:Int):I × Int:=
 dS w (mS w t tw e).1 (iS ((2*i+1:Nat):Int) (mS w t tw e).2).1 (iS ((2*i+1:Nat):Int) (mS w t tw e).2).2
def eL (w:Nat) (tw:I):Nat→Nat→I→I→Int→I × I × Int
 | 0,_,t,s,e=>(t,s,e)
 | k+1,i,t,s,e=>eL w tw k (i+1) (eN w tw i t e).1 (aS w s (eN w tw i t e).1 (eN w tw i t e).2).1 (aS w s (eN w tw i t e).1 (eN w tw i t e).2).2
theorem SI_eN {w:Nat} (hw:w≤400) (tw:I) {i:Nat} (hi:i≤1000) (t:I) (e:Int):SI (eN w tw i t e).1:=SI_dS hw _ (SI_iS (by omega) _) _
theorem eN_nn {w:Nat} {tw t:I} (h1:NN tw) (h2:NN t) (i:Nat) (e:Int):NN (eN w tw i t e).1:=by
 refine st_nn (divI_nn (st_nn (mul_nn h2 h1 w) _) (st_nn (r:=(intI _,0)) (int_nn (by omega)) _) w) _
theorem eL_ok {w:Nat} (hw:w≤400) {tw:I} (h1:NN tw):∀ (k i:Nat) (t s:I) (e:Int),i+k≤1000→SI t→SI s→NN t→SI (eL w tw k i t s e).1∧SI (eL w tw k i t s e).2.1∧NN (eL w tw k i t s e).1
 | 0,_,_,_,_,_,ht,hs,hn=>⟨ht,hs,hn⟩
 | k+1,i,t,s,e,hk,ht,hs,hn=>by
  have a1:=SI_eN hw tw (i:=i) (by omega) t e
  exact eL_ok hw h1 k (i+1) _ _ _ (by omega) a1 (SI_aS hw hs a1 _) (eN_nn h1 hn i e)
theorem wrap_odd {i:Nat} (h:i≤1000):IntKind.i64.wrap (IntKind.i64.wrap (2*(i:Int))+1)=((2*i+1:Nat):Int):=by
 rw [w64 (x:=2*(i:Int)) (by omega) (by omega),w64 (by omega) (by omega)]; omega
theorem erf_adv {w n:Nat} (hw:2≤w∧w≤400) {tw t:I} (htw:SI tw) (ht:SI t) {i:Nat} (hi:i≤900) (b:Int) (k:Nat) (S La:AI) (Fi:Bool) :
  ((cv_Mul (iv t) (iv tw) b (w:Int)).bind fun x1=>((cv_Int (IntKind.i64.wrap ((IntKind.i64.wrap (2*(i:Int)))+1)) x1.2 (w:Int)).bind fun x2=>((cv_Div x1.1 x2.1 x2.2 (w:Int)).bind fun x3=>erff_erf_l (w:Int) (n:Int) (iv tw) k (IntKind.i64.wrap ((i:Int)+1)) x3.1 x3.2 S La Fi))) =
   erff_erf_l (w:Int) (n:Int) (iv tw) k ((i+1:Nat):Int) (iv (eN w tw i t b).1) (eN w tw i t b).2 S La Fi:=by
 have e1:=pMul hw ht htw b
 have h1:=SI_mS hw.2 t tw b
 have hx:eN w tw i t b=dS w (mS w t tw b).1 (iS ((2*i+1:Nat):Int) (mS w t tw b).2).1 (iS ((2*i+1:Nat):Int) (mS w t tw b).2).2:=rfl
 generalize mS w t tw b=m at *
 have e2:=pInt (n:=((2*i+1:Nat):Int)) (by omega) m.2 (w:Int)
 have h2:=SI_iS (n:=((2*i+1:Nat):Int)) (by omega) m.2
 generalize iS ((2*i+1:Nat):Int) m.2=c at *
 have e3:=pDiv hw h1 h2 c.2
 rw [← hx] at e3
 generalize eN w tw i t b=g at *
 refine Eq.trans (congrArg (fun o=>Option.bind o _) e1) ?_
 simp only [obn]
 rw [wrap_odd (by omega)]
 refine Eq.trans (congrArg (fun o=>Option.bind o _) e2) ?_
 simp only [obn]
 refine Eq.trans (congrArg (fun o=>Option.bind o _) e3) ?_
 simp only [obn]
 rw [w64 (by omega) (by omega),show (i:Int)+1=((i+1:Nat):Int) by omega]
theorem erf_loop {w n:Nat} (hw:2≤w∧w≤400) (hn:n≤800) {tw:I} (htw:SI tw):∀ (k i:Nat) (last t s:I) (e:Int),i+k=n+1→SI t→SI s→∀ f,k<f→
  erff_erf_l (w:Int) (n:Int) (iv tw) f (i:Int) (iv t) e (iv s) (iv last) false =
   some ((eL w tw k i t (aS w s t e).1 (aS w s t e).2).2.2,iv (eL w tw k i t (aS w s t e).1 (aS w s t e).2).2.1,iv (eL w tw k i t (aS w s t e).1 (aS w s t e).2).1,false):=by
 intro k
 induction k with
 | zero=>
  intro i last t s e hi ht hs f hf
  obtain ⟨f,rfl⟩:∃ g,f=g+1:=⟨f-1,by omega⟩
  rw [erff_erf_l]
  unfold erff_erf_b
  rw [if_neg (by simp)]
  refine Eq.trans (congrArg (fun o=>Option.bind (Option.bind o _) _) (pAdd hw hs ht e)) ?_
  simp only [obn]
  rw [if_neg (by omega)]
  rfl
 | succ k ih=>
  intro i last t s e hi ht hs f hf
  obtain ⟨f,rfl⟩:∃ g,f=g+1:=⟨f-1,by omega⟩
  rw [erff_erf_l]
  unfold erff_erf_b
  rw [if_neg (by simp)]
  refine Eq.trans (congrArg (fun o=>Option.bind (Option.bind o _) _) (pAdd hw hs ht e)) ?_
  simp only [obn]
  rw [if_pos (by omega)]
  have ha:=SI_aS hw.2 hs ht e
  generalize aS w s t e=a at *
  refine (erf_adv hw htw ht (by omega) _ _ _ _ _).trans ?_
  exact ih (i+1) t _ a.1 _ (by omega) (SI_eN hw.2 tw (by omega) t a.2) ha f (by omega)
def eTw (w:Nat) (y:I × Int):I × Int:=scS (mS w y.1 y.1 y.2).1 1 (mS w y.1 y.1 y.2).2
def eF (w n:Nat) (y:I × Int):I × I × Int:=eL w (eTw w y).1 n 1 y.1 y.1 (eTw w y).2
theorem SI_eTw {w:Nat} (hw:w≤400) (y:I × Int):SI (eTw w y).1:=SI_sc (SI_mS hw _ _ _) _ _
theorem eTw_nn {w:Nat} {y:I × Int} (h:NN y.1):NN (eTw w y).1:=st_nn (scaleI_nn (st_nn (mul_nn h h w) _) 1) _
theorem pS_nn {d:D} (h:0≤d.m) (e:Int):NN (pS d e).1:=st_nn (r:=(⟨d,d⟩,0)) ⟨h,h⟩ e
theorem eF_ok {w n:Nat} (hw:w≤400) (hn:n≤800) {y:I × Int} (hy:SI y.1) (h:NN y.1):SI (eF w n y).1∧SI (eF w n y).2.1∧NN (eF w n y).1:=
 eL_ok hw (eTw_nn h) n 1 _ _ _ (by omega) hy hy h
theorem erf_series {w n:Nat} (hw:2≤w∧w≤400) (hn:1≤n∧n≤800) {y:D} (hy:WD y) (hb:blen y.m.natAbs≤1000) (S La:AI) :
  erff_erf_s (dy y) (n:Int) 0 (w:Int) S La true=some ((eF w n (pS y 0)).2.2,iv (eF w n (pS y 0)).2.1,iv (eF w n (pS y 0)).1,false):=by
 unfold erff_erf_s
 have e1:=pPS hy 0 (w:Int)
 have h1:=SI_pS hy hb 0
 generalize pS y 0=t at *
 refine Eq.trans (congrArg (fun o=>Option.bind o _) e1) ?_
 simp only [obn]
 refine Eq.trans (congrArg (fun o=>Option.bind o _) (pMul hw h1 h1 t.2)) ?_
 simp only [obn]
 refine Eq.trans (congrArg (fun o=>Option.bind o _) (pScale (SI_mS hw.2 t.1 t.1 t.2) (n:=1) (by omega) _ _)) ?_
 simp only [obn]
 show erff_erf_l (w:Int) (n:Int) (iv (eTw w t).1) fuel ((1:Nat):Int) (iv t.1) (eTw w t).2 S La true=_
 unfold eF
 have h2:=SI_eTw hw.2 t
 generalize eTw w t=u at *
 obtain ⟨f,hf⟩:=fuel_succ
 obtain ⟨k,rfl⟩:∃ k,n=k+1:=⟨n-1,by omega⟩
 rw [hf,erff_erf_l]
 unfold erff_erf_b
 rw [if_pos rfl]
 simp only [obn]
 rw [if_pos (by omega)]
 have key:=erf_adv (n:=k+1) (i:=1) hw h2 h1 (by omega) u.2 (f+1+1) (iv t.1) (iv t.1) false
 refine Eq.trans key ?_
 exact erf_loop hw (by omega) h2 k 2 t.1 _ t.1 _ (by omega) (SI_eN hw.2 u.1 (by omega) t.1 u.2) h1 (f+1+1) (by unfold fuel at hf; omega)
def eA (w:Nat) (neg:Bool) (L:I × I × Int) (bell:I):I × Int:=
 (fun a=>(fun b=>(fun c=>(fun r=>(fun q=>if neg=true then nS q.1 q.2 else q) (dS w c.1 r.1 r.2)) (rootS w c.2)) (mS w b.1 bell b.2)) (scS a.1 1 a.2)) (wS w L.2.1 L.1.hi L.2.2)
theorem SI_eA {w:Nat} (hw:w≤400) (neg:Bool) (L:I × I × Int) (bell:I):SI (eA w neg L bell).1:=by
 unfold eA
 have h:=SI_dS hw (mS w (scS (wS w L.2.1 L.1.hi L.2.2).1 1 (wS w L.2.1 L.1.hi L.2.2).2).1 bell (scS (wS w L.2.1 L.1.hi L.2.2).1 1 (wS w L.2.1 L.1.hi L.2.2).2).2).1 (SI_root hw (mS w (scS (wS w L.2.1 L.1.hi L.2.2).1 1 (wS w L.2.1 L.1.hi L.2.2).2).1 bell (scS (wS w L.2.1 L.1.hi L.2.2).1 1 (wS w L.2.1 L.1.hi L.2.2).2).2).2) (rootS w (mS w (scS (wS w L.2.1 L.1.hi L.2.2).1 1 (wS w L.2.1 L.1.hi L.2.2).2).1 bell (scS (wS w L.2.1 L.1.hi L.2.2).1 1 (wS w L.2.1 L.1.hi L.2.2).2).2).2).2
 dsimp only
 split
 ·exact SI_nS h _
 ·exact h
theorem eN_err {w:Nat} (tw:I) (i:Nat) (t:I) {e:Int} (h:e≠0):eN w tw i t e=(zI,e):=by
 unfold eN mS
 rw [st_ne h]
 unfold iS
 rw [st_ne h]
 unfold dS
 rw [st_ne h]
theorem eL_err {w:Nat} (tw:I) {e:Int} (h:e≠0):∀ (k i:Nat) (t s:I),(eL w tw k i t s e).2.2=e
 | 0,_,_,_=>rfl
 | k+1,i,t,s=>by
  rw [eL,eN_err tw i t h]
  unfold aS
  rw [st_ne h]
  exact eL_err tw h k (i+1) _ _
theorem rec_err {w:Nat} {n e:Int} (h:e≠0):recS w n e=(zI,e):=by
 unfold recS iS
 rw [st_ne h,st_ne h]
 exact st_ne h _ _
theorem one_err {w:Nat} {n e:Int} (h:e≠0):onePi w n e=(zI,e):=by
 unfold onePi
 rw [rec_err h]
 exact st_ne h _ _
theorem pi_err {w:Nat} {e:Int} (h:e≠0):piS w e=(zI,e):=by
 unfold piS
 rw [one_err h,one_err h]
 have h1:∀ a n,scS a n e=(zI,e):=fun a n=>st_ne h _ _
 rw [h1,h1]
 exact st_ne h _ _
theorem root_err {w:Nat} {e:Int} (h:e≠0):rootS w e=(zI,e):=by
 unfold rootS
 rw [pi_err h]
 exact st_ne h _ _
theorem eA_err {w:Nat} (neg:Bool) (L:I × I × Int) (bell:I) (h:L.2.2≠0):eA w neg L bell=(zI,L.2.2):=by
 unfold eA
 have h1:∀ a d,wS w a d L.2.2=(zI,L.2.2):=fun a d=>st_ne h _ _
 have h2:∀ a n,scS a n L.2.2=(zI,L.2.2):=fun a n=>st_ne h _ _
 have h3:∀ a b,mS w a b L.2.2=(zI,L.2.2):=fun a n=>st_ne h _ _
 have h4:∀ a b,dS w a b L.2.2=(zI,L.2.2):=fun a n=>st_ne h _ _
 have h5:∀ a,nS a L.2.2=(zI,L.2.2):=fun a=>st_ne h _ _
 rw [h1]
 dsimp only
 rw [h2]
 dsimp only
 rw [h3]
 dsimp only
 rw [root_err h]
 dsimp only
 rw [h4]
 dsimp only
 rw [h5]
 split<;>rfl
def fitE (d:D) (p:Int):Int:=if p<2∨200<p∨200<blen d.m.natAbs then 1 else if 0<cmpD d (fromD 6)∨cmpD d (fromD (-6))<0 then 4 else 0
theorem efits_eq {d:D} (hd:WD d) (p:Int):erff_fits (dy d) p=some (fitE d p):=by
 have c1:=dyad_Cmp_eq hd (WD_from (n:=6) (by omega))
 have c2:=dyad_Cmp_eq hd (WD_from (n:=-6) (by omega))
 have j1:erff_fits_j1 (dy d) false=some (if 0<cmpD d (fromD 6)∨cmpD d (fromD (-6))<0 then 4 else 0):=by
  unfold erff_fits_j1 erff_fits_j2
  rw [if_neg (by simp),dyad_From_eq (by omega)]
  simp only [obn]
  refine Eq.trans (congrArg (fun o=>Option.bind o _) c1) ?_
  simp only [obn]
  by_cases h1:0<cmpD d (fromD 6)
  ·rw [if_pos h1,if_pos True.intro,if_pos (Or.inl h1)]
  ·rw [if_neg h1,dyad_From_eq (by omega)]
   simp only [obn]
   refine Eq.trans (congrArg (fun o=>Option.bind o _) c2) ?_
   simp only [obn]
   by_cases h2:cmpD d (fromD (-6))<0
   ·rw [decide_eq_true h2,if_pos rfl,if_pos (Or.inr h2)]
   ·rw [decide_eq_false h2,if_neg (by simp),if_neg (by simp only [not_or]; exact ⟨h1,h2⟩)]
 have j0:erff_fits_j1 (dy d) true=some 1:=by unfold erff_fits_j1; rw [if_pos rfl]
 unfold erff_fits fitE
 by_cases h1:p<2
 ·rw [if_pos h1,j0,if_pos (Or.inl h1)]
 ·rw [if_neg h1]
  by_cases h2:p>200
  ·rw [if_pos h2,j0,if_pos (Or.inr (Or.inl h2))]
  ·rw [if_neg h2,dyad_Right_dy hd.1 hd.sz]
   simp only [obn]
   rw [if_neg (by simp),bits_dy hd.sz]
   simp only [obn]
   by_cases h3:200<blen d.m.natAbs
   ·rw [show decide ((blen d.m.natAbs:Int)>200)=true by simp; omega,j0,if_pos (Or.inr (Or.inr h3))]
   ·rw [show decide ((blen d.m.natAbs:Int)>200)=false by simp; omega,j1,if_neg (show ¬(p<2∨200<p∨200<blen d.m.natAbs) by omega)]
theorem refits_eq {d:D} (hd:WD d) (p:Int):r11_fits (dy d) p=some (fitE d p):=by
 have c1:=rCmp5_eq hd (WD_from (n:=6) (by omega))
 have c2:=rCmp5_eq hd (WD_from (n:=-6) (by omega))
 have j1:r11_fits_j1 (dy d) false=some (if 0<cmpD d (fromD 6)∨cmpD d (fromD (-6))<0 then 4 else 0):=by
  unfold r11_fits_j1 r11_fits_j2
  rw [if_neg (by simp),rFrom5_eq (by omega)]
  simp only [obn]
  refine Eq.trans (congrArg (fun o=>Option.bind o _) c2) ?_
  simp only [obn]
  by_cases h2:cmpD d (fromD (-6))<0
  ·rw [if_pos h2,if_pos True.intro,if_pos (Or.inr h2)]
  ·rw [if_neg h2,rFrom5_eq (by omega)]
   simp only [obn]
   refine Eq.trans (congrArg (fun o=>Option.bind o _) c1) ?_
   simp only [obn]
   by_cases h1:0<cmpD d (fromD 6)
   ·rw [show decide (cmpD d (fromD 6)>0)=true from decide_eq_true h1,if_pos rfl,if_pos (Or.inl h1)]
   ·rw [show decide (cmpD d (fromD 6)>0)=false from decide_eq_false h1,if_neg (by simp),if_neg (by simp only [not_or]; exact ⟨h1,h2⟩)]
 have j0:r11_fits_j1 (dy d) true=some 1:=by unfold r11_fits_j1; rw [if_pos rfl]
 unfold r11_fits fitE
 rw [rRight5_dy hd.1 hd.sz]
 simp only [obn]
 rw [if_neg (by simp)]
 by_cases h1:p<2
 ·rw [if_pos h1,j0,if_pos (Or.inl h1)]
 ·rw [if_neg h1]
  by_cases h2:p>200
  ·rw [if_pos h2,j0,if_pos (Or.inr (Or.inl h2))]
  ·rw [if_neg h2,rbits_dy hd.sz]
   simp only [obn]
   by_cases h3:200<blen d.m.natAbs
   ·rw [show decide ((blen d.m.natAbs:Int)>200)=true by simp; omega,j0,if_pos (Or.inr (Or.inr h3))]
   ·rw [show decide ((blen d.m.natAbs:Int)>200)=false by simp; omega,j1,if_neg (show ¬(p<2∨200<p∨200<blen d.m.natAbs) by omega)]
theorem efits_bad {x:AD} (hr:dyad_Right x=some false) (p:Int):erff_fits x p=some 1:=by
 have j0:erff_fits_j1 x true=some 1:=by unfold erff_fits_j1; rw [if_pos rfl]
 unfold erff_fits
 rw [j0]
 split
 ·rfl
 ·split
  ·rfl
  ·rw [hr]
   rfl
theorem refits_bad {x:AD} (hr:r05_Right x=some false) (p:Int):r11_fits x p=some 1:=by
 have j0:r11_fits_j1 x true=some 1:=by unfold r11_fits_j1; rw [if_pos rfl]
 unfold r11_fits
 rw [hr]
 simp only [obn]
 rw [if_pos (by simp),j0]
theorem fitE_ok {d:D} {p:Int} (h:fitE d p=0):2≤p∧p≤200∧blen d.m.natAbs≤200∧-6≤val d∧val d≤6:=by
 unfold fitE at h
 by_cases h1:p<2∨200<p∨200<blen d.m.natAbs
 ·rw [if_pos h1] at h; cases h
 ·rw [if_neg h1] at h
  by_cases h2:0<cmpD d (fromD 6)∨cmpD d (fromD (-6))<0
  ·rw [if_pos h2] at h; cases h
  ·simp only [not_or] at h1 h2
   have a:=mt (cmpD_gt d (fromD 6)).2 h2.1
   have b:=mt (cmpD_lt d (fromD (-6))).2 h2.2
   rw [val_from] at a b
   refine ⟨by omega,by omega,by omega,?_,?_⟩
   ·have:((-6:Int):Rat) = -6:=by decide +kernel
    grind
   ·have:((6:Int):Rat)=6:=by decide +kernel
    grind
def terK (d:D):Int:=(smallZ (floorS (timesD d d).1).1).1
def terR (d:D) (p:Int):Int × Int:=
 if (timesD d d).2≠0 then (0,(timesD d d).2) else if (floorS (timesD d d).1).2≠0 then (0,(floorS (timesD d d).1).2) else
  (IntKind.i64.wrap (IntKind.i64.wrap (IntKind.i64.wrap (4*IntKind.i64.wrap (terK d+1))+p)+40),0)
theorem eterms_eq {d:D} (hd:WD d) (p:Int):erff_terms (dy d) p=some (terR d p):=by
 unfold erff_terms terR terK
 have e1:=dyad_Mul_eq hd hd
 have w1:WD (timesD d d).1:=WD_times
 generalize timesD d d=t at *
 refine Eq.trans (congrArg (fun o=>Option.bind o _) e1) ?_
 simp only [obn]
 by_cases h1:t.2=0
 ·rw [if_neg (by simpa using h1),if_neg (by simpa using h1),eta_dy]
  have e2:=dyad_Floor_eq w1
  have s2:=floorS_sz w1
  generalize floorS t.1=f at *
  refine Eq.trans (congrArg (fun o=>Option.bind o _) e2) ?_
  simp only [obn]
  by_cases h2:f.2=0
  ·rw [if_neg (by simpa using h2),if_neg (by simpa using h2),zint_Small_eq s2]
   rfl
  ·rw [if_pos h2,if_pos h2]
 ·rw [if_pos h1,if_pos h1]
def termsR (d:D) (p:Int):Int × Int:=if fitE d p≠0 then (0,fitE d p) else terR d p
theorem Terms_eq {d:D} (hd:WD d) (p:Int):erff_Terms (dy d) p=some (termsR d p):=by
 unfold erff_Terms termsR
 rw [efits_eq hd]
 simp only [obn]
 by_cases h:fitE d p=0
 ·rw [if_neg (by simpa using h),if_neg (by simpa using h),eterms_eq hd]
  rfl
 ·rw [if_pos h,if_pos h]
theorem rTerms_eq {d:D} (hd:WD d) (p:Int):r11_Terms (dy d) p=some (termsR d p):=by
 unfold r11_Terms termsR
 rw [refits_eq hd]
 simp only [obn]
 by_cases h:fitE d p=0
 ·rw [if_neg (by simpa using h),if_neg (by simpa using h)]
  unfold terR terK
  have e1:=rMul5_eq hd hd
  have w1:WD (timesD d d).1:=WD_times
  generalize timesD d d=t at *
  refine Eq.trans (congrArg (fun o=>Option.bind o _) e1) ?_
  simp only [obn]
  by_cases h1:t.2=0
  ·rw [if_neg (by simpa using h1),if_neg (by simpa using h1),eta_dy]
   have e2:=rFloor_eq w1
   have s2:=floorS_sz w1
   generalize floorS t.1=f at *
   refine Eq.trans (congrArg (fun o=>Option.bind o _) e2) ?_
   simp only [obn]
   by_cases h2:f.2=0
   ·rw [if_neg (by simpa using h2),if_neg (by simpa using h2),rSmall_eq s2]
    rfl
   ·rw [if_pos h2,if_pos h2]
  ·rw [if_pos h1,if_pos h1]
 ·rw [if_pos h,if_pos h]
theorem terK_ok {d:D} (h : -6≤val d∧val d≤6) (h1:(timesD d d).2=0) (h2:(floorS (timesD d d).1).2=0):0≤terK d∧terK d≤36:=by
 have e1:(timesD d d).1=mulD d d:=by
  unfold timesD tell at h1 ⊢
  split
  ·rfl
  ·rename_i hx; rw [if_neg hx] at h1; cases h1
 have hv:0≤val (timesD d d).1∧val (timesD d d).1≤36:=by
  rw [e1,val_mul]
  have a:=h.1
  have b:=h.2
  constructor
  ·rcases (Rat.le_total:(0:Rat)≤val d∨val d≤0) with k | k
   ·exact Rat.mul_nonneg k k
   ·have:=Rat.mul_nonneg (show 0 ≤ -(val d) by grind) (show 0 ≤ -(val d) by grind)
    grind
  ·have:=Rat.mul_nonneg (show 0≤6-val d by grind) (show 0≤6+val d by grind)
   grind
 unfold terK
 generalize (timesD d d).1=t at *
 have hf:=flD_val t
 have e2:(floorS t).1=flD t:=by
  unfold floorS at h2 ⊢
  split
  ·rfl
  ·rename_i hx; rw [if_neg hx] at h2; cases h2
 rw [e2]
 have b1 : -1<flD t:=by
  have:((-1:Int):Rat)<(flD t:Rat):=by
   have:((-1:Int):Rat) = -1:=by decide +kernel
   grind
  exact_mod_cast this
 have b2:flD t≤36:=by
  have:(flD t:Rat)<((37:Int):Rat):=by
   have:((37:Int):Rat)=37:=by decide +kernel
   grind
  have:flD t<37:=by exact_mod_cast this
  omega
 unfold smallZ
 rw [if_pos (by omega)]
 exact ⟨by show 0≤flD t; omega,b2⟩
theorem terR_ok {d:D} {p:Int} (hp:2≤p∧p≤300) (h : -6≤val d∧val d≤6) (he:(terR d p).2=0):∃ n:Nat,(terR d p).1=(n:Int)∧46≤n∧n≤600∧terR d (p+64)=(((n+64:Nat):Int),0):=by
 unfold terR at *
 by_cases h1:(timesD d d).2=0
 ·rw [if_neg (by simpa using h1)] at *
  by_cases h2:(floorS (timesD d d).1).2=0
  ·rw [if_neg (by simpa using h2)] at *
   have hk:=terK_ok h h1 h2
   generalize terK d=k at *
   have e:∀ q:Int,2≤q→q≤400→IntKind.i64.wrap (IntKind.i64.wrap (IntKind.i64.wrap (4*IntKind.i64.wrap (k+1))+q)+40)=4*(k+1)+q+40:=fun q a b=>by
    rw [w64 (x:=k+1) (by omega) (by omega),w64 (x:=4*(k+1)) (by omega) (by omega),w64 (x:=4*(k+1)+q) (by omega) (by omega),w64 (by omega) (by omega)]
   refine ⟨(4*(k+1)+p+40).toNat,?_,by omega,by omega,?_⟩
   ·rw [e p (by omega) (by omega)]; omega
   ·rw [if_neg (by simpa using h1),if_neg (by simpa using h2),e (p+64) (by omega) (by omega)]
    exact Prod.ext (by show 4*(k+1)+(p+64)+40=_; omega) rfl
  ·rw [if_pos h2] at he; exact absurd he h2
 ·rw [if_pos h1] at he; exact absurd he h1
theorem terR_err (d:D) (p q:Int):(terR d p).2=(terR d q).2:=by
 unfold terR
 split
 ·rfl
 ·split<;>rfl
def erB (d:D) (n q:Nat) (b:I × Int):I × Int:=if b.2≠0 then (zI,b.2) else doneS q (eA (q+64) (decide (d.m<0)) (eF (q+64) n (pS (absD d) 0)) b.1)
def erC (d:D) (n q:Nat):I × Int:=
 if (timesD (absD d) (absD d)).2≠0 then (zI,(timesD (absD d) (absD d)).2) else erB d n q (expR (negD (timesD (absD d) (absD d)).1) ((q+64:Nat):Int))
theorem edone_eq {a:I} (ha:SI a) {p:Nat} (hp:2≤p∧p≤400) (e w:Int):erff_done (iv a) (p:Int) e w=some (iv (doneS p (a,e)).1,(doneS p (a,e)).2):=by
 unfold erff_done iv_trouble_Err
 simp only [obn]
 by_cases h:e=0
 ·subst h
  rw [if_neg (by simp),ivNew_eq hp]
  simp only [obn]
  have:=ivOut_eq ha.ok hp 0
  refine Eq.trans (congrArg (fun o=>Option.bind o _) this) ?_
  rfl
 ·rw [if_pos h]
  unfold doneS
  rw [st_ne h,iv_z]
theorem erf_j2 {a:I} (ha:SI a) {q w:Nat} (hq:2≤q∧q≤400) (e:Int):erff_erf_j2 (q:Int) (0,0,(w:Int)) e (iv a).Lo.M.Neg (iv a).Lo.M.Mag (iv a).Lo.E (iv a).Hi.M.Neg (iv a).Hi.M.Mag (iv a).Hi.E=some (iv (doneS q (a,e)).1,(doneS q (a,e)).2):=by
 unfold erff_erf_j2
 rw [ivEta]
 refine Eq.trans (congrArg (fun o=>Option.bind o _) (edone_eq ha hq e _)) ?_
 rfl
theorem erf_rest {x:AD} {q w:Nat} (hq:2≤q∧q≤400) (hw:2≤w∧w≤400) {L:I × I × Int} (h1:SI L.1) (h2:SI L.2.1) (h3:NN L.1) {bell:I} (hb:SI bell) :
  ((cv_Wide (iv L.2.1) (dy L.1.hi) L.2.2 (w:Int)).bind fun x38=>((cv_Scale x38.1 1 x38.2 (w:Int)).bind fun x39=>((cv_Mul x39.1 (iv bell) x39.2 (w:Int)).bind fun x40=>((konst_Root x40.2 (w:Int)).bind fun x41=>((cv_Div x40.1 x41.1 x41.2 (w:Int)).bind fun x42=>
   (if x.M.Neg=true then ((cv_Neg x42.1 x42.2 (w:Int)).bind fun x52=>(erff_erf_j2 (q:Int) (0,0,(w:Int)) x52.2 (x52.1).Lo.M.Neg (x52.1).Lo.M.Mag (x52.1).Lo.E (x52.1).Hi.M.Neg (x52.1).Hi.M.Mag (x52.1).Hi.E))
    else (erff_erf_j2 (q:Int) (0,0,(w:Int)) x42.2 (x42.1).Lo.M.Neg (x42.1).Lo.M.Mag (x42.1).Lo.E (x42.1).Hi.M.Neg (x42.1).Hi.M.Mag (x42.1).Hi.E))))))) =
   some (iv (doneS q (eA w x.M.Neg L bell)).1,(doneS q (eA w x.M.Neg L bell)).2):=by
 have hv:0≤val L.1.hi:=val_nn h3.2
 have e1:cv_Wide (iv L.2.1) (dy L.1.hi) L.2.2 (w:Int)=some (iv (wS w L.2.1 L.1.hi L.2.2).1,(wS w L.2.1 L.1.hi L.2.2).2):=ivWide_eq h2.ok h1.ok.2.1 hv hw L.2.2
 have s1:SI (wS w L.2.1 L.1.hi L.2.2).1:=SI_st (SI_wide h2 hv hw.2) _
 unfold eA
 generalize wS w L.2.1 L.1.hi L.2.2=a at *
 refine Eq.trans (congrArg (fun o=>Option.bind o _) e1) ?_
 simp only [obn]
 have e2:=pScale s1 (n:=1) (by omega) a.2 (w:Int)
 have s2:=SI_sc s1 1 a.2
 generalize scS a.1 1 a.2=b at *
 refine Eq.trans (congrArg (fun o=>Option.bind o _) e2) ?_
 simp only [obn]
 have e3:=pMul hw s2 hb b.2
 have s3:=SI_mS hw.2 b.1 bell b.2
 generalize mS w b.1 bell b.2=c at *
 refine Eq.trans (congrArg (fun o=>Option.bind o _) e3) ?_
 simp only [obn]
 have e4:=Root_eq hw c.2
 have s4:=SI_root hw.2 c.2
 generalize rootS w c.2=r at *
 refine Eq.trans (congrArg (fun o=>Option.bind o _) e4) ?_
 simp only [obn]
 have e5:=pDiv hw s3 s4 r.2
 have s5:=SI_dS hw.2 c.1 s4 r.2
 generalize dS w c.1 r.1 r.2=k at *
 refine Eq.trans (congrArg (fun o=>Option.bind o _) e5) ?_
 simp only [obn]
 by_cases hn:x.M.Neg=true
 ·rw [if_pos hn,if_pos hn]
  refine Eq.trans (congrArg (fun o=>Option.bind o _) (pNeg s5 _ _)) ?_
  simp only [obn]
  exact erf_j2 (SI_nS s5 _) hq _
 ·rw [if_neg hn,if_neg hn]
  exact erf_j2 s5 hq _
theorem erf_main {d:D} (hd:WD d) (hb:blen d.m.natAbs≤200) {n q:Nat} (hn:1≤n∧n≤800) (hq:2≤q∧q≤264):erff_erf_j1 ((n:Int),0) (dy d) (q:Int) false=some (iv (erC d n q).1,(erC d n q).2):=by
 have ha:=WD_abs hd
 have hw:2≤q+64∧q+64≤400:=by omega
 have e1:=dyad_Mul_eq ha ha
 have w1:WD (timesD (absD d) (absD d)).1:=WD_times
 have hba:blen (absD d).m.natAbs≤1000:=Nat.le_trans hb (by omega)
 have s0:=SI_pS ha hba 0
 have n0:NN (pS (absD d) 0).1:=pS_nn (by show 0≤((d.m.natAbs:Nat):Int); omega) 0
 have f1:=erf_series (w:=q+64) (n:=n) hw hn ha hba ⟨⟨⟨false,[]⟩,0⟩,⟨⟨false,[]⟩,0⟩⟩ ⟨⟨⟨false,[]⟩,0⟩,⟨⟨false,[]⟩,0⟩⟩
 obtain ⟨g1,g2,g3⟩:=eF_ok (w:=q+64) (n:=n) hw.2 hn.2 s0 n0
 unfold erff_erf_j1 erC erB
 rw [if_neg (by simp),dy_abs]
 generalize timesD (absD d) (absD d)=t at *
 generalize eF (q+64) n (pS (absD d) 0)=L at *
 refine Eq.trans (congrArg (fun o=>Option.bind o _) e1) ?_
 simp only [obn]
 by_cases h1:t.2=0
 ·rw [if_neg (by simpa using h1),if_neg (by simpa using h1),eta_dy,dyad_Neg_eq w1]
  simp only [obn]
  rw [eta_dy,w64 (by omega) (by omega),show (q:Int)+64=((q+64:Nat):Int) by omega]
  have e2:=Exp_eq w1.neg ((q+64:Nat):Int)
  have s2:SI (expR (negD t.1) ((q+64:Nat):Int)).1:=SI_expR
  generalize expR (negD t.1) ((q+64:Nat):Int)=b at *
  refine Eq.trans (congrArg (fun o=>Option.bind o _) e2) ?_
  simp only [obn]
  by_cases h2:b.2=0
  ·rw [if_neg (by simpa using h2),if_neg (by simpa using h2),ivNew_eq hw]
   simp only [obn]
   unfold erff_series
   simp only [obn]
   refine Eq.trans (congrArg (fun o=>Option.bind o _) f1) ?_
   simp only [obn]
   exact erf_rest (x:=dy d) (q:=q) (w:=q+64) ⟨hq.1,by omega⟩ hw g1 g2 g3 s2
  ·rw [if_pos h2,if_pos h2,zI_eta]
 ·rw [if_pos h1,if_pos h1,zI_eta]
def erR (d:D) (p:Int):I × Int:=if (terR d p).2≠0 then (zI,(terR d p).2) else if d.m=0 then (zI,0) else erC d (terR d p).1.toNat p.toNat
theorem mag_zero (d:D):((dy d).M.Mag.length:Int)=0↔d.m=0:=by
 rw [dy_mag]
 constructor
 ·intro h
  refine Decidable.byContradiction fun h0=>?_
  have:=digs_len_pos (n:=d.m.natAbs) (by omega)
  omega
 ·intro h
  rw [h]
  simp [digs_zero]
theorem erf_eq {d:D} (hd:WD d) (hb:blen d.m.natAbs≤200) (hv : -6≤val d∧val d≤6) {q:Nat} (hq:2≤q∧q≤264):erff_erf (dy d) (q:Int)=some (iv (erR d (q:Int)).1,(erR d (q:Int)).2):=by
 unfold erff_erf erR
 rw [eterms_eq hd]
 simp only [obn]
 have j:∀ x:Int × Int,erff_erf_j1 x (dy d) (q:Int) true=some (iv zI,x.2):=fun x=>by unfold erff_erf_j1; rw [if_pos rfl,zI_eta]
 by_cases h1:(terR d (q:Int)).2=0
 ·obtain ⟨n,k1,k2,k3,_⟩:=terR_ok (p:=(q:Int)) (by omega) hv h1
  rw [if_neg (by simpa using h1),if_neg (by simpa using h1)]
  by_cases h2:d.m=0
  ·rw [show (((dy d).M.Mag.length:Int) == 0)=true by rw [beq_iff_eq]; exact (mag_zero d).2 h2,j,if_pos h2,h1]
  ·rw [show (((dy d).M.Mag.length:Int) == 0)=false by rw [beq_eq_false_iff_ne]; exact fun h=>h2 ((mag_zero d).1 h),if_neg h2]
   have e:terR d (q:Int)=((n:Int),0):=Prod.ext k1 h1
   rw [e]
   show _=some (iv (erC d ((n:Int)).toNat ((q:Int)).toNat).1,(erC d ((n:Int)).toNat ((q:Int)).toNat).2)
   rw [Int.toNat_natCast,Int.toNat_natCast]
   exact erf_main hd hb (by omega) hq
 ·rw [if_pos h1,if_pos h1,j]
def erfR (d:D) (p:Int):I × Int:=if fitE d p≠0 then (zI,fitE d p) else erR d p
theorem Erf_eq {d:D} (hd:WD d) (p:Int):erff_Erf (dy d) p=some (iv (erfR d p).1,(erfR d p).2):=by
 unfold erff_Erf erfR
 rw [efits_eq hd]
 simp only [obn]
 by_cases h:fitE d p=0
 ·rw [if_neg (by simpa using h),if_neg (by simpa using h)]
  obtain ⟨h1,h2,h3,h4,h5⟩:=fitE_ok h
  obtain ⟨q,rfl⟩:∃ q:Nat,p=(q:Int):=⟨p.toNat,by omega⟩
  refine Eq.trans (congrArg (fun o=>Option.bind o _) (erf_eq hd h3 ⟨h4,h5⟩ (by omega))) ?_
  rfl
 ·rw [if_pos h,if_pos h,zI_eta]
theorem SI_erC (d:D) (n:Nat) {q:Nat} (hq:q≤264):SI (erC d n q).1:=by
 unfold erC erB
 split
 ·exact SI_z
 ·split
  ·exact SI_z
  ·exact SI_done (SI_eA (by omega) _ _ _) (by omega)
theorem SI_erR (d:D) {p:Int} (hp:p≤264):SI (erR d p).1:=by
 unfold erR
 split
 ·exact SI_z
 ·split
  ·exact SI_z
  ·exact SI_erC d _ (by omega)
theorem SI_erfR (d:D) (p:Int):SI (erfR d p).1:=by
 unfold erfR
 split
 ·exact SI_z
 ·rename_i h
  have:=fitE_ok (Decidable.byContradiction fun k=>h k)
  exact SI_erR d (by omega)
def ecD (p:Nat) (r:I × Int):I × Int:=if r.2≠0 then (zI,r.2) else doneS p (suS (p+64) (iS 1 0).1 r.1 (iS 1 0).2)
def erfcR (d:D) (p:Int):I × Int:=if fitE d p≠0 then (zI,fitE d p) else ecD p.toNat (erR d (p+64))
theorem Erfc_eq {d:D} (hd:WD d) (p:Int):erff_Erfc (dy d) p=some (iv (erfcR d p).1,(erfcR d p).2):=by
 unfold erff_Erfc erfcR
 rw [efits_eq hd]
 simp only [obn]
 by_cases h:fitE d p=0
 ·rw [if_neg (by simpa using h),if_neg (by simpa using h)]
  obtain ⟨h1,h2,h3,h4,h5⟩:=fitE_ok h
  obtain ⟨q,rfl⟩:∃ q:Nat,p=(q:Int):=⟨p.toNat,by omega⟩
  rw [w64 (by omega) (by omega),show (q:Int)+64=((q+64:Nat):Int) by omega,Int.toNat_natCast]
  have hw:2≤q+64∧q+64≤400:=by omega
  have e1:=erf_eq hd h3 ⟨h4,h5⟩ (q:=q+64) (by omega)
  have s1:=SI_erR d (p:=((q+64:Nat):Int)) (by omega)
  generalize erR d ((q+64:Nat):Int)=r at *
  refine Eq.trans (congrArg (fun o=>Option.bind o _) e1) ?_
  simp only [obn]
  unfold ecD
  by_cases h2:r.2=0
  ·rw [if_neg (by simpa using h2),if_neg (by simpa using h2),ivNew_eq hw]
   simp only [obn]
   have e2:=pInt (n:=1) (by omega) 0 ((q+64:Nat):Int)
   have s2:=SI_iS (n:=1) (by omega) 0
   generalize iS 1 0=i at *
   refine Eq.trans (congrArg (fun o=>Option.bind o _) e2) ?_
   simp only [obn]
   have e3:=pSub hw s2 s1 i.2
   have s3:=SI_suS hw.2 s2 s1 i.2
   generalize suS (q+64) i.1 r.1 i.2=u at *
   refine Eq.trans (congrArg (fun o=>Option.bind o _) e3) ?_
   simp only [obn]
   refine Eq.trans (congrArg (fun o=>Option.bind o _) (edone_eq s3 (by omega) _ _)) ?_
   rfl
  ·rw [if_pos h2,if_pos h2,zI_eta]
 ·rw [if_pos h,if_pos h,zI_eta]
theorem SI_erfcR (d:D) (p:Int):SI (erfcR d p).1:=by
 unfold erfcR
 split
 ·exact SI_z
 ·rename_i h
  have h:=fitE_ok (Decidable.byContradiction fun k=>h k)
  unfold ecD
  split
  ·exact SI_z
  ·exact SI_done (SI_suS (by omega) (SI_iS (by omega) _) (SI_erR d (by omega)) _) (by omega)
theorem Erf_bad {x:AD} (hr:dyad_Right x=some false) (p:Int):erff_Erf x p=some (iv zI,1):=by
 unfold erff_Erf
 rw [efits_bad hr]
 simp only [obn]
 rw [if_pos (by omega),zI_eta]
theorem Erfc_bad {x:AD} (hr:dyad_Right x=some false) (p:Int):erff_Erfc x p=some (iv zI,1):=by
 unfold erff_Erfc
 rw [efits_bad hr]
 simp only [obn]
 rw [if_pos (by omega),zI_eta]
theorem Terms_bad {x:AD} (hr:dyad_Right x=some false) (p:Int):erff_Terms x p=some (0,1):=by
 unfold erff_Terms
 rw [efits_bad hr]
 rfl
theorem rerf_j4 {a:I} (ha:SI a) {q w:Nat} (hq:2≤q∧q≤400) (z e:Int):r11_sum_j4 (q:Int) ((w:Int),z) e (iv a).Lo.M.Neg (iv a).Lo.M.Mag (iv a).Lo.E (iv a).Hi.M.Neg (iv a).Hi.M.Mag (iv a).Hi.E=some (iv (doneS q (a,e)).1,(doneS q (a,e)).2):=by
 unfold r11_sum_j4
 rw [ivEta]
 refine Eq.trans (congrArg (fun o=>Option.bind o _) (rEnds_eq ha hq _ e)) ?_
 rfl
theorem rerf_j3 {x:AD} {q w:Nat} (hq:2≤q∧q≤400) (hw:2≤w∧w≤400) {L:I × I × Int} (h1:SI L.1) (h2:SI L.2.1) (h3:NN L.1) {bell:I} (hb:SI bell) (z eb:Int) :
  r11_sum_j3 ((w:Int),z) (iv bell,eb) x (q:Int) L.2.2 (iv L.2.1).Lo.M.Neg (iv L.2.1).Lo.M.Mag (iv L.2.1).Lo.E (iv L.2.1).Hi.M.Neg (iv L.2.1).Hi.M.Mag (iv L.2.1).Hi.E (iv L.1).Lo.M.Neg (iv L.1).Lo.M.Mag (iv L.1).Lo.E (iv L.1).Hi.M.Neg (iv L.1).Hi.M.Mag (iv L.1).Hi.E =
   some (iv (doneS q (eA w x.M.Neg L bell)).1,(doneS q (eA w x.M.Neg L bell)).2):=by
 have hv:0≤val L.1.hi:=val_nn h3.2
 have e1:r06_CWide (iv L.2.1) (dy L.1.hi) (w:Int) L.2.2=some (iv (wS w L.2.1 L.1.hi L.2.2).1,(wS w L.2.1 L.1.hi L.2.2).2):=rivWide_eq h2.ok h1.ok.2.1 hv hw L.2.2
 have s1:SI (wS w L.2.1 L.1.hi L.2.2).1:=SI_st (SI_wide h2 hv hw.2) _
 unfold r11_sum_j3 eA
 rw [ivEta,show (⟨⟨(iv L.1).Hi.M.Neg,(iv L.1).Hi.M.Mag⟩,(iv L.1).Hi.E⟩:AD)=dy L.1.hi from rfl]
 generalize wS w L.2.1 L.1.hi L.2.2=a at *
 refine Eq.trans (congrArg (fun o=>Option.bind o _) e1) ?_
 simp only [obn]
 have e2:=rScaleS s1 (n:=1) (by omega) a.2 (w:Int)
 have s2:=SI_sc s1 1 a.2
 generalize scS a.1 1 a.2=b at *
 refine Eq.trans (congrArg (fun o=>Option.bind o _) e2) ?_
 simp only [obn]
 have e3:=rMulS hw s2 hb b.2
 have s3:=SI_mS hw.2 b.1 bell b.2
 generalize mS w b.1 bell b.2=c at *
 refine Eq.trans (congrArg (fun o=>Option.bind o _) e3) ?_
 simp only [obn]
 have e4:=rRoot_eq hw c.2
 have s4:=SI_root hw.2 c.2
 generalize rootS w c.2=r at *
 refine Eq.trans (congrArg (fun o=>Option.bind o _) e4) ?_
 simp only [obn]
 have e5:=rDivS hw s3 s4 r.2
 have s5:=SI_dS hw.2 c.1 s4 r.2
 generalize dS w c.1 r.1 r.2=k at *
 refine Eq.trans (congrArg (fun o=>Option.bind o _) e5) ?_
 simp only [obn]
 by_cases hn:x.M.Neg=true
 ·rw [if_pos hn,if_pos hn]
  refine Eq.trans (congrArg (fun o=>Option.bind o _) (rNegS s5 _ _)) ?_
  simp only [obn]
  exact rerf_j4 (SI_nS s5 _) hq _ _
 ·rw [if_neg hn,if_neg hn]
  exact rerf_j4 s5 hq _ _
theorem rerf_loop {x:AD} {q w n:Nat} (hq:2≤q∧q≤400) (hw:2≤w∧w≤400) (hn:n≤800) {tw bell:I} (htw:SI tw) (hb:SI bell) (n0:NN tw) (z eb et:Int):∀ (k i:Nat) (t s:I) (e:Int),i+k=n+1→SI t→SI s→NN t→∀ f,k<f→
  r11_sum_l5 (n:Int) (iv tw,et) ((w:Int),z) (iv bell,eb) x (q:Int) f (i:Int) e (iv s).Lo.M.Neg (iv s).Lo.M.Mag (iv s).Lo.E (iv s).Hi.M.Neg (iv s).Hi.M.Mag (iv s).Hi.E (iv t).Lo.M.Neg (iv t).Lo.M.Mag (iv t).Lo.E (iv t).Hi.M.Neg (iv t).Hi.M.Mag (iv t).Hi.E =
   some (iv (doneS q (eA w x.M.Neg (eL w tw k i t s e) bell)).1,(doneS q (eA w x.M.Neg (eL w tw k i t s e) bell)).2):=by
 intro k
 induction k with
 | zero=>
  intro i t s e hi ht hs hnn f hf
  obtain ⟨f,rfl⟩:∃ g,f=g+1:=⟨f-1,by omega⟩
  rw [r11_sum_l5,if_neg (by omega)]
  exact rerf_j3 (L:=(t,s,e)) hq hw ht hs hnn hb z eb
 | succ k ih=>
  intro i t s e hi ht hs hnn f hf
  obtain ⟨f,rfl⟩:∃ g,f=g+1:=⟨f-1,by omega⟩
  rw [r11_sum_l5,if_pos (by omega),ivEta,ivEta]
  have e1:=rMulS hw ht htw e
  have h1:=SI_mS hw.2 t tw e
  have h3:=SI_eN hw.2 tw (i:=i) (by omega) t e
  have h4:=eN_nn (w:=w) n0 hnn i e
  show _=some (iv (doneS q (eA w x.M.Neg (eL w tw k (i+1) (eN w tw i t e).1 (aS w s (eN w tw i t e).1 (eN w tw i t e).2).1 (aS w s (eN w tw i t e).1 (eN w tw i t e).2).2) bell)).1,(doneS q (eA w x.M.Neg (eL w tw k (i+1) (eN w tw i t e).1 (aS w s (eN w tw i t e).1 (eN w tw i t e).2).1 (aS w s (eN w tw i t e).1 (eN w tw i t e).2).2) bell)).2)
  have hx:eN w tw i t e=dS w (mS w t tw e).1 (iS ((2*i+1:Nat):Int) (mS w t tw e).2).1 (iS ((2*i+1:Nat):Int) (mS w t tw e).2).2:=rfl
  generalize mS w t tw e=m at *
  have e2:=rIntS (n:=((2*i+1:Nat):Int)) (by omega) m.2 (w:Int)
  have h2:=SI_iS (n:=((2*i+1:Nat):Int)) (by omega) m.2
  generalize iS ((2*i+1:Nat):Int) m.2=c at *
  have e3:=rDivS hw h1 h2 c.2
  rw [← hx] at e3
  generalize eN w tw i t e=g at *
  refine Eq.trans (congrArg (fun o=>Option.bind o _) e1) ?_
  simp only [obn]
  rw [wrap_odd (by omega)]
  refine Eq.trans (congrArg (fun o=>Option.bind o _) e2) ?_
  simp only [obn]
  refine Eq.trans (congrArg (fun o=>Option.bind o _) e3) ?_
  simp only [obn]
  have e4:=rAddS hw hs h3 g.2
  have h5:=SI_aS hw.2 hs h3 g.2
  generalize aS w s g.1 g.2=a at *
  refine Eq.trans (congrArg (fun o=>Option.bind o _) e4) ?_
  simp only [obn]
  rw [w64 (by omega) (by omega),show (i:Int)+1=((i+1:Nat):Int) by omega]
  exact ih (i+1) g.1 a.1 a.2 (by omega) h3 h5 h4 f (by omega)
theorem rerf_j2 {x:AD} {d:D} (hx:x.M.Neg=decide (d.m<0)) (hd:WD d) (hb:blen d.m.natAbs≤200) {n q:Nat} (hn:1≤n∧n≤800) (hq:2≤q∧q≤264) :
  r11_sum_j2 (q:Int) (((q+64:Nat):Int),0) (n:Int) x (dy (absD d)).M.Neg (dy (absD d)).M.Mag (dy (absD d)).E=some (iv (erC d n q).1,(erC d n q).2):=by
 have ha:=WD_abs hd
 have hw:2≤q+64∧q+64≤400:=by omega
 have e1:=rMul5_eq ha ha
 have w1:WD (timesD (absD d) (absD d)).1:=WD_times
 have hba:blen (absD d).m.natAbs≤1000:=Nat.le_trans hb (by omega)
 have s0:=SI_pS ha hba
 have nn:=fun e=>pS_nn (d:=absD d) (by show 0≤((d.m.natAbs:Nat):Int); omega) e
 have p0:=fun e=>rPS ha e ((q+64:Nat):Int)
 unfold r11_sum_j2 erC erB eF
 rw [show (⟨⟨(dy (absD d)).M.Neg,(dy (absD d)).M.Mag⟩,(dy (absD d)).E⟩:AD)=dy (absD d) from rfl]
 have z0:∀ e,e≠0→pS (absD d) e=(zI,e):=fun e h=>st_ne h _ _
 have z2:∀ e,(pS (absD d) e).2=e:=fun e=>by
  by_cases h:e=0
  ·subst h; unfold pS; rw [st_zero]
  ·rw [z0 e h]
 generalize pS (absD d)=y at *
 generalize timesD (absD d) (absD d)=t at *
 refine Eq.trans (congrArg (fun o=>Option.bind o _) e1) ?_
 simp only [obn]
 by_cases h1:t.2=0
 ·rw [if_neg (by simpa using h1),if_neg (by simpa using h1),eta_dy,rNeg5_eq w1]
  simp only [obn]
  rw [eta_dy,w64 (by omega) (by omega),show (q:Int)+64=((q+64:Nat):Int) by omega]
  have e2:=rExp9_eq w1.neg ((q+64:Nat):Int)
  have s2:SI (expR (negD t.1) ((q+64:Nat):Int)).1:=SI_expR
  generalize expR (negD t.1) ((q+64:Nat):Int)=b at *
  refine Eq.trans (congrArg (fun o=>Option.bind o _) e2) ?_
  simp only [obn]
  by_cases h2:b.2=0
  ·rw [if_neg (by simpa using h2),if_neg (by simpa using h2)]
   refine Eq.trans (congrArg (fun o=>Option.bind o _) (p0 0)) ?_
   simp only [obn]
   rw [z2 0]
   refine Eq.trans (congrArg (fun o=>Option.bind o _) (p0 0)) ?_
   simp only [obn]
   rw [z2 0]
   refine Eq.trans (congrArg (fun o=>Option.bind o _) (rMulS hw (s0 0) (s0 0) 0)) ?_
   simp only [obn]
   refine Eq.trans (congrArg (fun o=>Option.bind o _) (rScaleS (SI_mS hw.2 (y 0).1 (y 0).1 0) (n:=1) (by omega) _ _)) ?_
   simp only [obn]
   have hu:eTw (q+64) (y 0)=scS (mS (q+64) (y 0).1 (y 0).1 0).1 1 (mS (q+64) (y 0).1 (y 0).1 0).2:=by unfold eTw; rw [z2 0]
   have su:=SI_eTw (w:=q+64) hw.2 (y 0)
   have nu:=eTw_nn (w:=q+64) (nn 0)
   rw [← hu]
   generalize eTw (q+64) (y 0)=u at *
   refine Eq.trans (congrArg (fun o=>Option.bind o _) (p0 u.2)) ?_
   simp only [obn]
   rw [z2 u.2]
   refine Eq.trans (congrArg (fun o=>Option.bind o _) (p0 u.2)) ?_
   simp only [obn]
   rw [z2 u.2]
   have key:=rerf_loop (x:=x) (q:=q) (w:=q+64) (n:=n) ⟨hq.1,by omega⟩ hw hn.2 su s2 nu 0 b.2 u.2 n 1 (y u.2).1 (y u.2).1 u.2 (by omega) (s0 u.2) (s0 u.2) (nn u.2) fuel (by unfold fuel; omega)
   refine Eq.trans key ?_
   rw [hx]
   by_cases h3:u.2=0
   ·rw [h3]
   ·rw [eA_err _ _ _ (by rw [eL_err u.1 h3]; exact h3),eA_err _ _ _ (by rw [eL_err u.1 h3]; exact h3),eL_err u.1 h3,eL_err u.1 h3]
  ·rw [if_pos h2,if_pos h2,zI_eta]
 ·rw [if_pos h1,if_pos h1,zI_eta]
theorem rsum_eq {d:D} (hd:WD d) (hb:blen d.m.natAbs≤200) {n q:Nat} (hn:1≤n∧n≤800) (hq:2≤q∧q≤264):r11_sum (dy d) (n:Int) (q:Int)=some (iv (erC d n q).1,(erC d n q).2):=by
 have hw:2≤q+64∧q+64≤400:=by omega
 have hn':(dy d).M.Neg=decide (d.m<0):=rfl
 have key:=rerf_j2 (x:=dy d) hn' hd hb hn hq
 unfold r11_sum
 rw [w64 (by omega) (by omega),show (q:Int)+64=((q+64:Nat):Int) by omega,rNew6_eq hw]
 simp only [obn]
 by_cases h:d.m<0
 ·rw [hn',decide_eq_true h,if_pos rfl,rNeg5_eq hd]
  simp only [obn]
  rw [neg_abs h]
  exact key
 ·rw [hn',decide_eq_false h,if_neg (by simp)]
  have e:=pos_abs h
  rw [← e,hn',decide_eq_false h] at key
  exact key
theorem termsR_in {d:D} {p:Int} (h:fitE d p=0):termsR d p=terR d p:=by unfold termsR; rw [if_neg (by simpa using h)]
theorem termsR_out {d:D} {p:Int} (h:¬fitE d p=0):termsR d p=(0,fitE d p):=by unfold termsR; rw [if_pos h]
theorem rErf_eq {d:D} (hd:WD d) (p:Int):r11_Erf (dy d) p=some (iv (erfR d p).1,(erfR d p).2):=by
 unfold r11_Erf erfR erR
 rw [rTerms_eq hd]
 simp only [obn]
 by_cases h:fitE d p=0
 ·rw [termsR_in h,if_neg (show ¬fitE d p≠0 by simpa using h)]
  obtain ⟨h1,h2,h3,h4,h5⟩:=fitE_ok h
  obtain ⟨q,rfl⟩:∃ q:Nat,p=(q:Int):=⟨p.toNat,by omega⟩
  by_cases h6:(terR d (q:Int)).2=0
  ·obtain ⟨n,k1,k2,k3,_⟩:=terR_ok (p:=(q:Int)) (by omega) ⟨h4,h5⟩ h6
   rw [if_neg (show ¬ ¬(terR d (q:Int)).2=0 by simpa using h6),if_neg (show ¬(terR d (q:Int)).2≠0 by simpa using h6),k1]
   by_cases h7:d.m=0
   ·rw [if_pos ((mag_zero d).2 h7),if_pos h7,zI_eta]
   ·rw [if_neg (fun k=>h7 ((mag_zero d).1 k)),if_neg h7,Int.toNat_natCast,Int.toNat_natCast]
    refine Eq.trans (congrArg (fun o=>Option.bind o _) (rsum_eq hd h3 (by omega) (by omega))) ?_
    rfl
  ·rw [if_pos h6,if_pos h6,zI_eta]
 ·rw [termsR_out h]
  simp only
  rw [if_pos h,if_pos h,zI_eta]
theorem rerfc_j2 {a:I} (ha:SI a) {q:Nat} (hq:2≤q∧q≤200):r11_Erfc_j2 (((q+64:Nat):Int),0) (q:Int) (iv a).Lo.M.Neg (iv a).Lo.M.Mag (iv a).Lo.E (iv a).Hi.M.Neg (iv a).Hi.M.Mag (iv a).Hi.E=some (iv (ecD q (a,0)).1,(ecD q (a,0)).2):=by
 have hw:2≤q+64∧q+64≤400:=by omega
 unfold r11_Erfc_j2 ecD
 rw [if_neg (by simp)]
 have e2:=rIntS (n:=1) (by omega) 0 ((q+64:Nat):Int)
 have s2:=SI_iS (n:=1) (by omega) 0
 generalize iS 1 0=i at *
 refine Eq.trans (congrArg (fun o=>Option.bind o _) e2) ?_
 simp only [obn]
 rw [ivEta,ivEta]
 have e3:=rSubS hw s2 ha i.2
 have s3:=SI_suS hw.2 s2 ha i.2
 generalize suS (q+64) i.1 a i.2=u at *
 refine Eq.trans (congrArg (fun o=>Option.bind o _) e3) ?_
 simp only [obn]
 rw [ivEta]
 refine Eq.trans (congrArg (fun o=>Option.bind o _) (rEnds_eq s3 (by omega) _ _)) ?_
 rfl
theorem rErfc_eq {d:D} (hd:WD d) (p:Int):r11_Erfc (dy d) p=some (iv (erfcR d p).1,(erfcR d p).2):=by
 unfold r11_Erfc erfcR
 rw [refits_eq hd]
 simp only [obn]
 by_cases h:fitE d p=0
 ·rw [if_neg (by simpa using h),if_neg (by simpa using h)]
  obtain ⟨h1,h2,h3,h4,h5⟩:=fitE_ok h
  obtain ⟨q,rfl⟩:∃ q:Nat,p=(q:Int):=⟨p.toNat,by omega⟩
  rw [w64 (by omega) (by omega),show (q:Int)+64=((q+64:Nat):Int) by omega,Int.toNat_natCast,rNew6_eq (by omega),rTerms_eq hd]
  simp only [obn]
  rw [termsR_in h]
  unfold erR
  by_cases h6:(terR d (q:Int)).2=0
  ·obtain ⟨n,k1,k2,k3,k4⟩:=terR_ok (p:=(q:Int)) (by omega) ⟨h4,h5⟩ h6
   have e:terR d (q:Int)=((n:Int),0):=Prod.ext k1 h6
   rw [show (q:Int)+64=((q+64:Nat):Int) by omega] at k4
   rw [e,k4]
   rw [if_neg (show ¬ ¬(((n:Int),(0:Int)):Int × Int).2=0 by simp),if_neg (show ¬((((n+64:Nat):Int),(0:Int)):Int × Int).2≠0 by simp)]
   by_cases h7:d.m=0
   ·rw [if_neg (by rw [(mag_zero d).2 h7]; omega),if_pos h7]
    have:=rerfc_j2 SI_z (q:=q) (by omega)
    rw [iv_z] at this
    exact this
   ·have:((dy d).M.Mag.length:Int)>0:=by
     have:=mt (mag_zero d).1 h7
     omega
    rw [if_pos this,if_neg h7,Int.toNat_natCast,Int.toNat_natCast,w64 (x:=(n:Int)+64) (by omega) (by omega),show (n:Int)+64=((n+64:Nat):Int) by omega]
    have e1:=rsum_eq hd h3 (n:=n+64) (q:=q+64) (by omega) (by omega)
    have s1:=SI_erC d (n+64) (q:=q+64) (by omega)
    generalize erC d (n+64) (q+64)=r at *
    refine Eq.trans (congrArg (fun o=>Option.bind o _) e1) ?_
    simp only [obn]
    by_cases h8:r.2=0
    ·rw [if_neg (by simpa using h8)]
     have:=rerfc_j2 s1 (q:=q) (by omega)
     rw [show r=(r.1,0) from Prod.ext rfl h8]
     exact this
    ·rw [if_pos h8]
     unfold ecD
     rw [if_pos h8,zI_eta]
  ·have h9:(terR d ((q+64:Nat):Int)).2=(terR d (q:Int)).2:=terR_err d _ _
   rw [if_pos h6,if_pos (by rw [h9]; exact h6),h9]
   unfold ecD
   rw [if_pos h6,zI_eta]
 ·rw [if_pos h,if_pos h,zI_eta]
theorem rErf_bad {x:AD} (hr:r05_Right x=some false) (p:Int):r11_Erf x p=some (iv zI,1):=by
 unfold r11_Erf r11_Terms
 rw [refits_bad hr]
 simp only [obn]
 rw [if_pos (by omega)]
 simp only [obn]
 rw [if_pos (by omega),zI_eta]
theorem rErfc_bad {x:AD} (hr:r05_Right x=some false) (p:Int):r11_Erfc x p=some (iv zI,1):=by
 unfold r11_Erfc
 rw [refits_bad hr]
 simp only [obn]
 rw [if_pos (by omega),zI_eta]
theorem rTerms_bad {x:AD} (hr:r05_Right x=some false) (p:Int):r11_Terms x p=some (0,1):=by
 unfold r11_Terms
 rw [refits_bad hr]
 rfl
theorem cut11_eq {x:AD} (hx:gAD x):l11_cut x 8=some ⟨⟨x.M.Neg,x.M.Mag.take (min x.M.Mag.length 8)⟩,x.E⟩:=by
 have hl:x.M.Mag.length≤9223372036854775807:=by have:=hx.1.2.1; unfold maxLen at this; omega
 have hm:mn (x.M.Mag.length:Int) 8=((min x.M.Mag.length 8:Nat):Int):=by unfold mn; split<;>omega
 unfold l11_cut
 rw [hm,if_pos (by omega),Int.toNat_natCast]
theorem same11_eq {x y:I} (hx:okI x):l11_same (iv x) (iv y)=some (decide (x=y)):=by
 unfold l11_same
 rw [same_eq hx]; rfl
theorem ex11:erfR zD 30=(zI,0)∧(erfR (fromD 7) 30).2=4:=by decide +kernel
end Go.Proofs.YtjffljhmjdljeaaGreat.Gen
