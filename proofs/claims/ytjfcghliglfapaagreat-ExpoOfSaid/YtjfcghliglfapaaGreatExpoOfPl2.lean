/- Plain theory of the numbers that the statement speaks of: printed from the proofs' own texts, as far as this statement needs it. -/
import Derived.Test.YtjfcghliglfapaaGreatExpoOfPl1
namespace Go.Proofs.YtjfcghliglfapaaGreat.Gen
open Go Go.Abs Go.Plain
theorem dyad_ScaleR_eq {x:D} (hx:WD x) (n:Int):dyad_Scale (dy x) n=some (dy (scaleR x n).1,(scaleR x n).2):=by
 unfold scaleR
 by_cases h : -100000≤n∧n≤100000
 ·rw [if_pos h]; exact dyad_Scale_eq hx h
 ·rw [if_neg h]
  unfold dyad_Scale dyad_Scale_j1 dyad_Scale_j2
  rw [right_one hx]
  simp only [obn,dyad_within_eq,must_eq,dyad_zero_eq]
  rw [if_pos True.intro,show decide (-100000≤n∧n≤100000)=false by simpa using h]
  simp only [Bool.false_eq_true,if_false,if_true]
  rw [if_neg (by decide),told_err (by decide)]
  rfl
theorem rScaleR_eq {x:D} (hx:WD x) (n:Int):r05_Scale (dy x) n=some (dy (scaleR x n).1,(scaleR x n).2):=by
 unfold scaleR
 by_cases h : -100000≤n∧n≤100000
 ·rw [if_pos h]; exact rScale5_eq hx h
 ·rw [if_neg h]
  unfold r05_Scale r05_Scale_j1
  rw [rRight5_dy hx.1 hx.sz]
  simp only [obn]
  rw [if_neg (by simp)]
  by_cases h1:n < -100000
  ·rw [if_pos h1,if_pos True.intro,← dy_z]
  ·rw [if_neg h1,show decide (n>100000)=true by simp; omega,if_pos rfl,← dy_z]
theorem ivScaleR_eq {a:I} (ha:okI a) (n:Int) (e p:Int):cv_Scale (iv a) n e p=some (iv (st e zI (scaleRI a n)).1,(st e zI (scaleRI a n)).2):=by
 unfold cv_Scale
 rw [fine_one ha]
 simp only [obn]
 by_cases h:e=0
 ·subst h
  rw [if_neg (by simp),ivLo,ivHi,st_zero,dyad_ScaleR_eq ha.1 n]
  simp only [obn]
  rw [take_eq,if_pos rfl]
  unfold scaleRI
  by_cases h1:(scaleR a.lo n).2=0
  ·rw [bindE_ok h1,if_pos h1]
   simp only [obn]
   rw [if_neg (by simp),dyad_ScaleR_eq ha.2.1 n]
   simp only [obn]
   rw [take_eq,if_pos rfl]
   by_cases h2:(scaleR a.hi n).2=0
   ·rw [bindE_ok h2,if_pos h2]
    simp only [obn]
    rw [outE_eq]
    simp only [obn]
    rfl
   ·rw [bindE_no h2,if_neg h2]
    simp only [obn]
    rw [outE_eq,if_neg h2]
    simp only [obn]
  ·rw [bindE_no h1,if_neg h1]
   simp only [obn]
   rw [if_pos (by simpa using h1),iv_z]
 ·rw [if_pos (fine_no h),st_ne h,iv_z]
theorem rivScaleR_eq {a:I} (ha:okI a) (n:Int) (e p:Int):r06_CScale (iv a) n p e=some (iv (st e zI (scaleRI a n)).1,(st e zI (scaleRI a n)).2):=by
 unfold r06_CScale
 rw [rarg_one ha]
 simp only [obn]
 by_cases h:e=0
 ·subst h
  rw [if_neg (by simp),ivLo,ivHi,st_zero,rScaleR_eq ha.1 n]
  simp only [obn]
  rw [rerr_eq,if_pos rfl]
  simp only [obn]
  unfold scaleRI
  by_cases h1:(scaleR a.lo n).2=0
  ·rw [bindE_ok h1,if_neg (by simp [h1]),rScaleR_eq ha.2.1 n]
   simp only [obn]
   rw [rerr_eq,if_pos h1]
   simp only [obn]
   rw [routE_eq]
   simp only [obn]
   by_cases h2:(scaleR a.hi n).2=0
   ·rw [bindE_ok h2,if_pos h2,h2]
   ·rw [bindE_no h2,if_neg h2]
  ·rw [bindE_no h1,if_pos (by simpa using h1),iv_z]
 ·rw [if_pos (fine_no h),st_ne h,iv_z]
theorem SI_scaleR {a:I} (ha:SI a) (n:Int):SI (scaleRI a n).1:=by
 by_cases h : -100000≤n∧n≤100000
 ·rw [scaleRI_in h]; exact SI_scale ha n
 ·rw [scaleRI_out h]; exact SI_z
def srS (a:I) (n:Int) (e:Int):I × Int:=st e zI (scaleRI a n)
theorem SI_sr {a:I} (ha:SI a) (n e:Int):SI (srS a n e).1:=SI_st (SI_scaleR ha n) e
theorem pScaleR {a:I} (ha:SI a) (n e p:Int):cv_Scale (iv a) n e p=some (iv (srS a n e).1,(srS a n e).2):=ivScaleR_eq ha.ok n e p
theorem rScaleRS {a:I} (ha:SI a) (n e p:Int):r06_CScale (iv a) n p e=some (iv (srS a n e).1,(srS a n e).2):=rivScaleR_eq ha.ok n e p
def fitB (d:D) (p:Int):Bool:=decide (2≤p) && decide (p≤336) && decide (blen d.m.natAbs≤400)
theorem dy_mag (d:D):(dy d).M.Mag=digs d.m.natAbs:=rfl
theorem bits_dy {d:D} (h:SZ d.m.natAbs):nat_Bits (dy d).M.Mag=some ((blen d.m.natAbs:Nat):Int):=by
 rw [dy_mag,nat_Bits_eq (dgd _) (by have:=sz_len h; omega),dvd]
theorem rbits_dy {d:D} (h:SZ d.m.natAbs):r01_Bits (dy d).M.Mag=some ((blen d.m.natAbs:Nat):Int):=by
 rw [dy_mag,rBits_eq (dgd _) (by have:=sz_len h; omega),dvd]
theorem eta_dy (x:AD):(⟨x.M,x.E⟩:AD)=x:=rfl
theorem fits_end {l:List AD} {i n:Nat} (hi:l.length≤i):expo_fits_l3 l (n+1) (i:Int)=some true:=by
 rw [expo_fits_l3,if_neg (by omega)]; rfl
theorem fits_ok {l:List AD} {i n:Nat} {d:D} (hi:i<l.length) (hi':i≤1000) (he:l.getD i zAD=dy d) (hd:okD d) (hs:SZ d.m.natAbs):expo_fits_l3 l (n+1) (i:Int)=if blen d.m.natAbs≤400 then expo_fits_l3 l n ((i+1:Nat):Int) else some false:=by
 rw [expo_fits_l3,if_pos (by omega),if_pos (by omega),Int.toNat_natCast,he,eta_dy,dyad_Right_dy hd hs]
 simp only [obn]
 rw [if_neg (by simp),bits_dy hs]
 simp only [obn]
 unfold expo_fits_j4
 by_cases h:blen d.m.natAbs≤400
 ·rw [if_pos h,show decide ((blen d.m.natAbs:Int)>400)=false by simp; omega,if_neg (by simp),w64 (by omega) (by omega)]; rfl
 ·rw [if_neg h,show decide ((blen d.m.natAbs:Int)>400)=true by simp; omega,if_pos rfl]
theorem fits_of {l:List AD} {p:Int} {r:Bool} (h:expo_fits_l3 l fuel 0=some r):expo_fits p l=some (decide (2≤p) && decide (p≤336) && r):=by
 unfold expo_fits expo_fits_j1
 by_cases h1:p<2
 ·rw [if_pos h1,if_pos rfl,show decide (2≤p)=false by simp; omega]; rfl
 ·rw [if_neg h1,show decide (2≤p)=true by simp; omega]
  by_cases h2:p≤336
  ·rw [show decide (p>336)=false by simp; omega,if_neg (by simp),h,show decide (p≤336)=true by simp; omega]; rfl
  ·rw [show decide (p>336)=true by simp; omega,if_pos rfl,show decide (p≤336)=false by simp; omega]; rfl
theorem fits_one {d:D} (hd:okD d) (hs:SZ d.m.natAbs) (p:Int):expo_fits p [dy d]=some (fitB d p):=by
 obtain ⟨f,hf⟩:=fuel_succ
 rw [fits_of (r:=decide (blen d.m.natAbs≤400))]
 ·rfl
 ·have h0:=fits_ok (l:=[dy d]) (i:=0) (n:=f+1+1) (d:=d) (by simp) (by omega) rfl hd hs
  have h1:=fits_end (l:=[dy d]) (i:=1) (n:=f+1) (by simp)
  rw [hf,show (0:Int)=((0:Nat):Int) from rfl,h0]
  by_cases h:blen d.m.natAbs≤400
  ·rw [if_pos h,h1,decide_eq_true h]
  ·rw [if_neg h,decide_eq_false h]
theorem fits_two {d f:D} (hd:okD d) (hs:SZ d.m.natAbs) (hf:okD f) (hs':SZ f.m.natAbs) (p:Int):expo_fits p [dy d,dy f]=some (fitB d p && fitB f p):=by
 obtain ⟨g,hg⟩:=fuel_succ
 rw [fits_of (r:=decide (blen d.m.natAbs≤400) && decide (blen f.m.natAbs≤400))]
 ·unfold fitB
  cases decide (2≤p)<;>cases decide (p≤336)<;>cases decide (blen d.m.natAbs≤400)<;>rfl
 ·have h0:=fits_ok (l:=[dy d,dy f]) (i:=0) (n:=g+1+1) (d:=d) (by simp) (by omega) rfl hd hs
  have h1:=fits_ok (l:=[dy d,dy f]) (i:=1) (n:=g+1) (d:=f) (by simp) (by omega) rfl hf hs'
  have h2:=fits_end (l:=[dy d,dy f]) (i:=2) (n:=g) (by simp)
  rw [hg,show (0:Int)=((0:Nat):Int) from rfl,h0]
  by_cases h:blen d.m.natAbs≤400
  ·rw [if_pos h,h1,decide_eq_true h]
   by_cases h':blen f.m.natAbs≤400
   ·rw [if_pos h',h2,decide_eq_true h']; rfl
   ·rw [if_neg h',decide_eq_false h']; rfl
  ·rw [if_neg h,decide_eq_false h]; rfl
theorem rFits9_eq {d:D} (hd:okD d) (hs:SZ d.m.natAbs) (p:Int):r09_Fits (dy d) p=some (fitB d p):=by
 unfold r09_Fits r09_Fits_j1
 rw [rRight5_dy hd hs]
 simp only [obn]
 rw [if_pos True.intro]
 unfold fitB
 by_cases h1:2≤p
 ·rw [if_pos h1,decide_eq_true h1]
  by_cases h2:p≤336
  ·rw [if_pos h2,rbits_dy hs,decide_eq_true h2]
   simp only [obn]
   congr 1
   simp
   omega
  ·rw [if_neg h2,decide_eq_false h2]; rfl
 ·rw [if_neg h1,decide_eq_false h1]; rfl
def sizeB (d:D):Int × Bool:=if d.m=0 then (0,false) else (d.e+(blen d.m.natAbs:Nat),true)
theorem WD.szE {d:D} (h:WD d) : -1152921504606846976≤d.e∧d.e≤1152921504606846976:=by have:=h.e; omega
theorem dyad_Size_eq {d:D} (h:WD d):dyad_Size (dy d)=some (sizeB d):=by
 unfold dyad_Size dyad_Size_j1
 rw [dyad_Right_dy h.1 h.sz]
 simp only [obn]
 rw [if_neg (by simp),dyad_zero_eq]
 simp only [obn]
 unfold sizeB
 by_cases h0:d.m=0
 ·rw [if_pos (by simpa using h0),if_pos h0]
 ·rw [if_neg (by simpa using h0),if_neg h0,dyad_size_eq h.sz h.szE]; rfl
theorem rSize5_eq {d:D} (h:WD d):r05_Size (dy d)=some (sizeB d):=by
 have hm:=iOf_mag_zero d.m
 unfold r05_Size r05_Size_j1
 rw [rRight5_dy h.1 h.sz]
 simp only [obn]
 rw [if_neg (by simp)]
 unfold sizeB
 have hl:(((dy d).M.Mag.length:Int) == 0)=decide (d.m=0):=by
  have:(dy d).M=iOf d.m:=rfl
  rw [this]
  by_cases h0:d.m=0
  ·rw [decide_eq_true h0]; simpa using hm.2 h0
  ·rw [decide_eq_false h0]
   have:=mt hm.1 h0
   simpa using this
 rw [hl]
 by_cases h0:d.m=0
 ·rw [if_pos (by simpa using h0),if_pos h0]
 ·rw [if_neg (by simpa using h0),if_neg h0]
  unfold r05_size
  rw [rbits_dy h.sz]
  simp only [obn]
  have:=h.e
  have:=h.2
  rw [show (dy d).E=d.e from rfl,w64 (by omega) (by omega)]
def doneS (p:Nat) (r:I × Int):I × Int:=st r.2 zI (outI p r.1)
theorem SI_out {a:I} (ha:SI a) {p:Nat} (hp:p≤400):SI (outI p a).1:=SI_two ha.ok.2.2 hp
theorem SI_done {r:I × Int} (h:SI r.1) {p:Nat} (hp:p≤400):SI (doneS p r).1:=SI_st (SI_out h hp) _
theorem done_eq {a:I} (ha:SI a) {p:Nat} (hp:2≤p∧p≤400) (e w:Int):expo_done (iv a) (p:Int) e w=some (iv (doneS p (a,e)).1,(doneS p (a,e)).2):=by
 unfold expo_done iv_trouble_Err
 simp only [obn]
 by_cases h:e=0
 ·subst h
  rw [if_neg (by simp),ivNew_eq hp]
  simp only [obn]
  have:=ivOut_eq ha.ok hp 0
  refine Eq.trans (congrArg (fun o=>Option.bind o _) this) ?_
  rfl
 ·rw [if_pos h]
  unfold doneS
  rw [st_ne h,iv_z]
theorem rOut6_eq {a:I} (ha:SI a) {p:Nat} (hp:2≤p∧p≤400):r06_COut (iv a) (p:Int) 0=some (iv (outI p a).1,(outI p a).2):=by
 unfold r06_COut
 rw [rarg_one ha.ok]
 simp only [obn]
 rw [if_neg (by simp),ivLo,ivHi,rroundE_eq ha.ok.1 hp,st_zero]
 simp only [obn]
 unfold outI
 by_cases h1:(roundD a.lo p false).2=0
 ·rw [bindE_ok h1,bindE_ok h1,rroundE_eq ha.ok.2.1 hp,st_zero]
  simp only [obn]
  by_cases h2:(roundD a.hi p true).2=0
  ·rw [bindE_ok h2,bindE_ok h2,routE_eq]; rfl
  ·rw [bindE_no h2,bindE_no h2,routE_eq,if_neg h2]; rfl
 ·rw [bindE_no h1,bindE_no h1,rroundE_eq ha.ok.2.1 hp,st_ne h1]
  simp only [obn]
  rw [routE_eq,if_neg h1]; rfl
theorem rEnds_eq {a:I} (ha:SI a) {p:Nat} (hp:2≤p∧p≤400) (w e:Int):r09_Ends (iv a) (p:Int) w e=some (iv (doneS p (a,e)).1,(doneS p (a,e)).2):=by
 unfold r09_Ends
 by_cases h:e=0
 ·subst h
  rw [if_neg (by simp),rNew6_eq hp]
  simp only [obn]
  refine Eq.trans (congrArg (fun o=>Option.bind o _) (rOut6_eq ha hp)) ?_
  rfl
 ·rw [if_pos h]
  unfold doneS
  rw [st_ne h,iv_z]
def powS (w:Nat):Nat→I × Int→I × Int
 | 0,r=>r
 | k+1,r=>powS w k (mS w r.1 r.1 r.2)
def exN (d:D):Nat:=if d.m=0 then 0 else (d.e+(blen d.m.natAbs:Nat)+3).toNat
def eS (w:Nat) (r:I × Int):I × Int:=st r.2 zI (expI w r.1)
def exS (d:D) (p:Nat):I × Int:=
 if d.m≠0∧11<d.e+(blen d.m.natAbs:Nat) then (zI,4) else doneS p (powS (p+32) (exN d) (eS (p+32) (srS ⟨d,d⟩ (-(exN d:Int)) 0)))
theorem SI_pow {w:Nat} (hw:w≤400):∀ (k:Nat) (r:I × Int),SI r.1→SI (powS w k r).1
 | 0,_,h=>h
 | k+1,r,_=>SI_pow hw k _ (SI_mS hw _ _ _)
theorem exp_loop {w p h:Nat} (hw:2≤w∧w≤400) (hp:2≤p∧p≤400) (hh:h≤1000):∀ (k i:Nat) (a:I) (e:Int),i+k=h→SI a→∀ f,k<f→expo_Exp_l4 (h:Int) (0,0,(w:Int)) (p:Int) f (i:Int) e (iv a).Lo.M.Neg (iv a).Lo.M.Mag (iv a).Lo.E (iv a).Hi.M.Neg (iv a).Hi.M.Mag (iv a).Hi.E=some (iv (doneS p (powS w k (a,e))).1,(doneS p (powS w k (a,e))).2):=by
 intro k
 induction k with
 | zero=>
  intro i a e hi ha f hf
  obtain ⟨f,rfl⟩:∃ g,f=g+1:=⟨f-1,by omega⟩
  rw [expo_Exp_l4,if_neg (by omega)]
  unfold expo_Exp_j3
  rw [ivEta]
  refine Eq.trans (congrArg (fun o=>Option.bind o _) (done_eq ha hp e _)) ?_
  rfl
 | succ k ih=>
  intro i a e hi ha f hf
  obtain ⟨f,rfl⟩:∃ g,f=g+1:=⟨f-1,by omega⟩
  rw [expo_Exp_l4,if_pos (by omega),ivEta]
  refine Eq.trans (congrArg (fun o=>Option.bind o _) (pMul hw ha ha e)) ?_
  simp only [obn]
  rw [show IntKind.i64.wrap ((i:Int)+1)=((i+1:Nat):Int) by rw [w64 (by omega) (by omega)]; rfl]
  exact ih (i+1) _ _ (by omega) (SI_mS hw.2 _ _ _) f (by omega)
theorem rexp_loop {w p h:Nat} (hw:2≤w∧w≤400) (hp:2≤p∧p≤400) (hh:h≤1000) (x:Int):∀ (k i:Nat) (a:I) (e:Int),i+k=h→SI a→∀ f,k<f→r09_Exp_l4 (h:Int) ((w:Int),x) (p:Int) f (i:Int) e (iv a).Lo.M.Neg (iv a).Lo.M.Mag (iv a).Lo.E (iv a).Hi.M.Neg (iv a).Hi.M.Mag (iv a).Hi.E=some (iv (doneS p (powS w k (a,e))).1,(doneS p (powS w k (a,e))).2):=by
 intro k
 induction k with
 | zero=>
  intro i a e hi ha f hf
  obtain ⟨f,rfl⟩:∃ g,f=g+1:=⟨f-1,by omega⟩
  rw [r09_Exp_l4,if_neg (by omega)]
  unfold r09_Exp_j3
  rw [ivEta]
  refine Eq.trans (congrArg (fun o=>Option.bind o _) (rEnds_eq ha hp _ e)) ?_
  rfl
 | succ k ih=>
  intro i a e hi ha f hf
  obtain ⟨f,rfl⟩:∃ g,f=g+1:=⟨f-1,by omega⟩
  rw [r09_Exp_l4,if_pos (by omega),ivEta]
  refine Eq.trans (congrArg (fun o=>Option.bind o _) (rMulS hw ha ha e)) ?_
  simp only [obn]
  rw [show IntKind.i64.wrap ((i:Int)+1)=((i+1:Nat):Int) by rw [w64 (by omega) (by omega)]; rfl]
  exact ih (i+1) _ _ (by omega) (SI_mS hw.2 _ _ _) f (by omega)
theorem SI_pt {d:D} (h:WD d) (hb:blen d.m.natAbs≤1000):SI ⟨d,d⟩:=⟨okI_point h,hb,hb⟩
theorem pPt {d:D} (h:WD d) (e p:Int):cv_Point (dy d) e p=some (iv (st e zI (⟨d,d⟩,0)).1,(st e zI ((⟨d,d⟩:I),0)).2):=ivPoint_eq h e p
theorem exp_j2 {d:D} (hd:WD d) (hb:blen d.m.natAbs≤400) {p h:Nat} (hp:2≤p∧p≤336) (hh:h≤1000):expo_Exp_j2 (p:Int) (dy d) (h:Int)=some (iv (doneS p (powS (p+32) h (eS (p+32) (srS ⟨d,d⟩ (-(h:Int)) 0)))).1,(doneS p (powS (p+32) h (eS (p+32) (srS ⟨d,d⟩ (-(h:Int)) 0)))).2):=by
 unfold expo_Exp_j2
 have hw:2≤p+32∧p+32≤400:=by omega
 have s1:=SI_sr (SI_pt hd (by omega)) (-(h:Int)) 0
 rw [w64 (by omega) (by omega),show (p:Int)+32=((p+32:Nat):Int) by omega,ivNew_eq hw]
 simp only [obn]
 rw [pPt hd,st_zero]
 simp only [obn]
 rw [w64 (by omega) (by omega),show 0-(h:Int) = -(h:Int) by omega]
 refine Eq.trans (congrArg (fun o=>Option.bind o _) (pScaleR (SI_pt hd (by omega)) _ 0 _)) ?_
 simp only [obn]
 refine Eq.trans (congrArg (fun o=>Option.bind o _) (smallExp_eq hw s1 _)) ?_
 simp only [obn]
 exact exp_loop hw (by omega) hh h 0 _ _ (by omega) (SI_st (SI_exp hw.2) _) fuel (by unfold fuel; omega)
theorem rexp_j2 {d:D} (hd:WD d) (hb:blen d.m.natAbs≤400) {p h:Nat} (hp:2≤p∧p≤336) (hh:h≤1000):r09_Exp_j2 (p:Int) (dy d) (h:Int)=some (iv (doneS p (powS (p+32) h (eS (p+32) (srS ⟨d,d⟩ (-(h:Int)) 0)))).1,(doneS p (powS (p+32) h (eS (p+32) (srS ⟨d,d⟩ (-(h:Int)) 0)))).2):=by
 unfold r09_Exp_j2
 have hw:2≤p+32∧p+32≤400:=by omega
 have s1:=SI_sr (SI_pt hd (by omega)) (-(h:Int)) 0
 rw [w64 (by omega) (by omega),show (p:Int)+32=((p+32:Nat):Int) by omega,rNew6_eq hw]
 simp only [obn]
 rw [rivPoint_eq hd,st_zero]
 simp only [obn]
 rw [w64 (by omega) (by omega),show 0-(h:Int) = -(h:Int) by omega]
 refine Eq.trans (congrArg (fun o=>Option.bind o _) (rScaleRS (SI_pt hd (by omega)) _ 0 _)) ?_
 simp only [obn]
 refine Eq.trans (congrArg (fun o=>Option.bind o _) (rExp_eq hw s1 _)) ?_
 simp only [obn]
 exact rexp_loop hw (by omega) hh 0 h 0 _ _ (by omega) (SI_st (SI_exp hw.2) _) fuel (by unfold fuel; omega)
def expR (d:D) (p:Int):I × Int:=if fitB d p then exS d p.toNat else (zI,1)
theorem fitB_p {d:D} {p:Int} (h:fitB d p=true):(∃ q:Nat,p=(q:Int)∧2≤q∧q≤336)∧blen d.m.natAbs≤400:=by
 unfold fitB at h
 simp only [Bool.and_eq_true,decide_eq_true_eq] at h
 exact ⟨⟨p.toNat,by omega,by omega,by omega⟩,h.2⟩
theorem Exp_eq {d:D} (hd:WD d) (p:Int):expo_Exp (dy d) p=some (iv (expR d p).1,(expR d p).2):=by
 unfold expo_Exp expR
 rw [fits_one hd.1 hd.sz]
 simp only [obn]
 cases hf:fitB d p with
 | false=>rw [if_pos (by simp),if_neg (by simp),iv_z]
 | true=>
  obtain ⟨⟨q,rfl,hq⟩,hb⟩:=fitB_p hf
  rw [if_neg (by simp),if_pos rfl,Int.toNat_natCast,dyad_Size_eq hd]
  simp only [obn]
  unfold expo_Exp_j1 sizeB exS exN
  by_cases h0:d.m=0
  ·rw [if_pos h0,if_neg (by simp),if_neg (by simp),if_neg (by simp),if_neg (by simp [h0]),if_pos h0]
   have:=exp_j2 hd hb (h:=0) hq (by omega)
   rw [show ((0:Nat):Int)=0 from rfl] at this
   exact this
  ·rw [if_neg h0,if_pos rfl,if_neg h0]
   by_cases h11:11<d.e+(blen d.m.natAbs:Nat)
   ·rw [show decide (d.e+(blen d.m.natAbs:Nat)>11)=true by simpa using h11,if_pos rfl,if_pos ⟨h0,h11⟩,iv_z]
   ·have he:=hd.e
    rw [show decide (d.e+(blen d.m.natAbs:Nat)>11)=false by simpa using h11,if_neg (by simp),if_pos rfl,if_neg (by simp [h11])]
    have hm:mx 0 (IntKind.i64.wrap (d.e+(blen d.m.natAbs:Nat)+3))=((d.e+(blen d.m.natAbs:Nat)+3).toNat:Int):=by
     rw [w64 (by omega) (by omega)]; unfold mx; split<;>omega
    rw [hm]
    exact exp_j2 hd hb hq (by omega)
theorem rExp9_eq {d:D} (hd:WD d) (p:Int):r09_Exp (dy d) p=some (iv (expR d p).1,(expR d p).2):=by
 unfold r09_Exp expR
 rw [rFits9_eq hd.1 hd.sz]
 simp only [obn]
 cases hf:fitB d p with
 | false=>rw [if_pos (by simp),if_neg (by simp),iv_z]
 | true=>
  obtain ⟨⟨q,rfl,hq⟩,hb⟩:=fitB_p hf
  rw [if_neg (by simp),if_pos rfl,Int.toNat_natCast,rSize5_eq hd]
  simp only [obn]
  unfold r09_Exp_j1 sizeB exS exN
  by_cases h0:d.m=0
  ·rw [if_pos h0,if_neg (by simp),if_neg (by simp),if_neg (by simp),if_neg (by simp [h0]),if_pos h0]
   have:=rexp_j2 hd hb (h:=0) hq (by omega)
   rw [show ((0:Nat):Int)=0 from rfl] at this
   exact this
  ·rw [if_neg h0,if_pos rfl,if_neg h0]
   by_cases h11:11<d.e+(blen d.m.natAbs:Nat)
   ·rw [show decide (d.e+(blen d.m.natAbs:Nat)>11)=true by simpa using h11,if_pos rfl,if_pos ⟨h0,h11⟩,iv_z]
   ·have he:=hd.e
    rw [show decide (d.e+(blen d.m.natAbs:Nat)>11)=false by simpa using h11,if_neg (by simp),if_pos rfl,if_neg (by simp [h11])]
    have hm:mx (IntKind.i64.wrap (d.e+(blen d.m.natAbs:Nat)+3)) 0=((d.e+(blen d.m.natAbs:Nat)+3).toNat:Int):=by
     rw [w64 (by omega) (by omega)]; unfold mx; split<;>omega
    rw [hm]
    exact rexp_j2 hd hb hq (by omega)
theorem zI_eta:(⟨⟨⟨false,[]⟩,0⟩,⟨⟨false,[]⟩,0⟩⟩:AI)=iv zI:=iv_z.symm
theorem SI_exS {d:D} {p:Nat} (hp:p≤336):SI (exS d p).1:=by
 unfold exS
 split
 ·exact SI_z
 ·exact SI_done (SI_pow (by omega) _ _ (SI_st (SI_exp (by omega)) _)) (by omega)
theorem SI_expR {d:D} {p:Int} : SI (expR d p).1:=by
 unfold expR
 split
 ·rename_i h
  obtain ⟨⟨q,rfl,hq⟩,-⟩:=fitB_p h
  exact SI_exS (by simpa using hq.2)
 ·exact SI_z
def lnT (w:Nat) (m:I) (k e:Int):I × Int:=
 let a:=iS 1 e
 let s:=suS w m a.1 a.2
 let b:=iS 1 s.2
 let t:=aS w m b.1 b.2
 let z:=dS w s.1 t.1 t.2
 let h:=ahS w z.1 z.2
 let g:=scS h.1 1 h.2
 let i:=iS k g.2
 let l:=ln2S w i.2
 let q:=mS w i.1 l.1 l.2
 aS w g.1 q.1 q.2
theorem pSub {p:Nat} (hp:2≤p∧p≤400) {a b:I} (ha:SI a) (hb:SI b) (e:Int):cv_Sub (iv a) (iv b) e (p:Int)=some (iv (suS p a b e).1,(suS p a b e).2):=ivSub_eq ha.ok hb.ok hp e
theorem rSubS {p:Nat} (hp:2≤p∧p≤400) {a b:I} (ha:SI a) (hb:SI b) (e:Int):r06_CSub (iv a) (iv b) (p:Int) e=some (iv (suS p a b e).1,(suS p a b e).2):=rivSub_eq ha.ok hb.ok hp e
theorem SI_suS {p:Nat} (hp:p≤400) {a b:I} (ha:SI a) (hb:SI b) (e:Int):SI (suS p a b e).1:=SI_st (SI_sub ha hb hp) e
theorem SI_ahS {p:Nat} (hp:p≤400) {a:I} (ha:SI a) (e:Int):SI (ahS p a e).1:=SI_st (SI_atanh hp ha) e
theorem SI_lnT {w:Nat} (hw:w≤400) {m:I} (hm:SI m) {k:Int} (hk : -1000000≤k∧k≤1000000) (e:Int):SI (lnT w m k e).1:=
 SI_aS hw (SI_sc (SI_ahS hw (SI_dS hw _ (SI_aS hw hm (SI_iS (by omega) _) _) _) _) _ _) (SI_mS hw _ _ _) _
theorem ln_j3 {w p:Nat} (hw:2≤w∧w≤400) (hp:2≤p∧p≤400) {m:I} (hm:SI m) {k:Int} (hk : -1000000≤k∧k≤1000000) (e:Int):expo_Ln_j3 (0,0,(w:Int)) (p:Int) k e (iv m).Lo.M.Neg (iv m).Lo.M.Mag (iv m).Lo.E (iv m).Hi.M.Neg (iv m).Hi.M.Mag (iv m).Hi.E=some (iv (doneS p (lnT w m k e)).1,(doneS p (lnT w m k e)).2):=by
 have s1:=SI_iS (n:=1) (by omega) e
 have s2:=SI_suS hw.2 hm s1 (iS 1 e).2
 unfold expo_Ln_j3
 rw [ivEta,pInt (by omega)]
 simp only [obn]
 refine Eq.trans (congrArg (fun o=>Option.bind o _) (pSub hw hm s1 _)) ?_
 simp only [obn]
 rw [pInt (by omega)]
 simp only [obn]
 refine Eq.trans (congrArg (fun o=>Option.bind o _) (pAdd hw hm (SI_iS (by omega) _) _)) ?_
 simp only [obn]
 refine Eq.trans (congrArg (fun o=>Option.bind o _) (pDiv hw s2 (SI_aS hw.2 hm (SI_iS (by omega) _) _) _)) ?_
 simp only [obn]
 refine Eq.trans (congrArg (fun o=>Option.bind o _) (smallAtanh_eq hw (SI_dS hw.2 _ (SI_aS hw.2 hm (SI_iS (by omega) _) _) _) _)) ?_
 simp only [obn]
 refine Eq.trans (congrArg (fun o=>Option.bind o _) (pScale (SI_ahS hw.2 (SI_dS hw.2 _ (SI_aS hw.2 hm (SI_iS (by omega) _) _) _) _) (by omega) _ _)) ?_
 simp only [obn]
 rw [pInt hk]
 simp only [obn]
 rw [Ln2_eq hw]
 simp only [obn]
 refine Eq.trans (congrArg (fun o=>Option.bind o _) (pMul hw (SI_iS hk _) (SI_ln2 hw.2 _) _)) ?_
 simp only [obn]
 refine Eq.trans (congrArg (fun o=>Option.bind o _) (pAdd hw (SI_sc (SI_ahS hw.2 (SI_dS hw.2 _ (SI_aS hw.2 hm (SI_iS (by omega) _) _) _) _) 1 _) (SI_mS hw.2 _ _ _) _)) ?_
 simp only [obn]
 refine Eq.trans (congrArg (fun o=>Option.bind o _) (done_eq (SI_lnT hw.2 hm hk e) hp _ _)) ?_
 rfl
theorem rln_j3 {w p:Nat} (hw:2≤w∧w≤400) (hp:2≤p∧p≤400) {m:I} (hm:SI m) {k:Int} (hk : -1000000≤k∧k≤1000000) (e x:Int):r09_Ln_j3 ((w:Int),x) (p:Int) k e (iv m).Lo.M.Neg (iv m).Lo.M.Mag (iv m).Lo.E (iv m).Hi.M.Neg (iv m).Hi.M.Mag (iv m).Hi.E=some (iv (doneS p (lnT w m k e)).1,(doneS p (lnT w m k e)).2):=by
 have s1:=SI_iS (n:=1) (by omega) e
 have s2:=SI_suS hw.2 hm s1 (iS 1 e).2
 unfold r09_Ln_j3
 rw [ivEta,rIntS (by omega)]
 simp only [obn]
 refine Eq.trans (congrArg (fun o=>Option.bind o _) (rSubS hw hm s1 _)) ?_
 simp only [obn]
 rw [rIntS (by omega)]
 simp only [obn]
 refine Eq.trans (congrArg (fun o=>Option.bind o _) (rAddS hw hm (SI_iS (by omega) _) _)) ?_
 simp only [obn]
 refine Eq.trans (congrArg (fun o=>Option.bind o _) (rDivS hw s2 (SI_aS hw.2 hm (SI_iS (by omega) _) _) _)) ?_
 simp only [obn]
 refine Eq.trans (congrArg (fun o=>Option.bind o _) (rAtanh_eq hw (SI_dS hw.2 _ (SI_aS hw.2 hm (SI_iS (by omega) _) _) _) _)) ?_
 simp only [obn]
 refine Eq.trans (congrArg (fun o=>Option.bind o _) (rScaleS (SI_ahS hw.2 (SI_dS hw.2 _ (SI_aS hw.2 hm (SI_iS (by omega) _) _) _) _) (by omega) _ _)) ?_
 simp only [obn]
 rw [rIntS hk]
 simp only [obn]
 rw [rLn2_eq hw]
 simp only [obn]
 refine Eq.trans (congrArg (fun o=>Option.bind o _) (rMulS hw (SI_iS hk _) (SI_ln2 hw.2 _) _)) ?_
 simp only [obn]
 refine Eq.trans (congrArg (fun o=>Option.bind o _) (rAddS hw (SI_sc (SI_ahS hw.2 (SI_dS hw.2 _ (SI_aS hw.2 hm (SI_iS (by omega) _) _) _) _) 1 _) (SI_mS hw.2 _ _ _) _)) ?_
 simp only [obn]
 refine Eq.trans (congrArg (fun o=>Option.bind o _) (rEnds_eq (SI_lnT hw.2 hm hk e) hp _ _)) ?_
 rfl
def lnK (d:D):Int:=d.e+(blen d.m.natAbs:Nat)-1
def lnS (d:D) (p:Nat):I × Int:=
 if d.m≤0 then (zI,3) else
 let r:=srS ⟨d,d⟩ (-lnK d) 0
 if r.2=0∧0≤cmpD r.1.lo ⟨3,-1⟩ then doneS p (lnT (p+32) (scS r.1 (-1) r.2).1 (lnK d+1) (scS r.1 (-1) r.2).2) else doneS p (lnT (p+32) r.1 (lnK d) r.2)
theorem three_dy:(⟨⟨false,[3]⟩,(-1)⟩:AD)=dy ⟨3,-1⟩:=by
 have d3:digs 3=[3]:=digs_of (l:=[3]) (by intro d hd; have:d=3:=(by simpa using hd); omega) (by simp)
 unfold dy iOf
 simp only
 rw [show (3:Int).natAbs=3 by rfl,d3]
 rfl
theorem WD_three:WD ⟨3,-1⟩:=WD_dec (by decide +kernel)
theorem scale_three:scaleD (fromD 3) (-1)=(⟨3,-1⟩,0):=by decide +kernel
theorem ln_tail {d:D} (hd:WD d) (h0:0<d.m) {p:Nat} (hp:2≤p∧p≤336) {x:Int} {r:I × Int} (hr:SI r.1) (y:Bool) (hx:x=lnK d+1):expo_Ln_j2 (iv r.1,r.2) (0,0,((p+32:Nat):Int)) (p:Int) (x,true) y=some (if y=true then (iv (doneS p (lnT (p+32) (scS r.1 (-1) r.2).1 (lnK d+1) (scS r.1 (-1) r.2).2)).1,(doneS p (lnT (p+32) (scS r.1 (-1) r.2).1 (lnK d+1) (scS r.1 (-1) r.2).2)).2) else (iv (doneS p (lnT (p+32) r.1 (lnK d) r.2)).1,(doneS p (lnT (p+32) r.1 (lnK d) r.2)).2)):=by
 have he:=hd.e
 have hb:=hd.2
 have hw:2≤p+32∧p+32≤400:=by omega
 have hk : -1000000≤lnK d∧lnK d+1≤1000000:=by unfold lnK; omega
 unfold expo_Ln_j2
 subst hx
 simp only
 rw [w64 (x:=lnK d+1-1) (by omega) (by omega),show lnK d+1-1=lnK d by omega]
 cases y with
 | true=>
  rw [if_pos rfl,if_pos rfl]
  refine Eq.trans (congrArg (fun o=>Option.bind o _) (pScale hr (by omega) _ _)) ?_
  simp only [obn]
  rw [w64 (by omega) (by omega)]
  exact ln_j3 hw (by omega) (SI_sc hr _ _) (by omega) _
 | false=>
  rw [if_neg (by simp),if_neg (by simp)]
  exact ln_j3 hw (by omega) hr (by omega) _
theorem rln_tail {d:D} (hd:WD d) (h0:0<d.m) {p:Nat} (hp:2≤p∧p≤336) {x z:Int} {r:I × Int} (hr:SI r.1) (y:Bool) (hx:x=lnK d+1):r09_Ln_j2 (iv r.1,r.2) (((p+32:Nat):Int),z) (p:Int) (x,true) y=some (if y=true then (iv (doneS p (lnT (p+32) (scS r.1 (-1) r.2).1 (lnK d+1) (scS r.1 (-1) r.2).2)).1,(doneS p (lnT (p+32) (scS r.1 (-1) r.2).1 (lnK d+1) (scS r.1 (-1) r.2).2)).2) else (iv (doneS p (lnT (p+32) r.1 (lnK d) r.2)).1,(doneS p (lnT (p+32) r.1 (lnK d) r.2)).2)):=by
 have he:=hd.e
 have hb:=hd.2
 have hw:2≤p+32∧p+32≤400:=by omega
 have hk : -1000000≤lnK d∧lnK d+1≤1000000:=by unfold lnK; omega
 unfold r09_Ln_j2
 subst hx
 simp only
 rw [w64 (x:=lnK d+1-1) (by omega) (by omega),show lnK d+1-1=lnK d by omega]
 cases y with
 | true=>
  rw [if_pos rfl,if_pos rfl]
  refine Eq.trans (congrArg (fun o=>Option.bind o _) (rScaleS hr (by omega) _ _)) ?_
  simp only [obn]
  rw [w64 (by omega) (by omega)]
  exact rln_j3 hw (by omega) (SI_sc hr _ _) (by omega) _ _
 | false=>
  rw [if_neg (by simp),if_neg (by simp)]
  exact rln_j3 hw (by omega) hr (by omega) _ _
def lnR (d:D) (p:Int):I × Int:=if fitB d p then lnS d p.toNat else (zI,1)
theorem dy_neg (d:D):(dy d).M.Neg=decide (d.m<0):=rfl
theorem lnS_if (d:D) (p:Nat) (h0:0<d.m):lnS d p=if (decide ((srS ⟨d,d⟩ (-lnK d) 0).2=0) && decide (0≤cmpD (srS ⟨d,d⟩ (-lnK d) 0).1.lo ⟨3,-1⟩))=true then doneS p (lnT (p+32) (scS (srS ⟨d,d⟩ (-lnK d) 0).1 (-1) (srS ⟨d,d⟩ (-lnK d) 0).2).1 (lnK d+1) (scS (srS ⟨d,d⟩ (-lnK d) 0).1 (-1) (srS ⟨d,d⟩ (-lnK d) 0).2).2) else doneS p (lnT (p+32) (srS ⟨d,d⟩ (-lnK d) 0).1 (lnK d) (srS ⟨d,d⟩ (-lnK d) 0).2):=by
 unfold lnS
 rw [if_neg (by omega)]
 simp only [Bool.and_eq_true,decide_eq_true_eq]
theorem Ln_eq {d:D} (hd:WD d) (p:Int):expo_Ln (dy d) p=some (iv (lnR d p).1,(lnR d p).2):=by
 unfold expo_Ln lnR
 rw [fits_one hd.1 hd.sz]
 simp only [obn]
 cases hf:fitB d p with
 | false=>rw [if_pos (by simp),if_neg (by simp),zI_eta]
 | true=>
  obtain ⟨⟨q,rfl,hq⟩,hb⟩:=fitB_p hf
  rw [if_neg (by simp),if_pos rfl,Int.toNat_natCast,dyad_Size_eq hd]
  simp only [obn]
  unfold sizeB expo_Ln_j1
  by_cases h0:d.m=0
  ·rw [if_pos h0,if_pos (by simp),if_pos rfl]
   unfold lnS
   rw [if_pos (by omega),zI_eta]
  ·rw [if_neg h0,if_neg (by simp),dy_neg]
   by_cases h1:d.m<0
   ·rw [if_pos (by simpa using h1)]
    unfold lnS
    rw [if_pos (by omega),zI_eta]
   ·have he:=hd.e
    have hw:2≤q+32∧q+32≤400:=by omega
    have s1:=SI_sr (SI_pt hd (by omega)) (-lnK d) 0
    rw [if_neg (by simpa using h1),w64 (x:=(q:Int)+32) (by omega) (by omega),show (q:Int)+32=((q+32:Nat):Int) by omega,ivNew_eq hw]
    simp only [obn]
    rw [pPt hd,st_zero]
    simp only [obn]
    have hk:IntKind.i64.wrap (0-IntKind.i64.wrap (d.e+(blen d.m.natAbs:Nat)-1)) = -lnK d:=by
     unfold lnK; rw [w64 (x:=d.e+(blen d.m.natAbs:Nat)-1) (by omega) (by omega),w64 (by omega) (by omega)]; omega
    rw [hk]
    refine Eq.trans (congrArg (fun o=>Option.bind o _) (pScaleR (SI_pt hd (by omega)) _ 0 _)) ?_
    simp only [obn]
    unfold iv_trouble_Err
    simp only [obn]
    rw [lnS_if d q (by omega)]
    have tl:=fun y=>ln_tail hd (by omega) hq s1 y (x:=d.e+(blen d.m.natAbs:Nat)) (by unfold lnK; omega)
    generalize srS ⟨d,d⟩ (-lnK d) 0=r at *
    by_cases hr:r.2=0
    ·rw [if_pos hr,ivLo,three_dy]
     refine Eq.trans (congrArg (fun o=>Option.bind o _) (dyad_Cmp_eq s1.ok.1 WD_three)) ?_
     simp only [obn]
     rw [tl,decide_eq_true hr,Bool.true_and]
     by_cases hc:cmpD r.1.lo ⟨3,-1⟩≥0
     ·rw [decide_eq_true hc,if_pos rfl,if_pos rfl]
     ·rw [decide_eq_false hc,if_neg (by simp),if_neg (by simp)]
    ·rw [if_neg hr,tl,decide_eq_false hr,Bool.false_and,if_neg (by simp),if_neg (by simp)]
theorem rLn9_eq {d:D} (hd:WD d) (p:Int):r09_Ln (dy d) p=some (iv (lnR d p).1,(lnR d p).2):=by
 unfold r09_Ln lnR
 rw [rFits9_eq hd.1 hd.sz]
 simp only [obn]
 cases hf:fitB d p with
 | false=>rw [if_pos (by simp),if_neg (by simp),zI_eta]
 | true=>
  obtain ⟨⟨q,rfl,hq⟩,hb⟩:=fitB_p hf
  rw [if_neg (by simp),if_pos rfl,Int.toNat_natCast,rSize5_eq hd]
  simp only [obn]
  unfold sizeB r09_Ln_j1
  by_cases h0:d.m=0
  ·rw [if_pos h0,if_pos (by simp),if_pos rfl]
   unfold lnS
   rw [if_pos (by omega),zI_eta]
  ·rw [if_neg h0,if_neg (by simp),dy_neg]
   by_cases h1:d.m<0
   ·rw [if_pos (by simpa using h1)]
    unfold lnS
    rw [if_pos (by omega),zI_eta]
   ·have he:=hd.e
    have hw:2≤q+32∧q+32≤400:=by omega
    have s1:=SI_sr (SI_pt hd (by omega)) (-lnK d) 0
    rw [if_neg (by simpa using h1),w64 (x:=(q:Int)+32) (by omega) (by omega),show (q:Int)+32=((q+32:Nat):Int) by omega,rNew6_eq hw]
    simp only [obn]
    rw [rivPoint_eq hd,st_zero]
    simp only [obn]
    have hk:IntKind.i64.wrap (0-IntKind.i64.wrap (d.e+(blen d.m.natAbs:Nat)-1)) = -lnK d:=by
     unfold lnK; rw [w64 (x:=d.e+(blen d.m.natAbs:Nat)-1) (by omega) (by omega),w64 (by omega) (by omega)]; omega
    rw [hk]
    refine Eq.trans (congrArg (fun o=>Option.bind o _) (rScaleRS (SI_pt hd (by omega)) _ 0 _)) ?_
    simp only [obn]
    rw [rFrom5_eq (by omega)]
    simp only [obn]
    refine Eq.trans (congrArg (fun o=>Option.bind o _) (rScale5_eq (WD_from (n:=3) (by omega)) (n:=-1) (by omega))) ?_
    simp only [obn]
    rw [scale_three]
    rw [lnS_if d q (by omega)]
    have tl:=fun y=>rln_tail (z:=0) hd (by omega) hq s1 y (x:=d.e+(blen d.m.natAbs:Nat)) (by unfold lnK; omega)
    generalize srS ⟨d,d⟩ (-lnK d) 0=r at *
    by_cases hr:r.2=0
    ·rw [if_pos hr,ivLo]
     refine Eq.trans (congrArg (fun o=>Option.bind o _) (rCmp5_eq s1.ok.1 WD_three)) ?_
     simp only [obn]
     rw [tl,decide_eq_true hr,Bool.true_and]
     by_cases hc:cmpD r.1.lo ⟨3,-1⟩≥0
     ·rw [decide_eq_true hc,if_pos rfl,if_pos rfl]
     ·rw [decide_eq_false hc,if_neg (by simp),if_neg (by simp)]
    ·rw [if_neg hr,tl,decide_eq_false hr,Bool.false_and,if_neg (by simp),if_neg (by simp)]
theorem SI_lnR {d:D} (hd:WD d) {p:Int} : SI (lnR d p).1:=by
 unfold lnR
 split
 ·rename_i h
  obtain ⟨⟨q,rfl,hq⟩,hb⟩:=fitB_p h
  rw [Int.toNat_natCast]
  have he:=hd.e
  have s1:=SI_sr (SI_pt hd (by omega)) (-lnK d) 0
  have hk : -1000000≤lnK d∧lnK d+1≤1000000:=by unfold lnK; omega
  unfold lnS
  split
  ·exact SI_z
  ·simp only
   split
   ·exact SI_done (SI_lnT (by omega) (SI_sc s1 _ _) (by omega) _) (by omega)
   ·exact SI_done (SI_lnT (by omega) s1 (by omega) _) (by omega)
 ·exact SI_z
theorem cut09_eq {x:AD} (hx:gAD x):l09_cut x 14=some ⟨⟨x.M.Neg,x.M.Mag.take (min x.M.Mag.length 14)⟩,x.E⟩:=by
 have hl:x.M.Mag.length≤9223372036854775807:=by have:=hx.1.2.1; unfold maxLen at this; omega
 have hm:mn (x.M.Mag.length:Int) 14=((min x.M.Mag.length 14:Nat):Int):=by unfold mn; split<;>omega
 unfold l09_cut
 rw [hm,if_pos (by omega),Int.toNat_natCast]
theorem cut_dig {x:AD} (hx:gAD x) (k:Nat) (hk:k≤31):Dig (x.M.Mag.take (min x.M.Mag.length k))∧(x.M.Mag.take (min x.M.Mag.length k)).length≤31:=⟨dig_take (g_dig hx) _,by rw [List.length_take]; omega⟩
theorem ex09:(lnR zD 20).2=3∧(expR (fromD 2048) 20).2=4∧(expR zD 20).2=0∧hasI (expR zD 20).1 (fromD 1)=true:=by decide +kernel
theorem has_key {r:I × Int} (hr:SI r.1) (h:hasI r.1 (fromD 1)=true):r06_Has (iv r.1) (dy (fromD 1))=some true:=by rw [rHas6_eq hr.ok (WD_from (by omega)),h]
theorem ex09_of {a b c:I × Int} (e1:expo_Ln ⟨⟨false,[]⟩,0⟩ 20=some (iv a.1,a.2)) (e2:expo_Exp (dy (fromD 2048)) 20=some (iv b.1,b.2)) (e3:expo_Exp ⟨⟨false,[]⟩,0⟩ 20=some (iv c.1,c.2)) (h:a.2=3∧b.2=4∧c.2=0∧hasI c.1 (fromD 1)=true) (hc:SI c.1):l09_examples=some true:=by
 unfold l09_examples l09_examples_j1
 rw [e1]
 simp only [obn]
 rw [rFrom5_eq (by omega)]
 simp only [obn]
 refine Eq.trans (congrArg (fun o=>Option.bind o _) e2) ?_
 simp only [obn]
 rw [e3]
 simp only [obn]
 rw [if_pos h.1,if_pos h.2.1,if_pos h.2.2.1,rFrom5_eq (by omega)]
 simp only [obn]
 refine Eq.trans (congrArg (fun o=>Option.bind o _) (has_key hc h.2.2.2)) ?_
 rfl
theorem examples09:l09_examples=some true:=by
 have h1:=Ln_eq WD_z 20
 have h2:=Exp_eq (WD_from (n:=2048) (by omega)) 20
 have h3:=Exp_eq WD_z 20
 rw [dy_z] at h1 h3
 exact ex09_of h1 h2 h3 ex09 SI_expR
def ofR (f:D→Int→I × Int) (a:I) (p:Int):I × Int:=
 if fitB a.lo p && fitB a.hi p then (if (f a.lo p).2≠0 then (zI,(f a.lo p).2) else if (f a.hi p).2≠0 then (zI,(f a.hi p).2) else (⟨(f a.lo p).1.lo,(f a.hi p).1.hi⟩,0)) else (zI,1)
theorem iv_mk (a b:I):(⟨⟨(iv a).Lo.M,(iv a).Lo.E⟩,⟨(iv b).Hi.M,(iv b).Hi.E⟩⟩:AI)=iv ⟨a.lo,b.hi⟩:=rfl
theorem same_sz {x:I} (h1:SZ x.lo.m.natAbs) (h2:SZ x.hi.m.natAbs):l09_same (iv x) (iv x)=some true:=by
 unfold l09_same r06_Same r06_Same_j1
 rw [ivLo,ivHi,same5_eq h1,same5_eq h2]
 simp
theorem ofR_sz {f:D→Int→I × Int} {a:I} {p:Int} (h1:SI (f a.lo p).1) (h2:SI (f a.hi p).1):SZ (ofR f a p).1.lo.m.natAbs∧SZ (ofR f a p).1.hi.m.natAbs:=by
 have z:=SI_z.ok
 unfold ofR
 split
 ·split
  ·exact ⟨z.1.sz,z.2.1.sz⟩
  ·split
   ·exact ⟨z.1.sz,z.2.1.sz⟩
   ·exact ⟨h1.ok.1.sz,h2.ok.2.1.sz⟩
 ·exact ⟨z.1.sz,z.2.1.sz⟩
theorem ExpOf_eq {a:I} (ha:SI a) (p:Int):expo_ExpOf (iv a) p=some (iv (ofR expR a p).1,(ofR expR a p).2):=by
 have e1:=Exp_eq ha.ok.1 p
 have e2:=Exp_eq ha.ok.2.1 p
 unfold expo_ExpOf expo_both_8db6 expo_both_8db6_j1
 rw [ivRight_eq ha.ok]
 simp only [obn]
 rw [if_neg (by simp),ivLo,ivHi,fits_two ha.ok.1.1 ha.ok.1.sz ha.ok.2.1.1 ha.ok.2.1.sz]
 simp only [obn]
 unfold ofR
 generalize expR a.lo p=r1 at *
 generalize expR a.hi p=r2 at *
 generalize (fitB a.lo p && fitB a.hi p)=b
 cases b with
 | false=>rw [if_pos (by simp),if_neg (by simp)]; simp only [obn]; rw [← zI_eta]
 | true=>
  rw [if_neg (by simp),if_pos rfl,e1]
  simp only [obn]
  by_cases h1:r1.2=0
  ·rw [if_neg (by simp [h1]),if_neg (by simp [h1]),e2]
   simp only [obn]
   by_cases h2:r2.2=0
   ·rw [if_neg (by simp [h2]),if_neg (by simp [h2])]; simp only [obn,ivLo,ivHi]; rfl
   ·rw [if_pos h2,if_pos h2]; simp only [obn]; rw [← zI_eta]
  ·rw [if_pos h1,if_pos h1]; simp only [obn]; rw [← zI_eta]
theorem rExpOf_eq {a:I} (ha:SI a) (p:Int):r09_ExpOf (iv a) p=some (iv (ofR expR a p).1,(ofR expR a p).2):=by
 have e1:=rExp9_eq ha.ok.1 p
 have e2:=rExp9_eq ha.ok.2.1 p
 unfold r09_ExpOf r09_ExpOf_j1
 rw [rRight6_eq ha.ok]
 simp only [obn]
 rw [if_neg (by simp),ivLo,ivHi,rFits9_eq ha.ok.1.1 ha.ok.1.sz]
 simp only [obn]
 unfold ofR
 generalize expR a.lo p=r1 at *
 generalize expR a.hi p=r2 at *
 have f2:=rFits9_eq ha.ok.2.1.1 ha.ok.2.1.sz p
 generalize fitB a.lo p=b
 generalize fitB a.hi p=c at *
 cases b with
 | false=>rw [if_pos (by simp),if_pos (by simp),Bool.false_and,if_neg (by simp),← zI_eta]
 | true=>
  rw [if_neg (by simp),f2]
  simp only [obn]
  cases c with
  | false=>rw [if_pos (by simp),if_neg (by simp),← zI_eta]
  | true=>
   rw [if_neg (by simp),if_pos (by simp),e1]
   simp only [obn]
   by_cases h1:r1.2=0
   ·rw [if_neg (by simp [h1]),if_neg (by simp [h1]),e2]
    simp only [obn]
    by_cases h2:r2.2=0
    ·rw [if_neg (by simp [h2]),if_neg (by simp [h2])]; exact congrArg (fun x=>some (x,(0:Int))) (iv_mk r1.1 r2.1)
    ·rw [if_pos h2,if_pos h2,← zI_eta]
   ·rw [if_pos h1,if_pos h1,← zI_eta]
theorem ExpOf_bad {x:AI} (hr:iv_Right x=some false) (p:Int):expo_ExpOf x p=some (iv zI,1):=by
 unfold expo_ExpOf expo_both_8db6 expo_both_8db6_j1
 rw [hr]
 simp only [obn]
 rw [if_pos (by simp),if_pos (by simp),← zI_eta]; rfl
theorem rExpOf_bad {x:AI} (hr:r06_Right x=some false) (p:Int):r09_ExpOf x p=some (iv zI,1):=by
 unfold r09_ExpOf r09_ExpOf_j1
 rw [hr]
 simp only [obn]
 rw [if_pos (by simp),if_pos (by simp),← zI_eta]
theorem LnOf_eq {a:I} (ha:SI a) (p:Int):expo_LnOf (iv a) p=some (iv (ofR lnR a p).1,(ofR lnR a p).2):=by
 have e1:=Ln_eq ha.ok.1 p
 have e2:=Ln_eq ha.ok.2.1 p
 unfold expo_LnOf expo_both_38f1 expo_both_38f1_j1
 rw [ivRight_eq ha.ok]
 simp only [obn]
 rw [if_neg (by simp),ivLo,ivHi,fits_two ha.ok.1.1 ha.ok.1.sz ha.ok.2.1.1 ha.ok.2.1.sz]
 simp only [obn]
 unfold ofR
 generalize lnR a.lo p=r1 at *
 generalize lnR a.hi p=r2 at *
 generalize (fitB a.lo p && fitB a.hi p)=b
 cases b with
 | false=>rw [if_pos (by simp),if_neg (by simp)]; simp only [obn]; rw [← zI_eta]
 | true=>
  rw [if_neg (by simp),if_pos rfl,e1]
  simp only [obn]
  by_cases h1:r1.2=0
  ·rw [if_neg (by simp [h1]),if_neg (by simp [h1]),e2]
   simp only [obn]
   by_cases h2:r2.2=0
   ·rw [if_neg (by simp [h2]),if_neg (by simp [h2])]; simp only [obn,ivLo,ivHi]; rfl
   ·rw [if_pos h2,if_pos h2]; simp only [obn]; rw [← zI_eta]
  ·rw [if_pos h1,if_pos h1]; simp only [obn]; rw [← zI_eta]
theorem rLnOf_eq {a:I} (ha:SI a) (p:Int):r09_LnOf (iv a) p=some (iv (ofR lnR a p).1,(ofR lnR a p).2):=by
 have e1:=rLn9_eq ha.ok.1 p
 have e2:=rLn9_eq ha.ok.2.1 p
 unfold r09_LnOf r09_LnOf_j1
 rw [rRight6_eq ha.ok]
 simp only [obn]
 rw [if_neg (by simp),ivLo,ivHi,rFits9_eq ha.ok.1.1 ha.ok.1.sz]
 simp only [obn]
 unfold ofR
 generalize lnR a.lo p=r1 at *
 generalize lnR a.hi p=r2 at *
 have f2:=rFits9_eq ha.ok.2.1.1 ha.ok.2.1.sz p
 generalize fitB a.lo p=b
 generalize fitB a.hi p=c at *
 cases b with
 | false=>rw [if_pos (by simp),if_pos (by simp),Bool.false_and,if_neg (by simp),← zI_eta]
 | true=>
  rw [if_neg (by simp),f2]
  simp only [obn]
  cases c with
  | false=>rw [if_pos (by simp),if_neg (by simp),← zI_eta]
  | true=>
   rw [if_neg (by simp),if_pos (by simp),e1]
   simp only [obn]
   by_cases h1:r1.2=0
   ·rw [if_neg (by simp [h1]),if_neg (by simp [h1]),e2]
    simp only [obn]
    by_cases h2:r2.2=0
    ·rw [if_neg (by simp [h2]),if_neg (by simp [h2])]; exact congrArg (fun x=>some (x,(0:Int))) (iv_mk r1.1 r2.1)
    ·rw [if_pos h2,if_pos h2,← zI_eta]
   ·rw [if_pos h1,if_pos h1,← zI_eta]
theorem LnOf_bad {x:AI} (hr:iv_Right x=some false) (p:Int):expo_LnOf x p=some (iv zI,1):=by
 unfold expo_LnOf expo_both_38f1 expo_both_38f1_j1
 rw [hr]
 simp only [obn]
 rw [if_pos (by simp),if_pos (by simp),← zI_eta]; rfl
theorem rLnOf_bad {x:AI} (hr:r06_Right x=some false) (p:Int):r09_LnOf x p=some (iv zI,1):=by
 unfold r09_LnOf r09_LnOf_j1
 rw [hr]
 simp only [obn]
 rw [if_pos (by simp),if_pos (by simp),← zI_eta]
theorem of_true {x:AI} {p:Int} {r q:I × Int} (h1:SZ r.1.lo.m.natAbs∧SZ r.1.hi.m.natAbs) (h2:SZ q.1.lo.m.natAbs∧SZ q.1.hi.m.natAbs) (e1:expo_ExpOf x p=some (iv r.1,r.2)) (e2:r09_ExpOf x p=some (iv r.1,r.2)) (e3:expo_LnOf x p=some (iv q.1,q.2)) (e4:r09_LnOf x p=some (iv q.1,q.2)) (lo hi:AD) (hx:x=⟨lo,hi⟩):l09_ExpoOf_j2 lo hi true p=some true:=by
 subst hx
 unfold l09_ExpoOf_j2 l09_ExpoOf_j3
 rw [e1]
 simp only [obn]
 rw [e2]
 simp only [obn]
 rw [e3]
 simp only [obn]
 rw [e4]
 simp only [obn]
 refine Eq.trans (congrArg (fun o=>Option.bind o _) (same_sz h1.1 h1.2)) ?_
 simp only [obn]
 refine Eq.trans (congrArg (fun o=>Option.bind o _) (same_sz h2.1 h2.2)) ?_
 simp
theorem ExpoOf_true (a0:AD) (g0:gAD a0) (a1:AD) (g1:gAD a1) (a2:Int) (g2:(Lit.int .i64 a2).wf=true):l09_ExpoOf a0 a1 a2=some true:=by
 unfold l09_ExpoOf
 rw [examples09]
 simp only [obn]
 rw [if_neg (by simp),cut09_eq g0]
 simp only [obn]
 rw [cut09_eq g1]
 simp only [obn]
 obtain ⟨h1,h2⟩:=cut_dig g0 14 (by omega)
 obtain ⟨h3,h4⟩:=cut_dig g1 14 (by omega)
 have hz:SZ zI.lo.m.natAbs∧SZ zI.hi.m.natAbs:=⟨SI_z.ok.1.sz,SI_z.ok.2.1.sz⟩
 have hc:=right_cases (lo:=⟨⟨a0.M.Neg,a0.M.Mag.take (min a0.M.Mag.length 14)⟩,a0.E⟩) (hi:=⟨⟨a1.M.Neg,a1.M.Mag.take (min a1.M.Mag.length 14)⟩,a1.E⟩) h1 h3 h2 h4
 have key:∀ p:Int,l09_ExpoOf_j2 ⟨⟨a0.M.Neg,a0.M.Mag.take (min a0.M.Mag.length 14)⟩,a0.E⟩ ⟨⟨a1.M.Neg,a1.M.Mag.take (min a1.M.Mag.length 14)⟩,a1.E⟩ true p=some true:=by
  intro p
  rcases hc with ⟨a,ha,e⟩ | ⟨e1,e2⟩
  ·exact of_true (ofR_sz SI_expR SI_expR) (ofR_sz (SI_lnR ha.ok.1) (SI_lnR ha.ok.2.1)) (ExpOf_eq ha p) (rExpOf_eq ha p) (LnOf_eq ha p) (rLnOf_eq ha p) _ _ e.symm
  ·exact of_true (r:=(zI,1)) (q:=(zI,1)) hz hz (ExpOf_bad e1 p) (rExpOf_bad e2 p) (LnOf_bad e1 p) (rLnOf_bad e2 p) _ _ rfl
 unfold l09_ExpoOf_j1
 split
 ·split
  ·exact key _
  ·exact key _
 ·rw [if_neg (by simp)]; exact key _
end Go.Proofs.YtjfcghliglfapaaGreat.Gen
