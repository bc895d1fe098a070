/- Plain theory of the numbers that the statement speaks of: printed from the proofs' own texts, as far as this statement needs it. -/
import Derived.Test.YtpmpcohbpankaaaGreatSmallOddPl1
namespace Go.Proofs.YtpmpcohbpankaaaGreat.Gen
open Go Go.Abs Go.Plain Go.An
theorem Okd_from {n:Int} {K:Nat} (hK:K≤60) (hn:n.natAbs≤2 ^ K):Okd (fromD n) 0 (K:Int):=by
 have h60:2 ^ K≤2 ^ 60:=Nat.pow_le_pow_right (by decide) hK
 have h60':(2:Nat) ^ 60=1152921504606846976:=by decide
 refine ⟨WD_from (by omega),⟨n,by rw [val_from,p2_zero,Rat.mul_one]⟩,?_⟩
 rw [val_from]
 unfold B
 rw [p2_nat]
 have e1 : -((2 ^ K:Nat):Rat)=((-((2 ^ K:Nat):Int):Int):Rat):=by push_cast; rfl
 have e2:((2 ^ K:Nat):Rat)=(((2 ^ K:Nat):Int):Rat):=by push_cast; rfl
 rw [e1]
 exact ⟨intCast_le (by omega),by rw [e2]; exact intCast_le (by omega)⟩
theorem has_int {n:Int} {K:Nat} (hK:K≤60) (hn:n.natAbs≤2 ^ K):Has (iS n 0) (n:R) 0 (K:Int):=
 (has_point (Okd_from hK hn)).eq (by rw [val_from]; rfl)
theorem has_neg {r:I × Int} {x:R} {L H:Int} (h:Has r x L H):Has (nS r.1 0) (-x) L H:=by
 refine has_of (c:=negI r.1) rfl h.ok.neg ⟨?_,?_⟩
 ·show ofQ (val (negD r.1.hi)) ≤ -x
  rw [val_neg,ofQ_neg]; have:=h.m.hi; grind
 ·show -x≤ofQ (val (negD r.1.lo))
  rw [val_neg,ofQ_neg]; have:=h.m.lo; grind
theorem has_add {r s:I × Int} {x y:R} {L H:Int} (ha:Has r x L H) (hb:Has s y L H) {p:Nat} (hp:1≤p) (hL : -60000≤L) (hH:H+1≤60000):Has (aS p r.1 s.1 0) (x+y) L (H+1):=by
 obtain ⟨c,e,o,en⟩:=addI_ok ha.ok hb.ok hp hL hH
 refine has_of (c:=c) e o (enc_mem en ?_ ?_)
 ·rw [ofQ_add]; have:=ha.m.lo; have:=hb.m.lo; grind
 ·rw [ofQ_add]; have:=ha.m.hi; have:=hb.m.hi; grind
theorem has_sub {r s:I × Int} {x y:R} {L H:Int} (ha:Has r x L H) (hb:Has s y L H) {p:Nat} (hp:1≤p) (hL : -60000≤L) (hH:H+1≤60000):Has (suS p r.1 s.1 0) (x-y) L (H+1):=by
 have h:=has_add ha (has_neg hb) hp hL hH
 exact Has.eq h (by grind)
theorem has_mul {r s:I × Int} {x y:R} {L H M K:Int} (ha:Has r x L H) (hb:Has s y M K) {p:Nat} (hp:1≤p) (hL : -60000≤L+M) (hH:H+K≤60000):Has (mS p r.1 s.1 0) (x*y) (L+M) (H+K):=by
 obtain ⟨c,u,v,e,o,en,pr⟩:=mulI_ok ha.ok hb.ok hp hL hH
 have k:∀ {q:Rat},u≤q∧q≤v→In (ofQ u) (ofQ v) (ofQ q):=fun h=>⟨ofQ_le.2 h.1,ofQ_le.2 h.2⟩
 have h:=prod_in (u:=ofQ u) (v:=ofQ v) ⟨ha.m.lo,ha.m.hi⟩ ⟨hb.m.lo,hb.m.hi⟩ (by rw [← ofQ_mul]; exact k pr.h1) (by rw [← ofQ_mul]; exact k pr.h2) (by rw [← ofQ_mul]; exact k pr.h3) (by rw [← ofQ_mul]; exact k pr.h4)
 exact has_of (c:=c) e o (enc_mem en h.1 h.2)
theorem has_scale {r:I × Int} {x:R} {L H n:Int} (ha:Has r x L H) (hL : -60000≤L+n) (hH:H+n≤60000):Has (scS r.1 n 0) (x*ofQ (p2 n)) (L+n) (H+n):=by
 obtain ⟨c,e,o,e1,e2⟩:=scaleI_ok ha.ok hL hH
 have hp:=ofQ_pos (p2_pos n)
 refine has_of (c:=c) e o ⟨?_,?_⟩
 ·rw [e1,ofQ_mul]; exact rmul_le ha.m.lo (by grind)
 ·rw [e2,ofQ_mul]; exact rmul_le ha.m.hi (by grind)
theorem has_wide {r:I × Int} {x y:R} {L H:Int} (ha:Has r x L H) {d:D} (hd:Okd d L H) (hxy:ab (y-x)≤ofQ (val d)) {p:Nat} (hp:1≤p) (hL : -60000≤L) (hH:H+1≤60000):Has (wS p r.1 d 0) y L (H+1):=by
 have h0:0≤val d:=by
  have:=ab_nonneg (y-x)
  exact ofQ_le.1 (rle_trans this hxy)
 obtain ⟨c,e,o,en⟩:=wideI_ok ha.ok hd h0 hp hL hH
 have h1:=ab_le.1 hxy
 refine has_of (c:=c) e o (enc_mem en ?_ ?_)
 ·rw [ofQ_sub]; have:=ha.m.lo; grind
 ·rw [ofQ_add]; have:=ha.m.hi; grind
theorem rinv_anti {l y:R} (h:0<l*y) (hle:l≤y):y⁻¹≤l⁻¹:=by
 have hl:l≠0:=by rintro rfl; grind
 have hy:y≠0:=by rintro rfl; grind
 have h1:=mul_inv hl
 have h2:=mul_inv hy
 refine cancel h ?_
 have e1:y⁻¹*(l*y)=l:=by grind
 have e2:l⁻¹*(l*y)=y:=by grind
 rw [e1,e2]; exact hle
theorem rmul_sign {a b:R} (h:(0<a∧0<b)∨(a<0∧b<0)):0<a*b:=by
 rcases h with h | h
 ·exact rmul_pos h.1 h.2
 ·have:=rmul_pos (show 0 < -a by grind) (show 0 < -b by grind); grind
theorem has_div {r s:I × Int} {x y z:R} {L H M K:Int} (ha:Has r x L H) (hb:Has s y M K) (hz:hasI s.1 zD=false) (hxy:z*y=x) {p:Nat} (hp:1≤p) (hL : -60000≤L-K-p-2) (hH:H-M+2≤60000):Has (dS p r.1 s.1 0) z (L-K-p-2) (H-M+2):=by
 obtain ⟨c,e,o,en⟩:=divI_ok ha.ok hb.ok hz hp hL hH
 refine has_of (c:=c) e o ?_
 have hs:=has_zero hz
 have hle:=hb.ok.le
 have hsR:(0<ofQ (val s.1.lo))∨(ofQ (val s.1.hi)<0):=by
  rcases hs with h | h
  ·left; exact ofQ_lt.2 h
  ·right; exact ofQ_lt.2 h
 have m1:=hb.m.lo
 have m2:=hb.m.hi
 have nl:ofQ (val s.1.lo)≠0:=by intro k; rcases hsR with h | h<;>grind
 have nh:ofQ (val s.1.hi)≠0:=by intro k; rcases hsR with h | h<;>grind
 have ny:y≠0:=by intro k; rcases hsR with h | h<;>grind
 have hle':=ha.ok.le
 have nlq:val s.1.lo≠0:=by rintro k; rw [k] at nl; exact nl rfl
 have nhq:val s.1.hi≠0:=by rintro k; rw [k] at nh; exact nh rfl
 have i1:y⁻¹≤(ofQ (val s.1.lo))⁻¹:=rinv_anti (rmul_sign (by rcases hsR with h | h<;>grind)) m1
 have i2:(ofQ (val s.1.hi))⁻¹≤y⁻¹:=rinv_anti (rmul_sign (by rcases hsR with h | h<;>grind)) m2
 have k:∀ {a b:Rat},b≠0→(val c.lo≤a / b∧a / b≤val c.hi)→In (ofQ (val c.lo)) (ofQ (val c.hi)) (ofQ a*(ofQ b)⁻¹):=fun {a b} hb h=>by
  rw [← ofQ_inv hb,← ofQ_mul,← Rat.div_def]; exact ⟨ofQ_le.2 h.1,ofQ_le.2 h.2⟩
 have q1:=k nhq (en _ _ Rat.le_refl hle' hle Rat.le_refl)
 have q2:=k nlq (en _ _ Rat.le_refl hle' Rat.le_refl hle)
 have q3:=k nhq (en _ _ hle' Rat.le_refl hle Rat.le_refl)
 have q4:=k nlq (en _ _ hle' Rat.le_refl Rat.le_refl hle)
 have h:=prod_in ⟨ha.m.lo,ha.m.hi⟩ ⟨i2,i1⟩ q1 q2 q3 q4
 have e1:x*y⁻¹=z:=by have:=mul_inv ny; rw [← hxy]; grind
 rw [e1] at h
 exact ⟨h.1,h.2⟩
theorem Mem.le {a b:I} {x:R} (ha:Mem a x) (hb:Mem b x):val a.lo≤val b.hi:=ofQ_le.1 (rle_trans ha.lo hb.hi)
theorem meet_ok {a b:I} {x:R} (oa:val a.lo≤val a.hi) (ob:val b.lo≤val b.hi) (ha:Mem a x) (hb:Mem b x):meetI a b=(⟨maxD a.lo b.lo,minD a.hi b.hi⟩,0):=by
 unfold meetI
 rw [if_neg]
 rw [cmpD_gt]
 have h1:=ha.le hb
 have h2:=hb.le ha
 have m1:=maxD_val a.lo b.lo
 have m2:=minD_val a.hi b.hi
 rcases m1 with ⟨e,_⟩ | ⟨e,_⟩<;>rcases m2 with ⟨f,_⟩ | ⟨f,_⟩<;>rw [e,f]<;>grind
theorem has_mem {a:I} {x:D} (h:Mem a (ofQ (val x))):hasI a x=true:=by
 rw [hasI_iff]; exact ⟨ofQ_le.1 h.lo,ofQ_le.1 h.hi⟩
theorem cmul_succ (c:Int) (i:Nat):c*((i+1:Nat):Int)=c*i+c:=by rw [Int.natCast_add,Int.mul_add]; simp
theorem cmul_le {c:Int} (hc:0≤c) {i j:Nat} (h:i≤j):c*(i:Int)≤c*(j:Int):=Int.mul_le_mul_of_nonneg_left (by omega) hc
theorem ser_has {p:Nat} (hp:1≤p) (next:Nat→I→Int→I × I × Int) (T P Su:Nat→R) {L0 H0 c d:Int} (hc:0≤c) (hd:0≤d) {N:Nat} (hS:∀ i,Su (i+1)=Su i+P (i+1))
  (hn:∀ i t,i<N→Has (t,0) (T i) (L0-c*i) (H0+d*i)→(next (i+1) t 0).2.2=0∧Has ((next (i+1) t 0).1,0) (T (i+1)) (L0-c*(i+1:Nat)) (H0+d*(i+1:Nat))∧Has ((next (i+1) t 0).2.1,0) (P (i+1)) (L0-c*(i+1:Nat)) (H0+d*(i+1:Nat)))
  (hL : -60000≤L0-c*N) (hH:H0+(d+1)*N≤60000) :
  ∀ (k i:Nat) (s t:I),i+k=N→Has (s,0) (Su i) (L0-c*i) (H0+(d+1)*i)→Has (t,0) (T i) (L0-c*i) (H0+d*i)→Has (serL p next k i s t 0) (Su N) (L0-c*N) (H0+(d+1)*N):=by
 intro k
 induction k with
 | zero=>
  intro i s t hi hs _
  have:i=N:=by omega
  subst this
  exact hs
 | succ k ih=>
  intro i s t hi hs ht
  obtain ⟨n1,n2,n3⟩:=hn i t (by omega) ht
  have e1:=cmul_succ c i
  have e2:=cmul_succ d i
  have e3:=cmul_succ (d+1) i
  have m1:=cmul_le hc (show i+1≤N by omega)
  have m2:=cmul_le (show 0≤d+1 by omega) (show i+1≤N by omega)
  have e4:(d+1)*(i:Int)=d*i+i:=by rw [Int.add_mul]; simp
  have h1:=has_add (p:=p) (hs.mono (L':=L0-c*(i+1:Nat)) (H':=H0+(d+1)*(i+1:Nat)-1) (by omega) (by omega)) (n3.mono (Int.le_refl _) (H':=H0+(d+1)*(i+1:Nat)-1) (by omega)) hp (by omega) (by omega)
  rw [serL,n1]
  have h2:=ih (i+1) _ _ (by omega) ((h1.mono (Int.le_refl _) (H':=H0+(d+1)*(i+1:Nat)) (by omega)).eq (hS i).symm).pair n2
  rw [h1.e]; exact h2
theorem p2_neg_nat (n:Nat):ofQ (p2 (-(n:Int)))=hf ^ n:=by
 induction n with
 | zero=>show ofQ (p2 0)=1; rw [p2_zero]; rfl
 | succ n ih=>
  rw [show -((n+1:Nat):Int) = -(n:Int) + -1 by omega,p2_add,ofQ_mul,ih,p2_half]; rfl
theorem box_mem {y:I} {k:Int} {x:R} (h:inI y (box k)=true) (m:Mem y x):ab x≤ofQ (p2 k):=by
 unfold inI box at h
 rw [Bool.and_eq_true,hasI_iff,hasI_iff] at h
 have h1:=h.1.1
 have h2:=h.2.2
 rw [val_neg,val_half] at h1
 rw [val_half] at h2
 have m1:=m.lo
 have m2:=m.hi
 have k1:=ofQ_le.2 h1
 have k2:=ofQ_le.2 h2
 rw [ofQ_neg] at k1
 exact ab_le.2 ⟨by grind,by grind⟩
theorem Okd_half {k L H:Int} (h1:L≤k) (h2:k≤H) (h3 : -60000≤k∧k≤60000):Okd ⟨1,k⟩ L H:=by
 refine ⟨WD_half h3,by rw [val_half]; exact G.mono ⟨1,by simp⟩ h1,?_⟩
 rw [val_half]
 have:=p2_le h2
 have:=p2_pos k
 have:=p2_pos H
 exact ⟨by grind,by grind⟩
theorem fin_has {p:Nat} (hp:1≤p∧p≤1000) {r:I × Int} {x y:R} {L H:Int} (h:Has r x L H) (hxy:ab (y-x)≤hf ^ p) (hL : -60000≤L) (hLp:L ≤ -(p:Int)) (hH:0≤H∧H+1≤60000):Has (finS p r) y L (H+1):=by
 unfold finS
 rw [h.e]
 exact has_wide h (Okd_half hLp (by omega) (by omega)) (by rw [val_half,p2_neg_nat]; exact hxy) hp.1 hL hH.2
theorem nz_int {n:Nat} (h:0<n):hasI (iS (n:Int) 0).1 zD=false:=by
 show hasI (intI (n:Int)) zD=false
 cases hq:hasI (intI (n:Int)) zD with
 | false=>rfl
 | true=>
  have:=((hasI_iff _ _).1 hq).1
  rw [val_z] at this
  have e:val (intI (n:Int)).lo=((n:Int):Rat):=val_from _
  rw [e] at this
  have h0:(0:Rat)<((n:Int):Rat):=by exact_mod_cast h
  grind
theorem has_nat {n K:Nat} (hK:K≤60) (hn:n≤2 ^ K):Has (iS (n:Int) 0) (n:R) 0 (K:Int):=has_int hK (by simp; omega)
theorem has_div_n {r:I × Int} {x z:R} {L H:Int} (ha:Has r x L H) {n K:Nat} (hK:K≤60) (h0:0<n) (hn:n≤2 ^ K) (hz:z*(n:R)=x) {p:Nat} (hp:1≤p) (hL : -60000≤L-K-p-2) (hH:H+2≤60000):Has (dS p r.1 (iS (n:Int) 0).1 0) z (L-K-p-2) (H+2):=
 (has_div (p:=p) ha (has_nat hK hn) (nz_int h0) hz hp hL (by omega)).mono (by omega) (by omega)
theorem ser_lim {c:Int} {N:Nat} (hN:4≤N) (hc:0≤c):c*4≤c*(N:Int):=Int.mul_le_mul_of_nonneg_left (by omega) hc
theorem two_hf (p:Nat):2*hf ^ (p+1)=hf ^ p:=by
 have:hf ^ (p+1)=hf ^ p*hf:=rfl
 rw [this]; have:=hf_two; grind
theorem box_half {y:I} {x:R} (hi:inI y (box (-1))=true) (hm:Mem y x):ab x≤hf:=by
 have:=box_mem hi hm
 rwa [p2_half] at this
theorem atan_nx {p:Nat} (hp:2≤p∧p≤400) {y:I} {x:R} {L Lq:Int} (hq:Has (mS p y y 0) (x*x) (Lq) 0) (hL0:L≤0) (hLq:Lq≤0) (hL : -60000≤L-(p+20-Lq)*(p / 2+4:Nat)):∀ i t,i<p / 2+4→Has (t,0) (sS (2*i+1)*x ^ (2*i+1)) (L-(p+20-Lq)*(i:Int)) (0+2*(i:Int))→(nAtan p (mS p y y 0).1 (i+1) t 0).2.2=0∧Has ((nAtan p (mS p y y 0).1 (i+1) t 0).1,0) (sS (2*(i+1)+1)*x ^ (2*(i+1)+1)) (L-(p+20-Lq)*(i+1:Nat)) (0+2*(i+1:Nat))∧Has ((nAtan p (mS p y y 0).1 (i+1) t 0).2.1,0) (atc (2*(i+1)+1)*x ^ (2*(i+1)+1)) (L-(p+20-Lq)*(i+1:Nat)) (0+2*(i+1:Nat)):=by
 intro i t hiN ht
 have m1:=cmul_le (c:=p+20-Lq) (by omega) (show i+1≤p / 2+4 by omega)
 have e1:=cmul_succ (p+20-Lq) i
 have h1:=has_mul (p:=p) ht hq (by omega) (by omega) (by omega)
 have h2:=(has_neg h1).eq (y:=sS (2*(i+1)+1)*x ^ (2*(i+1)+1)) (by
  rw [show 2*(i+1)+1=2*i+1+2 by omega,sS_two,rpow_succ x (2*i+1+1),rpow_succ x (2*i+1)]; grind)
 have h3:=has_div_n (p:=p) (z:=atc (2*(i+1)+1)*x ^ (2*(i+1)+1)) h2 (n:=2*(i+1)+1) (K:=10) (by omega) (by omega) (by omega) (by
  rw [atc]; exact over_n _ _ _) (by omega) (by omega) (by omega)
 unfold nAtan oddS
 rw [h1.e,h2.e,show (iS ((2*(i+1)+1:Nat):Int) 0).2=0 from rfl]
 exact ⟨h3.e,(h2.mono (by omega) (by omega)).pair,(h3.mono (by omega) (by omega)).pair⟩
theorem atan_has {p:Nat} (hp:2≤p∧p≤400) {y:I} {x:R} {L Lq:Int} (hy:OkI y L 0) (hm:Mem y x) (hq:Has (mS p y y 0) (x*x) Lq 0) (hi:inI y (box (-1))=true) (hL0:L≤0) (hLq:Lq≤0) {M:Int} (hM:M≤L-(p+20-Lq)*(p / 2+4:Nat)) (hM' : -60000≤M):Has (atanI p y) (A x) M 700:=by
 have hy':Has (y,0) x L 0:=⟨rfl,hy,hm⟩
 unfold atanI
 rw [if_pos hi]
 have hcN:=ser_lim (c:=p+20-Lq) (N:=p / 2+4) (by omega) (by omega)
 have h:=ser_has (p:=p) (by omega) (nAtan p (mS p y y 0).1) (fun i=>sS (2*i+1)*x ^ (2*i+1)) (fun i=>atc (2*i+1)*x ^ (2*i+1)) (fun i=>psum atc x (2*i+2)) (L0:=L) (H0:=0) (c:=p+20-Lq) (d:=2) (N:=p / 2+4) (by omega) (by omega) (fun i=>atc_sum x i) (atan_nx hp hq hL0 hLq (by omega)) (by omega) (by omega) (p / 2+4) 0 y y (by omega)
  ((hy'.mono (by omega) (by omega)).eq (by
   show x=0+atc 0*x ^ 0+atc 1*x ^ (0+1)
   have h1:=over_n (sS 1) x 0
   rw [show ((0+1:Nat):R)=1 from rfl] at h1
   rw [rpow_succ,rpow_zero,atc,atc,show sS 0=0 from rfl,show sS 1=1 from rfl,show ((1:Nat):R)=1 from rfl]
   rw [show sS 1=1 from rfl] at h1
   grind))
  ((hy'.mono (by omega) (by omega)).eq (by
   show x=sS 1*x ^ (0+1)
   rw [rpow_succ,rpow_zero,show sS 1=1 from rfl]; grind))
 rw [hq.e]
 refine (fin_has (p:=p) (by omega) (h.mono (L':=M) (H':=699) (by omega) (by omega)) (rle_trans (tail_half (over_ab rfl fun n=>(sg_ab n).1) (box_half hi hm) _) ?_) hM' (by omega) (by omega))
 have h1:=hf_le (show p+1≤2*(p / 2+4)+2 by omega)
 have:=two_hf p
 grind
theorem atanh_nx {p:Nat} (hp:2≤p∧p≤400) {y:I} {x:R} {L Lq:Int} (hq:Has (mS p y y 0) (x*x) (Lq) 0) (hL0:L≤0) (hLq:Lq≤0) (hL : -60000≤L-(p+20-Lq)*(p / 2+4:Nat)):∀ i t,i<p / 2+4→Has (t,0) (od (2*i+1)*x ^ (2*i+1)) (L-(p+20-Lq)*(i:Int)) (0+2*(i:Int))→(nAtanh p (mS p y y 0).1 (i+1) t 0).2.2=0∧Has ((nAtanh p (mS p y y 0).1 (i+1) t 0).1,0) (od (2*(i+1)+1)*x ^ (2*(i+1)+1)) (L-(p+20-Lq)*(i+1:Nat)) (0+2*(i+1:Nat))∧Has ((nAtanh p (mS p y y 0).1 (i+1) t 0).2.1,0) (ahc (2*(i+1)+1)*x ^ (2*(i+1)+1)) (L-(p+20-Lq)*(i+1:Nat)) (0+2*(i+1:Nat)):=by
 intro i t hiN ht
 have m1:=cmul_le (c:=p+20-Lq) (by omega) (show i+1≤p / 2+4 by omega)
 have e1:=cmul_succ (p+20-Lq) i
 have h1:=has_mul (p:=p) ht hq (by omega) (by omega) (by omega)
 have h2:=h1.eq (y:=od (2*(i+1)+1)*x ^ (2*(i+1)+1)) (by
  rw [show 2*(i+1)+1=2*i+1+2 by omega,od_two,rpow_succ x (2*i+1+1),rpow_succ x (2*i+1)]; grind)
 have h3:=has_div_n (p:=p) (z:=ahc (2*(i+1)+1)*x ^ (2*(i+1)+1)) h2 (n:=2*(i+1)+1) (K:=10) (by omega) (by omega) (by omega) (by
  rw [ahc]; exact over_n _ _ _) (by omega) (by omega) (by omega)
 unfold nAtanh oddS
 rw [h2.e,show (iS ((2*(i+1)+1:Nat):Int) 0).2=0 from rfl]
 exact ⟨h3.e,(h2.mono (by omega) (by omega)).pair,(h3.mono (by omega) (by omega)).pair⟩
theorem atanh_has {p:Nat} (hp:2≤p∧p≤400) {y:I} {x:R} {L Lq:Int} (hy:OkI y L 0) (hm:Mem y x) (hq:Has (mS p y y 0) (x*x) Lq 0) (hi:inI y (box (-1))=true) (hL0:L≤0) (hLq:Lq≤0) {M:Int} (hM:M≤L-(p+20-Lq)*(p / 2+4:Nat)) (hM' : -60000≤M):Has (atanhI p y) (An.H x) M 700:=by
 have hy':Has (y,0) x L 0:=⟨rfl,hy,hm⟩
 unfold atanhI
 rw [if_pos hi]
 have hcN:=ser_lim (c:=p+20-Lq) (N:=p / 2+4) (by omega) (by omega)
 have h:=ser_has (p:=p) (by omega) (nAtanh p (mS p y y 0).1) (fun i=>od (2*i+1)*x ^ (2*i+1)) (fun i=>ahc (2*i+1)*x ^ (2*i+1)) (fun i=>psum ahc x (2*i+2)) (L0:=L) (H0:=0) (c:=p+20-Lq) (d:=2) (N:=p / 2+4) (by omega) (by omega) (fun i=>ahc_sum x i) (atanh_nx hp hq hL0 hLq (by omega)) (by omega) (by omega) (p / 2+4) 0 y y (by omega)
  ((hy'.mono (by omega) (by omega)).eq (by
   show x=0+ahc 0*x ^ 0+ahc 1*x ^ (0+1)
   have h1:=over_n (od 1) x 0
   rw [show ((0+1:Nat):R)=1 from rfl] at h1
   rw [rpow_succ,rpow_zero,ahc,ahc,show od 0=0 from rfl,show od 1=1 from rfl,show ((1:Nat):R)=1 from rfl]
   rw [show od 1=1 from rfl] at h1
   grind))
  ((hy'.mono (by omega) (by omega)).eq (by
   show x=od 1*x ^ (0+1)
   rw [rpow_succ,rpow_zero,show od 1=1 from rfl]; grind))
 rw [hq.e]
 refine (fin_has (p:=p) (by omega) (h.mono (L':=M) (H':=699) (by omega) (by omega)) (rle_trans (tail_half (over_ab rfl fun n=>(eo_ab n).1) (box_half hi hm) _) ?_) hM' (by omega) (by omega))
 have h1:=hf_le (show p+1≤2*(p / 2+4)+2 by omega)
 have:=two_hf p
 grind
theorem make_val {m e:Int} {k:Nat} (hm:blen m.natAbs≤k) (he : -60000≤e∧e+k≤60000):∃ d,makeD m e=(d,true)∧Okd d e (e+k)∧val d=(m:Rat)*p2 e:=by
 have hv:=val_nrm m e
 have hg:G e (val (nrm m e)):=by rw [hv]; exact G.of (Int.le_refl _)
 have hb:B (e+k) (val (nrm m e)):=by
  rw [hv]
  have h1:=blen_lt m.natAbs
  have h2:m.natAbs≤2 ^ k:=by
   have:2 ^ blen m.natAbs≤2 ^ k:=Nat.pow_le_pow_right (by decide) hm
   omega
  have h3:=rep_bound h2 e
  have hp:=p2_pos e
  have h5:(m:Rat)≤(m.natAbs:Rat)∧-(m.natAbs:Rat)≤(m:Rat):=by
   have e1:=intCast_le (show m≤(m.natAbs:Int) by omega)
   have e2:=intCast_le (show -(m.natAbs:Int)≤m by omega)
   rw [Rat.intCast_natCast] at e1
   rw [Rat.intCast_neg,Rat.intCast_natCast] at e2
   exact ⟨e1,e2⟩
  have h6:=Rat.mul_le_mul_of_nonneg_right h5.1 (Rat.le_of_lt hp)
  have h7:=Rat.mul_le_mul_of_nonneg_right h5.2 (Rat.le_of_lt hp)
  unfold B
  grind
 obtain ⟨-,h2⟩:=told_ok (d:=nrm m e) (nrm_ok _ _) hg hb (by omega) (by omega)
 refine ⟨nrm m e,?_,h2,hv⟩
 unfold makeD
 rw [if_pos (inR_of (nrm_ok _ _) hg hb (by omega) (by omega))]
theorem mag_two {x:AD} (hx:gAD x) (k:Nat):blen (sg x.M.Neg (dval (x.M.Mag.take (min x.M.Mag.length k)))).natAbs≤32*k:=by
 rw [sg_abs']
 have:=blen_of_len (dig_take (g_dig hx) (min x.M.Mag.length k))
 rw [List.length_take] at this
 have h2:32*min (min x.M.Mag.length k) x.M.Mag.length≤32*k:=Nat.mul_le_mul_left _ (by omega)
 omega
theorem mag_mn {x:AD} (hx:gAD x) {k:Nat} : mn (x.M.Mag.length:Int) (k:Int)=((min x.M.Mag.length k:Nat):Int):=by unfold mn; split<;>omega
theorem tame07_eq {x:AD} (hx:gAD x) {up:Int} (hu : -1000≤up∧up≤1000):∃ d,l07_tame x 2 up=some (dy d)∧Okd d (up-64) up:=by
 have hd:=g_dig hx
 have hb:=mag_two hx 2
 obtain ⟨d,h1,h2,-⟩:=make_val (k:=64) hb (e:=up-64) (by omega)
 refine ⟨d,?_,h2.mono (Int.le_refl _) (by omega)⟩
 unfold l07_tame
 have hm:=mag_mn hx (k:=2)
 rw [show ((2:Nat):Int)=2 by rfl] at hm
 rw [hm,if_pos (by omega),Int.toNat_natCast,rMake_eq (dig_take hd _) (by rw [List.length_take]; omega)]
 simp only [obn]
 rw [w64 (x:=(-32)*2) (by omega) (by omega),w64 (by omega) (by omega),show (-32)*2+up=up-64 by omega,rMake5_eq (by unfold SZ; omega) (by omega),h1]
 rfl
theorem prec07_eq {a:Int} (h : -9223372036854775808≤a∧a≤9223372036854775807):∃ p:Nat,l07_prec a=some (p:Int)∧8≤p∧p≤60:=by
 unfold l07_prec l07_prec_j1
 have key:∀ n:Nat,∃ p:Nat,(some (IntKind.i64.wrap (8+((n:Int).tmod 53))):Option Int)=some (p:Int)∧8≤p∧p≤60:=by
  intro n
  rw [show (53:Int)=((53:Nat):Int) by rfl,tmodn,w64 (by omega) (by omega)]
  exact ⟨8+n % 53,by congr 1,by omega,by omega⟩
 by_cases h0:a<0
 ·rw [if_pos h0,wrap_low a (by omega)]
  exact key _
 ·rw [if_neg h0]
  have:=key a.toNat
  rwa [Int.toNat_of_nonneg (by omega)] at this
theorem sPoint {x:D} {L H:Int} (h:Okd x L H) (p:Int):cv_Point (dy x) 0 p=some (iv ⟨x,x⟩,0)∧Has (⟨x,x⟩,0) (ofQ (val x)) L H:=⟨by rw [ivPoint_eq h.w,st_zero],has_point h⟩
theorem sNeg {a:I} {x:R} {L H:Int} (h:Has (a,0) x L H) (p:Int):cv_Neg (iv a) 0 p=some (iv (negI a),0)∧Has (negI a,0) (-x) L H:=⟨by rw [ivNeg_eq h.ok.ok,st_zero],has_neg h⟩
theorem sInt {n:Int} {K:Nat} (hK:K≤60) (hn:n.natAbs≤2 ^ K) (p:Int):cv_Int n 0 p=some (iv (intI n),0)∧Has (intI n,0) (n:R) 0 K:=by
 have h60:2 ^ K≤2 ^ 60:=Nat.pow_le_pow_right (by decide) hK
 have h60':(2:Nat) ^ 60=1152921504606846976:=by decide
 exact ⟨by rw [ivInt_eq (by omega),st_zero],has_int hK hn⟩
theorem s_of {f:Option (AI × Int)} {r:I × Int} {x:R} {L H:Int} (e:f=some (iv r.1,r.2)) (h:Has r x L H):∃ c,f=some (iv c,0)∧Has (c,0) x L H:=⟨r.1,by rw [e,h.e],h.pair⟩
theorem sMul {a b:I} {x y:R} {L H M K:Int} (ha:Has (a,0) x L H) (hb:Has (b,0) y M K) {p:Nat} (hp:2≤p∧p≤400) (hL : -60000≤L+M) (hH:H+K≤60000):∃ c,cv_Mul (iv a) (iv b) 0 (p:Int)=some (iv c,0)∧Has (c,0) (x*y) (L+M) (H+K):=
 s_of (ivMul_eq ha.ok.ok hb.ok.ok hp 0) (has_mul ha hb (by omega) hL hH)
theorem sScale {a:I} {x:R} {L H n:Int} (ha:Has (a,0) x L H) (hn : -100000≤n∧n≤100000) (p:Int) (hL : -60000≤L+n) (hH:H+n≤60000):∃ c,cv_Scale (iv a) n 0 p=some (iv c,0)∧Has (c,0) (x*ofQ (p2 n)) (L+n) (H+n):=
 s_of (ivScale_eq ha.ok.ok hn 0 p) (has_scale ha hL hH)
theorem sMeet {a b:I} {x:R} {L H M K:Int} (ha:Has (a,0) x L H) (hb:Has (b,0) x M K) (p:Int):∃ c,cv_Meet (iv a) (iv b) 0 p=some (iv c,0):=by
 have h:=meet_ok ha.ok.le hb.ok.le ha.m hb.m
 exact ⟨_,by rw [ivMeet_eq ha.ok.ok hb.ok.ok,st_zero,h]⟩
theorem sHas {a:I} {x:R} {L H:Int} (ha:Has (a,0) x L H) {d:D} (hd:WD d) (e:ofQ (val d)=x):iv_Has (iv a) (dy d)=some true:=by
 have:hasI a d=true:=has_mem (by rw [e]; exact ha.m)
 rw [ivHas_eq ha.ok.ok hd,this]
theorem in_box {y:I} {L k:Int} (h:OkI y L k):inI y (box k)=true:=by
 refine inI_true ?_ ?_ h.le
 ·show val (negD ⟨1,k⟩)≤val y.lo
  rw [val_neg,val_half]; exact h.lo.b.1
 ·show val y.hi≤val ⟨1,k⟩
  rw [val_half]; exact h.hi.b.2
theorem SI_of {a:I} {L H:Int} (h:OkI a L H) (hd:H+1-L≤1000):SI a:=by
 have k:∀ {d:D},Okd d L H→blen d.m.natAbs≤1000:=by
  intro d h
  by_cases h0:d.m=0
  ·rw [h0]; simp [blen]
  ·have h1:=G_e h.w.odd0 h0 h.g
   have h2:=B_size h0 h.b
   omega
 exact ⟨h.ok,k h.lo,k h.hi⟩
end Go.Proofs.YtpmpcohbpankaaaGreat.Gen
namespace Go.An
theorem sizeR {f g:R→R} (h:∀ s,0≤s→Dv f g (-s) s) {x M:R} (hM:∀ z,ab z≤ab x→ab (g z)≤M):ab (f x-f 0)≤M*ab x:=by
 have hs:=ab_nonneg x
 have d:=h _ hs
 have hg:∀ z,In (-ab x) (ab x) z→-M≤g z∧g z≤M:=fun z hz=>ab_le.1 (hM z (ab_le.2 hz))
 rcases rle_total 0 x with k | k
 ·have e:=ab_of k
  have b:=(d.sub_iv (c:=0) (d:=x) (by grind) (by grind)).between k (m:=-M) (M:=M) fun z hz=>hg z ⟨by have:=hz.1; grind,by have:=hz.2; grind⟩
  rw [e]; exact ab_le.2 (by grind)
 ·have e:ab x = -x:=by rw [← ab_neg]; exact ab_of (by grind)
  have b:=(d.sub_iv (c:=x) (d:=0) (by grind) (by grind)).between k (m:=-M) (M:=M) fun z hz=>hg z ⟨by have:=hz.1; grind,by have:=hz.2; grind⟩
  rw [e]; exact ab_le.2 (by grind)
theorem S_size (x:R):ab (S x)≤ab x:=by
 have h:=sizeR (fun s hs=>S_dv hs) (x:=x) (M:=1) fun z _=>(S_le z).2
 rw [S_zero] at h
 have e:S x-0=S x:=by grind
 rw [e] at h; grind
theorem C_size (x:R):1-x*x≤C x:=by
 have h:=sizeR (fun s hs=>C_dv hs) (x:=x) (M:=ab x) fun z hz=>by
  rw [ab_neg]; exact rle_trans (S_size z) hz
 rw [C_zero] at h
 have e:ab x*ab x=x*x:=by rw [← ab_mul,ab_of (sq_nonneg x)]
 rw [e] at h
 have:=(ab_le.1 h).1
 grind
theorem sq_lt_one {u:R} (h:ab u<1):u*u<1:=by
 have e:ab u*ab u=u*u:=by rw [← ab_mul,ab_of (sq_nonneg u)]
 have h1:=rmul_le (show ab u≤1 by grind) (ab_nonneg u)
 grind
theorem S_pos {u:R} (h0:0<u) (h1:u<1):0<S u:=by
 have hu:ab u=u:=ab_of (by grind)
 have hq:=sq_lt_one (u:=u) (by grind)
 have b:=((S_dv (s:=u) (by grind)).sub_iv (c:=0) (d:=u) (by grind) (by grind)).between (by grind) (m:=1-u*u) (M:=1) fun z hz=>by
  have k1:=C_size z
  have k2:=rmul_mono hz.2 hz.2 hz.1 (show 0≤u by grind)
  have k3:=(ab_le.1 (S_le z).2).2
  exact ⟨by grind,k3⟩
 rw [S_zero] at b
 have:=rmul_pos (show 0<1-u*u by grind) h0
 grind
theorem S_zero_only {u:R} (h:ab u<1) (hs:S u=0):u=0:=by
 have h1:=le_ab u
 rcases rle_total 0 u with k | k
 ·rcases Classical.em (u=0) with q | q
  ·exact q
  ·have:=S_pos (u:=u) (by grind) (by grind); grind
 ·rcases Classical.em (u=0) with q | q
  ·exact q
  ·have:=S_pos (u:=-u) (by grind) (by grind)
   rw [(SC_neg u).1] at this; grind
theorem Q_size {x:R} (h:ab x<1):0≤Q x∧Q x≤1:=by
 have h1:=Q_eq h
 have h2:=sq_nonneg x
 have hp:0≤Q x:=by
  rcases rle_total 0 (Q x) with k | k
  ·exact k
  ·have:=rmul_nonneg (x:=-Q x) (y:=1+x*x) (by grind) (by have:=rzero_lt_one; grind); grind
 have:=rmul_nonneg hp h2
 exact ⟨hp,by grind⟩
theorem A_size {x:R} (h:ab x<1):ab (A x)≤ab x:=by
 have hs:=ab_nonneg x
 have d:=A_dv hs h
 have hg:∀ z,In (-ab x) (ab x) z→-1≤Q z∧Q z≤1:=fun z hz=>by
  have:=Q_size (x:=z) (by have:=ab_le.2 hz; grind)
  have:=rzero_lt_one
  grind
 rcases rle_total 0 x with k | k
 ·have e:=ab_of k
  have b:=(d.sub_iv (c:=0) (d:=x) (by grind) (by grind)).between k (m:=-1) (M:=1) fun z hz=>hg z ⟨by have:=hz.1; grind,by have:=hz.2; grind⟩
  rw [A_zero] at b
  rw [e]; exact ab_le.2 (by grind)
 ·have e:ab x = -x:=by rw [← ab_neg]; exact ab_of (by grind)
  have b:=(d.sub_iv (c:=x) (d:=0) (by grind) (by grind)).between k (m:=-1) (M:=1) fun z hz=>hg z ⟨by have:=hz.1; grind,by have:=hz.2; grind⟩
  rw [A_zero] at b
  rw [e]; exact ab_le.2 (by grind)
theorem A_double {x z:R} (hx:ab x<1) (hz:ab z<1) (h:z*(1-x*x)=2*x) (hs:2*ab x+ab z<1):A z=A x+A x:=by
 have t1:=tan_double (tan_A hx)
 have t2:=tan_A hz
 have hq:=sq_lt_one hx
 have e1:S (A x+A x)=z*C (A x+A x):=by
  refine cancel_eq (c:=1-x*x) (by grind) ?_
  rw [t1,← h]; grind
 have e2:=S_add (A x+A x) (-A z)
 rw [(SC_neg _).1,(SC_neg _).2,e1,t2] at e2
 have e3:S (A x+A x + -A z)=0:=by rw [e2]; grind
 have a1:=A_size hx
 have a2:=A_size hz
 have a3:=ab_add (A x+A x) (-A z)
 have a4:=ab_add (A x) (A x)
 rw [ab_neg] at a3
 have:=S_zero_only (u:=A x+A x + -A z) (by grind) e3
 grind
end Go.An
namespace Go.Proofs.YtpmpcohbpankaaaGreat.Gen
open Go Go.Abs Go.Plain Go.An
theorem nat_lt_of_cast {a b:Nat} (h:(a:Rat)<(b:Rat)):a<b:=by exact_mod_cast h
theorem rmul_lt_iff {a b p:Rat} (hp:0<p):a*p<b*p↔a<b:=by
 have h:=@mul_le_iff b a p hp
 constructor
 ·intro k; have:¬b*p≤a*p:=by grind
  rw [h] at this; grind
 ·intro k; have:¬b≤a:=by grind
  rw [← h] at this; grind
theorem cut_best {m p:Nat} {st:Bool} (hp:1≤p) (hb:p<blen m) {E:Int} {Q:Rat} (h1:(m:Rat)*p2 E≤Q) (h2:st=false→Q≤(m:Rat)*p2 E) (h3:Q<((m+1:Nat):Rat)*p2 E) (h4:st=true→(m:Rat)*p2 E<Q) :
  (∀ q,rep p q→q≤Q→q≤((cutN m st p false:Nat):Rat)*p2 (E+(blen m-p:Nat)))∧(∀ q,rep p q→Q≤q→((cutN m st p true:Nat):Rat)*p2 (E+(blen m-p:Nat))≤q):=by
 have hn:0<blen m-p:=by omega
 have hge:=cutN_ge m st p false hn
 generalize hnd:blen m-p=n at *
 have hM0:m≠0:=by intro h0; rw [h0,blen_zero] at hb; omega
 have hMge:=blen_le hM0
 have hbl:blen m=n+p:=by omega
 rw [hbl] at hMge
 have hp2:0<2 ^ n:=Nat.pow_pos (by decide)
 have hmpos:(0:Rat)<(m:Rat)*p2 E:=Rat.mul_pos (by exact_mod_cast (Nat.pos_of_ne_zero hM0)) (p2_pos E)
 constructor
 ·rintro q ⟨w,f,rfl,hw⟩ hq
  have hwb:=rep_bound hw f
  have hnn:(0:Rat)≤((cutN m st p false:Nat):Rat)*p2 (E+(n:Nat)):=Rat.mul_nonneg (natCast_nonneg _) (Rat.le_of_lt (p2_pos _))
  rcases (show w≤0∨0<w by omega) with k1 | k1
  ·have k2:(w:Rat)≤0:=by exact_mod_cast k1
   have k3:=Rat.mul_nonneg (show (0:Rat) ≤ -(w:Rat) by grind) (Rat.le_of_lt (p2_pos f))
   grind
  ·obtain ⟨v,rfl⟩:∃ v:Nat,w=(v:Int):=⟨w.natAbs,by omega⟩
   rw [Int.natAbs_natCast] at hwb hw
   rw [Rat.intCast_natCast] at hq ⊢
   by_cases hf:E+(n:Nat)≤f
   ·obtain ⟨k,hk⟩:∃ k:Nat,f=E+(n:Nat)+(k:Nat):=⟨(f-(E+(n:Nat))).toNat,by omega⟩
    have hq':(v:Rat)*p2 f<((m+1:Nat):Rat)*p2 E:=by grind
    rw [hk,p2_split _ k,← Rat.mul_assoc,mul_le_iff (p2_pos _),← Rat.natCast_mul]
    rw [hk,p2_split _ k,p2_split _ n,← Rat.mul_assoc,← Rat.mul_assoc,rmul_lt_iff (p2_pos _),← Rat.natCast_mul,← Rat.natCast_mul] at hq'
    have k2:=nat_lt_of_cast hq'
    apply natCast_le
    unfold cutN
    rw [hnd]
    simp only [Bool.and_false,Bool.false_eq_true,if_false,Nat.add_zero]
    rw [Nat.le_div_iff_mul_le (Nat.pow_pos (by decide))]
    omega
   ·have k3:2 ^ (p-1)≤cutN m st p false:=by
     rcases hge with k3 | k3
     ·exact k3
     ·omega
    have k4:=natCast_le k3
    have k5:=Rat.mul_le_mul_of_nonneg_right k4 (Rat.le_of_lt (p2_pos (E+(n:Nat))))
    rw [← p2_split] at k5
    have:=p2_le (show f+(p:Nat)≤E+(n:Nat)+((p-1:Nat):Int) by omega)
    grind
 ·rintro q ⟨w,f,rfl,hw⟩ hq
  have hwb:=rep_bound hw f
  have hw0:0<w:=by
   rcases (show w≤0∨0<w by omega) with k1 | k1
   ·have k2:(w:Rat)≤0:=by exact_mod_cast k1
    have k3:=Rat.mul_nonneg (show (0:Rat) ≤ -(w:Rat) by grind) (Rat.le_of_lt (p2_pos f))
    grind
   ·exact k1
  obtain ⟨v,rfl⟩:∃ v:Nat,w=(v:Int):=⟨w.natAbs,by omega⟩
  rw [Int.natAbs_natCast] at hwb hw
  rw [Rat.intCast_natCast] at hq ⊢
  have k3:=Nat.div_add_mod m (2 ^ n)
  have k4:=Nat.mod_lt m hp2
  by_cases hf:E+(n:Nat)≤f
  ·obtain ⟨k,hk⟩:∃ k:Nat,f=E+(n:Nat)+(k:Nat):=⟨(f-(E+(n:Nat))).toNat,by omega⟩
   have e1:(v:Rat)*p2 f=((v*2 ^ k*2 ^ n:Nat):Rat)*p2 E:=by
    rw [hk,p2_split _ k,p2_split _ n,← Rat.mul_assoc,← Rat.mul_assoc,← Rat.natCast_mul,← Rat.natCast_mul]
   have hc:cutN m st p true≤v*2 ^ k:=by
    have hle:(m:Rat)*p2 E≤((v*2 ^ k*2 ^ n:Nat):Rat)*p2 E:=by grind
    rw [mul_le_iff (p2_pos E)] at hle
    have hle:=nat_le_of_cast hle
    unfold cutN
    rw [hnd]
    simp only [Bool.and_true]
    have far:m<v*2 ^ k*2 ^ n→m / 2 ^ n+1≤v*2 ^ k:=by
     intro hlt
     have h5:m / 2 ^ n*2 ^ n<v*2 ^ k*2 ^ n:=by rw [Nat.mul_comm (m / 2 ^ n)]; omega
     exact Nat.lt_of_mul_lt_mul_right h5
    cases st with
    | true=>
     simp only [Bool.true_or,if_true]
     have hlt:(m:Rat)*p2 E<((v*2 ^ k*2 ^ n:Nat):Rat)*p2 E:=by have:=h4 rfl; grind
     rw [rmul_lt_iff (p2_pos E)] at hlt
     exact far (nat_lt_of_cast hlt)
    | false=>
     by_cases hr:m % 2 ^ n=0
     ·simp only [hr,bne_self_eq_false,Bool.or_false,Bool.false_eq_true,if_false,Nat.add_zero]
      have h6:m / 2 ^ n*2 ^ n≤v*2 ^ k*2 ^ n:=by rw [Nat.mul_comm (m / 2 ^ n)]; omega
      exact Nat.le_of_mul_le_mul_right h6 hp2
     ·have:(m % 2 ^ n != 0)=true:=by simpa using hr
      rw [this,Bool.false_or,if_pos rfl]
      refine far ?_
      rcases Nat.lt_or_ge m (v*2 ^ k*2 ^ n) with h7 | h7
      ·exact h7
      ·exfalso; apply hr
       have:m=v*2 ^ k*2 ^ n:=by omega
       rw [this]; exact Nat.mul_mod_left _ _
   have hc':=Rat.mul_le_mul_of_nonneg_right (natCast_le hc) (Rat.le_of_lt (p2_pos (E+(n:Nat))))
   have e2:((v*2 ^ k:Nat):Rat)*p2 (E+(n:Nat))=(v:Rat)*p2 f:=by rw [hk,p2_split _ k,Rat.natCast_mul]; grind
   grind
  ·have h5:(m:Rat)*p2 E≤p2 (E+((n+p-1:Nat):Int)):=by
    have:=p2_le (show f+(p:Nat)≤E+((n+p-1:Nat):Int) by omega)
    grind
   have h7:p2 (E+((n+p-1:Nat):Int))≤(m:Rat)*p2 E:=by
    rw [p2_split,mul_le_iff (p2_pos E)]; exact natCast_le (by omega)
   have hst:st=false:=by
    cases st with
    | false=>rfl
    | true=>
     exfalso
     have:=h4 rfl
     have:=p2_le (show f+(p:Nat)≤E+((n+p-1:Nat):Int) by omega)
     grind
   rw [p2_split,mul_le_iff (p2_pos _)] at h5
   have h6:=nat_le_of_cast h5
   have hMe:m=2 ^ (n+p-1):=by omega
   have hMd:m=2 ^ n*2 ^ (p-1):=by rw [hMe,← Nat.pow_add]; congr 1; omega
   have hc:cutN m st p true*2 ^ n=m:=by
    unfold cutN
    rw [hnd,hMd,Nat.mul_mod_right,Nat.mul_div_cancel_left _ hp2,hst]
    simp [Nat.mul_comm]
   rw [p2_split,← Rat.mul_assoc,← Rat.natCast_mul,hc]
   grind
theorem val_quo {x y:D} (hy0:y.m≠0) {k:Nat} : val x / val y=sg (decide (x.m<0) != decide (y.m<0)) 1*(((x.m.natAbs*2 ^ k:Nat):Rat) / (y.m.natAbs:Rat)*p2 (x.e-y.e-k)):=by
 have hv0:val y≠0:=fun h=>hy0 ((val_zero_iff y).1 h)
 have hYp:(0:Rat)<(y.m.natAbs:Rat):=by exact_mod_cast (show 0<y.m.natAbs by omega)
 have hvx:((x.m.natAbs*2 ^ k:Nat):Rat)*p2 (x.e-k)=(x.m.natAbs:Rat)*p2 x.e:=by
  rw [Rat.natCast_mul,Rat.mul_assoc,← p2_split]; congr 2; omega
 have hQ:((x.m.natAbs*2 ^ k:Nat):Rat) / (y.m.natAbs:Rat)*p2 (x.e-y.e-k)*((y.m.natAbs:Rat)*p2 y.e)=(x.m.natAbs:Rat)*p2 x.e:=by
  have e1:=mul_of_div (a:=((x.m.natAbs*2 ^ k:Nat):Rat)) (b:=(y.m.natAbs:Rat)) (by grind)
  have e2:p2 (x.e-y.e-k)*p2 y.e=p2 (x.e-k):=by rw [← p2_add]; congr 1; omega
  calc ((x.m.natAbs*2 ^ k:Nat):Rat) / (y.m.natAbs:Rat)*p2 (x.e-y.e-k)*((y.m.natAbs:Rat)*p2 y.e)=(((x.m.natAbs*2 ^ k:Nat):Rat) / (y.m.natAbs:Rat)*(y.m.natAbs:Rat))*(p2 (x.e-y.e-k)*p2 y.e):=by grind
   _=(x.m.natAbs:Rat)*p2 x.e:=by rw [e1,e2,hvx]
 generalize ((x.m.natAbs*2 ^ k:Nat):Rat) / (y.m.natAbs:Rat)*p2 (x.e-y.e-k)=Q at *
 apply div_of_mul hv0
 by_cases h1:x.m<0<;>by_cases h2:y.m<0
 ·rw [val_abs_neg h1,val_abs_neg h2,show (decide (x.m<0) != decide (y.m<0))=false by simp [h1,h2],sg_pos_cast]; grind
 ·rw [val_abs_neg h1,val_abs_pos h2,show (decide (x.m<0) != decide (y.m<0))=true by simp [h1,h2],sg_neg_cast]; grind
 ·rw [val_abs_pos h1,val_abs_neg h2,show (decide (x.m<0) != decide (y.m<0))=true by simp [h1,h2],sg_neg_cast]; grind
 ·rw [val_abs_pos h1,val_abs_pos h2,show (decide (x.m<0) != decide (y.m<0))=false by simp [h1,h2],sg_pos_cast]; grind
theorem div_best {x y:D} (hy0:val y≠0) {p:Nat} (hp:1≤p) (up:Bool) (h:(divD x y p up).2=0):(up=false→∀ q,rep p q→q≤val x / val y→q≤val (divD x y p up).1)∧(up=true→∀ q,rep p q→val x / val y≤q→val (divD x y p up).1≤q)∧rep p (val (divD x y p up).1):=by
 have hym:y.m≠0:=fun h=>hy0 (val_zero_m h)
 unfold divD at *
 rw [if_neg hym] at h ⊢
 by_cases hxm:x.m=0
 ·rw [if_pos hxm]
  have:val x / val y=0:=div_of_mul hy0 (by rw [val_zero_m hxm,Rat.zero_mul])
  rw [this]
  refine ⟨fun _ q _ hq=>by rw [val_z]; exact hq,fun _ q _ hq=>by rw [val_z]; exact hq,⟨0,0,by rw [val_z]; simp,by simp⟩⟩
 rw [if_neg hxm] at h ⊢
 rw [tell_ok' h]
 have hX0:x.m.natAbs≠0:=by omega
 have hY0:y.m.natAbs≠0:=by omega
 have hbv:=blen_shl hX0 (p+2+blen y.m.natAbs-blen x.m.natAbs)
 have hq:=val_quo (x:=x) hym (k:=p+2+blen y.m.natAbs-blen x.m.natAbs)
 have hbX:p+2+blen y.m.natAbs≤blen (x.m.natAbs*2 ^ (p+2+blen y.m.natAbs-blen x.m.natAbs)):=by omega
 generalize p+2+blen y.m.natAbs-blen x.m.natAbs=k at *
 generalize x.e-y.e-(k:Int)=E at *
 generalize x.m.natAbs*2 ^ k=v at *
 generalize y.m.natAbs=Y at *
 have hpE:=p2_pos E
 have hYp:(0:Rat)<(Y:Rat):=by exact_mod_cast Nat.pos_of_ne_zero hY0
 have hdm:=Nat.div_add_mod v Y
 have hml:=Nat.mod_lt v (Nat.pos_of_ne_zero hY0)
 have hvq:(v:Rat) / (Y:Rat)*(Y:Rat)=(v:Rat):=mul_of_div (by grind)
 have hbm:p<blen (v / Y):=by
  have h1:2 ^ (p+1)≤v / Y:=by
   rw [Nat.le_div_iff_mul_le (by omega)]
   have h2:=blen_lt Y
   have hv0:v≠0:=by intro h0; rw [h0,blen_zero] at hbX; omega
   have h3:=blen_le hv0
   have h4:2 ^ (p+1)*Y≤2 ^ (p+1)*2 ^ blen Y:=Nat.mul_le_mul_left _ (by omega)
   rw [← Nat.pow_add] at h4
   have h5:2 ^ (p+1+blen Y)≤2 ^ (blen v-1):=Nat.pow_le_pow_right (by decide) (by omega)
   omega
  have h2:=blen_lt (v / Y)
  have h3:2 ^ (p+1)<2 ^ blen (v / Y):=by omega
  have:=(Nat.pow_lt_pow_iff_right (a:=2) (by decide)).1 h3
  omega
 have hcast:(v:Rat)=(Y:Rat)*((v / Y:Nat):Rat)+((v % Y:Nat):Rat):=by
  rw [← Rat.natCast_mul,← Rat.natCast_add,hdm]
 have hz:(0:Rat)≤((v % Y:Nat):Rat):=natCast_nonneg _
 have hQ1:((v / Y:Nat):Rat)≤(v:Rat) / (Y:Rat):=by
  rw [← mul_le_iff hYp,hvq]; grind
 have hQ3:(v:Rat) / (Y:Rat)<((v / Y+1:Nat):Rat):=by
  rw [← rmul_lt_iff hYp,hvq,Rat.natCast_add]
  have:((v % Y:Nat):Rat)<(Y:Rat):=natCast_lt hml
  have e:((1:Nat):Rat)=1:=rfl
  rw [e]; grind
 have hQ2:(v % Y != 0)=false→(v:Rat) / (Y:Rat)≤((v / Y:Nat):Rat):=by
  intro h0
  have h0:v % Y=0:=by simpa using h0
  rw [← mul_le_iff hYp,hvq,hcast,h0]
  have e:((0:Nat):Rat)=0:=rfl
  rw [e]; grind
 have hQ4:(v % Y != 0)=true→((v / Y:Nat):Rat)<(v:Rat) / (Y:Rat):=by
  intro h0
  have h0:v % Y≠0:=by simpa using h0
  have h1:(0:Rat)<((v % Y:Nat):Rat):=by exact_mod_cast Nat.pos_of_ne_zero h0
  rw [← rmul_lt_iff hYp,hvq,hcast]
  have:v / Y=(Y*(v / Y)+v % Y) / Y:=by rw [hdm]
  grind
 have hb:=cut_best (m:=v / Y) (st:=v % Y != 0) (E:=E) (Q:=(v:Rat) / (Y:Rat)*p2 E) hp hbm (by rw [mul_le_iff hpE]; exact hQ1) (fun h0=>by rw [mul_le_iff hpE]; exact hQ2 h0) (by rw [rmul_lt_iff hpE]; exact hQ3) (fun h0=>by rw [rmul_lt_iff hpE]; exact hQ4 h0)
 have hrep:∀ neg s,rep p (val (cutD neg (v / Y) E (v % Y != 0) p s)):=fun neg s=>⟨sg neg (cutN (v / Y) (v % Y != 0) p s),E+(blen (v / Y)-p:Nat),val_cut _ _ _ _ _ _,by rw [sg_abs']; exact cutN_le _ _ _ _⟩
 rw [hq,val_cut]
 refine ⟨?_,?_,by rw [← val_cut]; exact hrep _ _⟩
 ·rintro rfl q hq1 hq2
  cases hs:(decide (x.m<0) != decide (y.m<0)) with
  | true=>
   rw [hs,sg_neg_cast] at hq2
   rw [sg_neg_cast,show (false != true)=true from rfl]
   have:=hb.2 (-q) (rep_neg hq1) (by have e:((1:Nat):Rat)=1:=rfl; rw [e] at hq2; grind)
   grind
  | false=>
   rw [hs,sg_pos_cast] at hq2
   rw [sg_pos_cast,show (false != false)=false from rfl]
   exact hb.1 q hq1 (by have e:((1:Nat):Rat)=1:=rfl; rw [e] at hq2; grind)
 ·rintro rfl q hq1 hq2
  cases hs:(decide (x.m<0) != decide (y.m<0)) with
  | true=>
   rw [hs,sg_neg_cast] at hq2
   rw [sg_neg_cast,show (true != true)=false from rfl]
   have:=hb.1 (-q) (rep_neg hq1) (by have e:((1:Nat):Rat)=1:=rfl; rw [e] at hq2; grind)
   grind
  | false=>
   rw [hs,sg_pos_cast] at hq2
   rw [sg_pos_cast,show (true != false)=true from rfl]
   exact hb.2 q hq1 (by have e:((1:Nat):Rat)=1:=rfl; rw [e] at hq2; grind)
theorem enc_uniq {p:Nat} {c d:I} {u v:Rat} (h:Enc p c u v) (k:Enc p d u v):val c.lo=val d.lo∧val c.hi=val d.hi:=by
 have h1:=k.blo _ h.rlo h.lo
 have h2:=h.blo _ k.rlo k.lo
 have h3:=k.bhi _ h.rhi h.hi
 have h4:=h.bhi _ k.rhi k.hi
 constructor<;>grind
theorem neg_vals (c:I):val (negI c).lo = -val c.hi∧val (negI c).hi = -val c.lo:=⟨val_neg _,val_neg _⟩
theorem enc_neg {p:Nat} {c:I} {u v:Rat} (h:Enc p c u v):Enc p (negI c) (-v) (-u):=by
 have n:=neg_vals c
 have h1:=h.lo
 have h2:=h.hi
 refine ⟨by rw [n.1]; grind,by rw [n.2]; grind,fun q r k=>?_,fun q r k=>?_,by rw [n.1]; exact rep_neg h.rhi,by rw [n.2]; exact rep_neg h.rlo⟩
 ·rw [n.1]; have:=h.bhi (-q) (rep_neg r) (by grind); grind
 ·rw [n.2]; have:=h.blo (-q) (rep_neg r) (by grind); grind
theorem enc_same {p:Nat} {c d:I} {u v u' v':Rat} (h:Enc p c u v) (k:Enc p d u' v') (e1:u=u') (e2:v=v') (hc:okI c) (hd:okI d):c=d:=by
 subst e1; subst e2
 have:=enc_uniq h k
 exact I_ext hc hd this.1 this.2
theorem prod_uniq {a b:I} {u v u' v':Rat} (h:Prod a b u v) (k:Prod a b u' v'):u=u'∧v=v':=by
 have:=h.h1; have:=h.h2; have:=h.h3; have:=h.h4
 have:=k.h1; have:=k.h2; have:=k.h3; have:=k.h4
 have m1:=h.mu
 have m2:=k.mu
 have m3:=h.mv
 have m4:=k.mv
 constructor
 ·rcases m1 with m1 | m1 | m1 | m1<;>rcases m2 with m2 | m2 | m2 | m2<;>grind
 ·rcases m3 with m1 | m1 | m1 | m1<;>rcases m4 with m2 | m2 | m2 | m2<;>grind
theorem prod_neg {a b:I} {u v:Rat} (h:Prod a b u v):Prod (negI a) b (-v) (-u):=by
 have n:=neg_vals a
 have h1:=h.h1; have h2:=h.h2; have h3:=h.h3; have h4:=h.h4
 have mu:=h.mu
 have mv:=h.mv
 constructor<;>simp only [n.1,n.2]<;>grind
theorem prod_neg2 {a b:I} {u v:Rat} (h:Prod a b u v):Prod (negI a) (negI b) u v:=by
 have n:=neg_vals a
 have m:=neg_vals b
 have h1:=h.h1; have h2:=h.h2; have h3:=h.h3; have h4:=h.h4
 have mu:=h.mu
 have mv:=h.mv
 constructor<;>simp only [n.1,n.2,m.1,m.2]<;>grind
theorem mul_neg {a b:I} {L H M K:Int} (ha:OkI a L H) (hb:OkI b M K) {p:Nat} (hp:1≤p) (hL : -60000≤L+M) (hH:H+K≤60000):∃ c,mulI p a b=(c,0)∧mulI p (negI a) b=(negI c,0):=by
 obtain ⟨c,u,v,e,o,en,pr⟩:=mulI_ok ha hb hp hL hH
 obtain ⟨d,u',v',e',o',en',pr'⟩:=mulI_ok ha.neg hb hp hL hH
 have q:=prod_uniq (prod_neg pr) pr'
 exact ⟨c,e,by rw [e',enc_same (enc_neg en) en' q.1 q.2 o.neg.ok o'.ok]⟩
theorem mul_neg2 {a b:I} {L H M K:Int} (ha:OkI a L H) (hb:OkI b M K) {p:Nat} (hp:1≤p) (hL : -60000≤L+M) (hH:H+K≤60000):mulI p (negI a) (negI b)=mulI p a b:=by
 obtain ⟨c,u,v,e,o,en,pr⟩:=mulI_ok ha hb hp hL hH
 obtain ⟨d,u',v',e',o',en',pr'⟩:=mulI_ok ha.neg hb.neg hp hL hH
 have q:=prod_uniq (prod_neg2 pr) pr'
 rw [e,e',enc_same en en' q.1 q.2 o.ok o'.ok]
theorem add_neg {a b:I} {L H:Int} (ha:OkI a L H) (hb:OkI b L H) {p:Nat} (hp:1≤p) (hL : -60000≤L) (hH:H+1≤60000):∃ c,addI p a b=(c,0)∧addI p (negI a) (negI b)=(negI c,0):=by
 obtain ⟨c,e,o,en⟩:=addI_ok ha hb hp hL hH
 obtain ⟨d,e',o',en'⟩:=addI_ok ha.neg hb.neg hp hL hH
 have n:=neg_vals a
 have m:=neg_vals b
 exact ⟨c,e,by rw [e',enc_same (enc_neg en) en' (by rw [n.1,m.1]; grind) (by rw [n.2,m.2]; grind) o.neg.ok o'.ok]⟩
theorem wide_neg {a:I} {L H:Int} (ha:OkI a L H) {d:D} (hd:Okd d L H) (hd0:0≤val d) {p:Nat} (hp:1≤p) (hL : -60000≤L) (hH:H+1≤60000):∃ c,wideI p a d=(c,0)∧wideI p (negI a) d=(negI c,0):=by
 obtain ⟨c,e,o,en⟩:=wideI_ok ha hd hd0 hp hL hH
 obtain ⟨f,e',o',en'⟩:=wideI_ok ha.neg hd hd0 hp hL hH
 have n:=neg_vals a
 exact ⟨c,e,by rw [e',enc_same (enc_neg en) en' (by rw [n.1]; grind) (by rw [n.2]; grind) o.neg.ok o'.ok]⟩
structure Quo (a b:I) (u v:Rat):Prop where
 h1:u≤val a.lo / val b.lo∧val a.lo / val b.lo≤v
 h2:u≤val a.lo / val b.hi∧val a.lo / val b.hi≤v
 h3:u≤val a.hi / val b.lo∧val a.hi / val b.lo≤v
 h4:u≤val a.hi / val b.hi∧val a.hi / val b.hi≤v
 mu:u=val a.lo / val b.lo∨u=val a.lo / val b.hi∨u=val a.hi / val b.lo∨u=val a.hi / val b.hi
 mv:v=val a.lo / val b.lo∨v=val a.lo / val b.hi∨v=val a.hi / val b.lo∨v=val a.hi / val b.hi
theorem quo_uniq {a b:I} {u v u' v':Rat} (h:Quo a b u v) (k:Quo a b u' v'):u=u'∧v=v':=by
 have:=h.h1; have:=h.h2; have:=h.h3; have:=h.h4
 have:=k.h1; have:=k.h2; have:=k.h3; have:=k.h4
 have m1:=h.mu
 have m2:=k.mu
 have m3:=h.mv
 have m4:=k.mv
 constructor
 ·rcases m1 with m1 | m1 | m1 | m1<;>rcases m2 with m2 | m2 | m2 | m2<;>grind
 ·rcases m3 with m1 | m1 | m1 | m1<;>rcases m4 with m2 | m2 | m2 | m2<;>grind
theorem neg_div (x y:Rat) : -x / y = -(x / y):=by rw [Rat.div_def,Rat.div_def,Rat.neg_mul]
theorem quo_neg {a b:I} {u v:Rat} (h:Quo a b u v):Quo (negI a) b (-v) (-u):=by
 have n:=neg_vals a
 have h1:=h.h1; have h2:=h.h2; have h3:=h.h3; have h4:=h.h4
 have mu:=h.mu
 have mv:=h.mv
 constructor<;>simp only [n.1,n.2,neg_div]<;>grind
theorem min_of {a b c d:Rat} : ∃ u,(u≤a∧u≤b∧u≤c∧u≤d)∧(u=a∨u=b∨u=c∨u=d):=by
 have two:∀ x y:Rat,∃ u,(u≤x∧u≤y)∧(u=x∨u=y):=fun x y=>by
  rcases Rat.le_total (a:=x) (b:=y) with h | h
  ·exact ⟨x,⟨Rat.le_refl,h⟩,Or.inl rfl⟩
  ·exact ⟨y,⟨h,Rat.le_refl⟩,Or.inr rfl⟩
 obtain ⟨x,h1,h2⟩:=two a b
 obtain ⟨y,h3,h4⟩:=two c d
 obtain ⟨u,h5,h6⟩:=two x y
 exact ⟨u,⟨by grind,by grind,by grind,by grind⟩,by grind⟩
theorem divI_enc {a b:I} {L H M K:Int} (ha:OkI a L H) (hb:OkI b M K) (hz:hasI b zD=false) {p:Nat} (hp:1≤p) (hL : -60000≤L-K-p-2) (hH:H-M+2≤60000) :
  ∃ c u v,divI p a b=(c,0)∧OkI c (L-K-p-2) (H-M+2)∧Enc p c u v∧Quo a b u v:=by
 obtain ⟨c,ec,oc,hc⟩:=divI_ok ha hb hz hp hL hH
 have hs:=has_zero hz
 have hble:=hb.le
 have hale:=ha.le
 have nl:val b.lo≠0:=by grind
 have nh:val b.hi≠0:=by grind
 obtain ⟨u,hu,mu⟩:=min_of (a:=val a.lo / val b.lo) (b:=val a.lo / val b.hi) (c:=val a.hi / val b.lo) (d:=val a.hi / val b.hi)
 obtain ⟨w,hw,mw⟩:=min_of (a:=-(val a.lo / val b.lo)) (b:=-(val a.lo / val b.hi)) (c:=-(val a.hi / val b.lo)) (d:=-(val a.hi / val b.hi))
 have q:Quo a b u (-w):=⟨⟨hu.1,by grind⟩,⟨hu.2.1,by grind⟩,⟨hu.2.2.1,by grind⟩,⟨hu.2.2.2,by grind⟩,mu,by grind⟩
 refine ⟨c,u,-w,ec,oc,?_,q⟩
 have c1:=hc _ _ Rat.le_refl hale Rat.le_refl hble
 have c2:=hc _ _ Rat.le_refl hale hble Rat.le_refl
 have c3:=hc _ _ hale Rat.le_refl Rat.le_refl hble
 have c4:=hc _ _ hale Rat.le_refl hble Rat.le_refl
 have ec2:=ec
 obtain ⟨q1,e1,-⟩:=div_ok ha.lo hb.lo nl hp false hL hH
 obtain ⟨q2,e2,-⟩:=div_ok ha.lo hb.hi nh hp false hL hH
 obtain ⟨q3,e3,-⟩:=div_ok ha.hi hb.lo nl hp false hL hH
 obtain ⟨q4,e4,-⟩:=div_ok ha.hi hb.hi nh hp false hL hH
 obtain ⟨r1,f1,-⟩:=div_ok ha.lo hb.lo nl hp true hL hH
 obtain ⟨r2,f2,-⟩:=div_ok ha.lo hb.hi nh hp true hL hH
 obtain ⟨r3,f3,-⟩:=div_ok ha.hi hb.lo nl hp true hL hH
 obtain ⟨r4,f4,-⟩:=div_ok ha.hi hb.hi nh hp true hL hH
 have b1:=div_best (x:=a.lo) nl hp false (by rw [e1])
 have b2:=div_best (x:=a.lo) nh hp false (by rw [e2])
 have b3:=div_best (x:=a.hi) nl hp false (by rw [e3])
 have b4:=div_best (x:=a.hi) nh hp false (by rw [e4])
 have g1:=div_best (x:=a.lo) nl hp true (by rw [f1])
 have g2:=div_best (x:=a.lo) nh hp true (by rw [f2])
 have g3:=div_best (x:=a.hi) nl hp true (by rw [f3])
 have g4:=div_best (x:=a.hi) nh hp true (by rw [f4])
 rw [e1] at b1
 rw [e2] at b2
 rw [e3] at b3
 rw [e4] at b4
 rw [f1] at g1
 rw [f2] at g2
 rw [f3] at g3
 rw [f4] at g4
 unfold divI four4 at ec2
 rw [hz,if_neg (by simp)] at ec2
 simp only [e1,e2,e3,e4,f1,f2,f3,f4] at ec2
 have hcv:c=⟨min4 q1 q2 q3 q4,max4 r1 r2 r3 r4⟩:=by
  have:((⟨min4 q1 q2 q3 q4,max4 r1 r2 r3 r4⟩:I),(0:Int))=(c,0):=ec2
  exact (congrArg Prod.fst this).symm
 have m1:=min4_mem q1 q2 q3 q4
 have m2:=max4_mem r1 r2 r3 r4
 have l1:val c.lo=val (min4 q1 q2 q3 q4):=by rw [hcv]
 have l2:val c.hi=val (max4 r1 r2 r3 r4):=by rw [hcv]
 refine ⟨by grind,by grind,fun y hy hyu=>?_,fun y hy hyv=>?_,?_,?_⟩
 ·have k1:=b1.1 rfl y hy (by grind)
  have k2:=b2.1 rfl y hy (by grind)
  have k3:=b3.1 rfl y hy (by grind)
  have k4:=b4.1 rfl y hy (by grind)
  simp only at k1 k2 k3 k4
  rw [l1]; rcases m1 with m | m | m | m<;>rw [m]<;>assumption
 ·have k1:=g1.2.1 rfl y hy (by grind)
  have k2:=g2.2.1 rfl y hy (by grind)
  have k3:=g3.2.1 rfl y hy (by grind)
  have k4:=g4.2.1 rfl y hy (by grind)
  simp only at k1 k2 k3 k4
  rw [l2]; rcases m2 with m | m | m | m<;>rw [m]<;>assumption
 ·rw [l1]; rcases m1 with m | m | m | m<;>rw [m]
  ·exact b1.2.2
  ·exact b2.2.2
  ·exact b3.2.2
  ·exact b4.2.2
 ·rw [l2]; rcases m2 with m | m | m | m<;>rw [m]
  ·exact g1.2.2
  ·exact g2.2.2
  ·exact g3.2.2
  ·exact g4.2.2
theorem div_neg {a b:I} {L H M K:Int} (ha:OkI a L H) (hb:OkI b M K) (hz:hasI b zD=false) {p:Nat} (hp:1≤p) (hL : -60000≤L-K-p-2) (hH:H-M+2≤60000):∃ c,divI p a b=(c,0)∧divI p (negI a) b=(negI c,0):=by
 obtain ⟨c,u,v,e,o,en,pr⟩:=divI_enc ha hb hz hp hL hH
 obtain ⟨d,u',v',e',o',en',pr'⟩:=divI_enc ha.neg hb hz hp hL hH
 have q:=quo_uniq (quo_neg pr) pr'
 exact ⟨c,e,by rw [e',enc_same (enc_neg en) en' q.1 q.2 o.neg.ok o'.ok]⟩
theorem inI_neg {y:I} {L k:Int} (h:OkI y L k):inI (negI y) (box k)=true:=in_box h.neg
theorem ser_neg {p:Nat} (hp:1≤p) (next:Nat→I→Int→I × I × Int) (T P Su:Nat→R) {L0 H0 c d:Int} (hc:0≤c) (hd:0≤d) {N:Nat} (hS:∀ i,Su (i+1)=Su i+P (i+1))
  (hn:∀ i t,i<N→Has (t,0) (T i) (L0-c*i) (H0+d*i)→(next (i+1) t 0).2.2=0∧Has ((next (i+1) t 0).1,0) (T (i+1)) (L0-c*(i+1:Nat)) (H0+d*(i+1:Nat))∧Has ((next (i+1) t 0).2.1,0) (P (i+1)) (L0-c*(i+1:Nat)) (H0+d*(i+1:Nat)))
  (hng:∀ i t,i<N→Has (t,0) (T i) (L0-c*i) (H0+d*i)→next (i+1) (negI t) 0=(negI (next (i+1) t 0).1,negI (next (i+1) t 0).2.1,0))
  (hL : -60000≤L0-c*N) (hH:H0+(d+1)*N≤60000) :
  ∀ (k i:Nat) (s t:I),i+k=N→Has (s,0) (Su i) (L0-c*i) (H0+(d+1)*i)→Has (t,0) (T i) (L0-c*i) (H0+d*i)→serL p next k i (negI s) (negI t) 0=(negI (serL p next k i s t 0).1,0):=by
 intro k
 induction k with
 | zero=>intro i s t _ _ _; rfl
 | succ k ih=>
  intro i s t hi hs ht
  obtain ⟨n1,n2,n3⟩:=hn i t (by omega) ht
  have e1:=cmul_succ c i
  have e2:=cmul_succ d i
  have e3:=cmul_succ (d+1) i
  have m1:=cmul_le hc (show i+1≤N by omega)
  have m2:=cmul_le (show 0≤d+1 by omega) (show i+1≤N by omega)
  have e4:(d+1)*(i:Int)=d*i+i:=by rw [Int.add_mul]; simp
  have o1:=hs.mono (L':=L0-c*(i+1:Nat)) (H':=H0+(d+1)*(i+1:Nat)-1) (by omega) (by omega)
  have o2:=n3.mono (Int.le_refl _) (H':=H0+(d+1)*(i+1:Nat)-1) (by omega)
  have h1:=has_add (p:=p) o1 o2 hp (by omega) (by omega)
  obtain ⟨q,q1,q2⟩:=add_neg (p:=p) o1.ok o2.ok hp (by omega) (by omega)
  have h2:=ih (i+1) _ _ (by omega) ((h1.mono (Int.le_refl _) (H':=H0+(d+1)*(i+1:Nat)) (by omega)).eq (hS i).symm).pair n2
  have h1e:=h1.e
  rw [serL,serL,hng i t (by omega) ht,n1]
  simp only [aS,st_zero] at h2 h1e ⊢
  rw [q1] at h2 ⊢
  rw [q2]
  exact h2
theorem div_n_neg {r:I × Int} {x:R} {L H:Int} (ha:Has r x L H) {n K:Nat} (hK:K≤60) (h0:0<n) (hn:n≤2 ^ K) {p:Nat} (hp:1≤p) (hL : -60000≤L-K-p-2) (hH:H+2≤60000):dS p (negI r.1) (iS (n:Int) 0).1 0=(negI (dS p r.1 (iS (n:Int) 0).1 0).1,0):=by
 obtain ⟨c,e1,e2⟩:=div_neg (p:=p) ha.ok (has_nat hK hn).ok (nz_int h0) hp hL (by omega)
 unfold dS
 rw [st_zero,st_zero,e1,e2]
theorem fin_neg {p:Nat} (hp:1≤p∧p≤1000) {r:I × Int} {x:R} {L H:Int} (h:Has r x L H) (hL : -60000≤L) (hLp:L ≤ -(p:Int)) (hH:0≤H∧H+1≤60000):finS p (negI r.1,0)=(negI (finS p r).1,0):=by
 obtain ⟨c,e1,e2⟩:=wide_neg (p:=p) h.ok (Okd_half (k:=-(p:Int)) hLp (by omega) (by omega)) (by rw [val_half]; exact Rat.le_of_lt (p2_pos _)) hp.1 hL hH.2
 unfold finS wS
 rw [h.e,st_zero,st_zero,e1,e2]
theorem sq_neg {y:I} {L:Int} (hy:OkI y L 0) {p:Nat} (hp:1≤p) (hL : -60000≤L+L):mS p (negI y) (negI y) 0=mS p y y 0:=by
 unfold mS; rw [st_zero,st_zero,mul_neg2 hy hy hp hL (by omega)]
theorem odd_neg {g:I × Int} {x z:R} {L H:Int} (hg:Has g x L H) {i:Nat} (hi:i≤300) {p:Nat} (hp:1≤p) (hL : -60000≤L-10-p-2) (hH:H+2≤60000):oddS p i (negI g.1,0)=(negI (oddS p i g).1,negI (oddS p i g).2.1,0):=by
 have h2:=div_n_neg (p:=p) hg (n:=2*i+1) (K:=10) (by omega) (by omega) (by omega) hp hL hH
 unfold oddS
 simp only
 rw [hg.e,show (iS ((2*i+1:Nat):Int) 0).2=0 from rfl,h2]
theorem atan_neg {p:Nat} (hp:2≤p∧p≤400) {y:I} {x:R} {L Lq:Int} (hy:OkI y L (-1)) (hm:Mem y x) (hq:Has (mS p y y 0) (x*x) Lq 0) (hL0:L≤0) (hLL : -60000≤L+L) (hLq:Lq≤0) {M:Int} (hM:M≤L-(p+20-Lq)*(p / 2+4:Nat)) (hM' : -60000≤M):atanI p (negI y)=(negI (atanI p y).1,0):=by
 have hy0:=hy.mono (Int.le_refl _) (H':=0) (by omega)
 have hy':Has (y,0) x L 0:=⟨rfl,hy0,hm⟩
 have hcN:=ser_lim (c:=p+20-Lq) (N:=p / 2+4) (by omega) (by omega)
 have hs:=(hy'.mono (L':=L-(p+20-Lq)*(0:Nat)) (H':=0+(2+1)*(0:Nat)) (by omega) (by omega)).eq (y:=psum atc x (2*0+2)) (by
  show x=0+atc 0*x ^ 0+atc 1*x ^ (0+1)
  have h1:=over_n (sS 1) x 0
  rw [show ((0+1:Nat):R)=1 from rfl] at h1
  rw [rpow_succ,rpow_zero,atc,atc,show sS 0=0 from rfl,show sS 1=1 from rfl,show ((1:Nat):R)=1 from rfl]
  rw [show sS 1=1 from rfl] at h1
  grind)
 have ht:=(hy'.mono (L':=L-(p+20-Lq)*(0:Nat)) (H':=0+2*(0:Nat)) (by omega) (by omega)).eq (y:=sS (2*0+1)*x ^ (2*0+1)) (by
  show x=sS 1*x ^ (0+1)
  rw [rpow_succ,rpow_zero,show sS 1=1 from rfl]; grind)
 have hr:=ser_has (p:=p) (by omega) (nAtan p (mS p y y 0).1) (fun i=>sS (2*i+1)*x ^ (2*i+1)) (fun i=>atc (2*i+1)*x ^ (2*i+1)) (fun i=>psum atc x (2*i+2)) (L0:=L) (H0:=0) (c:=p+20-Lq) (d:=2) (N:=p / 2+4) (by omega) (by omega) (fun i=>atc_sum x i) (atan_nx hp hq hL0 hLq (by omega)) (by omega) (by omega) (p / 2+4) 0 y y (by omega) hs ht
 have hn:=ser_neg (p:=p) (by omega) (nAtan p (mS p y y 0).1) (fun i=>sS (2*i+1)*x ^ (2*i+1)) (fun i=>atc (2*i+1)*x ^ (2*i+1)) (fun i=>psum atc x (2*i+2)) (L0:=L) (H0:=0) (c:=p+20-Lq) (d:=2) (N:=p / 2+4) (by omega) (by omega) (fun i=>atc_sum x i) (atan_nx hp hq hL0 hLq (by omega)) (by
  intro i t hiN ht
  have m1:=cmul_le (c:=p+20-Lq) (by omega) (show i+1≤p / 2+4 by omega)
  have e1:=cmul_succ (p+20-Lq) i
  have h1:=has_mul (p:=p) ht hq (by omega) (by omega) (by omega)
  obtain ⟨c,c1,c2⟩:=mul_neg (p:=p) ht.ok hq.ok (by omega) (by omega) (by omega)
  have n1:mS p t (mS p y y 0).1 0=(c,0):=by show st 0 zI (mulI p t (mS p y y 0).1)=_; rw [st_zero]; exact c1
  have n2:mS p (negI t) (mS p y y 0).1 0=(negI c,0):=by show st 0 zI (mulI p (negI t) (mS p y y 0).1)=_; rw [st_zero]; exact c2
  have h2:=has_neg h1
  have h3:=odd_neg (p:=p) (z:=x) h2 (i:=i+1) (by omega) (by omega) (by omega) (by omega)
  unfold nAtan
  have n1':mS p (t,(0:Int)).1 (mS p y y 0).1 0=(c,0):=n1
  rw [n1'] at h3
  rw [n1,n2]
  exact h3) (by omega) (by omega) (p / 2+4) 0 y y (by omega) hs ht
 unfold atanI
 rw [if_pos (in_box hy),if_pos (inI_neg hy),sq_neg hy0 (by omega) (by omega),hq.e,hn]
 exact fin_neg (p:=p) (by omega) (hr.mono (L':=M) (H':=699) (by omega) (by omega)) hM' (by omega) (by omega)
theorem atanh_neg {p:Nat} (hp:2≤p∧p≤400) {y:I} {x:R} {L Lq:Int} (hy:OkI y L (-1)) (hm:Mem y x) (hq:Has (mS p y y 0) (x*x) Lq 0) (hL0:L≤0) (hLL : -60000≤L+L) (hLq:Lq≤0) {M:Int} (hM:M≤L-(p+20-Lq)*(p / 2+4:Nat)) (hM' : -60000≤M):atanhI p (negI y)=(negI (atanhI p y).1,0):=by
 have hy0:=hy.mono (Int.le_refl _) (H':=0) (by omega)
 have hy':Has (y,0) x L 0:=⟨rfl,hy0,hm⟩
 have hcN:=ser_lim (c:=p+20-Lq) (N:=p / 2+4) (by omega) (by omega)
 have hs:=(hy'.mono (L':=L-(p+20-Lq)*(0:Nat)) (H':=0+(2+1)*(0:Nat)) (by omega) (by omega)).eq (y:=psum ahc x (2*0+2)) (by
  show x=0+ahc 0*x ^ 0+ahc 1*x ^ (0+1)
  have h1:=over_n (od 1) x 0
  rw [show ((0+1:Nat):R)=1 from rfl] at h1
  rw [rpow_succ,rpow_zero,ahc,ahc,show od 0=0 from rfl,show od 1=1 from rfl,show ((1:Nat):R)=1 from rfl]
  rw [show od 1=1 from rfl] at h1
  grind)
 have ht:=(hy'.mono (L':=L-(p+20-Lq)*(0:Nat)) (H':=0+2*(0:Nat)) (by omega) (by omega)).eq (y:=od (2*0+1)*x ^ (2*0+1)) (by
  show x=od 1*x ^ (0+1)
  rw [rpow_succ,rpow_zero,show od 1=1 from rfl]; grind)
 have hr:=ser_has (p:=p) (by omega) (nAtanh p (mS p y y 0).1) (fun i=>od (2*i+1)*x ^ (2*i+1)) (fun i=>ahc (2*i+1)*x ^ (2*i+1)) (fun i=>psum ahc x (2*i+2)) (L0:=L) (H0:=0) (c:=p+20-Lq) (d:=2) (N:=p / 2+4) (by omega) (by omega) (fun i=>ahc_sum x i) (atanh_nx hp hq hL0 hLq (by omega)) (by omega) (by omega) (p / 2+4) 0 y y (by omega) hs ht
 have hn:=ser_neg (p:=p) (by omega) (nAtanh p (mS p y y 0).1) (fun i=>od (2*i+1)*x ^ (2*i+1)) (fun i=>ahc (2*i+1)*x ^ (2*i+1)) (fun i=>psum ahc x (2*i+2)) (L0:=L) (H0:=0) (c:=p+20-Lq) (d:=2) (N:=p / 2+4) (by omega) (by omega) (fun i=>ahc_sum x i) (atanh_nx hp hq hL0 hLq (by omega)) (by
  intro i t hiN ht
  have m1:=cmul_le (c:=p+20-Lq) (by omega) (show i+1≤p / 2+4 by omega)
  have e1:=cmul_succ (p+20-Lq) i
  have h1:=has_mul (p:=p) ht hq (by omega) (by omega) (by omega)
  obtain ⟨c,c1,c2⟩:=mul_neg (p:=p) ht.ok hq.ok (by omega) (by omega) (by omega)
  have n1:mS p t (mS p y y 0).1 0=(c,0):=by show st 0 zI (mulI p t (mS p y y 0).1)=_; rw [st_zero]; exact c1
  have n2:mS p (negI t) (mS p y y 0).1 0=(negI c,0):=by show st 0 zI (mulI p (negI t) (mS p y y 0).1)=_; rw [st_zero]; exact c2
  have h3:=odd_neg (p:=p) (z:=x) h1 (i:=i+1) (by omega) (by omega) (by omega) (by omega)
  unfold nAtanh
  have n1':mS p (t,(0:Int)).1 (mS p y y 0).1 0=(c,0):=n1
  rw [n1'] at h3
  rw [n1,n2]
  exact h3) (by omega) (by omega) (p / 2+4) 0 y y (by omega) hs ht
 unfold atanhI
 rw [if_pos (in_box hy),if_pos (inI_neg hy),sq_neg hy0 (by omega) (by omega),hq.e,hn]
 exact fin_neg (p:=p) (by omega) (hr.mono (L':=M) (H':=699) (by omega) (by omega)) hM' (by omega) (by omega)
theorem sAtan {p:Nat} (hp:2≤p∧p≤400) {y:I} {x:R} {L Lq:Int} (hs:SI y) (hy:Has (y,0) x L (-1)) (hq:Has (mS p y y 0) (x*x) Lq 0) (hL0:L≤0) (hLq:Lq≤0) {M:Int} (hM:M≤L-(p+20-Lq)*(p / 2+4:Nat)) (hM' : -60000≤M):small_Atan (iv y) 0 (p:Int)=some (iv (atanI p y).1,0)∧Has ((atanI p y).1,0) (A x) M 700:=by
 have h:=atan_has hp (hy.ok.mono (Int.le_refl _) (by omega)) hy.m hq (in_box hy.ok) hL0 hLq hM hM'
 exact ⟨by rw [smallAtan_eq hp hs,st_zero,h.e],h.pair⟩
theorem sAtanh {p:Nat} (hp:2≤p∧p≤400) {y:I} {x:R} {L Lq:Int} (hs:SI y) (hy:Has (y,0) x L (-1)) (hq:Has (mS p y y 0) (x*x) Lq 0) (hL0:L≤0) (hLq:Lq≤0) {M:Int} (hM:M≤L-(p+20-Lq)*(p / 2+4:Nat)) (hM' : -60000≤M):small_Atanh (iv y) 0 (p:Int)=some (iv (atanhI p y).1,0)∧Has ((atanhI p y).1,0) (An.H x) M 700:=by
 have h:=atanh_has hp (hy.ok.mono (Int.le_refl _) (by omega)) hy.m hq (in_box hy.ok) hL0 hLq hM hM'
 exact ⟨by rw [smallAtanh_eq hp hs,st_zero,h.e],h.pair⟩
theorem far_by {p:Nat} (hp:p≤60) {c K:Int} (hc:0≤c∧c≤K):c*((p / 2+4:Nat):Int)≤K*34:=Int.mul_le_mul (by omega) (by omega) (by omega) (by omega)
theorem p2_int1 (k:Int) (x:R):x*ofQ (p2 1)=x+x:=by
 have:ofQ (p2 1)=2:=by rw [show (1:Int)=((1:Nat):Int) from rfl,p2_nat]; rfl
 rw [this]; grind
theorem intI_zero:intI 0=zI:=by unfold intI fromD zI; rw [nrm_zero]
theorem zero_has (L H:Int):Has (zI,0) (0:R) L H:=(has_point (Okd_z L H)).eq (by rw [val_z]; rfl)
theorem double_has {p:Nat} (hp:2≤p∧p≤60) {d:D} (hd:Okd d (-67) (-3)):∃ t m s q z,cv_Scale (iv ⟨d,d⟩) 1 0 (p:Int)=some (iv t,0)∧cv_Mul (iv ⟨d,d⟩) (iv ⟨d,d⟩) 0 (p:Int)=some (iv m,0)∧cv_Sub (iv (intI 1)) (iv m) 0 (p:Int)=some (iv s,0)∧cv_Div (iv t) (iv s) 0 (p:Int)=some (iv q,0)∧Has (q,0) z (-140) (-1)∧z*(1-ofQ (val d)*ofQ (val d))=2*ofQ (val d):=by
 have hpp:2≤p∧p≤400:=by omega
 have h1:=has_point hd
 obtain ⟨t,et,ht⟩:=sScale h1 (n:=1) (by omega) p (by omega) (by omega)
 obtain ⟨m,em,hm⟩:=sMul h1 h1 hpp (by omega) (by omega)
 have i1:Has (intI 1,0) (1:R) 0 0:=has_int (n:=1) (K:=0) (by omega) (by decide)
 have en:=hm.ok.neg
 obtain ⟨s,e0,os,ens⟩:=addI_ok (p:=p) ((i1.ok.mono (L':=-134) (H':=0) (by omega) (by omega))) (hm.ok.neg.mono (L':=-134) (H':=0) (by omega) (by omega)) (by omega) (by omega) (by omega)
 have hs:Has (suS p (intI 1) m 0) (1-ofQ (val d)*ofQ (val d)) (-134) 1:=has_sub (i1.mono (L':=-134) (H':=0) (by omega) (by omega)) (hm.mono (L':=-134) (H':=0) (by omega) (by omega)) (by omega) (by omega) (by omega)
 have hse:suS p (intI 1) m 0=(s,0):=by unfold suS subI; rw [st_zero,e0]
 rw [hse] at hs
 have es:cv_Sub (iv (intI 1)) (iv m) 0 (p:Int)=some (iv s,0):=by
  rw [ivSub_eq i1.ok.ok hm.ok.ok hpp]
  have:(st 0 zI (subI p (intI 1) m))=(s,0):=hse
  rw [this]
 have nm:=neg_vals m
 have hm2:val m.hi≤p2 (-6):=hm.ok.hi.b.2
 have k1:val (intI 1).lo=1:=val_from 1
 have k6:p2 (-6)≤1 / 2:=by rw [← p2_half]; exact p2_le (by omega)
 have hlo:1 / 2≤val s.lo:=by
  have:=ens.blo (p2 (-1)) (rep_p2 p (-1)) (by rw [nm.1,k1,p2_half]; grind)
  rwa [p2_half] at this
 have hz:hasI s zD=false:=by
  cases hq:hasI s zD with
  | false=>rfl
  | true=>
   have:=((hasI_iff _ _).1 hq).1
   rw [val_z] at this; grind
 have hx2:ab (ofQ (val d))<1:=by
  have h2:=hd.b
  have h3:p2 (-3)<1:=by rw [← p2_zero]; exact p2_lt (by omega)
  have h4:=ofQ_le.2 h2.1
  have h5:=ofQ_le.2 h2.2
  have h6:=ofQ_lt.2 h3
  rw [ofQ_neg] at h4
  rw [ofQ_one] at h6
  have h7:ab (ofQ (val d))≤ofQ (p2 (-3)):=ab_le.2 ⟨h4,h5⟩
  grind
 have hsq:=sq_lt_one hx2
 have hinv:=mul_inv (x:=1-ofQ (val d)*ofQ (val d)) (by grind)
 have hzz:2*ofQ (val d)*(1-ofQ (val d)*ofQ (val d))⁻¹*(1-ofQ (val d)*ofQ (val d))=2*ofQ (val d):=by grind
 have ht':Has (t,0) (2*ofQ (val d)) (-66) (-2):=ht.eq (by rw [p2_int1 1]; grind)
 obtain ⟨q,u,v,eq,oq,enq,quo⟩:=divI_enc (p:=p) ht'.ok hs.ok hz (by omega) (by omega) (by omega)
 have hd2:=has_div (p:=p) ht' hs hz hzz (by omega) (by omega) (by omega)
 have hdq:dS p t s 0=(q,0):=by unfold dS; rw [st_zero,eq]
 have hdq':dS p (t,(0:Int)).1 (s,(0:Int)).1 0=(q,0):=hdq
 rw [hdq'] at hd2
 have hB:∀ x y:Rat,B (-2) x→1 / 2≤y→-(p2 (-1))≤x / y∧x / y≤p2 (-1):=by
  intro x y hx hy
  have e2:p2 (-2+1)=2*p2 (-2):=p2_succ (-2)
  rw [show (-2:Int)+1 = -1 by decide] at e2
  have hp2:=p2_pos (-2)
  have hy0:(0:Rat)<y:=by grind
  have e3:x / y*y=x:=mul_of_div (by grind)
  have h1:p2 (-2)≤p2 (-1)*y:=by
   have:=Rat.mul_le_mul_of_nonneg_left (c:=p2 (-1)) hy (by grind)
   grind
  have hb:=hx.1
  have hb2:=hx.2
  constructor
  ·rw [← mul_le_iff hy0,e3]; grind
  ·rw [← mul_le_iff hy0,e3]; grind
 have hle:=hs.ok.le
 have tb:=ht'.ok
 have w1:=hB _ _ tb.lo.b hlo
 have w2:=hB _ (val s.hi) tb.lo.b (by grind)
 have w3:=hB _ _ tb.hi.b hlo
 have w4:=hB _ (val s.hi) tb.hi.b (by grind)
 have hu : -(p2 (-1))≤u:=by rcases quo.mu with k | k | k | k<;>rw [k]<;>grind
 have hv:v≤p2 (-1):=by rcases quo.mv with k | k | k | k<;>rw [k]<;>grind
 have b1:=enq.blo _ (rep_neg (rep_p2 p (-1))) hu
 have b2:=enq.bhi _ (rep_p2 p (-1)) hv
 have hle2:=oq.le
 have ok2:OkI q (-66-1-p-2) (-1):=⟨⟨oq.lo.w,oq.lo.g,⟨b1,by grind⟩⟩,⟨oq.hi.w,oq.hi.g,⟨by grind,b2⟩⟩,oq.le⟩
 refine ⟨t,m,s,q,_,et,em,es,?_,⟨rfl,ok2.mono (by omega) (by omega),hd2.m⟩,hzz⟩
 rw [ivDiv_eq ht'.ok.ok hs.ok.ok hpp]
 have:(st 0 zI (divI p t s))=(q,0):=hdq
 rw [this]
theorem SmallOdd_true (a0:AD) (g0:gAD a0) (a1:Int) (g1:(Lit.int .i64 a1).wf=true):l07_SmallOdd a0 a1=some true:=by
 unfold l07_SmallOdd
 obtain ⟨p,ep,hp1,hp2⟩:=prec07_eq (wf_i64 g1)
 have hp:2≤p∧p≤400:=by omega
 obtain ⟨d,ed,hd⟩:=tame07_eq g0 (up:=-3) (by omega)
 have far:=far_by hp2 (c:=p+20-(-134)) (K:=214) (by omega)
 have far2:=far_by hp2 (c:=p+20-(-280)) (K:=360) (by omega)
 obtain ⟨e1,h1⟩:=sPoint hd p
 have h1':Has (⟨d,d⟩,0) (ofQ (val d)) (-67) (-1):=h1.mono (by omega) (by omega)
 have si:=SI_of h1'.ok (by omega)
 have hq:=has_mul (p:=p) h1 h1 (by omega) (by omega) (by omega)
 have hq:=hq.mono (L':=-134) (H':=0) (by omega) (by omega)
 obtain ⟨eu,hu⟩:=sAtan hp si h1' hq (by omega) (by omega) (M:=-7400) (by omega) (by omega)
 obtain ⟨ev,hv⟩:=sAtanh hp si h1' hq (by omega) (by omega) (M:=-7400) (by omega) (by omega)
 obtain ⟨e3,h3⟩:=sNeg h1' p
 have hqn:Has (mS p (negI ⟨d,d⟩) (negI ⟨d,d⟩) 0) (-ofQ (val d) * -ofQ (val d)) (-134) 0:=by
  rw [sq_neg (h1'.ok.mono (Int.le_refl _) (by omega)) (by omega) (by omega)]
  exact hq.eq (by grind)
 obtain ⟨ew,-⟩:=sAtan hp (SI_of h3.ok (by omega)) h3 hqn (by omega) (by omega) (M:=-7400) (by omega) (by omega)
 obtain ⟨ez,-⟩:=sAtanh hp (SI_of h3.ok (by omega)) h3 hqn (by omega) (by omega) (M:=-7400) (by omega) (by omega)
 rw [atan_neg hp h1'.ok h1'.m hq (by omega) (by omega) (by omega) (M:=-7400) (by omega) (by omega)] at ew
 rw [atanh_neg hp h1'.ok h1'.m hq (by omega) (by omega) (by omega) (M:=-7400) (by omega) (by omega)] at ez
 obtain ⟨e5,h5⟩:=sNeg hu p
 obtain ⟨e6,h6⟩:=sNeg hv p
 have z0:=zero_has (-67) (-1)
 have hqz:=has_mul (p:=p) z0 z0 (by omega) (by omega) (by omega)
 have hqz:=hqz.mono (L':=-134) (H':=0) (by omega) (by omega)
 obtain ⟨f1,k1⟩:=sAtan hp SI_z z0 hqz (by omega) (by omega) (M:=-7400) (by omega) (by omega)
 obtain ⟨f2,k2⟩:=sAtanh hp SI_z z0 hqz (by omega) (by omega) (M:=-7400) (by omega) (by omega)
 have s1:=sHas k1 WD_z (by rw [val_z,A_zero]; rfl)
 have s2:=sHas k2 WD_z (by rw [val_z,H_zero]; rfl)
 rw [dy_z] at s1 s2
 obtain ⟨t,m,s,q,z,c1,c2,c3,c4,hz,hzz⟩:=double_has (p:=p) (by omega) hd
 have hq2:=has_mul (p:=p) hz hz (by omega) (by omega) (by omega)
 have hq2:=hq2.mono (L':=-280) (H':=0) (by omega) (by omega)
 obtain ⟨c5,w1⟩:=sAtan hp (SI_of hz.ok (by omega)) hz hq2 (by omega) (by omega) (M:=-12400) (by omega) (by omega)
 obtain ⟨r,c6,w2⟩:=sScale hu (n:=1) (by omega) p (by omega) (by omega)
 have hx8:ab (ofQ (val d))≤ofQ (p2 (-3)):=by
  have h2:=hd.b
  have h4:=ofQ_le.2 h2.1
  have h5:=ofQ_le.2 h2.2
  rw [ofQ_neg] at h4
  exact ab_le.2 ⟨h4,h5⟩
 have hz2:ab z≤ofQ (p2 (-1)):=box_mem (in_box hz.ok) hz.m
 have e8:ofQ (p2 (-3))=hf*hf*hf:=by rw [show (-3:Int) = -((3:Nat):Int) from rfl,p2_neg_nat,rpow_succ,rpow_succ,rpow_succ,rpow_zero]; grind
 have e2:ofQ (p2 (-1))=hf:=by rw [p2_half]; rfl
 rw [e8] at hx8
 rw [e2] at hz2
 have f2':=hf_two
 have f3:=hf_pos
 have f4:hf*hf*hf+hf*hf*hf=hf*hf:=by
  have:hf*hf*(hf+hf)=hf*hf:=by rw [f2']; grind
  grind
 have f5:hf*hf+hf*hf=hf:=by
  have:hf*(hf+hf)=hf:=by rw [f2']; grind
  grind
 have hA:=A_double (x:=ofQ (val d)) (z:=z) (by grind) (by grind) hzz (by grind)
 obtain ⟨c,ec⟩:=sMeet w1 (w2.eq (by rw [p2_int1 1,hA])) p
 rw [examples07]
 simp only [obn]
 rw [if_neg (by simp),ep]
 simp only [obn]
 rw [ivNew_eq hp]
 simp only [obn]
 rw [if_neg (by simp),ed]
 simp only [obn]
 rw [e1]
 simp only [obn]
 rw [eu]
 simp only [obn]
 rw [ev]
 simp only [obn]
 rw [e3]
 simp only [obn]
 rw [ew]
 simp only [obn]
 rw [e5]
 simp only [obn]
 rw [same07_eq h5.ok.ok]
 simp only [obn]
 rw [e3]
 simp only [obn]
 rw [ez]
 simp only [obn]
 rw [e6]
 simp only [obn]
 rw [same07_eq h6.ok.ok]
 simp only [obn]
 rw [(sInt (n:=0) (K:=0) (by omega) (by decide) p).1,intI_zero]
 simp only [obn]
 rw [f1]
 simp only [obn]
 rw [s1]
 simp only [obn]
 rw [if_pos True.intro,(sInt (n:=0) (K:=0) (by omega) (by decide) p).1,intI_zero]
 simp only [obn]
 rw [f2]
 simp only [obn]
 rw [s2]
 simp only [obn]
 unfold l07_SmallOdd_j1 l07_SmallOdd_j2
 simp only
 rw [c1]
 simp only [obn]
 rw [(sInt (n:=1) (K:=0) (by omega) (by decide) p).1]
 simp only [obn]
 rw [c2]
 simp only [obn]
 rw [c3]
 simp only [obn]
 rw [c4]
 simp only [obn]
 rw [c5]
 simp only [obn]
 rw [c6]
 simp only [obn]
 rw [ec]
 simp only [obn]
 rw [if_pos True.intro,if_pos (by simp),if_pos (by simp),if_pos True.intro]
 rfl
end Go.Proofs.YtpmpcohbpankaaaGreat.Gen
