/- Plain theory of the numbers that the statement speaks of: printed from the proofs' own texts, as far as this statement needs it. -/
import Derived.Test.YtpcdcpjjekkemaaGreatBessSumPl1
set_option linter.unusedVariables false
set_option linter.unusedSimpArgs false
namespace Go.An
noncomputable def C (x:R):R:=ps cco x
theorem ps_rf {a:Nat→R} (h:∀ n,ab (a n)≤rf n) (x:R):Conv (psum a x) (ps a x):=by
 obtain ⟨K,hK⟩:=PB.of h (r:=ab x+1) (by have:=ab_nonneg x; have:=rzero_lt_one; grind)
 exact ps_conv hK (by have:=rzero_lt_one; grind)
theorem Dv.bnd {f g:R→R} {a b:R} (h:Dv f g a b):∃ M,0≤M∧∀ x,In a b x→ab (f x)≤M:=by
 obtain ⟨C,hC,hb,_⟩:=h
 exact ⟨C,hC,fun x hx=>(hb x hx).1⟩
theorem Dv.compE {f g f' g':R→R} {a b:R} (h:Dv f g a b) (k:∀ s,0≤s→Dv f' g' (-s) s):Dv (fun x=>f' (f x)) (fun x=>g' (f x)*g x) a b:=by
 obtain ⟨M,hM,hb⟩:=h.bnd
 exact h.comp (k M hM) fun x hx=>ab_le.1 (hb x hx)
noncomputable def atc (n:Nat):R:=sS n*((n:Nat):R)⁻¹
noncomputable def A (x:R):R:=ps atc x
noncomputable def Q (x:R):R:=ps sC x
def eo:Nat→R × R
 | 0=>(0,1)
 | n+1=>((eo n).2,(eo n).1)
def od (n:Nat):R:=(eo n).1
noncomputable def ahc (n:Nat):R:=od n*((n:Nat):R)⁻¹
noncomputable def H (x:R):R:=ps ahc x
noncomputable def Ln (y:R):R:=H ((y-1)*(y+1)⁻¹)+H ((y-1)*(y+1)⁻¹)
noncomputable def hp:R:=8*A (ofQ (1 / 5))-2*A (ofQ (1 / 239))
theorem rline_le {l h x y q:R} (h1:l≤x) (h2:x≤h) (h3:q≤l*y) (h4:q≤h*y):q≤x*y:=by
 rcases rle_total 0 y with hy | hy
 ·have:=rmul_le h1 hy; grind
 ·have:=rmul_le h2 (show 0 ≤ -y by grind); grind
theorem rline_ge {l h x y q:R} (h1:l≤x) (h2:x≤h) (h3:l*y≤q) (h4:h*y≤q):x*y≤q:=by
 rcases rle_total 0 y with hy | hy
 ·have:=rmul_le h2 hy; grind
 ·have:=rmul_le h1 (show 0 ≤ -y by grind); grind
theorem prod_in {a b c d x y u v:R} (hx:In a b x) (hy:In c d y) (h1:In u v (a*c)) (h2:In u v (a*d)) (h3:In u v (b*c)) (h4:In u v (b*d)):In u v (x*y):=by
 have c':∀ s t:R,s*t=t*s:=rmul_comm
 have l1:u≤a*y:=by rw [c']; exact rline_le hy.1 hy.2 (by rw [c']; exact h1.1) (by rw [c']; exact h2.1)
 have l2:u≤b*y:=by rw [c']; exact rline_le hy.1 hy.2 (by rw [c']; exact h3.1) (by rw [c']; exact h4.1)
 have l3:a*y≤v:=by rw [c']; exact rline_ge hy.1 hy.2 (by rw [c']; exact h1.2) (by rw [c']; exact h2.2)
 have l4:b*y≤v:=by rw [c']; exact rline_ge hy.1 hy.2 (by rw [c']; exact h3.2) (by rw [c']; exact h4.2)
 exact ⟨rline_le hx.1 hx.2 l1 l2,rline_ge hx.1 hx.2 l3 l4⟩
theorem le_of_sq {x y:R} (hy:0≤y) (h:x*x≤y*y):x≤y:=by
 rcases rle_total x y with k | k
 ·exact k
 ·have h1:=rmul_mono k k hy (by grind)
  have h2:(x-y)*(x+y)=0:=by grind
  rcases Classical.em (x+y=0) with q | q
  ·grind
  ·have:=mul_inv q
   have h3:(x-y)*((x+y)*(x+y)⁻¹)=0:=by grind
   rw [this] at h3; grind
theorem cast_mul (m n:Nat):((m*n:Nat):R)=(m:R)*(n:R):=by rw [← ofQ_nat,Rat.natCast_mul,ofQ_mul]; rfl
theorem cast_add (m n:Nat):((m+n:Nat):R)=(m:R)+(n:R):=by rw [← ofQ_nat,Rat.natCast_add,ofQ_add]; rfl
theorem exp_step (x:R) (i:Nat):rf (i+1)*x ^ (i+1)*((i+1:Nat):R)=rf i*x ^ i*x:=by
 rw [← rf_succ i,rpow_succ]; grind
noncomputable def hf:R:=ofQ (1 / 2)
theorem hf_two:hf+hf=1:=ofQ_half 1
theorem hf_pos:0<hf:=ofQ_pos (by decide +kernel)
theorem hf_geo:Geo hf 2:=⟨by have:=hf_pos; grind,by have:=hf_pos; have:=hf_two; grind,by have:=hf_two; grind⟩
theorem hf_le {m n:Nat} (h:m≤n):hf ^ n≤hf ^ m:=by
 induction n with
 | zero=>rw [show m=0 by omega]; exact rle_refl _
 | succ n ih=>
  rcases Nat.lt_or_ge n m with k | k
  ·rw [show m=n+1 by omega]; exact rle_refl _
  ·have h1:=ih k
   have h2:=rmul_le' (show hf≤1 by have:=hf_pos; have:=hf_two; grind) (pow_nonneg (show 0≤hf by have:=hf_pos; grind) n)
   rw [rpow_succ]; grind
theorem pow_add' (x:R) (m n:Nat):x ^ (m+n)=x ^ m*x ^ n:=by
 induction n with
 | zero=>rw [Nat.add_zero,rpow_zero]; grind
 | succ n ih=>rw [← Nat.add_assoc,rpow_succ,rpow_succ,ih]; grind
end Go.An
namespace Go.Proofs.YtpcdcpjjekkemaaGreat.Gen
open Go Go.Abs Go.Plain Go.An
structure Mem (a:I) (x:R):Prop where
 lo:ofQ (val a.lo)≤x
 hi:x≤ofQ (val a.hi)
structure Has (r:I × Int) (x:R) (L H:Int):Prop where
 e:r.2=0
 ok:OkI r.1 L H
 m:Mem r.1 x
theorem Has.mono {r:I × Int} {x:R} {L H L' H':Int} (h:Has r x L H) (h1:L'≤L) (h2:H≤H'):Has r x L' H':=⟨h.e,h.ok.mono h1 h2,h.m⟩
theorem Has.eq {r:I × Int} {x y:R} {L H:Int} (h:Has r x L H) (e:x=y):Has r y L H:=e ▸ h
theorem has_of {r:I × Int} {c:I} {x:R} {L H:Int} (e:r=(c,0)) (o:OkI c L H) (m:Mem c x):Has r x L H:=by subst e; exact ⟨rfl,o,m⟩
theorem Has.pair {r:I × Int} {x:R} {L H:Int} (h:Has r x L H):Has (r.1,0) x L H:=⟨rfl,h.ok,h.m⟩
theorem enc_mem {p:Nat} {c:I} {u v:Rat} (h:Enc p c u v) {x:R} (h1:ofQ u≤x) (h2:x≤ofQ v):Mem c x:=
 ⟨rle_trans (ofQ_le.2 h.lo) h1,rle_trans h2 (ofQ_le.2 h.hi)⟩
theorem has_point {x:D} {L H:Int} (h:Okd x L H):Has (⟨x,x⟩,0) (ofQ (val x)) L H:=⟨rfl,⟨h,h,Rat.le_refl⟩,⟨rle_refl _,rle_refl _⟩⟩
theorem val_from (n:Int):val (fromD n)=(n:Rat):=by unfold fromD; rw [val_nrm,p2_zero,Rat.mul_one]
theorem Okd_from {n:Int} {K:Nat} (hK:K≤60) (hn:n.natAbs≤2 ^ K):Okd (fromD n) 0 (K:Int):=by
 have h60:2 ^ K≤2 ^ 60:=Nat.pow_le_pow_right (by decide) hK
 have h60':(2:Nat) ^ 60=1152921504606846976:=by decide
 refine ⟨WD_from (by omega),⟨n,by rw [val_from,p2_zero,Rat.mul_one]⟩,?_⟩
 rw [val_from]
 unfold B
 rw [p2_nat]
 have e1 : -((2 ^ K:Nat):Rat)=((-((2 ^ K:Nat):Int):Int):Rat):=by push_cast; rfl
 have e2:((2 ^ K:Nat):Rat)=(((2 ^ K:Nat):Int):Rat):=by push_cast; rfl
 rw [e1]
 exact ⟨intCast_le (by omega),by rw [e2]; exact intCast_le (by omega)⟩
theorem has_int {n:Int} {K:Nat} (hK:K≤60) (hn:n.natAbs≤2 ^ K):Has (iS n 0) (n:R) 0 (K:Int):=
 (has_point (Okd_from hK hn)).eq (by rw [val_from]; rfl)
theorem has_neg {r:I × Int} {x:R} {L H:Int} (h:Has r x L H):Has (nS r.1 0) (-x) L H:=by
 refine has_of (c:=negI r.1) rfl h.ok.neg ⟨?_,?_⟩
 ·show ofQ (val (negD r.1.hi)) ≤ -x
  rw [val_neg,ofQ_neg]; have:=h.m.hi; grind
 ·show -x≤ofQ (val (negD r.1.lo))
  rw [val_neg,ofQ_neg]; have:=h.m.lo; grind
theorem has_add {r s:I × Int} {x y:R} {L H:Int} (ha:Has r x L H) (hb:Has s y L H) {p:Nat} (hp:1≤p) (hL : -60000≤L) (hH:H+1≤60000):Has (aS p r.1 s.1 0) (x+y) L (H+1):=by
 obtain ⟨c,e,o,en⟩:=addI_ok ha.ok hb.ok hp hL hH
 refine has_of (c:=c) e o (enc_mem en ?_ ?_)
 ·rw [ofQ_add]; have:=ha.m.lo; have:=hb.m.lo; grind
 ·rw [ofQ_add]; have:=ha.m.hi; have:=hb.m.hi; grind
theorem has_mul {r s:I × Int} {x y:R} {L H M K:Int} (ha:Has r x L H) (hb:Has s y M K) {p:Nat} (hp:1≤p) (hL : -60000≤L+M) (hH:H+K≤60000):Has (mS p r.1 s.1 0) (x*y) (L+M) (H+K):=by
 obtain ⟨c,u,v,e,o,en,pr⟩:=mulI_ok ha.ok hb.ok hp hL hH
 have k:∀ {q:Rat},u≤q∧q≤v→In (ofQ u) (ofQ v) (ofQ q):=fun h=>⟨ofQ_le.2 h.1,ofQ_le.2 h.2⟩
 have h:=prod_in (u:=ofQ u) (v:=ofQ v) ⟨ha.m.lo,ha.m.hi⟩ ⟨hb.m.lo,hb.m.hi⟩ (by rw [← ofQ_mul]; exact k pr.h1) (by rw [← ofQ_mul]; exact k pr.h2) (by rw [← ofQ_mul]; exact k pr.h3) (by rw [← ofQ_mul]; exact k pr.h4)
 exact has_of (c:=c) e o (enc_mem en h.1 h.2)
theorem has_scale {r:I × Int} {x:R} {L H n:Int} (ha:Has r x L H) (hL : -60000≤L+n) (hH:H+n≤60000):Has (scS r.1 n 0) (x*ofQ (p2 n)) (L+n) (H+n):=by
 obtain ⟨c,e,o,e1,e2⟩:=scaleI_ok ha.ok hL hH
 have hp:=ofQ_pos (p2_pos n)
 refine has_of (c:=c) e o ⟨?_,?_⟩
 ·rw [e1,ofQ_mul]; exact rmul_le ha.m.lo (by grind)
 ·rw [e2,ofQ_mul]; exact rmul_le ha.m.hi (by grind)
theorem has_wide {r:I × Int} {x y:R} {L H:Int} (ha:Has r x L H) {d:D} (hd:Okd d L H) (hxy:ab (y-x)≤ofQ (val d)) {p:Nat} (hp:1≤p) (hL : -60000≤L) (hH:H+1≤60000):Has (wS p r.1 d 0) y L (H+1):=by
 have h0:0≤val d:=by
  have:=ab_nonneg (y-x)
  exact ofQ_le.1 (rle_trans this hxy)
 obtain ⟨c,e,o,en⟩:=wideI_ok ha.ok hd h0 hp hL hH
 have h1:=ab_le.1 hxy
 refine has_of (c:=c) e o (enc_mem en ?_ ?_)
 ·rw [ofQ_sub]; have:=ha.m.lo; grind
 ·rw [ofQ_add]; have:=ha.m.hi; grind
theorem has_out {r:I × Int} {x:R} {L H:Int} (ha:Has r x L H) {p:Nat} (hp:1≤p) (hL : -60000≤L) (hH:H≤60000):Has (outI p r.1) x L H:=by
 obtain ⟨c,e,o,en⟩:=outI_ok ha.ok hp hL hH
 exact has_of (c:=c) e o (enc_mem en ha.m.lo ha.m.hi)
theorem rinv_anti {l y:R} (h:0<l*y) (hle:l≤y):y⁻¹≤l⁻¹:=by
 have hl:l≠0:=by rintro rfl; grind
 have hy:y≠0:=by rintro rfl; grind
 have h1:=mul_inv hl
 have h2:=mul_inv hy
 refine cancel h ?_
 have e1:y⁻¹*(l*y)=l:=by grind
 have e2:l⁻¹*(l*y)=y:=by grind
 rw [e1,e2]; exact hle
theorem rmul_sign {a b:R} (h:(0<a∧0<b)∨(a<0∧b<0)):0<a*b:=by
 rcases h with h | h
 ·exact rmul_pos h.1 h.2
 ·have:=rmul_pos (show 0 < -a by grind) (show 0 < -b by grind); grind
theorem has_div {r s:I × Int} {x y z:R} {L H M K:Int} (ha:Has r x L H) (hb:Has s y M K) (hz:hasI s.1 zD=false) (hxy:z*y=x) {p:Nat} (hp:1≤p) (hL : -60000≤L-K-p-2) (hH:H-M+2≤60000):Has (dS p r.1 s.1 0) z (L-K-p-2) (H-M+2):=by
 obtain ⟨c,e,o,en⟩:=divI_ok ha.ok hb.ok hz hp hL hH
 refine has_of (c:=c) e o ?_
 have hs:=has_zero hz
 have hle:=hb.ok.le
 have hsR:(0<ofQ (val s.1.lo))∨(ofQ (val s.1.hi)<0):=by
  rcases hs with h | h
  ·left; exact ofQ_lt.2 h
  ·right; exact ofQ_lt.2 h
 have m1:=hb.m.lo
 have m2:=hb.m.hi
 have nl:ofQ (val s.1.lo)≠0:=by intro k; rcases hsR with h | h<;>grind
 have nh:ofQ (val s.1.hi)≠0:=by intro k; rcases hsR with h | h<;>grind
 have ny:y≠0:=by intro k; rcases hsR with h | h<;>grind
 have hle':=ha.ok.le
 have nlq:val s.1.lo≠0:=by rintro k; rw [k] at nl; exact nl rfl
 have nhq:val s.1.hi≠0:=by rintro k; rw [k] at nh; exact nh rfl
 have i1:y⁻¹≤(ofQ (val s.1.lo))⁻¹:=rinv_anti (rmul_sign (by rcases hsR with h | h<;>grind)) m1
 have i2:(ofQ (val s.1.hi))⁻¹≤y⁻¹:=rinv_anti (rmul_sign (by rcases hsR with h | h<;>grind)) m2
 have k:∀ {a b:Rat},b≠0→(val c.lo≤a / b∧a / b≤val c.hi)→In (ofQ (val c.lo)) (ofQ (val c.hi)) (ofQ a*(ofQ b)⁻¹):=fun {a b} hb h=>by
  rw [← ofQ_inv hb,← ofQ_mul,← Rat.div_def]; exact ⟨ofQ_le.2 h.1,ofQ_le.2 h.2⟩
 have q1:=k nhq (en _ _ Rat.le_refl hle' hle Rat.le_refl)
 have q2:=k nlq (en _ _ Rat.le_refl hle' Rat.le_refl hle)
 have q3:=k nhq (en _ _ hle' Rat.le_refl hle Rat.le_refl)
 have q4:=k nlq (en _ _ hle' Rat.le_refl Rat.le_refl hle)
 have h:=prod_in ⟨ha.m.lo,ha.m.hi⟩ ⟨i2,i1⟩ q1 q2 q3 q4
 have e1:x*y⁻¹=z:=by have:=mul_inv ny; rw [← hxy]; grind
 rw [e1] at h
 exact ⟨h.1,h.2⟩
theorem Mem.le {a b:I} {x:R} (ha:Mem a x) (hb:Mem b x):val a.lo≤val b.hi:=ofQ_le.1 (rle_trans ha.lo hb.hi)
theorem has_mem {a:I} {x:D} (h:Mem a (ofQ (val x))):hasI a x=true:=by
 rw [hasI_iff]; exact ⟨ofQ_le.1 h.lo,ofQ_le.1 h.hi⟩
theorem p2_neg_nat (n:Nat):ofQ (p2 (-(n:Int)))=hf ^ n:=by
 induction n with
 | zero=>show ofQ (p2 0)=1; rw [p2_zero]; rfl
 | succ n ih=>
  rw [show -((n+1:Nat):Int) = -(n:Int) + -1 by omega,p2_add,ofQ_mul,ih,p2_half]; rfl
theorem Okd_half {k L H:Int} (h1:L≤k) (h2:k≤H) (h3 : -60000≤k∧k≤60000):Okd ⟨1,k⟩ L H:=by
 refine ⟨WD_half h3,by rw [val_half]; exact G.mono ⟨1,by simp⟩ h1,?_⟩
 rw [val_half]
 have:=p2_le h2
 have:=p2_pos k
 have:=p2_pos H
 exact ⟨by grind,by grind⟩
theorem nz_int {n:Nat} (h:0<n):hasI (iS (n:Int) 0).1 zD=false:=by
 show hasI (intI (n:Int)) zD=false
 cases hq:hasI (intI (n:Int)) zD with
 | false=>rfl
 | true=>
  have:=((hasI_iff _ _).1 hq).1
  rw [val_z] at this
  have e:val (intI (n:Int)).lo=((n:Int):Rat):=val_from _
  rw [e] at this
  have h0:(0:Rat)<((n:Int):Rat):=by exact_mod_cast h
  grind
theorem has_nat {n K:Nat} (hK:K≤60) (hn:n≤2 ^ K):Has (iS (n:Int) 0) (n:R) 0 (K:Int):=has_int hK (by simp; omega)
theorem has_div_n {r:I × Int} {x z:R} {L H:Int} (ha:Has r x L H) {n K:Nat} (hK:K≤60) (h0:0<n) (hn:n≤2 ^ K) (hz:z*(n:R)=x) {p:Nat} (hp:1≤p) (hL : -60000≤L-K-p-2) (hH:H+2≤60000):Has (dS p r.1 (iS (n:Int) 0).1 0) z (L-K-p-2) (H+2):=
 (has_div (p:=p) ha (has_nat hK hn) (nz_int h0) hz hp hL (by omega)).mono (by omega) (by omega)
theorem make_val {m e:Int} {k:Nat} (hm:blen m.natAbs≤k) (he : -60000≤e∧e+k≤60000):∃ d,makeD m e=(d,true)∧Okd d e (e+k)∧val d=(m:Rat)*p2 e:=by
 have hv:=val_nrm m e
 have hg:G e (val (nrm m e)):=by rw [hv]; exact G.of (Int.le_refl _)
 have hb:B (e+k) (val (nrm m e)):=by
  rw [hv]
  have h1:=blen_lt m.natAbs
  have h2:m.natAbs≤2 ^ k:=by
   have:2 ^ blen m.natAbs≤2 ^ k:=Nat.pow_le_pow_right (by decide) hm
   omega
  have h3:=rep_bound h2 e
  have hp:=p2_pos e
  have h5:(m:Rat)≤(m.natAbs:Rat)∧-(m.natAbs:Rat)≤(m:Rat):=by
   have e1:=intCast_le (show m≤(m.natAbs:Int) by omega)
   have e2:=intCast_le (show -(m.natAbs:Int)≤m by omega)
   rw [Rat.intCast_natCast] at e1
   rw [Rat.intCast_neg,Rat.intCast_natCast] at e2
   exact ⟨e1,e2⟩
  have h6:=Rat.mul_le_mul_of_nonneg_right h5.1 (Rat.le_of_lt hp)
  have h7:=Rat.mul_le_mul_of_nonneg_right h5.2 (Rat.le_of_lt hp)
  unfold B
  grind
 obtain ⟨-,h2⟩:=told_ok (d:=nrm m e) (nrm_ok _ _) hg hb (by omega) (by omega)
 refine ⟨nrm m e,?_,h2,hv⟩
 unfold makeD
 rw [if_pos (inR_of (nrm_ok _ _) hg hb (by omega) (by omega))]
theorem s_of {f:Option (AI × Int)} {r:I × Int} {x:R} {L H:Int} (e:f=some (iv r.1,r.2)) (h:Has r x L H):∃ c,f=some (iv c,0)∧Has (c,0) x L H:=⟨r.1,by rw [e,h.e],h.pair⟩
theorem sAdd {a b:I} {x y:R} {L H:Int} (ha:Has (a,0) x L H) (hb:Has (b,0) y L H) {p:Nat} (hp:2≤p∧p≤400) (hL : -60000≤L) (hH:H+1≤60000):∃ c,cv_Add (iv a) (iv b) 0 (p:Int)=some (iv c,0)∧Has (c,0) (x+y) L (H+1):=
 s_of (ivAdd_eq ha.ok.ok hb.ok.ok hp 0) (has_add ha hb (by omega) hL hH)
theorem sScale {a:I} {x:R} {L H n:Int} (ha:Has (a,0) x L H) (hn : -100000≤n∧n≤100000) (p:Int) (hL : -60000≤L+n) (hH:H+n≤60000):∃ c,cv_Scale (iv a) n 0 p=some (iv c,0)∧Has (c,0) (x*ofQ (p2 n)) (L+n) (H+n):=
 s_of (ivScale_eq ha.ok.ok hn 0 p) (has_scale ha hL hH)
theorem sHas {a:I} {x:R} {L H:Int} (ha:Has (a,0) x L H) {d:D} (hd:WD d) (e:ofQ (val d)=x):iv_Has (iv a) (dy d)=some true:=by
 have:hasI a d=true:=has_mem (by rw [e]; exact ha.m)
 rw [ivHas_eq ha.ok.ok hd,this]
end Go.Proofs.YtpcdcpjjekkemaaGreat.Gen
namespace Go.An
theorem sizeR {f g:R→R} (h:∀ s,0≤s→Dv f g (-s) s) {x M:R} (hM:∀ z,ab z≤ab x→ab (g z)≤M):ab (f x-f 0)≤M*ab x:=by
 have hs:=ab_nonneg x
 have d:=h _ hs
 have hg:∀ z,In (-ab x) (ab x) z→-M≤g z∧g z≤M:=fun z hz=>ab_le.1 (hM z (ab_le.2 hz))
 rcases rle_total 0 x with k | k
 ·have e:=ab_of k
  have b:=(d.sub_iv (c:=0) (d:=x) (by grind) (by grind)).between k (m:=-M) (M:=M) fun z hz=>hg z ⟨by have:=hz.1; grind,by have:=hz.2; grind⟩
  rw [e]; exact ab_le.2 (by grind)
 ·have e:ab x = -x:=by rw [← ab_neg]; exact ab_of (by grind)
  have b:=(d.sub_iv (c:=x) (d:=0) (by grind) (by grind)).between k (m:=-M) (M:=M) fun z hz=>hg z ⟨by have:=hz.1; grind,by have:=hz.2; grind⟩
  rw [e]; exact ab_le.2 (by grind)
end Go.An
namespace Go.Proofs.YtpcdcpjjekkemaaGreat.Gen
open Go Go.Abs Go.Plain Go.An
theorem nat_lt_of_cast {a b:Nat} (h:(a:Rat)<(b:Rat)):a<b:=by exact_mod_cast h
theorem rmul_lt_iff {a b p:Rat} (hp:0<p):a*p<b*p↔a<b:=by
 have h:=@mul_le_iff b a p hp
 constructor
 ·intro k; have:¬b*p≤a*p:=by grind
  rw [h] at this; grind
 ·intro k; have:¬b≤a:=by grind
  rw [← h] at this; grind
theorem cut_best {m p:Nat} {st:Bool} (hp:1≤p) (hb:p<blen m) {E:Int} {Q:Rat} (h1:(m:Rat)*p2 E≤Q) (h2:st=false→Q≤(m:Rat)*p2 E) (h3:Q<((m+1:Nat):Rat)*p2 E) (h4:st=true→(m:Rat)*p2 E<Q) :
  (∀ q,rep p q→q≤Q→q≤((cutN m st p false:Nat):Rat)*p2 (E+(blen m-p:Nat)))∧(∀ q,rep p q→Q≤q→((cutN m st p true:Nat):Rat)*p2 (E+(blen m-p:Nat))≤q):=by
 have hn:0<blen m-p:=by omega
 have hge:=cutN_ge m st p false hn
 generalize hnd:blen m-p=n at *
 have hM0:m≠0:=by intro h0; rw [h0,blen_zero] at hb; omega
 have hMge:=blen_le hM0
 have hbl:blen m=n+p:=by omega
 rw [hbl] at hMge
 have hp2:0<2 ^ n:=Nat.pow_pos (by decide)
 have hmpos:(0:Rat)<(m:Rat)*p2 E:=Rat.mul_pos (by exact_mod_cast (Nat.pos_of_ne_zero hM0)) (p2_pos E)
 constructor
 ·rintro q ⟨w,f,rfl,hw⟩ hq
  have hwb:=rep_bound hw f
  have hnn:(0:Rat)≤((cutN m st p false:Nat):Rat)*p2 (E+(n:Nat)):=Rat.mul_nonneg (natCast_nonneg _) (Rat.le_of_lt (p2_pos _))
  rcases (show w≤0∨0<w by omega) with k1 | k1
  ·have k2:(w:Rat)≤0:=by exact_mod_cast k1
   have k3:=Rat.mul_nonneg (show (0:Rat) ≤ -(w:Rat) by grind) (Rat.le_of_lt (p2_pos f))
   grind
  ·obtain ⟨v,rfl⟩:∃ v:Nat,w=(v:Int):=⟨w.natAbs,by omega⟩
   rw [Int.natAbs_natCast] at hwb hw
   rw [Rat.intCast_natCast] at hq ⊢
   by_cases hf:E+(n:Nat)≤f
   ·obtain ⟨k,hk⟩:∃ k:Nat,f=E+(n:Nat)+(k:Nat):=⟨(f-(E+(n:Nat))).toNat,by omega⟩
    have hq':(v:Rat)*p2 f<((m+1:Nat):Rat)*p2 E:=by grind
    rw [hk,p2_split _ k,← Rat.mul_assoc,mul_le_iff (p2_pos _),← Rat.natCast_mul]
    rw [hk,p2_split _ k,p2_split _ n,← Rat.mul_assoc,← Rat.mul_assoc,rmul_lt_iff (p2_pos _),← Rat.natCast_mul,← Rat.natCast_mul] at hq'
    have k2:=nat_lt_of_cast hq'
    apply natCast_le
    unfold cutN
    rw [hnd]
    simp only [Bool.and_false,Bool.false_eq_true,if_false,Nat.add_zero]
    rw [Nat.le_div_iff_mul_le (Nat.pow_pos (by decide))]
    omega
   ·have k3:2 ^ (p-1)≤cutN m st p false:=by
     rcases hge with k3 | k3
     ·exact k3
     ·omega
    have k4:=natCast_le k3
    have k5:=Rat.mul_le_mul_of_nonneg_right k4 (Rat.le_of_lt (p2_pos (E+(n:Nat))))
    rw [← p2_split] at k5
    have:=p2_le (show f+(p:Nat)≤E+(n:Nat)+((p-1:Nat):Int) by omega)
    grind
 ·rintro q ⟨w,f,rfl,hw⟩ hq
  have hwb:=rep_bound hw f
  have hw0:0<w:=by
   rcases (show w≤0∨0<w by omega) with k1 | k1
   ·have k2:(w:Rat)≤0:=by exact_mod_cast k1
    have k3:=Rat.mul_nonneg (show (0:Rat) ≤ -(w:Rat) by grind) (Rat.le_of_lt (p2_pos f))
    grind
   ·exact k1
  obtain ⟨v,rfl⟩:∃ v:Nat,w=(v:Int):=⟨w.natAbs,by omega⟩
  rw [Int.natAbs_natCast] at hwb hw
  rw [Rat.intCast_natCast] at hq ⊢
  have k3:=Nat.div_add_mod m (2 ^ n)
  have k4:=Nat.mod_lt m hp2
  by_cases hf:E+(n:Nat)≤f
  ·obtain ⟨k,hk⟩:∃ k:Nat,f=E+(n:Nat)+(k:Nat):=⟨(f-(E+(n:Nat))).toNat,by omega⟩
   have e1:(v:Rat)*p2 f=((v*2 ^ k*2 ^ n:Nat):Rat)*p2 E:=by
    rw [hk,p2_split _ k,p2_split _ n,← Rat.mul_assoc,← Rat.mul_assoc,← Rat.natCast_mul,← Rat.natCast_mul]
   have hc:cutN m st p true≤v*2 ^ k:=by
    have hle:(m:Rat)*p2 E≤((v*2 ^ k*2 ^ n:Nat):Rat)*p2 E:=by grind
    rw [mul_le_iff (p2_pos E)] at hle
    have hle:=nat_le_of_cast hle
    unfold cutN
    rw [hnd]
    simp only [Bool.and_true]
    have far:m<v*2 ^ k*2 ^ n→m / 2 ^ n+1≤v*2 ^ k:=by
     intro hlt
     have h5:m / 2 ^ n*2 ^ n<v*2 ^ k*2 ^ n:=by rw [Nat.mul_comm (m / 2 ^ n)]; omega
     exact Nat.lt_of_mul_lt_mul_right h5
    cases st with
    | true=>
     simp only [Bool.true_or,if_true]
     have hlt:(m:Rat)*p2 E<((v*2 ^ k*2 ^ n:Nat):Rat)*p2 E:=by have:=h4 rfl; grind
     rw [rmul_lt_iff (p2_pos E)] at hlt
     exact far (nat_lt_of_cast hlt)
    | false=>
     by_cases hr:m % 2 ^ n=0
     ·simp only [hr,bne_self_eq_false,Bool.or_false,Bool.false_eq_true,if_false,Nat.add_zero]
      have h6:m / 2 ^ n*2 ^ n≤v*2 ^ k*2 ^ n:=by rw [Nat.mul_comm (m / 2 ^ n)]; omega
      exact Nat.le_of_mul_le_mul_right h6 hp2
     ·have:(m % 2 ^ n != 0)=true:=by simpa using hr
      rw [this,Bool.false_or,if_pos rfl]
      refine far ?_
      rcases Nat.lt_or_ge m (v*2 ^ k*2 ^ n) with h7 | h7
      ·exact h7
      ·exfalso; apply hr
       have:m=v*2 ^ k*2 ^ n:=by omega
       rw [this]; exact Nat.mul_mod_left _ _
   have hc':=Rat.mul_le_mul_of_nonneg_right (natCast_le hc) (Rat.le_of_lt (p2_pos (E+(n:Nat))))
   have e2:((v*2 ^ k:Nat):Rat)*p2 (E+(n:Nat))=(v:Rat)*p2 f:=by rw [hk,p2_split _ k,Rat.natCast_mul]; grind
   grind
  ·have h5:(m:Rat)*p2 E≤p2 (E+((n+p-1:Nat):Int)):=by
    have:=p2_le (show f+(p:Nat)≤E+((n+p-1:Nat):Int) by omega)
    grind
   have h7:p2 (E+((n+p-1:Nat):Int))≤(m:Rat)*p2 E:=by
    rw [p2_split,mul_le_iff (p2_pos E)]; exact natCast_le (by omega)
   have hst:st=false:=by
    cases st with
    | false=>rfl
    | true=>
     exfalso
     have:=h4 rfl
     have:=p2_le (show f+(p:Nat)≤E+((n+p-1:Nat):Int) by omega)
     grind
   rw [p2_split,mul_le_iff (p2_pos _)] at h5
   have h6:=nat_le_of_cast h5
   have hMe:m=2 ^ (n+p-1):=by omega
   have hMd:m=2 ^ n*2 ^ (p-1):=by rw [hMe,← Nat.pow_add]; congr 1; omega
   have hc:cutN m st p true*2 ^ n=m:=by
    unfold cutN
    rw [hnd,hMd,Nat.mul_mod_right,Nat.mul_div_cancel_left _ hp2,hst]
    simp [Nat.mul_comm]
   rw [p2_split,← Rat.mul_assoc,← Rat.natCast_mul,hc]
   grind
theorem val_quo {x y:D} (hy0:y.m≠0) {k:Nat} : val x / val y=sg (decide (x.m<0) != decide (y.m<0)) 1*(((x.m.natAbs*2 ^ k:Nat):Rat) / (y.m.natAbs:Rat)*p2 (x.e-y.e-k)):=by
 have hv0:val y≠0:=fun h=>hy0 ((val_zero_iff y).1 h)
 have hYp:(0:Rat)<(y.m.natAbs:Rat):=by exact_mod_cast (show 0<y.m.natAbs by omega)
 have hvx:((x.m.natAbs*2 ^ k:Nat):Rat)*p2 (x.e-k)=(x.m.natAbs:Rat)*p2 x.e:=by
  rw [Rat.natCast_mul,Rat.mul_assoc,← p2_split]; congr 2; omega
 have hQ:((x.m.natAbs*2 ^ k:Nat):Rat) / (y.m.natAbs:Rat)*p2 (x.e-y.e-k)*((y.m.natAbs:Rat)*p2 y.e)=(x.m.natAbs:Rat)*p2 x.e:=by
  have e1:=mul_of_div (a:=((x.m.natAbs*2 ^ k:Nat):Rat)) (b:=(y.m.natAbs:Rat)) (by grind)
  have e2:p2 (x.e-y.e-k)*p2 y.e=p2 (x.e-k):=by rw [← p2_add]; congr 1; omega
  calc ((x.m.natAbs*2 ^ k:Nat):Rat) / (y.m.natAbs:Rat)*p2 (x.e-y.e-k)*((y.m.natAbs:Rat)*p2 y.e)=(((x.m.natAbs*2 ^ k:Nat):Rat) / (y.m.natAbs:Rat)*(y.m.natAbs:Rat))*(p2 (x.e-y.e-k)*p2 y.e):=by grind
   _=(x.m.natAbs:Rat)*p2 x.e:=by rw [e1,e2,hvx]
 generalize ((x.m.natAbs*2 ^ k:Nat):Rat) / (y.m.natAbs:Rat)*p2 (x.e-y.e-k)=Q at *
 apply div_of_mul hv0
 by_cases h1:x.m<0<;>by_cases h2:y.m<0
 ·rw [val_abs_neg h1,val_abs_neg h2,show (decide (x.m<0) != decide (y.m<0))=false by simp [h1,h2],sg_pos_cast]; grind
 ·rw [val_abs_neg h1,val_abs_pos h2,show (decide (x.m<0) != decide (y.m<0))=true by simp [h1,h2],sg_neg_cast]; grind
 ·rw [val_abs_pos h1,val_abs_neg h2,show (decide (x.m<0) != decide (y.m<0))=true by simp [h1,h2],sg_neg_cast]; grind
 ·rw [val_abs_pos h1,val_abs_pos h2,show (decide (x.m<0) != decide (y.m<0))=false by simp [h1,h2],sg_pos_cast]; grind
theorem div_best {x y:D} (hy0:val y≠0) {p:Nat} (hp:1≤p) (up:Bool) (h:(divD x y p up).2=0):(up=false→∀ q,rep p q→q≤val x / val y→q≤val (divD x y p up).1)∧(up=true→∀ q,rep p q→val x / val y≤q→val (divD x y p up).1≤q)∧rep p (val (divD x y p up).1):=by
 have hym:y.m≠0:=fun h=>hy0 (val_zero_m h)
 unfold divD at *
 rw [if_neg hym] at h ⊢
 by_cases hxm:x.m=0
 ·rw [if_pos hxm]
  have:val x / val y=0:=div_of_mul hy0 (by rw [val_zero_m hxm,Rat.zero_mul])
  rw [this]
  refine ⟨fun _ q _ hq=>by rw [val_z]; exact hq,fun _ q _ hq=>by rw [val_z]; exact hq,⟨0,0,by rw [val_z]; simp,by simp⟩⟩
 rw [if_neg hxm] at h ⊢
 rw [tell_ok' h]
 have hX0:x.m.natAbs≠0:=by omega
 have hY0:y.m.natAbs≠0:=by omega
 have hbv:=blen_shl hX0 (p+2+blen y.m.natAbs-blen x.m.natAbs)
 have hq:=val_quo (x:=x) hym (k:=p+2+blen y.m.natAbs-blen x.m.natAbs)
 have hbX:p+2+blen y.m.natAbs≤blen (x.m.natAbs*2 ^ (p+2+blen y.m.natAbs-blen x.m.natAbs)):=by omega
 generalize p+2+blen y.m.natAbs-blen x.m.natAbs=k at *
 generalize x.e-y.e-(k:Int)=E at *
 generalize x.m.natAbs*2 ^ k=v at *
 generalize y.m.natAbs=Y at *
 have hpE:=p2_pos E
 have hYp:(0:Rat)<(Y:Rat):=by exact_mod_cast Nat.pos_of_ne_zero hY0
 have hdm:=Nat.div_add_mod v Y
 have hml:=Nat.mod_lt v (Nat.pos_of_ne_zero hY0)
 have hvq:(v:Rat) / (Y:Rat)*(Y:Rat)=(v:Rat):=mul_of_div (by grind)
 have hbm:p<blen (v / Y):=by
  have h1:2 ^ (p+1)≤v / Y:=by
   rw [Nat.le_div_iff_mul_le (by omega)]
   have h2:=blen_lt Y
   have hv0:v≠0:=by intro h0; rw [h0,blen_zero] at hbX; omega
   have h3:=blen_le hv0
   have h4:2 ^ (p+1)*Y≤2 ^ (p+1)*2 ^ blen Y:=Nat.mul_le_mul_left _ (by omega)
   rw [← Nat.pow_add] at h4
   have h5:2 ^ (p+1+blen Y)≤2 ^ (blen v-1):=Nat.pow_le_pow_right (by decide) (by omega)
   omega
  have h2:=blen_lt (v / Y)
  have h3:2 ^ (p+1)<2 ^ blen (v / Y):=by omega
  have:=(Nat.pow_lt_pow_iff_right (a:=2) (by decide)).1 h3
  omega
 have hcast:(v:Rat)=(Y:Rat)*((v / Y:Nat):Rat)+((v % Y:Nat):Rat):=by
  rw [← Rat.natCast_mul,← Rat.natCast_add,hdm]
 have hz:(0:Rat)≤((v % Y:Nat):Rat):=natCast_nonneg _
 have hQ1:((v / Y:Nat):Rat)≤(v:Rat) / (Y:Rat):=by
  rw [← mul_le_iff hYp,hvq]; grind
 have hQ3:(v:Rat) / (Y:Rat)<((v / Y+1:Nat):Rat):=by
  rw [← rmul_lt_iff hYp,hvq,Rat.natCast_add]
  have:((v % Y:Nat):Rat)<(Y:Rat):=natCast_lt hml
  have e:((1:Nat):Rat)=1:=rfl
  rw [e]; grind
 have hQ2:(v % Y != 0)=false→(v:Rat) / (Y:Rat)≤((v / Y:Nat):Rat):=by
  intro h0
  have h0:v % Y=0:=by simpa using h0
  rw [← mul_le_iff hYp,hvq,hcast,h0]
  have e:((0:Nat):Rat)=0:=rfl
  rw [e]; grind
 have hQ4:(v % Y != 0)=true→((v / Y:Nat):Rat)<(v:Rat) / (Y:Rat):=by
  intro h0
  have h0:v % Y≠0:=by simpa using h0
  have h1:(0:Rat)<((v % Y:Nat):Rat):=by exact_mod_cast Nat.pos_of_ne_zero h0
  rw [← rmul_lt_iff hYp,hvq,hcast]
  have:v / Y=(Y*(v / Y)+v % Y) / Y:=by rw [hdm]
  grind
 have hb:=cut_best (m:=v / Y) (st:=v % Y != 0) (E:=E) (Q:=(v:Rat) / (Y:Rat)*p2 E) hp hbm (by rw [mul_le_iff hpE]; exact hQ1) (fun h0=>by rw [mul_le_iff hpE]; exact hQ2 h0) (by rw [rmul_lt_iff hpE]; exact hQ3) (fun h0=>by rw [rmul_lt_iff hpE]; exact hQ4 h0)
 have hrep:∀ neg s,rep p (val (cutD neg (v / Y) E (v % Y != 0) p s)):=fun neg s=>⟨sg neg (cutN (v / Y) (v % Y != 0) p s),E+(blen (v / Y)-p:Nat),val_cut _ _ _ _ _ _,by rw [sg_abs']; exact cutN_le _ _ _ _⟩
 rw [hq,val_cut]
 refine ⟨?_,?_,by rw [← val_cut]; exact hrep _ _⟩
 ·rintro rfl q hq1 hq2
  cases hs:(decide (x.m<0) != decide (y.m<0)) with
  | true=>
   rw [hs,sg_neg_cast] at hq2
   rw [sg_neg_cast,show (false != true)=true from rfl]
   have:=hb.2 (-q) (rep_neg hq1) (by have e:((1:Nat):Rat)=1:=rfl; rw [e] at hq2; grind)
   grind
  | false=>
   rw [hs,sg_pos_cast] at hq2
   rw [sg_pos_cast,show (false != false)=false from rfl]
   exact hb.1 q hq1 (by have e:((1:Nat):Rat)=1:=rfl; rw [e] at hq2; grind)
 ·rintro rfl q hq1 hq2
  cases hs:(decide (x.m<0) != decide (y.m<0)) with
  | true=>
   rw [hs,sg_neg_cast] at hq2
   rw [sg_neg_cast,show (true != true)=false from rfl]
   have:=hb.1 (-q) (rep_neg hq1) (by have e:((1:Nat):Rat)=1:=rfl; rw [e] at hq2; grind)
   grind
  | false=>
   rw [hs,sg_pos_cast] at hq2
   rw [sg_pos_cast,show (true != false)=true from rfl]
   exact hb.2 q hq1 (by have e:((1:Nat):Rat)=1:=rfl; rw [e] at hq2; grind)
theorem enc_uniq {p:Nat} {c d:I} {u v:Rat} (h:Enc p c u v) (k:Enc p d u v):val c.lo=val d.lo∧val c.hi=val d.hi:=by
 have h1:=k.blo _ h.rlo h.lo
 have h2:=h.blo _ k.rlo k.lo
 have h3:=k.bhi _ h.rhi h.hi
 have h4:=h.bhi _ k.rhi k.hi
 constructor<;>grind
theorem neg_vals (c:I):val (negI c).lo = -val c.hi∧val (negI c).hi = -val c.lo:=⟨val_neg _,val_neg _⟩
theorem enc_neg {p:Nat} {c:I} {u v:Rat} (h:Enc p c u v):Enc p (negI c) (-v) (-u):=by
 have n:=neg_vals c
 have h1:=h.lo
 have h2:=h.hi
 refine ⟨by rw [n.1]; grind,by rw [n.2]; grind,fun q r k=>?_,fun q r k=>?_,by rw [n.1]; exact rep_neg h.rhi,by rw [n.2]; exact rep_neg h.rlo⟩
 ·rw [n.1]; have:=h.bhi (-q) (rep_neg r) (by grind); grind
 ·rw [n.2]; have:=h.blo (-q) (rep_neg r) (by grind); grind
theorem enc_same {p:Nat} {c d:I} {u v u' v':Rat} (h:Enc p c u v) (k:Enc p d u' v') (e1:u=u') (e2:v=v') (hc:okI c) (hd:okI d):c=d:=by
 subst e1; subst e2
 have:=enc_uniq h k
 exact I_ext hc hd this.1 this.2
theorem prod_uniq {a b:I} {u v u' v':Rat} (h:Prod a b u v) (k:Prod a b u' v'):u=u'∧v=v':=by
 have:=h.h1; have:=h.h2; have:=h.h3; have:=h.h4
 have:=k.h1; have:=k.h2; have:=k.h3; have:=k.h4
 have m1:=h.mu
 have m2:=k.mu
 have m3:=h.mv
 have m4:=k.mv
 constructor
 ·rcases m1 with m1 | m1 | m1 | m1<;>rcases m2 with m2 | m2 | m2 | m2<;>grind
 ·rcases m3 with m1 | m1 | m1 | m1<;>rcases m4 with m2 | m2 | m2 | m2<;>grind
theorem prod_neg {a b:I} {u v:Rat} (h:Prod a b u v):Prod (negI a) b (-v) (-u):=by
 have n:=neg_vals a
 have h1:=h.h1; have h2:=h.h2; have h3:=h.h3; have h4:=h.h4
 have mu:=h.mu
 have mv:=h.mv
 constructor<;>simp only [n.1,n.2]<;>grind
theorem prod_neg2 {a b:I} {u v:Rat} (h:Prod a b u v):Prod (negI a) (negI b) u v:=by
 have n:=neg_vals a
 have m:=neg_vals b
 have h1:=h.h1; have h2:=h.h2; have h3:=h.h3; have h4:=h.h4
 have mu:=h.mu
 have mv:=h.mv
 constructor<;>simp only [n.1,n.2,m.1,m.2]<;>grind
theorem mul_neg {a b:I} {L H M K:Int} (ha:OkI a L H) (hb:OkI b M K) {p:Nat} (hp:1≤p) (hL : -60000≤L+M) (hH:H+K≤60000):∃ c,mulI p a b=(c,0)∧mulI p (negI a) b=(negI c,0):=by
 obtain ⟨c,u,v,e,o,en,pr⟩:=mulI_ok ha hb hp hL hH
 obtain ⟨d,u',v',e',o',en',pr'⟩:=mulI_ok ha.neg hb hp hL hH
 have q:=prod_uniq (prod_neg pr) pr'
 exact ⟨c,e,by rw [e',enc_same (enc_neg en) en' q.1 q.2 o.neg.ok o'.ok]⟩
theorem mul_neg2 {a b:I} {L H M K:Int} (ha:OkI a L H) (hb:OkI b M K) {p:Nat} (hp:1≤p) (hL : -60000≤L+M) (hH:H+K≤60000):mulI p (negI a) (negI b)=mulI p a b:=by
 obtain ⟨c,u,v,e,o,en,pr⟩:=mulI_ok ha hb hp hL hH
 obtain ⟨d,u',v',e',o',en',pr'⟩:=mulI_ok ha.neg hb.neg hp hL hH
 have q:=prod_uniq (prod_neg2 pr) pr'
 rw [e,e',enc_same en en' q.1 q.2 o.ok o'.ok]
theorem add_neg {a b:I} {L H:Int} (ha:OkI a L H) (hb:OkI b L H) {p:Nat} (hp:1≤p) (hL : -60000≤L) (hH:H+1≤60000):∃ c,addI p a b=(c,0)∧addI p (negI a) (negI b)=(negI c,0):=by
 obtain ⟨c,e,o,en⟩:=addI_ok ha hb hp hL hH
 obtain ⟨d,e',o',en'⟩:=addI_ok ha.neg hb.neg hp hL hH
 have n:=neg_vals a
 have m:=neg_vals b
 exact ⟨c,e,by rw [e',enc_same (enc_neg en) en' (by rw [n.1,m.1]; grind) (by rw [n.2,m.2]; grind) o.neg.ok o'.ok]⟩
theorem wide_neg {a:I} {L H:Int} (ha:OkI a L H) {d:D} (hd:Okd d L H) (hd0:0≤val d) {p:Nat} (hp:1≤p) (hL : -60000≤L) (hH:H+1≤60000):∃ c,wideI p a d=(c,0)∧wideI p (negI a) d=(negI c,0):=by
 obtain ⟨c,e,o,en⟩:=wideI_ok ha hd hd0 hp hL hH
 obtain ⟨f,e',o',en'⟩:=wideI_ok ha.neg hd hd0 hp hL hH
 have n:=neg_vals a
 exact ⟨c,e,by rw [e',enc_same (enc_neg en) en' (by rw [n.1]; grind) (by rw [n.2]; grind) o.neg.ok o'.ok]⟩
theorem out_neg {a:I} {L H:Int} (ha:OkI a L H) {p:Nat} (hp:1≤p) (hL : -60000≤L) (hH:H≤60000):∃ c,outI p a=(c,0)∧outI p (negI a)=(negI c,0):=by
 obtain ⟨c,e,o,en⟩:=outI_ok ha hp hL hH
 obtain ⟨f,e',o',en'⟩:=outI_ok ha.neg hp hL hH
 have n:=neg_vals a
 exact ⟨c,e,by rw [e',enc_same (enc_neg en) en' (by rw [n.1]) (by rw [n.2]) o.neg.ok o'.ok]⟩
structure Quo (a b:I) (u v:Rat):Prop where
 h1:u≤val a.lo / val b.lo∧val a.lo / val b.lo≤v
 h2:u≤val a.lo / val b.hi∧val a.lo / val b.hi≤v
 h3:u≤val a.hi / val b.lo∧val a.hi / val b.lo≤v
 h4:u≤val a.hi / val b.hi∧val a.hi / val b.hi≤v
 mu:u=val a.lo / val b.lo∨u=val a.lo / val b.hi∨u=val a.hi / val b.lo∨u=val a.hi / val b.hi
 mv:v=val a.lo / val b.lo∨v=val a.lo / val b.hi∨v=val a.hi / val b.lo∨v=val a.hi / val b.hi
theorem quo_uniq {a b:I} {u v u' v':Rat} (h:Quo a b u v) (k:Quo a b u' v'):u=u'∧v=v':=by
 have:=h.h1; have:=h.h2; have:=h.h3; have:=h.h4
 have:=k.h1; have:=k.h2; have:=k.h3; have:=k.h4
 have m1:=h.mu
 have m2:=k.mu
 have m3:=h.mv
 have m4:=k.mv
 constructor
 ·rcases m1 with m1 | m1 | m1 | m1<;>rcases m2 with m2 | m2 | m2 | m2<;>grind
 ·rcases m3 with m1 | m1 | m1 | m1<;>rcases m4 with m2 | m2 | m2 | m2<;>grind
theorem neg_div (x y:Rat) : -x / y = -(x / y):=by rw [Rat.div_def,Rat.div_def,Rat.neg_mul]
theorem quo_neg {a b:I} {u v:Rat} (h:Quo a b u v):Quo (negI a) b (-v) (-u):=by
 have n:=neg_vals a
 have h1:=h.h1; have h2:=h.h2; have h3:=h.h3; have h4:=h.h4
 have mu:=h.mu
 have mv:=h.mv
 constructor<;>simp only [n.1,n.2,neg_div]<;>grind
theorem min_of {a b c d:Rat} : ∃ u,(u≤a∧u≤b∧u≤c∧u≤d)∧(u=a∨u=b∨u=c∨u=d):=by
 have two:∀ x y:Rat,∃ u,(u≤x∧u≤y)∧(u=x∨u=y):=fun x y=>by
  rcases Rat.le_total (a:=x) (b:=y) with h | h
  ·exact ⟨x,⟨Rat.le_refl,h⟩,Or.inl rfl⟩
  ·exact ⟨y,⟨h,Rat.le_refl⟩,Or.inr rfl⟩
 obtain ⟨x,h1,h2⟩:=two a b
 obtain ⟨y,h3,h4⟩:=two c d
 obtain ⟨u,h5,h6⟩:=two x y
 exact ⟨u,⟨by grind,by grind,by grind,by grind⟩,by grind⟩
theorem divI_enc {a b:I} {L H M K:Int} (ha:OkI a L H) (hb:OkI b M K) (hz:hasI b zD=false) {p:Nat} (hp:1≤p) (hL : -60000≤L-K-p-2) (hH:H-M+2≤60000) :
  ∃ c u v,divI p a b=(c,0)∧OkI c (L-K-p-2) (H-M+2)∧Enc p c u v∧Quo a b u v:=by
 obtain ⟨c,ec,oc,hc⟩:=divI_ok ha hb hz hp hL hH
 have hs:=has_zero hz
 have hble:=hb.le
 have hale:=ha.le
 have nl:val b.lo≠0:=by grind
 have nh:val b.hi≠0:=by grind
 obtain ⟨u,hu,mu⟩:=min_of (a:=val a.lo / val b.lo) (b:=val a.lo / val b.hi) (c:=val a.hi / val b.lo) (d:=val a.hi / val b.hi)
 obtain ⟨w,hw,mw⟩:=min_of (a:=-(val a.lo / val b.lo)) (b:=-(val a.lo / val b.hi)) (c:=-(val a.hi / val b.lo)) (d:=-(val a.hi / val b.hi))
 have q:Quo a b u (-w):=⟨⟨hu.1,by grind⟩,⟨hu.2.1,by grind⟩,⟨hu.2.2.1,by grind⟩,⟨hu.2.2.2,by grind⟩,mu,by grind⟩
 refine ⟨c,u,-w,ec,oc,?_,q⟩
 have c1:=hc _ _ Rat.le_refl hale Rat.le_refl hble
 have c2:=hc _ _ Rat.le_refl hale hble Rat.le_refl
 have c3:=hc _ _ hale Rat.le_refl Rat.le_refl hble
 have c4:=hc _ _ hale Rat.le_refl hble Rat.le_refl
 have ec2:=ec
 obtain ⟨q1,e1,-⟩:=div_ok ha.lo hb.lo nl hp false hL hH
 obtain ⟨q2,e2,-⟩:=div_ok ha.lo hb.hi nh hp false hL hH
 obtain ⟨q3,e3,-⟩:=div_ok ha.hi hb.lo nl hp false hL hH
 obtain ⟨q4,e4,-⟩:=div_ok ha.hi hb.hi nh hp false hL hH
 obtain ⟨r1,f1,-⟩:=div_ok ha.lo hb.lo nl hp true hL hH
 obtain ⟨r2,f2,-⟩:=div_ok ha.lo hb.hi nh hp true hL hH
 obtain ⟨r3,f3,-⟩:=div_ok ha.hi hb.lo nl hp true hL hH
 obtain ⟨r4,f4,-⟩:=div_ok ha.hi hb.hi nh hp true hL hH
 have b1:=div_best (x:=a.lo) nl hp false (by rw [e1])
 have b2:=div_best (x:=a.lo) nh hp false (by rw [e2])
 have b3:=div_best (x:=a.hi) nl hp false (by rw [e3])
 have b4:=div_best (x:=a.hi) nh hp false (by rw [e4])
 have g1:=div_best (x:=a.lo) nl hp true (by rw [f1])
 have g2:=div_best (x:=a.lo) nh hp true (by rw [f2])
 have g3:=div_best (x:=a.hi) nl hp true (by rw [f3])
 have g4:=div_best (x:=a.hi) nh hp true (by rw [f4])
 rw [e1] at b1
 rw [e2] at b2
 rw [e3] at b3
 rw [e4] at b4
 rw [f1] at g1
 rw [f2] at g2
 rw [f3] at g3
 rw [f4] at g4
 unfold divI four4 at ec2
 rw [hz,if_neg (by simp)] at ec2
 simp only [e1,e2,e3,e4,f1,f2,f3,f4] at ec2
 have hcv:c=⟨min4 q1 q2 q3 q4,max4 r1 r2 r3 r4⟩:=by
  have:((⟨min4 q1 q2 q3 q4,max4 r1 r2 r3 r4⟩:I),(0:Int))=(c,0):=ec2
  exact (congrArg Prod.fst this).symm
 have m1:=min4_mem q1 q2 q3 q4
 have m2:=max4_mem r1 r2 r3 r4
 have l1:val c.lo=val (min4 q1 q2 q3 q4):=by rw [hcv]
 have l2:val c.hi=val (max4 r1 r2 r3 r4):=by rw [hcv]
 refine ⟨by grind,by grind,fun y hy hyu=>?_,fun y hy hyv=>?_,?_,?_⟩
 ·have k1:=b1.1 rfl y hy (by grind)
  have k2:=b2.1 rfl y hy (by grind)
  have k3:=b3.1 rfl y hy (by grind)
  have k4:=b4.1 rfl y hy (by grind)
  simp only at k1 k2 k3 k4
  rw [l1]; rcases m1 with m | m | m | m<;>rw [m]<;>assumption
 ·have k1:=g1.2.1 rfl y hy (by grind)
  have k2:=g2.2.1 rfl y hy (by grind)
  have k3:=g3.2.1 rfl y hy (by grind)
  have k4:=g4.2.1 rfl y hy (by grind)
  simp only at k1 k2 k3 k4
  rw [l2]; rcases m2 with m | m | m | m<;>rw [m]<;>assumption
 ·rw [l1]; rcases m1 with m | m | m | m<;>rw [m]
  ·exact b1.2.2
  ·exact b2.2.2
  ·exact b3.2.2
  ·exact b4.2.2
 ·rw [l2]; rcases m2 with m | m | m | m<;>rw [m]
  ·exact g1.2.2
  ·exact g2.2.2
  ·exact g3.2.2
  ·exact g4.2.2
theorem div_neg {a b:I} {L H M K:Int} (ha:OkI a L H) (hb:OkI b M K) (hz:hasI b zD=false) {p:Nat} (hp:1≤p) (hL : -60000≤L-K-p-2) (hH:H-M+2≤60000):∃ c,divI p a b=(c,0)∧divI p (negI a) b=(negI c,0):=by
 obtain ⟨c,u,v,e,o,en,pr⟩:=divI_enc ha hb hz hp hL hH
 obtain ⟨d,u',v',e',o',en',pr'⟩:=divI_enc ha.neg hb hz hp hL hH
 have q:=quo_uniq (quo_neg pr) pr'
 exact ⟨c,e,by rw [e',enc_same (enc_neg en) en' q.1 q.2 o.neg.ok o'.ok]⟩
theorem negD_negD {d:D} : negD (negD d)=d:=by unfold negD; simp
theorem negI_negI {a:I} : negI (negI a)=a:=by unfold negI; simp only [negD_negD]
theorem div_n_neg {r:I × Int} {x:R} {L H:Int} (ha:Has r x L H) {n K:Nat} (hK:K≤60) (h0:0<n) (hn:n≤2 ^ K) {p:Nat} (hp:1≤p) (hL : -60000≤L-K-p-2) (hH:H+2≤60000):dS p (negI r.1) (iS (n:Int) 0).1 0=(negI (dS p r.1 (iS (n:Int) 0).1 0).1,0):=by
 obtain ⟨c,e1,e2⟩:=div_neg (p:=p) ha.ok (has_nat hK hn).ok (nz_int h0) hp hL (by omega)
 unfold dS
 rw [st_zero,st_zero,e1,e2]
theorem turn_neg {t q:I × Int} {x y z:R} {L H M K:Int} (ht:Has t x L H) (hq:Has q y M K) {n k:Nat} (hk:k≤60) (h0:0<n) (hn:n≤2 ^ k) {p:Nat} (hp:1≤p) (hL : -60000≤L+M-k-p-2) (hH:H+K+2≤60000):turnS p (negI t.1) q.1 (n:Int) 0=(negI (turnS p t.1 q.1 (n:Int) 0).1,0):=by
 have h1:=has_mul (p:=p) ht hq hp (by omega) (by omega)
 obtain ⟨c,e1,e2⟩:=mul_neg (p:=p) ht.ok hq.ok hp (by omega) (by omega)
 have m1:mS p t.1 q.1 0=(c,0):=by unfold mS; rw [st_zero,e1]
 have m2:mS p (negI t.1) q.1 0=(negI c,0):=by unfold mS; rw [st_zero,e2]
 rw [m1] at h1
 have h2:=div_n_neg h1 hk h0 hn hp (by omega) (by omega)
 unfold turnS
 rw [m1,m2]
 simp only
 rw [show (iS (n:Int) 0).2=0 from rfl,h2]
 have h3:=has_div_n (z:=x*y*((n:R))⁻¹) h1 hk h0 hn (by have:=mul_inv (x:=(n:R)) (by obtain ⟨m,rfl⟩:∃ m,n=m+1:=⟨n-1,by omega⟩; have:=cast_pos m; grind); grind) hp (by omega) (by omega)
 rw [h3.e]
 rfl
theorem floor_near (x:Rat):(x.floor:Rat)≤x∧x<(x.floor:Rat)+1:=⟨Rat.floor_le x,by have:=Rat.lt_floor_add_one x; rw [Rat.intCast_add] at this; exact this⟩
theorem rep_below {p:Nat} {s:Int} {u:Rat} (h:B s u):∃ q,rep p q∧q≤u∧u-p2 (s-p)≤q:=by
 have hp:=p2_pos (s-p)
 have hi:=p2_pos (p-s)
 have e1:p2 (s-p)*p2 (p-s)=1:=by rw [← p2_add,show s-p+(p-s)=0 by omega,p2_zero]
 have e2:p2 s*p2 (p-s)=((2 ^ p:Nat):Rat):=by rw [← p2_add,show s+(p-s)=((p:Nat):Int) by omega,p2_nat]
 obtain ⟨f1,f2⟩:=floor_near (u*p2 (p-s))
 generalize hz:(u*p2 (p-s)).floor=z at f1 f2
 have h1:=Rat.mul_le_mul_of_nonneg_right h.1 (Rat.le_of_lt hi)
 have h2:=Rat.mul_le_mul_of_nonneg_right h.2 (Rat.le_of_lt hi)
 have hzl : -((2 ^ p:Nat):Int)≤z:=by
  rcases Int.lt_or_le z (-((2 ^ p:Nat):Int)) with k | k
  ·have h3:(z:Rat)+1≤((-((2 ^ p:Nat):Int):Int):Rat):=by
    have:=intCast_le (show z+1 ≤ -((2 ^ p:Nat):Int) by omega)
    rwa [Rat.intCast_add] at this
   rw [Rat.intCast_neg,Rat.intCast_natCast] at h3
   grind
  ·exact k
 have hzh:z≤((2 ^ p:Nat):Int):=by
  rcases Int.lt_or_le ((2 ^ p:Nat):Int) z with k | k
  ·have h3:=intCast_lt k
   rw [Rat.intCast_natCast] at h3
   grind
  ·exact k
 refine ⟨(z:Rat)*p2 (s-p),⟨z,s-p,rfl,by omega⟩,?_,?_⟩
 ·have:=Rat.mul_le_mul_of_nonneg_right f1 (Rat.le_of_lt hp)
  have e:u*p2 (p-s)*p2 (s-p)=u:=by grind
  grind
 ·have:=Rat.mul_le_mul_of_nonneg_right (Rat.le_of_lt f2) (Rat.le_of_lt hp)
  have e:u*p2 (p-s)*p2 (s-p)=u:=by grind
  grind
theorem enc_width {p:Nat} {c:I} {u v:Rat} (h:Enc p c u v) {s:Int} (hu:B s u) (hv:B s v):val c.hi-val c.lo≤v-u+2*p2 (s-p):=by
 obtain ⟨q,r1,q1,q2⟩:=rep_below (p:=p) hu
 obtain ⟨t,r2,t1,t2⟩:=rep_below (p:=p) hv.neg
 have h1:=h.blo q r1 q1
 have h2:=h.bhi (-t) (rep_neg r2) (by grind)
 grind
theorem enc_bounds {p:Nat} {c:I} {u v:Rat} (h:Enc p c u v) {s:Int} (hu:B s u) (hv:B s v) (hle:val c.lo≤val c.hi):B s (val c.lo)∧B s (val c.hi):=by
 have h1:=h.blo _ (rep_neg (rep_p2 p s)) hu.1
 have h2:=h.bhi _ (rep_p2 p s) hv.2
 exact ⟨⟨h1,by grind⟩,⟨by grind,h2⟩⟩
structure HasW (r:I × Int) (x:R) (L H:Int) (w:Rat):Prop where
 h:Has r x L H
 w:val r.1.hi-val r.1.lo≤w
theorem HasW.mono {r:I × Int} {x:R} {L H L' H':Int} {w w':Rat} (h:HasW r x L H w) (h1:L'≤L) (h2:H≤H') (h3:w≤w'):HasW r x L' H' w':=⟨h.h.mono h1 h2,by have:=h.w; grind⟩
theorem HasW.eq {r:I × Int} {x y:R} {L H:Int} {w:Rat} (h:HasW r x L H w) (e:x=y):HasW r y L H w:=e ▸ h
theorem HasW.pair {r:I × Int} {x:R} {L H:Int} {w:Rat} (h:HasW r x L H w):HasW (r.1,0) x L H w:=⟨h.h.pair,h.w⟩
theorem hw_point {x:D} {L H:Int} (h:Okd x L H):HasW (⟨x,x⟩,0) (ofQ (val x)) L H 0:=⟨has_point h,by show val x-val x≤0; grind⟩
theorem hw_int {n:Int} {K:Nat} (hK:K≤60) (hn:n.natAbs≤2 ^ K):HasW (iS n 0) (n:R) 0 (K:Int) 0:=⟨has_int hK hn,by show val (fromD n)-val (fromD n)≤0; grind⟩
theorem hw_neg {r:I × Int} {x:R} {L H:Int} {w:Rat} (h:HasW r x L H w):HasW (nS r.1 0) (-x) L H w:=⟨has_neg h.h,by
 have n:=neg_vals r.1
 show val (negI r.1).hi-val (negI r.1).lo≤w
 rw [n.1,n.2]; have:=h.w; grind⟩
theorem HasW.ends {r:I × Int} {x:R} {L H:Int} {w m:Rat} (h:HasW r x L H w) (hx:ab x≤ofQ m) : -(m+w)≤val r.1.lo∧val r.1.lo≤m∧-m≤val r.1.hi∧val r.1.hi≤m+w:=by
 have h1:=h.h.m.lo
 have h2:=h.h.m.hi
 have h3:=ab_le.1 hx
 have h4:val r.1.lo≤m:=ofQ_le.1 (by grind)
 have h5 : -m≤val r.1.hi:=ofQ_le.1 (by rw [ofQ_neg]; grind)
 have:=h.w
 exact ⟨by grind,h4,h5,by grind⟩
theorem hw_add {r s:I × Int} {x y:R} {L H:Int} {w1 w2 m:Rat} {K:Int} (ha:HasW r x L H w1) (hb:HasW s y L H w2) (hm:ab (x+y)≤ofQ m) (hK:m+w1+w2≤p2 K) {p:Nat} (hp:1≤p) (hL : -60000≤L) (hH:H+1≤60000):HasW (aS p r.1 s.1 0) (x+y) L K (w1+w2+2*p2 (K-p)):=by
 obtain ⟨c,e,o,en⟩:=addI_ok ha.h.ok hb.h.ok hp hL hH
 have h:=has_add ha.h hb.h hp hL hH
 have e':aS p r.1 s.1 0=(c,0):=e
 have l1:=ofQ_le.2 (Rat.le_refl (a:=val r.1.lo))
 have h1:=ha.h.m.lo; have h2:=ha.h.m.hi; have h3:=hb.h.m.lo; have h4:=hb.h.m.hi
 have h5:=ab_le.1 hm
 have u1:val r.1.lo+val s.1.lo≤m:=ofQ_le.1 (by rw [ofQ_add]; grind)
 have v1 : -m≤val r.1.hi+val s.1.hi:=ofQ_le.1 (by rw [ofQ_add,ofQ_neg]; grind)
 have k1:=ha.w; have k2:=hb.w; have k3:=ha.h.ok.le; have k4:=hb.h.ok.le
 have bu:B K (val r.1.lo+val s.1.lo):=⟨by grind,by grind⟩
 have bv:B K (val r.1.hi+val s.1.hi):=⟨by grind,by grind⟩
 have b:=enc_bounds en bu bv o.le
 have w:=enc_width en bu bv
 rw [e'] at h ⊢
 exact ⟨⟨rfl,⟨⟨o.lo.w,o.lo.g,b.1⟩,⟨o.hi.w,o.hi.g,b.2⟩,o.le⟩,h.m⟩,by grind⟩
theorem width_prod {a b a' b' A C w1 w2:Rat} (ha : -A≤a∧a≤A) (hb' : -C≤b'∧b'≤C) (h1 : -w1≤a-a'∧a-a'≤w1) (h2 : -w2≤b-b'∧b-b'≤w2):a*b-a'*b'≤A*w2+C*w1:=by
 have k1:=(mul_abs_le ha h2).2
 have k2:=(mul_abs_le hb' h1).2
 have e:a*b-a'*b'=a*(b-b')+b'*(a-a'):=by grind
 grind
theorem hw_mul {r s:I × Int} {x y:R} {L H M K:Int} {w1 w2:Rat} (ha:HasW r x L H w1) (hb:HasW s y M K w2) {p:Nat} (hp:1≤p) (hL : -60000≤L+M) (hH:H+K≤60000):HasW (mS p r.1 s.1 0) (x*y) (L+M) (H+K) (p2 H*w2+p2 K*w1+2*p2 (H+K-p)):=by
 obtain ⟨c,u,v,e,o,en,pr⟩:=mulI_ok ha.h.ok hb.h.ok hp hL hH
 have h:=has_mul ha.h hb.h hp hL hH
 have e':mS p r.1 s.1 0=(c,0):=e
 have k1:=ha.w; have k2:=hb.w; have k3:=ha.h.ok.le; have k4:=hb.h.ok.le
 have a1:=ha.h.ok.lo.b; have a2:=ha.h.ok.hi.b; have b1:=hb.h.ok.lo.b; have b2:=hb.h.ok.hi.b
 have bu:B (H+K) u:=by rcases pr.mu with q | q | q | q<;>rw [q]<;>exact B.mul (by assumption) (by assumption)
 have bv:B (H+K) v:=by rcases pr.mv with q | q | q | q<;>rw [q]<;>exact B.mul (by assumption) (by assumption)
 have hd:v-u≤p2 H*w2+p2 K*w1:=by
  unfold B at a1 a2 b1 b2
  rcases pr.mv with q | q | q | q<;>rcases pr.mu with t | t | t | t<;>rw [q,t]<;>exact width_prod (by assumption) (by assumption) (by constructor<;>grind) (by constructor<;>grind)
 have w:=enc_width en bu bv
 rw [e'] at h ⊢
 exact ⟨h,by grind⟩
theorem div_n_val {n:Nat} (hn:0<n) (x:Rat):x / val (intI (n:Int)).lo*(n:Rat)=x:=by
 have e:val (intI (n:Int)).lo=(n:Rat):=by rw [show (intI (n:Int)).lo=fromD (n:Int) from rfl,val_from]; exact Rat.intCast_natCast n
 rw [e]
 have:(0:Rat)<(n:Rat):=by exact_mod_cast hn
 exact mul_of_div (by grind)
theorem hw_div_n {r:I × Int} {x z:R} {L H:Int} {w:Rat} (ha:HasW r x L H w) {n k:Nat} (hk:k≤60) (h0:0<n) (hn:n≤2 ^ k) {j:Int} (hj:p2 j≤(n:Rat)) (hz:z*(n:R)=x) {p:Nat} (hp:1≤p) (hL : -60000≤L-k-p-2) (hH:H+2≤60000):HasW (dS p r.1 (iS (n:Int) 0).1 0) z (L-k-p-2) (H-j) (w*p2 (-j)+2*p2 (H-j-p)):=by
 obtain ⟨c,u,v,e,o,en,q⟩:=divI_enc (p:=p) ha.h.ok (has_nat hk hn).ok (nz_int h0) hp hL (by omega)
 have h:=has_div_n ha.h hk h0 hn hz hp hL hH
 have e':dS p r.1 (iS (n:Int) 0).1 0=(c,0):=e
 have k1:=ha.w; have k3:=ha.h.ok.le
 have a1:=ha.h.ok.lo.b; have a2:=ha.h.ok.hi.b
 have hnr:(0:Rat)<(n:Rat):=by exact_mod_cast h0
 have hpj:=p2_pos (-j)
 have ej:p2 (-j)*p2 j=1:=by rw [← p2_add,show -j+j=0 by omega,p2_zero]
 have ejn:1≤p2 (-j)*(n:Rat):=by have:=Rat.mul_le_mul_of_nonneg_left hj (Rat.le_of_lt hpj); grind
 have eH:p2 (H-j)=p2 H*p2 (-j):=by rw [← p2_add]; congr 1
 have hi:(iS (n:Int) 0).1=intI (n:Int):=rfl
 have lohi:(intI (n:Int)).hi=(intI (n:Int)).lo:=rfl
 rw [hi] at q
 have d1:=div_n_val h0 (val r.1.lo)
 have d2:=div_n_val h0 (val r.1.hi)
 have qu:=q.mu
 have qv:=q.mv
 rw [lohi] at qu qv
 have bdd:∀ x:Rat,B H (x*(n:Rat))→B (H-j) x:=by
  intro x hx
  unfold B at *
  rw [eH]
  have k5:=Rat.mul_le_mul_of_nonneg_left ejn (Rat.le_of_lt (p2_pos H))
  constructor
  ·rw [← mul_le_iff hnr]; grind
  ·rw [← mul_le_iff hnr]; grind
 have bu:B (H-j) u:=bdd u (by rcases qu with k | k | k | k<;>rw [k]<;>first | (rw [d1]; exact a1) | (rw [d2]; exact a2))
 have bv:B (H-j) v:=bdd v (by rcases qv with k | k | k | k<;>rw [k]<;>first | (rw [d1]; exact a1) | (rw [d2]; exact a2))
 have hd:v-u≤w*p2 (-j):=by
  have hw0:0≤w:=by grind
  have k5:=Rat.mul_le_mul_of_nonneg_left ejn hw0
  rw [← mul_le_iff hnr]
  have:(v-u)*(n:Rat)≤w:=by
   rcases qu with k | k | k | k<;>rcases qv with t | t | t | t<;>rw [k,t]<;>grind
  grind
 have wd:=enc_width en bu bv
 have b:=enc_bounds en bu bv o.le
 rw [e'] at h ⊢
 exact ⟨⟨rfl,⟨⟨o.lo.w,o.lo.g.mono (by omega),b.1⟩,⟨o.hi.w,o.hi.g.mono (by omega),b.2⟩,o.le⟩,h.m⟩,by grind⟩
theorem hw_wide {r:I × Int} {x y:R} {L H:Int} {w m:Rat} {K:Int} (ha:HasW r x L H w) {d:D} (hd:Okd d L H) (hxy:ab (y-x)≤ofQ (val d)) (hm:ab x≤ofQ m) (hK:m+w+val d≤p2 K) {p:Nat} (hp:1≤p) (hL : -60000≤L) (hH:H+1≤60000):HasW (wS p r.1 d 0) y L K (w+2*val d+2*p2 (K-p)):=by
 have h0:0≤val d:=by
  have:=ab_nonneg (y-x)
  exact ofQ_le.1 (rle_trans this hxy)
 obtain ⟨c,e,o,en⟩:=wideI_ok ha.h.ok hd h0 hp hL hH
 have h:=has_wide ha.h hd hxy hp hL hH
 have e':wS p r.1 d 0=(c,0):=e
 have q:=ha.ends hm
 have k1:=ha.w; have k3:=ha.h.ok.le
 have bu:B K (val r.1.lo-val d):=⟨by grind,by grind⟩
 have bv:B K (val r.1.hi+val d):=⟨by grind,by grind⟩
 have b:=enc_bounds en bu bv o.le
 have wd:=enc_width en bu bv
 rw [e'] at h ⊢
 exact ⟨⟨rfl,⟨⟨o.lo.w,o.lo.g,b.1⟩,⟨o.hi.w,o.hi.g,b.2⟩,o.le⟩,h.m⟩,by grind⟩
theorem hw_scale {r:I × Int} {x:R} {L H n:Int} {w:Rat} (ha:HasW r x L H w) (hL : -60000≤L+n) (hH:H+n≤60000):HasW (scS r.1 n 0) (x*ofQ (p2 n)) (L+n) (H+n) (w*p2 n):=by
 obtain ⟨c,e,o,e1,e2⟩:=scaleI_ok ha.h.ok hL hH
 have h:=has_scale ha.h hL hH
 have e':scS r.1 n 0=(c,0):=e
 rw [e'] at h ⊢
 refine ⟨h,?_⟩
 show val c.hi-val c.lo≤w*p2 n
 have:=Rat.mul_le_mul_of_nonneg_right ha.w (Rat.le_of_lt (p2_pos n))
 rw [e1,e2]; grind
theorem ncast_succ (i:Nat) (d:Rat):((i+1:Nat):Rat)*d=(i:Rat)*d+d:=by rw [Rat.natCast_add]; have:((1:Nat):Rat)=1:=rfl; rw [this]; grind
end Go.Proofs.YtpcdcpjjekkemaaGreat.Gen
namespace Go.An
def qsum (a:Nat→Rat) (x:Rat):Nat→Rat
 | 0=>0
 | n+1=>qsum a x n+a n*x ^ n
theorem psum_q {a:Nat→R} {b:Nat→Rat} (h:∀ n,a n=ofQ (b n)) (x:Rat) (n:Nat):psum a (ofQ x) n=ofQ (qsum b x n):=by
 induction n with
 | zero=>rfl
 | succ n ih=>rw [psum,qsum,ih,h,ofQ_add,ofQ_mul,ofQ_pow]
theorem halving_tail {a:Nat→R} {x y:R} (hc:Conv (psum a x) y) (m:Nat) (h:∀ i,m≤i→ab (a (i+1)*x ^ (i+1))+ab (a (i+1)*x ^ (i+1))≤ab (a i*x ^ i)):ab (y-psum a x (m+1))≤ab (a m*x ^ m):=by
 have key:∀ k,ab (psum a x (m+1+k)-psum a x (m+1))+ab (a (m+k)*x ^ (m+k))≤ab (a m*x ^ m):=by
  intro k
  induction k with
  | zero=>rw [Nat.add_zero,Nat.add_zero,show psum a x (m+1)-psum a x (m+1)=0 by grind,ab_zero]; grind
  | succ k ih=>
   have e:psum a x (m+1+(k+1))=psum a x (m+1+k)+a (m+k+1)*x ^ (m+k+1):=by
    rw [show m+1+(k+1)=(m+1+k)+1 by omega]
    show psum a x (m+1+k)+a (m+1+k)*x ^ (m+1+k)=_
    rw [show m+1+k=m+k+1 by omega]
   have h1:=h (m+k) (by omega)
   have h2:=ab_add (psum a x (m+1+k)-psum a x (m+1)) (a (m+k+1)*x ^ (m+k+1))
   rw [e,show psum a x (m+1+k)+a (m+k+1)*x ^ (m+k+1)-psum a x (m+1)=psum a x (m+1+k)-psum a x (m+1)+a (m+k+1)*x ^ (m+k+1) by grind,show m+(k+1)=m+k+1 by omega]
   grind
 have hs:=(hc.shift (m+1)).sub (Conv.const (psum a x (m+1)))
 refine hs.ab_le 0 fun n _=>?_
 have h1:=key n
 have h2:=ab_nonneg (a (m+n)*x ^ (m+n))
 rw [show n+(m+1)=m+1+n by omega]
 grind
noncomputable def bc (n i:Nat):R:=rf i*rf (n+i)
noncomputable def BF (n:Nat) (u:R):R:=ps (bc n) u
noncomputable def J (n:Nat) (h:R):R:=h ^ n*BF n (-(h*h))
theorem rf_anti (n i:Nat):rf (n+i)≤rf n:=by
 induction i with
 | zero=>exact rle_refl _
 | succ i ih=>
  have h1:=rf_succ (n+i)
  have h2:=rf_pos (n+i+1)
  have h3:=rmul_nonneg (cast_nonneg (n+i)) (show 0≤rf (n+i+1) by grind)
  rw [cast_succ] at h1
  rw [show n+(i+1)=n+i+1 by omega]
  grind
theorem bc_pos (n i:Nat):0<bc n i:=rmul_pos (rf_pos _) (rf_pos _)
theorem bc_two (n i:Nat):bc n i≤rf n*rf i:=by
 have h1:=rmul_le' (rf_anti n i) (show 0≤rf i by have:=rf_pos i; grind)
 unfold bc; grind
theorem bc_le (n i:Nat):ab (bc n i)≤rf i:=by
 have h:=bc_pos n i
 rw [ab_of (by grind)]
 have h1:=bc_two n i
 have h2:=rmul_le (rf_le n) (show 0≤rf i by have:=rf_pos i; grind)
 grind
theorem da_bc (n:Nat):da (bc n)=bc (n+1):=funext fun i=>by
 have h:=rf_succ i
 unfold da bc
 rw [show n+(i+1)=n+1+i by omega,← h]; grind
theorem BF_conv (n:Nat) (u:R):Conv (psum (bc n) u) (BF n u):=ps_rf (bc_le n) u
theorem BF_zero (n:Nat):BF n 0=rf n:=by
 unfold BF; rw [ps_zero,bc,show rf 0=1 from rfl,Nat.add_zero]; grind
theorem BF_fin (n:Nat) (u:R) (m:Nat):((n+1:Nat):R)*psum (bc (n+1)) u (m+1)+u*psum (bc (n+2)) u m=psum (bc n) u (m+1):=by
 induction m with
 | zero=>
  have h:=rf_succ n
  show ((n+1:Nat):R)*(0+bc (n+1) 0*u ^ 0)+u*0=0+bc n 0*u ^ 0
  rw [rpow_zero]; unfold bc
  rw [show rf 0=1 from rfl,Nat.add_zero,Nat.add_zero]
  grind
 | succ m ih=>
  have e1:psum (bc (n+1)) u (m+1+1)=psum (bc (n+1)) u (m+1)+bc (n+1) (m+1)*u ^ (m+1):=rfl
  have e2:psum (bc (n+2)) u (m+1)=psum (bc (n+2)) u m+bc (n+2) m*u ^ m:=rfl
  have e3:psum (bc n) u (m+1+1)=psum (bc n) u (m+1)+bc n (m+1)*u ^ (m+1):=rfl
  have k1:=rf_succ m
  have k2:=rf_succ (n+(m+1))
  have c1:((n+(m+1)+1:Nat):R)=((n+1:Nat):R)+((m+1:Nat):R):=by rw [show n+(m+1)+1=(n+1)+(m+1) by omega,cast_add]
  rw [c1] at k2
  have key:((n+1:Nat):R)*bc (n+1) (m+1)+bc (n+2) m=bc n (m+1):=by
   unfold bc
   rw [show n+1+(m+1)=n+(m+1)+1 by omega,show n+2+m=n+(m+1)+1 by omega,← k2,← k1]
   grind
  rw [e1,e2,e3,← ih,← key,rpow_succ]
  grind
theorem BF_rec (n:Nat) (u:R):((n+1:Nat):R)*BF (n+1) u+u*BF (n+2) u=BF n u:=by
 have h1:=((BF_conv (n+1) u).shift 1).mul_c ((n+1:Nat):R)
 have h2:=(BF_conv (n+2) u).mul_c u
 have h3:=(h1.add h2).congr (t:=fun m=>psum (bc n) u (m+1)) fun m=>by have:=BF_fin n u m; grind
 have h4:=h3.uniq ((BF_conv n u).shift 1)
 grind
theorem BF_dv (n:Nat) {s:R} (hs:0≤s):Dv (BF n) (BF (n+1)) (-s) s:=by
 have:=Dv.rf (bc_le n) hs
 rwa [da_bc] at this
theorem pow_dv (n:Nat) (a b:R):Dv (fun h=>h ^ (n+1)) (fun h=>((n+1:Nat):R)*h ^ n) a b:=by
 induction n with
 | zero=>exact (Dv.id a b).congr (fun x _=>by rw [rpow_succ,rpow_zero]; grind) fun x _=>by rw [rpow_zero,show ((0+1:Nat):R)=1 from rfl]; grind
 | succ n ih=>exact (ih.mul (Dv.id a b)).congr (fun x _=>by rw [rpow_succ x (n+1)]) fun x _=>by rw [cast_succ (n+1),rpow_succ x n]; grind
theorem nsq_dv (a b:R):Dv (fun h=>-(h*h)) (fun h=>-(h+h)) a b:=((Dv.id a b).mul (Dv.id a b)).neg.congr (fun _ _=>rfl) fun x _=>by grind
theorem J0_dv {s:R} (hs:0≤s):Dv (J 0) (fun h=>-(J 1 h+J 1 h)) (-s) s:=by
 have h1:=(nsq_dv (-s) s).compE fun s hs=>BF_dv 0 hs
 refine h1.congr (fun x _=>?_) fun x _=>?_
 ·unfold J; rw [rpow_zero]; grind
 ·unfold J; rw [rpow_succ,rpow_zero]; grind
theorem J_dv (n:Nat) {s:R} (hs:0≤s):Dv (J (n+1)) (fun h=>J n h-J (n+2) h) (-s) s:=by
 have h1:=(nsq_dv (-s) s).compE fun s hs=>BF_dv (n+1) hs
 refine ((pow_dv n (-s) s).mul h1).congr (fun x _=>rfl) fun x _=>?_
 unfold J
 have k:=BF_rec n (-(x*x))
 rw [← k,rpow_succ x (n+1),rpow_succ x n,show n+1+1=n+2 from rfl]
 grind
theorem J0_zero:J 0 0=1:=by
 unfold J; rw [rpow_zero,show -((0:R)*0)=0 by grind,BF_zero,show rf 0=1 from rfl]; grind
theorem J_zero (n:Nat):J (n+1) 0=0:=by unfold J; rw [rpow_succ]; grind
theorem E_sum (u:R) (hu:0≤u) (m:Nat):psum rf u m≤E u:=by
 have hc:Conv (psum rf u) (E u):=ps_rf rf_ab u
 have mono:∀ k,psum rf u m≤psum rf u (m+k):=by
  intro k
  induction k with
  | zero=>exact rle_refl _
  | succ k ih=>
   have h1:=rmul_nonneg (show 0≤rf (m+k) by have:=rf_pos (m+k); grind) (pow_nonneg hu (m+k))
   show psum rf u m≤psum rf u (m+k)+rf (m+k)*u ^ (m+k)
   grind
 exact hc.ge_c m fun n hn=>by have:=mono (n-m); rwa [show m+(n-m)=n by omega] at this
theorem BF_bnd (n:Nat) (u:R):ab (BF n u)≤rf n*E (ab u):=by
 have key:∀ m,ab (psum (bc n) u m)≤rf n*psum rf (ab u) m:=by
  intro m
  induction m with
  | zero=>show ab 0≤rf n*0; rw [ab_zero]; grind
  | succ m ih=>
   show ab (psum (bc n) u m+bc n m*u ^ m)≤rf n*(psum rf (ab u) m+rf m*ab u ^ m)
   have h1:=ab_add (psum (bc n) u m) (bc n m*u ^ m)
   have hb:=bc_pos n m
   rw [ab_mul,ab_pow,ab_of (show 0≤bc n m by grind)] at h1
   have h2:=rmul_le (bc_two n m) (pow_nonneg (ab_nonneg u) m)
   grind
 refine (BF_conv n u).ab_le 0 fun m _=>rle_trans (key m) ?_
 exact rmul_le' (E_sum _ (ab_nonneg u) m) (by have:=rf_pos n; grind)
theorem J_bnd (n:Nat) {h M:R} (hM:ab h≤M):ab (J n h)≤M ^ n*rf n*E (M*M):=by
 have h0:=ab_nonneg h
 unfold J
 rw [ab_mul,ab_pow]
 have h1:=BF_bnd n (-(h*h))
 rw [ab_neg,ab_mul] at h1
 have h2:E (ab h*ab h)≤E (M*M):=E_mono (rmul_mono hM hM h0 (by grind))
 have h3:=rmul_le' h2 (show 0≤rf n by have:=rf_pos n; grind)
 have h4:=pow_mono h0 hM n
 have h5:=rmul_mono h4 (rle_trans h1 h3) (pow_nonneg h0 n) (rmul_nonneg (by have:=rf_pos n; grind) (by have:=E_pos (M*M); grind))
 grind
theorem pow_rf_lim {M:R} (hM:0<M) {e:Rat} (he:0<e):∃ N:Nat,∀ n:Nat,N≤n→M ^ n*rf n≤ofQ e:=by
 obtain ⟨K,hK⟩:=rf_bound (r:=M+M) (by grind)
 have h0:=hK 0
 rw [rpow_zero,show rf 0=1 from rfl] at h0
 have hK0:0≤K:=by have:=rzero_lt_one; grind
 obtain ⟨N,hN⟩:=pow_lim hf_geo hK0 he
 refine ⟨N,fun n hn=>rle_trans ?_ (hN n hn)⟩
 have h1:=rmul_le (hK n) (pow_nonneg hf_geo.h0 n)
 have h2:(M+M) ^ n*hf ^ n=M ^ n:=by rw [← pow_mul']; congr 1; have:=hf_two; grind
 have h3:rf n*(M+M) ^ n*hf ^ n=rf n*((M+M) ^ n*hf ^ n):=by
  generalize (M+M) ^ n=a; generalize hf ^ n=b; grind
 rw [h3,h2] at h1
 rw [rmul_comm (M ^ n)]; exact h1
noncomputable def En:Nat→R→R
 | 0,h=>J 0 h*J 0 h
 | N+1,h=>En N h+2*(J (N+1) h*J (N+1) h)
theorem En_dv (N:Nat) {s:R} (hs:0≤s):Dv (En N) (fun h=>-(4*(J N h*J (N+1) h))) (-s) s:=by
 induction N with
 | zero=>exact ((J0_dv hs).mul (J0_dv hs)).congr (fun _ _=>rfl) fun x _=>by grind
 | succ N ih=>exact (ih.add (((J_dv N hs).mul (J_dv N hs)).smul 2)).congr (fun _ _=>rfl) fun x _=>by grind
theorem En_zero (N:Nat):En N 0=1:=by
 induction N with
 | zero=>unfold En; rw [J0_zero]; grind
 | succ N ih=>rw [En,ih,J_zero]; grind
theorem En_nonneg (N:Nat) (h:R):0≤En N h:=by
 induction N with
 | zero=>exact sq_nonneg _
 | succ N ih=>rw [En]; have:=sq_nonneg (J (N+1) h); grind
theorem En_has (n k:Nat) (h:R):J n h*J n h≤En (n+k) h:=by
 induction k with
 | zero=>
  cases n with
  | zero=>exact rle_refl _
  | succ n=>show _≤En n h+2*(J (n+1) h*J (n+1) h); have:=sq_nonneg (J (n+1) h); have:=En_nonneg n h; grind
 | succ k ih=>show _≤En (n+k) h+2*(J (n+k+1) h*J (n+k+1) h); have:=sq_nonneg (J (n+k+1) h); grind
theorem J_one (n:Nat) (h:R):ab (J n h)≤1:=by
 have hM:0<ab h+1:=by have:=ab_nonneg h; have:=rzero_lt_one; grind
 generalize hMd:ab h+1=M at hM
 have hE:=E_pos (M*M)
 have key:J n h*J n h≤1:=eq_of_le fun e he=>by
  obtain ⟨d,hd,hd'⟩:=small' he (4*E (M*M)*E (M*M)*M)
  obtain ⟨N1,h1⟩:=pow_rf_lim hM hd
  obtain ⟨N2,h2⟩:=pow_rf_lim hM (show (0:Rat)<1 by decide)
  have hN1:=h1 (n+N1+N2) (by omega)
  have hN2:=h2 (n+N1+N2+1) (by omega)
  have b:=sizeR (fun s hs=>En_dv (n+N1+N2) hs) (x:=h) (M:=4*(ofQ d*E (M*M)*E (M*M))) fun z hz=>by
   have k1:=J_bnd (n+N1+N2) (h:=z) (M:=M) (by grind)
   have k2:=J_bnd (n+N1+N2+1) (h:=z) (M:=M) (by grind)
   have k3:=rle_trans k1 (rmul_le hN1 (show 0≤E (M*M) by grind))
   have k4:=rle_trans k2 (rmul_le hN2 (show 0≤E (M*M) by grind))
   have k5:=rmul_mono k3 k4 (ab_nonneg _) (rmul_nonneg (ofQ_le.2 (by decide)) (by grind))
   rw [← ab_mul,ofQ_one] at k5
   rw [ab_neg,ab_mul,ab_of (show (0:R)≤4 by have:=rzero_lt_one; grind)]
   grind
  rw [En_zero] at b
  have b1:=(ab_le.1 b).2
  have b2:=En_has n (N1+N2) h
  rw [show n+(N1+N2)=n+N1+N2 by omega] at b2
  have hd0:=ofQ_pos hd
  have b3:=rmul_le' (show ab h≤M by have:=rzero_lt_one; grind) (show 0≤4*(ofQ d*E (M*M)*E (M*M)) by
   have:=rmul_pos (rmul_pos hd0 hE) hE; grind)
  grind
 have h1:(1:R)*1=1:=by grind
 have p1:J n h≤1:=le_of_sq (by have:=rzero_lt_one; grind) (by rw [h1]; exact key)
 have p2 : -J n h≤1:=le_of_sq (by have:=rzero_lt_one; grind) (by rw [h1,show -J n h * -J n h=J n h*J n h by grind]; exact key)
 exact ab_le.2 ⟨by grind,p1⟩
noncomputable def Ev:Nat→R→R
 | 0,h=>J 0 h
 | N+1,h=>Ev N h+(J (2*N+2) h+J (2*N+2) h)
theorem Ev_dv (N:Nat) {s:R} (hs:0≤s):Dv (Ev N) (fun h=>-(J (2*N+1) h+J (2*N+1) h)) (-s) s:=by
 induction N with
 | zero=>exact J0_dv hs
 | succ N ih=>exact (ih.add ((J_dv (2*N+1) hs).add (J_dv (2*N+1) hs))).congr (fun _ _=>rfl) fun x _=>by rw [show 2*(N+1)+1=2*N+1+2 by omega]; grind
theorem Ev_zero (N:Nat):Ev N 0=1:=by
 induction N with
 | zero=>unfold Ev; exact J0_zero
 | succ N ih=>rw [Ev,ih,show 2*N+2=2*N+1+1 by omega,J_zero]; grind
theorem Ev_near (N:Nat) {h M:R} (hM:ab h≤M):ab (Ev N h-1)≤2*(M ^ (2*N+1)*rf (2*N+1)*E (M*M))*ab h:=by
 have b:=sizeR (fun s hs=>Ev_dv N hs) (x:=h) (M:=2*(M ^ (2*N+1)*rf (2*N+1)*E (M*M))) fun z hz=>by
  have k1:=J_bnd (2*N+1) (h:=z) (M:=M) (rle_trans hz hM)
  have k2:=ab_add (J (2*N+1) z) (J (2*N+1) z)
  rw [ab_neg]
  grind
 rw [Ev_zero] at b
 exact b
def bnN:Nat→Int
 | 1=>1 | 2=>-1 | 3=>1 | 4=>-1 | 5=>5 | 6=>-691 | 7=>7 | 8=>-3617 | 9=>43867 | 10=>-174611 | _=>0
def bnD:Nat→Nat
 | 1=>6 | 2=>30 | 3=>42 | 4=>30 | 5=>66 | 6=>2730 | 7=>6 | 8=>510 | 9=>798 | 10=>330 | _=>1
def cK (k:Nat):Rat:=(bnN k:Rat) / ((bnD k*2*k*(2*k-1):Nat):Rat)
noncomputable def stS (y:R):Nat→R
 | 0=>0
 | k+1=>stS y k+ofQ (cK (k+1))*y⁻¹ ^ (2*k+1)
noncomputable def st (K:R) (y:R):R:=(y-hf)*Ln y-y+stS y 10+K
def rfq:Nat→Rat
 | 0=>1
 | n+1=>rfq n*((n+1:Nat):Rat)⁻¹
theorem rf_q (n:Nat):rf n=ofQ (rfq n):=by
 induction n with
 | zero=>rfl
 | succ n ih=>rw [rf,rfq,ih,ofQ_mul,ofQ_inv (by exact_mod_cast Nat.succ_ne_zero n),ofQ_nat]
theorem E_q {q:Rat} (h0:0≤q) (h1:q≤1) (m:Nat) (hm:1≤m):ofQ (qsum rfq q (m+1))≤E (ofQ q)∧E (ofQ q)≤ofQ (qsum rfq q (m+1)+rfq m*q ^ m):=by
 have hq:0≤ofQ q:=ofQ_le.2 h0
 have hq1:ofQ q≤1:=ofQ_le.2 h1
 have e:=E_sum (ofQ q) hq (m+1)
 rw [psum_q rf_q] at e
 have pos:∀ i,0≤rf i*ofQ q ^ i:=fun i=>rmul_nonneg (by have:=rf_pos i; grind) (pow_nonneg hq i)
 have t:=halving_tail (a:=rf) (x:=ofQ q) (ps_rf rf_ab (ofQ q)) m fun i hi=>by
  rw [ab_of (pos _),ab_of (pos _)]
  have k:=rf_succ i
  have hi':(2:R)≤((i+1:Nat):R):=cast_le (m:=2) (by omega)
  have k2:=rmul_le hi' (show 0≤rf (i+1) by have:=rf_pos (i+1); grind)
  have k3:rf (i+1)+rf (i+1)≤rf i:=by grind
  have k4:=rmul_le k3 (pow_nonneg hq i)
  have k5:=rmul_le' hq1 (rmul_nonneg (show 0≤rf (i+1)+rf (i+1) by have:=rf_pos (i+1); grind) (pow_nonneg hq i))
  rw [rpow_succ]; grind
 rw [ab_of (pos m),psum_q rf_q,rf_q m,← ofQ_pow,← ofQ_mul] at t
 have t2:=(ab_le.1 t).2
 refine ⟨e,?_⟩
 rw [ofQ_add]
 show ps rf (ofQ q)≤_
 grind
end Go.An
namespace Go.Proofs.YtpcdcpjjekkemaaGreat.Gen
open Go Go.Abs Go.Plain Go.An
theorem okd_size {d:D} {L H:Int} (h:Okd d L H) (h0:d.m≠0):L≤d.e∧d.e+(blen d.m.natAbs:Nat)≤H+1:=⟨G_e h.w.odd0 h0 h.g,B_size h0 h.b⟩
theorem flD_val (d:D):(flD d:Rat)≤val d∧val d<(flD d:Rat)+1:=by
 unfold flD
 show _≤(d.m:Rat)*p2 d.e∧(d.m:Rat)*p2 d.e<_
 by_cases h:0≤d.e
 ·rw [if_pos h]
  have e:((d.m*2 ^ d.e.toNat:Int):Rat)=(d.m:Rat)*p2 d.e:=by
   have:=p2_nat d.e.toNat
   rw [Int.toNat_of_nonneg h] at this
   rw [Rat.intCast_mul,this]
   congr 1
  rw [e]
  exact ⟨Rat.le_refl,by grind⟩
 ·rw [if_neg h]
  have hp:=p2_pos d.e
  have hk:(0:Int)<2 ^ (-d.e).toNat:=Int.pow_pos (by decide)
  have e:p2 d.e*((2 ^ (-d.e).toNat:Int):Rat)=1:=by
   have h1:=p2_nat (-d.e).toNat
   rw [Int.toNat_of_nonneg (by omega)] at h1
   have h2:((2 ^ (-d.e).toNat:Int):Rat)=p2 (-d.e):=by rw [h1]; rfl
   rw [h2,← p2_add,show d.e + -d.e=0 by omega,p2_zero]
  generalize (2 ^ (-d.e).toNat:Int)=z at *
  generalize p2 d.e=t at *
  have h1:=Int.mul_ediv_add_emod d.m z
  have h2:=Int.emod_nonneg d.m (show z≠0 by omega)
  have h3:=Int.emod_lt_of_pos d.m hk
  have g1:((d.m / z:Int):Rat)*(z:Rat)≤(d.m:Rat):=by
   have:=intCast_le (show d.m / z*z≤d.m by rw [Int.mul_comm]; omega)
   rwa [Rat.intCast_mul] at this
  have g2:(d.m:Rat)<((d.m / z:Int):Rat)*(z:Rat)+(z:Rat):=by
   have:=intCast_lt (show d.m<d.m / z*z+z by rw [Int.mul_comm]; omega)
   rwa [Rat.intCast_add,Rat.intCast_mul] at this
  clear h1 h2 h3
  generalize ((d.m / z:Int):Rat)=q at *
  generalize (d.m:Rat)=m at *
  generalize (z:Rat)=z at *
  have e5:q*z*t=q:=by rw [Rat.mul_assoc,Rat.mul_comm z t,e,Rat.mul_one]
  constructor
  ·have:=Rat.mul_le_mul_of_nonneg_right g1 (Rat.le_of_lt hp)
   rwa [e5] at this
  ·have:=Rat.mul_lt_mul_of_pos_right g2 hp
   rwa [Rat.add_mul,e5,Rat.mul_comm z t,e] at this
theorem two_R (z:R):z*ofQ (p2 1)=z+z:=by rw [show ofQ (p2 1)=(2:R) from rfl]; grind
theorem okd_abs {d:D} {L H:Int} (h:Okd d L H):Okd (absD d) L H∧(val (absD d)=val d∨val (absD d) = -val d):=by
 rcases Int.lt_or_le d.m 0 with k | k
 ·rw [← neg_abs k]; exact ⟨h.neg,Or.inr (val_neg d)⟩
 ·rw [← pos_abs (show ¬d.m<0 by omega)]; exact ⟨h,Or.inl rfl⟩
theorem absD_m (d:D):0≤(absD d).m:=by show 0≤((d.m.natAbs:Nat):Int); omega
theorem done_w {r:I × Int} {v:R} {L H:Int} {W:Rat} {p:Nat} (hp:8≤p) (h:HasW r v L H W) (hv:ab v≤ofQ 1) (hW:W≤p2 (-(p:Int))) (hL : -60000≤L) (hH:H≤60000):val (doneS p r).1.hi-val (doneS p r).1.lo≤p2 (3-(p:Int)):=by
 have e8:p2 (-(p:Int))≤p2 (-8):=p2_le (by omega)
 rw [show p2 (-8)=1 / 256 by decide +kernel] at e8
 have pp:=p2_pos (-(p:Int))
 have q:=h.ends hv
 have hle:=h.h.ok.le
 unfold doneS
 rw [h.h.e,st_zero]
 obtain ⟨c,e,o,en⟩:=outI_ok h.h.ok (p:=p) (by omega) hL hH
 rw [e]
 have b1:B 1 (val r.1.lo):=by unfold B; rw [show p2 1=2 from rfl]; exact ⟨by grind,by grind⟩
 have b2:B 1 (val r.1.hi):=by unfold B; rw [show p2 1=2 from rfl]; exact ⟨by grind,by grind⟩
 have w:=enc_width en b1 b2
 have q1:p2 (1-(p:Int))=2*p2 (-(p:Int)):=by rw [show 1-(p:Int)=1 + -(p:Int) by omega,p2_add]; rfl
 have q3:p2 (3-(p:Int))=8*p2 (-(p:Int)):=by rw [show 3-(p:Int)=3 + -(p:Int) by omega,p2_add]; rfl
 have hw:=h.w
 rw [q1] at w
 rw [q3]
 show val c.hi-val c.lo≤_
 grind
def beP (w:Nat) (h:I):Nat→Nat→I→Int→I × Int
 | 0,_,t,e=>(t,e)
 | k+1,i,t,e=>beP w h k (i+1) (nExp w h (i+1) t e).1 (nExp w h (i+1) t e).2.2
def nBes (p:Nat) (q:I) (n:Nat) (i:Nat) (t:I) (e:Int):I × I × Int:=((turnS p t q ((i*(n+i):Nat):Int) e).1,(turnS p t q ((i*(n+i):Nat):Int) e).1,(turnS p t q ((i*(n+i):Nat):Int) e).2)
def serT (p:Nat) (next:Nat→I→Int→I × I × Int):Nat→Nat→I→I→Int→I × I × Int
 | 0,_,s,t,e=>(s,t,e)
 | k+1,i,s,t,e=>serT p next k (i+1) (aS p s (next (i+1) t e).2.1 (next (i+1) t e).2.2).1 (next (i+1) t e).1 (aS p s (next (i+1) t e).2.1 (next (i+1) t e).2.2).2
def offD (t:I):D:=if cmpD (absD t.hi) (absD t.lo)>0 then absD t.hi else absD t.lo
def beT (w n:Nat) (h:I × Int):I × Int:=beP w h.1 n 0 (iS 1 (mS w h.1 h.1 h.2).2).1 (iS 1 (mS w h.1 h.1 h.2).2).2
def beW (w n N:Nat) (h:I × Int):I × I × Int:=serT w (nBes w (mS w h.1 h.1 h.2).1 n) N 0 (beT w n h).1 (beT w n h).1 (beT w n h).2
def beS (w p n N:Nat) (h:I × Int):I × Int:=doneS p (wS w (beW w n N h).1 (offD (beW w n N h).2.1) (beW w n N h).2.2)
theorem HasW.tight {r:I × Int} {x:R} {L H K:Int} {w m:Rat} (h:HasW r x L H w) (hx:ab x≤ofQ m) (hK:m+w≤p2 K):HasW r x L K w:=by
 have e:=h.ends hx
 have o:=h.h.ok
 have hw:0≤w:=by have:=h.w; have:=o.le; grind
 exact ⟨⟨h.h.e,⟨⟨o.lo.w,o.lo.g,⟨by grind,by grind⟩⟩,⟨o.hi.w,o.hi.g,⟨by grind,by grind⟩⟩,o.le⟩,h.h.m⟩,h.w⟩
theorem eight_step (n:Nat):(8:R) ^ (n+1)*rf (n+1)*((n+1:Nat):R)=8*((8:R) ^ n*rf n):=by
 rw [← rf_succ n,rpow_succ]; grind
theorem eight_q (n:Nat):(8:R) ^ n*rf n=ofQ (8 ^ n*rfq n):=by
 rw [rf_q,ofQ_mul,ofQ_pow]; rfl
theorem eight_le (n:Nat):(8:R) ^ n*rf n≤ofQ 417:=by
 have base:∀ m:Nat,m≤8→(8:Rat) ^ m*rfq m≤417:=by decide +kernel
 rcases Nat.le_total n 8 with h | h
 ·rw [eight_q]; exact ofQ_le.2 (base n h)
 ·obtain ⟨k,rfl⟩:∃ k,n=8+k:=⟨n-8,by omega⟩
  clear h
  induction k with
  | zero=>rw [eight_q]; exact ofQ_le.2 (base 8 (by omega))
  | succ k ih=>
   refine rle_trans ?_ ih
   have h1:=eight_step (8+k)
   have h2:(8:R)≤((8+k+1:Nat):R):=cast_le (m:=8) (by omega)
   have h3:0≤(8:R) ^ (8+k+1)*rf (8+k+1):=rmul_nonneg (pow_nonneg (by have:=rzero_lt_one; grind) _) (by have:=rf_pos (8+k+1); grind)
   have h4:=rmul_le' h2 h3
   have h0:=rzero_lt_one
   show (8:R) ^ (8+k+1)*rf (8+k+1)≤_
   exact cancel (c:=8) (by grind) (by grind)
theorem eight_far (k:Nat):(8:R) ^ (16+k)*rf (16+k)≤ofQ 16*hf ^ k:=by
 induction k with
 | zero=>rw [eight_q,rpow_zero]; have:=ofQ_le.2 (show (8:Rat) ^ (16+0)*rfq (16+0)≤16 by decide +kernel); grind
 | succ k ih=>
  have h1:=eight_step (16+k)
  have h2:(16:R)≤((16+k+1:Nat):R):=cast_le (m:=16) (by omega)
  have h3:0≤(8:R) ^ (16+k+1)*rf (16+k+1):=rmul_nonneg (pow_nonneg (by have:=rzero_lt_one; grind) _) (by have:=rf_pos (16+k+1); grind)
  have h4:=rmul_le' h2 h3
  have h0:=rzero_lt_one
  show (8:R) ^ (16+k+1)*rf (16+k+1)≤ofQ 16*(hf ^ k*hf)
  have h5:=hf_two
  refine cancel (c:=16) (by grind) ?_
  have h6:=rmul_le ih (show (0:R)≤8 by grind)
  have h7:ofQ 16*(hf ^ k*hf)*16=ofQ 16*hf ^ k*8*(hf+hf):=by grind
  rw [h7,h5]; grind
noncomputable def bT (n:Nat) (h:R) (i:Nat):R:=h ^ n*(bc n i*(-(h*h)) ^ i)
noncomputable def bU (n:Nat) (h:R) (i:Nat):R:=h ^ n*psum (bc n) (-(h*h)) (i+1)
theorem bT_ab (n:Nat) (h:R) (i:Nat):ab (bT n h i)=(ab h ^ i*rf i)*(ab h ^ (n+i)*rf (n+i)):=by
 unfold bT
 have hb:=bc_pos n i
 rw [ab_mul,ab_mul,ab_pow,ab_pow,ab_neg,ab_mul,ab_of (show 0≤bc n i by grind),pow_mul',pow_add']
 unfold bc; grind
theorem pow_rf_mono {h:R} (hh:ab h≤8) (i:Nat):ab h ^ i*rf i≤(8:R) ^ i*rf i∧0≤ab h ^ i*rf i:=by
 have hr:0≤rf i:=by have:=rf_pos i; grind
 exact ⟨rmul_le (pow_mono (ab_nonneg h) hh i) hr,rmul_nonneg (pow_nonneg (ab_nonneg h) i) hr⟩
theorem bT_le (n:Nat) {h:R} (hh:ab h≤8) (i:Nat):ab (bT n h i)≤ofQ 173889:=by
 rw [bT_ab]
 have a:=pow_rf_mono hh i
 have b:=pow_rf_mono hh (n+i)
 have k:=rmul_mono (rle_trans a.1 (eight_le i)) (rle_trans b.1 (eight_le (n+i))) a.2 (ofQ_le.2 (by decide))
 rw [← ofQ_mul,show (417:Rat)*417=173889 by decide +kernel] at k
 exact k
theorem bT_far (n:Nat) {h:R} (hh:ab h≤8) {i:Nat} (hi:16≤i):ab (bT n h i)≤ofQ 256*hf ^ (2*(i-16)):=by
 rw [bT_ab]
 have a:=pow_rf_mono hh i
 have b:=pow_rf_mono hh (n+i)
 have a2:=eight_far (i-16)
 rw [show 16+(i-16)=i by omega] at a2
 have b2:=eight_far (n+i-16)
 rw [show 16+(n+i-16)=n+i by omega] at b2
 have b3:=rmul_le' (hf_le (show i-16≤n+i-16 by omega)) (show 0≤ofQ 16 from ofQ_le.2 (by decide))
 have k:=rmul_mono (rle_trans a.1 a2) (rle_trans b.1 (rle_trans b2 b3)) a.2 (rmul_nonneg (ofQ_le.2 (by decide)) (pow_nonneg hf_geo.h0 _))
 have e:ofQ 16*hf ^ (i-16)*(ofQ 16*hf ^ (i-16))=ofQ 256*hf ^ (2*(i-16)):=by
  rw [show 2*(i-16)=(i-16)+(i-16) by omega,pow_add',show (256:Rat)=16*16 by decide +kernel,ofQ_mul]; grind
 rw [e] at k
 exact k
theorem bU_le (n:Nat) {h:R} (hh:ab h≤8) (i:Nat):ab (bU n h i)≤((i+1:Nat):R)*ofQ 173889:=by
 induction i with
 | zero=>
  have e:bU n h 0=bT n h 0:=by unfold bU bT; show h ^ n*(0+bc n 0*_ ^ 0)=_; grind
  rw [e,show ((0+1:Nat):R)=1 from rfl]
  have:=bT_le n hh 0; grind
 | succ i ih=>
  have e:bU n h (i+1)=bU n h i+bT n h (i+1):=by unfold bU bT; show h ^ n*(psum (bc n) (-(h*h)) (i+1)+bc n (i+1)*_ ^ (i+1))=_; grind
  have h1:=ab_add (bU n h i) (bT n h (i+1))
  have h2:=bT_le n hh (i+1)
  rw [e,cast_succ]; grind
theorem bT_step (n:Nat) (h:R) (i:Nat):bT n h (i+1)*(((i+1)*(n+(i+1)):Nat):R) = -(bT n h i*(h*h)):=by
 unfold bT bc
 have k1:=rf_succ i
 have k2:=rf_succ (n+i)
 rw [cast_mul,show n+(i+1)=n+i+1 by omega,rpow_succ,← k1,← k2]
 grind
theorem be_tail (n:Nat) {h:R} (hh:ab h≤8) {N:Nat} (hN:16≤N):ab (J n h-bU n h N)≤ab (bT n h N):=by
 have t:=halving_tail (BF_conv n (-(h*h))) N fun i hi=>by
  have k1:=rf_succ i
  have k2:=rf_succ (n+i)
  have r1:=rf_pos (i+1)
  have r2:=rf_pos (n+i+1)
  have hb:=bc_pos n (i+1)
  have hb0:=bc_pos n i
  have c1:(16:R)≤((i+1:Nat):R):=cast_le (m:=16) (by omega)
  have c2:(16:R)≤((n+i+1:Nat):R):=cast_le (m:=16) (by omega)
  have h0:=rzero_lt_one
  have e:bc n i=((i+1:Nat):R)*((n+i+1:Nat):R)*bc n (i+1):=by
   unfold bc; rw [show n+(i+1)=n+i+1 by omega,← k1,← k2]; grind
  have cc:=rmul_mono c1 c2 (by grind) (by grind)
  have k3:=rmul_le cc (show 0≤bc n (i+1) by grind)
  rw [← e] at k3
  have k4:=rmul_mono hh hh (ab_nonneg h) (by grind)
  rw [← ab_mul] at k4
  have hp:=pow_nonneg (ab_nonneg (-(h*h))) i
  have hu:ab (-(h*h))=ab (h*h):=ab_neg _
  rw [ab_mul,ab_mul,ab_pow,ab_pow,ab_of (show 0≤bc n (i+1) by grind),ab_of (show 0≤bc n i by grind),rpow_succ]
  have k5:=rmul_le k3 hp
  have k6:=rmul_le' k4 (rmul_nonneg (show 0≤bc n (i+1) by grind) hp)
  have k7:=rmul_nonneg (show 0≤bc n (i+1) by grind) hp
  rw [hu] at *
  generalize ab (h*h) ^ i=P at *
  generalize ab (h*h)=u at *
  generalize bc n (i+1)=B at *
  grind
 have e:J n h-bU n h N=h ^ n*(BF n (-(h*h))-psum (bc n) (-(h*h)) (N+1)):=by unfold J bU; grind
 rw [e,ab_mul]
 have k:=rmul_le' t (ab_nonneg (h ^ n))
 have e2:ab (bT n h N)=ab (h ^ n)*ab (bc n N*(-(h*h)) ^ N):=by unfold bT; rw [ab_mul]
 rw [e2]
 exact k
def wbP (c:Rat):Nat→Rat
 | 0=>0
 | i+1=>(if i<7 then 8 else 1)*wbP c i+c
theorem wbP_le {c:Rat} (hc:0≤c) (i:Nat):0≤wbP c i∧wbP c i≤(300000+(i:Rat))*c:=by
 have e:∀ i,i≤7→wbP c i≤300000*c∧0≤wbP c i:=by
  intro i hi
  have s0:wbP c 0=0:=rfl
  have s1:wbP c 1=8*wbP c 0+c:=rfl
  have s2:wbP c 2=8*wbP c 1+c:=rfl
  have s3:wbP c 3=8*wbP c 2+c:=rfl
  have s4:wbP c 4=8*wbP c 3+c:=rfl
  have s5:wbP c 5=8*wbP c 4+c:=rfl
  have s6:wbP c 6=8*wbP c 5+c:=rfl
  have s7:wbP c 7=8*wbP c 6+c:=rfl
  rcases (show i=0∨i=1∨i=2∨i=3∨i=4∨i=5∨i=6∨i=7 by omega) with h | h | h | h | h | h | h | h<;>subst h<;>grind
 rcases Nat.le_total i 7 with h | h
 ·have:=e i h
  have hi:(0:Rat)≤(i:Rat):=by exact_mod_cast Nat.zero_le i
  have:=Rat.mul_nonneg hi hc
  exact ⟨(e i h).2,by grind⟩
 ·obtain ⟨k,rfl⟩:∃ k,i=7+k:=⟨i-7,by omega⟩
  clear h
  induction k with
  | zero=>
   have k:=e 7 (by omega)
   have n7:(0:Rat)≤((7+0:Nat):Rat):=by exact_mod_cast Nat.zero_le _
   have m7:=Rat.mul_nonneg n7 hc
   exact ⟨k.2,by show wbP c 7≤_; grind⟩
  | succ k ih=>
   have s:wbP c (7+(k+1))=1*wbP c (7+k)+c:=by
    show (if 7+k<7 then (8:Rat) else 1)*wbP c (7+k)+c=_
    rw [if_neg (by omega)]
   have e:((7+(k+1):Nat):Rat)=((7+k:Nat):Rat)+1:=by push_cast; grind
   rw [s,e]; exact ⟨by grind,by grind⟩
def wbT (w0 c:Rat):Nat→Rat
 | 0=>w0
 | i+1=>(if i<7 then 64 else 1)*wbT w0 c i+c
theorem wbT_le {w0 c:Rat} (h0:0≤w0) (hc:0≤c) (i:Nat):0≤wbT w0 c i∧wbT w0 c i≤4398046511104*w0+(70000000000+(i:Rat))*c:=by
 have e:∀ i,i≤7→wbT w0 c i≤4398046511104*w0+70000000000*c∧0≤wbT w0 c i:=by
  intro i hi
  have s0:wbT w0 c 0=w0:=rfl
  have s1:wbT w0 c 1=64*wbT w0 c 0+c:=rfl
  have s2:wbT w0 c 2=64*wbT w0 c 1+c:=rfl
  have s3:wbT w0 c 3=64*wbT w0 c 2+c:=rfl
  have s4:wbT w0 c 4=64*wbT w0 c 3+c:=rfl
  have s5:wbT w0 c 5=64*wbT w0 c 4+c:=rfl
  have s6:wbT w0 c 6=64*wbT w0 c 5+c:=rfl
  have s7:wbT w0 c 7=64*wbT w0 c 6+c:=rfl
  rcases (show i=0∨i=1∨i=2∨i=3∨i=4∨i=5∨i=6∨i=7 by omega) with h | h | h | h | h | h | h | h<;>subst h<;>grind
 rcases Nat.le_total i 7 with h | h
 ·have k:=e i h
  have hi:(0:Rat)≤(i:Rat):=by exact_mod_cast Nat.zero_le i
  have:=Rat.mul_nonneg hi hc
  exact ⟨k.2,by grind⟩
 ·obtain ⟨k,rfl⟩:∃ k,i=7+k:=⟨i-7,by omega⟩
  clear h
  induction k with
  | zero=>
   have k:=e 7 (by omega)
   have n7:(0:Rat)≤((7+0:Nat):Rat):=by exact_mod_cast Nat.zero_le _
   have m7:=Rat.mul_nonneg n7 hc
   exact ⟨k.2,by show wbT w0 c 7≤_; grind⟩
  | succ k ih=>
   have s:wbT w0 c (7+(k+1))=1*wbT w0 c (7+k)+c:=by
    show (if 7+k<7 then (64:Rat) else 1)*wbT w0 c (7+k)+c=_
    rw [if_neg (by omega)]
   have e:((7+(k+1):Nat):Rat)=((7+k:Nat):Rat)+1:=by push_cast; grind
   rw [s,e]; exact ⟨by grind,by grind⟩
theorem beP_w {w:Nat} (hw:104≤w∧w≤160) {hI:I} {h:R} {L:Int} (hh:HasW (hI,0) h L 3 0) (h8:ab h≤8) (hL : -40≤L∧L≤0) {n:Nat} (hn:n≤45) :
  ∀ (k i:Nat) (t:I),i+k=n→HasW (t,0) (rf i*h ^ i) (-(220*(i:Int))) 9 (wbP (p2 (14-(w:Int))) i)→HasW (beP w hI k i t 0) (rf n*h ^ n) (-(220*(n:Int))) 9 (wbP (p2 (14-(w:Int))) n):=by
 have hcp:=p2_pos (14-(w:Int))
 have c12:p2 (14-(w:Int))=4*p2 (12-(w:Int)):=by rw [show 14-(w:Int)=2+(12-(w:Int)) by omega,p2_add]; rfl
 have c9:p2 (12-3-(w:Int))*8=p2 (12-(w:Int)):=by
  have:p2 3*p2 (12-3-(w:Int))=p2 (12-(w:Int)):=by rw [← p2_add]; congr 1; omega
  rw [show p2 3=8 by decide +kernel] at this; grind
 have p9:p2 9=512:=by decide +kernel
 have p3:p2 3=8:=by decide +kernel
 have pm3:p2 (-3)*8=1:=by decide +kernel
 have cs:p2 (14-(w:Int))≤p2 (-90):=p2_le (by omega)
 have cs':p2 (-90)≤1 / 1000000000:=by decide +kernel
 intro k
 induction k with
 | zero=>
  intro i t hi ht
  have:i=n:=by omega
  subst this; exact ht
 | succ k ih=>
  intro i t hi ht
  have wl:=wbP_le (Rat.le_of_lt hcp) i
  have wl1:=wbP_le (Rat.le_of_lt hcp) (i+1)
  have hi45:(i:Rat)≤45:=by exact_mod_cast natCast_le (show i≤45 by omega)
  have hi46:((i+1:Nat):Rat)≤46:=by exact_mod_cast natCast_le (show i+1≤46 by omega)
  have h1:=hw_mul (p:=w) ht hh (by omega) (by omega) (by omega)
  have eW:wbP (p2 (14-(w:Int))) (i+1)=(if i<7 then 8 else 1)*wbP (p2 (14-(w:Int))) i+p2 (14-(w:Int)):=rfl
  have key:HasW (dS w (mS w t hI 0).1 (iS ((i+1:Nat):Int) 0).1 0) (rf (i+1)*h ^ (i+1)) (-(220*((i+1:Nat):Int))) 12 (wbP (p2 (14-(w:Int))) (i+1)):=by
   rw [eW]
   by_cases h7:i<7
   ·have h2:=hw_div_n (p:=w) h1 (n:=i+1) (k:=6) (by omega) (by omega) (by omega) (j:=0) (by rw [p2_zero]; exact natCast_le (show 1≤i+1 by omega)) (exp_step h i) (by omega) (by omega) (by omega)
    refine h2.mono (by omega) (by omega) ?_
    rw [if_pos h7,Int.neg_zero,p2_zero,show (9:Int)+3-(w:Int)=12-(w:Int) by omega,show (9:Int)+3-0-(w:Int)=12-(w:Int) by omega,p3]
    grind
   ·have h2:=hw_div_n (p:=w) h1 (n:=i+1) (k:=6) (by omega) (by omega) (by omega) (j:=3) (by rw [p3]; exact natCast_le (show 8≤i+1 by omega)) (exp_step h i) (by omega) (by omega) (by omega)
    refine h2.mono (by omega) (by omega) ?_
    rw [if_neg h7,show (9:Int)+3-(w:Int)=12-(w:Int) by omega,show (9:Int)+3-3-(w:Int)=12-3-(w:Int) by omega,p3]
    generalize p2 (12-3-(w:Int))=c at *
    generalize wbP (p2 (14-(w:Int))) i=W at *
    have:(p2 9*0+8*W+2*p2 (12-(w:Int)))*p2 (-3)=(W+2*c)*(p2 (-3)*8):=by rw [← c9]; grind
    rw [this,pm3]; grind
  have hb:ab (rf (i+1)*h ^ (i+1))≤ofQ 417:=by
   rw [ab_mul,ab_pow,ab_of (show 0≤rf (i+1) by have:=rf_pos (i+1); grind)]
   have a:=pow_rf_mono h8 (i+1)
   have b:=eight_le (i+1)
   grind
  have h3:=key.tight (K:=9) hb (by
   rw [p9]
   have q1:=Rat.mul_le_mul_of_nonneg_right hi46 (Rat.le_of_lt hcp)
   grind)
  have e3:(mS w t hI 0).2=0:=h1.h.e
  have h4:=ih (i+1) _ (by omega) h3.pair
  rw [beP]
  unfold nExp
  rw [e3]
  have e4:(iS ((i+1:Nat):Int) 0).2=0:=rfl
  simp only
  rw [e4,h3.h.e]; exact h4
theorem wbT_fin {w:Nat} (hw:104≤w∧w≤160) {w0:Rat} (hw0:0≤w0) (hw1:w0≤40*p2 (27-(w:Int))) {i:Nat} (hi:i≤119):0≤wbT w0 (p2 (27-(w:Int))) i∧wbT w0 (p2 (27-(w:Int))) i≤p2 (75-(w:Int)):=by
 have hcp:=p2_pos (27-(w:Int))
 have c75:p2 (75-(w:Int))=281474976710656*p2 (27-(w:Int)):=by rw [show 75-(w:Int)=48+(27-(w:Int)) by omega,p2_add]; rfl
 have a:=wbT_le hw0 (Rat.le_of_lt hcp) i
 have hi':(i:Rat)≤119:=by exact_mod_cast natCast_le hi
 have q1:=Rat.mul_le_mul_of_nonneg_right hi' (Rat.le_of_lt hcp)
 refine ⟨a.1,Rat.le_trans a.2 ?_⟩
 rw [c75]; grind
theorem bes_step {w:Nat} (hw:104≤w∧w≤160) {qI:I} {h:R} {Lq:Int} {n:Nat} (hq:HasW (qI,0) (h*h) Lq 6 (2*p2 (6-(w:Int)))) (h8:ab h≤8) (hLq : -80≤Lq∧Lq≤0) (hn:n≤45) {w0:Rat} (hw0:0≤w0) (hw1:w0≤40*p2 (27-(w:Int))) {i:Nat} (hi:i<119) {t:I} (ht:HasW (t,0) (bT n h i) (-9900-260*(i:Int)) 18 (wbT w0 (p2 (27-(w:Int))) i)) :
  nBes w qI n (i+1) t 0=((turnS w t qI (((i+1)*(n+(i+1)):Nat):Int) 0).1,(turnS w t qI (((i+1)*(n+(i+1)):Nat):Int) 0).1,0)∧HasW ((turnS w t qI (((i+1)*(n+(i+1)):Nat):Int) 0).1,0) (bT n h (i+1)) (-9900-260*((i+1:Nat):Int)) 18 (wbT w0 (p2 (27-(w:Int))) (i+1))∧(turnS w t qI (((i+1)*(n+(i+1)):Nat):Int) 0).2=0:=by
 have hcp:=p2_pos (27-(w:Int))
 have c24:p2 (27-(w:Int))=8*p2 (24-(w:Int)):=by rw [show 27-(w:Int)=3+(24-(w:Int)) by omega,p2_add]; rfl
 have c6:p2 (24-(w:Int))=262144*p2 (6-(w:Int)):=by rw [show 24-(w:Int)=18+(6-(w:Int)) by omega,p2_add]; rfl
 have c18:p2 (24-6-(w:Int))*64=p2 (24-(w:Int)):=by
  have:p2 6*p2 (24-6-(w:Int))=p2 (24-(w:Int)):=by rw [← p2_add]; congr 1; omega
  rw [show p2 6=64 by decide +kernel] at this; grind
 have c75:p2 (75-(w:Int))=281474976710656*p2 (27-(w:Int)):=by rw [show 75-(w:Int)=48+(27-(w:Int)) by omega,p2_add]; rfl
 have c76:p2 (76-(w:Int))=562949953421312*p2 (27-(w:Int)):=by rw [show 76-(w:Int)=49+(27-(w:Int)) by omega,p2_add]; rfl
 have c25:p2 (27-(w:Int))=4*p2 (25-(w:Int)):=by rw [show 27-(w:Int)=2+(25-(w:Int)) by omega,p2_add]; rfl
 have p18:p2 18=262144:=by decide +kernel
 have p6:p2 6=64:=by decide +kernel
 have pm6:p2 (-6)*64=1:=by decide +kernel
 have cs:p2 (76-(w:Int))≤p2 (-28):=p2_le (by omega)
 have cs':p2 (-28)≤1 / 100000000:=by decide +kernel
 have wi:=wbT_fin hw hw0 hw1 (i:=i) (by omega)
 have wi1:=wbT_fin hw hw0 hw1 (i:=i+1) (by omega)
 have hN0:0<(i+1)*(n+(i+1)):=Nat.mul_pos (by omega) (by omega)
 have hN1:(i+1)*(n+(i+1))≤2 ^ 15:=by
  have:(i+1)*(n+(i+1))≤119*164:=Nat.mul_le_mul (by omega) (by omega)
  omega
 have h1:=hw_mul (p:=w) ht hq (by omega) (by omega) (by omega)
 have eW:wbT w0 (p2 (27-(w:Int))) (i+1)=(if i<7 then 64 else 1)*wbT w0 (p2 (27-(w:Int))) i+p2 (27-(w:Int)):=rfl
 have hz : -bT n h (i+1)*(((i+1)*(n+(i+1)):Nat):R)=bT n h i*(h*h):=by have:=bT_step n h i; grind
 have key:HasW (dS w (mS w t qI 0).1 (iS (((i+1)*(n+(i+1)):Nat):Int) 0).1 0) (-bT n h (i+1)) (-9900-260*((i+1:Nat):Int)) 24 (wbT w0 (p2 (27-(w:Int))) (i+1)):=by
  rw [eW]
  by_cases h7:i<7
  ·have h2:=hw_div_n (p:=w) h1 (n:=(i+1)*(n+(i+1))) (k:=15) (by omega) hN0 hN1 (j:=0) (by rw [p2_zero]; exact natCast_le (show 1≤(i+1)*(n+(i+1)) by omega)) hz (by omega) (by omega) (by omega)
   refine h2.mono (by omega) (by omega) ?_
   rw [if_pos h7,Int.neg_zero,p2_zero,show (18:Int)+6-(w:Int)=24-(w:Int) by omega,show (18:Int)+6-0-(w:Int)=24-(w:Int) by omega,p6,p18]
   generalize wbT w0 (p2 (27-(w:Int))) i=W at *
   grind
  ·have hbig:8*8≤(i+1)*(n+(i+1)):=Nat.mul_le_mul (by omega) (by omega)
   have h2:=hw_div_n (p:=w) h1 (n:=(i+1)*(n+(i+1))) (k:=15) (by omega) hN0 hN1 (j:=6) (by rw [p6]; exact natCast_le (show 64≤(i+1)*(n+(i+1)) by omega)) hz (by omega) (by omega) (by omega)
   refine h2.mono (by omega) (by omega) ?_
   rw [if_neg h7,show (18:Int)+6-(w:Int)=24-(w:Int) by omega,show (18:Int)+6-6-(w:Int)=24-6-(w:Int) by omega,p6,p18]
   generalize p2 (24-6-(w:Int))=c at *
   generalize wbT w0 (p2 (27-(w:Int))) i=W at *
   have:(262144*(2*p2 (6-(w:Int)))+64*W+2*p2 (24-(w:Int)))*p2 (-6)=(W+4*c)*(p2 (-6)*64):=by
    have e1:262144*(2*p2 (6-(w:Int)))=128*c:=by
     have:p2 (24-(w:Int))=262144*p2 (6-(w:Int)):=c6
     grind
    rw [e1,← c18]; grind
   rw [this,pm6]; grind
 have h2:=hw_neg key
 have h3:=HasW.eq h2 (show - -bT n h (i+1)=bT n h (i+1) by grind)
 have h4:=h3.tight (K:=18) (bT_le n h8 (i+1)) (by rw [p18]; grind)
 have e3:(mS w t qI 0).2=0:=h1.h.e
 have e4:(iS (((i+1)*(n+(i+1)):Nat):Int) 0).2=0:=rfl
 have e6:turnS w t qI (((i+1)*(n+(i+1)):Nat):Int) 0=nS (dS w (mS w t qI 0).1 (iS (((i+1)*(n+(i+1)):Nat):Int) 0).1 0).1 0:=by
  unfold turnS
  rw [e3,e4,key.h.e]
 have e7:(turnS w t qI (((i+1)*(n+(i+1)):Nat):Int) 0).2=0:=by rw [e6]; rfl
 refine ⟨by unfold nBes; rw [e7],by rw [e6]; exact h4.pair,e7⟩
theorem serT_w {w:Nat} (hw:104≤w∧w≤160) {qI:I} {h:R} {Lq:Int} {n N:Nat} (hq:HasW (qI,0) (h*h) Lq 6 (2*p2 (6-(w:Int)))) (h8:ab h≤8) (hLq : -80≤Lq∧Lq≤0) (hn:n≤45) (hN:N≤119) {w0:Rat} (hw0:0≤w0) (hw1:w0≤40*p2 (27-(w:Int))) :
  ∀ (k i:Nat) (s t:I),i+k=N→HasW (s,0) (bU n h i) (-9900-260*(i:Int)) 25 (((i+1:Nat):Rat)*p2 (76-(w:Int)))→HasW (t,0) (bT n h i) (-9900-260*(i:Int)) 18 (wbT w0 (p2 (27-(w:Int))) i)→
   ∃ s' t',serT w (nBes w qI n) k i s t 0=(s',t',0)∧HasW (s',0) (bU n h N) (-9900-260*(N:Int)) 25 (((N+1:Nat):Rat)*p2 (76-(w:Int)))∧HasW (t',0) (bT n h N) (-9900-260*(N:Int)) 18 (p2 (75-(w:Int))):=by
 have c25:p2 (27-(w:Int))=4*p2 (25-(w:Int)):=by rw [show 27-(w:Int)=2+(25-(w:Int)) by omega,p2_add]; rfl
 have hcp:=p2_pos (27-(w:Int))
 have c75:p2 (75-(w:Int))=281474976710656*p2 (27-(w:Int)):=by rw [show 75-(w:Int)=48+(27-(w:Int)) by omega,p2_add]; rfl
 have c76:p2 (76-(w:Int))=562949953421312*p2 (27-(w:Int)):=by rw [show 76-(w:Int)=49+(27-(w:Int)) by omega,p2_add]; rfl
 have p25:p2 25=33554432:=by decide +kernel
 have cs:p2 (76-(w:Int))≤p2 (-28):=p2_le (by omega)
 have cs':p2 (-28)≤1 / 100000000:=by decide +kernel
 intro k
 induction k with
 | zero=>
  intro i s t hi hs ht
  have:i=N:=by omega
  subst this
  exact ⟨s,t,rfl,hs,ht.mono (Int.le_refl _) (Int.le_refl _) (wbT_fin hw hw0 hw1 hN).2⟩
 | succ k ih=>
  intro i s t hi hs ht
  have wi1:=wbT_fin hw hw0 hw1 (i:=i+1) (by omega)
  obtain ⟨e5,h4,-⟩:=bes_step hw hq h8 hLq hn hw0 hw1 (i:=i) (by omega) ht
  have hSu:bU n h (i+1)=bU n h i+bT n h (i+1):=by unfold bU bT; show h ^ n*(psum (bc n) (-(h*h)) (i+1)+bc n (i+1)*_ ^ (i+1))=_; grind
  have hm:ab (bU n h i+bT n h (i+1))≤ofQ 20866800:=by
   rw [← hSu]
   refine rle_trans (bU_le n h8 (i+1)) ?_
   have k1:((i+1+1:Nat):R)≤((120:Nat):R):=cast_le (by omega)
   have k2:=rmul_le k1 (show 0≤ofQ 173889 from ofQ_le.2 (by decide +kernel))
   rw [show ((120:Nat):R)=ofQ 120 from rfl,← ofQ_mul] at k2
   exact rle_trans k2 (ofQ_le.2 (by decide +kernel))
  have hi119:((i+1:Nat):Rat)≤119:=by exact_mod_cast natCast_le (show i+1≤119 by omega)
  have k119:=Rat.mul_le_mul_of_nonneg_right hi119 (Rat.le_of_lt (p2_pos (76-(w:Int))))
  have h5:=hw_add (p:=w) (K:=25) (m:=20866800) (hs.mono (L':=-9900-260*((i+1:Nat):Int)) (by omega) (Int.le_refl _) Rat.le_refl) (h4.mono (Int.le_refl _) (H':=25) (by omega) wi1.2) hm (by rw [p25]; grind) (by omega) (by omega) (by omega)
  have e6:((i+1+1:Nat):Rat)*p2 (76-(w:Int))=((i+1:Nat):Rat)*p2 (76-(w:Int))+p2 (76-(w:Int)):=ncast_succ (i+1) _
  have h6:=(h5.mono (Int.le_refl _) (Int.le_refl _) (w':=((i+1+1:Nat):Rat)*p2 (76-(w:Int))) (by rw [e6]; grind)).eq hSu.symm
  obtain ⟨s',t',g1,g2,g3⟩:=ih (i+1) _ _ (by omega) h6.pair h4
  refine ⟨s',t',?_,g2,g3⟩
  rw [serT,e5]
  simp only
  rw [h6.h.e]
  exact g1
theorem val_abs (d:D):val (absD d)=(if 0≤val d then val d else -val d):=by
 have hp:=p2_pos d.e
 unfold absD
 show (((d.m.natAbs:Nat):Int):Rat)*p2 d.e=if 0≤(d.m:Rat)*p2 d.e then (d.m:Rat)*p2 d.e else -((d.m:Rat)*p2 d.e)
 rcases Int.lt_or_le d.m 0 with h | h
 ·have e:((d.m.natAbs:Nat):Int) = -d.m:=by omega
  have hm:(d.m:Rat)<0:=by exact_mod_cast h
  have:(d.m:Rat)*p2 d.e<0:=by have:=Rat.mul_pos (show 0 < -(d.m:Rat) by grind) hp; grind
  rw [e,if_neg (by grind)]; push_cast; grind
 ·have e:((d.m.natAbs:Nat):Int)=d.m:=by omega
  have hm:(0:Rat)≤(d.m:Rat):=by exact_mod_cast h
  have:=Rat.mul_nonneg hm (Rat.le_of_lt hp)
  rw [e,if_pos this]
theorem offD_ok {t:I} {x:R} {L H:Int} {w m:Rat} (h:HasW (t,0) x L H w) (hx:ab x≤ofQ m):Okd (offD t) L H∧ab x≤ofQ (val (offD t))∧val (offD t)≤m+w:=by
 have o:=h.h.ok
 have e:=h.ends hx
 have a1:=okd_abs o.lo
 have a2:=okd_abs o.hi
 have v1:=val_abs t.lo
 have v2:=val_abs t.hi
 have hw:0≤w:=by have:=h.w; have:=o.le; grind
 have m1:=h.h.m.lo
 have m2:=h.h.m.hi
 simp only at e m1 m2
 have big:val (absD t.lo)≤val (offD t)∧val (absD t.hi)≤val (offD t):=by
  unfold offD
  split
  ·rename_i q; replace q:=(cmpD_gt _ _).1 q; exact ⟨Rat.le_of_lt q,Rat.le_refl⟩
  ·rename_i q; exact ⟨Rat.le_refl,by have:=mt (cmpD_gt _ _).2 q; grind⟩
 refine ⟨?_,?_,?_⟩
 ·unfold offD; split
  ·exact a2.1
  ·exact a1.1
 ·have k1:val t.hi≤val (offD t):=by rw [v2] at big; grind
  have k2 : -val (offD t)≤val t.lo:=by rw [v1] at big; grind
  have j1:=ofQ_le.2 k1
  have j2:=ofQ_le.2 k2
  rw [ofQ_neg] at j2
  exact ab_le.2 ⟨by grind,by grind⟩
 ·have k:val (offD t)=val (absD t.lo)∨val (offD t)=val (absD t.hi):=by unfold offD; split<;>simp
  have hm:0≤m:=by have:=ab_nonneg x; exact ofQ_le.1 (rle_trans this hx)
  rcases k with k | k
  ·rw [k,v1]; grind
  ·rw [k,v2]; grind
theorem be_start {w:Nat} (hw:104≤w∧w≤160) {hI:I} {h:R} {L:Int} (hh:HasW (hI,0) h L 3 0) (h8:ab h≤8) (hL : -40≤L∧L≤0) {n:Nat} (hn:n≤45):∃ t w0,beT w n (hI,0)=(t,0)∧0≤w0∧w0≤40*p2 (27-(w:Int))∧HasW (t,0) (rf n*h ^ n) (-9900) 9 w0∧HasW (mS w hI hI 0) (h*h) (L+L) 6 (2*p2 (6-(w:Int))):=by
 have hq:=hw_mul (p:=w) hh hh (by omega) (by omega) (by omega)
 have i1:HasW (intI 1,0) (1:R) 0 0 0:=hw_int (n:=1) (K:=0) (by omega) (by decide)
 have hcp:=p2_pos (14-(w:Int))
 have h1:=beP_w hw hh h8 hL hn n 0 (intI 1) (by omega) ((i1.mono (by omega) (by omega) Rat.le_refl).eq (by rw [rpow_zero,show rf 0=1 from rfl]; grind))
 have eq2:(mS w hI hI 0).2=0:=hq.h.e
 have e:beT w n (hI,0)=beP w hI n 0 (intI 1) 0:=by unfold beT; simp only; rw [eq2]; rfl
 have wl:=wbP_le (Rat.le_of_lt hcp) n
 have hn45:(n:Rat)≤45:=by exact_mod_cast natCast_le hn
 have c27:p2 (27-(w:Int))=8192*p2 (14-(w:Int)):=by rw [show 27-(w:Int)=13+(14-(w:Int)) by omega,p2_add]; rfl
 refine ⟨(beP w hI n 0 (intI 1) 0).1,wbP (p2 (14-(w:Int))) n,?_,wl.1,?_,(h1.mono (by omega) (Int.le_refl _) Rat.le_refl).pair,hq.mono (Int.le_refl _) (Int.le_refl _) ?_⟩
 ·have z:=h1.h.e
  rw [e]
  exact Prod.ext rfl z
 ·have:=Rat.mul_le_mul_of_nonneg_right hn45 (Rat.le_of_lt hcp); grind
 ·rw [show (3:Int)+3-(w:Int)=6-(w:Int) by omega]; grind
theorem be_has {p:Nat} (hp:8≤p∧p≤60) {hI:I} {h:R} {L:Int} (hh:HasW (hI,0) h L 3 0) (h8:ab h≤8) (hL : -40≤L∧L≤0) {n N:Nat} (hn:n≤45) (hN:62+p / 2≤N∧N≤119) :
  ∃ r,wS (p+96) (beW (p+96) n N (hI,0)).1 (offD (beW (p+96) n N (hI,0)).2.1) (beW (p+96) n N (hI,0)).2.2=r∧HasW r (J n h) (-41000) 26 (p2 (-12-(p:Int))):=by
 refine ⟨_,rfl,?_⟩
 have hw:104≤p+96∧p+96≤160:=by omega
 obtain ⟨t,w0,e1,z0,z1,ht,hq⟩:=be_start hw hh h8 hL hn
 have eq2:(mS (p+96) hI hI 0).2=0:=hq.h.e
 have hT:HasW (t,0) (bT n h 0) (-9900-260*((0:Nat):Int)) 18 (wbT w0 (p2 (27-((p+96:Nat):Int))) 0):=(ht.mono (by omega) (by omega) (show w0≤wbT w0 (p2 (27-((p+96:Nat):Int))) 0 from Rat.le_refl)).eq (by
  unfold bT bc; rw [rpow_zero,show rf 0=1 from rfl,Nat.add_zero]; grind)
 have c76:p2 (76-((p+96:Nat):Int))=562949953421312*p2 (27-((p+96:Nat):Int)):=by rw [show 76-((p+96:Nat):Int)=49+(27-((p+96:Nat):Int)) by omega,p2_add]; rfl
 have hpp:=p2_pos (27-((p+96:Nat):Int))
 have hS:HasW (t,0) (bU n h 0) (-9900-260*((0:Nat):Int)) 25 (((0+1:Nat):Rat)*p2 (76-((p+96:Nat):Int))):=(ht.mono (by omega) (by omega) (by
  rw [show ((0+1:Nat):Rat)=1 from rfl,c76]; grind)).eq (by
  unfold bU; show _=h ^ n*(0+bc n 0*_ ^ 0); unfold bc; rw [rpow_zero,show rf 0=1 from rfl,Nat.add_zero]; grind)
 obtain ⟨s',t',g1,g2,g3⟩:=serT_w hw hq.pair h8 (by omega) hn hN.2 z0 z1 N 0 t t (by omega) hS hT
 have eW:beW (p+96) n N (hI,0)=(s',t',0):=by unfold beW; rw [e1]; exact g1
 rw [eW]
 have hfar:=bT_far n h8 (i:=N) (by omega)
 have hfar2:ab (bT n h N)≤ofQ (p2 (-83-(p:Int))):=by
  refine rle_trans hfar ?_
  have k1:=rmul_le' (hf_le (show 91+p≤2*(N-16) by omega)) (show 0≤ofQ 256 from ofQ_le.2 (by decide +kernel))
  refine rle_trans k1 ?_
  rw [← p2_neg_nat,← ofQ_mul,show (256:Rat)=p2 8 by decide +kernel,← p2_add,show (8:Int) + -((91+p:Nat):Int) = -83-(p:Int) by omega]
  exact rle_refl _
 obtain ⟨o1,o2,o3⟩:=offD_ok g3 hfar2
 have htail:=be_tail n h8 (N:=N) (by omega)
 have hm:ab (bU n h N)≤ofQ 20866800:=by
  refine rle_trans (bU_le n h8 N) ?_
  have k1:((N+1:Nat):R)≤((120:Nat):R):=cast_le (by omega)
  have k2:=rmul_le k1 (show 0≤ofQ 173889 from ofQ_le.2 (by decide +kernel))
  rw [show ((120:Nat):R)=ofQ 120 from rfl,← ofQ_mul] at k2
  exact rle_trans k2 (ofQ_le.2 (by decide +kernel))
 have p25:p2 25=33554432:=by decide +kernel
 have q21:p2 (75-((p+96:Nat):Int))=p2 (-21-(p:Int)):=by congr 1; omega
 have q20:p2 (76-((p+96:Nat):Int))=p2 (-20-(p:Int)):=by congr 1; omega
 have q83:p2 (-83-(p:Int))≤p2 (-21-(p:Int)):=p2_le (by omega)
 have q71:p2 (25-((p+96:Nat):Int))≤p2 (-21-(p:Int)):=p2_le (by omega)
 have d20:p2 (-20-(p:Int))=2*p2 (-21-(p:Int)):=by rw [show -20-(p:Int)=1+(-21-(p:Int)) by omega,p2_add]; rfl
 have d12:p2 (-12-(p:Int))=512*p2 (-21-(p:Int)):=by rw [show -12-(p:Int)=9+(-21-(p:Int)) by omega,p2_add]; rfl
 have s21:p2 (-21-(p:Int))≤p2 (-29):=p2_le (by omega)
 have s29:p2 (-29)≤1 / 100000000:=by decide +kernel
 have hp21:=p2_pos (-21-(p:Int))
 have hN120:((N+1:Nat):Rat)≤120:=by exact_mod_cast natCast_le (show N+1≤120 by omega)
 have k120:=Rat.mul_le_mul_of_nonneg_right hN120 (Rat.le_of_lt (p2_pos (-20-(p:Int))))
 rw [q21] at g3 o3
 rw [q20] at g2
 have h7:=hw_wide (p:=p+96) (K:=25) (m:=20866800) g2 (o1.mono (Int.le_refl _) (show (18:Int)≤25 by omega)) (y:=J n h) (rle_trans htail o2) hm (by rw [p25]; grind) (by omega) (by omega) (by omega)
 exact h7.mono (by omega) (by omega) (by grind)
def kD (d:D):Nat:=(flD (absD d)).toNat
theorem bess_terms {d:D} {L H:Int} (hd:Okd d L H) (hLH:H+1-L≤200) (hL : -100≤L) (hH:H≤10) {M:Nat} (hM:M≤32) (hv:val (absD d)≤(M:Rat)) {p:Nat} (hp:2≤p∧p≤200):kD d≤M∧bess_Terms (dy d) (p:Int)=some (((2*(kD d+1)+p / 2+60:Nat):Int),0):=by
 have oa:=(okd_abs hd).1
 have hb:blen d.m.natAbs≤200:=by
  by_cases h0:d.m=0
  ·rw [h0]; decide
  ·have:=okd_size hd h0; omega
 have fv:=flD_val (absD d)
 have v0:0≤val (absD d):=by
  have:(0:Rat)≤((absD d).m:Rat):=by exact_mod_cast intCast_le (absD_m d)
  exact Rat.mul_nonneg this (Rat.le_of_lt (p2_pos _))
 have f0:0≤flD (absD d):=by
  have:((-1:Int):Rat)<(flD (absD d):Rat):=by
   have e:((-1:Int):Rat) = -1:=rfl
   rw [e]; grind
  have:=Rat.intCast_lt_intCast.1 this
  omega
 have fM:flD (absD d)≤(M:Int):=by
  have:(flD (absD d):Rat)≤((M:Int):Rat):=by rw [Rat.intCast_natCast]; exact Rat.le_trans fv.1 hv
  exact Rat.intCast_le_intCast.1 this
 have hk:flD (absD d)=((kD d:Nat):Int):=by unfold kD; omega
 generalize kD d=k at *
 have hc:¬cmpD (absD d) (fromD 32)>0:=by
  intro q
  have q1:=(cmpD_gt _ _).1 q
  rw [val_from] at q1
  have:(M:Rat)≤32:=by exact_mod_cast natCast_le hM
  have e:((32:Int):Rat)=32:=rfl
  rw [e] at q1; grind
 refine ⟨by omega,?_⟩
 unfold bess_Terms bess_Terms_j1 bess_bare
 rw [if_neg (by omega),if_neg (by omega),dyad_Right_dy hd.w.1 hd.w.sz]
 simp only [obn]
 rw [if_neg (by simp),bits_dy hd.w.sz]
 simp only [obn]
 rw [decide_eq_false (by omega),if_neg (by simp),dyad_From_eq (by omega)]
 simp only [obn]
 rw [dy_abs]
 refine Eq.trans (congrArg (fun o=>Option.bind o _) (dyad_Cmp_eq oa.w (WD_from (n:=32) (by omega)))) ?_
 simp only [obn]
 rw [if_neg hc]
 refine Eq.trans (congrArg (fun o=>Option.bind o _) (dyad_Floor_eq oa.w)) ?_
 simp only [obn]
 have hfl:floorS (absD d)=((k:Int),0):=by
  unfold floorS
  rw [if_pos (inR_of oa.w.odd0 oa.g oa.b (by omega) (by omega)),hk]
 rw [hfl]
 simp only
 rw [if_neg (by simp),zint_Small_eq (by rw [Int.natAbs_natCast]; exact SZ_pow (k:=6) (by omega) (by omega))]
 simp only [obn]
 have hs:smallZ (k:Int)=((k:Int),true):=by unfold smallZ; rw [if_pos (by omega)]
 rw [hs]
 simp only
 have ek:IntKind.i64.wrap ((k:Int)+1)=((k+1:Nat):Int):=by rw [w64 (by omega) (by omega)]; omega
 rw [ek,show (2:Int)=((2:Nat):Int) by rfl,tdivn,← Int.natCast_mul,w64n (by omega),w64n (by omega),← Int.natCast_add,w64n (by omega),w64 (by omega) (by omega)]
 congr 2
theorem bess_one {w:Nat} (hw:2≤w∧w≤400) {y t:I} (hy:SI y) (ht:SI t) {i:Int} (hi : -1000000≤i∧i≤1000000) (e:Int):bess_J_1 (iv t) (iv y) i e (w:Int)=some (iv (dS w (mS w t y e).1 (iS i (mS w t y e).2).1 (iS i (mS w t y e).2).2).1,(dS w (mS w t y e).1 (iS i (mS w t y e).2).1 (iS i (mS w t y e).2).2).2):=by
 unfold bess_J_1
 rw [pMul hw ht hy]
 simp only [obn]
 rw [pInt hi]
 simp only [obn]
 refine Eq.trans (congrArg (fun o=>Option.bind o _) (pDiv hw (SI_mS hw.2 t y e) (SI_iS hi (mS w t y e).2) (iS i (mS w t y e).2).2)) ?_
 rfl
theorem bess_pw {w n:Nat} (hw:2≤w∧w≤400) (hn:n≤64) {hI:I} (hh:SI hI) (eh:Int) (x181:Int × Int) (q:AI × Int) (p:Int):∀ (k i:Nat) (t:I) (e:Int),i+k=n→SI t→∀ f,k<f→
  bess_J_l6 (n:Int) (iv hI,eh) (0,0,(w:Int)) x181 q p f (i:Int) e (iv t).Lo.M.Neg (iv t).Lo.M.Mag (iv t).Lo.E (iv t).Hi.M.Neg (iv t).Hi.M.Mag (iv t).Hi.E=bess_J_j2 x181 q (n:Int) (0,0,(w:Int)) p (beP w hI k i t e).2 (iv (beP w hI k i t e).1).Lo.M.Neg (iv (beP w hI k i t e).1).Lo.M.Mag (iv (beP w hI k i t e).1).Lo.E (iv (beP w hI k i t e).1).Hi.M.Neg (iv (beP w hI k i t e).1).Hi.M.Mag (iv (beP w hI k i t e).1).Hi.E:=by
 intro k
 induction k with
 | zero=>
  intro i t e hi ht f hf
  obtain ⟨f,rfl⟩:∃ k,f=k+1:=⟨f-1,by omega⟩
  rw [bess_J_l6,if_neg (by omega)]
  rfl
 | succ k ih=>
  intro i t e hi ht f hf
  obtain ⟨f,rfl⟩:∃ k,f=k+1:=⟨f-1,by omega⟩
  rw [bess_J_l6,if_pos (by omega),show ((i:Int)+1)=((i+1:Nat):Int) by omega,w64n (by omega),ivEta]
  refine Eq.trans (congrArg (fun o=>Option.bind o _) (bess_one hw hh ht (i:=((i+1:Nat):Int)) (by omega) e)) ?_
  simp only [obn]
  exact ih (i+1) _ _ (by omega) (SI_dS hw.2 _ (SI_iS (by omega) _) _) f (by omega)
theorem bess_j4 {w p:Nat} (hw:2≤w∧w≤400) (hp:2≤p∧p≤400) {s:I} (hs:SI s) {d:D} (hd:WD d) (h0:0≤val d) (e:Int):bess_J_j4 (iv s).Lo.M.Neg (iv s).Lo.M.Mag (iv s).Lo.E (iv s).Hi.M.Neg (iv s).Hi.M.Mag (iv s).Hi.E e (0,0,(w:Int)) (p:Int) ((dy d).M).Neg ((dy d).M).Mag (dy d).E=some (iv (doneS p (wS w s d e)).1,(doneS p (wS w s d e)).2):=by
 unfold bess_J_j4 iv_trouble_Err
 rw [ivEta]
 have k:=ivWide_eq hs.ok hd h0 hw e
 have S:SI (wS w s d e).1:=SI_st (SI_wide hs h0 hw.2) e
 refine Eq.trans (congrArg (fun o=>Option.bind o _) k) ?_
 simp only [obn]
 have ee:(st e zI (wideI w s d))=wS w s d e:=rfl
 rw [ee]
 generalize wS w s d e=r at *
 obtain ⟨a,f⟩:=r
 simp only at S ⊢
 by_cases h:f=0
 ·subst h
  rw [if_neg (by simp),ivNew_eq hp]
  simp only [obn]
  refine Eq.trans (congrArg (fun o=>Option.bind o _) (ivOut_eq S.ok hp 0)) ?_
  rfl
 ·rw [if_pos h]
  unfold doneS
  rw [st_ne h,iv_z]
theorem abs_nonneg (d:D):0≤val (absD d):=by
 have:(0:Rat)≤((absD d).m:Rat):=by exact_mod_cast intCast_le (absD_m d)
 exact Rat.mul_nonneg this (Rat.le_of_lt (p2_pos _))
theorem bess_end {w p:Nat} (hw:2≤w∧w≤400) (hp:2≤p∧p≤400) {s t:I} (hs:SI s) (ht:SI t) (e:Int):bess_J_j3 (0,0,(w:Int)) (p:Int) e (iv t).Lo.M.Neg (iv t).Lo.M.Mag (iv t).Lo.E (iv t).Hi.M.Neg (iv t).Hi.M.Mag (iv t).Hi.E (iv s).Lo.M.Neg (iv s).Lo.M.Mag (iv s).Lo.E (iv s).Hi.M.Neg (iv s).Hi.M.Mag (iv s).Hi.E=some (iv (doneS p (wS w s (offD t) e)).1,(doneS p (wS w s (offD t) e)).2):=by
 have w1:=WD_abs ht.ok.1
 have w2:=WD_abs ht.ok.2.1
 have n1:=abs_nonneg t.lo
 have n2:=abs_nonneg t.hi
 have b1:(⟨⟨false,(iv t).Lo.M.Mag⟩,(iv t).Lo.E⟩:AD)=dy (absD t.lo):=dy_abs t.lo
 have b2:(⟨⟨false,(iv t).Hi.M.Mag⟩,(iv t).Hi.E⟩:AD)=dy (absD t.hi):=dy_abs t.hi
 have eo:offD t=if cmpD (absD t.hi) (absD t.lo)>0 then absD t.hi else absD t.lo:=rfl
 unfold bess_J_j3 bess_bare
 simp only [obn]
 rw [b1,b2,eo]
 generalize absD t.lo=lo at *
 generalize absD t.hi=hi at *
 refine Eq.trans (congrArg (fun o=>Option.bind o _) (dyad_Cmp_eq w2 w1)) ?_
 simp only [obn]
 have k1:=bess_j4 hw hp hs w1 n1 e
 have k2:=bess_j4 hw hp hs w2 n2 e
 by_cases hc:cmpD hi lo>0
 ·simp only [if_pos hc]
  rw [← b2] at k2
  exact k2
 ·simp only [if_neg hc]
  rw [← b1] at k1
  exact k1
theorem bess_sum {w p n N:Nat} (hw:2≤w∧w≤400) (hp:2≤p∧p≤400) (hn:n≤64) (hN:N≤400) {qI:I} (hq:SI qI) (eq0 x0:Int):∀ (k i:Nat) (s t:I) (e:Int),i+k=N→SI s→SI t→∀ f,k<f→
  bess_J_l5 ((N:Int),x0) (iv qI,eq0) (n:Int) (0,0,(w:Int)) (p:Int) f (i:Int) e (iv t).Lo.M.Neg (iv t).Lo.M.Mag (iv t).Lo.E (iv t).Hi.M.Neg (iv t).Hi.M.Mag (iv t).Hi.E (iv s).Lo.M.Neg (iv s).Lo.M.Mag (iv s).Lo.E (iv s).Hi.M.Neg (iv s).Hi.M.Mag (iv s).Hi.E=some (iv (doneS p (wS w (serT w (nBes w qI n) k i s t e).1 (offD (serT w (nBes w qI n) k i s t e).2.1) (serT w (nBes w qI n) k i s t e).2.2)).1,(doneS p (wS w (serT w (nBes w qI n) k i s t e).1 (offD (serT w (nBes w qI n) k i s t e).2.1) (serT w (nBes w qI n) k i s t e).2.2)).2):=by
 intro k
 induction k with
 | zero=>
  intro i s t e hi hs ht f hf
  obtain ⟨f,rfl⟩:∃ k,f=k+1:=⟨f-1,by omega⟩
  rw [bess_J_l5,if_neg (by simp only; omega)]
  exact bess_end hw hp hs ht e
 | succ k ih=>
  intro i s t e hi hs ht f hf
  obtain ⟨f,rfl⟩:∃ k,f=k+1:=⟨f-1,by omega⟩
  have hb:(i+1)*(n+(i+1))≤1000000:=by
   have:(i+1)*(n+(i+1))≤401*465:=Nat.mul_le_mul (by omega) (by omega)
   omega
  have ei:IntKind.i64.wrap (IntKind.i64.wrap ((i:Int)+1)*IntKind.i64.wrap (IntKind.i64.wrap ((n:Int)+(i:Int))+1))=(((i+1)*(n+(i+1)):Nat):Int):=by
   rw [w64 (x:=(i:Int)+1) (by omega) (by omega),w64 (x:=(n:Int)+(i:Int)) (by omega) (by omega),w64 (x:=(n:Int)+(i:Int)+1) (by omega) (by omega),show (i:Int)+1=((i+1:Nat):Int) by omega,show (n:Int)+(i:Int)+1=((n+(i+1):Nat):Int) by omega,← Int.natCast_mul,w64n (by omega)]
  have sN:SI (turnS w t qI (((i+1)*(n+(i+1)):Nat):Int) e).1:=SI_turn hw.2 t qI (by omega) e
  have eN:nBes w qI n (i+1) t e=((turnS w t qI (((i+1)*(n+(i+1)):Nat):Int) e).1,(turnS w t qI (((i+1)*(n+(i+1)):Nat):Int) e).1,(turnS w t qI (((i+1)*(n+(i+1)):Nat):Int) e).2):=rfl
  rw [bess_J_l5,if_pos (by simp only; omega),ivEta,ivEta,ei]
  refine Eq.trans (congrArg (fun o=>Option.bind o _) (bess_one hw hq ht (by omega) e)) ?_
  simp only [obn]
  refine Eq.trans (congrArg (fun o=>Option.bind o _) (pNeg (SI_dS hw.2 _ (SI_iS (by omega) _) _) _ (w:Int))) ?_
  simp only [obn]
  refine Eq.trans (congrArg (fun o=>Option.bind o _) (pAdd hw hs sN (turnS w t qI (((i+1)*(n+(i+1)):Nat):Int) e).2)) ?_
  simp only [obn]
  rw [w64 (x:=(i:Int)+1) (by omega) (by omega),show (i:Int)+1=((i+1:Nat):Int) by omega,serT,eN]
  exact ih (i+1) _ _ _ (by omega) (SI_aS hw.2 hs sN _) sN f (by omega)
def hfS (d:D):I × Int:=scS ⟨d,d⟩ (-1) 0
theorem bess_J_eq {d:D} (hd:WD d) (hb:blen d.m.natAbs≤1000) (h0:d.m≠0) {n p N:Nat} (hn:n≤64) (hp:2≤p∧p≤200) (hN:N≤400) (ht:bess_Terms (dy d) (p:Int)=some ((N:Int),0)):bess_J (n:Int) (dy d) (p:Int)=some (iv (beS (p+96) p n N (hfS d)).1,(beS (p+96) p n N (hfS d)).2):=by
 have hw:2≤p+96∧p+96≤400:=by omega
 have hl:((dy d).M.Mag.length:Int)≠0:=by
  rw [dy_mag]
  have:digs d.m.natAbs≠[]:=by
   intro k
   have:=dvd d.m.natAbs
   rw [k] at this
   have:(0:Nat)=d.m.natAbs:=this
   omega
  have:=List.length_pos_iff.2 this
  omega
 have s1:=SI_pt hd hb
 have s2:SI (hfS d).1:=SI_sc s1 (-1) 0
 have e2:=pScale s1 (n:=-1) (by omega) 0 ((p+96:Nat):Int)
 have e3:=pMul hw s2 s2 (hfS d).2
 have s3:=SI_mS hw.2 (hfS d).1 (hfS d).1 (hfS d).2
 have e4:=pInt (n:=1) (by omega) (mS (p+96) (hfS d).1 (hfS d).1 (hfS d).2).2 ((p+96:Nat):Int)
 have s4:=SI_iS (n:=1) (by omega) (mS (p+96) (hfS d).1 (hfS d).1 (hfS d).2).2
 unfold bess_J bess_J_j1
 rw [if_neg (by omega),decide_eq_false (by omega),if_neg (by simp),ht]
 simp only [obn]
 rw [if_neg (by simp),w64 (by omega) (by omega),show (p:Int)+96=((p+96:Nat):Int) by omega,ivNew_eq hw]
 simp only [obn]
 rw [if_neg hl,ivPoint_eq hd,st_zero]
 simp only [obn]
 refine Eq.trans (congrArg (fun o=>Option.bind o _) e2) ?_
 simp only [obn]
 refine Eq.trans (congrArg (fun o=>Option.bind o _) e3) ?_
 simp only [obn]
 refine Eq.trans (congrArg (fun o=>Option.bind o _) e4) ?_
 simp only [obn]
 have k:=bess_pw hw hn s2 (hfS d).2 ((N:Int),(0:Int)) (iv (mS (p+96) (hfS d).1 (hfS d).1 (hfS d).2).1,(mS (p+96) (hfS d).1 (hfS d).1 (hfS d).2).2) (p:Int) n 0 _ (iS 1 (mS (p+96) (hfS d).1 (hfS d).1 (hfS d).2).2).2 (by omega) s4 fuel (by unfold fuel; omega)
 refine Eq.trans k ?_
 have sB:∀ (k i:Nat) (t:I) (e:Int),i+k≤64→SI t→SI (beP (p+96) (hfS d).1 k i t e).1:=by
  intro k
  induction k with
  | zero=>intro i t e _ h; exact h
  | succ k ih=>intro i t e hi h; exact ih (i+1) _ _ (by omega) (SI_dS hw.2 _ (SI_iS (by omega) _) _)
 have sT:=sB n 0 (iS 1 (mS (p+96) (hfS d).1 (hfS d).1 (hfS d).2).2).1 (iS 1 (mS (p+96) (hfS d).1 (hfS d).1 (hfS d).2).2).2 (by omega) s4
 unfold bess_J_j2
 have k2:=bess_sum hw (show 2≤p∧p≤400 by omega) hn hN s3 (mS (p+96) (hfS d).1 (hfS d).1 (hfS d).2).2 0 N 0 _ _ (beT (p+96) n (hfS d)).2 (by omega) sT sT fuel (by unfold fuel; omega)
 exact k2
theorem bess_J_zero {d:D} (h0:d.m=0) {n p N:Nat} (hn:n≤64) (hp:2≤p∧p≤200) (ht:bess_Terms (dy d) (p:Int)=some ((N:Int),0)):bess_J (n:Int) (dy d) (p:Int)=some (iv (intI ((1-n:Nat):Int)),0):=by
 have hw:2≤p+96∧p+96≤400:=by omega
 have hl:((dy d).M.Mag.length:Int)=0:=by rw [dy_mag,h0,show Int.natAbs 0=0 from rfl,digs_zero]; rfl
 have hm:mx 0 (IntKind.i64.wrap (1-(n:Int)))=((1-n:Nat):Int):=by
  rw [w64 (by omega) (by omega)]; unfold mx; split<;>omega
 unfold bess_J bess_J_j1
 rw [if_neg (by omega),decide_eq_false (by omega),if_neg (by simp),ht]
 simp only [obn]
 rw [if_neg (by simp),w64 (by omega) (by omega),show (p:Int)+96=((p+96:Nat):Int) by omega,ivNew_eq hw]
 simp only [obn]
 rw [if_pos hl,hm]
 refine Eq.trans (congrArg (fun o=>Option.bind o _) (pInt (n:=((1-n:Nat):Int)) (by omega) 0 ((p+96:Nat):Int))) ?_
 rfl
def sgI (b:Bool) (a:I):I:=if b then negI a else a
theorem mul_neg3 {a b:I} {L H M K:Int} (ha:OkI a L H) (hb:OkI b M K) {p:Nat} (hp:1≤p) (hL : -60000≤L+M) (hH:H+K≤60000):mulI p a (negI b)=mulI p (negI a) b:=by
 have:=mul_neg2 ha.neg hb hp hL hH
 rwa [negI_negI] at this
theorem mS_sg {t h:I × Int} {x y:R} {L H M K:Int} (ht:Has t x L H) (hh:Has h y M K) {p:Nat} (hp:1≤p) (hL : -60000≤L+M) (hH:H+K≤60000) (b:Bool):mS p (sgI b t.1) (negI h.1) 0=(sgI (!b) (mS p t.1 h.1 0).1,0):=by
 obtain ⟨c,e1,e2⟩:=mul_neg (p:=p) ht.ok hh.ok hp hL hH
 have m1:mS p t.1 h.1 0=(c,0):=by unfold mS; rw [st_zero,e1]
 rw [m1]
 cases b with
 | false=>
  show mS p t.1 (negI h.1) 0=(negI c,0)
  unfold mS; rw [st_zero,mul_neg3 ht.ok hh.ok hp hL hH,e2]
 | true=>
  show mS p (negI t.1) (negI h.1) 0=(c,0)
  unfold mS; rw [st_zero,mul_neg2 ht.ok hh.ok hp hL hH,e1]
theorem beP_neg {w:Nat} (hw:104≤w∧w≤160) {hI:I} {h:R} {L:Int} (hh:HasW (hI,0) h L 3 0) (h8:ab h≤8) (hL : -40≤L∧L≤0) {n:Nat} (hn:n≤45) :
  ∀ (k i:Nat) (t:I) (b:Bool),i+k=n→HasW (t,0) (rf i*h ^ i) (-(220*(i:Int))) 9 (wbP (p2 (14-(w:Int))) i)→beP w (negI hI) k i (sgI b t) 0=(sgI (b != decide (k % 2=1)) (beP w hI k i t 0).1,0):=by
 intro k
 induction k with
 | zero=>intro i t b _ _; show (sgI b t,(0:Int))=(sgI (b != false) t,0); rw [Bool.bne_false]
 | succ k ih=>
  intro i t b hi ht
  have h1:=hw_mul (p:=w) ht hh (by omega) (by omega) (by omega)
  have s:=beP_w hw hh h8 hL (n:=i+1) (by omega) 1 i t (by omega) ht
  rw [show beP w hI 1 i t 0=((nExp w hI (i+1) t 0).1,(nExp w hI (i+1) t 0).2.2) from rfl] at s
  have e3:(mS w t hI 0).2=0:=h1.h.e
  have e4:(iS ((i+1:Nat):Int) 0).2=0:=rfl
  have e0:(nExp w hI (i+1) t 0).1=(dS w (mS w t hI 0).1 (iS ((i+1:Nat):Int) 0).1 0).1:=by unfold nExp; rw [e3]; rfl
  have e2:(nExp w hI (i+1) t 0).2.2=0:=s.h.e
  have m:=mS_sg ht.h hh.h (p:=w) (by omega) (by omega) (by omega) b
  simp only at m
  have key:nExp w (negI hI) (i+1) (sgI b t) 0=(sgI (!b) (nExp w hI (i+1) t 0).1,sgI (!b) (nExp w hI (i+1) t 0).1,0):=by
   rw [e0]
   unfold nExp
   rw [m]
   simp only
   rw [e4]
   have dn:=div_n_neg (p:=w) h1.h (n:=i+1) (K:=6) (by omega) (by omega) (by omega) (by omega) (by omega) (by omega)
   have d0:=has_div_n (p:=w) h1.h (n:=i+1) (K:=6) (by omega) (by omega) (by omega) (exp_step h i) (by omega) (by omega) (by omega)
   cases b with
   | false=>
    show ((dS w (negI (mS w t hI 0).1) _ 0).1,(dS w (negI (mS w t hI 0).1) _ 0).1,(dS w (negI (mS w t hI 0).1) _ 0).2)=_
    rw [dn]; rfl
   | true=>
    show ((dS w (mS w t hI 0).1 _ 0).1,(dS w (mS w t hI 0).1 _ 0).1,(dS w (mS w t hI 0).1 _ 0).2)=_
    rw [d0.e]; rfl
  have g:=ih (i+1) (nExp w hI (i+1) t 0).1 (!b) (by omega) (by rw [e2] at s; exact s)
  rw [beP,beP,key]
  simp only
  rw [e2,g]
  congr 2
  have:decide ((k+1) % 2=1) = !decide (k % 2=1):=by
   rcases Nat.mod_two_eq_zero_or_one k with q | q<;>simp [q]<;>omega
  rw [this]
  cases b<;>cases decide (k % 2=1)<;>rfl
theorem aS_sg {s t:I × Int} {x y:R} {L H:Int} (hs:Has s x L H) (ht:Has t y L H) {p:Nat} (hp:1≤p) (hL : -60000≤L) (hH:H+1≤60000) (b:Bool):aS p (sgI b s.1) (sgI b t.1) 0=(sgI b (aS p s.1 t.1 0).1,0):=by
 obtain ⟨c,e1,e2⟩:=add_neg (p:=p) hs.ok ht.ok hp hL hH
 have m1:aS p s.1 t.1 0=(c,0):=by unfold aS; rw [st_zero,e1]
 rw [m1]
 cases b with
 | false=>exact m1
 | true=>show aS p (negI s.1) (negI t.1) 0=(negI c,0); unfold aS; rw [st_zero,e2]
theorem serT_neg {w:Nat} (hw:104≤w∧w≤160) {qI:I} {h:R} {Lq:Int} {n N:Nat} (hq:HasW (qI,0) (h*h) Lq 6 (2*p2 (6-(w:Int)))) (h8:ab h≤8) (hLq : -80≤Lq∧Lq≤0) (hn:n≤45) (hN:N≤119) {w0:Rat} (hw0:0≤w0) (hw1:w0≤40*p2 (27-(w:Int))) (b:Bool) :
  ∀ (k i:Nat) (s t:I),i+k=N→HasW (s,0) (bU n h i) (-9900-260*(i:Int)) 25 (((i+1:Nat):Rat)*p2 (76-(w:Int)))→HasW (t,0) (bT n h i) (-9900-260*(i:Int)) 18 (wbT w0 (p2 (27-(w:Int))) i)→
   serT w (nBes w qI n) k i (sgI b s) (sgI b t) 0=(sgI b (serT w (nBes w qI n) k i s t 0).1,sgI b (serT w (nBes w qI n) k i s t 0).2.1,0):=by
 intro k
 induction k with
 | zero=>intro i s t _ _ _; rfl
 | succ k ih=>
  intro i s t hi hs ht
  have hN0:0<(i+1)*(n+(i+1)):=Nat.mul_pos (by omega) (by omega)
  have hN1:(i+1)*(n+(i+1))≤2 ^ 15:=by
   have:(i+1)*(n+(i+1))≤119*164:=Nat.mul_le_mul (by omega) (by omega)
   omega
  obtain ⟨eN,wt,tz⟩:=bes_step hw hq h8 hLq hn hw0 hw1 (i:=i) (by omega) ht
  have tn:turnS w (sgI b t) qI (((i+1)*(n+(i+1)):Nat):Int) 0=(sgI b (turnS w t qI (((i+1)*(n+(i+1)):Nat):Int) 0).1,0):=by
   cases b with
   | false=>exact Prod.ext rfl tz
   | true=>exact turn_neg (p:=w) (z:=0) ht.h hq.h (n:=(i+1)*(n+(i+1))) (k:=15) (by omega) hN0 hN1 (by omega) (by omega) (by omega)
  generalize (turnS w t qI (((i+1)*(n+(i+1)):Nat):Int) 0).1=t1 at *
  have eN2:nBes w qI n (i+1) (sgI b t) 0=(sgI b t1,sgI b t1,0):=by unfold nBes; simp only [tn]
  obtain ⟨s2,t2,g1,g2,-⟩:=serT_w hw hq h8 hLq hn (N:=i+1) (by omega) hw0 hw1 1 i s t (by omega) hs ht
  have ea:aS w s t1 0=(s2,0):=by
   have k:serT w (nBes w qI n) 1 i s t 0=((aS w s t1 0).1,t1,(aS w s t1 0).2):=by rw [serT,eN]; rfl
   rw [k] at g1
   simp only [Prod.mk.injEq] at g1
   exact Prod.ext g1.1 g1.2.2
  have hs':Has (s,0) (bU n h i) (-9900-260*((i+1:Nat):Int)) 25:=hs.h.mono (by omega) (Int.le_refl _)
  have ht':Has (t1,0) (bT n h (i+1)) (-9900-260*((i+1:Nat):Int)) 25:=wt.h.mono (Int.le_refl _) (by omega)
  have asg:=aS_sg hs' ht' (p:=w) (by omega) (by omega) (by omega) b
  simp only at asg
  rw [ea] at asg
  rw [serT,serT,eN,eN2]
  simp only
  rw [asg,ea]
  exact ih (i+1) s2 t1 (by omega) g2 wt
theorem offD_neg {t:I} {L H:Int} (h:OkI t L H):offD (negI t)=offD t:=by
 have e1:absD (negI t).lo=absD t.hi:=by show absD (negD t.hi)=_; unfold absD negD; simp
 have e2:absD (negI t).hi=absD t.lo:=by show absD (negD t.lo)=_; unfold absD negD; simp
 have o1:=(okd_abs h.lo).1
 have o2:=(okd_abs h.hi).1
 unfold offD
 rw [e1,e2]
 by_cases a:cmpD (absD t.lo) (absD t.hi)>0
 ·have k:=(cmpD_gt _ _).1 a
  rw [if_pos a,if_neg (fun b=>by have:=(cmpD_gt _ _).1 b; grind)]
 ·rw [if_neg a]
  by_cases b:cmpD (absD t.hi) (absD t.lo)>0
  ·rw [if_pos b]
  ·rw [if_neg b]
   have k1:=mt (cmpD_gt _ _).2 a
   have k2:=mt (cmpD_gt _ _).2 b
   exact okD_ext o2.w.1 o1.w.1 (by grind)
theorem bT_zero (n:Nat) (h:R):bT n h 0=rf n*h ^ n:=by
 unfold bT bc; rw [rpow_zero,show rf 0=1 from rfl,Nat.add_zero]; grind
theorem bU_zero (n:Nat) (h:R):bU n h 0=rf n*h ^ n:=by
 unfold bU; show h ^ n*(0+bc n 0*_ ^ 0)=_; unfold bc; rw [rpow_zero,show rf 0=1 from rfl,Nat.add_zero]; grind
theorem be_w0 {p:Nat} {w0:Rat} (z1:w0≤40*p2 (27-((p+96:Nat):Int))):w0≤((0+1:Nat):Rat)*p2 (76-((p+96:Nat):Int)):=by
 have c76:p2 (76-((p+96:Nat):Int))=562949953421312*p2 (27-((p+96:Nat):Int)):=by rw [show 76-((p+96:Nat):Int)=49+(27-((p+96:Nat):Int)) by omega,p2_add]; rfl
 have hpp:=p2_pos (27-((p+96:Nat):Int))
 rw [show ((0+1:Nat):Rat)=1 from rfl,c76]; grind
theorem hfS_has {d:D} {L:Int} (hd:Okd d L 4) (hL : -39≤L∧L≤0):hfS d=((hfS d).1,0)∧HasW ((hfS d).1,0) (ofQ (val d)*hf) (L-1) 3 0∧ab (ofQ (val d)*hf)≤8:=by
 have h:=hw_scale (n:=-1) (hw_point hd) (by omega) (by omega)
 have h':HasW (hfS d) (ofQ (val d)*hf) (L-1) 3 0:=(h.mono (by omega) (by omega) (by grind)).eq (by rw [p2_half]; rfl)
 refine ⟨Prod.ext rfl h'.h.e,h'.pair,?_⟩
 have hb:=hd.b
 unfold B at hb
 rw [show p2 4=16 by decide +kernel] at hb
 have b1:=ofQ_le.2 hb.1
 have b2:=ofQ_le.2 hb.2
 have hf2:=hf_two
 have hfp:=hf_pos
 have k1:=rmul_le b1 (show 0≤hf by grind)
 have k2:=rmul_le b2 (show 0≤hf by grind)
 have e:ofQ 16*hf=8:=by
  have a:ofQ 16=ofQ 8*ofQ 2:=by rw [← ofQ_mul,show (8:Rat)*2=16 by decide +kernel]
  rw [a,show ofQ 8=(8:R) from rfl,show ofQ 2=(2:R) from rfl]; grind
 rw [ofQ_neg] at k1
 exact ab_le.2 ⟨by grind,by grind⟩
theorem hfS_neg {d:D} {L:Int} (hd:Okd d L 4) (hL : -39≤L∧L≤0):hfS (negD d)=(negI (hfS d).1,0):=by
 obtain ⟨c,e,o,e1,e2⟩:=scaleI_ok (a:=⟨d,d⟩) (n:=-1) ⟨hd,hd,Rat.le_refl⟩ (by omega) (by omega)
 obtain ⟨c',e',o',e1',e2'⟩:=scaleI_ok (a:=⟨negD d,negD d⟩) (n:=-1) ⟨hd.neg,hd.neg,Rat.le_refl⟩ (by omega) (by omega)
 have a:hfS d=(c,0):=e
 have a':hfS (negD d)=(c',0):=e'
 rw [a,a']
 have n:=neg_vals c
 have:c'=negI c:=I_ext o'.ok o.neg.ok (by rw [n.1,e1',e2]; show val (negD d)*_ = -(val d*_); rw [val_neg]; grind) (by rw [n.2,e2',e1]; show val (negD d)*_ = -(val d*_); rw [val_neg]; grind)
 rw [this]
theorem J_has {d:D} {L:Int} (hd:Okd d L 4) (hL : -39≤L∧L≤0) {n p:Nat} (hn:n≤45) (hp:8≤p∧p≤50):∃ c,bess_J (n:Int) (dy d) (p:Int)=some (iv c,0)∧Has (c,0) (J n (ofQ (val d)*hf)) (-41000) 26∧val c.hi-val c.lo≤p2 (3-(p:Int))∧bess_J (n:Int) (dy (negD d)) (p:Int)=some (iv (sgI (decide (n % 2=1)) c),0):=by
 have hv:val (absD d)≤((16:Nat):Rat):=by
  have hb:=hd.b
  unfold B at hb
  rw [show p2 4=16 by decide +kernel] at hb
  rw [val_abs,show ((16:Nat):Rat)=16 from rfl]
  grind
 have hv':val (absD (negD d))≤((16:Nat):Rat):=by
  have:absD (negD d)=absD d:=by unfold absD negD; simp
  rw [this]; exact hv
 obtain ⟨hk,ht⟩:=bess_terms hd (by omega) (by omega) (by omega) (M:=16) (by omega) hv (p:=p) (by omega)
 obtain ⟨hk',ht'⟩:=bess_terms hd.neg (by omega) (by omega) (by omega) (M:=16) (by omega) hv' (p:=p) (by omega)
 by_cases h0:d.m=0
 ·have z:=bess_J_zero h0 (n:=n) (by omega) (p:=p) (by omega) ht
  have z':=bess_J_zero (d:=negD d) (by show -d.m=0; omega) (n:=n) (by omega) (p:=p) (by omega) ht'
  have v0:val d=0:=by show (d.m:Rat)*_=0; rw [h0]; simp
  refine ⟨_,z,?_,?_,?_⟩
  ·have i:=has_int (n:=((1-n:Nat):Int)) (K:=1) (by omega) (by omega)
   refine (Has.mono i (by omega) (by omega)).eq ?_
   rw [v0,ofQ_zero,show (0:R)*hf=0 by grind]
   cases n with
   | zero=>rw [J0_zero]; rfl
   | succ n=>rw [J_zero,show (1-(n+1):Nat)=0 by omega]; rfl
  ·show val (fromD _)-val (fromD _)≤_
   have:=p2_pos (3-(p:Int)); grind
  ·rw [z']
   by_cases hn1:n % 2=1
   ·rw [show (1-n:Nat)=0 by omega,decide_eq_true hn1]; rfl
   ·rw [decide_eq_false hn1]; rfl
 ·obtain ⟨e1,hh,h8⟩:=hfS_has hd hL
  have en:=hfS_neg hd hL
  have kk:kD (negD d)=kD d:=by unfold kD; rw [show absD (negD d)=absD d by unfold absD negD; simp]
  rw [kk] at ht'
  generalize kD d=k at *
  have hb:blen d.m.natAbs≤1000:=by have:=okd_size hd h0; omega
  have hb':blen (negD d).m.natAbs≤1000:=by
   show blen (-d.m).natAbs≤1000
   rw [Int.natAbs_neg]; exact hb
  have j:=bess_J_eq hd.w hb h0 (n:=n) (by omega) (p:=p) (by omega) (N:=2*(k+1)+p / 2+60) (by omega) ht
  have j':=bess_J_eq hd.neg.w hb' (by show -d.m≠0; omega) (n:=n) (by omega) (p:=p) (by omega) (N:=2*(k+1)+p / 2+60) (by omega) ht'
  generalize hN:2*(k+1)+p / 2+60=N at *
  obtain ⟨r,er,hr⟩:=be_has (p:=p) (by omega) hh h8 (by omega) hn (N:=N) (by omega)
  rw [e1] at j
  have eS:beS (p+96) p n N ((hfS d).1,0)=doneS p r:=by rw [← er]; rfl
  rw [eS] at j
  have hdn:Has (doneS p r) (J n (ofQ (val d)*hf)) (-41000) 26:=by
   unfold doneS; rw [hr.h.e,st_zero]; exact has_out hr.h (by omega) (by omega) (by omega)
  have hw:=done_w (p:=p) (by omega) hr (J_one n _) (p2_le (by omega)) (by omega) (by omega)
  refine ⟨(doneS p r).1,by rw [j,hdn.e],hdn.pair,hw,?_⟩
  have hw104:104≤p+96∧p+96≤160:=by omega
  obtain ⟨t,w0,b1,z0,z1,htt,hq⟩:=be_start hw104 hh h8 (by omega) hn
  have i1:HasW (intI 1,0) (1:R) 0 0 0:=hw_int (n:=1) (K:=0) (by omega) (by decide)
  have eq2:(mS (p+96) (hfS d).1 (hfS d).1 0).2=0:=hq.h.e
  have sqn:mS (p+96) (negI (hfS d).1) (negI (hfS d).1) 0=mS (p+96) (hfS d).1 (hfS d).1 0:=by
   unfold mS; rw [st_zero,st_zero,mul_neg2 hh.h.ok hh.h.ok (by omega) (by omega) (by omega)]
  have bn:=beP_neg hw104 hh h8 (by omega) hn n 0 (intI 1) false (by omega) ((i1.mono (by omega) (by omega) Rat.le_refl).eq (by rw [rpow_zero,show rf 0=1 from rfl]; grind))
  have bt:beT (p+96) n (negI (hfS d).1,0)=(sgI (decide (n % 2=1)) t,0):=by
   unfold beT
   simp only
   rw [sqn,eq2]
   have b2:beP (p+96) (hfS d).1 n 0 (intI 1) 0=(t,0):=by
    rw [← b1]; unfold beT; simp only; rw [eq2]; rfl
   have b3:beP (p+96) (negI (hfS d).1) n 0 (intI 1) 0=(sgI (false != decide (n % 2=1)) t,0):=by
    have:=bn
    rw [b2] at this
    exact this
   rw [Bool.false_bne] at b3
   exact b3
  have hT:HasW (t,0) (bT n (ofQ (val d)*hf) 0) (-9900-260*((0:Nat):Int)) 18 (wbT w0 (p2 (27-((p+96:Nat):Int))) 0):=(htt.mono (by omega) (by omega) (show w0≤wbT w0 (p2 (27-((p+96:Nat):Int))) 0 from Rat.le_refl)).eq (bT_zero n _).symm
  have hS:HasW (t,0) (bU n (ofQ (val d)*hf) 0) (-9900-260*((0:Nat):Int)) 25 (((0+1:Nat):Rat)*p2 (76-((p+96:Nat):Int))):=(htt.mono (by omega) (by omega) (be_w0 z1)).eq (bU_zero n _).symm
  have sn:=serT_neg hw104 hq.pair h8 (by omega) hn (N:=N) (by omega) z0 z1 (decide (n % 2=1)) N 0 t t (by omega) hS hT
  obtain ⟨s',t',g1,g2,g3⟩:=serT_w hw104 hq.pair h8 (by omega) hn (N:=N) (by omega) z0 z1 N 0 t t (by omega) hS hT
  have eW:beW (p+96) n N ((hfS d).1,0)=(s',t',0):=by unfold beW; rw [b1]; exact g1
  have eW':beW (p+96) n N (negI (hfS d).1,0)=(sgI (decide (n % 2=1)) s',sgI (decide (n % 2=1)) t',0):=by
   unfold beW
   rw [bt]
   simp only
   rw [sqn]
   refine sn.trans ?_
   rw [g1]
  have er':r=wS (p+96) s' (offD t') 0:=by rw [← er,eW]
  have hoff:offD (sgI (decide (n % 2=1)) t')=offD t':=by
   cases decide (n % 2=1) with
   | false=>rfl
   | true=>exact offD_neg g3.h.ok
  have oO:=offD_ok g3 (m:=173889) (bT_le n h8 N)
  have hv0:0≤val (offD t'):=ofQ_le.1 (rle_trans (ab_nonneg _) oO.2.1)
  obtain ⟨c1,w1,w2⟩:=wide_neg (p:=p+96) g2.h.ok (oO.1.mono (Int.le_refl _) (show (18:Int)≤25 by omega)) hv0 (by omega) (by omega) (by omega)
  have ew:wS (p+96) (sgI (decide (n % 2=1)) s') (offD t') 0=(sgI (decide (n % 2=1)) r.1,0):=by
   have w1':wS (p+96) s' (offD t') 0=(c1,0):=by unfold wS; rw [st_zero,w1]
   rw [er',w1']
   cases decide (n % 2=1) with
   | false=>exact w1'
   | true=>show wS (p+96) (negI s') (offD t') 0=(negI c1,0); unfold wS; rw [st_zero,w2]
  have eS':beS (p+96) p n N (negI (hfS d).1,0)=doneS p (sgI (decide (n % 2=1)) r.1,0):=by
   unfold beS
   rw [eW']
   simp only
   rw [hoff,ew]
  rw [en,eS'] at j'
  rw [j']
  obtain ⟨c2,u1,u2⟩:=out_neg (p:=p) hr.h.ok (by omega) (by omega) (by omega)
  have ed:doneS p r=(c2,0):=by unfold doneS; rw [hr.h.e,st_zero,u1]
  rw [ed]
  cases decide (n % 2=1) with
  | false=>
   show some (iv (doneS p (r.1,0)).1,(doneS p (r.1,0)).2)=some (iv c2,0)
   have:doneS p (r.1,0)=(c2,0):=by unfold doneS; rw [st_zero,u1]
   rw [this]
  | true=>
   show some (iv (doneS p (negI r.1,0)).1,(doneS p (negI r.1,0)).2)=some (iv (negI c2),0)
   have:doneS p (negI r.1,0)=(negI c2,0):=by unfold doneS; rw [st_zero,u2]
   rw [this]
theorem place13_j1 {x:AD} {m:Int} (hm:0≤m∧m<4294967296):∃ d,l13_place_j1 x m=some (dy d)∧Okd d (-28) 4:=by
 have hd:Dig [m]:=fun d hd=>by rw [List.mem_singleton] at hd; rw [hd]; exact hm
 have hb:blen (sg x.M.Neg (dval [m])).natAbs≤32:=by
  have e:(sg x.M.Neg (dval [m])).natAbs=dval [m]:=by unfold sg; split<;>omega
  rw [e]
  refine blen_le_of ?_
  have:dval [m]=m.toNat:=by simp [dval]
  rw [this]; omega
 obtain ⟨d,h1,h2,-⟩:=make_val (k:=32) hb (e:=-28) (by omega)
 refine ⟨d,?_,h2.mono (Int.le_refl _) (by omega)⟩
 unfold l13_place_j1
 rw [rMake_eq hd (by simp)]
 simp only [obn]
 rw [rMake5_eq (by unfold SZ; omega) (by omega),h1]
 rfl
theorem place13_eq {x:AD} (hx:gAD x):∃ d,l13_place x=some (dy d)∧Okd d (-28) 4:=by
 have hd:=g_dig hx
 unfold l13_place
 by_cases h:(x.M.Mag.length:Int)>0
 ·rw [if_pos h,if_pos (by omega)]
  refine place13_j1 ?_
  cases hl:x.M.Mag with
  | nil=>rw [hl] at h; simp at h
  | cons a l=>
   have:=hd a (by rw [hl]; simp)
   exact this
 ·rw [if_neg h]; exact place13_j1 (by omega)
theorem prec13_eq {a:Int} (h : -9223372036854775808≤a∧a≤9223372036854775807):∃ p:Nat,l13_prec a=some (p:Int)∧8≤p∧p≤50:=by
 unfold l13_prec l13_prec_j1
 have key:∀ n:Nat,∃ p:Nat,(some (IntKind.i64.wrap (8+((n:Int).tmod 43))):Option Int)=some (p:Int)∧8≤p∧p≤50:=by
  intro n
  rw [show (43:Int)=((43:Nat):Int) by rfl,tmodn,w64 (by omega) (by omega)]
  exact ⟨8+n % 43,by congr 1,by omega,by omega⟩
 by_cases h0:a<0
 ·rw [if_pos h0,wrap_low a (by omega)]
  exact key _
 ·rw [if_neg h0]
  have:=key a.toNat
  rwa [Int.toNat_of_nonneg (by omega)] at this
theorem bess_far:bess_Terms (dy (fromD 33)) 20=some (0,4):=by
 have hd:WD (fromD 33):=WD_from (n:=33) (by omega)
 have c:cmpD (absD (fromD 33)) (fromD 32)>0:=by decide +kernel
 unfold bess_Terms bess_Terms_j1 bess_bare
 rw [if_neg (by omega),if_neg (by omega),dyad_Right_dy hd.1 hd.sz]
 simp only [obn]
 rw [if_neg (by simp),bits_dy hd.sz]
 simp only [obn]
 rw [decide_eq_false (by decide +kernel),if_neg (by simp),dyad_From_eq (by omega)]
 simp only [obn]
 rw [dy_abs]
 refine Eq.trans (congrArg (fun o=>Option.bind o _) (dyad_Cmp_eq (WD_abs hd) (WD_from (n:=32) (by omega)))) ?_
 simp only [obn]
 rw [if_pos c]
theorem examples13:l13_examples=some true:=by
 have t0:=(bess_terms (d:=zD) (L:=0) (H:=0) (Okd_z 0 0) (by omega) (by omega) (by omega) (M:=1) (by omega) (by decide +kernel) (p:=20) (by omega)).2
 have e1:=bess_J_zero (d:=zD) rfl (n:=0) (by omega) (p:=20) (by omega) t0
 rw [dy_z] at e1
 have e2:bess_J 65 (dy (fromD 1)) 20=some (iv zI,1):=by
  unfold bess_J bess_J_j1
  rw [if_neg (by omega),decide_eq_true (by omega),if_pos rfl,zI_eta]
 have e3:bess_J 1 (dy (fromD 33)) 20=some (iv zI,4):=by
  unfold bess_J bess_J_j1
  rw [if_neg (by omega),decide_eq_false (by omega),if_neg (by simp),bess_far]
  simp only [obn]
  rw [if_pos (by simp),zI_eta]
 have sI:SI (intI ((1-0:Nat):Int)):=SI_int (by omega)
 have hk:=has_key (r:=(intI ((1-0:Nat):Int),0)) sI (by decide +kernel)
 unfold l13_examples l13_examples_j1
 refine Eq.trans (congrArg (fun o=>Option.bind o _) e1) ?_
 simp only [obn]
 rw [rFrom5_eq (by omega)]
 simp only [obn]
 refine Eq.trans (congrArg (fun o=>Option.bind o _) e2) ?_
 simp only [obn]
 rw [rFrom5_eq (by omega)]
 simp only [obn]
 refine Eq.trans (congrArg (fun o=>Option.bind o _) e3) ?_
 simp only [obn]
 rw [if_pos True.intro]
 refine Eq.trans (congrArg (fun o=>Option.bind o _) hk) ?_
 simp only [obn]
 rw [if_pos True.intro,if_pos True.intro]
 rfl
theorem sWide {a:I} {x y:R} {L H:Int} (ha:Has (a,0) x L H) {d:D} (hd:Okd d L H) (hxy:ab (y-x)≤ofQ (val d)) {p:Nat} (hp:2≤p∧p≤400) (hL : -60000≤L) (hH:H+1≤60000):∃ c,cv_Wide (iv a) (dy d) 0 (p:Int)=some (iv c,0)∧Has (c,0) y L (H+1):=by
 have h:=has_wide (p:=p) ha hd hxy (by omega) hL hH
 have h0:0≤val d:=ofQ_le.1 (rle_trans (ab_nonneg _) hxy)
 have e:=ivWide_eq ha.ok.ok hd.w h0 hp 0
 have z:(wS p a d 0).2=0:=h.e
 have e2:st 0 zI (wideI p a d)=wS p a d 0:=rfl
 rw [e2,z] at e
 exact ⟨(wS p a d 0).1,e,h.pair⟩
theorem Ev_20 {h:R} (hh:ab h≤2):ab (1-Ev 20 h)≤ofQ (p2 (-60)):=by
 have k:=Ev_near 20 hh
 have h0:=rzero_lt_one
 have e4:E ((2:R)*2)≤ofQ 4096:=by
  have q:=(E_q (q:=1) (by decide) (by decide) 1 (by omega)).2
  have q2:E (ofQ 1)≤ofQ 8:=rle_trans q (ofQ_le.2 (by decide +kernel))
  have e:E ((2:R)*2)=E (ofQ 1)*E (ofQ 1)*(E (ofQ 1)*E (ofQ 1)):=by
   rw [← E_add,← E_add,ofQ_one]; refine congrArg E ?_; grind
  have p:=E_pos (ofQ 1)
  have m1:=rmul_mono q2 q2 (show 0≤E (ofQ 1) by grind) (ofQ_le.2 (by decide))
  have m2:=rmul_mono m1 m1 (rmul_nonneg (show 0≤E (ofQ 1) by grind) (show 0≤E (ofQ 1) by grind)) (rmul_nonneg (ofQ_le.2 (by decide)) (ofQ_le.2 (by decide)))
  rw [← ofQ_mul,← ofQ_mul,show (8:Rat)*8*(8*8)=4096 by decide +kernel] at m2
  rw [e]; exact m2
 have e2:(2:R) ^ (2*20+1)*rf (2*20+1)=ofQ (2 ^ 41*rfq 41):=by
  rw [rf_q,ofQ_mul,ofQ_pow]; rfl
 rw [e2] at k
 have q0:0≤ofQ (2 ^ 41*rfq 41):=ofQ_le.2 (by decide +kernel)
 have m1:=rmul_le' e4 q0
 have m2:=rmul_mono m1 hh (rmul_nonneg q0 (by have:=E_pos ((2:R)*2); grind)) (by grind)
 rw [← ofQ_mul] at m2
 have m3:2*(ofQ (2 ^ 41*rfq 41*4096)*2)≤ofQ (p2 (-60)):=by
  rw [show (2:R)=ofQ 2 from rfl,← ofQ_mul,← ofQ_mul]
  exact ofQ_le.2 (by decide +kernel)
 have e5:ab (1-Ev 20 h)=ab (Ev 20 h-1):=by rw [← ab_neg]; congr 1; grind
 rw [e5]
 generalize ofQ (2 ^ 41*rfq 41)*E (2*2)=a at *
 generalize ofQ (2 ^ 41*rfq 41*4096)=b at *
 generalize ofQ (p2 (-60))=c at *
 grind
theorem sum_loop {d:D} (hd:Okd d (-30) 4) {p:Nat} (hp1:8≤p∧p≤30) (hh:ab (ofQ (val d)*hf)≤2) (x97:Int) (hx:mn x97 30=(p:Int)):∀ (k i:Nat) (s:I),i+k=20→Has (s,0) (Ev i (ofQ (val d)*hf)) (-41000) (27+(i:Int))→∀ f,k<f→
  l13_BessSum_l4 (dy d,0) x97 (0,0,(p:Int)) true f ((2*i+2:Nat):Int) 0 (iv s).Lo.M.Neg (iv s).Lo.M.Mag (iv s).Lo.E (iv s).Hi.M.Neg (iv s).Hi.M.Mag (iv s).Hi.E=some true:=by
 have hp:2≤p∧p≤400:=by omega
 intro k
 induction k with
 | zero=>
  intro i s hi hs f hf0
  obtain ⟨f,rfl⟩:∃ k,f=k+1:=⟨f-1,by omega⟩
  have hi':i=20:=by omega
  subst hi'
  have o60:=Okd_half (k:=-60) (L:=-41000) (H:=60) (by omega) (by omega) (by omega)
  obtain ⟨c,f1,h1⟩:=sWide (hs.mono (Int.le_refl _) (show (27:Int)+((20:Nat):Int)≤60 by omega)) o60 (y:=1) (by rw [val_half]; exact Ev_20 hh) hp (by omega) (by omega)
  have f2:=sHas h1 (WD_from (n:=1) (by omega)) (by rw [val_from]; rfl)
  rw [l13_BessSum_l4,if_neg (by omega)]
  unfold l13_BessSum_j2 l13_BessSum_j3 iv_trouble_Err
  simp only [obn]
  rw [if_pos True.intro,if_pos True.intro,dyad_Half_eq (by omega)]
  simp only [obn]
  rw [ivEta]
  refine Eq.trans (congrArg (fun o=>Option.bind o _) f1) ?_
  simp only [obn]
  rw [dyad_From_eq (by omega)]
  simp only [obn]
  refine Eq.trans (congrArg (fun o=>Option.bind o _) f2) ?_
  rfl
 | succ k ih=>
  intro i s hi hs f hf0
  obtain ⟨f,rfl⟩:∃ k,f=k+1:=⟨f-1,by omega⟩
  obtain ⟨c1,f1,h1,-,-⟩:=J_has hd (by omega) (n:=2*i+2) (by omega) (p:=p) (by omega)
  obtain ⟨c2,f2,h2⟩:=sScale h1 (n:=1) (by omega) (p:Int) (by omega) (by omega)
  obtain ⟨c3,f3,h3⟩:=sAdd hs (h2.mono (L':=-41000) (H':=27+(i:Int)) (by omega) (by omega)) hp (by omega) (by omega)
  have e:Ev i (ofQ (val d)*hf)+J (2*i+2) (ofQ (val d)*hf)*ofQ (p2 1)=Ev (i+1) (ofQ (val d)*hf):=by
   rw [two_R]; rfl
  rw [l13_BessSum_l4,if_pos (by omega),hx]
  refine Eq.trans (congrArg (fun o=>Option.bind o _) f1) ?_
  simp only [obn]
  rw [if_neg (by simp)]
  refine Eq.trans (congrArg (fun o=>Option.bind o _) f2) ?_
  simp only [obn]
  rw [ivEta]
  refine Eq.trans (congrArg (fun o=>Option.bind o _) f3) ?_
  simp only [obn]
  rw [w64 (by omega) (by omega),show ((2*i+2:Nat):Int)+2=((2*(i+1)+2:Nat):Int) by omega]
  exact ih (i+1) c3 (by omega) ((h3.eq e).mono (Int.le_refl _) (by omega)) f (by omega)
theorem BessSum_true (a0:AD) (g0:gAD a0) (a1:Int) (g1:(Lit.int .i64 a1).wf=true):l13_BessSum a0 a1=some true:=by
 unfold l13_BessSum l13_BessSum_j1
 obtain ⟨q,eq1,hq1⟩:=prec13_eq (wf_i64 g1)
 obtain ⟨p,hx,hp1⟩:∃ p:Nat,mn (q:Int) 30=(p:Int)∧8≤p∧p≤30:=
  ⟨min q 30,by unfold mn; split<;>omega,by omega,by omega⟩
 have hp:2≤p∧p≤400:=by omega
 obtain ⟨d0,ed,hd0⟩:=place13_eq g0
 obtain ⟨d,es,vd,od⟩:=scale_ok hd0 (n:=-2) (by omega) (by omega)
 have hd:Okd d (-30) 4:=od.mono (by omega) (by omega)
 have hh:ab (ofQ (val d)*hf)≤2:=by
  have hb:=od.b
  unfold B at hb
  rw [show p2 (4 + -2)=4 by decide +kernel] at hb
  have b1:=ofQ_le.2 hb.1
  have b2:=ofQ_le.2 hb.2
  have hf2:=hf_two
  have hfp:=hf_pos
  have k1:=rmul_le b1 (show 0≤hf by grind)
  have k2:=rmul_le b2 (show 0≤hf by grind)
  have e:ofQ 4*hf=2:=by
   have a:ofQ 4=ofQ 2*ofQ 2:=by rw [← ofQ_mul,show (2:Rat)*2=4 by decide +kernel]
   rw [a,show ofQ 2=(2:R) from rfl]; grind
  rw [ofQ_neg] at k1
  exact ab_le.2 ⟨by grind,by grind⟩
 obtain ⟨c,f1,h1,-,-⟩:=J_has hd (by omega) (n:=0) (by omega) (p:=p) (by omega)
 rw [examples13]
 simp only [obn]
 rw [if_neg (by simp),eq1]
 simp only [obn]
 rw [hx,ivNew_eq hp]
 simp only [obn]
 rw [if_neg (by simp),ed]
 simp only [obn]
 have fs:=dyad_Scale_eq hd0.w (n:=-2) (by omega)
 rw [es] at fs
 refine Eq.trans (congrArg (fun o=>Option.bind o _) fs) ?_
 simp only [obn]
 refine Eq.trans (congrArg (fun o=>Option.bind o _) f1) ?_
 simp only [obn]
 rw [if_neg (by simp),if_neg (by simp)]
 exact sum_loop hd hp1 hh (q:Int) hx 20 0 c (by omega) (h1.mono (Int.le_refl _) (by omega)) fuel (by unfold fuel; omega)
end Go.Proofs.YtpcdcpjjekkemaaGreat.Gen
