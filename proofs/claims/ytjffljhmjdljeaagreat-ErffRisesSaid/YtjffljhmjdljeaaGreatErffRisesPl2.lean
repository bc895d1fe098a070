/- Plain theory of the numbers that the statement speaks of: printed from the proofs' own texts, as far as this statement needs it. -/
import Derived.Test.YtjffljhmjdljeaaGreatErffRisesPl1
set_option linter.unusedVariables false
set_option linter.unusedSimpArgs false
namespace Go.An
theorem complete {s:Nat→R} (h:∀ e:Rat,0<e→∃ N,∀ m n,N≤m→N≤n→s m-s n≤ofQ e):∃ x,Conv s x:=by
 have hq:∀ n:Nat,∃ q:Rat,s n-ofQ q≤ofQ (((n+1:Nat):Rat)⁻¹)∧ofQ q-s n≤ofQ (((n+1:Nat):Rat)⁻¹):=fun n=>near (s n) (Rat.inv_pos.2 (by exact_mod_cast Nat.succ_pos n))
 have hsm:∀ e:Rat,0<e→∃ N:Nat,∀ n,N≤n→((n+1:Nat):Rat)⁻¹≤e:=by
  intro e he
  obtain ⟨N,hN⟩:=archQ e⁻¹
  refine ⟨N,fun n hn=>?_⟩
  have h1:e*e⁻¹=1:=Rat.mul_inv_cancel _ (by grind)
  have hp:(0:Rat)<((n+1:Nat):Rat):=by exact_mod_cast Nat.succ_pos n
  have h2:((n+1:Nat):Rat)*((n+1:Nat):Rat)⁻¹=1:=Rat.mul_inv_cancel _ (by grind)
  have h3:(N:Rat)≤((n+1:Nat):Rat):=by exact_mod_cast (by omega:N≤n+1)
  have h4:=Rat.mul_le_mul_of_nonneg_left (c:=e*((n+1:Nat):Rat)⁻¹) (show e⁻¹≤((n+1:Nat):Rat) by grind) (Rat.le_of_lt (Rat.mul_pos he (Rat.inv_pos.2 hp)))
  generalize ((n+1:Nat):Rat)=z at *
  have h5:e*z⁻¹*e⁻¹=z⁻¹:=by grind
  have h6:e*z⁻¹*z=e:=by grind
  grind
 obtain ⟨q,hq⟩:=Classical.axiomOfChoice hq
 have key:∀ e:Rat,0<e→∃ N,∀ m n,N≤m→N≤n→q m-q n≤e:=by
  intro e he
  obtain ⟨N,hN⟩:=h (e / 2) (by grind)
  obtain ⟨M,hM⟩:=hsm (e / 4) (by grind)
  refine ⟨max N M,fun m n hm hn=>?_⟩
  have h1:=hN m n (by omega) (by omega)
  have h2:=ofQ_le.2 (hM m (by omega))
  have h3:=ofQ_le.2 (hM n (by omega))
  have h4:=hq m
  have h5:=hq n
  rw [← ofQ_le,ofQ_sub]
  have h6:ofQ (e / 4)+ofQ (e / 4)=ofQ (e / 2):=by rw [← ofQ_add]; congr 1; grind
  have h7:=ofQ_half e
  grind
 refine ⟨mk ⟨q,key⟩,fun e he=>?_⟩
 obtain ⟨N,hN⟩:=key (e / 2) (by grind)
 obtain ⟨M,hM⟩:=hsm (e / 2) (by grind)
 refine ⟨max N M,fun n hn=>?_⟩
 have h1:=hq n
 have h2:=ofQ_le.2 (hM n (by omega))
 have h3:=ofQ_half e
 have h4:ofQ (q n)-mk ⟨q,key⟩≤ofQ (e / 2):=fun d hd=>⟨N,fun m hm=>by have:=hN n m (by omega) hm; simp only [CS.add,CS.neg,CS.ofRat]; grind⟩
 have h5:mk ⟨q,key⟩-ofQ (q n)≤ofQ (e / 2):=fun d hd=>⟨N,fun m hm=>by have:=hN m n hm (by omega); simp only [CS.add,CS.neg,CS.ofRat]; grind⟩
 grind
theorem between {x y:R} (h:x<y):∃ z,x<z∧z<y:=by
 have k:=ofQ_half 1
 rw [ofQ_one] at k
 generalize ofQ (1 / 2)=c at k
 have e:(x+y)*c+(x+y)*c=x+y:=by grind
 exact ⟨(x+y)*c,by grind,by grind⟩
def psum (a:Nat→R) (x:R):Nat→R
 | 0=>0
 | n+1=>psum a x n+a n*x ^ n
structure Geo (t w:R):Prop where
 h0:0≤t
 h1:t<1
 hw:w*(1-t)=1
theorem Geo.pos {t w:R} (h:Geo t w):0<w:=by
 have h1:=h.h1
 rcases rle_total w 0 with k | k
 ·have:=rmul_nonneg (x:=-w) (y:=1-t) (by grind) (by grind); have:=h.hw; grind
 ·rcases Classical.em (w=0) with q | q
  ·have:=h.hw; subst q; grind
  ·grind
theorem ratio {x r:R} (hx:0≤x) (h:x<r):∃ t w,Geo t w∧x=t*r:=by
 have hr:0<r:=by grind
 have hi:=mul_inv (x:=r) (by grind)
 have h1:x*r⁻¹<1:=by have:=rmul_lt' h (inv_pos hr); grind
 exact ⟨x*r⁻¹,(1-x*r⁻¹)⁻¹,⟨rmul_nonneg hx (by have:=inv_pos hr; grind),h1,by rw [rmul_comm]; exact mul_inv (by grind)⟩,by grind⟩
theorem pow_small {t w:R} (h:Geo t w) (n:Nat):t ^ n*(1+n*(1-t))≤1:=by
 induction n with
 | zero=>rw [rpow_zero,show ((0:Nat):R)=0 from rfl]; grind
 | succ n ih=>
  rw [rpow_succ,cast_succ]
  have h1:t*(1+(n+1)*(1-t))≤1+n*(1-t):=by
   have:=rmul_nonneg (x:=(n:R)+1) (y:=(1-t)*(1-t)) (by have:=cast_nonneg n; grind) (sq_nonneg _)
   grind
  have h2:=rmul_le' h1 (pow_nonneg h.h0 n)
  have h3:t ^ n*t*(1+(n+1)*(1-t))=t ^ n*(t*(1+(n+1)*(1-t))):=by grind
  grind
theorem pow_lim {t w:R} (h:Geo t w) {B:R} (hB:0≤B) {e:Rat} (he:0<e):∃ N:Nat,∀ n:Nat,N≤n→B*t ^ n≤ofQ e:=by
 have hd:0<1-t:=by have:=h.h1; grind
 have hed:=rmul_pos (ofQ_pos he) hd
 obtain ⟨N,hN⟩:=arch (B*(ofQ e*(1-t))⁻¹)
 have hi:=mul_inv (x:=ofQ e*(1-t)) (by grind)
 have h1:B≤N*(ofQ e*(1-t)):=by
  have:=rmul_le hN (show 0≤ofQ e*(1-t) by grind)
  have k:B*(ofQ e*(1-t))⁻¹*(ofQ e*(1-t))=B:=by grind
  grind
 refine ⟨N,fun n hn=>?_⟩
 have h2:=rmul_le (cast_le hn) (show 0≤ofQ e*(1-t) by grind)
 have h3:=pow_small h n
 have h4:=rmul_le (show B≤ofQ e*(1+n*(1-t)) by have:=ofQ_pos he; grind) (pow_nonneg h.h0 n)
 have h5:=rmul_le' h3 (show 0≤ofQ e by have:=ofQ_pos he; grind)
 grind
structure PB (a:Nat→R) (r K:R):Prop where
 r0:0<r
 h:∀ n,ab (a n)*r ^ n≤K
theorem PB.k0 {a:Nat→R} {r K:R} (h:PB a r K):0≤K:=by
 have h1:=h.h 0
 have h2:=ab_nonneg (a 0)
 rw [rpow_zero] at h1; grind
theorem PB.term {a:Nat→R} {r K:R} (h:PB a r K) {t x:R} (ht:0≤t) (hx:ab x≤t*r) (n:Nat):ab (a n*x ^ n)≤K*t ^ n:=by
 rw [ab_mul,ab_pow]
 have h1:=pow_mono (ab_nonneg x) hx n
 rw [pow_mul'] at h1
 have h2:=rmul_le' h1 (ab_nonneg (a n))
 have h3:=rmul_le (h.h n) (pow_nonneg ht n)
 have h4:ab (a n)*(t ^ n*r ^ n)=ab (a n)*r ^ n*t ^ n:=by grind
 grind
theorem psum_tail {a:Nat→R} {r K:R} (h:PB a r K) {t w x:R} (hg:Geo t w) (hx:ab x≤t*r) (m k:Nat):ab (psum a x (m+k)-psum a x m)+K*w*t ^ (m+k)≤K*w*t ^ m:=by
 induction k with
 | zero=>
  have:psum a x (m+0)-psum a x m=0:=by rw [Nat.add_zero]; grind
  rw [this,ab_zero,Nat.add_zero]; grind
 | succ k ih=>
  have h1:=h.term hg.h0 hx (m+k)
  have h2:=ab_add (psum a x (m+k)-psum a x m) (a (m+k)*x ^ (m+k))
  have h3:psum a x (m+(k+1))-psum a x m=psum a x (m+k)-psum a x m+a (m+k)*x ^ (m+k):=by
   show psum a x (m+k)+a (m+k)*x ^ (m+k)-psum a x m=_; grind
  rw [h3]
  have h4:t ^ (m+(k+1))=t ^ (m+k)*t:=rfl
  have h5:=hg.hw
  have h6:K*t ^ (m+k)+K*w*(t ^ (m+k)*t)=K*w*t ^ (m+k):=by grind
  rw [h4]; grind
theorem psum_conv {a:Nat→R} {r K:R} (h:PB a r K) {x:R} (hx:ab x<r):∃ y,Conv (psum a x) y:=by
 obtain ⟨t,w,hg,hxt⟩:=ratio (ab_nonneg x) hx
 refine complete fun e he=>?_
 have hKw:0≤K*w:=rmul_nonneg h.k0 (by have:=hg.pos; grind)
 obtain ⟨N,hN⟩:=pow_lim hg hKw (e:=e / 2) (by grind)
 have key:∀ n,N≤n→ab (psum a x n-psum a x N)≤ofQ (e / 2):=by
  intro n hn
  obtain ⟨k,rfl⟩:∃ k,n=N+k:=⟨n-N,by omega⟩
  have h1:=psum_tail h hg (show ab x≤t*r by grind) N k
  have h2:=hN N (Nat.le_refl _)
  have h3:=rmul_nonneg hKw (pow_nonneg hg.h0 (N+k))
  grind
 refine ⟨N,fun m n hm hn=>?_⟩
 have h1:=ab_le.1 (key m hm)
 have h2:=ab_le.1 (key n hn)
 have h3:=ofQ_half e
 grind
noncomputable def ps (a:Nat→R) (x:R):R:=@dite _ (∃ y,Conv (psum a x) y) (Classical.propDecidable _) (fun h=>Classical.choose h) fun _=>0
theorem ps_conv {a:Nat→R} {r K:R} (h:PB a r K) {x:R} (hx:ab x<r):Conv (psum a x) (ps a x):=by
 have k:=psum_conv h hx
 have e:ps a x=Classical.choose k:=dif_pos k
 rw [e]; exact Classical.choose_spec k
theorem ps_tail {a:Nat→R} {r K:R} (h:PB a r K) {t w x:R} (hg:Geo t w) (hx:ab x≤t*r) (m:Nat):ab (ps a x-psum a x m)≤K*w*t ^ m:=by
 have hxr:ab x<r:=by have:=rmul_lt' hg.h1 h.r0; grind
 have h1:=((ps_conv h hxr).shift m).sub (Conv.const (psum a x m))
 refine h1.ab_le 0 fun n _=>?_
 have h2:=psum_tail h hg hx m n
 rw [Nat.add_comm m n] at h2
 have h3:=rmul_nonneg (rmul_nonneg h.k0 (show 0≤w by have:=hg.pos; grind)) (pow_nonneg hg.h0 (n+m))
 grind
theorem ps_eq {a:Nat→R} {x y:R} (h:Conv (psum a x) y):ps a x=y:=by
 have k:∃ y,Conv (psum a x) y:=⟨y,h⟩
 have e:ps a x=Classical.choose k:=dif_pos k
 rw [e]; exact (Classical.choose_spec k).uniq h
theorem psum_zero (a:Nat→R) (n:Nat):psum a 0 (n+1)=a 0:=by
 induction n with
 | zero=>show 0+a 0*(0:R) ^ 0=a 0; rw [rpow_zero]; grind
 | succ n ih=>show psum a 0 (n+1)+a (n+1)*(0:R) ^ (n+1)=a 0; rw [ih,rpow_succ]; grind
theorem ps_zero (a:Nat→R):ps a 0=a 0:=ps_eq fun e he=>⟨1,fun n hn=>by
 obtain ⟨k,rfl⟩:∃ k,n=k+1:=⟨n-1,by omega⟩
 rw [psum_zero]; have:=ofQ_pos he; grind⟩
def da (a:Nat→R) (n:Nat):R:=((n+1:Nat):R)*a (n+1)
def dq (x y:R):Nat→R
 | 0=>0
 | n+1=>y*dq x y n+((n+1:Nat):R)*x ^ n
theorem dq_eq (x y:R) (n:Nat):y ^ (n+1)-x ^ (n+1)-((n+1:Nat):R)*x ^ n*(y-x)=dq x y n*((y-x)*(y-x)):=by
 induction n with
 | zero=>
  rw [show dq x y 0=0 from rfl,rpow_succ,rpow_succ,rpow_zero,rpow_zero,show ((0+1:Nat):R)=1 from rfl]; grind
 | succ n ih=>
  rw [show dq x y (n+1)=y*dq x y n+((n+1:Nat):R)*x ^ n from rfl,rpow_succ y,rpow_succ x (n+1),cast_succ (n+1)]
  have h:x ^ (n+1)=x ^ n*x:=rfl
  generalize dq x y n=d at *
  generalize y ^ (n+1)=Y at *
  generalize ((n+1:Nat):R)=c at *
  rw [h] at ih ⊢
  generalize x ^ n=z at *
  grind
def gq (t:R):Nat→R
 | 0=>0
 | n+1=>t*gq t n+((n+1:Nat):R)*t ^ n
theorem gq_nonneg {t:R} (h:0≤t) (n:Nat):0≤gq t n:=by
 induction n with
 | zero=>exact rle_refl 0
 | succ n ih=>
  have h1:=rmul_nonneg h ih
  have h2:=rmul_nonneg (cast_nonneg (n+1)) (pow_nonneg h n)
  show 0≤t*gq t n+((n+1:Nat):R)*t ^ n
  grind
theorem dq_le {t r x y:R} (ht:0≤t) (hr:0≤r) (hx:ab x≤t*r) (hy:ab y≤t*r) (n:Nat):ab (dq x y n)*r≤gq t n*r ^ n:=by
 induction n with
 | zero=>rw [show dq x y 0=0 from rfl,show gq t 0=0 from rfl,ab_zero]; grind
 | succ n ih=>
  rw [show dq x y (n+1)=y*dq x y n+((n+1:Nat):R)*x ^ n from rfl,show gq t (n+1)=t*gq t n+((n+1:Nat):R)*t ^ n from rfl,rpow_succ r]
  have h1:=ab_add (y*dq x y n) (((n+1:Nat):R)*x ^ n)
  rw [ab_mul,ab_mul,ab_pow,ab_of (cast_nonneg (n+1))] at h1
  have h2:=pow_mono (ab_nonneg x) hx n
  rw [pow_mul'] at h2
  have h3:=rmul_le' h2 (cast_nonneg (n+1))
  have h4:=rmul_mono hy ih (ab_nonneg y) (rmul_nonneg (gq_nonneg ht n) (pow_nonneg hr n))
  have h5:=rmul_le h1 hr
  have h6:=rmul_le h3 hr
  have h7:(ab y*ab (dq x y n)+((n+1:Nat):R)*ab x ^ n)*r=ab y*(ab (dq x y n)*r)+((n+1:Nat):R)*ab x ^ n*r:=by grind
  have h8:(t*gq t n+((n+1:Nat):R)*t ^ n)*(r ^ n*r)=t*r*(gq t n*r ^ n)+((n+1:Nat):R)*(t ^ n*r ^ n)*r:=by grind
  grind
def e0 (t:R):Nat→R
 | 0=>0
 | n+1=>e0 t n+t ^ n
def e1 (t:R):Nat→R
 | 0=>0
 | n+1=>e1 t n+((n+1:Nat):R)*t ^ n
def e2 (t:R):Nat→R
 | 0=>0
 | n+1=>e2 t n+gq t n
theorem e0_eq (t:R) (n:Nat):(1-t)*e0 t n+t ^ n=1:=by
 induction n with
 | zero=>rw [show e0 t 0=0 from rfl,rpow_zero]; grind
 | succ n ih=>rw [show e0 t (n+1)=e0 t n+t ^ n from rfl,rpow_succ]; grind
theorem e1_eq (t:R) (n:Nat):(1-t)*e1 t n+n*t ^ n=e0 t n:=by
 induction n with
 | zero=>rw [show e0 t 0=0 from rfl,show e1 t 0=0 from rfl,show ((0:Nat):R)=0 from rfl]; grind
 | succ n ih=>rw [show e0 t (n+1)=e0 t n+t ^ n from rfl,show e1 t (n+1)=e1 t n+((n+1:Nat):R)*t ^ n from rfl,rpow_succ,cast_succ]; grind
theorem e2_eq (t:R) (n:Nat):(1-t)*e2 t n+gq t n=e1 t n:=by
 induction n with
 | zero=>rw [show e2 t 0=0 from rfl,show e1 t 0=0 from rfl,show gq t 0=0 from rfl]; grind
 | succ n ih=>rw [show e2 t (n+1)=e2 t n+gq t n from rfl,show e1 t (n+1)=e1 t n+((n+1:Nat):R)*t ^ n from rfl,show gq t (n+1)=t*gq t n+((n+1:Nat):R)*t ^ n from rfl]; grind
theorem by_w {t w x y:R} (hg:Geo t w) (h:(1-t)*x≤y):x≤w*y:=by
 have h1:=rmul_le' h (show 0≤w by have:=hg.pos; grind)
 have h2:=hg.hw
 have h3:w*((1-t)*x)=x:=by grind
 grind
theorem e1_le {t w:R} (hg:Geo t w) (n:Nat):e1 t n≤w*w:=by
 have h1:=e0_eq t n
 have h2:=e1_eq t n
 have h3:=by_w hg (show (1-t)*e0 t n≤1 by have:=pow_nonneg hg.h0 n; grind)
 refine by_w hg ?_
 have:=rmul_nonneg (cast_nonneg n) (pow_nonneg hg.h0 n)
 grind
theorem e2_le {t w:R} (hg:Geo t w) (n:Nat):e2 t n≤w*(w*w):=by
 refine by_w hg ?_
 have h1:=e2_eq t n
 have h2:=e1_le hg n
 have h3:=gq_nonneg hg.h0 n
 grind
theorem nt_le {t w:R} (hg:Geo t w) (n:Nat):((n+1:Nat):R)*t ^ n≤w*w:=by
 have h1:=e1_le hg (n+1)
 rw [show e1 t (n+1)=e1 t n+((n+1:Nat):R)*t ^ n from rfl] at h1
 have h2:0≤e1 t n:=by
  clear h1
  induction n with
  | zero=>exact rle_refl 0
  | succ n ih=>
   have:=rmul_nonneg (cast_nonneg (n+1)) (pow_nonneg hg.h0 n)
   show 0≤e1 t n+((n+1:Nat):R)*t ^ n
   grind
 grind
theorem PB.da {a:Nat→R} {r K:R} (h:PB a r K) {s:R} (hs:0<s) (hsr:s<r):∃ L,PB (da a) s L:=by
 obtain ⟨t,w,hg,e⟩:=ratio (show 0≤s by grind) hsr
 have hi:=mul_inv (x:=r) (by have:=h.r0; grind)
 refine ⟨K*(w*w)*r⁻¹,hs,fun n=>?_⟩
 have h1:=nt_le hg n
 have h2:=h.h (n+1)
 have hri:=inv_pos h.r0
 rw [An.da,ab_mul,ab_of (cast_nonneg (n+1)),e,pow_mul']
 have h3:=rmul_mono h1 h2 (rmul_nonneg (cast_nonneg (n+1)) (pow_nonneg hg.h0 n)) h.k0
 have h4:=rmul_le h3 (show 0≤r⁻¹ by grind)
 have h5:((n+1:Nat):R)*t ^ n*(ab (a (n+1))*r ^ (n+1))*r⁻¹=((n+1:Nat):R)*ab (a (n+1))*(t ^ n*r ^ n):=by rw [rpow_succ]; grind
 grind
def sq (a:Nat→R) (x y:R):Nat→R
 | 0=>0
 | n+1=>sq a x y n+a (n+1)*dq x y n
theorem sq_eq (a:Nat→R) (x y:R) (n:Nat):psum a y (n+1)-psum a x (n+1)-psum (da a) x n*(y-x)=sq a x y n*((y-x)*(y-x)):=by
 induction n with
 | zero=>
  rw [show sq a x y 0=0 from rfl,show psum (da a) x 0=0 from rfl,show psum a y (0+1)=0+a 0*y ^ 0 from rfl,show psum a x (0+1)=0+a 0*x ^ 0 from rfl,rpow_zero,rpow_zero]; grind
 | succ n ih=>
  rw [show sq a x y (n+1)=sq a x y n+a (n+1)*dq x y n from rfl,show psum (da a) x (n+1)=psum (da a) x n+da a n*x ^ n from rfl,show psum a y (n+1+1)=psum a y (n+1)+a (n+1)*y ^ (n+1) from rfl,show psum a x (n+1+1)=psum a x (n+1)+a (n+1)*x ^ (n+1) from rfl]
  have h:=dq_eq x y n
  rw [da]
  generalize dq x y n=d at *
  generalize y ^ (n+1)=Y at *
  generalize x ^ (n+1)=X at *
  generalize x ^ n=z at *
  generalize ((n+1:Nat):R)=c at *
  generalize a (n+1)=A at *
  generalize psum a y (n+1)=p1 at *
  generalize psum a x (n+1)=p2 at *
  generalize psum (da a) x n=p3 at *
  generalize sq a x y n=p4 at *
  have h8:Y=X+c*z*(y-x)+d*((y-x)*(y-x)):=by grind
  have h9:p1=p2+p3*(y-x)+p4*((y-x)*(y-x)):=by grind
  rw [h8,h9]; grind
theorem sq_le {a:Nat→R} {r K:R} (h:PB a r K) {t x y:R} (ht:0≤t) (hx:ab x≤t*r) (hy:ab y≤t*r) (n:Nat):ab (sq a x y n)*(r*r)≤K*e2 t n:=by
 induction n with
 | zero=>rw [show sq a x y 0=0 from rfl,show e2 t 0=0 from rfl,ab_zero]; grind
 | succ n ih=>
  rw [show sq a x y (n+1)=sq a x y n+a (n+1)*dq x y n from rfl,show e2 t (n+1)=e2 t n+gq t n from rfl]
  have h1:=ab_add (sq a x y n) (a (n+1)*dq x y n)
  rw [ab_mul] at h1
  have hr:=h.r0
  have h2:=dq_le ht (by grind) hx hy n
  have h3:=rmul_le' h2 (rmul_nonneg (ab_nonneg (a (n+1))) (show 0≤r by grind))
  have h4:=rmul_le (h.h (n+1)) (gq_nonneg ht n)
  have h5:=rmul_le h1 (show 0≤r*r from rmul_nonneg (by grind) (by grind))
  have h6:ab (a (n+1))*r*(ab (dq x y n)*r)=ab (a (n+1))*ab (dq x y n)*(r*r):=by grind
  have h7:ab (a (n+1))*r*(gq t n*r ^ n)=ab (a (n+1))*r ^ (n+1)*gq t n:=by rw [rpow_succ]; grind
  grind
theorem ps_quad {a:Nat→R} {r K:R} (h:PB a r K) {s:R} (hs:0≤s) (hsr:s<r):∃ C,0≤C∧∀ x y,ab x≤s→ab y≤s→ab (ps a y-ps a x-ps (da a) x*(y-x))≤C*((y-x)*(y-x)):=by
 obtain ⟨t,w,hg,e⟩:=ratio hs hsr
 have hr:=h.r0
 have hrr:=rmul_pos hr hr
 have hi:=mul_inv (x:=r*r) (by grind)
 have hip:=inv_pos hrr
 have hwp:=hg.pos
 have hKw:0≤K*(w*(w*w)):=rmul_nonneg h.k0 (rmul_nonneg (by grind) (rmul_nonneg (by grind) (by grind)))
 refine ⟨K*(w*(w*w))*(r*r)⁻¹,rmul_nonneg hKw (by grind),fun x y hx hy=>?_⟩
 obtain ⟨s',hs1,hs2⟩:∃ s',s<s'∧s'<r:=between hsr
 obtain ⟨L,hL⟩:=h.da (s:=s') (by grind) hs2
 have c1:=(ps_conv h (show ab y<r by grind)).shift 1
 have c2:=(ps_conv h (show ab x<r by grind)).shift 1
 have c3:=(ps_conv hL (show ab x<s' by grind)).mul_c (y-x)
 refine ((c1.sub c2).sub c3).ab_le 0 fun n _=>?_
 rw [sq_eq,ab_mul,ab_of (sq_nonneg _)]
 refine rmul_le ?_ (sq_nonneg _)
 have h1:=sq_le h hg.h0 (show ab x≤t*r by grind) (show ab y≤t*r by grind) n
 have h2:=rmul_le' (e2_le hg n) h.k0
 refine cancel hrr ?_
 have h3:K*(w*(w*w))*(r*r)⁻¹*(r*r)=K*(w*(w*w)):=by grind
 grind
def In (a b x:R):Prop:=a≤x∧x≤b
def Dv (f g:R→R) (a b:R):Prop:=∃ C,0≤C∧(∀ x,In a b x→ab (f x)≤C∧ab (g x)≤C)∧∀ x y,In a b x→In a b y→ab (f y-f x)≤C*ab (y-x)∧ab (f y-f x-g x*(y-x))≤C*((y-x)*(y-x))
theorem Dv.congr {f g f' g':R→R} {a b:R} (h:Dv f g a b) (h1:∀ x,In a b x→f x=f' x) (h2:∀ x,In a b x→g x=g' x):Dv f' g' a b:=by
 obtain ⟨C,hC,hb,hq⟩:=h
 refine ⟨C,hC,fun x hx=>?_,fun x y hx hy=>?_⟩
 ·rw [← h1 x hx,← h2 x hx]; exact hb x hx
 ·rw [← h1 x hx,← h2 x hx,← h1 y hy]; exact hq x y hx hy
theorem Dv.sub_iv {f g:R→R} {a b:R} (h:Dv f g a b) {c d:R} (h1:a≤c) (h2:d≤b):Dv f g c d:=by
 obtain ⟨C,hC,hb,hq⟩:=h
 have k:∀ x,In c d x→In a b x:=fun x hx=>⟨rle_trans h1 hx.1,rle_trans hx.2 h2⟩
 exact ⟨C,hC,fun x hx=>hb x (k x hx),fun x y hx hy=>hq x y (k x hx) (k y hy)⟩
theorem Dv.const (c a b:R):Dv (fun _=>c) (fun _=>0) a b:=by
 refine ⟨ab c,ab_nonneg c,fun x _=>⟨rle_refl _,by rw [ab_zero]; exact ab_nonneg c⟩,fun x y _ _=>?_⟩
 have e1:c-c=0:=by grind
 have e2:c-c-0*(y-x)=0:=by grind
 rw [e2,e1,ab_zero]
 exact ⟨rmul_nonneg (ab_nonneg c) (ab_nonneg _),rmul_nonneg (ab_nonneg c) (sq_nonneg _)⟩
theorem ab_one:ab 1=1:=ab_of (by have:=rzero_lt_one; grind)
theorem Dv.id (a b:R):Dv (fun x=>x) (fun _=>1) a b:=by
 have h1:=ab_nonneg a
 have h2:=ab_nonneg b
 have h3:=le_ab a
 have h4:=le_ab b
 refine ⟨ab a+ab b+1,by grind,fun x hx=>⟨ab_le.2 ?_,by rw [ab_one]; grind⟩,fun x y _ _=>?_⟩
 ·have:=hx.1; have:=hx.2; grind
 ·have e2:y-x-1*(y-x)=0:=by grind
  rw [e2,ab_zero]
  refine ⟨?_,rmul_nonneg (by grind) (sq_nonneg _)⟩
  have:=rmul_le (show 1≤ab a+ab b+1 by grind) (ab_nonneg (y-x)); grind
theorem Dv.add {f g f' g':R→R} {a b:R} (h:Dv f g a b) (k:Dv f' g' a b):Dv (fun x=>f x+f' x) (fun x=>g x+g' x) a b:=by
 obtain ⟨C,hC,hb,hq⟩:=h
 obtain ⟨D,hD,kb,kq⟩:=k
 refine ⟨C+D,by grind,fun x hx=>?_,fun x y hx hy=>?_⟩
 ·have h1:=hb x hx; have h2:=kb x hx
  have h3:=ab_add (f x) (f' x); have h4:=ab_add (g x) (g' x)
  grind
 ·have h1:=hq x y hx hy; have h2:=kq x y hx hy
  have h3:=ab_add (f y-f x) (f' y-f' x)
  have h4:=ab_add (f y-f x-g x*(y-x)) (f' y-f' x-g' x*(y-x))
  have e1:f y+f' y-(f x+f' x)=f y-f x+(f' y-f' x):=by grind
  have e2:f y+f' y-(f x+f' x)-(g x+g' x)*(y-x)=f y-f x-g x*(y-x)+(f' y-f' x-g' x*(y-x)):=by grind
  rw [e2,e1]
  grind
theorem Dv.mul {f g f' g':R→R} {a b:R} (h:Dv f g a b) (k:Dv f' g' a b):Dv (fun x=>f x*f' x) (fun x=>g x*f' x+f x*g' x) a b:=by
 obtain ⟨C,hC,hb,hq⟩:=h
 obtain ⟨D,hD,kb,kq⟩:=k
 have hCD:=rmul_nonneg hC hD
 refine ⟨3*(C*D),by grind,fun x hx=>?_,fun x y hx hy=>?_⟩
 ·have h1:=hb x hx; have h2:=kb x hx
  have h3:=rmul_mono h1.1 h2.1 (ab_nonneg _) hD
  have h4:=rmul_mono h1.2 h2.1 (ab_nonneg _) hD
  have h5:=rmul_mono h1.1 h2.2 (ab_nonneg _) hD
  have h6:=ab_add (g x*f' x) (f x*g' x)
  rw [ab_mul,ab_mul] at h6
  rw [ab_mul]
  grind
 ·have h1:=hq x y hx hy; have h2:=kq x y hx hy; have h3:=hb x hx; have h4:=kb y hy; have h4':=kb x hx
  have hn:=ab_nonneg (y-x)
  have hsq:=sq_nonneg (y-x)
  have e0:ab (y-x)*ab (y-x)=(y-x)*(y-x):=by rw [← ab_mul,ab_of hsq]
  constructor
  ·have e1:f y*f' y-f x*f' x=(f y-f x)*f' y+f x*(f' y-f' x):=by grind
   have h5:=ab_add ((f y-f x)*f' y) (f x*(f' y-f' x))
   rw [ab_mul,ab_mul] at h5
   have h6:=rmul_mono h1.1 h4.1 (ab_nonneg _) hD
   have h7:=rmul_mono h3.1 h2.1 (ab_nonneg _) (rmul_nonneg hD hn)
   have h8:=rmul_nonneg hCD hn
   rw [e1]; grind
  ·have e1:f y*f' y-f x*f' x-(g x*f' x+f x*g' x)*(y-x)=f x*(f' y-f' x-g' x*(y-x))+f' x*(f y-f x-g x*(y-x))+(f y-f x)*(f' y-f' x):=by grind
   have h5:=ab_add (f x*(f' y-f' x-g' x*(y-x))+f' x*(f y-f x-g x*(y-x))) ((f y-f x)*(f' y-f' x))
   have h6:=ab_add (f x*(f' y-f' x-g' x*(y-x))) (f' x*(f y-f x-g x*(y-x)))
   rw [ab_mul] at h5
   rw [ab_mul,ab_mul] at h6
   have h7:=rmul_mono h3.1 h2.2 (ab_nonneg _) (rmul_nonneg hD hsq)
   have h8:=rmul_mono h4'.1 h1.2 (ab_nonneg _) (rmul_nonneg hC hsq)
   have h9:=rmul_mono h1.1 h2.1 (ab_nonneg _) (rmul_nonneg hD hn)
   have e2:C*ab (y-x)*(D*ab (y-x))=C*D*((y-x)*(y-x)):=by rw [← e0]; grind
   rw [e1]; grind
theorem Dv.smul {f g:R→R} {a b:R} (c:R) (h:Dv f g a b):Dv (fun x=>c*f x) (fun x=>c*g x) a b:=
 ((Dv.const c a b).mul h).congr (fun _ _=>rfl) fun x _=>by grind
theorem Dv.neg {f g:R→R} {a b:R} (h:Dv f g a b):Dv (fun x=>-f x) (fun x=>-g x) a b:=
 (h.smul (-1)).congr (fun x _=>by grind) fun x _=>by grind
theorem Dv.sub {f g f' g':R→R} {a b:R} (h:Dv f g a b) (k:Dv f' g' a b):Dv (fun x=>f x-f' x) (fun x=>g x-g' x) a b:=
 (h.add k.neg).congr (fun x _=>by grind) fun x _=>by grind
theorem Dv.comp {f g f' g':R→R} {a b:R} {c d:R} (h:Dv f g a b) (k:Dv f' g' c d) (hr:∀ x,In a b x→In c d (f x)):Dv (fun x=>f' (f x)) (fun x=>g' (f x)*g x) a b:=by
 obtain ⟨C,hC,hb,hq⟩:=h
 obtain ⟨D,hD,kb,kq⟩:=k
 have hCD:=rmul_nonneg hC hD
 have hCCD:=rmul_nonneg hC hCD
 refine ⟨D+C*D+C*(C*D),by grind,fun x hx=>?_,fun x y hx hy=>?_⟩
 ·have h1:=hb x hx; have h2:=kb _ (hr x hx)
  have h3:=rmul_mono h1.2 h2.2 (ab_nonneg _) hD
  rw [ab_mul]; grind
 ·have h1:=hq x y hx hy; have h2:=kq _ _ (hr x hx) (hr y hy); have h3:=hb x hx; have h4:=kb _ (hr x hx)
  have hn:=ab_nonneg (y-x)
  have hsq:=sq_nonneg (y-x)
  have e0:ab (y-x)*ab (y-x)=(y-x)*(y-x):=by rw [← ab_mul,ab_of hsq]
  have e3:ab (f y-f x)*ab (f y-f x)=(f y-f x)*(f y-f x):=by rw [← ab_mul,ab_of (sq_nonneg _)]
  constructor
  ·have h5:=rmul_le' h1.1 hD
   have h6:=rmul_nonneg hD hn
   have h7:=rmul_nonneg hCCD hn
   grind
  ·have e1:f' (f y)-f' (f x)-g' (f x)*g x*(y-x)=(f' (f y)-f' (f x)-g' (f x)*(f y-f x))+g' (f x)*(f y-f x-g x*(y-x)):=by grind
   have h5:=ab_add (f' (f y)-f' (f x)-g' (f x)*(f y-f x)) (g' (f x)*(f y-f x-g x*(y-x)))
   rw [ab_mul] at h5
   have h6:=rmul_mono h4.2 h1.2 (ab_nonneg _) (rmul_nonneg hC hsq)
   have h7:=rmul_mono h1.1 h1.1 (ab_nonneg _) (rmul_nonneg hC hn)
   have h8:C*ab (y-x)*(C*ab (y-x))=C*C*((y-x)*(y-x)):=by rw [← e0]; grind
   have h9:=rmul_le' (show (f y-f x)*(f y-f x)≤C*C*((y-x)*(y-x)) by grind) hD
   have h10:=rmul_nonneg hD hsq
   rw [e1]; grind
theorem Dv.ps {u:Nat→R} {r K:R} (h:PB u r K) {s:R} (hs:0≤s) (hsr:s<r):Dv (ps u) (ps (da u)) (-s) s:=by
 obtain ⟨C,hC,hq⟩:=ps_quad h hs hsr
 obtain ⟨t,w,hg,e⟩:=ratio hs hsr
 obtain ⟨s',hs1,hs2⟩:=between hsr
 obtain ⟨L,hL⟩:=h.da (s:=s') (by grind) hs2
 obtain ⟨t',w',hg',e'⟩:=ratio hs hs1
 have b1:∀ x,In (-s) s x→ab x≤s:=fun x hx=>ab_le.2 hx
 have b2:∀ x,In (-s) s x→ab (An.ps u x)≤K*w:=fun x hx=>by
  have h1:=ps_tail h hg (show ab x≤t*r by have:=b1 x hx; grind) 0
  rw [show psum u x 0=0 from rfl,rpow_zero] at h1
  have h2:An.ps u x-0=An.ps u x:=by grind
  rw [h2] at h1; grind
 have b3:∀ x,In (-s) s x→ab (An.ps (da u) x)≤L*w':=fun x hx=>by
  have h1:=ps_tail hL hg' (show ab x≤t'*s' by have:=b1 x hx; grind) 0
  rw [show psum (da u) x 0=0 from rfl,rpow_zero] at h1
  have h2:An.ps (da u) x-0=An.ps (da u) x:=by grind
  rw [h2] at h1; grind
 have hKw:0≤K*w:=rmul_nonneg h.k0 (by have:=hg.pos; grind)
 have hLw:0≤L*w':=rmul_nonneg hL.k0 (by have:=hg'.pos; grind)
 have hCs:=rmul_nonneg hC hs
 refine ⟨K*w+L*w'+C+2*(C*s),by grind,fun x hx=>⟨by have:=b2 x hx; grind,by have:=b3 x hx; grind⟩,fun x y hx hy=>?_⟩
 have h1:=hq x y (b1 x hx) (b1 y hy)
 have hn:=ab_nonneg (y-x)
 have hsq:=sq_nonneg (y-x)
 have e0:ab (y-x)*ab (y-x)=(y-x)*(y-x):=by rw [← ab_mul,ab_of hsq]
 have hd:ab (y-x)≤2*s:=by have:=hx.1; have:=hx.2; have:=hy.1; have:=hy.2; exact ab_le.2 (by grind)
 constructor
 ·have e1:An.ps u y-An.ps u x=(An.ps u y-An.ps u x-An.ps (da u) x*(y-x))+An.ps (da u) x*(y-x):=by grind
  have h2:=ab_add (An.ps u y-An.ps u x-An.ps (da u) x*(y-x)) (An.ps (da u) x*(y-x))
  rw [ab_mul] at h2
  have h3:=rmul_le (b3 x hx) hn
  have h4:=rmul_le' hd (rmul_nonneg hC hn)
  have h5:=rmul_nonneg hKw hn
  have h6:=rmul_nonneg hC hn
  rw [← e0] at h1
  rw [e1]; grind
 ·have h2:=rmul_nonneg hKw hsq
  have h3:=rmul_nonneg hLw hsq
  have h4:=rmul_nonneg hCs hsq
  grind
theorem Dv.mono {f g:R→R} {a b:R} (h:Dv f g a b) (hab:a≤b) (hg:∀ x,In a b x→0≤g x):f a≤f b:=by
 obtain ⟨C,hC,_,hq⟩:=h
 refine eq_of_le fun e he=>?_
 have hep:=ofQ_pos he
 obtain ⟨N,hN⟩:=arch (C*((b-a)*(b-a))*(ofQ e)⁻¹)
 have hi:=mul_inv (x:=ofQ e) (by grind)
 have h1:C*((b-a)*(b-a))≤((N+1:Nat):R)*ofQ e:=by
  have h2:=rmul_le hN (show 0≤ofQ e by grind)
  have h3:C*((b-a)*(b-a))*(ofQ e)⁻¹*ofQ e=C*((b-a)*(b-a)):=by grind
  rw [cast_succ]; grind
 have hn0:(0:R)<((N+1:Nat):R):=by rw [cast_succ]; have:=cast_nonneg N; have:=rzero_lt_one; grind
 have hni:=mul_inv (x:=((N+1:Nat):R)) (by grind)
 have hnp:=inv_pos hn0
 generalize hd:(b-a)*((N+1:Nat):R)⁻¹=d
 have hd0:0≤d:=by rw [← hd]; exact rmul_nonneg (by grind) (by grind)
 have hdn:((N+1:Nat):R)*d=b-a:=by grind
 have step:∀ i:Nat,i≤N+1→f a-i*(C*(d*d))≤f (a+i*d):=by
  intro i
  induction i with
  | zero=>
   intro _
   have:a+((0:Nat):R)*d=a:=by rw [show ((0:Nat):R)=0 from rfl]; grind
   rw [this,show ((0:Nat):R)=0 from rfl]; grind
  | succ i ih=>
   intro hi
   have h2:=ih (by omega)
   have in0:In a b (a+i*d):=by
    have k1:=rmul_le (cast_le (show i≤N+1 by omega)) hd0
    have k2:=rmul_nonneg (cast_nonneg i) hd0
    exact ⟨by grind,by grind⟩
   have in1:In a b (a+((i+1:Nat):R)*d):=by
    have k1:=rmul_le (cast_le hi) hd0
    have k2:=rmul_nonneg (cast_nonneg (i+1)) hd0
    exact ⟨by grind,by grind⟩
   have h3:=(hq _ _ in0 in1).2
   have e1:a+((i+1:Nat):R)*d-(a+i*d)=d:=by rw [cast_succ]; grind
   rw [e1] at h3
   have h4:=(ab_le.1 h3).1
   have h5:=rmul_nonneg (hg _ in0) hd0
   have h6:((i+1:Nat):R)*(C*(d*d))=i*(C*(d*d))+C*(d*d):=by rw [cast_succ]; grind
   rw [h6]; grind
 have h2:=step (N+1) (Nat.le_refl _)
 have e2:a+((N+1:Nat):R)*d=b:=by grind
 rw [e2] at h2
 have h3:((N+1:Nat):R)*(C*(d*d))≤ofQ e:=by
  refine cancel hn0 ?_
  have:((N+1:Nat):R)*(C*(d*d))*((N+1:Nat):R)=C*((b-a)*(b-a)):=by rw [← hdn]; grind
  rw [this]; grind
 grind
theorem Dv.fixed {f g:R→R} {a b:R} (h:Dv f g a b) (hab:a≤b) (hg:∀ x,In a b x→g x=0):f a=f b:=by
 refine rle_antisymm (h.mono hab fun x hx=>by rw [hg x hx]; exact rle_refl _) ?_
 have:=h.neg.mono hab fun x hx=>by rw [hg x hx]; grind
 grind
theorem Dv.between {f g:R→R} {a b:R} (h:Dv f g a b) (hab:a≤b) {m M:R} (hg:∀ x,In a b x→m≤g x∧g x≤M):m*(b-a)≤f b-f a∧f b-f a≤M*(b-a):=by
 have h1:=(h.sub ((Dv.id a b).smul m)).mono hab fun x hx=>by have:=(hg x hx).1; grind
 have h2:=(((Dv.id a b).smul M).sub h).mono hab fun x hx=>by have:=(hg x hx).2; grind
 grind
theorem Dv.same {f g:R→R} {a b:R} (h:Dv f g a b) (hg:∀ x,In a b x→g x=0) {x y:R} (hx:In a b x) (hy:In a b y):f x=f y:=by
 rcases rle_total x y with k | k
 ·exact (h.sub_iv hx.1 hy.2).fixed k fun z hz=>hg z ⟨rle_trans hx.1 hz.1,rle_trans hz.2 hy.2⟩
 ·exact ((h.sub_iv hy.1 hx.2).fixed k fun z hz=>hg z ⟨rle_trans hy.1 hz.1,rle_trans hz.2 hx.2⟩).symm
theorem Dv.inv {f g u:R→R} {a b:R} (h:Dv f g a b) {M:R} (hM:0≤M) (hu:∀ x,In a b x→u x*f x=1∧ab (u x)≤M):Dv u (fun x=>-(g x*(u x*u x))) a b:=by
 obtain ⟨C,hC,hb,hq⟩:=h
 have hMM:=rmul_nonneg hM hM
 have hMMM:=rmul_nonneg hM hMM
 have h1:=rmul_nonneg hC hMM
 have h2:=rmul_nonneg (rmul_nonneg hC hC) hMMM
 refine ⟨M+C*(M*M)+C*C*(M*(M*M)),by grind,fun x hx=>?_,fun x y hx hy=>?_⟩
 ·have k1:=(hu x hx).2
  have k2:=rmul_mono k1 k1 (ab_nonneg _) hM
  have k3:=rmul_mono (hb x hx).2 k2 (ab_nonneg _) hMM
  rw [ab_neg,ab_mul,ab_mul]; grind
 ·have k1:=hu x hx; have k2:=hu y hy
  have k3:=hq x y hx hy
  have hn:=ab_nonneg (y-x)
  have hsq:=sq_nonneg (y-x)
  have e0:ab (y-x)*ab (y-x)=(y-x)*(y-x):=by rw [← ab_mul,ab_of hsq]
  have e1:u y-u x = -(u x*u y*(f y-f x)):=by grind
  have m1:=rmul_mono k1.2 k2.2 (ab_nonneg _) hM
  have l1:ab (u y-u x)≤C*(M*M)*ab (y-x):=by
   rw [e1,ab_neg,ab_mul,ab_mul]
   have:=rmul_mono m1 k3.1 (rmul_nonneg (ab_nonneg _) (ab_nonneg _)) (rmul_nonneg hC hn)
   grind
  constructor
  ·have:=rmul_nonneg hM hn
   have:=rmul_nonneg h2 hn
   grind
  ·have e2:u y-u x - -(g x*(u x*u x))*(y-x) = -(u x*u y*(f y-f x-g x*(y-x)))-g x*u x*(y-x)*(u y-u x):=by
    have:u x*u y*(f y-f x)=u x-u y:=by grind
    grind
   have q1:=ab_sub (-(u x*u y*(f y-f x-g x*(y-x)))) (g x*u x*(y-x)*(u y-u x))
   rw [ab_neg,ab_mul,ab_mul,ab_mul (g x*u x*(y-x)),ab_mul (g x*u x),ab_mul (g x)] at q1
   have q2:=rmul_mono m1 k3.2 (rmul_nonneg (ab_nonneg _) (ab_nonneg _)) (rmul_nonneg hC hsq)
   have q3:=rmul_mono (hb x hx).2 k1.2 (ab_nonneg _) hM
   have q4:=rmul_mono (rmul_le q3 hn) l1 (rmul_nonneg (rmul_nonneg (ab_nonneg _) (ab_nonneg _)) hn) (rmul_nonneg h1 hn)
   have q5:C*M*ab (y-x)*(C*(M*M)*ab (y-x))=C*C*(M*(M*M))*((y-x)*(y-x)):=by rw [← e0]; grind
   have q6:=rmul_nonneg hM hsq
   rw [e2]; grind
noncomputable def rf:Nat→R
 | 0=>1
 | n+1=>rf n*((n+1:Nat):R)⁻¹
theorem cast_pos (n:Nat):(0:R)<((n+1:Nat):R):=by rw [cast_succ]; have:=cast_nonneg n; have:=rzero_lt_one; grind
theorem rf_succ (n:Nat):((n+1:Nat):R)*rf (n+1)=rf n:=by
 have:=mul_inv (x:=((n+1:Nat):R)) (by have:=cast_pos n; grind)
 rw [show rf (n+1)=rf n*((n+1:Nat):R)⁻¹ from rfl]; grind
theorem rf_pos (n:Nat):0<rf n:=by
 induction n with
 | zero=>exact rzero_lt_one
 | succ n ih=>exact rmul_pos ih (inv_pos (cast_pos n))
theorem rf_le (n:Nat):rf n≤1:=by
 induction n with
 | zero=>exact rle_refl _
 | succ n ih=>
  have h1:=rf_succ n
  have h2:=rmul_le (show (1:R)≤((n+1:Nat):R) by rw [cast_succ]; have:=cast_nonneg n; grind) (show 0≤rf (n+1) by have:=rf_pos (n+1); grind)
  grind
theorem upto (u:Nat→R) (N:Nat):∃ K,∀ n,n≤N→u n≤K:=by
 induction N with
 | zero=>exact ⟨u 0,fun n hn=>by rw [Nat.le_zero.1 hn]; exact rle_refl _⟩
 | succ N ih=>
  obtain ⟨K,hK⟩:=ih
  have h1:=le_ab K
  have h2:=le_ab (u (N+1))
  refine ⟨ab K+ab (u (N+1)),fun n hn=>?_⟩
  have h3:=ab_nonneg K
  have h4:=ab_nonneg (u (N+1))
  rcases Nat.lt_or_ge N n with k | k
  ·rw [show n=N+1 by omega]; grind
  ·have:=hK n k; grind
theorem rf_bound {r:R} (hr:0<r):∃ K,∀ n,rf n*r ^ n≤K:=by
 obtain ⟨N,hN⟩:=arch r
 obtain ⟨K,hK⟩:=upto (fun n=>rf n*r ^ n) N
 refine ⟨K,fun n=>?_⟩
 induction n with
 | zero=>exact hK 0 (Nat.zero_le _)
 | succ n ih=>
  rcases Nat.lt_or_ge n N with k | k
  ·exact hK (n+1) k
  ·have h1:=rf_succ n
   have h2:r≤((n+1:Nat):R):=rle_trans hN (cast_le (by omega))
   have h3:=rmul_nonneg (show 0≤rf (n+1) by have:=rf_pos (n+1); grind) (pow_nonneg (show 0≤r by grind) n)
   have h4:=rmul_le' h2 h3
   have h5:rf (n+1)*r ^ n*((n+1:Nat):R)=rf n*r ^ n:=by rw [← h1]; grind
   rw [rpow_succ]; grind
theorem PB.of {a:Nat→R} (h:∀ n,ab (a n)≤rf n) {r:R} (hr:0<r):∃ K,PB a r K:=by
 obtain ⟨K,hK⟩:=rf_bound hr
 exact ⟨K,hr,fun n=>rle_trans (rmul_le (h n) (pow_nonneg (by grind) n)) (hK n)⟩
theorem Dv.rf {a:Nat→R} (h:∀ n,ab (a n)≤rf n) {s:R} (hs:0≤s):Dv (An.ps a) (An.ps (An.da a)) (-s) s:=by
 obtain ⟨K,hK⟩:=PB.of h (r:=s+1) (by have:=rzero_lt_one; grind)
 exact Dv.ps hK hs (by have:=rzero_lt_one; grind)
noncomputable def E (x:R):R:=ps rf x
theorem da_rf:da rf=rf:=funext fun n=>rf_succ n
theorem rf_ab (n:Nat):ab (rf n)≤rf n:=by rw [ab_of (by have:=rf_pos n; grind)]; exact rle_refl _
theorem E_dv {s:R} (hs:0≤s):Dv E E (-s) s:=by
 have:=Dv.rf rf_ab hs
 rwa [da_rf] at this
theorem E_zero:E 0=1:=ps_zero rf
theorem in_of {s x:R} (h:ab x≤s):In (-s) s x:=ab_le.1 h
theorem Dv.back {f g:R→R} {s c:R} (h:Dv f g (-(s+ab c)) (s+ab c)):Dv (fun t=>f (c-t)) (fun t=>-g (c-t)) (-s) s:=by
 have h1:=((Dv.const c (-s) s).sub (Dv.id (-s) s)).comp h (fun x hx=>by
  have:=le_ab c
  have:=hx.1
  have:=hx.2
  exact ⟨by grind,by grind⟩)
 exact h1.congr (fun _ _=>rfl) fun x _=>by grind
theorem E_add (x y:R):E (x+y)=E x*E y:=by
 have hs:0≤ab x+ab (x+y):=by have:=ab_nonneg x; have:=ab_nonneg (x+y); grind
 generalize hsd:ab x+ab (x+y)=s at hs
 have h1:=(E_dv hs).mul (Dv.back (s:=s) (c:=x+y) (E_dv (by have:=ab_nonneg (x+y); grind)))
 have h2:=h1.same (fun t _=>by grind) (x:=0) (y:=x) (in_of (by rw [ab_zero]; exact hs)) (in_of (by have:=ab_nonneg (x+y); grind))
 rw [E_zero,show x+y-0=x+y by grind,show x+y-x=y by grind] at h2
 grind
theorem E_neg (x:R):E x*E (-x)=1:=by rw [← E_add,show x + -x=0 by grind,E_zero]
theorem half_ex (x:R):∃ y,x=y+y:=⟨x*ofQ (1 / 2),by have k:=ofQ_half 1; rw [ofQ_one] at k; grind⟩
theorem E_pos (x:R):0<E x:=by
 obtain ⟨y,rfl⟩:=half_ex x
 have h1:=E_neg (y+y)
 rw [E_add]
 have h2:=sq_nonneg (E y)
 rcases Classical.em (E y*E y=0) with h | h
 ·rw [E_add,h] at h1; grind
 ·grind
theorem E_mono {x y:R} (h:x≤y):E x≤E y:=by
 have hs:0≤ab x+ab y:=by have:=ab_nonneg x; have:=ab_nonneg y; grind
 have h1:=le_ab x; have h2:=le_ab y; have h3:=ab_nonneg x; have h4:=ab_nonneg y
 exact ((E_dv hs).sub_iv (c:=x) (d:=y) (by grind) (by grind)).mono h fun z _=>by have:=E_pos z; grind
theorem E_ge (x:R):1+x≤E x:=by
 rcases rle_total 0 x with h | h
 ·have h1:=((E_dv h).sub_iv (c:=0) (d:=x) (by grind) (by grind)).between h (m:=1) (M:=E x) fun z hz=>⟨by have:=E_mono hz.1; rw [E_zero] at this; exact this,E_mono hz.2⟩
  rw [E_zero] at h1; grind
 ·have h1:=((E_dv (s:=-x) (by grind)).sub_iv (c:=x) (d:=0) (by grind) (by grind)).between h (m:=0) (M:=1) fun z hz=>⟨by have:=E_pos z; grind,by have:=E_mono hz.2; rw [E_zero] at this; exact this⟩
  rw [E_zero] at h1; grind
def sg4:Nat→R × R
 | 0=>(0,1)
 | n+1=>((sg4 n).2,-(sg4 n).1)
def sS (n:Nat):R:=(sg4 n).1
def sC (n:Nat):R:=(sg4 n).2
theorem sS_succ (n:Nat):sS (n+1)=sC n:=rfl
theorem sC_succ (n:Nat):sC (n+1) = -sS n:=rfl
theorem sg_ab (n:Nat):ab (sS n)≤1∧ab (sC n)≤1:=by
 induction n with
 | zero=>exact ⟨by rw [show sS 0=0 from rfl,ab_zero]; have:=rzero_lt_one; grind,by rw [show sC 0=1 from rfl,ab_one]; exact rle_refl _⟩
 | succ n ih=>rw [sS_succ,sC_succ,ab_neg]; exact ⟨ih.2,ih.1⟩
noncomputable def cs (n:Nat):R:=sS n*rf n
noncomputable def cco (n:Nat):R:=sC n*rf n
noncomputable def S (x:R):R:=ps cs x
noncomputable def C (x:R):R:=ps cco x
theorem sg_rf {a:R} (n:Nat) (h:ab a≤1):ab (a*rf n)≤rf n:=by
 rw [ab_mul,ab_of (show 0≤rf n by have:=rf_pos n; grind)]
 have:=rmul_le h (show 0≤rf n by have:=rf_pos n; grind); grind
theorem cs_ab (n:Nat):ab (cs n)≤rf n:=sg_rf n (sg_ab n).1
theorem cc_ab (n:Nat):ab (cco n)≤rf n:=sg_rf n (sg_ab n).2
theorem da_cs:da cs=cco:=funext fun n=>by rw [da,cs,cco,sS_succ]; have:=rf_succ n; grind
theorem da_cc:da cco=fun n=>-cs n:=funext fun n=>by rw [da,cs,cco,sC_succ]; have:=rf_succ n; grind
theorem psum_neg (a:Nat→R) (x:R) (n:Nat):psum (fun n=>-a n) x n = -psum a x n:=by
 induction n with
 | zero=>show (0:R) = -0; grind
 | succ n ih=>show psum (fun n=>-a n) x n + -a n*x ^ n = -(psum a x n+a n*x ^ n); rw [ih]; grind
theorem ps_rf {a:Nat→R} (h:∀ n,ab (a n)≤rf n) (x:R):Conv (psum a x) (ps a x):=by
 obtain ⟨K,hK⟩:=PB.of h (r:=ab x+1) (by have:=ab_nonneg x; have:=rzero_lt_one; grind)
 exact ps_conv hK (by have:=rzero_lt_one; grind)
theorem ps_neg_cs (x:R):ps (fun n=>-cs n) x = -S x:=ps_eq ((ps_rf cs_ab x).neg.congr fun n=>(psum_neg cs x n).symm)
theorem S_dv {s:R} (hs:0≤s):Dv S C (-s) s:=by
 have:=Dv.rf cs_ab hs
 rwa [da_cs] at this
theorem C_dv {s:R} (hs:0≤s):Dv C (fun x=>-S x) (-s) s:=by
 have:=Dv.rf cc_ab hs
 rw [da_cc] at this
 exact this.congr (fun _ _=>rfl) fun x _=>ps_neg_cs x
theorem S_zero:S 0=0:=by rw [S,ps_zero,cs,show sS 0=0 from rfl]; grind
theorem C_zero:C 0=1:=by rw [C,ps_zero,cco,show sC 0=1 from rfl,show rf 0=1 from rfl]; grind
theorem S_add (x y:R):S (x+y)=S x*C y+C x*S y:=by
 have hs:0≤ab x+ab (x+y):=by have:=ab_nonneg x; have:=ab_nonneg (x+y); grind
 generalize hsd:ab x+ab (x+y)=s at hs
 have hn:=ab_nonneg (x+y)
 have h1:=((S_dv hs).mul (Dv.back (s:=s) (c:=x+y) (C_dv (by grind)))).add ((C_dv hs).mul (Dv.back (s:=s) (c:=x+y) (S_dv (by grind))))
 have h2:=h1.same (fun t _=>by grind) (x:=0) (y:=x) (in_of (by rw [ab_zero]; exact hs)) (in_of (by grind))
 rw [S_zero,C_zero,show x+y-0=x+y by grind,show x+y-x=y by grind] at h2
 grind
theorem C_add (x y:R):C (x+y)=C x*C y-S x*S y:=by
 have hs:0≤ab x+ab (x+y):=by have:=ab_nonneg x; have:=ab_nonneg (x+y); grind
 generalize hsd:ab x+ab (x+y)=s at hs
 have hn:=ab_nonneg (x+y)
 have h1:=((C_dv hs).mul (Dv.back (s:=s) (c:=x+y) (C_dv (by grind)))).sub ((S_dv hs).mul (Dv.back (s:=s) (c:=x+y) (S_dv (by grind))))
 have h2:=h1.same (fun t _=>by grind) (x:=0) (y:=x) (in_of (by rw [ab_zero]; exact hs)) (in_of (by grind))
 rw [S_zero,C_zero,show x+y-0=x+y by grind,show x+y-x=y by grind] at h2
 grind
theorem SC_one (x:R):S x*S x+C x*C x=1:=by
 have hs:=ab_nonneg x
 have h1:=((S_dv hs).mul (S_dv hs)).add ((C_dv hs).mul (C_dv hs))
 have h2:=h1.same (fun t _=>by grind) (x:=0) (y:=x) (in_of (by rw [ab_zero]; exact hs)) (in_of (rle_refl _))
 rw [S_zero,C_zero] at h2; grind
theorem SC_neg (x:R):S (-x) = -S x∧C (-x)=C x:=by
 have h1:=S_add x (-x)
 have h2:=C_add x (-x)
 rw [show x + -x=0 by grind,S_zero] at h1
 rw [show x + -x=0 by grind,C_zero] at h2
 have h3:=SC_one x
 generalize S x=s at *
 generalize C x=c at *
 have e1:s*(s*C (-x)+c*S (-x))=0:=by rw [← h1]; grind
 have e2:c*(c*C (-x)-s*S (-x))=c:=by rw [← h2]; grind
 have e3:c*(s*C (-x)+c*S (-x))=0:=by rw [← h1]; grind
 have e4:s*(c*C (-x)-s*S (-x))=s:=by rw [← h2]; grind
 have e5:(s*s+c*c)*C (-x)=c:=by grind
 have e6:(s*s+c*c)*S (-x) = -s:=by grind
 rw [h3] at e5 e6
 exact ⟨by grind,by grind⟩
theorem S_le (x:R):ab (S x)≤1∧ab (C x)≤1:=by
 have h:=SC_one x
 have h1:=sq_nonneg (S x)
 have h2:=sq_nonneg (C x)
 have key:∀ z:R,z*z≤1→ab z≤1:=by
  intro z hz
  rcases rle_total (ab z) 1 with k | k
  ·exact k
  ·have h3:=rmul_mono k k (by have:=rzero_lt_one; grind) (ab_nonneg z)
   have h4:ab z*ab z=z*z:=by rw [← ab_mul,ab_of (sq_nonneg z)]
   have h5:=rmul_le' k (ab_nonneg z)
   grind
 exact ⟨key _ (by grind),key _ (by grind)⟩
theorem Dv.bnd {f g:R→R} {a b:R} (h:Dv f g a b):∃ M,0≤M∧∀ x,In a b x→ab (f x)≤M:=by
 obtain ⟨C,hC,hb,_⟩:=h
 exact ⟨C,hC,fun x hx=>(hb x hx).1⟩
theorem Dv.compE {f g f' g':R→R} {a b:R} (h:Dv f g a b) (k:∀ s,0≤s→Dv f' g' (-s) s):Dv (fun x=>f' (f x)) (fun x=>g' (f x)*g x) a b:=by
 obtain ⟨M,hM,hb⟩:=h.bnd
 exact h.comp (k M hM) fun x hx=>ab_le.1 (hb x hx)
theorem sq_zero {x:R} (h:x*x=0):x=0:=by
 rcases Classical.em (x=0) with k | k
 ·exact k
 ·have:=mul_inv k; grind
theorem one_pow (n:Nat):(1:R) ^ n=1:=by
 induction n with
 | zero=>rfl
 | succ n ih=>rw [rpow_succ,ih]; grind
theorem PB.one {a:Nat→R} (h:∀ n,ab (a n)≤1):PB a 1 1:=⟨rzero_lt_one,fun n=>by rw [one_pow]; have:=h n; grind⟩
theorem inv_le_one (n:Nat):((n+1:Nat):R)⁻¹≤1:=by
 have h1:=mul_inv (x:=((n+1:Nat):R)) (by have:=cast_pos n; grind)
 have h2:=rmul_le (show (1:R)≤((n+1:Nat):R) by rw [cast_succ]; have:=cast_nonneg n; grind) (show 0≤((n+1:Nat):R)⁻¹ by have:=inv_pos (cast_pos n); grind)
 grind
theorem over_ab {a:Nat→R} (h0:a 0=0) (h:∀ n,ab (a n)≤1) (n:Nat):ab (a n*((n:Nat):R)⁻¹)≤1:=by
 cases n with
 | zero=>rw [h0,show (0:R)*((0:Nat):R)⁻¹=0 by grind,ab_zero]; have:=rzero_lt_one; grind
 | succ n=>
  have hp:=inv_pos (cast_pos n)
  rw [ab_mul,ab_of (show 0≤((n+1:Nat):R)⁻¹ by grind)]
  have:=rmul_mono (h (n+1)) (inv_le_one n) (ab_nonneg _) (show (0:R)≤1 by have:=rzero_lt_one; grind)
  grind
theorem over_da {a:Nat→R} (n:Nat):da (fun n=>a n*((n:Nat):R)⁻¹) n=a (n+1):=by
 have:=mul_inv (x:=((n+1:Nat):R)) (by have:=cast_pos n; grind)
 rw [da]; grind
noncomputable def atc (n:Nat):R:=sS n*((n:Nat):R)⁻¹
noncomputable def A (x:R):R:=ps atc x
noncomputable def Q (x:R):R:=ps sC x
theorem atc_pb:PB atc 1 1:=PB.one (over_ab rfl fun n=>(sg_ab n).1)
theorem sC_pb:PB sC 1 1:=PB.one fun n=>(sg_ab n).2
theorem A_zero:A 0=0:=by rw [A,ps_zero,atc,show sS 0=0 from rfl]; grind
theorem A_dv {s:R} (hs:0≤s) (h1:s<1):Dv A Q (-s) s:=by
 have:=Dv.ps atc_pb hs h1
 rwa [show da atc=sC from funext over_da] at this
theorem Q_fin (x:R) (n:Nat):psum sC x (n+2)+psum sC x n*(x*x)=1:=by
 induction n with
 | zero=>rw [show psum sC x (0+2)=0+1*x ^ 0 + -0*x ^ (0+1) from rfl,show psum sC x 0=0 from rfl,rpow_zero]; grind
 | succ n ih=>
  rw [show psum sC x (n+1+2)=psum sC x (n+2)+sC (n+2)*x ^ (n+2) from rfl,show psum sC x (n+1)=psum sC x n+sC n*x ^ n from rfl,show sC (n+2) = -sC n from rfl,rpow_succ,rpow_succ]; grind
theorem Q_eq {x:R} (h:ab x<1):Q x*(1+x*x)=1:=by
 have c:=ps_conv sC_pb h
 have h1:=(c.shift 2).add (c.mul_c (x*x))
 have h2:=h1.congr fun n=>Q_fin x n
 have:=h2.uniq (Conv.const 1)
 rw [Q]; grind
theorem Q_dv {s:R} (hs:0≤s) (h1:s<1):Dv Q (fun x=>-((x+x)*(Q x*Q x))) (-s) s:=by
 obtain ⟨M,hM,hb⟩:=(Dv.ps sC_pb hs h1).bnd
 have h2:=(Dv.const 1 (-s) s).add ((Dv.id (-s) s).mul (Dv.id (-s) s))
 refine (h2.inv hM fun x hx=>⟨?_,hb x hx⟩).congr (fun _ _=>rfl) fun x _=>?_
 ·have:=Q_eq (x:=x) (by have:=ab_le.2 hx; grind)
  exact this
 ·show -((0+(1*x+x*1))*(ps sC x*ps sC x)) = -((x+x)*(Q x*Q x))
  rw [Q]; grind
theorem tan_A {z:R} (h:ab z<1):S (A z)=z*C (A z):=by
 have hs:=ab_nonneg z
 have dA:=A_dv hs h
 have dS:=dA.compE fun s hs=>S_dv hs
 have dC:=dA.compE fun s hs=>C_dv hs
 have dD:=dC.add ((Dv.id (-ab z) (ab z)).mul dS)
 have dW:=(dD.mul dD).mul (Q_dv hs h)
 have hz:=dW.same (fun x hx=>by
  have hq:=Q_eq (x:=x) (by have:=ab_le.2 hx; grind)
  generalize Q x=q at *
  generalize S (A x)=u at *
  generalize C (A x)=v at *
  have e1 : -u*q+(1*u+x*(v*q))=x*q*(v+x*u):=by
   have:u=u*(q*(1+x*x)):=by rw [hq]; grind
   grind
  rw [e1]; grind) (x:=0) (y:=z) (in_of (by rw [ab_zero]; exact hs)) (in_of (rle_refl _))
 have q0:Q 0=1:=by rw [Q,ps_zero]; rfl
 rw [A_zero,S_zero,C_zero,q0] at hz
 have hq:=Q_eq h
 have h1:=SC_one (A z)
 generalize Q z=q at *
 generalize S (A z)=u at *
 generalize C (A z)=v at *
 have h2:(v+z*u)*(v+z*u)*q=1:=by grind
 have h3:(v+z*u)*(v+z*u)=1+z*z:=by
  have:(v+z*u)*(v+z*u)*(q*(1+z*z))=1*(1+z*z):=by rw [← h2]; grind
  rw [hq] at this; grind
 have h4:(u-z*v)*(u-z*v)=0:=by
  have:(u-z*v)*(u-z*v)+(v+z*u)*(v+z*u)=(1+z*z)*(u*u+v*v):=by grind
  rw [h3,h1] at this; grind
 have:=sq_zero h4
 grind
def eo:Nat→R × R
 | 0=>(0,1)
 | n+1=>((eo n).2,(eo n).1)
def od (n:Nat):R:=(eo n).1
def ev (n:Nat):R:=(eo n).2
theorem eo_ab (n:Nat):ab (od n)≤1∧ab (ev n)≤1:=by
 induction n with
 | zero=>exact ⟨by rw [show od 0=0 from rfl,ab_zero]; have:=rzero_lt_one; grind,by rw [show ev 0=1 from rfl,ab_one]; exact rle_refl _⟩
 | succ n ih=>exact ⟨ih.2,ih.1⟩
noncomputable def ahc (n:Nat):R:=od n*((n:Nat):R)⁻¹
noncomputable def H (x:R):R:=ps ahc x
noncomputable def V (x:R):R:=ps ev x
theorem ahc_pb:PB ahc 1 1:=PB.one (over_ab rfl fun n=>(eo_ab n).1)
theorem ev_pb:PB ev 1 1:=PB.one fun n=>(eo_ab n).2
theorem H_zero:H 0=0:=by rw [H,ps_zero,ahc,show od 0=0 from rfl]; grind
theorem H_dv {s:R} (hs:0≤s) (h1:s<1):Dv H V (-s) s:=by
 have:=Dv.ps ahc_pb hs h1
 rwa [show da ahc=ev from funext over_da] at this
theorem V_fin (x:R) (n:Nat):psum ev x (n+2)-psum ev x n*(x*x)=1:=by
 induction n with
 | zero=>rw [show psum ev x (0+2)=0+1*x ^ 0+0*x ^ (0+1) from rfl,show psum ev x 0=0 from rfl,rpow_zero]; grind
 | succ n ih=>
  rw [show psum ev x (n+1+2)=psum ev x (n+2)+ev (n+2)*x ^ (n+2) from rfl,show psum ev x (n+1)=psum ev x n+ev n*x ^ n from rfl,show ev (n+2)=ev n from rfl,rpow_succ,rpow_succ]; grind
theorem V_eq {x:R} (h:ab x<1):V x*(1-x*x)=1:=by
 have c:=ps_conv ev_pb h
 have h1:=(c.shift 2).sub (c.mul_c (x*x))
 have h2:=h1.congr fun n=>V_fin x n
 have:=h2.uniq (Conv.const 1)
 rw [V]; grind
theorem V_dv {s:R} (hs:0≤s) (h1:s<1):Dv V (fun x=>(x+x)*(V x*V x)) (-s) s:=by
 obtain ⟨M,hM,hb⟩:=(Dv.ps ev_pb hs h1).bnd
 have h2:=(Dv.const 1 (-s) s).sub ((Dv.id (-s) s).mul (Dv.id (-s) s))
 refine (h2.inv hM fun x hx=>⟨?_,hb x hx⟩).congr (fun _ _=>rfl) fun x _=>?_
 ·have:=V_eq (x:=x) (by have:=ab_le.2 hx; grind)
  exact this
 ·show -((0-(1*x+x*1))*(ps ev x*ps ev x))=(x+x)*(V x*V x)
  rw [V]; grind
theorem E_H {z:R} (h:ab z<1):E (H z+H z)*(1-z)=1+z:=by
 have hs:=ab_nonneg z
 have dP:=(H_dv hs h).compE fun s hs=>E_dv hs
 have dm:=(Dv.const 1 (-ab z) (ab z)).sub (Dv.id (-ab z) (ab z))
 have dW:=((dP.mul dP).mul (dm.mul dm)).mul (V_dv hs h)
 have hz:=dW.same (fun x hx=>by
  have hq:=V_eq (x:=x) (by have:=ab_le.2 hx; grind)
  generalize V x=q at *
  generalize E (H x)=p at *
  have e1:(p*q*p+p*(p*q))*((1-x)*(1-x))+p*p*((0-1)*(1-x)+(1-x)*(0-1))=p*p*(1-x)*(2*(q*(1-x))-2):=by grind
  have e2:p*p*(1-x)*(2*(q*(1-x))-2)*q+p*p*((1-x)*(1-x))*((x+x)*(q*q))=p*p*(1-x)*q*(2*(q*(1-x*x))-2):=by grind
  rw [e1,e2,hq]; grind) (x:=0) (y:=z) (in_of (by rw [ab_zero]; exact hs)) (in_of (rle_refl _))
 have q0:V 0=1:=by rw [V,ps_zero]; rfl
 rw [H_zero,E_zero,q0] at hz
 have hq:=V_eq h
 rw [E_add]
 generalize V z=q at *
 generalize E (H z)=p at *
 have h2:p*p*((1-z)*(1-z))*q=1:=by grind
 have h3:p*p*((1-z)*(1-z))=1-z*z:=by
  have:p*p*((1-z)*(1-z))*(q*(1-z*z))=1*(1-z*z):=by rw [← h2]; grind
  rw [hq] at this; grind
 have h4:=ab_le.1 (show ab z≤ab z from rle_refl _)
 exact cancel_eq (c:=1-z) (by grind) (by grind)
noncomputable def Ln (y:R):R:=H ((y-1)*(y+1)⁻¹)+H ((y-1)*(y+1)⁻¹)
theorem E_Ln {y:R} (h:0<y):E (Ln y)=y:=by
 have h1:=rzero_lt_one
 have hi:=mul_inv (x:=y+1) (by grind)
 have hp:=inv_pos (x:=y+1) (by grind)
 generalize hz:(y-1)*(y+1)⁻¹=z
 have e1:z*(y+1)=y-1:=by rw [← hz]; grind
 have hz1:ab z<1:=by
  have k1:z<1:=by
   rcases rle_total 1 z with k | k
   ·have:=rmul_le k (show 0≤y+1 by grind); grind
   ·rcases Classical.em (z=1) with q | q
    ·rw [q] at e1; grind
    ·grind
  have k2 : -1<z:=by
   rcases rle_total z (-1) with k | k
   ·have:=rmul_le k (show 0≤y+1 by grind); grind
   ·rcases Classical.em (z = -1) with q | q
    ·rw [q] at e1; grind
    ·grind
  unfold ab; split<;>grind
 have h2:=E_H hz1
 rw [Ln,hz]
 have h3:1-z≠0:=by have:=le_ab z; grind
 exact cancel_eq h3 (by grind)
noncomputable def hp:R:=8*A (ofQ (1 / 5))-2*A (ofQ (1 / 239))
theorem q_ab {q:Rat} (h:0≤q) (h1:q<1):ab (ofQ q)<1:=by
 rw [ab_of (show 0≤ofQ q from ofQ_le.2 h)]; exact ofQ_lt.2 h1
theorem hp_eq:S hp=1∧C hp=0:=by
 have a1:=tan_A (q_ab (q:=1 / 5) (by decide +kernel) (by decide +kernel))
 have a2:=tan_A (q_ab (q:=1 / 239) (by decide +kernel) (by decide +kernel))
 have f5:5*ofQ (1 / 5)=1:=by rw [show (5:R)=ofQ 5 from rfl,← ofQ_mul,show (5:Rat)*(1 / 5)=1 by decide +kernel]; rfl
 have f239:239*ofQ (1 / 239)=1:=by rw [show (239:R)=ofQ 239 from rfl,← ofQ_mul,show (239:Rat)*(1 / 239)=1 by decide +kernel]; rfl
 rw [hp]
 generalize ofQ (1 / 5)=s at *
 generalize ofQ (1 / 239)=t at *
 generalize A s=a at *
 generalize A t=b at *
 have o1:=SC_one a
 have o2:=SC_one b
 have d1:=S_add a a
 have d2:=C_add a a
 have q1:=S_add (a+a) (a+a)
 have q2:=C_add (a+a) (a+a)
 have p1:=S_add (a+a+(a+a)) (-b)
 have p2:=C_add (a+a+(a+a)) (-b)
 rw [(SC_neg b).1,(SC_neg b).2] at p1 p2
 have r1:=S_add (a+a+(a+a) + -b) (a+a+(a+a) + -b)
 have r2:=C_add (a+a+(a+a) + -b) (a+a+(a+a) + -b)
 have o3:=SC_one (a+a+(a+a) + -b)
 rw [show 8*a-2*b=a+a+(a+a) + -b+(a+a+(a+a) + -b) by grind]
 generalize S (a+a+(a+a) + -b)=X at *
 generalize C (a+a+(a+a) + -b)=Y at *
 generalize S (a+a+(a+a))=S4 at *
 generalize C (a+a+(a+a))=C4 at *
 generalize S (a+a)=S2 at *
 generalize C (a+a)=C2 at *
 generalize C a=c at *
 generalize C b=e at *
 have g1:5*S a=c:=by rw [a1]; grind
 have g2:239*S b=e:=by rw [a2]; grind
 clear a1 a2
 generalize S a=u at *
 generalize S b=v at *
 have k1:12*S2=5*C2:=by rw [d1,d2,← g1]; grind
 have k2:119*S4=120*C4:=by
  have:S2*C2*12=5*(C2*C2):=by grind
  have:144*(S2*S2)=25*(C2*C2):=by grind
  rw [q1,q2]; grind
 have k3:119*X=119*Y:=by
  rw [p1,p2,← g2]
  have h1:119*(S4*(239*v))=120*239*(C4*v):=by grind
  have h2:119*(S4*v)=120*(C4*v):=by grind
  grind
 have k4:X=Y:=by grind
 rw [k4] at o3 r1 r2
 exact ⟨by grind,by grind⟩
theorem S_hp (x:R):S (x+hp)=C x:=by rw [S_add,hp_eq.1,hp_eq.2]; grind
theorem rline_le {l h x y q:R} (h1:l≤x) (h2:x≤h) (h3:q≤l*y) (h4:q≤h*y):q≤x*y:=by
 rcases rle_total 0 y with hy | hy
 ·have:=rmul_le h1 hy; grind
 ·have:=rmul_le h2 (show 0 ≤ -y by grind); grind
theorem rline_ge {l h x y q:R} (h1:l≤x) (h2:x≤h) (h3:l*y≤q) (h4:h*y≤q):x*y≤q:=by
 rcases rle_total 0 y with hy | hy
 ·have:=rmul_le h2 hy; grind
 ·have:=rmul_le h1 (show 0 ≤ -y by grind); grind
theorem prod_in {a b c d x y u v:R} (hx:In a b x) (hy:In c d y) (h1:In u v (a*c)) (h2:In u v (a*d)) (h3:In u v (b*c)) (h4:In u v (b*d)):In u v (x*y):=by
 have c':∀ s t:R,s*t=t*s:=rmul_comm
 have l1:u≤a*y:=by rw [c']; exact rline_le hy.1 hy.2 (by rw [c']; exact h1.1) (by rw [c']; exact h2.1)
 have l2:u≤b*y:=by rw [c']; exact rline_le hy.1 hy.2 (by rw [c']; exact h3.1) (by rw [c']; exact h4.1)
 have l3:a*y≤v:=by rw [c']; exact rline_ge hy.1 hy.2 (by rw [c']; exact h1.2) (by rw [c']; exact h2.2)
 have l4:b*y≤v:=by rw [c']; exact rline_ge hy.1 hy.2 (by rw [c']; exact h3.2) (by rw [c']; exact h4.2)
 exact ⟨rline_le hx.1 hx.2 l1 l2,rline_ge hx.1 hx.2 l3 l4⟩
theorem le_of_sq {x y:R} (hy:0≤y) (h:x*x≤y*y):x≤y:=by
 rcases rle_total x y with k | k
 ·exact k
 ·have h1:=rmul_mono k k hy (by grind)
  have h2:(x-y)*(x+y)=0:=by grind
  rcases Classical.em (x+y=0) with q | q
  ·grind
  ·have:=mul_inv q
   have h3:(x-y)*((x+y)*(x+y)⁻¹)=0:=by grind
   rw [this] at h3; grind
theorem cast_add (m n:Nat):((m+n:Nat):R)=(m:R)+(n:R):=by rw [← ofQ_nat,Rat.natCast_add,ofQ_add]; rfl
theorem exp_step (x:R) (i:Nat):rf (i+1)*x ^ (i+1)*((i+1:Nat):R)=rf i*x ^ i*x:=by
 rw [← rf_succ i,rpow_succ]; grind
theorem sS_two (n:Nat):sS (n+2) = -sS n:=rfl
theorem sS_even (i:Nat):sS (2*i)=0:=by
 induction i with
 | zero=>rfl
 | succ i ih=>rw [show 2*(i+1)=2*i+2 by omega,sS_two,ih]; grind
theorem atc_sum (x:R) (i:Nat):psum atc x (2*(i+1)+2)=psum atc x (2*i+2)+atc (2*i+1+2)*x ^ (2*i+1+2):=by
 show psum atc x (2*i+2)+atc (2*i+2)*x ^ (2*i+2)+atc (2*i+2+1)*x ^ (2*i+2+1)=_
 rw [atc,show 2*i+2=2*(i+1) by omega,sS_even]; grind
theorem over_n (a x:R) (n:Nat):a*((n+1:Nat):R)⁻¹*x*((n+1:Nat):R)=a*x:=by
 have:=mul_inv (x:=((n+1:Nat):R)) (by have:=cast_pos n; grind)
 grind
noncomputable def hf:R:=ofQ (1 / 2)
theorem hf_two:hf+hf=1:=ofQ_half 1
theorem hf_pos:0<hf:=ofQ_pos (by decide +kernel)
theorem hf_geo:Geo hf 2:=⟨by have:=hf_pos; grind,by have:=hf_pos; have:=hf_two; grind,by have:=hf_two; grind⟩
theorem hf_le {m n:Nat} (h:m≤n):hf ^ n≤hf ^ m:=by
 induction n with
 | zero=>rw [show m=0 by omega]; exact rle_refl _
 | succ n ih=>
  rcases Nat.lt_or_ge n m with k | k
  ·rw [show m=n+1 by omega]; exact rle_refl _
  ·have h1:=ih k
   have h2:=rmul_le' (show hf≤1 by have:=hf_pos; have:=hf_two; grind) (pow_nonneg (show 0≤hf by have:=hf_pos; grind) n)
   rw [rpow_succ]; grind
theorem pow_add' (x:R) (m n:Nat):x ^ (m+n)=x ^ m*x ^ n:=by
 induction n with
 | zero=>rw [Nat.add_zero,rpow_zero]; grind
 | succ n ih=>rw [← Nat.add_assoc,rpow_succ,rpow_succ,ih]; grind
theorem tail_half {a:Nat→R} (h:∀ n,ab (a n)≤1) {x:R} (hx:ab x≤hf) (n:Nat):ab (ps a x-psum a x n)≤2*hf ^ n:=by
 have h1:=ps_tail (PB.one h) hf_geo (x:=x) (by grind) n
 grind
theorem tail_eighth {x:R} (hx:ab x≤hf*hf*hf) (n:Nat):ab (E x-psum rf x n)≤2*(hf ^ n*hf ^ n*hf ^ n):=by
 have h2:=hf_two
 have h3:=hf_pos
 have hi:=mul_inv (x:=1-hf*hf*hf) (by
  intro k
  have e:(1+hf+hf*hf)*(1-hf)=0:=by grind
  have e2:1-hf=hf:=by grind
  rw [e2] at e
  have:=rmul_pos (show 0<1+hf+hf*hf by have:=sq_nonneg hf; grind) h3
  grind)
 have hc:hf*hf*hf≤hf:=by
  have k1:=rmul_le (show hf*hf≤1 by have:=rmul_mono (show hf≤1 by grind) (show hf≤1 by grind) (by grind) (by have:=rzero_lt_one; grind); grind) (show 0≤hf by grind)
  grind
 have hg:Geo (hf*hf*hf) (1-hf*hf*hf)⁻¹:=⟨rmul_nonneg (sq_nonneg hf) (by grind),by grind,by rw [rmul_comm]; exact hi⟩
 have h1:=ps_tail (PB.one (a:=rf) fun n=>by have:=rf_ab n; have:=rf_le n; grind) hg (x:=x) (by grind) n
 rw [pow_mul',pow_mul'] at h1
 have h4:(1-hf*hf*hf)⁻¹≤2:=by
  have h5:=rmul_le (show hf≤1-hf*hf*hf by grind) (show 0≤(1-hf*hf*hf)⁻¹ by have:=hg.pos; grind)
  rw [hi] at h5
  have h6:(1-hf*hf*hf)⁻¹=hf*(1-hf*hf*hf)⁻¹+hf*(1-hf*hf*hf)⁻¹:=by
   generalize (1-hf*hf*hf)⁻¹=z
   have:(hf+hf)*z=z:=by rw [h2]; grind
   grind
  grind
 have h5:=rmul_le h4 (rmul_nonneg (rmul_nonneg (pow_nonneg (show 0≤hf by grind) n) (pow_nonneg (show 0≤hf by grind) n)) (pow_nonneg (show 0≤hf by grind) n))
 have h6:E x=ps rf x:=rfl
 rw [h6]
 grind
end Go.An
namespace Go.Proofs.YtjffljhmjdljeaaGreat.Gen
open Go Go.Abs Go.Plain Go.An
structure Mem (a:I) (x:R):Prop where
 lo:ofQ (val a.lo)≤x
 hi:x≤ofQ (val a.hi)
structure Has (r:I × Int) (x:R) (L H:Int):Prop where
 e:r.2=0
 ok:OkI r.1 L H
 m:Mem r.1 x
theorem Has.mono {r:I × Int} {x:R} {L H L' H':Int} (h:Has r x L H) (h1:L'≤L) (h2:H≤H'):Has r x L' H':=⟨h.e,h.ok.mono h1 h2,h.m⟩
theorem Has.eq {r:I × Int} {x y:R} {L H:Int} (h:Has r x L H) (e:x=y):Has r y L H:=e ▸ h
theorem has_of {r:I × Int} {c:I} {x:R} {L H:Int} (e:r=(c,0)) (o:OkI c L H) (m:Mem c x):Has r x L H:=by subst e; exact ⟨rfl,o,m⟩
theorem Has.pair {r:I × Int} {x:R} {L H:Int} (h:Has r x L H):Has (r.1,0) x L H:=⟨rfl,h.ok,h.m⟩
theorem enc_mem {p:Nat} {c:I} {u v:Rat} (h:Enc p c u v) {x:R} (h1:ofQ u≤x) (h2:x≤ofQ v):Mem c x:=
 ⟨rle_trans (ofQ_le.2 h.lo) h1,rle_trans h2 (ofQ_le.2 h.hi)⟩
theorem has_point {x:D} {L H:Int} (h:Okd x L H):Has (⟨x,x⟩,0) (ofQ (val x)) L H:=⟨rfl,⟨h,h,Rat.le_refl⟩,⟨rle_refl _,rle_refl _⟩⟩
theorem val_from (n:Int):val (fromD n)=(n:Rat):=by unfold fromD; rw [val_nrm,p2_zero,Rat.mul_one]
theorem Okd_from {n:Int} {K:Nat} (hK:K≤60) (hn:n.natAbs≤2 ^ K):Okd (fromD n) 0 (K:Int):=by
 have h60:2 ^ K≤2 ^ 60:=Nat.pow_le_pow_right (by decide) hK
 have h60':(2:Nat) ^ 60=1152921504606846976:=by decide
 refine ⟨WD_from (by omega),⟨n,by rw [val_from,p2_zero,Rat.mul_one]⟩,?_⟩
 rw [val_from]
 unfold B
 rw [p2_nat]
 have e1 : -((2 ^ K:Nat):Rat)=((-((2 ^ K:Nat):Int):Int):Rat):=by push_cast; rfl
 have e2:((2 ^ K:Nat):Rat)=(((2 ^ K:Nat):Int):Rat):=by push_cast; rfl
 rw [e1]
 exact ⟨intCast_le (by omega),by rw [e2]; exact intCast_le (by omega)⟩
theorem has_int {n:Int} {K:Nat} (hK:K≤60) (hn:n.natAbs≤2 ^ K):Has (iS n 0) (n:R) 0 (K:Int):=
 (has_point (Okd_from hK hn)).eq (by rw [val_from]; rfl)
theorem has_neg {r:I × Int} {x:R} {L H:Int} (h:Has r x L H):Has (nS r.1 0) (-x) L H:=by
 refine has_of (c:=negI r.1) rfl h.ok.neg ⟨?_,?_⟩
 ·show ofQ (val (negD r.1.hi)) ≤ -x
  rw [val_neg,ofQ_neg]; have:=h.m.hi; grind
 ·show -x≤ofQ (val (negD r.1.lo))
  rw [val_neg,ofQ_neg]; have:=h.m.lo; grind
theorem has_add {r s:I × Int} {x y:R} {L H:Int} (ha:Has r x L H) (hb:Has s y L H) {p:Nat} (hp:1≤p) (hL : -60000≤L) (hH:H+1≤60000):Has (aS p r.1 s.1 0) (x+y) L (H+1):=by
 obtain ⟨c,e,o,en⟩:=addI_ok ha.ok hb.ok hp hL hH
 refine has_of (c:=c) e o (enc_mem en ?_ ?_)
 ·rw [ofQ_add]; have:=ha.m.lo; have:=hb.m.lo; grind
 ·rw [ofQ_add]; have:=ha.m.hi; have:=hb.m.hi; grind
theorem has_sub {r s:I × Int} {x y:R} {L H:Int} (ha:Has r x L H) (hb:Has s y L H) {p:Nat} (hp:1≤p) (hL : -60000≤L) (hH:H+1≤60000):Has (suS p r.1 s.1 0) (x-y) L (H+1):=by
 have h:=has_add ha (has_neg hb) hp hL hH
 exact Has.eq h (by grind)
theorem has_mul {r s:I × Int} {x y:R} {L H M K:Int} (ha:Has r x L H) (hb:Has s y M K) {p:Nat} (hp:1≤p) (hL : -60000≤L+M) (hH:H+K≤60000):Has (mS p r.1 s.1 0) (x*y) (L+M) (H+K):=by
 obtain ⟨c,u,v,e,o,en,pr⟩:=mulI_ok ha.ok hb.ok hp hL hH
 have k:∀ {q:Rat},u≤q∧q≤v→In (ofQ u) (ofQ v) (ofQ q):=fun h=>⟨ofQ_le.2 h.1,ofQ_le.2 h.2⟩
 have h:=prod_in (u:=ofQ u) (v:=ofQ v) ⟨ha.m.lo,ha.m.hi⟩ ⟨hb.m.lo,hb.m.hi⟩ (by rw [← ofQ_mul]; exact k pr.h1) (by rw [← ofQ_mul]; exact k pr.h2) (by rw [← ofQ_mul]; exact k pr.h3) (by rw [← ofQ_mul]; exact k pr.h4)
 exact has_of (c:=c) e o (enc_mem en h.1 h.2)
theorem has_scale {r:I × Int} {x:R} {L H n:Int} (ha:Has r x L H) (hL : -60000≤L+n) (hH:H+n≤60000):Has (scS r.1 n 0) (x*ofQ (p2 n)) (L+n) (H+n):=by
 obtain ⟨c,e,o,e1,e2⟩:=scaleI_ok ha.ok hL hH
 have hp:=ofQ_pos (p2_pos n)
 refine has_of (c:=c) e o ⟨?_,?_⟩
 ·rw [e1,ofQ_mul]; exact rmul_le ha.m.lo (by grind)
 ·rw [e2,ofQ_mul]; exact rmul_le ha.m.hi (by grind)
theorem has_wide {r:I × Int} {x y:R} {L H:Int} (ha:Has r x L H) {d:D} (hd:Okd d L H) (hxy:ab (y-x)≤ofQ (val d)) {p:Nat} (hp:1≤p) (hL : -60000≤L) (hH:H+1≤60000):Has (wS p r.1 d 0) y L (H+1):=by
 have h0:0≤val d:=by
  have:=ab_nonneg (y-x)
  exact ofQ_le.1 (rle_trans this hxy)
 obtain ⟨c,e,o,en⟩:=wideI_ok ha.ok hd h0 hp hL hH
 have h1:=ab_le.1 hxy
 refine has_of (c:=c) e o (enc_mem en ?_ ?_)
 ·rw [ofQ_sub]; have:=ha.m.lo; grind
 ·rw [ofQ_add]; have:=ha.m.hi; grind
theorem has_out {r:I × Int} {x:R} {L H:Int} (ha:Has r x L H) {p:Nat} (hp:1≤p) (hL : -60000≤L) (hH:H≤60000):Has (outI p r.1) x L H:=by
 obtain ⟨c,e,o,en⟩:=outI_ok ha.ok hp hL hH
 exact has_of (c:=c) e o (enc_mem en ha.m.lo ha.m.hi)
theorem rinv_anti {l y:R} (h:0<l*y) (hle:l≤y):y⁻¹≤l⁻¹:=by
 have hl:l≠0:=by rintro rfl; grind
 have hy:y≠0:=by rintro rfl; grind
 have h1:=mul_inv hl
 have h2:=mul_inv hy
 refine cancel h ?_
 have e1:y⁻¹*(l*y)=l:=by grind
 have e2:l⁻¹*(l*y)=y:=by grind
 rw [e1,e2]; exact hle
theorem rmul_sign {a b:R} (h:(0<a∧0<b)∨(a<0∧b<0)):0<a*b:=by
 rcases h with h | h
 ·exact rmul_pos h.1 h.2
 ·have:=rmul_pos (show 0 < -a by grind) (show 0 < -b by grind); grind
theorem has_div {r s:I × Int} {x y z:R} {L H M K:Int} (ha:Has r x L H) (hb:Has s y M K) (hz:hasI s.1 zD=false) (hxy:z*y=x) {p:Nat} (hp:1≤p) (hL : -60000≤L-K-p-2) (hH:H-M+2≤60000):Has (dS p r.1 s.1 0) z (L-K-p-2) (H-M+2):=by
 obtain ⟨c,e,o,en⟩:=divI_ok ha.ok hb.ok hz hp hL hH
 refine has_of (c:=c) e o ?_
 have hs:=has_zero hz
 have hle:=hb.ok.le
 have hsR:(0<ofQ (val s.1.lo))∨(ofQ (val s.1.hi)<0):=by
  rcases hs with h | h
  ·left; exact ofQ_lt.2 h
  ·right; exact ofQ_lt.2 h
 have m1:=hb.m.lo
 have m2:=hb.m.hi
 have nl:ofQ (val s.1.lo)≠0:=by intro k; rcases hsR with h | h<;>grind
 have nh:ofQ (val s.1.hi)≠0:=by intro k; rcases hsR with h | h<;>grind
 have ny:y≠0:=by intro k; rcases hsR with h | h<;>grind
 have hle':=ha.ok.le
 have nlq:val s.1.lo≠0:=by rintro k; rw [k] at nl; exact nl rfl
 have nhq:val s.1.hi≠0:=by rintro k; rw [k] at nh; exact nh rfl
 have i1:y⁻¹≤(ofQ (val s.1.lo))⁻¹:=rinv_anti (rmul_sign (by rcases hsR with h | h<;>grind)) m1
 have i2:(ofQ (val s.1.hi))⁻¹≤y⁻¹:=rinv_anti (rmul_sign (by rcases hsR with h | h<;>grind)) m2
 have k:∀ {a b:Rat},b≠0→(val c.lo≤a / b∧a / b≤val c.hi)→In (ofQ (val c.lo)) (ofQ (val c.hi)) (ofQ a*(ofQ b)⁻¹):=fun {a b} hb h=>by
  rw [← ofQ_inv hb,← ofQ_mul,← Rat.div_def]; exact ⟨ofQ_le.2 h.1,ofQ_le.2 h.2⟩
 have q1:=k nhq (en _ _ Rat.le_refl hle' hle Rat.le_refl)
 have q2:=k nlq (en _ _ Rat.le_refl hle' Rat.le_refl hle)
 have q3:=k nhq (en _ _ hle' Rat.le_refl hle Rat.le_refl)
 have q4:=k nlq (en _ _ hle' Rat.le_refl Rat.le_refl hle)
 have h:=prod_in ⟨ha.m.lo,ha.m.hi⟩ ⟨i2,i1⟩ q1 q2 q3 q4
 have e1:x*y⁻¹=z:=by have:=mul_inv ny; rw [← hxy]; grind
 rw [e1] at h
 exact ⟨h.1,h.2⟩
theorem has_sqrt {r:I × Int} {x s:R} {L H L' H':Int} (ha:Has r x L H) (h0:0≤val r.1.lo) (hs:0≤s) (hsx:s*s=x) {p:Nat} (hp:1≤p) (hL:2*L'+2*p+6≤L) (hH:H≤2*H') (hL' : -60000≤L') (hH':H'+2≤60000):Has (sqS p r.1 0) s L' (H'+2):=by
 obtain ⟨c,e,o,n,e1,e2⟩:=sqrtI_ok ha.ok h0 hp hL hH hL' hH'
 refine has_of (c:=c) e o ⟨le_of_sq hs ?_,le_of_sq ?_ ?_⟩
 ·rw [← ofQ_mul,hsx]; exact rle_trans (ofQ_le.2 e1) ha.m.lo
 ·exact ofQ_le.2 (Rat.le_trans n o.le)
 ·rw [← ofQ_mul,hsx]; exact rle_trans ha.m.hi (ofQ_le.2 e2)
theorem Mem.le {a b:I} {x:R} (ha:Mem a x) (hb:Mem b x):val a.lo≤val b.hi:=ofQ_le.1 (rle_trans ha.lo hb.hi)
theorem cmul_succ (c:Int) (i:Nat):c*((i+1:Nat):Int)=c*i+c:=by rw [Int.natCast_add,Int.mul_add]; simp
theorem cmul_le {c:Int} (hc:0≤c) {i j:Nat} (h:i≤j):c*(i:Int)≤c*(j:Int):=Int.mul_le_mul_of_nonneg_left (by omega) hc
theorem p2_neg_nat (n:Nat):ofQ (p2 (-(n:Int)))=hf ^ n:=by
 induction n with
 | zero=>show ofQ (p2 0)=1; rw [p2_zero]; rfl
 | succ n ih=>
  rw [show -((n+1:Nat):Int) = -(n:Int) + -1 by omega,p2_add,ofQ_mul,ih,p2_half]; rfl
theorem box_mem {y:I} {k:Int} {x:R} (h:inI y (box k)=true) (m:Mem y x):ab x≤ofQ (p2 k):=by
 unfold inI box at h
 rw [Bool.and_eq_true,hasI_iff,hasI_iff] at h
 have h1:=h.1.1
 have h2:=h.2.2
 rw [val_neg,val_half] at h1
 rw [val_half] at h2
 have m1:=m.lo
 have m2:=m.hi
 have k1:=ofQ_le.2 h1
 have k2:=ofQ_le.2 h2
 rw [ofQ_neg] at k1
 exact ab_le.2 ⟨by grind,by grind⟩
theorem Okd_half {k L H:Int} (h1:L≤k) (h2:k≤H) (h3 : -60000≤k∧k≤60000):Okd ⟨1,k⟩ L H:=by
 refine ⟨WD_half h3,by rw [val_half]; exact G.mono ⟨1,by simp⟩ h1,?_⟩
 rw [val_half]
 have:=p2_le h2
 have:=p2_pos k
 have:=p2_pos H
 exact ⟨by grind,by grind⟩
theorem nz_int {n:Nat} (h:0<n):hasI (iS (n:Int) 0).1 zD=false:=by
 show hasI (intI (n:Int)) zD=false
 cases hq:hasI (intI (n:Int)) zD with
 | false=>rfl
 | true=>
  have:=((hasI_iff _ _).1 hq).1
  rw [val_z] at this
  have e:val (intI (n:Int)).lo=((n:Int):Rat):=val_from _
  rw [e] at this
  have h0:(0:Rat)<((n:Int):Rat):=by exact_mod_cast h
  grind
theorem has_nat {n K:Nat} (hK:K≤60) (hn:n≤2 ^ K):Has (iS (n:Int) 0) (n:R) 0 (K:Int):=has_int hK (by simp; omega)
theorem has_div_n {r:I × Int} {x z:R} {L H:Int} (ha:Has r x L H) {n K:Nat} (hK:K≤60) (h0:0<n) (hn:n≤2 ^ K) (hz:z*(n:R)=x) {p:Nat} (hp:1≤p) (hL : -60000≤L-K-p-2) (hH:H+2≤60000):Has (dS p r.1 (iS (n:Int) 0).1 0) z (L-K-p-2) (H+2):=
 (has_div (p:=p) ha (has_nat hK hn) (nz_int h0) hz hp hL (by omega)).mono (by omega) (by omega)
theorem ser_lim {c:Int} {N:Nat} (hN:4≤N) (hc:0≤c):c*4≤c*(N:Int):=Int.mul_le_mul_of_nonneg_left (by omega) hc
theorem two_hf (p:Nat):2*hf ^ (p+1)=hf ^ p:=by
 have:hf ^ (p+1)=hf ^ p*hf:=rfl
 rw [this]; have:=hf_two; grind
theorem box_half {y:I} {x:R} (hi:inI y (box (-1))=true) (hm:Mem y x):ab x≤hf:=by
 have:=box_mem hi hm
 rwa [p2_half] at this
theorem make_val {m e:Int} {k:Nat} (hm:blen m.natAbs≤k) (he : -60000≤e∧e+k≤60000):∃ d,makeD m e=(d,true)∧Okd d e (e+k)∧val d=(m:Rat)*p2 e:=by
 have hv:=val_nrm m e
 have hg:G e (val (nrm m e)):=by rw [hv]; exact G.of (Int.le_refl _)
 have hb:B (e+k) (val (nrm m e)):=by
  rw [hv]
  have h1:=blen_lt m.natAbs
  have h2:m.natAbs≤2 ^ k:=by
   have:2 ^ blen m.natAbs≤2 ^ k:=Nat.pow_le_pow_right (by decide) hm
   omega
  have h3:=rep_bound h2 e
  have hp:=p2_pos e
  have h5:(m:Rat)≤(m.natAbs:Rat)∧-(m.natAbs:Rat)≤(m:Rat):=by
   have e1:=intCast_le (show m≤(m.natAbs:Int) by omega)
   have e2:=intCast_le (show -(m.natAbs:Int)≤m by omega)
   rw [Rat.intCast_natCast] at e1
   rw [Rat.intCast_neg,Rat.intCast_natCast] at e2
   exact ⟨e1,e2⟩
  have h6:=Rat.mul_le_mul_of_nonneg_right h5.1 (Rat.le_of_lt hp)
  have h7:=Rat.mul_le_mul_of_nonneg_right h5.2 (Rat.le_of_lt hp)
  unfold B
  grind
 obtain ⟨-,h2⟩:=told_ok (d:=nrm m e) (nrm_ok _ _) hg hb (by omega) (by omega)
 refine ⟨nrm m e,?_,h2,hv⟩
 unfold makeD
 rw [if_pos (inR_of (nrm_ok _ _) hg hb (by omega) (by omega))]
theorem mag_two {x:AD} (hx:gAD x) (k:Nat):blen (sg x.M.Neg (dval (x.M.Mag.take (min x.M.Mag.length k)))).natAbs≤32*k:=by
 rw [sg_abs']
 have:=blen_of_len (dig_take (g_dig hx) (min x.M.Mag.length k))
 rw [List.length_take] at this
 have h2:32*min (min x.M.Mag.length k) x.M.Mag.length≤32*k:=Nat.mul_le_mul_left _ (by omega)
 omega
theorem mag_mn {x:AD} (hx:gAD x) {k:Nat} : mn (x.M.Mag.length:Int) (k:Int)=((min x.M.Mag.length k:Nat):Int):=by unfold mn; split<;>omega
theorem in_box {y:I} {L k:Int} (h:OkI y L k):inI y (box k)=true:=by
 refine inI_true ?_ ?_ h.le
 ·show val (negD ⟨1,k⟩)≤val y.lo
  rw [val_neg,val_half]; exact h.lo.b.1
 ·show val y.hi≤val ⟨1,k⟩
  rw [val_half]; exact h.hi.b.2
end Go.Proofs.YtjffljhmjdljeaaGreat.Gen
namespace Go.An
theorem sizeR {f g:R→R} (h:∀ s,0≤s→Dv f g (-s) s) {x M:R} (hM:∀ z,ab z≤ab x→ab (g z)≤M):ab (f x-f 0)≤M*ab x:=by
 have hs:=ab_nonneg x
 have d:=h _ hs
 have hg:∀ z,In (-ab x) (ab x) z→-M≤g z∧g z≤M:=fun z hz=>ab_le.1 (hM z (ab_le.2 hz))
 rcases rle_total 0 x with k | k
 ·have e:=ab_of k
  have b:=(d.sub_iv (c:=0) (d:=x) (by grind) (by grind)).between k (m:=-M) (M:=M) fun z hz=>hg z ⟨by have:=hz.1; grind,by have:=hz.2; grind⟩
  rw [e]; exact ab_le.2 (by grind)
 ·have e:ab x = -x:=by rw [← ab_neg]; exact ab_of (by grind)
  have b:=(d.sub_iv (c:=x) (d:=0) (by grind) (by grind)).between k (m:=-M) (M:=M) fun z hz=>hg z ⟨by have:=hz.1; grind,by have:=hz.2; grind⟩
  rw [e]; exact ab_le.2 (by grind)
theorem S_size (x:R):ab (S x)≤ab x:=by
 have h:=sizeR (fun s hs=>S_dv hs) (x:=x) (M:=1) fun z _=>(S_le z).2
 rw [S_zero] at h
 have e:S x-0=S x:=by grind
 rw [e] at h; grind
theorem C_size (x:R):1-x*x≤C x:=by
 have h:=sizeR (fun s hs=>C_dv hs) (x:=x) (M:=ab x) fun z hz=>by
  rw [ab_neg]; exact rle_trans (S_size z) hz
 rw [C_zero] at h
 have e:ab x*ab x=x*x:=by rw [← ab_mul,ab_of (sq_nonneg x)]
 rw [e] at h
 have:=(ab_le.1 h).1
 grind
theorem sq_lt_one {u:R} (h:ab u<1):u*u<1:=by
 have e:ab u*ab u=u*u:=by rw [← ab_mul,ab_of (sq_nonneg u)]
 have h1:=rmul_le (show ab u≤1 by grind) (ab_nonneg u)
 grind
theorem S_pos {u:R} (h0:0<u) (h1:u<1):0<S u:=by
 have hu:ab u=u:=ab_of (by grind)
 have hq:=sq_lt_one (u:=u) (by grind)
 have b:=((S_dv (s:=u) (by grind)).sub_iv (c:=0) (d:=u) (by grind) (by grind)).between (by grind) (m:=1-u*u) (M:=1) fun z hz=>by
  have k1:=C_size z
  have k2:=rmul_mono hz.2 hz.2 hz.1 (show 0≤u by grind)
  have k3:=(ab_le.1 (S_le z).2).2
  exact ⟨by grind,k3⟩
 rw [S_zero] at b
 have:=rmul_pos (show 0<1-u*u by grind) h0
 grind
end Go.An
namespace Go.Proofs.YtjffljhmjdljeaaGreat.Gen
open Go Go.Abs Go.Plain Go.An
theorem nat_lt_of_cast {a b:Nat} (h:(a:Rat)<(b:Rat)):a<b:=by exact_mod_cast h
theorem rmul_lt_iff {a b p:Rat} (hp:0<p):a*p<b*p↔a<b:=by
 have h:=@mul_le_iff b a p hp
 constructor
 ·intro k; have:¬b*p≤a*p:=by grind
  rw [h] at this; grind
 ·intro k; have:¬b≤a:=by grind
  rw [← h] at this; grind
theorem cut_best {m p:Nat} {st:Bool} (hp:1≤p) (hb:p<blen m) {E:Int} {Q:Rat} (h1:(m:Rat)*p2 E≤Q) (h2:st=false→Q≤(m:Rat)*p2 E) (h3:Q<((m+1:Nat):Rat)*p2 E) (h4:st=true→(m:Rat)*p2 E<Q) :
  (∀ q,rep p q→q≤Q→q≤((cutN m st p false:Nat):Rat)*p2 (E+(blen m-p:Nat)))∧(∀ q,rep p q→Q≤q→((cutN m st p true:Nat):Rat)*p2 (E+(blen m-p:Nat))≤q):=by
 have hn:0<blen m-p:=by omega
 have hge:=cutN_ge m st p false hn
 generalize hnd:blen m-p=n at *
 have hM0:m≠0:=by intro h0; rw [h0,blen_zero] at hb; omega
 have hMge:=blen_le hM0
 have hbl:blen m=n+p:=by omega
 rw [hbl] at hMge
 have hp2:0<2 ^ n:=Nat.pow_pos (by decide)
 have hmpos:(0:Rat)<(m:Rat)*p2 E:=Rat.mul_pos (by exact_mod_cast (Nat.pos_of_ne_zero hM0)) (p2_pos E)
 constructor
 ·rintro q ⟨w,f,rfl,hw⟩ hq
  have hwb:=rep_bound hw f
  have hnn:(0:Rat)≤((cutN m st p false:Nat):Rat)*p2 (E+(n:Nat)):=Rat.mul_nonneg (natCast_nonneg _) (Rat.le_of_lt (p2_pos _))
  rcases (show w≤0∨0<w by omega) with k1 | k1
  ·have k2:(w:Rat)≤0:=by exact_mod_cast k1
   have k3:=Rat.mul_nonneg (show (0:Rat) ≤ -(w:Rat) by grind) (Rat.le_of_lt (p2_pos f))
   grind
  ·obtain ⟨v,rfl⟩:∃ v:Nat,w=(v:Int):=⟨w.natAbs,by omega⟩
   rw [Int.natAbs_natCast] at hwb hw
   rw [Rat.intCast_natCast] at hq ⊢
   by_cases hf:E+(n:Nat)≤f
   ·obtain ⟨k,hk⟩:∃ k:Nat,f=E+(n:Nat)+(k:Nat):=⟨(f-(E+(n:Nat))).toNat,by omega⟩
    have hq':(v:Rat)*p2 f<((m+1:Nat):Rat)*p2 E:=by grind
    rw [hk,p2_split _ k,← Rat.mul_assoc,mul_le_iff (p2_pos _),← Rat.natCast_mul]
    rw [hk,p2_split _ k,p2_split _ n,← Rat.mul_assoc,← Rat.mul_assoc,rmul_lt_iff (p2_pos _),← Rat.natCast_mul,← Rat.natCast_mul] at hq'
    have k2:=nat_lt_of_cast hq'
    apply natCast_le
    unfold cutN
    rw [hnd]
    simp only [Bool.and_false,Bool.false_eq_true,if_false,Nat.add_zero]
    rw [Nat.le_div_iff_mul_le (Nat.pow_pos (by decide))]
    omega
   ·have k3:2 ^ (p-1)≤cutN m st p false:=by
     rcases hge with k3 | k3
     ·exact k3
     ·omega
    have k4:=natCast_le k3
    have k5:=Rat.mul_le_mul_of_nonneg_right k4 (Rat.le_of_lt (p2_pos (E+(n:Nat))))
    rw [← p2_split] at k5
    have:=p2_le (show f+(p:Nat)≤E+(n:Nat)+((p-1:Nat):Int) by omega)
    grind
 ·rintro q ⟨w,f,rfl,hw⟩ hq
  have hwb:=rep_bound hw f
  have hw0:0<w:=by
   rcases (show w≤0∨0<w by omega) with k1 | k1
   ·have k2:(w:Rat)≤0:=by exact_mod_cast k1
    have k3:=Rat.mul_nonneg (show (0:Rat) ≤ -(w:Rat) by grind) (Rat.le_of_lt (p2_pos f))
    grind
   ·exact k1
  obtain ⟨v,rfl⟩:∃ v:Nat,w=(v:Int):=⟨w.natAbs,by omega⟩
  rw [Int.natAbs_natCast] at hwb hw
  rw [Rat.intCast_natCast] at hq ⊢
  have k3:=Nat.div_add_mod m (2 ^ n)
  have k4:=Nat.mod_lt m hp2
  by_cases hf:E+(n:Nat)≤f
  ·obtain ⟨k,hk⟩:∃ k:Nat,f=E+(n:Nat)+(k:Nat):=⟨(f-(E+(n:Nat))).toNat,by omega⟩
   have e1:(v:Rat)*p2 f=((v*2 ^ k*2 ^ n:Nat):Rat)*p2 E:=by
    rw [hk,p2_split _ k,p2_split _ n,← Rat.mul_assoc,← Rat.mul_assoc,← Rat.natCast_mul,← Rat.natCast_mul]
   have hc:cutN m st p true≤v*2 ^ k:=by
    have hle:(m:Rat)*p2 E≤((v*2 ^ k*2 ^ n:Nat):Rat)*p2 E:=by grind
    rw [mul_le_iff (p2_pos E)] at hle
    have hle:=nat_le_of_cast hle
    unfold cutN
    rw [hnd]
    simp only [Bool.and_true]
    have far:m<v*2 ^ k*2 ^ n→m / 2 ^ n+1≤v*2 ^ k:=by
     intro hlt
     have h5:m / 2 ^ n*2 ^ n<v*2 ^ k*2 ^ n:=by rw [Nat.mul_comm (m / 2 ^ n)]; omega
     exact Nat.lt_of_mul_lt_mul_right h5
    cases st with
    | true=>
     simp only [Bool.true_or,if_true]
     have hlt:(m:Rat)*p2 E<((v*2 ^ k*2 ^ n:Nat):Rat)*p2 E:=by have:=h4 rfl; grind
     rw [rmul_lt_iff (p2_pos E)] at hlt
     exact far (nat_lt_of_cast hlt)
    | false=>
     by_cases hr:m % 2 ^ n=0
     ·simp only [hr,bne_self_eq_false,Bool.or_false,Bool.false_eq_true,if_false,Nat.add_zero]
      have h6:m / 2 ^ n*2 ^ n≤v*2 ^ k*2 ^ n:=by rw [Nat.mul_comm (m / 2 ^ n)]; omega
      exact Nat.le_of_mul_le_mul_right h6 hp2
     ·have:(m % 2 ^ n != 0)=true:=by simpa using hr
      rw [this,Bool.false_or,if_pos rfl]
      refine far ?_
      rcases Nat.lt_or_ge m (v*2 ^ k*2 ^ n) with h7 | h7
      ·exact h7
      ·exfalso; apply hr
       have:m=v*2 ^ k*2 ^ n:=by omega
       rw [this]; exact Nat.mul_mod_left _ _
   have hc':=Rat.mul_le_mul_of_nonneg_right (natCast_le hc) (Rat.le_of_lt (p2_pos (E+(n:Nat))))
   have e2:((v*2 ^ k:Nat):Rat)*p2 (E+(n:Nat))=(v:Rat)*p2 f:=by rw [hk,p2_split _ k,Rat.natCast_mul]; grind
   grind
  ·have h5:(m:Rat)*p2 E≤p2 (E+((n+p-1:Nat):Int)):=by
    have:=p2_le (show f+(p:Nat)≤E+((n+p-1:Nat):Int) by omega)
    grind
   have h7:p2 (E+((n+p-1:Nat):Int))≤(m:Rat)*p2 E:=by
    rw [p2_split,mul_le_iff (p2_pos E)]; exact natCast_le (by omega)
   have hst:st=false:=by
    cases st with
    | false=>rfl
    | true=>
     exfalso
     have:=h4 rfl
     have:=p2_le (show f+(p:Nat)≤E+((n+p-1:Nat):Int) by omega)
     grind
   rw [p2_split,mul_le_iff (p2_pos _)] at h5
   have h6:=nat_le_of_cast h5
   have hMe:m=2 ^ (n+p-1):=by omega
   have hMd:m=2 ^ n*2 ^ (p-1):=by rw [hMe,← Nat.pow_add]; congr 1; omega
   have hc:cutN m st p true*2 ^ n=m:=by
    unfold cutN
    rw [hnd,hMd,Nat.mul_mod_right,Nat.mul_div_cancel_left _ hp2,hst]
    simp [Nat.mul_comm]
   rw [p2_split,← Rat.mul_assoc,← Rat.natCast_mul,hc]
   grind
theorem val_quo {x y:D} (hy0:y.m≠0) {k:Nat} : val x / val y=sg (decide (x.m<0) != decide (y.m<0)) 1*(((x.m.natAbs*2 ^ k:Nat):Rat) / (y.m.natAbs:Rat)*p2 (x.e-y.e-k)):=by
 have hv0:val y≠0:=fun h=>hy0 ((val_zero_iff y).1 h)
 have hYp:(0:Rat)<(y.m.natAbs:Rat):=by exact_mod_cast (show 0<y.m.natAbs by omega)
 have hvx:((x.m.natAbs*2 ^ k:Nat):Rat)*p2 (x.e-k)=(x.m.natAbs:Rat)*p2 x.e:=by
  rw [Rat.natCast_mul,Rat.mul_assoc,← p2_split]; congr 2; omega
 have hQ:((x.m.natAbs*2 ^ k:Nat):Rat) / (y.m.natAbs:Rat)*p2 (x.e-y.e-k)*((y.m.natAbs:Rat)*p2 y.e)=(x.m.natAbs:Rat)*p2 x.e:=by
  have e1:=mul_of_div (a:=((x.m.natAbs*2 ^ k:Nat):Rat)) (b:=(y.m.natAbs:Rat)) (by grind)
  have e2:p2 (x.e-y.e-k)*p2 y.e=p2 (x.e-k):=by rw [← p2_add]; congr 1; omega
  calc ((x.m.natAbs*2 ^ k:Nat):Rat) / (y.m.natAbs:Rat)*p2 (x.e-y.e-k)*((y.m.natAbs:Rat)*p2 y.e)=(((x.m.natAbs*2 ^ k:Nat):Rat) / (y.m.natAbs:Rat)*(y.m.natAbs:Rat))*(p2 (x.e-y.e-k)*p2 y.e):=by grind
   _=(x.m.natAbs:Rat)*p2 x.e:=by rw [e1,e2,hvx]
 generalize ((x.m.natAbs*2 ^ k:Nat):Rat) / (y.m.natAbs:Rat)*p2 (x.e-y.e-k)=Q at *
 apply div_of_mul hv0
 by_cases h1:x.m<0<;>by_cases h2:y.m<0
 ·rw [val_abs_neg h1,val_abs_neg h2,show (decide (x.m<0) != decide (y.m<0))=false by simp [h1,h2],sg_pos_cast]; grind
 ·rw [val_abs_neg h1,val_abs_pos h2,show (decide (x.m<0) != decide (y.m<0))=true by simp [h1,h2],sg_neg_cast]; grind
 ·rw [val_abs_pos h1,val_abs_neg h2,show (decide (x.m<0) != decide (y.m<0))=true by simp [h1,h2],sg_neg_cast]; grind
 ·rw [val_abs_pos h1,val_abs_pos h2,show (decide (x.m<0) != decide (y.m<0))=false by simp [h1,h2],sg_pos_cast]; grind
theorem div_best {x y:D} (hy0:val y≠0) {p:Nat} (hp:1≤p) (up:Bool) (h:(divD x y p up).2=0):(up=false→∀ q,rep p q→q≤val x / val y→q≤val (divD x y p up).1)∧(up=true→∀ q,rep p q→val x / val y≤q→val (divD x y p up).1≤q)∧rep p (val (divD x y p up).1):=by
 have hym:y.m≠0:=fun h=>hy0 (val_zero_m h)
 unfold divD at *
 rw [if_neg hym] at h ⊢
 by_cases hxm:x.m=0
 ·rw [if_pos hxm]
  have:val x / val y=0:=div_of_mul hy0 (by rw [val_zero_m hxm,Rat.zero_mul])
  rw [this]
  refine ⟨fun _ q _ hq=>by rw [val_z]; exact hq,fun _ q _ hq=>by rw [val_z]; exact hq,⟨0,0,by rw [val_z]; simp,by simp⟩⟩
 rw [if_neg hxm] at h ⊢
 rw [tell_ok' h]
 have hX0:x.m.natAbs≠0:=by omega
 have hY0:y.m.natAbs≠0:=by omega
 have hbv:=blen_shl hX0 (p+2+blen y.m.natAbs-blen x.m.natAbs)
 have hq:=val_quo (x:=x) hym (k:=p+2+blen y.m.natAbs-blen x.m.natAbs)
 have hbX:p+2+blen y.m.natAbs≤blen (x.m.natAbs*2 ^ (p+2+blen y.m.natAbs-blen x.m.natAbs)):=by omega
 generalize p+2+blen y.m.natAbs-blen x.m.natAbs=k at *
 generalize x.e-y.e-(k:Int)=E at *
 generalize x.m.natAbs*2 ^ k=v at *
 generalize y.m.natAbs=Y at *
 have hpE:=p2_pos E
 have hYp:(0:Rat)<(Y:Rat):=by exact_mod_cast Nat.pos_of_ne_zero hY0
 have hdm:=Nat.div_add_mod v Y
 have hml:=Nat.mod_lt v (Nat.pos_of_ne_zero hY0)
 have hvq:(v:Rat) / (Y:Rat)*(Y:Rat)=(v:Rat):=mul_of_div (by grind)
 have hbm:p<blen (v / Y):=by
  have h1:2 ^ (p+1)≤v / Y:=by
   rw [Nat.le_div_iff_mul_le (by omega)]
   have h2:=blen_lt Y
   have hv0:v≠0:=by intro h0; rw [h0,blen_zero] at hbX; omega
   have h3:=blen_le hv0
   have h4:2 ^ (p+1)*Y≤2 ^ (p+1)*2 ^ blen Y:=Nat.mul_le_mul_left _ (by omega)
   rw [← Nat.pow_add] at h4
   have h5:2 ^ (p+1+blen Y)≤2 ^ (blen v-1):=Nat.pow_le_pow_right (by decide) (by omega)
   omega
  have h2:=blen_lt (v / Y)
  have h3:2 ^ (p+1)<2 ^ blen (v / Y):=by omega
  have:=(Nat.pow_lt_pow_iff_right (a:=2) (by decide)).1 h3
  omega
 have hcast:(v:Rat)=(Y:Rat)*((v / Y:Nat):Rat)+((v % Y:Nat):Rat):=by
  rw [← Rat.natCast_mul,← Rat.natCast_add,hdm]
 have hz:(0:Rat)≤((v % Y:Nat):Rat):=natCast_nonneg _
 have hQ1:((v / Y:Nat):Rat)≤(v:Rat) / (Y:Rat):=by
  rw [← mul_le_iff hYp,hvq]; grind
 have hQ3:(v:Rat) / (Y:Rat)<((v / Y+1:Nat):Rat):=by
  rw [← rmul_lt_iff hYp,hvq,Rat.natCast_add]
  have:((v % Y:Nat):Rat)<(Y:Rat):=natCast_lt hml
  have e:((1:Nat):Rat)=1:=rfl
  rw [e]; grind
 have hQ2:(v % Y != 0)=false→(v:Rat) / (Y:Rat)≤((v / Y:Nat):Rat):=by
  intro h0
  have h0:v % Y=0:=by simpa using h0
  rw [← mul_le_iff hYp,hvq,hcast,h0]
  have e:((0:Nat):Rat)=0:=rfl
  rw [e]; grind
 have hQ4:(v % Y != 0)=true→((v / Y:Nat):Rat)<(v:Rat) / (Y:Rat):=by
  intro h0
  have h0:v % Y≠0:=by simpa using h0
  have h1:(0:Rat)<((v % Y:Nat):Rat):=by exact_mod_cast Nat.pos_of_ne_zero h0
  rw [← rmul_lt_iff hYp,hvq,hcast]
  have:v / Y=(Y*(v / Y)+v % Y) / Y:=by rw [hdm]
  grind
 have hb:=cut_best (m:=v / Y) (st:=v % Y != 0) (E:=E) (Q:=(v:Rat) / (Y:Rat)*p2 E) hp hbm (by rw [mul_le_iff hpE]; exact hQ1) (fun h0=>by rw [mul_le_iff hpE]; exact hQ2 h0) (by rw [rmul_lt_iff hpE]; exact hQ3) (fun h0=>by rw [rmul_lt_iff hpE]; exact hQ4 h0)
 have hrep:∀ neg s,rep p (val (cutD neg (v / Y) E (v % Y != 0) p s)):=fun neg s=>⟨sg neg (cutN (v / Y) (v % Y != 0) p s),E+(blen (v / Y)-p:Nat),val_cut _ _ _ _ _ _,by rw [sg_abs']; exact cutN_le _ _ _ _⟩
 rw [hq,val_cut]
 refine ⟨?_,?_,by rw [← val_cut]; exact hrep _ _⟩
 ·rintro rfl q hq1 hq2
  cases hs:(decide (x.m<0) != decide (y.m<0)) with
  | true=>
   rw [hs,sg_neg_cast] at hq2
   rw [sg_neg_cast,show (false != true)=true from rfl]
   have:=hb.2 (-q) (rep_neg hq1) (by have e:((1:Nat):Rat)=1:=rfl; rw [e] at hq2; grind)
   grind
  | false=>
   rw [hs,sg_pos_cast] at hq2
   rw [sg_pos_cast,show (false != false)=false from rfl]
   exact hb.1 q hq1 (by have e:((1:Nat):Rat)=1:=rfl; rw [e] at hq2; grind)
 ·rintro rfl q hq1 hq2
  cases hs:(decide (x.m<0) != decide (y.m<0)) with
  | true=>
   rw [hs,sg_neg_cast] at hq2
   rw [sg_neg_cast,show (true != true)=false from rfl]
   have:=hb.1 (-q) (rep_neg hq1) (by have e:((1:Nat):Rat)=1:=rfl; rw [e] at hq2; grind)
   grind
  | false=>
   rw [hs,sg_pos_cast] at hq2
   rw [sg_pos_cast,show (true != false)=true from rfl]
   exact hb.2 q hq1 (by have e:((1:Nat):Rat)=1:=rfl; rw [e] at hq2; grind)
theorem enc_uniq {p:Nat} {c d:I} {u v:Rat} (h:Enc p c u v) (k:Enc p d u v):val c.lo=val d.lo∧val c.hi=val d.hi:=by
 have h1:=k.blo _ h.rlo h.lo
 have h2:=h.blo _ k.rlo k.lo
 have h3:=k.bhi _ h.rhi h.hi
 have h4:=h.bhi _ k.rhi k.hi
 constructor<;>grind
theorem neg_vals (c:I):val (negI c).lo = -val c.hi∧val (negI c).hi = -val c.lo:=⟨val_neg _,val_neg _⟩
theorem enc_neg {p:Nat} {c:I} {u v:Rat} (h:Enc p c u v):Enc p (negI c) (-v) (-u):=by
 have n:=neg_vals c
 have h1:=h.lo
 have h2:=h.hi
 refine ⟨by rw [n.1]; grind,by rw [n.2]; grind,fun q r k=>?_,fun q r k=>?_,by rw [n.1]; exact rep_neg h.rhi,by rw [n.2]; exact rep_neg h.rlo⟩
 ·rw [n.1]; have:=h.bhi (-q) (rep_neg r) (by grind); grind
 ·rw [n.2]; have:=h.blo (-q) (rep_neg r) (by grind); grind
theorem enc_same {p:Nat} {c d:I} {u v u' v':Rat} (h:Enc p c u v) (k:Enc p d u' v') (e1:u=u') (e2:v=v') (hc:okI c) (hd:okI d):c=d:=by
 subst e1; subst e2
 have:=enc_uniq h k
 exact I_ext hc hd this.1 this.2
theorem out_neg {a:I} {L H:Int} (ha:OkI a L H) {p:Nat} (hp:1≤p) (hL : -60000≤L) (hH:H≤60000):∃ c,outI p a=(c,0)∧outI p (negI a)=(negI c,0):=by
 obtain ⟨c,e,o,en⟩:=outI_ok ha hp hL hH
 obtain ⟨f,e',o',en'⟩:=outI_ok ha.neg hp hL hH
 have n:=neg_vals a
 exact ⟨c,e,by rw [e',enc_same (enc_neg en) en' (by rw [n.1]) (by rw [n.2]) o.neg.ok o'.ok]⟩
structure Quo (a b:I) (u v:Rat):Prop where
 h1:u≤val a.lo / val b.lo∧val a.lo / val b.lo≤v
 h2:u≤val a.lo / val b.hi∧val a.lo / val b.hi≤v
 h3:u≤val a.hi / val b.lo∧val a.hi / val b.lo≤v
 h4:u≤val a.hi / val b.hi∧val a.hi / val b.hi≤v
 mu:u=val a.lo / val b.lo∨u=val a.lo / val b.hi∨u=val a.hi / val b.lo∨u=val a.hi / val b.hi
 mv:v=val a.lo / val b.lo∨v=val a.lo / val b.hi∨v=val a.hi / val b.lo∨v=val a.hi / val b.hi
theorem min_of {a b c d:Rat} : ∃ u,(u≤a∧u≤b∧u≤c∧u≤d)∧(u=a∨u=b∨u=c∨u=d):=by
 have two:∀ x y:Rat,∃ u,(u≤x∧u≤y)∧(u=x∨u=y):=fun x y=>by
  rcases Rat.le_total (a:=x) (b:=y) with h | h
  ·exact ⟨x,⟨Rat.le_refl,h⟩,Or.inl rfl⟩
  ·exact ⟨y,⟨h,Rat.le_refl⟩,Or.inr rfl⟩
 obtain ⟨x,h1,h2⟩:=two a b
 obtain ⟨y,h3,h4⟩:=two c d
 obtain ⟨u,h5,h6⟩:=two x y
 exact ⟨u,⟨by grind,by grind,by grind,by grind⟩,by grind⟩
theorem divI_enc {a b:I} {L H M K:Int} (ha:OkI a L H) (hb:OkI b M K) (hz:hasI b zD=false) {p:Nat} (hp:1≤p) (hL : -60000≤L-K-p-2) (hH:H-M+2≤60000) :
  ∃ c u v,divI p a b=(c,0)∧OkI c (L-K-p-2) (H-M+2)∧Enc p c u v∧Quo a b u v:=by
 obtain ⟨c,ec,oc,hc⟩:=divI_ok ha hb hz hp hL hH
 have hs:=has_zero hz
 have hble:=hb.le
 have hale:=ha.le
 have nl:val b.lo≠0:=by grind
 have nh:val b.hi≠0:=by grind
 obtain ⟨u,hu,mu⟩:=min_of (a:=val a.lo / val b.lo) (b:=val a.lo / val b.hi) (c:=val a.hi / val b.lo) (d:=val a.hi / val b.hi)
 obtain ⟨w,hw,mw⟩:=min_of (a:=-(val a.lo / val b.lo)) (b:=-(val a.lo / val b.hi)) (c:=-(val a.hi / val b.lo)) (d:=-(val a.hi / val b.hi))
 have q:Quo a b u (-w):=⟨⟨hu.1,by grind⟩,⟨hu.2.1,by grind⟩,⟨hu.2.2.1,by grind⟩,⟨hu.2.2.2,by grind⟩,mu,by grind⟩
 refine ⟨c,u,-w,ec,oc,?_,q⟩
 have c1:=hc _ _ Rat.le_refl hale Rat.le_refl hble
 have c2:=hc _ _ Rat.le_refl hale hble Rat.le_refl
 have c3:=hc _ _ hale Rat.le_refl Rat.le_refl hble
 have c4:=hc _ _ hale Rat.le_refl hble Rat.le_refl
 have ec2:=ec
 obtain ⟨q1,e1,-⟩:=div_ok ha.lo hb.lo nl hp false hL hH
 obtain ⟨q2,e2,-⟩:=div_ok ha.lo hb.hi nh hp false hL hH
 obtain ⟨q3,e3,-⟩:=div_ok ha.hi hb.lo nl hp false hL hH
 obtain ⟨q4,e4,-⟩:=div_ok ha.hi hb.hi nh hp false hL hH
 obtain ⟨r1,f1,-⟩:=div_ok ha.lo hb.lo nl hp true hL hH
 obtain ⟨r2,f2,-⟩:=div_ok ha.lo hb.hi nh hp true hL hH
 obtain ⟨r3,f3,-⟩:=div_ok ha.hi hb.lo nl hp true hL hH
 obtain ⟨r4,f4,-⟩:=div_ok ha.hi hb.hi nh hp true hL hH
 have b1:=div_best (x:=a.lo) nl hp false (by rw [e1])
 have b2:=div_best (x:=a.lo) nh hp false (by rw [e2])
 have b3:=div_best (x:=a.hi) nl hp false (by rw [e3])
 have b4:=div_best (x:=a.hi) nh hp false (by rw [e4])
 have g1:=div_best (x:=a.lo) nl hp true (by rw [f1])
 have g2:=div_best (x:=a.lo) nh hp true (by rw [f2])
 have g3:=div_best (x:=a.hi) nl hp true (by rw [f3])
 have g4:=div_best (x:=a.hi) nh hp true (by rw [f4])
 rw [e1] at b1
 rw [e2] at b2
 rw [e3] at b3
 rw [e4] at b4
 rw [f1] at g1
 rw [f2] at g2
 rw [f3] at g3
 rw [f4] at g4
 unfold divI four4 at ec2
 rw [hz,if_neg (by simp)] at ec2
 simp only [e1,e2,e3,e4,f1,f2,f3,f4] at ec2
 have hcv:c=⟨min4 q1 q2 q3 q4,max4 r1 r2 r3 r4⟩:=by
  have:((⟨min4 q1 q2 q3 q4,max4 r1 r2 r3 r4⟩:I),(0:Int))=(c,0):=ec2
  exact (congrArg Prod.fst this).symm
 have m1:=min4_mem q1 q2 q3 q4
 have m2:=max4_mem r1 r2 r3 r4
 have l1:val c.lo=val (min4 q1 q2 q3 q4):=by rw [hcv]
 have l2:val c.hi=val (max4 r1 r2 r3 r4):=by rw [hcv]
 refine ⟨by grind,by grind,fun y hy hyu=>?_,fun y hy hyv=>?_,?_,?_⟩
 ·have k1:=b1.1 rfl y hy (by grind)
  have k2:=b2.1 rfl y hy (by grind)
  have k3:=b3.1 rfl y hy (by grind)
  have k4:=b4.1 rfl y hy (by grind)
  simp only at k1 k2 k3 k4
  rw [l1]; rcases m1 with m | m | m | m<;>rw [m]<;>assumption
 ·have k1:=g1.2.1 rfl y hy (by grind)
  have k2:=g2.2.1 rfl y hy (by grind)
  have k3:=g3.2.1 rfl y hy (by grind)
  have k4:=g4.2.1 rfl y hy (by grind)
  simp only at k1 k2 k3 k4
  rw [l2]; rcases m2 with m | m | m | m<;>rw [m]<;>assumption
 ·rw [l1]; rcases m1 with m | m | m | m<;>rw [m]
  ·exact b1.2.2
  ·exact b2.2.2
  ·exact b3.2.2
  ·exact b4.2.2
 ·rw [l2]; rcases m2 with m | m | m | m<;>rw [m]
  ·exact g1.2.2
  ·exact g2.2.2
  ·exact g3.2.2
  ·exact g4.2.2
theorem negD_negD {d:D} : negD (negD d)=d:=by unfold negD; simp
theorem negI_negI {a:I} : negI (negI a)=a:=by unfold negI; simp only [negD_negD]
theorem floor_near (x:Rat):(x.floor:Rat)≤x∧x<(x.floor:Rat)+1:=⟨Rat.floor_le x,by have:=Rat.lt_floor_add_one x; rw [Rat.intCast_add] at this; exact this⟩
theorem rep_below {p:Nat} {s:Int} {u:Rat} (h:B s u):∃ q,rep p q∧q≤u∧u-p2 (s-p)≤q:=by
 have hp:=p2_pos (s-p)
 have hi:=p2_pos (p-s)
 have e1:p2 (s-p)*p2 (p-s)=1:=by rw [← p2_add,show s-p+(p-s)=0 by omega,p2_zero]
 have e2:p2 s*p2 (p-s)=((2 ^ p:Nat):Rat):=by rw [← p2_add,show s+(p-s)=((p:Nat):Int) by omega,p2_nat]
 obtain ⟨f1,f2⟩:=floor_near (u*p2 (p-s))
 generalize hz:(u*p2 (p-s)).floor=z at f1 f2
 have h1:=Rat.mul_le_mul_of_nonneg_right h.1 (Rat.le_of_lt hi)
 have h2:=Rat.mul_le_mul_of_nonneg_right h.2 (Rat.le_of_lt hi)
 have hzl : -((2 ^ p:Nat):Int)≤z:=by
  rcases Int.lt_or_le z (-((2 ^ p:Nat):Int)) with k | k
  ·have h3:(z:Rat)+1≤((-((2 ^ p:Nat):Int):Int):Rat):=by
    have:=intCast_le (show z+1 ≤ -((2 ^ p:Nat):Int) by omega)
    rwa [Rat.intCast_add] at this
   rw [Rat.intCast_neg,Rat.intCast_natCast] at h3
   grind
  ·exact k
 have hzh:z≤((2 ^ p:Nat):Int):=by
  rcases Int.lt_or_le ((2 ^ p:Nat):Int) z with k | k
  ·have h3:=intCast_lt k
   rw [Rat.intCast_natCast] at h3
   grind
  ·exact k
 refine ⟨(z:Rat)*p2 (s-p),⟨z,s-p,rfl,by omega⟩,?_,?_⟩
 ·have:=Rat.mul_le_mul_of_nonneg_right f1 (Rat.le_of_lt hp)
  have e:u*p2 (p-s)*p2 (s-p)=u:=by grind
  grind
 ·have:=Rat.mul_le_mul_of_nonneg_right (Rat.le_of_lt f2) (Rat.le_of_lt hp)
  have e:u*p2 (p-s)*p2 (s-p)=u:=by grind
  grind
theorem enc_width {p:Nat} {c:I} {u v:Rat} (h:Enc p c u v) {s:Int} (hu:B s u) (hv:B s v):val c.hi-val c.lo≤v-u+2*p2 (s-p):=by
 obtain ⟨q,r1,q1,q2⟩:=rep_below (p:=p) hu
 obtain ⟨t,r2,t1,t2⟩:=rep_below (p:=p) hv.neg
 have h1:=h.blo q r1 q1
 have h2:=h.bhi (-t) (rep_neg r2) (by grind)
 grind
theorem enc_bounds {p:Nat} {c:I} {u v:Rat} (h:Enc p c u v) {s:Int} (hu:B s u) (hv:B s v) (hle:val c.lo≤val c.hi):B s (val c.lo)∧B s (val c.hi):=by
 have h1:=h.blo _ (rep_neg (rep_p2 p s)) hu.1
 have h2:=h.bhi _ (rep_p2 p s) hv.2
 exact ⟨⟨h1,by grind⟩,⟨by grind,h2⟩⟩
structure HasW (r:I × Int) (x:R) (L H:Int) (w:Rat):Prop where
 h:Has r x L H
 w:val r.1.hi-val r.1.lo≤w
theorem HasW.mono {r:I × Int} {x:R} {L H L' H':Int} {w w':Rat} (h:HasW r x L H w) (h1:L'≤L) (h2:H≤H') (h3:w≤w'):HasW r x L' H' w':=⟨h.h.mono h1 h2,by have:=h.w; grind⟩
theorem HasW.eq {r:I × Int} {x y:R} {L H:Int} {w:Rat} (h:HasW r x L H w) (e:x=y):HasW r y L H w:=e ▸ h
theorem HasW.pair {r:I × Int} {x:R} {L H:Int} {w:Rat} (h:HasW r x L H w):HasW (r.1,0) x L H w:=⟨h.h.pair,h.w⟩
theorem hw_int {n:Int} {K:Nat} (hK:K≤60) (hn:n.natAbs≤2 ^ K):HasW (iS n 0) (n:R) 0 (K:Int) 0:=⟨has_int hK hn,by show val (fromD n)-val (fromD n)≤0; grind⟩
theorem hw_neg {r:I × Int} {x:R} {L H:Int} {w:Rat} (h:HasW r x L H w):HasW (nS r.1 0) (-x) L H w:=⟨has_neg h.h,by
 have n:=neg_vals r.1
 show val (negI r.1).hi-val (negI r.1).lo≤w
 rw [n.1,n.2]; have:=h.w; grind⟩
theorem HasW.ends {r:I × Int} {x:R} {L H:Int} {w m:Rat} (h:HasW r x L H w) (hx:ab x≤ofQ m) : -(m+w)≤val r.1.lo∧val r.1.lo≤m∧-m≤val r.1.hi∧val r.1.hi≤m+w:=by
 have h1:=h.h.m.lo
 have h2:=h.h.m.hi
 have h3:=ab_le.1 hx
 have h4:val r.1.lo≤m:=ofQ_le.1 (by grind)
 have h5 : -m≤val r.1.hi:=ofQ_le.1 (by rw [ofQ_neg]; grind)
 have:=h.w
 exact ⟨by grind,h4,h5,by grind⟩
theorem hw_add {r s:I × Int} {x y:R} {L H:Int} {w1 w2 m:Rat} {K:Int} (ha:HasW r x L H w1) (hb:HasW s y L H w2) (hm:ab (x+y)≤ofQ m) (hK:m+w1+w2≤p2 K) {p:Nat} (hp:1≤p) (hL : -60000≤L) (hH:H+1≤60000):HasW (aS p r.1 s.1 0) (x+y) L K (w1+w2+2*p2 (K-p)):=by
 obtain ⟨c,e,o,en⟩:=addI_ok ha.h.ok hb.h.ok hp hL hH
 have h:=has_add ha.h hb.h hp hL hH
 have e':aS p r.1 s.1 0=(c,0):=e
 have l1:=ofQ_le.2 (Rat.le_refl (a:=val r.1.lo))
 have h1:=ha.h.m.lo; have h2:=ha.h.m.hi; have h3:=hb.h.m.lo; have h4:=hb.h.m.hi
 have h5:=ab_le.1 hm
 have u1:val r.1.lo+val s.1.lo≤m:=ofQ_le.1 (by rw [ofQ_add]; grind)
 have v1 : -m≤val r.1.hi+val s.1.hi:=ofQ_le.1 (by rw [ofQ_add,ofQ_neg]; grind)
 have k1:=ha.w; have k2:=hb.w; have k3:=ha.h.ok.le; have k4:=hb.h.ok.le
 have bu:B K (val r.1.lo+val s.1.lo):=⟨by grind,by grind⟩
 have bv:B K (val r.1.hi+val s.1.hi):=⟨by grind,by grind⟩
 have b:=enc_bounds en bu bv o.le
 have w:=enc_width en bu bv
 rw [e'] at h ⊢
 exact ⟨⟨rfl,⟨⟨o.lo.w,o.lo.g,b.1⟩,⟨o.hi.w,o.hi.g,b.2⟩,o.le⟩,h.m⟩,by grind⟩
theorem hw_sub {r s:I × Int} {x y:R} {L H:Int} {w1 w2 m:Rat} {K:Int} (ha:HasW r x L H w1) (hb:HasW s y L H w2) (hm:ab (x-y)≤ofQ m) (hK:m+w1+w2≤p2 K) {p:Nat} (hp:1≤p) (hL : -60000≤L) (hH:H+1≤60000):HasW (suS p r.1 s.1 0) (x-y) L K (w1+w2+2*p2 (K-p)):=by
 have h:=hw_add ha (hw_neg hb) (m:=m) (K:=K) (by rw [show x + -y=x-y by grind]; exact hm) hK hp hL hH
 exact HasW.eq h (by grind)
theorem width_prod {a b a' b' A C w1 w2:Rat} (ha : -A≤a∧a≤A) (hb' : -C≤b'∧b'≤C) (h1 : -w1≤a-a'∧a-a'≤w1) (h2 : -w2≤b-b'∧b-b'≤w2):a*b-a'*b'≤A*w2+C*w1:=by
 have k1:=(mul_abs_le ha h2).2
 have k2:=(mul_abs_le hb' h1).2
 have e:a*b-a'*b'=a*(b-b')+b'*(a-a'):=by grind
 grind
theorem hw_mul {r s:I × Int} {x y:R} {L H M K:Int} {w1 w2:Rat} (ha:HasW r x L H w1) (hb:HasW s y M K w2) {p:Nat} (hp:1≤p) (hL : -60000≤L+M) (hH:H+K≤60000):HasW (mS p r.1 s.1 0) (x*y) (L+M) (H+K) (p2 H*w2+p2 K*w1+2*p2 (H+K-p)):=by
 obtain ⟨c,u,v,e,o,en,pr⟩:=mulI_ok ha.h.ok hb.h.ok hp hL hH
 have h:=has_mul ha.h hb.h hp hL hH
 have e':mS p r.1 s.1 0=(c,0):=e
 have k1:=ha.w; have k2:=hb.w; have k3:=ha.h.ok.le; have k4:=hb.h.ok.le
 have a1:=ha.h.ok.lo.b; have a2:=ha.h.ok.hi.b; have b1:=hb.h.ok.lo.b; have b2:=hb.h.ok.hi.b
 have bu:B (H+K) u:=by rcases pr.mu with q | q | q | q<;>rw [q]<;>exact B.mul (by assumption) (by assumption)
 have bv:B (H+K) v:=by rcases pr.mv with q | q | q | q<;>rw [q]<;>exact B.mul (by assumption) (by assumption)
 have hd:v-u≤p2 H*w2+p2 K*w1:=by
  unfold B at a1 a2 b1 b2
  rcases pr.mv with q | q | q | q<;>rcases pr.mu with t | t | t | t<;>rw [q,t]<;>exact width_prod (by assumption) (by assumption) (by constructor<;>grind) (by constructor<;>grind)
 have w:=enc_width en bu bv
 rw [e'] at h ⊢
 exact ⟨h,by grind⟩
theorem div_n_val {n:Nat} (hn:0<n) (x:Rat):x / val (intI (n:Int)).lo*(n:Rat)=x:=by
 have e:val (intI (n:Int)).lo=(n:Rat):=by rw [show (intI (n:Int)).lo=fromD (n:Int) from rfl,val_from]; exact Rat.intCast_natCast n
 rw [e]
 have:(0:Rat)<(n:Rat):=by exact_mod_cast hn
 exact mul_of_div (by grind)
theorem hw_div_n {r:I × Int} {x z:R} {L H:Int} {w:Rat} (ha:HasW r x L H w) {n k:Nat} (hk:k≤60) (h0:0<n) (hn:n≤2 ^ k) {j:Int} (hj:p2 j≤(n:Rat)) (hz:z*(n:R)=x) {p:Nat} (hp:1≤p) (hL : -60000≤L-k-p-2) (hH:H+2≤60000):HasW (dS p r.1 (iS (n:Int) 0).1 0) z (L-k-p-2) (H-j) (w*p2 (-j)+2*p2 (H-j-p)):=by
 obtain ⟨c,u,v,e,o,en,q⟩:=divI_enc (p:=p) ha.h.ok (has_nat hk hn).ok (nz_int h0) hp hL (by omega)
 have h:=has_div_n ha.h hk h0 hn hz hp hL hH
 have e':dS p r.1 (iS (n:Int) 0).1 0=(c,0):=e
 have k1:=ha.w; have k3:=ha.h.ok.le
 have a1:=ha.h.ok.lo.b; have a2:=ha.h.ok.hi.b
 have hnr:(0:Rat)<(n:Rat):=by exact_mod_cast h0
 have hpj:=p2_pos (-j)
 have ej:p2 (-j)*p2 j=1:=by rw [← p2_add,show -j+j=0 by omega,p2_zero]
 have ejn:1≤p2 (-j)*(n:Rat):=by have:=Rat.mul_le_mul_of_nonneg_left hj (Rat.le_of_lt hpj); grind
 have eH:p2 (H-j)=p2 H*p2 (-j):=by rw [← p2_add]; congr 1
 have hi:(iS (n:Int) 0).1=intI (n:Int):=rfl
 have lohi:(intI (n:Int)).hi=(intI (n:Int)).lo:=rfl
 rw [hi] at q
 have d1:=div_n_val h0 (val r.1.lo)
 have d2:=div_n_val h0 (val r.1.hi)
 have qu:=q.mu
 have qv:=q.mv
 rw [lohi] at qu qv
 have bdd:∀ x:Rat,B H (x*(n:Rat))→B (H-j) x:=by
  intro x hx
  unfold B at *
  rw [eH]
  have k5:=Rat.mul_le_mul_of_nonneg_left ejn (Rat.le_of_lt (p2_pos H))
  constructor
  ·rw [← mul_le_iff hnr]; grind
  ·rw [← mul_le_iff hnr]; grind
 have bu:B (H-j) u:=bdd u (by rcases qu with k | k | k | k<;>rw [k]<;>first | (rw [d1]; exact a1) | (rw [d2]; exact a2))
 have bv:B (H-j) v:=bdd v (by rcases qv with k | k | k | k<;>rw [k]<;>first | (rw [d1]; exact a1) | (rw [d2]; exact a2))
 have hd:v-u≤w*p2 (-j):=by
  have hw0:0≤w:=by grind
  have k5:=Rat.mul_le_mul_of_nonneg_left ejn hw0
  rw [← mul_le_iff hnr]
  have:(v-u)*(n:Rat)≤w:=by
   rcases qu with k | k | k | k<;>rcases qv with t | t | t | t<;>rw [k,t]<;>grind
  grind
 have wd:=enc_width en bu bv
 have b:=enc_bounds en bu bv o.le
 rw [e'] at h ⊢
 exact ⟨⟨rfl,⟨⟨o.lo.w,o.lo.g.mono (by omega),b.1⟩,⟨o.hi.w,o.hi.g.mono (by omega),b.2⟩,o.le⟩,h.m⟩,by grind⟩
theorem hw_wide {r:I × Int} {x y:R} {L H:Int} {w m:Rat} {K:Int} (ha:HasW r x L H w) {d:D} (hd:Okd d L H) (hxy:ab (y-x)≤ofQ (val d)) (hm:ab x≤ofQ m) (hK:m+w+val d≤p2 K) {p:Nat} (hp:1≤p) (hL : -60000≤L) (hH:H+1≤60000):HasW (wS p r.1 d 0) y L K (w+2*val d+2*p2 (K-p)):=by
 have h0:0≤val d:=by
  have:=ab_nonneg (y-x)
  exact ofQ_le.1 (rle_trans this hxy)
 obtain ⟨c,e,o,en⟩:=wideI_ok ha.h.ok hd h0 hp hL hH
 have h:=has_wide ha.h hd hxy hp hL hH
 have e':wS p r.1 d 0=(c,0):=e
 have q:=ha.ends hm
 have k1:=ha.w; have k3:=ha.h.ok.le
 have bu:B K (val r.1.lo-val d):=⟨by grind,by grind⟩
 have bv:B K (val r.1.hi+val d):=⟨by grind,by grind⟩
 have b:=enc_bounds en bu bv o.le
 have wd:=enc_width en bu bv
 rw [e'] at h ⊢
 exact ⟨⟨rfl,⟨⟨o.lo.w,o.lo.g,b.1⟩,⟨o.hi.w,o.hi.g,b.2⟩,o.le⟩,h.m⟩,by grind⟩
theorem hw_scale {r:I × Int} {x:R} {L H n:Int} {w:Rat} (ha:HasW r x L H w) (hL : -60000≤L+n) (hH:H+n≤60000):HasW (scS r.1 n 0) (x*ofQ (p2 n)) (L+n) (H+n) (w*p2 n):=by
 obtain ⟨c,e,o,e1,e2⟩:=scaleI_ok ha.h.ok hL hH
 have h:=has_scale ha.h hL hH
 have e':scS r.1 n 0=(c,0):=e
 rw [e'] at h ⊢
 refine ⟨h,?_⟩
 show val c.hi-val c.lo≤w*p2 n
 have:=Rat.mul_le_mul_of_nonneg_right ha.w (Rat.le_of_lt (p2_pos n))
 rw [e1,e2]; grind
theorem rep_grid {p:Nat} {q:Rat} (h:rep p q) {l:Int} (hl:p2 l≤q):G (l-p) q:=by
 obtain ⟨w,f,rfl,hw⟩:=h
 have hwb:=rep_bound hw f
 have h1:(w:Rat)≤(w.natAbs:Rat):=by
  have:=intCast_le (show w≤(w.natAbs:Int) by omega)
  rwa [Rat.intCast_natCast] at this
 have h2:=Rat.mul_le_mul_of_nonneg_right h1 (Rat.le_of_lt (p2_pos f))
 have h3:p2 l≤p2 (f+(p:Nat)):=by grind
 have:=p2_le_iff.1 h3
 exact G.of (by omega)
theorem ncast_succ (i:Nat) (d:Rat):((i+1:Nat):Rat)*d=(i:Rat)*d+d:=by rw [Rat.natCast_add]; have:((1:Nat):Rat)=1:=rfl; rw [this]; grind
theorem ncast_mul_le {i j:Nat} (h:i≤j) {d:Rat} (hd:0≤d):(i:Rat)*d≤(j:Rat)*d:=Rat.mul_le_mul_of_nonneg_right (natCast_le h) hd
theorem ser_w {p:Nat} (hp:1≤p) (next:Nat→I→Int→I × I × Int) (T P Su:Nat→R) {L0 c:Int} {Hh:Int} {wt wp m w0:Rat} (hc:0≤c) {N:Nat} (hS:∀ i,Su (i+1)=Su i+P (i+1)) (hwp:0≤wp)
  (hn:∀ i t,i<N→HasW (t,0) (T i) (L0-c*i) Hh wt→(next (i+1) t 0).2.2=0∧HasW ((next (i+1) t 0).1,0) (T (i+1)) (L0-c*(i+1:Nat)) Hh wt∧HasW ((next (i+1) t 0).2.1,0) (P (i+1)) (L0-c*(i+1:Nat)) Hh wp)
  (hSu:∀ i,ab (Su i)≤ofQ m) (hK:m+(w0+(N:Rat)*(wp+2*p2 (-(p:Int))))≤1) (hL : -60000≤L0-c*N) (hH:Hh≤0) :
  ∀ (k i:Nat) (s t:I),i+k=N→HasW (s,0) (Su i) (L0-c*i) 0 (w0+(i:Rat)*(wp+2*p2 (-(p:Int))))→HasW (t,0) (T i) (L0-c*i) Hh wt→HasW (serL p next k i s t 0) (Su N) (L0-c*N) 0 (w0+(N:Rat)*(wp+2*p2 (-(p:Int)))):=by
 intro k
 induction k with
 | zero=>
  intro i s t hi hs _
  have:i=N:=by omega
  subst this
  exact hs
 | succ k ih=>
  intro i s t hi hs ht
  obtain ⟨n1,n2,n3⟩:=hn i t (by omega) ht
  have e1:=cmul_succ c i
  have m1:=cmul_le hc (show i+1≤N by omega)
  have hpp:=p2_pos (-(p:Int))
  have d1:=ncast_succ i (wp+2*p2 (-(p:Int)))
  have d2:=ncast_mul_le (show i+1≤N by omega) (show 0≤wp+2*p2 (-(p:Int)) by grind)
  have h1:=hw_add (p:=p) (K:=0) (m:=m) (hs.mono (L':=L0-c*(i+1:Nat)) (H':=0) (by omega) (by omega) Rat.le_refl) (n3.mono (Int.le_refl _) (H':=0) (by omega) Rat.le_refl) (by rw [← hS i]; exact hSu _) (by rw [p2_zero]; grind) hp (by omega) (by omega)
  rw [serL,n1]
  have h2:=ih (i+1) _ _ (by omega) ((h1.mono (Int.le_refl _) (Int.le_refl _) (w':=w0+((i+1:Nat):Rat)*(wp+2*p2 (-(p:Int)))) (by rw [show (0:Int)-(p:Int) = -(p:Int) by omega]; grind)).eq (hS i).symm).pair n2
  rw [h1.h.e]; exact h2
theorem sq_w {y:I} {x:R} {L H l:Int} {w:Rat} (hy:HasW (y,0) x L H w) (hl:p2 l≤val y.lo) {p:Nat} (hp:1≤p) (hL : -60000≤L+L) (hH:H+H≤60000):HasW (mS p y y 0) (x*x) (l+l-p) (H+H) (2*(p2 H*w)+2*p2 (H+H-p)):=by
 have h:=hw_mul hy hy hp hL hH
 obtain ⟨c,u,v,e,o,en,pr⟩:=mulI_ok hy.h.ok hy.h.ok hp hL hH
 have e':mS p y y 0=(c,0):=by show st 0 zI (mulI p y y)=_; rw [st_zero]; exact e
 have e'':mS p (y,(0:Int)).1 (y,(0:Int)).1 0=(c,0):=e'
 rw [e''] at h
 rw [e']
 have hle:=hy.h.ok.le
 have hlo:p2 l≤val y.lo:=hl
 have hhi:p2 l≤val y.hi:=by have:val y.lo≤val y.hi:=hle; grind
 have hp0:=p2_pos l
 have mm:∀ a b:Rat,p2 l≤a→p2 l≤b→p2 (l+l)≤a*b:=fun a b ha hb=>by
  rw [p2_add]
  have h1:=Rat.mul_le_mul_of_nonneg_right ha (Rat.le_of_lt hp0)
  have h2:=Rat.mul_le_mul_of_nonneg_left hb (show 0≤a by grind)
  grind
 have hu:p2 (l+l)≤u:=by rcases pr.mu with k | k | k | k<;>rw [k]<;>exact mm _ _ (by assumption) (by assumption)
 have b1:=en.blo _ (rep_p2 p (l+l)) hu
 have ol:=o.le
 exact ⟨⟨rfl,⟨⟨o.lo.w,rep_grid en.rlo b1,o.lo.b⟩,⟨o.hi.w,rep_grid en.rhi (by grind),o.hi.b⟩,o.le⟩,h.h.m⟩,by have:=h.w; grind⟩
theorem Su_le {a:Nat→R} (h0:a 0=0) (h:∀ n,ab (a n)≤1) {t w x:R} (hg:Geo t w) (hx:ab x≤t) (k:Nat):ab (psum a x (k+1))≤w*t:=by
 have h1:=psum_tail (PB.one h) hg (x:=x) (by grind) 1 k
 have e1:psum a x 1=0:=by show 0+a 0*x ^ 0=0; rw [h0]; grind
 rw [e1,show 1+k=k+1 by omega,show t ^ 1=t by rw [rpow_succ,rpow_zero]; grind] at h1
 have h2:psum a x (k+1)-0=psum a x (k+1):=by grind
 rw [h2] at h1
 have h3:=rmul_nonneg (show 0≤w by have:=hg.pos; grind) (pow_nonneg hg.h0 (k+1))
 grind
theorem atan_w {p:Nat} (hp:2≤p∧p≤400) {y:I} {x:R} {L Lq H Hq:Int} {w wq wt wp m:Rat} (hy:HasW (y,0) x L H w) (hq:HasW (mS p y y 0) (x*x) Lq Hq wq) (hH:H ≤ -1) (hHq:Hq≤0) (hL0:L≤0) (hLq:Lq≤0) (hw:w≤wt) (hwt:p2 H*wq+p2 Hq*wt+2*p2 (H+Hq-p)≤wt) (hwp:wt*p2 (-1)+2*p2 (H-1-p)≤wp) (hm:∀ k,ab (psum atc x (k+1))≤ofQ m) (hK:m+(wt+((p / 2+4:Nat):Rat)*(wp+2*p2 (-(p:Int))))+p2 (-(p:Int))≤1) {M:Int} (hM:M≤L-(p+20-Lq)*(p / 2+4:Nat)) (hM' : -60000≤M):HasW (atanI p y) (A x) M 0 (wt+((p / 2+4:Nat):Rat)*(wp+2*p2 (-(p:Int)))+4*p2 (-(p:Int))):=by
 have hpp:=p2_pos (-(p:Int))
 have hwt0:0≤wt:=by have:=hy.w; have:=hy.h.ok.le; grind
 have hp1:=p2_pos (-1)
 have hp3:=p2_pos (H-1-p)
 have hwp0:0≤wp:=by have:=Rat.mul_nonneg hwt0 (Rat.le_of_lt hp1); grind
 unfold atanI
 rw [if_pos (in_box (hy.h.ok.mono (Int.le_refl _) (show H ≤ -1 from hH)))]
 have hcN:=ser_lim (c:=p+20-Lq) (N:=p / 2+4) (by omega) (by omega)
 have h:=ser_w (p:=p) (by omega) (nAtan p (mS p y y 0).1) (fun i=>sS (2*i+1)*x ^ (2*i+1)) (fun i=>atc (2*i+1)*x ^ (2*i+1)) (fun i=>psum atc x (2*i+2)) (L0:=L) (c:=p+20-Lq) (Hh:=H) (wt:=wt) (wp:=wp) (m:=m) (w0:=wt) (by omega) (N:=p / 2+4) (fun i=>atc_sum x i) hwp0 (by
  intro i t hiN ht
  have m1:=cmul_le (c:=p+20-Lq) (by omega) (show i+1≤p / 2+4 by omega)
  have e1:=cmul_succ (p+20-Lq) i
  have h1:=hw_mul (p:=p) ht hq (by omega) (by omega) (by omega)
  have h2:=(hw_neg h1).eq (y:=sS (2*(i+1)+1)*x ^ (2*(i+1)+1)) (by
   rw [show 2*(i+1)+1=2*i+1+2 by omega,sS_two,rpow_succ x (2*i+1+1),rpow_succ x (2*i+1)]; grind)
  have h2:=h2.mono (Int.le_refl _) (show H+Hq≤H by omega) hwt
  have h3:=hw_div_n (p:=p) (z:=atc (2*(i+1)+1)*x ^ (2*(i+1)+1)) h2 (n:=2*(i+1)+1) (k:=10) (by omega) (by omega) (by omega) (j:=1) (by rw [show (1:Int)=((1:Nat):Int) from rfl,p2_nat]; exact natCast_le (by omega)) (by
   rw [atc]; exact over_n _ _ _) (by omega) (by omega) (by omega)
  unfold nAtan oddS
  rw [h1.h.e,h2.h.e,show (iS ((2*(i+1)+1:Nat):Int) 0).2=0 from rfl]
  exact ⟨h3.h.e,(h2.mono (by omega) (by omega) Rat.le_refl).pair,(h3.mono (by omega) (by omega) hwp).pair⟩) (fun i=>hm _) (by grind) (by omega) (by omega) (p / 2+4) 0 y y (by omega)
  ((hy.mono (by omega) (by omega) (by have:((0:Nat):Rat)=0:=rfl; rw [this]; grind)).eq (by
   show x=0+atc 0*x ^ 0+atc 1*x ^ (0+1)
   have h1:=over_n (sS 1) x 0
   rw [show ((0+1:Nat):R)=1 from rfl] at h1
   rw [rpow_succ,rpow_zero,atc,atc,show sS 0=0 from rfl,show sS 1=1 from rfl,show ((1:Nat):R)=1 from rfl]
   rw [show sS 1=1 from rfl] at h1
   grind))
  ((hy.mono (by omega) (by omega) hw).eq (by
   show x=sS 1*x ^ (0+1)
   rw [rpow_succ,rpow_zero,show sS 1=1 from rfl]; grind))
 have hx:=box_half (in_box (hy.h.ok.mono (Int.le_refl _) (show H ≤ -1 from hH))) hy.h.m
 rw [hq.h.e]
 unfold finS
 rw [h.h.e]
 have hf1:=hf_le (show p+1≤2*(p / 2+4)+2 by omega)
 have hf2:=two_hf p
 have h5:=hw_wide (p:=p) (K:=0) (m:=m) (h.mono (L':=M) (H':=0) (by omega) (by omega) Rat.le_refl) (d:=⟨1,-(p:Int)⟩) (Okd_half (by omega) (by omega) (by omega)) (y:=A x) (by
  rw [val_half,p2_neg_nat]
  exact rle_trans (tail_half (over_ab rfl fun n=>(sg_ab n).1) hx _) (by grind)) (hm _) (by rw [val_half,p2_zero]; grind) (by omega) (by omega) (by omega)
 refine h5.mono (Int.le_refl _) (Int.le_refl _) ?_
 rw [val_half,show (0:Int)-(p:Int) = -(p:Int) by omega]; grind
end Go.Proofs.YtjffljhmjdljeaaGreat.Gen
namespace Go.An
def q4:Nat→Rat × Rat
 | 0=>(0,1)
 | n+1=>((q4 n).2,-(q4 n).1)
def atq (n:Nat):Rat:=(q4 n).1*(n:Rat)⁻¹
def qsum (a:Nat→Rat) (x:Rat):Nat→Rat
 | 0=>0
 | n+1=>qsum a x n+a n*x ^ n
theorem q4_eq (n:Nat):sg4 n=(ofQ (q4 n).1,ofQ (q4 n).2):=by
 induction n with
 | zero=>rfl
 | succ n ih=>rw [sg4,q4,ih,ofQ_neg]
theorem over_q {a:R} {q:Rat} {n:Nat} (h:a=ofQ q) (h0:n=0→q=0):a*((n:Nat):R)⁻¹=ofQ (q*(n:Rat)⁻¹):=by
 cases n with
 | zero=>rw [h,h0 rfl,Rat.zero_mul]; show (0:R)*_=0; grind
 | succ n=>rw [h,ofQ_mul,ofQ_inv (by exact_mod_cast Nat.succ_ne_zero n),ofQ_nat]
theorem atc_q (n:Nat):atc n=ofQ (atq n):=over_q (by rw [sS,q4_eq]) (by rintro rfl; rfl)
theorem psum_q {a:Nat→R} {b:Nat→Rat} (h:∀ n,a n=ofQ (b n)) (x:Rat) (n:Nat):psum a (ofQ x) n=ofQ (qsum b x n):=by
 induction n with
 | zero=>rfl
 | succ n ih=>rw [psum,qsum,ih,h,ofQ_add,ofQ_mul,ofQ_pow]
theorem geo_q {q:Rat} (h0:0≤q) (h1:q<1):Geo (ofQ q) (ofQ (1-q)⁻¹):=⟨ofQ_le.2 h0,ofQ_lt.2 h1,by
 rw [← ofQ_one,← ofQ_sub,← ofQ_mul,Rat.inv_mul_cancel _ (by grind)]⟩
theorem near_q {a:Nat→R} {b:Nat→Rat} (h:∀ n,a n=ofQ (b n)) (hb:∀ n,ab (a n)≤1) {q:Rat} (h0:0≤q) (h1:q<1) (n:Nat):ofQ (qsum b q n-(1-q)⁻¹*q ^ n)≤ps a (ofQ q)∧ps a (ofQ q)≤ofQ (qsum b q n+(1-q)⁻¹*q ^ n):=by
 have h2:=ps_tail (PB.one hb) (geo_q h0 h1) (x:=ofQ q) (by rw [ab_of (ofQ_le.2 h0)]; grind) n
 rw [psum_q h,← ofQ_pow] at h2
 have h3:=ab_le.1 h2
 rw [ofQ_sub,ofQ_add,ofQ_mul]
 exact ⟨by grind,by grind⟩
theorem A_q {q:Rat} (h0:0≤q) (h1:q<1) (n:Nat):ofQ (qsum atq q n-(1-q)⁻¹*q ^ n)≤A (ofQ q)∧A (ofQ q)≤ofQ (qsum atq q n+(1-q)⁻¹*q ^ n):=near_q atc_q (over_ab rfl fun n=>(sg_ab n).1) h0 h1 n
theorem pi_q:(31415926535897932384626433832794 / 10000000000000000000000000000000:Rat)≤16*(qsum atq (1 / 5) 50-(1-1 / 5)⁻¹*(1 / 5) ^ 50)-4*(qsum atq (1 / 239) 16+(1-1 / 239)⁻¹*(1 / 239) ^ 16)∧16*(qsum atq (1 / 5) 50+(1-1 / 5)⁻¹*(1 / 5) ^ 50)-4*(qsum atq (1 / 239) 16-(1-1 / 239)⁻¹*(1 / 239) ^ 16)≤(31415926535897932384626433832796 / 10000000000000000000000000000000:Rat):=by decide +kernel
theorem pi_near:ofQ (31415926535897932384626433832794 / 10000000000000000000000000000000)≤hp+hp∧hp+hp≤ofQ (31415926535897932384626433832796 / 10000000000000000000000000000000):=by
 have a1:=A_q (q:=1 / 5) (by decide +kernel) (by decide +kernel) 50
 have a2:=A_q (q:=1 / 239) (by decide +kernel) (by decide +kernel) 16
 have h1:=ofQ_le.2 pi_q.1
 have h2:=ofQ_le.2 pi_q.2
 have e16:ofQ 16=16:=rfl
 have e4:ofQ 4=4:=rfl
 generalize qsum atq (1 / 5) 50-(1-1 / 5)⁻¹*(1 / 5) ^ 50=l1 at *
 generalize qsum atq (1 / 5) 50+(1-1 / 5)⁻¹*(1 / 5) ^ 50=u1 at *
 generalize qsum atq (1 / 239) 16-(1-1 / 239)⁻¹*(1 / 239) ^ 16=l2 at *
 generalize qsum atq (1 / 239) 16+(1-1 / 239)⁻¹*(1 / 239) ^ 16=u2 at *
 rw [ofQ_sub,ofQ_mul,ofQ_mul,e16,e4] at h1 h2
 rw [hp]
 generalize A (ofQ (1 / 5))=x at *
 generalize A (ofQ (1 / 239))=y at *
 exact ⟨by grind,by grind⟩
theorem sqrt_ex {x:R} (h:0<x):∃ s,0<s∧s*s=x:=by
 obtain ⟨y,hy⟩:=half_ex (Ln x)
 refine ⟨E y,E_pos y,?_⟩
 rw [← E_add,← hy,E_Ln h]
theorem halving_tail {a:Nat→R} {x y:R} (hc:Conv (psum a x) y) (m:Nat) (h:∀ i,m≤i→ab (a (i+1)*x ^ (i+1))+ab (a (i+1)*x ^ (i+1))≤ab (a i*x ^ i)):ab (y-psum a x (m+1))≤ab (a m*x ^ m):=by
 have key:∀ k,ab (psum a x (m+1+k)-psum a x (m+1))+ab (a (m+k)*x ^ (m+k))≤ab (a m*x ^ m):=by
  intro k
  induction k with
  | zero=>rw [Nat.add_zero,Nat.add_zero,show psum a x (m+1)-psum a x (m+1)=0 by grind,ab_zero]; grind
  | succ k ih=>
   have e:psum a x (m+1+(k+1))=psum a x (m+1+k)+a (m+k+1)*x ^ (m+k+1):=by
    rw [show m+1+(k+1)=(m+1+k)+1 by omega]
    show psum a x (m+1+k)+a (m+1+k)*x ^ (m+1+k)=_
    rw [show m+1+k=m+k+1 by omega]
   have h1:=h (m+k) (by omega)
   have h2:=ab_add (psum a x (m+1+k)-psum a x (m+1)) (a (m+k+1)*x ^ (m+k+1))
   rw [e,show psum a x (m+1+k)+a (m+k+1)*x ^ (m+k+1)-psum a x (m+1)=psum a x (m+1+k)-psum a x (m+1)+a (m+k+1)*x ^ (m+k+1) by grind,show m+(k+1)=m+k+1 by omega]
   grind
 have hs:=(hc.shift (m+1)).sub (Conv.const (psum a x (m+1)))
 refine hs.ab_le 0 fun n _=>?_
 have h1:=key n
 have h2:=ab_nonneg (a (m+n)*x ^ (m+n))
 rw [show n+(m+1)=m+1+n by omega]
 grind
theorem nsq_dv (a b:R):Dv (fun h=>-(h*h)) (fun h=>-(h+h)) a b:=((Dv.id a b).mul (Dv.id a b)).neg.congr (fun _ _=>rfl) fun x _=>by grind
theorem E_sum (u:R) (hu:0≤u) (m:Nat):psum rf u m≤E u:=by
 have hc:Conv (psum rf u) (E u):=ps_rf rf_ab u
 have mono:∀ k,psum rf u m≤psum rf u (m+k):=by
  intro k
  induction k with
  | zero=>exact rle_refl _
  | succ k ih=>
   have h1:=rmul_nonneg (show 0≤rf (m+k) by have:=rf_pos (m+k); grind) (pow_nonneg hu (m+k))
   show psum rf u m≤psum rf u (m+k)+rf (m+k)*u ^ (m+k)
   grind
 exact hc.ge_c m fun n hn=>by have:=mono (n-m); rwa [show m+(n-m)=n by omega] at this
def padd:List Rat→List Rat→List Rat
 | [],m=>m
 | a :: l,[]=>a :: l
 | a :: l,b :: m=>(a+b) :: padd l m
def psc (c:Rat):List Rat→List Rat
 | []=>[]
 | a :: l=>c*a :: psc c l
def pmul:List Rat→List Rat→List Rat
 | [],_=>[]
 | a :: l,m=>padd (psc a m) (0 :: pmul l m)
def ppow (l:List Rat):Nat→List Rat
 | 0=>[1]
 | n+1=>pmul (ppow l n) l
def pz:Nat→List Rat→List Rat
 | 0,l=>l
 | n+1,l=>0 :: pz n l
def bnN:Nat→Int
 | 1=>1 | 2=>-1 | 3=>1 | 4=>-1 | 5=>5 | 6=>-691 | 7=>7 | 8=>-3617 | 9=>43867 | 10=>-174611 | _=>0
def bnD:Nat→Nat
 | 1=>6 | 2=>30 | 3=>42 | 4=>30 | 5=>66 | 6=>2730 | 7=>6 | 8=>510 | 9=>798 | 10=>330 | _=>1
def cK (k:Nat):Rat:=(bnN k:Rat) / ((bnD k*2*k*(2*k-1):Nat):Rat)
noncomputable def stS (y:R):Nat→R
 | 0=>0
 | k+1=>stS y k+ofQ (cK (k+1))*y⁻¹ ^ (2*k+1)
noncomputable def st (K:R) (y:R):R:=(y-hf)*Ln y-y+stS y 10+K
def pP:List Rat:=[1,1]
def pM:List Rat:=[1,-1]
def pK:Nat→List Rat
 | 0=>[]
 | k+1=>padd (pK k) (psc (cK (k+1)*2 ^ (2*k+1)) (pz (2*k+2) (padd (pmul (ppow pP (18-2*k)) (ppow pM 19)) (psc (-1) (pmul (ppow pM (18-2*k)) (ppow pP 19))))))
def rfq:Nat→Rat
 | 0=>1
 | n+1=>rfq n*((n+1:Nat):Rat)⁻¹
theorem rf_q (n:Nat):rf n=ofQ (rfq n):=by
 induction n with
 | zero=>rfl
 | succ n ih=>rw [rf,rfq,ih,ofQ_mul,ofQ_inv (by exact_mod_cast Nat.succ_ne_zero n),ofQ_nat]
end Go.An
namespace Go.Proofs.YtjffljhmjdljeaaGreat.Gen
open Go Go.Abs Go.Plain Go.An
theorem p2_sub (a:Int) (p:Nat):p2 (a-p)=p2 a*p2 (-(p:Int)):=by rw [← p2_add]; congr 1
theorem p2_lits:p2 (-1)=1 / 2∧p2 (-2)=1 / 4∧p2 (-3)=1 / 8∧p2 (-4)=1 / 16∧p2 (-6)=1 / 64∧p2 (-7)=1 / 128∧p2 (-8)=1 / 256∧p2 (-14)=1 / 16384∧p2 (-21)=1 / 2097152:=by
 unfold p2; decide +kernel
theorem eps_le {p:Nat} (hp:8≤p):p2 (-(p:Int))≤1 / 256:=by
 rw [← p2_lits.2.2.2.2.2.2.1]; exact p2_le (by omega)
theorem pow_big {p:Nat} (hp:8≤p):2*p+26≤2 ^ (p-2):=by
 obtain ⟨k,rfl⟩:∃ k,p=k+8:=⟨p-8,by omega⟩
 clear hp
 induction k with
 | zero=>decide
 | succ k ih=>
  have:2 ^ (k+1+8-2)=2 ^ (k+8-2)*2:=by rw [← Nat.pow_succ]; congr 1
  omega
theorem eps_N {p:Nat} (hp:8≤p):(4*((p / 2+4:Nat):Rat)+10)*p2 (-(p:Int))≤1 / 4:=by
 have h1:=pow_big hp
 have h2:4*(p / 2+4)+10≤2 ^ (p-2):=by omega
 have h3:=natCast_le h2
 rw [Rat.natCast_add,Rat.natCast_mul] at h3
 have e1:((4:Nat):Rat)=4:=rfl
 have e2:((10:Nat):Rat)=10:=rfl
 rw [e1,e2] at h3
 have h4:=Rat.mul_le_mul_of_nonneg_right h3 (Rat.le_of_lt (p2_pos (-(p:Int))))
 rw [← p2_nat,← p2_add,show ((p-2:Nat):Int) + -(p:Int) = -2 by omega,p2_lits.2.1] at h4
 exact h4
theorem inv_n {n:Nat} (h:0<n):ofQ (1 / (n:Rat))*(n:R)=1:=by
 have:(n:Rat)≠0:=by exact_mod_cast Nat.pos_iff_ne_zero.1 h
 rw [← ofQ_nat,← ofQ_mul,show (1 / (n:Rat))*(n:Rat)=1 by rw [Rat.div_def,Rat.one_mul,Rat.inv_mul_cancel _ this]]; rfl
theorem rec_w {p n k:Nat} {j:Int} (hp:2≤p∧p≤400) (hk:k≤60) (h0:0<n) (hn:n≤2 ^ k) (hj:p2 j≤(n:Rat)) (hj0:0≤j):HasW (recS p (n:Int) 0) (ofQ (1 / (n:Rat))) (0-k-p-2) (-j) (2*p2 (-j-p)):=by
 have i1:HasW (iS 1 0) (1:R) 0 0 0:=hw_int (n:=1) (K:=0) (by omega) (by decide)
 have h:=hw_div_n (p:=p) i1 hk h0 hn hj (inv_n h0) (by omega) (by omega) (by omega)
 have e:recS p (n:Int) 0=dS p (iS 1 0).1 (iS (n:Int) 0).1 0:=rfl
 rw [e]
 exact h.mono (Int.le_refl _) (by omega) (by rw [show (0:Int)-j = -j by omega]; grind)
theorem HasW.low {r:I × Int} {q:Rat} {L H:Int} {w l:Rat} (h:HasW r (ofQ q) L H w) (hl:l≤q-w):l≤val r.1.lo:=by
 have h1:q≤val r.1.hi:=ofQ_le.1 h.h.m.hi
 have:=h.w
 grind
theorem one_n {p n k:Nat} {j l:Int} (hp:8≤p∧p≤200) (hk:k≤8) (h0:0<n) (hn:n≤2 ^ k) (hj:p2 j≤(n:Rat)) (hl:l = -(j+1)) (hj0:1≤j∧j≤7) (hlow:p2 l≤1 / (n:Rat)-2*(p2 (-j)*(1 / 256))) :
  HasW (recS p (n:Int) 0) (ofQ (1 / (n:Rat))) (-300) (-j) (2*(p2 (-j)*p2 (-(p:Int))))∧HasW (mS p (recS p (n:Int) 0).1 (recS p (n:Int) 0).1 0) (ofQ (1 / (n:Rat))*ofQ (1 / (n:Rat))) (l+l-p) (-j + -j) (2*(p2 (-j)*(2*(p2 (-j)*p2 (-(p:Int)))))+2*(p2 (-j + -j)*p2 (-(p:Int)))):=by
 have h:=rec_w (p:=p) (n:=n) (k:=k) (j:=j) (by omega) (by omega) h0 hn hj (by omega)
 rw [p2_sub] at h
 have he:=eps_le hp.1
 have hp0:=p2_pos (-j)
 have h1:=Rat.mul_le_mul_of_nonneg_left he (Rat.le_of_lt hp0)
 have hlo:=h.low (l:=p2 l) (by grind)
 have h2:=sq_w (p:=p) h.pair hlo (by omega) (by omega) (by omega)
 rw [p2_sub] at h2
 exact ⟨h.mono (by omega) (Int.le_refl _) Rat.le_refl,h2⟩
theorem onePi_w5 {p:Nat} (hp:8≤p∧p≤200):HasW (onePi p 5 0) (A (ofQ (1 / 5))) (-46000) 0 ((9 / 2+((p / 2+4:Nat):Rat)*(5 / 2))*p2 (-(p:Int))):=by
 have L:=p2_lits
 obtain ⟨h1,h2⟩:=one_n (p:=p) (n:=5) (k:=3) (j:=2) (l:=-3) hp (by omega) (by omega) (by omega) (by rw [show (2:Int)=((2:Nat):Int) from rfl,p2_nat]; exact natCast_le (by omega)) (by omega) (by omega) (by rw [L.2.2.1,L.2.1]; decide +kernel)
 have hpos:=p2_pos (-(p:Int))
 have hN:=eps_N hp.1
 have he:=eps_le hp.1
 generalize hed:p2 (-(p:Int))=e at *
 have hb:(p+20-(-3 + -3-(p:Int)))*((p / 2+4:Nat):Int)≤426*104:=Int.mul_le_mul (by omega) (by omega) (by omega) (by omega)
 have h:=atan_w (p:=p) (by omega) (H:=-2) (Hq:=-4) (wt:=e / 2) (wp:=e / 2) (m:=1 / 4) h1.pair h2 (by omega) (by omega) (by omega) (by omega) (by rw [L.2.1]; grind) (by rw [p2_sub,hed,show (-2:Int) + -4 = -6 from rfl,show (-2:Int) + -2 = -4 from rfl,L.2.1,L.2.2.2.1,L.2.2.2.2.1]; grind) (by rw [p2_sub,hed,show (-2:Int)-1 = -3 from rfl,L.1,L.2.2.1]; grind)
  (fun k=>by
   have q:=Su_le (a:=atc) (by rw [atc,show sS 0=0 from rfl]; grind) (over_ab rfl fun n=>(sg_ab n).1) (geo_q (q:=1 / 5) (by decide +kernel) (by decide +kernel)) (x:=ofQ (1 / 5)) (by rw [ab_of (ofQ_le.2 (by decide +kernel))]; exact rle_refl _) k
   rw [← ofQ_mul] at q
   exact rle_trans q (ofQ_le.2 (by decide +kernel)))
  (by rw [hed]; grind) (M:=-46000) (by omega) (by omega)
 rw [hed] at h
 have hA:onePi p 5 0=atanI p (recS p 5 0).1:=by
  unfold onePi atS
  have:(recS p 5 0).2=0:=h1.h.e
  rw [this,st_zero]
 rw [hA]
 exact h.mono (Int.le_refl _) (Int.le_refl _) (by grind)
theorem onePi_w239 {p:Nat} (hp:8≤p∧p≤200):HasW (onePi p 239 0) (A (ofQ (1 / 239))) (-46000) 0 ((9 / 2+((p / 2+4:Nat):Rat)*(9 / 4))*p2 (-(p:Int))):=by
 have L:=p2_lits
 obtain ⟨h1,h2⟩:=one_n (p:=p) (n:=239) (k:=8) (j:=7) (l:=-8) hp (by omega) (by omega) (by omega) (by rw [show (7:Int)=((7:Nat):Int) from rfl,p2_nat]; exact natCast_le (by omega)) (by omega) (by omega) (by rw [L.2.2.2.2.2.2.1,L.2.2.2.2.2.1]; decide +kernel)
 have hpos:=p2_pos (-(p:Int))
 have hN:=eps_N hp.1
 have he:=eps_le hp.1
 generalize hed:p2 (-(p:Int))=e at *
 have hb:(p+20-(-8 + -8-(p:Int)))*((p / 2+4:Nat):Int)≤436*104:=Int.mul_le_mul (by omega) (by omega) (by omega) (by omega)
 have h:=atan_w (p:=p) (by omega) (H:=-7) (Hq:=-14) (wt:=e / 4) (wp:=e / 4) (m:=1 / 4) h1.pair h2 (by omega) (by omega) (by omega) (by omega) (by rw [L.2.2.2.2.2.1]; grind) (by rw [p2_sub,hed,show (-7:Int) + -14 = -21 from rfl,show (-7:Int) + -7 = -14 from rfl,L.2.2.2.2.2.1,L.2.2.2.2.2.2.2.1,L.2.2.2.2.2.2.2.2]; grind) (by rw [p2_sub,hed,show (-7:Int)-1 = -8 from rfl,L.1,L.2.2.2.2.2.2.1]; grind)
  (fun k=>by
   have q:=Su_le (a:=atc) (by rw [atc,show sS 0=0 from rfl]; grind) (over_ab rfl fun n=>(sg_ab n).1) (geo_q (q:=1 / 239) (by decide +kernel) (by decide +kernel)) (x:=ofQ (1 / 239)) (by rw [ab_of (ofQ_le.2 (by decide +kernel))]; exact rle_refl _) k
   rw [← ofQ_mul] at q
   exact rle_trans q (ofQ_le.2 (by decide +kernel)))
  (by rw [hed]; grind) (M:=-46000) (by omega) (by omega)
 rw [hed] at h
 have hA:onePi p 239 0=atanI p (recS p 239 0).1:=by
  unfold onePi atS
  have:(recS p 239 0).2=0:=h1.h.e
  rw [this,st_zero]
 rw [hA]
 exact h.mono (Int.le_refl _) (Int.le_refl _) (by grind)
theorem ofQ_p2n (n:Nat):ofQ (p2 (n:Int))=((2 ^ n:Nat):R):=by rw [p2_nat]; rfl
theorem ofQ_16:ofQ (p2 4)=16:=by rw [show (4:Int)=((4:Nat):Int) from rfl,ofQ_p2n]; rfl
theorem ofQ_4:ofQ (p2 2)=4:=by rw [show (2:Int)=((2:Nat):Int) from rfl,ofQ_p2n]; rfl
theorem p2_up:p2 4=16∧p2 3=8∧p2 2=4∧p2 1=2:=by unfold p2; decide +kernel
theorem pi_abs:ab (An.hp+An.hp)≤ofQ (13 / 4):=by
 have h:=pi_near
 have h1:(0:R)≤An.hp+An.hp:=rle_trans (ofQ_le.2 (show (0:Rat)≤_ by decide +kernel)) h.1
 rw [ab_of h1]
 exact rle_trans h.2 (ofQ_le.2 (by decide +kernel))
theorem pi_w {p:Nat} (hp:8≤p∧p≤200):HasW (piS p 0) (An.hp+An.hp) (-46000) 3 ((106+((p / 2+4:Nat):Rat)*49)*p2 (-(p:Int))):=by
 have a:=onePi_w5 hp
 have b:=onePi_w239 hp
 have hpos:=p2_pos (-(p:Int))
 have hN:=eps_N hp.1
 have he:=eps_le hp.1
 have a4:=hw_scale (n:=4) a (by omega) (by omega)
 have b2:=hw_scale (n:=2) b (by omega) (by omega)
 have ea:(onePi p 5 0).2=0:=a.h.e
 have eb:(onePi p 239 0).2=0:=b.h.e
 have ea4:(scS (onePi p 5 0).1 4 0).2=0:=a4.h.e
 have eb2:(scS (onePi p 239 0).1 2 0).2=0:=b2.h.e
 have e:A (ofQ (1 / 5))*ofQ (p2 4)-A (ofQ (1 / 239))*ofQ (p2 2)=An.hp+An.hp:=by rw [ofQ_16,ofQ_4,An.hp]; grind
 rw [p2_up.1] at a4
 rw [p2_up.2.2.1] at b2
 have h:=hw_sub (p:=p) (m:=13 / 4) (K:=3) (a4.mono (L':=-46000) (H':=4) (by omega) (by omega) Rat.le_refl) (b2.mono (L':=-46000) (H':=4) (by omega) (by omega) Rat.le_refl) (by
  have q:=pi_abs
  rw [← e,p2_up.1,p2_up.2.2.1] at q
  exact q) (by rw [p2_up.2.1]; grind) (by omega) (by omega) (by omega)
 rw [p2_sub,p2_up.2.1] at h
 unfold piS
 rw [ea,eb,ea4,eb2]
 rw [p2_up.1,p2_up.2.2.1] at e
 exact (h.mono (Int.le_refl _) (Int.le_refl _) (by grind)).eq e
theorem ser_wk {p:Nat} (hp:1≤p) (next:Nat→I→Int→I × I × Int) (T P Su:Nat→R) {L0 c Q:Int} {Hh:Int} {wt wp m w0:Rat} (hc:0≤c) {N:Nat} (hS:∀ i,Su (i+1)=Su i+P (i+1)) (hwp:0≤wp)
  (hn:∀ i t,i<N→HasW (t,0) (T i) (L0-c*i) Hh wt→(next (i+1) t 0).2.2=0∧HasW ((next (i+1) t 0).1,0) (T (i+1)) (L0-c*(i+1:Nat)) Hh wt∧HasW ((next (i+1) t 0).2.1,0) (P (i+1)) (L0-c*(i+1:Nat)) Hh wp)
  (hSu:∀ i,ab (Su i)≤ofQ m) (hK:m+(w0+(N:Rat)*(wp+2*p2 (Q-(p:Int))))≤p2 Q) (hL : -60000≤L0-c*N) (hH:Hh≤Q) (hQ:Q≤59999) :
  ∀ (k i:Nat) (s t:I),i+k=N→HasW (s,0) (Su i) (L0-c*i) Q (w0+(i:Rat)*(wp+2*p2 (Q-(p:Int))))→HasW (t,0) (T i) (L0-c*i) Hh wt→HasW (serL p next k i s t 0) (Su N) (L0-c*N) Q (w0+(N:Rat)*(wp+2*p2 (Q-(p:Int)))):=by
 intro k
 induction k with
 | zero=>
  intro i s t hi hs _
  have:i=N:=by omega
  subst this
  exact hs
 | succ k ih=>
  intro i s t hi hs ht
  obtain ⟨n1,n2,n3⟩:=hn i t (by omega) ht
  have e1:=cmul_succ c i
  have m1:=cmul_le hc (show i+1≤N by omega)
  have hpp:=p2_pos (Q-(p:Int))
  have d1:=ncast_succ i (wp+2*p2 (Q-(p:Int)))
  have d2:=ncast_mul_le (show i+1≤N by omega) (show 0≤wp+2*p2 (Q-(p:Int)) by grind)
  have h1:=hw_add (p:=p) (K:=Q) (m:=m) (hs.mono (L':=L0-c*(i+1:Nat)) (H':=Q) (by omega) (by omega) Rat.le_refl) (n3.mono (Int.le_refl _) (H':=Q) (by omega) Rat.le_refl) (by rw [← hS i]; exact hSu _) (by grind) hp (by omega) (by omega)
  rw [serL,n1]
  have h2:=ih (i+1) _ _ (by omega) ((h1.mono (Int.le_refl _) (Int.le_refl _) (w':=w0+((i+1:Nat):Rat)*(wp+2*p2 (Q-(p:Int)))) (by grind)).eq (hS i).symm).pair n2
  rw [h1.h.e]; exact h2
theorem psum_two {a:Nat→R} (h:∀ n,ab (a n)≤1) {x:R} (hx:ab x≤hf) (k:Nat):ab (psum a x k)≤ofQ 2:=by
 have h1:=psum_tail (PB.one h) hf_geo (x:=x) (by have:=hf_pos; grind) 0 k
 have e1:psum a x 0=0:=rfl
 rw [e1,show 0+k=k by omega,rpow_zero] at h1
 have h2:psum a x k-0=psum a x k:=by grind
 rw [h2] at h1
 have h3:=pow_nonneg hf_geo.h0 k
 have h4:ofQ 2=(2:R):=rfl
 rw [h4]
 grind
theorem rf_one (n:Nat):ab (rf n)≤1:=rle_trans (rf_ab n) (rf_le n)
theorem hw_div_1 {r:I × Int} {x z:R} {L H:Int} {w:Rat} (ha:HasW r x L H w) {n k:Nat} (hk:k≤60) (h0:0<n) (hn:n≤2 ^ k) (hz:z*(n:R)=x) {p:Nat} (hp:1≤p) (hL : -60000≤L-k-p-2) (hH:H+2≤60000):HasW (dS p r.1 (iS (n:Int) 0).1 0) z (L-k-p-2) H (w+2*p2 (H-p)):=by
 have h:=hw_div_n ha hk h0 hn (j:=0) (by rw [p2_zero]; exact natCast_le (show 1≤n by omega)) hz hp hL hH
 rw [Int.sub_zero,Int.neg_zero,p2_zero,Rat.mul_one] at h
 exact h
theorem sq_lo {r:I × Int} {x:R} {L H l:Int} (hy:Has r x L H) (hl:p2 l≤val r.1.lo) {p:Nat} (hp:1≤p) (hL : -60000≤L+L) (hH:H+H≤60000):Has (mS p r.1 r.1 r.2) (x*x) (l+l-p) (H+H)∧p2 (l+l)≤val (mS p r.1 r.1 r.2).1.lo:=by
 rw [hy.e]
 have h:=has_mul hy.pair hy.pair hp hL hH
 obtain ⟨c,u,v,e,o,en,pr⟩:=mulI_ok hy.ok hy.ok hp hL hH
 have e':mS p r.1 r.1 0=(c,0):=by show st 0 zI (mulI p r.1 r.1)=_; rw [st_zero]; exact e
 rw [show (r.1,(0:Int)).1=r.1 from rfl,e'] at h
 rw [e']
 have hle:=hy.ok.le
 have hhi:p2 l≤val r.1.hi:=by grind
 have hp0:=p2_pos l
 have mm:∀ a b:Rat,p2 l≤a→p2 l≤b→p2 (l+l)≤a*b:=fun a b ha hb=>by
  rw [p2_add]
  have h1:=Rat.mul_le_mul_of_nonneg_right ha (Rat.le_of_lt hp0)
  have h2:=Rat.mul_le_mul_of_nonneg_left hb (show 0≤a by grind)
  grind
 have hu:p2 (l+l)≤u:=by rcases pr.mu with k | k | k | k<;>rw [k]<;>exact mm _ _ (by assumption) (by assumption)
 have b1:=en.blo _ (rep_p2 p (l+l)) hu
 have ol:=o.le
 exact ⟨⟨rfl,⟨⟨o.lo.w,rep_grid en.rlo b1,o.lo.b⟩,⟨o.hi.w,rep_grid en.rhi (by grind),o.hi.b⟩,o.le⟩,h.m⟩,b1⟩
theorem two_pow_succ (k m:Nat):2 ^ (k+1)*m=2 ^ k*(2*m):=by rw [Nat.pow_succ]; grind
theorem p2_R (k:Nat) (z:R):z*ofQ (p2 ((k+1:Nat):Int))=(z+z)*ofQ (p2 (k:Int)):=by
 rw [show ((k+1:Nat):Int)=(k:Int)+1 by omega,p2_add,ofQ_mul,show ofQ (p2 1)=(2:R) from rfl]; grind
theorem pow_has {p:Nat} (hp:1≤p∧p≤1000):∀ (k a b:Nat) (r:I × Int) (z:R) (L:Int),Has r (E z) L (b:Int)→p2 (-(a:Int))≤val r.1.lo→2 ^ k*a≤20000→2 ^ k*b≤20000→-30000≤L→∀ M:Int,M≤L→M ≤ -((2 ^ k*a:Nat):Int)-p→Has (powS p k r) (E (z*ofQ (p2 (k:Int)))) M ((2 ^ k*b:Nat):Int)∧p2 (-((2 ^ k*a:Nat):Int))≤val (powS p k r).1.lo:=by
 intro k
 induction k with
 | zero=>
  intro a b r z L h hl _ _ _ M h1 _
  rw [show (2:Nat) ^ 0*a=a by simp,show (2:Nat) ^ 0*b=b by simp]
  refine ⟨(h.mono h1 (Int.le_refl _)).eq ?_,hl⟩
  rw [show ((0:Nat):Int)=0 from rfl,p2_zero]
  show E z=E (z*1)
  rw [show z*1=z by grind]
 | succ k ih=>
  intro a b r z L h hl ha hb hL M h1 h2
  rw [two_pow_succ] at ha hb h2
  rw [two_pow_succ,two_pow_succ,p2_R]
  have k1:1*(2*a)≤2 ^ k*(2*a):=Nat.mul_le_mul_right _ (Nat.one_le_two_pow)
  have k2:1*(2*b)≤2 ^ k*(2*b):=Nat.mul_le_mul_right _ (Nat.one_le_two_pow)
  obtain ⟨s1,s2⟩:=sq_lo h hl (p:=p) (by omega) (by omega) (by omega)
  rw [powS]
  have s1':=s1.eq (E_add z z).symm
  rw [show -(a:Int) + -(a:Int) = -((2*a:Nat):Int) by omega] at s1' s2
  rw [show (b:Int)+(b:Int)=((2*b:Nat):Int) by omega] at s1'
  exact ih (2*a) (2*b) _ (z+z) _ s1' s2 ha hb (by omega) M (by omega) h2
theorem val_size (d:D):B (d.e+(blen d.m.natAbs:Nat)) (val d):=by
 have h1:=rep_bound (Nat.le_of_lt (blen_lt d.m.natAbs)) d.e
 have h5:(d.m:Rat)≤(d.m.natAbs:Rat)∧-(d.m.natAbs:Rat)≤(d.m:Rat):=by
  have e1:=intCast_le (show d.m≤(d.m.natAbs:Int) by omega)
  have e2:=intCast_le (show -(d.m.natAbs:Int)≤d.m by omega)
  rw [Rat.intCast_natCast] at e1
  rw [Rat.intCast_neg,Rat.intCast_natCast] at e2
  exact ⟨e1,e2⟩
 have hp:=p2_pos d.e
 have h6:=Rat.mul_le_mul_of_nonneg_right h5.1 (Rat.le_of_lt hp)
 have h7:=Rat.mul_le_mul_of_nonneg_right h5.2 (Rat.le_of_lt hp)
 show -_≤(d.m:Rat)*p2 d.e∧(d.m:Rat)*p2 d.e≤_
 exact ⟨by grind,by grind⟩
theorem okd_size {d:D} {L H:Int} (h:Okd d L H) (h0:d.m≠0):L≤d.e∧d.e+(blen d.m.natAbs:Nat)≤H+1:=⟨G_e h.w.odd0 h0 h.g,B_size h0 h.b⟩
theorem B_scale {K n M:Int} {x:Rat} (h:B K x) (hn:K+n≤M):B M (x*p2 n):=by
 have h2:=p2_le hn
 rw [p2_add] at h2
 have hp:=p2_pos n
 have h3:=Rat.mul_le_mul_of_nonneg_right h.1 (Rat.le_of_lt hp)
 have h4:=Rat.mul_le_mul_of_nonneg_right h.2 (Rat.le_of_lt hp)
 exact ⟨by grind,by grind⟩
theorem exN_le {d:D} {L H:Int} (h:Okd d L H) (hH:0≤H):(exN d:Int)≤H+4:=by
 unfold exN
 split
 ·omega
 ·rename_i h0
  have:=(okd_size h h0).2
  omega
theorem exN_B (d:D):B (-3) (val d*p2 (-(exN d:Int))):=by
 by_cases h0:d.m=0
 ·have:val d=0:=by show (d.m:Rat)*p2 d.e=0; rw [h0]; simp
  rw [this]; have:=p2_pos (-3); exact ⟨by grind,by grind⟩
 ·refine B_scale (val_size d) ?_
  unfold exN
  rw [if_neg h0]
  omega
theorem ex_small {d:D} {L H:Int} (h:Okd d L H) (hL : -1000≤L) (hH:0≤H∧H≤100):HasW (srS ⟨d,d⟩ (-(exN d:Int)) 0) (ofQ (val d*p2 (-(exN d:Int)))) (L-(exN d:Int)) (-3) 0:=by
 have hn:=exN_le h hH.1
 obtain ⟨c,e,o,e1,e2⟩:=scaleI_ok (a:=⟨d,d⟩) (n:=-(exN d:Int)) ⟨h,h,Rat.le_refl⟩ (by omega) (by omega)
 have hb:=exN_B d
 unfold srS
 rw [st_zero,scaleRI_in (by omega),e]
 have e1:val c.lo=val d*p2 (-(exN d:Int)):=e1
 have e2:val c.hi=val d*p2 (-(exN d:Int)):=e2
 refine ⟨⟨rfl,⟨⟨o.lo.w,o.lo.g,by rw [e1]; exact hb⟩,⟨o.hi.w,o.hi.g,by rw [e2]; exact hb⟩,o.le⟩,⟨by rw [e1]; exact rle_refl _,by rw [e2]; exact rle_refl _⟩⟩,?_⟩
 show val c.hi-val c.lo≤0
 rw [e1,e2]; grind
theorem val_pos_m {d:D} (h:0<val d):0<d.m:=by
 rcases Int.lt_or_le 0 d.m with k | k
 ·exact k
 ·have h1:(d.m:Rat)≤0:=by exact_mod_cast intCast_le k
  have:=Rat.mul_le_mul_of_nonneg_right h1 (Rat.le_of_lt (p2_pos d.e))
  have h2:(d.m:Rat)*p2 d.e≤0*p2 d.e:=this
  have h3:0<(d.m:Rat)*p2 d.e:=h
  grind
theorem pi_fine {p:Nat} (hp:20≤p∧p≤200):HasW (piS p 0) (An.hp+An.hp) (1-(p:Int)) 2 (p2 (13-(p:Int)))∧3≤val (piS p 0).1.lo:=by
 have h:=pi_w (p:=p) (by omega)
 have a:=onePi_w5 (p:=p) (by omega)
 have b:=onePi_w239 (p:=p) (by omega)
 have hpos:=p2_pos (-(p:Int))
 have q13:p2 (13-(p:Int))=8192*p2 (-(p:Int)):=by rw [show 13-(p:Int)=13 + -(p:Int) by omega,p2_add]; rfl
 have hNr:(((p / 2+4:Nat):Nat):Rat)≤104:=by exact_mod_cast natCast_le (show p / 2+4≤104 by omega)
 have hw:(106+((p / 2+4:Nat):Rat)*49)*p2 (-(p:Int))≤p2 (13-(p:Int)):=by
  rw [q13]
  generalize ((p / 2+4:Nat):Rat)=N at *
  have:=Rat.mul_le_mul_of_nonneg_right (show 106+N*49≤8192 by grind) (Rat.le_of_lt hpos)
  grind
 have h':=h.mono (Int.le_refl _) (Int.le_refl _) hw
 have p13:p2 (13-(p:Int))≤p2 (-7):=p2_le (by omega)
 have p13':p2 (-7)=1 / 128:=by decide +kernel
 have hww:=h'.w
 have hi:=h'.h.m.hi
 have hlo:=h'.h.m.lo
 have n1:314 / 100≤val (piS p 0).1.hi:=ofQ_le.1 (rle_trans (ofQ_le.2 (by decide +kernel)) (rle_trans pi_near.1 hi))
 have n2:val (piS p 0).1.lo≤315 / 100:=ofQ_le.1 (rle_trans hlo (rle_trans pi_near.2 (ofQ_le.2 (by decide +kernel))))
 rw [p13'] at p13
 have l3:3≤val (piS p 0).1.lo:=by grind
 have l4:val (piS p 0).1.hi≤4:=by grind
 have a4:=hw_scale (n:=4) a (by omega) (by omega)
 have b2:=hw_scale (n:=2) b (by omega) (by omega)
 have ea:(onePi p 5 0).2=0:=a.h.e
 have eb:(onePi p 239 0).2=0:=b.h.e
 have ea4:(scS (onePi p 5 0).1 4 0).2=0:=a4.h.e
 have eb2:(scS (onePi p 239 0).1 2 0).2=0:=b2.h.e
 have hneg:=(hw_neg b2).h
 obtain ⟨c,e,o,en⟩:=addI_ok (a4.h.mono (L':=-46000) (H':=4) (by omega) (by omega)).ok (hneg.mono (L':=-46000) (H':=4) (by omega) (by omega)).ok (p:=p) (by omega) (by omega) (by omega)
 have e':piS p 0=(c,0):=by
  unfold piS
  rw [ea,eb,ea4,eb2]
  unfold suS subI
  rw [st_zero]
  exact e
 rw [e'] at h' l3 l4 ⊢
 have hle:=h'.h.ok.le
 refine ⟨⟨⟨rfl,⟨⟨h'.h.ok.lo.w,rep_grid en.rlo (l:=1) ?_,?_⟩,⟨h'.h.ok.hi.w,rep_grid en.rhi (l:=1) ?_,?_⟩,hle⟩,h'.h.m⟩,h'.w⟩,l3⟩
 ·rw [p2_up.2.2.2]; show 2≤val c.lo; grind
 ·unfold B; rw [p2_up.2.2.1]; exact ⟨by grind,by grind⟩
 ·rw [p2_up.2.2.2]; show 2≤val c.hi; grind
 ·unfold B; rw [p2_up.2.2.1]; exact ⟨by grind,by grind⟩
theorem flD_val (d:D):(flD d:Rat)≤val d∧val d<(flD d:Rat)+1:=by
 unfold flD
 show _≤(d.m:Rat)*p2 d.e∧(d.m:Rat)*p2 d.e<_
 by_cases h:0≤d.e
 ·rw [if_pos h]
  have e:((d.m*2 ^ d.e.toNat:Int):Rat)=(d.m:Rat)*p2 d.e:=by
   have:=p2_nat d.e.toNat
   rw [Int.toNat_of_nonneg h] at this
   rw [Rat.intCast_mul,this]
   congr 1
  rw [e]
  exact ⟨Rat.le_refl,by grind⟩
 ·rw [if_neg h]
  have hp:=p2_pos d.e
  have hk:(0:Int)<2 ^ (-d.e).toNat:=Int.pow_pos (by decide)
  have e:p2 d.e*((2 ^ (-d.e).toNat:Int):Rat)=1:=by
   have h1:=p2_nat (-d.e).toNat
   rw [Int.toNat_of_nonneg (by omega)] at h1
   have h2:((2 ^ (-d.e).toNat:Int):Rat)=p2 (-d.e):=by rw [h1]; rfl
   rw [h2,← p2_add,show d.e + -d.e=0 by omega,p2_zero]
  generalize (2 ^ (-d.e).toNat:Int)=z at *
  generalize p2 d.e=t at *
  have h1:=Int.mul_ediv_add_emod d.m z
  have h2:=Int.emod_nonneg d.m (show z≠0 by omega)
  have h3:=Int.emod_lt_of_pos d.m hk
  have g1:((d.m / z:Int):Rat)*(z:Rat)≤(d.m:Rat):=by
   have:=intCast_le (show d.m / z*z≤d.m by rw [Int.mul_comm]; omega)
   rwa [Rat.intCast_mul] at this
  have g2:(d.m:Rat)<((d.m / z:Int):Rat)*(z:Rat)+(z:Rat):=by
   have:=intCast_lt (show d.m<d.m / z*z+z by rw [Int.mul_comm]; omega)
   rwa [Rat.intCast_add,Rat.intCast_mul] at this
  clear h1 h2 h3
  generalize ((d.m / z:Int):Rat)=q at *
  generalize (d.m:Rat)=m at *
  generalize (z:Rat)=z at *
  have e5:q*z*t=q:=by rw [Rat.mul_assoc,Rat.mul_comm z t,e,Rat.mul_one]
  constructor
  ·have:=Rat.mul_le_mul_of_nonneg_right g1 (Rat.le_of_lt hp)
   rwa [e5] at this
  ·have:=Rat.mul_lt_mul_of_pos_right g2 hp
   rwa [Rat.add_mul,e5,Rat.mul_comm z t,e] at this
theorem lnK_val {d:D} (h0:0<d.m):1≤val d*p2 (-lnK d)∧val d*p2 (-lnK d)<2∧val d*p2 (-lnK d)=(d.m:Rat)*p2 (1-(blen d.m.natAbs:Nat)):=by
 have e:val d*p2 (-lnK d)=(d.m:Rat)*p2 (1-(blen d.m.natAbs:Nat)):=by
  show (d.m:Rat)*p2 d.e*p2 (-lnK d)=_
  rw [Rat.mul_assoc,← p2_add]
  congr 2
  unfold lnK; omega
 have hn:d.m.natAbs≠0:=by omega
 have b1:=blen_le hn
 have b2:=blen_lt d.m.natAbs
 have bp:=blen_pos hn
 have hp:=p2_pos (1-((blen d.m.natAbs:Nat):Int))
 have c1:((2 ^ (blen d.m.natAbs-1):Nat):Rat)≤(d.m:Rat):=by
  have:=intCast_le (show ((2 ^ (blen d.m.natAbs-1):Nat):Int)≤d.m by omega)
  rwa [Rat.intCast_natCast] at this
 have c2:(d.m:Rat)<((2 ^ blen d.m.natAbs:Nat):Rat):=by
  have:=intCast_lt (show d.m<((2 ^ blen d.m.natAbs:Nat):Int) by omega)
  rwa [Rat.intCast_natCast] at this
 have f1:p2 ((blen d.m.natAbs-1:Nat):Int)*p2 (1-(blen d.m.natAbs:Nat))=1:=by
  rw [← p2_add,show ((blen d.m.natAbs-1:Nat):Int)+(1-((blen d.m.natAbs:Nat):Int))=0 by omega,p2_zero]
 have f2:p2 ((blen d.m.natAbs:Nat):Int)*p2 (1-(blen d.m.natAbs:Nat))=2:=by
  rw [← p2_add,show ((blen d.m.natAbs:Nat):Int)+(1-((blen d.m.natAbs:Nat):Int))=1 by omega]; rfl
 rw [p2_nat] at f1 f2
 have g1:=Rat.mul_le_mul_of_nonneg_right c1 (Rat.le_of_lt hp)
 have g2:=Rat.mul_lt_mul_of_pos_right c2 hp
 rw [f1] at g1
 rw [f2] at g2
 rw [e]
 exact ⟨g1,g2,rfl⟩
theorem okd_abs {d:D} {L H:Int} (h:Okd d L H):Okd (absD d) L H∧(val (absD d)=val d∨val (absD d) = -val d):=by
 rcases Int.lt_or_le d.m 0 with k | k
 ·rw [← neg_abs k]; exact ⟨h.neg,Or.inr (val_neg d)⟩
 ·rw [← pos_abs (show ¬d.m<0 by omega)]; exact ⟨h,Or.inl rfl⟩
theorem lnK_pow {d:D} (h0:0<d.m):p2 (lnK d)≤val d∧val d<p2 (lnK d+1):=by
 obtain ⟨v1,v2,-⟩:=lnK_val h0
 have hp:=p2_pos (lnK d)
 have v0:val d*p2 (-lnK d)*p2 (lnK d)=val d:=by
  have:=p2_back (-lnK d) (val d)
  rwa [Int.neg_neg] at this
 have g1:=Rat.mul_le_mul_of_nonneg_right v1 (Rat.le_of_lt hp)
 have g2:=Rat.mul_lt_mul_of_pos_right v2 hp
 rw [v0] at g1 g2
 rw [p2_add,show p2 1=2 from rfl]
 exact ⟨by grind,by grind⟩
theorem rel_alg {a b δ ε x y:Rat} (ha:0<a) (hab:a≤b) (hd:0≤δ) (hd8:δ≤1 / 8) (he:0≤ε) (he2:16*ε≤δ) (h1:b≤a*(1+δ)) (hx:a*a*(1-ε)≤x) (hy:y≤b*b*(1+ε)):y≤x*(1+3*δ):=by
 have k1:b*b≤(a*(1+δ))*(a*(1+δ)):=by
  have m1:=Rat.mul_le_mul_of_nonneg_right h1 (show 0≤b by grind)
  have m2:=Rat.mul_le_mul_of_nonneg_left h1 (show 0≤a*(1+δ) by have:=Rat.mul_nonneg (Rat.le_of_lt ha) (show 0≤1+δ by grind); exact this)
  grind
 have k2:=Rat.mul_le_mul_of_nonneg_right k1 (show 0≤1+ε by grind)
 have k3:=Rat.mul_le_mul_of_nonneg_right hx (show 0≤1+3*δ by grind)
 have haa:0≤a*a:=Rat.mul_nonneg (Rat.le_of_lt ha) (Rat.le_of_lt ha)
 have d2:=Rat.mul_le_mul_of_nonneg_left hd8 hd
 have e2:=Rat.mul_le_mul_of_nonneg_left (show (1+δ)*(1+δ)+1+3*δ≤3 by grind) he
 have key:(1+δ)*(1+δ)*(1+ε)≤(1-ε)*(1+3*δ):=by grind
 have k4:=Rat.mul_le_mul_of_nonneg_left key haa
 have f1:(a*(1+δ))*(a*(1+δ))*(1+ε)=a*a*((1+δ)*(1+δ)*(1+ε)):=by grind
 have f2:a*a*(1-ε)*(1+3*δ)=a*a*((1-ε)*(1+3*δ)):=by grind
 rw [f1] at k2
 rw [f2] at k3
 grind
theorem sq_rel {r:I × Int} {x:R} {L H:Int} {δ:Rat} (hy:Has r x L H) (hl:0<val r.1.lo) {p:Nat} (hp:1≤p) (hL : -60000≤L+L) (hH:H+H≤60000) (hd8:δ≤1 / 8) (he:16*p2 (2-(p:Int))≤δ) (h1:val r.1.hi≤val r.1.lo*(1+δ)):val (mS p r.1 r.1 r.2).1.hi≤val (mS p r.1 r.1 r.2).1.lo*(1+3*δ):=by
 rw [hy.e]
 obtain ⟨c,u,v,e,o,en,pr⟩:=mulI_ok hy.ok hy.ok hp hL hH
 have e':mS p r.1 r.1 0=(c,0):=by show st 0 zI (mulI p r.1 r.1)=_; rw [st_zero]; exact e
 rw [e']
 show val c.hi≤val c.lo*(1+3*δ)
 have hle:=hy.ok.le
 have hhi:0<val r.1.hi:=by grind
 have mu:=pr.mu
 have mv:=pr.mv
 have pe:=p2_pos (2-(p:Int))
 obtain ⟨a1,a2⟩:=lnK_pow (val_pos_m hl)
 obtain ⟨b1,b2⟩:=lnK_pow (val_pos_m hhi)
 generalize lnK r.1.lo=k at *
 generalize lnK r.1.hi=j at *
 generalize val r.1.lo=a at *
 generalize val r.1.hi=b at *
 have mm:∀ s t:Rat,a≤s→a≤t→s≤b→t≤b→a*a≤s*t∧s*t≤b*b:=fun s t h1 h2 h3 h4=>by
  have m1:=Rat.mul_le_mul_of_nonneg_right h1 (Rat.le_of_lt hl)
  have m2:=Rat.mul_le_mul_of_nonneg_left h2 (show 0≤s by grind)
  have m3:=Rat.mul_le_mul_of_nonneg_right h3 (show 0≤t by grind)
  have m4:=Rat.mul_le_mul_of_nonneg_left h4 (show 0≤b by grind)
  exact ⟨by grind,by grind⟩
 have hu:a*a≤u:=by rcases mu with q | q | q | q<;>rw [q]<;>exact (mm _ _ (by first | exact Rat.le_refl | exact hle) (by first | exact Rat.le_refl | exact hle) (by first | exact Rat.le_refl | exact hle) (by first | exact Rat.le_refl | exact hle)).1
 have hv:v≤b*b:=by rcases mv with q | q | q | q<;>rw [q]<;>exact (mm _ _ (by first | exact Rat.le_refl | exact hle) (by first | exact Rat.le_refl | exact hle) (by first | exact Rat.le_refl | exact hle) (by first | exact Rat.le_refl | exact hle)).2
 have pk:=p2_pos k
 have pj:=p2_pos j
 have sqb:∀ (k:Int) (a:Rat),0<p2 k→p2 k≤a→a<p2 (k+1)→B (k+k+2) (a*a)∧p2 (k+k+2-(p:Int))≤a*a*p2 (2-(p:Int)):=by
  intro k a h0 h1 h2
  have q1:p2 (k+1)=2*p2 k:=by rw [Int.add_comm,p2_add]; rfl
  have q2:p2 (k+k+2)=4*(p2 k*p2 k):=by rw [p2_add,p2_add,show p2 2=4 from rfl]; grind
  have q3:p2 (k+k+2-(p:Int))=p2 k*p2 k*p2 (2-(p:Int)):=by rw [show k+k+2-(p:Int)=k+k+(2-(p:Int)) by omega,p2_add,p2_add]
  have m1:=Rat.mul_le_mul_of_nonneg_right h1 (Rat.le_of_lt h0)
  have m2:=Rat.mul_le_mul_of_nonneg_left h1 (show 0≤a by grind)
  have m3:=Rat.mul_le_mul_of_nonneg_right (Rat.le_of_lt h2) (show 0≤a by grind)
  have m4:=Rat.mul_le_mul_of_nonneg_left (Rat.le_of_lt h2) (show 0≤p2 (k+1) by grind)
  rw [q1] at m3 m4
  have m5:=Rat.mul_le_mul_of_nonneg_right (show p2 k*p2 k≤a*a by grind) (Rat.le_of_lt pe)
  refine ⟨⟨by rw [q2]; grind,by rw [q2]; grind⟩,by rw [q3]; exact m5⟩
 obtain ⟨ba,ra⟩:=sqb k a pk a1 a2
 obtain ⟨bb,rb⟩:=sqb j b pj b1 b2
 obtain ⟨q,r1,q1,q2⟩:=rep_below (p:=p) ba
 obtain ⟨t,r2,t1,t2⟩:=rep_below (p:=p) bb.neg
 have c1:=en.blo q r1 (by grind)
 have c2:=en.bhi (-t) (rep_neg r2) (by grind)
 exact rel_alg hl hle (by grind) hd8 (Rat.le_of_lt pe) he h1 (by grind) (by grind)
theorem pow_rel {p:Nat} (hp:1≤p∧p≤1000):∀ (k a b:Nat) (r:I × Int) (z:R) (L:Int) (δ:Rat),Has r (E z) L (b:Int)→p2 (-(a:Int))≤val r.1.lo→2 ^ k*a≤20000→2 ^ k*b≤20000→-30000≤L→16*p2 (2-(p:Int))≤δ→((3 ^ k:Nat):Rat)*δ≤1 / 8→val r.1.hi≤val r.1.lo*(1+δ)→val (powS p k r).1.hi≤val (powS p k r).1.lo*(1+((3 ^ k:Nat):Rat)*δ):=by
 intro k
 induction k with
 | zero=>
  intro a b r z L δ h hl _ _ _ _ _ h1
  rw [show ((3 ^ 0:Nat):Rat)=1 from rfl,Rat.one_mul]
  exact h1
 | succ k ih=>
  intro a b r z L δ h hl ha hb hL he hk h1
  rw [two_pow_succ] at ha hb
  have k1:1*(2*a)≤2 ^ k*(2*a):=Nat.mul_le_mul_right _ (Nat.one_le_two_pow)
  have k2:1*(2*b)≤2 ^ k*(2*b):=Nat.mul_le_mul_right _ (Nat.one_le_two_pow)
  have pe:=p2_pos (2-(p:Int))
  have e3:((3 ^ (k+1):Nat):Rat)*δ=((3 ^ k:Nat):Rat)*(3*δ):=by
   rw [Nat.pow_succ,Rat.natCast_mul,Rat.mul_assoc]; rfl
  have h3:(1:Rat)≤((3 ^ k:Nat):Rat):=natCast_le (Nat.one_le_pow _ _ (by decide))
  rw [e3] at hk ⊢
  have h4:=Rat.mul_le_mul_of_nonneg_right h3 (show 0≤3*δ by grind)
  obtain ⟨s1,s2⟩:=sq_lo h hl (p:=p) (by omega) (by omega) (by omega)
  have hl0:0<val r.1.lo:=by have:=p2_pos (-(a:Int)); grind
  have s3:=sq_rel h hl0 (p:=p) (δ:=δ) (by omega) (by omega) (by omega) (by grind) he h1
  rw [powS]
  have s1':=s1.eq (E_add z z).symm
  rw [show -(a:Int) + -(a:Int) = -((2*a:Nat):Int) by omega] at s1' s2
  rw [show (b:Int)+(b:Int)=((2*b:Nat):Int) by omega] at s1'
  exact ih (2*a) (2*b) _ (z+z) _ (3*δ) s1' s2 ha hb (by omega) (by grind) hk s3
def Far (l:Int) (x:Rat):Prop:=x=0∨p2 l≤x∨x ≤ -p2 l
theorem Far.neg {l:Int} {x:Rat} (h:Far l x):Far l (-x):=by
 rcases h with h | h | h
 ·left; grind
 ·right; right; grind
 ·right; left; grind
theorem Far.pos_mul {l m:Int} {x y:Rat} (h:p2 l≤x) (k:Far m y):Far (l+m) (x*y):=by
 have hl:=p2_pos l
 have hm:=p2_pos m
 rw [Far,p2_add]
 rcases k with k | k | k
 ·left; rw [k]; grind
 ·right; left
  have a:=Rat.mul_le_mul_of_nonneg_right h (Rat.le_of_lt hm)
  have b:=Rat.mul_le_mul_of_nonneg_left k (show 0≤x by grind)
  grind
 ·right; right
  have a:=Rat.mul_le_mul_of_nonneg_right h (Rat.le_of_lt hm)
  have b:=Rat.mul_le_mul_of_nonneg_left (show p2 m ≤ -y by grind) (show 0≤x by grind)
  grind
theorem Far.mul {l m:Int} {x y:Rat} (h:Far l x) (k:Far m y):Far (l+m) (x*y):=by
 rcases h with h | h | h
 ·left; rw [h]; grind
 ·exact Far.pos_mul h k
 ·have:=(Far.pos_mul (show p2 l ≤ -x by grind) k).neg
  rwa [show -(-x*y)=x*y by grind] at this
structure HasF (r:I × Int) (x:R) (l:Int) (p:Nat) (H:Int):Prop where
 h:Has r x (l-p) H
 lo:Far l (val r.1.lo)
 hi:Far l (val r.1.hi)
theorem HasF.pair {r:I × Int} {x:R} {l H:Int} {p:Nat} (h:HasF r x l p H):HasF (r.1,0) x l p H:=⟨h.h.pair,h.lo,h.hi⟩
theorem HasF.eq {r:I × Int} {x y:R} {l H:Int} {p:Nat} (h:HasF r x l p H) (e:x=y):HasF r y l p H:=e ▸ h
theorem Far.mono {l m:Int} {x:Rat} (h:Far l x) (k:m≤l):Far m x:=by
 have:=p2_le k
 rcases h with h | h | h
 ·exact Or.inl h
 ·right; left; grind
 ·right; right; grind
theorem HasF.mono {r:I × Int} {x:R} {l m H K:Int} {p:Nat} (h:HasF r x l p H) (k:m≤l) (hH:H≤K):HasF r x m p K:=⟨h.h.mono (by omega) hH,h.lo.mono k,h.hi.mono k⟩
theorem Far.div {l:Int} {x t:Rat} (h:Far l x) (h0:0<t) (h4:t≤4):Far (l-2) (x / t):=by
 have e:p2 l=p2 (l-2)*4:=by rw [show l=(l-2)+2 by omega,p2_add,show l-2+2-2=l-2 by omega]; rfl
 have hl:=p2_pos (l-2)
 have hm:x / t*t=x:=mul_of_div (by grind)
 generalize x / t=q at *
 rcases h with h | h | h
 ·left
  rw [h] at hm
  rcases Rat.le_total (a:=0) (b:=q) with k | k
  ·rcases Classical.em (q=0) with z | z
   ·exact z
   ·have:=Rat.mul_pos (show 0<q by grind) h0; grind
  ·rcases Classical.em (q=0) with z | z
   ·exact z
   ·have:=Rat.mul_pos (show 0 < -q by grind) h0; grind
 ·right; left
  rcases Rat.le_total (a:=q) (b:=0) with k | k
  ·have:=Rat.mul_nonneg (show 0 ≤ -q by grind) (Rat.le_of_lt h0); grind
  ·have:=Rat.mul_le_mul_of_nonneg_left h4 k; grind
 ·right; right
  rcases Rat.le_total (a:=0) (b:=q) with k | k
  ·have:=Rat.mul_nonneg k (Rat.le_of_lt h0); grind
  ·have:=Rat.mul_le_mul_of_nonneg_left h4 (show 0 ≤ -q by grind); grind
theorem enc_relL {p:Nat} {c:I} {u v:Rat} (en:Enc p c u v) {s:Int} (h1:p2 s≤u) (h2:u≤p2 (s+2)):u*(1-p2 (2-(p:Int)))≤val c.lo:=by
 have hs:=p2_pos s
 obtain ⟨q,r,q1,q2⟩:=rep_below (p:=p) (s:=s+2) (u:=u) ⟨by have:=p2_pos (s+2); grind,h2⟩
 have b:=en.blo q r q1
 have e:p2 (s+2-(p:Int))=p2 s*p2 (2-(p:Int)):=by rw [show s+2-(p:Int)=s+(2-(p:Int)) by omega,p2_add]
 have:=Rat.mul_le_mul_of_nonneg_right h1 (Rat.le_of_lt (p2_pos (2-(p:Int))))
 grind
theorem enc_relH {p:Nat} {c:I} {u v:Rat} (en:Enc p c u v) {s:Int} (h1:p2 s≤v) (h2:v≤p2 (s+2)):val c.hi≤v*(1+p2 (2-(p:Int))):=by
 have hs:=p2_pos s
 obtain ⟨q,r,q1,q2⟩:=rep_below (p:=p) (s:=s+2) (u:=-v) ⟨by grind,by have:=p2_pos (s+2); grind⟩
 have b:=en.bhi (-q) (rep_neg r) (by grind)
 have e:p2 (s+2-(p:Int))=p2 s*p2 (2-(p:Int)):=by rw [show s+2-(p:Int)=s+(2-(p:Int)) by omega,p2_add]
 have:=Rat.mul_le_mul_of_nonneg_right h1 (Rat.le_of_lt (p2_pos (2-(p:Int))))
 grind
structure Rel (c:I) (α:Rat):Prop where
 pos:0<val c.lo
 le:val c.lo≤val c.hi
 rel:val c.hi≤val c.lo*(1+α)
theorem rel_alg1 {L M α ε:Rat} (hL:0≤L) (h:L*(1-ε)≤M) (hα:0≤α) (hα2:α≤1) (hε:0≤ε) (hε2:ε≤1 / 64):L*(1+α)*(1+ε)≤M*(1+(α+8*ε)):=by
 have key:(1+α)*(1+ε)≤(1-ε)*(1+(α+8*ε)):=by
  have b1:ε*α≤ε*1:=Rat.mul_le_mul_of_nonneg_left hα2 hε
  have b2:ε*ε≤(1 / 64)*ε:=Rat.mul_le_mul_of_nonneg_right hε2 hε
  grind
 have k1:=Rat.mul_le_mul_of_nonneg_left key hL
 have k2:=Rat.mul_le_mul_of_nonneg_right h (show 0≤1+(α+8*ε) by grind)
 grind
def al (ε:Rat):Nat→Rat
 | 0=>0
 | k+1=>2*(al ε k+8*ε)+8*ε
theorem ofQ_split {a b c:Rat} (h:a=b+c):ofQ a=ofQ b+ofQ c:=by rw [h,ofQ_add]
theorem done_zero {p:Nat} {a:I} {L H:Int} {x:R} (h:Has (a,0) x L H) (hp:1≤p) (hL : -60000≤L) (hH:H≤60000):∃ c,doneS p (a,0)=(c,0)∧Has (c,0) x L H∧rep p (val c.lo)∧rep p (val c.hi)∧∀ t:Rat,rep p t→t≤val a.lo→t≤val c.lo:=by
 obtain ⟨c,e,o,en⟩:=outI_ok h.ok hp hL hH
 have g:=has_out h hp hL hH
 have e':doneS p (a,0)=(c,0):=by unfold doneS; rw [st_zero]; exact e
 rw [show outI p a=(c,0) from e] at g
 exact ⟨c,e',g,en.rlo,en.rhi,en.blo⟩
theorem hf_q:hf=ofQ (1 / 2):=by
 have h:ofQ (p2 (-1))=hf:=by rw [p2_half]; rfl
 rw [← h,show p2 (-1)=1 / 2 by decide +kernel]
theorem E_up {x:R} (h0:0≤x) (h1:x≤hf):E x≤1+(x+x):=by
 have n:=E_neg x
 have g:=E_ge (-x)
 have hh:=hf_q
 have two:hf+hf=1:=by rw [hh,← ofQ_one]; exact (ofQ_split (by decide +kernel)).symm
 have h01:=rzero_lt_one
 have pz:0<1-x:=by
  have:(0:R)<hf:=by rw [hh,← ofQ_zero]; exact ofQ_lt.2 (by decide +kernel)
  grind
 refine cancel pz ?_
 have m:=rmul_le' g (show 0≤E x from by have:=E_pos x; grind)
 have k:=rmul_nonneg h0 (show 0≤1-(x+x) by grind)
 have e:(1+(x+x))*(1-x)=1+x*(1-(x+x)):=by grind
 have e1:E x*(1 + -x)=E x*(1-x):=by grind
 rw [e]
 grind
theorem done_of {p:Nat} {a c:I} (h:outI p a=(c,0)):doneS p (a,0)=(c,0):=by unfold doneS; rw [st_zero]; exact h
end Go.Proofs.YtjffljhmjdljeaaGreat.Gen
namespace Go.An
theorem hp_bounds:(1:R)<hp∧hp<2:=by
 have h:=pi_near
 have a:=ofQ_le.2 (show (3:Rat)≤31415926535897932384626433832794 / 10000000000000000000000000000000 by decide +kernel)
 have b:=ofQ_le.2 (show (31415926535897932384626433832796 / 10000000000000000000000000000000:Rat)≤16 / 5 by decide +kernel)
 have c:=ofQ_lt.2 (show (16 / 5:Rat)<4 by decide +kernel)
 have e3:ofQ 3=(1:R)+1+1:=by rw [← ofQ_one,← ofQ_add,← ofQ_add]; exact congrArg ofQ (by decide +kernel)
 have e4:ofQ 4=(1:R)+1+1+1:=by rw [← ofQ_one,← ofQ_add,← ofQ_add,← ofQ_add]; exact congrArg ofQ (by decide +kernel)
 have e2:(2:R)=1+1:=by grind
 have h01:=rzero_lt_one
 rw [e3] at a
 rw [e4] at c
 constructor<;>grind
theorem S_two (u:R):S (u+u)=2*(S u*C u):=by rw [S_add]; grind
theorem C_pos1 {u:R} (h:ab u<1):0<C u:=by
 have a:=C_size u
 have b:=sq_lt_one h
 grind
theorem S_pos2 {u:R} (h0:0<u) (h2:u<2):0<S u:=by
 obtain ⟨v,rfl⟩:=half_ex u
 have h01:=rzero_lt_one
 have v0:0<v:=by grind
 have v1:v<1:=by grind
 have a:=S_pos v0 v1
 have b:=C_pos1 (u:=v) (by rw [ab_of (by grind)]; exact v1)
 have m:=rmul_pos a b
 rw [S_two]
 grind
theorem C_pos {u:R} (h1 : -hp<u) (h2:u<hp):0<C u:=by
 have hb:=hp_bounds
 have key:∀ t:R,0≤t→t<hp→0<C t:=by
  intro t t0 t1
  have s:=S_pos2 (u:=hp-t) (by grind) (by grind)
  have e:S (hp-t)=C t:=by
   rw [show hp-t = -t+hp by grind,S_hp,(SC_neg t).2]
  rwa [e] at s
 rcases Classical.em (0≤u) with k | k
 ·exact key u k h2
 ·have:=key (-u) (by grind) (by grind)
  rwa [(SC_neg u).2] at this
theorem S_pos_pi {u:R} (h0:0<u) (h2:u<hp+hp):0<S u:=by
 obtain ⟨v,rfl⟩:=half_ex u
 have hb:=hp_bounds
 have h01:=rzero_lt_one
 have a:=S_pos2 (u:=v) (by grind) (by grind)
 have b:=C_pos (u:=v) (by grind) (by grind)
 have m:=rmul_pos a b
 rw [S_two]
 grind
structure Tan (x a:R):Prop where
 lo : -hp<a
 hi:a<hp
 t:S a=x*C a
theorem Tan.sub {x y a b:R} (h:Tan x a) (k:Tan y b):S (b-a)=(y-x)*(C a*C b):=by
 rw [show b-a=b + -a by grind,S_add,(SC_neg a).1,(SC_neg a).2,h.t,k.t]; grind
theorem Tan.lt {x y a b:R} (h:Tan x a) (k:Tan y b) (hab:a<b):x<y:=by
 have a1:=h.lo; have a2:=h.hi; have b1:=k.lo; have b2:=k.hi
 have s:=S_pos_pi (u:=b-a) (by grind) (by grind)
 rw [h.sub k] at s
 have c:=rmul_pos (C_pos a1 a2) (C_pos b1 b2)
 rcases Classical.em (x<y) with g | g
 ·exact g
 ·have:=rmul_nonneg (show 0≤x-y by grind) (show 0≤C a*C b by grind)
  grind
theorem Tan.mono {x y a b:R} (h:Tan x a) (k:Tan y b) (hxy:x≤y):a≤b:=by
 rcases Classical.em (a≤b) with g | g
 ·exact g
 ·have:=k.lt h (show b<a by grind); grind
theorem Tan.neg {x a:R} (h:Tan x a):Tan (-x) (-a):=by
 have a1:=h.lo; have a2:=h.hi
 refine ⟨by grind,by grind,?_⟩
 rw [(SC_neg a).1,(SC_neg a).2,h.t]; grind
end Go.An
namespace Go.Proofs.YtjffljhmjdljeaaGreat.Gen
open Go Go.Abs Go.Plain Go.An
theorem root_bits {N s p:Nat} (h:2*p+4≤blen N) (h2:N<(s+1)*(s+1)):p<blen s:=by
 have hN:N≠0:=by intro k; rw [k,blen_zero] at h; omega
 have a:=blen_le hN
 have b:2 ^ (2*p+3)≤2 ^ (blen N-1):=Nat.pow_le_pow_right (by decide) (by omega)
 have c:2 ^ (p+1)*2 ^ (p+1)≤2 ^ (2*p+3):=by
  rw [← Nat.pow_add]; exact Nat.pow_le_pow_right (by decide) (by omega)
 have d:2 ^ (p+1)<s+1:=by
  rcases Nat.lt_or_ge (2 ^ (p+1)) (s+1) with g | g
  ·exact g
  ·have:=Nat.mul_le_mul g g; omega
 have e:=blen_lt s
 have f:2 ^ (p+1)<2 ^ blen s∨2 ^ (p+1)=s:=by omega
 rcases f with f | f
 ·have:=(Nat.pow_lt_pow_iff_right (a:=2) (by decide)).1 f; omega
 ·have:2 ^ (p+1)<2 ^ blen s:=by omega
  have:=(Nat.pow_lt_pow_iff_right (a:=2) (by decide)).1 this; omega
theorem lt_of_sq {a b:Rat} (hb:0≤b) (h:a*a<b*b):a<b:=by
 rcases Classical.em (a<b) with g | g
 ·exact g
 ·have:=sq_mono hb (show b≤a by grind); grind
theorem sqrt_best {x:D} (hx0:0<x.m) {p:Nat} (hp:1≤p) (up:Bool) (h:(sqrtD x p up).2=0):(up=false→∀ q,rep p q→0≤q→q*q≤val x→q≤val (sqrtD x p up).1)∧(up=true→∀ q,rep p q→0≤q→val x≤q*q→val (sqrtD x p up).1≤q)∧rep p (val (sqrtD x p up).1):=by
 have hneg:¬x.m<0:=by omega
 unfold sqrtD at *
 rw [if_neg hneg,if_neg (by omega)] at h ⊢
 rw [tell_ok' h]
 have hX0:x.m.natAbs≠0:=by omega
 have hev:=rootK_even x p
 have hkk:2*p+4≤blen x.m.natAbs+rootK x p:=by unfold rootK; omega
 have hbN:=blen_shl hX0 (rootK x p)
 generalize rootK x p=k at *
 generalize hE:(x.e-(k:Int)) / 2=E
 have hE2:x.e=E+E+k:=by omega
 have hvx:((x.m.natAbs*2 ^ k:Nat):Rat)*(p2 E*p2 E)=val x:=by
  rw [val_abs_pos hneg,hE2,p2_split,p2_add,Rat.natCast_mul]; grind
 generalize x.m.natAbs*2 ^ k=N at *
 obtain ⟨s1,s2⟩:=isqrt_spec N
 have hbm:p<blen (isqrt N):=root_bits (by omega) s2
 generalize isqrt N=s at *
 have hpE:=p2_pos E
 have pp:=Rat.mul_pos hpE hpE
 have s0:(0:Rat)≤(s:Rat)*p2 E:=Rat.mul_nonneg (natCast_nonneg _) (Rat.le_of_lt hpE)
 have e1:((s+1:Nat):Rat)=(s:Rat)+1:=by push_cast; rfl
 have sN:((s:Rat)*p2 E)*((s:Rat)*p2 E)≤val x:=by
  have h1:((s*s:Nat):Rat)≤(N:Rat):=natCast_le s1
  have h2:=Rat.mul_le_mul_of_nonneg_right h1 (Rat.le_of_lt pp)
  rw [hvx,Rat.natCast_mul] at h2
  grind
 have sU:val x<(((s+1:Nat):Rat)*p2 E)*(((s+1:Nat):Rat)*p2 E):=by
  have h1:(N:Rat)<(((s+1)*(s+1):Nat):Rat):=natCast_lt s2
  have h2:=Rat.mul_lt_mul_of_pos_right h1 pp
  rw [hvx,Rat.natCast_mul] at h2
  grind
 have s1p:(0:Rat)≤((s+1:Nat):Rat)*p2 E:=Rat.mul_nonneg (natCast_nonneg _) (Rat.le_of_lt hpE)
 have mid:(s:Rat)*p2 E<((s+1:Nat):Rat)*p2 E:=by rw [e1]; grind
 have hrep:rep p (val (cutD false s E (N-s*s != 0) p up)):=⟨sg false (cutN s (N-s*s != 0) p up),E+(blen s-p:Nat),val_cut _ _ _ _ _ _,by rw [sg_abs']; exact cutN_le _ _ _ _⟩
 refine ⟨?_,?_,hrep⟩
 ·rintro rfl q hq q0 hqx
  rw [val_cut,sg_pos_cast]
  have qu:q<((s+1:Nat):Rat)*p2 E:=lt_of_sq s1p (by grind)
  cases hs:(N-s*s != 0) with
  | false=>
   have hN:N=s*s:=by
    have:N-s*s=0:=by simpa using hs
    omega
   have ex:val x=((s:Rat)*p2 E)*((s:Rat)*p2 E):=by
    rw [← hvx,hN,Rat.natCast_mul]; grind
   have ql:q≤(s:Rat)*p2 E:=sq_le q0 s0 (by grind)
   exact (cut_best (st:=false) hp hbm (Q:=(s:Rat)*p2 E) Rat.le_refl (fun _=>Rat.le_refl) mid (by simp)).1 q hq ql
  | true=>
   by_cases c:(s:Rat)*p2 E<q
   ·exact (cut_best (st:=true) hp hbm (Q:=q) (Rat.le_of_lt c) (by simp) qu (fun _=>c)).1 q hq Rat.le_refl
   ·exact (cut_best (st:=true) hp hbm (E:=E) (Q:=(s:Rat)*p2 E+p2 E / 2) (by grind) (by simp) (by rw [e1]; grind) (fun _=>by grind)).1 q hq (by grind)
 ·rintro rfl q hq q0 hqx
  rw [val_cut,sg_pos_cast]
  have ql:(s:Rat)*p2 E≤q:=sq_le s0 q0 (by grind)
  cases hs:(N-s*s != 0) with
  | false=>
   exact (cut_best (st:=false) hp hbm (Q:=(s:Rat)*p2 E) Rat.le_refl (fun _=>Rat.le_refl) mid (by simp)).2 q hq ql
  | true=>
   have hN:s*s<N:=by
    have:N-s*s≠0:=by simpa using hs
    omega
   have ex:((s:Rat)*p2 E)*((s:Rat)*p2 E)<val x:=by
    have h1:((s*s:Nat):Rat)<(N:Rat):=natCast_lt hN
    have h2:=Rat.mul_lt_mul_of_pos_right h1 pp
    rw [hvx,Rat.natCast_mul] at h2
    grind
   have qs:(s:Rat)*p2 E<q:=lt_of_sq q0 (by grind)
   by_cases c:q<((s+1:Nat):Rat)*p2 E
   ·exact (cut_best (st:=true) hp hbm (Q:=q) (Rat.le_of_lt qs) (by simp) c (fun _=>qs)).2 q hq Rat.le_refl
   ·exact (cut_best (st:=true) hp hbm (E:=E) (Q:=(s:Rat)*p2 E+p2 E / 2) (by grind) (by simp) (by rw [e1]; grind) (fun _=>by grind)).2 q hq (by rw [e1] at c; grind)
theorem root_arith {a b lo hi g:Rat} (h1:1≤a) (hab:a≤b) (g0:0≤g) (l0:0≤lo) (k1:a<(lo+2*g)*(lo+2*g)) (k2:0≤hi-2*g→(hi-2*g)*(hi-2*g)<b):hi-lo≤b-a+4*g:=by
 by_cases c:hi-2*g≤lo+2*g
 ·grind
 ·have X1:1≤lo+2*g:=sq_le (by decide) (by grind) (by grind)
  have k:=k2 (by grind)
  have m:=Rat.mul_le_mul_of_nonneg_left (show (1:Rat)≤(hi-2*g)+(lo+2*g) by grind) (show 0≤(hi-2*g)-(lo+2*g) by grind)
  grind
theorem hw_sqrt {a:I} {x s:R} {L H L' H' K:Int} {w:Rat} (ha:HasW (a,0) x L H w) (h1:1≤val a.lo) (hs:0≤s) (hsx:s*s=x) {p:Nat} (hp:1≤p) (hK:val a.hi≤p2 K*p2 K) (hK0:0≤K) (hL:2*L'+2*p+6≤L) (hH:H≤2*H') (hL' : -60000≤L') (hH':H'+2≤60000):∃ c,sqS p a 0=(c,0)∧Has (c,0) s L' (H'+2)∧1≤val c.lo∧val c.hi≤p2 K∧val c.hi-val c.lo≤w+4*p2 (K-(p:Int)):=by
 have hle:val a.lo≤val a.hi:=ha.h.ok.le
 have h:=has_sqrt ha.h (show 0≤val a.lo by grind) hs hsx hp hL hH hL' hH'
 obtain ⟨d,e1,o1,n1,d1,-⟩:=sqrt_ok ha.h.ok.lo (show 0≤val a.lo by grind) hp false hL hH hL' hH'
 obtain ⟨r,e2,o2,n2,-,d2⟩:=sqrt_ok ha.h.ok.hi (show 0≤val a.hi by grind) hp true hL hH hL' hH'
 have m1:0<a.lo.m:=val_pos_m (by grind)
 have m2:0<a.hi.m:=val_pos_m (by grind)
 have B1:=(sqrt_best m1 hp false (show (sqrtD a.lo p false).2=0 by rw [show sqrtD a.lo p false=(d,0) from e1])).1 rfl
 have B2:=(sqrt_best m2 hp true (show (sqrtD a.hi p true).2=0 by rw [show sqrtD a.hi p true=(r,0) from e2])).2.1 rfl
 rw [show sqrtD a.lo p false=(d,0) from e1] at B1
 rw [show sqrtD a.hi p true=(r,0) from e2] at B2
 have e:sqS p a 0=(⟨d,r⟩,0):=by
  unfold sqS sqrtI
  rw [st_zero,show sqrtD a.lo p false=(d,0) from e1,bindE_ok rfl,show sqrtD a.hi p true=(r,0) from e2,bindE_ok rfl]
 rw [show sqS p (a,(0:Int)).1 0=(⟨d,r⟩,0) from e] at h
 have one:p2 0=1:=p2_zero
 have lo1:1≤val d:=B1 1 (by have:=rep_p2 p 0; rwa [one] at this) (by decide) (by grind)
 have pK:=p2_pos K
 have hiK:val r≤p2 K:=B2 (p2 K) (rep_p2 p K) (Rat.le_of_lt pK) hK
 have g0:=p2_pos (K-(p:Int))
 refine ⟨_,e,h,lo1,hiK,?_⟩
 have hw:val a.hi-val a.lo≤w:=ha.w
 have k1:val a.lo<(val d+2*p2 (K-(p:Int)))*(val d+2*p2 (K-(p:Int))):=by
  by_cases c:val d+2*p2 (K-(p:Int))≤p2 K
  ·obtain ⟨q,rq,q1,q2⟩:=rep_below (p:=p) (s:=K) (u:=val d+2*p2 (K-(p:Int))) ⟨by grind,c⟩
   have q0:0≤q:=by grind
   have m:=sq_mono q0 q1
   by_cases t:q*q≤val a.lo
   ·have:=B1 q rq q0 t
    have:q≤val d:=this
    grind
   ·grind
  ·have m:=sq_mono (Rat.le_of_lt pK) (show p2 K≤val d+p2 (K-(p:Int))+p2 (K-(p:Int)) by grind)
   have m2:=sq_mono (show 0≤p2 K by grind) (show p2 K≤val d+2*p2 (K-(p:Int)) by grind)
   have c':p2 K<val d+2*p2 (K-(p:Int)):=by grind
   have m3:=Rat.mul_lt_mul_of_pos_right c' pK
   have m4:=Rat.mul_le_mul_of_nonneg_left (Rat.le_of_lt c') (show 0≤val d+2*p2 (K-(p:Int)) by grind)
   grind
 have k2:0≤val r-2*p2 (K-(p:Int))→(val r-2*p2 (K-(p:Int)))*(val r-2*p2 (K-(p:Int)))<val a.hi:=by
  intro c
  obtain ⟨q,rq,q1,q2⟩:=rep_below (p:=p) (s:=K) (u:=val r-p2 (K-(p:Int))) ⟨by grind,by grind⟩
  have q0:0≤q:=by grind
  have m:=sq_mono c (show val r-2*p2 (K-(p:Int))≤q by grind)
  by_cases t:val a.hi≤q*q
  ·have:val r≤q:=B2 q rq q0 t
   grind
  ·grind
 have f:=root_arith h1 hle (Rat.le_of_lt g0) (show 0≤val d by grind) k1 k2
 show val r-val d≤_
 grind
def NN (a:I):Prop:=0≤a.lo.m∧0≤a.hi.m
theorem nrm_nn {m:Int} (h:0≤m) (e:Int):0≤(nrm m e).m:=by
 unfold nrm
 split
 ·exact Int.le_refl _
 ·exact Int.ediv_nonneg h (Int.le_of_lt (Int.pow_pos (by decide)))
theorem tell_nn {d:D} (h:0≤d.m):0≤(tell d).1.m:=by
 unfold tell
 split
 ·exact h
 ·exact Int.le_refl _
theorem sg_nn (n:Nat):0≤sg false n:=by unfold sg; simp
theorem round_nn {x:D} (h:0≤x.m) (p:Nat) (up:Bool):0≤(roundD x p up).1.m:=by
 unfold roundD cutD
 rw [decide_eq_false (by omega)]
 exact tell_nn (nrm_nn (sg_nn _) _)
theorem times_nn {x y:D} (hx:0≤x.m) (hy:0≤y.m):0≤(timesD x y).1.m:=tell_nn (nrm_nn (Int.mul_nonneg hx hy) _)
theorem div_nn {x y:D} (hx:0≤x.m) (hy:0≤y.m) (p:Nat) (up:Bool):0≤(divD x y p up).1.m:=by
 unfold divD
 split
 ·exact Int.le_refl _
 ·split
  ·exact Int.le_refl _
  ·rw [show (decide (x.m<0) != decide (y.m<0))=false by rw [decide_eq_false (by omega),decide_eq_false (by omega)]; rfl]
   exact tell_nn (nrm_nn (sg_nn _) _)
theorem min_nn {x y:D} (hx:0≤x.m) (hy:0≤y.m):0≤(minD x y).m:=by unfold minD; split<;>assumption
theorem max_nn {x y:D} (hx:0≤x.m) (hy:0≤y.m):0≤(maxD x y).m:=by unfold maxD; split<;>assumption
theorem NN_z:NN zI:=⟨Int.le_refl _,Int.le_refl _⟩
theorem bind_nn {r:D × Int} {f:D→I × Int} (h:∀ d,(r.2=0→d=r.1)→NN (f r.1).1):NN (bindE r zI f).1:=by
 unfold bindE
 split
 ·exact h r.1 fun _=>rfl
 ·exact NN_z
theorem mul_nn {a b:I} (ha:NN a) (hb:NN b) (p:Nat):NN (mulI p a b).1:=by
 unfold mulI four4
 have h1:=times_nn ha.1 hb.1
 have h2:=times_nn ha.1 hb.2
 have h3:=times_nn ha.2 hb.1
 have h4:=times_nn ha.2 hb.2
 refine bind_nn fun _ _=>bind_nn fun _ _=>bind_nn fun _ _=>bind_nn fun _ _=>bind_nn fun _ _=>bind_nn fun _ _=>?_
 exact ⟨round_nn (min_nn (min_nn (min_nn h1 h2) h3) h4) _ _,round_nn (max_nn (max_nn (max_nn h1 h2) h3) h4) _ _⟩
theorem divI_nn {a b:I} (ha:NN a) (hb:NN b) (p:Nat):NN (divI p a b).1:=by
 unfold divI
 split
 ·exact NN_z
 ·unfold four4
  refine bind_nn fun _ _=>bind_nn fun _ _=>bind_nn fun _ _=>bind_nn fun _ _=>bind_nn fun _ _=>bind_nn fun _ _=>bind_nn fun _ _=>bind_nn fun _ _=>?_
  exact ⟨min_nn (min_nn (min_nn (div_nn ha.1 hb.1 _ _) (div_nn ha.1 hb.2 _ _)) (div_nn ha.2 hb.1 _ _)) (div_nn ha.2 hb.2 _ _),max_nn (max_nn (max_nn (div_nn ha.1 hb.1 _ _) (div_nn ha.1 hb.2 _ _)) (div_nn ha.2 hb.1 _ _)) (div_nn ha.2 hb.2 _ _)⟩
theorem scale_nn {x:D} (h:0≤x.m) (n:Int):0≤(scaleD x n).1.m:=by
 unfold scaleD
 split
 ·exact Int.le_refl _
 ·exact tell_nn h
theorem scaleI_nn {a:I} (ha:NN a) (n:Int):NN (scaleI a n).1:=by
 unfold scaleI
 exact bind_nn fun _ _=>bind_nn fun _ _=>⟨scale_nn ha.1 _,scale_nn ha.2 _⟩
theorem st_nn {r:I × Int} (h:NN r.1) (e:Int):NN (st e zI r).1:=by
 unfold st
 split
 ·exact h
 ·exact NN_z
theorem int_nn {n:Int} (h:0≤n):NN (intI n):=⟨nrm_nn h 0,nrm_nn h 0⟩
theorem val_nn {d:D} (h:0≤d.m):0≤val d:=by
 unfold val
 exact Rat.mul_nonneg (by exact_mod_cast h) (Rat.le_of_lt (p2_pos _))
def eN (w:Nat) (tw:I) (i:Nat) (t:I) (e:Int):I × Int:=
 dS w (mS w t tw e).1 (iS ((2*i+1:Nat):Int) (mS w t tw e).2).1 (iS ((2*i+1:Nat):Int) (mS w t tw e).2).2
def eL (w:Nat) (tw:I):Nat→Nat→I→I→Int→I × I × Int
 | 0,_,t,s,e=>(t,s,e)
 | k+1,i,t,s,e=>eL w tw k (i+1) (eN w tw i t e).1 (aS w s (eN w tw i t e).1 (eN w tw i t e).2).1 (aS w s (eN w tw i t e).1 (eN w tw i t e).2).2
theorem SI_eN {w:Nat} (hw:w≤400) (tw:I) {i:Nat} (hi:i≤1000) (t:I) (e:Int):SI (eN w tw i t e).1:=SI_dS hw _ (SI_iS (by omega) _) _
theorem eN_nn {w:Nat} {tw t:I} (h1:NN tw) (h2:NN t) (i:Nat) (e:Int):NN (eN w tw i t e).1:=by
 refine st_nn (divI_nn (st_nn (mul_nn h2 h1 w) _) (st_nn (r:=(intI _,0)) (int_nn (by omega)) _) w) _
theorem eL_ok {w:Nat} (hw:w≤400) {tw:I} (h1:NN tw):∀ (k i:Nat) (t s:I) (e:Int),i+k≤1000→SI t→SI s→NN t→SI (eL w tw k i t s e).1∧SI (eL w tw k i t s e).2.1∧NN (eL w tw k i t s e).1
 | 0,_,_,_,_,_,ht,hs,hn=>⟨ht,hs,hn⟩
 | k+1,i,t,s,e,hk,ht,hs,hn=>by
  have a1:=SI_eN hw tw (i:=i) (by omega) t e
  exact eL_ok hw h1 k (i+1) _ _ _ (by omega) a1 (SI_aS hw hs a1 _) (eN_nn h1 hn i e)
theorem wrap_odd {i:Nat} (h:i≤1000):IntKind.i64.wrap (IntKind.i64.wrap (2*(i:Int))+1)=((2*i+1:Nat):Int):=by
 rw [w64 (x:=2*(i:Int)) (by omega) (by omega),w64 (by omega) (by omega)]; omega
theorem erf_adv {w n:Nat} (hw:2≤w∧w≤400) {tw t:I} (htw:SI tw) (ht:SI t) {i:Nat} (hi:i≤900) (b:Int) (k:Nat) (S La:AI) (Fi:Bool) :
  ((cv_Mul (iv t) (iv tw) b (w:Int)).bind fun x1=>((cv_Int (IntKind.i64.wrap ((IntKind.i64.wrap (2*(i:Int)))+1)) x1.2 (w:Int)).bind fun x2=>((cv_Div x1.1 x2.1 x2.2 (w:Int)).bind fun x3=>erff_erf_l (w:Int) (n:Int) (iv tw) k (IntKind.i64.wrap ((i:Int)+1)) x3.1 x3.2 S La Fi))) =
   erff_erf_l (w:Int) (n:Int) (iv tw) k ((i+1:Nat):Int) (iv (eN w tw i t b).1) (eN w tw i t b).2 S La Fi:=by
 have e1:=pMul hw ht htw b
 have h1:=SI_mS hw.2 t tw b
 have hx:eN w tw i t b=dS w (mS w t tw b).1 (iS ((2*i+1:Nat):Int) (mS w t tw b).2).1 (iS ((2*i+1:Nat):Int) (mS w t tw b).2).2:=rfl
 generalize mS w t tw b=m at *
 have e2:=pInt (n:=((2*i+1:Nat):Int)) (by omega) m.2 (w:Int)
 have h2:=SI_iS (n:=((2*i+1:Nat):Int)) (by omega) m.2
 generalize iS ((2*i+1:Nat):Int) m.2=c at *
 have e3:=pDiv hw h1 h2 c.2
 rw [← hx] at e3
 generalize eN w tw i t b=g at *
 refine Eq.trans (congrArg (fun o=>Option.bind o _) e1) ?_
 simp only [obn]
 rw [wrap_odd (by omega)]
 refine Eq.trans (congrArg (fun o=>Option.bind o _) e2) ?_
 simp only [obn]
 refine Eq.trans (congrArg (fun o=>Option.bind o _) e3) ?_
 simp only [obn]
 rw [w64 (by omega) (by omega),show (i:Int)+1=((i+1:Nat):Int) by omega]
theorem erf_loop {w n:Nat} (hw:2≤w∧w≤400) (hn:n≤800) {tw:I} (htw:SI tw):∀ (k i:Nat) (last t s:I) (e:Int),i+k=n+1→SI t→SI s→∀ f,k<f→
  erff_erf_l (w:Int) (n:Int) (iv tw) f (i:Int) (iv t) e (iv s) (iv last) false =
   some ((eL w tw k i t (aS w s t e).1 (aS w s t e).2).2.2,iv (eL w tw k i t (aS w s t e).1 (aS w s t e).2).2.1,iv (eL w tw k i t (aS w s t e).1 (aS w s t e).2).1,false):=by
 intro k
 induction k with
 | zero=>
  intro i last t s e hi ht hs f hf
  obtain ⟨f,rfl⟩:∃ g,f=g+1:=⟨f-1,by omega⟩
  rw [erff_erf_l]
  unfold erff_erf_b
  rw [if_neg (by simp)]
  refine Eq.trans (congrArg (fun o=>Option.bind (Option.bind o _) _) (pAdd hw hs ht e)) ?_
  simp only [obn]
  rw [if_neg (by omega)]
  rfl
 | succ k ih=>
  intro i last t s e hi ht hs f hf
  obtain ⟨f,rfl⟩:∃ g,f=g+1:=⟨f-1,by omega⟩
  rw [erff_erf_l]
  unfold erff_erf_b
  rw [if_neg (by simp)]
  refine Eq.trans (congrArg (fun o=>Option.bind (Option.bind o _) _) (pAdd hw hs ht e)) ?_
  simp only [obn]
  rw [if_pos (by omega)]
  have ha:=SI_aS hw.2 hs ht e
  generalize aS w s t e=a at *
  refine (erf_adv hw htw ht (by omega) _ _ _ _ _).trans ?_
  exact ih (i+1) t _ a.1 _ (by omega) (SI_eN hw.2 tw (by omega) t a.2) ha f (by omega)
def eTw (w:Nat) (y:I × Int):I × Int:=scS (mS w y.1 y.1 y.2).1 1 (mS w y.1 y.1 y.2).2
def eF (w n:Nat) (y:I × Int):I × I × Int:=eL w (eTw w y).1 n 1 y.1 y.1 (eTw w y).2
theorem SI_eTw {w:Nat} (hw:w≤400) (y:I × Int):SI (eTw w y).1:=SI_sc (SI_mS hw _ _ _) _ _
theorem eTw_nn {w:Nat} {y:I × Int} (h:NN y.1):NN (eTw w y).1:=st_nn (scaleI_nn (st_nn (mul_nn h h w) _) 1) _
theorem pS_nn {d:D} (h:0≤d.m) (e:Int):NN (pS d e).1:=st_nn (r:=(⟨d,d⟩,0)) ⟨h,h⟩ e
theorem eF_ok {w n:Nat} (hw:w≤400) (hn:n≤800) {y:I × Int} (hy:SI y.1) (h:NN y.1):SI (eF w n y).1∧SI (eF w n y).2.1∧NN (eF w n y).1:=
 eL_ok hw (eTw_nn h) n 1 _ _ _ (by omega) hy hy h
theorem erf_series {w n:Nat} (hw:2≤w∧w≤400) (hn:1≤n∧n≤800) {y:D} (hy:WD y) (hb:blen y.m.natAbs≤1000) (S La:AI) :
  erff_erf_s (dy y) (n:Int) 0 (w:Int) S La true=some ((eF w n (pS y 0)).2.2,iv (eF w n (pS y 0)).2.1,iv (eF w n (pS y 0)).1,false):=by
 unfold erff_erf_s
 have e1:=pPS hy 0 (w:Int)
 have h1:=SI_pS hy hb 0
 generalize pS y 0=t at *
 refine Eq.trans (congrArg (fun o=>Option.bind o _) e1) ?_
 simp only [obn]
 refine Eq.trans (congrArg (fun o=>Option.bind o _) (pMul hw h1 h1 t.2)) ?_
 simp only [obn]
 refine Eq.trans (congrArg (fun o=>Option.bind o _) (pScale (SI_mS hw.2 t.1 t.1 t.2) (n:=1) (by omega) _ _)) ?_
 simp only [obn]
 show erff_erf_l (w:Int) (n:Int) (iv (eTw w t).1) fuel ((1:Nat):Int) (iv t.1) (eTw w t).2 S La true=_
 unfold eF
 have h2:=SI_eTw hw.2 t
 generalize eTw w t=u at *
 obtain ⟨f,hf⟩:=fuel_succ
 obtain ⟨k,rfl⟩:∃ k,n=k+1:=⟨n-1,by omega⟩
 rw [hf,erff_erf_l]
 unfold erff_erf_b
 rw [if_pos rfl]
 simp only [obn]
 rw [if_pos (by omega)]
 have key:=erf_adv (n:=k+1) (i:=1) hw h2 h1 (by omega) u.2 (f+1+1) (iv t.1) (iv t.1) false
 refine Eq.trans key ?_
 exact erf_loop hw (by omega) h2 k 2 t.1 _ t.1 _ (by omega) (SI_eN hw.2 u.1 (by omega) t.1 u.2) h1 (f+1+1) (by unfold fuel at hf; omega)
def eA (w:Nat) (neg:Bool) (L:I × I × Int) (bell:I):I × Int:=
 (fun a=>(fun b=>(fun c=>(fun r=>(fun q=>if neg=true then nS q.1 q.2 else q) (dS w c.1 r.1 r.2)) (rootS w c.2)) (mS w b.1 bell b.2)) (scS a.1 1 a.2)) (wS w L.2.1 L.1.hi L.2.2)
theorem SI_eA {w:Nat} (hw:w≤400) (neg:Bool) (L:I × I × Int) (bell:I):SI (eA w neg L bell).1:=by
 unfold eA
 have h:=SI_dS hw (mS w (scS (wS w L.2.1 L.1.hi L.2.2).1 1 (wS w L.2.1 L.1.hi L.2.2).2).1 bell (scS (wS w L.2.1 L.1.hi L.2.2).1 1 (wS w L.2.1 L.1.hi L.2.2).2).2).1 (SI_root hw (mS w (scS (wS w L.2.1 L.1.hi L.2.2).1 1 (wS w L.2.1 L.1.hi L.2.2).2).1 bell (scS (wS w L.2.1 L.1.hi L.2.2).1 1 (wS w L.2.1 L.1.hi L.2.2).2).2).2) (rootS w (mS w (scS (wS w L.2.1 L.1.hi L.2.2).1 1 (wS w L.2.1 L.1.hi L.2.2).2).1 bell (scS (wS w L.2.1 L.1.hi L.2.2).1 1 (wS w L.2.1 L.1.hi L.2.2).2).2).2).2
 dsimp only
 split
 ·exact SI_nS h _
 ·exact h
def fitE (d:D) (p:Int):Int:=if p<2∨200<p∨200<blen d.m.natAbs then 1 else if 0<cmpD d (fromD 6)∨cmpD d (fromD (-6))<0 then 4 else 0
theorem efits_eq {d:D} (hd:WD d) (p:Int):erff_fits (dy d) p=some (fitE d p):=by
 have c1:=dyad_Cmp_eq hd (WD_from (n:=6) (by omega))
 have c2:=dyad_Cmp_eq hd (WD_from (n:=-6) (by omega))
 have j1:erff_fits_j1 (dy d) false=some (if 0<cmpD d (fromD 6)∨cmpD d (fromD (-6))<0 then 4 else 0):=by
  unfold erff_fits_j1 erff_fits_j2
  rw [if_neg (by simp),dyad_From_eq (by omega)]
  simp only [obn]
  refine Eq.trans (congrArg (fun o=>Option.bind o _) c1) ?_
  simp only [obn]
  by_cases h1:0<cmpD d (fromD 6)
  ·rw [if_pos h1,if_pos True.intro,if_pos (Or.inl h1)]
  ·rw [if_neg h1,dyad_From_eq (by omega)]
   simp only [obn]
   refine Eq.trans (congrArg (fun o=>Option.bind o _) c2) ?_
   simp only [obn]
   by_cases h2:cmpD d (fromD (-6))<0
   ·rw [decide_eq_true h2,if_pos rfl,if_pos (Or.inr h2)]
   ·rw [decide_eq_false h2,if_neg (by simp),if_neg (by simp only [not_or]; exact ⟨h1,h2⟩)]
 have j0:erff_fits_j1 (dy d) true=some 1:=by unfold erff_fits_j1; rw [if_pos rfl]
 unfold erff_fits fitE
 by_cases h1:p<2
 ·rw [if_pos h1,j0,if_pos (Or.inl h1)]
 ·rw [if_neg h1]
  by_cases h2:p>200
  ·rw [if_pos h2,j0,if_pos (Or.inr (Or.inl h2))]
  ·rw [if_neg h2,dyad_Right_dy hd.1 hd.sz]
   simp only [obn]
   rw [if_neg (by simp),bits_dy hd.sz]
   simp only [obn]
   by_cases h3:200<blen d.m.natAbs
   ·rw [show decide ((blen d.m.natAbs:Int)>200)=true by simp; omega,j0,if_pos (Or.inr (Or.inr h3))]
   ·rw [show decide ((blen d.m.natAbs:Int)>200)=false by simp; omega,j1,if_neg (show ¬(p<2∨200<p∨200<blen d.m.natAbs) by omega)]
theorem fitE_ok {d:D} {p:Int} (h:fitE d p=0):2≤p∧p≤200∧blen d.m.natAbs≤200∧-6≤val d∧val d≤6:=by
 unfold fitE at h
 by_cases h1:p<2∨200<p∨200<blen d.m.natAbs
 ·rw [if_pos h1] at h; cases h
 ·rw [if_neg h1] at h
  by_cases h2:0<cmpD d (fromD 6)∨cmpD d (fromD (-6))<0
  ·rw [if_pos h2] at h; cases h
  ·simp only [not_or] at h1 h2
   have a:=mt (cmpD_gt d (fromD 6)).2 h2.1
   have b:=mt (cmpD_lt d (fromD (-6))).2 h2.2
   rw [val_from] at a b
   refine ⟨by omega,by omega,by omega,?_,?_⟩
   ·have:((-6:Int):Rat) = -6:=by decide +kernel
    grind
   ·have:((6:Int):Rat)=6:=by decide +kernel
    grind
def terK (d:D):Int:=(smallZ (floorS (timesD d d).1).1).1
def terR (d:D) (p:Int):Int × Int:=
 if (timesD d d).2≠0 then (0,(timesD d d).2) else if (floorS (timesD d d).1).2≠0 then (0,(floorS (timesD d d).1).2) else
  (IntKind.i64.wrap (IntKind.i64.wrap (IntKind.i64.wrap (4*IntKind.i64.wrap (terK d+1))+p)+40),0)
theorem eterms_eq {d:D} (hd:WD d) (p:Int):erff_terms (dy d) p=some (terR d p):=by
 unfold erff_terms terR terK
 have e1:=dyad_Mul_eq hd hd
 have w1:WD (timesD d d).1:=WD_times
 generalize timesD d d=t at *
 refine Eq.trans (congrArg (fun o=>Option.bind o _) e1) ?_
 simp only [obn]
 by_cases h1:t.2=0
 ·rw [if_neg (by simpa using h1),if_neg (by simpa using h1),eta_dy]
  have e2:=dyad_Floor_eq w1
  have s2:=floorS_sz w1
  generalize floorS t.1=f at *
  refine Eq.trans (congrArg (fun o=>Option.bind o _) e2) ?_
  simp only [obn]
  by_cases h2:f.2=0
  ·rw [if_neg (by simpa using h2),if_neg (by simpa using h2),zint_Small_eq s2]
   rfl
  ·rw [if_pos h2,if_pos h2]
 ·rw [if_pos h1,if_pos h1]
theorem terK_ok {d:D} (h : -6≤val d∧val d≤6) (h1:(timesD d d).2=0) (h2:(floorS (timesD d d).1).2=0):0≤terK d∧terK d≤36:=by
 have e1:(timesD d d).1=mulD d d:=by
  unfold timesD tell at h1 ⊢
  split
  ·rfl
  ·rename_i hx; rw [if_neg hx] at h1; cases h1
 have hv:0≤val (timesD d d).1∧val (timesD d d).1≤36:=by
  rw [e1,val_mul]
  have a:=h.1
  have b:=h.2
  constructor
  ·rcases (Rat.le_total:(0:Rat)≤val d∨val d≤0) with k | k
   ·exact Rat.mul_nonneg k k
   ·have:=Rat.mul_nonneg (show 0 ≤ -(val d) by grind) (show 0 ≤ -(val d) by grind)
    grind
  ·have:=Rat.mul_nonneg (show 0≤6-val d by grind) (show 0≤6+val d by grind)
   grind
 unfold terK
 generalize (timesD d d).1=t at *
 have hf:=flD_val t
 have e2:(floorS t).1=flD t:=by
  unfold floorS at h2 ⊢
  split
  ·rfl
  ·rename_i hx; rw [if_neg hx] at h2; cases h2
 rw [e2]
 have b1 : -1<flD t:=by
  have:((-1:Int):Rat)<(flD t:Rat):=by
   have:((-1:Int):Rat) = -1:=by decide +kernel
   grind
  exact_mod_cast this
 have b2:flD t≤36:=by
  have:(flD t:Rat)<((37:Int):Rat):=by
   have:((37:Int):Rat)=37:=by decide +kernel
   grind
  have:flD t<37:=by exact_mod_cast this
  omega
 unfold smallZ
 rw [if_pos (by omega)]
 exact ⟨by show 0≤flD t; omega,b2⟩
theorem terR_ok {d:D} {p:Int} (hp:2≤p∧p≤300) (h : -6≤val d∧val d≤6) (he:(terR d p).2=0):∃ n:Nat,(terR d p).1=(n:Int)∧46≤n∧n≤600∧terR d (p+64)=(((n+64:Nat):Int),0):=by
 unfold terR at *
 by_cases h1:(timesD d d).2=0
 ·rw [if_neg (by simpa using h1)] at *
  by_cases h2:(floorS (timesD d d).1).2=0
  ·rw [if_neg (by simpa using h2)] at *
   have hk:=terK_ok h h1 h2
   generalize terK d=k at *
   have e:∀ q:Int,2≤q→q≤400→IntKind.i64.wrap (IntKind.i64.wrap (IntKind.i64.wrap (4*IntKind.i64.wrap (k+1))+q)+40)=4*(k+1)+q+40:=fun q a b=>by
    rw [w64 (x:=k+1) (by omega) (by omega),w64 (x:=4*(k+1)) (by omega) (by omega),w64 (x:=4*(k+1)+q) (by omega) (by omega),w64 (by omega) (by omega)]
   refine ⟨(4*(k+1)+p+40).toNat,?_,by omega,by omega,?_⟩
   ·rw [e p (by omega) (by omega)]; omega
   ·rw [if_neg (by simpa using h1),if_neg (by simpa using h2),e (p+64) (by omega) (by omega)]
    exact Prod.ext (by show 4*(k+1)+(p+64)+40=_; omega) rfl
  ·rw [if_pos h2] at he; exact absurd he h2
 ·rw [if_pos h1] at he; exact absurd he h1
def erB (d:D) (n q:Nat) (b:I × Int):I × Int:=if b.2≠0 then (zI,b.2) else doneS q (eA (q+64) (decide (d.m<0)) (eF (q+64) n (pS (absD d) 0)) b.1)
def erC (d:D) (n q:Nat):I × Int:=
 if (timesD (absD d) (absD d)).2≠0 then (zI,(timesD (absD d) (absD d)).2) else erB d n q (expR (negD (timesD (absD d) (absD d)).1) ((q+64:Nat):Int))
theorem edone_eq {a:I} (ha:SI a) {p:Nat} (hp:2≤p∧p≤400) (e w:Int):erff_done (iv a) (p:Int) e w=some (iv (doneS p (a,e)).1,(doneS p (a,e)).2):=by
 unfold erff_done iv_trouble_Err
 simp only [obn]
 by_cases h:e=0
 ·subst h
  rw [if_neg (by simp),ivNew_eq hp]
  simp only [obn]
  have:=ivOut_eq ha.ok hp 0
  refine Eq.trans (congrArg (fun o=>Option.bind o _) this) ?_
  rfl
 ·rw [if_pos h]
  unfold doneS
  rw [st_ne h,iv_z]
theorem erf_j2 {a:I} (ha:SI a) {q w:Nat} (hq:2≤q∧q≤400) (e:Int):erff_erf_j2 (q:Int) (0,0,(w:Int)) e (iv a).Lo.M.Neg (iv a).Lo.M.Mag (iv a).Lo.E (iv a).Hi.M.Neg (iv a).Hi.M.Mag (iv a).Hi.E=some (iv (doneS q (a,e)).1,(doneS q (a,e)).2):=by
 unfold erff_erf_j2
 rw [ivEta]
 refine Eq.trans (congrArg (fun o=>Option.bind o _) (edone_eq ha hq e _)) ?_
 rfl
theorem erf_rest {x:AD} {q w:Nat} (hq:2≤q∧q≤400) (hw:2≤w∧w≤400) {L:I × I × Int} (h1:SI L.1) (h2:SI L.2.1) (h3:NN L.1) {bell:I} (hb:SI bell) :
  ((cv_Wide (iv L.2.1) (dy L.1.hi) L.2.2 (w:Int)).bind fun x38=>((cv_Scale x38.1 1 x38.2 (w:Int)).bind fun x39=>((cv_Mul x39.1 (iv bell) x39.2 (w:Int)).bind fun x40=>((konst_Root x40.2 (w:Int)).bind fun x41=>((cv_Div x40.1 x41.1 x41.2 (w:Int)).bind fun x42=>
   (if x.M.Neg=true then ((cv_Neg x42.1 x42.2 (w:Int)).bind fun x52=>(erff_erf_j2 (q:Int) (0,0,(w:Int)) x52.2 (x52.1).Lo.M.Neg (x52.1).Lo.M.Mag (x52.1).Lo.E (x52.1).Hi.M.Neg (x52.1).Hi.M.Mag (x52.1).Hi.E))
    else (erff_erf_j2 (q:Int) (0,0,(w:Int)) x42.2 (x42.1).Lo.M.Neg (x42.1).Lo.M.Mag (x42.1).Lo.E (x42.1).Hi.M.Neg (x42.1).Hi.M.Mag (x42.1).Hi.E))))))) =
   some (iv (doneS q (eA w x.M.Neg L bell)).1,(doneS q (eA w x.M.Neg L bell)).2):=by
 have hv:0≤val L.1.hi:=val_nn h3.2
 have e1:cv_Wide (iv L.2.1) (dy L.1.hi) L.2.2 (w:Int)=some (iv (wS w L.2.1 L.1.hi L.2.2).1,(wS w L.2.1 L.1.hi L.2.2).2):=ivWide_eq h2.ok h1.ok.2.1 hv hw L.2.2
 have s1:SI (wS w L.2.1 L.1.hi L.2.2).1:=SI_st (SI_wide h2 hv hw.2) _
 unfold eA
 generalize wS w L.2.1 L.1.hi L.2.2=a at *
 refine Eq.trans (congrArg (fun o=>Option.bind o _) e1) ?_
 simp only [obn]
 have e2:=pScale s1 (n:=1) (by omega) a.2 (w:Int)
 have s2:=SI_sc s1 1 a.2
 generalize scS a.1 1 a.2=b at *
 refine Eq.trans (congrArg (fun o=>Option.bind o _) e2) ?_
 simp only [obn]
 have e3:=pMul hw s2 hb b.2
 have s3:=SI_mS hw.2 b.1 bell b.2
 generalize mS w b.1 bell b.2=c at *
 refine Eq.trans (congrArg (fun o=>Option.bind o _) e3) ?_
 simp only [obn]
 have e4:=Root_eq hw c.2
 have s4:=SI_root hw.2 c.2
 generalize rootS w c.2=r at *
 refine Eq.trans (congrArg (fun o=>Option.bind o _) e4) ?_
 simp only [obn]
 have e5:=pDiv hw s3 s4 r.2
 have s5:=SI_dS hw.2 c.1 s4 r.2
 generalize dS w c.1 r.1 r.2=k at *
 refine Eq.trans (congrArg (fun o=>Option.bind o _) e5) ?_
 simp only [obn]
 by_cases hn:x.M.Neg=true
 ·rw [if_pos hn,if_pos hn]
  refine Eq.trans (congrArg (fun o=>Option.bind o _) (pNeg s5 _ _)) ?_
  simp only [obn]
  exact erf_j2 (SI_nS s5 _) hq _
 ·rw [if_neg hn,if_neg hn]
  exact erf_j2 s5 hq _
theorem erf_main {d:D} (hd:WD d) (hb:blen d.m.natAbs≤200) {n q:Nat} (hn:1≤n∧n≤800) (hq:2≤q∧q≤264):erff_erf_j1 ((n:Int),0) (dy d) (q:Int) false=some (iv (erC d n q).1,(erC d n q).2):=by
 have ha:=WD_abs hd
 have hw:2≤q+64∧q+64≤400:=by omega
 have e1:=dyad_Mul_eq ha ha
 have w1:WD (timesD (absD d) (absD d)).1:=WD_times
 have hba:blen (absD d).m.natAbs≤1000:=Nat.le_trans hb (by omega)
 have s0:=SI_pS ha hba 0
 have n0:NN (pS (absD d) 0).1:=pS_nn (by show 0≤((d.m.natAbs:Nat):Int); omega) 0
 have f1:=erf_series (w:=q+64) (n:=n) hw hn ha hba ⟨⟨⟨false,[]⟩,0⟩,⟨⟨false,[]⟩,0⟩⟩ ⟨⟨⟨false,[]⟩,0⟩,⟨⟨false,[]⟩,0⟩⟩
 obtain ⟨g1,g2,g3⟩:=eF_ok (w:=q+64) (n:=n) hw.2 hn.2 s0 n0
 unfold erff_erf_j1 erC erB
 rw [if_neg (by simp),dy_abs]
 generalize timesD (absD d) (absD d)=t at *
 generalize eF (q+64) n (pS (absD d) 0)=L at *
 refine Eq.trans (congrArg (fun o=>Option.bind o _) e1) ?_
 simp only [obn]
 by_cases h1:t.2=0
 ·rw [if_neg (by simpa using h1),if_neg (by simpa using h1),eta_dy,dyad_Neg_eq w1]
  simp only [obn]
  rw [eta_dy,w64 (by omega) (by omega),show (q:Int)+64=((q+64:Nat):Int) by omega]
  have e2:=Exp_eq w1.neg ((q+64:Nat):Int)
  have s2:SI (expR (negD t.1) ((q+64:Nat):Int)).1:=SI_expR
  generalize expR (negD t.1) ((q+64:Nat):Int)=b at *
  refine Eq.trans (congrArg (fun o=>Option.bind o _) e2) ?_
  simp only [obn]
  by_cases h2:b.2=0
  ·rw [if_neg (by simpa using h2),if_neg (by simpa using h2),ivNew_eq hw]
   simp only [obn]
   unfold erff_series
   simp only [obn]
   refine Eq.trans (congrArg (fun o=>Option.bind o _) f1) ?_
   simp only [obn]
   exact erf_rest (x:=dy d) (q:=q) (w:=q+64) ⟨hq.1,by omega⟩ hw g1 g2 g3 s2
  ·rw [if_pos h2,if_pos h2,zI_eta]
 ·rw [if_pos h1,if_pos h1,zI_eta]
def erR (d:D) (p:Int):I × Int:=if (terR d p).2≠0 then (zI,(terR d p).2) else if d.m=0 then (zI,0) else erC d (terR d p).1.toNat p.toNat
theorem mag_zero (d:D):((dy d).M.Mag.length:Int)=0↔d.m=0:=by
 rw [dy_mag]
 constructor
 ·intro h
  refine Decidable.byContradiction fun h0=>?_
  have:=digs_len_pos (n:=d.m.natAbs) (by omega)
  omega
 ·intro h
  rw [h]
  simp [digs_zero]
end Go.Proofs.YtjffljhmjdljeaaGreat.Gen
