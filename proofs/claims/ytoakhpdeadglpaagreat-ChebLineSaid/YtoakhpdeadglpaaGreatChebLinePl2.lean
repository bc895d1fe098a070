/- Plain theory of the numbers that the statement speaks of: printed from the proofs' own texts, as far as this statement needs it. -/
import Derived.Test.YtoakhpdeadglpaaGreatChebLinePl1
set_option linter.unusedVariables false
set_option linter.unusedSimpArgs false
namespace Go.An
theorem PB.term {a:Nat→R} {r K:R} (h:PB a r K) {t x:R} (ht:0≤t) (hx:ab x≤t*r) (n:Nat):ab (a n*x ^ n)≤K*t ^ n:=by
 rw [ab_mul,ab_pow]
 have h1:=pow_mono (ab_nonneg x) hx n
 rw [pow_mul'] at h1
 have h2:=rmul_le' h1 (ab_nonneg (a n))
 have h3:=rmul_le (h.h n) (pow_nonneg ht n)
 have h4:ab (a n)*(t ^ n*r ^ n)=ab (a n)*r ^ n*t ^ n:=by grind
 grind
theorem psum_tail {a:Nat→R} {r K:R} (h:PB a r K) {t w x:R} (hg:Geo t w) (hx:ab x≤t*r) (m k:Nat):ab (psum a x (m+k)-psum a x m)+K*w*t ^ (m+k)≤K*w*t ^ m:=by
 induction k with
 | zero=>
  have:psum a x (m+0)-psum a x m=0:=by rw [Nat.add_zero]; grind
  rw [this,ab_zero,Nat.add_zero]; grind
 | succ k ih=>
  have h1:=h.term hg.h0 hx (m+k)
  have h2:=ab_add (psum a x (m+k)-psum a x m) (a (m+k)*x ^ (m+k))
  have h3:psum a x (m+(k+1))-psum a x m=psum a x (m+k)-psum a x m+a (m+k)*x ^ (m+k):=by
   show psum a x (m+k)+a (m+k)*x ^ (m+k)-psum a x m=_; grind
  rw [h3]
  have h4:t ^ (m+(k+1))=t ^ (m+k)*t:=rfl
  have h5:=hg.hw
  have h6:K*t ^ (m+k)+K*w*(t ^ (m+k)*t)=K*w*t ^ (m+k):=by grind
  rw [h4]; grind
theorem psum_conv {a:Nat→R} {r K:R} (h:PB a r K) {x:R} (hx:ab x<r):∃ y,Conv (psum a x) y:=by
 obtain ⟨t,w,hg,hxt⟩:=ratio (ab_nonneg x) hx
 refine complete fun e he=>?_
 have hKw:0≤K*w:=rmul_nonneg h.k0 (by have:=hg.pos; grind)
 obtain ⟨N,hN⟩:=pow_lim hg hKw (e:=e / 2) (by grind)
 have key:∀ n,N≤n→ab (psum a x n-psum a x N)≤ofQ (e / 2):=by
  intro n hn
  obtain ⟨k,rfl⟩:∃ k,n=N+k:=⟨n-N,by omega⟩
  have h1:=psum_tail h hg (show ab x≤t*r by grind) N k
  have h2:=hN N (Nat.le_refl _)
  have h3:=rmul_nonneg hKw (pow_nonneg hg.h0 (N+k))
  grind
 refine ⟨N,fun m n hm hn=>?_⟩
 have h1:=ab_le.1 (key m hm)
 have h2:=ab_le.1 (key n hn)
 have h3:=ofQ_half e
 grind
noncomputable def ps (a:Nat→R) (x:R):R:=@dite _ (∃ y,Conv (psum a x) y) (Classical.propDecidable _) (fun h=>Classical.choose h) fun _=>0
theorem ps_conv {a:Nat→R} {r K:R} (h:PB a r K) {x:R} (hx:ab x<r):Conv (psum a x) (ps a x):=by
 have k:=psum_conv h hx
 have e:ps a x=Classical.choose k:=dif_pos k
 rw [e]; exact Classical.choose_spec k
theorem ps_tail {a:Nat→R} {r K:R} (h:PB a r K) {t w x:R} (hg:Geo t w) (hx:ab x≤t*r) (m:Nat):ab (ps a x-psum a x m)≤K*w*t ^ m:=by
 have hxr:ab x<r:=by have:=rmul_lt' hg.h1 h.r0; grind
 have h1:=((ps_conv h hxr).shift m).sub (Conv.const (psum a x m))
 refine h1.ab_le 0 fun n _=>?_
 have h2:=psum_tail h hg hx m n
 rw [Nat.add_comm m n] at h2
 have h3:=rmul_nonneg (rmul_nonneg h.k0 (show 0≤w by have:=hg.pos; grind)) (pow_nonneg hg.h0 (n+m))
 grind
theorem ps_eq {a:Nat→R} {x y:R} (h:Conv (psum a x) y):ps a x=y:=by
 have k:∃ y,Conv (psum a x) y:=⟨y,h⟩
 have e:ps a x=Classical.choose k:=dif_pos k
 rw [e]; exact (Classical.choose_spec k).uniq h
theorem psum_zero (a:Nat→R) (n:Nat):psum a 0 (n+1)=a 0:=by
 induction n with
 | zero=>show 0+a 0*(0:R) ^ 0=a 0; rw [rpow_zero]; grind
 | succ n ih=>show psum a 0 (n+1)+a (n+1)*(0:R) ^ (n+1)=a 0; rw [ih,rpow_succ]; grind
theorem ps_zero (a:Nat→R):ps a 0=a 0:=ps_eq fun e he=>⟨1,fun n hn=>by
 obtain ⟨k,rfl⟩:∃ k,n=k+1:=⟨n-1,by omega⟩
 rw [psum_zero]; have:=ofQ_pos he; grind⟩
def da (a:Nat→R) (n:Nat):R:=((n+1:Nat):R)*a (n+1)
def dq (x y:R):Nat→R
 | 0=>0
 | n+1=>y*dq x y n+((n+1:Nat):R)*x ^ n
theorem dq_eq (x y:R) (n:Nat):y ^ (n+1)-x ^ (n+1)-((n+1:Nat):R)*x ^ n*(y-x)=dq x y n*((y-x)*(y-x)):=by
 induction n with
 | zero=>
  rw [show dq x y 0=0 from rfl,rpow_succ,rpow_succ,rpow_zero,rpow_zero,show ((0+1:Nat):R)=1 from rfl]; grind
 | succ n ih=>
  rw [show dq x y (n+1)=y*dq x y n+((n+1:Nat):R)*x ^ n from rfl,rpow_succ y,rpow_succ x (n+1),cast_succ (n+1)]
  have h:x ^ (n+1)=x ^ n*x:=rfl
  generalize dq x y n=d at *
  generalize y ^ (n+1)=Y at *
  generalize ((n+1:Nat):R)=c at *
  rw [h] at ih ⊢
  generalize x ^ n=z at *
  grind
def gq (t:R):Nat→R
 | 0=>0
 | n+1=>t*gq t n+((n+1:Nat):R)*t ^ n
theorem gq_nonneg {t:R} (h:0≤t) (n:Nat):0≤gq t n:=by
 induction n with
 | zero=>exact rle_refl 0
 | succ n ih=>
  have h1:=rmul_nonneg h ih
  have h2:=rmul_nonneg (cast_nonneg (n+1)) (pow_nonneg h n)
  show 0≤t*gq t n+((n+1:Nat):R)*t ^ n
  grind
theorem dq_le {t r x y:R} (ht:0≤t) (hr:0≤r) (hx:ab x≤t*r) (hy:ab y≤t*r) (n:Nat):ab (dq x y n)*r≤gq t n*r ^ n:=by
 induction n with
 | zero=>rw [show dq x y 0=0 from rfl,show gq t 0=0 from rfl,ab_zero]; grind
 | succ n ih=>
  rw [show dq x y (n+1)=y*dq x y n+((n+1:Nat):R)*x ^ n from rfl,show gq t (n+1)=t*gq t n+((n+1:Nat):R)*t ^ n from rfl,rpow_succ r]
  have h1:=ab_add (y*dq x y n) (((n+1:Nat):R)*x ^ n)
  rw [ab_mul,ab_mul,ab_pow,ab_of (cast_nonneg (n+1))] at h1
  have h2:=pow_mono (ab_nonneg x) hx n
  rw [pow_mul'] at h2
  have h3:=rmul_le' h2 (cast_nonneg (n+1))
  have h4:=rmul_mono hy ih (ab_nonneg y) (rmul_nonneg (gq_nonneg ht n) (pow_nonneg hr n))
  have h5:=rmul_le h1 hr
  have h6:=rmul_le h3 hr
  have h7:(ab y*ab (dq x y n)+((n+1:Nat):R)*ab x ^ n)*r=ab y*(ab (dq x y n)*r)+((n+1:Nat):R)*ab x ^ n*r:=by grind
  have h8:(t*gq t n+((n+1:Nat):R)*t ^ n)*(r ^ n*r)=t*r*(gq t n*r ^ n)+((n+1:Nat):R)*(t ^ n*r ^ n)*r:=by grind
  grind
def e0 (t:R):Nat→R
 | 0=>0
 | n+1=>e0 t n+t ^ n
def e1 (t:R):Nat→R
 | 0=>0
 | n+1=>e1 t n+((n+1:Nat):R)*t ^ n
def e2 (t:R):Nat→R
 | 0=>0
 | n+1=>e2 t n+gq t n
theorem e0_eq (t:R) (n:Nat):(1-t)*e0 t n+t ^ n=1:=by
 induction n with
 | zero=>rw [show e0 t 0=0 from rfl,rpow_zero]; grind
 | succ n ih=>rw [show e0 t (n+1)=e0 t n+t ^ n from rfl,rpow_succ]; grind
theorem e1_eq (t:R) (n:Nat):(1-t)*e1 t n+n*t ^ n=e0 t n:=by
 induction n with
 | zero=>rw [show e0 t 0=0 from rfl,show e1 t 0=0 from rfl,show ((0:Nat):R)=0 from rfl]; grind
 | succ n ih=>rw [show e0 t (n+1)=e0 t n+t ^ n from rfl,show e1 t (n+1)=e1 t n+((n+1:Nat):R)*t ^ n from rfl,rpow_succ,cast_succ]; grind
theorem e2_eq (t:R) (n:Nat):(1-t)*e2 t n+gq t n=e1 t n:=by
 induction n with
 | zero=>rw [show e2 t 0=0 from rfl,show e1 t 0=0 from rfl,show gq t 0=0 from rfl]; grind
 | succ n ih=>rw [show e2 t (n+1)=e2 t n+gq t n from rfl,show e1 t (n+1)=e1 t n+((n+1:Nat):R)*t ^ n from rfl,show gq t (n+1)=t*gq t n+((n+1:Nat):R)*t ^ n from rfl]; grind
theorem by_w {t w x y:R} (hg:Geo t w) (h:(1-t)*x≤y):x≤w*y:=by
 have h1:=rmul_le' h (show 0≤w by have:=hg.pos; grind)
 have h2:=hg.hw
 have h3:w*((1-t)*x)=x:=by grind
 grind
theorem e1_le {t w:R} (hg:Geo t w) (n:Nat):e1 t n≤w*w:=by
 have h1:=e0_eq t n
 have h2:=e1_eq t n
 have h3:=by_w hg (show (1-t)*e0 t n≤1 by have:=pow_nonneg hg.h0 n; grind)
 refine by_w hg ?_
 have:=rmul_nonneg (cast_nonneg n) (pow_nonneg hg.h0 n)
 grind
theorem e2_le {t w:R} (hg:Geo t w) (n:Nat):e2 t n≤w*(w*w):=by
 refine by_w hg ?_
 have h1:=e2_eq t n
 have h2:=e1_le hg n
 have h3:=gq_nonneg hg.h0 n
 grind
theorem nt_le {t w:R} (hg:Geo t w) (n:Nat):((n+1:Nat):R)*t ^ n≤w*w:=by
 have h1:=e1_le hg (n+1)
 rw [show e1 t (n+1)=e1 t n+((n+1:Nat):R)*t ^ n from rfl] at h1
 have h2:0≤e1 t n:=by
  clear h1
  induction n with
  | zero=>exact rle_refl 0
  | succ n ih=>
   have:=rmul_nonneg (cast_nonneg (n+1)) (pow_nonneg hg.h0 n)
   show 0≤e1 t n+((n+1:Nat):R)*t ^ n
   grind
 grind
theorem PB.da {a:Nat→R} {r K:R} (h:PB a r K) {s:R} (hs:0<s) (hsr:s<r):∃ L,PB (da a) s L:=by
 obtain ⟨t,w,hg,e⟩:=ratio (show 0≤s by grind) hsr
 have hi:=mul_inv (x:=r) (by have:=h.r0; grind)
 refine ⟨K*(w*w)*r⁻¹,hs,fun n=>?_⟩
 have h1:=nt_le hg n
 have h2:=h.h (n+1)
 have hri:=inv_pos h.r0
 rw [An.da,ab_mul,ab_of (cast_nonneg (n+1)),e,pow_mul']
 have h3:=rmul_mono h1 h2 (rmul_nonneg (cast_nonneg (n+1)) (pow_nonneg hg.h0 n)) h.k0
 have h4:=rmul_le h3 (show 0≤r⁻¹ by grind)
 have h5:((n+1:Nat):R)*t ^ n*(ab (a (n+1))*r ^ (n+1))*r⁻¹=((n+1:Nat):R)*ab (a (n+1))*(t ^ n*r ^ n):=by rw [rpow_succ]; grind
 grind
def sq (a:Nat→R) (x y:R):Nat→R
 | 0=>0
 | n+1=>sq a x y n+a (n+1)*dq x y n
theorem sq_eq (a:Nat→R) (x y:R) (n:Nat):psum a y (n+1)-psum a x (n+1)-psum (da a) x n*(y-x)=sq a x y n*((y-x)*(y-x)):=by
 induction n with
 | zero=>
  rw [show sq a x y 0=0 from rfl,show psum (da a) x 0=0 from rfl,show psum a y (0+1)=0+a 0*y ^ 0 from rfl,show psum a x (0+1)=0+a 0*x ^ 0 from rfl,rpow_zero,rpow_zero]; grind
 | succ n ih=>
  rw [show sq a x y (n+1)=sq a x y n+a (n+1)*dq x y n from rfl,show psum (da a) x (n+1)=psum (da a) x n+da a n*x ^ n from rfl,show psum a y (n+1+1)=psum a y (n+1)+a (n+1)*y ^ (n+1) from rfl,show psum a x (n+1+1)=psum a x (n+1)+a (n+1)*x ^ (n+1) from rfl]
  have h:=dq_eq x y n
  rw [da]
  generalize dq x y n=d at *
  generalize y ^ (n+1)=Y at *
  generalize x ^ (n+1)=X at *
  generalize x ^ n=z at *
  generalize ((n+1:Nat):R)=c at *
  generalize a (n+1)=A at *
  generalize psum a y (n+1)=p1 at *
  generalize psum a x (n+1)=p2 at *
  generalize psum (da a) x n=p3 at *
  generalize sq a x y n=p4 at *
  have h8:Y=X+c*z*(y-x)+d*((y-x)*(y-x)):=by grind
  have h9:p1=p2+p3*(y-x)+p4*((y-x)*(y-x)):=by grind
  rw [h8,h9]; grind
theorem sq_le {a:Nat→R} {r K:R} (h:PB a r K) {t x y:R} (ht:0≤t) (hx:ab x≤t*r) (hy:ab y≤t*r) (n:Nat):ab (sq a x y n)*(r*r)≤K*e2 t n:=by
 induction n with
 | zero=>rw [show sq a x y 0=0 from rfl,show e2 t 0=0 from rfl,ab_zero]; grind
 | succ n ih=>
  rw [show sq a x y (n+1)=sq a x y n+a (n+1)*dq x y n from rfl,show e2 t (n+1)=e2 t n+gq t n from rfl]
  have h1:=ab_add (sq a x y n) (a (n+1)*dq x y n)
  rw [ab_mul] at h1
  have hr:=h.r0
  have h2:=dq_le ht (by grind) hx hy n
  have h3:=rmul_le' h2 (rmul_nonneg (ab_nonneg (a (n+1))) (show 0≤r by grind))
  have h4:=rmul_le (h.h (n+1)) (gq_nonneg ht n)
  have h5:=rmul_le h1 (show 0≤r*r from rmul_nonneg (by grind) (by grind))
  have h6:ab (a (n+1))*r*(ab (dq x y n)*r)=ab (a (n+1))*ab (dq x y n)*(r*r):=by grind
  have h7:ab (a (n+1))*r*(gq t n*r ^ n)=ab (a (n+1))*r ^ (n+1)*gq t n:=by rw [rpow_succ]; grind
  grind
theorem ps_quad {a:Nat→R} {r K:R} (h:PB a r K) {s:R} (hs:0≤s) (hsr:s<r):∃ C,0≤C∧∀ x y,ab x≤s→ab y≤s→ab (ps a y-ps a x-ps (da a) x*(y-x))≤C*((y-x)*(y-x)):=by
 obtain ⟨t,w,hg,e⟩:=ratio hs hsr
 have hr:=h.r0
 have hrr:=rmul_pos hr hr
 have hi:=mul_inv (x:=r*r) (by grind)
 have hip:=inv_pos hrr
 have hwp:=hg.pos
 have hKw:0≤K*(w*(w*w)):=rmul_nonneg h.k0 (rmul_nonneg (by grind) (rmul_nonneg (by grind) (by grind)))
 refine ⟨K*(w*(w*w))*(r*r)⁻¹,rmul_nonneg hKw (by grind),fun x y hx hy=>?_⟩
 obtain ⟨s',hs1,hs2⟩:∃ s',s<s'∧s'<r:=between hsr
 obtain ⟨L,hL⟩:=h.da (s:=s') (by grind) hs2
 have c1:=(ps_conv h (show ab y<r by grind)).shift 1
 have c2:=(ps_conv h (show ab x<r by grind)).shift 1
 have c3:=(ps_conv hL (show ab x<s' by grind)).mul_c (y-x)
 refine ((c1.sub c2).sub c3).ab_le 0 fun n _=>?_
 rw [sq_eq,ab_mul,ab_of (sq_nonneg _)]
 refine rmul_le ?_ (sq_nonneg _)
 have h1:=sq_le h hg.h0 (show ab x≤t*r by grind) (show ab y≤t*r by grind) n
 have h2:=rmul_le' (e2_le hg n) h.k0
 refine cancel hrr ?_
 have h3:K*(w*(w*w))*(r*r)⁻¹*(r*r)=K*(w*(w*w)):=by grind
 grind
def In (a b x:R):Prop:=a≤x∧x≤b
def Dv (f g:R→R) (a b:R):Prop:=∃ C,0≤C∧(∀ x,In a b x→ab (f x)≤C∧ab (g x)≤C)∧∀ x y,In a b x→In a b y→ab (f y-f x)≤C*ab (y-x)∧ab (f y-f x-g x*(y-x))≤C*((y-x)*(y-x))
theorem Dv.congr {f g f' g':R→R} {a b:R} (h:Dv f g a b) (h1:∀ x,In a b x→f x=f' x) (h2:∀ x,In a b x→g x=g' x):Dv f' g' a b:=by
 obtain ⟨C,hC,hb,hq⟩:=h
 refine ⟨C,hC,fun x hx=>?_,fun x y hx hy=>?_⟩
 ·rw [← h1 x hx,← h2 x hx]; exact hb x hx
 ·rw [← h1 x hx,← h2 x hx,← h1 y hy]; exact hq x y hx hy
theorem Dv.sub_iv {f g:R→R} {a b:R} (h:Dv f g a b) {c d:R} (h1:a≤c) (h2:d≤b):Dv f g c d:=by
 obtain ⟨C,hC,hb,hq⟩:=h
 have k:∀ x,In c d x→In a b x:=fun x hx=>⟨rle_trans h1 hx.1,rle_trans hx.2 h2⟩
 exact ⟨C,hC,fun x hx=>hb x (k x hx),fun x y hx hy=>hq x y (k x hx) (k y hy)⟩
theorem Dv.const (c a b:R):Dv (fun _=>c) (fun _=>0) a b:=by
 refine ⟨ab c,ab_nonneg c,fun x _=>⟨rle_refl _,by rw [ab_zero]; exact ab_nonneg c⟩,fun x y _ _=>?_⟩
 have e1:c-c=0:=by grind
 have e2:c-c-0*(y-x)=0:=by grind
 rw [e2,e1,ab_zero]
 exact ⟨rmul_nonneg (ab_nonneg c) (ab_nonneg _),rmul_nonneg (ab_nonneg c) (sq_nonneg _)⟩
theorem ab_one:ab 1=1:=ab_of (by have:=rzero_lt_one; grind)
theorem Dv.id (a b:R):Dv (fun x=>x) (fun _=>1) a b:=by
 have h1:=ab_nonneg a
 have h2:=ab_nonneg b
 have h3:=le_ab a
 have h4:=le_ab b
 refine ⟨ab a+ab b+1,by grind,fun x hx=>⟨ab_le.2 ?_,by rw [ab_one]; grind⟩,fun x y _ _=>?_⟩
 ·have:=hx.1; have:=hx.2; grind
 ·have e2:y-x-1*(y-x)=0:=by grind
  rw [e2,ab_zero]
  refine ⟨?_,rmul_nonneg (by grind) (sq_nonneg _)⟩
  have:=rmul_le (show 1≤ab a+ab b+1 by grind) (ab_nonneg (y-x)); grind
theorem Dv.add {f g f' g':R→R} {a b:R} (h:Dv f g a b) (k:Dv f' g' a b):Dv (fun x=>f x+f' x) (fun x=>g x+g' x) a b:=by
 obtain ⟨C,hC,hb,hq⟩:=h
 obtain ⟨D,hD,kb,kq⟩:=k
 refine ⟨C+D,by grind,fun x hx=>?_,fun x y hx hy=>?_⟩
 ·have h1:=hb x hx; have h2:=kb x hx
  have h3:=ab_add (f x) (f' x); have h4:=ab_add (g x) (g' x)
  grind
 ·have h1:=hq x y hx hy; have h2:=kq x y hx hy
  have h3:=ab_add (f y-f x) (f' y-f' x)
  have h4:=ab_add (f y-f x-g x*(y-x)) (f' y-f' x-g' x*(y-x))
  have e1:f y+f' y-(f x+f' x)=f y-f x+(f' y-f' x):=by grind
  have e2:f y+f' y-(f x+f' x)-(g x+g' x)*(y-x)=f y-f x-g x*(y-x)+(f' y-f' x-g' x*(y-x)):=by grind
  rw [e2,e1]
  grind
theorem Dv.mul {f g f' g':R→R} {a b:R} (h:Dv f g a b) (k:Dv f' g' a b):Dv (fun x=>f x*f' x) (fun x=>g x*f' x+f x*g' x) a b:=by
 obtain ⟨C,hC,hb,hq⟩:=h
 obtain ⟨D,hD,kb,kq⟩:=k
 have hCD:=rmul_nonneg hC hD
 refine ⟨3*(C*D),by grind,fun x hx=>?_,fun x y hx hy=>?_⟩
 ·have h1:=hb x hx; have h2:=kb x hx
  have h3:=rmul_mono h1.1 h2.1 (ab_nonneg _) hD
  have h4:=rmul_mono h1.2 h2.1 (ab_nonneg _) hD
  have h5:=rmul_mono h1.1 h2.2 (ab_nonneg _) hD
  have h6:=ab_add (g x*f' x) (f x*g' x)
  rw [ab_mul,ab_mul] at h6
  rw [ab_mul]
  grind
 ·have h1:=hq x y hx hy; have h2:=kq x y hx hy; have h3:=hb x hx; have h4:=kb y hy; have h4':=kb x hx
  have hn:=ab_nonneg (y-x)
  have hsq:=sq_nonneg (y-x)
  have e0:ab (y-x)*ab (y-x)=(y-x)*(y-x):=by rw [← ab_mul,ab_of hsq]
  constructor
  ·have e1:f y*f' y-f x*f' x=(f y-f x)*f' y+f x*(f' y-f' x):=by grind
   have h5:=ab_add ((f y-f x)*f' y) (f x*(f' y-f' x))
   rw [ab_mul,ab_mul] at h5
   have h6:=rmul_mono h1.1 h4.1 (ab_nonneg _) hD
   have h7:=rmul_mono h3.1 h2.1 (ab_nonneg _) (rmul_nonneg hD hn)
   have h8:=rmul_nonneg hCD hn
   rw [e1]; grind
  ·have e1:f y*f' y-f x*f' x-(g x*f' x+f x*g' x)*(y-x)=f x*(f' y-f' x-g' x*(y-x))+f' x*(f y-f x-g x*(y-x))+(f y-f x)*(f' y-f' x):=by grind
   have h5:=ab_add (f x*(f' y-f' x-g' x*(y-x))+f' x*(f y-f x-g x*(y-x))) ((f y-f x)*(f' y-f' x))
   have h6:=ab_add (f x*(f' y-f' x-g' x*(y-x))) (f' x*(f y-f x-g x*(y-x)))
   rw [ab_mul] at h5
   rw [ab_mul,ab_mul] at h6
   have h7:=rmul_mono h3.1 h2.2 (ab_nonneg _) (rmul_nonneg hD hsq)
   have h8:=rmul_mono h4'.1 h1.2 (ab_nonneg _) (rmul_nonneg hC hsq)
   have h9:=rmul_mono h1.1 h2.1 (ab_nonneg _) (rmul_nonneg hD hn)
   have e2:C*ab (y-x)*(D*ab (y-x))=C*D*((y-x)*(y-x)):=by rw [← e0]; grind
   rw [e1]; grind
theorem Dv.smul {f g:R→R} {a b:R} (c:R) (h:Dv f g a b):Dv (fun x=>c*f x) (fun x=>c*g x) a b:=
 ((Dv.const c a b).mul h).congr (fun _ _=>rfl) fun x _=>by grind
theorem Dv.neg {f g:R→R} {a b:R} (h:Dv f g a b):Dv (fun x=>-f x) (fun x=>-g x) a b:=
 (h.smul (-1)).congr (fun x _=>by grind) fun x _=>by grind
theorem Dv.sub {f g f' g':R→R} {a b:R} (h:Dv f g a b) (k:Dv f' g' a b):Dv (fun x=>f x-f' x) (fun x=>g x-g' x) a b:=
 (h.add k.neg).congr (fun x _=>by grind) fun x _=>by grind
theorem Dv.comp {f g f' g':R→R} {a b:R} {c d:R} (h:Dv f g a b) (k:Dv f' g' c d) (hr:∀ x,In a b x→In c d (f x)):Dv (fun x=>f' (f x)) (fun x=>g' (f x)*g x) a b:=by
 obtain ⟨C,hC,hb,hq⟩:=h
 obtain ⟨D,hD,kb,kq⟩:=k
 have hCD:=rmul_nonneg hC hD
 have hCCD:=rmul_nonneg hC hCD
 refine ⟨D+C*D+C*(C*D),by grind,fun x hx=>?_,fun x y hx hy=>?_⟩
 ·have h1:=hb x hx; have h2:=kb _ (hr x hx)
  have h3:=rmul_mono h1.2 h2.2 (ab_nonneg _) hD
  rw [ab_mul]; grind
 ·have h1:=hq x y hx hy; have h2:=kq _ _ (hr x hx) (hr y hy); have h3:=hb x hx; have h4:=kb _ (hr x hx)
  have hn:=ab_nonneg (y-x)
  have hsq:=sq_nonneg (y-x)
  have e0:ab (y-x)*ab (y-x)=(y-x)*(y-x):=by rw [← ab_mul,ab_of hsq]
  have e3:ab (f y-f x)*ab (f y-f x)=(f y-f x)*(f y-f x):=by rw [← ab_mul,ab_of (sq_nonneg _)]
  constructor
  ·have h5:=rmul_le' h1.1 hD
   have h6:=rmul_nonneg hD hn
   have h7:=rmul_nonneg hCCD hn
   grind
  ·have e1:f' (f y)-f' (f x)-g' (f x)*g x*(y-x)=(f' (f y)-f' (f x)-g' (f x)*(f y-f x))+g' (f x)*(f y-f x-g x*(y-x)):=by grind
   have h5:=ab_add (f' (f y)-f' (f x)-g' (f x)*(f y-f x)) (g' (f x)*(f y-f x-g x*(y-x)))
   rw [ab_mul] at h5
   have h6:=rmul_mono h4.2 h1.2 (ab_nonneg _) (rmul_nonneg hC hsq)
   have h7:=rmul_mono h1.1 h1.1 (ab_nonneg _) (rmul_nonneg hC hn)
   have h8:C*ab (y-x)*(C*ab (y-x))=C*C*((y-x)*(y-x)):=by rw [← e0]; grind
   have h9:=rmul_le' (show (f y-f x)*(f y-f x)≤C*C*((y-x)*(y-x)) by grind) hD
   have h10:=rmul_nonneg hD hsq
   rw [e1]; grind
theorem Dv.ps {u:Nat→R} {r K:R} (h:PB u r K) {s:R} (hs:0≤s) (hsr:s<r):Dv (ps u) (ps (da u)) (-s) s:=by
 obtain ⟨C,hC,hq⟩:=ps_quad h hs hsr
 obtain ⟨t,w,hg,e⟩:=ratio hs hsr
 obtain ⟨s',hs1,hs2⟩:=between hsr
 obtain ⟨L,hL⟩:=h.da (s:=s') (by grind) hs2
 obtain ⟨t',w',hg',e'⟩:=ratio hs hs1
 have b1:∀ x,In (-s) s x→ab x≤s:=fun x hx=>ab_le.2 hx
 have b2:∀ x,In (-s) s x→ab (An.ps u x)≤K*w:=fun x hx=>by
  have h1:=ps_tail h hg (show ab x≤t*r by have:=b1 x hx; grind) 0
  rw [show psum u x 0=0 from rfl,rpow_zero] at h1
  have h2:An.ps u x-0=An.ps u x:=by grind
  rw [h2] at h1; grind
 have b3:∀ x,In (-s) s x→ab (An.ps (da u) x)≤L*w':=fun x hx=>by
  have h1:=ps_tail hL hg' (show ab x≤t'*s' by have:=b1 x hx; grind) 0
  rw [show psum (da u) x 0=0 from rfl,rpow_zero] at h1
  have h2:An.ps (da u) x-0=An.ps (da u) x:=by grind
  rw [h2] at h1; grind
 have hKw:0≤K*w:=rmul_nonneg h.k0 (by have:=hg.pos; grind)
 have hLw:0≤L*w':=rmul_nonneg hL.k0 (by have:=hg'.pos; grind)
 have hCs:=rmul_nonneg hC hs
 refine ⟨K*w+L*w'+C+2*(C*s),by grind,fun x hx=>⟨by have:=b2 x hx; grind,by have:=b3 x hx; grind⟩,fun x y hx hy=>?_⟩
 have h1:=hq x y (b1 x hx) (b1 y hy)
 have hn:=ab_nonneg (y-x)
 have hsq:=sq_nonneg (y-x)
 have e0:ab (y-x)*ab (y-x)=(y-x)*(y-x):=by rw [← ab_mul,ab_of hsq]
 have hd:ab (y-x)≤2*s:=by have:=hx.1; have:=hx.2; have:=hy.1; have:=hy.2; exact ab_le.2 (by grind)
 constructor
 ·have e1:An.ps u y-An.ps u x=(An.ps u y-An.ps u x-An.ps (da u) x*(y-x))+An.ps (da u) x*(y-x):=by grind
  have h2:=ab_add (An.ps u y-An.ps u x-An.ps (da u) x*(y-x)) (An.ps (da u) x*(y-x))
  rw [ab_mul] at h2
  have h3:=rmul_le (b3 x hx) hn
  have h4:=rmul_le' hd (rmul_nonneg hC hn)
  have h5:=rmul_nonneg hKw hn
  have h6:=rmul_nonneg hC hn
  rw [← e0] at h1
  rw [e1]; grind
 ·have h2:=rmul_nonneg hKw hsq
  have h3:=rmul_nonneg hLw hsq
  have h4:=rmul_nonneg hCs hsq
  grind
theorem Dv.mono {f g:R→R} {a b:R} (h:Dv f g a b) (hab:a≤b) (hg:∀ x,In a b x→0≤g x):f a≤f b:=by
 obtain ⟨C,hC,_,hq⟩:=h
 refine eq_of_le fun e he=>?_
 have hep:=ofQ_pos he
 obtain ⟨N,hN⟩:=arch (C*((b-a)*(b-a))*(ofQ e)⁻¹)
 have hi:=mul_inv (x:=ofQ e) (by grind)
 have h1:C*((b-a)*(b-a))≤((N+1:Nat):R)*ofQ e:=by
  have h2:=rmul_le hN (show 0≤ofQ e by grind)
  have h3:C*((b-a)*(b-a))*(ofQ e)⁻¹*ofQ e=C*((b-a)*(b-a)):=by grind
  rw [cast_succ]; grind
 have hn0:(0:R)<((N+1:Nat):R):=by rw [cast_succ]; have:=cast_nonneg N; have:=rzero_lt_one; grind
 have hni:=mul_inv (x:=((N+1:Nat):R)) (by grind)
 have hnp:=inv_pos hn0
 generalize hd:(b-a)*((N+1:Nat):R)⁻¹=d
 have hd0:0≤d:=by rw [← hd]; exact rmul_nonneg (by grind) (by grind)
 have hdn:((N+1:Nat):R)*d=b-a:=by grind
 have step:∀ i:Nat,i≤N+1→f a-i*(C*(d*d))≤f (a+i*d):=by
  intro i
  induction i with
  | zero=>
   intro _
   have:a+((0:Nat):R)*d=a:=by rw [show ((0:Nat):R)=0 from rfl]; grind
   rw [this,show ((0:Nat):R)=0 from rfl]; grind
  | succ i ih=>
   intro hi
   have h2:=ih (by omega)
   have in0:In a b (a+i*d):=by
    have k1:=rmul_le (cast_le (show i≤N+1 by omega)) hd0
    have k2:=rmul_nonneg (cast_nonneg i) hd0
    exact ⟨by grind,by grind⟩
   have in1:In a b (a+((i+1:Nat):R)*d):=by
    have k1:=rmul_le (cast_le hi) hd0
    have k2:=rmul_nonneg (cast_nonneg (i+1)) hd0
    exact ⟨by grind,by grind⟩
   have h3:=(hq _ _ in0 in1).2
   have e1:a+((i+1:Nat):R)*d-(a+i*d)=d:=by rw [cast_succ]; grind
   rw [e1] at h3
   have h4:=(ab_le.1 h3).1
   have h5:=rmul_nonneg (hg _ in0) hd0
   have h6:((i+1:Nat):R)*(C*(d*d))=i*(C*(d*d))+C*(d*d):=by rw [cast_succ]; grind
   rw [h6]; grind
 have h2:=step (N+1) (Nat.le_refl _)
 have e2:a+((N+1:Nat):R)*d=b:=by grind
 rw [e2] at h2
 have h3:((N+1:Nat):R)*(C*(d*d))≤ofQ e:=by
  refine cancel hn0 ?_
  have:((N+1:Nat):R)*(C*(d*d))*((N+1:Nat):R)=C*((b-a)*(b-a)):=by rw [← hdn]; grind
  rw [this]; grind
 grind
theorem Dv.fixed {f g:R→R} {a b:R} (h:Dv f g a b) (hab:a≤b) (hg:∀ x,In a b x→g x=0):f a=f b:=by
 refine rle_antisymm (h.mono hab fun x hx=>by rw [hg x hx]; exact rle_refl _) ?_
 have:=h.neg.mono hab fun x hx=>by rw [hg x hx]; grind
 grind
theorem Dv.between {f g:R→R} {a b:R} (h:Dv f g a b) (hab:a≤b) {m M:R} (hg:∀ x,In a b x→m≤g x∧g x≤M):m*(b-a)≤f b-f a∧f b-f a≤M*(b-a):=by
 have h1:=(h.sub ((Dv.id a b).smul m)).mono hab fun x hx=>by have:=(hg x hx).1; grind
 have h2:=(((Dv.id a b).smul M).sub h).mono hab fun x hx=>by have:=(hg x hx).2; grind
 grind
theorem Dv.same {f g:R→R} {a b:R} (h:Dv f g a b) (hg:∀ x,In a b x→g x=0) {x y:R} (hx:In a b x) (hy:In a b y):f x=f y:=by
 rcases rle_total x y with k | k
 ·exact (h.sub_iv hx.1 hy.2).fixed k fun z hz=>hg z ⟨rle_trans hx.1 hz.1,rle_trans hz.2 hy.2⟩
 ·exact ((h.sub_iv hy.1 hx.2).fixed k fun z hz=>hg z ⟨rle_trans hy.1 hz.1,rle_trans hz.2 hx.2⟩).symm
theorem Dv.inv {f g u:R→R} {a b:R} (h:Dv f g a b) {M:R} (hM:0≤M) (hu:∀ x,In a b x→u x*f x=1∧ab (u x)≤M):Dv u (fun x=>-(g x*(u x*u x))) a b:=by
 obtain ⟨C,hC,hb,hq⟩:=h
 have hMM:=rmul_nonneg hM hM
 have hMMM:=rmul_nonneg hM hMM
 have h1:=rmul_nonneg hC hMM
 have h2:=rmul_nonneg (rmul_nonneg hC hC) hMMM
 refine ⟨M+C*(M*M)+C*C*(M*(M*M)),by grind,fun x hx=>?_,fun x y hx hy=>?_⟩
 ·have k1:=(hu x hx).2
  have k2:=rmul_mono k1 k1 (ab_nonneg _) hM
  have k3:=rmul_mono (hb x hx).2 k2 (ab_nonneg _) hMM
  rw [ab_neg,ab_mul,ab_mul]; grind
 ·have k1:=hu x hx; have k2:=hu y hy
  have k3:=hq x y hx hy
  have hn:=ab_nonneg (y-x)
  have hsq:=sq_nonneg (y-x)
  have e0:ab (y-x)*ab (y-x)=(y-x)*(y-x):=by rw [← ab_mul,ab_of hsq]
  have e1:u y-u x = -(u x*u y*(f y-f x)):=by grind
  have m1:=rmul_mono k1.2 k2.2 (ab_nonneg _) hM
  have l1:ab (u y-u x)≤C*(M*M)*ab (y-x):=by
   rw [e1,ab_neg,ab_mul,ab_mul]
   have:=rmul_mono m1 k3.1 (rmul_nonneg (ab_nonneg _) (ab_nonneg _)) (rmul_nonneg hC hn)
   grind
  constructor
  ·have:=rmul_nonneg hM hn
   have:=rmul_nonneg h2 hn
   grind
  ·have e2:u y-u x - -(g x*(u x*u x))*(y-x) = -(u x*u y*(f y-f x-g x*(y-x)))-g x*u x*(y-x)*(u y-u x):=by
    have:u x*u y*(f y-f x)=u x-u y:=by grind
    grind
   have q1:=ab_sub (-(u x*u y*(f y-f x-g x*(y-x)))) (g x*u x*(y-x)*(u y-u x))
   rw [ab_neg,ab_mul,ab_mul,ab_mul (g x*u x*(y-x)),ab_mul (g x*u x),ab_mul (g x)] at q1
   have q2:=rmul_mono m1 k3.2 (rmul_nonneg (ab_nonneg _) (ab_nonneg _)) (rmul_nonneg hC hsq)
   have q3:=rmul_mono (hb x hx).2 k1.2 (ab_nonneg _) hM
   have q4:=rmul_mono (rmul_le q3 hn) l1 (rmul_nonneg (rmul_nonneg (ab_nonneg _) (ab_nonneg _)) hn) (rmul_nonneg h1 hn)
   have q5:C*M*ab (y-x)*(C*(M*M)*ab (y-x))=C*C*(M*(M*M))*((y-x)*(y-x)):=by rw [← e0]; grind
   have q6:=rmul_nonneg hM hsq
   rw [e2]; grind
noncomputable def rf:Nat→R
 | 0=>1
 | n+1=>rf n*((n+1:Nat):R)⁻¹
theorem cast_pos (n:Nat):(0:R)<((n+1:Nat):R):=by rw [cast_succ]; have:=cast_nonneg n; have:=rzero_lt_one; grind
theorem rf_succ (n:Nat):((n+1:Nat):R)*rf (n+1)=rf n:=by
 have:=mul_inv (x:=((n+1:Nat):R)) (by have:=cast_pos n; grind)
 rw [show rf (n+1)=rf n*((n+1:Nat):R)⁻¹ from rfl]; grind
theorem rf_pos (n:Nat):0<rf n:=by
 induction n with
 | zero=>exact rzero_lt_one
 | succ n ih=>exact rmul_pos ih (inv_pos (cast_pos n))
theorem upto (u:Nat→R) (N:Nat):∃ K,∀ n,n≤N→u n≤K:=by
 induction N with
 | zero=>exact ⟨u 0,fun n hn=>by rw [Nat.le_zero.1 hn]; exact rle_refl _⟩
 | succ N ih=>
  obtain ⟨K,hK⟩:=ih
  have h1:=le_ab K
  have h2:=le_ab (u (N+1))
  refine ⟨ab K+ab (u (N+1)),fun n hn=>?_⟩
  have h3:=ab_nonneg K
  have h4:=ab_nonneg (u (N+1))
  rcases Nat.lt_or_ge N n with k | k
  ·rw [show n=N+1 by omega]; grind
  ·have:=hK n k; grind
theorem rf_bound {r:R} (hr:0<r):∃ K,∀ n,rf n*r ^ n≤K:=by
 obtain ⟨N,hN⟩:=arch r
 obtain ⟨K,hK⟩:=upto (fun n=>rf n*r ^ n) N
 refine ⟨K,fun n=>?_⟩
 induction n with
 | zero=>exact hK 0 (Nat.zero_le _)
 | succ n ih=>
  rcases Nat.lt_or_ge n N with k | k
  ·exact hK (n+1) k
  ·have h1:=rf_succ n
   have h2:r≤((n+1:Nat):R):=rle_trans hN (cast_le (by omega))
   have h3:=rmul_nonneg (show 0≤rf (n+1) by have:=rf_pos (n+1); grind) (pow_nonneg (show 0≤r by grind) n)
   have h4:=rmul_le' h2 h3
   have h5:rf (n+1)*r ^ n*((n+1:Nat):R)=rf n*r ^ n:=by rw [← h1]; grind
   rw [rpow_succ]; grind
theorem PB.of {a:Nat→R} (h:∀ n,ab (a n)≤rf n) {r:R} (hr:0<r):∃ K,PB a r K:=by
 obtain ⟨K,hK⟩:=rf_bound hr
 exact ⟨K,hr,fun n=>rle_trans (rmul_le (h n) (pow_nonneg (by grind) n)) (hK n)⟩
theorem Dv.rf {a:Nat→R} (h:∀ n,ab (a n)≤rf n) {s:R} (hs:0≤s):Dv (An.ps a) (An.ps (An.da a)) (-s) s:=by
 obtain ⟨K,hK⟩:=PB.of h (r:=s+1) (by have:=rzero_lt_one; grind)
 exact Dv.ps hK hs (by have:=rzero_lt_one; grind)
noncomputable def E (x:R):R:=ps rf x
theorem in_of {s x:R} (h:ab x≤s):In (-s) s x:=ab_le.1 h
theorem Dv.back {f g:R→R} {s c:R} (h:Dv f g (-(s+ab c)) (s+ab c)):Dv (fun t=>f (c-t)) (fun t=>-g (c-t)) (-s) s:=by
 have h1:=((Dv.const c (-s) s).sub (Dv.id (-s) s)).comp h (fun x hx=>by
  have:=le_ab c
  have:=hx.1
  have:=hx.2
  exact ⟨by grind,by grind⟩)
 exact h1.congr (fun _ _=>rfl) fun x _=>by grind
theorem half_ex (x:R):∃ y,x=y+y:=⟨x*ofQ (1 / 2),by have k:=ofQ_half 1; rw [ofQ_one] at k; grind⟩
def sg4:Nat→R × R
 | 0=>(0,1)
 | n+1=>((sg4 n).2,-(sg4 n).1)
def sS (n:Nat):R:=(sg4 n).1
def sC (n:Nat):R:=(sg4 n).2
theorem sS_succ (n:Nat):sS (n+1)=sC n:=rfl
theorem sC_succ (n:Nat):sC (n+1) = -sS n:=rfl
theorem sg_ab (n:Nat):ab (sS n)≤1∧ab (sC n)≤1:=by
 induction n with
 | zero=>exact ⟨by rw [show sS 0=0 from rfl,ab_zero]; have:=rzero_lt_one; grind,by rw [show sC 0=1 from rfl,ab_one]; exact rle_refl _⟩
 | succ n ih=>rw [sS_succ,sC_succ,ab_neg]; exact ⟨ih.2,ih.1⟩
noncomputable def cs (n:Nat):R:=sS n*rf n
noncomputable def cco (n:Nat):R:=sC n*rf n
noncomputable def S (x:R):R:=ps cs x
noncomputable def C (x:R):R:=ps cco x
theorem sg_rf {a:R} (n:Nat) (h:ab a≤1):ab (a*rf n)≤rf n:=by
 rw [ab_mul,ab_of (show 0≤rf n by have:=rf_pos n; grind)]
 have:=rmul_le h (show 0≤rf n by have:=rf_pos n; grind); grind
theorem cs_ab (n:Nat):ab (cs n)≤rf n:=sg_rf n (sg_ab n).1
theorem cc_ab (n:Nat):ab (cco n)≤rf n:=sg_rf n (sg_ab n).2
theorem da_cs:da cs=cco:=funext fun n=>by rw [da,cs,cco,sS_succ]; have:=rf_succ n; grind
theorem da_cc:da cco=fun n=>-cs n:=funext fun n=>by rw [da,cs,cco,sC_succ]; have:=rf_succ n; grind
theorem psum_neg (a:Nat→R) (x:R) (n:Nat):psum (fun n=>-a n) x n = -psum a x n:=by
 induction n with
 | zero=>show (0:R) = -0; grind
 | succ n ih=>show psum (fun n=>-a n) x n + -a n*x ^ n = -(psum a x n+a n*x ^ n); rw [ih]; grind
theorem ps_rf {a:Nat→R} (h:∀ n,ab (a n)≤rf n) (x:R):Conv (psum a x) (ps a x):=by
 obtain ⟨K,hK⟩:=PB.of h (r:=ab x+1) (by have:=ab_nonneg x; have:=rzero_lt_one; grind)
 exact ps_conv hK (by have:=rzero_lt_one; grind)
theorem ps_neg_cs (x:R):ps (fun n=>-cs n) x = -S x:=ps_eq ((ps_rf cs_ab x).neg.congr fun n=>(psum_neg cs x n).symm)
theorem S_dv {s:R} (hs:0≤s):Dv S C (-s) s:=by
 have:=Dv.rf cs_ab hs
 rwa [da_cs] at this
theorem C_dv {s:R} (hs:0≤s):Dv C (fun x=>-S x) (-s) s:=by
 have:=Dv.rf cc_ab hs
 rw [da_cc] at this
 exact this.congr (fun _ _=>rfl) fun x _=>ps_neg_cs x
theorem S_zero:S 0=0:=by rw [S,ps_zero,cs,show sS 0=0 from rfl]; grind
theorem C_zero:C 0=1:=by rw [C,ps_zero,cco,show sC 0=1 from rfl,show rf 0=1 from rfl]; grind
theorem S_add (x y:R):S (x+y)=S x*C y+C x*S y:=by
 have hs:0≤ab x+ab (x+y):=by have:=ab_nonneg x; have:=ab_nonneg (x+y); grind
 generalize hsd:ab x+ab (x+y)=s at hs
 have hn:=ab_nonneg (x+y)
 have h1:=((S_dv hs).mul (Dv.back (s:=s) (c:=x+y) (C_dv (by grind)))).add ((C_dv hs).mul (Dv.back (s:=s) (c:=x+y) (S_dv (by grind))))
 have h2:=h1.same (fun t _=>by grind) (x:=0) (y:=x) (in_of (by rw [ab_zero]; exact hs)) (in_of (by grind))
 rw [S_zero,C_zero,show x+y-0=x+y by grind,show x+y-x=y by grind] at h2
 grind
theorem C_add (x y:R):C (x+y)=C x*C y-S x*S y:=by
 have hs:0≤ab x+ab (x+y):=by have:=ab_nonneg x; have:=ab_nonneg (x+y); grind
 generalize hsd:ab x+ab (x+y)=s at hs
 have hn:=ab_nonneg (x+y)
 have h1:=((C_dv hs).mul (Dv.back (s:=s) (c:=x+y) (C_dv (by grind)))).sub ((S_dv hs).mul (Dv.back (s:=s) (c:=x+y) (S_dv (by grind))))
 have h2:=h1.same (fun t _=>by grind) (x:=0) (y:=x) (in_of (by rw [ab_zero]; exact hs)) (in_of (by grind))
 rw [S_zero,C_zero,show x+y-0=x+y by grind,show x+y-x=y by grind] at h2
 grind
theorem SC_one (x:R):S x*S x+C x*C x=1:=by
 have hs:=ab_nonneg x
 have h1:=((S_dv hs).mul (S_dv hs)).add ((C_dv hs).mul (C_dv hs))
 have h2:=h1.same (fun t _=>by grind) (x:=0) (y:=x) (in_of (by rw [ab_zero]; exact hs)) (in_of (rle_refl _))
 rw [S_zero,C_zero] at h2; grind
theorem SC_neg (x:R):S (-x) = -S x∧C (-x)=C x:=by
 have h1:=S_add x (-x)
 have h2:=C_add x (-x)
 rw [show x + -x=0 by grind,S_zero] at h1
 rw [show x + -x=0 by grind,C_zero] at h2
 have h3:=SC_one x
 generalize S x=s at *
 generalize C x=c at *
 have e1:s*(s*C (-x)+c*S (-x))=0:=by rw [← h1]; grind
 have e2:c*(c*C (-x)-s*S (-x))=c:=by rw [← h2]; grind
 have e3:c*(s*C (-x)+c*S (-x))=0:=by rw [← h1]; grind
 have e4:s*(c*C (-x)-s*S (-x))=s:=by rw [← h2]; grind
 have e5:(s*s+c*c)*C (-x)=c:=by grind
 have e6:(s*s+c*c)*S (-x) = -s:=by grind
 rw [h3] at e5 e6
 exact ⟨by grind,by grind⟩
theorem S_le (x:R):ab (S x)≤1∧ab (C x)≤1:=by
 have h:=SC_one x
 have h1:=sq_nonneg (S x)
 have h2:=sq_nonneg (C x)
 have key:∀ z:R,z*z≤1→ab z≤1:=by
  intro z hz
  rcases rle_total (ab z) 1 with k | k
  ·exact k
  ·have h3:=rmul_mono k k (by have:=rzero_lt_one; grind) (ab_nonneg z)
   have h4:ab z*ab z=z*z:=by rw [← ab_mul,ab_of (sq_nonneg z)]
   have h5:=rmul_le' k (ab_nonneg z)
   grind
 exact ⟨key _ (by grind),key _ (by grind)⟩
theorem Dv.bnd {f g:R→R} {a b:R} (h:Dv f g a b):∃ M,0≤M∧∀ x,In a b x→ab (f x)≤M:=by
 obtain ⟨C,hC,hb,_⟩:=h
 exact ⟨C,hC,fun x hx=>(hb x hx).1⟩
theorem Dv.compE {f g f' g':R→R} {a b:R} (h:Dv f g a b) (k:∀ s,0≤s→Dv f' g' (-s) s):Dv (fun x=>f' (f x)) (fun x=>g' (f x)*g x) a b:=by
 obtain ⟨M,hM,hb⟩:=h.bnd
 exact h.comp (k M hM) fun x hx=>ab_le.1 (hb x hx)
theorem sq_zero {x:R} (h:x*x=0):x=0:=by
 rcases Classical.em (x=0) with k | k
 ·exact k
 ·have:=mul_inv k; grind
theorem one_pow (n:Nat):(1:R) ^ n=1:=by
 induction n with
 | zero=>rfl
 | succ n ih=>rw [rpow_succ,ih]; grind
theorem PB.one {a:Nat→R} (h:∀ n,ab (a n)≤1):PB a 1 1:=⟨rzero_lt_one,fun n=>by rw [one_pow]; have:=h n; grind⟩
theorem inv_le_one (n:Nat):((n+1:Nat):R)⁻¹≤1:=by
 have h1:=mul_inv (x:=((n+1:Nat):R)) (by have:=cast_pos n; grind)
 have h2:=rmul_le (show (1:R)≤((n+1:Nat):R) by rw [cast_succ]; have:=cast_nonneg n; grind) (show 0≤((n+1:Nat):R)⁻¹ by have:=inv_pos (cast_pos n); grind)
 grind
theorem over_ab {a:Nat→R} (h0:a 0=0) (h:∀ n,ab (a n)≤1) (n:Nat):ab (a n*((n:Nat):R)⁻¹)≤1:=by
 cases n with
 | zero=>rw [h0,show (0:R)*((0:Nat):R)⁻¹=0 by grind,ab_zero]; have:=rzero_lt_one; grind
 | succ n=>
  have hp:=inv_pos (cast_pos n)
  rw [ab_mul,ab_of (show 0≤((n+1:Nat):R)⁻¹ by grind)]
  have:=rmul_mono (h (n+1)) (inv_le_one n) (ab_nonneg _) (show (0:R)≤1 by have:=rzero_lt_one; grind)
  grind
theorem over_da {a:Nat→R} (n:Nat):da (fun n=>a n*((n:Nat):R)⁻¹) n=a (n+1):=by
 have:=mul_inv (x:=((n+1:Nat):R)) (by have:=cast_pos n; grind)
 rw [da]; grind
noncomputable def atc (n:Nat):R:=sS n*((n:Nat):R)⁻¹
noncomputable def A (x:R):R:=ps atc x
noncomputable def Q (x:R):R:=ps sC x
theorem atc_pb:PB atc 1 1:=PB.one (over_ab rfl fun n=>(sg_ab n).1)
theorem sC_pb:PB sC 1 1:=PB.one fun n=>(sg_ab n).2
theorem A_zero:A 0=0:=by rw [A,ps_zero,atc,show sS 0=0 from rfl]; grind
theorem A_dv {s:R} (hs:0≤s) (h1:s<1):Dv A Q (-s) s:=by
 have:=Dv.ps atc_pb hs h1
 rwa [show da atc=sC from funext over_da] at this
theorem Q_fin (x:R) (n:Nat):psum sC x (n+2)+psum sC x n*(x*x)=1:=by
 induction n with
 | zero=>rw [show psum sC x (0+2)=0+1*x ^ 0 + -0*x ^ (0+1) from rfl,show psum sC x 0=0 from rfl,rpow_zero]; grind
 | succ n ih=>
  rw [show psum sC x (n+1+2)=psum sC x (n+2)+sC (n+2)*x ^ (n+2) from rfl,show psum sC x (n+1)=psum sC x n+sC n*x ^ n from rfl,show sC (n+2) = -sC n from rfl,rpow_succ,rpow_succ]; grind
theorem Q_eq {x:R} (h:ab x<1):Q x*(1+x*x)=1:=by
 have c:=ps_conv sC_pb h
 have h1:=(c.shift 2).add (c.mul_c (x*x))
 have h2:=h1.congr fun n=>Q_fin x n
 have:=h2.uniq (Conv.const 1)
 rw [Q]; grind
theorem Q_dv {s:R} (hs:0≤s) (h1:s<1):Dv Q (fun x=>-((x+x)*(Q x*Q x))) (-s) s:=by
 obtain ⟨M,hM,hb⟩:=(Dv.ps sC_pb hs h1).bnd
 have h2:=(Dv.const 1 (-s) s).add ((Dv.id (-s) s).mul (Dv.id (-s) s))
 refine (h2.inv hM fun x hx=>⟨?_,hb x hx⟩).congr (fun _ _=>rfl) fun x _=>?_
 ·have:=Q_eq (x:=x) (by have:=ab_le.2 hx; grind)
  exact this
 ·show -((0+(1*x+x*1))*(ps sC x*ps sC x)) = -((x+x)*(Q x*Q x))
  rw [Q]; grind
theorem tan_A {z:R} (h:ab z<1):S (A z)=z*C (A z):=by
 have hs:=ab_nonneg z
 have dA:=A_dv hs h
 have dS:=dA.compE fun s hs=>S_dv hs
 have dC:=dA.compE fun s hs=>C_dv hs
 have dD:=dC.add ((Dv.id (-ab z) (ab z)).mul dS)
 have dW:=(dD.mul dD).mul (Q_dv hs h)
 have hz:=dW.same (fun x hx=>by
  have hq:=Q_eq (x:=x) (by have:=ab_le.2 hx; grind)
  generalize Q x=q at *
  generalize S (A x)=u at *
  generalize C (A x)=v at *
  have e1 : -u*q+(1*u+x*(v*q))=x*q*(v+x*u):=by
   have:u=u*(q*(1+x*x)):=by rw [hq]; grind
   grind
  rw [e1]; grind) (x:=0) (y:=z) (in_of (by rw [ab_zero]; exact hs)) (in_of (rle_refl _))
 have q0:Q 0=1:=by rw [Q,ps_zero]; rfl
 rw [A_zero,S_zero,C_zero,q0] at hz
 have hq:=Q_eq h
 have h1:=SC_one (A z)
 generalize Q z=q at *
 generalize S (A z)=u at *
 generalize C (A z)=v at *
 have h2:(v+z*u)*(v+z*u)*q=1:=by grind
 have h3:(v+z*u)*(v+z*u)=1+z*z:=by
  have:(v+z*u)*(v+z*u)*(q*(1+z*z))=1*(1+z*z):=by rw [← h2]; grind
  rw [hq] at this; grind
 have h4:(u-z*v)*(u-z*v)=0:=by
  have:(u-z*v)*(u-z*v)+(v+z*u)*(v+z*u)=(1+z*z)*(u*u+v*v):=by grind
  rw [h3,h1] at this; grind
 have:=sq_zero h4
 grind
def eo:Nat→R × R
 | 0=>(0,1)
 | n+1=>((eo n).2,(eo n).1)
def od (n:Nat):R:=(eo n).1
noncomputable def ahc (n:Nat):R:=od n*((n:Nat):R)⁻¹
noncomputable def H (x:R):R:=ps ahc x
noncomputable def Ln (y:R):R:=H ((y-1)*(y+1)⁻¹)+H ((y-1)*(y+1)⁻¹)
noncomputable def hp:R:=8*A (ofQ (1 / 5))-2*A (ofQ (1 / 239))
theorem q_ab {q:Rat} (h:0≤q) (h1:q<1):ab (ofQ q)<1:=by
 rw [ab_of (show 0≤ofQ q from ofQ_le.2 h)]; exact ofQ_lt.2 h1
theorem hp_eq:S hp=1∧C hp=0:=by
 have a1:=tan_A (q_ab (q:=1 / 5) (by decide +kernel) (by decide +kernel))
 have a2:=tan_A (q_ab (q:=1 / 239) (by decide +kernel) (by decide +kernel))
 have f5:5*ofQ (1 / 5)=1:=by rw [show (5:R)=ofQ 5 from rfl,← ofQ_mul,show (5:Rat)*(1 / 5)=1 by decide +kernel]; rfl
 have f239:239*ofQ (1 / 239)=1:=by rw [show (239:R)=ofQ 239 from rfl,← ofQ_mul,show (239:Rat)*(1 / 239)=1 by decide +kernel]; rfl
 rw [hp]
 generalize ofQ (1 / 5)=s at *
 generalize ofQ (1 / 239)=t at *
 generalize A s=a at *
 generalize A t=b at *
 have o1:=SC_one a
 have o2:=SC_one b
 have d1:=S_add a a
 have d2:=C_add a a
 have q1:=S_add (a+a) (a+a)
 have q2:=C_add (a+a) (a+a)
 have p1:=S_add (a+a+(a+a)) (-b)
 have p2:=C_add (a+a+(a+a)) (-b)
 rw [(SC_neg b).1,(SC_neg b).2] at p1 p2
 have r1:=S_add (a+a+(a+a) + -b) (a+a+(a+a) + -b)
 have r2:=C_add (a+a+(a+a) + -b) (a+a+(a+a) + -b)
 have o3:=SC_one (a+a+(a+a) + -b)
 rw [show 8*a-2*b=a+a+(a+a) + -b+(a+a+(a+a) + -b) by grind]
 generalize S (a+a+(a+a) + -b)=X at *
 generalize C (a+a+(a+a) + -b)=Y at *
 generalize S (a+a+(a+a))=S4 at *
 generalize C (a+a+(a+a))=C4 at *
 generalize S (a+a)=S2 at *
 generalize C (a+a)=C2 at *
 generalize C a=c at *
 generalize C b=e at *
 have g1:5*S a=c:=by rw [a1]; grind
 have g2:239*S b=e:=by rw [a2]; grind
 clear a1 a2
 generalize S a=u at *
 generalize S b=v at *
 have k1:12*S2=5*C2:=by rw [d1,d2,← g1]; grind
 have k2:119*S4=120*C4:=by
  have:S2*C2*12=5*(C2*C2):=by grind
  have:144*(S2*S2)=25*(C2*C2):=by grind
  rw [q1,q2]; grind
 have k3:119*X=119*Y:=by
  rw [p1,p2,← g2]
  have h1:119*(S4*(239*v))=120*239*(C4*v):=by grind
  have h2:119*(S4*v)=120*(C4*v):=by grind
  grind
 have k4:X=Y:=by grind
 rw [k4] at o3 r1 r2
 exact ⟨by grind,by grind⟩
theorem S_hp (x:R):S (x+hp)=C x:=by rw [S_add,hp_eq.1,hp_eq.2]; grind
noncomputable def hf:R:=ofQ (1 / 2)
end Go.An
namespace Go.Proofs.YtoakhpdeadglpaaGreat.Gen
open Go Go.Abs Go.Plain Go.An
structure Mem (a:I) (x:R):Prop where
 lo:ofQ (val a.lo)≤x
 hi:x≤ofQ (val a.hi)
structure Has (r:I × Int) (x:R) (L H:Int):Prop where
 e:r.2=0
 ok:OkI r.1 L H
 m:Mem r.1 x
theorem Has.mono {r:I × Int} {x:R} {L H L' H':Int} (h:Has r x L H) (h1:L'≤L) (h2:H≤H'):Has r x L' H':=⟨h.e,h.ok.mono h1 h2,h.m⟩
theorem Mem.le {a b:I} {x:R} (ha:Mem a x) (hb:Mem b x):val a.lo≤val b.hi:=ofQ_le.1 (rle_trans ha.lo hb.hi)
theorem Okd_half {k L H:Int} (h1:L≤k) (h2:k≤H) (h3 : -60000≤k∧k≤60000):Okd ⟨1,k⟩ L H:=by
 refine ⟨WD_half h3,by rw [val_half]; exact G.mono ⟨1,by simp⟩ h1,?_⟩
 rw [val_half]
 have:=p2_le h2
 have:=p2_pos k
 have:=p2_pos H
 exact ⟨by grind,by grind⟩
theorem make_val {m e:Int} {k:Nat} (hm:blen m.natAbs≤k) (he : -60000≤e∧e+k≤60000):∃ d,makeD m e=(d,true)∧Okd d e (e+k)∧val d=(m:Rat)*p2 e:=by
 have hv:=val_nrm m e
 have hg:G e (val (nrm m e)):=by rw [hv]; exact G.of (Int.le_refl _)
 have hb:B (e+k) (val (nrm m e)):=by
  rw [hv]
  have h1:=blen_lt m.natAbs
  have h2:m.natAbs≤2 ^ k:=by
   have:2 ^ blen m.natAbs≤2 ^ k:=Nat.pow_le_pow_right (by decide) hm
   omega
  have h3:=rep_bound h2 e
  have hp:=p2_pos e
  have h5:(m:Rat)≤(m.natAbs:Rat)∧-(m.natAbs:Rat)≤(m:Rat):=by
   have e1:=intCast_le (show m≤(m.natAbs:Int) by omega)
   have e2:=intCast_le (show -(m.natAbs:Int)≤m by omega)
   rw [Rat.intCast_natCast] at e1
   rw [Rat.intCast_neg,Rat.intCast_natCast] at e2
   exact ⟨e1,e2⟩
  have h6:=Rat.mul_le_mul_of_nonneg_right h5.1 (Rat.le_of_lt hp)
  have h7:=Rat.mul_le_mul_of_nonneg_right h5.2 (Rat.le_of_lt hp)
  unfold B
  grind
 obtain ⟨-,h2⟩:=told_ok (d:=nrm m e) (nrm_ok _ _) hg hb (by omega) (by omega)
 refine ⟨nrm m e,?_,h2,hv⟩
 unfold makeD
 rw [if_pos (inR_of (nrm_ok _ _) hg hb (by omega) (by omega))]
theorem mag_two {x:AD} (hx:gAD x) (k:Nat):blen (sg x.M.Neg (dval (x.M.Mag.take (min x.M.Mag.length k)))).natAbs≤32*k:=by
 rw [sg_abs']
 have:=blen_of_len (dig_take (g_dig hx) (min x.M.Mag.length k))
 rw [List.length_take] at this
 have h2:32*min (min x.M.Mag.length k) x.M.Mag.length≤32*k:=Nat.mul_le_mul_left _ (by omega)
 omega
theorem mag_mn {x:AD} (hx:gAD x) {k:Nat} : mn (x.M.Mag.length:Int) (k:Int)=((min x.M.Mag.length k:Nat):Int):=by unfold mn; split<;>omega
end Go.Proofs.YtoakhpdeadglpaaGreat.Gen
namespace Go.An
theorem sizeR {f g:R→R} (h:∀ s,0≤s→Dv f g (-s) s) {x M:R} (hM:∀ z,ab z≤ab x→ab (g z)≤M):ab (f x-f 0)≤M*ab x:=by
 have hs:=ab_nonneg x
 have d:=h _ hs
 have hg:∀ z,In (-ab x) (ab x) z→-M≤g z∧g z≤M:=fun z hz=>ab_le.1 (hM z (ab_le.2 hz))
 rcases rle_total 0 x with k | k
 ·have e:=ab_of k
  have b:=(d.sub_iv (c:=0) (d:=x) (by grind) (by grind)).between k (m:=-M) (M:=M) fun z hz=>hg z ⟨by have:=hz.1; grind,by have:=hz.2; grind⟩
  rw [e]; exact ab_le.2 (by grind)
 ·have e:ab x = -x:=by rw [← ab_neg]; exact ab_of (by grind)
  have b:=(d.sub_iv (c:=x) (d:=0) (by grind) (by grind)).between k (m:=-M) (M:=M) fun z hz=>hg z ⟨by have:=hz.1; grind,by have:=hz.2; grind⟩
  rw [e]; exact ab_le.2 (by grind)
theorem S_size (x:R):ab (S x)≤ab x:=by
 have h:=sizeR (fun s hs=>S_dv hs) (x:=x) (M:=1) fun z _=>(S_le z).2
 rw [S_zero] at h
 have e:S x-0=S x:=by grind
 rw [e] at h; grind
theorem C_size (x:R):1-x*x≤C x:=by
 have h:=sizeR (fun s hs=>C_dv hs) (x:=x) (M:=ab x) fun z hz=>by
  rw [ab_neg]; exact rle_trans (S_size z) hz
 rw [C_zero] at h
 have e:ab x*ab x=x*x:=by rw [← ab_mul,ab_of (sq_nonneg x)]
 rw [e] at h
 have:=(ab_le.1 h).1
 grind
theorem sq_lt_one {u:R} (h:ab u<1):u*u<1:=by
 have e:ab u*ab u=u*u:=by rw [← ab_mul,ab_of (sq_nonneg u)]
 have h1:=rmul_le (show ab u≤1 by grind) (ab_nonneg u)
 grind
theorem S_pos {u:R} (h0:0<u) (h1:u<1):0<S u:=by
 have hu:ab u=u:=ab_of (by grind)
 have hq:=sq_lt_one (u:=u) (by grind)
 have b:=((S_dv (s:=u) (by grind)).sub_iv (c:=0) (d:=u) (by grind) (by grind)).between (by grind) (m:=1-u*u) (M:=1) fun z hz=>by
  have k1:=C_size z
  have k2:=rmul_mono hz.2 hz.2 hz.1 (show 0≤u by grind)
  have k3:=(ab_le.1 (S_le z).2).2
  exact ⟨by grind,k3⟩
 rw [S_zero] at b
 have:=rmul_pos (show 0<1-u*u by grind) h0
 grind
end Go.An
namespace Go.Proofs.YtoakhpdeadglpaaGreat.Gen
open Go Go.Abs Go.Plain Go.An
structure HasW (r:I × Int) (x:R) (L H:Int) (w:Rat):Prop where
 h:Has r x L H
 w:val r.1.hi-val r.1.lo≤w
theorem HasW.mono {r:I × Int} {x:R} {L H L' H':Int} {w w':Rat} (h:HasW r x L H w) (h1:L'≤L) (h2:H≤H') (h3:w≤w'):HasW r x L' H' w':=⟨h.h.mono h1 h2,by have:=h.w; grind⟩
end Go.Proofs.YtoakhpdeadglpaaGreat.Gen
namespace Go.An
def q4:Nat→Rat × Rat
 | 0=>(0,1)
 | n+1=>((q4 n).2,-(q4 n).1)
def atq (n:Nat):Rat:=(q4 n).1*(n:Rat)⁻¹
def qsum (a:Nat→Rat) (x:Rat):Nat→Rat
 | 0=>0
 | n+1=>qsum a x n+a n*x ^ n
theorem q4_eq (n:Nat):sg4 n=(ofQ (q4 n).1,ofQ (q4 n).2):=by
 induction n with
 | zero=>rfl
 | succ n ih=>rw [sg4,q4,ih,ofQ_neg]
theorem over_q {a:R} {q:Rat} {n:Nat} (h:a=ofQ q) (h0:n=0→q=0):a*((n:Nat):R)⁻¹=ofQ (q*(n:Rat)⁻¹):=by
 cases n with
 | zero=>rw [h,h0 rfl,Rat.zero_mul]; show (0:R)*_=0; grind
 | succ n=>rw [h,ofQ_mul,ofQ_inv (by exact_mod_cast Nat.succ_ne_zero n),ofQ_nat]
theorem atc_q (n:Nat):atc n=ofQ (atq n):=over_q (by rw [sS,q4_eq]) (by rintro rfl; rfl)
theorem psum_q {a:Nat→R} {b:Nat→Rat} (h:∀ n,a n=ofQ (b n)) (x:Rat) (n:Nat):psum a (ofQ x) n=ofQ (qsum b x n):=by
 induction n with
 | zero=>rfl
 | succ n ih=>rw [psum,qsum,ih,h,ofQ_add,ofQ_mul,ofQ_pow]
theorem geo_q {q:Rat} (h0:0≤q) (h1:q<1):Geo (ofQ q) (ofQ (1-q)⁻¹):=⟨ofQ_le.2 h0,ofQ_lt.2 h1,by
 rw [← ofQ_one,← ofQ_sub,← ofQ_mul,Rat.inv_mul_cancel _ (by grind)]⟩
theorem near_q {a:Nat→R} {b:Nat→Rat} (h:∀ n,a n=ofQ (b n)) (hb:∀ n,ab (a n)≤1) {q:Rat} (h0:0≤q) (h1:q<1) (n:Nat):ofQ (qsum b q n-(1-q)⁻¹*q ^ n)≤ps a (ofQ q)∧ps a (ofQ q)≤ofQ (qsum b q n+(1-q)⁻¹*q ^ n):=by
 have h2:=ps_tail (PB.one hb) (geo_q h0 h1) (x:=ofQ q) (by rw [ab_of (ofQ_le.2 h0)]; grind) n
 rw [psum_q h,← ofQ_pow] at h2
 have h3:=ab_le.1 h2
 rw [ofQ_sub,ofQ_add,ofQ_mul]
 exact ⟨by grind,by grind⟩
theorem A_q {q:Rat} (h0:0≤q) (h1:q<1) (n:Nat):ofQ (qsum atq q n-(1-q)⁻¹*q ^ n)≤A (ofQ q)∧A (ofQ q)≤ofQ (qsum atq q n+(1-q)⁻¹*q ^ n):=near_q atc_q (over_ab rfl fun n=>(sg_ab n).1) h0 h1 n
theorem pi_q:(31415926535897932384626433832794 / 10000000000000000000000000000000:Rat)≤16*(qsum atq (1 / 5) 50-(1-1 / 5)⁻¹*(1 / 5) ^ 50)-4*(qsum atq (1 / 239) 16+(1-1 / 239)⁻¹*(1 / 239) ^ 16)∧16*(qsum atq (1 / 5) 50+(1-1 / 5)⁻¹*(1 / 5) ^ 50)-4*(qsum atq (1 / 239) 16-(1-1 / 239)⁻¹*(1 / 239) ^ 16)≤(31415926535897932384626433832796 / 10000000000000000000000000000000:Rat):=by decide +kernel
theorem pi_near:ofQ (31415926535897932384626433832794 / 10000000000000000000000000000000)≤hp+hp∧hp+hp≤ofQ (31415926535897932384626433832796 / 10000000000000000000000000000000):=by
 have a1:=A_q (q:=1 / 5) (by decide +kernel) (by decide +kernel) 50
 have a2:=A_q (q:=1 / 239) (by decide +kernel) (by decide +kernel) 16
 have h1:=ofQ_le.2 pi_q.1
 have h2:=ofQ_le.2 pi_q.2
 have e16:ofQ 16=16:=rfl
 have e4:ofQ 4=4:=rfl
 generalize qsum atq (1 / 5) 50-(1-1 / 5)⁻¹*(1 / 5) ^ 50=l1 at *
 generalize qsum atq (1 / 5) 50+(1-1 / 5)⁻¹*(1 / 5) ^ 50=u1 at *
 generalize qsum atq (1 / 239) 16-(1-1 / 239)⁻¹*(1 / 239) ^ 16=l2 at *
 generalize qsum atq (1 / 239) 16+(1-1 / 239)⁻¹*(1 / 239) ^ 16=u2 at *
 rw [ofQ_sub,ofQ_mul,ofQ_mul,e16,e4] at h1 h2
 rw [hp]
 generalize A (ofQ (1 / 5))=x at *
 generalize A (ofQ (1 / 239))=y at *
 exact ⟨by grind,by grind⟩
def bnN:Nat→Int
 | 1=>1 | 2=>-1 | 3=>1 | 4=>-1 | 5=>5 | 6=>-691 | 7=>7 | 8=>-3617 | 9=>43867 | 10=>-174611 | _=>0
def bnD:Nat→Nat
 | 1=>6 | 2=>30 | 3=>42 | 4=>30 | 5=>66 | 6=>2730 | 7=>6 | 8=>510 | 9=>798 | 10=>330 | _=>1
def cK (k:Nat):Rat:=(bnN k:Rat) / ((bnD k*2*k*(2*k-1):Nat):Rat)
noncomputable def stS (y:R):Nat→R
 | 0=>0
 | k+1=>stS y k+ofQ (cK (k+1))*y⁻¹ ^ (2*k+1)
noncomputable def st (K:R) (y:R):R:=(y-hf)*Ln y-y+stS y 10+K
end Go.An
namespace Go.Proofs.YtoakhpdeadglpaaGreat.Gen
open Go Go.Abs Go.Plain Go.An
theorem okd_size {d:D} {L H:Int} (h:Okd d L H) (h0:d.m≠0):L≤d.e∧d.e+(blen d.m.natAbs:Nat)≤H+1:=⟨G_e h.w.odd0 h0 h.g,B_size h0 h.b⟩
def Far (l:Int) (x:Rat):Prop:=x=0∨p2 l≤x∨x ≤ -p2 l
theorem Far.neg {l:Int} {x:Rat} (h:Far l x):Far l (-x):=by
 rcases h with h | h | h
 ·left; grind
 ·right; right; grind
 ·right; left; grind
structure HasF (r:I × Int) (x:R) (l:Int) (p:Nat) (H:Int):Prop where
 h:Has r x (l-p) H
 lo:Far l (val r.1.lo)
 hi:Far l (val r.1.hi)
theorem Far.mono {l m:Int} {x:Rat} (h:Far l x) (k:m≤l):Far m x:=by
 have:=p2_le k
 rcases h with h | h | h
 ·exact Or.inl h
 ·right; left; grind
 ·right; right; grind
theorem HasF.mono {r:I × Int} {x:R} {l m H K:Int} {p:Nat} (h:HasF r x l p H) (k:m≤l) (hH:H≤K):HasF r x m p K:=⟨h.h.mono (by omega) hH,h.lo.mono k,h.hi.mono k⟩
structure Rel (c:I) (α:Rat):Prop where
 pos:0<val c.lo
 le:val c.lo≤val c.hi
 rel:val c.hi≤val c.lo*(1+α)
end Go.Proofs.YtoakhpdeadglpaaGreat.Gen
namespace Go.An
theorem hp_bounds:(1:R)<hp∧hp<2:=by
 have h:=pi_near
 have a:=ofQ_le.2 (show (3:Rat)≤31415926535897932384626433832794 / 10000000000000000000000000000000 by decide +kernel)
 have b:=ofQ_le.2 (show (31415926535897932384626433832796 / 10000000000000000000000000000000:Rat)≤16 / 5 by decide +kernel)
 have c:=ofQ_lt.2 (show (16 / 5:Rat)<4 by decide +kernel)
 have e3:ofQ 3=(1:R)+1+1:=by rw [← ofQ_one,← ofQ_add,← ofQ_add]; exact congrArg ofQ (by decide +kernel)
 have e4:ofQ 4=(1:R)+1+1+1:=by rw [← ofQ_one,← ofQ_add,← ofQ_add,← ofQ_add]; exact congrArg ofQ (by decide +kernel)
 have e2:(2:R)=1+1:=by grind
 have h01:=rzero_lt_one
 rw [e3] at a
 rw [e4] at c
 constructor<;>grind
theorem S_two (u:R):S (u+u)=2*(S u*C u):=by rw [S_add]; grind
theorem C_pos1 {u:R} (h:ab u<1):0<C u:=by
 have a:=C_size u
 have b:=sq_lt_one h
 grind
theorem S_pos2 {u:R} (h0:0<u) (h2:u<2):0<S u:=by
 obtain ⟨v,rfl⟩:=half_ex u
 have h01:=rzero_lt_one
 have v0:0<v:=by grind
 have v1:v<1:=by grind
 have a:=S_pos v0 v1
 have b:=C_pos1 (u:=v) (by rw [ab_of (by grind)]; exact v1)
 have m:=rmul_pos a b
 rw [S_two]
 grind
theorem C_pos {u:R} (h1 : -hp<u) (h2:u<hp):0<C u:=by
 have hb:=hp_bounds
 have key:∀ t:R,0≤t→t<hp→0<C t:=by
  intro t t0 t1
  have s:=S_pos2 (u:=hp-t) (by grind) (by grind)
  have e:S (hp-t)=C t:=by
   rw [show hp-t = -t+hp by grind,S_hp,(SC_neg t).2]
  rwa [e] at s
 rcases Classical.em (0≤u) with k | k
 ·exact key u k h2
 ·have:=key (-u) (by grind) (by grind)
  rwa [(SC_neg u).2] at this
theorem S_pos_pi {u:R} (h0:0<u) (h2:u<hp+hp):0<S u:=by
 obtain ⟨v,rfl⟩:=half_ex u
 have hb:=hp_bounds
 have h01:=rzero_lt_one
 have a:=S_pos2 (u:=v) (by grind) (by grind)
 have b:=C_pos (u:=v) (by grind) (by grind)
 have m:=rmul_pos a b
 rw [S_two]
 grind
structure Tan (x a:R):Prop where
 lo : -hp<a
 hi:a<hp
 t:S a=x*C a
theorem Tan.sub {x y a b:R} (h:Tan x a) (k:Tan y b):S (b-a)=(y-x)*(C a*C b):=by
 rw [show b-a=b + -a by grind,S_add,(SC_neg a).1,(SC_neg a).2,h.t,k.t]; grind
theorem Tan.lt {x y a b:R} (h:Tan x a) (k:Tan y b) (hab:a<b):x<y:=by
 have a1:=h.lo; have a2:=h.hi; have b1:=k.lo; have b2:=k.hi
 have s:=S_pos_pi (u:=b-a) (by grind) (by grind)
 rw [h.sub k] at s
 have c:=rmul_pos (C_pos a1 a2) (C_pos b1 b2)
 rcases Classical.em (x<y) with g | g
 ·exact g
 ·have:=rmul_nonneg (show 0≤x-y by grind) (show 0≤C a*C b by grind)
  grind
theorem Tan.mono {x y a b:R} (h:Tan x a) (k:Tan y b) (hxy:x≤y):a≤b:=by
 rcases Classical.em (a≤b) with g | g
 ·exact g
 ·have:=k.lt h (show b<a by grind); grind
theorem Tan.inj {x a b:R} (h:Tan x a) (k:Tan x b):a=b:=rle_antisymm (h.mono k (rle_refl _)) (k.mono h (rle_refl _))
theorem Tan.neg {x a:R} (h:Tan x a):Tan (-x) (-a):=by
 have a1:=h.lo; have a2:=h.hi
 refine ⟨by grind,by grind,?_⟩
 rw [(SC_neg a).1,(SC_neg a).2,h.t]; grind
end Go.An
namespace Go.Proofs.YtoakhpdeadglpaaGreat.Gen
open Go Go.Abs Go.Plain Go.An
structure PR (w:Nat) (c:I) (z:R) (l K:Int) (α:Rat):Prop where
 h:Has (c,0) z (l-w) K
 r:Rel c α
 lo:p2 l≤val c.lo
 rl:rep w (val c.lo)
 rh:rep w (val c.hi)
theorem PR.hi {w:Nat} {c:I} {z:R} {l K:Int} {α:Rat} (h:PR w c z l K α):val c.hi≤p2 K:=h.h.ok.hi.b.2
theorem PR.mono {w:Nat} {c:I} {z:R} {l K l' K':Int} {α β:Rat} (h:PR w c z l K α) (h1:l'≤l) (h2:K≤K') (h3:α≤β):PR w c z l' K' β:=
 ⟨h.h.mono (by omega) h2,⟨h.r.pos,h.r.le,by
  have a:=h.r.rel
  have b:=Rat.mul_le_mul_of_nonneg_left (show 1+α≤1+β by grind) (Rat.le_of_lt h.r.pos)
  grind⟩,Rat.le_trans (p2_le h1) h.lo,h.rl,h.rh⟩
def nodeM (j:Nat):I × Int:=mS 64 (piS 64 0).1 (iS ((2*j+1:Nat):Int) (piS 64 0).2).1 (iS ((2*j+1:Nat):Int) (piS 64 0).2).2
def nodeA (j d:Nat):I × Int:=dS 64 (nodeM j).1 (iS ((2*d+2:Nat):Int) (nodeM j).2).1 (iS ((2*d+2:Nat):Int) (nodeM j).2).2
def nodeB (b:D × Int):D × Int:=if b.2≠0 then (zD,b.2) else if (sinR b.1 64 1).2≠0 then (zD,(sinR b.1 64 1).2) else st b.2 zD (midI 64 (sinR b.1 64 1).1)
def nodeR (j d:Nat):D × Int:=nodeB (st (nodeA j d).2 zD (midI 64 (nodeA j d).1))
theorem bindE_WD {r:D × Int} {f:D→D × Int} (h:WD (f r.1).1):WD (bindE r zD f).1:=by
 unfold bindE
 split
 ·exact h
 ·exact WD_z
theorem WD_mid {p:Nat} {a:I} : WD (midI p a).1:=bindE_WD (bindE_WD (bindE_WD WD_round))
theorem WD_st {e:Int} {r:D × Int} (h:WD r.1):WD (st e zD r).1:=by
 unfold st
 split
 ·exact h
 ·exact WD_z
theorem Node_in {j d:Nat} (hd:1≤d∧d≤16) (hj:j≤d):cheb_Node (j:Int) (d:Int)=some (dy (nodeR j d).1,(nodeR j d).2):=by
 obtain ⟨q,hq⟩:∃ q:Nat,q=64:=⟨64,rfl⟩
 have hw:2≤q∧q≤400:=by omega
 have e0:cheb_Node (j:Int) (d:Int)=cheb_Node_j1 (j:Int) (d:Int) false:=by
  unfold cheb_Node cheb_degree cheb_degree_j1
  rw [if_pos (by omega),decide_eq_true (by omega)]
  simp only [obn]
  rw [if_neg (by simp),if_neg (by omega),decide_eq_false (by omega)]
 have en:iv_New 64=some (Sum.inr (0,0,(q:Int))):=by rw [← ivNew_eq hw,hq]; rfl
 have eq:(64:Int)=(q:Int):=by rw [hq]; rfl
 rw [e0]
 unfold nodeR nodeB nodeA nodeM cheb_Node_j1 iv_trouble_Err
 rw [if_neg (by simp),en,← hq,eq]
 simp only [obn]
 have e1:=Pi_eq hw 0
 have s1:=SI_pi hw.2 0
 generalize piS q 0=P at *
 rw [e1]
 simp only [obn]
 have e2:=pInt (n:=((2*j+1:Nat):Int)) (by omega) P.2 (q:Int)
 have s2:=SI_iS (n:=((2*j+1:Nat):Int)) (by omega) P.2
 rw [w64 (x:=2*(j:Int)) (by omega) (by omega),w64 (x:=2*(j:Int)+1) (by omega) (by omega),show 2*(j:Int)+1=((2*j+1:Nat):Int) by omega]
 generalize iS ((2*j+1:Nat):Int) P.2=c1 at *
 refine Eq.trans (congrArg (fun o=>Option.bind o _) e2) ?_
 simp only [obn]
 have e3:=pMul hw s1 s2 c1.2
 have s3:=SI_mS hw.2 P.1 c1.1 c1.2
 generalize mS q P.1 c1.1 c1.2=m at *
 refine Eq.trans (congrArg (fun o=>Option.bind o _) e3) ?_
 simp only [obn]
 have e4:=pInt (n:=((2*d+2:Nat):Int)) (by omega) m.2 (q:Int)
 have s4:=SI_iS (n:=((2*d+2:Nat):Int)) (by omega) m.2
 rw [w64 (x:=2*(d:Int)) (by omega) (by omega),w64 (x:=2*(d:Int)+2) (by omega) (by omega),show 2*(d:Int)+2=((2*d+2:Nat):Int) by omega]
 generalize iS ((2*d+2:Nat):Int) m.2=c2 at *
 refine Eq.trans (congrArg (fun o=>Option.bind o _) e4) ?_
 simp only [obn]
 have e5:=pDiv hw s3 s4 c2.2
 have s5:=SI_dS hw.2 m.1 s4 c2.2
 generalize dS q m.1 c2.1 c2.2=k at *
 refine Eq.trans (congrArg (fun o=>Option.bind o _) e5) ?_
 simp only [obn]
 have e6:=ivMid_eq s5.ok hw k.2
 have w6:WD (st k.2 zD (midI q k.1)).1:=WD_st WD_mid
 generalize st k.2 zD (midI q k.1)=b at *
 refine Eq.trans (congrArg (fun o=>Option.bind o _) e6) ?_
 simp only [obn]
 by_cases h1:b.2=0
 ·have e7:=tCos_eq w6 (q:Int)
  have s7:SI (sinR b.1 (q:Int) 1).1:=SI_sinR w6
  rw [if_neg (by simpa using h1),if_neg (by simpa using h1)]
  generalize sinR b.1 (q:Int) 1=v at *
  refine Eq.trans (congrArg (fun o=>Option.bind o _) e7) ?_
  simp only [obn]
  by_cases h2:v.2=0
  ·rw [if_neg (by simpa using h2),if_neg (by simpa using h2)]
   refine Eq.trans (congrArg (fun o=>Option.bind o _) (ivMid_eq s7.ok hw b.2)) ?_
   rfl
  ·rw [if_pos h2,if_pos h2,dy_z]
 ·rw [if_pos h1,if_pos h1,dy_z]
theorem node01:(nodeR 0 1).2=0∧0<cmpD (nodeR 0 1).1 ⟨1,-1⟩∧cmpD (nodeR 0 1).1 (fromD 1)<0:=by decide +kernel
theorem nodeR_WD {j d:Nat} : WD (nodeR j d).1:=by
 unfold nodeR nodeB
 split
 ·exact WD_z
 ·split
  ·exact WD_z
  ·exact WD_st WD_mid
theorem node00:cheb_Node 0 0=some (⟨⟨false,[]⟩,0⟩,1):=rfl
theorem build15:((cheb_Build 8 0 ⟨⟨false,[1]⟩,0⟩ 0 10 4 9).map fun x=>(x.2.2,x.2.1))=some (3,0):=by decide +kernel
theorem from15:r05_From 1=some ⟨⟨false,[1]⟩,0⟩:=rfl
theorem half15:r05_Half (-1)=some ⟨⟨false,[1]⟩,-1⟩:=rfl
theorem dy_one:dy (fromD 1)=⟨⟨false,[1]⟩,0⟩:=Option.some.inj ((rFrom5_eq (n:=1) (by omega)).symm.trans from15)
theorem dy_half:dy ⟨1,-1⟩=⟨⟨false,[1]⟩,-1⟩:=Option.some.inj ((rHalf_eq (e:=-1) (by omega)).symm.trans half15)
theorem examples15:l15_examples=some true:=by
 obtain ⟨n1,n2,n3⟩:=node01
 have e:=Node_in (j:=0) (d:=1) (by omega) (by omega)
 have w:WD (nodeR 0 1).1:=nodeR_WD
 obtain ⟨b,eb,hb⟩:=Option.map_eq_some_iff.1 build15
 simp only [Prod.mk.injEq] at hb
 have c1:=rCmp5_eq w (WD_half (k:=-1) (by omega))
 have c2:=rCmp5_eq w (WD_from (n:=1) (by omega))
 rw [dy_half] at c1
 rw [dy_one] at c2
 generalize nodeR 0 1=v at *
 have e:cheb_Node 0 1=some (dy v.1,v.2):=e
 unfold l15_examples l15_examples_j1
 rw [node00]
 simp only [obn]
 rw [from15]
 simp only [obn]
 rw [eb]
 simp only [obn]
 rw [e]
 simp only [obn]
 rw [if_pos True.intro,if_pos hb.1,if_pos hb.2,if_pos n1,half15]
 simp only [obn]
 refine Eq.trans (congrArg (fun o=>Option.bind o _) c1) ?_
 simp only [obn]
 rw [if_pos n2]
 refine Eq.trans (congrArg (fun o=>Option.bind o _) c2) ?_
 simp only [obn]
 rw [decide_eq_true n3]
def pt (x:D):I:=⟨x,x⟩
theorem pt_ok {x:D} {L H:Int} (h:Okd x L H):OkI (pt x) L H:=⟨h,h,Rat.le_refl⟩
theorem pt_enc {c:I} {p:Nat} {z:D} (en:Enc p c (val z) (val z)) (o:okI c) (w:WD z) (r:rep p (val z)):c=pt z:=by
 have h1:=en.lo
 have h2:=en.blo _ r Rat.le_refl
 have h3:=en.hi
 have h4:=en.bhi _ r Rat.le_refl
 exact I_ext o ⟨w,w,Rat.le_refl⟩ (by show val c.lo=val z; grind) (by show val c.hi=val z; grind)
theorem pt_mul {x y z:D} {L H M K:Int} (hx:Okd x L H) (hy:Okd y M K) (hz:WD z) (vz:val z=val x*val y) {p:Nat} (hp:1≤p) (r:rep p (val z)) (hL : -60000≤L+M) (hH:H+K≤60000):mS p (pt x) (pt y) 0=(pt z,0):=by
 obtain ⟨c,u,v,e,o,en,pr⟩:=mulI_ok (pt_ok hx) (pt_ok hy) hp hL hH
 have hu:u=val z:=by rw [vz]; rcases pr.mu with q | q | q | q<;>exact q
 have hv:v=val z:=by rw [vz]; rcases pr.mv with q | q | q | q<;>exact q
 rw [hu,hv] at en
 rw [← pt_enc en o.ok hz r]
 unfold mS
 rw [st_zero]; exact e
theorem pt_add {x y z:D} {L H:Int} (hx:Okd x L H) (hy:Okd y L H) (hz:WD z) (vz:val z=val x+val y) {p:Nat} (hp:1≤p) (r:rep p (val z)) (hL : -60000≤L) (hH:H+1≤60000):aS p (pt x) (pt y) 0=(pt z,0):=by
 obtain ⟨c,e,o,en⟩:=addI_ok (pt_ok hx) (pt_ok hy) hp hL hH
 have en:Enc p c (val x+val y) (val x+val y):=en
 rw [← vz] at en
 rw [← pt_enc en o.ok hz r]
 unfold aS
 rw [st_zero]; exact e
theorem pt_sub {x y z:D} {L H:Int} (hx:Okd x L H) (hy:Okd y L H) (hz:WD z) (vz:val z=val x-val y) {p:Nat} (hp:1≤p) (r:rep p (val z)) (hL : -60000≤L) (hH:H+1≤60000):suS p (pt x) (pt y) 0=(pt z,0):=by
 obtain ⟨c,e,o,en⟩:=addI_ok (pt_ok hx) (pt_ok hy.neg) hp hL hH
 have en:Enc p c (val x+val (negD y)) (val x+val (negD y)):=en
 rw [val_neg,show val x + -val y=val z by rw [vz]; grind] at en
 rw [← pt_enc en o.ok hz r]
 unfold suS
 rw [st_zero]; exact e
theorem pt_scale {x z:D} {L H n:Int} (hx:Okd x L H) (hz:WD z) (vz:val z=val x*p2 n) (hL : -60000≤L+n) (hH:H+n≤60000):scS (pt x) n 0=(pt z,0):=by
 obtain ⟨c,e,o,e1,e2⟩:=scaleI_ok (n:=n) (pt_ok hx) hL hH
 have:c=pt z:=I_ext o.ok ⟨hz,hz,Rat.le_refl⟩ (by rw [e1]; exact vz.symm) (by rw [e2]; exact vz.symm)
 subst this
 unfold scS
 rw [st_zero]; exact e
theorem rep_okd {d:D} {L H:Int} (h:Okd d L H) {p:Nat} (hp:H+1-L≤p):rep p (val d):=by
 refine ⟨d.m,d.e,rfl,?_⟩
 by_cases h0:d.m=0
 ·rw [h0]; simp
 ·have:=okd_size h h0
  have b:=blen_lt d.m.natAbs
  have:2 ^ blen d.m.natAbs≤2 ^ p:=Nat.pow_le_pow_right (by decide) (by omega)
  omega
theorem pt_SI {d:D} {L H:Int} (h:Okd d L H) (hb:H+1-L≤400):SI (pt d):=by
 have:blen d.m.natAbs≤1000:=by
  by_cases h0:d.m=0
  ·rw [h0]; decide
  ·have:=okd_size h h0; omega
 exact SI_pS h.w this 0
theorem short1_ok {d:D} {L H:Int} (h:Okd d L H) (hb:H+1-L≤400):cheb_short_1 (dy d)=some false:=by
 have:blen d.m.natAbs≤400:=by
  by_cases h0:d.m=0
  ·rw [h0]; decide
  ·have:=okd_size h h0; omega
 unfold cheb_short_1 cheb_short_1_j1
 rw [dyad_Right_dy h.w.1 h.w.sz]
 simp only [obn]
 rw [if_neg (by simp),bits_dy h.w.sz]
 simp only [obn]
 rw [decide_eq_false (by omega)]
theorem index_l {l:List D} (hl:∀ d ∈ l,cheb_short_1 (dy d)=some false) (hs:l.length≤1000):∀ (k i:Nat),i+k=l.length→∀ f,k<f→slices_IndexFunc_api_Dy_api_Dy_4130_l2 (l.map dy) f (i:Int)=some (-1):=by
 intro k
 induction k with
 | zero=>
  intro i hi f hf
  obtain ⟨f,rfl⟩:∃ g,f=g+1:=⟨f-1,by omega⟩
  rw [slices_IndexFunc_api_Dy_api_Dy_4130_l2,List.length_map,if_neg (by omega)]
  rfl
 | succ k ih=>
  intro i hi f hf
  obtain ⟨f,rfl⟩:∃ g,f=g+1:=⟨f-1,by omega⟩
  rw [slices_IndexFunc_api_Dy_api_Dy_4130_l2,List.length_map,if_pos (by omega),if_pos (by omega),Int.toNat_natCast]
  have e:(l.map dy).getD i zAD=dy (l[i]'(by omega)):=by simp [List.getD,show i<l.length by omega]
  rw [e]
  refine Eq.trans (congrArg (fun o=>Option.bind o _) (hl _ (List.getElem_mem _))) ?_
  simp only [obn]
  rw [if_neg (by simp),w64 (by omega) (by omega),show (i:Int)+1=((i+1:Nat):Int) by omega]
  exact ih (i+1) (by omega) f (by omega)
theorem short_ok {l:List D} (hl:∀ d ∈ l,cheb_short_1 (dy d)=some false) (hs:l.length≤1000):cheb_short (l.map dy)=some true:=by
 have:=index_l hl hs l.length 0 (by omega) fuel (by unfold fuel; omega)
 unfold cheb_short slices_ContainsFunc_api_Dy_api_Dy_4130 slices_IndexFunc_api_Dy_api_Dy_4130
 rw [show (0:Int)=((0:Nat):Int) from rfl,this]
 rfl
theorem fits_line {a c e:D} (ha:cheb_short_1 (dy a)=some false) (hc:cheb_short_1 (dy c)=some false) (he:cheb_short_1 (dy e)=some false) {W:Int} (hW : -64≤W∧W≤64):cheb_fits ⟨dy a,W,[dy c,dy e],⟨⟨false,[]⟩,0⟩⟩=some true:=by
 have hz:cheb_short_1 (dy zD)=some false:=short1_ok (Okd_z 0 0) (by omega)
 have s1:=short_ok (l:=[a,zD]) (by intro d hd; simp at hd; rcases hd with rfl | rfl<;>assumption) (by simp)
 have s2:=short_ok (l:=[c,e]) (by intro d hd; simp at hd; rcases hd with rfl | rfl<;>assumption) (by simp)
 simp only [List.map_cons,List.map_nil,dy_z] at s1 s2
 unfold cheb_fits cheb_fits_j1
 simp only [s1,s2,obn]
 rw [if_pos True.intro,if_pos (by simp),if_pos (by omega),if_pos hW.2,if_pos (by simp),if_pos (by simp)]
theorem val1 {t u c r:D} (ht:Okd t 0 1) (hu:Okd u (-16) 16) (hc:Okd c (-16) 16) (hr:Okd r (-16) 18) (vr:val r=val t*val u+val c) {k:Int} {C:List AD} (hk:0≤k∧k<(C.length:Int)) (hC:C.getD k.toNat zAD=dy c) (n1:Bool) (l1:List Int) (z1 z2:Int) (n2:Bool) (l2:List Int) (z3:Int) :
  cheb_Value_1 (iv (pt t)) k 0 ((96:Nat):Int) (iv (pt u)).Lo.M.Neg (iv (pt u)).Lo.M.Mag (iv (pt u)).Lo.E (iv (pt u)).Hi.M.Neg (iv (pt u)).Hi.M.Mag (iv (pt u)).Hi.E (iv (pt zD)).Lo.M.Neg (iv (pt zD)).Lo.M.Mag (iv (pt zD)).Lo.E (iv (pt zD)).Hi.M.Neg (iv (pt zD)).Hi.M.Mag (iv (pt zD)).Hi.E n1 l1 z1 z2 C n2 l2 z3=some (iv (pt r),0):=by
 obtain ⟨p,hp⟩:∃ p:Nat,p=96:=⟨96,rfl⟩
 rw [← hp]
 have hw:2≤p∧p≤400:=by omega
 obtain ⟨m,-,vm,hm⟩:=times_ok ht hu (by omega) (by omega)
 have hm:Okd m (-16) 17:=hm
 have hz:=Okd_z (-16) 17
 have hc':=hc.mono (Int.le_refl _) (show (16:Int)≤17 by omega)
 have e1:=pMul hw (pt_SI ht (by omega)) (pt_SI hu (by omega)) 0
 rw [pt_mul ht hu hm.w vm (by omega) (rep_okd hm (by omega)) (by omega) (by omega)] at e1
 have e2:=pSub hw (pt_SI hm (by omega)) (pt_SI hz (by omega)) 0
 rw [pt_sub hm hz hm.w (by rw [val_z]; grind) (by omega) (rep_okd hm (by omega)) (by omega) (by omega)] at e2
 have e3:cv_Point (dy c) 0 (p:Int)=some (iv (pt c),0):=pPS hc.w 0 (p:Int)
 have e4:=pAdd hw (pt_SI hm (by omega)) (pt_SI hc' (by omega)) 0
 rw [pt_add hm hc' hr.w (by rw [vr,vm]) (by omega) (rep_okd hr (by omega)) (by omega) (by omega)] at e4
 unfold cheb_Value_1
 refine Eq.trans (congrArg (fun o=>Option.bind o _) e1) ?_
 simp only [obn]
 refine Eq.trans (congrArg (fun o=>Option.bind o _) e2) ?_
 simp only [obn]
 rw [if_pos hk,hC]
 refine Eq.trans (congrArg (fun o=>Option.bind o _) e3) ?_
 simp only [obn]
 refine Eq.trans (congrArg (fun o=>Option.bind o _) e4) ?_
 rfl
theorem from_zero:fromD 0=zD:=by decide +kernel
theorem int_zero:intI 0=pt zD:=by unfold intI pt; rw [from_zero]
theorem value_j3 {a c e t r:D} {W:Int} (ht:Okd t 0 0) (hc:Okd c (-16) 16) (he:Okd e (-16) 16) (hr:Okd r (-16) 18) (vr:val r=val t*val e+val c):cheb_Value_j3 ⟨dy a,W,[dy c,dy e],⟨⟨false,[]⟩,0⟩⟩ 0 (dy t).M.Neg (dy t).M.Mag (dy t).E=some (iv (pt r),0):=by
 obtain ⟨p,hp⟩:∃ p:Nat,p=96:=⟨96,rfl⟩
 have hw:2≤p∧p≤400:=by omega
 obtain ⟨tw,-,vt,htw⟩:=scale_ok (n:=1) ht (by omega) (by omega)
 have htw:Okd tw 1 1:=htw
 have htw:=htw.mono (show (0:Int)≤1 by omega) (Int.le_refl _)
 have en:iv_New 96=some (Sum.inr (0,0,(p:Int))):=by rw [← ivNew_eq hw,hp]; rfl
 have e1:cv_Point (dy t) 0 (p:Int)=some (iv (pt t),0):=pPS ht.w 0 (p:Int)
 have e2:=pScale (pt_SI ht (by omega)) (n:=1) (by omega) 0 (p:Int)
 rw [pt_scale (n:=1) ht htw.w vt (by omega) (by omega)] at e2
 have e3:cv_Int 0 0 (p:Int)=some (iv (pt zD),0):=by rw [pInt (n:=0) (by omega) 0 (p:Int),← int_zero]; rfl
 have ht1:=ht.mono (Int.le_refl _) (show (0:Int)≤1 by omega)
 have v1:=fun k hk hC n1 l1 z1 z2 n2 l2 z3=>val1 (k:=k) (C:=[dy c,dy e]) htw (Okd_z (-16) 16) he (he.mono (Int.le_refl _) (by omega)) (by rw [val_z]; grind) hk hC n1 l1 z1 z2 n2 l2 z3
 have v2:=fun k hk hC n1 l1 z1 z2 n2 l2 z3=>val1 (k:=k) (C:=[dy c,dy e]) ht1 he hc hr vr hk hC n1 l1 z1 z2 n2 l2 z3
 rw [← hp] at v1 v2
 unfold cheb_Value_j3
 rw [if_neg (by simp),en]
 simp only [obn]
 refine Eq.trans (congrArg (fun o=>Option.bind o _) e1) ?_
 simp only [obn]
 refine Eq.trans (congrArg (fun o=>Option.bind o _) e2) ?_
 simp only [obn]
 refine Eq.trans (congrArg (fun o=>Option.bind o _) e3) ?_
 simp only [obn]
 refine Eq.trans (congrArg (fun o=>Option.bind o _) e3) ?_
 simp only [obn]
 obtain ⟨f,hf⟩:∃ f,fuel=f+1+1:=⟨fuel-2,by unfold fuel; omega⟩
 rw [show IntKind.i64.wrap (([dy c,dy e].length:Int)-1)=1 from rfl,hf,cheb_Value_l5,if_pos (by omega)]
 refine Eq.trans (congrArg (fun o=>Option.bind o _) (v1 1 (by simp) rfl _ _ _ _ _ _ _)) ?_
 simp only [obn]
 rw [show IntKind.i64.wrap (1-1)=0 from rfl,cheb_Value_l5,if_neg (by omega)]
 unfold cheb_Value_j4 iv_trouble_Err
 refine Eq.trans (congrArg (fun o=>Option.bind o _) (v2 0 (by simp) rfl _ _ _ _ _ _ _)) ?_
 simp only [obn]
theorem take_ok (x:D):cheb_line_take (dy x) 0 0=some (dy x,0):=by
 unfold cheb_line_take cheb_line_take_j1
 rw [if_pos rfl,if_neg (by simp)]
theorem Value_line {a x c e m d t r:D} {W:Int} (hW : -64≤W∧W≤64) (ha:Okd a (-100) 100) (hx:Okd x (-100) 100) (em:addD a ⟨1,W-1⟩=(m,0)) (hm:WD m) (ed:addD x (negD m)=(d,0)) (hd:WD d) (et:scaleD d (1-W)=(t,0)) (ht:Okd t 0 0) (hc:Okd c (-16) 16) (he:Okd e (-16) 16) (hr:Okd r (-16) 18) (vr:val r=val t*val e+val c):cheb_Value ⟨dy a,W,[dy c,dy e],⟨⟨false,[]⟩,0⟩⟩ (dy x)=some (iv (pt r),0):=by
 have s1:=short_ok (l:=[x]) (by intro d hd; simp at hd; rw [hd]; exact short1_ok hx (by omega)) (by simp)
 simp only [List.map_cons,List.map_nil] at s1
 have s2:=fits_line (a:=a) (short1_ok ha (by omega)) (short1_ok hc (by omega)) (short1_ok he (by omega)) hW
 have e1:=dyad_Add_eq ha.w (WD_half (k:=W-1) (by omega))
 rw [em] at e1
 have e2:=dyad_Sub_eq hx.w hm
 rw [ed] at e2
 have e3:=dyad_Scale_eq hd (n:=1-W) (by omega)
 rw [et] at e3
 unfold cheb_Value
 rw [s1]
 simp only [obn]
 rw [if_neg (by simp),s2]
 simp only [obn]
 unfold cheb_Value_j1 cheb_middle
 rw [if_neg (by simp)]
 simp only
 rw [w64 (x:=W-1) (by omega) (by omega),dyad_Half_eq (by omega)]
 simp only [obn]
 refine Eq.trans (congrArg (fun o=>Option.bind (Option.bind o _) _) e1) ?_
 simp only [obn]
 refine Eq.trans (congrArg (fun o=>Option.bind o _) (take_ok m)) ?_
 simp only [obn]
 rw [if_pos True.intro]
 refine Eq.trans (congrArg (fun o=>Option.bind o _) e2) ?_
 simp only [obn]
 refine Eq.trans (congrArg (fun o=>Option.bind o _) (take_ok d)) ?_
 simp only [obn]
 unfold cheb_Value_j2
 rw [if_pos rfl]
 simp only
 rw [w64 (x:=1-W) (by omega) (by omega)]
 refine Eq.trans (congrArg (fun o=>Option.bind o _) e3) ?_
 simp only [obn]
 refine Eq.trans (congrArg (fun o=>Option.bind o _) (take_ok t)) ?_
 simp only [obn]
 exact value_j3 ht hc he hr vr
theorem line_t {x m:D} {W:Int} (hW : -20≤W∧W≤20) (hx:Okd x (-60) 60) (hm:Okd m (-60) 60) (s:Int) (hs : -1≤s∧s≤1) (v:val x-val m=(s:Rat)*p2 (W-1)):∃ d t,addD x (negD m)=(d,0)∧WD d∧scaleD d (1-W)=(t,0)∧Okd t 0 0∧val t=(s:Rat):=by
 obtain ⟨d,e1,v1,o1⟩:=add_ok hx hm.neg (by omega) (by omega)
 rw [val_neg] at v1
 have vd:val d=(s:Rat)*p2 (W-1):=by rw [← v,v1]; grind
 have pw:=p2_pos (W-1)
 have s1:(s:Rat)≤1:=by have:=intCast_le hs.2; exact_mod_cast this
 have s2 : -1≤(s:Rat):=by have:=intCast_le hs.1; rw [show ((-1:Int):Rat) = -1 from rfl] at this; exact this
 have k1:=Rat.mul_le_mul_of_nonneg_right s1 (Rat.le_of_lt pw)
 have k2:=Rat.mul_le_mul_of_nonneg_right s2 (Rat.le_of_lt pw)
 have od:Okd d (W-1) (W-1):=⟨o1.w,⟨s,vd⟩,⟨by rw [vd]; grind,by rw [vd]; grind⟩⟩
 obtain ⟨t,e2,v2,o2⟩:=scale_ok (n:=1-W) od (by omega) (by omega)
 rw [show W-1+(1-W)=0 by omega] at o2
 refine ⟨d,t,e1,o1.w,e2,o2,?_⟩
 rw [v2,vd,Rat.mul_assoc,← p2_add,show W-1+(1-W)=0 by omega,p2_zero,Rat.mul_one]
theorem mk15 {x:AD} (hx:gAD x):∃ d,Okd d (-16) 16∧∀ f:AD→Option Bool,(if 0≤(0:Int)∧(0:Int)≤(mn (x.M.Mag.length:Int) 1)∧(mn (x.M.Mag.length:Int) 1)≤(x.M.Mag.length:Int) then ((r04_Make x.M.Neg (x.M.Mag.take ((mn (x.M.Mag.length:Int) 1).toNat))).bind fun x119=>((r05_Make (x119) (-16)).bind fun x120=>f ⟨((x120.1).M),(x120.1).E⟩)) else none)=f (dy d):=by
 have hd:=g_dig hx
 have hb:=mag_two hx 1
 obtain ⟨d,h1,h2,-⟩:=make_val (k:=32) hb (e:=-16) (by omega)
 refine ⟨d,h2.mono (Int.le_refl _) (by omega),fun f=>?_⟩
 have hm:=mag_mn hx (k:=1)
 rw [show ((1:Nat):Int)=1 by rfl] at hm
 rw [hm,if_pos (by omega),Int.toNat_natCast,rMake_eq (dig_take hd _) (by rw [List.length_take]; omega)]
 simp only [obn]
 rw [rMake5_eq (by unfold SZ; omega) (by omega),h1]
 rfl
theorem dy15 {x y:D} (hx:WD x):l15_dy (dy x) (dy y)=some (decide (x=y)):=by
 unfold l15_dy
 rw [same5_eq hx.sz]
 rfl
theorem line_j2 {a c e:D} (ha:Okd a (-16) 16) (hc:Okd c (-16) 16) (he:Okd e (-16) 16) {y:Nat} : l15_ChebLine_j2 (y:Int) true [dy a,dy c,dy e]=some true:=by
 obtain ⟨W,hW,h1⟩:∃ W:Int,IntKind.i64.wrap ((y:Int).tmod 41-20)=W∧-20≤W∧W≤20:=by
  rw [show (41:Int)=((41:Nat):Int) by rfl,tmodn,w64 (by omega) (by omega)]
  exact ⟨_,rfl,by omega,by omega⟩
 have ha':=ha.mono (show (-40:Int) ≤ -16 by omega) (show (16:Int)≤40 by omega)
 have o1:Okd ⟨1,W⟩ (-40) 40:=Okd_half (by omega) (by omega) (by omega)
 have o2:Okd ⟨1,W-1⟩ (-40) 40:=Okd_half (by omega) (by omega) (by omega)
 obtain ⟨z,ez,vz,hz⟩:=add_ok ha' o1 (by omega) (by omega)
 obtain ⟨m,em,vm,hm⟩:=add_ok ha' o2 (by omega) (by omega)
 obtain ⟨s,es,vs,hs⟩:=add_ok hc he (by omega) (by omega)
 obtain ⟨q,eq,vq,hq⟩:=add_ok hc he.neg (by omega) (by omega)
 rw [val_neg] at vq
 rw [val_half] at vz vm
 have pw:p2 W=2*p2 (W-1):=by rw [show W=1+(W-1) by omega,p2_add,show (1+(W-1))-1=W-1 by omega]; rfl
 have ma:=ha'.mono (show (-60:Int) ≤ -40 by omega) (show (40:Int)≤60 by omega)
 have mz:=hz.mono (show (-60:Int) ≤ -40 by omega) (show (40+1:Int)≤60 by omega)
 have mm:=hm.mono (show (-60:Int) ≤ -40 by omega) (show (40+1:Int)≤60 by omega)
 obtain ⟨d1,t1,a1,a2,a3,a4,a5⟩:=line_t h1 ma mm (-1) (by omega) (by rw [vm,show ((-1:Int):Rat) = -1 from rfl]; grind)
 obtain ⟨d2,t2,b1,b2,b3,b4,b5⟩:=line_t h1 mz mm 1 (by omega) (by rw [vm,vz,pw,show ((1:Int):Rat)=1 from rfl]; grind)
 obtain ⟨d3,t3,c1,c2,c3,c4,c5⟩:=line_t h1 mm mm 0 (by omega) (by rw [show ((0:Int):Rat)=0 from rfl]; grind)
 have w1:=ma.mono (show (-100:Int) ≤ -60 by omega) (show (60:Int)≤100 by omega)
 have w2:=mz.mono (show (-100:Int) ≤ -60 by omega) (show (60:Int)≤100 by omega)
 have w3:=mm.mono (show (-100:Int) ≤ -60 by omega) (show (60:Int)≤100 by omega)
 have V1:=Value_line (c:=c) (e:=e) (r:=q) ⟨by omega,by omega⟩ w1 w1 em hm.w a1 a2 a3 a4 hc he (hq.mono (Int.le_refl _) (by omega)) (by rw [vq,a5,show ((-1:Int):Rat) = -1 from rfl]; grind)
 have V2:=Value_line (c:=c) (e:=e) (r:=s) ⟨by omega,by omega⟩ w1 w2 em hm.w b1 b2 b3 b4 hc he (hs.mono (Int.le_refl _) (by omega)) (by rw [vs,b5,show ((1:Int):Rat)=1 from rfl]; grind)
 have V3:=Value_line (c:=c) (e:=e) (r:=c) ⟨by omega,by omega⟩ w1 w3 em hm.w c1 c2 c3 c4 hc he (hc.mono (Int.le_refl _) (by omega)) (by rw [c5,show ((0:Int):Rat)=0 from rfl]; grind)
 have f1:=dyad_Add_eq ha.w (WD_half (k:=W) (by omega))
 rw [ez] at f1
 have f2:=dyad_Add_eq ha.w (WD_half (k:=W-1) (by omega))
 rw [em] at f2
 have f3:=dyad_Add_eq hc.w he.w
 rw [es] at f3
 have f4:=dyad_Sub_eq hc.w he.w
 rw [eq] at f4
 have g1:l15_dy (dy q) (dy q)=some true:=by rw [dy15 hq.w,decide_eq_true rfl]
 have g2:l15_dy (dy s) (dy s)=some true:=by rw [dy15 hs.w,decide_eq_true rfl]
 have g3:l15_dy (dy c) (dy c)=some true:=by rw [dy15 hc.w,decide_eq_true rfl]
 have n0:0≤(0:Int)∧0<[dy a,dy c,dy e].length:=⟨by omega,by simp⟩
 have n1:0≤(1:Int)∧1<[dy a,dy c,dy e].length:=⟨by omega,by simp⟩
 have n2:0≤(2:Int)∧2<[dy a,dy c,dy e].length:=⟨by omega,by simp⟩
 unfold l15_ChebLine_j2
 rw [hW,if_pos n0,if_pos n1,if_pos n2,dyad_Half_eq (by omega)]
 simp only [obn]
 refine Eq.trans (congrArg (fun o=>Option.bind o _) f1) ?_
 simp only [obn]
 rw [w64 (x:=W-1) (by omega) (by omega),dyad_Half_eq (by omega)]
 simp only [obn]
 refine Eq.trans (congrArg (fun o=>Option.bind o _) f2) ?_
 simp only [obn]
 refine Eq.trans (congrArg (fun o=>Option.bind o _) V1) ?_
 simp only [obn]
 refine Eq.trans (congrArg (fun o=>Option.bind o _) V2) ?_
 simp only [obn]
 refine Eq.trans (congrArg (fun o=>Option.bind o _) V3) ?_
 simp only [obn]
 rw [if_pos n1,if_pos n2]
 refine Eq.trans (congrArg (fun o=>Option.bind o _) f3) ?_
 simp only [obn]
 rw [if_pos n1,if_pos n2]
 refine Eq.trans (congrArg (fun o=>Option.bind o _) f4) ?_
 simp only [obn]
 refine Eq.trans (congrArg (fun o=>Option.bind o _) g1) ?_
 simp only [obn]
 rw [if_pos True.intro]
 refine Eq.trans (congrArg (fun o=>Option.bind o _) g1) ?_
 simp only [obn]
 unfold l15_ChebLine_j3
 refine Eq.trans (congrArg (fun o=>Option.bind o _) g2) ?_
 simp only [obn]
 rw [if_pos True.intro]
 refine Eq.trans (congrArg (fun o=>Option.bind o _) g2) ?_
 simp only [obn]
 unfold l15_ChebLine_j4
 rw [if_pos n1]
 refine Eq.trans (congrArg (fun o=>Option.bind o _) g3) ?_
 simp only [obn]
 rw [if_pos True.intro,if_pos n1]
 refine Eq.trans (congrArg (fun o=>Option.bind o _) g3) ?_
 simp only [obn]
 unfold l15_ChebLine_j5 l15_ChebLine_j6
 simp
theorem line_l7 {a b c:AD} (ha:gAD a) (hb:gAD b) (hc:gAD c) {y:Nat} : l15_ChebLine_j1 true a b c (y:Int)=some true:=by
 obtain ⟨d1,o1,e1⟩:=mk15 ha
 obtain ⟨d2,o2,e2⟩:=mk15 hb
 obtain ⟨d3,o3,e3⟩:=mk15 hc
 obtain ⟨f,hf⟩:∃ f,fuel=f+1+1+1+1:=⟨fuel-4,by unfold fuel; omega⟩
 have k:∀ {p q:Prop} [Decidable p] [Decidable q] {x y:Option Bool},p→q→x=y→(if p then (if q then x else none) else none)=y:=fun hp hq h=>by rw [if_pos hp,if_pos hq]; exact h
 unfold l15_ChebLine_j1
 rw [hf,l15_ChebLine_l7,if_pos (by omega),if_pos (by simp),if_pos (by simp),if_pos (by simp)]
 refine (e1 fun d=>if 0≤(0:Int)∧(0:Int).toNat<[a,b,c].length then l15_ChebLine_l7 (y:Int) true (f+1+1+1) (IntKind.i64.wrap (0+1)) ([a,b,c].set (0:Int).toNat d) else none).trans ?_
 rw [if_pos (by simp)]
 show l15_ChebLine_l7 (y:Int) true (f+1+1+1) 1 [dy d1,b,c]=some true
 rw [l15_ChebLine_l7,if_pos (by omega),if_pos (by simp),if_pos (by simp),if_pos (by simp)]
 refine (e2 fun d=>if 0≤(1:Int)∧(1:Int).toNat<[dy d1,b,c].length then l15_ChebLine_l7 (y:Int) true (f+1+1) (IntKind.i64.wrap (1+1)) ([dy d1,b,c].set (1:Int).toNat d) else none).trans ?_
 rw [if_pos (by simp)]
 show l15_ChebLine_l7 (y:Int) true (f+1+1) 2 [dy d1,dy d2,c]=some true
 rw [l15_ChebLine_l7,if_pos (by omega),if_pos (by simp),if_pos (by simp),if_pos (by simp)]
 refine (e3 fun d=>if 0≤(2:Int)∧(2:Int).toNat<[dy d1,dy d2,c].length then l15_ChebLine_l7 (y:Int) true (f+1) (IntKind.i64.wrap (2+1)) ([dy d1,dy d2,c].set (2:Int).toNat d) else none).trans ?_
 rw [if_pos (by simp)]
 show l15_ChebLine_l7 (y:Int) true (f+1) 3 [dy d1,dy d2,dy d3]=some true
 rw [l15_ChebLine_l7,if_neg (by omega)]
 exact line_j2 o1 o2 o3
theorem ChebLine_true (a0:AD) (g0:gAD a0) (a1:AD) (g1:gAD a1) (a2:AD) (g2:gAD a2) (a3:Int) (g3:(Lit.int .i64 a3).wf=true):l15_ChebLine a0 a1 a2 a3=some true:=by
 have h:=wf_i64 g3
 unfold l15_ChebLine
 rw [examples15]
 simp only [obn]
 rw [if_neg (by simp)]
 by_cases h0:a3<0
 ·rw [if_pos h0,wrap_low a3 (by omega)]
  exact line_l7 g0 g1 g2
 ·rw [if_neg h0]
  have:=line_l7 g0 g1 g2 (y:=a3.toNat)
  rwa [Int.toNat_of_nonneg (by omega)] at this
end Go.Proofs.YtoakhpdeadglpaaGreat.Gen
