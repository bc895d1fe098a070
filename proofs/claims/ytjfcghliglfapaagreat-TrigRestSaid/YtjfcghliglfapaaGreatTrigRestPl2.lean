/- Plain theory of the numbers that the statement speaks of: printed from the proofs' own texts, as far as this statement needs it. -/
import Derived.Test.YtjfcghliglfapaaGreatTrigRestPl1
set_option linter.unusedVariables false
set_option linter.unusedSimpArgs false
namespace Go.An
noncomputable instance:Div R:=⟨fun x y=>x*y⁻¹⟩
theorem inv_pos {x:R} (h:0<x):0<x⁻¹:=by
 have h1:=mul_inv (x:=x) (by grind)
 rcases rle_total x⁻¹ 0 with k | k
 ·have:=rmul_nonneg (x:=x) (y:=-x⁻¹) (by grind) (by grind); grind
 ·rcases Classical.em (x⁻¹=0) with q | q
  ·rw [q] at h1; grind
  ·grind
theorem ofQ_inv {q:Rat} (h:q≠0):ofQ q⁻¹=(ofQ q)⁻¹:=by
 have h1:ofQ q*ofQ q⁻¹=1:=by rw [← ofQ_mul,Rat.mul_inv_cancel _ h]; rfl
 have h2:=mul_inv (x:=ofQ q) (by intro k; rw [k] at h1; grind)
 grind
theorem cancel {x y c:R} (hc:0<c) (h:x*c≤y*c):x≤y:=by
 have:=rmul_le h (show 0≤c⁻¹ by have:=inv_pos hc; grind)
 have k:=mul_inv (x:=c) (by grind)
 have h1:x*c*c⁻¹=x:=by grind
 have h2:y*c*c⁻¹=y:=by grind
 grind
def Conv (s:Nat→R) (x:R):Prop:=∀ e:Rat,0<e→∃ N,∀ n,N≤n→s n-x≤ofQ e∧x-s n≤ofQ e
theorem Conv.le {s t:Nat→R} {x y:R} (h:Conv s x) (k:Conv t y) (N:Nat) (hl:∀ n,N≤n→s n≤t n):x≤y:=eq_of_le fun e he=>by
 obtain ⟨M,hM⟩:=h (e / 2) (by grind)
 obtain ⟨L,hL⟩:=k (e / 2) (by grind)
 have h1:=hM (max N (max M L)) (by omega)
 have h2:=hL (max N (max M L)) (by omega)
 have h3:=hl (max N (max M L)) (by omega)
 have h4:=ofQ_half e
 grind
theorem Conv.const (x:R):Conv (fun _=>x) x:=fun e he=>⟨0,fun n _=>by have:=ofQ_pos he; grind⟩
theorem Conv.add {s t:Nat→R} {x y:R} (h:Conv s x) (k:Conv t y):Conv (fun n=>s n+t n) (x+y):=fun e he=>by
 obtain ⟨M,hM⟩:=h (e / 2) (by grind)
 obtain ⟨L,hL⟩:=k (e / 2) (by grind)
 refine ⟨max M L,fun n hn=>?_⟩
 have h1:=hM n (by omega)
 have h2:=hL n (by omega)
 have h4:=ofQ_half e
 grind
theorem Conv.neg {s:Nat→R} {x:R} (h:Conv s x):Conv (fun n=>-s n) (-x):=fun e he=>by
 obtain ⟨N,hN⟩:=h e he
 exact ⟨N,fun n hn=>by have:=hN n hn; grind⟩
theorem Conv.sub {s t:Nat→R} {x y:R} (h:Conv s x) (k:Conv t y):Conv (fun n=>s n-t n) (x-y):=by
 have:=h.add k.neg
 have e:x-y=x + -y:=by grind
 rw [e]
 intro d hd
 obtain ⟨N,hN⟩:=this d hd
 exact ⟨N,fun n hn=>by have:=hN n hn; grind⟩
theorem Conv.shift {s:Nat→R} {x:R} (h:Conv s x) (k:Nat):Conv (fun n=>s (n+k)) x:=fun e he=>by
 obtain ⟨N,hN⟩:=h e he
 exact ⟨N,fun n hn=>hN (n+k) (by omega)⟩
theorem Conv.congr {s t:Nat→R} {x:R} (h:Conv s x) (k:∀ n,s n=t n):Conv t x:=by
 have:s=t:=funext k
 rwa [← this]
theorem Conv.le_c {s:Nat→R} {x y:R} (h:Conv s x) (N:Nat) (hl:∀ n,N≤n→s n≤y):x≤y:=h.le (Conv.const y) N hl
theorem Conv.ge_c {s:Nat→R} {x y:R} (h:Conv s x) (N:Nat) (hl:∀ n,N≤n→y≤s n):y≤x:=(Conv.const y).le h N hl
theorem Conv.ab_le {s:Nat→R} {x y:R} (h:Conv s x) (N:Nat) (hl:∀ n,N≤n→ab (s n)≤y):ab x≤y:=
 An.ab_le.2 ⟨h.ge_c N fun n hn=>(An.ab_le.1 (hl n hn)).1,h.le_c N fun n hn=>(An.ab_le.1 (hl n hn)).2⟩
theorem complete {s:Nat→R} (h:∀ e:Rat,0<e→∃ N,∀ m n,N≤m→N≤n→s m-s n≤ofQ e):∃ x,Conv s x:=by
 have hq:∀ n:Nat,∃ q:Rat,s n-ofQ q≤ofQ (((n+1:Nat):Rat)⁻¹)∧ofQ q-s n≤ofQ (((n+1:Nat):Rat)⁻¹):=fun n=>near (s n) (Rat.inv_pos.2 (by exact_mod_cast Nat.succ_pos n))
 have hsm:∀ e:Rat,0<e→∃ N:Nat,∀ n,N≤n→((n+1:Nat):Rat)⁻¹≤e:=by
  intro e he
  obtain ⟨N,hN⟩:=archQ e⁻¹
  refine ⟨N,fun n hn=>?_⟩
  have h1:e*e⁻¹=1:=Rat.mul_inv_cancel _ (by grind)
  have hp:(0:Rat)<((n+1:Nat):Rat):=by exact_mod_cast Nat.succ_pos n
  have h2:((n+1:Nat):Rat)*((n+1:Nat):Rat)⁻¹=1:=Rat.mul_inv_cancel _ (by grind)
  have h3:(N:Rat)≤((n+1:Nat):Rat):=by exact_mod_cast (by omega:N≤n+1)
  have h4:=Rat.mul_le_mul_of_nonneg_left (c:=e*((n+1:Nat):Rat)⁻¹) (show e⁻¹≤((n+1:Nat):Rat) by grind) (Rat.le_of_lt (Rat.mul_pos he (Rat.inv_pos.2 hp)))
  generalize ((n+1:Nat):Rat)=z at *
  have h5:e*z⁻¹*e⁻¹=z⁻¹:=by grind
  have h6:e*z⁻¹*z=e:=by grind
  grind
 obtain ⟨q,hq⟩:=Classical.axiomOfChoice hq
 have key:∀ e:Rat,0<e→∃ N,∀ m n,N≤m→N≤n→q m-q n≤e:=by
  intro e he
  obtain ⟨N,hN⟩:=h (e / 2) (by grind)
  obtain ⟨M,hM⟩:=hsm (e / 4) (by grind)
  refine ⟨max N M,fun m n hm hn=>?_⟩
  have h1:=hN m n (by omega) (by omega)
  have h2:=ofQ_le.2 (hM m (by omega))
  have h3:=ofQ_le.2 (hM n (by omega))
  have h4:=hq m
  have h5:=hq n
  rw [← ofQ_le,ofQ_sub]
  have h6:ofQ (e / 4)+ofQ (e / 4)=ofQ (e / 2):=by rw [← ofQ_add]; congr 1; grind
  have h7:=ofQ_half e
  grind
 refine ⟨mk ⟨q,key⟩,fun e he=>?_⟩
 obtain ⟨N,hN⟩:=key (e / 2) (by grind)
 obtain ⟨M,hM⟩:=hsm (e / 2) (by grind)
 refine ⟨max N M,fun n hn=>?_⟩
 have h1:=hq n
 have h2:=ofQ_le.2 (hM n (by omega))
 have h3:=ofQ_half e
 have h4:ofQ (q n)-mk ⟨q,key⟩≤ofQ (e / 2):=fun d hd=>⟨N,fun m hm=>by have:=hN n m (by omega) hm; simp only [CS.add,CS.neg,CS.ofRat]; grind⟩
 have h5:mk ⟨q,key⟩-ofQ (q n)≤ofQ (e / 2):=fun d hd=>⟨N,fun m hm=>by have:=hN m n hm (by omega); simp only [CS.add,CS.neg,CS.ofRat]; grind⟩
 grind
def psum (a:Nat→R) (x:R):Nat→R
 | 0=>0
 | n+1=>psum a x n+a n*x ^ n
structure Geo (t w:R):Prop where
 h0:0≤t
 h1:t<1
 hw:w*(1-t)=1
theorem Geo.pos {t w:R} (h:Geo t w):0<w:=by
 have h1:=h.h1
 rcases rle_total w 0 with k | k
 ·have:=rmul_nonneg (x:=-w) (y:=1-t) (by grind) (by grind); have:=h.hw; grind
 ·rcases Classical.em (w=0) with q | q
  ·have:=h.hw; subst q; grind
  ·grind
theorem ratio {x r:R} (hx:0≤x) (h:x<r):∃ t w,Geo t w∧x=t*r:=by
 have hr:0<r:=by grind
 have hi:=mul_inv (x:=r) (by grind)
 have h1:x*r⁻¹<1:=by have:=rmul_lt' h (inv_pos hr); grind
 exact ⟨x*r⁻¹,(1-x*r⁻¹)⁻¹,⟨rmul_nonneg hx (by have:=inv_pos hr; grind),h1,by rw [rmul_comm]; exact mul_inv (by grind)⟩,by grind⟩
theorem pow_small {t w:R} (h:Geo t w) (n:Nat):t ^ n*(1+n*(1-t))≤1:=by
 induction n with
 | zero=>rw [rpow_zero,show ((0:Nat):R)=0 from rfl]; grind
 | succ n ih=>
  rw [rpow_succ,cast_succ]
  have h1:t*(1+(n+1)*(1-t))≤1+n*(1-t):=by
   have:=rmul_nonneg (x:=(n:R)+1) (y:=(1-t)*(1-t)) (by have:=cast_nonneg n; grind) (sq_nonneg _)
   grind
  have h2:=rmul_le' h1 (pow_nonneg h.h0 n)
  have h3:t ^ n*t*(1+(n+1)*(1-t))=t ^ n*(t*(1+(n+1)*(1-t))):=by grind
  grind
theorem pow_lim {t w:R} (h:Geo t w) {B:R} (hB:0≤B) {e:Rat} (he:0<e):∃ N:Nat,∀ n:Nat,N≤n→B*t ^ n≤ofQ e:=by
 have hd:0<1-t:=by have:=h.h1; grind
 have hed:=rmul_pos (ofQ_pos he) hd
 obtain ⟨N,hN⟩:=arch (B*(ofQ e*(1-t))⁻¹)
 have hi:=mul_inv (x:=ofQ e*(1-t)) (by grind)
 have h1:B≤N*(ofQ e*(1-t)):=by
  have:=rmul_le hN (show 0≤ofQ e*(1-t) by grind)
  have k:B*(ofQ e*(1-t))⁻¹*(ofQ e*(1-t))=B:=by grind
  grind
 refine ⟨N,fun n hn=>?_⟩
 have h2:=rmul_le (cast_le hn) (show 0≤ofQ e*(1-t) by grind)
 have h3:=pow_small h n
 have h4:=rmul_le (show B≤ofQ e*(1+n*(1-t)) by have:=ofQ_pos he; grind) (pow_nonneg h.h0 n)
 have h5:=rmul_le' h3 (show 0≤ofQ e by have:=ofQ_pos he; grind)
 grind
structure PB (a:Nat→R) (r K:R):Prop where
 r0:0<r
 h:∀ n,ab (a n)*r ^ n≤K
theorem PB.k0 {a:Nat→R} {r K:R} (h:PB a r K):0≤K:=by
 have h1:=h.h 0
 have h2:=ab_nonneg (a 0)
 rw [rpow_zero] at h1; grind
theorem PB.term {a:Nat→R} {r K:R} (h:PB a r K) {t x:R} (ht:0≤t) (hx:ab x≤t*r) (n:Nat):ab (a n*x ^ n)≤K*t ^ n:=by
 rw [ab_mul,ab_pow]
 have h1:=pow_mono (ab_nonneg x) hx n
 rw [pow_mul'] at h1
 have h2:=rmul_le' h1 (ab_nonneg (a n))
 have h3:=rmul_le (h.h n) (pow_nonneg ht n)
 have h4:ab (a n)*(t ^ n*r ^ n)=ab (a n)*r ^ n*t ^ n:=by grind
 grind
theorem psum_tail {a:Nat→R} {r K:R} (h:PB a r K) {t w x:R} (hg:Geo t w) (hx:ab x≤t*r) (m k:Nat):ab (psum a x (m+k)-psum a x m)+K*w*t ^ (m+k)≤K*w*t ^ m:=by
 induction k with
 | zero=>
  have:psum a x (m+0)-psum a x m=0:=by rw [Nat.add_zero]; grind
  rw [this,ab_zero,Nat.add_zero]; grind
 | succ k ih=>
  have h1:=h.term hg.h0 hx (m+k)
  have h2:=ab_add (psum a x (m+k)-psum a x m) (a (m+k)*x ^ (m+k))
  have h3:psum a x (m+(k+1))-psum a x m=psum a x (m+k)-psum a x m+a (m+k)*x ^ (m+k):=by
   show psum a x (m+k)+a (m+k)*x ^ (m+k)-psum a x m=_; grind
  rw [h3]
  have h4:t ^ (m+(k+1))=t ^ (m+k)*t:=rfl
  have h5:=hg.hw
  have h6:K*t ^ (m+k)+K*w*(t ^ (m+k)*t)=K*w*t ^ (m+k):=by grind
  rw [h4]; grind
theorem psum_conv {a:Nat→R} {r K:R} (h:PB a r K) {x:R} (hx:ab x<r):∃ y,Conv (psum a x) y:=by
 obtain ⟨t,w,hg,hxt⟩:=ratio (ab_nonneg x) hx
 refine complete fun e he=>?_
 have hKw:0≤K*w:=rmul_nonneg h.k0 (by have:=hg.pos; grind)
 obtain ⟨N,hN⟩:=pow_lim hg hKw (e:=e / 2) (by grind)
 have key:∀ n,N≤n→ab (psum a x n-psum a x N)≤ofQ (e / 2):=by
  intro n hn
  obtain ⟨k,rfl⟩:∃ k,n=N+k:=⟨n-N,by omega⟩
  have h1:=psum_tail h hg (show ab x≤t*r by grind) N k
  have h2:=hN N (Nat.le_refl _)
  have h3:=rmul_nonneg hKw (pow_nonneg hg.h0 (N+k))
  grind
 refine ⟨N,fun m n hm hn=>?_⟩
 have h1:=ab_le.1 (key m hm)
 have h2:=ab_le.1 (key n hn)
 have h3:=ofQ_half e
 grind
noncomputable def ps (a:Nat→R) (x:R):R:=@dite _ (∃ y,Conv (psum a x) y) (Classical.propDecidable _) (fun h=>Classical.choose h) fun _=>0
theorem ps_conv {a:Nat→R} {r K:R} (h:PB a r K) {x:R} (hx:ab x<r):Conv (psum a x) (ps a x):=by
 have k:=psum_conv h hx
 have e:ps a x=Classical.choose k:=dif_pos k
 rw [e]; exact Classical.choose_spec k
theorem ps_tail {a:Nat→R} {r K:R} (h:PB a r K) {t w x:R} (hg:Geo t w) (hx:ab x≤t*r) (m:Nat):ab (ps a x-psum a x m)≤K*w*t ^ m:=by
 have hxr:ab x<r:=by have:=rmul_lt' hg.h1 h.r0; grind
 have h1:=((ps_conv h hxr).shift m).sub (Conv.const (psum a x m))
 refine h1.ab_le 0 fun n _=>?_
 have h2:=psum_tail h hg hx m n
 rw [Nat.add_comm m n] at h2
 have h3:=rmul_nonneg (rmul_nonneg h.k0 (show 0≤w by have:=hg.pos; grind)) (pow_nonneg hg.h0 (n+m))
 grind
def gq (t:R):Nat→R
 | 0=>0
 | n+1=>t*gq t n+((n+1:Nat):R)*t ^ n
def e0 (t:R):Nat→R
 | 0=>0
 | n+1=>e0 t n+t ^ n
def e1 (t:R):Nat→R
 | 0=>0
 | n+1=>e1 t n+((n+1:Nat):R)*t ^ n
def e2 (t:R):Nat→R
 | 0=>0
 | n+1=>e2 t n+gq t n
def In (a b x:R):Prop:=a≤x∧x≤b
def Dv (f g:R→R) (a b:R):Prop:=∃ C,0≤C∧(∀ x,In a b x→ab (f x)≤C∧ab (g x)≤C)∧∀ x y,In a b x→In a b y→ab (f y-f x)≤C*ab (y-x)∧ab (f y-f x-g x*(y-x))≤C*((y-x)*(y-x))
theorem Dv.congr {f g f' g':R→R} {a b:R} (h:Dv f g a b) (h1:∀ x,In a b x→f x=f' x) (h2:∀ x,In a b x→g x=g' x):Dv f' g' a b:=by
 obtain ⟨C,hC,hb,hq⟩:=h
 refine ⟨C,hC,fun x hx=>?_,fun x y hx hy=>?_⟩
 ·rw [← h1 x hx,← h2 x hx]; exact hb x hx
 ·rw [← h1 x hx,← h2 x hx,← h1 y hy]; exact hq x y hx hy
theorem Dv.const (c a b:R):Dv (fun _=>c) (fun _=>0) a b:=by
 refine ⟨ab c,ab_nonneg c,fun x _=>⟨rle_refl _,by rw [ab_zero]; exact ab_nonneg c⟩,fun x y _ _=>?_⟩
 have e1:c-c=0:=by grind
 have e2:c-c-0*(y-x)=0:=by grind
 rw [e2,e1,ab_zero]
 exact ⟨rmul_nonneg (ab_nonneg c) (ab_nonneg _),rmul_nonneg (ab_nonneg c) (sq_nonneg _)⟩
theorem ab_one:ab 1=1:=ab_of (by have:=rzero_lt_one; grind)
theorem Dv.mul {f g f' g':R→R} {a b:R} (h:Dv f g a b) (k:Dv f' g' a b):Dv (fun x=>f x*f' x) (fun x=>g x*f' x+f x*g' x) a b:=by
 obtain ⟨C,hC,hb,hq⟩:=h
 obtain ⟨D,hD,kb,kq⟩:=k
 have hCD:=rmul_nonneg hC hD
 refine ⟨3*(C*D),by grind,fun x hx=>?_,fun x y hx hy=>?_⟩
 ·have h1:=hb x hx; have h2:=kb x hx
  have h3:=rmul_mono h1.1 h2.1 (ab_nonneg _) hD
  have h4:=rmul_mono h1.2 h2.1 (ab_nonneg _) hD
  have h5:=rmul_mono h1.1 h2.2 (ab_nonneg _) hD
  have h6:=ab_add (g x*f' x) (f x*g' x)
  rw [ab_mul,ab_mul] at h6
  rw [ab_mul]
  grind
 ·have h1:=hq x y hx hy; have h2:=kq x y hx hy; have h3:=hb x hx; have h4:=kb y hy; have h4':=kb x hx
  have hn:=ab_nonneg (y-x)
  have hsq:=sq_nonneg (y-x)
  have e0:ab (y-x)*ab (y-x)=(y-x)*(y-x):=by rw [← ab_mul,ab_of hsq]
  constructor
  ·have e1:f y*f' y-f x*f' x=(f y-f x)*f' y+f x*(f' y-f' x):=by grind
   have h5:=ab_add ((f y-f x)*f' y) (f x*(f' y-f' x))
   rw [ab_mul,ab_mul] at h5
   have h6:=rmul_mono h1.1 h4.1 (ab_nonneg _) hD
   have h7:=rmul_mono h3.1 h2.1 (ab_nonneg _) (rmul_nonneg hD hn)
   have h8:=rmul_nonneg hCD hn
   rw [e1]; grind
  ·have e1:f y*f' y-f x*f' x-(g x*f' x+f x*g' x)*(y-x)=f x*(f' y-f' x-g' x*(y-x))+f' x*(f y-f x-g x*(y-x))+(f y-f x)*(f' y-f' x):=by grind
   have h5:=ab_add (f x*(f' y-f' x-g' x*(y-x))+f' x*(f y-f x-g x*(y-x))) ((f y-f x)*(f' y-f' x))
   have h6:=ab_add (f x*(f' y-f' x-g' x*(y-x))) (f' x*(f y-f x-g x*(y-x)))
   rw [ab_mul] at h5
   rw [ab_mul,ab_mul] at h6
   have h7:=rmul_mono h3.1 h2.2 (ab_nonneg _) (rmul_nonneg hD hsq)
   have h8:=rmul_mono h4'.1 h1.2 (ab_nonneg _) (rmul_nonneg hC hsq)
   have h9:=rmul_mono h1.1 h2.1 (ab_nonneg _) (rmul_nonneg hD hn)
   have e2:C*ab (y-x)*(D*ab (y-x))=C*D*((y-x)*(y-x)):=by rw [← e0]; grind
   rw [e1]; grind
theorem Dv.smul {f g:R→R} {a b:R} (c:R) (h:Dv f g a b):Dv (fun x=>c*f x) (fun x=>c*g x) a b:=
 ((Dv.const c a b).mul h).congr (fun _ _=>rfl) fun x _=>by grind
theorem Dv.neg {f g:R→R} {a b:R} (h:Dv f g a b):Dv (fun x=>-f x) (fun x=>-g x) a b:=
 (h.smul (-1)).congr (fun x _=>by grind) fun x _=>by grind
theorem Dv.mono {f g:R→R} {a b:R} (h:Dv f g a b) (hab:a≤b) (hg:∀ x,In a b x→0≤g x):f a≤f b:=by
 obtain ⟨C,hC,_,hq⟩:=h
 refine eq_of_le fun e he=>?_
 have hep:=ofQ_pos he
 obtain ⟨N,hN⟩:=arch (C*((b-a)*(b-a))*(ofQ e)⁻¹)
 have hi:=mul_inv (x:=ofQ e) (by grind)
 have h1:C*((b-a)*(b-a))≤((N+1:Nat):R)*ofQ e:=by
  have h2:=rmul_le hN (show 0≤ofQ e by grind)
  have h3:C*((b-a)*(b-a))*(ofQ e)⁻¹*ofQ e=C*((b-a)*(b-a)):=by grind
  rw [cast_succ]; grind
 have hn0:(0:R)<((N+1:Nat):R):=by rw [cast_succ]; have:=cast_nonneg N; have:=rzero_lt_one; grind
 have hni:=mul_inv (x:=((N+1:Nat):R)) (by grind)
 have hnp:=inv_pos hn0
 generalize hd:(b-a)*((N+1:Nat):R)⁻¹=d
 have hd0:0≤d:=by rw [← hd]; exact rmul_nonneg (by grind) (by grind)
 have hdn:((N+1:Nat):R)*d=b-a:=by grind
 have step:∀ i:Nat,i≤N+1→f a-i*(C*(d*d))≤f (a+i*d):=by
  intro i
  induction i with
  | zero=>
   intro _
   have:a+((0:Nat):R)*d=a:=by rw [show ((0:Nat):R)=0 from rfl]; grind
   rw [this,show ((0:Nat):R)=0 from rfl]; grind
  | succ i ih=>
   intro hi
   have h2:=ih (by omega)
   have in0:In a b (a+i*d):=by
    have k1:=rmul_le (cast_le (show i≤N+1 by omega)) hd0
    have k2:=rmul_nonneg (cast_nonneg i) hd0
    exact ⟨by grind,by grind⟩
   have in1:In a b (a+((i+1:Nat):R)*d):=by
    have k1:=rmul_le (cast_le hi) hd0
    have k2:=rmul_nonneg (cast_nonneg (i+1)) hd0
    exact ⟨by grind,by grind⟩
   have h3:=(hq _ _ in0 in1).2
   have e1:a+((i+1:Nat):R)*d-(a+i*d)=d:=by rw [cast_succ]; grind
   rw [e1] at h3
   have h4:=(ab_le.1 h3).1
   have h5:=rmul_nonneg (hg _ in0) hd0
   have h6:((i+1:Nat):R)*(C*(d*d))=i*(C*(d*d))+C*(d*d):=by rw [cast_succ]; grind
   rw [h6]; grind
 have h2:=step (N+1) (Nat.le_refl _)
 have e2:a+((N+1:Nat):R)*d=b:=by grind
 rw [e2] at h2
 have h3:((N+1:Nat):R)*(C*(d*d))≤ofQ e:=by
  refine cancel hn0 ?_
  have:((N+1:Nat):R)*(C*(d*d))*((N+1:Nat):R)=C*((b-a)*(b-a)):=by rw [← hdn]; grind
  rw [this]; grind
 grind
noncomputable def rf:Nat→R
 | 0=>1
 | n+1=>rf n*((n+1:Nat):R)⁻¹
theorem cast_pos (n:Nat):(0:R)<((n+1:Nat):R):=by rw [cast_succ]; have:=cast_nonneg n; have:=rzero_lt_one; grind
theorem rf_succ (n:Nat):((n+1:Nat):R)*rf (n+1)=rf n:=by
 have:=mul_inv (x:=((n+1:Nat):R)) (by have:=cast_pos n; grind)
 rw [show rf (n+1)=rf n*((n+1:Nat):R)⁻¹ from rfl]; grind
theorem rf_pos (n:Nat):0<rf n:=by
 induction n with
 | zero=>exact rzero_lt_one
 | succ n ih=>exact rmul_pos ih (inv_pos (cast_pos n))
theorem upto (u:Nat→R) (N:Nat):∃ K,∀ n,n≤N→u n≤K:=by
 induction N with
 | zero=>exact ⟨u 0,fun n hn=>by rw [Nat.le_zero.1 hn]; exact rle_refl _⟩
 | succ N ih=>
  obtain ⟨K,hK⟩:=ih
  have h1:=le_ab K
  have h2:=le_ab (u (N+1))
  refine ⟨ab K+ab (u (N+1)),fun n hn=>?_⟩
  have h3:=ab_nonneg K
  have h4:=ab_nonneg (u (N+1))
  rcases Nat.lt_or_ge N n with k | k
  ·rw [show n=N+1 by omega]; grind
  ·have:=hK n k; grind
theorem rf_bound {r:R} (hr:0<r):∃ K,∀ n,rf n*r ^ n≤K:=by
 obtain ⟨N,hN⟩:=arch r
 obtain ⟨K,hK⟩:=upto (fun n=>rf n*r ^ n) N
 refine ⟨K,fun n=>?_⟩
 induction n with
 | zero=>exact hK 0 (Nat.zero_le _)
 | succ n ih=>
  rcases Nat.lt_or_ge n N with k | k
  ·exact hK (n+1) k
  ·have h1:=rf_succ n
   have h2:r≤((n+1:Nat):R):=rle_trans hN (cast_le (by omega))
   have h3:=rmul_nonneg (show 0≤rf (n+1) by have:=rf_pos (n+1); grind) (pow_nonneg (show 0≤r by grind) n)
   have h4:=rmul_le' h2 h3
   have h5:rf (n+1)*r ^ n*((n+1:Nat):R)=rf n*r ^ n:=by rw [← h1]; grind
   rw [rpow_succ]; grind
theorem PB.of {a:Nat→R} (h:∀ n,ab (a n)≤rf n) {r:R} (hr:0<r):∃ K,PB a r K:=by
 obtain ⟨K,hK⟩:=rf_bound hr
 exact ⟨K,hr,fun n=>rle_trans (rmul_le (h n) (pow_nonneg (by grind) n)) (hK n)⟩
noncomputable def E (x:R):R:=ps rf x
def sg4:Nat→R × R
 | 0=>(0,1)
 | n+1=>((sg4 n).2,-(sg4 n).1)
def sS (n:Nat):R:=(sg4 n).1
def sC (n:Nat):R:=(sg4 n).2
theorem sS_succ (n:Nat):sS (n+1)=sC n:=rfl
theorem sC_succ (n:Nat):sC (n+1) = -sS n:=rfl
theorem sg_ab (n:Nat):ab (sS n)≤1∧ab (sC n)≤1:=by
 induction n with
 | zero=>exact ⟨by rw [show sS 0=0 from rfl,ab_zero]; have:=rzero_lt_one; grind,by rw [show sC 0=1 from rfl,ab_one]; exact rle_refl _⟩
 | succ n ih=>rw [sS_succ,sC_succ,ab_neg]; exact ⟨ih.2,ih.1⟩
noncomputable def cco (n:Nat):R:=sC n*rf n
noncomputable def C (x:R):R:=ps cco x
theorem one_pow (n:Nat):(1:R) ^ n=1:=by
 induction n with
 | zero=>rfl
 | succ n ih=>rw [rpow_succ,ih]; grind
theorem PB.one {a:Nat→R} (h:∀ n,ab (a n)≤1):PB a 1 1:=⟨rzero_lt_one,fun n=>by rw [one_pow]; have:=h n; grind⟩
theorem inv_le_one (n:Nat):((n+1:Nat):R)⁻¹≤1:=by
 have h1:=mul_inv (x:=((n+1:Nat):R)) (by have:=cast_pos n; grind)
 have h2:=rmul_le (show (1:R)≤((n+1:Nat):R) by rw [cast_succ]; have:=cast_nonneg n; grind) (show 0≤((n+1:Nat):R)⁻¹ by have:=inv_pos (cast_pos n); grind)
 grind
theorem over_ab {a:Nat→R} (h0:a 0=0) (h:∀ n,ab (a n)≤1) (n:Nat):ab (a n*((n:Nat):R)⁻¹)≤1:=by
 cases n with
 | zero=>rw [h0,show (0:R)*((0:Nat):R)⁻¹=0 by grind,ab_zero]; have:=rzero_lt_one; grind
 | succ n=>
  have hp:=inv_pos (cast_pos n)
  rw [ab_mul,ab_of (show 0≤((n+1:Nat):R)⁻¹ by grind)]
  have:=rmul_mono (h (n+1)) (inv_le_one n) (ab_nonneg _) (show (0:R)≤1 by have:=rzero_lt_one; grind)
  grind
noncomputable def atc (n:Nat):R:=sS n*((n:Nat):R)⁻¹
noncomputable def A (x:R):R:=ps atc x
noncomputable def Q (x:R):R:=ps sC x
def eo:Nat→R × R
 | 0=>(0,1)
 | n+1=>((eo n).2,(eo n).1)
def od (n:Nat):R:=(eo n).1
noncomputable def ahc (n:Nat):R:=od n*((n:Nat):R)⁻¹
noncomputable def H (x:R):R:=ps ahc x
noncomputable def hp:R:=8*A (ofQ (1 / 5))-2*A (ofQ (1 / 239))
theorem rline_le {l h x y q:R} (h1:l≤x) (h2:x≤h) (h3:q≤l*y) (h4:q≤h*y):q≤x*y:=by
 rcases rle_total 0 y with hy | hy
 ·have:=rmul_le h1 hy; grind
 ·have:=rmul_le h2 (show 0 ≤ -y by grind); grind
theorem rline_ge {l h x y q:R} (h1:l≤x) (h2:x≤h) (h3:l*y≤q) (h4:h*y≤q):x*y≤q:=by
 rcases rle_total 0 y with hy | hy
 ·have:=rmul_le h2 hy; grind
 ·have:=rmul_le h1 (show 0 ≤ -y by grind); grind
theorem prod_in {a b c d x y u v:R} (hx:In a b x) (hy:In c d y) (h1:In u v (a*c)) (h2:In u v (a*d)) (h3:In u v (b*c)) (h4:In u v (b*d)):In u v (x*y):=by
 have c':∀ s t:R,s*t=t*s:=rmul_comm
 have l1:u≤a*y:=by rw [c']; exact rline_le hy.1 hy.2 (by rw [c']; exact h1.1) (by rw [c']; exact h2.1)
 have l2:u≤b*y:=by rw [c']; exact rline_le hy.1 hy.2 (by rw [c']; exact h3.1) (by rw [c']; exact h4.1)
 have l3:a*y≤v:=by rw [c']; exact rline_ge hy.1 hy.2 (by rw [c']; exact h1.2) (by rw [c']; exact h2.2)
 have l4:b*y≤v:=by rw [c']; exact rline_ge hy.1 hy.2 (by rw [c']; exact h3.2) (by rw [c']; exact h4.2)
 exact ⟨rline_le hx.1 hx.2 l1 l2,rline_ge hx.1 hx.2 l3 l4⟩
theorem sS_two (n:Nat):sS (n+2) = -sS n:=rfl
theorem sS_even (i:Nat):sS (2*i)=0:=by
 induction i with
 | zero=>rfl
 | succ i ih=>rw [show 2*(i+1)=2*i+2 by omega,sS_two,ih]; grind
theorem atc_sum (x:R) (i:Nat):psum atc x (2*(i+1)+2)=psum atc x (2*i+2)+atc (2*i+1+2)*x ^ (2*i+1+2):=by
 show psum atc x (2*i+2)+atc (2*i+2)*x ^ (2*i+2)+atc (2*i+2+1)*x ^ (2*i+2+1)=_
 rw [atc,show 2*i+2=2*(i+1) by omega,sS_even]; grind
theorem over_n (a x:R) (n:Nat):a*((n+1:Nat):R)⁻¹*x*((n+1:Nat):R)=a*x:=by
 have:=mul_inv (x:=((n+1:Nat):R)) (by have:=cast_pos n; grind)
 grind
noncomputable def hf:R:=ofQ (1 / 2)
theorem hf_two:hf+hf=1:=ofQ_half 1
theorem hf_pos:0<hf:=ofQ_pos (by decide +kernel)
theorem hf_geo:Geo hf 2:=⟨by have:=hf_pos; grind,by have:=hf_pos; have:=hf_two; grind,by have:=hf_two; grind⟩
theorem hf_le {m n:Nat} (h:m≤n):hf ^ n≤hf ^ m:=by
 induction n with
 | zero=>rw [show m=0 by omega]; exact rle_refl _
 | succ n ih=>
  rcases Nat.lt_or_ge n m with k | k
  ·rw [show m=n+1 by omega]; exact rle_refl _
  ·have h1:=ih k
   have h2:=rmul_le' (show hf≤1 by have:=hf_pos; have:=hf_two; grind) (pow_nonneg (show 0≤hf by have:=hf_pos; grind) n)
   rw [rpow_succ]; grind
theorem tail_half {a:Nat→R} (h:∀ n,ab (a n)≤1) {x:R} (hx:ab x≤hf) (n:Nat):ab (ps a x-psum a x n)≤2*hf ^ n:=by
 have h1:=ps_tail (PB.one h) hf_geo (x:=x) (by grind) n
 grind
end Go.An
namespace Go.Proofs.YtjfcghliglfapaaGreat.Gen
open Go Go.Abs Go.Plain Go.An
structure Mem (a:I) (x:R):Prop where
 lo:ofQ (val a.lo)≤x
 hi:x≤ofQ (val a.hi)
structure Has (r:I × Int) (x:R) (L H:Int):Prop where
 e:r.2=0
 ok:OkI r.1 L H
 m:Mem r.1 x
theorem Has.mono {r:I × Int} {x:R} {L H L' H':Int} (h:Has r x L H) (h1:L'≤L) (h2:H≤H'):Has r x L' H':=⟨h.e,h.ok.mono h1 h2,h.m⟩
theorem Has.eq {r:I × Int} {x y:R} {L H:Int} (h:Has r x L H) (e:x=y):Has r y L H:=e ▸ h
theorem has_of {r:I × Int} {c:I} {x:R} {L H:Int} (e:r=(c,0)) (o:OkI c L H) (m:Mem c x):Has r x L H:=by subst e; exact ⟨rfl,o,m⟩
theorem Has.pair {r:I × Int} {x:R} {L H:Int} (h:Has r x L H):Has (r.1,0) x L H:=⟨rfl,h.ok,h.m⟩
theorem enc_mem {p:Nat} {c:I} {u v:Rat} (h:Enc p c u v) {x:R} (h1:ofQ u≤x) (h2:x≤ofQ v):Mem c x:=
 ⟨rle_trans (ofQ_le.2 h.lo) h1,rle_trans h2 (ofQ_le.2 h.hi)⟩
theorem has_point {x:D} {L H:Int} (h:Okd x L H):Has (⟨x,x⟩,0) (ofQ (val x)) L H:=⟨rfl,⟨h,h,Rat.le_refl⟩,⟨rle_refl _,rle_refl _⟩⟩
theorem val_from (n:Int):val (fromD n)=(n:Rat):=by unfold fromD; rw [val_nrm,p2_zero,Rat.mul_one]
theorem Okd_from {n:Int} {K:Nat} (hK:K≤60) (hn:n.natAbs≤2 ^ K):Okd (fromD n) 0 (K:Int):=by
 have h60:2 ^ K≤2 ^ 60:=Nat.pow_le_pow_right (by decide) hK
 have h60':(2:Nat) ^ 60=1152921504606846976:=by decide
 refine ⟨WD_from (by omega),⟨n,by rw [val_from,p2_zero,Rat.mul_one]⟩,?_⟩
 rw [val_from]
 unfold B
 rw [p2_nat]
 have e1 : -((2 ^ K:Nat):Rat)=((-((2 ^ K:Nat):Int):Int):Rat):=by push_cast; rfl
 have e2:((2 ^ K:Nat):Rat)=(((2 ^ K:Nat):Int):Rat):=by push_cast; rfl
 rw [e1]
 exact ⟨intCast_le (by omega),by rw [e2]; exact intCast_le (by omega)⟩
theorem has_int {n:Int} {K:Nat} (hK:K≤60) (hn:n.natAbs≤2 ^ K):Has (iS n 0) (n:R) 0 (K:Int):=
 (has_point (Okd_from hK hn)).eq (by rw [val_from]; rfl)
theorem has_neg {r:I × Int} {x:R} {L H:Int} (h:Has r x L H):Has (nS r.1 0) (-x) L H:=by
 refine has_of (c:=negI r.1) rfl h.ok.neg ⟨?_,?_⟩
 ·show ofQ (val (negD r.1.hi)) ≤ -x
  rw [val_neg,ofQ_neg]; have:=h.m.hi; grind
 ·show -x≤ofQ (val (negD r.1.lo))
  rw [val_neg,ofQ_neg]; have:=h.m.lo; grind
theorem has_add {r s:I × Int} {x y:R} {L H:Int} (ha:Has r x L H) (hb:Has s y L H) {p:Nat} (hp:1≤p) (hL : -60000≤L) (hH:H+1≤60000):Has (aS p r.1 s.1 0) (x+y) L (H+1):=by
 obtain ⟨c,e,o,en⟩:=addI_ok ha.ok hb.ok hp hL hH
 refine has_of (c:=c) e o (enc_mem en ?_ ?_)
 ·rw [ofQ_add]; have:=ha.m.lo; have:=hb.m.lo; grind
 ·rw [ofQ_add]; have:=ha.m.hi; have:=hb.m.hi; grind
theorem has_mul {r s:I × Int} {x y:R} {L H M K:Int} (ha:Has r x L H) (hb:Has s y M K) {p:Nat} (hp:1≤p) (hL : -60000≤L+M) (hH:H+K≤60000):Has (mS p r.1 s.1 0) (x*y) (L+M) (H+K):=by
 obtain ⟨c,u,v,e,o,en,pr⟩:=mulI_ok ha.ok hb.ok hp hL hH
 have k:∀ {q:Rat},u≤q∧q≤v→In (ofQ u) (ofQ v) (ofQ q):=fun h=>⟨ofQ_le.2 h.1,ofQ_le.2 h.2⟩
 have h:=prod_in (u:=ofQ u) (v:=ofQ v) ⟨ha.m.lo,ha.m.hi⟩ ⟨hb.m.lo,hb.m.hi⟩ (by rw [← ofQ_mul]; exact k pr.h1) (by rw [← ofQ_mul]; exact k pr.h2) (by rw [← ofQ_mul]; exact k pr.h3) (by rw [← ofQ_mul]; exact k pr.h4)
 exact has_of (c:=c) e o (enc_mem en h.1 h.2)
theorem has_scale {r:I × Int} {x:R} {L H n:Int} (ha:Has r x L H) (hL : -60000≤L+n) (hH:H+n≤60000):Has (scS r.1 n 0) (x*ofQ (p2 n)) (L+n) (H+n):=by
 obtain ⟨c,e,o,e1,e2⟩:=scaleI_ok ha.ok hL hH
 have hp:=ofQ_pos (p2_pos n)
 refine has_of (c:=c) e o ⟨?_,?_⟩
 ·rw [e1,ofQ_mul]; exact rmul_le ha.m.lo (by grind)
 ·rw [e2,ofQ_mul]; exact rmul_le ha.m.hi (by grind)
theorem has_wide {r:I × Int} {x y:R} {L H:Int} (ha:Has r x L H) {d:D} (hd:Okd d L H) (hxy:ab (y-x)≤ofQ (val d)) {p:Nat} (hp:1≤p) (hL : -60000≤L) (hH:H+1≤60000):Has (wS p r.1 d 0) y L (H+1):=by
 have h0:0≤val d:=by
  have:=ab_nonneg (y-x)
  exact ofQ_le.1 (rle_trans this hxy)
 obtain ⟨c,e,o,en⟩:=wideI_ok ha.ok hd h0 hp hL hH
 have h1:=ab_le.1 hxy
 refine has_of (c:=c) e o (enc_mem en ?_ ?_)
 ·rw [ofQ_sub]; have:=ha.m.lo; grind
 ·rw [ofQ_add]; have:=ha.m.hi; grind
theorem rinv_anti {l y:R} (h:0<l*y) (hle:l≤y):y⁻¹≤l⁻¹:=by
 have hl:l≠0:=by rintro rfl; grind
 have hy:y≠0:=by rintro rfl; grind
 have h1:=mul_inv hl
 have h2:=mul_inv hy
 refine cancel h ?_
 have e1:y⁻¹*(l*y)=l:=by grind
 have e2:l⁻¹*(l*y)=y:=by grind
 rw [e1,e2]; exact hle
theorem rmul_sign {a b:R} (h:(0<a∧0<b)∨(a<0∧b<0)):0<a*b:=by
 rcases h with h | h
 ·exact rmul_pos h.1 h.2
 ·have:=rmul_pos (show 0 < -a by grind) (show 0 < -b by grind); grind
theorem has_div {r s:I × Int} {x y z:R} {L H M K:Int} (ha:Has r x L H) (hb:Has s y M K) (hz:hasI s.1 zD=false) (hxy:z*y=x) {p:Nat} (hp:1≤p) (hL : -60000≤L-K-p-2) (hH:H-M+2≤60000):Has (dS p r.1 s.1 0) z (L-K-p-2) (H-M+2):=by
 obtain ⟨c,e,o,en⟩:=divI_ok ha.ok hb.ok hz hp hL hH
 refine has_of (c:=c) e o ?_
 have hs:=has_zero hz
 have hle:=hb.ok.le
 have hsR:(0<ofQ (val s.1.lo))∨(ofQ (val s.1.hi)<0):=by
  rcases hs with h | h
  ·left; exact ofQ_lt.2 h
  ·right; exact ofQ_lt.2 h
 have m1:=hb.m.lo
 have m2:=hb.m.hi
 have nl:ofQ (val s.1.lo)≠0:=by intro k; rcases hsR with h | h<;>grind
 have nh:ofQ (val s.1.hi)≠0:=by intro k; rcases hsR with h | h<;>grind
 have ny:y≠0:=by intro k; rcases hsR with h | h<;>grind
 have hle':=ha.ok.le
 have nlq:val s.1.lo≠0:=by rintro k; rw [k] at nl; exact nl rfl
 have nhq:val s.1.hi≠0:=by rintro k; rw [k] at nh; exact nh rfl
 have i1:y⁻¹≤(ofQ (val s.1.lo))⁻¹:=rinv_anti (rmul_sign (by rcases hsR with h | h<;>grind)) m1
 have i2:(ofQ (val s.1.hi))⁻¹≤y⁻¹:=rinv_anti (rmul_sign (by rcases hsR with h | h<;>grind)) m2
 have k:∀ {a b:Rat},b≠0→(val c.lo≤a / b∧a / b≤val c.hi)→In (ofQ (val c.lo)) (ofQ (val c.hi)) (ofQ a*(ofQ b)⁻¹):=fun {a b} hb h=>by
  rw [← ofQ_inv hb,← ofQ_mul,← Rat.div_def]; exact ⟨ofQ_le.2 h.1,ofQ_le.2 h.2⟩
 have q1:=k nhq (en _ _ Rat.le_refl hle' hle Rat.le_refl)
 have q2:=k nlq (en _ _ Rat.le_refl hle' Rat.le_refl hle)
 have q3:=k nhq (en _ _ hle' Rat.le_refl hle Rat.le_refl)
 have q4:=k nlq (en _ _ hle' Rat.le_refl Rat.le_refl hle)
 have h:=prod_in ⟨ha.m.lo,ha.m.hi⟩ ⟨i2,i1⟩ q1 q2 q3 q4
 have e1:x*y⁻¹=z:=by have:=mul_inv ny; rw [← hxy]; grind
 rw [e1] at h
 exact ⟨h.1,h.2⟩
theorem Mem.le {a b:I} {x:R} (ha:Mem a x) (hb:Mem b x):val a.lo≤val b.hi:=ofQ_le.1 (rle_trans ha.lo hb.hi)
theorem has_mem {a:I} {x:D} (h:Mem a (ofQ (val x))):hasI a x=true:=by
 rw [hasI_iff]; exact ⟨ofQ_le.1 h.lo,ofQ_le.1 h.hi⟩
theorem cmul_succ (c:Int) (i:Nat):c*((i+1:Nat):Int)=c*i+c:=by rw [Int.natCast_add,Int.mul_add]; simp
theorem cmul_le {c:Int} (hc:0≤c) {i j:Nat} (h:i≤j):c*(i:Int)≤c*(j:Int):=Int.mul_le_mul_of_nonneg_left (by omega) hc
theorem p2_neg_nat (n:Nat):ofQ (p2 (-(n:Int)))=hf ^ n:=by
 induction n with
 | zero=>show ofQ (p2 0)=1; rw [p2_zero]; rfl
 | succ n ih=>
  rw [show -((n+1:Nat):Int) = -(n:Int) + -1 by omega,p2_add,ofQ_mul,ih,p2_half]; rfl
theorem box_mem {y:I} {k:Int} {x:R} (h:inI y (box k)=true) (m:Mem y x):ab x≤ofQ (p2 k):=by
 unfold inI box at h
 rw [Bool.and_eq_true,hasI_iff,hasI_iff] at h
 have h1:=h.1.1
 have h2:=h.2.2
 rw [val_neg,val_half] at h1
 rw [val_half] at h2
 have m1:=m.lo
 have m2:=m.hi
 have k1:=ofQ_le.2 h1
 have k2:=ofQ_le.2 h2
 rw [ofQ_neg] at k1
 exact ab_le.2 ⟨by grind,by grind⟩
theorem Okd_half {k L H:Int} (h1:L≤k) (h2:k≤H) (h3 : -60000≤k∧k≤60000):Okd ⟨1,k⟩ L H:=by
 refine ⟨WD_half h3,by rw [val_half]; exact G.mono ⟨1,by simp⟩ h1,?_⟩
 rw [val_half]
 have:=p2_le h2
 have:=p2_pos k
 have:=p2_pos H
 exact ⟨by grind,by grind⟩
theorem nz_int {n:Nat} (h:0<n):hasI (iS (n:Int) 0).1 zD=false:=by
 show hasI (intI (n:Int)) zD=false
 cases hq:hasI (intI (n:Int)) zD with
 | false=>rfl
 | true=>
  have:=((hasI_iff _ _).1 hq).1
  rw [val_z] at this
  have e:val (intI (n:Int)).lo=((n:Int):Rat):=val_from _
  rw [e] at this
  have h0:(0:Rat)<((n:Int):Rat):=by exact_mod_cast h
  grind
theorem has_nat {n K:Nat} (hK:K≤60) (hn:n≤2 ^ K):Has (iS (n:Int) 0) (n:R) 0 (K:Int):=has_int hK (by simp; omega)
theorem has_div_n {r:I × Int} {x z:R} {L H:Int} (ha:Has r x L H) {n K:Nat} (hK:K≤60) (h0:0<n) (hn:n≤2 ^ K) (hz:z*(n:R)=x) {p:Nat} (hp:1≤p) (hL : -60000≤L-K-p-2) (hH:H+2≤60000):Has (dS p r.1 (iS (n:Int) 0).1 0) z (L-K-p-2) (H+2):=
 (has_div (p:=p) ha (has_nat hK hn) (nz_int h0) hz hp hL (by omega)).mono (by omega) (by omega)
theorem ser_lim {c:Int} {N:Nat} (hN:4≤N) (hc:0≤c):c*4≤c*(N:Int):=Int.mul_le_mul_of_nonneg_left (by omega) hc
theorem two_hf (p:Nat):2*hf ^ (p+1)=hf ^ p:=by
 have:hf ^ (p+1)=hf ^ p*hf:=rfl
 rw [this]; have:=hf_two; grind
theorem box_half {y:I} {x:R} (hi:inI y (box (-1))=true) (hm:Mem y x):ab x≤hf:=by
 have:=box_mem hi hm
 rwa [p2_half] at this
theorem make_val {m e:Int} {k:Nat} (hm:blen m.natAbs≤k) (he : -60000≤e∧e+k≤60000):∃ d,makeD m e=(d,true)∧Okd d e (e+k)∧val d=(m:Rat)*p2 e:=by
 have hv:=val_nrm m e
 have hg:G e (val (nrm m e)):=by rw [hv]; exact G.of (Int.le_refl _)
 have hb:B (e+k) (val (nrm m e)):=by
  rw [hv]
  have h1:=blen_lt m.natAbs
  have h2:m.natAbs≤2 ^ k:=by
   have:2 ^ blen m.natAbs≤2 ^ k:=Nat.pow_le_pow_right (by decide) hm
   omega
  have h3:=rep_bound h2 e
  have hp:=p2_pos e
  have h5:(m:Rat)≤(m.natAbs:Rat)∧-(m.natAbs:Rat)≤(m:Rat):=by
   have e1:=intCast_le (show m≤(m.natAbs:Int) by omega)
   have e2:=intCast_le (show -(m.natAbs:Int)≤m by omega)
   rw [Rat.intCast_natCast] at e1
   rw [Rat.intCast_neg,Rat.intCast_natCast] at e2
   exact ⟨e1,e2⟩
  have h6:=Rat.mul_le_mul_of_nonneg_right h5.1 (Rat.le_of_lt hp)
  have h7:=Rat.mul_le_mul_of_nonneg_right h5.2 (Rat.le_of_lt hp)
  unfold B
  grind
 obtain ⟨-,h2⟩:=told_ok (d:=nrm m e) (nrm_ok _ _) hg hb (by omega) (by omega)
 refine ⟨nrm m e,?_,h2,hv⟩
 unfold makeD
 rw [if_pos (inR_of (nrm_ok _ _) hg hb (by omega) (by omega))]
theorem mag_two {x:AD} (hx:gAD x) (k:Nat):blen (sg x.M.Neg (dval (x.M.Mag.take (min x.M.Mag.length k)))).natAbs≤32*k:=by
 rw [sg_abs']
 have:=blen_of_len (dig_take (g_dig hx) (min x.M.Mag.length k))
 rw [List.length_take] at this
 have h2:32*min (min x.M.Mag.length k) x.M.Mag.length≤32*k:=Nat.mul_le_mul_left _ (by omega)
 omega
theorem mag_mn {x:AD} (hx:gAD x) {k:Nat} : mn (x.M.Mag.length:Int) (k:Int)=((min x.M.Mag.length k:Nat):Int):=by unfold mn; split<;>omega
theorem sInt {n:Int} {K:Nat} (hK:K≤60) (hn:n.natAbs≤2 ^ K) (p:Int):cv_Int n 0 p=some (iv (intI n),0)∧Has (intI n,0) (n:R) 0 K:=by
 have h60:2 ^ K≤2 ^ 60:=Nat.pow_le_pow_right (by decide) hK
 have h60':(2:Nat) ^ 60=1152921504606846976:=by decide
 exact ⟨by rw [ivInt_eq (by omega),st_zero],has_int hK hn⟩
theorem s_of {f:Option (AI × Int)} {r:I × Int} {x:R} {L H:Int} (e:f=some (iv r.1,r.2)) (h:Has r x L H):∃ c,f=some (iv c,0)∧Has (c,0) x L H:=⟨r.1,by rw [e,h.e],h.pair⟩
theorem sAdd {a b:I} {x y:R} {L H:Int} (ha:Has (a,0) x L H) (hb:Has (b,0) y L H) {p:Nat} (hp:2≤p∧p≤400) (hL : -60000≤L) (hH:H+1≤60000):∃ c,cv_Add (iv a) (iv b) 0 (p:Int)=some (iv c,0)∧Has (c,0) (x+y) L (H+1):=
 s_of (ivAdd_eq ha.ok.ok hb.ok.ok hp 0) (has_add ha hb (by omega) hL hH)
theorem sMul {a b:I} {x y:R} {L H M K:Int} (ha:Has (a,0) x L H) (hb:Has (b,0) y M K) {p:Nat} (hp:2≤p∧p≤400) (hL : -60000≤L+M) (hH:H+K≤60000):∃ c,cv_Mul (iv a) (iv b) 0 (p:Int)=some (iv c,0)∧Has (c,0) (x*y) (L+M) (H+K):=
 s_of (ivMul_eq ha.ok.ok hb.ok.ok hp 0) (has_mul ha hb (by omega) hL hH)
theorem sHas {a:I} {x:R} {L H:Int} (ha:Has (a,0) x L H) {d:D} (hd:WD d) (e:ofQ (val d)=x):iv_Has (iv a) (dy d)=some true:=by
 have:hasI a d=true:=has_mem (by rw [e]; exact ha.m)
 rw [ivHas_eq ha.ok.ok hd,this]
theorem in_box {y:I} {L k:Int} (h:OkI y L k):inI y (box k)=true:=by
 refine inI_true ?_ ?_ h.le
 ·show val (negD ⟨1,k⟩)≤val y.lo
  rw [val_neg,val_half]; exact h.lo.b.1
 ·show val y.hi≤val ⟨1,k⟩
  rw [val_half]; exact h.hi.b.2
theorem nat_lt_of_cast {a b:Nat} (h:(a:Rat)<(b:Rat)):a<b:=by exact_mod_cast h
theorem rmul_lt_iff {a b p:Rat} (hp:0<p):a*p<b*p↔a<b:=by
 have h:=@mul_le_iff b a p hp
 constructor
 ·intro k; have:¬b*p≤a*p:=by grind
  rw [h] at this; grind
 ·intro k; have:¬b≤a:=by grind
  rw [← h] at this; grind
theorem cut_best {m p:Nat} {st:Bool} (hp:1≤p) (hb:p<blen m) {E:Int} {Q:Rat} (h1:(m:Rat)*p2 E≤Q) (h2:st=false→Q≤(m:Rat)*p2 E) (h3:Q<((m+1:Nat):Rat)*p2 E) (h4:st=true→(m:Rat)*p2 E<Q) :
  (∀ q,rep p q→q≤Q→q≤((cutN m st p false:Nat):Rat)*p2 (E+(blen m-p:Nat)))∧(∀ q,rep p q→Q≤q→((cutN m st p true:Nat):Rat)*p2 (E+(blen m-p:Nat))≤q):=by
 have hn:0<blen m-p:=by omega
 have hge:=cutN_ge m st p false hn
 generalize hnd:blen m-p=n at *
 have hM0:m≠0:=by intro h0; rw [h0,blen_zero] at hb; omega
 have hMge:=blen_le hM0
 have hbl:blen m=n+p:=by omega
 rw [hbl] at hMge
 have hp2:0<2 ^ n:=Nat.pow_pos (by decide)
 have hmpos:(0:Rat)<(m:Rat)*p2 E:=Rat.mul_pos (by exact_mod_cast (Nat.pos_of_ne_zero hM0)) (p2_pos E)
 constructor
 ·rintro q ⟨w,f,rfl,hw⟩ hq
  have hwb:=rep_bound hw f
  have hnn:(0:Rat)≤((cutN m st p false:Nat):Rat)*p2 (E+(n:Nat)):=Rat.mul_nonneg (natCast_nonneg _) (Rat.le_of_lt (p2_pos _))
  rcases (show w≤0∨0<w by omega) with k1 | k1
  ·have k2:(w:Rat)≤0:=by exact_mod_cast k1
   have k3:=Rat.mul_nonneg (show (0:Rat) ≤ -(w:Rat) by grind) (Rat.le_of_lt (p2_pos f))
   grind
  ·obtain ⟨v,rfl⟩:∃ v:Nat,w=(v:Int):=⟨w.natAbs,by omega⟩
   rw [Int.natAbs_natCast] at hwb hw
   rw [Rat.intCast_natCast] at hq ⊢
   by_cases hf:E+(n:Nat)≤f
   ·obtain ⟨k,hk⟩:∃ k:Nat,f=E+(n:Nat)+(k:Nat):=⟨(f-(E+(n:Nat))).toNat,by omega⟩
    have hq':(v:Rat)*p2 f<((m+1:Nat):Rat)*p2 E:=by grind
    rw [hk,p2_split _ k,← Rat.mul_assoc,mul_le_iff (p2_pos _),← Rat.natCast_mul]
    rw [hk,p2_split _ k,p2_split _ n,← Rat.mul_assoc,← Rat.mul_assoc,rmul_lt_iff (p2_pos _),← Rat.natCast_mul,← Rat.natCast_mul] at hq'
    have k2:=nat_lt_of_cast hq'
    apply natCast_le
    unfold cutN
    rw [hnd]
    simp only [Bool.and_false,Bool.false_eq_true,if_false,Nat.add_zero]
    rw [Nat.le_div_iff_mul_le (Nat.pow_pos (by decide))]
    omega
   ·have k3:2 ^ (p-1)≤cutN m st p false:=by
     rcases hge with k3 | k3
     ·exact k3
     ·omega
    have k4:=natCast_le k3
    have k5:=Rat.mul_le_mul_of_nonneg_right k4 (Rat.le_of_lt (p2_pos (E+(n:Nat))))
    rw [← p2_split] at k5
    have:=p2_le (show f+(p:Nat)≤E+(n:Nat)+((p-1:Nat):Int) by omega)
    grind
 ·rintro q ⟨w,f,rfl,hw⟩ hq
  have hwb:=rep_bound hw f
  have hw0:0<w:=by
   rcases (show w≤0∨0<w by omega) with k1 | k1
   ·have k2:(w:Rat)≤0:=by exact_mod_cast k1
    have k3:=Rat.mul_nonneg (show (0:Rat) ≤ -(w:Rat) by grind) (Rat.le_of_lt (p2_pos f))
    grind
   ·exact k1
  obtain ⟨v,rfl⟩:∃ v:Nat,w=(v:Int):=⟨w.natAbs,by omega⟩
  rw [Int.natAbs_natCast] at hwb hw
  rw [Rat.intCast_natCast] at hq ⊢
  have k3:=Nat.div_add_mod m (2 ^ n)
  have k4:=Nat.mod_lt m hp2
  by_cases hf:E+(n:Nat)≤f
  ·obtain ⟨k,hk⟩:∃ k:Nat,f=E+(n:Nat)+(k:Nat):=⟨(f-(E+(n:Nat))).toNat,by omega⟩
   have e1:(v:Rat)*p2 f=((v*2 ^ k*2 ^ n:Nat):Rat)*p2 E:=by
    rw [hk,p2_split _ k,p2_split _ n,← Rat.mul_assoc,← Rat.mul_assoc,← Rat.natCast_mul,← Rat.natCast_mul]
   have hc:cutN m st p true≤v*2 ^ k:=by
    have hle:(m:Rat)*p2 E≤((v*2 ^ k*2 ^ n:Nat):Rat)*p2 E:=by grind
    rw [mul_le_iff (p2_pos E)] at hle
    have hle:=nat_le_of_cast hle
    unfold cutN
    rw [hnd]
    simp only [Bool.and_true]
    have far:m<v*2 ^ k*2 ^ n→m / 2 ^ n+1≤v*2 ^ k:=by
     intro hlt
     have h5:m / 2 ^ n*2 ^ n<v*2 ^ k*2 ^ n:=by rw [Nat.mul_comm (m / 2 ^ n)]; omega
     exact Nat.lt_of_mul_lt_mul_right h5
    cases st with
    | true=>
     simp only [Bool.true_or,if_true]
     have hlt:(m:Rat)*p2 E<((v*2 ^ k*2 ^ n:Nat):Rat)*p2 E:=by have:=h4 rfl; grind
     rw [rmul_lt_iff (p2_pos E)] at hlt
     exact far (nat_lt_of_cast hlt)
    | false=>
     by_cases hr:m % 2 ^ n=0
     ·simp only [hr,bne_self_eq_false,Bool.or_false,Bool.false_eq_true,if_false,Nat.add_zero]
      have h6:m / 2 ^ n*2 ^ n≤v*2 ^ k*2 ^ n:=by rw [Nat.mul_comm (m / 2 ^ n)]; omega
      exact Nat.le_of_mul_le_mul_right h6 hp2
     ·have:(m % 2 ^ n != 0)=true:=by simpa using hr
      rw [this,Bool.false_or,if_pos rfl]
      refine far ?_
      rcases Nat.lt_or_ge m (v*2 ^ k*2 ^ n) with h7 | h7
      ·exact h7
      ·exfalso; apply hr
       have:m=v*2 ^ k*2 ^ n:=by omega
       rw [this]; exact Nat.mul_mod_left _ _
   have hc':=Rat.mul_le_mul_of_nonneg_right (natCast_le hc) (Rat.le_of_lt (p2_pos (E+(n:Nat))))
   have e2:((v*2 ^ k:Nat):Rat)*p2 (E+(n:Nat))=(v:Rat)*p2 f:=by rw [hk,p2_split _ k,Rat.natCast_mul]; grind
   grind
  ·have h5:(m:Rat)*p2 E≤p2 (E+((n+p-1:Nat):Int)):=by
    have:=p2_le (show f+(p:Nat)≤E+((n+p-1:Nat):Int) by omega)
    grind
   have h7:p2 (E+((n+p-1:Nat):Int))≤(m:Rat)*p2 E:=by
    rw [p2_split,mul_le_iff (p2_pos E)]; exact natCast_le (by omega)
   have hst:st=false:=by
    cases st with
    | false=>rfl
    | true=>
     exfalso
     have:=h4 rfl
     have:=p2_le (show f+(p:Nat)≤E+((n+p-1:Nat):Int) by omega)
     grind
   rw [p2_split,mul_le_iff (p2_pos _)] at h5
   have h6:=nat_le_of_cast h5
   have hMe:m=2 ^ (n+p-1):=by omega
   have hMd:m=2 ^ n*2 ^ (p-1):=by rw [hMe,← Nat.pow_add]; congr 1; omega
   have hc:cutN m st p true*2 ^ n=m:=by
    unfold cutN
    rw [hnd,hMd,Nat.mul_mod_right,Nat.mul_div_cancel_left _ hp2,hst]
    simp [Nat.mul_comm]
   rw [p2_split,← Rat.mul_assoc,← Rat.natCast_mul,hc]
   grind
theorem val_quo {x y:D} (hy0:y.m≠0) {k:Nat} : val x / val y=sg (decide (x.m<0) != decide (y.m<0)) 1*(((x.m.natAbs*2 ^ k:Nat):Rat) / (y.m.natAbs:Rat)*p2 (x.e-y.e-k)):=by
 have hv0:val y≠0:=fun h=>hy0 ((val_zero_iff y).1 h)
 have hYp:(0:Rat)<(y.m.natAbs:Rat):=by exact_mod_cast (show 0<y.m.natAbs by omega)
 have hvx:((x.m.natAbs*2 ^ k:Nat):Rat)*p2 (x.e-k)=(x.m.natAbs:Rat)*p2 x.e:=by
  rw [Rat.natCast_mul,Rat.mul_assoc,← p2_split]; congr 2; omega
 have hQ:((x.m.natAbs*2 ^ k:Nat):Rat) / (y.m.natAbs:Rat)*p2 (x.e-y.e-k)*((y.m.natAbs:Rat)*p2 y.e)=(x.m.natAbs:Rat)*p2 x.e:=by
  have e1:=mul_of_div (a:=((x.m.natAbs*2 ^ k:Nat):Rat)) (b:=(y.m.natAbs:Rat)) (by grind)
  have e2:p2 (x.e-y.e-k)*p2 y.e=p2 (x.e-k):=by rw [← p2_add]; congr 1; omega
  calc ((x.m.natAbs*2 ^ k:Nat):Rat) / (y.m.natAbs:Rat)*p2 (x.e-y.e-k)*((y.m.natAbs:Rat)*p2 y.e)=(((x.m.natAbs*2 ^ k:Nat):Rat) / (y.m.natAbs:Rat)*(y.m.natAbs:Rat))*(p2 (x.e-y.e-k)*p2 y.e):=by grind
   _=(x.m.natAbs:Rat)*p2 x.e:=by rw [e1,e2,hvx]
 generalize ((x.m.natAbs*2 ^ k:Nat):Rat) / (y.m.natAbs:Rat)*p2 (x.e-y.e-k)=Q at *
 apply div_of_mul hv0
 by_cases h1:x.m<0<;>by_cases h2:y.m<0
 ·rw [val_abs_neg h1,val_abs_neg h2,show (decide (x.m<0) != decide (y.m<0))=false by simp [h1,h2],sg_pos_cast]; grind
 ·rw [val_abs_neg h1,val_abs_pos h2,show (decide (x.m<0) != decide (y.m<0))=true by simp [h1,h2],sg_neg_cast]; grind
 ·rw [val_abs_pos h1,val_abs_neg h2,show (decide (x.m<0) != decide (y.m<0))=true by simp [h1,h2],sg_neg_cast]; grind
 ·rw [val_abs_pos h1,val_abs_pos h2,show (decide (x.m<0) != decide (y.m<0))=false by simp [h1,h2],sg_pos_cast]; grind
theorem div_best {x y:D} (hy0:val y≠0) {p:Nat} (hp:1≤p) (up:Bool) (h:(divD x y p up).2=0):(up=false→∀ q,rep p q→q≤val x / val y→q≤val (divD x y p up).1)∧(up=true→∀ q,rep p q→val x / val y≤q→val (divD x y p up).1≤q)∧rep p (val (divD x y p up).1):=by
 have hym:y.m≠0:=fun h=>hy0 (val_zero_m h)
 unfold divD at *
 rw [if_neg hym] at h ⊢
 by_cases hxm:x.m=0
 ·rw [if_pos hxm]
  have:val x / val y=0:=div_of_mul hy0 (by rw [val_zero_m hxm,Rat.zero_mul])
  rw [this]
  refine ⟨fun _ q _ hq=>by rw [val_z]; exact hq,fun _ q _ hq=>by rw [val_z]; exact hq,⟨0,0,by rw [val_z]; simp,by simp⟩⟩
 rw [if_neg hxm] at h ⊢
 rw [tell_ok' h]
 have hX0:x.m.natAbs≠0:=by omega
 have hY0:y.m.natAbs≠0:=by omega
 have hbv:=blen_shl hX0 (p+2+blen y.m.natAbs-blen x.m.natAbs)
 have hq:=val_quo (x:=x) hym (k:=p+2+blen y.m.natAbs-blen x.m.natAbs)
 have hbX:p+2+blen y.m.natAbs≤blen (x.m.natAbs*2 ^ (p+2+blen y.m.natAbs-blen x.m.natAbs)):=by omega
 generalize p+2+blen y.m.natAbs-blen x.m.natAbs=k at *
 generalize x.e-y.e-(k:Int)=E at *
 generalize x.m.natAbs*2 ^ k=v at *
 generalize y.m.natAbs=Y at *
 have hpE:=p2_pos E
 have hYp:(0:Rat)<(Y:Rat):=by exact_mod_cast Nat.pos_of_ne_zero hY0
 have hdm:=Nat.div_add_mod v Y
 have hml:=Nat.mod_lt v (Nat.pos_of_ne_zero hY0)
 have hvq:(v:Rat) / (Y:Rat)*(Y:Rat)=(v:Rat):=mul_of_div (by grind)
 have hbm:p<blen (v / Y):=by
  have h1:2 ^ (p+1)≤v / Y:=by
   rw [Nat.le_div_iff_mul_le (by omega)]
   have h2:=blen_lt Y
   have hv0:v≠0:=by intro h0; rw [h0,blen_zero] at hbX; omega
   have h3:=blen_le hv0
   have h4:2 ^ (p+1)*Y≤2 ^ (p+1)*2 ^ blen Y:=Nat.mul_le_mul_left _ (by omega)
   rw [← Nat.pow_add] at h4
   have h5:2 ^ (p+1+blen Y)≤2 ^ (blen v-1):=Nat.pow_le_pow_right (by decide) (by omega)
   omega
  have h2:=blen_lt (v / Y)
  have h3:2 ^ (p+1)<2 ^ blen (v / Y):=by omega
  have:=(Nat.pow_lt_pow_iff_right (a:=2) (by decide)).1 h3
  omega
 have hcast:(v:Rat)=(Y:Rat)*((v / Y:Nat):Rat)+((v % Y:Nat):Rat):=by
  rw [← Rat.natCast_mul,← Rat.natCast_add,hdm]
 have hz:(0:Rat)≤((v % Y:Nat):Rat):=natCast_nonneg _
 have hQ1:((v / Y:Nat):Rat)≤(v:Rat) / (Y:Rat):=by
  rw [← mul_le_iff hYp,hvq]; grind
 have hQ3:(v:Rat) / (Y:Rat)<((v / Y+1:Nat):Rat):=by
  rw [← rmul_lt_iff hYp,hvq,Rat.natCast_add]
  have:((v % Y:Nat):Rat)<(Y:Rat):=natCast_lt hml
  have e:((1:Nat):Rat)=1:=rfl
  rw [e]; grind
 have hQ2:(v % Y != 0)=false→(v:Rat) / (Y:Rat)≤((v / Y:Nat):Rat):=by
  intro h0
  have h0:v % Y=0:=by simpa using h0
  rw [← mul_le_iff hYp,hvq,hcast,h0]
  have e:((0:Nat):Rat)=0:=rfl
  rw [e]; grind
 have hQ4:(v % Y != 0)=true→((v / Y:Nat):Rat)<(v:Rat) / (Y:Rat):=by
  intro h0
  have h0:v % Y≠0:=by simpa using h0
  have h1:(0:Rat)<((v % Y:Nat):Rat):=by exact_mod_cast Nat.pos_of_ne_zero h0
  rw [← rmul_lt_iff hYp,hvq,hcast]
  have:v / Y=(Y*(v / Y)+v % Y) / Y:=by rw [hdm]
  grind
 have hb:=cut_best (m:=v / Y) (st:=v % Y != 0) (E:=E) (Q:=(v:Rat) / (Y:Rat)*p2 E) hp hbm (by rw [mul_le_iff hpE]; exact hQ1) (fun h0=>by rw [mul_le_iff hpE]; exact hQ2 h0) (by rw [rmul_lt_iff hpE]; exact hQ3) (fun h0=>by rw [rmul_lt_iff hpE]; exact hQ4 h0)
 have hrep:∀ neg s,rep p (val (cutD neg (v / Y) E (v % Y != 0) p s)):=fun neg s=>⟨sg neg (cutN (v / Y) (v % Y != 0) p s),E+(blen (v / Y)-p:Nat),val_cut _ _ _ _ _ _,by rw [sg_abs']; exact cutN_le _ _ _ _⟩
 rw [hq,val_cut]
 refine ⟨?_,?_,by rw [← val_cut]; exact hrep _ _⟩
 ·rintro rfl q hq1 hq2
  cases hs:(decide (x.m<0) != decide (y.m<0)) with
  | true=>
   rw [hs,sg_neg_cast] at hq2
   rw [sg_neg_cast,show (false != true)=true from rfl]
   have:=hb.2 (-q) (rep_neg hq1) (by have e:((1:Nat):Rat)=1:=rfl; rw [e] at hq2; grind)
   grind
  | false=>
   rw [hs,sg_pos_cast] at hq2
   rw [sg_pos_cast,show (false != false)=false from rfl]
   exact hb.1 q hq1 (by have e:((1:Nat):Rat)=1:=rfl; rw [e] at hq2; grind)
 ·rintro rfl q hq1 hq2
  cases hs:(decide (x.m<0) != decide (y.m<0)) with
  | true=>
   rw [hs,sg_neg_cast] at hq2
   rw [sg_neg_cast,show (true != true)=false from rfl]
   have:=hb.1 (-q) (rep_neg hq1) (by have e:((1:Nat):Rat)=1:=rfl; rw [e] at hq2; grind)
   grind
  | false=>
   rw [hs,sg_pos_cast] at hq2
   rw [sg_pos_cast,show (true != false)=true from rfl]
   exact hb.2 q hq1 (by have e:((1:Nat):Rat)=1:=rfl; rw [e] at hq2; grind)
theorem neg_vals (c:I):val (negI c).lo = -val c.hi∧val (negI c).hi = -val c.lo:=⟨val_neg _,val_neg _⟩
structure Quo (a b:I) (u v:Rat):Prop where
 h1:u≤val a.lo / val b.lo∧val a.lo / val b.lo≤v
 h2:u≤val a.lo / val b.hi∧val a.lo / val b.hi≤v
 h3:u≤val a.hi / val b.lo∧val a.hi / val b.lo≤v
 h4:u≤val a.hi / val b.hi∧val a.hi / val b.hi≤v
 mu:u=val a.lo / val b.lo∨u=val a.lo / val b.hi∨u=val a.hi / val b.lo∨u=val a.hi / val b.hi
 mv:v=val a.lo / val b.lo∨v=val a.lo / val b.hi∨v=val a.hi / val b.lo∨v=val a.hi / val b.hi
theorem min_of {a b c d:Rat} : ∃ u,(u≤a∧u≤b∧u≤c∧u≤d)∧(u=a∨u=b∨u=c∨u=d):=by
 have two:∀ x y:Rat,∃ u,(u≤x∧u≤y)∧(u=x∨u=y):=fun x y=>by
  rcases Rat.le_total (a:=x) (b:=y) with h | h
  ·exact ⟨x,⟨Rat.le_refl,h⟩,Or.inl rfl⟩
  ·exact ⟨y,⟨h,Rat.le_refl⟩,Or.inr rfl⟩
 obtain ⟨x,h1,h2⟩:=two a b
 obtain ⟨y,h3,h4⟩:=two c d
 obtain ⟨u,h5,h6⟩:=two x y
 exact ⟨u,⟨by grind,by grind,by grind,by grind⟩,by grind⟩
theorem divI_enc {a b:I} {L H M K:Int} (ha:OkI a L H) (hb:OkI b M K) (hz:hasI b zD=false) {p:Nat} (hp:1≤p) (hL : -60000≤L-K-p-2) (hH:H-M+2≤60000) :
  ∃ c u v,divI p a b=(c,0)∧OkI c (L-K-p-2) (H-M+2)∧Enc p c u v∧Quo a b u v:=by
 obtain ⟨c,ec,oc,hc⟩:=divI_ok ha hb hz hp hL hH
 have hs:=has_zero hz
 have hble:=hb.le
 have hale:=ha.le
 have nl:val b.lo≠0:=by grind
 have nh:val b.hi≠0:=by grind
 obtain ⟨u,hu,mu⟩:=min_of (a:=val a.lo / val b.lo) (b:=val a.lo / val b.hi) (c:=val a.hi / val b.lo) (d:=val a.hi / val b.hi)
 obtain ⟨w,hw,mw⟩:=min_of (a:=-(val a.lo / val b.lo)) (b:=-(val a.lo / val b.hi)) (c:=-(val a.hi / val b.lo)) (d:=-(val a.hi / val b.hi))
 have q:Quo a b u (-w):=⟨⟨hu.1,by grind⟩,⟨hu.2.1,by grind⟩,⟨hu.2.2.1,by grind⟩,⟨hu.2.2.2,by grind⟩,mu,by grind⟩
 refine ⟨c,u,-w,ec,oc,?_,q⟩
 have c1:=hc _ _ Rat.le_refl hale Rat.le_refl hble
 have c2:=hc _ _ Rat.le_refl hale hble Rat.le_refl
 have c3:=hc _ _ hale Rat.le_refl Rat.le_refl hble
 have c4:=hc _ _ hale Rat.le_refl hble Rat.le_refl
 have ec2:=ec
 obtain ⟨q1,e1,-⟩:=div_ok ha.lo hb.lo nl hp false hL hH
 obtain ⟨q2,e2,-⟩:=div_ok ha.lo hb.hi nh hp false hL hH
 obtain ⟨q3,e3,-⟩:=div_ok ha.hi hb.lo nl hp false hL hH
 obtain ⟨q4,e4,-⟩:=div_ok ha.hi hb.hi nh hp false hL hH
 obtain ⟨r1,f1,-⟩:=div_ok ha.lo hb.lo nl hp true hL hH
 obtain ⟨r2,f2,-⟩:=div_ok ha.lo hb.hi nh hp true hL hH
 obtain ⟨r3,f3,-⟩:=div_ok ha.hi hb.lo nl hp true hL hH
 obtain ⟨r4,f4,-⟩:=div_ok ha.hi hb.hi nh hp true hL hH
 have b1:=div_best (x:=a.lo) nl hp false (by rw [e1])
 have b2:=div_best (x:=a.lo) nh hp false (by rw [e2])
 have b3:=div_best (x:=a.hi) nl hp false (by rw [e3])
 have b4:=div_best (x:=a.hi) nh hp false (by rw [e4])
 have g1:=div_best (x:=a.lo) nl hp true (by rw [f1])
 have g2:=div_best (x:=a.lo) nh hp true (by rw [f2])
 have g3:=div_best (x:=a.hi) nl hp true (by rw [f3])
 have g4:=div_best (x:=a.hi) nh hp true (by rw [f4])
 rw [e1] at b1
 rw [e2] at b2
 rw [e3] at b3
 rw [e4] at b4
 rw [f1] at g1
 rw [f2] at g2
 rw [f3] at g3
 rw [f4] at g4
 unfold divI four4 at ec2
 rw [hz,if_neg (by simp)] at ec2
 simp only [e1,e2,e3,e4,f1,f2,f3,f4] at ec2
 have hcv:c=⟨min4 q1 q2 q3 q4,max4 r1 r2 r3 r4⟩:=by
  have:((⟨min4 q1 q2 q3 q4,max4 r1 r2 r3 r4⟩:I),(0:Int))=(c,0):=ec2
  exact (congrArg Prod.fst this).symm
 have m1:=min4_mem q1 q2 q3 q4
 have m2:=max4_mem r1 r2 r3 r4
 have l1:val c.lo=val (min4 q1 q2 q3 q4):=by rw [hcv]
 have l2:val c.hi=val (max4 r1 r2 r3 r4):=by rw [hcv]
 refine ⟨by grind,by grind,fun y hy hyu=>?_,fun y hy hyv=>?_,?_,?_⟩
 ·have k1:=b1.1 rfl y hy (by grind)
  have k2:=b2.1 rfl y hy (by grind)
  have k3:=b3.1 rfl y hy (by grind)
  have k4:=b4.1 rfl y hy (by grind)
  simp only at k1 k2 k3 k4
  rw [l1]; rcases m1 with m | m | m | m<;>rw [m]<;>assumption
 ·have k1:=g1.2.1 rfl y hy (by grind)
  have k2:=g2.2.1 rfl y hy (by grind)
  have k3:=g3.2.1 rfl y hy (by grind)
  have k4:=g4.2.1 rfl y hy (by grind)
  simp only at k1 k2 k3 k4
  rw [l2]; rcases m2 with m | m | m | m<;>rw [m]<;>assumption
 ·rw [l1]; rcases m1 with m | m | m | m<;>rw [m]
  ·exact b1.2.2
  ·exact b2.2.2
  ·exact b3.2.2
  ·exact b4.2.2
 ·rw [l2]; rcases m2 with m | m | m | m<;>rw [m]
  ·exact g1.2.2
  ·exact g2.2.2
  ·exact g3.2.2
  ·exact g4.2.2
theorem floor_near (x:Rat):(x.floor:Rat)≤x∧x<(x.floor:Rat)+1:=⟨Rat.floor_le x,by have:=Rat.lt_floor_add_one x; rw [Rat.intCast_add] at this; exact this⟩
theorem rep_below {p:Nat} {s:Int} {u:Rat} (h:B s u):∃ q,rep p q∧q≤u∧u-p2 (s-p)≤q:=by
 have hp:=p2_pos (s-p)
 have hi:=p2_pos (p-s)
 have e1:p2 (s-p)*p2 (p-s)=1:=by rw [← p2_add,show s-p+(p-s)=0 by omega,p2_zero]
 have e2:p2 s*p2 (p-s)=((2 ^ p:Nat):Rat):=by rw [← p2_add,show s+(p-s)=((p:Nat):Int) by omega,p2_nat]
 obtain ⟨f1,f2⟩:=floor_near (u*p2 (p-s))
 generalize hz:(u*p2 (p-s)).floor=z at f1 f2
 have h1:=Rat.mul_le_mul_of_nonneg_right h.1 (Rat.le_of_lt hi)
 have h2:=Rat.mul_le_mul_of_nonneg_right h.2 (Rat.le_of_lt hi)
 have hzl : -((2 ^ p:Nat):Int)≤z:=by
  rcases Int.lt_or_le z (-((2 ^ p:Nat):Int)) with k | k
  ·have h3:(z:Rat)+1≤((-((2 ^ p:Nat):Int):Int):Rat):=by
    have:=intCast_le (show z+1 ≤ -((2 ^ p:Nat):Int) by omega)
    rwa [Rat.intCast_add] at this
   rw [Rat.intCast_neg,Rat.intCast_natCast] at h3
   grind
  ·exact k
 have hzh:z≤((2 ^ p:Nat):Int):=by
  rcases Int.lt_or_le ((2 ^ p:Nat):Int) z with k | k
  ·have h3:=intCast_lt k
   rw [Rat.intCast_natCast] at h3
   grind
  ·exact k
 refine ⟨(z:Rat)*p2 (s-p),⟨z,s-p,rfl,by omega⟩,?_,?_⟩
 ·have:=Rat.mul_le_mul_of_nonneg_right f1 (Rat.le_of_lt hp)
  have e:u*p2 (p-s)*p2 (s-p)=u:=by grind
  grind
 ·have:=Rat.mul_le_mul_of_nonneg_right (Rat.le_of_lt f2) (Rat.le_of_lt hp)
  have e:u*p2 (p-s)*p2 (s-p)=u:=by grind
  grind
theorem enc_width {p:Nat} {c:I} {u v:Rat} (h:Enc p c u v) {s:Int} (hu:B s u) (hv:B s v):val c.hi-val c.lo≤v-u+2*p2 (s-p):=by
 obtain ⟨q,r1,q1,q2⟩:=rep_below (p:=p) hu
 obtain ⟨t,r2,t1,t2⟩:=rep_below (p:=p) hv.neg
 have h1:=h.blo q r1 q1
 have h2:=h.bhi (-t) (rep_neg r2) (by grind)
 grind
theorem enc_bounds {p:Nat} {c:I} {u v:Rat} (h:Enc p c u v) {s:Int} (hu:B s u) (hv:B s v) (hle:val c.lo≤val c.hi):B s (val c.lo)∧B s (val c.hi):=by
 have h1:=h.blo _ (rep_neg (rep_p2 p s)) hu.1
 have h2:=h.bhi _ (rep_p2 p s) hv.2
 exact ⟨⟨h1,by grind⟩,⟨by grind,h2⟩⟩
structure HasW (r:I × Int) (x:R) (L H:Int) (w:Rat):Prop where
 h:Has r x L H
 w:val r.1.hi-val r.1.lo≤w
theorem HasW.mono {r:I × Int} {x:R} {L H L' H':Int} {w w':Rat} (h:HasW r x L H w) (h1:L'≤L) (h2:H≤H') (h3:w≤w'):HasW r x L' H' w':=⟨h.h.mono h1 h2,by have:=h.w; grind⟩
theorem HasW.eq {r:I × Int} {x y:R} {L H:Int} {w:Rat} (h:HasW r x L H w) (e:x=y):HasW r y L H w:=e ▸ h
theorem HasW.pair {r:I × Int} {x:R} {L H:Int} {w:Rat} (h:HasW r x L H w):HasW (r.1,0) x L H w:=⟨h.h.pair,h.w⟩
theorem hw_point {x:D} {L H:Int} (h:Okd x L H):HasW (⟨x,x⟩,0) (ofQ (val x)) L H 0:=⟨has_point h,by show val x-val x≤0; grind⟩
theorem hw_int {n:Int} {K:Nat} (hK:K≤60) (hn:n.natAbs≤2 ^ K):HasW (iS n 0) (n:R) 0 (K:Int) 0:=⟨has_int hK hn,by show val (fromD n)-val (fromD n)≤0; grind⟩
theorem hw_neg {r:I × Int} {x:R} {L H:Int} {w:Rat} (h:HasW r x L H w):HasW (nS r.1 0) (-x) L H w:=⟨has_neg h.h,by
 have n:=neg_vals r.1
 show val (negI r.1).hi-val (negI r.1).lo≤w
 rw [n.1,n.2]; have:=h.w; grind⟩
theorem HasW.ends {r:I × Int} {x:R} {L H:Int} {w m:Rat} (h:HasW r x L H w) (hx:ab x≤ofQ m) : -(m+w)≤val r.1.lo∧val r.1.lo≤m∧-m≤val r.1.hi∧val r.1.hi≤m+w:=by
 have h1:=h.h.m.lo
 have h2:=h.h.m.hi
 have h3:=ab_le.1 hx
 have h4:val r.1.lo≤m:=ofQ_le.1 (by grind)
 have h5 : -m≤val r.1.hi:=ofQ_le.1 (by rw [ofQ_neg]; grind)
 have:=h.w
 exact ⟨by grind,h4,h5,by grind⟩
theorem hw_add {r s:I × Int} {x y:R} {L H:Int} {w1 w2 m:Rat} {K:Int} (ha:HasW r x L H w1) (hb:HasW s y L H w2) (hm:ab (x+y)≤ofQ m) (hK:m+w1+w2≤p2 K) {p:Nat} (hp:1≤p) (hL : -60000≤L) (hH:H+1≤60000):HasW (aS p r.1 s.1 0) (x+y) L K (w1+w2+2*p2 (K-p)):=by
 obtain ⟨c,e,o,en⟩:=addI_ok ha.h.ok hb.h.ok hp hL hH
 have h:=has_add ha.h hb.h hp hL hH
 have e':aS p r.1 s.1 0=(c,0):=e
 have l1:=ofQ_le.2 (Rat.le_refl (a:=val r.1.lo))
 have h1:=ha.h.m.lo; have h2:=ha.h.m.hi; have h3:=hb.h.m.lo; have h4:=hb.h.m.hi
 have h5:=ab_le.1 hm
 have u1:val r.1.lo+val s.1.lo≤m:=ofQ_le.1 (by rw [ofQ_add]; grind)
 have v1 : -m≤val r.1.hi+val s.1.hi:=ofQ_le.1 (by rw [ofQ_add,ofQ_neg]; grind)
 have k1:=ha.w; have k2:=hb.w; have k3:=ha.h.ok.le; have k4:=hb.h.ok.le
 have bu:B K (val r.1.lo+val s.1.lo):=⟨by grind,by grind⟩
 have bv:B K (val r.1.hi+val s.1.hi):=⟨by grind,by grind⟩
 have b:=enc_bounds en bu bv o.le
 have w:=enc_width en bu bv
 rw [e'] at h ⊢
 exact ⟨⟨rfl,⟨⟨o.lo.w,o.lo.g,b.1⟩,⟨o.hi.w,o.hi.g,b.2⟩,o.le⟩,h.m⟩,by grind⟩
theorem hw_sub {r s:I × Int} {x y:R} {L H:Int} {w1 w2 m:Rat} {K:Int} (ha:HasW r x L H w1) (hb:HasW s y L H w2) (hm:ab (x-y)≤ofQ m) (hK:m+w1+w2≤p2 K) {p:Nat} (hp:1≤p) (hL : -60000≤L) (hH:H+1≤60000):HasW (suS p r.1 s.1 0) (x-y) L K (w1+w2+2*p2 (K-p)):=by
 have h:=hw_add ha (hw_neg hb) (m:=m) (K:=K) (by rw [show x + -y=x-y by grind]; exact hm) hK hp hL hH
 exact HasW.eq h (by grind)
theorem width_prod {a b a' b' A C w1 w2:Rat} (ha : -A≤a∧a≤A) (hb' : -C≤b'∧b'≤C) (h1 : -w1≤a-a'∧a-a'≤w1) (h2 : -w2≤b-b'∧b-b'≤w2):a*b-a'*b'≤A*w2+C*w1:=by
 have k1:=(mul_abs_le ha h2).2
 have k2:=(mul_abs_le hb' h1).2
 have e:a*b-a'*b'=a*(b-b')+b'*(a-a'):=by grind
 grind
theorem hw_mul {r s:I × Int} {x y:R} {L H M K:Int} {w1 w2:Rat} (ha:HasW r x L H w1) (hb:HasW s y M K w2) {p:Nat} (hp:1≤p) (hL : -60000≤L+M) (hH:H+K≤60000):HasW (mS p r.1 s.1 0) (x*y) (L+M) (H+K) (p2 H*w2+p2 K*w1+2*p2 (H+K-p)):=by
 obtain ⟨c,u,v,e,o,en,pr⟩:=mulI_ok ha.h.ok hb.h.ok hp hL hH
 have h:=has_mul ha.h hb.h hp hL hH
 have e':mS p r.1 s.1 0=(c,0):=e
 have k1:=ha.w; have k2:=hb.w; have k3:=ha.h.ok.le; have k4:=hb.h.ok.le
 have a1:=ha.h.ok.lo.b; have a2:=ha.h.ok.hi.b; have b1:=hb.h.ok.lo.b; have b2:=hb.h.ok.hi.b
 have bu:B (H+K) u:=by rcases pr.mu with q | q | q | q<;>rw [q]<;>exact B.mul (by assumption) (by assumption)
 have bv:B (H+K) v:=by rcases pr.mv with q | q | q | q<;>rw [q]<;>exact B.mul (by assumption) (by assumption)
 have hd:v-u≤p2 H*w2+p2 K*w1:=by
  unfold B at a1 a2 b1 b2
  rcases pr.mv with q | q | q | q<;>rcases pr.mu with t | t | t | t<;>rw [q,t]<;>exact width_prod (by assumption) (by assumption) (by constructor<;>grind) (by constructor<;>grind)
 have w:=enc_width en bu bv
 rw [e'] at h ⊢
 exact ⟨h,by grind⟩
theorem div_n_val {n:Nat} (hn:0<n) (x:Rat):x / val (intI (n:Int)).lo*(n:Rat)=x:=by
 have e:val (intI (n:Int)).lo=(n:Rat):=by rw [show (intI (n:Int)).lo=fromD (n:Int) from rfl,val_from]; exact Rat.intCast_natCast n
 rw [e]
 have:(0:Rat)<(n:Rat):=by exact_mod_cast hn
 exact mul_of_div (by grind)
theorem hw_div_n {r:I × Int} {x z:R} {L H:Int} {w:Rat} (ha:HasW r x L H w) {n k:Nat} (hk:k≤60) (h0:0<n) (hn:n≤2 ^ k) {j:Int} (hj:p2 j≤(n:Rat)) (hz:z*(n:R)=x) {p:Nat} (hp:1≤p) (hL : -60000≤L-k-p-2) (hH:H+2≤60000):HasW (dS p r.1 (iS (n:Int) 0).1 0) z (L-k-p-2) (H-j) (w*p2 (-j)+2*p2 (H-j-p)):=by
 obtain ⟨c,u,v,e,o,en,q⟩:=divI_enc (p:=p) ha.h.ok (has_nat hk hn).ok (nz_int h0) hp hL (by omega)
 have h:=has_div_n ha.h hk h0 hn hz hp hL hH
 have e':dS p r.1 (iS (n:Int) 0).1 0=(c,0):=e
 have k1:=ha.w; have k3:=ha.h.ok.le
 have a1:=ha.h.ok.lo.b; have a2:=ha.h.ok.hi.b
 have hnr:(0:Rat)<(n:Rat):=by exact_mod_cast h0
 have hpj:=p2_pos (-j)
 have ej:p2 (-j)*p2 j=1:=by rw [← p2_add,show -j+j=0 by omega,p2_zero]
 have ejn:1≤p2 (-j)*(n:Rat):=by have:=Rat.mul_le_mul_of_nonneg_left hj (Rat.le_of_lt hpj); grind
 have eH:p2 (H-j)=p2 H*p2 (-j):=by rw [← p2_add]; congr 1
 have hi:(iS (n:Int) 0).1=intI (n:Int):=rfl
 have lohi:(intI (n:Int)).hi=(intI (n:Int)).lo:=rfl
 rw [hi] at q
 have d1:=div_n_val h0 (val r.1.lo)
 have d2:=div_n_val h0 (val r.1.hi)
 have qu:=q.mu
 have qv:=q.mv
 rw [lohi] at qu qv
 have bdd:∀ x:Rat,B H (x*(n:Rat))→B (H-j) x:=by
  intro x hx
  unfold B at *
  rw [eH]
  have k5:=Rat.mul_le_mul_of_nonneg_left ejn (Rat.le_of_lt (p2_pos H))
  constructor
  ·rw [← mul_le_iff hnr]; grind
  ·rw [← mul_le_iff hnr]; grind
 have bu:B (H-j) u:=bdd u (by rcases qu with k | k | k | k<;>rw [k]<;>first | (rw [d1]; exact a1) | (rw [d2]; exact a2))
 have bv:B (H-j) v:=bdd v (by rcases qv with k | k | k | k<;>rw [k]<;>first | (rw [d1]; exact a1) | (rw [d2]; exact a2))
 have hd:v-u≤w*p2 (-j):=by
  have hw0:0≤w:=by grind
  have k5:=Rat.mul_le_mul_of_nonneg_left ejn hw0
  rw [← mul_le_iff hnr]
  have:(v-u)*(n:Rat)≤w:=by
   rcases qu with k | k | k | k<;>rcases qv with t | t | t | t<;>rw [k,t]<;>grind
  grind
 have wd:=enc_width en bu bv
 have b:=enc_bounds en bu bv o.le
 rw [e'] at h ⊢
 exact ⟨⟨rfl,⟨⟨o.lo.w,o.lo.g.mono (by omega),b.1⟩,⟨o.hi.w,o.hi.g.mono (by omega),b.2⟩,o.le⟩,h.m⟩,by grind⟩
theorem hw_wide {r:I × Int} {x y:R} {L H:Int} {w m:Rat} {K:Int} (ha:HasW r x L H w) {d:D} (hd:Okd d L H) (hxy:ab (y-x)≤ofQ (val d)) (hm:ab x≤ofQ m) (hK:m+w+val d≤p2 K) {p:Nat} (hp:1≤p) (hL : -60000≤L) (hH:H+1≤60000):HasW (wS p r.1 d 0) y L K (w+2*val d+2*p2 (K-p)):=by
 have h0:0≤val d:=by
  have:=ab_nonneg (y-x)
  exact ofQ_le.1 (rle_trans this hxy)
 obtain ⟨c,e,o,en⟩:=wideI_ok ha.h.ok hd h0 hp hL hH
 have h:=has_wide ha.h hd hxy hp hL hH
 have e':wS p r.1 d 0=(c,0):=e
 have q:=ha.ends hm
 have k1:=ha.w; have k3:=ha.h.ok.le
 have bu:B K (val r.1.lo-val d):=⟨by grind,by grind⟩
 have bv:B K (val r.1.hi+val d):=⟨by grind,by grind⟩
 have b:=enc_bounds en bu bv o.le
 have wd:=enc_width en bu bv
 rw [e'] at h ⊢
 exact ⟨⟨rfl,⟨⟨o.lo.w,o.lo.g,b.1⟩,⟨o.hi.w,o.hi.g,b.2⟩,o.le⟩,h.m⟩,by grind⟩
theorem hw_scale {r:I × Int} {x:R} {L H n:Int} {w:Rat} (ha:HasW r x L H w) (hL : -60000≤L+n) (hH:H+n≤60000):HasW (scS r.1 n 0) (x*ofQ (p2 n)) (L+n) (H+n) (w*p2 n):=by
 obtain ⟨c,e,o,e1,e2⟩:=scaleI_ok ha.h.ok hL hH
 have h:=has_scale ha.h hL hH
 have e':scS r.1 n 0=(c,0):=e
 rw [e'] at h ⊢
 refine ⟨h,?_⟩
 show val c.hi-val c.lo≤w*p2 n
 have:=Rat.mul_le_mul_of_nonneg_right ha.w (Rat.le_of_lt (p2_pos n))
 rw [e1,e2]; grind
theorem rep_grid {p:Nat} {q:Rat} (h:rep p q) {l:Int} (hl:p2 l≤q):G (l-p) q:=by
 obtain ⟨w,f,rfl,hw⟩:=h
 have hwb:=rep_bound hw f
 have h1:(w:Rat)≤(w.natAbs:Rat):=by
  have:=intCast_le (show w≤(w.natAbs:Int) by omega)
  rwa [Rat.intCast_natCast] at this
 have h2:=Rat.mul_le_mul_of_nonneg_right h1 (Rat.le_of_lt (p2_pos f))
 have h3:p2 l≤p2 (f+(p:Nat)):=by grind
 have:=p2_le_iff.1 h3
 exact G.of (by omega)
theorem ncast_succ (i:Nat) (d:Rat):((i+1:Nat):Rat)*d=(i:Rat)*d+d:=by rw [Rat.natCast_add]; have:((1:Nat):Rat)=1:=rfl; rw [this]; grind
theorem ncast_mul_le {i j:Nat} (h:i≤j) {d:Rat} (hd:0≤d):(i:Rat)*d≤(j:Rat)*d:=Rat.mul_le_mul_of_nonneg_right (natCast_le h) hd
theorem ser_w {p:Nat} (hp:1≤p) (next:Nat→I→Int→I × I × Int) (T P Su:Nat→R) {L0 c:Int} {Hh:Int} {wt wp m w0:Rat} (hc:0≤c) {N:Nat} (hS:∀ i,Su (i+1)=Su i+P (i+1)) (hwp:0≤wp)
  (hn:∀ i t,i<N→HasW (t,0) (T i) (L0-c*i) Hh wt→(next (i+1) t 0).2.2=0∧HasW ((next (i+1) t 0).1,0) (T (i+1)) (L0-c*(i+1:Nat)) Hh wt∧HasW ((next (i+1) t 0).2.1,0) (P (i+1)) (L0-c*(i+1:Nat)) Hh wp)
  (hSu:∀ i,ab (Su i)≤ofQ m) (hK:m+(w0+(N:Rat)*(wp+2*p2 (-(p:Int))))≤1) (hL : -60000≤L0-c*N) (hH:Hh≤0) :
  ∀ (k i:Nat) (s t:I),i+k=N→HasW (s,0) (Su i) (L0-c*i) 0 (w0+(i:Rat)*(wp+2*p2 (-(p:Int))))→HasW (t,0) (T i) (L0-c*i) Hh wt→HasW (serL p next k i s t 0) (Su N) (L0-c*N) 0 (w0+(N:Rat)*(wp+2*p2 (-(p:Int)))):=by
 intro k
 induction k with
 | zero=>
  intro i s t hi hs _
  have:i=N:=by omega
  subst this
  exact hs
 | succ k ih=>
  intro i s t hi hs ht
  obtain ⟨n1,n2,n3⟩:=hn i t (by omega) ht
  have e1:=cmul_succ c i
  have m1:=cmul_le hc (show i+1≤N by omega)
  have hpp:=p2_pos (-(p:Int))
  have d1:=ncast_succ i (wp+2*p2 (-(p:Int)))
  have d2:=ncast_mul_le (show i+1≤N by omega) (show 0≤wp+2*p2 (-(p:Int)) by grind)
  have h1:=hw_add (p:=p) (K:=0) (m:=m) (hs.mono (L':=L0-c*(i+1:Nat)) (H':=0) (by omega) (by omega) Rat.le_refl) (n3.mono (Int.le_refl _) (H':=0) (by omega) Rat.le_refl) (by rw [← hS i]; exact hSu _) (by rw [p2_zero]; grind) hp (by omega) (by omega)
  rw [serL,n1]
  have h2:=ih (i+1) _ _ (by omega) ((h1.mono (Int.le_refl _) (Int.le_refl _) (w':=w0+((i+1:Nat):Rat)*(wp+2*p2 (-(p:Int)))) (by rw [show (0:Int)-(p:Int) = -(p:Int) by omega]; grind)).eq (hS i).symm).pair n2
  rw [h1.h.e]; exact h2
theorem sq_w {y:I} {x:R} {L H l:Int} {w:Rat} (hy:HasW (y,0) x L H w) (hl:p2 l≤val y.lo) {p:Nat} (hp:1≤p) (hL : -60000≤L+L) (hH:H+H≤60000):HasW (mS p y y 0) (x*x) (l+l-p) (H+H) (2*(p2 H*w)+2*p2 (H+H-p)):=by
 have h:=hw_mul hy hy hp hL hH
 obtain ⟨c,u,v,e,o,en,pr⟩:=mulI_ok hy.h.ok hy.h.ok hp hL hH
 have e':mS p y y 0=(c,0):=by show st 0 zI (mulI p y y)=_; rw [st_zero]; exact e
 have e'':mS p (y,(0:Int)).1 (y,(0:Int)).1 0=(c,0):=e'
 rw [e''] at h
 rw [e']
 have hle:=hy.h.ok.le
 have hlo:p2 l≤val y.lo:=hl
 have hhi:p2 l≤val y.hi:=by have:val y.lo≤val y.hi:=hle; grind
 have hp0:=p2_pos l
 have mm:∀ a b:Rat,p2 l≤a→p2 l≤b→p2 (l+l)≤a*b:=fun a b ha hb=>by
  rw [p2_add]
  have h1:=Rat.mul_le_mul_of_nonneg_right ha (Rat.le_of_lt hp0)
  have h2:=Rat.mul_le_mul_of_nonneg_left hb (show 0≤a by grind)
  grind
 have hu:p2 (l+l)≤u:=by rcases pr.mu with k | k | k | k<;>rw [k]<;>exact mm _ _ (by assumption) (by assumption)
 have b1:=en.blo _ (rep_p2 p (l+l)) hu
 have ol:=o.le
 exact ⟨⟨rfl,⟨⟨o.lo.w,rep_grid en.rlo b1,o.lo.b⟩,⟨o.hi.w,rep_grid en.rhi (by grind),o.hi.b⟩,o.le⟩,h.h.m⟩,by have:=h.w; grind⟩
theorem Su_le {a:Nat→R} (h0:a 0=0) (h:∀ n,ab (a n)≤1) {t w x:R} (hg:Geo t w) (hx:ab x≤t) (k:Nat):ab (psum a x (k+1))≤w*t:=by
 have h1:=psum_tail (PB.one h) hg (x:=x) (by grind) 1 k
 have e1:psum a x 1=0:=by show 0+a 0*x ^ 0=0; rw [h0]; grind
 rw [e1,show 1+k=k+1 by omega,show t ^ 1=t by rw [rpow_succ,rpow_zero]; grind] at h1
 have h2:psum a x (k+1)-0=psum a x (k+1):=by grind
 rw [h2] at h1
 have h3:=rmul_nonneg (show 0≤w by have:=hg.pos; grind) (pow_nonneg hg.h0 (k+1))
 grind
theorem atan_w {p:Nat} (hp:2≤p∧p≤400) {y:I} {x:R} {L Lq H Hq:Int} {w wq wt wp m:Rat} (hy:HasW (y,0) x L H w) (hq:HasW (mS p y y 0) (x*x) Lq Hq wq) (hH:H ≤ -1) (hHq:Hq≤0) (hL0:L≤0) (hLq:Lq≤0) (hw:w≤wt) (hwt:p2 H*wq+p2 Hq*wt+2*p2 (H+Hq-p)≤wt) (hwp:wt*p2 (-1)+2*p2 (H-1-p)≤wp) (hm:∀ k,ab (psum atc x (k+1))≤ofQ m) (hK:m+(wt+((p / 2+4:Nat):Rat)*(wp+2*p2 (-(p:Int))))+p2 (-(p:Int))≤1) {M:Int} (hM:M≤L-(p+20-Lq)*(p / 2+4:Nat)) (hM' : -60000≤M):HasW (atanI p y) (A x) M 0 (wt+((p / 2+4:Nat):Rat)*(wp+2*p2 (-(p:Int)))+4*p2 (-(p:Int))):=by
 have hpp:=p2_pos (-(p:Int))
 have hwt0:0≤wt:=by have:=hy.w; have:=hy.h.ok.le; grind
 have hp1:=p2_pos (-1)
 have hp3:=p2_pos (H-1-p)
 have hwp0:0≤wp:=by have:=Rat.mul_nonneg hwt0 (Rat.le_of_lt hp1); grind
 unfold atanI
 rw [if_pos (in_box (hy.h.ok.mono (Int.le_refl _) (show H ≤ -1 from hH)))]
 have hcN:=ser_lim (c:=p+20-Lq) (N:=p / 2+4) (by omega) (by omega)
 have h:=ser_w (p:=p) (by omega) (nAtan p (mS p y y 0).1) (fun i=>sS (2*i+1)*x ^ (2*i+1)) (fun i=>atc (2*i+1)*x ^ (2*i+1)) (fun i=>psum atc x (2*i+2)) (L0:=L) (c:=p+20-Lq) (Hh:=H) (wt:=wt) (wp:=wp) (m:=m) (w0:=wt) (by omega) (N:=p / 2+4) (fun i=>atc_sum x i) hwp0 (by
  intro i t hiN ht
  have m1:=cmul_le (c:=p+20-Lq) (by omega) (show i+1≤p / 2+4 by omega)
  have e1:=cmul_succ (p+20-Lq) i
  have h1:=hw_mul (p:=p) ht hq (by omega) (by omega) (by omega)
  have h2:=(hw_neg h1).eq (y:=sS (2*(i+1)+1)*x ^ (2*(i+1)+1)) (by
   rw [show 2*(i+1)+1=2*i+1+2 by omega,sS_two,rpow_succ x (2*i+1+1),rpow_succ x (2*i+1)]; grind)
  have h2:=h2.mono (Int.le_refl _) (show H+Hq≤H by omega) hwt
  have h3:=hw_div_n (p:=p) (z:=atc (2*(i+1)+1)*x ^ (2*(i+1)+1)) h2 (n:=2*(i+1)+1) (k:=10) (by omega) (by omega) (by omega) (j:=1) (by rw [show (1:Int)=((1:Nat):Int) from rfl,p2_nat]; exact natCast_le (by omega)) (by
   rw [atc]; exact over_n _ _ _) (by omega) (by omega) (by omega)
  unfold nAtan oddS
  rw [h1.h.e,h2.h.e,show (iS ((2*(i+1)+1:Nat):Int) 0).2=0 from rfl]
  exact ⟨h3.h.e,(h2.mono (by omega) (by omega) Rat.le_refl).pair,(h3.mono (by omega) (by omega) hwp).pair⟩) (fun i=>hm _) (by grind) (by omega) (by omega) (p / 2+4) 0 y y (by omega)
  ((hy.mono (by omega) (by omega) (by have:((0:Nat):Rat)=0:=rfl; rw [this]; grind)).eq (by
   show x=0+atc 0*x ^ 0+atc 1*x ^ (0+1)
   have h1:=over_n (sS 1) x 0
   rw [show ((0+1:Nat):R)=1 from rfl] at h1
   rw [rpow_succ,rpow_zero,atc,atc,show sS 0=0 from rfl,show sS 1=1 from rfl,show ((1:Nat):R)=1 from rfl]
   rw [show sS 1=1 from rfl] at h1
   grind))
  ((hy.mono (by omega) (by omega) hw).eq (by
   show x=sS 1*x ^ (0+1)
   rw [rpow_succ,rpow_zero,show sS 1=1 from rfl]; grind))
 have hx:=box_half (in_box (hy.h.ok.mono (Int.le_refl _) (show H ≤ -1 from hH))) hy.h.m
 rw [hq.h.e]
 unfold finS
 rw [h.h.e]
 have hf1:=hf_le (show p+1≤2*(p / 2+4)+2 by omega)
 have hf2:=two_hf p
 have h5:=hw_wide (p:=p) (K:=0) (m:=m) (h.mono (L':=M) (H':=0) (by omega) (by omega) Rat.le_refl) (d:=⟨1,-(p:Int)⟩) (Okd_half (by omega) (by omega) (by omega)) (y:=A x) (by
  rw [val_half,p2_neg_nat]
  exact rle_trans (tail_half (over_ab rfl fun n=>(sg_ab n).1) hx _) (by grind)) (hm _) (by rw [val_half,p2_zero]; grind) (by omega) (by omega) (by omega)
 refine h5.mono (Int.le_refl _) (Int.le_refl _) ?_
 rw [val_half,show (0:Int)-(p:Int) = -(p:Int) by omega]; grind
end Go.Proofs.YtjfcghliglfapaaGreat.Gen
namespace Go.An
def q4:Nat→Rat × Rat
 | 0=>(0,1)
 | n+1=>((q4 n).2,-(q4 n).1)
def atq (n:Nat):Rat:=(q4 n).1*(n:Rat)⁻¹
def qsum (a:Nat→Rat) (x:Rat):Nat→Rat
 | 0=>0
 | n+1=>qsum a x n+a n*x ^ n
theorem q4_eq (n:Nat):sg4 n=(ofQ (q4 n).1,ofQ (q4 n).2):=by
 induction n with
 | zero=>rfl
 | succ n ih=>rw [sg4,q4,ih,ofQ_neg]
theorem over_q {a:R} {q:Rat} {n:Nat} (h:a=ofQ q) (h0:n=0→q=0):a*((n:Nat):R)⁻¹=ofQ (q*(n:Rat)⁻¹):=by
 cases n with
 | zero=>rw [h,h0 rfl,Rat.zero_mul]; show (0:R)*_=0; grind
 | succ n=>rw [h,ofQ_mul,ofQ_inv (by exact_mod_cast Nat.succ_ne_zero n),ofQ_nat]
theorem atc_q (n:Nat):atc n=ofQ (atq n):=over_q (by rw [sS,q4_eq]) (by rintro rfl; rfl)
theorem psum_q {a:Nat→R} {b:Nat→Rat} (h:∀ n,a n=ofQ (b n)) (x:Rat) (n:Nat):psum a (ofQ x) n=ofQ (qsum b x n):=by
 induction n with
 | zero=>rfl
 | succ n ih=>rw [psum,qsum,ih,h,ofQ_add,ofQ_mul,ofQ_pow]
theorem geo_q {q:Rat} (h0:0≤q) (h1:q<1):Geo (ofQ q) (ofQ (1-q)⁻¹):=⟨ofQ_le.2 h0,ofQ_lt.2 h1,by
 rw [← ofQ_one,← ofQ_sub,← ofQ_mul,Rat.inv_mul_cancel _ (by grind)]⟩
theorem near_q {a:Nat→R} {b:Nat→Rat} (h:∀ n,a n=ofQ (b n)) (hb:∀ n,ab (a n)≤1) {q:Rat} (h0:0≤q) (h1:q<1) (n:Nat):ofQ (qsum b q n-(1-q)⁻¹*q ^ n)≤ps a (ofQ q)∧ps a (ofQ q)≤ofQ (qsum b q n+(1-q)⁻¹*q ^ n):=by
 have h2:=ps_tail (PB.one hb) (geo_q h0 h1) (x:=ofQ q) (by rw [ab_of (ofQ_le.2 h0)]; grind) n
 rw [psum_q h,← ofQ_pow] at h2
 have h3:=ab_le.1 h2
 rw [ofQ_sub,ofQ_add,ofQ_mul]
 exact ⟨by grind,by grind⟩
theorem A_q {q:Rat} (h0:0≤q) (h1:q<1) (n:Nat):ofQ (qsum atq q n-(1-q)⁻¹*q ^ n)≤A (ofQ q)∧A (ofQ q)≤ofQ (qsum atq q n+(1-q)⁻¹*q ^ n):=near_q atc_q (over_ab rfl fun n=>(sg_ab n).1) h0 h1 n
theorem pi_q:(31415926535897932384626433832794 / 10000000000000000000000000000000:Rat)≤16*(qsum atq (1 / 5) 50-(1-1 / 5)⁻¹*(1 / 5) ^ 50)-4*(qsum atq (1 / 239) 16+(1-1 / 239)⁻¹*(1 / 239) ^ 16)∧16*(qsum atq (1 / 5) 50+(1-1 / 5)⁻¹*(1 / 5) ^ 50)-4*(qsum atq (1 / 239) 16-(1-1 / 239)⁻¹*(1 / 239) ^ 16)≤(31415926535897932384626433832796 / 10000000000000000000000000000000:Rat):=by decide +kernel
theorem pi_near:ofQ (31415926535897932384626433832794 / 10000000000000000000000000000000)≤hp+hp∧hp+hp≤ofQ (31415926535897932384626433832796 / 10000000000000000000000000000000):=by
 have a1:=A_q (q:=1 / 5) (by decide +kernel) (by decide +kernel) 50
 have a2:=A_q (q:=1 / 239) (by decide +kernel) (by decide +kernel) 16
 have h1:=ofQ_le.2 pi_q.1
 have h2:=ofQ_le.2 pi_q.2
 have e16:ofQ 16=16:=rfl
 have e4:ofQ 4=4:=rfl
 generalize qsum atq (1 / 5) 50-(1-1 / 5)⁻¹*(1 / 5) ^ 50=l1 at *
 generalize qsum atq (1 / 5) 50+(1-1 / 5)⁻¹*(1 / 5) ^ 50=u1 at *
 generalize qsum atq (1 / 239) 16-(1-1 / 239)⁻¹*(1 / 239) ^ 16=l2 at *
 generalize qsum atq (1 / 239) 16+(1-1 / 239)⁻¹*(1 / 239) ^ 16=u2 at *
 rw [ofQ_sub,ofQ_mul,ofQ_mul,e16,e4] at h1 h2
 rw [hp]
 generalize A (ofQ (1 / 5))=x at *
 generalize A (ofQ (1 / 239))=y at *
 exact ⟨by grind,by grind⟩
end Go.An
namespace Go.Proofs.YtjfcghliglfapaaGreat.Gen
open Go Go.Abs Go.Plain Go.An
theorem p2_sub (a:Int) (p:Nat):p2 (a-p)=p2 a*p2 (-(p:Int)):=by rw [← p2_add]; congr 1
theorem p2_lits:p2 (-1)=1 / 2∧p2 (-2)=1 / 4∧p2 (-3)=1 / 8∧p2 (-4)=1 / 16∧p2 (-6)=1 / 64∧p2 (-7)=1 / 128∧p2 (-8)=1 / 256∧p2 (-14)=1 / 16384∧p2 (-21)=1 / 2097152:=by
 unfold p2; decide +kernel
theorem eps_le {p:Nat} (hp:8≤p):p2 (-(p:Int))≤1 / 256:=by
 rw [← p2_lits.2.2.2.2.2.2.1]; exact p2_le (by omega)
theorem pow_big {p:Nat} (hp:8≤p):2*p+26≤2 ^ (p-2):=by
 obtain ⟨k,rfl⟩:∃ k,p=k+8:=⟨p-8,by omega⟩
 clear hp
 induction k with
 | zero=>decide
 | succ k ih=>
  have:2 ^ (k+1+8-2)=2 ^ (k+8-2)*2:=by rw [← Nat.pow_succ]; congr 1
  omega
theorem eps_N {p:Nat} (hp:8≤p):(4*((p / 2+4:Nat):Rat)+10)*p2 (-(p:Int))≤1 / 4:=by
 have h1:=pow_big hp
 have h2:4*(p / 2+4)+10≤2 ^ (p-2):=by omega
 have h3:=natCast_le h2
 rw [Rat.natCast_add,Rat.natCast_mul] at h3
 have e1:((4:Nat):Rat)=4:=rfl
 have e2:((10:Nat):Rat)=10:=rfl
 rw [e1,e2] at h3
 have h4:=Rat.mul_le_mul_of_nonneg_right h3 (Rat.le_of_lt (p2_pos (-(p:Int))))
 rw [← p2_nat,← p2_add,show ((p-2:Nat):Int) + -(p:Int) = -2 by omega,p2_lits.2.1] at h4
 exact h4
theorem inv_n {n:Nat} (h:0<n):ofQ (1 / (n:Rat))*(n:R)=1:=by
 have:(n:Rat)≠0:=by exact_mod_cast Nat.pos_iff_ne_zero.1 h
 rw [← ofQ_nat,← ofQ_mul,show (1 / (n:Rat))*(n:Rat)=1 by rw [Rat.div_def,Rat.one_mul,Rat.inv_mul_cancel _ this]]; rfl
theorem rec_w {p n k:Nat} {j:Int} (hp:2≤p∧p≤400) (hk:k≤60) (h0:0<n) (hn:n≤2 ^ k) (hj:p2 j≤(n:Rat)) (hj0:0≤j):HasW (recS p (n:Int) 0) (ofQ (1 / (n:Rat))) (0-k-p-2) (-j) (2*p2 (-j-p)):=by
 have i1:HasW (iS 1 0) (1:R) 0 0 0:=hw_int (n:=1) (K:=0) (by omega) (by decide)
 have h:=hw_div_n (p:=p) i1 hk h0 hn hj (inv_n h0) (by omega) (by omega) (by omega)
 have e:recS p (n:Int) 0=dS p (iS 1 0).1 (iS (n:Int) 0).1 0:=rfl
 rw [e]
 exact h.mono (Int.le_refl _) (by omega) (by rw [show (0:Int)-j = -j by omega]; grind)
theorem HasW.low {r:I × Int} {q:Rat} {L H:Int} {w l:Rat} (h:HasW r (ofQ q) L H w) (hl:l≤q-w):l≤val r.1.lo:=by
 have h1:q≤val r.1.hi:=ofQ_le.1 h.h.m.hi
 have:=h.w
 grind
theorem one_n {p n k:Nat} {j l:Int} (hp:8≤p∧p≤200) (hk:k≤8) (h0:0<n) (hn:n≤2 ^ k) (hj:p2 j≤(n:Rat)) (hl:l = -(j+1)) (hj0:1≤j∧j≤7) (hlow:p2 l≤1 / (n:Rat)-2*(p2 (-j)*(1 / 256))) :
  HasW (recS p (n:Int) 0) (ofQ (1 / (n:Rat))) (-300) (-j) (2*(p2 (-j)*p2 (-(p:Int))))∧HasW (mS p (recS p (n:Int) 0).1 (recS p (n:Int) 0).1 0) (ofQ (1 / (n:Rat))*ofQ (1 / (n:Rat))) (l+l-p) (-j + -j) (2*(p2 (-j)*(2*(p2 (-j)*p2 (-(p:Int)))))+2*(p2 (-j + -j)*p2 (-(p:Int)))):=by
 have h:=rec_w (p:=p) (n:=n) (k:=k) (j:=j) (by omega) (by omega) h0 hn hj (by omega)
 rw [p2_sub] at h
 have he:=eps_le hp.1
 have hp0:=p2_pos (-j)
 have h1:=Rat.mul_le_mul_of_nonneg_left he (Rat.le_of_lt hp0)
 have hlo:=h.low (l:=p2 l) (by grind)
 have h2:=sq_w (p:=p) h.pair hlo (by omega) (by omega) (by omega)
 rw [p2_sub] at h2
 exact ⟨h.mono (by omega) (Int.le_refl _) Rat.le_refl,h2⟩
theorem onePi_w5 {p:Nat} (hp:8≤p∧p≤200):HasW (onePi p 5 0) (A (ofQ (1 / 5))) (-46000) 0 ((9 / 2+((p / 2+4:Nat):Rat)*(5 / 2))*p2 (-(p:Int))):=by
 have L:=p2_lits
 obtain ⟨h1,h2⟩:=one_n (p:=p) (n:=5) (k:=3) (j:=2) (l:=-3) hp (by omega) (by omega) (by omega) (by rw [show (2:Int)=((2:Nat):Int) from rfl,p2_nat]; exact natCast_le (by omega)) (by omega) (by omega) (by rw [L.2.2.1,L.2.1]; decide +kernel)
 have hpos:=p2_pos (-(p:Int))
 have hN:=eps_N hp.1
 have he:=eps_le hp.1
 generalize hed:p2 (-(p:Int))=e at *
 have hb:(p+20-(-3 + -3-(p:Int)))*((p / 2+4:Nat):Int)≤426*104:=Int.mul_le_mul (by omega) (by omega) (by omega) (by omega)
 have h:=atan_w (p:=p) (by omega) (H:=-2) (Hq:=-4) (wt:=e / 2) (wp:=e / 2) (m:=1 / 4) h1.pair h2 (by omega) (by omega) (by omega) (by omega) (by rw [L.2.1]; grind) (by rw [p2_sub,hed,show (-2:Int) + -4 = -6 from rfl,show (-2:Int) + -2 = -4 from rfl,L.2.1,L.2.2.2.1,L.2.2.2.2.1]; grind) (by rw [p2_sub,hed,show (-2:Int)-1 = -3 from rfl,L.1,L.2.2.1]; grind)
  (fun k=>by
   have q:=Su_le (a:=atc) (by rw [atc,show sS 0=0 from rfl]; grind) (over_ab rfl fun n=>(sg_ab n).1) (geo_q (q:=1 / 5) (by decide +kernel) (by decide +kernel)) (x:=ofQ (1 / 5)) (by rw [ab_of (ofQ_le.2 (by decide +kernel))]; exact rle_refl _) k
   rw [← ofQ_mul] at q
   exact rle_trans q (ofQ_le.2 (by decide +kernel)))
  (by rw [hed]; grind) (M:=-46000) (by omega) (by omega)
 rw [hed] at h
 have hA:onePi p 5 0=atanI p (recS p 5 0).1:=by
  unfold onePi atS
  have:(recS p 5 0).2=0:=h1.h.e
  rw [this,st_zero]
 rw [hA]
 exact h.mono (Int.le_refl _) (Int.le_refl _) (by grind)
theorem onePi_w239 {p:Nat} (hp:8≤p∧p≤200):HasW (onePi p 239 0) (A (ofQ (1 / 239))) (-46000) 0 ((9 / 2+((p / 2+4:Nat):Rat)*(9 / 4))*p2 (-(p:Int))):=by
 have L:=p2_lits
 obtain ⟨h1,h2⟩:=one_n (p:=p) (n:=239) (k:=8) (j:=7) (l:=-8) hp (by omega) (by omega) (by omega) (by rw [show (7:Int)=((7:Nat):Int) from rfl,p2_nat]; exact natCast_le (by omega)) (by omega) (by omega) (by rw [L.2.2.2.2.2.2.1,L.2.2.2.2.2.1]; decide +kernel)
 have hpos:=p2_pos (-(p:Int))
 have hN:=eps_N hp.1
 have he:=eps_le hp.1
 generalize hed:p2 (-(p:Int))=e at *
 have hb:(p+20-(-8 + -8-(p:Int)))*((p / 2+4:Nat):Int)≤436*104:=Int.mul_le_mul (by omega) (by omega) (by omega) (by omega)
 have h:=atan_w (p:=p) (by omega) (H:=-7) (Hq:=-14) (wt:=e / 4) (wp:=e / 4) (m:=1 / 4) h1.pair h2 (by omega) (by omega) (by omega) (by omega) (by rw [L.2.2.2.2.2.1]; grind) (by rw [p2_sub,hed,show (-7:Int) + -14 = -21 from rfl,show (-7:Int) + -7 = -14 from rfl,L.2.2.2.2.2.1,L.2.2.2.2.2.2.2.1,L.2.2.2.2.2.2.2.2]; grind) (by rw [p2_sub,hed,show (-7:Int)-1 = -8 from rfl,L.1,L.2.2.2.2.2.2.1]; grind)
  (fun k=>by
   have q:=Su_le (a:=atc) (by rw [atc,show sS 0=0 from rfl]; grind) (over_ab rfl fun n=>(sg_ab n).1) (geo_q (q:=1 / 239) (by decide +kernel) (by decide +kernel)) (x:=ofQ (1 / 239)) (by rw [ab_of (ofQ_le.2 (by decide +kernel))]; exact rle_refl _) k
   rw [← ofQ_mul] at q
   exact rle_trans q (ofQ_le.2 (by decide +kernel)))
  (by rw [hed]; grind) (M:=-46000) (by omega) (by omega)
 rw [hed] at h
 have hA:onePi p 239 0=atanI p (recS p 239 0).1:=by
  unfold onePi atS
  have:(recS p 239 0).2=0:=h1.h.e
  rw [this,st_zero]
 rw [hA]
 exact h.mono (Int.le_refl _) (Int.le_refl _) (by grind)
theorem ofQ_p2n (n:Nat):ofQ (p2 (n:Int))=((2 ^ n:Nat):R):=by rw [p2_nat]; rfl
theorem ofQ_16:ofQ (p2 4)=16:=by rw [show (4:Int)=((4:Nat):Int) from rfl,ofQ_p2n]; rfl
theorem ofQ_4:ofQ (p2 2)=4:=by rw [show (2:Int)=((2:Nat):Int) from rfl,ofQ_p2n]; rfl
theorem p2_up:p2 4=16∧p2 3=8∧p2 2=4∧p2 1=2:=by unfold p2; decide +kernel
theorem pi_abs:ab (An.hp+An.hp)≤ofQ (13 / 4):=by
 have h:=pi_near
 have h1:(0:R)≤An.hp+An.hp:=rle_trans (ofQ_le.2 (show (0:Rat)≤_ by decide +kernel)) h.1
 rw [ab_of h1]
 exact rle_trans h.2 (ofQ_le.2 (by decide +kernel))
theorem pi_w {p:Nat} (hp:8≤p∧p≤200):HasW (piS p 0) (An.hp+An.hp) (-46000) 3 ((106+((p / 2+4:Nat):Rat)*49)*p2 (-(p:Int))):=by
 have a:=onePi_w5 hp
 have b:=onePi_w239 hp
 have hpos:=p2_pos (-(p:Int))
 have hN:=eps_N hp.1
 have he:=eps_le hp.1
 have a4:=hw_scale (n:=4) a (by omega) (by omega)
 have b2:=hw_scale (n:=2) b (by omega) (by omega)
 have ea:(onePi p 5 0).2=0:=a.h.e
 have eb:(onePi p 239 0).2=0:=b.h.e
 have ea4:(scS (onePi p 5 0).1 4 0).2=0:=a4.h.e
 have eb2:(scS (onePi p 239 0).1 2 0).2=0:=b2.h.e
 have e:A (ofQ (1 / 5))*ofQ (p2 4)-A (ofQ (1 / 239))*ofQ (p2 2)=An.hp+An.hp:=by rw [ofQ_16,ofQ_4,An.hp]; grind
 rw [p2_up.1] at a4
 rw [p2_up.2.2.1] at b2
 have h:=hw_sub (p:=p) (m:=13 / 4) (K:=3) (a4.mono (L':=-46000) (H':=4) (by omega) (by omega) Rat.le_refl) (b2.mono (L':=-46000) (H':=4) (by omega) (by omega) Rat.le_refl) (by
  have q:=pi_abs
  rw [← e,p2_up.1,p2_up.2.2.1] at q
  exact q) (by rw [p2_up.2.1]; grind) (by omega) (by omega) (by omega)
 rw [p2_sub,p2_up.2.1] at h
 unfold piS
 rw [ea,eb,ea4,eb2]
 rw [p2_up.1,p2_up.2.2.1] at e
 exact (h.mono (Int.le_refl _) (Int.le_refl _) (by grind)).eq e
theorem okd_size {d:D} {L H:Int} (h:Okd d L H) (h0:d.m≠0):L≤d.e∧d.e+(blen d.m.natAbs:Nat)≤H+1:=⟨G_e h.w.odd0 h0 h.g,B_size h0 h.b⟩
theorem B_quot {H:Int} {q h:Rat} (h1:1≤h) (hb:B H (q*h)):B H q:=by
 unfold B at *
 have hp:=p2_pos H
 constructor
 ·rcases Rat.le_total (a:=0) (b:=q) with k | k
  ·grind
  ·have:=Rat.mul_le_mul_of_nonneg_right h1 (show 0 ≤ -q by grind)
   grind
 ·rcases Rat.le_total (a:=0) (b:=q) with k | k
  ·have:=Rat.mul_le_mul_of_nonneg_right h1 k
   grind
  ·grind
theorem quot_near {H:Int} {q1 q2 h1 h2 X δ:Rat} (k1:1≤h1) (k2:1≤h2) (e1:q1*h1=X) (e2:q2*h2=X) (hX:B H X) (d1 : -δ≤h1-h2∧h1-h2≤δ):q1-q2≤p2 H*δ:=by
 have b2:B H q2:=B_quot k2 (by rw [e2]; exact hX)
 have e:(q1-q2)*h1=q2*(h2-h1):=by grind
 have hm:=(mul_abs_le (x:=q2) (y:=h2-h1) ⟨b2.1,b2.2⟩ (⟨by grind,by grind⟩ : -δ≤h2-h1∧h2-h1≤δ)).2
 have hδ:0≤δ:=by grind
 have h0:0≤p2 H*δ:=Rat.mul_nonneg (Rat.le_of_lt (p2_pos H)) hδ
 rcases Rat.le_total (a:=q1-q2) (b:=0) with k | k
 ·grind
 ·have:=Rat.mul_le_mul_of_nonneg_right k1 k
  grind
theorem quo_mul {x h:Rat} (h1:1≤h):x / h*h=x:=mul_of_div (by grind)
theorem hw_div_pt {d:D} {s:I × Int} {y z:R} {L H M K:Int} {δ:Rat} (hd:Okd d L H) (hs:HasW s y M K δ) (h1:1≤val s.1.lo) (hz:z*y=ofQ (val d)) {p:Nat} (hp:1≤p) (hL : -60000≤L-K-p-2) (hH:H-M+2≤60000):HasW (dS p ⟨d,d⟩ s.1 0) z (L-K-p-2) H (p2 H*δ+2*p2 (H-p)):=by
 have hle:val s.1.lo≤val s.1.hi:=hs.h.ok.le
 have hnz:hasI s.1 zD=false:=by
  cases hq:hasI s.1 zD with
  | false=>rfl
  | true=>
   have:=((hasI_iff _ _).1 hq).1
   rw [val_z] at this
   grind
 have ha:Has (⟨d,d⟩,0) (ofQ (val d)) L H:=has_point hd
 obtain ⟨c,u,v,e,o,en,q⟩:=divI_enc (p:=p) ha.ok hs.h.ok hnz hp hL hH
 have h:=has_div ha hs.h hnz hz hp hL hH
 have e':dS p ⟨d,d⟩ s.1 0=(c,0):=by unfold dS; rw [st_zero]; exact e
 rw [show ((⟨d,d⟩:I),(0:Int)).1=⟨d,d⟩ from rfl,e'] at h
 rw [e']
 have hw:=hs.w
 have k1:=quo_mul (x:=val d) h1
 have k2:=quo_mul (x:=val d) (show 1≤val s.1.hi by grind)
 have qu:=q.mu
 have qv:=q.mv
 have r1:(⟨d,d⟩:I).lo=d:=rfl
 have r2:(⟨d,d⟩:I).hi=d:=rfl
 rw [r1,r2] at qu qv
 have h1':1≤val s.1.hi:=by grind
 have hw0:0≤δ:=by grind
 have bu:B H u:=by rcases qu with k | k | k | k<;>rw [k]<;>first | exact B_quot h1 (by rw [k1]; exact hd.b) | exact B_quot h1' (by rw [k2]; exact hd.b)
 have bv:B H v:=by rcases qv with k | k | k | k<;>rw [k]<;>first | exact B_quot h1 (by rw [k1]; exact hd.b) | exact B_quot h1' (by rw [k2]; exact hd.b)
 have hd':v-u≤p2 H*δ:=by
  generalize val d / val s.1.lo=ql at *
  generalize val d / val s.1.hi=qh at *
  rcases qu with k | k | k | k<;>rcases qv with t | t | t | t<;>rw [k,t]<;>first | exact quot_near h1 h1 k1 k1 hd.b ⟨by grind,by grind⟩ | exact quot_near h1 h1' k1 k2 hd.b ⟨by grind,by grind⟩ | exact quot_near h1' h1 k2 k1 hd.b ⟨by grind,by grind⟩ | exact quot_near h1' h1' k2 k2 hd.b ⟨by grind,by grind⟩
 have wd:=enc_width en bu bv
 have b:=enc_bounds en bu bv o.le
 exact ⟨⟨rfl,⟨⟨o.lo.w,o.lo.g,b.1⟩,⟨o.hi.w,o.hi.g,b.2⟩,o.le⟩,h.m⟩,by grind⟩
theorem pi_fine {p:Nat} (hp:20≤p∧p≤200):HasW (piS p 0) (An.hp+An.hp) (1-(p:Int)) 2 (p2 (13-(p:Int)))∧3≤val (piS p 0).1.lo:=by
 have h:=pi_w (p:=p) (by omega)
 have a:=onePi_w5 (p:=p) (by omega)
 have b:=onePi_w239 (p:=p) (by omega)
 have hpos:=p2_pos (-(p:Int))
 have q13:p2 (13-(p:Int))=8192*p2 (-(p:Int)):=by rw [show 13-(p:Int)=13 + -(p:Int) by omega,p2_add]; rfl
 have hNr:(((p / 2+4:Nat):Nat):Rat)≤104:=by exact_mod_cast natCast_le (show p / 2+4≤104 by omega)
 have hw:(106+((p / 2+4:Nat):Rat)*49)*p2 (-(p:Int))≤p2 (13-(p:Int)):=by
  rw [q13]
  generalize ((p / 2+4:Nat):Rat)=N at *
  have:=Rat.mul_le_mul_of_nonneg_right (show 106+N*49≤8192 by grind) (Rat.le_of_lt hpos)
  grind
 have h':=h.mono (Int.le_refl _) (Int.le_refl _) hw
 have p13:p2 (13-(p:Int))≤p2 (-7):=p2_le (by omega)
 have p13':p2 (-7)=1 / 128:=by decide +kernel
 have hww:=h'.w
 have hi:=h'.h.m.hi
 have hlo:=h'.h.m.lo
 have n1:314 / 100≤val (piS p 0).1.hi:=ofQ_le.1 (rle_trans (ofQ_le.2 (by decide +kernel)) (rle_trans pi_near.1 hi))
 have n2:val (piS p 0).1.lo≤315 / 100:=ofQ_le.1 (rle_trans hlo (rle_trans pi_near.2 (ofQ_le.2 (by decide +kernel))))
 rw [p13'] at p13
 have l3:3≤val (piS p 0).1.lo:=by grind
 have l4:val (piS p 0).1.hi≤4:=by grind
 have a4:=hw_scale (n:=4) a (by omega) (by omega)
 have b2:=hw_scale (n:=2) b (by omega) (by omega)
 have ea:(onePi p 5 0).2=0:=a.h.e
 have eb:(onePi p 239 0).2=0:=b.h.e
 have ea4:(scS (onePi p 5 0).1 4 0).2=0:=a4.h.e
 have eb2:(scS (onePi p 239 0).1 2 0).2=0:=b2.h.e
 have hneg:=(hw_neg b2).h
 obtain ⟨c,e,o,en⟩:=addI_ok (a4.h.mono (L':=-46000) (H':=4) (by omega) (by omega)).ok (hneg.mono (L':=-46000) (H':=4) (by omega) (by omega)).ok (p:=p) (by omega) (by omega) (by omega)
 have e':piS p 0=(c,0):=by
  unfold piS
  rw [ea,eb,ea4,eb2]
  unfold suS subI
  rw [st_zero]
  exact e
 rw [e'] at h' l3 l4 ⊢
 have hle:=h'.h.ok.le
 refine ⟨⟨⟨rfl,⟨⟨h'.h.ok.lo.w,rep_grid en.rlo (l:=1) ?_,?_⟩,⟨h'.h.ok.hi.w,rep_grid en.rhi (l:=1) ?_,?_⟩,hle⟩,h'.h.m⟩,h'.w⟩,l3⟩
 ·rw [p2_up.2.2.2]; show 2≤val c.lo; grind
 ·unfold B; rw [p2_up.2.2.1]; exact ⟨by grind,by grind⟩
 ·rw [p2_up.2.2.2]; show 2≤val c.hi; grind
 ·unfold B; rw [p2_up.2.2.1]; exact ⟨by grind,by grind⟩
theorem half_R:(An.hp+An.hp)*ofQ (p2 (-1))=An.hp:=by
 have:ofQ (p2 (-1))=hf:=by rw [p2_half]; rfl
 rw [this]
 have:=hf_two
 grind
theorem tuH_has {w:Nat} (hw:20≤w∧w≤200):HasW (tuH w) An.hp (-(w:Int)) 1 (p2 (12-(w:Int)))∧3 / 2≤val (tuH w).1.lo:=by
 obtain ⟨h1,h2⟩:=pi_fine hw
 have h3:=hw_scale (n:=-1) h1 (by omega) (by omega)
 obtain ⟨c,e,o,e1,e2⟩:=scaleI_ok (n:=-1) h1.h.ok (by omega) (by omega)
 unfold tuH
 rw [h1.h.e]
 refine ⟨((h3.eq half_R).mono (by omega) (by omega) ?_),?_⟩
 ·rw [← p2_add]; exact p2_le (by omega)
 ·unfold scS; rw [st_zero,e]
  show 3 / 2≤val c.lo
  rw [e1,show p2 (-1)=1 / 2 by decide +kernel]
  grind
theorem flD_val (d:D):(flD d:Rat)≤val d∧val d<(flD d:Rat)+1:=by
 unfold flD
 show _≤(d.m:Rat)*p2 d.e∧(d.m:Rat)*p2 d.e<_
 by_cases h:0≤d.e
 ·rw [if_pos h]
  have e:((d.m*2 ^ d.e.toNat:Int):Rat)=(d.m:Rat)*p2 d.e:=by
   have:=p2_nat d.e.toNat
   rw [Int.toNat_of_nonneg h] at this
   rw [Rat.intCast_mul,this]
   congr 1
  rw [e]
  exact ⟨Rat.le_refl,by grind⟩
 ·rw [if_neg h]
  have hp:=p2_pos d.e
  have hk:(0:Int)<2 ^ (-d.e).toNat:=Int.pow_pos (by decide)
  have e:p2 d.e*((2 ^ (-d.e).toNat:Int):Rat)=1:=by
   have h1:=p2_nat (-d.e).toNat
   rw [Int.toNat_of_nonneg (by omega)] at h1
   have h2:((2 ^ (-d.e).toNat:Int):Rat)=p2 (-d.e):=by rw [h1]; rfl
   rw [h2,← p2_add,show d.e + -d.e=0 by omega,p2_zero]
  generalize (2 ^ (-d.e).toNat:Int)=z at *
  generalize p2 d.e=t at *
  have h1:=Int.mul_ediv_add_emod d.m z
  have h2:=Int.emod_nonneg d.m (show z≠0 by omega)
  have h3:=Int.emod_lt_of_pos d.m hk
  have g1:((d.m / z:Int):Rat)*(z:Rat)≤(d.m:Rat):=by
   have:=intCast_le (show d.m / z*z≤d.m by rw [Int.mul_comm]; omega)
   rwa [Rat.intCast_mul] at this
  have g2:(d.m:Rat)<((d.m / z:Int):Rat)*(z:Rat)+(z:Rat):=by
   have:=intCast_lt (show d.m<d.m / z*z+z by rw [Int.mul_comm]; omega)
   rwa [Rat.intCast_add,Rat.intCast_mul] at this
  clear h1 h2 h3
  generalize ((d.m / z:Int):Rat)=q at *
  generalize (d.m:Rat)=m at *
  generalize (z:Rat)=z at *
  have e5:q*z*t=q:=by rw [Rat.mul_assoc,Rat.mul_comm z t,e,Rat.mul_one]
  constructor
  ·have:=Rat.mul_le_mul_of_nonneg_right g1 (Rat.le_of_lt hp)
   rwa [e5] at this
  ·have:=Rat.mul_lt_mul_of_pos_right g2 hp
   rwa [Rat.add_mul,e5,Rat.mul_comm z t,e] at this
theorem hp_near:ofQ (157 / 100)≤An.hp∧An.hp≤ofQ (1571 / 1000):=by
 have h1:=rle_trans (ofQ_le.2 (show (314 / 100:Rat)≤_ by decide +kernel)) pi_near.1
 have h2:=rle_trans pi_near.2 (ofQ_le.2 (show _≤(3142 / 1000:Rat) by decide +kernel))
 have e1:ofQ (314 / 100)=ofQ (157 / 100)+ofQ (157 / 100):=by rw [← ofQ_add]; congr 1; decide +kernel
 have e2:ofQ (3142 / 1000)=ofQ (1571 / 1000)+ofQ (1571 / 1000):=by rw [← ofQ_add]; congr 1; decide +kernel
 rw [e1] at h1
 rw [e2] at h2
 exact ⟨by grind,by grind⟩
theorem w_small {w:Nat} (hw:40≤w) {n:Int} (hn:n≤24):p2 (n-(w:Int))≤1 / 65536:=by
 have h1:p2 (n-(w:Int))≤p2 (-16):=p2_le (by omega)
 rwa [show p2 (-16)=1 / 65536 by decide +kernel] at h1
theorem pS_zero (d:D):pS d 0=(⟨d,d⟩,0):=by unfold pS; rw [st_zero]
theorem tuQ_has {d:D} {L:Int} (hd:Okd d L 10) (hL : -110≤L∧L≤0) {w:Nat} (hw:40≤w∧w≤200) {z:R} (hz:z*An.hp=ofQ (val d)):HasW (tuQ d w (tuH w)) (z+ofQ (1 / 2)) (-400) 11 (1 / 1000):=by
 obtain ⟨h1,h2⟩:=tuH_has (w:=w) (by omega)
 have q:=hw_div_pt hd h1 (by grind) hz (p:=w) (by omega) (by omega) (by omega)
 have e1:(tuH w).2=0:=h1.h.e
 have f:HasW (⟨⟨1,-1⟩,⟨1,-1⟩⟩,0) (ofQ (val ⟨1,-1⟩)) (-1) 0 0:=hw_point (Okd_half (by omega) (by omega) (by omega))
 have vh:val ⟨1,-1⟩=1 / 2:=by rw [val_half]; decide +kernel
 rw [vh] at f
 have a1:=q.h.ok.lo.b
 have a2:=q.h.ok.hi.b
 have p10:p2 10=1024:=by decide +kernel
 have p11:p2 11=2048:=by decide +kernel
 have k1:=w_small hw.1 (n:=22) (by omega)
 have k2:=w_small hw.1 (n:=10) (by omega)
 have k3:=w_small hw.1 (n:=11) (by omega)
 have ke:p2 10*p2 (12-(w:Int))=p2 (22-(w:Int)):=by rw [← p2_add,show (10:Int)+(12-(w:Int))=22-(w:Int) by omega]
 rw [ke] at q
 have hb:ab (z+ofQ (1 / 2))≤ofQ (1025):=by
  have m1:=rle_trans (ofQ_le.2 a1.1) q.h.m.lo
  have m2:=rle_trans q.h.m.hi (ofQ_le.2 a2.2)
  rw [p10] at m1 m2
  rw [ofQ_neg] at m1
  have e3:ofQ 1025=ofQ 1024+ofQ 1:=by rw [← ofQ_add,show (1024:Rat)+1=1025 by decide +kernel]
  have e4:=ofQ_le.2 (show (1 / 2:Rat)≤1 by decide +kernel)
  have e5:=ofQ_le.2 (show (0:Rat)≤1 / 2 by decide +kernel)
  have e6:ofQ 0=0:=rfl
  refine ab_le.2 ⟨?_,?_⟩<;>rw [e3]<;>grind
 have h:=hw_add (p:=w) (K:=11) (q.mono (L':=-400) (H':=10) (by omega) (Int.le_refl _) Rat.le_refl) (f.mono (L':=-400) (H':=10) (by omega) (by omega) Rat.le_refl) hb (by rw [p11]; grind) (by omega) (by omega) (by omega)
 unfold tuQ
 simp only
 rw [e1,pS_zero]
 simp only
 rw [q.h.e,pS_zero]
 exact h.mono (Int.le_refl _) (Int.le_refl _) (by grind)
theorem tuR_has {d:D} {L:Int} (hd:Okd d L 10) (hL : -110≤L∧L≤0) {w:Nat} (hw:40≤w∧w≤200) {k:Int} (hk:k.natAbs≤2 ^ 12) (hr:ab (ofQ (val d)-(k:R)*An.hp)≤ofQ (8 / 10)):HasW (tuR d w (tuH w) k 0) (ofQ (val d)-(k:R)*An.hp) (-110-(w:Int)) 0 (p2 (25-(w:Int))):=by
 obtain ⟨h1,h2⟩:=tuH_has (w:=w) (by omega)
 have hi:HasW (intI k,0) (k:R) 0 (12:Nat) 0:=hw_int (K:=12) (by omega) hk
 have hm:=hw_mul (p:=w) hi h1 (by omega) (by omega) (by omega)
 have hx:HasW (⟨d,d⟩,0) (ofQ (val d)) L 10 0:=hw_point hd
 have q12:p2 ((12:Nat):Int)*p2 (12-(w:Int))=p2 (24-(w:Int)):=by rw [← p2_add,show ((12:Nat):Int)+(12-(w:Int))=24-(w:Int) by omega]
 have q25:p2 (25-(w:Int))=2*p2 (24-(w:Int)):=by rw [show 25-(w:Int)=1+(24-(w:Int)) by omega,p2_add]; rfl
 have q24:p2 (24-(w:Int))=2048*p2 (13-(w:Int)):=by rw [show 24-(w:Int)=11+(13-(w:Int)) by omega,p2_add]; rfl
 have q13:p2 (13-(w:Int))=8192*p2 (0-(w:Int)):=by rw [show 13-(w:Int)=13+(0-(w:Int)) by omega,p2_add]; rfl
 have k24:=w_small hw.1 (n:=24) (by omega)
 have k0:=p2_pos (0-(w:Int))
 rw [q12,show ((12:Nat):Int)+1-(w:Int)=13-(w:Int) by omega] at hm
 have h:=hw_sub (p:=w) (m:=8 / 10) (K:=0) (hx.mono (L':=-110-(w:Int)) (H':=13) (by omega) (by omega) Rat.le_refl) (hm.mono (L':=-110-(w:Int)) (H':=13) (by omega) (by omega) Rat.le_refl) hr (by rw [p2_zero]; grind) (by omega) (by omega) (by omega)
 unfold tuR
 simp only
 rw [pS_zero]
 have ej:jS k 0=(intI k,0):=by unfold jS; rw [st_zero]
 simp only
 rw [ej]
 simp only
 rw [hm.h.e]
 exact h.mono (Int.le_refl _) (Int.le_refl _) (by grind)
theorem turnsR_has {d:D} {L:Int} (hd:Okd d L 10) (hL : -110≤L∧L≤0) {p:Nat} (hp:8≤p∧p≤110):∃ (k:Int) (y:I),turnsR d p=(k,y,0)∧k.natAbs≤2 ^ 12∧HasW (y,0) (ofQ (val d)-(k:R)*An.hp) (-142-(p:Int)) 0 (p2 (-7-(p:Int)))∧ab (ofQ (val d)-(k:R)*An.hp)≤ofQ (8 / 10):=by
 have hf:fitB d (p:Int)=true:=by
  unfold fitB
  have hb:blen d.m.natAbs≤400:=by
   by_cases h0:d.m=0
   ·rw [h0]; decide
   ·have:=okd_size hd h0; omega
  rw [decide_eq_true (show 2≤(p:Int) by omega),decide_eq_true (show (p:Int)≤336 by omega),decide_eq_true hb]; rfl
 have hn:=hp_near
 have hpp:0<An.hp:=by
  have h1:(0:R)<ofQ (157 / 100):=ofQ_lt.2 (by decide +kernel)
  grind
 have hinv:=mul_inv (x:=An.hp) (by grind)
 have hz:ofQ (val d)*(An.hp)⁻¹*An.hp=ofQ (val d):=by grind
 generalize ofQ (val d)*(An.hp)⁻¹=z at hz
 have hq:=tuQ_has hd hL (w:=p+32) (by omega) hz
 obtain ⟨f1,f2⟩:=flD_val (tuQ d (p+32) (tuH (p+32))).1.lo
 have hfl:floorS (tuQ d (p+32) (tuH (p+32))).1.lo=(flD (tuQ d (p+32) (tuH (p+32))).1.lo,0):=by
  unfold floorS
  rw [if_pos (inR_of hq.h.ok.lo.w.odd0 hq.h.ok.lo.g hq.h.ok.lo.b (by omega) (by omega))]
 have b1:=hq.h.ok.lo.b
 have hqw:=hq.w
 have m1:=hq.h.m.lo
 have m2:=hq.h.m.hi
 have qe:=hq.h.e
 generalize hQ:tuQ d (p+32) (tuH (p+32))=Q at *
 generalize flD Q.1.lo=k at *
 have p11:p2 11=2048:=by decide +kernel
 unfold B at b1
 rw [p11] at b1
 have hk:k.natAbs≤2 ^ 12:=by
  have k1:k≤2048:=by
   have:(k:Rat)≤((2048:Int):Rat):=Rat.le_trans f1 (by exact b1.2)
   exact Rat.intCast_le_intCast.1 this
  have k2 : -2049<k:=by
   have:((-2049:Int):Rat)<(k:Rat):=by
    have e:((-2049:Int):Rat) = -2049:=rfl
    rw [e]; grind
   exact Rat.intCast_lt_intCast.1 this
  omega
 have hr:ab (ofQ (val d)-(k:R)*An.hp)≤ofQ (8 / 10):=by
  have n1:ofQ (k:Rat)≤z+ofQ (1 / 2):=rle_trans (ofQ_le.2 f1) m1
  have n2:z+ofQ (1 / 2)≤ofQ ((k:Rat)+1+1 / 1000):=rle_trans m2 (ofQ_le.2 (by grind))
  rw [ofQ_int] at n1
  rw [ofQ_add,ofQ_add,ofQ_int] at n2
  have e1:ofQ 1=ofQ (1 / 2)+ofQ (1 / 2):=by rw [← ofQ_add,show (1 / 2:Rat)+1 / 2=1 by decide +kernel]
  rw [e1] at n2
  have hz':ofQ (val d)-(k:R)*An.hp=(z-(k:R))*An.hp:=by rw [← hz]; grind
  rw [hz',ab_mul]
  have a1:ab (z-(k:R))≤ofQ (1 / 2)+ofQ (1 / 1000):=by
   have e0:=ofQ_le.2 (show (0:Rat)≤1 / 1000 by decide +kernel)
   have e00:ofQ 0=0:=rfl
   exact ab_le.2 ⟨by grind,by grind⟩
  have a2:ab An.hp≤ofQ (1571 / 1000):=by rw [ab_of (by grind)]; exact hn.2
  rw [← ofQ_add] at a1
  have a3:=rmul_mono a1 a2 (ab_nonneg _) (by have:=ofQ_le.2 (show (0:Rat)≤1571 / 1000 by decide +kernel); exact this)
  rw [← ofQ_mul] at a3
  exact rle_trans a3 (ofQ_le.2 (by decide +kernel))
 have hR:=tuR_has hd hL (w:=p+32) (by omega) hk hr
 refine ⟨k,(tuR d (p+32) (tuH (p+32)) k 0).1,?_,hk,?_,hr⟩
 ·unfold turnsR
  rw [hf,if_pos rfl,Int.toNat_natCast]
  unfold turnsS
  rw [if_neg (by
   intro hc
   have:=(okd_size hd hc.1).2
   omega)]
  unfold turnsH turnsT
  rw [hQ,qe,if_neg (by simp),hfl]
  have hs:smallZ k=(k,true):=by unfold smallZ; rw [if_pos (by omega)]
  simp only
  rw [hs,if_neg (by simp)]
  simp only
  rw [hR.h.e,if_neg (by simp)]
 ·have:=hR.pair
  rw [show 25-((p+32:Nat):Int) = -7-(p:Int) by omega,show -110-((p+32:Nat):Int) = -142-(p:Int) by omega] at this
  exact this
theorem place10_eq {x:AD} (hx:gAD x) {up:Int} (hu : -1000≤up∧up≤1000):∃ d,l10_place x up=some (dy d)∧Okd d (up-64) up:=by
 have hd:=g_dig hx
 have hb:=mag_two hx 2
 obtain ⟨d,h1,h2,-⟩:=make_val (k:=64) hb (e:=up-64) (by omega)
 refine ⟨d,?_,h2.mono (Int.le_refl _) (by omega)⟩
 unfold l10_place
 have hm:=mag_mn hx (k:=2)
 rw [show ((2:Nat):Int)=2 by rfl] at hm
 rw [hm,if_pos (by omega),Int.toNat_natCast,rMake_eq (dig_take hd _) (by rw [List.length_take]; omega)]
 simp only [obn]
 rw [w64 (by omega) (by omega),rMake5_eq (by unfold SZ; omega) (by omega),h1]
 rfl
theorem prec10_eq {a:Int} (h : -9223372036854775808≤a∧a≤9223372036854775807):∃ p:Nat,l10_prec a=some (p:Int)∧8≤p∧p≤60:=by
 unfold l10_prec l10_prec_j1
 have key:∀ n:Nat,∃ p:Nat,(some (IntKind.i64.wrap (8+((n:Int).tmod 53))):Option Int)=some (p:Int)∧8≤p∧p≤60:=by
  intro n
  rw [show (53:Int)=((53:Nat):Int) by rfl,tmodn,w64 (by omega) (by omega)]
  exact ⟨8+n % 53,by congr 1,by omega,by omega⟩
 by_cases h0:a<0
 ·rw [if_pos h0,wrap_low a (by omega)]
  exact key _
 ·rw [if_neg h0]
  have:=key a.toNat
  rwa [Int.toNat_of_nonneg (by omega)] at this
theorem sHalfPi {w:Nat} (hw:20≤w∧w≤200):∃ a b,konst_Pi 0 (w:Int)=some (iv a,0)∧cv_Scale (iv a) (-1) 0 (w:Int)=some (iv b,0)∧Has (b,0) An.hp (-(w:Int)) 1:=by
 obtain ⟨h1,-⟩:=tuH_has hw
 have e0:=Pi_eq (p:=w) (by omega) 0
 have z:=(pi_fine hw).1.h.e
 have e1:=pScale (SI_pi (p:=w) (by omega) 0) (n:=-1) (by omega) (piS w 0).2 (w:Int)
 have hh:scS (piS w 0).1 (-1) (piS w 0).2=tuH w:=rfl
 rw [hh,h1.h.e,z] at e1
 rw [z] at e0
 exact ⟨_,_,e0,e1,h1.h.pair⟩
theorem TrigRest_true (a0:AD) (g0:gAD a0) (a1:Int) (g1:(Lit.int .i64 a1).wf=true):l10_TrigRest a0 a1=some true:=by
 unfold l10_TrigRest l10_TrigRest_j1
 obtain ⟨p,ep,hp1,hp2⟩:=prec10_eq (wf_i64 g1)
 have hp:2≤p+40∧p+40≤400:=by omega
 obtain ⟨a,ea,ha⟩:=place10_eq g0 (up:=9) (by omega)
 have ha':=ha.mono (Int.le_refl _) (show (9:Int)≤10 by omega)
 obtain ⟨k,y,et,hk,hy,-⟩:=turnsR_has ha' (by omega) (p:=p) (by omega)
 have ft:=Turns_eq ha.w p
 rw [et] at ft
 obtain ⟨c1,c2,f1,f2,h2⟩:=sHalfPi (w:=p+40) (by omega)
 obtain ⟨f3,h3⟩:=sInt (n:=k) (K:=12) (by omega) hk ((p+40:Nat):Int)
 obtain ⟨c4,f4,h4⟩:=sMul h3 h2 hp (by omega) (by omega)
 obtain ⟨c5,f5,h5⟩:=sAdd (hy.h.mono (L':=-250) (H':=13) (by omega) (by omega)) (h4.mono (L':=-250) (H':=13) (by omega) (by omega)) hp (by omega) (by omega)
 have f6:=sHas h5 ha.w (by grind)
 have hb:=hy.h.ok
 have f7:iv_In (iv y) (iv ⟨fromD (-1),fromD 1⟩)=some true:=by
  have h1:okI ⟨fromD (-1),fromD 1⟩:=⟨WD_from (by omega),WD_from (by omega),by show val (fromD (-1))≤val (fromD 1); rw [val_from,val_from]; decide +kernel⟩
  rw [ivIn_eq hb.ok h1]
  refine congrArg some (inI_true ?_ ?_ hb.le)
  ·show val (fromD (-1))≤val y.lo
   have:=hb.lo.b.1
   rw [p2_zero] at this
   rw [val_from]; exact this
  ·show val y.hi≤val (fromD 1)
   have:=hb.hi.b.2
   rw [p2_zero] at this
   rw [val_from]; exact this
 rw [examples10]
 simp only [obn]
 rw [if_neg (by simp),ep]
 simp only [obn]
 rw [w64 (by omega) (by omega),show (p:Int)+40=((p+40:Nat):Int) by omega,ivNew_eq hp]
 simp only [obn]
 rw [if_neg (by simp),ea]
 simp only [obn]
 refine Eq.trans (congrArg (fun o=>Option.bind o _) ft) ?_
 simp only [obn]
 refine Eq.trans (congrArg (fun o=>Option.bind o _) f3) ?_
 simp only [obn]
 refine Eq.trans (congrArg (fun o=>Option.bind o _) f1) ?_
 simp only [obn]
 refine Eq.trans (congrArg (fun o=>Option.bind o _) f2) ?_
 simp only [obn]
 refine Eq.trans (congrArg (fun o=>Option.bind o _) f4) ?_
 simp only [obn]
 refine Eq.trans (congrArg (fun o=>Option.bind o _) f5) ?_
 simp only [obn]
 rw [if_pos True.intro,if_pos True.intro]
 refine Eq.trans (congrArg (fun o=>Option.bind o _) f6) ?_
 simp only [obn]
 rw [if_pos True.intro,dyad_From_eq (by omega)]
 simp only [obn]
 rw [dyad_From_eq (by omega)]
 simp only [obn]
 refine Eq.trans (congrArg (fun o=>Option.bind o _) f7) ?_
 simp only [obn]
 unfold iv_trouble_Err
 simp
end Go.Proofs.YtjfcghliglfapaaGreat.Gen
