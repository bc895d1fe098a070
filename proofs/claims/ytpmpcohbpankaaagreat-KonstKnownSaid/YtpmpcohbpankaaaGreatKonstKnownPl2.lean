/- Plain theory of the numbers that the statement speaks of: printed from the proofs' own texts, as far as this statement needs it. -/
import Derived.Test.YtpmpcohbpankaaaGreatKonstKnownPl1
namespace Go.Proofs.YtpmpcohbpankaaaGreat.Gen
open Go Go.Abs Go.Plain Go.An
theorem in_box {y:I} {L k:Int} (h:OkI y L k):inI y (box k)=true:=by
 refine inI_true ?_ ?_ h.le
 ·show val (negD ⟨1,k⟩)≤val y.lo
  rw [val_neg,val_half]; exact h.lo.b.1
 ·show val y.hi≤val ⟨1,k⟩
  rw [val_half]; exact h.hi.b.2
theorem nat_lt_of_cast {a b:Nat} (h:(a:Rat)<(b:Rat)):a<b:=by exact_mod_cast h
theorem rmul_lt_iff {a b p:Rat} (hp:0<p):a*p<b*p↔a<b:=by
 have h:=@mul_le_iff b a p hp
 constructor
 ·intro k; have:¬b*p≤a*p:=by grind
  rw [h] at this; grind
 ·intro k; have:¬b≤a:=by grind
  rw [← h] at this; grind
theorem cut_best {m p:Nat} {st:Bool} (hp:1≤p) (hb:p<blen m) {E:Int} {Q:Rat} (h1:(m:Rat)*p2 E≤Q) (h2:st=false→Q≤(m:Rat)*p2 E) (h3:Q<((m+1:Nat):Rat)*p2 E) (h4:st=true→(m:Rat)*p2 E<Q) :
  (∀ q,rep p q→q≤Q→q≤((cutN m st p false:Nat):Rat)*p2 (E+(blen m-p:Nat)))∧(∀ q,rep p q→Q≤q→((cutN m st p true:Nat):Rat)*p2 (E+(blen m-p:Nat))≤q):=by
 have hn:0<blen m-p:=by omega
 have hge:=cutN_ge m st p false hn
 generalize hnd:blen m-p=n at *
 have hM0:m≠0:=by intro h0; rw [h0,blen_zero] at hb; omega
 have hMge:=blen_le hM0
 have hbl:blen m=n+p:=by omega
 rw [hbl] at hMge
 have hp2:0<2 ^ n:=Nat.pow_pos (by decide)
 have hmpos:(0:Rat)<(m:Rat)*p2 E:=Rat.mul_pos (by exact_mod_cast (Nat.pos_of_ne_zero hM0)) (p2_pos E)
 constructor
 ·rintro q ⟨w,f,rfl,hw⟩ hq
  have hwb:=rep_bound hw f
  have hnn:(0:Rat)≤((cutN m st p false:Nat):Rat)*p2 (E+(n:Nat)):=Rat.mul_nonneg (natCast_nonneg _) (Rat.le_of_lt (p2_pos _))
  rcases (show w≤0∨0<w by omega) with k1 | k1
  ·have k2:(w:Rat)≤0:=by exact_mod_cast k1
   have k3:=Rat.mul_nonneg (show (0:Rat) ≤ -(w:Rat) by grind) (Rat.le_of_lt (p2_pos f))
   grind
  ·obtain ⟨v,rfl⟩:∃ v:Nat,w=(v:Int):=⟨w.natAbs,by omega⟩
   rw [Int.natAbs_natCast] at hwb hw
   rw [Rat.intCast_natCast] at hq ⊢
   by_cases hf:E+(n:Nat)≤f
   ·obtain ⟨k,hk⟩:∃ k:Nat,f=E+(n:Nat)+(k:Nat):=⟨(f-(E+(n:Nat))).toNat,by omega⟩
    have hq':(v:Rat)*p2 f<((m+1:Nat):Rat)*p2 E:=by grind
    rw [hk,p2_split _ k,← Rat.mul_assoc,mul_le_iff (p2_pos _),← Rat.natCast_mul]
    rw [hk,p2_split _ k,p2_split _ n,← Rat.mul_assoc,← Rat.mul_assoc,rmul_lt_iff (p2_pos _),← Rat.natCast_mul,← Rat.natCast_mul] at hq'
    have k2:=nat_lt_of_cast hq'
    apply natCast_le
    unfold cutN
    rw [hnd]
    simp only [Bool.and_false,Bool.false_eq_true,if_false,Nat.add_zero]
    rw [Nat.le_div_iff_mul_le (Nat.pow_pos (by decide))]
    omega
   ·have k3:2 ^ (p-1)≤cutN m st p false:=by
     rcases hge with k3 | k3
     ·exact k3
     ·omega
    have k4:=natCast_le k3
    have k5:=Rat.mul_le_mul_of_nonneg_right k4 (Rat.le_of_lt (p2_pos (E+(n:Nat))))
    rw [← p2_split] at k5
    have:=p2_le (show f+(p:Nat)≤E+(n:Nat)+((p-1:Nat):Int) by omega)
    grind
 ·rintro q ⟨w,f,rfl,hw⟩ hq
  have hwb:=rep_bound hw f
  have hw0:0<w:=by
   rcases (show w≤0∨0<w by omega) with k1 | k1
   ·have k2:(w:Rat)≤0:=by exact_mod_cast k1
    have k3:=Rat.mul_nonneg (show (0:Rat) ≤ -(w:Rat) by grind) (Rat.le_of_lt (p2_pos f))
    grind
   ·exact k1
  obtain ⟨v,rfl⟩:∃ v:Nat,w=(v:Int):=⟨w.natAbs,by omega⟩
  rw [Int.natAbs_natCast] at hwb hw
  rw [Rat.intCast_natCast] at hq ⊢
  have k3:=Nat.div_add_mod m (2 ^ n)
  have k4:=Nat.mod_lt m hp2
  by_cases hf:E+(n:Nat)≤f
  ·obtain ⟨k,hk⟩:∃ k:Nat,f=E+(n:Nat)+(k:Nat):=⟨(f-(E+(n:Nat))).toNat,by omega⟩
   have e1:(v:Rat)*p2 f=((v*2 ^ k*2 ^ n:Nat):Rat)*p2 E:=by
    rw [hk,p2_split _ k,p2_split _ n,← Rat.mul_assoc,← Rat.mul_assoc,← Rat.natCast_mul,← Rat.natCast_mul]
   have hc:cutN m st p true≤v*2 ^ k:=by
    have hle:(m:Rat)*p2 E≤((v*2 ^ k*2 ^ n:Nat):Rat)*p2 E:=by grind
    rw [mul_le_iff (p2_pos E)] at hle
    have hle:=nat_le_of_cast hle
    unfold cutN
    rw [hnd]
    simp only [Bool.and_true]
    have far:m<v*2 ^ k*2 ^ n→m / 2 ^ n+1≤v*2 ^ k:=by
     intro hlt
     have h5:m / 2 ^ n*2 ^ n<v*2 ^ k*2 ^ n:=by rw [Nat.mul_comm (m / 2 ^ n)]; omega
     exact Nat.lt_of_mul_lt_mul_right h5
    cases st with
    | true=>
     simp only [Bool.true_or,if_true]
     have hlt:(m:Rat)*p2 E<((v*2 ^ k*2 ^ n:Nat):Rat)*p2 E:=by have:=h4 rfl; grind
     rw [rmul_lt_iff (p2_pos E)] at hlt
     exact far (nat_lt_of_cast hlt)
    | false=>
     by_cases hr:m % 2 ^ n=0
     ·simp only [hr,bne_self_eq_false,Bool.or_false,Bool.false_eq_true,if_false,Nat.add_zero]
      have h6:m / 2 ^ n*2 ^ n≤v*2 ^ k*2 ^ n:=by rw [Nat.mul_comm (m / 2 ^ n)]; omega
      exact Nat.le_of_mul_le_mul_right h6 hp2
     ·have:(m % 2 ^ n != 0)=true:=by simpa using hr
      rw [this,Bool.false_or,if_pos rfl]
      refine far ?_
      rcases Nat.lt_or_ge m (v*2 ^ k*2 ^ n) with h7 | h7
      ·exact h7
      ·exfalso; apply hr
       have:m=v*2 ^ k*2 ^ n:=by omega
       rw [this]; exact Nat.mul_mod_left _ _
   have hc':=Rat.mul_le_mul_of_nonneg_right (natCast_le hc) (Rat.le_of_lt (p2_pos (E+(n:Nat))))
   have e2:((v*2 ^ k:Nat):Rat)*p2 (E+(n:Nat))=(v:Rat)*p2 f:=by rw [hk,p2_split _ k,Rat.natCast_mul]; grind
   grind
  ·have h5:(m:Rat)*p2 E≤p2 (E+((n+p-1:Nat):Int)):=by
    have:=p2_le (show f+(p:Nat)≤E+((n+p-1:Nat):Int) by omega)
    grind
   have h7:p2 (E+((n+p-1:Nat):Int))≤(m:Rat)*p2 E:=by
    rw [p2_split,mul_le_iff (p2_pos E)]; exact natCast_le (by omega)
   have hst:st=false:=by
    cases st with
    | false=>rfl
    | true=>
     exfalso
     have:=h4 rfl
     have:=p2_le (show f+(p:Nat)≤E+((n+p-1:Nat):Int) by omega)
     grind
   rw [p2_split,mul_le_iff (p2_pos _)] at h5
   have h6:=nat_le_of_cast h5
   have hMe:m=2 ^ (n+p-1):=by omega
   have hMd:m=2 ^ n*2 ^ (p-1):=by rw [hMe,← Nat.pow_add]; congr 1; omega
   have hc:cutN m st p true*2 ^ n=m:=by
    unfold cutN
    rw [hnd,hMd,Nat.mul_mod_right,Nat.mul_div_cancel_left _ hp2,hst]
    simp [Nat.mul_comm]
   rw [p2_split,← Rat.mul_assoc,← Rat.natCast_mul,hc]
   grind
theorem val_quo {x y:D} (hy0:y.m≠0) {k:Nat} : val x / val y=sg (decide (x.m<0) != decide (y.m<0)) 1*(((x.m.natAbs*2 ^ k:Nat):Rat) / (y.m.natAbs:Rat)*p2 (x.e-y.e-k)):=by
 have hv0:val y≠0:=fun h=>hy0 ((val_zero_iff y).1 h)
 have hYp:(0:Rat)<(y.m.natAbs:Rat):=by exact_mod_cast (show 0<y.m.natAbs by omega)
 have hvx:((x.m.natAbs*2 ^ k:Nat):Rat)*p2 (x.e-k)=(x.m.natAbs:Rat)*p2 x.e:=by
  rw [Rat.natCast_mul,Rat.mul_assoc,← p2_split]; congr 2; omega
 have hQ:((x.m.natAbs*2 ^ k:Nat):Rat) / (y.m.natAbs:Rat)*p2 (x.e-y.e-k)*((y.m.natAbs:Rat)*p2 y.e)=(x.m.natAbs:Rat)*p2 x.e:=by
  have e1:=mul_of_div (a:=((x.m.natAbs*2 ^ k:Nat):Rat)) (b:=(y.m.natAbs:Rat)) (by grind)
  have e2:p2 (x.e-y.e-k)*p2 y.e=p2 (x.e-k):=by rw [← p2_add]; congr 1; omega
  calc ((x.m.natAbs*2 ^ k:Nat):Rat) / (y.m.natAbs:Rat)*p2 (x.e-y.e-k)*((y.m.natAbs:Rat)*p2 y.e)=(((x.m.natAbs*2 ^ k:Nat):Rat) / (y.m.natAbs:Rat)*(y.m.natAbs:Rat))*(p2 (x.e-y.e-k)*p2 y.e):=by grind
   _=(x.m.natAbs:Rat)*p2 x.e:=by rw [e1,e2,hvx]
 generalize ((x.m.natAbs*2 ^ k:Nat):Rat) / (y.m.natAbs:Rat)*p2 (x.e-y.e-k)=Q at *
 apply div_of_mul hv0
 by_cases h1:x.m<0<;>by_cases h2:y.m<0
 ·rw [val_abs_neg h1,val_abs_neg h2,show (decide (x.m<0) != decide (y.m<0))=false by simp [h1,h2],sg_pos_cast]; grind
 ·rw [val_abs_neg h1,val_abs_pos h2,show (decide (x.m<0) != decide (y.m<0))=true by simp [h1,h2],sg_neg_cast]; grind
 ·rw [val_abs_pos h1,val_abs_neg h2,show (decide (x.m<0) != decide (y.m<0))=true by simp [h1,h2],sg_neg_cast]; grind
 ·rw [val_abs_pos h1,val_abs_pos h2,show (decide (x.m<0) != decide (y.m<0))=false by simp [h1,h2],sg_pos_cast]; grind
theorem div_best {x y:D} (hy0:val y≠0) {p:Nat} (hp:1≤p) (up:Bool) (h:(divD x y p up).2=0):(up=false→∀ q,rep p q→q≤val x / val y→q≤val (divD x y p up).1)∧(up=true→∀ q,rep p q→val x / val y≤q→val (divD x y p up).1≤q)∧rep p (val (divD x y p up).1):=by
 have hym:y.m≠0:=fun h=>hy0 (val_zero_m h)
 unfold divD at *
 rw [if_neg hym] at h ⊢
 by_cases hxm:x.m=0
 ·rw [if_pos hxm]
  have:val x / val y=0:=div_of_mul hy0 (by rw [val_zero_m hxm,Rat.zero_mul])
  rw [this]
  refine ⟨fun _ q _ hq=>by rw [val_z]; exact hq,fun _ q _ hq=>by rw [val_z]; exact hq,⟨0,0,by rw [val_z]; simp,by simp⟩⟩
 rw [if_neg hxm] at h ⊢
 rw [tell_ok' h]
 have hX0:x.m.natAbs≠0:=by omega
 have hY0:y.m.natAbs≠0:=by omega
 have hbv:=blen_shl hX0 (p+2+blen y.m.natAbs-blen x.m.natAbs)
 have hq:=val_quo (x:=x) hym (k:=p+2+blen y.m.natAbs-blen x.m.natAbs)
 have hbX:p+2+blen y.m.natAbs≤blen (x.m.natAbs*2 ^ (p+2+blen y.m.natAbs-blen x.m.natAbs)):=by omega
 generalize p+2+blen y.m.natAbs-blen x.m.natAbs=k at *
 generalize x.e-y.e-(k:Int)=E at *
 generalize x.m.natAbs*2 ^ k=v at *
 generalize y.m.natAbs=Y at *
 have hpE:=p2_pos E
 have hYp:(0:Rat)<(Y:Rat):=by exact_mod_cast Nat.pos_of_ne_zero hY0
 have hdm:=Nat.div_add_mod v Y
 have hml:=Nat.mod_lt v (Nat.pos_of_ne_zero hY0)
 have hvq:(v:Rat) / (Y:Rat)*(Y:Rat)=(v:Rat):=mul_of_div (by grind)
 have hbm:p<blen (v / Y):=by
  have h1:2 ^ (p+1)≤v / Y:=by
   rw [Nat.le_div_iff_mul_le (by omega)]
   have h2:=blen_lt Y
   have hv0:v≠0:=by intro h0; rw [h0,blen_zero] at hbX; omega
   have h3:=blen_le hv0
   have h4:2 ^ (p+1)*Y≤2 ^ (p+1)*2 ^ blen Y:=Nat.mul_le_mul_left _ (by omega)
   rw [← Nat.pow_add] at h4
   have h5:2 ^ (p+1+blen Y)≤2 ^ (blen v-1):=Nat.pow_le_pow_right (by decide) (by omega)
   omega
  have h2:=blen_lt (v / Y)
  have h3:2 ^ (p+1)<2 ^ blen (v / Y):=by omega
  have:=(Nat.pow_lt_pow_iff_right (a:=2) (by decide)).1 h3
  omega
 have hcast:(v:Rat)=(Y:Rat)*((v / Y:Nat):Rat)+((v % Y:Nat):Rat):=by
  rw [← Rat.natCast_mul,← Rat.natCast_add,hdm]
 have hz:(0:Rat)≤((v % Y:Nat):Rat):=natCast_nonneg _
 have hQ1:((v / Y:Nat):Rat)≤(v:Rat) / (Y:Rat):=by
  rw [← mul_le_iff hYp,hvq]; grind
 have hQ3:(v:Rat) / (Y:Rat)<((v / Y+1:Nat):Rat):=by
  rw [← rmul_lt_iff hYp,hvq,Rat.natCast_add]
  have:((v % Y:Nat):Rat)<(Y:Rat):=natCast_lt hml
  have e:((1:Nat):Rat)=1:=rfl
  rw [e]; grind
 have hQ2:(v % Y != 0)=false→(v:Rat) / (Y:Rat)≤((v / Y:Nat):Rat):=by
  intro h0
  have h0:v % Y=0:=by simpa using h0
  rw [← mul_le_iff hYp,hvq,hcast,h0]
  have e:((0:Nat):Rat)=0:=rfl
  rw [e]; grind
 have hQ4:(v % Y != 0)=true→((v / Y:Nat):Rat)<(v:Rat) / (Y:Rat):=by
  intro h0
  have h0:v % Y≠0:=by simpa using h0
  have h1:(0:Rat)<((v % Y:Nat):Rat):=by exact_mod_cast Nat.pos_of_ne_zero h0
  rw [← rmul_lt_iff hYp,hvq,hcast]
  have:v / Y=(Y*(v / Y)+v % Y) / Y:=by rw [hdm]
  grind
 have hb:=cut_best (m:=v / Y) (st:=v % Y != 0) (E:=E) (Q:=(v:Rat) / (Y:Rat)*p2 E) hp hbm (by rw [mul_le_iff hpE]; exact hQ1) (fun h0=>by rw [mul_le_iff hpE]; exact hQ2 h0) (by rw [rmul_lt_iff hpE]; exact hQ3) (fun h0=>by rw [rmul_lt_iff hpE]; exact hQ4 h0)
 have hrep:∀ neg s,rep p (val (cutD neg (v / Y) E (v % Y != 0) p s)):=fun neg s=>⟨sg neg (cutN (v / Y) (v % Y != 0) p s),E+(blen (v / Y)-p:Nat),val_cut _ _ _ _ _ _,by rw [sg_abs']; exact cutN_le _ _ _ _⟩
 rw [hq,val_cut]
 refine ⟨?_,?_,by rw [← val_cut]; exact hrep _ _⟩
 ·rintro rfl q hq1 hq2
  cases hs:(decide (x.m<0) != decide (y.m<0)) with
  | true=>
   rw [hs,sg_neg_cast] at hq2
   rw [sg_neg_cast,show (false != true)=true from rfl]
   have:=hb.2 (-q) (rep_neg hq1) (by have e:((1:Nat):Rat)=1:=rfl; rw [e] at hq2; grind)
   grind
  | false=>
   rw [hs,sg_pos_cast] at hq2
   rw [sg_pos_cast,show (false != false)=false from rfl]
   exact hb.1 q hq1 (by have e:((1:Nat):Rat)=1:=rfl; rw [e] at hq2; grind)
 ·rintro rfl q hq1 hq2
  cases hs:(decide (x.m<0) != decide (y.m<0)) with
  | true=>
   rw [hs,sg_neg_cast] at hq2
   rw [sg_neg_cast,show (true != true)=false from rfl]
   have:=hb.1 (-q) (rep_neg hq1) (by have e:((1:Nat):Rat)=1:=rfl; rw [e] at hq2; grind)
   grind
  | false=>
   rw [hs,sg_pos_cast] at hq2
   rw [sg_pos_cast,show (true != false)=true from rfl]
   exact hb.2 q hq1 (by have e:((1:Nat):Rat)=1:=rfl; rw [e] at hq2; grind)
theorem neg_vals (c:I):val (negI c).lo = -val c.hi∧val (negI c).hi = -val c.lo:=⟨val_neg _,val_neg _⟩
structure Quo (a b:I) (u v:Rat):Prop where
 h1:u≤val a.lo / val b.lo∧val a.lo / val b.lo≤v
 h2:u≤val a.lo / val b.hi∧val a.lo / val b.hi≤v
 h3:u≤val a.hi / val b.lo∧val a.hi / val b.lo≤v
 h4:u≤val a.hi / val b.hi∧val a.hi / val b.hi≤v
 mu:u=val a.lo / val b.lo∨u=val a.lo / val b.hi∨u=val a.hi / val b.lo∨u=val a.hi / val b.hi
 mv:v=val a.lo / val b.lo∨v=val a.lo / val b.hi∨v=val a.hi / val b.lo∨v=val a.hi / val b.hi
theorem min_of {a b c d:Rat} : ∃ u,(u≤a∧u≤b∧u≤c∧u≤d)∧(u=a∨u=b∨u=c∨u=d):=by
 have two:∀ x y:Rat,∃ u,(u≤x∧u≤y)∧(u=x∨u=y):=fun x y=>by
  rcases Rat.le_total (a:=x) (b:=y) with h | h
  ·exact ⟨x,⟨Rat.le_refl,h⟩,Or.inl rfl⟩
  ·exact ⟨y,⟨h,Rat.le_refl⟩,Or.inr rfl⟩
 obtain ⟨x,h1,h2⟩:=two a b
 obtain ⟨y,h3,h4⟩:=two c d
 obtain ⟨u,h5,h6⟩:=two x y
 exact ⟨u,⟨by grind,by grind,by grind,by grind⟩,by grind⟩
theorem divI_enc {a b:I} {L H M K:Int} (ha:OkI a L H) (hb:OkI b M K) (hz:hasI b zD=false) {p:Nat} (hp:1≤p) (hL : -60000≤L-K-p-2) (hH:H-M+2≤60000) :
  ∃ c u v,divI p a b=(c,0)∧OkI c (L-K-p-2) (H-M+2)∧Enc p c u v∧Quo a b u v:=by
 obtain ⟨c,ec,oc,hc⟩:=divI_ok ha hb hz hp hL hH
 have hs:=has_zero hz
 have hble:=hb.le
 have hale:=ha.le
 have nl:val b.lo≠0:=by grind
 have nh:val b.hi≠0:=by grind
 obtain ⟨u,hu,mu⟩:=min_of (a:=val a.lo / val b.lo) (b:=val a.lo / val b.hi) (c:=val a.hi / val b.lo) (d:=val a.hi / val b.hi)
 obtain ⟨w,hw,mw⟩:=min_of (a:=-(val a.lo / val b.lo)) (b:=-(val a.lo / val b.hi)) (c:=-(val a.hi / val b.lo)) (d:=-(val a.hi / val b.hi))
 have q:Quo a b u (-w):=⟨⟨hu.1,by grind⟩,⟨hu.2.1,by grind⟩,⟨hu.2.2.1,by grind⟩,⟨hu.2.2.2,by grind⟩,mu,by grind⟩
 refine ⟨c,u,-w,ec,oc,?_,q⟩
 have c1:=hc _ _ Rat.le_refl hale Rat.le_refl hble
 have c2:=hc _ _ Rat.le_refl hale hble Rat.le_refl
 have c3:=hc _ _ hale Rat.le_refl Rat.le_refl hble
 have c4:=hc _ _ hale Rat.le_refl hble Rat.le_refl
 have ec2:=ec
 obtain ⟨q1,e1,-⟩:=div_ok ha.lo hb.lo nl hp false hL hH
 obtain ⟨q2,e2,-⟩:=div_ok ha.lo hb.hi nh hp false hL hH
 obtain ⟨q3,e3,-⟩:=div_ok ha.hi hb.lo nl hp false hL hH
 obtain ⟨q4,e4,-⟩:=div_ok ha.hi hb.hi nh hp false hL hH
 obtain ⟨r1,f1,-⟩:=div_ok ha.lo hb.lo nl hp true hL hH
 obtain ⟨r2,f2,-⟩:=div_ok ha.lo hb.hi nh hp true hL hH
 obtain ⟨r3,f3,-⟩:=div_ok ha.hi hb.lo nl hp true hL hH
 obtain ⟨r4,f4,-⟩:=div_ok ha.hi hb.hi nh hp true hL hH
 have b1:=div_best (x:=a.lo) nl hp false (by rw [e1])
 have b2:=div_best (x:=a.lo) nh hp false (by rw [e2])
 have b3:=div_best (x:=a.hi) nl hp false (by rw [e3])
 have b4:=div_best (x:=a.hi) nh hp false (by rw [e4])
 have g1:=div_best (x:=a.lo) nl hp true (by rw [f1])
 have g2:=div_best (x:=a.lo) nh hp true (by rw [f2])
 have g3:=div_best (x:=a.hi) nl hp true (by rw [f3])
 have g4:=div_best (x:=a.hi) nh hp true (by rw [f4])
 rw [e1] at b1
 rw [e2] at b2
 rw [e3] at b3
 rw [e4] at b4
 rw [f1] at g1
 rw [f2] at g2
 rw [f3] at g3
 rw [f4] at g4
 unfold divI four4 at ec2
 rw [hz,if_neg (by simp)] at ec2
 simp only [e1,e2,e3,e4,f1,f2,f3,f4] at ec2
 have hcv:c=⟨min4 q1 q2 q3 q4,max4 r1 r2 r3 r4⟩:=by
  have:((⟨min4 q1 q2 q3 q4,max4 r1 r2 r3 r4⟩:I),(0:Int))=(c,0):=ec2
  exact (congrArg Prod.fst this).symm
 have m1:=min4_mem q1 q2 q3 q4
 have m2:=max4_mem r1 r2 r3 r4
 have l1:val c.lo=val (min4 q1 q2 q3 q4):=by rw [hcv]
 have l2:val c.hi=val (max4 r1 r2 r3 r4):=by rw [hcv]
 refine ⟨by grind,by grind,fun y hy hyu=>?_,fun y hy hyv=>?_,?_,?_⟩
 ·have k1:=b1.1 rfl y hy (by grind)
  have k2:=b2.1 rfl y hy (by grind)
  have k3:=b3.1 rfl y hy (by grind)
  have k4:=b4.1 rfl y hy (by grind)
  simp only at k1 k2 k3 k4
  rw [l1]; rcases m1 with m | m | m | m<;>rw [m]<;>assumption
 ·have k1:=g1.2.1 rfl y hy (by grind)
  have k2:=g2.2.1 rfl y hy (by grind)
  have k3:=g3.2.1 rfl y hy (by grind)
  have k4:=g4.2.1 rfl y hy (by grind)
  simp only at k1 k2 k3 k4
  rw [l2]; rcases m2 with m | m | m | m<;>rw [m]<;>assumption
 ·rw [l1]; rcases m1 with m | m | m | m<;>rw [m]
  ·exact b1.2.2
  ·exact b2.2.2
  ·exact b3.2.2
  ·exact b4.2.2
 ·rw [l2]; rcases m2 with m | m | m | m<;>rw [m]
  ·exact g1.2.2
  ·exact g2.2.2
  ·exact g3.2.2
  ·exact g4.2.2
theorem p2_int1 (k:Int) (x:R):x*ofQ (p2 1)=x+x:=by
 have:ofQ (p2 1)=2:=by rw [show (1:Int)=((1:Nat):Int) from rfl,p2_nat]; rfl
 rw [this]; grind
theorem floor_near (x:Rat):(x.floor:Rat)≤x∧x<(x.floor:Rat)+1:=⟨Rat.floor_le x,by have:=Rat.lt_floor_add_one x; rw [Rat.intCast_add] at this; exact this⟩
theorem rep_below {p:Nat} {s:Int} {u:Rat} (h:B s u):∃ q,rep p q∧q≤u∧u-p2 (s-p)≤q:=by
 have hp:=p2_pos (s-p)
 have hi:=p2_pos (p-s)
 have e1:p2 (s-p)*p2 (p-s)=1:=by rw [← p2_add,show s-p+(p-s)=0 by omega,p2_zero]
 have e2:p2 s*p2 (p-s)=((2 ^ p:Nat):Rat):=by rw [← p2_add,show s+(p-s)=((p:Nat):Int) by omega,p2_nat]
 obtain ⟨f1,f2⟩:=floor_near (u*p2 (p-s))
 generalize hz:(u*p2 (p-s)).floor=z at f1 f2
 have h1:=Rat.mul_le_mul_of_nonneg_right h.1 (Rat.le_of_lt hi)
 have h2:=Rat.mul_le_mul_of_nonneg_right h.2 (Rat.le_of_lt hi)
 have hzl : -((2 ^ p:Nat):Int)≤z:=by
  rcases Int.lt_or_le z (-((2 ^ p:Nat):Int)) with k | k
  ·have h3:(z:Rat)+1≤((-((2 ^ p:Nat):Int):Int):Rat):=by
    have:=intCast_le (show z+1 ≤ -((2 ^ p:Nat):Int) by omega)
    rwa [Rat.intCast_add] at this
   rw [Rat.intCast_neg,Rat.intCast_natCast] at h3
   grind
  ·exact k
 have hzh:z≤((2 ^ p:Nat):Int):=by
  rcases Int.lt_or_le ((2 ^ p:Nat):Int) z with k | k
  ·have h3:=intCast_lt k
   rw [Rat.intCast_natCast] at h3
   grind
  ·exact k
 refine ⟨(z:Rat)*p2 (s-p),⟨z,s-p,rfl,by omega⟩,?_,?_⟩
 ·have:=Rat.mul_le_mul_of_nonneg_right f1 (Rat.le_of_lt hp)
  have e:u*p2 (p-s)*p2 (s-p)=u:=by grind
  grind
 ·have:=Rat.mul_le_mul_of_nonneg_right (Rat.le_of_lt f2) (Rat.le_of_lt hp)
  have e:u*p2 (p-s)*p2 (s-p)=u:=by grind
  grind
theorem enc_width {p:Nat} {c:I} {u v:Rat} (h:Enc p c u v) {s:Int} (hu:B s u) (hv:B s v):val c.hi-val c.lo≤v-u+2*p2 (s-p):=by
 obtain ⟨q,r1,q1,q2⟩:=rep_below (p:=p) hu
 obtain ⟨t,r2,t1,t2⟩:=rep_below (p:=p) hv.neg
 have h1:=h.blo q r1 q1
 have h2:=h.bhi (-t) (rep_neg r2) (by grind)
 grind
theorem enc_bounds {p:Nat} {c:I} {u v:Rat} (h:Enc p c u v) {s:Int} (hu:B s u) (hv:B s v) (hle:val c.lo≤val c.hi):B s (val c.lo)∧B s (val c.hi):=by
 have h1:=h.blo _ (rep_neg (rep_p2 p s)) hu.1
 have h2:=h.bhi _ (rep_p2 p s) hv.2
 exact ⟨⟨h1,by grind⟩,⟨by grind,h2⟩⟩
structure HasW (r:I × Int) (x:R) (L H:Int) (w:Rat):Prop where
 h:Has r x L H
 w:val r.1.hi-val r.1.lo≤w
theorem HasW.mono {r:I × Int} {x:R} {L H L' H':Int} {w w':Rat} (h:HasW r x L H w) (h1:L'≤L) (h2:H≤H') (h3:w≤w'):HasW r x L' H' w':=⟨h.h.mono h1 h2,by have:=h.w; grind⟩
theorem HasW.eq {r:I × Int} {x y:R} {L H:Int} {w:Rat} (h:HasW r x L H w) (e:x=y):HasW r y L H w:=e ▸ h
theorem HasW.pair {r:I × Int} {x:R} {L H:Int} {w:Rat} (h:HasW r x L H w):HasW (r.1,0) x L H w:=⟨h.h.pair,h.w⟩
theorem hw_point {x:D} {L H:Int} (h:Okd x L H):HasW (⟨x,x⟩,0) (ofQ (val x)) L H 0:=⟨has_point h,by show val x-val x≤0; grind⟩
theorem hw_int {n:Int} {K:Nat} (hK:K≤60) (hn:n.natAbs≤2 ^ K):HasW (iS n 0) (n:R) 0 (K:Int) 0:=⟨has_int hK hn,by show val (fromD n)-val (fromD n)≤0; grind⟩
theorem hw_neg {r:I × Int} {x:R} {L H:Int} {w:Rat} (h:HasW r x L H w):HasW (nS r.1 0) (-x) L H w:=⟨has_neg h.h,by
 have n:=neg_vals r.1
 show val (negI r.1).hi-val (negI r.1).lo≤w
 rw [n.1,n.2]; have:=h.w; grind⟩
theorem HasW.ends {r:I × Int} {x:R} {L H:Int} {w m:Rat} (h:HasW r x L H w) (hx:ab x≤ofQ m) : -(m+w)≤val r.1.lo∧val r.1.lo≤m∧-m≤val r.1.hi∧val r.1.hi≤m+w:=by
 have h1:=h.h.m.lo
 have h2:=h.h.m.hi
 have h3:=ab_le.1 hx
 have h4:val r.1.lo≤m:=ofQ_le.1 (by grind)
 have h5 : -m≤val r.1.hi:=ofQ_le.1 (by rw [ofQ_neg]; grind)
 have:=h.w
 exact ⟨by grind,h4,h5,by grind⟩
theorem hw_add {r s:I × Int} {x y:R} {L H:Int} {w1 w2 m:Rat} {K:Int} (ha:HasW r x L H w1) (hb:HasW s y L H w2) (hm:ab (x+y)≤ofQ m) (hK:m+w1+w2≤p2 K) {p:Nat} (hp:1≤p) (hL : -60000≤L) (hH:H+1≤60000):HasW (aS p r.1 s.1 0) (x+y) L K (w1+w2+2*p2 (K-p)):=by
 obtain ⟨c,e,o,en⟩:=addI_ok ha.h.ok hb.h.ok hp hL hH
 have h:=has_add ha.h hb.h hp hL hH
 have e':aS p r.1 s.1 0=(c,0):=e
 have l1:=ofQ_le.2 (Rat.le_refl (a:=val r.1.lo))
 have h1:=ha.h.m.lo; have h2:=ha.h.m.hi; have h3:=hb.h.m.lo; have h4:=hb.h.m.hi
 have h5:=ab_le.1 hm
 have u1:val r.1.lo+val s.1.lo≤m:=ofQ_le.1 (by rw [ofQ_add]; grind)
 have v1 : -m≤val r.1.hi+val s.1.hi:=ofQ_le.1 (by rw [ofQ_add,ofQ_neg]; grind)
 have k1:=ha.w; have k2:=hb.w; have k3:=ha.h.ok.le; have k4:=hb.h.ok.le
 have bu:B K (val r.1.lo+val s.1.lo):=⟨by grind,by grind⟩
 have bv:B K (val r.1.hi+val s.1.hi):=⟨by grind,by grind⟩
 have b:=enc_bounds en bu bv o.le
 have w:=enc_width en bu bv
 rw [e'] at h ⊢
 exact ⟨⟨rfl,⟨⟨o.lo.w,o.lo.g,b.1⟩,⟨o.hi.w,o.hi.g,b.2⟩,o.le⟩,h.m⟩,by grind⟩
theorem hw_sub {r s:I × Int} {x y:R} {L H:Int} {w1 w2 m:Rat} {K:Int} (ha:HasW r x L H w1) (hb:HasW s y L H w2) (hm:ab (x-y)≤ofQ m) (hK:m+w1+w2≤p2 K) {p:Nat} (hp:1≤p) (hL : -60000≤L) (hH:H+1≤60000):HasW (suS p r.1 s.1 0) (x-y) L K (w1+w2+2*p2 (K-p)):=by
 have h:=hw_add ha (hw_neg hb) (m:=m) (K:=K) (by rw [show x + -y=x-y by grind]; exact hm) hK hp hL hH
 exact HasW.eq h (by grind)
theorem width_prod {a b a' b' A C w1 w2:Rat} (ha : -A≤a∧a≤A) (hb' : -C≤b'∧b'≤C) (h1 : -w1≤a-a'∧a-a'≤w1) (h2 : -w2≤b-b'∧b-b'≤w2):a*b-a'*b'≤A*w2+C*w1:=by
 have k1:=(mul_abs_le ha h2).2
 have k2:=(mul_abs_le hb' h1).2
 have e:a*b-a'*b'=a*(b-b')+b'*(a-a'):=by grind
 grind
theorem hw_mul {r s:I × Int} {x y:R} {L H M K:Int} {w1 w2:Rat} (ha:HasW r x L H w1) (hb:HasW s y M K w2) {p:Nat} (hp:1≤p) (hL : -60000≤L+M) (hH:H+K≤60000):HasW (mS p r.1 s.1 0) (x*y) (L+M) (H+K) (p2 H*w2+p2 K*w1+2*p2 (H+K-p)):=by
 obtain ⟨c,u,v,e,o,en,pr⟩:=mulI_ok ha.h.ok hb.h.ok hp hL hH
 have h:=has_mul ha.h hb.h hp hL hH
 have e':mS p r.1 s.1 0=(c,0):=e
 have k1:=ha.w; have k2:=hb.w; have k3:=ha.h.ok.le; have k4:=hb.h.ok.le
 have a1:=ha.h.ok.lo.b; have a2:=ha.h.ok.hi.b; have b1:=hb.h.ok.lo.b; have b2:=hb.h.ok.hi.b
 have bu:B (H+K) u:=by rcases pr.mu with q | q | q | q<;>rw [q]<;>exact B.mul (by assumption) (by assumption)
 have bv:B (H+K) v:=by rcases pr.mv with q | q | q | q<;>rw [q]<;>exact B.mul (by assumption) (by assumption)
 have hd:v-u≤p2 H*w2+p2 K*w1:=by
  unfold B at a1 a2 b1 b2
  rcases pr.mv with q | q | q | q<;>rcases pr.mu with t | t | t | t<;>rw [q,t]<;>exact width_prod (by assumption) (by assumption) (by constructor<;>grind) (by constructor<;>grind)
 have w:=enc_width en bu bv
 rw [e'] at h ⊢
 exact ⟨h,by grind⟩
theorem div_n_val {n:Nat} (hn:0<n) (x:Rat):x / val (intI (n:Int)).lo*(n:Rat)=x:=by
 have e:val (intI (n:Int)).lo=(n:Rat):=by rw [show (intI (n:Int)).lo=fromD (n:Int) from rfl,val_from]; exact Rat.intCast_natCast n
 rw [e]
 have:(0:Rat)<(n:Rat):=by exact_mod_cast hn
 exact mul_of_div (by grind)
theorem hw_div_n {r:I × Int} {x z:R} {L H:Int} {w:Rat} (ha:HasW r x L H w) {n k:Nat} (hk:k≤60) (h0:0<n) (hn:n≤2 ^ k) {j:Int} (hj:p2 j≤(n:Rat)) (hz:z*(n:R)=x) {p:Nat} (hp:1≤p) (hL : -60000≤L-k-p-2) (hH:H+2≤60000):HasW (dS p r.1 (iS (n:Int) 0).1 0) z (L-k-p-2) (H-j) (w*p2 (-j)+2*p2 (H-j-p)):=by
 obtain ⟨c,u,v,e,o,en,q⟩:=divI_enc (p:=p) ha.h.ok (has_nat hk hn).ok (nz_int h0) hp hL (by omega)
 have h:=has_div_n ha.h hk h0 hn hz hp hL hH
 have e':dS p r.1 (iS (n:Int) 0).1 0=(c,0):=e
 have k1:=ha.w; have k3:=ha.h.ok.le
 have a1:=ha.h.ok.lo.b; have a2:=ha.h.ok.hi.b
 have hnr:(0:Rat)<(n:Rat):=by exact_mod_cast h0
 have hpj:=p2_pos (-j)
 have ej:p2 (-j)*p2 j=1:=by rw [← p2_add,show -j+j=0 by omega,p2_zero]
 have ejn:1≤p2 (-j)*(n:Rat):=by have:=Rat.mul_le_mul_of_nonneg_left hj (Rat.le_of_lt hpj); grind
 have eH:p2 (H-j)=p2 H*p2 (-j):=by rw [← p2_add]; congr 1
 have hi:(iS (n:Int) 0).1=intI (n:Int):=rfl
 have lohi:(intI (n:Int)).hi=(intI (n:Int)).lo:=rfl
 rw [hi] at q
 have d1:=div_n_val h0 (val r.1.lo)
 have d2:=div_n_val h0 (val r.1.hi)
 have qu:=q.mu
 have qv:=q.mv
 rw [lohi] at qu qv
 have bdd:∀ x:Rat,B H (x*(n:Rat))→B (H-j) x:=by
  intro x hx
  unfold B at *
  rw [eH]
  have k5:=Rat.mul_le_mul_of_nonneg_left ejn (Rat.le_of_lt (p2_pos H))
  constructor
  ·rw [← mul_le_iff hnr]; grind
  ·rw [← mul_le_iff hnr]; grind
 have bu:B (H-j) u:=bdd u (by rcases qu with k | k | k | k<;>rw [k]<;>first | (rw [d1]; exact a1) | (rw [d2]; exact a2))
 have bv:B (H-j) v:=bdd v (by rcases qv with k | k | k | k<;>rw [k]<;>first | (rw [d1]; exact a1) | (rw [d2]; exact a2))
 have hd:v-u≤w*p2 (-j):=by
  have hw0:0≤w:=by grind
  have k5:=Rat.mul_le_mul_of_nonneg_left ejn hw0
  rw [← mul_le_iff hnr]
  have:(v-u)*(n:Rat)≤w:=by
   rcases qu with k | k | k | k<;>rcases qv with t | t | t | t<;>rw [k,t]<;>grind
  grind
 have wd:=enc_width en bu bv
 have b:=enc_bounds en bu bv o.le
 rw [e'] at h ⊢
 exact ⟨⟨rfl,⟨⟨o.lo.w,o.lo.g.mono (by omega),b.1⟩,⟨o.hi.w,o.hi.g.mono (by omega),b.2⟩,o.le⟩,h.m⟩,by grind⟩
theorem hw_wide {r:I × Int} {x y:R} {L H:Int} {w m:Rat} {K:Int} (ha:HasW r x L H w) {d:D} (hd:Okd d L H) (hxy:ab (y-x)≤ofQ (val d)) (hm:ab x≤ofQ m) (hK:m+w+val d≤p2 K) {p:Nat} (hp:1≤p) (hL : -60000≤L) (hH:H+1≤60000):HasW (wS p r.1 d 0) y L K (w+2*val d+2*p2 (K-p)):=by
 have h0:0≤val d:=by
  have:=ab_nonneg (y-x)
  exact ofQ_le.1 (rle_trans this hxy)
 obtain ⟨c,e,o,en⟩:=wideI_ok ha.h.ok hd h0 hp hL hH
 have h:=has_wide ha.h hd hxy hp hL hH
 have e':wS p r.1 d 0=(c,0):=e
 have q:=ha.ends hm
 have k1:=ha.w; have k3:=ha.h.ok.le
 have bu:B K (val r.1.lo-val d):=⟨by grind,by grind⟩
 have bv:B K (val r.1.hi+val d):=⟨by grind,by grind⟩
 have b:=enc_bounds en bu bv o.le
 have wd:=enc_width en bu bv
 rw [e'] at h ⊢
 exact ⟨⟨rfl,⟨⟨o.lo.w,o.lo.g,b.1⟩,⟨o.hi.w,o.hi.g,b.2⟩,o.le⟩,h.m⟩,by grind⟩
theorem hw_scale {r:I × Int} {x:R} {L H n:Int} {w:Rat} (ha:HasW r x L H w) (hL : -60000≤L+n) (hH:H+n≤60000):HasW (scS r.1 n 0) (x*ofQ (p2 n)) (L+n) (H+n) (w*p2 n):=by
 obtain ⟨c,e,o,e1,e2⟩:=scaleI_ok ha.h.ok hL hH
 have h:=has_scale ha.h hL hH
 have e':scS r.1 n 0=(c,0):=e
 rw [e'] at h ⊢
 refine ⟨h,?_⟩
 show val c.hi-val c.lo≤w*p2 n
 have:=Rat.mul_le_mul_of_nonneg_right ha.w (Rat.le_of_lt (p2_pos n))
 rw [e1,e2]; grind
theorem rep_grid {p:Nat} {q:Rat} (h:rep p q) {l:Int} (hl:p2 l≤q):G (l-p) q:=by
 obtain ⟨w,f,rfl,hw⟩:=h
 have hwb:=rep_bound hw f
 have h1:(w:Rat)≤(w.natAbs:Rat):=by
  have:=intCast_le (show w≤(w.natAbs:Int) by omega)
  rwa [Rat.intCast_natCast] at this
 have h2:=Rat.mul_le_mul_of_nonneg_right h1 (Rat.le_of_lt (p2_pos f))
 have h3:p2 l≤p2 (f+(p:Nat)):=by grind
 have:=p2_le_iff.1 h3
 exact G.of (by omega)
theorem ncast_succ (i:Nat) (d:Rat):((i+1:Nat):Rat)*d=(i:Rat)*d+d:=by rw [Rat.natCast_add]; have:((1:Nat):Rat)=1:=rfl; rw [this]; grind
theorem ncast_mul_le {i j:Nat} (h:i≤j) {d:Rat} (hd:0≤d):(i:Rat)*d≤(j:Rat)*d:=Rat.mul_le_mul_of_nonneg_right (natCast_le h) hd
theorem ser_w {p:Nat} (hp:1≤p) (next:Nat→I→Int→I × I × Int) (T P Su:Nat→R) {L0 c:Int} {Hh:Int} {wt wp m w0:Rat} (hc:0≤c) {N:Nat} (hS:∀ i,Su (i+1)=Su i+P (i+1)) (hwp:0≤wp)
  (hn:∀ i t,i<N→HasW (t,0) (T i) (L0-c*i) Hh wt→(next (i+1) t 0).2.2=0∧HasW ((next (i+1) t 0).1,0) (T (i+1)) (L0-c*(i+1:Nat)) Hh wt∧HasW ((next (i+1) t 0).2.1,0) (P (i+1)) (L0-c*(i+1:Nat)) Hh wp)
  (hSu:∀ i,ab (Su i)≤ofQ m) (hK:m+(w0+(N:Rat)*(wp+2*p2 (-(p:Int))))≤1) (hL : -60000≤L0-c*N) (hH:Hh≤0) :
  ∀ (k i:Nat) (s t:I),i+k=N→HasW (s,0) (Su i) (L0-c*i) 0 (w0+(i:Rat)*(wp+2*p2 (-(p:Int))))→HasW (t,0) (T i) (L0-c*i) Hh wt→HasW (serL p next k i s t 0) (Su N) (L0-c*N) 0 (w0+(N:Rat)*(wp+2*p2 (-(p:Int)))):=by
 intro k
 induction k with
 | zero=>
  intro i s t hi hs _
  have:i=N:=by omega
  subst this
  exact hs
 | succ k ih=>
  intro i s t hi hs ht
  obtain ⟨n1,n2,n3⟩:=hn i t (by omega) ht
  have e1:=cmul_succ c i
  have m1:=cmul_le hc (show i+1≤N by omega)
  have hpp:=p2_pos (-(p:Int))
  have d1:=ncast_succ i (wp+2*p2 (-(p:Int)))
  have d2:=ncast_mul_le (show i+1≤N by omega) (show 0≤wp+2*p2 (-(p:Int)) by grind)
  have h1:=hw_add (p:=p) (K:=0) (m:=m) (hs.mono (L':=L0-c*(i+1:Nat)) (H':=0) (by omega) (by omega) Rat.le_refl) (n3.mono (Int.le_refl _) (H':=0) (by omega) Rat.le_refl) (by rw [← hS i]; exact hSu _) (by rw [p2_zero]; grind) hp (by omega) (by omega)
  rw [serL,n1]
  have h2:=ih (i+1) _ _ (by omega) ((h1.mono (Int.le_refl _) (Int.le_refl _) (w':=w0+((i+1:Nat):Rat)*(wp+2*p2 (-(p:Int)))) (by rw [show (0:Int)-(p:Int) = -(p:Int) by omega]; grind)).eq (hS i).symm).pair n2
  rw [h1.h.e]; exact h2
theorem sq_w {y:I} {x:R} {L H l:Int} {w:Rat} (hy:HasW (y,0) x L H w) (hl:p2 l≤val y.lo) {p:Nat} (hp:1≤p) (hL : -60000≤L+L) (hH:H+H≤60000):HasW (mS p y y 0) (x*x) (l+l-p) (H+H) (2*(p2 H*w)+2*p2 (H+H-p)):=by
 have h:=hw_mul hy hy hp hL hH
 obtain ⟨c,u,v,e,o,en,pr⟩:=mulI_ok hy.h.ok hy.h.ok hp hL hH
 have e':mS p y y 0=(c,0):=by show st 0 zI (mulI p y y)=_; rw [st_zero]; exact e
 have e'':mS p (y,(0:Int)).1 (y,(0:Int)).1 0=(c,0):=e'
 rw [e''] at h
 rw [e']
 have hle:=hy.h.ok.le
 have hlo:p2 l≤val y.lo:=hl
 have hhi:p2 l≤val y.hi:=by have:val y.lo≤val y.hi:=hle; grind
 have hp0:=p2_pos l
 have mm:∀ a b:Rat,p2 l≤a→p2 l≤b→p2 (l+l)≤a*b:=fun a b ha hb=>by
  rw [p2_add]
  have h1:=Rat.mul_le_mul_of_nonneg_right ha (Rat.le_of_lt hp0)
  have h2:=Rat.mul_le_mul_of_nonneg_left hb (show 0≤a by grind)
  grind
 have hu:p2 (l+l)≤u:=by rcases pr.mu with k | k | k | k<;>rw [k]<;>exact mm _ _ (by assumption) (by assumption)
 have b1:=en.blo _ (rep_p2 p (l+l)) hu
 have ol:=o.le
 exact ⟨⟨rfl,⟨⟨o.lo.w,rep_grid en.rlo b1,o.lo.b⟩,⟨o.hi.w,rep_grid en.rhi (by grind),o.hi.b⟩,o.le⟩,h.h.m⟩,by have:=h.w; grind⟩
theorem Su_le {a:Nat→R} (h0:a 0=0) (h:∀ n,ab (a n)≤1) {t w x:R} (hg:Geo t w) (hx:ab x≤t) (k:Nat):ab (psum a x (k+1))≤w*t:=by
 have h1:=psum_tail (PB.one h) hg (x:=x) (by grind) 1 k
 have e1:psum a x 1=0:=by show 0+a 0*x ^ 0=0; rw [h0]; grind
 rw [e1,show 1+k=k+1 by omega,show t ^ 1=t by rw [rpow_succ,rpow_zero]; grind] at h1
 have h2:psum a x (k+1)-0=psum a x (k+1):=by grind
 rw [h2] at h1
 have h3:=rmul_nonneg (show 0≤w by have:=hg.pos; grind) (pow_nonneg hg.h0 (k+1))
 grind
theorem atan_w {p:Nat} (hp:2≤p∧p≤400) {y:I} {x:R} {L Lq H Hq:Int} {w wq wt wp m:Rat} (hy:HasW (y,0) x L H w) (hq:HasW (mS p y y 0) (x*x) Lq Hq wq) (hH:H ≤ -1) (hHq:Hq≤0) (hL0:L≤0) (hLq:Lq≤0) (hw:w≤wt) (hwt:p2 H*wq+p2 Hq*wt+2*p2 (H+Hq-p)≤wt) (hwp:wt*p2 (-1)+2*p2 (H-1-p)≤wp) (hm:∀ k,ab (psum atc x (k+1))≤ofQ m) (hK:m+(wt+((p / 2+4:Nat):Rat)*(wp+2*p2 (-(p:Int))))+p2 (-(p:Int))≤1) {M:Int} (hM:M≤L-(p+20-Lq)*(p / 2+4:Nat)) (hM' : -60000≤M):HasW (atanI p y) (A x) M 0 (wt+((p / 2+4:Nat):Rat)*(wp+2*p2 (-(p:Int)))+4*p2 (-(p:Int))):=by
 have hpp:=p2_pos (-(p:Int))
 have hwt0:0≤wt:=by have:=hy.w; have:=hy.h.ok.le; grind
 have hp1:=p2_pos (-1)
 have hp3:=p2_pos (H-1-p)
 have hwp0:0≤wp:=by have:=Rat.mul_nonneg hwt0 (Rat.le_of_lt hp1); grind
 unfold atanI
 rw [if_pos (in_box (hy.h.ok.mono (Int.le_refl _) (show H ≤ -1 from hH)))]
 have hcN:=ser_lim (c:=p+20-Lq) (N:=p / 2+4) (by omega) (by omega)
 have h:=ser_w (p:=p) (by omega) (nAtan p (mS p y y 0).1) (fun i=>sS (2*i+1)*x ^ (2*i+1)) (fun i=>atc (2*i+1)*x ^ (2*i+1)) (fun i=>psum atc x (2*i+2)) (L0:=L) (c:=p+20-Lq) (Hh:=H) (wt:=wt) (wp:=wp) (m:=m) (w0:=wt) (by omega) (N:=p / 2+4) (fun i=>atc_sum x i) hwp0 (by
  intro i t hiN ht
  have m1:=cmul_le (c:=p+20-Lq) (by omega) (show i+1≤p / 2+4 by omega)
  have e1:=cmul_succ (p+20-Lq) i
  have h1:=hw_mul (p:=p) ht hq (by omega) (by omega) (by omega)
  have h2:=(hw_neg h1).eq (y:=sS (2*(i+1)+1)*x ^ (2*(i+1)+1)) (by
   rw [show 2*(i+1)+1=2*i+1+2 by omega,sS_two,rpow_succ x (2*i+1+1),rpow_succ x (2*i+1)]; grind)
  have h2:=h2.mono (Int.le_refl _) (show H+Hq≤H by omega) hwt
  have h3:=hw_div_n (p:=p) (z:=atc (2*(i+1)+1)*x ^ (2*(i+1)+1)) h2 (n:=2*(i+1)+1) (k:=10) (by omega) (by omega) (by omega) (j:=1) (by rw [show (1:Int)=((1:Nat):Int) from rfl,p2_nat]; exact natCast_le (by omega)) (by
   rw [atc]; exact over_n _ _ _) (by omega) (by omega) (by omega)
  unfold nAtan oddS
  rw [h1.h.e,h2.h.e,show (iS ((2*(i+1)+1:Nat):Int) 0).2=0 from rfl]
  exact ⟨h3.h.e,(h2.mono (by omega) (by omega) Rat.le_refl).pair,(h3.mono (by omega) (by omega) hwp).pair⟩) (fun i=>hm _) (by grind) (by omega) (by omega) (p / 2+4) 0 y y (by omega)
  ((hy.mono (by omega) (by omega) (by have:((0:Nat):Rat)=0:=rfl; rw [this]; grind)).eq (by
   show x=0+atc 0*x ^ 0+atc 1*x ^ (0+1)
   have h1:=over_n (sS 1) x 0
   rw [show ((0+1:Nat):R)=1 from rfl] at h1
   rw [rpow_succ,rpow_zero,atc,atc,show sS 0=0 from rfl,show sS 1=1 from rfl,show ((1:Nat):R)=1 from rfl]
   rw [show sS 1=1 from rfl] at h1
   grind))
  ((hy.mono (by omega) (by omega) hw).eq (by
   show x=sS 1*x ^ (0+1)
   rw [rpow_succ,rpow_zero,show sS 1=1 from rfl]; grind))
 have hx:=box_half (in_box (hy.h.ok.mono (Int.le_refl _) (show H ≤ -1 from hH))) hy.h.m
 rw [hq.h.e]
 unfold finS
 rw [h.h.e]
 have hf1:=hf_le (show p+1≤2*(p / 2+4)+2 by omega)
 have hf2:=two_hf p
 have h5:=hw_wide (p:=p) (K:=0) (m:=m) (h.mono (L':=M) (H':=0) (by omega) (by omega) Rat.le_refl) (d:=⟨1,-(p:Int)⟩) (Okd_half (by omega) (by omega) (by omega)) (y:=A x) (by
  rw [val_half,p2_neg_nat]
  exact rle_trans (tail_half (over_ab rfl fun n=>(sg_ab n).1) hx _) (by grind)) (hm _) (by rw [val_half,p2_zero]; grind) (by omega) (by omega) (by omega)
 refine h5.mono (Int.le_refl _) (Int.le_refl _) ?_
 rw [val_half,show (0:Int)-(p:Int) = -(p:Int) by omega]; grind
theorem atanh_w {p:Nat} (hp:2≤p∧p≤400) {y:I} {x:R} {L Lq H Hq:Int} {w wq wt wp m:Rat} (hy:HasW (y,0) x L H w) (hq:HasW (mS p y y 0) (x*x) Lq Hq wq) (hH:H ≤ -1) (hHq:Hq≤0) (hL0:L≤0) (hLq:Lq≤0) (hw:w≤wt) (hwt:p2 H*wq+p2 Hq*wt+2*p2 (H+Hq-p)≤wt) (hwp:wt*p2 (-1)+2*p2 (H-1-p)≤wp) (hm:∀ k,ab (psum ahc x (k+1))≤ofQ m) (hK:m+(wt+((p / 2+4:Nat):Rat)*(wp+2*p2 (-(p:Int))))+p2 (-(p:Int))≤1) {M:Int} (hM:M≤L-(p+20-Lq)*(p / 2+4:Nat)) (hM' : -60000≤M):HasW (atanhI p y) (An.H x) M 0 (wt+((p / 2+4:Nat):Rat)*(wp+2*p2 (-(p:Int)))+4*p2 (-(p:Int))):=by
 have hpp:=p2_pos (-(p:Int))
 have hwt0:0≤wt:=by have:=hy.w; have:=hy.h.ok.le; grind
 have hp1:=p2_pos (-1)
 have hp3:=p2_pos (H-1-p)
 have hwp0:0≤wp:=by have:=Rat.mul_nonneg hwt0 (Rat.le_of_lt hp1); grind
 unfold atanhI
 rw [if_pos (in_box (hy.h.ok.mono (Int.le_refl _) (show H ≤ -1 from hH)))]
 have hcN:=ser_lim (c:=p+20-Lq) (N:=p / 2+4) (by omega) (by omega)
 have h:=ser_w (p:=p) (by omega) (nAtanh p (mS p y y 0).1) (fun i=>od (2*i+1)*x ^ (2*i+1)) (fun i=>ahc (2*i+1)*x ^ (2*i+1)) (fun i=>psum ahc x (2*i+2)) (L0:=L) (c:=p+20-Lq) (Hh:=H) (wt:=wt) (wp:=wp) (m:=m) (w0:=wt) (by omega) (N:=p / 2+4) (fun i=>ahc_sum x i) hwp0 (by
  intro i t hiN ht
  have m1:=cmul_le (c:=p+20-Lq) (by omega) (show i+1≤p / 2+4 by omega)
  have e1:=cmul_succ (p+20-Lq) i
  have h1:=hw_mul (p:=p) ht hq (by omega) (by omega) (by omega)
  have h2:=h1.eq (y:=od (2*(i+1)+1)*x ^ (2*(i+1)+1)) (by
   rw [show 2*(i+1)+1=2*i+1+2 by omega,od_two,rpow_succ x (2*i+1+1),rpow_succ x (2*i+1)]; grind)
  have h2:=h2.mono (Int.le_refl _) (show H+Hq≤H by omega) hwt
  have h3:=hw_div_n (p:=p) (z:=ahc (2*(i+1)+1)*x ^ (2*(i+1)+1)) h2 (n:=2*(i+1)+1) (k:=10) (by omega) (by omega) (by omega) (j:=1) (by rw [show (1:Int)=((1:Nat):Int) from rfl,p2_nat]; exact natCast_le (by omega)) (by
   rw [ahc]; exact over_n _ _ _) (by omega) (by omega) (by omega)
  unfold nAtanh oddS
  rw [h2.h.e,show (iS ((2*(i+1)+1:Nat):Int) 0).2=0 from rfl]
  exact ⟨h3.h.e,(h2.mono (by omega) (by omega) Rat.le_refl).pair,(h3.mono (by omega) (by omega) hwp).pair⟩) (fun i=>hm _) (by grind) (by omega) (by omega) (p / 2+4) 0 y y (by omega)
  ((hy.mono (by omega) (by omega) (by have:((0:Nat):Rat)=0:=rfl; rw [this]; grind)).eq (by
   show x=0+ahc 0*x ^ 0+ahc 1*x ^ (0+1)
   have h1:=over_n (od 1) x 0
   rw [show ((0+1:Nat):R)=1 from rfl] at h1
   rw [rpow_succ,rpow_zero,ahc,ahc,show od 0=0 from rfl,show od 1=1 from rfl,show ((1:Nat):R)=1 from rfl]
   rw [show od 1=1 from rfl] at h1
   grind))
  ((hy.mono (by omega) (by omega) hw).eq (by
   show x=od 1*x ^ (0+1)
   rw [rpow_succ,rpow_zero,show od 1=1 from rfl]; grind))
 have hx:=box_half (in_box (hy.h.ok.mono (Int.le_refl _) (show H ≤ -1 from hH))) hy.h.m
 rw [hq.h.e]
 unfold finS
 rw [h.h.e]
 have hf1:=hf_le (show p+1≤2*(p / 2+4)+2 by omega)
 have hf2:=two_hf p
 have h5:=hw_wide (p:=p) (K:=0) (m:=m) (h.mono (L':=M) (H':=0) (by omega) (by omega) Rat.le_refl) (d:=⟨1,-(p:Int)⟩) (Okd_half (by omega) (by omega) (by omega)) (y:=An.H x) (by
  rw [val_half,p2_neg_nat]
  exact rle_trans (tail_half (over_ab rfl fun n=>(eo_ab n).1) hx _) (by grind)) (hm _) (by rw [val_half,p2_zero]; grind) (by omega) (by omega) (by omega)
 refine h5.mono (Int.le_refl _) (Int.le_refl _) ?_
 rw [val_half,show (0:Int)-(p:Int) = -(p:Int) by omega]; grind
end Go.Proofs.YtpmpcohbpankaaaGreat.Gen
namespace Go.An
def q4:Nat→Rat × Rat
 | 0=>(0,1)
 | n+1=>((q4 n).2,-(q4 n).1)
def atq (n:Nat):Rat:=(q4 n).1*(n:Rat)⁻¹
def qeo:Nat→Rat × Rat
 | 0=>(0,1)
 | n+1=>((qeo n).2,(qeo n).1)
def ahq (n:Nat):Rat:=(qeo n).1*(n:Rat)⁻¹
def qsum (a:Nat→Rat) (x:Rat):Nat→Rat
 | 0=>0
 | n+1=>qsum a x n+a n*x ^ n
theorem q4_eq (n:Nat):sg4 n=(ofQ (q4 n).1,ofQ (q4 n).2):=by
 induction n with
 | zero=>rfl
 | succ n ih=>rw [sg4,q4,ih,ofQ_neg]
theorem qeo_eq (n:Nat):eo n=(ofQ (qeo n).1,ofQ (qeo n).2):=by
 induction n with
 | zero=>rfl
 | succ n ih=>rw [eo,qeo,ih]
theorem over_q {a:R} {q:Rat} {n:Nat} (h:a=ofQ q) (h0:n=0→q=0):a*((n:Nat):R)⁻¹=ofQ (q*(n:Rat)⁻¹):=by
 cases n with
 | zero=>rw [h,h0 rfl,Rat.zero_mul]; show (0:R)*_=0; grind
 | succ n=>rw [h,ofQ_mul,ofQ_inv (by exact_mod_cast Nat.succ_ne_zero n),ofQ_nat]
theorem atc_q (n:Nat):atc n=ofQ (atq n):=over_q (by rw [sS,q4_eq]) (by rintro rfl; rfl)
theorem ahc_q (n:Nat):ahc n=ofQ (ahq n):=over_q (by rw [od,qeo_eq]) (by rintro rfl; rfl)
theorem psum_q {a:Nat→R} {b:Nat→Rat} (h:∀ n,a n=ofQ (b n)) (x:Rat) (n:Nat):psum a (ofQ x) n=ofQ (qsum b x n):=by
 induction n with
 | zero=>rfl
 | succ n ih=>rw [psum,qsum,ih,h,ofQ_add,ofQ_mul,ofQ_pow]
theorem geo_q {q:Rat} (h0:0≤q) (h1:q<1):Geo (ofQ q) (ofQ (1-q)⁻¹):=⟨ofQ_le.2 h0,ofQ_lt.2 h1,by
 rw [← ofQ_one,← ofQ_sub,← ofQ_mul,Rat.inv_mul_cancel _ (by grind)]⟩
theorem near_q {a:Nat→R} {b:Nat→Rat} (h:∀ n,a n=ofQ (b n)) (hb:∀ n,ab (a n)≤1) {q:Rat} (h0:0≤q) (h1:q<1) (n:Nat):ofQ (qsum b q n-(1-q)⁻¹*q ^ n)≤ps a (ofQ q)∧ps a (ofQ q)≤ofQ (qsum b q n+(1-q)⁻¹*q ^ n):=by
 have h2:=ps_tail (PB.one hb) (geo_q h0 h1) (x:=ofQ q) (by rw [ab_of (ofQ_le.2 h0)]; grind) n
 rw [psum_q h,← ofQ_pow] at h2
 have h3:=ab_le.1 h2
 rw [ofQ_sub,ofQ_add,ofQ_mul]
 exact ⟨by grind,by grind⟩
theorem A_q {q:Rat} (h0:0≤q) (h1:q<1) (n:Nat):ofQ (qsum atq q n-(1-q)⁻¹*q ^ n)≤A (ofQ q)∧A (ofQ q)≤ofQ (qsum atq q n+(1-q)⁻¹*q ^ n):=near_q atc_q (over_ab rfl fun n=>(sg_ab n).1) h0 h1 n
theorem H_q {q:Rat} (h0:0≤q) (h1:q<1) (n:Nat):ofQ (qsum ahq q n-(1-q)⁻¹*q ^ n)≤H (ofQ q)∧H (ofQ q)≤ofQ (qsum ahq q n+(1-q)⁻¹*q ^ n):=near_q ahc_q (over_ab rfl fun n=>(eo_ab n).1) h0 h1 n
theorem pi_q:(31415926535897932384626433832794 / 10000000000000000000000000000000:Rat)≤16*(qsum atq (1 / 5) 50-(1-1 / 5)⁻¹*(1 / 5) ^ 50)-4*(qsum atq (1 / 239) 16+(1-1 / 239)⁻¹*(1 / 239) ^ 16)∧16*(qsum atq (1 / 5) 50+(1-1 / 5)⁻¹*(1 / 5) ^ 50)-4*(qsum atq (1 / 239) 16-(1-1 / 239)⁻¹*(1 / 239) ^ 16)≤(31415926535897932384626433832796 / 10000000000000000000000000000000:Rat):=by decide +kernel
theorem ln2_q:(6931471805599453094172321214581 / 10000000000000000000000000000000:Rat)≤2*(qsum ahq (1 / 3) 74-(1-1 / 3)⁻¹*(1 / 3) ^ 74)∧2*(qsum ahq (1 / 3) 74+(1-1 / 3)⁻¹*(1 / 3) ^ 74)≤(6931471805599453094172321214583 / 10000000000000000000000000000000:Rat):=by decide +kernel
theorem pi_near:ofQ (31415926535897932384626433832794 / 10000000000000000000000000000000)≤hp+hp∧hp+hp≤ofQ (31415926535897932384626433832796 / 10000000000000000000000000000000):=by
 have a1:=A_q (q:=1 / 5) (by decide +kernel) (by decide +kernel) 50
 have a2:=A_q (q:=1 / 239) (by decide +kernel) (by decide +kernel) 16
 have h1:=ofQ_le.2 pi_q.1
 have h2:=ofQ_le.2 pi_q.2
 have e16:ofQ 16=16:=rfl
 have e4:ofQ 4=4:=rfl
 generalize qsum atq (1 / 5) 50-(1-1 / 5)⁻¹*(1 / 5) ^ 50=l1 at *
 generalize qsum atq (1 / 5) 50+(1-1 / 5)⁻¹*(1 / 5) ^ 50=u1 at *
 generalize qsum atq (1 / 239) 16-(1-1 / 239)⁻¹*(1 / 239) ^ 16=l2 at *
 generalize qsum atq (1 / 239) 16+(1-1 / 239)⁻¹*(1 / 239) ^ 16=u2 at *
 rw [ofQ_sub,ofQ_mul,ofQ_mul,e16,e4] at h1 h2
 rw [hp]
 generalize A (ofQ (1 / 5))=x at *
 generalize A (ofQ (1 / 239))=y at *
 exact ⟨by grind,by grind⟩
theorem ln2_near:ofQ (6931471805599453094172321214581 / 10000000000000000000000000000000)≤H (ofQ (1 / 3))+H (ofQ (1 / 3))∧H (ofQ (1 / 3))+H (ofQ (1 / 3))≤ofQ (6931471805599453094172321214583 / 10000000000000000000000000000000):=by
 have a1:=H_q (q:=1 / 3) (by decide +kernel) (by decide +kernel) 74
 have h1:=ofQ_le.2 ln2_q.1
 have h2:=ofQ_le.2 ln2_q.2
 have e2:ofQ 2=2:=rfl
 generalize qsum ahq (1 / 3) 74-(1-1 / 3)⁻¹*(1 / 3) ^ 74=l1 at *
 generalize qsum ahq (1 / 3) 74+(1-1 / 3)⁻¹*(1 / 3) ^ 74=u1 at *
 rw [ofQ_mul,e2] at h1 h2
 generalize H (ofQ (1 / 3))=x at *
 exact ⟨by grind,by grind⟩
theorem ln2_eq:Ln 2=H (ofQ (1 / 3))+H (ofQ (1 / 3)):=by
 have h3:ofQ (1 / 3)*3=1:=by rw [show (3:R)=ofQ 3 from rfl,← ofQ_mul,show (1 / 3:Rat)*3=1 by decide +kernel]; rfl
 have hi:=mul_inv (x:=(2:R)+1) (by have:=rzero_lt_one; grind)
 have e:(2-1)*((2:R)+1)⁻¹=ofQ (1 / 3):=by
  have:(2:R)+1=3:=by grind
  rw [this] at hi ⊢
  grind
 rw [Ln,e]
end Go.An
namespace Go.Proofs.YtpmpcohbpankaaaGreat.Gen
open Go Go.Abs Go.Plain Go.An
theorem p2_sub (a:Int) (p:Nat):p2 (a-p)=p2 a*p2 (-(p:Int)):=by rw [← p2_add]; congr 1
theorem p2_lits:p2 (-1)=1 / 2∧p2 (-2)=1 / 4∧p2 (-3)=1 / 8∧p2 (-4)=1 / 16∧p2 (-6)=1 / 64∧p2 (-7)=1 / 128∧p2 (-8)=1 / 256∧p2 (-14)=1 / 16384∧p2 (-21)=1 / 2097152:=by
 unfold p2; decide +kernel
theorem eps_le {p:Nat} (hp:8≤p):p2 (-(p:Int))≤1 / 256:=by
 rw [← p2_lits.2.2.2.2.2.2.1]; exact p2_le (by omega)
theorem pow_big {p:Nat} (hp:8≤p):2*p+26≤2 ^ (p-2):=by
 obtain ⟨k,rfl⟩:∃ k,p=k+8:=⟨p-8,by omega⟩
 clear hp
 induction k with
 | zero=>decide
 | succ k ih=>
  have:2 ^ (k+1+8-2)=2 ^ (k+8-2)*2:=by rw [← Nat.pow_succ]; congr 1
  omega
theorem eps_N {p:Nat} (hp:8≤p):(4*((p / 2+4:Nat):Rat)+10)*p2 (-(p:Int))≤1 / 4:=by
 have h1:=pow_big hp
 have h2:4*(p / 2+4)+10≤2 ^ (p-2):=by omega
 have h3:=natCast_le h2
 rw [Rat.natCast_add,Rat.natCast_mul] at h3
 have e1:((4:Nat):Rat)=4:=rfl
 have e2:((10:Nat):Rat)=10:=rfl
 rw [e1,e2] at h3
 have h4:=Rat.mul_le_mul_of_nonneg_right h3 (Rat.le_of_lt (p2_pos (-(p:Int))))
 rw [← p2_nat,← p2_add,show ((p-2:Nat):Int) + -(p:Int) = -2 by omega,p2_lits.2.1] at h4
 exact h4
theorem inv_n {n:Nat} (h:0<n):ofQ (1 / (n:Rat))*(n:R)=1:=by
 have:(n:Rat)≠0:=by exact_mod_cast Nat.pos_iff_ne_zero.1 h
 rw [← ofQ_nat,← ofQ_mul,show (1 / (n:Rat))*(n:Rat)=1 by rw [Rat.div_def,Rat.one_mul,Rat.inv_mul_cancel _ this]]; rfl
theorem rec_w {p n k:Nat} {j:Int} (hp:2≤p∧p≤400) (hk:k≤60) (h0:0<n) (hn:n≤2 ^ k) (hj:p2 j≤(n:Rat)) (hj0:0≤j):HasW (recS p (n:Int) 0) (ofQ (1 / (n:Rat))) (0-k-p-2) (-j) (2*p2 (-j-p)):=by
 have i1:HasW (iS 1 0) (1:R) 0 0 0:=hw_int (n:=1) (K:=0) (by omega) (by decide)
 have h:=hw_div_n (p:=p) i1 hk h0 hn hj (inv_n h0) (by omega) (by omega) (by omega)
 have e:recS p (n:Int) 0=dS p (iS 1 0).1 (iS (n:Int) 0).1 0:=rfl
 rw [e]
 exact h.mono (Int.le_refl _) (by omega) (by rw [show (0:Int)-j = -j by omega]; grind)
theorem HasW.low {r:I × Int} {q:Rat} {L H:Int} {w l:Rat} (h:HasW r (ofQ q) L H w) (hl:l≤q-w):l≤val r.1.lo:=by
 have h1:q≤val r.1.hi:=ofQ_le.1 h.h.m.hi
 have:=h.w
 grind
theorem one_n {p n k:Nat} {j l:Int} (hp:8≤p∧p≤200) (hk:k≤8) (h0:0<n) (hn:n≤2 ^ k) (hj:p2 j≤(n:Rat)) (hl:l = -(j+1)) (hj0:1≤j∧j≤7) (hlow:p2 l≤1 / (n:Rat)-2*(p2 (-j)*(1 / 256))) :
  HasW (recS p (n:Int) 0) (ofQ (1 / (n:Rat))) (-300) (-j) (2*(p2 (-j)*p2 (-(p:Int))))∧HasW (mS p (recS p (n:Int) 0).1 (recS p (n:Int) 0).1 0) (ofQ (1 / (n:Rat))*ofQ (1 / (n:Rat))) (l+l-p) (-j + -j) (2*(p2 (-j)*(2*(p2 (-j)*p2 (-(p:Int)))))+2*(p2 (-j + -j)*p2 (-(p:Int)))):=by
 have h:=rec_w (p:=p) (n:=n) (k:=k) (j:=j) (by omega) (by omega) h0 hn hj (by omega)
 rw [p2_sub] at h
 have he:=eps_le hp.1
 have hp0:=p2_pos (-j)
 have h1:=Rat.mul_le_mul_of_nonneg_left he (Rat.le_of_lt hp0)
 have hlo:=h.low (l:=p2 l) (by grind)
 have h2:=sq_w (p:=p) h.pair hlo (by omega) (by omega) (by omega)
 rw [p2_sub] at h2
 exact ⟨h.mono (by omega) (Int.le_refl _) Rat.le_refl,h2⟩
theorem onePi_w5 {p:Nat} (hp:8≤p∧p≤200):HasW (onePi p 5 0) (A (ofQ (1 / 5))) (-46000) 0 ((9 / 2+((p / 2+4:Nat):Rat)*(5 / 2))*p2 (-(p:Int))):=by
 have L:=p2_lits
 obtain ⟨h1,h2⟩:=one_n (p:=p) (n:=5) (k:=3) (j:=2) (l:=-3) hp (by omega) (by omega) (by omega) (by rw [show (2:Int)=((2:Nat):Int) from rfl,p2_nat]; exact natCast_le (by omega)) (by omega) (by omega) (by rw [L.2.2.1,L.2.1]; decide +kernel)
 have hpos:=p2_pos (-(p:Int))
 have hN:=eps_N hp.1
 have he:=eps_le hp.1
 generalize hed:p2 (-(p:Int))=e at *
 have hb:(p+20-(-3 + -3-(p:Int)))*((p / 2+4:Nat):Int)≤426*104:=Int.mul_le_mul (by omega) (by omega) (by omega) (by omega)
 have h:=atan_w (p:=p) (by omega) (H:=-2) (Hq:=-4) (wt:=e / 2) (wp:=e / 2) (m:=1 / 4) h1.pair h2 (by omega) (by omega) (by omega) (by omega) (by rw [L.2.1]; grind) (by rw [p2_sub,hed,show (-2:Int) + -4 = -6 from rfl,show (-2:Int) + -2 = -4 from rfl,L.2.1,L.2.2.2.1,L.2.2.2.2.1]; grind) (by rw [p2_sub,hed,show (-2:Int)-1 = -3 from rfl,L.1,L.2.2.1]; grind)
  (fun k=>by
   have q:=Su_le (a:=atc) (by rw [atc,show sS 0=0 from rfl]; grind) (over_ab rfl fun n=>(sg_ab n).1) (geo_q (q:=1 / 5) (by decide +kernel) (by decide +kernel)) (x:=ofQ (1 / 5)) (by rw [ab_of (ofQ_le.2 (by decide +kernel))]; exact rle_refl _) k
   rw [← ofQ_mul] at q
   exact rle_trans q (ofQ_le.2 (by decide +kernel)))
  (by rw [hed]; grind) (M:=-46000) (by omega) (by omega)
 rw [hed] at h
 have hA:onePi p 5 0=atanI p (recS p 5 0).1:=by
  unfold onePi atS
  have:(recS p 5 0).2=0:=h1.h.e
  rw [this,st_zero]
 rw [hA]
 exact h.mono (Int.le_refl _) (Int.le_refl _) (by grind)
theorem onePi_w239 {p:Nat} (hp:8≤p∧p≤200):HasW (onePi p 239 0) (A (ofQ (1 / 239))) (-46000) 0 ((9 / 2+((p / 2+4:Nat):Rat)*(9 / 4))*p2 (-(p:Int))):=by
 have L:=p2_lits
 obtain ⟨h1,h2⟩:=one_n (p:=p) (n:=239) (k:=8) (j:=7) (l:=-8) hp (by omega) (by omega) (by omega) (by rw [show (7:Int)=((7:Nat):Int) from rfl,p2_nat]; exact natCast_le (by omega)) (by omega) (by omega) (by rw [L.2.2.2.2.2.2.1,L.2.2.2.2.2.1]; decide +kernel)
 have hpos:=p2_pos (-(p:Int))
 have hN:=eps_N hp.1
 have he:=eps_le hp.1
 generalize hed:p2 (-(p:Int))=e at *
 have hb:(p+20-(-8 + -8-(p:Int)))*((p / 2+4:Nat):Int)≤436*104:=Int.mul_le_mul (by omega) (by omega) (by omega) (by omega)
 have h:=atan_w (p:=p) (by omega) (H:=-7) (Hq:=-14) (wt:=e / 4) (wp:=e / 4) (m:=1 / 4) h1.pair h2 (by omega) (by omega) (by omega) (by omega) (by rw [L.2.2.2.2.2.1]; grind) (by rw [p2_sub,hed,show (-7:Int) + -14 = -21 from rfl,show (-7:Int) + -7 = -14 from rfl,L.2.2.2.2.2.1,L.2.2.2.2.2.2.2.1,L.2.2.2.2.2.2.2.2]; grind) (by rw [p2_sub,hed,show (-7:Int)-1 = -8 from rfl,L.1,L.2.2.2.2.2.2.1]; grind)
  (fun k=>by
   have q:=Su_le (a:=atc) (by rw [atc,show sS 0=0 from rfl]; grind) (over_ab rfl fun n=>(sg_ab n).1) (geo_q (q:=1 / 239) (by decide +kernel) (by decide +kernel)) (x:=ofQ (1 / 239)) (by rw [ab_of (ofQ_le.2 (by decide +kernel))]; exact rle_refl _) k
   rw [← ofQ_mul] at q
   exact rle_trans q (ofQ_le.2 (by decide +kernel)))
  (by rw [hed]; grind) (M:=-46000) (by omega) (by omega)
 rw [hed] at h
 have hA:onePi p 239 0=atanI p (recS p 239 0).1:=by
  unfold onePi atS
  have:(recS p 239 0).2=0:=h1.h.e
  rw [this,st_zero]
 rw [hA]
 exact h.mono (Int.le_refl _) (Int.le_refl _) (by grind)
theorem ofQ_p2n (n:Nat):ofQ (p2 (n:Int))=((2 ^ n:Nat):R):=by rw [p2_nat]; rfl
theorem ofQ_16:ofQ (p2 4)=16:=by rw [show (4:Int)=((4:Nat):Int) from rfl,ofQ_p2n]; rfl
theorem ofQ_4:ofQ (p2 2)=4:=by rw [show (2:Int)=((2:Nat):Int) from rfl,ofQ_p2n]; rfl
theorem p2_up:p2 4=16∧p2 3=8∧p2 2=4∧p2 1=2:=by unfold p2; decide +kernel
theorem pi_abs:ab (An.hp+An.hp)≤ofQ (13 / 4):=by
 have h:=pi_near
 have h1:(0:R)≤An.hp+An.hp:=rle_trans (ofQ_le.2 (show (0:Rat)≤_ by decide +kernel)) h.1
 rw [ab_of h1]
 exact rle_trans h.2 (ofQ_le.2 (by decide +kernel))
theorem pi_w {p:Nat} (hp:8≤p∧p≤200):HasW (piS p 0) (An.hp+An.hp) (-46000) 3 ((106+((p / 2+4:Nat):Rat)*49)*p2 (-(p:Int))):=by
 have a:=onePi_w5 hp
 have b:=onePi_w239 hp
 have hpos:=p2_pos (-(p:Int))
 have hN:=eps_N hp.1
 have he:=eps_le hp.1
 have a4:=hw_scale (n:=4) a (by omega) (by omega)
 have b2:=hw_scale (n:=2) b (by omega) (by omega)
 have ea:(onePi p 5 0).2=0:=a.h.e
 have eb:(onePi p 239 0).2=0:=b.h.e
 have ea4:(scS (onePi p 5 0).1 4 0).2=0:=a4.h.e
 have eb2:(scS (onePi p 239 0).1 2 0).2=0:=b2.h.e
 have e:A (ofQ (1 / 5))*ofQ (p2 4)-A (ofQ (1 / 239))*ofQ (p2 2)=An.hp+An.hp:=by rw [ofQ_16,ofQ_4,An.hp]; grind
 rw [p2_up.1] at a4
 rw [p2_up.2.2.1] at b2
 have h:=hw_sub (p:=p) (m:=13 / 4) (K:=3) (a4.mono (L':=-46000) (H':=4) (by omega) (by omega) Rat.le_refl) (b2.mono (L':=-46000) (H':=4) (by omega) (by omega) Rat.le_refl) (by
  have q:=pi_abs
  rw [← e,p2_up.1,p2_up.2.2.1] at q
  exact q) (by rw [p2_up.2.1]; grind) (by omega) (by omega) (by omega)
 rw [p2_sub,p2_up.2.1] at h
 unfold piS
 rw [ea,eb,ea4,eb2]
 rw [p2_up.1,p2_up.2.2.1] at e
 exact (h.mono (Int.le_refl _) (Int.le_refl _) (by grind)).eq e
theorem ln2_w {p:Nat} (hp:8≤p∧p≤200):HasW (ln2S p 0) (Ln 2) (-46000) 1 ((11+((p / 2+4:Nat):Rat)*(13 / 2))*p2 (-(p:Int))):=by
 have L:=p2_lits
 obtain ⟨h1,h2⟩:=one_n (p:=p) (n:=3) (k:=2) (j:=1) (l:=-2) hp (by omega) (by omega) (by omega) (by rw [show (1:Int)=((1:Nat):Int) from rfl,p2_nat]; exact natCast_le (by omega)) (by omega) (by omega) (by rw [L.1,L.2.1]; decide +kernel)
 have hpos:=p2_pos (-(p:Int))
 have hN:=eps_N hp.1
 have he:=eps_le hp.1
 generalize hed:p2 (-(p:Int))=e at *
 have hb:(p+20-(-2 + -2-(p:Int)))*((p / 2+4:Nat):Int)≤424*104:=Int.mul_le_mul (by omega) (by omega) (by omega) (by omega)
 have h:=atanh_w (p:=p) (by omega) (H:=-1) (Hq:=-2) (wt:=3*e / 2) (wp:=5*e / 4) (m:=1 / 2) h1.pair h2 (by omega) (by omega) (by omega) (by omega) (by rw [L.1]; grind) (by rw [p2_sub,hed,show (-1:Int) + -2 = -3 from rfl,show (-1:Int) + -1 = -2 from rfl,L.1,L.2.1,L.2.2.1]; grind) (by rw [p2_sub,hed,show (-1:Int)-1 = -2 from rfl,L.1,L.2.1]; grind)
  (fun k=>by
   have q:=Su_le (a:=ahc) (by rw [ahc,show od 0=0 from rfl]; grind) (over_ab rfl fun n=>(eo_ab n).1) (geo_q (q:=1 / 3) (by decide +kernel) (by decide +kernel)) (x:=ofQ (1 / 3)) (by rw [ab_of (ofQ_le.2 (by decide +kernel))]; exact rle_refl _) k
   rw [← ofQ_mul] at q
   exact rle_trans q (ofQ_le.2 (by decide +kernel)))
  (by rw [hed]; grind) (M:=-46000) (by omega) (by omega)
 rw [hed] at h
 have hr:(recS p 3 0).2=0:=h1.h.e
 have h':HasW (ahS p (recS p 3 0).1 0) (An.H (ofQ (1 / 3))) (-46000) 0 (3*e / 2+((p / 2+4:Nat):Rat)*(5*e / 4+2*e)+4*e):=by
  unfold ahS; rw [st_zero]; exact h
 have h3:=hw_scale (n:=1) h' (by omega) (by omega)
 have e3:(ahS p (recS p 3 0).1 0).2=0:=h'.h.e
 unfold ln2S
 rw [hr,e3]
 refine (h3.mono (by omega) (by omega) ?_).eq (by rw [ln2_eq]; exact p2_int1 1 _)
 rw [p2_up.2.2.2]; grind
theorem N_le {p:Nat} (hp:p≤200):((p / 2+4:Nat):Rat)≤104:=natCast_le (b:=104) (by omega)
theorem zint_Mul_eq {x y:Int} (hx:SZ x.natAbs) (hy:SZ y.natAbs) (hs:SZ (x.natAbs*y.natAbs)):zint_Mul (iOf x) (iOf y)=some (iOf (x*y)):=by
 have h1:=sz_len hx
 have h2:=sz_len hy
 unfold zint_Mul
 rw [zint_of_iOf hx,zint_of_iOf hy]
 simp only [obn]
 rw [nat_Mul_eq (dgd _) (dgd _) (by omega) (by omega),dvd,dvd]
 simp only [obn]
 rw [zint_Make_digs _ hs]
 simp only [obn]
 rw [neg_xor]
theorem SZ_of {n:Nat} (h:n<2 ^ 110):SZ n:=by have:=blen_le_of h; unfold SZ; omega
theorem known_eq {a b:Int} (ha:0≤a∧a≤10000000000000000) (hb:0≤b∧b≤10000000000000000):l08_known [a,b] (iOf 1000000000000000)=some (iOf (a*1000000000000000+b)):=by
 have h1:a.natAbs*1000000000000000≤10000000000000000*1000000000000000:=Nat.mul_le_mul_right _ (by omega)
 have e1:(a*1000000000000000).natAbs=a.natAbs*1000000000000000:=by rw [Int.natAbs_mul]; rfl
 unfold l08_known
 rw [if_pos (by simp)]
 simp only [List.getD_cons_zero,List.getD_cons_succ]
 rw [zint_From_eq (by omega)]
 simp only [obn]
 rw [zint_Mul_eq (SZ_of (by omega)) (SZ_of (by decide)) (SZ_of (by show a.natAbs*1000000000000000<_; omega))]
 simp only [obn]
 rw [if_pos (by simp),zint_From_eq (by omega)]
 simp only [obn]
 rw [zint_Add_eq (SZ_of (by omega)) (SZ_of (by omega)) (SZ_of (by omega))]
 simp only [obn]
theorem make_at {n:Nat} (h:n<2 ^ 102):∃ d,dyad_Make (iOf (n:Int)) 0=some (dy d,true)∧Okd d 0 102∧val d=(n:Rat):=by
 obtain ⟨d,h1,h2,h3⟩:=make_val (m:=(n:Int)) (e:=0) (k:=102) (by simp; exact blen_le_of h) (by omega)
 refine ⟨d,?_,h2.mono (by omega) (by omega),by rw [h3,p2_zero,Rat.mul_one]; exact Rat.intCast_natCast n⟩
 rw [dyad_Make_eq (SZ_of (by simp; omega)) (by omega),h1]
theorem lies_eq {p:Nat} (hp:120≤p∧p≤200) {a:I} {x:R} {w:Rat} (ha:HasW (a,0) x (-46000) 3 w) {lo hi:Rat} (hl:ofQ lo≤x) (hh:x≤ofQ hi) {n:Nat} (hn:n<2 ^ 102-1) (h1:(n:Rat)≤lo*1000000000000000000000000000000-2*p2 100*w-1 / 100) (h2:hi*1000000000000000000000000000000+2*p2 100*w+1 / 100≤(n:Rat)+1):l08_lies (iv a) (iOf (n:Int)) (iOf 1000000000000000000000000000000) 0 (p:Int)=some (true,0):=by
 have hpp:2≤p∧p≤400:=by omega
 obtain ⟨t,et,ot,vt⟩:=make_at (n:=1000000000000000000000000000000) (by decide)
 obtain ⟨d,ed,od,vd⟩:=make_at (n:=n) (by omega)
 obtain ⟨f,ef,of',vf⟩:=make_at (n:=n+1) (by omega)
 have ht:=hw_point ot
 obtain ⟨e1,h3⟩:=sPoint ot p
 have ot':Okd t 0 100:=by
  refine ⟨ot.w,ot.g,?_⟩
  rw [vt]
  have e:(1000000000000000000000000000000:Rat)≤p2 100:=by unfold p2; decide +kernel
  have e0:((1000000000000000000000000000000:Nat):Rat)=1000000000000000000000000000000:=rfl
  rw [e0]
  exact ⟨by grind,e⟩
 have hm:=hw_mul (p:=p) ha (hw_point ot') (by omega) (by omega) (by omega)
 have em:cv_Mul (iv a) (iv ⟨t,t⟩) 0 (p:Int)=some (iv (mS p a ⟨t,t⟩ 0).1,0):=by
  have hm2:(mS p a ⟨t,t⟩ 0).2=0:=hm.h.e
  rw [ivMul_eq ha.h.ok.ok (okI_point ot.w) hpp]
  show some (iv (mS p a ⟨t,t⟩ 0).1,(mS p a ⟨t,t⟩ 0).2)=_
  rw [hm2]
 have hm':HasW (mS p a ⟨t,t⟩ 0) (x*ofQ (val t)) (-46000+0) (3+100) (p2 3*0+p2 100*w+2*p2 (3+100-p)):=hm
 have e10:val t=1000000000000000000000000000000:=by rw [vt]; rfl
 rw [e10] at hm'
 have hw0:0≤w:=by have:=ha.w; have:=ha.h.ok.le; grind
 have hp100:=p2_pos 100
 have hpw:=Rat.mul_nonneg (Rat.le_of_lt hp100) hw0
 have hr:p2 (3+100-p)≤1 / 1000:=by
  have q1:=p2_le (show (3+100-(p:Int)) ≤ -17 by omega)
  have q2:p2 (-17)≤1 / 1000:=by unfold p2; decide +kernel
  grind
 have b:=hm'.w
 have ml:=hm'.h.m.lo
 have mh:=hm'.h.m.hi
 have p10:(0:R)≤ofQ 1000000000000000000000000000000:=ofQ_le.2 (by decide +kernel)
 have xl:lo*1000000000000000000000000000000≤val (mS p a ⟨t,t⟩ 0).1.hi:=ofQ_le.1 (by rw [ofQ_mul]; exact rle_trans (rmul_le hl p10) mh)
 have xh:val (mS p a ⟨t,t⟩ 0).1.lo≤hi*1000000000000000000000000000000:=ofQ_le.1 (by rw [ofQ_mul]; exact rle_trans ml (rmul_le hh p10))
 have c1:((n+1:Nat):Rat)=(n:Rat)+1:=by rw [Rat.natCast_add]; rfl
 have hin:=iv_in_true (a:=(mS p a ⟨t,t⟩ 0).1) (b:=⟨d,f⟩) hm'.h.ok.ok ⟨od.w,of'.w,by show val d≤val f; rw [vd,vf,c1]; grind⟩ (by show val d≤_; rw [vd]; grind) (by show _≤val f; rw [vf,c1]; grind)
 unfold l08_lies l08_lies_j1
 have et':dyad_Make (iOf 1000000000000000000000000000000) 0=some (dy t,true):=et
 rw [et']
 simp only [obn]
 rw [ed]
 simp only [obn]
 rw [zint_From_eq (by omega)]
 simp only [obn]
 rw [zint_Add_eq (SZ_of (by simp; omega)) (SZ_of (by decide)) (SZ_of (by simp; omega))]
 simp only [obn]
 have ef':dyad_Make (iOf ((n:Int)+1)) 0=some (dy f,true):=ef
 rw [ef']
 simp only [obn]
 rw [e1]
 simp only [obn]
 rw [em]
 simp only [obn]
 rw [if_pos True.intro,if_pos True.intro,if_pos True.intro]
 have hin':iv_In (iv (mS p a ⟨t,t⟩ 0).1) (⟨dy d,dy f⟩:AI)=some true:=hin
 rw [hin']
 rfl
theorem KonstKnown_true (a0:Int) (g0:(Lit.int .i64 a0).wf=true):l08_KonstKnown a0=some true:=by
 have w0:=wf_i64 g0
 have key:∀ n:Nat,l08_KonstKnown_j1 true (n:Int)=some true:=by
  intro n
  obtain ⟨p,ep,hp⟩:∃ p:Nat,IntKind.i64.wrap (120+((n:Int).tmod 81))=(p:Int)∧120≤p∧p≤200:=by
   rw [show (81:Int)=((81:Nat):Int) by rfl,tmodn,w64 (by omega) (by omega)]
   exact ⟨120+n % 81,by omega,by omega,by omega⟩
  obtain ⟨q,eq,hq⟩:∃ p:Nat,IntKind.i64.wrap (8+((n:Int).tmod 193))=(p:Int)∧8≤p∧p≤200:=by
   rw [show (193:Int)=((193:Nat):Int) by rfl,tmodn,w64 (by omega) (by omega)]
   exact ⟨8+n % 193,by omega,by omega,by omega⟩
  have hpp:2≤p∧p≤400:=by omega
  have hqq:2≤q∧q≤400:=by omega
  have hpi:=pi_w (p:=p) (by omega)
  have hln:=ln2_w (p:=p) (by omega)
  have hpi':=pi_w (p:=q) (by omega)
  have hln':=ln2_w (p:=q) (by omega)
  have epi:konst_Pi 0 (p:Int)=some (iv (piS p 0).1,0):=by rw [Pi_eq hpp,hpi.h.e]
  have eln:konst_Ln2 0 (p:Int)=some (iv (ln2S p 0).1,0):=by rw [Ln2_eq hpp,hln.h.e]
  have epi':konst_Pi 0 (q:Int)=some (iv (piS q 0).1,0):=by rw [Pi_eq hqq,hpi'.h.e]
  have eln':konst_Ln2 0 (q:Int)=some (iv (ln2S q 0).1,0):=by rw [Ln2_eq hqq,hln'.h.e]
  obtain ⟨c,ec⟩:=sMeet hpi'.h.pair hpi.h.pair q
  obtain ⟨d,ed⟩:=sMeet hln'.h.pair hln.h.pair q
  have hpos:=p2_pos (-(p:Int))
  have hNe:=Rat.mul_le_mul_of_nonneg_right (N_le hp.2) (Rat.le_of_lt hpos)
  have he:p2 100*p2 (-(p:Int))≤1 / 1000000:=by
   rw [← p2_add]
   have q1:=p2_le (show (100 + -(p:Int)) ≤ -20 by omega)
   have q2:p2 (-20)≤1 / 1000000:=by unfold p2; decide +kernel
   grind
  have w1:=hpi.mono (Int.le_refl _) (Int.le_refl _) (w':=5202*p2 (-(p:Int))) (by grind)
  have w2:=hln.mono (Int.le_refl _) (show (1:Int)≤3 by omega) (w':=5202*p2 (-(p:Int))) (by grind)
  have pl:=pi_near
  have ll:=ln2_near
  rw [← ln2_eq] at ll
  have l1:=lies_eq hp w1.pair pl.1 pl.2 (n:=3141592653589793238462643383279) (by decide) (by
   have e1:((3141592653589793238462643383279:Nat):Rat)=3141592653589793238462643383279:=rfl
   have e2:(31415926535897932384626433832794 / 10000000000000000000000000000000:Rat)*1000000000000000000000000000000=3141592653589793238462643383279+2 / 5:=by decide +kernel
   rw [e1,e2]; grind) (by
   have e1:((3141592653589793238462643383279:Nat):Rat)=3141592653589793238462643383279:=rfl
   have e2:(31415926535897932384626433832796 / 10000000000000000000000000000000:Rat)*1000000000000000000000000000000=3141592653589793238462643383279+3 / 5:=by decide +kernel
   rw [e1,e2]; grind)
  have l2:=lies_eq hp w2.pair ll.1 ll.2 (n:=693147180559945309417232121458) (by decide) (by
   have e1:((693147180559945309417232121458:Nat):Rat)=693147180559945309417232121458:=rfl
   have e2:(6931471805599453094172321214581 / 10000000000000000000000000000000:Rat)*1000000000000000000000000000000=693147180559945309417232121458+1 / 10:=by decide +kernel
   rw [e1,e2]; grind) (by
   have e1:((693147180559945309417232121458:Nat):Rat)=693147180559945309417232121458:=rfl
   have e2:(6931471805599453094172321214583 / 10000000000000000000000000000000:Rat)*1000000000000000000000000000000=693147180559945309417232121458+3 / 10:=by decide +kernel
   rw [e1,e2]; grind)
  have k1:=known_eq (a:=3141592653589793) (b:=238462643383279) (by omega) (by omega)
  have k2:=known_eq (a:=693147180559945) (b:=309417232121458) (by omega) (by omega)
  rw [show (3141592653589793:Int)*1000000000000000+238462643383279=((3141592653589793238462643383279:Nat):Int) by decide] at k1
  rw [show (693147180559945:Int)*1000000000000000+309417232121458=((693147180559945309417232121458:Nat):Int) by decide] at k2
  unfold l08_KonstKnown_j1 l08_KonstKnown_j2 l08_KonstKnown_j3
  rw [ep,ivNew_eq hpp]
  simp only [obn]
  rw [eq,ivNew_eq hqq]
  simp only [obn]
  rw [if_neg (by simp),if_neg (by simp),zint_From_eq (by omega)]
  simp only [obn]
  rw [zint_Mul_eq (SZ_of (by decide)) (SZ_of (by decide)) (SZ_of (by decide))]
  simp only [obn]
  rw [epi]
  simp only [obn]
  rw [eln]
  simp only [obn]
  rw [k1]
  simp only [obn]
  rw [show (1000000000000000:Int)*1000000000000000=1000000000000000000000000000000 by decide,l1]
  simp only [obn]
  rw [k2]
  simp only [obn]
  rw [l2]
  simp only [obn]
  rw [epi']
  simp only [obn]
  rw [ec]
  simp only [obn]
  rw [eln']
  simp only [obn]
  rw [ed]
  simp only [obn]
  unfold iv_trouble_Err
  simp only [obn]
  rw [if_pos True.intro,if_pos True.intro,if_pos True.intro,if_pos True.intro]
  rfl
 unfold l08_KonstKnown
 rw [examples08]
 simp only [obn]
 rw [if_neg (by simp)]
 by_cases h0:a0<0
 ·rw [if_pos h0,wrap_low a0 (by omega)]
  exact key _
 ·rw [if_neg h0]
  have:=key a0.toNat
  rwa [Int.toNat_of_nonneg (by omega)] at this
end Go.Proofs.YtpmpcohbpankaaaGreat.Gen
