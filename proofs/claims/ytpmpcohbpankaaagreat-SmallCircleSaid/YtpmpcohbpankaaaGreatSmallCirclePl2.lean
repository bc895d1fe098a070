/- Plain theory of the numbers that the statement speaks of: printed from the proofs' own texts, as far as this statement needs it. -/
import Derived.Test.YtpmpcohbpankaaaGreatSmallCirclePl1
namespace Go.Proofs.YtpmpcohbpankaaaGreat.Gen
open Go Go.Abs Go.Plain Go.An
theorem cos_has {p:Nat} (hp:2≤p∧p≤400) {y:I} {x:R} {L:Int} (hy:OkI y L 0) (hm:Mem y x) (hi:inI y (box 0)=true) (hL0:L≤0) {M:Int} (hM:M≤L-(p+20-2*L)*(p / 2+4:Nat)) (hM' : -60000≤M):Has (cosI p y) (C x) M 700:=by
 have hy':Has (y,0) x L 0:=⟨rfl,hy,hm⟩
 unfold cosI
 rw [if_pos hi]
 have hcN:=ser_lim (c:=p+20-2*L) (N:=p / 2+4) (by omega) (by omega)
 have hq:=has_mul (p:=p) hy' hy' (by omega) (by omega) (by omega)
 have i1:Has (intI 1,0) (1:R) 0 0:=has_int (n:=1) (K:=0) (by omega) (by decide)
 have e0:cco 0*x ^ 0=1:=by rw [rpow_zero,cco,show sC 0=1 from rfl,show rf 0=1 from rfl]; grind
 have h:=ser_has (p:=p) (by omega) (nCos p (mS p y y 0).1) (fun i=>cco (2*i)*x ^ (2*i)) (fun i=>cco (2*i)*x ^ (2*i)) (fun i=>psum cco x (2*i+1)) (L0:=L) (H0:=0) (c:=p+20-2*L) (d:=2) (N:=p / 2+4) (by omega) (by omega) (fun i=>cc_sum x i) (by
  intro i t hiN ht
  have m1:=cmul_le (c:=p+20-2*L) (by omega) (show i+1≤p / 2+4 by omega)
  have e1:=cmul_succ (p+20-2*L) i
  have en:(2*(i+1)-1)*2*(i+1)=(2*i+1)*(2*i+2):=by rw [show 2*(i+1)-1=2*i+1 by omega,Nat.mul_assoc,show 2*(i+1)=2*i+2 by omega]
  have hb:(2*(i+1)-1)*2*(i+1)≤2 ^ 18:=by
   have:(2*i+1)*(2*i+2)≤407*408:=Nat.mul_le_mul (by omega) (by omega)
   omega
  have h4:=has_turn (p:=p) ht hq (n:=(2*(i+1)-1)*2*(i+1)) (k:=18) (by omega) (by rw [en]; exact Nat.mul_pos (by omega) (by omega)) hb (by rw [en]; exact cc_two x (2*i)) (by omega) (by omega) (by omega)
  have h5:Has (turnS p t (mS p y y 0).1 (((2*(i+1)-1)*2*(i+1):Nat):Int) 0) (cco (2*(i+1))*x ^ (2*(i+1))) (L-(p+20-2*L)*(i+1:Nat)) (0+2*(i+1:Nat)):=h4.mono (by omega) (by omega)
  exact ⟨h5.e,h5.pair,h5.pair⟩) (by omega) (by omega) (p / 2+4) 0 (intI 1) (intI 1) (by omega)
  ((i1.mono (by omega) (by omega)).eq (by
   show 1=0+cco 0*x ^ 0
   rw [e0]; grind))
  ((i1.mono (by omega) (by omega)).eq e0.symm)
 have hq0:(mS p y y 0).2=0:=hq.e
 rw [hq0]
 refine (fin_has (p:=p) (by omega) (h.mono (L':=M) (H':=699) (by omega) (by omega)) (rle_trans (tail_two cc_ab (box_one hi hm) _) ?_) hM' (by omega) (by omega))
 have h1:=hf_le (show p+2≤2*(p / 2+4)+1 by omega)
 have:=four_hf p
 grind
theorem make_val {m e:Int} {k:Nat} (hm:blen m.natAbs≤k) (he : -60000≤e∧e+k≤60000):∃ d,makeD m e=(d,true)∧Okd d e (e+k)∧val d=(m:Rat)*p2 e:=by
 have hv:=val_nrm m e
 have hg:G e (val (nrm m e)):=by rw [hv]; exact G.of (Int.le_refl _)
 have hb:B (e+k) (val (nrm m e)):=by
  rw [hv]
  have h1:=blen_lt m.natAbs
  have h2:m.natAbs≤2 ^ k:=by
   have:2 ^ blen m.natAbs≤2 ^ k:=Nat.pow_le_pow_right (by decide) hm
   omega
  have h3:=rep_bound h2 e
  have hp:=p2_pos e
  have h5:(m:Rat)≤(m.natAbs:Rat)∧-(m.natAbs:Rat)≤(m:Rat):=by
   have e1:=intCast_le (show m≤(m.natAbs:Int) by omega)
   have e2:=intCast_le (show -(m.natAbs:Int)≤m by omega)
   rw [Rat.intCast_natCast] at e1
   rw [Rat.intCast_neg,Rat.intCast_natCast] at e2
   exact ⟨e1,e2⟩
  have h6:=Rat.mul_le_mul_of_nonneg_right h5.1 (Rat.le_of_lt hp)
  have h7:=Rat.mul_le_mul_of_nonneg_right h5.2 (Rat.le_of_lt hp)
  unfold B
  grind
 obtain ⟨-,h2⟩:=told_ok (d:=nrm m e) (nrm_ok _ _) hg hb (by omega) (by omega)
 refine ⟨nrm m e,?_,h2,hv⟩
 unfold makeD
 rw [if_pos (inR_of (nrm_ok _ _) hg hb (by omega) (by omega))]
theorem mag_two {x:AD} (hx:gAD x) (k:Nat):blen (sg x.M.Neg (dval (x.M.Mag.take (min x.M.Mag.length k)))).natAbs≤32*k:=by
 rw [sg_abs']
 have:=blen_of_len (dig_take (g_dig hx) (min x.M.Mag.length k))
 rw [List.length_take] at this
 have h2:32*min (min x.M.Mag.length k) x.M.Mag.length≤32*k:=Nat.mul_le_mul_left _ (by omega)
 omega
theorem mag_mn {x:AD} (hx:gAD x) {k:Nat} : mn (x.M.Mag.length:Int) (k:Int)=((min x.M.Mag.length k:Nat):Int):=by unfold mn; split<;>omega
theorem tame07_eq {x:AD} (hx:gAD x) {up:Int} (hu : -1000≤up∧up≤1000):∃ d,l07_tame x 2 up=some (dy d)∧Okd d (up-64) up:=by
 have hd:=g_dig hx
 have hb:=mag_two hx 2
 obtain ⟨d,h1,h2,-⟩:=make_val (k:=64) hb (e:=up-64) (by omega)
 refine ⟨d,?_,h2.mono (Int.le_refl _) (by omega)⟩
 unfold l07_tame
 have hm:=mag_mn hx (k:=2)
 rw [show ((2:Nat):Int)=2 by rfl] at hm
 rw [hm,if_pos (by omega),Int.toNat_natCast,rMake_eq (dig_take hd _) (by rw [List.length_take]; omega)]
 simp only [obn]
 rw [w64 (x:=(-32)*2) (by omega) (by omega),w64 (by omega) (by omega),show (-32)*2+up=up-64 by omega,rMake5_eq (by unfold SZ; omega) (by omega),h1]
 rfl
theorem prec07_eq {a:Int} (h : -9223372036854775808≤a∧a≤9223372036854775807):∃ p:Nat,l07_prec a=some (p:Int)∧8≤p∧p≤60:=by
 unfold l07_prec l07_prec_j1
 have key:∀ n:Nat,∃ p:Nat,(some (IntKind.i64.wrap (8+((n:Int).tmod 53))):Option Int)=some (p:Int)∧8≤p∧p≤60:=by
  intro n
  rw [show (53:Int)=((53:Nat):Int) by rfl,tmodn,w64 (by omega) (by omega)]
  exact ⟨8+n % 53,by congr 1,by omega,by omega⟩
 by_cases h0:a<0
 ·rw [if_pos h0,wrap_low a (by omega)]
  exact key _
 ·rw [if_neg h0]
  have:=key a.toNat
  rwa [Int.toNat_of_nonneg (by omega)] at this
theorem sPoint {x:D} {L H:Int} (h:Okd x L H) (p:Int):cv_Point (dy x) 0 p=some (iv ⟨x,x⟩,0)∧Has (⟨x,x⟩,0) (ofQ (val x)) L H:=⟨by rw [ivPoint_eq h.w,st_zero],has_point h⟩
theorem sNeg {a:I} {x:R} {L H:Int} (h:Has (a,0) x L H) (p:Int):cv_Neg (iv a) 0 p=some (iv (negI a),0)∧Has (negI a,0) (-x) L H:=⟨by rw [ivNeg_eq h.ok.ok,st_zero],has_neg h⟩
theorem s_of {f:Option (AI × Int)} {r:I × Int} {x:R} {L H:Int} (e:f=some (iv r.1,r.2)) (h:Has r x L H):∃ c,f=some (iv c,0)∧Has (c,0) x L H:=⟨r.1,by rw [e,h.e],h.pair⟩
theorem sAdd {a b:I} {x y:R} {L H:Int} (ha:Has (a,0) x L H) (hb:Has (b,0) y L H) {p:Nat} (hp:2≤p∧p≤400) (hL : -60000≤L) (hH:H+1≤60000):∃ c,cv_Add (iv a) (iv b) 0 (p:Int)=some (iv c,0)∧Has (c,0) (x+y) L (H+1):=
 s_of (ivAdd_eq ha.ok.ok hb.ok.ok hp 0) (has_add ha hb (by omega) hL hH)
theorem sMul {a b:I} {x y:R} {L H M K:Int} (ha:Has (a,0) x L H) (hb:Has (b,0) y M K) {p:Nat} (hp:2≤p∧p≤400) (hL : -60000≤L+M) (hH:H+K≤60000):∃ c,cv_Mul (iv a) (iv b) 0 (p:Int)=some (iv c,0)∧Has (c,0) (x*y) (L+M) (H+K):=
 s_of (ivMul_eq ha.ok.ok hb.ok.ok hp 0) (has_mul ha hb (by omega) hL hH)
theorem sHas {a:I} {x:R} {L H:Int} (ha:Has (a,0) x L H) {d:D} (hd:WD d) (e:ofQ (val d)=x):iv_Has (iv a) (dy d)=some true:=by
 have:hasI a d=true:=has_mem (by rw [e]; exact ha.m)
 rw [ivHas_eq ha.ok.ok hd,this]
theorem in_box {y:I} {L k:Int} (h:OkI y L k):inI y (box k)=true:=by
 refine inI_true ?_ ?_ h.le
 ·show val (negD ⟨1,k⟩)≤val y.lo
  rw [val_neg,val_half]; exact h.lo.b.1
 ·show val y.hi≤val ⟨1,k⟩
  rw [val_half]; exact h.hi.b.2
theorem one_val:ofQ (val (fromD 1))=1:=by rw [val_from]; rfl
theorem SI_of {a:I} {L H:Int} (h:OkI a L H) (hd:H+1-L≤1000):SI a:=by
 have k:∀ {d:D},Okd d L H→blen d.m.natAbs≤1000:=by
  intro d h
  by_cases h0:d.m=0
  ·rw [h0]; simp [blen]
  ·have h1:=G_e h.w.odd0 h0 h.g
   have h2:=B_size h0 h.b
   omega
 exact ⟨h.ok,k h.lo,k h.hi⟩
theorem nat_lt_of_cast {a b:Nat} (h:(a:Rat)<(b:Rat)):a<b:=by exact_mod_cast h
theorem rmul_lt_iff {a b p:Rat} (hp:0<p):a*p<b*p↔a<b:=by
 have h:=@mul_le_iff b a p hp
 constructor
 ·intro k; have:¬b*p≤a*p:=by grind
  rw [h] at this; grind
 ·intro k; have:¬b≤a:=by grind
  rw [← h] at this; grind
theorem cut_best {m p:Nat} {st:Bool} (hp:1≤p) (hb:p<blen m) {E:Int} {Q:Rat} (h1:(m:Rat)*p2 E≤Q) (h2:st=false→Q≤(m:Rat)*p2 E) (h3:Q<((m+1:Nat):Rat)*p2 E) (h4:st=true→(m:Rat)*p2 E<Q) :
  (∀ q,rep p q→q≤Q→q≤((cutN m st p false:Nat):Rat)*p2 (E+(blen m-p:Nat)))∧(∀ q,rep p q→Q≤q→((cutN m st p true:Nat):Rat)*p2 (E+(blen m-p:Nat))≤q):=by
 have hn:0<blen m-p:=by omega
 have hge:=cutN_ge m st p false hn
 generalize hnd:blen m-p=n at *
 have hM0:m≠0:=by intro h0; rw [h0,blen_zero] at hb; omega
 have hMge:=blen_le hM0
 have hbl:blen m=n+p:=by omega
 rw [hbl] at hMge
 have hp2:0<2 ^ n:=Nat.pow_pos (by decide)
 have hmpos:(0:Rat)<(m:Rat)*p2 E:=Rat.mul_pos (by exact_mod_cast (Nat.pos_of_ne_zero hM0)) (p2_pos E)
 constructor
 ·rintro q ⟨w,f,rfl,hw⟩ hq
  have hwb:=rep_bound hw f
  have hnn:(0:Rat)≤((cutN m st p false:Nat):Rat)*p2 (E+(n:Nat)):=Rat.mul_nonneg (natCast_nonneg _) (Rat.le_of_lt (p2_pos _))
  rcases (show w≤0∨0<w by omega) with k1 | k1
  ·have k2:(w:Rat)≤0:=by exact_mod_cast k1
   have k3:=Rat.mul_nonneg (show (0:Rat) ≤ -(w:Rat) by grind) (Rat.le_of_lt (p2_pos f))
   grind
  ·obtain ⟨v,rfl⟩:∃ v:Nat,w=(v:Int):=⟨w.natAbs,by omega⟩
   rw [Int.natAbs_natCast] at hwb hw
   rw [Rat.intCast_natCast] at hq ⊢
   by_cases hf:E+(n:Nat)≤f
   ·obtain ⟨k,hk⟩:∃ k:Nat,f=E+(n:Nat)+(k:Nat):=⟨(f-(E+(n:Nat))).toNat,by omega⟩
    have hq':(v:Rat)*p2 f<((m+1:Nat):Rat)*p2 E:=by grind
    rw [hk,p2_split _ k,← Rat.mul_assoc,mul_le_iff (p2_pos _),← Rat.natCast_mul]
    rw [hk,p2_split _ k,p2_split _ n,← Rat.mul_assoc,← Rat.mul_assoc,rmul_lt_iff (p2_pos _),← Rat.natCast_mul,← Rat.natCast_mul] at hq'
    have k2:=nat_lt_of_cast hq'
    apply natCast_le
    unfold cutN
    rw [hnd]
    simp only [Bool.and_false,Bool.false_eq_true,if_false,Nat.add_zero]
    rw [Nat.le_div_iff_mul_le (Nat.pow_pos (by decide))]
    omega
   ·have k3:2 ^ (p-1)≤cutN m st p false:=by
     rcases hge with k3 | k3
     ·exact k3
     ·omega
    have k4:=natCast_le k3
    have k5:=Rat.mul_le_mul_of_nonneg_right k4 (Rat.le_of_lt (p2_pos (E+(n:Nat))))
    rw [← p2_split] at k5
    have:=p2_le (show f+(p:Nat)≤E+(n:Nat)+((p-1:Nat):Int) by omega)
    grind
 ·rintro q ⟨w,f,rfl,hw⟩ hq
  have hwb:=rep_bound hw f
  have hw0:0<w:=by
   rcases (show w≤0∨0<w by omega) with k1 | k1
   ·have k2:(w:Rat)≤0:=by exact_mod_cast k1
    have k3:=Rat.mul_nonneg (show (0:Rat) ≤ -(w:Rat) by grind) (Rat.le_of_lt (p2_pos f))
    grind
   ·exact k1
  obtain ⟨v,rfl⟩:∃ v:Nat,w=(v:Int):=⟨w.natAbs,by omega⟩
  rw [Int.natAbs_natCast] at hwb hw
  rw [Rat.intCast_natCast] at hq ⊢
  have k3:=Nat.div_add_mod m (2 ^ n)
  have k4:=Nat.mod_lt m hp2
  by_cases hf:E+(n:Nat)≤f
  ·obtain ⟨k,hk⟩:∃ k:Nat,f=E+(n:Nat)+(k:Nat):=⟨(f-(E+(n:Nat))).toNat,by omega⟩
   have e1:(v:Rat)*p2 f=((v*2 ^ k*2 ^ n:Nat):Rat)*p2 E:=by
    rw [hk,p2_split _ k,p2_split _ n,← Rat.mul_assoc,← Rat.mul_assoc,← Rat.natCast_mul,← Rat.natCast_mul]
   have hc:cutN m st p true≤v*2 ^ k:=by
    have hle:(m:Rat)*p2 E≤((v*2 ^ k*2 ^ n:Nat):Rat)*p2 E:=by grind
    rw [mul_le_iff (p2_pos E)] at hle
    have hle:=nat_le_of_cast hle
    unfold cutN
    rw [hnd]
    simp only [Bool.and_true]
    have far:m<v*2 ^ k*2 ^ n→m / 2 ^ n+1≤v*2 ^ k:=by
     intro hlt
     have h5:m / 2 ^ n*2 ^ n<v*2 ^ k*2 ^ n:=by rw [Nat.mul_comm (m / 2 ^ n)]; omega
     exact Nat.lt_of_mul_lt_mul_right h5
    cases st with
    | true=>
     simp only [Bool.true_or,if_true]
     have hlt:(m:Rat)*p2 E<((v*2 ^ k*2 ^ n:Nat):Rat)*p2 E:=by have:=h4 rfl; grind
     rw [rmul_lt_iff (p2_pos E)] at hlt
     exact far (nat_lt_of_cast hlt)
    | false=>
     by_cases hr:m % 2 ^ n=0
     ·simp only [hr,bne_self_eq_false,Bool.or_false,Bool.false_eq_true,if_false,Nat.add_zero]
      have h6:m / 2 ^ n*2 ^ n≤v*2 ^ k*2 ^ n:=by rw [Nat.mul_comm (m / 2 ^ n)]; omega
      exact Nat.le_of_mul_le_mul_right h6 hp2
     ·have:(m % 2 ^ n != 0)=true:=by simpa using hr
      rw [this,Bool.false_or,if_pos rfl]
      refine far ?_
      rcases Nat.lt_or_ge m (v*2 ^ k*2 ^ n) with h7 | h7
      ·exact h7
      ·exfalso; apply hr
       have:m=v*2 ^ k*2 ^ n:=by omega
       rw [this]; exact Nat.mul_mod_left _ _
   have hc':=Rat.mul_le_mul_of_nonneg_right (natCast_le hc) (Rat.le_of_lt (p2_pos (E+(n:Nat))))
   have e2:((v*2 ^ k:Nat):Rat)*p2 (E+(n:Nat))=(v:Rat)*p2 f:=by rw [hk,p2_split _ k,Rat.natCast_mul]; grind
   grind
  ·have h5:(m:Rat)*p2 E≤p2 (E+((n+p-1:Nat):Int)):=by
    have:=p2_le (show f+(p:Nat)≤E+((n+p-1:Nat):Int) by omega)
    grind
   have h7:p2 (E+((n+p-1:Nat):Int))≤(m:Rat)*p2 E:=by
    rw [p2_split,mul_le_iff (p2_pos E)]; exact natCast_le (by omega)
   have hst:st=false:=by
    cases st with
    | false=>rfl
    | true=>
     exfalso
     have:=h4 rfl
     have:=p2_le (show f+(p:Nat)≤E+((n+p-1:Nat):Int) by omega)
     grind
   rw [p2_split,mul_le_iff (p2_pos _)] at h5
   have h6:=nat_le_of_cast h5
   have hMe:m=2 ^ (n+p-1):=by omega
   have hMd:m=2 ^ n*2 ^ (p-1):=by rw [hMe,← Nat.pow_add]; congr 1; omega
   have hc:cutN m st p true*2 ^ n=m:=by
    unfold cutN
    rw [hnd,hMd,Nat.mul_mod_right,Nat.mul_div_cancel_left _ hp2,hst]
    simp [Nat.mul_comm]
   rw [p2_split,← Rat.mul_assoc,← Rat.natCast_mul,hc]
   grind
theorem val_quo {x y:D} (hy0:y.m≠0) {k:Nat} : val x / val y=sg (decide (x.m<0) != decide (y.m<0)) 1*(((x.m.natAbs*2 ^ k:Nat):Rat) / (y.m.natAbs:Rat)*p2 (x.e-y.e-k)):=by
 have hv0:val y≠0:=fun h=>hy0 ((val_zero_iff y).1 h)
 have hYp:(0:Rat)<(y.m.natAbs:Rat):=by exact_mod_cast (show 0<y.m.natAbs by omega)
 have hvx:((x.m.natAbs*2 ^ k:Nat):Rat)*p2 (x.e-k)=(x.m.natAbs:Rat)*p2 x.e:=by
  rw [Rat.natCast_mul,Rat.mul_assoc,← p2_split]; congr 2; omega
 have hQ:((x.m.natAbs*2 ^ k:Nat):Rat) / (y.m.natAbs:Rat)*p2 (x.e-y.e-k)*((y.m.natAbs:Rat)*p2 y.e)=(x.m.natAbs:Rat)*p2 x.e:=by
  have e1:=mul_of_div (a:=((x.m.natAbs*2 ^ k:Nat):Rat)) (b:=(y.m.natAbs:Rat)) (by grind)
  have e2:p2 (x.e-y.e-k)*p2 y.e=p2 (x.e-k):=by rw [← p2_add]; congr 1; omega
  calc ((x.m.natAbs*2 ^ k:Nat):Rat) / (y.m.natAbs:Rat)*p2 (x.e-y.e-k)*((y.m.natAbs:Rat)*p2 y.e)=(((x.m.natAbs*2 ^ k:Nat):Rat) / (y.m.natAbs:Rat)*(y.m.natAbs:Rat))*(p2 (x.e-y.e-k)*p2 y.e):=by grind
   _=(x.m.natAbs:Rat)*p2 x.e:=by rw [e1,e2,hvx]
 generalize ((x.m.natAbs*2 ^ k:Nat):Rat) / (y.m.natAbs:Rat)*p2 (x.e-y.e-k)=Q at *
 apply div_of_mul hv0
 by_cases h1:x.m<0<;>by_cases h2:y.m<0
 ·rw [val_abs_neg h1,val_abs_neg h2,show (decide (x.m<0) != decide (y.m<0))=false by simp [h1,h2],sg_pos_cast]; grind
 ·rw [val_abs_neg h1,val_abs_pos h2,show (decide (x.m<0) != decide (y.m<0))=true by simp [h1,h2],sg_neg_cast]; grind
 ·rw [val_abs_pos h1,val_abs_neg h2,show (decide (x.m<0) != decide (y.m<0))=true by simp [h1,h2],sg_neg_cast]; grind
 ·rw [val_abs_pos h1,val_abs_pos h2,show (decide (x.m<0) != decide (y.m<0))=false by simp [h1,h2],sg_pos_cast]; grind
theorem div_best {x y:D} (hy0:val y≠0) {p:Nat} (hp:1≤p) (up:Bool) (h:(divD x y p up).2=0):(up=false→∀ q,rep p q→q≤val x / val y→q≤val (divD x y p up).1)∧(up=true→∀ q,rep p q→val x / val y≤q→val (divD x y p up).1≤q)∧rep p (val (divD x y p up).1):=by
 have hym:y.m≠0:=fun h=>hy0 (val_zero_m h)
 unfold divD at *
 rw [if_neg hym] at h ⊢
 by_cases hxm:x.m=0
 ·rw [if_pos hxm]
  have:val x / val y=0:=div_of_mul hy0 (by rw [val_zero_m hxm,Rat.zero_mul])
  rw [this]
  refine ⟨fun _ q _ hq=>by rw [val_z]; exact hq,fun _ q _ hq=>by rw [val_z]; exact hq,⟨0,0,by rw [val_z]; simp,by simp⟩⟩
 rw [if_neg hxm] at h ⊢
 rw [tell_ok' h]
 have hX0:x.m.natAbs≠0:=by omega
 have hY0:y.m.natAbs≠0:=by omega
 have hbv:=blen_shl hX0 (p+2+blen y.m.natAbs-blen x.m.natAbs)
 have hq:=val_quo (x:=x) hym (k:=p+2+blen y.m.natAbs-blen x.m.natAbs)
 have hbX:p+2+blen y.m.natAbs≤blen (x.m.natAbs*2 ^ (p+2+blen y.m.natAbs-blen x.m.natAbs)):=by omega
 generalize p+2+blen y.m.natAbs-blen x.m.natAbs=k at *
 generalize x.e-y.e-(k:Int)=E at *
 generalize x.m.natAbs*2 ^ k=v at *
 generalize y.m.natAbs=Y at *
 have hpE:=p2_pos E
 have hYp:(0:Rat)<(Y:Rat):=by exact_mod_cast Nat.pos_of_ne_zero hY0
 have hdm:=Nat.div_add_mod v Y
 have hml:=Nat.mod_lt v (Nat.pos_of_ne_zero hY0)
 have hvq:(v:Rat) / (Y:Rat)*(Y:Rat)=(v:Rat):=mul_of_div (by grind)
 have hbm:p<blen (v / Y):=by
  have h1:2 ^ (p+1)≤v / Y:=by
   rw [Nat.le_div_iff_mul_le (by omega)]
   have h2:=blen_lt Y
   have hv0:v≠0:=by intro h0; rw [h0,blen_zero] at hbX; omega
   have h3:=blen_le hv0
   have h4:2 ^ (p+1)*Y≤2 ^ (p+1)*2 ^ blen Y:=Nat.mul_le_mul_left _ (by omega)
   rw [← Nat.pow_add] at h4
   have h5:2 ^ (p+1+blen Y)≤2 ^ (blen v-1):=Nat.pow_le_pow_right (by decide) (by omega)
   omega
  have h2:=blen_lt (v / Y)
  have h3:2 ^ (p+1)<2 ^ blen (v / Y):=by omega
  have:=(Nat.pow_lt_pow_iff_right (a:=2) (by decide)).1 h3
  omega
 have hcast:(v:Rat)=(Y:Rat)*((v / Y:Nat):Rat)+((v % Y:Nat):Rat):=by
  rw [← Rat.natCast_mul,← Rat.natCast_add,hdm]
 have hz:(0:Rat)≤((v % Y:Nat):Rat):=natCast_nonneg _
 have hQ1:((v / Y:Nat):Rat)≤(v:Rat) / (Y:Rat):=by
  rw [← mul_le_iff hYp,hvq]; grind
 have hQ3:(v:Rat) / (Y:Rat)<((v / Y+1:Nat):Rat):=by
  rw [← rmul_lt_iff hYp,hvq,Rat.natCast_add]
  have:((v % Y:Nat):Rat)<(Y:Rat):=natCast_lt hml
  have e:((1:Nat):Rat)=1:=rfl
  rw [e]; grind
 have hQ2:(v % Y != 0)=false→(v:Rat) / (Y:Rat)≤((v / Y:Nat):Rat):=by
  intro h0
  have h0:v % Y=0:=by simpa using h0
  rw [← mul_le_iff hYp,hvq,hcast,h0]
  have e:((0:Nat):Rat)=0:=rfl
  rw [e]; grind
 have hQ4:(v % Y != 0)=true→((v / Y:Nat):Rat)<(v:Rat) / (Y:Rat):=by
  intro h0
  have h0:v % Y≠0:=by simpa using h0
  have h1:(0:Rat)<((v % Y:Nat):Rat):=by exact_mod_cast Nat.pos_of_ne_zero h0
  rw [← rmul_lt_iff hYp,hvq,hcast]
  have:v / Y=(Y*(v / Y)+v % Y) / Y:=by rw [hdm]
  grind
 have hb:=cut_best (m:=v / Y) (st:=v % Y != 0) (E:=E) (Q:=(v:Rat) / (Y:Rat)*p2 E) hp hbm (by rw [mul_le_iff hpE]; exact hQ1) (fun h0=>by rw [mul_le_iff hpE]; exact hQ2 h0) (by rw [rmul_lt_iff hpE]; exact hQ3) (fun h0=>by rw [rmul_lt_iff hpE]; exact hQ4 h0)
 have hrep:∀ neg s,rep p (val (cutD neg (v / Y) E (v % Y != 0) p s)):=fun neg s=>⟨sg neg (cutN (v / Y) (v % Y != 0) p s),E+(blen (v / Y)-p:Nat),val_cut _ _ _ _ _ _,by rw [sg_abs']; exact cutN_le _ _ _ _⟩
 rw [hq,val_cut]
 refine ⟨?_,?_,by rw [← val_cut]; exact hrep _ _⟩
 ·rintro rfl q hq1 hq2
  cases hs:(decide (x.m<0) != decide (y.m<0)) with
  | true=>
   rw [hs,sg_neg_cast] at hq2
   rw [sg_neg_cast,show (false != true)=true from rfl]
   have:=hb.2 (-q) (rep_neg hq1) (by have e:((1:Nat):Rat)=1:=rfl; rw [e] at hq2; grind)
   grind
  | false=>
   rw [hs,sg_pos_cast] at hq2
   rw [sg_pos_cast,show (false != false)=false from rfl]
   exact hb.1 q hq1 (by have e:((1:Nat):Rat)=1:=rfl; rw [e] at hq2; grind)
 ·rintro rfl q hq1 hq2
  cases hs:(decide (x.m<0) != decide (y.m<0)) with
  | true=>
   rw [hs,sg_neg_cast] at hq2
   rw [sg_neg_cast,show (true != true)=false from rfl]
   have:=hb.1 (-q) (rep_neg hq1) (by have e:((1:Nat):Rat)=1:=rfl; rw [e] at hq2; grind)
   grind
  | false=>
   rw [hs,sg_pos_cast] at hq2
   rw [sg_pos_cast,show (true != false)=true from rfl]
   exact hb.2 q hq1 (by have e:((1:Nat):Rat)=1:=rfl; rw [e] at hq2; grind)
theorem enc_uniq {p:Nat} {c d:I} {u v:Rat} (h:Enc p c u v) (k:Enc p d u v):val c.lo=val d.lo∧val c.hi=val d.hi:=by
 have h1:=k.blo _ h.rlo h.lo
 have h2:=h.blo _ k.rlo k.lo
 have h3:=k.bhi _ h.rhi h.hi
 have h4:=h.bhi _ k.rhi k.hi
 constructor<;>grind
theorem neg_vals (c:I):val (negI c).lo = -val c.hi∧val (negI c).hi = -val c.lo:=⟨val_neg _,val_neg _⟩
theorem enc_neg {p:Nat} {c:I} {u v:Rat} (h:Enc p c u v):Enc p (negI c) (-v) (-u):=by
 have n:=neg_vals c
 have h1:=h.lo
 have h2:=h.hi
 refine ⟨by rw [n.1]; grind,by rw [n.2]; grind,fun q r k=>?_,fun q r k=>?_,by rw [n.1]; exact rep_neg h.rhi,by rw [n.2]; exact rep_neg h.rlo⟩
 ·rw [n.1]; have:=h.bhi (-q) (rep_neg r) (by grind); grind
 ·rw [n.2]; have:=h.blo (-q) (rep_neg r) (by grind); grind
theorem enc_same {p:Nat} {c d:I} {u v u' v':Rat} (h:Enc p c u v) (k:Enc p d u' v') (e1:u=u') (e2:v=v') (hc:okI c) (hd:okI d):c=d:=by
 subst e1; subst e2
 have:=enc_uniq h k
 exact I_ext hc hd this.1 this.2
theorem prod_uniq {a b:I} {u v u' v':Rat} (h:Prod a b u v) (k:Prod a b u' v'):u=u'∧v=v':=by
 have:=h.h1; have:=h.h2; have:=h.h3; have:=h.h4
 have:=k.h1; have:=k.h2; have:=k.h3; have:=k.h4
 have m1:=h.mu
 have m2:=k.mu
 have m3:=h.mv
 have m4:=k.mv
 constructor
 ·rcases m1 with m1 | m1 | m1 | m1<;>rcases m2 with m2 | m2 | m2 | m2<;>grind
 ·rcases m3 with m1 | m1 | m1 | m1<;>rcases m4 with m2 | m2 | m2 | m2<;>grind
theorem prod_neg {a b:I} {u v:Rat} (h:Prod a b u v):Prod (negI a) b (-v) (-u):=by
 have n:=neg_vals a
 have h1:=h.h1; have h2:=h.h2; have h3:=h.h3; have h4:=h.h4
 have mu:=h.mu
 have mv:=h.mv
 constructor<;>simp only [n.1,n.2]<;>grind
theorem prod_neg2 {a b:I} {u v:Rat} (h:Prod a b u v):Prod (negI a) (negI b) u v:=by
 have n:=neg_vals a
 have m:=neg_vals b
 have h1:=h.h1; have h2:=h.h2; have h3:=h.h3; have h4:=h.h4
 have mu:=h.mu
 have mv:=h.mv
 constructor<;>simp only [n.1,n.2,m.1,m.2]<;>grind
theorem mul_neg {a b:I} {L H M K:Int} (ha:OkI a L H) (hb:OkI b M K) {p:Nat} (hp:1≤p) (hL : -60000≤L+M) (hH:H+K≤60000):∃ c,mulI p a b=(c,0)∧mulI p (negI a) b=(negI c,0):=by
 obtain ⟨c,u,v,e,o,en,pr⟩:=mulI_ok ha hb hp hL hH
 obtain ⟨d,u',v',e',o',en',pr'⟩:=mulI_ok ha.neg hb hp hL hH
 have q:=prod_uniq (prod_neg pr) pr'
 exact ⟨c,e,by rw [e',enc_same (enc_neg en) en' q.1 q.2 o.neg.ok o'.ok]⟩
theorem mul_neg2 {a b:I} {L H M K:Int} (ha:OkI a L H) (hb:OkI b M K) {p:Nat} (hp:1≤p) (hL : -60000≤L+M) (hH:H+K≤60000):mulI p (negI a) (negI b)=mulI p a b:=by
 obtain ⟨c,u,v,e,o,en,pr⟩:=mulI_ok ha hb hp hL hH
 obtain ⟨d,u',v',e',o',en',pr'⟩:=mulI_ok ha.neg hb.neg hp hL hH
 have q:=prod_uniq (prod_neg2 pr) pr'
 rw [e,e',enc_same en en' q.1 q.2 o.ok o'.ok]
theorem add_neg {a b:I} {L H:Int} (ha:OkI a L H) (hb:OkI b L H) {p:Nat} (hp:1≤p) (hL : -60000≤L) (hH:H+1≤60000):∃ c,addI p a b=(c,0)∧addI p (negI a) (negI b)=(negI c,0):=by
 obtain ⟨c,e,o,en⟩:=addI_ok ha hb hp hL hH
 obtain ⟨d,e',o',en'⟩:=addI_ok ha.neg hb.neg hp hL hH
 have n:=neg_vals a
 have m:=neg_vals b
 exact ⟨c,e,by rw [e',enc_same (enc_neg en) en' (by rw [n.1,m.1]; grind) (by rw [n.2,m.2]; grind) o.neg.ok o'.ok]⟩
theorem wide_neg {a:I} {L H:Int} (ha:OkI a L H) {d:D} (hd:Okd d L H) (hd0:0≤val d) {p:Nat} (hp:1≤p) (hL : -60000≤L) (hH:H+1≤60000):∃ c,wideI p a d=(c,0)∧wideI p (negI a) d=(negI c,0):=by
 obtain ⟨c,e,o,en⟩:=wideI_ok ha hd hd0 hp hL hH
 obtain ⟨f,e',o',en'⟩:=wideI_ok ha.neg hd hd0 hp hL hH
 have n:=neg_vals a
 exact ⟨c,e,by rw [e',enc_same (enc_neg en) en' (by rw [n.1]; grind) (by rw [n.2]; grind) o.neg.ok o'.ok]⟩
structure Quo (a b:I) (u v:Rat):Prop where
 h1:u≤val a.lo / val b.lo∧val a.lo / val b.lo≤v
 h2:u≤val a.lo / val b.hi∧val a.lo / val b.hi≤v
 h3:u≤val a.hi / val b.lo∧val a.hi / val b.lo≤v
 h4:u≤val a.hi / val b.hi∧val a.hi / val b.hi≤v
 mu:u=val a.lo / val b.lo∨u=val a.lo / val b.hi∨u=val a.hi / val b.lo∨u=val a.hi / val b.hi
 mv:v=val a.lo / val b.lo∨v=val a.lo / val b.hi∨v=val a.hi / val b.lo∨v=val a.hi / val b.hi
theorem quo_uniq {a b:I} {u v u' v':Rat} (h:Quo a b u v) (k:Quo a b u' v'):u=u'∧v=v':=by
 have:=h.h1; have:=h.h2; have:=h.h3; have:=h.h4
 have:=k.h1; have:=k.h2; have:=k.h3; have:=k.h4
 have m1:=h.mu
 have m2:=k.mu
 have m3:=h.mv
 have m4:=k.mv
 constructor
 ·rcases m1 with m1 | m1 | m1 | m1<;>rcases m2 with m2 | m2 | m2 | m2<;>grind
 ·rcases m3 with m1 | m1 | m1 | m1<;>rcases m4 with m2 | m2 | m2 | m2<;>grind
theorem neg_div (x y:Rat) : -x / y = -(x / y):=by rw [Rat.div_def,Rat.div_def,Rat.neg_mul]
theorem quo_neg {a b:I} {u v:Rat} (h:Quo a b u v):Quo (negI a) b (-v) (-u):=by
 have n:=neg_vals a
 have h1:=h.h1; have h2:=h.h2; have h3:=h.h3; have h4:=h.h4
 have mu:=h.mu
 have mv:=h.mv
 constructor<;>simp only [n.1,n.2,neg_div]<;>grind
theorem min_of {a b c d:Rat} : ∃ u,(u≤a∧u≤b∧u≤c∧u≤d)∧(u=a∨u=b∨u=c∨u=d):=by
 have two:∀ x y:Rat,∃ u,(u≤x∧u≤y)∧(u=x∨u=y):=fun x y=>by
  rcases Rat.le_total (a:=x) (b:=y) with h | h
  ·exact ⟨x,⟨Rat.le_refl,h⟩,Or.inl rfl⟩
  ·exact ⟨y,⟨h,Rat.le_refl⟩,Or.inr rfl⟩
 obtain ⟨x,h1,h2⟩:=two a b
 obtain ⟨y,h3,h4⟩:=two c d
 obtain ⟨u,h5,h6⟩:=two x y
 exact ⟨u,⟨by grind,by grind,by grind,by grind⟩,by grind⟩
theorem divI_enc {a b:I} {L H M K:Int} (ha:OkI a L H) (hb:OkI b M K) (hz:hasI b zD=false) {p:Nat} (hp:1≤p) (hL : -60000≤L-K-p-2) (hH:H-M+2≤60000) :
  ∃ c u v,divI p a b=(c,0)∧OkI c (L-K-p-2) (H-M+2)∧Enc p c u v∧Quo a b u v:=by
 obtain ⟨c,ec,oc,hc⟩:=divI_ok ha hb hz hp hL hH
 have hs:=has_zero hz
 have hble:=hb.le
 have hale:=ha.le
 have nl:val b.lo≠0:=by grind
 have nh:val b.hi≠0:=by grind
 obtain ⟨u,hu,mu⟩:=min_of (a:=val a.lo / val b.lo) (b:=val a.lo / val b.hi) (c:=val a.hi / val b.lo) (d:=val a.hi / val b.hi)
 obtain ⟨w,hw,mw⟩:=min_of (a:=-(val a.lo / val b.lo)) (b:=-(val a.lo / val b.hi)) (c:=-(val a.hi / val b.lo)) (d:=-(val a.hi / val b.hi))
 have q:Quo a b u (-w):=⟨⟨hu.1,by grind⟩,⟨hu.2.1,by grind⟩,⟨hu.2.2.1,by grind⟩,⟨hu.2.2.2,by grind⟩,mu,by grind⟩
 refine ⟨c,u,-w,ec,oc,?_,q⟩
 have c1:=hc _ _ Rat.le_refl hale Rat.le_refl hble
 have c2:=hc _ _ Rat.le_refl hale hble Rat.le_refl
 have c3:=hc _ _ hale Rat.le_refl Rat.le_refl hble
 have c4:=hc _ _ hale Rat.le_refl hble Rat.le_refl
 have ec2:=ec
 obtain ⟨q1,e1,-⟩:=div_ok ha.lo hb.lo nl hp false hL hH
 obtain ⟨q2,e2,-⟩:=div_ok ha.lo hb.hi nh hp false hL hH
 obtain ⟨q3,e3,-⟩:=div_ok ha.hi hb.lo nl hp false hL hH
 obtain ⟨q4,e4,-⟩:=div_ok ha.hi hb.hi nh hp false hL hH
 obtain ⟨r1,f1,-⟩:=div_ok ha.lo hb.lo nl hp true hL hH
 obtain ⟨r2,f2,-⟩:=div_ok ha.lo hb.hi nh hp true hL hH
 obtain ⟨r3,f3,-⟩:=div_ok ha.hi hb.lo nl hp true hL hH
 obtain ⟨r4,f4,-⟩:=div_ok ha.hi hb.hi nh hp true hL hH
 have b1:=div_best (x:=a.lo) nl hp false (by rw [e1])
 have b2:=div_best (x:=a.lo) nh hp false (by rw [e2])
 have b3:=div_best (x:=a.hi) nl hp false (by rw [e3])
 have b4:=div_best (x:=a.hi) nh hp false (by rw [e4])
 have g1:=div_best (x:=a.lo) nl hp true (by rw [f1])
 have g2:=div_best (x:=a.lo) nh hp true (by rw [f2])
 have g3:=div_best (x:=a.hi) nl hp true (by rw [f3])
 have g4:=div_best (x:=a.hi) nh hp true (by rw [f4])
 rw [e1] at b1
 rw [e2] at b2
 rw [e3] at b3
 rw [e4] at b4
 rw [f1] at g1
 rw [f2] at g2
 rw [f3] at g3
 rw [f4] at g4
 unfold divI four4 at ec2
 rw [hz,if_neg (by simp)] at ec2
 simp only [e1,e2,e3,e4,f1,f2,f3,f4] at ec2
 have hcv:c=⟨min4 q1 q2 q3 q4,max4 r1 r2 r3 r4⟩:=by
  have:((⟨min4 q1 q2 q3 q4,max4 r1 r2 r3 r4⟩:I),(0:Int))=(c,0):=ec2
  exact (congrArg Prod.fst this).symm
 have m1:=min4_mem q1 q2 q3 q4
 have m2:=max4_mem r1 r2 r3 r4
 have l1:val c.lo=val (min4 q1 q2 q3 q4):=by rw [hcv]
 have l2:val c.hi=val (max4 r1 r2 r3 r4):=by rw [hcv]
 refine ⟨by grind,by grind,fun y hy hyu=>?_,fun y hy hyv=>?_,?_,?_⟩
 ·have k1:=b1.1 rfl y hy (by grind)
  have k2:=b2.1 rfl y hy (by grind)
  have k3:=b3.1 rfl y hy (by grind)
  have k4:=b4.1 rfl y hy (by grind)
  simp only at k1 k2 k3 k4
  rw [l1]; rcases m1 with m | m | m | m<;>rw [m]<;>assumption
 ·have k1:=g1.2.1 rfl y hy (by grind)
  have k2:=g2.2.1 rfl y hy (by grind)
  have k3:=g3.2.1 rfl y hy (by grind)
  have k4:=g4.2.1 rfl y hy (by grind)
  simp only at k1 k2 k3 k4
  rw [l2]; rcases m2 with m | m | m | m<;>rw [m]<;>assumption
 ·rw [l1]; rcases m1 with m | m | m | m<;>rw [m]
  ·exact b1.2.2
  ·exact b2.2.2
  ·exact b3.2.2
  ·exact b4.2.2
 ·rw [l2]; rcases m2 with m | m | m | m<;>rw [m]
  ·exact g1.2.2
  ·exact g2.2.2
  ·exact g3.2.2
  ·exact g4.2.2
theorem div_neg {a b:I} {L H M K:Int} (ha:OkI a L H) (hb:OkI b M K) (hz:hasI b zD=false) {p:Nat} (hp:1≤p) (hL : -60000≤L-K-p-2) (hH:H-M+2≤60000):∃ c,divI p a b=(c,0)∧divI p (negI a) b=(negI c,0):=by
 obtain ⟨c,u,v,e,o,en,pr⟩:=divI_enc ha hb hz hp hL hH
 obtain ⟨d,u',v',e',o',en',pr'⟩:=divI_enc ha.neg hb hz hp hL hH
 have q:=quo_uniq (quo_neg pr) pr'
 exact ⟨c,e,by rw [e',enc_same (enc_neg en) en' q.1 q.2 o.neg.ok o'.ok]⟩
theorem inI_neg {y:I} {L k:Int} (h:OkI y L k):inI (negI y) (box k)=true:=in_box h.neg
theorem ser_neg {p:Nat} (hp:1≤p) (next:Nat→I→Int→I × I × Int) (T P Su:Nat→R) {L0 H0 c d:Int} (hc:0≤c) (hd:0≤d) {N:Nat} (hS:∀ i,Su (i+1)=Su i+P (i+1))
  (hn:∀ i t,i<N→Has (t,0) (T i) (L0-c*i) (H0+d*i)→(next (i+1) t 0).2.2=0∧Has ((next (i+1) t 0).1,0) (T (i+1)) (L0-c*(i+1:Nat)) (H0+d*(i+1:Nat))∧Has ((next (i+1) t 0).2.1,0) (P (i+1)) (L0-c*(i+1:Nat)) (H0+d*(i+1:Nat)))
  (hng:∀ i t,i<N→Has (t,0) (T i) (L0-c*i) (H0+d*i)→next (i+1) (negI t) 0=(negI (next (i+1) t 0).1,negI (next (i+1) t 0).2.1,0))
  (hL : -60000≤L0-c*N) (hH:H0+(d+1)*N≤60000) :
  ∀ (k i:Nat) (s t:I),i+k=N→Has (s,0) (Su i) (L0-c*i) (H0+(d+1)*i)→Has (t,0) (T i) (L0-c*i) (H0+d*i)→serL p next k i (negI s) (negI t) 0=(negI (serL p next k i s t 0).1,0):=by
 intro k
 induction k with
 | zero=>intro i s t _ _ _; rfl
 | succ k ih=>
  intro i s t hi hs ht
  obtain ⟨n1,n2,n3⟩:=hn i t (by omega) ht
  have e1:=cmul_succ c i
  have e2:=cmul_succ d i
  have e3:=cmul_succ (d+1) i
  have m1:=cmul_le hc (show i+1≤N by omega)
  have m2:=cmul_le (show 0≤d+1 by omega) (show i+1≤N by omega)
  have e4:(d+1)*(i:Int)=d*i+i:=by rw [Int.add_mul]; simp
  have o1:=hs.mono (L':=L0-c*(i+1:Nat)) (H':=H0+(d+1)*(i+1:Nat)-1) (by omega) (by omega)
  have o2:=n3.mono (Int.le_refl _) (H':=H0+(d+1)*(i+1:Nat)-1) (by omega)
  have h1:=has_add (p:=p) o1 o2 hp (by omega) (by omega)
  obtain ⟨q,q1,q2⟩:=add_neg (p:=p) o1.ok o2.ok hp (by omega) (by omega)
  have h2:=ih (i+1) _ _ (by omega) ((h1.mono (Int.le_refl _) (H':=H0+(d+1)*(i+1:Nat)) (by omega)).eq (hS i).symm).pair n2
  have h1e:=h1.e
  rw [serL,serL,hng i t (by omega) ht,n1]
  simp only [aS,st_zero] at h2 h1e ⊢
  rw [q1] at h2 ⊢
  rw [q2]
  exact h2
theorem div_n_neg {r:I × Int} {x:R} {L H:Int} (ha:Has r x L H) {n K:Nat} (hK:K≤60) (h0:0<n) (hn:n≤2 ^ K) {p:Nat} (hp:1≤p) (hL : -60000≤L-K-p-2) (hH:H+2≤60000):dS p (negI r.1) (iS (n:Int) 0).1 0=(negI (dS p r.1 (iS (n:Int) 0).1 0).1,0):=by
 obtain ⟨c,e1,e2⟩:=div_neg (p:=p) ha.ok (has_nat hK hn).ok (nz_int h0) hp hL (by omega)
 unfold dS
 rw [st_zero,st_zero,e1,e2]
theorem turn_neg {t q:I × Int} {x y z:R} {L H M K:Int} (ht:Has t x L H) (hq:Has q y M K) {n k:Nat} (hk:k≤60) (h0:0<n) (hn:n≤2 ^ k) {p:Nat} (hp:1≤p) (hL : -60000≤L+M-k-p-2) (hH:H+K+2≤60000):turnS p (negI t.1) q.1 (n:Int) 0=(negI (turnS p t.1 q.1 (n:Int) 0).1,0):=by
 have h1:=has_mul (p:=p) ht hq hp (by omega) (by omega)
 obtain ⟨c,e1,e2⟩:=mul_neg (p:=p) ht.ok hq.ok hp (by omega) (by omega)
 have m1:mS p t.1 q.1 0=(c,0):=by unfold mS; rw [st_zero,e1]
 have m2:mS p (negI t.1) q.1 0=(negI c,0):=by unfold mS; rw [st_zero,e2]
 rw [m1] at h1
 have h2:=div_n_neg h1 hk h0 hn hp (by omega) (by omega)
 unfold turnS
 rw [m1,m2]
 simp only
 rw [show (iS (n:Int) 0).2=0 from rfl,h2]
 have h3:=has_div_n (z:=x*y*((n:R))⁻¹) h1 hk h0 hn (by have:=mul_inv (x:=(n:R)) (by obtain ⟨m,rfl⟩:∃ m,n=m+1:=⟨n-1,by omega⟩; have:=cast_pos m; grind); grind) hp (by omega) (by omega)
 rw [h3.e]
 rfl
theorem fin_neg {p:Nat} (hp:1≤p∧p≤1000) {r:I × Int} {x:R} {L H:Int} (h:Has r x L H) (hL : -60000≤L) (hLp:L ≤ -(p:Int)) (hH:0≤H∧H+1≤60000):finS p (negI r.1,0)=(negI (finS p r).1,0):=by
 obtain ⟨c,e1,e2⟩:=wide_neg (p:=p) h.ok (Okd_half (k:=-(p:Int)) hLp (by omega) (by omega)) (by rw [val_half]; exact Rat.le_of_lt (p2_pos _)) hp.1 hL hH.2
 unfold finS wS
 rw [h.e,st_zero,st_zero,e1,e2]
theorem sq_neg {y:I} {L:Int} (hy:OkI y L 0) {p:Nat} (hp:1≤p) (hL : -60000≤L+L):mS p (negI y) (negI y) 0=mS p y y 0:=by
 unfold mS; rw [st_zero,st_zero,mul_neg2 hy hy hp hL (by omega)]
theorem sin_neg {p:Nat} (hp:2≤p∧p≤400) {y:I} {x:R} {L:Int} (hy:OkI y L 0) (hm:Mem y x) (hL0:L≤0) {M:Int} (hM:M≤L-(p+20-2*L)*(p / 2+4:Nat)) (hM' : -60000≤M):sinI p (negI y)=(negI (sinI p y).1,0):=by
 have hy':Has (y,0) x L 0:=⟨rfl,hy,hm⟩
 have hcN:=ser_lim (c:=p+20-2*L) (N:=p / 2+4) (by omega) (by omega)
 have hq:=has_mul (p:=p) hy' hy' (by omega) (by omega) (by omega)
 have hs:=(hy'.mono (L':=L-(p+20-2*L)*(0:Nat)) (H':=0+(2+1)*(0:Nat)) (by omega) (by omega)).eq (y:=psum cs x (2*0+2)) (by
  show x=0+cs 0*x ^ 0+cs 1*x ^ (0+1)
  have h1:=rf_succ 0
  rw [rpow_succ,rpow_zero,cs,cs,show sS 0=0 from rfl,show sS 1=1 from rfl]
  rw [show ((0+1:Nat):R)=1 from rfl,show rf 0=1 from rfl] at h1
  grind)
 have ht:=(hy'.mono (L':=L-(p+20-2*L)*(0:Nat)) (H':=0+2*(0:Nat)) (by omega) (by omega)).eq (y:=cs (2*0+1)*x ^ (2*0+1)) (by
  show x=cs 1*x ^ (0+1)
  have h1:=rf_succ 0
  rw [rpow_succ,rpow_zero,cs,show sS 1=1 from rfl]
  rw [show ((0+1:Nat):R)=1 from rfl,show rf 0=1 from rfl] at h1
  grind)
 have hr:=ser_has (p:=p) (by omega) (nSin p (mS p y y 0).1) (fun i=>cs (2*i+1)*x ^ (2*i+1)) (fun i=>cs (2*i+1)*x ^ (2*i+1)) (fun i=>psum cs x (2*i+2)) (L0:=L) (H0:=0) (c:=p+20-2*L) (d:=2) (N:=p / 2+4) (by omega) (by omega) (fun i=>cs_sum x i) (sin_nx hp hq hL0 (by omega)) (by omega) (by omega) (p / 2+4) 0 y y (by omega) hs ht
 have hn:=ser_neg (p:=p) (by omega) (nSin p (mS p y y 0).1) (fun i=>cs (2*i+1)*x ^ (2*i+1)) (fun i=>cs (2*i+1)*x ^ (2*i+1)) (fun i=>psum cs x (2*i+2)) (L0:=L) (H0:=0) (c:=p+20-2*L) (d:=2) (N:=p / 2+4) (by omega) (by omega) (fun i=>cs_sum x i) (sin_nx hp hq hL0 (by omega)) (by
  intro i t hiN ht
  have m1:=cmul_le (c:=p+20-2*L) (by omega) (show i+1≤p / 2+4 by omega)
  have e1:=cmul_succ (p+20-2*L) i
  have hb:2*(i+1)*(2*(i+1)+1)≤2 ^ 18:=by
   have:2*(i+1)*(2*(i+1)+1)≤408*409:=Nat.mul_le_mul (by omega) (by omega)
   omega
  have h4:=turn_neg (p:=p) (z:=x) ht hq (n:=2*(i+1)*(2*(i+1)+1)) (k:=18) (by omega) (Nat.mul_pos (by omega) (by omega)) hb (by omega) (by omega) (by omega)
  unfold nSin
  rw [h4]) (by omega) (by omega) (p / 2+4) 0 y y (by omega) hs ht
 unfold sinI
 rw [if_pos (in_box hy),if_pos (inI_neg hy),sq_neg hy (by omega) (by omega),hq.e,hn]
 exact fin_neg (p:=p) (by omega) (hr.mono (L':=M) (H':=699) (by omega) (by omega)) hM' (by omega) (by omega)
theorem cos_neg {p:Nat} (hp:1≤p) {y:I} {L:Int} (hy:OkI y L 0) (hL : -60000≤L+L):cosI p (negI y)=cosI p y:=by
 unfold cosI
 rw [if_pos (in_box hy),if_pos (inI_neg hy),sq_neg hy hp hL]
theorem sSin {p:Nat} (hp:2≤p∧p≤400) {y:I} {x:R} {L:Int} (hs:SI y) (hy:Has (y,0) x L 0) (hL0:L≤0) {M:Int} (hM:M≤L-(p+20-2*L)*(p / 2+4:Nat)) (hM' : -60000≤M):small_Sin (iv y) 0 (p:Int)=some (iv (sinI p y).1,0)∧Has ((sinI p y).1,0) (S x) M 700:=by
 have h:=sin_has hp hy.ok hy.m (in_box hy.ok) hL0 hM hM'
 exact ⟨by rw [smallSin_eq hp hs,st_zero,h.e],h.pair⟩
theorem sCos {p:Nat} (hp:2≤p∧p≤400) {y:I} {x:R} {L:Int} (hs:SI y) (hy:Has (y,0) x L 0) (hL0:L≤0) {M:Int} (hM:M≤L-(p+20-2*L)*(p / 2+4:Nat)) (hM' : -60000≤M):small_Cos (iv y) 0 (p:Int)=some (iv (cosI p y).1,0)∧Has ((cosI p y).1,0) (C x) M 700:=by
 have h:=cos_has hp hy.ok hy.m (in_box hy.ok) hL0 hM hM'
 exact ⟨by rw [smallCos_eq hp hs,st_zero,h.e],h.pair⟩
theorem far_by {p:Nat} (hp:p≤60) {c K:Int} (hc:0≤c∧c≤K):c*((p / 2+4:Nat):Int)≤K*34:=Int.mul_le_mul (by omega) (by omega) (by omega) (by omega)
theorem SmallCircle_true (a0:AD) (g0:gAD a0) (a1:Int) (g1:(Lit.int .i64 a1).wf=true):l07_SmallCircle a0 a1=some true:=by
 unfold l07_SmallCircle l07_SmallCircle_j1
 obtain ⟨p,ep,hp1,hp2⟩:=prec07_eq (wf_i64 g1)
 have hp:2≤p∧p≤400:=by omega
 obtain ⟨d,ed,hd⟩:=tame07_eq g0 (up:=0) (by omega)
 have far:=far_by hp2 (c:=p+20-2*(-64)) (K:=208) (by omega)
 obtain ⟨e1,h1⟩:=sPoint hd p
 have h1':Has (⟨d,d⟩,0) (ofQ (val d)) (-64) 0:=h1
 have si:=SI_of h1'.ok (by omega)
 obtain ⟨eu,hu⟩:=sSin hp si h1' (by omega) (M:=-7200) (by omega) (by omega)
 obtain ⟨ev,hv⟩:=sCos hp si h1' (by omega) (M:=-7200) (by omega) (by omega)
 obtain ⟨m,em,hm⟩:=sMul hu hu hp (by omega) (by omega)
 obtain ⟨n,en,hn⟩:=sMul hv hv hp (by omega) (by omega)
 obtain ⟨s,es,hs⟩:=sAdd hm hn hp (by omega) (by omega)
 have e4:=sHas hs (WD_from (n:=1) (by omega)) (by rw [one_val,SC_one])
 obtain ⟨e3,h3⟩:=sNeg h1' p
 obtain ⟨ew,-⟩:=sSin hp (SI_of h3.ok (by omega)) h3 (by omega) (M:=-7200) (by omega) (by omega)
 obtain ⟨e5,h5⟩:=sNeg hu p
 obtain ⟨ez,hz⟩:=sCos hp (SI_of h3.ok (by omega)) h3 (by omega) (M:=-7200) (by omega) (by omega)
 have q1:=sin_neg hp h1'.ok h1'.m (by omega) (M:=-7200) (by omega) (by omega)
 have q2:=cos_neg (p:=p) (by omega) h1'.ok (by omega)
 rw [q1] at ew
 rw [q2] at ez
 rw [examples07]
 simp only [obn]
 rw [if_neg (by simp),ep]
 simp only [obn]
 rw [ivNew_eq hp]
 simp only [obn]
 rw [if_neg (by simp),ed]
 simp only [obn]
 rw [e1]
 simp only [obn]
 rw [eu]
 simp only [obn]
 rw [ev]
 simp only [obn]
 rw [em]
 simp only [obn]
 rw [en]
 simp only [obn]
 rw [es]
 simp only [obn]
 rw [rFrom5_eq (by omega)]
 simp only [obn]
 rw [e4]
 simp only [obn]
 rw [e3]
 simp only [obn]
 rw [ew]
 simp only [obn]
 rw [e5]
 simp only [obn]
 rw [same07_eq h5.ok.ok]
 simp only [obn]
 rw [e3]
 simp only [obn]
 rw [ez]
 simp only [obn]
 rw [same07_eq hv.ok.ok]
 simp only [obn]
 rw [if_pos True.intro,if_pos True.intro,if_pos (by simp),if_pos (by simp)]
 rfl
end Go.Proofs.YtpmpcohbpankaaaGreat.Gen
