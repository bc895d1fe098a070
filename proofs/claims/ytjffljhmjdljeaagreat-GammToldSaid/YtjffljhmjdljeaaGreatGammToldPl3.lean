/- Plain theory of the numbers that the statement speaks of: printed from the proofs' own texts, as far as this statement needs it. -/
import Derived.Test.YtjffljhmjdljeaaGreatGammToldPl2
set_option linter.unusedVariables false
set_option linter.unusedSimpArgs false
namespace Go.Proofs.YtjffljhmjdljeaaGreat.Gen
open Go Go.Abs Go.Plain Go.An
open Go.IntKind (i64 u64 u32)
theorem zuP {x:D} {L H:Int} (h:Okd x L H):Has (⟨x,x⟩,0) (ofQ (val x)) L H:=⟨rfl,⟨h,h,Rat.le_refl⟩,⟨zK _,zK _⟩⟩
theorem QD (n:Int):val (fromD n)=(n:Rat):=by unfold fromD; rw [ziv,zN,Rat.mul_one]
theorem zi8 {n:Int} {K:Nat} (hK:K≤60) (hn:n.natAbs≤2 ^ K):Okd (fromD n) 0 (K:Int):=by
 have h60:2 ^ K≤2 ^ 60:=Nat.pow_le_pow_right (by decide) hK
 have h60':(2:Nat) ^ 60=1152921504606846976:=by decide
 refine ⟨zb1 wa,⟨n,by rw [QD,zN,Rat.mul_one]⟩,?_⟩
 rw [QD]
 unfold B
 rw [qS]
 have e1 : -((2 ^ K:Nat):Rat)=((-((2 ^ K:Nat):Int):Int):Rat):=by push_cast; rfl
 have e2:((2 ^ K:Nat):Rat)=(((2 ^ K:Nat):Int):Rat):=by push_cast; rfl
 rw [e1]
 exact ⟨Zl wa,by rw [e2]; exact Zl wa⟩
theorem zgK {n:Int} {K:Nat} (hK:K≤60) (hn:n.natAbs≤2 ^ K):Has (iS n 0) (n:R) 0 (K:Int):=
 (zuP (zi8 hK hn)).eq (by rw [QD]; rfl)
theorem zCp {r:I × Int} {x:R} {L H:Int} (h:Has r x L H):Has (nS r.1 0) (-x) L H:=by
 refine zeC (c:=negI r.1) rfl h.ok.neg ⟨?_,?_⟩
 ·show ofQ (val (negD r.1.hi)) ≤ -x
  rw [qK,Qj]; have:=h.m.hi; grind
 ·show -x≤ofQ (val (negD r.1.lo))
  rw [qK,Qj]; have:=h.m.lo; grind
theorem zCq {r s:I × Int} {x y:R} {L H:Int} (ha:Has r x L H) (hb:Has s y L H) {p:Nat} (hp:1≤p) (hL : -60000≤L) (hH:H+1≤60000):Has (aS p r.1 s.1 0) (x+y) L (H+1):=by
 obtain ⟨c,e,o,en⟩:=zbs ha.ok hb.ok hp hL hH
 refine zeC (c:=c) e o (zmw en ?_ ?_)
 ·rw [zP]; have:=ha.m.lo; have:=hb.m.lo; grind
 ·rw [zP]; have:=ha.m.hi; have:=hb.m.hi; grind
theorem zi9 {r s:I × Int} {x y:R} {L H M K:Int} (ha:Has r x L H) (hb:Has s y M K) {p:Nat} (hp:1≤p) (hL : -60000≤L+M) (hH:H+K≤60000):Has (mS p r.1 s.1 0) (x*y) (L+M) (H+K):=by
 obtain ⟨c,u,v,e,o,en,pr⟩:=zak ha.ok hb.ok hp hL hH
 have k:∀ {q:Rat},u≤q∧q≤v→In (ofQ u) (ofQ v) (ofQ q):=fun h=>⟨zc.2 h.1,zc.2 h.2⟩
 have h:=zuL (u:=ofQ u) (v:=ofQ v) ⟨ha.m.lo,ha.m.hi⟩ ⟨hb.m.lo,hb.m.hi⟩ (by rw [← zk]; exact k pr.h1) (by rw [← zk]; exact k pr.h2) (by rw [← zk]; exact k pr.h3) (by rw [← zk]; exact k pr.h4)
 exact zeC (c:=c) e o (zmw en h.1 h.2)
theorem zCr {r:I × Int} {x:R} {L H n:Int} (ha:Has r x L H) (hL : -60000≤L+n) (hH:H+n≤60000):Has (scS r.1 n 0) (x*ofQ (p2 n)) (L+n) (H+n):=by
 obtain ⟨c,e,o,e1,e2⟩:=zes ha.ok hL hH
 have hp:=Ql (zb n)
 refine zeC (c:=c) e o ⟨?_,?_⟩
 ·rw [e1,zk]; exact zF ha.m.lo (by grind)
 ·rw [e2,zk]; exact zF ha.m.hi (by grind)
theorem zCs {r:I × Int} {x y:R} {L H:Int} (ha:Has r x L H) {d:D} (hd:Okd d L H) (hxy:ab (y-x)≤ofQ (val d)) {p:Nat} (hp:1≤p) (hL : -60000≤L) (hH:H+1≤60000):Has (wS p r.1 d 0) y L (H+1):=by
 have h0:0≤val d:=by
  have:=zm (y-x)
  exact zc.1 (zj this hxy)
 obtain ⟨c,e,o,en⟩:=zl1 ha.ok hd h0 hp hL hH
 have h1:=ab_le.1 hxy
 refine zeC (c:=c) e o (zmw en ?_ ?_)
 ·rw [ZL]; have:=ha.m.lo; grind
 ·rw [zP]; have:=ha.m.hi; grind
theorem zp0 {r:I × Int} {x:R} {L H:Int} (ha:Has r x L H) {p:Nat} (hp:1≤p) (hL : -60000≤L) (hH:H≤60000):Has (zaj p r.1) x L H:=by
 obtain ⟨c,e,o,en⟩:=ziO ha.ok hp hL hH
 exact zeC (c:=c) e o (zmw en ha.m.lo ha.m.hi)
theorem zuQ {l y:R} (h:0<l*y) (hle:l≤y):y⁻¹≤l⁻¹:=by
 have hl:l≠0:=by rintro rfl; grind
 have hy:y≠0:=by rintro rfl; grind
 have h1:=qQ hl
 have h2:=qQ hy
 refine zgD h ?_
 have e1:y⁻¹*(l*y)=l:=by grind
 have e2:l⁻¹*(l*y)=y:=by grind
 rw [e1,e2]; exact hle
theorem zuR {a b:R} (h:(0<a∧0<b)∨(a<0∧b<0)):0<a*b:=by
 rcases h with h | h
 ·exact Z5 h.1 h.2
 ·have:=Z5 (show 0 < -a by grind) (show 0 < -b by grind); grind
theorem zp1 {r s:I × Int} {x y z:R} {L H M K:Int} (ha:Has r x L H) (hb:Has s y M K) (hz:hasI s.1 zD=false) (hxy:z*y=x) {p:Nat} (hp:1≤p) (hL : -60000≤L-K-p-2) (hH:H-M+2≤60000):Has (dS p r.1 s.1 0) z (L-K-p-2) (H-M+2):=by
 obtain ⟨c,e,o,en⟩:=zpf ha.ok hb.ok hz hp hL hH
 refine zeC (c:=c) e o ?_
 have hs:=ziQ hz
 have hle:=hb.ok.le
 have hsR:(0<ofQ (val s.1.lo))∨(ofQ (val s.1.hi)<0):=by
  rcases hs with h | h
  ·left; exact Zi.2 h
  ·right; exact Zi.2 h
 have m1:=hb.m.lo
 have m2:=hb.m.hi
 have nl:ofQ (val s.1.lo)≠0:=by intro k; rcases hsR with h | h<;>grind
 have nh:ofQ (val s.1.hi)≠0:=by intro k; rcases hsR with h | h<;>grind
 have ny:y≠0:=by intro k; rcases hsR with h | h<;>grind
 have hle':=ha.ok.le
 have nlq:val s.1.lo≠0:=by rintro k; rw [k] at nl; exact nl rfl
 have nhq:val s.1.hi≠0:=by rintro k; rw [k] at nh; exact nh rfl
 have i1:y⁻¹≤(ofQ (val s.1.lo))⁻¹:=zuQ (zuR (by rcases hsR with h | h<;>grind)) m1
 have i2:(ofQ (val s.1.hi))⁻¹≤y⁻¹:=zuQ (zuR (by rcases hsR with h | h<;>grind)) m2
 have k:∀ {a b:Rat},b≠0→(val c.lo≤a / b∧a / b≤val c.hi)→In (ofQ (val c.lo)) (ofQ (val c.hi)) (ofQ a*(ofQ b)⁻¹):=fun {a b} hb h=>by
  rw [← zmr hb,← zk,← Rat.div_def]; exact ⟨zc.2 h.1,zc.2 h.2⟩
 have q1:=k nhq (en _ _ Rat.le_refl hle' hle Rat.le_refl)
 have q2:=k nlq (en _ _ Rat.le_refl hle' Rat.le_refl hle)
 have q3:=k nhq (en _ _ hle' Rat.le_refl hle Rat.le_refl)
 have q4:=k nlq (en _ _ hle' Rat.le_refl Rat.le_refl hle)
 have h:=zuL ⟨ha.m.lo,ha.m.hi⟩ ⟨i2,i1⟩ q1 q2 q3 q4
 have e1:x*y⁻¹=z:=by have:=qQ ny; rw [← hxy]; grind
 rw [e1] at h
 exact ⟨h.1,h.2⟩
theorem Mem.le {a b:I} {x:R} (ha:Mem a x) (hb:Mem b x):val a.lo≤val b.hi:=zc.1 (zj ha.lo hb.hi)
theorem zgL (c:Int) (i:Nat):c*((i+1:Nat):Int)=c*i+c:=by rw [Int.natCast_add,Int.mul_add]; simp
theorem zgM {c:Int} (hc:0≤c) {i j:Nat} (h:i≤j):c*(i:Int)≤c*(j:Int):=Int.mul_le_mul_of_nonneg_left wa hc
theorem zja (n:Nat):ofQ (p2 (-(n:Int)))=hf ^ n:=by
 induction n with
 | zero=>show ofQ (p2 0)=1; rw [zN]; rfl
 | succ n ih=>
  rw [show -((n+1:Nat):Int) = -(n:Int) + -1 by omega,zy,zk,ih,ziP]; rfl
theorem zuS {y:I} {k:Int} {x:R} (h:inI y (box k)=true) (m:Mem y x):ab x≤ofQ (p2 k):=by
 unfold inI box at h
 rw [Bool.and_eq_true,zbq,zbq] at h
 have h1:=h.1.1
 have h2:=h.2.2
 rw [qK,qC] at h1
 rw [qC] at h2
 have m1:=m.lo
 have m2:=m.hi
 have k1:=zc.2 h1
 have k2:=zc.2 h2
 rw [Qj] at k1
 exact ab_le.2 ⟨by grind,by grind⟩
theorem zcc {k L H:Int} (h1:L≤k) (h2:k≤H) (h3 : -60000≤k∧k≤60000):Okd ⟨1,k⟩ L H:=by
 refine ⟨Qz h3,by rw [qC]; exact G.mono ⟨1,wb⟩ h1,?_⟩
 rw [qC]
 have:=qe h2
 have:=zb k
 have:=zb H
 exact ⟨by grind,by grind⟩
theorem zuT {n:Nat} (h:0<n):hasI (iS (n:Int) 0).1 zD=false:=by
 show hasI (intI (n:Int)) zD=false
 cases hq:hasI (intI (n:Int)) zD with
 | false=>rfl
 | true=>
  have:=((zbq _ _).1 hq).1
  rw [qT] at this
  have e:val (intI (n:Int)).lo=((n:Int):Rat):=QD _
  rw [e] at this
  have h0:(0:Rat)<((n:Int):Rat):=by exact_mod_cast h
  grind
theorem zp2 {n K:Nat} (hK:K≤60) (hn:n≤2 ^ K):Has (iS (n:Int) 0) (n:R) 0 (K:Int):=zgK hK (by simp; omega)
theorem zCt {r:I × Int} {x z:R} {L H:Int} (ha:Has r x L H) {n K:Nat} (hK:K≤60) (h0:0<n) (hn:n≤2 ^ K) (hz:z*(n:R)=x) {p:Nat} (hp:1≤p) (hL : -60000≤L-K-p-2) (hH:H+2≤60000):Has (dS p r.1 (iS (n:Int) 0).1 0) z (L-K-p-2) (H+2):=
 (zp1 (p:=p) ha (zp2 hK hn) (zuT h0) hz hp hL wa).mono wa wa
theorem zp3 {c:Int} {N:Nat} (hN:4≤N) (hc:0≤c):c*4≤c*(N:Int):=Int.mul_le_mul_of_nonneg_left wa hc
theorem zmx (p:Nat):2*hf ^ (p+1)=hf ^ p:=by
 have:hf ^ (p+1)=hf ^ p*hf:=rfl
 rw [this]; have:=zdg; grind
theorem zp4 {y:I} {x:R} (hi:inI y (box (-1))=true) (hm:Mem y x):ab x≤hf:=by
 have:=zuS hi hm
 rwa [ziP] at this
theorem zeD {y:I} {L k:Int} (h:OkI y L k):inI y (box k)=true:=by
 refine zz6 ?_ ?_ h.le
 ·show val (negD ⟨1,k⟩)≤val y.lo
  rw [qK,qC]; exact h.lo.b.1
 ·show val y.hi≤val ⟨1,k⟩
  rw [qC]; exact h.hi.b.2
end Go.Proofs.YtjffljhmjdljeaaGreat.Gen
namespace Go.An
open Go.IntKind (i64 u64 u32)
open Go.Abs (wa wb wc we)
theorem zuU {f g:R→R} (h:∀ s,0≤s→Dv f g (-s) s) {x M:R} (hM:∀ z,ab z≤ab x→ab (g z)≤M):ab (f x-f 0)≤M*ab x:=by
 have hs:=zm x
 have d:=h _ hs
 have hg:∀ z,In (-ab x) (ab x) z→-M≤g z∧g z≤M:=fun z hz=>ab_le.1 (hM z (ab_le.2 hz))
 rcases Qk 0 x with k | k
 ·have e:=qi k
  have b:=(d.sub_iv (c:=0) (d:=x) (by grind) (by grind)).between k (m:=-M) (M:=M) fun z hz=>hg z ⟨by have:=hz.1; grind,by have:=hz.2; grind⟩
  rw [e]; exact ab_le.2 (by grind)
 ·have e:ab x = -x:=by rw [← zew]; exact qi (by grind)
  have b:=(d.sub_iv (c:=x) (d:=0) (by grind) (by grind)).between k (m:=-M) (M:=M) fun z hz=>hg z ⟨by have:=hz.1; grind,by have:=hz.2; grind⟩
  rw [e]; exact ab_le.2 (by grind)
theorem zCu (x:R):ab (S x)≤ab x:=by
 have h:=zuU (fun s hs=>zcb hs) (x:=x) (M:=1) fun z _=>(zuC z).2
 rw [zeB] at h
 have e:S x-0=S x:=by grind
 rw [e] at h; grind
theorem zuV (x:R):1-x*x≤C x:=by
 have h:=zuU (fun s hs=>zdc hs) (x:=x) (M:=ab x) fun z hz=>by
  rw [zew]; exact zj (zCu z) hz
 rw [zgH] at h
 have e:ab x*ab x=x*x:=by rw [← zS,qi (Zv x)]
 rw [e] at h
 have:=(ab_le.1 h).1
 grind
theorem zuW {u:R} (h:ab u<1):u*u<1:=by
 have e:ab u*ab u=u*u:=by rw [← zS,qi (Zv u)]
 have h1:=zF (show ab u≤1 by grind) (zm u)
 grind
theorem zCv {u:R} (h0:0<u) (h1:u<1):0<S u:=by
 have hu:ab u=u:=qi (by grind)
 have hq:=zuW (u:=u) (by grind)
 have b:=((zcb (s:=u) (by grind)).sub_iv (c:=0) (d:=u) (by grind) (by grind)).between (by grind) (m:=1-u*u) (M:=1) fun z hz=>by
  have k1:=zuV z
  have k2:=qs hz.2 hz.2 hz.1 (show 0≤u by grind)
  have k3:=(ab_le.1 (zuC z).2).2
  exact ⟨by grind,k3⟩
 rw [zeB] at b
 have:=Z5 (show 0<1-u*u by grind) h0
 grind
end Go.An
namespace Go.Proofs.YtjffljhmjdljeaaGreat.Gen
open Go Go.Abs Go.Plain Go.An
open Go.IntKind (i64 u64 u32)
theorem zuX {a b:Nat} (h:(a:Rat)<(b:Rat)):a<b:=by exact_mod_cast h
theorem zgN {a b p:Rat} (hp:0<p):a*p<b*p↔a<b:=by
 have h:=@qL b a p hp
 constructor
 ·intro k; have:¬b*p≤a*p:=by grind
  rw [h] at this; grind
 ·intro k; have:¬b≤a:=by grind
  rw [← h] at this; grind
theorem zCw {m p:Nat} {st:Bool} (hp:1≤p) (hb:p<blen m) {E:Int} {Q:Rat} (h1:(m:Rat)*p2 E≤Q) (h2:st=false→Q≤(m:Rat)*p2 E) (h3:Q<((m+1:Nat):Rat)*p2 E) (h4:st=true→(m:Rat)*p2 E<Q) :
  (∀ q,rep p q→q≤Q→q≤((cutN m st p false:Nat):Rat)*p2 (E+(blen m-p:Nat)))∧(∀ q,rep p q→Q≤q→((cutN m st p true:Nat):Rat)*p2 (E+(blen m-p:Nat))≤q):=by
 have hn:0<blen m-p:=wa
 have hge:=ztd m st p false hn
 generalize hnd:blen m-p=n at *
 have hM0:m≠0:=by intro h0; rw [h0,zag] at hb; omega
 have hMge:=QR hM0
 have hbl:blen m=n+p:=wa
 rw [hbl] at hMge
 have hp2:0<2 ^ n:=Nat.pow_pos (by decide)
 have hmpos:(0:Rat)<(m:Rat)*p2 E:=Rat.mul_pos (by exact_mod_cast (Nat.pos_of_ne_zero hM0)) (zb E)
 constructor
 ·rintro q ⟨w,f,rfl,hw⟩ hq
  have hwb:=ziM hw f
  have hnn:(0:Rat)≤((cutN m st p false:Nat):Rat)*p2 (E+(n:Nat)):=Rat.mul_nonneg (natCast_nonneg _) (Rat.le_of_lt (zb _))
  rcases (show w≤0∨0<w by omega) with k1 | k1
  ·have k2:(w:Rat)≤0:=by exact_mod_cast k1
   have k3:=Rat.mul_nonneg (show (0:Rat) ≤ -(w:Rat) by grind) (Rat.le_of_lt (zb f))
   grind
  ·obtain ⟨v,rfl⟩:∃ v:Nat,w=(v:Int):=⟨w.natAbs,wa⟩
   rw [Int.natAbs_natCast] at hwb hw
   rw [Rat.intCast_natCast] at hq ⊢
   by_cases hf:E+(n:Nat)≤f
   ·obtain ⟨k,hk⟩:∃ k:Nat,f=E+(n:Nat)+(k:Nat):=⟨(f-(E+(n:Nat))).toNat,wa⟩
    have hq':(v:Rat)*p2 f<((m+1:Nat):Rat)*p2 E:=by grind
    rw [hk,qG _ k,← Rat.mul_assoc,qL (zb _),← Rat.natCast_mul]
    rw [hk,qG _ k,qG _ n,← Rat.mul_assoc,← Rat.mul_assoc,zgN (zb _),← Rat.natCast_mul,← Rat.natCast_mul] at hq'
    have k2:=zuX hq'
    apply zY
    unfold cutN
    rw [hnd]
    simp only [Bool.and_false,Bool.false_eq_true,if_false,Nat.add_zero]
    rw [Nat.le_div_iff_mul_le (Nat.pow_pos (by decide))]
    omega
   ·have k3:2 ^ (p-1)≤cutN m st p false:=by
     rcases hge with k3 | k3
     ·exact k3
     ·omega
    have k4:=zY k3
    have k5:=Rat.mul_le_mul_of_nonneg_right k4 (Rat.le_of_lt (zb (E+(n:Nat))))
    rw [← qG] at k5
    have:=qe (show f+(p:Nat)≤E+(n:Nat)+((p-1:Nat):Int) by omega)
    grind
 ·rintro q ⟨w,f,rfl,hw⟩ hq
  have hwb:=ziM hw f
  have hw0:0<w:=by
   rcases (show w≤0∨0<w by omega) with k1 | k1
   ·have k2:(w:Rat)≤0:=by exact_mod_cast k1
    have k3:=Rat.mul_nonneg (show (0:Rat) ≤ -(w:Rat) by grind) (Rat.le_of_lt (zb f))
    grind
   ·exact k1
  obtain ⟨v,rfl⟩:∃ v:Nat,w=(v:Int):=⟨w.natAbs,wa⟩
  rw [Int.natAbs_natCast] at hwb hw
  rw [Rat.intCast_natCast] at hq ⊢
  have k3:=Nat.div_add_mod m (2 ^ n)
  have k4:=Nat.mod_lt m hp2
  by_cases hf:E+(n:Nat)≤f
  ·obtain ⟨k,hk⟩:∃ k:Nat,f=E+(n:Nat)+(k:Nat):=⟨(f-(E+(n:Nat))).toNat,wa⟩
   have e1:(v:Rat)*p2 f=((v*2 ^ k*2 ^ n:Nat):Rat)*p2 E:=by
    rw [hk,qG _ k,qG _ n,← Rat.mul_assoc,← Rat.mul_assoc,← Rat.natCast_mul,← Rat.natCast_mul]
   have hc:cutN m st p true≤v*2 ^ k:=by
    have hle:(m:Rat)*p2 E≤((v*2 ^ k*2 ^ n:Nat):Rat)*p2 E:=by grind
    rw [qL (zb E)] at hle
    have hle:=ziL hle
    unfold cutN
    rw [hnd]
    simp only [Bool.and_true]
    have far:m<v*2 ^ k*2 ^ n→m / 2 ^ n+1≤v*2 ^ k:=by
     intro hlt
     have h5:m / 2 ^ n*2 ^ n<v*2 ^ k*2 ^ n:=by rw [Nat.mul_comm (m / 2 ^ n)]; omega
     exact Nat.lt_of_mul_lt_mul_right h5
    cases st with
    | true=>
     simp only [Bool.true_or,if_true]
     have hlt:(m:Rat)*p2 E<((v*2 ^ k*2 ^ n:Nat):Rat)*p2 E:=by have:=h4 rfl; grind
     rw [zgN (zb E)] at hlt
     exact far (zuX hlt)
    | false=>
     by_cases hr:m % 2 ^ n=0
     ·simp only [hr,bne_self_eq_false,Bool.or_false,Bool.false_eq_true,if_false,Nat.add_zero]
      have h6:m / 2 ^ n*2 ^ n≤v*2 ^ k*2 ^ n:=by rw [Nat.mul_comm (m / 2 ^ n)]; omega
      exact Nat.le_of_mul_le_mul_right h6 hp2
     ·have:(m % 2 ^ n != 0)=true:=by simpa using hr
      rw [this,Bool.false_or,wc rfl]
      refine far ?_
      rcases Nat.lt_or_ge m (v*2 ^ k*2 ^ n) with h7 | h7
      ·exact h7
      ·exfalso; apply hr
       have:m=v*2 ^ k*2 ^ n:=wa
       rw [this]; exact Nat.mul_mod_left _ _
   have hc':=Rat.mul_le_mul_of_nonneg_right (zY hc) (Rat.le_of_lt (zb (E+(n:Nat))))
   have e2:((v*2 ^ k:Nat):Rat)*p2 (E+(n:Nat))=(v:Rat)*p2 f:=by rw [hk,qG _ k,Rat.natCast_mul]; grind
   grind
  ·have h5:(m:Rat)*p2 E≤p2 (E+((n+p-1:Nat):Int)):=by
    have:=qe (show f+(p:Nat)≤E+((n+p-1:Nat):Int) by omega)
    grind
   have h7:p2 (E+((n+p-1:Nat):Int))≤(m:Rat)*p2 E:=by
    rw [qG,qL (zb E)]; exact zY wa
   have hst:st=false:=by
    cases st with
    | false=>rfl
    | true=>
     exfalso
     have:=h4 rfl
     have:=qe (show f+(p:Nat)≤E+((n+p-1:Nat):Int) by omega)
     grind
   rw [qG,qL (zb _)] at h5
   have h6:=ziL h5
   have hMe:m=2 ^ (n+p-1):=wa
   have hMd:m=2 ^ n*2 ^ (p-1):=by rw [hMe,← Nat.pow_add]; congr 1; omega
   have hc:cutN m st p true*2 ^ n=m:=by
    unfold cutN
    rw [hnd,hMd,Nat.mul_mod_right,Nat.mul_div_cancel_left _ hp2,hst]
    simp [Nat.mul_comm]
   rw [qG,← Rat.mul_assoc,← Rat.natCast_mul,hc]
   grind
theorem zCx {x y:D} (hy0:y.m≠0) {k:Nat} : val x / val y=sg (decide (x.m<0) != decide (y.m<0)) 1*(((x.m.natAbs*2 ^ k:Nat):Rat) / (y.m.natAbs:Rat)*p2 (x.e-y.e-k)):=by
 have hv0:val y≠0:=fun h=>hy0 ((zem y).1 h)
 have hYp:(0:Rat)<(y.m.natAbs:Rat):=by exact_mod_cast (show 0<y.m.natAbs by omega)
 have hvx:((x.m.natAbs*2 ^ k:Nat):Rat)*p2 (x.e-k)=(x.m.natAbs:Rat)*p2 x.e:=by
  rw [Rat.natCast_mul,Rat.mul_assoc,← qG]; congr 2; omega
 have hQ:((x.m.natAbs*2 ^ k:Nat):Rat) / (y.m.natAbs:Rat)*p2 (x.e-y.e-k)*((y.m.natAbs:Rat)*p2 y.e)=(x.m.natAbs:Rat)*p2 x.e:=by
  have e1:=ZJ (a:=((x.m.natAbs*2 ^ k:Nat):Rat)) (b:=(y.m.natAbs:Rat)) (by grind)
  have e2:p2 (x.e-y.e-k)*p2 y.e=p2 (x.e-k):=by rw [← zy]; congr 1; omega
  calc ((x.m.natAbs*2 ^ k:Nat):Rat) / (y.m.natAbs:Rat)*p2 (x.e-y.e-k)*((y.m.natAbs:Rat)*p2 y.e)=(((x.m.natAbs*2 ^ k:Nat):Rat) / (y.m.natAbs:Rat)*(y.m.natAbs:Rat))*(p2 (x.e-y.e-k)*p2 y.e):=by grind
   _=(x.m.natAbs:Rat)*p2 x.e:=by rw [e1,e2,hvx]
 generalize ((x.m.natAbs*2 ^ k:Nat):Rat) / (y.m.natAbs:Rat)*p2 (x.e-y.e-k)=Q at *
 apply zgu hv0
 by_cases h1:x.m<0<;>by_cases h2:y.m<0
 ·rw [ZI h1,ZI h2,show (decide (x.m<0) != decide (y.m<0))=false by simp [h1,h2],Qg]; grind
 ·rw [ZI h1,ZH h2,show (decide (x.m<0) != decide (y.m<0))=true by simp [h1,h2],Qi]; grind
 ·rw [ZH h1,ZI h2,show (decide (x.m<0) != decide (y.m<0))=true by simp [h1,h2],Qi]; grind
 ·rw [ZH h1,ZH h2,show (decide (x.m<0) != decide (y.m<0))=false by simp [h1,h2],Qg]; grind
theorem zdi {x y:D} (hy0:val y≠0) {p:Nat} (hp:1≤p) (up:Bool) (h:(divD x y p up).2=0):(up=false→∀ q,rep p q→q≤val x / val y→q≤val (divD x y p up).1)∧(up=true→∀ q,rep p q→val x / val y≤q→val (divD x y p up).1≤q)∧rep p (val (divD x y p up).1):=by
 have hym:y.m≠0:=fun h=>hy0 (QT h)
 unfold divD at *
 rw [we hym] at h ⊢
 by_cases hxm:x.m=0
 ·rw [wc hxm]
  have:val x / val y=0:=zgu hy0 (by rw [QT hxm,Rat.zero_mul])
  rw [this]
  refine ⟨fun _ q _ hq=>by rw [qT]; exact hq,fun _ q _ hq=>by rw [qT]; exact hq,⟨0,0,by rw [qT]; simp,wb⟩⟩
 rw [we hxm] at h ⊢
 rw [zc0 h]
 have hX0:x.m.natAbs≠0:=wa
 have hY0:y.m.natAbs≠0:=wa
 have hbv:=zcO hX0 (p+2+blen y.m.natAbs-blen x.m.natAbs)
 have hq:=zCx (x:=x) hym (k:=p+2+blen y.m.natAbs-blen x.m.natAbs)
 have hbX:p+2+blen y.m.natAbs≤blen (x.m.natAbs*2 ^ (p+2+blen y.m.natAbs-blen x.m.natAbs)):=wa
 generalize p+2+blen y.m.natAbs-blen x.m.natAbs=k at *
 generalize x.e-y.e-(k:Int)=E at *
 generalize x.m.natAbs*2 ^ k=v at *
 generalize y.m.natAbs=Y at *
 have hpE:=zb E
 have hYp:(0:Rat)<(Y:Rat):=by exact_mod_cast Nat.pos_of_ne_zero hY0
 have hdm:=Nat.div_add_mod v Y
 have hml:=Nat.mod_lt v (Nat.pos_of_ne_zero hY0)
 have hvq:(v:Rat) / (Y:Rat)*(Y:Rat)=(v:Rat):=ZJ (by grind)
 have hbm:p<blen (v / Y):=by
  have h1:2 ^ (p+1)≤v / Y:=by
   rw [Nat.le_div_iff_mul_le wa]
   have h2:=Zk Y
   have hv0:v≠0:=by intro h0; rw [h0,zag] at hbX; omega
   have h3:=QR hv0
   have h4:2 ^ (p+1)*Y≤2 ^ (p+1)*2 ^ blen Y:=Nat.mul_le_mul_left _ wa
   rw [← Nat.pow_add] at h4
   have h5:2 ^ (p+1+blen Y)≤2 ^ (blen v-1):=Nat.pow_le_pow_right (by decide) wa
   omega
  have h2:=Zk (v / Y)
  have h3:2 ^ (p+1)<2 ^ blen (v / Y):=wa
  have:=(Nat.pow_lt_pow_iff_right (a:=2) (by decide)).1 h3
  omega
 have hcast:(v:Rat)=(Y:Rat)*((v / Y:Nat):Rat)+((v % Y:Nat):Rat):=by
  rw [← Rat.natCast_mul,← Rat.natCast_add,hdm]
 have hz:(0:Rat)≤((v % Y:Nat):Rat):=natCast_nonneg _
 have hQ1:((v / Y:Nat):Rat)≤(v:Rat) / (Y:Rat):=by
  rw [← qL hYp,hvq]; grind
 have hQ3:(v:Rat) / (Y:Rat)<((v / Y+1:Nat):Rat):=by
  rw [← zgN hYp,hvq,Rat.natCast_add]
  have:((v % Y:Nat):Rat)<(Y:Rat):=zzK hml
  have e:((1:Nat):Rat)=1:=rfl
  rw [e]; grind
 have hQ2:(v % Y != 0)=false→(v:Rat) / (Y:Rat)≤((v / Y:Nat):Rat):=by
  intro h0
  have h0:v % Y=0:=by simpa using h0
  rw [← qL hYp,hvq,hcast,h0]
  have e:((0:Nat):Rat)=0:=rfl
  rw [e]; grind
 have hQ4:(v % Y != 0)=true→((v / Y:Nat):Rat)<(v:Rat) / (Y:Rat):=by
  intro h0
  have h0:v % Y≠0:=by simpa using h0
  have h1:(0:Rat)<((v % Y:Nat):Rat):=by exact_mod_cast Nat.pos_of_ne_zero h0
  rw [← zgN hYp,hvq,hcast]
  have:v / Y=(Y*(v / Y)+v % Y) / Y:=by rw [hdm]
  grind
 have hb:=zCw (m:=v / Y) (st:=v % Y != 0) (E:=E) (Q:=(v:Rat) / (Y:Rat)*p2 E) hp hbm (by rw [qL hpE]; exact hQ1) (fun h0=>by rw [qL hpE]; exact hQ2 h0) (by rw [zgN hpE]; exact hQ3) (fun h0=>by rw [zgN hpE]; exact hQ4 h0)
 have hrep:∀ neg s,rep p (val (Zt neg (v / Y) E (v % Y != 0) p s)):=fun neg s=>⟨sg neg (cutN (v / Y) (v % Y != 0) p s),E+(blen (v / Y)-p:Nat),Qf _ _ _ _ _ _,by rw [zbm]; exact zo9 _ _ _ _⟩
 rw [hq,Qf]
 refine ⟨?_,?_,by rw [← Qf]; exact hrep _ _⟩
 ·rintro rfl q hq1 hq2
  cases hs:(decide (x.m<0) != decide (y.m<0)) with
  | true=>
   rw [hs,Qi] at hq2
   rw [Qi,show (false != true)=true from rfl]
   have:=hb.2 (-q) (zb5 hq1) (by have e:((1:Nat):Rat)=1:=rfl; rw [e] at hq2; grind)
   grind
  | false=>
   rw [hs,Qg] at hq2
   rw [Qg,show (false != false)=false from rfl]
   exact hb.1 q hq1 (by have e:((1:Nat):Rat)=1:=rfl; rw [e] at hq2; grind)
 ·rintro rfl q hq1 hq2
  cases hs:(decide (x.m<0) != decide (y.m<0)) with
  | true=>
   rw [hs,Qi] at hq2
   rw [Qi,show (true != true)=false from rfl]
   have:=hb.1 (-q) (zb5 hq1) (by have e:((1:Nat):Rat)=1:=rfl; rw [e] at hq2; grind)
   grind
  | false=>
   rw [hs,Qg] at hq2
   rw [Qg,show (true != false)=true from rfl]
   exact hb.2 q hq1 (by have e:((1:Nat):Rat)=1:=rfl; rw [e] at hq2; grind)
theorem zCy (c:I):val (negI c).lo = -val c.hi∧val (negI c).hi = -val c.lo:=⟨qK _,qK _⟩
structure Quo (a b:I) (u v:Rat):Prop where
 h1:u≤val a.lo / val b.lo∧val a.lo / val b.lo≤v
 h2:u≤val a.lo / val b.hi∧val a.lo / val b.hi≤v
 h3:u≤val a.hi / val b.lo∧val a.hi / val b.lo≤v
 h4:u≤val a.hi / val b.hi∧val a.hi / val b.hi≤v
 mu:u=val a.lo / val b.lo∨u=val a.lo / val b.hi∨u=val a.hi / val b.lo∨u=val a.hi / val b.hi
 mv:v=val a.lo / val b.lo∨v=val a.lo / val b.hi∨v=val a.hi / val b.lo∨v=val a.hi / val b.hi
theorem zuY {a b c d:Rat} : ∃ u,(u≤a∧u≤b∧u≤c∧u≤d)∧(u=a∨u=b∨u=c∨u=d):=by
 have two:∀ x y:Rat,∃ u,(u≤x∧u≤y)∧(u=x∨u=y):=fun x y=>by
  rcases Rat.le_total (a:=x) (b:=y) with h | h
  ·exact ⟨x,⟨Rat.le_refl,h⟩,Or.inl rfl⟩
  ·exact ⟨y,⟨h,Rat.le_refl⟩,Or.inr rfl⟩
 obtain ⟨x,h1,h2⟩:=two a b
 obtain ⟨y,h3,h4⟩:=two c d
 obtain ⟨u,h5,h6⟩:=two x y
 exact ⟨u,⟨by grind,by grind,by grind,by grind⟩,by grind⟩
theorem zp5 {a b:I} {L H M K:Int} (ha:OkI a L H) (hb:OkI b M K) (hz:hasI b zD=false) {p:Nat} (hp:1≤p) (hL : -60000≤L-K-p-2) (hH:H-M+2≤60000) :
  ∃ c u v,Z0 p a b=(c,0)∧OkI c (L-K-p-2) (H-M+2)∧Enc p c u v∧Quo a b u v:=by
 obtain ⟨c,ec,oc,hc⟩:=zpf ha hb hz hp hL hH
 have hs:=ziQ hz
 have hble:=hb.le
 have hale:=ha.le
 have nl:val b.lo≠0:=by grind
 have nh:val b.hi≠0:=by grind
 obtain ⟨u,hu,mu⟩:=zuY (a:=val a.lo / val b.lo) (b:=val a.lo / val b.hi) (c:=val a.hi / val b.lo) (d:=val a.hi / val b.hi)
 obtain ⟨w,hw,mw⟩:=zuY (a:=-(val a.lo / val b.lo)) (b:=-(val a.lo / val b.hi)) (c:=-(val a.hi / val b.lo)) (d:=-(val a.hi / val b.hi))
 have q:Quo a b u (-w):=⟨⟨hu.1,by grind⟩,⟨hu.2.1,by grind⟩,⟨hu.2.2.1,by grind⟩,⟨hu.2.2.2,by grind⟩,mu,by grind⟩
 refine ⟨c,u,-w,ec,oc,?_,q⟩
 have c1:=hc _ _ Rat.le_refl hale Rat.le_refl hble
 have c2:=hc _ _ Rat.le_refl hale hble Rat.le_refl
 have c3:=hc _ _ hale Rat.le_refl Rat.le_refl hble
 have c4:=hc _ _ hale Rat.le_refl hble Rat.le_refl
 have ec2:=ec
 obtain ⟨q1,e1,-⟩:=Z1 ha.lo hb.lo nl hp false hL hH
 obtain ⟨q2,e2,-⟩:=Z1 ha.lo hb.hi nh hp false hL hH
 obtain ⟨q3,e3,-⟩:=Z1 ha.hi hb.lo nl hp false hL hH
 obtain ⟨q4,e4,-⟩:=Z1 ha.hi hb.hi nh hp false hL hH
 obtain ⟨r1,f1,-⟩:=Z1 ha.lo hb.lo nl hp true hL hH
 obtain ⟨r2,f2,-⟩:=Z1 ha.lo hb.hi nh hp true hL hH
 obtain ⟨r3,f3,-⟩:=Z1 ha.hi hb.lo nl hp true hL hH
 obtain ⟨r4,f4,-⟩:=Z1 ha.hi hb.hi nh hp true hL hH
 have b1:=zdi (x:=a.lo) nl hp false (by rw [e1])
 have b2:=zdi (x:=a.lo) nh hp false (by rw [e2])
 have b3:=zdi (x:=a.hi) nl hp false (by rw [e3])
 have b4:=zdi (x:=a.hi) nh hp false (by rw [e4])
 have g1:=zdi (x:=a.lo) nl hp true (by rw [f1])
 have g2:=zdi (x:=a.lo) nh hp true (by rw [f2])
 have g3:=zdi (x:=a.hi) nl hp true (by rw [f3])
 have g4:=zdi (x:=a.hi) nh hp true (by rw [f4])
 rw [e1] at b1
 rw [e2] at b2
 rw [e3] at b3
 rw [e4] at b4
 rw [f1] at g1
 rw [f2] at g2
 rw [f3] at g3
 rw [f4] at g4
 unfold Z0 Zf at ec2
 rw [hz,we wb] at ec2
 simp only [e1,e2,e3,e4,f1,f2,f3,f4] at ec2
 have hcv:c=⟨qk q1 q2 q3 q4,qf r1 r2 r3 r4⟩:=by
  have:((⟨qk q1 q2 q3 q4,qf r1 r2 r3 r4⟩:I),(0:Int))=(c,0):=ec2
  exact (congrArg Prod.fst this).symm
 have m1:=ztk q1 q2 q3 q4
 have m2:=ztl r1 r2 r3 r4
 have l1:val c.lo=val (qk q1 q2 q3 q4):=by rw [hcv]
 have l2:val c.hi=val (qf r1 r2 r3 r4):=by rw [hcv]
 refine ⟨by grind,by grind,fun y hy hyu=>?_,fun y hy hyv=>?_,?_,?_⟩
 ·have k1:=b1.1 rfl y hy (by grind)
  have k2:=b2.1 rfl y hy (by grind)
  have k3:=b3.1 rfl y hy (by grind)
  have k4:=b4.1 rfl y hy (by grind)
  simp only at k1 k2 k3 k4
  rw [l1]; rcases m1 with m | m | m | m<;>rw [m]<;>assumption
 ·have k1:=g1.2.1 rfl y hy (by grind)
  have k2:=g2.2.1 rfl y hy (by grind)
  have k3:=g3.2.1 rfl y hy (by grind)
  have k4:=g4.2.1 rfl y hy (by grind)
  simp only at k1 k2 k3 k4
  rw [l2]; rcases m2 with m | m | m | m<;>rw [m]<;>assumption
 ·rw [l1]; rcases m1 with m | m | m | m<;>rw [m]
  ·exact b1.2.2
  ·exact b2.2.2
  ·exact b3.2.2
  ·exact b4.2.2
 ·rw [l2]; rcases m2 with m | m | m | m<;>rw [m]
  ·exact g1.2.2
  ·exact g2.2.2
  ·exact g3.2.2
  ·exact g4.2.2
theorem zCz (k:Int) (x:R):x*ofQ (p2 1)=x+x:=by
 have:ofQ (p2 1)=2:=by rw [show (1:Int)=((1:Nat):Int) from rfl,qS]; rfl
 rw [this]; grind
theorem zCA (x:Rat):(x.floor:Rat)≤x∧x<(x.floor:Rat)+1:=⟨Rat.floor_le x,by have:=Rat.lt_floor_add_one x; rw [Rat.intCast_add] at this; exact this⟩
theorem zmy {p:Nat} {s:Int} {u:Rat} (h:B s u):∃ q,rep p q∧q≤u∧u-p2 (s-p)≤q:=by
 have hp:=zb (s-p)
 have hi:=zb (p-s)
 have e1:p2 (s-p)*p2 (p-s)=1:=by rw [← zy,show s-p+(p-s)=0 by omega,zN]
 have e2:p2 s*p2 (p-s)=((2 ^ p:Nat):Rat):=by rw [← zy,show s+(p-s)=((p:Nat):Int) by omega,qS]
 obtain ⟨f1,f2⟩:=zCA (u*p2 (p-s))
 generalize hz:(u*p2 (p-s)).floor=z at f1 f2
 have h1:=Rat.mul_le_mul_of_nonneg_right h.1 (Rat.le_of_lt hi)
 have h2:=Rat.mul_le_mul_of_nonneg_right h.2 (Rat.le_of_lt hi)
 have hzl : -((2 ^ p:Nat):Int)≤z:=by
  rcases Int.lt_or_le z (-((2 ^ p:Nat):Int)) with k | k
  ·have h3:(z:Rat)+1≤((-((2 ^ p:Nat):Int):Int):Rat):=by
    have:=Zl (show z+1 ≤ -((2 ^ p:Nat):Int) by omega)
    rwa [Rat.intCast_add] at this
   rw [Rat.intCast_neg,Rat.intCast_natCast] at h3
   grind
  ·exact k
 have hzh:z≤((2 ^ p:Nat):Int):=by
  rcases Int.lt_or_le ((2 ^ p:Nat):Int) z with k | k
  ·have h3:=ziy k
   rw [Rat.intCast_natCast] at h3
   grind
  ·exact k
 refine ⟨(z:Rat)*p2 (s-p),⟨z,s-p,rfl,wa⟩,?_,?_⟩
 ·have:=Rat.mul_le_mul_of_nonneg_right f1 (Rat.le_of_lt hp)
  have e:u*p2 (p-s)*p2 (s-p)=u:=by grind
  grind
 ·have:=Rat.mul_le_mul_of_nonneg_right (Rat.le_of_lt f2) (Rat.le_of_lt hp)
  have e:u*p2 (p-s)*p2 (s-p)=u:=by grind
  grind
theorem zeE {p:Nat} {c:I} {u v:Rat} (h:Enc p c u v) {s:Int} (hu:B s u) (hv:B s v):val c.hi-val c.lo≤v-u+2*p2 (s-p):=by
 obtain ⟨q,r1,q1,q2⟩:=zmy (p:=p) hu
 obtain ⟨t,r2,t1,t2⟩:=zmy (p:=p) hv.neg
 have h1:=h.blo q r1 q1
 have h2:=h.bhi (-t) (zb5 r2) (by grind)
 grind
theorem zgO {p:Nat} {c:I} {u v:Rat} (h:Enc p c u v) {s:Int} (hu:B s u) (hv:B s v) (hle:val c.lo≤val c.hi):B s (val c.lo)∧B s (val c.hi):=by
 have h1:=h.blo _ (zb5 (qM p s)) hu.1
 have h2:=h.bhi _ (qM p s) hv.2
 exact ⟨⟨h1,by grind⟩,⟨by grind,h2⟩⟩
structure HasW (r:I × Int) (x:R) (L H:Int) (w:Rat):Prop where
 h:Has r x L H
 w:val r.1.hi-val r.1.lo≤w
theorem HasW.mono {r:I × Int} {x:R} {L H L' H':Int} {w w':Rat} (h:HasW r x L H w) (h1:L'≤L) (h2:H≤H') (h3:w≤w'):HasW r x L' H' w':=⟨h.h.mono h1 h2,by have:=h.w; grind⟩
theorem HasW.eq {r:I × Int} {x y:R} {L H:Int} {w:Rat} (h:HasW r x L H w) (e:x=y):HasW r y L H w:=e ▸ h
theorem HasW.pair {r:I × Int} {x:R} {L H:Int} {w:Rat} (h:HasW r x L H w):HasW (r.1,0) x L H w:=⟨h.h.pair,h.w⟩
theorem zCB {x:D} {L H:Int} (h:Okd x L H):HasW (⟨x,x⟩,0) (ofQ (val x)) L H 0:=⟨zuP h,by show val x-val x≤0; grind⟩
theorem zmz {n:Int} {K:Nat} (hK:K≤60) (hn:n.natAbs≤2 ^ K):HasW (iS n 0) (n:R) 0 (K:Int) 0:=⟨zgK hK hn,by show val (fromD n)-val (fromD n)≤0; grind⟩
theorem zmA {r:I × Int} {x:R} {L H:Int} {w:Rat} (h:HasW r x L H w):HasW (nS r.1 0) (-x) L H w:=⟨zCp h.h,by
 have n:=zCy r.1
 show val (negI r.1).hi-val (negI r.1).lo≤w
 rw [n.1,n.2]; have:=h.w; grind⟩
theorem HasW.ends {r:I × Int} {x:R} {L H:Int} {w m:Rat} (h:HasW r x L H w) (hx:ab x≤ofQ m) : -(m+w)≤val r.1.lo∧val r.1.lo≤m∧-m≤val r.1.hi∧val r.1.hi≤m+w:=by
 have h1:=h.h.m.lo
 have h2:=h.h.m.hi
 have h3:=ab_le.1 hx
 have h4:val r.1.lo≤m:=zc.1 (by grind)
 have h5 : -m≤val r.1.hi:=zc.1 (by rw [Qj]; grind)
 have:=h.w
 exact ⟨by grind,h4,h5,by grind⟩
theorem zcd {r s:I × Int} {x y:R} {L H:Int} {w1 w2 m:Rat} {K:Int} (ha:HasW r x L H w1) (hb:HasW s y L H w2) (hm:ab (x+y)≤ofQ m) (hK:m+w1+w2≤p2 K) {p:Nat} (hp:1≤p) (hL : -60000≤L) (hH:H+1≤60000):HasW (aS p r.1 s.1 0) (x+y) L K (w1+w2+2*p2 (K-p)):=by
 obtain ⟨c,e,o,en⟩:=zbs ha.h.ok hb.h.ok hp hL hH
 have h:=zCq ha.h hb.h hp hL hH
 have e':aS p r.1 s.1 0=(c,0):=e
 have l1:=zc.2 (Rat.le_refl (a:=val r.1.lo))
 have h1:=ha.h.m.lo; have h2:=ha.h.m.hi; have h3:=hb.h.m.lo; have h4:=hb.h.m.hi
 have h5:=ab_le.1 hm
 have u1:val r.1.lo+val s.1.lo≤m:=zc.1 (by rw [zP]; grind)
 have v1 : -m≤val r.1.hi+val s.1.hi:=zc.1 (by rw [zP,Qj]; grind)
 have k1:=ha.w; have k2:=hb.w; have k3:=ha.h.ok.le; have k4:=hb.h.ok.le
 have bu:B K (val r.1.lo+val s.1.lo):=⟨by grind,by grind⟩
 have bv:B K (val r.1.hi+val s.1.hi):=⟨by grind,by grind⟩
 have b:=zgO en bu bv o.le
 have w:=zeE en bu bv
 rw [e'] at h ⊢
 exact ⟨⟨rfl,⟨⟨o.lo.w,o.lo.g,b.1⟩,⟨o.hi.w,o.hi.g,b.2⟩,o.le⟩,h.m⟩,by grind⟩
theorem zmB {r s:I × Int} {x y:R} {L H:Int} {w1 w2 m:Rat} {K:Int} (ha:HasW r x L H w1) (hb:HasW s y L H w2) (hm:ab (x-y)≤ofQ m) (hK:m+w1+w2≤p2 K) {p:Nat} (hp:1≤p) (hL : -60000≤L) (hH:H+1≤60000):HasW (suS p r.1 s.1 0) (x-y) L K (w1+w2+2*p2 (K-p)):=by
 have h:=zcd ha (zmA hb) (m:=m) (K:=K) (by rw [show x + -y=x-y by grind]; exact hm) hK hp hL hH
 exact HasW.eq h (by grind)
theorem zCC {a b a' b' A C w1 w2:Rat} (ha : -A≤a∧a≤A) (hb' : -C≤b'∧b'≤C) (h1 : -w1≤a-a'∧a-a'≤w1) (h2 : -w2≤b-b'∧b-b'≤w2):a*b-a'*b'≤A*w2+C*w1:=by
 have k1:=(zlX ha h2).2
 have k2:=(zlX hb' h1).2
 have e:a*b-a'*b'=a*(b-b')+b'*(a-a'):=by grind
 grind
theorem zdj {r s:I × Int} {x y:R} {L H M K:Int} {w1 w2:Rat} (ha:HasW r x L H w1) (hb:HasW s y M K w2) {p:Nat} (hp:1≤p) (hL : -60000≤L+M) (hH:H+K≤60000):HasW (mS p r.1 s.1 0) (x*y) (L+M) (H+K) (p2 H*w2+p2 K*w1+2*p2 (H+K-p)):=by
 obtain ⟨c,u,v,e,o,en,pr⟩:=zak ha.h.ok hb.h.ok hp hL hH
 have h:=zi9 ha.h hb.h hp hL hH
 have e':mS p r.1 s.1 0=(c,0):=e
 have k1:=ha.w; have k2:=hb.w; have k3:=ha.h.ok.le; have k4:=hb.h.ok.le
 have a1:=ha.h.ok.lo.b; have a2:=ha.h.ok.hi.b; have b1:=hb.h.ok.lo.b; have b2:=hb.h.ok.hi.b
 have bu:B (H+K) u:=by rcases pr.mu with q | q | q | q<;>rw [q]<;>exact B.mul (by assumption) (by assumption)
 have bv:B (H+K) v:=by rcases pr.mv with q | q | q | q<;>rw [q]<;>exact B.mul (by assumption) (by assumption)
 have hd:v-u≤p2 H*w2+p2 K*w1:=by
  unfold B at a1 a2 b1 b2
  rcases pr.mv with q | q | q | q<;>rcases pr.mu with t | t | t | t<;>rw [q,t]<;>exact zCC (by assumption) (by assumption) (by constructor<;>grind) (by constructor<;>grind)
 have w:=zeE en bu bv
 rw [e'] at h ⊢
 exact ⟨h,by grind⟩
theorem zuZ {n:Nat} (hn:0<n) (x:Rat):x / val (intI (n:Int)).lo*(n:Rat)=x:=by
 have e:val (intI (n:Int)).lo=(n:Rat):=by rw [show (intI (n:Int)).lo=fromD (n:Int) from rfl,QD]; exact Rat.intCast_natCast n
 rw [e]
 have:(0:Rat)<(n:Rat):=by exact_mod_cast hn
 exact ZJ (by grind)
theorem zjb {r:I × Int} {x z:R} {L H:Int} {w:Rat} (ha:HasW r x L H w) {n k:Nat} (hk:k≤60) (h0:0<n) (hn:n≤2 ^ k) {j:Int} (hj:p2 j≤(n:Rat)) (hz:z*(n:R)=x) {p:Nat} (hp:1≤p) (hL : -60000≤L-k-p-2) (hH:H+2≤60000):HasW (dS p r.1 (iS (n:Int) 0).1 0) z (L-k-p-2) (H-j) (w*p2 (-j)+2*p2 (H-j-p)):=by
 obtain ⟨c,u,v,e,o,en,q⟩:=zp5 (p:=p) ha.h.ok (zp2 hk hn).ok (zuT h0) hp hL wa
 have h:=zCt ha.h hk h0 hn hz hp hL hH
 have e':dS p r.1 (iS (n:Int) 0).1 0=(c,0):=e
 have k1:=ha.w; have k3:=ha.h.ok.le
 have a1:=ha.h.ok.lo.b; have a2:=ha.h.ok.hi.b
 have hnr:(0:Rat)<(n:Rat):=by exact_mod_cast h0
 have hpj:=zb (-j)
 have ej:p2 (-j)*p2 j=1:=by rw [← zy,show -j+j=0 by omega,zN]
 have ejn:1≤p2 (-j)*(n:Rat):=by have:=Rat.mul_le_mul_of_nonneg_left hj (Rat.le_of_lt hpj); grind
 have eH:p2 (H-j)=p2 H*p2 (-j):=by rw [← zy]; congr 1
 have hi:(iS (n:Int) 0).1=intI (n:Int):=rfl
 have lohi:(intI (n:Int)).hi=(intI (n:Int)).lo:=rfl
 rw [hi] at q
 have d1:=zuZ h0 (val r.1.lo)
 have d2:=zuZ h0 (val r.1.hi)
 have qu:=q.mu
 have qv:=q.mv
 rw [lohi] at qu qv
 have bdd:∀ x:Rat,B H (x*(n:Rat))→B (H-j) x:=by
  intro x hx
  unfold B at *
  rw [eH]
  have k5:=Rat.mul_le_mul_of_nonneg_left ejn (Rat.le_of_lt (zb H))
  constructor
  ·rw [← qL hnr]; grind
  ·rw [← qL hnr]; grind
 have bu:B (H-j) u:=bdd u (by rcases qu with k | k | k | k<;>rw [k]<;>first | (rw [d1]; exact a1) | (rw [d2]; exact a2))
 have bv:B (H-j) v:=bdd v (by rcases qv with k | k | k | k<;>rw [k]<;>first | (rw [d1]; exact a1) | (rw [d2]; exact a2))
 have hd:v-u≤w*p2 (-j):=by
  have hw0:0≤w:=by grind
  have k5:=Rat.mul_le_mul_of_nonneg_left ejn hw0
  rw [← qL hnr]
  have:(v-u)*(n:Rat)≤w:=by
   rcases qu with k | k | k | k<;>rcases qv with t | t | t | t<;>rw [k,t]<;>grind
  grind
 have wd:=zeE en bu bv
 have b:=zgO en bu bv o.le
 rw [e'] at h ⊢
 exact ⟨⟨rfl,⟨⟨o.lo.w,o.lo.g.mono wa,b.1⟩,⟨o.hi.w,o.hi.g.mono wa,b.2⟩,o.le⟩,h.m⟩,by grind⟩
theorem zjc {r:I × Int} {x y:R} {L H:Int} {w m:Rat} {K:Int} (ha:HasW r x L H w) {d:D} (hd:Okd d L H) (hxy:ab (y-x)≤ofQ (val d)) (hm:ab x≤ofQ m) (hK:m+w+val d≤p2 K) {p:Nat} (hp:1≤p) (hL : -60000≤L) (hH:H+1≤60000):HasW (wS p r.1 d 0) y L K (w+2*val d+2*p2 (K-p)):=by
 have h0:0≤val d:=by
  have:=zm (y-x)
  exact zc.1 (zj this hxy)
 obtain ⟨c,e,o,en⟩:=zl1 ha.h.ok hd h0 hp hL hH
 have h:=zCs ha.h hd hxy hp hL hH
 have e':wS p r.1 d 0=(c,0):=e
 have q:=ha.ends hm
 have k1:=ha.w; have k3:=ha.h.ok.le
 have bu:B K (val r.1.lo-val d):=⟨by grind,by grind⟩
 have bv:B K (val r.1.hi+val d):=⟨by grind,by grind⟩
 have b:=zgO en bu bv o.le
 have wd:=zeE en bu bv
 rw [e'] at h ⊢
 exact ⟨⟨rfl,⟨⟨o.lo.w,o.lo.g,b.1⟩,⟨o.hi.w,o.hi.g,b.2⟩,o.le⟩,h.m⟩,by grind⟩
theorem zce {r:I × Int} {x:R} {L H n:Int} {w:Rat} (ha:HasW r x L H w) (hL : -60000≤L+n) (hH:H+n≤60000):HasW (scS r.1 n 0) (x*ofQ (p2 n)) (L+n) (H+n) (w*p2 n):=by
 obtain ⟨c,e,o,e1,e2⟩:=zes ha.h.ok hL hH
 have h:=zCr ha.h hL hH
 have e':scS r.1 n 0=(c,0):=e
 rw [e'] at h ⊢
 refine ⟨h,?_⟩
 show val c.hi-val c.lo≤w*p2 n
 have:=Rat.mul_le_mul_of_nonneg_right ha.w (Rat.le_of_lt (zb n))
 rw [e1,e2]; grind
theorem Zw {p:Nat} {q:Rat} (h:rep p q) {l:Int} (hl:p2 l≤q):G (l-p) q:=by
 obtain ⟨w,f,rfl,hw⟩:=h
 have hwb:=ziM hw f
 have h1:(w:Rat)≤(w.natAbs:Rat):=by
  have:=Zl (show w≤(w.natAbs:Int) by omega)
  rwa [Rat.intCast_natCast] at this
 have h2:=Rat.mul_le_mul_of_nonneg_right h1 (Rat.le_of_lt (zb f))
 have h3:p2 l≤p2 (f+(p:Nat)):=by grind
 have:=zgp.1 h3
 exact G.of wa
theorem zmC (i:Nat) (d:Rat):((i+1:Nat):Rat)*d=(i:Rat)*d+d:=by rw [Rat.natCast_add]; have:((1:Nat):Rat)=1:=rfl; rw [this]; grind
theorem zp6 {i j:Nat} (h:i≤j) {d:Rat} (hd:0≤d):(i:Rat)*d≤(j:Rat)*d:=Rat.mul_le_mul_of_nonneg_right (zY h) hd
theorem zu0 {p:Nat} (hp:1≤p) (next:Nat→I→Int→I × I × Int) (T P Su:Nat→R) {L0 c:Int} {Hh:Int} {wt wp m w0:Rat} (hc:0≤c) {N:Nat} (hS:∀ i,Su (i+1)=Su i+P (i+1)) (hwp:0≤wp)
  (hn:∀ i t,i<N→HasW (t,0) (T i) (L0-c*i) Hh wt→(next (i+1) t 0).2.2=0∧HasW ((next (i+1) t 0).1,0) (T (i+1)) (L0-c*(i+1:Nat)) Hh wt∧HasW ((next (i+1) t 0).2.1,0) (P (i+1)) (L0-c*(i+1:Nat)) Hh wp)
  (hSu:∀ i,ab (Su i)≤ofQ m) (hK:m+(w0+(N:Rat)*(wp+2*p2 (-(p:Int))))≤1) (hL : -60000≤L0-c*N) (hH:Hh≤0) :
  ∀ (k i:Nat) (s t:I),i+k=N→HasW (s,0) (Su i) (L0-c*i) 0 (w0+(i:Rat)*(wp+2*p2 (-(p:Int))))→HasW (t,0) (T i) (L0-c*i) Hh wt→HasW (qX p next k i s t 0) (Su N) (L0-c*N) 0 (w0+(N:Rat)*(wp+2*p2 (-(p:Int)))):=by
 intro k
 induction k with
 | zero=>
  intro i s t hi hs _
  have:i=N:=wa
  subst this
  exact hs
 | succ k ih=>
  intro i s t hi hs ht
  obtain ⟨n1,n2,n3⟩:=hn i t wa ht
  have e1:=zgL c i
  have m1:=zgM hc (show i+1≤N by omega)
  have hpp:=zb (-(p:Int))
  have d1:=zmC i (wp+2*p2 (-(p:Int)))
  have d2:=zp6 (show i+1≤N by omega) (show 0≤wp+2*p2 (-(p:Int)) by grind)
  have h1:=zcd (p:=p) (K:=0) (m:=m) (hs.mono (L':=L0-c*(i+1:Nat)) (H':=0) wa wa Rat.le_refl) (n3.mono (Int.le_refl _) (H':=0) wa Rat.le_refl) (by rw [← hS i]; exact hSu _) (by rw [zN]; grind) hp wa wa
  rw [qX,n1]
  have h2:=ih (i+1) _ _ wa ((h1.mono (Int.le_refl _) (Int.le_refl _) (w':=w0+((i+1:Nat):Rat)*(wp+2*p2 (-(p:Int)))) (by rw [show (0:Int)-(p:Int) = -(p:Int) by omega]; grind)).eq (hS i).symm).pair n2
  rw [h1.h.e]; exact h2
theorem zCD {y:I} {x:R} {L H l:Int} {w:Rat} (hy:HasW (y,0) x L H w) (hl:p2 l≤val y.lo) {p:Nat} (hp:1≤p) (hL : -60000≤L+L) (hH:H+H≤60000):HasW (mS p y y 0) (x*x) (l+l-p) (H+H) (2*(p2 H*w)+2*p2 (H+H-p)):=by
 have h:=zdj hy hy hp hL hH
 obtain ⟨c,u,v,e,o,en,pr⟩:=zak hy.h.ok hy.h.ok hp hL hH
 have e':mS p y y 0=(c,0):=by show st 0 zI (Qw p y y)=_; rw [zd]; exact e
 have e'':mS p (y,(0:Int)).1 (y,(0:Int)).1 0=(c,0):=e'
 rw [e''] at h
 rw [e']
 have hle:=hy.h.ok.le
 have hlo:p2 l≤val y.lo:=hl
 have hhi:p2 l≤val y.hi:=by have:val y.lo≤val y.hi:=hle; grind
 have hp0:=zb l
 have mm:∀ a b:Rat,p2 l≤a→p2 l≤b→p2 (l+l)≤a*b:=fun a b ha hb=>by
  rw [zy]
  have h1:=Rat.mul_le_mul_of_nonneg_right ha (Rat.le_of_lt hp0)
  have h2:=Rat.mul_le_mul_of_nonneg_left hb (show 0≤a by grind)
  grind
 have hu:p2 (l+l)≤u:=by rcases pr.mu with k | k | k | k<;>rw [k]<;>exact mm _ _ (by assumption) (by assumption)
 have b1:=en.blo _ (qM p (l+l)) hu
 have ol:=o.le
 exact ⟨⟨rfl,⟨⟨o.lo.w,Zw en.rlo b1,o.lo.b⟩,⟨o.hi.w,Zw en.rhi (by grind),o.hi.b⟩,o.le⟩,h.h.m⟩,by have:=h.w; grind⟩
theorem zCE {p:Nat} : p2 (-1-(p:Int))=p2 (-(p:Int)) / 2:=by
 have:=zlW (-1-(p:Int))
 rw [show -1-(p:Int)+1 = -(p:Int) by omega] at this
 grind
theorem zjd {a:Nat→R} (h0:a 0=0) (h:∀ n,ab (a n)≤1) {t w x:R} (hg:Geo t w) (hx:ab x≤t) (k:Nat):ab (psum a x (k+1))≤w*t:=by
 have h1:=zms (PB.one h) hg (x:=x) (by grind) 1 k
 have e1:psum a x 1=0:=by show 0+a 0*x ^ 0=0; rw [h0]; grind
 rw [e1,show 1+k=k+1 by omega,show t ^ 1=t by rw [zB,zZ]; grind] at h1
 have h2:psum a x (k+1)-0=psum a x (k+1):=by grind
 rw [h2] at h1
 have h3:=zf (show 0≤w by have:=hg.pos; grind) (pow_nonneg hg.h0 (k+1))
 grind
theorem zu1 {p:Nat} (hp:2≤p∧p≤400) {y:I} {x:R} {L Lq H Hq:Int} {w wq wt wp m:Rat} (hy:HasW (y,0) x L H w) (hq:HasW (mS p y y 0) (x*x) Lq Hq wq) (hH:H ≤ -1) (hHq:Hq≤0) (hL0:L≤0) (hLq:Lq≤0) (hw:w≤wt) (hwt:p2 H*wq+p2 Hq*wt+2*p2 (H+Hq-p)≤wt) (hwp:wt*p2 (-1)+2*p2 (H-1-p)≤wp) (hm:∀ k,ab (psum atc x (k+1))≤ofQ m) (hK:m+(wt+((p / 2+4:Nat):Rat)*(wp+2*p2 (-(p:Int))))+p2 (-(p:Int))≤1) {M:Int} (hM:M≤L-(p+20-Lq)*(p / 2+4:Nat)) (hM' : -60000≤M):HasW (QX p y) (A x) M 0 (wt+((p / 2+4:Nat):Rat)*(wp+2*p2 (-(p:Int)))+4*p2 (-(p:Int))):=by
 have hpp:=zb (-(p:Int))
 have hwt0:0≤wt:=by have:=hy.w; have:=hy.h.ok.le; grind
 have hp1:=zb (-1)
 have hp3:=zb (H-1-p)
 have hwp0:0≤wp:=by have:=Rat.mul_nonneg hwt0 (Rat.le_of_lt hp1); grind
 unfold QX
 rw [wc (zeD (hy.h.ok.mono (Int.le_refl _) (show H ≤ -1 from hH)))]
 have hcN:=zp3 (c:=p+20-Lq) (N:=p / 2+4) wa wa
 have h:=zu0 (p:=p) wa (Qy p (mS p y y 0).1) (fun i=>sS (2*i+1)*x ^ (2*i+1)) (fun i=>atc (2*i+1)*x ^ (2*i+1)) (fun i=>psum atc x (2*i+2)) (L0:=L) (c:=p+20-Lq) (Hh:=H) (wt:=wt) (wp:=wp) (m:=m) (w0:=wt) wa (N:=p / 2+4) (fun i=>zCm x i) hwp0 (by
  intro i t hiN ht
  have m1:=zgM (c:=p+20-Lq) wa (show i+1≤p / 2+4 by omega)
  have e1:=zgL (p+20-Lq) i
  have h1:=zdj (p:=p) ht hq wa wa wa
  have h2:=(zmA h1).eq (y:=sS (2*(i+1)+1)*x ^ (2*(i+1)+1)) (by
   rw [show 2*(i+1)+1=2*i+1+2 by omega,zuM,zB x (2*i+1+1),zB x (2*i+1)]; grind)
  have h2:=h2.mono (Int.le_refl _) (show H+Hq≤H by omega) hwt
  have h3:=zjb (p:=p) (z:=atc (2*(i+1)+1)*x ^ (2*(i+1)+1)) h2 (n:=2*(i+1)+1) (k:=10) wa wa wa (j:=1) (by rw [show (1:Int)=((1:Nat):Int) from rfl,qS]; exact zY wa) (by
   rw [atc]; exact zgJ _ _ _) wa wa wa
  unfold Qy ziX
  rw [h1.h.e,h2.h.e,show (iS ((2*(i+1)+1:Nat):Int) 0).2=0 from rfl]
  exact ⟨h3.h.e,(h2.mono wa wa Rat.le_refl).pair,(h3.mono wa wa hwp).pair⟩) (fun i=>hm _) (by grind) wa wa (p / 2+4) 0 y y wa
  ((hy.mono wa wa (by have:((0:Nat):Rat)=0:=rfl; rw [this]; grind)).eq (by
   show x=0+atc 0*x ^ 0+atc 1*x ^ (0+1)
   have h1:=zgJ (sS 1) x 0
   rw [show ((0+1:Nat):R)=1 from rfl] at h1
   rw [zB,zZ,atc,atc,show sS 0=0 from rfl,show sS 1=1 from rfl,show ((1:Nat):R)=1 from rfl]
   rw [show sS 1=1 from rfl] at h1
   grind))
  ((hy.mono wa wa hw).eq (by
   show x=sS 1*x ^ (0+1)
   rw [zB,zZ,show sS 1=1 from rfl]; grind))
 have hx:=zp4 (zeD (hy.h.ok.mono (Int.le_refl _) (show H ≤ -1 from hH))) hy.h.m
 rw [hq.h.e]
 unfold qH
 rw [h.h.e]
 have hf1:=zmv (show p+1≤2*(p / 2+4)+2 by omega)
 have hf2:=zmx p
 have h5:=zjc (p:=p) (K:=0) (m:=m) (h.mono (L':=M) (H':=0) wa wa Rat.le_refl) (d:=⟨1,-(p:Int)⟩) (zcc wa wa wa) (y:=A x) (by
  rw [qC,zja]
  exact zj (zpZ (zas rfl fun n=>(zdb n).1) hx _) (by grind)) (hm _) (by rw [qC,zN]; grind) wa wa wa
 refine h5.mono (Int.le_refl _) (Int.le_refl _) ?_
 rw [qC,show (0:Int)-(p:Int) = -(p:Int) by omega]; grind
theorem zCF {p:Nat} (hp:2≤p∧p≤400) {y:I} {x:R} {L Lq H Hq:Int} {w wq wt wp m:Rat} (hy:HasW (y,0) x L H w) (hq:HasW (mS p y y 0) (x*x) Lq Hq wq) (hH:H ≤ -1) (hHq:Hq≤0) (hL0:L≤0) (hLq:Lq≤0) (hw:w≤wt) (hwt:p2 H*wq+p2 Hq*wt+2*p2 (H+Hq-p)≤wt) (hwp:wt*p2 (-1)+2*p2 (H-1-p)≤wp) (hm:∀ k,ab (psum ahc x (k+1))≤ofQ m) (hK:m+(wt+((p / 2+4:Nat):Rat)*(wp+2*p2 (-(p:Int))))+p2 (-(p:Int))≤1) {M:Int} (hM:M≤L-(p+20-Lq)*(p / 2+4:Nat)) (hM' : -60000≤M):HasW (QY p y) (An.H x) M 0 (wt+((p / 2+4:Nat):Rat)*(wp+2*p2 (-(p:Int)))+4*p2 (-(p:Int))):=by
 have hpp:=zb (-(p:Int))
 have hwt0:0≤wt:=by have:=hy.w; have:=hy.h.ok.le; grind
 have hp1:=zb (-1)
 have hp3:=zb (H-1-p)
 have hwp0:0≤wp:=by have:=Rat.mul_nonneg hwt0 (Rat.le_of_lt hp1); grind
 unfold QY
 rw [wc (zeD (hy.h.ok.mono (Int.le_refl _) (show H ≤ -1 from hH)))]
 have hcN:=zp3 (c:=p+20-Lq) (N:=p / 2+4) wa wa
 have h:=zu0 (p:=p) wa (Z2 p (mS p y y 0).1) (fun i=>od (2*i+1)*x ^ (2*i+1)) (fun i=>ahc (2*i+1)*x ^ (2*i+1)) (fun i=>psum ahc x (2*i+2)) (L0:=L) (c:=p+20-Lq) (Hh:=H) (wt:=wt) (wp:=wp) (m:=m) (w0:=wt) wa (N:=p / 2+4) (fun i=>zuN x i) hwp0 (by
  intro i t hiN ht
  have m1:=zgM (c:=p+20-Lq) wa (show i+1≤p / 2+4 by omega)
  have e1:=zgL (p+20-Lq) i
  have h1:=zdj (p:=p) ht hq wa wa wa
  have h2:=h1.eq (y:=od (2*(i+1)+1)*x ^ (2*(i+1)+1)) (by
   rw [show 2*(i+1)+1=2*i+1+2 by omega,zpX,zB x (2*i+1+1),zB x (2*i+1)]; grind)
  have h2:=h2.mono (Int.le_refl _) (show H+Hq≤H by omega) hwt
  have h3:=zjb (p:=p) (z:=ahc (2*(i+1)+1)*x ^ (2*(i+1)+1)) h2 (n:=2*(i+1)+1) (k:=10) wa wa wa (j:=1) (by rw [show (1:Int)=((1:Nat):Int) from rfl,qS]; exact zY wa) (by
   rw [ahc]; exact zgJ _ _ _) wa wa wa
  unfold Z2 ziX
  rw [h2.h.e,show (iS ((2*(i+1)+1:Nat):Int) 0).2=0 from rfl]
  exact ⟨h3.h.e,(h2.mono wa wa Rat.le_refl).pair,(h3.mono wa wa hwp).pair⟩) (fun i=>hm _) (by grind) wa wa (p / 2+4) 0 y y wa
  ((hy.mono wa wa (by have:((0:Nat):Rat)=0:=rfl; rw [this]; grind)).eq (by
   show x=0+ahc 0*x ^ 0+ahc 1*x ^ (0+1)
   have h1:=zgJ (od 1) x 0
   rw [show ((0+1:Nat):R)=1 from rfl] at h1
   rw [zB,zZ,ahc,ahc,show od 0=0 from rfl,show od 1=1 from rfl,show ((1:Nat):R)=1 from rfl]
   rw [show od 1=1 from rfl] at h1
   grind))
  ((hy.mono wa wa hw).eq (by
   show x=od 1*x ^ (0+1)
   rw [zB,zZ,show od 1=1 from rfl]; grind))
 have hx:=zp4 (zeD (hy.h.ok.mono (Int.le_refl _) (show H ≤ -1 from hH))) hy.h.m
 rw [hq.h.e]
 unfold qH
 rw [h.h.e]
 have hf1:=zmv (show p+1≤2*(p / 2+4)+2 by omega)
 have hf2:=zmx p
 have h5:=zjc (p:=p) (K:=0) (m:=m) (h.mono (L':=M) (H':=0) wa wa Rat.le_refl) (d:=⟨1,-(p:Int)⟩) (zcc wa wa wa) (y:=An.H x) (by
  rw [qC,zja]
  exact zj (zpZ (zas rfl fun n=>(zdf n).1) hx _) (by grind)) (hm _) (by rw [qC,zN]; grind) wa wa wa
 refine h5.mono (Int.le_refl _) (Int.le_refl _) ?_
 rw [qC,show (0:Int)-(p:Int) = -(p:Int) by omega]; grind
end Go.Proofs.YtjffljhmjdljeaaGreat.Gen
namespace Go.An
open Go.IntKind (i64 u64 u32)
open Go.Abs (wa wb wc we)
def q4:Nat→Rat × Rat
 | 0=>(0,1)
 | n+1=>((q4 n).2,-(q4 n).1)
def atq (n:Nat):Rat:=(q4 n).1*(n:Rat)⁻¹
def qeo:Nat→Rat × Rat
 | 0=>(0,1)
 | n+1=>((qeo n).2,(qeo n).1)
def ahq (n:Nat):Rat:=(qeo n).1*(n:Rat)⁻¹
def qsum (a:Nat→Rat) (x:Rat):Nat→Rat
 | 0=>0
 | n+1=>qsum a x n+a n*x ^ n
theorem zCG (n:Nat):sg4 n=(ofQ (q4 n).1,ofQ (q4 n).2):=by
 induction n with
 | zero=>rfl
 | succ n ih=>rw [sg4,q4,ih,Qj]
theorem zCH (n:Nat):eo n=(ofQ (qeo n).1,ofQ (qeo n).2):=by
 induction n with
 | zero=>rfl
 | succ n ih=>rw [eo,qeo,ih]
theorem zu2 {a:R} {q:Rat} {n:Nat} (h:a=ofQ q) (h0:n=0→q=0):a*((n:Nat):R)⁻¹=ofQ (q*(n:Rat)⁻¹):=by
 cases n with
 | zero=>rw [h,h0 rfl,Rat.zero_mul]; show (0:R)*_=0; grind
 | succ n=>rw [h,zk,zmr (by exact_mod_cast Nat.succ_ne_zero n),zc6]
theorem zCI (n:Nat):atc n=ofQ (atq n):=zu2 (by rw [sS,zCG]) (by rintro rfl; rfl)
theorem zCJ (n:Nat):ahc n=ofQ (ahq n):=zu2 (by rw [od,zCH]) (by rintro rfl; rfl)
theorem zp7 {a:Nat→R} {b:Nat→Rat} (h:∀ n,a n=ofQ (b n)) (x:Rat) (n:Nat):psum a (ofQ x) n=ofQ (qsum b x n):=by
 induction n with
 | zero=>rfl
 | succ n ih=>rw [psum,qsum,ih,h,zP,zk,zc8]
theorem zgP {q:Rat} (h0:0≤q) (h1:q<1):Geo (ofQ q) (ofQ (1-q)⁻¹):=⟨zc.2 h0,Zi.2 h1,by
 rw [← zap,← ZL,← zk,Rat.inv_mul_cancel _ (by grind)]⟩
theorem zu3 {a:Nat→R} {b:Nat→Rat} (h:∀ n,a n=ofQ (b n)) (hb:∀ n,ab (a n)≤1) {q:Rat} (h0:0≤q) (h1:q<1) (n:Nat):ofQ (qsum b q n-(1-q)⁻¹*q ^ n)≤ps a (ofQ q)∧ps a (ofQ q)≤ofQ (qsum b q n+(1-q)⁻¹*q ^ n):=by
 have h2:=zi5 (PB.one hb) (zgP h0 h1) (x:=ofQ q) (by rw [qi (zc.2 h0)]; grind) n
 rw [zp7 h,← zc8] at h2
 have h3:=ab_le.1 h2
 rw [ZL,zP,zk]
 exact ⟨by grind,by grind⟩
theorem A_q {q:Rat} (h0:0≤q) (h1:q<1) (n:Nat):ofQ (qsum atq q n-(1-q)⁻¹*q ^ n)≤A (ofQ q)∧A (ofQ q)≤ofQ (qsum atq q n+(1-q)⁻¹*q ^ n):=zu3 zCI (zas rfl fun n=>(zdb n).1) h0 h1 n
theorem H_q {q:Rat} (h0:0≤q) (h1:q<1) (n:Nat):ofQ (qsum ahq q n-(1-q)⁻¹*q ^ n)≤H (ofQ q)∧H (ofQ q)≤ofQ (qsum ahq q n+(1-q)⁻¹*q ^ n):=zu3 zCJ (zas rfl fun n=>(zdf n).1) h0 h1 n
theorem zu4:(31415926535897932384626433832794 / 10000000000000000000000000000000:Rat)≤16*(qsum atq (1 / 5) 50-(1-1 / 5)⁻¹*(1 / 5) ^ 50)-4*(qsum atq (1 / 239) 16+(1-1 / 239)⁻¹*(1 / 239) ^ 16)∧16*(qsum atq (1 / 5) 50+(1-1 / 5)⁻¹*(1 / 5) ^ 50)-4*(qsum atq (1 / 239) 16-(1-1 / 239)⁻¹*(1 / 239) ^ 16)≤(31415926535897932384626433832796 / 10000000000000000000000000000000:Rat):=by decide +kernel
theorem zu5:(6931471805599453094172321214581 / 10000000000000000000000000000000:Rat)≤2*(qsum ahq (1 / 3) 74-(1-1 / 3)⁻¹*(1 / 3) ^ 74)∧2*(qsum ahq (1 / 3) 74+(1-1 / 3)⁻¹*(1 / 3) ^ 74)≤(6931471805599453094172321214583 / 10000000000000000000000000000000:Rat):=by decide +kernel
theorem zgQ:ofQ (31415926535897932384626433832794 / 10000000000000000000000000000000)≤hp+hp∧hp+hp≤ofQ (31415926535897932384626433832796 / 10000000000000000000000000000000):=by
 have a1:=A_q (q:=1 / 5) (by decide +kernel) (by decide +kernel) 50
 have a2:=A_q (q:=1 / 239) (by decide +kernel) (by decide +kernel) 16
 have h1:=zc.2 zu4.1
 have h2:=zc.2 zu4.2
 have e16:ofQ 16=16:=rfl
 have e4:ofQ 4=4:=rfl
 generalize qsum atq (1 / 5) 50-(1-1 / 5)⁻¹*(1 / 5) ^ 50=l1 at *
 generalize qsum atq (1 / 5) 50+(1-1 / 5)⁻¹*(1 / 5) ^ 50=u1 at *
 generalize qsum atq (1 / 239) 16-(1-1 / 239)⁻¹*(1 / 239) ^ 16=l2 at *
 generalize qsum atq (1 / 239) 16+(1-1 / 239)⁻¹*(1 / 239) ^ 16=u2 at *
 rw [ZL,zk,zk,e16,e4] at h1 h2
 rw [hp]
 generalize A (ofQ (1 / 5))=x at *
 generalize A (ofQ (1 / 239))=y at *
 exact ⟨by grind,by grind⟩
theorem zu6:ofQ (6931471805599453094172321214581 / 10000000000000000000000000000000)≤H (ofQ (1 / 3))+H (ofQ (1 / 3))∧H (ofQ (1 / 3))+H (ofQ (1 / 3))≤ofQ (6931471805599453094172321214583 / 10000000000000000000000000000000):=by
 have a1:=H_q (q:=1 / 3) (by decide +kernel) (by decide +kernel) 74
 have h1:=zc.2 zu5.1
 have h2:=zc.2 zu5.2
 have e2:ofQ 2=2:=rfl
 generalize qsum ahq (1 / 3) 74-(1-1 / 3)⁻¹*(1 / 3) ^ 74=l1 at *
 generalize qsum ahq (1 / 3) 74+(1-1 / 3)⁻¹*(1 / 3) ^ 74=u1 at *
 rw [zk,e2] at h1 h2
 generalize H (ofQ (1 / 3))=x at *
 exact ⟨by grind,by grind⟩
theorem zp8:Ln 2=H (ofQ (1 / 3))+H (ofQ (1 / 3)):=by
 have h3:ofQ (1 / 3)*3=1:=by rw [show (3:R)=ofQ 3 from rfl,← zk,show (1 / 3:Rat)*3=1 by decide +kernel]; rfl
 have hi:=qQ (x:=(2:R)+1) (by have:=qg; grind)
 have e:(2-1)*((2:R)+1)⁻¹=ofQ (1 / 3):=by
  have:(2:R)+1=3:=by grind
  rw [this] at hi ⊢
  grind
 rw [Ln,e]
theorem zCK {a:Nat→R} {x y:R} (hc:Conv (psum a x) y) (m:Nat) (h:∀ i,m≤i→ab (a (i+1)*x ^ (i+1))+ab (a (i+1)*x ^ (i+1))≤ab (a i*x ^ i)):ab (y-psum a x (m+1))≤ab (a m*x ^ m):=by
 have key:∀ k,ab (psum a x (m+1+k)-psum a x (m+1))+ab (a (m+k)*x ^ (m+k))≤ab (a m*x ^ m):=by
  intro k
  induction k with
  | zero=>rw [Nat.add_zero,Nat.add_zero,show psum a x (m+1)-psum a x (m+1)=0 by grind,Z4]; grind
  | succ k ih=>
   have e:psum a x (m+1+(k+1))=psum a x (m+1+k)+a (m+k+1)*x ^ (m+k+1):=by
    rw [show m+1+(k+1)=(m+1+k)+1 by omega]
    show psum a x (m+1+k)+a (m+1+k)*x ^ (m+1+k)=_
    rw [show m+1+k=m+k+1 by omega]
   have h1:=h (m+k) wa
   have h2:=Z3 (psum a x (m+1+k)-psum a x (m+1)) (a (m+k+1)*x ^ (m+k+1))
   rw [e,show psum a x (m+1+k)+a (m+k+1)*x ^ (m+k+1)-psum a x (m+1)=psum a x (m+1+k)-psum a x (m+1)+a (m+k+1)*x ^ (m+k+1) by grind,show m+(k+1)=m+k+1 by omega]
   grind
 have hs:=(hc.shift (m+1)).sub (Conv.const (psum a x (m+1)))
 refine hs.ab_le 0 fun n _=>?_
 have h1:=key n
 have h2:=zm (a (m+n)*x ^ (m+n))
 rw [show n+(m+1)=m+1+n by omega]
 grind
theorem zCL (u:R) (hu:0≤u) (m:Nat):psum rf u m≤E u:=by
 have hc:Conv (psum rf u) (E u):=zpS zi6 u
 have mono:∀ k,psum rf u m≤psum rf u (m+k):=by
  intro k
  induction k with
  | zero=>exact zK _
  | succ k ih=>
   have h1:=zf (show 0≤rf (m+k) by have:=zca (m+k); grind) (pow_nonneg hu (m+k))
   show psum rf u m≤psum rf u (m+k)+rf (m+k)*u ^ (m+k)
   grind
 exact hc.ge_c m fun n hn=>by have:=mono (n-m); rwa [show m+(n-m)=n by omega] at this
def qa (x:Rat):Rat:=if 0≤x then x else -x
def pb (b:Rat):List Rat→Rat
 | []=>0
 | a :: l=>qa a+b*pb b l
def bnN:Nat→Int
 | 1=>1 | 2=>-1 | 3=>1 | 4=>-1 | 5=>5 | 6=>-691 | 7=>7 | 8=>-3617 | 9=>43867 | 10=>-174611 | _=>0
def bnD:Nat→Nat
 | 1=>6 | 2=>30 | 3=>42 | 4=>30 | 5=>66 | 6=>2730 | 7=>6 | 8=>510 | 9=>798 | 10=>330 | _=>1
def cK (k:Nat):Rat:=(bnN k:Rat) / ((bnD k*2*k*(2*k-1):Nat):Rat)
noncomputable def stS (y:R):Nat→R
 | 0=>0
 | k+1=>stS y k+ofQ (cK (k+1))*y⁻¹ ^ (2*k+1)
noncomputable def st (K:R) (y:R):R:=(y-hf)*Ln y-y+stS y 10+K
noncomputable def lsum (x:R):Nat→R
 | 0=>0
 | n+1=>lsum x n+Ln (x+(n:R))
def eps:Rat:=(1 / 2) ^ 160
def rfq:Nat→Rat
 | 0=>1
 | n+1=>rfq n*((n+1:Nat):Rat)⁻¹
theorem zp9 (n:Nat):rf n=ofQ (rfq n):=by
 induction n with
 | zero=>rfl
 | succ n ih=>rw [rf,rfq,ih,zk,zmr (by exact_mod_cast Nat.succ_ne_zero n),zc6]
theorem E_q {q:Rat} (h0:0≤q) (h1:q≤1) (m:Nat) (hm:1≤m):ofQ (qsum rfq q (m+1))≤E (ofQ q)∧E (ofQ q)≤ofQ (qsum rfq q (m+1)+rfq m*q ^ m):=by
 have hq:0≤ofQ q:=zc.2 h0
 have hq1:ofQ q≤1:=zc.2 h1
 have e:=zCL (ofQ q) hq (m+1)
 rw [zp7 zp9] at e
 have pos:∀ i,0≤rf i*ofQ q ^ i:=fun i=>zf (by have:=zca i; grind) (pow_nonneg hq i)
 have t:=zCK (a:=rf) (x:=ofQ q) (zpS zi6 (ofQ q)) m fun i hi=>by
  rw [qi (pos _),qi (pos _)]
  have k:=zeA i
  have hi':(2:R)≤((i+1:Nat):R):=zgB (m:=2) wa
  have k2:=zF hi' (show 0≤rf (i+1) by have:=zca (i+1); grind)
  have k3:rf (i+1)+rf (i+1)≤rf i:=by grind
  have k4:=zF k3 (pow_nonneg hq i)
  have k5:=qP hq1 (zf (show 0≤rf (i+1)+rf (i+1) by have:=zca (i+1); grind) (pow_nonneg hq i))
  rw [zB]; grind
 rw [qi (pos m),zp7 zp9,zp9 m,← zc8,← zk] at t
 have t2:=(ab_le.1 t).2
 refine ⟨e,?_⟩
 rw [zP]
 show ps rf (ofQ q)≤_
 grind
theorem zqa (x:R) (n:Nat):E x ^ n=E ((n:R)*x):=by
 induction n with
 | zero=>rw [zZ,show ((0:Nat):R)=0 from rfl,show (0:R)*x=0 by grind,zby]
 | succ n ih=>rw [zB,ih,← Q0,zaq]; congr 1; grind
def zeF:Rat:=1606938044258990275541962092341162602522202993782792835301376
def rdn (x:Rat):Rat:=((x*zeF).floor:Rat)*zeF⁻¹
def rup (x:Rat):Rat:=-rdn (-x)
theorem zqb (x:Rat):rdn x≤x:=by
 have h:=Rat.floor_le (x*zeF)
 unfold rdn
 have hp:(0:Rat)<zeF:=by decide +kernel
 have k:=Rat.mul_le_mul_of_nonneg_right h (Rat.le_of_lt (Rat.inv_pos.2 hp))
 have e:=Rat.mul_inv_cancel zeF (by grind)
 have e2:x*zeF*zeF⁻¹=x:=by rw [Rat.mul_assoc,e,Rat.mul_one]
 rw [e2] at k; exact k
theorem zu7 (x:Rat):x≤rup x:=by have:=zqb (-x); unfold rup; grind
def prq (x:Rat):Nat→Rat
 | 0=>1
 | n+1=>prq x n*(x+(n:Rat))
theorem zCM {x:Rat} (hx:0<x) (n:Nat):0<prq x n:=by
 induction n with
 | zero=>exact (by decide:(0:Rat)<1)
 | succ n ih=>
  have:(0:Rat)≤(n:Rat):=by exact_mod_cast Nat.zero_le n
  exact Rat.mul_pos ih (by grind)
theorem zqc {x:Rat} (hx:0<x) (n:Nat):E (lsum (ofQ x) n)=ofQ (prq x n):=by
 induction n with
 | zero=>exact zby
 | succ n ih=>
  have hn:(0:Rat)≤(n:Rat):=by exact_mod_cast Nat.zero_le n
  show E (lsum (ofQ x) n+Ln (ofQ x+(n:R)))=ofQ (prq x n*(x+(n:Rat)))
  rw [Q0,ih,← zc6,← zP,Z6 (Ql (by grind)),zk]
theorem zCN {X M N:R} {e:Rat} (h:E (X+X)*M=N) (hM:0<M) (he:0≤e) (h1:N≤ofQ (1+(e+e))*M) (h2:M≤ofQ (1+(e+e))*N):ab X≤ofQ e:=by
 have k1:E (X+X)≤ofQ (1+(e+e)):=zgD hM (by grind)
 have k2:E (-(X+X))≤ofQ (1+(e+e)):=by
  have n:=zpP (X+X)
  have pN:0<N:=by rw [← h]; exact Z5 (zc9 _) hM
  refine zgD pN ?_
  have:E (-(X+X))*N=M:=by rw [← h]; grind
  rw [this]; exact h2
 have g1:=zgF (X+X)
 have g2:=zgF (-(X+X))
 rw [zP,zP,zap] at k1 k2
 exact ab_le.2 ⟨by grind,by grind⟩
def piL:Rat:=16*(qsum atq (1 / 5) 80-(1-1 / 5)⁻¹*(1 / 5) ^ 80)-4*(qsum atq (1 / 239) 26+(1-1 / 239)⁻¹*(1 / 239) ^ 26)
def piH:Rat:=16*(qsum atq (1 / 5) 80+(1-1 / 5)⁻¹*(1 / 5) ^ 80)-4*(qsum atq (1 / 239) 26-(1-1 / 239)⁻¹*(1 / 239) ^ 26)
theorem zCO:ofQ piL≤hp+hp∧hp+hp≤ofQ piH:=by
 have a1:=A_q (q:=1 / 5) (by decide +kernel) (by decide +kernel) 80
 have a2:=A_q (q:=1 / 239) (by decide +kernel) (by decide +kernel) 26
 have e:hp+hp=16*A (ofQ (1 / 5))-4*A (ofQ (1 / 239)):=by unfold hp; grind
 rw [e]
 unfold piL piH
 generalize qsum atq (1 / 5) 80-(1-1 / 5)⁻¹*(1 / 5) ^ 80=u1 at *
 generalize qsum atq (1 / 5) 80+(1-1 / 5)⁻¹*(1 / 5) ^ 80=u2 at *
 generalize qsum atq (1 / 239) 26-(1-1 / 239)⁻¹*(1 / 239) ^ 26=v1 at *
 generalize qsum atq (1 / 239) 26+(1-1 / 239)⁻¹*(1 / 239) ^ 26=v2 at *
 rw [ZL,zk,zk,ZL,zk,zk,show ofQ 16=(16:R) from rfl,show ofQ 4=(4:R) from rfl]
 have h0:=qg
 constructor<;>grind
noncomputable def KP:R:=Ln ((hp+hp)*2)*hf
def sQ (y:Rat):Nat→Rat
 | 0=>0
 | k+1=>sQ y k+cK (k+1)*y⁻¹ ^ (2*k+1)
theorem zu8 {y:Rat} (hy:y≠0) (k:Nat):stS (ofQ y) k=ofQ (sQ y k):=by
 induction k with
 | zero=>rfl
 | succ k ih=>rw [stS,sQ,ih,zP,zk,zc8,zmr hy]
def qW:Rat:=(512-2*sQ 256 10) / 512
def eLo (q:Rat):Rat:=rdn (qsum rfq (rdn q) 46)
def eHi (q:Rat):Rat:=rup (qsum rfq (rup q) 46+rfq 45*rup q ^ 45)
theorem zCP {q:Rat} (h0:0≤rdn q) (h1:rup q≤1) (h2:0≤eLo q):ofQ (eLo q)≤E (ofQ q)∧E (ofQ q)≤ofQ (eHi q):=by
 have a:=zqb q
 have b:=zu7 q
 have l:=(E_q h0 (by grind) 45 wa).1
 have h:=(E_q (q:=rup q) (by grind) h1 45 wa).2
 exact ⟨zj (zc.2 (zqb _)) (zj l (zda (zc.2 a))),zj (zda (zc.2 b)) (zj h (zc.2 (zu7 _)))⟩
def wOK (m n:Nat):Bool:=decide (0≤rdn qW∧rup qW≤1∧0≤eLo qW) && decide (256 ^ m*(piH*2)≤(1+(eps+eps))*(eLo qW ^ n*(prq 1 255*prq 1 255))) && decide (eHi qW ^ n*(prq 1 255*prq 1 255)≤(1+(eps+eps))*(256 ^ m*(piL*2)))
theorem zCQ:wOK 511 512=true:=by decide +kernel
theorem zqd:0≤ofQ (1+(eps+eps)):=zc.2 (by unfold eps; decide +kernel)
theorem zqe:0<(hp+hp)*2:=by
 have h:=zgQ.1
 have:(0:R)<ofQ (31415926535897932384626433832794 / 10000000000000000000000000000000):=Ql (by decide +kernel)
 have h0:=qg
 grind
theorem zCR {m n:Nat} (hm:(m:R)=511) (hn:(n:R)=512) (hc:wOK m n=true):ab (st KP 256-lsum 1 255)≤ofQ eps:=by
 unfold wOK at hc
 simp only [Bool.and_eq_true,decide_eq_true_eq] at hc
 obtain ⟨⟨⟨c1,c2,c3⟩,n1⟩,n2⟩:=hc
 obtain ⟨e1,e2⟩:=zCP c1 c2 c3
 obtain ⟨p1,p2⟩:=zCO
 have hl:=zqc (x:=1) (by decide) 255
 rw [zap] at hl
 have hs:=zu8 (y:=256) (by decide) 10
 rw [show ofQ 256=(256:R) from rfl] at hs
 have h0:=qg
 have hL:=Z6 (y:=256) (by grind)
 have hK:=Z6 zqe
 have hb:=zdg
 have hF:=zCM (x:=1) (by decide) 255
 have hfq:ofQ qW*512=512-2*ofQ (sQ 256 10):=by
  rw [show (512:R)=ofQ 512 from rfl,show (2:R)=ofQ 2 from rfl,← zk,← zk,← ZL]
  congr 1
  unfold qW
  rw [Rat.div_def,Rat.mul_assoc,Rat.inv_mul_cancel _ (by decide),Rat.mul_one]
 have hee:=zqd
 generalize hFd:prq 1 255=F at *
 generalize ofQ (1+(eps+eps))=ee at *
 have hFF:0≤ofQ F*ofQ F:=by have:=Z5 (Ql hF) (Ql hF); grind
 refine zCN (M:=E (ofQ qW) ^ n*(ofQ F*ofQ F)) (N:=256 ^ m*((hp+hp)*2)) ?_ ?_ (by unfold eps; decide +kernel) ?_ ?_
 ·rw [zqa,← hl,← Q0,← Q0,← Q0]
  rw [← hK,show (256:R) ^ m=E (Ln 256) ^ m by rw [hL],zqa,← Q0]
  refine congrArg E ?_
  unfold st KP
  rw [hs,hm,hn]
  generalize Ln ((hp+hp)*2)=k at *
  generalize Ln 256=l at *
  generalize lsum 1 255=s at *
  generalize ofQ (sQ 256 10)=q at *
  have e:k*hf+k*hf=k:=by
   have q:k*hf+k*hf=k*(hf+hf):=by grind
   rw [q,hb]; grind
  have e2:hf*l+hf*l=l:=by
   have q:hf*l+hf*l=(hf+hf)*l:=by grind
   rw [q,hb]; grind
  have e3:(512:R)*ofQ qW=512-2*q:=by rw [← hfq]; grind
  rw [e3]
  grind
 ·exact Z5 (pow_pos (zc9 _) _) (Z5 (Ql hF) (Ql hF))
 ·have k1:=zmq (zc.2 c3) e1 n
  have k2:=zF k1 hFF
  have k3:=zc.2 n1
  rw [zk,zk,zk,zk,zk,zc8,zc8,show ofQ 256=(256:R) from rfl,show ofQ 2=(2:R) from rfl] at k3
  have k4:=qP k2 zqd
  have k5:=qP (show (hp+hp)*2≤ofQ piH*2 by grind) (pow_nonneg (show (0:R)≤256 by grind) m)
  exact zj k5 (zj k3 k4)
 ·have k1:=zmq (show 0≤E (ofQ qW) by have:=zc9 (ofQ qW); grind) e2 n
  have k2:=zF k1 hFF
  have k3:=zc.2 n2
  rw [zk,zk,zk,zk,zk,zc8,zc8,show ofQ 256=(256:R) from rfl,show ofQ 2=(2:R) from rfl] at k3
  have k5:=qP (show ofQ piL*2≤(hp+hp)*2 by grind) (pow_nonneg (show (0:R)≤256 by grind) m)
  have k4:=qP k5 zqd
  exact zj k2 (zj k3 k4)
theorem zCS:ab (st KP 256-lsum 1 255)≤ofQ eps:=zCR rfl rfl zCQ
end Go.An
namespace Go.Proofs.YtjffljhmjdljeaaGreat.Gen
open Go Go.Abs Go.Plain Go.An
open Go.IntKind (i64 u64 u32)
theorem Zx (a:Int) (p:Nat):p2 (a-p)=p2 a*p2 (-(p:Int)):=by rw [← zy]; congr 1
theorem zeG:p2 (-1)=1 / 2∧p2 (-2)=1 / 4∧p2 (-3)=1 / 8∧p2 (-4)=1 / 16∧p2 (-6)=1 / 64∧p2 (-7)=1 / 128∧p2 (-8)=1 / 256∧p2 (-14)=1 / 16384∧p2 (-21)=1 / 2097152:=by
 unfold p2; decide +kernel
theorem zje {p:Nat} (hp:8≤p):p2 (-(p:Int))≤1 / 256:=by
 rw [← zeG.2.2.2.2.2.2.1]; exact qe wa
theorem zCT {p:Nat} (hp:8≤p):2*p+26≤2 ^ (p-2):=by
 obtain ⟨k,rfl⟩:∃ k,p=k+8:=⟨p-8,wa⟩
 clear hp
 induction k with
 | zero=>decide
 | succ k ih=>
  have:2 ^ (k+1+8-2)=2 ^ (k+8-2)*2:=by rw [← Nat.pow_succ]; congr 1
  omega
theorem zmD {p:Nat} (hp:8≤p):(4*((p / 2+4:Nat):Rat)+10)*p2 (-(p:Int))≤1 / 4:=by
 have h1:=zCT hp
 have h2:4*(p / 2+4)+10≤2 ^ (p-2):=wa
 have h3:=zY h2
 rw [Rat.natCast_add,Rat.natCast_mul] at h3
 have e1:((4:Nat):Rat)=4:=rfl
 have e2:((10:Nat):Rat)=10:=rfl
 rw [e1,e2] at h3
 have h4:=Rat.mul_le_mul_of_nonneg_right h3 (Rat.le_of_lt (zb (-(p:Int))))
 rw [← qS,← zy,show ((p-2:Nat):Int) + -(p:Int) = -2 by omega,zeG.2.1] at h4
 exact h4
theorem zCU {n:Nat} (h:0<n):ofQ (1 / (n:Rat))*(n:R)=1:=by
 have:(n:Rat)≠0:=by exact_mod_cast Nat.pos_iff_ne_zero.1 h
 rw [← zc6,← zk,show (1 / (n:Rat))*(n:Rat)=1 by rw [Rat.div_def,Rat.one_mul,Rat.inv_mul_cancel _ this]]; rfl
theorem zCV {p n k:Nat} {j:Int} (hp:2≤p∧p≤400) (hk:k≤60) (h0:0<n) (hn:n≤2 ^ k) (hj:p2 j≤(n:Rat)) (hj0:0≤j):HasW (zJ p (n:Int) 0) (ofQ (1 / (n:Rat))) (0-k-p-2) (-j) (2*p2 (-j-p)):=by
 have i1:HasW (iS 1 0) (1:R) 0 0 0:=zmz (n:=1) (K:=0) wa (by decide)
 have h:=zjb (p:=p) i1 hk h0 hn hj (zCU h0) wa wa wa
 have e:zJ p (n:Int) 0=dS p (iS 1 0).1 (iS (n:Int) 0).1 0:=rfl
 rw [e]
 exact h.mono (Int.le_refl _) wa (by rw [show (0:Int)-j = -j by omega]; grind)
theorem HasW.low {r:I × Int} {q:Rat} {L H:Int} {w l:Rat} (h:HasW r (ofQ q) L H w) (hl:l≤q-w):l≤val r.1.lo:=by
 have h1:q≤val r.1.hi:=zc.1 h.h.m.hi
 have:=h.w
 grind
theorem zqf {p n k:Nat} {j l:Int} (hp:8≤p∧p≤200) (hk:k≤8) (h0:0<n) (hn:n≤2 ^ k) (hj:p2 j≤(n:Rat)) (hl:l = -(j+1)) (hj0:1≤j∧j≤7) (hlow:p2 l≤1 / (n:Rat)-2*(p2 (-j)*(1 / 256))) :
  HasW (zJ p (n:Int) 0) (ofQ (1 / (n:Rat))) (-300) (-j) (2*(p2 (-j)*p2 (-(p:Int))))∧HasW (mS p (zJ p (n:Int) 0).1 (zJ p (n:Int) 0).1 0) (ofQ (1 / (n:Rat))*ofQ (1 / (n:Rat))) (l+l-p) (-j + -j) (2*(p2 (-j)*(2*(p2 (-j)*p2 (-(p:Int)))))+2*(p2 (-j + -j)*p2 (-(p:Int)))):=by
 have h:=zCV (p:=p) (n:=n) (k:=k) (j:=j) wa wa h0 hn hj wa
 rw [Zx] at h
 have he:=zje hp.1
 have hp0:=zb (-j)
 have h1:=Rat.mul_le_mul_of_nonneg_left he (Rat.le_of_lt hp0)
 have hlo:=h.low (l:=p2 l) (by grind)
 have h2:=zCD (p:=p) h.pair hlo wa wa wa
 rw [Zx] at h2
 exact ⟨h.mono wa (Int.le_refl _) Rat.le_refl,h2⟩
theorem zu9 {p:Nat} (hp:8≤p∧p≤200):HasW (zi p 5 0) (A (ofQ (1 / 5))) (-46000) 0 ((9 / 2+((p / 2+4:Nat):Rat)*(5 / 2))*p2 (-(p:Int))):=by
 have L:=zeG
 obtain ⟨h1,h2⟩:=zqf (p:=p) (n:=5) (k:=3) (j:=2) (l:=-3) hp wa wa wa (by rw [show (2:Int)=((2:Nat):Int) from rfl,qS]; exact zY wa) wa wa (by rw [L.2.2.1,L.2.1]; decide +kernel)
 have hpos:=zb (-(p:Int))
 have hN:=zmD hp.1
 have he:=zje hp.1
 generalize hed:p2 (-(p:Int))=e at *
 have hb:(p+20-(-3 + -3-(p:Int)))*((p / 2+4:Nat):Int)≤426*104:=Int.mul_le_mul wa wa wa wa
 have h:=zu1 (p:=p) wa (H:=-2) (Hq:=-4) (wt:=e / 2) (wp:=e / 2) (m:=1 / 4) h1.pair h2 wa wa wa wa (by rw [L.2.1]; grind) (by rw [Zx,hed,show (-2:Int) + -4 = -6 from rfl,show (-2:Int) + -2 = -4 from rfl,L.2.1,L.2.2.2.1,L.2.2.2.2.1]; grind) (by rw [Zx,hed,show (-2:Int)-1 = -3 from rfl,L.1,L.2.2.1]; grind)
  (fun k=>by
   have q:=zjd (a:=atc) (by rw [atc,show sS 0=0 from rfl]; grind) (zas rfl fun n=>(zdb n).1) (zgP (q:=1 / 5) (by decide +kernel) (by decide +kernel)) (x:=ofQ (1 / 5)) (by rw [qi (zc.2 (by decide +kernel))]; exact zK _) k
   rw [← zk] at q
   exact zj q (zc.2 (by decide +kernel)))
  (by rw [hed]; grind) (M:=-46000) wa wa
 rw [hed] at h
 have hA:zi p 5 0=QX p (zJ p 5 0).1:=by
  unfold zi atS
  have:(zJ p 5 0).2=0:=h1.h.e
  rw [this,zd]
 rw [hA]
 exact h.mono (Int.le_refl _) (Int.le_refl _) (by grind)
theorem zva {p:Nat} (hp:8≤p∧p≤200):HasW (zi p 239 0) (A (ofQ (1 / 239))) (-46000) 0 ((9 / 2+((p / 2+4:Nat):Rat)*(9 / 4))*p2 (-(p:Int))):=by
 have L:=zeG
 obtain ⟨h1,h2⟩:=zqf (p:=p) (n:=239) (k:=8) (j:=7) (l:=-8) hp wa wa wa (by rw [show (7:Int)=((7:Nat):Int) from rfl,qS]; exact zY wa) wa wa (by rw [L.2.2.2.2.2.2.1,L.2.2.2.2.2.1]; decide +kernel)
 have hpos:=zb (-(p:Int))
 have hN:=zmD hp.1
 have he:=zje hp.1
 generalize hed:p2 (-(p:Int))=e at *
 have hb:(p+20-(-8 + -8-(p:Int)))*((p / 2+4:Nat):Int)≤436*104:=Int.mul_le_mul wa wa wa wa
 have h:=zu1 (p:=p) wa (H:=-7) (Hq:=-14) (wt:=e / 4) (wp:=e / 4) (m:=1 / 4) h1.pair h2 wa wa wa wa (by rw [L.2.2.2.2.2.1]; grind) (by rw [Zx,hed,show (-7:Int) + -14 = -21 from rfl,show (-7:Int) + -7 = -14 from rfl,L.2.2.2.2.2.1,L.2.2.2.2.2.2.2.1,L.2.2.2.2.2.2.2.2]; grind) (by rw [Zx,hed,show (-7:Int)-1 = -8 from rfl,L.1,L.2.2.2.2.2.2.1]; grind)
  (fun k=>by
   have q:=zjd (a:=atc) (by rw [atc,show sS 0=0 from rfl]; grind) (zas rfl fun n=>(zdb n).1) (zgP (q:=1 / 239) (by decide +kernel) (by decide +kernel)) (x:=ofQ (1 / 239)) (by rw [qi (zc.2 (by decide +kernel))]; exact zK _) k
   rw [← zk] at q
   exact zj q (zc.2 (by decide +kernel)))
  (by rw [hed]; grind) (M:=-46000) wa wa
 rw [hed] at h
 have hA:zi p 239 0=QX p (zJ p 239 0).1:=by
  unfold zi atS
  have:(zJ p 239 0).2=0:=h1.h.e
  rw [this,zd]
 rw [hA]
 exact h.mono (Int.le_refl _) (Int.le_refl _) (by grind)
theorem zvb (n:Nat):ofQ (p2 (n:Int))=((2 ^ n:Nat):R):=by rw [qS]; rfl
theorem zCW:ofQ (p2 4)=16:=by rw [show (4:Int)=((4:Nat):Int) from rfl,zvb]; rfl
theorem zCX:ofQ (p2 2)=4:=by rw [show (2:Int)=((2:Nat):Int) from rfl,zvb]; rfl
theorem Q1:p2 4=16∧p2 3=8∧p2 2=4∧p2 1=2:=by unfold p2; decide +kernel
theorem zCY:ab (An.hp+An.hp)≤ofQ (13 / 4):=by
 have h:=zgQ
 have h1:(0:R)≤An.hp+An.hp:=zj (zc.2 (show (0:Rat)≤_ by decide +kernel)) h.1
 rw [qi h1]
 exact zj h.2 (zc.2 (by decide +kernel))
theorem zCZ {p:Nat} (hp:8≤p∧p≤200):HasW (piS p 0) (An.hp+An.hp) (-46000) 3 ((106+((p / 2+4:Nat):Rat)*49)*p2 (-(p:Int))):=by
 have a:=zu9 hp
 have b:=zva hp
 have hpos:=zb (-(p:Int))
 have hN:=zmD hp.1
 have he:=zje hp.1
 have a4:=zce (n:=4) a wa wa
 have b2:=zce (n:=2) b wa wa
 have ea:(zi p 5 0).2=0:=a.h.e
 have eb:(zi p 239 0).2=0:=b.h.e
 have ea4:(scS (zi p 5 0).1 4 0).2=0:=a4.h.e
 have eb2:(scS (zi p 239 0).1 2 0).2=0:=b2.h.e
 have e:A (ofQ (1 / 5))*ofQ (p2 4)-A (ofQ (1 / 239))*ofQ (p2 2)=An.hp+An.hp:=by rw [zCW,zCX,An.hp]; grind
 rw [Q1.1] at a4
 rw [Q1.2.2.1] at b2
 have h:=zmB (p:=p) (m:=13 / 4) (K:=3) (a4.mono (L':=-46000) (H':=4) wa wa Rat.le_refl) (b2.mono (L':=-46000) (H':=4) wa wa Rat.le_refl) (by
  have q:=zCY
  rw [← e,Q1.1,Q1.2.2.1] at q
  exact q) (by rw [Q1.2.1]; grind) wa wa wa
 rw [Zx,Q1.2.1] at h
 unfold piS
 rw [ea,eb,ea4,eb2]
 rw [Q1.1,Q1.2.2.1] at e
 exact (h.mono (Int.le_refl _) (Int.le_refl _) (by grind)).eq e
theorem zC0 {p:Nat} (hp:8≤p∧p≤200):HasW (zc3 p 0) (Ln 2) (-46000) 1 ((11+((p / 2+4:Nat):Rat)*(13 / 2))*p2 (-(p:Int))):=by
 have L:=zeG
 obtain ⟨h1,h2⟩:=zqf (p:=p) (n:=3) (k:=2) (j:=1) (l:=-2) hp wa wa wa (by rw [show (1:Int)=((1:Nat):Int) from rfl,qS]; exact zY wa) wa wa (by rw [L.1,L.2.1]; decide +kernel)
 have hpos:=zb (-(p:Int))
 have hN:=zmD hp.1
 have he:=zje hp.1
 generalize hed:p2 (-(p:Int))=e at *
 have hb:(p+20-(-2 + -2-(p:Int)))*((p / 2+4:Nat):Int)≤424*104:=Int.mul_le_mul wa wa wa wa
 have h:=zCF (p:=p) wa (H:=-1) (Hq:=-2) (wt:=3*e / 2) (wp:=5*e / 4) (m:=1 / 2) h1.pair h2 wa wa wa wa (by rw [L.1]; grind) (by rw [Zx,hed,show (-1:Int) + -2 = -3 from rfl,show (-1:Int) + -1 = -2 from rfl,L.1,L.2.1,L.2.2.1]; grind) (by rw [Zx,hed,show (-1:Int)-1 = -2 from rfl,L.1,L.2.1]; grind)
  (fun k=>by
   have q:=zjd (a:=ahc) (by rw [ahc,show od 0=0 from rfl]; grind) (zas rfl fun n=>(zdf n).1) (zgP (q:=1 / 3) (by decide +kernel) (by decide +kernel)) (x:=ofQ (1 / 3)) (by rw [qi (zc.2 (by decide +kernel))]; exact zK _) k
   rw [← zk] at q
   exact zj q (zc.2 (by decide +kernel)))
  (by rw [hed]; grind) (M:=-46000) wa wa
 rw [hed] at h
 have hr:(zJ p 3 0).2=0:=h1.h.e
 have h':HasW (ahS p (zJ p 3 0).1 0) (An.H (ofQ (1 / 3))) (-46000) 0 (3*e / 2+((p / 2+4:Nat):Rat)*(5*e / 4+2*e)+4*e):=by
  unfold ahS; rw [zd]; exact h
 have h3:=zce (n:=1) h' wa wa
 have e3:(ahS p (zJ p 3 0).1 0).2=0:=h'.h.e
 unfold zc3
 rw [hr,e3]
 refine (h3.mono wa wa ?_).eq (by rw [zp8]; exact zCz 1 _)
 rw [Q1.2.2.2]; grind
theorem zC1 {p:Nat} (hp:1≤p) (next:Nat→I→Int→I × I × Int) (T P Su:Nat→R) {L0 c Q:Int} {Hh:Int} {wt wp m w0:Rat} (hc:0≤c) {N:Nat} (hS:∀ i,Su (i+1)=Su i+P (i+1)) (hwp:0≤wp)
  (hn:∀ i t,i<N→HasW (t,0) (T i) (L0-c*i) Hh wt→(next (i+1) t 0).2.2=0∧HasW ((next (i+1) t 0).1,0) (T (i+1)) (L0-c*(i+1:Nat)) Hh wt∧HasW ((next (i+1) t 0).2.1,0) (P (i+1)) (L0-c*(i+1:Nat)) Hh wp)
  (hSu:∀ i,ab (Su i)≤ofQ m) (hK:m+(w0+(N:Rat)*(wp+2*p2 (Q-(p:Int))))≤p2 Q) (hL : -60000≤L0-c*N) (hH:Hh≤Q) (hQ:Q≤59999) :
  ∀ (k i:Nat) (s t:I),i+k=N→HasW (s,0) (Su i) (L0-c*i) Q (w0+(i:Rat)*(wp+2*p2 (Q-(p:Int))))→HasW (t,0) (T i) (L0-c*i) Hh wt→HasW (qX p next k i s t 0) (Su N) (L0-c*N) Q (w0+(N:Rat)*(wp+2*p2 (Q-(p:Int)))):=by
 intro k
 induction k with
 | zero=>
  intro i s t hi hs _
  have:i=N:=wa
  subst this
  exact hs
 | succ k ih=>
  intro i s t hi hs ht
  obtain ⟨n1,n2,n3⟩:=hn i t wa ht
  have e1:=zgL c i
  have m1:=zgM hc (show i+1≤N by omega)
  have hpp:=zb (Q-(p:Int))
  have d1:=zmC i (wp+2*p2 (Q-(p:Int)))
  have d2:=zp6 (show i+1≤N by omega) (show 0≤wp+2*p2 (Q-(p:Int)) by grind)
  have h1:=zcd (p:=p) (K:=Q) (m:=m) (hs.mono (L':=L0-c*(i+1:Nat)) (H':=Q) wa wa Rat.le_refl) (n3.mono (Int.le_refl _) (H':=Q) wa Rat.le_refl) (by rw [← hS i]; exact hSu _) (by grind) hp wa wa
  rw [qX,n1]
  have h2:=ih (i+1) _ _ wa ((h1.mono (Int.le_refl _) (Int.le_refl _) (w':=w0+((i+1:Nat):Rat)*(wp+2*p2 (Q-(p:Int)))) (by grind)).eq (hS i).symm).pair n2
  rw [h1.h.e]; exact h2
theorem zvc {a:Nat→R} (h:∀ n,ab (a n)≤1) {x:R} (hx:ab x≤hf) (k:Nat):ab (psum a x k)≤ofQ 2:=by
 have h1:=zms (PB.one h) zpY (x:=x) (by have:=zdh; grind) 0 k
 have e1:psum a x 0=0:=rfl
 rw [e1,show 0+k=k by omega,zZ] at h1
 have h2:psum a x k-0=psum a x k:=by grind
 rw [h2] at h1
 have h3:=pow_nonneg zpY.h0 k
 have h4:ofQ 2=(2:R):=rfl
 rw [h4]
 grind
theorem zvd (n:Nat):ab (rf n)≤1:=zj (zi6 n) (zux n)
theorem zC2 {r:I × Int} {x z:R} {L H:Int} {w:Rat} (ha:HasW r x L H w) {n k:Nat} (hk:k≤60) (h0:0<n) (hn:n≤2 ^ k) (hz:z*(n:R)=x) {p:Nat} (hp:1≤p) (hL : -60000≤L-k-p-2) (hH:H+2≤60000):HasW (dS p r.1 (iS (n:Int) 0).1 0) z (L-k-p-2) H (w+2*p2 (H-p)):=by
 have h:=zjb ha hk h0 hn (j:=0) (by rw [zN]; exact zY (show 1≤n by omega)) hz hp hL hH
 rw [Int.sub_zero,Int.neg_zero,zN,Rat.mul_one] at h
 exact h
theorem zC3 {p:Nat} (hp:16≤p∧p≤200) {y:I} {x:R} {L:Int} (hy:HasW (y,0) x L (-3) 0) (hL0:L≤0) {M:Int} (hM:M≤0-(p+20-L)*(p / 2+4:Nat)) (hM' : -60000≤M):HasW (zan p y) (E x) M 2 (p2 (10-(p:Int))):=by
 have hpp:=zb (-(p:Int))
 have hi:=zeD hy.h.ok
 unfold zan
 rw [wc hi]
 have hN:p / 2+4≤104:=wa
 have i1:HasW (intI 1,0) (1:R) 0 0 0:=zmz (n:=1) (K:=0) wa (by decide)
 have hx:=zuS hi hy.h.m
 have hx3:ab x≤hf*hf*hf:=by
  rw [show (-3:Int) = -((3:Nat):Int) from rfl,zja] at hx
  have:hf ^ 3=hf*hf*hf:=by rw [zB,zB,zB,zZ]; grind
  rw [this] at hx; exact hx
 have hx1:ab x≤hf:=by
  have h2:=zdg
  have h3:=zdh
  have hc:hf*hf*hf≤hf:=by
   have k1:=zF (show hf*hf≤1 by have:=qs (show hf≤1 by grind) (show hf≤1 by grind) (by grind) (by have:=qg; grind); grind) (show 0≤hf by grind)
   grind
  exact zj hx3 hc
 have q3:p2 (-(p:Int))=8*p2 (-3-(p:Int)):=by rw [show -(p:Int)=3+(-3-(p:Int)) by omega,zy]; rfl
 have q3':p2 (-3)*p2 (-(p:Int))=p2 (-3-(p:Int)):=by rw [← zy]; congr 1
 have q2:p2 (2-(p:Int))=4*p2 (-(p:Int)):=by rw [show 2-(p:Int)=2 + -(p:Int) by omega,zy]; rfl
 have q10:p2 (10-(p:Int))=1024*p2 (-(p:Int)):=by rw [show 10-(p:Int)=10 + -(p:Int) by omega,zy]; rfl
 have q8:p2 (-(p:Int))≤p2 (-16):=qe wa
 have q8':p2 (-16)=1 / 65536:=by decide +kernel
 have hNr:(((p / 2+4:Nat):Nat):Rat)≤104:=by exact_mod_cast zY hN
 have hcN:=zp3 (c:=p+20-L) (N:=p / 2+4) wa wa
 have h:=zC1 (p:=p) wa (Qx p y) (fun i=>rf i*x ^ i) (fun i=>rf i*x ^ i) (fun i=>psum rf x (i+1)) (L0:=0) (c:=p+20-L) (Q:=2) (Hh:=0) (wt:=p2 (-(p:Int))) (wp:=p2 (-(p:Int))) (m:=2) (w0:=0) wa (N:=p / 2+4) (fun i=>rfl) (by grind) (by
  intro i t hiN ht
  have m1:=zgM (c:=p+20-L) wa (show i+1≤p / 2+4 by omega)
  have e1:=zgL (p+20-L) i
  have h1:=zdj (p:=p) ht hy wa wa wa
  have h3:=zC2 (p:=p) (z:=rf (i+1)*x ^ (i+1)) h1 (n:=i+1) (k:=10) wa wa wa (zCk x i) wa wa wa
  have h4:=h3.mono (L':=0-(p+20-L)*(i+1:Nat)) (H':=0) (w':=p2 (-(p:Int))) wa wa (by
   rw [zN,show (0:Int) + -3-(p:Int) = -3-(p:Int) by omega]
   grind)
  unfold Qx
  rw [h1.h.e,show (iS ((i+1:Nat):Int) 0).2=0 from rfl]
  exact ⟨h4.h.e,h4.pair,h4.pair⟩) (fun i=>zvc zvd hx1 _) (by
   rw [q2,show p2 2=4 from rfl]
   have:=Rat.mul_le_mul_of_nonneg_right hNr (show 0≤p2 (-(p:Int))+2*(4*p2 (-(p:Int))) by grind)
   generalize ((p / 2+4:Nat):Rat)=N at *
   rw [q8'] at q8
   generalize p2 (-(p:Int))=z at *
   clear q3 q3' q2 q10 hx hx3 hx1 hi hy
   grind) wa wa wa (p / 2+4) 0 (intI 1) (intI 1) wa
  ((i1.mono wa wa (by have:((0:Nat):Rat)=0:=rfl; rw [this]; grind)).eq (by show 1=psum rf x 0+rf 0*x ^ 0; rw [zZ,show psum rf x 0=0 from rfl,show rf 0=1 from rfl]; grind)) ((i1.mono wa wa (by grind)).eq (by rw [zZ,show rf 0=1 from rfl]; grind))
 have ht:=zCo (x:=x) hx3 (p / 2+4+1)
 unfold qH
 rw [h.h.e]
 have h5:=zjc (p:=p) (K:=2) (m:=2) (h.mono (L':=M) (H':=2) wa wa Rat.le_refl) (d:=⟨1,-(p:Int)⟩) (zcc wa wa wa) (y:=E x) (by
  rw [qC,zja]
  refine zj ht ?_
  rw [← zuO,← zuO]
  have h1:=zmv (show p+1≤p / 2+4+1+(p / 2+4+1)+(p / 2+4+1) by omega)
  have h2:=zmx p
  grind) (zvc zvd hx1 _) (by
   rw [qC,q2,show p2 2=4 from rfl]
   have:=Rat.mul_le_mul_of_nonneg_right hNr (show 0≤p2 (-(p:Int))+2*(4*p2 (-(p:Int))) by grind)
   generalize ((p / 2+4:Nat):Rat)=N at *
   rw [q8'] at q8
   generalize p2 (-(p:Int))=z at *
   clear q3 q3' q2 q10 hx hx3 hx1 hi hy
   grind) wa wa wa
 refine h5.mono (Int.le_refl _) (Int.le_refl _) ?_
 rw [qC,q2,q10]
 have:=Rat.mul_le_mul_of_nonneg_right hNr (show 0≤p2 (-(p:Int))+2*(4*p2 (-(p:Int))) by grind)
 generalize ((p / 2+4:Nat):Rat)=N at *
 clear h5
 generalize p2 (-(p:Int))=z at *
 grind
theorem zC4 {r:I × Int} {x:R} {L H l:Int} (hy:Has r x L H) (hl:p2 l≤val r.1.lo) {p:Nat} (hp:1≤p) (hL : -60000≤L+L) (hH:H+H≤60000):Has (mS p r.1 r.1 r.2) (x*x) (l+l-p) (H+H)∧p2 (l+l)≤val (mS p r.1 r.1 r.2).1.lo:=by
 rw [hy.e]
 have h:=zi9 hy.pair hy.pair hp hL hH
 obtain ⟨c,u,v,e,o,en,pr⟩:=zak hy.ok hy.ok hp hL hH
 have e':mS p r.1 r.1 0=(c,0):=by show st 0 zI (Qw p r.1 r.1)=_; rw [zd]; exact e
 rw [show (r.1,(0:Int)).1=r.1 from rfl,e'] at h
 rw [e']
 have hle:=hy.ok.le
 have hhi:p2 l≤val r.1.hi:=by grind
 have hp0:=zb l
 have mm:∀ a b:Rat,p2 l≤a→p2 l≤b→p2 (l+l)≤a*b:=fun a b ha hb=>by
  rw [zy]
  have h1:=Rat.mul_le_mul_of_nonneg_right ha (Rat.le_of_lt hp0)
  have h2:=Rat.mul_le_mul_of_nonneg_left hb (show 0≤a by grind)
  grind
 have hu:p2 (l+l)≤u:=by rcases pr.mu with k | k | k | k<;>rw [k]<;>exact mm _ _ (by assumption) (by assumption)
 have b1:=en.blo _ (qM p (l+l)) hu
 have ol:=o.le
 exact ⟨⟨rfl,⟨⟨o.lo.w,Zw en.rlo b1,o.lo.b⟩,⟨o.hi.w,Zw en.rhi (by grind),o.hi.b⟩,o.le⟩,h.m⟩,b1⟩
theorem zqg (k m:Nat):2 ^ (k+1)*m=2 ^ k*(2*m):=by rw [Nat.pow_succ]; grind
theorem zC5 (k:Nat) (z:R):z*ofQ (p2 ((k+1:Nat):Int))=(z+z)*ofQ (p2 (k:Int)):=by
 rw [show ((k+1:Nat):Int)=(k:Int)+1 by omega,zy,zk,show ofQ (p2 1)=(2:R) from rfl]; grind
theorem zC6 {p:Nat} (hp:1≤p∧p≤1000):∀ (k a b:Nat) (r:I × Int) (z:R) (L:Int),Has r (E z) L (b:Int)→p2 (-(a:Int))≤val r.1.lo→2 ^ k*a≤20000→2 ^ k*b≤20000→-30000≤L→∀ M:Int,M≤L→M ≤ -((2 ^ k*a:Nat):Int)-p→Has (QB p k r) (E (z*ofQ (p2 (k:Int)))) M ((2 ^ k*b:Nat):Int)∧p2 (-((2 ^ k*a:Nat):Int))≤val (QB p k r).1.lo:=by
 intro k
 induction k with
 | zero=>
  intro a b r z L h hl _ _ _ M h1 _
  rw [show (2:Nat) ^ 0*a=a by simp,show (2:Nat) ^ 0*b=b by simp]
  refine ⟨(h.mono h1 (Int.le_refl _)).eq ?_,hl⟩
  rw [show ((0:Nat):Int)=0 from rfl,zN]
  show E z=E (z*1)
  rw [show z*1=z by grind]
 | succ k ih=>
  intro a b r z L h hl ha hb hL M h1 h2
  rw [zqg] at ha hb h2
  rw [zqg,zqg,zC5]
  have k1:1*(2*a)≤2 ^ k*(2*a):=Nat.mul_le_mul_right _ (Nat.one_le_two_pow)
  have k2:1*(2*b)≤2 ^ k*(2*b):=Nat.mul_le_mul_right _ (Nat.one_le_two_pow)
  obtain ⟨s1,s2⟩:=zC4 h hl (p:=p) wa wa wa
  rw [QB]
  have s1':=s1.eq (Q0 z z).symm
  rw [show -(a:Int) + -(a:Int) = -((2*a:Nat):Int) by omega] at s1' s2
  rw [show (b:Int)+(b:Int)=((2*b:Nat):Int) by omega] at s1'
  exact ih (2*a) (2*b) _ (z+z) _ s1' s2 ha hb wa M wa h2
theorem zqh (d:D):B (d.e+(blen d.m.natAbs:Nat)) (val d):=by
 have h1:=ziM (Nat.le_of_lt (Zk d.m.natAbs)) d.e
 have h5:(d.m:Rat)≤(d.m.natAbs:Rat)∧-(d.m.natAbs:Rat)≤(d.m:Rat):=by
  have e1:=Zl (show d.m≤(d.m.natAbs:Int) by omega)
  have e2:=Zl (show -(d.m.natAbs:Int)≤d.m by omega)
  rw [Rat.intCast_natCast] at e1
  rw [Rat.intCast_neg,Rat.intCast_natCast] at e2
  exact ⟨e1,e2⟩
 have hp:=zb d.e
 have h6:=Rat.mul_le_mul_of_nonneg_right h5.1 (Rat.le_of_lt hp)
 have h7:=Rat.mul_le_mul_of_nonneg_right h5.2 (Rat.le_of_lt hp)
 show -_≤(d.m:Rat)*p2 d.e∧(d.m:Rat)*p2 d.e≤_
 exact ⟨by grind,by grind⟩
theorem zmE {d:D} {L H:Int} (h:Okd d L H) (h0:d.m≠0):L≤d.e∧d.e+(blen d.m.natAbs:Nat)≤H+1:=⟨G_e h.w.odd0 h0 h.g,zgq h0 h.b⟩
theorem zC7 {K n M:Int} {x:Rat} (h:B K x) (hn:K+n≤M):B M (x*p2 n):=by
 have h2:=qe hn
 rw [zy] at h2
 have hp:=zb n
 have h3:=Rat.mul_le_mul_of_nonneg_right h.1 (Rat.le_of_lt hp)
 have h4:=Rat.mul_le_mul_of_nonneg_right h.2 (Rat.le_of_lt hp)
 exact ⟨by grind,by grind⟩
theorem zqi {d:D} {L H:Int} (h:Okd d L H) (hH:0≤H):(exN d:Int)≤H+4:=by
 unfold exN
 split
 ·omega
 ·rename_i h0
  have:=(zmE h h0).2
  omega
theorem zve (d:D):B (-3) (val d*p2 (-(exN d:Int))):=by
 by_cases h0:d.m=0
 ·have:val d=0:=by show (d.m:Rat)*p2 d.e=0; rw [h0]; simp
  rw [this]; have:=zb (-3); exact ⟨by grind,by grind⟩
 ·refine zC7 (zqh d) ?_
  unfold exN
  rw [we h0]
  omega
theorem zC8 {d:D} {L H:Int} (h:Okd d L H) (hL : -1000≤L) (hH:0≤H∧H≤100):HasW (srS ⟨d,d⟩ (-(exN d:Int)) 0) (ofQ (val d*p2 (-(exN d:Int)))) (L-(exN d:Int)) (-3) 0:=by
 have hn:=zqi h hH.1
 obtain ⟨c,e,o,e1,e2⟩:=zes (a:=⟨d,d⟩) (n:=-(exN d:Int)) ⟨h,h,Rat.le_refl⟩ wa wa
 have hb:=zve d
 unfold srS
 rw [zd,zpE wa,e]
 have e1:val c.lo=val d*p2 (-(exN d:Int)):=e1
 have e2:val c.hi=val d*p2 (-(exN d:Int)):=e2
 refine ⟨⟨rfl,⟨⟨o.lo.w,o.lo.g,by rw [e1]; exact hb⟩,⟨o.hi.w,o.hi.g,by rw [e2]; exact hb⟩,o.le⟩,⟨by rw [e1]; exact zK _,by rw [e2]; exact zK _⟩⟩,?_⟩
 show val c.hi-val c.lo≤0
 rw [e1,e2]; grind
theorem zbz {d:D} (h:0<val d):0<d.m:=by
 rcases Int.lt_or_le 0 d.m with k | k
 ·exact k
 ·have h1:(d.m:Rat)≤0:=by exact_mod_cast Zl k
  have:=Rat.mul_le_mul_of_nonneg_right h1 (Rat.le_of_lt (zb d.e))
  have h2:(d.m:Rat)*p2 d.e≤0*p2 d.e:=this
  have h3:0<(d.m:Rat)*p2 d.e:=h
  grind
theorem zvf {p:Nat} (hp:20≤p∧p≤200):HasW (piS p 0) (An.hp+An.hp) (1-(p:Int)) 2 (p2 (13-(p:Int)))∧3≤val (piS p 0).1.lo:=by
 have h:=zCZ (p:=p) wa
 have a:=zu9 (p:=p) wa
 have b:=zva (p:=p) wa
 have hpos:=zb (-(p:Int))
 have q13:p2 (13-(p:Int))=8192*p2 (-(p:Int)):=by rw [show 13-(p:Int)=13 + -(p:Int) by omega,zy]; rfl
 have hNr:(((p / 2+4:Nat):Nat):Rat)≤104:=by exact_mod_cast zY (show p / 2+4≤104 by omega)
 have hw:(106+((p / 2+4:Nat):Rat)*49)*p2 (-(p:Int))≤p2 (13-(p:Int)):=by
  rw [q13]
  generalize ((p / 2+4:Nat):Rat)=N at *
  have:=Rat.mul_le_mul_of_nonneg_right (show 106+N*49≤8192 by grind) (Rat.le_of_lt hpos)
  grind
 have h':=h.mono (Int.le_refl _) (Int.le_refl _) hw
 have p13:p2 (13-(p:Int))≤p2 (-7):=qe wa
 have p13':p2 (-7)=1 / 128:=by decide +kernel
 have hww:=h'.w
 have hi:=h'.h.m.hi
 have hlo:=h'.h.m.lo
 have n1:314 / 100≤val (piS p 0).1.hi:=zc.1 (zj (zc.2 (by decide +kernel)) (zj zgQ.1 hi))
 have n2:val (piS p 0).1.lo≤315 / 100:=zc.1 (zj hlo (zj zgQ.2 (zc.2 (by decide +kernel))))
 rw [p13'] at p13
 have l3:3≤val (piS p 0).1.lo:=by grind
 have l4:val (piS p 0).1.hi≤4:=by grind
 have a4:=zce (n:=4) a wa wa
 have b2:=zce (n:=2) b wa wa
 have ea:(zi p 5 0).2=0:=a.h.e
 have eb:(zi p 239 0).2=0:=b.h.e
 have ea4:(scS (zi p 5 0).1 4 0).2=0:=a4.h.e
 have eb2:(scS (zi p 239 0).1 2 0).2=0:=b2.h.e
 have hneg:=(zmA b2).h
 obtain ⟨c,e,o,en⟩:=zbs (a4.h.mono (L':=-46000) (H':=4) wa wa).ok (hneg.mono (L':=-46000) (H':=4) wa wa).ok (p:=p) wa wa wa
 have e':piS p 0=(c,0):=by
  unfold piS
  rw [ea,eb,ea4,eb2]
  unfold suS zep
  rw [zd]
  exact e
 rw [e'] at h' l3 l4 ⊢
 have hle:=h'.h.ok.le
 refine ⟨⟨⟨rfl,⟨⟨h'.h.ok.lo.w,Zw en.rlo (l:=1) ?_,?_⟩,⟨h'.h.ok.hi.w,Zw en.rhi (l:=1) ?_,?_⟩,hle⟩,h'.h.m⟩,h'.w⟩,l3⟩
 ·rw [Q1.2.2.2]; show 2≤val c.lo; grind
 ·unfold B; rw [Q1.2.2.1]; exact ⟨by grind,by grind⟩
 ·rw [Q1.2.2.2]; show 2≤val c.hi; grind
 ·unfold B; rw [Q1.2.2.1]; exact ⟨by grind,by grind⟩
theorem zC9 (d:D):(flD d:Rat)≤val d∧val d<(flD d:Rat)+1:=by
 unfold flD
 show _≤(d.m:Rat)*p2 d.e∧(d.m:Rat)*p2 d.e<_
 by_cases h:0≤d.e
 ·rw [wc h]
  have e:((d.m*2 ^ d.e.toNat:Int):Rat)=(d.m:Rat)*p2 d.e:=by
   have:=qS d.e.toNat
   rw [Int.toNat_of_nonneg h] at this
   rw [Rat.intCast_mul,this]
   congr 1
  rw [e]
  exact ⟨Rat.le_refl,by grind⟩
 ·rw [we h]
  have hp:=zb d.e
  have hk:(0:Int)<2 ^ (-d.e).toNat:=Int.pow_pos (by decide)
  have e:p2 d.e*((2 ^ (-d.e).toNat:Int):Rat)=1:=by
   have h1:=qS (-d.e).toNat
   rw [Int.toNat_of_nonneg wa] at h1
   have h2:((2 ^ (-d.e).toNat:Int):Rat)=p2 (-d.e):=by rw [h1]; rfl
   rw [h2,← zy,show d.e + -d.e=0 by omega,zN]
  generalize (2 ^ (-d.e).toNat:Int)=z at *
  generalize p2 d.e=t at *
  have h1:=Int.mul_ediv_add_emod d.m z
  have h2:=Int.emod_nonneg d.m (show z≠0 by omega)
  have h3:=Int.emod_lt_of_pos d.m hk
  have g1:((d.m / z:Int):Rat)*(z:Rat)≤(d.m:Rat):=by
   have:=Zl (show d.m / z*z≤d.m by rw [Int.mul_comm]; omega)
   rwa [Rat.intCast_mul] at this
  have g2:(d.m:Rat)<((d.m / z:Int):Rat)*(z:Rat)+(z:Rat):=by
   have:=ziy (show d.m<d.m / z*z+z by rw [Int.mul_comm]; omega)
   rwa [Rat.intCast_add,Rat.intCast_mul] at this
  clear h1 h2 h3
  generalize ((d.m / z:Int):Rat)=q at *
  generalize (d.m:Rat)=m at *
  generalize (z:Rat)=z at *
  have e5:q*z*t=q:=by rw [Rat.mul_assoc,Rat.mul_comm z t,e,Rat.mul_one]
  constructor
  ·have:=Rat.mul_le_mul_of_nonneg_right g1 (Rat.le_of_lt hp)
   rwa [e5] at this
  ·have:=Rat.mul_lt_mul_of_pos_right g2 hp
   rwa [Rat.add_mul,e5,Rat.mul_comm z t,e] at this
theorem zqj {w:Nat} (hw:40≤w) {n:Int} (hn:n≤24):p2 (n-(w:Int))≤1 / 65536:=by
 have h1:p2 (n-(w:Int))≤p2 (-16):=qe wa
 rwa [show p2 (-16)=1 / 65536 by decide +kernel] at h1
theorem zvg (d:D):pS d 0=(⟨d,d⟩,0):=by unfold pS; rw [zd]
theorem zDa (a b:Int):((a+b:Int):R)=(a:R)+(b:R):=by show ofQ ((a+b:Int):Rat)=ofQ (a:Rat)+ofQ (b:Rat); rw [← zP,Rat.intCast_add]
theorem zvh (n:Nat):(((n:Int):Int):R)=(n:R):=by show ofQ (((n:Int):Int):Rat)=ofQ (n:Rat); rw [Rat.intCast_natCast]
theorem zDb (z:R):z*ofQ (p2 1)=z+z:=by rw [show ofQ (p2 1)=(2:R) from rfl]; grind
theorem zDc {q h:Rat} (h1:3 / 2≤h) (hb : -(3 / 4)≤q*h∧q*h≤3 / 4):B (-1) q:=by
 unfold B
 rw [show p2 (-1)=1 / 2 by decide +kernel]
 constructor
 ·rcases Rat.le_total (a:=0) (b:=q) with k | k
  ·grind
  ·have:=Rat.mul_le_mul_of_nonneg_right h1 (show 0 ≤ -q by grind)
   grind
 ·rcases Rat.le_total (a:=0) (b:=q) with k | k
  ·have:=Rat.mul_le_mul_of_nonneg_right h1 k
   grind
  ·grind
theorem zvi {s t:Rat} (h1:3 / 2≤t) (hb : -(3 / 4)≤s∧s≤3 / 4):B (-1) (s / t):=zDc h1 (by rw [ZJ (by grind)]; exact hb)
theorem zgR (n:Int):(0:R)<ofQ (p2 n):=Zi.2 (zb n)
theorem zvj (n:Nat):Ln (ofQ (p2 (n:Int)))=(n:R)*Ln 2:=by
 induction n with
 | zero=>rw [show ((0:Nat):Int)=0 from rfl,zN,show ofQ 1=(1:R) from rfl,zmu,show ((0:Nat):R)=0 from rfl]; grind
 | succ n ih=>
  rw [show ((n+1:Nat):Int)=(n:Int)+1 by omega,zy,zk,zmt (zgR _) (zgR _),ih,show ofQ (p2 1)=(2:R) from rfl,show ((n+1:Nat):R)=(n:R)+1 by grind]
  grind
theorem zjf (n:Int):Ln (ofQ (p2 n))=(n:R)*Ln 2:=by
 rcases Int.le_total 0 n with h | h
 ·obtain ⟨k,rfl⟩:∃ k:Nat,n=(k:Int):=⟨n.toNat,wa⟩
  rw [zvj,zvh]
 ·obtain ⟨k,rfl⟩:∃ k:Nat,n = -(k:Int):=⟨(-n).toNat,wa⟩
  have h1:=zmt (zgR (-(k:Int))) (zgR (k:Int))
  rw [← zk,← zy,show -(k:Int)+(k:Int)=0 by omega,zN,show ofQ 1=(1:R) from rfl,zmu,zvj] at h1
  have h2:((-(k:Int):Int):R)+(k:R)=0:=by rw [← zvh,← zDa,show -(k:Int)+(k:Int)=0 by omega]; rfl
  have h3:((-(k:Int):Int):R) = -(k:R):=by grind
  rw [h3]
  grind
theorem zvk {d:D} (h0:0<d.m):1≤val d*p2 (-lnK d)∧val d*p2 (-lnK d)<2∧val d*p2 (-lnK d)=(d.m:Rat)*p2 (1-(blen d.m.natAbs:Nat)):=by
 have e:val d*p2 (-lnK d)=(d.m:Rat)*p2 (1-(blen d.m.natAbs:Nat)):=by
  show (d.m:Rat)*p2 d.e*p2 (-lnK d)=_
  rw [Rat.mul_assoc,← zy]
  congr 2
  unfold lnK; omega
 have hn:d.m.natAbs≠0:=wa
 have b1:=QR hn
 have b2:=Zk d.m.natAbs
 have bp:=zbW hn
 have hp:=zb (1-((blen d.m.natAbs:Nat):Int))
 have c1:((2 ^ (blen d.m.natAbs-1):Nat):Rat)≤(d.m:Rat):=by
  have:=Zl (show ((2 ^ (blen d.m.natAbs-1):Nat):Int)≤d.m by omega)
  rwa [Rat.intCast_natCast] at this
 have c2:(d.m:Rat)<((2 ^ blen d.m.natAbs:Nat):Rat):=by
  have:=ziy (show d.m<((2 ^ blen d.m.natAbs:Nat):Int) by omega)
  rwa [Rat.intCast_natCast] at this
 have f1:p2 ((blen d.m.natAbs-1:Nat):Int)*p2 (1-(blen d.m.natAbs:Nat))=1:=by
  rw [← zy,show ((blen d.m.natAbs-1:Nat):Int)+(1-((blen d.m.natAbs:Nat):Int))=0 by omega,zN]
 have f2:p2 ((blen d.m.natAbs:Nat):Int)*p2 (1-(blen d.m.natAbs:Nat))=2:=by
  rw [← zy,show ((blen d.m.natAbs:Nat):Int)+(1-((blen d.m.natAbs:Nat):Int))=1 by omega]; rfl
 rw [qS] at f1 f2
 have g1:=Rat.mul_le_mul_of_nonneg_right c1 (Rat.le_of_lt hp)
 have g2:=Rat.mul_lt_mul_of_pos_right c2 hp
 rw [f1] at g1
 rw [f2] at g2
 rw [e]
 exact ⟨g1,g2,rfl⟩
theorem zjg {d:D} (h0:0<d.m):p2 (lnK d)≤val d∧val d<p2 (lnK d+1):=by
 obtain ⟨v1,v2,-⟩:=zvk h0
 have hp:=zb (lnK d)
 have v0:val d*p2 (-lnK d)*p2 (lnK d)=val d:=by
  have:=zpg (-lnK d) (val d)
  rwa [Int.neg_neg] at this
 have g1:=Rat.mul_le_mul_of_nonneg_right v1 (Rat.le_of_lt hp)
 have g2:=Rat.mul_lt_mul_of_pos_right v2 hp
 rw [v0] at g1 g2
 rw [zy,show p2 1=2 from rfl]
 exact ⟨by grind,by grind⟩
theorem zgS {d:D} (hd:WD d) (h0:0<d.m) {p:Nat} (hr:rep p (val d)):blen d.m.natAbs≤p+2:=by
 obtain ⟨k1,k2⟩:=zjg h0
 have g:=Zw hr k1
 have b:B (lnK d+1) (val d):=by
  have:=zb (lnK d+1)
  have:=zb (lnK d)
  exact ⟨by grind,by grind⟩
 have e1:=G_e hd.odd0 wa g
 have e2:=zgq (show d.m≠0 by omega) b
 omega
theorem zvl {d:D} (h0:0<d.m) {l h:Int} (h1:p2 l≤val d) (h2:val d≤p2 h):l-1≤lnK d∧lnK d≤h:=by
 obtain ⟨k1,k2⟩:=zjg h0
 have a1:=zgp.1 (show p2 l≤p2 (lnK d+1) by grind)
 have a2:=zgp.1 (show p2 (lnK d)≤p2 h by grind)
 omega
theorem zmF {d:D} {p:Nat} (hp:2≤p∧p≤336) (hb:blen d.m.natAbs≤400):fitB d (p:Int)=true:=by
 unfold fitB
 rw [decide_eq_true (show 2≤(p:Int) by omega),decide_eq_true (show (p:Int)≤336 by omega),decide_eq_true hb]; rfl
theorem zDd {f:D→Int→I × Int} {c:I} {p:Int} (f1:fitB c.lo p=true) (f2:fitB c.hi p=true) (z1:(f c.lo p).2=0) (z2:(f c.hi p).2=0):ofR f c p=(⟨(f c.lo p).1.lo,(f c.hi p).1.hi⟩,0):=by
 unfold ofR
 rw [f1,f2,wc (show (true && true)=true from rfl),we (by rw [z1]; simp),we (by rw [z2]; simp)]
theorem zvm {A K:I × Int} {x y z:R} {L H:Int} (l1:Has A x L H) (l2:Has K y L H) (q1:x≤z) (q2:z≤y):Has (⟨A.1.lo,K.1.hi⟩,0) z L H:=by
 have w1:=zj l1.m.lo q1
 have w2:=zj q2 l2.m.hi
 exact ⟨rfl,⟨l1.ok.lo,l2.ok.hi,zc.1 (zj w1 w2)⟩,⟨w1,w2⟩⟩
theorem Z7 {q1 q2 h1 h2 a1 a2 w1 w2:Rat} (k1:1≤h1) (e1:q1*h1=a1) (e2:q2*h2=a2) (hq : -1≤q2∧q2≤1) (da : -w1≤a1-a2∧a1-a2≤w1) (dh : -w2≤h1-h2∧h1-h2≤w2):q1-q2≤w1+w2:=by
 have e:(q1-q2)*h1=a1-a2+q2*(h2-h1):=by grind
 have hm:=(zlX (x:=q2) (y:=h2-h1) hq (⟨by grind,by grind⟩ : -w2≤h2-h1∧h2-h1≤w2)).2
 rcases Rat.le_total (a:=q1-q2) (b:=0) with k | k
 ·grind
 ·have:=Rat.mul_le_mul_of_nonneg_right k1 k
  grind
theorem zDe {q:Rat} (h:B (-1) q) : -1≤q∧q≤1:=by
 unfold B at h
 rw [show p2 (-1)=1 / 2 by decide +kernel] at h
 exact ⟨by grind,by grind⟩
theorem zDf {sl sh tl th u v w1 w2:Rat} (mu:u=sl / tl∨u=sl / th∨u=sh / tl∨u=sh / th) (mv:v=sl / tl∨v=sl / th∨v=sh / tl∨v=sh / th) (hs:sl≤sh) (ht:tl≤th) (h1:3 / 2≤tl) (s3:sh-sl≤w1) (t3:th-tl≤w2) (bo : -1≤u∧u≤1):v-u≤w1+w2:=by
 have f1:=ZJ (a:=sl) (b:=tl) (by grind)
 have f2:=ZJ (a:=sl) (b:=th) (by grind)
 have f3:=ZJ (a:=sh) (b:=tl) (by grind)
 have f4:=ZJ (a:=sh) (b:=th) (by grind)
 generalize sl / tl=q1 at *
 generalize sl / th=q2 at *
 generalize sh / tl=q3 at *
 generalize sh / th=q4 at *
 rcases mu with k | k | k | k<;>rcases mv with j | j | j | j<;>rw [j,k]<;>rw [k] at bo<;>clear j k<;>first | exact Z7 (by grind) f1 f1 bo ⟨by grind,by grind⟩ ⟨by grind,by grind⟩ | exact Z7 (by grind) f1 f2 bo ⟨by grind,by grind⟩ ⟨by grind,by grind⟩ | exact Z7 (by grind) f1 f3 bo ⟨by grind,by grind⟩ ⟨by grind,by grind⟩ | exact Z7 (by grind) f1 f4 bo ⟨by grind,by grind⟩ ⟨by grind,by grind⟩ | exact Z7 (by grind) f2 f1 bo ⟨by grind,by grind⟩ ⟨by grind,by grind⟩ | exact Z7 (by grind) f2 f2 bo ⟨by grind,by grind⟩ ⟨by grind,by grind⟩ | exact Z7 (by grind) f2 f3 bo ⟨by grind,by grind⟩ ⟨by grind,by grind⟩ | exact Z7 (by grind) f2 f4 bo ⟨by grind,by grind⟩ ⟨by grind,by grind⟩ | exact Z7 (by grind) f3 f1 bo ⟨by grind,by grind⟩ ⟨by grind,by grind⟩ | exact Z7 (by grind) f3 f2 bo ⟨by grind,by grind⟩ ⟨by grind,by grind⟩ | exact Z7 (by grind) f3 f3 bo ⟨by grind,by grind⟩ ⟨by grind,by grind⟩ | exact Z7 (by grind) f3 f4 bo ⟨by grind,by grind⟩ ⟨by grind,by grind⟩ | exact Z7 (by grind) f4 f1 bo ⟨by grind,by grind⟩ ⟨by grind,by grind⟩ | exact Z7 (by grind) f4 f2 bo ⟨by grind,by grind⟩ ⟨by grind,by grind⟩ | exact Z7 (by grind) f4 f3 bo ⟨by grind,by grind⟩ ⟨by grind,by grind⟩ | exact Z7 (by grind) f4 f4 bo ⟨by grind,by grind⟩ ⟨by grind,by grind⟩
theorem zDg {r:Rat} (h1:3 / 4≤r) (h2:r≤3 / 2) : -(1 / 3)≤(r-1) / (r+1)∧(r-1) / (r+1)≤1 / 3:=by
 have e:(r-1) / (r+1)*(r+1)=r-1:=ZJ (by grind)
 generalize (r-1) / (r+1)=q at *
 have hr:7 / 4≤r+1:=by grind
 constructor
 ·rcases Rat.le_total (a:=0) (b:=q) with k | k
  ·grind
  ·have:=Rat.mul_le_mul_of_nonneg_right hr (show 0 ≤ -q by grind)
   grind
 ·rcases Rat.le_total (a:=0) (b:=q) with k | k
  ·have:=Rat.mul_le_mul_of_nonneg_right hr k
   grind
  ·grind
theorem HasW.tight {r:I × Int} {x:R} {L H K:Int} {w m:Rat} (h:HasW r x L H w) (hx:ab x≤ofQ m) (hK:m+w≤p2 K):HasW r x L K w:=by
 have e:=h.ends hx
 have o:=h.h.ok
 have hw:0≤w:=by have:=h.w; have:=o.le; grind
 exact ⟨⟨h.h.e,⟨⟨o.lo.w,o.lo.g,⟨by grind,by grind⟩⟩,⟨o.hi.w,o.hi.g,⟨by grind,by grind⟩⟩,o.le⟩,h.h.m⟩,h.w⟩
def Far (l:Int) (x:Rat):Prop:=x=0∨p2 l≤x∨x ≤ -p2 l
theorem Far.neg {l:Int} {x:Rat} (h:Far l x):Far l (-x):=by
 rcases h with h | h | h
 ·left; grind
 ·right; right; grind
 ·right; left; grind
theorem Far.pos_mul {l m:Int} {x y:Rat} (h:p2 l≤x) (k:Far m y):Far (l+m) (x*y):=by
 have hl:=zb l
 have hm:=zb m
 rw [Far,zy]
 rcases k with k | k | k
 ·left; rw [k]; grind
 ·right; left
  have a:=Rat.mul_le_mul_of_nonneg_right h (Rat.le_of_lt hm)
  have b:=Rat.mul_le_mul_of_nonneg_left k (show 0≤x by grind)
  grind
 ·right; right
  have a:=Rat.mul_le_mul_of_nonneg_right h (Rat.le_of_lt hm)
  have b:=Rat.mul_le_mul_of_nonneg_left (show p2 m ≤ -y by grind) (show 0≤x by grind)
  grind
theorem Far.mul {l m:Int} {x y:Rat} (h:Far l x) (k:Far m y):Far (l+m) (x*y):=by
 rcases h with h | h | h
 ·left; rw [h]; grind
 ·exact Far.pos_mul h k
 ·have:=(Far.pos_mul (show p2 l ≤ -x by grind) k).neg
  rwa [show -(-x*y)=x*y by grind] at this
theorem zqk (p:Nat):rep p 0:=⟨0,0,wb,wb⟩
theorem Far.grid {l:Int} {p:Nat} {x:Rat} (h:Far l x) (hr:rep p x):G (l-p) x:=by
 rcases h with h | h | h
 ·rw [h]; exact G.zero _
 ·exact Zw hr h
 ·have:=(Zw (zb5 hr) (show p2 l ≤ -x by grind)).neg
  rwa [show - -x=x by grind] at this
theorem zDh {p:Nat} {c:I} {u v:Rat} (en:Enc p c u v) {l:Int} (hu:Far l u) (hv:Far l v):Far l (val c.lo)∧Far l (val c.hi):=by
 have r0:=zqk p
 have r1:=qM p l
 have r2:=zb5 r1
 constructor
 ·have a:=en.lo
  rcases hu with h | h | h
  ·left; have:=en.blo 0 r0 (by grind); grind
  ·right; left; exact en.blo _ r1 h
  ·right; right; grind
 ·have a:=en.hi
  rcases hv with h | h | h
  ·left; have:=en.bhi 0 r0 (by grind); grind
  ·right; left; grind
  ·right; right; exact en.bhi _ r2 h
structure HasF (r:I × Int) (x:R) (l:Int) (p:Nat) (H:Int):Prop where
 h:Has r x (l-p) H
 lo:Far l (val r.1.lo)
 hi:Far l (val r.1.hi)
theorem zvn {p:Nat} {c:I} {u v:Rat} {x:R} {l L H:Int} (en:Enc p c u v) (o:OkI c L H) (m:Mem c x) (hu:Far l u) (hv:Far l v):HasF (c,0) x l p H:=by
 have f:=zDh en hu hv
 exact ⟨⟨rfl,⟨⟨o.lo.w,f.1.grid en.rlo,o.lo.b⟩,⟨o.hi.w,f.2.grid en.rhi,o.hi.b⟩,o.le⟩,m⟩,f.1,f.2⟩
theorem zvo {r s:I × Int} {x y:R} {l m H K:Int} {p:Nat} (ha:HasF r x l p H) (hb:HasF s y m p K) (hp:1≤p) (hL : -60000≤l+m-p-p) (hH:H+K≤60000):HasF (mS p r.1 s.1 0) (x*y) (l+m) p (H+K):=by
 obtain ⟨c,u,v,e,o,en,pr⟩:=zak ha.h.ok hb.h.ok hp wa hH
 have h:=zi9 ha.h hb.h hp wa hH
 have e':mS p r.1 s.1 0=(c,0):=by unfold mS; rw [zd,e]
 rw [e'] at h ⊢
 refine zvn en o h.m ?_ ?_
 ·rcases pr.mu with q | q | q | q<;>rw [q]
  ·exact ha.lo.mul hb.lo
  ·exact ha.lo.mul hb.hi
  ·exact ha.hi.mul hb.lo
  ·exact ha.hi.mul hb.hi
 ·rcases pr.mv with q | q | q | q<;>rw [q]
  ·exact ha.lo.mul hb.lo
  ·exact ha.lo.mul hb.hi
  ·exact ha.hi.mul hb.lo
  ·exact ha.hi.mul hb.hi
theorem HasF.pair {r:I × Int} {x:R} {l H:Int} {p:Nat} (h:HasF r x l p H):HasF (r.1,0) x l p H:=⟨h.h.pair,h.lo,h.hi⟩
theorem HasF.eq {r:I × Int} {x y:R} {l H:Int} {p:Nat} (h:HasF r x l p H) (e:x=y):HasF r y l p H:=e ▸ h
theorem Far.mono {l m:Int} {x:Rat} (h:Far l x) (k:m≤l):Far m x:=by
 have:=qe k
 rcases h with h | h | h
 ·exact Or.inl h
 ·right; left; grind
 ·right; right; grind
theorem HasF.mono {r:I × Int} {x:R} {l m H K:Int} {p:Nat} (h:HasF r x l p H) (k:m≤l) (hH:H≤K):HasF r x m p K:=⟨h.h.mono wa hH,h.lo.mono k,h.hi.mono k⟩
theorem zvp {L:Int} {x:Rat} (h:G L x):Far L x:=by
 obtain ⟨z,rfl⟩:=h
 have hp:=zb L
 rcases Int.lt_trichotomy z 0 with k | k | k
 ·right; right
  have:(z:Rat) ≤ -1:=by
   have:=Zl (show z ≤ -1 by omega)
   exact this
  have:=Rat.mul_le_mul_of_nonneg_right this (Rat.le_of_lt hp)
  grind
 ·left; rw [k]; simp
 ·right; left
  have:(1:Rat)≤(z:Rat):=by
   have:=Zl (show 1≤z by omega)
   exact this
  have:=Rat.mul_le_mul_of_nonneg_right this (Rat.le_of_lt hp)
  grind
theorem Far.div {l:Int} {x t:Rat} (h:Far l x) (h0:0<t) (h4:t≤4):Far (l-2) (x / t):=by
 have e:p2 l=p2 (l-2)*4:=by rw [show l=(l-2)+2 by omega,zy,show l-2+2-2=l-2 by omega]; rfl
 have hl:=zb (l-2)
 have hm:x / t*t=x:=ZJ (by grind)
 generalize x / t=q at *
 rcases h with h | h | h
 ·left
  rw [h] at hm
  rcases Rat.le_total (a:=0) (b:=q) with k | k
  ·rcases Classical.em (q=0) with z | z
   ·exact z
   ·have:=Rat.mul_pos (show 0<q by grind) h0; grind
  ·rcases Classical.em (q=0) with z | z
   ·exact z
   ·have:=Rat.mul_pos (show 0 < -q by grind) h0; grind
 ·right; left
  rcases Rat.le_total (a:=q) (b:=0) with k | k
  ·have:=Rat.mul_nonneg (show 0 ≤ -q by grind) (Rat.le_of_lt h0); grind
  ·have:=Rat.mul_le_mul_of_nonneg_left h4 k; grind
 ·right; right
  rcases Rat.le_total (a:=0) (b:=q) with k | k
  ·have:=Rat.mul_nonneg k (Rat.le_of_lt h0); grind
  ·have:=Rat.mul_le_mul_of_nonneg_left h4 (show 0 ≤ -q by grind); grind
def gP (w:Nat) (d:D):Nat→Nat→I→Int→I × Int
 | 0,_,b,e=>(b,e)
 | k+1,i,b,e=>gP w d k (i+1) (mS w b (aS w (pS d e).1 (iS (i:Int) (pS d e).2).1 (iS (i:Int) (pS d e).2).2).1 (aS w (pS d e).1 (iS (i:Int) (pS d e).2).1 (iS (i:Int) (pS d e).2).2).2).1 (mS w b (aS w (pS d e).1 (iS (i:Int) (pS d e).2).1 (iS (i:Int) (pS d e).2).2).1 (aS w (pS d e).1 (iS (i:Int) (pS d e).2).1 (iS (i:Int) (pS d e).2).2).2).2
def bnC (k:Nat):Nat:=bnD k*2*k*(2*k-1)
def gV (w:Nat) (k:Nat) (r:I) (e:Int):I × Int:=dS w (iS (bnN k) e).1 (mS w (iS (bnC k:Int) (iS (bnN k) e).2).1 r (iS (bnC k:Int) (iS (bnN k) e).2).2).1 (mS w (iS (bnC k:Int) (iS (bnN k) e).2).1 r (iS (bnC k:Int) (iS (bnN k) e).2).2).2
def gT (w:Nat) (y:I):Nat→Nat→I→I→Int→I × Int
 | 0,_,s,_,e=>(s,e)
 | k+1,i,s,r,e=>gT w y k (i+1) (aS w s (gV w i r e).1 (gV w i r e).2).1 (mS w r (mS w y y (aS w s (gV w i r e).1 (gV w i r e).2).2).1 (mS w y y (aS w s (gV w i r e).1 (gV w i r e).2).2).2).1 (mS w r (mS w y y (aS w s (gV w i r e).1 (gV w i r e).2).2).1 (mS w y y (aS w s (gV w i r e).1 (gV w i r e).2).2).2).2
def gY (w n:Nat) (d:D):I × Int:=aS w ⟨d,d⟩ (intI (n:Int)) 0
def gB (w n:Nat) (d:D):I × Int:=gP w d n 0 (iS 1 (gY w n d).2).1 (iS 1 (gY w n d).2).2
def gU (w n:Nat) (d:D):I × Int:=suS w (gY w n d).1 (pS ⟨1,-1⟩ (gB w n d).2).1 (pS ⟨1,-1⟩ (gB w n d).2).2
def gL1 (w n:Nat) (d:D):I × Int:=ofR lnR (gY w n d).1 (w:Int)
def gM (w n:Nat) (d:D):I × Int:=mS w (gU w n d).1 (gL1 w n d).1 0
def gN (w n:Nat) (d:D):I × Int:=nS (gY w n d).1 (gM w n d).2
def gQ (w:Nat) (e:Int):I × Int:=scS (piS w e).1 1 (piS w e).2
def gL2 (w:Nat):I × Int:=ofR lnR (gQ w 0).1 (w:Int)
def gC (w:Nat):I × Int:=scS (gL2 w).1 (-1) 0
def gS1 (w n:Nat) (d:D):I × Int:=aS w (gM w n d).1 (gN w n d).1 (gC w).2
def gS2 (w n:Nat) (d:D):I × Int:=aS w (gS1 w n d).1 (gC w).1 (gS1 w n d).2
def gS3 (w n:Nat) (d:D):I × Int:=gT w (gY w n d).1 10 1 (gS2 w n d).1 (gY w n d).1 (gS2 w n d).2
def gS4 (w n:Nat) (d:D):I × Int:=wS w (gS3 w n d).1 ⟨1,-160⟩ (gS3 w n d).2
def gL3 (w n:Nat) (d:D):I × Int:=ofR lnR (gB w n d).1 (w:Int)
def gS5 (w n:Nat) (d:D):I × Int:=suS w (gS4 w n d).1 (gL3 w n d).1 0
structure GOK (w n:Nat) (d:D):Prop where
 eu:(gU w n d).2=0
 e1:(gL1 w n d).2=0
 en:(gN w n d).2=0
 eq:(gQ w 0).2=0
 e2:(gL2 w).2=0
 es:(gS4 w n d).2=0
 e3:(gL3 w n d).2=0
 o1:val (gL1 w n d).1.lo≤val (gL1 w n d).1.hi
 o2:val (gL2 w).1.lo≤val (gL2 w).1.hi
 o3:val (gL3 w n d).1.lo≤val (gL3 w n d).1.hi
theorem zql {w:Nat} {a:I} (ha:SI a):zbL (iv a) 0 0 (w:Int)=some (iv (ofR lnR a (w:Int)).1,(ofR lnR a (w:Int)).2):=by
 unfold zbL zdO Qp ZT
 simp only [obn]
 rw [we wb]
 simp only [obn]
 rw [we wb]
 refine Eq.trans (congrArg (fun o=>Option.bind o _) (zBp ha (w:Int))) ?_
 rfl
theorem zvq:∀ k:Nat,k≤10→1≤k→zaG (k:Int)=some (bnN k,(bnD k:Int),true)∧i64.wrap (i64.wrap (i64.wrap ((bnD k:Int)*2)*(k:Int))*i64.wrap (i64.wrap (2*(k:Int))-1))=(bnC k:Int)∧-1000000≤bnN k∧bnN k≤1000000∧bnC k≤1000000:=by
 intro k h1 h2
 rcases (show k=1∨k=2∨k=3∨k=4∨k=5∨k=6∨k=7∨k=8∨k=9∨k=10 by omega) with h | h | h | h | h | h | h | h | h | h<;>subst h<;>exact ⟨by rfl,by decide +kernel,by decide,by decide,by decide⟩
theorem zvr {f:D→Int→I × Int} {a:I} {p:Int} (s1:SI (f a.lo p).1) (s2:SI (f a.hi p).1) (le:val (ofR f a p).1.lo≤val (ofR f a p).1.hi):SI (ofR f a p).1:=by
 unfold ofR at *
 generalize f a.lo p=A at *
 generalize f a.hi p=K at *
 by_cases h0:(fitB a.lo p && fitB a.hi p)=true
 ·rw [wc h0] at le ⊢
  by_cases h1:A.2≠0
  ·rw [wc h1]; exact zO
  ·rw [we h1] at le ⊢
   by_cases h2:K.2≠0
   ·rw [wc h2]; exact zO
   ·rw [we h2] at le ⊢
    exact ⟨⟨s1.ok.1,s2.ok.2.1,le⟩,s1.lo,s2.hi⟩
 ·rw [we h0]; exact zO
theorem zdk {a:I} (ha:SI a) {p:Int} (le:val (ofR lnR a p).1.lo≤val (ofR lnR a p).1.hi):SI (ofR lnR a p).1:=zvr (zue ha.ok.1) (zue ha.ok.2.1) le
theorem zqm {w:Nat} (hw:w≤400) (k:Nat) {r:I} (hr:SI r) (e:Int):SI (gV w k r e).1:=QW hw _ (qd hw _ _ _) _
theorem zDi {w:Nat} (hw:2≤w∧w≤400) {y b:I} (hy:SI y) (ey:Int) (x277:Int × Int):∀ (k i:Nat) (s r:I) (e:Int),i+k=11→1≤i→SI s→SI r→∀ f,k<f→
  zfq (w:Int) (iv y,ey) x277 (iv b).Lo.M.Neg (iv b).Lo.M.Mag (iv b).Lo.E (iv b).Hi.M.Neg (iv b).Hi.M.Mag (iv b).Hi.E 0 f (i:Int) e (iv s).Lo.M.Neg (iv s).Lo.M.Mag (iv s).Lo.E (iv s).Hi.M.Neg (iv s).Hi.M.Mag (iv s).Hi.E (iv r).Lo.M.Neg (iv r).Lo.M.Mag (iv r).Lo.E (iv r).Hi.M.Neg (iv r).Hi.M.Mag (iv r).Hi.E=zn2 (w:Int) x277 (iv b).Lo.M.Neg (iv b).Lo.M.Mag (iv b).Lo.E (iv b).Hi.M.Neg (iv b).Hi.M.Mag (iv b).Hi.E 0 (gT w y k i s r e).2 (iv (gT w y k i s r e).1).Lo.M.Neg (iv (gT w y k i s r e).1).Lo.M.Mag (iv (gT w y k i s r e).1).Lo.E (iv (gT w y k i s r e).1).Hi.M.Neg (iv (gT w y k i s r e).1).Hi.M.Mag (iv (gT w y k i s r e).1).Hi.E:=by
 intro k
 induction k with
 | zero=>
  intro i s r e hi h1 hs hr f hf
  obtain ⟨f,rfl⟩:∃ k,f=k+1:=⟨f-1,wa⟩
  rw [zfq,we wa]
  rfl
 | succ k ih=>
  intro i s r e hi h1 hs hr f hf
  obtain ⟨f,rfl⟩:∃ k,f=k+1:=⟨f-1,wa⟩
  obtain ⟨b1,b2,b3,b4,b5⟩:=zvq i wa h1
  have sI1:=zA (n:=bnN i) ⟨b3,b4⟩ e
  have sI2:=zA (n:=(bnC i:Int)) wa (iS (bnN i) e).2
  have sV:=zqm hw.2 i hr e
  have sA:=ql hw.2 hs sV (gV w i r e).2
  have sM:=qd hw.2 y y (aS w s (gV w i r e).1 (gV w i r e).2).2
  rw [zfq,wc wa,b1]
  simp only [obn]
  rw [b2,zX]
  refine Eq.trans (congrArg (fun o=>Option.bind o _) (Zg (n:=bnN i) ⟨b3,b4⟩ e (w:Int))) ?_
  simp only [obn]
  refine Eq.trans (congrArg (fun o=>Option.bind o _) (Zg (n:=(bnC i:Int)) wa (iS (bnN i) e).2 (w:Int))) ?_
  simp only [obn]
  refine Eq.trans (congrArg (fun o=>Option.bind o _) (zal hw sI2 hr (iS (bnC i:Int) (iS (bnN i) e).2).2)) ?_
  simp only [obn]
  refine Eq.trans (congrArg (fun o=>Option.bind o _) (zb6 hw sI1 (qd hw.2 _ _ _) _)) ?_
  simp only [obn]
  rw [zX]
  refine Eq.trans (congrArg (fun o=>Option.bind o _) (zbu hw hs sV (gV w i r e).2)) ?_
  simp only [obn]
  refine Eq.trans (congrArg (fun o=>Option.bind o _) (zal hw hy hy (aS w s (gV w i r e).1 (gV w i r e).2).2)) ?_
  simp only [obn]
  rw [zX]
  refine Eq.trans (congrArg (fun o=>Option.bind o _) (zal hw hr sM (mS w y y (aS w s (gV w i r e).1 (gV w i r e).2).2).2)) ?_
  simp only [obn]
  rw [w64 wa wa,show (i:Int)+1=((i+1:Nat):Int) by omega]
  exact ih (i+1) _ _ _ wa wa sA (qd hw.2 _ _ _) f wa
theorem zDj {w n:Nat} (hw:2≤w∧w≤400) (hn:n≤300) {d:D} (hd:WD d) (hb:blen d.m.natAbs≤1000) (y:AI × Int) (x0:Int):∀ (k i:Nat) (b:I) (e:Int),i+k=n→SI b→∀ f,k<f→
  zfr ((n:Int),x0) (dy d) (w:Int) y 0 f (i:Int) e (iv b).Lo.M.Neg (iv b).Lo.M.Mag (iv b).Lo.E (iv b).Hi.M.Neg (iv b).Hi.M.Mag (iv b).Hi.E=zn3 (w:Int) y 0 ((n:Int),x0) (gP w d k i b e).2 (iv (gP w d k i b e).1).Lo.M.Neg (iv (gP w d k i b e).1).Lo.M.Mag (iv (gP w d k i b e).1).Lo.E (iv (gP w d k i b e).1).Hi.M.Neg (iv (gP w d k i b e).1).Hi.M.Mag (iv (gP w d k i b e).1).Hi.E:=by
 intro k
 induction k with
 | zero=>
  intro i b e hi hs f hf
  obtain ⟨f,rfl⟩:∃ k,f=k+1:=⟨f-1,wa⟩
  rw [zfr,we (by simp only; omega)]
  rfl
 | succ k ih=>
  intro i b e hi hs f hf
  obtain ⟨f,rfl⟩:∃ k,f=k+1:=⟨f-1,wa⟩
  have sP:=zmm hd hb e
  have sI:=zA (n:=(i:Int)) wa (pS d e).2
  have sA:=ql hw.2 sP sI (iS (i:Int) (pS d e).2).2
  rw [zfr,wc (by simp only; omega)]
  refine Eq.trans (congrArg (fun o=>Option.bind o _) (ziI hd e (w:Int))) ?_
  simp only [obn]
  refine Eq.trans (congrArg (fun o=>Option.bind o _) (Zg (n:=(i:Int)) wa (pS d e).2 (w:Int))) ?_
  simp only [obn]
  refine Eq.trans (congrArg (fun o=>Option.bind o _) (zbu hw sP sI (iS (i:Int) (pS d e).2).2)) ?_
  simp only [obn]
  rw [zX]
  refine Eq.trans (congrArg (fun o=>Option.bind o _) (zal hw hs sA _)) ?_
  simp only [obn]
  rw [w64 wa wa,show (i:Int)+1=((i+1:Nat):Int) by omega]
  exact ih (i+1) _ _ wa (qd hw.2 _ _ _) f wa
theorem zmG {w:Nat} (hw:w≤400) {d:D} : ∀ (k i:Nat) (b:I) (e:Int),SI b→SI (gP w d k i b e).1
 | 0,_,_,_,h=>h
 | k+1,i,_,_,_=>zmG hw k (i+1) _ _ (qd hw _ _ _)
theorem zmH {w:Nat} (hw:w≤400) {y:I} : ∀ (k i:Nat) (s r:I) (e:Int),SI s→SI r→SI (gT w y k i s r e).1
 | 0,_,_,_,_,h,_=>h
 | k+1,i,_,_,_,h,hr=>zmH hw k (i+1) _ _ _ (ql hw h (zqm hw i hr _) _) (qd hw _ _ _)
theorem zDk {w:Nat} (hw:2≤w∧w≤400) {a b c:I} (ha:SI a) (hb:SI b) (hc:SI c) (e:Int):zhM [iv a,iv b,iv c] 0 e (w:Int)=some (iv (aS w (aS w a b e).1 c (aS w a b e).2).1,(aS w (aS w a b e).1 c (aS w a b e).2).2):=by
 obtain ⟨f,hf⟩:=zai
 have s1:=ql hw.2 ha hb e
 unfold zhM
 rw [wc wb,wc wb,hf]
 have w1:i64.wrap (0+1)=1:=by decide +kernel
 have w2:i64.wrap (1+1)=2:=by decide +kernel
 rw [zfp,wc wb,wc wb,w1]
 refine Eq.trans (congrArg (fun o=>Option.bind o _) (zbu hw ha hb e)) ?_
 simp only [obn]
 rw [zfp,wc wb,wc wb,w2,zX]
 refine Eq.trans (congrArg (fun o=>Option.bind o _) (zbu hw s1 hc (aS w a b e).2)) ?_
 simp only [obn]
 rw [zfp,we wb]
 rfl
theorem zmI (k:Int):0≤val ⟨1,k⟩:=by rw [qC]; exact Rat.le_of_lt (zb _)
theorem zqn {w n:Nat} (hw:2≤w∧w≤400) (hn:1≤n∧n≤300) {d:D} (hd:WD d) (hb:blen d.m.natAbs≤1000) (hl:zaB (dy d)=some ((n:Int),0)) (ok:GOK w n d):zdZ (dy d) 0 0 (w:Int)=some (iv (gS5 w n d).1,(gS5 w n d).2):=by
 have sp:=QZ hd hb
 have sn:SI (intI (n:Int)):=ziV wa
 have sY:SI (gY w n d).1:=ql hw.2 sp sn 0
 have s1:=zA (n:=1) wa (gY w n d).2
 have sB:SI (gB w n d).1:=zmG hw.2 n 0 _ _ s1
 have wh:WD ⟨1,-1⟩:=Qz wa
 have sH:SI (pS ⟨1,-1⟩ (gB w n d).2).1:=zmm wh (by decide) _
 have sU:SI (gU w n d).1:=zgA hw.2 sY sH _
 have sL1:SI (gL1 w n d).1:=zdk sY ok.o1
 have sM:SI (gM w n d).1:=qd hw.2 _ _ _
 have sN:SI (gN w n d).1:=ziW sY _
 have sQ:SI (gQ w 0).1:=Zn (ziY hw.2 0) _ _
 have sL2:SI (gL2 w).1:=zdk sQ ok.o2
 have sC:SI (gC w).1:=Zn sL2 _ _
 have sS2:SI (gS2 w n d).1:=ql hw.2 (ql hw.2 sM sN _) sC _
 have sS3:SI (gS3 w n d).1:=zmH hw.2 10 1 _ _ _ sS2 sY
 have h160:=zmI (-160)
 have w160:WD ⟨1,-160⟩:=Qz ⟨by decide,by decide⟩
 have sS4:SI (gS4 w n d).1:=qV (zmd (d:=⟨1,-160⟩) sS3 h160 hw.2) (gS3 w n d).2
 have sL3:SI (gL3 w n d).1:=zdk sB ok.o3
 have gY':aS w ⟨d,d⟩ (intI (n:Int)) 0=gY w n d:=rfl
 unfold zdZ
 rw [hl]
 simp only [obn]
 rw [ziI hd,zd]
 simp only [obn]
 refine Eq.trans (congrArg (fun o=>Option.bind o _) (Zg (n:=(n:Int)) wa 0 (w:Int))) ?_
 simp only [obn]
 refine Eq.trans (congrArg (fun o=>Option.bind o _) (zbu hw sp sn 0)) ?_
 simp only [obn]
 rw [gY']
 refine Eq.trans (congrArg (fun o=>Option.bind o _) (Zg (n:=1) wa (gY w n d).2 (w:Int))) ?_
 simp only [obn]
 refine Eq.trans (zDj hw hn.2 hd hb (iv (gY w n d).1,(gY w n d).2) 0 n 0 (iS 1 (gY w n d).2).1 (iS 1 (gY w n d).2).2 wa s1 fuel (by unfold fuel; omega)) ?_
 have gB':gP w d n 0 (iS 1 (gY w n d).2).1 (iS 1 (gY w n d).2).2=gB w n d:=rfl
 rw [gB']
 unfold zn3
 rw [zgi wa]
 simp only [obn]
 refine Eq.trans (congrArg (fun o=>Option.bind o _) (ziI wh (gB w n d).2 (w:Int))) ?_
 simp only [obn]
 refine Eq.trans (congrArg (fun o=>Option.bind o _) (zpH hw sY sH (pS ⟨1,-1⟩ (gB w n d).2).2)) ?_
 simp only [obn]
 have gU':suS w (gY w n d).1 (pS ⟨1,-1⟩ (gB w n d).2).1 (pS ⟨1,-1⟩ (gB w n d).2).2=gU w n d:=rfl
 rw [gU',ok.eu]
 refine Eq.trans (congrArg (fun o=>Option.bind o _) (zql sY)) ?_
 simp only [obn]
 have gL1':ofR lnR (gY w n d).1 (w:Int)=gL1 w n d:=rfl
 rw [gL1',wc ok.e1]
 refine Eq.trans (congrArg (fun o=>Option.bind o _) (zal hw sU sL1 0)) ?_
 simp only [obn]
 have gM':mS w (gU w n d).1 (gL1 w n d).1 0=gM w n d:=rfl
 rw [gM']
 refine Eq.trans (congrArg (fun o=>Option.bind o _) (zpo sY (gM w n d).2 (w:Int))) ?_
 simp only [obn]
 have gN':nS (gY w n d).1 (gM w n d).2=gN w n d:=rfl
 rw [gN',ok.en]
 refine Eq.trans (congrArg (fun o=>Option.bind o _) (zA5 hw 0)) ?_
 simp only [obn]
 refine Eq.trans (congrArg (fun o=>Option.bind o _) (zet (ziY hw.2 0) (n:=1) wa (piS w 0).2 (w:Int))) ?_
 simp only [obn]
 have gQ':scS (piS w 0).1 1 (piS w 0).2=gQ w 0:=rfl
 rw [gQ',ok.eq]
 refine Eq.trans (congrArg (fun o=>Option.bind o _) (zql sQ)) ?_
 simp only [obn]
 have gL2':ofR lnR (gQ w 0).1 (w:Int)=gL2 w:=rfl
 rw [gL2',wc ok.e2]
 refine Eq.trans (congrArg (fun o=>Option.bind o _) (zet sL2 (n:=-1) wa 0 (w:Int))) ?_
 simp only [obn]
 have gC':scS (gL2 w).1 (-1) 0=gC w:=rfl
 rw [gC']
 refine Eq.trans (congrArg (fun o=>Option.bind o _) (zDk hw sM sN sC (gC w).2)) ?_
 simp only [obn]
 have gS':aS w (aS w (gM w n d).1 (gN w n d).1 (gC w).2).1 (gC w).1 (aS w (gM w n d).1 (gN w n d).1 (gC w).2).2=gS2 w n d:=rfl
 rw [gS']
 refine Eq.trans (zDi hw sY (gY w n d).2 ((n:Int),0) 10 1 (gS2 w n d).1 (gY w n d).1 (gS2 w n d).2 wa wa sS2 sY fuel (by unfold fuel; omega)) ?_
 have gS3':gT w (gY w n d).1 10 1 (gS2 w n d).1 (gY w n d).1 (gS2 w n d).2=gS3 w n d:=rfl
 rw [gS3']
 unfold zn2
 rw [zgi wa]
 simp only [obn]
 rw [zX]
 have kw:=zs4 sS3.ok w160 h160 hw (gS3 w n d).2
 have gS4':st (gS3 w n d).2 zI (ZZ w (gS3 w n d).1 ⟨1,-160⟩)=gS4 w n d:=rfl
 rw [gS4'] at kw
 refine Eq.trans (congrArg (fun o=>Option.bind o _) kw) ?_
 simp only [obn]
 rw [ok.es,wc (show ((n:Int),(0:Int)).1>0 by simp only; omega),zX]
 refine Eq.trans (congrArg (fun o=>Option.bind o _) (zql sB)) ?_
 simp only [obn]
 have gL3':ofR lnR (gB w n d).1 (w:Int)=gL3 w n d:=rfl
 rw [gL3',wc ok.e3]
 have e5:gS5 w n d=suS w (gS4 w n d).1 (gL3 w n d).1 0:=rfl
 rw [e5]
 clear ok
 generalize (gS4 w n d).1=a4 at *
 generalize (gL3 w n d).1=a3 at *
 refine Eq.trans (congrArg (fun o=>Option.bind o _) (zpH hw sS4 sL3 0)) ?_
 rfl
structure GP (d:D) (p:Int):Prop where
 w:WD d
 b:blen d.m.natAbs≤200
 lo:p2 (-64)≤val d
 hi:val d≤64
 p:2≤p∧p≤64
theorem zjh {d:D} {p:Int} (h:GP d p):Qn (dy d) p=some 0:=by
 have hp:=h.p
 have c1:¬zp d zD≤0:=by
  intro k
  have:=(zcQ _ _).1 k
  rw [qT] at this
  have:=h.lo
  have:=zb (-64)
  grind
 have c2:¬zp d (fromD 64)>0:=by
  intro k
  have:=(zlz _ _).1 k
  rw [QD] at this
  have e:((64:Int):Rat)=64:=rfl
  rw [e] at this
  have:=h.hi
  grind
 have c3:¬zp d ⟨1,-64⟩<0:=by
  intro k
  have:=(zgf _ _).1 k
  rw [qC] at this
  have:=h.lo
  grind
 unfold Qn zdH zhl
 rw [we wa,we wa,ZX h.w.1 h.w.sz]
 simp only [obn]
 rw [we wb,zmg h.w.sz]
 simp only [obn]
 rw [decide_eq_false (by have:=h.b; omega),we wb,← qp]
 refine Eq.trans (congrArg (fun o=>Option.bind o _) (Ze h.w qj)) ?_
 simp only [obn]
 rw [we c1,zoW wa]
 simp only [obn]
 refine Eq.trans (congrArg (fun o=>Option.bind o _) (Ze h.w (zb1 (n:=64) wa))) ?_
 simp only [obn]
 rw [we c2,zgi wa]
 simp only [obn]
 refine Eq.trans (congrArg (fun o=>Option.bind o _) (Ze h.w (Qz (k:=-64) wa))) ?_
 simp only [obn]
 rw [decide_eq_false c3,we wb]
def fK (d:D):Nat:=(flD d).toNat
theorem zgT {d:D} {p:Int} (h:GP d p):((fK d:Nat):Rat)≤val d∧val d<((fK d:Nat):Rat)+1∧fK d≤64∧flD d=((fK d:Nat):Int):=by
 have fv:=zC9 d
 have hp:=zb (-64)
 have hlo:=h.lo
 have f0:0≤flD d:=by
  have:((-1:Int):Rat)<(flD d:Rat):=by
   have e:((-1:Int):Rat) = -1:=rfl
   rw [e]; grind
  have:=Rat.intCast_lt_intCast.1 this
  omega
 have hk:flD d=((fK d:Nat):Int):=by unfold fK; omega
 rw [hk] at fv
 have e:(((fK d:Nat):Int):Rat)=((fK d:Nat):Rat):=Rat.intCast_natCast _
 rw [e] at fv
 have h64:fK d≤64:=by
  have:((fK d:Nat):Rat)≤((64:Nat):Rat):=Rat.le_trans fv.1 h.hi
  exact_mod_cast this
 exact ⟨fv.1,fv.2,h64,hk⟩
def gn (d:D):Nat:=256-fK d
theorem zvs {d:D} {p:Int} (h:GP d p):inR d=true:=by
 have o:=zqh d
 have h0:d.m≠0:=by
  intro k
  have:val d=0:=by show (d.m:Rat)*_=0; rw [k]; simp
  have:=h.lo; have:=zb (-64); grind
 have b7:B 6 (val d):=by
  have:=h.hi; have:=h.lo; have:=zb (-64)
  unfold B; rw [show p2 6=64 by decide +kernel]; exact ⟨by grind,by grind⟩
 have e2:=zgq h0 b7
 have lo : -64<d.e+(blen d.m.natAbs:Nat):=by
  have k:=o.2
  have:=h.lo
  have:=zgp.1 (show p2 (-64)≤p2 (d.e+(blen d.m.natAbs:Nat)) by grind)
  rcases Int.lt_or_le (-64) (d.e+(blen d.m.natAbs:Nat)) with q | q
  ·exact q
  ·exfalso
   have e:d.e+(blen d.m.natAbs:Nat) = -64:=wa
   have lt:=Zk d.m.natAbs
   have hm:(d.m:Rat)<((2 ^ blen d.m.natAbs:Nat):Rat):=by
    have:d.m<((2 ^ blen d.m.natAbs:Nat):Int):=wa
    have:=ziy this
    rwa [Rat.intCast_natCast] at this
   have hp:=zb d.e
   have k2:=Rat.mul_lt_mul_of_pos_right hm hp
   have k3:((2 ^ blen d.m.natAbs:Nat):Rat)*p2 d.e=p2 (-64):=by
    rw [← qS,← zy]; congr 1; omega
   rw [k3] at k2
   have:val d=(d.m:Rat)*p2 d.e:=rfl
   grind
 have hb:=h.b
 exact ztf h.w.odd0 (L:=d.e) (H:=d.e+(blen d.m.natAbs:Nat)) ⟨d.m,rfl⟩ o wa wa
theorem zji {d:D} {p:Int} (h:GP d p):zaB (dy d)=some ((gn d:Int),0):=by
 have f0:=zjh (d:=d) (p:=2) ⟨h.w,h.b,h.lo,h.hi,wa⟩
 obtain ⟨k1,k2,k3,k4⟩:=zgT h
 unfold zaB
 rw [f0]
 simp only [obn]
 rw [we wb,zBt h.w]
 simp only [obn]
 have hfl:zbw d=(((fK d:Nat):Int),0):=by unfold zbw; rw [wc (zvs h),k4]
 rw [hfl]
 simp only
 rw [zBw (by rw [Int.natAbs_natCast]; exact zuh (k:=7) wa wa)]
 simp only [obn]
 have hs:zc5 ((fK d:Nat):Int)=(((fK d:Nat):Int),true):=by unfold zc5; rw [wc wa]
 rw [hs]
 simp only
 rw [w64 wa wa]
 have:(256:Int)-(fK d:Nat)=(gn d:Int):=by unfold gn; omega
 rw [this]
theorem zjj {a:I} (ha:SI a) {p:Nat} (hp:2≤p∧p≤400) (e w:Int):zaH (iv a) (p:Int) 0 e w=some (iv (zz p (a,e)).1,(zz p (a,e)).2):=by
 unfold zaH zdO Qp
 simp only [obn]
 rw [we wb]
 simp only [obn]
 by_cases h:e=0
 ·subst h
  rw [we wb,zgt hp]
  simp only [obn]
  have:=zs3 ha.ok hp 0
  refine Eq.trans (congrArg (fun o=>Option.bind o _) this) ?_
  rfl
 ·rw [wc h]
  unfold zz
  rw [zu h,zw]
def gLR (d:D) (w p:Nat):I × Int:=zz p (gS5 w (gn d) d)
theorem zDl (d:D) (w p:Nat):gLR d w p=zz p (gS5 w (gn d) d):=rfl
theorem zDm (p:Nat) (r:I × Int):zz p (r.1,r.2)=zz p r:=rfl
theorem zjk {d:D} {p:Int} (h:GP d p):192≤gn d∧gn d≤256:=by have:=(zgT h).2.2.1; unfold gn; omega
theorem zmJ {w n:Nat} {d:D} (hw:w≤400) (hd:WD d) (hb:blen d.m.natAbs≤1000) (hn:n≤300) (ok:GOK w n d):SI (gS5 w n d).1:=by
 have sp:=QZ hd hb
 have sn:SI (intI (n:Int)):=ziV wa
 have sY:SI (gY w n d).1:=ql hw sp sn 0
 have s1:=zA (n:=1) wa (gY w n d).2
 have sB:SI (gB w n d).1:=zmG hw n 0 _ _ s1
 have sQ:SI (gQ w 0).1:=Zn (ziY hw 0) _ _
 have sL2:SI (gL2 w).1:=zdk sQ ok.o2
 have sC:SI (gC w).1:=Zn sL2 _ _
 have sS2:SI (gS2 w n d).1:=ql hw (ql hw (qd hw _ _ _) (ziW sY _) _) sC _
 have sS3:SI (gS3 w n d).1:=zmH hw 10 1 _ _ _ sS2 sY
 have h160:=zmI (-160)
 have sS4:SI (gS4 w n d).1:=qV (zmd (d:=⟨1,-160⟩) sS3 h160 hw) (gS3 w n d).2
 have sL3:SI (gL3 w n d).1:=zdk sB ok.o3
 have e5:gS5 w n d=suS w (gS4 w n d).1 (gL3 w n d).1 0:=rfl
 rw [e5]
 exact zgA hw sS4 sL3 0
theorem zqo {w:Nat} (hw:2≤w∧w≤400):zbE (w:Int)=some (Sum.inr (0,(w:Int),0)):=by
 unfold zbE
 rw [zgt hw]
 rfl
theorem zDn {d:D} {p:Nat} (h:GP d (p:Int)) (ok:GOK (p+64) (gn d) d):zbe (dy d) (p:Int)=some (iv (gLR d (p+64) p).1,(gLR d (p+64) p).2):=by
 have hp:=h.p
 have hn:=zjk h
 have hw:2≤p+64∧p+64≤400:=wa
 have hb:blen d.m.natAbs≤1000:=by have:=h.b; omega
 have S:=zmJ hw.2 h.w hb wa ok
 have k:=zqn hw wa h.w hb (zji h) ok
 unfold zbe
 rw [zjh h]
 simp only [obn]
 rw [we wb,w64 wa wa,show (p:Int)+64=((p+64:Nat):Int) by omega,zqo hw]
 simp only [obn]
 refine Eq.trans (congrArg (fun o=>Option.bind o _) k) ?_
 simp only [obn]
 unfold gLR
 clear k ok
 generalize gS5 (p+64) (gn d) d=r at *
 have kd:=zjj S (p:=p) wa r.2 ((p+64:Nat):Int)
 refine Eq.trans (congrArg (fun o=>Option.bind o _) kd) ?_
 rfl
def gGR (d:D) (p:Nat):I × Int:=ofR expR (gLR d (p+96) (p+64)).1 ((p+32:Nat):Int)
theorem zvt (d:D) (p:Nat):gGR d p=ofR expR (gLR d (p+96) (p+64)).1 ((p+32:Nat):Int):=rfl
theorem zDo {d:D} {p:Nat} (h:GP d (p:Int)) (ok:GOK (p+96) (gn d) d) (e1:(gS5 (p+96) (gn d) d).2=0) (e2:(gLR d (p+96) (p+64)).2=0) (e3:(gGR d p).2=0) (o3:val (gGR d p).1.lo≤val (gGR d p).1.hi):Zr (dy d) (p:Int)=some (iv (zz p ((gGR d p).1,0)).1,(zz p ((gGR d p).1,0)).2):=by
 have hp:=h.p
 have hn:=zjk h
 have hw:2≤p+96∧p+96≤400:=wa
 have hb:blen d.m.natAbs≤1000:=by have:=h.b; omega
 have S:=zmJ hw.2 h.w hb wa ok
 have k:=zqn hw wa h.w hb (zji h) ok
 have SL:SI (gLR d (p+96) (p+64)).1:=zev S wa
 have SG:SI (gGR d p).1:=zvr zmi zmi o3
 have kd:=zjj S (p:=p+64) wa (gS5 (p+96) (gn d) d).2 ((p+96:Nat):Int)
 rw [zDm,← zDl] at kd
 have ke:=zug SL ((p+32:Nat):Int)
 rw [← zvt] at ke
 rw [e1] at k kd
 rw [e2] at kd
 rw [e3] at ke
 clear ok e1 e2 e3
 generalize gS5 (p+96) (gn d) d=r at *
 generalize gLR d (p+96) (p+64)=l at *
 generalize gGR d p=g at *
 unfold Zr
 rw [zjh h]
 simp only [obn]
 rw [we wb,w64 (x:=(p:Int)+64) wa wa,w64 (x:=(p:Int)+64+32) wa wa,show (p:Int)+64+32=((p+96:Nat):Int) by omega,zqo hw]
 simp only [obn]
 refine Eq.trans (congrArg (fun o=>Option.bind o _) k) ?_
 simp only [obn]
 rw [show (p:Int)+64=((p+64:Nat):Int) by omega]
 refine Eq.trans (congrArg (fun o=>Option.bind o _) kd) ?_
 simp only [obn]
 rw [we wb,w64 wa wa,show (p:Int)+32=((p+32:Nat):Int) by omega]
 refine Eq.trans (congrArg (fun o=>Option.bind o _) ke) ?_
 simp only [obn]
 rw [we wb]
 refine Eq.trans (congrArg (fun o=>Option.bind o _) (zjj SG (p:=p) wa 0 _)) ?_
 rfl
theorem zDp {p:Nat} (hp:1≤p) (next:Nat→I→Int→I × I × Int) (Inv:Nat→I→Prop) (P Su:Nat→R) {L:Int} {Hh:Int} {wp m w0:Rat} {N:Nat} (hS:∀ i,Su (i+1)=Su i+P (i+1)) (hwp:0≤wp)
  (hn:∀ i t,i<N→Inv i t→(next (i+1) t 0).2.2=0∧Inv (i+1) (next (i+1) t 0).1∧HasW ((next (i+1) t 0).2.1,0) (P (i+1)) L Hh wp)
  (hSu:∀ i,ab (Su i)≤ofQ m) (hK:m+(w0+(N:Rat)*(wp+2*p2 (-(p:Int))))≤1) (hL : -60000≤L) (hH:Hh≤0) :
  ∀ (k i:Nat) (s t:I),i+k=N→HasW (s,0) (Su i) L 0 (w0+(i:Rat)*(wp+2*p2 (-(p:Int))))→Inv i t→HasW (qX p next k i s t 0) (Su N) L 0 (w0+(N:Rat)*(wp+2*p2 (-(p:Int)))):=by
 intro k
 induction k with
 | zero=>
  intro i s t hi hs _
  have:i=N:=wa
  subst this
  exact hs
 | succ k ih=>
  intro i s t hi hs ht
  obtain ⟨n1,n2,n3⟩:=hn i t wa ht
  have hpp:=zb (-(p:Int))
  have d1:=zmC i (wp+2*p2 (-(p:Int)))
  have d2:=zp6 (show i+1≤N by omega) (show 0≤wp+2*p2 (-(p:Int)) by grind)
  have h1:=zcd (p:=p) (K:=0) (m:=m) hs (n3.mono (Int.le_refl _) (H':=0) wa Rat.le_refl) (by rw [← hS i]; exact hSu _) (by rw [zN]; grind) hp wa wa
  rw [qX,n1]
  have h2:=ih (i+1) _ _ wa ((h1.mono (Int.le_refl _) (Int.le_refl _) (w':=w0+((i+1:Nat):Rat)*(wp+2*p2 (-(p:Int)))) (by rw [show (0:Int)-(p:Int) = -(p:Int) by omega]; grind)).eq (hS i).symm).pair n2
  rw [h1.h.e]; exact h2
theorem HasF.W {r:I × Int} {x:R} {l H:Int} {p:Nat} (h:HasF r x l p H) {w:Rat} (hw:val r.1.hi-val r.1.lo≤w):HasW r x (l-p) H w:=⟨h.h,hw⟩
theorem zDq {p:Nat} (hp:30≤p∧p≤200) {y:I} {x:R} {l:Int} (hy:HasF (y,0) x l p (-1)) (hw:val y.hi-val y.lo≤17*p2 (-(p:Int))) (hx:ab x≤ofQ (1 / 3)) (hl : -190≤l∧l ≤ -1):HasW (QY p y) (An.H x) (-42000) 0 (1200*p2 (-(p:Int))):=by
 have L3:=zeG
 have hpp:=zb (-(p:Int))
 have eW:=zqj (w:=p+10) wa (n:=10) wa
 rw [show 10-((p+10:Nat):Int) = -(p:Int) by omega] at eW
 have hNr:((p / 2+4:Nat):Rat)≤104:=by exact_mod_cast zY (show p / 2+4≤104 by omega)
 unfold QY
 rw [wc (zeD hy.h.ok)]
 have hq:=zvo hy hy wa wa wa
 have hqw:=zdj (hy.W hw) (hy.W hw) (p:=p) wa wa wa
 have eN:(2*l)*((p / 2+4:Nat):Int) ≥ -380*104:=by
  have:(-(2*l))*((p / 2+4:Nat):Int)≤380*((104:Nat):Int):=Int.mul_le_mul wa wa wa wa
  have e:(-(2*l))*((p / 2+4:Nat):Int) = -((2*l)*((p / 2+4:Nat):Int)):=Int.neg_mul _ _
  omega
 have qw:val (mS p y y 0).1.hi-val (mS p y y 0).1.lo≤18*p2 (-(p:Int)):=by
  have:=hqw.w
  have e1:p2 (-1 + -1-(p:Int))=1 / 4*p2 (-(p:Int)):=by rw [show (-1:Int) + -1-(p:Int) = -2-(p:Int) by omega,Zx,L3.2.1]
  rw [e1,L3.1] at this
  simp only at this
  grind
 have h:=zDp (p:=p) wa (Z2 p (mS p y y 0).1) (fun i t=>HasF (t,0) (od (2*i+1)*x ^ (2*i+1)) (l+(2*l)*i) p (-1)∧val t.hi-val t.lo≤17*p2 (-(p:Int))) (fun i=>ahc (2*i+1)*x ^ (2*i+1)) (fun i=>psum ahc x (2*i+2)) (L:=-42000) (Hh:=-1) (wp:=9*p2 (-(p:Int))) (m:=1 / 2) (w0:=17*p2 (-(p:Int))) (N:=p / 2+4) (fun i=>zuN x i) (by grind) (by
  intro i t hiN ht
  have e1:=zgL (2*l) i
  have m1:(-(2*l))*(i+1:Nat)≤(-(2*l))*(p / 2+4:Nat):=zgM wa (show i+1≤p / 2+4 by omega)
  rw [Int.neg_mul,Int.neg_mul] at m1
  have h1:=zvo ht.1 hq.pair (p:=p) wa wa wa
  have h1w:=zdj (ht.1.W ht.2) (hq.W qw).pair (p:=p) wa wa wa
  have h2:HasF (mS p t (mS p y y 0).1 0) (od (2*(i+1)+1)*x ^ (2*(i+1)+1)) (l+(2*l)*(i+1:Nat)) p (-1):=(h1.mono wa wa).eq (by
   rw [show 2*(i+1)+1=2*i+1+2 by omega,zpX,zB,zB]; grind)
  have h2w:val (mS p t (mS p y y 0).1 0).1.hi-val (mS p t (mS p y y 0).1 0).1.lo≤17*p2 (-(p:Int)):=by
   have:=h1w.w
   have e2:p2 (-1+(-1 + -1)-(p:Int))=1 / 8*p2 (-(p:Int)):=by rw [show (-1:Int)+(-1 + -1)-(p:Int) = -3-(p:Int) by omega,Zx,L3.2.2.1]
   rw [e2,L3.1,show p2 (-1 + -1)=1 / 4 from L3.2.1] at this
   simp only at this
   grind
  have h3:=zjb (p:=p) (h2.W h2w) (n:=2*(i+1)+1) (k:=10) wa wa wa (j:=1) (by rw [show (1:Int)=((1:Nat):Int) from rfl,qS]; exact zY wa) (z:=ahc (2*(i+1)+1)*x ^ (2*(i+1)+1)) (zgJ (od (2*(i+1)+1)) (x ^ (2*(i+1)+1)) (2*(i+1))) wa wa wa
  have z2:(mS p t (mS p y y 0).1 0).2=0:=h2.h.e
  have e4:(iS ((2*(i+1)+1:Nat):Int) 0).2=0:=rfl
  unfold Z2 ziX
  rw [z2]
  simp only
  rw [e4]
  refine ⟨h3.h.e,⟨h2.pair,h2w⟩,(h3.mono wa wa ?_).pair⟩
  rw [show -1-(1:Int)-(p:Int) = -2-(p:Int) by omega,Zx,L3.1,L3.2.1]; grind) (fun k=>by
   have q:=zjd (a:=ahc) (by rw [ahc,show od 0=0 from rfl]; grind) (zas rfl fun n=>(zdf n).1) (zgP (q:=1 / 3) (by decide +kernel) (by decide +kernel)) hx (2*k+1)
   rw [← zk] at q
   exact zj q (zc.2 (by decide +kernel))) (by
   generalize ((p / 2+4:Nat):Rat)=N at *
   have:=Rat.mul_le_mul_of_nonneg_right hNr (show 0≤9*p2 (-(p:Int))+2*p2 (-(p:Int)) by grind)
   grind) wa wa (p / 2+4) 0 y y wa
  (((hy.W hw).mono wa wa (by have:((0:Nat):Rat)=0:=rfl; rw [this]; grind)).eq (by
   show x=0+ahc 0*x ^ 0+ahc 1*x ^ (0+1)
   have h1:=zgJ (od 1) x 0
   rw [show ((0+1:Nat):R)=1 from rfl] at h1
   rw [zB,zZ,ahc,ahc,show od 0=0 from rfl,show od 1=1 from rfl,show ((1:Nat):R)=1 from rfl]
   rw [show od 1=1 from rfl] at h1
   grind))
  ⟨((hy.mono wa wa).eq (by
   show x=od 1*x ^ (0+1)
   rw [zB,zZ,show od 1=1 from rfl]; grind)),hw⟩
 rw [hq.h.e]
 unfold qH
 rw [h.h.e]
 have hf1:=zmv (show p+1≤2*(p / 2+4)+2 by omega)
 have hf2:=zmx p
 have hxh:=zp4 (zeD hy.h.ok) hy.h.m
 have h5:=zjc (p:=p) (K:=0) (m:=1 / 2) h (d:=⟨1,-(p:Int)⟩) (zcc wa wa wa) (y:=An.H x) (by
  rw [qC,zja]
  exact zj (zpZ (zas rfl fun n=>(zdf n).1) hxh _) (by grind)) (by
   have q:=zjd (a:=ahc) (by rw [ahc,show od 0=0 from rfl]; grind) (zas rfl fun n=>(zdf n).1) (zgP (q:=1 / 3) (by decide +kernel) (by decide +kernel)) hx (2*(p / 2+4)+1)
   rw [← zk] at q
   exact zj q (zc.2 (by decide +kernel))) (by
   rw [qC,zN]
   generalize ((p / 2+4:Nat):Rat)=N at *
   have:=Rat.mul_le_mul_of_nonneg_right hNr (show 0≤9*p2 (-(p:Int))+2*p2 (-(p:Int)) by grind)
   grind) wa wa wa
 refine h5.mono (Int.le_refl _) (Int.le_refl _) ?_
 rw [qC,show (0:Int)-(p:Int) = -(p:Int) by omega]
 generalize ((p / 2+4:Nat):Rat)=N at *
 have:=Rat.mul_le_mul_of_nonneg_right hNr (show 0≤9*p2 (-(p:Int))+2*p2 (-(p:Int)) by grind)
 grind
theorem zvu {m:I} {r:Rat} {L:Int} (hm:HasW (m,0) (ofQ r) L 1 0) (h1:3 / 4≤r) (h2:r≤3 / 2) (hL : -180≤L∧L≤0) {k:Int} (hk:k.natAbs≤2 ^ 14) {w:Nat} (hw:30≤w∧w≤200):HasW (lnT w m k 0) (Ln (ofQ r)+(k:R)*Ln 2) (-46000) 16 (p2 (25-(w:Int))):=by
 have i1:HasW (intI 1,0) ((1:Int):R) 0 0 0:=zmz (n:=1) (K:=0) wa (by decide)
 have e1:((1:Int):R)=ofQ 1:=rfl
 rw [e1] at i1
 have p2':p2 2=4:=by decide +kernel
 have ab1:ab (ofQ r-ofQ 1)≤ofQ (1 / 2):=by
  have a1:=zc.2 (show (3 / 4:Rat)≤r from h1)
  have a2:=zc.2 h2
  have a3:ofQ (3 / 2)=ofQ 1+ofQ (1 / 2):=by rw [← zP,show (1:Rat)+1 / 2=3 / 2 by decide +kernel]
  have a4:ofQ (3 / 4)+ofQ (1 / 4)=ofQ 1:=by rw [← zP,show (3 / 4:Rat)+1 / 4=1 by decide +kernel]
  have a5:=zc.2 (show (1 / 4:Rat)≤1 / 2 by decide +kernel)
  exact ab_le.2 ⟨by grind,by grind⟩
 have ab2:ab (ofQ r+ofQ 1)≤ofQ 3:=by
  have a2:=zc.2 (show r+1≤3 by grind)
  have a1:=zc.2 (show -3≤r+1 by grind)
  rw [zP] at a1 a2
  rw [Qj] at a1
  exact ab_le.2 ⟨a1,a2⟩
 have k2:=zqj (w:=w+10) wa (n:=12) wa
 rw [show 12-((w+10:Nat):Int)=2-(w:Int) by omega] at k2
 have hs:=zmB (p:=w) (m:=1 / 2) (K:=2) (hm.mono (L':=L) (H':=1) wa wa Rat.le_refl) (i1.mono (L':=L) (H':=1) wa wa Rat.le_refl) ab1 (by rw [p2']; grind) wa wa wa
 have ht:=zcd (p:=w) (m:=3) (K:=2) (hm.mono (L':=L) (H':=1) wa wa Rat.le_refl) (i1.mono (L':=L) (H':=1) wa wa Rat.le_refl) ab2 (by rw [p2']; grind) wa wa wa
 unfold lnT
 simp only
 rw [show iS 1 0=(intI 1,0) from rfl]
 simp only
 have es:(suS w m (intI 1) 0).2=0:=hs.h.e
 have et:(aS w m (intI 1) 0).2=0:=ht.h.e
 rw [es,show iS 1 0=(intI 1,0) from rfl]
 simp only
 rw [et]
 generalize suS w m (intI 1) 0=s at *
 generalize aS w m (intI 1) 0=t at *
 have s1:=hs.h.m.lo; have s2:=hs.h.m.hi; have s3:=hs.w
 have t1:=ht.h.m.lo; have t2:=ht.h.m.hi; have t3:=ht.w
 have hs':HasW s (ofQ r-ofQ 1) L 2 (0+0+2*p2 (2-(w:Int))):=hs
 have ht':HasW t (ofQ r+ofQ 1) L 2 (0+0+2*p2 (2-(w:Int))):=ht
 rw [← ZL] at s1 s2
 rw [← zP] at t1 t2
 have s1:=zc.1 s1; have s2:=zc.1 s2
 have t1:=zc.1 t1; have t2:=zc.1 t2
 have s3:val s.1.hi-val s.1.lo≤0+0+2*p2 (2-(w:Int)):=hs'.w
 have t3:val t.1.hi-val t.1.lo≤0+0+2*p2 (2-(w:Int)):=ht'.w
 have s4 : -(3 / 4)≤val s.1.lo∧val s.1.lo≤3 / 4:=⟨by grind,by grind⟩
 have s5 : -(3 / 4)≤val s.1.hi∧val s.1.hi≤3 / 4:=⟨by grind,by grind⟩
 have t4:3 / 2≤val t.1.lo:=by grind
 have t5:3 / 2≤val t.1.hi:=by grind
 have hnz:hasI t.1 zD=false:=by
  cases hq:hasI t.1 zD with
  | false=>rfl
  | true=>
   have:=((zbq _ _).1 hq).1
   rw [qT] at this
   grind
 have hpos:(0:R)<ofQ r+ofQ 1:=by rw [← zP]; exact Zi.2 (show (0:Rat)<r+1 by grind)
 have hinv:=qQ (x:=ofQ r+ofQ 1) (by grind)
 have hz:(ofQ r-ofQ 1)*(ofQ r+ofQ 1)⁻¹*(ofQ r+ofQ 1)=ofQ r-ofQ 1:=by grind
 obtain ⟨c,u,v,e,o,en,q⟩:=zp5 (p:=w) hs'.h.ok ht'.h.ok hnz wa wa wa
 have hd:=zp1 hs'.h ht'.h hnz hz (p:=w) wa wa wa
 have e':dS w s.1 t.1 0=(c,0):=by unfold dS; rw [zd]; exact e
 rw [e'] at hd ⊢
 simp only
 have bu:B (-1) u:=by rcases q.mu with k | k | k | k<;>rw [k]<;>exact zvi (by assumption) (by assumption)
 have bv:B (-1) v:=by rcases q.mv with k | k | k | k<;>rw [k]<;>exact zvi (by assumption) (by assumption)
 have b:=zgO en bu bv o.le
 have dlt:v-u≤(0+0+2*p2 (2-(w:Int)))+(0+0+2*p2 (2-(w:Int))):=by
  have sle:val s.1.lo≤val s.1.hi:=hs'.h.ok.le
  have tle:val t.1.lo≤val t.1.hi:=ht'.h.ok.le
  exact zDf q.mu q.mv sle tle t4 s3 t3 (zDe bu)
 have t6:val t.1.lo≤4:=by grind
 have t7:val t.1.hi≤4:=by grind
 have fs1:=zvp hs'.h.ok.lo.g
 have fs2:=zvp hs'.h.ok.hi.g
 have fu:Far (L-2) u:=by
  rcases q.mu with k | k | k | k<;>rw [k]
  ·exact fs1.div (by grind) t6
  ·exact fs1.div (by grind) t7
  ·exact fs2.div (by grind) t6
  ·exact fs2.div (by grind) t7
 have fv:Far (L-2) v:=by
  rcases q.mv with k | k | k | k<;>rw [k]
  ·exact fs1.div (by grind) t6
  ·exact fs1.div (by grind) t7
  ·exact fs2.div (by grind) t6
  ·exact fs2.div (by grind) t7
 have wd:=zeE en bu bv
 have q8:p2 (2-(w:Int))=4*p2 (-(w:Int)):=by rw [show 2-(w:Int)=2 + -(w:Int) by omega,zy]; rfl
 have qh:p2 (-1-(w:Int))=p2 (-(w:Int)) / 2:=zCE
 rw [q8] at dlt
 rw [qh] at wd
 have oc:OkI c (L-2-w-2) (-1):=⟨⟨o.lo.w,o.lo.g,b.1⟩,⟨o.hi.w,o.hi.g,b.2⟩,o.le⟩
 have L3:=zeG
 have hpos':=zb (-(w:Int))
 have eW:=zqj (w:=w+10) wa (n:=10) wa
 rw [show 10-((w+10:Nat):Int) = -(w:Int) by omega] at eW
 generalize hed:p2 (-(w:Int))=ep at *
 obtain ⟨z1,z2⟩:=zDg h1 h2
 have zq:(ofQ r-ofQ 1)*(ofQ r+ofQ 1)⁻¹=ofQ ((r-1) / (r+1)):=by
  have e3:ofQ ((r-1) / (r+1))*(ofQ r+ofQ 1)=ofQ r-ofQ 1:=by
   rw [← zP,← zk,← ZL,ZJ (show r+1≠0 by grind)]
  rw [← e3]
  grind
 have abz:ab ((ofQ r-ofQ 1)*(ofQ r+ofQ 1)⁻¹)≤ofQ (1 / 3):=by
  rw [zq]
  have a1:=zc.2 z1
  have a2:=zc.2 z2
  rw [Qj] at a1
  exact ab_le.2 ⟨a1,a2⟩
 have hzw:HasW (c,0) ((ofQ r-ofQ 1)*(ofQ r+ofQ 1)⁻¹) (L-2-w-2) (-1) (17*ep):=⟨⟨rfl,oc,hd.m⟩,by show val c.hi-val c.lo≤17*ep; grind⟩
 have hzF:HasF (c,0) ((ofQ r-ofQ 1)*(ofQ r+ofQ 1)⁻¹) (L-2) w (-1):=zvn en oc hd.m fu fv
 have hNr:((w / 2+4:Nat):Rat)≤104:=by exact_mod_cast zY (show w / 2+4≤104 by omega)
 have ha:=zDq (p:=w) wa hzF (by rw [hed]; exact hzw.w) abz wa
 rw [hed] at ha
 have hA:HasW (ahS w c 0) (An.H ((ofQ r-ofQ 1)*(ofQ r+ofQ 1)⁻¹)) (-42000) 0 (1200*ep):=by
  unfold ahS; rw [zd]
  exact ha
 have hg:=zce (n:=1) hA wa wa
 rw [hA.h.e,hg.h.e]
 have hi:HasW (intI k,0) (k:R) 0 (14:Nat) 0:=zmz (K:=14) wa hk
 rw [show iS k 0=(intI k,0) from rfl]
 simp only
 have hl:=zC0 (p:=w) wa
 rw [hed] at hl
 rw [hl.h.e]
 have hl':=hl.mono (Int.le_refl _) (Int.le_refl _) (w':=690*ep) (by
  generalize ((w / 2+4:Nat):Rat)=N at *
  have:=Rat.mul_le_mul_of_nonneg_right hNr (show 0≤ep by grind)
  grind)
 have hkl:=zdj hi hl' (p:=w) wa wa wa
 rw [hkl.h.e]
 have p14:p2 ((14:Nat):Int)=16384:=by decide +kernel
 have q15:p2 (((14:Nat):Int)+1-(w:Int))=32768*ep:=by rw [Zx,hed]; congr 1
 rw [p14,q15] at hkl
 have q1:p2 1=2:=rfl
 rw [q1] at hg hkl
 have q16:p2 (16-(w:Int))=65536*ep:=by rw [Zx,hed]; congr 1
 have q24:p2 (25-(w:Int))=33554432*ep:=by rw [Zx,hed]; congr 1
 have p16:p2 16=65536:=by decide +kernel
 have p15:p2 (((14:Nat):Int)+1)=32768:=by decide +kernel
 have x1:=hg.h.m.lo; have x2:=hg.h.m.hi
 have y1:=hkl.h.m.lo; have y2:=hkl.h.m.hi
 have u1:=hg.h.ok.lo.b.1; have u2:=hg.h.ok.hi.b.2
 have u3:=hkl.h.ok.lo.b.1; have u4:=hkl.h.ok.hi.b.2
 rw [show (0:Int)+1=1 by rfl,q1] at u1 u2
 rw [p15] at u3 u4
 have hb:ab (An.H ((ofQ r-ofQ 1)*(ofQ r+ofQ 1)⁻¹)*ofQ 2+(k:R)*Ln 2)≤ofQ 32770:=by
  have e1:=zj (zc.2 u1) x1
  have e2:=zj x2 (zc.2 u2)
  have e3:=zj (zc.2 u3) y1
  have e4:=zj y2 (zc.2 u4)
  have e5:ofQ 32770=ofQ 2+ofQ 32768:=by rw [← zP,show (2:Rat)+32768=32770 by decide +kernel]
  rw [Qj] at e1 e3
  rw [e5]
  generalize An.H ((ofQ r-ofQ 1)*(ofQ r+ofQ 1)⁻¹)*ofQ 2=X at *
  generalize (k:R)*Ln 2=Y at *
  exact ab_le.2 ⟨by grind,by grind⟩
 have hsum:=zcd (p:=w) (K:=16) (m:=32770) (hg.mono (L':=-46000) (H':=16) wa wa Rat.le_refl) (hkl.mono (L':=-46000) (H':=16) wa wa Rat.le_refl) hb (by rw [p16]; grind) wa wa wa
 rw [q16] at hsum
 refine (hsum.mono (Int.le_refl _) (Int.le_refl _) (by rw [q24]; grind)).eq ?_
 have t2:=zDb (An.H ((ofQ r-ofQ 1)*(ofQ r+ofQ 1)⁻¹))
 rw [q1] at t2
 rw [t2,Ln]
 rfl
theorem zqp:0≤Ln 2∧Ln 2≤ofQ (7 / 10):=by
 rw [zp8]
 have h:=zu6
 exact ⟨zj (zc.2 (by decide +kernel)) h.1,zj h.2 (zc.2 (by decide +kernel))⟩
theorem zDr {d:D} (h0:0<d.m) (hk : -2600≤lnK d∧lnK d≤2600):ab (Ln (ofQ (val d)))≤ofQ 1822:=by
 obtain ⟨k1,k2⟩:=zjg h0
 have hp:=zb (lnK d)
 have m1:=zat (zgR (lnK d)) (zc.2 k1)
 have m2:=zat (Zi.2 (show (0:Rat)<val d by grind)) (zc.2 (Rat.le_of_lt k2))
 rw [zjf] at m1 m2
 have l:=zqp
 have e:ofQ 1822=ofQ 2602*ofQ (7 / 10)+ofQ (3 / 5):=by rw [← zk,← zP]; congr 1; decide +kernel
 have h35:0≤ofQ (3 / 5):=zc.2 (by decide +kernel)
 have c1:((lnK d+1:Int):R)≤ofQ 2602:=by
  rw [show ((lnK d+1:Int):R)=ofQ ((lnK d+1:Int):Rat) from rfl]
  exact zc.2 (by have:=Zl (show lnK d+1≤2602 by omega); exact this)
 have c2 : -ofQ 2602≤((lnK d:Int):R):=by
  rw [show ((lnK d:Int):R)=ofQ ((lnK d:Int):Rat) from rfl,← Qj]
  exact zc.2 (by have:=Zl (show -2602≤lnK d by omega); exact this)
 have q1:=zF c1 l.1
 have q2:=zF c2 l.1
 have q3:=qP l.2 (show 0≤ofQ 2602 from zc.2 (by decide +kernel))
 rw [e]
 generalize ofQ 2602*ofQ (7 / 10)=z at *
 refine ab_le.2 ⟨by grind,by grind⟩
theorem zvv {r:I × Int} {v:R} {L:Int} {p:Nat} (hp:2≤p) (h:HasW r v L 16 (p2 (25-((p+32:Nat):Int)))) (hv:ab v≤ofQ 1822) (hL : -60000≤L:=by omega):HasW (zz p r) v L 11 (p2 (13-(p:Int))):=by
 have e7:p2 (25-((p+32:Nat):Int))=p2 (-7-(p:Int)):=by congr 1; omega
 rw [e7] at h
 have s7:p2 (-7-(p:Int))≤p2 (-7):=qe wa
 rw [show p2 (-7)=1 / 128 by decide +kernel] at s7
 have p11:p2 11=2048:=by decide +kernel
 have ee:=h.ends hv
 have e:=h.h.e
 obtain ⟨c,ec,o,en⟩:=ziO h.h.ok (p:=p) wa hL wa
 have hh:=zp0 h.h (p:=p) wa hL wa
 have ed:zz p r=(c,0):=by unfold zz; rw [e,zd,ec]
 rw [ec] at hh
 have b1:B 11 (val r.1.lo):=⟨by rw [p11]; grind,by rw [p11]; grind⟩
 have b2:B 11 (val r.1.hi):=⟨by rw [p11]; grind,by rw [p11]; grind⟩
 have bb:=zgO en b1 b2 o.le
 have wd:=zeE en b1 b2
 have hw:=h.w
 have q:=qe (show -7-(p:Int)≤11-(p:Int) by omega)
 have q13:p2 (13-(p:Int))=4*p2 (11-(p:Int)):=by rw [show 13-(p:Int)=2+(11-(p:Int)) by omega,zy]; rfl
 have:=zb (11-(p:Int))
 rw [ed]
 exact ⟨⟨rfl,⟨⟨o.lo.w,o.lo.g,bb.1⟩,⟨o.hi.w,o.hi.g,bb.2⟩,o.le⟩,hh.m⟩,by show val c.hi-val c.lo≤_; grind⟩
theorem zvw {d:D} (hd:WD d) (h0:0<d.m) (hb:blen d.m.natAbs≤170) (hk : -2600≤lnK d∧lnK d≤2600) {p:Nat} (hp:2≤p∧p≤168):HasW (lnR d p) (Ln (ofQ (val d))) (-46000) 11 (p2 (13-(p:Int))):=by
 have hLn:=zDr h0 hk
 have hw:30≤p+32∧p+32≤200:=wa
 obtain ⟨v1,v2,v3⟩:=zvk h0
 have od:Okd d d.e (d.e+(blen d.m.natAbs:Nat)):=⟨hd,⟨d.m,rfl⟩,zqh d⟩
 have hn:(blen d.m.natAbs:Int)≤170:=wa
 have hK:lnK d=d.e+(blen d.m.natAbs:Nat)-1:=rfl
 have hp2:(2:Nat) ^ 14=16384:=by decide
 obtain ⟨c,e,o,e1,e2⟩:=zes (a:=⟨d,d⟩) (n:=-lnK d) ⟨od,od,Rat.le_refl⟩ wa wa
 have e1:val c.lo=val d*p2 (-lnK d):=e1
 have e2:val c.hi=val d*p2 (-lnK d):=e2
 have hc:HasW (c,0) (ofQ (val d*p2 (-lnK d))) (-169) 1 0:=⟨⟨rfl,o.mono wa wa,⟨by rw [e1]; exact zK _,by rw [e2]; exact zK _⟩⟩,by show val c.hi-val c.lo≤0; rw [e1,e2]; grind⟩
 have hr:srS ⟨d,d⟩ (-lnK d) 0=(c,0):=by unfold srS; rw [zd,zpE wa,e]
 have hf:fitB d (p:Int)=true:=zmF wa wa
 have back:∀ k:Int,∀ r:Rat,0<r→r*p2 k=val d→Ln (ofQ r)+(k:R)*Ln 2=Ln (ofQ (val d)):=by
  intro k r hr0 he
  rw [← he,zk,zmt (Zi.2 hr0) (zgR k),zjf]
 have v0:val d*p2 (-lnK d)*p2 (lnK d)=val d:=by
  have:=zpg (-lnK d) (val d)
  rwa [Int.neg_neg] at this
 unfold lnR lnS
 rw [hf,wc rfl,Int.toNat_natCast,we wa,hr]
 simp only
 generalize hv:val d*p2 (-lnK d)=v at *
 by_cases h3:3 / 2≤v
 ·rw [wc ⟨True.intro,by
   have:¬zp c.lo ⟨3,-1⟩<0:=by
    rw [zgf,e1]
    have:val ⟨3,-1⟩=3 / 2:=by show ((3:Int):Rat)*p2 (-1)=3 / 2; decide +kernel
    rw [this]; grind
   omega⟩]
  have hs:=zce (n:=-1) hc wa wa
  rw [show p2 (-1)=1 / 2 by decide +kernel] at hs
  have hs':=(hs.eq (y:=ofQ (v*(1 / 2))) (by rw [zk])).mono (L':=-170) (H':=1) (w':=0) wa wa (by grind)
  rw [show (scS c (-1) 0).2=0 from hs.h.e]
  have ht:=zvu hs'.pair (by grind) (by grind) wa (k:=lnK d+1) wa hw
  exact zvv (p:=p) wa (ht.eq (back (lnK d+1) _ (by grind) (by rw [zy,show p2 1=2 from rfl]; grind))) hLn
 ·rw [we (by
   intro hcc
   have:zp c.lo ⟨3,-1⟩<0:=by
    rw [zgf,e1]
    have:val ⟨3,-1⟩=3 / 2:=by show ((3:Int):Rat)*p2 (-1)=3 / 2; decide +kernel
    rw [this]; grind
   omega)]
  have ht:=zvu (hc.mono (L':=-170) (H':=1) wa wa Rat.le_refl) (by grind) (by grind) wa (k:=lnK d) wa hw
  exact zvv (p:=p) wa (ht.eq (back (lnK d) _ (by grind) v0)) hLn
theorem zDs {ρ:R} (h:0≤ρ):Ln (1+ρ)≤ρ:=by
 have h0:=qg
 refine zgG.1 ?_
 rw [Z6 (show 0<1+ρ by grind)]
 exact zgF ρ
theorem zDt {A K:I × Int} {a b ρ δ:Rat} {z:R} {L H:Int} (l1:HasW A (Ln (ofQ a)) L H δ) (l2:HasW K (Ln (ofQ b)) L H δ) (ha:0<a) (hb:0<b) (q1:Ln (ofQ a)≤z) (q2:z≤Ln (ofQ b)) (hρ:b≤a*(1+ρ)) (hρ0:0≤ρ):HasW (⟨A.1.lo,K.1.hi⟩,0) z L H (ρ+2*δ):=by
 refine ⟨zvm l1.h l2.h q1 q2,?_⟩
 show val K.1.hi-val A.1.lo≤_
 have v1:(0:R)<ofQ a:=Zi.2 ha
 have r0:0≤ofQ ρ:=zc.2 hρ0
 have h0:=qg
 have g1:=zat (Zi.2 hb) (zc.2 hρ)
 rw [zk,zP,zap,zmt v1 (show (0:R)<1+ofQ ρ by grind)] at g1
 have g2:=zDs r0
 have w1:=l1.w
 have w2:=l2.w
 have a1:=l1.h.m.hi
 have a2:=l2.h.m.lo
 have k1:=zc.2 w1
 have k2:=zc.2 w2
 rw [ZL] at k1 k2
 refine zc.1 ?_
 rw [ZL,zP,zk,show ofQ 2=(2:R) from rfl]
 generalize Ln (ofQ a)=A' at *
 generalize Ln (ofQ b)=C' at *
 generalize Ln (1+ofQ ρ)=F at *
 grind
theorem zvx {f:D→Int→I × Int} {c:I} {p:Int} {A K:I × Int} (hA:f c.lo p=A) (hK:f c.hi p=K) (f1:fitB c.lo p=true) (f2:fitB c.hi p=true) (z1:A.2=0) (z2:K.2=0):ofR f c p=(⟨A.1.lo,K.1.hi⟩,0):=by
 subst hA; subst hK
 exact zDd f1 f2 z1 z2
theorem zvy {d:D} (hd:Okd d (-27) 6) {i:Nat} (hi:i≤256) {w:Nat} (hw:40≤w):∃ c,aS w ⟨d,d⟩ (intI (i:Int)) 0=(c,0)∧OkI c (-27) 9∧val c.lo=val d+(i:Rat)∧val c.hi=val d+(i:Rat):=by
 have o1:OkI ⟨d,d⟩ (-27) 8:=⟨hd.mono (Int.le_refl _) wa,hd.mono (Int.le_refl _) wa,Rat.le_refl⟩
 have oi:Okd (fromD (i:Int)) 0 8:=zi8 (K:=8) wa (by simp; omega)
 have o2:OkI (intI (i:Int)) (-27) 8:=⟨oi.mono wa wa,oi.mono wa wa,Rat.le_refl⟩
 obtain ⟨c,e,o,en⟩:=zbs o1 o2 (p:=w) wa wa wa
 have vi:val (intI (i:Int)).lo=(i:Rat):=by rw [show (intI (i:Int)).lo=fromD (i:Int) from rfl,QD]; exact Rat.intCast_natCast i
 have vi2:val (intI (i:Int)).hi=(i:Rat):=vi
 rw [vi,vi2] at en
 have en':Enc w c (val d+(i:Rat)) (val d+(i:Rat)):=en
 have hr:rep w (val d+(i:Rat)):=by
  obtain ⟨z,hz⟩:=hd.g
  have hb:=hd.b
  unfold B at hb
  have e1:p2 27*p2 (-27)=1:=by rw [← zy]; exact zN
  have e27:p2 27=134217728:=by decide +kernel
  have e6:p2 6=64:=by decide +kernel
  have h27:=zb 27
  have zv:(z:Rat)=val d*p2 27:=by rw [hz]; grind
  have z1:=Rat.mul_le_mul_of_nonneg_right hb.2 (Rat.le_of_lt h27)
  have z2:=Rat.mul_le_mul_of_nonneg_right hb.1 (Rat.le_of_lt h27)
  rw [← zv,e6,e27] at z1 z2
  have z3:z≤8589934592:=by
   have e:((8589934592:Int):Rat)=64*134217728:=by decide +kernel
   exact Rat.intCast_le_intCast.1 (by rw [e]; exact z1)
  have z4 : -8589934592≤z:=by
   have e:((-8589934592:Int):Rat) = -64*134217728:=by decide +kernel
   exact Rat.intCast_le_intCast.1 (by rw [e]; exact z2)
  have h40:2 ^ 40≤2 ^ w:=Nat.pow_le_pow_right (by decide) hw
  have h40':(2:Nat) ^ 40=1099511627776:=by decide
  refine ⟨z+(i:Int)*134217728,-27,?_,wa⟩
  rw [hz]
  push_cast
  rw [← e27]
  have:(i:Rat)*p2 27*p2 (-27)=(i:Rat)*(p2 27*p2 (-27)):=by grind
  grind
 have l1:=en'.blo _ hr Rat.le_refl
 have l2:=en'.bhi _ hr Rat.le_refl
 have l3:=en'.lo
 have l4:=en'.hi
 exact ⟨c,by unfold aS; rw [zd,e],o,by grind,by grind⟩
theorem zvz {p:Nat} {c:I} {u v:Rat} (en:Enc p c u v) {s:Int} (h1:p2 s≤u) (h2:u≤p2 (s+2)):u*(1-p2 (2-(p:Int)))≤val c.lo:=by
 have hs:=zb s
 obtain ⟨q,r,q1,q2⟩:=zmy (p:=p) (s:=s+2) (u:=u) ⟨by have:=zb (s+2); grind,h2⟩
 have b:=en.blo q r q1
 have e:p2 (s+2-(p:Int))=p2 s*p2 (2-(p:Int)):=by rw [show s+2-(p:Int)=s+(2-(p:Int)) by omega,zy]
 have:=Rat.mul_le_mul_of_nonneg_right h1 (Rat.le_of_lt (zb (2-(p:Int))))
 grind
theorem zvA {p:Nat} {c:I} {u v:Rat} (en:Enc p c u v) {s:Int} (h1:p2 s≤v) (h2:v≤p2 (s+2)):val c.hi≤v*(1+p2 (2-(p:Int))):=by
 have hs:=zb s
 obtain ⟨q,r,q1,q2⟩:=zmy (p:=p) (s:=s+2) (u:=-v) ⟨by grind,by have:=zb (s+2); grind⟩
 have b:=en.bhi (-q) (zb5 r) (by grind)
 have e:p2 (s+2-(p:Int))=p2 s*p2 (2-(p:Int)):=by rw [show s+2-(p:Int)=s+(2-(p:Int)) by omega,zy]
 have:=Rat.mul_le_mul_of_nonneg_right h1 (Rat.le_of_lt (zb (2-(p:Int))))
 grind
structure Rel (c:I) (α:Rat):Prop where
 pos:0<val c.lo
 le:val c.lo≤val c.hi
 rel:val c.hi≤val c.lo*(1+α)
theorem zmK {a b:D} (ha:0<val a) (hb:0<val b):∃ s:Int,p2 s≤val a*val b∧val a*val b≤p2 (s+2):=by
 obtain ⟨a1,a2⟩:=zjg (zbz ha)
 obtain ⟨b1,b2⟩:=zjg (zbz hb)
 have p1:=zb (lnK a)
 have p3:=zb (lnK b)
 refine ⟨lnK a+lnK b,?_,?_⟩
 ·rw [zy]
  have m1:=Rat.mul_le_mul_of_nonneg_right a1 (Rat.le_of_lt p3)
  have m2:=Rat.mul_le_mul_of_nonneg_left b1 (Rat.le_of_lt ha)
  grind
 ·rw [show lnK a+lnK b+2=(lnK a+1)+(lnK b+1) by omega,zy]
  have m1:=Rat.mul_le_mul_of_nonneg_right (Rat.le_of_lt a2) (Rat.le_of_lt (zb (lnK b+1)))
  have m2:=Rat.mul_le_mul_of_nonneg_left (Rat.le_of_lt b2) (Rat.le_of_lt ha)
  grind
theorem zDu {L M α β ε:Rat} (hL:0≤L) (h:L*(1-ε)≤M) (hα:0≤α) (hβ:0≤β) (hα2:α≤1 / 4) (hβ2:β≤1 / 4) (hε:0≤ε) (hε2:ε≤1 / 64):L*((1+α)*(1+β))*(1+ε)≤M*(1+(2*(α+β)+8*ε)):=by
 have a1:=Rat.mul_nonneg hα hβ
 have a2:α*β≤α*(1 / 4):=Rat.mul_le_mul_of_nonneg_left hβ2 hα
 have key:(1+α)*(1+β)*(1+ε)≤(1-ε)*(1+(2*(α+β)+8*ε)):=by
  have b1:ε*(α+β)≤(1 / 64)*(α+β):=Rat.mul_le_mul_of_nonneg_right hε2 (by grind)
  have b2:ε*ε≤(1 / 64)*ε:=Rat.mul_le_mul_of_nonneg_right hε2 hε
  have b3:ε*(α*β)≤(1 / 64)*(α*β):=Rat.mul_le_mul_of_nonneg_right hε2 a1
  grind
 have k1:=Rat.mul_le_mul_of_nonneg_left key hL
 have k2:=Rat.mul_le_mul_of_nonneg_right h (show 0≤1+(2*(α+β)+8*ε) by grind)
 grind
theorem zvB {a b:I} {x y:R} {L H M K:Int} {α β:Rat} (ha:Has (a,0) x L H) (hb:Has (b,0) y M K) (ra:Rel a α) (rb:Rel b β) (hα:0≤α) (hβ:0≤β) (hα2:α≤1 / 4) (hβ2:β≤1 / 4) {p:Nat} (hp:10≤p) (hL : -60000≤L+M) (hH:H+K≤60000) :
  ∃ c,mS p a b 0=(c,0)∧Has (c,0) (x*y) (L+M) (H+K)∧Rel c (2*(α+β)+8*p2 (2-(p:Int)))∧Enc p c (val a.lo*val b.lo) (val a.hi*val b.hi):=by
 obtain ⟨c,u,v,e,o,en,pr⟩:=zak ha.ok hb.ok (p:=p) wa hL hH
 have hm:=zi9 ha hb (p:=p) wa hL hH
 have e':mS p a b 0=(c,0):=by unfold mS; rw [zd]; exact e
 have e'':mS p (a,(0:Int)).1 (b,(0:Int)).1 0=(c,0):=e'
 rw [e''] at hm
 have a0:=ra.pos; have a1:=ra.le; have b0:=rb.pos; have b1:=rb.le
 have ah:0<val a.hi:=by grind
 have bh:0<val b.hi:=by grind
 have m1:=Rat.mul_le_mul_of_nonneg_left b1 (Rat.le_of_lt a0)
 have m2:=Rat.mul_le_mul_of_nonneg_right a1 (Rat.le_of_lt b0)
 have m3:=Rat.mul_le_mul_of_nonneg_right a1 (Rat.le_of_lt bh)
 have m4:=Rat.mul_le_mul_of_nonneg_left b1 (Rat.le_of_lt ah)
 have hu:u=val a.lo*val b.lo:=by
  have:=pr.h1.1
  rcases pr.mu with q | q | q | q<;>simp only at q this<;>grind
 have hv:v=val a.hi*val b.hi:=by
  have:=pr.h4.2
  rcases pr.mv with q | q | q | q<;>simp only at q this<;>grind
 rw [hu,hv] at en
 obtain ⟨s,s1,s2⟩:=zmK a0 b0
 obtain ⟨t,t1,t2⟩:=zmK ah bh
 have r1:=zvz en s1 s2
 have r2:=zvA en t1 t2
 have pe:=zb (2-(p:Int))
 have pe2:p2 (2-(p:Int))≤1 / 64:=by
  have:=qe (show 2-(p:Int) ≤ -6 by omega)
  rwa [show p2 (-6)=1 / 64 by decide +kernel] at this
 have lp:=Rat.mul_pos a0 b0
 refine ⟨c,e',hm,⟨?_,o.le,?_⟩,en⟩
 ·have:=Rat.mul_pos lp (show 0<1-p2 (2-(p:Int)) by grind); grind
 ·have k:=zDu (Rat.le_of_lt lp) r1 hα hβ hα2 hβ2 (Rat.le_of_lt pe) pe2
  have n1:=Rat.mul_le_mul_of_nonneg_left rb.rel (Rat.le_of_lt ah)
  have n2:=Rat.mul_le_mul_of_nonneg_right ra.rel (show 0≤val b.lo*(1+β) by have:=Rat.mul_nonneg (Rat.le_of_lt b0) (show 0≤1+β by grind); exact this)
  have n3:val a.hi*val b.hi≤val a.lo*val b.lo*((1+α)*(1+β)):=by grind
  have n4:=Rat.mul_le_mul_of_nonneg_right n3 (show 0≤1+p2 (2-(p:Int)) by grind)
  grind
theorem zDv {L M α ε:Rat} (hL:0≤L) (h:L*(1-ε)≤M) (hα:0≤α) (hα2:α≤1) (hε:0≤ε) (hε2:ε≤1 / 64):L*(1+α)*(1+ε)≤M*(1+(α+8*ε)):=by
 have key:(1+α)*(1+ε)≤(1-ε)*(1+(α+8*ε)):=by
  have b1:ε*α≤ε*1:=Rat.mul_le_mul_of_nonneg_left hα2 hε
  have b2:ε*ε≤(1 / 64)*ε:=Rat.mul_le_mul_of_nonneg_right hε2 hε
  grind
 have k1:=Rat.mul_le_mul_of_nonneg_left key hL
 have k2:=Rat.mul_le_mul_of_nonneg_right h (show 0≤1+(α+8*ε) by grind)
 grind
theorem zvC {a b:I} {x y:R} {L H M K:Int} {α q:Rat} (ha:Has (a,0) x L H) (hb:Has (b,0) y M K) (ra:Rel a α) (hq:0<q) (b1:val b.lo=q) (b2:val b.hi=q) (hα:0≤α) (hα2:α≤1) {p:Nat} (hp:10≤p) (hL : -60000≤L+M) (hH:H+K≤60000) :
  ∃ c,mS p a b 0=(c,0)∧Has (c,0) (x*y) (L+M) (H+K)∧Rel c (α+8*p2 (2-(p:Int)))∧Enc p c (val a.lo*q) (val a.hi*q):=by
 obtain ⟨c,u,v,e,o,en,pr⟩:=zak ha.ok hb.ok (p:=p) wa hL hH
 have hm:=zi9 ha hb (p:=p) wa hL hH
 have e':mS p a b 0=(c,0):=by unfold mS; rw [zd]; exact e
 have e'':mS p (a,(0:Int)).1 (b,(0:Int)).1 0=(c,0):=e'
 rw [e''] at hm
 have a0:=ra.pos; have a1:=ra.le
 have ah:0<val a.hi:=by grind
 have m2:=Rat.mul_le_mul_of_nonneg_right a1 (Rat.le_of_lt hq)
 have hu:u=val a.lo*q:=by
  have h1:=pr.h1.1
  rw [b1] at h1
  rcases pr.mu with k | k | k | k<;>simp only [b1,b2] at k h1<;>grind
 have hv:v=val a.hi*q:=by
  have h1:=pr.h4.2
  rw [b2] at h1
  rcases pr.mv with k | k | k | k<;>simp only [b1,b2] at k h1<;>grind
 rw [hu,hv] at en
 have bl:0<val b.lo:=by rw [b1]; exact hq
 obtain ⟨s,s1,s2⟩:=zmK a0 bl
 obtain ⟨t,t1,t2⟩:=zmK ah bl
 rw [b1] at s1 s2 t1 t2
 have r1:=zvz en s1 s2
 have r2:=zvA en t1 t2
 have pe:=zb (2-(p:Int))
 have pe2:p2 (2-(p:Int))≤1 / 64:=by
  have:=qe (show 2-(p:Int) ≤ -6 by omega)
  rwa [show p2 (-6)=1 / 64 by decide +kernel] at this
 have lp:=Rat.mul_pos a0 hq
 refine ⟨c,e',hm,⟨?_,o.le,?_⟩,en⟩
 ·have:=Rat.mul_pos lp (show 0<1-p2 (2-(p:Int)) by grind); grind
 ·have k:=zDv (Rat.le_of_lt lp) r1 hα hα2 (Rat.le_of_lt pe) pe2
  have n2:=Rat.mul_le_mul_of_nonneg_right ra.rel (Rat.le_of_lt hq)
  have n3:val a.hi*q≤val a.lo*q*(1+α):=by grind
  have n4:=Rat.mul_le_mul_of_nonneg_right n3 (show 0≤1+p2 (2-(p:Int)) by grind)
  grind
structure PI (w:Nat) (x:Rat) (i:Nat) (b:I):Prop where
 has:Has (b,0) (ofQ (prq x i)) (-27-w) (9*(i:Int))
 rl:rep w (val b.lo)
 rh:rep w (val b.hi)
 lo:p2 (-27)≤val b.lo
 one:i=0→1≤val b.lo
 rel:Rel b ((i:Rat)*(8*p2 (2-(w:Int))))
theorem zDw {d:D} (hd:Okd d (-27) 6) (h0:p2 (-27)≤val d) {w:Nat} (hw:60≤w∧w≤160) {n:Nat} (hn:n≤256):∀ (k i:Nat) (b:I),i+k=n→PI w (val d) i b→∃ b',gP w d k i b 0=(b',0)∧PI w (val d) n b':=by
 have p27:=zb (-27)
 have pe:=zb (2-(w:Int))
 have pe2:p2 (2-(w:Int))≤1 / 1000000:=by
  have:=qe (show 2-(w:Int) ≤ -58 by omega)
  have e:p2 (-58)≤1 / 1000000:=by decide +kernel
  grind
 intro k
 induction k with
 | zero=>
  intro i b hi hb
  have:i=n:=wa
  subst this
  exact ⟨b,rfl,hb⟩
 | succ k ih=>
  intro i b hi hb
  have hir:(i:Rat)≤256:=by exact_mod_cast zY (show i≤256 by omega)
  have hi0:(0:Rat)≤(i:Rat):=by exact_mod_cast Nat.zero_le i
  obtain ⟨c,ec,oc,c1,c2⟩:=zvy hd (i:=i) wa (w:=w) wa
  have hc:Has (c,0) (ofQ (val d+(i:Rat))) (-27) 9:=⟨rfl,oc,⟨by rw [c1]; exact zK _,by rw [c2]; exact zK _⟩⟩
  have q0:0<val d+(i:Rat):=by grind
  have a1:(i:Rat)*(8*p2 (2-(w:Int)))≤256*(8*(1 / 1000000)):=by
   have k1:=Rat.mul_le_mul_of_nonneg_right hir (show 0≤8*p2 (2-(w:Int)) by grind)
   grind
  have a0:0≤(i:Rat)*(8*p2 (2-(w:Int))):=Rat.mul_nonneg hi0 (by grind)
  obtain ⟨b',e1,e2,e3,en⟩:=zvC hb.has hc hb.rel q0 c1 c2 a0 (by grind) (p:=w) wa wa wa
  have lo':p2 (-27)≤val b'.lo:=by
   refine en.blo _ (qM w (-27)) ?_
   by_cases hz:i=0
   ·have:=hb.one hz
    have iz:(i:Rat)=0:=by rw [hz]; rfl
    rw [iz] at q0 ⊢
    have:=Rat.mul_le_mul_of_nonneg_right this (show 0≤val d+0 by grind)
    grind
   ·have i1:(1:Rat)≤(i:Rat):=by exact_mod_cast zY (show 1≤i by omega)
    have k1:=Rat.mul_le_mul_of_nonneg_left (show (1:Rat)≤val d+(i:Rat) by grind) (show 0≤val b.lo by have:=hb.lo; grind)
    have:=hb.lo
    grind
  have hp:PI w (val d) (i+1) b':=by
   have g1:=Zw en.rlo lo'
   have g2:=Zw en.rhi (show p2 (-27)≤val b'.hi by have:=e3.le; grind)
   have ov:=e2.ok
   refine ⟨?_,en.rlo,en.rhi,lo',wa,?_⟩
   ·have hh:Has (b',0) (ofQ (prq (val d) i)*ofQ (val d+(i:Rat))) (-27-w) (9*((i+1:Nat):Int)):=by
     have m:=e2.mono (L':=-27-w + -27) (H':=9*((i+1:Nat):Int)) (Int.le_refl _) wa
     exact ⟨rfl,⟨⟨m.ok.lo.w,g1,m.ok.lo.b⟩,⟨m.ok.hi.w,g2,m.ok.hi.b⟩,m.ok.le⟩,m.m⟩
    exact hh.eq (by rw [← zk]; rfl)
   ·have er:((i+1:Nat):Rat)*(8*p2 (2-(w:Int)))=(i:Rat)*(8*p2 (2-(w:Int)))+8*p2 (2-(w:Int)):=zmC i _
    rw [er]; exact e3
  obtain ⟨b2,f1,f2⟩:=ih (i+1) b' wa hp
  refine ⟨b2,?_,f2⟩
  have ep:pS d 0=(⟨d,d⟩,0):=by unfold pS; rw [zd]
  have ei:iS (i:Int) 0=(intI (i:Int),0):=by unfold iS; rw [zd]
  rw [gP,ep]
  simp only
  rw [ei]
  simp only
  rw [ec]
  simp only
  rw [e1]
  exact f1
def al (ε:Rat):Nat→Rat
 | 0=>0
 | k+1=>2*(al ε k+8*ε)+8*ε
theorem zvD {ε:Rat} (h:0≤ε) (k:Nat) (hk:k≤10):0≤al ε k∧al ε k≤24552*ε:=by
 have e:al ε k=(((2 ^ k-1:Nat):Nat):Rat)*(24*ε):=by
  induction k with
  | zero=>show (0:Rat)=((0:Nat):Rat)*_; have:((0:Nat):Rat)=0:=rfl; rw [this]; grind
  | succ k ih=>
   have p:=Nat.pow_pos (n:=k) (show 0<2 by decide)
   show 2*(al ε k+8*ε)+8*ε=_
   rw [ih wa,show 2 ^ (k+1)-1=2*(2 ^ k-1)+1 by rw [Nat.pow_succ]; omega]
   push_cast
   grind
 have p:2 ^ k≤2 ^ 10:=Nat.pow_le_pow_right (by decide) hk
 have p10:(2:Nat) ^ 10=1024:=by decide
 have h1:(((2 ^ k-1:Nat):Nat):Rat)≤1023:=by exact_mod_cast zY (show 2 ^ k-1≤1023 by omega)
 have h0:(0:Rat)≤(((2 ^ k-1:Nat):Nat):Rat):=by exact_mod_cast Nat.zero_le _
 have m1:=Rat.mul_le_mul_of_nonneg_right h1 (show 0≤24*ε by grind)
 have m2:=Rat.mul_nonneg h0 (show 0≤24*ε by grind)
 rw [e]
 exact ⟨m2,by grind⟩
structure RI (w:Nat) (y:R) (k:Nat) (r:I):Prop where
 has:Has (r,0) (y ^ (2*k+1)) (-27*(2*(k:Int)+1)) (9*(2*(k:Int)+1))
 lo:p2 (8*(2*(k:Int)+1))≤val r.lo
 rel:Rel r (al (p2 (2-(w:Int))) k)
theorem zvE:∀ k:Nat,k≤9→(bnN (k+1)).natAbs≤2 ^ (8*(2*k+1))∧1≤bnC (k+1)∧bnC (k+1)≤2 ^ 19∧(bnN (k+1)).natAbs≤2 ^ 18:=by decide +kernel
theorem zDx (k:Nat) (h:bnC k≠0):cK k*(bnC k:Rat)=(bnN k:Rat):=by
 have e:cK k=(bnN k:Rat) / (bnC k:Rat):=rfl
 rw [e]
 exact ZJ (by exact_mod_cast h)
theorem zDy {n lo hi γ u v:Rat} (h0:0<lo) (hle:lo≤hi) (hr:hi≤lo*(1+γ)) (hn:n≤lo∧-lo≤n) (hu:u=n / lo∨u=n / hi) (hv:v=n / lo∨v=n / hi) (hγ:0≤γ):v-u≤γ∧(-1≤u∧u≤1)∧(-1≤v∧v≤1):=by
 have e1:=ZJ (a:=n) (b:=lo) (by grind)
 have e2:=ZJ (a:=n) (b:=hi) (by grind)
 generalize n / lo=a at *
 generalize n / hi=b at *
 have hh:0<hi:=by grind
 have a1:a≤1:=by
  rcases Rat.le_total (a:=a) (b:=1) with k | k
  ·exact k
  ·rcases Classical.em (a=1) with q | q
   ·grind
   ·have:=Rat.mul_pos (show 0<a-1 by grind) h0; grind
 have a2 : -1≤a:=by
  rcases Rat.le_total (a:=-1) (b:=a) with k | k
  ·exact k
  ·rcases Classical.em (a = -1) with q | q
   ·grind
   ·have:=Rat.mul_pos (show 0 < -1-a by grind) h0; grind
 have b1:b≤1:=by
  rcases Rat.le_total (a:=b) (b:=1) with k | k
  ·exact k
  ·rcases Classical.em (b=1) with q | q
   ·grind
   ·have:=Rat.mul_pos (show 0<b-1 by grind) hh; grind
 have b2 : -1≤b:=by
  rcases Rat.le_total (a:=-1) (b:=b) with k | k
  ·exact k
  ·rcases Classical.em (b = -1) with q | q
   ·grind
   ·have:=Rat.mul_pos (show 0 < -1-b by grind) hh; grind
 have key:(a-b)*lo=b*(hi-lo):=by grind
 have d1:hi-lo≤lo*γ:=by grind
 have up:(a-b)*lo≤γ*lo:=by
  rw [key]
  have m1:=Rat.mul_le_mul_of_nonneg_right b1 (show 0≤hi-lo by grind)
  grind
 have dn : -(γ*lo)≤(a-b)*lo:=by
  rw [key]
  have m1:=Rat.mul_le_mul_of_nonneg_right b2 (show 0≤hi-lo by grind)
  grind
 have g1:a-b≤γ:=by
  rcases Rat.le_total (a:=a-b) (b:=γ) with k | k
  ·exact k
  ·rcases Classical.em (a-b=γ) with q | q
   ·grind
   ·have:=Rat.mul_pos (show 0<a-b-γ by grind) h0; grind
 have g2:b-a≤γ:=by
  rcases Rat.le_total (a:=b-a) (b:=γ) with k | k
  ·exact k
  ·rcases Classical.em (b-a=γ) with q | q
   ·grind
   ·have:=Rat.mul_pos (show 0<b-a-γ by grind) h0; grind
 rcases hu with q | q<;>rcases hv with t | t<;>rw [q,t]<;>exact ⟨by grind,⟨by assumption,by assumption⟩,⟨by assumption,by assumption⟩⟩
theorem zqq {c:Nat} (hc:1≤c):Rel (intI (c:Int)) 0∧val (intI (c:Int)).lo=(c:Rat)∧val (intI (c:Int)).hi=(c:Rat):=by
 have v:val (intI (c:Int)).lo=(c:Rat):=by rw [show (intI (c:Int)).lo=fromD (c:Int) from rfl,QD]; exact Rat.intCast_natCast c
 have v2:val (intI (c:Int)).hi=(c:Rat):=v
 have c1:(1:Rat)≤(c:Rat):=by exact_mod_cast zY hc
 exact ⟨⟨by rw [v]; grind,by rw [v,v2]; exact Rat.le_refl,by rw [v,v2]; grind⟩,v,v2⟩
theorem zDz {w:Nat} (hw:60≤w∧w≤160) {y:R} (hy:0<y) {k:Nat} (hk:k≤9) {r:I} (hr:RI w y k r):∃ c,gV w (k+1) r 0=(c,0)∧HasW (c,0) (ofQ (cK (k+1))*y⁻¹ ^ (2*k+1)) (-600) 0 (200000*p2 (-(w:Int))):=by
 have pe:=zb (2-(w:Int))
 have pe2:p2 (2-(w:Int))≤1 / 1000000:=by
  have:=qe (show 2-(w:Int) ≤ -58 by omega)
  have e:p2 (-58)≤1 / 1000000:=by decide +kernel
  grind
 have e2:p2 (2-(w:Int))=4*p2 (-(w:Int)):=by rw [Zx]; rfl
 have pw:=zb (-(w:Int))
 obtain ⟨s1,s2,s3,s4⟩:=zvE k hk
 have al1:=zvD (Rat.le_of_lt pe) k wa
 have hn:Has (iS (bnN (k+1)) 0) ((bnN (k+1):Int):R) 0 (18:Nat):=zgK (K:=18) wa s4
 have hc:Has (intI (bnC (k+1):Int),0) ((bnC (k+1):Nat):R) 0 (19:Nat):=zp2 (K:=19) wa s3
 obtain ⟨rc,vc,vc2⟩:=zqq s2
 obtain ⟨m1,e1,h1,r1,en⟩:=zvB hc hr.has rc hr.rel Rat.le_refl al1.1 (by grind) (by grind) (p:=w) wa wa wa
 have p8:=zb (8*(2*(k:Int)+1))
 have c1:(1:Rat)≤(bnC (k+1):Rat):=by exact_mod_cast zY s2
 have lo1:p2 (8*(2*(k:Int)+1))≤val m1.lo:=by
  refine en.blo _ (qM w _) ?_
  rw [vc]
  have:=Rat.mul_le_mul_of_nonneg_right c1 (show 0≤val r.lo by have:=hr.lo; grind)
  have:=hr.lo
  grind
 have nz:hasI m1 zD=false:=by
  cases hq:hasI m1 zD with
  | false=>rfl
  | true=>
   have:=((zbq _ _).1 hq).1
   rw [qT] at this
   grind
 have hz:ofQ (cK (k+1))*y⁻¹ ^ (2*k+1)*(((bnC (k+1):Nat):R)*y ^ (2*k+1))=((bnN (k+1):Int):R):=by
  have a:=zgC y⁻¹ y (2*k+1)
  have b:=qQ (x:=y) (by grind)
  have cm:=zDx (k+1) wa
  have cm2:ofQ (cK (k+1))*((bnC (k+1):Nat):R)=((bnN (k+1):Int):R):=by
   rw [← zc6,← zk,cm]; rfl
  rw [show y⁻¹*y=1 by grind,zuD] at a
  rw [← cm2]
  generalize y⁻¹ ^ (2*k+1)=p at *
  generalize y ^ (2*k+1)=q at *
  have:ofQ (cK (k+1))*p*(((bnC (k+1):Nat):R)*q)=ofQ (cK (k+1))*((bnC (k+1):Nat):R)*(p*q):=by grind
  rw [this,← a]; grind
 obtain ⟨c,u,v,ec,oc,encc,q⟩:=zp5 (p:=w) hn.ok h1.ok nz wa wa wa
 have hd:=zp1 hn h1 nz hz (p:=w) wa wa wa
 have ed:dS w (iS (bnN (k+1)) 0).1 m1 0=(c,0):=by unfold dS; rw [zd]; exact ec
 have ed2:dS w (iS (bnN (k+1)) 0).1 (m1,(0:Int)).1 0=(c,0):=ed
 rw [ed2] at hd
 have nv:val (iS (bnN (k+1)) 0).1.lo=((bnN (k+1):Int):Rat):=by
  show val (fromD (bnN (k+1)))=_; exact QD _
 have nv2:val (iS (bnN (k+1)) 0).1.hi=((bnN (k+1):Int):Rat):=nv
 have nb:((bnN (k+1):Int):Rat)≤val m1.lo∧-val m1.lo≤((bnN (k+1):Int):Rat):=by
  have e8:p2 (8*(2*(k:Int)+1))=(((2 ^ (8*(2*k+1)):Nat)):Rat):=by
   rw [← qS]; exact congrArg p2 wa
  have i1:=Zl (show bnN (k+1)≤((2 ^ (8*(2*k+1)):Nat):Int) by omega)
  have i2:=Zl (show -((2 ^ (8*(2*k+1)):Nat):Int)≤bnN (k+1) by omega)
  rw [Rat.intCast_natCast,← e8] at i1
  rw [Rat.intCast_neg,Rat.intCast_natCast,← e8] at i2
  exact ⟨by grind,by grind⟩
 have γ0:0≤2*(0+al (p2 (2-(w:Int))) k)+8*p2 (2-(w:Int)):=by grind
 have qw:=zDy (n:=((bnN (k+1):Int):Rat)) (u:=u) (v:=v) r1.pos r1.le r1.rel nb (by
  have:=q.mu; simp only [nv,nv2] at this; rcases this with t | t | t | t<;>simp [t]) (by
  have:=q.mv; simp only [nv,nv2] at this; rcases this with t | t | t | t<;>simp [t]) γ0
 have bu:B 0 u:=⟨by rw [zN]; grind,by rw [zN]; grind⟩
 have bv:B 0 v:=⟨by rw [zN]; grind,by rw [zN]; grind⟩
 have bb:=zgO encc bu bv oc.le
 have wd:=zeE encc bu bv
 rw [show (0:Int)-(w:Int) = -(w:Int) by omega] at wd
 refine ⟨c,?_,⟨⟨rfl,⟨⟨oc.lo.w,oc.lo.g.mono wa,bb.1⟩,⟨oc.hi.w,oc.hi.g.mono wa,bb.2⟩,oc.le⟩,hd.m⟩,?_⟩⟩
 ·have ei:(iS (bnN (k+1)) 0).2=0:=rfl
  have ej:iS (bnC (k+1):Int) 0=(intI (bnC (k+1):Int),0):=by unfold iS; rw [zd]
  unfold gV
  rw [ei,ej]
  simp only
  rw [e1]
  exact ed
 ·show val c.hi-val c.lo≤_
  rw [e2] at qw al1
  grind
theorem zDA {w:Nat} (hw:60≤w∧w≤160) {Y:I} {q:Rat} (hY:HasW (Y,0) (ofQ q) (-27) 9 0) (y1:val Y.lo=q) (y2:val Y.hi=q) (hq:256≤q) {k:Nat} (hk:k≤9) {r:I} (hr:RI w (ofQ q) k r):∃ yy r',mS w Y Y 0=(yy,0)∧mS w r yy 0=(r',0)∧RI w (ofQ q) (k+1) r':=by
 have pe:=zb (2-(w:Int))
 have pe2:p2 (2-(w:Int))≤1 / 1000000:=by
  have:=qe (show 2-(w:Int) ≤ -58 by omega)
  have e:p2 (-58)≤1 / 1000000:=by decide +kernel
  grind
 have al1:=zvD (Rat.le_of_lt pe) k wa
 have rY:Rel Y 0:=⟨by grind,by grind,by grind⟩
 obtain ⟨yy,e1,h1,r1,en1⟩:=zvC hY.h hY.h rY (by grind) y1 y2 Rat.le_refl (by grind) (p:=w) wa wa wa
 have r1':Rel yy (8*p2 (2-(w:Int))):=by
  have:(0:Rat)+8*p2 (2-(w:Int))=8*p2 (2-(w:Int)):=by grind
  rw [this] at r1; exact r1
 have lo1:p2 16≤val yy.lo:=by
  refine en1.blo _ (qM w 16) ?_
  rw [y1,show p2 16=256*256 by decide +kernel]
  have:=Rat.mul_le_mul_of_nonneg_right hq (show 0≤q by grind)
  grind
 obtain ⟨r',e2,h2,r2,en2⟩:=zvB hr.has h1 hr.rel r1' al1.1 (by grind) (by grind) (by grind) (p:=w) wa wa wa
 refine ⟨yy,r',e1,e2,⟨?_,?_,r2⟩⟩
 ·refine (h2.mono wa wa).eq ?_
  rw [show 2*(k+1)+1=2*k+1+2 by omega,zB,zB]
  generalize ofQ q ^ (2*k+1)=z
  grind
 ·refine en2.blo _ (qM w _) ?_
  rw [show 8*(2*((k+1:Nat):Int)+1)=8*(2*(k:Int)+1)+16 by omega,zy]
  have p8:=zb (8*(2*(k:Int)+1))
  have p16:=zb 16
  have m1:=Rat.mul_le_mul_of_nonneg_right hr.lo (Rat.le_of_lt p16)
  have m2:=Rat.mul_le_mul_of_nonneg_left lo1 (show 0≤val r.lo by have:=hr.lo; grind)
  grind
theorem zDB {w:Nat} (hw:60≤w∧w≤160) {Y:I} {q:Rat} (hY:HasW (Y,0) (ofQ q) (-27) 9 0) (y1:val Y.lo=q) (y2:val Y.hi=q) (hq:256≤q) {S0:R} {m0 W0:Rat} (hm:ab S0≤ofQ m0) (hm2:m0≤2000) (hW0:0≤W0) (hW1:W0≤1) :
  ∀ (k j:Nat) (s r:I),j+k=10→RI w (ofQ q) j r∨k=0→ab (S0+stS (ofQ q) j)≤ofQ (m0+j)→HasW (s,0) (S0+stS (ofQ q) j) (-46100) 11 (W0+(j:Rat)*(204096*p2 (-(w:Int))))→∃ s',gT w Y k (j+1) s r 0=(s',0)∧HasW (s',0) (S0+stS (ofQ q) 10) (-46100) 11 (W0+10*(204096*p2 (-(w:Int))))∧ab (S0+stS (ofQ q) 10)≤ofQ (m0+10):=by
 have pw:=zb (-(w:Int))
 have pw2:p2 (-(w:Int))≤1 / 1000000000000:=by
  have:=qe (show -(w:Int) ≤ -60 by omega)
  have e:p2 (-60)≤1 / 1000000000000:=by decide +kernel
  grind
 have p11:p2 11=2048:=by decide +kernel
 have q11:p2 (11-(w:Int))=2048*p2 (-(w:Int)):=by rw [Zx,p11]
 intro k
 induction k with
 | zero=>
  intro j s r hj _ hb hs
  have:j=10:=wa
  subst this
  have e10:((10:Nat):Rat)=10:=rfl
  rw [e10] at hs hb
  exact ⟨s,rfl,hs,hb⟩
 | succ k ih=>
  intro j s r hj hr hb hs
  have hr:RI w (ofQ q) j r:=by rcases hr with h | h; exact h; omega
  have hj9:j≤9:=wa
  have hjr:(j:Rat)≤9:=by exact_mod_cast zY hj9
  have hj0:(0:Rat)≤(j:Rat):=by exact_mod_cast Nat.zero_le j
  have y0:(0:R)<ofQ q:=Zi.2 (show (0:Rat)<q by grind)
  obtain ⟨dv,e1,h1⟩:=zDz hw y0 hj9 hr
  obtain ⟨yy,r',e2,e3,hr'⟩:=zDA hw hY y1 y2 hq hj9 hr
  have st1:S0+stS (ofQ q) (j+1)=S0+stS (ofQ q) j+ofQ (cK (j+1))*(ofQ q)⁻¹ ^ (2*j+1):=by
   show S0+(stS (ofQ q) j+ofQ (cK (j+1))*(ofQ q)⁻¹ ^ (2*j+1))=_; grind
  have dv1:ab (ofQ (cK (j+1))*(ofQ q)⁻¹ ^ (2*j+1))≤ofQ 1:=by
   have b1:=h1.h.ok.lo.b.1
   have b2:=h1.h.ok.hi.b.2
   rw [zN] at b1 b2
   have c1:=zj (zc.2 b1) h1.h.m.lo
   have c2:=zj h1.h.m.hi (zc.2 b2)
   rw [Qj] at c1
   exact ab_le.2 ⟨c1,c2⟩
  have ej:((j+1:Nat):Rat)=(j:Rat)+1:=by push_cast; rfl
  have hb':ab (S0+stS (ofQ q) (j+1))≤ofQ (m0+((j+1:Nat):Rat)):=by
   rw [st1,ej]
   have t:=Z3 (S0+stS (ofQ q) j) (ofQ (cK (j+1))*(ofQ q)⁻¹ ^ (2*j+1))
   have e:ofQ (m0+((j:Rat)+1))=ofQ (m0+(j:Rat))+ofQ 1:=by rw [← zP]; congr 1; grind
   rw [e]; grind
  have k9:=Rat.mul_le_mul_of_nonneg_right hjr (show 0≤204096*p2 (-(w:Int)) by grind)
  have h2:=zcd (p:=w) (K:=11) (m:=m0+((j+1:Nat):Rat)) hs (h1.mono (L':=-46100) (H':=11) wa wa Rat.le_refl) (by rw [← st1]; exact hb') (by rw [p11,ej]; grind) wa wa wa
  rw [q11] at h2
  have h3:=(h2.mono (Int.le_refl _) (Int.le_refl _) (w':=W0+((j+1:Nat):Rat)*(204096*p2 (-(w:Int)))) (by rw [ej]; grind)).eq st1.symm
  obtain ⟨s',f1,f2,f3⟩:=ih (j+1) (aS w s dv 0).1 r' wa (Or.inl hr') hb' h3.pair
  refine ⟨s',?_,f2,f3⟩
  have ea:(aS w s dv 0).2=0:=h3.h.e
  rw [gT,e1]
  simp only
  rw [ea,e2]
  simp only
  rw [e3]
  exact f1
theorem zDC {w:Nat} (hw:60≤w∧w≤160) {Y:I} {q:Rat} (hY:HasW (Y,0) (ofQ q) (-27) 9 0) (y1:val Y.lo=q) (y2:val Y.hi=q) (hq:256≤q):RI w (ofQ q) 0 Y:=by
 refine ⟨hY.h.mono wa wa |>.eq (by rw [show 2*0+1=0+1 from rfl,zB,zZ]; grind),?_,⟨by grind,by grind,?_⟩⟩
 ·rw [y1,show p2 (8*(2*((0:Nat):Int)+1))=256 by decide +kernel]; exact hq
 ·show _≤val Y.lo*(1+0); grind
theorem zvF {p:Nat} {r:I × Int} (h:(zz p r).2=0):rep p (val (zz p r).1.lo)∧rep p (val (zz p r).1.hi):=by
 unfold zz at *
 by_cases e:r.2=0
 ·rw [e,zd] at h ⊢
  unfold zaj at *
  by_cases h1:(zn r.1.lo p false).2=0
  ·rw [ze h1] at h ⊢
   by_cases h2:(zn r.1.hi p true).2=0
   ·rw [ze h2] at h ⊢
    have t1:=zc0 h1
    have t2:=zc0 h2
    refine ⟨?_,?_⟩
    ·show rep p (val (zn r.1.lo p false).1)
     have:(zn r.1.lo p false).1=rnd r.1.lo p false:=t1
     rw [this]; exact zlV _ _ _
    ·show rep p (val (zn r.1.hi p true).1)
     have:(zn r.1.hi p true).1=rnd r.1.hi p true:=t2
     rw [this]; exact zlV _ _ _
   ·rw [zg h2] at h; exact absurd h h2
  ·rw [zg h1] at h; exact absurd h h1
 ·rw [zu e] at h; exact absurd h e
theorem zvG {d:D} (h0:0<d.m) {p:Nat} (h:(lnR d (p:Int)).2=0):rep p (val (lnR d (p:Int)).1.lo)∧rep p (val (lnR d (p:Int)).1.hi):=by
 unfold lnR at *
 split
 ·rename_i hf
  rw [wc hf] at h
  rw [Int.toNat_natCast] at h ⊢
  rw [zpJ d p h0] at h ⊢
  split
  ·rename_i q; rw [wc q] at h; exact zvF h
  ·rename_i q; rw [we q] at h; exact zvF h
 ·exact ⟨by rw [show val zI.lo=0 from qT]; exact zqk p,by rw [show val zI.hi=0 from qT]; exact zqk p⟩
end Go.Proofs.YtjffljhmjdljeaaGreat.Gen
