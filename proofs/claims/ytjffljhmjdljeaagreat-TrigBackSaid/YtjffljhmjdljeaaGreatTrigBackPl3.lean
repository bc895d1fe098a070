/- Plain theory of the numbers that the statement speaks of: printed from the proofs' own texts, as far as this statement needs it. -/
import Derived.Test.YtjffljhmjdljeaaGreatTrigBackPl2
set_option linter.unusedVariables false
set_option linter.unusedSimpArgs false
namespace Go.Proofs.YtjffljhmjdljeaaGreat.Gen
open Go Go.Abs Go.Plain Go.An
theorem hw_div_pt {d:D} {s:I × Int} {y z:R} {L H M K:Int} {δ:Rat} (hd:Okd d L H) (hs:HasW s y M K δ) (h1:1≤val s.1.lo) (hz:z*y=ofQ (val d)) {p:Nat} (hp:1≤p) (hL : -60000≤L-K-p-2) (hH:H-M+2≤60000):HasW (dS p ⟨d,d⟩ s.1 0) z (L-K-p-2) H (p2 H*δ+2*p2 (H-p)):=by
 have hle:val s.1.lo≤val s.1.hi:=hs.h.ok.le
 have hnz:hasI s.1 zD=false:=by
  cases hq:hasI s.1 zD with
  | false=>rfl
  | true=>
   have:=((hasI_iff _ _).1 hq).1
   rw [val_z] at this
   grind
 have ha:Has (⟨d,d⟩,0) (ofQ (val d)) L H:=has_point hd
 obtain ⟨c,u,v,e,o,en,q⟩:=divI_enc (p:=p) ha.ok hs.h.ok hnz hp hL hH
 have h:=has_div ha hs.h hnz hz hp hL hH
 have e':dS p ⟨d,d⟩ s.1 0=(c,0):=by unfold dS; rw [st_zero]; exact e
 rw [show ((⟨d,d⟩:I),(0:Int)).1=⟨d,d⟩ from rfl,e'] at h
 rw [e']
 have hw:=hs.w
 have k1:=quo_mul (x:=val d) h1
 have k2:=quo_mul (x:=val d) (show 1≤val s.1.hi by grind)
 have qu:=q.mu
 have qv:=q.mv
 have r1:(⟨d,d⟩:I).lo=d:=rfl
 have r2:(⟨d,d⟩:I).hi=d:=rfl
 rw [r1,r2] at qu qv
 have h1':1≤val s.1.hi:=by grind
 have hw0:0≤δ:=by grind
 have bu:B H u:=by rcases qu with k | k | k | k<;>rw [k]<;>first | exact B_quot h1 (by rw [k1]; exact hd.b) | exact B_quot h1' (by rw [k2]; exact hd.b)
 have bv:B H v:=by rcases qv with k | k | k | k<;>rw [k]<;>first | exact B_quot h1 (by rw [k1]; exact hd.b) | exact B_quot h1' (by rw [k2]; exact hd.b)
 have hd':v-u≤p2 H*δ:=by
  generalize val d / val s.1.lo=ql at *
  generalize val d / val s.1.hi=qh at *
  rcases qu with k | k | k | k<;>rcases qv with t | t | t | t<;>rw [k,t]<;>first | exact quot_near h1 h1 k1 k1 hd.b ⟨by grind,by grind⟩ | exact quot_near h1 h1' k1 k2 hd.b ⟨by grind,by grind⟩ | exact quot_near h1' h1 k2 k1 hd.b ⟨by grind,by grind⟩ | exact quot_near h1' h1' k2 k2 hd.b ⟨by grind,by grind⟩
 have wd:=enc_width en bu bv
 have b:=enc_bounds en bu bv o.le
 exact ⟨⟨rfl,⟨⟨o.lo.w,o.lo.g,b.1⟩,⟨o.hi.w,o.hi.g,b.2⟩,o.le⟩,h.m⟩,by grind⟩
theorem pi_fine {p:Nat} (hp:20≤p∧p≤200):HasW (piS p 0) (An.hp+An.hp) (1-(p:Int)) 2 (p2 (13-(p:Int)))∧3≤val (piS p 0).1.lo:=by
 have h:=pi_w (p:=p) (by omega)
 have a:=onePi_w5 (p:=p) (by omega)
 have b:=onePi_w239 (p:=p) (by omega)
 have hpos:=p2_pos (-(p:Int))
 have q13:p2 (13-(p:Int))=8192*p2 (-(p:Int)):=by rw [show 13-(p:Int)=13 + -(p:Int) by omega,p2_add]; rfl
 have hNr:(((p / 2+4:Nat):Nat):Rat)≤104:=by exact_mod_cast natCast_le (show p / 2+4≤104 by omega)
 have hw:(106+((p / 2+4:Nat):Rat)*49)*p2 (-(p:Int))≤p2 (13-(p:Int)):=by
  rw [q13]
  generalize ((p / 2+4:Nat):Rat)=N at *
  have:=Rat.mul_le_mul_of_nonneg_right (show 106+N*49≤8192 by grind) (Rat.le_of_lt hpos)
  grind
 have h':=h.mono (Int.le_refl _) (Int.le_refl _) hw
 have p13:p2 (13-(p:Int))≤p2 (-7):=p2_le (by omega)
 have p13':p2 (-7)=1 / 128:=by decide +kernel
 have hww:=h'.w
 have hi:=h'.h.m.hi
 have hlo:=h'.h.m.lo
 have n1:314 / 100≤val (piS p 0).1.hi:=ofQ_le.1 (rle_trans (ofQ_le.2 (by decide +kernel)) (rle_trans pi_near.1 hi))
 have n2:val (piS p 0).1.lo≤315 / 100:=ofQ_le.1 (rle_trans hlo (rle_trans pi_near.2 (ofQ_le.2 (by decide +kernel))))
 rw [p13'] at p13
 have l3:3≤val (piS p 0).1.lo:=by grind
 have l4:val (piS p 0).1.hi≤4:=by grind
 have a4:=hw_scale (n:=4) a (by omega) (by omega)
 have b2:=hw_scale (n:=2) b (by omega) (by omega)
 have ea:(onePi p 5 0).2=0:=a.h.e
 have eb:(onePi p 239 0).2=0:=b.h.e
 have ea4:(scS (onePi p 5 0).1 4 0).2=0:=a4.h.e
 have eb2:(scS (onePi p 239 0).1 2 0).2=0:=b2.h.e
 have hneg:=(hw_neg b2).h
 obtain ⟨c,e,o,en⟩:=addI_ok (a4.h.mono (L':=-46000) (H':=4) (by omega) (by omega)).ok (hneg.mono (L':=-46000) (H':=4) (by omega) (by omega)).ok (p:=p) (by omega) (by omega) (by omega)
 have e':piS p 0=(c,0):=by
  unfold piS
  rw [ea,eb,ea4,eb2]
  unfold suS subI
  rw [st_zero]
  exact e
 rw [e'] at h' l3 l4 ⊢
 have hle:=h'.h.ok.le
 refine ⟨⟨⟨rfl,⟨⟨h'.h.ok.lo.w,rep_grid en.rlo (l:=1) ?_,?_⟩,⟨h'.h.ok.hi.w,rep_grid en.rhi (l:=1) ?_,?_⟩,hle⟩,h'.h.m⟩,h'.w⟩,l3⟩
 ·rw [p2_up.2.2.2]; show 2≤val c.lo; grind
 ·unfold B; rw [p2_up.2.2.1]; exact ⟨by grind,by grind⟩
 ·rw [p2_up.2.2.2]; show 2≤val c.hi; grind
 ·unfold B; rw [p2_up.2.2.1]; exact ⟨by grind,by grind⟩
theorem half_R:(An.hp+An.hp)*ofQ (p2 (-1))=An.hp:=by
 have:ofQ (p2 (-1))=hf:=by rw [p2_half]; rfl
 rw [this]
 have:=hf_two
 grind
theorem tuH_has {w:Nat} (hw:20≤w∧w≤200):HasW (tuH w) An.hp (-(w:Int)) 1 (p2 (12-(w:Int)))∧3 / 2≤val (tuH w).1.lo:=by
 obtain ⟨h1,h2⟩:=pi_fine hw
 have h3:=hw_scale (n:=-1) h1 (by omega) (by omega)
 obtain ⟨c,e,o,e1,e2⟩:=scaleI_ok (n:=-1) h1.h.ok (by omega) (by omega)
 unfold tuH
 rw [h1.h.e]
 refine ⟨((h3.eq half_R).mono (by omega) (by omega) ?_),?_⟩
 ·rw [← p2_add]; exact p2_le (by omega)
 ·unfold scS; rw [st_zero,e]
  show 3 / 2≤val c.lo
  rw [e1,show p2 (-1)=1 / 2 by decide +kernel]
  grind
theorem flD_val (d:D):(flD d:Rat)≤val d∧val d<(flD d:Rat)+1:=by
 unfold flD
 show _≤(d.m:Rat)*p2 d.e∧(d.m:Rat)*p2 d.e<_
 by_cases h:0≤d.e
 ·rw [if_pos h]
  have e:((d.m*2 ^ d.e.toNat:Int):Rat)=(d.m:Rat)*p2 d.e:=by
   have:=p2_nat d.e.toNat
   rw [Int.toNat_of_nonneg h] at this
   rw [Rat.intCast_mul,this]
   congr 1
  rw [e]
  exact ⟨Rat.le_refl,by grind⟩
 ·rw [if_neg h]
  have hp:=p2_pos d.e
  have hk:(0:Int)<2 ^ (-d.e).toNat:=Int.pow_pos (by decide)
  have e:p2 d.e*((2 ^ (-d.e).toNat:Int):Rat)=1:=by
   have h1:=p2_nat (-d.e).toNat
   rw [Int.toNat_of_nonneg (by omega)] at h1
   have h2:((2 ^ (-d.e).toNat:Int):Rat)=p2 (-d.e):=by rw [h1]; rfl
   rw [h2,← p2_add,show d.e + -d.e=0 by omega,p2_zero]
  generalize (2 ^ (-d.e).toNat:Int)=z at *
  generalize p2 d.e=t at *
  have h1:=Int.mul_ediv_add_emod d.m z
  have h2:=Int.emod_nonneg d.m (show z≠0 by omega)
  have h3:=Int.emod_lt_of_pos d.m hk
  have g1:((d.m / z:Int):Rat)*(z:Rat)≤(d.m:Rat):=by
   have:=intCast_le (show d.m / z*z≤d.m by rw [Int.mul_comm]; omega)
   rwa [Rat.intCast_mul] at this
  have g2:(d.m:Rat)<((d.m / z:Int):Rat)*(z:Rat)+(z:Rat):=by
   have:=intCast_lt (show d.m<d.m / z*z+z by rw [Int.mul_comm]; omega)
   rwa [Rat.intCast_add,Rat.intCast_mul] at this
  clear h1 h2 h3
  generalize ((d.m / z:Int):Rat)=q at *
  generalize (d.m:Rat)=m at *
  generalize (z:Rat)=z at *
  have e5:q*z*t=q:=by rw [Rat.mul_assoc,Rat.mul_comm z t,e,Rat.mul_one]
  constructor
  ·have:=Rat.mul_le_mul_of_nonneg_right g1 (Rat.le_of_lt hp)
   rwa [e5] at this
  ·have:=Rat.mul_lt_mul_of_pos_right g2 hp
   rwa [Rat.add_mul,e5,Rat.mul_comm z t,e] at this
theorem hp_near:ofQ (157 / 100)≤An.hp∧An.hp≤ofQ (1571 / 1000):=by
 have h1:=rle_trans (ofQ_le.2 (show (314 / 100:Rat)≤_ by decide +kernel)) pi_near.1
 have h2:=rle_trans pi_near.2 (ofQ_le.2 (show _≤(3142 / 1000:Rat) by decide +kernel))
 have e1:ofQ (314 / 100)=ofQ (157 / 100)+ofQ (157 / 100):=by rw [← ofQ_add]; congr 1; decide +kernel
 have e2:ofQ (3142 / 1000)=ofQ (1571 / 1000)+ofQ (1571 / 1000):=by rw [← ofQ_add]; congr 1; decide +kernel
 rw [e1] at h1
 rw [e2] at h2
 exact ⟨by grind,by grind⟩
theorem w_small {w:Nat} (hw:40≤w) {n:Int} (hn:n≤24):p2 (n-(w:Int))≤1 / 65536:=by
 have h1:p2 (n-(w:Int))≤p2 (-16):=p2_le (by omega)
 rwa [show p2 (-16)=1 / 65536 by decide +kernel] at h1
theorem pS_zero (d:D):pS d 0=(⟨d,d⟩,0):=by unfold pS; rw [st_zero]
theorem tuQ_has {d:D} {L:Int} (hd:Okd d L 10) (hL : -110≤L∧L≤0) {w:Nat} (hw:40≤w∧w≤200) {z:R} (hz:z*An.hp=ofQ (val d)):HasW (tuQ d w (tuH w)) (z+ofQ (1 / 2)) (-400) 11 (1 / 1000):=by
 obtain ⟨h1,h2⟩:=tuH_has (w:=w) (by omega)
 have q:=hw_div_pt hd h1 (by grind) hz (p:=w) (by omega) (by omega) (by omega)
 have e1:(tuH w).2=0:=h1.h.e
 have f:HasW (⟨⟨1,-1⟩,⟨1,-1⟩⟩,0) (ofQ (val ⟨1,-1⟩)) (-1) 0 0:=hw_point (Okd_half (by omega) (by omega) (by omega))
 have vh:val ⟨1,-1⟩=1 / 2:=by rw [val_half]; decide +kernel
 rw [vh] at f
 have a1:=q.h.ok.lo.b
 have a2:=q.h.ok.hi.b
 have p10:p2 10=1024:=by decide +kernel
 have p11:p2 11=2048:=by decide +kernel
 have k1:=w_small hw.1 (n:=22) (by omega)
 have k2:=w_small hw.1 (n:=10) (by omega)
 have k3:=w_small hw.1 (n:=11) (by omega)
 have ke:p2 10*p2 (12-(w:Int))=p2 (22-(w:Int)):=by rw [← p2_add,show (10:Int)+(12-(w:Int))=22-(w:Int) by omega]
 rw [ke] at q
 have hb:ab (z+ofQ (1 / 2))≤ofQ (1025):=by
  have m1:=rle_trans (ofQ_le.2 a1.1) q.h.m.lo
  have m2:=rle_trans q.h.m.hi (ofQ_le.2 a2.2)
  rw [p10] at m1 m2
  rw [ofQ_neg] at m1
  have e3:ofQ 1025=ofQ 1024+ofQ 1:=by rw [← ofQ_add,show (1024:Rat)+1=1025 by decide +kernel]
  have e4:=ofQ_le.2 (show (1 / 2:Rat)≤1 by decide +kernel)
  have e5:=ofQ_le.2 (show (0:Rat)≤1 / 2 by decide +kernel)
  have e6:ofQ 0=0:=rfl
  refine ab_le.2 ⟨?_,?_⟩<;>rw [e3]<;>grind
 have h:=hw_add (p:=w) (K:=11) (q.mono (L':=-400) (H':=10) (by omega) (Int.le_refl _) Rat.le_refl) (f.mono (L':=-400) (H':=10) (by omega) (by omega) Rat.le_refl) hb (by rw [p11]; grind) (by omega) (by omega) (by omega)
 unfold tuQ
 simp only
 rw [e1,pS_zero]
 simp only
 rw [q.h.e,pS_zero]
 exact h.mono (Int.le_refl _) (Int.le_refl _) (by grind)
theorem tuR_has {d:D} {L:Int} (hd:Okd d L 10) (hL : -110≤L∧L≤0) {w:Nat} (hw:40≤w∧w≤200) {k:Int} (hk:k.natAbs≤2 ^ 12) (hr:ab (ofQ (val d)-(k:R)*An.hp)≤ofQ (8 / 10)):HasW (tuR d w (tuH w) k 0) (ofQ (val d)-(k:R)*An.hp) (-110-(w:Int)) 0 (p2 (25-(w:Int))):=by
 obtain ⟨h1,h2⟩:=tuH_has (w:=w) (by omega)
 have hi:HasW (intI k,0) (k:R) 0 (12:Nat) 0:=hw_int (K:=12) (by omega) hk
 have hm:=hw_mul (p:=w) hi h1 (by omega) (by omega) (by omega)
 have hx:HasW (⟨d,d⟩,0) (ofQ (val d)) L 10 0:=hw_point hd
 have q12:p2 ((12:Nat):Int)*p2 (12-(w:Int))=p2 (24-(w:Int)):=by rw [← p2_add,show ((12:Nat):Int)+(12-(w:Int))=24-(w:Int) by omega]
 have q25:p2 (25-(w:Int))=2*p2 (24-(w:Int)):=by rw [show 25-(w:Int)=1+(24-(w:Int)) by omega,p2_add]; rfl
 have q24:p2 (24-(w:Int))=2048*p2 (13-(w:Int)):=by rw [show 24-(w:Int)=11+(13-(w:Int)) by omega,p2_add]; rfl
 have q13:p2 (13-(w:Int))=8192*p2 (0-(w:Int)):=by rw [show 13-(w:Int)=13+(0-(w:Int)) by omega,p2_add]; rfl
 have k24:=w_small hw.1 (n:=24) (by omega)
 have k0:=p2_pos (0-(w:Int))
 rw [q12,show ((12:Nat):Int)+1-(w:Int)=13-(w:Int) by omega] at hm
 have h:=hw_sub (p:=w) (m:=8 / 10) (K:=0) (hx.mono (L':=-110-(w:Int)) (H':=13) (by omega) (by omega) Rat.le_refl) (hm.mono (L':=-110-(w:Int)) (H':=13) (by omega) (by omega) Rat.le_refl) hr (by rw [p2_zero]; grind) (by omega) (by omega) (by omega)
 unfold tuR
 simp only
 rw [pS_zero]
 have ej:jS k 0=(intI k,0):=by unfold jS; rw [st_zero]
 simp only
 rw [ej]
 simp only
 rw [hm.h.e]
 exact h.mono (Int.le_refl _) (Int.le_refl _) (by grind)
theorem turnsR_has {d:D} {L:Int} (hd:Okd d L 10) (hL : -110≤L∧L≤0) {p:Nat} (hp:8≤p∧p≤110):∃ (k:Int) (y:I),turnsR d p=(k,y,0)∧k.natAbs≤2 ^ 12∧HasW (y,0) (ofQ (val d)-(k:R)*An.hp) (-142-(p:Int)) 0 (p2 (-7-(p:Int)))∧ab (ofQ (val d)-(k:R)*An.hp)≤ofQ (8 / 10):=by
 have hf:fitB d (p:Int)=true:=by
  unfold fitB
  have hb:blen d.m.natAbs≤400:=by
   by_cases h0:d.m=0
   ·rw [h0]; decide
   ·have:=okd_size hd h0; omega
  rw [decide_eq_true (show 2≤(p:Int) by omega),decide_eq_true (show (p:Int)≤336 by omega),decide_eq_true hb]; rfl
 have hn:=hp_near
 have hpp:0<An.hp:=by
  have h1:(0:R)<ofQ (157 / 100):=ofQ_lt.2 (by decide +kernel)
  grind
 have hinv:=mul_inv (x:=An.hp) (by grind)
 have hz:ofQ (val d)*(An.hp)⁻¹*An.hp=ofQ (val d):=by grind
 generalize ofQ (val d)*(An.hp)⁻¹=z at hz
 have hq:=tuQ_has hd hL (w:=p+32) (by omega) hz
 obtain ⟨f1,f2⟩:=flD_val (tuQ d (p+32) (tuH (p+32))).1.lo
 have hfl:floorS (tuQ d (p+32) (tuH (p+32))).1.lo=(flD (tuQ d (p+32) (tuH (p+32))).1.lo,0):=by
  unfold floorS
  rw [if_pos (inR_of hq.h.ok.lo.w.odd0 hq.h.ok.lo.g hq.h.ok.lo.b (by omega) (by omega))]
 have b1:=hq.h.ok.lo.b
 have hqw:=hq.w
 have m1:=hq.h.m.lo
 have m2:=hq.h.m.hi
 have qe:=hq.h.e
 generalize hQ:tuQ d (p+32) (tuH (p+32))=Q at *
 generalize flD Q.1.lo=k at *
 have p11:p2 11=2048:=by decide +kernel
 unfold B at b1
 rw [p11] at b1
 have hk:k.natAbs≤2 ^ 12:=by
  have k1:k≤2048:=by
   have:(k:Rat)≤((2048:Int):Rat):=Rat.le_trans f1 (by exact b1.2)
   exact Rat.intCast_le_intCast.1 this
  have k2 : -2049<k:=by
   have:((-2049:Int):Rat)<(k:Rat):=by
    have e:((-2049:Int):Rat) = -2049:=rfl
    rw [e]; grind
   exact Rat.intCast_lt_intCast.1 this
  omega
 have hr:ab (ofQ (val d)-(k:R)*An.hp)≤ofQ (8 / 10):=by
  have n1:ofQ (k:Rat)≤z+ofQ (1 / 2):=rle_trans (ofQ_le.2 f1) m1
  have n2:z+ofQ (1 / 2)≤ofQ ((k:Rat)+1+1 / 1000):=rle_trans m2 (ofQ_le.2 (by grind))
  rw [ofQ_int] at n1
  rw [ofQ_add,ofQ_add,ofQ_int] at n2
  have e1:ofQ 1=ofQ (1 / 2)+ofQ (1 / 2):=by rw [← ofQ_add,show (1 / 2:Rat)+1 / 2=1 by decide +kernel]
  rw [e1] at n2
  have hz':ofQ (val d)-(k:R)*An.hp=(z-(k:R))*An.hp:=by rw [← hz]; grind
  rw [hz',ab_mul]
  have a1:ab (z-(k:R))≤ofQ (1 / 2)+ofQ (1 / 1000):=by
   have e0:=ofQ_le.2 (show (0:Rat)≤1 / 1000 by decide +kernel)
   have e00:ofQ 0=0:=rfl
   exact ab_le.2 ⟨by grind,by grind⟩
  have a2:ab An.hp≤ofQ (1571 / 1000):=by rw [ab_of (by grind)]; exact hn.2
  rw [← ofQ_add] at a1
  have a3:=rmul_mono a1 a2 (ab_nonneg _) (by have:=ofQ_le.2 (show (0:Rat)≤1571 / 1000 by decide +kernel); exact this)
  rw [← ofQ_mul] at a3
  exact rle_trans a3 (ofQ_le.2 (by decide +kernel))
 have hR:=tuR_has hd hL (w:=p+32) (by omega) hk hr
 refine ⟨k,(tuR d (p+32) (tuH (p+32)) k 0).1,?_,hk,?_,hr⟩
 ·unfold turnsR
  rw [hf,if_pos rfl,Int.toNat_natCast]
  unfold turnsS
  rw [if_neg (by
   intro hc
   have:=(okd_size hd hc.1).2
   omega)]
  unfold turnsH turnsT
  rw [hQ,qe,if_neg (by simp),hfl]
  have hs:smallZ k=(k,true):=by unfold smallZ; rw [if_pos (by omega)]
  simp only
  rw [hs,if_neg (by simp)]
  simp only
  rw [hR.h.e,if_neg (by simp)]
 ·have:=hR.pair
  rw [show 25-((p+32:Nat):Int) = -7-(p:Int) by omega,show -110-((p+32:Nat):Int) = -142-(p:Int) by omega] at this
  exact this
theorem icast_add (a b:Int):((a+b:Int):R)=(a:R)+(b:R):=by show ofQ ((a+b:Int):Rat)=ofQ (a:Rat)+ofQ (b:Rat); rw [← ofQ_add,Rat.intCast_add]
theorem icast_mul (a b:Int):((a*b:Int):R)=(a:R)*(b:R):=by show ofQ ((a*b:Int):Rat)=ofQ (a:Rat)*ofQ (b:Rat); rw [← ofQ_mul,Rat.intCast_mul]
theorem icast_nat (n:Nat):(((n:Int):Int):R)=(n:R):=by show ofQ (((n:Int):Int):Rat)=ofQ (n:Rat); rw [Rat.intCast_natCast]
theorem S_four (x:R):S (x+4*An.hp)=S x:=by
 have e:x+4*An.hp=x+An.hp+An.hp+An.hp+An.hp:=by grind
 rw [e,S_hp,C_hp,S_hp,C_hp]; grind
theorem S_per (x:R) (n:Nat):S (x+4*(n:R)*An.hp)=S x:=by
 induction n with
 | zero=>rw [show ((0:Nat):R)=0 from rfl,show x+4*0*An.hp=x by grind]
 | succ n ih=>
  have e1:((n+1:Nat):R)=(n:R)+1:=by grind
  rw [e1,show x+4*((n:R)+1)*An.hp=(x+4*(n:R)*An.hp)+4*An.hp by grind,S_four,ih]
noncomputable def turnV (x:R) (k:Int):R:=if k % 2=0 then (if k / 2 % 2=0 then S x else -S x) else (if k / 2 % 2=0 then C x else -C x)
theorem turnV_four (x:R) (k:Int) (n:Nat):turnV x (k+4*(n:Int))=turnV x k:=by
 unfold turnV
 rw [show (k+4*(n:Int)) % 2=k % 2 by omega,show (k+4*(n:Int)) / 2 % 2=k / 2 % 2 by omega]
theorem S_turn (x:R) (k:Int):S (x+(k:R)*An.hp)=turnV x k:=by
 obtain ⟨q,r,hr,hk⟩:∃ (q r:Nat),r<4∧k+4*(k.natAbs:Int)=4*(q:Int)+(r:Int):=⟨(k+4*(k.natAbs:Int)).toNat / 4,(k+4*(k.natAbs:Int)).toNat % 4,by omega,by omega⟩
 have e1:(k:R)+4*((k.natAbs:Nat):R)=4*(q:R)+(r:R):=by
  have h:(((k+4*(k.natAbs:Int):Int)):R)=((4*(q:Int)+(r:Int):Int):R):=by rw [hk]
  rw [icast_add,icast_mul,icast_nat,icast_add,icast_mul,icast_nat,icast_nat] at h
  exact h
 rw [← turnV_four x k k.natAbs,hk,show 4*(q:Int)+(r:Int)=(r:Int)+4*(q:Int) by omega,turnV_four,← S_per (x+(k:R)*An.hp) k.natAbs]
 have e2:x+(k:R)*An.hp+4*((k.natAbs:Nat):R)*An.hp=(x+(r:R)*An.hp)+4*(q:R)*An.hp:=by grind
 rw [e2,S_per]
 unfold turnV
 rcases (show r=0∨r=1∨r=2∨r=3 by omega) with h | h | h | h
 ·subst h
  rw [show ((0:Nat):R)=0 from rfl,show x+0*An.hp=x by grind]; simp
 ·subst h
  rw [show ((1:Nat):R)=1 from rfl,show x+1*An.hp=x+An.hp by grind,S_hp]; simp
 ·subst h
  rw [show ((2:Nat):R)=2 from rfl,show x+2*An.hp=x+An.hp+An.hp by grind,S_hp,C_hp]; simp
 ·subst h
  rw [show ((3:Nat):R)=3 from rfl,show x+3*An.hp=x+An.hp+An.hp+An.hp by grind,S_hp,C_hp,S_hp]; simp
theorem si_far {w:Nat} (hw:w≤92) {L:Int} (hL : -202≤L∧L≤0) : -26100≤L-(w+20-2*L)*((w / 2+4:Nat):Int):=by
 have:(w+20-2*L)*((w / 2+4:Nat):Int)≤516*((50:Nat):Int):=Int.mul_le_mul (by omega) (by omega) (by omega) (by omega)
 omega
theorem doneS_has {r:I × Int} {x:R} {L H:Int} (h:Has r x L H) {p:Nat} (hp:1≤p) (hL : -60000≤L) (hH:H≤60000):Has (doneS p r) x L H:=by
 unfold doneS
 rw [h.e,st_zero]
 exact has_out h hp hL hH
theorem quS_has {k:Int} {y:I} {x:R} {L:Int} (hy:Has (y,0) x L 0) {p:Nat} (hp:2≤p∧p≤60) (hL : -202≤L∧L≤0):Has (quS k y p) (turnV x k) (-26100) 700:=by
 have h1:Has (st 0 zI (sinI (p+32) y)) (S x) (-26100) 700:=by
  rw [st_zero]
  exact sin_has (by omega) hy.ok hy.m (in_box hy.ok) hL.2 (si_far (by omega) hL) (by omega)
 have h2:Has (st 0 zI (cosI (p+32) y)) (C x) (-26100) 700:=by
  rw [st_zero]
  exact cos_has (by omega) hy.ok hy.m (in_box hy.ok) hL.2 (si_far (by omega) hL) (by omega)
 unfold quS turnV
 simp only
 by_cases h0:k % 2=0
 ·rw [if_pos h0,if_pos h0]
  by_cases h3:k / 2 % 2=0
  ·rw [if_pos h3,if_pos h3]; exact doneS_has h1 (by omega) (by omega) (by omega)
  ·rw [if_neg h3,if_neg h3,h1.e]; exact doneS_has (has_neg h1) (by omega) (by omega) (by omega)
 ·rw [if_neg h0,if_neg h0]
  by_cases h3:k / 2 % 2=0
  ·rw [if_pos h3,if_pos h3]; exact doneS_has h2 (by omega) (by omega) (by omega)
  ·rw [if_neg h3,if_neg h3,h2.e]; exact doneS_has (has_neg h2) (by omega) (by omega) (by omega)
theorem sinR_has {d:D} {L:Int} (hd:Okd d L 10) (hL : -110≤L∧L≤0) {p:Nat} (hp:8≤p∧p≤60) {m:Int} (hm:0≤m∧m≤10):Has (sinR d p m) (S (ofQ (val d)+(m:R)*An.hp)) (-26100) 700:=by
 obtain ⟨k,y,e,hk,hy,-⟩:=turnsR_has hd hL (p:=p) (by omega)
 have h2:(2:Nat) ^ 12=4096:=by decide
 unfold sinR
 rw [e,if_neg (by simp),w64 (by simp only; omega) (by simp only; omega),Int.toNat_natCast]
 refine (quS_has (k:=k+m) hy.h (by omega) (by omega)).eq ?_
 rw [← S_turn,icast_add]
 congr 1
 grind
theorem place10_eq {x:AD} (hx:gAD x) {up:Int} (hu : -1000≤up∧up≤1000):∃ d,l10_place x up=some (dy d)∧Okd d (up-64) up:=by
 have hd:=g_dig hx
 have hb:=mag_two hx 2
 obtain ⟨d,h1,h2,-⟩:=make_val (k:=64) hb (e:=up-64) (by omega)
 refine ⟨d,?_,h2.mono (Int.le_refl _) (by omega)⟩
 unfold l10_place
 have hm:=mag_mn hx (k:=2)
 rw [show ((2:Nat):Int)=2 by rfl] at hm
 rw [hm,if_pos (by omega),Int.toNat_natCast,rMake_eq (dig_take hd _) (by rw [List.length_take]; omega)]
 simp only [obn]
 rw [w64 (by omega) (by omega),rMake5_eq (by unfold SZ; omega) (by omega),h1]
 rfl
theorem prec10_eq {a:Int} (h : -9223372036854775808≤a∧a≤9223372036854775807):∃ p:Nat,l10_prec a=some (p:Int)∧8≤p∧p≤60:=by
 unfold l10_prec l10_prec_j1
 have key:∀ n:Nat,∃ p:Nat,(some (IntKind.i64.wrap (8+((n:Int).tmod 53))):Option Int)=some (p:Int)∧8≤p∧p≤60:=by
  intro n
  rw [show (53:Int)=((53:Nat):Int) by rfl,tmodn,w64 (by omega) (by omega)]
  exact ⟨8+n % 53,by congr 1,by omega,by omega⟩
 by_cases h0:a<0
 ·rw [if_pos h0,wrap_low a (by omega)]
  exact key _
 ·rw [if_neg h0]
  have:=key a.toNat
  rwa [Int.toNat_of_nonneg (by omega)] at this
theorem sHalfPi {w:Nat} (hw:20≤w∧w≤200):∃ a b,konst_Pi 0 (w:Int)=some (iv a,0)∧cv_Scale (iv a) (-1) 0 (w:Int)=some (iv b,0)∧Has (b,0) An.hp (-(w:Int)) 1:=by
 obtain ⟨h1,-⟩:=tuH_has hw
 have e0:=Pi_eq (p:=w) (by omega) 0
 have z:=(pi_fine hw).1.h.e
 have e1:=pScale (SI_pi (p:=w) (by omega) 0) (n:=-1) (by omega) (piS w 0).2 (w:Int)
 have hh:scS (piS w 0).1 (-1) (piS w 0).2=tuH w:=rfl
 rw [hh,h1.h.e,z] at e1
 rw [z] at e0
 exact ⟨_,_,e0,e1,h1.h.pair⟩
theorem lnK_val {d:D} (h0:0<d.m):1≤val d*p2 (-lnK d)∧val d*p2 (-lnK d)<2∧val d*p2 (-lnK d)=(d.m:Rat)*p2 (1-(blen d.m.natAbs:Nat)):=by
 have e:val d*p2 (-lnK d)=(d.m:Rat)*p2 (1-(blen d.m.natAbs:Nat)):=by
  show (d.m:Rat)*p2 d.e*p2 (-lnK d)=_
  rw [Rat.mul_assoc,← p2_add]
  congr 2
  unfold lnK; omega
 have hn:d.m.natAbs≠0:=by omega
 have b1:=blen_le hn
 have b2:=blen_lt d.m.natAbs
 have bp:=blen_pos hn
 have hp:=p2_pos (1-((blen d.m.natAbs:Nat):Int))
 have c1:((2 ^ (blen d.m.natAbs-1):Nat):Rat)≤(d.m:Rat):=by
  have:=intCast_le (show ((2 ^ (blen d.m.natAbs-1):Nat):Int)≤d.m by omega)
  rwa [Rat.intCast_natCast] at this
 have c2:(d.m:Rat)<((2 ^ blen d.m.natAbs:Nat):Rat):=by
  have:=intCast_lt (show d.m<((2 ^ blen d.m.natAbs:Nat):Int) by omega)
  rwa [Rat.intCast_natCast] at this
 have f1:p2 ((blen d.m.natAbs-1:Nat):Int)*p2 (1-(blen d.m.natAbs:Nat))=1:=by
  rw [← p2_add,show ((blen d.m.natAbs-1:Nat):Int)+(1-((blen d.m.natAbs:Nat):Int))=0 by omega,p2_zero]
 have f2:p2 ((blen d.m.natAbs:Nat):Int)*p2 (1-(blen d.m.natAbs:Nat))=2:=by
  rw [← p2_add,show ((blen d.m.natAbs:Nat):Int)+(1-((blen d.m.natAbs:Nat):Int))=1 by omega]; rfl
 rw [p2_nat] at f1 f2
 have g1:=Rat.mul_le_mul_of_nonneg_right c1 (Rat.le_of_lt hp)
 have g2:=Rat.mul_lt_mul_of_pos_right c2 hp
 rw [f1] at g1
 rw [f2] at g2
 rw [e]
 exact ⟨g1,g2,rfl⟩
theorem okd_abs {d:D} {L H:Int} (h:Okd d L H):Okd (absD d) L H∧(val (absD d)=val d∨val (absD d) = -val d):=by
 rcases Int.lt_or_le d.m 0 with k | k
 ·rw [← neg_abs k]; exact ⟨h.neg,Or.inr (val_neg d)⟩
 ·rw [← pos_abs (show ¬d.m<0 by omega)]; exact ⟨h,Or.inl rfl⟩
theorem lnK_pow {d:D} (h0:0<d.m):p2 (lnK d)≤val d∧val d<p2 (lnK d+1):=by
 obtain ⟨v1,v2,-⟩:=lnK_val h0
 have hp:=p2_pos (lnK d)
 have v0:val d*p2 (-lnK d)*p2 (lnK d)=val d:=by
  have:=p2_back (-lnK d) (val d)
  rwa [Int.neg_neg] at this
 have g1:=Rat.mul_le_mul_of_nonneg_right v1 (Rat.le_of_lt hp)
 have g2:=Rat.mul_lt_mul_of_pos_right v2 hp
 rw [v0] at g1 g2
 rw [p2_add,show p2 1=2 from rfl]
 exact ⟨by grind,by grind⟩
theorem fitB_of {d:D} {p:Nat} (hp:2≤p∧p≤336) (hb:blen d.m.natAbs≤400):fitB d (p:Int)=true:=by
 unfold fitB
 rw [decide_eq_true (show 2≤(p:Int) by omega),decide_eq_true (show (p:Int)≤336 by omega),decide_eq_true hb]; rfl
theorem quot_near2 {q1 q2 h1 h2 a1 a2 w1 w2:Rat} (k1:1≤h1) (e1:q1*h1=a1) (e2:q2*h2=a2) (hq : -1≤q2∧q2≤1) (da : -w1≤a1-a2∧a1-a2≤w1) (dh : -w2≤h1-h2∧h1-h2≤w2):q1-q2≤w1+w2:=by
 have e:(q1-q2)*h1=a1-a2+q2*(h2-h1):=by grind
 have hm:=(mul_abs_le (x:=q2) (y:=h2-h1) hq (⟨by grind,by grind⟩ : -w2≤h2-h1∧h2-h1≤w2)).2
 rcases Rat.le_total (a:=q1-q2) (b:=0) with k | k
 ·grind
 ·have:=Rat.mul_le_mul_of_nonneg_right k1 k
  grind
theorem quo_width {sl sh tl th u v w1 w2:Rat} (mu:u=sl / tl∨u=sl / th∨u=sh / tl∨u=sh / th) (mv:v=sl / tl∨v=sl / th∨v=sh / tl∨v=sh / th) (hs:sl≤sh) (ht:tl≤th) (h1:3 / 2≤tl) (s3:sh-sl≤w1) (t3:th-tl≤w2) (bo : -1≤u∧u≤1):v-u≤w1+w2:=by
 have f1:=mul_of_div (a:=sl) (b:=tl) (by grind)
 have f2:=mul_of_div (a:=sl) (b:=th) (by grind)
 have f3:=mul_of_div (a:=sh) (b:=tl) (by grind)
 have f4:=mul_of_div (a:=sh) (b:=th) (by grind)
 generalize sl / tl=q1 at *
 generalize sl / th=q2 at *
 generalize sh / tl=q3 at *
 generalize sh / th=q4 at *
 rcases mu with k | k | k | k<;>rcases mv with j | j | j | j<;>rw [j,k]<;>rw [k] at bo<;>clear j k<;>first | exact quot_near2 (by grind) f1 f1 bo ⟨by grind,by grind⟩ ⟨by grind,by grind⟩ | exact quot_near2 (by grind) f1 f2 bo ⟨by grind,by grind⟩ ⟨by grind,by grind⟩ | exact quot_near2 (by grind) f1 f3 bo ⟨by grind,by grind⟩ ⟨by grind,by grind⟩ | exact quot_near2 (by grind) f1 f4 bo ⟨by grind,by grind⟩ ⟨by grind,by grind⟩ | exact quot_near2 (by grind) f2 f1 bo ⟨by grind,by grind⟩ ⟨by grind,by grind⟩ | exact quot_near2 (by grind) f2 f2 bo ⟨by grind,by grind⟩ ⟨by grind,by grind⟩ | exact quot_near2 (by grind) f2 f3 bo ⟨by grind,by grind⟩ ⟨by grind,by grind⟩ | exact quot_near2 (by grind) f2 f4 bo ⟨by grind,by grind⟩ ⟨by grind,by grind⟩ | exact quot_near2 (by grind) f3 f1 bo ⟨by grind,by grind⟩ ⟨by grind,by grind⟩ | exact quot_near2 (by grind) f3 f2 bo ⟨by grind,by grind⟩ ⟨by grind,by grind⟩ | exact quot_near2 (by grind) f3 f3 bo ⟨by grind,by grind⟩ ⟨by grind,by grind⟩ | exact quot_near2 (by grind) f3 f4 bo ⟨by grind,by grind⟩ ⟨by grind,by grind⟩ | exact quot_near2 (by grind) f4 f1 bo ⟨by grind,by grind⟩ ⟨by grind,by grind⟩ | exact quot_near2 (by grind) f4 f2 bo ⟨by grind,by grind⟩ ⟨by grind,by grind⟩ | exact quot_near2 (by grind) f4 f3 bo ⟨by grind,by grind⟩ ⟨by grind,by grind⟩ | exact quot_near2 (by grind) f4 f4 bo ⟨by grind,by grind⟩ ⟨by grind,by grind⟩
theorem hw_turn {p:Nat} (hp:2≤p∧p≤400) {t q:I} {x y z:R} {L Lq:Int} {wt wq:Rat} (ht:HasW (t,0) x L 0 wt) (hq:HasW (q,0) y Lq 0 wq) {n k:Nat} (hk:k≤60) (h0:0<n) (hn:n≤2 ^ k) {j:Int} (hj:p2 j≤(n:Rat)) (hj0:0≤j) (hz:z*(n:R) = -(x*y)) (hL : -60000≤L+Lq-k-p-2):HasW (turnS p t q (n:Int) 0) z (L+Lq-k-p-2) 0 ((wq+wt+2*p2 (-(p:Int)))*p2 (-j)+2*p2 (-(p:Int))):=by
 have h1:=hw_mul (p:=p) ht hq (by omega) (by omega) (by omega)
 have h2:=h1.mono (Int.le_refl _) (show (0:Int)+0≤0 by omega) (w':=wq+wt+2*p2 (-(p:Int))) (by rw [p2_zero,show (0:Int)+0-(p:Int) = -(p:Int) by omega]; grind)
 have h3:=hw_div_n (p:=p) (z:=-z) h2 (n:=n) (k:=k) hk h0 hn hj (by grind) (by omega) (by omega) (by omega)
 have h4:=hw_neg h3
 unfold turnS
 rw [h1.h.e,show (iS (n:Int) 0).2=0 from rfl,h3.h.e]
 refine (h4.mono (Int.le_refl _) (by omega) ?_).eq (by grind)
 have:=p2_le (show (0:Int)-j-(p:Int) ≤ -(p:Int) by omega)
 grind
theorem psum_four {a:Nat→R} (h:∀ n,ab (a n)≤rf n) {x:R} (hx:ab x≤1) (k:Nat):ab (psum a x k)≤ofQ 4:=by
 have h1:=psum_tail (PB.two h) hf_geo (x:=x) (by have:=hf_two; grind) 0 k
 have e1:psum a x 0=0:=rfl
 rw [e1,show 0+k=k by omega,rpow_zero] at h1
 have h2:psum a x k-0=psum a x k:=by grind
 rw [h2] at h1
 have h3:=pow_nonneg hf_geo.h0 k
 have h4:ofQ 4=(4:R):=rfl
 rw [h4]
 grind
theorem sin_w {p:Nat} (hp:30≤p∧p≤112) {y:I} {x:R} {L:Int} {wy:Rat} (hy:HasW (y,0) x L 0 wy) (hwy:121*wy≤1) (hL0:L≤0) {M:Int} (hM:M≤L-(p+20-2*L)*(p / 2+4:Nat)) (hM' : -60000≤M):HasW (sinI p y) (S x) M 3 (121*wy+1500*p2 (-(p:Int))):=by
 have hpp:=p2_pos (-(p:Int))
 have q3:p2 (3-(p:Int))=8*p2 (-(p:Int)):=by rw [show 3-(p:Int)=3 + -(p:Int) by omega,p2_add]; rfl
 have q0:p2 (0-(p:Int))=p2 (-(p:Int)):=by rw [show 0-(p:Int) = -(p:Int) by omega]
 have q8:p2 (-(p:Int))≤p2 (-30):=p2_le (by omega)
 have q8':p2 (-30)≤1 / 100000000:=by decide +kernel
 have p3:p2 3=8:=by decide +kernel
 have hNr:((p / 2+4:Nat):Rat)≤60:=by exact_mod_cast natCast_le (show p / 2+4≤60 by omega)
 have hi:=in_box hy.h.ok
 have hx:=box_one hi hy.h.m
 have hcN:=ser_lim (c:=p+20-2*L) (N:=p / 2+4) (by omega) (by omega)
 have hw0:0≤wy:=by have:=hy.w; have:=hy.h.ok.le; grind
 have hq:HasW (mS p y y 0) (x*x) (L+L) 0 (2*wy+2*p2 (-(p:Int))):=(hw_mul (p:=p) hy hy (by omega) (by omega) (by omega)).mono (L':=L+L) (Int.le_refl _) (show (0:Int)+0≤0 by omega) (w':=2*wy+2*p2 (-(p:Int))) (by rw [p2_zero,show (0:Int)+0-(p:Int)=0-(p:Int) by omega,q0]; grind)
 unfold sinI
 rw [if_pos hi]
 have h:=ser_wk (p:=p) (by omega) (nSin p (mS p y y 0).1) (fun i=>cs (2*i+1)*x ^ (2*i+1)) (fun i=>cs (2*i+1)*x ^ (2*i+1)) (fun i=>psum cs x (2*i+2)) (L0:=L) (c:=p+20-2*L) (Q:=3) (Hh:=0) (wt:=2*wy+8*p2 (-(p:Int))) (wp:=2*wy+8*p2 (-(p:Int))) (m:=4) (w0:=wy) (by omega) (N:=p / 2+4) (fun i=>cs_sum x i) (by grind) (by
  intro i t hiN ht
  have m1:=cmul_le (c:=p+20-2*L) (by omega) (show i+1≤p / 2+4 by omega)
  have e1:=cmul_succ (p+20-2*L) i
  have hb:2*(i+1)*(2*(i+1)+1)≤2 ^ 18:=by
   have:2*(i+1)*(2*(i+1)+1)≤408*409:=Nat.mul_le_mul (by omega) (by omega)
   omega
  have h2:2≤2*(i+1)*(2*(i+1)+1):=Nat.mul_le_mul (show 2≤2*(i+1) by omega) (show 1≤2*(i+1)+1 by omega)
  have h4:=hw_turn (p:=p) (Lq:=L+L) (by omega) ht hq.pair (n:=2*(i+1)*(2*(i+1)+1)) (k:=18) (by omega) (by omega) hb (j:=1) (by rw [show p2 1=((2:Nat):Rat) from rfl]; exact natCast_le h2) (by omega) (cs_two x (2*i+1)) (by omega)
  have h5:HasW (turnS p t (mS p y y 0).1 ((2*(i+1)*(2*(i+1)+1):Nat):Int) 0) (cs (2*(i+1)+1)*x ^ (2*(i+1)+1)) (L-(p+20-2*L)*(i+1:Nat)) 0 (2*wy+8*p2 (-(p:Int))):=h4.mono (by omega) (by omega) (by rw [show p2 (-1)=1 / 2 by decide +kernel]; grind)
  exact ⟨h5.h.e,h5.pair,h5.pair⟩) (fun i=>psum_four cs_ab hx _) (by
   rw [q3,p3]
   generalize ((p / 2+4:Nat):Rat)=N at *
   have:=Rat.mul_le_mul_of_nonneg_right hNr (show 0≤2*wy+8*p2 (-(p:Int))+2*(8*p2 (-(p:Int))) by grind)
   generalize p2 (-(p:Int))=ep at *
   clear hq hy
   grind) (by omega) (by omega) (by omega) (p / 2+4) 0 y y (by omega)
  ((hy.mono (by omega) (by omega) (by have:((0:Nat):Rat)=0:=rfl; rw [this]; grind)).eq (by
   show x=0+cs 0*x ^ 0+cs 1*x ^ (0+1)
   have h1:=rf_succ 0
   rw [rpow_succ,rpow_zero,cs,cs,show sS 0=0 from rfl,show sS 1=1 from rfl]
   rw [show ((0+1:Nat):R)=1 from rfl,show rf 0=1 from rfl] at h1
   grind))
  ((hy.mono (by omega) (by omega) (by grind)).eq (by
   show x=cs 1*x ^ (0+1)
   have h1:=rf_succ 0
   rw [rpow_succ,rpow_zero,cs,show sS 1=1 from rfl]
   rw [show ((0+1:Nat):R)=1 from rfl,show rf 0=1 from rfl] at h1
   grind))
 rw [hq.h.e]
 unfold finS
 rw [h.h.e]
 have h5:=hw_wide (p:=p) (K:=3) (m:=4) (h.mono (L':=M) (H':=3) (by omega) (by omega) Rat.le_refl) (d:=⟨1,-(p:Int)⟩) (Okd_half (by omega) (by omega) (by omega)) (y:=S x) (by
  rw [val_half,p2_neg_nat]
  refine rle_trans (tail_two cs_ab hx _) ?_
  have h1:=hf_le (show p+2≤2*(p / 2+4)+2 by omega)
  have:=four_hf p
  grind) (psum_four cs_ab hx _) (by
   rw [val_half,p3,q3]
   generalize ((p / 2+4:Nat):Rat)=N at *
   have:=Rat.mul_le_mul_of_nonneg_right hNr (show 0≤2*wy+8*p2 (-(p:Int))+2*(8*p2 (-(p:Int))) by grind)
   generalize p2 (-(p:Int))=ep at *
   clear h hq hy
   grind) (by omega) (by omega) (by omega)
 refine h5.mono (Int.le_refl _) (Int.le_refl _) ?_
 rw [val_half,q3]
 generalize ((p / 2+4:Nat):Rat)=N at *
 have:=Rat.mul_le_mul_of_nonneg_right hNr (show 0≤2*wy+8*p2 (-(p:Int))+2*(8*p2 (-(p:Int))) by grind)
 clear h5 h hq hy
 generalize p2 (-(p:Int))=ep at *
 grind
theorem cos_w {p:Nat} (hp:30≤p∧p≤112) {y:I} {x:R} {L:Int} {wy:Rat} (hy:HasW (y,0) x L 0 wy) (hwy:121*wy≤1) (hL0:L≤0) {M:Int} (hM:M≤L-(p+20-2*L)*(p / 2+4:Nat)) (hM' : -60000≤M):HasW (cosI p y) (C x) M 3 (121*wy+1500*p2 (-(p:Int))):=by
 have hpp:=p2_pos (-(p:Int))
 have q3:p2 (3-(p:Int))=8*p2 (-(p:Int)):=by rw [show 3-(p:Int)=3 + -(p:Int) by omega,p2_add]; rfl
 have q0:p2 (0-(p:Int))=p2 (-(p:Int)):=by rw [show 0-(p:Int) = -(p:Int) by omega]
 have q8:p2 (-(p:Int))≤p2 (-30):=p2_le (by omega)
 have q8':p2 (-30)≤1 / 100000000:=by decide +kernel
 have p3:p2 3=8:=by decide +kernel
 have hNr:((p / 2+4:Nat):Rat)≤60:=by exact_mod_cast natCast_le (show p / 2+4≤60 by omega)
 have hi:=in_box hy.h.ok
 have hx:=box_one hi hy.h.m
 have hcN:=ser_lim (c:=p+20-2*L) (N:=p / 2+4) (by omega) (by omega)
 have hw0:0≤wy:=by have:=hy.w; have:=hy.h.ok.le; grind
 have hq:HasW (mS p y y 0) (x*x) (L+L) 0 (2*wy+2*p2 (-(p:Int))):=(hw_mul (p:=p) hy hy (by omega) (by omega) (by omega)).mono (L':=L+L) (Int.le_refl _) (show (0:Int)+0≤0 by omega) (w':=2*wy+2*p2 (-(p:Int))) (by rw [p2_zero,show (0:Int)+0-(p:Int)=0-(p:Int) by omega,q0]; grind)
 unfold cosI
 rw [if_pos hi]
 have i1:HasW (intI 1,0) (1:R) 0 0 0:=hw_int (n:=1) (K:=0) (by omega) (by decide)
 have e0:cco 0*x ^ 0=1:=by rw [rpow_zero,cco,show sC 0=1 from rfl,show rf 0=1 from rfl]; grind
 have h:=ser_wk (p:=p) (by omega) (nCos p (mS p y y 0).1) (fun i=>cco (2*i)*x ^ (2*i)) (fun i=>cco (2*i)*x ^ (2*i)) (fun i=>psum cco x (2*i+1)) (L0:=L) (c:=p+20-2*L) (Q:=3) (Hh:=0) (wt:=2*wy+8*p2 (-(p:Int))) (wp:=2*wy+8*p2 (-(p:Int))) (m:=4) (w0:=wy) (by omega) (N:=p / 2+4) (fun i=>cc_sum x i) (by grind) (by
  intro i t hiN ht
  have m1:=cmul_le (c:=p+20-2*L) (by omega) (show i+1≤p / 2+4 by omega)
  have e1:=cmul_succ (p+20-2*L) i
  have en:(2*(i+1)-1)*2*(i+1)=(2*i+1)*(2*i+2):=by rw [show 2*(i+1)-1=2*i+1 by omega,Nat.mul_assoc,show 2*(i+1)=2*i+2 by omega]
  have hb:(2*(i+1)-1)*2*(i+1)≤2 ^ 18:=by
   have:(2*i+1)*(2*i+2)≤407*408:=Nat.mul_le_mul (by omega) (by omega)
   omega
  have h2:1*2≤(2*i+1)*(2*i+2):=Nat.mul_le_mul (by omega) (by omega)
  have h4:=hw_turn (p:=p) (Lq:=L+L) (by omega) ht hq.pair (n:=(2*(i+1)-1)*2*(i+1)) (k:=18) (by omega) (by omega) hb (j:=1) (by rw [show p2 1=((2:Nat):Rat) from rfl]; exact natCast_le (by omega)) (by omega) (by rw [en]; exact cc_two x (2*i)) (by omega)
  have h5:HasW (turnS p t (mS p y y 0).1 (((2*(i+1)-1)*2*(i+1):Nat):Int) 0) (cco (2*(i+1))*x ^ (2*(i+1))) (L-(p+20-2*L)*(i+1:Nat)) 0 (2*wy+8*p2 (-(p:Int))):=h4.mono (by omega) (by omega) (by rw [show p2 (-1)=1 / 2 by decide +kernel]; grind)
  exact ⟨h5.h.e,h5.pair,h5.pair⟩) (fun i=>psum_four cc_ab hx _) (by
   rw [q3,p3]
   generalize ((p / 2+4:Nat):Rat)=N at *
   have:=Rat.mul_le_mul_of_nonneg_right hNr (show 0≤2*wy+8*p2 (-(p:Int))+2*(8*p2 (-(p:Int))) by grind)
   generalize p2 (-(p:Int))=ep at *
   clear hq hy
   grind) (by omega) (by omega) (by omega) (p / 2+4) 0 (intI 1) (intI 1) (by omega)
  ((i1.mono (by omega) (by omega) (by have:((0:Nat):Rat)=0:=rfl; rw [this]; grind)).eq (by
   show 1=0+cco 0*x ^ 0
   rw [e0]; grind))
  ((i1.mono (by omega) (by omega) (by grind)).eq e0.symm)
 rw [hq.h.e,show (iS 1 0).1=intI 1 from rfl]
 unfold finS
 rw [h.h.e]
 have h5:=hw_wide (p:=p) (K:=3) (m:=4) (h.mono (L':=M) (H':=3) (by omega) (by omega) Rat.le_refl) (d:=⟨1,-(p:Int)⟩) (Okd_half (by omega) (by omega) (by omega)) (y:=C x) (by
  rw [val_half,p2_neg_nat]
  refine rle_trans (tail_two cc_ab hx _) ?_
  have h1:=hf_le (show p+2≤2*(p / 2+4)+1 by omega)
  have:=four_hf p
  grind) (psum_four cc_ab hx _) (by
   rw [val_half,p3,q3]
   generalize ((p / 2+4:Nat):Rat)=N at *
   have:=Rat.mul_le_mul_of_nonneg_right hNr (show 0≤2*wy+8*p2 (-(p:Int))+2*(8*p2 (-(p:Int))) by grind)
   generalize p2 (-(p:Int))=ep at *
   clear h hq hy
   grind) (by omega) (by omega) (by omega)
 refine h5.mono (Int.le_refl _) (Int.le_refl _) ?_
 rw [val_half,q3]
 generalize ((p / 2+4:Nat):Rat)=N at *
 have:=Rat.mul_le_mul_of_nonneg_right hNr (show 0≤2*wy+8*p2 (-(p:Int))+2*(8*p2 (-(p:Int))) by grind)
 clear h5 h hq hy
 generalize p2 (-(p:Int))=ep at *
 grind
theorem S_one (x:R):ab (S x)≤ofQ 1∧ab (C x)≤ofQ 1:=by
 have h:=SC_one x
 have key:∀ a b:R,a*a+b*b=1→ab a≤ofQ 1:=by
  intro a b h
  have e1:ofQ 1=(1:R):=rfl
  have h2:=sq_nonneg b
  rw [e1]
  rcases rle_total (ab a) 1 with k | k
  ·exact k
  ·have h3:=rmul_mono k k (by have:=rzero_lt_one; grind) (by have:=ab_nonneg a; exact this)
   have h4:ab a*ab a=a*a:=by rw [← ab_mul,ab_of (sq_nonneg a)]
   rw [h4] at h3
   have h5:ab a*ab a≤1:=by rw [h4]; grind
   have h6:=rmul_le k (ab_nonneg a)
   grind
 exact ⟨key _ _ h,key _ (S x) (by grind)⟩
theorem done_w {r:I × Int} {v:R} {L H:Int} {W:Rat} {p:Nat} (hp:8≤p) (h:HasW r v L H W) (hv:ab v≤ofQ 1) (hW:W≤p2 (-(p:Int))) (hL : -60000≤L) (hH:H≤60000):val (doneS p r).1.hi-val (doneS p r).1.lo≤p2 (3-(p:Int)):=by
 have e8:p2 (-(p:Int))≤p2 (-8):=p2_le (by omega)
 rw [show p2 (-8)=1 / 256 by decide +kernel] at e8
 have pp:=p2_pos (-(p:Int))
 have q:=h.ends hv
 have hle:=h.h.ok.le
 unfold doneS
 rw [h.h.e,st_zero]
 obtain ⟨c,e,o,en⟩:=outI_ok h.h.ok (p:=p) (by omega) hL hH
 rw [e]
 have b1:B 1 (val r.1.lo):=by unfold B; rw [show p2 1=2 from rfl]; exact ⟨by grind,by grind⟩
 have b2:B 1 (val r.1.hi):=by unfold B; rw [show p2 1=2 from rfl]; exact ⟨by grind,by grind⟩
 have w:=enc_width en b1 b2
 have q1:p2 (1-(p:Int))=2*p2 (-(p:Int)):=by rw [show 1-(p:Int)=1 + -(p:Int) by omega,p2_add]; rfl
 have q3:p2 (3-(p:Int))=8*p2 (-(p:Int)):=by rw [show 3-(p:Int)=3 + -(p:Int) by omega,p2_add]; rfl
 have hw:=h.w
 rw [q1] at w
 rw [q3]
 show val c.hi-val c.lo≤_
 grind
theorem quS_w {k:Int} {y:I} {x:R} {L:Int} {p:Nat} (hy:HasW (y,0) x L 0 (p2 (-7-(p:Int)))) (hp:8≤p∧p≤60) (hL : -202≤L∧L≤0):val (quS k y p).1.hi-val (quS k y p).1.lo≤p2 (3-(p:Int)):=by
 have q7:p2 (-(p:Int))=128*p2 (-7-(p:Int)):=by rw [show -(p:Int)=7+(-7-(p:Int)) by omega,p2_add]; rfl
 have q25:p2 (-7-(p:Int))=33554432*p2 (-((p+32:Nat):Int)):=by rw [show -7-(p:Int)=25 + -((p+32:Nat):Int) by omega,p2_add]; rfl
 have e8:p2 (-(p:Int))≤p2 (-8):=p2_le (by omega)
 rw [show p2 (-8)=1 / 256 by decide +kernel] at e8
 have pp:=p2_pos (-((p+32:Nat):Int))
 have hW:121*p2 (-7-(p:Int))+1500*p2 (-((p+32:Nat):Int))≤p2 (-(p:Int)):=by rw [q7,q25]; grind
 have h121:121*p2 (-7-(p:Int))≤1:=by grind
 have h1:=sin_w (p:=p+32) (by omega) hy h121 hL.2 (M:=-26100) (si_far (by omega) hL) (by omega)
 have h2:=cos_w (p:=p+32) (by omega) hy h121 hL.2 (M:=-26100) (si_far (by omega) hL) (by omega)
 have o:=S_one x
 have nab:∀ v:R,ab v≤ofQ 1→ab (-v)≤ofQ 1:=fun v h=>by
  have:=ab_le.1 h
  exact ab_le.2 ⟨by grind,by grind⟩
 unfold quS
 simp only
 rw [st_zero,st_zero]
 by_cases h0:k % 2=0
 ·rw [if_pos h0]
  by_cases h3:k / 2 % 2=0
  ·rw [if_pos h3]; exact done_w hp.1 h1 o.1 hW (by omega) (by omega)
  ·rw [if_neg h3,h1.h.e]; exact done_w hp.1 (hw_neg h1) (nab _ o.1) hW (by omega) (by omega)
 ·rw [if_neg h0]
  by_cases h3:k / 2 % 2=0
  ·rw [if_pos h3]; exact done_w hp.1 h2 o.2 hW (by omega) (by omega)
  ·rw [if_neg h3,h2.h.e]; exact done_w hp.1 (hw_neg h2) (nab _ o.2) hW (by omega) (by omega)
def Far (l:Int) (x:Rat):Prop:=x=0∨p2 l≤x∨x ≤ -p2 l
theorem Far.neg {l:Int} {x:Rat} (h:Far l x):Far l (-x):=by
 rcases h with h | h | h
 ·left; grind
 ·right; right; grind
 ·right; left; grind
structure HasF (r:I × Int) (x:R) (l:Int) (p:Nat) (H:Int):Prop where
 h:Has r x (l-p) H
 lo:Far l (val r.1.lo)
 hi:Far l (val r.1.hi)
theorem HasF.pair {r:I × Int} {x:R} {l H:Int} {p:Nat} (h:HasF r x l p H):HasF (r.1,0) x l p H:=⟨h.h.pair,h.lo,h.hi⟩
theorem HasF.eq {r:I × Int} {x y:R} {l H:Int} {p:Nat} (h:HasF r x l p H) (e:x=y):HasF r y l p H:=e ▸ h
theorem Far.mono {l m:Int} {x:Rat} (h:Far l x) (k:m≤l):Far m x:=by
 have:=p2_le k
 rcases h with h | h | h
 ·exact Or.inl h
 ·right; left; grind
 ·right; right; grind
theorem HasF.mono {r:I × Int} {x:R} {l m H K:Int} {p:Nat} (h:HasF r x l p H) (k:m≤l) (hH:H≤K):HasF r x m p K:=⟨h.h.mono (by omega) hH,h.lo.mono k,h.hi.mono k⟩
theorem ofQ_split {a b c:Rat} (h:a=b+c):ofQ a=ofQ b+ofQ c:=by rw [h,ofQ_add]
theorem pair_eta {α:Type} {x:α × Int} (h:x.2=0):x=(x.1,0):=by cases x; cases h; rfl
theorem fitB_okd {d:D} {L H:Int} (h:Okd d L H) (hL : -200≤L∧L≤0) (hH:0≤H∧H≤8) {p:Nat} (hp:2≤p∧p≤98):fitB d (p:Int)=true:=by
 refine fitB_of (by omega) ?_
 by_cases h0:d.m=0
 ·rw [h0]; decide
 ·have:=okd_size h h0; omega
theorem done_of {p:Nat} {a c:I} (h:outI p a=(c,0)):doneS p (a,0)=(c,0):=by unfold doneS; rw [st_zero]; exact h
end Go.Proofs.YtjffljhmjdljeaaGreat.Gen
namespace Go.An
theorem hp_bounds:(1:R)<hp∧hp<2:=by
 have h:=pi_near
 have a:=ofQ_le.2 (show (3:Rat)≤31415926535897932384626433832794 / 10000000000000000000000000000000 by decide +kernel)
 have b:=ofQ_le.2 (show (31415926535897932384626433832796 / 10000000000000000000000000000000:Rat)≤16 / 5 by decide +kernel)
 have c:=ofQ_lt.2 (show (16 / 5:Rat)<4 by decide +kernel)
 have e3:ofQ 3=(1:R)+1+1:=by rw [← ofQ_one,← ofQ_add,← ofQ_add]; exact congrArg ofQ (by decide +kernel)
 have e4:ofQ 4=(1:R)+1+1+1:=by rw [← ofQ_one,← ofQ_add,← ofQ_add,← ofQ_add]; exact congrArg ofQ (by decide +kernel)
 have e2:(2:R)=1+1:=by grind
 have h01:=rzero_lt_one
 rw [e3] at a
 rw [e4] at c
 constructor<;>grind
theorem S_two (u:R):S (u+u)=2*(S u*C u):=by rw [S_add]; grind
theorem C_pos1 {u:R} (h:ab u<1):0<C u:=by
 have a:=C_size u
 have b:=sq_lt_one h
 grind
theorem S_pos2 {u:R} (h0:0<u) (h2:u<2):0<S u:=by
 obtain ⟨v,rfl⟩:=half_ex u
 have h01:=rzero_lt_one
 have v0:0<v:=by grind
 have v1:v<1:=by grind
 have a:=S_pos v0 v1
 have b:=C_pos1 (u:=v) (by rw [ab_of (by grind)]; exact v1)
 have m:=rmul_pos a b
 rw [S_two]
 grind
theorem C_pos {u:R} (h1 : -hp<u) (h2:u<hp):0<C u:=by
 have hb:=hp_bounds
 have key:∀ t:R,0≤t→t<hp→0<C t:=by
  intro t t0 t1
  have s:=S_pos2 (u:=hp-t) (by grind) (by grind)
  have e:S (hp-t)=C t:=by
   rw [show hp-t = -t+hp by grind,S_hp,(SC_neg t).2]
  rwa [e] at s
 rcases Classical.em (0≤u) with k | k
 ·exact key u k h2
 ·have:=key (-u) (by grind) (by grind)
  rwa [(SC_neg u).2] at this
theorem C_nn {u:R} (h1 : -hp≤u) (h2:u≤hp):0≤C u:=by
 rcases Classical.em (u=hp) with k | k
 ·rw [k,hp_eq.2]; exact rle_refl _
 ·rcases Classical.em (u = -hp) with g | g
  ·rw [g,(SC_neg hp).2,hp_eq.2]; exact rle_refl _
  ·have:=C_pos (u:=u) (by grind) (by grind); grind
theorem S_pos_pi {u:R} (h0:0<u) (h2:u<hp+hp):0<S u:=by
 obtain ⟨v,rfl⟩:=half_ex u
 have hb:=hp_bounds
 have h01:=rzero_lt_one
 have a:=S_pos2 (u:=v) (by grind) (by grind)
 have b:=C_pos (u:=v) (by grind) (by grind)
 have m:=rmul_pos a b
 rw [S_two]
 grind
theorem S_nn_pi {u:R} (h0:0≤u) (h2:u<hp+hp):0≤S u:=by
 rcases Classical.em (u=0) with k | k
 ·rw [k,S_zero]; exact rle_refl _
 ·have:=S_pos_pi (u:=u) (by grind) h2; grind
theorem S_mono {a b:R} (h1 : -hp≤a) (h2:a≤b) (h3:b≤hp):S a≤S b:=by
 obtain ⟨m,hm⟩:=half_ex (a+b)
 obtain ⟨h,hh⟩:=half_ex (b-a)
 have hb:=hp_bounds
 have h01:=rzero_lt_one
 have ea:a=m + -h:=by grind
 have eb:b=m+h:=by grind
 have c:=C_nn (u:=m) (by grind) (by grind)
 have s:=S_nn_pi (u:=h) (by grind) (by grind)
 have k:=rmul_nonneg c s
 rw [ea,eb,S_add,S_add,(SC_neg h).1,(SC_neg h).2]
 grind
theorem C_anti {a b:R} (h1:0≤a) (h2:a≤b) (h3:b≤hp):C b≤C a:=by
 obtain ⟨m,hm⟩:=half_ex (a+b)
 obtain ⟨h,hh⟩:=half_ex (b-a)
 have hb:=hp_bounds
 have h01:=rzero_lt_one
 have ea:a=m + -h:=by grind
 have eb:b=m+h:=by grind
 have c:=S_nn_pi (u:=m) (by grind) (by grind)
 have s:=S_nn_pi (u:=h) (by grind) (by grind)
 have k:=rmul_nonneg c s
 rw [ea,eb,C_add,C_add,(SC_neg h).1,(SC_neg h).2]
 grind
structure Tan (x a:R):Prop where
 lo : -hp<a
 hi:a<hp
 t:S a=x*C a
theorem Tan.sub {x y a b:R} (h:Tan x a) (k:Tan y b):S (b-a)=(y-x)*(C a*C b):=by
 rw [show b-a=b + -a by grind,S_add,(SC_neg a).1,(SC_neg a).2,h.t,k.t]; grind
theorem Tan.lt {x y a b:R} (h:Tan x a) (k:Tan y b) (hab:a<b):x<y:=by
 have a1:=h.lo; have a2:=h.hi; have b1:=k.lo; have b2:=k.hi
 have s:=S_pos_pi (u:=b-a) (by grind) (by grind)
 rw [h.sub k] at s
 have c:=rmul_pos (C_pos a1 a2) (C_pos b1 b2)
 rcases Classical.em (x<y) with g | g
 ·exact g
 ·have:=rmul_nonneg (show 0≤x-y by grind) (show 0≤C a*C b by grind)
  grind
theorem Tan.mono {x y a b:R} (h:Tan x a) (k:Tan y b) (hxy:x≤y):a≤b:=by
 rcases Classical.em (a≤b) with g | g
 ·exact g
 ·have:=k.lt h (show b<a by grind); grind
theorem Tan.inj {x a b:R} (h:Tan x a) (k:Tan x b):a=b:=rle_antisymm (h.mono k (rle_refl _)) (k.mono h (rle_refl _))
theorem Tan.neg {x a:R} (h:Tan x a):Tan (-x) (-a):=by
 have a1:=h.lo; have a2:=h.hi
 refine ⟨by grind,by grind,?_⟩
 rw [(SC_neg a).1,(SC_neg a).2,h.t]; grind
theorem Tan.of_A {z:R} (h:ab z<1):Tan z (A z):=by
 have s:=ab_le.1 (A_size h)
 have hb:=hp_bounds
 exact ⟨by grind,by grind,tan_A h⟩
theorem Tan.double {t a x:R} (h:Tan t a) (ht:t*t<1) (hx:x*(1-t*t)=2*t):Tan x (a+a):=by
 have a1:=h.lo; have a2:=h.hi
 have c:=C_pos a1 a2
 have cc:=rmul_pos c c
 have e:C (a+a)=(1-t*t)*(C a*C a):=by rw [C_add,h.t]; grind
 have cp:0<C (a+a):=by rw [e]; exact rmul_pos (by grind) cc
 have up:∀ u:R,0<C u→u<hp+hp→u<hp:=by
  intro u hu h2
  rcases Classical.em (u<hp) with g | g
  ·exact g
  ·have s:=S_nn_pi (u:=u-hp) (by grind) (by have:=hp_bounds; have:=rzero_lt_one; grind)
   have e:C u = -S (u-hp):=by rw [← C_hp,show u-hp+hp=u by grind]
   grind
 have u1:=up (a+a) cp (by grind)
 have u2:=up (-(a+a)) (by rw [(SC_neg (a+a)).2]; exact cp) (by grind)
 refine ⟨by grind,u1,?_⟩
 have td:=tan_double h.t
 refine cancel_eq (c:=1-t*t) (by grind) ?_
 rw [td]
 have:x*C (a+a)*(1-t*t)=x*(1-t*t)*C (a+a):=by grind
 rw [this,hx]
theorem Tan.turn {x y a:R} (h:Tan x a) (hx:0<x) (hy:x*y=1):Tan y (hp-a):=by
 have a1:=h.lo; have a2:=h.hi
 have c:=C_pos a1 a2
 have hb:=hp_bounds
 have h01:=rzero_lt_one
 have s0:0<S a:=by rw [h.t]; exact rmul_pos hx c
 have pa:0<a:=by
  rcases Classical.em (0<a) with g | g
  ·exact g
  ·have:=S_nn_pi (u:=-a) (by grind) (by grind)
   rw [(SC_neg a).1] at this
   grind
 refine ⟨by grind,by grind,?_⟩
 have e1:S (hp-a)=C a:=by rw [show hp-a = -a+hp by grind,S_hp,(SC_neg a).2]
 have e2:C (hp-a)=S a:=by rw [show hp-a = -a+hp by grind,C_hp,(SC_neg a).1]; grind
 rw [e1,e2,h.t]; grind
theorem half_tan {x s y:R} (hs0:0<s) (hs:s*s=1+x*x) (hy:y*(1+s)=x):y*y<1∧x*(1-y*y)=2*y:=by
 have h01:=rzero_lt_one
 have p:0<1+s:=by grind
 have pp:=rmul_pos p p
 have e:(1-y*y)*((1+s)*(1+s))=2*(1+s):=by
  have:(1-y*y)*((1+s)*(1+s))=(1+s)*(1+s)-(y*(1+s))*(y*(1+s)):=by grind
  rw [this,hy]; grind
 constructor
 ·rcases Classical.em (y*y<1) with g | g
  ·exact g
  ·have:=rmul_nonneg (show 0≤y*y-1 by grind) (show 0≤(1+s)*(1+s) by grind)
   grind
 ·refine cancel_eq (c:=(1+s)*(1+s)) (by grind) ?_
  have k:x*(1-y*y)*((1+s)*(1+s))=x*((1-y*y)*((1+s)*(1+s))):=by grind
  rw [k,e]
  have k2:2*y*((1+s)*(1+s))=2*(y*(1+s))*(1+s):=by grind
  rw [k2,hy]; grind
end Go.An
namespace Go.Proofs.YtjffljhmjdljeaaGreat.Gen
open Go Go.Abs Go.Plain Go.An
theorem root_bits {N s p:Nat} (h:2*p+4≤blen N) (h2:N<(s+1)*(s+1)):p<blen s:=by
 have hN:N≠0:=by intro k; rw [k,blen_zero] at h; omega
 have a:=blen_le hN
 have b:2 ^ (2*p+3)≤2 ^ (blen N-1):=Nat.pow_le_pow_right (by decide) (by omega)
 have c:2 ^ (p+1)*2 ^ (p+1)≤2 ^ (2*p+3):=by
  rw [← Nat.pow_add]; exact Nat.pow_le_pow_right (by decide) (by omega)
 have d:2 ^ (p+1)<s+1:=by
  rcases Nat.lt_or_ge (2 ^ (p+1)) (s+1) with g | g
  ·exact g
  ·have:=Nat.mul_le_mul g g; omega
 have e:=blen_lt s
 have f:2 ^ (p+1)<2 ^ blen s∨2 ^ (p+1)=s:=by omega
 rcases f with f | f
 ·have:=(Nat.pow_lt_pow_iff_right (a:=2) (by decide)).1 f; omega
 ·have:2 ^ (p+1)<2 ^ blen s:=by omega
  have:=(Nat.pow_lt_pow_iff_right (a:=2) (by decide)).1 this; omega
theorem lt_of_sq {a b:Rat} (hb:0≤b) (h:a*a<b*b):a<b:=by
 rcases Classical.em (a<b) with g | g
 ·exact g
 ·have:=sq_mono hb (show b≤a by grind); grind
theorem sqrt_best {x:D} (hx0:0<x.m) {p:Nat} (hp:1≤p) (up:Bool) (h:(sqrtD x p up).2=0):(up=false→∀ q,rep p q→0≤q→q*q≤val x→q≤val (sqrtD x p up).1)∧(up=true→∀ q,rep p q→0≤q→val x≤q*q→val (sqrtD x p up).1≤q)∧rep p (val (sqrtD x p up).1):=by
 have hneg:¬x.m<0:=by omega
 unfold sqrtD at *
 rw [if_neg hneg,if_neg (by omega)] at h ⊢
 rw [tell_ok' h]
 have hX0:x.m.natAbs≠0:=by omega
 have hev:=rootK_even x p
 have hkk:2*p+4≤blen x.m.natAbs+rootK x p:=by unfold rootK; omega
 have hbN:=blen_shl hX0 (rootK x p)
 generalize rootK x p=k at *
 generalize hE:(x.e-(k:Int)) / 2=E
 have hE2:x.e=E+E+k:=by omega
 have hvx:((x.m.natAbs*2 ^ k:Nat):Rat)*(p2 E*p2 E)=val x:=by
  rw [val_abs_pos hneg,hE2,p2_split,p2_add,Rat.natCast_mul]; grind
 generalize x.m.natAbs*2 ^ k=N at *
 obtain ⟨s1,s2⟩:=isqrt_spec N
 have hbm:p<blen (isqrt N):=root_bits (by omega) s2
 generalize isqrt N=s at *
 have hpE:=p2_pos E
 have pp:=Rat.mul_pos hpE hpE
 have s0:(0:Rat)≤(s:Rat)*p2 E:=Rat.mul_nonneg (natCast_nonneg _) (Rat.le_of_lt hpE)
 have e1:((s+1:Nat):Rat)=(s:Rat)+1:=by push_cast; rfl
 have sN:((s:Rat)*p2 E)*((s:Rat)*p2 E)≤val x:=by
  have h1:((s*s:Nat):Rat)≤(N:Rat):=natCast_le s1
  have h2:=Rat.mul_le_mul_of_nonneg_right h1 (Rat.le_of_lt pp)
  rw [hvx,Rat.natCast_mul] at h2
  grind
 have sU:val x<(((s+1:Nat):Rat)*p2 E)*(((s+1:Nat):Rat)*p2 E):=by
  have h1:(N:Rat)<(((s+1)*(s+1):Nat):Rat):=natCast_lt s2
  have h2:=Rat.mul_lt_mul_of_pos_right h1 pp
  rw [hvx,Rat.natCast_mul] at h2
  grind
 have s1p:(0:Rat)≤((s+1:Nat):Rat)*p2 E:=Rat.mul_nonneg (natCast_nonneg _) (Rat.le_of_lt hpE)
 have mid:(s:Rat)*p2 E<((s+1:Nat):Rat)*p2 E:=by rw [e1]; grind
 have hrep:rep p (val (cutD false s E (N-s*s != 0) p up)):=⟨sg false (cutN s (N-s*s != 0) p up),E+(blen s-p:Nat),val_cut _ _ _ _ _ _,by rw [sg_abs']; exact cutN_le _ _ _ _⟩
 refine ⟨?_,?_,hrep⟩
 ·rintro rfl q hq q0 hqx
  rw [val_cut,sg_pos_cast]
  have qu:q<((s+1:Nat):Rat)*p2 E:=lt_of_sq s1p (by grind)
  cases hs:(N-s*s != 0) with
  | false=>
   have hN:N=s*s:=by
    have:N-s*s=0:=by simpa using hs
    omega
   have ex:val x=((s:Rat)*p2 E)*((s:Rat)*p2 E):=by
    rw [← hvx,hN,Rat.natCast_mul]; grind
   have ql:q≤(s:Rat)*p2 E:=sq_le q0 s0 (by grind)
   exact (cut_best (st:=false) hp hbm (Q:=(s:Rat)*p2 E) Rat.le_refl (fun _=>Rat.le_refl) mid (by simp)).1 q hq ql
  | true=>
   by_cases c:(s:Rat)*p2 E<q
   ·exact (cut_best (st:=true) hp hbm (Q:=q) (Rat.le_of_lt c) (by simp) qu (fun _=>c)).1 q hq Rat.le_refl
   ·exact (cut_best (st:=true) hp hbm (E:=E) (Q:=(s:Rat)*p2 E+p2 E / 2) (by grind) (by simp) (by rw [e1]; grind) (fun _=>by grind)).1 q hq (by grind)
 ·rintro rfl q hq q0 hqx
  rw [val_cut,sg_pos_cast]
  have ql:(s:Rat)*p2 E≤q:=sq_le s0 q0 (by grind)
  cases hs:(N-s*s != 0) with
  | false=>
   exact (cut_best (st:=false) hp hbm (Q:=(s:Rat)*p2 E) Rat.le_refl (fun _=>Rat.le_refl) mid (by simp)).2 q hq ql
  | true=>
   have hN:s*s<N:=by
    have:N-s*s≠0:=by simpa using hs
    omega
   have ex:((s:Rat)*p2 E)*((s:Rat)*p2 E)<val x:=by
    have h1:((s*s:Nat):Rat)<(N:Rat):=natCast_lt hN
    have h2:=Rat.mul_lt_mul_of_pos_right h1 pp
    rw [hvx,Rat.natCast_mul] at h2
    grind
   have qs:(s:Rat)*p2 E<q:=lt_of_sq q0 (by grind)
   by_cases c:q<((s+1:Nat):Rat)*p2 E
   ·exact (cut_best (st:=true) hp hbm (Q:=q) (Rat.le_of_lt qs) (by simp) c (fun _=>qs)).2 q hq Rat.le_refl
   ·exact (cut_best (st:=true) hp hbm (E:=E) (Q:=(s:Rat)*p2 E+p2 E / 2) (by grind) (by simp) (by rw [e1]; grind) (fun _=>by grind)).2 q hq (by rw [e1] at c; grind)
theorem root_arith {a b lo hi g:Rat} (h1:1≤a) (hab:a≤b) (g0:0≤g) (l0:0≤lo) (k1:a<(lo+2*g)*(lo+2*g)) (k2:0≤hi-2*g→(hi-2*g)*(hi-2*g)<b):hi-lo≤b-a+4*g:=by
 by_cases c:hi-2*g≤lo+2*g
 ·grind
 ·have X1:1≤lo+2*g:=sq_le (by decide) (by grind) (by grind)
  have k:=k2 (by grind)
  have m:=Rat.mul_le_mul_of_nonneg_left (show (1:Rat)≤(hi-2*g)+(lo+2*g) by grind) (show 0≤(hi-2*g)-(lo+2*g) by grind)
  grind
theorem hw_sqrt {a:I} {x s:R} {L H L' H' K:Int} {w:Rat} (ha:HasW (a,0) x L H w) (h1:1≤val a.lo) (hs:0≤s) (hsx:s*s=x) {p:Nat} (hp:1≤p) (hK:val a.hi≤p2 K*p2 K) (hK0:0≤K) (hL:2*L'+2*p+6≤L) (hH:H≤2*H') (hL' : -60000≤L') (hH':H'+2≤60000):∃ c,sqS p a 0=(c,0)∧Has (c,0) s L' (H'+2)∧1≤val c.lo∧val c.hi≤p2 K∧val c.hi-val c.lo≤w+4*p2 (K-(p:Int)):=by
 have hle:val a.lo≤val a.hi:=ha.h.ok.le
 have h:=has_sqrt ha.h (show 0≤val a.lo by grind) hs hsx hp hL hH hL' hH'
 obtain ⟨d,e1,o1,n1,d1,-⟩:=sqrt_ok ha.h.ok.lo (show 0≤val a.lo by grind) hp false hL hH hL' hH'
 obtain ⟨r,e2,o2,n2,-,d2⟩:=sqrt_ok ha.h.ok.hi (show 0≤val a.hi by grind) hp true hL hH hL' hH'
 have m1:0<a.lo.m:=val_pos_m (by grind)
 have m2:0<a.hi.m:=val_pos_m (by grind)
 have B1:=(sqrt_best m1 hp false (show (sqrtD a.lo p false).2=0 by rw [show sqrtD a.lo p false=(d,0) from e1])).1 rfl
 have B2:=(sqrt_best m2 hp true (show (sqrtD a.hi p true).2=0 by rw [show sqrtD a.hi p true=(r,0) from e2])).2.1 rfl
 rw [show sqrtD a.lo p false=(d,0) from e1] at B1
 rw [show sqrtD a.hi p true=(r,0) from e2] at B2
 have e:sqS p a 0=(⟨d,r⟩,0):=by
  unfold sqS sqrtI
  rw [st_zero,show sqrtD a.lo p false=(d,0) from e1,bindE_ok rfl,show sqrtD a.hi p true=(r,0) from e2,bindE_ok rfl]
 rw [show sqS p (a,(0:Int)).1 0=(⟨d,r⟩,0) from e] at h
 have one:p2 0=1:=p2_zero
 have lo1:1≤val d:=B1 1 (by have:=rep_p2 p 0; rwa [one] at this) (by decide) (by grind)
 have pK:=p2_pos K
 have hiK:val r≤p2 K:=B2 (p2 K) (rep_p2 p K) (Rat.le_of_lt pK) hK
 have g0:=p2_pos (K-(p:Int))
 refine ⟨_,e,h,lo1,hiK,?_⟩
 have hw:val a.hi-val a.lo≤w:=ha.w
 have k1:val a.lo<(val d+2*p2 (K-(p:Int)))*(val d+2*p2 (K-(p:Int))):=by
  by_cases c:val d+2*p2 (K-(p:Int))≤p2 K
  ·obtain ⟨q,rq,q1,q2⟩:=rep_below (p:=p) (s:=K) (u:=val d+2*p2 (K-(p:Int))) ⟨by grind,c⟩
   have q0:0≤q:=by grind
   have m:=sq_mono q0 q1
   by_cases t:q*q≤val a.lo
   ·have:=B1 q rq q0 t
    have:q≤val d:=this
    grind
   ·grind
  ·have m:=sq_mono (Rat.le_of_lt pK) (show p2 K≤val d+p2 (K-(p:Int))+p2 (K-(p:Int)) by grind)
   have m2:=sq_mono (show 0≤p2 K by grind) (show p2 K≤val d+2*p2 (K-(p:Int)) by grind)
   have c':p2 K<val d+2*p2 (K-(p:Int)):=by grind
   have m3:=Rat.mul_lt_mul_of_pos_right c' pK
   have m4:=Rat.mul_le_mul_of_nonneg_left (Rat.le_of_lt c') (show 0≤val d+2*p2 (K-(p:Int)) by grind)
   grind
 have k2:0≤val r-2*p2 (K-(p:Int))→(val r-2*p2 (K-(p:Int)))*(val r-2*p2 (K-(p:Int)))<val a.hi:=by
  intro c
  obtain ⟨q,rq,q1,q2⟩:=rep_below (p:=p) (s:=K) (u:=val r-p2 (K-(p:Int))) ⟨by grind,by grind⟩
  have q0:0≤q:=by grind
  have m:=sq_mono c (show val r-2*p2 (K-(p:Int))≤q by grind)
  by_cases t:val a.hi≤q*q
  ·have:val r≤q:=B2 q rq q0 t
   grind
  ·grind
 have f:=root_arith h1 hle (Rat.le_of_lt g0) (show 0≤val d by grind) k1 k2
 show val r-val d≤_
 grind
theorem one_add {X:I} {x:R} {L:Int} {δ m:Rat} (hX:HasW (X,0) x L 1 δ) (hL : -30000≤L∧L≤0) {p:Nat} (hp:8≤p) (hm:ab (1+x)≤ofQ m) (hK:m+δ≤4):∃ c,aS p (intI 1) X 0=(c,0)∧HasW (c,0) (1+x) L 2 (δ+2*p2 (2-(p:Int)))∧∀ t,rep p t→t≤1+val X.lo→t≤val c.lo:=by
 have o:=(Okd_from (n:=1) (K:=0) (by omega) (by decide)).mono (L':=L) (H':=1) (by omega) (by omega)
 have v1:val (fromD 1)=1:=by rw [val_from]; rfl
 have h1:HasW (intI 1,0) 1 L 1 0:=(hw_point o).eq (by rw [v1,ofQ_one])
 have h:=hw_add (p:=p) (K:=2) (m:=m) h1 hX hm (by rw [show p2 2=4 by decide +kernel]; grind) (by omega) (by omega) (by omega)
 obtain ⟨c,e,oc,en⟩:=addI_ok h1.h.ok hX.h.ok (p:=p) (by omega) (by omega) (by omega)
 have e':aS p (intI 1) X 0=(c,0):=by unfold aS; rw [st_zero]; exact e
 rw [show aS p (intI 1,(0:Int)).1 (X,(0:Int)).1 0=(c,0) from e'] at h
 refine ⟨c,e',h.mono (Int.le_refl _) (Int.le_refl _) (by grind),fun t ht hl=>en.blo t ht ?_⟩
 show t≤val (fromD 1)+val X.lo
 rw [v1]; exact hl
theorem hw_quo {X Y:I} {x y z:R} {L M:Int} {w1 w2:Rat} (hX:HasW (X,0) x L 0 w1) (hY:HasW (Y,0) y M 2 w2) (x0:0<val X.lo) (y2:2≤val Y.lo) (hz:z*y=x) (hL : -30000≤L) (hM : -30000≤M∧M≤0) {p:Nat} (hp:8≤p∧p≤400):∃ c,dS p X Y 0=(c,0)∧HasW (c,0) z (L-4-p) (-1) (w1+w2+2*p2 (-(p:Int)))∧∀ t,rep p t→t*4≤val X.lo→t≤val c.lo:=by
 have hle:val Y.lo≤val Y.hi:=hY.h.ok.le
 have xle:val X.lo≤val X.hi:=hX.h.ok.le
 have hnz:hasI Y zD=false:=by
  cases hq:hasI Y zD with
  | false=>rfl
  | true=>
   have:=((hasI_iff _ _).1 hq).1
   rw [val_z] at this
   grind
 obtain ⟨c,u,v,e,o,en,q⟩:=divI_enc (p:=p) hX.h.ok hY.h.ok hnz (by omega) (by omega) (by omega)
 have h:=has_div hX.h hY.h hnz hz (p:=p) (by omega) (by omega) (by omega)
 have e':dS p X Y 0=(c,0):=by unfold dS; rw [st_zero]; exact e
 rw [show dS p (X,(0:Int)).1 (Y,(0:Int)).1 0=(c,0) from e'] at h
 have bx:B 0 (val X.hi):=hX.h.ok.hi.b
 have by4:B 2 (val Y.hi):=hY.h.ok.hi.b
 have x1:val X.hi≤1:=by have:=bx.2; rwa [p2_zero] at this
 have y4:val Y.hi≤4:=by have:=by4.2; rwa [show p2 2=4 by decide +kernel] at this
 have f1:=mul_of_div (a:=val X.lo) (b:=val Y.lo) (by grind)
 have f2:=mul_of_div (a:=val X.lo) (b:=val Y.hi) (by grind)
 have f3:=mul_of_div (a:=val X.hi) (b:=val Y.lo) (by grind)
 have f4:=mul_of_div (a:=val X.hi) (b:=val Y.hi) (by grind)
 have rng:∀ Q b a:Rat,Q*b=a→2≤b→b≤4→val X.lo≤a→a≤1→val X.lo≤Q*4∧0≤Q∧Q≤1 / 2:=by
  intro Q b a hq b2 b4 a0 a1
  have Q0:0≤Q:=by
   rcases Rat.le_total (a:=0) (b:=Q) with g | g
   ·exact g
   ·have:=Rat.mul_le_mul_of_nonneg_right g (show 0≤b by grind); grind
  have m1:=Rat.mul_le_mul_of_nonneg_left b2 Q0
  have m2:=Rat.mul_le_mul_of_nonneg_left b4 Q0
  exact ⟨by grind,Q0,by grind⟩
 have r1:=rng _ _ _ f1 y2 (by grind) Rat.le_refl (by grind)
 have r2:=rng _ _ _ f2 (by grind) y4 Rat.le_refl (by grind)
 have r3:=rng _ _ _ f3 y2 (by grind) xle x1
 have r4:=rng _ _ _ f4 (by grind) y4 xle x1
 have mu:=q.mu
 have mv:=q.mv
 have ru:val X.lo≤u*4∧0≤u∧u≤1 / 2:=by rcases mu with k | k | k | k<;>rw [k]<;>assumption
 have rv:val X.lo≤v*4∧0≤v∧v≤1 / 2:=by rcases mv with k | k | k | k<;>rw [k]<;>assumption
 have wx:val X.hi-val X.lo≤w1:=hX.w
 have wy:val Y.hi-val Y.lo≤w2:=hY.w
 have wd:=quo_width mu mv xle hle (by grind) wx wy ⟨by grind,by grind⟩
 have p1:p2 (-1)=1 / 2:=by decide +kernel
 have bu:B (-1) u:=by unfold B; rw [p1]; exact ⟨by grind,ru.2.2⟩
 have bv:B (-1) v:=by unfold B; rw [p1]; exact ⟨by grind,rv.2.2⟩
 have ew:=enc_width en bu bv
 have eb:=enc_bounds en bu bv o.le
 have t1:=p2_le (show -1-(p:Int) ≤ -(p:Int) by omega)
 refine ⟨c,e',⟨⟨rfl,⟨⟨o.lo.w,?_,eb.1⟩,⟨o.hi.w,?_,eb.2⟩,o.le⟩,h.m⟩,?_⟩,fun t ht hl=>en.blo t ht (by grind)⟩
 ·exact o.lo.g.mono (by omega)
 ·exact o.hi.g.mono (by omega)
 ·show val c.hi-val c.lo≤_; grind
theorem thS_has {X:I} {x s y:R} {L l:Int} {δ:Rat} (hX:HasW (X,0) x L 0 δ) (hl:p2 l≤val X.lo) (hL : -6000≤L∧L≤0) (hs0:0≤s) (hs:s*s=1+x*x) (hy:y*(1+s)=x) (hδ:δ≤1 / 1024) {p:Nat} (hp:20≤p∧p≤400):∃ c,thS p (X,0)=(c,0)∧HasW (c,0) y (L-4-p) (-1) (3*δ+64*p2 (-(p:Int)))∧p2 (l-2)≤val c.lo:=by
 have pl:=p2_pos l
 have pp:=p2_pos (-(p:Int))
 have pk:∀ k:Int,p2 (k-(p:Int))=p2 k*p2 (-(p:Int)):=fun k=>p2_sub k p
 have p20:p2 (-(p:Int))≤1 / 1048576:=by
  have:=p2_le (show -(p:Int) ≤ -20 by omega)
  rwa [show p2 (-20)=1 / 1048576 by decide +kernel] at this
 have xle:val X.lo≤val X.hi:=hX.h.ok.le
 have bx:B 0 (val X.hi):=hX.h.ok.hi.b
 have x1:val X.hi≤1:=by have:=bx.2; rwa [p2_zero] at this
 have δ0:0≤δ:=by have:val X.hi-val X.lo≤δ:=hX.w; grind
 have xR0:(0:R)≤x:=rle_trans (by rw [← ofQ_zero]; exact ofQ_le.2 (show (0:Rat)≤val X.lo by grind)) hX.h.m.lo
 have xR1:x≤1:=rle_trans hX.h.m.hi (by rw [← ofQ_one]; exact ofQ_le.2 x1)
 have hM:=hw_mul (p:=p) hX hX (by omega) (by omega) (by omega)
 obtain ⟨sq1,sq2⟩:=sq_lo hX.h hl (p:=p) (by omega) (by omega) (by omega)
 rw [p2_zero] at hM
 have em:=hM.h.e
 have xx0:=rmul_nonneg xR0 xR0
 have xx1:x*x≤1:=by have:=rmul_mono xR1 xR1 xR0 (show (0:R)≤1 by have:=rzero_lt_one; grind); grind
 have hM':HasW ((mS p X X 0).1,0) (x*x) (L+L) 1 (2*δ+2*p2 (-(p:Int))):=hM.pair.mono (Int.le_refl _) (by omega) (by rw [show (0:Int)+0-p = -(p:Int) by omega]; grind)
 have sq2':0<val (mS p X X 0).1.lo:=by have:=p2_pos (l+l); have k:p2 (l+l)≤val (mS p X X 0).1.lo:=sq2; grind
 have two:ofQ 2=(1:R)+1:=by rw [← ofQ_one]; exact ofQ_split (by decide +kernel)
 have hm1:ab (1+x*x)≤ofQ 2:=by rw [ab_of (by have:=rzero_lt_one; grind),two]; grind
 obtain ⟨A,eA,hA,lA⟩:=one_add hM' (by omega) (p:=p) (by omega) hm1 (by grind)
 have A1:1≤val A.lo:=lA 1 (by have:=rep_p2 p 0; rwa [p2_zero] at this) (by grind)
 have A4:val A.hi≤p2 1*p2 1:=by
  have b:=hA.h.ok.hi.b.2
  have e:p2 1*p2 1=p2 2:=by rw [← p2_add]; rfl
  rw [e]; exact b
 obtain ⟨Q,eQ,hQ,lQ,uQ,wQ⟩:=hw_sqrt (K:=1) (L':=L-p-4) (H':=1) hA A1 hs0 hs (p:=p) (by omega) A4 (by omega) (by omega) (by omega) (by omega) (by omega)
 rw [pk] at wQ
 have wQ':val Q.hi-val Q.lo≤2*δ+20*p2 (-(p:Int)):=by
  rw [pk,show p2 2=4 by decide +kernel,show p2 1=2 by decide +kernel] at wQ
  grind
 have le2:val Q.lo≤val Q.hi:=hQ.ok.le
 have p1:p2 1=2:=by decide +kernel
 rw [p1] at uQ
 have hQ':HasW (Q,0) s (L-p-4) 1 (2*δ+20*p2 (-(p:Int))):=⟨⟨rfl,⟨⟨hQ.ok.lo.w,hQ.ok.lo.g,by unfold B; rw [p1]; exact ⟨by grind,by grind⟩⟩,⟨hQ.ok.hi.w,hQ.ok.hi.g,by unfold B; rw [p1]; exact ⟨by grind,uQ⟩⟩,hQ.ok.le⟩,hQ.m⟩,wQ'⟩
 have s2:s≤1+1:=by rw [← two]; exact rle_trans hQ.m.hi (ofQ_le.2 uQ)
 have three:ofQ 3=(1:R)+(1+1):=by rw [← two,← ofQ_one]; exact ofQ_split (by decide +kernel)
 have hm2:ab (1+s)≤ofQ 3:=by rw [ab_of (by have:=rzero_lt_one; grind),three]; grind
 obtain ⟨K,eK,hK,lK⟩:=one_add hQ' (by omega) (p:=p) (by omega) hm2 (by grind)
 have K2:2≤val K.lo:=lK 2 (by have:=rep_p2 p 1; rwa [p1] at this) (by grind)
 obtain ⟨c,ec,hc,lc⟩:=hw_quo hX hK (by grind) K2 hy (by omega) (by omega) (p:=p) (by omega)
 refine ⟨c,?_,?_,lc _ (rep_p2 p (l-2)) ?_⟩
 ·unfold thS
  have i1:iS 1 0=(intI 1,0):=by unfold iS; rw [st_zero]
  simp only [i1]
  rw [em,eA]
  simp only
  rw [eQ]
  simp only
  rw [eK]
  exact ec
 ·refine hc.mono (Int.le_refl _) (Int.le_refl _) ?_
  rw [pk,show p2 2=4 by decide +kernel]; grind
 ·have e:p2 l=p2 (l-2)*4:=by rw [show (4:Rat)=p2 2 by decide +kernel,← p2_add]; exact congrArg p2 (by omega)
  rw [← e]; exact hl
theorem half_real {x:R} (h0:0≤x):∃ s y,0≤s∧s*s=1+x*x∧y*(1+s)=x∧0≤y∧y+y≤x∧y*y<1∧x*(1-y*y)=2*y:=by
 have h01:=rzero_lt_one
 have xx:=rmul_nonneg h0 h0
 obtain ⟨s,s0,ss⟩:=sqrt_ex (x:=1+x*x) (by grind)
 have s1:1≤s:=le_of_sq (show 0≤s by grind) (by grind)
 have hi:=mul_inv (x:=1+s) (by grind)
 have e:x*(1+s)⁻¹*(1+s)=x:=by grind
 have ip:0≤(1+s)⁻¹:=by
  rcases Classical.em (0≤(1+s)⁻¹) with g | g
  ·exact g
  ·have:=rmul_nonneg (show 0 ≤ -(1+s)⁻¹ by grind) (show 0≤1+s by grind); grind
 have y0:=rmul_nonneg h0 ip
 generalize x*(1+s)⁻¹=y at *
 obtain ⟨k1,k2⟩:=half_tan (x:=x) (s:=s) (y:=y) s0 ss e
 have m:=rmul_nonneg y0 (show 0≤s-1 by grind)
 exact ⟨s,y,by grind,ss,e,y0,by grind,k1,k2⟩
theorem arc_core {X:I} {x:R} {L:Int} {δ:Rat} (hX:HasW (X,0) x L 0 δ) (hl:p2 (-5)≤val X.lo) (hL : -400≤L∧L≤0) {p:Nat} (hp:52≤p∧p≤100) (hδ:δ≤4*p2 (-(p:Int))):∃ θ,Tan x θ∧0≤θ∧θ≤1∧HasW (tbS p (thS p (thS p (X,0)))) θ (-14000) 2 (p2 (16-(p:Int))):=by
 have h01:=rzero_lt_one
 have pp:=p2_pos (-(p:Int))
 have pk:∀ k:Int,p2 (k-(p:Int))=p2 k*p2 (-(p:Int)):=fun k=>p2_sub k p
 have p20:p2 (-(p:Int))≤1 / 4503599627370496:=by
  have:=p2_le (show -(p:Int) ≤ -52 by omega)
  rwa [show p2 (-52)=1 / 4503599627370496 by decide +kernel] at this
 have pl:=p2_pos (-5)
 have xR0:(0:R)≤x:=rle_trans (by rw [← ofQ_zero]; exact ofQ_le.2 (show (0:Rat)≤val X.lo by grind)) hX.h.m.lo
 have bx:B 0 (val X.hi):=hX.h.ok.hi.b
 have x1:val X.hi≤1:=by have:=bx.2; rwa [p2_zero] at this
 have xR1:x≤1:=rle_trans hX.h.m.hi (by rw [← ofQ_one]; exact ofQ_le.2 x1)
 obtain ⟨s1,y1,a1,a2,a3,a4,a5,a6,a7⟩:=half_real xR0
 obtain ⟨s2,y2,b1,b2,b3,b4,b5,b6,b7⟩:=half_real a4
 obtain ⟨c1,e1,h1,l1⟩:=thS_has hX hl (by omega) a1 a2 a3 (by grind) (p:=p) (by omega)
 obtain ⟨c2,e2,h2,l2⟩:=thS_has (h1.mono (H':=0) (Int.le_refl _) (by omega) Rat.le_refl) l1 (by omega) b1 b2 b3 (by grind) (p:=p) (by omega)
 have h2':HasW (c2,0) y2 (-800) (-1) (300*p2 (-(p:Int))):=h2.mono (by omega) (Int.le_refl _) (by grind)
 have hq:=sq_w (p:=p) h2' l2 (by omega) (by omega) (by omega)
 have y4:y2≤ofQ (1 / 4):=by
  have e4:ofQ (1 / 4)+ofQ (1 / 4)+(ofQ (1 / 4)+ofQ (1 / 4))=1:=by rw [← ofQ_one,← ofQ_add,← ofQ_add]; exact congrArg ofQ (by decide +kernel)
  grind
 have y41:y2<1:=by grind
 have ay:ab y2<1:=by rw [ab_of b4]; exact y41
 have N50:((p / 2+4:Nat):Rat)≤54:=by exact_mod_cast natCast_le (show p / 2+4≤54 by omega)
 have N0:(0:Rat)≤((p / 2+4:Nat):Rat):=natCast_nonneg _
 have cm:((p:Int)+20-(-5-2-2+(-5-2-2)-p))*((p / 2+4:Nat):Int)≤238*54:=Int.mul_le_mul (by omega) (by omega) (by omega) (by omega)
 have t1:p2 (-1)=1 / 2:=by decide +kernel
 have t2:p2 (-2)=1 / 4:=by decide +kernel
 have t3:p2 (-3)=1 / 8:=by decide +kernel
 have hA:=atan_w (p:=p) (by omega) (H:=-1) (Hq:=-1 + -1) (wt:=301*p2 (-(p:Int))) (wp:=152*p2 (-(p:Int))) (m:=1 / 3) h2' hq (by omega) (by omega) (by omega) (by omega) (by grind) (by
   rw [pk,pk,show (-1:Int) + -1 = -2 from rfl,show (-1:Int) + -2 = -3 from rfl,t1,t2,t3]; grind) (by rw [pk,show (-1:Int)-1 = -2 from rfl,t1,t2]; grind)
  (fun k=>by
   have q:=Su_le (a:=atc) (by rw [atc,show sS 0=0 from rfl]; grind) (over_ab rfl fun n=>(sg_ab n).1) (geo_q (q:=1 / 4) (by decide +kernel) (by decide +kernel)) (x:=y2) (by rw [ab_of b4]; exact y4) k
   rw [← ofQ_mul] at q
   exact rle_trans q (ofQ_le.2 (by decide +kernel)))
  (by
   have:=Rat.mul_le_mul_of_nonneg_right N50 (show 0≤154*p2 (-(p:Int)) by grind)
   grind) (M:=-13999) (by omega) (by omega)
 have wA:=Rat.mul_le_mul_of_nonneg_right N50 (show 0≤154*p2 (-(p:Int)) by grind)
 have hA':=hA.mono (Int.le_refl _) (Int.le_refl _) (w':=16384*p2 (-(p:Int))) (by grind)
 have hS:=hw_scale (n:=2) hA' (by omega) (by omega)
 have et:tbS p (thS p (thS p (X,0)))=scS (atanI p c2).1 2 (atanI p c2).2:=by
  rw [e1,e2]
  unfold tbS atS
  simp only [st_zero]
 have asz:=ab_le.1 (A_size ay)
 rw [ab_of b4] at asz
 have T0:=Tan.of_A ay
 have T1:=T0.double b6 b7
 have T2:=T1.double a6 a7
 have four:A y2*ofQ (p2 2)=A y2+A y2+(A y2+A y2):=by
  rw [show ofQ (p2 2)=(4:R) by rw [show p2 2=4 by decide +kernel]; rfl]; grind
 have A0:0≤A y2:=by
  have z:Tan 0 0:=⟨by have:=hp_bounds; grind,by have:=hp_bounds; grind,by rw [S_zero]; grind⟩
  exact z.mono T0 b4
 have e4:ofQ (1 / 4)+ofQ (1 / 4)+(ofQ (1 / 4)+ofQ (1 / 4))=1:=by rw [← ofQ_one,← ofQ_add,← ofQ_add]; exact congrArg ofQ (by decide +kernel)
 refine ⟨_,T2,by grind,by grind,?_⟩
 rw [et,hA.h.e]
 refine (hS.mono (by omega) (by omega) ?_).eq four
 rw [pk,show p2 16=65536 by decide +kernel,show p2 2=4 by decide +kernel]; grind
theorem td_has {e:D} (he:Okd e (-70) 4) (h1:1≤val e) {w:Nat} (hw:52≤w∧w≤100):∃ X,tdS w (⟨e,e⟩,0)=(X,0)∧HasW (X,0) (ofQ (1 / val e)) (-66-w) 0 (4*p2 (-(w:Int)))∧p2 (-5)≤val X.lo:=by
 have pp:=p2_pos (-(w:Int))
 have p20:p2 (-(w:Int))≤1 / 4503599627370496:=by
  have:=p2_le (show -(w:Int) ≤ -52 by omega)
  rwa [show p2 (-52)=1 / 4503599627370496 by decide +kernel] at this
 have h16:val e≤16:=by
  have:=he.b.2
  rwa [show p2 4=16 by decide +kernel] at this
 have o:Okd (fromD 1) 0 0:=Okd_from (n:=1) (K:=0) (by omega) (by decide)
 have v1:val (fromD 1)=1:=by rw [val_from]; rfl
 have f1:=mul_of_div (a:=1) (b:=val e) (by grind)
 have hP:=hw_point he
 have h:=hw_div_pt (d:=fromD 1) (z:=ofQ (1 / val e)) o hP (show 1≤val e from h1) (by rw [← ofQ_mul,v1,f1]) (p:=w) (by omega) (by omega) (by omega)
 have e':tdS w (⟨e,e⟩,0)=dS w ⟨fromD 1,fromD 1⟩ ((⟨e,e⟩,0):I × Int).1 0:=by
  unfold tdS iS
  rw [st_zero]; rfl
 rw [← e'] at h
 have ee:=h.h.e
 have h':HasW ((tdS w (⟨e,e⟩,0)).1,0) (ofQ (1 / val e)) (-66-w) 0 (4*p2 (-(w:Int))):=h.pair.mono (by omega) (Int.le_refl _) (by rw [p2_zero,show (0:Int)-w = -(w:Int) by omega]; grind)
 refine ⟨_,pair_eta ee,h',?_⟩
 have q:1 / val e≤val (tdS w (⟨e,e⟩,0)).1.hi:=ofQ_le.1 h'.h.m.hi
 have wd:val (tdS w (⟨e,e⟩,0)).1.hi-val (tdS w (⟨e,e⟩,0)).1.lo≤4*p2 (-(w:Int)):=h'.w
 have q16:1 / 16≤1 / val e:=by
  generalize 1 / val e=t at *
  rcases Classical.em (1 / 16≤t) with g | g
  ·exact g
  ·have:=Rat.mul_lt_mul_of_pos_right (show t<1 / 16 by grind) (show 0<val e by grind); grind
 rw [show p2 (-5)=1 / 32 by decide +kernel]
 generalize (tdS w (⟨e,e⟩,0)).1=X at *
 grind
theorem tq_has {e:D} (he:Okd e (-70) 4) (h1:p2 (-4)≤val e) {w:Nat} (hw:52≤w∧w≤100) {big:Bool} {Y:I × Int} (hb:big=true→1≤val e∧Y=tdS w (⟨e,e⟩,0)) (hs:big=false→val e≤1∧Y=(⟨e,e⟩,0)):∃ θ,Tan (ofQ (val e)) θ∧0≤θ∧HasW (tqS w big (thS w (thS w Y))) θ (-14000) 3 (p2 (18-(w:Int))):=by
 have pk:∀ k:Int,p2 (k-(w:Int))=p2 k*p2 (-(w:Int)):=fun k=>p2_sub k w
 have pp:=p2_pos (-(w:Int))
 have p45:=p2_le (show (-5:Int) ≤ -4 by omega)
 have p4:=p2_pos (-4)
 have m18:=p2_le (show 16-(w:Int)≤18-w by omega)
 cases big with
 | false=>
  obtain ⟨k1,k2⟩:=hs rfl
  have o:Okd e (-70) 0:=⟨he.w,he.g,by unfold B; rw [p2_zero]; exact ⟨by grind,k1⟩⟩
  obtain ⟨θ,T,t0,t1,h⟩:=arc_core (hw_point o) (show p2 (-5)≤val e by grind) (by omega) (p:=w) (by omega) (by grind)
  rw [k2]
  refine ⟨θ,T,t0,?_⟩
  unfold tqS
  rw [if_neg (by simp)]
  exact h.mono (Int.le_refl _) (by omega) m18
 | true=>
  obtain ⟨k1,k2⟩:=hb rfl
  obtain ⟨X,eX,hX,lX⟩:=td_has he k1 hw
  obtain ⟨θ,T,t0,t1,h⟩:=arc_core hX lX (by omega) (p:=w) (by omega) Rat.le_refl
  rw [k2,eX]
  have f1:=mul_of_div (a:=1) (b:=val e) (by grind)
  have pe:(0:Rat)<1 / val e:=by
   generalize 1 / val e=t at *
   rcases Classical.em (0<t) with g | g
   ·exact g
   ·have:=Rat.mul_le_mul_of_nonneg_right (show t≤0 by grind) (show 0≤val e by grind); grind
  have T2:=T.turn (y:=ofQ (val e)) (by rw [← ofQ_zero]; exact ofQ_lt.2 pe) (by rw [← ofQ_mul,f1,ofQ_one])
  have hb:=hp_bounds
  obtain ⟨hH,-⟩:=tuH_has (w:=w) (by omega)
  refine ⟨_,T2,by grind,?_⟩
  generalize thS w (thS w (X,0))=r at *
  have ab2:ab (hp-θ)≤ofQ 2:=by
   rw [ab_of (by grind),show ofQ 2=(2:R) from rfl]; grind
  have hS:=hw_sub (p:=w) (K:=3) (m:=2) (hH.mono (L':=-14000) (H':=3) (by omega) (by omega) Rat.le_refl) (h.mono (L':=-14000) (H':=3) (Int.le_refl _) (by omega) Rat.le_refl) ab2 (by
   have a:=p2_le (show 16-(w:Int)≤0 by omega)
   have c:=p2_le (show 12-(w:Int)≤0 by omega)
   rw [p2_zero] at a c
   rw [show p2 3=8 by decide +kernel]; grind) (by omega) (by omega) (by omega)
  have et:tqS w true r=suS w (tuH w).1 (tbS w r).1 0:=by
   unfold tqS
   rw [if_pos rfl]
   unfold tpS
   have e2:=hH.h.e
   rw [h.h.e]
   have e3:scS (piS w 0).1 (-1) (piS w 0).2=tuH w:=rfl
   simp only [e3]
   rw [e2]
  have hS':HasW (suS w (tuH w).1 (tbS w r).1 0) (hp-θ) (-14000) 3 (p2 (18-(w:Int))):=by
   refine hS.mono (Int.le_refl _) (Int.le_refl _) ?_
   rw [pk 12,pk 16,pk 3,pk 18,show p2 16=65536 by decide +kernel,show p2 12=4096 by decide +kernel,show p2 18=262144 by decide +kernel,show p2 3=8 by decide +kernel]; grind
  rw [← et] at hS'
  exact hS'
def txE (e:D) (w:Nat) (x:I × Int):I × Int:=if cmpD e (fromD 1)>0 then tdS w x else x
def tqX (e:D) (p:Nat):I × Int:=tqS (p+32) (decide (cmpD e (fromD 1)>0)) (thS (p+32) (thS (p+32) (txE e (p+32) (pS e 0))))
theorem ttS_eq (d:D) (p:Nat):ttS d p=teS p (decide (d.m<0)) (tqX (absD d) p):=rfl
theorem tx_cases {e:D} {w:Nat} : (decide (cmpD e (fromD 1)>0)=true→1≤val e∧txE e w (pS e 0)=tdS w (⟨e,e⟩,0))∧(decide (cmpD e (fromD 1)>0)=false→val e≤1∧txE e w (pS e 0)=(⟨e,e⟩,0)):=by
 have v1:val (fromD 1)=1:=by rw [val_from]; rfl
 constructor
 ·intro h
  have h:=of_decide_eq_true h
  have k:=(cmpD_gt e (fromD 1)).1 (by omega)
  rw [v1] at k
  refine ⟨by grind,?_⟩
  unfold txE
  rw [if_pos h,pS_zero]
 ·intro h
  have h:=of_decide_eq_false h
  have k:=(cmpD_le e (fromD 1)).1 (by omega)
  rw [v1] at k
  refine ⟨k,?_⟩
  unfold txE
  rw [if_neg h,pS_zero]
theorem tqX_has {e:D} (he:Okd e (-70) 4) (h1:p2 (-4)≤val e) {p:Nat} (hp:20≤p∧p≤60):∃ θ R,Tan (ofQ (val e)) θ∧0≤θ∧tqX e p=(R,0)∧HasW (R,0) θ (-14000) 3 (p2 (-14-(p:Int))):=by
 obtain ⟨k1,k2⟩:=tx_cases (e:=e) (w:=p+32)
 obtain ⟨θ,T,t0,h⟩:=tq_has he h1 (w:=p+32) (by omega) k1 k2
 exact ⟨θ,_,T,t0,pair_eta h.h.e,h.pair.mono (Int.le_refl _) (Int.le_refl _) (by rw [show 18-((p+32:Nat):Int) = -14-(p:Int) by omega]; exact Rat.le_refl)⟩
theorem abs_m {d:D} (h:¬d.m<0):absD d=d:=by unfold absD; rw [show ((d.m.natAbs:Nat):Int)=d.m by omega]
theorem abs_neg {d:D} (h:¬d.m<0):absD (negD d)=d:=by unfold absD negD; simp only [Int.natAbs_neg]; rw [show ((d.m.natAbs:Nat):Int)=d.m by omega]
theorem tanR_has {d:D} (hd:Okd d (-70) 4) (m0:0<d.m) (h1:p2 (-4)≤val d) {p:Nat} (hp:20≤p∧p≤60):∃ θ c,Tan (ofQ (val d)) θ∧0≤θ∧tanR d (p:Int)=(c,0)∧HasW (c,0) θ (-14000) 3 (p2 (5-(p:Int)))∧tanR (negD d) (p:Int)=(negI c,0)∧rep p (val c.lo)∧rep p (val c.hi):=by
 have h0:¬d.m<0:=by omega
 have hn:=hd.neg
 have hb:∀ x:D,Okd x (-70) 4→fitB x (p:Int)=true:=fun x hx=>fitB_okd (hx.mono (Int.le_refl _) (H':=8) (by omega)) (by omega) (by omega) (by omega)
 obtain ⟨θ,R,T,t0,eR,hR⟩:=tqX_has hd h1 hp
 obtain ⟨c,e1,e2⟩:=out_neg hR.h.ok (p:=p) (by omega) (by omega) (by omega)
 obtain ⟨c',e1',o,en⟩:=outI_ok hR.h.ok (p:=p) (by omega) (by omega) (by omega)
 have hm:=has_out hR.h (p:=p) (by omega) (by omega) (by omega)
 have ecc:c'=c:=by
  have:=e1'.symm.trans e1
  exact congrArg Prod.fst this
 subst ecc
 rw [show outI p R=(c',0) from e1'] at hm
 have ew:=enc_width en hR.h.ok.lo.b hR.h.ok.hi.b
 have wR:=hR.w
 have q0:=p2_le (show -14-(p:Int)≤3-(p:Int) by omega)
 have q1:p2 (5-(p:Int))=4*p2 (3-(p:Int)):=by rw [show 5-(p:Int)=2+(3-(p:Int)) by omega,p2_add,show p2 2=4 by decide +kernel]
 have q2:=p2_pos (3-(p:Int))
 refine ⟨θ,c',T,t0,?_,⟨hm,?_⟩,?_,en.rlo,en.rhi⟩
 ·unfold tanR
  rw [hb d hd,if_pos rfl,Int.toNat_natCast,ttS_eq,abs_m h0,decide_eq_false h0,eR]
  unfold teS
  rw [if_neg (by simp)]
  exact done_of e1'
 ·show val c'.hi-val c'.lo≤_
  grind
 ·unfold tanR
  rw [hb _ hn,if_pos rfl,Int.toNat_natCast,ttS_eq,abs_neg h0,eR,show decide ((negD d).m<0)=true by unfold negD; simp; omega]
  unfold teS
  rw [if_pos rfl]
  have en':nS R 0=(negI R,0):=by unfold nS; rw [st_zero]
  rw [en']
  exact done_of e2
theorem arc_low {x θ:R} (T:Tan x θ) (h0:0≤θ) (hx:ofQ (1 / 16)≤x):ofQ (1 / 20)≤θ:=by
 rcases Classical.em (ofQ (1 / 20)≤θ) with g | g
 ·exact g
 ·exfalso
  have g:θ≤ofQ (1 / 20):=by grind
  have s:=(ab_le.1 (S_size θ)).2
  rw [ab_of h0] at s
  have c:=C_size θ
  have q:=rmul_mono g g h0 (show (0:R)≤ofQ (1 / 20) by rw [← ofQ_zero]; exact ofQ_le.2 (by decide +kernel))
  rw [← ofQ_mul] at q
  have e1:(1:R)=ofQ (399 / 400)+ofQ (1 / 20*(1 / 20)):=by rw [← ofQ_one]; exact ofQ_split (by decide +kernel)
  have c1:ofQ (399 / 400)≤C θ:=by grind
  have m:=rmul_mono hx c1 (show (0:R)≤ofQ (1 / 16) by rw [← ofQ_zero]; exact ofQ_le.2 (by decide +kernel)) (by
   have:(0:R)≤ofQ (399 / 400):=by rw [← ofQ_zero]; exact ofQ_le.2 (by decide +kernel)
   grind)
  rw [← T.t,← ofQ_mul] at m
  have k:=ofQ_lt.2 (show (1 / 20:Rat)<1 / 16*(399 / 400) by decide +kernel)
  grind
theorem arc_high {x θ:R} (T:Tan x θ) (h0:0<x) (hx:x≤ofQ 16):θ≤hp-ofQ (1 / 20):=by
 have i:=mul_inv (x:=x) (by grind)
 have T2:=T.turn (y:=x⁻¹) h0 i
 have hi:=T.hi
 have y16:ofQ (1 / 16)≤x⁻¹:=by
  refine cancel h0 ?_
  have e:x⁻¹*x=1:=by grind
  rw [e]
  have m:=rmul_le' hx (show (0:R)≤ofQ (1 / 16) by rw [← ofQ_zero]; exact ofQ_le.2 (by decide +kernel))
  rw [← ofQ_mul,show (1 / 16:Rat)*16=1 by decide +kernel,ofQ_one] at m
  exact m
 have:=arc_low T2 (by grind) y16
 grind
theorem cos_low {t:R} (h0:0≤t) (h1:t≤hp-ofQ (1 / 32)):ofQ (1 / 40)≤C t:=by
 have hb:=hp_bounds
 have p32:(0:R)<ofQ (1 / 32):=by rw [← ofQ_zero]; exact ofQ_lt.2 (by decide +kernel)
 have a:=C_anti h0 h1 (by grind)
 refine rle_trans ?_ a
 have e:C (hp-ofQ (1 / 32))=S (ofQ (1 / 32)):=by
  rw [show hp-ofQ (1 / 32) = -ofQ (1 / 32)+hp by grind,C_hp,(SC_neg _).1]; grind
 rw [e]
 have T:∃ y,Tan (ofQ (1 / 33)) y:=⟨_,Tan.of_A (q_ab (by decide +kernel) (by decide +kernel))⟩
 obtain ⟨y,T⟩:=T
 have ya:y=A (ofQ (1 / 33)):=T.inj (Tan.of_A (q_ab (by decide +kernel) (by decide +kernel)))
 have sz:=A_size (q_ab (q:=1 / 33) (by decide +kernel) (by decide +kernel))
 rw [← ya,ab_of (show (0:R)≤ofQ (1 / 33) by rw [← ofQ_zero]; exact ofQ_le.2 (by decide +kernel))] at sz
 have y1:=(ab_le.1 sz).2
 have z:Tan 0 0:=⟨by grind,by grind,by rw [S_zero]; grind⟩
 have y0:=z.mono T (by rw [← ofQ_zero]; exact ofQ_le.2 (by decide +kernel))
 have le32:=ofQ_le.2 (show (1 / 33:Rat)≤1 / 32 by decide +kernel)
 have le1:=ofQ_le.2 (show (1 / 32:Rat)≤1 by decide +kernel)
 rw [ofQ_one] at le1
 have sm:=S_mono (a:=y) (b:=ofQ (1 / 32)) (by grind) (by grind) (by grind)
 refine rle_trans ?_ sm
 have c:=C_size y
 have q:=rmul_mono y1 y1 y0 (show (0:R)≤ofQ (1 / 33) by rw [← ofQ_zero]; exact ofQ_le.2 (by decide +kernel))
 rw [← ofQ_mul] at q
 have e1:(1:R)=ofQ (1088 / 1089)+ofQ (1 / 33*(1 / 33)):=by rw [← ofQ_one]; exact ofQ_split (by decide +kernel)
 have c1:ofQ (1088 / 1089)≤C y:=by grind
 rw [T.t]
 have m:=rmul_le' c1 (show (0:R)≤ofQ (1 / 33) by rw [← ofQ_zero]; exact ofQ_le.2 (by decide +kernel))
 rw [← ofQ_mul] at m
 exact rle_trans (ofQ_le.2 (by decide +kernel)) m
theorem hull_has {a b:I} {x y z:R} {L H:Int} (ha:Has (a,0) x L H) (hb:Has (b,0) y L H) (h:(x≤z∧z≤y)∨(y≤z∧z≤x)):Has (hullI [a,b],0) z L H:=by
 obtain ⟨o,h1,h2,h3,h4⟩:=hull_two ha.ok hb.ok
 have a1:=ha.m.lo; have a2:=ha.m.hi; have b1:=hb.m.lo; have b2:=hb.m.hi
 have k1:=ofQ_le.2 h1; have k2:=ofQ_le.2 h2; have k3:=ofQ_le.2 h3; have k4:=ofQ_le.2 h4
 refine ⟨rfl,o,⟨?_,?_⟩⟩
 ·show ofQ (val (hullI [a,b]).lo)≤z
  rcases h with h | h
  ·exact rle_trans k1 (rle_trans a1 h.1)
  ·exact rle_trans k2 (rle_trans b1 h.1)
 ·show z≤ofQ (val (hullI [a,b]).hi)
  rcases h with h | h
  ·exact rle_trans h.2 (rle_trans b2 k4)
  ·exact rle_trans h.2 (rle_trans a2 k3)
theorem hull_low {a b:I} {t:Rat} (ha:val a.lo≤val a.hi) (hb:val b.lo≤val b.hi) (h1:t≤val a.lo) (h2:t≤val b.lo):t≤val (hullI [a,b]).lo:=by
 have e:(hullI [a,b]).lo=minD (minD (minD a.lo a.hi) b.lo) b.hi:=rfl
 rw [e]
 have m1:=minD_val a.lo a.hi
 have m2:=minD_val (minD a.lo a.hi) b.lo
 have m3:=minD_val (minD (minD a.lo a.hi) b.lo) b.hi
 rcases m1 with ⟨p1,q1⟩ | ⟨p1,q1⟩<;>rcases m2 with ⟨p2,q2⟩ | ⟨p2,q2⟩<;>rcases m3 with ⟨p3,q3⟩ | ⟨p3,q3⟩<;>rw [p3]<;>(try rw [p2])<;>(try rw [p1])<;>grind
theorem sTrigCW {d:D} {L:Int} (hd:Okd d L 10) (hL : -110≤L∧L≤0) {p:Nat} (hp:8≤p∧p≤60):val (sinR d p 1).1.hi-val (sinR d p 1).1.lo≤p2 (3-(p:Int)):=by
 obtain ⟨k,y,e,hk,hy,-⟩:=turnsR_has hd hL (p:=p) (by omega)
 unfold sinR
 rw [e,if_neg (by simp),Int.toNat_natCast]
 exact quS_w hy hp (by omega)
structure Ends (d:D) (p:Nat) (c:I) (θ:R):Prop where
 t:Tan (ofQ (val d)) θ
 r:tanR d (p:Int)=(c,0)
 h:HasW (c,0) θ (-14000) 3 (p2 (5-(p:Int)))
 n:tanR (negD d) (p:Int)=(negI c,0)
 l:Okd c.lo (-66) 2
 u:Okd c.hi (-66) 2
 lo:ofQ (1 / 32)≤ofQ (val c.lo)
 hi:ofQ (val c.hi)≤hp-ofQ (1 / 32)
theorem ends_has {d:D} (hd:Okd d (-70) 4) (m0:0<d.m) (h1:p2 (-4)≤val d) {p:Nat} (hr:20≤p∧p≤60):∃ θ c,Ends d p c θ:=by
 obtain ⟨θ,c,T,t0,e,h,n,rl,rh⟩:=tanR_has hd m0 h1 hr
 have x16:val d≤16:=by
  have:=hd.b.2
  rwa [show p2 4=16 by decide +kernel] at this
 rw [show p2 (-4)=1 / 16 by decide +kernel] at h1
 have hb:=hp_bounds
 have a1:=arc_low T t0 (ofQ_le.2 h1)
 have a2:=arc_high T (by rw [← ofQ_zero]; exact ofQ_lt.2 (by grind)) (ofQ_le.2 x16)
 have w:val c.hi-val c.lo≤p2 (5-(p:Int)):=h.w
 have wp:=p2_le (show 5-(p:Int) ≤ -10 by omega)
 rw [show p2 (-10)=1 / 1024 by decide +kernel] at wp
 have m1:ofQ (val c.lo)≤θ:=h.h.m.lo
 have m2:θ≤ofQ (val c.hi):=h.h.m.hi
 have le:val c.lo≤val c.hi:=h.h.ok.le
 have oc:OkI c (-14000) 3:=h.h.ok
 have q1:1 / 20≤val c.hi:=ofQ_le.1 (rle_trans a1 m2)
 have lo:1 / 32≤val c.lo:=by grind
 have hi0:ofQ (val c.hi)≤θ+ofQ (1 / 1024):=by
  have k:=ofQ_le.2 (show val c.hi≤val c.lo+1 / 1024 by grind)
  rw [ofQ_add] at k
  grind
 have e20:ofQ (1 / 20)=ofQ (1 / 1024)+ofQ (1 / 20-1 / 1024):=ofQ_split (by decide +kernel)
 have e32:=ofQ_le.2 (show (1 / 32:Rat)≤1 / 20-1 / 1024 by decide +kernel)
 have hi:ofQ (val c.hi)≤hp-ofQ (1 / 32):=by grind
 have p32:(0:R)≤ofQ (1 / 32):=by rw [← ofQ_zero]; exact ofQ_le.2 (by decide +kernel)
 have hi2:val c.hi≤2:=ofQ_le.1 (by rw [show ofQ 2=(2:R) from rfl]; grind)
 have l5:p2 (-5)≤val c.lo:=by rw [show p2 (-5)=1 / 32 by decide +kernel]; exact lo
 have g1:=rep_grid rl l5
 have g2:=rep_grid rh (show p2 (-5)≤val c.hi by grind)
 have t2:p2 2=4:=by decide +kernel
 refine ⟨θ,c,T,e,h,n,⟨oc.lo.w,g1.mono (by omega),?_⟩,⟨oc.hi.w,g2.mono (by omega),?_⟩,ofQ_le.2 lo,hi⟩
 ·unfold B; rw [t2]; exact ⟨by grind,by grind⟩
 ·unfold B; rw [t2]; exact ⟨by grind,by grind⟩
theorem sSinR {d:D} (hd:Okd d (-66) 2) {p:Nat} (hp:20≤p∧p≤60):trig_Sin (dy d) (p:Int)=some (iv (sinR d (p:Int) 0).1,0)∧Has ((sinR d (p:Int) 0).1,0) (S (ofQ (val d))) (-26100) 700:=by
 have hd':=hd.mono (Int.le_refl _) (H':=10) (by omega)
 have h:=(sinR_has hd' (by omega) (p:=p) (by omega) (m:=0) (by omega)).eq (y:=S (ofQ (val d))) (by
  rw [show ((0:Int):R)=0 from rfl,show ofQ (val d)+0*An.hp=ofQ (val d) by grind])
 have f:=tSin_eq hd.w (p:Int)
 rw [h.e] at f
 exact ⟨f,h.pair⟩
theorem sCosR {d:D} (hd:Okd d (-66) 2) {p:Nat} (hp:20≤p∧p≤60):trig_Cos (dy d) (p:Int)=some (iv (sinR d (p:Int) 1).1,0)∧Has ((sinR d (p:Int) 1).1,0) (C (ofQ (val d))) (-26100) 700∧val (sinR d (p:Int) 1).1.hi-val (sinR d (p:Int) 1).1.lo≤p2 (3-(p:Int)):=by
 have hd':=hd.mono (Int.le_refl _) (H':=10) (by omega)
 have h:=(sinR_has hd' (by omega) (p:=p) (by omega) (m:=1) (by omega)).eq (y:=C (ofQ (val d))) (by
  rw [show ((1:Int):R)=1 from rfl,show ofQ (val d)+1*An.hp=ofQ (val d)+An.hp by grind,S_hp])
 have f:=tCos_eq hd.w (p:Int)
 rw [h.e] at f
 exact ⟨f,h.pair,sTrigCW hd' (by omega) (by omega)⟩
theorem back_core {t:I} {x τ:R} (o1:Okd t.lo (-66) 2) (o2:Okd t.hi (-66) 2) (hT:S τ=x*C τ) (hs:S (ofQ (val t.lo))≤S τ∧S τ≤S (ofQ (val t.hi))) (hc:(C (ofQ (val t.lo))≤C τ∧C τ≤C (ofQ (val t.hi)))∨(C (ofQ (val t.hi))≤C τ∧C τ≤C (ofQ (val t.lo)))) (l1:ofQ (1 / 40)≤C (ofQ (val t.lo))) (l2:ofQ (1 / 40)≤C (ofQ (val t.hi))) {p:Nat} (hp:20≤p∧p≤60):∃ s1 s2 k1 k2 q:I,trig_Sin (dy t.lo) (p:Int)=some (iv s1,0)∧trig_Sin (dy t.hi) (p:Int)=some (iv s2,0)∧trig_Cos (dy t.lo) (p:Int)=some (iv k1,0)∧trig_Cos (dy t.hi) (p:Int)=some (iv k2,0)∧okI s1∧okI s2∧okI k1∧okI k2∧cv_Div (iv (hullI [s1,s2])) (iv (hullI [k1,k2])) 0 (p:Int)=some (iv q,0)∧∃ L H,Has (q,0) x L H:=by
 obtain ⟨f1,h1⟩:=sSinR o1 hp
 obtain ⟨f2,h2⟩:=sSinR o2 hp
 obtain ⟨f3,h3,w3⟩:=sCosR o1 hp
 obtain ⟨f4,h4,w4⟩:=sCosR o2 hp
 generalize (sinR t.lo (p:Int) 0).1=s1 at *
 generalize (sinR t.hi (p:Int) 0).1=s2 at *
 generalize (sinR t.lo (p:Int) 1).1=k1 at *
 generalize (sinR t.hi (p:Int) 1).1=k2 at *
 have hS:=hull_has h1 h2 (Or.inl hs)
 have hC:=hull_has h3 h4 hc
 have wp:=p2_le (show 3-(p:Int) ≤ -10 by omega)
 rw [show p2 (-10)=1 / 1024 by decide +kernel] at wp
 have g3:1 / 40≤val k1.hi:=ofQ_le.1 (rle_trans l1 h3.m.hi)
 have g4:1 / 40≤val k2.hi:=ofQ_le.1 (rle_trans l2 h4.m.hi)
 have low:=hull_low (a:=k1) (b:=k2) (t:=1 / 64) h3.ok.le h4.ok.le (by grind) (by grind)
 have hz:hasI (hullI [k1,k2]) zD=false:=by
  cases hq:hasI (hullI [k1,k2]) zD with
  | false=>rfl
  | true=>
   have:=((hasI_iff _ _).1 hq).1
   rw [val_z] at this
   grind
 obtain ⟨q,fq,hq⟩:=sDiv hS hC hz hT.symm (p:=p) (by omega) (by omega) (by omega)
 exact ⟨s1,s2,k1,k2,q,f1,f2,f3,f4,h1.ok.ok,h2.ok.ok,h3.ok.ok,h4.ok.ok,fq,_,_,hq⟩
theorem back_pos {d:D} {p:Nat} {c:I} {θ:R} (E:Ends d p c θ) (hr:20≤p∧p≤60):∃ s1 s2 k1 k2 q:I,trig_Sin (dy c.lo) (p:Int)=some (iv s1,0)∧trig_Sin (dy c.hi) (p:Int)=some (iv s2,0)∧trig_Cos (dy c.lo) (p:Int)=some (iv k1,0)∧trig_Cos (dy c.hi) (p:Int)=some (iv k2,0)∧okI s1∧okI s2∧okI k1∧okI k2∧cv_Div (iv (hullI [s1,s2])) (iv (hullI [k1,k2])) 0 (p:Int)=some (iv q,0)∧∃ L H,Has (q,0) (ofQ (val d)) L H:=by
 have hb:=hp_bounds
 have p32:(0:R)≤ofQ (1 / 32):=by rw [← ofQ_zero]; exact ofQ_le.2 (by decide +kernel)
 have m1:ofQ (val c.lo)≤θ:=E.h.h.m.lo
 have m2:θ≤ofQ (val c.hi):=E.h.h.m.hi
 have lo:=E.lo
 have hi:=E.hi
 exact back_core E.l E.u E.t.t ⟨S_mono (by grind) m1 (by grind),S_mono (by grind) m2 (by grind)⟩ (Or.inr ⟨C_anti (by grind) m2 (by grind),C_anti (by grind) m1 (by grind)⟩) (cos_low (by grind) (by grind)) (cos_low (by grind) hi) hr
theorem back_neg {d:D} {p:Nat} {c:I} {θ:R} (E:Ends d p c θ) (hr:20≤p∧p≤60):∃ s1 s2 k1 k2 q:I,trig_Sin (dy (negI c).lo) (p:Int)=some (iv s1,0)∧trig_Sin (dy (negI c).hi) (p:Int)=some (iv s2,0)∧trig_Cos (dy (negI c).lo) (p:Int)=some (iv k1,0)∧trig_Cos (dy (negI c).hi) (p:Int)=some (iv k2,0)∧okI s1∧okI s2∧okI k1∧okI k2∧cv_Div (iv (hullI [s1,s2])) (iv (hullI [k1,k2])) 0 (p:Int)=some (iv q,0)∧∃ L H,Has (q,0) (ofQ (val (negD d))) L H:=by
 have hb:=hp_bounds
 have p32:(0:R)≤ofQ (1 / 32):=by rw [← ofQ_zero]; exact ofQ_le.2 (by decide +kernel)
 have m1:ofQ (val c.lo)≤θ:=E.h.h.m.lo
 have m2:θ≤ofQ (val c.hi):=E.h.h.m.hi
 have lo:=E.lo
 have hi:=E.hi
 obtain ⟨n1,n2⟩:=neg_vals c
 have T:=E.t.neg.t
 rw [← ofQ_neg,← val_neg] at T
 refine back_core E.u.neg E.l.neg T ?_ ?_ ?_ ?_ hr
 ·rw [n1,n2,ofQ_neg,ofQ_neg]
  exact ⟨S_mono (by grind) (by grind) (by grind),S_mono (by grind) (by grind) (by grind)⟩
 ·rw [n1,n2,ofQ_neg,ofQ_neg,(SC_neg _).2,(SC_neg _).2,(SC_neg _).2]
  exact Or.inl ⟨C_anti (by grind) m2 (by grind),C_anti (by grind) m1 (by grind)⟩
 ·rw [n1,ofQ_neg,(SC_neg _).2]; exact cos_low (by grind) hi
 ·rw [n2,ofQ_neg,(SC_neg _).2]; exact cos_low (by grind) (by grind)
theorem inv_has {e:D} (he:Okd e (-70) 4) (h1:p2 (-4)≤val e) {p:Nat} (hr:20≤p∧p≤60):∃ c,dS p (intI 1) ⟨e,e⟩ 0=(c,0)∧okI c∧Okd c.lo (-70) 4∧Okd c.hi (-70) 4∧p2 (-4)≤val c.lo∧p2 (-4)≤val c.hi∧val c.lo≤1 / val e∧1 / val e≤val c.hi:=by
 have t4:p2 (-4)=1 / 16:=by decide +kernel
 have t4':p2 4=16:=by decide +kernel
 have p4:=p2_pos (-4)
 have x16:val e≤16:=by
  have:=he.b.2
  rwa [t4'] at this
 have v1:val (fromD 1)=1:=by rw [val_from]; rfl
 have o:Okd (fromD 1) 0 0:=Okd_from (n:=1) (K:=0) (by omega) (by decide)
 have oi:OkI (intI 1) 0 0:=⟨o,o,Rat.le_refl⟩
 have oe:OkI ⟨e,e⟩ (-70) 4:=⟨he,he,Rat.le_refl⟩
 have hnz:hasI ⟨e,e⟩ zD=false:=by
  cases hq:hasI ⟨e,e⟩ zD with
  | false=>rfl
  | true=>
   have:=((hasI_iff _ _).1 hq).1
   rw [val_z] at this
   have this:val e≤0:=this
   grind
 obtain ⟨c,u,v,ec,oc,en,q⟩:=divI_enc (p:=p) oi oe hnz (by omega) (by omega) (by omega)
 have eu:u=1 / val e:=by
  rw [← v1]; rcases q.mu with k | k | k | k<;>exact k
 have ev:v=1 / val e:=by
  rw [← v1]; rcases q.mv with k | k | k | k<;>exact k
 subst eu
 have pe:0<val e:=by grind
 have h16:1 / 16≤val e:=by rw [← t4]; exact h1
 have f1:=mul_of_div (a:=1) (b:=val e) (by grind)
 have q16:1 / 16≤1 / val e∧1 / val e≤16:=by
  generalize 1 / val e=t at *
  constructor
  ·rcases Classical.em (1 / 16≤t) with g | g
   ·exact g
   ·have:=Rat.mul_lt_mul_of_pos_right (show t<1 / 16 by grind) pe; grind
  ·rcases Classical.em (t≤16) with g | g
   ·exact g
   ·have:=Rat.mul_lt_mul_of_pos_right (show 16<t by grind) pe; grind
 have lo16:=en.blo _ (rep_p2 p (-4)) (by rw [t4]; exact q16.1)
 have hi16:=en.bhi _ (rep_p2 p 4) (by rw [t4',ev]; exact q16.2)
 have el:=en.lo
 have eh:=en.hi
 rw [ev] at eh
 have lh:p2 (-4)≤val c.hi:=by rw [t4]; exact Rat.le_trans q16.1 eh
 have g1:=rep_grid en.rlo lo16
 have g2:=rep_grid en.rhi lh
 refine ⟨c,by unfold dS; rw [st_zero]; exact ec,oc.ok,⟨oc.lo.w,g1.mono (by omega),?_⟩,⟨oc.hi.w,g2.mono (by omega),?_⟩,lo16,lh,el,eh⟩
 ·unfold B; rw [t4']; rw [t4] at lo16
  have a1:=q16.2
  generalize 1 / val e=t at *
  exact ⟨by grind,by grind⟩
 ·unfold B; rw [t4']; rw [t4'] at hi16
  have a1:=q16.1
  generalize 1 / val e=t at *
  exact ⟨by grind,by grind⟩
theorem left_has {e:D} (he:Okd e (-70) 4) (h1:p2 (-4)≤val e) {p:Nat} (hr:20≤p∧p≤60):∃ c u v m:I,dS p (intI 1) ⟨e,e⟩ 0=(c,0)∧okI c∧WD c.lo∧WD c.hi∧tanR c.lo (p:Int)=(u,0)∧tanR c.hi (p:Int)=(v,0)∧tanR e (p:Int)=(m,0)∧okI u∧okI v∧okI m∧∃ r a b g:I,cv_Add (iv m) (iv (hullI [u,v])) 0 (p:Int)=some (iv r,0)∧konst_Pi 0 (p:Int)=some (iv a,0)∧cv_Scale (iv a) (-1) 0 (p:Int)=some (iv b,0)∧cv_Meet (iv r) (iv b) 0 (p:Int)=some (iv g,0):=by
 have p4:=p2_pos (-4)
 obtain ⟨c,ec,oc,ol,oh,l1,l2,k1,k2⟩:=inv_has he h1 hr
 have pe:0<val e:=by grind
 obtain ⟨θ1,u,E1⟩:=ends_has ol (val_pos_m (by grind)) l1 hr
 obtain ⟨θ2,v,E2⟩:=ends_has oh (val_pos_m (by grind)) l2 hr
 obtain ⟨θ,m,E⟩:=ends_has he (val_pos_m pe) h1 hr
 have f1:=mul_of_div (a:=1) (b:=val e) (by grind)
 have T:=E.t.turn (y:=ofQ (1 / val e)) (by rw [← ofQ_zero]; exact ofQ_lt.2 pe) (by rw [← ofQ_mul,← ofQ_one]; exact congrArg ofQ (by grind))
 have a1:=E1.t.mono T (ofQ_le.2 k1)
 have a2:=T.mono E2.t (ofQ_le.2 k2)
 have hH:=hull_has E1.h.h E2.h.h (Or.inl ⟨a1,a2⟩)
 obtain ⟨r,fr,hr'⟩:=sAdd E.h.h hH (p:=p) (by omega) (by omega) (by omega)
 obtain ⟨a,b,fa,fb,hb⟩:=sHalfPi (w:=p) (by omega)
 obtain ⟨g,fg⟩:=sMeet (hr'.eq (show θ+(hp-θ)=hp by grind)) hb (p:Int)
 exact ⟨c,u,v,m,ec,oc,ol.w,oh.w,E1.r,E2.r,E.r,E1.h.h.ok.ok,E2.h.h.ok.ok,E.h.h.ok.ok,r,a,b,g,fr,fa,fb,fg⟩
theorem tback_j1 {a:D} {p0:Int} {p:Nat} (hr:20≤p∧p≤60) (hp0:mx p0 20=(p:Int)) (ha:WD a) {t s1 s2 k1 k2 q c u v m r g1 g2 g:I} (f1:tanR a (p:Int)=(t,0)) (f2:tanR (negD a) (p:Int)=(negI t,0)) (ot:okI t) (f3:trig_Sin (dy t.lo) (p:Int)=some (iv s1,0)) (f4:trig_Sin (dy t.hi) (p:Int)=some (iv s2,0)) (f5:trig_Cos (dy t.lo) (p:Int)=some (iv k1,0)) (f6:trig_Cos (dy t.hi) (p:Int)=some (iv k2,0)) (o1:okI s1) (o2:okI s2) (o3:okI k1) (o4:okI k2) (f7:cv_Div (iv (hullI [s1,s2])) (iv (hullI [k1,k2])) 0 (p:Int)=some (iv q,0)) (fh:iv_Has (iv q) (dy a)=some true) (hab:WD (absD a)) (f8:dS p (intI 1) ⟨absD a,absD a⟩ 0=(c,0)) (wl:WD c.lo) (wh:WD c.hi) (f9:tanR c.lo (p:Int)=(u,0)) (f10:tanR c.hi (p:Int)=(v,0)) (f11:tanR (absD a) (p:Int)=(m,0)) (ou:okI u) (ov:okI v) (f12:cv_Add (iv m) (iv (hullI [u,v])) 0 (p:Int)=some (iv r,0)) (f13:konst_Pi 0 (p:Int)=some (iv g1,0)) (f14:cv_Scale (iv g1) (-1) 0 (p:Int)=some (iv g2,0)) (f15:cv_Meet (iv r) (iv g2) 0 (p:Int)=some (iv g,0)):l10_TrigBack_j1 true (dy a) p0 (0,0,(p:Int)) false=some true:=by
 have hull2:∀ {x y:I},okI x→okI y→cv_Hull [iv x,iv y] 0 (p:Int)=some (iv (hullI [x,y]),0):=by
  intro x y hx hy
  have h:=ivHull_eq (l:=[x,y]) (by simp) (by intro z hz; simp only [List.mem_cons,List.not_mem_nil,or_false] at hz; rcases hz with rfl | rfl<;>assumption) (by simp) 0 (p:Int)
  rw [st_zero] at h
  exact h
 have A:∀ {d:D} {z:I},WD d→tanR d (p:Int)=(z,0)→trig_Atan (dy d) (p:Int)=some (iv z,0):=by
  intro d z hd hz
  rw [Atan_eq hd,hz]
 have a1:=A ha f1
 have a2:=A ha.neg f2
 have a3:=A wl f9
 have a4:=A wh f10
 have a5:=A hab f11
 have n1:=dyad_Neg_eq ha
 have h1:=hull2 o1 o2
 have h2:=hull2 o3 o4
 have h3:=hull2 ou ov
 have n2:=ivNeg_eq ot 0 (p:Int)
 rw [st_zero] at n2
 have i1:=ivInt_eq (n:=1) (by omega) 0 (p:Int)
 rw [st_zero] at i1
 have p1:=ivPoint_eq hab 0 (p:Int)
 rw [st_zero] at p1
 have d1:=ivDiv_eq (a:=intI 1) (b:=⟨absD a,absD a⟩) (SI_int (by omega)).ok (okI_point hab) (p:=p) (by omega) 0
 have d2:st 0 zI (divI p (intI 1) ⟨absD a,absD a⟩)=(c,0):=f8
 rw [d2] at d1
 have s:=same10_eq (x:=negI t) (y:=negI t) (okI_neg ot)
 rw [decide_eq_true rfl] at s
 unfold l10_TrigBack_j1 l10_TrigBack_j2 iv_trouble_Err
 rw [if_neg (by simp),hp0,dy_abs]
 refine Eq.trans (congrArg (fun o=>Option.bind o _) a1) ?_
 simp only [obn]
 refine Eq.trans (congrArg (fun o=>Option.bind o _) n1) ?_
 simp only [obn]
 refine Eq.trans (congrArg (fun o=>Option.bind o _) a2) ?_
 simp only [obn]
 refine Eq.trans (congrArg (fun o=>Option.bind o _) f3) ?_
 simp only [obn]
 refine Eq.trans (congrArg (fun o=>Option.bind o _) f4) ?_
 simp only [obn]
 refine Eq.trans (congrArg (fun o=>Option.bind o _) f5) ?_
 simp only [obn]
 refine Eq.trans (congrArg (fun o=>Option.bind o _) f6) ?_
 simp only [obn]
 refine Eq.trans (congrArg (fun o=>Option.bind o _) h1) ?_
 simp only [obn]
 refine Eq.trans (congrArg (fun o=>Option.bind o _) h2) ?_
 simp only [obn]
 refine Eq.trans (congrArg (fun o=>Option.bind o _) f7) ?_
 simp only [obn]
 refine Eq.trans (congrArg (fun o=>Option.bind o _) n2) ?_
 simp only [obn]
 refine Eq.trans (congrArg (fun o=>Option.bind o _) s) ?_
 simp only [obn]
 refine Eq.trans (congrArg (fun o=>Option.bind o _) i1) ?_
 simp only [obn]
 refine Eq.trans (congrArg (fun o=>Option.bind o _) p1) ?_
 simp only [obn]
 refine Eq.trans (congrArg (fun o=>Option.bind o _) d1) ?_
 simp only [obn]
 refine Eq.trans (congrArg (fun o=>Option.bind o _) a3) ?_
 simp only [obn]
 refine Eq.trans (congrArg (fun o=>Option.bind o _) a4) ?_
 simp only [obn]
 refine Eq.trans (congrArg (fun o=>Option.bind o _) a5) ?_
 simp only [obn]
 refine Eq.trans (congrArg (fun o=>Option.bind o _) h3) ?_
 simp only [obn]
 refine Eq.trans (congrArg (fun o=>Option.bind o _) f12) ?_
 simp only [obn]
 refine Eq.trans (congrArg (fun o=>Option.bind o _) f13) ?_
 simp only [obn]
 refine Eq.trans (congrArg (fun o=>Option.bind o _) f14) ?_
 simp only [obn]
 refine Eq.trans (congrArg (fun o=>Option.bind o _) f15) ?_
 simp only [obn]
 rw [if_pos True.intro,if_pos True.intro,if_pos True.intro,if_pos True.intro,if_pos True.intro,if_pos True.intro,if_pos True.intro,if_pos True.intro,if_pos True.intro,if_pos True.intro]
 refine Eq.trans (congrArg (fun o=>Option.bind o _) fh) ?_
 simp only [obn]
 simp
theorem TrigBack_true (a0:AD) (g0:gAD a0) (a1:Int) (g1:(Lit.int .i64 a1).wf=true):l10_TrigBack a0 a1=some true:=by
 unfold l10_TrigBack
 obtain ⟨p0,ep,hp1,hp2⟩:=prec10_eq (wf_i64 g1)
 obtain ⟨p,hm,hr⟩:∃ p:Nat,mx (p0:Int) 20=(p:Int)∧20≤p∧p≤60:=⟨(mx (p0:Int) 20).toNat,by unfold mx; split<;>omega,by unfold mx; split<;>omega,by unfold mx; split<;>omega⟩
 obtain ⟨a,ea,ha⟩:=place10_eq g0 (up:=4) (by omega)
 have fs:=dyad_Size_eq ha.w
 rw [examples10]
 simp only [obn]
 rw [if_neg (by simp),ep]
 simp only [obn]
 rw [hm,ivNew_eq (p:=p) (by omega)]
 simp only [obn]
 rw [if_neg (by simp),ea]
 simp only [obn]
 refine Eq.trans (congrArg (fun o=>Option.bind o _) fs) ?_
 simp only [obn]
 have fin:∀ x,l10_TrigBack_j1 true (dy a) (p0:Int) x true=some true:=by
  intro x
  unfold l10_TrigBack_j1
  rw [if_pos rfl]
 unfold sizeB
 by_cases z:a.m=0
 ·rw [if_pos z,if_pos (by simp)]
  exact fin _
 rw [if_neg z]
 simp only
 rw [if_neg (by simp)]
 by_cases n3:a.e+((blen a.m.natAbs:Nat):Int) < -3
 ·rw [decide_eq_true n3]
  exact fin _
 rw [decide_eq_false n3]
 have h70:=ha.mono (L':=-70) (H':=4) (by omega) (Int.le_refl _)
 obtain ⟨oe,-⟩:=okd_abs h70
 have me:0<(absD a).m:=by unfold absD; simp only; omega
 have se:(absD a).e=a.e∧(absD a).m.natAbs=a.m.natAbs:=by unfold absD; simp
 have low:p2 (-4)≤val (absD a):=by
  have k:=(lnK_pow me).1
  refine Rat.le_trans (p2_le ?_) k
  unfold lnK
  rw [se.1,se.2]
  omega
 obtain ⟨θ,t,E⟩:=ends_has oe me low hr
 obtain ⟨c,u,v,m,f8,oc,wl,wh,f9,f10,f11,ou,ov,om,r,g1,g2,g,f12,f13,f14,f15⟩:=left_has oe low hr
 have ot:=E.h.h.ok.ok
 by_cases neg:a.m<0
 ·obtain ⟨s1,s2,k1,k2,q,f3,f4,f5,f6,o1,o2,o3,o4,f7,L,H,hq⟩:=back_neg E hr
  have en:negD (absD a)=a:=by
   unfold negD absD
   simp only
   rw [show -((a.m.natAbs:Nat):Int)=a.m by omega]
  rw [en] at hq
  have e1:=E.n
  rw [en] at e1
  have e2:tanR (negD a) (p:Int)=(negI (negI t),0):=by
   have:negD a=absD a:=by rw [← en,negD_negD,en]
   rw [this,negI_negI]; exact E.r
  exact tback_j1 hr hm ha.w e1 e2 (okI_neg ot) f3 f4 f5 f6 o1 o2 o3 o4 f7 (sHas hq ha.w rfl) oe.w f8 wl wh f9 f10 f11 ou ov f12 f13 f14 f15
 ·obtain ⟨s1,s2,k1,k2,q,f3,f4,f5,f6,o1,o2,o3,o4,f7,L,H,hq⟩:=back_pos E hr
  have en:absD a=a:=abs_m neg
  rw [en] at hq E
  exact tback_j1 hr hm ha.w E.r E.n ot f3 f4 f5 f6 o1 o2 o3 o4 f7 (sHas hq ha.w rfl) oe.w f8 wl wh f9 f10 f11 ou ov f12 f13 f14 f15
end Go.Proofs.YtjffljhmjdljeaaGreat.Gen
