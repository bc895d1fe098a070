/- Plain theory of the numbers that the statement speaks of: printed from the proofs' own texts, as far as this statement needs it. -/
import Derived.Test.YtjffljhmjdljeaaGreatErffRisesPl2
set_option linter.unusedVariables false
set_option linter.unusedSimpArgs false
namespace Go.Proofs.YtjffljhmjdljeaaGreat.Gen
open Go Go.Abs Go.Plain Go.An
theorem erf_eq {d:D} (hd:WD d) (hb:blen d.m.natAbs≤200) (hv : -6≤val d∧val d≤6) {q:Nat} (hq:2≤q∧q≤264):erff_erf (dy d) (q:Int)=some (iv (erR d (q:Int)).1,(erR d (q:Int)).2):=by
 unfold erff_erf erR
 rw [eterms_eq hd]
 simp only [obn]
 have j:∀ x:Int × Int,erff_erf_j1 x (dy d) (q:Int) true=some (iv zI,x.2):=fun x=>by unfold erff_erf_j1; rw [if_pos rfl,zI_eta]
 by_cases h1:(terR d (q:Int)).2=0
 ·obtain ⟨n,k1,k2,k3,_⟩:=terR_ok (p:=(q:Int)) (by omega) hv h1
  rw [if_neg (by simpa using h1),if_neg (by simpa using h1)]
  by_cases h2:d.m=0
  ·rw [show (((dy d).M.Mag.length:Int) == 0)=true by rw [beq_iff_eq]; exact (mag_zero d).2 h2,j,if_pos h2,h1]
  ·rw [show (((dy d).M.Mag.length:Int) == 0)=false by rw [beq_eq_false_iff_ne]; exact fun h=>h2 ((mag_zero d).1 h),if_neg h2]
   have e:terR d (q:Int)=((n:Int),0):=Prod.ext k1 h1
   rw [e]
   show _=some (iv (erC d ((n:Int)).toNat ((q:Int)).toNat).1,(erC d ((n:Int)).toNat ((q:Int)).toNat).2)
   rw [Int.toNat_natCast,Int.toNat_natCast]
   exact erf_main hd hb (by omega) hq
 ·rw [if_pos h1,if_pos h1,j]
def erfR (d:D) (p:Int):I × Int:=if fitE d p≠0 then (zI,fitE d p) else erR d p
theorem Erf_eq {d:D} (hd:WD d) (p:Int):erff_Erf (dy d) p=some (iv (erfR d p).1,(erfR d p).2):=by
 unfold erff_Erf erfR
 rw [efits_eq hd]
 simp only [obn]
 by_cases h:fitE d p=0
 ·rw [if_neg (by simpa using h),if_neg (by simpa using h)]
  obtain ⟨h1,h2,h3,h4,h5⟩:=fitE_ok h
  obtain ⟨q,rfl⟩:∃ q:Nat,p=(q:Int):=⟨p.toNat,by omega⟩
  refine Eq.trans (congrArg (fun o=>Option.bind o _) (erf_eq hd h3 ⟨h4,h5⟩ (by omega))) ?_
  rfl
 ·rw [if_pos h,if_pos h,zI_eta]
theorem SI_erC (d:D) (n:Nat) {q:Nat} (hq:q≤264):SI (erC d n q).1:=by
 unfold erC erB
 split
 ·exact SI_z
 ·split
  ·exact SI_z
  ·exact SI_done (SI_eA (by omega) _ _ _) (by omega)
theorem SI_erR (d:D) {p:Int} (hp:p≤264):SI (erR d p).1:=by
 unfold erR
 split
 ·exact SI_z
 ·split
  ·exact SI_z
  ·exact SI_erC d _ (by omega)
def ecD (p:Nat) (r:I × Int):I × Int:=if r.2≠0 then (zI,r.2) else doneS p (suS (p+64) (iS 1 0).1 r.1 (iS 1 0).2)
def erfcR (d:D) (p:Int):I × Int:=if fitE d p≠0 then (zI,fitE d p) else ecD p.toNat (erR d (p+64))
theorem Erfc_eq {d:D} (hd:WD d) (p:Int):erff_Erfc (dy d) p=some (iv (erfcR d p).1,(erfcR d p).2):=by
 unfold erff_Erfc erfcR
 rw [efits_eq hd]
 simp only [obn]
 by_cases h:fitE d p=0
 ·rw [if_neg (by simpa using h),if_neg (by simpa using h)]
  obtain ⟨h1,h2,h3,h4,h5⟩:=fitE_ok h
  obtain ⟨q,rfl⟩:∃ q:Nat,p=(q:Int):=⟨p.toNat,by omega⟩
  rw [w64 (by omega) (by omega),show (q:Int)+64=((q+64:Nat):Int) by omega,Int.toNat_natCast]
  have hw:2≤q+64∧q+64≤400:=by omega
  have e1:=erf_eq hd h3 ⟨h4,h5⟩ (q:=q+64) (by omega)
  have s1:=SI_erR d (p:=((q+64:Nat):Int)) (by omega)
  generalize erR d ((q+64:Nat):Int)=r at *
  refine Eq.trans (congrArg (fun o=>Option.bind o _) e1) ?_
  simp only [obn]
  unfold ecD
  by_cases h2:r.2=0
  ·rw [if_neg (by simpa using h2),if_neg (by simpa using h2),ivNew_eq hw]
   simp only [obn]
   have e2:=pInt (n:=1) (by omega) 0 ((q+64:Nat):Int)
   have s2:=SI_iS (n:=1) (by omega) 0
   generalize iS 1 0=i at *
   refine Eq.trans (congrArg (fun o=>Option.bind o _) e2) ?_
   simp only [obn]
   have e3:=pSub hw s2 s1 i.2
   have s3:=SI_suS hw.2 s2 s1 i.2
   generalize suS (q+64) i.1 r.1 i.2=u at *
   refine Eq.trans (congrArg (fun o=>Option.bind o _) e3) ?_
   simp only [obn]
   refine Eq.trans (congrArg (fun o=>Option.bind o _) (edone_eq s3 (by omega) _ _)) ?_
   rfl
  ·rw [if_pos h2,if_pos h2,zI_eta]
 ·rw [if_pos h,if_pos h,zI_eta]
theorem same11_eq {x y:I} (hx:okI x):l11_same (iv x) (iv y)=some (decide (x=y)):=by
 unfold l11_same
 rw [same_eq hx]; rfl
theorem ex11:erfR zD 30=(zI,0)∧(erfR (fromD 7) 30).2=4:=by decide +kernel
theorem examples11:l11_examples=some true:=by
 obtain ⟨h1,h2⟩:=ex11
 have e1:=Erf_eq WD_z 30
 rw [dy_z,h1] at e1
 have e2:=Erf_eq (WD_from (n:=7) (by omega)) 30
 have s:=same11_eq (x:=zI) (y:=zI) okI_z
 rw [iv_z] at s
 unfold l11_examples l11_examples_j1
 rw [e1]
 simp only [obn]
 rw [rFrom5_eq (by omega)]
 simp only [obn]
 refine Eq.trans (congrArg (fun o=>Option.bind o _) e2) ?_
 simp only [obn]
 rw [iv_z,s]
 simp only [obn]
 rw [if_pos True.intro,if_pos (by simp),h2]
 rfl
end Go.Proofs.YtjffljhmjdljeaaGreat.Gen
namespace Go.An
noncomputable def be:Nat→R
 | 0=>1
 | i+1=>be i*2*((2*i+3:Nat):R)⁻¹
theorem odd_pos (i:Nat):(0:R)<((2*i+3:Nat):R):=cast_pos (2*i+2)
theorem be_succ (i:Nat):((2*i+3:Nat):R)*be (i+1)=2*be i:=by
 have h:=odd_pos i
 show ((2*i+3:Nat):R)*(be i*2*((2*i+3:Nat):R)⁻¹)=2*be i
 generalize ((2*i+3:Nat):R)=x at *
 have:=mul_inv (x:=x) (by grind)
 grind
theorem be_pos:∀ i,0<be i
 | 0=>rzero_lt_one
 | i+1=>by
  have h:=inv_pos (odd_pos i)
  have h2:=be_pos i
  have h3:(0:R)<2:=by have:=rzero_lt_one; grind
  exact rmul_pos (rmul_pos h2 h3) h
theorem da_be_le (i:Nat):0≤da be i∧da be i≤be i:=by
 unfold da
 have h1:=be_succ i
 have h2:=be_pos (i+1)
 have h3:=rmul_nonneg (cast_nonneg (i+1)) (show 0≤be (i+1) by grind)
 rw [show 2*i+3=((i+1)+(i+1))+1 by omega,cast_succ,cast_add] at h1
 grind
theorem be_rf:∀ i,be i≤rf i
 | 0=>rle_refl _
 | i+1=>by
  have h1:=(da_be_le i).2
  have h2:=be_rf i
  have h3:=rf_succ i
  have h4:=cast_pos i
  unfold da at h1
  refine Classical.byContradiction fun hn=>?_
  have:=rmul_pos h4 (show 0<be (i+1)-rf (i+1) by grind)
  grind
theorem be_ab (i:Nat):ab (be i)≤rf i:=by
 have:=be_pos i
 rw [ab_of (by grind)]; exact be_rf i
theorem da_be_ab (i:Nat):ab (da be i)≤rf i:=by
 have:=da_be_le i
 rw [ab_of this.1]
 have:=be_rf i
 grind
noncomputable def Bf (u:R):R:=ps be u
theorem Bf_conv (u:R):Conv (psum be u) (Bf u):=ps_rf be_ab u
theorem Bf_fin (u:R) (m:Nat):psum be u (m+1)+2*u*psum (da be) u m=1+2*u*psum be u m:=by
 induction m with
 | zero=>
  show (0+1*u ^ 0)+2*u*0=1+2*u*0
  rw [rpow_zero]; grind
 | succ m ih=>
  have e1:psum be u (m+1+1)=psum be u (m+1)+be (m+1)*u ^ (m+1):=rfl
  have e2:psum (da be) u (m+1)=psum (da be) u m+da be m*u ^ m:=rfl
  have e3:psum be u (m+1)=psum be u m+be m*u ^ m:=rfl
  have k:=be_succ m
  rw [show 2*m+3=((m+1)+(m+1))+1 by omega,cast_succ,cast_add] at k
  rw [e1,e2,rpow_succ]
  unfold da at *
  rw [e3] at ih ⊢
  grind
theorem Bf_ode (u:R):Bf u+2*u*ps (da be) u=1+2*u*Bf u:=by
 have h1:=(Bf_conv u).shift 1
 have h2:=(ps_rf da_be_ab u).mul_c (2*u)
 have h3:=(Conv.const 1).add ((Bf_conv u).mul_c (2*u))
 have h4:=(h1.add h2).congr (t:=fun m=>1+2*u*psum be u m) fun m=>by have:=Bf_fin u m; grind
 have:=h4.uniq (h3.congr fun m=>by grind)
 grind
noncomputable def Fe (x:R):R:=x*Bf (x*x)
noncomputable def Ge (x:R):R:=E (-(x*x))*Fe x
theorem sq_dv (a b:R):Dv (fun h=>h*h) (fun h=>h+h) a b:=((Dv.id a b).mul (Dv.id a b)).congr (fun _ _=>rfl) fun x _=>by grind
theorem Fe_dv {s:R} (hs:0≤s):Dv Fe (fun x=>1+2*x*Fe x) (-s) s:=by
 have h1:=(sq_dv (-s) s).compE fun s hs=>Dv.rf be_ab hs
 refine ((Dv.id (-s) s).mul h1).congr (fun x _=>rfl) fun x _=>?_
 have k:=Bf_ode (x*x)
 unfold Fe
 unfold Bf at *
 grind
theorem Ge_dv {s:R} (hs:0≤s):Dv Ge (fun x=>E (-(x*x))) (-s) s:=by
 have h1:=(nsq_dv (-s) s).compE fun s hs=>E_dv hs
 refine (h1.mul (Fe_dv hs)).congr (fun x _=>rfl) fun x _=>?_
 grind
theorem Ge_mono {x y:R} (h:x≤y):Ge x≤Ge y:=by
 have n1:=ab_nonneg x
 have n2:=ab_nonneg y
 have b1:=ab_le.1 (rle_refl (ab x))
 have b2:=ab_le.1 (rle_refl (ab y))
 have hd:=(Ge_dv (s:=ab x+ab y) (by grind)).sub_iv (c:=x) (d:=y) (by grind) (by grind)
 exact hd.mono h fun z _=>by have:=E_pos (-(z*z)); grind
theorem Ge_neg (x:R):Ge (-x) = -Ge x:=by
 unfold Ge Fe
 rw [show -x * -x=x*x by grind]; grind
theorem Ge_zero:Ge 0=0:=by unfold Ge Fe; grind
theorem Bf_tail {u:R} (h0:0≤u) {n:Nat} (h:4*u≤((2*n+3:Nat):R)):ab (Bf u-psum be u (n+1))≤be n*u ^ n:=by
 have pw:∀ k,0≤u ^ k:=fun k=>pow_nonneg h0 k
 have key:=halving_tail (Bf_conv u) n fun i hi=>by
  have k:=be_succ i
  have p1:=be_pos (i+1)
  have p0:=be_pos i
  have q:=pw i
  have q1:=pw (i+1)
  rw [ab_of (rmul_nonneg (by grind) q1),ab_of (rmul_nonneg (by grind) q),rpow_succ]
  have hm:4*u≤((2*i+3:Nat):R):=by
   have:((2*i+3:Nat):R)=((2*n+3:Nat):R)+((2*(i-n):Nat):R):=by rw [← cast_add]; congr 1; omega
   have:=cast_nonneg (2*(i-n))
   grind
  have h2:=rmul_nonneg (show 0≤((2*i+3:Nat):R)-4*u by grind) (rmul_nonneg (show 0≤be (i+1) by grind) q)
  have k2:((2*i+3:Nat):R)*be (i+1)*u ^ i=2*be i*u ^ i:=by rw [k]
  generalize ((2*i+3:Nat):R)=X at *
  generalize be (i+1)=b at *
  generalize be i=c at *
  generalize u ^ i=p at *
  have e1:(X-4*u)*(b*p)=X*b*p-4*(b*(p*u)):=by grind
  rw [e1,k2,show 2*c*p=2*(c*p) by grind] at h2
  generalize b*(p*u)=x at *
  generalize c*p=y at *
  have:(0:R)<2:=by have:=rzero_lt_one; grind
  grind
 rwa [ab_of (rmul_nonneg (by have:=be_pos n; grind) (pw n))] at key
def beq:Nat→Rat
 | 0=>1
 | i+1=>beq i*2*((2*i+3:Nat):Rat)⁻¹
theorem be_q:∀ i,be i=ofQ (beq i)
 | 0=>rfl
 | i+1=>by
  have h:=be_q i
  show be i*2*((2*i+3:Nat):R)⁻¹=ofQ (beq i*2*((2*i+3:Nat):Rat)⁻¹)
  refine over_q (n:=2*i+3) ?_ (fun e=>by omega)
  rw [h,ofQ_mul]
  rfl
theorem four_q:8*((qsum beq 16 (100+1)+beq 100*16 ^ 100)*(qsum rfq 16 70)⁻¹)*(8*((qsum beq 16 (100+1)+beq 100*16 ^ 100)*(qsum rfq 16 70)⁻¹))<(31415926535897932384626433832794 / 10000000000000000000000000000000:Rat)∧0<qsum rfq 16 70∧0<qsum beq 16 (100+1)+beq 100*16 ^ 100:=by decide +kernel
theorem Bf_at {q:Rat} (h0:0≤q) {n:Nat} (h:4*q≤((2*n+3:Nat):Rat)):Bf (ofQ q)≤ofQ (qsum beq q (n+1)+beq n*q ^ n):=by
 have k:=Bf_tail (ofQ_le.2 h0) (n:=n) (by
  have:=ofQ_le.2 h
  rw [ofQ_mul,ofQ_nat] at this
  exact this)
 have e1:=psum_q be_q q (n+1)
 have e2:be n*ofQ q ^ n=ofQ (beq n*q ^ n):=by rw [be_q,ofQ_mul,ofQ_pow]
 rw [e1,e2] at k
 have:=(ab_le.1 k).2
 rw [ofQ_add]
 grind
theorem Ge_core {n m:Nat} (hn:4*(16:Rat)≤((2*n+3:Nat):Rat)) (q0:8*((qsum beq 16 (n+1)+beq n*16 ^ n)*(qsum rfq 16 m)⁻¹)*(8*((qsum beq 16 (n+1)+beq n*16 ^ n)*(qsum rfq 16 m)⁻¹))<(31415926535897932384626433832794 / 10000000000000000000000000000000:Rat)∧0<qsum rfq 16 m∧0<qsum beq 16 (n+1)+beq n*16 ^ n)
  {r:R} (hr:0<r) (hrr:r*r=hp+hp):2*Ge (ofQ 4)<r:=by
 obtain ⟨q1,q2,q3⟩:=q0
 have b:=Bf_at (q:=16) (by decide +kernel) hn
 have e16:ofQ 4*ofQ 4=ofQ 16:=by rw [← ofQ_mul]; exact congrArg ofQ (by decide +kernel)
 have s:=E_sum (ofQ 16) (ofQ_le.2 (by decide +kernel)) m
 have e1:=psum_q rf_q 16 m
 rw [e1] at s
 have n1:=E_neg (ofQ 16)
 have p1:=E_pos (-(ofQ 16))
 unfold Ge Fe
 rw [e16]
 have hpi:=pi_near.1
 generalize qsum beq 16 (n+1)+beq n*16 ^ n=t at *
 generalize qsum rfq 16 m=v at *
 have hv:(0:R)<ofQ v:=ofQ_pos q2
 have ht:(0:R)<ofQ t:=ofQ_pos q3
 have iv:ofQ v*ofQ v⁻¹=1:=by rw [← ofQ_mul,Rat.mul_inv_cancel _ (by intro h; rw [h] at q2; exact absurd q2 (by decide +kernel))]; rfl
 have hvi:(0:R)<ofQ v⁻¹:=ofQ_pos (Rat.inv_pos.2 q2)
 have k1:E (-(ofQ 16))≤ofQ v⁻¹:=by
  have a:=rmul_le s (show 0≤E (-(ofQ 16))*ofQ v⁻¹ from rmul_nonneg (by grind) (by grind))
  have x1:ofQ v*(E (-(ofQ 16))*ofQ v⁻¹)=E (-(ofQ 16)):=by
   rw [show ofQ v*(E (-(ofQ 16))*ofQ v⁻¹)=ofQ v*ofQ v⁻¹*E (-(ofQ 16)) by grind,iv]; grind
  have x2:E (ofQ 16)*(E (-(ofQ 16))*ofQ v⁻¹)=ofQ v⁻¹:=by
   rw [show E (ofQ 16)*(E (-(ofQ 16))*ofQ v⁻¹)=E (ofQ 16)*E (-(ofQ 16))*ofQ v⁻¹ by grind,n1]; grind
  rw [x1,x2] at a
  exact a
 have k2:E (-(ofQ 16))*Bf (ofQ 16)≤ofQ (t*v⁻¹):=by
  rw [ofQ_mul]
  have a:=rmul_le' b (show 0≤E (-(ofQ 16)) by grind)
  have c:=rmul_le k1 (show 0≤ofQ t by grind)
  grind
 have k3:2*(E (-(ofQ 16))*(ofQ 4*Bf (ofQ 16)))≤ofQ (8*(t*v⁻¹)):=by
  rw [ofQ_mul,show (ofQ 8:R)=2*ofQ 4 by rw [show (2:R)=ofQ 2 from rfl,← ofQ_mul]; exact congrArg ofQ (by decide +kernel)]
  have h4:(0:R)<ofQ 4:=ofQ_pos (by decide +kernel)
  have h2:(0:R)<2:=by have:=rzero_lt_one; grind
  have:=rmul_le' k2 (show 0≤2*ofQ 4 by have:=rmul_pos h2 h4; grind)
  grind
 generalize 8*(t*v⁻¹)=q at *
 have k4:ofQ q*ofQ q<r*r:=by
  rw [hrr,← ofQ_mul]
  have:=ofQ_lt.2 q1
  grind
 have k5:ofQ q<r:=by
  refine Classical.byContradiction fun hn=>?_
  have:=rmul_mono (show r≤ofQ q by grind) (show r≤ofQ q by grind) (by grind) (by grind)
  grind
 grind
theorem Ge_4 {r:R} (hr:0<r) (hrr:r*r=hp+hp):2*Ge (ofQ 4)<r:=Ge_core (n:=100) (m:=70) (by decide +kernel) four_q hr hrr
end Go.An
namespace Go.Proofs.YtjffljhmjdljeaaGreat.Gen
open Go Go.Abs Go.Plain Go.An
theorem mag_ex {u:Rat} : ∀ (n:Nat) (l:Int),p2 l≤u→u≤p2 (l+n)→∃ s:Int,p2 s≤u∧u≤p2 (s+2)
 | 0,l,h1,h2=>⟨l,h1,Rat.le_trans h2 (p2_le (by omega))⟩
 | n+1,l,h1,h2=>by
  by_cases h:u≤p2 (l+n)
  ·exact mag_ex n l h1 h
  ·exact ⟨l+n,by grind,Rat.le_trans h2 (p2_le (by omega))⟩
structure PR (w:Nat) (c:I) (z:R) (l K:Int) (α:Rat):Prop where
 h:Has (c,0) z (l-w) K
 r:Rel c α
 lo:p2 l≤val c.lo
 rl:rep w (val c.lo)
 rh:rep w (val c.hi)
theorem PR.hi {w:Nat} {c:I} {z:R} {l K:Int} {α:Rat} (h:PR w c z l K α):val c.hi≤p2 K:=h.h.ok.hi.b.2
theorem PR.mono {w:Nat} {c:I} {z:R} {l K l' K':Int} {α β:Rat} (h:PR w c z l K α) (h1:l'≤l) (h2:K≤K') (h3:α≤β):PR w c z l' K' β:=
 ⟨h.h.mono (by omega) h2,⟨h.r.pos,h.r.le,by
  have a:=h.r.rel
  have b:=Rat.mul_le_mul_of_nonneg_left (show 1+α≤1+β by grind) (Rat.le_of_lt h.r.pos)
  grind⟩,Rat.le_trans (p2_le h1) h.lo,h.rl,h.rh⟩
theorem pe_small {p:Nat} (hp:10≤p):0<p2 (2-(p:Int))∧p2 (2-(p:Int))≤1 / 64:=by
 have:=p2_le (show 2-(p:Int) ≤ -6 by omega)
 rw [show p2 (-6)=1 / 64 by decide +kernel] at this
 exact ⟨p2_pos _,this⟩
theorem pr_of {w:Nat} (hw:10≤w) {c:I} {z:R} {L H l K:Int} {u v α:Rat} (o:OkI c L H) (m:Mem c z) (en:Enc w c u v) (hl:p2 l≤u) (huv:u≤v) (hv:v≤p2 K) (hα:0≤α) (hα2:α≤1) (hr:v≤u*(1+α)):PR w c z l K (α+8*p2 (2-(w:Int))):=by
 have pl:=p2_pos l
 have lK:l≤K:=by
  refine Decidable.byContradiction fun h=>?_
  have h1:=p2_le (show K+1≤l by omega)
  have h2:=p2_pos K
  rw [p2_add,show p2 1=2 from rfl] at h1
  grind
 have lo:=en.blo _ (rep_p2 w l) hl
 have hi:=en.bhi _ (rep_p2 w K) hv
 obtain ⟨s,s1,s2⟩:=mag_ex (u:=u) (K-l).toNat l hl (by rw [show l+((K-l).toNat:Int)=K by omega]; exact Rat.le_trans huv hv)
 obtain ⟨t,t1,t2⟩:=mag_ex (u:=v) (K-l).toNat l (Rat.le_trans hl huv) (by rw [show l+((K-l).toNat:Int)=K by omega]; exact hv)
 have r1:=enc_relL en s1 s2
 have r2:=enc_relH en t1 t2
 obtain ⟨e1,e2⟩:=pe_small hw
 have ole:=o.le
 have k:=rel_alg1 (show 0≤u by grind) r1 hα hα2 (Rat.le_of_lt e1) e2
 have n:=Rat.mul_le_mul_of_nonneg_right hr (show 0≤1+p2 (2-(w:Int)) by grind)
 have pK:=p2_pos K
 refine ⟨⟨rfl,⟨⟨o.lo.w,rep_grid en.rlo lo,?_⟩,⟨o.hi.w,rep_grid en.rhi (Rat.le_trans lo ole),?_⟩,ole⟩,m⟩,⟨by grind,ole,by grind⟩,lo,en.rlo,en.rhi⟩
 ·exact ⟨by show -(p2 K)≤val c.lo; grind,by show val c.lo≤p2 K; grind⟩
 ·exact ⟨by show -(p2 K)≤val c.hi; grind,hi⟩
theorem mul_rel {a0 a1 b0 b1 α β:Rat} (ha:0≤a0) (hb:0≤b0) (h1:a1≤a0*(1+α)) (h2:b1≤b0*(1+β)) (hα:0≤α) (hβ:0≤β) (hα2:α≤1 / 4) (hb1:0≤b1):a1*b1≤a0*b0*(1+(α+2*β)):=by
 have k1:=Rat.mul_le_mul_of_nonneg_right h1 hb1
 have k2:=Rat.mul_le_mul_of_nonneg_left h2 (show 0≤a0*(1+α) from Rat.mul_nonneg ha (by grind))
 have key:(1+α)*(1+β)≤1+(α+2*β):=by
  have:=Rat.mul_le_mul_of_nonneg_right hα2 hβ
  grind
 have k3:=Rat.mul_le_mul_of_nonneg_left key (Rat.mul_nonneg ha hb)
 grind
theorem PR.mul {w:Nat} (hw:10≤w) {a b:I} {x y:R} {l K m N M:Int} {α β:Rat} (ha:PR w a x l K α) (hb:Has (b,0) y M N) (rb:Rel b β) (hm:p2 m≤val b.lo) (hα:0≤α) (hβ:0≤β) (hα2:α≤1 / 4) (hβ2:β≤1 / 4) (hL : -60000≤l-w+M) (hH:K+N≤60000) :
  ∃ c,mS w a b 0=(c,0)∧PR w c (x*y) (l+m) (K+N) (α+2*β+8*p2 (2-(w:Int))):=by
 obtain ⟨c,u,v,e,o,en,pr⟩:=mulI_ok ha.h.ok hb.ok (p:=w) (by omega) hL hH
 have hm':=has_mul ha.h hb (p:=w) (by omega) hL hH
 have e':mS w a b 0=(c,0):=by unfold mS; rw [st_zero]; exact e
 have e'':mS w (a,(0:Int)).1 (b,(0:Int)).1 0=(c,0):=e'
 rw [e''] at hm'
 have a0:=ha.r.pos; have a1:=ha.r.le; have b0:=rb.pos; have b1:=rb.le
 have ah:0<val a.hi:=by grind
 have bh:0<val b.hi:=by grind
 have m1:=Rat.mul_le_mul_of_nonneg_left b1 (Rat.le_of_lt a0)
 have m2:=Rat.mul_le_mul_of_nonneg_right a1 (Rat.le_of_lt b0)
 have m3:=Rat.mul_le_mul_of_nonneg_right a1 (Rat.le_of_lt bh)
 have m4:=Rat.mul_le_mul_of_nonneg_left b1 (Rat.le_of_lt ah)
 have hu:u=val a.lo*val b.lo:=by
  have:=pr.h1.1
  rcases pr.mu with q | q | q | q<;>simp only at q this<;>grind
 have hv:v=val a.hi*val b.hi:=by
  have:=pr.h4.2
  rcases pr.mv with q | q | q | q<;>simp only at q this<;>grind
 rw [hu,hv] at en
 have k:=mul_rel (Rat.le_of_lt a0) (Rat.le_of_lt b0) ha.r.rel rb.rel hα hβ hα2 (Rat.le_of_lt bh)
 refine ⟨c,e',pr_of hw o hm'.m en ?_ (by grind) ?_ (by grind) (by grind) k⟩
 ·rw [p2_add]
  have q1:=Rat.mul_le_mul_of_nonneg_right ha.lo (Rat.le_of_lt (p2_pos m))
  have q2:=Rat.mul_le_mul_of_nonneg_left hm (Rat.le_of_lt a0)
  grind
 ·rw [p2_add]
  have q1:=Rat.mul_le_mul_of_nonneg_right ha.hi (Rat.le_of_lt bh)
  have q2:=Rat.mul_le_mul_of_nonneg_left hb.ok.hi.b.2 (Rat.le_of_lt (p2_pos K))
  grind
theorem PR.div {w:Nat} (hw:10≤w) {a b:I} {x y z:R} {l K m N M:Int} {α β:Rat} (ha:PR w a x l K α) (hb:Has (b,0) y M N) (rb:Rel b β) (hm:p2 m≤val b.lo) (hzy:z*y=x) (hα:0≤α) (hβ:0≤β) (hα2:α≤1 / 4) (hβ2:β≤1 / 4) (hL : -60000≤l-w-N-w-2) (hH:K-M+2≤60000) :
  ∃ c,dS w a b 0=(c,0)∧PR w c z (l-N) (K-m) (α+2*β+8*p2 (2-(w:Int))):=by
 have a0:=ha.r.pos; have a1:=ha.r.le; have b0:=rb.pos; have b1:=rb.le
 have ah:0<val a.hi:=by grind
 have bh:0<val b.hi:=by grind
 have hz:hasI b zD=false:=by
  unfold hasI
  have hv0:val zD=0:=by unfold val zD; grind
  have:¬(cmpD b.lo zD≤0):=fun h=>by
   have:=(cmpD_le _ _).1 h
   rw [hv0] at this
   grind
  simp [this]
 obtain ⟨c,u,v,e,o,en,pr⟩:=divI_enc ha.h.ok hb.ok hz (p:=w) (by omega) hL hH
 have hm':=has_div ha.h hb hz hzy (p:=w) (by omega) hL hH
 have e':dS w a b 0=(c,0):=by unfold dS; rw [st_zero]; exact e
 have e'':dS w (a,(0:Int)).1 (b,(0:Int)).1 0=(c,0):=e'
 rw [e''] at hm'
 have il:0<(val b.lo)⁻¹:=Rat.inv_pos.2 b0
 have ih:0<(val b.hi)⁻¹:=Rat.inv_pos.2 bh
 have ilc:val b.lo*(val b.lo)⁻¹=1:=Rat.mul_inv_cancel _ (by grind)
 have ihc:val b.hi*(val b.hi)⁻¹=1:=Rat.mul_inv_cancel _ (by grind)
 have dd:∀ s t:Rat,s / t=s*t⁻¹:=fun s t=>Rat.div_def s t
 have x1:val b.lo*((val b.lo)⁻¹*(val b.hi)⁻¹)=(val b.hi)⁻¹:=by rw [← Rat.mul_assoc,ilc,Rat.one_mul]
 have x2:val b.hi*((val b.lo)⁻¹*(val b.hi)⁻¹)=(val b.lo)⁻¹:=by rw [Rat.mul_comm (val b.lo)⁻¹,← Rat.mul_assoc,ihc,Rat.one_mul]
 have ile:(val b.hi)⁻¹≤(val b.lo)⁻¹:=by
  have k:=Rat.mul_le_mul_of_nonneg_right b1 (Rat.le_of_lt (Rat.mul_pos il ih))
  rw [x1,x2] at k; exact k
 have irel:(val b.lo)⁻¹≤(val b.hi)⁻¹*(1+β):=by
  have k:=Rat.mul_le_mul_of_nonneg_right rb.rel (Rat.le_of_lt (Rat.mul_pos il ih))
  rw [x2,show val b.lo*(1+β)*((val b.lo)⁻¹*(val b.hi)⁻¹)=val b.lo*((val b.lo)⁻¹*(val b.hi)⁻¹)*(1+β) by rw [Rat.mul_assoc,Rat.mul_comm (1+β),← Rat.mul_assoc],x1] at k; exact k
 have m1:=Rat.mul_le_mul_of_nonneg_left ile (Rat.le_of_lt a0)
 have m2:=Rat.mul_le_mul_of_nonneg_right a1 (Rat.le_of_lt ih)
 have m3:=Rat.mul_le_mul_of_nonneg_right a1 (Rat.le_of_lt il)
 have m4:=Rat.mul_le_mul_of_nonneg_left ile (Rat.le_of_lt ah)
 have hu:u=val a.lo*(val b.hi)⁻¹:=by
  have h:=pr.h2.1
  have mu:=pr.mu
  rw [dd] at h
  rw [dd,dd,dd,dd] at mu
  clear pr en hm' ihc ilc irel dd x1 x2
  generalize (val b.lo)⁻¹=i at *
  generalize (val b.hi)⁻¹=j at *
  rcases mu with q | q | q | q<;>grind
 have hv:v=val a.hi*(val b.lo)⁻¹:=by
  have h:=pr.h3.2
  have mv:=pr.mv
  rw [dd] at h
  rw [dd,dd,dd,dd] at mv
  clear pr en hm' ihc ilc irel dd x1 x2
  generalize (val b.lo)⁻¹=i at *
  generalize (val b.hi)⁻¹=j at *
  rcases mv with q | q | q | q<;>grind
 rw [hu,hv] at en
 have k:=mul_rel (Rat.le_of_lt a0) (Rat.le_of_lt ih) ha.r.rel irel hα hβ hα2 (Rat.le_of_lt il)
 have pm:=p2_pos (-m)
 have pN:=p2_pos (-N)
 have inN:p2 (-N)≤(val b.hi)⁻¹:=by
  have q:=Rat.mul_le_mul_of_nonneg_right hb.ok.hi.b.2 (Rat.le_of_lt (Rat.mul_pos pN ih))
  have q0:p2 N*p2 (-N)=1:=by rw [← p2_add,show N + -N=0 by omega]; exact p2_zero
  have q1:p2 N*(p2 (-N)*(val b.hi)⁻¹)=(val b.hi)⁻¹:=by rw [← Rat.mul_assoc,q0,Rat.one_mul]
  have q2:val b.hi*(p2 (-N)*(val b.hi)⁻¹)=p2 (-N):=by
   rw [show val b.hi*(p2 (-N)*(val b.hi)⁻¹)=val b.hi*(val b.hi)⁻¹*p2 (-N) by grind,ihc,Rat.one_mul]
  have q':val b.hi*(p2 (-N)*(val b.hi)⁻¹)≤p2 N*(p2 (-N)*(val b.hi)⁻¹):=q
  rw [q1,q2] at q'
  exact q'
 have inm:(val b.lo)⁻¹≤p2 (-m):=by
  have q:=Rat.mul_le_mul_of_nonneg_right hm (Rat.le_of_lt (Rat.mul_pos pm il))
  have q0:p2 m*p2 (-m)=1:=by rw [← p2_add,show m + -m=0 by omega]; exact p2_zero
  have q1:p2 m*(p2 (-m)*(val b.lo)⁻¹)=(val b.lo)⁻¹:=by rw [← Rat.mul_assoc,q0,Rat.one_mul]
  have q2:val b.lo*(p2 (-m)*(val b.lo)⁻¹)=p2 (-m):=by
   rw [show val b.lo*(p2 (-m)*(val b.lo)⁻¹)=val b.lo*(val b.lo)⁻¹*p2 (-m) by grind,ilc,Rat.one_mul]
  have q':p2 m*(p2 (-m)*(val b.lo)⁻¹)≤val b.lo*(p2 (-m)*(val b.lo)⁻¹):=q
  rw [q1,q2] at q'
  exact q'
 refine ⟨c,e',pr_of hw o hm'.m en ?_ (by grind) ?_ (by grind) (by grind) k⟩
 ·rw [show l-N=l + -N by omega,p2_add]
  have q1:=Rat.mul_le_mul_of_nonneg_right ha.lo (Rat.le_of_lt pN)
  have q2:=Rat.mul_le_mul_of_nonneg_left inN (Rat.le_of_lt a0)
  grind
 ·rw [show K-m=K + -m by omega,p2_add]
  have q1:=Rat.mul_le_mul_of_nonneg_right ha.hi (Rat.le_of_lt il)
  have q2:=Rat.mul_le_mul_of_nonneg_left inm (Rat.le_of_lt (p2_pos K))
  grind
theorem PR.add {w:Nat} (hw:10≤w) {a b:I} {x y:R} {l K l' K' L H K2:Int} {α:Rat} (ha:PR w a x l K α) (hb:PR w b y l' K' α) (h1:L≤l-w) (h2:L≤l'-w) (h3:K≤H) (h4:K'≤H) (hL : -60000≤L) (hH:H+1≤60000) (hα:0≤α) (hα2:α≤1) (hK:val a.hi+val b.hi≤p2 K2) :
  ∃ c,aS w a b 0=(c,0)∧PR w c (x+y) l K2 (α+8*p2 (2-(w:Int))):=by
 obtain ⟨c,e,o,en⟩:=addI_ok (ha.h.ok.mono h1 h3) (hb.h.ok.mono h2 h4) (p:=w) (by omega) hL hH
 have hm':=has_add (ha.h.mono h1 h3) (hb.h.mono h2 h4) (p:=w) (by omega) hL hH
 have e':aS w a b 0=(c,0):=by unfold aS; rw [st_zero]; exact e
 have e'':aS w (a,(0:Int)).1 (b,(0:Int)).1 0=(c,0):=e'
 rw [e''] at hm'
 have a0:=ha.r.pos; have a1:=ha.r.le; have b0:=hb.r.pos; have b1:=hb.r.le; have a2:=ha.r.rel; have b2:=hb.r.rel; have al:=ha.lo
 exact ⟨c,e',pr_of hw o hm'.m en (by grind) (by grind) hK hα hα2 (by grind)⟩
theorem PR.wide {w:Nat} (hw:10≤w) {a:I} {x y:R} {l K L H K2:Int} {α δ:Rat} {d:D} (ha:PR w a x l K α) (hd:Okd d L H) (h1:L≤l-w) (h3:K≤H) (hL : -60000≤L) (hH:H+1≤60000) (hxy:ab (y-x)≤ofQ (val d)) (hd0:0≤val d) (hδ:val d≤val a.lo*δ) (hδ0:0≤δ) (hδ2:δ≤1 / 8) (hα:0≤α) (hα2:α≤1 / 4) (hK:val a.hi+val d≤p2 K2) :
  ∃ c,wS w a d 0=(c,0)∧PR w c y (l-1) K2 (α+4*δ+8*p2 (2-(w:Int))):=by
 obtain ⟨c,e,o,en⟩:=wideI_ok (ha.h.ok.mono h1 h3) hd hd0 (p:=w) (by omega) hL hH
 have hm':=has_wide (ha.h.mono h1 h3) hd hxy (p:=w) (by omega) hL hH
 have e':wS w a d 0=(c,0):=by unfold wS; rw [st_zero]; exact e
 have e'':wS w (a,(0:Int)).1 d 0=(c,0):=e'
 rw [e''] at hm'
 have a0:=ha.r.pos; have a1:=ha.r.le; have a2:=ha.r.rel; have al:=ha.lo
 have q:=Rat.mul_le_mul_of_nonneg_left hδ2 (Rat.le_of_lt a0)
 have hl:p2 l=2*p2 (l-1):=by rw [show l=1+(l-1) by omega,p2_add,show (1+(l-1))-1=l-1 by omega]; rfl
 refine ⟨c,e',pr_of hw o hm'.m en (by grind) (by grind) hK (by grind) (by grind) ?_⟩
 have b1:δ*α≤δ*(1 / 4):=Rat.mul_le_mul_of_nonneg_left hα2 hδ0
 have b2:δ*δ≤δ*(1 / 8):=Rat.mul_le_mul_of_nonneg_left hδ2 hδ0
 have key:1+α+δ≤(1-δ)*(1+(α+4*δ)):=by grind
 have k1:=Rat.mul_le_mul_of_nonneg_left key (Rat.le_of_lt a0)
 have k2:(val a.lo-val a.lo*δ)*(1+(α+4*δ))≤(val a.lo-val d)*(1+(α+4*δ)):=Rat.mul_le_mul_of_nonneg_right (by grind) (by grind)
 grind
theorem rep_scale {p:Nat} {q:Rat} (h:rep p q) (n:Int):rep p (q*p2 n):=by
 obtain ⟨a,f,rfl,h2⟩:=h
 exact ⟨a,f+n,by rw [p2_add,Rat.mul_assoc],h2⟩
theorem PR.scale {w:Nat} {a:I} {x:R} {l K:Int} {α:Rat} (ha:PR w a x l K α) (n:Int) (hL : -60000≤l-w+n) (hH:K+n≤60000):∃ c,scS a n 0=(c,0)∧PR w c (x*ofQ (p2 n)) (l+n) (K+n) α:=by
 obtain ⟨c,e,o,e1,e2⟩:=scaleI_ok (n:=n) ha.h.ok hL hH
 have hm:=has_scale (n:=n) ha.h hL hH
 have e':scS a n 0=(c,0):=by unfold scS; rw [st_zero]; exact e
 have e'':scS (a,(0:Int)).1 n 0=(c,0):=e'
 rw [e''] at hm
 have pn:=p2_pos n
 have a0:=ha.r.pos; have a1:=ha.r.le; have a2:=ha.r.rel; have al:=ha.lo
 refine ⟨c,e',hm.mono (by omega) (Int.le_refl _),⟨?_,o.le,?_⟩,?_,?_,?_⟩
 ·rw [e1]; exact Rat.mul_pos a0 pn
 ·rw [e1,e2]
  have:=Rat.mul_le_mul_of_nonneg_right a2 (Rat.le_of_lt pn)
  grind
 ·rw [e1,p2_add]; exact Rat.mul_le_mul_of_nonneg_right al (Rat.le_of_lt pn)
 ·rw [e1]; exact rep_scale ha.rl n
 ·rw [e2]; exact rep_scale ha.rh n
theorem exp_w11 {p:Nat} (hp:16≤p∧p≤240) {y:I} {x:R} {L:Int} (hy:HasW (y,0) x L (-3) 0) (hL0:L≤0) {M:Int} (hM:M≤0-(p+20-L)*(p / 2+4:Nat)) (hM' : -60000≤M):HasW (expI p y) (E x) M 2 (p2 (11-(p:Int))):=by
 have hpp:=p2_pos (-(p:Int))
 have hi:=in_box hy.h.ok
 unfold expI
 rw [if_pos hi]
 have hN:p / 2+4≤124:=by omega
 have i1:HasW (intI 1,0) (1:R) 0 0 0:=hw_int (n:=1) (K:=0) (by omega) (by decide)
 have hx:=box_mem hi hy.h.m
 have hx3:ab x≤hf*hf*hf:=by
  rw [show (-3:Int) = -((3:Nat):Int) from rfl,p2_neg_nat] at hx
  have:hf ^ 3=hf*hf*hf:=by rw [rpow_succ,rpow_succ,rpow_succ,rpow_zero]; grind
  rw [this] at hx; exact hx
 have hx1:ab x≤hf:=by
  have h2:=hf_two
  have h3:=hf_pos
  have hc:hf*hf*hf≤hf:=by
   have k1:=rmul_le (show hf*hf≤1 by have:=rmul_mono (show hf≤1 by grind) (show hf≤1 by grind) (by grind) (by have:=rzero_lt_one; grind); grind) (show 0≤hf by grind)
   grind
  exact rle_trans hx3 hc
 have q3:p2 (-(p:Int))=8*p2 (-3-(p:Int)):=by rw [show -(p:Int)=3+(-3-(p:Int)) by omega,p2_add]; rfl
 have q3':p2 (-3)*p2 (-(p:Int))=p2 (-3-(p:Int)):=by rw [← p2_add]; congr 1
 have q2:p2 (2-(p:Int))=4*p2 (-(p:Int)):=by rw [show 2-(p:Int)=2 + -(p:Int) by omega,p2_add]; rfl
 have q10:p2 (11-(p:Int))=2048*p2 (-(p:Int)):=by rw [show 11-(p:Int)=11 + -(p:Int) by omega,p2_add]; rfl
 have q8:p2 (-(p:Int))≤p2 (-16):=p2_le (by omega)
 have q8':p2 (-16)=1 / 65536:=by decide +kernel
 have hNr:(((p / 2+4:Nat):Nat):Rat)≤124:=by exact_mod_cast natCast_le hN
 have hcN:=ser_lim (c:=p+20-L) (N:=p / 2+4) (by omega) (by omega)
 have h:=ser_wk (p:=p) (by omega) (nExp p y) (fun i=>rf i*x ^ i) (fun i=>rf i*x ^ i) (fun i=>psum rf x (i+1)) (L0:=0) (c:=p+20-L) (Q:=2) (Hh:=0) (wt:=p2 (-(p:Int))) (wp:=p2 (-(p:Int))) (m:=2) (w0:=0) (by omega) (N:=p / 2+4) (fun i=>rfl) (by grind) (by
  intro i t hiN ht
  have m1:=cmul_le (c:=p+20-L) (by omega) (show i+1≤p / 2+4 by omega)
  have e1:=cmul_succ (p+20-L) i
  have h1:=hw_mul (p:=p) ht hy (by omega) (by omega) (by omega)
  have h3:=hw_div_1 (p:=p) (z:=rf (i+1)*x ^ (i+1)) h1 (n:=i+1) (k:=10) (by omega) (by omega) (by omega) (exp_step x i) (by omega) (by omega) (by omega)
  have h4:=h3.mono (L':=0-(p+20-L)*(i+1:Nat)) (H':=0) (w':=p2 (-(p:Int))) (by omega) (by omega) (by
   rw [p2_zero,show (0:Int) + -3-(p:Int) = -3-(p:Int) by omega]
   grind)
  unfold nExp
  rw [h1.h.e,show (iS ((i+1:Nat):Int) 0).2=0 from rfl]
  exact ⟨h4.h.e,h4.pair,h4.pair⟩) (fun i=>psum_two rf_one hx1 _) (by
   rw [q2,show p2 2=4 from rfl]
   have:=Rat.mul_le_mul_of_nonneg_right hNr (show 0≤p2 (-(p:Int))+2*(4*p2 (-(p:Int))) by grind)
   generalize ((p / 2+4:Nat):Rat)=N at *
   rw [q8'] at q8
   generalize p2 (-(p:Int))=z at *
   clear q3 q3' q2 q10 hx hx3 hx1 hi hy
   grind) (by omega) (by omega) (by omega) (p / 2+4) 0 (intI 1) (intI 1) (by omega)
  ((i1.mono (by omega) (by omega) (by have:((0:Nat):Rat)=0:=rfl; rw [this]; grind)).eq (by show 1=psum rf x 0+rf 0*x ^ 0; rw [rpow_zero,show psum rf x 0=0 from rfl,show rf 0=1 from rfl]; grind)) ((i1.mono (by omega) (by omega) (by grind)).eq (by rw [rpow_zero,show rf 0=1 from rfl]; grind))
 have ht:=tail_eighth (x:=x) hx3 (p / 2+4+1)
 unfold finS
 rw [h.h.e]
 have h5:=hw_wide (p:=p) (K:=2) (m:=2) (h.mono (L':=M) (H':=2) (by omega) (by omega) Rat.le_refl) (d:=⟨1,-(p:Int)⟩) (Okd_half (by omega) (by omega) (by omega)) (y:=E x) (by
  rw [val_half,p2_neg_nat]
  refine rle_trans ht ?_
  rw [← pow_add',← pow_add']
  have h1:=hf_le (show p+1≤p / 2+4+1+(p / 2+4+1)+(p / 2+4+1) by omega)
  have h2:=two_hf p
  grind) (psum_two rf_one hx1 _) (by
   rw [val_half,q2,show p2 2=4 from rfl]
   have:=Rat.mul_le_mul_of_nonneg_right hNr (show 0≤p2 (-(p:Int))+2*(4*p2 (-(p:Int))) by grind)
   generalize ((p / 2+4:Nat):Rat)=N at *
   rw [q8'] at q8
   generalize p2 (-(p:Int))=z at *
   clear q3 q3' q2 q10 hx hx3 hx1 hi hy
   grind) (by omega) (by omega) (by omega)
 refine h5.mono (Int.le_refl _) (Int.le_refl _) ?_
 rw [val_half,q2,q10]
 have:=Rat.mul_le_mul_of_nonneg_right hNr (show 0≤p2 (-(p:Int))+2*(4*p2 (-(p:Int))) by grind)
 generalize ((p / 2+4:Nat):Rat)=N at *
 clear h5
 generalize p2 (-(p:Int))=z at *
 grind
theorem bindE_err {r:D × Int} (h:r.2≠0) (f:D→I × Int):bindE r zI f=(zI,r.2):=by unfold bindE; rw [if_neg h]
theorem bindE_two {x y:D} {p:Nat} (h:(bindE (roundD x p false) zI fun lo=>bindE (roundD y p true) zI fun hi=>((⟨lo,hi⟩:I),0)).2=0):rep p (val (bindE (roundD x p false) zI fun lo=>bindE (roundD y p true) zI fun hi=>((⟨lo,hi⟩:I),0)).1.lo)∧rep p (val (bindE (roundD x p false) zI fun lo=>bindE (roundD y p true) zI fun hi=>((⟨lo,hi⟩:I),0)).1.hi):=by
 by_cases h1:(roundD x p false).2=0
 ·by_cases h2:(roundD y p true).2=0
  ·rw [bindE_ok h1,bindE_ok h2]
   refine ⟨?_,?_⟩
   ·show rep p (val (roundD x p false).1)
    rw [show (roundD x p false).1=rnd x p false from tell_ok' h1]
    exact rnd_rep x p false
   ·show rep p (val (roundD y p true).1)
    rw [show (roundD y p true).1=rnd y p true from tell_ok' h2]
    exact rnd_rep y p true
  ·rw [bindE_ok h1,bindE_err h2] at h
   exact absurd h h2
 ·rw [bindE_err h1] at h
  exact absurd h h1
theorem two_bind {s t:D × Int} {p:Nat} (h:(bindE s zI fun a=>bindE (roundD a p false) zI fun lo=>bindE t zI fun b=>bindE (roundD b p true) zI fun hi=>((⟨lo,hi⟩:I),0)).2=0):rep p (val (bindE s zI fun a=>bindE (roundD a p false) zI fun lo=>bindE t zI fun b=>bindE (roundD b p true) zI fun hi=>((⟨lo,hi⟩:I),0)).1.lo)∧rep p (val (bindE s zI fun a=>bindE (roundD a p false) zI fun lo=>bindE t zI fun b=>bindE (roundD b p true) zI fun hi=>((⟨lo,hi⟩:I),0)).1.hi):=by
 by_cases h0:s.2=0
 ·by_cases h1:(roundD s.1 p false).2=0
  ·by_cases h2:t.2=0
   ·have e:(bindE s zI fun a=>bindE (roundD a p false) zI fun lo=>bindE t zI fun b=>bindE (roundD b p true) zI fun hi=>((⟨lo,hi⟩:I),0))=(bindE (roundD s.1 p false) zI fun lo=>bindE (roundD t.1 p true) zI fun hi=>((⟨lo,hi⟩:I),0)):=by
     rw [bindE_ok h0,bindE_ok h1,bindE_ok h2,bindE_ok h1]
    rw [e] at h ⊢
    exact bindE_two h
   ·rw [bindE_ok h0,bindE_ok h1,bindE_err h2] at h
    exact absurd h h2
  ·rw [bindE_ok h0,bindE_err h1] at h
   exact absurd h h1
 ·rw [bindE_err h0] at h
  exact absurd h h0
theorem wideI_rep {p:Nat} {a:I} {d:D} (h:(wideI p a d).2=0):rep p (val (wideI p a d).1.lo)∧rep p (val (wideI p a d).1.hi):=two_bind h
theorem finS_rep {p:Nat} {r:I × Int} (h:(finS p r).2=0):rep p (val (finS p r).1.lo)∧rep p (val (finS p r).1.hi):=by
 unfold finS wS st at h ⊢
 split at h
 ·rename_i h0
  rw [if_pos h0]
  exact wideI_rep h
 ·rename_i h0
  exact absurd h h0
theorem expI_rep {p:Nat} {y:I} (h:(expI p y).2=0):rep p (val (expI p y).1.lo)∧rep p (val (expI p y).1.hi):=by
 unfold expI at h ⊢
 split at h
 ·rename_i h0
  rw [if_pos h0]
  exact finS_rep h
 ·exact absurd h (by decide)
theorem ex_farH {w:Nat} (hw:w≤230) {L:Int} (hL : -150≤L∧L≤0) : -48000≤0-(w+20-L)*((w / 2+4:Nat):Int):=by
 have:(w+20-L)*((w / 2+4:Nat):Int)≤400*((119:Nat):Int):=Int.mul_le_mul (by omega) (by omega) (by omega) (by omega)
 omega
theorem ex_firstH {d:D} {L:Int} (h:Okd d L 4) (hL : -140≤L∧L≤0) {w:Nat} (hw:40≤w∧w≤230):Has (eS w (srS ⟨d,d⟩ (-(exN d:Int)) 0)) (E (ofQ (val d*p2 (-(exN d:Int))))) (-1-(w:Int)) 2∧p2 (-1)≤val (eS w (srS ⟨d,d⟩ (-(exN d:Int)) 0)).1.lo∧val (eS w (srS ⟨d,d⟩ (-(exN d:Int)) 0)).1.hi≤val (eS w (srS ⟨d,d⟩ (-(exN d:Int)) 0)).1.lo*(1+p2 (12-(w:Int))):=by
 have hn:=exN_le h (by omega)
 have h1:=ex_small h (by omega) (by omega)
 have h2:=exp_w11 (p:=w) (by omega) h1.pair (by omega) (M:=-48000) (ex_farH hw.2 (by omega)) (by omega)
 unfold eS
 rw [h1.h.e,st_zero]
 have hw2:=h2.w
 have hh:=h2.h.m.hi
 have hb:=(exN_B d).1
 have hg:=E_ge (ofQ (val d*p2 (-(exN d:Int))))
 have hq:ofQ (1+val d*p2 (-(exN d:Int)))≤ofQ (val (expI w (srS ⟨d,d⟩ (-(exN d:Int)) 0).1).1.hi):=by
  rw [ofQ_add]; exact rle_trans hg hh
 have hq:=ofQ_le.1 hq
 have p11:p2 (11-(w:Int))≤p2 (-6):=p2_le (by omega)
 have p10':p2 (-6)=1 / 64:=by decide +kernel
 have p3':p2 (-3)=1 / 8:=by decide +kernel
 have p1':p2 (-1)=1 / 2:=by decide +kernel
 have p12:p2 (12-(w:Int))=2*p2 (11-(w:Int)):=by rw [show 12-(w:Int)=1+(11-(w:Int)) by omega,p2_add]; rfl
 have p0:=p2_pos (11-(w:Int))
 obtain ⟨r1,r2⟩:=expI_rep h2.h.e
 have o:=h2.h.ok
 have e:=h2.h.e
 have m:=h2.h.m
 clear h2
 generalize expI w (srS ⟨d,d⟩ (-(exN d:Int)) 0).1=r at *
 rw [p10'] at p11
 rw [p3'] at hb
 generalize val d*p2 (-(exN d:Int))=t at *
 have lo:1 / 2≤val r.1.lo:=by grind
 have ole:=o.le
 have lo':p2 (-1)≤val r.1.lo:=by rw [p1']; exact lo
 refine ⟨⟨e,⟨⟨o.lo.w,rep_grid r1 lo',o.lo.b⟩,⟨o.hi.w,rep_grid r2 (Rat.le_trans lo' ole),o.hi.b⟩,ole⟩,m⟩,lo',?_⟩
 have k:=Rat.mul_le_mul_of_nonneg_right lo (show 0≤p2 (12-(w:Int)) by grind)
 grind
theorem three_pow8 {k:Nat} (h:k≤8):3 ^ k≤8192:=Nat.le_trans (Nat.pow_le_pow_right (by decide) h) (by decide)
theorem E_dbl {x:R} {n:Nat} (h:E x≤ofQ (p2 n)):E (x+x)≤ofQ (p2 ((n+n:Nat):Int)):=by
 rw [E_add,show ((n+n:Nat):Int)=(n:Int)+(n:Int) by omega,p2_add,ofQ_mul]
 have:=E_pos x
 exact rmul_mono h h (by grind) (by grind)
theorem E_16:E (ofQ 16)≤ofQ (p2 32):=by
 have h0:E hf≤ofQ (p2 ((1:Nat):Int)):=by
  have:=E_up (x:=hf) (by have:=hf_pos; grind) (rle_refl _)
  have t:=hf_two
  rw [show ofQ (p2 ((1:Nat):Int))=(2:R) from rfl]
  grind
 have h1:=E_dbl h0
 rw [show hf+hf=ofQ 1 by have:=hf_two; rw [ofQ_one]; grind] at h1
 have st:∀ {a:Rat} {n:Nat},E (ofQ a)≤ofQ (p2 n)→E (ofQ (a+a))≤ofQ (p2 ((n+n:Nat):Int)):=fun {a n} h=>by rw [ofQ_add]; exact E_dbl h
 have h2:=st h1
 have h3:=st h2
 have h4:=st h3
 have h5:=st h4
 rw [show (1:Rat)+1+(1+1)+(1+1+(1+1))+(1+1+(1+1)+(1+1+(1+1)))=16 by grind] at h5
 exact h5
theorem bell_low {x:R} (h0:x≤0) (h1 : -(ofQ 16)≤x):ofQ (p2 (-32))≤E x∧E x≤1:=by
 have a:=E_mono h1
 have b:=E_mono h0
 rw [show E 0=1 from E_zero] at b
 refine ⟨rle_trans ?_ a,b⟩
 have n:=E_neg (ofQ 16)
 have q:=E_16
 have pz:=E_pos (-(ofQ 16))
 have m:=rmul_le' q (show 0≤E (-(ofQ 16))*ofQ (p2 (-32)) from rmul_nonneg (by grind) (by have:=ofQ_pos (p2_pos (-32)); grind))
 have k:ofQ (p2 32)*ofQ (p2 (-32))=1:=by rw [← ofQ_mul,← p2_add]; exact congrArg ofQ p2_zero
 have x1:E (ofQ 16)*(E (-(ofQ 16))*ofQ (p2 (-32)))=ofQ (p2 (-32)):=by
  rw [show E (ofQ 16)*(E (-(ofQ 16))*ofQ (p2 (-32)))=E (ofQ 16)*E (-(ofQ 16))*ofQ (p2 (-32)) by grind,n]; grind
 have x2:ofQ (p2 32)*(E (-(ofQ 16))*ofQ (p2 (-32)))=E (-(ofQ 16)):=by
  rw [show ofQ (p2 32)*(E (-(ofQ 16))*ofQ (p2 (-32)))=ofQ (p2 32)*ofQ (p2 (-32))*E (-(ofQ 16)) by grind,k]; grind
 grind
theorem bell_has {d:D} {L:Int} (h:Okd d L 4) (hL : -130≤L∧L≤0) (h0:val d≤0) {p:Nat} (hp:40≤p∧p≤198):∃ c,expR d (p:Int)=(c,0)∧PR p c (E (ofQ (val d))) (-34) 1 (p2 (8-(p:Int))):=by
 obtain ⟨f1,f2,f3⟩:=ex_firstH h (by omega) (w:=p+32) (by omega)
 have hn:=exN_le h (by omega)
 have hk:2 ^ exN d≤2 ^ 8:=Nat.pow_le_pow_right (by decide) (by omega)
 have hk':(2:Nat) ^ 8=256:=by decide
 obtain ⟨g1,g2⟩:=pow_has (p:=p+32) (by omega) (exN d) 1 2 _ _ _ f1 f2 (by omega) (by omega) (by omega) (-600) (by omega) (by omega)
 have e1:ofQ (val d*p2 (-(exN d:Int)))*ofQ (p2 ((exN d:Nat):Int))=ofQ (val d):=by
  rw [← ofQ_mul]; congr 1
  have:=p2_back (-(exN d:Int)) (val d)
  rwa [Int.neg_neg] at this
 have g1:=(g1.eq (congrArg E e1)).mono (Int.le_refl _) (H':=512) (by omega)
 have z6:16*p2 (2-((p+32:Nat):Int))=p2 (6-((p+32:Nat):Int)):=by rw [show 6-((p+32:Nat):Int)=4+(2-((p+32:Nat):Int)) by omega,p2_add]; rfl
 have z6':=p2_le (show 6-((p+32:Nat):Int)≤12-((p+32:Nat):Int) by omega)
 have z27:8192*p2 (12-((p+32:Nat):Int))=p2 (-7-(p:Int)):=by rw [show -7-(p:Int)=13+(12-((p+32:Nat):Int)) by omega,p2_add]; rfl
 have z3:=p2_le (show -7-(p:Int) ≤ -3 by omega)
 rw [show p2 (-3)=1 / 8 by decide +kernel] at z3
 have k3:=Rat.mul_le_mul_of_nonneg_right (natCast_le (three_pow8 (k:=exN d) (by omega))) (Rat.le_of_lt (p2_pos (12-((p+32:Nat):Int))))
 rw [show ((8192:Nat):Rat)=8192 from rfl,z27] at k3
 have hr:=pow_rel (p:=p+32) (by omega) (exN d) 1 2 _ _ _ (p2 (12-((p+32:Nat):Int))) f1 f2 (by omega) (by omega) (by omega) (by rw [z6]; exact z6') (Rat.le_trans k3 z3) f3
 have hf:fitB d (p:Int)=true:=by
  unfold fitB
  have hb:blen d.m.natAbs≤400:=by
   by_cases h0:d.m=0
   ·rw [h0]; decide
   ·have:=okd_size h h0; omega
  rw [decide_eq_true (show 2≤(p:Int) by omega),decide_eq_true (show (p:Int)≤336 by omega),decide_eq_true hb]; rfl
 unfold expR exS
 rw [hf,if_pos rfl,Int.toNat_natCast,if_neg (by
  intro hc
  have:=(okd_size h hc.1).2
  omega)]
 unfold doneS
 rw [g1.e,st_zero]
 clear f1 f2 f3
 have hlo:0<val (powS (p+32) (exN d) (eS (p+32) (srS ⟨d,d⟩ (-(exN d:Int)) 0))).1.lo:=by
  have:=p2_pos (-((2 ^ exN d*1:Nat):Int))
  grind
 generalize powS (p+32) (exN d) (eS (p+32) (srS ⟨d,d⟩ (-(exN d:Int)) 0))=r at *
 obtain ⟨c,e,o,en⟩:=outI_ok g1.ok (p:=p) (by omega) (by omega) (by omega)
 have hm:=has_out g1 (p:=p) (by omega) (by omega) (by omega)
 rw [e] at hm ⊢
 refine ⟨c,rfl,?_⟩
 have b16 : -(ofQ 16)≤ofQ (val d):=by
  have:=ofQ_le.2 h.b.1
  rw [ofQ_neg,show p2 4=16 by decide +kernel] at this
  exact this
 obtain ⟨b1,b2⟩:=bell_low (by rw [← ofQ_zero]; exact ofQ_le.2 h0) b16
 have m1:=ofQ_le.1 (rle_trans b1 g1.m.hi)
 have m2:=rle_trans g1.m.lo b2
 rw [← ofQ_one] at m2
 have m2:=ofQ_le.1 m2
 have ole:=g1.ok.le
 have k4:=Rat.mul_le_mul_of_nonneg_left k3 (Rat.le_of_lt hlo)
 have k5:=Rat.mul_le_mul_of_nonneg_left z3 (Rat.le_of_lt hlo)
 have t32:p2 (-32)=4*p2 (-34):=by decide +kernel
 have t34:=p2_pos (-34)
 have pa:=p2_pos (-7-(p:Int))
 have hr':val r.1.hi≤val r.1.lo*(1+p2 (-7-(p:Int))):=by grind
 have key:=pr_of (w:=p) (by omega) (l:=-34) (K:=1) (α:=p2 (-7-(p:Int))) o hm.m en (by grind) ole (by rw [show p2 1=2 from rfl]; grind) (Rat.le_of_lt pa) (by grind) hr'
 refine key.mono (Int.le_refl _) (Int.le_refl _) ?_
 have q2:p2 (2-(p:Int))=512*p2 (-7-(p:Int)):=by rw [show 2-(p:Int)=9+(-7-(p:Int)) by omega,p2_add]; rfl
 have q8:p2 (8-(p:Int))=32768*p2 (-7-(p:Int)):=by rw [show 8-(p:Int)=15+(-7-(p:Int)) by omega,p2_add]; rfl
 rw [q2,q8]
 grind
theorem root_has {r:R} (h0:0≤r) (hr:r*r=An.hp+An.hp) {w:Nat} (hw:20≤w∧w≤200):∃ c,rootS w 0=(c,0)∧Has (c,0) r (-(2*(w:Int))-3) 3∧Rel c (p2 (14-(w:Int)))∧1≤val c.lo∧val c.hi≤2:=by
 obtain ⟨k1,k2⟩:=pi_fine (p:=w) hw
 unfold rootS
 have e:=k1.h.e
 generalize piS w 0=a at *
 obtain ⟨a,a2⟩:=a
 have e:a2=0:=e
 subst e
 have hb:val a.hi≤p2 1*p2 1:=by
  have:=k1.h.ok.hi.b.2
  rw [← p2_add]; exact this
 have k2:3≤val a.lo:=k2
 obtain ⟨c,e1,e2,e3,e4,e5⟩:=hw_sqrt (p:=w) (K:=1) (L':=-(2*(w:Int))-3) (H':=1) k1 (by grind) h0 hr (by omega) hb (by omega) (by omega) (by omega) (by omega) (by omega)
 have q:4*p2 (1-(w:Int))≤p2 (13-(w:Int)):=by
  have:=p2_le (show 3-(w:Int)≤13-(w:Int) by omega)
  rw [show 3-(w:Int)=2+(1-(w:Int)) by omega,p2_add,show p2 2=4 from rfl] at this
  exact this
 have q14:p2 (14-(w:Int))=2*p2 (13-(w:Int)):=by rw [show 14-(w:Int)=1+(13-(w:Int)) by omega,p2_add]; rfl
 have p13:=p2_pos (13-(w:Int))
 have ole:=e2.ok.le
 refine ⟨c,e1,e2,⟨by grind,ole,?_⟩,e3,by rw [show p2 1=2 from rfl] at e4; exact e4⟩
 have m:=Rat.mul_le_mul_of_nonneg_right e3 (show 0≤p2 (14-(w:Int)) by grind)
 have ole':val c.lo≤val c.hi:=ole
 grind
end Go.Proofs.YtjffljhmjdljeaaGreat.Gen
namespace Go.An
noncomputable def Te (x:R) (i:Nat):R:=x*(be i*(x*x) ^ i)
noncomputable def Se (x:R) (i:Nat):R:=x*psum be (x*x) (i+1)
theorem Te_zero (x:R):Te x 0=x:=by
 unfold Te
 rw [rpow_zero,show be 0=1 from rfl]; grind
theorem Se_zero (x:R):Se x 0=x:=by
 unfold Se
 rw [show psum be (x*x) (0+1)=0+be 0*(x*x) ^ 0 from rfl,rpow_zero,show be 0=1 from rfl]; grind
theorem Se_succ (x:R) (i:Nat):Se x (i+1)=Se x i+Te x (i+1):=by
 unfold Se Te
 rw [show psum be (x*x) (i+1+1)=psum be (x*x) (i+1)+be (i+1)*(x*x) ^ (i+1) from rfl]; grind
theorem Te_succ (x:R) (i:Nat):((2*i+3:Nat):R)*Te x (i+1)=Te x i*(x*x*2):=by
 have k:=be_succ i
 unfold Te
 rw [rpow_succ]
 generalize (x*x) ^ i=p at *
 rw [show ((2*i+3:Nat):R)*(x*(be (i+1)*(p*(x*x))))=((2*i+3:Nat):R)*be (i+1)*(x*(p*(x*x))) by grind,k]
 grind
theorem Te_nn {x:R} (h:0≤x) (i:Nat):0≤Te x i:=by
 have:=be_pos i
 exact rmul_nonneg h (rmul_nonneg (by grind) (pow_nonneg (sq_nonneg x) i))
theorem Te_Se {x:R} (h:0≤x):∀ i,Te x i≤Se x i∧0≤Se x i
 | 0=>by rw [Te_zero,Se_zero]; exact ⟨rle_refl _,h⟩
 | i+1=>by
  have k:=Te_Se h i
  have t:=Te_nn h (i+1)
  rw [Se_succ]
  grind
theorem Se_mono {x:R} (h:0≤x) (i:Nat):∀ k,Se x i≤Se x (i+k)
 | 0=>rle_refl _
 | k+1=>by
  have a:=Se_mono h i k
  have t:=Te_nn h (i+k+1)
  rw [show i+(k+1)=(i+k)+1 by omega,Se_succ]
  grind
theorem psum_be_le {u:R} (h:0≤u):∀ m,psum be u m≤psum rf u m
 | 0=>rle_refl _
 | m+1=>by
  have a:=psum_be_le h m
  have b:=rmul_le' (be_rf m) (pow_nonneg h m)
  show psum be u m+be m*u ^ m≤psum rf u m+rf m*u ^ m
  grind
theorem Se_le {x:R} (h:0≤x) (i:Nat):Se x i≤x*E (x*x):=by
 have a:=psum_be_le (sq_nonneg x) (i+1)
 have b:=E_sum (x*x) (sq_nonneg x) (i+1)
 have:=rmul_le (rle_trans a b) h
 unfold Se
 grind
theorem Te_halve {x:R} (h:0≤x) {i:Nat} (hm:4*(x*x)≤((2*i+3:Nat):R)):Te x (i+1)≤Te x i*hf:=by
 have k:=Te_succ x i
 have p1:=Te_nn h (i+1)
 have p0:=Te_nn h i
 have t:=hf_two
 have s:=sq_nonneg x
 by_cases h0:x*x=0
 ·have:Te x (i+1)=0:=by unfold Te; rw [rpow_succ,h0]; grind
  have hp:=hf_pos
  have:=rmul_nonneg p0 (show 0≤hf by grind)
  grind
 ·have hp:0<4*(x*x):=by
   have:(0:R)<4:=by have:=rzero_lt_one; grind
   exact rmul_pos this (by grind)
  refine cancel hp ?_
  have m:=rmul_le' hm p1
  have e:Te x i*hf*(4*(x*x))=Te x i*(x*x*2):=by
   rw [show Te x i*hf*(4*(x*x))=Te x i*(x*x*2)*(hf+hf) by grind,t]; grind
  rw [e,← k]
  grind
theorem Te_far {x:R} (h:0≤x) {i:Nat} (hm:4*(x*x)≤((2*i+3:Nat):R)):∀ k,Te x (i+k)≤Te x i*hf ^ k
 | 0=>by rw [rpow_zero]; show Te x i≤_; grind
 | k+1=>by
  have a:=Te_far h hm k
  have hm':4*(x*x)≤((2*(i+k)+3:Nat):R):=by
   rw [show 2*(i+k)+3=(2*i+3)+2*k by omega,cast_add]
   have:=cast_nonneg (2*k)
   grind
  have b:=Te_halve h hm'
  have hp:=hf_pos
  have c:=rmul_le' a (show 0≤hf by grind)
  rw [rpow_succ,show i+(k+1)=(i+k)+1 by omega]
  grind
theorem Fe_tail {x:R} (h:0≤x) {n:Nat} (hm:4*(x*x)≤((2*n+3:Nat):R)):ab (Fe x-Se x n)≤Te x n:=by
 have k:=Bf_tail (sq_nonneg x) hm
 have e:Fe x-Se x n=x*(Bf (x*x)-psum be (x*x) (n+1)):=by unfold Fe Se; grind
 rw [e,ab_mul,ab_of h]
 exact rmul_le' k h
end Go.An
namespace Go.Proofs.YtjffljhmjdljeaaGreat.Gen
open Go Go.Abs Go.Plain Go.An
theorem PR.cut {w:Nat} {c:I} {z:R} {l K H K':Int} {α:Rat} (h:PR w c z l K α) (hz:z≤ofQ (p2 H)) (hα:α≤1) (hK:K'=H+1):PR w c z l K' α:=by
 subst hK
 have a:=ofQ_le.1 (rle_trans h.h.m.lo hz)
 have a:val c.lo≤p2 H:=a
 have p0:=h.r.pos
 have q:=Rat.mul_le_mul_of_nonneg_left hα (Rat.le_of_lt p0)
 have r:=h.r.rel
 have r0:=h.r.le
 have e:p2 (H+1)=2*p2 H:=by rw [Int.add_comm,p2_add]; rfl
 have pH:=p2_pos H
 have o:=h.h.ok
 exact ⟨⟨h.h.e,⟨⟨o.lo.w,o.lo.g,⟨by show -(p2 (H+1))≤val c.lo; grind,by show val c.lo≤_; grind⟩⟩,⟨o.hi.w,o.hi.g,⟨by show -(p2 (H+1))≤val c.hi; grind,by show val c.hi≤_; grind⟩⟩,o.le⟩,h.h.m⟩,h.r,h.lo,h.rl,h.rh⟩
theorem PR.eq {w:Nat} {c:I} {z z':R} {l K:Int} {α:Rat} (h:PR w c z l K α) (e:z=z'):PR w c z' l K α:=by subst e; exact h
theorem odd_has {n:Nat} (h0:1≤n) (hn:n≤1024):Has ((iS (n:Int) 0).1,0) ((n:Nat):R) 0 10∧Rel (iS (n:Int) 0).1 0∧p2 0≤val (iS (n:Int) 0).1.lo∧(iS (n:Int) 0).2=0:=by
 have h:=has_int (n:=(n:Int)) (K:=10) (by omega) (by rw [Int.natAbs_natCast]; exact hn)
 have v:val (iS (n:Int) 0).1.lo=(n:Rat):=by
  show val (fromD (n:Int))=(n:Rat)
  rw [val_from]; exact Rat.intCast_natCast n
 have v2:val (iS (n:Int) 0).1.hi=(n:Rat):=by
  show val (fromD (n:Int))=(n:Rat)
  rw [val_from]; exact Rat.intCast_natCast n
 have n1:(1:Rat)≤(n:Rat):=natCast_le h0
 refine ⟨h,⟨by rw [v]; grind,by rw [v,v2]; exact Rat.le_refl,by rw [v,v2]; grind⟩,by rw [p2_zero,v]; exact n1,rfl⟩
theorem eN_PR {w:Nat} (hw:70≤w∧w≤200) {tw t:I} {v z z':R} {l:Int} {α:Rat} (h1:PR w tw v (-123) 5 (8*p2 (2-(w:Int)))) (h2:PR w t z l 35 α) (hl : -40000≤l∧l≤0) {i:Nat} (hi:2*i+1≤1024) (hα:0≤α) (hα2:α≤1 / 8) (hz:z'*((2*i+1:Nat):R)=z*v) (hb:z'≤ofQ (p2 34)):∃ c,eN w tw i t 0=(c,0)∧PR w c z' (l-133) 35 (α+32*p2 (2-(w:Int))):=by
 have e0:=p2_pos (2-(w:Int))
 have e1:=p2_le (show 2-(w:Int) ≤ -10 by omega)
 rw [show p2 (-10)=1 / 1024 by decide +kernel] at e1
 obtain ⟨c,k1,k2⟩:=h2.mul (by omega) h1.h h1.r h1.lo hα (by grind) (by grind) (by grind) (by omega) (by omega)
 obtain ⟨o1,o2,o3,o4⟩:=odd_has (n:=2*i+1) (by omega) hi
 obtain ⟨d,k3,k4⟩:=k2.div (by omega) o1 o2 o3 hz (by grind) (Rat.le_refl) (by grind) (by grind) (by omega) (by omega)
 refine ⟨d,?_,?_⟩
 ·unfold eN
  rw [k1]
  exact k3
 ·exact (k4.cut hb (by grind) (K':=35) rfl).mono (by omega) (by omega) (by grind)
theorem eTw_PR {w:Nat} (hw:70≤w∧w≤200) {y:D} (hy:Okd y (-62) 2) (h0:p2 (-62)≤val y) (hr:rep w (val y)):pS y 0=(⟨y,y⟩,0)∧PR w ⟨y,y⟩ (ofQ (val y)) (-62) 2 0∧∃ c,eTw w (⟨y,y⟩,0)=(c,0)∧PR w c (ofQ (val y)*ofQ (val y)*2) (-123) 5 (8*p2 (2-(w:Int))):=by
 have e0:=p2_pos (2-(w:Int))
 have p62:=p2_pos (-62)
 have hp:=has_point hy
 have ep:pS y 0=(⟨y,y⟩,0):=rfl
 have hp':Has (⟨y,y⟩,0) (ofQ (val y)) (-62) 2:=hp
 have rl:Rel ⟨y,y⟩ 0:=⟨by show 0<val y; grind,Rat.le_refl,by show val y≤val y*(1+0); grind⟩
 have P:PR w ⟨y,y⟩ (ofQ (val y)) (-62) 2 0:=⟨hp'.mono (by omega) (Int.le_refl _),rl,h0,hr,hr⟩
 refine ⟨ep,P,?_⟩
 obtain ⟨c,k1,k2⟩:=P.mul (by omega) hp' rl (m:=-62) h0 (Rat.le_refl) (Rat.le_refl) (by grind) (by grind) (by omega) (by omega)
 obtain ⟨d,k3,k4⟩:=k2.scale 1 (by omega) (by omega)
 refine ⟨d,?_,(k4.mono (by omega) (by omega) (by grind)).eq (by rw [show ofQ (p2 1)=(2:R) from rfl])⟩
 unfold eTw
 rw [k1]
 exact k3
theorem eL_PR {w:Nat} (hw:70≤w∧w≤200) {tw:I} {x:R} (hx:0≤x) (hS:∀ i,Se x i≤ofQ (p2 34)) (h1:PR w tw (x*x*2) (-123) 5 (8*p2 (2-(w:Int)))):∀ (k i:Nat) (t s:I),i+k≤240→PR w t (Te x i) (-62-133*(i:Int)) 35 ((i:Rat)*(40*p2 (2-(w:Int))))→PR w s (Se x i) (-62) 35 ((i:Rat)*(40*p2 (2-(w:Int))))→
  ∃ t' s',eL w tw k (i+1) t s 0=(t',s',0)∧PR w t' (Te x (i+k)) (-62-133*((i+k:Nat):Int)) 35 (((i+k:Nat):Rat)*(40*p2 (2-(w:Int))))∧PR w s' (Se x (i+k)) (-62) 35 (((i+k:Nat):Rat)*(40*p2 (2-(w:Int))))
 | 0,i,t,s,_,h2,h3=>⟨t,s,rfl,h2,h3⟩
 | k+1,i,t,s,hk,h2,h3=>by
  have e0:=p2_pos (2-(w:Int))
  have e1:=p2_le (show 2-(w:Int) ≤ -30 by omega)
  rw [show p2 (-30)=1 / 1073741824 by decide +kernel] at e1
  have ci:(i:Rat)≤240:=natCast_le (show i≤240 by omega)
  have c0:(0:Rat)≤(i:Rat):=natCast_le (Nat.zero_le i)
  have cs:((i+1:Nat):Rat)=(i:Rat)+1:=Rat.natCast_add i 1
  have b:=Rat.mul_le_mul_of_nonneg_right ci (show 0≤40*p2 (2-(w:Int)) by grind)
  have b0:=Rat.mul_nonneg c0 (show 0≤40*p2 (2-(w:Int)) by grind)
  have b1:((i+1:Nat):Rat)*(40*p2 (2-(w:Int)))=(i:Rat)*(40*p2 (2-(w:Int)))+40*p2 (2-(w:Int)):=by rw [cs]; grind
  have q:=Te_Se hx (i+1)
  obtain ⟨t',k1,k2⟩:=eN_PR hw (i:=i+1) (z':=Te x (i+1)) h1 h2 (by omega) (by omega) b0 (by grind) (by
   have:=Te_succ x i
   rw [show 2*(i+1)+1=2*i+3 by omega]
   grind) (rle_trans q.1 (hS _))
  have p35:p2 36=2*p2 35:=by decide +kernel
  have hb1:=h3.hi
  have hb2:=k2.hi
  obtain ⟨s',k3,k4⟩:=(h3.mono (Int.le_refl _) (Int.le_refl _) (β:=(i:Rat)*(40*p2 (2-(w:Int)))+32*p2 (2-(w:Int))) (by grind)).add (by omega) k2 (L:=-40000) (H:=35) (K2:=36) (by omega) (by omega) (by omega) (by omega) (by omega) (by omega) (by grind) (by grind) (by grind)
  have e:=k4.eq (Se_succ x i).symm
  have e':=(e.cut (hS (i+1)) (by grind) (K':=35) rfl).mono (β:=((i+1:Nat):Rat)*(40*p2 (2-(w:Int)))) (Int.le_refl _) (Int.le_refl _) (by rw [b1]; grind)
  have t2:=k2.mono (l':=-62-133*((i+1:Nat):Int)) (β:=((i+1:Nat):Rat)*(40*p2 (2-(w:Int)))) (by omega) (Int.le_refl _) (by rw [b1]; grind)
  obtain ⟨a,b,m1,m2,m3⟩:=eL_PR hw hx hS h1 k (i+1) t' s' (by omega) t2 e'
  refine ⟨a,b,?_,?_,?_⟩
  ·rw [eL,k1]
   show eL w tw k (i+1+1) t' (aS w s t' 0).1 (aS w s t' 0).2=_
   rw [k3]
   exact m1
  ·rw [show i+(k+1)=i+1+k by omega]; exact m2
  ·rw [show i+(k+1)=i+1+k by omega]; exact m3
theorem eF_PR {w n:Nat} (hw:70≤w∧w≤200) (hn:n≤240) {y:D} (hy:Okd y (-62) 2) (h0:p2 (-62)≤val y) (hr:rep w (val y)) (hS:∀ i,Se (ofQ (val y)) i≤ofQ (p2 34)):∃ t s,eF w n (pS y 0)=(t,s,0)∧PR w t (Te (ofQ (val y)) n) (-62-133*(n:Int)) 35 ((n:Rat)*(40*p2 (2-(w:Int))))∧PR w s (Se (ofQ (val y)) n) (-62) 35 ((n:Rat)*(40*p2 (2-(w:Int)))):=by
 obtain ⟨e1,P,c,e2,C⟩:=eTw_PR hw hy h0 hr
 have p62:=p2_pos (-62)
 have hx:(0:R)≤ofQ (val y):=by have:=ofQ_pos (show 0<val y by grind); grind
 have z0:((0:Nat):Rat)*(40*p2 (2-(w:Int)))=0:=Rat.zero_mul _
 have P':=P.mono (l':=-62-133*((0:Nat):Int)) (K':=35) (β:=((0:Nat):Rat)*(40*p2 (2-(w:Int)))) (by omega) (by omega) (by rw [z0]; exact Rat.le_refl)
 obtain ⟨t,s,k1,k2,k3⟩:=eL_PR hw hx hS C n 0 ⟨y,y⟩ ⟨y,y⟩ (by omega) (P'.eq (Te_zero _).symm) ((P'.mono (by omega) (Int.le_refl _) Rat.le_refl).eq (Se_zero _).symm)
 refine ⟨t,s,?_,?_,?_⟩
 ·rw [e1]
  unfold eF
  rw [e2]
  exact k1
 ·rw [Nat.zero_add] at k2; exact k2
 ·rw [Nat.zero_add] at k3; exact k3
theorem last_small {w q n i0:Nat} (hi:i0+q+40≤n) {x:R} (hx:0≤x) (hm:4*(x*x)≤((2*i0+3:Nat):R)) {t s:I} {l l' K K':Int} {α β:Rat} (ht:PR w t (Te x n) l K α) (hs:PR w s (Se x n) l' K' β) (hα:α≤1) (hβ:β≤1):val t.hi≤val s.lo*p2 (-38-(q:Int)):=by
 have f:=Te_far hx hm (n-i0)
 rw [show i0+(n-i0)=n by omega] at f
 have g:=hf_le (show q+40≤n-i0 by omega)
 have a:=Te_Se hx i0
 have b:=Se_mono hx i0 (n-i0)
 rw [show i0+(n-i0)=n by omega] at b
 have c:=Te_nn hx i0
 have hh:=pow_nonneg (x:=hf) (by have:=hf_pos; grind) (q+40)
 have k1:=rmul_le' g c
 have k2:=rmul_le (rle_trans a.1 b) hh
 have k3:=rmul_le hs.h.m.hi hh
 rw [← p2_neg_nat,← ofQ_mul] at k3
 have k4:ofQ (val t.lo)≤ofQ (val s.hi*p2 (-((q+40:Nat):Int))):=by
  refine rle_trans ht.h.m.lo (rle_trans f (rle_trans k1 (rle_trans k2 ?_)))
  rw [← p2_neg_nat]
  rw [← p2_neg_nat] at k2
  exact k3
 have k5:=ofQ_le.1 k4
 have pp:=p2_pos (-((q+40:Nat):Int))
 have t0:=ht.r.pos; have tr:=ht.r.rel; have s0:=hs.r.pos; have sr:=hs.r.rel
 have q1:=Rat.mul_le_mul_of_nonneg_left hα (Rat.le_of_lt t0)
 have q2:=Rat.mul_le_mul_of_nonneg_left hβ (Rat.le_of_lt s0)
 have q3:=Rat.mul_le_mul_of_nonneg_right (show val s.hi≤2*val s.lo by grind) (Rat.le_of_lt pp)
 rw [show -38-(q:Int)=2 + -((q+40:Nat):Int) by omega,p2_add,show p2 2=4 from rfl]
 grind
theorem eA_has {q n i0:Nat} (hq:8≤q∧q≤136) (hn:n≤240) (hi:i0+q+40≤n) {x:R} (hx:0≤x) (hm:4*(x*x)≤((2*i0+3:Nat):R)) {t s bell:I}
  (ht:PR (q+64) t (Te x n) (-62-133*(n:Int)) 35 ((n:Rat)*(40*p2 (2-((q+64:Nat):Int))))) (hs:PR (q+64) s (Se x n) (-62) 35 ((n:Rat)*(40*p2 (2-((q+64:Nat):Int))))) (hb:PR (q+64) bell (E (-(x*x))) (-34) 1 (p2 (8-((q+64:Nat):Int))))
  {r z:R} (hr0:0≤r) (hrr:r*r=An.hp+An.hp) (hz:z*r=2*Ge x) (hz1:z≤1):∃ c,eA (q+64) false (t,s,0) bell=(c,0)∧eA (q+64) true (t,s,0) bell=(negI c,0)∧PR (q+64) c z (-110) 1 (p2 (-35-(q:Int))):=by
 have u0:=p2_pos (-62-(q:Int))
 have u1:=p2_le (show -62-(q:Int) ≤ -70 by omega)
 rw [show p2 (-70)=1 / 1180591620717411303424 by decide +kernel] at u1
 have x1:p2 (2-((q+64:Nat):Int))=p2 (-62-(q:Int)):=congrArg p2 (by omega)
 have x2:p2 (8-((q+64:Nat):Int))=64*p2 (-62-(q:Int)):=by rw [show 8-((q+64:Nat):Int)=6+(-62-(q:Int)) by omega,p2_add]; rfl
 have x3:p2 (14-((q+64:Nat):Int))=4096*p2 (-62-(q:Int)):=by rw [show 14-((q+64:Nat):Int)=12+(-62-(q:Int)) by omega,p2_add]; rfl
 have x4:p2 (-38-(q:Int))=16777216*p2 (-62-(q:Int)):=by rw [show -38-(q:Int)=24+(-62-(q:Int)) by omega,p2_add]; rfl
 have x5:p2 (-35-(q:Int))=134217728*p2 (-62-(q:Int)):=by rw [show -35-(q:Int)=27+(-62-(q:Int)) by omega,p2_add]; rfl
 have cn:(n:Rat)≤240:=natCast_le hn
 have c0:(0:Rat)≤(n:Rat):=natCast_le (Nat.zero_le n)
 rw [x1] at ht hs
 rw [x2] at hb
 have a1:=Rat.mul_le_mul_of_nonneg_right cn (show 0≤40*p2 (-62-(q:Int)) by grind)
 have a0:=Rat.mul_nonneg c0 (show 0≤40*p2 (-62-(q:Int)) by grind)
 have d1:=last_small hi hx hm ht hs (by grind) (by grind)
 rw [x4] at d1
 have hw:10≤q+64:=by omega
 have ft:ab (Fe x-Se x n)≤ofQ (val t.hi):=by
  have hm':4*(x*x)≤((2*n+3:Nat):R):=by
   rw [show 2*n+3=(2*i0+3)+2*(n-i0) by omega,cast_add]
   have:=cast_nonneg (2*(n-i0))
   grind
  exact rle_trans (Fe_tail hx hm') ht.h.m.hi
 have t0:0<val t.hi:=by have:=ht.r.pos; have:=ht.r.le; grind
 have p36:p2 36=2*p2 35:=by decide +kernel
 have b1:=hs.hi
 have b2:=ht.hi
 generalize p2 (-62-(q:Int))=u at *
 obtain ⟨a,k1,A⟩:=hs.wide hw ht.h.ok.hi (L:=-62-133*(n:Int)-((q+64:Nat):Int)) (H:=35) (K2:=36) (y:=Fe x) (δ:=16777216*u) (by omega) (by omega) (by omega) (by omega) ft (Rat.le_of_lt t0) d1 (by grind) (by grind) a0 (by grind) (by grind)
 obtain ⟨b,k2,B⟩:=A.scale 1 (by omega) (by omega)
 rw [x1] at B
 obtain ⟨c,k3,C⟩:=B.mul hw hb.h hb.r hb.lo (by grind) (by grind) (by grind) (by grind) (by omega) (by omega)
 rw [x1] at C
 obtain ⟨o,k4,O1,O2,O3,O4⟩:=root_has hr0 hrr (w:=q+64) (by omega)
 rw [x3] at O2
 obtain ⟨d,k5,D⟩:=C.div hw O1 O2 (m:=0) (z:=z) (by rw [p2_zero]; exact O3) (by
  rw [hz,show ofQ (p2 1)=(2:R) from rfl]
  unfold Ge
  grind) (by grind) (by grind) (by grind) (by grind) (by omega) (by omega)
 rw [x1] at D
 have e:eA (q+64) false (t,s,0) bell=(d,0):=by
  unfold eA
  dsimp only
  rw [k1]; dsimp only
  rw [k2]; dsimp only
  rw [k3]; dsimp only
  rw [k4]; dsimp only
  rw [k5]
  rfl
 have e':eA (q+64) true (t,s,0) bell=(negI d,0):=by
  unfold eA
  dsimp only
  rw [k1]; dsimp only
  rw [k2]; dsimp only
  rw [k3]; dsimp only
  rw [k4]; dsimp only
  rw [k5]
  rfl
 refine ⟨d,e,e',?_⟩
 rw [x5]
 exact (D.cut (H:=0) (K':=1) (by rw [p2_zero]; exact hz1) (by grind) (by omega)).mono (by omega) (Int.le_refl _) (by grind)
noncomputable def Er (r x:R):R:=2*Ge x*r⁻¹
theorem Er_mul {r:R} (h:0<r) (x:R):Er r x*r=2*Ge x:=by
 have:=mul_inv (x:=r) (by grind)
 unfold Er
 grind
theorem Er_neg (r x:R):Er r (-x) = -Er r x:=by unfold Er; rw [Ge_neg]; grind
theorem Er_zero (r:R):Er r 0=0:=by unfold Er; rw [Ge_zero]; grind
theorem Er_mono {r x y:R} (hr:0<r) (h:x≤y):Er r x≤Er r y:=by
 have i:=inv_pos hr
 have:=rmul_le (Ge_mono h) (show 0≤r⁻¹ by grind)
 unfold Er
 grind
theorem Er_one {r x:R} (hr:0<r) (hrr:r*r=An.hp+An.hp) (h : -(ofQ 4)≤x∧x≤ofQ 4) : -1<Er r x∧Er r x<1:=by
 have key:Er r (ofQ 4)<1:=by
  have g:=Ge_4 hr hrr
  have e:=Er_mul hr (ofQ 4)
  refine Classical.byContradiction fun hn=>?_
  have:=rmul_le (show 1≤Er r (ofQ 4) by grind) (show 0≤r by grind)
  grind
 have a:=Er_mono hr h.2
 have b:=Er_mono hr h.1
 rw [Er_neg] at b
 grind
theorem out_thin {q:Nat} {c:I} {a b:Rat} (en:Enc q c a b) (h0:0<a) (hab:a≤b) (hb:b≤2) (rr:b≤a*(1+p2 (-35-(q:Int)))):val c.hi-val c.lo≤p2 (3-(q:Int)):=by
 have p1:p2 1=2:=rfl
 obtain ⟨s,r1,s1,s2⟩:=rep_below (p:=q) (s:=1) (u:=a) ⟨by rw [p1]; grind,by rw [p1]; grind⟩
 obtain ⟨t,r2,t1,t2⟩:=rep_below (p:=q) (s:=1) (u:=-b) ⟨by rw [p1]; grind,by rw [p1]; grind⟩
 have c1:=en.blo s r1 s1
 have c2:=en.bhi (-t) (rep_neg r2) (by grind)
 have u0:=p2_pos (-35-(q:Int))
 have e1:p2 (1-(q:Int))=68719476736*p2 (-35-(q:Int)):=by rw [show 1-(q:Int)=36+(-35-(q:Int)) by omega,p2_add]; rfl
 have e3:p2 (3-(q:Int))=274877906944*p2 (-35-(q:Int)):=by rw [show 3-(q:Int)=38+(-35-(q:Int)) by omega,p2_add]; rfl
 have m:=Rat.mul_le_mul_of_nonneg_right (show a≤2 by grind) (Rat.le_of_lt u0)
 rw [e3]
 rw [e1] at s2 t2
 grind
theorem okd_low {d:D} (h:Okd d (-62) 2) (h0:d.m≠0):Okd (absD d) (-62) 2∧p2 (-62)≤val (absD d)∧(∀ w:Nat,65≤w→rep w (val (absD d))):=by
 obtain ⟨s1,s2⟩:=okd_size h h0
 refine ⟨(okd_abs h).1,?_,fun w hw=>⟨((d.m.natAbs:Nat):Int),d.e,rfl,?_⟩⟩
 ·show p2 (-62)≤(((d.m.natAbs:Nat):Int):Rat)*p2 d.e
  have a:=p2_le s1
  have b:(1:Rat)≤(((d.m.natAbs:Nat):Int):Rat):=by
   rw [Rat.intCast_natCast]; exact natCast_le (show 1≤d.m.natAbs by omega)
  have:=Rat.mul_le_mul_of_nonneg_right b (Rat.le_of_lt (p2_pos d.e))
  grind
 ·rw [Int.natAbs_natCast]
  have b:=blen_lt d.m.natAbs
  have:2 ^ blen d.m.natAbs≤2 ^ w:=Nat.pow_le_pow_right (by decide) (by omega)
  omega
theorem terR_n {d:D} (h:Okd d (-62) 2) {q:Nat} (hq:q≤130):∃ k n:Nat,terR d (q:Int)=((n:Int),0)∧n=4*(k+1)+q+40∧k≤16∧val d*val d≤((k+1:Nat):Rat):=by
 obtain ⟨t,e,v,o⟩:=times_ok h h (by omega) (by omega)
 have o:Okd t (-124) 4:=o
 have ir:=inR_of o.w.odd0 o.g o.b (by omega) (by omega)
 have b4:=o.b.2
 rw [show p2 4=16 by decide +kernel] at b4
 have f:=flD_val t
 have b0:0≤val t:=by
  rw [v]
  rcases (Rat.le_total:(0:Rat)≤val d∨val d≤0) with k | k
  ·exact Rat.mul_nonneg k k
  ·have:=Rat.mul_nonneg (show 0 ≤ -(val d) by grind) (show 0 ≤ -(val d) by grind)
   grind
 have f1 : -1<flD t:=by
  have:((-1:Int):Rat)<(flD t:Rat):=by
   have:((-1:Int):Rat) = -1:=by decide +kernel
   grind
  exact_mod_cast this
 have f2:flD t≤16:=by
  have:(flD t:Rat)<((17:Int):Rat):=by
   have:((17:Int):Rat)=17:=by decide +kernel
   grind
  have:flD t<17:=by exact_mod_cast this
  omega
 refine ⟨(flD t).toNat,4*((flD t).toNat+1)+q+40,?_,rfl,by omega,?_⟩
 ·have ek:terK d=flD t:=by
   unfold terK floorS
   rw [e]
   show (smallZ (if inR t=true then (flD t,0) else (0,4)).1).1=flD t
   rw [if_pos ir]
   unfold smallZ
   rw [if_pos (by show -9223372036854775808≤flD t∧flD t≤9223372036854775807; omega)]
  have es:(floorS t).2=0:=by unfold floorS; rw [if_pos ir]
  unfold terR
  rw [ek,e]
  generalize flD t=k at *
  show (if (0:Int)≠0 then ((0:Int),(0:Int)) else if (floorS t).2≠0 then (0,(floorS t).2) else _)=_
  rw [if_neg (by simp),if_neg (by rw [es]; simp)]
  rw [w64 (x:=k+1) (by omega) (by omega),w64 (x:=4*(k+1)) (by omega) (by omega),w64 (x:=4*(k+1)+q) (by omega) (by omega),w64 (by omega) (by omega)]
  exact Prod.ext (by show 4*(k+1)+(q:Int)+40=_; omega) rfl
 ·rw [← v]
  have:(((flD t).toNat+1:Nat):Rat)=(flD t:Rat)+1:=by
   rw [Rat.natCast_add]
   have:(((flD t).toNat:Nat):Rat)=(flD t:Rat):=by rw [← Rat.intCast_natCast,Int.toNat_of_nonneg (by omega)]
   rw [this]; rfl
  rw [this]
  grind
theorem times_abs (d:D):timesD d d=timesD (absD d) (absD d):=by
 unfold timesD mulD absD
 have:((d.m.natAbs:Nat):Int)*((d.m.natAbs:Nat):Int)=d.m*d.m:=Int.natAbs_mul_self' d.m
 simp only [this]
theorem terR_abs (d:D) (p:Int):terR d p=terR (absD d) p:=by
 unfold terR terK
 rw [times_abs]
theorem absD_negD (d:D):absD (negD d)=absD d:=by unfold absD negD; simp
theorem absD_absD (d:D):absD (absD d)=absD d:=by unfold absD; simp
theorem Se_bound {q:Rat} (h0:0≤q) (h4:q≤4) (i:Nat):Se (ofQ q) i≤ofQ (p2 34):=by
 have hx:(0:R)≤ofQ q:=by rw [← ofQ_zero]; exact ofQ_le.2 h0
 have a:=Se_le hx i
 have b:ofQ q*ofQ q≤ofQ 16:=by
  rw [← ofQ_mul]
  refine ofQ_le.2 ?_
  have:=Rat.mul_nonneg (show 0≤4-q by grind) (show 0≤4+q by grind)
  grind
 have c:=rle_trans (E_mono b) E_16
 have d:=E_pos (ofQ q*ofQ q)
 have m:=rmul_mono (ofQ_le.2 h4) c hx (by grind)
 refine rle_trans a (rle_trans m ?_)
 rw [← ofQ_mul,show (4:Rat)*p2 32=p2 34 by decide +kernel]
 exact rle_refl _
theorem erP_has {y:D} (h:Okd y (-62) 2) (h0:y.m≠0) (hy:absD y=y) {q:Nat} (hq:8≤q∧q≤130) {r:R} (hr:0<r) (hrr:r*r=An.hp+An.hp):∃ c:I,Has (c,0) (Er r (ofQ (val y))) (-400) 1∧rep q (val c.lo)∧rep q (val c.hi)∧val c.hi-val c.lo≤p2 (3-(q:Int))∧0<val c.lo∧∀ d:D,absD d=y→erR d (q:Int)=(if d.m<0 then negI c else c,0):=by
 obtain ⟨o,l,rp⟩:=okd_low h h0
 rw [hy] at o l rp
 have p62:=p2_pos (-62)
 have y0:0<val y:=by grind
 have y4:val y≤4:=by
  have:=h.b.2
  rwa [show p2 2=4 from rfl] at this
 have hx:(0:R)≤ofQ (val y):=by have:=ofQ_pos y0; grind
 have hS:=Se_bound (Rat.le_of_lt y0) y4
 obtain ⟨k,n,et,en,hk,hu⟩:=terR_n h (q:=q) (by omega)
 obtain ⟨t,ett,vt,ot⟩:=times_ok h h (by omega) (by omega)
 have ot:Okd t (-124) 4:=ot
 have yy:=Rat.mul_nonneg (Rat.le_of_lt y0) (Rat.le_of_lt y0)
 obtain ⟨b,eb,B⟩:=bell_has ot.neg (by omega) (by rw [val_neg,vt]; grind) (p:=q+64) (by omega)
 obtain ⟨t',s',ef,T,S⟩:=eF_PR (w:=q+64) (n:=n) (by omega) (by omega) o l (rp _ (by omega)) hS
 have hm:4*(ofQ (val y)*ofQ (val y))≤((2*(2*(k+1))+3:Nat):R):=by
  rw [← ofQ_mul,show (4:R)=ofQ 4 from rfl,← ofQ_mul,← ofQ_nat]
  refine ofQ_le.2 ?_
  have:((2*(2*(k+1))+3:Nat):Rat)=4*((k+1:Nat):Rat)+3:=by
   rw [show 2*(2*(k+1))+3=4*(k+1)+3 by omega,Rat.natCast_add,Rat.natCast_mul]; rfl
  rw [this]
  grind
 have B:=B.eq (z':=E (-(ofQ (val y)*ofQ (val y)))) (by rw [val_neg,vt,ofQ_neg,ofQ_mul])
 have lim:=Er_one hr hrr (x:=ofQ (val y)) ⟨by
  have:(0:R)≤ofQ 4:=by rw [← ofQ_zero]; exact ofQ_le.2 (by decide +kernel)
  grind,ofQ_le.2 y4⟩
 obtain ⟨e,e1,e2,P⟩:=eA_has (q:=q) (n:=n) (i0:=2*(k+1)) (by omega) (by omega) (by omega) hx hm T S B (by grind) hrr (Er_mul hr (ofQ (val y))) (by grind)
 obtain ⟨c,k1,oc,ec⟩:=outI_ok P.h.ok (p:=q) (by omega) (by omega) (by omega)
 have hc:=has_out P.h (p:=q) (by omega) (by omega) (by omega)
 obtain ⟨c',k1',k2⟩:=out_neg P.h.ok (p:=q) (by omega) (by omega) (by omega)
 have k1:outI q e=(c,0):=k1
 have k1':outI q e=(c',0):=k1'
 have ecc:c'=c:=by rw [k1] at k1'; exact (Prod.ext_iff.1 k1').1.symm
 subst ecc
 have k2:outI q (negI e)=(negI c',0):=k2
 rw [show outI q ((e,(0:Int)).1)=(c',0) from k1] at hc
 have pe:=P.r.pos
 have ple:=P.r.le
 have phi:=P.hi
 refine ⟨c',hc.mono (by omega) (Int.le_refl _),ec.rlo,ec.rhi,out_thin ec pe ple (by rw [show p2 1=2 from rfl] at phi; exact phi) P.r.rel,?_,?_⟩
 ·have:=ec.blo _ (rep_p2 q (-110)) P.lo
  have:=p2_pos (-110)
  grind
 ·intro d hd
  have e0:terR d (q:Int)=((n:Int),0):=by rw [terR_abs,hd]; exact et
  have m0:d.m≠0:=by
   intro hm
   apply h0
   rw [← hd]
   show ((d.m.natAbs:Nat):Int)=0
   omega
  have ex:∀ neg:Bool,doneS q (eA (q+64) neg (t',s',0) b)=(if neg=true then negI c' else c',0):=fun neg=>by
   cases neg with
   | false=>rw [e1]; exact done_of k1
   | true=>rw [e2]; exact done_of k2
  unfold erR
  rw [e0,if_neg (by simp),if_neg m0]
  show erC d ((n:Int)).toNat ((q:Int)).toNat=_
  rw [Int.toNat_natCast,Int.toNat_natCast]
  unfold erC erB
  rw [hd,ett,if_neg (by simp)]
  show (if (expR (negD t) ((q+64:Nat):Int)).2≠0 then _ else doneS q (eA (q+64) (decide (d.m<0)) (eF (q+64) n (pS y 0)) (expR (negD t) ((q+64:Nat):Int)).1))=_
  rw [eb,ef,if_neg (by simp)]
  rw [ex]
  simp only [decide_eq_true_eq]
theorem erR_has {d:D} (h:Okd d (-62) 2) {q:Nat} (hq:8≤q∧q≤130) {r:R} (hr:0<r) (hrr:r*r=An.hp+An.hp):∃ c:I,erR d (q:Int)=(c,0)∧erR (negD d) (q:Int)=(negI c,0)∧Has (c,0) (Er r (ofQ (val d))) (-400) 1∧rep q (val c.lo)∧rep q (val c.hi)∧val c.hi-val c.lo≤p2 (3-(q:Int)):=by
 by_cases h0:d.m=0
 ·obtain ⟨k,n,et,-⟩:=terR_n h (q:=q) (by omega)
  have et':terR (negD d) (q:Int)=((n:Int),0):=by rw [terR_abs,absD_negD,← terR_abs]; exact et
  have m0:(negD d).m=0:=by unfold negD; simp [h0]
  have v0:val d=0:=val_zero_m h0
  have z:val zD=0:=val_z
  have nz:negI zI=zI:=rfl
  refine ⟨zI,?_,?_,?_,?_,?_,?_⟩
  ·unfold erR; rw [et,if_neg (by simp),if_pos h0]
  ·unfold erR; rw [et',if_neg (by simp),if_pos m0,nz]
  ·refine (has_point (x:=zD) (Okd_z _ _)).eq ?_
   rw [v0,z,ofQ_zero,Er_zero]
  ·exact ⟨0,0,by show val zD=_; rw [z]; simp,by simp⟩
  ·exact ⟨0,0,by show val zD=_; rw [z]; simp,by simp⟩
  ·have:=p2_pos (3-(q:Int))
   show val zD-val zD≤_
   grind
 ·have oa:=(okd_abs h).1
  have am:(absD d).m≠0:=by show ((d.m.natAbs:Nat):Int)≠0; omega
  obtain ⟨c,hc,r1,r2,w,-,e⟩:=erP_has oa am (absD_absD d) hq hr hrr
  have e1:=e d rfl
  have e2:=e (negD d) (absD_negD d)
  have n:=neg_vals c
  rcases Int.lt_or_le d.m 0 with k | k
  ·have k':¬(negD d).m<0:=by show ¬ -d.m<0; omega
   rw [if_pos k] at e1
   rw [if_neg k'] at e2
   refine ⟨negI c,e1,by rw [negI_negI]; exact e2,?_,by rw [n.1]; exact rep_neg r2,by rw [n.2]; exact rep_neg r1,by rw [n.1,n.2]; grind⟩
   have hn:=has_neg hc
   refine hn.eq ?_
   rw [← Er_neg,← ofQ_neg]
   congr 2
   rw [← neg_abs k,val_neg]; grind
  ·have k':(negD d).m<0:=by show -d.m<0; omega
   rw [if_neg (by omega)] at e1
   rw [if_pos k'] at e2
   refine ⟨c,e1,e2,?_,r1,r2,w⟩
   refine hc.eq ?_
   rw [← pos_abs (show ¬d.m<0 by omega)]
theorem fitE_in {d:D} (h:Okd d (-62) 2) {p:Nat} (hp:2≤p∧p≤200):fitE d (p:Int)=0:=by
 have hb:blen d.m.natAbs≤200:=by
  by_cases h0:d.m=0
  ·rw [h0]; decide
  ·have:=okd_size h h0; omega
 have b:=h.b
 unfold B at b
 rw [show p2 2=4 from rfl] at b
 have v1:val (fromD 6)=6:=by rw [val_from]; rfl
 have v2:val (fromD (-6)) = -6:=by rw [val_from]; rfl
 have c1:¬0<cmpD d (fromD 6):=by
  have:=(cmpD_le d (fromD 6)).2 (by rw [v1]; grind)
  omega
 have c2:¬cmpD d (fromD (-6))<0:=by rw [cmpD_lt,v2]; grind
 unfold fitE
 rw [if_neg (by omega),if_neg (by omega)]
theorem erfR_in {d:D} (h:Okd d (-62) 2) {p:Nat} (hp:2≤p∧p≤200):erfR d (p:Int)=erR d (p:Int):=by
 unfold erfR
 rw [fitE_in h hp,if_neg (by simp)]
theorem sErf {d:D} (h:Okd d (-62) 2) {q:Nat} (hq:8≤q∧q≤130) {r:R} (hr:0<r) (hrr:r*r=An.hp+An.hp):∃ c:I,erff_Erf (dy d) (q:Int)=some (iv c,0)∧erff_Erf (dy (negD d)) (q:Int)=some (iv (negI c),0)∧Has (c,0) (Er r (ofQ (val d))) (-400) 1∧val c.hi-val c.lo≤p2 (3-(q:Int)):=by
 obtain ⟨c,e1,e2,hc,-,-,w⟩:=erR_has h hq hr hrr
 refine ⟨c,?_,?_,hc,w⟩
 ·rw [Erf_eq h.w,erfR_in h (by omega),e1]
 ·rw [Erf_eq h.neg.w,erfR_in h.neg (by omega),e2]
theorem sErfc {d:D} (h:Okd d (-62) 2) {q:Nat} (hq:8≤q∧q≤66) {r:R} (hr:0<r) (hrr:r*r=An.hp+An.hp):∃ c:I,erff_Erfc (dy d) (q:Int)=some (iv c,0)∧Has (c,0) (1-Er r (ofQ (val d))) (-400) 2:=by
 obtain ⟨c,e1,-,hc,-⟩:=erR_has h (q:=q+64) (by omega) hr hrr
 have h1:=has_int (n:=1) (K:=0) (by omega) (by decide)
 have hs:=has_sub (h1.mono (L':=-400) (H':=1) (by omega) (by omega)) hc (p:=q+64) (by omega) (by omega) (by omega)
 have es:=hs.e
 have ho:=hs.ok
 obtain ⟨o,k1,k2,-⟩:=done_zero (p:=q) (a:=(suS (q+64) (iS 1 0).1 c 0).1) ⟨rfl,hs.ok,hs.m⟩ (by omega) (by omega) (by omega)
 refine ⟨o,?_,k2⟩
 have e:erfcR d (q:Int)=(o,0):=by
  unfold erfcR
  rw [fitE_in h (by omega),if_neg (by simp),show (q:Int)+64=((q+64:Nat):Int) by omega,e1,Int.toNat_natCast]
  unfold ecD
  show (if (0:Int)≠0 then _ else doneS q (suS (q+64) (iS 1 0).1 c (iS 1 0).2))=_
  rw [if_neg (by simp),show (iS 1 0).2=0 from rfl,← k1]
  congr 1
  exact Prod.ext rfl es
 rw [Erfc_eq h.w,e]
theorem place11_eq {x:AD} (hx:gAD x):∃ d,l11_place x=some (dy d)∧Okd d (-62) 2:=by
 have hd:=g_dig hx
 have hb:=mag_two hx 2
 obtain ⟨d,h1,h2,-⟩:=make_val (k:=64) hb (e:=-62) (by omega)
 refine ⟨d,?_,h2.mono (Int.le_refl _) (by omega)⟩
 unfold l11_place
 have hm:=mag_mn hx (k:=2)
 rw [show ((2:Nat):Int)=2 by rfl] at hm
 rw [hm,if_pos (by omega),Int.toNat_natCast,rMake_eq (dig_take hd _) (by rw [List.length_take]; omega)]
 simp only [obn]
 rw [rMake5_eq (by unfold SZ; omega) (by omega),h1]
 rfl
theorem prec11_eq {a:Int} (h : -9223372036854775808≤a∧a≤9223372036854775807):∃ p:Nat,l11_prec a=some (p:Int)∧8≤p∧p≤60:=by
 unfold l11_prec l11_prec_j1
 have key:∀ n:Nat,∃ p:Nat,(some (IntKind.i64.wrap (8+((n:Int).tmod 53))):Option Int)=some (p:Int)∧8≤p∧p≤60:=by
  intro n
  rw [show (53:Int)=((53:Nat):Int) by rfl,tmodn,w64 (by omega) (by omega)]
  exact ⟨8+n % 53,by congr 1,by omega,by omega⟩
 by_cases h0:a<0
 ·rw [if_pos h0,wrap_low a (by omega)]
  exact key _
 ·rw [if_neg h0]
  have:=key a.toNat
  rwa [Int.toNat_of_nonneg (by omega)] at this
theorem root_ex:∃ r:R,0<r∧r*r=An.hp+An.hp:=sqrt_ex (by
 have h:=pi_near.1
 have h0:(0:R)<ofQ (31415926535897932384626433832794 / 10000000000000000000000000000000):=ofQ_pos (by decide +kernel)
 grind)
theorem rises11 {x:Bool} (hx:x=true) {a b:D} (ha:Okd a (-62) 2) (hb:Okd b (-62) 2) (hab:val a≤val b) {p:Nat} (hp8:8≤p∧p≤60):l11_ErffRises_j1 (p:Int) x (dy a).M.Neg (dy a).M.Mag (dy a).E (dy b).M.Neg (dy b).M.Mag (dy b).E=some true:=by
 subst hx
 obtain ⟨r,hr,hrr⟩:=root_ex
 obtain ⟨u,f1,-,h1,-⟩:=sErf ha (q:=p) (by omega) hr hrr
 obtain ⟨v,f2,-,h2,-⟩:=sErf hb (q:=p) (by omega) hr hrr
 obtain ⟨s,f3,h3⟩:=sErfc ha (q:=p) (by omega) hr hrr
 obtain ⟨t,f4,h4⟩:=sErfc hb (q:=p) (by omega) hr hrr
 have up:=Er_mono hr (ofQ_le.2 hab)
 have lim:∀ {d:D},Okd d (-62) 2→-1<Er r (ofQ (val d))∧Er r (ofQ (val d))<1:=fun {d} h=>by
  have b:=h.b
  unfold B at b
  rw [show p2 2=4 from rfl] at b
  refine Er_one hr hrr ⟨?_,ofQ_le.2 b.2⟩
  have:=ofQ_le.2 b.1
  rwa [ofQ_neg] at this
 have la:=lim ha
 have lb:=lim hb
 have m1:=h1.m.lo; have m2:=h2.m.hi; have m3:=h3.m.hi; have m4:=h4.m.lo
 have q1:val u.lo≤val v.hi:=ofQ_le.1 (rle_trans m1 (rle_trans up m2))
 have q2:val t.lo≤val s.hi:=ofQ_le.1 (rle_trans m4 (rle_trans (by grind) m3))
 have q3:val u.lo<1:=ofQ_lt.1 (by rw [ofQ_one]; have m1:ofQ (val u.lo)≤_:=m1; grind)
 have q4 : -1<val v.hi:=ofQ_lt.1 (by rw [ofQ_neg,ofQ_one]; have m2:_≤ofQ (val v.hi):=m2; grind)
 have q5:0<val s.hi:=ofQ_lt.1 (by rw [ofQ_zero]; have m3:_≤ofQ (val s.hi):=m3; grind)
 have v1:val (fromD 1)=1:=by rw [val_from]; rfl
 have v2:val (fromD (-1)) = -1:=by rw [val_from]; rfl
 have w1:WD (fromD 1):=WD_from (by omega)
 have w2:WD (fromD (-1)):=WD_from (by omega)
 have c1:=dyad_Cmp_eq h1.ok.lo.w h2.ok.hi.w
 have c2:=dyad_Cmp_eq h4.ok.lo.w h3.ok.hi.w
 have c3:=dyad_Cmp_eq h1.ok.lo.w w1
 have c4:=dyad_Cmp_eq h2.ok.hi.w w2
 have c5:=dyad_Cmp_eq h3.ok.hi.w WD_z
 rw [dy_z] at c5
 have z5:cmpD s.hi zD>0:=(cmpD_gt s.hi zD).2 (by rw [val_z]; exact q5)
 unfold l11_ErffRises_j1 l11_ErffRises_j2
 refine Eq.trans (congrArg (fun o=>Option.bind o _) f1) ?_
 simp only [obn]
 refine Eq.trans (congrArg (fun o=>Option.bind o _) f2) ?_
 simp only [obn]
 refine Eq.trans (congrArg (fun o=>Option.bind o _) f3) ?_
 simp only [obn]
 refine Eq.trans (congrArg (fun o=>Option.bind o _) f4) ?_
 simp only [obn]
 rw [if_pos True.intro,if_pos True.intro,if_pos True.intro,if_pos True.intro,if_pos True.intro]
 refine Eq.trans (congrArg (fun o=>Option.bind o _) c1) ?_
 simp only [obn]
 rw [if_pos ((cmpD_le _ _).2 q1)]
 refine Eq.trans (congrArg (fun o=>Option.bind o _) c2) ?_
 simp only [obn]
 rw [if_pos ((cmpD_le _ _).2 q2),dyad_From_eq (by omega)]
 simp only [obn]
 refine Eq.trans (congrArg (fun o=>Option.bind o _) c3) ?_
 simp only [obn]
 rw [if_pos ((cmpD_lt _ _).2 (by rw [v1]; exact q3)),dyad_From_eq (by omega)]
 simp only [obn]
 refine Eq.trans (congrArg (fun o=>Option.bind o _) c4) ?_
 simp only [obn]
 rw [if_pos (show cmpD v.hi (fromD (-1))>0 from (cmpD_gt _ _).2 (by rw [v2]; exact q4))]
 refine Eq.trans (congrArg (fun o=>Option.bind o _) c5) ?_
 simp only [obn]
 rw [decide_eq_true z5]
theorem ErffRises_true (a0:AD) (g0:gAD a0) (a1:AD) (g1:gAD a1) (a2:Int) (g2:(Lit.int .i64 a2).wf=true):l11_ErffRises a0 a1 a2=some true:=by
 obtain ⟨p,ep,hp8⟩:=prec11_eq (wf_i64 g2)
 obtain ⟨a,ea,oa⟩:=place11_eq g0
 obtain ⟨b,eb,ob⟩:=place11_eq g1
 have c:=dyad_Cmp_eq oa.w ob.w
 unfold l11_ErffRises
 rw [examples11]
 simp only [obn]
 rw [if_neg (by simp),ep]
 simp only [obn]
 rw [ea]
 simp only [obn]
 rw [eb]
 simp only [obn]
 refine Eq.trans (congrArg (fun o=>Option.bind o _) c) ?_
 simp only [obn]
 by_cases h:cmpD a b>0
 ·rw [if_pos h]
  have:=(cmpD_gt a b).1 h
  exact rises11 rfl ob oa (by grind) hp8
 ·rw [if_neg h]
  have:=(cmpD_le a b).1 (by omega)
  exact rises11 rfl oa ob this hp8
end Go.Proofs.YtjffljhmjdljeaaGreat.Gen
