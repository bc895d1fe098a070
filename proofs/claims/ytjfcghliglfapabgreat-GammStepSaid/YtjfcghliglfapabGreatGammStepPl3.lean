/- Plain theory of the numbers that the statement speaks of: printed from the proofs' own texts, as far as this statement needs it. -/
import Derived.Test.YtjfcghliglfapabGreatGammStepPl2
set_option linter.unusedVariables false
set_option linter.unusedSimpArgs false
namespace Go.Proofs.YtjfcghliglfapabGreat.Gen
open Go Go.Abs Go.Plain Go.An
theorem pow_rel {p:Nat} (hp:1≤p∧p≤1000):∀ (k a b:Nat) (r:I × Int) (z:R) (L:Int) (δ:Rat),Has r (E z) L (b:Int)→p2 (-(a:Int))≤val r.1.lo→2 ^ k*a≤20000→2 ^ k*b≤20000→-30000≤L→16*p2 (2-(p:Int))≤δ→((3 ^ k:Nat):Rat)*δ≤1 / 8→val r.1.hi≤val r.1.lo*(1+δ)→val (powS p k r).1.hi≤val (powS p k r).1.lo*(1+((3 ^ k:Nat):Rat)*δ):=by
 intro k
 induction k with
 | zero=>
  intro a b r z L δ h hl _ _ _ _ _ h1
  rw [show ((3 ^ 0:Nat):Rat)=1 from rfl,Rat.one_mul]
  exact h1
 | succ k ih=>
  intro a b r z L δ h hl ha hb hL he hk h1
  rw [two_pow_succ] at ha hb
  have k1:1*(2*a)≤2 ^ k*(2*a):=Nat.mul_le_mul_right _ (Nat.one_le_two_pow)
  have k2:1*(2*b)≤2 ^ k*(2*b):=Nat.mul_le_mul_right _ (Nat.one_le_two_pow)
  have pe:=p2_pos (2-(p:Int))
  have e3:((3 ^ (k+1):Nat):Rat)*δ=((3 ^ k:Nat):Rat)*(3*δ):=by
   rw [Nat.pow_succ,Rat.natCast_mul,Rat.mul_assoc]; rfl
  have h3:(1:Rat)≤((3 ^ k:Nat):Rat):=natCast_le (Nat.one_le_pow _ _ (by decide))
  rw [e3] at hk ⊢
  have h4:=Rat.mul_le_mul_of_nonneg_right h3 (show 0≤3*δ by grind)
  obtain ⟨s1,s2⟩:=sq_lo h hl (p:=p) (by omega) (by omega) (by omega)
  have hl0:0<val r.1.lo:=by have:=p2_pos (-(a:Int)); grind
  have s3:=sq_rel h hl0 (p:=p) (δ:=δ) (by omega) (by omega) (by omega) (by grind) he h1
  rw [powS]
  have s1':=s1.eq (E_add z z).symm
  rw [show -(a:Int) + -(a:Int) = -((2*a:Nat):Int) by omega] at s1' s2
  rw [show (b:Int)+(b:Int)=((2*b:Nat):Int) by omega] at s1'
  exact ih (2*a) (2*b) _ (z+z) _ (3*δ) s1' s2 ha hb (by omega) (by grind) hk s3
theorem quot_near2 {q1 q2 h1 h2 a1 a2 w1 w2:Rat} (k1:1≤h1) (e1:q1*h1=a1) (e2:q2*h2=a2) (hq : -1≤q2∧q2≤1) (da : -w1≤a1-a2∧a1-a2≤w1) (dh : -w2≤h1-h2∧h1-h2≤w2):q1-q2≤w1+w2:=by
 have e:(q1-q2)*h1=a1-a2+q2*(h2-h1):=by grind
 have hm:=(mul_abs_le (x:=q2) (y:=h2-h1) hq (⟨by grind,by grind⟩ : -w2≤h2-h1∧h2-h1≤w2)).2
 rcases Rat.le_total (a:=q1-q2) (b:=0) with k | k
 ·grind
 ·have:=Rat.mul_le_mul_of_nonneg_right k1 k
  grind
theorem B_one {q:Rat} (h:B (-1) q) : -1≤q∧q≤1:=by
 unfold B at h
 rw [show p2 (-1)=1 / 2 by decide +kernel] at h
 exact ⟨by grind,by grind⟩
theorem quo_width {sl sh tl th u v w1 w2:Rat} (mu:u=sl / tl∨u=sl / th∨u=sh / tl∨u=sh / th) (mv:v=sl / tl∨v=sl / th∨v=sh / tl∨v=sh / th) (hs:sl≤sh) (ht:tl≤th) (h1:3 / 2≤tl) (s3:sh-sl≤w1) (t3:th-tl≤w2) (bo : -1≤u∧u≤1):v-u≤w1+w2:=by
 have f1:=mul_of_div (a:=sl) (b:=tl) (by grind)
 have f2:=mul_of_div (a:=sl) (b:=th) (by grind)
 have f3:=mul_of_div (a:=sh) (b:=tl) (by grind)
 have f4:=mul_of_div (a:=sh) (b:=th) (by grind)
 generalize sl / tl=q1 at *
 generalize sl / th=q2 at *
 generalize sh / tl=q3 at *
 generalize sh / th=q4 at *
 rcases mu with k | k | k | k<;>rcases mv with j | j | j | j<;>rw [j,k]<;>rw [k] at bo<;>clear j k<;>first | exact quot_near2 (by grind) f1 f1 bo ⟨by grind,by grind⟩ ⟨by grind,by grind⟩ | exact quot_near2 (by grind) f1 f2 bo ⟨by grind,by grind⟩ ⟨by grind,by grind⟩ | exact quot_near2 (by grind) f1 f3 bo ⟨by grind,by grind⟩ ⟨by grind,by grind⟩ | exact quot_near2 (by grind) f1 f4 bo ⟨by grind,by grind⟩ ⟨by grind,by grind⟩ | exact quot_near2 (by grind) f2 f1 bo ⟨by grind,by grind⟩ ⟨by grind,by grind⟩ | exact quot_near2 (by grind) f2 f2 bo ⟨by grind,by grind⟩ ⟨by grind,by grind⟩ | exact quot_near2 (by grind) f2 f3 bo ⟨by grind,by grind⟩ ⟨by grind,by grind⟩ | exact quot_near2 (by grind) f2 f4 bo ⟨by grind,by grind⟩ ⟨by grind,by grind⟩ | exact quot_near2 (by grind) f3 f1 bo ⟨by grind,by grind⟩ ⟨by grind,by grind⟩ | exact quot_near2 (by grind) f3 f2 bo ⟨by grind,by grind⟩ ⟨by grind,by grind⟩ | exact quot_near2 (by grind) f3 f3 bo ⟨by grind,by grind⟩ ⟨by grind,by grind⟩ | exact quot_near2 (by grind) f3 f4 bo ⟨by grind,by grind⟩ ⟨by grind,by grind⟩ | exact quot_near2 (by grind) f4 f1 bo ⟨by grind,by grind⟩ ⟨by grind,by grind⟩ | exact quot_near2 (by grind) f4 f2 bo ⟨by grind,by grind⟩ ⟨by grind,by grind⟩ | exact quot_near2 (by grind) f4 f3 bo ⟨by grind,by grind⟩ ⟨by grind,by grind⟩ | exact quot_near2 (by grind) f4 f4 bo ⟨by grind,by grind⟩ ⟨by grind,by grind⟩
theorem third {r:Rat} (h1:3 / 4≤r) (h2:r≤3 / 2) : -(1 / 3)≤(r-1) / (r+1)∧(r-1) / (r+1)≤1 / 3:=by
 have e:(r-1) / (r+1)*(r+1)=r-1:=mul_of_div (by grind)
 generalize (r-1) / (r+1)=q at *
 have hr:7 / 4≤r+1:=by grind
 constructor
 ·rcases Rat.le_total (a:=0) (b:=q) with k | k
  ·grind
  ·have:=Rat.mul_le_mul_of_nonneg_right hr (show 0 ≤ -q by grind)
   grind
 ·rcases Rat.le_total (a:=0) (b:=q) with k | k
  ·have:=Rat.mul_le_mul_of_nonneg_right hr k
   grind
  ·grind
theorem HasW.tight {r:I × Int} {x:R} {L H K:Int} {w m:Rat} (h:HasW r x L H w) (hx:ab x≤ofQ m) (hK:m+w≤p2 K):HasW r x L K w:=by
 have e:=h.ends hx
 have o:=h.h.ok
 have hw:0≤w:=by have:=h.w; have:=o.le; grind
 exact ⟨⟨h.h.e,⟨⟨o.lo.w,o.lo.g,⟨by grind,by grind⟩⟩,⟨o.hi.w,o.hi.g,⟨by grind,by grind⟩⟩,o.le⟩,h.h.m⟩,h.w⟩
def Far (l:Int) (x:Rat):Prop:=x=0∨p2 l≤x∨x ≤ -p2 l
theorem Far.neg {l:Int} {x:Rat} (h:Far l x):Far l (-x):=by
 rcases h with h | h | h
 ·left; grind
 ·right; right; grind
 ·right; left; grind
theorem Far.pos_mul {l m:Int} {x y:Rat} (h:p2 l≤x) (k:Far m y):Far (l+m) (x*y):=by
 have hl:=p2_pos l
 have hm:=p2_pos m
 rw [Far,p2_add]
 rcases k with k | k | k
 ·left; rw [k]; grind
 ·right; left
  have a:=Rat.mul_le_mul_of_nonneg_right h (Rat.le_of_lt hm)
  have b:=Rat.mul_le_mul_of_nonneg_left k (show 0≤x by grind)
  grind
 ·right; right
  have a:=Rat.mul_le_mul_of_nonneg_right h (Rat.le_of_lt hm)
  have b:=Rat.mul_le_mul_of_nonneg_left (show p2 m ≤ -y by grind) (show 0≤x by grind)
  grind
theorem Far.mul {l m:Int} {x y:Rat} (h:Far l x) (k:Far m y):Far (l+m) (x*y):=by
 rcases h with h | h | h
 ·left; rw [h]; grind
 ·exact Far.pos_mul h k
 ·have:=(Far.pos_mul (show p2 l ≤ -x by grind) k).neg
  rwa [show -(-x*y)=x*y by grind] at this
theorem rep_nought (p:Nat):rep p 0:=⟨0,0,by simp,by simp⟩
theorem Far.grid {l:Int} {p:Nat} {x:Rat} (h:Far l x) (hr:rep p x):G (l-p) x:=by
 rcases h with h | h | h
 ·rw [h]; exact G.zero _
 ·exact rep_grid hr h
 ·have:=(rep_grid (rep_neg hr) (show p2 l ≤ -x by grind)).neg
  rwa [show - -x=x by grind] at this
theorem enc_far {p:Nat} {c:I} {u v:Rat} (en:Enc p c u v) {l:Int} (hu:Far l u) (hv:Far l v):Far l (val c.lo)∧Far l (val c.hi):=by
 have r0:=rep_nought p
 have r1:=rep_p2 p l
 have r2:=rep_neg r1
 constructor
 ·have a:=en.lo
  rcases hu with h | h | h
  ·left; have:=en.blo 0 r0 (by grind); grind
  ·right; left; exact en.blo _ r1 h
  ·right; right; grind
 ·have a:=en.hi
  rcases hv with h | h | h
  ·left; have:=en.bhi 0 r0 (by grind); grind
  ·right; left; grind
  ·right; right; exact en.bhi _ r2 h
structure HasF (r:I × Int) (x:R) (l:Int) (p:Nat) (H:Int):Prop where
 h:Has r x (l-p) H
 lo:Far l (val r.1.lo)
 hi:Far l (val r.1.hi)
theorem enc_hasF {p:Nat} {c:I} {u v:Rat} {x:R} {l L H:Int} (en:Enc p c u v) (o:OkI c L H) (m:Mem c x) (hu:Far l u) (hv:Far l v):HasF (c,0) x l p H:=by
 have f:=enc_far en hu hv
 exact ⟨⟨rfl,⟨⟨o.lo.w,f.1.grid en.rlo,o.lo.b⟩,⟨o.hi.w,f.2.grid en.rhi,o.hi.b⟩,o.le⟩,m⟩,f.1,f.2⟩
theorem hasF_mul {r s:I × Int} {x y:R} {l m H K:Int} {p:Nat} (ha:HasF r x l p H) (hb:HasF s y m p K) (hp:1≤p) (hL : -60000≤l+m-p-p) (hH:H+K≤60000):HasF (mS p r.1 s.1 0) (x*y) (l+m) p (H+K):=by
 obtain ⟨c,u,v,e,o,en,pr⟩:=mulI_ok ha.h.ok hb.h.ok hp (by omega) hH
 have h:=has_mul ha.h hb.h hp (by omega) hH
 have e':mS p r.1 s.1 0=(c,0):=by unfold mS; rw [st_zero,e]
 rw [e'] at h ⊢
 refine enc_hasF en o h.m ?_ ?_
 ·rcases pr.mu with q | q | q | q<;>rw [q]
  ·exact ha.lo.mul hb.lo
  ·exact ha.lo.mul hb.hi
  ·exact ha.hi.mul hb.lo
  ·exact ha.hi.mul hb.hi
 ·rcases pr.mv with q | q | q | q<;>rw [q]
  ·exact ha.lo.mul hb.lo
  ·exact ha.lo.mul hb.hi
  ·exact ha.hi.mul hb.lo
  ·exact ha.hi.mul hb.hi
theorem HasF.pair {r:I × Int} {x:R} {l H:Int} {p:Nat} (h:HasF r x l p H):HasF (r.1,0) x l p H:=⟨h.h.pair,h.lo,h.hi⟩
theorem HasF.eq {r:I × Int} {x y:R} {l H:Int} {p:Nat} (h:HasF r x l p H) (e:x=y):HasF r y l p H:=e ▸ h
theorem Far.mono {l m:Int} {x:Rat} (h:Far l x) (k:m≤l):Far m x:=by
 have:=p2_le k
 rcases h with h | h | h
 ·exact Or.inl h
 ·right; left; grind
 ·right; right; grind
theorem HasF.mono {r:I × Int} {x:R} {l m H K:Int} {p:Nat} (h:HasF r x l p H) (k:m≤l) (hH:H≤K):HasF r x m p K:=⟨h.h.mono (by omega) hH,h.lo.mono k,h.hi.mono k⟩
theorem G_far {L:Int} {x:Rat} (h:G L x):Far L x:=by
 obtain ⟨z,rfl⟩:=h
 have hp:=p2_pos L
 rcases Int.lt_trichotomy z 0 with k | k | k
 ·right; right
  have:(z:Rat) ≤ -1:=by
   have:=intCast_le (show z ≤ -1 by omega)
   exact this
  have:=Rat.mul_le_mul_of_nonneg_right this (Rat.le_of_lt hp)
  grind
 ·left; rw [k]; simp
 ·right; left
  have:(1:Rat)≤(z:Rat):=by
   have:=intCast_le (show 1≤z by omega)
   exact this
  have:=Rat.mul_le_mul_of_nonneg_right this (Rat.le_of_lt hp)
  grind
theorem Far.div {l:Int} {x t:Rat} (h:Far l x) (h0:0<t) (h4:t≤4):Far (l-2) (x / t):=by
 have e:p2 l=p2 (l-2)*4:=by rw [show l=(l-2)+2 by omega,p2_add,show l-2+2-2=l-2 by omega]; rfl
 have hl:=p2_pos (l-2)
 have hm:x / t*t=x:=mul_of_div (by grind)
 generalize x / t=q at *
 rcases h with h | h | h
 ·left
  rw [h] at hm
  rcases Rat.le_total (a:=0) (b:=q) with k | k
  ·rcases Classical.em (q=0) with z | z
   ·exact z
   ·have:=Rat.mul_pos (show 0<q by grind) h0; grind
  ·rcases Classical.em (q=0) with z | z
   ·exact z
   ·have:=Rat.mul_pos (show 0 < -q by grind) h0; grind
 ·right; left
  rcases Rat.le_total (a:=q) (b:=0) with k | k
  ·have:=Rat.mul_nonneg (show 0 ≤ -q by grind) (Rat.le_of_lt h0); grind
  ·have:=Rat.mul_le_mul_of_nonneg_left h4 k; grind
 ·right; right
  rcases Rat.le_total (a:=0) (b:=q) with k | k
  ·have:=Rat.mul_nonneg k (Rat.le_of_lt h0); grind
  ·have:=Rat.mul_le_mul_of_nonneg_left h4 (show 0 ≤ -q by grind); grind
def gP (w:Nat) (d:D):Nat→Nat→I→Int→I × Int
 | 0,_,b,e=>(b,e)
 | k+1,i,b,e=>gP w d k (i+1) (mS w b (aS w (pS d e).1 (iS (i:Int) (pS d e).2).1 (iS (i:Int) (pS d e).2).2).1 (aS w (pS d e).1 (iS (i:Int) (pS d e).2).1 (iS (i:Int) (pS d e).2).2).2).1 (mS w b (aS w (pS d e).1 (iS (i:Int) (pS d e).2).1 (iS (i:Int) (pS d e).2).2).1 (aS w (pS d e).1 (iS (i:Int) (pS d e).2).1 (iS (i:Int) (pS d e).2).2).2).2
def bnC (k:Nat):Nat:=bnD k*2*k*(2*k-1)
def gV (w:Nat) (k:Nat) (r:I) (e:Int):I × Int:=dS w (iS (bnN k) e).1 (mS w (iS (bnC k:Int) (iS (bnN k) e).2).1 r (iS (bnC k:Int) (iS (bnN k) e).2).2).1 (mS w (iS (bnC k:Int) (iS (bnN k) e).2).1 r (iS (bnC k:Int) (iS (bnN k) e).2).2).2
def gT (w:Nat) (y:I):Nat→Nat→I→I→Int→I × Int
 | 0,_,s,_,e=>(s,e)
 | k+1,i,s,r,e=>gT w y k (i+1) (aS w s (gV w i r e).1 (gV w i r e).2).1 (mS w r (mS w y y (aS w s (gV w i r e).1 (gV w i r e).2).2).1 (mS w y y (aS w s (gV w i r e).1 (gV w i r e).2).2).2).1 (mS w r (mS w y y (aS w s (gV w i r e).1 (gV w i r e).2).2).1 (mS w y y (aS w s (gV w i r e).1 (gV w i r e).2).2).2).2
def gY (w n:Nat) (d:D):I × Int:=aS w ⟨d,d⟩ (intI (n:Int)) 0
def gB (w n:Nat) (d:D):I × Int:=gP w d n 0 (iS 1 (gY w n d).2).1 (iS 1 (gY w n d).2).2
def gU (w n:Nat) (d:D):I × Int:=suS w (gY w n d).1 (pS ⟨1,-1⟩ (gB w n d).2).1 (pS ⟨1,-1⟩ (gB w n d).2).2
def gL1 (w n:Nat) (d:D):I × Int:=ofR lnR (gY w n d).1 (w:Int)
def gM (w n:Nat) (d:D):I × Int:=mS w (gU w n d).1 (gL1 w n d).1 0
def gN (w n:Nat) (d:D):I × Int:=nS (gY w n d).1 (gM w n d).2
def gQ (w:Nat) (e:Int):I × Int:=scS (piS w e).1 1 (piS w e).2
def gL2 (w:Nat):I × Int:=ofR lnR (gQ w 0).1 (w:Int)
def gC (w:Nat):I × Int:=scS (gL2 w).1 (-1) 0
def gS1 (w n:Nat) (d:D):I × Int:=aS w (gM w n d).1 (gN w n d).1 (gC w).2
def gS2 (w n:Nat) (d:D):I × Int:=aS w (gS1 w n d).1 (gC w).1 (gS1 w n d).2
def gS3 (w n:Nat) (d:D):I × Int:=gT w (gY w n d).1 10 1 (gS2 w n d).1 (gY w n d).1 (gS2 w n d).2
def gS4 (w n:Nat) (d:D):I × Int:=wS w (gS3 w n d).1 ⟨1,-160⟩ (gS3 w n d).2
def gL3 (w n:Nat) (d:D):I × Int:=ofR lnR (gB w n d).1 (w:Int)
def gS5 (w n:Nat) (d:D):I × Int:=suS w (gS4 w n d).1 (gL3 w n d).1 0
structure GOK (w n:Nat) (d:D):Prop where
 eu:(gU w n d).2=0
 e1:(gL1 w n d).2=0
 en:(gN w n d).2=0
 eq:(gQ w 0).2=0
 e2:(gL2 w).2=0
 es:(gS4 w n d).2=0
 e3:(gL3 w n d).2=0
 o1:val (gL1 w n d).1.lo≤val (gL1 w n d).1.hi
 o2:val (gL2 w).1.lo≤val (gL2 w).1.hi
 o3:val (gL3 w n d).1.lo≤val (gL3 w n d).1.hi
theorem gamm_ln {w:Nat} {a:I} (ha:SI a):gamm_work_ln (iv a) 0 0 (w:Int)=some (iv (ofR lnR a (w:Int)).1,(ofR lnR a (w:Int)).2):=by
 unfold gamm_work_ln gamm_work_bad iv_trouble_Err cv_Prec
 simp only [obn]
 rw [if_neg (by simp)]
 simp only [obn]
 rw [if_neg (by simp)]
 refine Eq.trans (congrArg (fun o=>Option.bind o _) (LnOf_eq ha (w:Int))) ?_
 rfl
theorem gamm_bern:∀ k:Nat,k≤10→1≤k→gamm_Bernoulli (k:Int)=some (bnN k,(bnD k:Int),true)∧IntKind.i64.wrap (IntKind.i64.wrap (IntKind.i64.wrap ((bnD k:Int)*2)*(k:Int))*IntKind.i64.wrap (IntKind.i64.wrap (2*(k:Int))-1))=(bnC k:Int)∧-1000000≤bnN k∧bnN k≤1000000∧bnC k≤1000000:=by
 intro k h1 h2
 rcases (show k=1∨k=2∨k=3∨k=4∨k=5∨k=6∨k=7∨k=8∨k=9∨k=10 by omega) with h | h | h | h | h | h | h | h | h | h<;>subst h<;>exact ⟨by rfl,by decide +kernel,by decide,by decide,by decide⟩
theorem SI_ofR_gen {f:D→Int→I × Int} {a:I} {p:Int} (s1:SI (f a.lo p).1) (s2:SI (f a.hi p).1) (le:val (ofR f a p).1.lo≤val (ofR f a p).1.hi):SI (ofR f a p).1:=by
 unfold ofR at *
 generalize f a.lo p=A at *
 generalize f a.hi p=K at *
 by_cases h0:(fitB a.lo p && fitB a.hi p)=true
 ·rw [if_pos h0] at le ⊢
  by_cases h1:A.2≠0
  ·rw [if_pos h1]; exact SI_z
  ·rw [if_neg h1] at le ⊢
   by_cases h2:K.2≠0
   ·rw [if_pos h2]; exact SI_z
   ·rw [if_neg h2] at le ⊢
    exact ⟨⟨s1.ok.1,s2.ok.2.1,le⟩,s1.lo,s2.hi⟩
 ·rw [if_neg h0]; exact SI_z
theorem SI_ofRln {a:I} (ha:SI a) {p:Int} (le:val (ofR lnR a p).1.lo≤val (ofR lnR a p).1.hi):SI (ofR lnR a p).1:=SI_ofR_gen (SI_lnR ha.ok.1) (SI_lnR ha.ok.2.1) le
theorem SI_gV {w:Nat} (hw:w≤400) (k:Nat) {r:I} (hr:SI r) (e:Int):SI (gV w k r e).1:=SI_dS hw _ (SI_mS hw _ _ _) _
theorem gamm_terms {w:Nat} (hw:2≤w∧w≤400) {y b:I} (hy:SI y) (ey:Int) (x277:Int × Int):∀ (k i:Nat) (s r:I) (e:Int),i+k=11→1≤i→SI s→SI r→∀ f,k<f→
  gamm_work_lgamma_l4 (w:Int) (iv y,ey) x277 (iv b).Lo.M.Neg (iv b).Lo.M.Mag (iv b).Lo.E (iv b).Hi.M.Neg (iv b).Hi.M.Mag (iv b).Hi.E 0 f (i:Int) e (iv s).Lo.M.Neg (iv s).Lo.M.Mag (iv s).Lo.E (iv s).Hi.M.Neg (iv s).Hi.M.Mag (iv s).Hi.E (iv r).Lo.M.Neg (iv r).Lo.M.Mag (iv r).Lo.E (iv r).Hi.M.Neg (iv r).Hi.M.Mag (iv r).Hi.E=gamm_work_lgamma_j2 (w:Int) x277 (iv b).Lo.M.Neg (iv b).Lo.M.Mag (iv b).Lo.E (iv b).Hi.M.Neg (iv b).Hi.M.Mag (iv b).Hi.E 0 (gT w y k i s r e).2 (iv (gT w y k i s r e).1).Lo.M.Neg (iv (gT w y k i s r e).1).Lo.M.Mag (iv (gT w y k i s r e).1).Lo.E (iv (gT w y k i s r e).1).Hi.M.Neg (iv (gT w y k i s r e).1).Hi.M.Mag (iv (gT w y k i s r e).1).Hi.E:=by
 intro k
 induction k with
 | zero=>
  intro i s r e hi h1 hs hr f hf
  obtain ⟨f,rfl⟩:∃ k,f=k+1:=⟨f-1,by omega⟩
  rw [gamm_work_lgamma_l4,if_neg (by omega)]
  rfl
 | succ k ih=>
  intro i s r e hi h1 hs hr f hf
  obtain ⟨f,rfl⟩:∃ k,f=k+1:=⟨f-1,by omega⟩
  obtain ⟨b1,b2,b3,b4,b5⟩:=gamm_bern i (by omega) h1
  have sI1:=SI_iS (n:=bnN i) ⟨b3,b4⟩ e
  have sI2:=SI_iS (n:=(bnC i:Int)) (by omega) (iS (bnN i) e).2
  have sV:=SI_gV hw.2 i hr e
  have sA:=SI_aS hw.2 hs sV (gV w i r e).2
  have sM:=SI_mS hw.2 y y (aS w s (gV w i r e).1 (gV w i r e).2).2
  rw [gamm_work_lgamma_l4,if_pos (by omega),b1]
  simp only [obn]
  rw [b2,ivEta]
  refine Eq.trans (congrArg (fun o=>Option.bind o _) (pInt (n:=bnN i) ⟨b3,b4⟩ e (w:Int))) ?_
  simp only [obn]
  refine Eq.trans (congrArg (fun o=>Option.bind o _) (pInt (n:=(bnC i:Int)) (by omega) (iS (bnN i) e).2 (w:Int))) ?_
  simp only [obn]
  refine Eq.trans (congrArg (fun o=>Option.bind o _) (pMul hw sI2 hr (iS (bnC i:Int) (iS (bnN i) e).2).2)) ?_
  simp only [obn]
  refine Eq.trans (congrArg (fun o=>Option.bind o _) (pDiv hw sI1 (SI_mS hw.2 _ _ _) _)) ?_
  simp only [obn]
  rw [ivEta]
  refine Eq.trans (congrArg (fun o=>Option.bind o _) (pAdd hw hs sV (gV w i r e).2)) ?_
  simp only [obn]
  refine Eq.trans (congrArg (fun o=>Option.bind o _) (pMul hw hy hy (aS w s (gV w i r e).1 (gV w i r e).2).2)) ?_
  simp only [obn]
  rw [ivEta]
  refine Eq.trans (congrArg (fun o=>Option.bind o _) (pMul hw hr sM (mS w y y (aS w s (gV w i r e).1 (gV w i r e).2).2).2)) ?_
  simp only [obn]
  rw [w64 (by omega) (by omega),show (i:Int)+1=((i+1:Nat):Int) by omega]
  exact ih (i+1) _ _ _ (by omega) (by omega) sA (SI_mS hw.2 _ _ _) f (by omega)
theorem gamm_prod {w n:Nat} (hw:2≤w∧w≤400) (hn:n≤300) {d:D} (hd:WD d) (hb:blen d.m.natAbs≤1000) (y:AI × Int) (x0:Int):∀ (k i:Nat) (b:I) (e:Int),i+k=n→SI b→∀ f,k<f→
  gamm_work_lgamma_l5 ((n:Int),x0) (dy d) (w:Int) y 0 f (i:Int) e (iv b).Lo.M.Neg (iv b).Lo.M.Mag (iv b).Lo.E (iv b).Hi.M.Neg (iv b).Hi.M.Mag (iv b).Hi.E=gamm_work_lgamma_j1 (w:Int) y 0 ((n:Int),x0) (gP w d k i b e).2 (iv (gP w d k i b e).1).Lo.M.Neg (iv (gP w d k i b e).1).Lo.M.Mag (iv (gP w d k i b e).1).Lo.E (iv (gP w d k i b e).1).Hi.M.Neg (iv (gP w d k i b e).1).Hi.M.Mag (iv (gP w d k i b e).1).Hi.E:=by
 intro k
 induction k with
 | zero=>
  intro i b e hi hs f hf
  obtain ⟨f,rfl⟩:∃ k,f=k+1:=⟨f-1,by omega⟩
  rw [gamm_work_lgamma_l5,if_neg (by simp only; omega)]
  rfl
 | succ k ih=>
  intro i b e hi hs f hf
  obtain ⟨f,rfl⟩:∃ k,f=k+1:=⟨f-1,by omega⟩
  have sP:=SI_pS hd hb e
  have sI:=SI_iS (n:=(i:Int)) (by omega) (pS d e).2
  have sA:=SI_aS hw.2 sP sI (iS (i:Int) (pS d e).2).2
  rw [gamm_work_lgamma_l5,if_pos (by simp only; omega)]
  refine Eq.trans (congrArg (fun o=>Option.bind o _) (ivPoint_eq hd e (w:Int))) ?_
  simp only [obn]
  refine Eq.trans (congrArg (fun o=>Option.bind o _) (pInt (n:=(i:Int)) (by omega) (pS d e).2 (w:Int))) ?_
  simp only [obn]
  refine Eq.trans (congrArg (fun o=>Option.bind o _) (pAdd hw sP sI (iS (i:Int) (pS d e).2).2)) ?_
  simp only [obn]
  rw [ivEta]
  refine Eq.trans (congrArg (fun o=>Option.bind o _) (pMul hw hs sA _)) ?_
  simp only [obn]
  rw [w64 (by omega) (by omega),show (i:Int)+1=((i+1:Nat):Int) by omega]
  exact ih (i+1) _ _ (by omega) (SI_mS hw.2 _ _ _) f (by omega)
theorem SI_gP {w:Nat} (hw:w≤400) {d:D} : ∀ (k i:Nat) (b:I) (e:Int),SI b→SI (gP w d k i b e).1
 | 0,_,_,_,h=>h
 | k+1,i,_,_,_=>SI_gP hw k (i+1) _ _ (SI_mS hw _ _ _)
theorem SI_gT {w:Nat} (hw:w≤400) {y:I} : ∀ (k i:Nat) (s r:I) (e:Int),SI s→SI r→SI (gT w y k i s r e).1
 | 0,_,_,_,_,h,_=>h
 | k+1,i,_,_,_,h,hr=>SI_gT hw k (i+1) _ _ _ (SI_aS hw h (SI_gV hw i hr _) _) (SI_mS hw _ _ _)
theorem gamm_sum {w:Nat} (hw:2≤w∧w≤400) {a b c:I} (ha:SI a) (hb:SI b) (hc:SI c) (e:Int):gamm_work_sum [iv a,iv b,iv c] 0 e (w:Int)=some (iv (aS w (aS w a b e).1 c (aS w a b e).2).1,(aS w (aS w a b e).1 c (aS w a b e).2).2):=by
 obtain ⟨f,hf⟩:=fuel_succ
 have s1:=SI_aS hw.2 ha hb e
 unfold gamm_work_sum
 rw [if_pos (by simp),if_pos (by simp),hf]
 have w1:IntKind.i64.wrap (0+1)=1:=by decide +kernel
 have w2:IntKind.i64.wrap (1+1)=2:=by decide +kernel
 rw [gamm_work_sum_l2,if_pos (by simp),if_pos (by simp),w1]
 refine Eq.trans (congrArg (fun o=>Option.bind o _) (pAdd hw ha hb e)) ?_
 simp only [obn]
 rw [gamm_work_sum_l2,if_pos (by simp),if_pos (by simp),w2,ivEta]
 refine Eq.trans (congrArg (fun o=>Option.bind o _) (pAdd hw s1 hc (aS w a b e).2)) ?_
 simp only [obn]
 rw [gamm_work_sum_l2,if_neg (by simp)]
 rfl
theorem half_nonneg (k:Int):0≤val ⟨1,k⟩:=by rw [val_half]; exact Rat.le_of_lt (p2_pos _)
theorem gamm_lg {w n:Nat} (hw:2≤w∧w≤400) (hn:1≤n∧n≤300) {d:D} (hd:WD d) (hb:blen d.m.natAbs≤1000) (hl:gamm_Lift (dy d)=some ((n:Int),0)) (ok:GOK w n d):gamm_work_lgamma (dy d) 0 0 (w:Int)=some (iv (gS5 w n d).1,(gS5 w n d).2):=by
 have sp:=SI_pt hd hb
 have sn:SI (intI (n:Int)):=SI_int (by omega)
 have sY:SI (gY w n d).1:=SI_aS hw.2 sp sn 0
 have s1:=SI_iS (n:=1) (by omega) (gY w n d).2
 have sB:SI (gB w n d).1:=SI_gP hw.2 n 0 _ _ s1
 have wh:WD ⟨1,-1⟩:=WD_half (by omega)
 have sH:SI (pS ⟨1,-1⟩ (gB w n d).2).1:=SI_pS wh (by decide) _
 have sU:SI (gU w n d).1:=SI_suS hw.2 sY sH _
 have sL1:SI (gL1 w n d).1:=SI_ofRln sY ok.o1
 have sM:SI (gM w n d).1:=SI_mS hw.2 _ _ _
 have sN:SI (gN w n d).1:=SI_nS sY _
 have sQ:SI (gQ w 0).1:=SI_sc (SI_pi hw.2 0) _ _
 have sL2:SI (gL2 w).1:=SI_ofRln sQ ok.o2
 have sC:SI (gC w).1:=SI_sc sL2 _ _
 have sS2:SI (gS2 w n d).1:=SI_aS hw.2 (SI_aS hw.2 sM sN _) sC _
 have sS3:SI (gS3 w n d).1:=SI_gT hw.2 10 1 _ _ _ sS2 sY
 have h160:=half_nonneg (-160)
 have w160:WD ⟨1,-160⟩:=WD_half ⟨by decide,by decide⟩
 have sS4:SI (gS4 w n d).1:=SI_st (SI_wide (d:=⟨1,-160⟩) sS3 h160 hw.2) (gS3 w n d).2
 have sL3:SI (gL3 w n d).1:=SI_ofRln sB ok.o3
 have gY':aS w ⟨d,d⟩ (intI (n:Int)) 0=gY w n d:=rfl
 unfold gamm_work_lgamma
 rw [hl]
 simp only [obn]
 rw [ivPoint_eq hd,st_zero]
 simp only [obn]
 refine Eq.trans (congrArg (fun o=>Option.bind o _) (pInt (n:=(n:Int)) (by omega) 0 (w:Int))) ?_
 simp only [obn]
 refine Eq.trans (congrArg (fun o=>Option.bind o _) (pAdd hw sp sn 0)) ?_
 simp only [obn]
 rw [gY']
 refine Eq.trans (congrArg (fun o=>Option.bind o _) (pInt (n:=1) (by omega) (gY w n d).2 (w:Int))) ?_
 simp only [obn]
 refine Eq.trans (gamm_prod hw hn.2 hd hb (iv (gY w n d).1,(gY w n d).2) 0 n 0 (iS 1 (gY w n d).2).1 (iS 1 (gY w n d).2).2 (by omega) s1 fuel (by unfold fuel; omega)) ?_
 have gB':gP w d n 0 (iS 1 (gY w n d).2).1 (iS 1 (gY w n d).2).2=gB w n d:=rfl
 rw [gB']
 unfold gamm_work_lgamma_j1
 rw [dyad_Half_eq (by omega)]
 simp only [obn]
 refine Eq.trans (congrArg (fun o=>Option.bind o _) (ivPoint_eq wh (gB w n d).2 (w:Int))) ?_
 simp only [obn]
 refine Eq.trans (congrArg (fun o=>Option.bind o _) (pSub hw sY sH (pS ⟨1,-1⟩ (gB w n d).2).2)) ?_
 simp only [obn]
 have gU':suS w (gY w n d).1 (pS ⟨1,-1⟩ (gB w n d).2).1 (pS ⟨1,-1⟩ (gB w n d).2).2=gU w n d:=rfl
 rw [gU',ok.eu]
 refine Eq.trans (congrArg (fun o=>Option.bind o _) (gamm_ln sY)) ?_
 simp only [obn]
 have gL1':ofR lnR (gY w n d).1 (w:Int)=gL1 w n d:=rfl
 rw [gL1',if_pos ok.e1]
 refine Eq.trans (congrArg (fun o=>Option.bind o _) (pMul hw sU sL1 0)) ?_
 simp only [obn]
 have gM':mS w (gU w n d).1 (gL1 w n d).1 0=gM w n d:=rfl
 rw [gM']
 refine Eq.trans (congrArg (fun o=>Option.bind o _) (pNeg sY (gM w n d).2 (w:Int))) ?_
 simp only [obn]
 have gN':nS (gY w n d).1 (gM w n d).2=gN w n d:=rfl
 rw [gN',ok.en]
 refine Eq.trans (congrArg (fun o=>Option.bind o _) (Pi_eq hw 0)) ?_
 simp only [obn]
 refine Eq.trans (congrArg (fun o=>Option.bind o _) (pScale (SI_pi hw.2 0) (n:=1) (by omega) (piS w 0).2 (w:Int))) ?_
 simp only [obn]
 have gQ':scS (piS w 0).1 1 (piS w 0).2=gQ w 0:=rfl
 rw [gQ',ok.eq]
 refine Eq.trans (congrArg (fun o=>Option.bind o _) (gamm_ln sQ)) ?_
 simp only [obn]
 have gL2':ofR lnR (gQ w 0).1 (w:Int)=gL2 w:=rfl
 rw [gL2',if_pos ok.e2]
 refine Eq.trans (congrArg (fun o=>Option.bind o _) (pScale sL2 (n:=-1) (by omega) 0 (w:Int))) ?_
 simp only [obn]
 have gC':scS (gL2 w).1 (-1) 0=gC w:=rfl
 rw [gC']
 refine Eq.trans (congrArg (fun o=>Option.bind o _) (gamm_sum hw sM sN sC (gC w).2)) ?_
 simp only [obn]
 have gS':aS w (aS w (gM w n d).1 (gN w n d).1 (gC w).2).1 (gC w).1 (aS w (gM w n d).1 (gN w n d).1 (gC w).2).2=gS2 w n d:=rfl
 rw [gS']
 refine Eq.trans (gamm_terms hw sY (gY w n d).2 ((n:Int),0) 10 1 (gS2 w n d).1 (gY w n d).1 (gS2 w n d).2 (by omega) (by omega) sS2 sY fuel (by unfold fuel; omega)) ?_
 have gS3':gT w (gY w n d).1 10 1 (gS2 w n d).1 (gY w n d).1 (gS2 w n d).2=gS3 w n d:=rfl
 rw [gS3']
 unfold gamm_work_lgamma_j2
 rw [dyad_Half_eq (by omega)]
 simp only [obn]
 rw [ivEta]
 have kw:=ivWide_eq sS3.ok w160 h160 hw (gS3 w n d).2
 have gS4':st (gS3 w n d).2 zI (wideI w (gS3 w n d).1 ⟨1,-160⟩)=gS4 w n d:=rfl
 rw [gS4'] at kw
 refine Eq.trans (congrArg (fun o=>Option.bind o _) kw) ?_
 simp only [obn]
 rw [ok.es,if_pos (show ((n:Int),(0:Int)).1>0 by simp only; omega),ivEta]
 refine Eq.trans (congrArg (fun o=>Option.bind o _) (gamm_ln sB)) ?_
 simp only [obn]
 have gL3':ofR lnR (gB w n d).1 (w:Int)=gL3 w n d:=rfl
 rw [gL3',if_pos ok.e3]
 have e5:gS5 w n d=suS w (gS4 w n d).1 (gL3 w n d).1 0:=rfl
 rw [e5]
 clear ok
 generalize (gS4 w n d).1=a4 at *
 generalize (gL3 w n d).1=a3 at *
 refine Eq.trans (congrArg (fun o=>Option.bind o _) (pSub hw sS4 sL3 0)) ?_
 rfl
structure GP (d:D) (p:Int):Prop where
 w:WD d
 b:blen d.m.natAbs≤200
 lo:p2 (-64)≤val d
 hi:val d≤64
 p:2≤p∧p≤64
theorem gamm_fits_ok {d:D} {p:Int} (h:GP d p):gamm_fits (dy d) p=some 0:=by
 have hp:=h.p
 have c1:¬cmpD d zD≤0:=by
  intro k
  have:=(cmpD_le _ _).1 k
  rw [val_z] at this
  have:=h.lo
  have:=p2_pos (-64)
  grind
 have c2:¬cmpD d (fromD 64)>0:=by
  intro k
  have:=(cmpD_gt _ _).1 k
  rw [val_from] at this
  have e:((64:Int):Rat)=64:=rfl
  rw [e] at this
  have:=h.hi
  grind
 have c3:¬cmpD d ⟨1,-64⟩<0:=by
  intro k
  have:=(cmpD_lt _ _).1 k
  rw [val_half] at this
  have:=h.lo
  grind
 unfold gamm_fits gamm_fits_j1 gamm_fits_j2
 rw [if_neg (by omega),if_neg (by omega),dyad_Right_dy h.w.1 h.w.sz]
 simp only [obn]
 rw [if_neg (by simp),bits_dy h.w.sz]
 simp only [obn]
 rw [decide_eq_false (by have:=h.b; omega),if_neg (by simp),← dy_z]
 refine Eq.trans (congrArg (fun o=>Option.bind o _) (dyad_Cmp_eq h.w WD_z)) ?_
 simp only [obn]
 rw [if_neg c1,dyad_From_eq (by omega)]
 simp only [obn]
 refine Eq.trans (congrArg (fun o=>Option.bind o _) (dyad_Cmp_eq h.w (WD_from (n:=64) (by omega)))) ?_
 simp only [obn]
 rw [if_neg c2,dyad_Half_eq (by omega)]
 simp only [obn]
 refine Eq.trans (congrArg (fun o=>Option.bind o _) (dyad_Cmp_eq h.w (WD_half (k:=-64) (by omega)))) ?_
 simp only [obn]
 rw [decide_eq_false c3,if_neg (by simp)]
def fK (d:D):Nat:=(flD d).toNat
theorem fK_val {d:D} {p:Int} (h:GP d p):((fK d:Nat):Rat)≤val d∧val d<((fK d:Nat):Rat)+1∧fK d≤64∧flD d=((fK d:Nat):Int):=by
 have fv:=flD_val d
 have hp:=p2_pos (-64)
 have hlo:=h.lo
 have f0:0≤flD d:=by
  have:((-1:Int):Rat)<(flD d:Rat):=by
   have e:((-1:Int):Rat) = -1:=rfl
   rw [e]; grind
  have:=Rat.intCast_lt_intCast.1 this
  omega
 have hk:flD d=((fK d:Nat):Int):=by unfold fK; omega
 rw [hk] at fv
 have e:(((fK d:Nat):Int):Rat)=((fK d:Nat):Rat):=Rat.intCast_natCast _
 rw [e] at fv
 have h64:fK d≤64:=by
  have:((fK d:Nat):Rat)≤((64:Nat):Rat):=Rat.le_trans fv.1 h.hi
  exact_mod_cast this
 exact ⟨fv.1,fv.2,h64,hk⟩
def gn (d:D):Nat:=256-fK d
theorem inR_gp {d:D} {p:Int} (h:GP d p):inR d=true:=by
 have o:=val_size d
 have h0:d.m≠0:=by
  intro k
  have:val d=0:=by show (d.m:Rat)*_=0; rw [k]; simp
  have:=h.lo; have:=p2_pos (-64); grind
 have b7:B 6 (val d):=by
  have:=h.hi; have:=h.lo; have:=p2_pos (-64)
  unfold B; rw [show p2 6=64 by decide +kernel]; exact ⟨by grind,by grind⟩
 have e2:=B_size h0 b7
 have lo : -64<d.e+(blen d.m.natAbs:Nat):=by
  have k:=o.2
  have:=h.lo
  have:=p2_le_iff.1 (show p2 (-64)≤p2 (d.e+(blen d.m.natAbs:Nat)) by grind)
  rcases Int.lt_or_le (-64) (d.e+(blen d.m.natAbs:Nat)) with q | q
  ·exact q
  ·exfalso
   have e:d.e+(blen d.m.natAbs:Nat) = -64:=by omega
   have lt:=blen_lt d.m.natAbs
   have hm:(d.m:Rat)<((2 ^ blen d.m.natAbs:Nat):Rat):=by
    have:d.m<((2 ^ blen d.m.natAbs:Nat):Int):=by omega
    have:=intCast_lt this
    rwa [Rat.intCast_natCast] at this
   have hp:=p2_pos d.e
   have k2:=Rat.mul_lt_mul_of_pos_right hm hp
   have k3:((2 ^ blen d.m.natAbs:Nat):Rat)*p2 d.e=p2 (-64):=by
    rw [← p2_nat,← p2_add]; congr 1; omega
   rw [k3] at k2
   have:val d=(d.m:Rat)*p2 d.e:=rfl
   grind
 have hb:=h.b
 exact inR_of h.w.odd0 (L:=d.e) (H:=d.e+(blen d.m.natAbs:Nat)) ⟨d.m,rfl⟩ o (by omega) (by omega)
theorem gamm_Lift_ok {d:D} {p:Int} (h:GP d p):gamm_Lift (dy d)=some ((gn d:Int),0):=by
 have f0:=gamm_fits_ok (d:=d) (p:=2) ⟨h.w,h.b,h.lo,h.hi,by omega⟩
 obtain ⟨k1,k2,k3,k4⟩:=fK_val h
 unfold gamm_Lift
 rw [f0]
 simp only [obn]
 rw [if_neg (by simp),dyad_Floor_eq h.w]
 simp only [obn]
 have hfl:floorS d=(((fK d:Nat):Int),0):=by unfold floorS; rw [if_pos (inR_gp h),k4]
 rw [hfl]
 simp only
 rw [zint_Small_eq (by rw [Int.natAbs_natCast]; exact SZ_pow (k:=7) (by omega) (by omega))]
 simp only [obn]
 have hs:smallZ ((fK d:Nat):Int)=(((fK d:Nat):Int),true):=by unfold smallZ; rw [if_pos (by omega)]
 rw [hs]
 simp only
 rw [w64 (by omega) (by omega)]
 have:(256:Int)-(fK d:Nat)=(gn d:Int):=by unfold gn; omega
 rw [this]
theorem gdone_eq {a:I} (ha:SI a) {p:Nat} (hp:2≤p∧p≤400) (e w:Int):gamm_work_done (iv a) (p:Int) 0 e w=some (iv (doneS p (a,e)).1,(doneS p (a,e)).2):=by
 unfold gamm_work_done gamm_work_bad iv_trouble_Err
 simp only [obn]
 rw [if_neg (by simp)]
 simp only [obn]
 by_cases h:e=0
 ·subst h
  rw [if_neg (by simp),ivNew_eq hp]
  simp only [obn]
  have:=ivOut_eq ha.ok hp 0
  refine Eq.trans (congrArg (fun o=>Option.bind o _) this) ?_
  rfl
 ·rw [if_pos h]
  unfold doneS
  rw [st_ne h,iv_z]
def gLR (d:D) (w p:Nat):I × Int:=doneS p (gS5 w (gn d) d)
theorem gLR_eq (d:D) (w p:Nat):gLR d w p=doneS p (gS5 w (gn d) d):=rfl
theorem done_eta (p:Nat) (r:I × Int):doneS p (r.1,r.2)=doneS p r:=rfl
theorem gn_le {d:D} {p:Int} (h:GP d p):192≤gn d∧gn d≤256:=by have:=(fK_val h).2.2.1; unfold gn; omega
theorem SI_gS5 {w n:Nat} {d:D} (hw:w≤400) (hd:WD d) (hb:blen d.m.natAbs≤1000) (hn:n≤300) (ok:GOK w n d):SI (gS5 w n d).1:=by
 have sp:=SI_pt hd hb
 have sn:SI (intI (n:Int)):=SI_int (by omega)
 have sY:SI (gY w n d).1:=SI_aS hw sp sn 0
 have s1:=SI_iS (n:=1) (by omega) (gY w n d).2
 have sB:SI (gB w n d).1:=SI_gP hw n 0 _ _ s1
 have sQ:SI (gQ w 0).1:=SI_sc (SI_pi hw 0) _ _
 have sL2:SI (gL2 w).1:=SI_ofRln sQ ok.o2
 have sC:SI (gC w).1:=SI_sc sL2 _ _
 have sS2:SI (gS2 w n d).1:=SI_aS hw (SI_aS hw (SI_mS hw _ _ _) (SI_nS sY _) _) sC _
 have sS3:SI (gS3 w n d).1:=SI_gT hw 10 1 _ _ _ sS2 sY
 have h160:=half_nonneg (-160)
 have sS4:SI (gS4 w n d).1:=SI_st (SI_wide (d:=⟨1,-160⟩) sS3 h160 hw) (gS3 w n d).2
 have sL3:SI (gL3 w n d).1:=SI_ofRln sB ok.o3
 have e5:gS5 w n d=suS w (gS4 w n d).1 (gL3 w n d).1 0:=rfl
 rw [e5]
 exact SI_suS hw sS4 sL3 0
theorem gamm_begin_eq {w:Nat} (hw:2≤w∧w≤400):gamm_begin (w:Int)=some (Sum.inr (0,(w:Int),0)):=by
 unfold gamm_begin
 rw [ivNew_eq hw]
 rfl
def gGR (d:D) (p:Nat):I × Int:=ofR expR (gLR d (p+96) (p+64)).1 ((p+32:Nat):Int)
theorem gGR_eq (d:D) (p:Nat):gGR d p=ofR expR (gLR d (p+96) (p+64)).1 ((p+32:Nat):Int):=rfl
theorem Gamma_eq {d:D} {p:Nat} (h:GP d (p:Int)) (ok:GOK (p+96) (gn d) d) (e1:(gS5 (p+96) (gn d) d).2=0) (e2:(gLR d (p+96) (p+64)).2=0) (e3:(gGR d p).2=0) (o3:val (gGR d p).1.lo≤val (gGR d p).1.hi):gamm_Gamma (dy d) (p:Int)=some (iv (doneS p ((gGR d p).1,0)).1,(doneS p ((gGR d p).1,0)).2):=by
 have hp:=h.p
 have hn:=gn_le h
 have hw:2≤p+96∧p+96≤400:=by omega
 have hb:blen d.m.natAbs≤1000:=by have:=h.b; omega
 have S:=SI_gS5 hw.2 h.w hb (by omega) ok
 have k:=gamm_lg hw (by omega) h.w hb (gamm_Lift_ok h) ok
 have SL:SI (gLR d (p+96) (p+64)).1:=SI_done S (by omega)
 have SG:SI (gGR d p).1:=SI_ofR_gen SI_expR SI_expR o3
 have kd:=gdone_eq S (p:=p+64) (by omega) (gS5 (p+96) (gn d) d).2 ((p+96:Nat):Int)
 rw [done_eta,← gLR_eq] at kd
 have ke:=ExpOf_eq SL ((p+32:Nat):Int)
 rw [← gGR_eq] at ke
 rw [e1] at k kd
 rw [e2] at kd
 rw [e3] at ke
 clear ok e1 e2 e3
 generalize gS5 (p+96) (gn d) d=r at *
 generalize gLR d (p+96) (p+64)=l at *
 generalize gGR d p=g at *
 unfold gamm_Gamma
 rw [gamm_fits_ok h]
 simp only [obn]
 rw [if_neg (by simp),w64 (x:=(p:Int)+64) (by omega) (by omega),w64 (x:=(p:Int)+64+32) (by omega) (by omega),show (p:Int)+64+32=((p+96:Nat):Int) by omega,gamm_begin_eq hw]
 simp only [obn]
 refine Eq.trans (congrArg (fun o=>Option.bind o _) k) ?_
 simp only [obn]
 rw [show (p:Int)+64=((p+64:Nat):Int) by omega]
 refine Eq.trans (congrArg (fun o=>Option.bind o _) kd) ?_
 simp only [obn]
 rw [if_neg (by simp),w64 (by omega) (by omega),show (p:Int)+32=((p+32:Nat):Int) by omega]
 refine Eq.trans (congrArg (fun o=>Option.bind o _) ke) ?_
 simp only [obn]
 rw [if_neg (by simp)]
 refine Eq.trans (congrArg (fun o=>Option.bind o _) (gdone_eq SG (p:=p) (by omega) 0 _)) ?_
 rfl
theorem ser_wI {p:Nat} (hp:1≤p) (next:Nat→I→Int→I × I × Int) (Inv:Nat→I→Prop) (P Su:Nat→R) {L:Int} {Hh:Int} {wp m w0:Rat} {N:Nat} (hS:∀ i,Su (i+1)=Su i+P (i+1)) (hwp:0≤wp)
  (hn:∀ i t,i<N→Inv i t→(next (i+1) t 0).2.2=0∧Inv (i+1) (next (i+1) t 0).1∧HasW ((next (i+1) t 0).2.1,0) (P (i+1)) L Hh wp)
  (hSu:∀ i,ab (Su i)≤ofQ m) (hK:m+(w0+(N:Rat)*(wp+2*p2 (-(p:Int))))≤1) (hL : -60000≤L) (hH:Hh≤0) :
  ∀ (k i:Nat) (s t:I),i+k=N→HasW (s,0) (Su i) L 0 (w0+(i:Rat)*(wp+2*p2 (-(p:Int))))→Inv i t→HasW (serL p next k i s t 0) (Su N) L 0 (w0+(N:Rat)*(wp+2*p2 (-(p:Int)))):=by
 intro k
 induction k with
 | zero=>
  intro i s t hi hs _
  have:i=N:=by omega
  subst this
  exact hs
 | succ k ih=>
  intro i s t hi hs ht
  obtain ⟨n1,n2,n3⟩:=hn i t (by omega) ht
  have hpp:=p2_pos (-(p:Int))
  have d1:=ncast_succ i (wp+2*p2 (-(p:Int)))
  have d2:=ncast_mul_le (show i+1≤N by omega) (show 0≤wp+2*p2 (-(p:Int)) by grind)
  have h1:=hw_add (p:=p) (K:=0) (m:=m) hs (n3.mono (Int.le_refl _) (H':=0) (by omega) Rat.le_refl) (by rw [← hS i]; exact hSu _) (by rw [p2_zero]; grind) hp (by omega) (by omega)
  rw [serL,n1]
  have h2:=ih (i+1) _ _ (by omega) ((h1.mono (Int.le_refl _) (Int.le_refl _) (w':=w0+((i+1:Nat):Rat)*(wp+2*p2 (-(p:Int)))) (by rw [show (0:Int)-(p:Int) = -(p:Int) by omega]; grind)).eq (hS i).symm).pair n2
  rw [h1.h.e]; exact h2
theorem HasF.W {r:I × Int} {x:R} {l H:Int} {p:Nat} (h:HasF r x l p H) {w:Rat} (hw:val r.1.hi-val r.1.lo≤w):HasW r x (l-p) H w:=⟨h.h,hw⟩
theorem atanh_wF {p:Nat} (hp:30≤p∧p≤200) {y:I} {x:R} {l:Int} (hy:HasF (y,0) x l p (-1)) (hw:val y.hi-val y.lo≤17*p2 (-(p:Int))) (hx:ab x≤ofQ (1 / 3)) (hl : -190≤l∧l ≤ -1):HasW (atanhI p y) (An.H x) (-42000) 0 (1200*p2 (-(p:Int))):=by
 have L3:=p2_lits
 have hpp:=p2_pos (-(p:Int))
 have eW:=w_small (w:=p+10) (by omega) (n:=10) (by omega)
 rw [show 10-((p+10:Nat):Int) = -(p:Int) by omega] at eW
 have hNr:((p / 2+4:Nat):Rat)≤104:=by exact_mod_cast natCast_le (show p / 2+4≤104 by omega)
 unfold atanhI
 rw [if_pos (in_box hy.h.ok)]
 have hq:=hasF_mul hy hy (by omega) (by omega) (by omega)
 have hqw:=hw_mul (hy.W hw) (hy.W hw) (p:=p) (by omega) (by omega) (by omega)
 have eN:(2*l)*((p / 2+4:Nat):Int) ≥ -380*104:=by
  have:(-(2*l))*((p / 2+4:Nat):Int)≤380*((104:Nat):Int):=Int.mul_le_mul (by omega) (by omega) (by omega) (by omega)
  have e:(-(2*l))*((p / 2+4:Nat):Int) = -((2*l)*((p / 2+4:Nat):Int)):=Int.neg_mul _ _
  omega
 have qw:val (mS p y y 0).1.hi-val (mS p y y 0).1.lo≤18*p2 (-(p:Int)):=by
  have:=hqw.w
  have e1:p2 (-1 + -1-(p:Int))=1 / 4*p2 (-(p:Int)):=by rw [show (-1:Int) + -1-(p:Int) = -2-(p:Int) by omega,p2_sub,L3.2.1]
  rw [e1,L3.1] at this
  simp only at this
  grind
 have h:=ser_wI (p:=p) (by omega) (nAtanh p (mS p y y 0).1) (fun i t=>HasF (t,0) (od (2*i+1)*x ^ (2*i+1)) (l+(2*l)*i) p (-1)∧val t.hi-val t.lo≤17*p2 (-(p:Int))) (fun i=>ahc (2*i+1)*x ^ (2*i+1)) (fun i=>psum ahc x (2*i+2)) (L:=-42000) (Hh:=-1) (wp:=9*p2 (-(p:Int))) (m:=1 / 2) (w0:=17*p2 (-(p:Int))) (N:=p / 2+4) (fun i=>ahc_sum x i) (by grind) (by
  intro i t hiN ht
  have e1:=cmul_succ (2*l) i
  have m1:(-(2*l))*(i+1:Nat)≤(-(2*l))*(p / 2+4:Nat):=cmul_le (by omega) (show i+1≤p / 2+4 by omega)
  rw [Int.neg_mul,Int.neg_mul] at m1
  have h1:=hasF_mul ht.1 hq.pair (p:=p) (by omega) (by omega) (by omega)
  have h1w:=hw_mul (ht.1.W ht.2) (hq.W qw).pair (p:=p) (by omega) (by omega) (by omega)
  have h2:HasF (mS p t (mS p y y 0).1 0) (od (2*(i+1)+1)*x ^ (2*(i+1)+1)) (l+(2*l)*(i+1:Nat)) p (-1):=(h1.mono (by omega) (by omega)).eq (by
   rw [show 2*(i+1)+1=2*i+1+2 by omega,od_two,rpow_succ,rpow_succ]; grind)
  have h2w:val (mS p t (mS p y y 0).1 0).1.hi-val (mS p t (mS p y y 0).1 0).1.lo≤17*p2 (-(p:Int)):=by
   have:=h1w.w
   have e2:p2 (-1+(-1 + -1)-(p:Int))=1 / 8*p2 (-(p:Int)):=by rw [show (-1:Int)+(-1 + -1)-(p:Int) = -3-(p:Int) by omega,p2_sub,L3.2.2.1]
   rw [e2,L3.1,show p2 (-1 + -1)=1 / 4 from L3.2.1] at this
   simp only at this
   grind
  have h3:=hw_div_n (p:=p) (h2.W h2w) (n:=2*(i+1)+1) (k:=10) (by omega) (by omega) (by omega) (j:=1) (by rw [show (1:Int)=((1:Nat):Int) from rfl,p2_nat]; exact natCast_le (by omega)) (z:=ahc (2*(i+1)+1)*x ^ (2*(i+1)+1)) (over_n (od (2*(i+1)+1)) (x ^ (2*(i+1)+1)) (2*(i+1))) (by omega) (by omega) (by omega)
  have z2:(mS p t (mS p y y 0).1 0).2=0:=h2.h.e
  have e4:(iS ((2*(i+1)+1:Nat):Int) 0).2=0:=rfl
  unfold nAtanh oddS
  rw [z2]
  simp only
  rw [e4]
  refine ⟨h3.h.e,⟨h2.pair,h2w⟩,(h3.mono (by omega) (by omega) ?_).pair⟩
  rw [show -1-(1:Int)-(p:Int) = -2-(p:Int) by omega,p2_sub,L3.1,L3.2.1]; grind) (fun k=>by
   have q:=Su_le (a:=ahc) (by rw [ahc,show od 0=0 from rfl]; grind) (over_ab rfl fun n=>(eo_ab n).1) (geo_q (q:=1 / 3) (by decide +kernel) (by decide +kernel)) hx (2*k+1)
   rw [← ofQ_mul] at q
   exact rle_trans q (ofQ_le.2 (by decide +kernel))) (by
   generalize ((p / 2+4:Nat):Rat)=N at *
   have:=Rat.mul_le_mul_of_nonneg_right hNr (show 0≤9*p2 (-(p:Int))+2*p2 (-(p:Int)) by grind)
   grind) (by omega) (by omega) (p / 2+4) 0 y y (by omega)
  (((hy.W hw).mono (by omega) (by omega) (by have:((0:Nat):Rat)=0:=rfl; rw [this]; grind)).eq (by
   show x=0+ahc 0*x ^ 0+ahc 1*x ^ (0+1)
   have h1:=over_n (od 1) x 0
   rw [show ((0+1:Nat):R)=1 from rfl] at h1
   rw [rpow_succ,rpow_zero,ahc,ahc,show od 0=0 from rfl,show od 1=1 from rfl,show ((1:Nat):R)=1 from rfl]
   rw [show od 1=1 from rfl] at h1
   grind))
  ⟨((hy.mono (by omega) (by omega)).eq (by
   show x=od 1*x ^ (0+1)
   rw [rpow_succ,rpow_zero,show od 1=1 from rfl]; grind)),hw⟩
 rw [hq.h.e]
 unfold finS
 rw [h.h.e]
 have hf1:=hf_le (show p+1≤2*(p / 2+4)+2 by omega)
 have hf2:=two_hf p
 have hxh:=box_half (in_box hy.h.ok) hy.h.m
 have h5:=hw_wide (p:=p) (K:=0) (m:=1 / 2) h (d:=⟨1,-(p:Int)⟩) (Okd_half (by omega) (by omega) (by omega)) (y:=An.H x) (by
  rw [val_half,p2_neg_nat]
  exact rle_trans (tail_half (over_ab rfl fun n=>(eo_ab n).1) hxh _) (by grind)) (by
   have q:=Su_le (a:=ahc) (by rw [ahc,show od 0=0 from rfl]; grind) (over_ab rfl fun n=>(eo_ab n).1) (geo_q (q:=1 / 3) (by decide +kernel) (by decide +kernel)) hx (2*(p / 2+4)+1)
   rw [← ofQ_mul] at q
   exact rle_trans q (ofQ_le.2 (by decide +kernel))) (by
   rw [val_half,p2_zero]
   generalize ((p / 2+4:Nat):Rat)=N at *
   have:=Rat.mul_le_mul_of_nonneg_right hNr (show 0≤9*p2 (-(p:Int))+2*p2 (-(p:Int)) by grind)
   grind) (by omega) (by omega) (by omega)
 refine h5.mono (Int.le_refl _) (Int.le_refl _) ?_
 rw [val_half,show (0:Int)-(p:Int) = -(p:Int) by omega]
 generalize ((p / 2+4:Nat):Rat)=N at *
 have:=Rat.mul_le_mul_of_nonneg_right hNr (show 0≤9*p2 (-(p:Int))+2*p2 (-(p:Int)) by grind)
 grind
theorem lnT_wG {m:I} {r:Rat} {L:Int} (hm:HasW (m,0) (ofQ r) L 1 0) (h1:3 / 4≤r) (h2:r≤3 / 2) (hL : -180≤L∧L≤0) {k:Int} (hk:k.natAbs≤2 ^ 14) {w:Nat} (hw:30≤w∧w≤200):HasW (lnT w m k 0) (Ln (ofQ r)+(k:R)*Ln 2) (-46000) 16 (p2 (25-(w:Int))):=by
 have i1:HasW (intI 1,0) ((1:Int):R) 0 0 0:=hw_int (n:=1) (K:=0) (by omega) (by decide)
 have e1:((1:Int):R)=ofQ 1:=rfl
 rw [e1] at i1
 have p2':p2 2=4:=by decide +kernel
 have ab1:ab (ofQ r-ofQ 1)≤ofQ (1 / 2):=by
  have a1:=ofQ_le.2 (show (3 / 4:Rat)≤r from h1)
  have a2:=ofQ_le.2 h2
  have a3:ofQ (3 / 2)=ofQ 1+ofQ (1 / 2):=by rw [← ofQ_add,show (1:Rat)+1 / 2=3 / 2 by decide +kernel]
  have a4:ofQ (3 / 4)+ofQ (1 / 4)=ofQ 1:=by rw [← ofQ_add,show (3 / 4:Rat)+1 / 4=1 by decide +kernel]
  have a5:=ofQ_le.2 (show (1 / 4:Rat)≤1 / 2 by decide +kernel)
  exact ab_le.2 ⟨by grind,by grind⟩
 have ab2:ab (ofQ r+ofQ 1)≤ofQ 3:=by
  have a2:=ofQ_le.2 (show r+1≤3 by grind)
  have a1:=ofQ_le.2 (show -3≤r+1 by grind)
  rw [ofQ_add] at a1 a2
  rw [ofQ_neg] at a1
  exact ab_le.2 ⟨a1,a2⟩
 have k2:=w_small (w:=w+10) (by omega) (n:=12) (by omega)
 rw [show 12-((w+10:Nat):Int)=2-(w:Int) by omega] at k2
 have hs:=hw_sub (p:=w) (m:=1 / 2) (K:=2) (hm.mono (L':=L) (H':=1) (by omega) (by omega) Rat.le_refl) (i1.mono (L':=L) (H':=1) (by omega) (by omega) Rat.le_refl) ab1 (by rw [p2']; grind) (by omega) (by omega) (by omega)
 have ht:=hw_add (p:=w) (m:=3) (K:=2) (hm.mono (L':=L) (H':=1) (by omega) (by omega) Rat.le_refl) (i1.mono (L':=L) (H':=1) (by omega) (by omega) Rat.le_refl) ab2 (by rw [p2']; grind) (by omega) (by omega) (by omega)
 unfold lnT
 simp only
 rw [show iS 1 0=(intI 1,0) from rfl]
 simp only
 have es:(suS w m (intI 1) 0).2=0:=hs.h.e
 have et:(aS w m (intI 1) 0).2=0:=ht.h.e
 rw [es,show iS 1 0=(intI 1,0) from rfl]
 simp only
 rw [et]
 generalize suS w m (intI 1) 0=s at *
 generalize aS w m (intI 1) 0=t at *
 have s1:=hs.h.m.lo; have s2:=hs.h.m.hi; have s3:=hs.w
 have t1:=ht.h.m.lo; have t2:=ht.h.m.hi; have t3:=ht.w
 have hs':HasW s (ofQ r-ofQ 1) L 2 (0+0+2*p2 (2-(w:Int))):=hs
 have ht':HasW t (ofQ r+ofQ 1) L 2 (0+0+2*p2 (2-(w:Int))):=ht
 rw [← ofQ_sub] at s1 s2
 rw [← ofQ_add] at t1 t2
 have s1:=ofQ_le.1 s1; have s2:=ofQ_le.1 s2
 have t1:=ofQ_le.1 t1; have t2:=ofQ_le.1 t2
 have s3:val s.1.hi-val s.1.lo≤0+0+2*p2 (2-(w:Int)):=hs'.w
 have t3:val t.1.hi-val t.1.lo≤0+0+2*p2 (2-(w:Int)):=ht'.w
 have s4 : -(3 / 4)≤val s.1.lo∧val s.1.lo≤3 / 4:=⟨by grind,by grind⟩
 have s5 : -(3 / 4)≤val s.1.hi∧val s.1.hi≤3 / 4:=⟨by grind,by grind⟩
 have t4:3 / 2≤val t.1.lo:=by grind
 have t5:3 / 2≤val t.1.hi:=by grind
 have hnz:hasI t.1 zD=false:=by
  cases hq:hasI t.1 zD with
  | false=>rfl
  | true=>
   have:=((hasI_iff _ _).1 hq).1
   rw [val_z] at this
   grind
 have hpos:(0:R)<ofQ r+ofQ 1:=by rw [← ofQ_add]; exact ofQ_lt.2 (show (0:Rat)<r+1 by grind)
 have hinv:=mul_inv (x:=ofQ r+ofQ 1) (by grind)
 have hz:(ofQ r-ofQ 1)*(ofQ r+ofQ 1)⁻¹*(ofQ r+ofQ 1)=ofQ r-ofQ 1:=by grind
 obtain ⟨c,u,v,e,o,en,q⟩:=divI_enc (p:=w) hs'.h.ok ht'.h.ok hnz (by omega) (by omega) (by omega)
 have hd:=has_div hs'.h ht'.h hnz hz (p:=w) (by omega) (by omega) (by omega)
 have e':dS w s.1 t.1 0=(c,0):=by unfold dS; rw [st_zero]; exact e
 rw [e'] at hd ⊢
 simp only
 have bu:B (-1) u:=by rcases q.mu with k | k | k | k<;>rw [k]<;>exact quo_b (by assumption) (by assumption)
 have bv:B (-1) v:=by rcases q.mv with k | k | k | k<;>rw [k]<;>exact quo_b (by assumption) (by assumption)
 have b:=enc_bounds en bu bv o.le
 have dlt:v-u≤(0+0+2*p2 (2-(w:Int)))+(0+0+2*p2 (2-(w:Int))):=by
  have sle:val s.1.lo≤val s.1.hi:=hs'.h.ok.le
  have tle:val t.1.lo≤val t.1.hi:=ht'.h.ok.le
  exact quo_width q.mu q.mv sle tle t4 s3 t3 (B_one bu)
 have t6:val t.1.lo≤4:=by grind
 have t7:val t.1.hi≤4:=by grind
 have fs1:=G_far hs'.h.ok.lo.g
 have fs2:=G_far hs'.h.ok.hi.g
 have fu:Far (L-2) u:=by
  rcases q.mu with k | k | k | k<;>rw [k]
  ·exact fs1.div (by grind) t6
  ·exact fs1.div (by grind) t7
  ·exact fs2.div (by grind) t6
  ·exact fs2.div (by grind) t7
 have fv:Far (L-2) v:=by
  rcases q.mv with k | k | k | k<;>rw [k]
  ·exact fs1.div (by grind) t6
  ·exact fs1.div (by grind) t7
  ·exact fs2.div (by grind) t6
  ·exact fs2.div (by grind) t7
 have wd:=enc_width en bu bv
 have q8:p2 (2-(w:Int))=4*p2 (-(w:Int)):=by rw [show 2-(w:Int)=2 + -(w:Int) by omega,p2_add]; rfl
 have qh:p2 (-1-(w:Int))=p2 (-(w:Int)) / 2:=eps_half
 rw [q8] at dlt
 rw [qh] at wd
 have oc:OkI c (L-2-w-2) (-1):=⟨⟨o.lo.w,o.lo.g,b.1⟩,⟨o.hi.w,o.hi.g,b.2⟩,o.le⟩
 have L3:=p2_lits
 have hpos':=p2_pos (-(w:Int))
 have eW:=w_small (w:=w+10) (by omega) (n:=10) (by omega)
 rw [show 10-((w+10:Nat):Int) = -(w:Int) by omega] at eW
 generalize hed:p2 (-(w:Int))=ep at *
 obtain ⟨z1,z2⟩:=third h1 h2
 have zq:(ofQ r-ofQ 1)*(ofQ r+ofQ 1)⁻¹=ofQ ((r-1) / (r+1)):=by
  have e3:ofQ ((r-1) / (r+1))*(ofQ r+ofQ 1)=ofQ r-ofQ 1:=by
   rw [← ofQ_add,← ofQ_mul,← ofQ_sub,mul_of_div (show r+1≠0 by grind)]
  rw [← e3]
  grind
 have abz:ab ((ofQ r-ofQ 1)*(ofQ r+ofQ 1)⁻¹)≤ofQ (1 / 3):=by
  rw [zq]
  have a1:=ofQ_le.2 z1
  have a2:=ofQ_le.2 z2
  rw [ofQ_neg] at a1
  exact ab_le.2 ⟨a1,a2⟩
 have hzw:HasW (c,0) ((ofQ r-ofQ 1)*(ofQ r+ofQ 1)⁻¹) (L-2-w-2) (-1) (17*ep):=⟨⟨rfl,oc,hd.m⟩,by show val c.hi-val c.lo≤17*ep; grind⟩
 have hzF:HasF (c,0) ((ofQ r-ofQ 1)*(ofQ r+ofQ 1)⁻¹) (L-2) w (-1):=enc_hasF en oc hd.m fu fv
 have hNr:((w / 2+4:Nat):Rat)≤104:=by exact_mod_cast natCast_le (show w / 2+4≤104 by omega)
 have ha:=atanh_wF (p:=w) (by omega) hzF (by rw [hed]; exact hzw.w) abz (by omega)
 rw [hed] at ha
 have hA:HasW (ahS w c 0) (An.H ((ofQ r-ofQ 1)*(ofQ r+ofQ 1)⁻¹)) (-42000) 0 (1200*ep):=by
  unfold ahS; rw [st_zero]
  exact ha
 have hg:=hw_scale (n:=1) hA (by omega) (by omega)
 rw [hA.h.e,hg.h.e]
 have hi:HasW (intI k,0) (k:R) 0 (14:Nat) 0:=hw_int (K:=14) (by omega) hk
 rw [show iS k 0=(intI k,0) from rfl]
 simp only
 have hl:=ln2_w (p:=w) (by omega)
 rw [hed] at hl
 rw [hl.h.e]
 have hl':=hl.mono (Int.le_refl _) (Int.le_refl _) (w':=690*ep) (by
  generalize ((w / 2+4:Nat):Rat)=N at *
  have:=Rat.mul_le_mul_of_nonneg_right hNr (show 0≤ep by grind)
  grind)
 have hkl:=hw_mul hi hl' (p:=w) (by omega) (by omega) (by omega)
 rw [hkl.h.e]
 have p14:p2 ((14:Nat):Int)=16384:=by decide +kernel
 have q15:p2 (((14:Nat):Int)+1-(w:Int))=32768*ep:=by rw [p2_sub,hed]; congr 1
 rw [p14,q15] at hkl
 have q1:p2 1=2:=rfl
 rw [q1] at hg hkl
 have q16:p2 (16-(w:Int))=65536*ep:=by rw [p2_sub,hed]; congr 1
 have q24:p2 (25-(w:Int))=33554432*ep:=by rw [p2_sub,hed]; congr 1
 have p16:p2 16=65536:=by decide +kernel
 have p15:p2 (((14:Nat):Int)+1)=32768:=by decide +kernel
 have x1:=hg.h.m.lo; have x2:=hg.h.m.hi
 have y1:=hkl.h.m.lo; have y2:=hkl.h.m.hi
 have u1:=hg.h.ok.lo.b.1; have u2:=hg.h.ok.hi.b.2
 have u3:=hkl.h.ok.lo.b.1; have u4:=hkl.h.ok.hi.b.2
 rw [show (0:Int)+1=1 by rfl,q1] at u1 u2
 rw [p15] at u3 u4
 have hb:ab (An.H ((ofQ r-ofQ 1)*(ofQ r+ofQ 1)⁻¹)*ofQ 2+(k:R)*Ln 2)≤ofQ 32770:=by
  have e1:=rle_trans (ofQ_le.2 u1) x1
  have e2:=rle_trans x2 (ofQ_le.2 u2)
  have e3:=rle_trans (ofQ_le.2 u3) y1
  have e4:=rle_trans y2 (ofQ_le.2 u4)
  have e5:ofQ 32770=ofQ 2+ofQ 32768:=by rw [← ofQ_add,show (2:Rat)+32768=32770 by decide +kernel]
  rw [ofQ_neg] at e1 e3
  rw [e5]
  generalize An.H ((ofQ r-ofQ 1)*(ofQ r+ofQ 1)⁻¹)*ofQ 2=X at *
  generalize (k:R)*Ln 2=Y at *
  exact ab_le.2 ⟨by grind,by grind⟩
 have hsum:=hw_add (p:=w) (K:=16) (m:=32770) (hg.mono (L':=-46000) (H':=16) (by omega) (by omega) Rat.le_refl) (hkl.mono (L':=-46000) (H':=16) (by omega) (by omega) Rat.le_refl) hb (by rw [p16]; grind) (by omega) (by omega) (by omega)
 rw [q16] at hsum
 refine (hsum.mono (Int.le_refl _) (Int.le_refl _) (by rw [q24]; grind)).eq ?_
 have t2:=two_R (An.H ((ofQ r-ofQ 1)*(ofQ r+ofQ 1)⁻¹))
 rw [q1] at t2
 rw [t2,Ln]
 rfl
theorem ln2_up:0≤Ln 2∧Ln 2≤ofQ (7 / 10):=by
 rw [ln2_eq]
 have h:=ln2_near
 exact ⟨rle_trans (ofQ_le.2 (by decide +kernel)) h.1,rle_trans h.2 (ofQ_le.2 (by decide +kernel))⟩
theorem ln_bound {d:D} (h0:0<d.m) (hk : -2600≤lnK d∧lnK d≤2600):ab (Ln (ofQ (val d)))≤ofQ 1822:=by
 obtain ⟨k1,k2⟩:=lnK_pow h0
 have hp:=p2_pos (lnK d)
 have m1:=Ln_mono (p2_R_pos (lnK d)) (ofQ_le.2 k1)
 have m2:=Ln_mono (ofQ_lt.2 (show (0:Rat)<val d by grind)) (ofQ_le.2 (Rat.le_of_lt k2))
 rw [Ln_p2] at m1 m2
 have l:=ln2_up
 have e:ofQ 1822=ofQ 2602*ofQ (7 / 10)+ofQ (3 / 5):=by rw [← ofQ_mul,← ofQ_add]; congr 1; decide +kernel
 have h35:0≤ofQ (3 / 5):=ofQ_le.2 (by decide +kernel)
 have c1:((lnK d+1:Int):R)≤ofQ 2602:=by
  rw [show ((lnK d+1:Int):R)=ofQ ((lnK d+1:Int):Rat) from rfl]
  exact ofQ_le.2 (by have:=intCast_le (show lnK d+1≤2602 by omega); exact this)
 have c2 : -ofQ 2602≤((lnK d:Int):R):=by
  rw [show ((lnK d:Int):R)=ofQ ((lnK d:Int):Rat) from rfl,← ofQ_neg]
  exact ofQ_le.2 (by have:=intCast_le (show -2602≤lnK d by omega); exact this)
 have q1:=rmul_le c1 l.1
 have q2:=rmul_le c2 l.1
 have q3:=rmul_le' l.2 (show 0≤ofQ 2602 from ofQ_le.2 (by decide +kernel))
 rw [e]
 generalize ofQ 2602*ofQ (7 / 10)=z at *
 refine ab_le.2 ⟨by grind,by grind⟩
theorem done_wG {r:I × Int} {v:R} {L:Int} {p:Nat} (hp:2≤p) (h:HasW r v L 16 (p2 (25-((p+32:Nat):Int)))) (hv:ab v≤ofQ 1822) (hL : -60000≤L:=by omega):HasW (doneS p r) v L 11 (p2 (13-(p:Int))):=by
 have e7:p2 (25-((p+32:Nat):Int))=p2 (-7-(p:Int)):=by congr 1; omega
 rw [e7] at h
 have s7:p2 (-7-(p:Int))≤p2 (-7):=p2_le (by omega)
 rw [show p2 (-7)=1 / 128 by decide +kernel] at s7
 have p11:p2 11=2048:=by decide +kernel
 have ee:=h.ends hv
 have e:=h.h.e
 obtain ⟨c,ec,o,en⟩:=outI_ok h.h.ok (p:=p) (by omega) hL (by omega)
 have hh:=has_out h.h (p:=p) (by omega) hL (by omega)
 have ed:doneS p r=(c,0):=by unfold doneS; rw [e,st_zero,ec]
 rw [ec] at hh
 have b1:B 11 (val r.1.lo):=⟨by rw [p11]; grind,by rw [p11]; grind⟩
 have b2:B 11 (val r.1.hi):=⟨by rw [p11]; grind,by rw [p11]; grind⟩
 have bb:=enc_bounds en b1 b2 o.le
 have wd:=enc_width en b1 b2
 have hw:=h.w
 have q:=p2_le (show -7-(p:Int)≤11-(p:Int) by omega)
 have q13:p2 (13-(p:Int))=4*p2 (11-(p:Int)):=by rw [show 13-(p:Int)=2+(11-(p:Int)) by omega,p2_add]; rfl
 have:=p2_pos (11-(p:Int))
 rw [ed]
 exact ⟨⟨rfl,⟨⟨o.lo.w,o.lo.g,bb.1⟩,⟨o.hi.w,o.hi.g,bb.2⟩,o.le⟩,hh.m⟩,by show val c.hi-val c.lo≤_; grind⟩
theorem lnR_wG {d:D} (hd:WD d) (h0:0<d.m) (hb:blen d.m.natAbs≤170) (hk : -2600≤lnK d∧lnK d≤2600) {p:Nat} (hp:2≤p∧p≤168):HasW (lnR d p) (Ln (ofQ (val d))) (-46000) 11 (p2 (13-(p:Int))):=by
 have hLn:=ln_bound h0 hk
 have hw:30≤p+32∧p+32≤200:=by omega
 obtain ⟨v1,v2,v3⟩:=lnK_val h0
 have od:Okd d d.e (d.e+(blen d.m.natAbs:Nat)):=⟨hd,⟨d.m,rfl⟩,val_size d⟩
 have hn:(blen d.m.natAbs:Int)≤170:=by omega
 have hK:lnK d=d.e+(blen d.m.natAbs:Nat)-1:=rfl
 have hp2:(2:Nat) ^ 14=16384:=by decide
 obtain ⟨c,e,o,e1,e2⟩:=scaleI_ok (a:=⟨d,d⟩) (n:=-lnK d) ⟨od,od,Rat.le_refl⟩ (by omega) (by omega)
 have e1:val c.lo=val d*p2 (-lnK d):=e1
 have e2:val c.hi=val d*p2 (-lnK d):=e2
 have hc:HasW (c,0) (ofQ (val d*p2 (-lnK d))) (-169) 1 0:=⟨⟨rfl,o.mono (by omega) (by omega),⟨by rw [e1]; exact rle_refl _,by rw [e2]; exact rle_refl _⟩⟩,by show val c.hi-val c.lo≤0; rw [e1,e2]; grind⟩
 have hr:srS ⟨d,d⟩ (-lnK d) 0=(c,0):=by unfold srS; rw [st_zero,scaleRI_in (by omega),e]
 have hf:fitB d (p:Int)=true:=fitB_of (by omega) (by omega)
 have back:∀ k:Int,∀ r:Rat,0<r→r*p2 k=val d→Ln (ofQ r)+(k:R)*Ln 2=Ln (ofQ (val d)):=by
  intro k r hr0 he
  rw [← he,ofQ_mul,Ln_mul (ofQ_lt.2 hr0) (p2_R_pos k),Ln_p2]
 have v0:val d*p2 (-lnK d)*p2 (lnK d)=val d:=by
  have:=p2_back (-lnK d) (val d)
  rwa [Int.neg_neg] at this
 unfold lnR lnS
 rw [hf,if_pos rfl,Int.toNat_natCast,if_neg (by omega),hr]
 simp only
 generalize hv:val d*p2 (-lnK d)=v at *
 by_cases h3:3 / 2≤v
 ·rw [if_pos ⟨True.intro,by
   have:¬cmpD c.lo ⟨3,-1⟩<0:=by
    rw [cmpD_lt,e1]
    have:val ⟨3,-1⟩=3 / 2:=by show ((3:Int):Rat)*p2 (-1)=3 / 2; decide +kernel
    rw [this]; grind
   omega⟩]
  have hs:=hw_scale (n:=-1) hc (by omega) (by omega)
  rw [show p2 (-1)=1 / 2 by decide +kernel] at hs
  have hs':=(hs.eq (y:=ofQ (v*(1 / 2))) (by rw [ofQ_mul])).mono (L':=-170) (H':=1) (w':=0) (by omega) (by omega) (by grind)
  rw [show (scS c (-1) 0).2=0 from hs.h.e]
  have ht:=lnT_wG hs'.pair (by grind) (by grind) (by omega) (k:=lnK d+1) (by omega) hw
  exact done_wG (p:=p) (by omega) (ht.eq (back (lnK d+1) _ (by grind) (by rw [p2_add,show p2 1=2 from rfl]; grind))) hLn
 ·rw [if_neg (by
   intro hcc
   have:cmpD c.lo ⟨3,-1⟩<0:=by
    rw [cmpD_lt,e1]
    have:val ⟨3,-1⟩=3 / 2:=by show ((3:Int):Rat)*p2 (-1)=3 / 2; decide +kernel
    rw [this]; grind
   omega)]
  have ht:=lnT_wG (hc.mono (L':=-170) (H':=1) (by omega) (by omega) Rat.le_refl) (by grind) (by grind) (by omega) (k:=lnK d) (by omega) hw
  exact done_wG (p:=p) (by omega) (ht.eq (back (lnK d) _ (by grind) v0)) hLn
theorem Ln_one_le {ρ:R} (h:0≤ρ):Ln (1+ρ)≤ρ:=by
 have h0:=rzero_lt_one
 refine E_le_iff.1 ?_
 rw [E_Ln (show 0<1+ρ by grind)]
 exact E_ge ρ
theorem lnOf_aux {A K:I × Int} {a b ρ δ:Rat} {z:R} {L H:Int} (l1:HasW A (Ln (ofQ a)) L H δ) (l2:HasW K (Ln (ofQ b)) L H δ) (ha:0<a) (hb:0<b) (q1:Ln (ofQ a)≤z) (q2:z≤Ln (ofQ b)) (hρ:b≤a*(1+ρ)) (hρ0:0≤ρ):HasW (⟨A.1.lo,K.1.hi⟩,0) z L H (ρ+2*δ):=by
 refine ⟨has_two l1.h l2.h q1 q2,?_⟩
 show val K.1.hi-val A.1.lo≤_
 have v1:(0:R)<ofQ a:=ofQ_lt.2 ha
 have r0:0≤ofQ ρ:=ofQ_le.2 hρ0
 have h0:=rzero_lt_one
 have g1:=Ln_mono (ofQ_lt.2 hb) (ofQ_le.2 hρ)
 rw [ofQ_mul,ofQ_add,ofQ_one,Ln_mul v1 (show (0:R)<1+ofQ ρ by grind)] at g1
 have g2:=Ln_one_le r0
 have w1:=l1.w
 have w2:=l2.w
 have a1:=l1.h.m.hi
 have a2:=l2.h.m.lo
 have k1:=ofQ_le.2 w1
 have k2:=ofQ_le.2 w2
 rw [ofQ_sub] at k1 k2
 refine ofQ_le.1 ?_
 rw [ofQ_sub,ofQ_add,ofQ_mul,show ofQ 2=(2:R) from rfl]
 generalize Ln (ofQ a)=A' at *
 generalize Ln (ofQ b)=C' at *
 generalize Ln (1+ofQ ρ)=F at *
 grind
theorem ofR_eq {f:D→Int→I × Int} {c:I} {p:Int} {A K:I × Int} (hA:f c.lo p=A) (hK:f c.hi p=K) (f1:fitB c.lo p=true) (f2:fitB c.hi p=true) (z1:A.2=0) (z2:K.2=0):ofR f c p=(⟨A.1.lo,K.1.hi⟩,0):=by
 subst hA; subst hK
 exact ofR_ok f1 f2 z1 z2
theorem ex_add {d:D} (hd:Okd d (-27) 6) {i:Nat} (hi:i≤256) {w:Nat} (hw:40≤w):∃ c,aS w ⟨d,d⟩ (intI (i:Int)) 0=(c,0)∧OkI c (-27) 9∧val c.lo=val d+(i:Rat)∧val c.hi=val d+(i:Rat):=by
 have o1:OkI ⟨d,d⟩ (-27) 8:=⟨hd.mono (Int.le_refl _) (by omega),hd.mono (Int.le_refl _) (by omega),Rat.le_refl⟩
 have oi:Okd (fromD (i:Int)) 0 8:=Okd_from (K:=8) (by omega) (by simp; omega)
 have o2:OkI (intI (i:Int)) (-27) 8:=⟨oi.mono (by omega) (by omega),oi.mono (by omega) (by omega),Rat.le_refl⟩
 obtain ⟨c,e,o,en⟩:=addI_ok o1 o2 (p:=w) (by omega) (by omega) (by omega)
 have vi:val (intI (i:Int)).lo=(i:Rat):=by rw [show (intI (i:Int)).lo=fromD (i:Int) from rfl,val_from]; exact Rat.intCast_natCast i
 have vi2:val (intI (i:Int)).hi=(i:Rat):=vi
 rw [vi,vi2] at en
 have en':Enc w c (val d+(i:Rat)) (val d+(i:Rat)):=en
 have hr:rep w (val d+(i:Rat)):=by
  obtain ⟨z,hz⟩:=hd.g
  have hb:=hd.b
  unfold B at hb
  have e1:p2 27*p2 (-27)=1:=by rw [← p2_add]; exact p2_zero
  have e27:p2 27=134217728:=by decide +kernel
  have e6:p2 6=64:=by decide +kernel
  have h27:=p2_pos 27
  have zv:(z:Rat)=val d*p2 27:=by rw [hz]; grind
  have z1:=Rat.mul_le_mul_of_nonneg_right hb.2 (Rat.le_of_lt h27)
  have z2:=Rat.mul_le_mul_of_nonneg_right hb.1 (Rat.le_of_lt h27)
  rw [← zv,e6,e27] at z1 z2
  have z3:z≤8589934592:=by
   have e:((8589934592:Int):Rat)=64*134217728:=by decide +kernel
   exact Rat.intCast_le_intCast.1 (by rw [e]; exact z1)
  have z4 : -8589934592≤z:=by
   have e:((-8589934592:Int):Rat) = -64*134217728:=by decide +kernel
   exact Rat.intCast_le_intCast.1 (by rw [e]; exact z2)
  have h40:2 ^ 40≤2 ^ w:=Nat.pow_le_pow_right (by decide) hw
  have h40':(2:Nat) ^ 40=1099511627776:=by decide
  refine ⟨z+(i:Int)*134217728,-27,?_,by omega⟩
  rw [hz]
  push_cast
  rw [← e27]
  have:(i:Rat)*p2 27*p2 (-27)=(i:Rat)*(p2 27*p2 (-27)):=by grind
  grind
 have l1:=en'.blo _ hr Rat.le_refl
 have l2:=en'.bhi _ hr Rat.le_refl
 have l3:=en'.lo
 have l4:=en'.hi
 exact ⟨c,by unfold aS; rw [st_zero,e],o,by grind,by grind⟩
theorem enc_relL {p:Nat} {c:I} {u v:Rat} (en:Enc p c u v) {s:Int} (h1:p2 s≤u) (h2:u≤p2 (s+2)):u*(1-p2 (2-(p:Int)))≤val c.lo:=by
 have hs:=p2_pos s
 obtain ⟨q,r,q1,q2⟩:=rep_below (p:=p) (s:=s+2) (u:=u) ⟨by have:=p2_pos (s+2); grind,h2⟩
 have b:=en.blo q r q1
 have e:p2 (s+2-(p:Int))=p2 s*p2 (2-(p:Int)):=by rw [show s+2-(p:Int)=s+(2-(p:Int)) by omega,p2_add]
 have:=Rat.mul_le_mul_of_nonneg_right h1 (Rat.le_of_lt (p2_pos (2-(p:Int))))
 grind
theorem enc_relH {p:Nat} {c:I} {u v:Rat} (en:Enc p c u v) {s:Int} (h1:p2 s≤v) (h2:v≤p2 (s+2)):val c.hi≤v*(1+p2 (2-(p:Int))):=by
 have hs:=p2_pos s
 obtain ⟨q,r,q1,q2⟩:=rep_below (p:=p) (s:=s+2) (u:=-v) ⟨by grind,by have:=p2_pos (s+2); grind⟩
 have b:=en.bhi (-q) (rep_neg r) (by grind)
 have e:p2 (s+2-(p:Int))=p2 s*p2 (2-(p:Int)):=by rw [show s+2-(p:Int)=s+(2-(p:Int)) by omega,p2_add]
 have:=Rat.mul_le_mul_of_nonneg_right h1 (Rat.le_of_lt (p2_pos (2-(p:Int))))
 grind
structure Rel (c:I) (α:Rat):Prop where
 pos:0<val c.lo
 le:val c.lo≤val c.hi
 rel:val c.hi≤val c.lo*(1+α)
theorem prod_mag {a b:D} (ha:0<val a) (hb:0<val b):∃ s:Int,p2 s≤val a*val b∧val a*val b≤p2 (s+2):=by
 obtain ⟨a1,a2⟩:=lnK_pow (val_pos_m ha)
 obtain ⟨b1,b2⟩:=lnK_pow (val_pos_m hb)
 have p1:=p2_pos (lnK a)
 have p3:=p2_pos (lnK b)
 refine ⟨lnK a+lnK b,?_,?_⟩
 ·rw [p2_add]
  have m1:=Rat.mul_le_mul_of_nonneg_right a1 (Rat.le_of_lt p3)
  have m2:=Rat.mul_le_mul_of_nonneg_left b1 (Rat.le_of_lt ha)
  grind
 ·rw [show lnK a+lnK b+2=(lnK a+1)+(lnK b+1) by omega,p2_add]
  have m1:=Rat.mul_le_mul_of_nonneg_right (Rat.le_of_lt a2) (Rat.le_of_lt (p2_pos (lnK b+1)))
  have m2:=Rat.mul_le_mul_of_nonneg_left (Rat.le_of_lt b2) (Rat.le_of_lt ha)
  grind
theorem rel_alg2 {L M α β ε:Rat} (hL:0≤L) (h:L*(1-ε)≤M) (hα:0≤α) (hβ:0≤β) (hα2:α≤1 / 4) (hβ2:β≤1 / 4) (hε:0≤ε) (hε2:ε≤1 / 64):L*((1+α)*(1+β))*(1+ε)≤M*(1+(2*(α+β)+8*ε)):=by
 have a1:=Rat.mul_nonneg hα hβ
 have a2:α*β≤α*(1 / 4):=Rat.mul_le_mul_of_nonneg_left hβ2 hα
 have key:(1+α)*(1+β)*(1+ε)≤(1-ε)*(1+(2*(α+β)+8*ε)):=by
  have b1:ε*(α+β)≤(1 / 64)*(α+β):=Rat.mul_le_mul_of_nonneg_right hε2 (by grind)
  have b2:ε*ε≤(1 / 64)*ε:=Rat.mul_le_mul_of_nonneg_right hε2 hε
  have b3:ε*(α*β)≤(1 / 64)*(α*β):=Rat.mul_le_mul_of_nonneg_right hε2 a1
  grind
 have k1:=Rat.mul_le_mul_of_nonneg_left key hL
 have k2:=Rat.mul_le_mul_of_nonneg_right h (show 0≤1+(2*(α+β)+8*ε) by grind)
 grind
theorem mS_rel {a b:I} {x y:R} {L H M K:Int} {α β:Rat} (ha:Has (a,0) x L H) (hb:Has (b,0) y M K) (ra:Rel a α) (rb:Rel b β) (hα:0≤α) (hβ:0≤β) (hα2:α≤1 / 4) (hβ2:β≤1 / 4) {p:Nat} (hp:10≤p) (hL : -60000≤L+M) (hH:H+K≤60000) :
  ∃ c,mS p a b 0=(c,0)∧Has (c,0) (x*y) (L+M) (H+K)∧Rel c (2*(α+β)+8*p2 (2-(p:Int)))∧Enc p c (val a.lo*val b.lo) (val a.hi*val b.hi):=by
 obtain ⟨c,u,v,e,o,en,pr⟩:=mulI_ok ha.ok hb.ok (p:=p) (by omega) hL hH
 have hm:=has_mul ha hb (p:=p) (by omega) hL hH
 have e':mS p a b 0=(c,0):=by unfold mS; rw [st_zero]; exact e
 have e'':mS p (a,(0:Int)).1 (b,(0:Int)).1 0=(c,0):=e'
 rw [e''] at hm
 have a0:=ra.pos; have a1:=ra.le; have b0:=rb.pos; have b1:=rb.le
 have ah:0<val a.hi:=by grind
 have bh:0<val b.hi:=by grind
 have m1:=Rat.mul_le_mul_of_nonneg_left b1 (Rat.le_of_lt a0)
 have m2:=Rat.mul_le_mul_of_nonneg_right a1 (Rat.le_of_lt b0)
 have m3:=Rat.mul_le_mul_of_nonneg_right a1 (Rat.le_of_lt bh)
 have m4:=Rat.mul_le_mul_of_nonneg_left b1 (Rat.le_of_lt ah)
 have hu:u=val a.lo*val b.lo:=by
  have:=pr.h1.1
  rcases pr.mu with q | q | q | q<;>simp only at q this<;>grind
 have hv:v=val a.hi*val b.hi:=by
  have:=pr.h4.2
  rcases pr.mv with q | q | q | q<;>simp only at q this<;>grind
 rw [hu,hv] at en
 obtain ⟨s,s1,s2⟩:=prod_mag a0 b0
 obtain ⟨t,t1,t2⟩:=prod_mag ah bh
 have r1:=enc_relL en s1 s2
 have r2:=enc_relH en t1 t2
 have pe:=p2_pos (2-(p:Int))
 have pe2:p2 (2-(p:Int))≤1 / 64:=by
  have:=p2_le (show 2-(p:Int) ≤ -6 by omega)
  rwa [show p2 (-6)=1 / 64 by decide +kernel] at this
 have lp:=Rat.mul_pos a0 b0
 refine ⟨c,e',hm,⟨?_,o.le,?_⟩,en⟩
 ·have:=Rat.mul_pos lp (show 0<1-p2 (2-(p:Int)) by grind); grind
 ·have k:=rel_alg2 (Rat.le_of_lt lp) r1 hα hβ hα2 hβ2 (Rat.le_of_lt pe) pe2
  have n1:=Rat.mul_le_mul_of_nonneg_left rb.rel (Rat.le_of_lt ah)
  have n2:=Rat.mul_le_mul_of_nonneg_right ra.rel (show 0≤val b.lo*(1+β) by have:=Rat.mul_nonneg (Rat.le_of_lt b0) (show 0≤1+β by grind); exact this)
  have n3:val a.hi*val b.hi≤val a.lo*val b.lo*((1+α)*(1+β)):=by grind
  have n4:=Rat.mul_le_mul_of_nonneg_right n3 (show 0≤1+p2 (2-(p:Int)) by grind)
  grind
theorem rel_alg1 {L M α ε:Rat} (hL:0≤L) (h:L*(1-ε)≤M) (hα:0≤α) (hα2:α≤1) (hε:0≤ε) (hε2:ε≤1 / 64):L*(1+α)*(1+ε)≤M*(1+(α+8*ε)):=by
 have key:(1+α)*(1+ε)≤(1-ε)*(1+(α+8*ε)):=by
  have b1:ε*α≤ε*1:=Rat.mul_le_mul_of_nonneg_left hα2 hε
  have b2:ε*ε≤(1 / 64)*ε:=Rat.mul_le_mul_of_nonneg_right hε2 hε
  grind
 have k1:=Rat.mul_le_mul_of_nonneg_left key hL
 have k2:=Rat.mul_le_mul_of_nonneg_right h (show 0≤1+(α+8*ε) by grind)
 grind
theorem mS_relx {a b:I} {x y:R} {L H M K:Int} {α q:Rat} (ha:Has (a,0) x L H) (hb:Has (b,0) y M K) (ra:Rel a α) (hq:0<q) (b1:val b.lo=q) (b2:val b.hi=q) (hα:0≤α) (hα2:α≤1) {p:Nat} (hp:10≤p) (hL : -60000≤L+M) (hH:H+K≤60000) :
  ∃ c,mS p a b 0=(c,0)∧Has (c,0) (x*y) (L+M) (H+K)∧Rel c (α+8*p2 (2-(p:Int)))∧Enc p c (val a.lo*q) (val a.hi*q):=by
 obtain ⟨c,u,v,e,o,en,pr⟩:=mulI_ok ha.ok hb.ok (p:=p) (by omega) hL hH
 have hm:=has_mul ha hb (p:=p) (by omega) hL hH
 have e':mS p a b 0=(c,0):=by unfold mS; rw [st_zero]; exact e
 have e'':mS p (a,(0:Int)).1 (b,(0:Int)).1 0=(c,0):=e'
 rw [e''] at hm
 have a0:=ra.pos; have a1:=ra.le
 have ah:0<val a.hi:=by grind
 have m2:=Rat.mul_le_mul_of_nonneg_right a1 (Rat.le_of_lt hq)
 have hu:u=val a.lo*q:=by
  have h1:=pr.h1.1
  rw [b1] at h1
  rcases pr.mu with k | k | k | k<;>simp only [b1,b2] at k h1<;>grind
 have hv:v=val a.hi*q:=by
  have h1:=pr.h4.2
  rw [b2] at h1
  rcases pr.mv with k | k | k | k<;>simp only [b1,b2] at k h1<;>grind
 rw [hu,hv] at en
 have bl:0<val b.lo:=by rw [b1]; exact hq
 obtain ⟨s,s1,s2⟩:=prod_mag a0 bl
 obtain ⟨t,t1,t2⟩:=prod_mag ah bl
 rw [b1] at s1 s2 t1 t2
 have r1:=enc_relL en s1 s2
 have r2:=enc_relH en t1 t2
 have pe:=p2_pos (2-(p:Int))
 have pe2:p2 (2-(p:Int))≤1 / 64:=by
  have:=p2_le (show 2-(p:Int) ≤ -6 by omega)
  rwa [show p2 (-6)=1 / 64 by decide +kernel] at this
 have lp:=Rat.mul_pos a0 hq
 refine ⟨c,e',hm,⟨?_,o.le,?_⟩,en⟩
 ·have:=Rat.mul_pos lp (show 0<1-p2 (2-(p:Int)) by grind); grind
 ·have k:=rel_alg1 (Rat.le_of_lt lp) r1 hα hα2 (Rat.le_of_lt pe) pe2
  have n2:=Rat.mul_le_mul_of_nonneg_right ra.rel (Rat.le_of_lt hq)
  have n3:val a.hi*q≤val a.lo*q*(1+α):=by grind
  have n4:=Rat.mul_le_mul_of_nonneg_right n3 (show 0≤1+p2 (2-(p:Int)) by grind)
  grind
structure PI (w:Nat) (x:Rat) (i:Nat) (b:I):Prop where
 has:Has (b,0) (ofQ (prq x i)) (-27-w) (9*(i:Int))
 rl:rep w (val b.lo)
 rh:rep w (val b.hi)
 lo:p2 (-27)≤val b.lo
 one:i=0→1≤val b.lo
 rel:Rel b ((i:Rat)*(8*p2 (2-(w:Int))))
theorem gP_has {d:D} (hd:Okd d (-27) 6) (h0:p2 (-27)≤val d) {w:Nat} (hw:60≤w∧w≤160) {n:Nat} (hn:n≤256):∀ (k i:Nat) (b:I),i+k=n→PI w (val d) i b→∃ b',gP w d k i b 0=(b',0)∧PI w (val d) n b':=by
 have p27:=p2_pos (-27)
 have pe:=p2_pos (2-(w:Int))
 have pe2:p2 (2-(w:Int))≤1 / 1000000:=by
  have:=p2_le (show 2-(w:Int) ≤ -58 by omega)
  have e:p2 (-58)≤1 / 1000000:=by decide +kernel
  grind
 intro k
 induction k with
 | zero=>
  intro i b hi hb
  have:i=n:=by omega
  subst this
  exact ⟨b,rfl,hb⟩
 | succ k ih=>
  intro i b hi hb
  have hir:(i:Rat)≤256:=by exact_mod_cast natCast_le (show i≤256 by omega)
  have hi0:(0:Rat)≤(i:Rat):=by exact_mod_cast Nat.zero_le i
  obtain ⟨c,ec,oc,c1,c2⟩:=ex_add hd (i:=i) (by omega) (w:=w) (by omega)
  have hc:Has (c,0) (ofQ (val d+(i:Rat))) (-27) 9:=⟨rfl,oc,⟨by rw [c1]; exact rle_refl _,by rw [c2]; exact rle_refl _⟩⟩
  have q0:0<val d+(i:Rat):=by grind
  have a1:(i:Rat)*(8*p2 (2-(w:Int)))≤256*(8*(1 / 1000000)):=by
   have k1:=Rat.mul_le_mul_of_nonneg_right hir (show 0≤8*p2 (2-(w:Int)) by grind)
   grind
  have a0:0≤(i:Rat)*(8*p2 (2-(w:Int))):=Rat.mul_nonneg hi0 (by grind)
  obtain ⟨b',e1,e2,e3,en⟩:=mS_relx hb.has hc hb.rel q0 c1 c2 a0 (by grind) (p:=w) (by omega) (by omega) (by omega)
  have lo':p2 (-27)≤val b'.lo:=by
   refine en.blo _ (rep_p2 w (-27)) ?_
   by_cases hz:i=0
   ·have:=hb.one hz
    have iz:(i:Rat)=0:=by rw [hz]; rfl
    rw [iz] at q0 ⊢
    have:=Rat.mul_le_mul_of_nonneg_right this (show 0≤val d+0 by grind)
    grind
   ·have i1:(1:Rat)≤(i:Rat):=by exact_mod_cast natCast_le (show 1≤i by omega)
    have k1:=Rat.mul_le_mul_of_nonneg_left (show (1:Rat)≤val d+(i:Rat) by grind) (show 0≤val b.lo by have:=hb.lo; grind)
    have:=hb.lo
    grind
  have hp:PI w (val d) (i+1) b':=by
   have g1:=rep_grid en.rlo lo'
   have g2:=rep_grid en.rhi (show p2 (-27)≤val b'.hi by have:=e3.le; grind)
   have ov:=e2.ok
   refine ⟨?_,en.rlo,en.rhi,lo',by omega,?_⟩
   ·have hh:Has (b',0) (ofQ (prq (val d) i)*ofQ (val d+(i:Rat))) (-27-w) (9*((i+1:Nat):Int)):=by
     have m:=e2.mono (L':=-27-w + -27) (H':=9*((i+1:Nat):Int)) (Int.le_refl _) (by omega)
     exact ⟨rfl,⟨⟨m.ok.lo.w,g1,m.ok.lo.b⟩,⟨m.ok.hi.w,g2,m.ok.hi.b⟩,m.ok.le⟩,m.m⟩
    exact hh.eq (by rw [← ofQ_mul]; rfl)
   ·have er:((i+1:Nat):Rat)*(8*p2 (2-(w:Int)))=(i:Rat)*(8*p2 (2-(w:Int)))+8*p2 (2-(w:Int)):=ncast_succ i _
    rw [er]; exact e3
  obtain ⟨b2,f1,f2⟩:=ih (i+1) b' (by omega) hp
  refine ⟨b2,?_,f2⟩
  have ep:pS d 0=(⟨d,d⟩,0):=by unfold pS; rw [st_zero]
  have ei:iS (i:Int) 0=(intI (i:Int),0):=by unfold iS; rw [st_zero]
  rw [gP,ep]
  simp only
  rw [ei]
  simp only
  rw [ec]
  simp only
  rw [e1]
  exact f1
def al (ε:Rat):Nat→Rat
 | 0=>0
 | k+1=>2*(al ε k+8*ε)+8*ε
theorem al_le {ε:Rat} (h:0≤ε) (k:Nat) (hk:k≤10):0≤al ε k∧al ε k≤24552*ε:=by
 have e:al ε k=(((2 ^ k-1:Nat):Nat):Rat)*(24*ε):=by
  induction k with
  | zero=>show (0:Rat)=((0:Nat):Rat)*_; have:((0:Nat):Rat)=0:=rfl; rw [this]; grind
  | succ k ih=>
   have p:=Nat.pow_pos (n:=k) (show 0<2 by decide)
   show 2*(al ε k+8*ε)+8*ε=_
   rw [ih (by omega),show 2 ^ (k+1)-1=2*(2 ^ k-1)+1 by rw [Nat.pow_succ]; omega]
   push_cast
   grind
 have p:2 ^ k≤2 ^ 10:=Nat.pow_le_pow_right (by decide) hk
 have p10:(2:Nat) ^ 10=1024:=by decide
 have h1:(((2 ^ k-1:Nat):Nat):Rat)≤1023:=by exact_mod_cast natCast_le (show 2 ^ k-1≤1023 by omega)
 have h0:(0:Rat)≤(((2 ^ k-1:Nat):Nat):Rat):=by exact_mod_cast Nat.zero_le _
 have m1:=Rat.mul_le_mul_of_nonneg_right h1 (show 0≤24*ε by grind)
 have m2:=Rat.mul_nonneg h0 (show 0≤24*ε by grind)
 rw [e]
 exact ⟨m2,by grind⟩
structure RI (w:Nat) (y:R) (k:Nat) (r:I):Prop where
 has:Has (r,0) (y ^ (2*k+1)) (-27*(2*(k:Int)+1)) (9*(2*(k:Int)+1))
 lo:p2 (8*(2*(k:Int)+1))≤val r.lo
 rel:Rel r (al (p2 (2-(w:Int))) k)
theorem bn_small:∀ k:Nat,k≤9→(bnN (k+1)).natAbs≤2 ^ (8*(2*k+1))∧1≤bnC (k+1)∧bnC (k+1)≤2 ^ 19∧(bnN (k+1)).natAbs≤2 ^ 18:=by decide +kernel
theorem cK_mul (k:Nat) (h:bnC k≠0):cK k*(bnC k:Rat)=(bnN k:Rat):=by
 have e:cK k=(bnN k:Rat) / (bnC k:Rat):=rfl
 rw [e]
 exact mul_of_div (by exact_mod_cast h)
theorem quo_wid {n lo hi γ u v:Rat} (h0:0<lo) (hle:lo≤hi) (hr:hi≤lo*(1+γ)) (hn:n≤lo∧-lo≤n) (hu:u=n / lo∨u=n / hi) (hv:v=n / lo∨v=n / hi) (hγ:0≤γ):v-u≤γ∧(-1≤u∧u≤1)∧(-1≤v∧v≤1):=by
 have e1:=mul_of_div (a:=n) (b:=lo) (by grind)
 have e2:=mul_of_div (a:=n) (b:=hi) (by grind)
 generalize n / lo=a at *
 generalize n / hi=b at *
 have hh:0<hi:=by grind
 have a1:a≤1:=by
  rcases Rat.le_total (a:=a) (b:=1) with k | k
  ·exact k
  ·rcases Classical.em (a=1) with q | q
   ·grind
   ·have:=Rat.mul_pos (show 0<a-1 by grind) h0; grind
 have a2 : -1≤a:=by
  rcases Rat.le_total (a:=-1) (b:=a) with k | k
  ·exact k
  ·rcases Classical.em (a = -1) with q | q
   ·grind
   ·have:=Rat.mul_pos (show 0 < -1-a by grind) h0; grind
 have b1:b≤1:=by
  rcases Rat.le_total (a:=b) (b:=1) with k | k
  ·exact k
  ·rcases Classical.em (b=1) with q | q
   ·grind
   ·have:=Rat.mul_pos (show 0<b-1 by grind) hh; grind
 have b2 : -1≤b:=by
  rcases Rat.le_total (a:=-1) (b:=b) with k | k
  ·exact k
  ·rcases Classical.em (b = -1) with q | q
   ·grind
   ·have:=Rat.mul_pos (show 0 < -1-b by grind) hh; grind
 have key:(a-b)*lo=b*(hi-lo):=by grind
 have d1:hi-lo≤lo*γ:=by grind
 have up:(a-b)*lo≤γ*lo:=by
  rw [key]
  have m1:=Rat.mul_le_mul_of_nonneg_right b1 (show 0≤hi-lo by grind)
  grind
 have dn : -(γ*lo)≤(a-b)*lo:=by
  rw [key]
  have m1:=Rat.mul_le_mul_of_nonneg_right b2 (show 0≤hi-lo by grind)
  grind
 have g1:a-b≤γ:=by
  rcases Rat.le_total (a:=a-b) (b:=γ) with k | k
  ·exact k
  ·rcases Classical.em (a-b=γ) with q | q
   ·grind
   ·have:=Rat.mul_pos (show 0<a-b-γ by grind) h0; grind
 have g2:b-a≤γ:=by
  rcases Rat.le_total (a:=b-a) (b:=γ) with k | k
  ·exact k
  ·rcases Classical.em (b-a=γ) with q | q
   ·grind
   ·have:=Rat.mul_pos (show 0<b-a-γ by grind) h0; grind
 rcases hu with q | q<;>rcases hv with t | t<;>rw [q,t]<;>exact ⟨by grind,⟨by assumption,by assumption⟩,⟨by assumption,by assumption⟩⟩
theorem int_rel {c:Nat} (hc:1≤c):Rel (intI (c:Int)) 0∧val (intI (c:Int)).lo=(c:Rat)∧val (intI (c:Int)).hi=(c:Rat):=by
 have v:val (intI (c:Int)).lo=(c:Rat):=by rw [show (intI (c:Int)).lo=fromD (c:Int) from rfl,val_from]; exact Rat.intCast_natCast c
 have v2:val (intI (c:Int)).hi=(c:Rat):=v
 have c1:(1:Rat)≤(c:Rat):=by exact_mod_cast natCast_le hc
 exact ⟨⟨by rw [v]; grind,by rw [v,v2]; exact Rat.le_refl,by rw [v,v2]; grind⟩,v,v2⟩
theorem gV_has {w:Nat} (hw:60≤w∧w≤160) {y:R} (hy:0<y) {k:Nat} (hk:k≤9) {r:I} (hr:RI w y k r):∃ c,gV w (k+1) r 0=(c,0)∧HasW (c,0) (ofQ (cK (k+1))*y⁻¹ ^ (2*k+1)) (-600) 0 (200000*p2 (-(w:Int))):=by
 have pe:=p2_pos (2-(w:Int))
 have pe2:p2 (2-(w:Int))≤1 / 1000000:=by
  have:=p2_le (show 2-(w:Int) ≤ -58 by omega)
  have e:p2 (-58)≤1 / 1000000:=by decide +kernel
  grind
 have e2:p2 (2-(w:Int))=4*p2 (-(w:Int)):=by rw [p2_sub]; rfl
 have pw:=p2_pos (-(w:Int))
 obtain ⟨s1,s2,s3,s4⟩:=bn_small k hk
 have al1:=al_le (Rat.le_of_lt pe) k (by omega)
 have hn:Has (iS (bnN (k+1)) 0) ((bnN (k+1):Int):R) 0 (18:Nat):=has_int (K:=18) (by omega) s4
 have hc:Has (intI (bnC (k+1):Int),0) ((bnC (k+1):Nat):R) 0 (19:Nat):=has_nat (K:=19) (by omega) s3
 obtain ⟨rc,vc,vc2⟩:=int_rel s2
 obtain ⟨m1,e1,h1,r1,en⟩:=mS_rel hc hr.has rc hr.rel Rat.le_refl al1.1 (by grind) (by grind) (p:=w) (by omega) (by omega) (by omega)
 have p8:=p2_pos (8*(2*(k:Int)+1))
 have c1:(1:Rat)≤(bnC (k+1):Rat):=by exact_mod_cast natCast_le s2
 have lo1:p2 (8*(2*(k:Int)+1))≤val m1.lo:=by
  refine en.blo _ (rep_p2 w _) ?_
  rw [vc]
  have:=Rat.mul_le_mul_of_nonneg_right c1 (show 0≤val r.lo by have:=hr.lo; grind)
  have:=hr.lo
  grind
 have nz:hasI m1 zD=false:=by
  cases hq:hasI m1 zD with
  | false=>rfl
  | true=>
   have:=((hasI_iff _ _).1 hq).1
   rw [val_z] at this
   grind
 have hz:ofQ (cK (k+1))*y⁻¹ ^ (2*k+1)*(((bnC (k+1):Nat):R)*y ^ (2*k+1))=((bnN (k+1):Int):R):=by
  have a:=pow_mul' y⁻¹ y (2*k+1)
  have b:=mul_inv (x:=y) (by grind)
  have cm:=cK_mul (k+1) (by omega)
  have cm2:ofQ (cK (k+1))*((bnC (k+1):Nat):R)=((bnN (k+1):Int):R):=by
   rw [← ofQ_nat,← ofQ_mul,cm]; rfl
  rw [show y⁻¹*y=1 by grind,one_pow] at a
  rw [← cm2]
  generalize y⁻¹ ^ (2*k+1)=p at *
  generalize y ^ (2*k+1)=q at *
  have:ofQ (cK (k+1))*p*(((bnC (k+1):Nat):R)*q)=ofQ (cK (k+1))*((bnC (k+1):Nat):R)*(p*q):=by grind
  rw [this,← a]; grind
 obtain ⟨c,u,v,ec,oc,encc,q⟩:=divI_enc (p:=w) hn.ok h1.ok nz (by omega) (by omega) (by omega)
 have hd:=has_div hn h1 nz hz (p:=w) (by omega) (by omega) (by omega)
 have ed:dS w (iS (bnN (k+1)) 0).1 m1 0=(c,0):=by unfold dS; rw [st_zero]; exact ec
 have ed2:dS w (iS (bnN (k+1)) 0).1 (m1,(0:Int)).1 0=(c,0):=ed
 rw [ed2] at hd
 have nv:val (iS (bnN (k+1)) 0).1.lo=((bnN (k+1):Int):Rat):=by
  show val (fromD (bnN (k+1)))=_; exact val_from _
 have nv2:val (iS (bnN (k+1)) 0).1.hi=((bnN (k+1):Int):Rat):=nv
 have nb:((bnN (k+1):Int):Rat)≤val m1.lo∧-val m1.lo≤((bnN (k+1):Int):Rat):=by
  have e8:p2 (8*(2*(k:Int)+1))=(((2 ^ (8*(2*k+1)):Nat)):Rat):=by
   rw [← p2_nat]; exact congrArg p2 (by omega)
  have i1:=intCast_le (show bnN (k+1)≤((2 ^ (8*(2*k+1)):Nat):Int) by omega)
  have i2:=intCast_le (show -((2 ^ (8*(2*k+1)):Nat):Int)≤bnN (k+1) by omega)
  rw [Rat.intCast_natCast,← e8] at i1
  rw [Rat.intCast_neg,Rat.intCast_natCast,← e8] at i2
  exact ⟨by grind,by grind⟩
 have γ0:0≤2*(0+al (p2 (2-(w:Int))) k)+8*p2 (2-(w:Int)):=by grind
 have qw:=quo_wid (n:=((bnN (k+1):Int):Rat)) (u:=u) (v:=v) r1.pos r1.le r1.rel nb (by
  have:=q.mu; simp only [nv,nv2] at this; rcases this with t | t | t | t<;>simp [t]) (by
  have:=q.mv; simp only [nv,nv2] at this; rcases this with t | t | t | t<;>simp [t]) γ0
 have bu:B 0 u:=⟨by rw [p2_zero]; grind,by rw [p2_zero]; grind⟩
 have bv:B 0 v:=⟨by rw [p2_zero]; grind,by rw [p2_zero]; grind⟩
 have bb:=enc_bounds encc bu bv oc.le
 have wd:=enc_width encc bu bv
 rw [show (0:Int)-(w:Int) = -(w:Int) by omega] at wd
 refine ⟨c,?_,⟨⟨rfl,⟨⟨oc.lo.w,oc.lo.g.mono (by omega),bb.1⟩,⟨oc.hi.w,oc.hi.g.mono (by omega),bb.2⟩,oc.le⟩,hd.m⟩,?_⟩⟩
 ·have ei:(iS (bnN (k+1)) 0).2=0:=rfl
  have ej:iS (bnC (k+1):Int) 0=(intI (bnC (k+1):Int),0):=by unfold iS; rw [st_zero]
  unfold gV
  rw [ei,ej]
  simp only
  rw [e1]
  exact ed
 ·show val c.hi-val c.lo≤_
  rw [e2] at qw al1
  grind
theorem RI_next {w:Nat} (hw:60≤w∧w≤160) {Y:I} {q:Rat} (hY:HasW (Y,0) (ofQ q) (-27) 9 0) (y1:val Y.lo=q) (y2:val Y.hi=q) (hq:256≤q) {k:Nat} (hk:k≤9) {r:I} (hr:RI w (ofQ q) k r):∃ yy r',mS w Y Y 0=(yy,0)∧mS w r yy 0=(r',0)∧RI w (ofQ q) (k+1) r':=by
 have pe:=p2_pos (2-(w:Int))
 have pe2:p2 (2-(w:Int))≤1 / 1000000:=by
  have:=p2_le (show 2-(w:Int) ≤ -58 by omega)
  have e:p2 (-58)≤1 / 1000000:=by decide +kernel
  grind
 have al1:=al_le (Rat.le_of_lt pe) k (by omega)
 have rY:Rel Y 0:=⟨by grind,by grind,by grind⟩
 obtain ⟨yy,e1,h1,r1,en1⟩:=mS_relx hY.h hY.h rY (by grind) y1 y2 Rat.le_refl (by grind) (p:=w) (by omega) (by omega) (by omega)
 have r1':Rel yy (8*p2 (2-(w:Int))):=by
  have:(0:Rat)+8*p2 (2-(w:Int))=8*p2 (2-(w:Int)):=by grind
  rw [this] at r1; exact r1
 have lo1:p2 16≤val yy.lo:=by
  refine en1.blo _ (rep_p2 w 16) ?_
  rw [y1,show p2 16=256*256 by decide +kernel]
  have:=Rat.mul_le_mul_of_nonneg_right hq (show 0≤q by grind)
  grind
 obtain ⟨r',e2,h2,r2,en2⟩:=mS_rel hr.has h1 hr.rel r1' al1.1 (by grind) (by grind) (by grind) (p:=w) (by omega) (by omega) (by omega)
 refine ⟨yy,r',e1,e2,⟨?_,?_,r2⟩⟩
 ·refine (h2.mono (by omega) (by omega)).eq ?_
  rw [show 2*(k+1)+1=2*k+1+2 by omega,rpow_succ,rpow_succ]
  generalize ofQ q ^ (2*k+1)=z
  grind
 ·refine en2.blo _ (rep_p2 w _) ?_
  rw [show 8*(2*((k+1:Nat):Int)+1)=8*(2*(k:Int)+1)+16 by omega,p2_add]
  have p8:=p2_pos (8*(2*(k:Int)+1))
  have p16:=p2_pos 16
  have m1:=Rat.mul_le_mul_of_nonneg_right hr.lo (Rat.le_of_lt p16)
  have m2:=Rat.mul_le_mul_of_nonneg_left lo1 (show 0≤val r.lo by have:=hr.lo; grind)
  grind
theorem gT_has {w:Nat} (hw:60≤w∧w≤160) {Y:I} {q:Rat} (hY:HasW (Y,0) (ofQ q) (-27) 9 0) (y1:val Y.lo=q) (y2:val Y.hi=q) (hq:256≤q) {S0:R} {m0 W0:Rat} (hm:ab S0≤ofQ m0) (hm2:m0≤2000) (hW0:0≤W0) (hW1:W0≤1) :
  ∀ (k j:Nat) (s r:I),j+k=10→RI w (ofQ q) j r∨k=0→ab (S0+stS (ofQ q) j)≤ofQ (m0+j)→HasW (s,0) (S0+stS (ofQ q) j) (-46100) 11 (W0+(j:Rat)*(204096*p2 (-(w:Int))))→∃ s',gT w Y k (j+1) s r 0=(s',0)∧HasW (s',0) (S0+stS (ofQ q) 10) (-46100) 11 (W0+10*(204096*p2 (-(w:Int))))∧ab (S0+stS (ofQ q) 10)≤ofQ (m0+10):=by
 have pw:=p2_pos (-(w:Int))
 have pw2:p2 (-(w:Int))≤1 / 1000000000000:=by
  have:=p2_le (show -(w:Int) ≤ -60 by omega)
  have e:p2 (-60)≤1 / 1000000000000:=by decide +kernel
  grind
 have p11:p2 11=2048:=by decide +kernel
 have q11:p2 (11-(w:Int))=2048*p2 (-(w:Int)):=by rw [p2_sub,p11]
 intro k
 induction k with
 | zero=>
  intro j s r hj _ hb hs
  have:j=10:=by omega
  subst this
  have e10:((10:Nat):Rat)=10:=rfl
  rw [e10] at hs hb
  exact ⟨s,rfl,hs,hb⟩
 | succ k ih=>
  intro j s r hj hr hb hs
  have hr:RI w (ofQ q) j r:=by rcases hr with h | h; exact h; omega
  have hj9:j≤9:=by omega
  have hjr:(j:Rat)≤9:=by exact_mod_cast natCast_le hj9
  have hj0:(0:Rat)≤(j:Rat):=by exact_mod_cast Nat.zero_le j
  have y0:(0:R)<ofQ q:=ofQ_lt.2 (show (0:Rat)<q by grind)
  obtain ⟨dv,e1,h1⟩:=gV_has hw y0 hj9 hr
  obtain ⟨yy,r',e2,e3,hr'⟩:=RI_next hw hY y1 y2 hq hj9 hr
  have st1:S0+stS (ofQ q) (j+1)=S0+stS (ofQ q) j+ofQ (cK (j+1))*(ofQ q)⁻¹ ^ (2*j+1):=by
   show S0+(stS (ofQ q) j+ofQ (cK (j+1))*(ofQ q)⁻¹ ^ (2*j+1))=_; grind
  have dv1:ab (ofQ (cK (j+1))*(ofQ q)⁻¹ ^ (2*j+1))≤ofQ 1:=by
   have b1:=h1.h.ok.lo.b.1
   have b2:=h1.h.ok.hi.b.2
   rw [p2_zero] at b1 b2
   have c1:=rle_trans (ofQ_le.2 b1) h1.h.m.lo
   have c2:=rle_trans h1.h.m.hi (ofQ_le.2 b2)
   rw [ofQ_neg] at c1
   exact ab_le.2 ⟨c1,c2⟩
  have ej:((j+1:Nat):Rat)=(j:Rat)+1:=by push_cast; rfl
  have hb':ab (S0+stS (ofQ q) (j+1))≤ofQ (m0+((j+1:Nat):Rat)):=by
   rw [st1,ej]
   have t:=ab_add (S0+stS (ofQ q) j) (ofQ (cK (j+1))*(ofQ q)⁻¹ ^ (2*j+1))
   have e:ofQ (m0+((j:Rat)+1))=ofQ (m0+(j:Rat))+ofQ 1:=by rw [← ofQ_add]; congr 1; grind
   rw [e]; grind
  have k9:=Rat.mul_le_mul_of_nonneg_right hjr (show 0≤204096*p2 (-(w:Int)) by grind)
  have h2:=hw_add (p:=w) (K:=11) (m:=m0+((j+1:Nat):Rat)) hs (h1.mono (L':=-46100) (H':=11) (by omega) (by omega) Rat.le_refl) (by rw [← st1]; exact hb') (by rw [p11,ej]; grind) (by omega) (by omega) (by omega)
  rw [q11] at h2
  have h3:=(h2.mono (Int.le_refl _) (Int.le_refl _) (w':=W0+((j+1:Nat):Rat)*(204096*p2 (-(w:Int)))) (by rw [ej]; grind)).eq st1.symm
  obtain ⟨s',f1,f2,f3⟩:=ih (j+1) (aS w s dv 0).1 r' (by omega) (Or.inl hr') hb' h3.pair
  refine ⟨s',?_,f2,f3⟩
  have ea:(aS w s dv 0).2=0:=h3.h.e
  rw [gT,e1]
  simp only
  rw [ea,e2]
  simp only
  rw [e3]
  exact f1
theorem RI_first {w:Nat} (hw:60≤w∧w≤160) {Y:I} {q:Rat} (hY:HasW (Y,0) (ofQ q) (-27) 9 0) (y1:val Y.lo=q) (y2:val Y.hi=q) (hq:256≤q):RI w (ofQ q) 0 Y:=by
 refine ⟨hY.h.mono (by omega) (by omega) |>.eq (by rw [show 2*0+1=0+1 from rfl,rpow_succ,rpow_zero]; grind),?_,⟨by grind,by grind,?_⟩⟩
 ·rw [y1,show p2 (8*(2*((0:Nat):Int)+1))=256 by decide +kernel]; exact hq
 ·show _≤val Y.lo*(1+0); grind
theorem doneS_rep {p:Nat} {r:I × Int} (h:(doneS p r).2=0):rep p (val (doneS p r).1.lo)∧rep p (val (doneS p r).1.hi):=by
 unfold doneS at *
 by_cases e:r.2=0
 ·rw [e,st_zero] at h ⊢
  unfold outI at *
  by_cases h1:(roundD r.1.lo p false).2=0
  ·rw [bindE_ok h1] at h ⊢
   by_cases h2:(roundD r.1.hi p true).2=0
   ·rw [bindE_ok h2] at h ⊢
    have t1:=tell_ok' h1
    have t2:=tell_ok' h2
    refine ⟨?_,?_⟩
    ·show rep p (val (roundD r.1.lo p false).1)
     have:(roundD r.1.lo p false).1=rnd r.1.lo p false:=t1
     rw [this]; exact rnd_rep _ _ _
    ·show rep p (val (roundD r.1.hi p true).1)
     have:(roundD r.1.hi p true).1=rnd r.1.hi p true:=t2
     rw [this]; exact rnd_rep _ _ _
   ·rw [bindE_no h2] at h; exact absurd h h2
  ·rw [bindE_no h1] at h; exact absurd h h1
 ·rw [st_ne e] at h; exact absurd h e
theorem lnR_rep {d:D} (h0:0<d.m) {p:Nat} (h:(lnR d (p:Int)).2=0):rep p (val (lnR d (p:Int)).1.lo)∧rep p (val (lnR d (p:Int)).1.hi):=by
 unfold lnR at *
 split
 ·rename_i hf
  rw [if_pos hf] at h
  rw [Int.toNat_natCast] at h ⊢
  rw [lnS_if d p h0] at h ⊢
  split
  ·rename_i q; rw [if_pos q] at h; exact doneS_rep h
  ·rename_i q; rw [if_neg q] at h; exact doneS_rep h
 ·exact ⟨by rw [show val zI.lo=0 from val_z]; exact rep_nought p,by rw [show val zI.hi=0 from val_z]; exact rep_nought p⟩
theorem lnOf_wR {c:I} {z:R} {l h:Int} {ρ:Rat} (hs:SI c) {p:Nat} (hp:2≤p∧p≤168) (b1:blen c.lo.m.natAbs≤170) (b2:blen c.hi.m.natAbs≤170) (r3:p2 l≤val c.lo) (r6:val c.hi≤p2 h) (hl : -2590≤l) (hh:h≤2590) (q1:ofQ (val c.lo)≤E z) (q2:E z≤ofQ (val c.hi)) (hρ:val c.hi≤val c.lo*(1+ρ)) (hρ0:0≤ρ):∃ r,ofR lnR c (p:Int)=(r,0)∧HasW (r,0) z (-46000) 11 (ρ+2*p2 (13-(p:Int)))∧rep p (val r.lo)∧rep p (val r.hi):=by
 have hlo:=hs.ok.1
 have hhi:=hs.ok.2.1
 have hle:=hs.ok.2.2
 have hp0:=p2_pos l
 have m1:0<c.lo.m:=val_pos_m (by grind)
 have m2:0<c.hi.m:=val_pos_m (by grind)
 have kl:=lnK_range m1 r3 (show val c.lo≤p2 h by grind)
 have kh:=lnK_range m2 (show p2 l≤val c.hi by grind) r6
 have l1:=lnR_wG hlo m1 b1 (by omega) (p:=p) (by omega)
 have l2:=lnR_wG hhi m2 b2 (by omega) (p:=p) (by omega)
 have f1:=fitB_of (d:=c.lo) (p:=p) (by omega) (by omega)
 have f2:=fitB_of (d:=c.hi) (p:=p) (by omega) (by omega)
 have g1:=lnR_rep m1 l1.h.e
 have g2:=lnR_rep m2 l2.h.e
 have z1:Ln (ofQ (val c.lo))≤z:=by
  have:=Ln_mono (ofQ_lt.2 (show (0:Rat)<val c.lo by grind)) q1
  rwa [Ln_E] at this
 have z2:z≤Ln (ofQ (val c.hi)):=by
  have:=Ln_mono (E_pos z) q2
  rwa [Ln_E] at this
 generalize hA:lnR c.lo (p:Int)=A at l1 g1
 generalize hK:lnR c.hi (p:Int)=K at l2 g2
 exact ⟨_,ofR_eq hA hK f1 f2 l1.h.e l2.h.e,lnOf_aux l1 l2 (by grind) (by grind) z1 z2 hρ hρ0,g1.1,g2.2⟩
theorem okd_blen {d:D} {L H:Int} (h:Okd d L H) {n:Nat} (hn:H+1-L≤n):blen d.m.natAbs≤n:=by
 by_cases h0:d.m=0
 ·rw [h0]; have:blen (Int.natAbs 0)=0:=by decide
  omega
 ·have:=okd_size h h0; omega
theorem Ln_256:Ln (ofQ 257)≤ofQ (63 / 10)∧0≤Ln (ofQ 256):=by
 have l:=ln2_up
 have m:=Ln_mono (show (0:R)<ofQ 257 from ofQ_lt.2 (by decide)) (ofQ_le.2 (show (257:Rat)≤p2 (9:Int) by decide +kernel))
 rw [Ln_p2] at m
 have k:=rmul_le' l.2 (show (0:R)≤((9:Int):R) from ofQ_le.2 (by decide))
 have e:((9:Int):R)*ofQ (7 / 10)=ofQ (63 / 10):=by rw [show ((9:Int):R)=ofQ 9 from rfl,← ofQ_mul]; congr 1; decide +kernel
 rw [e] at k
 have m0:=Ln_mono rzero_lt_one (show (1:R)≤ofQ 256 from ofQ_le.2 (by decide))
 rw [Ln_one] at m0
 exact ⟨rle_trans m k,m0⟩
theorem KP_small:ab KP≤ofQ 3:=by
 have h:=pi_near
 have l:=ln2_up
 have hf2:=hf_two
 have hfp:=hf_pos
 have e1:(hp+hp)*2≤ofQ (p2 (3:Int)):=by
  have:=rmul_le h.2 (show (0:R)≤2 by have:=rzero_lt_one; grind)
  refine rle_trans this ?_
  rw [show (2:R)=ofQ 2 from rfl,← ofQ_mul]; exact ofQ_le.2 (by decide +kernel)
 have m:=Ln_mono pi_pos e1
 rw [Ln_p2] at m
 have e0:(1:R)≤(hp+hp)*2:=by
  have:=rmul_le h.1 (show (0:R)≤2 by have:=rzero_lt_one; grind)
  refine rle_trans ?_ this
  rw [show (2:R)=ofQ 2 from rfl,← ofQ_mul,← ofQ_one]; exact ofQ_le.2 (by decide +kernel)
 have m0:=Ln_mono rzero_lt_one e0
 rw [Ln_one] at m0
 have k:=rmul_le' l.2 (show (0:R)≤((3:Int):R) from ofQ_le.2 (by decide))
 have e:((3:Int):R)*ofQ (7 / 10)=ofQ (21 / 10):=by rw [show ((3:Int):R)=ofQ 3 from rfl,← ofQ_mul]; congr 1; decide +kernel
 rw [e] at k
 have k2:=ofQ_le.2 (show (21 / 10:Rat)≤3 by decide +kernel)
 have q1:=rmul_le (rle_trans m (rle_trans k k2)) (show 0≤hf by grind)
 have q0:=rmul_nonneg m0 (show 0≤hf by grind)
 have q3:ofQ 3*hf≤ofQ 3:=by
  have:=rmul_le' (show hf≤1 by grind) (show 0≤ofQ 3 from ofQ_le.2 (by decide)); grind
 unfold KP
 rw [ab_of q0]
 exact rle_trans q1 q3
theorem ofQ_split {a b c:Rat} (h:a=b+c):ofQ a=ofQ b+ofQ c:=by rw [h,ofQ_add]
theorem pair_eta {α:Type} {x:α × Int} (h:x.2=0):x=(x.1,0):=by cases x; cases h; rfl
theorem eps_le_one:eps≤1:=by decide +kernel
theorem eps_nn:0≤eps:=by decide +kernel
theorem eps_p2:eps=p2 (-160):=by decide +kernel
theorem wide160 {w:Nat} (hw:72≤w∧w≤160) {s:I} {x y:R} {W m:Rat} (h:HasW (s,0) x (-46100) 11 W) (hxy:ab (y-x)≤ofQ eps) (hm:ab x≤ofQ m) (hK:m+W+1≤2048):∃ c,wideI w s ⟨1,-160⟩=(c,0)∧HasW (c,0) y (-46100) 11 (W+2*eps+2*p2 (11-(w:Int)))∧rep w (val c.lo)∧rep w (val c.hi):=by
 have he160:val ⟨1,-160⟩=eps:=by rw [val_half]; decide +kernel
 have he1:=eps_le_one
 have heps0:=eps_nn
 have o160:Okd ⟨1,-160⟩ (-46100) 11:=Okd_half (by omega) (by omega) (by omega)
 have ev:ofQ eps=ofQ (val ⟨1,-160⟩):=by rw [he160]
 have h0:0≤val ⟨1,-160⟩:=by rw [he160]; exact heps0
 generalize hd:(⟨1,-160⟩:D)=d at *
 obtain ⟨c4,e4,o4,en4⟩:=wideI_ok h.h.ok o160 h0 (p:=w) (by omega) (by omega) (by omega)
 have hS4:=hw_wide (p:=w) (K:=11) (m:=m) h o160 (y:=y) (by rw [← ev]; exact hxy) hm (by rw [he160,show p2 11=2048 by decide +kernel]; grind) (by omega) (by omega) (by omega)
 have w4:wS w (s,(0:Int)).1 d 0=(c4,0):=by show st 0 zI (wideI w s d)=_; rw [st_zero]; exact e4
 rw [w4,he160] at hS4
 exact ⟨c4,e4,hS4,en4.rlo,en4.rhi⟩
theorem gS5_has {d:D} (hd:Okd d (-27) 6) (h0:p2 (-27)≤val d) {n:Nat} (hn:1≤n∧n≤256) {w:Nat} (hw:72≤w∧w≤160) {q:Rat} (hq:val d+(n:Rat)=q) (q1:256≤q) (q2:q≤257) {v:R} (hv:ab (v+lsum (ofQ (val d)) n-An.st KP (ofQ q))≤ofQ eps) (hst:ofQ 600≤An.st KP (ofQ q)) (hv8:ab v≤ofQ 128) :
  GOK w n d∧∃ c,gS5 w n d=(c,0)∧HasW (c,0) v (8-w) 8 (p2 (29-(w:Int))):=by
 have pw:=p2_pos (-(w:Int))
 have pw2:p2 (-(w:Int))≤1 / 1000000000000000:=by
  have:=p2_le (show -(w:Int) ≤ -60 by omega)
  have e:p2 (-60)≤1 / 1000000000000000:=by decide +kernel
  grind
 have pk:∀ k:Int,p2 (k-(w:Int))=p2 k*p2 (-(w:Int)):=fun k=>p2_sub k w
 have p11:p2 11=2048:=by decide +kernel
 have p9:p2 9=512:=by decide +kernel
 have L:=Ln_256
 have kp:=KP_small
 obtain ⟨Y,eY,oY,y1,y2⟩:=ex_add hd hn.2 (w:=w) (by omega)
 rw [hq] at y1 y2
 have gy:gY w n d=(Y,0):=eY
 have hY:HasW (Y,0) (ofQ q) (-27) 9 0:=⟨⟨rfl,oY,⟨by rw [y1]; exact rle_refl _,by rw [y2]; exact rle_refl _⟩⟩,by show val Y.hi-val Y.lo≤0; grind⟩
 have sY:SI Y:=⟨oY.ok,okd_blen oY.lo (by omega),okd_blen oY.hi (by omega)⟩
 have hq0:(0:R)<ofQ q:=ofQ_lt.2 (show (0:Rat)<q by grind)
 have P0:PI w (val d) 0 (intI 1):=by
  have i1:=has_int (n:=1) (K:=0) (by omega) (by decide)
  obtain ⟨r,a,b⟩:=int_rel (c:=1) (by omega)
  have a':val (intI 1).lo=1:=a
  refine ⟨(i1.mono (by omega) (by omega)).eq rfl,by rw [a']; exact rep_p2 w 0,by rw [show val (intI 1).hi=1 from b]; exact rep_p2 w 0,?_,fun _=>by rw [a']; exact Rat.le_refl,⟨by rw [a']; decide,Rat.le_refl,?_⟩⟩
  ·rw [a']; decide +kernel
  ·rw [a',show val (intI 1).hi=1 from b]
   have:((0:Nat):Rat)=0:=rfl
   rw [this]; grind
 obtain ⟨b,eb,hB⟩:=gP_has hd h0 (w:=w) (by omega) hn.2 n 0 (intI 1) (by omega) P0
 have gb:gB w n d=(b,0):=by
  unfold gB; rw [gy]; simp only; rw [iS_zero]; exact eb
 have hh:=hw_point (Okd_half (k:=-1) (L:=-27) (H:=9) (by omega) (by omega) (by omega))
 rw [val_half] at hh
 have abU:ab (ofQ q-ofQ (p2 (-1)))≤ofQ 257:=by
  have e:p2 (-1)=1 / 2:=by decide +kernel
  rw [← ofQ_sub,e,ab_of (ofQ_le.2 (show (0:Rat)≤q-1 / 2 by grind))]
  exact ofQ_le.2 (by grind)
 have hU:=hw_sub (p:=w) (m:=257) (K:=9) hY hh abU (by rw [p9]; grind) (by omega) (by omega) (by omega)
 have gu:gU w n d=suS w Y ⟨⟨1,-1⟩,⟨1,-1⟩⟩ 0:=by
  unfold gU; rw [gy,gb]; simp only; rw [pS_zero]
 have hU':HasW (gU w n d) (ofQ q-ofQ (p2 (-1))) (-27) 9 (2*p2 (9-(w:Int))):=by
  rw [gu]; exact hU.mono (Int.le_refl _) (Int.le_refl _) (by grind)
 have eu:=hU'.h.e
 obtain ⟨l1,el1,hl1,-,-⟩:=lnOf_wR (c:=Y) (z:=Ln (ofQ q)) (l:=8) (h:=9) (ρ:=0) sY (p:=w) (by omega) (okd_blen oY.lo (by omega)) (okd_blen oY.hi (by omega)) (by rw [y1,show p2 8=256 by decide +kernel]; exact q1) (by rw [y2,p9]; grind) (by omega) (by omega) (by rw [E_Ln hq0,y1]; exact rle_refl _) (by rw [E_Ln hq0,y2]; exact rle_refl _) (by rw [y1,y2]; grind) Rat.le_refl
 have gl1:gL1 w n d=(l1,0):=by unfold gL1; rw [gy]; exact el1
 have hl1':=hl1.mono (Int.le_refl _) (Int.le_refl _) (w':=16384*p2 (-(w:Int))) (by rw [pk,show p2 13=8192 by decide +kernel]; grind)
 have hM:=hw_mul hU'.pair hl1' (p:=w) (by omega) (by omega) (by omega)
 have gm:gM w n d=mS w (gU w n d).1 l1 0:=by unfold gM; rw [gl1]
 have Lq:0≤Ln (ofQ q)∧Ln (ofQ q)≤ofQ (63 / 10):=by
  have a:=Ln_mono (show (0:R)<ofQ 256 from ofQ_lt.2 (by decide)) (ofQ_le.2 q1)
  have b:=Ln_mono hq0 (ofQ_le.2 q2)
  exact ⟨rle_trans L.2 a,rle_trans b L.1⟩
 have mM0:0≤(ofQ q-ofQ (p2 (-1)))*Ln (ofQ q):=rmul_nonneg (by rw [← ofQ_sub,show p2 (-1)=1 / 2 by decide +kernel]; exact ofQ_le.2 (by grind)) Lq.1
 have mM1:(ofQ q-ofQ (p2 (-1)))*Ln (ofQ q)≤ofQ 1620:=by
  have a:ofQ q-ofQ (p2 (-1))≤ofQ 257:=by have:=le_ab (ofQ q-ofQ (p2 (-1))); exact rle_trans this.1 abU
  have m:=rmul_mono a Lq.2 (by rw [← ofQ_sub,show p2 (-1)=1 / 2 by decide +kernel]; exact ofQ_le.2 (by grind)) (ofQ_le.2 (by decide +kernel))
  rw [← ofQ_mul] at m
  exact rle_trans m (ofQ_le.2 (by decide +kernel))
 have hM1:HasW (gM w n d) ((ofQ q-ofQ (p2 (-1)))*Ln (ofQ q)) (-46100) 11 (16777216*p2 (-(w:Int))):=by
  rw [gm]
  refine ((hM.mono (by omega) (Int.le_refl _) (w':=16777216*p2 (-(w:Int))) ?_)).tight (K:=11) (m:=1620) (by rw [ab_of mM0]; exact mM1) (by rw [p11]; grind)
  rw [pk,pk,p9,p11,show p2 (9+11)=1048576 by decide +kernel]; grind
 have em:=hM1.h.e
 have hN:=hw_neg hY
 have gnn:gN w n d=nS Y 0:=by unfold gN; rw [gy,em]
 obtain ⟨hpi,lo3⟩:=pi_fine (p:=w) (by omega)
 have hQ:=hw_scale (n:=1) hpi (by omega) (by omega)
 have epi:=hpi.h.e
 have gq:gQ w 0=scS (piS w 0).1 1 0:=by unfold gQ; rw [epi]
 obtain ⟨Qc,eQ,oQ,v1,v2⟩:=scaleI_ok (a:=(piS w 0).1) (n:=1) hpi.h.ok (by omega) (by omega)
 have eQ':scS (piS w 0).1 1 0=(Qc,0):=by unfold scS; rw [st_zero]; exact eQ
 rw [eQ'] at hQ
 rw [eQ'] at gq
 have p21:p2 1=2:=rfl
 have wpi:=hpi.w
 rw [p21] at v1 v2
 rw [pk,show p2 13=8192 by decide +kernel] at wpi
 have sQ:SI Qc:=⟨oQ.ok,by have:=okd_blen oQ.lo (n:=w+10) (by omega); omega,by have:=okd_blen oQ.hi (n:=w+10) (by omega); omega⟩
 have loQ:6≤val Qc.lo:=by rw [v1]; grind
 have E2:=E_Ln pi_pos
 have mQ:=hQ.h.m
 have twoR:(An.hp+An.hp)*ofQ (p2 1)=(An.hp+An.hp)*2:=by rw [p21]; rfl
 obtain ⟨l2,el2,hl2,-,-⟩:=lnOf_wR (c:=Qc) (z:=Ln ((An.hp+An.hp)*2)) (l:=2) (h:=4) (ρ:=4096*p2 (-(w:Int))) sQ (p:=w) (by omega) (by have:=okd_blen oQ.lo (n:=w+10) (by omega); omega) (by have:=okd_blen oQ.hi (n:=w+10) (by omega); omega) (by rw [show p2 2=4 by decide +kernel]; grind) (by
   have:=oQ.hi.b.2
   have:=p2_le (show (2:Int)+1≤4 by omega)
   grind) (by omega) (by omega) (by rw [E2,← twoR]; exact mQ.lo) (by rw [E2,← twoR]; exact mQ.hi) (by
   rw [v1,v2] at *
   have:=Rat.mul_le_mul_of_nonneg_right loQ (show 0≤4096*p2 (-(w:Int)) by grind)
   grind) (by grind)
 have gl2:gL2 w=(l2,0):=by unfold gL2; rw [gq]; exact el2
 have hl2':=hl2.mono (Int.le_refl _) (Int.le_refl _) (w':=32768*p2 (-(w:Int))) (by rw [pk,show p2 13=8192 by decide +kernel]; grind)
 have hC:=hw_scale (n:=-1) hl2' (by omega) (by omega)
 have gc:gC w=scS l2 (-1) 0:=by unfold gC; rw [gl2]
 have hC1:HasW (gC w) KP (-46100) 10 (16384*p2 (-(w:Int))):=by
  rw [gc]
  refine ((hC.mono (by omega) (by omega) (w':=16384*p2 (-(w:Int))) (by rw [show p2 (-1)=1 / 2 by decide +kernel]; grind)).eq ?_)
  unfold KP
  rw [p2_half]; rfl
 have ec:=hC1.h.e
 have aS1:ab ((ofQ q-ofQ (p2 (-1)))*Ln (ofQ q) + -ofQ q)≤ofQ 1880:=by
  have a:=ofQ_le.2 q2
  have b:=ofQ_le.2 q1
  have e1:ofQ 1880=ofQ 1620+ofQ 260:=ofQ_split (by decide +kernel)
  have e2:=ofQ_le.2 (show (257:Rat)≤260 by decide)
  have e3:=ofQ_le.2 (show (0:Rat)≤256 by decide)
  have e4:=ofQ_le.2 (show (0:Rat)≤1620 by decide)
  rw [ofQ_zero] at e3 e4
  rw [e1]
  exact ab_le.2 ⟨by grind,by grind⟩
 have hS1:=hw_add (p:=w) (K:=11) (m:=1880) (hM1.pair.mono (Int.le_refl _) (Int.le_refl _) Rat.le_refl) (hN.mono (L':=-46100) (H':=11) (by omega) (by omega) Rat.le_refl) aS1 (by rw [p11]; grind) (by omega) (by omega) (by omega)
 have gs1:gS1 w n d=aS w (gM w n d).1 (nS Y 0).1 0:=by unfold gS1; rw [gnn,ec]
 have hS1':HasW (gS1 w n d) ((ofQ q-ofQ (p2 (-1)))*Ln (ofQ q) + -ofQ q) (-46100) 11 (16785408*p2 (-(w:Int))):=by
  rw [gs1]
  refine hS1.mono (Int.le_refl _) (Int.le_refl _) ?_
  rw [pk,p11]; grind
 have es1:=hS1'.h.e
 have aS2:ab ((ofQ q-ofQ (p2 (-1)))*Ln (ofQ q) + -ofQ q+KP)≤ofQ 1883:=by
  have e1:ofQ 1883=ofQ 1880+ofQ 3:=ofQ_split (by decide +kernel)
  have t:=ab_add ((ofQ q-ofQ (p2 (-1)))*Ln (ofQ q) + -ofQ q) KP
  rw [e1]; grind
 have hS2:=hw_add (p:=w) (K:=11) (m:=1883) hS1'.pair (hC1.pair.mono (L':=-46100) (H':=11) (by omega) (by omega) Rat.le_refl) aS2 (by rw [p11]; grind) (by omega) (by omega) (by omega)
 have gs2:gS2 w n d=aS w (gS1 w n d).1 (gC w).1 0:=by unfold gS2; rw [es1]
 have hS2':HasW (gS2 w n d) ((ofQ q-ofQ (p2 (-1)))*Ln (ofQ q) + -ofQ q+KP) (-46100) 11 (16810000*p2 (-(w:Int))):=by
  rw [gs2]
  refine hS2.mono (Int.le_refl _) (Int.le_refl _) ?_
  rw [pk,p11]; grind
 have es2:=hS2'.h.e
 have s00:stS (ofQ q) 0=0:=rfl
 have z0:((0:Nat):Rat)=0:=rfl
 obtain ⟨s3,e3,hS3,a3⟩:=gT_has (w:=w) (by omega) hY y1 y2 q1 (m0:=1883) (W0:=16810000*p2 (-(w:Int))) aS2 (by decide) (by grind) (by grind) 10 0 (gS2 w n d).1 Y (by omega) (Or.inl (RI_first (by omega) hY y1 y2 q1)) (by
   rw [s00,z0]
   have e:(ofQ q-ofQ (p2 (-1)))*Ln (ofQ q) + -ofQ q+KP+0=(ofQ q-ofQ (p2 (-1)))*Ln (ofQ q) + -ofQ q+KP:=by grind
   rw [e,show (1883:Rat)+0=1883 by decide +kernel]; exact aS2) ((hS2'.pair.mono (Int.le_refl _) (Int.le_refl _) (by rw [z0]; grind)).eq (by rw [s00]; grind))
 have gs3:gS3 w n d=(s3,0):=by unfold gS3; rw [gy,es2]; exact e3
 have stE:(ofQ q-ofQ (p2 (-1)))*Ln (ofQ q) + -ofQ q+KP+stS (ofQ q) 10=An.st KP (ofQ q):=by
  unfold An.st
  rw [show ofQ (p2 (-1))=hf by rw [p2_half]; rfl]
  generalize (ofQ q-hf)*Ln (ofQ q)=z
  grind
 rw [stE] at hS3 a3
 have hS3':=hS3.mono (Int.le_refl _) (Int.le_refl _) (w':=19000000*p2 (-(w:Int))) (by grind)
 have heps:eps≤p2 (-(w:Int)):=by
  have a:=p2_le (show (-160:Int) ≤ -(w:Int) by omega)
  rw [eps_p2]; exact a
 obtain ⟨c4,e4,hS4,r41,r42⟩:=wide160 (m:=1893) hw hS3' (y:=v+lsum (ofQ (val d)) n) hv (by rw [show (1893:Rat)=1883+10 by decide +kernel]; exact a3) (by grind)
 have gs4:gS4 w n d=(c4,0):=by
  unfold gS4; rw [gs3]
  generalize hd160:(⟨1,-160⟩:D)=e at *
  show st 0 zI (wideI w s3 e)=_; rw [st_zero]; exact e4
 have o4:=hS4.h.ok
 have hS4':=hS4.mono (Int.le_refl _) (Int.le_refl _) (w':=20000000*p2 (-(w:Int))) (by rw [pk,p11]; grind)
 have big4:ofQ 599≤v+lsum (ofQ (val d)) n:=by
  have a:=(ab_le.1 hv).1
  have b:ofQ 600=ofQ 599+ofQ 1:=ofQ_split (by decide +kernel)
  have c:=ofQ_le.2 eps_le_one
  rw [b] at hst
  generalize lsum (ofQ (val d)) n=s at *
  grind
 have lo4:p2 8≤val c4.lo:=by
  have a:=hS4'.w
  have b:=hS4'.h.m.hi
  have c:=ofQ_le.1 (rle_trans big4 b)
  have a':val c4.hi-val c4.lo≤20000000*p2 (-(w:Int)):=a
  have c':599≤val c4.hi:=c
  rw [show p2 8=256 by decide +kernel]
  grind
 have le4:val c4.lo≤val c4.hi:=o4.le
 have g41:=rep_grid r41 lo4
 have g42:=rep_grid r42 (show p2 8≤val c4.hi by grind)
 have F4:HasW (c4,0) (v+lsum (ofQ (val d)) n) (8-w) 11 (20000000*p2 (-(w:Int))):=⟨⟨rfl,⟨⟨o4.lo.w,g41,hS4'.h.ok.lo.b⟩,⟨o4.hi.w,g42,hS4'.h.ok.hi.b⟩,o4.le⟩,hS4'.h.m⟩,hS4'.w⟩
 have Ep:E (lsum (ofQ (val d)) n)=ofQ (prq (val d) n):=E_lsum (by have:=p2_pos (-27); grind) n
 have oB:=hB.has.ok
 have mB:=hB.has.m
 have loB:=hB.lo
 have p27:=p2_pos (-27)
 have m1:0<b.lo.m:=val_pos_m (by grind)
 have m2:0<b.hi.m:=val_pos_m (by have:=hB.rel.le; grind)
 have bl1:blen b.lo.m.natAbs≤w+2:=rep_blen oB.lo.w m1 hB.rl
 have bl2:blen b.hi.m.natAbs≤w+2:=rep_blen oB.hi.w m2 hB.rh
 have sB:SI b:=⟨oB.ok,by omega,by omega⟩
 have hir:(n:Rat)≤256:=by exact_mod_cast natCast_le hn.2
 have hin0:(0:Rat)≤(n:Rat):=by exact_mod_cast Nat.zero_le n
 obtain ⟨l3,el3,hl3,r31,r32⟩:=lnOf_wR (c:=b) (z:=lsum (ofQ (val d)) n) (l:=-27) (h:=9*(n:Int)) (ρ:=(n:Rat)*(8*p2 (2-(w:Int)))) sB (p:=w) (by omega) (by omega) (by omega) loB oB.hi.b.2 (by omega) (by omega) (by rw [Ep]; exact mB.lo) (by rw [Ep]; exact mB.hi) hB.rel.rel (Rat.mul_nonneg hin0 (by have:=p2_pos (2-(w:Int)); grind))
 have gl3:gL3 w n d=(l3,0):=by unfold gL3; rw [gb]; exact el3
 have hl3':=hl3.mono (Int.le_refl _) (Int.le_refl _) (w':=40000*p2 (-(w:Int))) (by
  rw [pk,pk,show p2 13=8192 by decide +kernel,show p2 2=4 by decide +kernel]
  have:=Rat.mul_le_mul_of_nonneg_right hir (show 0≤8*(4*p2 (-(w:Int))) by grind)
  grind)
 have big3:ofQ 470≤lsum (ofQ (val d)) n:=by
  have a:=(ab_le.1 hv8).2
  have e:ofQ 599=ofQ 470+ofQ 129:=ofQ_split (by decide +kernel)
  have e2:=ofQ_le.2 (show (128:Rat)≤129 by decide)
  rw [e] at big4
  grind
 have lo3':p2 8≤val l3.lo:=by
  have a':val l3.hi-val l3.lo≤40000*p2 (-(w:Int)):=hl3'.w
  have c':470≤val l3.hi:=ofQ_le.1 (rle_trans big3 hl3'.h.m.hi)
  rw [show p2 8=256 by decide +kernel]
  grind
 have o3:=hl3'.h.ok
 have le3:val l3.lo≤val l3.hi:=o3.le
 have F3:HasW (l3,0) (lsum (ofQ (val d)) n) (8-w) 11 (40000*p2 (-(w:Int))):=⟨⟨rfl,⟨⟨o3.lo.w,rep_grid r31 lo3',o3.lo.b⟩,⟨o3.hi.w,rep_grid r32 (show p2 8≤val l3.hi by grind),o3.hi.b⟩,o3.le⟩,hl3'.h.m⟩,hl3'.w⟩
 have hS5:=hw_sub (p:=w) (m:=128) (K:=8) F4 F3 (by rw [show v+lsum (ofQ (val d)) n-lsum (ofQ (val d)) n=v by grind]; exact hv8) (by rw [show p2 8=256 by decide +kernel]; grind) (by omega) (by omega) (by omega)
 have gs5:gS5 w n d=suS w c4 l3 0:=by unfold gS5; rw [gs4,gl3]
 have hS5':HasW (gS5 w n d) v (8-w) 8 (p2 (29-(w:Int))):=by
  rw [gs5]
  refine (hS5.mono (Int.le_refl _) (Int.le_refl _) ?_).eq (by grind)
  rw [pk,pk,show p2 8=256 by decide +kernel,show p2 29=536870912 by decide +kernel]; grind
 have t3:=hl1.h.ok.le
 have t4:=hl2.h.ok.le
 have t5:=hl3.h.ok.le
 have k1:(gL1 w n d).2=0:=by rw [gl1]
 have k2:(gN w n d).2=0:=by rw [gnn]; exact hN.h.e
 have k3:(gQ w 0).2=0:=by rw [gq]
 have k4:(gL2 w).2=0:=by rw [gl2]
 have k5:(gS4 w n d).2=0:=by rw [gs4]
 have k6:(gL3 w n d).2=0:=by rw [gl3]
 rw [show l1=(gL1 w n d).1 by rw [gl1]] at t3
 rw [show l2=(gL2 w).1 by rw [gl2]] at t4
 rw [show l3=(gL3 w n d).1 by rw [gl3]] at t5
 exact ⟨⟨eu,k1,k2,k3,k4,k5,k6,t3,t4,t5⟩,(gS5 w n d).1,pair_eta hS5'.h.e,hS5'.pair⟩
theorem ex_farG {w:Nat} (hw:w≤130) {L:Int} (hL : -180≤L∧L≤0) : -24000≤0-(w+20-L)*((w / 2+4:Nat):Int):=by
 have:(w+20-L)*((w / 2+4:Nat):Int)≤330*((69:Nat):Int):=Int.mul_le_mul (by omega) (by omega) (by omega) (by omega)
 omega
theorem ex_firstG {d:D} {L H:Int} (h:Okd d L H) (hL : -168≤L∧L≤0) (hH:0≤H∧H≤8) {w:Nat} (hw:16≤w∧w≤130):HasW (eS w (srS ⟨d,d⟩ (-(exN d:Int)) 0)) (E (ofQ (val d*p2 (-(exN d:Int))))) (-24000) 2 (p2 (10-(w:Int)))∧p2 (-1)≤val (eS w (srS ⟨d,d⟩ (-(exN d:Int)) 0)).1.lo:=by
 have hn:=exN_le h hH.1
 have h1:=ex_small h (by omega) (by omega)
 have h2:=exp_w (p:=w) (by omega) h1.pair (by omega) (M:=-24000) (ex_farG hw.2 (by omega)) (by omega)
 unfold eS
 rw [h1.h.e,st_zero]
 refine ⟨h2,?_⟩
 have hw2:=h2.w
 have hh:=h2.h.m.hi
 have hb:=(exN_B d).1
 have hg:=E_ge (ofQ (val d*p2 (-(exN d:Int))))
 have hq:ofQ (1+val d*p2 (-(exN d:Int)))≤ofQ (val (expI w (srS ⟨d,d⟩ (-(exN d:Int)) 0).1).1.hi):=by
  rw [ofQ_add]; exact rle_trans hg hh
 have hq:=ofQ_le.1 hq
 have p10:p2 (10-(w:Int))≤p2 (-6):=p2_le (by omega)
 have p10':p2 (-6)=1 / 64:=by decide +kernel
 have p3':p2 (-3)=1 / 8:=by decide +kernel
 have p1':p2 (-1)=1 / 2:=by decide +kernel
 rw [p10'] at p10
 rw [p3'] at hb
 rw [p1']
 generalize val d*p2 (-(exN d:Int))=t at *
 grind
theorem fitB_okd {d:D} {L H:Int} (h:Okd d L H) (hL : -200≤L∧L≤0) (hH:0≤H∧H≤8) {p:Nat} (hp:2≤p∧p≤98):fitB d (p:Int)=true:=by
 refine fitB_of (by omega) ?_
 by_cases h0:d.m=0
 ·rw [h0]; decide
 ·have:=okd_size h h0; omega
theorem expR_hasG {d:D} {L H:Int} (h:Okd d L H) (hL : -168≤L∧L≤0) (hH:0≤H∧H≤8) {p:Nat} (hp:2≤p∧p≤98):Has (expR d p) (E (ofQ (val d))) (-28000) 8192∧p2 (-4096)≤val (expR d p).1.lo:=by
 obtain ⟨f1,f2⟩:=ex_firstG h hL hH (w:=p+32) (by omega)
 have hn:=exN_le h hH.1
 have hk:2 ^ exN d≤2 ^ 12:=Nat.pow_le_pow_right (by decide) (by omega)
 have hk':(2:Nat) ^ 12=4096:=by decide
 obtain ⟨g1,g2⟩:=pow_has (p:=p+32) (by omega) (exN d) 1 2 _ _ _ f1.h f2 (by omega) (by omega) (by omega) (-28000) (by omega) (by omega)
 have e1:ofQ (val d*p2 (-(exN d:Int)))*ofQ (p2 ((exN d:Nat):Int))=ofQ (val d):=by
  rw [← ofQ_mul]; congr 1
  have:=p2_back (-(exN d:Int)) (val d)
  rwa [Int.neg_neg] at this
 have g1:=(g1.eq (congrArg E e1)).mono (Int.le_refl _) (H':=8192) (by omega)
 have hf:fitB d (p:Int)=true:=fitB_okd h (by omega) hH hp
 unfold expR exS
 rw [hf,if_pos rfl,Int.toNat_natCast,if_neg (by
  intro hc
  have:=(okd_size h hc.1).2
  omega)]
 unfold doneS
 rw [g1.e,st_zero]
 have g3:=has_out g1 (p:=p) (by omega) (by omega) (by omega)
 refine ⟨g3,?_⟩
 obtain ⟨c,e,o,en⟩:=outI_ok g1.ok (p:=p) (by omega) (by omega) (by omega)
 rw [e]
 have b1:=en.blo _ (rep_p2 p _) g2
 have b2:=p2_le (show -4096 ≤ -((2 ^ exN d*1:Nat):Int) by omega)
 exact Rat.le_trans b2 b1
structure GS (d:D) (w:Nat) (v:R):Prop where
 ok:GOK w (gn d) d
 c:∃ c,gS5 w (gn d) d=(c,0)∧HasW (c,0) v (8-w) 8 (p2 (29-(w:Int)))
theorem done_zero {p:Nat} {a:I} {L H:Int} {x:R} (h:Has (a,0) x L H) (hp:1≤p) (hL : -60000≤L) (hH:H≤60000):∃ c,doneS p (a,0)=(c,0)∧Has (c,0) x L H∧rep p (val c.lo)∧rep p (val c.hi)∧∀ t:Rat,rep p t→t≤val a.lo→t≤val c.lo:=by
 obtain ⟨c,e,o,en⟩:=outI_ok h.ok hp hL hH
 have g:=has_out h hp hL hH
 have e':doneS p (a,0)=(c,0):=by unfold doneS; rw [st_zero]; exact e
 rw [show outI p a=(c,0) from e] at g
 exact ⟨c,e',g,en.rlo,en.rhi,en.blo⟩
theorem Gamma_hasG {d:D} {p:Nat} (h:GP d (p:Int)) {v:R} (S:GS d (p+96) v):∃ c,gamm_Gamma (dy d) (p:Int)=some (iv c,0)∧Has (c,0) (E v) (-28000) 8192∧p2 (-4096)≤val c.lo∧rep p (val c.lo)∧rep p (val c.hi):=by
 have hp:=h.p
 obtain ⟨c,e,hc⟩:=S.c
 obtain ⟨c',e',g,-⟩:=done_zero (p:=p+64) hc.h (by omega) (by omega) (by omega)
 have eL:gLR d (p+96) (p+64)=(c',0):=by unfold gLR; rw [e]; exact e'
 have olo:=g.ok.lo
 have ohi:=g.ok.hi
 obtain ⟨x1,y1⟩:=expR_hasG olo (by omega) (by omega) (p:=p+32) (by omega)
 obtain ⟨x2,y2⟩:=expR_hasG ohi (by omega) (by omega) (p:=p+32) (by omega)
 have f1:=fitB_okd olo (by omega) (by omega) (p:=p+32) (by omega)
 have f2:=fitB_okd ohi (by omega) (by omega) (p:=p+32) (by omega)
 have eG:gGR d p=(⟨(expR c'.lo ((p+32:Nat):Int)).1.lo,(expR c'.hi ((p+32:Nat):Int)).1.hi⟩,0):=by
  rw [gGR_eq,eL]
  exact ofR_eq rfl rfl f1 f2 x1.e x2.e
 have g2:=has_two x1 x2 (E_mono g.m.lo) (E_mono g.m.hi)
 have kk:=Gamma_eq h S.ok (by rw [e]) (by rw [eL]) (by rw [eG]) (by rw [eG]; exact g2.ok.le)
 rw [eG] at kk
 obtain ⟨r,er,hr,r1,r2,r3⟩:=done_zero (p:=p) g2 (by omega) (by omega) (by omega)
 rw [er] at kk
 exact ⟨r,kk,hr,r3 _ (rep_p2 p (-4096)) y1,r1,r2⟩
theorem qpow_mono {u v:Rat} (h0:0≤u) (h:u≤v) (n:Nat):0≤u ^ n∧u ^ n≤v ^ n:=by
 induction n with
 | zero=>exact ⟨by rw [Rat.pow_zero]; decide,by rw [Rat.pow_zero,Rat.pow_zero]; exact Rat.le_refl⟩
 | succ n ih=>
  rw [Rat.pow_succ,Rat.pow_succ]
  have a:=Rat.mul_le_mul_of_nonneg_left h ih.1
  have b:=Rat.mul_le_mul_of_nonneg_right ih.2 (show 0≤v by grind)
  exact ⟨Rat.mul_nonneg ih.1 h0,by grind⟩
theorem cK_small:∀ k:Nat,k≤9→-1≤cK (k+1)*(1 / 256) ^ (2*k+1)∧cK (k+1)*(1 / 256) ^ (2*k+1)≤1:=by decide +kernel
theorem sQ_small {q:Rat} (hq:256≤q) (k:Nat) (hk:k≤10) : -(k:Rat)≤sQ q k∧sQ q k≤(k:Rat):=by
 have hm:q*q⁻¹=1:=Rat.mul_inv_cancel _ (by grind)
 have hi:0≤q⁻¹∧q⁻¹≤1 / 256:=by
  generalize q⁻¹=u at *
  constructor
  ·rcases Rat.le_total (a:=0) (b:=u) with k | k
   ·exact k
   ·have:=Rat.mul_le_mul_of_nonneg_left k (show 0≤q by grind); grind
  ·rcases Classical.em (u≤1 / 256) with k | k
   ·exact k
   ·have:=Rat.mul_lt_mul_of_pos_left (show 1 / 256<u by grind) (show 0<q by grind); grind
 induction k with
 | zero=>have:((0:Nat):Rat)=0:=rfl; rw [this]; exact ⟨by show -0≤(0:Rat); decide,Rat.le_refl⟩
 | succ k ih=>
  have ih:=ih (by omega)
  have c:=cK_small k (by omega)
  have p:=qpow_mono hi.1 hi.2 (2*k+1)
  have e:((k+1:Nat):Rat)=(k:Rat)+1:=by push_cast; rfl
  rw [sQ,e]
  generalize cK (k+1)=z at *
  generalize q⁻¹ ^ (2*k+1)=s at *
  generalize (1 / 256:Rat) ^ (2*k+1)=t at *
  have : -1≤z*s∧z*s≤1:=by
   rcases Rat.le_total (a:=0) (b:=z) with g | g
   ·have a:=Rat.mul_le_mul_of_nonneg_left p.2 g
    have b:=Rat.mul_nonneg g p.1
    exact ⟨by grind,by grind⟩
   ·have a:=Rat.mul_le_mul_of_nonneg_left p.2 (show 0 ≤ -z by grind)
    have b:=Rat.mul_nonneg (show 0 ≤ -z by grind) p.1
    exact ⟨by grind,by grind⟩
  exact ⟨by grind,by grind⟩
theorem Ln_256_lo:ofQ 5≤Ln (ofQ 256):=by
 have h:=ln2_near.1
 rw [← ln2_eq] at h
 have l:=rle_trans (ofQ_le.2 (show (5 / 8:Rat)≤6931471805599453094172321214581 / 10000000000000000000000000000000 by decide +kernel)) h
 have k:=rmul_le' l (show (0:R)≤((8:Int):R) from ofQ_le.2 (by decide))
 have e:ofQ 256=ofQ (p2 (8:Int)):=by rw [show p2 8=256 by decide +kernel]
 rw [e,Ln_p2]
 refine rle_trans ?_ k
 rw [show ((8:Int):R)=ofQ 8 from rfl,← ofQ_mul]; exact ofQ_le.2 (by decide +kernel)
theorem st_big {q:Rat} (q1:256≤q) (q2:q≤257):ofQ 600≤An.st KP (ofQ q):=by
 have L:=rle_trans Ln_256_lo (Ln_mono (show (0:R)<ofQ 256 from ofQ_lt.2 (by decide)) (ofQ_le.2 q1))
 have s:=(sQ_small q1 10 (by omega)).1
 have s':=ofQ_le.2 s
 rw [← stS_q (by grind)] at s'
 have K:=(ab_le.1 KP_small).1
 have hh:ofQ (p2 (-1))=hf:=by rw [p2_half]; rfl
 have u0:ofQ 255≤ofQ q-hf:=by rw [← hh,← ofQ_sub]; exact ofQ_le.2 (by rw [show p2 (-1)=1 / 2 by decide +kernel]; grind)
 have m:=rmul_mono u0 L (ofQ_le.2 (show (0:Rat)≤255 by decide)) (rle_trans (ofQ_le.2 (show (0:Rat)≤5 by decide)) L)
 rw [← ofQ_mul] at m
 have qq:=ofQ_le.2 q2
 have t:ofQ 600≤ofQ (255*5)-ofQ 257+ofQ (-((10:Nat):Rat)) + -ofQ 3:=by
  rw [← ofQ_neg,← ofQ_sub,← ofQ_add,← ofQ_add]; exact ofQ_le.2 (by decide +kernel)
 unfold An.st
 generalize (ofQ q-hf)*Ln (ofQ q)=z at *
 generalize stS (ofQ q) 10=y at *
 grind
theorem lsum_add (x:R) (m n:Nat):lsum x (m+n)=lsum x m+lsum (x+(m:R)) n:=by
 induction n with
 | zero=>show lsum x m=lsum x m+0; grind
 | succ n ih=>
  show lsum x (m+n)+Ln (x+((m+n:Nat):R))=lsum x m+(lsum (x+(m:R)) n+Ln (x+(m:R)+(n:R)))
  have e:x+((m+n:Nat):R)=x+(m:R)+(n:R):=by push_cast; grind
  rw [ih,e]; grind
theorem E_pow2 (n:Nat):ofQ (p2 (n:Int))≤E (n:R):=by
 have e:(n:R)=(n:R)*1:=by grind
 rw [e,← E_npow]
 have g:=E_ge (1:R)
 have h0:=rzero_lt_one
 have hp:ofQ (p2 (n:Int))≤E 1 ^ n∧0≤ofQ (p2 (n:Int)):=by
  induction n with
  | zero=>rw [rpow_zero,show p2 ((0:Nat):Int)=1 by decide +kernel,ofQ_one]; exact ⟨rle_refl _,by grind⟩
  | succ n ih=>
   have ih:=ih (by grind)
   rw [rpow_succ,show ((n+1:Nat):Int)=(n:Int)+1 by omega,p2_add,ofQ_mul]
   have t:ofQ (p2 1)≤E 1:=by
    rw [show ofQ (p2 1)=(2:R) from rfl]
    have e2:(2:R)=1+1:=by grind
    rw [e2]; exact g
   have t0:(0:R)≤ofQ (p2 1):=ofQ_le.2 (show (0:Rat)≤p2 1 by decide +kernel)
   exact ⟨rmul_mono ih.1 t ih.2 (rle_trans t0 t),rmul_nonneg ih.2 t0⟩
 exact hp.1
theorem cast_of (n:Nat):(n:R)=ofQ (n:Rat):=rfl
theorem E128:ofQ (p2 128)≤E (ofQ 128):=by
 have h:=E_pow2 128
 rw [cast_of] at h
 exact h
theorem small_v {v:R} {b:Rat} (h:E v=ofQ b) (h1:p2 (-128)≤b) (h2:b≤p2 128):ab v≤ofQ 128:=by
 have u:v≤ofQ 128:=E_le_iff.1 (by rw [h]; exact rle_trans (ofQ_le.2 h2) E128)
 have l : -v≤ofQ 128:=by
  refine E_le_iff.1 (rle_trans ?_ E128)
  have n:=E_neg v
  have pb:0<b:=by have:=p2_pos (-128); grind
  have hb:(0:R)<ofQ b:=ofQ_lt.2 pb
  refine cancel hb ?_
  have e:E (-v)*ofQ b=1:=by rw [← h]; grind
  rw [e,← ofQ_mul,← ofQ_one]
  refine ofQ_le.2 ?_
  have m:=Rat.mul_le_mul_of_nonneg_left h1 (Rat.le_of_lt (p2_pos 128))
  rw [← p2_add,show (128:Int) + -128=0 by omega,p2_zero] at m
  exact m
 exact ab_le.2 ⟨by grind,u⟩
theorem gn_of {d:D} {p:Int} (h:GP d p) {k:Nat} (h1:(k:Rat)≤val d) (h2:val d<(k:Rat)+1):gn d=256-k:=by
 obtain ⟨a,b,-,-⟩:=fK_val h
 have c1:(fK d:Rat)<((k+1:Nat):Rat):=by push_cast; grind
 have c2:(k:Rat)<((fK d+1:Nat):Rat):=by push_cast; grind
 have c1:fK d<k+1:=by exact_mod_cast c1
 have c2:k<fK d+1:=by exact_mod_cast c2
 unfold gn
 omega
theorem GP_okd {d:D} (h:Okd d (-27) 6) (h0:p2 (-27)≤val d) {p:Int} (hp:2≤p∧p≤64):GP d p:=by
 have b:=h.b.2
 rw [show p2 6=64 by decide +kernel] at b
 exact ⟨h.w,okd_blen h (by omega),Rat.le_trans (p2_le (by omega)) h0,b,hp⟩
theorem GS_of {d:D} (h:Okd d (-27) 6) (h0:p2 (-27)≤val d) {w:Nat} (hw:72≤w∧w≤160) {v:R} (hv:ab (v+lsum (ofQ (val d)) (gn d)-An.st KP (ofQ (val d+(gn d:Rat))))≤ofQ eps) (hv8:ab v≤ofQ 128):GS d w v:=by
 have g:=GP_okd h h0 (p:=2) (by omega)
 obtain ⟨a,b,c,-⟩:=fK_val g
 have hn:=gn_le g
 have e:(gn d:Rat)=256-(fK d:Rat):=by
  have:gn d+fK d=256:=by unfold gn; omega
  have:((gn d+fK d:Nat):Rat)=((256:Nat):Rat):=by rw [this]
  push_cast at this
  have e:((256:Nat):Rat)=256:=rfl
  grind
 have q1:256≤val d+(gn d:Rat):=by grind
 have q2:val d+(gn d:Rat)≤257:=by grind
 obtain ⟨ok,r⟩:=gS5_has h h0 (n:=gn d) (by omega) hw rfl q1 q2 hv (st_big q1 q2) hv8
 exact ⟨ok,r⟩
theorem from_okd {n:Nat} (hn:1≤n∧n≤64):Okd (fromD (n:Int)) (-27) 6∧val (fromD (n:Int))=(n:Rat)∧p2 (-27)≤val (fromD (n:Int)):=by
 have v:val (fromD (n:Int))=(n:Rat):=by rw [val_from]; exact Rat.intCast_natCast n
 have c1:(1:Rat)≤(n:Rat):=by exact_mod_cast natCast_le hn.1
 refine ⟨(Okd_from (K:=6) (by omega) (by omega)).mono (by omega) (by omega),v,?_⟩
 rw [v]
 have e:p2 (-27)≤1:=by decide +kernel
 grind
theorem ab_comm (x y:R):ab (x-y)=ab (y-x):=by rw [← ab_neg,show -(x-y)=y-x by grind]
theorem prq_29:∀ k:Nat,k≤29→1≤prq 1 k∧prq 1 k≤p2 128:=by decide +kernel
theorem whole_GS {n:Nat} (hn:1≤n∧n≤30) {w:Nat} (hw:72≤w∧w≤160):GS (fromD (n:Int)) w (lsum 1 (n-1))∧E (lsum 1 (n-1))=ofQ (prq 1 (n-1)):=by
 obtain ⟨o,v,l⟩:=from_okd (n:=n) (by omega)
 have g:=gn_of (GP_okd o l (p:=2) (by omega)) (k:=n) (by rw [v]; exact Rat.le_refl) (by rw [v]; grind)
 have eE:=E_lsum (x:=1) (by decide) (n-1)
 have pq:=prq_29 (n-1) (by omega)
 have p1:p2 (-128)≤1:=by decide +kernel
 refine ⟨GS_of o l hw ?_ (small_v eE (by grind) pq.2),eE⟩
 rw [g,v]
 have s:=lsum_add 1 (n-1) (256-n)
 rw [show n-1+(256-n)=255 by omega] at s
 have e1:(1:R)+((n-1:Nat):R)=ofQ (n:Rat):=by
  have h:(n:Rat)=1+((n-1:Nat):Rat):=by
   have:((n-1+1:Nat):Rat)=(n:Rat):=by rw [show n-1+1=n by omega]
   push_cast at this
   grind
  have k:=ofQ_split h
  rw [k,cast_of,ofQ_one]
 rw [e1] at s
 have e2:(n:Rat)+((256-n:Nat):Rat)=256:=by
  have:((n+(256-n):Nat):Rat)=((256:Nat):Rat):=by rw [show n+(256-n)=256 by omega]
  push_cast at this
  exact this
 rw [← s,e2]
 have k:=whole_near
 have e3:An.st KP (ofQ 256)=An.st KP 256:=rfl
 rw [e3]
 rw [ab_comm]; exact k
theorem hf_q:hf=ofQ (1 / 2):=by
 have h:ofQ (p2 (-1))=hf:=by rw [p2_half]; rfl
 rw [← h,show p2 (-1)=1 / 2 by decide +kernel]
theorem Gamma_zero:gamm_Gamma (dy zD) 30=some (iv zI,3):=by
 have f:gamm_fits (dy zD) 30=some 3:=by
  unfold gamm_fits gamm_fits_j1 gamm_fits_j2
  rw [if_neg (by omega),if_neg (by omega),dyad_Right_dy WD_z.1 WD_z.sz]
  simp only [obn]
  rw [if_neg (by simp),bits_dy WD_z.sz]
  simp only [obn]
  rw [decide_eq_false (by decide),if_neg (by simp),← dy_z]
  refine Eq.trans (congrArg (fun o=>Option.bind o _) (dyad_Cmp_eq WD_z WD_z)) ?_
  simp only [obn]
  rw [if_pos (by decide)]
 unfold gamm_Gamma
 rw [f]
 simp only [obn]
 rw [if_pos (by decide),iv_z]
theorem prq4:prq 1 4=24:=by decide +kernel
theorem place12_eq {x:AD} (hx:gAD x):∃ d,l12_place x=some (dy d)∧Okd d (-27) 5∧p2 (-27)≤val d:=by
 have key:∀ t:Int,0≤t∧t<4294967296→∃ d,l12_place_j1 t=some (dy d)∧Okd d (-27) 5∧p2 (-27)≤val d:=by
  intro t ht
  have hm:∃ m:Nat,mx t 1=(m:Int)∧1≤m∧m<4294967296:=⟨(mx t 1).toNat,by unfold mx; split<;>omega,by unfold mx; split<;>omega,by unfold mx; split<;>omega⟩
  obtain ⟨m,e,m1,m2⟩:=hm
  have hb:blen (sg false (dval [(m:Int)])).natAbs≤32:=by
   rw [sg_abs']
   refine blen_le_of ?_
   show dval [(m:Int)]<_
   unfold dval dval
   omega
  obtain ⟨d,h1,h2,h3⟩:=make_val hb (e:=-27) (by omega)
  refine ⟨d,?_,h2.mono (Int.le_refl _) (by omega),?_⟩
  ·unfold l12_place_j1
   rw [e,rMake_eq (by intro z hz; rw [List.mem_singleton] at hz; omega) (by simp)]
   simp only [obn]
   rw [rMake5_eq (by unfold SZ; omega) (by omega),h1]
   rfl
  ·rw [h3]
   have e1:sg false (dval [(m:Int)])=(m:Int):=by
    unfold dval dval sg
    simp
   rw [e1,Rat.intCast_natCast]
   have c1:(1:Rat)≤(m:Rat):=by exact_mod_cast natCast_le m1
   have:=Rat.mul_le_mul_of_nonneg_right c1 (Rat.le_of_lt (p2_pos (-27)))
   grind
 unfold l12_place
 have hd:=g_dig hx
 by_cases h:(x.M.Mag.length:Int)>0
 ·rw [if_pos h,if_pos (by omega)]
  refine key _ ?_
  exact dig_getD hd 0
 ·rw [if_neg h]
  exact key 0 (by omega)
theorem prec12_eq {a:Int} (h : -9223372036854775808≤a∧a≤9223372036854775807):∃ p:Nat,l12_prec a=some (p:Int)∧8≤p∧p≤50:=by
 unfold l12_prec l12_prec_j1
 have key:∀ n:Nat,∃ p:Nat,(some (IntKind.i64.wrap (8+((n:Int).tmod 43))):Option Int)=some (p:Int)∧8≤p∧p≤50:=by
  intro n
  rw [show (43:Int)=((43:Nat):Int) by rfl,tmodn,w64 (by omega) (by omega)]
  exact ⟨8+n % 43,by congr 1,by omega,by omega⟩
 by_cases h0:a<0
 ·rw [if_pos h0,wrap_low a (by omega)]
  exact key _
 ·rw [if_neg h0]
  have:=key a.toNat
  rwa [Int.toNat_of_nonneg (by omega)] at this
theorem examples12:l12_examples=some true:=by
 have o1:=from_okd (n:=1) (by omega)
 have o5:=from_okd (n:=5) (by omega)
 have z1:((1:Nat):Rat)=1:=rfl
 have P1:=GP_okd o1.1 o1.2.2 (p:=20) (by omega)
 have P5:=GP_okd o5.1 o5.2.2 (p:=20) (by omega)
 have l1:=gamm_Lift_ok P1
 rw [gn_of P1 (k:=1) (by rw [o1.2.1]; exact Rat.le_refl) (by rw [o1.2.1]; grind)] at l1
 have W:=whole_GS (n:=5) (by omega) (w:=20+96) (by omega)
 obtain ⟨c,g5,h5,-⟩:=Gamma_hasG (p:=20) P5 W.1
 have z:=Gamma_zero
 rw [dy_z] at z
 have hh:r06_Has (iv c) (dy (fromD 24))=some true:=by
  rw [rHas6_eq h5.ok.ok (WD_from (by omega))]
  congr 1
  refine (hasI_iff _ _).2 ?_
  have e:E (lsum 1 (5-1))=ofQ (val (fromD 24)):=by
   rw [W.2,val_from]
   show ofQ (prq 1 4)=_
   rw [prq4]; rfl
  have m:=h5.m
  rw [e] at m
  exact ⟨ofQ_le.1 m.lo,ofQ_le.1 m.hi⟩
 unfold l12_examples l12_examples_j1
 rw [rFrom5_eq (by omega)]
 simp only [obn]
 refine Eq.trans (congrArg (fun o=>Option.bind o _) l1) ?_
 simp only [obn]
 refine Eq.trans (congrArg (fun o=>Option.bind o _) z) ?_
 simp only [obn]
 rw [show gamm_Bernoulli 6=some ((-691),2730,true) from rfl]
 simp only [obn]
 rw [rFrom5_eq (by omega)]
 simp only [obn]
 refine Eq.trans (congrArg (fun o=>Option.bind o _) g5) ?_
 simp only [obn]
 rw [if_pos (by decide),if_pos True.intro,if_pos True.intro,if_pos True.intro,if_pos True.intro,if_pos True.intro,if_pos True.intro,rFrom5_eq (by omega)]
 simp only [obn]
 exact congrArg (fun o=>Option.bind o _) hh
theorem cast_nn (n:Nat):(0:R)≤(n:R):=by
 rw [cast_of,← ofQ_zero]
 exact ofQ_le.2 (by exact_mod_cast Nat.zero_le n)
theorem lsum_mono {x y:R} (hx:0<x) (h:x≤y) (n:Nat):lsum x n≤lsum y n:=by
 induction n with
 | zero=>exact rle_refl _
 | succ n ih=>
  have c:=cast_nn n
  have m:=Ln_mono (show 0<x+(n:R) by grind) (show x+(n:R)≤y+(n:R) by grind)
  show lsum x n+Ln (x+(n:R))≤lsum y n+Ln (y+(n:R))
  grind
theorem Ln_nn {x:R} (h:1≤x):0≤Ln x:=by
 have:=Ln_mono rzero_lt_one h
 rwa [Ln_one] at this
theorem lsum_up {x:R} (hx:1≤x) {m n:Nat} (h:m≤n):0≤lsum x m∧lsum x m≤lsum x n:=by
 have step:∀ k:Nat,0≤Ln (x+(k:R)):=fun k=>Ln_nn (by have:=cast_nn k; grind)
 have z:∀ k:Nat,0≤lsum x k:=by
  intro k
  induction k with
  | zero=>exact rle_refl _
  | succ k ih=>show 0≤lsum x k+Ln (x+(k:R)); have:=step k; grind
 refine ⟨z m,?_⟩
 induction n with
 | zero=>
  have:m=0:=by omega
  rw [this]; exact rle_refl _
 | succ n ih=>
  rcases Nat.lt_or_ge n m with g | g
  ·have:m=n+1:=by omega
   rw [this]; exact rle_refl _
  ·have a:=ih g
   have b:=step n
   show lsum x m≤lsum x n+Ln (x+(n:R))
   grind
theorem st_step {q:Rat} (q1:256≤q) (q2:q≤257):ab (An.st KP (ofQ q)-An.st KP (ofQ 256))≤ofQ 29:=by
 have p256:(0:R)<ofQ 256:=by have k:=ofQ_lt.2 (show (0:Rat)<256 by decide); rwa [ofQ_zero] at k
 have hq:=ofQ_le.2 q1
 have hq2:=ofQ_le.2 q2
 have pq:(0:R)<ofQ q:=by grind
 have L0:=Ln_256
 have Lb:=Ln_mono p256 hq
 have Lq:=Ln_mono pq hq2
 have hb:Ln (ofQ q)≤Ln (ofQ 256)+ofQ (1 / 256):=by
  refine E_le_iff.1 ?_
  rw [E_Ln pq,E_add,E_Ln p256]
  have g:=rmul_le' (E_ge (ofQ (1 / 256))) (show 0≤ofQ 256 by grind)
  refine rle_trans ?_ g
  rw [← ofQ_one,← ofQ_add,← ofQ_mul]
  exact ofQ_le.2 (by grind)
 have aU:Ln (ofQ 256)≤ofQ (63 / 10):=rle_trans (rle_trans Lb Lq) L0.1
 have s:=sQ_small q1 10 (by omega)
 have s0:=sQ_small (q:=256) (by decide) 10 (by omega)
 have e1:=ofQ_le.2 s.1
 have e2:=ofQ_le.2 s.2
 have e3:=ofQ_le.2 s0.1
 have e4:=ofQ_le.2 s0.2
 rw [← stS_q (by grind)] at e1 e2
 rw [← stS_q (by decide)] at e3 e4
 have t10:ofQ ((10:Nat):Rat)=ofQ 10:=rfl
 rw [ofQ_neg,t10] at e1 e3
 rw [t10] at e2 e4
 have h12:=hf_q
 have hf0:(0:R)≤hf:=by rw [h12,← ofQ_zero]; exact ofQ_le.2 (by decide +kernel)
 have hf1:hf≤ofQ 1:=by rw [h12]; exact ofQ_le.2 (by decide +kernel)
 have c256:ofQ 257=ofQ 256+ofQ 1:=ofQ_split (by decide +kernel)
 have u0:0≤ofQ 256-hf:=by
  have:=ofQ_le.2 (show (1:Rat)≤256 by decide)
  grind
 have m1:=rmul_mono (show ofQ q-hf≤ofQ 257-hf by grind) hb (show 0≤ofQ q-hf by grind) (by have:=ofQ_le.2 (show (0:Rat)≤1 / 256 by decide +kernel); rw [ofQ_zero] at this; grind)
 have m2:=rmul_mono (show ofQ 256-hf≤ofQ q-hf by grind) Lb u0 (rle_trans L0.2 Lb)
 have m3:(ofQ 257-hf)*ofQ (1 / 256)≤ofQ 257*ofQ (1 / 256):=rmul_le (show ofQ 257-hf≤ofQ 257 by grind) (by rw [← ofQ_zero]; exact ofQ_le.2 (by decide +kernel))
 rw [← ofQ_mul] at m3
 have m4:=ofQ_le.2 (show (257*(1 / 256):Rat)≤2 by decide +kernel)
 have k1:(ofQ 257-hf)*(Ln (ofQ 256)+ofQ (1 / 256))=(ofQ 256-hf)*Ln (ofQ 256)+ofQ 1*Ln (ofQ 256)+(ofQ 257-hf)*ofQ (1 / 256):=by
  rw [c256]
  generalize Ln (ofQ 256)=a
  generalize ofQ (1 / 256)=b
  generalize ofQ 256=c
  grind
 have k2:ofQ 1*Ln (ofQ 256)=Ln (ofQ 256):=by rw [ofQ_one]; grind
 rw [k1,k2] at m1
 have f1:ofQ (63 / 10)+ofQ 2+ofQ 10+ofQ 10≤ofQ 29:=by rw [← ofQ_add,← ofQ_add,← ofQ_add]; exact ofQ_le.2 (by decide +kernel)
 have f2:ofQ 1+ofQ 10+ofQ 10≤ofQ 29:=by rw [← ofQ_add,← ofQ_add]; exact ofQ_le.2 (by decide +kernel)
 unfold An.st
 generalize (ofQ 256-hf)*Ln (ofQ 256)=A at *
 generalize (ofQ q-hf)*Ln (ofQ q)=B at *
 generalize (ofQ 257-hf)*ofQ (1 / 256)=C at *
 generalize stS (ofQ q) 10=S1 at *
 generalize stS (ofQ 256) 10=S2 at *
 exact ab_le.2 ⟨by grind,by grind⟩
theorem frac_arith {g G s1 s2 a1 a2 a3 a4 L:R} (up:G=g+a2) (near:ab (G-s1)≤ofQ eps) (ss:ab (s1-s2)≤ofQ 29) (wn:ab (s2-a1)≤ofQ eps) (l1:a1≤a2) (l2:a2≤a3) (sh:a4=0+a3) (lst:a4=a1+L) (L0:L≤ofQ (63 / 10)) (_:ofQ eps≤ofQ 1) (e6:ofQ eps≤ofQ (1 / 4)) (f1:ofQ (63 / 10)+ofQ 29+ofQ (1 / 2)+ofQ 1≤ofQ 37) (e7:ofQ (1 / 2)=ofQ (1 / 4)+ofQ (1 / 4)) (f0:0≤ofQ (63 / 10)) (f2:0≤ofQ 1):ab g≤ofQ 37:=by
 have w1:=ab_le.1 near
 have w2:=ab_le.1 ss
 have w3:=ab_le.1 wn
 exact ab_le.2 ⟨by grind,by grind⟩
theorem lgam_frac_core {m:Nat} (hm:(m:Rat)=255) (wn:ab (An.st KP 256-lsum 1 m)≤ofQ eps) {x:Rat} (h1:1≤x) (h2:x≤2):ab (lgam KP (ofQ x))≤ofQ 37:=by
 have hq1:(256:Rat)≤x+(m:Rat):=by grind
 have hq2:x+(m:Rat)≤257:=by grind
 have x1:=ofQ_le.2 h1
 rw [ofQ_one] at x1
 have x2:=ofQ_le.2 h2
 have x0:(0:R)<ofQ x:=by have:=rzero_lt_one; grind
 have up:=lgam_up KP x0 m
 rw [cast_of,← ofQ_add] at up
 have near:=lgam_near KP (y:=ofQ (x+(m:Rat))) (ofQ_le.2 hq1)
 have ss:=st_step hq1 hq2
 have e3:An.st KP (256:R)=An.st KP (ofQ 256):=rfl
 rw [e3] at wn
 have l1:=lsum_mono rzero_lt_one x1 m
 have two:ofQ 2=(1:R)+1:=by rw [← ofQ_one]; exact ofQ_split (by decide +kernel)
 have l2:=lsum_mono x0 x2 m
 rw [two] at l2
 have sh:=lsum_shift (1:R) m
 rw [Ln_one] at sh
 have lst:lsum (1:R) (m+1)=lsum 1 m+Ln (ofQ 256):=by
  have e:(1:R)+(m:R)=ofQ 256:=by
   rw [cast_of,← ofQ_one]; exact (ofQ_split (by rw [hm]; decide +kernel)).symm
  show lsum 1 m+Ln (1+(m:R))=_
  rw [e]
 have L0:=Ln_256
 have Lm:=Ln_mono (show (0:R)<ofQ 256 by have k:=ofQ_lt.2 (show (0:Rat)<256 by decide); rwa [ofQ_zero] at k) (ofQ_le.2 (show (256:Rat)≤257 by decide))
 have ee:=ofQ_le.2 eps_le_one
 have f1:ofQ (63 / 10)+ofQ 29+ofQ (1 / 2)+ofQ 1≤ofQ 37:=by rw [← ofQ_add,← ofQ_add,← ofQ_add]; exact ofQ_le.2 (by decide +kernel)
 have e5:eps≤1 / 4:=by unfold eps; decide +kernel
 have e6:=ofQ_le.2 e5
 have e7:ofQ (1 / 2)=ofQ (1 / 4)+ofQ (1 / 4):=ofQ_split (by decide +kernel)
 have f0:=ofQ_le.2 (show (0:Rat)≤63 / 10 by decide +kernel)
 have f2:=ofQ_le.2 (show (0:Rat)≤1 by decide)
 rw [ofQ_zero] at f0 f2
 exact frac_arith up near ss wn l1 l2 sh lst (rle_trans Lm L0.1) ee e6 f1 e7 f0 f2
theorem lgam_frac {x:Rat} (h1:1≤x) (h2:x≤2):ab (lgam KP (ofQ x))≤ofQ 37:=lgam_frac_core (m:=255) rfl whole_near h1 h2
theorem prq_33:0<prq 2 32∧prq 2 32≤p2 123:=by decide +kernel
theorem lsum_33:lsum (ofQ 2) 32≤ofQ 87:=by
 have e:=E_lsum (x:=2) (by decide) 32
 have l:=ln2_up
 have h:=Ln_mono (E_pos (lsum (ofQ 2) 32)) (show E (lsum (ofQ 2) 32)≤ofQ (p2 123) by rw [e]; exact ofQ_le.2 prq_33.2)
 rw [Ln_E,Ln_p2] at h
 have k:=rmul_le' l.2 (show (0:R)≤((123:Int):R) from ofQ_le.2 (by decide))
 refine rle_trans h (rle_trans k ?_)
 rw [show ((123:Int):R)=ofQ 123 from rfl,← ofQ_mul]
 exact ofQ_le.2 (by decide +kernel)
theorem lgam_small {x:Rat} (hx:p2 (-27)≤x) {k:Nat} (k1:(k:Rat)≤x) (k2:x<(k:Rat)+1) (k33:k≤33):ab (lgam KP (ofQ x))≤ofQ 128:=by
 have p27:=p2_pos (-27)
 have x0:(0:R)<ofQ x:=by have h:=ofQ_lt.2 (show (0:Rat)<x by grind); rwa [ofQ_zero] at h
 by_cases h0:k=0
 ·subst h0
  have z:((0:Nat):Rat)=0:=rfl
  rw [z] at k1 k2
  have r:=lgam_rec KP x0
  rw [← ofQ_one,← ofQ_add] at r
  have f:=ab_le.1 (lgam_frac (x:=x+1) (by grind) (by grind))
  have a:=Ln_mono (show (0:R)<ofQ (p2 (-27)) by have h:=ofQ_lt.2 p27; rwa [ofQ_zero] at h) (ofQ_le.2 hx)
  rw [Ln_p2] at a
  have b:=Ln_mono x0 (show ofQ x≤1 by rw [← ofQ_one]; exact ofQ_le.2 (by grind))
  rw [Ln_one] at b
  have l:=rmul_le' ln2_up.2 (show (0:R)≤((27:Int):R) from ofQ_le.2 (by decide))
  have e:((-27:Int):R)*Ln 2 = -(((27:Int):R)*Ln 2):=by
   have:((-27:Int):R) = -((27:Int):R):=by rw [show ((-27:Int):R)=ofQ (-27) from rfl,show ((27:Int):R)=ofQ 27 from rfl,← ofQ_neg]
   rw [this]; grind
  rw [e] at a
  have t:((27:Int):R)*ofQ (7 / 10)+ofQ 37≤ofQ 128:=by
   rw [show ((27:Int):R)=ofQ 27 from rfl,← ofQ_mul,← ofQ_add]; exact ofQ_le.2 (by decide +kernel)
  generalize ((27:Int):R)*Ln 2=y at *
  generalize ((27:Int):R)*ofQ (7 / 10)=y2 at *
  have t2:=ofQ_le.2 (show (37:Rat)≤128 by decide)
  exact ab_le.2 ⟨by grind,by grind⟩
 ·have kq:(k:Rat)=((k-1:Nat):Rat)+1:=by
   have:((k-1+1:Nat):Rat)=(k:Rat):=by rw [show k-1+1=k by omega]
   push_cast at this
   exact this.symm
  have f:=ab_le.1 (lgam_frac (x:=x-((k-1:Nat):Rat)) (by grind) (by grind))
  have y1:(1:R)≤ofQ (x-((k-1:Nat):Rat)):=by rw [← ofQ_one]; exact ofQ_le.2 (by grind)
  have y2:ofQ (x-((k-1:Nat):Rat))≤ofQ 2:=ofQ_le.2 (by grind)
  have y0:(0:R)<ofQ (x-((k-1:Nat):Rat)):=by have:=rzero_lt_one; grind
  have up:=lgam_up KP y0 (k-1)
  rw [cast_of,← ofQ_add,show x-((k-1:Nat):Rat)+((k-1:Nat):Rat)=x by grind] at up
  have l1:=lsum_up y1 (show k-1≤32 by omega)
  have l2:=rle_trans l1.2 (rle_trans (lsum_mono y0 y2 32) lsum_33)
  have t:ofQ 87+ofQ 37≤ofQ 128:=by rw [← ofQ_add]; exact ofQ_le.2 (by decide +kernel)
  have t2:=ofQ_le.2 (show (37:Rat)≤128 by decide)
  rw [up]
  have l3:=l1.1
  exact ab_le.2 ⟨by grind,by grind⟩
theorem lgam_GS {d:D} (h:Okd d (-27) 6) (h0:p2 (-27)≤val d) (h33:val d≤33) {w:Nat} (hw:72≤w∧w≤160):GS d w (lgam KP (ofQ (val d))):=by
 have g:=GP_okd h h0 (p:=2) (by omega)
 obtain ⟨a,b,c,-⟩:=fK_val g
 have p27:=p2_pos (-27)
 have x0:(0:R)<ofQ (val d):=by have h:=ofQ_lt.2 (show (0:Rat)<val d by grind); rwa [ofQ_zero] at h
 have k33:fK d≤33:=by
  have:((fK d:Nat):Rat)≤((33:Nat):Rat):=Rat.le_trans a h33
  exact_mod_cast this
 have up:=lgam_up KP x0 (gn d)
 rw [cast_of,← ofQ_add] at up
 refine GS_of h h0 hw ?_ (lgam_small h0 a b k33)
 rw [← up]
 refine lgam_near KP (ofQ_le.2 ?_)
 have e:(gn d:Rat)=256-(fK d:Rat):=by
  have:gn d+fK d=256:=by unfold gn; omega
  have:((gn d+fK d:Nat):Rat)=((256:Nat):Rat):=by rw [this]
  push_cast at this
  have e:((256:Nat):Rat)=256:=rfl
  grind
 grind
theorem three_pow12 {k:Nat} (h:k≤12):3 ^ k≤1048576:=Nat.le_trans (Nat.pow_le_pow_right (by decide) h) (by decide)
theorem expR_rel {d:D} {L H:Int} (h:Okd d L H) (hL : -168≤L∧L≤0) (hH:0≤H∧H≤8) {p:Nat} (hp:20≤p∧p≤98):val (expR d p).1.hi≤val (expR d p).1.lo*(1+p2 (6-(p:Int))):=by
 obtain ⟨f1,f2⟩:=ex_firstG h hL hH (w:=p+32) (by omega)
 have hn:=exN_le h hH.1
 have hk:2 ^ exN d≤2 ^ 12:=Nat.pow_le_pow_right (by decide) (by omega)
 have hk':(2:Nat) ^ 12=4096:=by decide
 obtain ⟨g1,g2⟩:=pow_has (p:=p+32) (by omega) (exN d) 1 2 _ _ _ f1.h f2 (by omega) (by omega) (by omega) (-28000) (by omega) (by omega)
 have g1:=g1.mono (Int.le_refl _) (H':=8192) (by omega)
 have ew:=f1.w
 have z6:16*p2 (2-((p+32:Nat):Int))=p2 (6-((p+32:Nat):Int)):=by rw [show 6-((p+32:Nat):Int)=4+(2-((p+32:Nat):Int)) by omega,p2_add]; rfl
 have z6':=p2_le (show 6-((p+32:Nat):Int)≤11-((p+32:Nat):Int) by omega)
 have z11:p2 (11-((p+32:Nat):Int))=2*p2 (10-((p+32:Nat):Int)):=by rw [show 11-((p+32:Nat):Int)=1+(10-((p+32:Nat):Int)) by omega,p2_add]; rfl
 have z27:1048576*p2 (11-((p+32:Nat):Int))=p2 (-1-(p:Int)):=by rw [show -1-(p:Int)=20+(11-((p+32:Nat):Int)) by omega,p2_add]; rfl
 have z3:=p2_le (show -1-(p:Int) ≤ -3 by omega)
 rw [show p2 (-3)=1 / 8 by decide +kernel] at z3
 have p11:=p2_pos (11-((p+32:Nat):Int))
 have k3:=Rat.mul_le_mul_of_nonneg_right (natCast_le (three_pow12 (k:=exN d) (by omega))) (Rat.le_of_lt p11)
 have c6:((1048576:Nat):Rat)=1048576:=rfl
 rw [c6,z27] at k3
 have f2':1 / 2≤val (eS (p+32) (srS ⟨d,d⟩ (-(exN d:Int)) 0)).1.lo:=by rw [show p2 (-1)=1 / 2 by decide +kernel] at f2; exact f2
 have first:val (eS (p+32) (srS ⟨d,d⟩ (-(exN d:Int)) 0)).1.hi≤val (eS (p+32) (srS ⟨d,d⟩ (-(exN d:Int)) 0)).1.lo*(1+p2 (11-((p+32:Nat):Int))):=by
  have m:=Rat.mul_le_mul_of_nonneg_right f2' (Rat.le_of_lt p11)
  rw [z11] at m ⊢
  grind
 have hr:=pow_rel (p:=p+32) (by omega) (exN d) 1 2 _ _ _ (p2 (11-((p+32:Nat):Int))) f1.h f2 (by omega) (by omega) (by omega) (by rw [z6]; exact z6') (Rat.le_trans k3 z3) first
 have hf:fitB d (p:Int)=true:=fitB_okd h (by omega) hH (by omega)
 unfold expR exS
 rw [hf,if_pos rfl,Int.toNat_natCast,if_neg (by
  intro hc
  have:=(okd_size h hc.1).2
  omega)]
 unfold doneS
 rw [g1.e,st_zero]
 obtain ⟨c,e,o,en⟩:=outI_ok g1.ok (p:=p) (by omega) (by omega) (by omega)
 rw [e]
 have hlo:0<val (powS (p+32) (exN d) (eS (p+32) (srS ⟨d,d⟩ (-(exN d:Int)) 0))).1.lo:=by
  have:=p2_pos (-((2 ^ exN d*1:Nat):Int))
  grind
 have hle:=g1.ok.le
 generalize powS (p+32) (exN d) (eS (p+32) (srS ⟨d,d⟩ (-(exN d:Int)) 0))=r at *
 have hhi:0<val r.1.hi:=by grind
 obtain ⟨a1,a2⟩:=lnK_pow (val_pos_m hlo)
 obtain ⟨b1,b2⟩:=lnK_pow (val_pos_m hhi)
 have a3:=p2_le (show lnK r.1.lo+1≤lnK r.1.lo+2 by omega)
 have b3:=p2_le (show lnK r.1.hi+1≤lnK r.1.hi+2 by omega)
 have r1:=enc_relL en a1 (by grind)
 have r2:=enc_relH en b1 (by grind)
 have pe:=p2_pos (2-(p:Int))
 have pe2:p2 (2-(p:Int))≤1 / 64:=by
  have:=p2_le (show 2-(p:Int) ≤ -6 by omega)
  rwa [show p2 (-6)=1 / 64 by decide +kernel] at this
 have pa:=p2_pos (-1-(p:Int))
 have k:=rel_alg1 (Rat.le_of_lt hlo) r1 (Rat.le_of_lt pa) (by grind) (Rat.le_of_lt pe) pe2
 have m1:=Rat.mul_le_mul_of_nonneg_left k3 (Rat.le_of_lt hlo)
 have n1:val r.1.hi≤val r.1.lo*(1+p2 (-1-(p:Int))):=by grind
 have n2:=Rat.mul_le_mul_of_nonneg_right n1 (show 0≤1+p2 (2-(p:Int)) by grind)
 have q1:p2 (2-(p:Int))=8*p2 (-1-(p:Int)):=by rw [show 2-(p:Int)=3+(-1-(p:Int)) by omega,p2_add]; rfl
 have q2:p2 (6-(p:Int))=128*p2 (-1-(p:Int)):=by rw [show 6-(p:Int)=7+(-1-(p:Int)) by omega,p2_add]; rfl
 have cl:0≤val c.lo:=by
  have:=Rat.mul_nonneg (Rat.le_of_lt hlo) (show 0≤1-p2 (2-(p:Int)) by grind)
  grind
 have m3:=Rat.mul_nonneg cl (Rat.le_of_lt pa)
 show val c.hi≤val c.lo*(1+p2 (6-(p:Int)))
 rw [q2]
 rw [q1] at k n2 r2
 grind
theorem sub_nn {a b:Rat} (h:a≤b):0≤b-a:=by grind
theorem E_up {x:R} (h0:0≤x) (h1:x≤hf):E x≤1+(x+x):=by
 have n:=E_neg x
 have g:=E_ge (-x)
 have hh:=hf_q
 have two:hf+hf=1:=by rw [hh,← ofQ_one]; exact (ofQ_split (by decide +kernel)).symm
 have h01:=rzero_lt_one
 have pz:0<1-x:=by
  have:(0:R)<hf:=by rw [hh,← ofQ_zero]; exact ofQ_lt.2 (by decide +kernel)
  grind
 refine cancel pz ?_
 have m:=rmul_le' g (show 0≤E x from by have:=E_pos x; grind)
 have k:=rmul_nonneg h0 (show 0≤1-(x+x) by grind)
 have e:(1+(x+x))*(1-x)=1+x*(1-(x+x)):=by grind
 have e1:E x*(1 + -x)=E x*(1-x):=by grind
 rw [e]
 grind
theorem two_rel {a b al bh γ δ:Rat} (h0:0<a) (h1:al≤a*(1+γ)) (h2:bh≤b*(1+γ)) (h3:b≤al*(1+2*δ)) (g0:0≤γ) (g1:γ≤1 / 64) (d0:0≤δ) (d1:δ≤γ):bh≤a*(1+8*γ):=by
 have k1:=Rat.mul_le_mul_of_nonneg_right h1 (show 0≤1+2*δ by grind)
 have k2:=Rat.mul_le_mul_of_nonneg_right (Rat.le_trans h3 k1) (show 0≤1+γ by grind)
 have key:(1+γ)*(1+2*δ)*(1+γ)≤1+8*γ:=by
  have b1:γ*γ≤(1 / 64)*γ:=Rat.mul_le_mul_of_nonneg_right g1 g0
  have b2:γ*δ≤(1 / 64)*δ:=Rat.mul_le_mul_of_nonneg_right g1 d0
  have b3:γ*(γ*δ)≤(1 / 64)*(γ*δ):=Rat.mul_le_mul_of_nonneg_right g1 (Rat.mul_nonneg g0 d0)
  grind
 have k3:=Rat.mul_le_mul_of_nonneg_left key (Rat.le_of_lt h0)
 grind
theorem out_wide {c r:I} {p:Nat} (lo:B 8 (val c.lo)) (hi:B 8 (val c.hi)) (en':Enc (p+64) r (val c.lo) (val c.hi)) (w':val c.hi-val c.lo≤p2 (29-((p+96:Nat):Int))):val r.hi-val r.lo≤p2 (-46-(p:Int)):=by
 obtain ⟨q,rq,q1,q2⟩:=rep_below (p:=p+64) (s:=8) (u:=val c.lo) lo
 have b:=en'.blo q rq q1
 have bb:B 8 (-val c.hi):=⟨by have:=hi.2; grind,by have:=hi.1; grind⟩
 obtain ⟨q',r',q1',q2'⟩:=rep_below (p:=p+64) (s:=8) (u:=-val c.hi) bb
 have b':=en'.bhi (-q') (rep_neg r') (by grind)
 have t1:=p2_le (show 29-((p+96:Nat):Int) ≤ -48-(p:Int) by omega)
 have t2:=p2_le (show 8-((p+64:Nat):Int) ≤ -48-(p:Int) by omega)
 have t3:p2 (-46-(p:Int))=4*p2 (-48-(p:Int)):=by rw [show -46-(p:Int)=2+(-48-(p:Int)) by omega,p2_add,show p2 2=4 by decide +kernel]
 have t4:=p2_pos (-48-(p:Int))
 grind
theorem exp_step {a b x y:Rat} {p:Nat} (h:a≤b) (w:b-a≤p2 (-46-(p:Int))) (m1:E (ofQ a)≤ofQ x) (m2:ofQ y≤E (ofQ b)):y≤x*(1+2*(b-a)):=by
 refine ofQ_le.1 (rle_trans m2 ?_)
 have t:=p2_le (show -46-(p:Int) ≤ -1 by omega)
 rw [show p2 (-1)=1 / 2 by decide +kernel] at t
 have e3:ofQ b=ofQ a+ofQ (b-a):=ofQ_split (by grind)
 have u0:(0:R)≤ofQ (b-a):=by rw [← ofQ_zero]; exact ofQ_le.2 (by grind)
 have u1:ofQ (b-a)≤hf:=by rw [hf_q]; exact ofQ_le.2 (by grind)
 have u:=E_up u0 u1
 rw [e3,E_add,ofQ_mul]
 have e4:ofQ (1+2*(b-a))=1+(ofQ (b-a)+ofQ (b-a)):=by
  rw [← ofQ_one,← ofQ_add,← ofQ_add]; exact congrArg ofQ (by grind)
 rw [e4]
 have p1:=E_pos (ofQ a)
 have p2:=E_pos (ofQ (b-a))
 exact rmul_mono m1 u (by grind) (by grind)
theorem out_narrow {r:I} {a b:Rat} {p:Nat} (en:Enc p r a b) (pa:0<a) (gle:a≤b) (rr:b≤a*(1+8*p2 (6-((p+32:Nat):Int)))) (n:Int) (hn:val r.hi≤p2 n):val r.hi-val r.lo≤p2 (n+2-(p:Int)):=by
 have el:=en.lo
 have eh:=en.hi
 have pg:=p2_pos (6-((p+32:Nat):Int))
 have pn:=p2_pos n
 have b1:B n a:=⟨by grind,by grind⟩
 have b2:B n (-b):=⟨by grind,by grind⟩
 obtain ⟨q,rq,q1,q2⟩:=rep_below (p:=p) b1
 obtain ⟨q',rq',q1',q2'⟩:=rep_below (p:=p) b2
 have c1:=en.blo q rq q1
 have c2:=en.bhi (-q') (rep_neg rq') (show b ≤ -q' by grind)
 have s1:=Rat.mul_le_mul_of_nonneg_right (show a≤p2 n by grind) (show 0≤8*p2 (6-((p+32:Nat):Int)) by grind)
 have s2:p2 n*(8*p2 (6-((p+32:Nat):Int)))=p2 (n-23-(p:Int)):=by
  rw [show (8:Rat)=p2 3 by decide +kernel,← p2_add,← p2_add]; exact congrArg p2 (by omega)
 have s3:=p2_le (show n-23-(p:Int)≤n-(p:Int) by omega)
 have s4:p2 (n+2-(p:Int))=4*p2 (n-(p:Int)):=by rw [show n+2-(p:Int)=2+(n-(p:Int)) by omega,p2_add,show p2 2=4 by decide +kernel]
 have s5:=p2_pos (n-(p:Int))
 rw [s4]
 rw [s2] at s1
 grind
theorem rel_join {Al Ah Kl Kh δ:Rat} {p:Nat} (hp:8≤p) (pa:0<Al) (z1:Ah≤Al*(1+p2 (6-((p+32:Nat):Int)))) (z2:Kh≤Kl*(1+p2 (6-((p+32:Nat):Int)))) (dd:Kl≤Ah*(1+2*δ)) (d0:0≤δ) (w:δ≤p2 (-46-(p:Int))):Kh≤Al*(1+8*p2 (6-((p+32:Nat):Int))):=by
 have pg:=p2_pos (6-((p+32:Nat):Int))
 have pg2:=p2_le (show 6-((p+32:Nat):Int) ≤ -6 by omega)
 rw [show p2 (-6)=1 / 64 by decide +kernel] at pg2
 have pg3:=p2_le (show -46-(p:Int)≤6-((p+32:Nat):Int) by omega)
 exact two_rel pa z1 z2 dd (Rat.le_of_lt pg) pg2 d0 (Rat.le_trans w pg3)
theorem pos_4096 {x:Rat} (h:p2 (-4096)≤x):0<x:=by have:=p2_pos (-4096); grind
theorem done_of {p:Nat} {a c:I} (h:outI p a=(c,0)):doneS p (a,0)=(c,0):=by unfold doneS; rw [st_zero]; exact h
theorem Gamma_fin {A K:I × Int} {a b:Rat} {v:R} {p:Nat} (h8:8≤p) (x1:Has A (E (ofQ a)) (-28000) 8192) (x2:Has K (E (ofQ b)) (-28000) 8192) (y1:p2 (-4096)≤val A.1.lo) (z1:val A.1.hi≤val A.1.lo*(1+p2 (6-((p+32:Nat):Int)))) (z2:val K.1.hi≤val K.1.lo*(1+p2 (6-((p+32:Nat):Int)))) (q1:ofQ a≤v) (q2:v≤ofQ b) (ole:a≤b) (wide:b-a≤p2 (-46-(p:Int))):val ((⟨A.1.lo,K.1.hi⟩,0):I × Int).1.lo≤val ((⟨A.1.lo,K.1.hi⟩,0):I × Int).1.hi∧∃ r,doneS p (((⟨A.1.lo,K.1.hi⟩,0):I × Int).1,0)=(r,0)∧Has (r,0) (E v) (-28000) 8192∧p2 (-4096)≤val r.lo∧rep p (val r.lo)∧rep p (val r.hi)∧∀ n:Int,val r.hi≤p2 n→val r.hi-val r.lo≤p2 (n+2-(p:Int)):=by
 have g2:=has_two x1 x2 (E_mono q1) (E_mono q2)
 have dd:=exp_step ole wide x1.m.hi x2.m.lo
 have rr:=rel_join h8 (pos_4096 y1) z1 z2 dd (sub_nn ole) wide
 obtain ⟨r,er,o,en⟩:=outI_ok g2.ok (p:=p) (by omega) (by omega) (by omega)
 have hr:=has_out g2 (p:=p) (by omega) (by omega) (by omega)
 have gle:val A.1.lo≤val K.1.hi:=g2.ok.le
 have er':outI p ⟨A.1.lo,K.1.hi⟩=(r,0):=er
 have en':Enc p r (val A.1.lo) (val K.1.hi):=en
 rw [show outI p ((⟨A.1.lo,K.1.hi⟩,0):I × Int).1=(r,0) from er] at hr
 exact ⟨gle,r,done_of er',hr,en'.blo _ (rep_p2 p (-4096)) y1,en'.rlo,en'.rhi,fun n hn=>out_narrow en' (pos_4096 y1) gle rr n hn⟩
theorem Gamma_mid {d:D} {p:Nat} (h:GP d (p:Int)) {v:R} (S:GS d (p+96) v):∃ c',gLR d (p+96) (p+64)=(c',0)∧(gS5 (p+96) (gn d) d).2=0∧Has (c',0) v (8-((p+96:Nat):Int)) 8∧val c'.hi-val c'.lo≤p2 (-46-(p:Int)):=by
 have hp:=h.p
 obtain ⟨c,e,hc⟩:=S.c
 obtain ⟨c',e',o',en'⟩:=outI_ok hc.h.ok (p:=p+64) (by omega) (by omega) (by omega)
 have hm:=has_out hc.h (p:=p+64) (by omega) (by omega) (by omega)
 have g:Has (c',0) v (8-((p+96:Nat):Int)) 8:=by
  rw [show outI (p+64) c=(c',0) from e'] at hm; exact hm
 have ed:doneS (p+64) (c,0)=(c',0):=done_of e'
 have eL:gLR d (p+96) (p+64)=(c',0):=by unfold gLR; rw [e]; exact ed
 exact ⟨c',eL,by rw [e],g,out_wide hc.h.ok.lo.b hc.h.ok.hi.b en' hc.w⟩
theorem Gamma_narrow {d:D} {p:Nat} (h:GP d (p:Int)) (h8:8≤p) {v:R} (S:GS d (p+96) v):∃ c,gamm_Gamma (dy d) (p:Int)=some (iv c,0)∧Has (c,0) (E v) (-28000) 8192∧p2 (-4096)≤val c.lo∧rep p (val c.lo)∧rep p (val c.hi)∧∀ n:Int,val c.hi≤p2 n→val c.hi-val c.lo≤p2 (n+2-(p:Int)):=by
 have hp:=h.p
 obtain ⟨c',eL,e0,g,wide⟩:=Gamma_mid h S
 have olo:Okd c'.lo (8-((p+96:Nat):Int)) 8:=g.ok.lo
 have ohi:Okd c'.hi (8-((p+96:Nat):Int)) 8:=g.ok.hi
 have m1:ofQ (val c'.lo)≤v:=g.m.lo
 have m2:v≤ofQ (val c'.hi):=g.m.hi
 have ole:val c'.lo≤val c'.hi:=g.ok.le
 obtain ⟨x1,y1⟩:=expR_hasG olo (by omega) (by omega) (p:=p+32) (by omega)
 obtain ⟨x2,-⟩:=expR_hasG ohi (by omega) (by omega) (p:=p+32) (by omega)
 have z1:=expR_rel olo (by omega) (by omega) (p:=p+32) (by omega)
 have z2:=expR_rel ohi (by omega) (by omega) (p:=p+32) (by omega)
 have f1:=fitB_okd olo (by omega) (by omega) (p:=p+32) (by omega)
 have f2:=fitB_okd ohi (by omega) (by omega) (p:=p+32) (by omega)
 obtain ⟨gle,r,er,hr,k1,k2,k3,k4⟩:=Gamma_fin h8 x1 x2 y1 z1 z2 m1 m2 ole wide
 have eG:gGR d p=(⟨(expR c'.lo ((p+32:Nat):Int)).1.lo,(expR c'.hi ((p+32:Nat):Int)).1.hi⟩,0):=by
  rw [gGR_eq,eL]
  exact ofR_eq rfl rfl f1 f2 x1.e x2.e
 have kk:=Gamma_eq h S.ok e0 (by rw [eL]) (by rw [eG]) (by rw [eG]; exact gle)
 rw [eG] at kk
 rw [er] at kk
 exact ⟨r,kk,hr,k1,k2,k3,k4⟩
theorem GammStep_true (a0:AD) (g0:gAD a0) (a1:Int) (g1:(Lit.int .i64 a1).wf=true):l12_GammStep a0 a1=some true:=by
 obtain ⟨p,ep,hp8⟩:=prec12_eq (wf_i64 g1)
 have hq:2≤p∧p≤400:=by omega
 obtain ⟨d,ed,o,l⟩:=place12_eq g0
 have p27:=p2_pos (-27)
 have b5:val d≤32:=by
  have:=o.b.2
  rwa [show p2 5=32 by decide +kernel] at this
 have o6:=o.mono (Int.le_refl _) (show (5:Int)≤6 by omega)
 have one:=(Okd_from (n:=1) (K:=0) (by omega) (by decide)).mono (L':=-27) (H':=5) (by omega) (by omega)
 obtain ⟨m,em,vm,om⟩:=add_ok o one (by omega) (by omega)
 have fm:=dyad_Add_eq o.w one.w
 rw [em] at fm
 have v1:val (fromD 1)=1:=by rw [val_from]; rfl
 rw [v1] at vm
 have om:Okd m (-27) 6:=om
 have lm:p2 (-27)≤val m:=by rw [vm]; grind
 have P:=GP_okd o6 l (p:=(p:Int)) (by omega)
 have Q:=GP_okd om lm (p:=(p:Int)) (by omega)
 obtain ⟨u,f1,h1,l1,-,-,n1⟩:=Gamma_narrow P hp8.1 (lgam_GS o6 l (by grind) (w:=p+96) (by omega))
 obtain ⟨v,f2,h2,-⟩:=Gamma_narrow Q hp8.1 (lgam_GS om lm (by rw [vm]; grind) (w:=p+96) (by omega))
 have x0:(0:R)<ofQ (val d):=by
  have h:=ofQ_lt.2 (show (0:Rat)<val d by grind)
  rwa [ofQ_zero] at h
 have e2:ofQ (val d)*E (lgam KP (ofQ (val d)))=E (lgam KP (ofQ (val m))):=by
  rw [vm,ofQ_add,ofQ_one,lgam_rec KP x0,E_add,E_Ln x0]; grind
 obtain ⟨f3,h3⟩:=sPoint o6 (p:Int)
 obtain ⟨c4,f4,h4⟩:=sMul h3 h1 hq (by omega) (by omega)
 obtain ⟨c5,f5⟩:=sMeet (h4.eq e2) h2 (p:Int)
 have ok1:OkI u (-28000) 8192:=h1.ok
 obtain ⟨w,ew,vw,ow⟩:=add_ok ok1.hi ok1.lo.neg (by omega) (by omega)
 rw [val_neg] at vw
 have fw:=dyad_Sub_eq ok1.hi.w ok1.lo.w
 rw [ew] at fw
 have pl:=pos_4096 l1
 have le1:=ok1.le
 have mh:0<u.hi.m:=val_pos_m (by grind)
 have sz:=okd_size ok1.hi (by omega)
 have fs:=dyad_Size_eq ok1.hi.w
 unfold sizeB at fs
 rw [if_neg (by omega)] at fs
 have hi:=(val_size u.hi).2
 generalize u.hi.e+((blen u.hi.m.natAbs:Nat):Int)=n at *
 have nn : -30000≤n∧n≤8193:=by
  refine ⟨?_,sz.2⟩
  have:=p2_le_iff.1 (Rat.le_trans l1 (Rat.le_trans le1 hi))
  omega
 have wd:=n1 n hi
 have zc:=dyad_Cmp_eq ok1.lo.w WD_z
 rw [dy_z] at zc
 have z3:cmpD u.lo zD>0:=by
  have:=(cmpD_gt u.lo zD).2 (by rw [val_z]; exact pl)
  omega
 have hc:=dyad_Cmp_eq ow.w (WD_half (k:=n+3-(p:Int)) (by omega))
 have t:=p2_le (show n+2-(p:Int)≤n+3-(p:Int) by omega)
 have le:cmpD w ⟨1,n+3-(p:Int)⟩≤0:=(cmpD_le _ _).2 (by rw [vw,val_half]; grind)
 unfold l12_GammStep l12_GammStep_j1 iv_trouble_Err
 rw [examples12]
 simp only [obn]
 rw [if_neg (by simp),ep]
 simp only [obn]
 rw [ivNew_eq hq]
 simp only [obn]
 rw [if_neg (by simp),ed]
 simp only [obn]
 rw [dyad_From_eq (by omega)]
 simp only [obn]
 refine Eq.trans (congrArg (fun o=>Option.bind o _) fm) ?_
 simp only [obn]
 refine Eq.trans (congrArg (fun o=>Option.bind o _) f1) ?_
 simp only [obn]
 refine Eq.trans (congrArg (fun o=>Option.bind o _) f2) ?_
 simp only [obn]
 refine Eq.trans (congrArg (fun o=>Option.bind o _) f3) ?_
 simp only [obn]
 refine Eq.trans (congrArg (fun o=>Option.bind o _) f4) ?_
 simp only [obn]
 refine Eq.trans (congrArg (fun o=>Option.bind o _) f5) ?_
 simp only [obn]
 refine Eq.trans (congrArg (fun o=>Option.bind o _) fw) ?_
 simp only [obn]
 refine Eq.trans (congrArg (fun o=>Option.bind o _) fs) ?_
 simp only [obn]
 rw [if_pos True.intro,if_pos True.intro,if_pos True.intro,if_pos True.intro,if_pos True.intro,if_pos True.intro,if_pos True.intro]
 refine Eq.trans (congrArg (fun o=>Option.bind o _) zc) ?_
 simp only [obn]
 rw [if_pos z3,w64 (x:=n+3) (by omega) (by omega),w64 (by omega) (by omega),dyad_Half_eq (by omega)]
 simp only [obn]
 refine Eq.trans (congrArg (fun o=>Option.bind o _) hc) ?_
 simp only [obn]
 rw [decide_eq_true le]
end Go.Proofs.YtjfcghliglfapabGreat.Gen
