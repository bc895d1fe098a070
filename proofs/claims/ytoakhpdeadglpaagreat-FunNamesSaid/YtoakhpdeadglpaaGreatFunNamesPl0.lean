/- Plain theory of the numbers that the statement speaks of: printed from the proofs' own texts, as far as this statement needs it. -/
import Derived.Test.YtoakhpdeadglpaaGreatFunNamesGenO
set_option linter.unusedVariables false
set_option linter.unusedSimpArgs false
namespace Go.Plain
open Go Go.Abs
theorem w64 {x:Int} (h1 : -9223372036854775808≤x) (h2:x≤9223372036854775807):IntKind.i64.wrap x=x:=by
 unfold IntKind.wrap
 simp [IntKind.bits,IntKind.signed]
 omega
end Go.Plain
namespace Go.Proofs.YtoakhpdeadglpaaGreat.Gen
open Go Go.Abs Go.Plain
def blen (n:Nat):Nat:=if n=0 then 0 else n.log2+1
theorem tmodn (x y:Nat):(x:Int).tmod (y:Int)=((x % y:Nat):Int):=by rw [Int.tmod_eq_emod_of_nonneg (by omega)]; simp
theorem obn {α β:Type} (a:α) (f:α→Option β):Option.bind (some a) f=f a:=by simp
structure D where
 m:Int
 e:Int
instance:DecidableEq D:=fun x y=>
 if h:x.m=y.m∧x.e=y.e then isTrue (by cases x; cases y; simp only at h; rw [h.1,h.2]) else isFalse (fun e=>h (by rw [e]; exact ⟨rfl,rfl⟩))
def p2 (k:Int):Rat:=(2:Rat) ^ k
theorem p2_add (a b:Int):p2 (a+b)=p2 a*p2 b:=Rat.zpow_add (by decide) a b
theorem p2_nat (n:Nat):p2 (n:Int)=((2 ^ n:Nat):Rat):=by
 unfold p2
 rw [Rat.zpow_natCast,Rat.natCast_pow]; rfl
def val (d:D):Rat:=(d.m:Rat)*p2 d.e
def okD (d:D):Prop:=(d.m=0∧d.e=0)∨(d.m % 2=1∧-131072≤d.e∧d.e≤131072)
def WD (d:D):Prop:=okD d∧blen d.m.natAbs≤262144
theorem okD.e {d:D} (h:okD d) : -131072≤d.e∧d.e≤131072:=by
 rcases h with h | h
 ·omega
 ·exact h.2
theorem WD.e {d:D} (h:WD d) : -131072≤d.e∧d.e≤131072:=h.1.e
def negD (d:D):D:=⟨-d.m,d.e⟩
theorem val_neg (d:D):val (negD d) = -val d:=by simp [val,negD,Rat.neg_mul]
theorem WD.neg {d:D} (h:WD d):WD (negD d):=by
 obtain ⟨h1,h2⟩:=h
 refine ⟨?_,by unfold negD; simpa using h2⟩
 unfold okD negD at *
 simp only
 rcases h1 with h1 | h1
 ·left; omega
 ·right; omega
structure I where
 lo:D
 hi:D
def okI (a:I):Prop:=WD a.lo∧WD a.hi∧val a.lo≤val a.hi
def negI (a:I):I:=⟨negD a.hi,negD a.lo⟩
theorem okI_neg {a:I} (h:okI a):okI (negI a):=by
 refine ⟨h.2.1.neg,h.1.neg,?_⟩
 show val (negD a.hi)≤val (negD a.lo)
 rw [val_neg,val_neg]
 have:=h.2.2
 grind
def G (L:Int) (q:Rat):Prop:=∃ z:Int,q=(z:Rat)*p2 L
def B (H:Int) (q:Rat):Prop:=-(p2 H)≤q∧q≤p2 H
theorem G.add {L:Int} {x y:Rat} (hx:G L x) (hy:G L y):G L (x+y):=by
 obtain ⟨a,rfl⟩:=hx
 obtain ⟨b,rfl⟩:=hy
 exact ⟨a+b,by rw [Rat.intCast_add]; grind⟩
theorem G.neg {L:Int} {x:Rat} (hx:G L x):G L (-x):=by
 obtain ⟨a,rfl⟩:=hx
 exact ⟨-a,by rw [Rat.intCast_neg]; grind⟩
theorem G.mul {L M:Int} {x y:Rat} (hx:G L x) (hy:G M y):G (L+M) (x*y):=by
 obtain ⟨a,rfl⟩:=hx
 obtain ⟨b,rfl⟩:=hy
 exact ⟨a*b,by rw [Rat.intCast_mul,p2_add]; grind⟩
theorem p2_succ (H:Int):p2 (H+1)=2*p2 H:=by
 rw [p2_add,show (1:Int)=((1:Nat):Int) by rfl,p2_nat]
 have:((2 ^ 1:Nat):Rat)=2:=by rfl
 rw [this]; grind
theorem B.add {H:Int} {x y:Rat} (hx:B H x) (hy:B H y):B (H+1) (x+y):=by
 unfold B at *
 rw [p2_succ]
 grind
theorem B.neg {H:Int} {x:Rat} (hx:B H x):B H (-x):=by unfold B at *; grind
theorem mul_abs_le {a b x y:Rat} (hx : -a≤x∧x≤a) (hy : -b≤y∧y≤b) : -(a*b)≤x*y∧x*y≤a*b:=by
 have h1:=Rat.mul_nonneg (show 0≤a-x by grind) (show 0≤b-y by grind)
 have h2:=Rat.mul_nonneg (show 0≤a+x by grind) (show 0≤b+y by grind)
 have h3:=Rat.mul_nonneg (show 0≤a-x by grind) (show 0≤b+y by grind)
 have h4:=Rat.mul_nonneg (show 0≤a+x by grind) (show 0≤b-y by grind)
 constructor<;>grind
theorem B.mul {H K:Int} {x y:Rat} (hx:B H x) (hy:B K y):B (H+K) (x*y):=by
 unfold B at *
 rw [p2_add]
 exact mul_abs_le hx hy
structure Okd (d:D) (L H:Int):Prop where
 w:WD d
 g:G L (val d)
 b:B H (val d)
theorem Okd.neg {d:D} {L H:Int} (h:Okd d L H):Okd (negD d) L H:=⟨h.w.neg,by rw [val_neg]; exact h.g.neg,by rw [val_neg]; exact h.b.neg⟩
structure OkI (a:I) (L H:Int):Prop where
 lo:Okd a.lo L H
 hi:Okd a.hi L H
 le:val a.lo≤val a.hi
theorem OkI.ok {a:I} {L H:Int} (h:OkI a L H):okI a:=⟨h.lo.w,h.hi.w,h.le⟩
theorem OkI.neg {a:I} {L H:Int} (h:OkI a L H):OkI (negI a) L H:=⟨h.hi.neg,h.lo.neg,(okI_neg h.ok).2.2⟩
structure Prod (a b:I) (u v:Rat):Prop where
 h1:u≤val a.lo*val b.lo∧val a.lo*val b.lo≤v
 h2:u≤val a.lo*val b.hi∧val a.lo*val b.hi≤v
 h3:u≤val a.hi*val b.lo∧val a.hi*val b.lo≤v
 h4:u≤val a.hi*val b.hi∧val a.hi*val b.hi≤v
 mu:u=val a.lo*val b.lo∨u=val a.lo*val b.hi∨u=val a.hi*val b.lo∨u=val a.hi*val b.hi
 mv:v=val a.lo*val b.lo∨v=val a.lo*val b.hi∨v=val a.hi*val b.lo∨v=val a.hi*val b.hi
instance:DecidableEq I:=fun x y=>
 if h:x.lo=y.lo∧x.hi=y.hi then isTrue (by cases x; cases y; simp only at h; rw [h.1,h.2]) else isFalse (fun e=>h (by rw [e]; exact ⟨rfl,rfl⟩))
theorem wf_i64 {a:Int} (h:(Lit.int .i64 a).wf=true) : -9223372036854775808≤a∧a≤9223372036854775807:=by
 simp [Lit.wf,IntKind.min,IntKind.max,IntKind.signed,IntKind.bits] at h
 omega
theorem wrap_low (a:Int) (h : -9223372036854775808≤a∧a<0):IntKind.i64.wrap (0-IntKind.i64.wrap (a+1))=((-(a+1)).toNat:Int):=by
 rw [w64 (x:=a+1) (by omega) (by omega),w64 (by omega) (by omega)]; omega
end Go.Proofs.YtoakhpdeadglpaaGreat.Gen
namespace Go.An
abbrev clsT {F:Type→Type} {α:Type} (_:F α):Type→Type:=F
abbrev clsO {S:Type→Type} {F:(R:Type)→S R→(l:LE R)→LT R→Std.IsPreorder R→Prop} {α:Type} {s:S α} {l:LE α} {t:LT α} {p:Std.IsPreorder α} (_:F α s l t p):(R:Type)→S R→(l:LE R)→LT R→Std.IsPreorder R→Prop:=fun R a b c d=>F R a b c d
abbrev clsN {S:Type→Type} {F:(R:Type)→S R→Prop} {α:Type} {s:S α} (_:F α s):(R:Type)→S R→Prop:=fun R a=>F R a
theorem qabs {a b x y:Rat} (hx : -a≤x∧x≤a) (hy : -b≤y∧y≤b) : -(a*b)≤x*y∧x*y≤a*b:=by
 have h1:=Rat.mul_nonneg (show 0≤a-x by grind) (show 0≤b-y by grind)
 have h2:=Rat.mul_nonneg (show 0≤a+x by grind) (show 0≤b+y by grind)
 have h3:=Rat.mul_nonneg (show 0≤a-x by grind) (show 0≤b+y by grind)
 have h4:=Rat.mul_nonneg (show 0≤a+x by grind) (show 0≤b-y by grind)
 constructor<;>grind
structure CS where
 f:Nat→Rat
 c:∀ e:Rat,0<e→∃ N,∀ m n,N≤m→N≤n→f m-f n≤e
theorem CS.ext {a b:CS} (h:∀ n,a.f n=b.f n):a=b:=by
 cases a; cases b; simp only [CS.mk.injEq]; exact funext h
def CS.le (a b:CS):Prop:=∀ e:Rat,0<e→∃ N,∀ n,N≤n→a.f n-b.f n≤e
theorem CS.le_refl (a:CS):a.le a:=fun e h=>⟨0,fun n _=>by grind⟩
theorem CS.le_trans {a b c:CS} (h:a.le b) (k:b.le c):a.le c:=fun e he=>by
 obtain ⟨N,hN⟩:=h (e / 2) (by grind)
 obtain ⟨M,hM⟩:=k (e / 2) (by grind)
 refine ⟨max N M,fun n hn=>?_⟩
 have h1:=hN n (by omega)
 have h2:=hM n (by omega)
 grind
theorem CS.gap {a b:CS} (h:¬a.le b):∃ e:Rat,0<e∧∃ N,∀ n,N≤n→b.f n+e≤a.f n:=by
 unfold CS.le at h
 simp only [Classical.not_forall,not_exists] at h
 obtain ⟨e,he,h⟩:=h
 obtain ⟨N,hN⟩:=a.c (e / 4) (by grind)
 obtain ⟨M,hM⟩:=b.c (e / 4) (by grind)
 obtain ⟨n,hn,k⟩:=h (max N M)
 refine ⟨e / 2,by grind,max N M,fun m hm=>?_⟩
 have h1:=hN n m (by omega) (by omega)
 have h2:=hM m n (by omega) (by omega)
 grind
theorem CS.le_total (a b:CS):a.le b∨b.le a:=by
 rcases Classical.em (a.le b) with h | h
 ·exact Or.inl h
 ·obtain ⟨e,he,N,hN⟩:=CS.gap h
  exact Or.inr fun d hd=>⟨N,fun n hn=>by have:=hN n hn; grind⟩
theorem CS.bnd (a:CS):∃ B:Rat,0<B∧∃ N,∀ n,N≤n→-B≤a.f n∧a.f n≤B:=by
 obtain ⟨N,hN⟩:=a.c 1 (by decide)
 have key:∀ x:Rat,∃ B:Rat,0<B∧x+1≤B∧-B≤x-1:=by
  intro x
  rcases (show 0≤x∨x≤0 by grind) with h | h
  ·exact ⟨x+1,by grind,by grind,by grind⟩
  ·exact ⟨-x+1,by grind,by grind,by grind⟩
 obtain ⟨B,hB,h1,h2⟩:=key (a.f N)
 refine ⟨B,hB,N,fun n hn=>?_⟩
 have h3:=hN n N hn (Nat.le_refl _)
 have h4:=hN N n (Nat.le_refl _) hn
 grind
def CS.ofRat (q:Rat):CS:=⟨fun _=>q,fun e he=>⟨0,fun m n _ _=>by grind⟩⟩
def CS.neg (a:CS):CS:=⟨fun n=>-a.f n,fun e he=>by
 obtain ⟨N,hN⟩:=a.c e he
 exact ⟨N,fun m n hm hn=>by have:=hN n m hn hm; grind⟩⟩
def CS.add (a b:CS):CS:=⟨fun n=>a.f n+b.f n,fun e he=>by
 obtain ⟨N,hN⟩:=a.c (e / 2) (by grind)
 obtain ⟨M,hM⟩:=b.c (e / 2) (by grind)
 refine ⟨max N M,fun m n hm hn=>?_⟩
 have h1:=hN m n (by omega) (by omega)
 have h2:=hM m n (by omega) (by omega)
 grind⟩
theorem small {e B:Rat} (he:0<e) (hB:0<B):∃ d:Rat,0<d∧B*d≤e:=⟨e*B⁻¹,Rat.mul_pos he (Rat.inv_pos.2 hB),by rw [Rat.mul_comm e,← Rat.mul_assoc,Rat.mul_inv_cancel _ (by grind),Rat.one_mul]; grind⟩
theorem CS.c2 (a:CS) {e:Rat} (he:0<e):∃ N,∀ m n,N≤m→N≤n→-e≤a.f m-a.f n∧a.f m-a.f n≤e:=by
 obtain ⟨N,hN⟩:=a.c e he
 exact ⟨N,fun m n hm hn=>⟨by have:=hN n m hn hm; grind,hN m n hm hn⟩⟩
def CS.mul (a b:CS):CS:=⟨fun n=>a.f n*b.f n,fun e he=>by
 obtain ⟨A,hA,N1,h1⟩:=a.bnd
 obtain ⟨B,hB,N2,h2⟩:=b.bnd
 obtain ⟨d,hd,hd'⟩:=small (e:=e) (B:=A+B) he (by grind)
 obtain ⟨N3,h3⟩:=a.c2 hd
 obtain ⟨N4,h4⟩:=b.c2 hd
 refine ⟨max (max N1 N2) (max N3 N4),fun m n hm hn=>?_⟩
 have k1:=qabs (h1 m (by omega)) (h4 m n (by omega) (by omega))
 have k2:=qabs (h2 n (by omega)) (h3 m n (by omega) (by omega))
 grind⟩
instance CS.st:Setoid CS:=⟨fun a b=>a.le b∧b.le a,⟨fun a=>⟨a.le_refl,a.le_refl⟩,fun h=>⟨h.2,h.1⟩,fun h k=>⟨CS.le_trans h.1 k.1,CS.le_trans k.2 h.2⟩⟩⟩
theorem CS.neg_le {a b:CS} (h:a.le b):b.neg.le a.neg:=fun e he=>by
 obtain ⟨N,hN⟩:=h e he
 exact ⟨N,fun n hn=>by have:=hN n hn; simp only [CS.neg]; grind⟩
theorem CS.add_le {a b c d:CS} (h:a.le b) (k:c.le d):(a.add c).le (b.add d):=fun e he=>by
 obtain ⟨N,hN⟩:=h (e / 2) (by grind)
 obtain ⟨M,hM⟩:=k (e / 2) (by grind)
 refine ⟨max N M,fun n hn=>?_⟩
 have h1:=hN n (by omega)
 have h2:=hM n (by omega)
 simp only [CS.add]; grind
theorem CS.add_le_iff {a b:CS} (c:CS):a.le b↔(a.add c).le (b.add c):=⟨fun h=>CS.add_le h c.le_refl,fun h e he=>by
 obtain ⟨N,hN⟩:=h e he
 exact ⟨N,fun n hn=>by have:=hN n hn; simp only [CS.add] at this; grind⟩⟩
theorem CS.eq2 {a b:CS} (h:a ≈ b) {e:Rat} (he:0<e):∃ N,∀ n,N≤n→-e≤a.f n-b.f n∧a.f n-b.f n≤e:=by
 obtain ⟨N,hN⟩:=h.1 e he
 obtain ⟨M,hM⟩:=h.2 e he
 refine ⟨max N M,fun n hn=>?_⟩
 have h1:=hN n (by omega)
 have h2:=hM n (by omega)
 grind
theorem CS.mul_le {a b:CS} (h:a ≈ b) (c:CS):(a.mul c).le (b.mul c):=fun e he=>by
 obtain ⟨C,hC,N,hN⟩:=c.bnd
 obtain ⟨d,hd,hd'⟩:=small (e:=e) (B:=C) he hC
 obtain ⟨M,hM⟩:=CS.eq2 h hd
 refine ⟨max N M,fun n hn=>?_⟩
 have k:=qabs (hN n (by omega)) (hM n (by omega))
 simp only [CS.mul]; grind
theorem CS.mul_comm' (a b:CS):a.mul b=b.mul a:=CS.ext fun n=>Rat.mul_comm _ _
theorem CS.mul_eq {a b c d:CS} (h:a ≈ b) (k:c ≈ d):a.mul c ≈ b.mul d:=by
 refine ⟨CS.le_trans (CS.mul_le h c) ?_,CS.le_trans ?_ (CS.mul_le (Setoid.symm h) c)⟩
 ·rw [CS.mul_comm' b c,CS.mul_comm' b d]; exact CS.mul_le k b
 ·rw [CS.mul_comm' b c,CS.mul_comm' b d]; exact CS.mul_le (Setoid.symm k) b
def R:Type:=Quotient CS.st
def mk (a:CS):R:=Quotient.mk _ a
theorem ind {p:R→Prop} (h:∀ a,p (mk a)) (x:R):p x:=Quotient.ind h x
def ofQ (q:Rat):R:=mk (CS.ofRat q)
instance:Neg R:=⟨Quotient.lift (fun a=>mk a.neg) fun _ _ h=>Quotient.sound ⟨CS.neg_le h.2,CS.neg_le h.1⟩⟩
instance:Add R:=⟨Quotient.lift₂ (fun a b=>mk (a.add b)) fun _ _ _ _ h k=>Quotient.sound ⟨CS.add_le h.1 k.1,CS.add_le h.2 k.2⟩⟩
instance:Sub R:=⟨fun a b=>a + -b⟩
instance:Mul R:=⟨Quotient.lift₂ (fun a b=>mk (a.mul b)) fun _ _ _ _ h k=>Quotient.sound (CS.mul_eq h k)⟩
instance:LE R:=⟨Quotient.lift₂ CS.le fun _ _ _ _ h k=>propext ⟨fun e=>CS.le_trans h.2 (CS.le_trans e k.1),fun e=>CS.le_trans h.1 (CS.le_trans e k.2)⟩⟩
instance:LT R:=⟨fun a b=>a≤b∧¬b≤a⟩
instance:NatCast R:=⟨fun n=>ofQ n⟩
instance:IntCast R:=⟨fun n=>ofQ n⟩
instance (n:Nat):OfNat R n:=⟨ofQ n⟩
def npow (x:R):Nat→R
 | 0=>1
 | n+1=>npow x n*x
instance:HPow R Nat R:=⟨npow⟩
instance:SMul Nat R:=⟨fun n x=>n*x⟩
instance:SMul Int R:=⟨fun n x=>n*x⟩
theorem mk_ext {a b:CS} (h:∀ n,a.f n=b.f n):mk a=mk b:=congrArg mk (CS.ext h)
theorem ofQ_add (p q:Rat):ofQ (p+q)=ofQ p+ofQ q:=rfl
theorem ofQ_mul (p q:Rat):ofQ (p*q)=ofQ p*ofQ q:=rfl
theorem ofQ_neg (p:Rat):ofQ (-p) = -ofQ p:=rfl
theorem radd_comm (a b:R):a+b=b+a:=by
 induction a using ind; induction b using ind; exact mk_ext fun n=>Rat.add_comm _ _
theorem rmul_comm (a b:R):a*b=b*a:=by
 induction a using ind; induction b using ind; exact mk_ext fun n=>Rat.mul_comm _ _
theorem radd_zero (a:R):a+0=a:=by
 induction a using ind; exact mk_ext fun n=>by simp only [CS.add,CS.ofRat]; grind
theorem rmul_one (a:R):a*1=a:=by
 induction a using ind; exact mk_ext fun n=>by simp only [CS.mul,CS.ofRat]; grind
theorem rdistrib (a b c:R):a*(b+c)=a*b+a*c:=by
 induction a using ind; induction b using ind; induction c using ind; exact mk_ext fun n=>by simp only [CS.mul,CS.add]; grind
theorem rzero_mul (a:R):0*a=0:=by
 induction a using ind; exact mk_ext fun n=>by simp only [CS.mul,CS.ofRat]; grind
theorem rneg_add (a:R) : -a+a=0:=by
 induction a using ind; exact mk_ext fun n=>by simp only [CS.add,CS.neg,CS.ofRat]; grind
theorem rneg_mul (a b:R) : -a*b = -(a*b):=by
 induction a using ind; induction b using ind; exact mk_ext fun n=>by simp only [CS.mul,CS.neg]; grind
instance rring:clsT Dyadic.instCommRing R where
 nsmul:=⟨fun n x=>n*x⟩
 zsmul:=⟨fun n x=>n*x⟩
 npow:=inferInstance
 add_zero:=radd_zero
 add_comm:=radd_comm
 add_assoc a b c:=by
  induction a using ind; induction b using ind; induction c using ind; exact mk_ext fun n=>Rat.add_assoc _ _ _
 mul_assoc a b c:=by
  induction a using ind; induction b using ind; induction c using ind; exact mk_ext fun n=>Rat.mul_assoc _ _ _
 mul_one:=rmul_one
 one_mul a:=by rw [rmul_comm]; exact rmul_one a
 zero_mul:=rzero_mul
 mul_zero a:=by rw [rmul_comm]; exact rzero_mul a
 mul_comm:=rmul_comm
 pow_zero _:=rfl
 pow_succ _ _:=rfl
 sub_eq_add_neg _ _:=rfl
 neg_add_cancel:=rneg_add
 neg_zsmul i a:=by
  show ofQ ((-i:Int):Rat)*a = -(ofQ i*a)
  rw [← rneg_mul,← ofQ_neg,Rat.intCast_neg]
 left_distrib:=rdistrib
 right_distrib a b c:=by rw [rmul_comm,rdistrib,rmul_comm c a,rmul_comm c b]
 intCast_neg i:=by show ofQ ((-i:Int):Rat) = -(ofQ i); rw [← ofQ_neg,Rat.intCast_neg]
 ofNat_succ n:=by show ofQ ((n+1:Nat):Rat)=ofQ n+ofQ 1; rw [← ofQ_add,Rat.natCast_add]; rfl
theorem rle_refl (a:R):a≤a:=by induction a using ind; exact CS.le_refl _
theorem rle_trans {a b c:R} (h:a≤b) (k:b≤c):a≤c:=by
 induction a using ind; induction b using ind; induction c using ind; exact CS.le_trans h k
theorem rle_antisymm {a b:R} (h:a≤b) (k:b≤a):a=b:=by
 induction a using ind; induction b using ind; exact Quotient.sound ⟨h,k⟩
theorem rle_total (a b:R):a≤b∨b≤a:=by
 induction a using ind; induction b using ind; exact CS.le_total _ _
instance:Std.IsLinearOrder R where
 le_refl:=rle_refl
 le_trans _ _ _:=rle_trans
 le_antisymm _ _:=rle_antisymm
 le_total:=rle_total
instance:Std.LawfulOrderLT R where
 lt_iff _ _:=Iff.rfl
theorem radd_le {a b:R} (c:R):a≤b↔a+c≤b+c:=by
 induction a using ind; induction b using ind; induction c using ind; exact CS.add_le_iff _
theorem lt_gap {a b:CS} (h:mk a<mk b):∃ e:Rat,0<e∧∃ N,∀ n,N≤n→a.f n+e≤b.f n:=CS.gap h.2
theorem gap_lt {a b:CS} {e:Rat} (he:0<e) {N:Nat} (h:∀ n,N≤n→a.f n+e≤b.f n):mk a<mk b:=
 ⟨fun d hd=>⟨N,fun n hn=>by have:=h n hn; grind⟩,fun k=>by
  obtain ⟨M,hM⟩:=k (e / 2) (by grind)
  have h1:=hM (max N M) (by omega)
  have h2:=h (max N M) (by omega)
  grind⟩
theorem rmul_lt {a b c:R} (h:a<b) (hc:0<c):c*a<c*b:=by
 induction a using ind; induction b using ind; induction c using ind
 obtain ⟨e,he,N,hN⟩:=lt_gap h
 obtain ⟨d,hd,M,hM⟩:=lt_gap hc
 refine gap_lt (Rat.mul_pos hd he) (N:=max N M) fun n hn=>?_
 have h1:=hN n (by omega)
 have h2:=hM n (by omega)
 simp only [CS.ofRat,CS.mul] at *
 rename_i x y z
 have h3:d*e≤z.f n*(y.f n-x.f n):=by
  have k1:=Rat.mul_le_mul_of_nonneg_left (c:=d) (show e≤y.f n-x.f n by grind) (by grind)
  have k2:=Rat.mul_le_mul_of_nonneg_right (c:=y.f n-x.f n) (show d≤z.f n by grind) (by grind)
  grind
 grind
theorem rzero_lt_one:(0:R)<1:=gap_lt (e:=1) (by decide) (N:=0) fun n _=>by simp only [CS.ofRat]; grind
theorem rmul_lt' {a b c:R} (h:a<b) (hc:0<c):a*c<b*c:=by rw [rmul_comm a,rmul_comm b]; exact rmul_lt h hc
instance:clsO Dyadic.instOrderedRing R inferInstance inferInstance inferInstance inferInstance where
 add_le_left_iff c:=radd_le c
 zero_lt_one:=rzero_lt_one
 mul_lt_mul_of_pos_left h hc:=rmul_lt h hc
 mul_lt_mul_of_pos_right h hc:=rmul_lt' h hc
instance:clsN Dyadic.instNoNatZeroDivisors R inferInstance where
 no_nat_zero_divisors k a b h1 h2:=by
  have h3:ofQ k*a=ofQ k*b:=h2
  have h4:ofQ (1 / k)*ofQ k=1:=by
   rw [← ofQ_mul]
   have:(1 / (k:Rat))*k=1:=by
    rw [Rat.div_def,Rat.one_mul,Rat.inv_mul_cancel]
    exact_mod_cast h1
   rw [this]; rfl
  have h5:ofQ (1 / k)*ofQ k*a=ofQ (1 / k)*ofQ k*b:=by grind
  rw [h4] at h5; grind
noncomputable def ab (x:R):R:=@ite _ (0≤x) (Classical.propDecidable _) x (-x)
theorem rpow_succ (x:R) (n:Nat):x ^ (n+1)=x ^ n*x:=rfl
noncomputable instance:Inv R:=⟨fun x=>@dite _ (∃ y,x*y=1) (Classical.propDecidable _) (fun h=>Classical.choose h) fun _=>0⟩
noncomputable instance:Div R:=⟨fun x y=>x*y⁻¹⟩
def Conv (s:Nat→R) (x:R):Prop:=∀ e:Rat,0<e→∃ N,∀ n,N≤n→s n-x≤ofQ e∧x-s n≤ofQ e
def psum (a:Nat→R) (x:R):Nat→R
 | 0=>0
 | n+1=>psum a x n+a n*x ^ n
structure PB (a:Nat→R) (r K:R):Prop where
 r0:0<r
 h:∀ n,ab (a n)*r ^ n≤K
noncomputable def ps (a:Nat→R) (x:R):R:=@dite _ (∃ y,Conv (psum a x) y) (Classical.propDecidable _) (fun h=>Classical.choose h) fun _=>0
def e1 (t:R):Nat→R
 | 0=>0
 | n+1=>e1 t n+((n+1:Nat):R)*t ^ n
noncomputable def rf:Nat→R
 | 0=>1
 | n+1=>rf n*((n+1:Nat):R)⁻¹
def sg4:Nat→R × R
 | 0=>(0,1)
 | n+1=>((sg4 n).2,-(sg4 n).1)
def sS (n:Nat):R:=(sg4 n).1
noncomputable def cs (n:Nat):R:=sS n*rf n
noncomputable def S (x:R):R:=ps cs x
theorem one_pow (n:Nat):(1:R) ^ n=1:=by
 induction n with
 | zero=>rfl
 | succ n ih=>rw [rpow_succ,ih]; grind
theorem PB.one {a:Nat→R} (h:∀ n,ab (a n)≤1):PB a 1 1:=⟨rzero_lt_one,fun n=>by rw [one_pow]; have:=h n; grind⟩
noncomputable def hf:R:=ofQ (1 / 2)
end Go.An
namespace Go.Proofs.YtoakhpdeadglpaaGreat.Gen
open Go Go.Abs Go.Plain Go.An
def nmL:List ByteArray:=[⟨#[]⟩,⟨#[101,120,112]⟩,⟨#[108,110]⟩,⟨#[115,105,110]⟩,⟨#[99,111,115]⟩,⟨#[97,116,97,110]⟩,⟨#[101,114,102]⟩,⟨#[101,114,102,99]⟩,⟨#[103,97,109,109,97]⟩,⟨#[108,103,97,109,109,97]⟩,⟨#[98,101,115,115,101,108]⟩]
def nm (k:Nat):ByteArray:=nmL.getD k ⟨#[]⟩
def z14:AD:=⟨⟨false,[]⟩,0⟩
theorem name_all:∀ k:Fin 11,1≤k.val→fun_Name ((k.val:Nat):Int)=some (nm k.val,true):=by decide +kernel
theorem name_inj:∀ i j:Fin 11,1≤i.val→1≤j.val→((nm i.val).toList == (nm j.val).toList)=(i.val == j.val):=by decide +kernel
theorem name_ne:∀ i:Fin 11,1≤i.val→((nm i.val).toList == (⟨#[]⟩:ByteArray).toList)=false:=by decide +kernel
theorem name_e:((⟨#[]⟩:ByteArray).toList == (⟨#[]⟩:ByteArray).toList)=true:=by decide +kernel
theorem fits_0:∀ k:Fin 11,1≤k.val→((l14_place ((k.val:Nat):Int) z14).bind fun d=>fun_Fits ((k.val:Nat):Int) 0 ⟨d.M,d.E⟩ 20)=some 0:=by decide +kernel
theorem find_ok:∀ k:Fin 11,1≤k.val→((fun_find ((k.val:Nat):Int)).map fun r=>(r.2.2.2.2.2.2,r.2.2.2.2.1))=some (true,k.val == 10):=by decide +kernel
theorem place_ok:∀ k:Fin 11,1≤k.val→(l14_place ((k.val:Nat):Int) z14).isSome=true:=by decide +kernel
theorem examples14:l14_examples=some true:=by decide +kernel
theorem name_out {a:Int} (h:¬(1≤a∧a≤10)):fun_Name a=some (⟨#[]⟩,false):=by
 unfold fun_Name fun_find
 by_cases h1:a<1
 ·rw [if_pos h1]; rfl
 ·rw [if_neg h1,decide_eq_true (by omega)]; rfl
theorem name_in {k:Nat} (h:1≤k∧k≤10):fun_Name (k:Int)=some (nm k,true):=name_all ⟨k,by omega⟩ h.1
theorem fits_n {f n:Int} {x:AD} {p:Int} {r:Bool × Int × Int × Int × Bool × ByteArray × Bool} (hf:fun_find f=some r) (hr:r.2.2.2.2.2.2=true) (hn:n≠0) (ho:r.2.2.2.2.1=false∨n<0∨64<n):fun_Fits f n x p=some 1:=by
 have m:∀ y,fun_Fits_j1 y x true=some 1:=fun y=>by unfold fun_Fits_j1; rw [if_pos rfl]
 have e:fun_may f n x=some (r.1,r.2.1,r.2.2.1,r.2.2.2.1,r.2.2.2.2.1,r.2.2.2.2.2.1,false):=by
  unfold fun_may fun_may_j1
  rw [hf]
  simp only [obn]
  rw [if_pos hr,if_neg hn]
  by_cases h1:r.2.2.2.2.1=true
  ·rw [if_pos h1]
   by_cases h2:n>0
   ·have hno:¬n≤64:=by
     rcases ho with q | q | q
     ·rw [h1] at q; cases q
     ·omega
     ·omega
    rw [if_pos h2,if_neg hno]
   ·rw [if_neg h2]
  ·rw [if_neg h1]
 unfold fun_Fits
 rw [e]
 simp only [obn]
 rw [if_pos (by simp),m]
theorem fits_o {f n:Int} {x:AD} {p:Int} {r:Bool × Int × Int × Int × Bool × ByteArray × Bool} (hf:fun_find f=some r) (hr:r.2.2.2.2.2.2=true) (hn:0<n∧n≤64) (ho:r.2.2.2.2.1=true):fun_Fits f n x p=fun_Fits f 0 x p:=by
 have e:fun_may f n x=fun_may f 0 x:=by
  unfold fun_may
  rw [hf]
  simp only [obn]
  rw [if_pos hr,if_pos hr,if_neg (by omega),if_pos ho,if_pos (by omega),if_pos hn.2,if_pos True.intro]
 unfold fun_Fits
 rw [e]
theorem which_eq {a:Int} (h : -9223372036854775808≤a∧a≤9223372036854775807):∃ k:Nat,l14_which a=some (k:Int)∧1≤k∧k≤10:=by
 unfold l14_which l14_which_j1
 have key:∀ n:Nat,∃ k:Nat,(some (IntKind.i64.wrap (1+((n:Int).tmod 10))):Option Int)=some (k:Int)∧1≤k∧k≤10:=by
  intro n
  rw [show (10:Int)=((10:Nat):Int) by rfl,tmodn,w64 (by omega) (by omega)]
  exact ⟨1+n % 10,by congr 1,by omega,by omega⟩
 by_cases h0:a<0
 ·rw [if_pos h0,wrap_low a (by omega)]
  exact key _
 ·rw [if_neg h0]
  have:=key a.toNat
  rwa [Int.toNat_of_nonneg (by omega)] at this
structure Nmd (f g:Int) (a b:ByteArray × Bool):Prop where
 ok:a.2=decide (1≤f∧f≤10)
 ne:a.2=(!(a.1.toList == (⟨#[]⟩:ByteArray).toList))
 one:a.2=true→b.2=true→(a.1.toList == b.1.toList)=(f == g)
theorem names_ok (f g:Int):∃ a b,fun_Name f=some a∧fun_Name g=some b∧Nmd f g a b:=by
 by_cases hf:1≤f∧f≤10
 ·obtain ⟨i,rfl⟩:∃ i:Nat,f=(i:Int):=⟨f.toNat,by omega⟩
  have hi:1≤i∧i≤10:=by omega
  have e1:=name_in hi
  have e3:(nm i,true).2=(!((nm i,true).1.toList == (⟨#[]⟩:ByteArray).toList)):=by
   show true = !((nm i).toList == (⟨#[]⟩:ByteArray).toList)
   rw [name_ne ⟨i,by omega⟩ hi.1]; rfl
  by_cases hg:1≤g∧g≤10
  ·obtain ⟨j,rfl⟩:∃ j:Nat,g=(j:Int):=⟨g.toNat,by omega⟩
   have hj:1≤j∧j≤10:=by omega
   refine ⟨_,_,e1,name_in hj,by rw [decide_eq_true hf],e3,fun _ _=>?_⟩
   have k:=name_inj ⟨i,by omega⟩ ⟨j,by omega⟩ hi.1 hj.1
   show ((nm i).toList == (nm j).toList)=((i:Int) == (j:Int))
   rw [k]
   show (i == j)=((i:Int) == (j:Int))
   by_cases h:i=j
   ·subst h; simp
   ·rw [beq_eq_false_iff_ne.2 h,beq_eq_false_iff_ne.2 (by omega)]
  ·exact ⟨_,_,e1,name_out hg,by rw [decide_eq_true hf],e3,fun _ h=>by cases h⟩
 ·have e:((⟨#[]⟩:ByteArray),false).2=(!(((⟨#[]⟩:ByteArray),false).1.toList == (⟨#[]⟩:ByteArray).toList)):=by
   show false = !((⟨#[]⟩:ByteArray).toList == (⟨#[]⟩:ByteArray).toList)
   rw [name_e]; rfl
  by_cases hg:1≤g∧g≤10
  ·obtain ⟨j,rfl⟩:∃ j:Nat,g=(j:Int):=⟨g.toNat,by omega⟩
   exact ⟨_,_,name_out hf,name_in (by omega),by rw [decide_eq_false hf],e,fun h=>by cases h⟩
  ·exact ⟨_,_,name_out hf,name_out hg,by rw [decide_eq_false hf],e,fun h=>by cases h⟩
theorem names_j1 {f g e:Int} {a b:ByteArray × Bool} (h:Nmd f g a b) {y:Bool} (he:(e != 1)=y):l14_FunNames_j1 true f a e b g y=some true:=by
 have j:l14_FunNames_j2 ((e != 1) == y)=some true:=by
  unfold l14_FunNames_j2
  rw [he]; simp
 have h1:=h.ok
 have h2:=h.ne
 have h3:=h.one
 have n2:(a.2 == (!(a.1.toList == (⟨#[]⟩:ByteArray).toList)))=true:=by rw [← h2]; simp
 unfold l14_FunNames_j1
 rw [if_pos rfl,j]
 have tail:(if ¬a.2=true then some true else if ¬b.2=true then some true else if ((a.1.toList == b.1.toList) == (f == g))=true then some true else l14_FunNames_j2 false)=some true:=by
  by_cases p:a.2=true
  ·rw [if_neg (by simp [p])]
   by_cases q:b.2=true
   ·rw [if_neg (by simp [q]),h3 p q,if_pos (by simp)]
   ·rw [if_pos q]
  ·rw [if_pos p]
 by_cases hf:f≥1
 ·rw [if_pos hf,if_pos (by
   rw [h1]
   by_cases hg:f≤10
   ·rw [decide_eq_true hg,decide_eq_true ⟨by omega,hg⟩]; rfl
   ·rw [decide_eq_false hg,decide_eq_false (by omega)]; rfl),if_pos n2]
  exact tail
 ·rw [if_neg hf,if_pos (by rw [h1,decide_eq_false (by omega)]; rfl),if_pos n2]
  exact tail
theorem FunNames_true (a0:Int) (g0:(Lit.int .i64 a0).wf=true) (a1:Int) (g1:(Lit.int .i64 a1).wf=true) (a2:Int) (g2:(Lit.int .i64 a2).wf=true):l14_FunNames a0 a1 a2=some true:=by
 obtain ⟨a,b,ea,eb,nd⟩:=names_ok a0 a1
 obtain ⟨k,ek,hk⟩:=which_eq (wf_i64 g0)
 have F:=fits_0 ⟨k,by omega⟩ hk.1
 have W:=find_ok ⟨k,by omega⟩ hk.1
 have S:=place_ok ⟨k,by omega⟩ hk.1
 simp only at F W S
 obtain ⟨d,ed⟩:=Option.isSome_iff_exists.1 S
 rw [ed] at F
 simp only [obn] at F
 obtain ⟨r,er,hr⟩:=Option.map_eq_some_iff.1 W
 simp only [Prod.mk.injEq] at hr
 obtain ⟨r1,r2⟩:=hr
 unfold l14_FunNames
 rw [examples14]
 simp only [obn]
 rw [if_neg (by simp),ea]
 simp only [obn]
 rw [eb]
 simp only [obn]
 rw [ek]
 simp only [obn]
 rw [show (⟨⟨false,[]⟩,0⟩:AD)=z14 from rfl,ed]
 simp only [obn]
 by_cases h0:a2=0
 ·subst h0
  rw [F]
  simp only [obn]
  rw [if_pos True.intro]
  exact names_j1 nd rfl
 ·by_cases h10:k=10
  ·subst h10
   by_cases hn:0<a2∧a2≤64
   ·rw [fits_o er r1 hn (by rw [r2]; rfl),F]
    simp only [obn]
    rw [if_neg h0,if_pos (by rfl),if_pos hn.1,decide_eq_true hn.2]
    exact names_j1 nd rfl
   ·rw [fits_n er r1 h0 (.inr (by omega))]
    simp only [obn]
    rw [if_neg h0,if_pos (by rfl)]
    by_cases h1:a2>0
    ·rw [if_pos h1,decide_eq_false (by omega)]
     exact names_j1 nd rfl
    ·rw [if_neg h1]
     exact names_j1 nd rfl
  ·rw [fits_n er r1 h0 (.inl (by rw [r2]; exact beq_eq_false_iff_ne.2 h10))]
   simp only [obn]
   rw [if_neg h0,if_neg (by omega)]
   exact names_j1 nd rfl
end Go.Proofs.YtoakhpdeadglpaaGreat.Gen
