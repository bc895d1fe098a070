/- Plain theory of the numbers that the statement speaks of: printed from the proofs' own texts, as far as this statement needs it. -/
import Derived.Test.YtjffljhmjdljeaaGreatGammToldPl1
set_option linter.unusedVariables false
set_option linter.unusedSimpArgs false
namespace Go.Proofs.YtjffljhmjdljeaaGreat.Gen
open Go Go.Abs Go.Plain
open Go.IntKind (i64 u64 u32)
theorem zmd {a:I} (ha:SI a) {d:D} (hd:0≤val d) {p:Nat} (hp:p≤400):SI (ZZ p a d).1:=by
 refine ztF (fun h1 h2=>?_) hp
 rw [zmc h1,zmc h2,qK]
 have:=ha.ok.2.2
 grind
theorem ztH {a:I} (ha:SI a):SI (negI a):=⟨zlK ha.ok,by show blen (negD a.hi).m.natAbs≤1000; rw [zpc]; exact ha.hi,by show blen (negD a.lo).m.natAbs≤1000; rw [zpc]; exact ha.lo⟩
theorem ztI {a b:I} (ha:SI a) (hb:SI b) {p:Nat} (hp:p≤400):SI (zep p a b).1:=ztG ha (ztH hb) hp
theorem ziV {n:Int} (hn : -9223372036854775808≤n∧n≤9223372036854775807):SI (intI n):=by
 have hb:blen n.natAbs≤64:=zaQ wa
 have h1:=ziw n 0
 exact ⟨zzZ hn,by show blen (fromD n).m.natAbs≤1000; unfold fromD; omega,by show blen (fromD n).m.natAbs≤1000; unfold fromD; omega⟩
theorem zAJ {a b:I} {p:Nat} (hp:p≤400):SI (Qw p a b).1:=by
 unfold Qw Zf
 by_cases h1:(timesD a.lo b.lo).2=0
 ·rw [ze h1]
  by_cases h2:(timesD a.lo b.hi).2=0
  ·rw [ze h2]
   by_cases h3:(timesD a.hi b.lo).2=0
   ·rw [ze h3]
    by_cases h4:(timesD a.hi b.hi).2=0
    ·rw [ze h4]
     refine zpn ?_ hp
     have m1:=zl2 (timesD a.lo b.lo).1 (timesD a.lo b.hi).1 (timesD a.hi b.lo).1 (timesD a.hi b.hi).1
     have m2:=zl3 (timesD a.lo b.lo).1 (timesD a.lo b.hi).1 (timesD a.hi b.lo).1 (timesD a.hi b.hi).1
     grind
    ·rw [zg h4]; exact zO
   ·rw [zg h3]; exact zO
  ·rw [zg h2]; exact zO
 ·rw [zg h1]; exact zO
theorem ztJ {x y:D} (hy0:val y≠0) {p:Nat} (up:Bool) (h:(divD x y p up).2=0):(up=false→val (divD x y p up).1≤val x / val y)∧(up=true→val x / val y≤val (divD x y p up).1):=by
 have hym:y.m≠0:=fun h=>hy0 (QT h)
 unfold divD at *
 rw [we hym] at h ⊢
 by_cases hxm:x.m=0
 ·rw [wc hxm]
  have:val x / val y=0:=zgu hy0 (by rw [QT hxm,Rat.zero_mul])
  rw [this]
  exact ⟨fun _=>by rw [qT]; exact Rat.le_refl,fun _=>by rw [qT]; exact Rat.le_refl⟩
 rw [we hxm] at h ⊢
 rw [zc0 h]
 have hX0:x.m.natAbs≠0:=wa
 have hY0:y.m.natAbs≠0:=wa
 generalize p+2+blen y.m.natAbs-blen x.m.natAbs=k at *
 generalize hE:x.e-y.e-(k:Int)=E at *
 have hvx:((x.m.natAbs*2 ^ k:Nat):Rat)*p2 (x.e-k)=(x.m.natAbs:Rat)*p2 x.e:=by
  rw [Rat.natCast_mul,Rat.mul_assoc,← qG]; congr 2; omega
 generalize hv:x.m.natAbs*2 ^ k=v at *
 have hr:=ratio (v:=v) hY0
 have hYp:(0:Rat)<(y.m.natAbs:Rat):=by exact_mod_cast Nat.pos_of_ne_zero hY0
 have hQ:(v:Rat) / (y.m.natAbs:Rat)*p2 E*((y.m.natAbs:Rat)*p2 y.e)=(x.m.natAbs:Rat)*p2 x.e:=by
  have e1:=ZJ (a:=(v:Rat)) (b:=(y.m.natAbs:Rat)) (by grind)
  have e2:p2 E*p2 y.e=p2 (x.e-k):=by rw [← zy]; congr 1; omega
  calc (v:Rat) / (y.m.natAbs:Rat)*p2 E*((y.m.natAbs:Rat)*p2 y.e)=((v:Rat) / (y.m.natAbs:Rat)*(y.m.natAbs:Rat))*(p2 E*p2 y.e):=by grind
   _=(x.m.natAbs:Rat)*p2 x.e:=by rw [e1,e2,hvx]
 have hpE:=zb E
 have hlo:=zlR (v / y.m.natAbs) E (v % y.m.natAbs != 0) p
 have hhi:=zlS (v / y.m.natAbs) E (v % y.m.natAbs != 0) p
 have r1:=Rat.mul_le_mul_of_nonneg_right hr.1 (Rat.le_of_lt hpE)
 have r2:=Rat.mul_le_mul_of_nonneg_right hr.2 (Rat.le_of_lt hpE)
 generalize hQv:(v:Rat) / (y.m.natAbs:Rat)*p2 E=Q at *
 rw [Qf]
 have hsgn:val x / val y=if (decide (x.m<0) != decide (y.m<0))=true then -Q else Q:=by
  apply zgu hy0
  by_cases h1:x.m<0<;>by_cases h2:y.m<0
  ·rw [ZI h1,ZI h2,we (by simp [h1,h2])]; grind
  ·rw [ZI h1,ZH h2,wc (by simp [h1,h2])]; grind
  ·rw [ZH h1,ZI h2,wc (by simp [h1,h2])]; grind
  ·rw [ZH h1,ZH h2,we (by simp [h1,h2])]; grind
 rw [hsgn]
 generalize (decide (x.m<0) != decide (y.m<0))=neg
 cases neg with
 | true=>
  rw [wc rfl,Qi,Rat.neg_mul]
  constructor
  ·rintro rfl
   have:(false != true)=true:=rfl
   rw [this]
   grind
  ·rintro rfl
   have:(true != true)=false:=rfl
   rw [this]
   grind
 | false=>
  rw [we wb,Qg]
  constructor
  ·rintro rfl
   have:(false != false)=false:=rfl
   rw [this]
   grind
  ·rintro rfl
   have:(true != false)=true:=rfl
   rw [this]
   grind
theorem zc1 (x y:D) (p:Nat) (up:Bool):blen (divD x y p up).1.m.natAbs≤p+1:=by
 unfold divD
 split
 ·show blen (0:Int).natAbs≤_; simp [blen]
 ·split
  ·show blen (0:Int).natAbs≤_; simp [blen]
  ·exact ztD (ztC _ _ _ _ _ _)
theorem ztK {a b c d:D} {k:Nat} (ha:blen a.m.natAbs≤k) (hb:blen b.m.natAbs≤k) (hc:blen c.m.natAbs≤k) (hd:blen d.m.natAbs≤k):blen (qk a b c d).m.natAbs≤k∧blen (qf a b c d).m.natAbs≤k:=by
 have m:∀ x y:D,blen x.m.natAbs≤k→blen y.m.natAbs≤k→blen (minD x y).m.natAbs≤k:=by
  intro x y hx hy; unfold minD; split<;>assumption
 have M:∀ x y:D,blen x.m.natAbs≤k→blen y.m.natAbs≤k→blen (maxD x y).m.natAbs≤k:=by
  intro x y hx hy; unfold maxD; split<;>assumption
 exact ⟨m _ _ (m _ _ (m _ _ ha hb) hc) hd,M _ _ (M _ _ (M _ _ ha hb) hc) hd⟩
theorem zAK {a b:I} (hb:okI b) {p:Nat} (hp:p≤400):SI (Z0 p a b).1:=by
 unfold Z0
 by_cases hz:hasI b zD=true
 ·rw [wc hz]; exact zO
 rw [we hz]
 have hz':hasI b zD=false:=by simpa using hz
 have hs:=ziQ hz'
 have hble:=hb.2.2
 have nl:val b.lo≠0:=by grind
 unfold Zf
 by_cases h1:(divD a.lo b.lo p false).2=0
 ·rw [ze h1]
  by_cases h2:(divD a.lo b.hi p false).2=0
  ·rw [ze h2]
   by_cases h3:(divD a.hi b.lo p false).2=0
   ·rw [ze h3]
    by_cases h4:(divD a.hi b.hi p false).2=0
    ·rw [ze h4]
     simp only
     by_cases k1:(divD a.lo b.lo p true).2=0
     ·rw [ze k1]
      by_cases k2:(divD a.lo b.hi p true).2=0
      ·rw [ze k2]
       by_cases k3:(divD a.hi b.lo p true).2=0
       ·rw [ze k3]
        by_cases k4:(divD a.hi b.hi p true).2=0
        ·rw [ze k4]
         have m1:=zl2 (divD a.lo b.lo p false).1 (divD a.lo b.hi p false).1 (divD a.hi b.lo p false).1 (divD a.hi b.hi p false).1
         have m2:=zl3 (divD a.lo b.lo p true).1 (divD a.lo b.hi p true).1 (divD a.hi b.lo p true).1 (divD a.hi b.hi p true).1
         have d1:=(ztJ nl false h1).1 rfl
         have d2:=(ztJ nl true k1).2 rfl
         have b1:=(ztK (zc1 a.lo b.lo p false) (zc1 a.lo b.hi p false) (zc1 a.hi b.lo p false) (zc1 a.hi b.hi p false)).1
         have b2:=(ztK (zc1 a.lo b.lo p true) (zc1 a.lo b.hi p true) (zc1 a.hi b.lo p true) (zc1 a.hi b.hi p true)).2
         have w1:WD (qk (divD a.lo b.lo p false).1 (divD a.lo b.hi p false).1 (divD a.hi b.lo p false).1 (divD a.hi b.hi p false).1):=zlL (zlL (zlL zaT zaT) zaT) zaT
         have w2:WD (qf (divD a.lo b.lo p true).1 (divD a.lo b.hi p true).1 (divD a.hi b.lo p true).1 (divD a.hi b.hi p true).1):=zlM (zlM (zlM zaT zaT) zaT) zaT
         generalize qk (divD a.lo b.lo p false).1 (divD a.lo b.hi p false).1 (divD a.hi b.lo p false).1 (divD a.hi b.hi p false).1=m at *
         generalize qf (divD a.lo b.lo p true).1 (divD a.lo b.hi p true).1 (divD a.hi b.lo p true).1 (divD a.hi b.hi p true).1=M at *
         exact ⟨⟨w1,w2,by show val m≤val M; grind⟩,by show blen m.m.natAbs≤1000; omega,by show blen M.m.natAbs≤1000; omega⟩
        ·rw [zg k4]; exact zO
       ·rw [zg k3]; exact zO
      ·rw [zg k2]; exact zO
     ·rw [zg k1]; exact zO
    ·rw [zg h4]; exact zO
   ·rw [zg h3]; exact zO
  ·rw [zg h2]; exact zO
 ·rw [zg h1]; exact zO
theorem qV {r:I × Int} (h:SI r.1) (e:Int):SI (st e zI r).1:=by
 unfold st; split
 ·exact h
 ·exact zO
def mS (p:Nat) (a b:I) (e:Int):I × Int:=st e zI (Qw p a b)
def dS (p:Nat) (a b:I) (e:Int):I × Int:=st e zI (Z0 p a b)
def aS (p:Nat) (a b:I) (e:Int):I × Int:=st e zI (ZY p a b)
def nS (a:I) (e:Int):I × Int:=st e zI (negI a,0)
def iS (n:Int) (e:Int):I × Int:=st e zI (intI n,0)
def wS (p:Nat) (a:I) (d:D) (e:Int):I × Int:=st e zI (ZZ p a d)
theorem qd {p:Nat} (hp:p≤400) (a b:I) (e:Int):SI (mS p a b e).1:=qV (zAJ hp) e
theorem QW {p:Nat} (hp:p≤400) (a:I) {b:I} (hb:SI b) (e:Int):SI (dS p a b e).1:=qV (zAK hb.ok hp) e
theorem ql {p:Nat} (hp:p≤400) {a b:I} (ha:SI a) (hb:SI b) (e:Int):SI (aS p a b e).1:=qV (ztG ha hb hp) e
theorem ziW {a:I} (ha:SI a) (e:Int):SI (nS a e).1:=qV (r:=(negI a,0)) (ztH ha) e
theorem zA {n:Int} (hn : -1000000≤n∧n≤1000000) (e:Int):SI (iS n e).1:=qV (r:=(intI n,0)) (ziV wa) e
theorem zal {p:Nat} (hp:2≤p∧p≤400) {a b:I} (ha:SI a) (hb:SI b) (e:Int):ZB (iv a) (iv b) e (p:Int)=some (iv (mS p a b e).1,(mS p a b e).2):=zzF ha.ok hb.ok hp e
theorem zb6 {p:Nat} (hp:2≤p∧p≤400) {a b:I} (ha:SI a) (hb:SI b) (e:Int):Qq (iv a) (iv b) e (p:Int)=some (iv (dS p a b e).1,(dS p a b e).2):=zzJ ha.ok hb.ok hp e
theorem zbu {p:Nat} (hp:2≤p∧p≤400) {a b:I} (ha:SI a) (hb:SI b) (e:Int):Qb (iv a) (iv b) e (p:Int)=some (iv (aS p a b e).1,(aS p a b e).2):=zo5 ha.ok hb.ok hp e
theorem zpo {a:I} (ha:SI a) (e p:Int):zbG (iv a) e p=some (iv (nS a e).1,(nS a e).2):=zsZ ha.ok e p
theorem Zg {n:Int} (hn : -1000000≤n∧n≤1000000) (e p:Int):qI n e p=some (iv (iS n e).1,(iS n e).2):=zzv wa e p
theorem zam {p:Nat} (hp:2≤p∧p≤400) {a b:I} (ha:SI a) (hb:SI b) (e:Int):ZE (iv a) (iv b) (p:Int) e=some (iv (mS p a b e).1,(mS p a b e).2):=zAC ha.ok hb.ok hp e
theorem zc2 {p:Nat} (hp:2≤p∧p≤400) {a b:I} (ha:SI a) (hb:SI b) (e:Int):QN (iv a) (iv b) (p:Int) e=some (iv (dS p a b e).1,(dS p a b e).2):=zAE ha.ok hb.ok ha.l hb.l hp e
theorem zb7 {p:Nat} (hp:2≤p∧p≤400) {a b:I} (ha:SI a) (hb:SI b) (e:Int):Zs (iv a) (iv b) (p:Int) e=some (iv (aS p a b e).1,(aS p a b e).2):=ztu ha.ok hb.ok hp e
theorem zAL {a:I} (ha:SI a) (e p:Int):zd7 (iv a) p e=some (iv (nS a e).1,(nS a e).2):=ztv ha.ok e p
theorem Zm {n:Int} (hn : -1000000≤n∧n≤1000000) (e p:Int):qN n p e=some (iv (iS n e).1,(iS n e).2):=zAy wa e p
def qX (p:Nat) (next:Nat→I→Int→I × I × Int):Nat→Nat→I→I→Int→I × Int
 | 0,_,s,_,e=>(s,e)
 | k+1,i,s,t,e=>qX p next k (i+1) (aS p s (next (i+1) t e).2.1 (next (i+1) t e).2.2).1 (next (i+1) t e).1 (aS p s (next (i+1) t e).2.1 (next (i+1) t e).2.2).2
def qH (p:Nat) (r:I × Int):I × Int:=wS p r.1 ⟨1,-(p:Int)⟩ r.2
def Qx (p:Nat) (y:I) (i:Nat) (t:I) (e:Int):I × I × Int:=((dS p (mS p t y e).1 (iS i (mS p t y e).2).1 (iS i (mS p t y e).2).2).1,(dS p (mS p t y e).1 (iS i (mS p t y e).2).1 (iS i (mS p t y e).2).2).1,(dS p (mS p t y e).1 (iS i (mS p t y e).2).1 (iS i (mS p t y e).2).2).2)
def ziX (p:Nat) (i:Nat) (g:I × Int):I × I × Int:=(g.1,(dS p g.1 (iS ((2*i+1:Nat):Int) g.2).1 (iS ((2*i+1:Nat):Int) g.2).2).1,(dS p g.1 (iS ((2*i+1:Nat):Int) g.2).1 (iS ((2*i+1:Nat):Int) g.2).2).2)
def Qy (p:Nat) (q:I) (i:Nat) (t:I) (e:Int):I × I × Int:=ziX p i (nS (mS p t q e).1 (mS p t q e).2)
def Z2 (p:Nat) (q:I) (i:Nat) (t:I) (e:Int):I × I × Int:=ziX p i (mS p t q e)
theorem zpp {i:Nat} (h:i≤300):2*i*(2*i+1)≤1000000∧(2*i-1)*2*i≤1000000:=by
 have h1:2*i*(2*i+1)≤600*601:=Nat.mul_le_mul wa wa
 have h2:(2*i-1)*2*i≤1200*300:=Nat.mul_le_mul wa wa
 omega
theorem zpq {p:Nat} (hp:p≤400) (y:I) {i:Nat} (hi:i≤300) (t:I) (e:Int):SI (Qx p y i t e).1∧SI (Qx p y i t e).2.1:=⟨QW hp _ (zA wa _) _,QW hp _ (zA wa _) _⟩
theorem zpr {p:Nat} (hp:p≤400) (y:I) {i:Nat} (hi:i≤300) (t:I) (e:Int):SI (Qy p y i t e).1∧SI (Qy p y i t e).2.1:=⟨ziW (qd hp _ _ _) _,QW hp _ (zA wa _) _⟩
theorem zps {p:Nat} (hp:p≤400) (y:I) {i:Nat} (hi:i≤300) (t:I) (e:Int):SI (Z2 p y i t e).1∧SI (Z2 p y i t e).2.1:=⟨qd hp _ _ _,QW hp _ (zA wa _) _⟩
theorem zX (a:I):(⟨⟨⟨(iv a).Lo.M.Neg,(iv a).Lo.M.Mag⟩,(iv a).Lo.E⟩,⟨⟨(iv a).Hi.M.Neg,(iv a).Hi.M.Mag⟩,(iv a).Hi.E⟩⟩:AI)=iv a:=rfl
theorem Qz {k:Int} (h : -60000≤k∧k≤60000):WD ⟨1,k⟩:=⟨Or.inr ⟨rfl,by simp only; omega,by simp only; omega⟩,by show blen 1≤262144; rw [show blen 1=1 by decide]; omega⟩
theorem qC (k:Int):val ⟨1,k⟩=p2 k:=by unfold val; simp
theorem zpt {p:Nat} (hp:p≤400) {r:I × Int} (h:SI r.1):SI (qH p r).1:=qV (zmd h (by rw [qC]; exact Rat.le_of_lt (zb _)) hp) _
theorem zpu {p:Nat} (hp:2≤p∧p≤400) {a:I} (ha:SI a) (e:Int):zbK (iv a) (dy ⟨1,-(p:Int)⟩) e (p:Int)=some (iv (qH p (a,e)).1,(qH p (a,e)).2):=
 zs4 ha.ok (Qz wa) (by rw [qC]; exact Rat.le_of_lt (zb _)) hp e
theorem zAM {p:Nat} (hp:2≤p∧p≤400) {a:I} (ha:SI a) (e:Int):zec (iv a) (dy ⟨1,-(p:Int)⟩) (p:Int) e=some (iv (qH p (a,e)).1,(qH p (a,e)).2):=
 ztw ha.ok (Qz wa) (by rw [qC]; exact Rat.le_of_lt (zb _)) hp e
theorem zpv {p:Nat} (hp:p≤400):Q6 (i64.wrap (0-(p:Int)))=some (dy ⟨1,-(p:Int)⟩):=by
 rw [w64 wa wa,show 0-(p:Int) = -(p:Int) by omega,zgi wa]
theorem zAO {p:Nat} (hp:p≤400):zbb (i64.wrap (0-(p:Int)))=some (dy ⟨1,-(p:Int)⟩):=by
 rw [w64 wa wa,show 0-(p:Int) = -(p:Int) by omega,ziS wa]
theorem zpw {p:Nat} (hp:2≤p∧p≤400) {a:I} (ha:SI a) (e:Int):zed (iv a) (p:Int) e=some (iv (qH p (a,e)).1,(qH p (a,e)).2):=by
 unfold zed
 rw [zAO hp.2]
 simp only [obn]
 rw [zAM hp ha]
 rfl
theorem zpx {p:Nat} (hp:p≤400):zdX (p:Int)=some ((p / 2+4:Nat):Int):=by
 unfold zdX
 have h1:mx (p:Int) 0=(p:Int):=by unfold mx; split<;>omega
 have h2:mn (p:Int) 400=(p:Int):=by unfold mn; split<;>omega
 rw [h1,h2,show (2:Int)=((2:Nat):Int) by rfl,zga,zW wa,w64 wa wa]
 rfl
theorem zgx {p:Nat} (hp:p≤400):zeb (p:Int)=some ((p / 2+4:Nat):Int):=by
 unfold zeb
 have h1:mx (p:Int) 0=(p:Int):=by unfold mx; split<;>omega
 have h2:mn (p:Int) 400=(p:Int):=by unfold mn; split<;>omega
 rw [h1,h2,show (2:Int)=((2:Nat):Int) by rfl,zga,zW wa,w64 wa wa]
 rfl
theorem zme {i:Nat} (h:i≤300):i64.wrap (i64.wrap (2*(i:Int))+1)=((2*i+1:Nat):Int):=by
 rw [w64 (x:=2*(i:Int)) wa wa,w64 wa wa]; omega
theorem zAP {p:Nat} (hp:2≤p∧p≤400) {q t:I} (hq:SI q) (ht:SI t) {i:Nat} (hi:i≤300) (h0:1≤i) (e:Int):zhN (i:Int) (iv t) e (p:Int) (iv q).Lo.M.Neg (iv q).Lo.M.Mag (iv q).Lo.E (iv q).Hi.M.Neg (iv q).Hi.M.Mag (iv q).Hi.E=some (iv (Qx p q i t e).1,iv (Qx p q i t e).2.1,(Qx p q i t e).2.2):=by
 unfold zhN zkE
 rw [zX,zal hp ht hq]
 simp only [obn]
 rw [Zg wa]
 simp only [obn]
 rw [zb6 hp (qd hp.2 _ _ _) (zA wa _)]
 rfl
theorem zAQ {p:Nat} (hp:2≤p∧p≤400) {q t:I} (hq:SI q) (ht:SI t) {i:Nat} (hi:i≤300) (h0:1≤i) (e:Int):zhJ (i:Int) (iv t) e (p:Int) (iv q).Lo.M.Neg (iv q).Lo.M.Mag (iv q).Lo.E (iv q).Hi.M.Neg (iv q).Hi.M.Mag (iv q).Hi.E=some (iv (Qy p q i t e).1,iv (Qy p q i t e).2.1,(Qy p q i t e).2.2):=by
 unfold zhJ
 rw [zX,zme hi,zal hp ht hq]
 simp only [obn]
 rw [zpo (qd hp.2 _ _ _)]
 simp only [obn]
 rw [Zg wa]
 simp only [obn]
 rw [zb6 hp (ziW (qd hp.2 _ _ _) _) (zA wa _)]
 rfl
theorem zAR {p:Nat} (hp:2≤p∧p≤400) {q t:I} (hq:SI q) (ht:SI t) {i:Nat} (hi:i≤300) (h0:1≤i) (e:Int):zhG (i:Int) (iv t) e (p:Int) (iv q).Lo.M.Neg (iv q).Lo.M.Mag (iv q).Lo.E (iv q).Hi.M.Neg (iv q).Hi.M.Mag (iv q).Hi.E=some (iv (Z2 p q i t e).1,iv (Z2 p q i t e).2.1,(Z2 p q i t e).2.2):=by
 unfold zhG zkr
 rw [zX,zme hi,zal hp ht hq]
 simp only [obn]
 rw [Zg wa]
 simp only [obn]
 rw [zb6 hp (qd hp.2 _ _ _) (zA wa _)]
 rfl
theorem zAS {p:Nat} (hp:2≤p∧p≤400) {q:I} (hq:SI q):∀ (r i:Nat) (s t:I) (e:Int),i+r=p / 2+4→SI s→SI t→∀ f,r<f→zfs ((p / 2+4:Nat):Int) (p:Int) (iv q).Lo.M.Neg (iv q).Lo.M.Mag (iv q).Lo.E (iv q).Hi.M.Neg (iv q).Hi.M.Mag (iv q).Hi.E f (i:Int) e (iv s).Lo.M.Neg (iv s).Lo.M.Mag (iv s).Lo.E (iv s).Hi.M.Neg (iv s).Hi.M.Mag (iv s).Hi.E (iv t).Lo.M.Neg (iv t).Lo.M.Mag (iv t).Lo.E (iv t).Hi.M.Neg (iv t).Hi.M.Mag (iv t).Hi.E=some (iv (qH p (qX p (Qx p q) r i s t e)).1,(qH p (qX p (Qx p q) r i s t e)).2):=by
 intro r
 induction r with
 | zero=>
  intro i s t e hi hs ht f hf
  obtain ⟨f,rfl⟩:∃ k,f=k+1:=⟨f-1,wa⟩
  rw [zfs,we wa]
  unfold zrK ZT
  simp only [obn]
  rw [zpv hp.2]
  simp only [obn]
  rw [zX,zpu hp hs]
  rfl
 | succ r ih=>
  intro i s t e hi hs ht f hf
  obtain ⟨f,rfl⟩:∃ k,f=k+1:=⟨f-1,wa⟩
  have hn:=zpq hp.2 q (i:=i+1) wa t e
  rw [zfs,wc wa,show ((i:Int)+1)=((i+1:Nat):Int) by omega,zW wa,zX,zX,zAP hp hq ht wa wa]
  simp only [obn]
  rw [zbu hp hs hn.2]
  simp only [obn]
  exact ih (i+1) _ _ _ wa (ql hp.2 hs hn.2 _) hn.1 f wa
theorem zAT {p:Nat} (hp:2≤p∧p≤400) {q:I} (hq:SI q):∀ (r i:Nat) (s t:I) (e:Int),i+r=p / 2+4→SI s→SI t→∀ f,r<f→zfm ((p / 2+4:Nat):Int) (p:Int) (iv q).Lo.M.Neg (iv q).Lo.M.Mag (iv q).Lo.E (iv q).Hi.M.Neg (iv q).Hi.M.Mag (iv q).Hi.E f (i:Int) e (iv s).Lo.M.Neg (iv s).Lo.M.Mag (iv s).Lo.E (iv s).Hi.M.Neg (iv s).Hi.M.Mag (iv s).Hi.E (iv t).Lo.M.Neg (iv t).Lo.M.Mag (iv t).Lo.E (iv t).Hi.M.Neg (iv t).Hi.M.Mag (iv t).Hi.E=some (iv (qH p (qX p (Qy p q) r i s t e)).1,(qH p (qX p (Qy p q) r i s t e)).2):=by
 intro r
 induction r with
 | zero=>
  intro i s t e hi hs ht f hf
  obtain ⟨f,rfl⟩:∃ k,f=k+1:=⟨f-1,wa⟩
  rw [zfm,we wa]
  unfold zrI ZT
  simp only [obn]
  rw [zpv hp.2]
  simp only [obn]
  rw [zX,zpu hp hs]
  rfl
 | succ r ih=>
  intro i s t e hi hs ht f hf
  obtain ⟨f,rfl⟩:∃ k,f=k+1:=⟨f-1,wa⟩
  have hn:=zpr hp.2 q (i:=i+1) wa t e
  rw [zfm,wc wa,show ((i:Int)+1)=((i+1:Nat):Int) by omega,zW wa,zX,zX,zAQ hp hq ht wa wa]
  simp only [obn]
  rw [zbu hp hs hn.2]
  simp only [obn]
  exact ih (i+1) _ _ _ wa (ql hp.2 hs hn.2 _) hn.1 f wa
theorem zAU {p:Nat} (hp:2≤p∧p≤400) {q:I} (hq:SI q):∀ (r i:Nat) (s t:I) (e:Int),i+r=p / 2+4→SI s→SI t→∀ f,r<f→zfh ((p / 2+4:Nat):Int) (p:Int) (iv q).Lo.M.Neg (iv q).Lo.M.Mag (iv q).Lo.E (iv q).Hi.M.Neg (iv q).Hi.M.Mag (iv q).Hi.E f (i:Int) e (iv s).Lo.M.Neg (iv s).Lo.M.Mag (iv s).Lo.E (iv s).Hi.M.Neg (iv s).Hi.M.Mag (iv s).Hi.E (iv t).Lo.M.Neg (iv t).Lo.M.Mag (iv t).Lo.E (iv t).Hi.M.Neg (iv t).Hi.M.Mag (iv t).Hi.E=some (iv (qH p (qX p (Z2 p q) r i s t e)).1,(qH p (qX p (Z2 p q) r i s t e)).2):=by
 intro r
 induction r with
 | zero=>
  intro i s t e hi hs ht f hf
  obtain ⟨f,rfl⟩:∃ k,f=k+1:=⟨f-1,wa⟩
  rw [zfh,we wa]
  unfold zrH ZT
  simp only [obn]
  rw [zpv hp.2]
  simp only [obn]
  rw [zX,zpu hp hs]
  rfl
 | succ r ih=>
  intro i s t e hi hs ht f hf
  obtain ⟨f,rfl⟩:∃ k,f=k+1:=⟨f-1,wa⟩
  have hn:=zps hp.2 q (i:=i+1) wa t e
  rw [zfh,wc wa,show ((i:Int)+1)=((i+1:Nat):Int) by omega,zW wa,zX,zX,zAR hp hq ht wa wa]
  simp only [obn]
  rw [zbu hp hs hn.2]
  simp only [obn]
  exact ih (i+1) _ _ _ wa (ql hp.2 hs hn.2 _) hn.1 f wa
theorem zAV {p:Nat} (hp:2≤p∧p≤400) {q:I} (hq:SI q):∀ (r i:Nat) (s t:I) (e:Int),i+r=p / 2+4→SI s→SI t→∀ f,r<f→zfW (p:Int) (iv q) f ((i+1:Nat):Int) e (iv s).Lo.M.Neg (iv s).Lo.M.Mag (iv s).Lo.E (iv s).Hi.M.Neg (iv s).Hi.M.Mag (iv s).Hi.E (iv t).Lo.M.Neg (iv t).Lo.M.Mag (iv t).Lo.E (iv t).Hi.M.Neg (iv t).Hi.M.Mag (iv t).Hi.E=some (iv (qH p (qX p (Qx p q) r i s t e)).1,(qH p (qX p (Qx p q) r i s t e)).2):=by
 intro r
 induction r with
 | zero=>
  intro i s t e hi hs ht f hf
  obtain ⟨f,rfl⟩:∃ k,f=k+1:=⟨f-1,wa⟩
  rw [zfW,zgx hp.2]
  simp only [obn]
  rw [we wa]
  unfold zrQ
  rw [zX,zpw hp hs]
  rfl
 | succ r ih=>
  intro i s t e hi hs ht f hf
  obtain ⟨f,rfl⟩:∃ k,f=k+1:=⟨f-1,wa⟩
  have hsq:=zpp (i:=i+1) wa
  have hn:=zpq hp.2 q (i:=i+1) wa t e
  rw [zfW,zgx hp.2]
  simp only [obn]
  rw [wc wa]
  rw [zX,zam hp ht hq]
  simp only [obn]
  rw [Zm wa]
  simp only [obn]
  rw [zc2 hp (qd hp.2 _ _ _) (zA wa _)]
  simp only [obn]
  have ha:Zs (iv s) (iv (Qx p q (i+1) t e).2.1) (p:Int) (Qx p q (i+1) t e).2.2=_:=zb7 hp hs hn.2 _
  refine Eq.trans (congrArg (fun o=>Option.bind o _) ha) ?_
  simp only [obn]
  rw [show (((i+1:Nat):Int)+1)=((i+1+1:Nat):Int) by omega,zW wa]
  exact ih (i+1) _ _ _ wa (ql hp.2 hs hn.2 _) hn.1 f wa
theorem zAW {p:Nat} (hp:2≤p∧p≤400) {q:I} (hq:SI q) (e0:Int):∀ (r i:Nat) (s t:I) (e:Int),i+r=p / 2+4→SI s→SI t→∀ f,r<f→zfQ (p:Int) (iv q,e0) f ((i+1:Nat):Int) e (iv s).Lo.M.Neg (iv s).Lo.M.Mag (iv s).Lo.E (iv s).Hi.M.Neg (iv s).Hi.M.Mag (iv s).Hi.E (iv t).Lo.M.Neg (iv t).Lo.M.Mag (iv t).Lo.E (iv t).Hi.M.Neg (iv t).Hi.M.Mag (iv t).Hi.E=some (iv (qH p (qX p (Qy p q) r i s t e)).1,(qH p (qX p (Qy p q) r i s t e)).2):=by
 intro r
 induction r with
 | zero=>
  intro i s t e hi hs ht f hf
  obtain ⟨f,rfl⟩:∃ k,f=k+1:=⟨f-1,wa⟩
  rw [zfQ,zgx hp.2]
  simp only [obn]
  rw [we wa]
  unfold zrN
  rw [zX,zpw hp hs]
  rfl
 | succ r ih=>
  intro i s t e hi hs ht f hf
  obtain ⟨f,rfl⟩:∃ k,f=k+1:=⟨f-1,wa⟩
  have hsq:=zpp (i:=i+1) wa
  have hn:=zpr hp.2 q (i:=i+1) wa t e
  rw [zfQ,zgx hp.2]
  simp only [obn]
  rw [wc wa]
  rw [zX,zme wa,zam hp ht hq]
  simp only [obn]
  rw [zAL (qd hp.2 _ _ _)]
  simp only [obn]
  rw [Zm wa]
  simp only [obn]
  rw [zc2 hp (ziW (qd hp.2 _ _ _) _) (zA wa _)]
  simp only [obn]
  have ha:Zs (iv s) (iv (Qy p q (i+1) t e).2.1) (p:Int) (Qy p q (i+1) t e).2.2=_:=zb7 hp hs hn.2 _
  refine Eq.trans (congrArg (fun o=>Option.bind o _) ha) ?_
  simp only [obn]
  rw [show (((i+1:Nat):Int)+1)=((i+1+1:Nat):Int) by omega,zW wa]
  exact ih (i+1) _ _ _ wa (ql hp.2 hs hn.2 _) hn.1 f wa
theorem zAX {p:Nat} (hp:2≤p∧p≤400) {q:I} (hq:SI q) (e0:Int):∀ (r i:Nat) (s t:I) (e:Int),i+r=p / 2+4→SI s→SI t→∀ f,r<f→zfO (p:Int) (iv q,e0) f ((i+1:Nat):Int) e (iv s).Lo.M.Neg (iv s).Lo.M.Mag (iv s).Lo.E (iv s).Hi.M.Neg (iv s).Hi.M.Mag (iv s).Hi.E (iv t).Lo.M.Neg (iv t).Lo.M.Mag (iv t).Lo.E (iv t).Hi.M.Neg (iv t).Hi.M.Mag (iv t).Hi.E=some (iv (qH p (qX p (Z2 p q) r i s t e)).1,(qH p (qX p (Z2 p q) r i s t e)).2):=by
 intro r
 induction r with
 | zero=>
  intro i s t e hi hs ht f hf
  obtain ⟨f,rfl⟩:∃ k,f=k+1:=⟨f-1,wa⟩
  rw [zfO,zgx hp.2]
  simp only [obn]
  rw [we wa]
  unfold zrM
  rw [zX,zpw hp hs]
  rfl
 | succ r ih=>
  intro i s t e hi hs ht f hf
  obtain ⟨f,rfl⟩:∃ k,f=k+1:=⟨f-1,wa⟩
  have hsq:=zpp (i:=i+1) wa
  have hn:=zps hp.2 q (i:=i+1) wa t e
  rw [zfO,zgx hp.2]
  simp only [obn]
  rw [wc wa]
  rw [zX,zme wa,zam hp ht hq]
  simp only [obn]
  rw [Zm wa]
  simp only [obn]
  rw [zc2 hp (qd hp.2 _ _ _) (zA wa _)]
  simp only [obn]
  have ha:Zs (iv s) (iv (Z2 p q (i+1) t e).2.1) (p:Int) (Z2 p q (i+1) t e).2.2=_:=zb7 hp hs hn.2 _
  refine Eq.trans (congrArg (fun o=>Option.bind o _) ha) ?_
  simp only [obn]
  rw [show (((i+1:Nat):Int)+1)=((i+1+1:Nat):Int) by omega,zW wa]
  exact ih (i+1) _ _ _ wa (ql hp.2 hs hn.2 _) hn.1 f wa
def box (k:Int):I:=⟨negD ⟨1,k⟩,⟨1,k⟩⟩
theorem ztL {k:Int} (h : -60000≤k∧k≤60000):okI (box k):=by
 refine ⟨(Qz h).neg,Qz h,?_⟩
 show val (negD ⟨1,k⟩)≤val ⟨1,k⟩
 rw [qK,qC]
 have:=zb k
 grind
theorem zAY:hasI (intI 0) zD=true:=by decide +kernel
theorem zpy {p:Nat} (hp:2≤p∧p≤400) {y:I} (hy:SI y) {k:Int} (hk : -60000≤k∧k≤60000) (e:Int):zdW (iv y) k e (p:Int)=some (if e=0 then (if inI y (box k)=true then (true,0) else (false,3)) else (false,e)):=by
 unfold zdW Qp
 rw [zgi hk]
 simp only [obn]
 rw [zpo hy]
 simp only [obn]
 by_cases h:e=0
 ·subst h
  have hn:(nS y 0).2=0:=rfl
  rw [hn,we wb,wc rfl,ziz (Qz hk)]
  simp only [obn]
  have hb:zfg (iv y) (iv (box k))=some (inI y (box k)):=zzu hy.ok (ztL hk)
  refine Eq.trans (congrArg (fun o=>Option.bind o _) hb) ?_
  simp only [obn]
  by_cases h1:inI y (box k)=true
  ·rw [wc h1,wc h1]
  ·rw [we h1,we h1,Zg wa]
   simp only [obn]
   have i1:(iS 1 0).2=0:=rfl
   rw [i1,Zg wa]
   simp only [obn]
   rw [zb6 hp (zA wa _) (zA wa _)]
   simp only [obn]
   have hd:dS p (iS 1 0).1 (iS 0 0).1 (iS 0 0).2=(zI,3):=by
    show st 0 zI (Z0 p (intI 1) (intI 0))=_
    rw [zd,zz5 zAY]
   rw [hd]
 ·have hn:(nS y e).2=e:=by unfold nS; rw [zu h]
  rw [hn,wc h,we h]
theorem zpz {p:Nat} {y:I} (hy:SI y) {k:Int} (hk : -60000≤k∧k≤60000) (e:Int):zea (iv y) k (p:Int) e=some (if e=0 then (if inI y (box k)=true then (true,0) else (false,3)) else (false,e)):=by
 unfold zea
 by_cases h:e=0
 ·subst h
  rw [we wb,wc rfl,zcX hy.ok]
  simp only [obn]
  rw [we wb,ziS hk]
  simp only [obn]
  rw [zl6 (Qz hk)]
  simp only [obn]
  have hb:zfN (iv y) (iv (box k))=some (inI y (box k)):=zAx hy.ok (ztL hk)
  refine Eq.trans (congrArg (fun o=>Option.bind o _) hb) ?_
  simp only [obn]
  by_cases h1:inI y (box k)=true
  ·rw [we (by simp [h1]),wc h1]
  ·rw [wc h1,we h1]
 ·rw [wc h,we h]
theorem zpA {p:Nat} (hp:p≤400) (next:Nat→I→Int→I × I × Int) (hn:∀ (i:Nat) (t:I) (e:Int),i≤300→SI (next i t e).1∧SI (next i t e).2.1):∀ (k i:Nat) (s t:I) (e:Int),i+k≤300→SI s→SI (qX p next k i s t e).1:=by
 intro k
 induction k with
 | zero=>intro i s t e _ hs; exact hs
 | succ k ih=>
  intro i s t e hi hs
  exact ih (i+1) _ _ _ wa (ql hp hs (hn (i+1) t e wa).2 _)
def zan (p:Nat) (y:I):I × Int:=if inI y (box (-3))=true then qH p (qX p (Qx p y) (p / 2+4) 0 (intI 1) (intI 1) 0) else (zI,3)
def QX (p:Nat) (y:I):I × Int:=if inI y (box (-1))=true then qH p (qX p (Qy p (mS p y y 0).1) (p / 2+4) 0 y y (mS p y y 0).2) else (zI,3)
def QY (p:Nat) (y:I):I × Int:=if inI y (box (-1))=true then qH p (qX p (Z2 p (mS p y y 0).1) (p / 2+4) 0 y y (mS p y y 0).2) else (zI,3)
theorem zpB (n e:Int):(iS n e).2=e:=by unfold iS st; split<;>simp [*]
theorem zpC (n:Int):(iS n 0).1=intI n:=rfl
theorem zAZ {p:Nat} (hp:2≤p∧p≤400) {y:I} (hy:SI y) (e:Int):zhO (iv y) e (p:Int)=some (iv (st e zI (zan p y)).1,(st e zI (zan p y)).2):=by
 unfold zhO zkG zkF ZT
 rw [zpy hp hy wa]
 simp only [obn]
 by_cases h:e=0
 ·subst h
  rw [wc rfl,zd]
  unfold zan
  by_cases h1:inI y (box (-3))=true
  ·rw [wc h1,wc h1,we wb]
   rw [Zg wa]
   simp only [obn]
   rw [zpC,zpB,zpx hp.2]
   simp only [obn]
   have hl:=zAS hp hy (p / 2+4) 0 (intI 1) (intI 1) 0 wa (zA (n:=1) wa 0) (zA (n:=1) wa 0) fuel (by unfold fuel; omega)
   refine Eq.trans (congrArg (fun o=>Option.bind o _) (congrArg (fun o=>Option.bind o _) hl)) ?_
   rfl
  ·rw [we h1,we h1,wc wb,zw]
 ·rw [we h,wc wb,zu h,zw]
theorem zA0 {p:Nat} (hp:2≤p∧p≤400) {y:I} (hy:SI y) (e:Int):zih (iv y) (p:Int) e=some (iv (st e zI (zan p y)).1,(st e zI (zan p y)).2):=by
 unfold zih
 rw [zpz hy wa]
 simp only [obn]
 by_cases h:e=0
 ·subst h
  rw [wc rfl,zd]
  unfold zan
  by_cases h1:inI y (box (-3))=true
  ·rw [wc h1,wc h1,we wb]
   rw [Zm wa]
   simp only [obn]
   rw [Zm wa]
   simp only [obn]
   rw [zpB,zpB,zpC]
   exact zAV hp hy (p / 2+4) 0 (intI 1) (intI 1) 0 wa (zA (n:=1) wa 0) (zA (n:=1) wa 0) fuel (by unfold fuel; omega)
  ·rw [we h1,we h1,wc wb,zw]
 ·rw [we h,wc wb,zu h,zw]
theorem ztM {p:Nat} (hp:2≤p∧p≤400) {y:I} (hy:SI y) (e:Int):zcA (iv y) e (p:Int)=some (iv (st e zI (QX p y)).1,(st e zI (QX p y)).2):=by
 unfold zcA zkB zkA ZT
 rw [zpy hp hy wa]
 simp only [obn]
 by_cases h:e=0
 ·subst h
  rw [wc rfl,zd]
  unfold QX
  by_cases h1:inI y (box (-1))=true
  ·rw [wc h1,wc h1,we wb]
   rw [zal hp hy hy]
   simp only [obn]
   rw [zpx hp.2]
   simp only [obn]
   have hl:=zAT hp (qd hp.2 y y 0) (p / 2+4) 0 y y (mS p y y 0).2 wa hy hy fuel (by unfold fuel; omega)
   refine Eq.trans (congrArg (fun o=>Option.bind o _) (congrArg (fun o=>Option.bind o _) hl)) ?_
   rfl
  ·rw [we h1,we h1,wc wb,zw]
   rfl
 ·rw [we h,wc wb,zu h,zw]
  rfl
theorem zA1 {p:Nat} (hp:2≤p∧p≤400) {y:I} (hy:SI y) (e:Int):zeh (iv y) (p:Int) e=some (iv (st e zI (QX p y)).1,(st e zI (QX p y)).2):=by
 unfold zeh
 rw [zpz hy wa]
 simp only [obn]
 by_cases h:e=0
 ·subst h
  rw [wc rfl,zd]
  unfold QX
  by_cases h1:inI y (box (-1))=true
  ·rw [wc h1,wc h1,we wb]
   rw [zam hp hy hy]
   simp only [obn]
   exact zAW hp (qd hp.2 y y 0) _ (p / 2+4) 0 y y (mS p y y 0).2 wa hy hy fuel (by unfold fuel; omega)
  ·rw [we h1,we h1,wc wb,zw]
 ·rw [we h,wc wb,zu h,zw]
theorem ztN {p:Nat} (hp:2≤p∧p≤400) {y:I} (hy:SI y) (e:Int):zdY (iv y) e (p:Int)=some (iv (st e zI (QY p y)).1,(st e zI (QY p y)).2):=by
 unfold zdY zkt zks ZT
 rw [zpy hp hy wa]
 simp only [obn]
 by_cases h:e=0
 ·subst h
  rw [wc rfl,zd]
  unfold QY
  by_cases h1:inI y (box (-1))=true
  ·rw [wc h1,wc h1,we wb]
   rw [zal hp hy hy]
   simp only [obn]
   rw [zpx hp.2]
   simp only [obn]
   have hl:=zAU hp (qd hp.2 y y 0) (p / 2+4) 0 y y (mS p y y 0).2 wa hy hy fuel (by unfold fuel; omega)
   refine Eq.trans (congrArg (fun o=>Option.bind o _) (congrArg (fun o=>Option.bind o _) hl)) ?_
   rfl
  ·rw [we h1,we h1,wc wb,zw]
   rfl
 ·rw [we h,wc wb,zu h,zw]
  rfl
theorem ztO {p:Nat} (hp:2≤p∧p≤400) {y:I} (hy:SI y) (e:Int):zee (iv y) (p:Int) e=some (iv (st e zI (QY p y)).1,(st e zI (QY p y)).2):=by
 unfold zee
 rw [zpz hy wa]
 simp only [obn]
 by_cases h:e=0
 ·subst h
  rw [wc rfl,zd]
  unfold QY
  by_cases h1:inI y (box (-1))=true
  ·rw [wc h1,wc h1,we wb]
   rw [zam hp hy hy]
   simp only [obn]
   exact zAX hp (qd hp.2 y y 0) _ (p / 2+4) 0 y y (mS p y y 0).2 wa hy hy fuel (by unfold fuel; omega)
  ·rw [we h1,we h1,wc wb,zw]
 ·rw [we h,wc wb,zu h,zw]
theorem zpD {p:Nat} (hp:p≤400) {y:I} : SI (zan p y).1:=by
 unfold zan; split
 ·exact zpt hp (zpA hp _ (fun i t e hi=>zpq hp y hi t e) _ _ _ _ _ wa (ziV wa))
 ·exact zO
theorem zA2 {p:Nat} (hp:p≤400) {y:I} (hy:SI y):SI (QX p y).1:=by
 unfold QX; split
 ·exact zpt hp (zpA hp _ (fun i t e hi=>zpr hp _ hi t e) _ _ _ _ _ wa hy)
 ·exact zO
theorem zmf {p:Nat} (hp:p≤400) {y:I} (hy:SI y):SI (QY p y).1:=by
 unfold QY; split
 ·exact zpt hp (zpA hp _ (fun i t e hi=>zps hp _ hi t e) _ _ _ _ _ wa hy)
 ·exact zO
theorem ztP {x:D} {n:Int} (h:(qz x n).2=0):val (qz x n).1=val x*p2 n∧blen (qz x n).1.m.natAbs≤blen x.m.natAbs:=by
 unfold qz at *
 by_cases h0:x.m=0
 ·rw [wc h0]; exact ⟨by rw [qT,QT h0,Rat.zero_mul],by show blen (0:Int).natAbs≤_; simp [blen]⟩
 ·rw [we h0] at h ⊢
  rw [zc0 h]
  exact ⟨zth,Nat.le_refl _⟩
theorem ztQ {a:I} (ha:SI a) (n:Int):SI (Qu a n).1:=by
 unfold Qu
 by_cases h1:(qz a.lo n).2=0
 ·rw [ze h1]
  by_cases h2:(qz a.hi n).2=0
  ·rw [ze h2]
   obtain ⟨v1,b1⟩:=ztP h1
   obtain ⟨v2,b2⟩:=ztP h2
   have:=ha.lo
   have:=ha.hi
   refine ⟨⟨zsF ha.ok.1 n,zsF ha.ok.2.1 n,?_⟩,by show blen (qz a.lo n).1.m.natAbs≤1000; omega,by show blen (qz a.hi n).1.m.natAbs≤1000; omega⟩
   show val (qz a.lo n).1≤val (qz a.hi n).1
   rw [v1,v2]
   exact Rat.mul_le_mul_of_nonneg_right ha.ok.2.2 (Rat.le_of_lt (zb n))
  ·rw [zg h2]; exact zO
 ·rw [zg h1]; exact zO
def scS (a:I) (n:Int) (e:Int):I × Int:=st e zI (Qu a n)
def suS (p:Nat) (a b:I) (e:Int):I × Int:=st e zI (zep p a b)
def sqS (p:Nat) (a:I) (e:Int):I × Int:=st e zI (zzy p a)
def atS (p:Nat) (a:I) (e:Int):I × Int:=st e zI (QX p a)
def ahS (p:Nat) (a:I) (e:Int):I × Int:=st e zI (QY p a)
def zJ (p:Nat) (n:Int) (e:Int):I × Int:=dS p (iS 1 e).1 (iS n (iS 1 e).2).1 (iS n (iS 1 e).2).2
def zi (p:Nat) (n:Int) (e:Int):I × Int:=atS p (zJ p n e).1 (zJ p n e).2
def piS (p:Nat) (e:Int):I × Int:=
 suS p (scS (zi p 5 e).1 4 (zi p 239 (zi p 5 e).2).2).1 (scS (zi p 239 (zi p 5 e).2).1 2 (scS (zi p 5 e).1 4 (zi p 239 (zi p 5 e).2).2).2).1 (scS (zi p 239 (zi p 5 e).2).1 2 (scS (zi p 5 e).1 4 (zi p 239 (zi p 5 e).2).2).2).2
def zc3 (p:Nat) (e:Int):I × Int:=scS (ahS p (zJ p 3 e).1 (zJ p 3 e).2).1 1 (ahS p (zJ p 3 e).1 (zJ p 3 e).2).2
def zA3 (p:Nat) (e:Int):I × Int:=sqS p (piS p e).1 (piS p e).2
theorem zb8 {p:Nat} (hp:p≤400) {n:Int} (hn : -1000000≤n∧n≤1000000) (e:Int):SI (zJ p n e).1:=QW hp _ (zA hn _) _
theorem zbv {p:Nat} (hp:p≤400) {n:Int} (hn : -1000000≤n∧n≤1000000) (e:Int):SI (zi p n e).1:=qV (zA2 hp (zb8 hp hn e)) _
theorem Zn {a:I} (ha:SI a) (n e:Int):SI (scS a n e).1:=qV (ztQ ha n) e
theorem ziY {p:Nat} (hp:p≤400) (e:Int):SI (piS p e).1:=qV (ztI (Zn (zbv hp wa _) _ _) (Zn (zbv hp wa _) _ _) hp) _
theorem ztR {p:Nat} (hp:p≤400) (e:Int):SI (zc3 p e).1:=Zn (qV (zmf hp (zb8 hp wa e)) _) _ _
theorem zet {a:I} (ha:SI a) {n:Int} (hn : -100000≤n∧n≤100000) (e p:Int):ZC (iv a) n e p=some (iv (scS a n e).1,(scS a n e).2):=zzz ha.ok hn e p
theorem zeu {a:I} (ha:SI a) {n:Int} (hn : -100000≤n∧n≤100000) (e p:Int):ZF (iv a) n p e=some (iv (scS a n e).1,(scS a n e).2):=zAz ha.ok hn e p
theorem zA4 {p:Nat} (hp:2≤p∧p≤400) (e:Int):zhK 5 4 239 2 e (p:Int)=some ([iv (scS (zi p 5 e).1 4 (zi p 239 (zi p 5 e).2).2).1,iv (scS (zi p 239 (zi p 5 e).2).1 2 (scS (zi p 5 e).1 4 (zi p 239 (zi p 5 e).2).2).2).1],(scS (zi p 239 (zi p 5 e).2).1 2 (scS (zi p 5 e).1 4 (zi p 239 (zi p 5 e).2).2).2).2):=by
 unfold zhK
 obtain ⟨f,hf⟩:=zai
 rw [hf]
 rw [zbN,wc wa,wc rfl,Zg wa]
 simp only [obn]
 rw [Zg wa]
 simp only [obn]
 rw [zb6 hp (zA wa _) (zA wa _)]
 simp only [obn]
 have h1:zcA (iv (zJ p 5 e).1) (zJ p 5 e).2 (p:Int)=some (iv (zi p 5 e).1,(zi p 5 e).2):=ztM hp (zb8 hp.2 wa e) _
 refine Eq.trans (congrArg (fun o=>Option.bind o _) h1) ?_
 simp only [obn]
 rw [wc wb]
 unfold zfo
 rw [wc wb,show i64.wrap (0+1)=1 by decide]
 dsimp only
 rw [zbN,wc wa,we (by decide),wc rfl,Zg wa]
 simp only [obn]
 rw [Zg wa]
 simp only [obn]
 rw [zb6 hp (zA wa _) (zA wa _)]
 simp only [obn]
 have h2:zcA (iv (zJ p 239 (zi p 5 e).2).1) (zJ p 239 (zi p 5 e).2).2 (p:Int)=some (iv (zi p 239 (zi p 5 e).2).1,(zi p 239 (zi p 5 e).2).2):=ztM hp (zb8 hp.2 wa _) _
 refine Eq.trans (congrArg (fun o=>Option.bind o _) h2) ?_
 simp only [obn]
 rw [wc wb]
 unfold zfo
 rw [wc wb,show i64.wrap (1+1)=2 by decide]
 dsimp only
 rw [zbN,we wa]
 unfold zkC
 rw [hf]
 rw [zbM,wc wa,wc rfl,wc wb,wc wb]
 have k1:=zet (zbv hp.2 (n:=5) wa e) (n:=4) wa (zi p 239 (zi p 5 e).2).2 (p:Int)
 refine Eq.trans (congrArg (fun o=>Option.bind o _) k1) ?_
 simp only [obn]
 rw [wc wb]
 unfold zfn
 rw [wc wb,show i64.wrap (0+1)=1 by decide]
 dsimp only
 rw [zbM,wc wa,we (by decide),wc rfl,wc wb,wc wb]
 have k2:=zet (zbv hp.2 (n:=239) wa (zi p 5 e).2) (n:=2) wa (scS (zi p 5 e).1 4 (zi p 239 (zi p 5 e).2).2).2 (p:Int)
 refine Eq.trans (congrArg (fun o=>Option.bind o _) k2) ?_
 simp only [obn]
 rw [wc wb]
 unfold zfn
 rw [wc wb,show i64.wrap (1+1)=2 by decide]
 dsimp only
 rw [zbM,we wa]
 rfl
theorem zA5 {p:Nat} (hp:2≤p∧p≤400) (e:Int):zhL e (p:Int)=some (iv (piS p e).1,(piS p e).2):=by
 unfold zhL
 rw [zA4 hp]
 simp only [obn]
 rw [wc wb,wc wb]
 have k:=zs0 (Zn (zbv hp.2 (n:=5) wa e) 4 (zi p 239 (zi p 5 e).2).2).ok (Zn (zbv hp.2 (n:=239) wa (zi p 5 e).2) 2 (scS (zi p 5 e).1 4 (zi p 239 (zi p 5 e).2).2).2).ok hp (scS (zi p 239 (zi p 5 e).2).1 2 (scS (zi p 5 e).1 4 (zi p 239 (zi p 5 e).2).2).2).2
 refine Eq.trans (congrArg (fun o=>Option.bind o _) k) ?_
 rfl
theorem zA6 {p:Nat} (hp:2≤p∧p≤400) (e:Int):zie (p:Int) e=some (iv (piS p e).1,(piS p e).2):=by
 have one:∀ (n:Int) (e:Int),-1000000≤n∧n≤1000000→zeh (iv (zJ p n e).1) (p:Int) (zJ p n e).2=some (iv (zi p n e).1,(zi p n e).2):=fun n e hn=>zA1 hp (zb8 hp.2 hn e) _
 unfold zie
 rw [Zm wa]
 simp only [obn]
 rw [Zm wa]
 simp only [obn]
 rw [zc2 hp (zA wa _) (zA wa _)]
 simp only [obn]
 refine Eq.trans (congrArg (fun o=>Option.bind o _) (one 5 e wa)) ?_
 simp only [obn]
 rw [Zm wa]
 simp only [obn]
 rw [Zm wa]
 simp only [obn]
 rw [zc2 hp (zA wa _) (zA wa _)]
 simp only [obn]
 refine Eq.trans (congrArg (fun o=>Option.bind o _) (one 239 _ wa)) ?_
 simp only [obn]
 rw [zeu (zbv hp.2 wa _) wa]
 simp only [obn]
 rw [zeu (zbv hp.2 wa _) wa]
 simp only [obn]
 have k:=ztx (Zn (zbv hp.2 (n:=5) wa e) 4 (zi p 239 (zi p 5 e).2).2).ok (Zn (zbv hp.2 (n:=239) wa (zi p 5 e).2) 2 (scS (zi p 5 e).1 4 (zi p 239 (zi p 5 e).2).2).2).ok hp (scS (zi p 239 (zi p 5 e).2).1 2 (scS (zi p 5 e).1 4 (zi p 239 (zi p 5 e).2).2).2).2
 refine Eq.trans (congrArg (fun o=>Option.bind o _) k) ?_
 rfl
theorem zA7 {p:Nat} (hp:2≤p∧p≤400) (e:Int):zhH e (p:Int)=some (iv (zc3 p e).1,(zc3 p e).2):=by
 unfold zhH zkw
 obtain ⟨f,hf⟩:=zai
 rw [hf]
 rw [zfj,wc wa,wc rfl,Zg wa]
 simp only [obn]
 rw [Zg wa]
 simp only [obn]
 rw [zb6 hp (zA wa _) (zA wa _)]
 simp only [obn]
 have h1:zdY (iv (zJ p 3 e).1) (zJ p 3 e).2 (p:Int)=some (iv (ahS p (zJ p 3 e).1 (zJ p 3 e).2).1,(ahS p (zJ p 3 e).1 (zJ p 3 e).2).2):=ztN hp (zb8 hp.2 wa e) _
 refine Eq.trans (congrArg (fun o=>Option.bind o _) (congrArg (fun o=>Option.bind o _) h1)) ?_
 simp only [obn]
 rw [wc wb,show i64.wrap (0+1)=1 by decide]
 rw [zfj,we wa]
 unfold zkv
 rw [hf]
 rw [zfi,wc wa,wc rfl,wc wb,wc wb]
 have k1:=zet (qV (zmf hp.2 (zb8 hp.2 (n:=3) wa e)) (zJ p 3 e).2) (n:=1) wa (ahS p (zJ p 3 e).1 (zJ p 3 e).2).2 (p:Int)
 refine Eq.trans (congrArg (fun o=>Option.bind o _) (congrArg (fun o=>Option.bind o _) k1)) ?_
 simp only [obn]
 rw [wc wb,wc wb,show i64.wrap (0+1)=1 by decide]
 rw [zfi,we wa]
 unfold zku
 simp only [obn]
 rw [wc wb]
 rfl
theorem zA8 {p:Nat} (hp:2≤p∧p≤400) (e:Int):zic (p:Int) e=some (iv (zc3 p e).1,(zc3 p e).2):=by
 unfold zic
 rw [Zm wa]
 simp only [obn]
 rw [Zm wa]
 simp only [obn]
 rw [zc2 hp (zA wa _) (zA wa _)]
 simp only [obn]
 have h1:zee (iv (zJ p 3 e).1) (p:Int) (zJ p 3 e).2=some (iv (ahS p (zJ p 3 e).1 (zJ p 3 e).2).1,(ahS p (zJ p 3 e).1 (zJ p 3 e).2).2):=ztO hp (zb8 hp.2 wa e) _
 refine Eq.trans (congrArg (fun o=>Option.bind o _) h1) ?_
 simp only [obn]
 have k1:=zeu (qV (zmf hp.2 (zb8 hp.2 (n:=3) wa e)) (zJ p 3 e).2) (n:=1) wa (ahS p (zJ p 3 e).1 (zJ p 3 e).2).2 (p:Int)
 refine Eq.trans (congrArg (fun o=>Option.bind o _) k1) ?_
 rfl
def QA (x:D) (n:Int):D × Int:=if -100000≤n∧n≤100000 then qz x n else (zD,4)
def zao (a:I) (n:Int):I × Int:=zo (QA a.lo n) zI fun lo=>zo (QA a.hi n) zI fun hi=>(⟨lo,hi⟩,0)
theorem zpE {a:I} {n:Int} (h : -100000≤n∧n≤100000):zao a n=Qu a n:=by unfold zao Qu QA; rw [wc h,wc h]
theorem zA9 {a:I} {n:Int} (h:¬(-100000≤n∧n≤100000)):zao a n=(zI,4):=by unfold zao QA; rw [we h,zg (by decide)]
theorem ztS {x:D} (hx:WD x) (n:Int):zcw (dy x) n=some (dy (QA x n).1,(QA x n).2):=by
 unfold QA
 by_cases h : -100000≤n∧n≤100000
 ·rw [wc h]; exact zoV hx h
 ·rw [we h]
  unfold zcw zhv zkh
  rw [zlC hx]
  simp only [obn,zgg,zcS,zbo]
  rw [wc True.intro,show decide (-100000≤n∧n≤100000)=false by simpa using h]
  simp only [Bool.false_eq_true,if_false,if_true]
  rw [we (by decide),zsz (by decide)]
  rfl
theorem ztT {x:D} (hx:WD x) (n:Int):zbQ (dy x) n=some (dy (QA x n).1,(QA x n).2):=by
 unfold QA
 by_cases h : -100000≤n∧n≤100000
 ·rw [wc h]; exact zl7 hx h
 ·rw [we h]
  unfold zbQ zkX
  rw [Za hx.1 hx.sz]
  simp only [obn]
  rw [we wb]
  by_cases h1:n < -100000
  ·rw [wc h1,wc True.intro,← qp]
  ·rw [we h1,show decide (n>100000)=true by simp; omega,wc rfl,← qp]
theorem zBa {a:I} (ha:okI a) (n:Int) (e p:Int):ZC (iv a) n e p=some (iv (st e zI (zao a n)).1,(st e zI (zao a n)).2):=by
 unfold ZC
 rw [ziH ha]
 simp only [obn]
 by_cases h:e=0
 ·subst h
  rw [we wb,zM,zR,zd,ztS ha.1 n]
  simp only [obn]
  rw [zb3,wc rfl]
  unfold zao
  by_cases h1:(QA a.lo n).2=0
  ·rw [ze h1,wc h1]
   simp only [obn]
   rw [we wb,ztS ha.2.1 n]
   simp only [obn]
   rw [zb3,wc rfl]
   by_cases h2:(QA a.hi n).2=0
   ·rw [ze h2,wc h2]
    simp only [obn]
    rw [qU]
    simp only [obn]
    rfl
   ·rw [zg h2,we h2]
    simp only [obn]
    rw [qU,we h2]
    simp only [obn]
  ·rw [zg h1,we h1]
   simp only [obn]
   rw [wc (by simpa using h1),zw]
 ·rw [wc (Zu h),zu h,zw]
theorem zBb {a:I} (ha:okI a) (n:Int) (e p:Int):ZF (iv a) n p e=some (iv (st e zI (zao a n)).1,(st e zI (zao a n)).2):=by
 unfold ZF
 rw [ziT ha]
 simp only [obn]
 by_cases h:e=0
 ·subst h
  rw [we wb,zM,zR,zd,ztT ha.1 n]
  simp only [obn]
  rw [zbt,wc rfl]
  simp only [obn]
  unfold zao
  by_cases h1:(QA a.lo n).2=0
  ·rw [ze h1,we (by simp [h1]),ztT ha.2.1 n]
   simp only [obn]
   rw [zbt,wc h1]
   simp only [obn]
   rw [ZK]
   simp only [obn]
   by_cases h2:(QA a.hi n).2=0
   ·rw [ze h2,wc h2,h2]
   ·rw [zg h2,we h2]
  ·rw [zg h1,wc (by simpa using h1),zw]
 ·rw [wc (Zu h),zu h,zw]
theorem zBc {a:I} (ha:SI a) (n:Int):SI (zao a n).1:=by
 by_cases h : -100000≤n∧n≤100000
 ·rw [zpE h]; exact ztQ ha n
 ·rw [zA9 h]; exact zO
def srS (a:I) (n:Int) (e:Int):I × Int:=st e zI (zao a n)
theorem ziZ {a:I} (ha:SI a) (n e:Int):SI (srS a n e).1:=qV (zBc ha n) e
theorem ztU {a:I} (ha:SI a) (n e p:Int):ZC (iv a) n e p=some (iv (srS a n e).1,(srS a n e).2):=zBa ha.ok n e p
theorem ztV {a:I} (ha:SI a) (n e p:Int):ZF (iv a) n p e=some (iv (srS a n e).1,(srS a n e).2):=zBb ha.ok n e p
def fitB (d:D) (p:Int):Bool:=decide (2≤p) && decide (p≤336) && decide (blen d.m.natAbs≤400)
theorem ztW (d:D):(dy d).M.Mag=digs d.m.natAbs:=rfl
theorem zmg {d:D} (h:SZ d.m.natAbs):ZR (dy d).M.Mag=some ((blen d.m.natAbs:Nat):Int):=by
 rw [ztW,zip (dgd _) (by have:=zx h; omega),dvd]
theorem zpF {d:D} (h:SZ d.m.natAbs):ZU (dy d).M.Mag=some ((blen d.m.natAbs:Nat):Int):=by
 rw [ztW,zgj (dgd _) (by have:=zx h; omega),dvd]
theorem zmh (x:AD):(⟨x.M,x.E⟩:AD)=x:=rfl
theorem ztX {l:List AD} {i n:Nat} (hi:l.length≤i):za8 l (n+1) (i:Int)=some true:=by
 rw [za8,we wa]; rfl
theorem zpG {l:List AD} {i n:Nat} {d:D} (hi:i<l.length) (hi':i≤1000) (he:l.getD i zAD=dy d) (hd:okD d) (hs:SZ d.m.natAbs):za8 l (n+1) (i:Int)=if blen d.m.natAbs≤400 then za8 l n ((i+1:Nat):Int) else some false:=by
 rw [za8,wc wa,wc wa,Int.toNat_natCast,he,zmh,ZX hd hs]
 simp only [obn]
 rw [we wb,zmg hs]
 simp only [obn]
 unfold znT
 by_cases h:blen d.m.natAbs≤400
 ·rw [wc h,show decide ((blen d.m.natAbs:Int)>400)=false by simp; omega,we wb,w64 wa wa]; rfl
 ·rw [we h,show decide ((blen d.m.natAbs:Int)>400)=true by simp; omega,wc rfl]
theorem ztY {l:List AD} {p:Int} {r:Bool} (h:za8 l fuel 0=some r):za9 p l=some (decide (2≤p) && decide (p≤336) && r):=by
 unfold za9 znU
 by_cases h1:p<2
 ·rw [wc h1,wc rfl,show decide (2≤p)=false by simp; omega]; rfl
 ·rw [we h1,show decide (2≤p)=true by simp; omega]
  by_cases h2:p≤336
  ·rw [show decide (p>336)=false by simp; omega,we wb,h,show decide (p≤336)=true by simp; omega]; rfl
  ·rw [show decide (p>336)=true by simp; omega,wc rfl,show decide (p≤336)=false by simp; omega]; rfl
theorem ztZ {d:D} (hd:okD d) (hs:SZ d.m.natAbs) (p:Int):za9 p [dy d]=some (fitB d p):=by
 obtain ⟨f,hf⟩:=zai
 rw [ztY (r:=decide (blen d.m.natAbs≤400))]
 ·rfl
 ·have h0:=zpG (l:=[dy d]) (i:=0) (n:=f+1+1) (d:=d) wb wa rfl hd hs
  have h1:=ztX (l:=[dy d]) (i:=1) (n:=f+1) wb
  rw [hf,show (0:Int)=((0:Nat):Int) from rfl,h0]
  by_cases h:blen d.m.natAbs≤400
  ·rw [wc h,h1,decide_eq_true h]
  ·rw [we h,decide_eq_false h]
theorem zt0 {d f:D} (hd:okD d) (hs:SZ d.m.natAbs) (hf:okD f) (hs':SZ f.m.natAbs) (p:Int):za9 p [dy d,dy f]=some (fitB d p && fitB f p):=by
 obtain ⟨g,hg⟩:=zai
 rw [ztY (r:=decide (blen d.m.natAbs≤400) && decide (blen f.m.natAbs≤400))]
 ·unfold fitB
  cases decide (2≤p)<;>cases decide (p≤336)<;>cases decide (blen d.m.natAbs≤400)<;>rfl
 ·have h0:=zpG (l:=[dy d,dy f]) (i:=0) (n:=g+1+1) (d:=d) wb wa rfl hd hs
  have h1:=zpG (l:=[dy d,dy f]) (i:=1) (n:=g+1) (d:=f) wb wa rfl hf hs'
  have h2:=ztX (l:=[dy d,dy f]) (i:=2) (n:=g) wb
  rw [hg,show (0:Int)=((0:Nat):Int) from rfl,h0]
  by_cases h:blen d.m.natAbs≤400
  ·rw [wc h,h1,decide_eq_true h]
   by_cases h':blen f.m.natAbs≤400
   ·rw [wc h',h2,decide_eq_true h']; rfl
   ·rw [we h',decide_eq_false h']; rfl
  ·rw [we h,decide_eq_false h]; rfl
theorem zgy {d:D} (hd:okD d) (hs:SZ d.m.natAbs) (p:Int):zbh (dy d) p=some (fitB d p):=by
 unfold zbh zh5
 rw [Za hd hs]
 simp only [obn]
 rw [wc True.intro]
 unfold fitB
 by_cases h1:2≤p
 ·rw [wc h1,decide_eq_true h1]
  by_cases h2:p≤336
  ·rw [wc h2,zpF hs,decide_eq_true h2]
   simp only [obn]
   congr 1
   simp
   omega
  ·rw [we h2,decide_eq_false h2]; rfl
 ·rw [we h1,decide_eq_false h1]; rfl
def zc4 (d:D):Int × Bool:=if d.m=0 then (0,false) else (d.e+(blen d.m.natAbs:Nat),true)
theorem WD.szE {d:D} (h:WD d) : -1152921504606846976≤d.e∧d.e≤1152921504606846976:=by have:=h.e; omega
theorem zt1 {d:D} (h:WD d):zfd (dy d)=some (zc4 d):=by
 unfold zfd znV
 rw [ZX h.1 h.sz]
 simp only [obn]
 rw [we wb,zbo]
 simp only [obn]
 unfold zc4
 by_cases h0:d.m=0
 ·rw [wc (by simpa using h0),wc h0]
 ·rw [we (by simpa using h0),we h0,zlA h.sz h.szE]; rfl
theorem zt2 {d:D} (h:WD d):zfL (dy d)=some (zc4 d):=by
 have hm:=zah d.m
 unfold zfL zoo
 rw [Za h.1 h.sz]
 simp only [obn]
 rw [we wb]
 unfold zc4
 have hl:(((dy d).M.Mag.length:Int) == 0)=decide (d.m=0):=by
  have:(dy d).M=iOf d.m:=rfl
  rw [this]
  by_cases h0:d.m=0
  ·rw [decide_eq_true h0]; simpa using hm.2 h0
  ·rw [decide_eq_false h0]
   have:=mt hm.1 h0
   simpa using this
 rw [hl]
 by_cases h0:d.m=0
 ·rw [wc (by simpa using h0),wc h0]
 ·rw [we (by simpa using h0),we h0]
  unfold zaI
  rw [zpF h.sz]
  simp only [obn]
  have:=h.e
  have:=h.2
  rw [show (dy d).E=d.e from rfl,w64 wa wa]
def zz (p:Nat) (r:I × Int):I × Int:=st r.2 zI (zaj p r.1)
theorem zBd {a:I} (ha:SI a) {p:Nat} (hp:p≤400):SI (zaj p a).1:=zpn ha.ok.2.2 hp
theorem zev {r:I × Int} (h:SI r.1) {p:Nat} (hp:p≤400):SI (zz p r).1:=qV (zBd h hp) _
theorem zt3 {a:I} (ha:SI a) {p:Nat} (hp:2≤p∧p≤400) (e w:Int):zfk (iv a) (p:Int) e w=some (iv (zz p (a,e)).1,(zz p (a,e)).2):=by
 unfold zfk Qp
 simp only [obn]
 by_cases h:e=0
 ·subst h
  rw [we wb,zgt hp]
  simp only [obn]
  have:=zs3 ha.ok hp 0
  refine Eq.trans (congrArg (fun o=>Option.bind o _) this) ?_
  rfl
 ·rw [wc h]
  unfold zz
  rw [zu h,zw]
theorem zBe {a:I} (ha:SI a) {p:Nat} (hp:2≤p∧p≤400):zef (iv a) (p:Int) 0=some (iv (zaj p a).1,(zaj p a).2):=by
 unfold zef
 rw [ziT ha.ok]
 simp only [obn]
 rw [we wb,zM,zR,QV ha.ok.1 hp,zd]
 simp only [obn]
 unfold zaj
 by_cases h1:(zn a.lo p false).2=0
 ·rw [ze h1,ze h1,QV ha.ok.2.1 hp,zd]
  simp only [obn]
  by_cases h2:(zn a.hi p true).2=0
  ·rw [ze h2,ze h2,ZK]; rfl
  ·rw [zg h2,zg h2,ZK,we h2]; rfl
 ·rw [zg h1,zg h1,QV ha.ok.2.1 hp,zu h1]
  simp only [obn]
  rw [ZK,we h1]; rfl
theorem zi0 {a:I} (ha:SI a) {p:Nat} (hp:2≤p∧p≤400) (w e:Int):QO (iv a) (p:Int) w e=some (iv (zz p (a,e)).1,(zz p (a,e)).2):=by
 unfold QO
 by_cases h:e=0
 ·subst h
  rw [we wb,zgw hp]
  simp only [obn]
  refine Eq.trans (congrArg (fun o=>Option.bind o _) (zBe ha hp)) ?_
  rfl
 ·rw [wc h]
  unfold zz
  rw [zu h,zw]
def QB (w:Nat):Nat→I × Int→I × Int
 | 0,r=>r
 | k+1,r=>QB w k (mS w r.1 r.1 r.2)
def exN (d:D):Nat:=if d.m=0 then 0 else (d.e+(blen d.m.natAbs:Nat)+3).toNat
def eS (w:Nat) (r:I × Int):I × Int:=st r.2 zI (zan w r.1)
def exS (d:D) (p:Nat):I × Int:=
 if d.m≠0∧11<d.e+(blen d.m.natAbs:Nat) then (zI,4) else zz p (QB (p+32) (exN d) (eS (p+32) (srS ⟨d,d⟩ (-(exN d:Int)) 0)))
theorem zt4 {w:Nat} (hw:w≤400):∀ (k:Nat) (r:I × Int),SI r.1→SI (QB w k r).1
 | 0,_,h=>h
 | k+1,r,_=>zt4 hw k _ (qd hw _ _ _)
theorem zBf {w p h:Nat} (hw:2≤w∧w≤400) (hp:2≤p∧p≤400) (hh:h≤1000):∀ (k i:Nat) (a:I) (e:Int),i+k=h→SI a→∀ f,k<f→zft (h:Int) (0,0,(w:Int)) (p:Int) f (i:Int) e (iv a).Lo.M.Neg (iv a).Lo.M.Mag (iv a).Lo.E (iv a).Hi.M.Neg (iv a).Hi.M.Mag (iv a).Hi.E=some (iv (zz p (QB w k (a,e))).1,(zz p (QB w k (a,e))).2):=by
 intro k
 induction k with
 | zero=>
  intro i a e hi ha f hf
  obtain ⟨f,rfl⟩:∃ g,f=g+1:=⟨f-1,wa⟩
  rw [zft,we wa]
  unfold zrL
  rw [zX]
  refine Eq.trans (congrArg (fun o=>Option.bind o _) (zt3 ha hp e _)) ?_
  rfl
 | succ k ih=>
  intro i a e hi ha f hf
  obtain ⟨f,rfl⟩:∃ g,f=g+1:=⟨f-1,wa⟩
  rw [zft,wc wa,zX]
  refine Eq.trans (congrArg (fun o=>Option.bind o _) (zal hw ha ha e)) ?_
  simp only [obn]
  rw [show i64.wrap ((i:Int)+1)=((i+1:Nat):Int) by rw [w64 wa wa]; rfl]
  exact ih (i+1) _ _ wa (qd hw.2 _ _ _) f wa
theorem zBg {w p h:Nat} (hw:2≤w∧w≤400) (hp:2≤p∧p≤400) (hh:h≤1000) (x:Int):∀ (k i:Nat) (a:I) (e:Int),i+k=h→SI a→∀ f,k<f→zfX (h:Int) ((w:Int),x) (p:Int) f (i:Int) e (iv a).Lo.M.Neg (iv a).Lo.M.Mag (iv a).Lo.E (iv a).Hi.M.Neg (iv a).Hi.M.Mag (iv a).Hi.E=some (iv (zz p (QB w k (a,e))).1,(zz p (QB w k (a,e))).2):=by
 intro k
 induction k with
 | zero=>
  intro i a e hi ha f hf
  obtain ⟨f,rfl⟩:∃ g,f=g+1:=⟨f-1,wa⟩
  rw [zfX,we wa]
  unfold zrR
  rw [zX]
  refine Eq.trans (congrArg (fun o=>Option.bind o _) (zi0 ha hp _ e)) ?_
  rfl
 | succ k ih=>
  intro i a e hi ha f hf
  obtain ⟨f,rfl⟩:∃ g,f=g+1:=⟨f-1,wa⟩
  rw [zfX,wc wa,zX]
  refine Eq.trans (congrArg (fun o=>Option.bind o _) (zam hw ha ha e)) ?_
  simp only [obn]
  rw [show i64.wrap ((i:Int)+1)=((i+1:Nat):Int) by rw [w64 wa wa]; rfl]
  exact ih (i+1) _ _ wa (qd hw.2 _ _ _) f wa
theorem QZ {d:D} (h:WD d) (hb:blen d.m.natAbs≤1000):SI ⟨d,d⟩:=⟨zlJ h,hb,hb⟩
theorem pPt {d:D} (h:WD d) (e p:Int):zaC (dy d) e p=some (iv (st e zI (⟨d,d⟩,0)).1,(st e zI ((⟨d,d⟩:I),0)).2):=ziI h e p
theorem zt5 {d:D} (hd:WD d) (hb:blen d.m.natAbs≤400) {p h:Nat} (hp:2≤p∧p≤336) (hh:h≤1000):zkH (p:Int) (dy d) (h:Int)=some (iv (zz p (QB (p+32) h (eS (p+32) (srS ⟨d,d⟩ (-(h:Int)) 0)))).1,(zz p (QB (p+32) h (eS (p+32) (srS ⟨d,d⟩ (-(h:Int)) 0)))).2):=by
 unfold zkH
 have hw:2≤p+32∧p+32≤400:=wa
 have s1:=ziZ (QZ hd wa) (-(h:Int)) 0
 rw [w64 wa wa,show (p:Int)+32=((p+32:Nat):Int) by omega,zgt hw]
 simp only [obn]
 rw [pPt hd,zd]
 simp only [obn]
 rw [w64 wa wa,show 0-(h:Int) = -(h:Int) by omega]
 refine Eq.trans (congrArg (fun o=>Option.bind o _) (ztU (QZ hd wa) _ 0 _)) ?_
 simp only [obn]
 refine Eq.trans (congrArg (fun o=>Option.bind o _) (zAZ hw s1 _)) ?_
 simp only [obn]
 exact zBf hw wa hh h 0 _ _ wa (qV (zpD hw.2) _) fuel (by unfold fuel; omega)
theorem zt6 {d:D} (hd:WD d) (hb:blen d.m.natAbs≤400) {p h:Nat} (hp:2≤p∧p≤336) (hh:h≤1000):zk8 (p:Int) (dy d) (h:Int)=some (iv (zz p (QB (p+32) h (eS (p+32) (srS ⟨d,d⟩ (-(h:Int)) 0)))).1,(zz p (QB (p+32) h (eS (p+32) (srS ⟨d,d⟩ (-(h:Int)) 0)))).2):=by
 unfold zk8
 have hw:2≤p+32∧p+32≤400:=wa
 have s1:=ziZ (QZ hd wa) (-(h:Int)) 0
 rw [w64 wa wa,show (p:Int)+32=((p+32:Nat):Int) by omega,zgw hw]
 simp only [obn]
 rw [zl9 hd,zd]
 simp only [obn]
 rw [w64 wa wa,show 0-(h:Int) = -(h:Int) by omega]
 refine Eq.trans (congrArg (fun o=>Option.bind o _) (ztV (QZ hd wa) _ 0 _)) ?_
 simp only [obn]
 refine Eq.trans (congrArg (fun o=>Option.bind o _) (zA0 hw s1 _)) ?_
 simp only [obn]
 exact zBg hw wa hh 0 h 0 _ _ wa (qV (zpD hw.2) _) fuel (by unfold fuel; omega)
def expR (d:D) (p:Int):I × Int:=if fitB d p then exS d p.toNat else (zI,1)
theorem zgz {d:D} {p:Int} (h:fitB d p=true):(∃ q:Nat,p=(q:Int)∧2≤q∧q≤336)∧blen d.m.natAbs≤400:=by
 unfold fitB at h
 simp only [Bool.and_eq_true,decide_eq_true_eq] at h
 exact ⟨⟨p.toNat,wa,wa,wa⟩,h.2⟩
theorem zt7 {d:D} (hd:WD d) (p:Int):zfu (dy d) p=some (iv (expR d p).1,(expR d p).2):=by
 unfold zfu expR
 rw [ztZ hd.1 hd.sz]
 simp only [obn]
 cases hf:fitB d p with
 | false=>rw [wc wb,we wb,zw]
 | true=>
  obtain ⟨⟨q,rfl,hq⟩,hb⟩:=zgz hf
  rw [we wb,wc rfl,Int.toNat_natCast,zt1 hd]
  simp only [obn]
  unfold zn4 zc4 exS exN
  by_cases h0:d.m=0
  ·rw [wc h0,we wb,we wb,we wb,we (by simp [h0]),wc h0]
   have:=zt5 hd hb (h:=0) hq wa
   rw [show ((0:Nat):Int)=0 from rfl] at this
   exact this
  ·rw [we h0,wc rfl,we h0]
   by_cases h11:11<d.e+(blen d.m.natAbs:Nat)
   ·rw [show decide (d.e+(blen d.m.natAbs:Nat)>11)=true by simpa using h11,wc rfl,wc ⟨h0,h11⟩,zw]
   ·have he:=hd.e
    rw [show decide (d.e+(blen d.m.natAbs:Nat)>11)=false by simpa using h11,we wb,wc rfl,we (by simp [h11])]
    have hm:mx 0 (i64.wrap (d.e+(blen d.m.natAbs:Nat)+3))=((d.e+(blen d.m.natAbs:Nat)+3).toNat:Int):=by
     rw [w64 wa wa]; unfold mx; split<;>omega
    rw [hm]
    exact zt5 hd hb hq wa
theorem zt8 {d:D} (hd:WD d) (p:Int):zfY (dy d) p=some (iv (expR d p).1,(expR d p).2):=by
 unfold zfY expR
 rw [zgy hd.1 hd.sz]
 simp only [obn]
 cases hf:fitB d p with
 | false=>rw [wc wb,we wb,zw]
 | true=>
  obtain ⟨⟨q,rfl,hq⟩,hb⟩:=zgz hf
  rw [we wb,wc rfl,Int.toNat_natCast,zt2 hd]
  simp only [obn]
  unfold zov zc4 exS exN
  by_cases h0:d.m=0
  ·rw [wc h0,we wb,we wb,we wb,we (by simp [h0]),wc h0]
   have:=zt6 hd hb (h:=0) hq wa
   rw [show ((0:Nat):Int)=0 from rfl] at this
   exact this
  ·rw [we h0,wc rfl,we h0]
   by_cases h11:11<d.e+(blen d.m.natAbs:Nat)
   ·rw [show decide (d.e+(blen d.m.natAbs:Nat)>11)=true by simpa using h11,wc rfl,wc ⟨h0,h11⟩,zw]
   ·have he:=hd.e
    rw [show decide (d.e+(blen d.m.natAbs:Nat)>11)=false by simpa using h11,we wb,wc rfl,we (by simp [h11])]
    have hm:mx (i64.wrap (d.e+(blen d.m.natAbs:Nat)+3)) 0=((d.e+(blen d.m.natAbs:Nat)+3).toNat:Int):=by
     rw [w64 wa wa]; unfold mx; split<;>omega
    rw [hm]
    exact zt6 hd hb hq wa
theorem Zh:(⟨⟨⟨false,[]⟩,0⟩,⟨⟨false,[]⟩,0⟩⟩:AI)=iv zI:=zw.symm
theorem zBh {d:D} {p:Nat} (hp:p≤336):SI (exS d p).1:=by
 unfold exS
 split
 ·exact zO
 ·exact zev (zt4 wa _ _ (qV (zpD wa) _)) wa
theorem zmi {d:D} {p:Int} : SI (expR d p).1:=by
 unfold expR
 split
 ·rename_i h
  obtain ⟨⟨q,rfl,hq⟩,-⟩:=zgz h
  exact zBh (by simpa using hq.2)
 ·exact zO
def lnT (w:Nat) (m:I) (k e:Int):I × Int:=
 let a:=iS 1 e
 let s:=suS w m a.1 a.2
 let b:=iS 1 s.2
 let t:=aS w m b.1 b.2
 let z:=dS w s.1 t.1 t.2
 let h:=ahS w z.1 z.2
 let g:=scS h.1 1 h.2
 let i:=iS k g.2
 let l:=zc3 w i.2
 let q:=mS w i.1 l.1 l.2
 aS w g.1 q.1 q.2
theorem zpH {p:Nat} (hp:2≤p∧p≤400) {a b:I} (ha:SI a) (hb:SI b) (e:Int):zbH (iv a) (iv b) e (p:Int)=some (iv (suS p a b e).1,(suS p a b e).2):=zs0 ha.ok hb.ok hp e
theorem zmj {p:Nat} (hp:2≤p∧p≤400) {a b:I} (ha:SI a) (hb:SI b) (e:Int):zbg (iv a) (iv b) (p:Int) e=some (iv (suS p a b e).1,(suS p a b e).2):=ztx ha.ok hb.ok hp e
theorem zgA {p:Nat} (hp:p≤400) {a b:I} (ha:SI a) (hb:SI b) (e:Int):SI (suS p a b e).1:=qV (ztI ha hb hp) e
theorem zi1 {p:Nat} (hp:p≤400) {a:I} (ha:SI a) (e:Int):SI (ahS p a e).1:=qV (zmf hp ha) e
theorem zmk {w:Nat} (hw:w≤400) {m:I} (hm:SI m) {k:Int} (hk : -1000000≤k∧k≤1000000) (e:Int):SI (lnT w m k e).1:=
 ql hw (Zn (zi1 hw (QW hw _ (ql hw hm (zA wa _) _) _) _) _ _) (qd hw _ _ _) _
theorem zt9 {w p:Nat} (hw:2≤w∧w≤400) (hp:2≤p∧p≤400) {m:I} (hm:SI m) {k:Int} (hk : -1000000≤k∧k≤1000000) (e:Int):zkx (0,0,(w:Int)) (p:Int) k e (iv m).Lo.M.Neg (iv m).Lo.M.Mag (iv m).Lo.E (iv m).Hi.M.Neg (iv m).Hi.M.Mag (iv m).Hi.E=some (iv (zz p (lnT w m k e)).1,(zz p (lnT w m k e)).2):=by
 have s1:=zA (n:=1) wa e
 have s2:=zgA hw.2 hm s1 (iS 1 e).2
 unfold zkx
 rw [zX,Zg wa]
 simp only [obn]
 refine Eq.trans (congrArg (fun o=>Option.bind o _) (zpH hw hm s1 _)) ?_
 simp only [obn]
 rw [Zg wa]
 simp only [obn]
 refine Eq.trans (congrArg (fun o=>Option.bind o _) (zbu hw hm (zA wa _) _)) ?_
 simp only [obn]
 refine Eq.trans (congrArg (fun o=>Option.bind o _) (zb6 hw s2 (ql hw.2 hm (zA wa _) _) _)) ?_
 simp only [obn]
 refine Eq.trans (congrArg (fun o=>Option.bind o _) (ztN hw (QW hw.2 _ (ql hw.2 hm (zA wa _) _) _) _)) ?_
 simp only [obn]
 refine Eq.trans (congrArg (fun o=>Option.bind o _) (zet (zi1 hw.2 (QW hw.2 _ (ql hw.2 hm (zA wa _) _) _) _) wa _ _)) ?_
 simp only [obn]
 rw [Zg hk]
 simp only [obn]
 rw [zA7 hw]
 simp only [obn]
 refine Eq.trans (congrArg (fun o=>Option.bind o _) (zal hw (zA hk _) (ztR hw.2 _) _)) ?_
 simp only [obn]
 refine Eq.trans (congrArg (fun o=>Option.bind o _) (zbu hw (Zn (zi1 hw.2 (QW hw.2 _ (ql hw.2 hm (zA wa _) _) _) _) 1 _) (qd hw.2 _ _ _) _)) ?_
 simp only [obn]
 refine Eq.trans (congrArg (fun o=>Option.bind o _) (zt3 (zmk hw.2 hm hk e) hp _ _)) ?_
 rfl
theorem zua {w p:Nat} (hw:2≤w∧w≤400) (hp:2≤p∧p≤400) {m:I} (hm:SI m) {k:Int} (hk : -1000000≤k∧k≤1000000) (e x:Int):zk5 ((w:Int),x) (p:Int) k e (iv m).Lo.M.Neg (iv m).Lo.M.Mag (iv m).Lo.E (iv m).Hi.M.Neg (iv m).Hi.M.Mag (iv m).Hi.E=some (iv (zz p (lnT w m k e)).1,(zz p (lnT w m k e)).2):=by
 have s1:=zA (n:=1) wa e
 have s2:=zgA hw.2 hm s1 (iS 1 e).2
 unfold zk5
 rw [zX,Zm wa]
 simp only [obn]
 refine Eq.trans (congrArg (fun o=>Option.bind o _) (zmj hw hm s1 _)) ?_
 simp only [obn]
 rw [Zm wa]
 simp only [obn]
 refine Eq.trans (congrArg (fun o=>Option.bind o _) (zb7 hw hm (zA wa _) _)) ?_
 simp only [obn]
 refine Eq.trans (congrArg (fun o=>Option.bind o _) (zc2 hw s2 (ql hw.2 hm (zA wa _) _) _)) ?_
 simp only [obn]
 refine Eq.trans (congrArg (fun o=>Option.bind o _) (ztO hw (QW hw.2 _ (ql hw.2 hm (zA wa _) _) _) _)) ?_
 simp only [obn]
 refine Eq.trans (congrArg (fun o=>Option.bind o _) (zeu (zi1 hw.2 (QW hw.2 _ (ql hw.2 hm (zA wa _) _) _) _) wa _ _)) ?_
 simp only [obn]
 rw [Zm hk]
 simp only [obn]
 rw [zA8 hw]
 simp only [obn]
 refine Eq.trans (congrArg (fun o=>Option.bind o _) (zam hw (zA hk _) (ztR hw.2 _) _)) ?_
 simp only [obn]
 refine Eq.trans (congrArg (fun o=>Option.bind o _) (zb7 hw (Zn (zi1 hw.2 (QW hw.2 _ (ql hw.2 hm (zA wa _) _) _) _) 1 _) (qd hw.2 _ _ _) _)) ?_
 simp only [obn]
 refine Eq.trans (congrArg (fun o=>Option.bind o _) (zi0 (zmk hw.2 hm hk e) hp _ _)) ?_
 rfl
def lnK (d:D):Int:=d.e+(blen d.m.natAbs:Nat)-1
def lnS (d:D) (p:Nat):I × Int:=
 if d.m≤0 then (zI,3) else
 let r:=srS ⟨d,d⟩ (-lnK d) 0
 if r.2=0∧0≤zp r.1.lo ⟨3,-1⟩ then zz p (lnT (p+32) (scS r.1 (-1) r.2).1 (lnK d+1) (scS r.1 (-1) r.2).2) else zz p (lnT (p+32) r.1 (lnK d) r.2)
theorem zBi:(⟨⟨false,[3]⟩,(-1)⟩:AD)=dy ⟨3,-1⟩:=by
 have d3:digs 3=[3]:=zik (l:=[3]) (by intro d hd; have:d=3:=(by simpa using hd); omega) wb
 unfold dy iOf
 simp only
 rw [show (3:Int).natAbs=3 by rfl,d3]
 rfl
theorem zub:WD ⟨3,-1⟩:=zz0 (by decide +kernel)
theorem zBj:qz (fromD 3) (-1)=(⟨3,-1⟩,0):=by decide +kernel
theorem zBk {d:D} (hd:WD d) (h0:0<d.m) {p:Nat} (hp:2≤p∧p≤336) {x:Int} {r:I × Int} (hr:SI r.1) (y:Bool) (hx:x=lnK d+1):zky (iv r.1,r.2) (0,0,((p+32:Nat):Int)) (p:Int) (x,true) y=some (if y=true then (iv (zz p (lnT (p+32) (scS r.1 (-1) r.2).1 (lnK d+1) (scS r.1 (-1) r.2).2)).1,(zz p (lnT (p+32) (scS r.1 (-1) r.2).1 (lnK d+1) (scS r.1 (-1) r.2).2)).2) else (iv (zz p (lnT (p+32) r.1 (lnK d) r.2)).1,(zz p (lnT (p+32) r.1 (lnK d) r.2)).2)):=by
 have he:=hd.e
 have hb:=hd.2
 have hw:2≤p+32∧p+32≤400:=wa
 have hk : -1000000≤lnK d∧lnK d+1≤1000000:=by unfold lnK; omega
 unfold zky
 subst hx
 simp only
 rw [w64 (x:=lnK d+1-1) wa wa,show lnK d+1-1=lnK d by omega]
 cases y with
 | true=>
  rw [wc rfl,wc rfl]
  refine Eq.trans (congrArg (fun o=>Option.bind o _) (zet hr wa _ _)) ?_
  simp only [obn]
  rw [w64 wa wa]
  exact zt9 hw wa (Zn hr _ _) wa _
 | false=>
  rw [we wb,we wb]
  exact zt9 hw wa hr wa _
theorem zBl {d:D} (hd:WD d) (h0:0<d.m) {p:Nat} (hp:2≤p∧p≤336) {x z:Int} {r:I × Int} (hr:SI r.1) (y:Bool) (hx:x=lnK d+1):zk6 (iv r.1,r.2) (((p+32:Nat):Int),z) (p:Int) (x,true) y=some (if y=true then (iv (zz p (lnT (p+32) (scS r.1 (-1) r.2).1 (lnK d+1) (scS r.1 (-1) r.2).2)).1,(zz p (lnT (p+32) (scS r.1 (-1) r.2).1 (lnK d+1) (scS r.1 (-1) r.2).2)).2) else (iv (zz p (lnT (p+32) r.1 (lnK d) r.2)).1,(zz p (lnT (p+32) r.1 (lnK d) r.2)).2)):=by
 have he:=hd.e
 have hb:=hd.2
 have hw:2≤p+32∧p+32≤400:=wa
 have hk : -1000000≤lnK d∧lnK d+1≤1000000:=by unfold lnK; omega
 unfold zk6
 subst hx
 simp only
 rw [w64 (x:=lnK d+1-1) wa wa,show lnK d+1-1=lnK d by omega]
 cases y with
 | true=>
  rw [wc rfl,wc rfl]
  refine Eq.trans (congrArg (fun o=>Option.bind o _) (zeu hr wa _ _)) ?_
  simp only [obn]
  rw [w64 wa wa]
  exact zua hw wa (Zn hr _ _) wa _ _
 | false=>
  rw [we wb,we wb]
  exact zua hw wa hr wa _ _
def lnR (d:D) (p:Int):I × Int:=if fitB d p then lnS d p.toNat else (zI,1)
theorem zpI (d:D):(dy d).M.Neg=decide (d.m<0):=rfl
theorem zpJ (d:D) (p:Nat) (h0:0<d.m):lnS d p=if (decide ((srS ⟨d,d⟩ (-lnK d) 0).2=0) && decide (0≤zp (srS ⟨d,d⟩ (-lnK d) 0).1.lo ⟨3,-1⟩))=true then zz p (lnT (p+32) (scS (srS ⟨d,d⟩ (-lnK d) 0).1 (-1) (srS ⟨d,d⟩ (-lnK d) 0).2).1 (lnK d+1) (scS (srS ⟨d,d⟩ (-lnK d) 0).1 (-1) (srS ⟨d,d⟩ (-lnK d) 0).2).2) else zz p (lnT (p+32) (srS ⟨d,d⟩ (-lnK d) 0).1 (lnK d) (srS ⟨d,d⟩ (-lnK d) 0).2):=by
 unfold lnS
 rw [we wa]
 simp only [Bool.and_eq_true,decide_eq_true_eq]
theorem zuc {d:D} (hd:WD d) (p:Int):zfl (dy d) p=some (iv (lnR d p).1,(lnR d p).2):=by
 unfold zfl lnR
 rw [ztZ hd.1 hd.sz]
 simp only [obn]
 cases hf:fitB d p with
 | false=>rw [wc wb,we wb,Zh]
 | true=>
  obtain ⟨⟨q,rfl,hq⟩,hb⟩:=zgz hf
  rw [we wb,wc rfl,Int.toNat_natCast,zt1 hd]
  simp only [obn]
  unfold zc4 znZ
  by_cases h0:d.m=0
  ·rw [wc h0,wc wb,wc rfl]
   unfold lnS
   rw [wc wa,Zh]
  ·rw [we h0,we wb,zpI]
   by_cases h1:d.m<0
   ·rw [wc (by simpa using h1)]
    unfold lnS
    rw [wc wa,Zh]
   ·have he:=hd.e
    have hw:2≤q+32∧q+32≤400:=wa
    have s1:=ziZ (QZ hd wa) (-lnK d) 0
    rw [we (by simpa using h1),w64 (x:=(q:Int)+32) wa wa,show (q:Int)+32=((q+32:Nat):Int) by omega,zgt hw]
    simp only [obn]
    rw [pPt hd,zd]
    simp only [obn]
    have hk:i64.wrap (0-i64.wrap (d.e+(blen d.m.natAbs:Nat)-1)) = -lnK d:=by
     unfold lnK; rw [w64 (x:=d.e+(blen d.m.natAbs:Nat)-1) wa wa,w64 wa wa]; omega
    rw [hk]
    refine Eq.trans (congrArg (fun o=>Option.bind o _) (ztU (QZ hd wa) _ 0 _)) ?_
    simp only [obn]
    unfold Qp
    simp only [obn]
    rw [zpJ d q wa]
    have tl:=fun y=>zBk hd wa hq s1 y (x:=d.e+(blen d.m.natAbs:Nat)) (by unfold lnK; omega)
    generalize srS ⟨d,d⟩ (-lnK d) 0=r at *
    by_cases hr:r.2=0
    ·rw [wc hr,zM,zBi]
     refine Eq.trans (congrArg (fun o=>Option.bind o _) (Ze s1.ok.1 zub)) ?_
     simp only [obn]
     rw [tl,decide_eq_true hr,Bool.true_and]
     by_cases hc:zp r.1.lo ⟨3,-1⟩≥0
     ·rw [decide_eq_true hc,wc rfl,wc rfl]
     ·rw [decide_eq_false hc,we wb,we wb]
    ·rw [we hr,tl,decide_eq_false hr,Bool.false_and,we wb,we wb]
theorem zud {d:D} (hd:WD d) (p:Int):zfP (dy d) p=some (iv (lnR d p).1,(lnR d p).2):=by
 unfold zfP lnR
 rw [zgy hd.1 hd.sz]
 simp only [obn]
 cases hf:fitB d p with
 | false=>rw [wc wb,we wb,Zh]
 | true=>
  obtain ⟨⟨q,rfl,hq⟩,hb⟩:=zgz hf
  rw [we wb,wc rfl,Int.toNat_natCast,zt2 hd]
  simp only [obn]
  unfold zc4 zop
  by_cases h0:d.m=0
  ·rw [wc h0,wc wb,wc rfl]
   unfold lnS
   rw [wc wa,Zh]
  ·rw [we h0,we wb,zpI]
   by_cases h1:d.m<0
   ·rw [wc (by simpa using h1)]
    unfold lnS
    rw [wc wa,Zh]
   ·have he:=hd.e
    have hw:2≤q+32∧q+32≤400:=wa
    have s1:=ziZ (QZ hd wa) (-lnK d) 0
    rw [we (by simpa using h1),w64 (x:=(q:Int)+32) wa wa,show (q:Int)+32=((q+32:Nat):Int) by omega,zgw hw]
    simp only [obn]
    rw [zl9 hd,zd]
    simp only [obn]
    have hk:i64.wrap (0-i64.wrap (d.e+(blen d.m.natAbs:Nat)-1)) = -lnK d:=by
     unfold lnK; rw [w64 (x:=d.e+(blen d.m.natAbs:Nat)-1) wa wa,w64 wa wa]; omega
    rw [hk]
    refine Eq.trans (congrArg (fun o=>Option.bind o _) (ztV (QZ hd wa) _ 0 _)) ?_
    simp only [obn]
    rw [zgv wa]
    simp only [obn]
    refine Eq.trans (congrArg (fun o=>Option.bind o _) (zl7 (zb1 (n:=3) wa) (n:=-1) wa)) ?_
    simp only [obn]
    rw [zBj]
    rw [zpJ d q wa]
    have tl:=fun y=>zBl (z:=0) hd wa hq s1 y (x:=d.e+(blen d.m.natAbs:Nat)) (by unfold lnK; omega)
    generalize srS ⟨d,d⟩ (-lnK d) 0=r at *
    by_cases hr:r.2=0
    ·rw [wc hr,zM]
     refine Eq.trans (congrArg (fun o=>Option.bind o _) (zb2 s1.ok.1 zub)) ?_
     simp only [obn]
     rw [tl,decide_eq_true hr,Bool.true_and]
     by_cases hc:zp r.1.lo ⟨3,-1⟩≥0
     ·rw [decide_eq_true hc,wc rfl,wc rfl]
     ·rw [decide_eq_false hc,we wb,we wb]
    ·rw [we hr,tl,decide_eq_false hr,Bool.false_and,we wb,we wb]
theorem zue {d:D} (hd:WD d) {p:Int} : SI (lnR d p).1:=by
 unfold lnR
 split
 ·rename_i h
  obtain ⟨⟨q,rfl,hq⟩,hb⟩:=zgz h
  rw [Int.toNat_natCast]
  have he:=hd.e
  have s1:=ziZ (QZ hd wa) (-lnK d) 0
  have hk : -1000000≤lnK d∧lnK d+1≤1000000:=by unfold lnK; omega
  unfold lnS
  split
  ·exact zO
  ·simp only
   split
   ·exact zev (zmk wa (Zn s1 _ _) wa _) wa
   ·exact zev (zmk wa s1 wa _) wa
 ·exact zO
theorem zBm {x:AD} (h:Dig x.M.Mag) (l:x.M.Mag.length≤31):(∃ d,WD d∧blen d.m.natAbs≤1000∧x=dy d)∨(Zc x=some false∧qB x=some false):=by
 have e1:=zss h wa
 have f1:=zsQ h wa
 cases c:zbZ x with
 | false=>right; rw [e1,f1,c]; exact ⟨rfl,rfl⟩
 | true=>
  obtain ⟨d,k,rfl,b⟩:=zyV h c
  have v:=zyB h
  exact Or.inl ⟨d,⟨k,by rw [b]; omega⟩,by rw [b]; omega,rfl⟩
theorem zBn {x:AD} (hx:gAD x) (k:Nat) (hk:k≤31):Dig (x.M.Mag.take (min x.M.Mag.length k))∧(x.M.Mag.take (min x.M.Mag.length k)).length≤31:=⟨zbi (zzX hx) _,by rw [List.length_take]; omega⟩
def ofR (f:D→Int→I × Int) (a:I) (p:Int):I × Int:=
 if fitB a.lo p && fitB a.hi p then (if (f a.lo p).2≠0 then (zI,(f a.lo p).2) else if (f a.hi p).2≠0 then (zI,(f a.hi p).2) else (⟨(f a.lo p).1.lo,(f a.hi p).1.hi⟩,0)) else (zI,1)
theorem zuf (a b:I):(⟨⟨(iv a).Lo.M,(iv a).Lo.E⟩,⟨(iv b).Hi.M,(iv b).Hi.E⟩⟩:AI)=iv ⟨a.lo,b.hi⟩:=rfl
theorem zug {a:I} (ha:SI a) (p:Int):zfv (iv a) p=some (iv (ofR expR a p).1,(ofR expR a p).2):=by
 have e1:=zt7 ha.ok.1 p
 have e2:=zt7 ha.ok.2.1 p
 unfold zfv zkI zn5
 rw [zeo ha.ok]
 simp only [obn]
 rw [we wb,zM,zR,zt0 ha.ok.1.1 ha.ok.1.sz ha.ok.2.1.1 ha.ok.2.1.sz]
 simp only [obn]
 unfold ofR
 generalize expR a.lo p=r1 at *
 generalize expR a.hi p=r2 at *
 generalize (fitB a.lo p && fitB a.hi p)=b
 cases b with
 | false=>rw [wc wb,we wb]; simp only [obn]; rw [← Zh]
 | true=>
  rw [we wb,wc rfl,e1]
  simp only [obn]
  by_cases h1:r1.2=0
  ·rw [we (by simp [h1]),we (by simp [h1]),e2]
   simp only [obn]
   by_cases h2:r2.2=0
   ·rw [we (by simp [h2]),we (by simp [h2])]; simp only [obn,zM,zR]; rfl
   ·rw [wc h2,wc h2]; simp only [obn]; rw [← Zh]
  ·rw [wc h1,wc h1]; simp only [obn]; rw [← Zh]
theorem zBo {a:I} (ha:SI a) (p:Int):zfZ (iv a) p=some (iv (ofR expR a p).1,(ofR expR a p).2):=by
 have e1:=zt8 ha.ok.1 p
 have e2:=zt8 ha.ok.2.1 p
 unfold zfZ zk9
 rw [zcX ha.ok]
 simp only [obn]
 rw [we wb,zM,zR,zgy ha.ok.1.1 ha.ok.1.sz]
 simp only [obn]
 unfold ofR
 generalize expR a.lo p=r1 at *
 generalize expR a.hi p=r2 at *
 have f2:=zgy ha.ok.2.1.1 ha.ok.2.1.sz p
 generalize fitB a.lo p=b
 generalize fitB a.hi p=c at *
 cases b with
 | false=>rw [wc wb,wc wb,Bool.false_and,we wb,← Zh]
 | true=>
  rw [we wb,f2]
  simp only [obn]
  cases c with
  | false=>rw [wc wb,we wb,← Zh]
  | true=>
   rw [we wb,wc wb,e1]
   simp only [obn]
   by_cases h1:r1.2=0
   ·rw [we (by simp [h1]),we (by simp [h1]),e2]
    simp only [obn]
    by_cases h2:r2.2=0
    ·rw [we (by simp [h2]),we (by simp [h2])]; exact congrArg (fun x=>some (x,(0:Int))) (zuf r1.1 r2.1)
    ·rw [wc h2,wc h2,← Zh]
   ·rw [wc h1,wc h1,← Zh]
theorem zBp {a:I} (ha:SI a) (p:Int):zhI (iv a) p=some (iv (ofR lnR a p).1,(ofR lnR a p).2):=by
 have e1:=zuc ha.ok.1 p
 have e2:=zuc ha.ok.2.1 p
 unfold zhI zkz zn0
 rw [zeo ha.ok]
 simp only [obn]
 rw [we wb,zM,zR,zt0 ha.ok.1.1 ha.ok.1.sz ha.ok.2.1.1 ha.ok.2.1.sz]
 simp only [obn]
 unfold ofR
 generalize lnR a.lo p=r1 at *
 generalize lnR a.hi p=r2 at *
 generalize (fitB a.lo p && fitB a.hi p)=b
 cases b with
 | false=>rw [wc wb,we wb]; simp only [obn]; rw [← Zh]
 | true=>
  rw [we wb,wc rfl,e1]
  simp only [obn]
  by_cases h1:r1.2=0
  ·rw [we (by simp [h1]),we (by simp [h1]),e2]
   simp only [obn]
   by_cases h2:r2.2=0
   ·rw [we (by simp [h2]),we (by simp [h2])]; simp only [obn,zM,zR]; rfl
   ·rw [wc h2,wc h2]; simp only [obn]; rw [← Zh]
  ·rw [wc h1,wc h1]; simp only [obn]; rw [← Zh]
theorem zBq {a:I} (ha:SI a) (p:Int):zid (iv a) p=some (iv (ofR lnR a p).1,(ofR lnR a p).2):=by
 have e1:=zud ha.ok.1 p
 have e2:=zud ha.ok.2.1 p
 unfold zid zk7
 rw [zcX ha.ok]
 simp only [obn]
 rw [we wb,zM,zR,zgy ha.ok.1.1 ha.ok.1.sz]
 simp only [obn]
 unfold ofR
 generalize lnR a.lo p=r1 at *
 generalize lnR a.hi p=r2 at *
 have f2:=zgy ha.ok.2.1.1 ha.ok.2.1.sz p
 generalize fitB a.lo p=b
 generalize fitB a.hi p=c at *
 cases b with
 | false=>rw [wc wb,wc wb,Bool.false_and,we wb,← Zh]
 | true=>
  rw [we wb,f2]
  simp only [obn]
  cases c with
  | false=>rw [wc wb,we wb,← Zh]
  | true=>
   rw [we wb,wc wb,e1]
   simp only [obn]
   by_cases h1:r1.2=0
   ·rw [we (by simp [h1]),we (by simp [h1]),e2]
    simp only [obn]
    by_cases h2:r2.2=0
    ·rw [we (by simp [h2]),we (by simp [h2])]; exact congrArg (fun x=>some (x,(0:Int))) (zuf r1.1 r2.1)
    ·rw [wc h2,wc h2,← Zh]
   ·rw [wc h1,wc h1,← Zh]
theorem zuh {n k:Nat} (h:n<2 ^ k) (hk:k≤1048576):SZ n:=by have:=zaQ h; unfold SZ; omega
theorem zpK {a k:Nat} (hk:0<k):(-(a:Int)) / (k:Int) = -(((a+(k-1)) / k:Nat):Int):=by
 have h1:=Nat.div_add_mod (a+(k-1)) k
 have h2:=Nat.mod_lt (a+(k-1)) hk
 generalize (a+(k-1)) / k=q at *
 generalize (a+(k-1)) % k=r at *
 have h3:(k:Int)*q+r=a+(k-1):=by
  have:((k*q+r:Nat):Int)=((a+(k-1):Nat):Int):=by rw [h1]
  push_cast at this
  omega
 have e : -(a:Int)=(k-1-r)+k*(-q):=by
  have:(k:Int) * -(q:Int) = -((k:Int)*q):=Int.mul_neg _ _
  omega
 rw [e,Int.add_mul_ediv_left _ _ wa,Int.ediv_eq_zero_of_lt wa wa]
 omega
theorem zBr {z:Int} {n:Nat} (h0:0<n) (hn:n≤100000) (hz:blen z.natAbs≤900000):zhm (iOf z) (-(n:Int))=some (iOf (z / 2 ^ n),true):=by
 have hsz:SZ z.natAbs:=by unfold SZ; omega
 have hl:=zx hsz
 have hW:i64.wrap (0 - -(n:Int))=(n:Int):=by rw [w64 wa wa]; omega
 have hp:0<2 ^ n:=Nat.pow_pos (by decide)
 have hbz:=Zk z.natAbs
 have e2:((2:Int) ^ n)=((2 ^ n:Nat):Int):=by push_cast; first | done | rfl
 have hsum:SZ (z.natAbs+(2 ^ n-1)):=by
  have h1:=zej z.natAbs (2 ^ n-1)
  have h2:blen (2 ^ n-1)≤n:=zaQ wa
  unfold SZ; omega
 unfold zhm znE
 rw [we wa,show decide (-(n:Int)>100000)=false from decide_eq_false wa,we wb,zgc hsz]
 simp only [obn]
 rw [we wa]
 have fin:∀ v:Nat,SZ v→zj6 (-(n:Int)) ⟨⟨digs z.natAbs⟩,decide (z<0)⟩ (digs v)=some (iOf (sg (decide (z<0)) (v / 2 ^ n)),true):=by
  intro v hv
  unfold zj6
  have:=zx hv
  rw [hW,zlt (dgd _) wa wa,dvd]
  simp only [obn]
  rw [zbX _ (zaR (Nat.div_le_self _ _) hv)]
  rfl
 by_cases hneg:z<0
 ·have h2l:(digs 1).length≤32769:=zx (by unfold SZ; decide)
  rw [wc (by simpa using hneg),zil wa wa]
  simp only [obn]
  rw [hW,show (1:Int).toNat=1 from rfl,zf9 (dgd _) wa hn,dvd,Nat.one_mul]
  simp only [obn]
  have hs2:SZ (2 ^ n):=by unfold SZ; rw [zlw]; omega
  have h1l:=zx hs2
  rw [zoB (dgd _) (dgd _) wa wa,dvd,dvd,we wa]
  simp only [obn]
  have h3l:(digs (2 ^ n-1)).length≤32769:=zx (zaR wa hs2)
  rw [zoz (dgd _) (dgd _) wa wa,dvd,dvd]
  simp only [obn]
  rw [fin _ hsum,decide_eq_true hneg,e2]
  congr 2
  have e3:z = -(z.natAbs:Int):=wa
  conv=>rhs; rw [e3,zpK hp]
  rfl
 ·rw [we (by simpa using hneg),fin _ hsz,decide_eq_false hneg,e2]
  congr 2
  have e3:z=(z.natAbs:Int):=wa
  conv=>rhs; rw [e3,← Int.natCast_ediv]
  rfl
theorem zui {z:Int} {n:Nat} (h0:0<n) (hn:n≤100000) (hz:blen z.natAbs≤900000):zfF (iOf z) (-(n:Int))=some (iOf (z / 2 ^ n),true):=by
 have hsz:SZ z.natAbs:=by unfold SZ; omega
 have hl:=zx hsz
 have hW:i64.wrap (0 - -(n:Int))=(n:Int):=by rw [w64 wa wa]; omega
 have hp:0<2 ^ n:=Nat.pow_pos (by decide)
 have e2:((2:Int) ^ n)=((2 ^ n:Nat):Int):=by push_cast; first | done | rfl
 have hsd:SZ (z.natAbs / 2 ^ n):=zaR (Nat.div_le_self _ _) hsz
 have hld:=zx hsd
 have hMag:(iOf z).Mag=digs z.natAbs:=rfl
 have hNeg:(iOf z).Neg=decide (z<0):=rfl
 unfold zfF zod
 rw [we wa,show decide (-(n:Int)>100000)=false from decide_eq_false wa,we wb,ziB hsz]
 simp only [obn]
 rw [we wa,hMag,hNeg,hW,zlF (dgd _) wa wa,dvd]
 simp only [obn]
 rw [ziD (dgd _) wa hn,dvd]
 simp only [obn]
 have hback:z.natAbs / 2 ^ n*2 ^ n≤z.natAbs:=Nat.div_mul_le_self _ _
 have hsb:SZ (z.natAbs / 2 ^ n*2 ^ n):=zaR hback hsz
 have hlb:=zx hsb
 have fin:∀ v:Nat,SZ v→zkN (iOf z) (digs v)=some (iOf (sg (decide (z<0)) v),true):=by
  intro v hv
  unfold zkN
  rw [hNeg,Qt _ hv]
  rfl
 unfold zoc
 by_cases hneg:z<0
 ·rw [wc (by simpa using hneg),zgk (dgd _) (dgd _) wa wa,dvd,dvd]
  simp only [obn]
  have e3:z = -(z.natAbs:Int):=wa
  have hdm:=Nat.div_add_mod z.natAbs (2 ^ n)
  have hml:=Nat.mod_lt z.natAbs hp
  rw [decide_eq_true hneg] at fin
  by_cases hm:z.natAbs % 2 ^ n=0
  ·have hz2:z.natAbs / 2 ^ n*2 ^ n=z.natAbs:=by rw [Nat.mul_comm]; omega
   have hcmp:(if z.natAbs / 2 ^ n*2 ^ n<z.natAbs then (-1:Int) else if z.natAbs<z.natAbs / 2 ^ n*2 ^ n then 1 else 0)=0:=by rw [hz2]; simp
   rw [hcmp,we wb,fin _ hsd,e2]
   congr 2
   conv=>rhs; rw [e3,zpK hp]
   have:(z.natAbs+(2 ^ n-1)) / 2 ^ n=z.natAbs / 2 ^ n:=by
    rw [Nat.div_eq_iff hp]
    constructor
    ·omega
    ·rw [hz2]; omega
   rw [this]; rfl
  ·have hlt:z.natAbs / 2 ^ n*2 ^ n<z.natAbs:=by rw [Nat.mul_comm]; omega
   have hcmp:(if z.natAbs / 2 ^ n*2 ^ n<z.natAbs then (-1:Int) else if z.natAbs<z.natAbs / 2 ^ n*2 ^ n then 1 else 0) = -1:=wc hlt
   rw [hcmp,wc (by decide)]
   have h1l:([1]:List Int)=digs 1:=(zik (l:=[1]) (by intro d hd; have:d=1:=(by simpa using hd); omega) wb).symm
   have h2l:(digs 1).length≤32769:=zx (by unfold SZ; decide)
   rw [h1l,zpi (dgd _) (dgd _) wa wa,dvd,dvd]
   simp only [obn]
   have hs1:SZ (z.natAbs / 2 ^ n+1):=by
    refine zaR (n:=z.natAbs) ?_ hsz
    have h5:z.natAbs / 2 ^ n*2≤z.natAbs / 2 ^ n*2 ^ n:=Nat.mul_le_mul_left _ (by have:=Nat.pow_le_pow_right (n:=2) (by decide) h0; omega)
    omega
   rw [fin _ hs1,e2]
   congr 2
   conv=>rhs; rw [e3,zpK hp]
   have:(z.natAbs+(2 ^ n-1)) / 2 ^ n=z.natAbs / 2 ^ n+1:=by
    rw [Nat.div_eq_iff hp,Nat.add_mul,Nat.one_mul]
    constructor
    ·omega
    ·rw [Nat.mul_comm] at hlt ⊢; omega
   rw [this]; rfl
 ·rw [we (by simpa using hneg),we wb,fin _ hsd,decide_eq_false hneg,e2]
  congr 2
  have e3:z=(z.natAbs:Int):=wa
  conv=>rhs; rw [e3,← Int.natCast_ediv]
  rfl
def flD (d:D):Int:=if 0≤d.e then d.m*2 ^ d.e.toNat else d.m / 2 ^ (-d.e).toNat
def zbw (d:D):Int × Int:=if inR d then (flD d,0) else (0,4)
theorem zuj:(⟨false,[]⟩:za)=iOf 0:=by unfold iOf; simp [qJ]
theorem zuk (z:Int) (n:Nat):blen (z / 2 ^ n).natAbs≤blen z.natAbs:=by
 refine zaf ?_
 have hp:(0:Int)<2 ^ n:=Int.pow_pos (by decide)
 rcases Int.lt_or_le z 0 with h | h
 ·have h1:z≤z / 2 ^ n:=by
   rw [Int.le_ediv_iff_mul_le hp]
   have h3:=Int.mul_nonpos_of_nonpos_of_nonneg (a:=z) (b:=2 ^ n-1) wa wa
   rw [Int.mul_sub,Int.mul_one] at h3
   omega
  have h2:z / 2 ^ n<0:=Int.ediv_neg_of_neg_of_pos h hp
  omega
 ·have h1:=Int.ediv_le_self (a:=z) (2 ^ n) h
  have h2:=Int.ediv_nonneg h (show (0:Int)≤2 ^ n by omega)
  omega
theorem zBs {c:Nat} : ∀ (z:Int) (n:Nat),n≤100000*c→n≤200000→blen z.natAbs≤900000→∀ f,c<f→zdI f (n:Int) (iOf z).Neg (iOf z).Mag=some (iOf (z / 2 ^ n),0):=by
 induction c with
 | zero=>
  intro z n hn _ _ f hf
  obtain ⟨f,rfl⟩:∃ g,f=g+1:=⟨f-1,wa⟩
  have:n=0:=wa
  subst this
  rw [zdI,we wa]
  unfold znF
  rw [Int.pow_zero,Int.ediv_one]
 | succ c ih=>
  intro z n hn hn2 hz f hf
  obtain ⟨f,rfl⟩:∃ g,f=g+1:=⟨f-1,wa⟩
  rw [zdI]
  by_cases h0:n=0
  ·subst h0
   rw [we wa]
   unfold znF
   rw [Int.pow_zero,Int.ediv_one]
  ·rw [wc wa]
   have eta:(⟨(iOf z).Neg,(iOf z).Mag⟩:za)=iOf z:=rfl
   have hm:mn (n:Int) 100000=((min n 100000:Nat):Int):=by unfold mn; split<;>omega
   rw [eta,hm,w64 wa wa,show 0-((min n 100000:Nat):Int) = -((min n 100000:Nat):Int) by omega,zBr wa wa hz]
   simp only [obn]
   rw [w64 wa wa]
   by_cases h1:n≤100000
   ·rw [show min n 100000=n by omega]
    obtain ⟨f,rfl⟩:∃ g,f=g+1:=⟨f-1,wa⟩
    rw [zdI,we wa]
    rfl
   ·rw [show min n 100000=100000 by omega,show (n:Int)-100000=((n-100000:Nat):Int) by omega]
    have h2:=ih (z / 2 ^ 100000) (n-100000) wa wa (Nat.le_trans (zuk z 100000) hz) f wa
    rw [h2,Int.ediv_ediv_of_nonneg (Int.pow_nonneg (by decide)),← Int.pow_add,show 100000+(n-100000)=n by omega]
theorem zBt {d:D} (hd:WD d):zhn (dy d)=some (iOf (zbw d).1,(zbw d).2):=by
 have he:=hd.e
 have hb:=hd.2
 unfold zhn znG zbw
 rw [zlC hd]
 simp only [obn]
 rw [we wb,zoP hd.sz hd.szE]
 simp only [obn,zcS]
 cases hr:inR d with
 | false=>
  simp only [Bool.false_eq_true,if_false,if_true]
  rw [wc (by decide),zuj]
 | true=>
  simp only [if_true]
  rw [we (by decide)]
  unfold flD
  have hE:(dy d).E=d.e:=rfl
  have hM:(dy d).M=iOf d.m:=rfl
  rw [hE,hM]
  by_cases h0:0≤d.e
  ·obtain ⟨n,hn⟩:∃ n:Nat,d.e=(n:Int):=⟨d.e.toNat,wa⟩
   rw [wc wa,wc h0,hn,Int.toNat_natCast,show (iOf d.m).Mag=digs d.m.natAbs from rfl,zoM wa]
   simp only [obn]
   rw [show (iOf d.m).Neg=decide (d.m<0) from rfl,zbX _ (by unfold SZ; have:=zsh d.m.natAbs (2 ^ n); have:=zlw n; omega)]
   simp only [obn]
   congr 3
   rw [Nat.mul_comm,zgd,QS,Int.mul_comm]
   push_cast
   rfl
  ·obtain ⟨n,hn⟩:∃ n:Nat,d.e = -(n:Int):=⟨(-d.e).toNat,wa⟩
   rw [we wa,we h0,hn,w64 wa wa,show 0 - -(n:Int)=(n:Int) by omega,show (- -(n:Int)).toNat=n by omega]
   exact zBs (c:=2) d.m n wa wa wa fuel (by unfold fuel; omega)
theorem zBu {d:D} (hd:WD d):zhW (dy d)=some (iOf (zbw d).1,(zbw d).2):=by
 have he:=hd.e
 have hb:=hd.2
 unfold zhW zoe zbw
 rw [Za hd.1 hd.sz]
 simp only [obn]
 rw [we wb,zo2 hd.sz hd.szE]
 simp only [obn]
 cases hr:inR d with
 | false=>rw [wc wb,we wb,zuj]
 | true=>
  rw [we wb,wc rfl]
  unfold flD
  have hE:(dy d).E=d.e:=rfl
  have hM:(dy d).M=iOf d.m:=rfl
  rw [hE,hM]
  by_cases h0:0≤d.e
  ·obtain ⟨n,hn⟩:∃ n:Nat,d.e=(n:Int):=⟨d.e.toNat,wa⟩
   rw [wc wa,wc h0,hn,Int.toNat_natCast,zlG wa]
   rfl
  ·obtain ⟨n,hn⟩:∃ n:Nat,d.e = -(n:Int):=⟨(-d.e).toNat,wa⟩
   have hm:mn (n:Int) 100000=((min n 100000:Nat):Int):=by unfold mn; split<;>omega
   rw [we wa,we h0,hn,w64 (x:=0 - -(n:Int)) wa wa,show 0 - -(n:Int)=(n:Int) by omega,show (- -(n:Int)).toNat=n by omega,hm,w64 wa wa,show 0-((min n 100000:Nat):Int) = -((min n 100000:Nat):Int) by omega,zui wa wa wa]
   simp only [obn]
   by_cases h1:n≤100000
   ·rw [we wa,show min n 100000=n by omega]
   ·rw [wc wa,show min n 100000=100000 by omega,w64 wa wa,show -(n:Int)+((100000:Nat):Int) = -((n-100000:Nat):Int) by omega]
    refine Eq.trans (congrArg (fun o=>Option.bind o _) (zui (z:=d.m / 2 ^ 100000) (n:=n-100000) wa wa (Nat.le_trans (zuk d.m 100000) wa))) ?_
    simp only [obn]
    rw [Int.ediv_ediv_of_nonneg (Int.pow_nonneg (by decide)),← Int.pow_add,show 100000+(n-100000)=n by omega]
theorem zul {n:Nat} (h:(digs n).length≤2):n=((digs n).getD 0 0).toNat+4294967296*((digs n).getD 1 0).toNat:=by
 have h1:=dvd n
 have h2:dval (digs n)=((digs n).getD 0 0).toNat+4294967296*((digs n).getD 1 0).toNat:=by
  rw [show dval (digs n)=dval ((digs n).drop 0) by simp,zV,zV,List.drop_eq_nil_of_le wa]
  simp [dval]
 omega
theorem zml {n:Nat} : (digs n).length≤2↔n<18446744073709551616:=by
 constructor
 ·intro h
  have h2:=qF (dgd n)
  rw [dvd] at h2
  have h3:4294967296 ^ (digs n).length≤4294967296 ^ 2:=Nat.pow_le_pow_right (by decide) h
  have h4:(4294967296:Nat) ^ 2=18446744073709551616:=by decide
  omega
 ·intro h
  have h4:(4294967296:Nat) ^ 2=18446744073709551616:=by decide
  exact QQ (k:=2) wa
theorem zBv {n:Nat} (hl:(digs n).length≤1099511627776):zho (digs n)=some (if n<18446744073709551616 then ((n:Int),true) else (0,false)):=by
 unfold zho
 rw [ZG (dgd _) wa,dvd]
 simp only [obn]
 by_cases hn:n<18446744073709551616
 ·have h2:=zml.2 hn
  have hd:=zul h2
  rw [wc hn]
  by_cases h0:(digs n).length=0
  ·rw [wc wa]
   have:digs n=[]:=List.eq_nil_of_length_eq_zero h0
   rw [this] at hd
   simp at hd
   rw [hd]; rfl
  ·rw [we wa]
   obtain ⟨a,ha,ha2⟩:=zL (dgd n) 0
   obtain ⟨b,hb,hb2⟩:=zL (dgd n) 1
   rw [ha,hb,Int.toNat_natCast,Int.toNat_natCast] at hd
   by_cases h1:(digs n).length=1
   ·rw [wc wa,wc wa,kz,ha,zG wa]
    have:(digs n).getD 1 0=0:=by simp [List.getD,List.getElem?_eq_none (show (digs n).length≤1 by omega)]
    congr 3; omega
   ·have h1b:(digs n).length=2:=wa
    rw [we wa,wc wa,wc wa,wc wa,kz,ha,hb,zG wa,zG wa,zcL hb2,zbk wa wa,zgb ha2]
    congr 3; omega
 ·have h2:=mt zml.1 hn
  rw [we hn,we wa,we wa,we wa]
def zc5 (z:Int):Int × Bool:=if -9223372036854775808≤z∧z≤9223372036854775807 then (z,true) else (0,false)
theorem zBw {z:Int} (hz:SZ z.natAbs):zhp (iOf z)=some (zc5 z):=by
 have hl:=zx hz
 unfold zhp
 rw [zgc hz]
 simp only [obn]
 rw [zBv wa]
 simp only [obn]
 unfold zj8 zj7 zc5
 by_cases hn:z.natAbs<18446744073709551616
 ·rw [wc hn]
  simp only
  rw [wc True.intro]
  by_cases h0:z<0
  ·rw [wc (by simpa using h0)]
   by_cases h1:(z.natAbs:Int)≤9223372036854775808
   ·rw [decide_eq_true h1,wc rfl,wc wa]
    congr 2
    rw [zbT,show (0-(z.natAbs:Int)) % 18446744073709551616=z+18446744073709551616 by omega]
    unfold IntKind.wrap
    simp [IntKind.bits,IntKind.signed]
    omega
   ·rw [decide_eq_false h1,we wb,wc True.intro,we (by simp [h0]),we wb,we wa]
  ·rw [we (by simpa using h0),we wb,wc True.intro,wc (by simpa using h0)]
   by_cases h1:(z.natAbs:Int)<9223372036854775808
   ·rw [decide_eq_true h1,wc rfl,wc wa,w64 wa wa]
    congr 2; omega
   ·rw [decide_eq_false h1,we wb,we wa]
 ·rw [we hn]
  simp only
  rw [we wb,we wb,we wb,we wb,we wa]
theorem zBx {z:Int} (hz:SZ z.natAbs):zhZ (iOf z)=some (zc5 z):=by
 have hl:=zx hz
 unfold zhZ
 rw [ziB hz]
 simp only [obn]
 have hS:zhX (iOf z).Mag=some (if z.natAbs<18446744073709551616 then ((z.natAbs:Int),true) else (0,false)):=by
  unfold zhX
  rw [show (iOf z).Mag=digs z.natAbs from rfl,zy9 hz]
  simp only [obn]
  by_cases hn:z.natAbs<18446744073709551616
  ·have h2:=zml.2 hn
   have hd:=zul h2
   obtain ⟨a,ha,ha2⟩:=zL (dgd z.natAbs) 0
   obtain ⟨b,hb,hb2⟩:=zL (dgd z.natAbs) 1
   have r0:=zbp (dgd z.natAbs) (i:=0)
   have r1:=zbp (dgd z.natAbs) (i:=1)
   rw [show ((0:Nat):Int)=0 from rfl] at r0
   rw [show ((1:Nat):Int)=1 from rfl] at r1
   rw [ha,hb,Int.toNat_natCast,Int.toNat_natCast] at hd
   rw [we wa,wc hn,r0]
   simp only [obn]
   rw [r1]
   simp only [obn]
   rw [ha,hb,zcL hb2,zbk wa wa,Nat.or_comm,zgb ha2]
   congr 3; omega
  ·have h2:=mt zml.1 hn
   rw [wc wa,we hn]
 rw [hS]
 simp only [obn]
 unfold zhY zc5
 rw [show (iOf z).Neg=decide (z<0) from rfl]
 by_cases hn:z.natAbs<18446744073709551616
 ·rw [wc hn]
  simp only
  rw [we wb]
  by_cases h1:(z.natAbs:Int)>9223372036854775808
  ·rw [wc h1,wc True.intro,we wa]
  ·rw [we h1]
   by_cases h2:(z.natAbs:Int)=9223372036854775808
   ·rw [wc h2]
    by_cases h0:z<0
    ·rw [we (by simpa using h0),we (by simpa using h0),wc wa,wc wa]
     congr 2; omega
    ·rw [wc (by simpa using h0),we wa]
   ·rw [we h2,we wb]
    by_cases h0:z<0
    ·rw [we (by simpa using h0),we wa,wc wa,w64 (x:=(z.natAbs:Int)) wa wa,w64 wa wa]
     congr 2; omega
    ·rw [wc (by simpa using h0),wc wa,w64 wa wa]
     congr 2; omega
 ·rw [we hn]
  simp only
  rw [wc wb,wc True.intro,we wa]
def pS (d:D) (e:Int):I × Int:=st e zI (⟨d,d⟩,0)
theorem zmm {d:D} (h:WD d) (hb:blen d.m.natAbs≤1000) (e:Int):SI (pS d e).1:=qV (r:=(⟨d,d⟩,0)) (QZ h hb) e
theorem rPS {d:D} (h:WD d) (e p:Int):zaK (dy d) p e=some (iv (pS d e).1,(pS d e).2):=zl9 h e p
end Go.Proofs.YtjffljhmjdljeaaGreat.Gen
namespace Go.An
open Go.IntKind (i64 u64 u32)
open Go.Abs (wa wb wc we)
abbrev zBy {F:Type→Type} {α:Type} (_:F α):Type→Type:=F
abbrev zBz {S:Type→Type} {F:(R:Type)→S R→(l:LE R)→LT R→Std.IsPreorder R→Prop} {α:Type} {s:S α} {l:LE α} {t:LT α} {p:Std.IsPreorder α} (_:F α s l t p):(R:Type)→S R→(l:LE R)→LT R→Std.IsPreorder R→Prop:=fun R a b c d=>F R a b c d
abbrev zBA {S:Type→Type} {F:(R:Type)→S R→Prop} {α:Type} {s:S α} (_:F α s):(R:Type)→S R→Prop:=fun R a=>F R a
theorem zi2 {a b x y:Rat} (hx : -a≤x∧x≤a) (hy : -b≤y∧y≤b) : -(a*b)≤x*y∧x*y≤a*b:=by
 have h1:=Rat.mul_nonneg (show 0≤a-x by grind) (show 0≤b-y by grind)
 have h2:=Rat.mul_nonneg (show 0≤a+x by grind) (show 0≤b+y by grind)
 have h3:=Rat.mul_nonneg (show 0≤a-x by grind) (show 0≤b+y by grind)
 have h4:=Rat.mul_nonneg (show 0≤a+x by grind) (show 0≤b-y by grind)
 constructor<;>grind
structure CS where
 f:Nat→Rat
 c:∀ e:Rat,0<e→∃ N,∀ m n,N≤m→N≤n→f m-f n≤e
theorem CS.ext {a b:CS} (h:∀ n,a.f n=b.f n):a=b:=by
 cases a; cases b; simp only [CS.mk.injEq]; exact funext h
def CS.le (a b:CS):Prop:=∀ e:Rat,0<e→∃ N,∀ n,N≤n→a.f n-b.f n≤e
theorem CS.le_refl (a:CS):a.le a:=fun e h=>⟨0,fun n _=>by grind⟩
theorem CS.le_trans {a b c:CS} (h:a.le b) (k:b.le c):a.le c:=fun e he=>by
 obtain ⟨N,hN⟩:=h (e / 2) (by grind)
 obtain ⟨M,hM⟩:=k (e / 2) (by grind)
 refine ⟨max N M,fun n hn=>?_⟩
 have h1:=hN n wa
 have h2:=hM n wa
 grind
theorem CS.gap {a b:CS} (h:¬a.le b):∃ e:Rat,0<e∧∃ N,∀ n,N≤n→b.f n+e≤a.f n:=by
 unfold CS.le at h
 simp only [Classical.not_forall,not_exists] at h
 obtain ⟨e,he,h⟩:=h
 obtain ⟨N,hN⟩:=a.c (e / 4) (by grind)
 obtain ⟨M,hM⟩:=b.c (e / 4) (by grind)
 obtain ⟨n,hn,k⟩:=h (max N M)
 refine ⟨e / 2,by grind,max N M,fun m hm=>?_⟩
 have h1:=hN n m wa wa
 have h2:=hM m n wa wa
 grind
theorem CS.le_total (a b:CS):a.le b∨b.le a:=by
 rcases Classical.em (a.le b) with h | h
 ·exact Or.inl h
 ·obtain ⟨e,he,N,hN⟩:=CS.gap h
  exact Or.inr fun d hd=>⟨N,fun n hn=>by have:=hN n hn; grind⟩
theorem CS.bnd (a:CS):∃ B:Rat,0<B∧∃ N,∀ n,N≤n→-B≤a.f n∧a.f n≤B:=by
 obtain ⟨N,hN⟩:=a.c 1 (by decide)
 have key:∀ x:Rat,∃ B:Rat,0<B∧x+1≤B∧-B≤x-1:=by
  intro x
  rcases (show 0≤x∨x≤0 by grind) with h | h
  ·exact ⟨x+1,by grind,by grind,by grind⟩
  ·exact ⟨-x+1,by grind,by grind,by grind⟩
 obtain ⟨B,hB,h1,h2⟩:=key (a.f N)
 refine ⟨B,hB,N,fun n hn=>?_⟩
 have h3:=hN n N hn (Nat.le_refl _)
 have h4:=hN N n (Nat.le_refl _) hn
 grind
def CS.ofRat (q:Rat):CS:=⟨fun _=>q,fun e he=>⟨0,fun m n _ _=>by grind⟩⟩
def CS.neg (a:CS):CS:=⟨fun n=>-a.f n,fun e he=>by
 obtain ⟨N,hN⟩:=a.c e he
 exact ⟨N,fun m n hm hn=>by have:=hN n m hn hm; grind⟩⟩
def CS.add (a b:CS):CS:=⟨fun n=>a.f n+b.f n,fun e he=>by
 obtain ⟨N,hN⟩:=a.c (e / 2) (by grind)
 obtain ⟨M,hM⟩:=b.c (e / 2) (by grind)
 refine ⟨max N M,fun m n hm hn=>?_⟩
 have h1:=hN m n wa wa
 have h2:=hM m n wa wa
 grind⟩
theorem zmn {e B:Rat} (he:0<e) (hB:0<B):∃ d:Rat,0<d∧B*d≤e:=⟨e*B⁻¹,Rat.mul_pos he (Rat.inv_pos.2 hB),by rw [Rat.mul_comm e,← Rat.mul_assoc,Rat.mul_inv_cancel _ (by grind),Rat.one_mul]; grind⟩
theorem CS.c2 (a:CS) {e:Rat} (he:0<e):∃ N,∀ m n,N≤m→N≤n→-e≤a.f m-a.f n∧a.f m-a.f n≤e:=by
 obtain ⟨N,hN⟩:=a.c e he
 exact ⟨N,fun m n hm hn=>⟨by have:=hN n m hn hm; grind,hN m n hm hn⟩⟩
def CS.mul (a b:CS):CS:=⟨fun n=>a.f n*b.f n,fun e he=>by
 obtain ⟨A,hA,N1,h1⟩:=a.bnd
 obtain ⟨B,hB,N2,h2⟩:=b.bnd
 obtain ⟨d,hd,hd'⟩:=zmn (e:=e) (B:=A+B) he (by grind)
 obtain ⟨N3,h3⟩:=a.c2 hd
 obtain ⟨N4,h4⟩:=b.c2 hd
 refine ⟨max (max N1 N2) (max N3 N4),fun m n hm hn=>?_⟩
 have k1:=zi2 (h1 m wa) (h4 m n wa wa)
 have k2:=zi2 (h2 n wa) (h3 m n wa wa)
 grind⟩
instance CS.st:Setoid CS:=⟨fun a b=>a.le b∧b.le a,⟨fun a=>⟨a.le_refl,a.le_refl⟩,fun h=>⟨h.2,h.1⟩,fun h k=>⟨CS.le_trans h.1 k.1,CS.le_trans k.2 h.2⟩⟩⟩
theorem CS.neg_le {a b:CS} (h:a.le b):b.neg.le a.neg:=fun e he=>by
 obtain ⟨N,hN⟩:=h e he
 exact ⟨N,fun n hn=>by have:=hN n hn; simp only [CS.neg]; grind⟩
theorem CS.add_le {a b c d:CS} (h:a.le b) (k:c.le d):(a.add c).le (b.add d):=fun e he=>by
 obtain ⟨N,hN⟩:=h (e / 2) (by grind)
 obtain ⟨M,hM⟩:=k (e / 2) (by grind)
 refine ⟨max N M,fun n hn=>?_⟩
 have h1:=hN n wa
 have h2:=hM n wa
 simp only [CS.add]; grind
theorem CS.add_le_iff {a b:CS} (c:CS):a.le b↔(a.add c).le (b.add c):=⟨fun h=>CS.add_le h c.le_refl,fun h e he=>by
 obtain ⟨N,hN⟩:=h e he
 exact ⟨N,fun n hn=>by have:=hN n hn; simp only [CS.add] at this; grind⟩⟩
theorem CS.eq2 {a b:CS} (h:a ≈ b) {e:Rat} (he:0<e):∃ N,∀ n,N≤n→-e≤a.f n-b.f n∧a.f n-b.f n≤e:=by
 obtain ⟨N,hN⟩:=h.1 e he
 obtain ⟨M,hM⟩:=h.2 e he
 refine ⟨max N M,fun n hn=>?_⟩
 have h1:=hN n wa
 have h2:=hM n wa
 grind
theorem CS.mul_le {a b:CS} (h:a ≈ b) (c:CS):(a.mul c).le (b.mul c):=fun e he=>by
 obtain ⟨C,hC,N,hN⟩:=c.bnd
 obtain ⟨d,hd,hd'⟩:=zmn (e:=e) (B:=C) he hC
 obtain ⟨M,hM⟩:=CS.eq2 h hd
 refine ⟨max N M,fun n hn=>?_⟩
 have k:=zi2 (hN n wa) (hM n wa)
 simp only [CS.mul]; grind
theorem CS.mul_comm' (a b:CS):a.mul b=b.mul a:=CS.ext fun n=>Rat.mul_comm _ _
theorem CS.mul_eq {a b c d:CS} (h:a ≈ b) (k:c ≈ d):a.mul c ≈ b.mul d:=by
 refine ⟨CS.le_trans (CS.mul_le h c) ?_,CS.le_trans ?_ (CS.mul_le (Setoid.symm h) c)⟩
 ·rw [CS.mul_comm' b c,CS.mul_comm' b d]; exact CS.mul_le k b
 ·rw [CS.mul_comm' b c,CS.mul_comm' b d]; exact CS.mul_le (Setoid.symm k) b
def R:Type:=Quotient CS.st
def mk (a:CS):R:=Quotient.mk _ a
theorem ind {p:R→Prop} (h:∀ a,p (mk a)) (x:R):p x:=Quotient.ind h x
def ofQ (q:Rat):R:=mk (CS.ofRat q)
instance:Neg R:=⟨Quotient.lift (fun a=>mk a.neg) fun _ _ h=>Quotient.sound ⟨CS.neg_le h.2,CS.neg_le h.1⟩⟩
instance:Add R:=⟨Quotient.lift₂ (fun a b=>mk (a.add b)) fun _ _ _ _ h k=>Quotient.sound ⟨CS.add_le h.1 k.1,CS.add_le h.2 k.2⟩⟩
instance:Sub R:=⟨fun a b=>a + -b⟩
instance:Mul R:=⟨Quotient.lift₂ (fun a b=>mk (a.mul b)) fun _ _ _ _ h k=>Quotient.sound (CS.mul_eq h k)⟩
instance:LE R:=⟨Quotient.lift₂ CS.le fun _ _ _ _ h k=>propext ⟨fun e=>CS.le_trans h.2 (CS.le_trans e k.1),fun e=>CS.le_trans h.1 (CS.le_trans e k.2)⟩⟩
instance:LT R:=⟨fun a b=>a≤b∧¬b≤a⟩
instance:NatCast R:=⟨fun n=>ofQ n⟩
instance:IntCast R:=⟨fun n=>ofQ n⟩
instance (n:Nat):OfNat R n:=⟨ofQ n⟩
def npow (x:R):Nat→R
 | 0=>1
 | n+1=>npow x n*x
instance:HPow R Nat R:=⟨npow⟩
instance:SMul Nat R:=⟨fun n x=>n*x⟩
instance:SMul Int R:=⟨fun n x=>n*x⟩
theorem zbx {a b:CS} (h:∀ n,a.f n=b.f n):mk a=mk b:=congrArg mk (CS.ext h)
theorem zP (p q:Rat):ofQ (p+q)=ofQ p+ofQ q:=rfl
theorem zk (p q:Rat):ofQ (p*q)=ofQ p*ofQ q:=rfl
theorem Qj (p:Rat):ofQ (-p) = -ofQ p:=rfl
theorem zBB (a b:R):a+b=b+a:=by
 induction a using ind; induction b using ind; exact zbx fun n=>Rat.add_comm _ _
theorem zaU (a b:R):a*b=b*a:=by
 induction a using ind; induction b using ind; exact zbx fun n=>Rat.mul_comm _ _
theorem zBC (a:R):a+0=a:=by
 induction a using ind; exact zbx fun n=>by simp only [CS.add,CS.ofRat]; grind
theorem zum (a:R):a*1=a:=by
 induction a using ind; exact zbx fun n=>by simp only [CS.mul,CS.ofRat]; grind
theorem zun (a b c:R):a*(b+c)=a*b+a*c:=by
 induction a using ind; induction b using ind; induction c using ind; exact zbx fun n=>by simp only [CS.mul,CS.add]; grind
theorem zuo (a:R):0*a=0:=by
 induction a using ind; exact zbx fun n=>by simp only [CS.mul,CS.ofRat]; grind
theorem zBD (a:R) : -a+a=0:=by
 induction a using ind; exact zbx fun n=>by simp only [CS.add,CS.neg,CS.ofRat]; grind
theorem zBE (a b:R) : -a*b = -(a*b):=by
 induction a using ind; induction b using ind; exact zbx fun n=>by simp only [CS.mul,CS.neg]; grind
instance zH4:zBy Dyadic.instCommRing R where
 nsmul:=⟨fun n x=>n*x⟩
 zsmul:=⟨fun n x=>n*x⟩
 npow:=inferInstance
 add_zero:=zBC
 add_comm:=zBB
 add_assoc a b c:=by
  induction a using ind; induction b using ind; induction c using ind; exact zbx fun n=>Rat.add_assoc _ _ _
 mul_assoc a b c:=by
  induction a using ind; induction b using ind; induction c using ind; exact zbx fun n=>Rat.mul_assoc _ _ _
 mul_one:=zum
 one_mul a:=by rw [zaU]; exact zum a
 zero_mul:=zuo
 mul_zero a:=by rw [zaU]; exact zuo a
 mul_comm:=zaU
 pow_zero _:=rfl
 pow_succ _ _:=rfl
 sub_eq_add_neg _ _:=rfl
 neg_add_cancel:=zBD
 neg_zsmul i a:=by
  show ofQ ((-i:Int):Rat)*a = -(ofQ i*a)
  rw [← zBE,← Qj,Rat.intCast_neg]
 left_distrib:=zun
 right_distrib a b c:=by rw [zaU,zun,zaU c a,zaU c b]
 intCast_neg i:=by show ofQ ((-i:Int):Rat) = -(ofQ i); rw [← Qj,Rat.intCast_neg]
 ofNat_succ n:=by show ofQ ((n+1:Nat):Rat)=ofQ n+ofQ 1; rw [← zP,Rat.natCast_add]; rfl
theorem zK (a:R):a≤a:=by induction a using ind; exact CS.le_refl _
theorem zj {a b c:R} (h:a≤b) (k:b≤c):a≤c:=by
 induction a using ind; induction b using ind; induction c using ind; exact CS.le_trans h k
theorem zi3 {a b:R} (h:a≤b) (k:b≤a):a=b:=by
 induction a using ind; induction b using ind; exact Quotient.sound ⟨h,k⟩
theorem Qk (a b:R):a≤b∨b≤a:=by
 induction a using ind; induction b using ind; exact CS.le_total _ _
instance:Std.IsLinearOrder R where
 le_refl:=zK
 le_trans _ _ _:=zj
 le_antisymm _ _:=zi3
 le_total:=Qk
instance:Std.LawfulOrderLT R where
 lt_iff _ _:=Iff.rfl
theorem zBF {a b:R} (c:R):a≤b↔a+c≤b+c:=by
 induction a using ind; induction b using ind; induction c using ind; exact CS.add_le_iff _
theorem zmo {a b:CS} (h:mk a<mk b):∃ e:Rat,0<e∧∃ N,∀ n,N≤n→a.f n+e≤b.f n:=CS.gap h.2
theorem zup {a b:CS} {e:Rat} (he:0<e) {N:Nat} (h:∀ n,N≤n→a.f n+e≤b.f n):mk a<mk b:=
 ⟨fun d hd=>⟨N,fun n hn=>by have:=h n hn; grind⟩,fun k=>by
  obtain ⟨M,hM⟩:=k (e / 2) (by grind)
  have h1:=hM (max N M) wa
  have h2:=h (max N M) wa
  grind⟩
theorem zi4 {a b c:R} (h:a<b) (hc:0<c):c*a<c*b:=by
 induction a using ind; induction b using ind; induction c using ind
 obtain ⟨e,he,N,hN⟩:=zmo h
 obtain ⟨d,hd,M,hM⟩:=zmo hc
 refine zup (Rat.mul_pos hd he) (N:=max N M) fun n hn=>?_
 have h1:=hN n wa
 have h2:=hM n wa
 simp only [CS.ofRat,CS.mul] at *
 rename_i x y z
 have h3:d*e≤z.f n*(y.f n-x.f n):=by
  have k1:=Rat.mul_le_mul_of_nonneg_left (c:=d) (show e≤y.f n-x.f n by grind) (by grind)
  have k2:=Rat.mul_le_mul_of_nonneg_right (c:=y.f n-x.f n) (show d≤z.f n by grind) (by grind)
  grind
 grind
theorem qg:(0:R)<1:=zup (e:=1) (by decide) (N:=0) fun n _=>by simp only [CS.ofRat]; grind
theorem zpL {a b c:R} (h:a<b) (hc:0<c):a*c<b*c:=by rw [zaU a,zaU b]; exact zi4 h hc
instance:zBz Dyadic.instOrderedRing R inferInstance inferInstance inferInstance inferInstance where
 add_le_left_iff c:=zBF c
 zero_lt_one:=qg
 mul_lt_mul_of_pos_left h hc:=zi4 h hc
 mul_lt_mul_of_pos_right h hc:=zpL h hc
instance:zBA Dyadic.instNoNatZeroDivisors R inferInstance where
 no_nat_zero_divisors k a b h1 h2:=by
  have h3:ofQ k*a=ofQ k*b:=h2
  have h4:ofQ (1 / k)*ofQ k=1:=by
   rw [← zk]
   have:(1 / (k:Rat))*k=1:=by
    rw [Rat.div_def,Rat.one_mul,Rat.inv_mul_cancel]
    exact_mod_cast h1
   rw [this]; rfl
  have h5:ofQ (1 / k)*ofQ k*a=ofQ (1 / k)*ofQ k*b:=by grind
  rw [h4] at h5; grind
theorem zc {p q:Rat} : ofQ p≤ofQ q↔p≤q:=by
 constructor
 ·intro h
  rcases Classical.em (p≤q) with k | k
  ·exact k
  ·obtain ⟨N,hN⟩:=h ((p-q) / 2) (by grind)
   have:=hN N (Nat.le_refl _)
   simp only [CS.ofRat] at this; grind
 ·intro h e he; exact ⟨0,fun n _=>by simp only [CS.ofRat]; grind⟩
theorem Zi {p q:Rat} : ofQ p<ofQ q↔p<q:=by
 have h:=@zc q p
 constructor
 ·intro k; have:¬ofQ q≤ofQ p:=by grind
  rw [h] at this; grind
 ·intro k; have:¬q≤p:=by grind
  rw [← h] at this; grind
theorem ZL (p q:Rat):ofQ (p-q)=ofQ p-ofQ q:=by rw [Rat.sub_eq_add_neg,zP,Qj]; grind
theorem zBG:ofQ 0=0:=rfl
theorem zap:ofQ 1=1:=rfl
theorem zc6 (n:Nat):ofQ (n:Rat)=(n:R):=rfl
theorem zc7 (e:Rat):ofQ (e / 2)+ofQ (e / 2)=ofQ e:=by rw [← zP]; congr 1; grind
theorem Ql {e:Rat} (h:0<e):0<ofQ e:=Zi.2 h
theorem zc8 (q:Rat) (n:Nat):ofQ (q ^ n)=ofQ q ^ n:=by
 induction n with
 | zero=>rw [Rat.pow_zero]; rfl
 | succ n ih=>rw [Rat.pow_succ,zk,ih]; rfl
theorem zgB {m n:Nat} (h:m≤n):(m:R)≤(n:R):=zc.2 (by exact_mod_cast h)
theorem zaq (n:Nat):((n+1:Nat):R)=(n:R)+1:=by rw [← zc6,Rat.natCast_add,zP]; rfl
theorem QC (n:Nat):0≤(n:R):=zgB (m:=0) (Nat.zero_le n)
theorem zuq {x y:R} (h:∀ e:Rat,0<e→x≤y+ofQ e):x≤y:=by
 rcases Qk x y with k | k
 ·exact k
 ·rcases Classical.em (x≤y) with q | q
  ·exact q
  ·exfalso
   induction x using ind; induction y using ind
   rename_i a b
   obtain ⟨e,he,N,hN⟩:=zmo (a:=b) (b:=a) ⟨k,q⟩
   obtain ⟨M,hM⟩:=h (e / 2) (by grind) (e / 4) (by grind)
   have h1:=hN (max N M) wa
   have h2:=hM (max N M) wa
   simp only [CS.add,CS.ofRat] at h2
   grind
theorem zur (x:R) {e:Rat} (he:0<e):∃ q:Rat,x-ofQ q≤ofQ e∧ofQ q-x≤ofQ e:=by
 induction x using ind
 rename_i a
 obtain ⟨N,hN⟩:=a.c e he
 refine ⟨a.f N,?_,?_⟩
 ·exact fun d hd=>⟨N,fun n hn=>by have:=hN n N hn (Nat.le_refl _); simp only [CS.add,CS.neg,CS.ofRat]; grind⟩
 ·exact fun d hd=>⟨N,fun n hn=>by have:=hN N n (Nat.le_refl _) hn; simp only [CS.add,CS.neg,CS.ofRat]; grind⟩
theorem zus (x:Rat):∃ n:Nat,x≤(n:Rat):=by
 refine ⟨x.ceil.toNat,?_⟩
 have h1:=Rat.le_ceil (x:=x)
 have h2:(x.ceil:Rat)≤((x.ceil.toNat:Int):Rat):=by exact_mod_cast Int.self_le_toNat _
 have h3:((x.ceil.toNat:Int):Rat)=(x.ceil.toNat:Rat):=by exact_mod_cast rfl
 grind
theorem zmp (x:R):∃ n:Nat,x≤(n:R):=by
 obtain ⟨q,h,_⟩:=zur x (e:=1) (by decide)
 obtain ⟨n,hn⟩:=zus (q+1)
 have:=zc.2 hn
 rw [zP,zc6] at this
 exact ⟨n,by grind⟩
noncomputable def ab (x:R):R:=@ite _ (0≤x) (Classical.propDecidable _) x (-x)
theorem zm (x:R):0≤ab x:=by unfold ab; split<;>grind
theorem ab_le {x b:R} : ab x≤b↔-b≤x∧x≤b:=by unfold ab; split<;>grind
theorem zb9 (x:R):x≤ab x∧-x≤ab x:=by unfold ab; split<;>grind
theorem zew (x:R):ab (-x)=ab x:=by unfold ab; split<;>split<;>grind
theorem Z3 (x y:R):ab (x+y)≤ab x+ab y:=by unfold ab; split<;>split<;>split<;>grind
theorem zBH (x y:R):ab (x-y)≤ab x+ab y:=by unfold ab; split<;>split<;>split<;>grind
theorem qi {x:R} (h:0≤x):ab x=x:=by unfold ab; rw [wc h]
theorem Z4:ab 0=0:=qi (by grind)
theorem zf {x y:R} (hx:0≤x) (hy:0≤y):0≤x*y:=by
 rcases Classical.em (x=0) with h | h
 ·subst h; grind
 ·have:=zi4 (a:=0) (b:=x) (c:=y)
  rcases Classical.em (y=0) with k | k
  ·subst k; grind
  ·have:=this (by grind) (by grind); grind
theorem zF {a b c:R} (h:a≤b) (hc:0≤c):a*c≤b*c:=by have:=zf (show 0≤b-a by grind) hc; grind
theorem qP {a b c:R} (h:a≤b) (hc:0≤c):c*a≤c*b:=by have:=zf (show 0≤b-a by grind) hc; grind
theorem qs {a b c d:R} (h:a≤b) (k:c≤d) (ha:0≤a) (hd:0≤d):a*c≤b*d:=zj (qP k ha) (zF h hd)
theorem Z5 {x y:R} (hx:0<x) (hy:0<y):0<x*y:=by have:=zi4 hy hx; grind
theorem Zv (x:R):0≤x*x:=by
 rcases Qk 0 x with h | h
 ·exact zf h h
 ·have:=zf (x:=-x) (y:=-x) (by grind) (by grind); grind
theorem zS (x y:R):ab (x*y)=ab x*ab y:=by
 unfold ab
 split<;>rename_i h1<;>split<;>rename_i h2<;>split<;>rename_i h3
 ·rfl
 ·have:=zf (x:=x) (y:=-y) h2 (by grind); grind
 ·have:=zf (x:=-x) (y:=y) (by grind) h3; grind
 ·grind
 ·exact absurd (zf h2 h3) h1
 ·grind
 ·grind
 ·have:=zf (x:=-x) (y:=-y) (by grind) (by grind); grind
theorem zB (x:R) (n:Nat):x ^ (n+1)=x ^ n*x:=rfl
theorem zZ (x:R):x ^ 0=1:=rfl
theorem zut (x:R) (n:Nat):ab (x ^ n)=ab x ^ n:=by
 induction n with
 | zero=>exact qi (by rw [zZ]; grind)
 | succ n ih=>rw [zB,zB,zS,ih]
theorem pow_nonneg {x:R} (h:0≤x) (n:Nat):0≤x ^ n:=by
 induction n with
 | zero=>rw [zZ]; grind
 | succ n ih=>rw [zB]; exact zf ih h
theorem pow_pos {x:R} (h:0<x) (n:Nat):0<x ^ n:=by
 induction n with
 | zero=>rw [zZ]; grind
 | succ n ih=>rw [zB]; exact Z5 ih h
theorem zmq {x y:R} (h:0≤x) (k:x≤y) (n:Nat):x ^ n≤y ^ n:=by
 induction n with
 | zero=>rw [zZ,zZ]; grind
 | succ n ih=>rw [zB,zB]; exact qs ih k (pow_nonneg h n) (by grind)
theorem zgC (x y:R) (n:Nat):(x*y) ^ n=x ^ n*y ^ n:=by
 induction n with
 | zero=>rw [zZ,zZ,zZ]; grind
 | succ n ih=>rw [zB,zB,zB,ih]; grind
theorem zBI {x:R} (h:x≠0):∃ y,x*y=1:=by
 have pos:∀ x:R,0<x→∃ y,x*y=1:=by
  intro x hx
  induction x using ind
  rename_i a
  obtain ⟨e,he,N,hN⟩:=zmo hx
  have h0:∀ n,N≤n→e≤a.f n:=fun n hn=>by have:=hN n hn; simp only [CS.ofRat] at this; grind
  have inv:∀ q:Rat,e≤q→q*q⁻¹=1∧0≤q⁻¹∧q⁻¹≤e⁻¹:=by
   intro q hq
   have h1:q*q⁻¹=1:=Rat.mul_inv_cancel _ (by grind)
   have h2:e*e⁻¹=1:=Rat.mul_inv_cancel _ (by grind)
   have h3:0<q⁻¹:=Rat.inv_pos.2 (by grind)
   have h4:0<e⁻¹:=Rat.inv_pos.2 he
   have h5:=Rat.mul_le_mul_of_nonneg_right (c:=q⁻¹*e⁻¹) hq (Rat.le_of_lt (Rat.mul_pos h3 h4))
   refine ⟨h1,Rat.le_of_lt h3,?_⟩
   have h6:e*(q⁻¹*e⁻¹)=q⁻¹:=by grind
   have h7:q*(q⁻¹*e⁻¹)=e⁻¹:=by grind
   grind
  refine ⟨mk ⟨fun n=>(a.f n)⁻¹,fun d hd=>?_⟩,?_⟩
  ·obtain ⟨c,hc,hc'⟩:=zmn (e:=d) (B:=e⁻¹*e⁻¹) hd (Rat.mul_pos (Rat.inv_pos.2 he) (Rat.inv_pos.2 he))
   obtain ⟨M,hM⟩:=a.c2 hc
   refine ⟨max N M,fun m n hm hn=>?_⟩
   have k1:=inv _ (h0 m wa)
   have k2:=inv _ (h0 n wa)
   have k3:=hM n m wa wa
   have k4:=zi2 (a:=e⁻¹) (x:=(a.f m)⁻¹) (b:=e⁻¹) (y:=(a.f n)⁻¹) (by grind) (by grind)
   have k5:=zi2 k4 k3
   have k6:(a.f m)⁻¹-(a.f n)⁻¹=(a.f m)⁻¹*(a.f n)⁻¹*(a.f n-a.f m):=by grind
   show (a.f m)⁻¹-(a.f n)⁻¹≤d
   rw [k6]; exact Rat.le_trans k5.2 hc'
  ·refine Quotient.sound ⟨fun d hd=>⟨N,fun n hn=>?_⟩,fun d hd=>⟨N,fun n hn=>?_⟩⟩
   ·have:=(inv _ (h0 n hn)).1; simp only [CS.mul,CS.ofRat]; grind
   ·have:=(inv _ (h0 n hn)).1; simp only [CS.mul,CS.ofRat]; grind
 rcases Qk 0 x with k | k
 ·exact pos x (by grind)
 ·obtain ⟨y,hy⟩:=pos (-x) (by grind)
  exact ⟨-y,by grind⟩
noncomputable instance:Inv R:=⟨fun x=>@dite _ (∃ y,x*y=1) (Classical.propDecidable _) (fun h=>Classical.choose h) fun _=>0⟩
theorem qQ {x:R} (h:x≠0):x*x⁻¹=1:=by
 have k:=zBI h
 have e:x⁻¹=Classical.choose k:=dif_pos k
 rw [e]; exact Classical.choose_spec k
noncomputable instance:Div R:=⟨fun x y=>x*y⁻¹⟩
theorem inv_pos {x:R} (h:0<x):0<x⁻¹:=by
 have h1:=qQ (x:=x) (by grind)
 rcases Qk x⁻¹ 0 with k | k
 ·have:=zf (x:=x) (y:=-x⁻¹) (by grind) (by grind); grind
 ·rcases Classical.em (x⁻¹=0) with q | q
  ·rw [q] at h1; grind
  ·grind
theorem zmr {q:Rat} (h:q≠0):ofQ q⁻¹=(ofQ q)⁻¹:=by
 have h1:ofQ q*ofQ q⁻¹=1:=by rw [← zk,Rat.mul_inv_cancel _ h]; rfl
 have h2:=qQ (x:=ofQ q) (by intro k; rw [k] at h1; grind)
 grind
theorem zgD {x y c:R} (hc:0<c) (h:x*c≤y*c):x≤y:=by
 have:=zF h (show 0≤c⁻¹ by have:=inv_pos hc; grind)
 have k:=qQ (x:=c) (by grind)
 have h1:x*c*c⁻¹=x:=by grind
 have h2:y*c*c⁻¹=y:=by grind
 grind
theorem zuu {x y c:R} (hc:c≠0) (h:x*c=y*c):x=y:=by
 have k:=qQ hc
 grind
theorem zBJ {e:Rat} (he:0<e) (B:R):∃ d:Rat,0<d∧B*ofQ d≤ofQ e:=by
 obtain ⟨n,hn⟩:=zmp B
 obtain ⟨d,hd,h⟩:=zmn (e:=e) (B:=((n+1:Nat):Rat)) he (by exact_mod_cast Nat.succ_pos n)
 refine ⟨d,hd,?_⟩
 have h1:=zc.2 h
 rw [zk,zc6,zaq] at h1
 have:=zF (show B≤(n:R)+1 by grind) (show 0≤ofQ d by have:=Ql hd; grind)
 grind
def Conv (s:Nat→R) (x:R):Prop:=∀ e:Rat,0<e→∃ N,∀ n,N≤n→s n-x≤ofQ e∧x-s n≤ofQ e
theorem Conv.le {s t:Nat→R} {x y:R} (h:Conv s x) (k:Conv t y) (N:Nat) (hl:∀ n,N≤n→s n≤t n):x≤y:=zuq fun e he=>by
 obtain ⟨M,hM⟩:=h (e / 2) (by grind)
 obtain ⟨L,hL⟩:=k (e / 2) (by grind)
 have h1:=hM (max N (max M L)) wa
 have h2:=hL (max N (max M L)) wa
 have h3:=hl (max N (max M L)) wa
 have h4:=zc7 e
 grind
theorem Conv.uniq {s:Nat→R} {x y:R} (h:Conv s x) (k:Conv s y):x=y:=
 zi3 (h.le k 0 fun n _=>zK _) (k.le h 0 fun n _=>zK _)
theorem Conv.const (x:R):Conv (fun _=>x) x:=fun e he=>⟨0,fun n _=>by have:=Ql he; grind⟩
theorem Conv.add {s t:Nat→R} {x y:R} (h:Conv s x) (k:Conv t y):Conv (fun n=>s n+t n) (x+y):=fun e he=>by
 obtain ⟨M,hM⟩:=h (e / 2) (by grind)
 obtain ⟨L,hL⟩:=k (e / 2) (by grind)
 refine ⟨max M L,fun n hn=>?_⟩
 have h1:=hM n wa
 have h2:=hL n wa
 have h4:=zc7 e
 grind
theorem Conv.mul_c {s:Nat→R} {x:R} (h:Conv s x) (c:R):Conv (fun n=>s n*c) (x*c):=fun e he=>by
 obtain ⟨d,hd,hd'⟩:=zBJ he (ab c)
 obtain ⟨M,hM⟩:=h d hd
 refine ⟨M,fun n hn=>?_⟩
 have h1:=hM n hn
 have h2:ab ((s n-x)*c)≤ofQ e:=by
  rw [zS]
  have:=zF (ab_le.2 (show -ofQ d≤s n-x∧s n-x≤ofQ d by grind)) (zm c)
  grind
 have:=ab_le.1 h2
 grind
theorem Conv.neg {s:Nat→R} {x:R} (h:Conv s x):Conv (fun n=>-s n) (-x):=fun e he=>by
 obtain ⟨N,hN⟩:=h e he
 exact ⟨N,fun n hn=>by have:=hN n hn; grind⟩
theorem Conv.sub {s t:Nat→R} {x y:R} (h:Conv s x) (k:Conv t y):Conv (fun n=>s n-t n) (x-y):=by
 have:=h.add k.neg
 have e:x-y=x + -y:=by grind
 rw [e]
 intro d hd
 obtain ⟨N,hN⟩:=this d hd
 exact ⟨N,fun n hn=>by have:=hN n hn; grind⟩
theorem Conv.shift {s:Nat→R} {x:R} (h:Conv s x) (k:Nat):Conv (fun n=>s (n+k)) x:=fun e he=>by
 obtain ⟨N,hN⟩:=h e he
 exact ⟨N,fun n hn=>hN (n+k) wa⟩
theorem Conv.congr {s t:Nat→R} {x:R} (h:Conv s x) (k:∀ n,s n=t n):Conv t x:=by
 have:s=t:=funext k
 rwa [← this]
theorem Conv.le_c {s:Nat→R} {x y:R} (h:Conv s x) (N:Nat) (hl:∀ n,N≤n→s n≤y):x≤y:=h.le (Conv.const y) N hl
theorem Conv.ge_c {s:Nat→R} {x y:R} (h:Conv s x) (N:Nat) (hl:∀ n,N≤n→y≤s n):y≤x:=(Conv.const y).le h N hl
theorem Conv.ab_le {s:Nat→R} {x y:R} (h:Conv s x) (N:Nat) (hl:∀ n,N≤n→ab (s n)≤y):ab x≤y:=
 An.ab_le.2 ⟨h.ge_c N fun n hn=>(An.ab_le.1 (hl n hn)).1,h.le_c N fun n hn=>(An.ab_le.1 (hl n hn)).2⟩
theorem zBK {s:Nat→R} (h:∀ e:Rat,0<e→∃ N,∀ m n,N≤m→N≤n→s m-s n≤ofQ e):∃ x,Conv s x:=by
 have hq:∀ n:Nat,∃ q:Rat,s n-ofQ q≤ofQ (((n+1:Nat):Rat)⁻¹)∧ofQ q-s n≤ofQ (((n+1:Nat):Rat)⁻¹):=fun n=>zur (s n) (Rat.inv_pos.2 (by exact_mod_cast Nat.succ_pos n))
 have hsm:∀ e:Rat,0<e→∃ N:Nat,∀ n,N≤n→((n+1:Nat):Rat)⁻¹≤e:=by
  intro e he
  obtain ⟨N,hN⟩:=zus e⁻¹
  refine ⟨N,fun n hn=>?_⟩
  have h1:e*e⁻¹=1:=Rat.mul_inv_cancel _ (by grind)
  have hp:(0:Rat)<((n+1:Nat):Rat):=by exact_mod_cast Nat.succ_pos n
  have h2:((n+1:Nat):Rat)*((n+1:Nat):Rat)⁻¹=1:=Rat.mul_inv_cancel _ (by grind)
  have h3:(N:Rat)≤((n+1:Nat):Rat):=by exact_mod_cast (by omega:N≤n+1)
  have h4:=Rat.mul_le_mul_of_nonneg_left (c:=e*((n+1:Nat):Rat)⁻¹) (show e⁻¹≤((n+1:Nat):Rat) by grind) (Rat.le_of_lt (Rat.mul_pos he (Rat.inv_pos.2 hp)))
  generalize ((n+1:Nat):Rat)=z at *
  have h5:e*z⁻¹*e⁻¹=z⁻¹:=by grind
  have h6:e*z⁻¹*z=e:=by grind
  grind
 obtain ⟨q,hq⟩:=Classical.axiomOfChoice hq
 have key:∀ e:Rat,0<e→∃ N,∀ m n,N≤m→N≤n→q m-q n≤e:=by
  intro e he
  obtain ⟨N,hN⟩:=h (e / 2) (by grind)
  obtain ⟨M,hM⟩:=hsm (e / 4) (by grind)
  refine ⟨max N M,fun m n hm hn=>?_⟩
  have h1:=hN m n wa wa
  have h2:=zc.2 (hM m wa)
  have h3:=zc.2 (hM n wa)
  have h4:=hq m
  have h5:=hq n
  rw [← zc,ZL]
  have h6:ofQ (e / 4)+ofQ (e / 4)=ofQ (e / 2):=by rw [← zP]; congr 1; grind
  have h7:=zc7 e
  grind
 refine ⟨mk ⟨q,key⟩,fun e he=>?_⟩
 obtain ⟨N,hN⟩:=key (e / 2) (by grind)
 obtain ⟨M,hM⟩:=hsm (e / 2) (by grind)
 refine ⟨max N M,fun n hn=>?_⟩
 have h1:=hq n
 have h2:=zc.2 (hM n wa)
 have h3:=zc7 e
 have h4:ofQ (q n)-mk ⟨q,key⟩≤ofQ (e / 2):=fun d hd=>⟨N,fun m hm=>by have:=hN n m wa hm; simp only [CS.add,CS.neg,CS.ofRat]; grind⟩
 have h5:mk ⟨q,key⟩-ofQ (q n)≤ofQ (e / 2):=fun d hd=>⟨N,fun m hm=>by have:=hN m n hm wa; simp only [CS.add,CS.neg,CS.ofRat]; grind⟩
 grind
theorem between {x y:R} (h:x<y):∃ z,x<z∧z<y:=by
 have k:=zc7 1
 rw [zap] at k
 generalize ofQ (1 / 2)=c at k
 have e:(x+y)*c+(x+y)*c=x+y:=by grind
 exact ⟨(x+y)*c,by grind,by grind⟩
def psum (a:Nat→R) (x:R):Nat→R
 | 0=>0
 | n+1=>psum a x n+a n*x ^ n
structure Geo (t w:R):Prop where
 h0:0≤t
 h1:t<1
 hw:w*(1-t)=1
theorem Geo.pos {t w:R} (h:Geo t w):0<w:=by
 have h1:=h.h1
 rcases Qk w 0 with k | k
 ·have:=zf (x:=-w) (y:=1-t) (by grind) (by grind); have:=h.hw; grind
 ·rcases Classical.em (w=0) with q | q
  ·have:=h.hw; subst q; grind
  ·grind
theorem ratio {x r:R} (hx:0≤x) (h:x<r):∃ t w,Geo t w∧x=t*r:=by
 have hr:0<r:=by grind
 have hi:=qQ (x:=r) (by grind)
 have h1:x*r⁻¹<1:=by have:=zpL h (inv_pos hr); grind
 exact ⟨x*r⁻¹,(1-x*r⁻¹)⁻¹,⟨zf hx (by have:=inv_pos hr; grind),h1,by rw [zaU]; exact qQ (by grind)⟩,by grind⟩
theorem zBL {t w:R} (h:Geo t w) (n:Nat):t ^ n*(1+n*(1-t))≤1:=by
 induction n with
 | zero=>rw [zZ,show ((0:Nat):R)=0 from rfl]; grind
 | succ n ih=>
  rw [zB,zaq]
  have h1:t*(1+(n+1)*(1-t))≤1+n*(1-t):=by
   have:=zf (x:=(n:R)+1) (y:=(1-t)*(1-t)) (by have:=QC n; grind) (Zv _)
   grind
  have h2:=qP h1 (pow_nonneg h.h0 n)
  have h3:t ^ n*t*(1+(n+1)*(1-t))=t ^ n*(t*(1+(n+1)*(1-t))):=by grind
  grind
theorem zBM {t w:R} (h:Geo t w) {B:R} (hB:0≤B) {e:Rat} (he:0<e):∃ N:Nat,∀ n:Nat,N≤n→B*t ^ n≤ofQ e:=by
 have hd:0<1-t:=by have:=h.h1; grind
 have hed:=Z5 (Ql he) hd
 obtain ⟨N,hN⟩:=zmp (B*(ofQ e*(1-t))⁻¹)
 have hi:=qQ (x:=ofQ e*(1-t)) (by grind)
 have h1:B≤N*(ofQ e*(1-t)):=by
  have:=zF hN (show 0≤ofQ e*(1-t) by grind)
  have k:B*(ofQ e*(1-t))⁻¹*(ofQ e*(1-t))=B:=by grind
  grind
 refine ⟨N,fun n hn=>?_⟩
 have h2:=zF (zgB hn) (show 0≤ofQ e*(1-t) by grind)
 have h3:=zBL h n
 have h4:=zF (show B≤ofQ e*(1+n*(1-t)) by have:=Ql he; grind) (pow_nonneg h.h0 n)
 have h5:=qP h3 (show 0≤ofQ e by have:=Ql he; grind)
 grind
structure PB (a:Nat→R) (r K:R):Prop where
 r0:0<r
 h:∀ n,ab (a n)*r ^ n≤K
theorem PB.k0 {a:Nat→R} {r K:R} (h:PB a r K):0≤K:=by
 have h1:=h.h 0
 have h2:=zm (a 0)
 rw [zZ] at h1; grind
theorem PB.term {a:Nat→R} {r K:R} (h:PB a r K) {t x:R} (ht:0≤t) (hx:ab x≤t*r) (n:Nat):ab (a n*x ^ n)≤K*t ^ n:=by
 rw [zS,zut]
 have h1:=zmq (zm x) hx n
 rw [zgC] at h1
 have h2:=qP h1 (zm (a n))
 have h3:=zF (h.h n) (pow_nonneg ht n)
 have h4:ab (a n)*(t ^ n*r ^ n)=ab (a n)*r ^ n*t ^ n:=by grind
 grind
theorem zms {a:Nat→R} {r K:R} (h:PB a r K) {t w x:R} (hg:Geo t w) (hx:ab x≤t*r) (m k:Nat):ab (psum a x (m+k)-psum a x m)+K*w*t ^ (m+k)≤K*w*t ^ m:=by
 induction k with
 | zero=>
  have:psum a x (m+0)-psum a x m=0:=by rw [Nat.add_zero]; grind
  rw [this,Z4,Nat.add_zero]; grind
 | succ k ih=>
  have h1:=h.term hg.h0 hx (m+k)
  have h2:=Z3 (psum a x (m+k)-psum a x m) (a (m+k)*x ^ (m+k))
  have h3:psum a x (m+(k+1))-psum a x m=psum a x (m+k)-psum a x m+a (m+k)*x ^ (m+k):=by
   show psum a x (m+k)+a (m+k)*x ^ (m+k)-psum a x m=_; grind
  rw [h3]
  have h4:t ^ (m+(k+1))=t ^ (m+k)*t:=rfl
  have h5:=hg.hw
  have h6:K*t ^ (m+k)+K*w*(t ^ (m+k)*t)=K*w*t ^ (m+k):=by grind
  rw [h4]; grind
theorem zBN {a:Nat→R} {r K:R} (h:PB a r K) {x:R} (hx:ab x<r):∃ y,Conv (psum a x) y:=by
 obtain ⟨t,w,hg,hxt⟩:=ratio (zm x) hx
 refine zBK fun e he=>?_
 have hKw:0≤K*w:=zf h.k0 (by have:=hg.pos; grind)
 obtain ⟨N,hN⟩:=zBM hg hKw (e:=e / 2) (by grind)
 have key:∀ n,N≤n→ab (psum a x n-psum a x N)≤ofQ (e / 2):=by
  intro n hn
  obtain ⟨k,rfl⟩:∃ k,n=N+k:=⟨n-N,wa⟩
  have h1:=zms h hg (show ab x≤t*r by grind) N k
  have h2:=hN N (Nat.le_refl _)
  have h3:=zf hKw (pow_nonneg hg.h0 (N+k))
  grind
 refine ⟨N,fun m n hm hn=>?_⟩
 have h1:=ab_le.1 (key m hm)
 have h2:=ab_le.1 (key n hn)
 have h3:=zc7 e
 grind
noncomputable def ps (a:Nat→R) (x:R):R:=@dite _ (∃ y,Conv (psum a x) y) (Classical.propDecidable _) (fun h=>Classical.choose h) fun _=>0
theorem zex {a:Nat→R} {r K:R} (h:PB a r K) {x:R} (hx:ab x<r):Conv (psum a x) (ps a x):=by
 have k:=zBN h hx
 have e:ps a x=Classical.choose k:=dif_pos k
 rw [e]; exact Classical.choose_spec k
theorem zi5 {a:Nat→R} {r K:R} (h:PB a r K) {t w x:R} (hg:Geo t w) (hx:ab x≤t*r) (m:Nat):ab (ps a x-psum a x m)≤K*w*t ^ m:=by
 have hxr:ab x<r:=by have:=zpL hg.h1 h.r0; grind
 have h1:=((zex h hxr).shift m).sub (Conv.const (psum a x m))
 refine h1.ab_le 0 fun n _=>?_
 have h2:=zms h hg hx m n
 rw [Nat.add_comm m n] at h2
 have h3:=zf (zf h.k0 (show 0≤w by have:=hg.pos; grind)) (pow_nonneg hg.h0 (n+m))
 grind
theorem zuv {a:Nat→R} {x y:R} (h:Conv (psum a x) y):ps a x=y:=by
 have k:∃ y,Conv (psum a x) y:=⟨y,h⟩
 have e:ps a x=Classical.choose k:=dif_pos k
 rw [e]; exact (Classical.choose_spec k).uniq h
theorem zBO (a:Nat→R) (n:Nat):psum a 0 (n+1)=a 0:=by
 induction n with
 | zero=>show 0+a 0*(0:R) ^ 0=a 0; rw [zZ]; grind
 | succ n ih=>show psum a 0 (n+1)+a (n+1)*(0:R) ^ (n+1)=a 0; rw [ih,zB]; grind
theorem zey (a:Nat→R):ps a 0=a 0:=zuv fun e he=>⟨1,fun n hn=>by
 obtain ⟨k,rfl⟩:∃ k,n=k+1:=⟨n-1,wa⟩
 rw [zBO]; have:=Ql he; grind⟩
def da (a:Nat→R) (n:Nat):R:=((n+1:Nat):R)*a (n+1)
def dq (x y:R):Nat→R
 | 0=>0
 | n+1=>y*dq x y n+((n+1:Nat):R)*x ^ n
theorem zBP (x y:R) (n:Nat):y ^ (n+1)-x ^ (n+1)-((n+1:Nat):R)*x ^ n*(y-x)=dq x y n*((y-x)*(y-x)):=by
 induction n with
 | zero=>
  rw [show dq x y 0=0 from rfl,zB,zB,zZ,zZ,show ((0+1:Nat):R)=1 from rfl]; grind
 | succ n ih=>
  rw [show dq x y (n+1)=y*dq x y n+((n+1:Nat):R)*x ^ n from rfl,zB y,zB x (n+1),zaq (n+1)]
  have h:x ^ (n+1)=x ^ n*x:=rfl
  generalize dq x y n=d at *
  generalize y ^ (n+1)=Y at *
  generalize ((n+1:Nat):R)=c at *
  rw [h] at ih ⊢
  generalize x ^ n=z at *
  grind
def gq (t:R):Nat→R
 | 0=>0
 | n+1=>t*gq t n+((n+1:Nat):R)*t ^ n
theorem zpM {t:R} (h:0≤t) (n:Nat):0≤gq t n:=by
 induction n with
 | zero=>exact zK 0
 | succ n ih=>
  have h1:=zf h ih
  have h2:=zf (QC (n+1)) (pow_nonneg h n)
  show 0≤t*gq t n+((n+1:Nat):R)*t ^ n
  grind
theorem zBQ {t r x y:R} (ht:0≤t) (hr:0≤r) (hx:ab x≤t*r) (hy:ab y≤t*r) (n:Nat):ab (dq x y n)*r≤gq t n*r ^ n:=by
 induction n with
 | zero=>rw [show dq x y 0=0 from rfl,show gq t 0=0 from rfl,Z4]; grind
 | succ n ih=>
  rw [show dq x y (n+1)=y*dq x y n+((n+1:Nat):R)*x ^ n from rfl,show gq t (n+1)=t*gq t n+((n+1:Nat):R)*t ^ n from rfl,zB r]
  have h1:=Z3 (y*dq x y n) (((n+1:Nat):R)*x ^ n)
  rw [zS,zS,zut,qi (QC (n+1))] at h1
  have h2:=zmq (zm x) hx n
  rw [zgC] at h2
  have h3:=qP h2 (QC (n+1))
  have h4:=qs hy ih (zm y) (zf (zpM ht n) (pow_nonneg hr n))
  have h5:=zF h1 hr
  have h6:=zF h3 hr
  have h7:(ab y*ab (dq x y n)+((n+1:Nat):R)*ab x ^ n)*r=ab y*(ab (dq x y n)*r)+((n+1:Nat):R)*ab x ^ n*r:=by grind
  have h8:(t*gq t n+((n+1:Nat):R)*t ^ n)*(r ^ n*r)=t*r*(gq t n*r ^ n)+((n+1:Nat):R)*(t ^ n*r ^ n)*r:=by grind
  grind
def e0 (t:R):Nat→R
 | 0=>0
 | n+1=>e0 t n+t ^ n
def e1 (t:R):Nat→R
 | 0=>0
 | n+1=>e1 t n+((n+1:Nat):R)*t ^ n
def e2 (t:R):Nat→R
 | 0=>0
 | n+1=>e2 t n+gq t n
theorem zBR (t:R) (n:Nat):(1-t)*e0 t n+t ^ n=1:=by
 induction n with
 | zero=>rw [show e0 t 0=0 from rfl,zZ]; grind
 | succ n ih=>rw [show e0 t (n+1)=e0 t n+t ^ n from rfl,zB]; grind
theorem zBS (t:R) (n:Nat):(1-t)*e1 t n+n*t ^ n=e0 t n:=by
 induction n with
 | zero=>rw [show e0 t 0=0 from rfl,show e1 t 0=0 from rfl,show ((0:Nat):R)=0 from rfl]; grind
 | succ n ih=>rw [show e0 t (n+1)=e0 t n+t ^ n from rfl,show e1 t (n+1)=e1 t n+((n+1:Nat):R)*t ^ n from rfl,zB,zaq]; grind
theorem zBT (t:R) (n:Nat):(1-t)*e2 t n+gq t n=e1 t n:=by
 induction n with
 | zero=>rw [show e2 t 0=0 from rfl,show e1 t 0=0 from rfl,show gq t 0=0 from rfl]; grind
 | succ n ih=>rw [show e2 t (n+1)=e2 t n+gq t n from rfl,show e1 t (n+1)=e1 t n+((n+1:Nat):R)*t ^ n from rfl,show gq t (n+1)=t*gq t n+((n+1:Nat):R)*t ^ n from rfl]; grind
theorem zpN {t w x y:R} (hg:Geo t w) (h:(1-t)*x≤y):x≤w*y:=by
 have h1:=qP h (show 0≤w by have:=hg.pos; grind)
 have h2:=hg.hw
 have h3:w*((1-t)*x)=x:=by grind
 grind
theorem zuw {t w:R} (hg:Geo t w) (n:Nat):e1 t n≤w*w:=by
 have h1:=zBR t n
 have h2:=zBS t n
 have h3:=zpN hg (show (1-t)*e0 t n≤1 by have:=pow_nonneg hg.h0 n; grind)
 refine zpN hg ?_
 have:=zf (QC n) (pow_nonneg hg.h0 n)
 grind
theorem zBU {t w:R} (hg:Geo t w) (n:Nat):e2 t n≤w*(w*w):=by
 refine zpN hg ?_
 have h1:=zBT t n
 have h2:=zuw hg n
 have h3:=zpM hg.h0 n
 grind
theorem zBV {t w:R} (hg:Geo t w) (n:Nat):((n+1:Nat):R)*t ^ n≤w*w:=by
 have h1:=zuw hg (n+1)
 rw [show e1 t (n+1)=e1 t n+((n+1:Nat):R)*t ^ n from rfl] at h1
 have h2:0≤e1 t n:=by
  clear h1
  induction n with
  | zero=>exact zK 0
  | succ n ih=>
   have:=zf (QC (n+1)) (pow_nonneg hg.h0 n)
   show 0≤e1 t n+((n+1:Nat):R)*t ^ n
   grind
 grind
theorem PB.da {a:Nat→R} {r K:R} (h:PB a r K) {s:R} (hs:0<s) (hsr:s<r):∃ L,PB (da a) s L:=by
 obtain ⟨t,w,hg,e⟩:=ratio (show 0≤s by grind) hsr
 have hi:=qQ (x:=r) (by have:=h.r0; grind)
 refine ⟨K*(w*w)*r⁻¹,hs,fun n=>?_⟩
 have h1:=zBV hg n
 have h2:=h.h (n+1)
 have hri:=inv_pos h.r0
 rw [An.da,zS,qi (QC (n+1)),e,zgC]
 have h3:=qs h1 h2 (zf (QC (n+1)) (pow_nonneg hg.h0 n)) h.k0
 have h4:=zF h3 (show 0≤r⁻¹ by grind)
 have h5:((n+1:Nat):R)*t ^ n*(ab (a (n+1))*r ^ (n+1))*r⁻¹=((n+1:Nat):R)*ab (a (n+1))*(t ^ n*r ^ n):=by rw [zB]; grind
 grind
def sq (a:Nat→R) (x y:R):Nat→R
 | 0=>0
 | n+1=>sq a x y n+a (n+1)*dq x y n
theorem zBW (a:Nat→R) (x y:R) (n:Nat):psum a y (n+1)-psum a x (n+1)-psum (da a) x n*(y-x)=sq a x y n*((y-x)*(y-x)):=by
 induction n with
 | zero=>
  rw [show sq a x y 0=0 from rfl,show psum (da a) x 0=0 from rfl,show psum a y (0+1)=0+a 0*y ^ 0 from rfl,show psum a x (0+1)=0+a 0*x ^ 0 from rfl,zZ,zZ]; grind
 | succ n ih=>
  rw [show sq a x y (n+1)=sq a x y n+a (n+1)*dq x y n from rfl,show psum (da a) x (n+1)=psum (da a) x n+da a n*x ^ n from rfl,show psum a y (n+1+1)=psum a y (n+1)+a (n+1)*y ^ (n+1) from rfl,show psum a x (n+1+1)=psum a x (n+1)+a (n+1)*x ^ (n+1) from rfl]
  have h:=zBP x y n
  rw [da]
  generalize dq x y n=d at *
  generalize y ^ (n+1)=Y at *
  generalize x ^ (n+1)=X at *
  generalize x ^ n=z at *
  generalize ((n+1:Nat):R)=c at *
  generalize a (n+1)=A at *
  generalize psum a y (n+1)=p1 at *
  generalize psum a x (n+1)=p2 at *
  generalize psum (da a) x n=p3 at *
  generalize sq a x y n=p4 at *
  have h8:Y=X+c*z*(y-x)+d*((y-x)*(y-x)):=by grind
  have h9:p1=p2+p3*(y-x)+p4*((y-x)*(y-x)):=by grind
  rw [h8,h9]; grind
theorem sq_le {a:Nat→R} {r K:R} (h:PB a r K) {t x y:R} (ht:0≤t) (hx:ab x≤t*r) (hy:ab y≤t*r) (n:Nat):ab (sq a x y n)*(r*r)≤K*e2 t n:=by
 induction n with
 | zero=>rw [show sq a x y 0=0 from rfl,show e2 t 0=0 from rfl,Z4]; grind
 | succ n ih=>
  rw [show sq a x y (n+1)=sq a x y n+a (n+1)*dq x y n from rfl,show e2 t (n+1)=e2 t n+gq t n from rfl]
  have h1:=Z3 (sq a x y n) (a (n+1)*dq x y n)
  rw [zS] at h1
  have hr:=h.r0
  have h2:=zBQ ht (by grind) hx hy n
  have h3:=qP h2 (zf (zm (a (n+1))) (show 0≤r by grind))
  have h4:=zF (h.h (n+1)) (zpM ht n)
  have h5:=zF h1 (show 0≤r*r from zf (by grind) (by grind))
  have h6:ab (a (n+1))*r*(ab (dq x y n)*r)=ab (a (n+1))*ab (dq x y n)*(r*r):=by grind
  have h7:ab (a (n+1))*r*(gq t n*r ^ n)=ab (a (n+1))*r ^ (n+1)*gq t n:=by rw [zB]; grind
  grind
theorem zBX {a:Nat→R} {r K:R} (h:PB a r K) {s:R} (hs:0≤s) (hsr:s<r):∃ C,0≤C∧∀ x y,ab x≤s→ab y≤s→ab (ps a y-ps a x-ps (da a) x*(y-x))≤C*((y-x)*(y-x)):=by
 obtain ⟨t,w,hg,e⟩:=ratio hs hsr
 have hr:=h.r0
 have hrr:=Z5 hr hr
 have hi:=qQ (x:=r*r) (by grind)
 have hip:=inv_pos hrr
 have hwp:=hg.pos
 have hKw:0≤K*(w*(w*w)):=zf h.k0 (zf (by grind) (zf (by grind) (by grind)))
 refine ⟨K*(w*(w*w))*(r*r)⁻¹,zf hKw (by grind),fun x y hx hy=>?_⟩
 obtain ⟨s',hs1,hs2⟩:∃ s',s<s'∧s'<r:=between hsr
 obtain ⟨L,hL⟩:=h.da (s:=s') (by grind) hs2
 have c1:=(zex h (show ab y<r by grind)).shift 1
 have c2:=(zex h (show ab x<r by grind)).shift 1
 have c3:=(zex hL (show ab x<s' by grind)).mul_c (y-x)
 refine ((c1.sub c2).sub c3).ab_le 0 fun n _=>?_
 rw [zBW,zS,qi (Zv _)]
 refine zF ?_ (Zv _)
 have h1:=sq_le h hg.h0 (show ab x≤t*r by grind) (show ab y≤t*r by grind) n
 have h2:=qP (zBU hg n) h.k0
 refine zgD hrr ?_
 have h3:K*(w*(w*w))*(r*r)⁻¹*(r*r)=K*(w*(w*w)):=by grind
 grind
def In (a b x:R):Prop:=a≤x∧x≤b
def Dv (f g:R→R) (a b:R):Prop:=∃ C,0≤C∧(∀ x,In a b x→ab (f x)≤C∧ab (g x)≤C)∧∀ x y,In a b x→In a b y→ab (f y-f x)≤C*ab (y-x)∧ab (f y-f x-g x*(y-x))≤C*((y-x)*(y-x))
theorem Dv.congr {f g f' g':R→R} {a b:R} (h:Dv f g a b) (h1:∀ x,In a b x→f x=f' x) (h2:∀ x,In a b x→g x=g' x):Dv f' g' a b:=by
 obtain ⟨C,hC,hb,hq⟩:=h
 refine ⟨C,hC,fun x hx=>?_,fun x y hx hy=>?_⟩
 ·rw [← h1 x hx,← h2 x hx]; exact hb x hx
 ·rw [← h1 x hx,← h2 x hx,← h1 y hy]; exact hq x y hx hy
theorem Dv.sub_iv {f g:R→R} {a b:R} (h:Dv f g a b) {c d:R} (h1:a≤c) (h2:d≤b):Dv f g c d:=by
 obtain ⟨C,hC,hb,hq⟩:=h
 have k:∀ x,In c d x→In a b x:=fun x hx=>⟨zj h1 hx.1,zj hx.2 h2⟩
 exact ⟨C,hC,fun x hx=>hb x (k x hx),fun x y hx hy=>hq x y (k x hx) (k y hy)⟩
theorem Dv.const (c a b:R):Dv (fun _=>c) (fun _=>0) a b:=by
 refine ⟨ab c,zm c,fun x _=>⟨zK _,by rw [Z4]; exact zm c⟩,fun x y _ _=>?_⟩
 have e1:c-c=0:=by grind
 have e2:c-c-0*(y-x)=0:=by grind
 rw [e2,e1,Z4]
 exact ⟨zf (zm c) (zm _),zf (zm c) (Zv _)⟩
theorem zpO:ab 1=1:=qi (by have:=qg; grind)
theorem Dv.id (a b:R):Dv (fun x=>x) (fun _=>1) a b:=by
 have h1:=zm a
 have h2:=zm b
 have h3:=zb9 a
 have h4:=zb9 b
 refine ⟨ab a+ab b+1,by grind,fun x hx=>⟨ab_le.2 ?_,by rw [zpO]; grind⟩,fun x y _ _=>?_⟩
 ·have:=hx.1; have:=hx.2; grind
 ·have e2:y-x-1*(y-x)=0:=by grind
  rw [e2,Z4]
  refine ⟨?_,zf (by grind) (Zv _)⟩
  have:=zF (show 1≤ab a+ab b+1 by grind) (zm (y-x)); grind
theorem Dv.add {f g f' g':R→R} {a b:R} (h:Dv f g a b) (k:Dv f' g' a b):Dv (fun x=>f x+f' x) (fun x=>g x+g' x) a b:=by
 obtain ⟨C,hC,hb,hq⟩:=h
 obtain ⟨D,hD,kb,kq⟩:=k
 refine ⟨C+D,by grind,fun x hx=>?_,fun x y hx hy=>?_⟩
 ·have h1:=hb x hx; have h2:=kb x hx
  have h3:=Z3 (f x) (f' x); have h4:=Z3 (g x) (g' x)
  grind
 ·have h1:=hq x y hx hy; have h2:=kq x y hx hy
  have h3:=Z3 (f y-f x) (f' y-f' x)
  have h4:=Z3 (f y-f x-g x*(y-x)) (f' y-f' x-g' x*(y-x))
  have e1:f y+f' y-(f x+f' x)=f y-f x+(f' y-f' x):=by grind
  have e2:f y+f' y-(f x+f' x)-(g x+g' x)*(y-x)=f y-f x-g x*(y-x)+(f' y-f' x-g' x*(y-x)):=by grind
  rw [e2,e1]
  grind
theorem Dv.mul {f g f' g':R→R} {a b:R} (h:Dv f g a b) (k:Dv f' g' a b):Dv (fun x=>f x*f' x) (fun x=>g x*f' x+f x*g' x) a b:=by
 obtain ⟨C,hC,hb,hq⟩:=h
 obtain ⟨D,hD,kb,kq⟩:=k
 have hCD:=zf hC hD
 refine ⟨3*(C*D),by grind,fun x hx=>?_,fun x y hx hy=>?_⟩
 ·have h1:=hb x hx; have h2:=kb x hx
  have h3:=qs h1.1 h2.1 (zm _) hD
  have h4:=qs h1.2 h2.1 (zm _) hD
  have h5:=qs h1.1 h2.2 (zm _) hD
  have h6:=Z3 (g x*f' x) (f x*g' x)
  rw [zS,zS] at h6
  rw [zS]
  grind
 ·have h1:=hq x y hx hy; have h2:=kq x y hx hy; have h3:=hb x hx; have h4:=kb y hy; have h4':=kb x hx
  have hn:=zm (y-x)
  have hsq:=Zv (y-x)
  have e0:ab (y-x)*ab (y-x)=(y-x)*(y-x):=by rw [← zS,qi hsq]
  constructor
  ·have e1:f y*f' y-f x*f' x=(f y-f x)*f' y+f x*(f' y-f' x):=by grind
   have h5:=Z3 ((f y-f x)*f' y) (f x*(f' y-f' x))
   rw [zS,zS] at h5
   have h6:=qs h1.1 h4.1 (zm _) hD
   have h7:=qs h3.1 h2.1 (zm _) (zf hD hn)
   have h8:=zf hCD hn
   rw [e1]; grind
  ·have e1:f y*f' y-f x*f' x-(g x*f' x+f x*g' x)*(y-x)=f x*(f' y-f' x-g' x*(y-x))+f' x*(f y-f x-g x*(y-x))+(f y-f x)*(f' y-f' x):=by grind
   have h5:=Z3 (f x*(f' y-f' x-g' x*(y-x))+f' x*(f y-f x-g x*(y-x))) ((f y-f x)*(f' y-f' x))
   have h6:=Z3 (f x*(f' y-f' x-g' x*(y-x))) (f' x*(f y-f x-g x*(y-x)))
   rw [zS] at h5
   rw [zS,zS] at h6
   have h7:=qs h3.1 h2.2 (zm _) (zf hD hsq)
   have h8:=qs h4'.1 h1.2 (zm _) (zf hC hsq)
   have h9:=qs h1.1 h2.1 (zm _) (zf hD hn)
   have e2:C*ab (y-x)*(D*ab (y-x))=C*D*((y-x)*(y-x)):=by rw [← e0]; grind
   rw [e1]; grind
theorem Dv.smul {f g:R→R} {a b:R} (c:R) (h:Dv f g a b):Dv (fun x=>c*f x) (fun x=>c*g x) a b:=
 ((Dv.const c a b).mul h).congr (fun _ _=>rfl) fun x _=>by grind
theorem Dv.neg {f g:R→R} {a b:R} (h:Dv f g a b):Dv (fun x=>-f x) (fun x=>-g x) a b:=
 (h.smul (-1)).congr (fun x _=>by grind) fun x _=>by grind
theorem Dv.sub {f g f' g':R→R} {a b:R} (h:Dv f g a b) (k:Dv f' g' a b):Dv (fun x=>f x-f' x) (fun x=>g x-g' x) a b:=
 (h.add k.neg).congr (fun x _=>by grind) fun x _=>by grind
theorem Dv.comp {f g f' g':R→R} {a b:R} {c d:R} (h:Dv f g a b) (k:Dv f' g' c d) (hr:∀ x,In a b x→In c d (f x)):Dv (fun x=>f' (f x)) (fun x=>g' (f x)*g x) a b:=by
 obtain ⟨C,hC,hb,hq⟩:=h
 obtain ⟨D,hD,kb,kq⟩:=k
 have hCD:=zf hC hD
 have hCCD:=zf hC hCD
 refine ⟨D+C*D+C*(C*D),by grind,fun x hx=>?_,fun x y hx hy=>?_⟩
 ·have h1:=hb x hx; have h2:=kb _ (hr x hx)
  have h3:=qs h1.2 h2.2 (zm _) hD
  rw [zS]; grind
 ·have h1:=hq x y hx hy; have h2:=kq _ _ (hr x hx) (hr y hy); have h3:=hb x hx; have h4:=kb _ (hr x hx)
  have hn:=zm (y-x)
  have hsq:=Zv (y-x)
  have e0:ab (y-x)*ab (y-x)=(y-x)*(y-x):=by rw [← zS,qi hsq]
  have e3:ab (f y-f x)*ab (f y-f x)=(f y-f x)*(f y-f x):=by rw [← zS,qi (Zv _)]
  constructor
  ·have h5:=qP h1.1 hD
   have h6:=zf hD hn
   have h7:=zf hCCD hn
   grind
  ·have e1:f' (f y)-f' (f x)-g' (f x)*g x*(y-x)=(f' (f y)-f' (f x)-g' (f x)*(f y-f x))+g' (f x)*(f y-f x-g x*(y-x)):=by grind
   have h5:=Z3 (f' (f y)-f' (f x)-g' (f x)*(f y-f x)) (g' (f x)*(f y-f x-g x*(y-x)))
   rw [zS] at h5
   have h6:=qs h4.2 h1.2 (zm _) (zf hC hsq)
   have h7:=qs h1.1 h1.1 (zm _) (zf hC hn)
   have h8:C*ab (y-x)*(C*ab (y-x))=C*C*((y-x)*(y-x)):=by rw [← e0]; grind
   have h9:=qP (show (f y-f x)*(f y-f x)≤C*C*((y-x)*(y-x)) by grind) hD
   have h10:=zf hD hsq
   rw [e1]; grind
theorem Dv.ps {u:Nat→R} {r K:R} (h:PB u r K) {s:R} (hs:0≤s) (hsr:s<r):Dv (ps u) (ps (da u)) (-s) s:=by
 obtain ⟨C,hC,hq⟩:=zBX h hs hsr
 obtain ⟨t,w,hg,e⟩:=ratio hs hsr
 obtain ⟨s',hs1,hs2⟩:=between hsr
 obtain ⟨L,hL⟩:=h.da (s:=s') (by grind) hs2
 obtain ⟨t',w',hg',e'⟩:=ratio hs hs1
 have b1:∀ x,In (-s) s x→ab x≤s:=fun x hx=>ab_le.2 hx
 have b2:∀ x,In (-s) s x→ab (An.ps u x)≤K*w:=fun x hx=>by
  have h1:=zi5 h hg (show ab x≤t*r by have:=b1 x hx; grind) 0
  rw [show psum u x 0=0 from rfl,zZ] at h1
  have h2:An.ps u x-0=An.ps u x:=by grind
  rw [h2] at h1; grind
 have b3:∀ x,In (-s) s x→ab (An.ps (da u) x)≤L*w':=fun x hx=>by
  have h1:=zi5 hL hg' (show ab x≤t'*s' by have:=b1 x hx; grind) 0
  rw [show psum (da u) x 0=0 from rfl,zZ] at h1
  have h2:An.ps (da u) x-0=An.ps (da u) x:=by grind
  rw [h2] at h1; grind
 have hKw:0≤K*w:=zf h.k0 (by have:=hg.pos; grind)
 have hLw:0≤L*w':=zf hL.k0 (by have:=hg'.pos; grind)
 have hCs:=zf hC hs
 refine ⟨K*w+L*w'+C+2*(C*s),by grind,fun x hx=>⟨by have:=b2 x hx; grind,by have:=b3 x hx; grind⟩,fun x y hx hy=>?_⟩
 have h1:=hq x y (b1 x hx) (b1 y hy)
 have hn:=zm (y-x)
 have hsq:=Zv (y-x)
 have e0:ab (y-x)*ab (y-x)=(y-x)*(y-x):=by rw [← zS,qi hsq]
 have hd:ab (y-x)≤2*s:=by have:=hx.1; have:=hx.2; have:=hy.1; have:=hy.2; exact ab_le.2 (by grind)
 constructor
 ·have e1:An.ps u y-An.ps u x=(An.ps u y-An.ps u x-An.ps (da u) x*(y-x))+An.ps (da u) x*(y-x):=by grind
  have h2:=Z3 (An.ps u y-An.ps u x-An.ps (da u) x*(y-x)) (An.ps (da u) x*(y-x))
  rw [zS] at h2
  have h3:=zF (b3 x hx) hn
  have h4:=qP hd (zf hC hn)
  have h5:=zf hKw hn
  have h6:=zf hC hn
  rw [← e0] at h1
  rw [e1]; grind
 ·have h2:=zf hKw hsq
  have h3:=zf hLw hsq
  have h4:=zf hCs hsq
  grind
theorem Dv.mono {f g:R→R} {a b:R} (h:Dv f g a b) (hab:a≤b) (hg:∀ x,In a b x→0≤g x):f a≤f b:=by
 obtain ⟨C,hC,_,hq⟩:=h
 refine zuq fun e he=>?_
 have hep:=Ql he
 obtain ⟨N,hN⟩:=zmp (C*((b-a)*(b-a))*(ofQ e)⁻¹)
 have hi:=qQ (x:=ofQ e) (by grind)
 have h1:C*((b-a)*(b-a))≤((N+1:Nat):R)*ofQ e:=by
  have h2:=zF hN (show 0≤ofQ e by grind)
  have h3:C*((b-a)*(b-a))*(ofQ e)⁻¹*ofQ e=C*((b-a)*(b-a)):=by grind
  rw [zaq]; grind
 have hn0:(0:R)<((N+1:Nat):R):=by rw [zaq]; have:=QC N; have:=qg; grind
 have hni:=qQ (x:=((N+1:Nat):R)) (by grind)
 have hnp:=inv_pos hn0
 generalize hd:(b-a)*((N+1:Nat):R)⁻¹=d
 have hd0:0≤d:=by rw [← hd]; exact zf (by grind) (by grind)
 have hdn:((N+1:Nat):R)*d=b-a:=by grind
 have step:∀ i:Nat,i≤N+1→f a-i*(C*(d*d))≤f (a+i*d):=by
  intro i
  induction i with
  | zero=>
   intro _
   have:a+((0:Nat):R)*d=a:=by rw [show ((0:Nat):R)=0 from rfl]; grind
   rw [this,show ((0:Nat):R)=0 from rfl]; grind
  | succ i ih=>
   intro hi
   have h2:=ih wa
   have in0:In a b (a+i*d):=by
    have k1:=zF (zgB (show i≤N+1 by omega)) hd0
    have k2:=zf (QC i) hd0
    exact ⟨by grind,by grind⟩
   have in1:In a b (a+((i+1:Nat):R)*d):=by
    have k1:=zF (zgB hi) hd0
    have k2:=zf (QC (i+1)) hd0
    exact ⟨by grind,by grind⟩
   have h3:=(hq _ _ in0 in1).2
   have e1:a+((i+1:Nat):R)*d-(a+i*d)=d:=by rw [zaq]; grind
   rw [e1] at h3
   have h4:=(ab_le.1 h3).1
   have h5:=zf (hg _ in0) hd0
   have h6:((i+1:Nat):R)*(C*(d*d))=i*(C*(d*d))+C*(d*d):=by rw [zaq]; grind
   rw [h6]; grind
 have h2:=step (N+1) (Nat.le_refl _)
 have e2:a+((N+1:Nat):R)*d=b:=by grind
 rw [e2] at h2
 have h3:((N+1:Nat):R)*(C*(d*d))≤ofQ e:=by
  refine zgD hn0 ?_
  have:((N+1:Nat):R)*(C*(d*d))*((N+1:Nat):R)=C*((b-a)*(b-a)):=by rw [← hdn]; grind
  rw [this]; grind
 grind
theorem Dv.fixed {f g:R→R} {a b:R} (h:Dv f g a b) (hab:a≤b) (hg:∀ x,In a b x→g x=0):f a=f b:=by
 refine zi3 (h.mono hab fun x hx=>by rw [hg x hx]; exact zK _) ?_
 have:=h.neg.mono hab fun x hx=>by rw [hg x hx]; grind
 grind
theorem Dv.between {f g:R→R} {a b:R} (h:Dv f g a b) (hab:a≤b) {m M:R} (hg:∀ x,In a b x→m≤g x∧g x≤M):m*(b-a)≤f b-f a∧f b-f a≤M*(b-a):=by
 have h1:=(h.sub ((Dv.id a b).smul m)).mono hab fun x hx=>by have:=(hg x hx).1; grind
 have h2:=(((Dv.id a b).smul M).sub h).mono hab fun x hx=>by have:=(hg x hx).2; grind
 grind
theorem Dv.same {f g:R→R} {a b:R} (h:Dv f g a b) (hg:∀ x,In a b x→g x=0) {x y:R} (hx:In a b x) (hy:In a b y):f x=f y:=by
 rcases Qk x y with k | k
 ·exact (h.sub_iv hx.1 hy.2).fixed k fun z hz=>hg z ⟨zj hx.1 hz.1,zj hz.2 hy.2⟩
 ·exact ((h.sub_iv hy.1 hx.2).fixed k fun z hz=>hg z ⟨zj hy.1 hz.1,zj hz.2 hx.2⟩).symm
theorem Dv.inv {f g u:R→R} {a b:R} (h:Dv f g a b) {M:R} (hM:0≤M) (hu:∀ x,In a b x→u x*f x=1∧ab (u x)≤M):Dv u (fun x=>-(g x*(u x*u x))) a b:=by
 obtain ⟨C,hC,hb,hq⟩:=h
 have hMM:=zf hM hM
 have hMMM:=zf hM hMM
 have h1:=zf hC hMM
 have h2:=zf (zf hC hC) hMMM
 refine ⟨M+C*(M*M)+C*C*(M*(M*M)),by grind,fun x hx=>?_,fun x y hx hy=>?_⟩
 ·have k1:=(hu x hx).2
  have k2:=qs k1 k1 (zm _) hM
  have k3:=qs (hb x hx).2 k2 (zm _) hMM
  rw [zew,zS,zS]; grind
 ·have k1:=hu x hx; have k2:=hu y hy
  have k3:=hq x y hx hy
  have hn:=zm (y-x)
  have hsq:=Zv (y-x)
  have e0:ab (y-x)*ab (y-x)=(y-x)*(y-x):=by rw [← zS,qi hsq]
  have e1:u y-u x = -(u x*u y*(f y-f x)):=by grind
  have m1:=qs k1.2 k2.2 (zm _) hM
  have l1:ab (u y-u x)≤C*(M*M)*ab (y-x):=by
   rw [e1,zew,zS,zS]
   have:=qs m1 k3.1 (zf (zm _) (zm _)) (zf hC hn)
   grind
  constructor
  ·have:=zf hM hn
   have:=zf h2 hn
   grind
  ·have e2:u y-u x - -(g x*(u x*u x))*(y-x) = -(u x*u y*(f y-f x-g x*(y-x)))-g x*u x*(y-x)*(u y-u x):=by
    have:u x*u y*(f y-f x)=u x-u y:=by grind
    grind
   have q1:=zBH (-(u x*u y*(f y-f x-g x*(y-x)))) (g x*u x*(y-x)*(u y-u x))
   rw [zew,zS,zS,zS (g x*u x*(y-x)),zS (g x*u x),zS (g x)] at q1
   have q2:=qs m1 k3.2 (zf (zm _) (zm _)) (zf hC hsq)
   have q3:=qs (hb x hx).2 k1.2 (zm _) hM
   have q4:=qs (zF q3 hn) l1 (zf (zf (zm _) (zm _)) hn) (zf h1 hn)
   have q5:C*M*ab (y-x)*(C*(M*M)*ab (y-x))=C*C*(M*(M*M))*((y-x)*(y-x)):=by rw [← e0]; grind
   have q6:=zf hM hsq
   rw [e2]; grind
noncomputable def rf:Nat→R
 | 0=>1
 | n+1=>rf n*((n+1:Nat):R)⁻¹
theorem zez (n:Nat):(0:R)<((n+1:Nat):R):=by rw [zaq]; have:=QC n; have:=qg; grind
theorem zeA (n:Nat):((n+1:Nat):R)*rf (n+1)=rf n:=by
 have:=qQ (x:=((n+1:Nat):R)) (by have:=zez n; grind)
 rw [show rf (n+1)=rf n*((n+1:Nat):R)⁻¹ from rfl]; grind
theorem zca (n:Nat):0<rf n:=by
 induction n with
 | zero=>exact qg
 | succ n ih=>exact Z5 ih (inv_pos (zez n))
theorem zux (n:Nat):rf n≤1:=by
 induction n with
 | zero=>exact zK _
 | succ n ih=>
  have h1:=zeA n
  have h2:=zF (show (1:R)≤((n+1:Nat):R) by rw [zaq]; have:=QC n; grind) (show 0≤rf (n+1) by have:=zca (n+1); grind)
  grind
theorem zBY (u:Nat→R) (N:Nat):∃ K,∀ n,n≤N→u n≤K:=by
 induction N with
 | zero=>exact ⟨u 0,fun n hn=>by rw [Nat.le_zero.1 hn]; exact zK _⟩
 | succ N ih=>
  obtain ⟨K,hK⟩:=ih
  have h1:=zb9 K
  have h2:=zb9 (u (N+1))
  refine ⟨ab K+ab (u (N+1)),fun n hn=>?_⟩
  have h3:=zm K
  have h4:=zm (u (N+1))
  rcases Nat.lt_or_ge N n with k | k
  ·rw [show n=N+1 by omega]; grind
  ·have:=hK n k; grind
theorem zBZ {r:R} (hr:0<r):∃ K,∀ n,rf n*r ^ n≤K:=by
 obtain ⟨N,hN⟩:=zmp r
 obtain ⟨K,hK⟩:=zBY (fun n=>rf n*r ^ n) N
 refine ⟨K,fun n=>?_⟩
 induction n with
 | zero=>exact hK 0 (Nat.zero_le _)
 | succ n ih=>
  rcases Nat.lt_or_ge n N with k | k
  ·exact hK (n+1) k
  ·have h1:=zeA n
   have h2:r≤((n+1:Nat):R):=zj hN (zgB wa)
   have h3:=zf (show 0≤rf (n+1) by have:=zca (n+1); grind) (pow_nonneg (show 0≤r by grind) n)
   have h4:=qP h2 h3
   have h5:rf (n+1)*r ^ n*((n+1:Nat):R)=rf n*r ^ n:=by rw [← h1]; grind
   rw [zB]; grind
theorem PB.of {a:Nat→R} (h:∀ n,ab (a n)≤rf n) {r:R} (hr:0<r):∃ K,PB a r K:=by
 obtain ⟨K,hK⟩:=zBZ hr
 exact ⟨K,hr,fun n=>zj (zF (h n) (pow_nonneg (by grind) n)) (hK n)⟩
theorem Dv.rf {a:Nat→R} (h:∀ n,ab (a n)≤rf n) {s:R} (hs:0≤s):Dv (An.ps a) (An.ps (An.da a)) (-s) s:=by
 obtain ⟨K,hK⟩:=PB.of h (r:=s+1) (by have:=qg; grind)
 exact Dv.ps hK hs (by have:=qg; grind)
noncomputable def E (x:R):R:=ps rf x
theorem zB0:da rf=rf:=funext fun n=>zeA n
theorem zi6 (n:Nat):ab (rf n)≤rf n:=by rw [qi (by have:=zca n; grind)]; exact zK _
theorem zgE {s:R} (hs:0≤s):Dv E E (-s) s:=by
 have:=Dv.rf zi6 hs
 rwa [zB0] at this
theorem zby:E 0=1:=zey rf
theorem zar {s x:R} (h:ab x≤s):In (-s) s x:=ab_le.1 h
theorem Dv.back {f g:R→R} {s c:R} (h:Dv f g (-(s+ab c)) (s+ab c)):Dv (fun t=>f (c-t)) (fun t=>-g (c-t)) (-s) s:=by
 have h1:=((Dv.const c (-s) s).sub (Dv.id (-s) s)).comp h (fun x hx=>by
  have:=zb9 c
  have:=hx.1
  have:=hx.2
  exact ⟨by grind,by grind⟩)
 exact h1.congr (fun _ _=>rfl) fun x _=>by grind
theorem Q0 (x y:R):E (x+y)=E x*E y:=by
 have hs:0≤ab x+ab (x+y):=by have:=zm x; have:=zm (x+y); grind
 generalize hsd:ab x+ab (x+y)=s at hs
 have h1:=(zgE hs).mul (Dv.back (s:=s) (c:=x+y) (zgE (by have:=zm (x+y); grind)))
 have h2:=h1.same (fun t _=>by grind) (x:=0) (y:=x) (zar (by rw [Z4]; exact hs)) (zar (by have:=zm (x+y); grind))
 rw [zby,show x+y-0=x+y by grind,show x+y-x=y by grind] at h2
 grind
theorem zpP (x:R):E x*E (-x)=1:=by rw [← Q0,show x + -x=0 by grind,zby]
theorem zpQ (x:R):∃ y,x=y+y:=⟨x*ofQ (1 / 2),by have k:=zc7 1; rw [zap] at k; grind⟩
theorem zc9 (x:R):0<E x:=by
 obtain ⟨y,rfl⟩:=zpQ x
 have h1:=zpP (y+y)
 rw [Q0]
 have h2:=Zv (E y)
 rcases Classical.em (E y*E y=0) with h | h
 ·rw [Q0,h] at h1; grind
 ·grind
theorem zda {x y:R} (h:x≤y):E x≤E y:=by
 have hs:0≤ab x+ab y:=by have:=zm x; have:=zm y; grind
 have h1:=zb9 x; have h2:=zb9 y; have h3:=zm x; have h4:=zm y
 exact ((zgE hs).sub_iv (c:=x) (d:=y) (by grind) (by grind)).mono h fun z _=>by have:=zc9 z; grind
theorem zgF (x:R):1+x≤E x:=by
 rcases Qk 0 x with h | h
 ·have h1:=((zgE h).sub_iv (c:=0) (d:=x) (by grind) (by grind)).between h (m:=1) (M:=E x) fun z hz=>⟨by have:=zda hz.1; rw [zby] at this; exact this,zda hz.2⟩
  rw [zby] at h1; grind
 ·have h1:=((zgE (s:=-x) (by grind)).sub_iv (c:=x) (d:=0) (by grind) (by grind)).between h (m:=0) (M:=1) fun z hz=>⟨by have:=zc9 z; grind,by have:=zda hz.2; rw [zby] at this; exact this⟩
  rw [zby] at h1; grind
theorem zB1 {x y:R} (h:x<y):E x<E y:=by
 have h1:=Q0 x (y-x)
 rw [show x+(y-x)=y by grind] at h1
 have h2:=zgF (y-x)
 have h3:=zi4 (show 1<E (y-x) by grind) (zc9 x)
 grind
theorem zgG {x y:R} : E x≤E y↔x≤y:=by
 refine ⟨fun h=>?_,zda⟩
 rcases Qk x y with k | k
 ·exact k
 ·rcases Classical.em (x=y) with q | q
  ·rw [q]; exact zK _
  ·have:=zB1 (x:=y) (y:=x) (by grind); grind
theorem zpR {x y:R} (h:E x=E y):x=y:=zi3 (zgG.1 (by rw [h]; exact zK _)) (zgG.1 (by rw [h]; exact zK _))
def sg4:Nat→R × R
 | 0=>(0,1)
 | n+1=>((sg4 n).2,-(sg4 n).1)
def sS (n:Nat):R:=(sg4 n).1
def sC (n:Nat):R:=(sg4 n).2
theorem zuy (n:Nat):sS (n+1)=sC n:=rfl
theorem zuz (n:Nat):sC (n+1) = -sS n:=rfl
theorem zdb (n:Nat):ab (sS n)≤1∧ab (sC n)≤1:=by
 induction n with
 | zero=>exact ⟨by rw [show sS 0=0 from rfl,Z4]; have:=qg; grind,by rw [show sC 0=1 from rfl,zpO]; exact zK _⟩
 | succ n ih=>rw [zuy,zuz,zew]; exact ⟨ih.2,ih.1⟩
noncomputable def cs (n:Nat):R:=sS n*rf n
noncomputable def cco (n:Nat):R:=sC n*rf n
noncomputable def S (x:R):R:=ps cs x
noncomputable def C (x:R):R:=ps cco x
theorem zuA {a:R} (n:Nat) (h:ab a≤1):ab (a*rf n)≤rf n:=by
 rw [zS,qi (show 0≤rf n by have:=zca n; grind)]
 have:=zF h (show 0≤rf n by have:=zca n; grind); grind
theorem zuB (n:Nat):ab (cs n)≤rf n:=zuA n (zdb n).1
theorem zB2 (n:Nat):ab (cco n)≤rf n:=zuA n (zdb n).2
theorem zB3:da cs=cco:=funext fun n=>by rw [da,cs,cco,zuy]; have:=zeA n; grind
theorem zB4:da cco=fun n=>-cs n:=funext fun n=>by rw [da,cs,cco,zuz]; have:=zeA n; grind
theorem zB5 (a:Nat→R) (x:R) (n:Nat):psum (fun n=>-a n) x n = -psum a x n:=by
 induction n with
 | zero=>show (0:R) = -0; grind
 | succ n ih=>show psum (fun n=>-a n) x n + -a n*x ^ n = -(psum a x n+a n*x ^ n); rw [ih]; grind
theorem zpS {a:Nat→R} (h:∀ n,ab (a n)≤rf n) (x:R):Conv (psum a x) (ps a x):=by
 obtain ⟨K,hK⟩:=PB.of h (r:=ab x+1) (by have:=zm x; have:=qg; grind)
 exact zex hK (by have:=qg; grind)
theorem zB6 (x:R):ps (fun n=>-cs n) x = -S x:=zuv ((zpS zuB x).neg.congr fun n=>(zB5 cs x n).symm)
theorem zcb {s:R} (hs:0≤s):Dv S C (-s) s:=by
 have:=Dv.rf zuB hs
 rwa [zB3] at this
theorem zdc {s:R} (hs:0≤s):Dv C (fun x=>-S x) (-s) s:=by
 have:=Dv.rf zB2 hs
 rw [zB4] at this
 exact this.congr (fun _ _=>rfl) fun x _=>zB6 x
theorem zeB:S 0=0:=by rw [S,zey,cs,show sS 0=0 from rfl]; grind
theorem zgH:C 0=1:=by rw [C,zey,cco,show sC 0=1 from rfl,show rf 0=1 from rfl]; grind
theorem zdd (x y:R):S (x+y)=S x*C y+C x*S y:=by
 have hs:0≤ab x+ab (x+y):=by have:=zm x; have:=zm (x+y); grind
 generalize hsd:ab x+ab (x+y)=s at hs
 have hn:=zm (x+y)
 have h1:=((zcb hs).mul (Dv.back (s:=s) (c:=x+y) (zdc (by grind)))).add ((zdc hs).mul (Dv.back (s:=s) (c:=x+y) (zcb (by grind))))
 have h2:=h1.same (fun t _=>by grind) (x:=0) (y:=x) (zar (by rw [Z4]; exact hs)) (zar (by grind))
 rw [zeB,zgH,show x+y-0=x+y by grind,show x+y-x=y by grind] at h2
 grind
theorem zi7 (x y:R):C (x+y)=C x*C y-S x*S y:=by
 have hs:0≤ab x+ab (x+y):=by have:=zm x; have:=zm (x+y); grind
 generalize hsd:ab x+ab (x+y)=s at hs
 have hn:=zm (x+y)
 have h1:=((zdc hs).mul (Dv.back (s:=s) (c:=x+y) (zdc (by grind)))).sub ((zcb hs).mul (Dv.back (s:=s) (c:=x+y) (zcb (by grind))))
 have h2:=h1.same (fun t _=>by grind) (x:=0) (y:=x) (zar (by rw [Z4]; exact hs)) (zar (by grind))
 rw [zeB,zgH,show x+y-0=x+y by grind,show x+y-x=y by grind] at h2
 grind
theorem zgI (x:R):S x*S x+C x*C x=1:=by
 have hs:=zm x
 have h1:=((zcb hs).mul (zcb hs)).add ((zdc hs).mul (zdc hs))
 have h2:=h1.same (fun t _=>by grind) (x:=0) (y:=x) (zar (by rw [Z4]; exact hs)) (zar (zK _))
 rw [zeB,zgH] at h2; grind
theorem zde (x:R):S (-x) = -S x∧C (-x)=C x:=by
 have h1:=zdd x (-x)
 have h2:=zi7 x (-x)
 rw [show x + -x=0 by grind,zeB] at h1
 rw [show x + -x=0 by grind,zgH] at h2
 have h3:=zgI x
 generalize S x=s at *
 generalize C x=c at *
 have e1:s*(s*C (-x)+c*S (-x))=0:=by rw [← h1]; grind
 have e2:c*(c*C (-x)-s*S (-x))=c:=by rw [← h2]; grind
 have e3:c*(s*C (-x)+c*S (-x))=0:=by rw [← h1]; grind
 have e4:s*(c*C (-x)-s*S (-x))=s:=by rw [← h2]; grind
 have e5:(s*s+c*c)*C (-x)=c:=by grind
 have e6:(s*s+c*c)*S (-x) = -s:=by grind
 rw [h3] at e5 e6
 exact ⟨by grind,by grind⟩
theorem zuC (x:R):ab (S x)≤1∧ab (C x)≤1:=by
 have h:=zgI x
 have h1:=Zv (S x)
 have h2:=Zv (C x)
 have key:∀ z:R,z*z≤1→ab z≤1:=by
  intro z hz
  rcases Qk (ab z) 1 with k | k
  ·exact k
  ·have h3:=qs k k (by have:=qg; grind) (zm z)
   have h4:ab z*ab z=z*z:=by rw [← zS,qi (Zv z)]
   have h5:=qP k (zm z)
   grind
 exact ⟨key _ (by grind),key _ (by grind)⟩
theorem Dv.bnd {f g:R→R} {a b:R} (h:Dv f g a b):∃ M,0≤M∧∀ x,In a b x→ab (f x)≤M:=by
 obtain ⟨C,hC,hb,_⟩:=h
 exact ⟨C,hC,fun x hx=>(hb x hx).1⟩
theorem Dv.compE {f g f' g':R→R} {a b:R} (h:Dv f g a b) (k:∀ s,0≤s→Dv f' g' (-s) s):Dv (fun x=>f' (f x)) (fun x=>g' (f x)*g x) a b:=by
 obtain ⟨M,hM,hb⟩:=h.bnd
 exact h.comp (k M hM) fun x hx=>ab_le.1 (hb x hx)
theorem zB7 {x:R} (h:x*x=0):x=0:=by
 rcases Classical.em (x=0) with k | k
 ·exact k
 ·have:=qQ k; grind
theorem zuD (n:Nat):(1:R) ^ n=1:=by
 induction n with
 | zero=>rfl
 | succ n ih=>rw [zB,ih]; grind
theorem PB.one {a:Nat→R} (h:∀ n,ab (a n)≤1):PB a 1 1:=⟨qg,fun n=>by rw [zuD]; have:=h n; grind⟩
theorem zB8 (n:Nat):((n+1:Nat):R)⁻¹≤1:=by
 have h1:=qQ (x:=((n+1:Nat):R)) (by have:=zez n; grind)
 have h2:=zF (show (1:R)≤((n+1:Nat):R) by rw [zaq]; have:=QC n; grind) (show 0≤((n+1:Nat):R)⁻¹ by have:=inv_pos (zez n); grind)
 grind
theorem zas {a:Nat→R} (h0:a 0=0) (h:∀ n,ab (a n)≤1) (n:Nat):ab (a n*((n:Nat):R)⁻¹)≤1:=by
 cases n with
 | zero=>rw [h0,show (0:R)*((0:Nat):R)⁻¹=0 by grind,Z4]; have:=qg; grind
 | succ n=>
  have hp:=inv_pos (zez n)
  rw [zS,qi (show 0≤((n+1:Nat):R)⁻¹ by grind)]
  have:=qs (h (n+1)) (zB8 n) (zm _) (show (0:R)≤1 by have:=qg; grind)
  grind
theorem zuE {a:Nat→R} (n:Nat):da (fun n=>a n*((n:Nat):R)⁻¹) n=a (n+1):=by
 have:=qQ (x:=((n+1:Nat):R)) (by have:=zez n; grind)
 rw [da]; grind
noncomputable def atc (n:Nat):R:=sS n*((n:Nat):R)⁻¹
noncomputable def A (x:R):R:=ps atc x
noncomputable def Q (x:R):R:=ps sC x
theorem zB9:PB atc 1 1:=PB.one (zas rfl fun n=>(zdb n).1)
theorem zuF:PB sC 1 1:=PB.one fun n=>(zdb n).2
theorem zCa:A 0=0:=by rw [A,zey,atc,show sS 0=0 from rfl]; grind
theorem zCb {s:R} (hs:0≤s) (h1:s<1):Dv A Q (-s) s:=by
 have:=Dv.ps zB9 hs h1
 rwa [show da atc=sC from funext zuE] at this
theorem zCc (x:R) (n:Nat):psum sC x (n+2)+psum sC x n*(x*x)=1:=by
 induction n with
 | zero=>rw [show psum sC x (0+2)=0+1*x ^ 0 + -0*x ^ (0+1) from rfl,show psum sC x 0=0 from rfl,zZ]; grind
 | succ n ih=>
  rw [show psum sC x (n+1+2)=psum sC x (n+2)+sC (n+2)*x ^ (n+2) from rfl,show psum sC x (n+1)=psum sC x n+sC n*x ^ n from rfl,show sC (n+2) = -sC n from rfl,zB,zB]; grind
theorem zpT {x:R} (h:ab x<1):Q x*(1+x*x)=1:=by
 have c:=zex zuF h
 have h1:=(c.shift 2).add (c.mul_c (x*x))
 have h2:=h1.congr fun n=>zCc x n
 have:=h2.uniq (Conv.const 1)
 rw [Q]; grind
theorem zCd {s:R} (hs:0≤s) (h1:s<1):Dv Q (fun x=>-((x+x)*(Q x*Q x))) (-s) s:=by
 obtain ⟨M,hM,hb⟩:=(Dv.ps zuF hs h1).bnd
 have h2:=(Dv.const 1 (-s) s).add ((Dv.id (-s) s).mul (Dv.id (-s) s))
 refine (h2.inv hM fun x hx=>⟨?_,hb x hx⟩).congr (fun _ _=>rfl) fun x _=>?_
 ·have:=zpT (x:=x) (by have:=ab_le.2 hx; grind)
  exact this
 ·show -((0+(1*x+x*1))*(ps sC x*ps sC x)) = -((x+x)*(Q x*Q x))
  rw [Q]; grind
theorem zuG {z:R} (h:ab z<1):S (A z)=z*C (A z):=by
 have hs:=zm z
 have dA:=zCb hs h
 have dS:=dA.compE fun s hs=>zcb hs
 have dC:=dA.compE fun s hs=>zdc hs
 have dD:=dC.add ((Dv.id (-ab z) (ab z)).mul dS)
 have dW:=(dD.mul dD).mul (zCd hs h)
 have hz:=dW.same (fun x hx=>by
  have hq:=zpT (x:=x) (by have:=ab_le.2 hx; grind)
  generalize Q x=q at *
  generalize S (A x)=u at *
  generalize C (A x)=v at *
  have e1 : -u*q+(1*u+x*(v*q))=x*q*(v+x*u):=by
   have:u=u*(q*(1+x*x)):=by rw [hq]; grind
   grind
  rw [e1]; grind) (x:=0) (y:=z) (zar (by rw [Z4]; exact hs)) (zar (zK _))
 have q0:Q 0=1:=by rw [Q,zey]; rfl
 rw [zCa,zeB,zgH,q0] at hz
 have hq:=zpT h
 have h1:=zgI (A z)
 generalize Q z=q at *
 generalize S (A z)=u at *
 generalize C (A z)=v at *
 have h2:(v+z*u)*(v+z*u)*q=1:=by grind
 have h3:(v+z*u)*(v+z*u)=1+z*z:=by
  have:(v+z*u)*(v+z*u)*(q*(1+z*z))=1*(1+z*z):=by rw [← h2]; grind
  rw [hq] at this; grind
 have h4:(u-z*v)*(u-z*v)=0:=by
  have:(u-z*v)*(u-z*v)+(v+z*u)*(v+z*u)=(1+z*z)*(u*u+v*v):=by grind
  rw [h3,h1] at this; grind
 have:=zB7 h4
 grind
def eo:Nat→R × R
 | 0=>(0,1)
 | n+1=>((eo n).2,(eo n).1)
def od (n:Nat):R:=(eo n).1
def ev (n:Nat):R:=(eo n).2
theorem zdf (n:Nat):ab (od n)≤1∧ab (ev n)≤1:=by
 induction n with
 | zero=>exact ⟨by rw [show od 0=0 from rfl,Z4]; have:=qg; grind,by rw [show ev 0=1 from rfl,zpO]; exact zK _⟩
 | succ n ih=>exact ⟨ih.2,ih.1⟩
noncomputable def ahc (n:Nat):R:=od n*((n:Nat):R)⁻¹
noncomputable def H (x:R):R:=ps ahc x
noncomputable def V (x:R):R:=ps ev x
theorem zCe:PB ahc 1 1:=PB.one (zas rfl fun n=>(zdf n).1)
theorem zuH:PB ev 1 1:=PB.one fun n=>(zdf n).2
theorem zCf:H 0=0:=by rw [H,zey,ahc,show od 0=0 from rfl]; grind
theorem zCg {s:R} (hs:0≤s) (h1:s<1):Dv H V (-s) s:=by
 have:=Dv.ps zCe hs h1
 rwa [show da ahc=ev from funext zuE] at this
theorem zCh (x:R) (n:Nat):psum ev x (n+2)-psum ev x n*(x*x)=1:=by
 induction n with
 | zero=>rw [show psum ev x (0+2)=0+1*x ^ 0+0*x ^ (0+1) from rfl,show psum ev x 0=0 from rfl,zZ]; grind
 | succ n ih=>
  rw [show psum ev x (n+1+2)=psum ev x (n+2)+ev (n+2)*x ^ (n+2) from rfl,show psum ev x (n+1)=psum ev x n+ev n*x ^ n from rfl,show ev (n+2)=ev n from rfl,zB,zB]; grind
theorem zpU {x:R} (h:ab x<1):V x*(1-x*x)=1:=by
 have c:=zex zuH h
 have h1:=(c.shift 2).sub (c.mul_c (x*x))
 have h2:=h1.congr fun n=>zCh x n
 have:=h2.uniq (Conv.const 1)
 rw [V]; grind
theorem zCi {s:R} (hs:0≤s) (h1:s<1):Dv V (fun x=>(x+x)*(V x*V x)) (-s) s:=by
 obtain ⟨M,hM,hb⟩:=(Dv.ps zuH hs h1).bnd
 have h2:=(Dv.const 1 (-s) s).sub ((Dv.id (-s) s).mul (Dv.id (-s) s))
 refine (h2.inv hM fun x hx=>⟨?_,hb x hx⟩).congr (fun _ _=>rfl) fun x _=>?_
 ·have:=zpU (x:=x) (by have:=ab_le.2 hx; grind)
  exact this
 ·show -((0-(1*x+x*1))*(ps ev x*ps ev x))=(x+x)*(V x*V x)
  rw [V]; grind
theorem E_H {z:R} (h:ab z<1):E (H z+H z)*(1-z)=1+z:=by
 have hs:=zm z
 have dP:=(zCg hs h).compE fun s hs=>zgE hs
 have dm:=(Dv.const 1 (-ab z) (ab z)).sub (Dv.id (-ab z) (ab z))
 have dW:=((dP.mul dP).mul (dm.mul dm)).mul (zCi hs h)
 have hz:=dW.same (fun x hx=>by
  have hq:=zpU (x:=x) (by have:=ab_le.2 hx; grind)
  generalize V x=q at *
  generalize E (H x)=p at *
  have e1:(p*q*p+p*(p*q))*((1-x)*(1-x))+p*p*((0-1)*(1-x)+(1-x)*(0-1))=p*p*(1-x)*(2*(q*(1-x))-2):=by grind
  have e2:p*p*(1-x)*(2*(q*(1-x))-2)*q+p*p*((1-x)*(1-x))*((x+x)*(q*q))=p*p*(1-x)*q*(2*(q*(1-x*x))-2):=by grind
  rw [e1,e2,hq]; grind) (x:=0) (y:=z) (zar (by rw [Z4]; exact hs)) (zar (zK _))
 have q0:V 0=1:=by rw [V,zey]; rfl
 rw [zCf,zby,q0] at hz
 have hq:=zpU h
 rw [Q0]
 generalize V z=q at *
 generalize E (H z)=p at *
 have h2:p*p*((1-z)*(1-z))*q=1:=by grind
 have h3:p*p*((1-z)*(1-z))=1-z*z:=by
  have:p*p*((1-z)*(1-z))*(q*(1-z*z))=1*(1-z*z):=by rw [← h2]; grind
  rw [hq] at this; grind
 have h4:=ab_le.1 (show ab z≤ab z from zK _)
 exact zuu (c:=1-z) (by grind) (by grind)
noncomputable def Ln (y:R):R:=H ((y-1)*(y+1)⁻¹)+H ((y-1)*(y+1)⁻¹)
theorem Z6 {y:R} (h:0<y):E (Ln y)=y:=by
 have h1:=qg
 have hi:=qQ (x:=y+1) (by grind)
 have hp:=inv_pos (x:=y+1) (by grind)
 generalize hz:(y-1)*(y+1)⁻¹=z
 have e1:z*(y+1)=y-1:=by rw [← hz]; grind
 have hz1:ab z<1:=by
  have k1:z<1:=by
   rcases Qk 1 z with k | k
   ·have:=zF k (show 0≤y+1 by grind); grind
   ·rcases Classical.em (z=1) with q | q
    ·rw [q] at e1; grind
    ·grind
  have k2 : -1<z:=by
   rcases Qk z (-1) with k | k
   ·have:=zF k (show 0≤y+1 by grind); grind
   ·rcases Classical.em (z = -1) with q | q
    ·rw [q] at e1; grind
    ·grind
  unfold ab; split<;>grind
 have h2:=E_H hz1
 rw [Ln,hz]
 have h3:1-z≠0:=by have:=zb9 z; grind
 exact zuu h3 (by grind)
theorem zuI (x:R):Ln (E x)=x:=zpR (Z6 (zc9 x))
theorem zmt {x y:R} (hx:0<x) (hy:0<y):Ln (x*y)=Ln x+Ln y:=zpR (by rw [Q0,Z6 hx,Z6 hy,Z6 (Z5 hx hy)])
theorem zat {x y:R} (hx:0<x) (h:x≤y):Ln x≤Ln y:=zgG.1 (by rw [Z6 hx,Z6 (show 0<y by grind)]; exact h)
theorem zmu:Ln 1=0:=zpR (by rw [Z6 qg,zby])
noncomputable def hp:R:=8*A (ofQ (1 / 5))-2*A (ofQ (1 / 239))
theorem zuJ {q:Rat} (h:0≤q) (h1:q<1):ab (ofQ q)<1:=by
 rw [qi (show 0≤ofQ q from zc.2 h)]; exact Zi.2 h1
theorem zuK:S hp=1∧C hp=0:=by
 have a1:=zuG (zuJ (q:=1 / 5) (by decide +kernel) (by decide +kernel))
 have a2:=zuG (zuJ (q:=1 / 239) (by decide +kernel) (by decide +kernel))
 have f5:5*ofQ (1 / 5)=1:=by rw [show (5:R)=ofQ 5 from rfl,← zk,show (5:Rat)*(1 / 5)=1 by decide +kernel]; rfl
 have f239:239*ofQ (1 / 239)=1:=by rw [show (239:R)=ofQ 239 from rfl,← zk,show (239:Rat)*(1 / 239)=1 by decide +kernel]; rfl
 rw [hp]
 generalize ofQ (1 / 5)=s at *
 generalize ofQ (1 / 239)=t at *
 generalize A s=a at *
 generalize A t=b at *
 have o1:=zgI a
 have o2:=zgI b
 have d1:=zdd a a
 have d2:=zi7 a a
 have q1:=zdd (a+a) (a+a)
 have q2:=zi7 (a+a) (a+a)
 have p1:=zdd (a+a+(a+a)) (-b)
 have p2:=zi7 (a+a+(a+a)) (-b)
 rw [(zde b).1,(zde b).2] at p1 p2
 have r1:=zdd (a+a+(a+a) + -b) (a+a+(a+a) + -b)
 have r2:=zi7 (a+a+(a+a) + -b) (a+a+(a+a) + -b)
 have o3:=zgI (a+a+(a+a) + -b)
 rw [show 8*a-2*b=a+a+(a+a) + -b+(a+a+(a+a) + -b) by grind]
 generalize S (a+a+(a+a) + -b)=X at *
 generalize C (a+a+(a+a) + -b)=Y at *
 generalize S (a+a+(a+a))=S4 at *
 generalize C (a+a+(a+a))=C4 at *
 generalize S (a+a)=S2 at *
 generalize C (a+a)=C2 at *
 generalize C a=c at *
 generalize C b=e at *
 have g1:5*S a=c:=by rw [a1]; grind
 have g2:239*S b=e:=by rw [a2]; grind
 clear a1 a2
 generalize S a=u at *
 generalize S b=v at *
 have k1:12*S2=5*C2:=by rw [d1,d2,← g1]; grind
 have k2:119*S4=120*C4:=by
  have:S2*C2*12=5*(C2*C2):=by grind
  have:144*(S2*S2)=25*(C2*C2):=by grind
  rw [q1,q2]; grind
 have k3:119*X=119*Y:=by
  rw [p1,p2,← g2]
  have h1:119*(S4*(239*v))=120*239*(C4*v):=by grind
  have h2:119*(S4*v)=120*(C4*v):=by grind
  grind
 have k4:X=Y:=by grind
 rw [k4] at o3 r1 r2
 exact ⟨by grind,by grind⟩
theorem zCj (x:R):S (x+hp)=C x:=by rw [zdd,zuK.1,zuK.2]; grind
theorem zpV {l h x y q:R} (h1:l≤x) (h2:x≤h) (h3:q≤l*y) (h4:q≤h*y):q≤x*y:=by
 rcases Qk 0 y with hy | hy
 ·have:=zF h1 hy; grind
 ·have:=zF h2 (show 0 ≤ -y by grind); grind
theorem zpW {l h x y q:R} (h1:l≤x) (h2:x≤h) (h3:l*y≤q) (h4:h*y≤q):x*y≤q:=by
 rcases Qk 0 y with hy | hy
 ·have:=zF h2 hy; grind
 ·have:=zF h1 (show 0 ≤ -y by grind); grind
theorem zuL {a b c d x y u v:R} (hx:In a b x) (hy:In c d y) (h1:In u v (a*c)) (h2:In u v (a*d)) (h3:In u v (b*c)) (h4:In u v (b*d)):In u v (x*y):=by
 have c':∀ s t:R,s*t=t*s:=zaU
 have l1:u≤a*y:=by rw [c']; exact zpV hy.1 hy.2 (by rw [c']; exact h1.1) (by rw [c']; exact h2.1)
 have l2:u≤b*y:=by rw [c']; exact zpV hy.1 hy.2 (by rw [c']; exact h3.1) (by rw [c']; exact h4.1)
 have l3:a*y≤v:=by rw [c']; exact zpW hy.1 hy.2 (by rw [c']; exact h1.2) (by rw [c']; exact h2.2)
 have l4:b*y≤v:=by rw [c']; exact zpW hy.1 hy.2 (by rw [c']; exact h3.2) (by rw [c']; exact h4.2)
 exact ⟨zpV hx.1 hx.2 l1 l2,zpW hx.1 hx.2 l3 l4⟩
theorem zCk (x:R) (i:Nat):rf (i+1)*x ^ (i+1)*((i+1:Nat):R)=rf i*x ^ i*x:=by
 rw [← zeA i,zB]; grind
theorem zuM (n:Nat):sS (n+2) = -sS n:=rfl
theorem zCl (i:Nat):sS (2*i)=0:=by
 induction i with
 | zero=>rfl
 | succ i ih=>rw [show 2*(i+1)=2*i+2 by omega,zuM,ih]; grind
theorem zCm (x:R) (i:Nat):psum atc x (2*(i+1)+2)=psum atc x (2*i+2)+atc (2*i+1+2)*x ^ (2*i+1+2):=by
 show psum atc x (2*i+2)+atc (2*i+2)*x ^ (2*i+2)+atc (2*i+2+1)*x ^ (2*i+2+1)=_
 rw [atc,show 2*i+2=2*(i+1) by omega,zCl]; grind
theorem zpX (n:Nat):od (n+2)=od n:=rfl
theorem zCn (i:Nat):od (2*i)=0:=by
 induction i with
 | zero=>rfl
 | succ i ih=>rw [show 2*(i+1)=2*i+2 by omega,zpX,ih]
theorem zuN (x:R) (i:Nat):psum ahc x (2*(i+1)+2)=psum ahc x (2*i+2)+ahc (2*i+1+2)*x ^ (2*i+1+2):=by
 show psum ahc x (2*i+2)+ahc (2*i+2)*x ^ (2*i+2)+ahc (2*i+2+1)*x ^ (2*i+2+1)=_
 rw [ahc,show 2*i+2=2*(i+1) by omega,zCn]; grind
theorem zgJ (a x:R) (n:Nat):a*((n+1:Nat):R)⁻¹*x*((n+1:Nat):R)=a*x:=by
 have:=qQ (x:=((n+1:Nat):R)) (by have:=zez n; grind)
 grind
noncomputable def hf:R:=ofQ (1 / 2)
theorem zdg:hf+hf=1:=zc7 1
theorem zdh:0<hf:=Ql (by decide +kernel)
theorem zpY:Geo hf 2:=⟨by have:=zdh; grind,by have:=zdh; have:=zdg; grind,by have:=zdg; grind⟩
theorem zmv {m n:Nat} (h:m≤n):hf ^ n≤hf ^ m:=by
 induction n with
 | zero=>rw [show m=0 by omega]; exact zK _
 | succ n ih=>
  rcases Nat.lt_or_ge n m with k | k
  ·rw [show m=n+1 by omega]; exact zK _
  ·have h1:=ih k
   have h2:=qP (show hf≤1 by have:=zdh; have:=zdg; grind) (pow_nonneg (show 0≤hf by have:=zdh; grind) n)
   rw [zB]; grind
theorem zuO (x:R) (m n:Nat):x ^ (m+n)=x ^ m*x ^ n:=by
 induction n with
 | zero=>rw [Nat.add_zero,zZ]; grind
 | succ n ih=>rw [← Nat.add_assoc,zB,zB,ih]; grind
theorem zpZ {a:Nat→R} (h:∀ n,ab (a n)≤1) {x:R} (hx:ab x≤hf) (n:Nat):ab (ps a x-psum a x n)≤2*hf ^ n:=by
 have h1:=zi5 (PB.one h) zpY (x:=x) (by grind) n
 grind
theorem zCo {x:R} (hx:ab x≤hf*hf*hf) (n:Nat):ab (E x-psum rf x n)≤2*(hf ^ n*hf ^ n*hf ^ n):=by
 have h2:=zdg
 have h3:=zdh
 have hi:=qQ (x:=1-hf*hf*hf) (by
  intro k
  have e:(1+hf+hf*hf)*(1-hf)=0:=by grind
  have e2:1-hf=hf:=by grind
  rw [e2] at e
  have:=Z5 (show 0<1+hf+hf*hf by have:=Zv hf; grind) h3
  grind)
 have hc:hf*hf*hf≤hf:=by
  have k1:=zF (show hf*hf≤1 by have:=qs (show hf≤1 by grind) (show hf≤1 by grind) (by grind) (by have:=qg; grind); grind) (show 0≤hf by grind)
  grind
 have hg:Geo (hf*hf*hf) (1-hf*hf*hf)⁻¹:=⟨zf (Zv hf) (by grind),by grind,by rw [zaU]; exact hi⟩
 have h1:=zi5 (PB.one (a:=rf) fun n=>by have:=zi6 n; have:=zux n; grind) hg (x:=x) (by grind) n
 rw [zgC,zgC] at h1
 have h4:(1-hf*hf*hf)⁻¹≤2:=by
  have h5:=zF (show hf≤1-hf*hf*hf by grind) (show 0≤(1-hf*hf*hf)⁻¹ by have:=hg.pos; grind)
  rw [hi] at h5
  have h6:(1-hf*hf*hf)⁻¹=hf*(1-hf*hf*hf)⁻¹+hf*(1-hf*hf*hf)⁻¹:=by
   generalize (1-hf*hf*hf)⁻¹=z
   have:(hf+hf)*z=z:=by rw [h2]; grind
   grind
  grind
 have h5:=zF h4 (zf (zf (pow_nonneg (show 0≤hf by grind) n) (pow_nonneg (show 0≤hf by grind) n)) (pow_nonneg (show 0≤hf by grind) n))
 have h6:E x=ps rf x:=rfl
 rw [h6]
 grind
end Go.An
namespace Go.Proofs.YtjffljhmjdljeaaGreat.Gen
open Go Go.Abs Go.Plain Go.An
open Go.IntKind (i64 u64 u32)
structure Mem (a:I) (x:R):Prop where
 lo:ofQ (val a.lo)≤x
 hi:x≤ofQ (val a.hi)
structure Has (r:I × Int) (x:R) (L H:Int):Prop where
 e:r.2=0
 ok:OkI r.1 L H
 m:Mem r.1 x
theorem Has.mono {r:I × Int} {x:R} {L H L' H':Int} (h:Has r x L H) (h1:L'≤L) (h2:H≤H'):Has r x L' H':=⟨h.e,h.ok.mono h1 h2,h.m⟩
theorem Has.eq {r:I × Int} {x y:R} {L H:Int} (h:Has r x L H) (e:x=y):Has r y L H:=e ▸ h
theorem zeC {r:I × Int} {c:I} {x:R} {L H:Int} (e:r=(c,0)) (o:OkI c L H) (m:Mem c x):Has r x L H:=by subst e; exact ⟨rfl,o,m⟩
theorem Has.pair {r:I × Int} {x:R} {L H:Int} (h:Has r x L H):Has (r.1,0) x L H:=⟨rfl,h.ok,h.m⟩
theorem zmw {p:Nat} {c:I} {u v:Rat} (h:Enc p c u v) {x:R} (h1:ofQ u≤x) (h2:x≤ofQ v):Mem c x:=
 ⟨zj (zc.2 h.lo) h1,zj h2 (zc.2 h.hi)⟩
end Go.Proofs.YtjffljhmjdljeaaGreat.Gen
