/- Plain theory of the numbers that the statement speaks of: printed from the proofs' own texts, as far as this statement needs it. -/
import Derived.Test.YtjffljhmjdljeaaGreatGammToldGenO
set_option linter.unusedVariables false
set_option linter.unusedSimpArgs false
namespace Go.Plain
open Go Go.Abs
open Go.IntKind (i64 u64 u32)
theorem w64 {x:Int} (h1 : -9223372036854775808≤x) (h2:x≤9223372036854775807):i64.wrap x=x:=by
 unfold IntKind.wrap
 simp [IntKind.bits,IntKind.signed]
 omega
theorem QP {x:Int} : u32.wrap x=x % 4294967296:=by
 unfold IntKind.wrap
 simp [IntKind.bits,IntKind.signed]
theorem zbT {x:Int} : u64.wrap x=x % 18446744073709551616:=by
 unfold IntKind.wrap
 simp [IntKind.bits,IntKind.signed]
def dval:List Int→Nat
 | []=>0
 | d :: l=>d.toNat+4294967296*dval l
def Dig (l:List Int):Prop:=∀ d ∈ l,0≤d∧d<4294967296
def digs (n:Nat):List Int:=if h:n=0 then [] else ((n % 4294967296:Nat):Int) :: digs (n / 4294967296)
decreasing_by exact Nat.div_lt_self (Nat.pos_of_ne_zero h) (by decide)
theorem dvd (n:Nat):dval (digs n)=n:=by
 induction n using Nat.strongRecOn with
 | _ n ih=>
  unfold digs
  split
  ·rename_i h; subst h; rfl
  ·rename_i h
   simp only [dval]
   rw [ih _ (Nat.div_lt_self (Nat.pos_of_ne_zero h) (by decide))]
   omega
theorem dgd (n:Nat):Dig (digs n):=by
 induction n using Nat.strongRecOn with
 | _ n ih=>
  unfold digs
  split
  ·intro d hd; cases hd
  ·rename_i h
   intro d hd
   rcases List.mem_cons.1 hd with rfl | hd
   ·omega
   ·exact ih _ (Nat.div_lt_self (Nat.pos_of_ne_zero h) (by decide)) d hd
theorem zbU (l r:List Int):dval (l++r)=dval l+4294967296 ^ l.length*dval r:=by
 induction l with
 | nil=>simp [dval]
 | cons d l ih=>simp only [List.cons_append,dval,ih,List.length_cons,Nat.pow_succ]; grind
theorem qF {l:List Int} (h:Dig l):dval l<4294967296 ^ l.length:=by
 induction l with
 | nil=>simp [dval]
 | cons d l ih=>
  have h1:=h d List.mem_cons_self
  have h2:=ih fun x hx=>h x (List.mem_cons_of_mem _ hx)
  simp only [dval,List.length_cons,Nat.pow_succ]
  omega
theorem zik {l:List Int} (h:Dig l) (hl:l.getLastD 1≠0):digs (dval l)=l:=by
 induction l with
 | nil=>simp [dval,digs]
 | cons d l ih=>
  have h1:=h d List.mem_cons_self
  have hr:digs (dval l)=l:=by
   refine ih (fun x hx=>h x (List.mem_cons_of_mem _ hx)) ?_
   cases l with
   | nil=>simp
   | cons e l=>simpa using hl
  have hpos:dval (d :: l)≠0:=by
   simp only [dval]
   cases l with
   | nil=>simp at hl; simp [dval]; omega
   | cons e l=>
    intro h0
    have:dval (e :: l)=0:=wa
    rw [this] at hr
    simp [digs] at hr
  rw [digs,dif_neg hpos]
  simp only [dval]
  have e1:(d.toNat+4294967296*dval l) % 4294967296=d.toNat:=wa
  have e2:(d.toNat+4294967296*dval l) / 4294967296=dval l:=wa
  rw [e1,e2,hr]
  congr 1; omega
end Go.Plain
namespace Go.Proofs.YtjffljhmjdljeaaGreat.Gen
open Go Go.Abs Go.Plain
open Go.IntKind (i64 u64 u32)
theorem zxU (l:List Int):dval (l++[0])=dval l:=by rw [zbU]; simp [dval]
theorem zxV:∀ (m:Nat) (l:List Int),l.length=m→Dig l→m≤4611686018427387904→∀ n,m<n→zdz n l=some (digs (dval l)):=by
 intro m
 induction m with
 | zero=>
  intro l hl _ _ n hn
  obtain ⟨n,rfl⟩:∃ k,n=k+1:=⟨n-1,wa⟩
  have:l=[]:=List.eq_nil_of_length_eq_zero hl
  subst this
  simp [zdz,zjZ,znt,dval,digs]
 | succ m ih=>
  intro l hl hd hm n hn
  obtain ⟨n,rfl⟩:∃ k,n=k+1:=⟨n-1,wa⟩
  obtain ⟨r,x,rfl⟩:∃ r x,l=r++[x]:=by
   have hne:l≠[]:=by intro h; subst h; simp at hl
   exact ⟨l.dropLast,l.getLast hne,(List.dropLast_concat_getLast hne).symm⟩
  simp only [List.length_append,List.length_cons,List.length_nil] at hl
  have hw:i64.wrap ((((r++[x]).length:Nat):Int)-1)=(r.length:Int):=by
   rw [w64]<;>simp<;>omega
  rw [zdz]
  rw [hw]
  have h1:(((r++[x]).length:Nat):Int)>0:=by simp only [List.length_append,List.length_cons,List.length_nil]; omega
  have h2:0≤(r.length:Int)∧(r.length:Int)<(((r++[x]).length:Nat):Int):=by simp; omega
  rw [wc h1,wc h2]
  have hx:(r++[x]).getD ((r.length:Int).toNat) (kInt .u32).z=x:=by simp [List.getD]
  rw [hx]
  unfold zjZ
  rw [hw]
  by_cases hx0:x=0
  ·subst hx0
   have h3:0≤(0:Int)∧(0:Int)≤(r.length:Int)∧(r.length:Int)≤(((r++[(0:Int)]).length:Nat):Int):=by simp; omega
   rw [wc wb,wc h3]
   have ht:(r++[(0:Int)]).take ((r.length:Int).toNat)=r:=wb
   rw [ht,zxU]
   exact ih r wa (fun d h=>hd d (List.mem_append_left _ h)) wa n wa
  ·rw [we (by simp [hx0])]
   unfold znt
   rw [zik hd (by simp [hx0])]
theorem ZG {l:List Int} (hd:Dig l) (hl:l.length≤4611686018427387904):qZ l=some (digs (dval l)):=by
 unfold qZ
 exact zxV _ l rfl hd hl fuel (by unfold fuel; omega)
theorem QQ {n k:Nat} (h:n<4294967296 ^ k):(digs n).length≤k:=by
 induction k generalizing n with
 | zero=>have:n=0:=(by simpa using h); subst this; simp [digs]
 | succ k ih=>
  unfold digs
  split
  ·simp
  ·have:=ih (n:=n / 4294967296) (by rw [Nat.pow_succ] at h; exact Nat.div_lt_of_lt_mul (by rw [Nat.mul_comm]; exact h))
   simp only [List.length_cons]; omega
theorem Qs {l:List Int} (h:Dig l):(digs (dval l)).length≤l.length:=QQ (qF h)
theorem zil {a:Int} (h:0≤a) (h2:a<18446744073709551616):za5 a=some (digs a.toNat):=by
 unfold za5
 have e1:shrI .u64 a 32=a / 4294967296:=by
  unfold shrI
  simp [IntKind.bits]
  rw [Int.fdiv_eq_ediv_of_nonneg _ (by decide)]
 have hd:Dig [u32.wrap a,u32.wrap (shrI .u64 a 32)]:=by
  intro d hd
  simp only [List.mem_cons,List.not_mem_nil,or_false] at hd
  rcases hd with rfl | rfl<;>rw [QP]<;>omega
 rw [ZG hd wb]
 have e2:dval [u32.wrap a,u32.wrap (shrI .u64 a 32)]=a.toNat:=by
  simp only [dval,QP,e1]
  omega
 rw [e2]; rfl
theorem zxW {l:List Int} (h:l.length≤35184372088832):zdA l=some l:=by
 unfold zdA
 rw [wc wa]
theorem zf5 {l:List Int} (hd:Dig l) (hl:l.length≤35184372088832):zaY l=some (digs (dval l)):=by
 unfold zaY
 rw [ZG hd wa]
 have:=Qs hd
 simp only [Option.bind_some]
 rw [zxW wa]
 rfl
theorem zld {l:List Int} {i:Nat} (h:i<l.length):l.drop i=l.getD i 0 :: l.drop (i+1):=by
 rw [List.drop_eq_getElem_cons h]; simp [List.getD,h]
theorem zV (l:List Int) (i:Nat):dval (l.drop i)=(l.getD i 0).toNat+4294967296*dval (l.drop (i+1)):=by
 by_cases h:i<l.length
 ·rw [zld h]; rfl
 ·have h1:l.drop i=[]:=List.drop_eq_nil_of_le wa
  have h2:l.drop (i+1)=[]:=List.drop_eq_nil_of_le wa
  simp [h1,h2,dval,List.getD,List.getElem?_eq_none (show l.length≤i by omega)]
theorem ZV {l:List Int} (h:Dig l) (i:Nat):0≤l.getD i 0∧l.getD i 0<4294967296:=by
 by_cases hi:i<l.length
 ·have:=h (l.getD i 0) (by simp [List.getD,hi])
  exact this
 ·simp [List.getD,List.getElem?_eq_none (show l.length≤i by omega)]
theorem zoy (p r:List Int) (x y:Int) {i:Nat} (h:i=p.length):(p++x :: r).set i y=(p++[y])++r:=by
 subst h; simp
theorem zrU {x y c:Int} (hx:0≤x∧x<4294967296) (hy:0≤y∧y<4294967296) (hc:0≤c∧c≤1):zdE x y c=some ((x+y+c) % 4294967296,(x+y+c) / 4294967296):=by
 unfold zdE
 simp only [zbT,QP]
 have e:∀ z:Int,0≤z→shrI .u64 z 32=z / 4294967296:=by
  intro z hz
  unfold shrI
  simp [IntKind.bits]
  rw [Int.fdiv_eq_ediv_of_nonneg _ (by decide)]
 rw [e _ wa]
 congr 2<;>omega
theorem zxX {a b:List Int} (hab:b.length≤a.length) (ha:Dig a) (hb:Dig b) (hl:a.length≤1099511627776):∀ (k i:Nat) (c:Int) (p:List Int),i+k=a.length→p.length=i→Dig p→0≤c∧c≤1→∀ n,k<n→
  za1 a b n c (i:Int) (p++List.replicate (k+1) 0)=some (digs (dval p+4294967296 ^ i*(c.toNat+dval (a.drop i)+dval (b.drop i)))):=by
 intro k
 induction k with
 | zero=>
  intro i c p hi hp hd hc n hn
  obtain ⟨n,rfl⟩:∃ k,n=k+1:=⟨n-1,wa⟩
  rw [za1,we wa]
  unfold zj2
  rw [wc (by simp; omega)]
  have hset:(p++List.replicate (0+1) (0:Int)).set a.length c=(p++[c])++[]:=zoy p [] 0 c wa
  rw [hset,List.append_nil]
  have hd':Dig (p++[c]):=by
   intro d h
   rcases List.mem_append.1 h with h | h
   ·exact hd d h
   ·simp at h; omega
  rw [ZG hd' (by simp; omega)]
  have h1:a.drop i=[]:=List.drop_eq_nil_of_le wa
  have h2:b.drop i=[]:=List.drop_eq_nil_of_le wa
  rw [zbU,h1,h2,hp]
  simp [dval]
 | succ k ih=>
  intro i c p hi hp hd hc n hn
  obtain ⟨n,rfl⟩:∃ k,n=k+1:=⟨n-1,wa⟩
  have hx:=ZV ha i
  have hy:=ZV hb i
  have hw:i64.wrap ((i:Int)+1)=((i+1:Nat):Int):=by rw [w64]<;>omega
  have hz:(kInt .u32).z=0:=rfl
  have step:zeZ (i:Int) a c (p++List.replicate (k+1+1) 0) (fun z0 z1 z2=>za1 a b n z0 z1 z2) (b.getD i 0)=some (digs (dval p+4294967296 ^ i*(c.toNat+dval (a.drop i)+dval (b.drop i)))):=by
   unfold zeZ
   rw [wc wa,hz]
   simp only [Int.toNat_natCast]
   rw [zrU hx hy hc]
   simp only [Option.bind_some]
   rw [wc (by simp; omega),hw]
   have hset:(p++List.replicate (k+1+1) (0:Int)).set i ((a.getD i 0+b.getD i 0+c) % 4294967296)=(p++[(a.getD i 0+b.getD i 0+c) % 4294967296])++List.replicate (k+1) 0:=by
    rw [List.replicate_succ]; exact zoy p _ 0 _ hp.symm
   rw [hset]
   have hd':Dig (p++[(a.getD i 0+b.getD i 0+c) % 4294967296]):=by
    intro d h
    rcases List.mem_append.1 h with h | h
    ·exact hd d h
    ·simp at h; omega
   rw [ih (i+1) _ _ wa (by simp [hp]) hd' wa n wa]
   rw [zbU,hp,zV a i,zV b i,Nat.pow_succ]
   congr 2
   generalize dval (a.drop (i+1))=A
   generalize dval (b.drop (i+1))=C
   generalize a.getD i 0=x at hx ⊢
   generalize b.getD i 0=y at hy ⊢
   simp only [dval]
   generalize 4294967296 ^ i=W
   have h1:((x+y+c) % 4294967296).toNat+4294967296*((x+y+c) / 4294967296).toNat=x.toNat+y.toNat+c.toNat:=wa
   generalize ((x+y+c) % 4294967296).toNat=s at h1
   generalize ((x+y+c) / 4294967296).toNat=t at h1
   have:W*(c.toNat+(x.toNat+4294967296*A)+(y.toNat+4294967296*C))=W*(x.toNat+y.toNat+c.toNat)+W*4294967296*(A+C):=by grind
   rw [this,← h1]
   grind
  rw [za1,wc wa]
  by_cases hib:i<b.length
  ·rw [wc wa,wc wa,hz]
   simp only [Int.toNat_natCast]
   exact step
  ·rw [we wa]
   have:b.getD i 0=0:=by simp [List.getD,List.getElem?_eq_none (show b.length≤i by omega)]
   rw [this] at step
   exact step
theorem zrV {a b:List Int} (hab:b.length≤a.length) (ha:Dig a) (hb:Dig b) (hl:a.length≤1099511627776):ze0 a b=some (digs (dval a+dval b)):=by
 unfold ze0
 have hw:i64.wrap ((a.length:Int)+1)=((a.length+1:Nat):Int):=by rw [w64]<;>omega
 rw [hw,wc wa]
 have:=zxX hab ha hb hl a.length 0 0 [] wa rfl (fun d h=>by cases h) wa fuel (by unfold fuel; omega)
 simp only [List.nil_append,dval,Nat.zero_add,Nat.pow_zero,Nat.one_mul,List.drop_zero,Int.toNat_zero] at this
 exact this
theorem zoz {a b:List Int} (ha:Dig a) (hb:Dig b) (hl:a.length≤1099511627776) (hl':b.length≤1099511627776):zcm a b=some (digs (dval a+dval b)):=by
 unfold zcm
 split
 ·rw [zrV wa hb ha hl',Nat.add_comm]
 ·rw [zrV wa ha hb hl]
theorem zle {n:Nat} (h:n≠0):4294967296 ^ ((digs n).length-1)≤n:=by
 induction n using Nat.strongRecOn with
 | _ n ih=>
  unfold digs
  rw [dif_neg h]
  simp only [List.length_cons,Nat.add_sub_cancel]
  by_cases h0:n / 4294967296=0
  ·rw [h0]; simp [digs]; omega
  ·have:=ih _ (Nat.div_lt_self (Nat.pos_of_ne_zero h) (by decide)) h0
   have hl:0<(digs (n / 4294967296)).length:=by unfold digs; rw [dif_neg h0]; simp
   obtain ⟨k,hk⟩:∃ k,(digs (n / 4294967296)).length=k+1:=⟨_,(Nat.sub_add_cancel hl).symm⟩
   rw [hk] at this ⊢
   simp only [Nat.add_sub_cancel] at this
   rw [Nat.pow_succ]; omega
theorem qJ:digs 0=[]:=by unfold digs; rw [dif_pos rfl]
theorem zlf {m n:Nat} (h:(digs m).length<(digs n).length):m<n:=by
 have h1:n≠0:=by rintro rfl; rw [qJ] at h; exact absurd h (Nat.not_lt_zero _)
 have h2:=zle h1
 have h3:m<4294967296 ^ (digs m).length:=by have:=qF (dgd m); rwa [dvd] at this
 have h4:4294967296 ^ (digs m).length≤4294967296 ^ ((digs n).length-1):=Nat.pow_le_pow_right (by decide) wa
 omega
theorem zcJ (l:List Int) (k:Nat):dval l=dval (l.take k)+4294967296 ^ (l.take k).length*dval (l.drop k):=by
 conv=>lhs; rw [← List.take_append_drop k l]
 exact zbU _ _
theorem zbi {l:List Int} (h:Dig l) (k:Nat):Dig (l.take k):=fun d hd=>h d (List.mem_of_mem_take hd)
theorem zlg {l:List Int} (h:Dig l) (k:Nat):Dig (l.drop k):=fun d hd=>h d (List.mem_of_mem_drop hd)
theorem zrW {x y:List Int} (hx:Dig x) (hy:Dig y) (hl:x.length=y.length) {k:Nat} (hk:k<x.length) (ht:x.drop (k+1)=y.drop (k+1)) (hd:x.getD k 0<y.getD k 0):dval x<dval y:=by
 rw [zcJ x k,zcJ y k,zV x k,zV y k,ht]
 have h1:=qF (zbi hx k)
 have h2:=ZV hx k
 have h3:=ZV hy k
 simp only [List.length_take,show min k x.length=k by omega,show min k y.length=k by omega] at h1 ⊢
 generalize 4294967296 ^ k=W at *
 generalize dval (y.drop (k+1))=T
 generalize x.getD k 0=p at *
 generalize y.getD k 0=q at *
 have:p.toNat+1≤q.toNat:=wa
 have h4:W*(p.toNat+4294967296*T)+W≤W*(q.toNat+4294967296*T):=by
  have:W*(p.toNat+4294967296*T)+W=W*(p.toNat+1+4294967296*T):=by grind
  rw [this]; exact Nat.mul_le_mul_left _ wa
 omega
theorem zxY {x y:List Int} (hx:Dig x) (hy:Dig y) (hl:x.length=y.length) (hm:x.length≤4611686018427387904):∀ (k i:Nat),i+k=x.length→x.drop k=y.drop k→∀ n,k<n→
  zeW x y n (i:Int)=some (if dval x<dval y then -1 else if dval y<dval x then 1 else 0):=by
 intro k
 induction k with
 | zero=>
  intro i hi hd n hn
  obtain ⟨n,rfl⟩:∃ k,n=k+1:=⟨n-1,wa⟩
  rw [zeW,we wa]
  simp only [List.drop_zero] at hd
  subst hd
  simp [zrE]
 | succ k ih=>
  intro i hi hd n hn
  obtain ⟨n,rfl⟩:∃ k,n=k+1:=⟨n-1,wa⟩
  have hw:i64.wrap (i64.wrap ((x.length:Int)-1)-i)=(k:Int):=by
   rw [w64 (x:=(x.length:Int)-1) wa wa,w64]<;>omega
  have hw':i64.wrap ((i:Int)+1)=((i+1:Nat):Int):=by rw [w64]<;>omega
  have hz:(kInt .u32).z=0:=rfl
  rw [zeW,← hl,hw,hz]
  simp only [Int.toNat_natCast]
  rw [wc wa,wc wa,wc wa]
  by_cases h1:x.getD k 0<y.getD k 0
  ·rw [wc h1,wc (zrW hx hy hl wa hd h1)]
  ·rw [we h1]
   by_cases h2:x.getD k 0>y.getD k 0
   ·have:=zrW hy hx hl.symm wa hd.symm h2
    rw [wc h2,we wa,wc this]
   ·rw [we h2,hw']
    refine ih (i+1) wa ?_ n wa
    rw [zld (l:=x) wa,zld (l:=y) wa,hd,show x.getD k 0=y.getD k 0 by omega]
theorem zlh {a b:List Int} (ha:Dig a) (hb:Dig b) (hl:a.length≤1099511627776) (hl':b.length≤1099511627776):zdB a b=some (if dval a<dval b then -1 else if dval b<dval a then 1 else 0):=by
 unfold zdB
 have h1:=Qs ha
 have h2:=Qs hb
 rw [ZG ha wa,ZG hb wa]
 simp only [Option.bind_some]
 by_cases he:((digs (dval a)).length:Int)=((digs (dval b)).length:Int)
 ·rw [we (by simpa using he)]
  have he':(digs (dval a)).length=(digs (dval b)).length:=wa
  have:=zxY (dgd (dval a)) (dgd (dval b)) he' wa (digs (dval a)).length 0 wa (by rw [List.drop_length,he',List.drop_length]) fuel (by unfold fuel; omega)
  rw [dvd,dvd] at this
  exact this
 ·rw [wc (by simpa using he)]
  by_cases hlt:(digs (dval a)).length<(digs (dval b)).length
  ·rw [wc wa,wc (zlf hlt)]
  ·have:=zlf (m:=dval b) (n:=dval a) wa
   rw [we wa,we wa,wc this]
theorem zae:∀ (l:List Int) (j:Nat) (v:Int),j<l.length→dval (l.set j v)+4294967296 ^ j*(l.getD j 0).toNat=dval l+4294967296 ^ j*v.toNat
 | [],j,v,h=>by simp at h
 | d :: l,0,v,_=>by simp [dval]; omega
 | d :: l,j+1,v,h=>by
  have:=zae l j v (by simpa using h)
  simp only [List.set_cons_succ,dval,Nat.pow_succ]
  have e:(d :: l).getD (j+1) 0=l.getD j 0:=wb
  rw [e]
  have:4294967296*(dval (l.set j v)+4294967296 ^ j*(l.getD j 0).toNat)=4294967296*(dval l+4294967296 ^ j*v.toNat):=by rw [this]
  grind
theorem Qe {l:List Int} (h:Dig l) (j:Nat) {v:Int} (hv:0≤v∧v<4294967296):Dig (l.set j v):=by
 intro d hd
 rcases List.mem_or_eq_of_mem_set hd with h1 | rfl
 ·exact h d h1
 ·exact hv
theorem zbj (l:List Int) {i j:Nat} (v:Int) (h:i≠j):(l.set i v).getD j 0=l.getD j 0:=by simp [List.getD,List.getElem?_set_ne h]
theorem zxZ {a b:List Int} (ha:Dig a) (hb:Dig b) (hla:a.length≤1099511627776) (hlb:b.length≤1099511627776) {i:Nat} (hi:i<a.length) (ag:Int→List Int→Option (List Int)) :
  ∀ (r k:Nat) (c:Int) (O:List Int),k+r=b.length→Dig O→O.length=a.length+b.length→0≤c∧c<4294967296→O.getD (i+b.length) 0=0→∀ n,r<n→
   ∃ O',zdL b (i:Int) a ag n c (k:Int) O=ag ((i+1:Nat):Int) O'∧Dig O'∧O'.length=a.length+b.length∧dval O'=dval O+4294967296 ^ (i+k)*(c.toNat+(a.getD i 0).toNat*dval (b.drop k))∧
    ∀ j,i+b.length<j→O'.getD j 0=O.getD j 0:=by
 intro r
 have hz:(kInt .u32).z=0:=rfl
 have hx:=ZV ha i
 induction r with
 | zero=>
  intro k c O hk hO hl hc h0 n hn
  obtain ⟨n,rfl⟩:∃ k,n=k+1:=⟨n-1,wa⟩
  have hw:i64.wrap ((i:Int)+(b.length:Int))=((i+b.length:Nat):Int):=by rw [w64]<;>omega
  have hw2:i64.wrap ((i:Int)+1)=((i+1:Nat):Int):=by rw [w64]<;>omega
  have hc':u32.wrap c=c:=by rw [QP]; omega
  refine ⟨O.set (i+b.length) c,?_,Qe hO _ hc,by simp [hl],?_,fun j hj=>zbj _ _ wa⟩
  ·rw [zdL,we wa]
   unfold zke
   rw [hw,wc (by simp only [Int.toNat_natCast]; omega)]
   unfold zkd
   rw [hw2,hc']
   simp only [Int.toNat_natCast]
  ·have:=zae O (i+b.length) c wa
   rw [h0] at this
   have hk':k=b.length:=wa
   have hd:b.drop k=[]:=List.drop_eq_nil_of_le wa
   rw [hd,hk']
   simp only [dval,Int.toNat_zero,Nat.mul_zero,Nat.add_zero] at this ⊢
   exact this
 | succ r ih=>
  intro k c O hk hO hl hc h0 n hn
  obtain ⟨n,rfl⟩:∃ k,n=k+1:=⟨n-1,wa⟩
  have hy:=ZV hb k
  have ho:=ZV hO (i+k)
  have hw:i64.wrap ((i:Int)+(k:Int))=((i+k:Nat):Int):=by rw [w64]<;>omega
  have hw2:i64.wrap ((k:Int)+1)=((k+1:Nat):Int):=by rw [w64]<;>omega
  have hxy:0≤a.getD i 0*b.getD k 0∧a.getD i 0*b.getD k 0≤4294967295*4294967295:=by
   refine ⟨Int.mul_nonneg hx.1 hy.1,?_⟩
   exact Int.mul_le_mul wa wa hy.1 wa
  let s:Int:=a.getD i 0*b.getD k 0+O.getD (i+k) 0+c
  have hs:0≤s∧s<18446744073709551616:=by
   show 0≤a.getD i 0*b.getD k 0+O.getD (i+k) 0+c∧a.getD i 0*b.getD k 0+O.getD (i+k) 0+c<18446744073709551616
   omega
  have hwr:u64.wrap ((u64.wrap ((u64.wrap ((u64.wrap (a.getD i 0))*(u64.wrap (b.getD k 0))))+(u64.wrap (O.getD (i+k) 0))))+c)=s:=by
   simp only [zbT]
   rw [Int.emod_eq_of_lt hx.1 wa,Int.emod_eq_of_lt hy.1 wa,Int.emod_eq_of_lt ho.1 wa,Int.emod_eq_of_lt hxy.1 wa]
   show (((a.getD i 0*b.getD k 0+O.getD (i+k) 0) % 18446744073709551616)+c) % 18446744073709551616=a.getD i 0*b.getD k 0+O.getD (i+k) 0+c
   have h3:0≤a.getD i 0*b.getD k 0+O.getD (i+k) 0:=wa
   have h4:a.getD i 0*b.getD k 0+O.getD (i+k) 0+c<18446744073709551616:=hs.2
   omega
  have hsh:shrI .u64 s 32=s / 4294967296:=by
   unfold shrI
   simp [IntKind.bits]
   rw [Int.fdiv_eq_ediv_of_nonneg _ (by decide)]
  have hlo:u32.wrap s=s % 4294967296:=QP
  obtain ⟨O',e,d1,d2,d3,d4⟩:=ih (k+1) (s / 4294967296) (O.set (i+k) (s % 4294967296)) wa (Qe hO _ wa) (by simp [hl]) wa (by rw [zbj _ _ wa]; exact h0) n wa
  refine ⟨O',?_,d1,d2,?_,fun j hj=>by rw [d4 j hj,zbj _ _ wa]⟩
  ·rw [zdL,wc wa,wc wa,hw,hz]
   simp only [Int.toNat_natCast]
   rw [wc wa,wc wa,hwr,hsh,hlo,hw2]
   exact e
  ·rw [d3]
   have h5:=zae O (i+k) (s % 4294967296) wa
   rw [zV b k]
   have e1:i+(k+1)=i+k+1:=wa
   rw [e1,Nat.pow_succ]
   generalize 4294967296 ^ (i+k)=W at h5 ⊢
   generalize dval (b.drop (k+1))=T
   have h6:(s % 4294967296).toNat+4294967296*(s / 4294967296).toNat=(a.getD i 0).toNat*(b.getD k 0).toNat+(O.getD (i+k) 0).toNat+c.toNat:=by
    have h7:s.toNat=(a.getD i 0).toNat*(b.getD k 0).toNat+(O.getD (i+k) 0).toNat+c.toNat:=by
     have h8:((a.getD i 0).toNat:Int)=a.getD i 0:=Int.toNat_of_nonneg hx.1
     have h9:((b.getD k 0).toNat:Int)=b.getD k 0:=Int.toNat_of_nonneg hy.1
     have:(s.toNat:Int)=((a.getD i 0).toNat*(b.getD k 0).toNat+(O.getD (i+k) 0).toNat+c.toNat:Nat):=by
      rw [Int.toNat_of_nonneg hs.1]
      simp only [Int.natCast_add,Int.natCast_mul]
      rw [h8,h9,Int.toNat_of_nonneg ho.1,Int.toNat_of_nonneg hc.1]
     exact_mod_cast this
    omega
   generalize (s % 4294967296).toNat=lo at *
   generalize (s / 4294967296).toNat=hi' at *
   generalize (a.getD i 0).toNat=x at *
   generalize (b.getD k 0).toNat=y at *
   generalize (O.getD (i+k) 0).toNat=o at *
   generalize c.toNat=c' at *
   have h10:W*(lo+4294967296*hi')=W*(x*y+o+c'):=by rw [h6]
   grind
theorem zx0 {a b:List Int} (ha:Dig a) (hb:Dig b) (hla:a.length≤1099511627776) (hlb:b.length≤1099511627776) :
  ∀ (r i:Nat) (O:List Int),i+r=a.length→Dig O→O.length=a.length+b.length→(∀ j,i+b.length≤j→O.getD j 0=0)→∀ n,r<n→
   Q9 a b n (i:Int) O=some (digs (dval O+4294967296 ^ i*(dval (a.drop i)*dval b))):=by
 intro r
 induction r with
 | zero=>
  intro i O hi hO hl h0 n hn
  obtain ⟨n,rfl⟩:∃ k,n=k+1:=⟨n-1,wa⟩
  rw [Q9,we wa]
  unfold zkc
  rw [ZG hO wa]
  have hd:a.drop i=[]:=List.drop_eq_nil_of_le wa
  rw [hd]
  simp [dval]
 | succ r ih=>
  intro i O hi hO hl h0 n hn
  obtain ⟨n,rfl⟩:∃ k,n=k+1:=⟨n-1,wa⟩
  rw [Q9,wc wa,wc wa]
  obtain ⟨O',e,d1,d2,d3,d4⟩:=zxZ ha hb hla hlb (i:=i) wa (fun z0 z1=>Q9 a b n z0 z1) b.length 0 0 O wa hO hl wa (h0 _ (Nat.le_refl _)) fuel (by unfold fuel; omega)
  refine Eq.trans e ?_
  show Q9 a b n ((i+1:Nat):Int) O'=_
  rw [ih (i+1) O' wa d1 d2 (fun j hj=>by rw [d4 j wa]; exact h0 j wa) n wa,d3,zV a i,Nat.pow_succ]
  congr 2
  simp only [Nat.add_zero,List.drop_zero,Int.toNat_zero,Nat.zero_add]
  grind
theorem zf6 (n:Nat):dval (List.replicate n 0)=0:=by
 induction n with
 | zero=>rfl
 | succ n ih=>rw [List.replicate_succ]; simp [dval,ih]
theorem zx1 {a b:List Int} (ha:Dig a) (hb:Dig b) (hl:a.length≤1099511627776) (hl':b.length≤1099511627776):zdM a b=some (digs (dval a*dval b)):=by
 unfold zdM
 have h1:=Qs ha
 have h2:=Qs hb
 rw [ZG ha wa,ZG hb wa]
 simp only [Option.bind_some]
 have hw:i64.wrap (((digs (dval a)).length:Int)+((digs (dval b)).length:Int))=(((digs (dval a)).length+(digs (dval b)).length:Nat):Int):=by rw [w64]<;>omega
 rw [hw,wc wa]
 have hz:(kInt .u32).z=0:=rfl
 have:=zx0 (dgd (dval a)) (dgd (dval b)) wa wa (digs (dval a)).length 0 (List.replicate ((digs (dval a)).length+(digs (dval b)).length) 0) wa (fun d hd=>by rw [List.eq_of_mem_replicate hd]; omega) wb (fun j _=>by
  simp only [List.getD,List.getElem?_replicate]
  split<;>rfl) fuel (by unfold fuel; omega)
 rw [zf6,dvd,List.drop_zero,dvd] at this
 simp only [Nat.zero_add,Nat.pow_zero,Nat.one_mul] at this
 exact this
theorem zx2 {v:BitVec 32} : v.toNat / 2147483648=if v.getLsbD 31 then 1 else 0:=by
 rw [BitVec.getLsbD,Nat.testBit_eq_decide_div_mod_eq]
 have:=v.isLt
 split
 ·rename_i h; simp at h; omega
 ·rename_i h; simp at h; omega
theorem zoA {x:Int} (h:0≤x∧x<4294967296):(BitVec.ofInt 32 x).getLsbD 31=decide (2147483648≤x):=by
 have e:(BitVec.ofInt 32 x).toNat=x.toNat:=by
  rw [BitVec.toNat_ofInt]
  have:x % (2 ^ 32:Nat)=x:=Int.emod_eq_of_lt h.1 (by simpa using h.2)
  rw [this]
 rw [BitVec.getLsbD,Nat.testBit_eq_decide_div_mod_eq,e]
 by_cases hx:2147483648≤x
 ·simp [hx]; omega
 ·simp [hx]; omega
theorem zli (v:BitVec 32):u32.wrap (v.toNat:Int)=(v.toNat:Int):=by rw [QP]; have:=v.isLt; omega
theorem zx3 (v:BitVec 32):BitVec.ofInt 32 (v.toNat:Int)=v:=wb
theorem zlj (x y:Int):zaw .u32 x y=((BitVec.ofInt 32 x &&& BitVec.ofInt 32 y).toNat:Int):=zli _
theorem zrX (x y:Int):orI .u32 x y=((BitVec.ofInt 32 x ||| BitVec.ofInt 32 y).toNat:Int):=zli _
theorem zx4 (x y:Int):znd .u32 x y=((BitVec.ofInt 32 x ^^^ BitVec.ofInt 32 y).toNat:Int):=zli _
theorem zrY (x:Int):zjI .u32 x=((BitVec.allOnes 32 ^^^ BitVec.ofInt 32 x).toNat:Int):=by
 have e:BitVec.ofInt 32 (if u32.signed then -1 else u32.max)=BitVec.allOnes 32:=by decide
 unfold zjI
 show u32.wrap ((BitVec.ofInt 32 (if u32.signed then -1 else u32.max) ^^^ BitVec.ofInt 32 x).toNat:Int)=_
 rw [e]; exact zli _
theorem zrZ {x y c:Int} (hx:0≤x∧x<4294967296) (hy:0≤y∧y<4294967296) (hc:0≤c∧c≤1):zcn x y c=some ((x-y-c) % 4294967296,if x<y+c then 1 else 0):=by
 unfold zcn
 have hd:u32.wrap (u32.wrap (x-y)-c)=(x-y-c) % 4294967296:=by simp only [QP]; omega
 rw [hd]
 have hd':0≤(x-y-c) % 4294967296∧(x-y-c) % 4294967296<4294967296:=wa
 congr 2
 rw [zrY,zx4,zrY,zlj,zlj,zrX]
 simp only [zx3]
 generalize hv:(BitVec.allOnes 32 ^^^ BitVec.ofInt 32 x) &&& BitVec.ofInt 32 y ||| (BitVec.allOnes 32 ^^^ (BitVec.ofInt 32 x ^^^ BitVec.ofInt 32 y)) &&& BitVec.ofInt 32 ((x-y-c) % 4294967296)=v
 have hs:shrI .u32 (v.toNat:Int) 31=((v.toNat / 2147483648:Nat):Int):=by
  unfold shrI
  simp [IntKind.bits]
  rw [Int.fdiv_eq_ediv_of_nonneg _ (by decide)]
 rw [hs,zx2,← hv]
 simp only [BitVec.getLsbD_or,BitVec.getLsbD_and,BitVec.getLsbD_xor,BitVec.getLsbD_allOnes,zoA hx,zoA hy,zoA hd']
 by_cases h1:2147483648≤x<;>by_cases h2:2147483648≤y<;>by_cases h3:2147483648≤(x-y-c) % 4294967296<;>by_cases h4:x<y+c<;>simp [h1,h2,h3,h4]<;>omega
theorem zcK (l:List Int) (i:Nat):dval (l.take (i+1))=dval (l.take i)+4294967296 ^ i*(l.getD i 0).toNat:=by
 by_cases h:i<l.length
 ·have e:l.take (i+1)=l.take i++[l.getD i 0]:=by rw [List.take_add_one]; simp [List.getD,h]
  rw [e,zbU]
  simp [dval,show min i l.length=i by omega]
 ·have e1:l.take (i+1)=l:=List.take_of_length_le wa
  have e2:l.take i=l:=List.take_of_length_le wa
  rw [e1,e2]; simp [List.getD,List.getElem?_eq_none (show l.length≤i by omega)]
theorem zx5 {x y:List Int} (hxy:y.length≤x.length) (hx:Dig x) (hy:Dig y) (hl:x.length≤1099511627776):∀ (k i:Nat) (c:Int) (p:List Int),i+k=x.length→p.length=i→Dig p→0≤c∧c≤1→
  dval p+dval (y.take i)+4294967296 ^ i*0=dval (x.take i)+4294967296 ^ i*c.toNat→∀ n,k<n→
  za2 x y n c (i:Int) (p++List.replicate k 0)=some (if dval x<dval y then ([],false) else (digs (dval x-dval y),true)):=by
 intro k
 induction k with
 | zero=>
  intro i c p hi hp hd hc hv n hn
  obtain ⟨n,rfl⟩:∃ k,n=k+1:=⟨n-1,wa⟩
  rw [za2,we wa]
  have e1:y.take i=y:=List.take_of_length_le wa
  have e2:x.take i=x:=List.take_of_length_le wa
  rw [e1,e2] at hv
  have hp':=qF hd
  rw [hp] at hp'
  simp only [List.replicate_zero,List.append_nil]
  unfold zj3
  by_cases h1:c>0
  ·have:c=1:=wa
   subst this
   simp only [Nat.mul_zero,Nat.add_zero,Int.toNat_one,Nat.mul_one] at hv
   rw [wc h1,wc wa]
  ·have:c=0:=wa
   subst this
   simp only [Nat.mul_zero,Nat.add_zero,Int.toNat_zero] at hv
   rw [we h1,we wa,ZG hd wa]
   simp only [Option.bind_some]
   congr 3; omega
 | succ k ih=>
  intro i c p hi hp hd hc hv n hn
  obtain ⟨n,rfl⟩:∃ k,n=k+1:=⟨n-1,wa⟩
  have hx':=ZV hx i
  have hy':=ZV hy i
  have hw:i64.wrap ((i:Int)+1)=((i+1:Nat):Int):=by rw [w64]<;>omega
  have hz:(kInt .u32).z=0:=rfl
  have step:ze1 (i:Int) x c (p++List.replicate (k+1) 0) (fun z0 z1 z2=>za2 x y n z0 z1 z2) (y.getD i 0)=some (if dval x<dval y then ([],false) else (digs (dval x-dval y),true)):=by
   unfold ze1
   rw [wc wa,hz]
   simp only [Int.toNat_natCast]
   rw [zrZ hx' hy' hc]
   simp only [Option.bind_some]
   rw [wc (by simp; omega),hw]
   have hset:(p++List.replicate (k+1) (0:Int)).set i ((x.getD i 0-y.getD i 0-c) % 4294967296)=(p++[(x.getD i 0-y.getD i 0-c) % 4294967296])++List.replicate k 0:=by
    rw [List.replicate_succ]; exact zoy p _ 0 _ hp.symm
   rw [hset]
   have hd':Dig (p++[(x.getD i 0-y.getD i 0-c) % 4294967296]):=by
    intro d h
    rcases List.mem_append.1 h with h | h
    ·exact hd d h
    ·simp at h; omega
   refine ih (i+1) _ _ wa (by simp [hp]) hd' (by split<;>omega) ?_ n wa
   rw [zbU,hp,zcK x i,zcK y i,Nat.pow_succ]
   simp only [dval]
   generalize 4294967296 ^ i=W at hv ⊢
   generalize dval (y.take i)=Y at hv ⊢
   generalize dval (x.take i)=X at hv ⊢
   generalize dval p=D at hv ⊢
   generalize x.getD i 0=a at hx' ⊢
   generalize y.getD i 0=b at hy' ⊢
   have h1:((a-b-c) % 4294967296).toNat+b.toNat+c.toNat=a.toNat+4294967296*(if a<b+c then (1:Int) else 0).toNat:=by
    split<;>simp<;>omega
   generalize ((a-b-c) % 4294967296).toNat=s at h1 ⊢
   generalize (if a<b+c then (1:Int) else 0).toNat=t at h1 ⊢
   generalize a.toNat=a' at *
   generalize b.toNat=b' at *
   generalize c.toNat=c' at *
   have h2:W*(s+b'+c')=W*(a'+4294967296*t):=by rw [h1]
   grind
  rw [za2,wc wa]
  by_cases hib:i<y.length
  ·rw [wc wa,wc wa,hz]
   simp only [Int.toNat_natCast]
   exact step
  ·rw [we wa]
   have:y.getD i 0=0:=by simp [List.getD,List.getElem?_eq_none (show y.length≤i by omega)]
   rw [this] at step
   exact step
theorem zoB {a b:List Int} (ha:Dig a) (hb:Dig b) (hl:a.length≤1099511627776) (hl':b.length≤1099511627776):ze2 a b=some (if dval a<dval b then ([],false) else (digs (dval a-dval b),true)):=by
 unfold ze2
 have h1:=Qs ha
 have h2:=Qs hb
 rw [ZG ha wa,ZG hb wa]
 simp only [Option.bind_some]
 split
 ·rename_i h
  rw [wc (zlf wa)]
 ·rename_i h
  rw [wc wa]
  have hz:(kInt .u32).z=0:=rfl
  have:=zx5 (x:=digs (dval a)) (y:=digs (dval b)) wa (dgd _) (dgd _) wa (digs (dval a)).length 0 0 [] wa rfl (fun d h=>by cases h) wa (by simp [dval]) fuel (by unfold fuel; omega)
  rw [dvd,dvd] at this
  exact this
def blen (n:Nat):Nat:=if n=0 then 0 else n.log2+1
theorem Zk (n:Nat):n<2 ^ blen n:=by
 unfold blen
 split
 ·subst_vars; decide
 ·exact Nat.lt_log2_self
theorem QR {n:Nat} (h:n≠0):2 ^ (blen n-1)≤n:=by
 unfold blen
 rw [we h]
 exact Nat.log2_self_le h
theorem zr0 {n k:Nat} (h1:2 ^ k≤n) (h2:n<2 ^ (k+1)):blen n=k+1:=by
 have h0:n≠0:=by have:=Nat.two_pow_pos k; omega
 unfold blen
 rw [we h0,(Nat.log2_eq_iff h0).2 ⟨h1,h2⟩]
theorem zim {n k:Nat} (h:n / 2 ^ k≠0):blen n=blen (n / 2 ^ k)+k:=by
 have h1:=QR h
 have h2:=Zk (n / 2 ^ k)
 have h3:0<blen (n / 2 ^ k):=by unfold blen; rw [we h]; omega
 have e:blen (n / 2 ^ k)+k=(blen (n / 2 ^ k)-1+k)+1:=wa
 rw [e]
 refine zr0 ?_ ?_
 ·rw [Nat.pow_add]
  calc 2 ^ (blen (n / 2 ^ k)-1)*2 ^ k≤n / 2 ^ k*2 ^ k:=Nat.mul_le_mul_right _ h1
   _≤n:=Nat.div_mul_le_self _ _
 ·rw [← e,Nat.pow_add]
  exact (Nat.div_lt_iff_lt_mul (Nat.two_pow_pos k)).1 h2
theorem zlk {y k:Int} (hy:0≤y∧y<256) (hk:0≤k∧k≤24):zeU y k=some (k+(blen y.toNat:Nat)):=by
 obtain ⟨m,rfl⟩:∃ m:Nat,y=m:=⟨y.toNat,wa⟩
 have hm:m<256:=wa
 have key:∀ m:Fin 256,∀ k:Fin 25,zeU ((m.val:Nat):Int) ((k.val:Nat):Int)=some (((k.val:Nat):Int)+(blen m.val:Nat)):=by decide +kernel
 have:=key ⟨m,hm⟩ ⟨k.toNat,wa⟩
 simp only [show ((k.toNat:Nat):Int)=k by omega] at this
 simpa using this
theorem zoC {x:Int} {k:Nat} (hx:0≤x) (hk:k≤32):shrI .u32 x (k:Int)=x / (2 ^ k:Nat):=by
 unfold shrI
 simp only [Int.toNat_natCast,IntKind.bits]
 rw [show min k 32=k by omega,Int.fdiv_eq_ediv_of_nonneg _ (Int.pow_nonneg (by decide))]
 simp
theorem zr1 {x:Int} (hx:0≤x∧x<4294967296):zeV x=some ((blen x.toNat:Nat):Int):=by
 unfold zeV zhe
 have h16:=zoC (x:=x) (k:=16) hx.1 (by decide)
 have e16:shrI .u32 x 16=x / 65536:=h16
 have f:∀ (y:Int) (k:Nat),y.toNat=x.toNat / 2 ^ k→0<y→(k:Int)+(blen y.toNat:Nat)=(blen x.toNat:Nat):=by
  intro y k h1 h2
  rw [h1,zim (n:=x.toNat) (k:=k) wa]
  omega
 have e8:∀ z:Int,0≤z→shrI .u32 z 8=z / 256:=fun z hz=>by
  have:=zoC (x:=z) (k:=8) hz (by decide)
  exact this
 by_cases h1:x≥65536
 ·rw [wc h1,e16]
  by_cases h2:x / 65536≥256
  ·rw [wc h2,e8 _ wa]
   have hw:i64.wrap ((16:Int)+8)=24:=by decide
   rw [hw,zlk wa wa]
   congr 1
   exact f (x / 65536 / 256) 24 wa wa
  ·rw [we h2,zlk wa wa]
   congr 1
   exact f (x / 65536) 16 wa wa
 ·rw [we h1]
  by_cases h2:x≥256
  ·rw [wc h2,e8 _ wa]
   have hw:i64.wrap ((0:Int)+8)=8:=by decide
   rw [hw,zlk wa wa]
   congr 1
   exact f (x / 256) 8 wa wa
  ·rw [we h2,zlk wa wa]
   simp
theorem zaO (k:Nat):4294967296 ^ k=2 ^ (32*k):=by rw [Nat.pow_mul]
theorem zin {l:List Int} (h:Dig l) (k:Nat) (hk:k≤l.length):dval l / 4294967296 ^ k=dval (l.drop k):=by
 have h1:=qF (zbi h k)
 rw [zcJ l k]
 simp only [List.length_take,show min k l.length=k by omega] at h1 ⊢
 rw [Nat.add_mul_div_left _ _ (Nat.pow_pos (by decide)),Nat.div_eq_of_lt h1,Nat.zero_add]
theorem zaP {n:Nat} (h:n≠0):0<(digs n).length:=by unfold digs; rw [dif_neg h]; simp
theorem zio {n:Nat} (h:n≠0):n / 4294967296 ^ ((digs n).length-1)=((digs n).getD ((digs n).length-1) 0).toNat∧(digs n).getD ((digs n).length-1) 0≠0:=by
 have hp:=zaP h
 have h1:=zin (dgd n) ((digs n).length-1) wa
 rw [dvd,zld wa,show (digs n).length-1+1=(digs n).length by omega,List.drop_length] at h1
 simp only [dval,Nat.mul_zero,Nat.add_zero] at h1
 refine ⟨h1,fun h0=>?_⟩
 rw [h0] at h1
 have h2:=zle h
 have h3:0<n / 4294967296 ^ ((digs n).length-1):=Nat.div_pos h2 (Nat.pow_pos (by decide))
 simp at h1; omega
theorem zip {a:List Int} (ha:Dig a) (hl:a.length≤1099511627776):ZR a=some ((blen (dval a):Nat):Int):=by
 unfold ZR
 have h1:=Qs ha
 rw [ZG ha wa]
 simp only [Option.bind_some]
 generalize dval a=n at *
 by_cases h0:n=0
 ·subst h0
  rw [qJ]
  simp [blen]
 ·have hp:=zaP h0
  obtain ⟨t1,t2⟩:=zio h0
  have hd:=ZV (dgd n) ((digs n).length-1)
  have hz:(kInt .u32).z=0:=rfl
  have hw:i64.wrap (((digs n).length:Int)-1)=(((digs n).length-1:Nat):Int):=by rw [w64]<;>omega
  rw [we wa,hw,wc wa,hz]
  simp only [Int.toNat_natCast]
  rw [zr1 hd]
  try simp only [Option.bind_some]
  have hb:blen n=blen ((digs n).getD ((digs n).length-1) 0).toNat+32*((digs n).length-1):=by
   have:=zim (n:=n) (k:=32*((digs n).length-1)) (by rw [← zaO,t1]; omega)
   rw [← zaO,t1] at this; exact this
  have hle:blen ((digs n).getD ((digs n).length-1) 0).toNat≤32:=by
   have h5:((digs n).getD ((digs n).length-1) 0).toNat≠0:=wa
   have h6:=QR h5
   rcases Nat.lt_or_ge 32 (blen ((digs n).getD ((digs n).length-1) 0).toNat) with h7 | h7
   ·have:2 ^ 32≤2 ^ (blen ((digs n).getD ((digs n).length-1) 0).toNat-1):=Nat.pow_le_pow_right (by decide) wa
    omega
   ·exact h7
  rw [w64 (x:=32*(((digs n).length-1:Nat):Int)) wa wa,w64 wa wa,hb]
  congr 1; omega
theorem zll {x:Int} (h:0≤x∧x<4294967296):(BitVec.ofInt 32 x).toNat=x.toNat:=by
 rw [BitVec.toNat_ofInt]
 have:x % (2 ^ 32:Nat)=x:=Int.emod_eq_of_lt h.1 (by simpa using h.2)
 rw [this]
theorem zlm {k:Nat} (hk:k<32):(2:Nat) ^ k<4294967296:=Nat.pow_lt_pow_right (by decide) hk
theorem zx6 (n k:Nat):n &&& 2 ^ k=if n.testBit k then 2 ^ k else 0:=by
 apply Nat.eq_of_testBit_eq
 intro i
 rw [Nat.testBit_and,Nat.testBit_two_pow]
 by_cases h:k=i
 ·subst h
  cases e:n.testBit k<;>simp [Nat.testBit_two_pow]
 ·cases e:n.testBit k<;>simp [h,Nat.testBit_two_pow]
theorem zr2 {k:Nat} (hk:k<32):shlI .u32 1 (k:Int)=((2 ^ k:Nat):Int):=by
 unfold shlI
 simp only [Int.toNat_natCast,IntKind.bits]
 have hp:=zlm hk
 rw [show min k 32=k by omega]
 have h2:(1:Int)*2 ^ k=((2 ^ k:Nat):Int):=wb
 rw [h2]
 generalize (2:Nat) ^ k=n at hp
 rw [QP]; omega
theorem zr3 {x:Int} (h:0≤x∧x<4294967296) {k:Nat} (hk:k<32):(zaw .u32 x (shlI .u32 1 (k:Int)) != 0)=x.toNat.testBit k:=by
 have hp:=zlm hk
 rw [zr2 hk,zlj,BitVec.toNat_and,zll h]
 have h3:(BitVec.ofInt 32 ((2 ^ k:Nat):Int)).toNat=2 ^ k:=by
  generalize (2:Nat) ^ k=n at hp
  rw [zll wa,Int.toNat_natCast]
 rw [h3,zx6]
 have h4:0<2 ^ k:=Nat.pow_pos (by decide)
 cases x.toNat.testBit k with
 | false=>simp
 | true=>
  generalize (2:Nat) ^ k=n at h4
  simp; omega
theorem zln:∀ (l:List Int) (_:Dig l) (i:Nat),(dval l).testBit i=((l.getD (i / 32) 0).toNat).testBit (i % 32)
 | [],_,i=>by simp [dval]
 | d :: l,h,i=>by
  have h1:=h d List.mem_cons_self
  have h2:=zln l fun x hx=>h x (List.mem_cons_of_mem _ hx)
  have e:dval (d :: l)=2 ^ 32*dval l+d.toNat:=by simp only [dval]; omega
  rw [e,Nat.testBit_two_pow_mul_add _ wa]
  by_cases hi:i<32
  ·rw [wc hi,show i / 32=0 by omega,show i % 32=i by omega]; simp
  ·rw [we hi,h2,show i / 32=(i-32) / 32+1 by omega,show i % 32=(i-32) % 32 by omega]; simp
theorem zoD {a:List Int} (ha:Dig a) {i:Nat} (hi:i≤1099511627776):ze3 a (i:Int)=some ((dval a).testBit i):=by
 unfold ze3 zj4
 have hw:i64.wrap ((i:Int).tdiv 32)=((i / 32:Nat):Int):=by
  have:(i:Int).tdiv 32=((i / 32:Nat):Int):=by rw [Int.tdiv_eq_ediv_of_nonneg wa]; omega
  rw [this,w64]<;>omega
 have hm:(i:Int).tmod 32=((i % 32:Nat):Int):=by rw [Int.tmod_eq_emod_of_nonneg wa]; omega
 have hz:(kInt .u32).z=0:=rfl
 rw [wc wa,hw,hm,zln a ha i,hz]
 split
 ·rename_i h
  rw [wc wa,wc wa]
  simp only [Int.toNat_natCast]
  rw [zr3 (ZV ha _) wa]
 ·rename_i h
  simp [List.getD,List.getElem?_eq_none (show a.length≤i / 32 by omega)]
theorem zG {x:Nat} (h:x<18446744073709551616):u64.wrap (x:Int)=(x:Int):=by rw [zbT]; omega
theorem ZW (x:Nat):u32.wrap (x:Int)=((x % 4294967296:Nat):Int):=by rw [QP]; omega
theorem zlo {x s:Nat} (hs:s≤64) (h:x*2 ^ s<18446744073709551616):shlI .u64 (x:Int) (s:Int)=((x*2 ^ s:Nat):Int):=by
 unfold shlI
 simp only [Int.toNat_natCast,IntKind.bits]
 rw [show min s 64=s by omega]
 have:(x:Int)*2 ^ s=((x*2 ^ s:Nat):Int):=wb
 rw [this,zG h]
theorem zoE (x:Nat) {s:Nat} (hs:s≤64):shrI .u64 (x:Int) (s:Int)=((x / 2 ^ s:Nat):Int):=by
 unfold shrI
 simp only [Int.toNat_natCast,IntKind.bits]
 rw [show min s 64=s by omega,Int.fdiv_eq_ediv_of_nonneg _ (by exact_mod_cast Nat.zero_le (2 ^ s))]
 simp
theorem zx7 {x y:Nat} (hx:x<4294967296) (hy:y<4294967296):orI .u32 (x:Int) (y:Int)=((x ||| y:Nat):Int):=by
 rw [zrX,BitVec.toNat_or,zll wa,zll wa]; simp
theorem zbk {x y:Nat} (hx:x<18446744073709551616) (hy:y<18446744073709551616):orI .u64 (x:Int) (y:Int)=((x ||| y:Nat):Int):=by
 have t:∀ {z:Nat},z<18446744073709551616→(BitVec.ofInt 64 (z:Int)).toNat=z:=by
  intro z hz
  simp [BitVec.toNat_ofInt]; omega
 show u64.wrap ((BitVec.ofInt 64 (x:Int) ||| BitVec.ofInt 64 (y:Int)).toNat:Int)=_
 rw [BitVec.toNat_or,t hx,t hy,zG (Nat.or_lt_two_pow (n:=64) hx hy)]
theorem zoF {x s:Nat} (y:Nat) (h:x<2 ^ s):x ||| (2 ^ s*y)=x+2 ^ s*y:=by
 rw [Nat.or_comm,← Nat.two_pow_add_eq_or_of_lt h,Nat.add_comm]
theorem zL {l:List Int} (h:Dig l) (i:Nat):∃ d:Nat,l.getD i 0=(d:Int)∧d<4294967296:=by
 have:=ZV h i
 exact ⟨(l.getD i 0).toNat,wa,wa⟩
theorem zbl (n:Nat):(n:Int).tdiv 32=((n / 32:Nat):Int):=by rw [Int.tdiv_eq_ediv_of_nonneg wa]; omega
theorem ziq (n:Nat):(n:Int).tmod 32=((n % 32:Nat):Int):=by rw [Int.tmod_eq_emod_of_nonneg wa]; omega
theorem kz:(kInt .u32).z=0:=rfl
theorem zW {n:Nat} (h:n≤9223372036854775807):i64.wrap (n:Int)=(n:Int):=by rw [w64]<;>omega
theorem zlp {x y:Nat} (hx:x<4294967296) (hy:y<4294967296):x*y<18446744073709551616:=by
 have:x*y≤4294967295*4294967295:=Nat.mul_le_mul wa wa
 omega
theorem p32:(2:Nat) ^ 32=4294967296:=by decide
theorem zr4 {s:Nat} (h:s≤32):4294967296=2 ^ s*2 ^ (32-s):=by rw [← Nat.pow_add,show s+(32-s)=32 by omega]
theorem zf7 (x:Nat):shrI .u64 (x:Int) 32=((x / 4294967296:Nat):Int):=by
 rw [← p32]; exact zoE x (s:=32) wa
theorem zx8 {X A B W o V S ll hh d:Nat} (h2:X+A*B*o=A*(V*S)+A*B*(o+ll)) (e2:W*hh+ll=d*S):X+A*B*W*hh=A*((V+B*d)*S):=by
 have h3:A*B*(W*hh+ll)=A*B*(d*S):=by rw [e2]
 have h4:X=A*(V*S)+A*B*ll:=by
  rw [Nat.mul_add] at h2; omega
 rw [h4]
 have h5:A*((V+B*d)*S)=A*(V*S)+A*B*(d*S):=by
  rw [Nat.add_mul,Nat.mul_add]; simp [Nat.mul_assoc]
 rw [h5,← h3,Nat.mul_add]
 simp only [Nat.mul_assoc]; omega
theorem zf8 (x y:Nat):4294967296 ^ (x+y)=4294967296 ^ x*4294967296 ^ y:=by rw [Nat.pow_add]
theorem zx9 (x y:Nat):4294967296 ^ (x+y+1)=4294967296 ^ x*4294967296 ^ y*4294967296:=by rw [Nat.pow_succ,Nat.pow_add]
theorem zya {a O:List Int} {q i d o S:Nat} (hl:q+i+1<O.length) (hv:dval O=4294967296 ^ q*(dval (a.take i)*S)) (hz:O.getD (q+i+1) 0=0) (ho:O.getD (q+i) 0=(o:Int)) (hd:a.getD i 0=(d:Int)) :
  dval ((O.set (q+i) ((o+d*S % 4294967296:Nat):Int)).set (q+i+1) ((d*S / 4294967296:Nat):Int))=4294967296 ^ q*(dval (a.take (i+1))*S):=by
 have h1:=zae (O.set (q+i) ((o+d*S % 4294967296:Nat):Int)) (q+i+1) ((d*S / 4294967296:Nat):Int) (by rw [List.length_set]; omega)
 have h2:=zae O (q+i) ((o+d*S % 4294967296:Nat):Int) wa
 rw [zbj _ _ wa,hz] at h1
 rw [ho,hv] at h2
 rw [Int.toNat_natCast,Int.toNat_natCast,zf8] at h2
 rw [Int.toNat_natCast,Int.toNat_zero,Nat.mul_zero,Nat.add_zero,zx9] at h1
 rw [h1,zcK,hd,Int.toNat_natCast]
 exact zx8 h2 (Nat.div_add_mod (d*S) 4294967296)
theorem zyb {a:List Int} (ha:Dig a) {n:Nat} (hn:n≤100000) (hl:a.length≤1099511627776) :
  ∀ (r i:Nat) (O:List Int),i+r=a.length→Dig O→O.length=n / 32+a.length+1→dval O=4294967296 ^ (n / 32)*(dval (a.take i)*2 ^ (n % 32))→(O.getD (n / 32+i) 0).toNat<2 ^ (n % 32)→(∀ j,n / 32+i<j→O.getD j 0=0)→
   ∀ f,r<f→zdD a (n:Int) f (i:Int) O=some (digs (dval a*2 ^ n),true):=by
 intro r
 induction r with
 | zero=>
  intro i O hi hO hlO hv hc hz f hf
  obtain ⟨f,rfl⟩:∃ k,f=k+1:=⟨f-1,wa⟩
  rw [zdD,we wa]
  unfold zj1
  rw [ZG hO wa,hv,List.take_of_length_le wa]
  have e:4294967296 ^ (n / 32)*(dval a*2 ^ (n % 32))=dval a*2 ^ n:=by
   conv=>rhs; rw [← Nat.div_add_mod n 32,Nat.pow_add,← zaO]
   grind
  rw [e]; rfl
 | succ r ih=>
  intro i O hi hO hlO hv hc hz f hf
  obtain ⟨f,rfl⟩:∃ k,f=k+1:=⟨f-1,wa⟩
  obtain ⟨d,hd,hd'⟩:=zL ha i
  obtain ⟨o,ho,ho'⟩:=zL hO (n / 32+i)
  have hs:n % 32<32:=wa
  have hps:=zlm hs
  have hw1:i64.wrap ((n / 32:Nat):Int)=((n / 32:Nat):Int):=zW wa
  have hw2:i64.wrap (((n / 32:Nat):Int)+(i:Int))=((n / 32+i:Nat):Int):=by rw [w64]<;>omega
  have hw3:i64.wrap (((n / 32+i:Nat):Int)+1)=((n / 32+i+1:Nat):Int):=by rw [w64]<;>omega
  have hw4:i64.wrap ((i:Int)+1)=((i+1:Nat):Int):=by rw [w64]<;>omega
  have hb:d*2 ^ (n % 32)<18446744073709551616:=zlp hd' hps
  have hsplit:=zr4 (show n % 32≤32 by omega)
  rw [zdD,wc wa,wc wa,zbl,ziq,hw1,hw2,hw3,hw4,kz]
  simp only [Int.toNat_natCast]
  rw [hd,ho,zG wa,zlo wa hb,zf7,ZW,ZW]
  rw [wc wa,wc wa,wc wa,wc (by rw [List.length_set]; omega)]
  rw [ho] at hc
  simp only [Int.toNat_natCast] at hc
  have hlow:d*2 ^ (n % 32) % 4294967296=2 ^ (n % 32)*(d % 2 ^ (32-n % 32)):=by
   conv=>lhs; rw [hsplit,Nat.mul_comm d]
   exact Nat.mul_mod_mul_left _ _ _
  have hor:orI .u32 (o:Int) ((d*2 ^ (n % 32) % 4294967296:Nat):Int)=((o+d*2 ^ (n % 32) % 4294967296:Nat):Int):=by
   rw [zx7 ho' (Nat.mod_lt _ (by decide)),hlow,zoF _ hc]
  have hhi:d*2 ^ (n % 32) / 4294967296<2 ^ (n % 32):=by
   rw [Nat.div_lt_iff_lt_mul (by decide),Nat.mul_comm]
   exact Nat.mul_lt_mul_of_pos_left hd' (Nat.pow_pos (by decide))
  have hsum:o+d*2 ^ (n % 32) % 4294967296<4294967296:=by
   have h1:2 ^ (n % 32)*(d % 2 ^ (32-n % 32))+2 ^ (n % 32)≤4294967296:=by
    have h2:d % 2 ^ (32-n % 32)+1≤2 ^ (32-n % 32):=Nat.mod_lt _ (Nat.pow_pos (by decide))
    calc 2 ^ (n % 32)*(d % 2 ^ (32-n % 32))+2 ^ (n % 32)=2 ^ (n % 32)*(d % 2 ^ (32-n % 32)+1):=by rw [Nat.mul_add,Nat.mul_one]
     _≤2 ^ (n % 32)*2 ^ (32-n % 32):=Nat.mul_le_mul_left _ h2
     _=4294967296:=hsplit.symm
   rw [hlow]; omega
  have hhi':d*2 ^ (n % 32) / 4294967296 % 4294967296=d*2 ^ (n % 32) / 4294967296:=Nat.mod_eq_of_lt wa
  rw [hor,hhi']
  refine ih (i+1) _ wa (Qe (Qe hO _ wa) _ wa) (by simp [hlO]) ?_ ?_ ?_ f wa
  ·exact zya (S:=2 ^ (n % 32)) wa hv (hz _ wa) ho hd
  ·simp only [show n / 32+(i+1)=n / 32+i+1 by omega]
   rw [List.getD_eq_getElem?_getD,List.getElem?_set_self (by rw [List.length_set]; omega)]
   simp only [Option.getD_some,Int.toNat_natCast]
   exact hhi
  ·intro j hj
   rw [zbj _ _ wa,zbj _ _ wa]
   exact hz j wa
theorem zlq (n j:Nat):(List.replicate n (0:Int)).getD j 0=0:=by
 simp only [List.getD,List.getElem?_replicate]
 split<;>rfl
theorem zbV (n:Nat):Dig (List.replicate n 0):=fun d hd=>by rw [List.eq_of_mem_replicate hd]; omega
theorem zf9 {a:List Int} (ha:Dig a) (hl:a.length≤1099511627776) {n:Nat} (hn:n≤100000):zaZ a (n:Int)=some (digs (dval a*2 ^ n),true):=by
 unfold zaZ
 have h1:=Qs ha
 rw [we wa,show decide ((n:Int)>100000)=false by simp; omega]
 unfold zhg
 rw [we wb,ZG ha wa]
 simp only [Option.bind_some]
 rw [zbl,zW (n:=n / 32) wa]
 have hw:i64.wrap (((n / 32:Nat):Int)+((digs (dval a)).length:Int))=((n / 32+(digs (dval a)).length:Nat):Int):=by rw [w64]<;>omega
 have hw2:i64.wrap (((n / 32+(digs (dval a)).length:Nat):Int)+1)=((n / 32+(digs (dval a)).length+1:Nat):Int):=by rw [w64]<;>omega
 rw [hw,hw2,kz,wc wa]
 simp only [Int.toNat_natCast]
 have:=zyb (dgd (dval a)) hn wa (digs (dval a)).length 0 (List.replicate (n / 32+(digs (dval a)).length+1) 0) wa (zbV _) wb (by simp [zf6,dval]) (by rw [zlq]; exact Nat.pow_pos (by decide)) (fun j _=>zlq _ _) fuel (by unfold fuel; omega)
 rw [dvd] at this
 exact this
theorem zr5 {x y z b c s:Nat} (hs:s≤32) (hx:x=b+4294967296*y) (hb:b<4294967296) (hy:y=c+4294967296*z) :
  x / 2 ^ s=(b+4294967296*c) / 2 ^ s % 4294967296+4294967296*(y / 2 ^ s):=by
 have hsp:=zr4 hs
 have hp:0<2 ^ s:=Nat.pow_pos (by decide)
 have e1:x / 2 ^ s / 4294967296=y / 2 ^ s:=by
  rw [Nat.div_div_eq_div_mul,Nat.mul_comm,← Nat.div_div_eq_div_mul]
  congr 1; omega
 have e2:x / 2 ^ s % 4294967296=(b+4294967296*c) / 2 ^ s % 4294967296:=by
  have h1:x=(b+4294967296*c)+2 ^ s*(2 ^ (32-s)*(4294967296*z)):=by
   rw [← Nat.mul_assoc,← hsp]; omega
  rw [h1,Nat.add_mul_div_left _ _ hp,← Nat.mul_assoc,Nat.mul_comm (2 ^ (32-s)),Nat.mul_assoc,Nat.add_mul_mod_self_left]
 rw [← e1,← e2]
 omega
theorem zlr {b c:Nat} (hb:b<4294967296):b ||| (c*4294967296)=b+4294967296*c:=by
 rw [Nat.mul_comm,← p32]
 exact zoF c (by rw [p32]; exact hb)
theorem zyc {O:List Int} {i v r t:Nat} (hl:i<O.length) (hz:O.getD i 0=0) (h:dval O+4294967296 ^ i*(v+4294967296*r)=t):dval (O.set i (v:Int))+4294967296 ^ (i+1)*r=t:=by
 have h1:=zae O i (v:Int) hl
 rw [hz,Int.toNat_zero,Nat.mul_zero,Nat.add_zero,Int.toNat_natCast] at h1
 rw [h1,← h,Nat.mul_add,Nat.pow_succ,Nat.mul_assoc,Nat.add_assoc]
theorem zyd {a b:List Int} {n s:Nat} (hb:Dig b) (hs:n % 32=s) (he:(a.take a.length).drop (n / 32)=b) (hn:n≤1099511627776) (hl:b.length≤1099511627776) :
  ∀ (r i:Nat) (O:List Int),i+r=b.length→Dig O→O.length=b.length→dval O+4294967296 ^ i*(dval (b.drop i) / 2 ^ s)=dval b / 2 ^ s→(∀ j,i≤j→O.getD j 0=0)→
   ∀ f,r<f→za3 a (n:Int) f (i:Int) O=some (digs (dval b / 2 ^ s)):=by
 have hw1:i64.wrap ((n / 32:Nat):Int)=((n / 32:Nat):Int):=zW wa
 intro r
 induction r with
 | zero=>
  intro i O hi hO hlO hv hz f hf
  obtain ⟨f,rfl⟩:∃ k,f=k+1:=⟨f-1,wa⟩
  rw [za3,zbl,hw1]
  simp only [Int.toNat_natCast]
  rw [he,we wa]
  unfold zj5
  rw [ZG hO wa]
  rw [List.drop_eq_nil_of_le wa] at hv
  rw [← hv]
  simp [dval]
 | succ r ih=>
  intro i O hi hO hlO hv hz f hf
  obtain ⟨f,rfl⟩:∃ k,f=k+1:=⟨f-1,wa⟩
  obtain ⟨d,hd,hd'⟩:=zL hb i
  obtain ⟨c,hc,hc'⟩:=zL hb (i+1)
  have hw4:i64.wrap ((i:Int)+1)=((i+1:Nat):Int):=by rw [w64]<;>omega
  rw [za3,zbl,hw1]
  simp only [Int.toNat_natCast]
  rw [he,wc wa,wc wa,hw4]
  simp only [Int.toNat_natCast]
  rw [kz,hd,hc,zG wa,zG wa]
  have hsh:shlI .u64 (c:Int) 32=((c*4294967296:Nat):Int):=by
   have:=zlo (x:=c) (s:=32) wa (by rw [p32]; omega)
   rw [p32] at this; exact this
  have hx:dval (b.drop i)=d+4294967296*dval (b.drop (i+1)):=by rw [zV b i,hd,Int.toNat_natCast]
  have hy:dval (b.drop (i+1))=c+4294967296*dval (b.drop (i+1+1)):=by rw [zV b (i+1),hc,Int.toNat_natCast]
  have key:=zr5 (s:=s) wa hx hd' hy
  have hv2:∀ v,v=d+4294967296*c→v<18446744073709551616→ze4 (n:Int) (i:Int) O (fun z0 z1=>za3 a (n:Int) f z0 z1) (v:Int)=some (digs (dval b / 2 ^ s)):=by
   intro v hv' hv''
   unfold ze4
   rw [ziq,hs,wc wa,wc (by simp only [Int.toNat_natCast]; omega),zoE _ wa,ZW,hw4]
   simp only [Int.toNat_natCast]
   have hlt:v / 2 ^ s % 4294967296<4294967296:=Nat.mod_lt _ (by decide)
   refine ih (i+1) _ wa (Qe hO _ wa) (by simp [hlO]) ?_ ?_ f wa
   ·rw [key] at hv
    rw [hv']
    exact zyc wa (hz i wa) hv
   ·intro j hj
    rw [zbj _ _ wa]
    exact hz j wa
  rw [hsh,zbk wa wa,zlr hd']
  split
  ·rw [wc wa]
   exact hv2 _ rfl wa
  ·rename_i hlast
   refine hv2 _ ?_ wa
   have:b.getD (i+1) 0=0:=by simp [List.getD,List.getElem?_eq_none (show b.length≤i+1 by omega)]
   rw [this] at hc
   omega
theorem zls {x n:Nat} : x / 4294967296 ^ (n / 32) / 2 ^ (n % 32)=x / 2 ^ n:=by
 rw [Nat.div_div_eq_div_mul,zaO,← Nat.pow_add,Nat.div_add_mod]
theorem zlt {a:List Int} (ha:Dig a) (hl:a.length≤1099511627776) {n:Nat} (hn:n≤1099511627776):zco a (n:Int)=some (digs (dval a / 2 ^ n)):=by
 unfold zco
 have h1:=Qs ha
 rw [ZG ha wa]
 simp only [Option.bind_some]
 rw [we wa,zbl,zW (n:=n / 32) wa]
 have hdl:=qF (dgd (dval a))
 rw [dvd] at hdl
 split
 ·rename_i h
  have:dval a / 2 ^ n=0:=by
   rw [← zls]
   have:dval a / 4294967296 ^ (n / 32)=0:=Nat.div_eq_of_lt (Nat.lt_of_lt_of_le hdl (Nat.pow_le_pow_right (by decide) wa))
   rw [this,Nat.zero_div]
  rw [this,qJ]
 ·rename_i h
  rw [wc wa]
  simp only [Int.toNat_natCast]
  have hb:Dig (((digs (dval a)).take (digs (dval a)).length).drop (n / 32)):=zlg (zbi (dgd _) _) _
  have hlen:(((digs (dval a)).take (digs (dval a)).length).drop (n / 32)).length=(digs (dval a)).length-n / 32:=wb
  have hval:dval (((digs (dval a)).take (digs (dval a)).length).drop (n / 32))=dval a / 4294967296 ^ (n / 32):=by
   rw [List.take_length,← zin (dgd _) _ wa,dvd]
  rw [wc wa,kz]
  generalize hB:((digs (dval a)).take (digs (dval a)).length).drop (n / 32)=B at hb hlen hval ⊢
  have:=zyd (a:=digs (dval a)) (n:=n) hb rfl hB wa wa B.length 0 (List.replicate B.length 0) wa (zbV _) wb (by simp [zf6]) (fun j _=>zlq _ _) fuel (by rw [hlen]; unfold fuel; omega)
  rw [hval,zls] at this
  exact this
theorem zcL {x:Nat} (h:x<4294967296):shlI .u64 (x:Int) 32=((x*4294967296:Nat):Int):=by
 have:=zlo (x:=x) (s:=32) wa (by rw [p32]; omega)
 rw [p32] at this; exact this
theorem zga (x y:Nat):(x:Int).tdiv (y:Int)=((x / y:Nat):Int):=by rw [Int.tdiv_eq_ediv_of_nonneg wa]; simp
theorem zlu (x y:Nat):(x:Int).tmod (y:Int)=((x % y:Nat):Int):=by rw [Int.tmod_eq_emod_of_nonneg wa]; simp
theorem zgb {h l:Nat} (hl:l<4294967296):(h*4294967296) ||| l=h*4294967296+l:=by
 rw [Nat.or_comm,zlr hl]; omega
theorem zye {h l d:Nat} (hh:h<d) (hl:l<4294967296) (hd:d<4294967296) :
  zhy (h:Int) (l:Int) (d:Int)=some ((((h*4294967296+l) / d:Nat):Int),(((h*4294967296+l) % d:Nat):Int)):=by
 unfold zhy
 rw [wc wa,show decide ((d:Int)≤(h:Int))=false by simp; omega]
 unfold znW
 have h1:(h*4294967296+l) / d<4294967296:=by
  rw [Nat.div_lt_iff_lt_mul wa]
  have:(h+1)*4294967296≤d*4294967296:=Nat.mul_le_mul_right _ hh
  rw [Nat.mul_comm 4294967296 d]
  omega
 have h2:(h*4294967296+l) % d<d:=Nat.mod_lt _ wa
 rw [we wb,zG wa,zG wa,zG wa,wc wa,wc wa,zcL wa,zbk wa wa,zgb hl,zga,zlu,zG wa,ZW,ZW,Nat.mod_eq_of_lt h1,Nat.mod_eq_of_lt wa]
theorem zcM (l:List Int) {i j:Nat} (v:Int) (h:i<j):(l.set i v).drop j=l.drop j:=List.drop_set_of_lt h
theorem getD_set (l:List Int) {i:Nat} (v:Int) (h:i<l.length):(l.set i v).getD i 0=v:=by
 rw [List.getD_eq_getElem?_getD,List.getElem?_set_self h]; rfl
theorem zr6 {x y d r a W:Nat} (h:x=y*d+r):a+W*x=((r*W+a) / d+W*y)*d+(r*W+a) % d:=by
 have h1:=Nat.div_add_mod (r*W+a) d
 rw [h]
 generalize (r*W+a) / d=g at *
 generalize (r*W+a) % d=m at *
 grind
theorem digC {n:Nat} (h:n<4294967296):0≤(n:Int)∧(n:Int)<4294967296:=wa
theorem zyf {a:List Int} (ha:Dig a) (hl:a.length≤1099511627776) {d:Nat} (hd0:0<d) (hd:d<4294967296) :
  ∀ (j:Nat) (r:Nat) (Q:List Int),j≤a.length→Dig Q→Q.length=a.length→r<d→dval (a.drop j)=dval (Q.drop j)*d+r→
   ∀ f,j<f→zdQ a (d:Int) f (r:Int) ((a.length-j:Nat):Int) Q=some (digs (dval a / d),digs (dval a % d),true):=by
 intro j
 induction j with
 | zero=>
  intro r Q hj hQ hlQ hr hv f hf
  obtain ⟨f,rfl⟩:∃ k,f=k+1:=⟨f-1,wa⟩
  rw [zdQ,we wa]
  unfold zki
  rw [zf5 hQ wa,zG wa,zil wa wa]
  rw [List.drop_zero,List.drop_zero] at hv
  have e1:dval a / d=dval Q:=by
   rw [hv,Nat.mul_comm,Nat.mul_add_div hd0,Nat.div_eq_of_lt hr,Nat.add_zero]
  have e2:dval a % d=r:=by
   rw [hv,Nat.mul_comm,Nat.mul_add_mod,Nat.mod_eq_of_lt hr]
  rw [e1,e2]; rfl
 | succ j ih=>
  intro r Q hj hQ hlQ hr hv f hf
  obtain ⟨f,rfl⟩:∃ k,f=k+1:=⟨f-1,wa⟩
  obtain ⟨x,hx,hx'⟩:=zL ha j
  have hw1:i64.wrap (i64.wrap ((a.length:Int)-1)-((a.length-(j+1):Nat):Int))=(j:Int):=by
   rw [w64 (x:=(a.length:Int)-1) wa wa,w64]<;>omega
  have hw2:i64.wrap (((a.length-(j+1):Nat):Int)+1)=((a.length-j:Nat):Int):=by rw [w64]<;>omega
  rw [zdQ,wc wa,hw1,hw2,wc wa,kz]
  simp only [Int.toNat_natCast]
  rw [hx,zye hr hx' hd]
  simp only [Option.bind_some]
  rw [wc wa]
  have hq:(r*4294967296+x) / d<4294967296:=by
   rw [Nat.div_lt_iff_lt_mul wa]
   have:(r+1)*4294967296≤d*4294967296:=Nat.mul_le_mul_right _ hr
   rw [Nat.mul_comm 4294967296 d]
   omega
  refine ih _ _ wa (Qe hQ _ (digC hq)) (by simp [hlQ]) (Nat.mod_lt _ wa) ?_ f wa
  rw [zV a j,hx,zV (Q.set j _) j,getD_set _ _ wa,zcM _ _ wa,Int.toNat_natCast,Int.toNat_natCast]
  exact zr6 hv
theorem zyg {a:List Int} (ha:Dig a) (hl:a.length≤1099511627776) {d:Nat} (hd0:0<d) (hd:d<4294967296):zhz a (d:Int)=some (digs (dval a / d),digs (dval a % d),true):=by
 unfold zhz
 rw [wc wa,kz]
 have:=zyf ha hl hd0 hd a.length 0 (List.replicate a.length 0) wa (zbV _) wb hd0 (by simp [dval]) fuel (by unfold fuel; omega)
 rw [Nat.sub_self] at this
 exact this
theorem zlv (l:List Int) {i j:Nat} (v:Int) (h:j≤i):(l.set i v).take j=l.take j:=List.take_set_of_le h
theorem zr7 {D0 D D' P W T x t c e lo hi e' v w:Nat} (h1:c+x*t=lo+W*hi) (h2:v+lo+e=w+W*e') (h3:D'+P*w=D+P*v) (h4:D+T=D0+P*(c+e)):D'+(T+P*(x*t))=D0+P*W*(hi+e'):=by
 have e1:P*(c+x*t)=P*(lo+W*hi):=by rw [h1]
 have e2:P*(v+lo+e)=P*(w+W*e'):=by rw [h2]
 simp only [Nat.mul_add,← Nat.mul_assoc] at *
 omega
theorem zr8 {x y c:Nat} (hx:x<4294967296) (hy:y<4294967296) (hc:c≤1):∃ w e:Nat,zcn (x:Int) (y:Int) (c:Int)=some ((w:Int),(e:Int))∧w<4294967296∧e≤1∧w+y+c=x+4294967296*e:=by
 rw [zrZ wa wa wa]
 by_cases h:x<y+c
 ·refine ⟨x+4294967296-y-c,1,?_,wa,wa,wa⟩
  rw [wc wa]
  congr 2
  omega
 ·refine ⟨x-y-c,0,?_,wa,wa,wa⟩
  rw [we wa]
  congr 2
  omega
theorem zyh {x y c:Nat} (hx:x<4294967296) (hy:y<4294967296) (hc:c≤1):∃ w e:Nat,zdE (x:Int) (y:Int) (c:Int)=some ((w:Int),(e:Int))∧w<4294967296∧e≤1∧x+y+c=w+4294967296*e:=by
 rw [zrU wa wa wa]
 exact ⟨(x+y+c) % 4294967296,(x+y+c) / 4294967296,by congr 2,wa,wa,wa⟩
theorem zyi {x t c:Nat} (hx:x<4294967296) (ht:t<4294967296) (hc:c<4294967296):u64.wrap ((u64.wrap ((u64.wrap (x:Int))*(t:Int)))+(c:Int))=((c+x*t:Nat):Int):=by
 have h:x*t≤4294967295*4294967295:=Nat.mul_le_mul wa wa
 rw [zG wa,← Int.natCast_mul,zG wa,← Int.natCast_add,zG wa,Nat.add_comm]
theorem zyj {b:List Int} (hb:Dig b) {j t:Nat} (ht:t<4294967296) (U:List Int) (hlU:U.length≤2199023255552) (hju:j+b.length<U.length) (hbl:b.length≤1099511627776) :
  ∀ (r i c e:Nat) (V:List Int),i+r=b.length→Dig V→V.length=U.length→V.take j=U.take j→V.drop (j+b.length+1)=U.drop (j+b.length+1)→c<4294967296→e≤1→dval V+4294967296 ^ j*(t*dval (b.take i))=dval U+4294967296 ^ (j+i)*(c+e)→
   ∀ f,r<f→∃ (V':List Int) (e':Nat),zdR b (b.length+1) j (t:Int) f (c:Int) (e:Int) (i:Int) V=some (decide (0<e'),V')∧Dig V'∧V'.length=U.length∧V'.take j=U.take j∧V'.drop (j+b.length+1)=U.drop (j+b.length+1)∧e'≤1∧dval V'+4294967296 ^ j*(t*dval b)=dval U+4294967296 ^ (j+b.length+1)*e':=by
 intro r
 induction r with
 | zero=>
  intro i c e V hi hV hlV ht1 ht2 hc he hv f hf
  obtain ⟨f,rfl⟩:∃ k,f=k+1:=⟨f-1,wa⟩
  obtain ⟨v,hvv,hv'⟩:=zL hV (j+b.length)
  obtain ⟨w,e',hs,hw,he',hse⟩:=zr8 hv' hc he
  have hib:i=b.length:=wa
  refine ⟨V.set (j+b.length) (w:Int),e',?_,Qe hV _ (digC hw),by simp [hlV],by rw [zlv _ _ wa,ht1],by rw [zcM _ _ wa,ht2],he',?_⟩
  ·rw [zdR,we wa]
   unfold zkj
   rw [wc wa,kz,hvv,ZW,Nat.mod_eq_of_lt hc,hs]
   simp only [Option.bind_some]
   rw [wc wa]
   have:decide ((e':Int)>0)=decide (0<e'):=wb
   rw [this]
  ·have h1:=zae V (j+b.length) (w:Int) wa
   rw [hvv,Int.toNat_natCast,Int.toNat_natCast] at h1
   rw [hib,List.take_of_length_le (Nat.le_refl _)] at hv
   have:=zr7 (D':=dval (V.set (j+b.length) (w:Int))) (x:=0) (t:=0) (lo:=c) (hi:=0) (W:=4294967296) wa wa h1 hv
   rw [Nat.pow_succ]
   simpa using this
 | succ r ih=>
  intro i c e V hi hV hlV ht1 ht2 hc he hv f hf
  obtain ⟨f,rfl⟩:∃ k,f=k+1:=⟨f-1,wa⟩
  obtain ⟨x,hx,hx'⟩:=zL hb i
  obtain ⟨v,hvv,hv'⟩:=zL hV (j+i)
  have hlt:x*t≤4294967295*4294967295:=Nat.mul_le_mul wa wa
  have hlo:(c+x*t) % 4294967296<4294967296:=Nat.mod_lt _ (by decide)
  obtain ⟨w,e',hs,hw,he',hse⟩:=zr8 hv' hlo he
  have hw2:i64.wrap ((i:Int)+1)=((i+1:Nat):Int):=by rw [w64]<;>omega
  rw [zdR,wc wa,wc wa,hw2,kz]
  simp only [Int.toNat_natCast]
  rw [wc wa,hx,zyi hx' ht hc,zf7,ZW,hvv,hs]
  simp only [Option.bind_some]
  rw [wc wa]
  refine ih (i+1) _ _ _ wa (Qe hV _ (digC hw)) (by simp [hlV]) (by rw [zlv _ _ wa,ht1]) (by rw [zcM _ _ wa,ht2]) wa he' ?_ f wa
  have h1:=zae V (j+i) (w:Int) wa
  rw [hvv,Int.toNat_natCast,Int.toNat_natCast] at h1
  have:=zr7 (D':=dval (V.set (j+i) (w:Int))) (W:=4294967296) (Nat.mod_add_div (c+x*t) 4294967296).symm wa h1 hv
  rw [zcK,hx,Int.toNat_natCast]
  have e1:4294967296 ^ (j+(i+1))=4294967296 ^ (j+i)*4294967296:=by rw [← Nat.add_assoc,Nat.pow_succ]
  rw [e1,← this,zf8,Nat.mul_add,Nat.mul_add]
  congr 2
  simp only [Nat.mul_assoc,Nat.mul_comm,Nat.mul_left_comm]
theorem zr9 {D0 D D' P W T x e v w e':Nat} (h2:v+x+e=w+W*e') (h3:D'+P*v=D+P*w) (h4:D+P*e=D0+T):D'+P*W*e'=D0+(T+P*x):=by
 have e2:P*(v+x+e)=P*(w+W*e'):=by rw [h2]
 simp only [Nat.mul_add,← Nat.mul_assoc] at *
 omega
theorem zyk {b:List Int} (hb:Dig b) {j:Nat} (U:List Int) (hlU:U.length≤2199023255552) (hju:j+b.length<U.length) (hbl:b.length≤1099511627776) :
  ∀ (r i e:Nat) (V:List Int),i+r=b.length→Dig V→V.length=U.length→V.take j=U.take j→V.drop (j+b.length+1)=U.drop (j+b.length+1)→e≤1→dval V+4294967296 ^ (j+i)*e=dval U+4294967296 ^ j*dval (b.take i)→
   ∀ f,r<f→∃ (V':List Int) (e':Nat),zdS b (b.length+1) j f (e:Int) (i:Int) V=some V'∧Dig V'∧V'.length=U.length∧V'.take j=U.take j∧V'.drop (j+b.length+1)=U.drop (j+b.length+1)∧e'≤1∧dval V'+4294967296 ^ (j+b.length+1)*e'=dval U+4294967296 ^ j*dval b:=by
 intro r
 induction r with
 | zero=>
  intro i e V hi hV hlV ht1 ht2 he hv f hf
  obtain ⟨f,rfl⟩:∃ k,f=k+1:=⟨f-1,wa⟩
  obtain ⟨v,hvv,hv'⟩:=zL hV (j+b.length)
  have hib:i=b.length:=wa
  refine ⟨V.set (j+b.length) (((v+e) % 4294967296:Nat):Int),(v+e) / 4294967296,?_,Qe hV _ (digC (Nat.mod_lt _ (by decide))),by simp [hlV],by rw [zlv _ _ wa,ht1],by rw [zcM _ _ wa,ht2],wa,?_⟩
  ·rw [zdS,we wa]
   unfold zkk
   rw [wc wa,wc wa,kz,hvv,← Int.natCast_add,ZW]
  ·have h1:=zae V (j+b.length) (((v+e) % 4294967296:Nat):Int) wa
   rw [hvv,Int.toNat_natCast,Int.toNat_natCast] at h1
   rw [hib,List.take_of_length_le (Nat.le_refl _)] at hv
   have:=zr9 (D':=dval (V.set (j+b.length) (((v+e) % 4294967296:Nat):Int))) (x:=0) (W:=4294967296) (Nat.mod_add_div (v+0+e) 4294967296).symm (by simpa using h1) hv
   rw [Nat.pow_succ]
   simpa using this
 | succ r ih=>
  intro i e V hi hV hlV ht1 ht2 he hv f hf
  obtain ⟨f,rfl⟩:∃ k,f=k+1:=⟨f-1,wa⟩
  obtain ⟨x,hx,hx'⟩:=zL hb i
  obtain ⟨v,hvv,hv'⟩:=zL hV (j+i)
  obtain ⟨w,e',hs,hw,he',hse⟩:=zyh hv' hx' he
  have hw2:i64.wrap ((i:Int)+1)=((i+1:Nat):Int):=by rw [w64]<;>omega
  rw [zdS,wc wa,wc wa,hw2,kz]
  simp only [Int.toNat_natCast]
  rw [wc wa,hx,hvv,hs]
  simp only [Option.bind_some]
  rw [wc wa]
  refine ih (i+1) _ _ wa (Qe hV _ (digC hw)) (by simp [hlV]) (by rw [zlv _ _ wa,ht1]) (by rw [zcM _ _ wa,ht2]) he' ?_ f wa
  have h1:=zae V (j+i) (w:Int) wa
  rw [hvv,Int.toNat_natCast,Int.toNat_natCast] at h1
  have:=zr9 (D':=dval (V.set (j+i) (w:Int))) (W:=4294967296) hse h1 hv
  rw [zcK,hx,Int.toNat_natCast]
  have e1:4294967296 ^ (j+(i+1))=4294967296 ^ (j+i)*4294967296:=by rw [← Nat.add_assoc,Nat.pow_succ]
  rw [e1,this,zf8,Nat.mul_add]
  congr 2
  simp only [Nat.mul_assoc]
theorem zyl {b:List Int} (hb:Dig b) {j t:Nat} (ht:t<4294967296) {U:List Int} (hU:Dig U) (hlU:U.length≤2199023255552) (hju:j+b.length<U.length) (hbl:b.length≤1099511627776) :
  ∃ (V':List Int) (e':Nat),zhB j (b.length+1) b (t:Int) U=some (decide (0<e'),V')∧Dig V'∧V'.length=U.length∧V'.take j=U.take j∧V'.drop (j+b.length+1)=U.drop (j+b.length+1)∧e'≤1∧dval V'+4294967296 ^ j*(t*dval b)=dval U+4294967296 ^ (j+b.length+1)*e':=by
 unfold zhB
 exact zyj hb ht U hlU hju hbl b.length 0 0 0 U wa hU rfl rfl rfl wa wa (by simp [dval]) fuel (by unfold fuel; omega)
theorem zym {b:List Int} (hb:Dig b) {j:Nat} {U:List Int} (hU:Dig U) (hlU:U.length≤2199023255552) (hju:j+b.length<U.length) (hbl:b.length≤1099511627776) :
  ∃ (V':List Int) (e':Nat),zhC j (b.length+1) b U=some V'∧Dig V'∧V'.length=U.length∧V'.take j=U.take j∧V'.drop (j+b.length+1)=U.drop (j+b.length+1)∧e'≤1∧dval V'+4294967296 ^ (j+b.length+1)*e'=dval U+4294967296 ^ j*dval b:=by
 unfold zhC
 exact zyk hb U hlU hju hbl b.length 0 0 U wa hU rfl rfl rfl wa (by simp [dval]) fuel (by unfold fuel; omega)
theorem K1 {q b1 b2 bl t u2 ul W P:Nat} (hu2:u2<W) (hul:ul<P) (h:q*((b1*W+b2)*P+bl)≤(t*W+u2)*P+ul):q*b1≤t:=by
 rcases Nat.lt_or_ge t (q*b1) with h1 | h1
 ·exfalso
  have h2:(t+1)*(W*P)≤q*b1*(W*P):=Nat.mul_le_mul_right _ h1
  have h3:(u2+1)*P≤W*P:=Nat.mul_le_mul_right _ hu2
  have h4:q*((b1*W+b2)*P+bl)=q*b1*(W*P)+(q*b2*P+q*bl):=by grind
  have h5:(t+1)*(W*P)=t*W*P+W*P:=by grind
  have h6:(u2+1)*P=u2*P+P:=by grind
  have h7:(t*W+u2)*P=t*W*P+u2*P:=by grind
  omega
 ·exact h1
theorem K2 {g r b1 b2 bl t u2 ul W P:Nat} (hr:g*b1+r=t) (hc:r*W+u2<g*b2) (hul:ul<P):(t*W+u2)*P+ul<g*((b1*W+b2)*P+bl):=by
 subst hr
 have h1:(r*W+u2+1)*P≤g*b2*P:=Nat.mul_le_mul_right _ hc
 have h4:g*((b1*W+b2)*P+bl)=g*b1*W*P+g*b2*P+g*bl:=by grind
 have h5:(r*W+u2+1)*P=r*W*P+u2*P+P:=by grind
 have h6:((g*b1+r)*W+u2)*P=g*b1*W*P+r*W*P+u2*P:=by grind
 omega
theorem K3 {g r b1 b2 bl t u2 ul W P:Nat} (hr:g*b1+r=t) (hc:g*b2≤r*W+u2) (hg:g≤W) (hW:0<W) (hbl:bl<P) (hb1:1≤b1):g*((b1*W+b2)*P+bl)<(t*W+u2)*P+ul+((b1*W+b2)*P+bl):=by
 subst hr
 have h1:g*b2*P≤(r*W+u2)*P:=Nat.mul_le_mul_right _ hc
 have h2:g*bl≤W*bl:=Nat.mul_le_mul_right _ hg
 have h3:W*bl<W*P:=Nat.mul_lt_mul_of_pos_left hbl hW
 have h3':1*(W*P)≤b1*(W*P):=Nat.mul_le_mul_right _ hb1
 have h4:g*((b1*W+b2)*P+bl)=g*b1*W*P+g*b2*P+g*bl:=by grind
 have h5:(r*W+u2)*P=r*W*P+u2*P:=by grind
 have h6:((g*b1+r)*W+u2)*P=g*b1*W*P+r*W*P+u2*P:=by grind
 have h7:(b1*W+b2)*P=b1*(W*P)+b2*P:=by grind
 omega
theorem K4 {g r b1 b2 bl t u2 ul W P:Nat} (hr:g*b1+r=t) (hc:W≤r) (hg:g≤W) (hb2:b2<W) (hbl:bl<P):g*((b1*W+b2)*P+bl)≤(t*W+u2)*P+ul:=by
 subst hr
 have h1:(b2+1)*P≤W*P:=Nat.mul_le_mul_right _ hb2
 have h1':(b2+1)*P=b2*P+P:=by grind
 have h2:g*(b2*P+bl)≤g*(W*P):=Nat.mul_le_mul_left _ wa
 have h3:g*(W*P)≤r*(W*P):=Nat.mul_le_mul_right _ wa
 have h4:g*((b1*W+b2)*P+bl)=g*b1*W*P+g*(b2*P+bl):=by grind
 have h6:((g*b1+r)*W+u2)*P=g*b1*W*P+r*(W*P)+u2*P:=by grind
 omega
theorem zcN {l:List Int} {j:Nat} (h:j≤l.length):dval l=dval (l.take j)+4294967296 ^ j*dval (l.drop j):=by
 have:=zcJ l j
 rwa [List.length_take,show min j l.length=j by omega] at this
theorem win {V U:List Int} {j n X e:Nat} (h1:V.take j=U.take j) (hj:j≤V.length) (hl:V.length=U.length) (h:dval V+4294967296 ^ j*X=dval U+4294967296 ^ (j+n)*e):dval (V.drop j)+X=dval (U.drop j)+4294967296 ^ n*e:=by
 rw [zcN hj,zcN (l:=U) (j:=j) wa,h1,zf8] at h
 have hp:0<4294967296 ^ j:=Nat.pow_pos (by decide)
 generalize 4294967296 ^ j=A at *
 generalize 4294967296 ^ n=C at *
 apply Nat.eq_of_mul_eq_mul_left hp
 rw [Nat.mul_add,Nat.mul_add,← Nat.mul_assoc]
 omega
theorem zsa {V:List Int} {j n:Nat} (hV:Dig V) (h0:dval (V.drop (j+n))=0):dval (V.drop j)<4294967296 ^ n:=by
 rw [zcJ (V.drop j) n,List.drop_drop,h0,Nat.mul_zero,Nat.add_zero]
 have:=qF (zbi (zlg hV j) n)
 exact Nat.lt_of_lt_of_le this (Nat.pow_le_pow_right (by decide) (by rw [List.length_take]; omega))
theorem zsb {V:List Int} {j n:Nat} (hV:j+n≤V.length) (h:dval (V.drop j)<4294967296 ^ n):dval (V.drop (j+n))=0:=by
 rw [zcN (l:=V.drop j) (j:=n) (by rw [List.length_drop]; omega),List.drop_drop] at h
 rcases Nat.eq_zero_or_pos (dval (V.drop (j+n))) with h1 | h1
 ·exact h1
 ·have:4294967296 ^ n*1≤4294967296 ^ n*dval (V.drop (j+n)):=Nat.mul_le_mul_left _ h1
  omega
theorem zyn {l:List Int} {j n u0 u1 u2:Nat} (hl:Dig l) (h0:l.getD (j+n+2) 0=(u0:Int)) (h1:l.getD (j+n+1) 0=(u1:Int)) (h2:l.getD (j+n) 0=(u2:Int)) (hz:dval (l.drop (j+n+3))=0) (hlen:j+n≤l.length) :
  ∃ ul,ul<4294967296 ^ n∧dval (l.drop j)=((u0*4294967296+u1)*4294967296+u2)*4294967296 ^ n+ul:=by
 refine ⟨dval ((l.drop j).take n),?_,?_⟩
 ·have:=qF (zbi (zlg hl j) n)
  exact Nat.lt_of_lt_of_le this (Nat.pow_le_pow_right (by decide) (by rw [List.length_take]; omega))
 ·rw [zcN (l:=l.drop j) (j:=n) (by rw [List.length_drop]; omega),List.drop_drop]
  rw [zV l (j+n),zV l (j+n+1),zV l (j+n+2),hz,h0,h1,h2,Int.toNat_natCast,Int.toNat_natCast,Int.toNat_natCast]
  generalize 4294967296 ^ n=P
  generalize dval ((l.drop j).take n)=ul
  rw [Nat.add_comm,Nat.mul_comm]
  congr 2
  omega
theorem two {l:List Int} {n b1 b2:Nat} (hl:Dig l) (hlen:l.length=n+2) (h1:l.getD (n+1) 0=(b1:Int)) (h2:l.getD n 0=(b2:Int)) :
  ∃ bl,bl<4294967296 ^ n∧dval l=(b1*4294967296+b2)*4294967296 ^ n+bl:=by
 have hz:dval (l.drop (n+2))=0:=by rw [List.drop_eq_nil_of_le wa]; rfl
 refine ⟨dval (l.take n),?_,?_⟩
 ·have:=qF (zbi hl n)
  exact Nat.lt_of_lt_of_le this (Nat.pow_le_pow_right (by decide) (by rw [List.length_take]; omega))
 ·rw [zcN (l:=l) (j:=n) wa]
  rw [zV l n,zV l (n+1),hz,h1,h2,Int.toNat_natCast,Int.toNat_natCast]
  generalize 4294967296 ^ n=P
  rw [Nat.add_comm,Nat.mul_comm]
  congr 2
  omega
theorem zyo {b u Q:List Int} {n j b1 b2 bl t u2 ul P q:Nat} (ag:Int→List Int→List Int→Option (List Int × List Int × Bool)) (hlen:b.length=n+2) (hn:n≤1099511627776) (hj:j≤1099511627776)
  (hb1:b.getD (n+1) 0=(b1:Int)) (hb2:b.getD n 0=(b2:Int)) (hb1':b1<4294967296) (hb2':b2<4294967296) (hpos:1≤b1) (hu:u.getD (j+n) 0=(u2:Int)) (hu':u2<4294967296) (hul:j+n<u.length)
  (hbl:bl<P) (hulP:ul<P) (h1:q*((b1*4294967296+b2)*P+bl)≤(t*4294967296+u2)*P+ul) (h2:(t*4294967296+u2)*P+ul<(q+1)*((b1*4294967296+b2)*P+bl)) (hq:q<4294967296) :
  ∀ (m g r:Nat),4294967296-r≤m→g*b1+r=t→r<4294967296→g≤4294967297→q≤g→∀ f,m<f→
   ∃ g':Nat,zbI (b,true) (j:Int) u Q ag f (g:Int) (r:Int)=zcx (j:Int) (b,true) u Q ag (g':Int)∧q≤g'∧g'≤q+1∧g'<4294967296:=by
 have hwl2:i64.wrap ((b.length:Int)-2)=(n:Int):=by rw [w64]<;>omega
 have hwl1:i64.wrap ((b.length:Int)-1)=((n+1:Nat):Int):=by rw [w64]<;>omega
 have hwj:i64.wrap (i64.wrap ((j:Int)+(b.length:Int))-2)=((j+n:Nat):Int):=by
  rw [w64 (x:=(j:Int)+(b.length:Int)) wa wa,w64]<;>omega
 intro m
 induction m with
 | zero=>intro g r hm _ hr; omega
 | succ m ih=>
  intro g r hm hg hr hgW hqg f hf
  obtain ⟨f,rfl⟩:∃ k,f=k+1:=⟨f-1,wa⟩
  have better:q<g→∃ g':Nat,zdT (b,true) (r:Int) (j:Int) u Q ag (g:Int) (fun z0 z1=>zbI (b,true) (j:Int) u Q ag f z0 z1) true=zcx (j:Int) (b,true) u Q ag (g':Int)∧q≤g'∧g'≤q+1∧g'<4294967296:=by
   intro hlt
   have hgm:(g-1)*b1+(r+b1)=t:=by
    obtain ⟨g1,rfl⟩:∃ k,g=k+1:=⟨g-1,wa⟩
    rw [Nat.add_sub_cancel]
    rw [Nat.add_mul] at hg; omega
   unfold zdT
   simp only
   have hwg:u64.wrap ((g:Int)-1)=((g-1:Nat):Int):=by
    rw [show (g:Int)-1=((g-1:Nat):Int) by omega,zG wa]
   have hwr:u64.wrap ((r:Int)+(b1:Int))=((r+b1:Nat):Int):=by
    rw [← Int.natCast_add,zG wa]
   rw [wc True.intro,hwl1,wc wa,kz]
   simp only [Int.toNat_natCast]
   rw [hb1,zG (x:=b1) wa,hwr,hwg]
   by_cases hx:4294967296≤r+b1
   ·rw [wc wa]
    have hk:=K4 (g:=g-1) (u2:=u2) (ul:=ul) hgm hx wa hb2' hbl
    have h3:g-1<q+1:=Nat.lt_of_mul_lt_mul_right (Nat.lt_of_le_of_lt hk h2)
    exact ⟨g-1,rfl,wa,wa,wa⟩
   ·rw [we wa]
    exact ih (g-1) (r+b1) wa hgm wa wa wa f wa
  rw [zbI]
  by_cases hg4:4294967296≤g
  ·rw [wc wa]
   exact better wa
  ·rw [we wa]
   have hgb:g*b2<18446744073709551616:=zlp wa hb2'
   have eA:u64.wrap ((g:Int)*u64.wrap (b2:Int))=((g*b2:Nat):Int):=by rw [zG (x:=b2) wa,← Int.natCast_mul,zG hgb]
   have eB:orI .u64 (shlI .u64 (r:Int) 32) (u64.wrap (u2:Int))=((r*4294967296+u2:Nat):Int):=by rw [zG (x:=u2) wa,zcL hr,zbk wa wa,zgb hu']
   simp only [hwl2,hwj,kz,Int.toNat_natCast,hb2,hu,eA,eB]
   rw [wc wa,wc wa]
   by_cases hc:r*4294967296+u2<g*b2
   ·rw [show decide (((g*b2:Nat):Int)>((r*4294967296+u2:Nat):Int))=true by simp only [decide_eq_true_eq]; omega]
    refine better ?_
    have:=K2 (bl:=bl) hg hc hulP
    exact Nat.lt_of_mul_lt_mul_right (Nat.lt_of_le_of_lt h1 this)
   ·rw [show decide (((g*b2:Nat):Int)>((r*4294967296+u2:Nat):Int))=false by simp only [decide_eq_false_iff_not]; omega]
    unfold zdT
    rw [we wb]
    have:=K3 (u2:=u2) (ul:=ul) hg (Nat.le_of_not_lt hc) wa (by decide) hbl hpos
    have h3:g*((b1*4294967296+b2)*P+bl)<(q+2)*((b1*4294967296+b2)*P+bl):=by
     have e:(q+2)*((b1*4294967296+b2)*P+bl)=(q+1)*((b1*4294967296+b2)*P+bl)+((b1*4294967296+b2)*P+bl):=by
      rw [show q+2=q+1+1 by omega,Nat.add_mul (q+1) 1,Nat.one_mul]
     rw [e]; omega
    have h4:g<q+2:=Nat.lt_of_mul_lt_mul_right h3
    exact ⟨g,rfl,hqg,wa,wa⟩
theorem zyp {q g B U V M e:Nat} (h1:q*B≤U) (h2:U<(q+1)*B) (hg1:q≤g) (hg2:g≤q+1) (hV:V<M) (he:e≤1) (h:V+g*B=U+M*e) :
  (e=0∧g=q∧V+q*B=U)∨(e=1∧g=q+1∧V+q*B+B=U+M):=by
 have e1:(q+1)*B=q*B+B:=by rw [Nat.add_mul,Nat.one_mul]
 rcases (show g=q∨g=q+1 by omega) with rfl | rfl
 ·left
  rcases (show e=0∨e=1 by omega) with rfl | rfl
  ·exact ⟨rfl,rfl,wa⟩
  ·omega
 ·right
  rcases (show e=0∨e=1 by omega) with rfl | rfl
  ·omega
  ·exact ⟨rfl,rfl,wa⟩
theorem zyq {q B U V M X c:Nat} (h1:q*B≤U) (hX:X<M) (hc:c≤1) (h:X+M*c=V+B) (hV:V+q*B+B=U+M):X+q*B=U:=by
 rcases (show c=0∨c=1 by omega) with rfl | rfl
 ·omega
 ·omega
theorem zsc {Q u:List Int} {j:Nat} (ag:Int→List Int→List Int→Option (List Int × List Int × Bool)) (hj:j<Q.length) (hjl:j≤1099511627776) {q:Nat} (hq:q<4294967296):zfe (j:Int) Q ag (q:Int) u=ag ((j:Int)-1) (Q.set j (q:Int)) u:=by
 unfold zfe zkm
 rw [wc wa,w64 wa wa,ZW,Nat.mod_eq_of_lt hq]
 simp only [Int.toNat_natCast]
theorem zyr {b u Q:List Int} {j q g:Nat} (ag:Int→List Int→List Int→Option (List Int × List Int × Bool)) (hb:Dig b) (hu:Dig u) (hlb:b.length≤1099511627776) (hlu:u.length≤2199023255552) (hju:j+b.length<u.length) (hjl:j≤1099511627776) (hjQ:j<Q.length)
  (hz:dval (u.drop (j+(b.length+1)))=0) (h1:q*dval b≤dval (u.drop j)) (h2:dval (u.drop j)<(q+1)*dval b) (hg1:q≤g) (hg2:g≤q+1) (hg:g<4294967296) :
  ∃ u':List Int,zcx (j:Int) (b,true) u Q ag (g:Int)=ag ((j:Int)-1) (Q.set j (q:Int)) u'∧Dig u'∧u'.length=u.length∧u'.take j=u.take j∧dval (u'.drop j)+q*dval b=dval (u.drop j):=by
 have hw:i64.wrap (i64.wrap ((j:Int)+(b.length:Int))+1)=((j+(b.length+1):Nat):Int):=by
  rw [w64 (x:=(j:Int)+(b.length:Int)) wa wa,w64]<;>omega
 have hwd:((j+(b.length+1):Nat):Int).toNat-(j:Int).toNat=b.length+1:=by rw [Int.toNat_natCast,Int.toNat_natCast]; omega
 have hw0:0+(j:Int).toNat=j:=wb
 obtain ⟨V,e,t1,t2,t3,t4,t5,t6,t7⟩:=zyl hb hg hu hlu hju hlb
 rw [Nat.add_assoc] at t5 t7
 have hVz:dval (V.drop (j+(b.length+1)))=0:=by rw [t5]; exact hz
 have hVM:=zsa t2 hVz
 have hwin:=win t4 wa t3 t7
 unfold zcx
 simp only [hw,hwd,hw0]
 rw [wc wa,t1]
 simp only [Option.bind_some]
 rw [wc t3]
 rcases zyp h1 h2 hg1 hg2 hVM t6 hwin with ⟨rfl,rfl,hfin⟩ | ⟨rfl,rfl,hfin⟩
 ·rw [we wb,zsc ag hjQ hjl hg]
  exact ⟨V,rfl,t2,t3,t4,hfin⟩
 ·rw [wc wb]
  obtain ⟨X,c,g1,g2,g3,g4,g5,g6,g7⟩:=zym (j:=j) hb t2 wa wa hlb
  rw [Nat.add_assoc] at g5 g7
  rw [wc wa,g1]
  simp only [Option.bind_some]
  rw [wc g3]
  have hwg:u64.wrap (((q+1:Nat):Int)-1)=(q:Int):=by
   rw [show ((q+1:Nat):Int)-1=(q:Int) by omega,zG wa]
  rw [hwg,zsc ag hjQ hjl wa]
  refine ⟨X,rfl,g2,wa,by rw [g4,t4],?_⟩
  have hXz:dval (X.drop (j+(b.length+1)))=0:=by rw [g5]; exact hVz
  have hXM:=zsa g2 hXz
  have hwin2:=win (X:=4294967296 ^ (b.length+1)*c) (e:=dval b) (n:=0) g4 wa g3 (by rw [← Nat.mul_assoc,← zf8,Nat.add_zero]; exact g7)
  rw [Nat.pow_zero,Nat.one_mul] at hwin2
  exact zyq h1 hXM g6 hwin2 hfin
theorem zys {t b1 b2 bl P W X:Nat} (h1:t*P≤X) (h2:X<(b1*W+b2)*P+bl) (hbl:bl<P) (hb2:b2<W) (hb1:W≤2*b1) (hW:0<W):t / b1≤W+1:=by
 have e1:(b1*W+b2+1)*P=(b1*W+b2)*P+P:=by rw [Nat.add_mul _ 1,Nat.one_mul]
 have h3:t*P<(b1*W+b2+1)*P:=wa
 have h4:t<b1*W+b2+1:=Nat.lt_of_mul_lt_mul_right h3
 have hp:0<b1:=wa
 have h5:t<(W+2)*b1:=by
  have:(W+2)*b1=b1*W+2*b1:=by rw [Nat.add_mul,Nat.mul_comm W]
  omega
 have:=(Nat.div_lt_iff_lt_mul hp).2 h5
 omega
theorem zyt {q B U x y W:Nat} (h:q*B≤U) (hU:U=x+W*y) (hx:x<W) (hy:y<B):q<W:=by
 have h1:W*(y+1)≤W*B:=Nat.mul_le_mul_left _ hy
 have h2:q*B<W*B:=by rw [Nat.mul_add] at h1; omega
 exact Nat.lt_of_mul_lt_mul_right h2
theorem zsd {q B a Qh u' y t W x:Nat} (h1:u'+q*B=a+W*y) (h2:Qh*B+y=x) (h3:t=a+W*x):(q+W*Qh)*B+u'=t:=by
 subst h3; subst h2
 have:(q+W*Qh)*B=q*B+W*(Qh*B):=by rw [Nat.add_mul,Nat.mul_assoc]
 rw [this,Nat.mul_add]; omega
theorem zyu {b u0:List Int} {n s b1 b2:Nat} (hb:Dig b) (hlen:b.length=n+2) (hn:n≤549755813888) (hs:s<32) (hb1:b.getD (n+1) 0=(b1:Int)) (hb2:b.getD n 0=(b2:Int)) (hb1':b1<4294967296) (hb2':b2<4294967296) (htop:2147483648≤b1) (hu0:Dig u0) :
  ∀ (k:Nat) (Q u:List Int),k≤Q.length→Q.length≤549755813888→Q.length+b.length=u0.length→u.length=u0.length→Dig Q→Dig u→u.take k=u0.take k→dval (u.drop k)<dval b→dval (Q.drop k)*dval b+dval (u.drop k)=dval (u0.drop k)→
   ∀ f,k<f→Qd (b,true) (s:Int) f ((k:Int)-1) Q u=some (digs (dval u0 / dval b),digs (dval u0 % dval b / 2 ^ s),true):=by
 obtain ⟨bl,hbl,hbv⟩:=two hb hlen hb1 hb2
 have hBpos:0<dval b:=by
  rw [hbv]
  have:0<(b1*4294967296+b2)*4294967296 ^ n:=Nat.mul_pos wa (Nat.pow_pos (by decide))
  omega
 have hBlt:=qF hb
 intro k
 induction k with
 | zero=>
  intro Q u hk hlQ hlen0 hlu hQ hu htk hlt hinv f hf
  obtain ⟨f,rfl⟩:∃ k,f=k+1:=⟨f-1,wa⟩
  rw [Qd,we wa]
  unfold zkl
  rw [List.drop_zero] at hlt
  rw [List.drop_zero,List.drop_zero,List.drop_zero] at hinv
  have hz:dval (u.drop b.length)=0:=by
   have:=zsb (V:=u) (j:=0) (n:=b.length) wa (by rw [List.drop_zero]; omega)
   rwa [Nat.zero_add] at this
  have htake:dval (u.take b.length)=dval u:=by
   rw [zcN (l:=u) (j:=b.length) wa,hz,Nat.mul_zero,Nat.add_zero]
  rw [zf5 hQ wa]
  simp only [Option.bind_some]
  rw [wc wa,zlt (zbi hu _) (by rw [List.length_take]; omega) wa,htake]
  simp only [Option.bind_some]
  have e1:dval u0 / dval b=dval Q:=by
   rw [← hinv,Nat.mul_comm,Nat.mul_add_div hBpos,Nat.div_eq_of_lt hlt,Nat.add_zero]
  have e2:dval u0 % dval b=dval u:=by
   rw [← hinv,Nat.mul_comm,Nat.mul_add_mod,Nat.mod_eq_of_lt hlt]
  rw [e1,e2]
 | succ k ih=>
  intro Q u hk hlQ hlen0 hlu hQ hu htk hlt hinv f hf
  obtain ⟨f,rfl⟩:∃ k,f=k+1:=⟨f-1,wa⟩
  obtain ⟨d0,hd0,hd0'⟩:=zL hu (k+n+2)
  obtain ⟨d1,hd1,hd1'⟩:=zL hu (k+n+1)
  obtain ⟨d2,hd2,hd2'⟩:=zL hu (k+n)
  obtain ⟨x,hx,hx'⟩:=zL hu k
  have hz:dval (u.drop (k+n+3))=0:=by
   have:=zsb (V:=u) (j:=k+1) (n:=b.length) wa wa
   rwa [show k+1+b.length=k+n+3 by omega] at this
  obtain ⟨ul,hul,hUv⟩:=zyn hu hd0 hd1 hd2 hz wa
  have hU2:dval (u.drop k)=x+4294967296*dval (u.drop (k+1)):=by rw [zV u k,hx,Int.toNat_natCast]
  have hgle:(d0*4294967296+d1) / b1≤4294967297:=by
   refine zys (P:=4294967296 ^ n) (X:=dval (u.drop (k+1))) ?_ (hbv ▸ hlt) hbl hb2' wa (by decide)
   rw [zcN (l:=u.drop (k+1)) (j:=n) (by rw [List.length_drop]; omega),List.drop_drop,show k+1+n=k+n+1 by omega]
   rw [zV u (k+n+1),zV u (k+n+2),hz,hd0,hd1,Int.toNat_natCast,Int.toNat_natCast]
   generalize 4294967296 ^ n=P
   rw [Nat.mul_comm P]
   refine Nat.le_trans ?_ (Nat.le_add_left _ _)
   exact Nat.mul_le_mul_right _ wa
  have hqB:dval (u.drop k) / dval b*dval b≤dval (u.drop k):=Nat.div_mul_le_self _ _
  have hqB2:dval (u.drop k)<(dval (u.drop k) / dval b+1)*dval b:=by
   have:=Nat.lt_mul_div_succ (dval (u.drop k)) hBpos
   rwa [Nat.mul_comm] at this
  have hqW:=zyt hqB hU2 hx' hlt
  generalize hq:dval (u.drop k) / dval b=q at hqB hqB2 hqW
  have ht:(d0*4294967296+d1) / b1*b1+(d0*4294967296+d1) % b1=d0*4294967296+d1:=by rw [Nat.mul_comm]; exact Nat.div_add_mod _ _
  have hrlt:(d0*4294967296+d1) % b1<4294967296:=Nat.lt_trans (Nat.mod_lt _ wa) hb1'
  have hqg:q≤(d0*4294967296+d1) / b1:=by
   rw [Nat.le_div_iff_mul_le wa]
   exact K1 (b2:=b2) (bl:=bl) (W:=4294967296) hd2' hul (by rw [← hUv,← hbv]; exact hqB)
  obtain ⟨g',hg1,hg2,hg3,hg4⟩:=zyo (j:=k) (u:=u) (Q:=Q) (fun z0 z1 z2=>Qd (b,true) (s:Int) f z0 z1 z2) hlen wa wa hb1 hb2 hb1' hb2' wa hd2 hd2' wa hbl hul (by rw [← hUv,← hbv]; exact hqB) (by rw [← hUv,← hbv]; exact hqB2) hqW 4294967296 _ _ wa ht hrlt hgle hqg fuel (by unfold fuel; omega)
  obtain ⟨u',s1,s2,s3,s4,s5⟩:=zyr (j:=k) (Q:=Q) (fun z0 z1 z2=>Qd (b,true) (s:Int) f z0 z1 z2) hb hu wa wa wa wa wa (by rw [hlen]; exact hz) hqB hqB2 hg2 hg3 hg4
  have hwa:i64.wrap (((k+1:Nat):Int)-1+(b.length:Int))=((k+n+2:Nat):Int):=by rw [w64]<;>omega
  have hwb:i64.wrap (((k+n+2:Nat):Int)-1)=((k+n+1:Nat):Int):=by rw [w64]<;>omega
  have hwc:i64.wrap ((b.length:Int)-1)=((n+1:Nat):Int):=by rw [w64]<;>omega
  have hk':((k+1:Nat):Int)-1=(k:Int):=wa
  rw [hk'] at hwa ⊢
  have htop64:orI .u64 (shlI .u64 (u64.wrap (d0:Int)) 32) (u64.wrap (d1:Int))=((d0*4294967296+d1:Nat):Int):=by
   rw [zG (x:=d0) wa,zG (x:=d1) wa,zcL hd0',zbk wa wa,zgb hd1']
  have hb64:u64.wrap (b1:Int)=(b1:Int):=zG wa
  have hdiv64:u64.wrap (((d0*4294967296+d1:Nat):Int).tdiv (b1:Int))=(((d0*4294967296+d1) / b1:Nat):Int):=by
   rw [zga,zG wa]
  rw [Qd]
  simp only [hwa,hwb,hwc,kz,Int.toNat_natCast,hd0,hd1,hb1,htop64,hb64,hdiv64,zlu]
  rw [wc wa,wc wa,wc wa,wc wa,wc wa,wc wa,wc wa]
  refine Eq.trans hg1 (Eq.trans s1 ?_)
  have e1:u'.take k=u0.take k:=by
   rw [s4]
   have:=congrArg (List.take k) htk
   rwa [List.take_take,List.take_take,show min k (k+1)=k by omega] at this
  have hR:dval (u'.drop k)<dval b:=by
   have e:(q+1)*dval b=q*dval b+dval b:=by rw [Nat.add_mul,Nat.one_mul]
   omega
  refine ih (Q.set k (q:Int)) u' (by rw [List.length_set]; omega) (by rw [List.length_set]; omega) (by rw [List.length_set]; omega) wa (Qe hQ _ (digC hqW)) s2 e1 hR ?_ f wa
  have hx0:u0.getD k 0=(x:Int):=by
   have h3:=congrArg (fun l=>l.getD k 0) htk
   simp only [List.getD_eq_getElem?_getD,List.getElem?_take,wc (show k<k+1 by omega)] at h3
   rw [List.getD_eq_getElem?_getD,← h3,← List.getD_eq_getElem?_getD]; exact hx
  rw [zV u0 k,hx0,zV (Q.set k _) k,getD_set _ _ wa,zcM _ _ wa,Int.toNat_natCast,Int.toNat_natCast]
  exact zsd (s5.trans hU2) hinv rfl
theorem zir {m n:Nat} (h:m≤n):(digs m).length≤(digs n).length:=by
 rcases Nat.lt_or_ge (digs n).length (digs m).length with h1 | h1
 ·have:=zlf h1; omega
 ·exact h1
theorem zyv {X l:List Int} (h:l.length≤X.length) (hX:dval X=0):Zz X l=l++X.drop l.length∧dval (Zz X l)=dval l:=by
 have hn:copyN X l=l.length:=by unfold copyN; split<;>omega
 have e:Zz X l=l++X.drop l.length:=by unfold Zz; rw [hn,List.take_length]
 refine ⟨e,?_⟩
 rw [e,zbU]
 have h1:=zcN (l:=X) (j:=l.length) h
 rw [hX] at h1
 have h2:4294967296 ^ l.length*dval (X.drop l.length)=0:=wa
 rw [h2,Nat.add_zero]
theorem zoG {x y:List Int} (hx:Dig x) (hy:Dig y):Dig (x++y):=fun d hd=>by
 rcases List.mem_append.1 hd with h | h
 ·exact hx d h
 ·exact hy d h
theorem zbW {n:Nat} (h:n≠0):0<blen n:=by
 rcases Nat.eq_zero_or_pos (blen n) with h1 | h1
 ·have:=Zk n; rw [h1] at this; omega
 ·exact h1
theorem zis {n:Nat} (h:n≠0):∃ t:Nat,(digs n).getD ((digs n).length-1) 0=(t:Int)∧t<4294967296∧t≠0∧blen t≤32∧blen n=blen t+32*((digs n).length-1):=by
 obtain ⟨t1,t2⟩:=zio h
 obtain ⟨t,ht,ht'⟩:=zL (dgd n) ((digs n).length-1)
 have t0:t≠0:=by intro h0; subst h0; exact t2 ht
 rw [ht,Int.toNat_natCast] at t1
 refine ⟨t,ht,ht',t0,?_,?_⟩
 ·rcases Nat.lt_or_ge 32 (blen t) with h7 | h7
  ·have h6:=QR t0
   have:2 ^ 32≤2 ^ (blen t-1):=Nat.pow_le_pow_right (by decide) wa
   omega
  ·exact h7
 ·have:=zim (n:=n) (k:=32*((digs n).length-1)) (by rw [← zaO,t1]; exact t0)
  rw [← zaO,t1] at this; exact this
theorem zyw {t:Nat} (ht:t<4294967296) (hb:blen t≤32):zhA (t:Int)=some ((32-blen t:Nat):Int):=by
 unfold zhA
 rw [zr1 wa,Int.toNat_natCast]
 simp only [Option.bind_some]
 rw [w64 wa wa]
 congr 1; omega
theorem zse {B m s:Nat} (hm:0<m) (hbl:blen B+s=32*m) (h0:B≠0):4294967296 ^ (m-1)*2147483648≤B*2 ^ s∧B*2 ^ s<4294967296 ^ m:=by
 have h1:=QR h0
 have h2:=Zk B
 have h3:=zbW h0
 have e2:2 ^ (blen B)*2 ^ s=4294967296 ^ m:=by rw [← Nat.pow_add,hbl,zaO]
 have e1:2 ^ (blen B-1)*2 ^ s=4294967296 ^ (m-1)*2147483648:=by
  rw [← Nat.pow_add,zaO,show (2147483648:Nat)=2 ^ 31 by decide,← Nat.pow_add]
  congr 1; omega
 constructor
 ·rw [← e1]; exact Nat.mul_le_mul_right _ h1
 ·rw [← e2]; exact Nat.mul_lt_mul_of_pos_right h2 (Nat.pow_pos (by decide))
theorem zyx {v m t:Nat} (hm:0<m) (hl:(digs v).length=m) (ht:(digs v).getD (m-1) 0=(t:Int)) (hv:4294967296 ^ (m-1)*2147483648≤v):2147483648≤t:=by
 have hv0:v≠0:=by
  have:0<4294967296 ^ (m-1)*2147483648:=Nat.mul_pos (Nat.pow_pos (by decide)) (by decide)
  omega
 have h1:=(zio hv0).1
 rw [hl,ht,Int.toNat_natCast] at h1
 rw [← h1,Nat.le_div_iff_mul_le (Nat.pow_pos (by decide)),Nat.mul_comm]
 exact hv
theorem zsf {v m:Nat} (h1:v<4294967296 ^ m) (h2:4294967296 ^ (m-1)*2147483648≤v) (hm:0<m):(digs v).length=m:=by
 have h3:=QQ h1
 rcases Nat.lt_or_ge (digs v).length m with h4 | h4
 ·have h5:=qF (dgd v)
  rw [dvd] at h5
  have h6:4294967296 ^ (digs v).length≤4294967296 ^ (m-1):=Nat.pow_le_pow_right (by decide) wa
  have h7:4294967296 ^ (m-1)*1≤4294967296 ^ (m-1)*2147483648:=Nat.mul_le_mul_left _ (by decide)
  omega
 ·omega
theorem zyy {A B s k la lb:Nat} (hA:A<4294967296 ^ la) (hB:4294967296 ^ (lb-1)≤B) (hk:k=la-lb+1) (hlb:0<lb) (hle:lb≤la):A*2 ^ s / 4294967296 ^ k<B*2 ^ s:=by
 rw [Nat.div_lt_iff_lt_mul (Nat.pow_pos (by decide))]
 have h1:A*2 ^ s<4294967296 ^ la*2 ^ s:=Nat.mul_lt_mul_of_pos_right hA (Nat.pow_pos (by decide))
 have h2:4294967296 ^ la=4294967296 ^ (lb-1)*4294967296 ^ k:=by
  rw [← Nat.pow_add]; congr 1; omega
 have h3:4294967296 ^ (lb-1)*4294967296 ^ k*2 ^ s≤B*2 ^ s*4294967296 ^ k:=by
  rw [Nat.mul_right_comm]
  exact Nat.mul_le_mul_right _ (Nat.mul_le_mul_right _ hB)
 rw [h2] at h1
 omega
theorem zsg {A la s:Nat} (hs:s≤32) (h:A<4294967296 ^ la):A*2 ^ s<4294967296 ^ (la+1):=by
 have h1:2 ^ s≤2 ^ 32:=Nat.pow_le_pow_right (by decide) hs
 rw [p32] at h1
 have h2:A*2 ^ s≤A*4294967296:=Nat.mul_le_mul_left _ h1
 have h3:A*4294967296<4294967296 ^ la*4294967296:=Nat.mul_lt_mul_of_pos_right h wa
 rw [Nat.pow_succ]
 omega
theorem obn {α β:Type} (a:α) (f:α→Option β):Option.bind (some a) f=f a:=wb
theorem zyz {A B:Nat} (hA:(digs A).length≤274877906944) (hB:2≤(digs B).length) (hle:(digs B).length≤(digs A).length):zhD (digs A) (digs B)=some (digs (A / B),digs (A % B),true):=by
 have hB0:B≠0:=by intro h; subst h; rw [qJ] at hB; simp at hB
 obtain ⟨t,ht,ht',t0,hbt,hbl⟩:=zis hB0
 have htp:=zbW t0
 have hAlt:=qF (dgd A)
 rw [dvd] at hAlt
 have hBge:=zle hB0
 generalize hm:(digs B).length=m at *
 generalize hla:(digs A).length=la at *
 generalize hs:32-blen t=s at *
 obtain ⟨c1,c2⟩:=zse (B:=B) (m:=m) (s:=s) wa wa hB0
 have hlen:=zsf c2 c1 wa
 obtain ⟨b1,hb1,hb1'⟩:=zL (dgd (B*2 ^ s)) (m-2+1)
 obtain ⟨b2,hb2,hb2'⟩:=zL (dgd (B*2 ^ s)) (m-2)
 have htop:2147483648≤b1:=by
  refine zyx (v:=B*2 ^ s) (m:=m) wa hlen ?_ c1
  rw [show m-1=m-2+1 by omega]; exact hb1
 have hupl:(digs (A*2 ^ s)).length≤la+1:=by
  exact QQ (zsg wa hAlt)
 obtain ⟨cp1,cp2⟩:=zyv (X:=List.replicate (la+1) 0) (l:=digs (A*2 ^ s)) (by simpa using hupl) (zf6 _)
 have hcl:(Zz (List.replicate (la+1) 0) (digs (A*2 ^ s))).length=la+1:=by rw [zrl,List.length_replicate]
 have hcd:Dig (Zz (List.replicate (la+1) 0) (digs (A*2 ^ s))):=by
  rw [cp1]; exact zoG (dgd _) (zlg (zbV _) _)
 rw [dvd] at cp2
 have hloop:=zyu (b:=digs (B*2 ^ s)) (u0:=Zz (List.replicate (la+1) 0) (digs (A*2 ^ s))) (n:=m-2) (s:=s) (dgd _) wa wa wa hb1 hb2 hb1' hb2' htop hcd
  (la-m+1) (List.replicate (la-m+1) 0) (Zz (List.replicate (la+1) 0) (digs (A*2 ^ s))) wb (by rw [List.length_replicate]; omega) (by rw [List.length_replicate,hlen,hcl]; omega) rfl (zbV _) hcd rfl
  (by rw [← zin hcd _ wa,cp2,dvd]; exact zyy hAlt hBge rfl wa hle)
  (by rw [List.drop_eq_nil_of_le wb]; simp [dval]) fuel (by unfold fuel; omega)
 rw [cp2,dvd,Nat.mul_div_mul_right _ _ (Nat.pow_pos (by decide)),Nat.mul_mod_mul_right,Nat.mul_div_cancel _ (Nat.pow_pos (by decide))] at hloop
 unfold zhD
 rw [hm,hla]
 have w1:i64.wrap ((m:Int)-1)=((m-1:Nat):Int):=by rw [w64]<;>omega
 have w2:i64.wrap ((la:Int)+1)=((la+1:Nat):Int):=by rw [w64]<;>omega
 have w3:i64.wrap ((la:Int)-(m:Int))=((la-m:Nat):Int):=by rw [w64]<;>omega
 have w4:i64.wrap (((la-m:Nat):Int)+1)=((la-m+1:Nat):Int):=by rw [w64]<;>omega
 rw [w1,wc wa,kz]
 simp only [Int.toNat_natCast]
 rw [ht,zyw ht' hbt,hs]
 rw [obn]
 rw [zf9 (dgd B) wa wa,dvd]
 rw [obn]
 rw [w2,wc wa,zf9 (dgd A) wa wa,dvd]
 rw [obn]
 rw [hlen,w3,w4,wc wa]
 simp only [Int.toNat_natCast]
 rw [show ((la-m+1:Nat):Int)-1=((la-m:Nat):Int) by omega] at hloop
 exact hloop
theorem zyA {a b:List Int} (ha:Dig a) (hb:Dig b) (hl:a.length≤274877906944) (hl':b.length≤274877906944):zdU a b=some (if dval b=0 then ([],[],false) else (digs (dval a / dval b),digs (dval a % dval b),true)):=by
 unfold zdU
 have h1:=Qs ha
 have h2:=Qs hb
 rw [zf5 ha wa,zf5 hb wa]
 simp only [obn]
 generalize dval a=A at *
 generalize dval b=B at *
 by_cases hB:B=0
 ·subst hB
  rw [wc (by rw [qJ]; rfl),wc rfl]
 ·have hp:=zaP hB
  rw [we wa,we hB,zlh (dgd _) (dgd _) wa wa,dvd,dvd]
  simp only [obn]
  by_cases hlt:A<B
  ·rw [wc hlt,wc (by decide),Nat.div_eq_of_lt hlt,Nat.mod_eq_of_lt hlt,qJ]
  ·rw [we hlt,we (by split<;>decide)]
   by_cases h1:(digs B).length=1
   ·rw [wc wa,wc wa,kz]
    obtain ⟨t,ht,ht',t0,-,-⟩:=zis hB
    rw [h1,Nat.sub_self] at ht
    have hBt:B=t:=by
     have:=zV (digs B) 0
     rw [List.drop_zero,dvd,List.drop_eq_nil_of_le wa,ht,Int.toNat_natCast] at this
     simpa [dval] using this
    rw [ht,zyg (dgd A) wa wa ht',dvd,← hBt]
    rfl
   ·rw [we wa,zyz wa wa (zir wa)]
    rfl
def SZ (n:Nat):Prop:=blen n≤1048576
theorem zaf {m n:Nat} (h:m≤n):blen m≤blen n:=by
 rcases Nat.lt_or_ge (blen n) (blen m) with h1 | h1
 ·have hm:m≠0:=by intro h0; subst h0; simp [blen] at h1
  have h2:=QR hm
  have h3:=Zk n
  have h4:2 ^ blen n≤2 ^ (blen m-1):=Nat.pow_le_pow_right (by decide) wa
  omega
 ·exact h1
theorem zaQ {n k:Nat} (h:n<2 ^ k):blen n≤k:=by
 rcases Nat.lt_or_ge k (blen n) with h1 | h1
 ·have hn:n≠0:=by intro h0; subst h0; simp [blen] at h1
  have h2:=QR hn
  have h4:2 ^ k≤2 ^ (blen n-1):=Nat.pow_le_pow_right (by decide) wa
  omega
 ·exact h1
theorem zsh (m n:Nat):blen (m*n)≤blen m+blen n:=by
 rcases Nat.eq_zero_or_pos (m*n) with h | h
 ·rw [h]; simp [blen]
 ·refine zaQ ?_
  rw [Nat.pow_add]
  exact Nat.mul_lt_mul'' (Zk m) (Zk n)
theorem zej (m n:Nat):blen (m+n)≤max (blen m) (blen n)+1:=by
 refine zaQ ?_
 have h1:=Zk m
 have h2:=Zk n
 have h3:2 ^ blen m≤2 ^ max (blen m) (blen n):=Nat.pow_le_pow_right (by decide) wa
 have h4:2 ^ blen n≤2 ^ max (blen m) (blen n):=Nat.pow_le_pow_right (by decide) wa
 rw [Nat.pow_succ]; omega
theorem zlw (k:Nat):blen (2 ^ k)=k+1:=zr0 (Nat.le_refl _) (Nat.pow_lt_pow_right (by decide) wa)
theorem zag:blen 0=0:=by simp [blen]
theorem zcO {n:Nat} (h:n≠0) (k:Nat):blen (n*2 ^ k)=blen n+k:=by
 have:=zim (n:=n*2 ^ k) (k:=k) (by rwa [Nat.mul_div_cancel _ (Nat.pow_pos (by decide))])
 rwa [Nat.mul_div_cancel _ (Nat.pow_pos (by decide))] at this
theorem zoH (n:Nat):(digs n).length≤blen n / 32+1:=by
 refine QQ ?_
 rw [zaO]
 exact Nat.lt_of_lt_of_le (Zk n) (Nat.pow_le_pow_right (by decide) wa)
theorem zx {n:Nat} (h:SZ n):(digs n).length≤32769:=by
 have:=zoH n
 unfold SZ at h; omega
theorem zyB {l:List Int} (h:Dig l):blen (dval l)≤32*l.length:=by
 refine zaQ ?_
 rw [← zaO]; exact qF h
def sg (b:Bool) (n:Nat):Int:=if b then -(n:Int) else n
def iOf (z:Int):za:=⟨decide (z<0),digs z.natAbs⟩
def sgc (x y:Int):Int:=if x<y then -1 else if y<x then 1 else 0
theorem zsi {neg:Bool} {mag:List Int} (hd:Dig mag) (hl:mag.length≤274877906944):Q5 ⟨neg,mag⟩=some ⟨⟨digs (dval mag)⟩,decide (sg neg (dval mag)<0)⟩:=by
 unfold Q5
 rw [zf5 hd wa]
 simp only [obn]
 unfold znu sg
 cases neg with
 | false=>simp
 | true=>
  simp only [if_true]
  congr 2
  by_cases h:dval mag=0
  ·rw [h,qJ]; simp
  ·have:=zaP h
   simp; omega
theorem zgc {z:Int} (h:SZ z.natAbs):Q5 (iOf z)=some ⟨⟨digs z.natAbs⟩,decide (z<0)⟩:=by
 have:=zx h
 unfold iOf
 rw [zsi (dgd _) wa,dvd]
 congr 2
 unfold sg
 by_cases h:z<0<;>simp [h]<;>omega
theorem zah (z:Int):((iOf z).Mag.length:Int)=0↔z=0:=by
 unfold iOf
 constructor
 ·intro h
  by_cases h0:z.natAbs=0
  ·omega
  ·have:=zaP h0; simp only at h; omega
 ·rintro rfl; simp [qJ]
theorem zlx (b:Bool) (n:Nat):iOf (sg b n)=⟨decide (sg b n<0),digs n⟩:=by
 unfold iOf
 congr 2
 unfold sg; cases b<;>simp
theorem zyC (b:Bool) (n:Nat):zhf ⟨⟨digs n⟩,decide (sg b n<0)⟩=some (iOf (sg b n)):=by
 unfold zhf znx zj0
 rw [zlx]
 by_cases h:sg b n<0
 ·simp only [h,decide_true,if_true,obn]
  have:n≠0:=by unfold sg at h; intro h0; subst h0; cases b<;>simp at h
  have:=zaP this
  have e:(((digs n).length:Int) == 0)=false:=by rw [beq_eq_false_iff_ne]; omega
  rw [e]; rfl
 ·simp [h]
theorem zyD {neg:Bool} {mag:List Int} (hd:Dig mag) (hl:mag.length≤274877906944):Qm neg mag=some (iOf (sg neg (dval mag))):=by
 unfold Qm
 rw [zsi hd hl]
 simp only [obn]
 rw [zyC]
 rfl
theorem QS (z:Int):sg (decide (z<0)) z.natAbs=z:=by
 unfold sg
 by_cases h:z<0<;>simp [h]<;>omega
theorem zbX (neg:Bool) {n:Nat} (h:SZ n):Qm neg (digs n)=some (iOf (sg neg n)):=by
 have:=zx h
 rw [zyD (dgd n) wa,dvd]
theorem zyE {z:Int} (h:SZ z.natAbs):zeX (iOf z)=some (iOf (-z)):=by
 unfold zeX
 show ((Qm (!decide (z<0)) (digs z.natAbs)).bind fun x2=>some x2)=_
 rw [zbX _ h]
 simp only [obn]
 congr 2
 unfold sg
 by_cases h:z<0<;>simp [h]<;>omega
theorem zsj {x y:Int} (hx:SZ x.natAbs) (hy:SZ y.natAbs):zdC (iOf x) (iOf y)=some (sgc x y):=by
 have h1:=zx hx
 have h2:=zx hy
 unfold zdC
 rw [zgc hx,zgc hy]
 simp only [obn]
 unfold znw znv
 simp only [zlh (dgd x.natAbs) (dgd y.natAbs) wa wa,zlh (dgd y.natAbs) (dgd x.natAbs) wa wa,dvd,obn]
 unfold sgc
 by_cases hxn:x<0<;>by_cases hyn:y<0<;>simp only [hxn,hyn,decide_true,decide_false,bne_self_eq_false,Bool.true_bne,Bool.false_bne,Bool.not_false,Bool.not_true,if_true,if_false,Bool.false_eq_true]
 ·congr 1
  by_cases h:x<y
  ·rw [wc h,wc wa]
  ·rw [we h,we wa]
   by_cases h':y<x
   ·rw [wc h',wc wa]
   ·rw [we h',we wa]
 ·rw [wc wa]
 ·rw [we wa,wc wa]
 ·congr 1
  by_cases h:x<y
  ·rw [wc h,wc wa]
  ·rw [we h,we wa]
   by_cases h':y<x
   ·rw [wc h',wc wa]
   ·rw [we h',we wa]
theorem zaR {m n:Nat} (h:m≤n) (hn:SZ n):SZ m:=Nat.le_trans (zaf h) hn
theorem zyF {x y:Int} (hx:SZ x.natAbs) (hy:SZ y.natAbs) (hs:SZ (x.natAbs+y.natAbs)):zhh (iOf x) (iOf y)=some (iOf (x+y)):=by
 have h1:=zx hx
 have h2:=zx hy
 unfold zhh
 rw [zgc hx,zgc hy]
 simp only [obn]
 by_cases hsame:decide (x<0)=decide (y<0)
 ·rw [wc (by simp [hsame]),zoz (dgd _) (dgd _) wa wa,dvd,dvd]
  simp only [obn]
  rw [zbX _ hs]
  simp only [obn]
  congr 2
  unfold sg
  by_cases hxn:x<0<;>by_cases hyn:y<0<;>simp [hxn,hyn] at hsame ⊢ <;> omega
 ·rw [we (by simp; exact fun h=>hsame (by simp [h])),zlh (dgd _) (dgd _) wa wa,dvd,dvd]
  simp only [obn]
  unfold znz
  rw [zoB (dgd _) (dgd _) wa wa,zoB (dgd _) (dgd _) wa wa,dvd,dvd]
  by_cases hlt:x.natAbs<y.natAbs
  ·rw [wc hlt,wc (by decide),we wa]
   simp only [obn]
   rw [zbX _ (zaR wa hs)]
   simp only [obn]
   congr 2
   unfold sg
   by_cases hxn:x<0<;>by_cases hyn:y<0<;>simp [hxn,hyn] at hsame ⊢ <;> omega
  ·rw [we hlt,we (by split<;>decide),we hlt]
   simp only [obn]
   rw [zbX _ (zaR wa hs)]
   simp only [obn]
   congr 2
   unfold sg
   by_cases hxn:x<0<;>by_cases hyn:y<0<;>simp [hxn,hyn] at hsame ⊢ <;> omega
theorem zsk {n:Int} (h : -9223372036854775808≤n∧n≤9223372036854775807):ze7 n=some (iOf n):=by
 unfold ze7 znB
 have hsz:SZ n.natAbs:=by
  have:blen n.natAbs≤64:=zaQ wa
  unfold SZ; omega
 by_cases hn:n<0
 ·have e:u64.wrap (0-u64.wrap n)=((n.natAbs:Nat):Int):=by simp only [zbT]; omega
  rw [wc hn,e,zil wa wa,Int.toNat_natCast]
  simp only [obn]
  rw [zbX _ hsz]
  simp only [obn]
  rw [QS]
 ·have e:u64.wrap n=((n.natAbs:Nat):Int):=by simp only [zbT]; omega
  rw [we hn,e,zil wa wa,Int.toNat_natCast]
  simp only [obn]
  rw [zbX _ hsz]
  simp only [obn]
  rw [QS]
def zaS (a:za):Bool:=if a.Mag.length=0 then !a.Neg else a.Mag.getD (a.Mag.length-1) 0 != 0
theorem zyG {a:za} (h:a.Mag.length≤274877906944):zhd a=some (zaS a):=by
 unfold zhd zaS
 by_cases h0:a.Mag.length=0
 ·rw [wc wa,wc h0]
 ·have hw:i64.wrap ((a.Mag.length:Int)-1)=((a.Mag.length-1:Nat):Int):=by rw [w64]<;>omega
  rw [we wa,we h0,hw,wc wa,kz,Int.toNat_natCast]
theorem zsl {l:List Int} (h:l.length≠0):l.getLastD 1=l.getD (l.length-1) 0:=by
 cases l with
 | nil=>simp at h
 | cons d l=>
  simp [List.getD,List.getLast?_eq_getElem?]
theorem zyH {a:za} (hd:Dig a.Mag) (h:zaS a=true):a=iOf (sg a.Neg (dval a.Mag)):=by
 unfold zaS at h
 obtain ⟨neg,mag⟩:=a
 simp only at *
 by_cases h0:mag.length=0
 ·rw [wc h0] at h
  have hm:mag=[]:=List.eq_nil_of_length_eq_zero h0
  subst hm
  have:neg=false:=by simpa using h
  subst this
  simp [iOf,sg,dval,qJ]
 ·rw [we h0] at h
  have hl:=zsl h0
  have hdg:digs (dval mag)=mag:=zik hd (by rw [hl]; simpa using h)
  rw [zlx,hdg]
  congr 1
  have hv:dval mag≠0:=by
   intro hv; rw [hv,qJ] at hdg; subst hdg; simp at h0
  unfold sg
  cases neg<;>simp<;>omega
theorem zyI (z:Int):zaS (iOf z)=true:=by
 unfold zaS iOf
 simp only
 by_cases h0:z.natAbs=0
 ·have hz:z=0:=wa
  subst hz
  simp [qJ]
 ·have:=zaP h0
  rw [we wa]
  have:=(zio h0).2
  simpa using this
structure D where
 m:Int
 e:Int
instance:DecidableEq D:=fun x y=>
 if h:x.m=y.m∧x.e=y.e then isTrue (by cases x; cases y; simp only at h; rw [h.1,h.2]) else isFalse (fun e=>h (by rw [e]; exact ⟨rfl,rfl⟩))
def zD:D:=⟨0,0⟩
def lowz (n:Nat):Nat:=Nat.log2 (Nat.gcd n (2 ^ Nat.log2 n))
def nrm (m e:Int):D:=if m=0 then zD else ⟨m / 2 ^ lowz m.natAbs,e+lowz m.natAbs⟩
def dy (d:D):AD:=⟨iOf d.m,d.e⟩
theorem qp:dy zD=⟨⟨false,[]⟩,0⟩:=by simp [dy,zD,iOf,qJ]
theorem zyJ:∀ (n:Nat),n≠0→∃ t o,n=2 ^ t*o∧o % 2=1:=by
 intro n
 induction n using Nat.strongRecOn with
 | _ n ih=>
  intro h
  by_cases h2:n % 2=1
  ·exact ⟨0,n,wb,h2⟩
  ·obtain ⟨t,o,h3,h4⟩:=ih (n / 2) wa wa
   exact ⟨t+1,o,by rw [Nat.pow_succ]; have:n=2*(n / 2):=wa; rw [this,h3]; grind,h4⟩
theorem zsm {t o:Nat} (h:o % 2=1):lowz (2 ^ t*o)=t:=by
 unfold lowz
 have h0:2 ^ t*o≠0:=by
  have:=Nat.pow_pos (n:=t) (show 0<2 by decide)
  have:0<2 ^ t*o:=Nat.mul_pos this wa
  omega
 have hle:t≤Nat.log2 (2 ^ t*o):=by
  rw [Nat.le_log2 h0]
  exact Nat.le_mul_of_pos_right _ wa
 obtain ⟨k,hk⟩:∃ k,Nat.log2 (2 ^ t*o)=t+k:=⟨Nat.log2 (2 ^ t*o)-t,wa⟩
 rw [hk,Nat.pow_add,Nat.gcd_mul_left]
 have hc:Nat.gcd o (2 ^ k)=1:=by
  refine Nat.Coprime.gcd_eq_one (Nat.Coprime.pow_right k ?_)
  show Nat.gcd o 2=1
  rw [Nat.gcd_comm,Nat.gcd_rec,h]
  rfl
 rw [hc,Nat.mul_one,Nat.log2_two_pow]
theorem zly {n:Nat} (h:n≠0):∃ o,n=2 ^ lowz n*o∧o % 2=1:=by
 obtain ⟨t,o,h1,h2⟩:=zyJ n h
 refine ⟨o,?_,h2⟩
 rw [h1,zsm h2]
theorem zoI {t o j:Nat} (h:j<t):(2 ^ t*o).testBit j=false:=by
 rw [Nat.testBit_two_pow_mul]; simp; omega
theorem zoJ {t o:Nat} (h:o % 2=1):(2 ^ t*o).testBit t=true:=by
 rw [Nat.testBit_two_pow_mul]; simp [h]
theorem zsn {N i b:Nat} (hb:b<32):((digs N).getD i 0).toNat.testBit b=N.testBit (32*i+b):=by
 have:=zln (digs N) (dgd N) (32*i+b)
 rw [dvd,show (32*i+b) / 32=i by omega,show (32*i+b) % 32=b by omega] at this
 exact this.symm
theorem zyK {t o i:Nat} (h:32*i+32≤t):(digs (2 ^ t*o)).getD i 0=0:=by
 obtain ⟨d,hd,hd'⟩:=zL (dgd (2 ^ t*o)) i
 have:d=0:=by
  apply Nat.eq_of_testBit_eq
  intro b
  rw [Nat.zero_testBit]
  by_cases hb:b<32
  ·have:=zsn (N:=2 ^ t*o) (i:=i) hb
   rw [hd,Int.toNat_natCast] at this
   rw [this,zoI wa]
  ·refine Nat.testBit_lt_two_pow (Nat.lt_of_lt_of_le hd' ?_)
   rw [← p32]; exact Nat.pow_le_pow_right (by decide) wa
 rw [hd,this]; rfl
theorem zso {t o:Nat} (h:o % 2=1):(digs (2 ^ t*o)).getD (t / 32) 0≠0:=by
 intro h0
 have:=zsn (N:=2 ^ t*o) (i:=t / 32) (b:=t % 32) wa
 rw [h0,show 32*(t / 32)+t % 32=t by omega,zoJ h] at this
 simp at this
theorem zgd (b:Bool) (x y:Nat):sg b (x*y)=(x:Int)*sg b y:=by
 unfold sg; cases b<;>simp [Int.mul_neg]
theorem zbm (b:Bool) (n:Nat):(sg b n).natAbs=n:=by unfold sg; cases b<;>simp
theorem zoK (b:Bool) (n:Nat):sg b n=0↔n=0:=by unfold sg; cases b<;>simp
theorem zit {b:Bool} {t o:Nat} (e:Int) (h:o % 2=1):nrm (sg b (2 ^ t*o)) e=⟨sg b o,e+(t:Int)⟩:=by
 have h0:2 ^ t*o≠0:=by
  have:0<2 ^ t*o:=Nat.mul_pos (Nat.pow_pos (by decide)) wa
  omega
 unfold nrm
 rw [we (by rw [zoK]; exact h0),zbm,zsm h,zgd]
 congr 1
 have:((2 ^ t:Nat):Int)=(2:Int) ^ t:=wb
 rw [this,Int.mul_ediv_cancel_left]
 have:=Int.pow_pos (n:=2) (m:=t) (by decide)
 omega
theorem zyL {t o:Nat} (ho:o % 2=1) (hsz:SZ (2 ^ t*o)) (neg:Bool) {e:Int} (he : -1152921504606846976≤e∧e≤1152921504606846976) (ht:t≤1099511627776) :
  ∀ (r n:Nat),n+r=t→∀ f,r<f→zdF (digs (2 ^ t*o)) neg e f (n:Int)=some (dy ⟨sg neg o,e+(t:Int)⟩):=by
 have hlen:=zx hsz
 intro r
 induction r with
 | zero=>
  intro n hn f hf
  obtain ⟨f,rfl⟩:∃ k,f=k+1:=⟨f-1,wa⟩
  have:n=t:=wa
  subst this
  rw [zdF,zoD (dgd _) wa,dvd,zoJ ho]
  simp only [obn]
  rw [we wb]
  unfold zrF
  rw [zlt (dgd _) wa wa,dvd,Nat.mul_div_cancel_left _ (Nat.pow_pos (by decide))]
  simp only [obn]
  rw [zbX _ (zaR (Nat.le_mul_of_pos_left _ (Nat.pow_pos (by decide))) hsz)]
  simp only [obn]
  rw [w64 wa wa]
  rfl
 | succ r ih=>
  intro n hn f hf
  obtain ⟨f,rfl⟩:∃ k,f=k+1:=⟨f-1,wa⟩
  rw [zdF,zoD (dgd _) wa,dvd,zoI wa]
  simp only [obn]
  rw [wc wb,show ((n:Int)+1)=((n+1:Nat):Int) by omega,zW wa]
  exact ih (n+1) wa f wa
theorem ziu {t o:Nat} (ho:o % 2=1):t<blen (2 ^ t*o):=by
 have:=zaf (Nat.le_mul_of_pos_right (2 ^ t) (show 0<o by omega))
 rw [zlw] at this; omega
theorem zyM {t o:Nat} (ho:o % 2=1) (hsz:SZ (2 ^ t*o)) (neg:Bool) {e:Int} (he : -1152921504606846976≤e∧e≤1152921504606846976) :
  ∀ (r i:Nat),i+r=t / 32→∀ f,r<f→ze5 (digs (2 ^ t*o)) neg e f ((32*i:Nat):Int)=some (dy ⟨sg neg o,e+(t:Int)⟩):=by
 have hlen:=zx hsz
 have ht:=ziu (t:=t) ho
 unfold SZ at hsz
 intro r
 induction r with
 | zero=>
  intro i hi f hf
  obtain ⟨f,rfl⟩:∃ k,f=k+1:=⟨f-1,wa⟩
  have hd:=zso (t:=t) ho
  have hin:t / 32<(digs (2 ^ t*o)).length:=by
   rcases Nat.lt_or_ge (t / 32) (digs (2 ^ t*o)).length with h | h
   ·exact h
   ·exact absurd (by simp [List.getD,List.getElem?_eq_none h]) hd
  have hit:i=t / 32:=wa
  rw [ze5,zbl,zW (n:=32*i / 32) wa,show 32*i / 32=t / 32 by omega,wc wa,kz,Int.toNat_natCast,we hd]
  unfold znA
  exact zyL ho hsz neg he wa (t-32*i) (32*i) wa fuel (by unfold fuel; omega)
 | succ r ih=>
  intro i hi f hf
  obtain ⟨f,rfl⟩:∃ k,f=k+1:=⟨f-1,wa⟩
  have hd:=zyK (t:=t) (o:=o) (i:=i) wa
  have hin:i<(digs (2 ^ t*o)).length:=by
   have h1:=zso (t:=t) ho
   rcases Nat.lt_or_ge (t / 32) (digs (2 ^ t*o)).length with h | h
   ·omega
   ·exact absurd (by simp [List.getD,List.getElem?_eq_none h]) h1
  rw [ze5,zbl,zW (n:=32*i / 32) wa,show 32*i / 32=i by omega,wc wa,kz,Int.toNat_natCast,wc hd]
  rw [show (((32*i:Nat):Int)+32)=((32*(i+1):Nat):Int) by omega,zW wa]
  exact ih (i+1) wa f wa
theorem zoL (neg:Bool) {n:Nat} (hsz:SZ n) {e:Int} (he : -1152921504606846976≤e∧e≤1152921504606846976):za4 neg (digs n) e=some (dy (nrm (sg neg n) e)):=by
 have hlen:=zx hsz
 unfold za4
 rw [zf5 (dgd n) wa,dvd]
 simp only [obn]
 by_cases h0:n=0
 ·subst h0
  rw [wc (by rw [qJ]; rfl)]
  unfold nrm
  rw [wc (by rw [zoK]),qp]
 ·obtain ⟨o,h1,h2⟩:=zly h0
  generalize lowz n=t at h1
  subst h1
  have:=zaP h0
  rw [we wa,zit e h2]
  have:=ziu (t:=t) h2
  unfold SZ at hsz
  exact zyM h2 hsz neg he (t / 32) 0 wa fuel (by unfold fuel; omega)
theorem zyN {k:Nat} : ∀ (c v n:Nat),n≤100000*c+100000→blen v+n≤k→k≤1048576→∀ f,c<f→zeY f (digs v) (n:Int)=some (digs (v*2 ^ n)):=by
 intro c
 induction c with
 | zero=>
  intro v n hn hv hk f hf
  obtain ⟨f,rfl⟩:∃ k,f=k+1:=⟨f-1,wa⟩
  have hl:=zx (n:=v) (by unfold SZ; omega)
  rw [zeY,we wa]
  unfold zny
  have hm:mx (n:Int) 0=(n:Int):=by unfold mx; simp; omega
  rw [hm,zf9 (dgd _) wa wa,dvd]
  rfl
 | succ c ih=>
  intro v n hn hv hk f hf
  obtain ⟨f,rfl⟩:∃ k,f=k+1:=⟨f-1,wa⟩
  have hl:=zx (n:=v) (by unfold SZ; omega)
  rw [zeY]
  obtain ⟨K,hK⟩:∃ K:Nat,K=100000:=⟨_,rfl⟩
  by_cases h:n>100000
  ·rw [wc wa]
   have:=zf9 (dgd v) wa (n:=K) wa
   rw [dvd] at this
   rw [show (100000:Int)=((K:Nat):Int) by omega,this]
   simp only [obn]
   rw [show (n:Int)-((K:Nat):Int)=((n-K:Nat):Int) by omega,zW wa]
   by_cases h0:v=0
   ·subst h0
    have e:=ih 0 (n-K) wa (by rw [zag]; omega) hk f wa
    rw [Nat.zero_mul] at e ⊢
    rw [Nat.zero_mul]; exact e
   ·have e:=ih (v*2 ^ K) (n-K) wa (by rw [zcO h0]; omega) hk f wa
    rw [Nat.mul_assoc,← Nat.pow_add,show K+(n-K)=n by omega] at e
    exact e
  ·rw [we wa]
   unfold zny
   have hm:mx (n:Int) 0=(n:Int):=by unfold mx; simp; omega
   rw [hm,zf9 (dgd _) wa wa,dvd]
   rfl
theorem zoM {v n:Nat} (h:blen v+n≤1048576):za0 (digs v) (n:Int)=some (digs (v*2 ^ n)):=by
 unfold za0
 exact zyN 11 v n wa h (Nat.le_refl _) fuel (by unfold fuel; omega)
def p2 (k:Int):Rat:=(2:Rat) ^ k
theorem zy (a b:Int):p2 (a+b)=p2 a*p2 b:=Rat.zpow_add (by decide) a b
theorem zN:p2 0=1:=Rat.zpow_zero 2
theorem zb (k:Int):0<p2 k:=Rat.zpow_pos (by decide)
theorem qS (n:Nat):p2 (n:Int)=((2 ^ n:Nat):Rat):=by
 unfold p2
 rw [Rat.zpow_natCast,Rat.natCast_pow]; rfl
theorem zsp (n:Nat):p2 (n:Int)=(((2:Int) ^ n:Int):Rat):=by
 rw [qS]
 have:((2:Int) ^ n)=((2 ^ n:Nat):Int):=wb
 rw [this,Rat.intCast_natCast]
def val (d:D):Rat:=(d.m:Rat)*p2 d.e
theorem qT:val zD=0:=by simp [val,zD]
def okD (d:D):Prop:=(d.m=0∧d.e=0)∨(d.m % 2=1∧-131072≤d.e∧d.e≤131072)
def WD (d:D):Prop:=okD d∧blen d.m.natAbs≤262144
theorem zsq:okD zD:=Or.inl ⟨rfl,rfl⟩
theorem qj:WD zD:=⟨zsq,by simp [zD,blen]⟩
theorem WD.sz {d:D} (h:WD d):SZ d.m.natAbs:=by have:=h.2; unfold SZ; omega
theorem okD.e {d:D} (h:okD d) : -131072≤d.e∧d.e≤131072:=by
 rcases h with h | h
 ·omega
 ·exact h.2
theorem WD.e {d:D} (h:WD d) : -131072≤d.e∧d.e≤131072:=h.1.e
theorem zsr (z:Int):∃ b,z=sg b z.natAbs:=⟨decide (z<0),(QS z).symm⟩
theorem zek {m:Int} (h:m≠0) (e:Int):∃ (t:Nat) (o:Int),m=2 ^ t*o∧o % 2=1∧nrm m e=⟨o,e+(t:Int)⟩∧t<blen m.natAbs∧blen o.natAbs≤blen m.natAbs∧blen o.natAbs+t=blen m.natAbs:=by
 obtain ⟨b,hb⟩:=zsr m
 have h0:m.natAbs≠0:=wa
 obtain ⟨o,h1,h2⟩:=zly h0
 generalize lowz m.natAbs=t at h1
 generalize m.natAbs=n at *
 subst hb; subst h1
 refine ⟨t,sg b o,?_,?_,zit e h2,ziu h2,?_,?_⟩
 ·rw [zgd]; simp
 ·unfold sg; cases b<;>simp<;>omega
 ·rw [zbm]; exact zaf (Nat.le_mul_of_pos_left _ (Nat.pow_pos (by decide)))
 ·rw [zbm,Nat.mul_comm,zcO wa]
theorem zbn (e:Int):nrm 0 e=zD:=by simp [nrm]
theorem ziv (m e:Int):val (nrm m e)=(m:Rat)*p2 e:=by
 by_cases h:m=0
 ·subst h; rw [zbn,qT]; simp
 ·obtain ⟨t,o,h1,-,h3,-⟩:=zek h e
  rw [h3]
  unfold val
  simp only
  rw [zy,zsp,h1,Rat.intCast_mul,Rat.mul_comm (p2 e),← Rat.mul_assoc,Rat.mul_comm (o:Rat)]
theorem ziw (m e:Int):blen (nrm m e).m.natAbs≤blen m.natAbs:=by
 by_cases h:m=0
 ·subst h; rw [zbn]; exact Nat.le_refl _
 ·obtain ⟨t,o,-,-,h3,-,h5,-⟩:=zek h e
  rw [h3]; exact h5
theorem zyO {m:Int} (h:m≠0) (e:Int):(nrm m e).m % 2=1:=by
 obtain ⟨t,o,-,h2,h3,-⟩:=zek h e
 rw [h3]; exact h2
theorem zix {d:D} (h:okD d):nrm d.m d.e=d:=by
 rcases h with h | h
 ·rw [h.1,zbn]; obtain ⟨m,e⟩:=d; simp only at h; rw [h.1,h.2]; rfl
 ·have h0:d.m≠0:=wa
  obtain ⟨t,o,h1,h2,h3,h4,h5,h6⟩:=zek h0 d.e
  have ht:t=0:=by
   rcases Nat.eq_zero_or_pos t with ht | ht
   ·exact ht
   ·obtain ⟨k,rfl⟩:∃ k,t=k+1:=⟨t-1,wa⟩
    rw [h1,Int.pow_succ,Int.mul_assoc,Int.mul_comm,Int.mul_assoc] at h
    omega
  subst ht
  rw [h3]
  obtain ⟨m,e⟩:=d
  simp at h1 ⊢
  omega
theorem zyP (m e:Int) (k:Nat):nrm (m*2 ^ k) (e-k)=nrm m e:=by
 by_cases h:m=0
 ·subst h; rw [Int.zero_mul,zbn,zbn]
 ·obtain ⟨b,hb⟩:=zsr m
  have h0:m.natAbs≠0:=wa
  obtain ⟨o,h1,h2⟩:=zly h0
  generalize lowz m.natAbs=t at h1
  generalize m.natAbs=n at *
  subst hb; subst h1
  have e1:sg b (2 ^ t*o)*2 ^ k=sg b (2 ^ (t+k)*o):=by
   rw [zgd,zgd,Nat.pow_add]; simp; grind
  rw [e1,zit _ h2,zit _ h2]
  congr 1; omega
def inR (d:D):Bool:=d.m == 0 || (decide (-65536≤d.e+(blen d.m.natAbs:Nat)∧d.e+(blen d.m.natAbs:Nat)≤65536∧-131072≤d.e∧d.e≤131072∧blen d.m.natAbs≤262144))
def qr (d:D):D × Int:=if inR d then (d,0) else (zD,4)
def negD (d:D):D:=⟨-d.m,d.e⟩
def sumD (x y:D):D:=if x.m=0 then y else if y.m=0 then x else if x.e<y.e then nrm (y.m*2 ^ (y.e-x.e).toNat+x.m) x.e else nrm (x.m*2 ^ (x.e-y.e).toNat+y.m) y.e
def mulD (x y:D):D:=nrm (x.m*y.m) (x.e+y.e)
def zp (x y:D):Int:=sgc (sumD x (negD y)).m 0
theorem qK (d:D):val (negD d) = -val d:=by simp [val,negD,Rat.neg_mul]
theorem zyQ (x y:D):val (mulD x y)=val x*val y:=by
 unfold mulD
 rw [ziv,zy,Rat.intCast_mul]; unfold val; grind
theorem QT {d:D} (h:d.m=0):val d=0:=by simp [val,h]
theorem zcP {x y:Int} (h:y≤x):p2 x=(((2:Int) ^ (x-y).toNat:Int):Rat)*p2 y:=by
 rw [← zsp,← zy]; congr 1; omega
theorem zoN (x y:D):val (sumD x y)=val x+val y:=by
 unfold sumD
 by_cases hx:x.m=0
 ·rw [wc hx,QT hx,Rat.zero_add]
 ·rw [we hx]
  by_cases hy:y.m=0
  ·rw [wc hy,QT hy,Rat.add_zero]
  ·rw [we hy]
   by_cases h:x.e<y.e
   ·rw [wc h,ziv,Rat.intCast_add,Rat.intCast_mul]
    unfold val
    rw [zcP (x:=y.e) (y:=x.e) wa]; grind
   ·rw [we h,ziv,Rat.intCast_add,Rat.intCast_mul]
    unfold val
    rw [zcP (x:=x.e) (y:=y.e) wa]; grind
theorem zel (d:D):val d<0↔d.m<0:=by
 unfold val
 have hp:=zb d.e
 constructor
 ·intro h
  rcases (show d.m<0∨0≤d.m by omega) with h1 | h1
  ·exact h1
  ·have h2:(0:Rat)≤(d.m:Rat):=by exact_mod_cast h1
   have:=Rat.mul_nonneg h2 (Rat.le_of_lt hp)
   grind
 ·intro h
  have h2:(d.m:Rat)<0:=by exact_mod_cast h
  have h3:0 < -(d.m:Rat):=by grind
  have:=Rat.mul_pos h3 hp
  grind
theorem zge (d:D):0<val d↔0<d.m:=by
 have:=zel (negD d)
 rw [qK] at this
 unfold negD at this
 simp only at this
 constructor
 ·intro h; have:=this.1 (by grind); omega
 ·intro h; have:=this.2 wa; grind
theorem zem (d:D):val d=0↔d.m=0:=by
 have h1:=zel d
 have h2:=zge d
 constructor
 ·intro h
  have h3:¬d.m<0:=fun h4=>by have:=h1.2 h4; grind
  have h4:¬0<d.m:=fun h4=>by have:=h2.2 h4; grind
  omega
 ·exact QT
theorem zbY (x y:D):zp x y=if val x<val y then -1 else if val y<val x then 1 else 0:=by
 unfold zp sgc
 have h1:=zel (sumD x (negD y))
 have h2:=zge (sumD x (negD y))
 rw [zoN,qK] at h1 h2
 by_cases h:val x<val y
 ·rw [wc h,wc (h1.1 (by grind))]
 ·rw [we h,we (fun h3=>h (by have:=h1.2 h3; grind))]
  by_cases h':val y<val x
  ·rw [wc h',wc (h2.1 (by grind))]
  ·rw [we h',we (fun h3=>h' (by have:=h2.2 h3; grind))]
theorem zcQ (x y:D):zp x y≤0↔val x≤val y:=by
 rw [zbY]
 by_cases h:val x<val y
 ·rw [wc h]; simp; grind
 ·rw [we h]
  by_cases h':val y<val x
  ·rw [wc h']; simp; grind
  ·rw [we h']; simp; grind
theorem zgf (x y:D):zp x y<0↔val x<val y:=by
 rw [zbY]
 by_cases h:val x<val y
 ·rw [wc h]; simp; grind
 ·rw [we h]
  by_cases h':val y<val x
  ·rw [wc h']; simp; grind
  ·rw [we h']; simp; grind
theorem zlz (x y:D):0<zp x y↔val y<val x:=by
 rw [zbY]
 by_cases h:val x<val y
 ·rw [wc h]; simp; grind
 ·rw [we h]
  by_cases h':val y<val x
  ·rw [wc h']; simp; grind
  ·rw [we h']; simp; grind
theorem zyR {x y:D} (hx:okD x) (hy:okD y) (h:val x=val y):x=y:=by
 have key:∀ {x y:D},okD x→okD y→val x=val y→x.e≤y.e→x=y:=by
  intro x y hx hy h hle
  have e1:(x.m:Rat)=((y.m*2 ^ (y.e-x.e).toNat:Int):Rat):=by
   have hp:=zb x.e
   unfold val at h
   rw [zcP hle,← Rat.mul_assoc,← Rat.intCast_mul] at h
   have:=congrArg (· * (p2 x.e)⁻¹) h
   simp only [Rat.mul_assoc] at this
   rw [Rat.mul_inv_cancel _ (by grind),Rat.mul_one,Rat.mul_one] at this
   exact this
  have e2:x.m=y.m*2 ^ (y.e-x.e).toNat:=by exact_mod_cast e1
  have h3:=zyP y.m y.e (y.e-x.e).toNat
  rw [← e2,show y.e-((y.e-x.e).toNat:Int)=x.e by omega,zix hx,zix hy] at h3
  exact h3
 rcases Int.le_total x.e y.e with h1 | h1
 ·exact key hx hy h h1
 ·exact (key hy hx h.symm h1).symm
theorem Zl {a b:Int} (h:a≤b):(a:Rat)≤(b:Rat):=by exact_mod_cast h
theorem ziy {a b:Int} (h:a<b):(a:Rat)<(b:Rat):=by exact_mod_cast h
theorem qe {a b:Int} (h:a≤b):p2 a≤p2 b:=by
 rw [zcP h]
 have h1:(1:Int)≤2 ^ (b-a).toNat:=by
  have:=Int.pow_pos (n:=2) (m:=(b-a).toNat) (by decide); omega
 have h2:=Zl h1
 have h3:=Rat.mul_le_mul_of_nonneg_right h2 (Rat.le_of_lt (zb a))
 grind
theorem zyS {d:D} (h:0<d.m):val d<p2 (d.e+(blen d.m.natAbs:Nat)):=by
 have h1:=Zk d.m.natAbs
 have h2:d.m<((2 ^ blen d.m.natAbs:Nat):Int):=wa
 have h3:=ziy h2
 rw [Int.add_comm,zy,qS]
 rw [Rat.intCast_natCast] at h3
 exact Rat.mul_lt_mul_of_pos_right h3 (zb _)
theorem zoO {d:D} (h:0<d.m):p2 (d.e+(blen d.m.natAbs:Nat)-1)≤val d:=by
 have h0:d.m.natAbs≠0:=wa
 have h1:=QR h0
 have hp:=zbW h0
 have h2:((2 ^ (blen d.m.natAbs-1):Nat):Int)≤d.m:=wa
 have h3:=Zl h2
 rw [show d.e+(blen d.m.natAbs:Nat)-1=((blen d.m.natAbs-1:Nat):Int)+d.e by omega,zy,qS]
 rw [Rat.intCast_natCast] at h3
 exact Rat.mul_le_mul_of_nonneg_right h3 (Rat.le_of_lt (zb _))
theorem zcR {x y:D} (hx:0<x.m) (hy:0<y.m) (h:x.e+(blen x.m.natAbs:Nat)<y.e+(blen y.m.natAbs:Nat)):val x<val y:=by
 have h1:=zyS hx
 have h2:=zoO hy
 have h3:=qe (show x.e+(blen x.m.natAbs:Nat)≤y.e+(blen y.m.natAbs:Nat)-1 by omega)
 grind
theorem zbo (d:D):Qa (dy d)=some (decide (d.m=0)):=by
 unfold Qa dy
 have:=zah d.m
 by_cases h:d.m=0
 ·rw [show decide (d.m=0)=true by simp [h],show ((((iOf d.m).Mag.length:Nat):Int) == 0)=true by rw [this.2 h]; rfl]
 ·rw [show decide (d.m=0)=false by simp [h],show ((((iOf d.m).Mag.length:Nat):Int) == 0)=false by rw [beq_eq_false_iff_ne]; exact fun h1=>h (this.1 h1)]
theorem zgg (n lo hi:Int):zaz n lo hi=some (decide (lo≤n∧n≤hi)):=by
 unfold zaz znr
 by_cases h:lo≤n<;>by_cases h':n≤hi<;>simp [h,h']
theorem zlA {d:D} (hs:SZ d.m.natAbs) (he : -1152921504606846976≤d.e∧d.e≤1152921504606846976):zcl (dy d)=some (d.e+(blen d.m.natAbs:Nat)):=by
 have hl:=zx hs
 unfold zcl dy iOf
 simp only
 rw [zip (dgd _) wa,dvd]
 simp only [obn]
 unfold SZ at hs
 rw [w64 wa wa]
theorem zoP {d:D} (hs:SZ d.m.natAbs) (he : -1152921504606846976≤d.e∧d.e≤1152921504606846976):zbD (dy d)=some (inR d):=by
 have hl:=zx hs
 unfold zbD zhj
 rw [zbo]
 simp only [obn]
 unfold inR
 by_cases h0:d.m=0
 ·simp [h0]
 ·rw [we (by simp [h0]),zlA hs he]
  simp only [obn,zgg]
  have hb:ZR (dy d).M.Mag=some ((blen d.m.natAbs:Nat):Int):=by
   show ZR (digs d.m.natAbs)=_
   rw [zip (dgd _) wa,dvd]
  rw [hb]
  simp only [obn]
  have e0:(d.m == 0)=false:=by simp [h0]
  rw [e0,Bool.false_or]
  have hde:(dy d).E=d.e:=rfl
  rw [hde]
  by_cases h1 : -65536≤d.e+(blen d.m.natAbs:Nat)∧d.e+(blen d.m.natAbs:Nat)≤65536
  ·rw [wc (by simpa using h1)]
   by_cases h2 : -131072≤d.e∧d.e≤131072
   ·rw [wc (by simpa using h2)]
    congr 1
    apply decide_eq_decide.2
    omega
   ·rw [we (by simpa using h2)]
    congr 1
    symm; apply decide_eq_false
    omega
  ·rw [we (by simpa using h1)]
   congr 1
   symm; apply decide_eq_false
   omega
def zbZ (x:AD):Bool:=zaS x.M && (if x.M.Mag.length=0 then x.E == 0 else (x.M.Mag.getD 0 0).toNat.testBit 0 && decide (-131072≤x.E∧x.E≤131072))
theorem zyT {x:Int} (h:0≤x∧x<4294967296):(¬zaw .u32 x 1=0)↔x.toNat.testBit 0=true:=by
 have:=zr3 h (k:=0) wa
 rw [zr2 wa] at this
 rw [← this]
 simp
theorem zss {x:AD} (hd:Dig x.M.Mag) (hl:x.M.Mag.length≤274877906944):Zc x=some (zbZ x):=by
 unfold Zc zns zbZ
 rw [zyG hl]
 simp only [obn]
 cases hr:zaS x.M with
 | false=>simp
 | true=>
  rw [we wb]
  unfold Qa
  simp only [obn,Bool.true_and]
  by_cases h0:x.M.Mag.length=0
  ·rw [wc (by simp [h0]),wc h0]
  ·rw [we (by simp; intro h; exact h0 (by simp [h])),we h0,wc wa,kz]
   rw [show (if ¬zaw .u32 (x.M.Mag.getD 0 0) 1=0 then ((zaz x.E (-131072) 131072).bind fun x10=>some x10) else some false)=some ((x.M.Mag.getD 0 0).toNat.testBit 0 && decide (-131072≤x.E∧x.E≤131072)) from ?_]
   rw [zgg]
   simp only [obn]
   have:=zyT (ZV hd 0)
   by_cases hb:(x.M.Mag.getD 0 0).toNat.testBit 0=true
   ·rw [wc (this.2 hb),hb,Bool.true_and]
   ·rw [we (fun h=>hb (this.1 h))]
    rw [show (x.M.Mag.getD 0 0).toNat.testBit 0=false by simpa using hb,Bool.false_and]
theorem zyU (n:Nat):(digs n).getD 0 0=((n % 4294967296:Nat):Int):=by
 by_cases h:n=0
 ·subst h; rw [qJ]; rfl
 ·unfold digs; rw [dif_neg h]; rfl
theorem zst {d:D} (h:okD d):zbZ (dy d)=true:=by
 unfold zbZ dy
 simp only
 rw [zyI,Bool.true_and]
 have h1:=zah d.m
 rcases h with h | h
 ·rw [wc (by have:=h1.2 h.1; omega)]; simp [h.2]
 ·rw [we (fun h0=>by have:=h1.1 wa; omega)]
  unfold iOf
  simp only
  rw [zyU,Int.toNat_natCast,Nat.testBit_zero]
  simp; omega
theorem zyV {x:AD} (hd:Dig x.M.Mag) (h:zbZ x=true):∃ d,okD d∧x=dy d∧d.m.natAbs=dval x.M.Mag:=by
 unfold zbZ at h
 rw [Bool.and_eq_true] at h
 obtain ⟨h1,h2⟩:=h
 have hM:=zyH hd h1
 refine ⟨⟨sg x.M.Neg (dval x.M.Mag),x.E⟩,?_,?_,zbm _ _⟩
 ·by_cases h0:x.M.Mag.length=0
  ·rw [wc h0] at h2
   left
   refine ⟨?_,by simpa using h2⟩
   have:x.M.Mag=[]:=List.eq_nil_of_length_eq_zero h0
   simp [this,dval,sg]
  ·rw [we h0,Bool.and_eq_true] at h2
   right
   refine ⟨?_,by simpa using h2.2⟩
   have h3:=h2.1
   have h4:=zV x.M.Mag 0
   rw [List.drop_zero] at h4
   rw [Nat.testBit_zero] at h3
   have h5:dval x.M.Mag % 2=1:=by
    rw [h4]; have:=of_decide_eq_true h3; omega
   unfold sg; cases x.M.Neg<;>simp<;>omega
 ·unfold dy
  simp only
  rw [← hM]
theorem ZX {d:D} (h:okD d) (hs:SZ d.m.natAbs):Zc (dy d)=some true:=by
 rw [zss (dgd _) (by have:=zx hs; show (digs d.m.natAbs).length≤_; omega),zst h]
theorem ziz {d:D} (h:WD d):zbC (dy d)=some (dy (negD d)):=by
 unfold zbC
 rw [ZX h.1 h.sz]
 simp only [obn]
 rw [we wb]
 show ((zeX (iOf d.m)).bind _)=_
 rw [zyE h.sz]
 rfl
theorem WD.neg {d:D} (h:WD d):WD (negD d):=by
 obtain ⟨h1,h2⟩:=h
 refine ⟨?_,by unfold negD; simpa using h2⟩
 unfold okD negD at *
 simp only
 rcases h1 with h1 | h1
 ·left; omega
 ·right; omega
theorem zoQ {z:Int} (hs:SZ z.natAbs) {e:Int} (he : -1152921504606846976≤e∧e≤1152921504606846976):za4 (iOf z).Neg (iOf z).Mag e=some (dy (nrm z e)):=by
 unfold iOf
 simp only
 rw [zoL _ hs he,QS]
theorem zoR (z:Int) (k:Nat):(z*2 ^ k).natAbs=z.natAbs*2 ^ k:=by
 rw [Int.natAbs_mul,Int.natAbs_pow]; rfl
theorem zyW (z:Int) (k:Nat):(⟨decide (z<0),digs (z.natAbs*2 ^ k)⟩:za)=iOf (z*2 ^ k):=by
 unfold iOf
 rw [zoR]
 congr 1
 apply decide_eq_decide.2
 have hp:=Int.pow_pos (n:=2) (m:=k) (by decide)
 constructor
 ·intro h; exact Int.mul_neg_of_neg_of_pos h hp
 ·intro h
  rcases (show z<0∨0≤z by omega) with h1 | h1
  ·exact h1
  ·have:=Int.mul_nonneg h1 (Int.le_of_lt hp); omega
theorem zlB (z:Int) (k:Nat):blen (z*2 ^ k).natAbs≤blen z.natAbs+k:=by
 rw [zoR]
 by_cases h:z.natAbs=0
 ·rw [h,Nat.zero_mul,zag]; omega
 ·rw [zcO h]; exact Nat.le_refl _
theorem zoS (x y:Int):blen (x+y).natAbs≤max (blen x.natAbs) (blen y.natAbs)+1:=
 Nat.le_trans (zaf (Int.natAbs_add_le x y)) (zej _ _)
theorem zsu {x y:D} (hx:WD x) (hy:WD y) (hle:y.e≤x.e):ze6 (iOf x.m).Neg (iOf x.m).Mag x.e (iOf y.m).Neg (iOf y.m).Mag y.e=some (dy (nrm (x.m*2 ^ (x.e-y.e).toNat+y.m) y.e)):=by
 have ex:=hx.e
 have ey:=hy.e
 have bx:=hx.2
 have b_y:=hy.2
 have b1:=zlB x.m (x.e-y.e).toNat
 have b2:=zej (x.m*2 ^ (x.e-y.e).toNat).natAbs y.m.natAbs
 have b3:=zoS (x.m*2 ^ (x.e-y.e).toNat) y.m
 unfold ze6
 have hw:i64.wrap (x.e-y.e)=((x.e-y.e).toNat:Int):=by rw [w64]<;>omega
 rw [hw]
 show ((za0 (digs x.m.natAbs) _).bind _)=_
 rw [zoM wa]
 simp only [obn]
 have e1:(⟨(iOf x.m).Neg,digs (x.m.natAbs*2 ^ (x.e-y.e).toNat)⟩:za)=iOf (x.m*2 ^ (x.e-y.e).toNat):=zyW _ _
 rw [e1]
 have e2:(⟨(iOf y.m).Neg,(iOf y.m).Mag⟩:za)=iOf y.m:=rfl
 rw [e2,zyF (by unfold SZ; omega) (by unfold SZ; omega) (by unfold SZ; omega)]
 simp only [obn]
 rw [zoQ (by unfold SZ; omega) wa]
 rfl
theorem zsv {x y:D} (hx:WD x) (hy:WD y):zdG (dy x) (dy y)=some (dy (sumD x y)):=by
 unfold zdG
 rw [zbo,zbo]
 simp only [obn]
 unfold sumD
 by_cases h1:x.m=0
 ·rw [wc (by simp [h1]),wc h1]
 ·rw [we (by simp [h1]),we h1]
  by_cases h2:y.m=0
  ·rw [wc (by simp [h2]),wc h2]
  ·rw [we (by simp [h2]),we h2]
   show (if x.e<y.e then ze6 (iOf y.m).Neg (iOf y.m).Mag y.e (iOf x.m).Neg (iOf x.m).Mag x.e else ze6 (iOf x.m).Neg (iOf x.m).Mag x.e (iOf y.m).Neg (iOf y.m).Mag y.e)=_
   by_cases h:x.e<y.e
   ·rw [wc h,wc h,zsu hy hx wa]
   ·rw [we h,we h,zsu hx hy wa]
theorem zsw {x y:D} (hx:WD x) (hy:WD y):blen (sumD x y).m.natAbs≤524289∧-131072≤(sumD x y).e∧(sumD x y).e≤1000000:=by
 have ex:=hx.e
 have ey:=hy.e
 have bx:=hx.2
 have b_y:=hy.2
 have key:∀ {x y:D},WD x→WD y→y.e≤x.e→blen (nrm (x.m*2 ^ (x.e-y.e).toNat+y.m) y.e).m.natAbs≤524289∧-131072≤(nrm (x.m*2 ^ (x.e-y.e).toNat+y.m) y.e).e∧(nrm (x.m*2 ^ (x.e-y.e).toNat+y.m) y.e).e≤1000000:=by
  intro x y hx hy hle
  have ex:=hx.e
  have ey:=hy.e
  have bx:=hx.2
  have b_y:=hy.2
  have b1:=zlB x.m (x.e-y.e).toNat
  have b3:=zoS (x.m*2 ^ (x.e-y.e).toNat) y.m
  have b4:=ziw (x.m*2 ^ (x.e-y.e).toNat+y.m) y.e
  refine ⟨wa,?_⟩
  by_cases h:x.m*2 ^ (x.e-y.e).toNat+y.m=0
  ·rw [h,zbn]; decide
  ·obtain ⟨t,o,-,-,h3,h4,-⟩:=zek h y.e
   rw [h3]; simp only; omega
 unfold sumD
 by_cases h1:x.m=0
 ·rw [wc h1]; omega
 ·rw [we h1]
  by_cases h2:y.m=0
  ·rw [wc h2]; omega
  ·rw [we h2]
   by_cases h:x.e<y.e
   ·rw [wc h]; exact key hy hx wa
   ·rw [we h]; exact key hx hy wa
theorem zyX {z:Int} (hz:SZ z.natAbs):zdC (iOf z) ⟨false,[]⟩=some (sgc z 0):=by
 have:(⟨false,[]⟩:za)=iOf 0:=by simp [iOf,qJ]
 rw [this,zsj hz (by simp [SZ,blen])]
theorem Ze {x y:D} (hx:WD x) (hy:WD y):ZA (dy x) (dy y)=some (zp x y):=by
 have ex:=hx.e
 have ey:=hy.e
 have bx:=hx.sz
 have b_y:=hy.sz
 unfold ZA zhi
 rw [ZX hx.1 hx.sz,ZX hy.1 hy.sz,zbo,zbo]
 simp only [obn]
 rw [we wb,we wb]
 have hN:∀ d:D,(dy d).M.Neg=decide (d.m<0):=fun _=>rfl
 have hM:∀ d:D,(dy d).M=iOf d.m:=fun _=>rfl
 have j2t:(x.m<0↔¬y.m<0)∨x.m=0∨y.m=0→zcp (dy x) (dy y) true=some (zp x y):=by
  intro h
  unfold zcp
  rw [wc rfl,hM,hM,zsj bx b_y]
  simp only [obn]
  congr 1
  have n1:=zel x
  have n2:=zel y
  have p1:=zge x
  have p2:=zge y
  have z1:=zem x
  have z2:=zem y
  rw [zbY]
  unfold sgc
  rcases (show x.m<0∨x.m=0∨0<x.m by omega) with h1 | h1 | h1<;>rcases (show y.m<0∨y.m=0∨0<y.m by omega) with h2 | h2 | h2
  ·omega
  ·have a1:=n1.2 h1; have a2:=z2.2 h2
   rw [wc wa,wc (by grind)]
  ·have a1:=n1.2 h1; have a2:=p2.2 h2
   rw [wc wa,wc (by grind)]
  ·have a1:=z1.2 h1; have a2:=n2.2 h2
   rw [we wa,wc wa,we (by grind),wc (by grind)]
  ·have a1:=z1.2 h1; have a2:=z2.2 h2
   rw [we wa,we wa,we (by grind),we (by grind)]
  ·have a1:=z1.2 h1; have a2:=p2.2 h2
   rw [wc wa,wc (by grind)]
  ·have a1:=p1.2 h1; have a2:=n2.2 h2
   rw [we wa,wc wa,we (by grind),wc (by grind)]
  ·have a1:=p1.2 h1; have a2:=z2.2 h2
   rw [we wa,wc wa,we (by grind),wc (by grind)]
  ·omega
 rw [hN,hN]
 by_cases hs:decide (x.m<0)=decide (y.m<0)
 ·rw [we (by simp [hs])]
  by_cases h1:x.m=0
  ·rw [wc (by simp [h1])]; exact j2t (Or.inr (Or.inl h1))
  ·rw [we (by simp [h1])]
   by_cases h2:y.m=0
   ·rw [show decide (y.m=0)=true by simp [h2]]; exact j2t (Or.inr (Or.inr h2))
   ·rw [show decide (y.m=0)=false by simp [h2]]
    have hs':x.m<0↔y.m<0:=decide_eq_decide.1 hs
    unfold zcp
    rw [we wb,zlA bx wa,zlA b_y wa]
    simp only [obn]
    by_cases hz:x.e+(blen x.m.natAbs:Nat)=y.e+(blen y.m.natAbs:Nat)
    ·rw [we (by simpa using hz),ziz hy]
     simp only [obn]
     show ((zdG (dy x) (dy (negD y))).bind _)=_
     rw [zsv hx hy.neg]
     simp only [obn]
     rw [hM,zyX (by have:=(zsw hx hy.neg).1; unfold SZ; omega)]
     rfl
    ·rw [wc hz,hN]
     rw [zbY]
     have nn:∀ d:D,d.m<0→0<(negD d).m:=fun d h=>by unfold negD; simp only; omega
     have na:∀ d:D,(negD d).m.natAbs=d.m.natAbs:=fun d=>by unfold negD; simp
     have ne:∀ d:D,(negD d).e=d.e:=fun d=>rfl
     rcases (show x.e+(blen x.m.natAbs:Nat)<y.e+(blen y.m.natAbs:Nat)∨y.e+(blen y.m.natAbs:Nat)<x.e+(blen x.m.natAbs:Nat) by omega) with hlt | hlt
     ·by_cases hneg:x.m<0
      ·have hv:=zcR (x:=negD x) (y:=negD y) (nn _ hneg) (nn _ (hs'.1 hneg)) (by rw [na,na,ne,ne]; exact hlt)
       rw [qK,qK] at hv
       rw [we (by simp [hlt,hneg]),we (by grind),wc (by grind)]
      ·have hv:=zcR (x:=x) (y:=y) wa wa hlt
       rw [wc (by simp [hlt,hneg]),wc hv]
     ·by_cases hneg:x.m<0
      ·have hv:=zcR (x:=negD y) (y:=negD x) (nn _ (hs'.1 hneg)) (nn _ hneg) (by rw [na,na,ne,ne]; exact hlt)
       rw [qK,qK] at hv
       rw [wc (by simp [hneg]; omega),wc (by grind)]
      ·have hv:=zcR (x:=y) (y:=x) wa wa hlt
       rw [we (by simp [hneg]; omega),we (by grind),wc hv]
 ·rw [wc (by simpa using hs)]
  exact j2t (Or.inl (by
   by_cases h1:x.m<0<;>by_cases h2:y.m<0<;>simp [h1,h2] at hs ⊢))
theorem zcS (b:Bool) (e f:Int) (x:Bool) (y:List Int) (z:Int):zaA b e f x y z=some (if b then (f == 0,f) else if f=0 then (e == 0,e) else (f == 0,f)):=by
 unfold zaA znD znC
 cases b<;>by_cases h:f=0<;>simp [h]
theorem zsx (l:List AD) (x:Bool) (y:List Int) (z f:Int) (i:Nat) (n:Nat) (hi:l.length≤i) (hl:l.length≤1000) (hi':i≤1000):zcq l x y z (n+1) (i:Int) f=some (f == 0,f):=by
 rw [zcq,we wa]
 rfl
theorem zoT (l:List AD) (x:Bool) (y:List Int) (z:Int) (i:Nat) (n:Nat) (hi:i<l.length) (hi':i≤1000) (hr:Zc (l.getD i zAD)=some true):zcq l x y z (n+1) (i:Int) 0=zcq l x y z n ((i+1:Nat):Int) 0:=by
 rw [zcq,wc wa,wc wa]
 simp only [Int.toNat_natCast]
 have:(⟨(l.getD i zAD).M,(l.getD i zAD).E⟩:AD)=l.getD i zAD:=rfl
 rw [this,hr]
 simp only [obn,zcS]
 rw [show ((i:Int)+1)=((i+1:Nat):Int) by omega,zW wa]
 rfl
theorem zai:∃ f,fuel=f+1+1+1:=⟨18446744073709551613,by unfold fuel; omega⟩
theorem zoU {a b:D} (ha:WD a) (hb:WD b) (x:Bool) (y:List Int) (z:Int):Q7 [dy a,dy b] 0 x y z=some (true,0):=by
 unfold Q7
 obtain ⟨f,hf⟩:=zai
 rw [hf]
 have h1:=zoT [dy a,dy b] x y z 0 (f+1+1) wb wa (ZX ha.1 ha.sz)
 have h2:=zoT [dy a,dy b] x y z 1 (f+1) wb wa (ZX hb.1 hb.sz)
 have h3:=zsx [dy a,dy b] x y z 0 2 f wb wb wa
 exact h1.trans (h2.trans h3)
theorem zlC {a:D} (ha:WD a) (x:Bool) (y:List Int) (z:Int):Q7 [dy a] 0 x y z=some (true,0):=by
 unfold Q7
 obtain ⟨f,hf⟩:=zai
 rw [hf]
 have h1:=zoT [dy a] x y z 0 (f+1+1) wb wa (ZX ha.1 ha.sz)
 have h3:=zsx [dy a] x y z 0 1 (f+1) wb wb wa
 exact h1.trans h3
theorem zsy {p:Int} (h:2≤p∧p≤400) (x:Bool) (y:List Int) (z:Int):ze9 p 0 x y z=some (true,0):=by
 unfold ze9
 rw [zgg,show decide (2≤p∧p≤400)=true by simp [h]]
 simp only [obn,zcS]
 rfl
def TD (d:D):Prop:=SZ d.m.natAbs∧-1152921504606846976≤d.e∧d.e≤1152921504606846976
theorem zen {d:D} (h:TD d):Qo 0 (dy d).M.Neg (dy d).M.Mag (dy d).E=some (dy (qr d).1,(qr d).2,(qr d).2):=by
 unfold Qo zj9
 rw [we (by decide)]
 show ((zbD (dy d)).bind _)=_
 rw [zoP h.1 h.2]
 simp only [obn,zcS]
 unfold qr
 cases inR d with
 | true=>rfl
 | false=>simp [qp]
theorem zsz {e:Int} (he:e≠0) (a:Bool) (b:List Int) (c:Int):Qo e a b c=some (dy zD,e,e):=by
 unfold Qo zj9
 rw [wc he]
 simp only [zcS,obn]
 have:(e == 0)=false:=by simpa using he
 simp [qp,this]
theorem zgh {d:D} (h:(d.m=0→d.e=0)∧(d.m≠0→d.m % 2=1)):WD (qr d).1:=by
 unfold qr
 by_cases hr:inR d=true
 ·rw [wc hr]
  simp only
  unfold inR at hr
  rcases Bool.or_eq_true_iff.1 hr with h1 | h1
  ·have h0:d.m=0:=by simpa using h1
   have h2:=h.1 h0
   exact ⟨Or.inl ⟨h0,h2⟩,by rw [h0]; simp [blen]⟩
  ·have h2:=of_decide_eq_true h1
   by_cases h0:d.m=0
   ·exact ⟨Or.inl ⟨h0,h.1 h0⟩,wa⟩
   ·exact ⟨Or.inr ⟨h.2 h0,wa,wa⟩,wa⟩
 ·rw [we hr]; exact qj
theorem zb0 (m e:Int):((nrm m e).m=0→(nrm m e).e=0)∧((nrm m e).m≠0→(nrm m e).m % 2=1):=by
 by_cases h:m=0
 ·subst h; rw [zbn]; simp [zD]
 ·have:=zyO h e
  exact ⟨fun h0=>wa,fun _=>this⟩
theorem zsA {x y:D} (hx:WD x) (hy:WD y):((sumD x y).m=0→(sumD x y).e=0)∧((sumD x y).m≠0→(sumD x y).m % 2=1):=by
 have key:∀ {d:D},WD d→(d.m=0→d.e=0)∧(d.m≠0→d.m % 2=1):=by
  intro d h
  rcases h.1 with h1 | h1
  ·exact ⟨fun _=>h1.2,fun h0=>absurd h1.1 h0⟩
  ·exact ⟨fun h0=>wa,fun _=>h1.1⟩
 unfold sumD
 split
 ·exact key hy
 ·split
  ·exact key hx
  ·split
   ·exact zb0 _ _
   ·exact zb0 _ _
def zH (x y:D):D × Int:=qr (sumD x y)
theorem zsB {x y:D} (hx:WD x) (hy:WD y):TD (sumD x y):=by
 obtain ⟨h1,h2,h3⟩:=zsw hx hy
 exact ⟨by unfold SZ; omega,wa,wa⟩
theorem zyY {x y:D} (hx:WD x) (hy:WD y):zhr (dy x) (dy y)=some (dy (zH x y).1,(zH x y).2):=by
 unfold zhr znK
 rw [zoU hx hy]
 simp only [obn]
 rw [wc True.intro,zsv hx hy]
 simp only [obn]
 rw [zen (zsB hx hy)]
 rfl
theorem zcT {x y:D} (hx:WD x) (hy:WD y):WD (zH x y).1:=zgh (zsA hx hy)
def timesD (x y:D):D × Int:=qr (mulD x y)
theorem zyZ (p q:Bool) (a b:Nat):sg (p != q) (a*b)=sg p a*sg q b:=by
 unfold sg
 cases p<;>cases q<;>simp [Int.neg_mul,Int.mul_neg]
theorem zsC (x y:Int):sg (decide (x<0) != decide (y<0)) (x.natAbs*y.natAbs)=x*y:=by
 rw [zyZ,QS,QS]
theorem zlD {x y:D} (hx:WD x) (hy:WD y):SZ (x.m.natAbs*y.m.natAbs):=by
 have:=zsh x.m.natAbs y.m.natAbs
 have:=hx.2
 have:=hy.2
 unfold SZ; omega
theorem zy0 {m:Int} {e:Int} (hs:SZ m.natAbs) (he : -2000000≤e∧e≤2000000) : -2000000≤(nrm m e).e∧(nrm m e).e≤4000000:=by
 by_cases h:m=0
 ·subst h; rw [zbn]; decide
 ·obtain ⟨t,o,-,-,h3,h4,-⟩:=zek h e
  unfold SZ at hs
  rw [h3]; simp only; omega
theorem ziA {m:Int} {e:Int} (hs:SZ m.natAbs) (he : -2000000≤e∧e≤2000000):TD (nrm m e):=by
 have h1:=zy0 hs he
 exact ⟨Nat.le_trans (ziw m e) hs,wa,wa⟩
theorem zy1 {x y:D} (hx:WD x) (hy:WD y):zhs (dy x) (dy y)=some (dy (timesD x y).1,(timesD x y).2):=by
 have lx:=zx hx.sz
 have ly:=zx hy.sz
 have ex:=hx.e
 have ey:=hy.e
 unfold zhs znP
 rw [zoU hx hy]
 simp only [obn]
 have e1:zdM (dy x).M.Mag (dy y).M.Mag=some (digs (x.m.natAbs*y.m.natAbs)):=by
  show zdM (digs x.m.natAbs) (digs y.m.natAbs)=_
  rw [zx1 (dgd _) (dgd _) wa wa,dvd,dvd]
 have e2:((dy x).M.Neg != (dy y).M.Neg)=(decide (x.m<0) != decide (y.m<0)):=rfl
 have e3:(dy x).E+(dy y).E=x.e+y.e:=rfl
 rw [wc True.intro,e1,e2,e3]
 simp only [obn]
 rw [w64 wa wa,zoL _ (zlD hx hy) wa,zsC]
 simp only [obn]
 have:TD (nrm (x.m*y.m) (x.e+y.e)):=ziA (by rw [Int.natAbs_mul]; exact zlD hx hy) wa
 rw [zen this]
 rfl
theorem zsD {x y:D} : WD (timesD x y).1:=zgh (zb0 _ _)
def qz (x:D) (n:Int):D × Int:=if x.m=0 then (zD,0) else qr ⟨x.m,x.e+n⟩
theorem zsE:qr zD=(zD,0):=rfl
theorem zoV {x:D} (hx:WD x) {n:Int} (hn : -100000≤n∧n≤100000):zcw (dy x) n=some (dy (qz x n).1,(qz x n).2):=by
 have ex:=hx.e
 unfold zcw zhv zkh
 rw [zlC hx]
 simp only [obn,zgg,zcS,zbo]
 rw [wc True.intro,show decide (-100000≤n∧n≤100000)=true by simp [hn]]
 simp only [if_true]
 rw [wc (by decide)]
 unfold qz
 by_cases h:x.m=0
 ·rw [wc h,we (by simp [h])]
  have:=zen (d:=zD) (by simp [TD,SZ,zD,blen])
  rw [qp] at this
  rw [this,zsE]
  rfl
 ·rw [we h,wc (by simp [h])]
  have:=zen (d:=⟨x.m,x.e+n⟩) ⟨hx.sz,by simp only; omega,by simp only; omega⟩
  have hE:(dy x).E=x.e:=rfl
  rw [hE,w64 wa wa]
  have e1:Qo 0 (dy x).M.Neg (dy x).M.Mag (x.e+n)=Qo 0 (dy ⟨x.m,x.e+n⟩).M.Neg (dy ⟨x.m,x.e+n⟩).M.Mag (dy ⟨x.m,x.e+n⟩).E:=rfl
  rw [e1,this]
  rfl
theorem zsF {x:D} (hx:WD x) (n:Int):WD (qz x n).1:=by
 unfold qz
 split
 ·exact qj
 ·rename_i h
  refine zgh ⟨fun h0=>absurd h0 h,fun _=>?_⟩
  rcases hx.1 with h1 | h1
  ·exact absurd h1.1 h
  ·exact h1.1
def fromD (n:Int):D:=nrm n 0
theorem zoW {n:Int} (h : -9223372036854775808≤n∧n≤9223372036854775807):ze8 n=some (dy (fromD n)):=by
 have hsz:SZ n.natAbs:=by
  have:blen n.natAbs≤64:=zaQ wa
  unfold SZ; omega
 unfold ze8
 rw [zsk h]
 simp only [obn]
 rw [zoQ hsz wa]
 rfl
theorem zb1 {n:Int} (h : -9223372036854775808≤n∧n≤9223372036854775807):WD (fromD n):=by
 have hb:blen n.natAbs≤64:=zaQ wa
 unfold fromD
 have h1:=ziw n 0
 have h2:=zb0 n 0
 refine ⟨?_,wa⟩
 by_cases h:n=0
 ·subst h; rw [zbn]; exact zsq
 ·obtain ⟨t,o,-,g2,g3,g4,-⟩:=zek h 0
  right
  rw [g3]; simp only
  omega
def zcU (m e:Int):D × Bool:=if inR (nrm m e) then (nrm m e,true) else (zD,false)
theorem zy2 {m:Int} (hm:SZ m.natAbs) {e:Int} (he : -100000≤e∧e≤100000):zhk (iOf m) e=some (dy (zcU m e).1,(zcU m e).2):=by
 unfold zhk
 rw [zgg,show decide (-100000≤e∧e≤100000)=true by simp [he]]
 simp only [obn]
 rw [we wb,zoQ hm wa]
 simp only [obn]
 show ((zbD (dy (nrm m e))).bind _)=_
 have ht:=ziA hm (e:=e) wa
 rw [zoP ht.1 ht.2]
 simp only [obn]
 unfold zcU
 cases inR (nrm m e) with
 | true=>rfl
 | false=>simp [qp]
theorem zsG {e:Int} (he : -60000≤e∧e≤60000):zcU 1 e=(⟨1,e⟩,true):=by
 have h1:nrm 1 e=⟨1,e⟩:=zix (d:=⟨1,e⟩) (Or.inr ⟨rfl,by simp only; omega,by simp only; omega⟩)
 unfold zcU
 rw [h1]
 have:inR ⟨1,e⟩=true:=by
  unfold inR
  have:blen (1:Int).natAbs=1:=by decide
  simp only [this]
  simp; omega
 rw [wc this]
theorem zgi {e:Int} (he : -60000≤e∧e≤60000):Q6 e=some (dy ⟨1,e⟩):=by
 unfold Q6
 rw [zsk wa]
 simp only [obn]
 rw [zy2 (by unfold SZ; decide) wa,zsG he]
 rfl
def nsq (a:Nat):Nat→Nat→Nat
 | 0,s=>s
 | f+1,s=>if (s+a / s) / 2<s then nsq a f ((s+a / s) / 2) else s
def zoX (a:Nat):Nat:=nsq a (blen a+1) (2 ^ ((blen a+1) / 2))
def cutN (m:Nat) (st:Bool) (p:Nat) (away:Bool):Nat:=m / 2 ^ (blen m-p)+(if (st || m % 2 ^ (blen m-p) != 0) && away then 1 else 0)
def Zt (neg:Bool) (m:Nat) (e:Int) (st:Bool) (p:Nat) (away:Bool):D:=nrm (sg neg (cutN m st p away)) (e+(blen m-p:Nat))
theorem zy3 (x k:Nat):(x % 2 ^ (k+1) != 0)=(x.testBit 0 || x / 2 % 2 ^ k != 0):=by
 rw [Nat.pow_succ,Nat.mul_comm,Nat.mod_mul]
 rw [Nat.testBit_zero]
 generalize x / 2 % 2 ^ k=y
 by_cases h:x % 2=1
 ·have e1:(x % 2+2*y != 0)=true:=by rw [bne_iff_ne]; omega
  simp [h]
 ·have h0:x % 2=0:=wa
  by_cases hy:y=0
  ·simp [h0,hy]
  ·have e1:(0+2*y != 0)=true:=by rw [bne_iff_ne]; omega
   have e2:(y != 0)=true:=by rw [bne_iff_ne]; exact hy
   rw [h0,e1,e2]; simp
theorem zsH (neg away st:Bool) {q:Nat} (hq:blen q≤1048000) {e:Int} (he : -2000000≤e∧e≤2000000) :
  zfa neg away (digs q) e st=some ((dy (nrm (sg neg (q+if st && away then 1 else 0)) e)).M.Neg,(dy (nrm (sg neg (q+if st && away then 1 else 0)) e)).M.Mag,(dy (nrm (sg neg (q+if st && away then 1 else 0)) e)).E):=by
 have hs:SZ q:=by unfold SZ; omega
 have hl:=zx hs
 have key:∀ n:Nat,SZ n→zka neg e (digs n)=some ((dy (nrm (sg neg n) e)).M.Neg,(dy (nrm (sg neg n) e)).M.Mag,(dy (nrm (sg neg n) e)).E):=by
  intro n hn
  unfold zka
  rw [zoL neg hn wa]
  rfl
 have h1:SZ (q+1):=by
  have:=zej q 1
  have h1:blen 1=1:=by decide
  unfold SZ; omega
 have f1:za5 1=some (digs 1):=zil wa wa
 have a1:zcm (digs q) (digs 1)=some (digs (q+1)):=by
  rw [zoz (dgd _) (dgd _) wa (Nat.le_trans (QQ (k:=1) (by decide)) wa),dvd,dvd]
 unfold zfa znL
 cases st<;>cases away<;>simp only [if_true,if_false,Bool.false_eq_true,Bool.and_true,Bool.and_false,Nat.add_zero,f1,a1,obn]
 ·exact key q hs
 ·exact key q hs
 ·exact key q hs
 ·exact key (q+1) h1
theorem zy4 {m p:Nat} (hm:blen m≤1048000) (hp:p<blen m) {e:Int} (he : -900000≤e∧e≤900000) (neg away:Bool) :
  ∀ (r i:Nat) (st:Bool),i+r=blen m-p→∀ f,r<f→zdK ((blen m:Nat):Int) (p:Int) (digs m) neg away e f st (i:Int)=zfa neg away (digs (m / 2 ^ (blen m-p))) (e+(blen m-p:Nat)) (st || m / 2 ^ i % 2 ^ r != 0):=by
 have hl:=zx (n:=m) (by unfold SZ; omega)
 have hw:i64.wrap (((blen m:Nat):Int)-(p:Int))=((blen m-p:Nat):Int):=by rw [w64]<;>omega
 have hj4:∀ st,znM (digs m) ((blen m:Nat):Int) (p:Int) neg away e st=zfa neg away (digs (m / 2 ^ (blen m-p))) (e+(blen m-p:Nat)) st:=by
  intro st
  unfold znM
  rw [hw,zlt (dgd _) wa wa,dvd]
  simp only [obn]
  rw [w64 wa wa]
 intro r
 induction r with
 | zero=>
  intro i st hi f hf
  obtain ⟨f,rfl⟩:∃ k,f=k+1:=⟨f-1,wa⟩
  rw [zdK,hw,we wa]
  unfold zkb
  rw [we wb,hj4]
  congr 1
  simp [Nat.mod_one]
 | succ r ih=>
  intro i st hi f hf
  obtain ⟨f,rfl⟩:∃ k,f=k+1:=⟨f-1,wa⟩
  rw [zdK,hw,wc wa]
  unfold zkb
  cases st with
  | true=>rw [we wb,hj4]; simp
  | false=>
   rw [wc wb,zoD (dgd _) wa,dvd]
   simp only [obn]
   rw [show ((i:Int)+1)=((i+1:Nat):Int) by omega,zW wa,ih (i+1) _ wa f wa,zy3,Bool.false_or]
   congr 1
   rw [Nat.testBit_div_two_pow,Nat.zero_add,Nat.div_div_eq_div_mul,← Nat.pow_succ]
theorem zsI (neg:Bool) {m p:Nat} (hm:blen m≤1048000) {e:Int} (he : -900000≤e∧e≤900000) (st away:Bool) (hp:p≤1000) (f:Int) (a:Bool) (b:List Int) (c:Int) :
  zcs neg (digs m) e st (p:Int) away f a b c=some ((dy (Zt neg m e st p away)).M.Neg,(dy (Zt neg m e st p away)).M.Mag,(dy (Zt neg m e st p away)).E):=by
 have hl:=zx (n:=m) (by unfold SZ; omega)
 unfold zcs
 rw [zip (dgd _) wa,dvd]
 simp only [obn]
 have hw:i64.wrap (((blen m:Nat):Int)-(p:Int))=((blen m:Nat):Int)-(p:Int):=by rw [w64]<;>omega
 rw [hw]
 unfold Zt cutN
 by_cases h:p<blen m
 ·rw [wc wa]
  have:=zy4 hm h he neg away (blen m-p) 0 st wa fuel (by unfold fuel; omega)
  rw [Nat.pow_zero,Nat.div_one] at this
  refine this.trans ?_
  exact zsH neg away _ (by have:=zaf (Nat.div_le_self m (2 ^ (blen m-p))); omega) wa
 ·rw [we wa]
  have h0:blen m-p=0:=wa
  rw [h0,Nat.pow_zero,Nat.div_one,Nat.mod_one,zsH neg away st hm wa]
  simp
def zn (x:D) (p:Nat) (up:Bool):D × Int:=qr (Zt (decide (x.m<0)) x.m.natAbs x.e false p (up != decide (x.m<0)))
theorem zy5 {m:Nat} (st:Bool) (p:Nat) (away:Bool):blen (cutN m st p away)≤blen m+1:=by
 unfold cutN
 have h1:=zaf (Nat.div_le_self m (2 ^ (blen m-p)))
 split
 ·have h2:=zej (m / 2 ^ (blen m-p)) 1
  have h3:blen 1=1:=by decide
  by_cases h0:blen m=0
  ·have h4:=Zk m
   rw [h0] at h4
   have h5:m=0:=wa
   subst h5
   rw [Nat.zero_div]
   decide
  ·omega
 ·rw [Nat.add_zero]; omega
theorem zlE (neg:Bool) {m p:Nat} (hm:blen m≤1048000) {e:Int} (he : -900000≤e∧e≤900000) (st away:Bool):TD (Zt neg m e st p away):=by
 have:=zy5 (m:=m) st p away
 refine ziA ?_ wa
 rw [zbm]; unfold SZ; omega
theorem zsJ {x:D} (hx:WD x) {p:Nat} (hp:2≤p∧p≤400) (up:Bool):zfb (dy x) (p:Int) up=some (dy (zn x p up).1,(zn x p up).2):=by
 have ex:=hx.e
 have bx:=hx.2
 unfold zfb znO znN
 rw [zlC hx]
 simp only [obn,if_true,zsy (p:=(p:Int)) wa]
 have e1:=zsI (decide (x.m<0)) (m:=x.m.natAbs) wa (e:=x.e) wa false (up != decide (x.m<0)) (p:=p) wa 0 false [] 0
 have e2:zcs (dy x).M.Neg (dy x).M.Mag (dy x).E false (p:Int) (up != (dy x).M.Neg) 0 false [] 0=zcs (decide (x.m<0)) (digs x.m.natAbs) x.e false (p:Int) (up != decide (x.m<0)) 0 false [] 0:=rfl
 rw [e2,e1]
 simp only [obn]
 rw [zen (zlE _ wa wa _ _)]
 rfl
theorem zsK {x:D} {p:Nat} {up:Bool} : WD (zn x p up).1:=zgh (zb0 _ _)
def divD (x y:D) (p:Nat) (up:Bool):D × Int:=
 if y.m=0 then (zD,3) else if x.m=0 then (zD,0) else
  qr (Zt (decide (x.m<0) != decide (y.m<0)) (x.m.natAbs*2 ^ (p+2+blen y.m.natAbs-blen x.m.natAbs) / y.m.natAbs) (x.e-y.e-(p+2+blen y.m.natAbs-blen x.m.natAbs:Nat))
   (x.m.natAbs*2 ^ (p+2+blen y.m.natAbs-blen x.m.natAbs) % y.m.natAbs != 0) p (up != (decide (x.m<0) != decide (y.m<0))))
theorem zoY (n:Nat):decide (((digs n).length:Int)>0)=(n != 0):=by
 by_cases h:n=0
 ·subst h; rw [qJ]; rfl
 ·have:=zaP h
  have e2:(n != 0)=true:=by rw [bne_iff_ne]; exact h
  rw [e2]; exact decide_eq_true wa
theorem zy6:Qo 0 false [] 0=some (dy zD,0,0):=by
 have:=zen (d:=zD) (by simp [TD,SZ,zD,blen])
 rw [qp] at this
 rw [this,zsE,qp]
theorem zsL (a b:Nat):mx 0 ((a:Int)-(b:Int))=((a-b:Nat):Int):=by
 unfold mx; split<;>omega
theorem zy7 {x y:D} (hx:WD x) (hy:WD y) {p:Nat} (hp:2≤p∧p≤400) (up:Bool):zhF (dy x) (dy y) (p:Int) up=some (dy (divD x y p up).1,(divD x y p up).2):=by
 have ex:=hx.e
 have ey:=hy.e
 have bx:=hx.2
 have b_y:=hy.2
 have lx:=zx hx.sz
 have ly:=zx hy.sz
 unfold zhF zhE znX
 rw [zoU hx hy,zbo,zbo]
 simp only [obn,zcS,if_true,zsy (p:=(p:Int)) wa]
 unfold divD
 by_cases h2:y.m=0
 ·rw [wc h2]
  simp only [h2,decide_true,Bool.not_true,Bool.false_eq_true,if_false]
  rw [we (by decide),zsz (by decide)]
  rfl
 ·rw [we h2]
  simp only [h2,decide_false,Bool.not_false,if_true]
  rw [wc (by decide)]
  by_cases h1:x.m=0
  ·rw [wc h1]
   simp only [h1,decide_true,Bool.not_true,Bool.false_eq_true,if_false]
   rw [zy6]
   rfl
  ·rw [we h1]
   simp only [h1,decide_false,Bool.not_false,if_true]
   have bM:∀ d:D,SZ d.m.natAbs→ZR (dy d).M.Mag=some ((blen d.m.natAbs:Nat):Int):=by
    intro d hd
    have:=zx hd
    show ZR (digs d.m.natAbs)=_
    rw [zip (dgd _) wa,dvd]
   rw [bM y hy.sz,bM x hx.sz]
   simp only [obn]
   have hk:mx 0 (i64.wrap (i64.wrap (i64.wrap ((p:Int)+2)+((blen y.m.natAbs:Nat):Int))-((blen x.m.natAbs:Nat):Int)))=((p+2+blen y.m.natAbs-blen x.m.natAbs:Nat):Int):=by
    rw [w64 (x:=(p:Int)+2) wa wa,w64 (x:=(p:Int)+2+((blen y.m.natAbs:Nat):Int)) wa wa,w64 wa wa]
    rw [show (p:Int)+2+((blen y.m.natAbs:Nat):Int)=((p+2+blen y.m.natAbs:Nat):Int) by omega,zsL]
   rw [hk]
   have h0:x.m.natAbs≠0:=wa
   have hbk:=zcO h0 (p+2+blen y.m.natAbs-blen x.m.natAbs)
   generalize hkk:p+2+blen y.m.natAbs-blen x.m.natAbs=k at *
   have hup:za0 (dy x).M.Mag (k:Int)=some (digs (x.m.natAbs*2 ^ k)):=by
    show za0 (digs x.m.natAbs) (k:Int)=_
    exact zoM wa
   rw [hup]
   simp only [obn]
   have hl2:=zx (n:=x.m.natAbs*2 ^ k) (by unfold SZ; omega)
   have hdm:zdU (digs (x.m.natAbs*2 ^ k)) (dy y).M.Mag=some (digs (x.m.natAbs*2 ^ k / y.m.natAbs),digs (x.m.natAbs*2 ^ k % y.m.natAbs),true):=by
    show zdU _ (digs y.m.natAbs)=_
    rw [zyA (dgd _) (dgd _) wa wa,dvd,dvd,we wa]
   rw [hdm]
   simp only [obn]
   rw [zoY]
   have hE:∀ d:D,(dy d).E=d.e:=fun _=>rfl
   have hN:∀ d:D,(dy d).M.Neg=decide (d.m<0):=fun _=>rfl
   rw [hE,hE,hN,hN,w64 (x:=x.e-y.e) wa wa,w64 wa wa]
   have hq:blen (x.m.natAbs*2 ^ k / y.m.natAbs)≤1048000:=by
    have:=zaf (Nat.div_le_self (x.m.natAbs*2 ^ k) y.m.natAbs)
    omega
   rw [zsI _ hq wa _ _ wa]
   simp only [obn]
   rw [zen (zlE _ hq wa _ _)]
   rfl
theorem zaT {x y:D} {p:Nat} {up:Bool} : WD (divD x y p up).1:=by
 unfold divD
 split
 ·exact qj
 ·split
  ·exact qj
  ·exact zgh (zb0 _ _)
def rootK (x:D) (p:Nat):Nat:=(2*p+4-blen x.m.natAbs)+((x.e-(2*p+4-blen x.m.natAbs:Nat)) % 2).toNat
def zsM (x:D) (p:Nat) (up:Bool):D × Int:=
 if x.m<0 then (zD,3) else if x.m=0 then (zD,0) else
  qr (Zt false (zoX (x.m.natAbs*2 ^ rootK x p)) ((x.e-(rootK x p:Nat)) / 2) (x.m.natAbs*2 ^ rootK x p-zoX (x.m.natAbs*2 ^ rootK x p)*zoX (x.m.natAbs*2 ^ rootK x p) != 0) p up)
theorem zy8 {a:List Int} (ha:Dig a) (hl:a.length≤274877906944):∀ (m:Nat),m≤a.length→dval (a.take m)=dval a→∀ f,m<f→zbA a f (m:Int)=some (digs (dval a)):=by
 intro m
 induction m with
 | zero=>
  intro hm hv f hf
  obtain ⟨f,rfl⟩:∃ k,f=k+1:=⟨f-1,wa⟩
  rw [zbA,we wa]
  unfold zeR zhb
  rw [we wb,wc wa]
  have h0:a.take ((0:Nat):Int).toNat=[]:=wb
  rw [h0,wc wb]
  rw [List.take_zero] at hv
  rw [← hv]
  simp [dval,qJ]
 | succ m ih=>
  intro hm hv f hf
  obtain ⟨f,rfl⟩:∃ k,f=k+1:=⟨f-1,wa⟩
  have hw:i64.wrap (((m+1:Nat):Int)-1)=(m:Int):=by rw [w64]<;>omega
  rw [zbA,wc wa,hw,wc wa,kz]
  unfold zeR zhb
  rw [hw]
  simp only [Int.toNat_natCast]
  by_cases h0:a.getD m 0=0
  ·rw [wc (by rw [h0]; rfl)]
   refine ih wa ?_ f wa
   rw [zcK,h0] at hv
   simpa using hv
  ·rw [we (by simpa using h0),wc wa]
   have hlen:(a.take (m+1)).length=m+1:=by rw [List.length_take]; omega
   rw [wc wa]
   have hlast:(a.take (m+1)).getLastD 1≠0:=by
    rw [zsl wa,hlen,Nat.add_sub_cancel]
    rw [List.getD_eq_getElem?_getD,List.getElem?_take,wc wa,← List.getD_eq_getElem?_getD]
    exact h0
   rw [← hv,zik (zbi ha _) hlast]
theorem QU {a:List Int} (ha:Dig a) (hl:a.length≤274877906944):Zj a=some (digs (dval a)):=by
 unfold Zj
 exact zy8 ha hl a.length (Nat.le_refl _) (by rw [List.take_length]) fuel (by unfold fuel; omega)
theorem zy9 {n:Nat} (h:SZ n):Zj (digs n)=some (digs n):=by
 have:=zx h
 rw [QU (dgd n) wa,dvd]
theorem zza {neg:Bool} {mag:List Int} (hd:Dig mag) (hl:mag.length≤274877906944):qE neg mag=some (iOf (sg neg (dval mag))):=by
 unfold qE znp
 rw [QU hd hl]
 simp only [obn]
 rw [zlx]
 cases neg with
 | false=>simp [sg]
 | true=>
  rw [wc rfl]
  congr 2
  rw [zoY]
  unfold sg
  rw [wc rfl]
  by_cases h:dval mag=0
  ·simp [h]
  ·have e2:(dval mag != 0)=true:=by rw [bne_iff_ne]; exact h
   rw [e2]; symm; exact decide_eq_true wa
theorem Qt (neg:Bool) {n:Nat} (h:SZ n):qE neg (digs n)=some (iOf (sg neg n)):=by
 have:=zx h
 rw [zza (dgd n) wa,dvd]
theorem ziB {z:Int} (h:SZ z.natAbs):qE (iOf z).Neg (iOf z).Mag=some (iOf z):=by
 show qE (decide (z<0)) (digs z.natAbs)=_
 rw [Qt _ h,QS]
theorem zzb (y:Nat):zaw .u32 (y:Int) 1=((y % 2:Nat):Int):=by
 rw [zlj]
 congr 1
 rw [BitVec.toNat_and,BitVec.toNat_ofInt]
 have:(BitVec.ofInt 32 1).toNat=1:=by decide
 rw [this,Nat.and_one_is_mod]
 have h2:((2 ^ 32:Nat):Int)=4294967296:=by decide
 rw [h2]; omega
theorem zsN (x:Nat) {k:Nat} (hk:k≤32):shrI .u32 (x:Int) (k:Int)=((x / 2 ^ k:Nat):Int):=by
 rw [zoC wa hk]; simp
theorem zsO {a:List Int} (ha:Dig a) {i:Nat} (hi:i≤1099511627776):zhc a (i:Int)=some ((dval a).testBit i):=by
 unfold zhc znq
 rw [we wa,zbl,ziq,zW (n:=i / 32) wa,zln a ha i]
 by_cases h:i / 32<a.length
 ·rw [we (by simp; omega),wc wa,wc wa,kz]
  simp only [Int.toNat_natCast]
  obtain ⟨d,hd,hd'⟩:=zL ha (i / 32)
  rw [hd,zsN d wa,zzb,Int.toNat_natCast]
  congr 1
  rw [Nat.testBit_eq_decide_div_mod_eq]
  generalize d / 2 ^ (i % 32) % 2=x
  by_cases hx:x=1
  ·subst hx; rfl
  ·simp [hx]; omega
 ·rw [wc (by simp; omega)]
  simp [List.getD,List.getElem?_eq_none (show a.length≤i / 32 by omega)]
theorem zbp {a:List Int} (ha:Dig a) {i:Nat} : ZQ a (i:Int)=some (a.getD i 0):=by
 unfold ZQ
 by_cases h:i<a.length
 ·obtain ⟨d,hd,hd'⟩:=zL ha i
  rw [we wa,wc wa,kz,Int.toNat_natCast,hd,zG wa]
 ·rw [wc wa]
  simp [List.getD,List.getElem?_eq_none (show a.length≤i by omega)]
theorem zoZ {p:List Int} {i v r t:Nat} (hl:p.length=i) (h:dval p+4294967296 ^ i*(v+4294967296*r)=t):dval (p++[(v:Int)])+4294967296 ^ (i+1)*r=t:=by
 rw [zbU,hl]
 have:dval [(v:Int)]=v:=by simp [dval]
 rw [this,← h,Nat.mul_add,Nat.pow_succ,Nat.mul_assoc,Nat.add_assoc]
theorem ziC {p:List Int} (hp:Dig p) {v:Nat} (hv:v<4294967296):Dig (p++[(v:Int)]):=zoG hp fun d hd=>by
 have:d=(v:Int):=by simpa using hd
 subst this; exact digC hv
theorem zzc {a:List Int} (ha:Dig a) (hl:a.length≤1073741824) {n s t:Nat} (hs:n % 32=s) (hn:n≤1099511627776) :
  ∀ (r i:Nat) (p:List Int),n / 32+i+r=a.length→p.length=i→Dig p→dval p+4294967296 ^ i*(dval (a.drop (n / 32+i)) / 2 ^ s)=t→
   ∀ f,r<f→zdy a (n:Int) f ((n / 32+i:Nat):Int) p=some (digs t):=by
 intro r
 induction r with
 | zero=>
  intro i p hi hp hd hv f hf
  obtain ⟨f,rfl⟩:∃ k,f=k+1:=⟨f-1,wa⟩
  rw [zdy,we wa]
  unfold zjY
  rw [QU hd wa]
  rw [List.drop_eq_nil_of_le wa] at hv
  simp [dval] at hv
  rw [hv]; rfl
 | succ r ih=>
  intro i p hi hp hd hv f hf
  obtain ⟨f,rfl⟩:∃ k,f=k+1:=⟨f-1,wa⟩
  obtain ⟨d,hd0,hd'⟩:=zL ha (n / 32+i)
  obtain ⟨c,hc,hc'⟩:=zL ha (n / 32+i+1)
  have hw:i64.wrap (((n / 32+i:Nat):Int)+1)=((n / 32+i+1:Nat):Int):=by rw [w64]<;>omega
  have hx:dval (a.drop (n / 32+i))=d+4294967296*dval (a.drop (n / 32+i+1)):=by rw [zV a,hd0,Int.toNat_natCast]
  have hy:dval (a.drop (n / 32+i+1))=c+4294967296*dval (a.drop (n / 32+i+1+1)):=by rw [zV a (n / 32+i+1),hc,Int.toNat_natCast]
  have key:=zr5 (s:=s) wa hx hd' hy
  rw [zdy,wc wa,hw,zbp ha,zbp ha]
  simp only [obn]
  rw [ziq,hs,hd0,hc,wc wa,zcL hc',zbk wa wa,zlr hd',zoE _ wa,ZW]
  rw [wc (by simp only [List.length_cons,List.length_nil]; omega)]
  refine ih (i+1) _ wa (by rw [List.length_append]; simp; exact hp) (ziC hd (Nat.mod_lt _ (by decide))) ?_ f wa
  rw [key] at hv
  exact zoZ hp hv
theorem zlF {a:List Int} (ha:Dig a) (hl:a.length≤1073741824) {n:Nat} (hn:n≤1099511627776):zck a (n:Int)=some (digs (dval a / 2 ^ n)):=by
 unfold zck
 have hdl:=qF ha
 rw [we wa,zbl,zW (n:=n / 32) wa]
 by_cases h:n / 32<a.length
 ·rw [we wa]
  have h0:=zzc (t:=dval a / 2 ^ n) ha hl (n:=n) rfl hn (a.length-n / 32) 0 [] wa rfl (by intro d hd; cases hd) (by
   rw [Nat.add_zero,← zin ha _ wa,zls]; simp [dval]) fuel (by unfold fuel; omega)
  rw [Nat.add_zero] at h0
  exact h0
 ·rw [wc wa]
  have:dval a / 2 ^ n=0:=by
   rw [← zls]
   have:dval a / 4294967296 ^ (n / 32)=0:=Nat.div_eq_of_lt (Nat.lt_of_lt_of_le hdl (Nat.pow_le_pow_right (by decide) wa))
   rw [this,Nat.zero_div]
  rw [this,qJ]
theorem zzd {n:Nat} (h:n≠0):blen n=blen (n / 2)+1:=by
 by_cases h1:n / 2=0
 ·have:n=1:=wa
  subst this; decide
 ·have:=zim (n:=n) (k:=1) (by simpa using h1)
  simpa using this
theorem zze:∀ (k d n:Nat),blen d=k→k≤100→n+k≤1099511627776→∀ f,k<f→zfz f (n:Int) (d:Int)=some ((n+k:Nat):Int):=by
 intro k
 induction k with
 | zero=>
  intro d n hd _ hn f hf
  obtain ⟨f,rfl⟩:∃ k,f=k+1:=⟨f-1,wa⟩
  have:d=0:=by
   rcases Nat.eq_zero_or_pos d with h | h
   ·exact h
   ·have:=zbW (n:=d) wa; omega
  subst this
  rw [zfz,we wa]; rfl
 | succ k ih=>
  intro d n hd hk hn f hf
  obtain ⟨f,rfl⟩:∃ k,f=k+1:=⟨f-1,wa⟩
  have h0:d≠0:=by intro h; subst h; rw [zag] at hd; omega
  have h1:=zzd h0
  have hs:shrI .u32 (d:Int) 1=((d / 2:Nat):Int):=by
   have:=zsN d (k:=1) wa
   simpa using this
  rw [zfz,wc wa,hs,show (n:Int)+1=((n+1:Nat):Int) by omega,zW wa]
  have h2:=ih (d / 2) (n+1) wa wa
  refine (h2 wa f wa).trans ?_
  congr 2; omega
theorem zgj {a:List Int} (ha:Dig a) (hl:a.length≤1073741824):ZU a=some ((blen (dval a):Nat):Int):=by
 unfold ZU
 have h1:=Qs ha
 rw [QU ha wa]
 simp only [obn]
 generalize dval a=n at *
 by_cases h0:n=0
 ·subst h0
  rw [qJ]
  simp [blen]
 ·have hp:=zaP h0
  obtain ⟨t,ht,ht',t0,hbt,hbl⟩:=zis h0
  have hw:i64.wrap (((digs n).length:Int)-1)=(((digs n).length-1:Nat):Int):=by rw [w64]<;>omega
  have hw2:i64.wrap (32*(((digs n).length-1:Nat):Int))=((32*((digs n).length-1):Nat):Int):=by rw [w64]<;>omega
  rw [we wa,hw,hw2,wc wa,kz,Int.toNat_natCast,ht]
  rw [zze (blen t) t (32*((digs n).length-1)) rfl wa wa fuel (by unfold fuel; omega),hbl]
  congr 2; omega
theorem zo0 {a b:List Int} (ha:Dig a) {i:Nat} (h:dval (a.drop i)<dval (b.drop i)):dval a<dval b:=by
 have h1:=zcJ a i
 have h2:=zcJ b i
 have h3:=qF (zbi ha i)
 rcases Nat.lt_or_ge b.length i with hb | hb
 ·rw [List.drop_eq_nil_of_le (show b.length≤i by omega)] at h; simp [dval] at h
 ·have eb:(b.take i).length=i:=by rw [List.length_take]; omega
  rw [eb] at h2
  have ea:(a.take i).length≤i:=by rw [List.length_take]; omega
  have h4:4294967296 ^ (a.take i).length≤4294967296 ^ i:=Nat.pow_le_pow_right (by decide) ea
  rcases Nat.lt_or_ge a.length i with hA | hA
  ·rw [List.drop_eq_nil_of_le (show a.length≤i by omega)] at h1 h
   have h5:4294967296 ^ i*1≤4294967296 ^ i*dval (b.drop i):=Nat.mul_le_mul_left _ (by simp [dval] at h; omega)
   simp only [dval,Nat.mul_zero,Nat.add_zero] at h1
   omega
  ·have ea':(a.take i).length=i:=by rw [List.length_take]; omega
   rw [ea'] at h1 h3
   have h5:4294967296 ^ i*(dval (a.drop i)+1)≤4294967296 ^ i*dval (b.drop i):=Nat.mul_le_mul_left _ h
   rw [Nat.mul_add,Nat.mul_one] at h5
   omega
theorem zzf {a b:List Int} (ha:Dig a) (hb:Dig b):∀ (k:Nat),k≤1099511627776→dval (a.drop k)=dval (b.drop k)→∀ f,k<f→zfx a b f ((k:Int)-1)=some (if dval a<dval b then -1 else if dval b<dval a then 1 else 0):=by
 intro k
 induction k with
 | zero=>
  intro _ hv f hf
  obtain ⟨f,rfl⟩:∃ k,f=k+1:=⟨f-1,wa⟩
  rw [List.drop_zero,List.drop_zero] at hv
  rw [zfx,we wa,we wa,we wa]; rfl
 | succ k ih=>
  intro hk hv f hf
  obtain ⟨f,rfl⟩:∃ k,f=k+1:=⟨f-1,wa⟩
  obtain ⟨x,hx,hx'⟩:=zL ha k
  obtain ⟨y,hy,hy'⟩:=zL hb k
  have ea:dval (a.drop k)=x+4294967296*dval (a.drop (k+1)):=by rw [zV a k,hx,Int.toNat_natCast]
  have eb:dval (b.drop k)=y+4294967296*dval (b.drop (k+1)):=by rw [zV b k,hy,Int.toNat_natCast]
  have hk':((k+1:Nat):Int)-1=(k:Int):=wa
  rw [zfx,hk',wc wa,zbp ha,zbp hb]
  simp only [obn]
  rw [hx,hy]
  by_cases h1:x<y
  ·have:=zo0 (a:=a) (b:=b) ha (i:=k) wa
   rw [wc wa,wc this]
  ·rw [we wa]
   by_cases h2:y<x
   ·have:=zo0 (a:=b) (b:=a) hb (i:=k) wa
    rw [wc wa,we wa,wc this]
   ·rw [we wa,w64 wa wa]
    exact ih wa wa f wa
theorem zgk {a b:List Int} (ha:Dig a) (hb:Dig b) (hl:a.length≤1073741824) (hl':b.length≤1073741824):zba a b=some (if dval a<dval b then -1 else if dval b<dval a then 1 else 0):=by
 unfold zba
 have hm:mx (a.length:Int) (b.length:Int)=((max a.length b.length:Nat):Int):=by unfold mx; split<;>omega
 rw [hm,w64 wa wa]
 exact zzf ha hb _ wa (by rw [List.drop_eq_nil_of_le wa,List.drop_eq_nil_of_le wa]) fuel (by unfold fuel; omega)
theorem zzg {D Q W V S d c v:Nat} (h:D+Q*W*c=Q*(V*S)) (hv:v=d*S+c):D+Q*W*v=Q*((V+W*d)*S):=by
 subst hv
 have e1:Q*((V+W*d)*S)=Q*(V*S)+Q*W*(d*S):=by
  rw [Nat.add_mul,Nat.mul_add]; simp [Nat.mul_assoc]
 rw [e1,Nat.mul_add]; omega
theorem zsP {p:List Int} {i v hi t:Nat} (hp:p.length=i) (h:dval p+4294967296 ^ i*v=t) (hv:v=v % 4294967296+4294967296*hi):dval (p++[((v % 4294967296:Nat):Int)])+4294967296 ^ (i+1)*hi=t:=by
 refine zoZ hp ?_
 rw [← hv]; exact h
theorem zzh {a:List Int} (ha:Dig a) {n:Nat} (hn:n≤100000) (hl:a.length≤1073741824) :
  ∀ (r i c:Nat) (p:List Int),i+r=a.length→Dig p→p.length=n / 32+i→c<2 ^ (n % 32)→dval p+4294967296 ^ (n / 32+i)*c=4294967296 ^ (n / 32)*(dval (a.take i)*2 ^ (n % 32))→
   ∀ f,r<f→zd0 a (n:Int) f (c:Int) (i:Int) p=some (digs (dval a*2 ^ n),true):=by
 have hs:n % 32<32:=wa
 have hps:=zlm hs
 intro r
 induction r with
 | zero=>
  intro i c p hi hp hlp hc hv f hf
  obtain ⟨f,rfl⟩:∃ k,f=k+1:=⟨f-1,wa⟩
  have hcm:c % 4294967296=c:=Nat.mod_eq_of_lt wa
  rw [zd0,we wa]
  unfold zkK
  rw [ZW,hcm,wc (by simp only [List.length_cons,List.length_nil]; omega)]
  rw [QU (ziC hp wa) (by rw [List.length_append]; simp only [List.length_cons,List.length_nil]; omega)]
  simp only [obn]
  have h1:=zoZ (v:=c) (r:=0) hlp (by rw [Nat.mul_zero,Nat.add_zero])
  rw [Nat.mul_zero,Nat.add_zero] at h1
  rw [h1,hv,List.take_of_length_le wa]
  have e:4294967296 ^ (n / 32)*(dval a*2 ^ (n % 32))=dval a*2 ^ n:=by
   conv=>rhs; rw [← Nat.div_add_mod n 32,Nat.pow_add,← zaO]
   rw [Nat.mul_left_comm]
  rw [e]
 | succ r ih=>
  intro i c p hi hp hlp hc hv f hf
  obtain ⟨f,rfl⟩:∃ k,f=k+1:=⟨f-1,wa⟩
  obtain ⟨d,hd,hd'⟩:=zL ha i
  have hb:d*2 ^ (n % 32)<18446744073709551616:=zlp hd' hps
  have hlt:d*2 ^ (n % 32)+c<4294967296*2 ^ (n % 32):=by
   have:(d+1)*2 ^ (n % 32)≤4294967296*2 ^ (n % 32):=Nat.mul_le_mul_right _ hd'
   rw [Nat.add_mul,Nat.one_mul] at this; omega
  have hor:d*2 ^ (n % 32) ||| c=d*2 ^ (n % 32)+c:=by
   rw [Nat.or_comm,Nat.mul_comm,zoF _ hc,Nat.add_comm]
  have hv64:d*2 ^ (n % 32)+c<18446744073709551616:=by
   have:=zlp (x:=4294967295) (y:=2 ^ (n % 32)) wa hps
   omega
  have hhi:(d*2 ^ (n % 32)+c) / 4294967296<2 ^ (n % 32):=by
   rw [Nat.div_lt_iff_lt_mul (by decide),Nat.mul_comm (2 ^ (n % 32)) 4294967296]; exact hlt
  rw [zd0,wc wa,wc wa,ziq,wc wa,kz]
  simp only [Int.toNat_natCast]
  rw [hd,zG (x:=d) wa,zlo wa hb,zbk hb wa,hor,zf7,ZW]
  rw [wc (by simp only [List.length_cons,List.length_nil]; omega),show (i:Int)+1=((i+1:Nat):Int) by omega,zW wa]
  refine ih (i+1) _ _ wa (ziC hp (Nat.mod_lt _ (by decide))) (by rw [List.length_append]; simp; omega) hhi ?_ f wa
  rw [← Nat.add_assoc]
  refine zsP hlp ?_ (Nat.mod_add_div _ 4294967296).symm
  rw [zcK,hd,Int.toNat_natCast]
  rw [zf8] at hv ⊢
  exact zzg hv rfl
theorem ziD {a:List Int} (ha:Dig a) (hl:a.length≤1073741824) {n:Nat} (hn:n≤100000):QK a (n:Int)=some (digs (dval a*2 ^ n),true):=by
 unfold QK
 rw [we wa,show decide ((n:Int)>100000)=false by simp; omega]
 unfold zfA
 rw [we wb,zbl,zW (n:=n / 32) wa,wc wa,kz,Int.toNat_natCast]
 exact zzh ha hn hl a.length 0 0 (List.replicate (n / 32) 0) wa (zbV _) wb (Nat.pow_pos (by decide)) (by simp [zf6,dval]) fuel (by unfold fuel; omega)
theorem zzi {t o:Nat} (ho:o % 2=1) (hsz:SZ (2 ^ t*o)) (neg:Bool) {e:Int} (he : -1152921504606846976≤e∧e≤1152921504606846976) :
  ∀ (r n:Nat),n+r=t→∀ f,r<f→zeT ⟨neg,digs (2 ^ t*o)⟩ e f (n:Int)=some (dy ⟨sg neg o,e+(t:Int)⟩):=by
 have hlen:=zx hsz
 have ht:=ziu (t:=t) ho
 intro r
 induction r with
 | zero=>
  intro n hn f hf
  obtain ⟨f,rfl⟩:∃ k,f=k+1:=⟨f-1,wa⟩
  have:n=t:=wa
  subst this
  have hsz':=hsz
  unfold SZ at hsz'
  rw [zeT,zsO (dgd _) wa,dvd,zoJ ho]
  simp only [obn]
  rw [we wb]
  unfold zrD
  rw [zlF (dgd _) wa wa,dvd,Nat.mul_div_cancel_left _ (Nat.pow_pos (by decide))]
  simp only [obn]
  rw [Qt _ (zaR (Nat.le_mul_of_pos_left _ (Nat.pow_pos (by decide))) hsz)]
  simp only [obn]
  rw [w64 wa wa]
  rfl
 | succ r ih=>
  intro n hn f hf
  obtain ⟨f,rfl⟩:∃ k,f=k+1:=⟨f-1,wa⟩
  have hsz':=hsz
  unfold SZ at hsz'
  rw [zeT,zsO (dgd _) wa,dvd,zoI wa]
  simp only [obn]
  rw [wc wb,show ((n:Int)+1)=((n+1:Nat):Int) by omega,zW wa]
  exact ih (n+1) wa f wa
theorem ziE {z:Int} (hsz:SZ z.natAbs) {e:Int} (he : -1152921504606846976≤e∧e≤1152921504606846976):zay (iOf z) e=some (dy (nrm z e)):=by
 have hlen:=zx hsz
 unfold zay
 rw [ziB hsz]
 simp only [obn]
 have h1:=zah z
 by_cases h0:z=0
 ·subst h0
  rw [wc (h1.2 rfl),zbn,qp]
 ·rw [we (fun h=>h0 (h1.1 h))]
  have h0':z.natAbs≠0:=wa
  obtain ⟨o,h1,h2⟩:=zly h0'
  have hz:=QS z
  generalize lowz z.natAbs=t at h1
  have ei:iOf z=⟨decide (z<0),digs z.natAbs⟩:=rfl
  rw [ei]
  generalize decide (z<0)=neg at *
  generalize z.natAbs=n at *
  subst h1
  rw [← hz,zit e h2]
  have:=ziu (t:=t) h2
  have hsz':=hsz
  unfold SZ at hsz'
  exact zzi h2 hsz neg he t 0 wa fuel (by unfold fuel; omega)
end Go.Proofs.YtjffljhmjdljeaaGreat.Gen
