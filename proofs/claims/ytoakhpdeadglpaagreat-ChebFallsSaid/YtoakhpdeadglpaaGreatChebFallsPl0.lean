/- Plain theory of the numbers that the statement speaks of: printed from the proofs' own texts, as far as this statement needs it. -/
import Derived.Test.YtoakhpdeadglpaaGreatChebFallsGenO
set_option linter.unusedVariables false
set_option linter.unusedSimpArgs false
namespace Go.Plain
open Go Go.Abs
theorem w64 {x:Int} (h1 : -9223372036854775808≤x) (h2:x≤9223372036854775807):IntKind.i64.wrap x=x:=by
 unfold IntKind.wrap
 simp [IntKind.bits,IntKind.signed]
 omega
theorem wu32 {x:Int} : IntKind.u32.wrap x=x % 4294967296:=by
 unfold IntKind.wrap
 simp [IntKind.bits,IntKind.signed]
theorem wu64 {x:Int} : IntKind.u64.wrap x=x % 18446744073709551616:=by
 unfold IntKind.wrap
 simp [IntKind.bits,IntKind.signed]
def dval:List Int→Nat
 | []=>0
 | d :: l=>d.toNat+4294967296*dval l
def Dig (l:List Int):Prop:=∀ d ∈ l,0≤d∧d<4294967296
def digs (n:Nat):List Int:=if h:n=0 then [] else ((n % 4294967296:Nat):Int) :: digs (n / 4294967296)
decreasing_by exact Nat.div_lt_self (Nat.pos_of_ne_zero h) (by decide)
theorem dvd (n:Nat):dval (digs n)=n:=by
 induction n using Nat.strongRecOn with
 | _ n ih=>
  unfold digs
  split
  ·rename_i h; subst h; rfl
  ·rename_i h
   simp only [dval]
   rw [ih _ (Nat.div_lt_self (Nat.pos_of_ne_zero h) (by decide))]
   omega
theorem dgd (n:Nat):Dig (digs n):=by
 induction n using Nat.strongRecOn with
 | _ n ih=>
  unfold digs
  split
  ·intro d hd; cases hd
  ·rename_i h
   intro d hd
   rcases List.mem_cons.1 hd with rfl | hd
   ·omega
   ·exact ih _ (Nat.div_lt_self (Nat.pos_of_ne_zero h) (by decide)) d hd
theorem dval_append (l r:List Int):dval (l++r)=dval l+4294967296 ^ l.length*dval r:=by
 induction l with
 | nil=>simp [dval]
 | cons d l ih=>simp only [List.cons_append,dval,ih,List.length_cons,Nat.pow_succ]; grind
theorem dval_lt {l:List Int} (h:Dig l):dval l<4294967296 ^ l.length:=by
 induction l with
 | nil=>simp [dval]
 | cons d l ih=>
  have h1:=h d List.mem_cons_self
  have h2:=ih fun x hx=>h x (List.mem_cons_of_mem _ hx)
  simp only [dval,List.length_cons,Nat.pow_succ]
  omega
theorem digs_of {l:List Int} (h:Dig l) (hl:l.getLastD 1≠0):digs (dval l)=l:=by
 induction l with
 | nil=>simp [dval,digs]
 | cons d l ih=>
  have h1:=h d List.mem_cons_self
  have hr:digs (dval l)=l:=by
   refine ih (fun x hx=>h x (List.mem_cons_of_mem _ hx)) ?_
   cases l with
   | nil=>simp
   | cons e l=>simpa using hl
  have hpos:dval (d :: l)≠0:=by
   simp only [dval]
   cases l with
   | nil=>simp at hl; simp [dval]; omega
   | cons e l=>
    intro h0
    have:dval (e :: l)=0:=by omega
    rw [this] at hr
    simp [digs] at hr
  rw [digs,dif_neg hpos]
  simp only [dval]
  have e1:(d.toNat+4294967296*dval l) % 4294967296=d.toNat:=by omega
  have e2:(d.toNat+4294967296*dval l) / 4294967296=dval l:=by omega
  rw [e1,e2,hr]
  congr 1; omega
end Go.Plain
namespace Go.Proofs.YtoakhpdeadglpaaGreat.Gen
open Go Go.Abs Go.Plain
theorem dval_snoc0 (l:List Int):dval (l++[0])=dval l:=by rw [dval_append]; simp [dval]
theorem nat_trim_l2_eq:∀ (m:Nat) (l:List Int),l.length=m→Dig l→m≤4611686018427387904→∀ n,m<n→nat_trim_l2 n l=some (digs (dval l)):=by
 intro m
 induction m with
 | zero=>
  intro l hl _ _ n hn
  obtain ⟨n,rfl⟩:∃ k,n=k+1:=⟨n-1,by omega⟩
  have:l=[]:=List.eq_nil_of_length_eq_zero hl
  subst this
  simp [nat_trim_l2,nat_trim_j3,nat_trim_j1,dval,digs]
 | succ m ih=>
  intro l hl hd hm n hn
  obtain ⟨n,rfl⟩:∃ k,n=k+1:=⟨n-1,by omega⟩
  obtain ⟨r,x,rfl⟩:∃ r x,l=r++[x]:=by
   have hne:l≠[]:=by intro h; subst h; simp at hl
   exact ⟨l.dropLast,l.getLast hne,(List.dropLast_concat_getLast hne).symm⟩
  simp only [List.length_append,List.length_cons,List.length_nil] at hl
  have hw:IntKind.i64.wrap ((((r++[x]).length:Nat):Int)-1)=(r.length:Int):=by
   rw [w64]<;>simp<;>omega
  rw [nat_trim_l2]
  rw [hw]
  have h1:(((r++[x]).length:Nat):Int)>0:=by simp only [List.length_append,List.length_cons,List.length_nil]; omega
  have h2:0≤(r.length:Int)∧(r.length:Int)<(((r++[x]).length:Nat):Int):=by simp; omega
  rw [if_pos h1,if_pos h2]
  have hx:(r++[x]).getD ((r.length:Int).toNat) (kInt .u32).z=x:=by simp [List.getD]
  rw [hx]
  unfold nat_trim_j3
  rw [hw]
  by_cases hx0:x=0
  ·subst hx0
   have h3:0≤(0:Int)∧(0:Int)≤(r.length:Int)∧(r.length:Int)≤(((r++[(0:Int)]).length:Nat):Int):=by simp; omega
   rw [if_pos (by simp),if_pos h3]
   have ht:(r++[(0:Int)]).take ((r.length:Int).toNat)=r:=by simp
   rw [ht,dval_snoc0]
   exact ih r (by omega) (fun d h=>hd d (List.mem_append_left _ h)) (by omega) n (by omega)
  ·rw [if_neg (by simp [hx0])]
   unfold nat_trim_j1
   rw [digs_of hd (by simp [hx0])]
theorem nat_trim_eq {l:List Int} (hd:Dig l) (hl:l.length≤4611686018427387904):nat_trim l=some (digs (dval l)):=by
 unfold nat_trim
 exact nat_trim_l2_eq _ l rfl hd hl fuel (by unfold fuel; omega)
theorem digs_length {n k:Nat} (h:n<4294967296 ^ k):(digs n).length≤k:=by
 induction k generalizing n with
 | zero=>have:n=0:=(by simpa using h); subst this; simp [digs]
 | succ k ih=>
  unfold digs
  split
  ·simp
  ·have:=ih (n:=n / 4294967296) (by rw [Nat.pow_succ] at h; exact Nat.div_lt_of_lt_mul (by rw [Nat.mul_comm]; exact h))
   simp only [List.length_cons]; omega
theorem digs_len_le {l:List Int} (h:Dig l):(digs (dval l)).length≤l.length:=digs_length (dval_lt h)
theorem nat_From_eq {a:Int} (h:0≤a) (h2:a<18446744073709551616):nat_From a=some (digs a.toNat):=by
 unfold nat_From
 have e1:shrI .u64 a 32=a / 4294967296:=by
  unfold shrI
  simp [IntKind.bits]
  rw [Int.fdiv_eq_ediv_of_nonneg _ (by decide)]
 have hd:Dig [IntKind.u32.wrap a,IntKind.u32.wrap (shrI .u64 a 32)]:=by
  intro d hd
  simp only [List.mem_cons,List.not_mem_nil,or_false] at hd
  rcases hd with rfl | rfl<;>rw [wu32]<;>omega
 rw [nat_trim_eq hd (by simp)]
 have e2:dval [IntKind.u32.wrap a,IntKind.u32.wrap (shrI .u64 a 32)]=a.toNat:=by
  simp only [dval,wu32,e1]
  omega
 rw [e2]; rfl
theorem clone_eq {l:List Int} (h:l.length≤35184372088832):slCl l=some l:=by
 unfold slCl
 rw [if_pos (by omega)]
theorem nat_Trim_eq {l:List Int} (hd:Dig l) (hl:l.length≤35184372088832):nat_Trim l=some (digs (dval l)):=by
 unfold nat_Trim
 rw [nat_trim_eq hd (by omega)]
 have:=digs_len_le hd
 simp only [Option.bind_some]
 rw [clone_eq (by omega)]
 rfl
theorem drop_cons {l:List Int} {i:Nat} (h:i<l.length):l.drop i=l.getD i 0 :: l.drop (i+1):=by
 rw [List.drop_eq_getElem_cons h]; simp [List.getD,h]
theorem dval_drop (l:List Int) (i:Nat):dval (l.drop i)=(l.getD i 0).toNat+4294967296*dval (l.drop (i+1)):=by
 by_cases h:i<l.length
 ·rw [drop_cons h]; rfl
 ·have h1:l.drop i=[]:=List.drop_eq_nil_of_le (by omega)
  have h2:l.drop (i+1)=[]:=List.drop_eq_nil_of_le (by omega)
  simp [h1,h2,dval,List.getD,List.getElem?_eq_none (show l.length≤i by omega)]
theorem dig_getD {l:List Int} (h:Dig l) (i:Nat):0≤l.getD i 0∧l.getD i 0<4294967296:=by
 by_cases hi:i<l.length
 ·have:=h (l.getD i 0) (by simp [List.getD,hi])
  exact this
 ·simp [List.getD,List.getElem?_eq_none (show l.length≤i by omega)]
theorem set_mid (p r:List Int) (x y:Int) {i:Nat} (h:i=p.length):(p++x :: r).set i y=(p++[y])++r:=by
 subst h; simp
theorem Add32_eq {x y c:Int} (hx:0≤x∧x<4294967296) (hy:0≤y∧y<4294967296) (hc:0≤c∧c≤1):mb_Add32 x y c=some ((x+y+c) % 4294967296,(x+y+c) / 4294967296):=by
 unfold mb_Add32
 simp only [wu64,wu32]
 have e:∀ z:Int,0≤z→shrI .u64 z 32=z / 4294967296:=by
  intro z hz
  unfold shrI
  simp [IntKind.bits]
  rw [Int.fdiv_eq_ediv_of_nonneg _ (by decide)]
 rw [e _ (by omega)]
 congr 2<;>omega
theorem add_loop {a b:List Int} (hab:b.length≤a.length) (ha:Dig a) (hb:Dig b) (hl:a.length≤1099511627776):∀ (k i:Nat) (c:Int) (p:List Int),i+k=a.length→p.length=i→Dig p→0≤c∧c≤1→∀ n,k<n→
  nat_Add_l3 a b n c (i:Int) (p++List.replicate (k+1) 0)=some (digs (dval p+4294967296 ^ i*(c.toNat+dval (a.drop i)+dval (b.drop i)))):=by
 intro k
 induction k with
 | zero=>
  intro i c p hi hp hd hc n hn
  obtain ⟨n,rfl⟩:∃ k,n=k+1:=⟨n-1,by omega⟩
  rw [nat_Add_l3,if_neg (by omega)]
  unfold nat_Add_j2
  rw [if_pos (by simp; omega)]
  have hset:(p++List.replicate (0+1) (0:Int)).set a.length c=(p++[c])++[]:=set_mid p [] 0 c (by omega)
  rw [hset,List.append_nil]
  have hd':Dig (p++[c]):=by
   intro d h
   rcases List.mem_append.1 h with h | h
   ·exact hd d h
   ·simp at h; omega
  rw [nat_trim_eq hd' (by simp; omega)]
  have h1:a.drop i=[]:=List.drop_eq_nil_of_le (by omega)
  have h2:b.drop i=[]:=List.drop_eq_nil_of_le (by omega)
  rw [dval_append,h1,h2,hp]
  simp [dval]
 | succ k ih=>
  intro i c p hi hp hd hc n hn
  obtain ⟨n,rfl⟩:∃ k,n=k+1:=⟨n-1,by omega⟩
  have hx:=dig_getD ha i
  have hy:=dig_getD hb i
  have hw:IntKind.i64.wrap ((i:Int)+1)=((i+1:Nat):Int):=by rw [w64]<;>omega
  have hz:(kInt .u32).z=0:=rfl
  have step:nat_Add_j4 (i:Int) a c (p++List.replicate (k+1+1) 0) (fun z0 z1 z2=>nat_Add_l3 a b n z0 z1 z2) (b.getD i 0)=some (digs (dval p+4294967296 ^ i*(c.toNat+dval (a.drop i)+dval (b.drop i)))):=by
   unfold nat_Add_j4
   rw [if_pos (by omega),hz]
   simp only [Int.toNat_natCast]
   rw [Add32_eq hx hy hc]
   simp only [Option.bind_some]
   rw [if_pos (by simp; omega),hw]
   have hset:(p++List.replicate (k+1+1) (0:Int)).set i ((a.getD i 0+b.getD i 0+c) % 4294967296)=(p++[(a.getD i 0+b.getD i 0+c) % 4294967296])++List.replicate (k+1) 0:=by
    rw [List.replicate_succ]; exact set_mid p _ 0 _ hp.symm
   rw [hset]
   have hd':Dig (p++[(a.getD i 0+b.getD i 0+c) % 4294967296]):=by
    intro d h
    rcases List.mem_append.1 h with h | h
    ·exact hd d h
    ·simp at h; omega
   rw [ih (i+1) _ _ (by omega) (by simp [hp]) hd' (by omega) n (by omega)]
   rw [dval_append,hp,dval_drop a i,dval_drop b i,Nat.pow_succ]
   congr 2
   generalize dval (a.drop (i+1))=A
   generalize dval (b.drop (i+1))=C
   generalize a.getD i 0=x at hx ⊢
   generalize b.getD i 0=y at hy ⊢
   simp only [dval]
   generalize 4294967296 ^ i=W
   have h1:((x+y+c) % 4294967296).toNat+4294967296*((x+y+c) / 4294967296).toNat=x.toNat+y.toNat+c.toNat:=by omega
   generalize ((x+y+c) % 4294967296).toNat=s at h1
   generalize ((x+y+c) / 4294967296).toNat=t at h1
   have:W*(c.toNat+(x.toNat+4294967296*A)+(y.toNat+4294967296*C))=W*(x.toNat+y.toNat+c.toNat)+W*4294967296*(A+C):=by grind
   rw [this,← h1]
   grind
  rw [nat_Add_l3,if_pos (by omega)]
  by_cases hib:i<b.length
  ·rw [if_pos (by omega),if_pos (by omega),hz]
   simp only [Int.toNat_natCast]
   exact step
  ·rw [if_neg (by omega)]
   have:b.getD i 0=0:=by simp [List.getD,List.getElem?_eq_none (show b.length≤i by omega)]
   rw [this] at step
   exact step
theorem Add_j1_eq {a b:List Int} (hab:b.length≤a.length) (ha:Dig a) (hb:Dig b) (hl:a.length≤1099511627776):nat_Add_j1 a b=some (digs (dval a+dval b)):=by
 unfold nat_Add_j1
 have hw:IntKind.i64.wrap ((a.length:Int)+1)=((a.length+1:Nat):Int):=by rw [w64]<;>omega
 rw [hw,if_pos (by omega)]
 have:=add_loop hab ha hb hl a.length 0 0 [] (by omega) rfl (fun d h=>by cases h) (by omega) fuel (by unfold fuel; omega)
 simp only [List.nil_append,dval,Nat.zero_add,Nat.pow_zero,Nat.one_mul,List.drop_zero,Int.toNat_zero] at this
 exact this
theorem nat_Add_eq {a b:List Int} (ha:Dig a) (hb:Dig b) (hl:a.length≤1099511627776) (hl':b.length≤1099511627776):nat_Add a b=some (digs (dval a+dval b)):=by
 unfold nat_Add
 split
 ·rw [Add_j1_eq (by omega) hb ha hl',Nat.add_comm]
 ·rw [Add_j1_eq (by omega) ha hb hl]
theorem digs_ge {n:Nat} (h:n≠0):4294967296 ^ ((digs n).length-1)≤n:=by
 induction n using Nat.strongRecOn with
 | _ n ih=>
  unfold digs
  rw [dif_neg h]
  simp only [List.length_cons,Nat.add_sub_cancel]
  by_cases h0:n / 4294967296=0
  ·rw [h0]; simp [digs]; omega
  ·have:=ih _ (Nat.div_lt_self (Nat.pos_of_ne_zero h) (by decide)) h0
   have hl:0<(digs (n / 4294967296)).length:=by unfold digs; rw [dif_neg h0]; simp
   obtain ⟨k,hk⟩:∃ k,(digs (n / 4294967296)).length=k+1:=⟨_,(Nat.sub_add_cancel hl).symm⟩
   rw [hk] at this ⊢
   simp only [Nat.add_sub_cancel] at this
   rw [Nat.pow_succ]; omega
theorem digs_zero:digs 0=[]:=by unfold digs; rw [dif_pos rfl]
theorem digs_len_lt {m n:Nat} (h:(digs m).length<(digs n).length):m<n:=by
 have h1:n≠0:=by rintro rfl; rw [digs_zero] at h; exact absurd h (Nat.not_lt_zero _)
 have h2:=digs_ge h1
 have h3:m<4294967296 ^ (digs m).length:=by have:=dval_lt (dgd m); rwa [dvd] at this
 have h4:4294967296 ^ (digs m).length≤4294967296 ^ ((digs n).length-1):=Nat.pow_le_pow_right (by decide) (by omega)
 omega
theorem dval_split (l:List Int) (k:Nat):dval l=dval (l.take k)+4294967296 ^ (l.take k).length*dval (l.drop k):=by
 conv=>lhs; rw [← List.take_append_drop k l]
 exact dval_append _ _
theorem dig_take {l:List Int} (h:Dig l) (k:Nat):Dig (l.take k):=fun d hd=>h d (List.mem_of_mem_take hd)
theorem dig_drop {l:List Int} (h:Dig l) (k:Nat):Dig (l.drop k):=fun d hd=>h d (List.mem_of_mem_drop hd)
theorem dval_top {x y:List Int} (hx:Dig x) (hy:Dig y) (hl:x.length=y.length) {k:Nat} (hk:k<x.length) (ht:x.drop (k+1)=y.drop (k+1)) (hd:x.getD k 0<y.getD k 0):dval x<dval y:=by
 rw [dval_split x k,dval_split y k,dval_drop x k,dval_drop y k,ht]
 have h1:=dval_lt (dig_take hx k)
 have h2:=dig_getD hx k
 have h3:=dig_getD hy k
 simp only [List.length_take,show min k x.length=k by omega,show min k y.length=k by omega] at h1 ⊢
 generalize 4294967296 ^ k=W at *
 generalize dval (y.drop (k+1))=T
 generalize x.getD k 0=p at *
 generalize y.getD k 0=q at *
 have:p.toNat+1≤q.toNat:=by omega
 have h4:W*(p.toNat+4294967296*T)+W≤W*(q.toNat+4294967296*T):=by
  have:W*(p.toNat+4294967296*T)+W=W*(p.toNat+1+4294967296*T):=by grind
  rw [this]; exact Nat.mul_le_mul_left _ (by omega)
 omega
theorem cmp_loop {x y:List Int} (hx:Dig x) (hy:Dig y) (hl:x.length=y.length) (hm:x.length≤4611686018427387904):∀ (k i:Nat),i+k=x.length→x.drop k=y.drop k→∀ n,k<n→
  nat_Cmp_l2 x y n (i:Int)=some (if dval x<dval y then -1 else if dval y<dval x then 1 else 0):=by
 intro k
 induction k with
 | zero=>
  intro i hi hd n hn
  obtain ⟨n,rfl⟩:∃ k,n=k+1:=⟨n-1,by omega⟩
  rw [nat_Cmp_l2,if_neg (by omega)]
  simp only [List.drop_zero] at hd
  subst hd
  simp [nat_Cmp_j1]
 | succ k ih=>
  intro i hi hd n hn
  obtain ⟨n,rfl⟩:∃ k,n=k+1:=⟨n-1,by omega⟩
  have hw:IntKind.i64.wrap (IntKind.i64.wrap ((x.length:Int)-1)-i)=(k:Int):=by
   rw [w64 (x:=(x.length:Int)-1) (by omega) (by omega),w64]<;>omega
  have hw':IntKind.i64.wrap ((i:Int)+1)=((i+1:Nat):Int):=by rw [w64]<;>omega
  have hz:(kInt .u32).z=0:=rfl
  rw [nat_Cmp_l2,← hl,hw,hz]
  simp only [Int.toNat_natCast]
  rw [if_pos (by omega),if_pos (by omega),if_pos (by omega)]
  by_cases h1:x.getD k 0<y.getD k 0
  ·rw [if_pos h1,if_pos (dval_top hx hy hl (by omega) hd h1)]
  ·rw [if_neg h1]
   by_cases h2:x.getD k 0>y.getD k 0
   ·have:=dval_top hy hx hl.symm (by omega) hd.symm h2
    rw [if_pos h2,if_neg (by omega),if_pos this]
   ·rw [if_neg h2,hw']
    refine ih (i+1) (by omega) ?_ n (by omega)
    rw [drop_cons (l:=x) (by omega),drop_cons (l:=y) (by omega),hd,show x.getD k 0=y.getD k 0 by omega]
theorem nat_Cmp_eq {a b:List Int} (ha:Dig a) (hb:Dig b) (hl:a.length≤1099511627776) (hl':b.length≤1099511627776):nat_Cmp a b=some (if dval a<dval b then -1 else if dval b<dval a then 1 else 0):=by
 unfold nat_Cmp
 have h1:=digs_len_le ha
 have h2:=digs_len_le hb
 rw [nat_trim_eq ha (by omega),nat_trim_eq hb (by omega)]
 simp only [Option.bind_some]
 by_cases he:((digs (dval a)).length:Int)=((digs (dval b)).length:Int)
 ·rw [if_neg (by simpa using he)]
  have he':(digs (dval a)).length=(digs (dval b)).length:=by omega
  have:=cmp_loop (dgd (dval a)) (dgd (dval b)) he' (by omega) (digs (dval a)).length 0 (by omega) (by rw [List.drop_length,he',List.drop_length]) fuel (by unfold fuel; omega)
  rw [dvd,dvd] at this
  exact this
 ·rw [if_pos (by simpa using he)]
  by_cases hlt:(digs (dval a)).length<(digs (dval b)).length
  ·rw [if_pos (by omega),if_pos (digs_len_lt hlt)]
  ·have:=digs_len_lt (m:=dval b) (n:=dval a) (by omega)
   rw [if_neg (by omega),if_neg (by omega),if_pos this]
theorem dval_set:∀ (l:List Int) (j:Nat) (v:Int),j<l.length→dval (l.set j v)+4294967296 ^ j*(l.getD j 0).toNat=dval l+4294967296 ^ j*v.toNat
 | [],j,v,h=>by simp at h
 | d :: l,0,v,_=>by simp [dval]; omega
 | d :: l,j+1,v,h=>by
  have:=dval_set l j v (by simpa using h)
  simp only [List.set_cons_succ,dval,Nat.pow_succ]
  have e:(d :: l).getD (j+1) 0=l.getD j 0:=by simp
  rw [e]
  have:4294967296*(dval (l.set j v)+4294967296 ^ j*(l.getD j 0).toNat)=4294967296*(dval l+4294967296 ^ j*v.toNat):=by rw [this]
  grind
theorem dig_set {l:List Int} (h:Dig l) (j:Nat) {v:Int} (hv:0≤v∧v<4294967296):Dig (l.set j v):=by
 intro d hd
 rcases List.mem_or_eq_of_mem_set hd with h1 | rfl
 ·exact h d h1
 ·exact hv
theorem getD_set_ne (l:List Int) {i j:Nat} (v:Int) (h:i≠j):(l.set i v).getD j 0=l.getD j 0:=by simp [List.getD,List.getElem?_set_ne h]
theorem mul_inner {a b:List Int} (ha:Dig a) (hb:Dig b) (hla:a.length≤1099511627776) (hlb:b.length≤1099511627776) {i:Nat} (hi:i<a.length) (ag:Int→List Int→Option (List Int)) :
  ∀ (r k:Nat) (c:Int) (O:List Int),k+r=b.length→Dig O→O.length=a.length+b.length→0≤c∧c<4294967296→O.getD (i+b.length) 0=0→∀ n,r<n→
   ∃ O',nat_Mul_l5 b (i:Int) a ag n c (k:Int) O=ag ((i+1:Nat):Int) O'∧Dig O'∧O'.length=a.length+b.length∧dval O'=dval O+4294967296 ^ (i+k)*(c.toNat+(a.getD i 0).toNat*dval (b.drop k))∧
    ∀ j,i+b.length<j→O'.getD j 0=O.getD j 0:=by
 intro r
 have hz:(kInt .u32).z=0:=rfl
 have hx:=dig_getD ha i
 induction r with
 | zero=>
  intro k c O hk hO hl hc h0 n hn
  obtain ⟨n,rfl⟩:∃ k,n=k+1:=⟨n-1,by omega⟩
  have hw:IntKind.i64.wrap ((i:Int)+(b.length:Int))=((i+b.length:Nat):Int):=by rw [w64]<;>omega
  have hw2:IntKind.i64.wrap ((i:Int)+1)=((i+1:Nat):Int):=by rw [w64]<;>omega
  have hc':IntKind.u32.wrap c=c:=by rw [wu32]; omega
  refine ⟨O.set (i+b.length) c,?_,dig_set hO _ hc,by simp [hl],?_,fun j hj=>getD_set_ne _ _ (by omega)⟩
  ·rw [nat_Mul_l5,if_neg (by omega)]
   unfold nat_Mul_j4
   rw [hw,if_pos (by simp only [Int.toNat_natCast]; omega)]
   unfold nat_Mul_j3
   rw [hw2,hc']
   simp only [Int.toNat_natCast]
  ·have:=dval_set O (i+b.length) c (by omega)
   rw [h0] at this
   have hk':k=b.length:=by omega
   have hd:b.drop k=[]:=List.drop_eq_nil_of_le (by omega)
   rw [hd,hk']
   simp only [dval,Int.toNat_zero,Nat.mul_zero,Nat.add_zero] at this ⊢
   exact this
 | succ r ih=>
  intro k c O hk hO hl hc h0 n hn
  obtain ⟨n,rfl⟩:∃ k,n=k+1:=⟨n-1,by omega⟩
  have hy:=dig_getD hb k
  have ho:=dig_getD hO (i+k)
  have hw:IntKind.i64.wrap ((i:Int)+(k:Int))=((i+k:Nat):Int):=by rw [w64]<;>omega
  have hw2:IntKind.i64.wrap ((k:Int)+1)=((k+1:Nat):Int):=by rw [w64]<;>omega
  have hxy:0≤a.getD i 0*b.getD k 0∧a.getD i 0*b.getD k 0≤4294967295*4294967295:=by
   refine ⟨Int.mul_nonneg hx.1 hy.1,?_⟩
   exact Int.mul_le_mul (by omega) (by omega) hy.1 (by omega)
  let s:Int:=a.getD i 0*b.getD k 0+O.getD (i+k) 0+c
  have hs:0≤s∧s<18446744073709551616:=by
   show 0≤a.getD i 0*b.getD k 0+O.getD (i+k) 0+c∧a.getD i 0*b.getD k 0+O.getD (i+k) 0+c<18446744073709551616
   omega
  have hwr:IntKind.u64.wrap ((IntKind.u64.wrap ((IntKind.u64.wrap ((IntKind.u64.wrap (a.getD i 0))*(IntKind.u64.wrap (b.getD k 0))))+(IntKind.u64.wrap (O.getD (i+k) 0))))+c)=s:=by
   simp only [wu64]
   rw [Int.emod_eq_of_lt hx.1 (by omega),Int.emod_eq_of_lt hy.1 (by omega),Int.emod_eq_of_lt ho.1 (by omega),Int.emod_eq_of_lt hxy.1 (by omega)]
   show (((a.getD i 0*b.getD k 0+O.getD (i+k) 0) % 18446744073709551616)+c) % 18446744073709551616=a.getD i 0*b.getD k 0+O.getD (i+k) 0+c
   have h3:0≤a.getD i 0*b.getD k 0+O.getD (i+k) 0:=by omega
   have h4:a.getD i 0*b.getD k 0+O.getD (i+k) 0+c<18446744073709551616:=hs.2
   omega
  have hsh:shrI .u64 s 32=s / 4294967296:=by
   unfold shrI
   simp [IntKind.bits]
   rw [Int.fdiv_eq_ediv_of_nonneg _ (by decide)]
  have hlo:IntKind.u32.wrap s=s % 4294967296:=wu32
  obtain ⟨O',e,d1,d2,d3,d4⟩:=ih (k+1) (s / 4294967296) (O.set (i+k) (s % 4294967296)) (by omega) (dig_set hO _ (by omega)) (by simp [hl]) (by omega) (by rw [getD_set_ne _ _ (by omega)]; exact h0) n (by omega)
  refine ⟨O',?_,d1,d2,?_,fun j hj=>by rw [d4 j hj,getD_set_ne _ _ (by omega)]⟩
  ·rw [nat_Mul_l5,if_pos (by omega),if_pos (by omega),hw,hz]
   simp only [Int.toNat_natCast]
   rw [if_pos (by omega),if_pos (by omega),hwr,hsh,hlo,hw2]
   exact e
  ·rw [d3]
   have h5:=dval_set O (i+k) (s % 4294967296) (by omega)
   rw [dval_drop b k]
   have e1:i+(k+1)=i+k+1:=by omega
   rw [e1,Nat.pow_succ]
   generalize 4294967296 ^ (i+k)=W at h5 ⊢
   generalize dval (b.drop (k+1))=T
   have h6:(s % 4294967296).toNat+4294967296*(s / 4294967296).toNat=(a.getD i 0).toNat*(b.getD k 0).toNat+(O.getD (i+k) 0).toNat+c.toNat:=by
    have h7:s.toNat=(a.getD i 0).toNat*(b.getD k 0).toNat+(O.getD (i+k) 0).toNat+c.toNat:=by
     have h8:((a.getD i 0).toNat:Int)=a.getD i 0:=Int.toNat_of_nonneg hx.1
     have h9:((b.getD k 0).toNat:Int)=b.getD k 0:=Int.toNat_of_nonneg hy.1
     have:(s.toNat:Int)=((a.getD i 0).toNat*(b.getD k 0).toNat+(O.getD (i+k) 0).toNat+c.toNat:Nat):=by
      rw [Int.toNat_of_nonneg hs.1]
      simp only [Int.natCast_add,Int.natCast_mul]
      rw [h8,h9,Int.toNat_of_nonneg ho.1,Int.toNat_of_nonneg hc.1]
     exact_mod_cast this
    omega
   generalize (s % 4294967296).toNat=lo at *
   generalize (s / 4294967296).toNat=hi' at *
   generalize (a.getD i 0).toNat=x at *
   generalize (b.getD k 0).toNat=y at *
   generalize (O.getD (i+k) 0).toNat=o at *
   generalize c.toNat=c' at *
   have h10:W*(lo+4294967296*hi')=W*(x*y+o+c'):=by rw [h6]
   grind
theorem mul_outer {a b:List Int} (ha:Dig a) (hb:Dig b) (hla:a.length≤1099511627776) (hlb:b.length≤1099511627776) :
  ∀ (r i:Nat) (O:List Int),i+r=a.length→Dig O→O.length=a.length+b.length→(∀ j,i+b.length≤j→O.getD j 0=0)→∀ n,r<n→
   nat_Mul_l2 a b n (i:Int) O=some (digs (dval O+4294967296 ^ i*(dval (a.drop i)*dval b))):=by
 intro r
 induction r with
 | zero=>
  intro i O hi hO hl h0 n hn
  obtain ⟨n,rfl⟩:∃ k,n=k+1:=⟨n-1,by omega⟩
  rw [nat_Mul_l2,if_neg (by omega)]
  unfold nat_Mul_j1
  rw [nat_trim_eq hO (by omega)]
  have hd:a.drop i=[]:=List.drop_eq_nil_of_le (by omega)
  rw [hd]
  simp [dval]
 | succ r ih=>
  intro i O hi hO hl h0 n hn
  obtain ⟨n,rfl⟩:∃ k,n=k+1:=⟨n-1,by omega⟩
  rw [nat_Mul_l2,if_pos (by omega),if_pos (by omega)]
  obtain ⟨O',e,d1,d2,d3,d4⟩:=mul_inner ha hb hla hlb (i:=i) (by omega) (fun z0 z1=>nat_Mul_l2 a b n z0 z1) b.length 0 0 O (by omega) hO hl (by omega) (h0 _ (Nat.le_refl _)) fuel (by unfold fuel; omega)
  refine Eq.trans e ?_
  show nat_Mul_l2 a b n ((i+1:Nat):Int) O'=_
  rw [ih (i+1) O' (by omega) d1 d2 (fun j hj=>by rw [d4 j (by omega)]; exact h0 j (by omega)) n (by omega),d3,dval_drop a i,Nat.pow_succ]
  congr 2
  simp only [Nat.add_zero,List.drop_zero,Int.toNat_zero,Nat.zero_add]
  grind
theorem dval_replicate (n:Nat):dval (List.replicate n 0)=0:=by
 induction n with
 | zero=>rfl
 | succ n ih=>rw [List.replicate_succ]; simp [dval,ih]
theorem nat_Mul_eq {a b:List Int} (ha:Dig a) (hb:Dig b) (hl:a.length≤1099511627776) (hl':b.length≤1099511627776):nat_Mul a b=some (digs (dval a*dval b)):=by
 unfold nat_Mul
 have h1:=digs_len_le ha
 have h2:=digs_len_le hb
 rw [nat_trim_eq ha (by omega),nat_trim_eq hb (by omega)]
 simp only [Option.bind_some]
 have hw:IntKind.i64.wrap (((digs (dval a)).length:Int)+((digs (dval b)).length:Int))=(((digs (dval a)).length+(digs (dval b)).length:Nat):Int):=by rw [w64]<;>omega
 rw [hw,if_pos (by omega)]
 have hz:(kInt .u32).z=0:=rfl
 have:=mul_outer (dgd (dval a)) (dgd (dval b)) (by omega) (by omega) (digs (dval a)).length 0 (List.replicate ((digs (dval a)).length+(digs (dval b)).length) 0) (by omega) (fun d hd=>by rw [List.eq_of_mem_replicate hd]; omega) (by simp) (fun j _=>by
  simp only [List.getD,List.getElem?_replicate]
  split<;>rfl) fuel (by unfold fuel; omega)
 rw [dval_replicate,dvd,List.drop_zero,dvd] at this
 simp only [Nat.zero_add,Nat.pow_zero,Nat.one_mul] at this
 exact this
theorem top_bit {v:BitVec 32} : v.toNat / 2147483648=if v.getLsbD 31 then 1 else 0:=by
 rw [BitVec.getLsbD,Nat.testBit_eq_decide_div_mod_eq]
 have:=v.isLt
 split
 ·rename_i h; simp at h; omega
 ·rename_i h; simp at h; omega
theorem bit_ofInt {x:Int} (h:0≤x∧x<4294967296):(BitVec.ofInt 32 x).getLsbD 31=decide (2147483648≤x):=by
 have e:(BitVec.ofInt 32 x).toNat=x.toNat:=by
  rw [BitVec.toNat_ofInt]
  have:x % (2 ^ 32:Nat)=x:=Int.emod_eq_of_lt h.1 (by simpa using h.2)
  rw [this]
 rw [BitVec.getLsbD,Nat.testBit_eq_decide_div_mod_eq,e]
 by_cases hx:2147483648≤x
 ·simp [hx]; omega
 ·simp [hx]; omega
theorem wrap_bv (v:BitVec 32):IntKind.u32.wrap (v.toNat:Int)=(v.toNat:Int):=by rw [wu32]; have:=v.isLt; omega
theorem ofInt_bv (v:BitVec 32):BitVec.ofInt 32 (v.toNat:Int)=v:=by simp
theorem andI_bv (x y:Int):andI .u32 x y=((BitVec.ofInt 32 x &&& BitVec.ofInt 32 y).toNat:Int):=wrap_bv _
theorem orI_bv (x y:Int):orI .u32 x y=((BitVec.ofInt 32 x ||| BitVec.ofInt 32 y).toNat:Int):=wrap_bv _
theorem xorI_bv (x y:Int):xorI .u32 x y=((BitVec.ofInt 32 x ^^^ BitVec.ofInt 32 y).toNat:Int):=wrap_bv _
theorem notI_bv (x:Int):notI .u32 x=((BitVec.allOnes 32 ^^^ BitVec.ofInt 32 x).toNat:Int):=by
 have e:BitVec.ofInt 32 (if IntKind.u32.signed then -1 else IntKind.u32.max)=BitVec.allOnes 32:=by decide
 unfold notI
 show IntKind.u32.wrap ((BitVec.ofInt 32 (if IntKind.u32.signed then -1 else IntKind.u32.max) ^^^ BitVec.ofInt 32 x).toNat:Int)=_
 rw [e]; exact wrap_bv _
theorem Sub32_eq {x y c:Int} (hx:0≤x∧x<4294967296) (hy:0≤y∧y<4294967296) (hc:0≤c∧c≤1):mb_Sub32 x y c=some ((x-y-c) % 4294967296,if x<y+c then 1 else 0):=by
 unfold mb_Sub32
 have hd:IntKind.u32.wrap (IntKind.u32.wrap (x-y)-c)=(x-y-c) % 4294967296:=by simp only [wu32]; omega
 rw [hd]
 have hd':0≤(x-y-c) % 4294967296∧(x-y-c) % 4294967296<4294967296:=by omega
 congr 2
 rw [notI_bv,xorI_bv,notI_bv,andI_bv,andI_bv,orI_bv]
 simp only [ofInt_bv]
 generalize hv:(BitVec.allOnes 32 ^^^ BitVec.ofInt 32 x) &&& BitVec.ofInt 32 y ||| (BitVec.allOnes 32 ^^^ (BitVec.ofInt 32 x ^^^ BitVec.ofInt 32 y)) &&& BitVec.ofInt 32 ((x-y-c) % 4294967296)=v
 have hs:shrI .u32 (v.toNat:Int) 31=((v.toNat / 2147483648:Nat):Int):=by
  unfold shrI
  simp [IntKind.bits]
  rw [Int.fdiv_eq_ediv_of_nonneg _ (by decide)]
 rw [hs,top_bit,← hv]
 simp only [BitVec.getLsbD_or,BitVec.getLsbD_and,BitVec.getLsbD_xor,BitVec.getLsbD_allOnes,bit_ofInt hx,bit_ofInt hy,bit_ofInt hd']
 by_cases h1:2147483648≤x<;>by_cases h2:2147483648≤y<;>by_cases h3:2147483648≤(x-y-c) % 4294967296<;>by_cases h4:x<y+c<;>simp [h1,h2,h3,h4]<;>omega
theorem dval_take_succ (l:List Int) (i:Nat):dval (l.take (i+1))=dval (l.take i)+4294967296 ^ i*(l.getD i 0).toNat:=by
 by_cases h:i<l.length
 ·have e:l.take (i+1)=l.take i++[l.getD i 0]:=by rw [List.take_add_one]; simp [List.getD,h]
  rw [e,dval_append]
  simp [dval,show min i l.length=i by omega]
 ·have e1:l.take (i+1)=l:=List.take_of_length_le (by omega)
  have e2:l.take i=l:=List.take_of_length_le (by omega)
  rw [e1,e2]; simp [List.getD,List.getElem?_eq_none (show l.length≤i by omega)]
theorem sub_loop {x y:List Int} (hxy:y.length≤x.length) (hx:Dig x) (hy:Dig y) (hl:x.length≤1099511627776):∀ (k i:Nat) (c:Int) (p:List Int),i+k=x.length→p.length=i→Dig p→0≤c∧c≤1→
  dval p+dval (y.take i)+4294967296 ^ i*0=dval (x.take i)+4294967296 ^ i*c.toNat→∀ n,k<n→
  nat_Sub_l2 x y n c (i:Int) (p++List.replicate k 0)=some (if dval x<dval y then ([],false) else (digs (dval x-dval y),true)):=by
 intro k
 induction k with
 | zero=>
  intro i c p hi hp hd hc hv n hn
  obtain ⟨n,rfl⟩:∃ k,n=k+1:=⟨n-1,by omega⟩
  rw [nat_Sub_l2,if_neg (by omega)]
  have e1:y.take i=y:=List.take_of_length_le (by omega)
  have e2:x.take i=x:=List.take_of_length_le (by omega)
  rw [e1,e2] at hv
  have hp':=dval_lt hd
  rw [hp] at hp'
  simp only [List.replicate_zero,List.append_nil]
  unfold nat_Sub_j1
  by_cases h1:c>0
  ·have:c=1:=by omega
   subst this
   simp only [Nat.mul_zero,Nat.add_zero,Int.toNat_one,Nat.mul_one] at hv
   rw [if_pos h1,if_pos (by omega)]
  ·have:c=0:=by omega
   subst this
   simp only [Nat.mul_zero,Nat.add_zero,Int.toNat_zero] at hv
   rw [if_neg h1,if_neg (by omega),nat_trim_eq hd (by omega)]
   simp only [Option.bind_some]
   congr 3; omega
 | succ k ih=>
  intro i c p hi hp hd hc hv n hn
  obtain ⟨n,rfl⟩:∃ k,n=k+1:=⟨n-1,by omega⟩
  have hx':=dig_getD hx i
  have hy':=dig_getD hy i
  have hw:IntKind.i64.wrap ((i:Int)+1)=((i+1:Nat):Int):=by rw [w64]<;>omega
  have hz:(kInt .u32).z=0:=rfl
  have step:nat_Sub_j3 (i:Int) x c (p++List.replicate (k+1) 0) (fun z0 z1 z2=>nat_Sub_l2 x y n z0 z1 z2) (y.getD i 0)=some (if dval x<dval y then ([],false) else (digs (dval x-dval y),true)):=by
   unfold nat_Sub_j3
   rw [if_pos (by omega),hz]
   simp only [Int.toNat_natCast]
   rw [Sub32_eq hx' hy' hc]
   simp only [Option.bind_some]
   rw [if_pos (by simp; omega),hw]
   have hset:(p++List.replicate (k+1) (0:Int)).set i ((x.getD i 0-y.getD i 0-c) % 4294967296)=(p++[(x.getD i 0-y.getD i 0-c) % 4294967296])++List.replicate k 0:=by
    rw [List.replicate_succ]; exact set_mid p _ 0 _ hp.symm
   rw [hset]
   have hd':Dig (p++[(x.getD i 0-y.getD i 0-c) % 4294967296]):=by
    intro d h
    rcases List.mem_append.1 h with h | h
    ·exact hd d h
    ·simp at h; omega
   refine ih (i+1) _ _ (by omega) (by simp [hp]) hd' (by split<;>omega) ?_ n (by omega)
   rw [dval_append,hp,dval_take_succ x i,dval_take_succ y i,Nat.pow_succ]
   simp only [dval]
   generalize 4294967296 ^ i=W at hv ⊢
   generalize dval (y.take i)=Y at hv ⊢
   generalize dval (x.take i)=X at hv ⊢
   generalize dval p=D at hv ⊢
   generalize x.getD i 0=a at hx' ⊢
   generalize y.getD i 0=b at hy' ⊢
   have h1:((a-b-c) % 4294967296).toNat+b.toNat+c.toNat=a.toNat+4294967296*(if a<b+c then (1:Int) else 0).toNat:=by
    split<;>simp<;>omega
   generalize ((a-b-c) % 4294967296).toNat=s at h1 ⊢
   generalize (if a<b+c then (1:Int) else 0).toNat=t at h1 ⊢
   generalize a.toNat=a' at *
   generalize b.toNat=b' at *
   generalize c.toNat=c' at *
   have h2:W*(s+b'+c')=W*(a'+4294967296*t):=by rw [h1]
   grind
  rw [nat_Sub_l2,if_pos (by omega)]
  by_cases hib:i<y.length
  ·rw [if_pos (by omega),if_pos (by omega),hz]
   simp only [Int.toNat_natCast]
   exact step
  ·rw [if_neg (by omega)]
   have:y.getD i 0=0:=by simp [List.getD,List.getElem?_eq_none (show y.length≤i by omega)]
   rw [this] at step
   exact step
theorem nat_Sub_eq {a b:List Int} (ha:Dig a) (hb:Dig b) (hl:a.length≤1099511627776) (hl':b.length≤1099511627776):nat_Sub a b=some (if dval a<dval b then ([],false) else (digs (dval a-dval b),true)):=by
 unfold nat_Sub
 have h1:=digs_len_le ha
 have h2:=digs_len_le hb
 rw [nat_trim_eq ha (by omega),nat_trim_eq hb (by omega)]
 simp only [Option.bind_some]
 split
 ·rename_i h
  rw [if_pos (digs_len_lt (by omega))]
 ·rename_i h
  rw [if_pos (by omega)]
  have hz:(kInt .u32).z=0:=rfl
  have:=sub_loop (x:=digs (dval a)) (y:=digs (dval b)) (by omega) (dgd _) (dgd _) (by omega) (digs (dval a)).length 0 0 [] (by omega) rfl (fun d h=>by cases h) (by omega) (by simp [dval]) fuel (by unfold fuel; omega)
  rw [dvd,dvd] at this
  exact this
def blen (n:Nat):Nat:=if n=0 then 0 else n.log2+1
theorem blen_lt (n:Nat):n<2 ^ blen n:=by
 unfold blen
 split
 ·subst_vars; decide
 ·exact Nat.lt_log2_self
theorem blen_le {n:Nat} (h:n≠0):2 ^ (blen n-1)≤n:=by
 unfold blen
 rw [if_neg h]
 exact Nat.log2_self_le h
theorem blen_eq {n k:Nat} (h1:2 ^ k≤n) (h2:n<2 ^ (k+1)):blen n=k+1:=by
 have h0:n≠0:=by have:=Nat.two_pow_pos k; omega
 unfold blen
 rw [if_neg h0,(Nat.log2_eq_iff h0).2 ⟨h1,h2⟩]
theorem blen_shift {n k:Nat} (h:n / 2 ^ k≠0):blen n=blen (n / 2 ^ k)+k:=by
 have h1:=blen_le h
 have h2:=blen_lt (n / 2 ^ k)
 have h3:0<blen (n / 2 ^ k):=by unfold blen; rw [if_neg h]; omega
 have e:blen (n / 2 ^ k)+k=(blen (n / 2 ^ k)-1+k)+1:=by omega
 rw [e]
 refine blen_eq ?_ ?_
 ·rw [Nat.pow_add]
  calc 2 ^ (blen (n / 2 ^ k)-1)*2 ^ k≤n / 2 ^ k*2 ^ k:=Nat.mul_le_mul_right _ h1
   _≤n:=Nat.div_mul_le_self _ _
 ·rw [← e,Nat.pow_add]
  exact (Nat.div_lt_iff_lt_mul (Nat.two_pow_pos k)).1 h2
theorem Len32_j2_eq {y k:Int} (hy:0≤y∧y<256) (hk:0≤k∧k≤24):mb_Len32_j2 y k=some (k+(blen y.toNat:Nat)):=by
 obtain ⟨m,rfl⟩:∃ m:Nat,y=m:=⟨y.toNat,by omega⟩
 have hm:m<256:=by omega
 have key:∀ m:Fin 256,∀ k:Fin 25,mb_Len32_j2 ((m.val:Nat):Int) ((k.val:Nat):Int)=some (((k.val:Nat):Int)+(blen m.val:Nat)):=by decide +kernel
 have:=key ⟨m,hm⟩ ⟨k.toNat,by omega⟩
 simp only [show ((k.toNat:Nat):Int)=k by omega] at this
 simpa using this
theorem shr32 {x:Int} {k:Nat} (hx:0≤x) (hk:k≤32):shrI .u32 x (k:Int)=x / (2 ^ k:Nat):=by
 unfold shrI
 simp only [Int.toNat_natCast,IntKind.bits]
 rw [show min k 32=k by omega,Int.fdiv_eq_ediv_of_nonneg _ (Int.pow_nonneg (by decide))]
 simp
theorem Len32_eq {x:Int} (hx:0≤x∧x<4294967296):mb_Len32 x=some ((blen x.toNat:Nat):Int):=by
 unfold mb_Len32 mb_Len32_j1
 have h16:=shr32 (x:=x) (k:=16) hx.1 (by decide)
 have e16:shrI .u32 x 16=x / 65536:=h16
 have f:∀ (y:Int) (k:Nat),y.toNat=x.toNat / 2 ^ k→0<y→(k:Int)+(blen y.toNat:Nat)=(blen x.toNat:Nat):=by
  intro y k h1 h2
  rw [h1,blen_shift (n:=x.toNat) (k:=k) (by omega)]
  omega
 have e8:∀ z:Int,0≤z→shrI .u32 z 8=z / 256:=fun z hz=>by
  have:=shr32 (x:=z) (k:=8) hz (by decide)
  exact this
 by_cases h1:x≥65536
 ·rw [if_pos h1,e16]
  by_cases h2:x / 65536≥256
  ·rw [if_pos h2,e8 _ (by omega)]
   have hw:IntKind.i64.wrap ((16:Int)+8)=24:=by decide
   rw [hw,Len32_j2_eq (by omega) (by omega)]
   congr 1
   exact f (x / 65536 / 256) 24 (by omega) (by omega)
  ·rw [if_neg h2,Len32_j2_eq (by omega) (by omega)]
   congr 1
   exact f (x / 65536) 16 (by omega) (by omega)
 ·rw [if_neg h1]
  by_cases h2:x≥256
  ·rw [if_pos h2,e8 _ (by omega)]
   have hw:IntKind.i64.wrap ((0:Int)+8)=8:=by decide
   rw [hw,Len32_j2_eq (by omega) (by omega)]
   congr 1
   exact f (x / 256) 8 (by omega) (by omega)
  ·rw [if_neg h2,Len32_j2_eq (by omega) (by omega)]
   simp
theorem pow32 (k:Nat):4294967296 ^ k=2 ^ (32*k):=by rw [Nat.pow_mul]
theorem dval_div {l:List Int} (h:Dig l) (k:Nat) (hk:k≤l.length):dval l / 4294967296 ^ k=dval (l.drop k):=by
 have h1:=dval_lt (dig_take h k)
 rw [dval_split l k]
 simp only [List.length_take,show min k l.length=k by omega] at h1 ⊢
 rw [Nat.add_mul_div_left _ _ (Nat.pow_pos (by decide)),Nat.div_eq_of_lt h1,Nat.zero_add]
theorem digs_len_pos {n:Nat} (h:n≠0):0<(digs n).length:=by unfold digs; rw [dif_neg h]; simp
theorem digs_top {n:Nat} (h:n≠0):n / 4294967296 ^ ((digs n).length-1)=((digs n).getD ((digs n).length-1) 0).toNat∧(digs n).getD ((digs n).length-1) 0≠0:=by
 have hp:=digs_len_pos h
 have h1:=dval_div (dgd n) ((digs n).length-1) (by omega)
 rw [dvd,drop_cons (by omega),show (digs n).length-1+1=(digs n).length by omega,List.drop_length] at h1
 simp only [dval,Nat.mul_zero,Nat.add_zero] at h1
 refine ⟨h1,fun h0=>?_⟩
 rw [h0] at h1
 have h2:=digs_ge h
 have h3:0<n / 4294967296 ^ ((digs n).length-1):=Nat.div_pos h2 (Nat.pow_pos (by decide))
 simp at h1; omega
theorem nat_Bits_eq {a:List Int} (ha:Dig a) (hl:a.length≤1099511627776):nat_Bits a=some ((blen (dval a):Nat):Int):=by
 unfold nat_Bits
 have h1:=digs_len_le ha
 rw [nat_trim_eq ha (by omega)]
 simp only [Option.bind_some]
 generalize dval a=n at *
 by_cases h0:n=0
 ·subst h0
  rw [digs_zero]
  simp [blen]
 ·have hp:=digs_len_pos h0
  obtain ⟨t1,t2⟩:=digs_top h0
  have hd:=dig_getD (dgd n) ((digs n).length-1)
  have hz:(kInt .u32).z=0:=rfl
  have hw:IntKind.i64.wrap (((digs n).length:Int)-1)=(((digs n).length-1:Nat):Int):=by rw [w64]<;>omega
  rw [if_neg (by omega),hw,if_pos (by omega),hz]
  simp only [Int.toNat_natCast]
  rw [Len32_eq hd]
  try simp only [Option.bind_some]
  have hb:blen n=blen ((digs n).getD ((digs n).length-1) 0).toNat+32*((digs n).length-1):=by
   have:=blen_shift (n:=n) (k:=32*((digs n).length-1)) (by rw [← pow32,t1]; omega)
   rw [← pow32,t1] at this; exact this
  have hle:blen ((digs n).getD ((digs n).length-1) 0).toNat≤32:=by
   have h5:((digs n).getD ((digs n).length-1) 0).toNat≠0:=by omega
   have h6:=blen_le h5
   rcases Nat.lt_or_ge 32 (blen ((digs n).getD ((digs n).length-1) 0).toNat) with h7 | h7
   ·have:2 ^ 32≤2 ^ (blen ((digs n).getD ((digs n).length-1) 0).toNat-1):=Nat.pow_le_pow_right (by decide) (by omega)
    omega
   ·exact h7
  rw [w64 (x:=32*(((digs n).length-1:Nat):Int)) (by omega) (by omega),w64 (by omega) (by omega),hb]
  congr 1; omega
theorem toNat_ofInt32 {x:Int} (h:0≤x∧x<4294967296):(BitVec.ofInt 32 x).toNat=x.toNat:=by
 rw [BitVec.toNat_ofInt]
 have:x % (2 ^ 32:Nat)=x:=Int.emod_eq_of_lt h.1 (by simpa using h.2)
 rw [this]
theorem pow_lt32 {k:Nat} (hk:k<32):(2:Nat) ^ k<4294967296:=Nat.pow_lt_pow_right (by decide) hk
theorem and_pow (n k:Nat):n &&& 2 ^ k=if n.testBit k then 2 ^ k else 0:=by
 apply Nat.eq_of_testBit_eq
 intro i
 rw [Nat.testBit_and,Nat.testBit_two_pow]
 by_cases h:k=i
 ·subst h
  cases e:n.testBit k<;>simp [Nat.testBit_two_pow]
 ·cases e:n.testBit k<;>simp [h,Nat.testBit_two_pow]
theorem shl_one {k:Nat} (hk:k<32):shlI .u32 1 (k:Int)=((2 ^ k:Nat):Int):=by
 unfold shlI
 simp only [Int.toNat_natCast,IntKind.bits]
 have hp:=pow_lt32 hk
 rw [show min k 32=k by omega]
 have h2:(1:Int)*2 ^ k=((2 ^ k:Nat):Int):=by simp
 rw [h2]
 generalize (2:Nat) ^ k=n at hp
 rw [wu32]; omega
theorem and_bit {x:Int} (h:0≤x∧x<4294967296) {k:Nat} (hk:k<32):(andI .u32 x (shlI .u32 1 (k:Int)) != 0)=x.toNat.testBit k:=by
 have hp:=pow_lt32 hk
 rw [shl_one hk,andI_bv,BitVec.toNat_and,toNat_ofInt32 h]
 have h3:(BitVec.ofInt 32 ((2 ^ k:Nat):Int)).toNat=2 ^ k:=by
  generalize (2:Nat) ^ k=n at hp
  rw [toNat_ofInt32 (by omega),Int.toNat_natCast]
 rw [h3,and_pow]
 have h4:0<2 ^ k:=Nat.pow_pos (by decide)
 cases x.toNat.testBit k with
 | false=>simp
 | true=>
  generalize (2:Nat) ^ k=n at h4
  simp; omega
theorem testBit_dval:∀ (l:List Int) (_:Dig l) (i:Nat),(dval l).testBit i=((l.getD (i / 32) 0).toNat).testBit (i % 32)
 | [],_,i=>by simp [dval]
 | d :: l,h,i=>by
  have h1:=h d List.mem_cons_self
  have h2:=testBit_dval l fun x hx=>h x (List.mem_cons_of_mem _ hx)
  have e:dval (d :: l)=2 ^ 32*dval l+d.toNat:=by simp only [dval]; omega
  rw [e,Nat.testBit_two_pow_mul_add _ (by omega)]
  by_cases hi:i<32
  ·rw [if_pos hi,show i / 32=0 by omega,show i % 32=i by omega]; simp
  ·rw [if_neg hi,h2,show i / 32=(i-32) / 32+1 by omega,show i % 32=(i-32) % 32 by omega]; simp
theorem nat_Bit_eq {a:List Int} (ha:Dig a) {i:Nat} (hi:i≤1099511627776):nat_Bit a (i:Int)=some ((dval a).testBit i):=by
 unfold nat_Bit nat_Bit_j1
 have hw:IntKind.i64.wrap ((i:Int).tdiv 32)=((i / 32:Nat):Int):=by
  have:(i:Int).tdiv 32=((i / 32:Nat):Int):=by rw [Int.tdiv_eq_ediv_of_nonneg (by omega)]; omega
  rw [this,w64]<;>omega
 have hm:(i:Int).tmod 32=((i % 32:Nat):Int):=by rw [Int.tmod_eq_emod_of_nonneg (by omega)]; omega
 have hz:(kInt .u32).z=0:=rfl
 rw [if_pos (by omega),hw,hm,testBit_dval a ha i,hz]
 split
 ·rename_i h
  rw [if_pos (by omega),if_pos (by omega)]
  simp only [Int.toNat_natCast]
  rw [and_bit (dig_getD ha _) (by omega)]
 ·rename_i h
  simp [List.getD,List.getElem?_eq_none (show a.length≤i / 32 by omega)]
theorem u64n {x:Nat} (h:x<18446744073709551616):IntKind.u64.wrap (x:Int)=(x:Int):=by rw [wu64]; omega
theorem u32n (x:Nat):IntKind.u32.wrap (x:Int)=((x % 4294967296:Nat):Int):=by rw [wu32]; omega
theorem shl64n {x s:Nat} (hs:s≤64) (h:x*2 ^ s<18446744073709551616):shlI .u64 (x:Int) (s:Int)=((x*2 ^ s:Nat):Int):=by
 unfold shlI
 simp only [Int.toNat_natCast,IntKind.bits]
 rw [show min s 64=s by omega]
 have:(x:Int)*2 ^ s=((x*2 ^ s:Nat):Int):=by simp
 rw [this,u64n h]
theorem shr64n (x:Nat) {s:Nat} (hs:s≤64):shrI .u64 (x:Int) (s:Int)=((x / 2 ^ s:Nat):Int):=by
 unfold shrI
 simp only [Int.toNat_natCast,IntKind.bits]
 rw [show min s 64=s by omega,Int.fdiv_eq_ediv_of_nonneg _ (by exact_mod_cast Nat.zero_le (2 ^ s))]
 simp
theorem or32n {x y:Nat} (hx:x<4294967296) (hy:y<4294967296):orI .u32 (x:Int) (y:Int)=((x ||| y:Nat):Int):=by
 rw [orI_bv,BitVec.toNat_or,toNat_ofInt32 (by omega),toNat_ofInt32 (by omega)]; simp
theorem or64n {x y:Nat} (hx:x<18446744073709551616) (hy:y<18446744073709551616):orI .u64 (x:Int) (y:Int)=((x ||| y:Nat):Int):=by
 have t:∀ {z:Nat},z<18446744073709551616→(BitVec.ofInt 64 (z:Int)).toNat=z:=by
  intro z hz
  simp [BitVec.toNat_ofInt]; omega
 show IntKind.u64.wrap ((BitVec.ofInt 64 (x:Int) ||| BitVec.ofInt 64 (y:Int)).toNat:Int)=_
 rw [BitVec.toNat_or,t hx,t hy,u64n (Nat.or_lt_two_pow (n:=64) hx hy)]
theorem or_add {x s:Nat} (y:Nat) (h:x<2 ^ s):x ||| (2 ^ s*y)=x+2 ^ s*y:=by
 rw [Nat.or_comm,← Nat.two_pow_add_eq_or_of_lt h,Nat.add_comm]
theorem digN {l:List Int} (h:Dig l) (i:Nat):∃ d:Nat,l.getD i 0=(d:Int)∧d<4294967296:=by
 have:=dig_getD h i
 exact ⟨(l.getD i 0).toNat,by omega,by omega⟩
theorem tdiv32 (n:Nat):(n:Int).tdiv 32=((n / 32:Nat):Int):=by rw [Int.tdiv_eq_ediv_of_nonneg (by omega)]; omega
theorem tmod32 (n:Nat):(n:Int).tmod 32=((n % 32:Nat):Int):=by rw [Int.tmod_eq_emod_of_nonneg (by omega)]; omega
theorem kz:(kInt .u32).z=0:=rfl
theorem w64n {n:Nat} (h:n≤9223372036854775807):IntKind.i64.wrap (n:Int)=(n:Int):=by rw [w64]<;>omega
theorem mul_lt64 {x y:Nat} (hx:x<4294967296) (hy:y<4294967296):x*y<18446744073709551616:=by
 have:x*y≤4294967295*4294967295:=Nat.mul_le_mul (by omega) (by omega)
 omega
theorem p32:(2:Nat) ^ 32=4294967296:=by decide
theorem split32 {s:Nat} (h:s≤32):4294967296=2 ^ s*2 ^ (32-s):=by rw [← Nat.pow_add,show s+(32-s)=32 by omega]
theorem shr32n (x:Nat):shrI .u64 (x:Int) 32=((x / 4294967296:Nat):Int):=by
 rw [← p32]; exact shr64n x (s:=32) (by omega)
theorem shl_alg {X A B W o V S ll hh d:Nat} (h2:X+A*B*o=A*(V*S)+A*B*(o+ll)) (e2:W*hh+ll=d*S):X+A*B*W*hh=A*((V+B*d)*S):=by
 have h3:A*B*(W*hh+ll)=A*B*(d*S):=by rw [e2]
 have h4:X=A*(V*S)+A*B*ll:=by
  rw [Nat.mul_add] at h2; omega
 rw [h4]
 have h5:A*((V+B*d)*S)=A*(V*S)+A*B*(d*S):=by
  rw [Nat.add_mul,Nat.mul_add]; simp [Nat.mul_assoc]
 rw [h5,← h3,Nat.mul_add]
 simp only [Nat.mul_assoc]; omega
theorem wpow1 (x y:Nat):4294967296 ^ (x+y)=4294967296 ^ x*4294967296 ^ y:=by rw [Nat.pow_add]
theorem wpow2 (x y:Nat):4294967296 ^ (x+y+1)=4294967296 ^ x*4294967296 ^ y*4294967296:=by rw [Nat.pow_succ,Nat.pow_add]
theorem shl_step {a O:List Int} {q i d o S:Nat} (hl:q+i+1<O.length) (hv:dval O=4294967296 ^ q*(dval (a.take i)*S)) (hz:O.getD (q+i+1) 0=0) (ho:O.getD (q+i) 0=(o:Int)) (hd:a.getD i 0=(d:Int)) :
  dval ((O.set (q+i) ((o+d*S % 4294967296:Nat):Int)).set (q+i+1) ((d*S / 4294967296:Nat):Int))=4294967296 ^ q*(dval (a.take (i+1))*S):=by
 have h1:=dval_set (O.set (q+i) ((o+d*S % 4294967296:Nat):Int)) (q+i+1) ((d*S / 4294967296:Nat):Int) (by rw [List.length_set]; omega)
 have h2:=dval_set O (q+i) ((o+d*S % 4294967296:Nat):Int) (by omega)
 rw [getD_set_ne _ _ (by omega),hz] at h1
 rw [ho,hv] at h2
 rw [Int.toNat_natCast,Int.toNat_natCast,wpow1] at h2
 rw [Int.toNat_natCast,Int.toNat_zero,Nat.mul_zero,Nat.add_zero,wpow2] at h1
 rw [h1,dval_take_succ,hd,Int.toNat_natCast]
 exact shl_alg h2 (Nat.div_add_mod (d*S) 4294967296)
theorem shl_loop {a:List Int} (ha:Dig a) {n:Nat} (hn:n≤100000) (hl:a.length≤1099511627776) :
  ∀ (r i:Nat) (O:List Int),i+r=a.length→Dig O→O.length=n / 32+a.length+1→dval O=4294967296 ^ (n / 32)*(dval (a.take i)*2 ^ (n % 32))→(O.getD (n / 32+i) 0).toNat<2 ^ (n % 32)→(∀ j,n / 32+i<j→O.getD j 0=0)→
   ∀ f,r<f→nat_Shl_l3 a (n:Int) f (i:Int) O=some (digs (dval a*2 ^ n),true):=by
 intro r
 induction r with
 | zero=>
  intro i O hi hO hlO hv hc hz f hf
  obtain ⟨f,rfl⟩:∃ k,f=k+1:=⟨f-1,by omega⟩
  rw [nat_Shl_l3,if_neg (by omega)]
  unfold nat_Shl_j2
  rw [nat_trim_eq hO (by omega),hv,List.take_of_length_le (by omega)]
  have e:4294967296 ^ (n / 32)*(dval a*2 ^ (n % 32))=dval a*2 ^ n:=by
   conv=>rhs; rw [← Nat.div_add_mod n 32,Nat.pow_add,← pow32]
   grind
  rw [e]; rfl
 | succ r ih=>
  intro i O hi hO hlO hv hc hz f hf
  obtain ⟨f,rfl⟩:∃ k,f=k+1:=⟨f-1,by omega⟩
  obtain ⟨d,hd,hd'⟩:=digN ha i
  obtain ⟨o,ho,ho'⟩:=digN hO (n / 32+i)
  have hs:n % 32<32:=by omega
  have hps:=pow_lt32 hs
  have hw1:IntKind.i64.wrap ((n / 32:Nat):Int)=((n / 32:Nat):Int):=w64n (by omega)
  have hw2:IntKind.i64.wrap (((n / 32:Nat):Int)+(i:Int))=((n / 32+i:Nat):Int):=by rw [w64]<;>omega
  have hw3:IntKind.i64.wrap (((n / 32+i:Nat):Int)+1)=((n / 32+i+1:Nat):Int):=by rw [w64]<;>omega
  have hw4:IntKind.i64.wrap ((i:Int)+1)=((i+1:Nat):Int):=by rw [w64]<;>omega
  have hb:d*2 ^ (n % 32)<18446744073709551616:=mul_lt64 hd' hps
  have hsplit:=split32 (show n % 32≤32 by omega)
  rw [nat_Shl_l3,if_pos (by omega),if_pos (by omega),tdiv32,tmod32,hw1,hw2,hw3,hw4,kz]
  simp only [Int.toNat_natCast]
  rw [hd,ho,u64n (by omega),shl64n (by omega) hb,shr32n,u32n,u32n]
  rw [if_pos (by omega),if_pos (by omega),if_pos (by omega),if_pos (by rw [List.length_set]; omega)]
  rw [ho] at hc
  simp only [Int.toNat_natCast] at hc
  have hlow:d*2 ^ (n % 32) % 4294967296=2 ^ (n % 32)*(d % 2 ^ (32-n % 32)):=by
   conv=>lhs; rw [hsplit,Nat.mul_comm d]
   exact Nat.mul_mod_mul_left _ _ _
  have hor:orI .u32 (o:Int) ((d*2 ^ (n % 32) % 4294967296:Nat):Int)=((o+d*2 ^ (n % 32) % 4294967296:Nat):Int):=by
   rw [or32n ho' (Nat.mod_lt _ (by decide)),hlow,or_add _ hc]
  have hhi:d*2 ^ (n % 32) / 4294967296<2 ^ (n % 32):=by
   rw [Nat.div_lt_iff_lt_mul (by decide),Nat.mul_comm]
   exact Nat.mul_lt_mul_of_pos_left hd' (Nat.pow_pos (by decide))
  have hsum:o+d*2 ^ (n % 32) % 4294967296<4294967296:=by
   have h1:2 ^ (n % 32)*(d % 2 ^ (32-n % 32))+2 ^ (n % 32)≤4294967296:=by
    have h2:d % 2 ^ (32-n % 32)+1≤2 ^ (32-n % 32):=Nat.mod_lt _ (Nat.pow_pos (by decide))
    calc 2 ^ (n % 32)*(d % 2 ^ (32-n % 32))+2 ^ (n % 32)=2 ^ (n % 32)*(d % 2 ^ (32-n % 32)+1):=by rw [Nat.mul_add,Nat.mul_one]
     _≤2 ^ (n % 32)*2 ^ (32-n % 32):=Nat.mul_le_mul_left _ h2
     _=4294967296:=hsplit.symm
   rw [hlow]; omega
  have hhi':d*2 ^ (n % 32) / 4294967296 % 4294967296=d*2 ^ (n % 32) / 4294967296:=Nat.mod_eq_of_lt (by omega)
  rw [hor,hhi']
  refine ih (i+1) _ (by omega) (dig_set (dig_set hO _ (by omega)) _ (by omega)) (by simp [hlO]) ?_ ?_ ?_ f (by omega)
  ·exact shl_step (S:=2 ^ (n % 32)) (by omega) hv (hz _ (by omega)) ho hd
  ·simp only [show n / 32+(i+1)=n / 32+i+1 by omega]
   rw [List.getD_eq_getElem?_getD,List.getElem?_set_self (by rw [List.length_set]; omega)]
   simp only [Option.getD_some,Int.toNat_natCast]
   exact hhi
  ·intro j hj
   rw [getD_set_ne _ _ (by omega),getD_set_ne _ _ (by omega)]
   exact hz j (by omega)
theorem getD_replicate (n j:Nat):(List.replicate n (0:Int)).getD j 0=0:=by
 simp only [List.getD,List.getElem?_replicate]
 split<;>rfl
theorem dig_replicate (n:Nat):Dig (List.replicate n 0):=fun d hd=>by rw [List.eq_of_mem_replicate hd]; omega
theorem nat_Shl_eq {a:List Int} (ha:Dig a) (hl:a.length≤1099511627776) {n:Nat} (hn:n≤100000):nat_Shl a (n:Int)=some (digs (dval a*2 ^ n),true):=by
 unfold nat_Shl
 have h1:=digs_len_le ha
 rw [if_neg (by omega),show decide ((n:Int)>100000)=false by simp; omega]
 unfold nat_Shl_j1
 rw [if_neg (by simp),nat_trim_eq ha (by omega)]
 simp only [Option.bind_some]
 rw [tdiv32,w64n (n:=n / 32) (by omega)]
 have hw:IntKind.i64.wrap (((n / 32:Nat):Int)+((digs (dval a)).length:Int))=((n / 32+(digs (dval a)).length:Nat):Int):=by rw [w64]<;>omega
 have hw2:IntKind.i64.wrap (((n / 32+(digs (dval a)).length:Nat):Int)+1)=((n / 32+(digs (dval a)).length+1:Nat):Int):=by rw [w64]<;>omega
 rw [hw,hw2,kz,if_pos (by omega)]
 simp only [Int.toNat_natCast]
 have:=shl_loop (dgd (dval a)) hn (by omega) (digs (dval a)).length 0 (List.replicate (n / 32+(digs (dval a)).length+1) 0) (by omega) (dig_replicate _) (by simp) (by simp [dval_replicate,dval]) (by rw [getD_replicate]; exact Nat.pow_pos (by decide)) (fun j _=>getD_replicate _ _) fuel (by unfold fuel; omega)
 rw [dvd] at this
 exact this
theorem shr_alg {x y z b c s:Nat} (hs:s≤32) (hx:x=b+4294967296*y) (hb:b<4294967296) (hy:y=c+4294967296*z) :
  x / 2 ^ s=(b+4294967296*c) / 2 ^ s % 4294967296+4294967296*(y / 2 ^ s):=by
 have hsp:=split32 hs
 have hp:0<2 ^ s:=Nat.pow_pos (by decide)
 have e1:x / 2 ^ s / 4294967296=y / 2 ^ s:=by
  rw [Nat.div_div_eq_div_mul,Nat.mul_comm,← Nat.div_div_eq_div_mul]
  congr 1; omega
 have e2:x / 2 ^ s % 4294967296=(b+4294967296*c) / 2 ^ s % 4294967296:=by
  have h1:x=(b+4294967296*c)+2 ^ s*(2 ^ (32-s)*(4294967296*z)):=by
   rw [← Nat.mul_assoc,← hsp]; omega
  rw [h1,Nat.add_mul_div_left _ _ hp,← Nat.mul_assoc,Nat.mul_comm (2 ^ (32-s)),Nat.mul_assoc,Nat.add_mul_mod_self_left]
 rw [← e1,← e2]
 omega
theorem or_hi {b c:Nat} (hb:b<4294967296):b ||| (c*4294967296)=b+4294967296*c:=by
 rw [Nat.mul_comm,← p32]
 exact or_add c (by rw [p32]; exact hb)
theorem shr_step {O:List Int} {i v r t:Nat} (hl:i<O.length) (hz:O.getD i 0=0) (h:dval O+4294967296 ^ i*(v+4294967296*r)=t):dval (O.set i (v:Int))+4294967296 ^ (i+1)*r=t:=by
 have h1:=dval_set O i (v:Int) hl
 rw [hz,Int.toNat_zero,Nat.mul_zero,Nat.add_zero,Int.toNat_natCast] at h1
 rw [h1,← h,Nat.mul_add,Nat.pow_succ,Nat.mul_assoc,Nat.add_assoc]
theorem shr_loop {a b:List Int} {n s:Nat} (hb:Dig b) (hs:n % 32=s) (he:(a.take a.length).drop (n / 32)=b) (hn:n≤1099511627776) (hl:b.length≤1099511627776) :
  ∀ (r i:Nat) (O:List Int),i+r=b.length→Dig O→O.length=b.length→dval O+4294967296 ^ i*(dval (b.drop i) / 2 ^ s)=dval b / 2 ^ s→(∀ j,i≤j→O.getD j 0=0)→
   ∀ f,r<f→nat_Shr_l2 a (n:Int) f (i:Int) O=some (digs (dval b / 2 ^ s)):=by
 have hw1:IntKind.i64.wrap ((n / 32:Nat):Int)=((n / 32:Nat):Int):=w64n (by omega)
 intro r
 induction r with
 | zero=>
  intro i O hi hO hlO hv hz f hf
  obtain ⟨f,rfl⟩:∃ k,f=k+1:=⟨f-1,by omega⟩
  rw [nat_Shr_l2,tdiv32,hw1]
  simp only [Int.toNat_natCast]
  rw [he,if_neg (by omega)]
  unfold nat_Shr_j1
  rw [nat_trim_eq hO (by omega)]
  rw [List.drop_eq_nil_of_le (by omega)] at hv
  rw [← hv]
  simp [dval]
 | succ r ih=>
  intro i O hi hO hlO hv hz f hf
  obtain ⟨f,rfl⟩:∃ k,f=k+1:=⟨f-1,by omega⟩
  obtain ⟨d,hd,hd'⟩:=digN hb i
  obtain ⟨c,hc,hc'⟩:=digN hb (i+1)
  have hw4:IntKind.i64.wrap ((i:Int)+1)=((i+1:Nat):Int):=by rw [w64]<;>omega
  rw [nat_Shr_l2,tdiv32,hw1]
  simp only [Int.toNat_natCast]
  rw [he,if_pos (by omega),if_pos (by omega),hw4]
  simp only [Int.toNat_natCast]
  rw [kz,hd,hc,u64n (by omega),u64n (by omega)]
  have hsh:shlI .u64 (c:Int) 32=((c*4294967296:Nat):Int):=by
   have:=shl64n (x:=c) (s:=32) (by omega) (by rw [p32]; omega)
   rw [p32] at this; exact this
  have hx:dval (b.drop i)=d+4294967296*dval (b.drop (i+1)):=by rw [dval_drop b i,hd,Int.toNat_natCast]
  have hy:dval (b.drop (i+1))=c+4294967296*dval (b.drop (i+1+1)):=by rw [dval_drop b (i+1),hc,Int.toNat_natCast]
  have key:=shr_alg (s:=s) (by omega) hx hd' hy
  have hv2:∀ v,v=d+4294967296*c→v<18446744073709551616→nat_Shr_j3 (n:Int) (i:Int) O (fun z0 z1=>nat_Shr_l2 a (n:Int) f z0 z1) (v:Int)=some (digs (dval b / 2 ^ s)):=by
   intro v hv' hv''
   unfold nat_Shr_j3
   rw [tmod32,hs,if_pos (by omega),if_pos (by simp only [Int.toNat_natCast]; omega),shr64n _ (by omega),u32n,hw4]
   simp only [Int.toNat_natCast]
   have hlt:v / 2 ^ s % 4294967296<4294967296:=Nat.mod_lt _ (by decide)
   refine ih (i+1) _ (by omega) (dig_set hO _ (by omega)) (by simp [hlO]) ?_ ?_ f (by omega)
   ·rw [key] at hv
    rw [hv']
    exact shr_step (by omega) (hz i (by omega)) hv
   ·intro j hj
    rw [getD_set_ne _ _ (by omega)]
    exact hz j (by omega)
  rw [hsh,or64n (by omega) (by omega),or_hi hd']
  split
  ·rw [if_pos (by omega)]
   exact hv2 _ rfl (by omega)
  ·rename_i hlast
   refine hv2 _ ?_ (by omega)
   have:b.getD (i+1) 0=0:=by simp [List.getD,List.getElem?_eq_none (show b.length≤i+1 by omega)]
   rw [this] at hc
   omega
theorem pow_div {x n:Nat} : x / 4294967296 ^ (n / 32) / 2 ^ (n % 32)=x / 2 ^ n:=by
 rw [Nat.div_div_eq_div_mul,pow32,← Nat.pow_add,Nat.div_add_mod]
theorem nat_Shr_eq {a:List Int} (ha:Dig a) (hl:a.length≤1099511627776) {n:Nat} (hn:n≤1099511627776):nat_Shr a (n:Int)=some (digs (dval a / 2 ^ n)):=by
 unfold nat_Shr
 have h1:=digs_len_le ha
 rw [nat_trim_eq ha (by omega)]
 simp only [Option.bind_some]
 rw [if_neg (by omega),tdiv32,w64n (n:=n / 32) (by omega)]
 have hdl:=dval_lt (dgd (dval a))
 rw [dvd] at hdl
 split
 ·rename_i h
  have:dval a / 2 ^ n=0:=by
   rw [← pow_div]
   have:dval a / 4294967296 ^ (n / 32)=0:=Nat.div_eq_of_lt (Nat.lt_of_lt_of_le hdl (Nat.pow_le_pow_right (by decide) (by omega)))
   rw [this,Nat.zero_div]
  rw [this,digs_zero]
 ·rename_i h
  rw [if_pos (by omega)]
  simp only [Int.toNat_natCast]
  have hb:Dig (((digs (dval a)).take (digs (dval a)).length).drop (n / 32)):=dig_drop (dig_take (dgd _) _) _
  have hlen:(((digs (dval a)).take (digs (dval a)).length).drop (n / 32)).length=(digs (dval a)).length-n / 32:=by simp
  have hval:dval (((digs (dval a)).take (digs (dval a)).length).drop (n / 32))=dval a / 4294967296 ^ (n / 32):=by
   rw [List.take_length,← dval_div (dgd _) _ (by omega),dvd]
  rw [if_pos (by omega),kz]
  generalize hB:((digs (dval a)).take (digs (dval a)).length).drop (n / 32)=B at hb hlen hval ⊢
  have:=shr_loop (a:=digs (dval a)) (n:=n) hb rfl hB (by omega) (by omega) B.length 0 (List.replicate B.length 0) (by omega) (dig_replicate _) (by simp) (by simp [dval_replicate]) (fun j _=>getD_replicate _ _) fuel (by rw [hlen]; unfold fuel; omega)
  rw [hval,pow_div] at this
  exact this
theorem shl32n {x:Nat} (h:x<4294967296):shlI .u64 (x:Int) 32=((x*4294967296:Nat):Int):=by
 have:=shl64n (x:=x) (s:=32) (by omega) (by rw [p32]; omega)
 rw [p32] at this; exact this
theorem tdivn (x y:Nat):(x:Int).tdiv (y:Int)=((x / y:Nat):Int):=by rw [Int.tdiv_eq_ediv_of_nonneg (by omega)]; simp
theorem tmodn (x y:Nat):(x:Int).tmod (y:Int)=((x % y:Nat):Int):=by rw [Int.tmod_eq_emod_of_nonneg (by omega)]; simp
theorem or_lo {h l:Nat} (hl:l<4294967296):(h*4294967296) ||| l=h*4294967296+l:=by
 rw [Nat.or_comm,or_hi hl]; omega
theorem Div32_eq {h l d:Nat} (hh:h<d) (hl:l<4294967296) (hd:d<4294967296) :
  mb_Div32 (h:Int) (l:Int) (d:Int)=some ((((h*4294967296+l) / d:Nat):Int),(((h*4294967296+l) % d:Nat):Int)):=by
 unfold mb_Div32
 rw [if_pos (by omega),show decide ((d:Int)≤(h:Int))=false by simp; omega]
 unfold mb_Div32_j1
 have h1:(h*4294967296+l) / d<4294967296:=by
  rw [Nat.div_lt_iff_lt_mul (by omega)]
  have:(h+1)*4294967296≤d*4294967296:=Nat.mul_le_mul_right _ hh
  rw [Nat.mul_comm 4294967296 d]
  omega
 have h2:(h*4294967296+l) % d<d:=Nat.mod_lt _ (by omega)
 rw [if_neg (by simp),u64n (by omega),u64n (by omega),u64n (by omega),if_pos (by omega),if_pos (by omega),shl32n (by omega),or64n (by omega) (by omega),or_lo hl,tdivn,tmodn,u64n (by omega),u32n,u32n,Nat.mod_eq_of_lt h1,Nat.mod_eq_of_lt (by omega)]
theorem drop_set (l:List Int) {i j:Nat} (v:Int) (h:i<j):(l.set i v).drop j=l.drop j:=List.drop_set_of_lt h
theorem getD_set (l:List Int) {i:Nat} (v:Int) (h:i<l.length):(l.set i v).getD i 0=v:=by
 rw [List.getD_eq_getElem?_getD,List.getElem?_set_self h]; rfl
theorem short_alg {x y d r a W:Nat} (h:x=y*d+r):a+W*x=((r*W+a) / d+W*y)*d+(r*W+a) % d:=by
 have h1:=Nat.div_add_mod (r*W+a) d
 rw [h]
 generalize (r*W+a) / d=g at *
 generalize (r*W+a) % d=m at *
 grind
theorem digC {n:Nat} (h:n<4294967296):0≤(n:Int)∧(n:Int)<4294967296:=by omega
theorem short_loop {a:List Int} (ha:Dig a) (hl:a.length≤1099511627776) {d:Nat} (hd0:0<d) (hd:d<4294967296) :
  ∀ (j:Nat) (r:Nat) (Q:List Int),j≤a.length→Dig Q→Q.length=a.length→r<d→dval (a.drop j)=dval (Q.drop j)*d+r→
   ∀ f,j<f→quo_short_l2 a (d:Int) f (r:Int) ((a.length-j:Nat):Int) Q=some (digs (dval a / d),digs (dval a % d),true):=by
 intro j
 induction j with
 | zero=>
  intro r Q hj hQ hlQ hr hv f hf
  obtain ⟨f,rfl⟩:∃ k,f=k+1:=⟨f-1,by omega⟩
  rw [quo_short_l2,if_neg (by omega)]
  unfold quo_short_j1
  rw [nat_Trim_eq hQ (by omega),u64n (by omega),nat_From_eq (by omega) (by omega)]
  rw [List.drop_zero,List.drop_zero] at hv
  have e1:dval a / d=dval Q:=by
   rw [hv,Nat.mul_comm,Nat.mul_add_div hd0,Nat.div_eq_of_lt hr,Nat.add_zero]
  have e2:dval a % d=r:=by
   rw [hv,Nat.mul_comm,Nat.mul_add_mod,Nat.mod_eq_of_lt hr]
  rw [e1,e2]; rfl
 | succ j ih=>
  intro r Q hj hQ hlQ hr hv f hf
  obtain ⟨f,rfl⟩:∃ k,f=k+1:=⟨f-1,by omega⟩
  obtain ⟨x,hx,hx'⟩:=digN ha j
  have hw1:IntKind.i64.wrap (IntKind.i64.wrap ((a.length:Int)-1)-((a.length-(j+1):Nat):Int))=(j:Int):=by
   rw [w64 (x:=(a.length:Int)-1) (by omega) (by omega),w64]<;>omega
  have hw2:IntKind.i64.wrap (((a.length-(j+1):Nat):Int)+1)=((a.length-j:Nat):Int):=by rw [w64]<;>omega
  rw [quo_short_l2,if_pos (by omega),hw1,hw2,if_pos (by omega),kz]
  simp only [Int.toNat_natCast]
  rw [hx,Div32_eq hr hx' hd]
  simp only [Option.bind_some]
  rw [if_pos (by omega)]
  have hq:(r*4294967296+x) / d<4294967296:=by
   rw [Nat.div_lt_iff_lt_mul (by omega)]
   have:(r+1)*4294967296≤d*4294967296:=Nat.mul_le_mul_right _ hr
   rw [Nat.mul_comm 4294967296 d]
   omega
  refine ih _ _ (by omega) (dig_set hQ _ (digC hq)) (by simp [hlQ]) (Nat.mod_lt _ (by omega)) ?_ f (by omega)
  rw [dval_drop a j,hx,dval_drop (Q.set j _) j,getD_set _ _ (by omega),drop_set _ _ (by omega),Int.toNat_natCast,Int.toNat_natCast]
  exact short_alg hv
theorem quo_short_eq {a:List Int} (ha:Dig a) (hl:a.length≤1099511627776) {d:Nat} (hd0:0<d) (hd:d<4294967296):quo_short a (d:Int)=some (digs (dval a / d),digs (dval a % d),true):=by
 unfold quo_short
 rw [if_pos (by omega),kz]
 have:=short_loop ha hl hd0 hd a.length 0 (List.replicate a.length 0) (by omega) (dig_replicate _) (by simp) hd0 (by simp [dval]) fuel (by unfold fuel; omega)
 rw [Nat.sub_self] at this
 exact this
theorem take_set (l:List Int) {i j:Nat} (v:Int) (h:j≤i):(l.set i v).take j=l.take j:=List.take_set_of_le h
theorem take_alg {D0 D D' P W T x t c e lo hi e' v w:Nat} (h1:c+x*t=lo+W*hi) (h2:v+lo+e=w+W*e') (h3:D'+P*w=D+P*v) (h4:D+T=D0+P*(c+e)):D'+(T+P*(x*t))=D0+P*W*(hi+e'):=by
 have e1:P*(c+x*t)=P*(lo+W*hi):=by rw [h1]
 have e2:P*(v+lo+e)=P*(w+W*e'):=by rw [h2]
 simp only [Nat.mul_add,← Nat.mul_assoc] at *
 omega
theorem Sub32_nat {x y c:Nat} (hx:x<4294967296) (hy:y<4294967296) (hc:c≤1):∃ w e:Nat,mb_Sub32 (x:Int) (y:Int) (c:Int)=some ((w:Int),(e:Int))∧w<4294967296∧e≤1∧w+y+c=x+4294967296*e:=by
 rw [Sub32_eq (by omega) (by omega) (by omega)]
 by_cases h:x<y+c
 ·refine ⟨x+4294967296-y-c,1,?_,by omega,by omega,by omega⟩
  rw [if_pos (by omega)]
  congr 2
  omega
 ·refine ⟨x-y-c,0,?_,by omega,by omega,by omega⟩
  rw [if_neg (by omega)]
  congr 2
  omega
theorem Add32_nat {x y c:Nat} (hx:x<4294967296) (hy:y<4294967296) (hc:c≤1):∃ w e:Nat,mb_Add32 (x:Int) (y:Int) (c:Int)=some ((w:Int),(e:Int))∧w<4294967296∧e≤1∧x+y+c=w+4294967296*e:=by
 rw [Add32_eq (by omega) (by omega) (by omega)]
 exact ⟨(x+y+c) % 4294967296,(x+y+c) / 4294967296,by congr 2,by omega,by omega,by omega⟩
theorem take_wrap {x t c:Nat} (hx:x<4294967296) (ht:t<4294967296) (hc:c<4294967296):IntKind.u64.wrap ((IntKind.u64.wrap ((IntKind.u64.wrap (x:Int))*(t:Int)))+(c:Int))=((c+x*t:Nat):Int):=by
 have h:x*t≤4294967295*4294967295:=Nat.mul_le_mul (by omega) (by omega)
 rw [u64n (by omega),← Int.natCast_mul,u64n (by omega),← Int.natCast_add,u64n (by omega),Nat.add_comm]
theorem take_loop {b:List Int} (hb:Dig b) {j t:Nat} (ht:t<4294967296) (U:List Int) (hlU:U.length≤2199023255552) (hju:j+b.length<U.length) (hbl:b.length≤1099511627776) :
  ∀ (r i c e:Nat) (V:List Int),i+r=b.length→Dig V→V.length=U.length→V.take j=U.take j→V.drop (j+b.length+1)=U.drop (j+b.length+1)→c<4294967296→e≤1→dval V+4294967296 ^ j*(t*dval (b.take i))=dval U+4294967296 ^ (j+i)*(c+e)→
   ∀ f,r<f→∃ (V':List Int) (e':Nat),quo_take_l2 b (b.length+1) j (t:Int) f (c:Int) (e:Int) (i:Int) V=some (decide (0<e'),V')∧Dig V'∧V'.length=U.length∧V'.take j=U.take j∧V'.drop (j+b.length+1)=U.drop (j+b.length+1)∧e'≤1∧dval V'+4294967296 ^ j*(t*dval b)=dval U+4294967296 ^ (j+b.length+1)*e':=by
 intro r
 induction r with
 | zero=>
  intro i c e V hi hV hlV ht1 ht2 hc he hv f hf
  obtain ⟨f,rfl⟩:∃ k,f=k+1:=⟨f-1,by omega⟩
  obtain ⟨v,hvv,hv'⟩:=digN hV (j+b.length)
  obtain ⟨w,e',hs,hw,he',hse⟩:=Sub32_nat hv' hc he
  have hib:i=b.length:=by omega
  refine ⟨V.set (j+b.length) (w:Int),e',?_,dig_set hV _ (digC hw),by simp [hlV],by rw [take_set _ _ (by omega),ht1],by rw [drop_set _ _ (by omega),ht2],he',?_⟩
  ·rw [quo_take_l2,if_neg (by omega)]
   unfold quo_take_j1
   rw [if_pos (by omega),kz,hvv,u32n,Nat.mod_eq_of_lt hc,hs]
   simp only [Option.bind_some]
   rw [if_pos (by omega)]
   have:decide ((e':Int)>0)=decide (0<e'):=by simp
   rw [this]
  ·have h1:=dval_set V (j+b.length) (w:Int) (by omega)
   rw [hvv,Int.toNat_natCast,Int.toNat_natCast] at h1
   rw [hib,List.take_of_length_le (Nat.le_refl _)] at hv
   have:=take_alg (D':=dval (V.set (j+b.length) (w:Int))) (x:=0) (t:=0) (lo:=c) (hi:=0) (W:=4294967296) (by omega) (by omega) h1 hv
   rw [Nat.pow_succ]
   simpa using this
 | succ r ih=>
  intro i c e V hi hV hlV ht1 ht2 hc he hv f hf
  obtain ⟨f,rfl⟩:∃ k,f=k+1:=⟨f-1,by omega⟩
  obtain ⟨x,hx,hx'⟩:=digN hb i
  obtain ⟨v,hvv,hv'⟩:=digN hV (j+i)
  have hlt:x*t≤4294967295*4294967295:=Nat.mul_le_mul (by omega) (by omega)
  have hlo:(c+x*t) % 4294967296<4294967296:=Nat.mod_lt _ (by decide)
  obtain ⟨w,e',hs,hw,he',hse⟩:=Sub32_nat hv' hlo he
  have hw2:IntKind.i64.wrap ((i:Int)+1)=((i+1:Nat):Int):=by rw [w64]<;>omega
  rw [quo_take_l2,if_pos (by omega),if_pos (by omega),hw2,kz]
  simp only [Int.toNat_natCast]
  rw [if_pos (by omega),hx,take_wrap hx' ht hc,shr32n,u32n,hvv,hs]
  simp only [Option.bind_some]
  rw [if_pos (by omega)]
  refine ih (i+1) _ _ _ (by omega) (dig_set hV _ (digC hw)) (by simp [hlV]) (by rw [take_set _ _ (by omega),ht1]) (by rw [drop_set _ _ (by omega),ht2]) (by omega) he' ?_ f (by omega)
  have h1:=dval_set V (j+i) (w:Int) (by omega)
  rw [hvv,Int.toNat_natCast,Int.toNat_natCast] at h1
  have:=take_alg (D':=dval (V.set (j+i) (w:Int))) (W:=4294967296) (Nat.mod_add_div (c+x*t) 4294967296).symm (by omega) h1 hv
  rw [dval_take_succ,hx,Int.toNat_natCast]
  have e1:4294967296 ^ (j+(i+1))=4294967296 ^ (j+i)*4294967296:=by rw [← Nat.add_assoc,Nat.pow_succ]
  rw [e1,← this,wpow1,Nat.mul_add,Nat.mul_add]
  congr 2
  simp only [Nat.mul_assoc,Nat.mul_comm,Nat.mul_left_comm]
theorem give_alg {D0 D D' P W T x e v w e':Nat} (h2:v+x+e=w+W*e') (h3:D'+P*v=D+P*w) (h4:D+P*e=D0+T):D'+P*W*e'=D0+(T+P*x):=by
 have e2:P*(v+x+e)=P*(w+W*e'):=by rw [h2]
 simp only [Nat.mul_add,← Nat.mul_assoc] at *
 omega
theorem give_loop {b:List Int} (hb:Dig b) {j:Nat} (U:List Int) (hlU:U.length≤2199023255552) (hju:j+b.length<U.length) (hbl:b.length≤1099511627776) :
  ∀ (r i e:Nat) (V:List Int),i+r=b.length→Dig V→V.length=U.length→V.take j=U.take j→V.drop (j+b.length+1)=U.drop (j+b.length+1)→e≤1→dval V+4294967296 ^ (j+i)*e=dval U+4294967296 ^ j*dval (b.take i)→
   ∀ f,r<f→∃ (V':List Int) (e':Nat),quo_give_l2 b (b.length+1) j f (e:Int) (i:Int) V=some V'∧Dig V'∧V'.length=U.length∧V'.take j=U.take j∧V'.drop (j+b.length+1)=U.drop (j+b.length+1)∧e'≤1∧dval V'+4294967296 ^ (j+b.length+1)*e'=dval U+4294967296 ^ j*dval b:=by
 intro r
 induction r with
 | zero=>
  intro i e V hi hV hlV ht1 ht2 he hv f hf
  obtain ⟨f,rfl⟩:∃ k,f=k+1:=⟨f-1,by omega⟩
  obtain ⟨v,hvv,hv'⟩:=digN hV (j+b.length)
  have hib:i=b.length:=by omega
  refine ⟨V.set (j+b.length) (((v+e) % 4294967296:Nat):Int),(v+e) / 4294967296,?_,dig_set hV _ (digC (Nat.mod_lt _ (by decide))),by simp [hlV],by rw [take_set _ _ (by omega),ht1],by rw [drop_set _ _ (by omega),ht2],by omega,?_⟩
  ·rw [quo_give_l2,if_neg (by omega)]
   unfold quo_give_j1
   rw [if_pos (by omega),if_pos (by omega),kz,hvv,← Int.natCast_add,u32n]
  ·have h1:=dval_set V (j+b.length) (((v+e) % 4294967296:Nat):Int) (by omega)
   rw [hvv,Int.toNat_natCast,Int.toNat_natCast] at h1
   rw [hib,List.take_of_length_le (Nat.le_refl _)] at hv
   have:=give_alg (D':=dval (V.set (j+b.length) (((v+e) % 4294967296:Nat):Int))) (x:=0) (W:=4294967296) (Nat.mod_add_div (v+0+e) 4294967296).symm (by simpa using h1) hv
   rw [Nat.pow_succ]
   simpa using this
 | succ r ih=>
  intro i e V hi hV hlV ht1 ht2 he hv f hf
  obtain ⟨f,rfl⟩:∃ k,f=k+1:=⟨f-1,by omega⟩
  obtain ⟨x,hx,hx'⟩:=digN hb i
  obtain ⟨v,hvv,hv'⟩:=digN hV (j+i)
  obtain ⟨w,e',hs,hw,he',hse⟩:=Add32_nat hv' hx' he
  have hw2:IntKind.i64.wrap ((i:Int)+1)=((i+1:Nat):Int):=by rw [w64]<;>omega
  rw [quo_give_l2,if_pos (by omega),if_pos (by omega),hw2,kz]
  simp only [Int.toNat_natCast]
  rw [if_pos (by omega),hx,hvv,hs]
  simp only [Option.bind_some]
  rw [if_pos (by omega)]
  refine ih (i+1) _ _ (by omega) (dig_set hV _ (digC hw)) (by simp [hlV]) (by rw [take_set _ _ (by omega),ht1]) (by rw [drop_set _ _ (by omega),ht2]) he' ?_ f (by omega)
  have h1:=dval_set V (j+i) (w:Int) (by omega)
  rw [hvv,Int.toNat_natCast,Int.toNat_natCast] at h1
  have:=give_alg (D':=dval (V.set (j+i) (w:Int))) (W:=4294967296) hse h1 hv
  rw [dval_take_succ,hx,Int.toNat_natCast]
  have e1:4294967296 ^ (j+(i+1))=4294967296 ^ (j+i)*4294967296:=by rw [← Nat.add_assoc,Nat.pow_succ]
  rw [e1,this,wpow1,Nat.mul_add]
  congr 2
  simp only [Nat.mul_assoc]
theorem quo_take_eq {b:List Int} (hb:Dig b) {j t:Nat} (ht:t<4294967296) {U:List Int} (hU:Dig U) (hlU:U.length≤2199023255552) (hju:j+b.length<U.length) (hbl:b.length≤1099511627776) :
  ∃ (V':List Int) (e':Nat),quo_take j (b.length+1) b (t:Int) U=some (decide (0<e'),V')∧Dig V'∧V'.length=U.length∧V'.take j=U.take j∧V'.drop (j+b.length+1)=U.drop (j+b.length+1)∧e'≤1∧dval V'+4294967296 ^ j*(t*dval b)=dval U+4294967296 ^ (j+b.length+1)*e':=by
 unfold quo_take
 exact take_loop hb ht U hlU hju hbl b.length 0 0 0 U (by omega) hU rfl rfl rfl (by omega) (by omega) (by simp [dval]) fuel (by unfold fuel; omega)
theorem quo_give_eq {b:List Int} (hb:Dig b) {j:Nat} {U:List Int} (hU:Dig U) (hlU:U.length≤2199023255552) (hju:j+b.length<U.length) (hbl:b.length≤1099511627776) :
  ∃ (V':List Int) (e':Nat),quo_give j (b.length+1) b U=some V'∧Dig V'∧V'.length=U.length∧V'.take j=U.take j∧V'.drop (j+b.length+1)=U.drop (j+b.length+1)∧e'≤1∧dval V'+4294967296 ^ (j+b.length+1)*e'=dval U+4294967296 ^ j*dval b:=by
 unfold quo_give
 exact give_loop hb U hlU hju hbl b.length 0 0 U (by omega) hU rfl rfl rfl (by omega) (by simp [dval]) fuel (by unfold fuel; omega)
theorem K1 {q b1 b2 bl t u2 ul W P:Nat} (hu2:u2<W) (hul:ul<P) (h:q*((b1*W+b2)*P+bl)≤(t*W+u2)*P+ul):q*b1≤t:=by
 rcases Nat.lt_or_ge t (q*b1) with h1 | h1
 ·exfalso
  have h2:(t+1)*(W*P)≤q*b1*(W*P):=Nat.mul_le_mul_right _ h1
  have h3:(u2+1)*P≤W*P:=Nat.mul_le_mul_right _ hu2
  have h4:q*((b1*W+b2)*P+bl)=q*b1*(W*P)+(q*b2*P+q*bl):=by grind
  have h5:(t+1)*(W*P)=t*W*P+W*P:=by grind
  have h6:(u2+1)*P=u2*P+P:=by grind
  have h7:(t*W+u2)*P=t*W*P+u2*P:=by grind
  omega
 ·exact h1
theorem K2 {g r b1 b2 bl t u2 ul W P:Nat} (hr:g*b1+r=t) (hc:r*W+u2<g*b2) (hul:ul<P):(t*W+u2)*P+ul<g*((b1*W+b2)*P+bl):=by
 subst hr
 have h1:(r*W+u2+1)*P≤g*b2*P:=Nat.mul_le_mul_right _ hc
 have h4:g*((b1*W+b2)*P+bl)=g*b1*W*P+g*b2*P+g*bl:=by grind
 have h5:(r*W+u2+1)*P=r*W*P+u2*P+P:=by grind
 have h6:((g*b1+r)*W+u2)*P=g*b1*W*P+r*W*P+u2*P:=by grind
 omega
theorem K3 {g r b1 b2 bl t u2 ul W P:Nat} (hr:g*b1+r=t) (hc:g*b2≤r*W+u2) (hg:g≤W) (hW:0<W) (hbl:bl<P) (hb1:1≤b1):g*((b1*W+b2)*P+bl)<(t*W+u2)*P+ul+((b1*W+b2)*P+bl):=by
 subst hr
 have h1:g*b2*P≤(r*W+u2)*P:=Nat.mul_le_mul_right _ hc
 have h2:g*bl≤W*bl:=Nat.mul_le_mul_right _ hg
 have h3:W*bl<W*P:=Nat.mul_lt_mul_of_pos_left hbl hW
 have h3':1*(W*P)≤b1*(W*P):=Nat.mul_le_mul_right _ hb1
 have h4:g*((b1*W+b2)*P+bl)=g*b1*W*P+g*b2*P+g*bl:=by grind
 have h5:(r*W+u2)*P=r*W*P+u2*P:=by grind
 have h6:((g*b1+r)*W+u2)*P=g*b1*W*P+r*W*P+u2*P:=by grind
 have h7:(b1*W+b2)*P=b1*(W*P)+b2*P:=by grind
 omega
theorem K4 {g r b1 b2 bl t u2 ul W P:Nat} (hr:g*b1+r=t) (hc:W≤r) (hg:g≤W) (hb2:b2<W) (hbl:bl<P):g*((b1*W+b2)*P+bl)≤(t*W+u2)*P+ul:=by
 subst hr
 have h1:(b2+1)*P≤W*P:=Nat.mul_le_mul_right _ hb2
 have h1':(b2+1)*P=b2*P+P:=by grind
 have h2:g*(b2*P+bl)≤g*(W*P):=Nat.mul_le_mul_left _ (by omega)
 have h3:g*(W*P)≤r*(W*P):=Nat.mul_le_mul_right _ (by omega)
 have h4:g*((b1*W+b2)*P+bl)=g*b1*W*P+g*(b2*P+bl):=by grind
 have h6:((g*b1+r)*W+u2)*P=g*b1*W*P+r*(W*P)+u2*P:=by grind
 omega
theorem dv_split {l:List Int} {j:Nat} (h:j≤l.length):dval l=dval (l.take j)+4294967296 ^ j*dval (l.drop j):=by
 have:=dval_split l j
 rwa [List.length_take,show min j l.length=j by omega] at this
theorem win {V U:List Int} {j n X e:Nat} (h1:V.take j=U.take j) (hj:j≤V.length) (hl:V.length=U.length) (h:dval V+4294967296 ^ j*X=dval U+4294967296 ^ (j+n)*e):dval (V.drop j)+X=dval (U.drop j)+4294967296 ^ n*e:=by
 rw [dv_split hj,dv_split (l:=U) (j:=j) (by omega),h1,wpow1] at h
 have hp:0<4294967296 ^ j:=Nat.pow_pos (by decide)
 generalize 4294967296 ^ j=A at *
 generalize 4294967296 ^ n=C at *
 apply Nat.eq_of_mul_eq_mul_left hp
 rw [Nat.mul_add,Nat.mul_add,← Nat.mul_assoc]
 omega
theorem win_lt {V:List Int} {j n:Nat} (hV:Dig V) (h0:dval (V.drop (j+n))=0):dval (V.drop j)<4294967296 ^ n:=by
 rw [dval_split (V.drop j) n,List.drop_drop,h0,Nat.mul_zero,Nat.add_zero]
 have:=dval_lt (dig_take (dig_drop hV j) n)
 exact Nat.lt_of_lt_of_le this (Nat.pow_le_pow_right (by decide) (by rw [List.length_take]; omega))
theorem win_zero {V:List Int} {j n:Nat} (hV:j+n≤V.length) (h:dval (V.drop j)<4294967296 ^ n):dval (V.drop (j+n))=0:=by
 rw [dv_split (l:=V.drop j) (j:=n) (by rw [List.length_drop]; omega),List.drop_drop] at h
 rcases Nat.eq_zero_or_pos (dval (V.drop (j+n))) with h1 | h1
 ·exact h1
 ·have:4294967296 ^ n*1≤4294967296 ^ n*dval (V.drop (j+n)):=Nat.mul_le_mul_left _ h1
  omega
theorem three {l:List Int} {j n u0 u1 u2:Nat} (hl:Dig l) (h0:l.getD (j+n+2) 0=(u0:Int)) (h1:l.getD (j+n+1) 0=(u1:Int)) (h2:l.getD (j+n) 0=(u2:Int)) (hz:dval (l.drop (j+n+3))=0) (hlen:j+n≤l.length) :
  ∃ ul,ul<4294967296 ^ n∧dval (l.drop j)=((u0*4294967296+u1)*4294967296+u2)*4294967296 ^ n+ul:=by
 refine ⟨dval ((l.drop j).take n),?_,?_⟩
 ·have:=dval_lt (dig_take (dig_drop hl j) n)
  exact Nat.lt_of_lt_of_le this (Nat.pow_le_pow_right (by decide) (by rw [List.length_take]; omega))
 ·rw [dv_split (l:=l.drop j) (j:=n) (by rw [List.length_drop]; omega),List.drop_drop]
  rw [dval_drop l (j+n),dval_drop l (j+n+1),dval_drop l (j+n+2),hz,h0,h1,h2,Int.toNat_natCast,Int.toNat_natCast,Int.toNat_natCast]
  generalize 4294967296 ^ n=P
  generalize dval ((l.drop j).take n)=ul
  rw [Nat.add_comm,Nat.mul_comm]
  congr 2
  omega
theorem two {l:List Int} {n b1 b2:Nat} (hl:Dig l) (hlen:l.length=n+2) (h1:l.getD (n+1) 0=(b1:Int)) (h2:l.getD n 0=(b2:Int)) :
  ∃ bl,bl<4294967296 ^ n∧dval l=(b1*4294967296+b2)*4294967296 ^ n+bl:=by
 have hz:dval (l.drop (n+2))=0:=by rw [List.drop_eq_nil_of_le (by omega)]; rfl
 refine ⟨dval (l.take n),?_,?_⟩
 ·have:=dval_lt (dig_take hl n)
  exact Nat.lt_of_lt_of_le this (Nat.pow_le_pow_right (by decide) (by rw [List.length_take]; omega))
 ·rw [dv_split (l:=l) (j:=n) (by omega)]
  rw [dval_drop l n,dval_drop l (n+1),hz,h1,h2,Int.toNat_natCast,Int.toNat_natCast]
  generalize 4294967296 ^ n=P
  rw [Nat.add_comm,Nat.mul_comm]
  congr 2
  omega
theorem guess_loop {b u Q:List Int} {n j b1 b2 bl t u2 ul P q:Nat} (ag:Int→List Int→List Int→Option (List Int × List Int × Bool)) (hlen:b.length=n+2) (hn:n≤1099511627776) (hj:j≤1099511627776)
  (hb1:b.getD (n+1) 0=(b1:Int)) (hb2:b.getD n 0=(b2:Int)) (hb1':b1<4294967296) (hb2':b2<4294967296) (hpos:1≤b1) (hu:u.getD (j+n) 0=(u2:Int)) (hu':u2<4294967296) (hul:j+n<u.length)
  (hbl:bl<P) (hulP:ul<P) (h1:q*((b1*4294967296+b2)*P+bl)≤(t*4294967296+u2)*P+ul) (h2:(t*4294967296+u2)*P+ul<(q+1)*((b1*4294967296+b2)*P+bl)) (hq:q<4294967296) :
  ∀ (m g r:Nat),4294967296-r≤m→g*b1+r=t→r<4294967296→g≤4294967297→q≤g→∀ f,m<f→
   ∃ g':Nat,quo_long_l6 (b,true) (j:Int) u Q ag f (g:Int) (r:Int)=quo_long_j4 (j:Int) (b,true) u Q ag (g':Int)∧q≤g'∧g'≤q+1∧g'<4294967296:=by
 have hwl2:IntKind.i64.wrap ((b.length:Int)-2)=(n:Int):=by rw [w64]<;>omega
 have hwl1:IntKind.i64.wrap ((b.length:Int)-1)=((n+1:Nat):Int):=by rw [w64]<;>omega
 have hwj:IntKind.i64.wrap (IntKind.i64.wrap ((j:Int)+(b.length:Int))-2)=((j+n:Nat):Int):=by
  rw [w64 (x:=(j:Int)+(b.length:Int)) (by omega) (by omega),w64]<;>omega
 intro m
 induction m with
 | zero=>intro g r hm _ hr; omega
 | succ m ih=>
  intro g r hm hg hr hgW hqg f hf
  obtain ⟨f,rfl⟩:∃ k,f=k+1:=⟨f-1,by omega⟩
  have better:q<g→∃ g':Nat,quo_long_j7 (b,true) (r:Int) (j:Int) u Q ag (g:Int) (fun z0 z1=>quo_long_l6 (b,true) (j:Int) u Q ag f z0 z1) true=quo_long_j4 (j:Int) (b,true) u Q ag (g':Int)∧q≤g'∧g'≤q+1∧g'<4294967296:=by
   intro hlt
   have hgm:(g-1)*b1+(r+b1)=t:=by
    obtain ⟨g1,rfl⟩:∃ k,g=k+1:=⟨g-1,by omega⟩
    rw [Nat.add_sub_cancel]
    rw [Nat.add_mul] at hg; omega
   unfold quo_long_j7
   simp only
   have hwg:IntKind.u64.wrap ((g:Int)-1)=((g-1:Nat):Int):=by
    rw [show (g:Int)-1=((g-1:Nat):Int) by omega,u64n (by omega)]
   have hwr:IntKind.u64.wrap ((r:Int)+(b1:Int))=((r+b1:Nat):Int):=by
    rw [← Int.natCast_add,u64n (by omega)]
   rw [if_pos True.intro,hwl1,if_pos (by omega),kz]
   simp only [Int.toNat_natCast]
   rw [hb1,u64n (x:=b1) (by omega),hwr,hwg]
   by_cases hx:4294967296≤r+b1
   ·rw [if_pos (by omega)]
    have hk:=K4 (g:=g-1) (u2:=u2) (ul:=ul) hgm hx (by omega) hb2' hbl
    have h3:g-1<q+1:=Nat.lt_of_mul_lt_mul_right (Nat.lt_of_le_of_lt hk h2)
    exact ⟨g-1,rfl,by omega,by omega,by omega⟩
   ·rw [if_neg (by omega)]
    exact ih (g-1) (r+b1) (by omega) hgm (by omega) (by omega) (by omega) f (by omega)
  rw [quo_long_l6]
  by_cases hg4:4294967296≤g
  ·rw [if_pos (by omega)]
   exact better (by omega)
  ·rw [if_neg (by omega)]
   have hgb:g*b2<18446744073709551616:=mul_lt64 (by omega) hb2'
   have eA:IntKind.u64.wrap ((g:Int)*IntKind.u64.wrap (b2:Int))=((g*b2:Nat):Int):=by rw [u64n (x:=b2) (by omega),← Int.natCast_mul,u64n hgb]
   have eB:orI .u64 (shlI .u64 (r:Int) 32) (IntKind.u64.wrap (u2:Int))=((r*4294967296+u2:Nat):Int):=by rw [u64n (x:=u2) (by omega),shl32n hr,or64n (by omega) (by omega),or_lo hu']
   simp only [hwl2,hwj,kz,Int.toNat_natCast,hb2,hu,eA,eB]
   rw [if_pos (by omega),if_pos (by omega)]
   by_cases hc:r*4294967296+u2<g*b2
   ·rw [show decide (((g*b2:Nat):Int)>((r*4294967296+u2:Nat):Int))=true by simp only [decide_eq_true_eq]; omega]
    refine better ?_
    have:=K2 (bl:=bl) hg hc hulP
    exact Nat.lt_of_mul_lt_mul_right (Nat.lt_of_le_of_lt h1 this)
   ·rw [show decide (((g*b2:Nat):Int)>((r*4294967296+u2:Nat):Int))=false by simp only [decide_eq_false_iff_not]; omega]
    unfold quo_long_j7
    rw [if_neg (by simp)]
    have:=K3 (u2:=u2) (ul:=ul) hg (Nat.le_of_not_lt hc) (by omega) (by decide) hbl hpos
    have h3:g*((b1*4294967296+b2)*P+bl)<(q+2)*((b1*4294967296+b2)*P+bl):=by
     have e:(q+2)*((b1*4294967296+b2)*P+bl)=(q+1)*((b1*4294967296+b2)*P+bl)+((b1*4294967296+b2)*P+bl):=by
      rw [show q+2=q+1+1 by omega,Nat.add_mul (q+1) 1,Nat.one_mul]
     rw [e]; omega
    have h4:g<q+2:=Nat.lt_of_mul_lt_mul_right h3
    exact ⟨g,rfl,hqg,by omega,by omega⟩
theorem step_arith {q g B U V M e:Nat} (h1:q*B≤U) (h2:U<(q+1)*B) (hg1:q≤g) (hg2:g≤q+1) (hV:V<M) (he:e≤1) (h:V+g*B=U+M*e) :
  (e=0∧g=q∧V+q*B=U)∨(e=1∧g=q+1∧V+q*B+B=U+M):=by
 have e1:(q+1)*B=q*B+B:=by rw [Nat.add_mul,Nat.one_mul]
 rcases (show g=q∨g=q+1 by omega) with rfl | rfl
 ·left
  rcases (show e=0∨e=1 by omega) with rfl | rfl
  ·exact ⟨rfl,rfl,by omega⟩
  ·omega
 ·right
  rcases (show e=0∨e=1 by omega) with rfl | rfl
  ·omega
  ·exact ⟨rfl,rfl,by omega⟩
theorem give_arith {q B U V M X c:Nat} (h1:q*B≤U) (hX:X<M) (hc:c≤1) (h:X+M*c=V+B) (hV:V+q*B+B=U+M):X+q*B=U:=by
 rcases (show c=0∨c=1 by omega) with rfl | rfl
 ·omega
 ·omega
theorem j5_eq {Q u:List Int} {j:Nat} (ag:Int→List Int→List Int→Option (List Int × List Int × Bool)) (hj:j<Q.length) (hjl:j≤1099511627776) {q:Nat} (hq:q<4294967296):quo_long_j5 (j:Int) Q ag (q:Int) u=ag ((j:Int)-1) (Q.set j (q:Int)) u:=by
 unfold quo_long_j5 quo_long_j3
 rw [if_pos (by omega),w64 (by omega) (by omega),u32n,Nat.mod_eq_of_lt hq]
 simp only [Int.toNat_natCast]
theorem step_eq {b u Q:List Int} {j q g:Nat} (ag:Int→List Int→List Int→Option (List Int × List Int × Bool)) (hb:Dig b) (hu:Dig u) (hlb:b.length≤1099511627776) (hlu:u.length≤2199023255552) (hju:j+b.length<u.length) (hjl:j≤1099511627776) (hjQ:j<Q.length)
  (hz:dval (u.drop (j+(b.length+1)))=0) (h1:q*dval b≤dval (u.drop j)) (h2:dval (u.drop j)<(q+1)*dval b) (hg1:q≤g) (hg2:g≤q+1) (hg:g<4294967296) :
  ∃ u':List Int,quo_long_j4 (j:Int) (b,true) u Q ag (g:Int)=ag ((j:Int)-1) (Q.set j (q:Int)) u'∧Dig u'∧u'.length=u.length∧u'.take j=u.take j∧dval (u'.drop j)+q*dval b=dval (u.drop j):=by
 have hw:IntKind.i64.wrap (IntKind.i64.wrap ((j:Int)+(b.length:Int))+1)=((j+(b.length+1):Nat):Int):=by
  rw [w64 (x:=(j:Int)+(b.length:Int)) (by omega) (by omega),w64]<;>omega
 have hwd:((j+(b.length+1):Nat):Int).toNat-(j:Int).toNat=b.length+1:=by rw [Int.toNat_natCast,Int.toNat_natCast]; omega
 have hw0:0+(j:Int).toNat=j:=by simp
 obtain ⟨V,e,t1,t2,t3,t4,t5,t6,t7⟩:=quo_take_eq hb hg hu hlu hju hlb
 rw [Nat.add_assoc] at t5 t7
 have hVz:dval (V.drop (j+(b.length+1)))=0:=by rw [t5]; exact hz
 have hVM:=win_lt t2 hVz
 have hwin:=win t4 (by omega) t3 t7
 unfold quo_long_j4
 simp only [hw,hwd,hw0]
 rw [if_pos (by omega),t1]
 simp only [Option.bind_some]
 rw [if_pos t3]
 rcases step_arith h1 h2 hg1 hg2 hVM t6 hwin with ⟨rfl,rfl,hfin⟩ | ⟨rfl,rfl,hfin⟩
 ·rw [if_neg (by simp),j5_eq ag hjQ hjl hg]
  exact ⟨V,rfl,t2,t3,t4,hfin⟩
 ·rw [if_pos (by simp)]
  obtain ⟨X,c,g1,g2,g3,g4,g5,g6,g7⟩:=quo_give_eq (j:=j) hb t2 (by omega) (by omega) hlb
  rw [Nat.add_assoc] at g5 g7
  rw [if_pos (by omega),g1]
  simp only [Option.bind_some]
  rw [if_pos g3]
  have hwg:IntKind.u64.wrap (((q+1:Nat):Int)-1)=(q:Int):=by
   rw [show ((q+1:Nat):Int)-1=(q:Int) by omega,u64n (by omega)]
  rw [hwg,j5_eq ag hjQ hjl (by omega)]
  refine ⟨X,rfl,g2,by omega,by rw [g4,t4],?_⟩
  have hXz:dval (X.drop (j+(b.length+1)))=0:=by rw [g5]; exact hVz
  have hXM:=win_lt g2 hXz
  have hwin2:=win (X:=4294967296 ^ (b.length+1)*c) (e:=dval b) (n:=0) g4 (by omega) g3 (by rw [← Nat.mul_assoc,← wpow1,Nat.add_zero]; exact g7)
  rw [Nat.pow_zero,Nat.one_mul] at hwin2
  exact give_arith h1 hXM g6 hwin2 hfin
theorem guess_le {t b1 b2 bl P W X:Nat} (h1:t*P≤X) (h2:X<(b1*W+b2)*P+bl) (hbl:bl<P) (hb2:b2<W) (hb1:W≤2*b1) (hW:0<W):t / b1≤W+1:=by
 have e1:(b1*W+b2+1)*P=(b1*W+b2)*P+P:=by rw [Nat.add_mul _ 1,Nat.one_mul]
 have h3:t*P<(b1*W+b2+1)*P:=by omega
 have h4:t<b1*W+b2+1:=Nat.lt_of_mul_lt_mul_right h3
 have hp:0<b1:=by omega
 have h5:t<(W+2)*b1:=by
  have:(W+2)*b1=b1*W+2*b1:=by rw [Nat.add_mul,Nat.mul_comm W]
  omega
 have:=(Nat.div_lt_iff_lt_mul hp).2 h5
 omega
theorem quot_lt {q B U x y W:Nat} (h:q*B≤U) (hU:U=x+W*y) (hx:x<W) (hy:y<B):q<W:=by
 have h1:W*(y+1)≤W*B:=Nat.mul_le_mul_left _ hy
 have h2:q*B<W*B:=by rw [Nat.mul_add] at h1; omega
 exact Nat.lt_of_mul_lt_mul_right h2
theorem long_inv {q B a Qh u' y t W x:Nat} (h1:u'+q*B=a+W*y) (h2:Qh*B+y=x) (h3:t=a+W*x):(q+W*Qh)*B+u'=t:=by
 subst h3; subst h2
 have:(q+W*Qh)*B=q*B+W*(Qh*B):=by rw [Nat.add_mul,Nat.mul_assoc]
 rw [this,Nat.mul_add]; omega
theorem long_loop {b u0:List Int} {n s b1 b2:Nat} (hb:Dig b) (hlen:b.length=n+2) (hn:n≤549755813888) (hs:s<32) (hb1:b.getD (n+1) 0=(b1:Int)) (hb2:b.getD n 0=(b2:Int)) (hb1':b1<4294967296) (hb2':b2<4294967296) (htop:2147483648≤b1) (hu0:Dig u0) :
  ∀ (k:Nat) (Q u:List Int),k≤Q.length→Q.length≤549755813888→Q.length+b.length=u0.length→u.length=u0.length→Dig Q→Dig u→u.take k=u0.take k→dval (u.drop k)<dval b→dval (Q.drop k)*dval b+dval (u.drop k)=dval (u0.drop k)→
   ∀ f,k<f→quo_long_l2 (b,true) (s:Int) f ((k:Int)-1) Q u=some (digs (dval u0 / dval b),digs (dval u0 % dval b / 2 ^ s),true):=by
 obtain ⟨bl,hbl,hbv⟩:=two hb hlen hb1 hb2
 have hBpos:0<dval b:=by
  rw [hbv]
  have:0<(b1*4294967296+b2)*4294967296 ^ n:=Nat.mul_pos (by omega) (Nat.pow_pos (by decide))
  omega
 have hBlt:=dval_lt hb
 intro k
 induction k with
 | zero=>
  intro Q u hk hlQ hlen0 hlu hQ hu htk hlt hinv f hf
  obtain ⟨f,rfl⟩:∃ k,f=k+1:=⟨f-1,by omega⟩
  rw [quo_long_l2,if_neg (by omega)]
  unfold quo_long_j1
  rw [List.drop_zero] at hlt
  rw [List.drop_zero,List.drop_zero,List.drop_zero] at hinv
  have hz:dval (u.drop b.length)=0:=by
   have:=win_zero (V:=u) (j:=0) (n:=b.length) (by omega) (by rw [List.drop_zero]; omega)
   rwa [Nat.zero_add] at this
  have htake:dval (u.take b.length)=dval u:=by
   rw [dv_split (l:=u) (j:=b.length) (by omega),hz,Nat.mul_zero,Nat.add_zero]
  rw [nat_Trim_eq hQ (by omega)]
  simp only [Option.bind_some]
  rw [if_pos (by omega),nat_Shr_eq (dig_take hu _) (by rw [List.length_take]; omega) (by omega),htake]
  simp only [Option.bind_some]
  have e1:dval u0 / dval b=dval Q:=by
   rw [← hinv,Nat.mul_comm,Nat.mul_add_div hBpos,Nat.div_eq_of_lt hlt,Nat.add_zero]
  have e2:dval u0 % dval b=dval u:=by
   rw [← hinv,Nat.mul_comm,Nat.mul_add_mod,Nat.mod_eq_of_lt hlt]
  rw [e1,e2]
 | succ k ih=>
  intro Q u hk hlQ hlen0 hlu hQ hu htk hlt hinv f hf
  obtain ⟨f,rfl⟩:∃ k,f=k+1:=⟨f-1,by omega⟩
  obtain ⟨d0,hd0,hd0'⟩:=digN hu (k+n+2)
  obtain ⟨d1,hd1,hd1'⟩:=digN hu (k+n+1)
  obtain ⟨d2,hd2,hd2'⟩:=digN hu (k+n)
  obtain ⟨x,hx,hx'⟩:=digN hu k
  have hz:dval (u.drop (k+n+3))=0:=by
   have:=win_zero (V:=u) (j:=k+1) (n:=b.length) (by omega) (by omega)
   rwa [show k+1+b.length=k+n+3 by omega] at this
  obtain ⟨ul,hul,hUv⟩:=three hu hd0 hd1 hd2 hz (by omega)
  have hU2:dval (u.drop k)=x+4294967296*dval (u.drop (k+1)):=by rw [dval_drop u k,hx,Int.toNat_natCast]
  have hgle:(d0*4294967296+d1) / b1≤4294967297:=by
   refine guess_le (P:=4294967296 ^ n) (X:=dval (u.drop (k+1))) ?_ (hbv ▸ hlt) hbl hb2' (by omega) (by decide)
   rw [dv_split (l:=u.drop (k+1)) (j:=n) (by rw [List.length_drop]; omega),List.drop_drop,show k+1+n=k+n+1 by omega]
   rw [dval_drop u (k+n+1),dval_drop u (k+n+2),hz,hd0,hd1,Int.toNat_natCast,Int.toNat_natCast]
   generalize 4294967296 ^ n=P
   rw [Nat.mul_comm P]
   refine Nat.le_trans ?_ (Nat.le_add_left _ _)
   exact Nat.mul_le_mul_right _ (by omega)
  have hqB:dval (u.drop k) / dval b*dval b≤dval (u.drop k):=Nat.div_mul_le_self _ _
  have hqB2:dval (u.drop k)<(dval (u.drop k) / dval b+1)*dval b:=by
   have:=Nat.lt_mul_div_succ (dval (u.drop k)) hBpos
   rwa [Nat.mul_comm] at this
  have hqW:=quot_lt hqB hU2 hx' hlt
  generalize hq:dval (u.drop k) / dval b=q at hqB hqB2 hqW
  have ht:(d0*4294967296+d1) / b1*b1+(d0*4294967296+d1) % b1=d0*4294967296+d1:=by rw [Nat.mul_comm]; exact Nat.div_add_mod _ _
  have hrlt:(d0*4294967296+d1) % b1<4294967296:=Nat.lt_trans (Nat.mod_lt _ (by omega)) hb1'
  have hqg:q≤(d0*4294967296+d1) / b1:=by
   rw [Nat.le_div_iff_mul_le (by omega)]
   exact K1 (b2:=b2) (bl:=bl) (W:=4294967296) hd2' hul (by rw [← hUv,← hbv]; exact hqB)
  obtain ⟨g',hg1,hg2,hg3,hg4⟩:=guess_loop (j:=k) (u:=u) (Q:=Q) (fun z0 z1 z2=>quo_long_l2 (b,true) (s:Int) f z0 z1 z2) hlen (by omega) (by omega) hb1 hb2 hb1' hb2' (by omega) hd2 hd2' (by omega) hbl hul (by rw [← hUv,← hbv]; exact hqB) (by rw [← hUv,← hbv]; exact hqB2) hqW 4294967296 _ _ (by omega) ht hrlt hgle hqg fuel (by unfold fuel; omega)
  obtain ⟨u',s1,s2,s3,s4,s5⟩:=step_eq (j:=k) (Q:=Q) (fun z0 z1 z2=>quo_long_l2 (b,true) (s:Int) f z0 z1 z2) hb hu (by omega) (by omega) (by omega) (by omega) (by omega) (by rw [hlen]; exact hz) hqB hqB2 hg2 hg3 hg4
  have hwa:IntKind.i64.wrap (((k+1:Nat):Int)-1+(b.length:Int))=((k+n+2:Nat):Int):=by rw [w64]<;>omega
  have hwb:IntKind.i64.wrap (((k+n+2:Nat):Int)-1)=((k+n+1:Nat):Int):=by rw [w64]<;>omega
  have hwc:IntKind.i64.wrap ((b.length:Int)-1)=((n+1:Nat):Int):=by rw [w64]<;>omega
  have hk':((k+1:Nat):Int)-1=(k:Int):=by omega
  rw [hk'] at hwa ⊢
  have htop64:orI .u64 (shlI .u64 (IntKind.u64.wrap (d0:Int)) 32) (IntKind.u64.wrap (d1:Int))=((d0*4294967296+d1:Nat):Int):=by
   rw [u64n (x:=d0) (by omega),u64n (x:=d1) (by omega),shl32n hd0',or64n (by omega) (by omega),or_lo hd1']
  have hb64:IntKind.u64.wrap (b1:Int)=(b1:Int):=u64n (by omega)
  have hdiv64:IntKind.u64.wrap (((d0*4294967296+d1:Nat):Int).tdiv (b1:Int))=(((d0*4294967296+d1) / b1:Nat):Int):=by
   rw [tdivn,u64n (by omega)]
  rw [quo_long_l2]
  simp only [hwa,hwb,hwc,kz,Int.toNat_natCast,hd0,hd1,hb1,htop64,hb64,hdiv64,tmodn]
  rw [if_pos (by omega),if_pos (by omega),if_pos (by omega),if_pos (by omega),if_pos (by omega),if_pos (by omega),if_pos (by omega)]
  refine Eq.trans hg1 (Eq.trans s1 ?_)
  have e1:u'.take k=u0.take k:=by
   rw [s4]
   have:=congrArg (List.take k) htk
   rwa [List.take_take,List.take_take,show min k (k+1)=k by omega] at this
  have hR:dval (u'.drop k)<dval b:=by
   have e:(q+1)*dval b=q*dval b+dval b:=by rw [Nat.add_mul,Nat.one_mul]
   omega
  refine ih (Q.set k (q:Int)) u' (by rw [List.length_set]; omega) (by rw [List.length_set]; omega) (by rw [List.length_set]; omega) (by omega) (dig_set hQ _ (digC hqW)) s2 e1 hR ?_ f (by omega)
  have hx0:u0.getD k 0=(x:Int):=by
   have h3:=congrArg (fun l=>l.getD k 0) htk
   simp only [List.getD_eq_getElem?_getD,List.getElem?_take,if_pos (show k<k+1 by omega)] at h3
   rw [List.getD_eq_getElem?_getD,← h3,← List.getD_eq_getElem?_getD]; exact hx
  rw [dval_drop u0 k,hx0,dval_drop (Q.set k _) k,getD_set _ _ (by omega),drop_set _ _ (by omega),Int.toNat_natCast,Int.toNat_natCast]
  exact long_inv (s5.trans hU2) hinv rfl
theorem digs_len_mono {m n:Nat} (h:m≤n):(digs m).length≤(digs n).length:=by
 rcases Nat.lt_or_ge (digs n).length (digs m).length with h1 | h1
 ·have:=digs_len_lt h1; omega
 ·exact h1
theorem dval_copyL {X l:List Int} (h:l.length≤X.length) (hX:dval X=0):copyL X l=l++X.drop l.length∧dval (copyL X l)=dval l:=by
 have hn:copyN X l=l.length:=by unfold copyN; split<;>omega
 have e:copyL X l=l++X.drop l.length:=by unfold copyL; rw [hn,List.take_length]
 refine ⟨e,?_⟩
 rw [e,dval_append]
 have h1:=dv_split (l:=X) (j:=l.length) h
 rw [hX] at h1
 have h2:4294967296 ^ l.length*dval (X.drop l.length)=0:=by omega
 rw [h2,Nat.add_zero]
theorem dig_append {x y:List Int} (hx:Dig x) (hy:Dig y):Dig (x++y):=fun d hd=>by
 rcases List.mem_append.1 hd with h | h
 ·exact hx d h
 ·exact hy d h
theorem blen_pos {n:Nat} (h:n≠0):0<blen n:=by
 rcases Nat.eq_zero_or_pos (blen n) with h1 | h1
 ·have:=blen_lt n; rw [h1] at this; omega
 ·exact h1
theorem blen_digs {n:Nat} (h:n≠0):∃ t:Nat,(digs n).getD ((digs n).length-1) 0=(t:Int)∧t<4294967296∧t≠0∧blen t≤32∧blen n=blen t+32*((digs n).length-1):=by
 obtain ⟨t1,t2⟩:=digs_top h
 obtain ⟨t,ht,ht'⟩:=digN (dgd n) ((digs n).length-1)
 have t0:t≠0:=by intro h0; subst h0; exact t2 ht
 rw [ht,Int.toNat_natCast] at t1
 refine ⟨t,ht,ht',t0,?_,?_⟩
 ·rcases Nat.lt_or_ge 32 (blen t) with h7 | h7
  ·have h6:=blen_le t0
   have:2 ^ 32≤2 ^ (blen t-1):=Nat.pow_le_pow_right (by decide) (by omega)
   omega
  ·exact h7
 ·have:=blen_shift (n:=n) (k:=32*((digs n).length-1)) (by rw [← pow32,t1]; exact t0)
  rw [← pow32,t1] at this; exact this
theorem Lead_eq {t:Nat} (ht:t<4294967296) (hb:blen t≤32):mb_LeadingZeros32 (t:Int)=some ((32-blen t:Nat):Int):=by
 unfold mb_LeadingZeros32
 rw [Len32_eq (by omega),Int.toNat_natCast]
 simp only [Option.bind_some]
 rw [w64 (by omega) (by omega)]
 congr 1; omega
theorem scaled_top {B m s:Nat} (hm:0<m) (hbl:blen B+s=32*m) (h0:B≠0):4294967296 ^ (m-1)*2147483648≤B*2 ^ s∧B*2 ^ s<4294967296 ^ m:=by
 have h1:=blen_le h0
 have h2:=blen_lt B
 have h3:=blen_pos h0
 have e2:2 ^ (blen B)*2 ^ s=4294967296 ^ m:=by rw [← Nat.pow_add,hbl,pow32]
 have e1:2 ^ (blen B-1)*2 ^ s=4294967296 ^ (m-1)*2147483648:=by
  rw [← Nat.pow_add,pow32,show (2147483648:Nat)=2 ^ 31 by decide,← Nat.pow_add]
  congr 1; omega
 constructor
 ·rw [← e1]; exact Nat.mul_le_mul_right _ h1
 ·rw [← e2]; exact Nat.mul_lt_mul_of_pos_right h2 (Nat.pow_pos (by decide))
theorem top_ge {v m t:Nat} (hm:0<m) (hl:(digs v).length=m) (ht:(digs v).getD (m-1) 0=(t:Int)) (hv:4294967296 ^ (m-1)*2147483648≤v):2147483648≤t:=by
 have hv0:v≠0:=by
  have:0<4294967296 ^ (m-1)*2147483648:=Nat.mul_pos (Nat.pow_pos (by decide)) (by decide)
  omega
 have h1:=(digs_top hv0).1
 rw [hl,ht,Int.toNat_natCast] at h1
 rw [← h1,Nat.le_div_iff_mul_le (Nat.pow_pos (by decide)),Nat.mul_comm]
 exact hv
theorem len_eq {v m:Nat} (h1:v<4294967296 ^ m) (h2:4294967296 ^ (m-1)*2147483648≤v) (hm:0<m):(digs v).length=m:=by
 have h3:=digs_length h1
 rcases Nat.lt_or_ge (digs v).length m with h4 | h4
 ·have h5:=dval_lt (dgd v)
  rw [dvd] at h5
  have h6:4294967296 ^ (digs v).length≤4294967296 ^ (m-1):=Nat.pow_le_pow_right (by decide) (by omega)
  have h7:4294967296 ^ (m-1)*1≤4294967296 ^ (m-1)*2147483648:=Nat.mul_le_mul_left _ (by decide)
  omega
 ·omega
theorem start_lt {A B s k la lb:Nat} (hA:A<4294967296 ^ la) (hB:4294967296 ^ (lb-1)≤B) (hk:k=la-lb+1) (hlb:0<lb) (hle:lb≤la):A*2 ^ s / 4294967296 ^ k<B*2 ^ s:=by
 rw [Nat.div_lt_iff_lt_mul (Nat.pow_pos (by decide))]
 have h1:A*2 ^ s<4294967296 ^ la*2 ^ s:=Nat.mul_lt_mul_of_pos_right hA (Nat.pow_pos (by decide))
 have h2:4294967296 ^ la=4294967296 ^ (lb-1)*4294967296 ^ k:=by
  rw [← Nat.pow_add]; congr 1; omega
 have h3:4294967296 ^ (lb-1)*4294967296 ^ k*2 ^ s≤B*2 ^ s*4294967296 ^ k:=by
  rw [Nat.mul_right_comm]
  exact Nat.mul_le_mul_right _ (Nat.mul_le_mul_right _ hB)
 rw [h2] at h1
 omega
theorem up_lt {A la s:Nat} (hs:s≤32) (h:A<4294967296 ^ la):A*2 ^ s<4294967296 ^ (la+1):=by
 have h1:2 ^ s≤2 ^ 32:=Nat.pow_le_pow_right (by decide) hs
 rw [p32] at h1
 have h2:A*2 ^ s≤A*4294967296:=Nat.mul_le_mul_left _ h1
 have h3:A*4294967296<4294967296 ^ la*4294967296:=Nat.mul_lt_mul_of_pos_right h (by omega)
 rw [Nat.pow_succ]
 omega
theorem obn {α β:Type} (a:α) (f:α→Option β):Option.bind (some a) f=f a:=by simp
theorem quo_long_eq {A B:Nat} (hA:(digs A).length≤274877906944) (hB:2≤(digs B).length) (hle:(digs B).length≤(digs A).length):quo_long (digs A) (digs B)=some (digs (A / B),digs (A % B),true):=by
 have hB0:B≠0:=by intro h; subst h; rw [digs_zero] at hB; simp at hB
 obtain ⟨t,ht,ht',t0,hbt,hbl⟩:=blen_digs hB0
 have htp:=blen_pos t0
 have hAlt:=dval_lt (dgd A)
 rw [dvd] at hAlt
 have hBge:=digs_ge hB0
 generalize hm:(digs B).length=m at *
 generalize hla:(digs A).length=la at *
 generalize hs:32-blen t=s at *
 obtain ⟨c1,c2⟩:=scaled_top (B:=B) (m:=m) (s:=s) (by omega) (by omega) hB0
 have hlen:=len_eq c2 c1 (by omega)
 obtain ⟨b1,hb1,hb1'⟩:=digN (dgd (B*2 ^ s)) (m-2+1)
 obtain ⟨b2,hb2,hb2'⟩:=digN (dgd (B*2 ^ s)) (m-2)
 have htop:2147483648≤b1:=by
  refine top_ge (v:=B*2 ^ s) (m:=m) (by omega) hlen ?_ c1
  rw [show m-1=m-2+1 by omega]; exact hb1
 have hupl:(digs (A*2 ^ s)).length≤la+1:=by
  exact digs_length (up_lt (by omega) hAlt)
 obtain ⟨cp1,cp2⟩:=dval_copyL (X:=List.replicate (la+1) 0) (l:=digs (A*2 ^ s)) (by simpa using hupl) (dval_replicate _)
 have hcl:(copyL (List.replicate (la+1) 0) (digs (A*2 ^ s))).length=la+1:=by rw [length_copyL,List.length_replicate]
 have hcd:Dig (copyL (List.replicate (la+1) 0) (digs (A*2 ^ s))):=by
  rw [cp1]; exact dig_append (dgd _) (dig_drop (dig_replicate _) _)
 rw [dvd] at cp2
 have hloop:=long_loop (b:=digs (B*2 ^ s)) (u0:=copyL (List.replicate (la+1) 0) (digs (A*2 ^ s))) (n:=m-2) (s:=s) (dgd _) (by omega) (by omega) (by omega) hb1 hb2 hb1' hb2' htop hcd
  (la-m+1) (List.replicate (la-m+1) 0) (copyL (List.replicate (la+1) 0) (digs (A*2 ^ s))) (by simp) (by rw [List.length_replicate]; omega) (by rw [List.length_replicate,hlen,hcl]; omega) rfl (dig_replicate _) hcd rfl
  (by rw [← dval_div hcd _ (by omega),cp2,dvd]; exact start_lt hAlt hBge rfl (by omega) hle)
  (by rw [List.drop_eq_nil_of_le (by simp)]; simp [dval]) fuel (by unfold fuel; omega)
 rw [cp2,dvd,Nat.mul_div_mul_right _ _ (Nat.pow_pos (by decide)),Nat.mul_mod_mul_right,Nat.mul_div_cancel _ (Nat.pow_pos (by decide))] at hloop
 unfold quo_long
 rw [hm,hla]
 have w1:IntKind.i64.wrap ((m:Int)-1)=((m-1:Nat):Int):=by rw [w64]<;>omega
 have w2:IntKind.i64.wrap ((la:Int)+1)=((la+1:Nat):Int):=by rw [w64]<;>omega
 have w3:IntKind.i64.wrap ((la:Int)-(m:Int))=((la-m:Nat):Int):=by rw [w64]<;>omega
 have w4:IntKind.i64.wrap (((la-m:Nat):Int)+1)=((la-m+1:Nat):Int):=by rw [w64]<;>omega
 rw [w1,if_pos (by omega),kz]
 simp only [Int.toNat_natCast]
 rw [ht,Lead_eq ht' hbt,hs]
 rw [obn]
 rw [nat_Shl_eq (dgd B) (by omega) (by omega),dvd]
 rw [obn]
 rw [w2,if_pos (by omega),nat_Shl_eq (dgd A) (by omega) (by omega),dvd]
 rw [obn]
 rw [hlen,w3,w4,if_pos (by omega)]
 simp only [Int.toNat_natCast]
 rw [show ((la-m+1:Nat):Int)-1=((la-m:Nat):Int) by omega] at hloop
 exact hloop
theorem quo_DivMod_eq {a b:List Int} (ha:Dig a) (hb:Dig b) (hl:a.length≤274877906944) (hl':b.length≤274877906944):quo_DivMod a b=some (if dval b=0 then ([],[],false) else (digs (dval a / dval b),digs (dval a % dval b),true)):=by
 unfold quo_DivMod
 have h1:=digs_len_le ha
 have h2:=digs_len_le hb
 rw [nat_Trim_eq ha (by omega),nat_Trim_eq hb (by omega)]
 simp only [obn]
 generalize dval a=A at *
 generalize dval b=B at *
 by_cases hB:B=0
 ·subst hB
  rw [if_pos (by rw [digs_zero]; rfl),if_pos rfl]
 ·have hp:=digs_len_pos hB
  rw [if_neg (by omega),if_neg hB,nat_Cmp_eq (dgd _) (dgd _) (by omega) (by omega),dvd,dvd]
  simp only [obn]
  by_cases hlt:A<B
  ·rw [if_pos hlt,if_pos (by decide),Nat.div_eq_of_lt hlt,Nat.mod_eq_of_lt hlt,digs_zero]
  ·rw [if_neg hlt,if_neg (by split<;>decide)]
   by_cases h1:(digs B).length=1
   ·rw [if_pos (by omega),if_pos (by omega),kz]
    obtain ⟨t,ht,ht',t0,-,-⟩:=blen_digs hB
    rw [h1,Nat.sub_self] at ht
    have hBt:B=t:=by
     have:=dval_drop (digs B) 0
     rw [List.drop_zero,dvd,List.drop_eq_nil_of_le (by omega),ht,Int.toNat_natCast] at this
     simpa [dval] using this
    rw [ht,quo_short_eq (dgd A) (by omega) (by omega) ht',dvd,← hBt]
    rfl
   ·rw [if_neg (by omega),quo_long_eq (by omega) (by omega) (digs_len_mono (by omega))]
    rfl
def SZ (n:Nat):Prop:=blen n≤1048576
theorem blen_mono {m n:Nat} (h:m≤n):blen m≤blen n:=by
 rcases Nat.lt_or_ge (blen n) (blen m) with h1 | h1
 ·have hm:m≠0:=by intro h0; subst h0; simp [blen] at h1
  have h2:=blen_le hm
  have h3:=blen_lt n
  have h4:2 ^ blen n≤2 ^ (blen m-1):=Nat.pow_le_pow_right (by decide) (by omega)
  omega
 ·exact h1
theorem blen_le_of {n k:Nat} (h:n<2 ^ k):blen n≤k:=by
 rcases Nat.lt_or_ge k (blen n) with h1 | h1
 ·have hn:n≠0:=by intro h0; subst h0; simp [blen] at h1
  have h2:=blen_le hn
  have h4:2 ^ k≤2 ^ (blen n-1):=Nat.pow_le_pow_right (by decide) (by omega)
  omega
 ·exact h1
theorem blen_mul (m n:Nat):blen (m*n)≤blen m+blen n:=by
 rcases Nat.eq_zero_or_pos (m*n) with h | h
 ·rw [h]; simp [blen]
 ·refine blen_le_of ?_
  rw [Nat.pow_add]
  exact Nat.mul_lt_mul'' (blen_lt m) (blen_lt n)
theorem blen_add (m n:Nat):blen (m+n)≤max (blen m) (blen n)+1:=by
 refine blen_le_of ?_
 have h1:=blen_lt m
 have h2:=blen_lt n
 have h3:2 ^ blen m≤2 ^ max (blen m) (blen n):=Nat.pow_le_pow_right (by decide) (by omega)
 have h4:2 ^ blen n≤2 ^ max (blen m) (blen n):=Nat.pow_le_pow_right (by decide) (by omega)
 rw [Nat.pow_succ]; omega
theorem blen_pow (k:Nat):blen (2 ^ k)=k+1:=blen_eq (Nat.le_refl _) (Nat.pow_lt_pow_right (by decide) (by omega))
theorem blen_zero:blen 0=0:=by simp [blen]
theorem blen_shl {n:Nat} (h:n≠0) (k:Nat):blen (n*2 ^ k)=blen n+k:=by
 have:=blen_shift (n:=n*2 ^ k) (k:=k) (by rwa [Nat.mul_div_cancel _ (Nat.pow_pos (by decide))])
 rwa [Nat.mul_div_cancel _ (Nat.pow_pos (by decide))] at this
theorem digs_len_blen (n:Nat):(digs n).length≤blen n / 32+1:=by
 refine digs_length ?_
 rw [pow32]
 exact Nat.lt_of_lt_of_le (blen_lt n) (Nat.pow_le_pow_right (by decide) (by omega))
theorem sz_len {n:Nat} (h:SZ n):(digs n).length≤32769:=by
 have:=digs_len_blen n
 unfold SZ at h; omega
def sg (b:Bool) (n:Nat):Int:=if b then -(n:Int) else n
def iOf (z:Int):ApiInt:=⟨decide (z<0),digs z.natAbs⟩
def sgc (x y:Int):Int:=if x<y then -1 else if y<x then 1 else 0
theorem zint_of_eq {neg:Bool} {mag:List Int} (hd:Dig mag) (hl:mag.length≤274877906944):zint_of ⟨neg,mag⟩=some ⟨⟨digs (dval mag)⟩,decide (sg neg (dval mag)<0)⟩:=by
 unfold zint_of
 rw [nat_Trim_eq hd (by omega)]
 simp only [obn]
 unfold zint_of_j1 sg
 cases neg with
 | false=>simp
 | true=>
  simp only [if_true]
  congr 2
  by_cases h:dval mag=0
  ·rw [h,digs_zero]; simp
  ·have:=digs_len_pos h
   simp; omega
theorem zint_of_iOf {z:Int} (h:SZ z.natAbs):zint_of (iOf z)=some ⟨⟨digs z.natAbs⟩,decide (z<0)⟩:=by
 have:=sz_len h
 unfold iOf
 rw [zint_of_eq (dgd _) (by omega),dvd]
 congr 2
 unfold sg
 by_cases h:z<0<;>simp [h]<;>omega
theorem iOf_mag_zero (z:Int):((iOf z).Mag.length:Int)=0↔z=0:=by
 unfold iOf
 constructor
 ·intro h
  by_cases h0:z.natAbs=0
  ·omega
  ·have:=digs_len_pos h0; simp only at h; omega
 ·rintro rfl; simp [digs_zero]
theorem iOf_sg (b:Bool) (n:Nat):iOf (sg b n)=⟨decide (sg b n<0),digs n⟩:=by
 unfold iOf
 congr 2
 unfold sg; cases b<;>simp
theorem out_eq (b:Bool) (n:Nat):zint_signed_out ⟨⟨digs n⟩,decide (sg b n<0)⟩=some (iOf (sg b n)):=by
 unfold zint_signed_out zint_signed_out_j1 zint_size_zero
 rw [iOf_sg]
 by_cases h:sg b n<0
 ·simp only [h,decide_true,if_true,obn]
  have:n≠0:=by unfold sg at h; intro h0; subst h0; cases b<;>simp at h
  have:=digs_len_pos this
  have e:(((digs n).length:Int) == 0)=false:=by rw [beq_eq_false_iff_ne]; omega
  rw [e]; rfl
 ·simp [h]
theorem zint_Make_eq {neg:Bool} {mag:List Int} (hd:Dig mag) (hl:mag.length≤274877906944):zint_Make neg mag=some (iOf (sg neg (dval mag))):=by
 unfold zint_Make
 rw [zint_of_eq hd hl]
 simp only [obn]
 rw [out_eq]
 rfl
theorem sg_abs (z:Int):sg (decide (z<0)) z.natAbs=z:=by
 unfold sg
 by_cases h:z<0<;>simp [h]<;>omega
theorem zint_Make_digs (neg:Bool) {n:Nat} (h:SZ n):zint_Make neg (digs n)=some (iOf (sg neg n)):=by
 have:=sz_len h
 rw [zint_Make_eq (dgd n) (by omega),dvd]
theorem zint_Neg_eq {z:Int} (h:SZ z.natAbs):zint_Neg (iOf z)=some (iOf (-z)):=by
 unfold zint_Neg
 show ((zint_Make (!decide (z<0)) (digs z.natAbs)).bind fun x2=>some x2)=_
 rw [zint_Make_digs _ h]
 simp only [obn]
 congr 2
 unfold sg
 by_cases h:z<0<;>simp [h]<;>omega
theorem zint_Cmp_eq {x y:Int} (hx:SZ x.natAbs) (hy:SZ y.natAbs):zint_Cmp (iOf x) (iOf y)=some (sgc x y):=by
 have h1:=sz_len hx
 have h2:=sz_len hy
 unfold zint_Cmp
 rw [zint_of_iOf hx,zint_of_iOf hy]
 simp only [obn]
 unfold zint_Cmp_j1 zint_Cmp_j2
 simp only [nat_Cmp_eq (dgd x.natAbs) (dgd y.natAbs) (by omega) (by omega),nat_Cmp_eq (dgd y.natAbs) (dgd x.natAbs) (by omega) (by omega),dvd,obn]
 unfold sgc
 by_cases hxn:x<0<;>by_cases hyn:y<0<;>simp only [hxn,hyn,decide_true,decide_false,bne_self_eq_false,Bool.true_bne,Bool.false_bne,Bool.not_false,Bool.not_true,if_true,if_false,Bool.false_eq_true]
 ·congr 1
  by_cases h:x<y
  ·rw [if_pos h,if_pos (by omega)]
  ·rw [if_neg h,if_neg (by omega)]
   by_cases h':y<x
   ·rw [if_pos h',if_pos (by omega)]
   ·rw [if_neg h',if_neg (by omega)]
 ·rw [if_pos (by omega)]
 ·rw [if_neg (by omega),if_pos (by omega)]
 ·congr 1
  by_cases h:x<y
  ·rw [if_pos h,if_pos (by omega)]
  ·rw [if_neg h,if_neg (by omega)]
   by_cases h':y<x
   ·rw [if_pos h',if_pos (by omega)]
   ·rw [if_neg h',if_neg (by omega)]
theorem sz_le {m n:Nat} (h:m≤n) (hn:SZ n):SZ m:=Nat.le_trans (blen_mono h) hn
theorem zint_Add_eq {x y:Int} (hx:SZ x.natAbs) (hy:SZ y.natAbs) (hs:SZ (x.natAbs+y.natAbs)):zint_Add (iOf x) (iOf y)=some (iOf (x+y)):=by
 have h1:=sz_len hx
 have h2:=sz_len hy
 unfold zint_Add
 rw [zint_of_iOf hx,zint_of_iOf hy]
 simp only [obn]
 by_cases hsame:decide (x<0)=decide (y<0)
 ·rw [if_pos (by simp [hsame]),nat_Add_eq (dgd _) (dgd _) (by omega) (by omega),dvd,dvd]
  simp only [obn]
  rw [zint_Make_digs _ hs]
  simp only [obn]
  congr 2
  unfold sg
  by_cases hxn:x<0<;>by_cases hyn:y<0<;>simp [hxn,hyn] at hsame ⊢ <;> omega
 ·rw [if_neg (by simp; exact fun h=>hsame (by simp [h])),nat_Cmp_eq (dgd _) (dgd _) (by omega) (by omega),dvd,dvd]
  simp only [obn]
  unfold zint_Add_j1
  rw [nat_Sub_eq (dgd _) (dgd _) (by omega) (by omega),nat_Sub_eq (dgd _) (dgd _) (by omega) (by omega),dvd,dvd]
  by_cases hlt:x.natAbs<y.natAbs
  ·rw [if_pos hlt,if_pos (by decide),if_neg (by omega)]
   simp only [obn]
   rw [zint_Make_digs _ (sz_le (by omega) hs)]
   simp only [obn]
   congr 2
   unfold sg
   by_cases hxn:x<0<;>by_cases hyn:y<0<;>simp [hxn,hyn] at hsame ⊢ <;> omega
  ·rw [if_neg hlt,if_neg (by split<;>decide),if_neg hlt]
   simp only [obn]
   rw [zint_Make_digs _ (sz_le (by omega) hs)]
   simp only [obn]
   congr 2
   unfold sg
   by_cases hxn:x<0<;>by_cases hyn:y<0<;>simp [hxn,hyn] at hsame ⊢ <;> omega
theorem zint_From_eq {n:Int} (h : -9223372036854775808≤n∧n≤9223372036854775807):zint_From n=some (iOf n):=by
 unfold zint_From zint_From_j1
 have hsz:SZ n.natAbs:=by
  have:blen n.natAbs≤64:=blen_le_of (by omega)
  unfold SZ; omega
 by_cases hn:n<0
 ·have e:IntKind.u64.wrap (0-IntKind.u64.wrap n)=((n.natAbs:Nat):Int):=by simp only [wu64]; omega
  rw [if_pos hn,e,nat_From_eq (by omega) (by omega),Int.toNat_natCast]
  simp only [obn]
  rw [zint_Make_digs _ hsz]
  simp only [obn]
  rw [sg_abs]
 ·have e:IntKind.u64.wrap n=((n.natAbs:Nat):Int):=by simp only [wu64]; omega
  rw [if_neg hn,e,nat_From_eq (by omega) (by omega),Int.toNat_natCast]
  simp only [obn]
  rw [zint_Make_digs _ hsz]
  simp only [obn]
  rw [sg_abs]
def rightI (a:ApiInt):Bool:=if a.Mag.length=0 then !a.Neg else a.Mag.getD (a.Mag.length-1) 0 != 0
theorem zint_Right_eq {a:ApiInt} (h:a.Mag.length≤274877906944):zint_Right a=some (rightI a):=by
 unfold zint_Right rightI
 by_cases h0:a.Mag.length=0
 ·rw [if_pos (by omega),if_pos h0]
 ·have hw:IntKind.i64.wrap ((a.Mag.length:Int)-1)=((a.Mag.length-1:Nat):Int):=by rw [w64]<;>omega
  rw [if_neg (by omega),if_neg h0,hw,if_pos (by omega),kz,Int.toNat_natCast]
theorem getLastD_getD {l:List Int} (h:l.length≠0):l.getLastD 1=l.getD (l.length-1) 0:=by
 cases l with
 | nil=>simp at h
 | cons d l=>
  simp [List.getD,List.getLast?_eq_getElem?]
theorem rightI_iOf' (z:Int):rightI (iOf z)=true:=by
 unfold rightI iOf
 simp only
 by_cases h0:z.natAbs=0
 ·have hz:z=0:=by omega
  subst hz
  simp [digs_zero]
 ·have:=digs_len_pos h0
  rw [if_neg (by omega)]
  have:=(digs_top h0).2
  simpa using this
structure D where
 m:Int
 e:Int
instance:DecidableEq D:=fun x y=>
 if h:x.m=y.m∧x.e=y.e then isTrue (by cases x; cases y; simp only at h; rw [h.1,h.2]) else isFalse (fun e=>h (by rw [e]; exact ⟨rfl,rfl⟩))
def zD:D:=⟨0,0⟩
def lowz (n:Nat):Nat:=Nat.log2 (Nat.gcd n (2 ^ Nat.log2 n))
def nrm (m e:Int):D:=if m=0 then zD else ⟨m / 2 ^ lowz m.natAbs,e+lowz m.natAbs⟩
def dy (d:D):AD:=⟨iOf d.m,d.e⟩
theorem dy_z:dy zD=⟨⟨false,[]⟩,0⟩:=by simp [dy,zD,iOf,digs_zero]
theorem odd_part:∀ (n:Nat),n≠0→∃ t o,n=2 ^ t*o∧o % 2=1:=by
 intro n
 induction n using Nat.strongRecOn with
 | _ n ih=>
  intro h
  by_cases h2:n % 2=1
  ·exact ⟨0,n,by simp,h2⟩
  ·obtain ⟨t,o,h3,h4⟩:=ih (n / 2) (by omega) (by omega)
   exact ⟨t+1,o,by rw [Nat.pow_succ]; have:n=2*(n / 2):=(by omega); rw [this,h3]; grind,h4⟩
theorem lowz_of {t o:Nat} (h:o % 2=1):lowz (2 ^ t*o)=t:=by
 unfold lowz
 have h0:2 ^ t*o≠0:=by
  have:=Nat.pow_pos (n:=t) (show 0<2 by decide)
  have:0<2 ^ t*o:=Nat.mul_pos this (by omega)
  omega
 have hle:t≤Nat.log2 (2 ^ t*o):=by
  rw [Nat.le_log2 h0]
  exact Nat.le_mul_of_pos_right _ (by omega)
 obtain ⟨k,hk⟩:∃ k,Nat.log2 (2 ^ t*o)=t+k:=⟨Nat.log2 (2 ^ t*o)-t,by omega⟩
 rw [hk,Nat.pow_add,Nat.gcd_mul_left]
 have hc:Nat.gcd o (2 ^ k)=1:=by
  refine Nat.Coprime.gcd_eq_one (Nat.Coprime.pow_right k ?_)
  show Nat.gcd o 2=1
  rw [Nat.gcd_comm,Nat.gcd_rec,h]
  rfl
 rw [hc,Nat.mul_one,Nat.log2_two_pow]
theorem lowz_spec {n:Nat} (h:n≠0):∃ o,n=2 ^ lowz n*o∧o % 2=1:=by
 obtain ⟨t,o,h1,h2⟩:=odd_part n h
 refine ⟨o,?_,h2⟩
 rw [h1,lowz_of h2]
theorem bit_below {t o j:Nat} (h:j<t):(2 ^ t*o).testBit j=false:=by
 rw [Nat.testBit_two_pow_mul]; simp; omega
theorem bit_at {t o:Nat} (h:o % 2=1):(2 ^ t*o).testBit t=true:=by
 rw [Nat.testBit_two_pow_mul]; simp [h]
theorem digit_bit {N i b:Nat} (hb:b<32):((digs N).getD i 0).toNat.testBit b=N.testBit (32*i+b):=by
 have:=testBit_dval (digs N) (dgd N) (32*i+b)
 rw [dvd,show (32*i+b) / 32=i by omega,show (32*i+b) % 32=b by omega] at this
 exact this.symm
theorem digit_zero {t o i:Nat} (h:32*i+32≤t):(digs (2 ^ t*o)).getD i 0=0:=by
 obtain ⟨d,hd,hd'⟩:=digN (dgd (2 ^ t*o)) i
 have:d=0:=by
  apply Nat.eq_of_testBit_eq
  intro b
  rw [Nat.zero_testBit]
  by_cases hb:b<32
  ·have:=digit_bit (N:=2 ^ t*o) (i:=i) hb
   rw [hd,Int.toNat_natCast] at this
   rw [this,bit_below (by omega)]
  ·refine Nat.testBit_lt_two_pow (Nat.lt_of_lt_of_le hd' ?_)
   rw [← p32]; exact Nat.pow_le_pow_right (by decide) (by omega)
 rw [hd,this]; rfl
theorem digit_some {t o:Nat} (h:o % 2=1):(digs (2 ^ t*o)).getD (t / 32) 0≠0:=by
 intro h0
 have:=digit_bit (N:=2 ^ t*o) (i:=t / 32) (b:=t % 32) (by omega)
 rw [h0,show 32*(t / 32)+t % 32=t by omega,bit_at h] at this
 simp at this
theorem sg_mul (b:Bool) (x y:Nat):sg b (x*y)=(x:Int)*sg b y:=by
 unfold sg; cases b<;>simp [Int.mul_neg]
theorem sg_abs' (b:Bool) (n:Nat):(sg b n).natAbs=n:=by unfold sg; cases b<;>simp
theorem sg_zero (b:Bool) (n:Nat):sg b n=0↔n=0:=by unfold sg; cases b<;>simp
theorem nrm_sg {b:Bool} {t o:Nat} (e:Int) (h:o % 2=1):nrm (sg b (2 ^ t*o)) e=⟨sg b o,e+(t:Int)⟩:=by
 have h0:2 ^ t*o≠0:=by
  have:0<2 ^ t*o:=Nat.mul_pos (Nat.pow_pos (by decide)) (by omega)
  omega
 unfold nrm
 rw [if_neg (by rw [sg_zero]; exact h0),sg_abs',lowz_of h,sg_mul]
 congr 1
 have:((2 ^ t:Nat):Int)=(2:Int) ^ t:=by simp
 rw [this,Int.mul_ediv_cancel_left]
 have:=Int.pow_pos (n:=2) (m:=t) (by decide)
 omega
theorem norm_l3 {t o:Nat} (ho:o % 2=1) (hsz:SZ (2 ^ t*o)) (neg:Bool) {e:Int} (he : -1152921504606846976≤e∧e≤1152921504606846976) (ht:t≤1099511627776) :
  ∀ (r n:Nat),n+r=t→∀ f,r<f→dyad_norm_l3 (digs (2 ^ t*o)) neg e f (n:Int)=some (dy ⟨sg neg o,e+(t:Int)⟩):=by
 have hlen:=sz_len hsz
 intro r
 induction r with
 | zero=>
  intro n hn f hf
  obtain ⟨f,rfl⟩:∃ k,f=k+1:=⟨f-1,by omega⟩
  have:n=t:=by omega
  subst this
  rw [dyad_norm_l3,nat_Bit_eq (dgd _) (by omega),dvd,bit_at ho]
  simp only [obn]
  rw [if_neg (by simp)]
  unfold dyad_norm_j2
  rw [nat_Shr_eq (dgd _) (by omega) (by omega),dvd,Nat.mul_div_cancel_left _ (Nat.pow_pos (by decide))]
  simp only [obn]
  rw [zint_Make_digs _ (sz_le (Nat.le_mul_of_pos_left _ (Nat.pow_pos (by decide))) hsz)]
  simp only [obn]
  rw [w64 (by omega) (by omega)]
  rfl
 | succ r ih=>
  intro n hn f hf
  obtain ⟨f,rfl⟩:∃ k,f=k+1:=⟨f-1,by omega⟩
  rw [dyad_norm_l3,nat_Bit_eq (dgd _) (by omega),dvd,bit_below (by omega)]
  simp only [obn]
  rw [if_pos (by simp),show ((n:Int)+1)=((n+1:Nat):Int) by omega,w64n (by omega)]
  exact ih (n+1) (by omega) f (by omega)
theorem t_le {t o:Nat} (ho:o % 2=1):t<blen (2 ^ t*o):=by
 have:=blen_mono (Nat.le_mul_of_pos_right (2 ^ t) (show 0<o by omega))
 rw [blen_pow] at this; omega
theorem norm_l4 {t o:Nat} (ho:o % 2=1) (hsz:SZ (2 ^ t*o)) (neg:Bool) {e:Int} (he : -1152921504606846976≤e∧e≤1152921504606846976) :
  ∀ (r i:Nat),i+r=t / 32→∀ f,r<f→dyad_norm_l4 (digs (2 ^ t*o)) neg e f ((32*i:Nat):Int)=some (dy ⟨sg neg o,e+(t:Int)⟩):=by
 have hlen:=sz_len hsz
 have ht:=t_le (t:=t) ho
 unfold SZ at hsz
 intro r
 induction r with
 | zero=>
  intro i hi f hf
  obtain ⟨f,rfl⟩:∃ k,f=k+1:=⟨f-1,by omega⟩
  have hd:=digit_some (t:=t) ho
  have hin:t / 32<(digs (2 ^ t*o)).length:=by
   rcases Nat.lt_or_ge (t / 32) (digs (2 ^ t*o)).length with h | h
   ·exact h
   ·exact absurd (by simp [List.getD,List.getElem?_eq_none h]) hd
  have hit:i=t / 32:=by omega
  rw [dyad_norm_l4,tdiv32,w64n (n:=32*i / 32) (by omega),show 32*i / 32=t / 32 by omega,if_pos (by omega),kz,Int.toNat_natCast,if_neg hd]
  unfold dyad_norm_j1
  exact norm_l3 ho hsz neg he (by omega) (t-32*i) (32*i) (by omega) fuel (by unfold fuel; omega)
 | succ r ih=>
  intro i hi f hf
  obtain ⟨f,rfl⟩:∃ k,f=k+1:=⟨f-1,by omega⟩
  have hd:=digit_zero (t:=t) (o:=o) (i:=i) (by omega)
  have hin:i<(digs (2 ^ t*o)).length:=by
   have h1:=digit_some (t:=t) ho
   rcases Nat.lt_or_ge (t / 32) (digs (2 ^ t*o)).length with h | h
   ·omega
   ·exact absurd (by simp [List.getD,List.getElem?_eq_none h]) h1
  rw [dyad_norm_l4,tdiv32,w64n (n:=32*i / 32) (by omega),show 32*i / 32=i by omega,if_pos (by omega),kz,Int.toNat_natCast,if_pos hd]
  rw [show (((32*i:Nat):Int)+32)=((32*(i+1):Nat):Int) by omega,w64n (by omega)]
  exact ih (i+1) (by omega) f (by omega)
theorem dyad_norm_eq (neg:Bool) {n:Nat} (hsz:SZ n) {e:Int} (he : -1152921504606846976≤e∧e≤1152921504606846976):dyad_norm neg (digs n) e=some (dy (nrm (sg neg n) e)):=by
 have hlen:=sz_len hsz
 unfold dyad_norm
 rw [nat_Trim_eq (dgd n) (by omega),dvd]
 simp only [obn]
 by_cases h0:n=0
 ·subst h0
  rw [if_pos (by rw [digs_zero]; rfl)]
  unfold nrm
  rw [if_pos (by rw [sg_zero]),dy_z]
 ·obtain ⟨o,h1,h2⟩:=lowz_spec h0
  generalize lowz n=t at h1
  subst h1
  have:=digs_len_pos h0
  rw [if_neg (by omega),nrm_sg e h2]
  have:=t_le (t:=t) h2
  unfold SZ at hsz
  exact norm_l4 h2 hsz neg he (t / 32) 0 (by omega) fuel (by unfold fuel; omega)
theorem up_l2 {k:Nat} : ∀ (c v n:Nat),n≤100000*c+100000→blen v+n≤k→k≤1048576→∀ f,c<f→dyad_up_l2 f (digs v) (n:Int)=some (digs (v*2 ^ n)):=by
 intro c
 induction c with
 | zero=>
  intro v n hn hv hk f hf
  obtain ⟨f,rfl⟩:∃ k,f=k+1:=⟨f-1,by omega⟩
  have hl:=sz_len (n:=v) (by unfold SZ; omega)
  rw [dyad_up_l2,if_neg (by omega)]
  unfold dyad_up_j1
  have hm:mx (n:Int) 0=(n:Int):=by unfold mx; simp; omega
  rw [hm,nat_Shl_eq (dgd _) (by omega) (by omega),dvd]
  rfl
 | succ c ih=>
  intro v n hn hv hk f hf
  obtain ⟨f,rfl⟩:∃ k,f=k+1:=⟨f-1,by omega⟩
  have hl:=sz_len (n:=v) (by unfold SZ; omega)
  rw [dyad_up_l2]
  obtain ⟨K,hK⟩:∃ K:Nat,K=100000:=⟨_,rfl⟩
  by_cases h:n>100000
  ·rw [if_pos (by omega)]
   have:=nat_Shl_eq (dgd v) (by omega) (n:=K) (by omega)
   rw [dvd] at this
   rw [show (100000:Int)=((K:Nat):Int) by omega,this]
   simp only [obn]
   rw [show (n:Int)-((K:Nat):Int)=((n-K:Nat):Int) by omega,w64n (by omega)]
   by_cases h0:v=0
   ·subst h0
    have e:=ih 0 (n-K) (by omega) (by rw [blen_zero]; omega) hk f (by omega)
    rw [Nat.zero_mul] at e ⊢
    rw [Nat.zero_mul]; exact e
   ·have e:=ih (v*2 ^ K) (n-K) (by omega) (by rw [blen_shl h0]; omega) hk f (by omega)
    rw [Nat.mul_assoc,← Nat.pow_add,show K+(n-K)=n by omega] at e
    exact e
  ·rw [if_neg (by omega)]
   unfold dyad_up_j1
   have hm:mx (n:Int) 0=(n:Int):=by unfold mx; simp; omega
   rw [hm,nat_Shl_eq (dgd _) (by omega) (by omega),dvd]
   rfl
theorem dyad_up_eq {v n:Nat} (h:blen v+n≤1048576):dyad_up (digs v) (n:Int)=some (digs (v*2 ^ n)):=by
 unfold dyad_up
 exact up_l2 11 v n (by omega) h (Nat.le_refl _) fuel (by unfold fuel; omega)
def p2 (k:Int):Rat:=(2:Rat) ^ k
theorem p2_add (a b:Int):p2 (a+b)=p2 a*p2 b:=Rat.zpow_add (by decide) a b
theorem p2_zero:p2 0=1:=Rat.zpow_zero 2
theorem p2_pos (k:Int):0<p2 k:=Rat.zpow_pos (by decide)
theorem p2_nat (n:Nat):p2 (n:Int)=((2 ^ n:Nat):Rat):=by
 unfold p2
 rw [Rat.zpow_natCast,Rat.natCast_pow]; rfl
theorem p2_int (n:Nat):p2 (n:Int)=(((2:Int) ^ n:Int):Rat):=by
 rw [p2_nat]
 have:((2:Int) ^ n)=((2 ^ n:Nat):Int):=by simp
 rw [this,Rat.intCast_natCast]
def val (d:D):Rat:=(d.m:Rat)*p2 d.e
theorem val_z:val zD=0:=by simp [val,zD]
def okD (d:D):Prop:=(d.m=0∧d.e=0)∨(d.m % 2=1∧-131072≤d.e∧d.e≤131072)
def WD (d:D):Prop:=okD d∧blen d.m.natAbs≤262144
theorem okD_z:okD zD:=Or.inl ⟨rfl,rfl⟩
theorem WD_z:WD zD:=⟨okD_z,by simp [zD,blen]⟩
theorem WD.sz {d:D} (h:WD d):SZ d.m.natAbs:=by have:=h.2; unfold SZ; omega
theorem okD.e {d:D} (h:okD d) : -131072≤d.e∧d.e≤131072:=by
 rcases h with h | h
 ·omega
 ·exact h.2
theorem WD.e {d:D} (h:WD d) : -131072≤d.e∧d.e≤131072:=h.1.e
theorem sg_natAbs (z:Int):∃ b,z=sg b z.natAbs:=⟨decide (z<0),(sg_abs z).symm⟩
theorem nrm_spec {m:Int} (h:m≠0) (e:Int):∃ (t:Nat) (o:Int),m=2 ^ t*o∧o % 2=1∧nrm m e=⟨o,e+(t:Int)⟩∧t<blen m.natAbs∧blen o.natAbs≤blen m.natAbs∧blen o.natAbs+t=blen m.natAbs:=by
 obtain ⟨b,hb⟩:=sg_natAbs m
 have h0:m.natAbs≠0:=by omega
 obtain ⟨o,h1,h2⟩:=lowz_spec h0
 generalize lowz m.natAbs=t at h1
 generalize m.natAbs=n at *
 subst hb; subst h1
 refine ⟨t,sg b o,?_,?_,nrm_sg e h2,t_le h2,?_,?_⟩
 ·rw [sg_mul]; simp
 ·unfold sg; cases b<;>simp<;>omega
 ·rw [sg_abs']; exact blen_mono (Nat.le_mul_of_pos_left _ (Nat.pow_pos (by decide)))
 ·rw [sg_abs',Nat.mul_comm,blen_shl (by omega)]
theorem nrm_zero (e:Int):nrm 0 e=zD:=by simp [nrm]
theorem val_nrm (m e:Int):val (nrm m e)=(m:Rat)*p2 e:=by
 by_cases h:m=0
 ·subst h; rw [nrm_zero,val_z]; simp
 ·obtain ⟨t,o,h1,-,h3,-⟩:=nrm_spec h e
  rw [h3]
  unfold val
  simp only
  rw [p2_add,p2_int,h1,Rat.intCast_mul,Rat.mul_comm (p2 e),← Rat.mul_assoc,Rat.mul_comm (o:Rat)]
theorem nrm_blen (m e:Int):blen (nrm m e).m.natAbs≤blen m.natAbs:=by
 by_cases h:m=0
 ·subst h; rw [nrm_zero]; exact Nat.le_refl _
 ·obtain ⟨t,o,-,-,h3,-,h5,-⟩:=nrm_spec h e
  rw [h3]; exact h5
theorem nrm_odd {m:Int} (h:m≠0) (e:Int):(nrm m e).m % 2=1:=by
 obtain ⟨t,o,-,h2,h3,-⟩:=nrm_spec h e
 rw [h3]; exact h2
theorem nrm_self {d:D} (h:okD d):nrm d.m d.e=d:=by
 rcases h with h | h
 ·rw [h.1,nrm_zero]; obtain ⟨m,e⟩:=d; simp only at h; rw [h.1,h.2]; rfl
 ·have h0:d.m≠0:=by omega
  obtain ⟨t,o,h1,h2,h3,h4,h5,h6⟩:=nrm_spec h0 d.e
  have ht:t=0:=by
   rcases Nat.eq_zero_or_pos t with ht | ht
   ·exact ht
   ·obtain ⟨k,rfl⟩:∃ k,t=k+1:=⟨t-1,by omega⟩
    rw [h1,Int.pow_succ,Int.mul_assoc,Int.mul_comm,Int.mul_assoc] at h
    omega
  subst ht
  rw [h3]
  obtain ⟨m,e⟩:=d
  simp at h1 ⊢
  omega
theorem nrm_shift (m e:Int) (k:Nat):nrm (m*2 ^ k) (e-k)=nrm m e:=by
 by_cases h:m=0
 ·subst h; rw [Int.zero_mul,nrm_zero,nrm_zero]
 ·obtain ⟨b,hb⟩:=sg_natAbs m
  have h0:m.natAbs≠0:=by omega
  obtain ⟨o,h1,h2⟩:=lowz_spec h0
  generalize lowz m.natAbs=t at h1
  generalize m.natAbs=n at *
  subst hb; subst h1
  have e1:sg b (2 ^ t*o)*2 ^ k=sg b (2 ^ (t+k)*o):=by
   rw [sg_mul,sg_mul,Nat.pow_add]; simp; grind
  rw [e1,nrm_sg _ h2,nrm_sg _ h2]
  congr 1; omega
def inR (d:D):Bool:=d.m == 0 || (decide (-65536≤d.e+(blen d.m.natAbs:Nat)∧d.e+(blen d.m.natAbs:Nat)≤65536∧-131072≤d.e∧d.e≤131072∧blen d.m.natAbs≤262144))
def tell (d:D):D × Int:=if inR d then (d,0) else (zD,4)
def negD (d:D):D:=⟨-d.m,d.e⟩
def sumD (x y:D):D:=if x.m=0 then y else if y.m=0 then x else if x.e<y.e then nrm (y.m*2 ^ (y.e-x.e).toNat+x.m) x.e else nrm (x.m*2 ^ (x.e-y.e).toNat+y.m) y.e
def mulD (x y:D):D:=nrm (x.m*y.m) (x.e+y.e)
def cmpD (x y:D):Int:=sgc (sumD x (negD y)).m 0
theorem val_neg (d:D):val (negD d) = -val d:=by simp [val,negD,Rat.neg_mul]
theorem val_mul (x y:D):val (mulD x y)=val x*val y:=by
 unfold mulD
 rw [val_nrm,p2_add,Rat.intCast_mul]; unfold val; grind
theorem val_zero_m {d:D} (h:d.m=0):val d=0:=by simp [val,h]
theorem p2_diff {x y:Int} (h:y≤x):p2 x=(((2:Int) ^ (x-y).toNat:Int):Rat)*p2 y:=by
 rw [← p2_int,← p2_add]; congr 1; omega
theorem val_sum (x y:D):val (sumD x y)=val x+val y:=by
 unfold sumD
 by_cases hx:x.m=0
 ·rw [if_pos hx,val_zero_m hx,Rat.zero_add]
 ·rw [if_neg hx]
  by_cases hy:y.m=0
  ·rw [if_pos hy,val_zero_m hy,Rat.add_zero]
  ·rw [if_neg hy]
   by_cases h:x.e<y.e
   ·rw [if_pos h,val_nrm,Rat.intCast_add,Rat.intCast_mul]
    unfold val
    rw [p2_diff (x:=y.e) (y:=x.e) (by omega)]; grind
   ·rw [if_neg h,val_nrm,Rat.intCast_add,Rat.intCast_mul]
    unfold val
    rw [p2_diff (x:=x.e) (y:=y.e) (by omega)]; grind
theorem val_neg_iff (d:D):val d<0↔d.m<0:=by
 unfold val
 have hp:=p2_pos d.e
 constructor
 ·intro h
  rcases (show d.m<0∨0≤d.m by omega) with h1 | h1
  ·exact h1
  ·have h2:(0:Rat)≤(d.m:Rat):=by exact_mod_cast h1
   have:=Rat.mul_nonneg h2 (Rat.le_of_lt hp)
   grind
 ·intro h
  have h2:(d.m:Rat)<0:=by exact_mod_cast h
  have h3:0 < -(d.m:Rat):=by grind
  have:=Rat.mul_pos h3 hp
  grind
theorem val_pos_iff (d:D):0<val d↔0<d.m:=by
 have:=val_neg_iff (negD d)
 rw [val_neg] at this
 unfold negD at this
 simp only at this
 constructor
 ·intro h; have:=this.1 (by grind); omega
 ·intro h; have:=this.2 (by omega); grind
theorem val_zero_iff (d:D):val d=0↔d.m=0:=by
 have h1:=val_neg_iff d
 have h2:=val_pos_iff d
 constructor
 ·intro h
  have h3:¬d.m<0:=fun h4=>by have:=h1.2 h4; grind
  have h4:¬0<d.m:=fun h4=>by have:=h2.2 h4; grind
  omega
 ·exact val_zero_m
theorem cmpD_eq (x y:D):cmpD x y=if val x<val y then -1 else if val y<val x then 1 else 0:=by
 unfold cmpD sgc
 have h1:=val_neg_iff (sumD x (negD y))
 have h2:=val_pos_iff (sumD x (negD y))
 rw [val_sum,val_neg] at h1 h2
 by_cases h:val x<val y
 ·rw [if_pos h,if_pos (h1.1 (by grind))]
 ·rw [if_neg h,if_neg (fun h3=>h (by have:=h1.2 h3; grind))]
  by_cases h':val y<val x
  ·rw [if_pos h',if_pos (h2.1 (by grind))]
  ·rw [if_neg h',if_neg (fun h3=>h' (by have:=h2.2 h3; grind))]
theorem cmpD_le (x y:D):cmpD x y≤0↔val x≤val y:=by
 rw [cmpD_eq]
 by_cases h:val x<val y
 ·rw [if_pos h]; simp; grind
 ·rw [if_neg h]
  by_cases h':val y<val x
  ·rw [if_pos h']; simp; grind
  ·rw [if_neg h']; simp; grind
theorem cmpD_lt (x y:D):cmpD x y<0↔val x<val y:=by
 rw [cmpD_eq]
 by_cases h:val x<val y
 ·rw [if_pos h]; simp; grind
 ·rw [if_neg h]
  by_cases h':val y<val x
  ·rw [if_pos h']; simp; grind
  ·rw [if_neg h']; simp; grind
theorem cmpD_gt (x y:D):0<cmpD x y↔val y<val x:=by
 rw [cmpD_eq]
 by_cases h:val x<val y
 ·rw [if_pos h]; simp; grind
 ·rw [if_neg h]
  by_cases h':val y<val x
  ·rw [if_pos h']; simp; grind
  ·rw [if_neg h']; simp; grind
theorem okD_ext {x y:D} (hx:okD x) (hy:okD y) (h:val x=val y):x=y:=by
 have key:∀ {x y:D},okD x→okD y→val x=val y→x.e≤y.e→x=y:=by
  intro x y hx hy h hle
  have e1:(x.m:Rat)=((y.m*2 ^ (y.e-x.e).toNat:Int):Rat):=by
   have hp:=p2_pos x.e
   unfold val at h
   rw [p2_diff hle,← Rat.mul_assoc,← Rat.intCast_mul] at h
   have:=congrArg (· * (p2 x.e)⁻¹) h
   simp only [Rat.mul_assoc] at this
   rw [Rat.mul_inv_cancel _ (by grind),Rat.mul_one,Rat.mul_one] at this
   exact this
  have e2:x.m=y.m*2 ^ (y.e-x.e).toNat:=by exact_mod_cast e1
  have h3:=nrm_shift y.m y.e (y.e-x.e).toNat
  rw [← e2,show y.e-((y.e-x.e).toNat:Int)=x.e by omega,nrm_self hx,nrm_self hy] at h3
  exact h3
 rcases Int.le_total x.e y.e with h1 | h1
 ·exact key hx hy h h1
 ·exact (key hy hx h.symm h1).symm
theorem intCast_le {a b:Int} (h:a≤b):(a:Rat)≤(b:Rat):=by exact_mod_cast h
theorem intCast_lt {a b:Int} (h:a<b):(a:Rat)<(b:Rat):=by exact_mod_cast h
theorem p2_le {a b:Int} (h:a≤b):p2 a≤p2 b:=by
 rw [p2_diff h]
 have h1:(1:Int)≤2 ^ (b-a).toNat:=by
  have:=Int.pow_pos (n:=2) (m:=(b-a).toNat) (by decide); omega
 have h2:=intCast_le h1
 have h3:=Rat.mul_le_mul_of_nonneg_right h2 (Rat.le_of_lt (p2_pos a))
 grind
theorem val_lt_size {d:D} (h:0<d.m):val d<p2 (d.e+(blen d.m.natAbs:Nat)):=by
 have h1:=blen_lt d.m.natAbs
 have h2:d.m<((2 ^ blen d.m.natAbs:Nat):Int):=by omega
 have h3:=intCast_lt h2
 rw [Int.add_comm,p2_add,p2_nat]
 rw [Rat.intCast_natCast] at h3
 exact Rat.mul_lt_mul_of_pos_right h3 (p2_pos _)
theorem val_ge_size {d:D} (h:0<d.m):p2 (d.e+(blen d.m.natAbs:Nat)-1)≤val d:=by
 have h0:d.m.natAbs≠0:=by omega
 have h1:=blen_le h0
 have hp:=blen_pos h0
 have h2:((2 ^ (blen d.m.natAbs-1):Nat):Int)≤d.m:=by omega
 have h3:=intCast_le h2
 rw [show d.e+(blen d.m.natAbs:Nat)-1=((blen d.m.natAbs-1:Nat):Int)+d.e by omega,p2_add,p2_nat]
 rw [Rat.intCast_natCast] at h3
 exact Rat.mul_le_mul_of_nonneg_right h3 (Rat.le_of_lt (p2_pos _))
theorem size_lt {x y:D} (hx:0<x.m) (hy:0<y.m) (h:x.e+(blen x.m.natAbs:Nat)<y.e+(blen y.m.natAbs:Nat)):val x<val y:=by
 have h1:=val_lt_size hx
 have h2:=val_ge_size hy
 have h3:=p2_le (show x.e+(blen x.m.natAbs:Nat)≤y.e+(blen y.m.natAbs:Nat)-1 by omega)
 grind
theorem dyad_zero_eq (d:D):dyad_zero (dy d)=some (decide (d.m=0)):=by
 unfold dyad_zero dy
 have:=iOf_mag_zero d.m
 by_cases h:d.m=0
 ·rw [show decide (d.m=0)=true by simp [h],show ((((iOf d.m).Mag.length:Nat):Int) == 0)=true by rw [this.2 h]; rfl]
 ·rw [show decide (d.m=0)=false by simp [h],show ((((iOf d.m).Mag.length:Nat):Int) == 0)=false by rw [beq_eq_false_iff_ne]; exact fun h1=>h (this.1 h1)]
theorem dyad_within_eq (n lo hi:Int):dyad_within n lo hi=some (decide (lo≤n∧n≤hi)):=by
 unfold dyad_within dyad_within_j1
 by_cases h:lo≤n<;>by_cases h':n≤hi<;>simp [h,h']
theorem dyad_size_eq {d:D} (hs:SZ d.m.natAbs) (he : -1152921504606846976≤d.e∧d.e≤1152921504606846976):dyad_size (dy d)=some (d.e+(blen d.m.natAbs:Nat)):=by
 have hl:=sz_len hs
 unfold dyad_size dy iOf
 simp only
 rw [nat_Bits_eq (dgd _) (by omega),dvd]
 simp only [obn]
 unfold SZ at hs
 rw [w64 (by omega) (by omega)]
theorem dyad_inRange_eq {d:D} (hs:SZ d.m.natAbs) (he : -1152921504606846976≤d.e∧d.e≤1152921504606846976):dyad_inRange (dy d)=some (inR d):=by
 have hl:=sz_len hs
 unfold dyad_inRange dyad_inRange_j1
 rw [dyad_zero_eq]
 simp only [obn]
 unfold inR
 by_cases h0:d.m=0
 ·simp [h0]
 ·rw [if_neg (by simp [h0]),dyad_size_eq hs he]
  simp only [obn,dyad_within_eq]
  have hb:nat_Bits (dy d).M.Mag=some ((blen d.m.natAbs:Nat):Int):=by
   show nat_Bits (digs d.m.natAbs)=_
   rw [nat_Bits_eq (dgd _) (by omega),dvd]
  rw [hb]
  simp only [obn]
  have e0:(d.m == 0)=false:=by simp [h0]
  rw [e0,Bool.false_or]
  have hde:(dy d).E=d.e:=rfl
  rw [hde]
  by_cases h1 : -65536≤d.e+(blen d.m.natAbs:Nat)∧d.e+(blen d.m.natAbs:Nat)≤65536
  ·rw [if_pos (by simpa using h1)]
   by_cases h2 : -131072≤d.e∧d.e≤131072
   ·rw [if_pos (by simpa using h2)]
    congr 1
    apply decide_eq_decide.2
    omega
   ·rw [if_neg (by simpa using h2)]
    congr 1
    symm; apply decide_eq_false
    omega
  ·rw [if_neg (by simpa using h1)]
   congr 1
   symm; apply decide_eq_false
   omega
def rightD (x:AD):Bool:=rightI x.M && (if x.M.Mag.length=0 then x.E == 0 else (x.M.Mag.getD 0 0).toNat.testBit 0 && decide (-131072≤x.E∧x.E≤131072))
theorem and_one {x:Int} (h:0≤x∧x<4294967296):(¬andI .u32 x 1=0)↔x.toNat.testBit 0=true:=by
 have:=and_bit h (k:=0) (by omega)
 rw [shl_one (by omega)] at this
 rw [← this]
 simp
theorem dyad_Right_eq {x:AD} (hd:Dig x.M.Mag) (hl:x.M.Mag.length≤274877906944):dyad_Right x=some (rightD x):=by
 unfold dyad_Right dyad_Right_j1 rightD
 rw [zint_Right_eq hl]
 simp only [obn]
 cases hr:rightI x.M with
 | false=>simp
 | true=>
  rw [if_neg (by simp)]
  unfold dyad_zero
  simp only [obn,Bool.true_and]
  by_cases h0:x.M.Mag.length=0
  ·rw [if_pos (by simp [h0]),if_pos h0]
  ·rw [if_neg (by simp; intro h; exact h0 (by simp [h])),if_neg h0,if_pos (by omega),kz]
   rw [show (if ¬andI .u32 (x.M.Mag.getD 0 0) 1=0 then ((dyad_within x.E (-131072) 131072).bind fun x10=>some x10) else some false)=some ((x.M.Mag.getD 0 0).toNat.testBit 0 && decide (-131072≤x.E∧x.E≤131072)) from ?_]
   rw [dyad_within_eq]
   simp only [obn]
   have:=and_one (dig_getD hd 0)
   by_cases hb:(x.M.Mag.getD 0 0).toNat.testBit 0=true
   ·rw [if_pos (this.2 hb),hb,Bool.true_and]
   ·rw [if_neg (fun h=>hb (this.1 h))]
    rw [show (x.M.Mag.getD 0 0).toNat.testBit 0=false by simpa using hb,Bool.false_and]
theorem digs_low (n:Nat):(digs n).getD 0 0=((n % 4294967296:Nat):Int):=by
 by_cases h:n=0
 ·subst h; rw [digs_zero]; rfl
 ·unfold digs; rw [dif_neg h]; rfl
theorem rightD_dy {d:D} (h:okD d):rightD (dy d)=true:=by
 unfold rightD dy
 simp only
 rw [rightI_iOf',Bool.true_and]
 have h1:=iOf_mag_zero d.m
 rcases h with h | h
 ·rw [if_pos (by have:=h1.2 h.1; omega)]; simp [h.2]
 ·rw [if_neg (fun h0=>by have:=h1.1 (by omega); omega)]
  unfold iOf
  simp only
  rw [digs_low,Int.toNat_natCast,Nat.testBit_zero]
  simp; omega
theorem dyad_Right_dy {d:D} (h:okD d) (hs:SZ d.m.natAbs):dyad_Right (dy d)=some true:=by
 rw [dyad_Right_eq (dgd _) (by have:=sz_len hs; show (digs d.m.natAbs).length≤_; omega),rightD_dy h]
theorem dyad_Neg_eq {d:D} (h:WD d):dyad_Neg (dy d)=some (dy (negD d)):=by
 unfold dyad_Neg
 rw [dyad_Right_dy h.1 h.sz]
 simp only [obn]
 rw [if_neg (by simp)]
 show ((zint_Neg (iOf d.m)).bind _)=_
 rw [zint_Neg_eq h.sz]
 rfl
theorem WD.neg {d:D} (h:WD d):WD (negD d):=by
 obtain ⟨h1,h2⟩:=h
 refine ⟨?_,by unfold negD; simpa using h2⟩
 unfold okD negD at *
 simp only
 rcases h1 with h1 | h1
 ·left; omega
 ·right; omega
theorem dyad_norm_iOf {z:Int} (hs:SZ z.natAbs) {e:Int} (he : -1152921504606846976≤e∧e≤1152921504606846976):dyad_norm (iOf z).Neg (iOf z).Mag e=some (dy (nrm z e)):=by
 unfold iOf
 simp only
 rw [dyad_norm_eq _ hs he,sg_abs]
theorem abs_shl (z:Int) (k:Nat):(z*2 ^ k).natAbs=z.natAbs*2 ^ k:=by
 rw [Int.natAbs_mul,Int.natAbs_pow]; rfl
theorem iOf_shl (z:Int) (k:Nat):(⟨decide (z<0),digs (z.natAbs*2 ^ k)⟩:ApiInt)=iOf (z*2 ^ k):=by
 unfold iOf
 rw [abs_shl]
 congr 1
 apply decide_eq_decide.2
 have hp:=Int.pow_pos (n:=2) (m:=k) (by decide)
 constructor
 ·intro h; exact Int.mul_neg_of_neg_of_pos h hp
 ·intro h
  rcases (show z<0∨0≤z by omega) with h1 | h1
  ·exact h1
  ·have:=Int.mul_nonneg h1 (Int.le_of_lt hp); omega
theorem blen_abs_shl (z:Int) (k:Nat):blen (z*2 ^ k).natAbs≤blen z.natAbs+k:=by
 rw [abs_shl]
 by_cases h:z.natAbs=0
 ·rw [h,Nat.zero_mul,blen_zero]; omega
 ·rw [blen_shl h]; exact Nat.le_refl _
theorem blen_sum_abs (x y:Int):blen (x+y).natAbs≤max (blen x.natAbs) (blen y.natAbs)+1:=
 Nat.le_trans (blen_mono (Int.natAbs_add_le x y)) (blen_add _ _)
theorem sum_j1_eq {x y:D} (hx:WD x) (hy:WD y) (hle:y.e≤x.e):dyad_sum_j1 (iOf x.m).Neg (iOf x.m).Mag x.e (iOf y.m).Neg (iOf y.m).Mag y.e=some (dy (nrm (x.m*2 ^ (x.e-y.e).toNat+y.m) y.e)):=by
 have ex:=hx.e
 have ey:=hy.e
 have bx:=hx.2
 have b_y:=hy.2
 have b1:=blen_abs_shl x.m (x.e-y.e).toNat
 have b2:=blen_add (x.m*2 ^ (x.e-y.e).toNat).natAbs y.m.natAbs
 have b3:=blen_sum_abs (x.m*2 ^ (x.e-y.e).toNat) y.m
 unfold dyad_sum_j1
 have hw:IntKind.i64.wrap (x.e-y.e)=((x.e-y.e).toNat:Int):=by rw [w64]<;>omega
 rw [hw]
 show ((dyad_up (digs x.m.natAbs) _).bind _)=_
 rw [dyad_up_eq (by omega)]
 simp only [obn]
 have e1:(⟨(iOf x.m).Neg,digs (x.m.natAbs*2 ^ (x.e-y.e).toNat)⟩:ApiInt)=iOf (x.m*2 ^ (x.e-y.e).toNat):=iOf_shl _ _
 rw [e1]
 have e2:(⟨(iOf y.m).Neg,(iOf y.m).Mag⟩:ApiInt)=iOf y.m:=rfl
 rw [e2,zint_Add_eq (by unfold SZ; omega) (by unfold SZ; omega) (by unfold SZ; omega)]
 simp only [obn]
 rw [dyad_norm_iOf (by unfold SZ; omega) (by omega)]
 rfl
theorem dyad_sum_eq {x y:D} (hx:WD x) (hy:WD y):dyad_sum (dy x) (dy y)=some (dy (sumD x y)):=by
 unfold dyad_sum
 rw [dyad_zero_eq,dyad_zero_eq]
 simp only [obn]
 unfold sumD
 by_cases h1:x.m=0
 ·rw [if_pos (by simp [h1]),if_pos h1]
 ·rw [if_neg (by simp [h1]),if_neg h1]
  by_cases h2:y.m=0
  ·rw [if_pos (by simp [h2]),if_pos h2]
  ·rw [if_neg (by simp [h2]),if_neg h2]
   show (if x.e<y.e then dyad_sum_j1 (iOf y.m).Neg (iOf y.m).Mag y.e (iOf x.m).Neg (iOf x.m).Mag x.e else dyad_sum_j1 (iOf x.m).Neg (iOf x.m).Mag x.e (iOf y.m).Neg (iOf y.m).Mag y.e)=_
   by_cases h:x.e<y.e
   ·rw [if_pos h,if_pos h,sum_j1_eq hy hx (by omega)]
   ·rw [if_neg h,if_neg h,sum_j1_eq hx hy (by omega)]
theorem sum_blen {x y:D} (hx:WD x) (hy:WD y):blen (sumD x y).m.natAbs≤524289∧-131072≤(sumD x y).e∧(sumD x y).e≤1000000:=by
 have ex:=hx.e
 have ey:=hy.e
 have bx:=hx.2
 have b_y:=hy.2
 have key:∀ {x y:D},WD x→WD y→y.e≤x.e→blen (nrm (x.m*2 ^ (x.e-y.e).toNat+y.m) y.e).m.natAbs≤524289∧-131072≤(nrm (x.m*2 ^ (x.e-y.e).toNat+y.m) y.e).e∧(nrm (x.m*2 ^ (x.e-y.e).toNat+y.m) y.e).e≤1000000:=by
  intro x y hx hy hle
  have ex:=hx.e
  have ey:=hy.e
  have bx:=hx.2
  have b_y:=hy.2
  have b1:=blen_abs_shl x.m (x.e-y.e).toNat
  have b3:=blen_sum_abs (x.m*2 ^ (x.e-y.e).toNat) y.m
  have b4:=nrm_blen (x.m*2 ^ (x.e-y.e).toNat+y.m) y.e
  refine ⟨by omega,?_⟩
  by_cases h:x.m*2 ^ (x.e-y.e).toNat+y.m=0
  ·rw [h,nrm_zero]; decide
  ·obtain ⟨t,o,-,-,h3,h4,-⟩:=nrm_spec h y.e
   rw [h3]; simp only; omega
 unfold sumD
 by_cases h1:x.m=0
 ·rw [if_pos h1]; omega
 ·rw [if_neg h1]
  by_cases h2:y.m=0
  ·rw [if_pos h2]; omega
  ·rw [if_neg h2]
   by_cases h:x.e<y.e
   ·rw [if_pos h]; exact key hy hx (by omega)
   ·rw [if_neg h]; exact key hx hy (by omega)
theorem zint_Cmp_zero {z:Int} (hz:SZ z.natAbs):zint_Cmp (iOf z) ⟨false,[]⟩=some (sgc z 0):=by
 have:(⟨false,[]⟩:ApiInt)=iOf 0:=by simp [iOf,digs_zero]
 rw [this,zint_Cmp_eq hz (by simp [SZ,blen])]
theorem dyad_Cmp_eq {x y:D} (hx:WD x) (hy:WD y):dyad_Cmp (dy x) (dy y)=some (cmpD x y):=by
 have ex:=hx.e
 have ey:=hy.e
 have bx:=hx.sz
 have b_y:=hy.sz
 unfold dyad_Cmp dyad_Cmp_j1
 rw [dyad_Right_dy hx.1 hx.sz,dyad_Right_dy hy.1 hy.sz,dyad_zero_eq,dyad_zero_eq]
 simp only [obn]
 rw [if_neg (by simp),if_neg (by simp)]
 have hN:∀ d:D,(dy d).M.Neg=decide (d.m<0):=fun _=>rfl
 have hM:∀ d:D,(dy d).M=iOf d.m:=fun _=>rfl
 have j2t:(x.m<0↔¬y.m<0)∨x.m=0∨y.m=0→dyad_Cmp_j2 (dy x) (dy y) true=some (cmpD x y):=by
  intro h
  unfold dyad_Cmp_j2
  rw [if_pos rfl,hM,hM,zint_Cmp_eq bx b_y]
  simp only [obn]
  congr 1
  have n1:=val_neg_iff x
  have n2:=val_neg_iff y
  have p1:=val_pos_iff x
  have p2:=val_pos_iff y
  have z1:=val_zero_iff x
  have z2:=val_zero_iff y
  rw [cmpD_eq]
  unfold sgc
  rcases (show x.m<0∨x.m=0∨0<x.m by omega) with h1 | h1 | h1<;>rcases (show y.m<0∨y.m=0∨0<y.m by omega) with h2 | h2 | h2
  ·omega
  ·have a1:=n1.2 h1; have a2:=z2.2 h2
   rw [if_pos (by omega),if_pos (by grind)]
  ·have a1:=n1.2 h1; have a2:=p2.2 h2
   rw [if_pos (by omega),if_pos (by grind)]
  ·have a1:=z1.2 h1; have a2:=n2.2 h2
   rw [if_neg (by omega),if_pos (by omega),if_neg (by grind),if_pos (by grind)]
  ·have a1:=z1.2 h1; have a2:=z2.2 h2
   rw [if_neg (by omega),if_neg (by omega),if_neg (by grind),if_neg (by grind)]
  ·have a1:=z1.2 h1; have a2:=p2.2 h2
   rw [if_pos (by omega),if_pos (by grind)]
  ·have a1:=p1.2 h1; have a2:=n2.2 h2
   rw [if_neg (by omega),if_pos (by omega),if_neg (by grind),if_pos (by grind)]
  ·have a1:=p1.2 h1; have a2:=z2.2 h2
   rw [if_neg (by omega),if_pos (by omega),if_neg (by grind),if_pos (by grind)]
  ·omega
 rw [hN,hN]
 by_cases hs:decide (x.m<0)=decide (y.m<0)
 ·rw [if_neg (by simp [hs])]
  by_cases h1:x.m=0
  ·rw [if_pos (by simp [h1])]; exact j2t (Or.inr (Or.inl h1))
  ·rw [if_neg (by simp [h1])]
   by_cases h2:y.m=0
   ·rw [show decide (y.m=0)=true by simp [h2]]; exact j2t (Or.inr (Or.inr h2))
   ·rw [show decide (y.m=0)=false by simp [h2]]
    have hs':x.m<0↔y.m<0:=decide_eq_decide.1 hs
    unfold dyad_Cmp_j2
    rw [if_neg (by simp),dyad_size_eq bx (by omega),dyad_size_eq b_y (by omega)]
    simp only [obn]
    by_cases hz:x.e+(blen x.m.natAbs:Nat)=y.e+(blen y.m.natAbs:Nat)
    ·rw [if_neg (by simpa using hz),dyad_Neg_eq hy]
     simp only [obn]
     show ((dyad_sum (dy x) (dy (negD y))).bind _)=_
     rw [dyad_sum_eq hx hy.neg]
     simp only [obn]
     rw [hM,zint_Cmp_zero (by have:=(sum_blen hx hy.neg).1; unfold SZ; omega)]
     rfl
    ·rw [if_pos hz,hN]
     rw [cmpD_eq]
     have nn:∀ d:D,d.m<0→0<(negD d).m:=fun d h=>by unfold negD; simp only; omega
     have na:∀ d:D,(negD d).m.natAbs=d.m.natAbs:=fun d=>by unfold negD; simp
     have ne:∀ d:D,(negD d).e=d.e:=fun d=>rfl
     rcases (show x.e+(blen x.m.natAbs:Nat)<y.e+(blen y.m.natAbs:Nat)∨y.e+(blen y.m.natAbs:Nat)<x.e+(blen x.m.natAbs:Nat) by omega) with hlt | hlt
     ·by_cases hneg:x.m<0
      ·have hv:=size_lt (x:=negD x) (y:=negD y) (nn _ hneg) (nn _ (hs'.1 hneg)) (by rw [na,na,ne,ne]; exact hlt)
       rw [val_neg,val_neg] at hv
       rw [if_neg (by simp [hlt,hneg]),if_neg (by grind),if_pos (by grind)]
      ·have hv:=size_lt (x:=x) (y:=y) (by omega) (by omega) hlt
       rw [if_pos (by simp [hlt,hneg]),if_pos hv]
     ·by_cases hneg:x.m<0
      ·have hv:=size_lt (x:=negD y) (y:=negD x) (nn _ (hs'.1 hneg)) (nn _ hneg) (by rw [na,na,ne,ne]; exact hlt)
       rw [val_neg,val_neg] at hv
       rw [if_pos (by simp [hneg]; omega),if_pos (by grind)]
      ·have hv:=size_lt (x:=y) (y:=x) (by omega) (by omega) hlt
       rw [if_neg (by simp [hneg]; omega),if_neg (by grind),if_pos hv]
 ·rw [if_pos (by simpa using hs)]
  exact j2t (Or.inl (by
   by_cases h1:x.m<0<;>by_cases h2:y.m<0<;>simp [h1,h2] at hs ⊢))
theorem must_eq (b:Bool) (e f:Int) (x:Bool) (y:List Int) (z:Int):dyad_fault_must b e f x y z=some (if b then (f == 0,f) else if f=0 then (e == 0,e) else (f == 0,f)):=by
 unfold dyad_fault_must dyad_fault_must_j1 dyad_fault_must_j2
 cases b<;>by_cases h:f=0<;>simp [h]
theorem right_nil (l:List AD) (x:Bool) (y:List Int) (z f:Int) (i:Nat) (n:Nat) (hi:l.length≤i) (hl:l.length≤1000) (hi':i≤1000):dw_right_l2 l x y z (n+1) (i:Int) f=some (f == 0,f):=by
 rw [dw_right_l2,if_neg (by omega)]
 rfl
theorem right_cons (l:List AD) (x:Bool) (y:List Int) (z:Int) (i:Nat) (n:Nat) (hi:i<l.length) (hi':i≤1000) (hr:dyad_Right (l.getD i zAD)=some true):dw_right_l2 l x y z (n+1) (i:Int) 0=dw_right_l2 l x y z n ((i+1:Nat):Int) 0:=by
 rw [dw_right_l2,if_pos (by omega),if_pos (by omega)]
 simp only [Int.toNat_natCast]
 have:(⟨(l.getD i zAD).M,(l.getD i zAD).E⟩:AD)=l.getD i zAD:=rfl
 rw [this,hr]
 simp only [obn,must_eq]
 rw [show ((i:Int)+1)=((i+1:Nat):Int) by omega,w64n (by omega)]
 rfl
theorem fuel_succ:∃ f,fuel=f+1+1+1:=⟨18446744073709551613,by unfold fuel; omega⟩
theorem right_two {a b:D} (ha:WD a) (hb:WD b) (x:Bool) (y:List Int) (z:Int):dw_right [dy a,dy b] 0 x y z=some (true,0):=by
 unfold dw_right
 obtain ⟨f,hf⟩:=fuel_succ
 rw [hf]
 have h1:=right_cons [dy a,dy b] x y z 0 (f+1+1) (by simp) (by omega) (dyad_Right_dy ha.1 ha.sz)
 have h2:=right_cons [dy a,dy b] x y z 1 (f+1) (by simp) (by omega) (dyad_Right_dy hb.1 hb.sz)
 have h3:=right_nil [dy a,dy b] x y z 0 2 f (by simp) (by simp) (by omega)
 exact h1.trans (h2.trans h3)
theorem right_one {a:D} (ha:WD a) (x:Bool) (y:List Int) (z:Int):dw_right [dy a] 0 x y z=some (true,0):=by
 unfold dw_right
 obtain ⟨f,hf⟩:=fuel_succ
 rw [hf]
 have h1:=right_cons [dy a] x y z 0 (f+1+1) (by simp) (by omega) (dyad_Right_dy ha.1 ha.sz)
 have h3:=right_nil [dy a] x y z 0 1 (f+1) (by simp) (by simp) (by omega)
 exact h1.trans h3
theorem prec_eq {p:Int} (h:2≤p∧p≤400) (x:Bool) (y:List Int) (z:Int):dw_prec p 0 x y z=some (true,0):=by
 unfold dw_prec
 rw [dyad_within_eq,show decide (2≤p∧p≤400)=true by simp [h]]
 simp only [obn,must_eq]
 rfl
def TD (d:D):Prop:=SZ d.m.natAbs∧-1152921504606846976≤d.e∧d.e≤1152921504606846976
theorem told_eq {d:D} (h:TD d):dw_told 0 (dy d).M.Neg (dy d).M.Mag (dy d).E=some (dy (tell d).1,(tell d).2,(tell d).2):=by
 unfold dw_told dw_told_j1
 rw [if_neg (by decide)]
 show ((dyad_inRange (dy d)).bind _)=_
 rw [dyad_inRange_eq h.1 h.2]
 simp only [obn,must_eq]
 unfold tell
 cases inR d with
 | true=>rfl
 | false=>simp [dy_z]
theorem told_err {e:Int} (he:e≠0) (a:Bool) (b:List Int) (c:Int):dw_told e a b c=some (dy zD,e,e):=by
 unfold dw_told dw_told_j1
 rw [if_pos he]
 simp only [must_eq,obn]
 have:(e == 0)=false:=by simpa using he
 simp [dy_z,this]
theorem WD_tell {d:D} (h:(d.m=0→d.e=0)∧(d.m≠0→d.m % 2=1)):WD (tell d).1:=by
 unfold tell
 by_cases hr:inR d=true
 ·rw [if_pos hr]
  simp only
  unfold inR at hr
  rcases Bool.or_eq_true_iff.1 hr with h1 | h1
  ·have h0:d.m=0:=by simpa using h1
   have h2:=h.1 h0
   exact ⟨Or.inl ⟨h0,h2⟩,by rw [h0]; simp [blen]⟩
  ·have h2:=of_decide_eq_true h1
   by_cases h0:d.m=0
   ·exact ⟨Or.inl ⟨h0,h.1 h0⟩,by omega⟩
   ·exact ⟨Or.inr ⟨h.2 h0,by omega,by omega⟩,by omega⟩
 ·rw [if_neg hr]; exact WD_z
theorem nrm_ok (m e:Int):((nrm m e).m=0→(nrm m e).e=0)∧((nrm m e).m≠0→(nrm m e).m % 2=1):=by
 by_cases h:m=0
 ·subst h; rw [nrm_zero]; simp [zD]
 ·have:=nrm_odd h e
  exact ⟨fun h0=>by omega,fun _=>this⟩
theorem sum_ok {x y:D} (hx:WD x) (hy:WD y):((sumD x y).m=0→(sumD x y).e=0)∧((sumD x y).m≠0→(sumD x y).m % 2=1):=by
 have key:∀ {d:D},WD d→(d.m=0→d.e=0)∧(d.m≠0→d.m % 2=1):=by
  intro d h
  rcases h.1 with h1 | h1
  ·exact ⟨fun _=>h1.2,fun h0=>absurd h1.1 h0⟩
  ·exact ⟨fun h0=>by omega,fun _=>h1.1⟩
 unfold sumD
 split
 ·exact key hy
 ·split
  ·exact key hx
  ·split
   ·exact nrm_ok _ _
   ·exact nrm_ok _ _
def addD (x y:D):D × Int:=tell (sumD x y)
theorem sum_TD {x y:D} (hx:WD x) (hy:WD y):TD (sumD x y):=by
 obtain ⟨h1,h2,h3⟩:=sum_blen hx hy
 exact ⟨by unfold SZ; omega,by omega,by omega⟩
theorem dyad_Add_eq {x y:D} (hx:WD x) (hy:WD y):dyad_Add (dy x) (dy y)=some (dy (addD x y).1,(addD x y).2):=by
 unfold dyad_Add dyad_Add_j1
 rw [right_two hx hy]
 simp only [obn]
 rw [if_pos True.intro,dyad_sum_eq hx hy]
 simp only [obn]
 rw [told_eq (sum_TD hx hy)]
 rfl
theorem WD_add {x y:D} (hx:WD x) (hy:WD y):WD (addD x y).1:=WD_tell (sum_ok hx hy)
def timesD (x y:D):D × Int:=tell (mulD x y)
theorem sg_xor (p q:Bool) (a b:Nat):sg (p != q) (a*b)=sg p a*sg q b:=by
 unfold sg
 cases p<;>cases q<;>simp [Int.neg_mul,Int.mul_neg]
theorem neg_xor (x y:Int):sg (decide (x<0) != decide (y<0)) (x.natAbs*y.natAbs)=x*y:=by
 rw [sg_xor,sg_abs,sg_abs]
theorem mul_blen {x y:D} (hx:WD x) (hy:WD y):SZ (x.m.natAbs*y.m.natAbs):=by
 have:=blen_mul x.m.natAbs y.m.natAbs
 have:=hx.2
 have:=hy.2
 unfold SZ; omega
theorem nrm_e {m:Int} {e:Int} (hs:SZ m.natAbs) (he : -2000000≤e∧e≤2000000) : -2000000≤(nrm m e).e∧(nrm m e).e≤4000000:=by
 by_cases h:m=0
 ·subst h; rw [nrm_zero]; decide
 ·obtain ⟨t,o,-,-,h3,h4,-⟩:=nrm_spec h e
  unfold SZ at hs
  rw [h3]; simp only; omega
theorem nrm_TD {m:Int} {e:Int} (hs:SZ m.natAbs) (he : -2000000≤e∧e≤2000000):TD (nrm m e):=by
 have h1:=nrm_e hs he
 exact ⟨Nat.le_trans (nrm_blen m e) hs,by omega,by omega⟩
theorem dyad_Mul_eq {x y:D} (hx:WD x) (hy:WD y):dyad_Mul (dy x) (dy y)=some (dy (timesD x y).1,(timesD x y).2):=by
 have lx:=sz_len hx.sz
 have ly:=sz_len hy.sz
 have ex:=hx.e
 have ey:=hy.e
 unfold dyad_Mul dyad_Mul_j1
 rw [right_two hx hy]
 simp only [obn]
 have e1:nat_Mul (dy x).M.Mag (dy y).M.Mag=some (digs (x.m.natAbs*y.m.natAbs)):=by
  show nat_Mul (digs x.m.natAbs) (digs y.m.natAbs)=_
  rw [nat_Mul_eq (dgd _) (dgd _) (by omega) (by omega),dvd,dvd]
 have e2:((dy x).M.Neg != (dy y).M.Neg)=(decide (x.m<0) != decide (y.m<0)):=rfl
 have e3:(dy x).E+(dy y).E=x.e+y.e:=rfl
 rw [if_pos True.intro,e1,e2,e3]
 simp only [obn]
 rw [w64 (by omega) (by omega),dyad_norm_eq _ (mul_blen hx hy) (by omega),neg_xor]
 simp only [obn]
 have:TD (nrm (x.m*y.m) (x.e+y.e)):=nrm_TD (by rw [Int.natAbs_mul]; exact mul_blen hx hy) (by omega)
 rw [told_eq this]
 rfl
theorem WD_times {x y:D} : WD (timesD x y).1:=WD_tell (nrm_ok _ _)
def scaleD (x:D) (n:Int):D × Int:=if x.m=0 then (zD,0) else tell ⟨x.m,x.e+n⟩
theorem tell_z:tell zD=(zD,0):=rfl
theorem dyad_Scale_eq {x:D} (hx:WD x) {n:Int} (hn : -100000≤n∧n≤100000):dyad_Scale (dy x) n=some (dy (scaleD x n).1,(scaleD x n).2):=by
 have ex:=hx.e
 unfold dyad_Scale dyad_Scale_j1 dyad_Scale_j2
 rw [right_one hx]
 simp only [obn,dyad_within_eq,must_eq,dyad_zero_eq]
 rw [if_pos True.intro,show decide (-100000≤n∧n≤100000)=true by simp [hn]]
 simp only [if_true]
 rw [if_pos (by decide)]
 unfold scaleD
 by_cases h:x.m=0
 ·rw [if_pos h,if_neg (by simp [h])]
  have:=told_eq (d:=zD) (by simp [TD,SZ,zD,blen])
  rw [dy_z] at this
  rw [this,tell_z]
  rfl
 ·rw [if_neg h,if_pos (by simp [h])]
  have:=told_eq (d:=⟨x.m,x.e+n⟩) ⟨hx.sz,by simp only; omega,by simp only; omega⟩
  have hE:(dy x).E=x.e:=rfl
  rw [hE,w64 (by omega) (by omega)]
  have e1:dw_told 0 (dy x).M.Neg (dy x).M.Mag (x.e+n)=dw_told 0 (dy ⟨x.m,x.e+n⟩).M.Neg (dy ⟨x.m,x.e+n⟩).M.Mag (dy ⟨x.m,x.e+n⟩).E:=rfl
  rw [e1,this]
  rfl
theorem WD_scale {x:D} (hx:WD x) (n:Int):WD (scaleD x n).1:=by
 unfold scaleD
 split
 ·exact WD_z
 ·rename_i h
  refine WD_tell ⟨fun h0=>absurd h0 h,fun _=>?_⟩
  rcases hx.1 with h1 | h1
  ·exact absurd h1.1 h
  ·exact h1.1
def fromD (n:Int):D:=nrm n 0
theorem dyad_From_eq {n:Int} (h : -9223372036854775808≤n∧n≤9223372036854775807):dyad_From n=some (dy (fromD n)):=by
 have hsz:SZ n.natAbs:=by
  have:blen n.natAbs≤64:=blen_le_of (by omega)
  unfold SZ; omega
 unfold dyad_From
 rw [zint_From_eq h]
 simp only [obn]
 rw [dyad_norm_iOf hsz (by omega)]
 rfl
theorem WD_from {n:Int} (h : -9223372036854775808≤n∧n≤9223372036854775807):WD (fromD n):=by
 have hb:blen n.natAbs≤64:=blen_le_of (by omega)
 unfold fromD
 have h1:=nrm_blen n 0
 have h2:=nrm_ok n 0
 refine ⟨?_,by omega⟩
 by_cases h:n=0
 ·subst h; rw [nrm_zero]; exact okD_z
 ·obtain ⟨t,o,-,g2,g3,g4,-⟩:=nrm_spec h 0
  right
  rw [g3]; simp only
  omega
def makeD (m e:Int):D × Bool:=if inR (nrm m e) then (nrm m e,true) else (zD,false)
theorem dyad_Make_eq {m:Int} (hm:SZ m.natAbs) {e:Int} (he : -100000≤e∧e≤100000):dyad_Make (iOf m) e=some (dy (makeD m e).1,(makeD m e).2):=by
 unfold dyad_Make
 rw [dyad_within_eq,show decide (-100000≤e∧e≤100000)=true by simp [he]]
 simp only [obn]
 rw [if_neg (by simp),dyad_norm_iOf hm (by omega)]
 simp only [obn]
 show ((dyad_inRange (dy (nrm m e))).bind _)=_
 have ht:=nrm_TD hm (e:=e) (by omega)
 rw [dyad_inRange_eq ht.1 ht.2]
 simp only [obn]
 unfold makeD
 cases inR (nrm m e) with
 | true=>rfl
 | false=>simp [dy_z]
theorem half_make {e:Int} (he : -60000≤e∧e≤60000):makeD 1 e=(⟨1,e⟩,true):=by
 have h1:nrm 1 e=⟨1,e⟩:=nrm_self (d:=⟨1,e⟩) (Or.inr ⟨rfl,by simp only; omega,by simp only; omega⟩)
 unfold makeD
 rw [h1]
 have:inR ⟨1,e⟩=true:=by
  unfold inR
  have:blen (1:Int).natAbs=1:=by decide
  simp only [this]
  simp; omega
 rw [if_pos this]
theorem dyad_Half_eq {e:Int} (he : -60000≤e∧e≤60000):dyad_Half e=some (dy ⟨1,e⟩):=by
 unfold dyad_Half
 rw [zint_From_eq (by omega)]
 simp only [obn]
 rw [dyad_Make_eq (by unfold SZ; decide) (by omega),half_make he]
 rfl
def nsq (a:Nat):Nat→Nat→Nat
 | 0,s=>s
 | f+1,s=>if (s+a / s) / 2<s then nsq a f ((s+a / s) / 2) else s
def isqrt (a:Nat):Nat:=nsq a (blen a+1) (2 ^ ((blen a+1) / 2))
def cutN (m:Nat) (st:Bool) (p:Nat) (away:Bool):Nat:=m / 2 ^ (blen m-p)+(if (st || m % 2 ^ (blen m-p) != 0) && away then 1 else 0)
def cutD (neg:Bool) (m:Nat) (e:Int) (st:Bool) (p:Nat) (away:Bool):D:=nrm (sg neg (cutN m st p away)) (e+(blen m-p:Nat))
theorem mod_step (x k:Nat):(x % 2 ^ (k+1) != 0)=(x.testBit 0 || x / 2 % 2 ^ k != 0):=by
 rw [Nat.pow_succ,Nat.mul_comm,Nat.mod_mul]
 rw [Nat.testBit_zero]
 generalize x / 2 % 2 ^ k=y
 by_cases h:x % 2=1
 ·have e1:(x % 2+2*y != 0)=true:=by rw [bne_iff_ne]; omega
  simp [h]
 ·have h0:x % 2=0:=by omega
  by_cases hy:y=0
  ·simp [h0,hy]
  ·have e1:(0+2*y != 0)=true:=by rw [bne_iff_ne]; omega
   have e2:(y != 0)=true:=by rw [bne_iff_ne]; exact hy
   rw [h0,e1,e2]; simp
theorem cut_j1_eq (neg away st:Bool) {q:Nat} (hq:blen q≤1048000) {e:Int} (he : -2000000≤e∧e≤2000000) :
  dw_cut_j1 neg away (digs q) e st=some ((dy (nrm (sg neg (q+if st && away then 1 else 0)) e)).M.Neg,(dy (nrm (sg neg (q+if st && away then 1 else 0)) e)).M.Mag,(dy (nrm (sg neg (q+if st && away then 1 else 0)) e)).E):=by
 have hs:SZ q:=by unfold SZ; omega
 have hl:=sz_len hs
 have key:∀ n:Nat,SZ n→dw_cut_j3 neg e (digs n)=some ((dy (nrm (sg neg n) e)).M.Neg,(dy (nrm (sg neg n) e)).M.Mag,(dy (nrm (sg neg n) e)).E):=by
  intro n hn
  unfold dw_cut_j3
  rw [dyad_norm_eq neg hn (by omega)]
  rfl
 have h1:SZ (q+1):=by
  have:=blen_add q 1
  have h1:blen 1=1:=by decide
  unfold SZ; omega
 have f1:nat_From 1=some (digs 1):=nat_From_eq (by omega) (by omega)
 have a1:nat_Add (digs q) (digs 1)=some (digs (q+1)):=by
  rw [nat_Add_eq (dgd _) (dgd _) (by omega) (Nat.le_trans (digs_length (k:=1) (by decide)) (by omega)),dvd,dvd]
 unfold dw_cut_j1 dw_cut_j2
 cases st<;>cases away<;>simp only [if_true,if_false,Bool.false_eq_true,Bool.and_true,Bool.and_false,Nat.add_zero,f1,a1,obn]
 ·exact key q hs
 ·exact key q hs
 ·exact key q hs
 ·exact key (q+1) h1
theorem cut_l5_eq {m p:Nat} (hm:blen m≤1048000) (hp:p<blen m) {e:Int} (he : -900000≤e∧e≤900000) (neg away:Bool) :
  ∀ (r i:Nat) (st:Bool),i+r=blen m-p→∀ f,r<f→dw_cut_l5 ((blen m:Nat):Int) (p:Int) (digs m) neg away e f st (i:Int)=dw_cut_j1 neg away (digs (m / 2 ^ (blen m-p))) (e+(blen m-p:Nat)) (st || m / 2 ^ i % 2 ^ r != 0):=by
 have hl:=sz_len (n:=m) (by unfold SZ; omega)
 have hw:IntKind.i64.wrap (((blen m:Nat):Int)-(p:Int))=((blen m-p:Nat):Int):=by rw [w64]<;>omega
 have hj4:∀ st,dw_cut_j4 (digs m) ((blen m:Nat):Int) (p:Int) neg away e st=dw_cut_j1 neg away (digs (m / 2 ^ (blen m-p))) (e+(blen m-p:Nat)) st:=by
  intro st
  unfold dw_cut_j4
  rw [hw,nat_Shr_eq (dgd _) (by omega) (by omega),dvd]
  simp only [obn]
  rw [w64 (by omega) (by omega)]
 intro r
 induction r with
 | zero=>
  intro i st hi f hf
  obtain ⟨f,rfl⟩:∃ k,f=k+1:=⟨f-1,by omega⟩
  rw [dw_cut_l5,hw,if_neg (by omega)]
  unfold dw_cut_j6
  rw [if_neg (by simp),hj4]
  congr 1
  simp [Nat.mod_one]
 | succ r ih=>
  intro i st hi f hf
  obtain ⟨f,rfl⟩:∃ k,f=k+1:=⟨f-1,by omega⟩
  rw [dw_cut_l5,hw,if_pos (by omega)]
  unfold dw_cut_j6
  cases st with
  | true=>rw [if_neg (by simp),hj4]; simp
  | false=>
   rw [if_pos (by simp),nat_Bit_eq (dgd _) (by omega),dvd]
   simp only [obn]
   rw [show ((i:Int)+1)=((i+1:Nat):Int) by omega,w64n (by omega),ih (i+1) _ (by omega) f (by omega),mod_step,Bool.false_or]
   congr 1
   rw [Nat.testBit_div_two_pow,Nat.zero_add,Nat.div_div_eq_div_mul,← Nat.pow_succ]
theorem cut_eq (neg:Bool) {m p:Nat} (hm:blen m≤1048000) {e:Int} (he : -900000≤e∧e≤900000) (st away:Bool) (hp:p≤1000) (f:Int) (a:Bool) (b:List Int) (c:Int) :
  dw_cut neg (digs m) e st (p:Int) away f a b c=some ((dy (cutD neg m e st p away)).M.Neg,(dy (cutD neg m e st p away)).M.Mag,(dy (cutD neg m e st p away)).E):=by
 have hl:=sz_len (n:=m) (by unfold SZ; omega)
 unfold dw_cut
 rw [nat_Bits_eq (dgd _) (by omega),dvd]
 simp only [obn]
 have hw:IntKind.i64.wrap (((blen m:Nat):Int)-(p:Int))=((blen m:Nat):Int)-(p:Int):=by rw [w64]<;>omega
 rw [hw]
 unfold cutD cutN
 by_cases h:p<blen m
 ·rw [if_pos (by omega)]
  have:=cut_l5_eq hm h he neg away (blen m-p) 0 st (by omega) fuel (by unfold fuel; omega)
  rw [Nat.pow_zero,Nat.div_one] at this
  refine this.trans ?_
  exact cut_j1_eq neg away _ (by have:=blen_mono (Nat.div_le_self m (2 ^ (blen m-p))); omega) (by omega)
 ·rw [if_neg (by omega)]
  have h0:blen m-p=0:=by omega
  rw [h0,Nat.pow_zero,Nat.div_one,Nat.mod_one,cut_j1_eq neg away st hm (by omega)]
  simp
def roundD (x:D) (p:Nat) (up:Bool):D × Int:=tell (cutD (decide (x.m<0)) x.m.natAbs x.e false p (up != decide (x.m<0)))
theorem cutN_blen {m:Nat} (st:Bool) (p:Nat) (away:Bool):blen (cutN m st p away)≤blen m+1:=by
 unfold cutN
 have h1:=blen_mono (Nat.div_le_self m (2 ^ (blen m-p)))
 split
 ·have h2:=blen_add (m / 2 ^ (blen m-p)) 1
  have h3:blen 1=1:=by decide
  by_cases h0:blen m=0
  ·have h4:=blen_lt m
   rw [h0] at h4
   have h5:m=0:=by omega
   subst h5
   rw [Nat.zero_div]
   decide
  ·omega
 ·rw [Nat.add_zero]; omega
theorem cut_TD (neg:Bool) {m p:Nat} (hm:blen m≤1048000) {e:Int} (he : -900000≤e∧e≤900000) (st away:Bool):TD (cutD neg m e st p away):=by
 have:=cutN_blen (m:=m) st p away
 refine nrm_TD ?_ (by omega)
 rw [sg_abs']; unfold SZ; omega
theorem dyad_Round_eq {x:D} (hx:WD x) {p:Nat} (hp:2≤p∧p≤400) (up:Bool):dyad_Round (dy x) (p:Int) up=some (dy (roundD x p up).1,(roundD x p up).2):=by
 have ex:=hx.e
 have bx:=hx.2
 unfold dyad_Round dyad_Round_j1 dyad_Round_j2
 rw [right_one hx]
 simp only [obn,if_true,prec_eq (p:=(p:Int)) (by omega)]
 have e1:=cut_eq (decide (x.m<0)) (m:=x.m.natAbs) (by omega) (e:=x.e) (by omega) false (up != decide (x.m<0)) (p:=p) (by omega) 0 false [] 0
 have e2:dw_cut (dy x).M.Neg (dy x).M.Mag (dy x).E false (p:Int) (up != (dy x).M.Neg) 0 false [] 0=dw_cut (decide (x.m<0)) (digs x.m.natAbs) x.e false (p:Int) (up != decide (x.m<0)) 0 false [] 0:=rfl
 rw [e2,e1]
 simp only [obn]
 rw [told_eq (cut_TD _ (by omega) (by omega) _ _)]
 rfl
theorem WD_round {x:D} {p:Nat} {up:Bool} : WD (roundD x p up).1:=WD_tell (nrm_ok _ _)
def divD (x y:D) (p:Nat) (up:Bool):D × Int:=
 if y.m=0 then (zD,3) else if x.m=0 then (zD,0) else
  tell (cutD (decide (x.m<0) != decide (y.m<0)) (x.m.natAbs*2 ^ (p+2+blen y.m.natAbs-blen x.m.natAbs) / y.m.natAbs) (x.e-y.e-(p+2+blen y.m.natAbs-blen x.m.natAbs:Nat))
   (x.m.natAbs*2 ^ (p+2+blen y.m.natAbs-blen x.m.natAbs) % y.m.natAbs != 0) p (up != (decide (x.m<0) != decide (y.m<0))))
theorem digs_len_zero (n:Nat):decide (((digs n).length:Int)>0)=(n != 0):=by
 by_cases h:n=0
 ·subst h; rw [digs_zero]; rfl
 ·have:=digs_len_pos h
  have e2:(n != 0)=true:=by rw [bne_iff_ne]; exact h
  rw [e2]; exact decide_eq_true (by omega)
theorem told_zD:dw_told 0 false [] 0=some (dy zD,0,0):=by
 have:=told_eq (d:=zD) (by simp [TD,SZ,zD,blen])
 rw [dy_z] at this
 rw [this,tell_z,dy_z]
theorem mx_sub (a b:Nat):mx 0 ((a:Int)-(b:Int))=((a-b:Nat):Int):=by
 unfold mx; split<;>omega
theorem dyad_Div_eq {x y:D} (hx:WD x) (hy:WD y) {p:Nat} (hp:2≤p∧p≤400) (up:Bool):dyad_Div (dy x) (dy y) (p:Int) up=some (dy (divD x y p up).1,(divD x y p up).2):=by
 have ex:=hx.e
 have ey:=hy.e
 have bx:=hx.2
 have b_y:=hy.2
 have lx:=sz_len hx.sz
 have ly:=sz_len hy.sz
 unfold dyad_Div dyad_Div_j1 dyad_Div_j2
 rw [right_two hx hy,dyad_zero_eq,dyad_zero_eq]
 simp only [obn,must_eq,if_true,prec_eq (p:=(p:Int)) (by omega)]
 unfold divD
 by_cases h2:y.m=0
 ·rw [if_pos h2]
  simp only [h2,decide_true,Bool.not_true,Bool.false_eq_true,if_false]
  rw [if_neg (by decide),told_err (by decide)]
  rfl
 ·rw [if_neg h2]
  simp only [h2,decide_false,Bool.not_false,if_true]
  rw [if_pos (by decide)]
  by_cases h1:x.m=0
  ·rw [if_pos h1]
   simp only [h1,decide_true,Bool.not_true,Bool.false_eq_true,if_false]
   rw [told_zD]
   rfl
  ·rw [if_neg h1]
   simp only [h1,decide_false,Bool.not_false,if_true]
   have bM:∀ d:D,SZ d.m.natAbs→nat_Bits (dy d).M.Mag=some ((blen d.m.natAbs:Nat):Int):=by
    intro d hd
    have:=sz_len hd
    show nat_Bits (digs d.m.natAbs)=_
    rw [nat_Bits_eq (dgd _) (by omega),dvd]
   rw [bM y hy.sz,bM x hx.sz]
   simp only [obn]
   have hk:mx 0 (IntKind.i64.wrap (IntKind.i64.wrap (IntKind.i64.wrap ((p:Int)+2)+((blen y.m.natAbs:Nat):Int))-((blen x.m.natAbs:Nat):Int)))=((p+2+blen y.m.natAbs-blen x.m.natAbs:Nat):Int):=by
    rw [w64 (x:=(p:Int)+2) (by omega) (by omega),w64 (x:=(p:Int)+2+((blen y.m.natAbs:Nat):Int)) (by omega) (by omega),w64 (by omega) (by omega)]
    rw [show (p:Int)+2+((blen y.m.natAbs:Nat):Int)=((p+2+blen y.m.natAbs:Nat):Int) by omega,mx_sub]
   rw [hk]
   have h0:x.m.natAbs≠0:=by omega
   have hbk:=blen_shl h0 (p+2+blen y.m.natAbs-blen x.m.natAbs)
   generalize hkk:p+2+blen y.m.natAbs-blen x.m.natAbs=k at *
   have hup:dyad_up (dy x).M.Mag (k:Int)=some (digs (x.m.natAbs*2 ^ k)):=by
    show dyad_up (digs x.m.natAbs) (k:Int)=_
    exact dyad_up_eq (by omega)
   rw [hup]
   simp only [obn]
   have hl2:=sz_len (n:=x.m.natAbs*2 ^ k) (by unfold SZ; omega)
   have hdm:quo_DivMod (digs (x.m.natAbs*2 ^ k)) (dy y).M.Mag=some (digs (x.m.natAbs*2 ^ k / y.m.natAbs),digs (x.m.natAbs*2 ^ k % y.m.natAbs),true):=by
    show quo_DivMod _ (digs y.m.natAbs)=_
    rw [quo_DivMod_eq (dgd _) (dgd _) (by omega) (by omega),dvd,dvd,if_neg (by omega)]
   rw [hdm]
   simp only [obn]
   rw [digs_len_zero]
   have hE:∀ d:D,(dy d).E=d.e:=fun _=>rfl
   have hN:∀ d:D,(dy d).M.Neg=decide (d.m<0):=fun _=>rfl
   rw [hE,hE,hN,hN,w64 (x:=x.e-y.e) (by omega) (by omega),w64 (by omega) (by omega)]
   have hq:blen (x.m.natAbs*2 ^ k / y.m.natAbs)≤1048000:=by
    have:=blen_mono (Nat.div_le_self (x.m.natAbs*2 ^ k) y.m.natAbs)
    omega
   rw [cut_eq _ hq (by omega) _ _ (by omega)]
   simp only [obn]
   rw [told_eq (cut_TD _ hq (by omega) _ _)]
   rfl
theorem WD_div {x y:D} {p:Nat} {up:Bool} : WD (divD x y p up).1:=by
 unfold divD
 split
 ·exact WD_z
 ·split
  ·exact WD_z
  ·exact WD_tell (nrm_ok _ _)
def rootK (x:D) (p:Nat):Nat:=(2*p+4-blen x.m.natAbs)+((x.e-(2*p+4-blen x.m.natAbs:Nat)) % 2).toNat
def sqrtD (x:D) (p:Nat) (up:Bool):D × Int:=
 if x.m<0 then (zD,3) else if x.m=0 then (zD,0) else
  tell (cutD false (isqrt (x.m.natAbs*2 ^ rootK x p)) ((x.e-(rootK x p:Nat)) / 2) (x.m.natAbs*2 ^ rootK x p-isqrt (x.m.natAbs*2 ^ rootK x p)*isqrt (x.m.natAbs*2 ^ rootK x p) != 0) p up)
theorem and_one64 (z:Int):andI .i64 z 1=z % 2:=by
 unfold andI
 have e:(BitVec.ofInt IntKind.i64.bits z &&& BitVec.ofInt IntKind.i64.bits 1).toNat=(z % 2).toNat:=by
  show (BitVec.ofInt 64 z &&& BitVec.ofInt 64 1).toNat=_
  rw [BitVec.toNat_and,BitVec.toNat_ofInt]
  have:(BitVec.ofInt 64 1).toNat=1:=by decide
  rw [this,Nat.and_one_is_mod]
  have h2:((2 ^ 64:Nat):Int)=18446744073709551616:=by decide
  rw [h2]
  omega
 rw [e,w64 (by omega) (by omega)]
 omega
theorem rTrim_loop {a:List Int} (ha:Dig a) (hl:a.length≤274877906944):∀ (m:Nat),m≤a.length→dval (a.take m)=dval a→∀ f,m<f→r01_Trim_l2 a f (m:Int)=some (digs (dval a)):=by
 intro m
 induction m with
 | zero=>
  intro hm hv f hf
  obtain ⟨f,rfl⟩:∃ k,f=k+1:=⟨f-1,by omega⟩
  rw [r01_Trim_l2,if_neg (by omega)]
  unfold r01_Trim_j3 r01_Trim_j1
  rw [if_neg (by simp),if_pos (by omega)]
  have h0:a.take ((0:Nat):Int).toNat=[]:=by simp
  rw [h0,if_pos (by simp)]
  rw [List.take_zero] at hv
  rw [← hv]
  simp [dval,digs_zero]
 | succ m ih=>
  intro hm hv f hf
  obtain ⟨f,rfl⟩:∃ k,f=k+1:=⟨f-1,by omega⟩
  have hw:IntKind.i64.wrap (((m+1:Nat):Int)-1)=(m:Int):=by rw [w64]<;>omega
  rw [r01_Trim_l2,if_pos (by omega),hw,if_pos (by omega),kz]
  unfold r01_Trim_j3 r01_Trim_j1
  rw [hw]
  simp only [Int.toNat_natCast]
  by_cases h0:a.getD m 0=0
  ·rw [if_pos (by rw [h0]; rfl)]
   refine ih (by omega) ?_ f (by omega)
   rw [dval_take_succ,h0] at hv
   simpa using hv
  ·rw [if_neg (by simpa using h0),if_pos (by omega)]
   have hlen:(a.take (m+1)).length=m+1:=by rw [List.length_take]; omega
   rw [if_pos (by omega)]
   have hlast:(a.take (m+1)).getLastD 1≠0:=by
    rw [getLastD_getD (by omega),hlen,Nat.add_sub_cancel]
    rw [List.getD_eq_getElem?_getD,List.getElem?_take,if_pos (by omega),← List.getD_eq_getElem?_getD]
    exact h0
   rw [← hv,digs_of (dig_take ha _) hlast]
theorem rTrim_eq {a:List Int} (ha:Dig a) (hl:a.length≤274877906944):r01_Trim a=some (digs (dval a)):=by
 unfold r01_Trim
 exact rTrim_loop ha hl a.length (Nat.le_refl _) (by rw [List.take_length]) fuel (by unfold fuel; omega)
theorem rMake_eq {neg:Bool} {mag:List Int} (hd:Dig mag) (hl:mag.length≤274877906944):r04_Make neg mag=some (iOf (sg neg (dval mag))):=by
 unfold r04_Make r04_Make_j1
 rw [rTrim_eq hd hl]
 simp only [obn]
 rw [iOf_sg]
 cases neg with
 | false=>simp [sg]
 | true=>
  rw [if_pos rfl]
  congr 2
  rw [digs_len_zero]
  unfold sg
  rw [if_pos rfl]
  by_cases h:dval mag=0
  ·simp [h]
  ·have e2:(dval mag != 0)=true:=by rw [bne_iff_ne]; exact h
   rw [e2]; symm; exact decide_eq_true (by omega)
theorem rMake_digs (neg:Bool) {n:Nat} (h:SZ n):r04_Make neg (digs n)=some (iOf (sg neg n)):=by
 have:=sz_len h
 rw [rMake_eq (dgd n) (by omega),dvd]
theorem rMake_iOf {z:Int} (h:SZ z.natAbs):r04_Make (iOf z).Neg (iOf z).Mag=some (iOf z):=by
 show r04_Make (decide (z<0)) (digs z.natAbs)=_
 rw [rMake_digs _ h,sg_abs]
theorem and_oneN (y:Nat):andI .u32 (y:Int) 1=((y % 2:Nat):Int):=by
 rw [andI_bv]
 congr 1
 rw [BitVec.toNat_and,BitVec.toNat_ofInt]
 have:(BitVec.ofInt 32 1).toNat=1:=by decide
 rw [this,Nat.and_one_is_mod]
 have h2:((2 ^ 32:Nat):Int)=4294967296:=by decide
 rw [h2]; omega
theorem shr32N (x:Nat) {k:Nat} (hk:k≤32):shrI .u32 (x:Int) (k:Int)=((x / 2 ^ k:Nat):Int):=by
 rw [shr32 (by omega) hk]; simp
theorem rBit_eq {a:List Int} (ha:Dig a) {i:Nat} (hi:i≤1099511627776):r01_Bit a (i:Int)=some ((dval a).testBit i):=by
 unfold r01_Bit r01_Bit_j1
 rw [if_neg (by omega),tdiv32,tmod32,w64n (n:=i / 32) (by omega),testBit_dval a ha i]
 by_cases h:i / 32<a.length
 ·rw [if_neg (by simp; omega),if_pos (by omega),if_pos (by omega),kz]
  simp only [Int.toNat_natCast]
  obtain ⟨d,hd,hd'⟩:=digN ha (i / 32)
  rw [hd,shr32N d (by omega),and_oneN,Int.toNat_natCast]
  congr 1
  rw [Nat.testBit_eq_decide_div_mod_eq]
  generalize d / 2 ^ (i % 32) % 2=x
  by_cases hx:x=1
  ·subst hx; rfl
  ·simp [hx]; omega
 ·rw [if_pos (by simp; omega)]
  simp [List.getD,List.getElem?_eq_none (show a.length≤i / 32 by omega)]
theorem rat_eq {a:List Int} (ha:Dig a) {i:Nat} : r01_at a (i:Int)=some (a.getD i 0):=by
 unfold r01_at
 by_cases h:i<a.length
 ·obtain ⟨d,hd,hd'⟩:=digN ha i
  rw [if_neg (by omega),if_pos (by omega),kz,Int.toNat_natCast,hd,u64n (by omega)]
 ·rw [if_pos (by omega)]
  simp [List.getD,List.getElem?_eq_none (show a.length≤i by omega)]
theorem snoc_step {p:List Int} {i v r t:Nat} (hl:p.length=i) (h:dval p+4294967296 ^ i*(v+4294967296*r)=t):dval (p++[(v:Int)])+4294967296 ^ (i+1)*r=t:=by
 rw [dval_append,hl]
 have:dval [(v:Int)]=v:=by simp [dval]
 rw [this,← h,Nat.mul_add,Nat.pow_succ,Nat.mul_assoc,Nat.add_assoc]
theorem dig_snoc {p:List Int} (hp:Dig p) {v:Nat} (hv:v<4294967296):Dig (p++[(v:Int)]):=dig_append hp fun d hd=>by
 have:d=(v:Int):=by simpa using hd
 subst this; exact digC hv
theorem rShr_loop {a:List Int} (ha:Dig a) (hl:a.length≤1073741824) {n s t:Nat} (hs:n % 32=s) (hn:n≤1099511627776) :
  ∀ (r i:Nat) (p:List Int),n / 32+i+r=a.length→p.length=i→Dig p→dval p+4294967296 ^ i*(dval (a.drop (n / 32+i)) / 2 ^ s)=t→
   ∀ f,r<f→r01_Shr_l2 a (n:Int) f ((n / 32+i:Nat):Int) p=some (digs t):=by
 intro r
 induction r with
 | zero=>
  intro i p hi hp hd hv f hf
  obtain ⟨f,rfl⟩:∃ k,f=k+1:=⟨f-1,by omega⟩
  rw [r01_Shr_l2,if_neg (by omega)]
  unfold r01_Shr_j1
  rw [rTrim_eq hd (by omega)]
  rw [List.drop_eq_nil_of_le (by omega)] at hv
  simp [dval] at hv
  rw [hv]; rfl
 | succ r ih=>
  intro i p hi hp hd hv f hf
  obtain ⟨f,rfl⟩:∃ k,f=k+1:=⟨f-1,by omega⟩
  obtain ⟨d,hd0,hd'⟩:=digN ha (n / 32+i)
  obtain ⟨c,hc,hc'⟩:=digN ha (n / 32+i+1)
  have hw:IntKind.i64.wrap (((n / 32+i:Nat):Int)+1)=((n / 32+i+1:Nat):Int):=by rw [w64]<;>omega
  have hx:dval (a.drop (n / 32+i))=d+4294967296*dval (a.drop (n / 32+i+1)):=by rw [dval_drop a,hd0,Int.toNat_natCast]
  have hy:dval (a.drop (n / 32+i+1))=c+4294967296*dval (a.drop (n / 32+i+1+1)):=by rw [dval_drop a (n / 32+i+1),hc,Int.toNat_natCast]
  have key:=shr_alg (s:=s) (by omega) hx hd' hy
  rw [r01_Shr_l2,if_pos (by omega),hw,rat_eq ha,rat_eq ha]
  simp only [obn]
  rw [tmod32,hs,hd0,hc,if_pos (by omega),shl32n hc',or64n (by omega) (by omega),or_hi hd',shr64n _ (by omega),u32n]
  rw [if_pos (by simp only [List.length_cons,List.length_nil]; omega)]
  refine ih (i+1) _ (by omega) (by rw [List.length_append]; simp; exact hp) (dig_snoc hd (Nat.mod_lt _ (by decide))) ?_ f (by omega)
  rw [key] at hv
  exact snoc_step hp hv
theorem rShr_eq {a:List Int} (ha:Dig a) (hl:a.length≤1073741824) {n:Nat} (hn:n≤1099511627776):r01_Shr a (n:Int)=some (digs (dval a / 2 ^ n)):=by
 unfold r01_Shr
 have hdl:=dval_lt ha
 rw [if_neg (by omega),tdiv32,w64n (n:=n / 32) (by omega)]
 by_cases h:n / 32<a.length
 ·rw [if_neg (by omega)]
  have h0:=rShr_loop (t:=dval a / 2 ^ n) ha hl (n:=n) rfl hn (a.length-n / 32) 0 [] (by omega) rfl (by intro d hd; cases hd) (by
   rw [Nat.add_zero,← dval_div ha _ (by omega),pow_div]; simp [dval]) fuel (by unfold fuel; omega)
  rw [Nat.add_zero] at h0
  exact h0
 ·rw [if_pos (by omega)]
  have:dval a / 2 ^ n=0:=by
   rw [← pow_div]
   have:dval a / 4294967296 ^ (n / 32)=0:=Nat.div_eq_of_lt (Nat.lt_of_lt_of_le hdl (Nat.pow_le_pow_right (by decide) (by omega)))
   rw [this,Nat.zero_div]
  rw [this,digs_zero]
theorem blen_half {n:Nat} (h:n≠0):blen n=blen (n / 2)+1:=by
 by_cases h1:n / 2=0
 ·have:n=1:=by omega
  subst this; decide
 ·have:=blen_shift (n:=n) (k:=1) (by simpa using h1)
  simpa using this
theorem rBits_loop:∀ (k d n:Nat),blen d=k→k≤100→n+k≤1099511627776→∀ f,k<f→r01_Bits_l2 f (n:Int) (d:Int)=some ((n+k:Nat):Int):=by
 intro k
 induction k with
 | zero=>
  intro d n hd _ hn f hf
  obtain ⟨f,rfl⟩:∃ k,f=k+1:=⟨f-1,by omega⟩
  have:d=0:=by
   rcases Nat.eq_zero_or_pos d with h | h
   ·exact h
   ·have:=blen_pos (n:=d) (by omega); omega
  subst this
  rw [r01_Bits_l2,if_neg (by omega)]; rfl
 | succ k ih=>
  intro d n hd hk hn f hf
  obtain ⟨f,rfl⟩:∃ k,f=k+1:=⟨f-1,by omega⟩
  have h0:d≠0:=by intro h; subst h; rw [blen_zero] at hd; omega
  have h1:=blen_half h0
  have hs:shrI .u32 (d:Int) 1=((d / 2:Nat):Int):=by
   have:=shr32N d (k:=1) (by omega)
   simpa using this
  rw [r01_Bits_l2,if_pos (by omega),hs,show (n:Int)+1=((n+1:Nat):Int) by omega,w64n (by omega)]
  have h2:=ih (d / 2) (n+1) (by omega) (by omega)
  refine (h2 (by omega) f (by omega)).trans ?_
  congr 2; omega
theorem rBits_eq {a:List Int} (ha:Dig a) (hl:a.length≤1073741824):r01_Bits a=some ((blen (dval a):Nat):Int):=by
 unfold r01_Bits
 have h1:=digs_len_le ha
 rw [rTrim_eq ha (by omega)]
 simp only [obn]
 generalize dval a=n at *
 by_cases h0:n=0
 ·subst h0
  rw [digs_zero]
  simp [blen]
 ·have hp:=digs_len_pos h0
  obtain ⟨t,ht,ht',t0,hbt,hbl⟩:=blen_digs h0
  have hw:IntKind.i64.wrap (((digs n).length:Int)-1)=(((digs n).length-1:Nat):Int):=by rw [w64]<;>omega
  have hw2:IntKind.i64.wrap (32*(((digs n).length-1:Nat):Int))=((32*((digs n).length-1):Nat):Int):=by rw [w64]<;>omega
  rw [if_neg (by omega),hw,hw2,if_pos (by omega),kz,Int.toNat_natCast,ht]
  rw [rBits_loop (blen t) t (32*((digs n).length-1)) rfl (by omega) (by omega) fuel (by unfold fuel; omega),hbl]
  congr 2; omega
theorem lt_of_drop {a b:List Int} (ha:Dig a) {i:Nat} (h:dval (a.drop i)<dval (b.drop i)):dval a<dval b:=by
 have h1:=dval_split a i
 have h2:=dval_split b i
 have h3:=dval_lt (dig_take ha i)
 rcases Nat.lt_or_ge b.length i with hb | hb
 ·rw [List.drop_eq_nil_of_le (show b.length≤i by omega)] at h; simp [dval] at h
 ·have eb:(b.take i).length=i:=by rw [List.length_take]; omega
  rw [eb] at h2
  have ea:(a.take i).length≤i:=by rw [List.length_take]; omega
  have h4:4294967296 ^ (a.take i).length≤4294967296 ^ i:=Nat.pow_le_pow_right (by decide) ea
  rcases Nat.lt_or_ge a.length i with hA | hA
  ·rw [List.drop_eq_nil_of_le (show a.length≤i by omega)] at h1 h
   have h5:4294967296 ^ i*1≤4294967296 ^ i*dval (b.drop i):=Nat.mul_le_mul_left _ (by simp [dval] at h; omega)
   simp only [dval,Nat.mul_zero,Nat.add_zero] at h1
   omega
  ·have ea':(a.take i).length=i:=by rw [List.length_take]; omega
   rw [ea'] at h1 h3
   have h5:4294967296 ^ i*(dval (a.drop i)+1)≤4294967296 ^ i*dval (b.drop i):=Nat.mul_le_mul_left _ h
   rw [Nat.mul_add,Nat.mul_one] at h5
   omega
theorem rCmp_loop {a b:List Int} (ha:Dig a) (hb:Dig b):∀ (k:Nat),k≤1099511627776→dval (a.drop k)=dval (b.drop k)→∀ f,k<f→r01_Cmp_l2 a b f ((k:Int)-1)=some (if dval a<dval b then -1 else if dval b<dval a then 1 else 0):=by
 intro k
 induction k with
 | zero=>
  intro _ hv f hf
  obtain ⟨f,rfl⟩:∃ k,f=k+1:=⟨f-1,by omega⟩
  rw [List.drop_zero,List.drop_zero] at hv
  rw [r01_Cmp_l2,if_neg (by omega),if_neg (by omega),if_neg (by omega)]; rfl
 | succ k ih=>
  intro hk hv f hf
  obtain ⟨f,rfl⟩:∃ k,f=k+1:=⟨f-1,by omega⟩
  obtain ⟨x,hx,hx'⟩:=digN ha k
  obtain ⟨y,hy,hy'⟩:=digN hb k
  have ea:dval (a.drop k)=x+4294967296*dval (a.drop (k+1)):=by rw [dval_drop a k,hx,Int.toNat_natCast]
  have eb:dval (b.drop k)=y+4294967296*dval (b.drop (k+1)):=by rw [dval_drop b k,hy,Int.toNat_natCast]
  have hk':((k+1:Nat):Int)-1=(k:Int):=by omega
  rw [r01_Cmp_l2,hk',if_pos (by omega),rat_eq ha,rat_eq hb]
  simp only [obn]
  rw [hx,hy]
  by_cases h1:x<y
  ·have:=lt_of_drop (a:=a) (b:=b) ha (i:=k) (by omega)
   rw [if_pos (by omega),if_pos this]
  ·rw [if_neg (by omega)]
   by_cases h2:y<x
   ·have:=lt_of_drop (a:=b) (b:=a) hb (i:=k) (by omega)
    rw [if_pos (by omega),if_neg (by omega),if_pos this]
   ·rw [if_neg (by omega),w64 (by omega) (by omega)]
    exact ih (by omega) (by omega) f (by omega)
theorem rCmp_eq {a b:List Int} (ha:Dig a) (hb:Dig b) (hl:a.length≤1073741824) (hl':b.length≤1073741824):r01_Cmp a b=some (if dval a<dval b then -1 else if dval b<dval a then 1 else 0):=by
 unfold r01_Cmp
 have hm:mx (a.length:Int) (b.length:Int)=((max a.length b.length:Nat):Int):=by unfold mx; split<;>omega
 rw [hm,w64 (by omega) (by omega)]
 exact rCmp_loop ha hb _ (by omega) (by rw [List.drop_eq_nil_of_le (by omega),List.drop_eq_nil_of_le (by omega)]) fuel (by unfold fuel; omega)
theorem shlr_alg {D Q W V S d c v:Nat} (h:D+Q*W*c=Q*(V*S)) (hv:v=d*S+c):D+Q*W*v=Q*((V+W*d)*S):=by
 subst hv
 have e1:Q*((V+W*d)*S)=Q*(V*S)+Q*W*(d*S):=by
  rw [Nat.add_mul,Nat.mul_add]; simp [Nat.mul_assoc]
 rw [e1,Nat.mul_add]; omega
theorem snoc_eq {p:List Int} {i v hi t:Nat} (hp:p.length=i) (h:dval p+4294967296 ^ i*v=t) (hv:v=v % 4294967296+4294967296*hi):dval (p++[((v % 4294967296:Nat):Int)])+4294967296 ^ (i+1)*hi=t:=by
 refine snoc_step hp ?_
 rw [← hv]; exact h
theorem rShl_loop {a:List Int} (ha:Dig a) {n:Nat} (hn:n≤100000) (hl:a.length≤1073741824) :
  ∀ (r i c:Nat) (p:List Int),i+r=a.length→Dig p→p.length=n / 32+i→c<2 ^ (n % 32)→dval p+4294967296 ^ (n / 32+i)*c=4294967296 ^ (n / 32)*(dval (a.take i)*2 ^ (n % 32))→
   ∀ f,r<f→r01_Shl_l3 a (n:Int) f (c:Int) (i:Int) p=some (digs (dval a*2 ^ n),true):=by
 have hs:n % 32<32:=by omega
 have hps:=pow_lt32 hs
 intro r
 induction r with
 | zero=>
  intro i c p hi hp hlp hc hv f hf
  obtain ⟨f,rfl⟩:∃ k,f=k+1:=⟨f-1,by omega⟩
  have hcm:c % 4294967296=c:=Nat.mod_eq_of_lt (by omega)
  rw [r01_Shl_l3,if_neg (by omega)]
  unfold r01_Shl_j2
  rw [u32n,hcm,if_pos (by simp only [List.length_cons,List.length_nil]; omega)]
  rw [rTrim_eq (dig_snoc hp (by omega)) (by rw [List.length_append]; simp only [List.length_cons,List.length_nil]; omega)]
  simp only [obn]
  have h1:=snoc_step (v:=c) (r:=0) hlp (by rw [Nat.mul_zero,Nat.add_zero])
  rw [Nat.mul_zero,Nat.add_zero] at h1
  rw [h1,hv,List.take_of_length_le (by omega)]
  have e:4294967296 ^ (n / 32)*(dval a*2 ^ (n % 32))=dval a*2 ^ n:=by
   conv=>rhs; rw [← Nat.div_add_mod n 32,Nat.pow_add,← pow32]
   rw [Nat.mul_left_comm]
  rw [e]
 | succ r ih=>
  intro i c p hi hp hlp hc hv f hf
  obtain ⟨f,rfl⟩:∃ k,f=k+1:=⟨f-1,by omega⟩
  obtain ⟨d,hd,hd'⟩:=digN ha i
  have hb:d*2 ^ (n % 32)<18446744073709551616:=mul_lt64 hd' hps
  have hlt:d*2 ^ (n % 32)+c<4294967296*2 ^ (n % 32):=by
   have:(d+1)*2 ^ (n % 32)≤4294967296*2 ^ (n % 32):=Nat.mul_le_mul_right _ hd'
   rw [Nat.add_mul,Nat.one_mul] at this; omega
  have hor:d*2 ^ (n % 32) ||| c=d*2 ^ (n % 32)+c:=by
   rw [Nat.or_comm,Nat.mul_comm,or_add _ hc,Nat.add_comm]
  have hv64:d*2 ^ (n % 32)+c<18446744073709551616:=by
   have:=mul_lt64 (x:=4294967295) (y:=2 ^ (n % 32)) (by omega) hps
   omega
  have hhi:(d*2 ^ (n % 32)+c) / 4294967296<2 ^ (n % 32):=by
   rw [Nat.div_lt_iff_lt_mul (by decide),Nat.mul_comm (2 ^ (n % 32)) 4294967296]; exact hlt
  rw [r01_Shl_l3,if_pos (by omega),if_pos (by omega),tmod32,if_pos (by omega),kz]
  simp only [Int.toNat_natCast]
  rw [hd,u64n (x:=d) (by omega),shl64n (by omega) hb,or64n hb (by omega),hor,shr32n,u32n]
  rw [if_pos (by simp only [List.length_cons,List.length_nil]; omega),show (i:Int)+1=((i+1:Nat):Int) by omega,w64n (by omega)]
  refine ih (i+1) _ _ (by omega) (dig_snoc hp (Nat.mod_lt _ (by decide))) (by rw [List.length_append]; simp; omega) hhi ?_ f (by omega)
  rw [← Nat.add_assoc]
  refine snoc_eq hlp ?_ (Nat.mod_add_div _ 4294967296).symm
  rw [dval_take_succ,hd,Int.toNat_natCast]
  rw [wpow1] at hv ⊢
  exact shlr_alg hv rfl
theorem rShl_eq {a:List Int} (ha:Dig a) (hl:a.length≤1073741824) {n:Nat} (hn:n≤100000):r01_Shl a (n:Int)=some (digs (dval a*2 ^ n),true):=by
 unfold r01_Shl
 rw [if_neg (by omega),show decide ((n:Int)>100000)=false by simp; omega]
 unfold r01_Shl_j1
 rw [if_neg (by simp),tdiv32,w64n (n:=n / 32) (by omega),if_pos (by omega),kz,Int.toNat_natCast]
 exact rShl_loop ha hn hl a.length 0 0 (List.replicate (n / 32) 0) (by omega) (dig_replicate _) (by simp) (Nat.pow_pos (by decide)) (by simp [dval_replicate,dval]) fuel (by unfold fuel; omega)
theorem rnorm_l2 {t o:Nat} (ho:o % 2=1) (hsz:SZ (2 ^ t*o)) (neg:Bool) {e:Int} (he : -1152921504606846976≤e∧e≤1152921504606846976) :
  ∀ (r n:Nat),n+r=t→∀ f,r<f→r05_norm_l2 ⟨neg,digs (2 ^ t*o)⟩ e f (n:Int)=some (dy ⟨sg neg o,e+(t:Int)⟩):=by
 have hlen:=sz_len hsz
 have ht:=t_le (t:=t) ho
 intro r
 induction r with
 | zero=>
  intro n hn f hf
  obtain ⟨f,rfl⟩:∃ k,f=k+1:=⟨f-1,by omega⟩
  have:n=t:=by omega
  subst this
  have hsz':=hsz
  unfold SZ at hsz'
  rw [r05_norm_l2,rBit_eq (dgd _) (by omega),dvd,bit_at ho]
  simp only [obn]
  rw [if_neg (by simp)]
  unfold r05_norm_j1
  rw [rShr_eq (dgd _) (by omega) (by omega),dvd,Nat.mul_div_cancel_left _ (Nat.pow_pos (by decide))]
  simp only [obn]
  rw [rMake_digs _ (sz_le (Nat.le_mul_of_pos_left _ (Nat.pow_pos (by decide))) hsz)]
  simp only [obn]
  rw [w64 (by omega) (by omega)]
  rfl
 | succ r ih=>
  intro n hn f hf
  obtain ⟨f,rfl⟩:∃ k,f=k+1:=⟨f-1,by omega⟩
  have hsz':=hsz
  unfold SZ at hsz'
  rw [r05_norm_l2,rBit_eq (dgd _) (by omega),dvd,bit_below (by omega)]
  simp only [obn]
  rw [if_pos (by simp),show ((n:Int)+1)=((n+1:Nat):Int) by omega,w64n (by omega)]
  exact ih (n+1) (by omega) f (by omega)
theorem rnorm_iOf {z:Int} (hsz:SZ z.natAbs) {e:Int} (he : -1152921504606846976≤e∧e≤1152921504606846976):r05_norm (iOf z) e=some (dy (nrm z e)):=by
 have hlen:=sz_len hsz
 unfold r05_norm
 rw [rMake_iOf hsz]
 simp only [obn]
 have h1:=iOf_mag_zero z
 by_cases h0:z=0
 ·subst h0
  rw [if_pos (h1.2 rfl),nrm_zero,dy_z]
 ·rw [if_neg (fun h=>h0 (h1.1 h))]
  have h0':z.natAbs≠0:=by omega
  obtain ⟨o,h1,h2⟩:=lowz_spec h0'
  have hz:=sg_abs z
  generalize lowz z.natAbs=t at h1
  have ei:iOf z=⟨decide (z<0),digs z.natAbs⟩:=rfl
  rw [ei]
  generalize decide (z<0)=neg at *
  generalize z.natAbs=n at *
  subst h1
  rw [← hz,nrm_sg e h2]
  have:=t_le (t:=t) h2
  have hsz':=hsz
  unfold SZ at hsz'
  exact rnorm_l2 h2 hsz neg he t 0 (by omega) fuel (by unfold fuel; omega)
theorem rsize_eq {d:D} (hs:SZ d.m.natAbs) (he : -1152921504606846976≤d.e∧d.e≤1152921504606846976):r05_size (dy d)=some (d.e+(blen d.m.natAbs:Nat)):=by
 have hl:=sz_len hs
 unfold r05_size dy iOf
 simp only
 rw [rBits_eq (dgd _) (by omega),dvd]
 simp only [obn]
 unfold SZ at hs
 rw [w64 (by omega) (by omega)]
end Go.Proofs.YtoakhpdeadglpaaGreat.Gen
