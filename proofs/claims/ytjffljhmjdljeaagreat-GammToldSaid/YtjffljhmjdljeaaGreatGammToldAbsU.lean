/- A walk that reckons itself: many steps at once. -/
import Derived.Test.YtjffljhmjdljeaaGreatGammToldAbsS
import Derived.Test.YtjffljhmjdljeaaGreatGammToldAbsP
set_option linter.unusedVariables false
set_option linter.unusedSimpArgs false
namespace Go.Abs
structure TE where
 n:Option Nat
 z:List AV
 p:List (Nat × Nat)
 f:List Nat
 d:Option TypeDesc
def lkT:List (Nat × TE)→Nat→Option TE
 | [],_=>none
 | (T',e) :: r,T=>match Nat.beq T T' with
  | true=>some e
  | false=>lkT r T
def teB (P:Program) (T:TypeId) (e:TE):Bool:=
 (match P.underlying T,P.info? T with
  | some d,some i=>(match e.n with
   | some n=>d.isRow && Nat.beq i.size n
   | none=>!d.isRow && Nat.beq i.size 1)
  | _,_=>false) && ((e.z.isEmpty || zm1 P T e.z) && (List.range e.f.length).all fun k=>zm5 P T k (e.f.getD k 0))
structure TEok (P:Program) (T:TypeId) (e:TE):Prop where
 b:teB P T e=true
 p:e.p=[]∨zg0 P T e.p
 d:e.d=none∨P.underlying T=e.d
class TB (P:Program) (tb:outParam (List (Nat × TE))):Prop where
 ok:∀ T e,lkT tb T=some e→TEok P T e
 mx:P.follows .mixedOrders=true
theorem zxr {P:Program} : ∀ T e,lkT [] T=some e→TEok P T e:=fun _ _ h=>by cases h
theorem qt {P:Program} {T:TypeId} {e:TE} {r:List (Nat × TE)} (b:teB P T e=true) (p:e.p=[]∨zg0 P T e.p) (d:e.d=none∨P.underlying T=e.d) (h:∀ T e,lkT r T=some e→TEok P T e):∀ T' e',lkT ((T,e) :: r) T'=some e'→TEok P T' e':=by
 intro T' e' k
 simp only [lkT] at k
 split at k
 ·rename_i hb
  cases k
  rw [Nat.eq_of_beq_eq_true hb]; exact ⟨b,p,d⟩
 ·exact h _ _ k
section
variable {P:Program} {T:TypeId} {e:TE}
theorem TEok.agg (h:TEok P T e) {n:Nat} (hn:e.n=some n):Agg P T n:=by
 have:=h.b
 unfold teB at this
 simp only [Bool.and_eq_true] at this
 have k:=this.1
 split at k
 ·rename_i d i h1 h2
  rw [hn] at k
  simp only [Bool.and_eq_true] at k
  exact ⟨d,h1,k.1,by rw [h2,Option.map_some,Nat.eq_of_beq_eq_true k.2]⟩
 ·cases k
theorem TEok.sca (h:TEok P T e) (hn:e.n=none):Sca P T:=by
 have:=h.b
 unfold teB at this
 simp only [Bool.and_eq_true] at this
 have k:=this.1
 split at k
 ·rename_i d i h1 h2
  rw [hn] at k
  simp only [Bool.and_eq_true] at k
  exact ⟨d,h1,by simpa using k.1,by rw [h2,Option.map_some,Nat.eq_of_beq_eq_true k.2]⟩
 ·cases k
theorem TEok.zero (h:TEok P T e) (hz:e.z≠[]):qR P T e.z:=by
 have:=h.b
 unfold teB at this
 simp only [Bool.and_eq_true,Bool.or_eq_true,List.isEmpty_iff] at this
 rcases this.2.1 with k | k
 ·exact absurd k hz
 ·exact zjA k
theorem TEok.fld (h:TEok P T e) {k fo:Nat} (hk:e.f[k]? = some fo):Fld P T k fo:=by
 have:=h.b
 unfold teB at this
 simp only [Bool.and_eq_true] at this
 obtain ⟨h1,h2⟩:=List.getElem?_eq_some_iff.1 hk
 have q:=List.all_eq_true.1 this.2.2 k (List.mem_range.2 h1)
 have e1:e.f.getD k 0=fo:=by simp [List.getD,hk]
 rw [e1] at q; exact zwC q
theorem TEok.und (h:TEok P T e) {d:TypeDesc} (hd:e.d=some d):P.underlying T=some d:=by
 rcases h.d with k | k
 ·rw [hd] at k; cases k
 ·rw [k,hd]
theorem TEok.some (h:TEok P T e):∃ d,P.underlying T=some d:=by
 have:=h.b
 unfold teB at this
 simp only [Bool.and_eq_true] at this
 have k:=this.1
 split at k
 ·rename_i d i h1 h2; exact ⟨d,h1⟩
 ·cases k
end
universe u v
def obd {α:Type u} {β:Type v} : Option α→(α→Option β)→Option β
 | some a,f=>f a
 | none,_=>none
theorem zt {α:Type u} {β:Type v} {o:Option α} {f:α→Option β} {b:β} (h:obd o f=some b):∃ a,o=some a∧f a=some b:=by
 cases o with
 | none=>cases h
 | some a=>exact ⟨a,rfl,h⟩
def nng:Int→Bool
 | .ofNat _=>true
 | _=>false
def nzr:Int→Bool
 | .ofNat 0=>false
 | _=>true
def arI:BinOp→IntKind→Int→Int→Option AV
 | .and,k,x,y=>some (.int k (zaw k x y))
 | .or,k,x,y=>some (.int k (orI k x y))
 | .xor,k,x,y=>some (.int k (znd k x y))
 | .andNot,k,x,y=>some (.int k (zw8 k x y))
 | op,k,x,y=>arith op k x y
theorem zxs (op:BinOp) (k:IntKind) (x y:Int):arI op k x y=arith op k x y:=by cases op<;>rfl
def ar2 (d:Option TypeDesc):BinOp→AV→AV→Option AV
 | .shl,.int k m,.int _ n=>match nng n with
  | true=>some (.int k (shlI k m n))
  | false=>none
 | .shr,.int k m,.int _ n=>match nng n with
  | true=>some (.int k (shrI k m n))
  | false=>none
 | .quo,.int k m,.int q n=>match decEq k q,nzr n with
  | .isTrue _,true=>some (.int k (k.wrap (m.tdiv n)))
  | _,_=>none
 | .rem,.int k m,.int q n=>match decEq k q,nzr n with
  | .isTrue _,true=>some (.int k (m.tmod n))
  | _,_=>none
 | op,.int k m,.int q n=>match decEq k q with
  | .isTrue _=>arI op k m n
  | _=>none
 | .eql,.bool b,.bool c=>match d with
  | some .bool=>some (.bool (b == c))
  | _=>none
 | .neq,.bool b,.bool c=>match d with
  | some .bool=>some (.bool (b != c))
  | _=>none
 | .eql,.ptr _ _,.nilptr=>match d with
  | some (.pointer _)=>some (.bool false)
  | _=>none
 | .neq,.ptr _ _,.nilptr=>match d with
  | some (.pointer _)=>some (.bool true)
  | _=>none
 | .eql,.nilptr,.nilptr=>match d with
  | some (.pointer _)=>some (.bool true)
  | _=>none
 | .neq,.nilptr,.nilptr=>match d with
  | some (.pointer _)=>some (.bool false)
  | _=>none
 | _,_,_=>none
def zg7:List (Nat × VS)→Nat→Bool
 | [],_=>false
 | (y,_) :: r,z=>match Nat.beq z y with
  | true=>true
  | false=>zg7 r z
theorem zrq:∀ {M:List (Nat × VS)} {z:Nat},zg7 M z=false→lv M z = .fresh
 | [],_,_=>rfl
 | (y,v) :: r,z,h=>by
  simp only [zg7] at h
  split at h
  ·cases h
  ·rename_i q
   simp only [lv]
   rw [we (fun e=>by subst e; rw [Nat.beq_refl] at q; cases q)]
   exact zrq h
def fz (M:List (Nat × VS)):List Nat→Option Nat
 | []=>none
 | z :: l=>match zg7 M z with
  | true=>fz M l
  | false=>some z
theorem zng {M:List (Nat × VS)} : ∀ {l:List Nat} {z:Nat},fz M l=some z→lv M z = .fresh
 | [],z,h=>by cases h
 | y :: l,z,h=>by
  simp only [fz] at h
  split at h
  ·exact zng h
  ·rename_i q; cases h; exact zrq q
def znh:List Nat:=[0,1,2,3,4,5,6,7,8,9,10,11,12,13,14,15,16,17,18,19,20,21,22,23,24,25,26,27,28,29,30,31]
def zrr (rs:List Nat) (d:Option Nat) (n:Option Nat) (M:List (Nat × VS)):AV→Option Ev
 | .ptr x off=>match lv M x with
  | .live _ cs=>match n with
   | some n=>obd (ldL cs off n) fun l=>some ⟨rs,d,some (.agg l),[x],[]⟩
   | none=>obd (cs[off]?) fun v=>some ⟨rs,d,some v,[x],[]⟩
  | _=>none
 | .iptr cs=>match n with
  | some n=>obd (takeO cs n) fun l=>some ⟨rs,d,some (.agg l),[],[]⟩
  | none=>obd (cs[0]?) fun v=>some ⟨rs,d,some v,[],[]⟩
 | _=>none
def zrs (rs:List Nat) (n:Option Nat) (M:List (Nat × VS)):AV→AV→Option Ev
 | .ptr x off,v=>match lv M x with
  | .live U cs=>match n,v with
   | some n,.agg l=>match Nat.beq l.length n,l.all AV.one with
    | true,true=>obd (stL cs off l) fun r=>some ⟨rs,none,none,[x],[(x,.live U r)]⟩
    | _,_=>none
   | some _,_=>none
   | none,v=>match v.one with
    | true=>obd (stL cs off [v]) fun r=>some ⟨rs,none,none,[x],[(x,.live U r)]⟩
    | false=>none
  | _=>none
 | _,_=>none
def sW (tb:List (Nat × TE)) (ops:Array Oper) (o:Oper) (L:List (Nat × Option AV)) (M:List (Nat × VS)):Op→Option Ev
 | .move x=>obd (opd (lk L) x) fun v=>some ⟨gsl ops o++[x].flatMap opr,o.dst,some v,[],[]⟩
 | .assign x=>obd (opd (lk L) x) fun v=>some ⟨gsl ops o++[x].flatMap opr,o.dst,some v,[],[]⟩
 | .binOp op T x y _=>obd (opd (lk L) x) fun a=>obd (opd (lk L) y) fun b=>obd (ar2 (match lkT tb T with | some e=>e.d | none=>none) op a b) fun v=>some ⟨gsl ops o++[x,y].flatMap opr,o.dst,some v,[],[]⟩
 | .unOp op _ x=>obd (opd (lk L) x) fun u=>obd (zjx op u) fun v=>some ⟨gsl ops o++[x].flatMap opr,o.dst,some v,[],[]⟩
 | .pick c x y=>match opd (lk L) c with
  | some (.bool true)=>obd (opd (lk L) x) fun v=>some ⟨gsl ops o++[c,x].flatMap opr,o.dst,some v,[],[]⟩
  | some (.bool false)=>obd (opd (lk L) y) fun v=>some ⟨gsl ops o++[c,y].flatMap opr,o.dst,some v,[],[]⟩
  | _=>none
 | .extract x i=>match opd (lk L) x with
  | some (.tup l)=>obd (l[i]?) fun v=>some ⟨gsl ops o++[x].flatMap opr,o.dst,some v,[],[]⟩
  | _=>none
 | .nilCheck x=>match opd (lk L) x with
  | some (.ptr y off)=>some ⟨gsl ops o++[x].flatMap opr,o.dst,some (.ptr y off),[],[]⟩
  | _=>none
 | .convert T U x=>match lkT tb T,lkT tb U,opd (lk L) x with
  | some _,some e,some (.int _ n)=>match e.d with
   | some (.int q)=>some ⟨gsl ops o++[x].flatMap opr,o.dst,some (.int q (q.wrap n)),[],[]⟩
   | _=>none
  | _,_,_=>none
 | .box T y=>obd (fz M znh) fun z=>obd (opd (lk L) y) fun v=>obd (cellsO v) fun cs=>some ⟨gsl ops o++[y].flatMap opr,o.dst,some (.ptr z 0),[z],[(z,.live T cs)]⟩
 | .alloc T=>obd (fz M znh) fun z=>obd (lkT tb T) fun e=>match e.z with
  | []=>none
  | a :: l=>some ⟨gsl ops o,o.dst,some (.ptr z 0),[z],[(z,.live T (a :: l))]⟩
 | .load T y=>obd (lkT tb T) fun e=>obd (opd (lk L) y) fun p=>zrr (gsl ops o++[y].flatMap opr) o.dst e.n M p
 | .store T y z=>match o.dst with
  | some _=>none
  | none=>obd (lkT tb T) fun e=>obd (opd (lk L) y) fun p=>obd (opd (lk L) z) fun v=>zrs (gsl ops o++[y,z].flatMap opr) e.n M p v
 | .fieldAddr S y k=>obd (lkT tb S) fun e=>obd (e.f[k]?) fun fo=>match opd (lk L) y with
  | some (.ptr x 0)=>some ⟨gsl ops o++[y].flatMap opr,o.dst,some (.ptr x fo),[],[]⟩
  | some (.ptr x off)=>some ⟨gsl ops o++[y].flatMap opr,o.dst,some (.ptr x (off+fo)),[],[]⟩
  | _=>none
 | .build T parts=>obd (lkT tb T) fun e=>match e.z,e.p with
  | a :: l,q :: r=>obd (zdt (lk L) (fun i=>(q :: r)[i]?) (a :: l) parts.toList) fun cs=>some ⟨gsl ops o++(parts.toList.map (·.2)).flatMap opr,o.dst,some (.agg cs),[],[]⟩
  | _,_=>none
 | .call ⟨.builtin .min,⟨[x,y]⟩,_⟩=>match opd (lk L) x,opd (lk L) y with
  | some (.int k m),some (.int q n)=>match decEq k q with
   | .isTrue _=>some ⟨gsl ops o++[x,y].flatMap opr,o.dst,some (.int k (mn m n)),[],[]⟩
   | _=>none
  | _,_=>none
 | .call ⟨.builtin .max,⟨[x,y]⟩,_⟩=>match opd (lk L) x,opd (lk L) y with
  | some (.int k m),some (.int q n)=>match decEq k q with
   | .isTrue _=>some ⟨gsl ops o++[x,y].flatMap opr,o.dst,some (.int k (mx m n)),[],[]⟩
   | _=>none
  | _,_=>none
 | .makeFunc (.func f) fx cx=>obd (ZP (lk L) fx.toList) fun fs=>obd (ZP (lk L) cx.toList) fun cs=>some ⟨gsl ops o++(fx.toList++cx.toList).flatMap opr,o.dst,some (.fn f fs cs),[],[]⟩
 | _=>none
def stp (tb:List (Nat × TE)) (ops:Array Oper) (N:Nat) (o:Oper) (L:List (Nat × Option AV)) (M:List (Nat × VS)):Option Ev:=
 match dlt o N with
 | false=>none
 | true=>match wnt ops o (lk L) with
  | some false=>some ⟨gsl ops o,o.dst,some (.tup []),[],[]⟩
  | some true=>sW tb ops o L M o.op
  | none=>none
section
variable {P:Program} {ops:Array Oper} {o:Oper} {N:Nat} {L:List (Nat × Option AV)} {M:List (Nat × VS)} {tb:List (Nat × TE)}
theorem zrt {n:Int} (h:nng n=true):0≤n:=by
 cases n with
 | ofNat k=>exact Int.natCast_nonneg k
 | negSucc k=>cases h
theorem zru {n:Int} (h:nzr n=true):n≠0:=by
 rintro rfl; cases h
theorem zxt {d:Option TypeDesc} {op:BinOp} {T U:TypeId} {x y:Operand} {a b v:AV} (ho:o.op = .binOp op T x y U) (hd:dlt o N=true) (hw:wnt ops o (lk L)=some true) (hx:opd (lk L) x=some a) (hy:opd (lk L) y=some b)
  (hT:∀ t,d=some t→P.underlying T=some t) (h:ar2 d op a b=some v):Snd P ops o N (mkS L M) ⟨gsl ops o++[x,y].flatMap opr,o.dst,some v,[],[]⟩:=by
 unfold ar2 at h
 split at h
 ·split at h
  ·rename_i q; cases h; exact zjt T U x y _ _ _ _ ho hd hw hx hy (zrt q)
  ·cases h
 ·split at h
  ·rename_i q; cases h; exact zju T U x y _ _ _ _ ho hd hw hx hy (zrt q)
  ·cases h
 ·split at h
  ·rename_i e _ q; subst e; cases h; exact zjv T U x y _ _ _ ho hd hw hx hy (zru q)
  ·cases h
 ·split at h
  ·rename_i e _ q; subst e; cases h; exact zjw T U x y _ _ _ ho hd hw hx hy (zru q)
  ·cases h
 ·split at h
  ·rename_i e _; subst e; rw [zxs] at h; exact zwo op T U x y _ _ _ v ho hd hw hx hy h
  ·cases h
 ·split at h
  ·cases h; exact zxf T U x y _ _ ho (hT _ rfl) hd hw hx hy
  ·cases h
 ·split at h
  ·cases h; exact zxg T U x y _ _ ho (hT _ rfl) hd hw hx hy
  ·cases h
 ·split at h
  ·cases h; exact zjH .eql T _ U x y _ false false ho (hT _ rfl) hd hw hx (.inl ⟨⟨_,_,rfl⟩,rfl⟩) hy (.inl ⟨rfl,rfl⟩)
  ·cases h
 ·split at h
  ·cases h; exact zjH .neq T _ U x y _ false true ho (hT _ rfl) hd hw hx (.inl ⟨⟨_,_,rfl⟩,rfl⟩) hy (.inr ⟨rfl,rfl⟩)
  ·cases h
 ·split at h
  ·cases h; exact zjH .eql T _ U x y _ true true ho (hT _ rfl) hd hw hx (.inr ⟨rfl,rfl⟩) hy (.inl ⟨rfl,rfl⟩)
  ·cases h
 ·split at h
  ·cases h; exact zjH .neq T _ U x y _ true false ho (hT _ rfl) hd hw hx (.inr ⟨rfl,rfl⟩) hy (.inr ⟨rfl,rfl⟩)
  ·cases h
 ·cases h
theorem zxu [ht:TB P tb] {e:Ev} (hd:dlt o N=true) (hw:wnt ops o (lk L)=some true) (h:sW tb ops o L M o.op=some e):Snd P ops o N (mkS L M) e:=by
 unfold sW at h
 split at h
 ·rename_i x ho
  obtain ⟨v,h1,h2⟩:=zt h; cases h2
  exact zgY x v ho hd hw h1
 ·rename_i x ho
  obtain ⟨v,h1,h2⟩:=zt h; cases h2
  exact zdq x v ho hd hw h1
 ·rename_i op T x y U ho
  obtain ⟨a,h1,h2⟩:=zt h
  obtain ⟨b,h3,h4⟩:=zt h2
  obtain ⟨v,h5,h6⟩:=zt h4
  cases h6
  refine zxt ho hd hw h1 h3 (fun t hq=>?_) h5
  split at hq
  ·rename_i e he; exact (ht.ok _ _ he).und hq
  ·cases hq
 ·rename_i op T x ho
  obtain ⟨u,h1,h2⟩:=zt h
  obtain ⟨v,h3,h4⟩:=zt h2
  cases h4
  exact zqL op T x u v ho hd hw h1 h3
 ·rename_i c x y ho
  split at h
  ·rename_i hc
   obtain ⟨v,h1,h2⟩:=zt h; cases h2
   exact zwk c x y v ho hd hw hc h1
  ·rename_i hc
   obtain ⟨v,h1,h2⟩:=zt h; cases h2
   exact zwl c x y v ho hd hw hc h1
  ·cases h
 ·rename_i x i ho
  split at h
  ·rename_i l hx
   obtain ⟨v,h1,h2⟩:=zt h; cases h2
   exact zwm x i l v ho hd hw hx h1
  ·cases h
 ·rename_i x ho
  split at h
  ·rename_i y off hx
   cases h
   exact zwn x _ (.inl ⟨_,_,rfl⟩) ho hd hw hx
  ·cases h
 ·rename_i T U x ho
  split at h
  ·rename_i e0 e1 k n h0 h1 h2
   split at h
   ·rename_i q hq
    cases h
    obtain ⟨d,hT⟩:=(ht.ok _ _ h0).some
    exact zqM T U x k q n d ho hT ((ht.ok _ _ h1).und hq) hd hw h2
   ·cases h
  ·cases h
 ·rename_i T y ho
  obtain ⟨z,h1,h2⟩:=zt h
  obtain ⟨v,h3,h4⟩:=zt h2
  obtain ⟨cs,h5,h6⟩:=zt h4
  cases h6
  obtain ⟨k1,k2⟩:=zjS h5
  rw [k1]
  exact zqR T y v z ho hd hw (zng h1) h3 (AV.not_tup k2)
 ·rename_i T ho
  obtain ⟨z,h1,h2⟩:=zt h
  obtain ⟨e1,h3,h4⟩:=zt h2
  split at h4
  ·cases h4
  ·rename_i a l hz
   cases h4
   have:=(ht.ok _ _ h3).zero (by rw [hz]; simp)
   rw [hz] at this
   exact zqQ T (a :: l) z ho this hd hw (zng h1)
 ·rename_i T y ho
  obtain ⟨e1,h1,h2⟩:=zt h
  obtain ⟨p,h3,h4⟩:=zt h2
  have hT:=ht.ok _ _ h1
  unfold zrr at h4
  split at h4
  ·rename_i x off
   split at h4
   ·rename_i U cs hV
    split at h4
    ·rename_i n hn
     obtain ⟨l,h5,h6⟩:=zt h4
     cases h6
     exact la (hT.agg hn) (by rw [ho,hd]; simp only [mkS] at *; rw [hw,h3,hV,h5])
    ·rename_i hn
     obtain ⟨v,h5,h6⟩:=zt h4
     cases h6
     exact ls (hT.sca hn) (by rw [ho,hd]; simp only [mkS] at *; rw [hw,h3,hV,h5])
   ·cases h4
  ·rename_i cs
   split at h4
   ·rename_i n hn
    obtain ⟨l,h5,h6⟩:=zt h4
    cases h6
    exact lai (hT.agg hn) (by rw [ho,hd]; simp only [mkS] at *; rw [hw,h3,h5])
   ·rename_i hn
    obtain ⟨v,h5,h6⟩:=zt h4
    cases h6
    exact lsi (hT.sca hn) (by rw [ho,hd]; simp only [mkS] at *; rw [hw,h3,h5])
  ·cases h4
 ·rename_i T y z ho
  split at h
  ·cases h
  ·rename_i hdn
   obtain ⟨e1,h1,h2⟩:=zt h
   obtain ⟨p,h3,h4⟩:=zt h2
   obtain ⟨v,h5,h6⟩:=zt h4
   have hT:=ht.ok _ _ h1
   unfold zrs at h6
   split at h6
   ·rename_i x off
    split at h6
    ·rename_i U cs hV
     split at h6
     ·rename_i n l hn
      split at h6
      ·rename_i b1 b2
       obtain ⟨r,h7,h8⟩:=zt h6
       cases h8
       exact sa (hT.agg hn) (by rw [ho,hdn]; simp only [mkS] at *; rw [hw,h3,h5,hV,b1,b2,h7])
      ·cases h6
     ·cases h6
     ·rename_i hn
      split at h6
      ·rename_i b1
       obtain ⟨r,h7,h8⟩:=zt h6
       cases h8
       exact ss (hT.sca hn) (by rw [ho,hdn]; simp only [mkS] at *; rw [hw,h3,h5,hV,b1,h7])
      ·cases h6
    ·cases h6
   ·cases h6
 ·rename_i S y k ho
  obtain ⟨e1,h1,h2⟩:=zt h
  obtain ⟨fo,h3,h4⟩:=zt h2
  have hF:=(ht.ok _ _ h1).fld h3
  split at h4
  ·rename_i x hy
   cases h4
   have:=zqX (P:=P) (N:=N) (s:=mkS L M) (ops:=ops) S k fo y x 0 ho hF hd hw hy
   rw [Nat.zero_add] at this; exact this
  ·rename_i x off _ hy
   cases h4
   exact zqX S k fo y x off ho hF hd hw hy
  ·cases h4
 ·rename_i T parts ho
  obtain ⟨e1,h1,h2⟩:=zt h
  split at h2
  ·rename_i a l q r hz hp
   obtain ⟨cs,h3,h4⟩:=zt h2
   cases h4
   have hT:=ht.ok _ _ h1
   have k1:=hT.zero (by rw [hz]; simp)
   have k2:zg0 P T (q :: r):=by
    rcases hT.p with k | k
    ·rw [hp] at k; cases k
    ·rw [hp] at k; exact k
   rw [hz] at k1
   exact bd k1 k2 (by rw [ho,hd]; simp only [mkS] at *; rw [hw,h3])
  ·cases h2
 ·rename_i x y tys ho
  split at h
  ·rename_i k m q n h1 h2
   split at h
   ·rename_i e _; subst e; cases h; exact zwI tys x y _ m n ho hd hw h1 h2
   ·cases h
  ·cases h
 ·rename_i x y tys ho
  split at h
  ·rename_i k m q n h1 h2
   split at h
   ·rename_i e _; subst e; cases h; exact zwJ tys x y _ m n ho hd hw h1 h2
   ·cases h
  ·cases h
 ·rename_i f fx cx ho
  obtain ⟨fs,h1,h2⟩:=zt h
  obtain ⟨cs,h3,h4⟩:=zt h2
  cases h4
  exact zwp f fx cx fs cs ho hd hw (zg6 h1) (zg6 h3)
 ·cases h
theorem zrv [ht:TB P tb] {e:Ev} (h:stp tb ops N o L M=some e):Snd P ops o N (mkS L M) e:=by
 unfold stp at h
 split at h
 ·cases h
 ·rename_i hd
  split at h
  ·rename_i hw; cases h; exact zmV hd hw
  ·rename_i hw; exact zxu hd hw h
  ·cases h
end
end Go.Abs
