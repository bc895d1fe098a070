/- The rules as they are used: lists of slots and names; slices of one kind. -/
import Derived.Test.YtjffljhmjdljeaaGreatGammToldAbsM
set_option linter.unusedVariables false
set_option linter.unusedSimpArgs false
namespace Go.Abs
structure Kd (α:Type) where
 enc:α→List AV
 sz:Nat
 z:α
 len:∀ a,(enc a).length=sz
 one:∀ a,(enc a).all AV.one=true
 dat:∀ a i,Data ((enc a).getD i .nilptr)
def kInt (k:IntKind):Kd Int:=⟨fun n=>[.int k n],1,0,fun _=>rfl,fun _=>rfl,fun n=>Data.cons (.int k n) Data.nil⟩
def zq9:Kd Bool:=⟨fun b=>[.bool b],1,false,fun _=>rfl,fun _=>rfl,fun b=>Data.cons (.bool b) Data.nil⟩
variable {α:Type} (K:Kd α)
def slK (l:List α):AV:=.sl (l.map K.enc)
def rwK (T:TypeId) (l:List α):VS:=.rw T K.sz (l.map K.enc)
def kSl:Kd (List α):=⟨fun l=>[slK K l],1,[],fun _=>rfl,fun _=>rfl,fun l=>Data.cons (.sl (Data.map K.enc K.dat l)) Data.nil⟩
variable {K}
theorem Kd.even (l:List α):Even K.sz (l.map K.enc):=fun e he=>by
 obtain ⟨a,_,rfl⟩:=List.mem_map.1 he
 exact K.len a
theorem Kd.ones (l:List α):∀ e ∈ l.map K.enc,e.all AV.one=true:=fun e he=>by
 obtain ⟨a,_,rfl⟩:=List.mem_map.1 he
 exact K.one a
theorem Kd.getD (l:List α) (i:Nat) (hi:i<l.length):(l.map K.enc).getD i []=K.enc (l.getD i K.z):=by simp [List.getD,hi]
theorem Q3 {ρ:Nat→Option Nat} (l:List α):Ren ρ (slK K l) (slK K l):=(Data.sl (Data.map K.enc K.dat l)) ρ
theorem zra {ρ:Nat→Option Nat} (a:α):Ren ρ (.agg (K.enc a)) (.agg (K.enc a)):=(Data.agg (K.dat a)) ρ
theorem zm9 {ρ:Nat→Option Nat} (T:TypeId) (l:List α):RenV ρ (rwK K T l) (rwK K T l):=
 .rw T K.sz _ _ rfl (fun _ _=>rfl) fun i j=>Data.map K.enc K.dat l i j ρ
inductive RenL (ρ:Nat→Option Nat):List AV→List AV→Prop
 | nil:RenL ρ [] []
 | cons {a b:AV} {l r:List AV} (h:Ren ρ a b) (t:RenL ρ l r):RenL ρ (a :: l) (b :: r)
theorem RenL.spec {ρ:Nat→Option Nat} {l r:List AV} (h:RenL ρ l r):l.length=r.length∧∀ i,Ren ρ (l.getD i .nilptr) (r.getD i .nilptr):=by
 induction h with
 | nil=>exact ⟨rfl,fun i=>by simpa using Ren.nilptr⟩
 | cons h t ih=>
  refine ⟨by simp [ih.1],fun i=>?_⟩
  cases i with
  | zero=>simpa using h
  | succ i=>simpa using ih.2 i
theorem zjF {ρ:Nat→Option Nat} {l r:List AV} (h:RenL ρ l r):Ren ρ (.agg l) (.agg r):=.agg l r h.spec.1 h.spec.2
theorem zrb {ρ:Nat→Option Nat} {l r:List AV} (h:RenL ρ l r):Ren ρ (.tup l) (.tup r):=.tup l r h.spec.1 h.spec.2
theorem zU {ρ:Nat→Option Nat} (f:FuncId) {a a' c c':List AV} (h:RenL ρ a a') (k:RenL ρ c c'):Ren ρ (.fn f a c) (.fn f a' c'):=.fn f a a' c c' h.spec.1 k.spec.1 h.spec.2 k.spec.2
theorem zg3 {ρ:Nat→Option Nat} (T:TypeId) {l r:List AV} (h:RenL ρ l r):RenV ρ (.live T l) (.live T r):=.live T l r h.spec.1 h.spec.2
inductive RenLL (ρ:Nat→Option Nat):List (List AV)→List (List AV)→Prop
 | nil:RenLL ρ [] []
 | cons {a b:List AV} {l r:List (List AV)} (h:RenL ρ a b) (t:RenLL ρ l r):RenLL ρ (a :: l) (b :: r)
theorem RenLL.spec {ρ:Nat→Option Nat} {l r:List (List AV)} (h:RenLL ρ l r):l.length=r.length∧(∀ i,i<l.length→(l.getD i []).length=(r.getD i []).length)∧∀ i j,Ren ρ ((l.getD i []).getD j .nilptr) ((r.getD i []).getD j .nilptr):=by
 induction h with
 | nil=>exact ⟨rfl,fun i h=>by simp at h,fun i j=>by simpa using Ren.nilptr⟩
 | cons h t ih=>
  obtain ⟨h1,h2,h3⟩:=ih
  refine ⟨by simp [h1],fun i hi=>?_,fun i j=>?_⟩
  ·cases i with
   | zero=>simpa using h.spec.1
   | succ i=>simpa using h2 i (by simpa using hi)
  ·cases i with
   | zero=>simpa using h.spec.2 j
   | succ i=>simpa using h3 i j
theorem Zp {ρ:Nat→Option Nat} {l r:List (List AV)} (h:RenLL ρ l r):Ren ρ (.sl l) (.sl r):=.sl l r h.spec.1 h.spec.2.1 h.spec.2.2
def lw:List VS→Nat→VS
 | [],_=>.fresh
 | v :: _,0=>v
 | _ :: r,n+1=>lw r n
theorem zna:∀ (l:List VS) (i:Nat),l.length≤i→lw l i = .fresh:=by
 intro l
 induction l with
 | nil=>intro i _; rfl
 | cons v r ih=>intro i h; cases i with
  | zero=>simp at h
  | succ i=>exact ih i (by simpa using h)
inductive Pass (ρ:Nat→Option Nat) (V:Nat→VS):List VS→List Nat→Prop
 | nil:Pass ρ V [] []
 | cons {v:VS} {n:Nat} {r:List VS} {ns:List Nat} (hon:v.on) (h:RenV ρ v (V n)) (k:Pass ρ V r ns):Pass ρ V (v :: r) (n :: ns)
theorem Pass.spec {ρ:Nat→Option Nat} {V:Nat→VS} {l:List VS} {ns:List Nat} (h:Pass ρ V l ns):l.length=ns.length∧(∀ i,i<l.length→(lw l i).on)∧∀ (i n:Nat),ns[i]? = some n→RenV ρ (lw l i) (V n):=by
 induction h with
 | nil=>exact ⟨rfl,fun i h=>by simp at h,fun i n h=>by simp at h⟩
 | cons hon h k ih=>
  obtain ⟨h1,h2,h3⟩:=ih
  refine ⟨by simp [h1],fun i hi=>?_,fun i n hn=>?_⟩
  ·cases i with
   | zero=>exact hon
   | succ i=>exact h2 i (by simpa using hi)
  ·cases i with
   | zero=>simp at hn; subst hn; exact h
   | succ i=>exact h3 i n (by simpa using hn)
inductive RenVL (ρ:Nat→Option Nat):List VS→List VS→Prop
 | nil:RenVL ρ [] []
 | cons {a b:VS} {l r:List VS} (h:RenV ρ a b) (t:RenVL ρ l r):RenVL ρ (a :: l) (b :: r)
theorem RenVL.spec {ρ:Nat→Option Nat} {l r:List VS} (h:RenVL ρ l r):l.length=r.length∧∀ i v,r[i]? = some v→RenV ρ (ld l i) v:=by
 induction h with
 | nil=>exact ⟨rfl,fun i v h=>by simp at h⟩
 | cons h t ih=>
  refine ⟨by simp [ih.1],fun i v hv=>?_⟩
  cases i with
  | zero=>simp at hv; subst hv; exact h
  | succ i=>exact ih.2 i v (by simpa using hv)
section
variable {P:Program} {ops:Array Oper} {o:Oper} {N:Nat} {s:St}
def zipM:List Bool→List Nat→List VS→List (Nat × VS)
 | b :: bs,n :: ns,v :: vs=>if b then (n,v) :: zipM bs ns vs else zipM bs ns vs
 | _,_,_=>[]
inductive Kept (V:Nat→VS):List Bool→List Nat→List VS→Prop
 | nil:Kept V [] [] []
 | turned {bs:List Bool} {n:Nat} {ns:List Nat} {v:VS} {vs:List VS} (k:Kept V bs ns vs):Kept V (true :: bs) (n :: ns) (v :: vs)
 | kept {bs:List Bool} {n:Nat} {ns:List Nat} {v:VS} {vs:List VS} (h:V n=v) (k:Kept V bs ns vs):Kept V (false :: bs) (n :: ns) (v :: vs)
theorem Kept.spec {V V':Nat→VS} {bs:List Bool} {ns:List Nat} {vs:List VS} (h:Kept V bs ns vs) (hnd:ns.Nodup) (hV:∀ n ∈ ns,V' n=V n):updL V' (zipW ns vs)=updL V' (zipM bs ns vs)∧∀ y,y ∉ ns→updL V' (zipM bs ns vs) y=V' y:=by
 induction h with
 | nil=>exact ⟨rfl,fun y _=>rfl⟩
 | turned k ih=>
  obtain ⟨h1,h2⟩:=ih (List.nodup_cons.1 hnd).2 fun n hn=>hV n (List.mem_cons_of_mem _ hn)
  refine ⟨by simp only [zipW,zipM,if_true,updL,h1],fun y hy=>?_⟩
  simp only [List.mem_cons,not_or] at hy
  simp only [zipM,if_true,updL]
  rw [qn _ _ hy.1]; exact h2 y hy.2
 | kept h k ih=>
  rename_i bs n ns v vs
  obtain ⟨h1,h2⟩:=ih (List.nodup_cons.1 hnd).2 fun n hn=>hV n (List.mem_cons_of_mem _ hn)
  refine ⟨?_,fun y hy=>?_⟩
  ·simp only [zipW,zipM,updL,h1]
   funext y
   by_cases e:y=n
   ·subst e
    rw [zT]
    have:=h2 y (List.nodup_cons.1 hnd).1
    simp only [Bool.false_eq_true,if_false]
    rw [this,hV y List.mem_cons_self,h]
   ·rw [qn _ _ e]; simp
  ·simp only [List.mem_cons,not_or] at hy
   simpa [zipM] using h2 y hy.2
theorem Snd.kept {rs:List Nat} {d:Option Nat} {dv:Option AV} {ns:List Nat} {vs:List VS} {bs:List Bool} (h:Snd P ops o N s ⟨rs,d,dv,ns,zipW ns vs⟩) (hnd:ns.Nodup) (hk:Kept s.V bs ns vs):Snd P ops o N s ⟨rs,d,dv,ns,zipM bs ns vs⟩:=by
 intro E s' hag a w hc K Q hK
 refine h E s' hag a w hc K Q fun a' w' hc'=>hK a' w' ?_
 have:=(hk.spec (V':=s'.V) hnd fun n hn=>hag.2 n hn).1
 unfold Ev.patch at hc' ⊢
 rw [← this]; exact hc'
theorem zrc {f:FuncId} {fo:Operand} {xs:Array Operand} {tys:Array TypeId} {first caps:List AV} (vs args0:List AV) (fn:Func) (M0 M1:List VS) (r0 r:AV) (ns1 ns2:List Nat) (W:List VS) (bs:List Bool)
  (ho:o.op = .call ⟨.value fo,xs,tys⟩) (hd:dlt o N=true) (hw:wnt ops o s.G=some true) (hf:opd s.G fo=some (.fn f first caps)) (hx:xs.toList.map (opd s.G)=vs.map some)
  (hfn:P.funcs[f]? = some fn) (hnm:(fn.name == "runtime.NumGoroutine")=false) (hbody:fn.body.isSome=true)
  (hc:ACalls P f args0 (lw M0) r0 (ld M1)) (ha:RenL (nsO (ns1++ns2)) args0 (first++vs++caps)) (hp:Pass (nsO (ns1++ns2)) s.V M0 ns1) (hnd:decide (ns1++ns2).Nodup=true) (hnew:∀ n ∈ ns2,s.V n = .fresh)
  (hWl:(ns1++ns2).length=W.length) (hW:RenVL (nsO (ns1++ns2)) M1 W) (hr:Ren (nsO (ns1++ns2)) r0 r) (hk:Kept s.V bs (ns1++ns2) W) :
  Snd P ops o N s ⟨gsl ops o++opr fo++xs.toList.flatMap opr,o.dst,some r,ns1++ns2,zipM bs (ns1++ns2) W⟩:=by
 obtain ⟨p1,p2,p3⟩:=hp.spec
 refine Snd.kept ?_ (of_decide_eq_true hnd) hk
 refine zwM f fo xs tys first caps vs args0 fn (lw M0) (ld M1) r0 r (ns1++ns2) ns1.length W ho hd hw hf hx hfn hnm hbody hc ha.spec.1 ha.spec.2 wb (of_decide_eq_true hnd) ?_ ?_ ?_ ?_ hWl hW.spec.2 hr
 ·intro i n hi hn
  rw [List.getElem?_append_left hi] at hn
  exact p3 i n hn
 ·exact fun i hi=>p2 i wa
 ·exact fun i hi=>zna M0 i wa
 ·intro i n hi hn
  rw [List.getElem?_append_right hi] at hn
  exact hnew n (List.mem_of_getElem? hn)
theorem Q4 (K:Kd α) (T e bytes:Nat) (x y:Operand) (z:Nat) (k k':IntKind) (n:Int) (ho:o.op = .makeSlice T x y) (hT:P.underlying T=some (.slice e)) (hz:qR P e (K.enc K.z))
  (hsz:(P.info? e).map (fun i=>(i.size,i.bytes))=some (K.sz,bytes)) (h0':0<K.sz) (hd:dlt o N=true) (hw:wnt ops o s.G=some true) (hfr:s.V z = .fresh)
  (hx:opd s.G x=some (.int k n)) (hy:opd s.G y=some (.int k' n)) (hn:0≤n∧n*bytes≤281474976710656∧n≤281474976710656) :
  Snd P ops o N s ⟨gsl ops o++[x,y].flatMap opr,o.dst,some (.row z K.sz 0 (List.replicate n.toNat K.z).length),[z],[(z,rwK K e (List.replicate n.toNat K.z))]⟩:=by
 have:=zwB T e K.sz bytes x y z k k' n (K.enc K.z) ho hT hz hsz (K.len _) h0' hd hw hfr hx hy hn.1 hn.2.1 hn.2.2
 unfold rwK
 rw [List.map_replicate,List.length_replicate]
 exact this
theorem zci (K:Kd α) (T e:Nat) (x:Operand) (low high:Option Operand) (l:List α) (lo hi:Int) (ho:o.op = .slice T x low high none) (hT:P.underlying T=some (.slice e)) (hsz:(P.info? e).map (·.size)=some K.sz)
  (hd:dlt o N=true) (hw:wnt ops o s.G=some true) (hx:opd s.G x=some (slK K l)) (hlo:QF s.G low 0=some lo) (hhi:QF s.G high l.length=some hi) (h:0≤lo∧lo≤hi∧hi≤l.length) :
  Snd P ops o N s ⟨gsl ops o++(x :: (low.toList++high.toList)).flatMap opr,o.dst,some (slK K ((l.take hi.toNat).drop lo.toNat)),[],[]⟩:=by
 have:=zqY T e K.sz x low high (l.map K.enc) lo hi ho hT hsz hd hw hx hlo (by rw [List.length_map]; exact hhi) (Kd.even l) h.1 h.2.1 (by rw [List.length_map]; exact h.2.2)
 unfold slK
 rw [List.map_drop,List.map_take]
 exact this
theorem zw5 (K:Kd α) (T e:Nat) (x y:Operand) (l:List α) (k:IntKind) (i:Int) (ho:o.op = .indexAddr T x y) (hT:P.underlying T=some (.slice e)) (hsz:(P.info? e).map (·.size)=some K.sz)
  (hd:dlt o N=true) (hw:wnt ops o s.G=some true) (hx:opd s.G x=some (slK K l)) (hy:opd s.G y=some (.int k i)) (h:0≤i∧i<l.length) :
  Snd P ops o N s ⟨gsl ops o++[x,y].flatMap opr,o.dst,some (.iptr (K.enc (l.getD i.toNat K.z))),[],[]⟩:=by
 have:=zq1 T e K.sz x y (l.map K.enc) k i ho hT hsz hd hw hx hy (Kd.even l) h.1 (by rw [List.length_map]; exact h.2)
 rw [Kd.getD l _ wa] at this
 exact this
theorem zrd (K:Kd α) (T e:Nat) (x:Operand) (l:List α) (ho:o.op = .call ⟨.builtin .len,#[x],#[T]⟩) (hT:P.underlying T=some (.slice e)) (hd:dlt o N=true) (hw:wnt ops o s.G=some true)
  (hx:opd s.G x=some (slK K l)):Snd P ops o N s ⟨gsl ops o++[x].flatMap opr,o.dst,some (.int .i64 l.length),[],[]⟩:=by
 have:=zeK T e x _ (l.map K.enc).length ho hT hd hw hx rfl
 rw [List.length_map] at this
 exact this
theorem zaW (K:Kd α) (T:TypeId) (y:Operand) (x i off:Nat) (U:TypeId) (l:List α) (ho:o.op = .load T y) (hT:Sca P T) (hd:dlt o N=true) (hw:wnt ops o s.G=some true)
  (hy:opd s.G y=some (.rptr x K.sz i off)) (hx:s.V x=rwK K U l) (hi:i<l.length) (hl:off<K.sz) :
  Snd P ops o N s ⟨gsl ops o++[y].flatMap opr,o.dst,some (ldS (K.enc (l.getD i K.z)) off),[x],[]⟩:=by
 have:=zwx T y x K.sz i off U (l.map K.enc) ho hT hd hw hy hx (by rw [List.length_map]; exact hi) hl
 rw [Kd.getD l _ hi] at this
 exact this
theorem znb (K:Kd α) (T:TypeId) (y:Operand) (x i off n:Nat) (U:TypeId) (l:List α) (ho:o.op = .load T y) (hT:Agg P T n) (hd:dlt o N=true) (hw:wnt ops o s.G=some true)
  (hy:opd s.G y=some (.rptr x K.sz i off)) (hx:s.V x=rwK K U l) (hi:i<l.length) (hl:off+n≤K.sz) :
  Snd P ops o N s ⟨gsl ops o++[y].flatMap opr,o.dst,some (ldA (K.enc (l.getD i K.z)) off n),[x],[]⟩:=by
 have:=zww T y x K.sz i off n U (l.map K.enc) ho hT hd hw hy hx (by rw [List.length_map]; exact hi) hl
 rw [Kd.getD l _ hi] at this
 exact this
theorem zre (K:Kd α) (T:TypeId) (y z:Operand) (x i:Nat) (U:TypeId) (l:List α) (v:α) (a:AV) (ho:o.op = .store T y z) (hdst:o.dst=none) (hT:Agg P T K.sz∨(K.sz=1∧Sca P T)) (hw:wnt ops o s.G=some true)
  (hy:opd s.G y=some (.rptr x K.sz i 0)) (hz:opd s.G z=some a) (hx:s.V x=rwK K U l) (ha:a.cellsOf=K.enc v) (h1:Agg P T K.sz→∃ l,a = .agg l) (hs:Sca P T→a.one=true) (hi:i<l.length) :
  Snd P ops o N s ⟨gsl ops o++[y,z].flatMap opr,none,none,[x],[(x,rwK K U (l.set i v))]⟩:=by
 have:=zwy (N:=N) T y z x K.sz i 0 K.sz U (l.map K.enc) a ho hdst hT hw hy hz hx (by rw [ha]; exact K.len v) (by rw [ha]; exact K.one v) h1 hs (by rw [List.length_map]; exact hi) wa
 have e:(l.map K.enc).set i (splA ((l.map K.enc).getD i []) 0 a.cellsOf)=(l.set i v).map K.enc:=by
  rw [List.map_set]
  congr 1
  rw [ha,Kd.getD l _ hi]
  simp [splA,K.len]
 rw [e] at this
 exact this
theorem zrf (K:Kd α) (T e bytes:Nat) (x y:Operand) (z:Nat) (l:List α) (ho:o.op = .call ⟨.builtin .append,#[x,y],#[T,T]⟩) (hT:P.underlying T=some (.slice e)) (hz:qR P e (K.enc K.z))
  (hsz:(P.info? e).map (fun i=>(i.size,i.bytes))=some (K.sz,bytes)) (hd:dlt o N=true) (hw:wnt ops o s.G=some true) (hfr:s.V z = .fresh)
  (hx:opd s.G x=some .nilsl) (hy:opd s.G y=some (slK K l)) (h:0<l.length∧l.length≤9223372036854775807∧l.length*bytes≤140737488355328) :
  Snd P ops o N s ⟨gsl ops o++[x,y].flatMap opr,o.dst,some (.row z K.sz 0 l.length),[z],[(z,rwK K e l)]⟩:=by
 have:=zwU T e K.sz bytes x y z (l.map K.enc) (K.enc K.z) ho hT hz hsz (K.len _) hd hw hfr hx hy (Kd.even l) (by simpa using h.1) (by simpa [maxLen] using h.2.1) (by simpa using h.2.2)
 rw [List.length_map] at this
 exact this
theorem zg4 (K:Kd α) (T e bytes:Nat) (x y:Operand) (xn z:Nat) (X l:List α) (ho:o.op = .call ⟨.builtin .append,#[x,y],#[T,T]⟩) (hT:P.underlying T=some (.slice e)) (hz:qR P e (K.enc K.z))
  (hsz:(P.info? e).map (fun i=>(i.size,i.bytes))=some (K.sz,bytes)) (hd:dlt o N=true) (hw:wnt ops o s.G=some true) (hfr:s.V z = .fresh)
  (hx:opd s.G x=some (.row xn K.sz 0 X.length)) (hX:s.V xn=rwK K e X) (hy:opd s.G y=some (slK K l)) (h:0<l.length∧X.length+l.length≤9223372036854775807∧(X.length+l.length)*bytes≤140737488355328) :
  Snd P ops o N s ⟨gsl ops o++[x,y].flatMap opr,o.dst,some (.row z K.sz 0 (X++l).length),[z,xn],[(z,rwK K e (X++l)),(xn,.dead)]⟩:=by
 have:=zwV T e K.sz bytes x y xn z X.length (X.map K.enc) (l.map K.enc) (K.enc K.z) ho hT hz hsz (K.len _) hd hw hfr hx hX wb hy (Kd.even l) (Kd.ones l) (by simpa using h.1) (by simpa [maxLen] using h.2.1) (by simpa using h.2.2)
 rw [List.length_map,← List.map_append] at this
 rw [List.length_append]
 exact this
theorem zw6 (K:Kd α) (T e:Nat) (U:TypeId) (x y:Operand) (xn off n k:Nat) (X l:List α) (ho:o.op = .call ⟨.builtin .copy,#[x,y],#[T,U]⟩) (hT:P.underlying T=some (.slice e)) (hsz:(P.info? e).map (·.size)=some K.sz)
  (hd:dlt o N=true) (hw:wnt ops o s.G=some true) (hx:opd s.G x=some (.row xn K.sz off n)) (hX:s.V xn=rwK K e X) (hn:off+n≤X.length) (hy:opd s.G y=some (slK K l))
  (hk:k=if l.length≤n then l.length else n) :
  Snd P ops o N s ⟨gsl ops o++[x,y].flatMap opr,o.dst,some (.int .i64 k),[xn],[(xn,rwK K e (X.take off++l.take k++X.drop (off+(l.take k).length)))]⟩:=by
 have:=zw4 T e K.sz U x y xn off n k (X.map K.enc) (l.map K.enc) ho hT hsz hd hw hx hX (by rw [List.length_map]; exact hn) hy (Kd.even l) (Kd.ones l) (by rw [List.length_map]; exact hk)
 have e:zav (X.map K.enc) off ((l.map K.enc).take k)=(X.take off++l.take k++X.drop (off+(l.take k).length)).map K.enc:=by
  simp [zav,List.map_take,List.map_drop]
 rw [e] at this
 exact this
theorem Conc.freezeK (K:Kd α) {E:Ent} {N:Nat} {L:List (Nat × Option AV)} {M:List (Nat × VS)} {a:Act} {w:World} (h:Conc E N (mkS L M) a w) (t x off n:Nat) (T:TypeId) (l:List α)
  (ht:lk L t=some (.row x K.sz off n)) (hx:lv M x=rwK K T l) (hn:off+n≤l.length):Conc E N (mkS ((t,some (slK K ((l.drop off).take n))) :: L) ((x,.dead) :: M)) a w:=by
 have:=h.freeze t x K.sz off n T (l.map K.enc) ht hx (by rw [List.length_map]; exact hn)
 unfold slK
 rw [List.map_take,List.map_drop]
 exact this
end
section
variable {P:Program} {ops:Array Oper} {o:Oper} {N:Nat} {s:St}
theorem zw7 {V:Nat→VS} : ∀ n ∈ ([]:List Nat),V n = .fresh:=fun _ h=>by cases h
theorem Snd.le {rs:List Nat} {d:Option Nat} {v v':AV} {rv:List Nat} {wv:List (Nat × VS)} (h:Snd P ops o N s ⟨rs,d,some v,rv,wv⟩) (hle:AVle v v'):Snd P ops o N s ⟨rs,d,some v',rv,wv⟩:=by
 intro E s' hag a w hc K Q hK
 refine h E s' hag a w hc K Q fun a' w' ⟨A,I,c⟩=>hK a' w' ⟨A,I,?_⟩
 refine c.weaken (fun t z hz=>?_) (by rw [zeH,zeH])
 rw [zjp] at hz ⊢
 by_cases e:d=some t
 ·subst e
  simp only [if_true] at hz ⊢
  cases hz
  exact ⟨v,rfl,fun x hx=>hle _ _ _ _ hx⟩
 ·simp only [e,if_false] at hz ⊢
  exact ⟨z,hz,fun _ h=>h⟩
theorem zjG {T:TypeId} {n:Nat} (h:Agg P T n) (k:Sca P T):False:=by
 obtain ⟨d,h1,h2,_⟩:=h
 obtain ⟨d',k1,k2,_⟩:=k
 rw [h1] at k1; cases k1; rw [h2] at k2; cases k2
theorem znc (K:Kd α) (T:TypeId) (y z:Operand) (x i:Nat) (U:TypeId) (l:List α) (v:α) (ho:o.op = .store T y z) (hdst:o.dst=none) (hT:Agg P T K.sz) (hw:wnt ops o s.G=some true)
  (hy:opd s.G y=some (.rptr x K.sz i 0)) (hz:opd s.G z=some (.agg (K.enc v))) (hx:s.V x=rwK K U l) (hi:i<l.length) :
  Snd P ops o N s ⟨gsl ops o++[y,z].flatMap opr,none,none,[x],[(x,rwK K U (l.set i v))]⟩:=
 zre K T y z x i U l v (.agg (K.enc v)) ho hdst (.inl hT) hw hy hz hx rfl (fun _=>⟨_,rfl⟩) (fun k=>(zjG hT k).elim) hi
theorem Zq (K:Kd α) (T:TypeId) (y z:Operand) (x i:Nat) (U:TypeId) (l:List α) (v:α) (a:AV) (ho:o.op = .store T y z) (hdst:o.dst=none) (h1:K.sz=1) (hT:Sca P T) (hw:wnt ops o s.G=some true)
  (hy:opd s.G y=some (.rptr x K.sz i 0)) (hz:opd s.G z=some a) (hx:s.V x=rwK K U l) (ha:K.enc v=[a]) (ho1:a.one=true) (hi:i<l.length) :
  Snd P ops o N s ⟨gsl ops o++[y,z].flatMap opr,none,none,[x],[(x,rwK K U (l.set i v))]⟩:=
 zre K T y z x i U l v a ho hdst (.inr ⟨h1,hT⟩) hw hy hz hx (by rw [ha]; cases a<;>first | rfl | cases ho1) (fun k=>(zjG k hT).elim) (fun _=>ho1) hi
theorem zjH (op:BinOp) (T e U:TypeId) (x y:Operand) (v:AV) (b c:Bool) (ho:o.op = .binOp op T x y U) (hT:P.underlying T=some (.pointer e)) (hd:dlt o N=true) (hw:wnt ops o s.G=some true)
  (hx:opd s.G x=some v) (hv:(∃ q off,v = .ptr q off)∧b=false∨v = .nilptr∧b=true) (hy:opd s.G y=some .nilptr) (hop:(op = .eql∧c=b)∨(op = .neq∧c = !b)) :
  Snd P ops o N s ⟨gsl ops o++[x,y].flatMap opr,o.dst,some (.bool c),[],[]⟩:=
 qm [x,y] [v,.nilptr] _ hd hw (by simp [hx,hy]) fun ρ w A I h=>by
  have h0:=h 0 wb
  have h1:=h 1 wb
  simp at h0 h1
  generalize hq:ρ x=q at h0
  generalize hp:ρ y=p at h1
  cases h1
  have heq:(Op.equal T q (.pointer none)).run P w = .ok b w:=by
   obtain ⟨m,hm⟩:∃ m,Op.maxDepth=m+1:=⟨9999,rfl⟩
   unfold Op.equal
   rw [hm]
   clear hm
   rcases hv with ⟨⟨_,_,rfl⟩,rfl⟩ | ⟨rfl,rfl⟩<;>cases h0<;>simp [Op.equalIn,run_underlying hT]
  refine ⟨.bool c,?_,.bool _⟩
  rcases hop with ⟨rfl,rfl⟩ | ⟨rfl,rfl⟩
  ·rcases hv with ⟨⟨_,_,rfl⟩,rfl⟩ | ⟨rfl,rfl⟩<;>cases h0<;>simp [execOp,ho,hq,hp,eqGuard,binOp,heq]
  ·rcases hv with ⟨⟨_,_,rfl⟩,rfl⟩ | ⟨rfl,rfl⟩<;>cases h0<;>simp [execOp,ho,hq,hp,eqGuard,binOp,heq]
end
def shlI (k:IntKind) (m n:Int):Int:=k.wrap (m*2 ^ min n.toNat k.bits)
def shrI (k:IntKind) (m n:Int):Int:=m.fdiv (2 ^ min n.toNat k.bits)
def zaw (k:IntKind) (x y:Int):Int:=k.wrap (BitVec.ofInt k.bits x &&& BitVec.ofInt k.bits y).toNat
def orI (k:IntKind) (x y:Int):Int:=k.wrap (BitVec.ofInt k.bits x ||| BitVec.ofInt k.bits y).toNat
def znd (k:IntKind) (x y:Int):Int:=k.wrap (BitVec.ofInt k.bits x ^^^ BitVec.ofInt k.bits y).toNat
def zw8 (k:IntKind) (x y:Int):Int:=k.wrap (BitVec.ofInt k.bits x &&& ~~~BitVec.ofInt k.bits y).toNat
def zjI (k:IntKind) (n:Int):Int:=k.wrap (BitVec.ofInt k.bits (if k.signed then -1 else k.max) ^^^ BitVec.ofInt k.bits n).toNat
def fuel:Nat:=18446744073709551616
def initG:Nat→List AV→List (Nat × Option AV)
 | _,[]=>[]
 | n,a :: r=>(n,some a) :: initG (n+1) r
def initV:Nat→List VS→List (Nat × VS)
 | _,[]=>[]
 | n,a :: r=>(n,a) :: initV (n+1) r
theorem zw9:∀ (l:List AV) (n t:Nat),lk (initG n l) t=if n≤t then l[t-n]? else none:=by
 intro l
 induction l with
 | nil=>intro n t; simp [initG,lk]
 | cons a r ih=>
  intro n t
  simp only [initG,lk,ih]
  by_cases h:t=n
  ·subst h; simp
  ·rw [we h]
   by_cases h2:n≤t
   ·rw [wc h2,wc wa]
    obtain ⟨k,hk⟩:∃ k,t-n=k+1:=⟨t-n-1,wa⟩
    have hk':t-(n+1)=k:=wa
    rw [hk,hk']; simp
   ·rw [we h2,we wa]
theorem zxa:∀ (l:List VS) (n t:Nat),lv (initV n l) t=if n≤t then lw l (t-n) else .fresh:=by
 intro l
 induction l with
 | nil=>intro n t; simp [initV,lv,lw]
 | cons a r ih=>
  intro n t
  simp only [initV,lv,ih]
  by_cases h:t=n
  ·subst h; simp [lw]
  ·rw [we h]
   by_cases h2:n≤t
   ·rw [wc h2,wc wa]
    obtain ⟨k,hk⟩:∃ k,t-n=k+1:=⟨t-n-1,wa⟩
    have hk':t-(n+1)=k:=wa
    rw [hk,hk']; rfl
   ·rw [we h2,we wa]
theorem zxb (args:List AV) (M0:List VS):(⟨fun t=>args[t]?,lw M0⟩:St)=mkS (initG 0 args) (initV 0 M0):=by
 unfold mkS
 congr 1
 ·funext t; rw [zw9]; simp
 ·funext t; rw [zxa]; simp
theorem zrg {P:Program} {f:FuncId} {fn:Func} {c:Code} {args:List AV} {M0:List VS} {R:Type} {o:Option R} {res:R→AV} {V1:R→List VS} {N:Nat} (L:List (Nat × Option AV)) (M:List (Nat × VS)) (m:Nat) (hf:P.funcs[f]? = some fn) (hb:fn.body=some c) (hN:fn.ntmps=N) (hal:Nat.ble args.length N=true)
  (hL:initG 0 args=L) (hM:initV 0 M0=M) (hm:M0.length=m) (h:∀ E,(∀ x,m≤x→E.A0 x=none)→T P E N o c (mkS L M) (fin P fn E res fun r=>ld (V1 r))):∀ r,o=some r→ACalls P f args (lw M0) (res r) (ld (V1 r)):=
 zwS (V1:=fun r=>ld (V1 r)) hf hb hN (Nat.le_of_ble_eq_true hal) fun E hE=>by
  rw [zxb,hL,hM]
  exact h E fun x hx=>hE x (zna M0 x wa)
theorem T.no {P:Program} {E:Ent} {N:Nat} {R:Type} {c:Code} {s:St} {Q:R→Exit→Act→World→Prop} : T P E N (Option.none:Option R) c s Q:=fun r hr=>by cases hr
theorem TR.no {P:Program} {E:Ent} {N:Nat} {R:Type} {ops:Array Oper} {l:List Oper} {s:St} {Q:R→Exit→Act→World→Prop} : TR P E N ops (Option.none:Option R) l s Q:=fun r hr=>by cases hr
theorem TD.no {P:Program} {E:Ent} {N:Nat} {R:Type} {ops l:List Oper} {s:St} {acc:List Ev} {Q:R→Exit→Act→World→Prop} : TD P E N ops (Option.none:Option R) l s acc Q:=fun r hr=>by cases hr
section walk
variable {P:Program} {E:Ent} {N:Nat} {R:Type} {o:Option R} {Q:R→Exit→Act→World→Prop} {L:List (Nat × Option AV)} {M:List (Nat × VS)}
theorem TR.st {ops:Array Oper} {op:Oper} {l:List Oper} {e:Ev} (d:Nat) (v:AV) (wv:List (Nat × VS)) (hs:Snd P ops op N (mkS L M) e) (h1:e.d=some d) (h2:e.dv=some v) (h3:e.wv=wv)
  (h:TR P E N ops o l (mkS ((d,some v) :: L) (wv++M)) Q):TR P E N ops o (op :: l) (mkS L M) Q:=TR.op hs (by rw [Zb,h1,h2,h3]; exact h)
theorem TR.sn {ops:Array Oper} {op:Oper} {l:List Oper} {e:Ev} (wv:List (Nat × VS)) (hs:Snd P ops op N (mkS L M) e) (h1:e.d=none) (h3:e.wv=wv)
  (h:TR P E N ops o l (mkS L (wv++M)) Q):TR P E N ops o (op :: l) (mkS L M) Q:=TR.op hs (by rw [Zb,h1,h3]; exact h)
theorem TR.sk {ops:Array Oper} {op:Oper} {l:List Oper} (d:Nat) (hd:dlt op N=true) (hw:wnt ops op (lk L)=some false) (h1:op.dst=some d)
  (h:TR P E N ops o l (mkS ((d,some (.tup [])) :: L) M) Q):TR P E N ops o (op :: l) (mkS L M) Q:=TR.op (zmV hd hw) (by rw [Zb,h1]; exact h)
theorem TD.st {ops:List Oper} {op:Oper} {l:List Oper} {e:Ev} {acc:List Ev} (d:Nat) (v:AV) (wv:List (Nat × VS)) (hs:Snd P ops.toArray op N (mkS L M) e) (h1:e.d=some d) (h2:e.dv=some v) (h3:e.wv=wv)
  (h:TD P E N ops o l (mkS ((d,some v) :: L) (wv++M)) (acc++[⟨e.rs,some d,some v,e.rv,wv⟩]) Q):TD P E N ops o (op :: l) (mkS L M) acc Q:=TD.op hs (by
   rw [Zb,h1,h2,h3]; cases e; cases h1; cases h2; cases h3; exact h)
theorem TD.sn {ops:List Oper} {op:Oper} {l:List Oper} {e:Ev} {acc:List Ev} (wv:List (Nat × VS)) (hs:Snd P ops.toArray op N (mkS L M) e) (h1:e.d=none) (h3:e.wv=wv)
  (h:TD P E N ops o l (mkS L (wv++M)) (acc++[e]) Q):TD P E N ops o (op :: l) (mkS L M) acc Q:=TD.op hs (by rw [Zb,h1,h3]; exact h)
theorem TD.sk {ops:List Oper} {op:Oper} {l:List Oper} {acc:List Ev} (d:Nat) (hd:dlt op N=true) (hw:wnt ops.toArray op (lk L)=some false) (h1:op.dst=some d)
  (h:TD P E N ops o l (mkS ((d,some (.tup [])) :: L) M) (acc++[⟨gsl ops.toArray op,some d,some (.tup []),[],[]⟩]) Q):TD P E N ops o (op :: l) (mkS L M) acc Q:=TD.op (zmV hd hw) (by rw [Zb,h1]; exact h)
theorem TR.kn {ops:Array Oper} {l:List Oper} (t:Nat) (b c:Bool) (h:lk L t=some (.bool b)) (hb:b=c) (k:TR P E N ops o l (mkS ((t,some (.bool c)) :: L) M) Q):TR P E N ops o l (mkS L M) Q:=by rw [know h hb]; exact k
theorem TD.kn {ops:List Oper} {l:List Oper} {acc:List Ev} (t:Nat) (b c:Bool) (h:lk L t=some (.bool b)) (hb:b=c) (k:TD P E N ops o l (mkS ((t,some (.bool c)) :: L) M) acc Q):TD P E N ops o l (mkS L M) acc Q:=by rw [know h hb]; exact k
theorem T.kn {c:Code} (t:Nat) (b d:Bool) (h:lk L t=some (.bool b)) (hb:b=d) (k:T P E N o c (mkS ((t,some (.bool d)) :: L) M) Q):T P E N o c (mkS L M) Q:=by rw [know h hb]; exact k
theorem T.cond_p {c:Operand} {x y:Code} {b:Bool} {p:Prop} [Decidable p] {ot oe:Option R} {s:St} (hc:opd s.G c=some (.bool b)) (hp:b=true↔p) (ht:b=true→p→T P E N ot x s Q) (hf:b=false→¬p→T P E N oe y s Q) :
  T P E N (if p then ot else oe) (.cond c x y) s Q:=by
 by_cases h:p
 ·rw [wc h]
  have hb:=hp.2 h
  subst hb
  exact T.cond_t hc (ht rfl h)
 ·rw [we h]
  have hb:b=false:=by cases b with
   | false=>rfl
   | true=>exact absurd (hp.1 rfl) h
  subst hb
  exact T.cond_f hc (hf rfl h)
theorem zjJ {p:Prop} [Decidable p]:decide p=true↔p:=decide_eq_true_iff
theorem zjK {p:Prop} [Decidable p]:(!decide p)=true↔¬p:=wb
theorem zjL {x y:Int} : (x == y)=true↔x=y:=beq_iff_eq
theorem zjM {x y:Int} : (x != y)=true↔¬x=y:=wb
theorem zjN {x y:Int} : (!(x == y))=true↔¬x=y:=wb
theorem zjO {x y:Int} : (!(x != y))=true↔x=y:=wb
theorem zjP {b:Bool} : b=true↔b=true:=Iff.rfl
theorem zjQ {b:Bool} : (!b)=true↔¬b=true:=wb
theorem TR.gd {ops:Array Oper} {l:List Oper} {p:Prop} [Decidable p] {o1 o2:Option R} (t:Nat) (b:Bool) (h:lk L t=some (.bool b)) (hp:b=true↔p) (h1:p→TR P E N ops o1 l (mkS ((t,some (.bool true)) :: L) M) Q)
  (h2:¬p→TR P E N ops o2 l (mkS ((t,some (.bool false)) :: L) M) Q):TR P E N ops (if p then o1 else o2) l (mkS L M) Q:=
 TR.ite (fun hpp=>TR.kn t b true h (hp.2 hpp) (h1 hpp)) fun hpp=>TR.kn t b false h (by cases b with
  | false=>rfl
  | true=>exact absurd (hp.1 rfl) hpp) (h2 hpp)
theorem TD.gd {ops:List Oper} {l:List Oper} {acc:List Ev} {p:Prop} [Decidable p] {o1 o2:Option R} (t:Nat) (b:Bool) (h:lk L t=some (.bool b)) (hp:b=true↔p) (h1:p→TD P E N ops o1 l (mkS ((t,some (.bool true)) :: L) M) acc Q)
  (h2:¬p→TD P E N ops o2 l (mkS ((t,some (.bool false)) :: L) M) acc Q):TD P E N ops (if p then o1 else o2) l (mkS L M) acc Q:=
 TD.ite (fun hpp=>TD.kn t b true h (hp.2 hpp) (h1 hpp)) fun hpp=>TD.kn t b false h (by cases b with
  | false=>rfl
  | true=>exact absurd (hp.1 rfl) hpp) (h2 hpp)
end walk
end Go.Abs
