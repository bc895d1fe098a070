/- What each operation does to an abstract state: the plain ones. -/
import Derived.Test.YtjffljhmjdljeaaGreatGammToldAbsD
set_option linter.unusedVariables false
set_option linter.unusedSimpArgs false
namespace Go.Abs
def lk:List (Nat × Option AV)→Nat→Option AV
 | [],_=>none
 | (t',v) :: r,t=>if t=t' then v else lk r t
def lv:List (Nat × VS)→Nat→VS
 | [],_=>.fresh
 | (y,v) :: r,x=>if x=y then v else lv r x
def mkS (L:List (Nat × Option AV)) (M:List (Nat × VS)):St:=⟨lk L,lv M⟩
theorem zmT (L:List (Nat × Option AV)) (t:Nat) (v:Option AV):upd (lk L) t v=lk ((t,v) :: L):=by
 funext y; rfl
theorem zdp (M:List (Nat × VS)) (x:Nat) (v:VS):upd (lv M) x v=lv ((x,v) :: M):=by
 funext y; rfl
theorem zwg (M:List (Nat × VS)):∀ l:List (Nat × VS),updL (lv M) l=lv (l++M):=by
 intro l
 induction l with
 | nil=>rfl
 | cons p r ih=>obtain ⟨x,v⟩:=p; simp only [updL,ih,zdp,List.cons_append]
def zqI (d:Option Nat) (v:Option AV) (L:List (Nat × Option AV)):List (Nat × Option AV):=match d with | some t=>(t,v) :: L | none=>L
theorem Zb (e:Ev) (L:List (Nat × Option AV)) (M:List (Nat × VS)):e.patch (mkS L M)=mkS (zqI e.d e.dv L) (e.wv++M):=by
 unfold Ev.patch St.set mkS
 simp only [zwg]
 cases e.d with
 | none=>rfl
 | some t=>simp only [zmT,zqI]
def zmU:Value→Option AV
 | .int k n=>some (.int k n)
 | .bool b=>some (.bool b)
 | .string s=>some (.str s)
 | .slice none 0 0=>some .nilsl
 | .pointer none=>some .nilptr
 | .nilFunc=>some .nilfn
 | _=>none
theorem zwh (w:World) (A:Nat→Option Nat) (I:Nat→Prop) (c:Value) (v:AV) (h:zmU c=some v):Rep w A I v c:=by
 unfold zmU at h
 split at h<;>cases h
 ·exact .int _ _
 ·exact .bool _
 ·exact .str _
 ·exact .nilsl
 ·exact .nilptr
 ·exact .nilfn
def opd (G:Nat→Option AV):Operand→Option AV
 | .tmp t=>G t
 | .const c=>zmU c
 | .func f=>some (.fn f [] [])
 | .global _=>none
def opr:Operand→List Nat
 | .tmp t=>[t]
 | _=>[]
theorem qo {e:Ev} {s s':St} (h:zcf e s s') (x:Operand) (hr:∀ t ∈ opr x,t ∈ e.rs):opd s'.G x=opd s.G x:=by
 cases x with
 | tmp t=>exact h.1 t (hr t (by simp [opr]))
 | _=>rfl
theorem Con.opd {E:Ent} {N:Nat} {s:St} {a:Act} {w:World} {A:Nat→Option Nat} {I:Nat→Prop} (c:Con E N s a w A I) {x:Operand} {v:AV} (h:opd s.G x=some v):Rep w A I v (a.eval x):=by
 cases x with
 | tmp t=>
  obtain ⟨y,h1,h2⟩:=c.G t v h
  have:a.eval (.tmp t)=y:=by simp [Act.eval,Array.getD_eq_getD_getElem?,h1]
  rw [this]; exact h2
 | const k=>exact zwh _ _ _ _ _ h
 | func f=>
  simp [Abs.opd] at h; subst h
  exact .fn f [] [] #[] #[] rfl rfl (fun i hi=>by simp at hi) (fun i hi=>by simp at hi)
 | global g=>simp [Abs.opd] at h
def gsl (ops:Array Oper) (o:Oper):List Nat:=match o.guard with | none=>[] | some (j,_)=>((ops[j]?).bind (·.dst)).toList
def wnt (ops:Array Oper) (o:Oper) (G:Nat→Option AV):Option Bool:=
 match o.guard with
 | none=>some true
 | some (j,b)=>match (ops[j]?).bind (·.dst) with
  | none=>none
  | some g=>match G g with
   | some (.bool c)=>some (c == b)
   | some (.tup _)=>some false
   | _=>none
theorem zjs {e:Ev} {s s':St} (h:zcf e s s') (ops:Array Oper) (o:Oper) (hr:∀ t ∈ gsl ops o,t ∈ e.rs):wnt ops o s'.G=wnt ops o s.G:=by
 unfold wnt
 cases hg:o.guard with
 | none=>rfl
 | some p=>
  obtain ⟨j,b⟩:=p
  dsimp only
  cases hj:(ops[j]?).bind (·.dst) with
  | none=>rfl
  | some g=>
   have:=h.1 g (hr g (by simp [gsl,hg,hj]))
   simp only [this]
theorem Con.wanted {E:Ent} {N:Nat} {s:St} {a:Act} {w:World} {A:Nat→Option Nat} {I:Nat→Prop} (c:Con E N s a w A I) {ops:Array Oper} {o:Oper} {b:Bool} (h:wnt ops o s.G=some b) :
  Region.wanted o (yielded ops a.tmps)=b:=by
 unfold wnt at h
 unfold Region.wanted
 cases hg:o.guard with
 | none=>rw [hg] at h; simpa using h
 | some p=>
  obtain ⟨j,d⟩:=p
  rw [hg] at h
  dsimp only at h ⊢
  cases hj:(ops[j]?).bind (·.dst) with
  | none=>rw [hj] at h; cases h
  | some g=>
   rw [hj] at h
   dsimp only at h
   cases hG:s.G g with
   | none=>rw [hG] at h; cases h
   | some v=>
    rw [hG] at h
    cases v with
    | bool q=>
     obtain ⟨y,h1,h2⟩:=c.G g _ hG
     cases h2
     simp only [Option.some.injEq] at h
     unfold yielded
     rw [hj]
     simp only [Option.bind_some,h1]
     subst h
     cases q<;>cases d<;>rfl
    | tup q=>
     obtain ⟨y,h1,h2⟩:=c.G g _ hG
     cases h2
     simp only [Option.some.injEq] at h
     unfold yielded
     rw [hj]
     simp only [Option.bind_some,h1]
     subst h
     rfl
    | _=>cases h
def dlt (o:Oper) (N:Nat):Bool:=match o.dst with | some t=>decide (t<N) | none=>true
theorem qA {o:Oper} {N:Nat} (h:dlt o N=true):∀ t,o.dst=some t→t<N:=by
 intro t ht
 simp [dlt,ht] at h; exact h
theorem zmV {P:Program} {ops:Array Oper} {o:Oper} {N:Nat} {s:St} (hd:dlt o N=true) (hw:wnt ops o s.G=some false) :
  Snd P ops o N s ⟨gsl ops o,o.dst,some (.tup []),[],[]⟩:=by
 rintro E s' hag a w ⟨A,I,c⟩ K Q hK
 have hw':wnt ops o s'.G=some false:=(zjs hag ops o fun t ht=>ht).trans hw
 unfold wpO
 rw [c.wanted hw']
 refine hK _ _ ⟨A,I,?_⟩
 exact c.pure o.dst (some (.tup [])) undef (qA hd) (fun z hz=>by cases hz; exact .tup [] #[] rfl (fun i hi=>by cases hi))
theorem zwi {P:Program} {ρ:Operand→Value} {o:Oper} {c:Call} {w w':World} {n:Next} (ho:o.op = .defer c) (h:(execOp ρ o).run P w = .ok n w'):∃ d,n = .defer d:=by
 unfold execOp at h
 rw [ho] at h
 simp only [Sem.run_bind] at h
 generalize (resolve ρ c o.type).run P w=r at h
 cases r with
 | halt x w1=>simp [Result.andThen] at h
 | ok d w1=>simp [Result.andThen] at h; exact ⟨d,h.1.symm⟩
theorem zmW {P:Program} {ro:Option Nat} {ρ:Operand→Value} {o:Oper} {w w':World} {n:Next} (h:(execOp ρ o).run P w = .ok n w') (hn:∀ d,n ≠ .defer d):(o.semAt ro ρ).run P w = .ok n w':=by
 rw [Oper.semAt_eq ro ρ o fun c hc=>let ⟨d,hd⟩:=zwi hc h; hn d hd]; exact h
theorem zqJ {P:Program} {ro:Option Nat} {ρ:Operand→Value} {o:Oper} {w w':World} {v:Value} (h:(execOp ρ o).run P w = .ok (.value v) w'):(o.semAt ro ρ).run P w = .ok (.value v) w':=zmW h fun _ e=>by cases e
theorem zwj {P:Program} {ro:Option Nat} {ρ:Operand→Value} {o:Oper} {w w':World} (h:(execOp ρ o).run P w = .ok .skip w'):(o.semAt ro ρ).run P w = .ok .skip w':=zmW h fun _ e=>by cases e
theorem qY {P:Program} {ops:Array Oper} {o:Oper} {N:Nat} {s:St} {e:Ev} (hgr:∀ t ∈ gsl ops o,t ∈ e.rs) (hw:wnt ops o s.G=some true)
  (h:∀ E s',zcf e s s'→∀ a w A I,Con E N s' a w A I→∃ x w' A' I',(execOp a.eval o).run P w = .ok (.value x) w'∧Con E N (e.patch s') (a.put o.dst x) w' A' I'):Snd P ops o N s e:=by
 rintro E s' hag a w ⟨A,I,c⟩ K Q hK
 have hw':wnt ops o s'.G=some true:=(zjs hag ops o hgr).trans hw
 unfold wpO
 rw [c.wanted hw',wc rfl]
 obtain ⟨x,w',A',I',hr,c'⟩:=h E s' hag a w A I c
 exact ⟨fun _ _=>trivial,by rw [zqJ hr]; exact hK _ _ ⟨A',I',c'⟩⟩
theorem zqK {P:Program} {ops:Array Oper} {o:Oper} {N:Nat} {s:St} {e:Ev} (hgr:∀ t ∈ gsl ops o,t ∈ e.rs) (hw:wnt ops o s.G=some true)
  (h:∀ E s',zcf e s s'→∀ a w A I,Con E N s' a w A I→∃ w' A' I',(execOp a.eval o).run P w = .ok .skip w'∧Con E N (e.patch s') (a.put o.dst undef) w' A' I'):Snd P ops o N s e:=by
 rintro E s' hag a w ⟨A,I,c⟩ K Q hK
 have hw':wnt ops o s'.G=some true:=(zjs hag ops o hgr).trans hw
 unfold wpO
 rw [c.wanted hw',wc rfl]
 obtain ⟨w',A',I',hr,c'⟩:=h E s' hag a w A I c
 exact ⟨fun _ _=>trivial,by rw [zwj hr]; exact hK _ _ ⟨A',I',c'⟩⟩
theorem qm {P:Program} {ops:Array Oper} {o:Oper} {N:Nat} {s:St} (xs:List Operand) (vs:List AV) (v:AV) (hd:dlt o N=true) (hw:wnt ops o s.G=some true)
  (hv:xs.map (opd s.G)=vs.map some)
  (h:∀ (ρ:Operand→Value) w A I,(∀ i,i<xs.length→Rep w A I (vs.getD i .nilptr) (ρ (xs.getD i (.func 0))))→∃ x,(execOp ρ o).run P w = .ok (.value x) w∧Rep w A I v x) :
  Snd P ops o N s ⟨gsl ops o++xs.flatMap opr,o.dst,some v,[],[]⟩:=by
 refine qY (fun t ht=>List.mem_append_left _ ht) hw ?_
 intro E s' hag a w A I c
 have hh:∀ i,i<xs.length→Rep w A I (vs.getD i .nilptr) (a.eval (xs.getD i (.func 0))):=by
  intro i hi
  have hi':i<vs.length:=by have:=congrArg List.length hv; simp at this; omega
  have e1:xs.getD i (.func 0)=xs[i]:=by simp [List.getD,hi]
  have e2:vs.getD i .nilptr=vs[i]:=by simp [List.getD,hi']
  rw [e1,e2]
  refine c.opd ?_
  rw [qo hag xs[i] fun t ht=>List.mem_append_right _ (List.mem_flatMap.2 ⟨xs[i],List.getElem_mem hi,ht⟩)]
  have:=congrArg (fun l=>l[i]?) hv
  simpa [hi,hi'] using this
 obtain ⟨x,hr,hx⟩:=h a.eval w A I hh
 exact ⟨x,w,A,I,hr,c.pure o.dst (some v) x (qA hd) (fun z hz=>by cases hz; exact hx)⟩
section ops
variable {P:Program} {ops:Array Oper} {o:Oper} {N:Nat} {s:St}
theorem zgY (x:Operand) (v:AV) (ho:o.op = .move x) (hd:dlt o N=true) (hw:wnt ops o s.G=some true) (hv:opd s.G x=some v):Snd P ops o N s ⟨gsl ops o++[x].flatMap opr,o.dst,some v,[],[]⟩:=
 qm [x] [v] v hd hw (by simp [hv]) fun ρ w A I h=>⟨ρ x,by simp [execOp,ho,pure],by simpa using h 0 wb⟩
theorem zdq (x:Operand) (v:AV) (ho:o.op = .assign x) (hd:dlt o N=true) (hw:wnt ops o s.G=some true) (hv:opd s.G x=some v):Snd P ops o N s ⟨gsl ops o++[x].flatMap opr,o.dst,some v,[],[]⟩:=
 qm [x] [v] v hd hw (by simp [hv]) fun ρ w A I h=>⟨ρ x,by simp [execOp,ho,pure],by simpa using h 0 wb⟩
theorem zwk (c x y:Operand) (v:AV) (ho:o.op = .pick c x y) (hd:dlt o N=true) (hw:wnt ops o s.G=some true) (hc:opd s.G c=some (.bool true)) (hv:opd s.G x=some v) :
  Snd P ops o N s ⟨gsl ops o++[c,x].flatMap opr,o.dst,some v,[],[]⟩:=
 qm [c,x] [.bool true,v] v hd hw (by simp [hc,hv]) fun ρ w A I h=>by
  have h0:=h 0 wb
  have h1:=h 1 wb
  simp at h0 h1
  generalize hq:ρ c=q at h0
  cases h0
  exact ⟨ρ x,by simp [execOp,ho,hq,asBool],h1⟩
theorem zwl (c x y:Operand) (v:AV) (ho:o.op = .pick c x y) (hd:dlt o N=true) (hw:wnt ops o s.G=some true) (hc:opd s.G c=some (.bool false)) (hv:opd s.G y=some v) :
  Snd P ops o N s ⟨gsl ops o++[c,y].flatMap opr,o.dst,some v,[],[]⟩:=
 qm [c,y] [.bool false,v] v hd hw (by simp [hc,hv]) fun ρ w A I h=>by
  have h0:=h 0 wb
  have h1:=h 1 wb
  simp at h0 h1
  generalize hq:ρ c=q at h0
  cases h0
  exact ⟨ρ y,by simp [execOp,ho,hq,asBool],h1⟩
theorem zwm (x:Operand) (i:Nat) (l:List AV) (v:AV) (ho:o.op = .extract x i) (hd:dlt o N=true) (hw:wnt ops o s.G=some true) (hv:opd s.G x=some (.tup l)) (hi:l[i]? = some v) :
  Snd P ops o N s ⟨gsl ops o++[x].flatMap opr,o.dst,some v,[],[]⟩:=
 qm [x] [.tup l] v hd hw (by simp [hv]) fun ρ w A I h=>by
  have h0:=h 0 wb
  simp at h0
  generalize hq:ρ x=q at h0
  cases h0 with
  | tup _ vs hs hr=>
   have hl:i<l.length:=(List.getElem?_eq_some_iff.1 hi).1
   have:=hr i hl
   have e1:l.getD i .nilptr=v:=by simp [List.getD,hi]
   have e2:vs[i]? = some (vs.getD i undef):=by rw [Array.getD_eq_getD_getElem?,Array.getElem?_eq_getElem (show i<vs.size by omega)]; rfl
   rw [e1] at this
   generalize vs.getD i undef=u at e2 this
   exact ⟨u,by simp [execOp,ho,hq,Instr.extract,e2],this⟩
theorem zwn (x:Operand) (v:AV) (hp:(∃ y off,v = .ptr y off)∨(∃ y sz i off,v = .rptr y sz i off)∨∃ l,v = .iptr l) (ho:o.op = .nilCheck x) (hd:dlt o N=true) (hw:wnt ops o s.G=some true) (hv:opd s.G x=some v) :
  Snd P ops o N s ⟨gsl ops o++[x].flatMap opr,o.dst,some v,[],[]⟩:=
 qm [x] [v] v hd hw (by simp [hv]) fun ρ w A I h=>by
  have h0:=h 0 wb
  simp at h0
  refine ⟨ρ x,?_,h0⟩
  generalize hq:ρ x=q at h0
  rcases hp with ⟨y,off,rfl⟩ | ⟨y,sz,i,off,rfl⟩ | ⟨l,rfl⟩<;>cases h0<;>simp [execOp,ho,hq]
def arith:BinOp→IntKind→Int→Int→Option AV
 | .add,k,x,y=>some (.int k (k.wrap (x+y)))
 | .sub,k,x,y=>some (.int k (k.wrap (x-y)))
 | .mul,k,x,y=>some (.int k (k.wrap (x*y)))
 | .and,k,x,y=>some (.int k (k.wrap (BitVec.ofInt k.bits x &&& BitVec.ofInt k.bits y).toNat))
 | .or,k,x,y=>some (.int k (k.wrap (BitVec.ofInt k.bits x ||| BitVec.ofInt k.bits y).toNat))
 | .xor,k,x,y=>some (.int k (k.wrap (BitVec.ofInt k.bits x ^^^ BitVec.ofInt k.bits y).toNat))
 | .andNot,k,x,y=>some (.int k (k.wrap (BitVec.ofInt k.bits x &&& ~~~BitVec.ofInt k.bits y).toNat))
 | .eql,_,x,y=>some (.bool (x == y))
 | .neq,_,x,y=>some (.bool (x != y))
 | .lss,_,x,y=>some (.bool (decide (x<y)))
 | .leq,_,x,y=>some (.bool (decide (x≤y)))
 | .gtr,_,x,y=>some (.bool (decide (x>y)))
 | .geq,_,x,y=>some (.bool (decide (x≥y)))
 | _,_,_,_=>none
theorem zwo (op:BinOp) (T U:TypeId) (x y:Operand) (k:IntKind) (m n:Int) (v:AV) (ho:o.op = .binOp op T x y U) (hd:dlt o N=true) (hw:wnt ops o s.G=some true)
  (hx:opd s.G x=some (.int k m)) (hy:opd s.G y=some (.int k n)) (hr:arith op k m n=some v):Snd P ops o N s ⟨gsl ops o++[x,y].flatMap opr,o.dst,some v,[],[]⟩:=
 qm [x,y] [.int k m,.int k n] v hd hw (by simp [hx,hy]) fun ρ w A I h=>by
  have h0:=h 0 wb
  have h1:=h 1 wb
  simp at h0 h1
  generalize hq:ρ x=q at h0
  generalize hp:ρ y=p at h1
  cases h0
  cases h1
  cases op<;>simp only [arith,Option.some.injEq,reduceCtorEq] at hr<;>subst hr <;>
   first
    | refine ⟨_,?_,.int k _⟩
    | refine ⟨_,?_,.bool _⟩
  all_goals
   simp only [execOp,ho,hq,hp,eqGuard,binOp,Op.intArith,Op.intBits,Op.intCmp]; simp
theorem zjt (T U:TypeId) (x y:Operand) (k q:IntKind) (m n:Int) (ho:o.op = .binOp .shl T x y U) (hd:dlt o N=true) (hw:wnt ops o s.G=some true)
  (hx:opd s.G x=some (.int k m)) (hy:opd s.G y=some (.int q n)) (hn:0≤n):Snd P ops o N s ⟨gsl ops o++[x,y].flatMap opr,o.dst,some (.int k (k.wrap (m*2 ^ min n.toNat k.bits))),[],[]⟩:=
 qm [x,y] [.int k m,.int q n] _ hd hw (by simp [hx,hy]) fun ρ w A I h=>by
  have h0:=h 0 wb
  have h1:=h 1 wb
  simp at h0 h1
  generalize hq:ρ x=q at h0
  generalize hp:ρ y=p at h1
  cases h0
  cases h1
  have h9:¬n<0:=wa
  exact ⟨_,by simp only [execOp,ho,hq,hp,eqGuard,binOp,Op.shift]; simp [h9],.int _ _⟩
theorem zju (T U:TypeId) (x y:Operand) (k q:IntKind) (m n:Int) (ho:o.op = .binOp .shr T x y U) (hd:dlt o N=true) (hw:wnt ops o s.G=some true)
  (hx:opd s.G x=some (.int k m)) (hy:opd s.G y=some (.int q n)) (hn:0≤n):Snd P ops o N s ⟨gsl ops o++[x,y].flatMap opr,o.dst,some (.int k (m.fdiv (2 ^ min n.toNat k.bits))),[],[]⟩:=
 qm [x,y] [.int k m,.int q n] _ hd hw (by simp [hx,hy]) fun ρ w A I h=>by
  have h0:=h 0 wb
  have h1:=h 1 wb
  simp at h0 h1
  generalize hq:ρ x=q at h0
  generalize hp:ρ y=p at h1
  cases h0
  cases h1
  have h9:¬n<0:=wa
  exact ⟨_,by simp only [execOp,ho,hq,hp,eqGuard,binOp,Op.shift]; simp [h9],.int _ _⟩
theorem zjv (T U:TypeId) (x y:Operand) (k:IntKind) (m n:Int) (ho:o.op = .binOp .quo T x y U) (hd:dlt o N=true) (hw:wnt ops o s.G=some true)
  (hx:opd s.G x=some (.int k m)) (hy:opd s.G y=some (.int k n)) (hn:n≠0):Snd P ops o N s ⟨gsl ops o++[x,y].flatMap opr,o.dst,some (.int k (k.wrap (m.tdiv n))),[],[]⟩:=
 qm [x,y] [.int k m,.int k n] _ hd hw (by simp [hx,hy]) fun ρ w A I h=>by
  have h0:=h 0 wb
  have h1:=h 1 wb
  simp at h0 h1
  generalize hq:ρ x=q at h0
  generalize hp:ρ y=p at h1
  cases h0
  cases h1
  exact ⟨_,by simp only [execOp,ho,hq,hp,eqGuard,binOp,Op.intDiv]; simp [hn],.int _ _⟩
theorem zjw (T U:TypeId) (x y:Operand) (k:IntKind) (m n:Int) (ho:o.op = .binOp .rem T x y U) (hd:dlt o N=true) (hw:wnt ops o s.G=some true)
  (hx:opd s.G x=some (.int k m)) (hy:opd s.G y=some (.int k n)) (hn:n≠0):Snd P ops o N s ⟨gsl ops o++[x,y].flatMap opr,o.dst,some (.int k (m.tmod n)),[],[]⟩:=
 qm [x,y] [.int k m,.int k n] _ hd hw (by simp [hx,hy]) fun ρ w A I h=>by
  have h0:=h 0 wb
  have h1:=h 1 wb
  simp at h0 h1
  generalize hq:ρ x=q at h0
  generalize hp:ρ y=p at h1
  cases h0
  cases h1
  exact ⟨_,by simp only [execOp,ho,hq,hp,eqGuard,binOp,Op.intDiv]; simp [hn],.int _ _⟩
def zjx:UnOp→AV→Option AV
 | .neg,.int k n=>some (.int k (k.wrap (0-n)))
 | .xor,.int k n=>some (.int k (k.wrap (BitVec.ofInt k.bits (if k.signed then -1 else k.max) ^^^ BitVec.ofInt k.bits n).toNat))
 | .not,.bool b=>some (.bool (!b))
 | _,_=>none
theorem zqL (op:UnOp) (T:TypeId) (x:Operand) (u v:AV) (ho:o.op = .unOp op T x) (hd:dlt o N=true) (hw:wnt ops o s.G=some true)
  (hx:opd s.G x=some u) (hr:zjx op u=some v):Snd P ops o N s ⟨gsl ops o++[x].flatMap opr,o.dst,some v,[],[]⟩:=
 qm [x] [u] v hd hw (by simp [hx]) fun ρ w A I h=>by
  have h0:=h 0 wb
  simp at h0
  generalize hq:ρ x=q at h0
  unfold zjx at hr
  split at hr<;>cases hr<;>cases h0
  ·exact ⟨_,by simp only [execOp,ho,hq,Op.unary,Op.intArith]; simp,.int _ _⟩
  ·exact ⟨_,by simp only [execOp,ho,hq,Op.unary,Op.intBits]; simp,.int _ _⟩
  ·exact ⟨_,by simp only [execOp,ho,hq,Op.unary]; simp,.bool _⟩
theorem zqM (T U:TypeId) (x:Operand) (k q:IntKind) (n:Int) (d:TypeDesc) (ho:o.op = .convert T U x) (hT:P.underlying T=some d) (hU:P.underlying U=some (.int q)) (hd:dlt o N=true) (hw:wnt ops o s.G=some true)
  (hx:opd s.G x=some (.int k n)):Snd P ops o N s ⟨gsl ops o++[x].flatMap opr,o.dst,some (.int q (q.wrap n)),[],[]⟩:=
 qm [x] [.int k n] _ hd hw (by simp [hx]) fun ρ w A I h=>by
  have h0:=h 0 wb
  simp at h0
  generalize hq:ρ x=q at h0
  cases h0
  refine ⟨_,?_,.int _ _⟩
  simp only [execOp,ho,hq,convert,Sem.run_bind,run_underlying hT,run_underlying hU,Result.andThen_ok]
  simp [Conv.intToInt]
theorem zwp (f:FuncId) (fx cx:Array Operand) (fs cs:List AV) (ho:o.op = .makeFunc (.func f) fx cx) (hd:dlt o N=true) (hw:wnt ops o s.G=some true)
  (hf:fx.toList.map (opd s.G)=fs.map some) (hc:cx.toList.map (opd s.G)=cs.map some):Snd P ops o N s ⟨gsl ops o++(fx.toList++cx.toList).flatMap opr,o.dst,some (.fn f fs cs),[],[]⟩:=
 qm (fx.toList++cx.toList) (fs++cs) _ hd hw (by simp [hf,hc]) fun ρ w A I h=>by
  have lf:fx.size=fs.length:=by simpa using congrArg List.length hf
  have lc:cx.size=cs.length:=by simpa using congrArg List.length hc
  refine ⟨.func (.func f) (fx.map ρ) (cx.map ρ),by simp [execOp,ho,Instr.makeFunc],.fn f fs cs _ _ (by simpa using lf) (by simpa using lc) ?_ ?_⟩
  ·intro i hi
   have:=h i (by simp; omega)
   have e1:(fx.toList++cx.toList).getD i (.func 0)=fx[i]' wa:=by simp [List.getD,List.getElem?_append,show i<fx.size by omega]
   have e2:(fs++cs).getD i .nilptr=fs.getD i .nilptr:=by simp [List.getD,List.getElem?_append,hi]
   rw [e1,e2] at this
   simpa [Array.getD,show i<fx.size by omega] using this
  ·intro i hi
   have:=h (fx.size+i) (by simp; omega)
   have e1:(fx.toList++cx.toList).getD (fx.size+i) (.func 0)=cx[i]' wa:=by simp [List.getD,List.getElem?_append,show i<cx.size by omega]
   have e2:(fs++cs).getD (fx.size+i) .nilptr=cs.getD i .nilptr:=by simp [List.getD,List.getElem?_append,lf,show ¬(fs.length+i<fs.length) by omega]
   rw [e1,e2] at this
   simpa [Array.getD,show i<cx.size by omega] using this
end ops
end Go.Abs
