/- What each operation does to an abstract state: slicing, elements, built-ins. -/
import Derived.Test.YtjffljhmjdljeaaGreatGammToldAbsH
set_option linter.unusedVariables false
set_option linter.unusedSimpArgs false
namespace Go.Abs
def QF (G:Nat→Option AV) (x:Option Operand) (d:Int):Option Int:=
 match x with
 | none=>some d
 | some y=>match opd G y with
  | some (.int _ n)=>some n
  | _=>none
theorem zwE {P:Program} (w:World) (len cap:Nat) (low high:Option Value) (lo hi:Int)
  (h1:(low=none∧lo=0)∨∃ k,low=some (.int k lo)) (h2:(high=none∧hi=len)∨∃ k,high=some (.int k hi)) (h3:0≤lo) (h4:lo≤hi) (h5:hi≤cap) :
  (Instr.sliceBounds true len cap low high none).run P w = .ok (lo.toNat,hi.toNat,cap) w:=by
 have g1:0≤hi:=wa
 have g2:lo≤(hi.toNat:Int):=wa
 rcases h1 with ⟨rfl,rfl⟩ | ⟨k,rfl⟩<;>rcases h2 with ⟨rfl,rfl⟩ | ⟨k',rfl⟩ <;>
  simp [Instr.sliceBounds,Instr.sliceBound,asIntOf,g1,h3,h4,h5]<;>(try (intro g; exfalso; omega))
theorem zm6 {P:Program} (w:World) (T e sz:Nat) (hT:P.underlying T=some (.slice e)) (hsz:(P.info? e).map (·.size)=some sz) (a:Option Addr) (len cap:Nat) (low high:Option Value) (lo hi:Int)
  (h1:(low=none∧lo=0)∨∃ k,low=some (.int k lo)) (h2:(high=none∧hi=len)∨∃ k,high=some (.int k hi)) (h3:0≤lo) (h4:lo≤hi) (h5:hi≤cap) :
  (Instr.sliceAt T (.slice a len cap) low high none).run P w = .ok (.slice (if cap=lo.toNat then a else a.map (·.add (lo.toNat*sz))) (hi.toNat-lo.toNat) (cap-lo.toNat)) w:=by
 have hso:(sizeOf e).run P w = .ok sz w:=by
  cases hi:P.info? e with
  | none=>rw [hi] at hsz; cases hsz
  | some i=>rw [hi] at hsz; simp [sizeOf,typeInfo,hi]; simpa using hsz
 simp [Instr.sliceAt,run_underlying hT,Instr.slice,zwE w len cap low high lo hi h1 h2 h3 h4 h5,hso]
section ops
variable {P:Program} {ops:Array Oper} {o:Oper} {N:Nat} {s:St}
theorem zjB {E:Ent} {s':St} {a:Act} {w:World} {A:Nat→Option Nat} {I:Nat→Prop} (c:Con E N s' a w A I) {e:Ev} (hag:zcf e s s') (x:Option Operand) (d n:Int) (h:QF s.G x d=some n)
  (hr:∀ t ∈ x.toList.flatMap opr,t ∈ e.rs):(x.map a.eval=none∧n=d)∨∃ k,x.map a.eval=some (.int k n):=by
 cases x with
 | none=>simp [QF] at h; exact .inl ⟨rfl,h.symm⟩
 | some y=>
  unfold QF at h
  dsimp only at h
  cases hy:opd s.G y with
  | none=>rw [hy] at h; cases h
  | some v=>
   rw [hy] at h
   cases v with
   | int k m=>
    simp only [Option.some.injEq] at h
    subst h
    have:=c.opd ((qo hag y fun t ht=>hr t (by simpa using ht)).trans hy)
    generalize hq:a.eval y=q at this
    cases this
    exact .inr ⟨k,by simp [hq]⟩
   | _=>cases h
theorem zqY (T e sz:Nat) (x:Operand) (low high:Option Operand) (els:List (List AV)) (lo hi:Int) (ho:o.op = .slice T x low high none) (hT:P.underlying T=some (.slice e)) (hsz:(P.info? e).map (·.size)=some sz)
  (hd:dlt o N=true) (hw:wnt ops o s.G=some true) (hx:opd s.G x=some (.sl els)) (hlo:QF s.G low 0=some lo) (hhi:QF s.G high els.length=some hi) (hev:Even sz els) (h3:0≤lo) (h4:lo≤hi) (h5:hi≤els.length) :
  Snd P ops o N s ⟨gsl ops o++(x :: (low.toList++high.toList)).flatMap opr,o.dst,some (.sl ((els.take hi.toNat).drop lo.toNat)),[],[]⟩:=by
 refine qY (fun t ht=>List.mem_append_left _ ht) hw ?_
 intro E s' hag a w A I c
 have hx':=c.opd ((qo hag x fun t ht=>List.mem_append_right _ (by simp; exact .inl ht)).trans hx)
 have hl:=zjB c hag low 0 lo hlo fun t ht=>List.mem_append_right _ (by simp at ht ⊢; exact .inr (.inl ht))
 have hh:=zjB c hag high els.length hi hhi fun t ht=>List.mem_append_right _ (by simp at ht ⊢; exact .inr (.inr ht))
 have hlen:((els.take hi.toNat).drop lo.toNat).length=hi.toNat-lo.toNat:=by simp; omega
 generalize hq:a.eval x=q at hx'
 cases hx' with
 | sl0 b cap=>
  simp at h5
  have hlo0:lo=0:=wa
  have hhi0:hi=0:=wa
  subst hlo0 hhi0
  refine ⟨_,w,A,I,by simp only [execOp,ho,hq,Sem.run_bind,Option.map_none,zm6 w T e sz hT hsz b 0 cap _ _ 0 0 hl hh wa wa wa]; rfl,c.pure o.dst _ _ (qA hd) fun v hv=>?_⟩
  cases hv
  simpa using Rep.sl0 _ _
 | sl _ sz' b off cap arr U fr hI hb h0 hc hs hz hr=>
  have hszz:sz'=sz:=by
   have h1:=Q2 hs h0
   have h2:=Q2 hev h0
   omega
  subst hszz
  refine ⟨_,w,A,I,by simp only [execOp,ho,hq,Sem.run_bind,Option.map_none,zm6 w T e _ hT hsz _ _ cap _ _ lo hi hl hh h3 h4 wa]; rfl,c.pure o.dst _ _ (qA hd) fun v hv=>?_⟩
  cases hv
  by_cases he:hi.toNat-lo.toNat=0
  ·have:(els.take hi.toNat).drop lo.toNat=[]:=List.eq_nil_of_length_eq_zero wa
   rw [this,he]; exact .sl0 _ _
  ·rw [← hlen,we wa]
   have hz':off+lo.toNat*sz'+(hi.toNat-lo.toNat)*sz'≤off+els.length*sz':=by
    rw [Nat.add_assoc,← Nat.add_mul]
    exact Nat.add_le_add_left (Nat.mul_le_mul_right _ wa) _
   have:=Rep.sl (w:=w) (A:=A) (I:=I) ((els.take hi.toNat).drop lo.toNat) sz' b (off+lo.toNat*sz') (cap-lo.toNat) arr U fr hI hb wa wa (fun e he=>hs e (List.mem_of_mem_take (List.mem_of_mem_drop he))) (by rw [hlen]; omega) ?_
   ·simpa [Addr.add_mid] using this
   ·intro i j hii hj
    have hg:(((els.take hi.toNat).drop lo.toNat).getD i [])=els.getD (lo.toNat+i) []:=by
     simp only [List.getD,List.getElem?_drop]
     rw [List.getElem?_take_of_lt wa]
    rw [hg]
    have:=hr (lo.toNat+i) j wa hj
    rw [Nat.add_mul] at this
    have e2:off+lo.toNat*sz'+(i*sz'+j)=off+(lo.toNat*sz'+i*sz'+j):=wa
    rw [e2]; exact this
theorem zqZ (T e sz:Nat) (x:Operand) (low high:Option Operand) (z off n:Nat) (lo hi:Int) (ho:o.op = .slice T x low high none) (hT:P.underlying T=some (.slice e)) (hsz:(P.info? e).map (·.size)=some sz)
  (hd:dlt o N=true) (hw:wnt ops o s.G=some true) (hx:opd s.G x=some (.row z sz off n)) (hlo:QF s.G low 0=some lo) (hhi:QF s.G high n=some hi) (h3:0≤lo) (h4:lo≤hi) (h5:hi≤n) :
  Snd P ops o N s ⟨gsl ops o++(x :: (low.toList++high.toList)).flatMap opr,o.dst,some (.row z sz (off+lo.toNat) (hi.toNat-lo.toNat)),[],[]⟩:=by
 refine qY (fun t ht=>List.mem_append_left _ ht) hw ?_
 intro E s' hag a w A I c
 have hx':=c.opd ((qo hag x fun t ht=>List.mem_append_right _ (by simp; exact .inl ht)).trans hx)
 have hl:=zjB c hag low 0 lo hlo fun t ht=>List.mem_append_right _ (by simp at ht ⊢; exact .inr (.inl ht))
 have hh:=zjB c hag high n hi hhi fun t ht=>List.mem_append_right _ (by simp at ht ⊢; exact .inr (.inr ht))
 generalize hq:a.eval x=q at hx'
 cases hx' with
 | row _ _ _ _ cap b arr U fr ad hA hb hn ha hc hm=>
  refine ⟨_,w,A,I,by simp only [execOp,ho,hq,Sem.run_bind,Option.map_none,zm6 w T e _ hT hsz _ _ cap _ _ lo hi hl hh h3 h4 wa]; rfl,c.pure o.dst _ _ (qA hd) fun v hv=>?_⟩
  cases hv
  refine .row z sz _ _ (cap-lo.toNat) b arr U fr _ hA hb wa (fun hcp=>?_) ?_ wa
  ·rw [we wa,ha wa]
   simp [Addr.add_mid,Nat.add_mul]
  ·rw [← hc]; congr 1; omega
theorem zq0 {P:Program} (w:World) (T e sz:Nat) (hT:P.underlying T=some (.slice e)) (hsz:(P.info? e).map (·.size)=some sz) (a:Addr) (len cap:Nat) (k:IntKind) (i:Int) (h0:0≤i) (h1:i<len) :
  (Instr.indexAt T (.slice (some a) len cap) (.int k i)).run P w = .ok (.pointer (some (a.add (i.toNat*sz)))) w:=by
 have hso:(sizeOf e).run P w = .ok sz w:=by
  cases hi:P.info? e with
  | none=>rw [hi] at hsz; cases hsz
  | some i=>rw [hi] at hsz; simp [sizeOf,typeInfo,hi]; simpa using hsz
 simp [Instr.indexAt,asIntOf,run_underlying hT,h0,h1,hso]
theorem zq1 (T e sz:Nat) (x y:Operand) (els:List (List AV)) (k:IntKind) (i:Int) (ho:o.op = .indexAddr T x y) (hT:P.underlying T=some (.slice e)) (hsz:(P.info? e).map (·.size)=some sz)
  (hd:dlt o N=true) (hw:wnt ops o s.G=some true) (hx:opd s.G x=some (.sl els)) (hy:opd s.G y=some (.int k i)) (hev:Even sz els) (h0:0≤i) (h1:i<els.length) :
  Snd P ops o N s ⟨gsl ops o++[x,y].flatMap opr,o.dst,some (.iptr (els.getD i.toNat [])),[],[]⟩:=
 qm [x,y] [.sl els,.int k i] _ hd hw (by simp [hx,hy]) fun ρ w A I h=>by
  have g0:=h 0 wb
  have g1:=h 1 wb
  simp at g0 g1
  generalize hq:ρ x=q at g0
  generalize hp:ρ y=p at g1
  cases g1
  cases g0 with
  | sl0 b cap=>simp at h1; omega
  | sl _ sz' b off cap arr U fr hI hb hl hc hs hz hr=>
   have hi':i.toNat<els.length:=wa
   have hszz:sz'=sz:=by
    have h1:=Q2 hs hi'
    have h2:=Q2 hev hi'
    omega
   subst hszz
   have hle:i.toNat*sz'+sz'≤els.length*sz':=Zo hi' (Nat.le_refl _)
   have he:=Q2 hs hi'
   refine ⟨_,by simp only [execOp,ho,hq,hp,Sem.run_bind,zq0 w T e _ hT hsz _ _ cap k i h0 h1]; rfl,?_⟩
   rw [Addr.add_mid]
   refine .iptr _ b _ arr U fr hI hb wa fun j hj=>?_
   have:=hr i.toNat j hi' wa
   rw [Nat.add_assoc]; exact this
theorem qb (T e sz:Nat) (x y:Operand) (z off n:Nat) (k:IntKind) (i:Int) (ho:o.op = .indexAddr T x y) (hT:P.underlying T=some (.slice e)) (hsz:(P.info? e).map (·.size)=some sz)
  (hd:dlt o N=true) (hw:wnt ops o s.G=some true) (hx:opd s.G x=some (.row z sz off n)) (hy:opd s.G y=some (.int k i)) (h0:0≤i) (h1:i<n) :
  Snd P ops o N s ⟨gsl ops o++[x,y].flatMap opr,o.dst,some (.rptr z sz (off+i.toNat) 0),[],[]⟩:=
 qm [x,y] [.row z sz off n,.int k i] _ hd hw (by simp [hx,hy]) fun ρ w A I h=>by
  have g0:=h 0 wb
  have g1:=h 1 wb
  simp at g0 g1
  generalize hq:ρ x=q at g0
  generalize hp:ρ y=p at g1
  cases g1
  cases g0 with
  | row _ _ _ _ cap b arr U fr ad hA hb hn ha hc hm=>
   have had:=ha wa
   subst had
   refine ⟨_,by simp only [execOp,ho,hq,hp,Sem.run_bind,zq0 w T e _ hT hsz _ _ cap k i h0 h1]; rfl,?_⟩
   rw [Addr.add_mid,← Nat.add_mul]
   exact .rptr z sz (off+i.toNat) 0 b hA
theorem zwF (T:Nat) (x y:Operand) (t:ByteArray) (k:IntKind) (i:Int) (b:UInt8) (ho:o.op = .index T x y) (hT:P.underlying T=some .string)
  (hd:dlt o N=true) (hw:wnt ops o s.G=some true) (hx:opd s.G x=some (.str t)) (hy:opd s.G y=some (.int k i)) (h0:0≤i) (h1:t[i.toNat]? = some b) :
  Snd P ops o N s ⟨gsl ops o++[x,y].flatMap opr,o.dst,some (.int .u8 b.toNat),[],[]⟩:=
 qm [x,y] [.str t,.int k i] _ hd hw (by simp [hx,hy]) fun ρ w A I h=>by
  have g0:=h 0 wb
  have g1:=h 1 wb
  simp at g0 g1
  generalize hq:ρ x=q at g0
  generalize hp:ρ y=p at g1
  cases g1
  cases g0
  exact ⟨_,by simp [execOp,ho,hq,hp,Instr.index,asIntOf,run_underlying hT,h0,h1],.int _ _⟩
theorem zwG (S k fo n T:Nat) (y:Operand) (cs:List AV) (fields:Array Field) (f:Field) (ho:o.op = .field S y k) (hS:P.underlying S=some (.struct fields)) (hf:fields[k]? = some f) (hfo:f.offset=fo) (hft:f.type=T)
  (hT:Agg P T n) (hd:dlt o N=true) (hw:wnt ops o s.G=some true) (hy:opd s.G y=some (.agg cs)) (hl:fo+n≤cs.length) :
  Snd P ops o N s ⟨gsl ops o++[y].flatMap opr,o.dst,some (ldA cs fo n),[],[]⟩:=
 qm [y] [.agg cs] _ hd hw (by simp [hy]) fun ρ w A I h=>by
  have h0:=h 0 wb
  simp at h0
  generalize hq:ρ y=q at h0
  obtain ⟨d,h1,h2,h3⟩:=hT
  subst hfo hft
  have hagg:(isAgg f.type).run P w = .ok true w:=by
   unfold isAgg
   rw [Sem.run_bind,run_underlying h1 w]
   cases d<;>simp_all
  have hso:(sizeOf f.type).run P w = .ok n w:=by
   cases hi:P.info? f.type with
   | none=>rw [hi] at h3; cases h3
   | some i=>rw [hi] at h3; simp [sizeOf,typeInfo,hi]; simpa using h3
  cases h0 with
  | agg _ vs hs hr=>
   refine ⟨.agg (vs.extract f.offset (f.offset+n)),by simp [execOp,ho,hq,Instr.field,run_underlying hS,hf,asAgg,part,hagg,hso],.agg _ _ (by simp; omega) fun i hi=>?_⟩
   have hin:i<n:=by simp at hi; omega
   rw [zqO _ _ _ _ hin,zmY _ _ _ _ hin wa]
   exact hr (f.offset+i) wa
theorem zwH (S k fo T:Nat) (y:Operand) (cs:List AV) (fields:Array Field) (f:Field) (ho:o.op = .field S y k) (hS:P.underlying S=some (.struct fields)) (hf:fields[k]? = some f) (hfo:f.offset=fo) (hft:f.type=T)
  (hT:Sca P T) (hd:dlt o N=true) (hw:wnt ops o s.G=some true) (hy:opd s.G y=some (.agg cs)) (hl:fo<cs.length) :
  Snd P ops o N s ⟨gsl ops o++[y].flatMap opr,o.dst,some (ldS cs fo),[],[]⟩:=
 qm [y] [.agg cs] _ hd hw (by simp [hy]) fun ρ w A I h=>by
  have h0:=h 0 wb
  simp at h0
  generalize hq:ρ y=q at h0
  obtain ⟨d,h1,h2,h3⟩:=hT
  subst hfo hft
  have hagg:(isAgg f.type).run P w = .ok false w:=by
   unfold isAgg
   rw [Sem.run_bind,run_underlying h1 w]
   cases d<;>simp_all
  cases h0 with
  | agg _ vs hs hr=>
   have hv:vs[f.offset]? = some (vs.getD f.offset undef):=by rw [Array.getD_eq_getD_getElem?,Array.getElem?_eq_getElem (show f.offset<vs.size by omega)]; rfl
   have hrr:=hr f.offset hl
   generalize vs.getD f.offset undef=u at hv hrr
   exact ⟨u,by simp [execOp,ho,hq,Instr.field,run_underlying hS,hf,asAgg,part,hagg,hv],hrr⟩
def zq2:AV→Option Int
 | .sl els=>some els.length
 | .row _ _ _ n=>some n
 | .nilsl=>some 0
 | _=>none
theorem zeK (T e:Nat) (x:Operand) (v:AV) (n:Int) (ho:o.op = .call ⟨.builtin .len,#[x],#[T]⟩) (hT:P.underlying T=some (.slice e)) (hd:dlt o N=true) (hw:wnt ops o s.G=some true)
  (hx:opd s.G x=some v) (hn:zq2 v=some n):Snd P ops o N s ⟨gsl ops o++[x].flatMap opr,o.dst,some (.int .i64 n),[],[]⟩:=
 qm [x] [v] _ hd hw (by simp [hx]) fun ρ w A I h=>by
  have h0:=h 0 wb
  simp at h0
  generalize hq:ρ x=q at h0
  unfold zq2 at hn
  split at hn<;>cases hn<;>cases h0 <;>
   exact ⟨_,by simp [execOp,ho,hq,resolve,invoke,builtin,Builtin.len_,run_underlying hT,goInt]; rfl,by first | exact .int _ _ | exact .int .i64 0⟩
def mn (a b:Int):Int:=if b<a then b else a
def mx (a b:Int):Int:=if b>a then b else a
theorem zwI (tys:Array TypeId) (x y:Operand) (k:IntKind) (m n:Int) (ho:o.op = .call ⟨.builtin .min,#[x,y],tys⟩) (hd:dlt o N=true) (hw:wnt ops o s.G=some true)
  (hx:opd s.G x=some (.int k m)) (hy:opd s.G y=some (.int k n)):Snd P ops o N s ⟨gsl ops o++[x,y].flatMap opr,o.dst,some (.int k (mn m n)),[],[]⟩:=
 qm [x,y] [.int k m,.int k n] _ hd hw (by simp [hx,hy]) fun ρ w A I h=>by
  have h0:=h 0 wb
  have h1:=h 1 wb
  simp at h0 h1
  generalize hq:ρ x=q at h0
  generalize hp:ρ y=p at h1
  cases h0
  cases h1
  exact ⟨.int k (mn m n),by simp [execOp,ho,hq,hp,resolve,invoke,builtin,Builtin.min_,Builtin.min2,mn],.int _ _⟩
theorem zwJ (tys:Array TypeId) (x y:Operand) (k:IntKind) (m n:Int) (ho:o.op = .call ⟨.builtin .max,#[x,y],tys⟩) (hd:dlt o N=true) (hw:wnt ops o s.G=some true)
  (hx:opd s.G x=some (.int k m)) (hy:opd s.G y=some (.int k n)):Snd P ops o N s ⟨gsl ops o++[x,y].flatMap opr,o.dst,some (.int k (mx m n)),[],[]⟩:=
 qm [x,y] [.int k m,.int k n] _ hd hw (by simp [hx,hy]) fun ρ w A I h=>by
  have h0:=h 0 wb
  have h1:=h 1 wb
  simp at h0 h1
  generalize hq:ρ x=q at h0
  generalize hp:ρ y=p at h1
  cases h0
  cases h1
  exact ⟨.int k (mx m n),by simp [execOp,ho,hq,hp,resolve,invoke,builtin,Builtin.max_,Builtin.max2,mx],.int _ _⟩
end ops
end Go.Abs
