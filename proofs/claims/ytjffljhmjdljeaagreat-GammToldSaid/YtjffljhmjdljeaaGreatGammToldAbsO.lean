/- Some more operations: slices against nil, of nothing; rows that are told whole. -/
import Derived.Test.YtjffljhmjdljeaaGreatGammToldAbsN
import Derived.Scope
set_option linter.unusedVariables false
set_option linter.unusedSimpArgs false
namespace Go.Abs
theorem ZO {α:Type} {K:Kd α} {E:Ent} {N t:Nat} {L:List (Nat × Option AV)} {M:List (Nat × VS)} {a:Act} {w:World} {l:List α} (h:Conc E N (mkS ((t,some (slK K ((l.drop 0).take l.length))) :: L) M) a w) :
  Conc E N (mkS ((t,some (slK K l)) :: L) M) a w:=by
 have e:(l.drop 0).take l.length=l:=wb
 rw [e] at h; exact h
section
variable {P:Program} {E:Ent} {N:Nat} {R:Type} {q:Option R} {s:St} {Q:R→Exit→Act→World→Prop}
theorem zeN {P:Program} {b:Frame} {a:Act} {k:List Item} {cs:List Frame} {w:World} {c:Code} : step P (lone (b.atR a (.code (.scope c) :: k)) cs w) = .next (lone (b.atR a (.code c :: .inScope c :: k)) cs w):=
 step_lone_go (by simp [stepG,stepG.exec,Frame.atR])
theorem zxc {P:Program} {b:Frame} {a:Act} {k:List Item} {cs:List Frame} {w:World} {c:Code} : step P (lone (b.atR a (.inScope c :: k)) cs w) = .next (lone (b.atR a k) cs w):=
 step_lone_go (by simp [stepG,stepG.exec,Frame.atR])
theorem zxd {F:Fence} {n:Nat} {P:Program} {a:Act} {w:World} {Q:Exit→Act→World→Prop} {c:Code} (h:c.wpIn F n P (Exit.noGoto Q) a w):(Code.scope c).wpIn F n P Q a w:=by
 intro b k cs hro hb hr
 have h0:(lone (b.atR a (.code (.scope c) :: k)) cs w).fenced P F:=fenced_calm hb hr rfl
 obtain ⟨e,a₁,w₁,hq,harr⟩:=h b (.inScope c :: k) cs hro hb hr
 have hx:∀ id,exitTo id (.inScope c :: k)=exitTo id k:=fun id=>by simp [exitTo]
 cases e with
 | normal=>exact ⟨.normal,a₁,w₁,hq,.head h0 zeN (StepsIn.trans harr (.one (fenced_calm hb hr rfl) zxc))⟩
 | exit id=>
  exact ⟨.exit id,a₁,w₁,hq,fun k' hk=>.head h0 zeN (harr.1 k' ((hx id).trans hk)),
   fun hr' hk=>let ⟨k₁,h1,h2⟩:=harr.2 hr' ((hx id).trans hk); ⟨k₁,h1,.head h0 zeN h2⟩⟩
 | goto l=>exact hq.elim
 | ret=>exact ⟨_,a₁,w₁,hq,.of_steps (.one h0 zeN) harr⟩
 | panic ch=>exact ⟨_,a₁,w₁,hq,.of_steps (.one h0 zeN) harr⟩
 | outgrown=>exact ⟨_,a₁,w₁,hq,.of_steps (.one h0 zeN) harr⟩
theorem T.scope {c:Code} (h:T P E N q c s fun r=>Exit.noGoto (Q r)):T P E N q (.scope c) s Q:=fun r hr a w hc=>zxd (h r hr a w hc)
theorem TQ.scope (h:TQ E N q .normal s Q):TQ E N q .normal s fun r=>Exit.noGoto (Q r):=h
theorem TQ.scope_exit {i:Nat} (h:TQ E N q (.exit i) s Q):TQ E N q (.exit i) s fun r=>Exit.noGoto (Q r):=h
theorem TQ.scope_ret (h:TQ E N q .ret s Q):TQ E N q .ret s fun r=>Exit.noGoto (Q r):=h
end
section ops
variable {P:Program} {ops:Array Oper} {o:Oper} {N:Nat} {s:St} {α:Type}
theorem qc {rs:List Nat} {d:Option Nat} {x sz i j off:Nat} (h:Snd P ops o N s ⟨rs,d,some (.rptr x sz i off),[],[]⟩) (e:i=j):Snd P ops o N s ⟨rs,d,some (.rptr x sz j off),[],[]⟩:=by
 subst e; exact h
theorem zrh {i:Int} {t:ByteArray} {b:UInt8} (h:(if 0≤i then t[i.toNat]? else none)=some b):0≤i:=by
 by_cases hi:0≤i
 ·exact hi
 ·rw [we hi] at h; cases h
theorem zxe {i:Int} {t:ByteArray} {b:UInt8} (h:(if 0≤i then t[i.toNat]? else none)=some b):t[i.toNat]? = some b:=by
 rw [wc (zrh h)] at h; exact h
theorem zeO (j:Nat) (T e sz:Nat) (x y:Operand) (els:List (List AV)) (k:IntKind) (i:Int) (ho:o.op = .indexAddr T x y) (hT:P.underlying T=some (.slice e)) (hsz:(P.info? e).map (·.size)=some sz)
  (hd:dlt o N=true) (hw:wnt ops o s.G=some true) (hx:opd s.G x=some (.sl els)) (hy:opd s.G y=some (.int k i)) (hev:Even sz els) (hj:Nat.ble (j+1) els.length=true) (hi:i=j) {c:List AV} (hc:els.getD j []=c) :
  Snd P ops o N s ⟨gsl ops o++[x,y].flatMap opr,o.dst,some (.iptr c),[],[]⟩:=by
 subst hi hc
 have:=Nat.le_of_ble_eq_true hj
 exact zq1 T e sz x y els k j ho hT hsz hd hw hx hy hev wa wa
theorem zxf (T U:TypeId) (x y:Operand) (b c:Bool) (ho:o.op = .binOp .eql T x y U) (hT:P.underlying T=some .bool) (hd:dlt o N=true) (hw:wnt ops o s.G=some true)
  (hx:opd s.G x=some (.bool b)) (hy:opd s.G y=some (.bool c)):Snd P ops o N s ⟨gsl ops o++[x,y].flatMap opr,o.dst,some (.bool (b == c)),[],[]⟩:=
 qm [x,y] [.bool b,.bool c] _ hd hw (by simp [hx,hy]) fun ρ w A I h=>by
  have h0:=h 0 wb
  have h1:=h 1 wb
  simp at h0 h1
  generalize hq:ρ x=q at h0
  generalize hp:ρ y=p at h1
  cases h0
  cases h1
  obtain ⟨m,hm⟩:∃ m,Op.maxDepth=m+1:=⟨9999,rfl⟩
  exact ⟨_,by simp [execOp,ho,hq,hp,eqGuard,binOp,Op.equal,hm,Op.equalIn,run_underlying hT],.bool _⟩
theorem zxg (T U:TypeId) (x y:Operand) (b c:Bool) (ho:o.op = .binOp .neq T x y U) (hT:P.underlying T=some .bool) (hd:dlt o N=true) (hw:wnt ops o s.G=some true)
  (hx:opd s.G x=some (.bool b)) (hy:opd s.G y=some (.bool c)):Snd P ops o N s ⟨gsl ops o++[x,y].flatMap opr,o.dst,some (.bool (b != c)),[],[]⟩:=
 qm [x,y] [.bool b,.bool c] _ hd hw (by simp [hx,hy]) fun ρ w A I h=>by
  have h0:=h 0 wb
  have h1:=h 1 wb
  simp at h0 h1
  generalize hq:ρ x=q at h0
  generalize hp:ρ y=p at h1
  cases h0
  cases h1
  obtain ⟨m,hm⟩:∃ m,Op.maxDepth=m+1:=⟨9999,rfl⟩
  exact ⟨_,by simp [execOp,ho,hq,hp,eqGuard,binOp,Op.equal,hm,Op.equalIn,run_underlying hT]; cases b<;>cases c<;>rfl,.bool (b != c)⟩
theorem zxh (T e U:TypeId) (x y:Operand) (els:List (List AV)) (ho:o.op = .binOp .eql T x y U) (hT:P.underlying T=some (.slice e)) (hd:dlt o N=true) (hw:wnt ops o s.G=some true)
  (hx:opd s.G x=some (.sl els)) (h0:0<els.length) (hy:opd s.G y=some .nilsl):Snd P ops o N s ⟨gsl ops o++[x,y].flatMap opr,o.dst,some (.bool false),[],[]⟩:=
 qm [x,y] [.sl els,.nilsl] _ hd hw (by simp [hx,hy]) fun ρ w A I h=>by
  have g0:=h 0 wb
  have g1:=h 1 wb
  simp at g0 g1
  generalize hq:ρ x=q at g0
  generalize hp:ρ y=p at g1
  cases g1
  obtain ⟨m,hm⟩:∃ m,Op.maxDepth=m+1:=⟨9999,rfl⟩
  cases g0 with
  | sl0=>simp at h0
  | sl=>exact ⟨_,by simp [execOp,ho,hq,hp,eqGuard,binOp,Op.equal,hm,Op.equalIn,run_underlying hT],.bool _⟩
theorem TR.sl_nil {E:Ent} {R:Type} {q:Option R} {Q:R→Exit→Act→World→Prop} {L:List (Nat × Option AV)} {M:List (Nat × VS)} {l:List Oper} (d:Nat) (T e U:TypeId) (x y:Operand) (ho:o.op = .binOp .eql T x y U) (hT:P.underlying T=some (.slice e)) (hdd:o.dst=some d) (hd:dlt o N=true)
  (hw:wnt ops o (lk L)=some true) (hx:opd (lk L) x=some (.sl [])) (hy:opd (lk L) y=some .nilsl) (h:∀ b,TR P E N ops q l (mkS ((d,some (.bool b)) :: L) M) Q):TR P E N ops q (o :: l) (mkS L M) Q:=by
 intro r hr a w hc
 obtain ⟨A,I,c⟩:=hc
 have hx':=c.opd (s:=mkS L M) hx
 have hy':=c.opd (s:=mkS L M) hy
 have hw':=c.wanted (s:=mkS L M) hw
 unfold wpListIn
 rw [wc hw']
 generalize hq:a.eval x=u at hx'
 generalize hp:a.eval y=v at hy'
 cases hy'
 obtain ⟨m,hm⟩:∃ m,Op.maxDepth=m+1:=⟨9999,rfl⟩
 have key:∀ b:Bool,(execOp a.eval o).run P w = .ok (.value (.bool b)) w→o.wpIn E.F 0 P a w (wpListIn E.F 0 P ops (Q r) l) (Q r):=by
  intro b hb
  refine ⟨fun _ _=>trivial,?_⟩
  rw [zqJ hb]
  show wpListIn E.F 0 P ops (Q r) l (a.put o.dst (.bool b)) w
  refine h b r hr _ w ⟨A,I,?_⟩
  have:=c.pure o.dst (some (.bool b)) (.bool b) (qA hd) (fun z hz=>by cases hz; exact .bool b)
  rw [hdd] at this ⊢
  unfold St.set mkS at this
  simp only [zmT] at this
  exact this
 cases hx' with
 | sl0 ad cap=>
  cases ad with
  | none=>exact key true (by simp [execOp,ho,hq,hp,eqGuard,binOp,Op.equal,hm,Op.equalIn,run_underlying hT])
  | some ad=>exact key false (by simp [execOp,ho,hq,hp,eqGuard,binOp,Op.equal,hm,Op.equalIn,run_underlying hT])
 | sl _ _ _ _ _ _ _ _ _ _ h0=>simp at h0
theorem T.cond_any {E:Ent} {R:Type} {q:Option R} {Q:R→Exit→Act→World→Prop} {c:Operand} {x y:Code} {b:Bool} (hc:opd s.G c=some (.bool b)) (ht:T P E N q x s Q) (hf:T P E N q y s Q):T P E N q (.cond c x y) s Q:=by
 have:=T.cond (ot:=q) (oe:=q) (x:=x) (y:=y) hc (fun _=>ht) (fun _=>hf)
 simpa using this
theorem zri (K:Kd α) (T e z:Nat) (ho:o.op = .buildSlice T 0 #[]) (hT:P.underlying T=some (.slice e)) (hsz:(P.info? e).map (·.size)=some K.sz) (hd:dlt o N=true) (hw:wnt ops o s.G=some true) (hfr:s.V z = .fresh) :
  Snd P ops o N s ⟨gsl ops o,o.dst,some (.row z K.sz 0 ([]:List α).length),[z],[(z,rwK K e [])]⟩:=by
 refine qY (fun t ht=>ht) hw ?_
 intro E s' hag a w A I c
 have hz':s'.V z = .fresh:=(hag.2 z wb).trans hfr
 have hso:(sizeOf e).run P w = .ok K.sz w:=by
  cases hi:P.info? e with
  | none=>rw [hi] at hsz; cases hsz
  | some i=>rw [hi] at hsz; simp [sizeOf,typeInfo,hi]; simpa using hsz
 refine ⟨.slice (some ⟨w.heap.size,0,none⟩) 0 0,w.alloc (.cells #[] e (0,0)),upd A z (some w.heap.size),I,?_,c.alloc z hz' (.cells #[] e (0,0)) (rwK K e []) o.dst (some (.row z K.sz 0 0)) _ (qA hd) (fun v hv=>?_) fun u=>?_⟩
 ·have hrun:(Instr.buildSlice T 0 #[]).run P w = .ok (.slice (some ⟨w.heap.size,0,none⟩) 0 0) (w.alloc (.cells #[] e (0,0))):=by
   unfold Instr.buildSlice
   have hz0:∀ d:Value,(Array.range 0).map (fun _=>d) = #[]:=fun d=>wb
   simp [Sem.run_bind,run_underlying hT,hso,Instr.fill,newRow,newObj]
   rw [hz0]
   rfl
  simp only [execOp,ho,Sem.run_bind]
  simp only [List.map_toArray,List.map_nil]
  rw [hrun]
  simp
 ·cases hv
  exact .row z K.sz 0 0 0 w.heap.size #[] e (0,0) _ (zT _ _ _) (QE w _) (Nat.le_refl _) (fun h=>wa) wb wb
 ·exact ⟨w.heap.size,#[],zT _ _ _,QE w _,fun e he=>by simp at he,wb,fun p j hp=>by simp at hp,fun h=>Nat.lt_irrefl _ (c.imm _ h),.inr c.frm.size⟩
theorem zxi (K:Kd α) (T e:Nat) (x y:Operand) (z n:Nat) (ho:o.op = .call ⟨.builtin .append,#[x,y],#[T,T]⟩) (hT:P.underlying T=some (.slice e)) (hsz:(P.info? e).map (·.size)=some K.sz) (hd:dlt o N=true) (hw:wnt ops o s.G=some true)
  (hx:opd s.G x=some (.row z K.sz 0 n)) (hy:opd s.G y=some (slK K [])):Snd P ops o N s ⟨gsl ops o++[x,y].flatMap opr,o.dst,some (.row z K.sz 0 n),[],[]⟩:=
 qm [x,y] [.row z K.sz 0 n,slK K []] _ hd hw (by simp [hx,hy]) fun ρ w A I h=>by
  have h0:=h 0 wb
  have h1:=h 1 wb
  simp at h0 h1
  have hso:(sizeOf e).run P w = .ok K.sz w:=by
   cases hi:P.info? e with
   | none=>rw [hi] at hsz; cases hsz
   | some i=>rw [hi] at hsz; simp [sizeOf,typeInfo,hi]; simpa using hsz
  refine ⟨ρ x,?_,h0⟩
  generalize hq:ρ x=q at h0
  generalize hp:ρ y=p at h1
  have hfirst:∀ (b:Option Addr) (cap:Nat),(Builtin.firstCells K.sz 0 (.slice b 0 cap)).run P w = .ok #[] w:=by
   intro b cap
   cases b with
   | none=>simp [Builtin.firstCells]
   | some b=>simpa using run_firstCells_some (P:=P) w K.sz 0 b 0 cap [] wb (fun j v h=>by simp at h)
  cases h0 with
  | row _ _ _ _ capx b arr U fr adx hA hb hnc ha hc hm=>
   have hlz:∀ p,Rep w A I (slK K []) p→∃ ad cap,p = .slice ad 0 cap:=by
    intro p hp
    unfold slK at hp
    simp only [List.map_nil] at hp
    cases hp with
    | sl0 ad cap=>exact ⟨ad,cap,rfl⟩
    | sl _ _ _ _ _ _ _ _ _ _ h0=>simp at h0
   obtain ⟨ad,cap,rfl⟩:=hlz p h1
   have hrun:(Builtin.append_ #[T,T] o.type #[.slice adx n capx,.slice ad 0 cap]).run P w = .ok (.slice adx n capx) w:=by
    unfold Builtin.append_
    simp only [List.getElem?_toArray,List.getElem?_cons_zero,List.getElem?_cons_succ]
    cases adx with
    | none=>simp [Sem.run_bind,run_underlying hT,hso,Builtin.lenOf,hfirst,hnc]
    | some adv=>simp [Sem.run_bind,run_underlying hT,hso,Builtin.lenOf,hfirst,hnc,storeCells]
   simp only [execOp,ho,resolve,invoke,builtin,Sem.run_bind,Sem.run_pure,Result.andThen_ok]
   have e1:Array.map ρ #[x,y] = #[.slice adx n capx,.slice ad 0 cap]:=by simp [hq,hp]
   rw [e1,hrun]
   simp
end ops
end Go.Abs
