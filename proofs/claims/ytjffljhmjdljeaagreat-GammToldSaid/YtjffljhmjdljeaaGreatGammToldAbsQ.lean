/- Literals as rows of the call's own; append of what may be nothing. -/
import Derived.Test.YtjffljhmjdljeaaGreatGammToldAbsP
set_option linter.unusedVariables false
set_option linter.unusedSimpArgs false
namespace Go.Abs
section
variable {α:Type} {P:Program} {ops:Array Oper} {o:Oper} {N:Nat} {s:St}
theorem Conc.relen {E:Ent} {N:Nat} {L:List (Nat × Option AV)} {M:List (Nat × VS)} {a:Act} {w:World} (h:Conc E N (mkS L M) a w) (t m:Nat) {x sz off n:Nat} (ht:lk L t=some (.row x sz off n)) (e:n=m):Conc E N (mkS ((t,some (.row x sz off m)) :: L) M) a w:=by
 subst e
 exact Conc.noV (h.put1 (x:=0) ht rfl (AVle.refl _) (.refl _))
theorem zxk (K:Kd α) (T e len z:Nat) (parts:Array (Nat × Operand)) (zs:List AV) (pa:List (Nat × AV)) (l:List α) (ho:o.op = .buildSlice T len parts) (hT:P.underlying T=some (.slice e)) (hz:qR P e zs)
  (hsz:(P.info? e).map (·.size)=some K.sz) (hzl:zs.length=K.sz) (hd:dlt o N=true) (hw:wnt ops o s.G=some true) (hfr:s.V z = .fresh) (h24:len*K.sz≤16777216) (h0:0<len) (h0':0<K.sz)
  (hp:parts.toList.map (fun p=>(p.1,opd s.G p.2))=pa.map fun p=>(p.1,some p.2)) (hf:zcg (fun i=>some (i*K.sz,K.sz)) (Z8 zs (len*K.sz)) pa=some (l.map K.enc).flatten) (hl:l.length=len) :
  Snd P ops o N s ⟨gsl ops o++(parts.toList.map (·.2)).flatMap opr,o.dst,some (.row z K.sz 0 l.length),[z],[(z,rwK K e l)]⟩:=by
 refine qY (fun t ht=>List.mem_append_left _ ht) hw ?_
 intro E s' hag a w A I c
 have hz':s'.V z = .fresh:=(hag.2 z wb).trans hfr
 obtain ⟨i,z0,hi,hzz,hsz2,hz⟩:=hz
 have hs:i.size=K.sz:=by simpa [hi] using hsz
 obtain ⟨h1,h2⟩:=zm3 c hag parts.toList pa hp fun t ht=>List.mem_append_right _ ht
 have hpos:0<len*K.sz:=Nat.mul_pos h0 h0'
 have hfill:=fun (w:World) (A:Nat→Option Nat) (I:Nat→Prop) (hq)=>zm2 (w:=w) (A:=A) (I:=I) (fun i=>some (i*K.sz,K.sz)) pa _ (Z8 zs (len*K.sz)) _ _ (zm4 hsz2 hz (len*K.sz) (.inr wa)) h1 hq hf
 obtain ⟨arr,g1,g2⟩:=hfill w A I h2
 have hev:Even K.sz (l.map K.enc):=K.even l
 have hfl:=zqV hev
 rw [List.length_map] at hfl
 refine ⟨.slice (some ⟨w.heap.size,0,none⟩) len len,w.alloc (.cells arr e (0,0)),upd A z (some w.heap.size),I,?_,c.alloc z hz' (.cells arr e (0,0)) (rwK K e l) o.dst (some (.row z K.sz 0 l.length)) _ (qA hd) (fun v hv=>?_) fun u=>?_⟩
 ·have hzv:(zeroValue e).run P w = .ok z0 w:=by simp [zeroValue,typeInfo,hi,hzz]
  have hso:(sizeOf e).run P w = .ok K.sz w:=by simp [sizeOf,typeInfo,hi,hs]
  have hrun:(Instr.buildSlice T len (parts.map fun p=>(p.1,a.eval p.2))).run P w = .ok (.slice (some ⟨w.heap.size,0,none⟩) len len) (w.alloc (.cells arr e (0,0))):=by
   unfold Instr.buildSlice
   simp only [Sem.run_bind,run_underlying hT,Result.andThen_ok,hso]
   have hn0:¬len*K.sz=0:=wa
   have hn24:¬len*K.sz>2 ^ 24:=by simp; omega
   simp only [hn24,hn0,if_false,Sem.run_bind,hzv,Result.andThen_ok,Array.toList_map,g1,Sem.run_pure]
   simp [newRow,newObj]
   rfl
  simp only [execOp,ho,Sem.run_bind]
  have hrun':(Instr.buildSlice T len (parts.map fun (i,x)=>(i,a.eval x))).run P w = .ok (.slice (some ⟨w.heap.size,0,none⟩) len len) (w.alloc (.cells arr e (0,0))):=hrun
  rw [hrun']
  simp
 ·cases hv
  rw [hl]
  exact .row z K.sz 0 len len w.heap.size arr e (0,0) _ (zT _ _ _) (QE w _) (Nat.le_refl _) (fun _=>wb) (by rw [g2.1,hfl,hl]; simp) (by
   have:len≤len*K.sz:=Nat.le_mul_of_pos_right _ h0'
   simp only [maxLen]; omega)
 ·refine ⟨w.heap.size,arr,zT _ _ _,QE w _,hev,by rw [g2.1,hfl,List.length_map]; exact Nat.le_refl _,fun p j hp hj=>?_,fun h=>Nat.lt_irrefl _ (c.imm _ h),.inr c.frm.size⟩
  have hlt:p*K.sz+(j+1)≤(l.map K.enc).length*K.sz:=Zo hp hj
  rw [← zqU hev p j hp hj]
  exact u.rep (g2.2 (p*K.sz+j) (by rw [hfl]; rw [List.length_map] at hlt; omega))
def copyN (X l:List α):Nat:=if l.length≤X.length then l.length else X.length
def Zz (X l:List α):List α:=l.take (copyN X l)++X.drop (copyN X l)
theorem zrl (X l:List α):(Zz X l).length=X.length:=by
 unfold Zz copyN
 split<;>simp<;>omega
theorem zxl (K:Kd α) (T e:Nat) (U:TypeId) (x y:Operand) (xn:Nat) (X l:List α) (ho:o.op = .call ⟨.builtin .copy,#[x,y],#[T,U]⟩) (hT:P.underlying T=some (.slice e)) (hsz:(P.info? e).map (·.size)=some K.sz)
  (hd:dlt o N=true) (hw:wnt ops o s.G=some true) (hx:opd s.G x=some (.row xn K.sz 0 X.length)) (hX:s.V xn=rwK K e X) (hy:opd s.G y=some (slK K l)) :
  Snd P ops o N s ⟨gsl ops o++[x,y].flatMap opr,o.dst,some (.int .i64 (copyN X l:Nat)),[xn],[(xn,rwK K e (Zz X l))]⟩:=by
 have:=zw6 K T e U x y xn 0 X.length (copyN X l) X l ho hT hsz hd hw hx hX wa hy rfl
 have e1:X.take 0++l.take (copyN X l)++X.drop (0+(l.take (copyN X l)).length)=Zz X l:=by
  unfold Zz copyN
  simp only [List.take_zero,List.nil_append,Nat.zero_add,List.length_take]
  congr 2
  split<;>omega
 rw [e1] at this
 exact this
theorem zxm (K:Kd α) {T e:Nat} {w:World} {A:Nat→Option Nat} {I:Nat→Prop} {z n:Nat} {x y:Operand} {ρ:Operand→Value} (ho:o.op = .call ⟨.builtin .append,#[x,y],#[T,T]⟩) (hT:P.underlying T=some (.slice e)) (hsz:(P.info? e).map (·.size)=some K.sz)
  (h0:Rep w A I (.row z K.sz 0 n) (ρ x)) (h1:Rep w A I (slK K []) (ρ y)):(execOp ρ o).run P w = .ok (.value (ρ x)) w:=by
 have hso:(sizeOf e).run P w = .ok K.sz w:=by
  cases hi:P.info? e with
  | none=>rw [hi] at hsz; cases hsz
  | some i=>rw [hi] at hsz; simp [sizeOf,typeInfo,hi]; simpa using hsz
 generalize hq:ρ x=q at h0
 generalize hp:ρ y=p at h1
 have hfirst:∀ (b:Option Addr) (cap:Nat),(Builtin.firstCells K.sz 0 (.slice b 0 cap)).run P w = .ok #[] w:=by
  intro b cap
  cases b with
  | none=>simp [Builtin.firstCells]
  | some b=>simpa using run_firstCells_some (P:=P) w K.sz 0 b 0 cap [] wb (fun j v h=>by simp at h)
 cases h0 with
 | row _ _ _ _ capx b arr U fr adx hA hb hnc ha hc hm=>
  have hlz:∀ p,Rep w A I (slK K []) p→∃ ad cap,p = .slice ad 0 cap:=by
   intro p hp
   unfold slK at hp
   simp only [List.map_nil] at hp
   cases hp with
   | sl0 ad cap=>exact ⟨ad,cap,rfl⟩
   | sl _ _ _ _ _ _ _ _ _ _ h0=>simp at h0
  obtain ⟨ad,cap,rfl⟩:=hlz p h1
  have hrun:(Builtin.append_ #[T,T] o.type #[.slice adx n capx,.slice ad 0 cap]).run P w = .ok (.slice adx n capx) w:=by
   unfold Builtin.append_
   simp only [List.getElem?_toArray,List.getElem?_cons_zero,List.getElem?_cons_succ]
   cases adx with
   | none=>simp [Sem.run_bind,run_underlying hT,hso,Builtin.lenOf,hfirst,hnc]
   | some adv=>simp [Sem.run_bind,run_underlying hT,hso,Builtin.lenOf,hfirst,hnc,storeCells]
  simp only [execOp,ho,resolve,invoke,builtin,Sem.run_bind,Sem.run_pure,Result.andThen_ok]
  have e1:Array.map ρ #[x,y] = #[.slice adx n capx,.slice ad 0 cap]:=by simp [hq,hp]
  rw [e1,hrun]
  simp
theorem zxn (K:Kd α) (T e bytes:Nat) (x y:Operand) (xn z:Nat) (X l:List α) (ho:o.op = .call ⟨.builtin .append,#[x,y],#[T,T]⟩) (hT:P.underlying T=some (.slice e)) (hz:qR P e (K.enc K.z))
  (hsz:(P.info? e).map (fun i=>(i.size,i.bytes))=some (K.sz,bytes)) (hd:dlt o N=true) (hw:wnt ops o s.G=some true) (hfr:s.V z = .fresh)
  (hx:opd s.G x=some (.row xn K.sz 0 X.length)) (hX:s.V xn=rwK K e X) (hy:opd s.G y=some (slK K l)) (h:X.length+l.length≤9223372036854775807∧(X.length+l.length)*bytes≤140737488355328) :
  Snd P ops o N s ⟨gsl ops o++[x,y].flatMap opr,o.dst,some (.row z K.sz 0 (X++l).length),[z,xn],[(z,rwK K e (X++l)),(xn,.dead)]⟩:=by
 cases l with
 | cons c l=>exact zg4 K T e bytes x y xn z X (c :: l) ho hT hz hsz hd hw hfr hx hX hy ⟨Nat.succ_pos _,h⟩
 | nil=>
  refine qY (fun t ht=>List.mem_append_left _ ht) hw ?_
  intro E s' hag a w A I c
  have hz':s'.V z = .fresh:=(hag.2 z wb).trans hfr
  have hXn:s'.V xn=rwK K e X:=(hag.2 xn wb).trans hX
  have hne:z≠xn:=by rintro rfl; rw [hz'] at hXn; cases hXn
  have hx':=c.opd ((qo hag x fun t ht=>List.mem_append_right _ (by simp; exact .inl ht)).trans hx)
  have hy':=c.opd ((qo hag y fun t ht=>List.mem_append_right _ (by simp; exact .inr ht)).trans hy)
  have hsz':(P.info? e).map (·.size)=some K.sz:=by
   cases hi:P.info? e with
   | none=>rw [hi] at hsz; cases hsz
   | some i=>rw [hi] at hsz; simp at hsz ⊢; exact hsz.1
  have hrun:=zxm (P:=P) (o:=o) K ho hT hsz' hx' hy'
  obtain ⟨u,c1⟩:=c.rename xn z (by rw [hXn]; trivial) hz'
  have hV:upd (upd s'.V xn .dead) z (s'.V xn)=upd (upd s'.V xn .dead) z (rwK K e (X++[])):=by rw [hXn]; simp
  rw [hV] at c1
  have hr:Rep w (upd A z (A xn)) I (.row z K.sz 0 (X++[]).length) (a.eval x):=by
   simp only [List.append_nil]
   generalize a.eval x=q at hx'
   cases hx' with
   | row _ _ _ _ capx b arr U fr adx hA hb hnc ha hc hm=>exact .row z K.sz 0 _ capx b arr U fr adx ((zT _ _ _).trans hA) hb hnc ha hc hm
  have hc:=c1.pure o.dst (some (AV.row z K.sz 0 (X++([]:List α)).length)) (a.eval x) (qA hd) (fun v hv=>by cases hv; exact hr)
  exact ⟨a.eval x,w,upd A z (A xn),I,hrun,hc⟩
end
theorem T.guard {P:Program} {E:Ent} {N:Nat} {R:Type} {q:Option R} {s:St} {Q:R→Exit→Act→World→Prop} {c:Code} {p:Prop} [Decidable p] (h:p→T P E N q c s Q):T P E N (if p then q else none) c s Q:=fun r hr=>by
 by_cases hp:p
 ·rw [wc hp] at hr; exact h hp r hr
 ·rw [we hp] at hr; cases hr
theorem TQ.guard {E:Ent} {N:Nat} {R:Type} {q:Option R} {s:St} {Q:R→Exit→Act→World→Prop} {e:Exit} {p:Prop} [Decidable p] (h:p→TQ E N q e s Q):TQ E N (if p then q else none) e s Q:=fun r hr=>by
 by_cases hp:p
 ·rw [wc hp] at hr; exact h hp r hr
 ·rw [we hp] at hr; cases hr
end Go.Abs
