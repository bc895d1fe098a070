/- Functions as values: what they capture stands still; which one it is may be left open. Strings. -/
import Derived.Test.YtjffljhmjdljeaaGreatGammToldAbsZ
set_option linter.unusedVariables false
set_option linter.unusedSimpArgs false
namespace Go.Abs
section
variable {P:Program} {ops:Array Oper} {o:Oper} {N:Nat} {s:St}
theorem zxw (T:TypeId) (y:Operand) (v:AV) (ho:o.op = .box T y) (hd:dlt o N=true) (hw:wnt ops o s.G=some true) (hv:opd s.G y=some v) (ht:∀ l,v ≠ .tup l) :
  Snd P ops o N s ⟨gsl ops o++[y].flatMap opr,o.dst,some (.iptr v.cellsOf),[],[]⟩:=by
 refine qY (fun t ht=>List.mem_append_left _ ht) hw ?_
 intro E s' hag a w A I c
 have hv':opd s'.G y=some v:=(qo hag y fun t ht=>List.mem_append_right _ (by simpa using ht)).trans hv
 have hr:=(c.opd hv').cells ht
 refine ⟨.pointer (some ⟨w.heap.size,0,none⟩),w.alloc (.cells (a.eval y).cells T (0,0)),A,_,?_,c.still (.cells (a.eval y).cells T (0,0)) o.dst (some (.iptr v.cellsOf)) _ (qA hd) fun u z hz=>?_⟩
 ·simp only [execOp,ho]
  have:(Instr.box T (a.eval y)).run P w = .ok (.pointer (some ⟨w.heap.size,0,none⟩)) (w.alloc (.cells (a.eval y).cells T (0,0))):=by
   simp [Instr.box,newVar,newRow,newObj]
   rfl
  simp only [Sem.run_bind,this,Result.andThen_ok,Sem.run_pure]
 ·cases hz
  exact .iptr _ w.heap.size 0 _ T (0,0) (.inr rfl) (QE w _) (by have:=hr.1; omega) (fun j hj=>by rw [Nat.zero_add]; exact u.rep (hr.2 j hj))
theorem zxx (T U:TypeId) (x y:Operand) (b c:ByteArray) (ho:o.op = .binOp .eql T x y U) (hd:dlt o N=true) (hw:wnt ops o s.G=some true)
  (hx:opd s.G x=some (.str b)) (hy:opd s.G y=some (.str c)):Snd P ops o N s ⟨gsl ops o++[x,y].flatMap opr,o.dst,some (.bool (b.toList == c.toList)),[],[]⟩:=
 qm [x,y] [.str b,.str c] _ hd hw (by simp [hx,hy]) fun ρ w A I h=>by
  have h0:=h 0 wb
  have h1:=h 1 wb
  simp at h0 h1
  generalize hq:ρ x=q at h0
  generalize hp:ρ y=p at h1
  cases h0
  cases h1
  exact ⟨_,by simp [execOp,ho,hq,hp,eqGuard,binOp,Op.stringOp],.bool _⟩
end
inductive Lef:List AV→List AV→Prop
 | nil:Lef [] []
 | f {f:FuncId} {a c l r:List AV} (h:Lef l r):Lef (.fn f a c :: l) (.anyf :: r)
 | z {l r:List AV} (h:Lef l r):Lef (.nilfn :: l) (.anyf :: r)
 | s {v:AV} {l r:List AV} (h:Lef l r):Lef (v :: l) (v :: r)
section
variable {P:Program} {E:Ent} {N m:Nat} {R:Type} {o:Option R} {c:Ctl} {L:LG} {M:LV} {k:List (Fr R)} {Q:R→Exit→Act→World→Prop} {tb:List (Nat × TE)}
theorem bxi {a:Array Oper} {op:Oper} {T:TypeId} {y:Operand} {v:AV} {cs:List AV} (h:(op.op,dlt op N,wnt a op (lk L),opd (lk L) y,cellsO v)=(.box T y,true,some true,some v,some cs)) :
  Snd P a op N (mkS L M) ⟨gsl a op++[y].flatMap opr,op.dst,some (.iptr cs),[],[]⟩:=by
 simp only [Prod.mk.injEq] at h
 obtain ⟨k1,k2⟩:=zjS h.2.2.2.2
 have hs:=zxw (P:=P) (s:=mkS L M) T y v h.1 h.2.1 h.2.2.1 h.2.2.2.1 (AV.not_tup k2)
 rw [k1]
 exact hs
theorem seq {a:Array Oper} {op:Oper} {T U:TypeId} {x y:Operand} {s t:ByteArray} (h:(op.op,dlt op N,wnt a op (lk L),opd (lk L) x,opd (lk L) y)=(.binOp .eql T x y U,true,some true,some (.str s),some (.str t))) :
  Snd P a op N (mkS L M) ⟨gsl a op++[x,y].flatMap opr,op.dst,some (.bool (s.toList == t.toList)),[],[]⟩:=by
 simp only [Prod.mk.injEq] at h
 exact zxx T U x y s t h.1 h.2.1 h.2.2.1 h.2.2.2.1 h.2.2.2.2
end
end Go.Abs
