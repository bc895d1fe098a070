/- Literals as rows of the call's own; append of what may be nothing. -/
import Derived.Test.YtoakhpdeadglpaaGreatChebFallsAbsP
set_option linter.unusedVariables false
set_option linter.unusedSimpArgs false
namespace Go.Abs
section
variable {α:Type} {P:Program} {ops:Array Oper} {o:Oper} {N:Nat} {s:St}
theorem Conc.relen {E:Ent} {N:Nat} {L:List (Nat × Option AV)} {M:List (Nat × VS)} {a:Act} {w:World} (h:Conc E N (mkS L M) a w) (t m:Nat) {x sz off n:Nat} (ht:lk L t=some (.row x sz off n)) (e:n=m):Conc E N (mkS ((t,some (.row x sz off m)) :: L) M) a w:=by
 subst e
 exact Conc.noV (h.put1 (x:=0) ht rfl (AVle.refl _) (.refl _))
def copyN (X l:List α):Nat:=if l.length≤X.length then l.length else X.length
def copyL (X l:List α):List α:=l.take (copyN X l)++X.drop (copyN X l)
theorem length_copyL (X l:List α):(copyL X l).length=X.length:=by
 unfold copyL copyN
 split<;>simp<;>omega
theorem snd_copyL (K:Kd α) (T e:Nat) (U:TypeId) (x y:Operand) (xn:Nat) (X l:List α) (ho:o.op = .call ⟨.builtin .copy,#[x,y],#[T,U]⟩) (hT:P.underlying T=some (.slice e)) (hsz:(P.info? e).map (·.size)=some K.sz)
  (hd:dlt o N=true) (hw:wnt ops o s.G=some true) (hx:opd s.G x=some (.row xn K.sz 0 X.length)) (hX:s.V xn=rwK K e X) (hy:opd s.G y=some (slK K l)) :
  Snd P ops o N s ⟨gsl ops o++[x,y].flatMap opr,o.dst,some (.int .i64 (copyN X l:Nat)),[xn],[(xn,rwK K e (copyL X l))]⟩:=by
 have:=snd_copyK K T e U x y xn 0 X.length (copyN X l) X l ho hT hsz hd hw hx hX (by omega) hy rfl
 have e1:X.take 0++l.take (copyN X l)++X.drop (0+(l.take (copyN X l)).length)=copyL X l:=by
  unfold copyL copyN
  simp only [List.take_zero,List.nil_append,Nat.zero_add,List.length_take]
  congr 2
  split<;>omega
 rw [e1] at this
 exact this
end
theorem T.guard {P:Program} {E:Ent} {N:Nat} {R:Type} {q:Option R} {s:St} {Q:R→Exit→Act→World→Prop} {c:Code} {p:Prop} [Decidable p] (h:p→T P E N q c s Q):T P E N (if p then q else none) c s Q:=fun r hr=>by
 by_cases hp:p
 ·rw [if_pos hp] at hr; exact h hp r hr
 ·rw [if_neg hp] at hr; cases hr
theorem TQ.guard {E:Ent} {N:Nat} {R:Type} {q:Option R} {s:St} {Q:R→Exit→Act→World→Prop} {e:Exit} {p:Prop} [Decidable p] (h:p→TQ E N q e s Q):TQ E N (if p then q else none) e s Q:=fun r hr=>by
 by_cases hp:p
 ·rw [if_pos hp] at hr; exact h hp r hr
 ·rw [if_neg hp] at hr; cases hr
end Go.Abs
