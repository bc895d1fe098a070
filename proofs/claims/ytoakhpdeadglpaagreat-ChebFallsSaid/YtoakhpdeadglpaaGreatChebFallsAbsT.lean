/- From how a row reads its arguments to what the walk asks of them. -/
import Derived.Test.YtoakhpdeadglpaaGreatChebFallsAbsS
import Derived.ChangeArms
import Derived.Below
import Derived.WideShapes
set_option linter.unusedVariables false
set_option linter.unusedSimpArgs false
namespace Go.Abs
def Old (w:World) (b:Nat):Prop:=b<w.heap.size
def Opn (P:Program) (T:TypeId) {α:Type} (K:Kd α) (good:α→Prop):Prop:=
 ∀ (H:Type) (enc:TypeId × Value→H) (w:World) (fuel:Nat) (cs:List Value) (x:DataW H × List MemPlace),DataW.trod enc P w 0 (fun _=>true) true fuel T cs=some x→
  ∃ a,good a∧cs.length=K.sz∧∀ j,j<K.sz→Rep w (fun _=>none) (Old w) ((K.enc a).getD j .nilptr) (cs.getD j undef)
section
variable {P:Program} {T:TypeId}
def OpnS (P:Program) (T:TypeId) (S:List AV→Prop) (n:Nat):Prop:=
 ∀ (H:Type) (enc:TypeId × Value→H) (w:World) (fuel:Nat) (cs:List Value) (x:DataW H × List MemPlace),DataW.trod enc P w 0 (fun _=>true) true fuel T cs=some x→
  ∃ l,S l∧l.length=n∧cs.length=n∧∀ j,j<n→Rep w (fun _=>none) (Old w) (l.getD j .nilptr) (cs.getD j undef)
theorem Opn.s {α:Type} {K:Kd α} {good:α→Prop} (h:Opn P T K good):OpnS P T (fun l=>∃ a,good a∧l=K.enc a) K.sz:=by
 intro H enc w fuel cs x hx
 obtain ⟨a,h1,h2,h3⟩:=h H enc w fuel cs x hx
 exact ⟨K.enc a,⟨a,h1,rfl⟩,K.len a,h2,h3⟩
theorem OpnS.k {α:Type} {K:Kd α} {good:α→Prop} {S:List AV→Prop} (h:OpnS P T S K.sz) (hS:∀ l,S l→∃ a,good a∧l=K.enc a):Opn P T K good:=by
 intro H enc w fuel cs x hx
 obtain ⟨l,h1,h2,h3,h4⟩:=h H enc w fuel cs x hx
 obtain ⟨a,g1,rfl⟩:=hS l h1
 exact ⟨a,g1,h3,h4⟩
def CatS:List (List AV→Prop)→List AV→Prop
 | [],l=>l=[]
 | S :: Ss,l=>∃ l1 l2,S l1∧CatS Ss l2∧l=l1++l2
inductive FieldsO (P:Program):Nat→List Field→List (List AV→Prop)→Nat→Prop
 | nil (off:Nat):FieldsO P off [] [] off
 | cons {off n tot:Nat} {f:Field} {fs:List Field} {S:List AV→Prop} {Ss:List (List AV→Prop)} (ho:f.offset=off) (h:OpnS P f.type S n) (hc:P.cellsOf f.type=n) (k:FieldsO P (off+n) fs Ss tot):FieldsO P off (f :: fs) (S :: Ss) tot
theorem FieldsO.run {H:Type} {enc:TypeId × Value→H} {w:World} {m:Nat} {cs:List Value} {off tot:Nat} {fs:List Field} {Ss:List (List AV→Prop)} (h:FieldsO P off fs Ss tot) :
  (∀ (i:Nat) (f:Field),fs[i]? = some f→∃ x,DataW.trod enc P w 0 (fun _=>true) true m f.type ((cs.drop f.offset).take (P.cellsOf f.type))=some x)→
  ∃ l,CatS Ss l∧off+l.length=tot∧∀ j,j<l.length→Rep w (fun _=>none) (Old w) (l.getD j .nilptr) (cs.getD (off+j) undef):=by
 induction h with
 | nil off=>intro _; exact ⟨[],rfl,by simp,fun j hj=>by simp at hj⟩
 | @cons off n tot f fs S Ss ho h hc k ih=>
  intro hx
  obtain ⟨x,hx0⟩:=hx 0 f rfl
  obtain ⟨l1,g1,g2,g3,g4⟩:=h H enc w m _ x hx0
  obtain ⟨l2,k1,k2,k3⟩:=ih fun i f' hf=>hx (i+1) f' (by simpa using hf)
  refine ⟨l1++l2,⟨l1,l2,g1,k1,rfl⟩,by simp; omega,fun j hj=>?_⟩
  by_cases hj1:j<l1.length
  ·have e1:(l1++l2).getD j .nilptr=l1.getD j .nilptr:=by simp [List.getD,List.getElem?_append_left hj1]
   have:=g4 j (by omega)
   have e2:((cs.drop f.offset).take (P.cellsOf f.type)).getD j undef=cs.getD (off+j) undef:=by
    simp only [List.getD]
    rw [List.getElem?_take_of_lt (by omega),List.getElem?_drop,ho]
   rw [e1,← e2]; exact this
  ·have e1:(l1++l2).getD j .nilptr=l2.getD (j-l1.length) .nilptr:=by simp [List.getD,List.getElem?_append_right (Nat.le_of_not_lt hj1)]
   have:=k3 (j-l1.length) (by simp at hj; omega)
   have e2:off+n+(j-l1.length)=off+j:=by omega
   rw [e2] at this
   rw [e1]; exact this
end
theorem ACalls.law {P:Program} {f:FuncId} {args:List AV} {b:Bool} (h:ACalls P f args (lw []) (.bool b) (ld [])) (w:World) (vals:Array Value) (hs:vals.size=args.length)
  (hr:∀ i,i<args.length→Rep w (fun _=>none) (Old w) (args.getD i .nilptr) (vals.getD i undef)):Calls P f vals w fun e w'=>e = .returned (.bool b)∧Go.RowKit.Below w.heap.size w w':=by
 have hfr:∀ x,lw [] x=VS.fresh:=fun x=>lw_out [] x (Nat.zero_le _)
 have hno:∀ k,¬own0 (lw []) (fun _=>none) k:=by rintro k ⟨x,hx,_⟩; rw [hfr x] at hx; exact hx
 refine (h w (fun _=>none) (Old w) vals hs hr { hv:=fun x=>?_,inj:=fun x y b hx=>?_,imm:=fun b hb=>hb }).mono ?_
 ·rw [hfr x]; rfl
 ·rw [hfr x] at hx; exact hx.elim
 ·rintro e w' ⟨v,A',I',rfl,hv,_,fr⟩
  cases hv
  exact ⟨rfl,⟨fr.os,fr.tape,fr.out,fr.size,fun k hk=>fr.keep k hk (hno k)⟩⟩
theorem Opn.agg {P:Program} {T:TypeId} {α:Type} {K:Kd α} {good:α→Prop} (h:Opn P T K good) {fs:Array Field} (hT:P.underlying T=some (.struct fs)) {H:Type} {enc:TypeId × Value→H} {w:World} {r:Reach} {b0:Nat} {v:Value} {d:DataW H} {ps:List MemPlace}
  (hv:Value.okWide P w r b0 T v) (ht:DataW.Trod enc P w 0 (fun _=>true) true T v d ps):∃ a,good a∧Rep w (fun _=>none) (Old w) (.agg (K.enc a)) v:=by
 obtain ⟨cs,rfl,_⟩:=Go.WideShapes.okWide_struct hT hv
 obtain ⟨fuel,hf⟩:=ht
 obtain ⟨a,h1,h2,h3⟩:=h H enc w fuel _ _ hf
 have hc:(Value.agg cs).cells.toList=cs.toList:=rfl
 rw [hc] at h2 h3
 refine ⟨a,h1,.agg _ cs (by rw [K.len]; simpa using h2) fun i hi=>?_⟩
 rw [K.len] at hi
 have:=h3 i hi
 have e:cs.getD i undef=cs.toList.getD i undef:=by simp [Array.getD_eq_getD_getElem?,List.getD]
 rw [e]; exact this
theorem Opn.int {P:Program} {T:TypeId} {k:IntKind} (hT:P.underlying T=some (.int k)) {H:Type} {enc:TypeId × Value→H} {w:World} {r:Reach} {b0:Nat} {v:Value} {d:DataW H} {ps:List MemPlace}
  (hv:Value.okWide P w r b0 T v) (ht:DataW.Trod enc P w 0 (fun _=>true) true T v d ps):∃ n,(Lit.int k n).wf=true∧Rep w (fun _=>none) (Old w) (.int k n) v:=by
 obtain ⟨n,rfl⟩:=Go.WideShapes.okWide_int hT hv
 obtain ⟨fuel,hf⟩:=ht
 obtain ⟨n',h,_,hw⟩:=DataW.trod_int hT hf
 simp [Value.cells] at h
 subst h
 exact ⟨n,hw,.int k n⟩
theorem Opn.bool {P:Program} {T:TypeId} (hT:P.underlying T=some .bool) {H:Type} {enc:TypeId × Value→H} {w:World} {r:Reach} {b0:Nat} {v:Value} {d:DataW H} {ps:List MemPlace}
  (hv:Value.okWide P w r b0 T v) (_ht:DataW.Trod enc P w 0 (fun _=>true) true T v d ps):∃ n:Bool,True∧Rep w (fun _=>none) (Old w) (.bool n) v:=by
 obtain ⟨n,rfl⟩:=Go.WideShapes.okWide_bool hT hv
 exact ⟨n,trivial,.bool n⟩
def Reps (w:World):List AV→List Value→Prop
 | [],[]=>True
 | a :: l,v :: r=>Rep w (fun _=>none) (Old w) a v∧Reps w l r
 | _,_=>False
theorem Reps.spec {w:World} : ∀ {l:List AV} {r:List Value},Reps w l r→r.length=l.length∧∀ i,i<l.length→Rep w (fun _=>none) (Old w) (l.getD i .nilptr) (r.getD i undef)
 | [],[],_=>⟨rfl,fun i h=>by simp at h⟩
 | a :: l,v :: r,h=>by
  obtain ⟨h1,h2⟩:=h
  obtain ⟨k1,k2⟩:=Reps.spec h2
  refine ⟨by simp [k1],fun i hi=>?_⟩
  cases i with
  | zero=>exact h1
  | succ i=>simpa using k2 i (by simpa using hi)
 | [],_ :: _,h=>h.elim
 | _ :: _,[],h=>h.elim
theorem ACalls.row {P:Program} {f:FuncId} {args:List AV} {b:Bool} (h:ACalls P f args (lw []) (.bool b) (ld [])) (w:World) (vals:List Value) (hr:Reps w args vals) :
  Calls P f vals.toArray w fun e w'=>e = .returned (.bool b)∧Go.RowKit.Below w.heap.size w w':=by
 obtain ⟨h1,h2⟩:=hr.spec
 refine h.law w vals.toArray (by simpa using h1) fun i hi=>?_
 have e:vals.toArray.getD i undef=vals.getD i undef:=by simp [Array.getD_eq_getD_getElem?,List.getD]
 rw [e]; exact h2 i hi
end Go.Abs
