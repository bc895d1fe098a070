/- What each operation does to an abstract state: memory. -/
import Derived.Test.YtjffljhmjdljeaaGreatGammToldAbsE
set_option linter.unusedVariables false
set_option linter.unusedSimpArgs false
namespace Go.Abs
def AV.cellsOf:AV→List AV
 | .agg l=>l
 | v=>[v]
def AV.one:AV→Bool
 | .agg _ | .tup _=>false
 | _=>true
theorem Rep.cells {w:World} {A:Nat→Option Nat} {I:Nat→Prop} {v:AV} {x:Value} (h:Rep w A I v x) (hv:∀ l,v ≠ .tup l):x.cells.size=v.cellsOf.length∧∀ i,i<v.cellsOf.length→Rep w A I (v.cellsOf.getD i .nilptr) (x.cells.getD i undef):=by
 cases h with
 | agg cells vs hs hr=>exact ⟨hs,hr⟩
 | tup l=>exact absurd rfl (hv l)
 | anyf x h=>
  have e:x.cells = #[x]:=by rcases h with rfl | ⟨f,a,c,rfl⟩<;>rfl
  rw [e]
  refine ⟨rfl,fun i hi=>?_⟩
  have:i=0:=by simp [AV.cellsOf] at hi; omega
  subst this
  exact .anyf x h
 | _=>
  refine ⟨rfl,fun i hi=>?_⟩
  have:i=0:=by simp [AV.cellsOf] at hi; omega
  subst this
  simp only [AV.cellsOf,Value.cells,List.getD_cons_zero]
  first
   | exact .int _ _ | exact .bool _ | exact .str _ | exact .sl0 _ _ | exact .sl _ _ _ _ _ _ _ _ (by assumption) (by assumption) (by assumption) (by assumption) (by assumption) (by assumption) (by assumption)
   | exact .nilsl | exact .row _ _ _ _ _ _ _ _ _ _ (by assumption) (by assumption) (by assumption) (by assumption) (by assumption) (by assumption) | exact .ptr _ _ _ (by assumption) | exact .rptr _ _ _ _ _ (by assumption)
   | exact .iptr _ _ _ _ _ _ (by assumption) (by assumption) (by assumption) (by assumption) | exact .nilptr | exact .nilfn | exact .yl _ | exact .fn _ _ _ _ _ (by assumption) (by assumption) (by assumption) (by assumption)
theorem Rep.one {w:World} {A:Nat→Option Nat} {I:Nat→Prop} {v:AV} {x:Value} (h:Rep w A I v x) (hv:v.one=true):x.oneCell'=true:=by
 cases h with
 | anyf x h=>rcases h with e | ⟨f,a,c,e⟩<;>rw [e]<;>rfl
 | _=>first | rfl | cases hv
theorem zqN {w:World} {b:Nat} {arr:Array Value} {T:TypeId} {fr:Nat × Nat} (h:w.heap[b]? = some (.cells arr T fr)) (o n:Nat) (hn:o+n≤arr.size):w.rangeAt b o (arr.extract o (o+n)).toList:=by
 intro j v hj
 have hjl:j<n:=by
  have:=(List.getElem?_eq_some_iff.1 hj).1
  simp at this; omega
 simp only [World.cell?,h]
 rw [we wb]
 have:(arr.extract o (o+n))[j]? = arr[o+j]?:=by
  rw [Array.getElem?_extract]; rw [wc wa]
 rw [← this,← Array.getElem?_toList]; exact hj
theorem zmX {w:World} {b:Nat} {arr:Array Value} {T:TypeId} (h:w.heap[b]? = some (.cells arr T (0,0))) (o n:Nat) (hn:o+n≤arr.size):w.there b o n:=by
 intro j hj
 simp only [World.cell?,World.frozen?,h]
 refine ⟨?_,wb⟩
 rw [we wb,Array.getElem?_eq_getElem (show o+j<arr.size by omega)]; rfl
def Agg (P:Program) (T:TypeId) (n:Nat):Prop:=∃ d:TypeDesc,P.underlying T=some d∧d.isRow=true∧(P.info? T).map (·.size)=some n
def Sca (P:Program) (T:TypeId):Prop:=∃ d:TypeDesc,P.underlying T=some d∧d.isRow=false∧(P.info? T).map (·.size)=some 1
theorem zwq {P:Program} {T:TypeId} (h:Sca P T) (w:World) (a:Addr) (v:Value) (hc:w.cell? a=some v):(loadVar T a).run P w = .ok v w:=by
 obtain ⟨d,hd,hr,_⟩:=h
 have hagg:(isAgg T).run P w = .ok false w:=by
  unfold isAgg
  rw [Sem.run_bind,run_underlying hd w]
  cases d<;>simp_all
 simp only [loadVar,Sem.run_bind,hagg,Result.andThen_ok]
 simp [load,Sem.run,hc]
theorem zwr {P:Program} {T:TypeId} (h:Sca P T) (w:World) (b o:Nat) (v:Value) (ht:w.there b o 1) (h1:v.oneCell'=true):(storeVar T ⟨b,o,none⟩ v).run P w = .ok () (w.setCells b o [v]):=by
 obtain ⟨d,hd,hr,hi⟩:=h
 have hc:v.cells = #[v]:=by cases v<;>first | rfl | cases h1
 have:=run_storeCells_cells (P:=P) b o [v] 0 w (fun j hj=>by simpa using (ht j (by simpa using hj)).1) (fun j hj=>by simpa using (ht j (by simpa using hj)).2) (fun u hu=>by simp at hu; subst hu; exact h1)
 cases hq:P.info? T with
 | none=>simp [hq] at hi
 | some i=>
  have hs:i.size=1:=by simpa [hq] using hi
  simp only [Nat.add_zero] at this
  simp [storeVar,sizeOf,typeInfo,hq,hc,hs,this]
def ldA (cs:List AV) (o n:Nat):AV:=.agg ((cs.drop o).take n)
def ldS (cs:List AV) (o:Nat):AV:=cs.getD o .nilptr
theorem zmY (arr:Array Value) (o n i:Nat) (hi:i<n) (hn:o+n≤arr.size):(arr.extract o (o+n)).getD i undef=arr.getD (o+i) undef:=by
 simp only [Array.getD_eq_getD_getElem?]
 rw [Array.getElem?_extract,wc wa]
theorem zqO (cs:List AV) (o n i:Nat) (hi:i<n):((cs.drop o).take n).getD i .nilptr=cs.getD (o+i) .nilptr:=by
 simp only [List.getD]
 rw [List.getElem?_take_of_lt hi,List.getElem?_drop]
theorem zjy {P:Program} {T:TypeId} {n:Nat} (hT:Agg P T n) {w:World} {A:Nat→Option Nat} {I:Nat→Prop} {b o:Nat} {arr:Array Value} {U:TypeId} {fr:Nat × Nat} {cs:List AV} {k:Nat}
  (hb:w.heap[b]? = some (.cells arr U fr)) (hl:o+k+n≤arr.size) (hcs:k+n≤cs.length) (hr:∀ i,i<cs.length→Rep w A I (cs.getD i .nilptr) (arr.getD (o+i) undef)) :
  ∃ x,(loadVar T ⟨b,o+k,none⟩).run P w = .ok x w∧Rep w A I (ldA cs k n) x:=by
 obtain ⟨d,h1,h2,h3⟩:=hT
 refine ⟨_,run_loadVar_mid w b (o+k) T (arr.extract (o+k) (o+k+n)).toList d (zqN hb (o+k) n hl) h1 h2 (by rw [h3]; simp; omega),?_⟩
 refine .agg _ _ (by simp; omega) fun i hi=>?_
 have hin:i<n:=by simp at hi; omega
 rw [zqO _ _ _ _ hin]
 have:=hr (k+i) wa
 have e:(arr.extract (o+k) (o+k+n)).toList.toArray.getD i undef=arr.getD (o+(k+i)) undef:=by
  have:=zmY arr (o+k) n i hin hl
  rw [← Nat.add_assoc,Array.toArray_toList]; exact this
 rw [e]; exact this
theorem zjz {P:Program} {T:TypeId} (hT:Sca P T) {w:World} {A:Nat→Option Nat} {I:Nat→Prop} {b o:Nat} {arr:Array Value} {U:TypeId} {fr:Nat × Nat} {cs:List AV} {k:Nat}
  (hb:w.heap[b]? = some (.cells arr U fr)) (hl:o+k<arr.size) (hcs:k<cs.length) (hr:∀ i,i<cs.length→Rep w A I (cs.getD i .nilptr) (arr.getD (o+i) undef)) :
  ∃ x,(loadVar T ⟨b,o+k,none⟩).run P w = .ok x w∧Rep w A I (ldS cs k) x:=by
 refine ⟨arr.getD (o+k) undef,zwq hT w _ _ ?_,hr k hcs⟩
 simp only [World.cell?,hb]
 rw [we wb]
 simp [Array.getD,hl]
def splA (cs:List AV) (o:Nat) (l:List AV):List AV:=cs.take o++l++cs.drop (o+l.length)
theorem zgZ (cs:List AV) (o:Nat) (l:List AV) (h:o+l.length≤cs.length):(splA cs o l).length=cs.length:=by
 simp [splA]; omega
theorem zmZ (cs:List AV) (o:Nat) (l:List AV) (h:o+l.length≤cs.length) (i:Nat):(splA cs o l).getD i .nilptr=if o≤i∧i<o+l.length then l.getD (i-o) .nilptr else cs.getD i .nilptr:=by
 simp only [splA,List.getD]
 by_cases h1:i<o
 ·rw [we wa,List.append_assoc,List.getElem?_append_left (by simp; omega),List.getElem?_take_of_lt h1]
 ·by_cases h2:i<o+l.length
  ·rw [wc ⟨wa,h2⟩,List.append_assoc,List.getElem?_append_right (by simp; omega),List.getElem?_append_left (by simp; omega)]
   congr 2; simp; omega
  ·rw [we wa,List.getElem?_append_right (by simp; omega),List.getElem?_drop]
   congr 2; simp; omega
end Go.Abs
